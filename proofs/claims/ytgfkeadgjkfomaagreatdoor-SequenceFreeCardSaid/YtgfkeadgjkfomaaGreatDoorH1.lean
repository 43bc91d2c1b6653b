/- Part 1 of the proofs that: without rules, and with holds that can take everything, any order of steps that only put in is one -/
import Derived.WalkKit
import Derived.OrdersHeld
import Derived.Below
import Derived.Laws.Entries
set_option linter.unusedVariables false
set_option linter.unusedSimpArgs false
namespace Go.Proofs.YtgfkeadgjkfomaaGreatDoor.Vc
open Go Go.RowKit

inductive SV where
 |v (x:Value)
 |t
 |f
 |p (q:Prop) (h:Decidable q)
 |loc (l off:Nat)
 |u

def SV.val:SV->Option Value
 | .v x=>some x
 | .t=>some (.bool true)
 | .f=>some (.bool false)
 | .p q h=>some (.bool (@decide q h))
 | .loc _ _=>none
 | .u=>none

def SV.den(b:Nat->Nat):SV->Value
 | .v x=>x
 | .t=> .bool true
 | .f=> .bool false
 | .p q h=> .bool (@decide q h)
 | .loc l off=> .pointer (some ⟨b l,off,none⟩)
 | .u=>undef

abbrev Env:=List (Nat×SV)

def get:Env->Nat->Option SV
 |[],_=>none
 |x::r,s=>match Nat.beq x.1 s with
  |true=>some x.2
  |false=>get r s

def drop:Env->Nat->Env
 |[],_=>[]
 |x::r,s=>match Nat.beq x.1 s with
  |true=>drop r s
  |false=>x::drop r s

def SV.isLoc(l:Nat):SV->Bool
 | .loc k _=>Nat.beq k l
 |_=>false

def dropLoc:Env->Nat->Env
 |[],_=>[]
 |x::r,l=>match x.2.isLoc l with
  |true=>drop (dropLoc r l) x.1
  |false=>x::dropLoc r l

structure Box where
 lab:Nat
 new:Bool
 ty:Nat
 cells:List Value

def getBox:List Box->Nat->Option Box
 |[],_=>none
 |x::r,l=>match Nat.beq x.lab l with
  |true=>some x
  |false=>getBox r l

def dropBox:List Box->Nat->List Box
 |[],_=>[]
 |x::r,l=>match Nat.beq x.lab l with
  |true=>dropBox r l
  |false=>x::dropBox r l

structure St where
 env:Env
 boxes:List Box
 w:World
 d:Option (List Nat)

structure Ext (B:Nat) (ts:List Nat) (w w':World):Prop where
 below:Below B w w'
 other:∀k,k<w.heap.size->w'.heap[k]? =w.heap[k]?∨∃t∈ts,∃c c' fr,w.heap[k]? =some (.cells c t fr)/\w'.heap[k]? =some (.cells c' t fr)

def CellsAt(w:World)(a:Addr)(vs:List Value):Prop:=∀i,(h:i<vs.length)->w.cell? (a.add i)=some vs[i]

def Pure(P:Program)(f:FuncId)(args:Array Value)(w:World)(R:Value->World->Prop):Prop:=
 Calls P f args w fun e w'=>∃v,e= .returned v/\Below w.heap.size w w'/\R v w'

def PureB(P:Program)(f:FuncId)(args:Array Value)(B:Nat)(w:World)(R:Value->World->Prop):Prop:=
 Calls P f args w fun e w'=>∃v,e= .returned v/\Below B w w'/\R v w'

def Pt(P:Program)(f:FuncId)(todo:List Item)(T:Array Value)(w:World)(R:Ending->World->Prop):Prop:=
 ∀cs,∃e w' fr,R e w'/\Comes P (lone (({(default:Frame)with fn:=f,kind:= .normal}:Frame).at ⟨T,[]⟩ todo) cs w) (lone fr cs w') e/\fr.fn=f/\fr.leaving P w' e

def EnvOk(b:Nat->Nat)(env:Env)(T:Array Value):Prop:=∀s x,get env s=some x->T[s]? =some (x.den b)

structure BoxOk (b:Nat->Nat) (B:Nat) (boxes:List Box) (w:World):Prop where
 at_:∀l x,getBox boxes l=some x->B<=b l/\w.heap[b l]? =some (.cells x.cells.toArray x.ty (0,0))
 ne:∀l m x y,getBox boxes l=some x->getBox boxes m=some y->l≠m->b l≠b m

def Out(B:Nat)(w:World)(R:Value->World->Prop):Ending->World->Prop:=fun e w'=>∃v,e= .returned v/\Below B w w'/\R v w'

def At(P:Program)(f:FuncId)(N:Nat)(todo:List Item)(env:Env)(boxes:List Box)(B:Nat)(w:World)(R:Value->World->Prop):Prop:=
 ∀b T,T.size=N->EnvOk b env T->BoxOk b B boxes w->B<=w.heap.size->Pt P f todo T w (Out B w R)

inductive Lf where
 |int (k:IntKind)|bool|str|slice|func|map|ptr|any
inductive S1 where
 |one (l:Lf)|agg (ls:List Lf)
inductive Sh where
 |s (x:S1)|tup (l:List S1)

def exLf:Lf->(Value->Prop)->Prop
 | .int k,K=>∃n:Int,K (.int k n)
 | .bool,K=>∃b:Bool,K (.bool b)
 | .str,K=>∃s:ByteArray,K (.string s)
 | .slice,K=>∃(A:Option Addr)(n c:Nat),K (.slice A n c)
 | .func,K=>∃(f:Nat)(a c:Array Value),K (.func (.func f) a c)
 | .map,K=>∃r:Option Nat,K (.map r)
 | .ptr,K=>∃a:Option Addr,K (.pointer a)
 | .any,K=>∃v,K v
def exLfs:List Lf->(List Value->Prop)->Prop
 |[],K=>K []
 |l::r,K=>exLf l fun v=>exLfs r fun vs=>K (v::vs)
def exS1:S1->(Value->Prop)->Prop
 | .one l,K=>exLf l K
 | .agg ls,K=>exLfs ls fun vs=>K (.agg vs.toArray)
def exS1s:List S1->(List Value->Prop)->Prop
 |[],K=>K []
 |l::r,K=>exS1 l fun v=>exS1s r fun vs=>K (v::vs)
def exSh:Sh->(Value->Prop)->Prop
 | .s x,K=>exS1 x K
 | .tup l,K=>exS1s l fun vs=>K (.tuple vs.toArray)

def lfs(P:Program):Nat->TypeId->List Lf
 |0,_=>[.any]
 |n+1,t=>match P.underlying t with
  |some (.int k)=>[.int k]
  |some .bool=>[.bool]
  |some .string=>[.str]
  |some (.slice _)=>[.slice]
  |some (.func _ _ _)=>[.func]
  |some (.map _ _)=>[.map]
  |some (.pointer _)=>[.ptr]
  |some (.struct fs)=>fs.toList.flatMap fun f=>lfs P n f.type
  |some (.array m e)=>(List.replicate m (lfs P n e)).flatten
  |_=>[.any]
def isAggT(P:Program)(t:TypeId):Bool:=match P.underlying t with
 |some (.struct _)=>true
 |some (.array _ _)=>true
 |_=>false
def s1(P:Program)(t:TypeId):S1:=match isAggT P t with
 |true=> .agg (lfs P 8 t)
 |false=>match lfs P 8 t with
  |l::_=> .one l
  |[]=> .one .any
def sh(P:Program)(t:TypeId):Sh:=match P.underlying t with
 |some (.tuple ts)=> .tup (ts.toList.map (s1 P))
 |_=> .s (s1 P t)

structure Cx where
 P:Program
 f:FuncId
 N:Nat
 res:List ResultVar
 cuts:List ((Bool×Nat)×List Nat×List Nat)
 mode:List (Nat×Nat×Nat)
 w0:World
 B:Nat
 R:Value->World->Prop

def modeOf:List (Nat×Nat×Nat)->Nat->Nat->Nat
 |[],_,_=>0
 |(r,i,m)::l,r',i'=>match Nat.beq r r'&&Nat.beq i i' with
  |true=>m
  |false=>modeOf l r' i'

def cutOf:List ((Bool×Nat)×List Nat×List Nat)->Bool->Nat->Option (List Nat×List Nat)
 |[],_,_=>none
 |((b,n),x)::l,b',n'=>match (match b,b' with|true,true=>true|false,false=>true|_,_=>false)&&Nat.beq n n' with
  |true=>some x
  |false=>cutOf l b' n'

def ins(t:Nat):List Nat->List Nat
 |[]=>[t]
 |x::r=>match Nat.beq x t with
  |true=>x::r
  |false=>x::ins t r

def St.moved(st:St):St:={st with d:=some (st.d.getD [])}
def St.wrote(st:St)(t:Nat):St:={st with d:=some (ins t (st.d.getD []))}

def old:List Box->List Box
 |[]=>[]
 |x::r=>{x with new:=false}::old r

def expose(B:Nat)(st:St)(K:St->Prop):Prop:=
 match st.d with
 |none=>K st
 |some ts=>∀w1,Ext B ts st.w w1->K {env:=st.env,boxes:=old st.boxes,w:=w1,d:=none}

def put(N:Nat)(st:St)(dst:Option Tmp)(x:SV)(K:St->Prop):Prop:=
 match dst with
 |none=>K st
 |some s=>match Nat.blt s N with
  |true=>K {st with env:=(s,x)::drop st.env s}
  |false=>False

def ev(st:St):Operand->Option SV
 | .tmp t=>get st.env t
 | .const (.bool true)=>some .t
 | .const (.bool false)=>some .f
 | .const v=>some (.v v)
 | .global g=>some (.v (.pointer (some ⟨g,0,none⟩)))
 | .func f=>some (.v (.func (.func f) #[] #[]))

def withV(o:Option SV)(K:SV->Prop):Prop:=match o with
 |some x=>K x
 |none=>False

def withVal(o:Option SV)(K:Value->Prop):Prop:=match o with
 |some x=>match x.val with
  |some v=>K v
  |none=>False
 |none=>False

def evs(st:St):List Operand->Option (List Value)
 |[]=>some []
 |x::r=>match (ev st x).bind SV.val,evs st r with
  |some v,some vs=>some (v::vs)
  |_,_=>none

def onBool(x:SV)(K:Bool->Prop):Prop:=match x with
 | .t=>K true
 | .f=>K false
 | .p q _=>(q->K true)/\(¬q->K false)
 | .v (.bool b)=>(b=true->K true)/\(b=false->K false)
 |_=>False

def inR:IntKind->Int->Prop
 | .i8,n=> -128<=n/\n<=127
 | .i16,n=> -32768<=n/\n<=32767
 | .i32,n=> -2147483648<=n/\n<=2147483647
 | .i64,n=> -9223372036854775808<=n/\n<=9223372036854775807
 | .u8,n=>0<=n/\n<=255
 | .u16,n=>0<=n/\n<=65535
 | .u32,n=>0<=n/\n<=4294967295
 | .u64,n=>0<=n/\n<=18446744073709551615

def num(raw:Bool)(k:IntKind)(n:Int)(K:SV->Prop):Prop:=match raw with
 |true=>K (.v (.int k (k.wrap n)))
 |false=>inR k n/\K (.v (.int k n))

def bt(s:ByteArray)(i:Int):Int:=((s.data.toList.getD i.toNat 0).toNat:Int)

def kindEq:IntKind->IntKind->Bool
 | .i8,.i8=>true| .i16,.i16=>true| .i32,.i32=>true| .i64,.i64=>true
 | .u8,.u8=>true| .u16,.u16=>true| .u32,.u32=>true| .u64,.u64=>true
 |_,_=>false

def cmpInt(op:BinOp)(x y:Int)(K:SV->Prop):Prop:=match op with
 | .eql=>K (.p (x=y) inferInstance)
 | .neq=>K (.p (x≠y) inferInstance)
 | .lss=>K (.p (x<y) inferInstance)
 | .leq=>K (.p (x<=y) inferInstance)
 | .gtr=>K (.p (x>y) inferInstance)
 | .geq=>K (.p (x≥y) inferInstance)
 |_=>False

def shOk(k:IntKind)(y:Int):Prop:=0<=y/\y<=(k.bits:Int)
def shlI(k:IntKind)(x y:Int):Int:=k.wrap (x*2^y.toNat)
def shrI(x y:Int):Int:=x / 2^y.toNat
def binInt(raw:Bool)(op:BinOp)(k:IntKind)(x y:Int)(K:SV->Prop):Prop:=match op with
 | .shl=>shOk k y/\K (.v (.int k (shlI k x y)))
 | .shr=>shOk k y/\K (.v (.int k (shrI x y)))
 | .and=>K (.v (.int k (bits .and k x y)))
 | .or=>K (.v (.int k (bits .or k x y)))
 | .xor=>K (.v (.int k (bits .xor k x y)))
 | .andNot=>K (.v (.int k (bits .andNot k x y)))
 | .add=>num raw k (x+y) K
 | .sub=>num raw k (x - y) K
 | .mul=>num raw k (x*y) K
 | .quo=>match raw with
  |true=>y≠0/\K (.v (.int k (k.wrap (x.tdiv y))))
  |false=>(0<=x/\0<y/\inR k x)/\K (.v (.int k (x / y)))
 | .rem=>match raw with
  |true=>y≠0/\K (.v (.int k (x.tmod y)))
  |false=>(0<=x/\0<y)/\K (.v (.int k (x % y)))
 |_=>cmpInt op x y K

def binStr(op:BinOp)(a b:ByteArray)(K:SV->Prop):Prop:=match op with
 | .eql=>K (.p (a=b) inferInstance)
 | .neq=>K (.p (a≠b) inferInstance)
 | .add=>a.size+b.size<=9223372036854775807/\K (.v (.string (a++b)))
 |_=>False

structure DP where
 q:Prop
 h:Decidable q

def eqCells:List Lf->List Value->List Value->Option DP
 |[],[],[]=>some ⟨True,inferInstance⟩
 | .int _::ls,.int k x::r,.int l y::s=>match kindEq k l,eqCells ls r s with
  |true,some ⟨q,_⟩=>some ⟨x=y/\q,inferInstance⟩
  |_,_=>none
 | .str::ls,.string x::r,.string y::s=>match eqCells ls r s with
  |some ⟨q,_⟩=>some ⟨x=y/\q,inferInstance⟩
  |none=>none
 | .bool::ls,.bool x::r,.bool y::s=>match eqCells ls r s with
  |some ⟨q,_⟩=>some ⟨x=y/\q,inferInstance⟩
  |none=>none
 |_,_,_=>none

def tiled(P:Program):Nat->List Field->Nat->Bool
 |off,[],n=>Nat.beq off n
 |off,f::r,n=>Nat.beq f.offset off&&tiled P (off+P.cellsOf f.type) r n

def eqOk(P:Program):Nat->TypeId->Bool
 |0,_=>false
 |n+1,t=>match P.underlying t with
  |some (.int _)=>Nat.beq (P.cellsOf t) 1
  |some .bool=>Nat.beq (P.cellsOf t) 1
  |some .string=>Nat.beq (P.cellsOf t) 1
  | some (.struct fs) => !(P.stoodInHeld t) && tiled P 0 fs.toList (P.cellsOf t) && fs.toList.all fun f => f.name != "_" && eqOk P n f.type
  |_=>false

def boolOf:SV->Option Bool
 | .t=>some true
 | .f=>some false
 | .p q h=>some (@decide q h)
 | .v (.bool b)=>some b
 |_=>none

def purely{α:Type}(P:Program):Sem α->Option α
 | .pure a=>some a
 | .program k=>purely P (k P)
 |_=>none

def rho(st:St)(x:Operand):Value:=((ev st x).bind SV.val).getD undef

def allVal(st:St):List Operand->Bool
 |[]=>true
 |x::r=>match ((ev st x).bind SV.val).isSome with
  |true=>allVal st r
  |false=>false

def plainly(c:Cx)(o:Oper)(st:St)(K:SV->Prop):Prop:=
 match allVal st o.op.operands.toList with
 |false=>False
 |true=>match purely c.P (execOp (rho st) o)with
  |some (.value v)=>K (.v v)
  |_=>False

def known(P:Program)(t:TypeId):Bool:=match P.underlying t with
 |some _=>true
 |none=>false

def isStruct(P:Program)(t:TypeId):Bool:=match P.underlying t with
 |some (.struct _)=>true
 |_=>false

def fieldOf(P:Program)(t:TypeId)(f:Nat):Option Field:=match P.underlying t with
 |some (.struct fs)=>fs.toList[f]?
 |_=>none

def cutCells(cells:List Value)(off n:Nat):List Value:=(cells.drop off).take n

def boxLoad (P : Program) (boxes : List Box) (t : TypeId) (l off : Nat) : Option Value :=
  match getBox boxes l with
  | none => none
  | some x => match P.underlying t with
   | none => none
   | some _ => match isAggT P t with
    | true => match Nat.ble (off + P.cellsOf t) x.cells.length with
      | true => some (.agg (cutCells x.cells off (P.cellsOf t)).toArray)
      | false => none
    | false => x.cells[off]?

def memLoad(P:Program)(w:World)(a:Addr)(t:TypeId)(K:SV->Prop):Prop:=match P.underlying t with
 |none=>False
 |some _=>match isAggT P t with
  |true=>match Nat.beq (lfs P 8 t).length (P.cellsOf t)with
   |true=>exLfs (lfs P 8 t) fun vs=>CellsAt w a vs/\K (.v (.agg vs.toArray))
   |false=>False
  |false=>match lfs P 8 t with
   |l::_=>exLf l fun v=>CellsAt w a [v]/\K (.v v)
   |[]=>False

def bound(st:St)(o:Option Operand)(K:Option Int->Prop):Prop:=match o with
 |none=>K none
 |some x=>match ev st x with
  |some (.v (.int _ n))=>K (some n)
  |_=>False

def cutAddr(A:Option Addr)(l cap size:Nat):Option Addr:=if cap=l then A else A.map (·.add (l*size))

def slices (P : Program) (t : TypeId) (x : SV) (lo hi : Option Int) (K : SV → Prop) : Prop :=
  match P.underlying t, x with
  | some .string, .v (.string s) => match lo, hi with
    | none, none => K (.v (.string s))
    | none, some h => (0 ≤ h ∧ h ≤ s.size) ∧ K (.v (.string (s.extract 0 h.toNat)))
    | some l, none => (0 ≤ l ∧ l ≤ s.size) ∧ K (.v (.string (s.extract l.toNat s.size)))
    | some l, some h => (0 ≤ l ∧ l ≤ h ∧ h ≤ s.size) ∧ K (.v (.string (s.extract l.toNat h.toNat)))
  | some (.slice e), .v (.slice A n cap) => match known P e with
   | false => False
   | true => match lo, hi with
    | none, none => K (.v (.slice A n cap))
    | none, some h => (0 ≤ h ∧ h ≤ cap) ∧ K (.v (.slice A h.toNat cap))
    | some l, none => (0 ≤ l ∧ l ≤ n ∧ n ≤ cap) ∧ K (.v (.slice (cutAddr A l.toNat cap (P.cellsOf e)) (n - l.toNat) (cap - l.toNat)))
    | some l, some h => (0 ≤ l ∧ l ≤ h ∧ h ≤ cap) ∧ K (.v (.slice (cutAddr A l.toNat cap (P.cellsOf e)) (h.toNat - l.toNat) (cap - l.toNat)))
  | _, _ => False

def inL(n:Nat):List Nat->Bool
 |[]=>false
 |x::r=>match Nat.beq x n with
  |true=>true
  |false=>inL n r
def mayRead(hold:Option (List Nat))(l:Nat):Bool:=match hold with
 |none=>true
 |some ls=>inL l ls

def each(j:Int):Nat->(Nat->Prop)->Prop
 |0,_=>True
 |n+1,Q=>each j n Q/\(j=(n:Int)->Q n)

def value(c:Cx)(raw:Bool)(lw:Option World)(hold:Option (List Nat))(o:Oper)(st:St)(K:SV->Prop):Prop:=
 match o.op with
 | .move x=>withV (ev st x) K
 | .assign x=>withV (ev st x) K
 | .pick cnd a b=>withV (ev st cnd) fun x=>onBool x fun t=>match t with
  |true=>withV (ev st a) K
  |false=>withV (ev st b) K
 | .binOp op xt x y _=>match ev st x,ev st y with
  |some (.v (.int k a)),some (.v (.int k' b))=>match kindEq k k' with
   |true=>binInt raw op k a b K
   |false=>plainly c o st K
  |some (.v (.string a)),some (.v (.string b))=>binStr op a b K
  |some (.v (.agg xs)),some (.v (.agg ys))=>match isStruct c.P xt&&eqOk c.P 6 xt&&Nat.beq xs.toList.length (c.P.cellsOf xt)&&Nat.beq ys.toList.length (c.P.cellsOf xt),eqCells (lfs c.P 6 xt) xs.toList ys.toList with
   |true,some ⟨q,h⟩=>match op with
    | .eql=>K (.p q h)
    | .neq=>K (.p (¬q) (@instDecidableNot q h))
    |_=>False
   |_,_=>False
  |some (.v (.slice A _ _)),some (.v (.slice none 0 0))=>match c.P.underlying xt with
   |some (.slice _)=>match op with
    | .eql=>K (.p (A=none) inferInstance)
    | .neq=>K (.p (¬A=none) inferInstance)
    |_=>False
   |_=>False
  |some a,some b=>match c.P.underlying xt,boolOf a,boolOf b with
   |some .bool,some x,some y=>match op with
    | .eql=>K (.p (x=y) inferInstance)
    | .neq=>K (.p (¬x=y) inferInstance)
    |_=>False
   |_,_,_=>plainly c o st K
  |_,_=>False
 | .unOp .neg _ x=>match ev st x with
  |some (.v (.int k a))=>num raw k (-a) K
  |_=>False
 | .unOp .not _ x=>match ev st x with
  |some .t=>K .f
  |some .f=>K .t
  |some (.p q h)=>K (.p (¬q) (@instDecidableNot q h))
  |some (.v (.bool b))=>K (.p (b=false) inferInstance)
  |_=>False
 | .convert src dst x=>match c.P.underlying dst,ev st x with
  |some (.int k),some (.v (.int _ n))=>match known c.P src with
   |true=>num raw k n K
   |false=>False
  |_,_=>plainly c o st K
 | .nilCheck x=>match ev st x with
  |some (.loc l off)=>K (.loc l off)
  |some (.v (.pointer (some a)))=>K (.v (.pointer (some a)))
  |some (.v (.func (.func g) a b))=>K (.v (.func (.func g) a b))
  |_=>False
 | .fieldAddr s x f=>match fieldOf c.P s f with
  |none=>False
  |some fd=>match Nat.beq (c.P.cellsOf fd.type) 0 with
   |true=>False
   |false=>match ev st x with
    |some (.loc l off)=>K (.loc l (off+fd.offset))
    |some (.v (.pointer (some a)))=>K (.v (.pointer (some (a.add fd.offset))))
    |_=>False
 | .indexAddr t x i=>match c.P.underlying t,ev st x,ev st i with
  |some (.slice e),some (.v (.slice A n _)),some (.v (.int _ j))=>match known c.P e with
   |true=>(0<=j/\j<n)/\∃a,A=some a/\K (.v (.pointer (some (a.add (j.toNat*c.P.cellsOf e)))))
   |false=>False
  |some (.array n e),some (.loc l off),some (.v (.int _ i))=>match raw with
   |true=>match known c.P e with
    |true=>(0<=i/\i<n)/\each i n fun j=>K (.loc l (off+j*c.P.cellsOf e))
    |false=>False
   |false=>match i with
    | .ofNat j=>match Nat.blt j n&&known c.P e with
     |true=>K (.loc l (off+j*c.P.cellsOf e))
     |false=>False
    |_=>False
  |_,_,_=>False
 | .index t x i=>match c.P.underlying t,ev st x,ev st i with
  |some .string,some (.v (.string s)),some (.v (.int _ j))=>(0<=j/\j<s.size)/\K (.v (.int .u8 (bt s j)))
  |_,_,_=>plainly c o st K
 | .slice t x lo hi none=>withV (ev st x) fun a=>bound st lo fun l=>bound st hi fun h=>slices c.P t a l h K
 | .load t x=>match ev st x with
  |some (.loc l off)=>match mayRead hold l,boxLoad c.P st.boxes t l off with
   |true,some v=>K (.v v)
   |_,_=>False
  |some (.v (.pointer (some a)))=>match lw with
   |none=>False
   |some w=>memLoad c.P w a t K
  |_=>False
 |_=>plainly c o st K

def callable(P:Program)(g:FuncId):Bool:=match P.funcs[g]? with
 |some fn=>match fn.body with
  | some _ => match fn.name == "runtime.NumGoroutine" with
   |true=>false
   |false=>true
  |none=>false
 |none=>false

def newBox(st:St)(l ty:Nat)(cells:List Value):St:=
 {env:=dropLoc st.env l,boxes:=⟨l,true,ty,cells⟩::dropBox st.boxes l,w:=st.w,d:=some (st.d.getD [])}

def setCells:List Value->Nat->List Value->List Value
 |cells,_,[]=>cells
 |cells,off,v::r=>setCells (cells.set off v) (off+1) r

def hasType(t:Nat):List Box->Bool
 |[]=>false
 |x::r=>match Nat.beq x.ty t with
  |true=>true
  |false=>hasType t r

def mayCall(dyn:Bool)(P:Program)(g:FuncId)(q:Prop):Prop:=match dyn with
 |true=>callable P g=true/\q
 |false=>match callable P g with
  |true=>q
  |false=>False

structure Wrote (w w':World) (b:Nat) (ty:Nat) (cells:List Value):Prop where
 at_:w'.heap[b]? =some (.cells cells.toArray ty (0,0))
 rest:∀k,k≠b->w'.heap[k]? =w.heap[k]?
 size:w'.heap.size=w.heap.size
 os:w'.os=w.os
 tape:w'.tape=w.tape
 output:w'.output=w.output

def zeroCells(P:Program)(t:TypeId):Option (List Value):=((P.info? t).bind (·.zero)).map fun v=>v.cells.toList

def isCell:Value->Bool
 | .agg _=>false
 | .tuple _=>false
 |_=>true
def allCells:List Value->Bool
 |[]=>true
 |v::r=>isCell v&&allCells r

def effect (c : Cx) (dyn : Bool) (o : Oper) (st : St) (K : SV → St → Prop) : Prop :=
  match o.op with
  | .alloc t => match o.dst, zeroCells c.P t with
    | some l, some cells => K (.loc l 0) (newBox st l t cells)
    | _, _ => False
  | .box t x => match o.dst with
    | none => False
    | some l => withVal (ev st x) fun v => K (.loc l 0) (newBox st l t v.cells.toList)
  | .store t x y => match ev st x with
    | some (.loc l off) => match getBox st.boxes l with
      | none => False
      | some bx => withVal (ev st y) fun v => match Nat.beq v.cells.toList.length (c.P.cellsOf t) && known c.P t && allCells v.cells.toList && Nat.ble (off + v.cells.toList.length) bx.cells.length with
        | false => False
        | true => K .u { env := st.env, boxes := { bx with cells := setCells bx.cells off v.cells.toList } :: dropBox st.boxes l, w := st.w, d := match bx.new with
            | true => some (st.d.getD [])
            | false => some (ins bx.ty (st.d.getD [])) }
    | some (.v (.pointer (some a))) => withVal (ev st y) fun v => match Nat.beq v.cells.toList.length (c.P.cellsOf t) && known c.P t && allCells v.cells.toList with
      | false => False
      | true => expose c.B st fun st => ∃ (cs : List Value) (ty : Nat), c.B ≤ a.block ∧ a.spot = none ∧ st.w.heap[a.block]? = some (.cells cs.toArray ty (0, 0)) ∧ a.off + v.cells.toList.length ≤ cs.length ∧
          hasType ty st.boxes = false ∧ ∀ w1, Wrote st.w w1 a.block ty (setCells cs a.off v.cells.toList) → K .u { st with w := w1 }
    | _ => False
  | .call cl => match cl.callee with
    | .value x => match ev st x, evs st cl.args.toList with
      | some (.v (.func (.func g) first cap)), some vs => mayCall dyn c.P g <| expose c.B st fun st => Pure c.P g (first.toList ++ vs ++ cap.toList).toArray st.w fun v w1 =>
            exSh (sh c.P o.type) fun x => v = x ∧ K (.v x) { env := st.env, boxes := old st.boxes, w := w1, d := none }
      | _, _ => False
    | _ => False
  | _ => False

def boxTys:List Box->List Nat
 |[]=>[]
 |x::r=>x.ty::boxTys r

def RunOk(P:Program)(s:Sem Value)(B:Nat)(tys:List Nat)(w:World)(K:Value->World->Prop):Prop:=
 ∃v w1,s.run P w= .ok v w1/\Below B w w1/\w.heap.size<=w1.heap.size/\
  (∀(k ty:Nat)(cs:Array Value),ty∈tys->w.heap[k]? =some (.cells cs ty (0,0))->w1.heap[k]? =w.heap[k]?)/\K v w1
def RunOkN(P:Program)(s:Sem Next)(B:Nat)(tys:List Nat)(w:World)(K:Value->World->Prop):Prop:=
 ∃v w1,s.run P w= .ok (.value v) w1/\Below B w w1/\w.heap.size<=w1.heap.size/\
  (∀(k ty:Nat)(cs:Array Value),ty∈tys->w.heap[k]? =some (.cells cs ty (0,0))->w1.heap[k]? =w.heap[k]?)/\K v w1

def parts(st:St):List (Nat×Operand)->Option (List (Nat×Value))
 |[]=>some []
 |(i,x)::r=>match (ev st x).bind SV.val,parts st r with
  |some v,some vs=>some ((i,v)::vs)
  |_,_=>none

def hatchSem(st:St)(o:Oper):Option (Sem Value):=match o.op with
 | .call cl=>match cl.callee,evs st cl.args.toList with
  | .builtin .append,some vs=>some (Builtin.append_ cl.argTypes o.type vs.toArray)
  | .builtin .copy,some vs=>some (Builtin.copy_ cl.argTypes o.type vs.toArray)
  | .builtin .clear,some vs=>some (Builtin.clear_ cl.argTypes o.type vs.toArray)
  |_,_=>none
 | .makeSlice t l k=>match (ev st l).bind SV.val,(ev st k).bind SV.val with
  |some a,some b=>some (Instr.makeSlice t a b)
  |_,_=>none
 | .buildSlice t n ps=>match parts st ps.toList with
  |some l=>some (Instr.buildSlice t n l.toArray)
  |none=>none
 | .convert src dst x=>match (ev st x).bind SV.val with
  |some a=>some (convert src dst a)
  |none=>none
 | .index t x i=>match (ev st x).bind SV.val,(ev st i).bind SV.val with
  |some a,some b=>some (Instr.index t a b)
  |_,_=>none
 | .makeMap t r=>match r with
  |none=>some (Instr.makeMap t none)
  |some x=>match (ev st x).bind SV.val with
   |some a=>some (Instr.makeMap t (some a))
   |none=>none
 | .lookup t x i ok=>match (ev st x).bind SV.val,(ev st i).bind SV.val with
  |some a,some b=>some (Instr.lookup t a b ok)
  |_,_=>none
 | .slice t x (some l) (some h) (some m)=>match (ev st x).bind SV.val,(ev st l).bind SV.val,(ev st h).bind SV.val,(ev st m).bind SV.val with
  |some a,some b,some d,some e=>some (Instr.sliceAt t a (some b) (some d) (some e))
  |_,_,_,_=>none
 | .binOp .shr t x i _=>match (ev st x).bind SV.val,(ev st i).bind SV.val with
  |some a,some b=>some (binOp .shr t a b)
  |_,_=>none
 |_=>none

def behind(P:Program)(t:TypeId)(st:St)(K:SV->St->Prop)(v:Value)(w1:World):Prop:=
 exSh (sh P t) fun x=>v=x/\K (.v x) {env:=st.env,boxes:=old st.boxes,w:=w1,d:=none}

def RunOkU(P:Program)(s:Sem Unit)(B:Nat)(tys:List Nat)(w:World)(K:World->Prop):Prop:=
 ∃w1,s.run P w= .ok () w1/\Below B w w1/\w.heap.size<=w1.heap.size/\
  (∀(k ty:Nat)(cs:Array Value),ty∈tys->w.heap[k]? =some (.cells cs ty (0,0))->w1.heap[k]? =w.heap[k]?)/\K w1
def setsMap(c:Cx)(t:TypeId)(m k x:Operand)(st:St)(K:SV->St->Prop):Prop:=
 match (ev st m).bind SV.val,(ev st k).bind SV.val,(ev st x).bind SV.val with
 |some a,some d,some e=>expose c.B st fun st=>RunOkU c.P (Instr.mapUpdate t a d e) c.B (boxTys st.boxes) st.w fun w1=>K .u {env:=st.env,boxes:=old st.boxes,w:=w1,d:=none}
 |_,_,_=>False

def newAt(c:Cx)(s:Sem Value)(st:St)(K:SV->St->Prop):Prop:=
 expose c.B st fun st=>RunOk c.P s c.B (boxTys st.boxes) st.w fun v w1=>∃a:Addr,v= .pointer (some a)/\K (.v (.pointer (some a))) {env:=st.env,boxes:=old st.boxes,w:=w1,d:=none}

def hatch(c:Cx)(o:Oper)(st:St)(K:SV->St->Prop):Prop:=
 match hatchSem st o with
 |some s=>expose c.B st fun st=>RunOk c.P s c.B (boxTys st.boxes) st.w (behind c.P o.type st K)
 |none=>match o.op with
  | .call cl=>match cl.callee with
   | .value x=>match ev st x,evs st cl.args.toList with
    |some (.v (.func (.func g) first cap)),some vs=>expose c.B st fun st=>RunOkN c.P (callFunc g (first.toList++vs++cap.toList).toArray) c.B (boxTys st.boxes) st.w (behind c.P o.type st K)
    |_,_=>False
   |_=>False
  | .mapUpdate t m k x=>setsMap c t m k x st K
  | .insert t m k x=>setsMap c t m k x st K
  | .alloc t=>newAt c (Instr.alloc t true (.tuple #[])) st K
  | .box t x=>match (ev st x).bind SV.val with
   |some a=>newAt c (Instr.box t a) st K
   |none=>False
  |_=>False

def hatchQ(c:Cx)(o:Oper)(st:St)(K:SV->St->Prop):Prop:=match hatchSem st o with
 |some s=>expose c.B st fun st=>RunOk c.P s st.w.heap.size (boxTys st.boxes) st.w (behind c.P o.type st K)
 |none=>False

def writesCall(dyn:Bool)(c:Cx)(o:Oper)(st:St)(K:SV->St->Prop):Prop:=match o.op with
 | .call cl=>match cl.callee with
  | .value x=>match ev st x,evs st cl.args.toList with
   |some (.v (.func (.func g) first cap)),some vs=>mayCall dyn c.P g<|expose c.B st fun st=>PureB c.P g (first.toList++vs++cap.toList).toArray c.B st.w fun v w1=>
     (∀(k ty:Nat)(cs:Array Value),ty∈boxTys st.boxes->st.w.heap[k]? =some (.cells cs ty (0,0))->w1.heap[k]? =st.w.heap[k]?)/\behind c.P o.type st K v w1
   |_,_=>False
  |_=>False
 |_=>False

def locs(st:St):List Operand->List Nat
 |[]=>[]
 |x::r=>match ev st x with
  |some (.loc l _)=>ins l (locs st r)
  |_=>locs st r
def swapLoc(l a:Nat):Env->Env
 |[]=>[]
 |(s,.loc k off)::r=>match Nat.beq k l with
  |true=>(s,.v (.pointer (some ⟨a,off,none⟩)))::swapLoc l a r
  |false=>(s,.loc k off)::swapLoc l a r
 |x::r=>x::swapLoc l a r
def publish(c:Cx):List Nat->St->(St->Prop)->Prop
 |[],st,K=>K st
 |l::r,st,K=>expose c.B st fun st=>match getBox st.boxes l with
  |none=>False
  |some bx=>∀a:Nat,c.B<=a->st.w.heap[a]? =some (.cells bx.cells.toArray bx.ty (0,0))->
    publish c r {env:=swapLoc l a st.env,boxes:=dropBox st.boxes l,w:=st.w,d:=st.d} K

def isLoad(o:Oper):Bool:=match o.op with
 | .load _ _=>true
 |_=>false

def isNew(o:Oper):Bool:=match o.op with
 | .alloc _=>true
 | .box _ _=>true
 |_=>false

def isEffect:Op->Bool
 | .alloc _=>true
 | .box _ _=>true
 | .store _ _ _=>true
 | .call cl=>match cl.callee with
  | .value _=>true
  |_=>false
 |_=>false

def opPlain(c:Cx)(m:Nat)(o:Oper)(st:St)(K:SV->St->Prop):Prop:=
 match isEffect o.op with
 |true=>effect c (Nat.beq m 4) o st K
 |false=>match o.op with
  | .load _ x=>match ev st x with
   |some (.v _)=>expose c.B st fun st=>value c false (some st.w) none o st fun x=>K x st
   |_=>value c false none none o st fun x=>K x st
  |_=>value c (Nat.beq m 1) none none o st fun x=>K x st

def opRun(c:Cx)(rid i:Nat)(o:Oper)(st:St)(K:SV->St->Prop):Prop:=
 match modeOf c.mode rid i with
 |2=>hatch c o st K
 |6=>writesCall false c o st K
 |10=>writesCall true c o st K
 |5=>publish c (locs st o.op.operands.toList) st fun st=>opPlain c 0 o st K
 |7=>hatchQ c o st K
 |m=>opPlain c m o st K

def setSlot(st:St)(s:Nat)(b:Bool):St:={st with env:=(s,match b with|true=> .t|false=> .f)::drop st.env s}

def sameB:Bool->Bool->Bool
 |true,true=>true
 |false,false=>true
 |_,_=>false

def guarded(ops:Array Oper)(o:Oper)(st:St)(K:Bool->St->Prop):Prop:=
 match o.guard with
 |none=>K true st
 |some (j,want)=>match (ops.toList[j]?).bind (·.dst)with
  |none=>False
  |some s=>match get st.env s with
   |some .u=>K false st
   |some x=>onBool x fun b=>K (sameB b want) (setSlot st s b)
   |none=>False

def oneOp(c:Cx)(rid:Nat)(ops:Array Oper)(i:Nat)(o:Oper)(st:St)(K:St->Prop):Prop:=
 guarded ops o st fun run st=>match run with
  |true=>opRun c rid i o st fun x st=>put c.N st o.dst x K
  |false=>put c.N st o.dst .u K

def opsRun(c:Cx)(rid:Nat)(ops:Array Oper):Nat->List Oper->St->(St->Prop)->Prop
 |_,[],st,K=>K st
 |i,o::r,st,K=>oneOp c rid ops i o st fun st=>opsRun c rid ops (i+1) r st K

def boxLabels:List Box->List Nat
 |[]=>[]
 |x::r=>x.lab::boxLabels r

def norm:SV->SV
 | .t=> .v (.bool true)
 | .f=> .v (.bool false)
 | .p q h=> .v (.bool (@decide q h))
 |y=>y

def restrict(env:Env):List Nat->Option Env
 |[]=>some []
 |s::r=>match get env s,restrict env r with
  |some x,some l=>some ((s,norm x)::l)
  |_,_=>none

def restrictB(boxes:List Box):List Nat->Option (List Box)
 |[]=>some []
 |s::r=>match getBox boxes s,restrictB boxes r with
  |some x,some l=>some (⟨x.lab,false,x.ty,x.cells⟩::l)
  |_,_=>none

def results(c:Cx)(st:St):List ResultVar->Option (List Value)
 |[]=>some []
 | .tmp t::r=>match (get st.env t).bind SV.val,results c st r with
  |some v,some vs=>some (v::vs)
  |_,_=>none
 | .cell t ty::r=>match get st.env t,results c st r with
  |some (.loc l off),some vs=>match boxLoad c.P st.boxes ty l off with
   |some v=>some (v::vs)
   |none=>none
  |_,_=>none

def tupled:List Value->Value
 |[v]=>v
 |vs=> .tuple vs.toArray

def leave(c:Cx)(st:St):Prop:=match results c st c.res with
 |some vs=>expose c.B st fun st=>c.R (tupled vs) st.w
 |none=>False

def firstRegion:Code->Nat
 | .region id _ _=>id
 | .seq a _=>firstRegion a
 | .block _ b=>firstRegion b
 | .loop b=>firstRegion b
 | .cond _ a _=>firstRegion a
 | .scope b=>firstRegion b
 |_=>0

def cutAt(c:Cx)(todo:List Item)(st:St)(live:List Nat×List Nat):Prop:=
 match restrict st.env live.1,restrictB st.boxes live.2 with
 |some env,some boxes=>expose c.B st fun st=>At c.P c.f c.N todo env boxes c.B st.w c.R
 |_,_=>False

def early(o:Oper):Bool:=match o.op with
 | .alloc _=>false
 | .box _ _=>false
 | .store _ _ _=>false
 | .call cl=>match cl.callee with
  | .builtin .len=>true
  | .builtin .cap=>true
  |_=>false
 | .buildSlice _ _ _=>false
 | .makeSlice _ _ _=>false
 | .makeMap _ _=>false
 | .insert _ _ _ _=>false
 | .mapUpdate _ _ _ _=>false
 | .lookup _ _ _ _=>false
 | .panic _=>false
 | .select _ _=>false
 | .binOp .add _ _ _ _=>true
 |_=>true
def isStore(o:Oper):Bool:=match o.op with
 | .store _ _ _=>true
 |_=>false

def lateL(listed:List Nat)(i:Nat):Nat->List Oper->List Nat->List Nat
 |_,[],acc=>acc
 |j,o::r,acc=>match !inL j listed&&o.after.toList.any fun e=>Region.binds .any e&&(Nat.beq e.on i||inL e.on acc)with
  |true=>lateL listed i (j+1) r (j::acc)
  |false=>lateL listed i (j+1) r acc

def readyL(listed:List Nat):Nat->List Oper->List Nat
 |_,[]=>[]
 |i,o::r=>match inL i listed|| !(o.after.toList.all fun e=> !Region.binds .any e||inL e.on listed)with
  |true=>readyL listed (i+1) r
  |false=>i::readyL listed (i+1) r

def quietly(m:Nat)(o:Oper):Bool:=match m with
 |2=>false
 |6=>false
 |10=>false
 |_=> !isStore o

def mayFirst(c:Cx)(rid:Nat)(ops:Array Oper)(listed:List Nat)(i:Nat)(oi:Oper)(late:List Nat):Nat->List Oper->Bool
 |_,[]=>true
 |j,o::r=>(Nat.beq j i||(match isLoad oi&& !quietly (modeOf c.mode rid j) o with
  |true=> !inL j listed&&inL j late
  |false=>inL j listed||inL j late||oi.apart ops o))&&mayFirst c rid ops listed i oi late (j+1) r

def findEarly(c:Cx)(rid:Nat)(ops:Array Oper)(listed:List Nat):List Nat->Option Nat
 |[]=>none
 |i::r=>match ops.toList[i]? with
  |none=>none
  |some o=>match early o&&mayFirst c rid ops listed i o (lateL listed i 0 ops.toList []) 0 ops.toList with
   |true=>some i
   |false=>findEarly c rid ops listed r

def allOf:List Nat->Prop->(Nat->Prop)->Prop
 |[],z,_=>z
 |[i],_,K=>K i
 |i::r,z,K=>K i/\allOf r z K

def drawRun(c:Cx)(rid:Nat)(ops:Array Oper)(lw:Option World)(hold:List Nat):Nat->List Nat->St->(St->Prop)->Prop
 |0,listed,st,K=>match readyL listed 0 ops.toList with
  |[]=>K st
  |_=>False
 |n+1,listed,st,K=>match findEarly c rid ops listed (readyL listed 0 ops.toList)with
  |some i=>match ops.toList[i]? with
   |none=>False
   |some o=>guarded ops o st fun run st=>match run with
    |true=>value c (Nat.beq (modeOf c.mode rid i) 1) lw (some hold) o st fun x=>put c.N st o.dst x fun st=>drawRun c rid ops lw hold n (i::listed) st K
    |false=>put c.N st o.dst .u fun st=>drawRun c rid ops lw hold n (i::listed) st K
  |none=>allOf (readyL listed 0 ops.toList) (K st) fun i=>match ops.toList[i]? with
   |none=>False
   |some o=>oneOp c rid ops i o st fun st=>drawRun c rid ops lw hold n (i::listed) st K

def newLabels:List Oper->List Nat
 |[]=>[]
 |o::r=>match o.op,o.dst with
  | .alloc _,some d=>d::newLabels r
  | .box _ _,some d=>d::newLabels r
  |_,_=>newLabels r

def holdOf(st:St)(ops:Array Oper):List Nat:=(boxLabels st.boxes).filter fun l=> !inL l (newLabels ops.toList)

def edgesOk(n:Nat):List Oper->Bool
 |[]=>true
 |o::r=>(o.after.toList.all fun e=> !Region.binds .any e||Nat.blt e.on n)&&edgesOk n r

def noSelectL:List Oper->Bool
 |[]=>true
 |o::r=>match o.op with
  | .select _ _=>false
  |_=>noSelectL r

def exposeIf(b:Bool)(B:Nat)(st:St)(K:St->Prop):Prop:=match b with
 |true=>expose B st K
 |false=>K st

def waitsOn(o:Oper)(f:Nat):Bool:=o.after.toList.any fun e=>Region.binds .any e&&Nat.beq e.on f
def otherDst(l f:Nat):Nat->List Oper->Bool
 |_,[]=>true
 |j,o::r=>(Nat.beq j f|| !(match o.dst with|some d=>Nat.beq d l|none=>false))&&otherDst l f (j+1) r
def isFl(c:Cx)(rid:Nat)(ops:Array Oper)(f:Nat):Bool:=match ops.toList[f]? with
 |some o=>(match o.op,o.dst,o.guard with
  | .alloc t,some l,none=>(match zeroCells c.P t with|some _=>true|none=>false)&&Nat.blt l c.N&&otherDst l f 0 ops.toList
  |_,_,_=>false)&&Nat.beq (modeOf c.mode rid f) 0&&o.after.toList.all fun e=> !Region.binds .any e
 |none=>false
def findFl(c:Cx)(rid:Nat)(ops:Array Oper)(fl:List Nat):List Nat->Option Nat
 |[]=>none
 |f::r=>match !inL f fl&&isFl c rid ops f with
  |true=>some f
  |false=>findFl c rid ops fl r
def dstOf(ops:Array Oper)(f:Nat):Nat:=match (ops.toList[f]?).bind (·.dst)with
 |some l=>l
 |none=>0
def clean(ops:Array Oper):List Nat->St->St
 |[],st=>st
 |f::r,st=>clean ops r {st with env:=drop st.env (dstOf ops f)}
def tidy(ops:Array Oper)(fl:List Nat)(st:St):St:=match fl with
 |[]=>st
 |f::r=>(clean ops (f::r) st).moved
def landed(st:St)(l ty:Nat)(cells:List Value):St:=
 {env:=(l,.loc l 0)::drop (dropLoc st.env l) l,boxes:=⟨l,false,ty,cells⟩::dropBox st.boxes l,w:=st.w,d:=st.d}
def landAll(c:Cx)(ops:Array Oper):List Nat->St->(St->Prop)->Prop
 |[],st,K=>K st
 |f::r,st,K=>match ops.toList[f]? with
  |some o=>match o.op,o.dst with
   | .alloc t,some l=>match zeroCells c.P t with
    |some cells=>landAll c ops r (landed st l t cells) K
    |none=>False
   |_,_=>False
  |none=>False
def waited(o:Oper)(b:Bool):List Nat->List Nat
 |[]=>[]
 |f::r=>match sameB (waitsOn o f) b with
  |true=>f::waited o b r
  |false=>waited o b r
def join2:List Nat->List Nat->List Nat
 |[],l=>l
 |x::r,l=>x::join2 r l
def drawRunF(c:Cx)(rid:Nat)(ops:Array Oper)(lw:Option World)(hold:List Nat):Nat->List Nat->List Nat->St->(St->Prop)->Prop
 |0,listed,fl,st,K=>match readyL (join2 fl listed) 0 ops.toList with
  |[]=>landAll c ops fl st K
  |_=>False
 |n+1,listed,fl,st,K=>match findFl c rid ops fl (readyL listed 0 ops.toList)with
  |some f=>drawRunF c rid ops lw hold n listed (f::fl) (tidy ops (f::fl) st) K
  |none=>match findEarly c rid ops listed (readyL listed 0 ops.toList)with
   |some i=>match ops.toList[i]? with
    |none=>False
    |some o=>guarded ops o st fun run st=>match run with
     |true=>value c (Nat.beq (modeOf c.mode rid i) 1) lw (some hold) o st fun x=>put c.N st o.dst x fun st=>drawRunF c rid ops lw hold n (i::listed) fl (tidy ops fl st) K
     |false=>put c.N st o.dst .u fun st=>drawRunF c rid ops lw hold n (i::listed) fl (tidy ops fl st) K
   |none=>allOf (readyL (join2 fl listed) 0 ops.toList) (landAll c ops fl st K) fun i=>match ops.toList[i]? with
    |none=>False
    |some o=>landAll c ops (waited o true fl) st fun st=>match waited o false fl with
     |[]=>oneOp c rid ops i o st fun st=>drawRunF c rid ops lw hold n (i::join2 (waited o true fl) listed) [] st K
     |g::r=>match quietly (modeOf c.mode rid i) o&& !isNew o with
      |true=>oneOp c rid ops i o st fun st=>drawRunF c rid ops lw hold n (i::join2 (waited o true fl) listed) (g::r) (tidy ops (g::r) st) K
      |false=>False

def region(c:Cx)(rid:Nat)(ops:Array Oper)(draw:Bool)(st:St)(K:St->Prop):Prop:=match draw with
 |false=>match noSelectL ops.toList with
  |true=>opsRun c rid ops 0 ops.toList st K
  |false=>False
 |true=>match noSelectL ops.toList&&edgesOk ops.toList.length ops.toList with
  |true=>exposeIf (Nat.beq (modeOf c.mode rid 9999) 3) c.B st fun st=>
    match Nat.beq (modeOf c.mode rid 9998) 8 with
    |true=>drawRunF c rid ops (match st.d with|none=>some st.w|some _=>none) (holdOf st ops) ops.toList.length [] [] st.moved K
    |false=>drawRun c rid ops (match st.d with|none=>some st.w|some _=>none) (holdOf st ops) ops.toList.length [] st.moved K
  |false=>False

def run(c:Cx):Nat->Bool->List Item->St->Prop
 |0,_,_,_=>False
 |n+1,first,todo,st=>match todo with
  |[]=>leave c st
  | .code cd::k=>match cd with
   | .ret=>leave c st
   | .skip=>run c n false k st
   | .seq a b=>run c n first (.code a:: .code b::k) st
   | .cond x a b=>withV (ev st x) fun v=>onBool v fun t=>match t with
    |true=>run c n false (.code a::k) st
    |false=>run c n false (.code b::k) st
   | .block id b=>run c n first (.code b:: .inBlock id::k) st
   | .loop b=>match cutOf c.cuts true (firstRegion b)with
    |some live=>cutAt c (.code (.loop b)::k) st live
    |none=>run c n false (.code b:: .inLoop b::k) st
   | .exit id=>match exitTo id k with
    |some k'=>run c n false k' st
    |none=>False
   | .region id ops draw=>match first,cutOf c.cuts false id with
    |false,some live=>cutAt c (.code (.region id ops draw)::k) st live
    |_,_=>region c id ops draw st fun st=>run c n false k st
   |_=>False
  | .inBlock _::k=>run c n false k st
  | .inLoop b::k=>match cutOf c.cuts true (firstRegion b)with
   |some live=>cutAt c (.code (.loop b)::k) st live
   |none=>run c n false (.code b:: .inLoop b::k) st
  |_=>False

def findLoop(key:Nat):Code->List Item->Option (List Item)
 | .seq a b,k=>match findLoop key a (.code b::k)with
  |some x=>some x
  |none=>findLoop key b k
 | .cond _ a b,k=>match findLoop key a k with
  |some x=>some x
  |none=>findLoop key b k
 | .block id b,k=>findLoop key b (.inBlock id::k)
 | .loop b,k=>match Nat.beq (firstRegion b) key with
  |true=>some (.code (.loop b)::k)
  |false=>findLoop key b (.inLoop b::k)
 |_,_=>none

def findRegion(key:Nat):Code->List Item->Option (List Item)
 | .seq a b,k=>match findRegion key a (.code b::k)with
  |some x=>some x
  |none=>findRegion key b k
 | .cond _ a b,k=>match findRegion key a k with
  |some x=>some x
  |none=>findRegion key b k
 | .block id b,k=>findRegion key b (.inBlock id::k)
 | .loop b,k=>findRegion key b (.inLoop b::k)
 | .region id ops d,k=>match Nat.beq id key with
  |true=>some (.code (.region id ops d)::k)
  |false=>none
 |_,_=>none

def loopAt(f:Func)(key:Nat):List Item:=match f.body with
 |some b=>(findLoop key b []).getD []
 |none=>[]
def regionAt(f:Func)(key:Nat):List Item:=match f.body with
 |some b=>(findRegion key b []).getD []
 |none=>[]
def inside:List Item->List Item
 | .code (.loop b)::k=> .code b:: .inLoop b::k
 |k=>k

def argEnv:Nat->List Value->Env
 |_,[]=>[]
 |i,v::r=>(i,.v v)::argEnv (i+1) r

theorem beq_true{a b:Nat}:Nat.beq a b=true->a=b:=Nat.eq_of_beq_eq_true
theorem beq_false{a b:Nat}:Nat.beq a b=false->a≠b:=Nat.ne_of_beq_eq_false

theorem get_cons{x:Nat×SV}{r:Env}{s:Nat}:get (x::r) s=if x.1=s then some x.2 else get r s:=by
 simp only[get]
 cases h:Nat.beq x.1 s with
 |true=>simp[beq_true h]
 |false=>simp[beq_false h]

theorem get_drop{r:Env}{s t:Nat}:get (drop r s) t=if t=s then none else get r t:=by
 induction r with
 |nil=>simp[drop,get]
 |cons x r ih=>
  simp only[drop]
  cases h:Nat.beq x.1 s with
  |true=>
   simp only[ih,get_cons]
   have:=beq_true h
   by_cases e:t=s
   ·simp[e]
   ·simp only[if_neg e];rw[if_neg (by omega)]
  |false=>
   simp only[get_cons,ih]
   have:=beq_false h
   by_cases e:x.1=t
   ·simp[e];omega
   ·simp[e]

theorem getBox_cons{x:Box}{r:List Box}{s:Nat}:getBox (x::r) s=if x.lab=s then some x else getBox r s:=by
 simp only[getBox]
 cases h:Nat.beq x.lab s with
 |true=>simp[beq_true h]
 |false=>simp[beq_false h]

theorem getBox_drop{r:List Box}{s t:Nat}:getBox (dropBox r s) t=if t=s then none else getBox r t:=by
 induction r with
 |nil=>simp[dropBox,getBox]
 |cons x r ih=>
  simp only[dropBox]
  cases h:Nat.beq x.lab s with
  |true=>
   simp only[ih,getBox_cons]
   have:=beq_true h
   by_cases e:t=s
   ·simp[e]
   ·simp only[if_neg e];rw[if_neg (by omega)]
  |false=>
   simp only[getBox_cons,ih]
   have:=beq_false h
   by_cases e:x.lab=t
   ·simp[e];omega
   ·simp[e]

theorem val_den{x:SV}{v:Value}(h:x.val=some v)(b:Nat->Nat):x.den b=v:=by
 cases x<;>simp_all [SV.val,SV.den]

def act(T:Array Value):Act:=⟨T,[]⟩

section ops
variable {c:Cx} {b:Nat->Nat} {st:St} {T:Array Value}

theorem ev_den(he:EnvOk b st.env T){x:Operand}{v:SV}(h:ev st x=some v):(act T).eval x=v.den b:=by
 cases x with
 |tmp t=>
  have:=he t v h
  simp[act,Act.eval,this]
 |const w=>
  cases w<;>simp only[ev]at h<;>(try (cases h;rfl))
  rename_i q;cases q<;>simp only[ev]at h<;>(cases h;rfl)
 |global g=>simp only[ev]at h;cases h;rfl
 |func f=>simp only[ev]at h;cases h;rfl

theorem evs_den(he:EnvOk b st.env T):∀{l:List Operand} {vs:List Value},evs st l=some vs->l.map (act T).eval=vs:=by
 intro l
 induction l with
 |nil=>intro vs h;simp only[evs]at h;cases h;rfl
 |cons x r ih=>
  intro vs h
  simp only[evs]at h
  cases hx:(ev st x).bind SV.val with
  |none=>simp[hx]at h
  |some v=>
   cases hr:evs st r with
   |none=>simp[hx,hr]at h
   |some ws=>
    simp only[hx,hr]at h
    cases h
    obtain⟨sv,h1,h2⟩:=Option.bind_eq_some_iff.1 hx
    simp[ih hr,ev_den he h1,val_den h2 b]

theorem rho_eq(he:EnvOk b st.env T){x:Operand}(h:((ev st x).bind SV.val).isSome=true):rho st x=(act T).eval x:=by
 obtain⟨v,hv⟩:=Option.isSome_iff_exists.1 h
 obtain⟨sv,h1,h2⟩:=Option.bind_eq_some_iff.1 hv
 simp[rho,hv,ev_den he h1,val_den h2 b]

theorem allVal_mem{l:List Operand}(h:allVal st l=true):∀x∈l,((ev st x).bind SV.val).isSome=true:=by
 induction l with
 |nil=>simp
 |cons y r ih=>
  simp only[allVal]at h
  cases hy:((ev st y).bind SV.val).isSome with
  |false=>simp[hy]at h
  |true=>
   simp only[hy]at h
   intro x hx
   rcases List.mem_cons.1 hx with rfl|hx
   ·exact hy
   ·exact ih h x hx

theorem purely_run{α:Type}{P:Program}{s:Sem α}{a:α}(h:purely P s=some a)(w:World):s.run P w= .ok a w:=by
 induction s with
 |pure x=>simp only[purely]at h;cases h;rfl
 |program k ih=>simp only[purely]at h;exact ih P h
 |_=>simp[purely]at h

theorem inR_wrap{k:IntKind}{n:Int}(h:inR k n):k.wrap n=n:=by
 cases k<;>simp only[inR]at h<;>simp only[IntKind.wrap,IntKind.bits,IntKind.signed]<;>simp<;>omega

def Gives(c:Cx)(b:Nat->Nat)(T:Array Value)(o:Oper)(Ok:World->Prop)(K:SV->Prop):Prop:=
 ∃x:SV,K x/\∀w,Ok w->(execOp (act T).eval o).run c.P w= .ok (.value (x.den b)) w

variable {o:Oper} {Ok:World->Prop} {K:SV->Prop}

theorem plainly_sound(he:EnvOk b st.env T)(hs:∀cs q,o.op≠ .select cs q)(h:plainly c o st K):Gives c b T o Ok K:=by
 unfold plainly at h
 cases hv:allVal st o.op.operands.toList with
 |false=>simp[hv]at h
 |true=>
  simp only[hv]at h
  have hr:execOp (act T).eval o=execOp (rho st) o:=execOp_congr o hs fun x hx=>(rho_eq he (allVal_mem hv x (by simpa using hx))).symm
  cases hp:purely c.P (execOp (rho st) o)with
  |none=>simp[hp]at h
  |some n=>
   cases n with
   |value v=>
    simp only[hp]at h
    exact⟨.v v,h,fun w _=>by rw[hr];exact purely_run hp w⟩
   |_=>simp[hp]at h

theorem num_sound{raw:Bool}{k:IntKind}{n:Int}(h:num raw k n K):∃m,K (.v (.int k m))/\k.wrap n=m:=by
 cases raw
 ·exact⟨n,h.2,inR_wrap h.1⟩
 ·exact⟨_,h,rfl⟩

theorem onBool_sound{x:SV}{B:Bool->Prop}(h:onBool x B):∃t,x.den b= .bool t/\B t:=by
 cases x with
 |t=>exact⟨true,rfl,h⟩
 |f=>exact⟨false,rfl,h⟩
 |p q hq=>
  by_cases hc:q
  ·exact⟨true,by simp[SV.den,hc],h.1 hc⟩
  ·exact⟨false,by simp[SV.den,hc],h.2 hc⟩
 |v w=>
  cases w<;>simp only[onBool]at h
  rename_i t
  cases t
  ·exact⟨false,rfl,h.2 rfl⟩
  ·exact⟨true,rfl,h.1 rfl⟩
 |_=>exact h.elim

theorem kindEq_eq{k l:IntKind}(h:kindEq k l=true):k=l:=by cases k<;>cases l<;>simp_all [kindEq]

theorem cmp_sound{op:BinOp}{k:IntKind}{x y:Int}(h:cmpInt op x y K):∃s:SV,K s/\∀P w,(Op.intCmp op x y).run P w= .ok (s.den b) w:=by
 cases op<;>simp only[cmpInt]at h<;>first|exact h.elim|skip
 ·have e:(x==y)=decide (x=y):=by rw[Bool.eq_iff_iff];simp
  exact⟨_,h,fun P w=>by simp[Op.intCmp,SV.den,e]⟩
 ·have e:(x !=y)=decide (x≠y):=by rw[Bool.eq_iff_iff];simp
  exact⟨_,h,fun P w=>by simp[Op.intCmp,SV.den,e]⟩
 ·exact⟨_,h,fun P w=>by simp[Op.intCmp,SV.den]⟩
 ·exact⟨_,h,fun P w=>by simp[Op.intCmp,SV.den]⟩
 ·exact⟨_,h,fun P w=>by simp[Op.intCmp,SV.den]⟩
 ·exact⟨_,h,fun P w=>by simp[Op.intCmp,SV.den]⟩

theorem binInt_sound{raw:Bool}{op:BinOp}{k:IntKind}{x y:Int}{t:TypeId}(h:binInt raw op k x y K):
  ∃s:SV,K s/\∀P w,(binOp op t (.int k x) (.int k y)).run P w= .ok (s.den b) w:=by
 have go:∀m,(∀P w,(binOp op t (.int k x) (.int k y)).run P w= .ok (.int k m) w)->K (.v (.int k m))->∃s:SV,K s/\∀P w,(binOp op t (.int k x) (.int k y)).run P w= .ok (s.den b) w:=fun m h1 h2=>⟨_,h2,h1⟩
 cases op<;>simp only[binInt]at h
 case shl=>exact go _ (fun P w=>by simp[binOp,shift_shl k k x y h.1.1 h.1.2,shlI]) h.2
 case shr=>exact go _ (fun P w=>by simp[binOp,shift_shr k k x y h.1.1 h.1.2,shrI]) h.2
 case and=>exact go _ (fun P w=>by simp[binOp,intBits_and]) h
 case or=>exact go _ (fun P w=>by simp[binOp,intBits_or]) h
 case xor=>exact go _ (fun P w=>by simp[binOp,intBits_xor]) h
 case andNot=>exact go _ (fun P w=>by simp[binOp,intBits_andNot]) h
 case add=>obtain⟨m,h1,h2⟩:=num_sound h;exact go m (fun P w=>by simp[binOp,Op.intArith,h2]) h1
 case sub=>obtain⟨m,h1,h2⟩:=num_sound h;exact go m (fun P w=>by simp[binOp,Op.intArith,h2]) h1
 case mul=>obtain⟨m,h1,h2⟩:=num_sound h;exact go m (fun P w=>by simp[binOp,Op.intArith,h2]) h1
 case quo=>
  cases raw
  ·obtain⟨⟨h0,h1,h2⟩,h3⟩:=h
   have e:x.tdiv y=x / y:=Int.tdiv_eq_ediv_of_nonneg h0
   have hr:inR k (x / y):=by
    have a:0<=x / y:=Int.ediv_nonneg h0 (by omega)
    have a2:x / y<=x:=Int.ediv_le_self y h0
    cases k<;>simp only[inR]at h2⊢<;>omega
   exact go _ (fun P w=>by simp[binOp,Op.intDiv,show y≠0 by omega,e,inR_wrap hr]) h3
  ·exact go _ (fun P w=>by simp[binOp,Op.intDiv,h.1]) h.2
 case rem=>
  cases raw
  ·obtain⟨⟨h0,h1⟩,h3⟩:=h
   exact go _ (fun P w=>by simp[binOp,Op.intDiv,show y≠0 by omega,Int.tmod_eq_emod_of_nonneg h0]) h3
  ·exact go _ (fun P w=>by simp[binOp,Op.intDiv,h.1]) h.2
 all_goals
  obtain⟨s,h1,h2⟩:=cmp_sound (b:=b) (k:=k) h
  exact⟨s,h1,fun P w=>by simpa[binOp]using h2 P w⟩

theorem beq_toList(a b:ByteArray):(a.toList==b.toList)=decide (a=b):=by
 rw[<-beq_toListBytes,Bool.eq_iff_iff]
 obtain⟨x⟩:=a
 obtain⟨y⟩:=b
 show(x==y)=true↔_
 simp

theorem binStr_sound{op:BinOp}{x y:ByteArray}{t:TypeId}(h:binStr op x y K):
  ∃s:SV,K s/\∀P w,(binOp op t (.string x) (.string y)).run P w= .ok (s.den b) w:=by
 cases op<;>simp only[binStr]at h<;>first|exact h.elim|skip
 case add=>exact⟨_,h.2,fun P w=>by simp[binOp,Op.stringOp,SV.den,IntKind.max,IntKind.signed,IntKind.bits];omega⟩
 case eql=>exact⟨_,h,fun P w=>by simp[binOp,Op.stringOp,SV.den,beq_toList]⟩
 case neq=>exact⟨_,h,fun P w=>by simp[binOp,Op.stringOp,SV.den,beq_toList]⟩

structure ReadOk (b:Nat->Nat) (st:St) (lw:Option World) (hold:Option (List Nat)) (w:World):Prop where
 box:∀l x,mayRead hold l=true->getBox st.boxes l=some x->w.heap[b l]? =some (.cells x.cells.toArray x.ty (0,0))
 cell:∀v,lw=some v->∀a u,v.cell? a=some u->w.cell? a=some u

theorem run_isAgg{P:Program}{t:TypeId}{d:TypeDesc}(h:P.underlying t=some d)(w:World):(isAgg t).run P w= .ok (isAggT P t) w:=by
 simp only[isAgg,isAggT,Sem.run_bind,run_underlying h,Result.andThen_ok,h]
 cases d<;>rfl

theorem run_loadCellsFrom{P:Program}(w:World)(a:Addr):∀(vs:List Value)(i:Nat)(acc:Array Value),(∀j,(h:j<vs.length)->w.cell? (a.add (i+j))=some vs[j])->
  (loadCellsFrom a i vs.length acc).run P w= .ok (acc++vs.toArray) w:=by
 intro vs
 induction vs with
 |nil=>intro i acc _;simp[loadCellsFrom]
 |cons v r ih=>
  intro i acc h
  have h0:=h 0 (by simp)
  simp only[Nat.add_zero,List.getElem_cons_zero]at h0
  have hr:=ih (i+1) (acc.push v) (fun j hj=>by have:=h (j+1) (by simpa using hj);simpa[Nat.add_assoc,Nat.add_comm 1 j]using this)
  simp only[List.length_cons,loadCellsFrom,Sem.run_bind]
  have hl:(load (a.add i)).run P w= .ok v w:=by simp[load,Sem.run,h0]
  rw[hl]
  simp only[Result.andThen_ok,hr]
  congr 1
  simp

theorem run_loadVar{P:Program}{t:TypeId}{d:TypeDesc}(ht:P.underlying t=some d)(w:World)(a:Addr)(v:Value)
  (hc:CellsAt w a v.cells.toList) (hv:match isAggT P t with
   |true=>∃cs:Array Value,v= .agg cs/\cs.size=P.cellsOf t
   |false=>v.cells= #[v]):(loadVar t a).run P w= .ok v w:=by
 simp only[loadVar,Sem.run_bind,run_isAgg ht,Result.andThen_ok]
 cases hg:isAggT P t with
 |true=>
  simp only[hg]at hv
  obtain⟨cs,rfl,hn⟩:=hv
  simp only[Value.cells]at hc
  have hi:∃i,P.info? t=some i:=by
   cases hh:P.info? t with
   |none=>simp[Program.underlying,hh]at ht
   |some i=>exact⟨i,rfl⟩
  obtain⟨i,hi⟩:=hi
  have hs:(sizeOf t).run P w= .ok (P.cellsOf t) w:=by simp[sizeOf,typeInfo,program,Sem.run_bind,Sem.run,hi,Program.cellsOf]
  have:=run_loadCellsFrom (P:=P) w a cs.toList 0 #[] (fun j hj=>by simpa using hc j hj)
  simp only[Array.length_toList,hn]at this
  simp[hs,loadCells,this]
 |false=>
  simp only[hg]at hv
  have h0:=hc 0 (by simp[hv])
  simp only[hv]at h0
  have h1:w.cell? a=some v:=by simpa[Addr.add]using h0
  simp[load,Sem.run,h1]

theorem cells_box{w:World}{n:Nat}{cells:List Value}{ty:Nat}{fr:Nat×Nat}(h:w.heap[n]? =some (.cells cells.toArray ty fr))(off i:Nat):
  w.cell? ((⟨n,off,none⟩:Addr).add i)=cells[off+i]? :=by
 by_cases hi:i=0
 ·subst hi;simp[Addr.add,World.cell?,h]
 ·simp[Addr.add,hi,World.cell?,h]

theorem exLf_some{l:Lf}{Q:Value->Prop}(h:exLf l Q):∃v,Q v/\(l≠ .any->v.cells= #[v]):=by
 cases l<;>simp only[exLf]at h
 ·obtain⟨n,h⟩:=h;exact⟨_,h,fun _=>rfl⟩
 ·obtain⟨n,h⟩:=h;exact⟨_,h,fun _=>rfl⟩
 ·obtain⟨n,h⟩:=h;exact⟨_,h,fun _=>rfl⟩
 ·obtain⟨A,n,k,h⟩:=h;exact⟨_,h,fun _=>rfl⟩
 ·obtain⟨A,n,k,h⟩:=h;exact⟨_,h,fun _=>rfl⟩
 ·obtain⟨n,h⟩:=h;exact⟨_,h,fun _=>rfl⟩
 ·obtain⟨n,h⟩:=h;exact⟨_,h,fun _=>rfl⟩
 ·obtain⟨v,h⟩:=h;exact⟨v,h,fun e=>absurd rfl e⟩

theorem exLfs_some:∀{l:List Lf} {Q:List Value->Prop},exLfs l Q->∃vs,vs.length=l.length/\Q vs:=by
 intro l
 induction l with
 |nil=>intro Q h;exact⟨[],rfl,h⟩
 |cons x r ih=>
  intro Q h
  obtain⟨v,h,_⟩:=exLf_some h
  obtain⟨vs,hl,h⟩:=ih h
  exact⟨v::vs,by simp[hl],h⟩

theorem exS1_some{s:S1}{Q:Value->Prop}(h:exS1 s Q):∃v,Q v:=by
 cases s with
 |one l=>obtain⟨v,h,_⟩:=exLf_some h;exact⟨v,h⟩
 |agg ls=>obtain⟨vs,_,h⟩:=exLfs_some h;exact⟨_,h⟩
theorem exS1s_some:∀{l:List S1} {Q:List Value->Prop},exS1s l Q->∃vs,Q vs:=by
 intro l
 induction l with
 |nil=>intro Q h;exact⟨[],h⟩
 |cons x r ih=>intro Q h;obtain⟨v,h⟩:=exS1_some h;obtain⟨vs,h⟩:=ih h;exact⟨_,h⟩
theorem exSh_some{s:Sh}{Q:Value->Prop}(h:exSh s Q):∃v,Q v:=by
 cases s with
 |s x=>exact exS1_some h
 |tup l=>obtain⟨vs,h⟩:=exS1s_some h;exact⟨_,h⟩

theorem boxLoad_sound{P:Program}{t:TypeId}{l off:Nat}{v:Value}{w:World}(h:boxLoad P st.boxes t l off=some v)
  (hb:∀x,getBox st.boxes l=some x->w.heap[b l]? =some (.cells x.cells.toArray x.ty (0,0))):(loadVar t ⟨b l,off,none⟩).run P w= .ok v w:=by
 unfold boxLoad at h
 cases hx:getBox st.boxes l with
 |none=>simp[hx]at h
 |some x=>
  have hh:=hb x hx
  cases ht:P.underlying t with
  |none=>simp[hx,ht]at h
  |some d=>
   simp only[hx,ht]at h
   cases hg:isAggT P t with
   |true=>
    simp only[hg]at h
    cases hle:Nat.ble (off+P.cellsOf t) x.cells.length with
    |false=>simp[hle]at h
    |true=>
     simp only[hle]at h
     cases h
     have hle:=Nat.le_of_ble_eq_true hle
     have hlen:(cutCells x.cells off (P.cellsOf t)).length=P.cellsOf t:=by simp[cutCells];omega
     refine run_loadVar ht w _ _ ?_ (by simp only[hg];exact⟨_,rfl,by simp[hlen]⟩)
     intro i hi
     rw[cells_box hh]
     simp only[Value.cells]at hi⊢
     have:i<P.cellsOf t:=by simpa[hlen]using hi
     simp[cutCells,List.getElem?_eq_getElem (show off+i<x.cells.length by omega)]
   |false=>
    simp only[hg]at h
    have h0:w.cell? ⟨b l,off,none⟩=some v:=by simpa[Addr.add]using(cells_box hh off 0).trans h
    simp only[loadVar,Sem.run_bind,run_isAgg ht,Result.andThen_ok,hg]
    simp[load,Sem.run,h0]

theorem memLoad_sound{P:Program}{t:TypeId}{a:Addr}{v:World}(h:memLoad P v a t K):
  ∃u,K (.v u)/\∀w,(∀a' u',v.cell? a'=some u'->w.cell? a'=some u')->(loadVar t a).run P w= .ok u w:=by
 unfold memLoad at h
 cases ht:P.underlying t with
 |none=>simp[ht]at h
 |some d=>
  simp only[ht]at h
  cases hg:isAggT P t with
  |true=>
   simp only[hg]at h
   cases hle:Nat.beq (lfs P 8 t).length (P.cellsOf t)with
   |false=>simp[hle]at h
   |true=>
    simp only[hle]at h
    obtain⟨vs,hl,hc,hK⟩:=exLfs_some h
    refine⟨_,hK,fun w hw=>run_loadVar ht w a _ (fun i hi=>hw _ _ (hc i (by simpa[Value.cells]using hi))) ?_⟩
    simp only[hg]
    exact⟨_,rfl,by simp[hl,beq_true hle]⟩
  |false=>
   simp only[hg]at h
   cases hl:lfs P 8 t with
   |nil=>simp[hl]at h
   |cons l r=>
    simp only[hl]at h
    obtain⟨u,⟨hc,hK⟩,hu⟩:=exLf_some h
    refine⟨u,hK,fun w hw=> ?_⟩
    have h0:=hw _ _ (hc 0 (by simp))
    have h1:w.cell? a=some u:=by simpa[Addr.add]using h0
    simp only[loadVar,Sem.run_bind,run_isAgg ht,Result.andThen_ok,hg]
    simp[load,Sem.run,h1]

theorem withV_some{x:Option SV}{Q:SV->Prop}(h:withV x Q):∃v,x=some v/\Q v:=by
 cases x with
 |none=>exact h.elim
 |some v=>exact⟨v,rfl,h⟩

def Bd(v:Option Value)(n:Option Int):Prop:=match v,n with
 |none,none=>True
 |some y,some m=>∃k,y= .int k m
 |_,_=>False

theorem bound_some{x:Option Operand}{Q:Option Int->Prop}(he:EnvOk b st.env T)(h:bound st x Q):
  ∃n:Option Int,Q n/\Bd (x.map (act T).eval) n:=by
 cases x with
 |none=>exact⟨none,h,trivial⟩
 |some y=>
  unfold bound at h
  simp only at h
  cases hy:ev st y with
  |none=>simp[hy]at h
  |some v=>
   cases v with
   |v u=>
    cases u with
    |int k n=>simp only[hy]at h;exact⟨some n,h,k,ev_den he hy⟩
    |_=>simp[hy]at h
   |_=>simp[hy]at h

theorem run_sliceBound{P:Program}{k:IntKind}{n:Int}{y:Nat}{code:BoundsCode}(w:World)(h:0<=n/\n<=y):(Instr.sliceBound (.int k n) y code).run P w= .ok n.toNat w:=by
 simp[Instr.sliceBound,asIntOf,h]

theorem run_sizeOf{P:Program}{t:TypeId}{d:TypeDesc}(ht:P.underlying t=some d)(w:World):(sizeOf t).run P w= .ok (P.cellsOf t) w:=by
 have hi:∃i,P.info? t=some i:=by
  cases hh:P.info? t with
  |none=>simp[Program.underlying,hh]at ht
  |some i=>exact⟨i,rfl⟩
 obtain⟨i,hi⟩:=hi
 simp[sizeOf,typeInfo,program,Sem.run_bind,Sem.run,hi,Program.cellsOf]
end ops
section
variable {c:Cx} {b:Nat->Nat} {st:St} {T:Array Value} {o:Oper} {K:SV->Prop}

theorem known_some{P:Program}{t:TypeId}(h:known P t=true):∃d,P.underlying t=some d:=by
 unfold known at h
 cases ht:P.underlying t with
 |none=>simp[ht]at h
 |some d=>exact⟨d,rfl⟩

theorem slices_sound{P:Program}{t:TypeId}{x:SV}{lo hi:Option Int}{lv hv:Option Value}(h:slices P t x lo hi K)
  (hl:Bd lv lo) (hh:Bd hv hi):
  ∃s:SV,K s/\∀w,(Instr.sliceAt t (x.den b) lv hv none).run P w= .ok (s.den b) w:=by
 unfold slices at h
 revert h
 generalize ht:P.underlying t=u0
 intro h
 cases u0 with
 |none=>exact h.elim
 |some d=>
  cases x with
  |v u=>
   cases d<;>cases u<;>first|exact h.elim|skip
   ·-- a string
    rename_i s
    cases lo<;>cases hi<;>cases lv<;>cases hv<;>first|exact hl.elim|exact hh.elim|skip
    all_goals (simp only[Bd]at hl hh;simp only at h;(try obtain⟨kl,rfl⟩:=hl);(try obtain⟨kh,rfl⟩:=hh))
    ·refine⟨_,h,fun w=> ?_⟩
     simp[Instr.sliceAt,Instr.slice,Instr.sliceBounds,Sem.run_bind,run_underlying ht,SV.den]
    ·refine⟨_,h.2,fun w=> ?_⟩
     simp[Instr.sliceAt,Instr.slice,Instr.sliceBounds,Sem.run_bind,run_underlying ht,SV.den,run_sliceBound w h.1]
    ·refine⟨_,h.2,fun w=> ?_⟩
     simp[Instr.sliceAt,Instr.slice,Instr.sliceBounds,Sem.run_bind,run_underlying ht,SV.den,run_sliceBound w h.1]
    ·have h1:0<=(‹Int›:Int):=by omega
     refine⟨_,h.2,fun w=> ?_⟩
     have h2:=h.1
     rw[Instr.sliceAt]
     simp only[Sem.run_bind,run_underlying ht,Result.andThen_ok,SV.den]
     simp only[Instr.slice,Instr.sliceBounds,Sem.run_bind,run_underlying ht,Result.andThen_ok,Option.isSome_none,Bool.false_eq_true,if_false,Sem.run_pure]
     rw[run_sliceBound w (by omega)]
     simp only[Result.andThen_ok]
     rw[run_sliceBound w (by omega)]
     simp
   ·-- a slice
    rename_i e A n cap
    simp only at h
    cases hk:known P e with
    |false=>rw[hk]at h;exact h.elim
    |true=>
    rw[hk]at h
    obtain⟨de,he⟩:=known_some hk
    cases lo<;>cases hi<;>cases lv<;>cases hv<;>first|exact hl.elim|exact hh.elim|skip
    all_goals (simp only[Bd]at hl hh;simp only at h;(try obtain⟨kl,rfl⟩:=hl);(try obtain⟨kh,rfl⟩:=hh))
    ·refine⟨_,h,fun w=> ?_⟩
     simp[Instr.sliceAt,Instr.slice,Instr.sliceBounds,Sem.run_bind,run_underlying ht,SV.den,run_sizeOf he]
     intro _
     cases A<;>simp[Addr.add]
    ·refine⟨_,h.2,fun w=> ?_⟩
     simp[Instr.sliceAt,Instr.slice,Instr.sliceBounds,Sem.run_bind,run_underlying ht,SV.den,run_sizeOf he,run_sliceBound w h.1]
     intro _
     cases A<;>simp[Addr.add]
    ·refine⟨_,h.2,fun w=> ?_⟩
     simp[Instr.sliceAt,Instr.slice,Instr.sliceBounds,Sem.run_bind,run_underlying ht,SV.den,run_sizeOf he,run_sliceBound w ⟨h.1.1,h.1.2.1⟩,cutAddr]
    ·refine⟨_,h.2,fun w=> ?_⟩
     have h2:=h.1
     rw[Instr.sliceAt]
     simp only[Sem.run_bind,run_underlying ht,Result.andThen_ok,SV.den]
     simp only[Instr.slice,Instr.sliceBounds,Sem.run_bind,run_underlying ht,Result.andThen_ok,Option.isSome_none,Bool.false_eq_true,if_false,Sem.run_pure,if_true]
     rw[run_sliceBound w (by omega)]
     simp only[Result.andThen_ok]
     rw[run_sliceBound w (by omega)]
     simp[run_sizeOf he,cutAddr]
  |_=>cases d<;>exact h.elim

theorem bt_eq{s:ByteArray}{j:Int}(h:0<=j/\j<s.size):∃x:UInt8,s[j.toNat]? =some x/\(x.toNat:Int)=bt s j:=by
 have hlt:j.toNat<s.size:=by omega
 refine⟨s[j.toNat],by simp[hlt],?_⟩
 obtain⟨⟨d⟩⟩:=s
 simp only[bt]
 congr 2
 have h2:j.toNat<d.length:=hlt
 show d[j.toNat]=d.getD j.toNat 0
 simp[List.getD_eq_getElem?_getD,List.getElem?_eq_getElem h2]

theorem fieldOf_some{P:Program}{t:TypeId}{f:Nat}{fd:Field}(h:fieldOf P t f=some fd):∃fs,P.underlying t=some (.struct fs)/\fs[f]? =some fd:=by
 unfold fieldOf at h
 cases ht:P.underlying t with
 |none=>simp[ht]at h
 |some d=>
  cases d<;>simp[ht]at h
  exact⟨_,rfl,h⟩

theorem run_fieldAt{P:Program}{t:TypeId}{f:Nat}{fd:Field}(h:fieldOf P t f=some fd)(hz:Nat.beq (P.cellsOf fd.type) 0=false)(a:Addr)(w:World):
  (Instr.fieldAt t (.pointer (some a)) f).run P w= .ok (.pointer (some (a.add fd.offset))) w:=by
 obtain⟨fs,h1,h2⟩:=fieldOf_some h
 have hz':=beq_false hz
 have hi:∃i,P.info? fd.type=some i:=by
  cases hh:P.info? fd.type with
  |none=>simp[Program.cellsOf,hh]at hz'
  |some i=>exact⟨i,rfl⟩
 obtain⟨i,hi⟩:=hi
 have hs:(sizeOf fd.type).run P w= .ok (P.cellsOf fd.type) w:=by simp[sizeOf,typeInfo,program,Sem.run_bind,Sem.run,hi,Program.cellsOf]
 simp[Instr.fieldAt,Sem.run_bind,run_underlying h1,h2,Instr.sureAddr,fieldPlace,hs,hz']

theorem add_none(n off k:Nat):(⟨n,off,none⟩:Addr).add k=⟨n,off+k,none⟩:=by
 unfold Addr.add;split<;>simp_all
end
section
variable {c:Cx} {b:Nat->Nat} {st:St} {T:Array Value} {o:Oper} {K:SV->Prop}

theorem eqCells_append:∀{l1 l2:List Lf} {a b r s:List Value} {dp:DP},a.length=l1.length->b.length=l1.length->eqCells (l1++l2) (a++r) (b++s)=some dp->
  ∃d1 d2,eqCells l1 a b=some d1/\eqCells l2 r s=some d2/\(dp.q↔d1.q/\d2.q):=by
 intro l1
 induction l1 with
 |nil=>
  intro l2 a b r s dp ha hb h
  have ea:a=[]:=List.eq_nil_of_length_eq_zero ha
  have eb:b=[]:=List.eq_nil_of_length_eq_zero hb
  subst ea;subst eb
  exact⟨⟨True,inferInstance⟩,dp,rfl,h,by simp⟩
 |cons x l1 ih=>
  intro l2 a b r s dp ha hb h
  cases a with
  |nil=>simp at ha
  |cons u a=>
   cases b with
   |nil=>simp at hb
   |cons v b=>
    simp only[List.length_cons,Nat.add_right_cancel_iff]at ha hb
    simp only[List.cons_append]at h
    cases x<;>cases u<;>cases v<;>simp only[eqCells]at h<;>try (cases h;done)
    ·rename_i k0 k x l y
     cases hk:kindEq k l with
     |false=>rw[hk]at h;simp at h
     |true=>
      cases he:eqCells (l1++l2) (a++r) (b++s)with
      |none=>rw[he]at h;simp at h
      |some d=>
       rw[hk,he]at h
       simp only at h
       cases h
       obtain⟨d1,d2,h1,h2,h3⟩:=ih ha hb he
       exact⟨⟨x=y/\d1.q,by have:=d1.h;exact inferInstance⟩,d2,by simp only[eqCells,hk,h1],h2,by simp[h3,and_assoc]⟩
    ·rename_i x y
     cases he:eqCells (l1++l2) (a++r) (b++s)with
     |none=>rw[he]at h;simp at h
     |some d=>
      rw[he]at h
      simp only at h
      cases h
      obtain⟨d1,d2,h1,h2,h3⟩:=ih ha hb he
      exact⟨⟨x=y/\d1.q,by have:=d1.h;exact inferInstance⟩,d2,by simp only[eqCells,h1],h2,by simp[h3,and_assoc]⟩
    ·rename_i x y
     cases he:eqCells (l1++l2) (a++r) (b++s)with
     |none=>rw[he]at h;simp at h
     |some d=>
      rw[he]at h
      simp only at h
      cases h
      obtain⟨d1,d2,h1,h2,h3⟩:=ih ha hb he
      exact⟨⟨x=y/\d1.q,by have:=d1.h;exact inferInstance⟩,d2,by simp only[eqCells,h1],h2,by simp[h3,and_assoc]⟩

theorem decide_congr'{p q:Prop}{hp:Decidable p}{hq:Decidable q}(h:p↔q): @decide p hp= @decide q hq:=by
 by_cases e:p
 ·simp[e,h.1 e]
 ·have:¬q:=fun k=>e (h.2 k)
  simp[e,this]

def wholeV(P:Program)(t:TypeId)(cs:List Value):Value:=match isAggT P t with
 |true=> .agg cs.toArray
 |false=>cs.headD undef

theorem eqOk_lfs{P:Program}:∀(n:Nat) {t:TypeId},eqOk P n t=true->(lfs P n t).length=P.cellsOf t/\∃d,P.underlying t=some d:=by
 intro n
 induction n with
 |zero=>intro t h;simp[eqOk]at h
 |succ n ih=>
  intro t h
  simp only[eqOk]at h
  simp only[lfs]
  cases ht:P.underlying t with
  |none=>simp[ht]at h
  |some d=>
   rw[ht]at h
   refine⟨?_,d,rfl⟩
   cases d<;>simp only at h⊢<;>try (simp at h;done)
   case int k=>simpa using(beq_true h).symm
   case bool=>simpa using(beq_true h).symm
   case string=>simpa using(beq_true h).symm
   case struct fs=>
    simp only[Bool.and_eq_true,List.all_eq_true]at h
    obtain⟨⟨_,h2⟩,h3⟩:=h
    have gen:∀(l:List Field)(off m:Nat),(∀f∈l,eqOk P n f.type=true)->tiled P off l m=true->(l.flatMap fun f=>lfs P n f.type).length+off=m:=by
     intro l
     induction l with
     |nil=>intro off m _ ht;simp only[tiled]at ht;simpa using beq_true ht
     |cons f r ihl=>
      intro off m hf ht
      simp only[tiled,Bool.and_eq_true]at ht
      have h1:=(ih (hf f (by simp))).1
      have h2:=ihl _ _ (fun g hg=>hf g (by simp[hg])) ht.2
      simp only[List.flatMap_cons,List.length_append,h1]
      omega
    have:=gen fs.toList 0 (P.cellsOf t) (fun f hf=>(h3 f hf).2) h2
    simpa using this

theorem run_part{P:Program}{t:TypeId}{d:TypeDesc}(ht:P.underlying t=some d){cs:List Value}{off:Nat}(h:off+P.cellsOf t<=cs.length)(h1:isAggT P t=false->P.cellsOf t=1)(w:World):
  (part t cs.toArray off).run P w= .ok (wholeV P t ((cs.drop off).take (P.cellsOf t))) w:=by
 simp only[part,Sem.run_bind,run_isAgg ht,Result.andThen_ok,wholeV]
 cases hg:isAggT P t with
 |true=>
  simp only[if_true,Sem.run_bind,run_sizeOf ht,Result.andThen_ok,Sem.run_pure]
  congr 2
  apply Array.ext'
  simp[List.take_drop,Nat.add_comm]
 |false=>
  have hs:=h1 hg
  rw[hs]at h⊢
  have hlt:off<cs.length:=by omega
  simp only[Bool.false_eq_true,if_false]
  have e:cs.toArray[off]? =some cs[off]:=by simp[hlt]
  rw[e]
  simp only[Sem.run_pure]
  congr 1
  rw[List.drop_eq_getElem_cons hlt]
  rfl

theorem equalIn_ok{P:Program}:∀(n:Nat) {t:TypeId} (d:Nat),eqOk P n t=true->n<=d->∀(cs ds:List Value)(dp:DP),cs.length=P.cellsOf t->ds.length=P.cellsOf t->eqCells (lfs P n t) cs ds=some dp->
  ∀w,(Op.equalIn d t (wholeV P t cs) (wholeV P t ds)).run P w= .ok (@decide dp.q dp.h) w:=by
 intro n
 induction n with
 |zero=>intro t d h;simp[eqOk]at h
 |succ n ih=>
  intro t d h hd cs ds dp hc hds he w
  obtain⟨d,rfl⟩:∃m,d=m+1:=⟨d - 1,by omega⟩
  have h0:=h
  simp only[eqOk]at h
  simp only[lfs]at he
  cases ht:P.underlying t with
  |none=>simp[ht]at h
  |some td=>
   rw[ht]at h he
   cases td<;>simp only at h he<;>try (simp at h;done)
   case int k0=>
    have h1:=beq_true h
    have hg:isAggT P t=false:=by simp[isAggT,ht]
    rw[h1]at hc hds
    obtain⟨x,rfl⟩:=List.length_eq_one_iff.1 hc
    obtain⟨y,rfl⟩:=List.length_eq_one_iff.1 hds
    cases x<;>cases y<;>simp only[eqCells]at he<;>try (simp at he;done)
    rename_i k x l y
    cases hk:kindEq k l with
    |false=>rw[hk]at he;simp at he
    |true=>
     rw[hk]at he
     simp only[Option.some.injEq]at he
     subst he
     have hkl:=kindEq_eq hk
     have e:(x==y)=decide (x=y):=by rw[Bool.eq_iff_iff];simp
     rw[Op.equalIn]
     simp[wholeV,hg,Sem.run_bind,run_underlying ht,hkl,e]
   case bool=>
    have h1:=beq_true h
    have hg:isAggT P t=false:=by simp[isAggT,ht]
    rw[h1]at hc hds
    obtain⟨x,rfl⟩:=List.length_eq_one_iff.1 hc
    obtain⟨y,rfl⟩:=List.length_eq_one_iff.1 hds
    cases x<;>cases y<;>simp only[eqCells]at he<;>try (simp at he;done)
    rename_i x y
    simp only[Option.some.injEq]at he
    subst he
    have e:(x==y)=decide (x=y):=by cases x<;>cases y<;>rfl
    rw[Op.equalIn]
    simp[wholeV,hg,Sem.run_bind,run_underlying ht,e]
   case string=>
    have h1:=beq_true h
    have hg:isAggT P t=false:=by simp[isAggT,ht]
    rw[h1]at hc hds
    obtain⟨x,rfl⟩:=List.length_eq_one_iff.1 hc
    obtain⟨y,rfl⟩:=List.length_eq_one_iff.1 hds
    cases x<;>cases y<;>simp only[eqCells]at he<;>try (simp at he;done)
    rename_i x y
    simp only[Option.some.injEq]at he
    subst he
    have e:(x==y)=decide (x=y):=by
     rw[Bool.eq_iff_iff]
     obtain⟨x⟩:=x
     obtain⟨y⟩:=y
     show(x==y)=true↔_
     simp
    rw[Op.equalIn]
    simp[wholeV,hg,Sem.run_bind,run_underlying ht,e]
   case struct fs=>
    have hg:isAggT P t=true:=by simp[isAggT,ht]
    simp only[Bool.and_eq_true,List.all_eq_true,Bool.not_eq_true']at h
    obtain⟨⟨hsi,htl⟩,hfs⟩:=h
    have hfo:P.fieldsOf t=fs:=by simp[Program.fieldsOf,ht]
    simp only[wholeV,hg]
    rw[run_equalIn_struct w d t _ _ (by rw[hfo];exact ht) hsi,hfo]
    have gen : ∀ (l : List Field) (off : Nat) (dq : DP) (w : World), (∀ f ∈ l, f.name ≠ "_" ∧ eqOk P n f.type = true) → tiled P off l (P.cellsOf t) = true →
      eqCells (l.flatMap fun f=>lfs P n f.type) (cs.drop off) (ds.drop off)=some dq->(Op.eqFields d cs.toArray ds.toArray l).run P w= .ok (@decide dq.q dq.h) w:=by
     intro l
     induction l with
     |nil=>
      intro off dq w _ htl he
      simp only[tiled]at htl
      have:=beq_true htl
      have e1:cs.drop off=[]:=List.drop_eq_nil_of_le (by omega)
      have e2:ds.drop off=[]:=List.drop_eq_nil_of_le (by omega)
      rw[e1,e2]at he
      simp only[List.flatMap_nil,eqCells,Option.some.injEq]at he
      subst he
      simp[Op.eqFields]
     |cons f r ihl=>
      intro off dq w hf htl he
      simp only[tiled,Bool.and_eq_true]at htl
      have hoff:=beq_true htl.1
      obtain⟨hn,hok⟩:=hf f (by simp)
      obtain⟨hlen,fd,hfd⟩:=eqOk_lfs n hok
      have hbound:off+P.cellsOf f.type<=P.cellsOf t:=by
       have:∀(l:List Field)(o m:Nat),tiled P o l m=true->o<=m:=by
        intro l
        induction l with
        |nil=>intro o m h;simp only[tiled]at h;have:=beq_true h;omega
        |cons f r ih=>intro o m h;simp only[tiled,Bool.and_eq_true]at h;have:=ih _ _ h.2;omega
       exact this r _ _ htl.2
      have ec:cs.drop off=(cs.drop off).take (P.cellsOf f.type)++cs.drop (off+P.cellsOf f.type):=by rw[<-List.drop_drop];exact(List.take_append_drop _ _).symm
      have ed:ds.drop off=(ds.drop off).take (P.cellsOf f.type)++ds.drop (off+P.cellsOf f.type):=by rw[<-List.drop_drop];exact(List.take_append_drop _ _).symm
      rw[ec,ed,List.flatMap_cons]at he
      have lc:((cs.drop off).take (P.cellsOf f.type)).length=P.cellsOf f.type:=by simp;omega
      have ld:((ds.drop off).take (P.cellsOf f.type)).length=P.cellsOf f.type:=by simp;omega
      obtain⟨d1,d2,h1,h2,h3⟩:=eqCells_append (by rw[lc,hlen]) (by rw[ld,hlen]) he
      have hone:isAggT P f.type=false->P.cellsOf f.type=1:=fun hg=>by
       cases n with
       |zero=>simp[eqOk]at hok
       |succ n=>
        simp only[eqOk,hfd]at hok
        simp only[isAggT,hfd]at hg
        cases fd<;>simp only at hok hg<;>first|exact beq_true hok|(simp at hok;done)|(simp at hg;done)
      have r1:=ih d hok (by omega) _ _ d1 lc ld h1 w
      have r2:=ihl _ d2 w (fun g hg=>hf g (by simp[hg])) htl.2 h2
      simp only[Op.eqFields,hn,ne_eq,not_false_eq_true,if_true,Sem.run_bind,hoff,run_part hfd (cs:=cs) (off:=off) (by omega) hone,run_part hfd (cs:=ds) (off:=off) (by omega) hone,Result.andThen_ok,r1]
      have hd1:=d1.h
      by_cases c1:d1.q
      ·simp only[c1,decide_true,Bool.not_true,Bool.false_eq_true,if_false,r2]
       congr 1
       exact decide_congr' (by rw[h3];simp[c1])
      ·simp only[c1,decide_false,Bool.not_false,if_true,Sem.run_pure]
       congr 1
       have:¬dq.q:=fun k=>c1 (h3.1 k).1
       simp[this]
    exact gen fs.toList 0 dp w (fun f hf=>by have:=hfs f hf;simpa using this) htl (by simpa using he)

theorem structEq_sound{P:Program}{t:TypeId}{xs ys:Array Value}{q:Prop}{hq:Decidable q}(h1:(isStruct P t&&eqOk P 6 t)=true)(h2:eqCells (lfs P 6 t) xs.toList ys.toList=some ⟨q,hq⟩)(hx:xs.size=P.cellsOf t)(hy:ys.size=P.cellsOf t)
  (w:World):(Op.equal t (.agg xs) (.agg ys)).run P w= .ok (@decide q hq) w:=by
 simp only[Bool.and_eq_true]at h1
 have hg:isAggT P t=true:=by
  have:=h1.1
  unfold isStruct at this
  unfold isAggT
  split at this<;>simp_all
 have:=equalIn_ok 6 10000 h1.2 (by decide) xs.toList ys.toList ⟨q,hq⟩ (by simpa using hx) (by simpa using hy) h2 w
 simp only[wholeV,hg]at this
 exact this

theorem run_eqGuard_plain{P:Program}{op:BinOp}{t:TypeId}{x y:Operand}{u v:Value}(w:World)(h1:∀q,u≠ .agg q)(h2:u≠ .nilIface):(eqGuard op t x y u v).run P w= .ok () w:=by
 unfold eqGuard
 cases op<;>cases u<;>simp_all

theorem equalIn_nil{P:Program}{t e:TypeId}{A:Option Addr}{n m:Nat}(d:Nat)(ht:P.underlying t=some (.slice e))(w:World):
  (Op.equalIn (d+1) t (.slice A n m) (.slice none 0 0)).run P w= .ok (decide (A=none)) w:=by
 rw[Op.equalIn]
 cases A<;>simp[Sem.run_bind,run_underlying ht]
theorem equalIn_bool{P:Program}{t:TypeId}{x y:Bool}(d:Nat)(ht:P.underlying t=some .bool)(w:World):
  (Op.equalIn (d+1) t (.bool x) (.bool y)).run P w= .ok (decide (x=y)) w:=by
 have e:(x==y)=decide (x=y):=by cases x<;>cases y<;>rfl
 rw[Op.equalIn]
 simp[Sem.run_bind,run_underlying ht,e]

theorem eqGuard_plain_agg {P : Program} {op : BinOp} {t : TypeId} {x y : Operand} {xs ys : Array Value} (h : (isStruct P t && eqOk P 6 t) = true) (w : World) :
    (eqGuard op t x y (.agg xs) (.agg ys)).run P w = .ok () w := by
  have hgt : ∀ (n : Nat) (d : Nat) (t : TypeId), eqOk P n t = true → n ≤ d → P.eqGuardType d t = false := by
    intro n
    induction n with
    | zero => intro d t h; simp [eqOk] at h
    | succ n ih =>
      intro d t h hd
      obtain ⟨d, rfl⟩ : ∃ m, d = m + 1 := ⟨d - 1, by omega⟩
      simp only [eqOk] at h
      simp only [Program.eqGuardType]
      cases ht : P.underlying t with
      | none => rfl
      | some td =>
        rw [ht] at h
        cases td <;> simp only at h ⊢ <;> try (simp at h; done)
        rename_i fs
        simp only [Bool.and_eq_true, List.all_eq_true] at h
        rw [← Array.any_toList]
        rw [List.any_eq_false]
        intro f hf
        have := h.2 f hf
        simp only [Bool.and_eq_true]
        rw [ih d f.type this.2 (by omega)]
        simp
  simp only [Bool.and_eq_true] at h
  have hdepth : 6 ≤ P.depth := by unfold Program.depth; have : Made.depth ≥ 2 := by decide
                                  omega
  have := hgt 6 P.depth t h.2 hdepth
  unfold eqGuard
  cases op <;> simp [Sem.run_bind, program, Sem.run, this]

theorem boolOf_den{x:SV}{t:Bool}(h:boolOf x=some t):x.den b= .bool t:=by
 cases x with
 |v u=>cases u<;>simp_all [boolOf,SV.den]
 |_=>simp_all [boolOf,SV.den]

set_option maxHeartbeats 1000000 in
theorem each_at{j:Int}{n:Nat}{Q:Nat->Prop}(h:each j n Q){k:Nat}(hk:k<n)(e:j=(k:Int)):Q k:=by
 induction n with
 |zero=>omega
 |succ n ih=>
  simp only[each]at h
  by_cases e2:k=n
  ·subst e2;exact h.2 e
  ·exact ih h.1 (by omega)

theorem value_sound {raw : Bool} {lw : Option World} {hold : Option (List Nat)} {Ok : World → Prop} (hOk : isLoad o = true → ∀ w, Ok w → ReadOk b st lw hold w) (he : EnvOk b st.env T) (hs : ∀ cs q, o.op ≠ .select cs q) (h : value c raw lw hold o st K) :
    Gives c b T o Ok K := by
  unfold value at h
  cases hop : o.op <;> simp only [hop] at h <;> try exact plainly_sound he hs h
  case move x =>
    obtain ⟨v, hv, hK⟩ := withV_some h
    exact ⟨v, hK, fun w _ => by simp [execOp, hop, ev_den he hv]⟩
  case assign x =>
    obtain ⟨v, hv, hK⟩ := withV_some h
    exact ⟨v, hK, fun w _ => by simp [execOp, hop, ev_den he hv]⟩
  case pick cnd x y =>
    obtain ⟨v, hv, hB⟩ := withV_some h
    obtain ⟨t, ht, h⟩ := onBool_sound (b := b) hB
    cases t
    · obtain ⟨u1, hu, hK⟩ := withV_some h
      exact ⟨u1, hK, fun w _ => by simp [execOp, hop, ev_den he hv, ht, asBool, ev_den he hu]⟩
    · obtain ⟨u1, hu, hK⟩ := withV_some h
      exact ⟨u1, hK, fun w _ => by simp [execOp, hop, ev_den he hv, ht, asBool, ev_den he hu]⟩
  case unOp u t x =>
    cases u <;> simp only at h <;> try exact plainly_sound he hs h
    · cases hx : ev st x with
      | none => simp [hx] at h
      | some v =>
        rw [hx] at h
        cases v with
        | v a =>
          cases a <;> try exact h.elim
          rename_i k n
          obtain ⟨m, h1, h2⟩ := num_sound h
          exact ⟨_, h1, fun w _ => by simp [execOp, hop, ev_den he hx, SV.den, Op.unary, Op.intArith, ← h2]⟩
        | _ => exact h.elim
    · cases hx : ev st x with
      | none => simp [hx] at h
      | some v =>
        rw [hx] at h
        cases v with
        | v a =>
          cases a <;> try exact h.elim
          rename_i t
          exact ⟨_, h, fun w _ => by cases t <;> simp [execOp, hop, ev_den he hx, SV.den, Op.unary]⟩
        | t => exact ⟨_, h, fun w _ => by simp [execOp, hop, ev_den he hx, SV.den, Op.unary]⟩
        | f => exact ⟨_, h, fun w _ => by simp [execOp, hop, ev_den he hx, SV.den, Op.unary]⟩
        | p q hq => exact ⟨_, h, fun w _ => by by_cases hc : q <;> simp [execOp, hop, ev_den he hx, SV.den, Op.unary, hc]⟩
        | _ => exact h.elim
  case convert src dst x =>
    cases hd : c.P.underlying dst with
    | none => rw [hd] at h; exact plainly_sound he hs h
    | some d =>
      cases hx : ev st x with
      | none => rw [hd, hx] at h; cases d <;> exact plainly_sound he hs h
      | some v =>
        rw [hd, hx] at h
        cases d <;> try exact plainly_sound he hs h
        cases v <;> try exact plainly_sound he hs h
        rename_i k a
        cases a <;> try exact plainly_sound he hs h
        rename_i k' n
        simp only at h
        cases hk : known c.P src with
        | false => rw [hk] at h; exact h.elim
        | true =>
          rw [hk] at h
          obtain ⟨ds, hsrc⟩ := known_some hk
          obtain ⟨m, h1, h2⟩ := num_sound h
          exact ⟨_, h1, fun w _ => by simp [execOp, hop, ev_den he hx, SV.den, Go.convert, Sem.run_bind, run_underlying hsrc, run_underlying hd, Conv.intToInt, h2]⟩
  case nilCheck x =>
    cases hx : ev st x with
    | none => simp [hx] at h
    | some v =>
      rw [hx] at h
      cases v with
      | loc l off => exact ⟨_, h, fun w _ => by simp [execOp, hop, ev_den he hx, SV.den]⟩
      | v a =>
        cases a <;> try exact h.elim
        · rename_i q; cases q <;> try exact h.elim
          exact ⟨_, h, fun w _ => by simp [execOp, hop, ev_den he hx, SV.den]⟩
        · rename_i q _ _; cases q <;> try exact h.elim
          exact ⟨_, h, fun w _ => by simp [execOp, hop, ev_den he hx, SV.den]⟩
      | _ => exact h.elim
  case fieldAddr s x f =>
    cases hf : fieldOf c.P s f with
    | none => simp [hf] at h
    | some fd =>
      rw [hf] at h
      simp only at h
      cases hz : Nat.beq (c.P.cellsOf fd.type) 0 with
      | true => simp [hz] at h
      | false =>
        rw [hz] at h
        simp only at h
        cases hx : ev st x with
        | none => simp [hx] at h
        | some v =>
          rw [hx] at h
          cases v with
          | loc l off => exact ⟨_, h, fun w _ => by simp [execOp, hop, ev_den he hx, SV.den, run_fieldAt hf hz, add_none]⟩
          | v a =>
            cases a <;> try exact h.elim
            rename_i q; cases q <;> try exact h.elim
            exact ⟨_, h, fun w _ => by simp [execOp, hop, ev_den he hx, SV.den, run_fieldAt hf hz]⟩
          | _ => exact h.elim
  case slice t x lo hi mx =>
    cases mx with
    | some m => simp only at h; exact plainly_sound he hs h
    | none =>
      simp only at h
      obtain ⟨v, hv, h⟩ := withV_some h
      obtain ⟨l, h, hl⟩ := bound_some he h
      obtain ⟨u, h, hu⟩ := bound_some he h
      obtain ⟨s, hK, hrun⟩ := slices_sound (b := b) h hl hu
      exact ⟨s, hK, fun w _ => by simp [execOp, hop, ev_den he hv, hrun]⟩
  case load t x =>
    cases hx : ev st x with
    | none => simp [hx] at h
    | some v =>
      rw [hx] at h
      cases v with
      | loc l off =>
        simp only at h
        cases hm : mayRead hold l with
        | false => simp [hm] at h
        | true =>
          cases hl : boxLoad c.P st.boxes t l off with
          | none => simp [hm, hl] at h
          | some u =>
            simp only [hm, hl] at h
            exact ⟨_, h, fun w hw => by simp [execOp, hop, ev_den he hx, SV.den, Instr.loadAt, Instr.sureAddr, boxLoad_sound (b := b) hl (fun y hy => (hOk (by simp [isLoad, hop]) w hw).box l y hm hy)]⟩
      | v a =>
        cases a <;> try exact h.elim
        rename_i q; cases q <;> try exact h.elim
        rename_i ad
        cases hw : lw with
        | none => simp [hw] at h
        | some w0 =>
          simp only [hw] at h
          obtain ⟨u, hK, hrun⟩ := memLoad_sound h
          refine ⟨_, hK, fun w hr => ?_⟩
          simp [execOp, hop, ev_den he hx, SV.den, Instr.loadAt, Instr.sureAddr, hrun w (fun a' u' h' => (hOk (by simp [isLoad, hop]) w hr).cell w0 hw a' u' h')]
      | _ => exact h.elim
  case indexAddr t x i =>
    cases ht : c.P.underlying t with
    | none => simp [ht] at h
    | some d =>
      cases hx : ev st x with
      | none => cases d <;> simp [ht, hx] at h
      | some v =>
        cases hi : ev st i with
        | none => cases d <;> cases v <;> simp [ht, hx, hi] at h
        | some iv =>
          rw [ht, hx, hi] at h
          cases d <;> try exact h.elim
          · rename_i e
            cases v <;> try exact h.elim
            rename_i vv
            cases vv <;> try exact h.elim
            rename_i A n cp
            cases iv <;> try exact h.elim
            rename_i jv
            cases jv <;> try exact h.elim
            rename_i k j
            simp only at h
            cases hk : known c.P e with
            | false => rw [hk] at h; exact h.elim
            | true =>
              rw [hk] at h
              obtain ⟨de, hde⟩ := known_some hk
              obtain ⟨hj, a, rfl, hK⟩ := h
              refine ⟨_, hK, fun w _ => ?_⟩
              simp [execOp, hop, ev_den he hx, ev_den he hi, SV.den, Instr.indexAt, asIntOf, Sem.run_bind, run_underlying ht, run_sizeOf hde, hj]
          · rename_i n e
            cases v <;> try exact h.elim
            rename_i l off
            cases iv <;> try exact h.elim
            rename_i jv
            cases jv <;> try exact h.elim
            rename_i k i
            simp only at h
            cases raw with
            | true =>
              simp only at h
              cases hk : known c.P e with
              | false => rw [hk] at h; exact h.elim
              | true =>
                rw [hk] at h
                obtain ⟨⟨h0, h1⟩, h⟩ := h
                obtain ⟨de, hde⟩ := known_some hk
                obtain ⟨m, rfl⟩ := Int.eq_ofNat_of_zero_le h0
                have hlt : m < n := by omega
                have hK := each_at h hlt rfl
                refine ⟨_, hK, fun w _ => ?_⟩
                simp [execOp, hop, ev_den he hx, ev_den he hi, SV.den, Instr.indexAt, asIntOf, Sem.run_bind, run_underlying ht, run_sizeOf hde, Instr.sureAddr, hlt, add_none]
            | false =>
            simp only at h
            cases i <;> try exact h.elim
            rename_i j
            simp only at h
            cases hk : Nat.blt j n && known c.P e with
            | false => rw [hk] at h; exact h.elim
            | true =>
              rw [hk] at h
              simp only [Bool.and_eq_true] at hk
              obtain ⟨de, hde⟩ := known_some hk.2
              have hlt : j < n := by simpa [Nat.blt_eq] using hk.1
              refine ⟨_, h, fun w _ => ?_⟩
              have h2 : (Int.ofNat j) < (n : Int) := by simpa using hlt
              simp [execOp, hop, ev_den he hx, ev_den he hi, SV.den, Instr.indexAt, asIntOf, Sem.run_bind, run_underlying ht, run_sizeOf hde, Instr.sureAddr, hlt, add_none]
  case index t x i =>
    cases ht : c.P.underlying t with
    | none => rw [ht] at h; exact plainly_sound he hs h
    | some d =>
      rw [ht] at h
      cases hx : ev st x with
      | none => rw [hx] at h; cases d <;> exact plainly_sound he hs h
      | some v =>
        cases hi : ev st i with
        | none => rw [hx, hi] at h; cases d <;> try exact plainly_sound he hs h
                  cases v <;> try exact plainly_sound he hs h
                  rename_i vv
                  cases vv <;> exact plainly_sound he hs h
        | some iv =>
          rw [hx, hi] at h
          cases d <;> try exact plainly_sound he hs h
          cases v <;> try exact plainly_sound he hs h
          rename_i vv
          cases vv <;> try exact plainly_sound he hs h
          rename_i s
          cases iv <;> try exact plainly_sound he hs h
          rename_i jv
          cases jv <;> try exact plainly_sound he hs h
          rename_i k j
          obtain ⟨hj, hK⟩ := h
          obtain ⟨x0, h1, h2⟩ := bt_eq hj
          refine ⟨_, hK, fun w _ => ?_⟩
          simp only [execOp, hop, ev_den he hx, ev_den he hi, SV.den, Instr.index, asIntOf, Sem.run_bind, run_underlying ht, Sem.run_pure, Result.andThen_ok, if_pos hj.1, h1, h2]
  case binOp op xt x y yt =>
    have pl := fun (h : plainly c o st K) => plainly_sound (Ok := Ok) he hs h
    cases hx : ev st x with
    | none => simp [hx] at h
    | some u1 =>
      cases hy : ev st y with
      | none => simp [hx, hy] at h
      | some v =>
        simp only [hx, hy] at h
        have ex := ev_den he hx
        have ey := ev_den he hy
        split at h
        · rename_i k x1 k' y1 e1 e2
          cases e1; cases e2
          cases hk : kindEq k k' with
          | false => rw [hk] at h; exact pl h
          | true =>
            rw [hk] at h
            obtain rfl := kindEq_eq hk
            have go : binInt raw op k x1 y1 K → Gives c b T o Ok K := fun hb => by
              obtain ⟨s, hK, hrun⟩ := binInt_sound (b := b) (t := xt) hb
              refine ⟨s, hK, fun w _ => ?_⟩
              simp only [SV.den] at ex ey
              simp [execOp, hop, ex, ey, Sem.run_bind, run_eqGuard_plain w (u := .int k x1) (v := .int k y1) (by simp) (by simp), hrun]
            exact go h
        · rename_i x1 y1 e1 e2
          cases e1; cases e2
          obtain ⟨s, hK, hrun⟩ := binStr_sound (b := b) (t := xt) h
          refine ⟨s, hK, fun w _ => ?_⟩
          simp only [SV.den] at ex ey
          simp [execOp, hop, ex, ey, Sem.run_bind, run_eqGuard_plain w (u := .string x1) (v := .string y1) (by simp) (by simp), hrun]
        · rename_i x1 y1 e1 e2
          cases e1; cases e2
          split at h
          · rename_i q hq h1 h2
            simp only [Bool.and_eq_true] at h1
            have hsx : x1.size = c.P.cellsOf xt := by simpa using beq_true h1.1.2
            have hsy : y1.size = c.P.cellsOf xt := by simpa using beq_true h1.2
            have hS : (isStruct c.P xt && eqOk c.P 6 xt) = true := by simp [h1.1.1]
            have heq := fun w => structEq_sound hS h2 hsx hsy w
            have hgu : ∀ w, (eqGuard op xt x y (.agg x1) (.agg y1)).run c.P w = .ok () w := fun w => eqGuard_plain_agg hS w
            simp only [SV.den] at ex ey
            cases op <;> simp only at h <;> try exact h.elim
            · refine ⟨_, h, fun w _ => ?_⟩
              simp [execOp, hop, ex, ey, Sem.run_bind, hgu, binOp, heq, SV.den]
            · refine ⟨_, h, fun w _ => ?_⟩
              simp [execOp, hop, ex, ey, Sem.run_bind, hgu, binOp, heq, SV.den]
          · exact h.elim
        · rename_i A n1 c1 e1 e2
          cases e1; cases e2
          cases ht : c.P.underlying xt with
          | none => rw [ht] at h; exact h.elim
          | some d =>
            rw [ht] at h
            cases d <;> try exact h.elim
            simp only [SV.den] at ex ey
            have heq : ∀ w, (Op.equal xt (.slice A n1 c1) (.slice none 0 0)).run c.P w = .ok (decide (A = none)) w := fun w => equalIn_nil 9999 ht w
            cases op <;> simp only at h <;> try exact h.elim
            · refine ⟨_, h, fun w _ => ?_⟩
              simp [execOp, hop, ex, ey, Sem.run_bind, run_eqGuard_plain w (u := .slice A n1 c1) (v := .slice none 0 0) (by simp) (by simp), binOp, heq, SV.den]
            · refine ⟨_, h, fun w _ => ?_⟩
              simp [execOp, hop, ex, ey, Sem.run_bind, run_eqGuard_plain w (u := .slice A n1 c1) (v := .slice none 0 0) (by simp) (by simp), binOp, heq, SV.den]
        · rename_i u' v' _ _ _ _ e1 e2
          cases e1; cases e2
          split at h
          · rename_i t1 t2 ht hb1 hb2
            have d1 := boolOf_den (b := b) hb1
            have d2 := boolOf_den (b := b) hb2
            rw [d1] at ex
            rw [d2] at ey
            have heq : ∀ w, (Op.equal xt (.bool t1) (.bool t2)).run c.P w = .ok (decide (t1 = t2)) w := fun w => equalIn_bool 9999 ht w
            cases op <;> simp only at h <;> try exact h.elim
            · refine ⟨_, h, fun w _ => ?_⟩
              simp [execOp, hop, ex, ey, Sem.run_bind, run_eqGuard_plain w (u := .bool t1) (v := .bool t2) (by simp) (by simp), binOp, heq, SV.den]
            · refine ⟨_, h, fun w _ => ?_⟩
              simp [execOp, hop, ex, ey, Sem.run_bind, run_eqGuard_plain w (u := .bool t1) (v := .bool t2) (by simp) (by simp), binOp, heq, SV.den]
          · exact pl h
        · exact h.elim
end

structure Inv (c:Cx) (b:Nat->Nat) (st:St) (T:Array Value) (wa:World):Prop where
 size:T.size=c.N
 env:EnvOk b st.env T
 box:BoxOk b c.B st.boxes wa
 lo:c.B<=st.w.heap.size
 ext:match st.d with
  |none=>wa=st.w
  |some ts=>Ext c.B ts st.w wa
 new:∀l x,getBox st.boxes l=some x->x.new=true->st.w.heap.size<=b l
 base:Below c.B c.w0 wa

theorem Ext.refl(B:Nat)(ts:List Nat)(w:World):Ext B ts w w:=⟨Below.refl _ _,fun k _=> .inl rfl⟩
theorem Ext.mono{B:Nat}{ts us:List Nat}{w w':World}(h:Ext B ts w w')(hs:∀t∈ts,t∈us):Ext B us w w':=
 ⟨h.below,fun k hk=>(h.other k hk).imp id fun⟨t,ht,r⟩=>⟨t,hs t ht,r⟩⟩
theorem mem_ins{t x:Nat}:∀{l:List Nat},x∈ins t l↔x=t∨x∈l:=by
 intro l
 induction l with
 |nil=>simp[ins]
 |cons y r ih=>
  simp only[ins]
  cases h:Nat.beq y t with
  |true=>have:=beq_true h;subst this;simp
  |false=>simp[ih];constructor<;>rintro(h|h|h)<;>simp[h]

theorem getBox_old{bs:List Box}{l:Nat}:getBox (old bs) l=(getBox bs l).map fun x=>{x with new:=false}:=by
 induction bs with
 |nil=>rfl
 |cons x r ih=>
  simp only[old,getBox_cons]
  split<;>simp_all

section
variable {c:Cx} {b:Nat->Nat} {st:St} {T:Array Value} {wa:World}

theorem Inv.extSome(h:Inv c b st T wa):Ext c.B (st.d.getD []) st.w wa:=by
 have:=h.ext
 cases hd:st.d with
 |none=>rw[hd]at this;subst this;exact Ext.refl _ _ _
 |some ts=>rw[hd]at this;exact this

theorem BoxOk.old(h:BoxOk b c.B st.boxes wa):BoxOk b c.B (old st.boxes) wa:=by
 constructor
 ·intro l x hx
  rw[getBox_old]at hx
  obtain⟨y,hy,rfl⟩:=Option.map_eq_some_iff.1 hx
  exact h.at_ l y hy
 ·intro l m x y hx hy hne
  rw[getBox_old]at hx hy
  obtain⟨x',hx',rfl⟩:=Option.map_eq_some_iff.1 hx
  obtain⟨y',hy',rfl⟩:=Option.map_eq_some_iff.1 hy
  exact h.ne l m x' y' hx' hy' hne

theorem old_new{bs:List Box}{l:Nat}{x:Box}(h:getBox (old bs) l=some x):x.new=false:=by
 rw[getBox_old]at h
 obtain⟨y,_,rfl⟩:=Option.map_eq_some_iff.1 h
 rfl

def Same(st st':St):Prop:=∀l x',getBox st'.boxes l=some x'->∃x,getBox st.boxes l=some x/\x.cells=x'.cells/\x.ty=x'.ty
theorem Same.refl(st:St):Same st st:=fun l x h=>⟨x,h,rfl,rfl⟩
theorem Same.trans{st st' st'':St}(h:Same st st')(k:Same st' st''):Same st st'':=fun l x hx=>by
 obtain⟨y,hy,e1,e2⟩:=k l x hx
 obtain⟨z,hz,f1,f2⟩:=h l y hy
 exact⟨z,hz,f1.trans e1,f2.trans e2⟩
theorem Same.old{st st':St}(h:Same st st'){env w d}:Same st ⟨env,old st'.boxes,w,d⟩:=fun l x hx=>by
 rw[getBox_old]at hx
 obtain⟨y,hy,rfl⟩:=Option.map_eq_some_iff.1 hx
 obtain⟨z,hz,f1,f2⟩:=h l y hy
 exact⟨z,hz,f1,f2⟩
theorem expose_sound{K:St->Prop}(inv:Inv c b st T wa)(h:expose c.B st K):
  ∃st',K st'/\Inv c b st' T wa/\st'.w=wa/\st'.d=none/\st'.env=st.env/\Same st st':=by
 unfold expose at h
 have hx:=inv.ext
 cases hd:st.d with
 |none=>rw[hd]at h hx;exact⟨st,h,inv,hx.symm,hd,rfl,Same.refl _⟩
 |some ts=>
  rw[hd]at h hx
  refine⟨_,h wa hx,⟨inv.size,inv.env,inv.box.old,Nat.le_trans inv.lo hx.below.size,rfl,fun l x hl hn=> ?_,inv.base⟩,rfl,rfl,rfl,(Same.refl st).old⟩
  rw[old_new hl]at hn;cases hn

theorem get_swap{l a:Nat}{env:Env}{s:Nat}{x:SV}(h:get (swapLoc l a env) s=some x):
  get env s=some x∨∃off,get env s=some (.loc l off)/\x= .v (.pointer (some ⟨a,off,none⟩)):=by
 induction env with
 |nil=>simp[swapLoc,get]at h
 |cons y r ih=>
  obtain⟨s0,v⟩:=y
  have gen:∀v',(swapLoc l a ((s0,v)::r)=(s0,v')::swapLoc l a r)->(v'=v∨∃off,v= .loc l off/\v'= .v (.pointer (some ⟨a,off,none⟩)))->
    get ((s0,v)::r) s=some x∨∃off,get ((s0,v)::r) s=some (.loc l off)/\x= .v (.pointer (some ⟨a,off,none⟩)):=by
   intro v' e hv
   rw[e,get_cons]at h
   rw[get_cons]
   by_cases hs:s0=s
   ·simp only[hs,if_true]at h⊢
    cases h
    rcases hv with rfl|⟨off,rfl,rfl⟩
    ·exact .inl rfl
    ·exact .inr ⟨off,rfl,rfl⟩
   ·simp only[hs,if_false]at h⊢
    exact ih h
  cases v with
  |loc k off=>
   cases hk:Nat.beq k l with
   |true=>have:=beq_true hk;subst this;exact gen _ (by simp[swapLoc]) (.inr ⟨off,rfl,rfl⟩)
   |false=>exact gen _ (by simp[swapLoc,hk]) (.inl rfl)
  |_=>exact gen _ (by simp[swapLoc]) (.inl rfl)

theorem publish_sound{K:St->Prop}:∀(labs:List Nat)(st:St),Inv c b st T wa->publish c labs st K->∃st',K st'/\Inv c b st' T wa/\Same st st':=by
 intro labs
 induction labs with
 |nil=>intro st inv h;exact⟨st,h,inv,Same.refl _⟩
 |cons l r ih=>
  intro st inv h
  simp only[publish]at h
  obtain⟨st',h,inv',hw,hd,_,hsame⟩:=expose_sound inv h
  cases hb:getBox st'.boxes l with
  |none=>simp[hb]at h
  |some bx=>
   simp only[hb]at h
   have hbx:=inv'.box.at_ l bx hb
   have hx:=inv'.ext
   have hsame2:Same st' {env:=swapLoc l (b l) st'.env,boxes:=dropBox st'.boxes l,w:=st'.w,d:=st'.d}:=fun m x hm=>by
    rw[getBox_drop]at hm
    split at hm
    ·cases hm
    ·exact⟨x,hm,rfl,rfl⟩
   have inv2:Inv c b {env:=swapLoc l (b l) st'.env,boxes:=dropBox st'.boxes l,w:=st'.w,d:=st'.d} T wa:=by
    refine⟨inv'.size,fun s x hs=> ?_,⟨fun m x hm=> ?_,fun m n x y hm hn hne=> ?_⟩,inv'.lo,hx,fun m x hm hn=> ?_,inv'.base⟩
    ·rcases get_swap hs with h1|⟨off,h1,rfl⟩
     ·exact inv'.env s x h1
     ·exact inv'.env s (.loc l off) h1
    ·rw[getBox_drop]at hm
     split at hm
     ·cases hm
     ·exact inv'.box.at_ m x hm
    ·rw[getBox_drop]at hm hn
     split at hm
     ·cases hm
     ·split at hn
      ·cases hn
      ·exact inv'.box.ne m n x y hm hn hne
    ·simp only[getBox_drop]at hm
     split at hm
     ·cases hm
     ·exact inv'.new m x hm hn
   obtain⟨st'',h1,h2,h3⟩:=ih _ inv2 (h (b l) hbx.1 (by rw[hw];exact hbx.2))
   exact⟨st'',h1,h2,(hsame.trans hsame2).trans h3⟩

def Kept(o:Oper)(b:Nat->Nat)(st:St)(wa:World)(b':Nat->Nat)(st':St)(w':World):Prop:=
 wa.heap.size<=w'.heap.size/\(∀k,k<wa.heap.size->w'.heap[k]? =wa.heap[k]?)/\∀l,(isNew o=true->o.dst≠some l)->b' l=b l/\∀x',getBox st'.boxes l=some x'->∃x,getBox st.boxes l=some x/\x.cells=x'.cells/\x.ty=x'.ty

def After(c:Cx)(q:Bool)(o:Oper)(b:Nat->Nat)(st:St)(wa:World)(T:Array Value)(K:SV->St->Prop)(v:Value)(w':World):Prop:=
 ∃b' x st',K x st'/\v=x.den b'/\Inv c b' st' T w'/\(q=true->Kept o b st wa b' st' w')

variable {o:Oper} {K:SV->St->Prop}

def OpOk(c:Cx)(q:Bool)(b:Nat->Nat)(st:St)(T:Array Value)(o:Oper)(wa:World)(K:SV->St->Prop):Prop:=
 ∀next Q,(∀v w',After c q o b st wa T K v w'->next ((act T).put o.dst v) w')->o.wp c.P (act T) wa next Q

theorem Same.kept{st st':St}(h:Same st st')(o:Oper)(b:Nat->Nat)(w w':World)(hs:w.heap.size<=w'.heap.size)(hk:∀k,k<w.heap.size->w'.heap[k]? =w.heap[k]?):Kept o b st w b st' w':=
 ⟨hs,hk,fun l _=>⟨rfl,h l⟩⟩

theorem opOk_of_gives{q:Bool}{Ok:World->Prop}{st':St}(inv:Inv c b st' T wa)(hsame:Same st st')(hok:Ok wa)(h:Gives c b T o Ok fun x=>K x st'):OpOk c q b st T o wa K:=by
 obtain⟨x,hK,hrun⟩:=h
 intro next Q hn
 unfold Oper.wp
 rw[hrun wa hok]
 exact hn _ _ ⟨b,x,st',hK,rfl,inv,fun _=>hsame.kept _ _ _ _ (Nat.le_refl _) fun _ _=>rfl⟩

theorem ReadOk.of_inv{lw:Option World}(inv:Inv c b st T wa)(hw:∀v,lw=some v->v=wa):ReadOk b st lw none wa:=
 ⟨fun l x _ hx=>(inv.box.at_ l x hx).2,fun v hv a u hu=>by rw[<-hw v hv];exact hu⟩

theorem get_dropLoc{env:Env}{l s:Nat}{x:SV}(h:get (dropLoc env l) s=some x):get env s=some x/\x.isLoc l=false:=by
 induction env with
 |nil=>simp[dropLoc,get]at h
 |cons y r ih=>
  simp only[dropLoc]at h
  simp only[get_cons]
  cases hl:y.2.isLoc l with
  |true=>
   rw[hl]at h
   simp only[get_drop]at h
   by_cases hs:s=y.1
   ·simp[hs]at h
   ·simp only[hs,if_false]at h
    rw[if_neg (Ne.symm hs)]
    exact ih h
  |false=>
   rw[hl]at h
   simp only[get_cons]at h
   by_cases hs:y.1=s
   ·simp only[hs,if_true]at h⊢
    cases h
    exact⟨rfl,hl⟩
   ·simp only[hs,if_false]at h⊢
    exact ih h

theorem newBox_inv(inv:Inv c b st T wa)(l ty:Nat)(cells:List Value):
  Inv c (fun m=>if m=l then wa.heap.size else b m) (newBox st l ty cells) T (wa.alloc (.cells cells.toArray ty)):=by
 have hx:=inv.extSome
 have hlt:∀m x,getBox st.boxes m=some x->b m<wa.heap.size:=fun m x hm=>by
  have:=(inv.box.at_ m x hm).2
  exact(Array.getElem?_eq_some_iff.1 this).1
 refine⟨inv.size,fun s x hs=> ?_,⟨fun m x hm=> ?_,fun m n x y hm hn hne=> ?_⟩,inv.lo,?_,fun m x hm hn=> ?_,inv.base.alloc (Nat.le_trans inv.lo hx.below.size) _⟩
 ·obtain⟨h1,h2⟩:=get_dropLoc hs
  rw[inv.env s x h1]
  cases x<;>simp only[SV.den]
  rename_i k off
  have:k≠l:=beq_false h2
  simp[this]
 ·simp only[newBox,getBox_cons,getBox_drop]at hm
  by_cases e:l=m
  ·subst e
   simp only[if_true]at hm
   cases hm
   simp only[if_true]
   refine⟨Nat.le_trans inv.lo hx.below.size,?_⟩
   show(wa.heap.push _)[wa.heap.size]? =_
   simp
  ·simp only[e,if_false,Ne.symm e]at hm
   have:=inv.box.at_ m x hm
   simp only[Ne.symm e,if_false]
   refine⟨this.1,?_⟩
   rw[<-this.2]
   exact Below.heap_alloc wa _ _ (hlt m x hm)
 ·simp only[newBox,getBox_cons,getBox_drop]at hm hn
  by_cases e:l=m
  ·subst e
   by_cases e':l=n
   ·exact absurd e' hne
   ·simp only[e',if_false,Ne.symm e']at hn
    have:=hlt n y hn
    simp only[if_true,Ne.symm e',if_false]
    omega
  ·simp only[e,if_false,Ne.symm e]at hm
   have h1:=hlt m x hm
   by_cases e':l=n
   ·subst e';simp only[Ne.symm e,if_false,if_true];omega
   ·simp only[e',if_false,Ne.symm e']at hn
    simp only[Ne.symm e,Ne.symm e',if_false]
    exact inv.box.ne m n x y hm hn hne
 ·simp only[newBox]
  refine⟨hx.below.alloc (Nat.le_trans inv.lo hx.below.size) _,fun k hk=> ?_⟩
  have hk2:k<wa.heap.size:=Nat.lt_of_lt_of_le hk hx.below.size
  rw[Below.heap_alloc wa _ _ hk2]
  exact hx.other k hk
 ·simp only[newBox,getBox_cons,getBox_drop]at hm
  simp only[newBox]
  by_cases e:l=m
  ·subst e
   simp only[if_true]
   exact hx.below.size
  ·simp only[e,if_false,Ne.symm e]at hm
   simp only[Ne.symm e,if_false]
   exact inv.new m x hm hn

theorem newBox_kept{l:Nat}(hd:o.dst=some l)(hnew:isNew o=true)(ty:Nat)(cells:List Value)(ob:Obj):
  Kept o b st wa (fun m=>if m=l then wa.heap.size else b m) (newBox st l ty cells) (wa.alloc ob):=by
 refine⟨by simp,fun k hk=>Below.heap_alloc _ _ _ hk,fun m hm=> ?_⟩
 have hne:m≠l:=fun e=>hm hnew (by rw[hd,e])
 refine⟨if_neg hne,fun x hx=> ?_⟩
 simp only[newBox,getBox_cons,getBox_drop,if_neg hne,if_neg (Ne.symm hne)]at hx
 exact⟨x,hx,rfl,rfl⟩

theorem withVal_some{x:Option SV}{Q:Value->Prop}(h:withVal x Q):∃sv v,x=some sv/\sv.val=some v/\Q v:=by
 cases x with
 |none=>exact h.elim
 |some sv=>
  unfold withVal at h
  simp only at h
  cases hv:sv.val with
  |none=>simp[hv]at h
  |some v=>simp only[hv]at h;exact⟨sv,v,rfl,hv,h⟩

theorem storeCells_run{P:Program}{n ty:Nat}:∀(vs:List Value)(w:World)(cells:List Value)(off i:Nat),w.heap[n]? =some (.cells cells.toArray ty (0,0))->
  off+i+vs.length<=cells.length->(∀v∈vs,isCell v=true)->
  ∃w',(storeCells ⟨n,off,none⟩ vs i).run P w= .ok () w'/\Wrote w w' n ty (setCells cells (off+i) vs):=by
 intro vs
 induction vs with
 |nil=>
  intro w cells off i h _ _
  exact⟨w,by simp[storeCells],⟨h,fun _ _=>rfl,rfl,rfl,rfl,rfl⟩⟩
 |cons v r ih=>
  intro w cells off i h hl hv
  have h1:w.cell? ((⟨n,off,none⟩:Addr).add i)=some (cells[off+i]'(by simp at hl;omega)):=by
   rw[cells_box h,List.getElem?_eq_getElem (show off+i<cells.length by simp at hl;omega)]
  have h2:w.frozen? ((⟨n,off,none⟩:Addr).add i)=false:=by
   rw[add_none];simp[World.frozen?,h]
  have hw:(w.setCell ((⟨n,off,none⟩:Addr).add i) v).heap[n]? =some (.cells (cells.set (off+i) v).toArray ty (0,0)):=by
   rw[add_none]
   simp only[World.setCell,Array.getElem?_modify,if_true,h]
   simp
  obtain⟨w',hrun,hwr⟩:=ih (w.setCell ((⟨n,off,none⟩:Addr).add i) v) (cells.set (off+i) v) off (i+1) hw (by simp at hl⊢;omega) (fun u hu=>hv u (by simp[hu]))
  have hst:(store ((⟨n,off,none⟩:Addr).add i) v).run P w= .ok () (w.setCell ((⟨n,off,none⟩:Addr).add i) v):=by
   have h3:=hv v (by simp)
   cases v<;>first|(simp[isCell]at h3;done)|simp[store,Sem.run,h1,h2]
  refine⟨w',by simp[storeCells,Sem.run_bind,hst,hrun],⟨?_,fun k hk=> ?_,?_,hwr.os,hwr.tape,hwr.output⟩⟩
  ·have:=hwr.at_
   simpa[setCells,Nat.add_assoc]using this
  ·rw[hwr.rest k hk]
   rw[add_none]
   simp only[World.setCell,Array.getElem?_modify]
   rw[if_neg (Ne.symm hk)]
  ·rw[hwr.size];simp[World.setCell]

theorem Wrote.ext{B ty n:Nat}{w w':World}{cells cells':List Value}{ts:List Nat}(h:Wrote w w' n ty cells')(hB:B<=n)(h0:w.heap[n]? =some (.cells cells.toArray ty (0,0)))(ht:ty∈ts):Ext B ts w w':=
 ⟨⟨h.os,h.tape,h.output,by rw[h.size];exact Nat.le_refl _,fun k hk=>h.rest k (by omega)⟩,fun k hk=>by
  by_cases e:k=n
  ·subst e;exact .inr ⟨ty,ht,_,_,_,h0,h.at_⟩
  ·exact .inl (h.rest k e)⟩

theorem Ext.trans'{B:Nat}{ts:List Nat}{w w1 w2:World}(h:Ext B ts w w1)(k:Ext B ts w1 w2):Ext B ts w w2:=
 ⟨h.below.trans k.below,fun i hi=>by
  rcases k.other i (Nat.lt_of_lt_of_le hi h.below.size)with e|⟨t,ht,c1,c2,fr,e1,e2⟩
  ·rw[e];exact h.other i hi
  ·rcases h.other i hi with e'|⟨t',ht',d1,d2,fr',f1,f2⟩
   ·exact .inr ⟨t,ht,c1,c2,fr,by rw[<-e'];exact e1,e2⟩
   ·rw[e1]at f2
    cases f2
    exact .inr ⟨t,ht,d1,c2,fr,f1,e2⟩⟩

theorem sizeOf_run{P:Program}{t:TypeId}{n:Nat}(h:P.cellsOf t=n)(hk:known P t=true)(w:World):(sizeOf t).run P w= .ok n w:=by
 obtain⟨d,hd⟩:=known_some hk
 rw[run_sizeOf hd,h]

theorem allCells_mem:∀{l:List Value},allCells l=true->∀v∈l,isCell v=true:=by
 intro l
 induction l with
 |nil=>intro _ v hv;cases hv
 |cons x r ih=>
  intro h v hv
  simp only[allCells,Bool.and_eq_true]at h
  rcases List.mem_cons.1 hv with rfl|hv
  ·exact h.1
  ·exact ih h.2 v hv

theorem storeVar_run{P:Program}{t:TypeId}{n ty:Nat}{v:Value}{w:World}{cells:List Value}{off:Nat}(hk:known P t=true)(hs:v.cells.toList.length=P.cellsOf t)(hc:allCells v.cells.toList=true)
  (h:w.heap[n]? =some (.cells cells.toArray ty (0,0))) (hl:off+v.cells.toList.length<=cells.length):
  ∃w',(storeVar t ⟨n,off,none⟩ v).run P w= .ok () w'/\Wrote w w' n ty (setCells cells off v.cells.toList):=by
 obtain⟨w',h1,h2⟩:=storeCells_run (P:=P) (n:=n) (ty:=ty) v.cells.toList w cells off 0 h (by omega) (allCells_mem hc)
 refine⟨w',?_,h2⟩
 simp only[storeVar,Sem.run_bind,sizeOf_run rfl hk,Result.andThen_ok]
 rw[if_neg (by simpa using hs)]
 exact h1

theorem getBox_lab{bs:List Box}{l:Nat}{x:Box}(h:getBox bs l=some x):x.lab=l:=by
 induction bs with
 |nil=>simp[getBox]at h
 |cons y r ih=>
  rw[getBox_cons]at h
  split at h
  ·rename_i e;cases h;exact e
  ·exact ih h

theorem hasType_of{bs:List Box}{l:Nat}{x:Box}(h:getBox bs l=some x):hasType x.ty bs=true:=by
 induction bs with
 |nil=>simp[getBox]at h
 |cons y r ih=>
  rw[getBox_cons]at h
  simp only[hasType]
  split at h
  ·cases h;simp
  ·cases hb:Nat.beq y.ty x.ty with
   |true=>rfl
   |false=>exact ih h

theorem effect_sound{dyn q:Bool}(hq:q=true->isStore o=false)(inv:Inv c b st T wa)(h:effect c dyn o st K):OpOk c q b st T o wa K:=by
 unfold effect at h
 cases hop:o.op<;>simp only[hop]at h<;>try exact h.elim
 case alloc t=>
  cases hd:o.dst with
  |none=>simp[hd]at h
  |some l=>
   cases hz:zeroCells c.P t with
   |none=>simp[hd,hz]at h
   |some cells=>
    simp only[hd,hz]at h
    unfold zeroCells at hz
    obtain⟨z,hz1,rfl⟩:=Option.map_eq_some_iff.1 hz
    obtain⟨i,hi,hz2⟩:=Option.bind_eq_some_iff.1 hz1
    intro next Q hn
    unfold Oper.wp
    have hrun:(execOp (act T).eval o).run c.P wa= .ok (.value (.pointer (some ⟨wa.heap.size,0,none⟩))) (wa.alloc (.cells z.cells t)):=by
     simp[execOp,hop,Instr.alloc,zeroValue,typeInfo,program,Sem.run_bind,Sem.run,hi,hz2,newVar,newRow,newObj]
    rw[hrun]
    refine hn _ _ ⟨_,_,_,h,?_,newBox_inv inv l t z.cells.toList,fun _=>newBox_kept hd (by simp[isNew,hop]) _ _ _⟩
    simp[SV.den]
 case box t x=>
  cases hd:o.dst with
  |none=>simp[hd]at h
  |some l=>
   simp only[hd]at h
   obtain⟨sv,v,hv,hval,hK⟩:=withVal_some h
   intro next Q hn
   unfold Oper.wp
   have e:=ev_den inv.env hv
   rw[val_den hval b]at e
   have hrun:(execOp (act T).eval o).run c.P wa= .ok (.value (.pointer (some ⟨wa.heap.size,0,none⟩))) (wa.alloc (.cells v.cells t)):=by
    simp[execOp,hop,Instr.box,Sem.run_bind,Sem.run,newVar,newRow,newObj,e]
   rw[hrun]
   refine hn _ _ ⟨_,_,_,hK,?_,newBox_inv inv l t v.cells.toList,fun _=>newBox_kept hd (by simp[isNew,hop]) _ _ _⟩
   simp[SV.den]
 case store t x y=>
  cases hx:ev st x with
  |none=>simp[hx]at h
  |some sx=>
   have ex:=ev_den inv.env hx
   rw[hx]at h
   cases sx with
   |loc l off=>
    simp only at h
    cases hb:getBox st.boxes l with
    |none=>simp[hb]at h
    |some bx=>
     rw[hb]at h
     simp only at h
     obtain⟨sv,v,hv,hval,h⟩:=withVal_some h
     have ey:=ev_den inv.env hv
     rw[val_den hval b]at ey
     split at h
     ·exact h.elim
     ·rename_i hc
      simp only[Bool.and_eq_true]at hc
      obtain⟨⟨⟨c1,c2⟩,c3⟩,c4⟩:=hc
      have c1:=beq_true c1
      have c4:=Nat.le_of_ble_eq_true c4
      have hbx:=inv.box.at_ l bx hb
      obtain⟨w',hrun,hwr⟩:=storeVar_run (P:=c.P) (t:=t) (v:=v) c2 c1 c3 hbx.2 c4
      intro next Q hn
      unfold Oper.wp
      have hr:(execOp (act T).eval o).run c.P wa= .ok .skip w':=by
       simp[execOp,hop,Instr.storeAt,Instr.sureAddr,Sem.run_bind,ex,ey,SV.den,hrun]
      rw[hr]
      refine hn _ _ ⟨b,.u,_,h,rfl,?_,fun e=>absurd (hq e) (by simp[isStore,hop])⟩
      have hxt:=inv.extSome
      refine⟨inv.size,inv.env,⟨fun m x hm=> ?_,fun m n x y hm hn' hne=> ?_⟩,inv.lo,?_,fun m x hm hnew=> ?_,inv.base.trans (hwr.ext (ts:=[bx.ty]) hbx.1 hbx.2 (by simp)).below⟩
      ·simp only[getBox_cons,getBox_drop]at hm
       by_cases e:l=m
       ·subst e
        rw[if_pos (getBox_lab hb)]at hm
        cases hm
        exact⟨hbx.1,hwr.at_⟩
       ·rw[if_neg (by rw[getBox_lab hb];exact e),if_neg (Ne.symm e)]at hm
        have:=inv.box.at_ m x hm
        exact⟨this.1,by rw[hwr.rest _ (inv.box.ne m l x bx hm hb (Ne.symm e))];exact this.2⟩
      ·simp only[getBox_cons,getBox_drop]at hm hn'
       have hex:∀k z,(if bx.lab=k then some {bx with cells:=setCells bx.cells off v.cells.toList}else if k=l then none else getBox st.boxes k)=some z->∃z',getBox st.boxes k=some z':=fun k z hz=>by
        by_cases e:l=k
        ·subst e;exact⟨bx,hb⟩
        ·rw[if_neg (by rw[getBox_lab hb];exact e),if_neg (Ne.symm e)]at hz;exact⟨z,hz⟩
       obtain⟨x',hx'⟩:=hex m x hm
       obtain⟨y',hy'⟩:=hex n y hn'
       exact inv.box.ne m n x' y' hx' hy' hne
      ·have hB:c.B<=b l:=hbx.1
       cases hnw:bx.new with
       |true=>
        have hge:=inv.new l bx hb hnw
        refine⟨hxt.below.trans (hwr.ext (ts:=[bx.ty]) hB hbx.2 (by simp)).below,fun k hk=> ?_⟩
        have hk:k<st.w.heap.size:=hk
        rw[hwr.rest k (by omega)]
        exact hxt.other k hk
       |false=>
        exact(hxt.mono fun t ht=>mem_ins.2 (.inr ht)).trans' (hwr.ext hB hbx.2 (mem_ins.2 (.inl rfl)))
      ·simp only[getBox_cons,getBox_drop]at hm
       by_cases e:l=m
       ·subst e
        rw[if_pos (getBox_lab hb)]at hm
        cases hm
        exact inv.new _ bx hb hnew
       ·rw[if_neg (by rw[getBox_lab hb];exact e),if_neg (Ne.symm e)]at hm
        exact inv.new m x hm hnew
   |v u=>
    cases u<;>try exact h.elim
    rename_i q
    cases q<;>try exact h.elim
    rename_i ad
    simp only at h
    obtain⟨sv,v,hv,hval,h⟩:=withVal_some h
    have ey:=ev_den inv.env hv
    rw[val_den hval b]at ey
    split at h
    ·exact h.elim
    ·rename_i hc
     simp only[Bool.and_eq_true]at hc
     obtain⟨⟨c1,c2⟩,c3⟩:=hc
     have c1:=beq_true c1
     obtain⟨st',h,inv',hw,hd,henv,_⟩:=expose_sound inv h
     obtain⟨cs,ty,hB,hsp,h0,hl,hty,hK⟩:=h
     obtain⟨n,off,sp⟩:=ad
     cases hsp
     rw[hw]at h0
     obtain⟨w',hrun,hwr⟩:=storeVar_run (P:=c.P) (t:=t) (v:=v) c2 c1 c3 h0 hl
     intro next Q hn
     unfold Oper.wp
     have hr:(execOp (act T).eval o).run c.P wa= .ok .skip w':=by
      simp[execOp,hop,Instr.storeAt,Instr.sureAddr,Sem.run_bind,ex,ey,SV.den,hrun]
     rw[hr]
     refine hn _ _ ⟨b,.u,_,hK w' (by rw[hw];exact hwr),rfl,?_,fun e=>absurd (hq e) (by simp[isStore,hop])⟩
     have hne:∀m x,getBox st'.boxes m=some x->b m≠n:=fun m x hm e=>by
      have:=(inv'.box.at_ m x hm).2
      rw[e,h0]at this
      cases this
      exact absurd (hasType_of hm) (by rw[hty];simp)
     refine⟨inv'.size,inv'.env,⟨fun m x hm=> ?_,inv'.box.ne⟩,?_,?_,fun m x hm hnew=> ?_,inv'.base.trans (hwr.ext (ts:=[ty]) hB h0 (by simp)).below⟩
     ·have:=inv'.box.at_ m x hm
      exact⟨this.1,by rw[hwr.rest _ (hne m x hm)];exact this.2⟩
     ·show c.B<=w'.heap.size
      rw[hwr.size];exact hw▸inv'.lo
     ·simp only[hd]
     ·exfalso
      have h1:=inv'.new m x hm hnew
      have h2:=(Array.getElem?_eq_some_iff.1 (inv'.box.at_ m x hm).2).1
      rw[hw]at h1
      omega
   |_=>exact h.elim
 case call cl=>
  cases hcl:cl.callee with
  |value x=>
   simp only[hcl]at h
   split at h
   ·rename_i g first cap vs hx hvs
    have ex:=ev_den inv.env hx
    have eargs:=evs_den inv.env hvs
    have hcall:callable c.P g=true/\expose c.B st fun st=>Pure c.P g (first.toList++vs++cap.toList).toArray st.w fun v w1=>
      exSh (sh c.P o.type) fun x=>v=x/\K (.v x) {env:=st.env,boxes:=old st.boxes,w:=w1,d:=none}:=by
     unfold mayCall at h
     cases dyn with
     |true=>exact h
     |false=>
      simp only at h
      cases hc:callable c.P g with
      |false=>rw[hc]at h;exact h.elim
      |true=>rw[hc]at h;exact⟨rfl,h⟩
    obtain⟨hc,h⟩:=hcall
    obtain⟨st',h,inv',hw,hd,henv,hsame⟩:=expose_sound inv h
    intro next Q hn
    unfold Oper.wp
    have hr:(execOp (act T).eval o).run c.P wa= .ok (.enter g (first.toList++vs++cap.toList).toArray) wa:=by
     have e1:(first++cl.args.map (act T).eval)++cap=(first.toList++vs++cap.toList).toArray:=by
      apply Array.ext'
      simp[<-eargs]
     unfold callable at hc
     cases hf:c.P.funcs[g]? with
     |none=>simp[hf]at hc
     |some fn=>
      cases hb:fn.body with
      |none=>simp[hf,hb]at hc
      |some bd=>
       simp only[hf,hb]at hc
       have hn : fn.name ≠ "runtime.NumGoroutine" := by
        intro e
        simp[e]at hc
       simp only[execOp,hop,Sem.run_bind,resolve,hcl,ex,SV.den,Deferred.ofValue,Sem.run_pure,Result.andThen_ok,invoke,e1]
       simp[callFunc,program,Sem.run_bind,Sem.run,hf,hb,hn]
    rw[hr,Oper.upon_enter]
    rw[hw]at h
    refine Calls.mono h fun e w'' he=> ?_
    obtain⟨v,rfl,hbel,hK⟩:=he
    obtain⟨y,rfl,hK⟩:=exSh_some hK
    refine hn _ _ ⟨b,_,_,hK,rfl,?_,fun _=>(hsame.old).kept _ _ _ _ hbel.size hbel.block⟩
    have hlo:=inv'.lo
    rw[hw]at hlo
    refine⟨inv'.size,inv'.env,BoxOk.old (st:={st' with w:=w''}) ⟨fun m x hm=> ?_,inv'.box.ne⟩,Nat.le_trans hlo hbel.size,rfl,fun m x hm hnew=> ?_,inv'.base.trans (hbel.mono hlo)⟩
    ·have:=inv'.box.at_ m x hm
     refine⟨this.1,?_⟩
     rw[hbel.block _ (Array.getElem?_eq_some_iff.1 this.2).1]
     exact this.2
    ·rw[old_new hm]at hnew;cases hnew
   ·exact h.elim
  |_=>simp[hcl]at h
end
end Go.Proofs.YtgfkeadgjkfomaaGreatDoor.Vc
