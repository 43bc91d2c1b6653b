/- Part 9 of the proofs that: The state of a record that was written and recovered is that of its events. -/
import Derived.Test.YtmdphpnaipbfjaaGreatDoorR8
import Derived.Test.YtmdphpnaipbfjaaGreatDoorProg
set_option linter.unusedVariables false
set_option linter.unusedSimpArgs false
namespace Go.Proofs.YtmdphpnaipbfjaaGreatDoor.B
open Go Go.RowKit Go.Proofs Go.Proofs.YtmdphpnaipbfjaaGreatDoor.Vc

def iter{α:Type}(f:Nat->α->α):Nat->Nat->α->α
 |0,_,a=>a
 |d+1,i,a=>iter f d (i+1) (f i a)
abbrev u3(z:Int):Value:= .int .u32 z
def Wd(w:World)(b ty:Nat)(l:List Int):Prop:=w.heap[b]? =some (.cells (l.map u3).toArray ty (0,0))
section
variable {w w':World} {B b ty:Nat} {l:List Int}
theorem Wd.below(h:Wd w b ty l)(hb:Below w.heap.size w w'):Wd w' b ty l:=ai h hb
theorem Wd.rest{c t:Nat}{cs:List Value}(h:Wd w b ty l)(hw:aG w w' c t cs)(a:b≠c):Wd w' b ty l:=(hw.rest b a).trans h
theorem Wd.at_(h:Wd w b ty l){i:Nat}(hi:i<l.length):aa w ((⟨b,0,none⟩:Addr).add (i*1)) [u3 (l.getD i 0)]:=by
 rw[Jm];refine bz h ?_;rw[ow,cz,af hi];rfl
theorem WE{v:Int}{i:Nat}(hi:i<l.length):setCells (l.map u3) i [u3 v]=(l.set i v).map u3:=by
 simp only[setCells];rw[IK]
theorem Wd.set(h:Wd w b ty l)(hB:B<=b){i:Nat}(hi:i<l.length)(v:Int){K:World->Prop}(a:∀w1,Wd w1 b ty (l.set i v)->aG w w1 b ty ((l.set i v).map u3)->K w1):
  ∃(cs:List Value)(t:Nat),B<=((⟨b,0,none⟩:Addr).add (i*1)).block/\((⟨b,0,none⟩:Addr).add (i*1)).spot=none/\w.heap[((⟨b,0,none⟩:Addr).add (i*1)).block]? =some (.cells cs.toArray t (0,0))/\((⟨b,0,none⟩:Addr).add (i*1)).off+1<=cs.length/\hasType t []=false/\
   ∀w1,aG w w1 ((⟨b,0,none⟩:Addr).add (i*1)).block t (setCells cs ((⟨b,0,none⟩:Addr).add (i*1)).off [u3 v])->K w1:=by
 rw[Jm,ct];refine⟨l.map u3,ty,hB,rfl,h,by simp;omega,rfl,fun w1 hw=> ?_⟩;dsimp only at hw;rw[mC,WE hi]at hw;exact a w1 hw.at_ hw
end
def DI(x n:Int):Int:=bits .or .u32 (qd .u32 x (bits .and .u64 (IntKind.wrap .u64 (-n)) 31)) (ny x (32 - bits .and .u64 (IntKind.wrap .u64 (-n)) 31))
theorem sd{w:World}(x:Int){n:Int}(hn:n=17∨n=19∨n=7∨n=18∨n=6∨n=11∨n=25∨n=2∨n=13∨n=22):Pure Tryz.prog 121 #[.int .u32 x,.int .i64 n] w fun v _=>v= .int .u32 (DI x n):=by
 have h:0<=bits .and .u64 (IntKind.wrap .u64 (-n)) 31/\bits .and .u64 (IntKind.wrap .u64 (-n)) 31<=31:=by
  rcases hn with rfl|rfl|rfl|rfl|rfl|rfl|rfl|rfl|rfl|rfl<;>decide
 refine F.xY.vc ⟨ir,?_⟩;have e:qP .u32 (bits .and .u64 (IntKind.wrap .u64 (-n)) 31):=⟨h.1,by show _<=(32:Int);omega⟩;have a:qP .u32 (32 - bits .and .u64 (IntKind.wrap .u64 (-n)) 31):=⟨om,by show _<=(32:Int);omega⟩;exact F.mI.vc ⟨e,ir,a,_,rfl,rfl⟩
def kT:List Int:=[1116352408,1899447441,3049323471,3921009573,961987163,1508970993,2453635748,2870763221,3624381080,310598401,607225278,1426881987,1925078388,2162078206,2614888103,3248222580,3835390401,4022224774,264347078,604807628,770255983,1249150122,1555081692,1996064986,2554220882,2821834349,2952996808,3210313671,3336571891,3584528711,113926993,338241895,666307205,773529912,1294757372,1396182291,1695183700,1986661051,2177026350,2456956037,2730485921,2820302411,3259730800,3345764771,3516065817,3600352804,4094571909,275423344,430227734,506948616,659060556,883997877,958139571,1322822218,1537002063,1747873779,1955562222,2024104815,2227730452,2361852424,2428436474,2756734187,3204031479,3329325298]
def ae0(p:ByteArray)(i:Nat):Int:=bits .or .u32 (bits .or .u32 (bits .or .u32 (qd .u32 (bt p (4*(i:Int))) 24) (qd .u32 (bt p (4*(i:Int)+1)) 16)) (qd .u32 (bt p (4*(i:Int)+2)) 8)) (bt p (4*(i:Int)+3))
def ae1(W:List Int)(i:Nat):Int:=
 IntKind.wrap .u32 (IntKind.wrap .u32 (IntKind.wrap .u32 (bits .xor .u32 (bits .xor .u32 (DI (W.getD (i - 2) 0) 17) (DI (W.getD (i - 2) 0) 19)) (ny (W.getD (i - 2) 0) 10)+W.getD (i - 7) 0)+bits .xor .u32 (bits .xor .u32 (DI (W.getD (i - 15) 0) 7) (DI (W.getD (i - 15) 0) 18)) (ny (W.getD (i - 15) 0) 3))+W.getD (i - 16) 0)
def xZ(p:ByteArray)(i:Nat)(W:List Int):List Int:=W.set i (if i<16 then ae0 p i else ae1 W i)
def tF(W:List Int)(i:Nat)(e f g h:Int):Int:=
 IntKind.wrap .u32 (IntKind.wrap .u32 (IntKind.wrap .u32 (IntKind.wrap .u32 (h+bits .xor .u32 (bits .xor .u32 (DI e 6) (DI e 11)) (DI e 25))+bits .xor .u32 (bits .and .u32 e f) (bits .and .u32 (bits .xor .u32 4294967295 e) g))+kT.getD i 0)+W.getD i 0)
def uF(a b c:Int):Int:=IntKind.wrap .u32 (bits .xor .u32 (bits .xor .u32 (DI a 2) (DI a 13)) (DI a 22)+bits .xor .u32 (bits .xor .u32 (bits .and .u32 a b) (bits .and .u32 a c)) (bits .and .u32 b c))
def DJ(W:List Int)(i:Nat)(v:List Int):List Int:=
 [IntKind.wrap .u32 (tF W i (v.getD 4 0) (v.getD 5 0) (v.getD 6 0) (v.getD 7 0)+uF (v.getD 0 0) (v.getD 1 0) (v.getD 2 0)),v.getD 0 0,v.getD 1 0,v.getD 2 0,IntKind.wrap .u32 (v.getD 3 0+tF W i (v.getD 4 0) (v.getD 5 0) (v.getD 6 0) (v.getD 7 0)),v.getD 4 0,v.getD 5 0,v.getD 6 0]
def Ps(s:List Int)(i:Nat)(v:List Int):List Int:=v.set i (IntKind.wrap .u32 (v.getD i 0+s.getD i 0))
def Tl(p:ByteArray):List Int:=iter (xZ p) 64 0 (List.replicate 64 0)
def Ak(v:List Int)(p:ByteArray):List Int:=iter (Ps v) 8 0 (iter (DJ (Tl p)) 64 0 v)
theorem wL{α:Type}{f:Nat->α->α}{P:α->Prop}(h:∀i a,P a->P (f i a)):∀(d i:Nat)(a:α),P a->P (iter f d i a)
 |0,_,_,ha=>ha
 |d+1,i,a,ha=>wL h d (i+1) (f i a) (h i a ha)
theorem len8{l:List Int}(h:l.length=8):l=[l.getD 0 0,l.getD 1 0,l.getD 2 0,l.getD 3 0,l.getD 4 0,l.getD 5 0,l.getD 6 0,l.getD 7 0]:=by
 match l,h with
 |[a,b,c,d,e,f,g,h],_=>rfl
theorem Wd.abg{w:World}{b ty:Nat}{l:List Int}(h:Wd w b ty l)(hl:l.length=8):aa w (⟨b,0,none⟩:Addr) [u3 (l.getD 0 0),u3 (l.getD 1 0),u3 (l.getD 2 0),u3 (l.getD 3 0),u3 (l.getD 4 0),u3 (l.getD 5 0),u3 (l.getD 6 0),u3 (l.getD 7 0)]:=by
 have:=fy h;rw[len8 hl]at this;exact this
theorem Wd.abh{w:World}{B b ty:Nat}{l m:List Int}(h:Wd w b ty l)(hl:l.length=8)(hm:m.length=8)(hB:B<=b){K:World->Prop}(a:∀w1,Wd w1 b ty m->aG w w1 b ty (m.map u3)->K w1):
  ∃(cs:List Value)(t:Nat),B<=(⟨b,0,none⟩:Addr).block/\(⟨b,0,none⟩:Addr).spot=none/\w.heap[(⟨b,0,none⟩:Addr).block]? =some (.cells cs.toArray t (0,0))/\(⟨b,0,none⟩:Addr).off+8<=cs.length/\hasType t []=false/\
   ∀w1,aG w w1 (⟨b,0,none⟩:Addr).block t (setCells cs (⟨b,0,none⟩:Addr).off [u3 (m.getD 0 0),u3 (m.getD 1 0),u3 (m.getD 2 0),u3 (m.getD 3 0),u3 (m.getD 4 0),u3 (m.getD 5 0),u3 (m.getD 6 0),u3 (m.getD 7 0)])->K w1:=by
 refine⟨l.map u3,ty,hB,rfl,h,by simp[hl],rfl,fun w1 hw=> ?_⟩;have e:setCells (l.map u3) 0 [u3 (m.getD 0 0),u3 (m.getD 1 0),u3 (m.getD 2 0),u3 (m.getD 3 0),u3 (m.getD 4 0),u3 (m.getD 5 0),u3 (m.getD 6 0),u3 (m.getD 7 0)]=m.map u3:=by
  conv=>rhs;rw[len8 hm]
  rw[len8 hl];rfl
 dsimp only at hw;rw[e]at hw;exact a w1 hw.at_ hw
abbrev wW(l:List Int):Value:= .agg #[u3 (l.getD 0 0),u3 (l.getD 1 0),u3 (l.getD 2 0),u3 (l.getD 3 0),u3 (l.getD 4 0),u3 (l.getD 5 0),u3 (l.getD 6 0),u3 (l.getD 7 0)]
theorem WG{w0:World}{j g c:Nat}{s:List Int}(hs:s.length=8)(x:w0.heap.size<=g)(l10:w0.heap.size<=c)(n1:j≠c)(n2:g≠c):
  ∀(d i:Nat)(v:List Int)(w:World),8 - i=d->i<=8->Below w0.heap.size w0 w->v.length=8->Wd w j 176 s->Wd w g 176 (List.replicate 8 0)->Wd w c 176 v->
   F.aC.B8 ⟨j,0,none⟩ ⟨g,0,none⟩ ⟨c,0,none⟩ i w0.heap.size w fun r _=>r=wW (iter (Ps s) d i v):=by
 intro d;induction d with
 |zero=>
  intro i v w y hi hw e k m h;exact F.aC.B8.step ⟨fun q=>by omega,fun _=>⟨_,_,_,_,_,_,_,_,h.abg e,m.abh sm e x fun w1 h1 _=>⟨_,_,_,_,_,_,_,_,h1.abg e,rfl⟩⟩⟩
 |succ d ih=>
  intro i v w y hi hw e k m h;refine F.aC.B8.step ⟨fun _=>⟨⟨om,om⟩,_,h.at_ (i:=i) om,⟨om,om⟩,_,k.at_ (i:=i) om,⟨om,om⟩,fun z a=> ?_⟩,fun q=>by omega⟩;have n:=kE hw a;refine(h.below (extAll a)).set (i:=i) l10 om _ fun w1 h1 o=>⟨ir,?_⟩
  rw[show(i:Int)+1=((i+1:Nat):Int) by omega];exact ih (i+1) _ w1 om om (n.trans (aG.eC o l10)) (BD.trans e) ((k.below (extAll a)).rest o n1) ((m.below (extAll a)).rest o n2) h1
theorem WH{w0:World}{A z C D g:Nat}{s W:List Int}(hs:s.length=8)(Z:W.length=64)(Q:w0.heap.size<=z)(l10:w0.heap.size<=g)(n1:A≠g)(n2:z≠g)(n3:C≠g)(n4:D≠g):
  ∀(d i:Nat)(v:List Int)(w:World),64 - i=d->i<=64->Below w0.heap.size w0 w->v.length=8->Wd w A 176 s->Wd w z 176 (List.replicate 8 0)->Wd w C 214 kT->Wd w D 214 W->Wd w g 176 v->
   F.aC.uC ⟨A,0,none⟩ ⟨z,0,none⟩ ⟨C,0,none⟩ ⟨D,0,none⟩ ⟨g,0,none⟩ i w0.heap.size w fun r _=>r=wW (iter (Ps s) 8 0 (iter (DJ W) d i v)):=by
 intro d;induction d with
 |zero=>
  intro i v w R hi hw E G H M N e;exact F.aC.uC.step ⟨fun q=>by omega,fun _=>WG hs Q l10 n1 n2 8 0 v w rfl om hw E G H e⟩
 |succ d ih=>
  intro i v w R hi hw E G H M N e;have c0:=e.at_ (i:=0) om;have c1:=e.at_ (i:=1) om;have c2:=e.at_ (i:=2) om;have c4:=e.at_ (i:=4) om;have c5:=e.at_ (i:=5) om;have S:=e.at_ (i:=6) om;refine F.aC.uC.step ⟨fun _=>⟨⟨om,om⟩,_,c0,⟨om,om⟩,_,c1,⟨om,om⟩,_,c2,⟨om,om⟩,_,c4,⟨om,om⟩,_,c5,⟨om,om⟩,_,S,fun I a=> ?_⟩,fun q=>by omega⟩;have J:=kE hw a;have g10:=e.below (extAll a);have g5:=M.below (extAll a);have g6:=N.below (extAll a);refine⟨⟨om,om⟩,_,g10.at_ (i:=7) om,⟨om,om⟩,_,g5.at_ (i:=i) (by show i<64;omega),⟨om,om⟩,_,g6.at_ (i:=i) om,fun YS O=> ?_⟩;have K:=kE J O;refine pm (sd _ om) ?_;rintro r T P rfl;refine⟨_,rfl,pm (sd _ om) ?_⟩;rintro r U j rfl;refine⟨_,rfl,pm (sd _ om) ?_⟩;rintro r WI k rfl;refine⟨_,rfl,pm (sd _ om) ?_⟩;rintro r V n rfl;refine⟨_,rfl,pm (sd _ om) ?_⟩;rintro r X o rfl;refine⟨_,rfl,pm (sd _ om) ?_⟩;rintro r Y x rfl;have c:=fun {b ty:Nat} {l:List Int} (h:Wd I b ty l)=>(((((((h.below (extAll O)).below P).below j).below k).below n).below o).below x)
  have L:=kP (kP (kP (kP (kP (kP K P) j) k) n) o) x;refine⟨_,rfl,⟨om,om⟩,_,(c g10).at_ (i:=3) om,(c g10).abh (m:=DJ W i v) E rfl l10 fun w1 h1 y=>⟨ir,?_⟩⟩;rw[show(i:Int)+1=((i+1:Nat):Int) by omega];exact ih (i+1) _ w1 om om (L.trans (aG.eC y l10)) rfl ((c (G.below (extAll a))).rest y n1) ((c (H.below (extAll a))).rest y n2) ((c g5).rest y n3) ((c g6).rest y n4) h1
theorem abj{w0:World}{y x A j:Nat}{p:ByteArray}{s:List Int}(hp:p.size=64)(hs:s.length=8)(l2:y<j)(U:w0.heap.size<=x)(J:w0.heap.size<=j)(n2:x<j)(n3:A<j):
  ∀(d i:Nat)(W:List Int)(w:World),64 - i=d->i<=64->Below w0.heap.size w0 w->W.length=64->Wd w y 176 s->Wd w x 176 (List.replicate 8 0)->Wd w A 214 kT->Wd w j 214 W->
   F.aC.L4 p ⟨y,0,none⟩ ⟨x,0,none⟩ ⟨A,0,none⟩ ⟨j,0,none⟩ i w0.heap.size w fun r _=>r=wW (iter (Ps s) 8 0 (iter (DJ (iter (xZ p) d i W)) 64 0 s)):=by
 have k:∀i:Int,0<=bt p i/\bt p i<=255:=fun i=>by
  have:=(p.data.toList.getD i.toNat 0).toNat_lt;unfold bt;omega
 intro d;induction d with
 |zero=>
  intro i W w V hi hw M C K L o;refine F.aC.L4.step ⟨fun q=>by omega,fun _=>⟨_,_,_,_,_,_,_,_,C.abg hs,cK (z:= .agg (List.replicate 8 (.int .u32 0)).toArray) _ kF hw.size fun X N D Y=> ?_⟩⟩;have Z:=kP hw D;have z49:Wd X w.heap.size 176 (List.replicate 8 0):=N;have lt6:j<w.heap.size:=(ax.1 o).1;refine z49.abh (m:=s) sm hs hw.size fun w1 h1 g=> ?_
  exact WH hs M U hw.size om om om om 64 0 s w1 rfl om (Z.trans (aG.eC g hw.size)) hs ((C.below D).rest g om) ((K.below D).rest g om) ((L.below D).rest g om) ((o.below D).rest g om) h1
 |succ d ih=>
  intro i W w V hi hw M C K L o;have E:∀{w':World},Below w0.heap.size w0 w'->Wd w' y 176 s->Wd w' x 176 (List.replicate 8 0)->Wd w' A 214 kT->Wd w' j 214 (xZ p i W)->
    F.aC.L4 p ⟨y,0,none⟩ ⟨x,0,none⟩ ⟨A,0,none⟩ ⟨j,0,none⟩ ((i:Int)+1) w0.heap.size w' fun r _=>r=wW (iter (Ps s) 8 0 (iter (DJ (iter (xZ p) (d+1) i W)) 64 0 s)):=fun a b c e f=>by
   rw[show(i:Int)+1=((i+1:Nat):Int) by omega];exact ih (i+1) _ _ om om a (by unfold xZ;rw[BD];exact M) b c e f
  have t0:=k (4*(i:Int));have t1:=k (4*(i:Int)+1);have t2:=k (4*(i:Int)+2);have t3:=k (4*(i:Int)+3);refine F.aC.L4.step ⟨fun _=>⟨fun q=> ?_,fun q=> ?_⟩,fun q=>by omega⟩
  ·refine⟨ir,⟨om,om⟩,ir,⟨dc,dc⟩,ir,ir,⟨om,om⟩,ir,⟨dc,dc⟩,ir,ir,⟨om,om⟩,ir,⟨dc,dc⟩,ir,ir,⟨om,om⟩,ir,⟨om,om⟩,fun xi G=> ?_⟩;have qU:=kE hw G;refine(o.below (extAll G)).set (i:=i) J om _ fun w1 h1 g=>⟨ir,?_⟩
   refine E (qU.trans (aG.eC g J)) ((C.below (extAll G)).rest g om) ((K.below (extAll G)).rest g om) ((L.below (extAll G)).rest g om) ?_;unfold xZ;rw[bm om];exact h1
  ·have O:(i:Int) - 15=((i - 15:Nat):Int):=om;have e2:(i:Int) - 2=((i - 2:Nat):Int):=om;have e7:(i:Int) - 7=((i - 7:Nat):Int):=om;have P:(i:Int) - 16=((i - 16:Nat):Int):=om;rw[O,e2,e7,P];refine⟨ir,⟨om,om⟩,_,o.at_ (i:=i - 15) om,ir,⟨om,om⟩,_,o.at_ (i:=i - 2) om,fun uA H=> ?_⟩;have kA:=kE hw H;have g6:=o.below (extAll H);refine⟨⟨dc,dc⟩,ir,⟨om,om⟩,_,g6.at_ (i:=i - 7) om,⟨dc,dc⟩,ir,⟨om,om⟩,_,g6.at_ (i:=i - 16) om,fun Wg I=> ?_⟩;have sX:=kE kA I;refine pm (sd _ om) ?_;rintro r BK Q rfl;refine⟨_,rfl,pm (sd _ om) ?_⟩;rintro r NQ R rfl;refine⟨_,rfl,pm (sd _ om) ?_⟩;rintro r KQ S rfl;refine⟨_,rfl,pm (sd _ om) ?_⟩;rintro r SN T rfl;have n:=fun {b ty:Nat} {l:List Int} (h:Wd uA b ty l)=>(((((h.below (extAll I)).below Q).below R).below S).below T)
   have qz:=kP (kP (kP (kP sX Q) R) S) T;refine⟨_,rfl,⟨om,om⟩,(n g6).set (i:=i) J om _ fun w1 h1 g=>⟨ir,?_⟩⟩;refine E (qz.trans (aG.eC g J)) ((n (C.below (extAll H))).rest g om) ((n (K.below (extAll H))).rest g om) ((n (L.below (extAll H))).rest g om) ?_;unfold xZ;rw[aq om];exact h1
theorem ajH:setCells (List.replicate 64 (u3 0)) 0 (kT.map u3)=kT.map u3:=kF
theorem Tn{w0:World}{v:List Int}{p:ByteArray}(n:v.length=8)(hp:p.size=64):
  Pure Tryz.prog 97 #[wW v,.string p] w0 fun r _=>r=wW (Ak v p):=by
 unfold Ak Tl;refine F.aC.vc (qa _ _ lf fun w1 h1 D l1=> ?_);have o:Below w0.heap.size w0 w1:=D;refine cK (z:= .agg (List.replicate 8 (.int .u32 0)).toArray) _ kF o.size fun a E q M=> ?_
 have d:=kP o q;refine cK (z:= .agg (List.replicate 64 (.int .u32 0)).toArray) _ kF d.size fun G x g N=> ?_
 have H:=kP d g;have s1:Wd w1 w0.heap.size 176 v:=by
  show w1.heap[w0.heap.size]? =_;rw[h1,len8 n];rfl
 have I:Wd a w1.heap.size 176 (List.replicate 8 0):=E;have O:G.heap[a.heap.size]? =some (.cells (List.replicate 64 (Value.int .u32 0)).toArray 214 (0,0)):=x;refine⟨List.replicate 64 (.int .u32 0),_,d.size,rfl,x,sm,rfl,fun y c=> ?_⟩;have h:Wd y a.heap.size 214 kT:=c.at_.trans (ca (fun l:List Value=>some (Obj.cells l.toArray 214 (0,0))) ajH);have A:=H.trans (aG.eC c d.size);refine cK (z:= .agg (List.replicate 64 (.int .u32 0)).toArray) _ kF A.size fun C i e J=> ?_
 have K:=kP A e;have m13:Wd C y.heap.size 214 (List.replicate 64 0):=i;have L:=c.size;have j:=(((s1.below q).below g).rest c (show w0.heap.size≠a.heap.size by omega)).below e;have k:=((I.below g).rest c (show w1.heap.size≠a.heap.size by omega)).below e;have m:=h.below e;exact abj hp n om om om om om 64 0 _ C rfl om K sm j k m m13

def WJ(a:Al)(s t:ByteArray):Int:=if a.nD=true then gO (qR s) (qR t)else -gO (qR s) (qR t)
structure Sn where
 beyond:Bool
 back:Bool
 long:Bool
 qC:Bool
abbrev Sn.val(s:Sn):Value:= .agg #[.bool s.beyond,.bool s.back,.bool s.long,.bool s.qC]
def To(a:Al)(x:Lp)(y:Va)(t:Int):Sn:=⟨decide (WJ a y.num a.set>0),decide (WJ a y.num a.reset<=0),decide (t - x.since≥a.qC),decide (a.qC>0)⟩
def JI(a:Al)(x:Lp)(v:List Va)(t:Int):Option Sn:=
 match v.findIdx? fun y=>decide (y.chan=a.chan)with
 |some i=>match v[i]? with
  |some y=>if y.yT=1 then some (To a x y t)else none
  |none=>none
 |none=>none
def lkV:Option Sn->Value
 |some s=> .tuple #[s.val,.bool true]
 |none=> .tuple #[Sn.val ⟨false,false,false,false⟩,.bool false]
theorem JJ(a b:Rat): -1<=gO a b/\gO a b<=1:=by
 unfold gO;split
 ·omega
 ·split<;>omega
theorem WK{w:World}{p:Nat}{a:Al}(h:w.heap[p]? =some (.cells (Al.row a).toArray 104 (0,0)))(y:Va):
  Pure Tryz.prog 220 #[y.val,.pointer (some ⟨p,0,none⟩)] w fun v _=>v= .bool (decide (y.chan=a.chan)):=
 F.rZ.vc fun w1 x1=>⟨_,bz (ext_nil x1 h) rfl,rfl⟩
theorem fI{w:World}(hg:bj w){A:Option Addr}{n c:Nat}{v:List Va}(B:bW w A 4 (v.map Va.row))(d:v.length=n)(hn:n<2147483648)(J:∀y∈v,mO y.num/\vR y.num=true)
  {a:Al} (ha:WC a) (v1:vR a.set=true) (v2:vR a.reset=true) {x:Lp} {t:Int} (hx:0<=x.since/\x.since<=1073741824) (N:0<=t/\t<=1073741824):
  Pure Tryz.prog 168 #[a.val,x.val,.slice A n c,.int .i64 t] w fun r _=>r=lkV (JI a x v t):=by
 refine F.fI.vc fun w1 x1 p2 _ C=> ?_
 have h1:=k0 x1;refine pm (NL (B.ar h1 lf) d hn (a:= #[]) (k:= #[.pointer (some ⟨p2,0,none⟩)]) kF fun w' hb y _=>WK (a:=a) (ai C hb) y) ?_;rintro r O D rfl;have E:=kP h1 D;have h:=ai C D;rw[nN];unfold JI;cases e:v.findIdx? fun y=>decide (y.chan=a.chan)with
 |none=>exact⟨_,rfl,fun _ P _=>rfl,fun q=>absurd dc q⟩
 |some i=>
  have hi:i<v.length:=(tu.1 e).1;refine⟨_,rfl,fun q=> ?_,fun _=> ?_⟩
  ·have q:((0+i:Nat):Int)<0:=q;omega
  dsimp only;rw[mC,af hi];dsimp only;obtain⟨hb,j,o,_,z⟩:=(B.ar E lf).at_ (fun _=>rfl) d hi;have b:=J _ (bx hi);refine⟨hb,j,o,_,z 2 _ rfl,fun q Q _=>by rw[aq q];rfl,fun q=> ?_⟩;rw[bm (dT.1 q)];refine⟨hb,j,o,_,z 3 _ rfl,_,bz h rfl,hb,j,o,_,z 3 _ rfl,_,bz h rfl,fun R G=> ?_⟩;have H:=kE E G;refine pm (il (hg.next H) b.1 b.2 ha.set v1) ?_;rintro r S I rfl;have K:=kP H I;refine⟨_,rfl,pm (il (hg.next K) b.1 b.2 ha.reset v2) ?_⟩;rintro r T L rfl;have g:=ai (ai (ext_nil G h) I) L;have m1:=JJ (qR v[i].num) (qR a.set);have m2:=JJ (qR v[i].num) (qR a.reset);refine⟨_,rfl,_,bz g rfl,fun q=>⟨ir,ir,F.fI.J7.step ⟨ir,_,bz g rfl,_,bz g rfl,fun M _=> ?_⟩⟩,fun q=>F.fI.J7.step ⟨ir,_,bz g rfl,_,bz g rfl,fun M _=> ?_⟩⟩
  ·unfold To WJ;rw[aq (by rw[q];decide),aq (by rw[q];decide)];rfl
  ·unfold To WJ;rw[bm (by simpa using q),bm (by simpa using q)];rfl
def EM(l:List Al)(m:List Lp)(id t:Int):List Lp×Int:=
 if vK l m=false then([],1)else
 match l.findIdx? fun a=>decide (a.id=id)with
 |none=>([],7)
 |some i=>match m[i]? with
  |none=>([],7)
  |some x=>if ¬(0<=t/\t<=1073741824)then([],2)else if t<x.since then([],5)
   else if x.state=2 then(m.set i ⟨x.yV,3,t⟩,0)else if x.state=4 then(m.set i ⟨x.yV,0,t⟩,0)else([],11)
def Ij(r:List Lp×Int)(B:Nat)(v:Value)(w':World):Prop:=∃A n c,v= .tuple #[.slice A n c,.int .i64 r.2]/\ay w' B 155 A n c 3 (r.1.map Lp.row)
theorem Ij.no{B:Nat}(e:Int)(w:World):Ij ([],e) B (.tuple #[.slice none 0 0,.int .i64 e]) w:=⟨_,_,_,rfl,ay.nil⟩
theorem abl{w:World}{p:Nat}{id:Int}(h:w.heap[p]? =some (.cells [Value.int .i64 id].toArray 3 (0,0)))(a:Al):
  Pure Tryz.prog 170 #[a.val,.pointer (some ⟨p,0,none⟩)] w fun v _=>v= .bool (decide (a.id=id)):=
 F.ug.vc fun w1 x1=>⟨_,cm (ext_nil x1 h) rfl,rfl⟩
section
variable {w:World} {A A1:Option Addr} {n c n1 c1:Nat} {l:List Al} {m:List Lp}
theorem tf(hg:bj w)(hl:bW w A 8 (l.map Al.row))(hlen:l.length=n)(hn:n<1000000)(S:∀x∈l,WC x)(hm:bW w A1 3 (m.map Lp.row))(C:m.length=n1)(id t:Int):
  Pure Tryz.prog 115 #[.slice A n c,.slice A1 n1 c1,.int .i64 id,.int .i64 t] w (Ij (EM l m id t) w.heap.size):=by
 refine F.tf.vc fun w1 x1=> ?_
 have h1:=k0 x1;refine pm (eQ (hg.next h1) (hl.ar h1 lf) hlen om S (hm.ar h1 lf) C) ?_;rintro v w4 T rfl;have O:=kP h1 T;unfold EM;refine⟨_,rfl,fun q=>by rw[bm q];exact Ij.no _ _,fun q H _ U=> ?_⟩;rw[aq q];have V:l.length=m.length:=by
  unfold vK at q;simp only[Bool.and_eq_false_iff,ZK,ve,kl]at q;exact q.2.1
 refine pm (Wm (hl.ar O lf) hlen om (a:= #[]) (k:= #[.pointer (some ⟨H,0,none⟩)]) kF fun w' hb a _=>abl (ai U hb) a) ?_;rintro v W b8 rfl;have X:=kP O b8;rw[nN];cases e:l.findIdx? fun a=>decide (a.id=id)with
 |none=>exact⟨_,rfl,fun _=>Ij.no _ _,fun k=>absurd dc k⟩
 |some i=>
  have hi:i<l.length:=(tu.1 e).1;have j:i<m.length:=om;dsimp only;rw[mC,af j];dsimp only;refine⟨_,rfl,fun k=>by omega,fun _=>pm (kj t W) ?_⟩;rintro v wS Y rfl;have D:=kP X Y;refine⟨_,rfl,fun k=>by rw[bm (kh k)];exact Ij.no _ _,fun k=> ?_⟩;rw[aq (by simpa using k)];obtain⟨hb,Z,hA,_,hc⟩:=(hm.ar D lf).at_ (fun _=>rfl) C j;refine⟨hb,Z,hA,_,hc 2 _ rfl,fun I=>by rw[bm I];exact Ij.no _ _,fun I=> ?_⟩;rw[aq I];refine pm (Hr (hm.ar D lf) C om) ?_;rintro v P EJ ⟨tr,zq,rfl,E⟩;have HB:=kP D EJ;have E:=E.base D.size;refine⟨_,_,_,rfl,?_⟩;obtain⟨J,K,L,_,M⟩:=E.sl.at_ (fun _=>rfl) C j;have r:∀(s:Int) {R:Value->World->Prop},(∀w',ay w' w.heap.size 155 tr n1 zq 3 ((m.set i ⟨m[i].yV,s,t⟩).map Lp.row)->R (.tuple #[.slice tr n1 zq,.int .i64 0]) w')->
    (Ix (i:Int) n1 tr fun b=>(∃(g:List Value)(t21:Nat),w.heap.size<=((b.add ((i:Int).toNat*3)).add 1).block/\((b.add ((i:Int).toNat*3)).add 1).spot=none/\P.heap[((b.add ((i:Int).toNat*3)).add 1).block]? =some (.cells g.toArray t21 (0,0))/\((b.add ((i:Int).toNat*3)).add 1).off+1<=g.length/\hasType t21 []=false/\∀y,aG P y ((b.add ((i:Int).toNat*3)).add 1).block t21 (setCells g ((b.add ((i:Int).toNat*3)).add 1).off [.int .i64 s])->
     (Ix (i:Int) n1 tr fun d=>(∃(h:List Value)(t25:Nat),w.heap.size<=((d.add ((i:Int).toNat*3)).add 2).block/\((d.add ((i:Int).toNat*3)).add 2).spot=none/\y.heap[((d.add ((i:Int).toNat*3)).add 2).block]? =some (.cells h.toArray t25 (0,0))/\((d.add ((i:Int).toNat*3)).add 2).off+1<=h.length/\hasType t25 []=false/\∀z,aG y z ((d.add ((i:Int).toNat*3)).add 2).block t25 (setCells h ((d.add ((i:Int).toNat*3)).add 2).off [.int .i64 t])->R (.tuple #[.slice tr n1 zq,.int .i64 0]) z)))):=by
   intro s R hR;obtain⟨g1,a2,L,cs,g2,g3,g4,g5,g6⟩:=E.set (i:=(i:Int)) om om 1 [.int .i64 s] (m[i]).row (by rw[cd,ow,af j];rfl) sm;refine⟨g1,a2,L,cs,_,g2,g3,g4,g5,rfl,fun y kA=> ?_⟩;have Q:=g6 y kA;rw[cd]at Q;obtain⟨p1,a3,VY,AX,p2,p3,p4,H,p6⟩:=Q.set (i:=(i:Int)) om om 2 [.int .i64 t] (setCells (m[i]).row 1 [.int .i64 s]) (by rw[cd,B2 (by rw[en];exact j)]) sm;refine⟨p1,a3,VY,AX,_,p2,p3,p4,H,rfl,fun z vM=>hR z ?_⟩;have B:=p6 z vM;rw[cd,List.set_set]at B;rw[IK];exact B
  refine⟨J,K,L,_,M 1 _ rfl,fun G=> ?_,fun G=>⟨fun N=> ?_,fun N=> ?_⟩⟩
  ·rw[bm G];exact r 3 fun w' o=>⟨_,_,_,rfl,o⟩
  ·rw[aq G,bm N];exact r 0 fun w' o=>⟨_,_,_,rfl,o⟩
  ·rw[aq G,aq N];exact Ij.no _ _
end

def DK(s:Sn)(z:Int):Int:=
 if z=0 then(if s.beyond=true then(if s.qC=true then 1 else 2)else 0)
 else if z=1 then(if s.beyond=true then(if s.long=true then 2 else 1)else 0)
 else if z=2 then(if s.back=true then 4 else 2)
 else if z=3 then(if s.back=true then 0 else 3)
 else(if s.beyond=true then 2 else 4)
def step1(v:List Va)(t:Int)(a:Al)(x:Lp):Lp:=match JI a x v t with
 |none=>x
 |some s=>if DK s x.state≠x.state then⟨x.yV,DK s x.state,t⟩else x
def Bh(l:List Al)(m:List Lp)(v:List Va)(t:Int):List Lp×Int:=
 if vK l m=false then([],1)else if(v.any fun y=> !vR y.num)=true then([],1)else if 16<v.length then([],8)else if ¬(0<=t/\t<=1073741824)then([],2)
 else if(m.any fun x=>decide (x.since>t))=true then([],5)else(List.zipWith (step1 v t) l m,0)
theorem uh(b:Bool)(x y:Int)(w:World):Pure Tryz.prog 162 #[.bool b,.int .i64 x,.int .i64 y] w fun v _=>v= .int .i64 (if b=true then x else y):=
 F.rR.vc ⟨fun h=>by rw[bm h],fun h=>by rw[aq (by rw[h];decide)]⟩
abbrev chV:Value:= .func (.func 162) #[] #[]
abbrev fnV(p f:Nat):Value:= .func (.func f) #[] #[.pointer (some ⟨p,0,none⟩)]
def ae3(p:Nat):Int->Option Value:=BM (BM (BM (BM (BM (fun _=>none) 0 (fnV p 163)) 1 (fnV p 164)) 2 (fnV p 165)) 3 (fnV p 166)) 4 (fnV p 167)
theorem abo{p:Nat}{z:Int}(g:0<=z)(h:z<=4):∃f,(ae3 p z).getD .nilFunc=fnV p f/\av Tryz.prog f=true/\∀(s:Sn)(w:World),w.heap[p]? =some (.cells [chV].toArray 253 (0,0))->
  Pure Tryz.prog f #[s.val,.pointer (some ⟨p,0,none⟩)] w fun v _=>v= .int .i64 (DK s z):=by
 have hz:z=0∨z=1∨z=2∨z=3∨z=4:=om;unfold DK;rcases hz with rfl|rfl|rfl|rfl|rfl
 ·refine⟨_,rfl,kF,fun s w hb=>F.rT.vc fun w1 x1=> ?_⟩;have a:=ext_nil x1 hb;refine⟨_,_,_,cm a rfl,_,_,_,cm a rfl,kF,fun d _=>pm (uh _ _ _ d) ?_⟩;rintro v b _ rfl;refine⟨_,rfl,kF,pm (uh _ _ _ b) ?_⟩;rintro v e _ rfl;exact⟨_,rfl,rfl⟩
 ·refine⟨_,rfl,kF,fun s w hb=>F.rU.vc fun w1 x1=> ?_⟩;have a:=ext_nil x1 hb;refine⟨_,_,_,cm a rfl,_,_,_,cm a rfl,kF,fun d _=>pm (uh _ _ _ d) ?_⟩;rintro v b _ rfl;refine⟨_,rfl,kF,pm (uh _ _ _ b) ?_⟩;rintro v e _ rfl;exact⟨_,rfl,rfl⟩
 ·refine⟨_,rfl,kF,fun s w hb=>F.rV.vc fun w1 x1=>⟨_,_,_,cm (ext_nil x1 hb) rfl,kF,pm (uh _ _ _ w1) ?_⟩⟩;rintro v b _ rfl;exact⟨_,rfl,rfl⟩
 ·refine⟨_,rfl,kF,fun s w hb=>F.rX.vc fun w1 x1=>⟨_,_,_,cm (ext_nil x1 hb) rfl,kF,pm (uh _ _ _ w1) ?_⟩⟩;rintro v b _ rfl;exact⟨_,rfl,rfl⟩
 ·refine⟨_,rfl,kF,fun s w hb=>F.rY.vc fun w1 x1=>⟨_,_,_,cm (ext_nil x1 hb) rfl,kF,pm (uh _ _ _ w1) ?_⟩⟩;rintro v b _ rfl;exact⟨_,rfl,rfl⟩
theorem mpA:MgT 257 3 256 .nilFunc:=⟨kF,kF,fun w=>by kernel_rfl⟩
structure KV (w0 w:World) (p q mb:Nat) (t:Int):Prop where
 b:Below w0.heap.size w0 w
 at_:w.heap[p]? =some (.cells [Value.int .i64 t].toArray 3 (0,0))
 ch:w.heap[q]? =some (.cells [chV].toArray 253 (0,0))
 mp:yk w w0.heap.size 3 .nilFunc mb 5 (ae3 q)
theorem DL{B:Nat}{ts:List Nat}{w w':World}(x:Ext B ts w w'){k ty:Nat}{cs:Array Value}{fr:Nat×Nat}(h:w.heap[k]? =some (.cells cs ty fr))(b:ty∉ts):w'.heap[k]? =some (.cells cs ty fr):=by
 rcases x.other k (ax.1 h).1 with e|⟨t,d,c1,c2,g,a,i⟩
 ·exact e.trans h
 ·rw[h]at a;cases a;exact absurd d b
section
variable {w0 w w':World} {p q mb:Nat} {t:Int}
theorem KV.below(h:KV w0 w p q mb t)(hb:Below w.heap.size w w'):KV w0 w' p q mb t:=⟨kP h.b hb,ai h.at_ hb,ai h.ch hb,h.mp.below hb⟩
theorem KV.ext(h:KV w0 w p q mb t){ts:List Nat}(x:Ext w0.heap.size ts w w')(h1:3∉ts)(a:253∉ts):KV w0 w' p q mb t:=⟨kE h.b x,DL x h.at_ h1,DL x h.ch a,h.mp.ext x⟩
theorem KV.wrote(h:KV w0 w p q mb t){b:Nat}{cs a:List Value}(hw:aG w w' b 155 a)(hb:w.heap[b]? =some (.cells cs.toArray 155 (0,0)))(hB:w0.heap.size<=b):KV w0 w' p q mb t:=
 ⟨h.b.trans (aG.eC hw hB),(hw.rest p (wF h.at_ hb dc)).trans h.at_,(hw.rest q (wF h.ch hb dc)).trans h.ch,h.mp.wrote hw hb⟩
end
theorem NT{α:Type}{Z m:List α}{i:Nat}(hz:i<Z.length)(hm:i<m.length):(Z.take i++m.drop i).set i Z[i]=Z.take (i+1)++m.drop (i+1):=by
 have hl:(Z.take i).length=i:=by rw[ep];omega
 rw[B4 _ _ om,hl,NW,cy hm,NZ,gv,af hz,fi];rfl
theorem Tp{α:Type}{Z m:List α}{i:Nat}(hz:i<Z.length)(hm:i<m.length)(e:Z[i]=m[i]):Z.take i++m.drop i=Z.take (i+1)++m.drop (i+1):=by
 rw[<-NT hz hm,e];have hl:(Z.take i).length=i:=by rw[ep];omega
 rw[B4 _ _ om,hl,NW,cy hm,NZ]
theorem abp{α:Type}{Z m:List α}{i:Nat}(hz:i<=Z.length)(hm:i<m.length):(Z.take i++m.drop i)[i]? =some m[i]:=by
 have hl:(Z.take i).length=i:=by rw[ep];omega
 rw[iB om,hl,NW,cy hm];rfl
section
variable {w0:World} {A A1 A2 A3:Option Addr} {n c n1 c1 n2 c2 c3:Nat} {l:List Al} {m:List Lp} {v:List Va} {t:Int} {p q mb:Nat}
theorem Tq(hg:bj w0)(hl:bW w0 A 8 (l.map Al.row))(hlen:l.length=n)(nt:∀x∈l,WC x/\vR x.set=true/\vR x.reset=true)(hm:bW w0 A1 3 (m.map Lp.row))(Pq:m.length=n1)(yz:n1=n)(hn:n<1000000)
  (hv:bW w0 A2 4 (v.map Va.row)) (hlv:v.length=n2) (Yl:n2<1000000) (CT:∀y∈v,mO y.num/\vR y.num=true) (ht:0<=t/\t<=1073741824) (hx:∀x∈m,(0<=x.state/\x.state<=4)/\0<=x.since/\x.since<=1073741824):
  ∀(d i:Nat)(w:World),n1 - i=d->i<=n1->KV w0 w p q mb t->ay w w0.heap.size 155 A3 n1 c3 3 (((List.zipWith (step1 v t) l m).take i++m.drop i).map Lp.row)->
   F.dm.uC A n c A2 n2 c2 (⟨p,0,none⟩:Addr) (some mb) A3 n1 c3 A1 n1 c1 n1 i w0.heap.size w (Ij (List.zipWith (step1 v t) l m,0) w0.heap.size):=by
 have hZ:(List.zipWith (step1 v t) l m).length=n1:=by rw[List.length_zipWith];omega
 intro d;induction d with
 |zero=>
  intro i w hd hi hj ho;rw[cc om,dd om,vB]at ho;exact F.dm.uC.step ⟨fun h=>by omega,fun _=>⟨_,_,_,rfl,ho⟩⟩
 |succ d ih=>
  intro i w hd hi hj ho;have bK:i<l.length:=om;have O:i<m.length:=om;have P:i<(List.zipWith (step1 v t) l m).length:=om;have ez:(List.zipWith (step1 v t) l m)[i]=step1 v t l[i] m[i]:=by simp
  have e3:=sc i;have QC:=hx _ (bx O);have sI:=nt _ (bx bK);have same:∀w',KV w0 w' p q mb t->ay w' w0.heap.size 155 A3 n1 c3 3 (((List.zipWith (step1 v t) l m).take i++m.drop i).map Lp.row)->step1 v t l[i] m[i]=m[i]->F.dm.uC A n c A2 n2 c2 (⟨p,0,none⟩:Addr) (some mb) A3 n1 c3 A1 n1 c1 n1 ((i:Int)+1) w0.heap.size w' (Ij (List.zipWith (step1 v t) l m,0) w0.heap.size):=by
   intro w' hj ho e;rw[e3];exact ih (i+1) w' om om hj (by rw[<-Tp P O (by rw[ez,e])];exact ho)
  obtain⟨hb,ad,hA,B,_⟩:=(hm.ar hj.b lf).at_ (fun _=>rfl) Pq O;refine F.dm.uC.step ⟨fun _=>⟨hb,ad,hA,_,_,_,B,?_⟩,fun h=>by omega⟩;refine cK _ (z:= .agg #[.int .i64 0,.int .i64 0,.int .i64 0]) kF hj.b.size fun UK YX U1 l32=> ?_
  refine⟨[.int .i64 0,.int .i64 0,.int .i64 0],_,hj.b.size,rfl,YX,ga _,rfl,fun SN qz=> ?_⟩;have Px:Below w.heap.size w SN:=U1.trans (aG.eC qz lf);have C:=hj.below Px;have o37:=ho.below Px;have Q:SN.heap[w.heap.size]? =some (.cells (Lp.row m[i]).toArray 155 (0,0)):=qz.at_;obtain⟨hb2,ad2,tp,ua,_⟩:=(hl.ar C.b lf).at_ (fun _=>rfl) hlen bK;refine⟨hb2,ad2,tp,_,_,_,_,_,_,_,_,ua,_,_,_,fy Q,_,cm C.at_ rfl,fun w51 D=> ?_⟩;have E:=C.ext D sm sm;refine pm (fI (hg.next E.b) (hv.ar E.b lf) hlv om CT sI.1 sI.2.1 sI.2.2 QC.2 ht) ?_;rintro r VN G rfl;have R:=E.below G;have S:=(o37.lN D).below G;have x58:=ai (ext_nil D Q) G;have es:step1 v t l[i] m[i]=match JI l[i] m[i] v t with|none=>m[i]|some s=>if DK s m[i].state≠m[i].state then⟨m[i].yV,DK s m[i].state,t⟩else m[i]:=rfl
  cases e:JI l[i] m[i] v t with
  |none=>
   rw[e]at es;exact⟨_,_,_,_,_,rfl,fun _=>⟨ir,fun w59 T=>same w59 (R.ext T dc dc) (S.OQ T dc) es⟩,fun k=>absurd rfl k⟩
  |some s=>
   rw[e]at es;refine⟨_,_,_,_,_,rfl,fun k=>(by cases k),fun _ w60 H=> ?_⟩;have I:=R.ext H dc dc;have o60:=S.OQ H dc;have U:=DL H x58 dc;obtain⟨f,ef,bU,hf⟩:=abo (p:=q) QC.1.1 QC.1.2;refine⟨_,bz U rfl,Ah I.mp mpA ir ?_⟩;rw[ef];refine⟨_,_,_,rfl,bU,pm (hf s w60 I.ch) ?_⟩;rintro r w67 J rfl;have K:=I.below J;have a:=o60.below J;have x67:=ai U J;refine⟨_,rfl,_,bz x67 rfl,fun hne=> ?_,fun heq=>⟨ir,same w67 K a (es.trans (aq heq))⟩⟩;have es:=es.trans (bm hne);have ic:(((List.zipWith (step1 v t) l m).take i++m.drop i).map Lp.row)[i]? =some (m[i]).row:=by rw[ow,abp om O];rfl
   have next:∀w',KV w0 w' p q mb t->ay w' w0.heap.size 155 A3 n1 c3 3 ((((List.zipWith (step1 v t) l m).take i++m.drop i).map Lp.row).set i (Lp.row ⟨m[i].yV,DK s m[i].state,t⟩))->aN .i64 ((i:Int)+1)/\F.dm.uC A n c A2 n2 c2 (⟨p,0,none⟩:Addr) (some mb) A3 n1 c3 A1 n1 c1 n1 ((i:Int)+1) w0.heap.size w' (Ij (List.zipWith (step1 v t) l m,0) w0.heap.size):=by
    intro w' hj ho;refine⟨ir,?_⟩;rw[e3];refine ih (i+1) w' om om hj ?_;rw[<-NT P O,ez,es,IK];exact ho
   obtain⟨g1,a2,V,_⟩:=a.set (i:=(i:Int)) om om 1 [.int .i64 (DK s m[i].state)] (m[i]).row (by rw[cd];exact ic) sm;have two:∀(L:World),KV w0 L p q mb t->ay L w0.heap.size 155 A3 n1 c3 3 (((List.zipWith (step1 v t) l m).take i++m.drop i).map Lp.row)->
     ∃cs:List Value,w0.heap.size<=((a2.add ((i:Int).toNat*3)).add 1).block/\((a2.add ((i:Int).toNat*3)).add 1).spot=none/\L.heap[((a2.add ((i:Int).toNat*3)).add 1).block]? =some (.cells cs.toArray 155 (0,0))/\((a2.add ((i:Int).toNat*3)).add 1).off+1<=cs.length/\
      ∀o,aG L o ((a2.add ((i:Int).toNat*3)).add 1).block 155 (setCells cs ((a2.add ((i:Int).toNat*3)).add 1).off [.int .i64 (DK s m[i].state)])->KV w0 o p q mb t/\
       ∃g:List Value,w0.heap.size<=((a2.add ((i:Int).toNat*3)).add 2).block/\((a2.add ((i:Int).toNat*3)).add 2).spot=none/\o.heap[((a2.add ((i:Int).toNat*3)).add 2).block]? =some (.cells g.toArray 155 (0,0))/\((a2.add ((i:Int).toNat*3)).add 2).off+1<=g.length/\
        ∀W,aG o W ((a2.add ((i:Int).toNat*3)).add 2).block 155 (setCells g ((a2.add ((i:Int).toNat*3)).add 2).off [.int .i64 t])->aN .i64 ((i:Int)+1)/\F.dm.uC A n c A2 n2 c2 (⟨p,0,none⟩:Addr) (some mb) A3 n1 c3 A1 n1 c1 n1 ((i:Int)+1) w0.heap.size W (Ij (List.zipWith (step1 v t) l m,0) w0.heap.size):=by
    intro L j o70;obtain⟨_,a3,VY,cs,g2,g3,g4,g5,g6⟩:=o70.set (i:=(i:Int)) om om 1 [.int .i64 (DK s m[i].state)] (m[i]).row (by rw[cd];exact ic) sm;rw[V]at VY;cases VY;refine⟨cs,g2,g3,g4,g5,fun o WL=> ?_⟩;have X:=j.wrote WL g4 g2;have Y:=g6 o WL;rw[cd]at Y;obtain⟨_,a4,VZ,g,M,Z,N,r5,r6⟩:=Y.set (i:=(i:Int)) om om 2 [.int .i64 t] (setCells (m[i]).row 1 [.int .i64 (DK s m[i].state)]) (by rw[cd,B2 (by rw[en,dp,ep,wo];omega)]) sm;rw[V]at VZ;cases VZ;refine⟨X,g,M,Z,N,r5,fun W ae7=>next W (X.wrote ae7 N M) ?_⟩
    have o78:=r6 W ae7;rw[cd,List.set_set]at o78;exact o78
   refine⟨g1,a2,V,fun L x70=> ?_,fun w79 x79=> ?_⟩
   ·have j:=K.ext x70 sm sm;obtain⟨cs,q1,q2,q3,q4,q5⟩:=two L j (a.lN x70);refine⟨_,cm j.at_ rfl,cs,_,q1,q2,q3,q4,rfl,fun o WL=>⟨g1,a2,V,?_⟩⟩;obtain⟨_,g,r1,M,Z,N,r5⟩:=q5 o WL;exact⟨g,_,r1,M,Z,N,rfl,r5⟩
   ·have j79:=K.ext x79 sm sm;obtain⟨cs,q1,q2,q3,q4,q5⟩:=two w79 j79 (a.lN x79);refine⟨cs,_,q1,q2,q3,q4,rfl,fun w82 ajP=> ?_⟩;obtain⟨j82,g,r1,M,Z,N,r5⟩:=q5 w82 ajP;exact⟨_,cm j82.at_ rfl,g1,a2,V,g,_,r1,M,Z,N,rfl,r5⟩
end

theorem NU{α:Type}{f:Option α->α->Int}:∀(l:List α)(p:Option α)(i:Nat),(HA f p i l).2=0->∀a∈l,∃d,f d a=0:=by
 intro l;induction l with
 |nil=>intro p i _ a ha;cases ha
 |cons c r ih=>
  intro p i h a ha;rw[HA]at h;split at h
  ·rename_i b;exact absurd h b
  ·rename_i e;rcases cb.1 ha with rfl|ha
   ·exact⟨p,dT.1 e⟩
   ·exact ih _ _ h a ha
theorem Ts{p:Option Al}{a:Al}(h:gq p a=0):vR a.set=true/\vR a.reset=true:=by
 unfold gq at h;apply bB;intro k;rw[bm k]at h;cases h
theorem Tt{l:List Al}(h:(pE l).2=0):∀a∈l,vR a.set=true/\vR a.reset=true:=by
 unfold pE at h;split at h
 ·cases h
 ·intro a ha;obtain⟨p,h⟩:=NU l none 0 h a ha;exact Ts h
theorem WM{l:List Al}{m:List Lp}(h:vK l m=true):(∀a∈l,vR a.set=true/\vR a.reset=true)/\l.length=m.length/\∀x∈m,(0<=x.state/\x.state<=4)/\0<=x.since/\x.since<=1073741824:=by
 unfold vK at h;rw[de,de]at h;have hl:=fs h.2.1;refine⟨Tt (fs h.1),hl,fun x hx=> ?_⟩;obtain⟨i,hi,rfl⟩:=BA.1 hx;have hz:i<(l.zip m).length:=by rw[Ow];omega
 have:=gu.1 h.2.2 _ (bx hz);have b:(l.zip m)[i]=(l[i],m[i]):=by simp
 rw[b]at this;have:=fs this;exact⟨⟨this.2.1,this.2.2.1⟩,this.2.2.2⟩
theorem WN{w:World}(hg:bj w){y:Va}(hy:mO y.num):Pure Tryz.prog 158 #[y.val] w fun v _=>v= .bool (!vR y.num):=by
 refine F.rP.vc fun w1 x1=>pm (sZ (hg.next (k0 x1)) hy) ?_
 rintro v a _ rfl;refine⟨_,rfl,ca Value.bool ?_⟩;cases vR y.num<;>rfl
theorem WO{w:World}{p:Nat}{t:Int}(h:w.heap[p]? =some (.cells [Value.int .i64 t].toArray 3 (0,0)))(x:Lp):
  Pure Tryz.prog 161 #[x.val,.pointer (some ⟨p,0,none⟩)] w fun v _=>v= .bool (decide (x.since>t)):=
 F.rQ.vc fun w1 x1=>⟨_,cm (ext_nil x1 h) rfl,rfl⟩
section
variable {w:World} {A A1 A2:Option Addr} {n c n1 c1 n2 c2:Nat} {l:List Al} {m:List Lp} {v:List Va} {t:Int}
theorem dm(hg:bj w)(hl:bW w A 8 (l.map Al.row))(hlen:l.length=n)(hn:n<1000000)(O:∀x∈l,WC x)(hm:bW w A1 3 (m.map Lp.row))(o:m.length=n1)(P:bW w A2 4 (v.map Va.row))(e:v.length=n2)(Yl:n2<1000000)(Q:∀y∈v,mO y.num)(yz:n1<1000000):
  Pure Tryz.prog 114 #[.slice A n c,.slice A1 n1 c1,.slice A2 n2 c2,.int .i64 t] w (Ij (Bh l m v t) w.heap.size):=by
 refine F.dm.vc fun w1 x1=> ?_
 have h1:=k0 x1;refine pm (eQ (hg.next h1) (hl.ar h1 lf) hlen om O (hm.ar h1 lf) o) ?_;rintro r w4 b4 rfl;have C:=kP h1 b4;unfold Bh;refine⟨_,rfl,fun q=>by rw[bm q];exact Ij.no _ _,fun q=> ?_⟩;rw[aq q];obtain⟨f1,f2,f3⟩:=WM (by simpa using q);refine pm (Mn (P.ar C lf) e om (a:= #[]) (k:= #[]) (p:=fun y=> !vR y.num) kF fun w' hb y hy=>WN (hg.next (kP C hb)) (Q y hy)) ?_;rintro r w7 b7 rfl;have h7:=kP C b7;refine⟨_,rfl,fun q=>by rw[bm q];exact Ij.no _ _,fun R=> ?_⟩;rw[aq (by rw[R];decide)];have D:∀y∈v,mO y.num/\vR y.num=true:=fun y hy=>⟨Q y hy,by
  have:=zI.1 R y hy;simpa using this⟩
 refine⟨fun k=>by rw[bm om];exact Ij.no _ _,fun k=> ?_⟩;rw[aq om];refine pm (kj t w7) ?_;rintro r kg xr rfl;have S:=kP h7 xr;refine⟨_,rfl,fun k=>by rw[bm (kh k)];exact Ij.no _ _,fun k p hp T=> ?_⟩;have U:0<=t/\t<=1073741824:=by simpa using k
 rw[aq (fun q=>q U)];refine pm (Mm (hm.ar S lf) o om (a:= #[]) (k:= #[.pointer (some ⟨p,0,none⟩)]) (p:=fun x=>decide (x.since>t)) kF fun w' hb x _=>WO (ai T hb) x) ?_;rintro r CV V rfl;have E:=kP S V;have G:=ai T V;refine⟨_,rfl,fun k=>by rw[bm k];exact Ij.no _ _,fun k Du W=> ?_⟩;rw[aq (by rw[k];decide)];have b:=kE E W;have Tu:=ext_nil W G;refine Ai (tk:=3) (zv:= .nilFunc) b.size fun Eh m18 X H ap7 I=> ?_
 have d:=kP b X;have J:=ai Tu X;have i5:∀z:Int,0<=z->z<=4->aN .i64 z:=fun z _ _=>by simp only[aN];omega
 refine df m18 mpA (i5 0 om om) _ om b.size d.size fun zL m20 g g20=> ?_
 refine df m20 mpA (i5 1 om om) _ om b.size (ec d.size g.size) fun EI m21 B g21=> ?_
 refine df m21 mpA (i5 2 om om) _ om b.size (ec d.size (ec g.size B.size)) fun uA m22 K g22=> ?_
 refine df m22 mpA (i5 3 om om) _ om b.size (ec d.size (ec g.size (ec B.size K.size))) fun zT m23 Y g23=> ?_
 refine df m23 mpA (i5 4 om om) _ om b.size (ec d.size (ec g.size (ec B.size (ec K.size Y.size)))) fun Z m24 Ik g24=> ?_
 have kp:∀{k ty:Nat} {cs:Array Value},Eh.heap[k]? =some (.cells cs ty (0,0))->Z.heap[k]? =some (.cells cs ty (0,0)):=fun hk=>by
  have U2:=(pV m18 g20 hk).trans hk;have h:=(pV m20 g21 U2).trans U2;have i:=(pV m21 g22 h).trans h;have j:=(pV m22 g23 i).trans i;exact(pV m23 g24 j).trans j
 have L:Below w.heap.size w Z:=d.trans (g.trans (B.trans (K.trans (Y.trans Ik))));refine pm (Hr (hm.ar L lf) o om) ?_;rintro r BN FK ⟨A25,c25,rfl,M⟩;have N:KV w BN p H Du.heap.size t:=KV.below ⟨L,kp J,kp I,m24.le b.size⟩ FK;refine⟨_,_,_,rfl,Tq hg hl hlen (fun x hx=>⟨O x hx,f1 x hx⟩) hm o om hn P e Yl D U f3 n1 0 BN rfl om N ?_⟩;rw[FI,AY,u0];exact M.base L.size
end

theorem bW.pre{α:Type}{row:α->List Value}{w:World}{A:Option Addr}{sz:Nat}{l:List α}(h:bW w A sz (l.map row))(i:Nat):bW w A sz ((l.take i).map row):=by
 rw[DO];exact h.take i
def MI(ss:List Si)(id:Int):ByteArray:=match NP ss id with
 |some k=>match ss[k]? with
  |some s=>s.key
  |none=>⟨#[]⟩
 |none=>⟨#[]⟩
def uD(H:mw)(ss:List Si):List Ap->List Ap->Int×Int
 |_,[]=>(-1,0)
 |pre,a::r=>if mY ss pre a≠0 then((pre.length:Int),mY ss pre a)else if a.code≠codeF H (MI ss a.cR) a then((pre.length:Int),14)else uD H ss (pre++[a]) r
noncomputable def eJ(H:mw)(ss:List Si)(l:List Ap):Int×Int:=if od ss=false then(-1,1)else if 1024<l.length then(-1,8)else uD H ss [] l
theorem Bi{ss:List Si}{l:List Ap}{a:Ap}(h:mY ss l a=0):(∃k,NP ss a.cR=some k)/\(0<=a.tick/\a.tick<=1073741824)/\a.subject.size=32:=by
 unfold mY at h;split at h
 ·cases h
 ·rename_i h1;split at h
  ·cases h
  ·rename_i b;refine⟨FL.1 h1,?_⟩;constructor
   ·apply bB;exact fun k=>b (.inl k)
   ·apply bB;exact fun k=>b (.inr k)
theorem Tv{ss:List Si}{id:Int}{k:Nat}(h:NP ss id=some k):∃a:k<ss.length,ss[k].id=id:=by
 obtain⟨a,h1,_⟩:=tu.1 h;exact⟨a,fs h1⟩
section
variable {H:mw} {w:World} {A A1:Option Addr} {n c n1 c1:Nat} {ss:List Si} {l:List Ap}
theorem cG(ok:fj H)(hg:bj w)(hs:bW w A 4 (ss.map Si.row))(j:ss.length=n)(hn:n<2147483648)(hl:bW w A1 4 (l.map Ap.row))(E:l.length=n1)(T:n1<2147483648)(U:n1<=c1):
  Pure Tryz.prog 110 #[.slice A n c,.slice A1 n1 c1] w fun v _=>v= .tuple #[.int .i64 (eJ H ss l).1,.int .i64 (eJ H ss l).2]:=by
 refine F.cG.vc (pm (cI hs j hn) ?_);rintro v G I rfl;unfold eJ;refine⟨_,rfl,fun q=>by rw[bm q],fun q=> ?_⟩;rw[aq q];obtain⟨J,m⟩:=ji.1 (by simpa using q);refine⟨fun k=>by rw[bm om],fun k=> ?_⟩;rw[aq om];have key:∀(d i:Nat)(w':World),n1 - i=d->i<=n1->Below w.heap.size w w'->uD H ss (l.take i) (l.drop i)=uD H ss [] l->F.cG.L6 A n c A1 n1 c1 A1 n1 c1 n1 i w.heap.size w' fun v _=>v= .tuple #[.int .i64 (uD H ss [] l).1,.int .i64 (uD H ss [] l).2]:=by
  intro d;induction d with
  |zero=>
   intro i w' K hi hw b;rw[dd om]at b;rw[<-b];exact F.cG.L6.step ⟨fun h=>by omega,fun _=>rfl⟩
  |succ d ih=>
   intro i w' K hi hw b;have o:i<l.length:=om;have L:=sc i;have C:(l.take i).length=i:=by rw[ep];omega
   rw[cy o,uD,C]at b;obtain⟨hb,M,N,e,_⟩:=(hl.ar hw lf).at_ (fun _=>rfl) E o;refine F.cG.L6.step ⟨fun _=>⟨hb,M,N,_,_,_,_,e,om,fun V O=> ?_⟩,fun h=>by omega⟩;have r:=kE hw O;rw[cd];refine pm (kr (hs.ar r lf) j hn ((hl.ar r lf).pre i) C om l[i]) ?_;rintro v W P rfl;have D:=kP r P;refine⟨_,rfl,fun h=> ?_,fun h X x=> ?_⟩
   ·rw[bm h]at b;rw[<-b]
   rw[aq h]at b;have g:=kE D x;obtain⟨⟨k,y⟩,Y,lz⟩:=Bi (dT.1 h);obtain⟨z,hid⟩:=Tv y;obtain⟨_,ho⟩:=DG J _ (bx z);have B:MI ss l[i].cR=ss[k].key:=by
    unfold MI;rw[y];simp only;rw[af z]
   refine pm (gU (hs.ar g lf) j hn l[i].cR) ?_;rintro v Z Q rfl;have m:=kP g Q;rw[y];obtain⟨p1,a2,p2,_,p3⟩:=(hs.ar D lf).at_ (fun _=>rfl) j z;refine⟨_,rfl,p1,a2,p2,_,p3 3 _ rfl,pm (NO ok (hg.next m) (a:=l[i]) ho.2.2.2.1.2 (by simp only[aN];have:=ho.1;omega) ir om) ?_⟩;rintro v R S rfl;rw[B]at b;refine⟨_,rfl,fun q=> ?_,fun q=>⟨ir,?_⟩⟩
   ·rw[bm q]at b;rw[<-b]
   ·rw[aq q]at b;rw[L];refine ih (i+1) R om om (kP m S) ?_;rw[gv,af o];exact b
 exact key n1 0 G rfl om I rfl
def An(a:List Int)(window except:Int):Bool:=decide ((1<=a.length/\a.length<=9)/\(∀r∈a,1<=r/\r<=9)/\(0<=window/\window<=1073741824)/\(0<=except/\except<=1073741824))
theorem Tw(r:Int)(w:World):Pure Tryz.prog 175 #[.int .i64 r] w fun v _=>v= .bool (decide (¬(1<=r/\r<=9))):=by
 refine F.mW.vc ⟨fun h=>ca Value.bool (YW (hM om)),fun h=>ca Value.bool ?_⟩;rw[ky];omega
theorem km{A0:Option Addr}{n0 c0:Nat}{b:List Int}(d:bW w A0 1 (b.map fO))(e:b.length=n0)(j:n0<2147483648)(window except:Int):
  Pure Tryz.prog 117 #[.agg #[.slice A0 n0 c0,.int .i64 window,.int .i64 except]] w fun v _=>v= .bool (An b window except):=by
 have no:¬((1<=b.length/\b.length<=9)/\(∀r∈b,1<=r/\r<=9)/\(0<=window/\window<=1073741824)/\(0<=except/\except<=1073741824))->Value.bool false= .bool (An b window except):=fun h=>by
  unfold An;rw[eL h]
 refine F.km.vc ⟨fun q1=>⟨fun m w1 x1=> ?_,fun m x _=>no fun k=>by have:=k.1;omega⟩,fun q1 y _=>no fun k=>by have:=k.1;omega⟩;have h1:=k0 x1;refine pm (zY (d.ar h1 lf) e j (a:= #[]) (k:= #[]) (p:=fun r=>decide (¬(1<=r/\r<=9))) kF fun w' _ r _=>Tw r w') ?_;rintro v o z rfl;refine⟨_,rfl,fun g=>pm (gA _ o) ?_,fun g=>no fun k=>g (MC.2 fun h=> ?_)⟩
 ·have all:∀r∈b,1<=r/\r<=9:=fun r d=>by
   have:=zI.1 g r d;simpa using this
  rintro v q B rfl;refine⟨_,rfl,fun i=>pm (gA _ q) ?_,fun i=>no fun k=>kh i k.2.2.1⟩;rintro v C _ rfl;refine⟨_,rfl,ca Value.bool ?_⟩;unfold An;rw[ky];exact⟨fun k=>⟨om,all,fs i,k⟩,fun k=>k.2.2.2⟩
 ·obtain⟨r,d,hx⟩:=uv.1 h;exact fs hx (k.2.1 r d)
end

theorem mpI:MgT 211 3 3 (.int .i64 0):=⟨kF,kF,fun w=>by kernel_rfl⟩
def MJ(s:Si)(subject:ByteArray)(window except at_:Int)(a:Ap):Bool:=decide (a.cR=s.id/\a.subject=subject/\a.tick<=at_/\a.tick≥at_ - window/\s.id≠except)
def HD(l:List Ap)(subject:ByteArray)(window except at_:Int)(s:Si):Bool:=l.any (MJ s subject window except at_)
def vO(ss:List Si)(l:List Ap)(subject:ByteArray)(eZ:List Int)(window except at_ r:Int):Int:=(eZ.count r:Int) - (ss.countP fun s=>decide (s.role=r)&&HD l subject window except at_ s:Nat)
def yZ(g:Int->Int)(k:Nat):List Int:=(List.range k).flatMap fun(j:Nat)=>List.replicate (g ((j:Int)+1)).toNat ((j:Int)+1)
theorem Pz(g:Int->Int)(k:Nat):yZ g (k+1)=yZ g k++List.replicate (g ((k:Int)+1)).toNat ((k:Int)+1):=by
 unfold yZ;rw[GX,QK];simp
noncomputable def xx(H:mw)(ss:List Si)(l:List Ap)(subject:ByteArray)(eZ:List Int)(window except at_:Int):List Int×Int:=
 if(eJ H ss l).2≠0 then([],1)else if An eZ window except=false then([],1)else if subject.size≠32 then([],2)else if ¬(0<=at_/\at_<=1073741824)then([],2)
 else(yZ (vO ss l subject eZ window except at_) 9,0)
noncomputable def MK(H:mw)(ss:List Si)(l:List Ap)(subject:ByteArray)(eZ:List Int)(window except at_:Int):Bool:=
 decide ((xx H ss l subject eZ window except at_).2=0/\(xx H ss l subject eZ window except at_).1=[])
structure QD (w0 w:World) (p1 p2 p3 mb:Nat) (subject:ByteArray) (A:Option Addr) (n c:Nat) (window except at_:Int) (g:Int->Int) (k:Nat):Prop where
 b:Below w0.heap.size w0 w
 s:w.heap[p1]? =some (.cells [Value.string subject].toArray 9 (0,0))
 n:w.heap[p2]? =some (.cells [Value.slice A n c,.int .i64 window,.int .i64 except].toArray 130 (0,0))
 t:w.heap[p3]? =some (.cells [Value.int .i64 at_].toArray 3 (0,0))
 m:∃f,yk w w0.heap.size 3 (.int .i64 0) mb k f/\∀z,(f z).getD (.int .i64 0)= .int .i64 (g z)
section
variable {w0 w w':World} {p1 p2 p3 mb:Nat} {subject:ByteArray} {A0:Option Addr} {n0 c0:Nat} {window except at_:Int} {g:Int->Int} {k:Nat}
theorem QD.below(h:QD w0 w p1 p2 p3 mb subject A0 n0 c0 window except at_ g k)(hb:Below w.heap.size w w'):QD w0 w' p1 p2 p3 mb subject A0 n0 c0 window except at_ g k:=by
 obtain⟨f,h1,a⟩:=h.m;exact⟨kP h.b hb,ai h.s hb,ai h.n hb,ai h.t hb,f,h1.below hb,a⟩
theorem QD.look(h:QD w0 w p1 p2 p3 mb subject A0 n0 c0 window except at_ g k){z:Int}(hz:1<=z/\z<=9){K:Int->World->Prop}(a:K (g z) w):
  ae Tryz.prog (Instr.lookup 211 (.map (some mb)) (.int .i64 z) false) w0.heap.size [] w (Ri K):=by
 obtain⟨f,h1,b⟩:=h.m;exact Ah h1 mpI ir ⟨_,b z,a⟩
theorem QD.put(h:QD w0 w p1 p2 p3 mb subject A0 n0 c0 window except at_ g k){z:Int}(hz:1<=z/\z<=9)(x:Int)(q:k<1000){K:World->Prop}
  (d:∀w',QD w0 w' p1 p2 p3 mb subject A0 n0 c0 window except at_ (fun y=>if y=z then x else g y) (k+1)->K w'):
  eM Tryz.prog (Instr.mapUpdate 211 (.map (some mb)) (.int .i64 z) (.int .i64 x)) w0.heap.size [] w K:=by
 obtain⟨f,h1,i⟩:=h.m;refine df h1 mpI ir _ om lf h.b.size fun w' j o a=>d w' ⟨h.b.trans o,(pV h1 a h.s).trans h.s,(pV h1 a h.n).trans h.n,(pV h1 a h.t).trans h.t,_,j,fun y=> ?_⟩
 unfold BM;by_cases e:y=z
 ·rw[bm e,bm e];rfl
 ·rw[aq e,aq e];exact i y
theorem WQ(h:QD w0 w p1 p2 p3 mb subject A0 n0 c0 window except at_ g k)(x:(0<=window/\window<=1073741824)/\(0<=at_/\at_<=1073741824)){p:Nat}{s:Si}(hs:w.heap[p]? =some (.cells (Si.row s).toArray 106 (0,0)))(a:Ap):
  Pure Tryz.prog 119 #[a.val,.pointer (some ⟨p,0,none⟩),.pointer (some ⟨p1,0,none⟩),.pointer (some ⟨p3,0,none⟩),.pointer (some ⟨p2,0,none⟩)] w fun v _=>v= .bool (MJ s subject window except at_ a):=by
 have no:∀{q:Prop},¬q->(MJ s subject window except at_ a=true->q)->Value.bool false= .bool (MJ s subject window except at_ a):=fun h1 o=>ca Value.bool (YW (MC.2 fun k=>h1 (o k)))
 have un:MJ s subject window except at_ a=true->a.cR=s.id/\a.subject=subject/\a.tick<=at_/\a.tick≥at_ - window/\s.id≠except:=fun k=>fs k
 refine F.kO.vc fun w1 x1=> ?_
 have i:=ext_nil x1 hs;have r:=ext_nil x1 h.s;have j:=ext_nil x1 h.t;have m:=ext_nil x1 h.n;refine⟨_,bz i rfl,fun q1=>⟨_,cm r rfl,fun b=>⟨_,cm j rfl,fun d=>⟨_,cm j rfl,_,bz m rfl,ir,fun e=>⟨_,bz i rfl,_,bz m rfl,ca Value.bool ?_⟩,fun e=>no e fun k=>(un k).2.2.2.1⟩,fun d=>no d fun k=>(un k).2.2.1⟩,fun b=>no b fun k=>(un k).2.1⟩,fun q1=>no q1 fun k=>(un k).1⟩;unfold MJ;rw[ky];exact⟨fun k=>⟨q1,b,d,e,k⟩,fun k=>k.2.2.2.2⟩
end
section
variable {H:mw} {w0 w:World} {A A1 A0:Option Addr} {n c n1 c1 n0 c0:Nat} {ss:List Si} {l:List Ap} {eZ:List Int} {subject:ByteArray} {window except at_:Int} {p1 p2 p3 mb:Nat}
def MsR(r:List Int×Int)(v:Value)(w':World):Prop:=∃A n c,v= .tuple #[.slice A n c,.int .i64 r.2]/\ay w' 0 3 A n c 1 (r.1.map fO)
theorem Ty{g:Int->Int}(b:∀z,g z<=9){f:Int->Option Value}(hf:∀z,(f z).getD (.int .i64 0)= .int .i64 (g z)){k:Nat}:∀(d j:Nat)(w:World)(A:Option Addr)(n c:Nat),9 - j=d->j<=9->Below w0.heap.size w0 w->yk w w0.heap.size 3 (.int .i64 0) mb k f->ay w w0.heap.size 3 A n c 1 ((yZ g j).map fO)->n<=9*j->
  F.aw.B8 (some mb) A n c ((j:Int)+1) w0.heap.size w (MsR (yZ g 9,0)):=by
 intro d;induction d with
 |zero=>
  intro j w A n c o hj hb hm ho hn;have:j=9:=om;subst this;exact F.aw.B8.step ⟨fun h=>by omega,fun _=>⟨_,_,_,rfl,ho.base (Xl _)⟩⟩
 |succ d ih=>
  intro j w A n c o hj hb hm ho hn;refine F.aw.B8.step ⟨fun _=>Ah hm mpI ir ⟨_,hf _,?_⟩,fun h=>by omega⟩;have G:=b ((j:Int)+1);have em:(if(0:Int)>g ((j:Int)+1)then(0:Int)else g ((j:Int)+1))=((g ((j:Int)+1)).toNat:Int):=by split<;>omega
  dsimp only;rw[em];have inner:∀(e i:Nat)(w:World)(A:Option Addr)(n c:Nat),(g ((j:Int)+1)).toNat - i=e->i<=(g ((j:Int)+1)).toNat->Below w0.heap.size w0 w->yk w w0.heap.size 3 (.int .i64 0) mb k f->ay w w0.heap.size 3 A n c 1 ((yZ g j++List.replicate i ((j:Int)+1)).map fO)->n<=9*j+i->
    F.aw.KN (some mb) A n c ((j:Int)+1) ((g ((j:Int)+1)).toNat:Int) i w0.heap.size w (MsR (yZ g 9,0)):=by
   intro e;induction e with
   |zero=>
    intro i w A n c he hi hb hm ho hn;have:i=(g ((j:Int)+1)).toNat:=om;subst this;rw[<-Pz]at ho;refine F.aw.KN.step ⟨fun h=>by omega,fun _=>⟨ir,?_⟩⟩;have q:(j:Int)+1+1=((j+1:Nat):Int)+1:=om;rw[q];exact ih (j+1) w A n c om om hb hm ho om
   |succ e r=>
    intro i w A n c he hi hb hm ho hn;refine F.aw.KN.step ⟨fun _=> ?_,fun h=>by omega⟩;refine ix gM lf ho (x:= .int .i64 ((j:Int)+1)) rfl (by simp[Value.cells,bk]) hb.size om dc fun A' c' y B g2 C=>⟨ir,?_⟩
    have D:=sc i;rw[D];refine r (i+1) y A' (n+1) c' om om (hb.trans C) (hm.same (g2.block mb hm.lt fun e=> ?_)) ?_ om
    ·cases A with
     |none=>cases e
     |some a=>
      cases e;obtain⟨I,E⟩:=ho.cells a rfl;obtain⟨es,clock,m⟩:=hm.isMap;rw[E]at m;cases m
    ·rw[U0,<-fi,eh];exact B
  exact inner _ 0 w A n c rfl om hb hm (by simpa using ho) om
theorem aw(ok:fj H)(hg:bj w)(hs:bW w A 4 (ss.map Si.row))(Tj:ss.length=n)(hn:n<1000000)(hl:bW w A1 4 (l.map Ap.row))(SK:l.length=n1)(yz:n1<1000000)(pB:n1<=c1)(hr:bW w A0 1 (eZ.map fO))(I:eZ.length=n0)(Ih:n0<1000000):
  Pure Tryz.prog 95 #[.slice A n c,.slice A1 n1 c1,.string subject,.agg #[.slice A0 n0 c0,.int .i64 window,.int .i64 except],.int .i64 at_] w (MsR (xx H ss l subject eZ window except at_)):=by
 have none_:∀(e:Int)(w':World),MsR ([],e) (.tuple #[.slice none 0 0,.int .i64 e]) w':=fun e w'=>⟨_,_,_,rfl,ay.nil⟩
 refine F.aw.vc (qa _ _ lf fun w1 h1 S l1=>qa _ _ S.size fun G h4 T l4=>qa _ _ (ec S.size T.size) fun w7 h7 U l7=> ?_);have nA:=kP S T;have J:=kP nA U;have x1:=ai (ai h1 T) U;have x4:=ai h4 U;refine pm (cG ok (hg.next J) (hs.ar J lf) Tj om (hl.ar J lf) SK om pB) ?_;rintro v xQ y rfl;have V:=kP J y;unfold xx;refine⟨_,_,rfl,fun q=>by rw[bm q];exact none_ _ _,fun q=>⟨_,_,_,_,_,fy (ai x4 y),pm (km (hr.ar V lf) I om window except) ?_⟩⟩;rw[aq q];rintro v Cb B rfl;have pC:=kP V B;refine⟨_,rfl,fun q1=>by rw[bm q1];exact none_ _ _,fun q1=>⟨_,cm (ai (ai x1 y) B) rfl,fun q2=>by rw[aq q1,bm om];exact none_ _ _,fun q2=>⟨_,cm (ai (ai h7 y) B) rfl,pm (gA _ Cb) ?_⟩⟩⟩;rw[aq q1,aq om];rintro v K L rfl;have Q:=kP pC L;refine⟨_,rfl,fun W=>by rw[bm (kh W)];exact none_ _ _,fun W=> ?_⟩;have BB:0<=at_/\at_<=1073741824:=by simpa using W
 rw[aq (fun k=>k BB)];obtain⟨⟨_,v9⟩,vr,vw,_⟩:=fs (show An eZ window except=true by simpa using q1);refine Ai (tk:=3) (zv:= .int .i64 0) Q.size fun BN X M=> ?_
 have vQ:=kP Q M;have N:QD w BN w.heap.size w1.heap.size G.heap.size K.heap.size subject A0 n0 c0 window except at_ (fun _=>0) 0:=by
  have kk:=((y.mono J.size).trans ((B.mono V.size).trans ((L.mono pC.size).trans (M.mono Q.size))));refine⟨vQ,ai (ai (ai (ai x1 y) B) L) M,ai (ai (ai (ai x4 y) B) L) M,ai (ai (ai (ai h7 y) B) L) M,_,X.le Q.size,fun z=>rfl⟩
 refine⟨_,_,_,bz N.n rfl,?_⟩;have Y:∀(d i:Nat)(w':World)(g:Int->Int)(k:Nat),n - i=d->i<=n->k<=100+i->QD w w' w.heap.size w1.heap.size G.heap.size K.heap.size subject A0 n0 c0 window except at_ g k->n<=16->(∀z,g z=(eZ.count z:Int) - ((ss.take i).countP fun s=>decide (s.role=z)&&HD l subject window except at_ s:Nat))->
   F.aw.uC A1 n1 c1 ⟨w.heap.size,0,none⟩ ⟨w1.heap.size,0,none⟩ ⟨G.heap.size,0,none⟩ (some K.heap.size) A n c n i w.heap.size w' (MsR (yZ (vO ss l subject eZ window except at_) 9,0)):=by
  intro d;induction d with
  |zero=>
   intro i w' g k Z hi hk hm O o;rw[cc om]at o;have eg:g=vO ss l subject eZ window except at_:=funext o;obtain⟨f,f1,f2⟩:=hm.m;rw[eg]at f2;refine F.aw.uC.step ⟨fun h=>by omega,fun _=>Ty (fun z=> ?_) f2 9 0 w' none 0 0 rfl om hm.b f1 ay.nil om⟩;have:=Vg (a:=z) (l:=eZ);unfold vO;omega
  |succ d ih=>
   intro i w' g k Z hi hk hm O o;have C:i<ss.length:=om;have R:=sc i;obtain⟨hb,ad,hA,j,_⟩:=(hs.ar hm.b lf).at_ (fun _=>rfl) Tj C;have r:1<=ss[i].role/\ss[i].role<=9:=by
    have x:(eJ H ss l).2=0:=dT.1 q;unfold eJ at x;split at x
    ·cases x
    ·rename_i hq;obtain⟨_,ho⟩:=DG (ji.1 (by simpa using hq)).1 _ (bx C);exact ho.2.1
   have et:∀z,(ss.take (i+1)).countP (fun s=>decide (s.role=z)&&HD l subject window except at_ s)=(ss.take i).countP (fun s=>decide (s.role=z)&&HD l subject window except at_ s)+if(decide (ss[i].role=z)&&HD l subject window except at_ ss[i])=true then 1 else 0:=fun z=>by
    rw[gv,af C,List.countP_append];simp[YF]
   refine F.aw.uC.step ⟨fun _=>⟨hb,ad,hA,_,_,_,_,j,fun YK x40 p41 aqc jQ=> ?_⟩,fun h=>by omega⟩;have D:=hm.below (extAll x40);refine pm (Dy (hl.ar D.b lf) SK om (a:= #[]) (k:= #[.pointer (some ⟨p41,0,none⟩),.pointer (some ⟨w.heap.size,0,none⟩),.pointer (some ⟨G.heap.size,0,none⟩),.pointer (some ⟨w1.heap.size,0,none⟩)]) (p:=MJ ss[i] subject window except at_) kF fun w' hb a _=>WQ (D.below hb) ⟨vw,BB⟩ (ai jQ hb) a) ?_;rintro v w44 P rfl;have E:=D.below P;refine⟨_,rfl,fun x=>⟨_,bz (ai jQ P) rfl,E.look r ⟨?_,E.put r _ om fun YB j49=>⟨ir,?_⟩⟩⟩,fun x=>⟨ir,?_⟩⟩
   ·have h1:=o ss[i].role;have h2:=Vg (a:=ss[i].role) (l:=eZ);have h3:=TQ (p:=fun s=>decide (s.role=ss[i].role)&&HD l subject window except at_ s) (l:=ss.take i);rw[ep]at h3;simp only[aN];omega
   ·rw[R];refine ih (i+1) YB _ (k+1) om om om j49 O fun z=> ?_
    rw[et];by_cases e:z=ss[i].role
    ·subst e;rw[bm rfl,o,bm (by rw[hM rfl];exact x)];omega
    ·rw[aq e,o,aq (by rw[eL (fun k=>e k.symm)];simp)];omega
   ·rw[R];refine ih (i+1) w44 g k om om om E O fun z=> ?_
    rw[et,o,aq (by unfold HD;rw[x];simp)];omega
 have l8:∀(d i:Nat)(w':World)(g:Int->Int)(k:Nat),n0 - i=d->i<=n0->k<=i->QD w w' w.heap.size w1.heap.size G.heap.size K.heap.size subject A0 n0 c0 window except at_ g k->(∀z,g z=((eZ.take i).count z:Int))->
   F.aw.L8 A n c A1 n1 c1 ⟨w.heap.size,0,none⟩ ⟨w1.heap.size,0,none⟩ ⟨G.heap.size,0,none⟩ (some K.heap.size) A0 n0 c0 n0 i w.heap.size w' (MsR (yZ (vO ss l subject eZ window except at_) 9,0)):=by
  have O:n<=16:=by
   have x:(eJ H ss l).2=0:=dT.1 q;unfold eJ at x;split at x
   ·cases x
   ·rename_i hq;have:=(ji.1 (show od ss=true by simpa using hq)).2;omega
  intro d;induction d with
  |zero=>
   intro i w' g k Z hi hk hm o;rw[cc om]at o;exact F.aw.L8.step ⟨fun h=>by omega,fun _=>Y n 0 w' g k rfl om om hm O (fun z=>by rw[o];simp)⟩
  |succ d ih=>
   intro i w' g k Z hi hk hm o;have C:i<eZ.length:=om;have R:=sc i;obtain⟨hb,ad,hA,j,_⟩:=(hr.ar hm.b lf).at_ (fun _=>rfl) I C;have r:=vr _ (bx C);refine F.aw.L8.step ⟨fun _=>⟨hb,ad,hA,_,j,hm.look r ⟨?_,hm.put r _ om fun KQ j34=>⟨ir,?_⟩⟩⟩,fun h=>by omega⟩
   ·have h1:=o eZ[i];have h2:=Vg (a:=eZ[i]) (l:=eZ.take i);rw[ep]at h2;simp only[aN];omega
   ·rw[R];refine ih (i+1) KQ _ (k+1) om om om j34 fun z=> ?_
    rw[gv,af C,List.count_append,Lx,List.count_singleton];by_cases e:z=eZ[i]
    ·subst e;rw[bm rfl,o];simp
    ·rw[aq e,o,aq (by simpa using fun k=>e k.symm)];omega
 exact l8 n0 0 BN _ 0 rfl om om N (fun z=>by simp)
theorem iM(ok:fj H)(hg:bj w)(hs:bW w A 4 (ss.map Si.row))(b:ss.length=n)(hn:n<1000000)(hl:bW w A1 4 (l.map Ap.row))(d:l.length=n1)(e:n1<1000000)(h:n1<=c1)(i:bW w A0 1 (eZ.map fO))(a:eZ.length=n0)(j:n0<1000000):
  Pure Tryz.prog 48 #[.slice A n c,.slice A1 n1 c1,.string subject,.agg #[.slice A0 n0 c0,.int .i64 window,.int .i64 except],.int .i64 at_] w fun v _=>v= .bool (MK H ss l subject eZ window except at_):=by
 refine F.iM.vc fun w1 x1=> ?_
 have h1:=k0 x1;refine pm (aw ok (hg.next h1) (hs.ar h1 lf) b hn (hl.ar h1 lf) d e h (i.ar h1 lf) a j) ?_;rintro v m o ⟨A2,n2,c2,rfl,ho⟩;have hlen:=ho.len;rw[en]at hlen;unfold MK;refine⟨_,_,_,_,rfl,fun q=>ca Value.bool ?_,fun q=>ca Value.bool (YW (eL fun k=>q k.1))⟩;rw[ky];exact⟨fun k=>⟨q,eR om⟩,fun k=>by rw[k.2]at hlen;simp at hlen;omega⟩
end

theorem ajW{α:Type}{row:α->List Value}{sz:Nat}{w:World}{A:Option Addr}{n:Nat}{v:List α}{a:Addr}(h:bW w A sz (v.map row))(c:∀x,(row x).length=sz)(hl:v.length=n){i:Nat}(hi:i<v.length)(d:A=some a):
  aa w (a.add ((i:Int).toNat*sz)) (row v[i])/\∀k u,(row v[i])[k]? =some u->aa w ((a.add ((i:Int).toNat*sz)).add k) [u]:=by
 obtain⟨_,g,b,h1,e⟩:=h.at_ c hl hi;rw[d]at b;cases b;exact⟨h1,e⟩
theorem HE{o:Option Nat}:(wJ o≥0)↔o≠none:=by cases o<;>simp[wJ]<;>omega
theorem HF(n:Int)(w:World):Pure Tryz.prog 244 #[.int .i64 n] w fun v _=>v= .bool (decide (1<=n/\n<=9)):=by
 refine F.nU.vc ⟨fun h=> ?_,fun h=> ?_⟩
 ·refine ca Value.bool ?_;rw[ky];omega
 ·refine ca Value.bool ?_;exact(eL om).symm

section
variable {w:World} {A0 A1 A2:Option Addr} {n0 c0 n1 c1 n2 c2:Nat} {ps:List Pa} {hs:List Ho} {xs:List Rm}
theorem ML(hp:pT w A0 n0 A1 n1 A2 n2 c2 ps hs xs)(x:Rm):
  Pure Tryz.prog 191 #[.agg #[.slice A0 n0 c0,.slice A1 n1 c1,.slice A2 n2 c2],x.val] w fun v _=>v= .int .i64
   (if x.r.kind=2 then(if ¬(x.r.a<x.r.b/\(1<=x.r.a/\x.r.a<=9)/\(1<=x.r.b/\x.r.b<=9))then 2 else 0)
   else if x.r.kind=3 then(if ¬(1<=x.r.a/\x.r.a<=9)then 2 else if wT hs x.r.b=none then 7 else 0)
   else if x.r.b≠0 then 2 else if rC ps x.r.a=none then 7 else 0):=by
 have n:=hp.c.nh;have o:=hp.c.np;refine F.rM.vc ⟨fun e=> ?_,fun e=>⟨fun g=> ?_,fun g=> ?_⟩⟩
 ·rw[bm e];refine⟨fun h w1 _=> ?_,fun h m _=> ?_⟩
  ·rw[bm (fun k=>absurd k.1 om)]
  refine pm (HF _ _) ?_;rintro v G _ rfl;refine⟨_,rfl,fun h1=> ?_,fun h1=> ?_⟩
  ·have h1:=kh h1;rw[bm (fun k=>h1 k.2.1)]
  have h1:=fs (ve _|>.mp h1);refine pm (HF _ _) ?_;rintro v H _ rfl;refine⟨_,rfl,fun d=> ?_,fun d=> ?_⟩
  ·have d:=kh d;rw[bm (fun k=>d k.2.2)]
  have d:=fs (ve _|>.mp d);rw[aq (fun k=>k ⟨om,h1,d⟩)]
 ·rw[aq e,bm g];intro I q;have hw:=k0 q;refine pm (HF _ _) ?_;rintro v J z rfl;have hw:=kP hw z;refine⟨_,rfl,fun h1=> ?_,fun h1 A B i=> ?_⟩
  ·rw[bm (kh h1)]
  have h1:=fs (ve _|>.mp h1);refine pm (F.dY.vc (R:=fun v _=>v= .bool (decide (wJ (wT hs x.r.b)≥0))) (pm (B9 (p:=fun h=>decide (h.id=x.r.b)) (hp.c.ar hw).h hp.c.lh om kF fun w' hb y hy=> ?_) ?_)) ?_
  ·exact F.nV.vc fun w1 x1=>⟨_,bz (ai (ai i hb) (k0 x1)) rfl,rfl⟩
  ·rintro v m _ rfl;exact⟨_,rfl,rfl⟩
  ·rintro v C _ rfl;refine⟨_,rfl,fun d=> ?_,fun d=> ?_⟩
   ·have d:=kh d;rw[aq (fun k=>k h1),bm (dT.1 fun k=>d (HE.2 k))]
   ·have d:=fs (ve _|>.mp d);rw[aq (fun k=>k h1),aq (HE.1 d)]
 ·rw[aq e,aq g];refine⟨fun h w1 _=>by rw[bm h],fun h K j D E l=> ?_⟩;have hw:=k0 j;rw[aq h];refine pm (F.dB.vc (R:=fun v _=>v= .bool (decide (wJ (rC ps x.r.a)≥0))) (pm (yQ (p:=fun h=>decide (h.id=x.r.a)) (hp.c.ar hw).p hp.c.lp om kF fun w' hb y hy=> ?_) ?_)) ?_
  ·exact F.nW.vc fun w1 x1=>⟨_,bz (ai (ai l hb) (k0 x1)) rfl,rfl⟩
  ·rintro v m _ rfl;exact⟨_,rfl,rfl⟩
  ·rintro v C _ rfl;refine⟨_,rfl,fun d=> ?_,fun d=> ?_⟩
   ·have d:=kh d;rw[bm (dT.1 fun k=>d (HE.2 k))]
   ·have d:=fs (ve _|>.mp d);rw[aq (HE.1 d)]
theorem ne_nil{s:ByteArray}:s≠⟨#[]⟩↔s.size≠0:=not_congr qF
theorem MM(hg:bj w)(hp:pT w A0 n0 A1 n1 A2 n2 c2 ps hs xs){i:Nat}(hi:i<xs.length):
  Pure Tryz.prog 132 #[.agg #[.slice A0 n0 c0,.slice A1 n1 c1,.slice A2 n2 c2],.int .i64 (i:Int)] w fun v _=>v= .int .i64 (rG ps hs (dW (xs.take i)) xs[i].r):=by
 have hl:=hp.l;have hn:=hp.n;have W:=hp.k;have X:=hp.c.lh;have d:=hp.f _ (bx hi);have hlen:=d.s.len;have Y:=d.l;obtain⟨hb,a,E,_,_⟩:=hp.at_ hi;unfold rG;refine F.rJ.vc ⟨hb,a,E,fun K x2=> ?_⟩;have hw:=k0 x2;refine⟨_,_,_,_,_,_,_,_,_,(ajW (hp.ar hw).r (fun _=>rfl) hl hi E).1,fun Z L=> ?_⟩;have hw:=kE hw L;refine pm (WB (p:=fun s=> !vR s) (d.ar hw).f d.l om kF fun w' hb s hs=> ?_) ?_
 ·refine F.nR.vc (pm (sZ (hg.next (kP hw hb)) (d.s.ph s hs)) ?_);rintro v K _ rfl;exact⟨_,rfl,by cases vR s<;>rfl⟩
 rintro v xQ M rfl;have hw:=kP hw M;refine⟨_,rfl,fun h=> ?_,fun h=> ?_⟩
 ·rw[bm];rintro⟨k,_⟩;obtain⟨s,hs,G⟩:=uv.1 h;rw[gu.1 k s hs]at G;cases G
 have N:xs[i].r.ph.all vR=true:=gu.2 fun s hs=>by
  have:=zI.1 h s hs;simpa using this
 refine pm (DE (hg.next hw) d.s.low) ?_;rintro v xi O rfl;have hw:=kP hw O;refine⟨_,rfl,fun h=> ?_,fun h=> ?_⟩
 ·rw[bm (fun k=>by rw[k.2.1]at h;cases h)]
 have H:=ve _|>.mp h
 refine pm (DE (hg.next hw) d.s.high) ?_;rintro v P Q rfl;have hw:=kP hw Q;refine⟨_,rfl,fun h=> ?_,fun h=> ?_⟩
 ·rw[bm (fun k=>by rw[k.2.2]at h;cases h)]
 have I:=ve _|>.mp h
 rw[aq (fun k=>k ⟨N,H,I⟩)];refine⟨fun h=> ?_,fun h1=>⟨fun h=> ?_,fun J=>⟨om,fun z R A=> ?_⟩⟩⟩
 ·rw[bm (fun k=>by omega)]
 ·rw[bm (fun k=>by omega)]
 rw[aq (fun k=>k ⟨om,om⟩)];have S:(i:Int).toNat=i:=om;rw[S];have T:bW P A2 7 ((xs.take i).map Rm.row):=by
  have:=(hp.ar hw).r.take i;rwa [<-DO]at this
 refine pm (Th (n:=i) (c:=c2) (p:=fun y=>decide (y.r.name=xs[i].r.name)) T (by rw[ep];omega) om kF fun w' hb y hy=> ?_) ?_
 ·exact F.nT.vc fun w1 x1=>⟨_,bz (ai (ai A hb) (k0 x1)) rfl,rfl⟩
 rintro v U B rfl;have hw:=kP hw B;have V:((dW (xs.take i)).any fun x=>decide (x.name=xs[i].r.name))=(xs.take i).any fun y=>decide (y.r.name=xs[i].r.name):=by
  unfold dW;rw[List.any_map];rfl
 rw[V];have cell:∀k u,(xs[i].row)[k]? =some u->aa U ((⟨z,0,none⟩:Addr).add k) [u]:=fun k u hu=>bz (ai A B) hu
 refine⟨_,rfl,fun h=> ?_,fun h=>⟨_,cell 1 _ rfl,fun h1=> ?_,fun h1=>⟨_,cell 1 _ rfl,fun J=> ?_,fun J=>⟨_,cell 1 _ rfl,fun C=> ?_,fun C=> ?_⟩⟩⟩⟩
 ·rw[bm h]
 ·rw[aq (by rw[h];decide),bm (.inl om)]
 ·rw[aq (by rw[h];decide),bm (.inr om)]
 ·rw[aq (by rw[h];decide),aq om,bm C];refine⟨_,_,_,cell 2 _ rfl,fun D=> ?_,fun D=>⟨_,cell 5 _ rfl,fun e=> ?_,fun e=>⟨_,cell 6 _ rfl,fun g=> ?_,fun g=>⟨_,cell 3 _ rfl,fun m=>⟨_,cell 4 _ rfl,fun o=> ?_,fun o=>⟨_,cell 3 _ rfl,fun b=>absurd m b,fun b=> ?_⟩⟩,fun m=>⟨_,cell 3 _ rfl,fun b=>⟨_,cell 4 _ rfl,fun j=>⟨_,cell 3 _ rfl,_,cell 4 _ rfl,?_⟩,fun j=> ?_⟩,fun b=>absurd m b⟩⟩⟩⟩⟩
  ·rw[bm (.inl om)]
  ·rw[bm (.inr (.inl e))]
  ·rw[bm (.inr (.inr g))]
  ·rw[aq (by rintro(k|k|k)<;>omega),bm (.inl ⟨qF.1 m,qF.1 o⟩)]
  ·have o:¬xs[i].r.high.size=0:=fun k=>o (qF.2 k)
   have m:=qF.1 m;rw[aq (by rintro(k|k|k)<;>omega),aq (by rintro(k|k)<;>omega)]
  ·have b:=ne_nil.1 b;have j:=ne_nil.1 j;have v1:=FH H b;have v2:=FH I j;rw[aq (by rintro(k|k|k)<;>omega)];have cmp:=pU (hg.next hw) (d.s.low.yj v1) (d.s.high.yj v2);rw[<-iq v1,<-iq v2]at cmp;refine pm cmp ?_;rintro v EE _ rfl;refine⟨_,rfl,fun k=> ?_,fun k=> ?_⟩
   ·rw[bm (.inr ⟨b,j,gL.1 k⟩)]
   ·rw[aq];rintro(q|q)
    ·exact b q.1
    ·exact k (gL.2 q.2.2)
  ·have b:=ne_nil.1 b;have j:xs[i].r.high.size=0:=dT.1 fun k=>j (ne_nil.2 k)
   rw[aq (by rintro(k|k|k)<;>omega),aq (by rintro(k|k)<;>omega)]
 ·rw[aq (by rw[h];decide),aq om,aq C];refine⟨_,_,_,cell 2 _ rfl,fun D=> ?_,fun D=>⟨_,cell 3 _ rfl,fun e=> ?_,fun e=>⟨_,cell 4 _ rfl,fun g=> ?_,fun g=>⟨_,_,_,_,_,_,_,_,_,fy (ai A B),?_⟩⟩⟩⟩
  ·rw[bm (.inl om)]
  ·rw[bm (.inr (.inl (ne_nil.1 e)))]
  ·rw[bm (.inr (.inr (ne_nil.1 g)))]
  ·have e:xs[i].r.low.size=0:=dT.1 fun k=>e (ne_nil.2 k)
   have g:xs[i].r.high.size=0:=dT.1 fun k=>g (ne_nil.2 k)
   rw[aq (by rintro(k|k|k)<;>omega)];refine pm (ML (hp.ar hw) xs[i]) ?_;rintro v VN _ rfl;exact⟨_,rfl,rfl⟩
theorem Cd{i:Nat}(hi:i<xs.length):dW (xs.take i)++[xs[i].r]=dW (xs.take (i+1)):=by
 unfold dW;rw[gv,af hi,eh];rfl
theorem yb(hg:bj w)(hp:pT w A0 n0 A1 n1 A2 n2 c2 ps hs xs):
  Pure Tryz.prog 107 #[.agg #[.slice A0 n0 c0,.slice A1 n1 c1,.slice A2 n2 c2]] w fun v _=>v= .tuple #[.int .i64 (nQ ps hs (dW xs)).1,.int .i64 (nQ ps hs (dW xs)).2]:=by
 have hl:=hp.l;have hn:=hp.n;unfold nQ;refine F.dS.vc fun w1 x1=> ?_
 have hw:=k0 x1;refine pm (aM (hg.next hw) (hp.c.ar hw)) ?_;rintro v e g rfl;have hw:=kP hw g;refine⟨_,rfl,fun h=> ?_,fun h=>⟨fun h1=> ?_,fun h1=> ?_⟩⟩
 ·rw[bm h]
 ·rw[aq h,bm (by simp[dW];omega)]
 ·rw[aq h,aq (by simp[dW];omega)];have key:∀(d i:Nat)(w':World),n2 - i=d->i<=n2->Below w.heap.size w w'->F.dS.L7 n2 i A0 n0 c0 A1 n1 c1 A2 n2 c2 w.heap.size w' fun v _=>v= .tuple #[.int .i64 (Wy ps hs i (dW (xs.take i)) (dW (xs.drop i))).1,.int .i64 (Wy ps hs i (dW (xs.take i)) (dW (xs.drop i))).2]:=by
   intro d;induction d with
   |zero=>
    intro i w' j hi hw;rw[dd om];exact F.dS.L7.step ⟨fun h=>by omega,fun _=>rfl⟩
   |succ d ih=>
    intro i w' j hi hw;have a:i<xs.length:=om;refine F.dS.L7.step ⟨fun _=> ?_,fun h=>by omega⟩;refine pm (MM (hg.next hw) (hp.ar hw) a) ?_;rintro v k m rfl;have o:=sc i;have b:dW (xs.drop i)=xs[i].r::dW (xs.drop (i+1)):=by
     unfold dW;rw[cy a];rfl
    rw[b,Wy];refine⟨_,rfl,fun h=> ?_,fun h=>⟨ir,?_⟩⟩
    ·rw[bm h]
    ·rw[aq h,Cd a,o];exact ih (i+1) k om om (kP hw m)
  exact key n2 0 e rfl om hw
end

theorem PA(l:List Rat)(x:Rat):(l++[x]).sum=l.sum+x:=by
 induction l with
 |nil=>simp[Rat.add_zero,Rat.zero_add]
 |cons a r ih=>rw[vv,BC,BC,ih,Rat.add_assoc]
theorem WR{k:Nat}:∀{l:List Rat},(∀x∈l,Sm k x)->Sm ((k+1)*l.length+1) l.sum:=by
 intro l;induction l with
 |nil=>intro _;exact Sm.zero om
 |cons a r ih=>
  intro h;rw[BC];refine((h a sm).add (ih fun x hx=>h x (by simp[hx]))).mono ?_;rw[ew,pP];omega
def PB(ps:List Pa)(l:List Sw)(x:Ho×ByteArray):Rat:=qR x.2*eW (tP ps Pa.iQ) (Ii l x.1.id)
section
variable {w:World} {A0 A1 A2 A:Option Addr} {n0 c0 n1 c1 n2 c2 n c:Nat} {ps:List Pa} {hs:List Ho} {xs:List Rm} {l:List Sw}
theorem NY(b:hU w A0 n0 A1 n1 ps hs)(a:fc ps hs l)(hn:l.length<=40)(id:Int):Sm 12013 (eW (tP ps Pa.iQ) (Ii l id)):=by
 have fk:=(a.ld hn).filter fun s=>decide (s.hold=id)
 refine(xW fun s d=>(fk.YI b d).1.1).mono ?_;have:=WA a id;have:=a.c.lp;unfold Ii at*;omega
theorem Tz(a:hU w A0 n0 A1 n1 ps hs)(b:fc ps hs l)(hn:l.length<=40){x:Ho×ByteArray}(d:vR x.2=true)(e:mO x.2):Sm 13013 (PB ps l x):=
 ((mg d e).mul (NY a b hn x.1.id)).mono om
theorem WS{x:Rm}(hx:yW w x)(hf:x.r.ph.all vR=true){y:Ho×ByteArray}(hy:y∈hs.zip x.r.ph):vR y.2=true/\mO y.2:=by
 obtain⟨a,b⟩:=y;have:=(List.of_mem_zip hy).2;exact⟨gu.1 hf _ this,hx.s.ph _ this⟩
theorem JL(b:hU w A0 n0 A1 n1 ps hs)(a:fc ps hs l)(hn:l.length<=40){x:Rm}(hx:yW w x)(hf:x.r.ph.all vR=true)(k:Nat):Sm 90000 (((hs.zip x.r.ph).take k).map (PB ps l)).sum:=by
 refine(WR (k:=13013) fun y hy=> ?_).mono ?_
 ·obtain⟨z,hz,rfl⟩:=iu.1 hy;obtain⟨h1,d⟩:=WS hx hf (oe hz);exact Tz b a hn h1 d
 ·have e:=a.c.lh;rw[en,ep,Ow];have:min k (min hs.length x.r.ph.length)<=6:=om;have:=kc 13014 this;omega
theorem abr(ih:hs.Pairwise fun a b=>a.id<b.id){i:Nat}(hi:i<hs.length):wT hs hs[i].id≠none:=by
 intro h;unfold wT at h;rw[Mf]at h;have:=h _ (bx hi);simp at this
theorem TA(hg:bj w)(hp:pT w A0 n0 A1 n1 A2 n2 c2 ps hs xs)(h:bW w A 3 (l.map Sw.row))(hl:l.length=n)(J:n<=c)(hn:n<=40)(H:iy ps hs l=0){x:Rm}(hx:yW w x)(hf:x.r.ph.all vR=true)(W:x.r.ph.length=hs.length):
  Pure Tryz.prog 236 #[.agg #[.slice A0 n0 c0,.slice A1 n1 c1,.slice A2 n2 c2],x.val,.slice A n c] w fun v _=>v= .string (rS (NN ps hs x.r l)):=by
 have j:=fN H;have K:=hp.c.lh;have L:=hp.c.nh;have M:=hx.l;refine F.fv.vc fun w1 x1=> ?_
 have key:∀(d i:Nat)(w':World),n1 - i=d->i<=n1->Below w.heap.size w w'->F.fv.L3 A n c (rS (((hs.zip x.r.ph).take i).map (PB ps l)).sum) A1 n1 c1 n1 i A0 n0 c0 A1 n1 c1 A2 n2 c2 x.r.name x.r.kind x.A x.n x.c x.r.low x.r.high x.r.a x.r.b w.heap.size w' fun v _=>v= .string (rS (NN ps hs x.r l)):=by
  intro d;induction d with
  |zero=>
   intro i w' N hi hw;refine F.fv.L3.step ⟨fun h=>by omega,fun _=> ?_⟩;rw[cc (by rw[Ow];omega)];rfl
  |succ d ih=>
   intro i w' N hi hw;have I:i<hs.length:=om;have o:i<x.r.ph.length:=om;have q:i<(hs.zip x.r.ph).length:=by rw[Ow];omega
   have O:=sc i;have P:((hs.zip x.r.ph).take (i+1)).map (PB ps l)=((hs.zip x.r.ph).take i).map (PB ps l)++[PB ps l (hs[i],x.r.ph[i])]:=by
    rw[gv,af q,eh,List.getElem_zip];rfl
   obtain⟨hb,a,Q,e,_⟩:=((hp.ar hw).c.h).at_ (fun _=>rfl) K I;refine F.fv.L3.step ⟨fun _=>⟨hb,a,Q,_,_,_,_,_,_,_,e,fun X R=> ?_⟩,fun h=>by omega⟩;have hw:=kE hw R;refine pm (qy (hg.next hw) (hp.ar hw).c (h.ar hw lf) hl J hn hs[i].id) ?_;rintro v Y S rfl;have hw:=kP hw S;unfold SQ;rw[aq (fun k=>k H),aq (abr j.c.ih I)];refine⟨_,_,_,_,_,_,_,rfl,fun Z y=> ?_⟩;have hw:=kE hw y;obtain⟨z,T,B,C,_⟩:=((hx.ar hw).f).at_ (fun _=>rfl) M o;refine⟨z,T,B,_,C,fun zT D=> ?_⟩;have hw:=kE hw D;have E:=gu.1 hf _ (bx o);have g:=hx.s.ph _ (bx o);have m:=Tg (hg.next hw) (g.yj E) ((NY hp.c j om hs[i].id).mono om);rw[<-iq E]at m;refine pm m ?_;rintro v Fu G rfl;have hw:=kP hw G;refine⟨_,rfl,pm (Tf (hg.next hw) ((JL hp.c j om hx hf i).mono om) ((Tz (x:=(hs[i],x.r.ph[i])) hp.c j om E g).mono om)) ?_⟩;rintro v U V rfl;refine⟨_,rfl,ir,?_⟩;have:=ih (i+1) U om om (kP hw V);rw[P,PA]at this;rw[O];exact this
 have:=key n1 0 w1 rfl om (k0 x1);simp only[FI,QB,List.sum_nil,<-s0]at this;exact this
theorem JM(hg:bj w){x:Rm}(hx:yW w x)(o:eV x.r.low=true)(y:eV x.r.high=true){s:Rat}(z:Sm 90000 s):
  Pure Tryz.prog 235 #[x.val,.string (rS s)] w fun v _=>v= .string (rS (oL x.r s)):=by
 have e:lC s:=z.mono om;have low:∀w',Below w.heap.size w w'->x.r.low≠⟨#[]⟩->¬(x.r.high.size≠0/\qR x.r.high<s)->Pure Tryz.prog 190 #[.string (rS s),.string x.r.low] w' fun B i=>∃(i8:Int),B=(.int .i64 i8)/\((((i8:Int)<(0:Int))->(Pure Tryz.prog 277 #[(.string (rS s)),(.string x.r.low)] i fun g C=>∃(j:ByteArray),g=(.string j)/\(Value.string j= .string (rS (oL x.r s)))))/\(¬((i8:Int)<(0:Int))->(Value.string (⟨#[48]⟩:ByteArray)= .string (rS (oL x.r s))))):=by
  intro w' hw a D;have a:=ne_nil.1 a;have v1:=FH o a;have b:=hx.s.low.yj v1;have c1:=pU (hg.next hw) e b;rw[<-iq v1]at c1;unfold oL;rw[aq D];refine pm c1 ?_;rintro v i E rfl;refine⟨_,rfl,fun k=> ?_,fun k=> ?_⟩
  ·have c2:=JE (hg.next (kP hw E)) e b;rw[<-iq v1]at c2;refine pm c2 ?_;rintro v C _ rfl;exact⟨_,rfl,by rw[bm ⟨a,jI.1 k⟩]⟩
  ·rw[aq (fun q=>k (jI.2 q.2)),<-s0]
 have none_:¬(x.r.high.size≠0/\qR x.r.high<s)->¬(x.r.low≠⟨#[]⟩)->Value.string (⟨#[48]⟩:ByteArray)= .string (rS (oL x.r s)):=by
  intro h1 d;unfold oL;rw[aq h1,aq (fun k=>d (ne_nil.2 k.1)),<-s0]
 refine F.qE.vc ⟨fun h w1 x1=> ?_,fun h=>⟨fun h1 G H=> ?_,fun h1 K _=> ?_⟩⟩
 ·have hw:=k0 x1;have a:=ne_nil.1 h;have v1:=FH y a;have b:=hx.s.high.yj v1;have m:=pU (hg.next hw) e b;rw[<-iq v1]at m;refine pm m ?_;rintro v I J rfl;have hw:=kP hw J;refine⟨_,rfl,fun k=> ?_,fun k=> ?_⟩
  ·have cs:=JE (hg.next hw) e b;rw[<-iq v1]at cs;refine pm cs ?_;rintro v L _ rfl;refine⟨_,rfl,?_⟩;unfold oL;rw[bm ⟨a,gL.1 k⟩]
  ·have hn:¬(x.r.high.size≠0/\qR x.r.high<s):=fun q=>k (gL.2 q.2)
   exact⟨fun d=>low I hw d hn,fun d=>none_ hn d⟩
 ·exact low G (k0 H) h1 fun q=>h (ne_nil.2 q.1)
 ·exact none_ (fun q=>h (ne_nil.2 q.1)) h1
theorem PC{w:World}{x:Rm}(hx:yW w x)(b:eV x.r.low=true)(d:eV x.r.high=true){s:Rat}(a:Sm 90000 s):lC (oL x.r s):=by
 unfold oL;split
 ·rename_i h;exact(a.sub (mg (FH d h.1) hx.s.high)).mono om
 ·split
  ·rename_i h;exact(a.sub (mg (FH b h.1) hx.s.low)).mono om
  ·exact Sm.zero om
theorem HG(hg:bj w)(hp:pT w A0 n0 A1 n1 A2 n2 c2 ps hs xs)(h:bW w A 3 (l.map Sw.row))(hl:l.length=n)(g:n<=c)(hn:n<=40)(b:iy ps hs l=0){x:Rm}(hx:yW w x)(a:Hw ps hs x.r)(d:x.r.kind=1):
  Pure Tryz.prog 233 #[.agg #[.slice A0 n0 c0,.slice A1 n1 c1,.slice A2 n2 c2],x.val,.slice A n c] w fun v _=>v= .bool (jh ps hs l x.r):=by
 have e:Sm 90000 (NN ps hs x.r l):=by
  have:=JL hp.c (fN b) om hx a.ph (hs.zip x.r.ph).length;rwa [KT]at this
 refine F.mV.vc fun w1 x1=> ?_
 have hw:=k0 x1;refine pm (TA (hg.next hw) (hp.ar hw) (h.ar hw lf) hl g hn b (hx.ar hw) a.ph (a.sum d)) ?_;rintro v k i rfl;have hw:=kP hw i;refine⟨_,rfl,pm (JM (hg.next hw) (hx.ar hw) a.low a.high e) ?_⟩;rintro v m j rfl;have hw:=kP hw j;refine⟨_,rfl,pm (Pp (hg.next hw) (PC hx a.low a.high e)) ?_⟩;rintro v o _ rfl;refine⟨_,rfl,?_⟩;unfold jh;rw[bm d];refine ca Value.bool ?_;rw[ky];exact not_congr B3

theorem yc(d:hU w A0 n0 A1 n1 ps hs){id:Int}{i:Nat}(hi:rC ps id=some i):
  Pure Tryz.prog 281 #[.agg #[.slice A0 n0 c0,.slice A1 n1 c1,.slice A2 n2 c2],.int .i64 id] w fun v _=>v= .int .i64 (xX ps id):=by
 have h:=d.np;obtain⟨g,hid⟩:=xV hi;refine F.rO.vc fun w1 x1 p2 j e=> ?_
 have hw:=k0 x1;refine pm (yQ (p:=fun p=>decide (p.id=id)) (d.ar hw).p d.lp om kF fun w' hb y hy=> ?_) ?_
 ·exact F.nZ.vc fun w1 x1=>⟨_,cm (ai (ai e hb) (k0 x1)) rfl,rfl⟩
 ·rintro v o k rfl;have hw:=kP hw k;show ∃i3:Int,Value.int .i64 (wJ (rC ps id))=_/\_
  rw[hi];obtain⟨hb,a,m,_,b⟩:=((d.ar hw).p).at_ (fun _=>rfl) d.lp g;refine⟨_,rfl,hb,a,m,_,b 2 _ rfl,?_⟩;unfold xX;rw[hi,QE,af g]
theorem MN(E:hU w A0 n0 A1 n1 ps hs)(h:bW w A 3 (l.map Sw.row))(hl:l.length=n)(hn:n<=40)(G:∀s∈l,∃i,rC ps s.au=some i)(x:Rm):
  Pure Tryz.prog 237 #[.agg #[.slice A0 n0 c0,.slice A1 n1 c1,.slice A2 n2 c2],x.val,.slice A n c] w fun v _=>v= .bool (l.any fun s=>l.any fun t=>decide (s.hold=t.hold)&&(decide (xX ps s.au=x.r.a)&&decide (xX ps t.au=x.r.b))):=by
 have outer:∀(d i:Nat)(w':World),n - i=d->i<=n->Below w.heap.size w w'->F.bE.L2 A n c A n c n i A0 n0 c0 A1 n1 c1 A2 n2 c2 x.r.name x.r.kind x.A x.n x.c x.r.low x.r.high x.r.a x.r.b w.heap.size w' fun v _=>v= .bool ((l.drop i).any fun s=>l.any fun t=>decide (s.hold=t.hold)&&(decide (xX ps s.au=x.r.a)&&decide (xX ps t.au=x.r.b))):=by
  intro d;induction d with
  |zero=>
   intro i w' H hi hw;rw[dd om];exact F.bE.L2.step ⟨fun h=>by omega,fun _=>rfl⟩
  |succ d ih=>
   intro i w' H hi hw;have m:i<l.length:=om;have I:=sc i;obtain⟨ip,J⟩:=G _ (bx m);obtain⟨hb,a,o,g,_⟩:=(h.ar hw lf).at_ (fun _=>rfl) hl m;refine F.bE.L2.step ⟨fun _=>⟨hb,a,o,_,_,_,g,fun K L=> ?_⟩,fun h=>by omega⟩;have hw:=kE hw L;rw[cy m,List.any_cons];have inner:∀(e j:Nat)(w':World),n - j=e->j<=n->Below w.heap.size w w'->F.bE.L5 A n c A n c n i A n c n j A0 n0 c0 A1 n1 c1 A2 n2 c2 x.r.name x.r.kind x.A x.n x.c x.r.low x.r.high x.r.a x.r.b l[i].hold l[i].au l[i].aU w.heap.size w' fun v _=>v= .bool (((l.drop j).any fun t=>decide (l[i].hold=t.hold)&&(decide (xX ps l[i].au=x.r.a)&&decide (xX ps t.au=x.r.b)))||
     ((l.drop (i+1)).any fun s=>l.any fun t=>decide (s.hold=t.hold)&&(decide (xX ps s.au=x.r.a)&&decide (xX ps t.au=x.r.b)))):=by
    intro e;induction e with
    |zero=>
     intro j w' he hj hw;rw[dd (i:=j) om,List.any_nil,MF];refine F.bE.L5.step ⟨fun h=>by omega,fun _=>⟨ir,?_⟩⟩;rw[I];exact ih (i+1) w' om om hw
    |succ e q=>
     intro j w' he hj hw;have y:j<l.length:=om;have z:=sc j;obtain⟨jp,B⟩:=G _ (bx y);obtain⟨hb,a,o,g,_⟩:=(h.ar hw lf).at_ (fun _=>rfl) hl y;rw[cy y,List.any_cons];refine F.bE.L5.step ⟨fun _=>⟨hb,a,o,_,_,_,g,fun h1 S M=> ?_,fun h1=>⟨ir,fun N C=> ?_⟩⟩,fun h=>by omega⟩
     ·have hw:=kE hw M;refine pm (yc (E.ar hw) J) ?_;rintro v O P rfl;have hw:=kP hw P;rw[hM h1,zi];refine⟨_,rfl,fun k=> ?_,fun k=>⟨ir,?_⟩⟩
      ·refine pm (yc (E.ar hw) B) ?_;rintro v Q R rfl;rw[hM k,zi];refine⟨_,rfl,fun D=> ?_,fun D=>⟨ir,?_⟩⟩
       ·rw[hM D];rfl
       ·rw[eL D,MF,z];have:=q (j+1) Q om om (kP hw R);rw[hM k]at this;simp only[zi]at this;exact this
      ·rw[eL k,Lu,MF,z];have:=q (j+1) O om om hw;rw[eL k]at this;exact this
     ·rw[eL h1,Lu,MF,z];exact q (j+1) N om om (kE hw C)
   have:=inner n 0 K rfl om hw;rwa [AY]at this
 exact F.bE.vc fun w1 x1=>outer n 0 w1 rfl om (k0 x1)
theorem MO(j:hU w A0 n0 A1 n1 ps hs)(h:bW w A 3 (l.map Sw.row))(hl:l.length=n)(hn:n<=40)(k:∀s∈l,∃i,rC ps s.au=some i)(x:Rm):
  Pure Tryz.prog 238 #[.agg #[.slice A0 n0 c0,.slice A1 n1 c1,.slice A2 n2 c2],x.val,.slice A n c] w fun v _=>v= .bool (vD ps l x.r.b x.r.a):=by
 refine F.rN.vc fun w1 x1 p2 m e p3 o g=> ?_
 have hw:=k0 x1;refine pm (F.dZ.vc (R:=fun v _=>v= .bool (vD ps l x.r.b x.r.a)) (pm (F.aO.vc (AV (h.ar hw lf) hl om kF (p:=fun s=>decide (s.hold=x.r.b)&&decide (xX ps s.au=x.r.a)) (fun w' hb s q=> ?_) (R:=fun v _=>v= .int .i64 (fq (fun s=>decide (s.hold=x.r.b)&&decide (xX ps s.au=x.r.a)) 0 l)) (fun _=>rfl) n 0 w1 rfl om (Below.refl _ _) rfl)) ?_)) ?_
 ·obtain⟨i,hi⟩:=k s q;have g2:=ai e hb;have g3:=ai g hb;refine F.nX.vc fun B d=>⟨_,bz (ai g3 (k0 d)) rfl,fun h1=>⟨_,_,_,_,_,_,_,_,_,fy (ai g2 (k0 d)),_,bz (ai g3 (k0 d)) rfl,fun C y=> ?_⟩,fun h1 D _=> ?_⟩
  ·refine pm (yc (j.ar (kP (kP hw hb) (kE (k0 d) y))) hi) ?_;rintro v E _ rfl;exact⟨_,rfl,by rw[hM h1,zi]⟩
  ·rw[eL h1,Lu]
 ·rintro v z _ rfl;exact⟨_,rfl,by dsimp only;rw[tY];rfl⟩
 ·rintro v z _ rfl;exact⟨_,rfl,rfl⟩
theorem MP(e:hU w A0 n0 A1 n1 ps hs)(h:bW w A 3 (l.map Sw.row))(hl:l.length=n)(hn:n<=40)(g:fc ps hs l){x:Rm}{i:Nat}(hi:rC ps x.r.a=some i):
  Pure Tryz.prog 239 #[.agg #[.slice A0 n0 c0,.slice A1 n1 c1,.slice A2 n2 c2],x.val,.slice A n c] w fun v _=>v= .bool (match (rC ps x.r.a).bind fun i=>ps[i]? with|some p=>decide (cZ l x.r.a<p.aU)|none=>false):=by
 have K:=e.np;obtain⟨o,hid⟩:=xV hi;have L:=(g.c.p1 _ (bx o)).2.1;rw[hi,QE,af o];refine F.dD.vc fun w1 x1 p2 M k=> ?_
 have hw:=k0 x1;refine pm (yQ (p:=fun p=>decide (p.id=x.r.a)) (e.ar hw).p e.lp om kF fun w' hb y hy=> ?_) ?_
 ·exact F.nY.vc fun w1 x1=>⟨_,bz (ai (ai k hb) (k0 x1)) rfl,rfl⟩
 ·rintro v z D rfl;show ∃i3:Int,Value.int .i64 (wJ (rC ps x.r.a))=_/\_
  rw[hi];have N:=ai k D;have E:=kP hw D;obtain⟨hb,a,B,_,b⟩:=((e.ar E).p).at_ (fun _=>rfl) e.lp o;refine⟨_,rfl,hb,a,B,_,b 1 _ rfl,?_⟩;have key:∀(d j:Nat)(w':World),n - j=d->j<=n->Below z.heap.size z w'->F.dD.L4 ⟨p2,0,none⟩ (ps[i].aU - cZ (l.take j) x.r.a) A n c n j w.heap.size w' fun v _=>v= .bool (decide (cZ l x.r.a<ps[i].aU)):=by
   intro d;induction d with
   |zero=>
    intro j w' O hj q;rw[cc om];refine F.dD.L4.step ⟨fun h=>by omega,fun _=> ?_⟩;refine ca Value.bool ?_;rw[ky];omega
   |succ d ih=>
    intro j w' O hj q;have C:j<l.length:=om;have G:=sc j;have P:l.take (j+1)=l.take j++[l[j]]:=by rw[gv,af C];rfl
    have es:=vz (l.take j) l[j] x.r.a;rw[<-P]at es;have f1:=zW g.pos x.r.a j;have f2:=zW g.pos x.r.a (j+1);have f3:=g.full _ (bx o);rw[hid]at f3;obtain⟨hb,a,B,b,_⟩:=(h.ar (kP E q) lf).at_ (fun _=>rfl) hl C;refine F.dD.L4.step ⟨fun _=>⟨hb,a,B,_,_,_,b,fun H m=> ?_⟩,fun h=>by omega⟩;have I:=kP q (extAll m);have J:=g.pos _ (bx C);refine⟨_,bz (ext_nil m (ai N q)) rfl,fun h1=> ?_,fun h1=>⟨ir,?_⟩⟩
    ·rw[bm h1]at es;refine⟨ir,ir,?_⟩;have:=ih (j+1) H om om I;rw[es]at this;rw[G,show ps[i].aU - cZ (l.take j) x.r.a - l[j].aU=ps[i].aU - (cZ (l.take j) x.r.a+l[j].aU) by omega];exact this
    ·rw[aq h1,Int.add_zero]at es;have:=ih (j+1) H om om I;rw[es]at this;rw[G];exact this
  have:=key n 0 z rfl om (Below.refl _ _);rw[FI]at this;simp only[cZ,QB,List.sum_nil,Int.sub_zero]at this;exact this
end

section
variable {w:World} {A0 A1 A2 A:Option Addr} {n0 c0 n1 c1 n2 c2 n c:Nat} {ps:List Pa} {hs:List Ho} {xs:List Rm} {l:List Sw}
theorem MQ(hg:bj w)(hp:pT w A0 n0 A1 n1 A2 n2 c2 ps hs xs)(h:bW w A 3 (l.map Sw.row))(hl:l.length=n)(a:n<=c)(hn:n<=40):
  Pure Tryz.prog 184 #[.agg #[.slice A0 n0 c0,.slice A1 n1 c1,.slice A2 n2 c2],.slice A n c] w fun v _=>v= .bool (Ae ps hs (dW xs) l):=by
 refine F.rK.vc fun w1 x1=> ?_
 have hw:=k0 x1;refine pm (yb (hg.next hw) (hp.ar hw)) ?_;rintro v d b rfl;have hw:=kP hw b;unfold Ae;refine⟨_,_,rfl,fun h1=> ?_,fun h1=> ?_⟩
 ·refine pm (cn (hg.next hw) (hp.ar hw).c (h.ar hw lf) hl a om) ?_;rintro v e _ rfl;exact⟨_,rfl,by rw[hM h1,zi]⟩
 ·rw[eL h1,Lu]
theorem DN(a:fc ps hs l):∀s∈l,∃i,rC ps s.au=some i:=fun s b=>by
 obtain⟨i,k,hi,_⟩:=a.known s b;exact⟨i,hi⟩
theorem MR(a:fc ps hs l):∀s∈l,∃h∈hs,h.id=s.hold:=fun s b=>by
 obtain⟨i,k,_,d⟩:=a.known s b;obtain⟨hl,e⟩:=Dt d;exact⟨_,bx hl,e⟩
theorem JN(hg:bj w)(hp:pT w A0 n0 A1 n1 A2 n2 c2 ps hs xs)(h:bW w A 3 (l.map Sw.row))(hl:l.length=n)(N:n<=c)(hn:n<=40)(C:(nQ ps hs (dW xs)).2=0)(J:iy ps hs l=0):
  Pure Tryz.prog 185 #[.agg #[.slice A0 n0 c0,.slice A1 n1 c1,.slice A2 n2 c2],.slice A n c] w fun v _=>∃A' m c',v= .slice A' m c'/\m=(dW xs).countP (jh ps hs l):=by
 have z:=fN J;have Y:=hp.l;have Z:=hp.n;have D:=(mm C).2.2;refine F.bN.vc fun w1 x1=> ?_
 have key:∀(d i:Nat)(A':Option Addr)(m c':Nat)(w':World)(o:List Int),n2 - i=d->i<=n2->Below w.heap.size w w'->ay w' w.heap.size 3 A' m c' 1 (o.map fO)->m=(dW (xs.take i)).countP (jh ps hs l)->
   F.bN.L4 A n c A' m c' A2 n2 c2 n2 i A0 n0 c0 A1 n1 c1 A2 n2 c2 w.heap.size w' fun v _=>∃A' m c',v= .slice A' m c'/\m=(dW xs).countP (jh ps hs l):=by
  intro d;induction d with
  |zero=>
   intro i A' m c' w' o O hi hw ho hm;rw[cc om]at hm;exact F.bN.L4.step ⟨fun h=>by omega,fun _=>⟨A',m,c',rfl,hm⟩⟩
  |succ d ih=>
   intro i A' m c' w' o O hi hw ho hm;have E:i<xs.length:=om;have K:=sc i;have L:=bx E;have e:=D xs[i].r (QL L);have P:=hp.f _ L;have Q:m<=i:=by
    rw[hm];refine ec TQ ?_;unfold dW;rw[en,ep];omega
   have q:(dW (xs.take (i+1))).countP (jh ps hs l)=m+if jh ps hs l xs[i].r then 1 else 0:=by
    rw[<-Cd E,List.countP_append,<-hm,List.countP_singleton]
   obtain⟨hb,a,R,g,_⟩:=(hp.ar hw).at_ E;have S:=e.kind;refine F.bN.L4.step ⟨fun _=>⟨hb,a,R,_,_,_,_,_,_,_,_,_,g,om,⟨⟨⟨⟨trivial,fun k=>by omega⟩,fun k G y=> ?_⟩,fun k G y=> ?_⟩,fun k G y=> ?_⟩,fun k G y=> ?_⟩,fun h=>by omega⟩
   all_goals
    have hw:=kE hw y;have ho:=ho.lN y;have b:=hp.ar hw;have B:=h.ar hw lf
   refine pm (HG (hg.next hw) b B hl N hn J (P.ar hw) e k) ?_
   rotate_left
   refine pm (pm (MN b.c B hl hn (DN z) xs[i]) (R':=fun v _=>v= .bool (jh ps hs l xs[i].r)) ?_) ?_
   ·rintro v M _ rfl;refine ca Value.bool ?_;unfold jh;rw[aq om,bm k,<-Jz (MR z)]
   rotate_left
   refine pm (pm (MO b.c B hl hn (DN z) xs[i]) (R':=fun v _=>v= .bool (jh ps hs l xs[i].r)) ?_) ?_
   ·rintro v M _ rfl;refine ca Value.bool ?_;unfold jh;rw[aq om,aq om,bm k]
   rotate_left
   obtain⟨ip,T⟩:=e.four k;refine pm (pm (MP b.c B hl hn z T) (R':=fun v _=>v= .bool (jh ps hs l xs[i].r)) ?_) ?_
   ·rintro v M _ rfl;refine ca Value.bool ?_;unfold jh;rw[aq om,aq om,aq om];cases (rC ps xs[i].r.a).bind fun i=>ps[i]? <;>rfl
   rotate_left
   all_goals
    rintro v U H rfl;have I:=kP hw H;refine⟨_,rfl,fun j=> ?_,fun j=>⟨ir,?_⟩⟩
    ·refine ix gM lf (ho.below H) (x:= .int .i64 (i:Int)) rfl (by simp[Value.cells,bk]) I.size om dc fun A3 c3 V W _ X=>⟨ir,?_⟩
     rw[K];refine ih (i+1) A3 (m+1) c3 V (o++[(i:Int)]) om om (I.trans X) (by rw[eh];exact W) ?_;rw[q,bm j]
    ·rw[K];refine ih (i+1) A' m c' U o om om I (ho.below H) ?_;rw[q,aq (by simp[j])];rfl
 have:=key n2 0 none 0 0 w1 [] rfl om (k0 x1) ay.nil rfl;exact this
theorem yd(hg:bj w)(hp:pT w A0 n0 A1 n1 A2 n2 c2 ps hs xs)(h:bW w A 3 (l.map Sw.row))(hl:l.length=n)(a:n<=c)(hn:n<=40):
  Pure Tryz.prog 130 #[.agg #[.slice A0 n0 c0,.slice A1 n1 c1,.slice A2 n2 c2],.slice A n c] w fun v _=>v= .bool (lQ ps hs (dW xs) l):=by
 refine F.rI.vc fun w1 x1=> ?_
 have hw:=k0 x1;refine pm (MQ (hg.next hw) (hp.ar hw) (h.ar hw lf) hl a hn) ?_;rintro v i d rfl;have hw:=kP hw d;unfold lQ;refine⟨_,rfl,fun h1=>by rw[h1];rfl,fun h1=> ?_⟩;have h1:=ve _|>.mp h1
 rw[h1,zi];unfold Ae at h1;simp only[de,kl]at h1;refine pm (JN (hg.next hw) (hp.ar hw) (h.ar hw lf) hl a hn h1.1 h1.2) ?_;rintro v j e ⟨A',m,c',rfl,hm⟩;have hw:=kP hw e;have b:(dW xs).any (jh ps hs l)=decide (0<m):=by
  rw[hm,ya,kl,List.countP_pos_iff,uv]
 rw[b];refine⟨_,_,_,rfl,fun g=> ?_,fun g=> ?_⟩
 ·rw[hM (show 0<m by omega)];rfl
 ·rw[eL (show ¬0<m by omega),VT,zi];refine pm (iH (hg.next hw) (hp.ar hw).c (h.ar hw lf) hl a hn) ?_;rintro v o _ rfl;unfold SR;rw[aq (fun k=>k h1.2)];refine⟨_,_,rfl,?_⟩;refine ca Value.bool ?_;rw[ky];exact pQ
end

theorem Za{n:Nat}(h:n<=64):qP .i64 (n:Int):=⟨om,by simp only[IntKind.bits];omega⟩
theorem WT:∀n:Nat,n<8->qd .i64 1 (n:Int)=((2^n:Nat):Int):=by decide+kernel
theorem WU:∀s:Nat,s<128->∀n:Nat,n<8->bits .and .i64 (ny (s:Int) (n:Int)) 1=if s.testBit n then 1 else 0:=by decide+kernel
theorem abu:∀s:Nat,s<128->∀n:Nat,n<8->bits .or .i64 (s:Int) ((2^n:Nat):Int)=((Mv s n:Nat):Int):=by decide+kernel
theorem TB{s n:Nat}(hs:s<128)(hn:n<8):bits .and .i64 (ny (s:Int) (n:Int)) 1=1↔s.testBit n=true:=by
 rw[WU s hs n hn];cases s.testBit n<;>simp
end Go.Proofs.YtmdphpnaipbfjaaGreatDoor.B

set_option maxRecDepth 100000
set_option maxHeartbeats 4000000
namespace Go.Proofs.YtmdphpnaipbfjaaGreatDoor.F
open Go Go.RowKit Go.Proofs Go.Proofs.YtmdphpnaipbfjaaGreatDoor.Vc
open Tryz
variable {A C D E G H J K A0 A1 A2 A3 A4 A5 A6 A7 A8 A9 C0 C1 C2 C3 C4 C5 C6 C7 C8 C9:O} {a b c d e f g i j l m n o a0 a1 a2 a3 a4 a5 a6 a7 a8 a9 b0 b1 b2 b3 b4 b5 b6 b7 b8 b9 c0 c1 c2 c3 c4 c5 c6 c7 c8 c9:Nat} {p q r s t u v x p0 p1 p2 p3 p4 p5 p6 p7 p8 p9 q0 q1 q2 q3 q4 q5 q6 q7 q8 q9:Int} {L M N N0 N1 N2 N3 N4 N5 N6 N7 N8 N9 T0 T1 T2 T3 T4 T5 T6 T7 T8 T9:ByteArray} {Q S:Bool} {B:Nat} {w:World} {R:Kt}
def bF.L7(a:O)(b c:Nat)(h:O)(d e:Int):=Lt 111 f111 7 [vS 3 a b c,vP 10 h,vI 32 d,vI 33 e] []
def bF.zb(h:O)(a:Int)(b:O)(c d:Nat)(e f:Int):=Lt 111 f111 14 [vP 10 h,vI 13 a,vS 41 b c d,vI 42 e,vI 43 f] []
def bF.cx:Pm:=([((true,7),[3,10,32,33],[]),((true,14),[10,13,41,42,43],[])],[(17,2,6)])
theorem bF.L7.step{c k:O}
  (h:(Br (p<q) (Pure P 139 #[vW c a b,I p] w (Rb fun e d=>(Br (e=false) (R (.tuple #[(I (-1:Int)),I 10]) d) (aN .i64 (p+1)/\(bF.L7 c a b k q (p+1) B d R))))) (bF.zb k (0:Int) c a b (a:Int) (0:Int) B w R))):
  bF.L7 c a b k q p B w R:=
 lr bF.cx func111 h
theorem bF.zb.step{k d:O}
  (h:(Br (p<r) (Ix p a d fun g=>(∃c,aa w (g.add ((p).toNat*1)) [I c]/\(qP .i64 c/\(ba P 140 #[.pointer k,(I (bits .or .i64 q (qd .i64 1 c)))] B w fun i e=>qk [] w e/\∃f,i= .bool f/\(Br (f=false) (R (.tuple #[I p,I 15]) e) (aN .i64 (p+1)/\(bF.zb k (bits .or .i64 q (qd .i64 1 c)) d a b r (p+1) B e R))))))) (R (.tuple #[(I (-1:Int)),I 0]) w))):
  bF.zb k q d a b r p B w R:=
 lr bF.cx func111 h
theorem bF.vc
  (h:(∀q,Ext w.heap.size [] w q->(Pure P 138 #[.agg #[vW A c d,vW C e f,vW D g i],vW E j l,vW G a m] q fun r o=>∃k p,r= .tuple #[.pointer k,I p]/\(Br (p≠0) (R (.tuple #[(I (-1:Int)),I p]) o) (Br ((b:Int)≠(a:Int)) (R (.tuple #[(I (-1:Int)),I 10]) o) (bF.L7 H b n k (a:Int) (0:Int) w.heap.size o R)))))):
  Pure P 111 #[.agg #[vW A c d,vW C e f,vW D g i],vW E j l,vW G a m,vW H b n] w R:=
 pr bF.cx func111 h

def bG.Mx(a:O)(b c:Nat)(d:O)(e f:Nat)(g:Addr)(i:O)(j l:Nat)(m n:Int)(o:O)(p q:Nat)(r:O)(s t:Nat)(u:O)(v x:Nat):=Lt 138 f138 10 [vS 1 a b c,vS 2 d e f,vL 3,(10,.v (.pointer (some g))),vS 36 i j l,vI 37 m,vI 38 n] [⟨3,false,47,[(vW o p q),(vW r s t),(vW u v x)]⟩]
def bG.L17(a:O)(b c:Nat)(d:Addr)(e:O)(f g:Nat)(i j:Int)(l:O)(m n:Nat)(o:O)(p q:Nat)(r:O)(s t:Nat):=Lt 138 f138 17 [vS 1 a b c,vL 3,(10,.v (.pointer (some d))),vS 55 e f g,vI 56 i,vI 57 j] [⟨3,false,47,[(vW l m n),(vW o p q),(vW r s t)]⟩]
def bG.cx:Pm:=([((true,10),[1,2,3,10,36,37,38],[3]),((true,17),[1,3,10,55,56,57],[3])],[(8,2,2),(8,4,2)])
theorem bG.Mx.step{o:Addr}
  (h:(Br (p<q) (Ix p e D fun x=>(∃s t u,aa w (x.add ((p).toNat*3)) [I s,I t,I u]/\(∀v,Ext B [] w v->(Pure P 199 #[(.pointer (some o)),.agg #[I s,I t,I u]] v (Rii fun y z r=>(Br (y<0) (R (.tuple #[.pointer none,I 7]) r) (Br (z<0) (R (.tuple #[.pointer none,I 7]) r) (aN .i64 (p+1)/\(bG.Mx A b c C a d o D e n q (p+1) E f g G i j H l m B r R))))))))) (bG.L17 A b c o C a d (a:Int) (0:Int) E f g G i j H l m B w R))):
  bG.Mx A b c C a d o D e n q p E f g G i j H l m B w R:=
 lr bG.cx func138 h
theorem bG.L17.step{m:Addr}
  (h:(Br (p<q) (Ix p g E fun z=>(∃H J n,aa w (z.add ((p).toNat*3)) [I H,I J,I n]/\(Br (n=0) (∀s,Ext B [] w s->(R (.tuple #[.pointer none,I 2]) s)) (Br (n<(-9:Int)) (∀t,Ext B [] w t->(R (.tuple #[.pointer none,I 2]) t)) (Br (n>9) (∀u,Ext B [] w u->(R (.tuple #[.pointer none,I 2]) u)) (aN .i64 (p+1)/\(∀v,Ext B [] w v->(bG.L17 D e f m E g l q (p+1) A a b C c d G i j B v R)))))))) (Pure P 200 #[.agg #[vW A a b,vW C c d],vW D e f] w (Vh fun K L M N x=>(∃(o:List Value)(r:Nat),B<=(m.add 4).block/\(m.add 4).spot=none/\x.heap[(m.add 4).block]? =some (.cells o.toArray r (0,0))/\(m.add 4).off+1<=o.length/\hasType r [⟨3,false,47,[vW A a b,vW C c d,vW G i j]⟩]=false/\∀y,aG x y (m.add 4).block r (setCells o (m.add 4).off [vW K L M])->(R (.tuple #[(.pointer (some m)),I 0]) y)))))):
  bG.L17 D e f m E g l q p A a b C c d G i j B w R:=
 lr bG.cx func138 h
theorem bG.vc
  (h:(∀n,Ext w.heap.size [] w n->(Pure P 107 #[.agg #[vW A b c,vW C d e,vW D f g]] n (Rii fun y r o=>(Br (r≠0) (R (.tuple #[.pointer none,I 1]) o) (Pure P 130 #[.agg #[vW A b c,vW C d e,vW D f g],vW G j l] o (Rb fun s m=>(Br (s=false) (R (.tuple #[.pointer none,I 11]) m) (Br ((a:Int)>6) (R (.tuple #[.pointer none,I 8]) m) (ae P (Instr.makeMap 280 none) w.heap.size [47] m fun t u=>∃(p:Option Nat),t= .map p/\(ae P (Instr.box 282 (.agg #[vW A b c,vW C d e,vW D f g,vW E a i,vN,(.map p)])) w.heap.size [47] u fun v x=>∃(q:Addr),v= .pointer (some q)/\(bG.Mx G j l E a i q E a i (a:Int) (0:Int) A b c C d e D f g w.heap.size x R)))))))))))):
  Pure P 138 #[.agg #[vW A b c,vW C d e,vW D f g],vW G j l,vW E a i] w R:=
 pr bG.cx func138 h

def jF.cx:Pm:=([],[(1,5,2),(5,6,2)])
theorem jF.sV{a:Addr}(hB:B<=w.heap.size)
  (h:(∃(c:Option Nat),aa w (a.add 5) [(.map c)]/\(ae P (Instr.lookup 280 (.map c) (I p) true) B [] w fun x d=>∃e f,x= .tuple #[.bool e,.bool f]/\(Br (f=false) (Pure P 202 #[(.pointer (some a)),I p] d (Rsb fun y z A C b=>(Bb C (∃g i j l m n o q r,aa b (a.add 0) [vW g i j,vW l m n,vW o q r]/\(Pure P 130 #[.agg #[vW g i j,vW l m n,vW o q r],vW y z A] b (Rb fun s t=>(∃(u:Option Nat),aa t (a.add 5) [(.map u)]/\(eM P (Instr.mapUpdate 280 (.map u) (I p) (.bool s)) B [] t fun D=>(R (.bool s) D)))))) (∃(v:Option Nat),aa b (a.add 5) [(.map v)]/\(eM P (Instr.mapUpdate 280 (.map v) (I p) (.bool false)) B [] b fun E=>(R (.bool false) E)))))) (R (.bool e) d))))):
  ba P 140 #[(.pointer (some a)),I p] B w R:=
 pb jF.cx func140 h hB

def kR.cx:Pm:=([],[(1,6,5)])
theorem kR.vc{c:Addr}
  (h:(∀a,Ext w.heap.size [] w a->(∃d e f,aa a (((c.add 0).add 0).add 0) [vW d e f]/\(∀b:Nat,w.heap.size<=b->a.heap[b]? =some (.cells [I p,I q,I r].toArray 123 (0,0))->(Pure P 249 #[vW d e f,(.func (.func 250) #[] #[(.pointer (some (⟨b,0,none⟩:Addr)))])] a (Ri fun m g=>(∃i j l,aa g (((c.add 0).add 0).add 1) [vW i j l]/\(Pure P 240 #[vW i j l,(.func (.func 251) #[] #[(.pointer (some (⟨b,0,none⟩:Addr)))])] g (Ri fun n o=>(R (.tuple #[I m,I n]) o)))))))))):
  Pure P 199 #[(.pointer (some c)),.agg #[I p,I q,I r]] w R:=
 pr kR.cx func199 h

def bP.L3(a:Addr)(b:Int)(c:O)(d e:Nat)(f:O)(g i:Nat)(j l:Int):=Lt 202 f202 3 [(0,.v (.pointer (some a))),vI 1 b,vS 6 c d e,vS 21 f g i,vI 22 j,vI 23 l] []
def bP.cx:Pm:=([((true,3),[0,1,6,21,22,23],[])],[])
theorem bP.L3.step{i:Addr}
  (h:(Br (p<r) (Ix p c C fun L=>(∃m n l,aa w (L.add ((p).toNat*3)) [I m,I n,I l]/\(qP .i64 p/\(Br (((bits .and .i64 (ny q p) (1:Int)):Int)=1) (∀x,Ext B [] w x->(Pure P 199 #[(.pointer (some i)),.agg #[I m,I n,I l]] x (Rii fun f g o=>(∃M e N,aa o (((i.add 0).add 0).add 1) [vW M e N]/\(aN .i64 (f*(e:Int))/\(aN .i64 ((f*(e:Int))+g)/\(Ix ((f*(e:Int))+g) a A fun O=>(∃s,aa o (O.add ((((f*(e:Int))+g)).toNat*1)) [I s]/\(aN .i64 (s+l)/\(Ix ((f*(e:Int))+g) a A fun j=>(∀t,Ext B [] o t->(∃(u:List Value)(v:Nat),B<=(j.add ((((f*(e:Int))+g)).toNat*1)).block/\(j.add ((((f*(e:Int))+g)).toNat*1)).spot=none/\t.heap[(j.add ((((f*(e:Int))+g)).toNat*1)).block]? =some (.cells u.toArray v (0,0))/\(j.add ((((f*(e:Int))+g)).toNat*1)).off+1<=u.length/\hasType v [⟨8,false,123,[I m,I n,I l]⟩]=false/\∀y,aG t y (j.add ((((f*(e:Int))+g)).toNat*1)).block v (setCells u (j.add ((((f*(e:Int))+g)).toNat*1)).off [(I (s+l))])->(aN .i64 (p+1)/\(bP.L3 i q A a b C c d r (p+1) B y R)))))))))))))) (aN .i64 (p+1)/\(∀z,Ext B [] w z->(bP.L3 i q A a b C c d r (p+1) B z R))))))) (∃D E G H J K,aa w ((i.add 0).add 0) [vW D E G,vW H J K]/\(Pure P 252 #[.agg #[vW D E G,vW H J K],vW A a b] w (Vh fun Q S T U V=>(R (.tuple #[vW Q S T,(.bool (decide (U=0)))]) V)))))):
  bP.L3 i q A a b C c d r p B w R:=
 lr bP.cx func202 h
theorem bP.vc{a:Addr}
  (h:(∃c d e,aa w (a.add 4) [vW c d e]/\(Pure P 51 #[vW c d e] w (Rs fun j l m f=>(∃g b i,aa f (a.add 3) [vW g b i]/\(bP.L3 a p j l m g b i (b:Int) (0:Int) w.heap.size f R)))))):
  Pure P 202 #[(.pointer (some a)),I p] w R:=
 pr bP.cx func202 h

def jk.cx:Pm:=([],[])
theorem jk.vc{b:Addr}
  (h:(∀a,Ext w.heap.size [] w a->(∃c,aa a (b.add 1) [I c]/\(R (.bool (decide (p=c))) a)))):
  Pure P 250 #[.agg #[I p,I q,I r,vU L,vU M,vU N,vU N0],(.pointer (some b))] w R:=
 pr jk.cx func250 h

def jl.cx:Pm:=([],[])
theorem jl.vc{b:Addr}
  (h:(∀a,Ext w.heap.size [] w a->(∃c,aa a (b.add 0) [I c]/\(R (.bool (decide (p=c))) a)))):
  Pure P 251 #[.agg #[I p,vU L,vU M,vU N,vU N0,vU N1,vU N2],(.pointer (some b))] w R:=
 pr jl.cx func251 h

end Go.Proofs.YtmdphpnaipbfjaaGreatDoor.F

namespace Go.Proofs.YtmdphpnaipbfjaaGreatDoor.B
open Go Go.RowKit Go.Proofs Go.Proofs.YtmdphpnaipbfjaaGreatDoor.Vc

structure Tk where
 b:Nat
 m:Nat
 A0:Option Addr
 n0:Nat
 c0:Nat
 A1:Option Addr
 n1:Nat
 c1:Nat
 A2:Option Addr
 n2:Nat
 c2:Nat
 A3:Option Addr
 n3:Nat
 c3:Nat
 A4:Option Addr
 n4:Nat
 c4:Nat
abbrev Tk.cs(k:Tk):List Value:=[.slice k.A0 k.n0 k.c0,.slice k.A1 k.n1 k.c1,.slice k.A2 k.n2 k.c2,.slice k.A3 k.n3 k.c3,.slice k.A4 k.n4 k.c4,.map (some k.m)]
abbrev Tk.p(k:Tk):Addr:=⟨k.b,0,none⟩
def KX(w:World)(k:Tk):Prop:=w.heap[k.b]? =some (.cells k.cs.toArray 282 (0,0))
theorem KX.ar{w w':World}{k:Tk}(h:KX w k)(hb:Below w.heap.size w w'):KX w' k:=ai h hb
theorem KX.cl{w w':World}{k:Tk}(h:KX w k)(c:Cl w w'):KX w' k:=c.cells _ _ _ _ h
theorem KX.cell{w:World}{k:Tk}(h:KX w k)(i:Nat){v:Value}(a:k.cs[i]? =some v):aa w (k.p.add i) [v]:=bz h a
theorem KX.part{w:World}{k:Tk}(h:KX w k)(i n:Nat):aa w (k.p.add i) ((k.cs.drop i).take n):=tX (fy h) i n
structure BO (w:World) (k:Tk) (ps:List Pa) (hs:List Ho) (xs:List Rm) (l aV:List Sw):Prop where
 t:KX w k
 p:pT w k.A0 k.n0 k.A1 k.n1 k.A2 k.n2 k.c2 ps hs xs
 wk:bW w k.A3 3 (aV.map Sw.row)
 lw:aV.length=k.n3
 st:bW w k.A4 1 ((dP ps hs l).map fO)
 ok:Te ps hs (dW xs) l aV
 n4:k.n4=k.n0*k.n1
theorem BO.ar{w w':World}{k:Tk}{ps:List Pa}{hs:List Ho}{xs:List Rm}{l aV:List Sw}(h:BO w k ps hs xs l aV)(hb:Below w.heap.size w w'):BO w' k ps hs xs l aV:=
 ⟨h.t.ar hb,h.p.ar hb,h.wk.ar hb lf,h.lw,h.st.ar hb lf,h.ok,h.n4⟩
theorem BO.cl{w w':World}{k:Tk}{ps:List Pa}{hs:List Ho}{xs:List Rm}{l aV:List Sw}(h:BO w k ps hs xs l aV)(c:Cl w w'):BO w' k ps hs xs l aV:=
 ⟨h.t.cl c,h.p.cl c,h.wk.cl c,h.lw,h.st.cl c,h.ok,h.n4⟩

section
variable {w:World} {k:Tk} {ps:List Pa} {hs:List Ho} {xs:List Rm} {l aV:List Sw}
theorem FM(c:KX w k)(a:hU w k.A0 k.n0 k.A1 k.n1 ps hs)(x:Sw):
  Pure Tryz.prog 199 #[.pointer (some k.p),x.val] w fun v _=>v= .tuple #[.int .i64 (wJ (rC ps x.au)),.int .i64 (wJ (wT hs x.hold))]:=by
 have g:=a.np;have i:=a.nh;refine F.kR.vc fun w1 x1=> ?_
 have hw:=k0 x1;refine⟨_,_,_,by rw[Go.Deep.add_add,Go.Deep.add_add];exact(c.ar hw).cell 0 rfl,fun p3 j b=> ?_⟩;refine pm (yQ (p:=fun p=>decide (p.id=x.au)) (a.ar hw).p a.lp om kF fun w' hb y hy=> ?_) ?_
 ·exact F.jk.vc fun w1 x1=>⟨_,bz (ai (ai b hb) (k0 x1)) rfl,rfl⟩
 ·rintro v m d rfl;have e:=kP hw d;refine⟨_,rfl,_,_,_,by rw[Go.Deep.add_add,Go.Deep.add_add];exact(c.ar e).cell 1 rfl,?_⟩;refine pm (B9 (p:=fun p=>decide (p.id=x.hold)) (a.ar e).h a.lh om kF fun w' hb y hy=> ?_) ?_
  ·exact F.jl.vc fun w1 x1=>⟨_,cm (ai (ai (ai b d) hb) (k0 x1)) rfl,rfl⟩
  ·rintro v n _ rfl;exact⟨_,rfl,rfl⟩
theorem EN(a:fc ps hs l):∀x∈dP ps hs l,0<=x/\x<=9:=by
 intro x hx;unfold dP at hx;obtain⟨p,_,hx⟩:=Uv.1 hx;obtain⟨h,_,rfl⟩:=iu.1 hx;exact⟨Dj a.pos _ _,aa8 a _ _⟩
theorem TC{x:Sw}{j:Nat}(h:lR ps hs x=some j):∃i k,rC ps x.au=some i/\wT hs x.hold=some k/\j=i*hs.length+k/\j<ps.length*hs.length:=by
 unfold lR at h;cases a:rC ps x.au with
 |none=>rw[a]at h;cases h
 |some i=>
  cases b:wT hs x.hold with
  |none=>rw[a,b]at h;cases h
  |some k=>
   rw[a,b]at h;cases h;exact⟨i,k,rfl,rfl,rfl,Dp (xV a).1 (Dt b).1⟩
theorem PD{s:Nat}{m:List Sw}(e:rH ps hs l aV s=some m):m.length<=36:=(JC e).2.1.len
theorem PE(hg:bj w)(h:BO w k ps hs xs l aV){s:Nat}(O:s<128):
  Pure Tryz.prog 202 #[.pointer (some k.p),.int .i64 (s:Int)] w fun v w'=>(rH ps hs l aV s=none->v= .tuple #[.slice none 0 0,.bool false])/\
   ∀m,rH ps hs l aV s=some m->∃A n c,v= .tuple #[.slice A n c,.bool true]/\ay w' w.heap.size 73 A n c 3 (m.map Sw.row):=by
 obtain⟨hck,xF,hr⟩:=AZ h.ok.keeps;have P:=h.p.c.lp;have C:=h.p.c.lh;have Ih:=h.p.c.np;have yz:=h.p.c.nh;have hle:k.n0*k.n1<=7*7:=oi Ih yz;have vy:=h.ok.n;have WV:=h.lw;have Q:=h.n4;have D:(dP ps hs l).length=k.n4:=by rw[iX,P,C,Q]
 refine F.bP.vc ⟨_,_,_,h.t.cell 4 rfl,pm (SU h.st D om) ?_⟩;rintro v w4 R ⟨A',c',rfl,ho⟩;refine⟨_,_,_,rfl,_,_,_,(h.t.ar R).cell 3 rfl,?_⟩;have key:∀(d j:Nat)(a:List Int)(w':World),k.n3 - j=d->j<=k.n3->Below w.heap.size w w'->ay w' w.heap.size 3 A' k.n4 c' 1 (a.map fO)->(∀x∈a, -(9*(j:Int))<=x/\x<=9+9*(j:Int))->qD ps hs s j a (aV.drop j)=qD ps hs s 0 (dP ps hs l) aV->
   F.bP.L3 k.p s A' k.n4 c' k.A3 k.n3 k.c3 k.n3 j w.heap.size w' fun v w'=>(rH ps hs l aV s=none->v= .tuple #[.slice none 0 0,.bool false])/\
    ∀m,rH ps hs l aV s=some m->∃A n c,v= .tuple #[.slice A n c,.bool true]/\ay w' w.heap.size 73 A n c 3 (m.map Sw.row):=by
  intro d;induction d with
  |zero=>
   intro j a w' hd hj hw ho hb he;have o:=ho.len;rw[en]at o;rw[dd om]at he;have E:a=qD ps hs s 0 (dP ps hs l) aV:=he;refine F.bP.L3.step ⟨fun h=>by omega,fun _=>⟨_,_,_,_,_,_,by rw[Go.Deep.add_add];exact(h.t.ar hw).part 0 2,?_⟩⟩;refine pm (bb (hg.next hw) (h.p.ar hw).c ho.sl o ho.jZ om) ?_;intro v Ey UX hf;unfold rH;rw[<-E];cases e:sS ps hs a with
   |error er=>
    rw[e]at hf;have G:=SZ e;cases hf;refine⟨_,_,_,_,rfl,fun _=> ?_,fun m hm=>by cases hm⟩;rw[eL G]
   |ok m=>
    rw[e]at hf;obtain⟨A,n,c,rfl,hm⟩:=hf;refine⟨_,_,_,_,rfl,fun hm=>(by cases hm),fun m' H=> ?_⟩;cases H;exact⟨A,n,c,rfl,hm.base hw.size⟩
  |succ d ih=>
   intro j a w' hd hj hw ho hb he;have I:j<aV.length:=om;have S:=sc j;have o:=ho.len;rw[en]at o;have T:=bx I;obtain⟨q,U⟩:=h.ok.place _ T;obtain⟨ip,ik,Hl,J,K,L⟩:=TC U;have hu:=h.ok.u _ T;rw[cy I,JB,U]at he;obtain⟨Sj,ad,hA,b,_⟩:=(h.wk.ar hw lf).at_ (fun _=>rfl) WV I;refine F.bP.L3.step ⟨fun _=>⟨Sj,ad,hA,_,_,_,b,Za om,fun h1 kg V=> ?_,fun h1=>⟨ir,fun zT r=> ?_⟩⟩,fun h=>by omega⟩
   ·rw[bm ((TB O om).1 h1)]at he;have hw:=kE hw V;refine pm (FM (h.t.ar hw) (h.p.ar hw).c aV[j]) ?_;rintro v CV W rfl;have hw:=kP hw W;rw[Hl,J];have ei:wJ (some ip)*(k.n1:Int)=((ip*hs.length:Nat):Int):=by rw[<-C];simp[wJ]
    have eq:((ip*hs.length:Nat):Int)+wJ (some ik)=(q:Int):=by rw[K];simp[wJ]
    have y:=(ho.lN V).below W;have hqn:q<k.n4:=by rw[Q,<-P,<-C];exact L
    have B:q<a.length:=om;have ic:(a.map fO)[q]? =some (fO a[q]):=by rw[ow,af B];rfl
    have haq:=hb _ (bx B);have UM:a.getD q 0=a[q]:=by rw[cz,af B];rfl
    have hlq:ip*hs.length<=q:=om;obtain⟨z,X,g,M,_⟩:=y.sl.at_ (fun _=>rfl) o B;refine⟨_,_,rfl,_,_,_,by rw[Go.Deep.add_add,Go.Deep.add_add];exact(h.t.ar hw).cell 1 rfl,?_⟩;rw[ei,eq];refine⟨ir,ir,z,X,g,_,M,ir,z,X,g,fun Cb Y=> ?_⟩;have hw:=kE hw Y;have N:=y.lN Y;obtain⟨g1,a2,Z,cs,g2,g3,g4,g5,g6⟩:=N.OP (i:=(q:Int)) om om (fO (a[q]+aV[j].aU)) _ (by rw[cd];exact ic) rfl;rw[g]at Z;cases Z;refine⟨cs,_,g2,g3,g4,g5,rfl,fun uA kA=>⟨ir,?_⟩⟩;have UZ:=g6 uA kA;rw[cd,<-IK]at UZ;rw[S];refine ih (j+1) (a.set q (a[q]+aV[j].aU)) uA om om (hw.trans (aG.eC kA g2)) UZ (fun x hx=> ?_) ?_
    ·rcases LY hx with hx|rfl
     ·have:=hb x hx;omega
     ·omega
    ·rw[<-he];show _=qD ps hs s (j+1) (xv a q aV[j].aU) _;unfold xv;rw[UM]
   ·rw[aq (fun k=>h1 ((TB O om).2 k))]at he;rw[S];exact ih (j+1) a zT om om (kE hw r) (ho.lN r) (fun x hx=>by have:=hb x hx;omega) he
 refine key k.n3 0 (dP ps hs l) w4 rfl om R ho (fun x hx=> ?_) rfl;have:=EN hr x hx;omega

theorem mpB:YR 280 3 4:=⟨kF,kF,kF,fun w=>Tryz.zeroValue4 w⟩
def zc(w:World)(B:Nat)(k:Tk)(al:Nat->Bool):Prop:=∃f,uP w B 3 4 k.m f/\∀(s:Nat)(x:Bool),f (s:Int)=some x->x=al s
theorem zc.below{w w':World}{B:Nat}{k:Tk}{al:Nat->Bool}(h:zc w B k al)(hb:Below w.heap.size w w'):zc w' B k al:=by
 obtain⟨f,h1,a⟩:=h;exact⟨f,h1.below hb,a⟩
theorem zc.le{w:World}{B a:Nat}{k:Tk}{al:Nat->Bool}(h:zc w B k al)(hB:a<=B):zc w a k al:=by
 obtain⟨f,h1,b⟩:=h;exact⟨f,h1.le hB,b⟩
structure HH (b:Nat) (w w':World):Prop where
 size:w.heap.size<=w'.heap.size
 other:∀k,k<w.heap.size->k≠b->w'.heap[k]? =w.heap[k]?
theorem HH.refl(b:Nat)(w:World):HH b w w:=⟨ga _,fun _ _ _=>rfl⟩
theorem HH.trans{b:Nat}{w w1 c:World}(h:HH b w w1)(k:HH b w1 c):HH b w c:=
 ⟨ec h.size k.size,fun i hi a=>(k.other i (uB hi h.size) a).trans (h.other i hi a)⟩
theorem HH.low{b:Nat}{w w':World}(h:Below w.heap.size w w'):HH b w w':=⟨h.size,fun k a _=>h.block k a⟩
theorem HH.grown{b:Nat}{w w':World}(h:w.grownBy w' (some b)):HH b w w':=⟨h.size,fun k c a=>h.block k c fun e=>a (by cases e;rfl)⟩
theorem HH.cl{b:Nat}{w w':World}(h:HH b w w')(hm:∃es clock,w.heap[b]? =some (.map es clock)):Cl w w':=⟨h.size,fun k cs ty fr e=>by
 obtain⟨es,clock,hm⟩:=hm;rw[h.other k (ax.1 e).1 fun k=>by subst k;rw[hm]at e;cases e];exact e⟩
theorem zc.map{w:World}{B:Nat}{k:Tk}{al:Nat->Bool}(h:zc w B k al):∃es clock,w.heap[k.m]? =some (.map es clock):=by
 obtain⟨f,h1,_⟩:=h;exact h1.isMap
theorem JO(hg:bj w)(h:BO w k ps hs xs l aV){B:Nat}(hB:B<=w.heap.size)(g:zc w B k (ki ps hs (dW xs) l aV)){s:Nat}(o:s<128):
  ba Tryz.prog 140 #[.pointer (some k.p),.int .i64 (s:Int)] B w fun v w'=>v= .bool (ki ps hs (dW xs) l aV s)/\zc w' B k (ki ps hs (dW xs) l aV)/\HH k.m w w':=by
 obtain⟨f,hm,hf⟩:=id g;have fin:∀(w':World)(x:Bool),Below w.heap.size w w'->x=ki ps hs (dW xs) l aV s->∃m1:Option Nat,aa w' (k.p.add 5) [.map m1]/\eM Tryz.prog (Instr.mapUpdate 280 (.map m1) (.int .i64 (s:Int)) (.bool x)) B [] w' fun d=>Value.bool x= .bool (ki ps hs (dW xs) l aV s)/\zc d B k (ki ps hs (dW xs) l aV)/\HH k.m w d:=by
  intro w' x hw hx;refine⟨_,(h.t.ar hw).cell 5 rfl,Hz (hm.below hw) mpB om om x lf (ec hB hw.size) fun d m17 _ g17=>⟨by rw[hx],⟨_,m17,fun z y hz=> ?_⟩,(HH.low hw).trans (HH.grown g17)⟩⟩;unfold DC at hz;split at hz
  ·rename_i e;have:z=s:=om;subst this;cases hz;exact hx
  ·exact hf z y hz
 refine F.jF.sV hB ⟨_,h.t.cell 5 rfl,Hy hm mpB om om ⟨fun i=> ?_,fun i=> ?_⟩⟩
 ·refine pm (PE hg h o) ?_;intro v q b a;cases e:rH ps hs l aV s with
  |none=>
   have a:=a.1 e;subst a;refine⟨_,_,_,_,rfl,fun k=>(by cases k),fun _=>fin q false b ?_⟩;unfold ki;rw[e]
  |some m=>
   obtain⟨A,n,c,a,ho⟩:=a.2 m e;subst a;have j:=ho.len;rw[en]at j;have r:=PD e;refine⟨_,_,_,_,rfl,fun _=>⟨_,_,_,_,_,_,_,_,_,(h.t.ar b).part 0 3,?_⟩,fun k=>by cases k⟩;refine pm (yd (hg.next b) (h.p.ar b) ho.sl j ho.jZ om) ?_;rintro v C D rfl;refine⟨_,rfl,fin C _ (kP b D) ?_⟩;unfold ki;rw[e]
 ·obtain⟨x,hx⟩:=MD.1 (ve _|>.mp i);rw[hx];exact⟨by rw[<-hf s x hx];rfl,g,HH.refl _ _⟩
end

theorem JP{α:Type}{p:α->Bool}{l:List α}{j:Nat}(hj:j<l.length)(h:(l.take j).any p=false)(h1:p l[j]=false):(l.take (j+1)).any p=false:=by
 rw[gv,af hj,List.any_append,h];simp[h1]
theorem TF{α:Type}{p:α->Bool}{l:List α}{j:Nat}(hj:j<l.length)(h1:p l[j]=true):l.any p=true:=uv.2 ⟨_,bx hj,h1⟩
section
variable {w:World} {A0 A1 A2 A A3:Option Addr} {n0 c0 n1 c1 n2 c2 n c n3 c3:Nat} {ps:List Pa} {hs:List Ho} {xs:List Rm} {l aV:List Sw}
def BeR(w0:World)(ps:List Pa)(hs:List Ho)(xs:List Rm)(l aV:List Sw)(v:Value)(w':World):Prop:=
 (mo ps hs (dW xs) l aV≠0->v= .tuple #[.pointer none,.int .i64 (mo ps hs (dW xs) l aV)])/\
 (mo ps hs (dW xs) l aV=0->∃k:Tk,v= .tuple #[.pointer (some k.p),.int .i64 0]/\BO w' k ps hs xs l aV/\zc w' w0.heap.size k (ki ps hs (dW xs) l aV))
theorem PF(hg:bj w)(hp:pT w A0 n0 A1 n1 A2 n2 c2 ps hs xs)(h:bW w A 3 (l.map Sw.row))(hl:l.length=n)(M:n<=c)(hn:n<=40)(o:bW w A3 3 (aV.map Sw.row))(H:aV.length=n3){b m:Nat}(hb:w.heap.size<=b)
  (q:(nQ ps hs (dW xs)).2=0) (g:lQ ps hs (dW xs) l=true) (h6:n3<=6) (I:(aV.any fun w=>decide (lR ps hs w=none))=false):
  ∀(d j:Nat)(w':World),n3 - j=d->j<=n3->Below w.heap.size w w'->KX w' ⟨b,m,A0,n0,c0,A1,n1,c1,A2,n2,c2,A3,n3,c3,none,0,0⟩->uP w' w.heap.size 3 4 m (fun _=>none)->((aV.take j).any fun w=>decide (w.aU=0∨w.aU< -9∨9<w.aU))=false->
   F.bG.L17 A n c ⟨b,0,none⟩ A3 n3 c3 n3 j A0 n0 c0 A1 n1 c1 A2 n2 c2 w.heap.size w' (BeR w ps hs xs l aV):=by
 obtain⟨_,O,hr⟩:=AZ g;intro d;induction d with
 |zero=>
  intro j w' P hj hw z hm ha;rw[cc om]at ha;have J:mo ps hs (dW xs) l aV=0:=by
   unfold mo;rw[aq (fun k=>k q),aq (by rw[g];decide),aq om,aq (by rw[I];decide),aq (by rw[ha];decide)]
  refine F.bG.L17.step ⟨fun h=>by omega,fun _=> ?_⟩;refine pm (dr (hg.next hw) (hp.ar hw).c (h.ar hw lf) hl M om) ?_;intro v Q C R;obtain⟨A',N,rfl,ho,S⟩:=R.2 O;have T:=kP hw C;have r:=z.ar C;have y:=hm.below C;have e:(⟨b,0,none⟩:Addr).add 4=⟨b,4,none⟩:=by rw[ct]
  have U:b<w'.heap.size:=(ax.1 z).1;refine⟨_,_,_,_,rfl,Tk.cs ⟨b,m,A0,n0,c0,A1,n1,c1,A2,n2,c2,A3,n3,c3,none,0,0⟩,282,?_⟩;rw[e];refine⟨hb,rfl,r,sm,rfl,fun V B=> ?_⟩;have K:Below w.heap.size w V:=T.trans (aG.eC B hb);have D:m≠b:=by
   obtain⟨es,cl,W⟩:=y.isMap;intro k;subst k;have:=r;unfold KX at this;simp only at this;rw[W]at this;cases this
  refine⟨fun k=>absurd J k,fun _=>⟨⟨b,m,A0,n0,c0,A1,n1,c1,A2,n2,c2,A3,n3,c3,A',N,N⟩,rfl,⟨?_,hp.ar K,o.ar K lf,H,?_,Wz J,S⟩,_,y.same (B.rest m D),fun s x k=>by cases k⟩⟩
  ·exact B.at_
  ·refine(ho.other fun a ha=>B.rest _ fun k=> ?_).sl;have:=(ho.uN a ha).1;have k:a.block=b:=k;omega
 |succ d ih=>
  intro j w' P hj hw z hm ha;have E:j<aV.length:=om;have X:=sc j;obtain⟨Y,Z,hA,i,_⟩:=(o.ar hw lf).at_ (fun _=>rfl) H E;have bad:(aV[j].aU=0∨aV[j].aU< -9∨9<aV[j].aU)->∀w1,BeR w ps hs xs l aV (.tuple #[.pointer none,.int .i64 2]) w1:=by
   intro k w1;have L:mo ps hs (dW xs) l aV=2:=by
    unfold mo;rw[aq (fun k=>k q),aq (by rw[g];decide),aq om,aq (by rw[I];decide),bm (TF E (hM k))]
   exact⟨fun _=>by rw[L],fun k=>by rw[L]at k;cases k⟩
  refine F.bG.L17.step ⟨fun _=>⟨Y,Z,hA,_,_,_,i,fun k w1 _=>bad (.inl k) w1,fun k1=>⟨fun k w1 _=>bad (.inr (.inl k)) w1,fun k2=>⟨fun k w1 _=>bad (.inr (.inr k)) w1,fun k3=>⟨ir,fun NQ G=> ?_⟩⟩⟩⟩,fun h=>by omega⟩;rw[X];exact ih (j+1) NQ om om (kE hw G) (ext_nil G z) (hm.ext G) (JP E ha (eL om))
theorem PG(hg:bj w)(hp:pT w A0 n0 A1 n1 A2 n2 c2 ps hs xs)(h:bW w A 3 (l.map Sw.row))(hl:l.length=n)(H:n<=c)(hn:n<=40)(g:bW w A3 3 (aV.map Sw.row))(I:aV.length=n3):
  Pure Tryz.prog 138 #[.agg #[.slice A0 n0 c0,.slice A1 n1 c1,.slice A2 n2 c2],.slice A n c,.slice A3 n3 c3] w (BeR w ps hs xs l aV):=by
 have out:∀(e:Int)(w':World),mo ps hs (dW xs) l aV=e->e≠0->BeR w ps hs xs l aV (.tuple #[.pointer none,.int .i64 e]) w':=fun e w' h1 a=>⟨fun _=>by rw[h1],fun k=>absurd (h1.symm.trans k) a⟩
 refine F.bG.vc fun w1 x1=> ?_
 have hw:=k0 x1;refine pm (yb (hg.next hw) (hp.ar hw)) ?_;rintro v Y N rfl;have hw:=kP hw N;refine⟨_,_,rfl,fun h1=>out 1 _ (by unfold mo;rw[bm h1]) dc,fun h1=> ?_⟩;refine pm (yd (hg.next hw) (hp.ar hw) (h.ar hw lf) hl H hn) ?_;rintro v x b8 rfl;have hw:=kP hw b8;refine⟨_,rfl,fun a=>out 11 _ (by unfold mo;rw[aq h1,bm a]) dc,fun a=>⟨fun O=>out 8 _ (by unfold mo;rw[aq h1,aq a,bm om]) dc,fun O=> ?_⟩⟩;have y:=ve _|>.mp a
 have z:=dT.1 h1;refine EK (tk:=3) (te:=4) hw.size fun B m11 P=> ?_
 have C:=kP hw P;refine qa _ _ C.size fun Q D J _=> ?_
 have R:=kP C J;have key:∀(d j:Nat)(w':World),n3 - j=d->j<=n3->Below w.heap.size w w'->KX w' ⟨B.heap.size,x.heap.size,A0,n0,c0,A1,n1,c1,A2,n2,c2,A3,n3,c3,none,0,0⟩->uP w' w.heap.size 3 4 x.heap.size (fun _=>none)->((aV.take j).any fun w=>decide (lR ps hs w=none))=false->
   F.bG.Mx A n c A3 n3 c3 ⟨B.heap.size,0,none⟩ A3 n3 c3 n3 j A0 n0 c0 A1 n1 c1 A2 n2 c2 w.heap.size w' (BeR w ps hs xs l aV):=by
  intro d;induction d with
  |zero=>
   intro j w' S hj hw m hm ha;rw[cc om]at ha;exact F.bG.Mx.step ⟨fun h=>by omega,fun _=>PF hg hp h hl H hn g I C.size z y om ha n3 0 w' rfl om hw m hm rfl⟩
  |succ d ih=>
   intro j w' S hj hw m hm ha;have E:j<aV.length:=om;have T:=sc j;obtain⟨U,V,W,b,_⟩:=(g.ar hw lf).at_ (fun _=>rfl) I E;have bad:lR ps hs aV[j]=none->∀w1,BeR w ps hs xs l aV (.tuple #[.pointer none,.int .i64 7]) w1:=by
    intro k w1;exact out 7 _ (by unfold mo;rw[aq h1,aq a,aq om,bm (TF E (hM k))]) dc
   refine F.bG.Mx.step ⟨fun _=>⟨U,V,W,_,_,_,b,fun Z o=> ?_⟩,fun h=>by omega⟩;have K:=kE hw o;refine pm (FM (k:=⟨B.heap.size,x.heap.size,A0,n0,c0,A1,n1,c1,A2,n2,c2,A3,n3,c3,none,0,0⟩) (ext_nil o m) (hp.ar K).c aV[j]) ?_;rintro v X G rfl;refine⟨_,_,rfl,fun q=>bad (by unfold lR;rw[pQ.1 q]) _,fun q=>⟨fun r=>bad ?_ _,fun r=>⟨ir,?_⟩⟩⟩
   ·unfold lR;rw[pQ.1 r];cases rC ps aV[j].au<;>rfl
   ·rw[T];refine ih (j+1) X om om (kP K G) (KX.ar (ext_nil o m) G) ((hm.ext o).below G) (JP E ha (eL fun k=> ?_));unfold lR at k;cases L:rC ps aV[j].au with
    |none=>rw[L]at q;exact q (by simp[wJ])
    |some i=>
     cases M:wT hs aV[j].hold with
     |none=>rw[M]at r;exact r (by simp[wJ])
     |some i'=>rw[L,M]at k;cases k
 exact key n3 0 Q rfl om R D ((m11.below J).le hw.size) rfl

end

theorem PH{w0:World}{A:Option Addr}{n c:Nat}{l:List Int}(hl:bW w0 A 1 (l.map fO))(hlen:l.length=n)(hn:n<2147483648)(z:Int){R:Value->World->Prop}{r:Int}(e:∀w,R (.int .i64 r) w):
  ∀(d i:Nat)(w:World),n - i=d->i<=n->Below w0.heap.size w0 w->r=fq (fun x=>decide (x=z)) i (l.drop i)->F.bR.L2 A n c z n i w0.heap.size w R:=by
 intro d;induction d with
 |zero=>
  intro i w j hi hw a;rw[dd om]at a;subst a;exact F.bR.L2.step ⟨fun h=>by omega,fun _=>e w⟩
 |succ d ih=>
  intro i w j hi hw a;have g:i<l.length:=om;rw[cy g,fq]at a;obtain⟨hb,m,q,b,_⟩:=(hl.ar hw lf).at_ (fun _=>rfl) hlen g;refine F.bR.L2.step ⟨fun _=>⟨hb,m,q,_,b,fun h=> ?_,fun h=>⟨ir,?_⟩⟩,fun h=>by omega⟩
  ·rw[bm (hM h.symm)]at a;subst a;exact e w
  ·rw[aq (by simpa using fun k=>h k.symm)]at a;have y:=sc i;rw[y];exact ih (i+1) w om om hw a
theorem abA{w0:World}{A:Option Addr}{n c:Nat}{l:List Int}(hl:bW w0 A 1 (l.map fO))(hlen:l.length=n)(hn:n<2147483648)(z:Int):
  Pure Tryz.prog 139 #[.slice A n c,.int .i64 z] w0 fun v _=>v= .bool (decide (z∈l)):=by
 refine F.iI.vc (pm (F.bR.vc (PH hl hlen hn z (R:=fun v _=>v= .int .i64 (fq (fun x=>decide (x=z)) 0 l)) (fun _=>rfl) n 0 w0 rfl om (Below.refl _ _) rfl)) ?_);rintro v a _ rfl;refine⟨_,rfl,?_⟩;dsimp only;rw[tY];refine ca Value.bool ?_;rw[ya,uv,kl];simp

structure KY (w0 wb:World) (k:Tk) (ps:List Pa) (hs:List Ho) (xs:List Rm) (l aV:List Sw) (w:World):Prop where
 b:Below w0.heap.size w0 w
 lo:w0.heap.size<=wb.heap.size
 tb:BO wb k ps hs xs l aV
 c:Cl wb w
 kn:zc w w0.heap.size k (ki ps hs (dW xs) l aV)
 m:k.m<wb.heap.size
section
variable {w0 wb w:World} {A0 A1 A2 A A3 A5:Option Addr} {n0 c0 n1 c1 n2 c2 n c n3 c3 n5 c5:Nat} {ps:List Pa} {hs:List Ho} {xs:List Rm} {l aV:List Sw} {k:Tk} {o:List Int}
theorem KY.t(h:KY w0 wb k ps hs xs l aV w):BO w k ps hs xs l aV:=h.tb.cl h.c
theorem KY.hi{w w':World}(h:KY w0 wb k ps hs xs l aV w)(hb:Below wb.heap.size w w'):KY w0 wb k ps hs xs l aV w':=by
 obtain⟨f,f1,f2⟩:=h.kn;refine⟨h.b.trans (hb.mono h.lo),h.lo,h.tb,⟨ec h.c.size hb.size,fun i cs ty fr e=> ?_⟩,⟨f,f1.same (hb.block _ h.m),f2⟩,h.m⟩;rw[hb.block i (ax.1 e).1];exact h.c.cells i cs ty fr e
theorem KY.ar{w w':World}(h:KY w0 wb k ps hs xs l aV w)(hb:Below w.heap.size w w'):KY w0 wb k ps hs xs l aV w':=h.hi (hb.mono h.c.size)
theorem KY.new(hb:Below w0.heap.size w0 wb)(b:BO wb k ps hs xs l aV)(a:zc wb w0.heap.size k (ki ps hs (dW xs) l aV)):KY w0 wb k ps hs xs l aV wb:=
 ⟨hb,hb.size,b,Cl.refl _,a,by obtain⟨f,f1,_⟩:=a;exact f1.lt⟩
theorem KY.allowed(hg:bj w0)(h:KY w0 wb k ps hs xs l aV w){s:Nat}(d:s<128){R:Value->World->Prop}(e:∀w',KY w0 wb k ps hs xs l aV w'->HH k.m w w'->Cl w w'->R (.bool (ki ps hs (dW xs) l aV s)) w'):
  ba Tryz.prog 140 #[.pointer (some k.p),.int .i64 (s:Int)] w0.heap.size w R:=by
 refine ba.mono (JO (hg.next h.b) h.t h.b.size h.kn d) ?_;rintro v w' g ⟨rfl,kn,bt⟩;have a:=bt.cl h.kn.map;exact e w' ⟨h.b.trans g,h.lo,h.tb,h.c.trans a,kn,h.m⟩ bt a
theorem PI(hg:bj w)(hp:pT w A0 n0 A1 n1 A2 n2 c2 ps hs xs)(h:bW w A 3 (l.map Sw.row))(hl:l.length=n)(N:n<=c)(hn:n<=40)(C:bW w A3 3 (aV.map Sw.row))(O:aV.length=n3)(ho:bW w A5 1 (o.map fO))(K:o.length=n5)(P:n5<2147483648):
  Pure Tryz.prog 111 #[.agg #[.slice A0 n0 c0,.slice A1 n1 c1,.slice A2 n2 c2],.slice A n c,.slice A3 n3 c3,.slice A5 n5 c5] w fun v _=>v= .tuple #[.int .i64 (pS ps hs (dW xs) l aV o).1,.int .i64 (pS ps hs (dW xs) l aV o).2]:=by
 refine F.bF.vc fun w1 x1=> ?_
 have hw:=k0 x1;refine pm (PG (hg.next hw) (hp.ar hw) (h.ar hw lf) hl N hn (C.ar hw lf) O) ?_;intro v y Q r;have R:=kP hw Q;unfold pS;by_cases z:mo ps hs (dW xs) l aV≠0
 ·rw[bm z];have r:=r.1 z;subst r;exact⟨_,_,rfl,fun _=>rfl,fun k=>absurd z k⟩
 rw[aq z];obtain⟨k,r,L,D⟩:=r.2 (dT.1 z);subst r;have S:=L.ok.n;have run:KY w y k ps hs xs l aV y:= .new R L (D.le hw.size);unfold Ta;refine⟨_,_,rfl,fun q=>absurd rfl q,fun _=>⟨fun h1=> ?_,fun h1=> ?_⟩⟩
 ·rw[bm (fun q=>by have:=q.1;omega)]
 have h1:n5=n3:=om;have walk:(o.length=aV.length/\∀i∈List.range aV.length,((i:Nat):Int)∈o)->∀(d j s:Nat)(w':World),n5 - j=d->j<=n5->s<2^6->KY w y k ps hs xs l aV w'->
   F.bF.zb (some k.p) s A5 n5 c5 n5 j w.heap.size w' fun v _=>v= .tuple #[.int .i64 (DA (ki ps hs (dW xs) l aV) s j (o.drop j)).1,.int .i64 (DA (ki ps hs (dW xs) l aV) s j (o.drop j)).2]:=by
  intro B d;induction d with
  |zero=>
   intro j s w' E hj M g;rw[dd om];exact F.bF.zb.step ⟨fun h=>by omega,fun _=>rfl⟩
  |succ d ih=>
   intro j s w' E hj M g;have G:j<o.length:=om;have H:=sc j;obtain⟨x,hx⟩:∃x:Nat,o[j]=(x:Int)/\x<aV.length:=by
    have:=(Mw B).mem_iff.1 (bx G);obtain⟨x,hx,e⟩:=iu.1 this;exact⟨x,e.symm,JK.1 hx⟩
   obtain⟨T,U,V,a,_⟩:=(ho.ar g.b lf).at_ (fun _=>rfl) K G;rw[cy G,DA,hx.1,cd];rw[hx.1]at a;have W:=NM (i:=x) M om;refine F.bF.zb.step ⟨fun _=>⟨T,U,V,_,a,Za om,?_⟩,fun h=>by omega⟩;rw[WT _ om,abu _ om _ om];refine g.allowed hg om fun X I _ _=>⟨fun _ _ _ h=>(by cases h),_,rfl,fun m=> ?_,fun m=>⟨ir,?_⟩⟩
   ·rw[aq (by rw[m];decide)]
   ·rw[bm (ve _|>.mp m),H];exact ih (j+1) (Mv s x) X om om W I
 have key:∀(d j:Nat)(w':World),n3 - j=d->j<=n3->KY w y k ps hs xs l aV w'->(∀i∈List.range j,((i:Nat):Int)∈o)->
   F.bF.L7 A5 n5 c5 (some k.p) n3 j w.heap.size w' fun v _=>v= .tuple #[.int .i64 (if ¬(o.length=aV.length/\∀i∈List.range aV.length,((i:Nat):Int)∈o)then((-1,10):Int×Int)else DA (ki ps hs (dW xs) l aV) 0 0 o).1,.int .i64 (if ¬(o.length=aV.length/\∀i∈List.range aV.length,((i:Nat):Int)∈o)then((-1,10):Int×Int)else DA (ki ps hs (dW xs) l aV) 0 0 o).2]:=by
  intro d;induction d with
  |zero=>
   intro j w' E hj g J;have B:o.length=aV.length/\∀i∈List.range aV.length,((i:Nat):Int)∈o:=⟨om,by rw[show aV.length=j by omega];exact J⟩
   rw[aq (fun q=>q B)];refine F.bF.L7.step ⟨fun h=>by omega,fun _=> ?_⟩;exact walk B n5 0 0 w' rfl om dc g
  |succ d ih=>
   intro j w' E hj g J;have H:=sc j;refine F.bF.L7.step ⟨fun _=> ?_,fun h=>by omega⟩;refine pm (abA (ho.ar g.b lf) K P j) ?_;rintro v Y b8 rfl;refine⟨_,rfl,fun m=> ?_,fun m=>⟨ir,?_⟩⟩
   ·rw[bm (fun q=>kh m (q.2 j (JK.2 om)))]
   ·rw[H];refine ih (j+1) Y om om (g.ar b8) fun i hi=> ?_
    rw[GX]at hi;rcases fJ.1 hi with hi|hi
    ·exact J i hi
    ·rw[eb.1 hi];exact fs (ve _|>.mp m)
 exact key n3 0 y rfl om run sm
end

theorem abB{w:World}{A:Option Addr}{n c:Nat}{rows:List (List Value)}(h:bW w A 4 rows)(hlen:rows.length=n)(g:∀r∈rows,r.length=4)(h1:∀r∈rows,∀u∈r,bk u=true)(hn:n<=1000000):
  Pure Tryz.prog 87 #[.slice A n c] w fun v w'=>∃A' c',v= .slice A' n c'/\ay w' w.heap.size 153 A' n c' 4 rows:=by
 refine F.dJ.vc ⟨fun b=> ?_,fun b=> ?_⟩
 ·subst b;have:=h.sO;subst this;simp at hlen;subst hlen;exact⟨none,0,rfl,ay.nil⟩
 ·obtain⟨a,rfl⟩:=FL.1 b;refine aW SW [] sm sm lf fun A2 c2 i ho d=> ?_
  refine vo SW lf (by simpa using ho) (h.below d) hlen g h1 d.size (by simp;omega) sm fun A' c' j e _ k=> ?_
  simp only[za,mC,QB,u0]at e⊢;exact⟨A',c',rfl,e⟩
theorem TH{v:List Va}:∀r∈v.map Va.row,r.length=4:=by
 intro r a;obtain⟨x,_,rfl⟩:=iu.1 a;rfl
theorem PJ{v:List Va}:∀r∈v.map Va.row,∀u∈r,bk u=true:=by
 intro r a u hu;obtain⟨x,_,rfl⟩:=iu.1 a;simp only[Va.row,cb,eH,oP]at hu;rcases hu with rfl|rfl|rfl|rfl<;>rfl

theorem MS{p:Option Ch}{c:Ch}(h:fP p c=0):fP none c=0:=by
 unfold fP at*;split at h
 ·exact absurd h om
 ·rename_i h1;rw[aq h1];split at h
  ·exact absurd h om
  ·rename_i a;rw[aq a];split at h
   ·exact absurd h om
   ·rename_i b;rw[aq b,aq];rintro⟨q,d,_⟩;cases d

def nE(l:List Ch)(v:List Va)(chan tick:Int)(raw:ByteArray):Except Int (List Va):=
 if(iK l).2=0/\sY l v=true/\vR raw=true then
  match Hn (fun c=>decide (c.id=chan)) 0 l with
  | .negSucc _=> .error 7
  | .ofNat i=>
   if 0<=tick/\tick<=1073741824 then
    match l[i]?,v[i]? with
    |some c,some u=>if tick<u.tick then .error 5 else .ok (v.set i ⟨chan,tick,xu c u (gN c raw) tick,rS (gN c raw)⟩)
    |_,_=> .error 0
   else .error 2
 else .error 1

theorem WW{w:World}{c:Ch}{p:Nat}{chan tick:Int}{raw:ByteArray}(h:w.heap[p]? =some (.cells [.int .i64 chan,.int .i64 tick,.string raw].toArray 204 (0,0))):
  Pure Tryz.prog 152 #[c.val,.pointer (some ⟨p,0,none⟩)] w fun v _=>v= .bool (decide (c.id=chan)):=
 F.qA.vc fun w1 x1=>⟨_,bz (ext_nil x1 h) rfl,rfl⟩

def Zc(r:Except Int (List Va))(n:Nat)(B:Nat)(y:Value)(w:World):Prop:=match r with
 | .error e=>y= .tuple #[.slice none 0 0,.int .i64 e]
 | .ok v=>∃A c,y= .tuple #[.slice A n c,.int .i64 0]/\ay w B 153 A n c 4 (v.map Va.row)

theorem oY{w:World}(hg:bj w){A A1:Option Addr}{n n1 c c1:Nat}{l:List Ch}{v:List Va}{chan tick:Int}{raw:ByteArray}(hl:bW w A 7 (l.map Ch.row))(hlen:l.length=n)(M:bW w A1 4 (v.map Va.row))(N:v.length=n1)(hn:n<2147483648)
  (B:∀x∈l,KS x) (nt:∀x∈v,SmV x) (hr:mO raw):
  Pure Tryz.prog 113 #[.slice A n c,.slice A1 n1 c1,.agg #[.int .i64 chan,.int .i64 tick,.string raw]] w (Zc (nE l v chan tick raw) n1 w.heap.size):=by
 refine F.oY.vc fun w1 x1=> ?_
 have d:=k0 x1;refine pm (kB (hg.next d) (hl.ar d lf) hlen B) ?_;rintro y w2 b2 rfl;have b:=kP d b2;refine⟨_,rfl,fun h=> ?_,fun h=> ?_⟩
 ·have r:¬(iK l).2=0:=kh h;unfold nE;rw[aq (fun k=>r k.1)];rfl
 have P:(iK l).2=0:=by
  apply bB;intro k;exact h (eL k)
 refine pm (dG (hg.next b) (hl.ar b lf) hlen (M.ar b lf) N hn nt) ?_;rintro y w3 b3 rfl;have C:=kP b b3;refine⟨_,rfl,fun h=> ?_,fun h=> ?_⟩
 ·unfold nE;rw[aq (fun k=>by rw[k.2.1]at h;cases h)];rfl
 have Q:sY l v=true:=by simpa using h
 refine pm (dN (hg.next C) raw om) ?_;rintro y w4 b4 rfl;have D:=kP C b4;refine⟨_,rfl,fun h=> ?_,fun h p hp jQ=> ?_⟩
 ·have r:vR raw=false:=h;unfold nE;rw[aq (fun k=>by rw[k.2.2]at r;cases r)];rfl
 have O:vR raw=true:=by simpa[vR]using h
 refine pm (Ml (hl.ar D lf) hlen hn (p:=fun c=>decide (c.id=chan)) kF fun w' Nw x=> ?_) ?_
 ·exact WW (ai jQ Nw)
 rintro y w5 b5 rfl;have Eg:=kP D b5;have Py:=ai jQ b5;obtain⟨Ig,R⟩:=Jy Q;rcases Ac (fun c=>decide (c.id=chan)) l 0 with⟨hi,_⟩|⟨i,x,hi,hx,hpx,_⟩
 ·rw[hi];refine⟨_,rfl,fun _=> ?_,fun h=>absurd om h⟩;have e:nE l v chan tick raw= .error 7:=by
   unfold nE;rw[bm ⟨P,Q,O⟩,hi];rfl
  rw[e];rfl
 rw[mC]at hi;have bK:i<l.length:=(ek.1 hx).1;have S:i<v.length:=om;obtain⟨u,hu⟩:∃u,v[i]? =some u:=⟨v[i],by simp[S]⟩
 have fu:=R i x u hx hu;obtain⟨aqt,E⟩:=rk P;obtain⟨⟨v1,v2,v3,v4,v5⟩,_,_⟩:=rm (E i x hx);have g:KS x:=B x (gr hx);have smu:SmV u:=nt u (gr hu);have G:(0<=u.tick/\u.tick<=1073741824)/\vR u.num=true:=by
  unfold yU at fu;simp only[de,kl]at fu;exact⟨fu.1.1.2,fu.1.2⟩
 have hT:nE l v chan tick raw=if 0<=tick/\tick<=1073741824 then(if tick<u.tick then .error 5 else .ok (v.set i ⟨chan,tick,xu x u (gN x raw) tick,rS (gN x raw)⟩))else .error 2:=by
  have IB:Hn (fun c=>decide (c.id=chan)) 0 l=Int.ofNat i:=hi;unfold nE;rw[bm ⟨P,Q,O⟩,IB];simp only[hx,hu]
 rw[hi,hT];refine⟨_,rfl,fun h=>absurd h om,fun _=>⟨_,bz Py rfl,pm (mj _ _) ?_⟩⟩;rintro y w6 b6 rfl;have Sq:=kP Eg b6;have H:=ai Py b6;refine⟨_,rfl,fun h=> ?_,fun h=> ?_⟩
 ·have r:¬(0<=tick/\tick<=1073741824):=kh h;rw[aq r];rfl
 have k4:0<=tick/\tick<=1073741824:=by
  apply bB;intro k;exact h (eL k)
 rw[bm k4];have z:((i:Int)).toNat=i:=cd i;obtain⟨q1,a,hA,ic⟩:=(M.ar Sq lf).load (n:=n1) (by simpa using N) (j:=(i:Int)) om om;obtain⟨_,m⟩:=ic u.row (by rw[z];simp[hu]) rfl;refine⟨_,bz H rfl,q1,a,hA,_,m 1 _ rfl,fun h w7 _=> ?_,fun h w7 x7=> ?_⟩
 ·rw[bm h];rfl
 rw[aq h];have I:=kE Sq x7;have J:=ext_nil x7 H;obtain⟨q2,a2,tp,SX⟩:=(hl.ar I lf).load (n:=n) (by simpa using hlen) (j:=(i:Int)) om om;obtain⟨ua,_⟩:=SX x.row (by rw[z];simp[hx]) rfl;refine⟨q2,a2,tp,_,_,_,_,_,_,_,ua,_,bz J rfl,fun w8 x8=> ?_⟩;have K:=kE I x8;have T:=ext_nil x8 J;refine pm (kY (hg.next K) g hr) ?_;rintro y w9 b9 rfl;have o:=kP K b9;have U:=ai T b9;refine⟨_,_,rfl,pm (abB (M.ar o lf) (by simpa using N) TH PJ om) ?_⟩;rintro y kg xr ⟨A3,c3,rfl,o3⟩;have q:=kP o xr;have V:=ai U xr;obtain⟨q3,a3,VY,W⟩:=(hl.ar q lf).load (n:=n) (by simpa using hlen) (j:=(i:Int)) om om;obtain⟨X,_⟩:=W x.row (by rw[z];simp[hx]) rfl;obtain⟨q4,a4,VZ,Y⟩:=(M.ar q lf).load (n:=n1) (by simpa using N) (j:=(i:Int)) om om;obtain⟨Dq,_⟩:=Y u.row (by rw[z];simp[hu]) rfl;refine⟨_,_,_,rfl,_,bz V rfl,_,bz V rfl,q3,a3,VY,_,_,_,_,_,_,_,X,q4,a4,VZ,_,_,_,_,Dq,_,bz V rfl,fun wS FJ=> ?_⟩;have OG:=kE q FJ;have Z:(iK [x]).2=0:=by
  have h0:=MS (E i x hx);unfold iK;rw[aq sm,YQ,aq (fun k=>k h0)];rfl
 have aj5:(ue x raw).1=rS (gN x raw):=by unfold ue;rw[bm ⟨Z,O⟩]
 rw[aj5];have sx:Sm 10000 (gN x raw):=(Mj g v1 v2 hr O).mono om;refine pm (cU (hg.next OG) g ⟨v3,v4,v5⟩ smu G.2 G.1 sx k4) ?_;rintro y Ez NV rfl;have o4:=(o3.lN FJ).below NV;obtain⟨q5,a5,hA5,cs,d1,d2,d3,d4,d5⟩:=o4.OP (i:=(i:Int)) om om [.int .i64 chan,.int .i64 tick,.int .i64 (xu x u (gN x raw) tick),.string (rS (gN x raw))] u.row (by rw[z];simp[hu]) rfl;have L:w.heap.size<=w9.heap.size:=o.size;refine⟨_,rfl,q5,a5,hA5,cs,_,ec L d1,d2,d3,d4,rfl,fun xQ oB=> ?_⟩;refine⟨A3,c3,rfl,?_⟩;have o5:=d5 xQ oB;rw[z]at o5;have afk:(List.map Va.row (v.set i ⟨chan,tick,xu x u (gN x raw) tick,rS (gN x raw)⟩))=(List.map Va.row v).set i [.int .i64 chan,.int .i64 tick,.int .i64 (xu x u (gN x raw) tick),.string (rS (gN x raw))]:=by
  rw[IK]
 rw[afk];exact o5.base L
end Go.Proofs.YtmdphpnaipbfjaaGreatDoor.B
