/- A symbolic executor of functions that make, turn and share memory: pieces of memory, expressions, symbolic values, loads, quiet operations. What it tells of a piece of code is proved to be what the machine does. -/
import Derived.ChangeKeysEq
import Derived.Laws.BytesString
import Derived.Laws.CopyRow
import Derived.Laws.Rows
import Derived.Laws.Strings
import Derived.Laws.Tables
import Derived.WalkKit
import Derived.Laws.MakeOwn
import Derived.Laws.OwnMore
set_option linter.unusedSimpArgs false
set_option linter.unusedVariables false
set_option linter.constructorNameAsVariable false
namespace Go.Sx
open Go
def kC {α β:Type} (f:Nat→α→β):Nat→List α→List β
 | _,[]=>[]
 | n,a::l=>f n a::kC f (n+1) l
theorem sU {α β:Type} {f:Nat→α→β} : ∀ {l:List α} {n j:Nat},(kC f n l)[j]?=(l[j]?).map (f (n+j))
 | [],_,_=>rfl
 | a::l,n,0=>rfl
 | a::l,n,j+1=>by
  show(kC f (n+1) l)[j]?=(l[j]?).map (f (n+(j+1)))
  rw[sU,show n+1+j=n+(j+1)by omega]
theorem jM {α β:Type} {f:Nat→α→β} {l:List α} {j:Nat} : (kC f 0 l)[j]?=(l[j]?).map (f j):=by
 rw[sU,Nat.zero_add]
@[simp] theorem uB {α β:Type} {f:Nat→α→β} : ∀ {l:List α} {n:Nat},(kC f n l).length=l.length
 | [],_=>rfl
 | a::l,n=>by simp [kC,uB (l:=l)]
def I5:List Nat→List Nat→Bool
 | [],[]=>true
 | a::l,b::m=>Nat.beq a b&&I5 l m
 | _,_=>false
abbrev Hl:=Nat→Option Obj
def Hl.cell (h:Hl) (x y:Nat):Option Value :=
 match h x with
 | some (.cells c _ _)=>c[y]?
 | _=>none
def Hl.sub (h:Hl) (w:World):Prop:=∀ (b:Nat) o,h b=some o→w.heap[b]?=some o
def Hl.mem (h:Hl) (b:Nat):Prop:=(h b).isSome=true
def Hl.ch (h k:Hl):Prop:=∀ b,¬(h.mem b∧k.mem b)
def Hl.one (b:Nat) (o:Obj):Hl:=fun c=>if c=b then some o else none
def Hl.none:Hl:=fun _=>Option.none
def Hl.all (w:World):Hl:=fun b=>w.heap[b]?
theorem Hl.bE (b:Nat) (o:Obj):Hl.one b o b=some o:=if_pos rfl
theorem Hl.jb {b c:Nat} {o p:Obj} (h:Hl.one b o c=some p):c=b∧p=o:=by
 unfold Hl.one at h;split at h
 ·exact⟨‹_›,(Option.some.inj h).symm⟩
 ·cases h
theorem Hl.cI {b c:Nat} {o:Obj} : (Hl.one b o).mem c↔c=b:=by
 unfold Hl.mem Hl.one;split<;>simp [*]
theorem Hl.fm {h:Hl} {w:World} (hs:h.sub w) {x y:Nat} {v:Value} (hc:h.cell x y=some v):w.cell? ⟨x,y,Option.none⟩=some v:=by
 unfold Hl.cell at hc
 split at hc
 ·rename_i hb;simp [World.cell?,hs _ _ hb,hc]
 ·cases hc
theorem Hl.Eu (w:World):(Hl.all w).sub w:=fun _ _ h=>h
theorem Hl.gJ {h k:Hl} (d:h.ch k):k.ch h:=fun b ⟨x,y⟩=>d b ⟨y,x⟩
inductive Kd | int (k:IntKind) | bool | slice | ptr | str | map | any
 deriving DecidableEq
structure Env where
 i:Nat→Int
 b:Nat→Bool
 s:Nat→ByteArray
 v:Nat→Value
 h:Nat→Hl
inductive E where
 | lit (n:Int) | var (i:Nat)
 | add (a b:E) | sub (a b:E) | mul (a b:E) | quo (a b:E) | rem (a b:E)
 | wrap (k:IntKind) (a:E)
 | bits (op:BinOp) (k:IntKind) (a b:E)
 | shl (k:IntKind) (a b:E) | shr (k:IntKind) (a b:E)
 | tt | ff | bvar (i:Nat)
 | not (a:E) | and (a b:E) | or (a b:E)
 | ite (c a b:E)
 | lt (a b:E) | le (a b:E) | eq (a b:E) | beq (a b:E)
 | hI (h:Nat) (x y:E) (j:Nat) | hB (h:Nat) (x y:E) (j:Nat) | hP (h:Nat) (x y:E) (j which:Nat) | hS (h:Nat) (x y:E) (j:Nat) | his (h:Nat) (x y:E) (j:Nat) (k:Kd)
 | svar (i:Nat) | slit (s:ByteArray) | scat (a b:E) | sbyte (a:E) | sof (h:Nat) (x y l:E)
 | slen (a:E) | sat (a i:E) | sext (a i j:E) | seq (a b:E) | slt (a b:E)
 | hmlen (h:Nat) (x:E) | vint (v:Nat) | hby (h:Nat) (x y l:E) | hism (h:Nat) (x:E) | hks (h:Nat) (x y:E) (ks:List Kd)
 deriving DecidableEq
def kb (op:BinOp) (k:IntKind) (x y:Int):Int :=
 let a:=BitVec.ofInt k.bits x
 let b:=BitVec.ofInt k.bits y
 match op with
 | .and=>k.wrap (a &&&b).toNat
 | .or=>k.wrap (a |||b).toNat
 | .xor=>k.wrap (a ^^^ b).toNat
 | .andNot=>k.wrap (a &&&~~~b).toNat
 | _=>0
def Ie:Nat×Nat→Nat×Nat
 | (0,b)=>(b+1,0)
 | (a+1,b)=>(a,b+1)
def Er:Nat→Nat×Nat
 | 0=>(0,0)
 | n+1=>Ie (Er n)
theorem Ft:∀ s b a:Nat,a+b=s→∃ n,Er n=(a,b):=by
 intro s
 induction s with
 | zero=>intro b a h;exact⟨0,by rw[show a=0 by omega,show b=0 by omega];rfl⟩
 | succ s ih =>
  intro b
  induction b with
  | zero=>intro a h;obtain⟨n,hn⟩:=ih s 0 (by omega);exact⟨n+1,by rw[Er,hn,show a=s+1 by omega];rfl⟩
  | succ b ihb=>intro a h;obtain⟨n,hn⟩:=ihb (a+1) (by omega);exact⟨n+1,by rw[Er,hn];rfl⟩
def Il:Nat→Nat
 | 0=>0
 | n+1=>Il n+n+1
def FF (a b:Nat):Nat:=Il (a+b)+b
theorem Fu:∀ s b a:Nat,a+b=s→Er (Il s+b)=(a,b):=by
 intro s
 induction s with
 | zero=>intro b a h;rw[show a=0 by omega,show b=0 by omega];rfl
 | succ s ih =>
  intro b
  induction b with
  | zero=>intro a h;rw[show Il (s+1)+0=(Il s+s)+1 from rfl,Er,ih s 0 (by omega),show a=s+1 by omega];rfl
  | succ b ihb=>intro a h;rw[←Nat.add_assoc,Er,ihb (a+1) (by omega)];rfl
theorem xH (a b:Nat):Er (FF a b)=(a,b):=Fu _ b a rfl
def j8:Value→Int
 | .nilIface=>0
 | .iface _ _=>1
 | _=>2
theorem xJ {v:Value} (h:j8 v≤1):v=.nilIface∨∃ t x,v=.iface t x:=by
 cases v<;>simp [j8]at h ⊢
def ar (x y:Int):Option Addr:=if 0≤x then some ⟨x.toNat,y.toNat,none⟩else if x= -1 then none else some ⟨(-x-2).toNat,(Er y.toNat).1,some (Er y.toNat).2⟩
theorem aq {x y:Int} (h:0≤x):ar x y=some ⟨x.toNat,y.toNat,none⟩:=if_pos h
theorem cW (y:Int):ar (-1) y=none:=rfl
theorem D8 {x y:Int} (h:x≠ -1):(ar x y).isNone=false:=by unfold ar;split<;>simp
theorem fv (x y:Int):(ar x y).isNone=decide (x= -1):=by
 by_cases h:x= -1
 ·subst h;rfl
 ·rw[D8 h];simp [h]
theorem lE (a:Option Addr):∃ x y:Int,a=ar x y∧0≤y∧ -1≤y:=by
 cases a with
 | none=>exact⟨-1,0,rfl,by omega,by omega⟩
 | some q =>
  obtain⟨b,o,s⟩:=q
  cases s with
  | none=>exact⟨b,o,by simp [ar],by omega,by omega⟩
  | some s =>
   obtain⟨n,hn⟩:=Ft (o+s) s o rfl
   refine⟨-(b:Int)-2,n,?_,by omega,by omega⟩
   unfold ar
   rw[if_neg (by omega),if_neg (by omega),Int.toNat_natCast,hn,show(-(-(b:Int)-2)-2).toNat=b by omega]
def fg:Option Value→Int | some (.int _ n)=>n | _=>0
def vv:Option Value→Bool | some (.bool b)=>b | _=>false
def Ej:Option Value→ByteArray | some (.string s)=>s | _=>.empty
def cH:Option Value→Nat→Int
 | some (.slice none _ _),0=> -1
 | some (.slice (some ⟨b,_,none⟩) _ _),0=>b
 | some (.slice (some ⟨b,_,some _⟩) _ _),0=> -(b:Int)-2
 | some (.slice (some ⟨_,o,none⟩) _ _),1=>o
 | some (.slice (some ⟨_,o,some s⟩) _ _),1=>FF o s
 | some (.slice _ n _),2=>n
 | some (.slice _ _ c),3=>c
 | some (.pointer none),0=> -1
 | some (.pointer (some ⟨b,_,_⟩)),0=>b
 | some (.pointer (some ⟨_,o,_⟩)),1=>o
 | some (.map none),0=> -1
 | some (.map (some r)),0=>r
 | _,_=>0
def cx:Option Value→Kd→Bool
 | some (.int k _),.int k'=>k=k'
 | some (.bool _),.bool=>true
 | some (.string _),.str=>true
 | some (.slice _ _ _),.slice=>true
 | some (.pointer (some ⟨_,_,none⟩)),.ptr=>true
 | some (.pointer none),.ptr=>true
 | some (.map _),.map=>true
 | some _,.any=>true
 | _,_=>false
def bytesOf (ns:List Int):ByteArray:=ns.foldl (fun r n=>r.push (UInt8.ofNat n.toNat)) ByteArray.empty
def dV (h:Hl) (x y n:Nat):List Int:=(List.range n).map fun j=>fg (h.cell x (y+j))
def cN (h:Hl) (x y n:Nat):Bool:=(List.range n).all fun j=>cx (h.cell x (y+j)) (.int .u8)
def xk (h:Hl) (x:Nat):Nat→List Kd→Bool
 | _,[]=>true
 | y,k::l=>cx (h.cell x y) k&&xk h x (y+1) l
def isMap:Option Obj→Bool
 | some (.map _ _)=>true
 | _=>false
def yT:Option Obj→Int
 | some (.map es _)=>es.size
 | _=>0
def ev (ρ:Env):E→Int×Bool×ByteArray
 | .lit n=>(n,false,.empty)
 | .var i=>(ρ.i i,false,.empty)
 | .add a b=>((ev ρ a).1+(ev ρ b).1,false,.empty)
 | .sub a b=>((ev ρ a).1-(ev ρ b).1,false,.empty)
 | .mul a b=>((ev ρ a).1*(ev ρ b).1,false,.empty)
 | .quo a b=>((ev ρ a).1.tdiv (ev ρ b).1,false,.empty)
 | .rem a b=>((ev ρ a).1.tmod (ev ρ b).1,false,.empty)
 | .wrap k a=>(k.wrap (ev ρ a).1,false,.empty)
 | .bits op k a b=>(kb op k (ev ρ a).1 (ev ρ b).1,false,.empty)
 | .shl k a b=>(k.wrap ((ev ρ a).1*2 ^ (min (ev ρ b).1.toNat k.bits)),false,.empty)
 | .shr k a b=>((ev ρ a).1.fdiv (2 ^ (min (ev ρ b).1.toNat k.bits)),false,.empty)
 | .tt=>(0,true,.empty)
 | .ff=>(0,false,.empty)
 | .bvar i=>(0,ρ.b i,.empty)
 | .not a=>(0,!(ev ρ a).2.1,.empty)
 | .and a b=>(0,(ev ρ a).2.1&&(ev ρ b).2.1,.empty)
 | .or a b=>(0,(ev ρ a).2.1||(ev ρ b).2.1,.empty)
 | .ite c a b=>(if(ev ρ c).2.1 then(ev ρ a).1 else(ev ρ b).1,if(ev ρ c).2.1 then(ev ρ a).2.1 else(ev ρ b).2.1,if(ev ρ c).2.1 then(ev ρ a).2.2 else(ev ρ b).2.2)
 | .lt a b=>(0,decide ((ev ρ a).1<(ev ρ b).1),.empty)
 | .le a b=>(0,decide ((ev ρ a).1≤(ev ρ b).1),.empty)
 | .eq a b=>(0,decide ((ev ρ a).1=(ev ρ b).1),.empty)
 | .beq a b=>(0,(ev ρ a).2.1==(ev ρ b).2.1,.empty)
 | .hI h x y j=>(fg ((ρ.h h).cell (ev ρ x).1.toNat ((ev ρ y).1.toNat+j)),false,.empty)
 | .hB h x y j=>(0,vv ((ρ.h h).cell (ev ρ x).1.toNat ((ev ρ y).1.toNat+j)),.empty)
 | .hP h x y j k=>(cH ((ρ.h h).cell (ev ρ x).1.toNat ((ev ρ y).1.toNat+j)) k,false,.empty)
 | .hS h x y j=>(0,false,Ej ((ρ.h h).cell (ev ρ x).1.toNat ((ev ρ y).1.toNat+j)))
 | .his h x y j k=>(0,cx ((ρ.h h).cell (ev ρ x).1.toNat ((ev ρ y).1.toNat+j)) k,.empty)
 | .svar i=>(0,false,ρ.s i)
 | .slit s=>(0,false,s)
 | .scat a b=>(0,false,(ev ρ a).2.2++(ev ρ b).2.2)
 | .sbyte a=>(0,false,bytesOf [(ev ρ a).1])
 | .sof h x y l=>(0,false,bytesOf (dV (ρ.h h) (ev ρ x).1.toNat (ev ρ y).1.toNat (ev ρ l).1.toNat))
 | .slen a=>((ev ρ a).2.2.size,false,.empty)
 | .sat a i=>(((ev ρ a).2.2.data[(ev ρ i).1.toNat]?.getD 0).toNat,false,.empty)
 | .sext a i j=>(0,false,(ev ρ a).2.2.extract (ev ρ i).1.toNat (ev ρ j).1.toNat)
 | .seq a b=>(0,decide ((ev ρ a).2.2=(ev ρ b).2.2),.empty)
 | .slt a b=>(0,decide ((ev ρ a).2.2.data.toList<(ev ρ b).2.2.data.toList),.empty)
 | .hmlen h x=>(yT (ρ.h h (ev ρ x).1.toNat),false,.empty)
 | .vint v=>(j8 (ρ.v v),false,.empty)
 | .hism h x=>(0,isMap (ρ.h h (ev ρ x).1.toNat),.empty)
 | .hks h x y ks=>(0,xk (ρ.h h) (ev ρ x).1.toNat (ev ρ y).1.toNat ks,.empty)
 | .hby h x y l=>(0,cN (ρ.h h) (ev ρ x).1.toNat (ev ρ y).1.toNat (ev ρ l).1.toNat,.empty)
def ak (ρ:Env) (e:E):Int:=(ev ρ e).1
def bo (ρ:Env) (e:E):Bool:=(ev ρ e).2.1
def gT (ρ:Env) (e:E):ByteArray:=(ev ρ e).2.2
section
variable (ρ:Env) (a b c x y l:E)
theorem ah (n:Int):ak ρ (.lit n)=n:=rfl
theorem ai (i:Nat):ak ρ (.var i)=ρ.i i:=rfl
theorem aE:ak ρ (.add a b)=ak ρ a+ak ρ b:=rfl
theorem aI:ak ρ (.sub a b)=ak ρ a-ak ρ b:=rfl
theorem aK:ak ρ (.mul a b)=ak ρ a*ak ρ b:=rfl
theorem EM:ak ρ (.quo a b)=(ak ρ a).tdiv (ak ρ b):=rfl
theorem pF:ak ρ (.rem a b)=(ak ρ a).tmod (ak ρ b):=rfl
theorem ax (k:IntKind):ak ρ (.wrap k a)=k.wrap (ak ρ a):=rfl
theorem m7 (op:BinOp) (k:IntKind):ak ρ (.bits op k a b)=kb op k (ak ρ a) (ak ρ b):=rfl
theorem EN (k:IntKind):ak ρ (.shl k a b)=k.wrap (ak ρ a*2 ^ (min (ak ρ b).toNat k.bits)):=rfl
theorem uu (k:IntKind):ak ρ (.shr k a b)=(ak ρ a).fdiv (2 ^ (min (ak ρ b).toNat k.bits)):=rfl
theorem aF:ak ρ (.ite c a b)=if bo ρ c then ak ρ a else ak ρ b:=rfl
theorem aV (h j:Nat):ak ρ (.hI h x y j)=fg ((ρ.h h).cell (ak ρ x).toNat ((ak ρ y).toNat+j)):=rfl
theorem aT (h j k:Nat):ak ρ (.hP h x y j k)=cH ((ρ.h h).cell (ak ρ x).toNat ((ak ρ y).toNat+j)) k:=rfl
theorem C5:ak ρ (.slen a)=(gT ρ a).size:=rfl
theorem au (h:Nat):ak ρ (.hmlen h x)=yT (ρ.h h (ak ρ x).toNat):=rfl
theorem C6 (v:Nat):ak ρ (.vint v)=j8 (ρ.v v):=rfl
theorem cq:bo ρ .tt=true:=rfl
theorem dK:bo ρ .ff=false:=rfl
theorem bY (i:Nat):bo ρ (.bvar i)=ρ.b i:=rfl
theorem tP:bo ρ (.not a)=!bo ρ a:=rfl
theorem jE:bo ρ (.and a b)=(bo ρ a&&bo ρ b):=rfl
theorem pY:bo ρ (.or a b)=(bo ρ a||bo ρ b):=rfl
theorem Ez:bo ρ (.ite c a b)=if bo ρ c then bo ρ a else bo ρ b:=rfl
theorem iU:bo ρ (.lt a b)=decide (ak ρ a<ak ρ b):=rfl
theorem iT:bo ρ (.le a b)=decide (ak ρ a≤ak ρ b):=rfl
theorem nI:bo ρ (.eq a b)=decide (ak ρ a=ak ρ b):=rfl
theorem Ey:bo ρ (.beq a b)=(bo ρ a==bo ρ b):=rfl
theorem FP (h j:Nat):bo ρ (.hB h x y j)=vv ((ρ.h h).cell (ak ρ x).toNat ((ak ρ y).toNat+j)):=rfl
theorem tO (h j:Nat) (k:Kd):bo ρ (.his h x y j k)=cx ((ρ.h h).cell (ak ρ x).toNat ((ak ρ y).toNat+j)) k:=rfl
theorem tN (h:Nat):bo ρ (.hby h x y l)=cN (ρ.h h) (ak ρ x).toNat (ak ρ y).toNat (ak ρ l).toNat:=rfl
theorem Cm (h:Nat):bo ρ (.hism h x)=isMap (ρ.h h (ak ρ x).toNat):=rfl
theorem EA:bo ρ (.seq a b)=decide (gT ρ a=gT ρ b):=rfl
theorem aB (i:Nat):gT ρ (.svar i)=ρ.s i:=rfl
theorem aC (s:ByteArray):gT ρ (.slit s)=s:=rfl
theorem BS:gT ρ (.sbyte a)=bytesOf [ak ρ a]:=rfl
theorem aN (h:Nat):gT ρ (.sof h x y l)=bytesOf (dV (ρ.h h) (ak ρ x).toNat (ak ρ y).toNat (ak ρ l).toNat):=rfl
theorem D3:gT ρ (.sext a x y)=(gT ρ a).extract (ak ρ x).toNat (ak ρ y).toNat:=rfl
theorem GF (h j:Nat):gT ρ (.hS h x y j)=Ej ((ρ.h h).cell (ak ρ x).toNat ((ak ρ y).toNat+j)):=rfl
theorem aO:gT ρ (.ite c a b)=if bo ρ c then gT ρ a else gT ρ b:=rfl
end
section
variable (ρ:Env) (a b c x y l:E)
theorem bN:(bo ρ .tt=true)=True:=by simp [cq]
theorem bK:(bo ρ .ff=true)=False:=by simp [dK]
theorem aP (i:Nat):(bo ρ (.bvar i)=true)=(ρ.b i=true):=rfl
theorem ba:(bo ρ (.not a)=true)=¬(bo ρ a=true):=by simp [tP]
theorem bb:(bo ρ (.and a b)=true)=(bo ρ a=true∧bo ρ b=true):=by simp [jE]
theorem bM:(bo ρ (.or a b)=true)=(bo ρ a=true∨bo ρ b=true):=by simp [pY]
theorem bj:(bo ρ (.ite c a b)=true)=if bo ρ c=true then bo ρ a=true else bo ρ b=true:=by rw[Ez];split<;>rfl
theorem bJ:(bo ρ (.lt a b)=true)=(ak ρ a<ak ρ b):=by simp [iU]
theorem bI:(bo ρ (.le a b)=true)=(ak ρ a≤ak ρ b):=by simp [iT]
theorem bD:(bo ρ (.eq a b)=true)=(ak ρ a=ak ρ b):=by simp [nI]
theorem bd:(bo ρ (.beq a b)=true)=((bo ρ a=true)=(bo ρ b=true)):=by rw[Ey];cases bo ρ a<;>cases bo ρ b<;>simp
theorem bk:(bo ρ (.seq a b)=true)=(gT ρ a=gT ρ b):=by simp [EA]
theorem bL (h j:Nat):(bo ρ (.hB h x y j)=true)=(vv ((ρ.h h).cell (ak ρ x).toNat ((ak ρ y).toNat+j))=true):=rfl
theorem bg (h j:Nat) (k:Kd):(bo ρ (.his h x y j k)=true)=(cx ((ρ.h h).cell (ak ρ x).toNat ((ak ρ y).toNat+j)) k=true):=rfl
theorem bh (h:Nat) (ks:List Kd):(bo ρ (.hks h x y ks)=true)=(xk (ρ.h h) (ak ρ x).toNat (ak ρ y).toNat ks=true):=rfl
theorem bf (h:Nat):(bo ρ (.hby h x y l)=true)=(cN (ρ.h h) (ak ρ x).toNat (ak ρ y).toNat (ak ρ l).toNat=true):=rfl
theorem aQ (h:Nat):(bo ρ (.hism h x)=true)=(isMap (ρ.h h (ak ρ x).toNat)=true):=rfl
end
def mkNot:E→E
 | .tt=>.ff
 | .ff=>.tt
 | .not a=>a
 | a=>.not a
theorem cE (ρ:Env) (a:E):bo ρ (mkNot a)=!bo ρ a:=by
 unfold mkNot;split<;>simp [cq,dK,tP]
def mkAnd (a b:E):E :=
 match a,b with
 | .tt,b=>b
 | .ff,_=>.ff
 | a,.tt=>a
 | _,.ff=>.ff
 | a,b=>if a=b then a else .and a b
theorem aL (ρ:Env) (a b:E):bo ρ (mkAnd a b)=(bo ρ a&&bo ρ b):=by
 unfold mkAnd;split<;>try simp [cq,dK,jE]
 split
 ·rename_i h;rw[h];simp
 ·rfl
def mkOr (a b:E):E :=
 match a,b with
 | .tt,_=>.tt
 | .ff,b=>b
 | _,.tt=>.tt
 | a,.ff=>a
 | a,b=>if b=mkNot a then .tt else .or a b
theorem mD (ρ:Env) (a b:E):bo ρ (mkOr a b)=(bo ρ a||bo ρ b):=by
 unfold mkOr;split<;>try simp [cq,dK,pY]
 split
 ·rename_i h;rw[h,cE,cq];cases bo ρ a<;>rfl
 ·rfl
def yY (c a b:E):E :=
 match c,a,b with
 | .tt,a,_=>a
 | .ff,_,b=>b
 | c,.tt,.ff=>c
 | c,.tt,b=>mkOr c b
 | c,.ff,b=>mkAnd (mkNot c) b
 | c,a,.ff=>mkAnd c a
 | c,a,.tt=>mkOr (mkNot c) a
 | c,a,b=>if a=b then a else .ite c a b
theorem xZ (ρ:Env) (c a b:E):bo ρ (yY c a b)=if bo ρ c then bo ρ a else bo ρ b:=by
 unfold yY
 split<;>try simp only[cq,dK,mD,aL,cE,if_true,if_false,Bool.false_eq_true]
 case h_8 =>
  split
  ·rename_i h;subst h;simp
  ·rfl
 all_goals (split<;>simp_all)
def mkIte (c a b:E):E :=
 match c with
 | .tt=>a
 | .ff=>b
 | c=>if a=b then a else .ite c a b
theorem fC (ρ:Env) (c a b:E):ak ρ (mkIte c a b)=if bo ρ c then ak ρ a else ak ρ b:=by
 unfold mkIte
 split
 ·simp [cq]
 ·simp [dK]
 ·split
  ·rename_i h;subst h;simp
  ·rfl
def mkAdd:E→E→E
 | .lit a,.lit b=>.lit (a+b)
 | .lit a,b=>if a=0 then b else .add (.lit a) b
 | .add a (.lit b),.lit c=>.add a (.lit (b+c))
 | a,.lit b=>if b=0 then a else .add a (.lit b)
 | a,b=>.add a b
theorem cZ (ρ:Env) (a b:E):ak ρ (mkAdd a b)=ak ρ a+ak ρ b:=by
 unfold mkAdd;split<;>try rfl
 ·split
  ·rename_i h;subst h;simp [ah]
  ·rfl
 ·simp only[aE,ah];omega
 ·split
  ·rename_i h;subst h;simp [ah]
  ·rfl
def mkSub:E→E→E
 | .lit a,.lit b=>.lit (a-b)
 | a,.lit b=>if b=0 then a else .sub a (.lit b)
 | a,b=>if a=b then .lit 0 else .sub a b
theorem jr (ρ:Env) (a b:E):ak ρ (mkSub a b)=ak ρ a-ak ρ b:=by
 unfold mkSub;split<;>try rfl
 ·split
  ·rename_i h;subst h;simp [ah]
  ·rfl
 ·split
  ·rename_i h;subst h;simp [ah]
  ·rfl
def mkMul:E→E→E
 | .lit a,.lit b=>.lit (a*b)
 | .lit a,b=>if a=1 then b else .mul (.lit a) b
 | a,.lit b=>if b=1 then a else .mul a (.lit b)
 | a,b=>.mul a b
theorem jq (ρ:Env) (a b:E):ak ρ (mkMul a b)=ak ρ a*ak ρ b:=by
 unfold mkMul;split<;>try rfl
 ·split
  ·rename_i h;subst h;simp [ah]
  ·rfl
 ·split
  ·rename_i h;subst h;simp [ah]
  ·rfl
def mkWrap (k:IntKind):E→E
 | .lit a=>.lit (k.wrap a)
 | a=>.wrap k a
theorem jG (ρ:Env) (k:IntKind) (a:E):ak ρ (mkWrap k a)=k.wrap (ak ρ a):=by
 unfold mkWrap;split<;>rfl
def mkLt:E→E→E
 | .lit a,.lit b=>if a<b then .tt else .ff
 | a,b=>.lt a b
theorem fL (ρ:Env) (a b:E):bo ρ (mkLt a b)=decide (ak ρ a<ak ρ b):=by
 unfold mkLt;split
 ·split<;>rename_i h<;>simp [cq,dK,ah,h]<;>omega
 ·rfl
def mkLe:E→E→E
 | .lit a,.lit b=>if a≤b then .tt else .ff
 | a,b=>if a=b then .tt else .le a b
theorem aY (ρ:Env) (a b:E):bo ρ (mkLe a b)=decide (ak ρ a≤ak ρ b):=by
 unfold mkLe;split
 ·split<;>rename_i h<;>simp [cq,dK,ah,h]<;>omega
 ·split
  ·rename_i h;subst h;simp [cq]
  ·rfl
def mkEq:E→E→E
 | .lit a,.lit b=>if a=b then .tt else .ff
 | a,b=>if a=b then .tt else .eq a b
theorem dx (ρ:Env) (a b:E):bo ρ (mkEq a b)=decide (ak ρ a=ak ρ b):=by
 unfold mkEq;split
 ·split<;>rename_i h<;>simp [cq,dK,ah,h]
 ·split
  ·rename_i h;subst h;simp [cq]
  ·rfl
def Dp:E→E→E
 | .tt,b=>b
 | .ff,b=>mkNot b
 | a,.tt=>a
 | a,.ff=>mkNot a
 | a,b=>if a=b then .tt else .beq a b
theorem A3 (ρ:Env) (a b:E):bo ρ (Dp a b)=(bo ρ a==bo ρ b):=by
 unfold Dp;split<;>try simp only[cq,dK,cE]
 ·simp
 ·cases bo ρ b<;>rfl
 ·simp
 ·cases bo ρ a<;>rfl
 ·split
  ·rename_i h;subst h;simp [cq]
  ·rfl
def mkSeq:E→E→E
 | .slit a,.slit b=>if a=b then .tt else .ff
 | a,b=>if a=b then .tt else .seq a b
theorem nJ (ρ:Env) (a b:E):bo ρ (mkSeq a b)=decide (gT ρ a=gT ρ b):=by
 unfold mkSeq;split
 ·split<;>rename_i h<;>simp [cq,dK,aC,h]
 ·split
  ·rename_i h;subst h;simp [cq]
  ·rfl
def Az:E→E→E
 | .slit a,.slit b=>.slit (a++b)
 | a,b=>.scat a b
theorem tp (ρ:Env) (a b:E):gT ρ (Az a b)=gT ρ a++gT ρ b:=by
 unfold Az;split<;>rfl
def oP:E→E
 | .slit a=>.lit a.size
 | a=>.slen a
theorem ik (ρ:Env) (a:E):ak ρ (oP a)=(gT ρ a).size:=by
 unfold oP;split<;>rfl
def Dt:E→E→E
 | .slit a,.lit i=>.lit (a.data[i.toNat]?.getD 0).toNat
 | a,i=>.sat a i
theorem Bg (ρ:Env) (a i:E):ak ρ (Dt a i)=((gT ρ a).data[(ak ρ i).toNat]?.getD 0).toNat:=by
 unfold Dt;split<;>rfl
def Path (ρ:Env) (path:List E):Prop:=∀ e∈path,bo ρ e=true
def yW:Option Int→Option Int→Option Int
 | some a,some b=>some (max a b)
 | some a,none=>some a
 | none,b=>b
def Bw:Option Int→Option Int→Option Int
 | some a,some b=>some (min a b)
 | some a,none=>some a
 | none,b=>b
def Ip (e:E):E→Option Int
 | .le (.lit n) x=>if x=e then some n else none
 | .lt (.lit n) x=>if x=e then some (n+1)else none
 | .eq x (.lit n)=>if x=e then some n else none
 | .not (.lt x (.lit n))=>if x=e then some n else none
 | .not (.le x (.lit n))=>if x=e then some (n+1)else none
 | _=>none
def It (e:E):E→Option Int
 | .le x (.lit n)=>if x=e then some n else none
 | .lt x (.lit n)=>if x=e then some (n-1)else none
 | .eq x (.lit n)=>if x=e then some n else none
 | .not (.lt (.lit n) x)=>if x=e then some n else none
 | .not (.le (.lit n) x)=>if x=e then some (n-1)else none
 | _=>none
def HE (path:List E) (e:E):Option Int:=path.foldl (fun a f=>yW a (Ip e f)) none
def Iu (path:List E) (e:E):Option Int:=path.foldl (fun a f=>Bw a (It e f)) none
def lb (path:List E):E→Option Int
 | .lit n=>some n
 | .add a b=>yW (HE path (.add a b)) (match lb path a,lb path b with | some x,some y=>some (x+y) | _,_=>none)
 | .mul a (.lit k)=>yW (HE path (.mul a (.lit k))) (match lb path a with | some x=>if 0≤k then some (x*k)else none | none=>none)
 | .slen a=>yW (HE path (.slen a)) (some 0)
 | e=>HE path e
def ub (path:List E):E→Option Int
 | .lit n=>some n
 | .add a b=>Bw (Iu path (.add a b)) (match ub path a,ub path b with | some x,some y=>some (x+y) | _,_=>none)
 | .mul a (.lit k)=>Bw (Iu path (.mul a (.lit k))) (match ub path a with | some x=>if 0≤k then some (x*k)else none | none=>none)
 | e=>Iu path e
def GV:Option Int→Option Int→Bool
 | some a,some b=>decide (a≤b)
 | _,_=>false
def GW:Option Int→Option Int→Bool
 | some a,some b=>decide (a<b)
 | _,_=>false
def iY (path:List E) (e:E):Option Bool :=
 if path.contains e then some true else if path.contains (mkNot e)then some false else match e with
 | .le a b=>if GV (ub path a) (lb path b)then some true else if GW (ub path b) (lb path a)then some false else none
 | .lt a b=>if GW (ub path a) (lb path b)then some true else if GV (ub path b) (lb path a)then some false else none
 | .eq a b=>if GW (ub path a) (lb path b)||GW (ub path b) (lb path a)then some false else if GV (ub path a) (lb path b)&&GV (ub path b) (lb path a)then some true else none
 | _=>none
def known (path:List E) (e:E):Option Bool :=
 match e with
 | .tt=>some true
 | .ff=>some false
 | .not e=>(iY path e).map not
 | .and a b=>match iY path a,iY path b with
  | some true,some true=>some true
  | some false,_=>some false
  | _,some false=>some false
  | _,_=>iY path (.and a b)
 | .or a b=>match iY path a,iY path b with
  | some false,some false=>some false
  | some true,_=>some true
  | _,some true=>some true
  | _,_=>iY path (.or a b)
 | e=>iY path e
section
variable {ρ:Env} {path:List E}
theorem Bl {e f:E} {n:Int} (hf:bo ρ f=true) (h:Ip e f=some n):n≤ak ρ e:=by
 unfold Ip at h
 split at h<;>first | (cases h;done) | skip
 all_goals (split at h<;>first | (cases h;done) | skip)
 all_goals (cases h;rename_i he;subst he;simp only[bI,bJ,bD,ba,ah]at hf;omega)
theorem B1 {e f:E} {n:Int} (hf:bo ρ f=true) (h:It e f=some n):ak ρ e≤n:=by
 unfold It at h
 split at h<;>first | (cases h;done) | skip
 all_goals (split at h<;>first | (cases h;done) | skip)
 all_goals (cases h;rename_i he;subst he;simp only[bI,bJ,bD,ba,ah]at hf;omega)
theorem pH {a b:Option Int} {x:Int} (ha:∀ n,a=some n→n≤x) (hb:∀ n,b=some n→n≤x):∀ n,yW a b=some n→n≤x:=by
 intro n h
 unfold yW at h
 split at h
 ·cases h;have h1:=ha _ rfl;have h2:=hb _ rfl;omega
 ·cases h;exact ha _ rfl
 ·exact hb _ h
theorem uC {a b:Option Int} {x:Int} (ha:∀ n,a=some n→x≤n) (hb:∀ n,b=some n→x≤n):∀ n,Bw a b=some n→x≤n:=by
 intro n h
 unfold Bw at h
 split at h
 ·cases h;have h1:=ha _ rfl;have h2:=hb _ rfl;omega
 ·cases h;exact ha _ rfl
 ·exact hb _ h
theorem lh (hp:Path ρ path) {e:E} : ∀ n,HE path e=some n→n≤ak ρ e:=by
 have key:∀ (l:List E) (a:Option Int),(∀ f∈l,bo ρ f=true)→(∀ n,a=some n→n≤ak ρ e)→∀ n,l.foldl (fun a f=>yW a (Ip e f)) a=some n→n≤ak ρ e:=by
  intro l
  induction l with
  | nil=>intro a _ ha n h;exact ha n h
  | cons f l ih =>
   intro a hl ha n h
   exact ih _ (fun g hg=>hl g (List.mem_cons_of_mem _ hg)) (pH ha fun m hm=>Bl (hl f (List.mem_cons_self ..)) hm) n h
 exact key path none hp (fun n h=>by cases h)
theorem ow (hp:Path ρ path) {e:E} : ∀ n,Iu path e=some n→ak ρ e≤n:=by
 have key:∀ (l:List E) (a:Option Int),(∀ f∈l,bo ρ f=true)→(∀ n,a=some n→ak ρ e≤n)→∀ n,l.foldl (fun a f=>Bw a (It e f)) a=some n→ak ρ e≤n:=by
  intro l
  induction l with
  | nil=>intro a _ ha n h;exact ha n h
  | cons f l ih =>
   intro a hl ha n h
   exact ih _ (fun g hg=>hl g (List.mem_cons_of_mem _ hg)) (uC ha fun m hm=>B1 (hl f (List.mem_cons_self ..)) hm) n h
 exact key path none hp (fun n h=>by cases h)
theorem gL (hp:Path ρ path):∀ (e:E) n,lb path e=some n→n≤ak ρ e:=by
 intro e
 fun_induction lb path e with
 | case1 m=>intro n h;cases h;rw[ah];omega
 | case2 a b iha ihb =>
  refine pH (lh hp) fun n h=>?_
  split at h
  ·rename_i x y hx hy;cases h;have h1:=iha _ hx;have h2:=ihb _ hy;rw[aE];omega
  ·cases h
 | case3 a k iha =>
  refine pH (lh hp) fun n h=>?_
  split at h
  ·rename_i x hx
   split at h
   ·cases h;have h1:=iha _ hx;rw[aK,ah];exact Int.mul_le_mul_of_nonneg_right h1 ‹_›
   ·cases h
  ·cases h
 | case4 a =>
  refine pH (lh hp) fun n h=>?_
  cases h;rw[C5];omega
 | case5 e=>exact lh hp
theorem gQ (hp:Path ρ path):∀ (e:E) n,ub path e=some n→ak ρ e≤n:=by
 intro e
 fun_induction ub path e with
 | case1 m=>intro n h;cases h;rw[ah];omega
 | case2 a b iha ihb =>
  refine uC (ow hp) fun n h=>?_
  split at h
  ·rename_i x y hx hy;cases h;have h1:=iha _ hx;have h2:=ihb _ hy;rw[aE];omega
  ·cases h
 | case3 a k iha =>
  refine uC (ow hp) fun n h=>?_
  split at h
  ·rename_i x hx
   split at h
   ·cases h;have h1:=iha _ hx;rw[aK,ah];exact Int.mul_le_mul_of_nonneg_right h1 ‹_›
   ·cases h
  ·cases h
 | case4 e=>exact ow hp
theorem lj {a b:Option Int} {x y:Int} (h:GV a b=true) (ha:∀ n,a=some n→x≤n) (hb:∀ n,b=some n→n≤y):x≤y:=by
 unfold GV at h;split at h
 ·have h1:=ha _ rfl;have h2:=hb _ rfl;simp only[decide_eq_true_eq]at h;omega
 ·cases h
theorem ln {a b:Option Int} {x y:Int} (h:GW a b=true) (ha:∀ n,a=some n→x≤n) (hb:∀ n,b=some n→n≤y):x<y:=by
 unfold GW at h;split at h
 ·have h1:=ha _ rfl;have h2:=hb _ rfl;simp only[decide_eq_true_eq]at h;omega
 ·cases h
theorem cj (hp:Path ρ path) {e:E} {t:Bool} (h:iY path e=some t):bo ρ e=t:=by
 unfold iY at h
 split at h
 ·rename_i hc;cases h;exact hp e (by simpa using hc)
 ·split at h
  ·rename_i hc
   cases h
   have:=hp _ (List.contains_iff_mem.1 hc)
   rw[cE]at this
   simpa using this
  ·split at h
   ·rename_i a b _ _
    split at h
    ·rename_i hc;cases h;have:=lj hc (gQ hp a) (gL hp b);rw[iT];simpa using this
    ·split at h
     ·rename_i hc;cases h;have:=ln hc (gQ hp b) (gL hp a);rw[iT];simp;omega
     ·cases h
   ·rename_i a b _ _
    split at h
    ·rename_i hc;cases h;have:=ln hc (gQ hp a) (gL hp b);rw[iU];simpa using this
    ·split at h
     ·rename_i hc;cases h;have:=lj hc (gQ hp b) (gL hp a);rw[iU];simp;omega
     ·cases h
   ·rename_i a b _ _
    split at h
    ·rename_i hc
     cases h
     rw[Bool.or_eq_true]at hc
     rw[nI]
     rcases hc with hc | hc
     ·have:=ln hc (gQ hp a) (gL hp b);simp;omega
     ·have:=ln hc (gQ hp b) (gL hp a);simp;omega
    ·split at h
     ·rename_i hc
      cases h
      rw[Bool.and_eq_true]at hc
      have h1:=lj hc.1 (gQ hp a) (gL hp b)
      have h2:=lj hc.2 (gQ hp b) (gL hp a)
      rw[nI];simp;omega
     ·cases h
   ·cases h
theorem dg (hp:Path ρ path) {e:E} {t:Bool} (h:known path e=some t):bo ρ e=t:=by
 unfold known at h
 split at h
 ·cases h;rfl
 ·cases h;rfl
 ·simp only[Option.map_eq_some_iff]at h
  obtain⟨b,hb,rfl⟩:=h
  rw[tP,cj hp hb]
 ·split at h
  ·rename_i h1 h2;cases h;rw[jE,cj hp h1,cj hp h2];rfl
  ·rename_i h1;cases h;rw[jE,cj hp h1];rfl
  ·rename_i h1 _;cases h;rw[jE,cj hp h1];simp
  ·exact cj hp h
 ·split at h
  ·rename_i h1 h2;cases h;rw[pY,cj hp h1,cj hp h2];rfl
  ·rename_i h1;cases h;rw[pY,cj hp h1];rfl
  ·rename_i h1 _;cases h;rw[pY,cj hp h1];simp
  ·exact cj hp h
 ·exact cj hp h
end
inductive CV where
 | int (k:IntKind) (e:E) | bool (e:E) | str (e:E)
 | pti (a o s n:Nat) (i:E)
 | hptr (x y:E) | sl (x y l c:E) | map (x:E)
 | vr (j:Nat) | hv (h:Nat) (x y:E) (j:Nat)
 | val (v:Value)
 | clo (f:Nat) (x:E)
inductive SV where | one (c:CV) | agg (l:List CV)
inductive TV where | sv (s:SV) | tup (l:List SV)
def CV.ev (ρ:Env):CV→Value
 | .int k e=>.int k (ak ρ e)
 | .bool e=>.bool (bo ρ e)
 | .str e=>.string (gT ρ e)
 | .pti a o s _ i=>.pointer (ar (ρ.i a) ((o:Int)+(s:Int)*ak ρ i))
 | .hptr x y=>.pointer (ar (ak ρ x) (ak ρ y))
 | .sl x y l c=>.slice (ar (ak ρ x) (ak ρ y)) (ak ρ l).toNat (ak ρ c).toNat
 | .map x=>.map (if ak ρ x= -1 then none else some (ak ρ x).toNat)
 | .vr j=>ρ.v j
 | .hv h x y j=>((ρ.h h).cell (ak ρ x).toNat ((ak ρ y).toNat+j)).getD (.bool false)
 | .val v=>v
 | .clo f x=>.func (.func f) #[] #[.pointer (ar (ak ρ x) 0)]
def SV.ev (ρ:Env):SV→Value
 | .one c=>c.ev ρ
 | .agg l=>.agg (l.map (CV.ev ρ)).toArray
def TV.ev (ρ:Env):TV→Value
 | .sv s=>s.ev ρ
 | .tup l=>.tuple (l.map (SV.ev ρ)).toArray
def fE:Value→CV
 | .int k n=>.int k (.lit n)
 | .bool true=>.bool .tt
 | .bool false=>.bool .ff
 | .string s=>.str (.slit s)
 | .slice none n c=>.sl (.lit (-1)) (.lit 0) (.lit n) (.lit c)
 | .pointer none=>.hptr (.lit (-1)) (.lit 0)
 | .map none=>.map (.lit (-1))
 | v=>.val v
theorem wG (ρ:Env) (v:Value):(fE v).ev ρ=v:=by
 unfold fE;split<;>rfl
def lift:Value→TV
 | .agg cs=>.sv (.agg (cs.toList.map fE))
 | v=>.sv (.one (fE v))
theorem gr (ρ:Env) (l:List Value):(l.map fE).map (CV.ev ρ)=l:=by
 induction l with
 | nil=>rfl
 | cons v l ih=>simp only[List.map_cons,wG,ih]
theorem Av (ρ:Env) (v:Value):(lift v).ev ρ=v:=by
 unfold lift;split
 ·simp only[TV.ev,SV.ev,gr]
 ·exact wG ρ v
def xn:Value→Value→Bool
 | .nilFunc,.nilFunc=>true
 | .nilIface,.nilIface=>true
 | .func (.func f) a b,.func (.func g) c d=>f==g&&a.isEmpty&&b.isEmpty&&c.isEmpty&&d.isEmpty
 | _,_=>false
theorem rD {a b:Value} (h:xn a b=true):a=b:=by
 unfold xn at h;split at h<;>simp_all
def lr (c:E):CV→CV→Option CV
 | .int k e,.int k' e'=>if k=k' then some (.int k (mkIte c e e'))else none
 | .bool e,.bool e'=>some (.bool (yY c e e'))
 | .hptr x y,.hptr x' y'=>some (.hptr (mkIte c x x') (mkIte c y y'))
 | .sl x y l k,.sl x' y' l' k'=>some (.sl (mkIte c x x') (mkIte c y y') (mkIte c l l') (mkIte c k k'))
 | .map x,.map x'=>some (.map (mkIte c x x'))
 | .vr j,.vr k=>if j=k then some (.vr j)else none
 | .val v,.val v'=>if xn v v' then some (.val v)else none
 | _,_=>none
theorem jN {ρ:Env} {c:E} {a b v:CV} (h:lr c a b=some v):v.ev ρ=if bo ρ c then a.ev ρ else b.ev ρ:=by
 unfold lr at h
 split at h
 ·split at h
  ·rename_i hk;subst hk;cases h;simp only[CV.ev,fC];split<;>rfl
  ·cases h
 ·cases h;simp only[CV.ev,xZ];split<;>rfl
 ·cases h;simp only[CV.ev,fC];split<;>rfl
 ·cases h;simp only[CV.ev,fC];split<;>rfl
 ·cases h;simp only[CV.ev,fC];split<;>rfl
 ·split at h
  ·rename_i hk;subst hk;cases h;simp
  ·cases h
 ·split at h
  ·rename_i hv;cases h;simp [CV.ev,rD hv]
  ·cases h
 ·cases h
def nU (c:E):List CV→List CV→Option (List CV)
 | [],[]=>some []
 | a::l,b::m=>match lr c a b,nU c l m with
  | some v,some r=>some (v::r)
  | _,_=>none
 | _,_=>none
theorem sV {ρ:Env} {c:E} : ∀ {l m r:List CV},nU c l m=some r→r.map (CV.ev ρ)=if bo ρ c then l.map (CV.ev ρ)else m.map (CV.ev ρ)
 | [],[],r,h=>by cases h;simp
 | a::l,b::m,r,h=>by
  unfold nU at h
  split at h
  ·rename_i v r' h1 h2
   cases h
   have e1:=jN (ρ:=ρ) h1
   have e2:=sV (ρ:=ρ) h2
   simp only[List.map_cons,e1,e2]
   split<;>rfl
  ·cases h
 | [],_::_,_,h=>by simp [nU]at h
 | _::_,[],_,h=>by simp [nU]at h
def pI (c:E):SV→SV→Option SV
 | .one a,.one b=>(lr c a b).map .one
 | .agg l,.agg m=>(nU c l m).map .agg
 | _,_=>none
theorem qO {ρ:Env} {c:E} {a b v:SV} (h:pI c a b=some v):v.ev ρ=if bo ρ c then a.ev ρ else b.ev ρ:=by
 unfold pI at h
 split at h
 ·simp only[Option.map_eq_some_iff]at h
  obtain⟨x,hx,rfl⟩:=h
  exact jN hx
 ·simp only[Option.map_eq_some_iff]at h
  obtain⟨x,hx,rfl⟩:=h
  simp only[SV.ev,sV hx]
  split<;>rfl
 ·cases h
def E.upto (n:Nat):E→Bool
 | .lit _ | .tt | .ff | .slit _=>true
 | .var i | .bvar i | .svar i | .vint i=>decide (i<n)
 | .add a b | .sub a b | .mul a b | .quo a b | .rem a b | .bits _ _ a b | .shl _ a b | .shr _ a b | .and a b | .or a b | .lt a b | .le a b | .eq a b | .beq a b | .scat a b | .sat a b | .seq a b | .slt a b=>a.upto n&&b.upto n
 | .wrap _ a | .not a | .sbyte a | .slen a=>a.upto n
 | .ite c a b | .sext c a b=>c.upto n&&a.upto n&&b.upto n
 | .hks h x y _ | .hI h x y _ | .hB h x y _ | .hP h x y _ _ | .his h x y _ _ | .hS h x y _=>decide (h<n)&&x.upto n&&y.upto n
 | .sof h x y l | .hby h x y l=>decide (h<n)&&x.upto n&&y.upto n&&l.upto n
 | .hmlen h x | .hism h x=>decide (h<n)&&x.upto n
structure ae (n:Nat) (ρ ρ':Env):Prop where
 i:∀ k,k<n→ρ'.i k=ρ.i k
 b:∀ k,k<n→ρ'.b k=ρ.b k
 s:∀ k,k<n→ρ'.s k=ρ.s k
 v:∀ k,k<n→ρ'.v k=ρ.v k
 h:∀ k,k<n→ρ'.h k=ρ.h k
theorem ae.refl (n:Nat) (ρ:Env):ae n ρ ρ:=⟨fun _ _=>rfl,fun _ _=>rfl,fun _ _=>rfl,fun _ _=>rfl,fun _ _=>rfl⟩
theorem ae.trans {n:Nat} {a b c:Env} (h:ae n a b) (k:ae n b c):ae n a c :=
 ⟨fun i hi=>(k.i i hi).trans (h.i i hi),fun i hi=>(k.b i hi).trans (h.b i hi),fun i hi=>(k.s i hi).trans (h.s i hi),fun i hi=>(k.v i hi).trans (h.v i hi),fun i hi=>(k.h i hi).trans (h.h i hi)⟩
theorem ae.mono {n m:Nat} {a b:Env} (h:ae n a b) (hm:m≤n):ae m a b:=⟨fun i hi=>h.i i (by omega),fun i hi=>h.b i (by omega),fun i hi=>h.s i (by omega),fun i hi=>h.v i (by omega),fun i hi=>h.h i (by omega)⟩
theorem qq {n:Nat} {ρ ρ':Env} (h:ae n ρ ρ'):∀ e:E,e.upto n=true→ev ρ' e=ev ρ e:=by
 intro e
 induction e with
 | var i=>intro hb;simp only[E.upto,decide_eq_true_eq]at hb;simp only[ev,h.i i hb]
 | bvar i=>intro hb;simp only[E.upto,decide_eq_true_eq]at hb;simp only[ev,h.b i hb]
 | svar i=>intro hb;simp only[E.upto,decide_eq_true_eq]at hb;simp only[ev,h.s i hb]
 | vint i=>intro hb;simp only[E.upto,decide_eq_true_eq]at hb;simp only[ev,h.v i hb]
 | lit _=>intro _;rfl
 | slit _=>intro _;rfl
 | tt=>intro _;rfl
 | ff=>intro _;rfl
 | wrap k a ih=>intro hb;simp only[E.upto]at hb;simp only[ev,ih hb]
 | not a ih=>intro hb;simp only[E.upto]at hb;simp only[ev,ih hb]
 | sbyte a ih=>intro hb;simp only[E.upto]at hb;simp only[ev,ih hb]
 | slen a ih=>intro hb;simp only[E.upto]at hb;simp only[ev,ih hb]
 | ite c a b ihc iha ihb=>intro hb;simp only[E.upto,Bool.and_eq_true]at hb;simp only[ev,ihc hb.1.1,iha hb.1.2,ihb hb.2]
 | sext c a b ihc iha ihb=>intro hb;simp only[E.upto,Bool.and_eq_true]at hb;simp only[ev,ihc hb.1.1,iha hb.1.2,ihb hb.2]
 | hI k x y j ihx ihy=>intro hb;simp only[E.upto,Bool.and_eq_true,decide_eq_true_eq]at hb;simp only[ev,ihx hb.1.2,ihy hb.2,h.h k hb.1.1]
 | hB k x y j ihx ihy=>intro hb;simp only[E.upto,Bool.and_eq_true,decide_eq_true_eq]at hb;simp only[ev,ihx hb.1.2,ihy hb.2,h.h k hb.1.1]
 | hS k x y j ihx ihy=>intro hb;simp only[E.upto,Bool.and_eq_true,decide_eq_true_eq]at hb;simp only[ev,ihx hb.1.2,ihy hb.2,h.h k hb.1.1]
 | hP k x y j q ihx ihy=>intro hb;simp only[E.upto,Bool.and_eq_true,decide_eq_true_eq]at hb;simp only[ev,ihx hb.1.2,ihy hb.2,h.h k hb.1.1]
 | his k x y j q ihx ihy=>intro hb;simp only[E.upto,Bool.and_eq_true,decide_eq_true_eq]at hb;simp only[ev,ihx hb.1.2,ihy hb.2,h.h k hb.1.1]
 | hism k x ihx=>intro hb;simp only[E.upto,Bool.and_eq_true,decide_eq_true_eq]at hb;simp only[ev,ihx hb.2,h.h k hb.1]
 | hmlen k x ihx=>intro hb;simp only[E.upto,Bool.and_eq_true,decide_eq_true_eq]at hb;simp only[ev,ihx hb.2,h.h k hb.1]
 | hks k x y ks ihx ihy=>intro hb;simp only[E.upto,Bool.and_eq_true,decide_eq_true_eq]at hb;simp only[ev,ihx hb.1.2,ihy hb.2,h.h k hb.1.1]
 | hby k x y l ihx ihy ihl=>intro hb;simp only[E.upto,Bool.and_eq_true,decide_eq_true_eq]at hb;simp only[ev,ihx hb.1.1.2,ihy hb.1.2,ihl hb.2,h.h k hb.1.1.1]
 | sof k x y l ihx ihy ihl=>intro hb;simp only[E.upto,Bool.and_eq_true,decide_eq_true_eq]at hb;simp only[ev,ihx hb.1.1.2,ihy hb.1.2,ihl hb.2,h.h k hb.1.1.1]
 | _=>rename_i iha ihb;intro hb;simp only[E.upto,Bool.and_eq_true]at hb;simp only[ev,iha hb.1,ihb hb.2]
theorem b9 {n:Nat} {ρ ρ':Env} (h:ae n ρ ρ') {e:E} (hb:e.upto n=true):ak ρ' e=ak ρ e:=by unfold ak;rw[qq h e hb]
theorem ie {n:Nat} {ρ ρ':Env} (h:ae n ρ ρ') {e:E} (hb:e.upto n=true):bo ρ' e=bo ρ e:=by unfold bo;rw[qq h e hb]
theorem oi {n:Nat} {ρ ρ':Env} (h:ae n ρ ρ') {e:E} (hb:e.upto n=true):gT ρ' e=gT ρ e:=by unfold gT;rw[qq h e hb]
def CV.upto (n:Nat):CV→Bool
 | .int _ e | .bool e | .str e | .map e=>e.upto n
 | .pti a _ _ _ i=>decide (a<n)&&i.upto n
 | .hptr x y=>x.upto n&&y.upto n
 | .sl x y l c=>x.upto n&&y.upto n&&l.upto n&&c.upto n
 | .vr j=>decide (j<n)
 | .hv h x y _=>decide (h<n)&&x.upto n&&y.upto n
 | .val _=>true
 | .clo _ x=>x.upto n
def SV.upto (n:Nat):SV→Bool
 | .one c=>c.upto n
 | .agg l=>l.all (·.upto n)
def TV.upto (n:Nat):TV→Bool
 | .sv s=>s.upto n
 | .tup l=>l.all (·.upto n)
theorem CV.agree {ρ ρ':Env} {m:Nat} (h:ae m ρ ρ') (c:CV) (hb:c.upto m=true):c.ev ρ'=c.ev ρ:=by
 cases c<;>simp only[CV.upto,Bool.and_eq_true,decide_eq_true_eq]at hb<;>simp only[CV.ev]
 ·rw[b9 h hb]
 ·rw[ie h hb]
 ·rw[oi h hb]
 ·rw[h.i _ hb.1,b9 h hb.2]
 ·rw[b9 h hb.1,b9 h hb.2]
 ·rw[b9 h hb.1.1.1,b9 h hb.1.1.2,b9 h hb.1.2,b9 h hb.2]
 ·rw[b9 h hb]
 ·rw[h.v _ hb]
 ·rw[b9 h hb.1.2,b9 h hb.2,h.h _ hb.1.1]
 ·rw[b9 h hb]
theorem CV.dJ {ρ ρ':Env} {m:Nat} (h:ae m ρ ρ') (l:List CV) (hb:l.all (·.upto m)=true):l.map (CV.ev ρ')=l.map (CV.ev ρ):=by
 rw[List.all_eq_true]at hb
 exact List.map_congr_left fun c hc=>CV.agree h c (hb c hc)
theorem SV.agree {ρ ρ':Env} {m:Nat} (h:ae m ρ ρ') (s:SV) (hb:s.upto m=true):s.ev ρ'=s.ev ρ:=by
 cases s with
 | one c=>exact CV.agree h c hb
 | agg l=>simp only[SV.ev,CV.dJ h l hb]
theorem TV.agree {ρ ρ':Env} {m:Nat} (h:ae m ρ ρ') (s:TV) (hb:s.upto m=true):s.ev ρ'=s.ev ρ:=by
 cases s with
 | sv c=>exact SV.agree h c hb
 | tup l =>
  simp only[TV.upto,List.all_eq_true]at hb
  simp only[TV.ev,List.map_congr_left fun c hc=>SV.agree h c (hb c hc)]
theorem TV.dJ {ρ ρ':Env} {m:Nat} (h:ae m ρ ρ') (l:List TV) (hb:l.all (·.upto m)=true):l.map (TV.ev ρ')=l.map (TV.ev ρ):=by
 rw[List.all_eq_true]at hb
 exact List.map_congr_left fun c hc=>TV.agree h c (hb c hc)
theorem Path.agree {ρ ρ':Env} {m:Nat} {path:List E} (h:ae m ρ ρ') (hp:Path ρ path) (hb:path.all (·.upto m)=true):Path ρ' path:=by
 rw[List.all_eq_true]at hb
 intro e he
 rw[ie h (hb e he)];exact hp e he
end Go.Sx
namespace Go.Sx
open Go
inductive bc where
 | aS (a:Nat) (l:List CV) (T:TypeId)
 | hp (k:Nat) (vers:List Nat) (tags links:List E)
 | ro (k:Nat) (tags:List E) (any:Bool)
 | dead
def bc.own:bc→Bool
 | .ro _ _ _=>false
 | _=>true
def bc.hl (ρ:Env):bc→Hl
 | .aS a l T=>Hl.one (ρ.i a).toNat (.cells (l.map (CV.ev ρ)).toArray T (0,0))
 | .hp k _ _ _=>ρ.h k
 | .ro k _ _=>ρ.h k
 | .dead=>Hl.none
def bc.pos (ρ:Env):bc→Prop
 | .aS a _ _=>0≤ρ.i a
 | _=>True
def bc.same (ρ ρ':Env) (r:bc):Prop:=r.hl ρ'=r.hl ρ∧(r.pos ρ→r.pos ρ')
abbrev Mem:=List bc
structure St where
 tmps:List (Option TV)
 mem:Mem
 nv:Nat
 path:List E
structure vG (S:Nat→Prop) (w0 w:World):Prop where
 os:w.os=w0.os
 tape:w.tape=w0.tape
 output:w.output=w0.output
 size:w0.heap.size≤w.heap.size
 block:∀ k,k<w0.heap.size→¬S k→w.heap[k]?=w0.heap[k]?
theorem vG.refl (S:Nat→Prop) (w:World):vG S w w:=⟨rfl,rfl,rfl,Nat.le_refl _,fun _ _ _=>rfl⟩
theorem vG.below {S:Nat→Prop} {w w':World} (h:RowKit.Below w.heap.size w w'):vG S w w':=⟨h.os,h.tape,h.output,h.size,fun k hk _=>h.block k hk⟩
structure MRel (S:Nat→Prop) (w0:World) (ρ:Env) (mem:Mem) (w:World):Prop where
 cV:vG S w0 w
 sub:∀ r∈mem,(r.hl ρ).sub w
 own:∀ r∈mem,r.own=true→∀ b,(r.hl ρ).mem b→S b∨w0.heap.size≤b
 ch:∀ (p q:Nat) r s,p≠q→mem[p]?=some r→mem[q]?=some s→r.own=true→(r.hl ρ).ch (s.hl ρ)
 pos:∀ r∈mem,r.pos ρ
structure Rel (S:Nat→Prop) (w0:World) (ρ:Env) (st:St) (a:Act) (w:World):Prop extends MRel S w0 ρ st.mem w where
 size:a.tmps.size=st.tmps.length
 defers:a.defers=[]
 tmp:∀ (t:Nat) (v:TV),st.tmps[t]?=some (some v)→a.tmps[t]?=some (v.ev ρ)
 path:Path ρ st.path
theorem Hl.sub_lt {h:Hl} {w:World} (hs:h.sub w) {b:Nat} (hb:h.mem b):b<w.heap.size:=by
 unfold Hl.mem at hb
 obtain⟨o,ho⟩:=Option.isSome_iff_exists.1 hb
 exact(Array.getElem?_eq_some_iff.1 (hs b o ho)).1
def bc.upto (n:Nat):bc→Bool
 | .aS a l _=>decide (a<n)&&l.all (·.upto n)
 | .hp k vers tags links=>decide (k<n)
 | .ro k tags _=>decide (k<n)
 | .dead=>true
def DJ {α:Type} (f:α→Bool):Option α→Bool
 | some x=>f x
 | none=>true
def Mem.upto (n:Nat) (m:Mem):Bool:=m.all (bc.upto n)
def St.upto (n:Nat) (st:St):Bool:=st.tmps.all (DJ (·.upto n))&&Mem.upto n st.mem&&st.path.all (·.upto n)
theorem bc.agree {ρ ρ':Env} {m:Nat} (h:ae m ρ ρ') (r:bc) (hb:r.upto m=true):r.hl ρ'=r.hl ρ:=by
 cases r<;>simp only[bc.upto,Bool.and_eq_true,decide_eq_true_eq]at hb<;>simp only[bc.hl]
 ·rw[h.i _ hb.1,CV.dJ h _ hb.2]
 ·rw[h.h _ hb]
 ·rw[h.h _ hb]
theorem bc.AX {ρ ρ':Env} {m:Nat} (h:ae m ρ ρ') (r:bc) (hb:r.upto m=true):r.pos ρ→r.pos ρ':=by
 cases r<;>simp only[bc.upto,Bool.and_eq_true,decide_eq_true_eq]at hb<;>simp only[bc.pos]
 ·rw[h.i _ hb.1];exact id
 all_goals (intro;trivial)
theorem Mem.agree {ρ ρ':Env} {m:Nat} (h:ae m ρ ρ') {mem:Mem} (hb:Mem.upto m mem=true):∀ r∈mem,r.same ρ ρ':=by
 unfold Mem.upto at hb
 rw[List.all_eq_true]at hb
 exact fun r hr=>⟨bc.agree h r (hb r hr),bc.AX h r (hb r hr)⟩
section
variable {S:Nat→Prop} {w0:World} {ρ ρ':Env} {st:St} {a:Act} {w w':World} {mem mem':Mem}
theorem MRel.GP (h:MRel S w0 ρ mem w) (U:Nat→Prop) (nw:Nat→Prop)
 (hU:∀ b,U b→∃ r∈mem,r.own=true∧(r.hl ρ).mem b)
 (ho:w'.os=w.os) (ht:w'.tape=w.tape) (hout:w'.output=w.output) (hs:w.heap.size≤w'.heap.size)
 (hb:∀ b,b<w.heap.size→¬U b→w'.heap[b]?=w.heap[b]?)
 (c1:∀ (p:Nat) r,mem'[p]?=some r→¬nw p→mem[p]?=some r∧r.same ρ ρ'∧∀ b,(r.hl ρ).mem b→¬U b)
 (c2:∀ (p:Nat) r,mem'[p]?=some r→nw p→((r.hl ρ').sub w'∧r.pos ρ')∧∀ b,(r.hl ρ').mem b→U b∨w.heap.size≤b)
 (c3:∀ (p q:Nat) r s,p≠q→nw p→nw q→mem'[p]?=some r→mem'[q]?=some s→r.own=true→(r.hl ρ').ch (s.hl ρ')):MRel S w0 ρ' mem' w':=by
 have hUo:∀ b,U b→S b∨w0.heap.size≤b:=fun b hb=>by
  obtain⟨r,hr,ho,hm⟩:=hU b hb;exact h.own r hr ho b hm
 refine⟨⟨ho.trans h.cV.os,ht.trans h.cV.tape,hout.trans h.cV.output,Nat.le_trans h.cV.size hs,fun k hk hS=>?_⟩,?_,?_,?_,?_⟩
 ·rw[hb k (Nat.lt_of_lt_of_le hk h.cV.size) (fun hu=>(hUo k hu).elim hS (fun h=>by omega))]
  exact h.cV.block k hk hS
 ·intro r hr
  obtain⟨p,hp⟩:=List.getElem?_of_mem hr
  by_cases hn:nw p
  ·exact(c2 p r hp hn).1.1
  ·obtain⟨e1,⟨e2,_⟩,e3⟩:=c1 p r hp hn
   rw[e2]
   intro b o hbo
   have hm:(r.hl ρ).mem b:=by unfold Hl.mem;rw[hbo];rfl
   have hs:=h.sub r (List.mem_of_getElem? e1)
   rw[hb b (Hl.sub_lt hs hm) (e3 b hm)]
   exact hs b o hbo
 ·intro r hr hown b hm
  obtain⟨p,hp⟩:=List.getElem?_of_mem hr
  by_cases hn:nw p
  ·rcases(c2 p r hp hn).2 b hm with hu | hl
   ·exact hUo b hu
   ·right;have:=h.cV.size;omega
  ·obtain⟨e1,⟨e2,_⟩,e3⟩:=c1 p r hp hn
   rw[e2]at hm
   exact h.own r (List.mem_of_getElem? e1) hown b hm
 ·intro p q r s hpq hp hq hown
  by_cases hn:nw p<;>by_cases hm:nw q
  ·exact c3 p q r s hpq hn hm hp hq hown
  ·obtain⟨e1,⟨e2,_⟩,e3⟩:=c1 q s hq hm
   obtain⟨f1,f2⟩:=c2 p r hp hn
   rintro b ⟨x,y⟩
   rw[e2]at y
   rcases f2 b x with hu | hl
   ·exact e3 b y hu
   ·have:=Hl.sub_lt (h.sub s (List.mem_of_getElem? e1)) y;omega
  ·obtain⟨e1,⟨e2,_⟩,e3⟩:=c1 p r hp hn
   obtain⟨f1,f2⟩:=c2 q s hq hm
   rintro b ⟨x,y⟩
   rw[e2]at x
   rcases f2 b y with hu | hl
   ·exact e3 b x hu
   ·have:=Hl.sub_lt (h.sub r (List.mem_of_getElem? e1)) x;omega
  ·obtain⟨e1,⟨e2,_⟩,e3⟩:=c1 p r hp hn
   obtain⟨f1,⟨f2,_⟩,f3⟩:=c1 q s hq hm
   rw[e2,f2]
   exact h.ch p q r s hpq e1 f1 hown
 ·intro r hr
  obtain⟨p,hp⟩:=List.getElem?_of_mem hr
  by_cases hn:nw p
  ·exact(c2 p r hp hn).1.2
  ·obtain⟨e1,⟨_,e2⟩,_⟩:=c1 p r hp hn
   exact e2 (h.pos r (List.mem_of_getElem? e1))
theorem MRel.set (h:MRel S w0 ρ mem w) {p:Nat} {r r':bc} (hp:mem[p]?=some r) (hr:r.own=true)
 (ho:w'.os=w.os) (ht:w'.tape=w.tape) (hout:w'.output=w.output) (hs:w.heap.size≤w'.heap.size)
 (hb:∀ b,b<w.heap.size→¬(r.hl ρ).mem b→w'.heap[b]?=w.heap[b]?)
 (hag:∀ s∈mem,s.same ρ ρ')
 (hsub:(r'.hl ρ').sub w') (hpos:r'.pos ρ') (hdom:∀ b,(r'.hl ρ').mem b→(r.hl ρ).mem b∨w.heap.size≤b):MRel S w0 ρ' (mem.set p r') w':=by
 have hlt:p<mem.length:=(List.getElem?_eq_some_iff.1 hp).1
 refine h.GP (fun b=>(r.hl ρ).mem b) (fun q=>q=p) (fun b hb=>⟨r,List.mem_of_getElem? hp,hr,hb⟩) ho ht hout hs hb ?_ ?_ ?_
 ·intro q s hq hn
  rw[List.getElem?_set_ne (fun e=>hn e.symm)]at hq
  exact⟨hq,hag s (List.mem_of_getElem? hq),fun b hb hu=>h.ch p q r s (fun e=>hn e.symm) hp hq hr b ⟨hu,hb⟩⟩
 ·intro q s hq hn
  rw[hn,List.getElem?_set_self hlt]at hq
  cases hq
  exact⟨⟨hsub,hpos⟩,hdom⟩
 ·intro q q' s s' hne h1 h2;exact absurd (h1.trans h2.symm) hne
theorem MRel.add (h:MRel S w0 ρ mem w) {r':bc}
 (ho:w'.os=w.os) (ht:w'.tape=w.tape) (hout:w'.output=w.output) (hs:w.heap.size≤w'.heap.size)
 (hb:∀ b,b<w.heap.size→w'.heap[b]?=w.heap[b]?)
 (hag:∀ s∈mem,s.same ρ ρ')
 (hsub:(r'.hl ρ').sub w') (hpos:r'.pos ρ') (hdom:∀ b,(r'.hl ρ').mem b→w.heap.size≤b):MRel S w0 ρ' (mem++[r']) w':=by
 refine h.GP (fun b=>False) (fun q=>q=mem.length) (fun b hb=>hb.elim) ho ht hout hs (fun b hl _=>hb b hl) ?_ ?_ ?_
 ·intro q s hq hn
  rw[List.getElem?_append]at hq
  split at hq
  ·exact⟨hq,hag s (List.mem_of_getElem? hq),fun _ _=>id⟩
  ·rw[List.getElem?_eq_none (by simp;omega)]at hq;cases hq
 ·intro q s hq hn
  rw[hn,List.getElem?_append_right (Nat.le_refl _),Nat.sub_self]at hq
  cases hq
  exact⟨⟨hsub,hpos⟩,fun b hb=>Or.inr (hdom b hb)⟩
 ·intro q q' s s' hne h1 h2;exact absurd (h1.trans h2.symm) hne
theorem MRel.agree (h:MRel S w0 ρ mem w) (hag:∀ s∈mem,s.same ρ ρ'):MRel S w0 ρ' mem w :=
 h.GP (fun _=>False) (fun _=>False) (fun _ h=>h.elim) rfl rfl rfl (Nat.le_refl _) (fun _ _ _=>rfl) (fun p r hp _=>⟨hp,hag r (List.mem_of_getElem? hp),fun _ _=>id⟩) (fun _ _ _ h=>h.elim) (fun _ _ _ _ _ h=>h.elim)
theorem MRel.below (h:MRel S w0 ρ mem w) (hb:RowKit.Below w.heap.size w w'):MRel S w0 ρ mem w' :=
 h.GP (fun _=>False) (fun _=>False) (fun _ h=>h.elim) hb.os hb.tape hb.output hb.size (fun b hl _=>hb.block b hl) (fun p r hp _=>⟨hp,⟨rfl,id⟩,fun _ _=>id⟩) (fun _ _ _ h=>h.elim) (fun _ _ _ _ _ h=>h.elim)
theorem MRel.sublist (h:MRel S w0 ρ mem w) (hm:∀ (p:Nat) r,mem'[p]?=some r→mem[p]?=some r∨r=.dead):MRel S w0 ρ mem' w:=by
 refine h.GP (fun _=>False) (fun p=>mem'[p]?=some .dead) (fun _ h=>h.elim) rfl rfl rfl (Nat.le_refl _) (fun _ _ _=>rfl) (fun p r hp hn=>⟨(hm p r hp).resolve_right (fun e=>hn (by rw[hp,e])),⟨rfl,id⟩,fun _ _=>id⟩) ?_ ?_
 ·intro p r hp hn
  rw[hp]at hn
  cases hn
  exact⟨⟨(fun b o hb=>by cases hb),trivial⟩,(fun b hb=>by cases hb)⟩
 ·intro p q r s _ hn _ hp _ _
  rw[hp]at hn
  cases hn
  rintro b ⟨x,_⟩
  cases x
theorem Rel.agree {m:Nat} (h:ae m ρ ρ') (hb:st.upto m=true) (hr:Rel S w0 ρ st a w):Rel S w0 ρ' st a w:=by
 simp only[St.upto,Bool.and_eq_true]at hb
 refine⟨hr.toMRel.agree (Mem.agree h hb.1.2),hr.size,hr.defers,fun t s hs=>?_,hr.path.agree h hb.2⟩
 have:=hb.1.1
 rw[List.all_eq_true]at this
 have:=this _ (List.mem_of_getElem? hs)
 simp only[DJ]at this
 rw[TV.agree h s this]
 exact hr.tmp t s hs
theorem Rel.rV {m:Nat} (h:ae m ρ ρ') (hb:st.upto m=true) (hr:Rel S w0 ρ st a w) {mem:Mem} (hm:MRel S w0 ρ' mem w') (nv:Nat):Rel S w0 ρ' {st with mem:=mem,nv:=nv} a w':=by
 have:=hr.agree h hb
 exact⟨hm,this.size,this.defers,this.tmp,this.path⟩
def cB (st:St):Operand→Option TV
 | .tmp t=>match st.tmps[t]? with
  | some (some s)=>some s
  | _=>none
 | .const v=>some (lift v)
 | .func f=>some (.sv (.one (.val (.func (.func f) #[] #[]))))
 | .global g=>some (.sv (.one (.hptr (.lit g) (.lit 0))))
theorem ay (h:Rel S w0 ρ st a w) {x:Operand} {v:TV} (ho:cB st x=some v):a.eval x=v.ev ρ:=by
 cases x with
 | tmp t =>
  simp only[cB]at ho
  split at ho
  ·rename_i s hs
   have:=h.tmp t s hs
   simp only[Option.some.injEq]at ho
   subst ho
   simp [Act.eval,this]
  ·cases ho
 | const v'=>simp only[cB,Option.some.injEq]at ho;rw[←ho,Av];rfl
 | func f=>simp only[cB,Option.some.injEq]at ho;rw[←ho];rfl
 | global g=>simp only[cB,Option.some.injEq]at ho;rw[←ho];rfl
def St.put (st:St) (d:Option Tmp) (v:Option TV):St :=
 match d with
 | some d=>{st with tmps:=st.tmps.set d v}
 | none=>st
theorem St.gE (st:St) (d:Option Tmp) (v:Option TV):(st.put d v).mem=st.mem:=by cases d<;>rfl
theorem St.uL (st:St) (d:Option Tmp) (v:Option TV):(st.put d v).nv=st.nv:=by cases d<;>rfl
theorem St.rm (st:St) (d:Option Tmp) (v:Option TV):(st.put d v).path=st.path:=by cases d<;>rfl
theorem Rel.put (h:Rel S w0 ρ st a w) (d:Option Tmp) (v:Option TV) (x:Value) (hx:∀ y,v=some y→x=y.ev ρ):Rel S w0 ρ (st.put d v) (a.put d x) w:=by
 cases d with
 | none=>exact h
 | some d =>
  refine⟨h.toMRel,?_,h.defers,?_,h.path⟩
  ·simp [Act.put,St.put,h.size]
  ·intro t s hs
   simp only[St.put]at hs
   simp only[Act.put]
   by_cases he:d=t
   ·subst he
    by_cases hlt:d<st.tmps.length
    ·rw[List.getElem?_set_self hlt]at hs
     simp only[Option.some.injEq]at hs
     rw[Array.getElem?_setIfInBounds_self_of_lt (by rw[h.size];exact hlt),hx s hs]
    ·rw[List.getElem?_eq_none (by simpa using hlt)]at hs;cases hs
   ·rw[List.getElem?_set_ne he]at hs
    rw[Array.getElem?_setIfInBounds_ne he]
    exact h.tmp t s hs
def rl (a:Nat):Mem→Nat→Option (Nat×List CV×TypeId)
 | [],_=>none
 | .aS b l T::m,p=>if b=a then some (p,l,T)else rl a m (p+1)
 | _::m,p=>rl a m (p+1)
theorem fT {a:Nat} : ∀ {mem:Mem} {p q:Nat} {l:List CV} {T:TypeId},rl a mem p=some (q,l,T)→p≤q∧mem[q-p]?=some (.aS a l T)
 | [],_,_,_,_,h=>by cases h
 | .aS b l' T'::m,p,q,l,T,h=>by
  unfold rl at h
  split at h
  ·rename_i e;subst e;cases h;exact⟨Nat.le_refl _,by simp⟩
  ·obtain⟨h1,h2⟩:=fT h
   exact⟨by omega,by rw[show q-p=(q-(p+1))+1 by omega,List.getElem?_cons_succ];exact h2⟩
 | .hp _ _ _ _::m,p,q,l,T,h=>by
  obtain⟨h1,h2⟩:=fT (mem:=m) (p:=p+1) h
  exact⟨by omega,by rw[show q-p=(q-(p+1))+1 by omega,List.getElem?_cons_succ];exact h2⟩
 | .ro _ _ _::m,p,q,l,T,h=>by
  obtain⟨h1,h2⟩:=fT (mem:=m) (p:=p+1) h
  exact⟨by omega,by rw[show q-p=(q-(p+1))+1 by omega,List.getElem?_cons_succ];exact h2⟩
 | .dead::m,p,q,l,T,h=>by
  obtain⟨h1,h2⟩:=fT (mem:=m) (p:=p+1) h
  exact⟨by omega,by rw[show q-p=(q-(p+1))+1 by omega,List.getElem?_cons_succ];exact h2⟩
def mT (mem:Mem) (a:Nat):Option (Nat×List CV×TypeId):=rl a mem 0
theorem dE {a p:Nat} {l:List CV} {T:TypeId} (h:mT mem a=some (p,l,T)):mem[p]?=some (.aS a l T):=by
 have:=(fT h).2;simpa using this
def bc.has (x:E):bc→Bool
 | .hp k vers tags _=>tags.contains x||(match x with | .hP h _ _ _ _=>h==k||vers.contains h | _=>false)
 | .ro k tags _=>tags.contains x||(match x with | .hP h _ _ _ _=>h==k | _=>false)
 | _=>false
def xd (x:E):Mem→Nat→Option (Nat×bc)
 | [],_=>none
 | r::m,p=>if r.has x then some (p,r)else xd x m (p+1)
theorem oW {x:E} : ∀ {mem:Mem} {p q:Nat} {r:bc},xd x mem p=some (q,r)→p≤q∧mem[q-p]?=some r
 | [],_,_,_,h=>by cases h
 | s::m,p,q,r,h=>by
  unfold xd at h
  split at h
  ·cases h;exact⟨Nat.le_refl _,by simp⟩
  ·obtain⟨h1,h2⟩:=oW h
   exact⟨by omega,by rw[show q-p=(q-(p+1))+1 by omega,List.getElem?_cons_succ];exact h2⟩
def bc.hk:bc→Option Nat
 | .hp k _ _ _=>some k
 | .ro k _ _=>some k
 | _=>none
theorem bc.Hz {r:bc} {k:Nat} (h:r.hk=some k):r.hl ρ=ρ.h k:=by cases r<;>simp [bc.hk]at h<;>simp [bc.hl,h]
def bc.IG:bc→Bool
 | .ro _ _ any=>any
 | _=>false
def kI:Mem→Nat→Option (Nat×bc)
 | [],_=>none
 | r::m,p=>if r.IG then some (p,r)else kI m (p+1)
theorem hZ:∀ {mem:Mem} {p q:Nat} {r:bc},kI mem p=some (q,r)→p≤q∧mem[q-p]?=some r
 | [],_,_,_,h=>by cases h
 | s::m,p,q,r,h=>by
  unfold kI at h
  split at h
  ·cases h;exact⟨Nat.le_refl _,by simp⟩
  ·obtain⟨h1,h2⟩:=hZ h
   exact⟨by omega,by rw[show q-p=(q-(p+1))+1 by omega,List.getElem?_cons_succ];exact h2⟩
def ug (mem:Mem) (x:E):Option (Nat×bc) :=
 match xd x mem 0 with
 | some (p,.ro k tags false)=>if tags.contains x then some (p,.ro k tags false)else match kI mem 0 with
  | some q=>some q
  | none=>some (p,.ro k tags false)
 | some r=>some r
 | none=>kI mem 0
theorem fy {x:E} {p:Nat} {r:bc} (h:ug mem x=some (p,r)):mem[p]?=some r:=by
 have any:∀ {p r},kI mem 0=some (p,r)→mem[p]?=some r:=fun h=>by
  have:=(hZ h).2;simpa using this
 have hp:∀ {p r},xd x mem 0=some (p,r)→mem[p]?=some r:=fun h=>by
  have:=(oW h).2;simpa using this
 unfold ug at h
 split at h
 ·rename_i hr
  split at h
  ·cases h;exact hp hr
  ·split at h
   ·rename_i hq;cases h;exact any hq
   ·cases h;exact hp hr
 ·rename_i hr
  cases h;exact hp hr
 ·exact any h
theorem oe {P:Program} {t:TypeId} {d:TypeDesc} (hu:P.underlying t=some d) (w:World):(isAgg t).run P w=.ok (match d with | .struct _ | .array _ _=>true | _=>false) w:=by
 unfold isAgg
 rw[Sem.run_bind,run_underlying hu w]
 cases d<;>rfl
def xN (P:Program) (t:TypeId):Option Bool :=
 match P.underlying t with
 | some (.struct _)=>some true
 | some (.array _ _)=>some true
 | some _=>some false
 | none=>none
theorem mA {P:Program} {t:TypeId} {b:Bool} (h:xN P t=some b) (w:World):(isAgg t).run P w=.ok b w:=by
 unfold xN at h
 split at h
 ·rename_i hu;cases h;exact oe hu w
 ·rename_i hu;cases h;exact oe hu w
 ·rename_i d hs ha hu
  cases h
  rw[oe hu w]
  cases d<;>first | rfl | (exact absurd rfl (hs _)) | (exact absurd rfl (ha _ _)) | (exact absurd hu (hs _)) | (exact absurd hu (ha _ _))
 ·cases h
def dd (P:Program) (t:TypeId):Option Nat:=(P.info? t).map (·.size)
theorem cO {P:Program} {t:TypeId} {n:Nat} (h:dd P t=some n) (w:World):(sizeOf t).run P w=.ok n w:=by
 unfold dd at h
 cases hi:P.info? t with
 | none=>simp [hi]at h
 | some i=>simp [hi]at h;subst h;simp [sizeOf,typeInfo,hi]
def iQ (P:Program) (t:TypeId):Option Value:=(P.info? t).bind (·.zero)
theorem jB {P:Program} {t:TypeId} {v:Value} (h:iQ P t=some v) (w:World):(zeroValue t).run P w=.ok v w:=by
 unfold iQ at h
 cases hi:P.info? t with
 | none=>simp [hi]at h
 | some i=>simp [hi]at h;simp [zeroValue,typeInfo,hi,h]
def dO (P:Program) (t:TypeId) (l:List CV) (o:Nat):Option SV :=
 match xN P t,dd P t with
 | some true,some n=>if o+n≤l.length then some (.agg ((l.drop o).take n))else none
 | some false,_=>(l[o]?).map .one
 | _,_=>none
theorem c7 (b o n:Nat):(⟨b,o,none⟩:Addr).add n=⟨b,o+n,none⟩:=by unfold Addr.add;split<;>simp_all
theorem lP {P:Program} {t:TypeId} {b o n:Nat} {cs:List Value} (ha:xN P t=some true) (hs:dd P t=some n) (hl:cs.length=n)
 (h:∀ j v,cs[j]?=some v→w.cell? ⟨b,o+j,none⟩=some v):(loadVar t ⟨b,o,none⟩).run P w=.ok (.agg cs.toArray) w:=by
 unfold loadVar
 simp only[Sem.run_bind,mA ha,Result.andThen_ok,if_true,cO hs]
 subst hl
 rw[run_loadCells_list w ⟨b,o,none⟩ cs (fun j v hv=>by rw[c7];exact h j v hv)]
 rfl
theorem oN {P:Program} {t:TypeId} {p:Addr} {v:Value} (ha:xN P t=some false) (h:w.cell? p=some v):(loadVar t p).run P w=.ok v w:=by
 unfold loadVar
 simp only[Sem.run_bind,mA ha,Result.andThen_ok,Bool.false_eq_true,if_false]
 simp [load,Sem.run,h]
theorem lO {P:Program} {t:TypeId} {l:List CV} {o b:Nat} {v:SV} {T:TypeId} {fr:Nat×Nat} (h:dO P t l o=some v)
 (hb:w.heap[b]?=some (.cells (l.map (CV.ev ρ)).toArray T fr)):(loadVar t ⟨b,o,none⟩).run P w=.ok (v.ev ρ) w:=by
 have hc:∀ j,w.cell? ⟨b,j,none⟩=(l[j]?).map (CV.ev ρ):=fun j=>by simp [World.cell?,hb]
 unfold dO at h
 split at h
 ·rename_i n ha hs
  split at h
  ·rename_i hle
   cases h
   refine lP (cs:=((l.drop o).take n).map (CV.ev ρ)) ha hs (by simp;omega) (fun j x hx=>?_)
   rw[hc]
   rw[List.getElem?_map,List.getElem?_take]at hx
   split at hx
   ·rwa[List.getElem?_drop]at hx
   ·simp at hx
  ·cases h
 ·rename_i ha
  simp only[Option.map_eq_some_iff]at h
  obtain⟨x,hx,rfl⟩:=h
  exact oN ha (by rw[hc,hx];rfl)
 ·cases h
theorem MRel.aS (h:MRel S w0 ρ mem w) {p a:Nat} {l:List CV} {T:TypeId} (hp:mem[p]?=some (.aS a l T)):w.heap[(ρ.i a).toNat]?=some (.cells (l.map (CV.ev ρ)).toArray T (0,0)) :=
 h.sub _ (List.mem_of_getElem? hp) _ _ (Hl.bE _ _)
end
end Go.Sx
namespace Go.Sx
open Go
abbrev TI (k:IntKind) (e:E):TV:=.sv (.one (.int k e))
abbrev TB (e:E):TV:=.sv (.one (.bool e))
abbrev TS (e:E):TV:=.sv (.one (.str e))
abbrev TP (x y:E):TV:=.sv (.one (.hptr x y))
def Du (k:IntKind):E→E→E
 | .lit a,.lit b=>.lit (k.wrap (a*2 ^ (min b.toNat k.bits)))
 | a,b=>.shl k a b
theorem Bh (ρ:Env) (k:IntKind) (a b:E):ak ρ (Du k a b)=k.wrap (ak ρ a*2 ^ (min (ak ρ b).toNat k.bits)):=by
 unfold Du;split<;>rfl
def Dv (k:IntKind):E→E→E
 | .lit a,.lit b=>.lit (a.fdiv (2 ^ (min b.toNat k.bits)))
 | a,b=>.shr k a b
theorem Bi (ρ:Env) (k:IntKind) (a b:E):ak ρ (Dv k a b)=(ak ρ a).fdiv (2 ^ (min (ak ρ b).toNat k.bits)):=by
 unfold Dv;split<;>rfl
def Dq:E→E→E
 | .lit a,.lit b=>.lit (a.tdiv b)
 | a,b=>.quo a b
theorem Be (ρ:Env) (a b:E):ak ρ (Dq a b)=(ak ρ a).tdiv (ak ρ b):=by unfold Dq;split<;>rfl
def Ds:E→E→E
 | .lit a,.lit b=>.lit (a.tmod b)
 | a,b=>.rem a b
theorem Bf (ρ:Env) (a b:E):ak ρ (Ds a b)=(ak ρ a).tmod (ak ρ b):=by unfold Ds;split<;>rfl
def FR (op:BinOp) (k k':IntKind) (a b:E):Option (E×TV) :=
 match op with
 | .shl=>some (mkLe (.lit 0) b,TI k (Du k a b))
 | .shr=>some (mkLe (.lit 0) b,TI k (Dv k a b))
 | op=>if k=k' then match op with
  | .add=>some (.tt,TI k (mkWrap k (mkAdd a b)))
  | .sub=>some (.tt,TI k (mkWrap k (mkSub a b)))
  | .mul=>some (.tt,TI k (mkWrap k (mkMul a b)))
  | .quo=>some (mkNot (mkEq b (.lit 0)),TI k (mkWrap k (Dq a b)))
  | .rem=>some (mkNot (mkEq b (.lit 0)),TI k (Ds a b))
  | .and=>some (.tt,TI k (.bits .and k a b))
  | .or=>some (.tt,TI k (.bits .or k a b))
  | .xor=>some (.tt,TI k (.bits .xor k a b))
  | .andNot=>some (.tt,TI k (.bits .andNot k a b))
  | .eql=>some (.tt,TB (mkEq a b))
  | .neq=>some (.tt,TB (mkNot (mkEq a b)))
  | .lss=>some (.tt,TB (mkLt a b))
  | .leq=>some (.tt,TB (mkLe a b))
  | .gtr=>some (.tt,TB (mkLt b a))
  | .geq=>some (.tt,TB (mkLe b a))
  | _=>none
 else none
section
variable {P:Program} {ρ:Env} {w:World}
theorem x8 {op:BinOp} {T:TypeId} {k k':IntKind} {a b n:E} {v:TV} (h:FR op k k' a b=some (n,v)) (hn:bo ρ n=true) :
 (binOp op T (.int k (ak ρ a)) (.int k' (ak ρ b))).run P w=.ok (v.ev ρ) w:=by
 unfold FR at h
 split at h
 ·cases h
  rw[aY,ah,decide_eq_true_eq]at hn
  have:¬ak ρ b<0:=by omega
  simp only[binOp,Op.shift,this,if_false,TV.ev,SV.ev,CV.ev,Bh];rfl
 ·cases h
  rw[aY,ah,decide_eq_true_eq]at hn
  have:¬ak ρ b<0:=by omega
  simp only[binOp,Op.shift,this,if_false,TV.ev,SV.ev,CV.ev,Bi];rfl
 ·split at h
  ·rename_i hk;subst hk
   split at h<;>first | (cases h;done) | skip
   all_goals cases h
   case h_4 =>
    rw[cE,dx,Bool.not_eq_true',decide_eq_false_iff_not,ah]at hn
    have hz:¬ak ρ b=0:=hn
    simp only[binOp,ne_eq,not_true_eq_false,if_false,Op.intDiv,if_neg hz,TV.ev,SV.ev,CV.ev,jG,Be,Sem.run_pure]
   case h_5 =>
    rw[cE,dx,Bool.not_eq_true',decide_eq_false_iff_not,ah]at hn
    have hz:¬ak ρ b=0:=hn
    simp only[binOp,ne_eq,not_true_eq_false,if_false,Op.intDiv,if_neg hz,TV.ev,SV.ev,CV.ev,Bf,Sem.run_pure]
   all_goals
    simp only[binOp,ne_eq,not_true_eq_false,if_false,Op.intArith,Op.intBits,Op.intCmp,TV.ev,SV.ev,CV.ev,jG,cZ,jr,jq,m7,dx,cE,fL,aY,kb]
    try rfl
    try (simp only[Sem.run_pure];congr 2;rw[Bool.eq_iff_iff];simp)
  ·cases h
theorem rW (x y:ByteArray):(x.toList==y.toList)=decide (x=y):=by
 rw[Bool.eq_iff_iff];simp only[beq_iff_eq,decide_eq_true_eq]
 refine⟨fun h=>?_,fun h=>by rw[h]⟩
 rw[ByteArray.toList_eq,ByteArray.toList_eq]at h
 cases x;cases y;simp at h;rw[h]
def FT (op:BinOp) (a b:E):Option (E×TV) :=
 match op with
 | .add=>some (mkLe (mkAdd (oP a) (oP b)) (.lit 9223372036854775807),TS (Az a b))
 | .eql=>some (.tt,TB (mkSeq a b))
 | .neq=>some (.tt,TB (mkNot (mkSeq a b)))
 | _=>none
theorem x9 {op:BinOp} {T:TypeId} {a b n:E} {v:TV} (h:FT op a b=some (n,v)) (hn:bo ρ n=true) :
 (binOp op T (.string (gT ρ a)) (.string (gT ρ b))).run P w=.ok (v.ev ρ) w:=by
 unfold FT at h
 split at h
 ·cases h
  rw[aY,cZ,ik,ik,ah,decide_eq_true_eq]at hn
  have:¬(((gT ρ a).size+(gT ρ b).size:Nat):Int)>IntKind.i64.max:=by simp only[IntKind.max,IntKind.signed,IntKind.bits];omega
  simp only[binOp,Op.stringOp,if_neg this,TV.ev,SV.ev,CV.ev,tp,Sem.run_pure]
 ·cases h
  simp only[binOp,Op.stringOp,TV.ev,SV.ev,CV.ev,nJ,Sem.run_pure,rW]
 ·cases h
  simp only[binOp,Op.stringOp,TV.ev,SV.ev,CV.ev,cE,nJ,Sem.run_pure,rW]
 ·cases h
def rF (i:E):Nat→List SV→Option SV
 | _,[]=>none
 | _,[v]=>some v
 | j,v::l=>match rF i (j+1) l with
  | some r=>pI (mkEq i (.lit j)) v r
  | none=>none
theorem rG {i:E} : ∀ (l:List SV) (j:Nat) (v:SV),rF i j l=some v→(j:Int)≤ak ρ i→ak ρ i<j+l.length→∃ x,l[(ak ρ i).toNat-j]?=some x∧v.ev ρ=x.ev ρ
 | [],j,v,h,_,_=>by simp [rF]at h
 | [x],j,v,h,h1,h2=>by
  simp only[rF,Option.some.injEq]at h;subst h
  simp only[List.length_singleton]at h2
  have:(ak ρ i).toNat-j=0:=by omega
  exact⟨x,by rw[this];rfl,rfl⟩
 | x::y::l,j,v,h,h1,h2=>by
  simp only[rF]at h
  split at h
  ·rename_i r hr
   have hm:=qO (ρ:=ρ) h
   rw[dx,ah]at hm
   by_cases he:ak ρ i=(j:Int)
   ·have:(ak ρ i).toNat-j=0:=by omega
    exact⟨x,by rw[this];rfl,by rw[hm];simp [he]⟩
   ·simp only[List.length_cons]at h2
    obtain⟨z,hz,hv⟩:=rG (y::l) (j+1) r hr (by omega) (by simp only[List.length_cons];omega)
    refine⟨z,?_,by rw[hm,←hv];simp [he]⟩
    have:(ak ρ i).toNat-j=((ak ρ i).toNat-(j+1))+1:=by omega
    rw[this,List.getElem?_cons_succ];exact hz
  ·cases h
def En (i:E) (n:Nat):E:=mkAnd (mkLe (.lit 0) i) (mkLt i (.lit n))
theorem fD {i:E} {n:Nat} (h:bo ρ (En i n)=true):0≤ak ρ i∧ak ρ i<n:=by
 unfold En at h
 rw[aL,Bool.and_eq_true,aY,fL,decide_eq_true_eq,decide_eq_true_eq]at h
 exact h
def fq {α:Type} : List (Option α)→Option (List α)
 | []=>some []
 | some x::l=>(fq l).map (x::·)
 | none::_=>none
theorem iF {α:Type} : ∀ {l:List (Option α)} {m:List α},fq l=some m→m.length=l.length∧∀ (j:Nat) x,m[j]?=some x→l[j]?=some (some x)
 | [],m,h=>by cases h;simp
 | some y::l,m,h=>by
  simp only[fq,Option.map_eq_some_iff]at h
  obtain⟨r,hr,rfl⟩:=h
  obtain⟨h1,h2⟩:=iF hr
  refine⟨by simp [h1],fun j x hx=>?_⟩
  cases j with
  | zero=>simpa using hx
  | succ j=>simpa using h2 j x (by simpa using hx)
 | none::l,m,h=>by simp [fq]at h
def kindOf:Value→Kd
 | .int k _=>.int k
 | .bool _=>.bool
 | .slice _ _ _=>.slice
 | .pointer _=>.ptr
 | .string _=>.str
 | .map _=>.map
 | _=>.any
def nr (h:Nat) (x y:E) (j:Nat):Kd→CV
 | .int k=>.int k (.hI h x y j)
 | .bool=>.bool (.hB h x y j)
 | .slice=>.sl (.hP h x y j 0) (.hP h x y j 1) (.hP h x y j 2) (.hP h x y j 3)
 | .ptr=>.hptr (.hP h x y j 0) (.hP h x y j 1)
 | .str=>.str (.hS h x y j)
 | .map=>.map (.hP h x y j 0)
 | .any=>.hv h x y j
theorem rz {h:Nat} {x y:E} {j:Nat} {k:Kd} (hh:bo ρ (.his h x y j k)=true):(ρ.h h).cell (ak ρ x).toNat ((ak ρ y).toNat+j)=some ((nr h x y j k).ev ρ):=by
 rw[tO]at hh
 cases hc:(ρ.h h).cell (ak ρ x).toNat ((ak ρ y).toNat+j)with
 | none=>simp [hc,cx]at hh
 | some v =>
  rw[hc]at hh
  cases k with
  | any=>simp [nr,CV.ev,hc]
  | int k =>
   cases v<;>simp only[cx,Bool.false_eq_true,decide_eq_true_eq]at hh
   subst hh;simp [nr,CV.ev,aV,hc,fg]
  | bool =>
   cases v<;>simp only[cx,Bool.false_eq_true]at hh
   simp [nr,CV.ev,FP,hc,vv]
  | str =>
   cases v<;>simp only[cx,Bool.false_eq_true]at hh
   simp [nr,CV.ev,GF,hc,Ej]
  | map =>
   cases v<;>simp only[cx,Bool.false_eq_true]at hh
   rename_i r
   cases r<;>simp [nr,CV.ev,aT,hc,cH]
  | slice =>
   cases v<;>simp only[cx,Bool.false_eq_true]at hh
   rename_i a n c
   cases a with
   | none=>simp [nr,CV.ev,aT,hc,cH,ar]
   | some a =>
    obtain⟨b,o,s⟩:=a
    cases s with
    | none=>simp [nr,CV.ev,aT,hc,cH,ar]
    | some s =>
     simp only[nr,CV.ev,aT,hc,cH,Int.toNat_natCast]
     unfold ar
     rw[if_neg (by omega),if_neg (by omega),Int.toNat_natCast,xH,show(-(-(b:Int)-2)-2).toNat=b by omega]
  | ptr =>
   unfold cx at hh
   split at hh<;>first | (cases hh;done) | skip
   all_goals simp_all
   ·simp [nr,CV.ev,aT,hc,cH,ar]
   ·simp [nr,CV.ev,aT,hc,cH,ar]
def bz (h:Nat) (x y:E):Nat→List Kd→List CV
 | _,[]=>[]
 | j,k::l=>nr h x y j k::bz h x y (j+1) l
def fV (h:Nat) (x y:E):Nat→List Kd→E
 | _,[]=>.tt
 | j,k::l=>mkAnd (.his h x y j k) (fV h x y (j+1) l)
theorem kP {h:Nat} {x y:E} : ∀ (ks:List Kd) (j:Nat),bo ρ (fV h x y j ks)=true→∀ (i:Nat) v,((bz h x y j ks).map (CV.ev ρ))[i]?=some v→(ρ.h h).cell (ak ρ x).toNat ((ak ρ y).toNat+(j+i))=some v
 | [],_,_,i,v,h=>by simp [bz]at h
 | k::l,j,hn,i,v,h=>by
  simp only[fV,aL,Bool.and_eq_true]at hn
  cases i with
  | zero =>
   simp only[bz,List.map_cons,List.getElem?_cons_zero,Option.some.injEq]at h
   rw[←h];exact rz hn.1
  | succ i =>
   simp only[bz,List.map_cons,List.getElem?_cons_succ]at h
   have:=kP l (j+1) hn.2 i v h
   rwa[show j+(i+1)=j+1+i by omega]
theorem gS (h:Nat) (x y:E):∀ (ks:List Kd) (j:Nat),(bz h x y j ks).length=ks.length
 | [],_=>rfl
 | _::l,j=>by simp [bz,gS h x y l (j+1)]
theorem lR {h:Nat} {x y:E} : ∀ (ks:List Kd) (j:Nat),ks.all (fun k=>decide (k=.int .u8))=true→(∀ i,i<ks.length→cx ((ρ.h h).cell (ak ρ x).toNat ((ak ρ y).toNat+(j+i))) (.int .u8)=true)→bo ρ (fV h x y j ks)=true
 | [],_,_,_=>by simp [fV,cq]
 | k::l,j,ha,hb=>by
  simp only[List.all_cons,Bool.and_eq_true,decide_eq_true_eq]at ha
  obtain⟨rfl,ha⟩:=ha
  simp only[fV,aL,Bool.and_eq_true,tO]
  refine⟨by have:=hb 0 (by simp);simpa using this,lR l (j+1) ha fun i hi=>?_⟩
  have:=hb (i+1) (by simp only[List.length_cons];omega)
  rwa[show j+(i+1)=j+1+i by omega]at this
def rA (h:Nat) (x y:E) (ks:List Kd):E :=
 if decide (8<ks.length)&&ks.all (fun k=>decide (k=.int .u8))then .hby h x y (.lit ks.length)else if 8<ks.length then .hks h x y ks else fV h x y 0 ks
theorem o0 {h:Nat} {x y:E} : ∀ (ks:List Kd) (j:Nat),xk (ρ.h h) (ak ρ x).toNat ((ak ρ y).toNat+j) ks=true→bo ρ (fV h x y j ks)=true
 | [],_,_=>by simp [fV,cq]
 | k::l,j,hr=>by
  simp only[xk,Bool.and_eq_true]at hr
  simp only[fV,aL,Bool.and_eq_true,tO]
  exact⟨hr.1,o0 l (j+1) hr.2⟩
theorem xj {h:Nat} {x y:E} {ks:List Kd} (hn:bo ρ (rA h x y ks)=true):bo ρ (fV h x y 0 ks)=true:=by
 unfold rA at hn
 split at hn
 ·rename_i hc
  simp only[Bool.and_eq_true,decide_eq_true_eq]at hc
  rw[tN,ah,Int.toNat_natCast]at hn
  unfold cN at hn
  rw[List.all_eq_true]at hn
  refine lR ks 0 hc.2 fun i hi=>?_
  have:=hn i (List.mem_range.2 hi)
  rwa[Nat.zero_add]
 ·split at hn
  ·exact o0 ks 0 hn
  ·exact hn
def kv (mem:Mem) (x y:E):Option (Nat×Nat×List CV×TypeId×Nat) :=
 match x,y with
 | .var a,.lit o=>if 0≤o then(mT mem a).map fun r=>(a,r.1,r.2.1,r.2.2,o.toNat)else none
 | _,_=>none
theorem eQ {mem:Mem} {x y:E} {a p o:Nat} {l:List CV} {T:TypeId} (h:kv mem x y=some (a,p,l,T,o)):x=.var a∧y=.lit o∧mem[p]?=some (.aS a l T):=by
 unfold kv at h
 split at h
 ·rename_i a' o'
  split at h
  ·rename_i ho
   simp only[Option.map_eq_some_iff,Prod.mk.injEq]at h
   obtain⟨⟨q,l',T'⟩,hq,rfl,rfl,rfl,rfl,rfl⟩:=h
   refine⟨rfl,by rw[Int.toNat_of_nonneg ho],dE hq⟩
  ·cases h
 ·cases h
def wP (mem:Mem) (x:E):E :=
 match x with
 | .var a=>if(mT mem a).isSome then .tt else .le (.lit 0) x
 | x=>mkLe (.lit 0) x
theorem MRel.wP {S:Nat→Prop} {w0:World} {mem:Mem} (h:MRel S w0 ρ mem w) {x:E} (hx:bo ρ (wP mem x)=true):0≤ak ρ x:=by
 unfold Sx.wP at hx
 split at hx
 ·split at hx
  ·rename_i a ha
   obtain⟨⟨p,l,T⟩,hp⟩:=Option.isSome_iff_exists.1 ha
   exact h.pos _ (List.mem_of_getElem? (dE hp))
  ·rw[iT,ah,decide_eq_true_eq]at hx;exact hx
 ·rw[aY,ah,decide_eq_true_eq]at hx;exact hx
def Aw (P:Program) (mem:Mem) (t:TypeId):CV→Option (E×SV)
 | .pti a o s n i=>match mT mem a with
  | some (_,l,_)=>match fq ((List.range n).map fun j=>dO P t l (o+s*j))with
   | some vs=>(rF i 0 vs).map fun v=>(En i n,v)
   | none=>none
  | _=>none
 | .hptr x y=>match kv mem x y with
  | some (_,_,l,_,o)=>(dO P t l o).map fun v=>(.tt,v)
  | none=>match(ug mem x).bind (fun r=>r.2.hk)with
   | some h=>match xN P t,iQ P t,dd P t with
    | some true,some z,some n =>
     let ks:=z.cells.toList.map kindOf
     if ks.length=n then some (mkAnd (mkLe (.lit 0) x) (mkAnd (mkLe (.lit 0) y) (rA h x y ks)),.agg (bz h x y 0 ks))else none
    | some false,some z,_=>some (mkAnd (mkLe (.lit 0) x) (mkAnd (mkLe (.lit 0) y) (.his h x y 0 (kindOf z))),.one (nr h x y 0 (kindOf z)))
    | _,_,_=>none
   | none=>none
 | _=>none
variable {S:Nat→Prop} {w0:World} {mem:Mem}
theorem qx (h:MRel S w0 ρ mem w) {x:E} {k:Nat} (hf:(ug mem x).bind (fun r=>r.2.hk)=some k):(ρ.h k).sub w:=by
 cases hh:ug mem x with
 | none=>simp [hh]at hf
 | some r =>
  simp only[hh,Option.bind_some]at hf
  have:=h.sub r.2 (List.mem_of_getElem? (fy (p:=r.1) (r:=r.2) hh))
  rwa[bc.Hz hf]at this
theorem oM (h:MRel S w0 ρ mem w) {t:TypeId} {c:CV} {n:E} {v:SV} (hl:Aw P mem t c=some (n,v)) (hn:bo ρ n=true) :
 ∃ p,c.ev ρ=.pointer (some p)∧(loadVar t p).run P w=.ok (v.ev ρ) w:=by
 unfold Aw at hl
 split at hl
 ·rename_i b o s m i
  split at hl
  ·rename_i p l T hb
   split at hl
   ·rename_i vs hvs
    simp only[Option.map_eq_some_iff,Prod.mk.injEq]at hl
    obtain⟨v',hv,rfl,rfl⟩:=hl
    obtain⟨h1,h2⟩:=fD hn
    obtain⟨hlen,hget⟩:=iF hvs
    simp only[List.length_map,List.length_range]at hlen
    obtain⟨x,hx,hxv⟩:=rG vs 0 v' hv (by omega) (by omega)
    have hx':=hget _ _ hx
    rw[Nat.sub_zero,List.getElem?_map,List.getElem?_range (by omega)]at hx'
    simp only[Option.map_some,Option.some.injEq]at hx'
    have hk:=dE hb
    have hpos:0≤ρ.i b:=h.pos _ (List.mem_of_getElem? hk)
    refine⟨_,by simp only[CV.ev];rw[aq hpos],?_⟩
    have e:((o:Int)+(s:Int)*ak ρ i).toNat=o+s*(ak ρ i).toNat:=by
     obtain⟨q,hq⟩:=Int.eq_ofNat_of_zero_le h1
     rw[hq,Int.toNat_natCast,←Int.natCast_mul,←Int.natCast_add,Int.toNat_natCast]
    rw[e,hxv]
    exact lO hx' (h.aS hk)
   ·cases hl
  ·cases hl
 ·rename_i x y
  split at hl
  ·rename_i a p l T o hk0
   obtain⟨rfl,rfl,hk⟩:=eQ hk0
   simp only[Option.map_eq_some_iff,Prod.mk.injEq]at hl
   obtain⟨v',hv,rfl,rfl⟩:=hl
   have hpos:0≤ρ.i a:=h.pos _ (List.mem_of_getElem? hk)
   exact⟨_,by simp only[CV.ev,ai,ah];rw[aq hpos,Int.toNat_natCast],lO hv (h.aS hk)⟩
  ·split at hl
   ·rename_i k hk
    have hsub:=qx h hk
    split at hl
    ·rename_i z m ha hz hs
     simp only at hl
     split at hl
     ·rename_i hm
      cases hl
      rw[aL,Bool.and_eq_true,aL,Bool.and_eq_true,aY,aY,ah,decide_eq_true_eq,decide_eq_true_eq]at hn
      obtain⟨hx,hy,hn⟩:=hn
      replace hn:=xj hn
      refine⟨_,by simp only[CV.ev];rw[aq hx],?_⟩
      refine lP (cs:=(bz k x y 0 (z.cells.toList.map kindOf)).map (CV.ev ρ)) ha hs (by simp only[List.length_map,gS];simpa using hm) (fun j u hu=>?_)
      have:=kP _ 0 hn j u hu
      rw[Nat.zero_add]at this
      exact Hl.fm hsub this
     ·cases hl
    ·rename_i z _ ha hz
     cases hl
     rw[aL,Bool.and_eq_true,aL,Bool.and_eq_true,aY,aY,ah,decide_eq_true_eq,decide_eq_true_eq]at hn
     obtain⟨hx,hy,hn⟩:=hn
     have:=rz hn
     refine⟨_,by simp only[CV.ev];rw[aq hx],oN ha ?_⟩
     exact Hl.fm hsub this
    ·cases hl
   ·cases hl
 ·cases hl
end
end Go.Sx
namespace Go.Sx
open Go
abbrev RT:=Option (E×TV)
def RT.with (n:E):RT→RT
 | some (m,v)=>some (mkAnd n m,v)
 | none=>none
def J8:UnOp→TV→RT
 | .not,.sv (.one (.bool e))=>some (.tt,TB (mkNot e))
 | .neg,.sv (.one (.int k e))=>some (.tt,TI k (mkWrap k (mkSub (.lit 0) e)))
 | .xor,.sv (.one (.int k e))=>some (.tt,TI k (.bits .xor k (.lit (if k.signed then -1 else k.max)) e))
 | _,_=>none
def strOf:List CV→Option E
 | []=>some (.slit .empty)
 | .int .u8 e::l=>(strOf l).map fun s=>Az (.sbyte e) s
 | _=>none
def Bj (P:Program) (el:TypeId):Bool:=match P.underlying el with | some (.int .u8)=>true | _=>false
def CI (P:Program) (mem:Mem) (src dst:TypeId) (x:TV):RT :=
 match P.underlying src,P.underlying dst,x with
 | some _,some (.int k),.sv (.one (.int _ e))=>some (.tt,TI k (mkWrap k e))
 | some .string,some .string,.sv (.one (.str e))=>some (.tt,TS e)
 | some (.slice el),some .string,.sv (.one (.sl x y l c)) =>
  if Bj P el then
   if x=.lit (-1)then some (.tt,TS (.slit .empty))else
   match kv mem x y,l with
   | some (_,_,cs,_,o),.lit n=>if o+n.toNat≤cs.length then(strOf ((cs.drop o).take n.toNat)).map fun s=>(.tt,TS s)else none
   | _,_=>match(ug mem x).bind (fun r=>r.2.hk)with
    | some h=>some (mkOr (mkEq x (.lit (-1))) (mkOr (mkEq l (.lit 0)) (mkAnd (mkLe (.lit 0) x) (mkAnd (mkLe (.lit 0) y) (.hby h x y l)))),TS (mkIte (mkEq x (.lit (-1))) (.slit .empty) (.sof h x y l)))
    | none=>none
  else none
 | _,_,_=>none
def l7 (P:Program) (mem:Mem) (s:TypeId) (f:Nat) (x:TV):RT :=
 match P.underlying s with
 | some (.struct fs)=>match fs[f]? with
  | some fl=>match dd P fl.type with
   | some (_+1)=>match x with
    | .sv (.one (.hptr x y))=>some (mkAnd (wP mem x) (mkLe (.lit 0) y),TP x (mkAdd y (.lit fl.offset)))
    | .sv (.one (.pti a o s n i))=>if(mT mem a).isSome then some (En i n,.sv (.one (.pti a (o+fl.offset) s n i)))else none
    | _=>none
   | _=>none
  | none=>none
 | _=>none
def l9 (P:Program) (mem:Mem) (t:TypeId) (x i:TV):RT :=
 match i with
 | .sv (.one (.int _ e))=>match P.underlying t with
  | some (.array len el)=>match dd P el,x with
   | some n,.sv (.one (.pti a o s m k))=>match e with
    | .lit j=>if 0≤j∧j<len∧(mT mem a).isSome then some (En k m,.sv (.one (.pti a (o+j.toNat*n) s m k)))else none
    | _=>none
   | some n,.sv (.one (.hptr x y))=>match e,kv mem x y with
    | .lit j,_=>if 0≤j∧j<len then some (mkAnd (wP mem x) (mkLe (.lit 0) y),TP x (mkAdd y (.lit (j.toNat*n))))else none
    | e,some (a,_,_,_,o)=>some (En e len,.sv (.one (.pti a o n len e)))
    | e,none=>some (mkAnd (wP mem x) (mkAnd (mkLe (.lit 0) y) (En e len)),TP x (mkAdd y (mkMul e (.lit n))))
   | _,_=>none
  | some (.slice el)=>match dd P el,x with
   | some n,.sv (.one (.sl x y l _))=>match e,kv mem x y,l with
    | .lit j,_,_=>some (mkAnd (wP mem x) (mkAnd (mkLe (.lit 0) y) (mkAnd (mkLe (.lit 0) (.lit j)) (mkLt (.lit j) l))),TP x (mkAdd y (mkMul (.lit j) (.lit n))))
    | e,some (a,_,_,_,o),.lit q=>some (mkAnd (En e q.toNat) (mkLe (.lit 0) (.lit q)),.sv (.one (.pti a o n q.toNat e)))
    | e,_,l=>some (mkAnd (wP mem x) (mkAnd (mkLe (.lit 0) y) (mkAnd (mkLe (.lit 0) e) (mkLt e l))),TP x (mkAdd y (mkMul e (.lit n))))
   | _,_=>none
  | _=>none
 | _=>none
def yt (P:Program) (t:TypeId) (f:Nat) (x:TV):RT :=
 match P.underlying t,x with
 | some (.struct fs),.sv (.agg l)=>match fs[f]? with
  | some fl=>(dO P fl.type l fl.offset).map fun v=>(.tt,.sv v)
  | none=>none
 | _,_=>none
def yJ (P:Program) (t:TypeId) (x i:TV):RT :=
 match P.underlying t,x,i with
 | some (.array len el),.sv (.agg l),.sv (.one (.int _ e))=>match dd P el with
  | some n=>match e with
   | .lit j=>if 0≤j∧j<len then(dO P el l (j.toNat*n)).map fun v=>(.tt,.sv v)else none
   | e=>match fq ((List.range len).map fun j=>dO P el l (j*n))with
    | some vs=>(rF e 0 vs).map fun v=>(En e len,.sv v)
    | none=>none
  | none=>none
 | some .string,.sv (.one (.str s)),.sv (.one (.int _ e))=>some (mkAnd (mkLe (.lit 0) e) (mkLt e (oP s)),TI .u8 (Dt s e))
 | _,_,_=>none
def qu (i:Nat):TV→RT
 | .tup l=>(l[i]?).map fun v=>(.tt,.sv v)
 | _=>none
def Gn (P:Program) (mem:Mem) (t:TypeId) (x:TV):RT :=
 match P.underlying t,x with
 | some (.array n _),_=>some (.tt,TI .i64 (.lit n))
 | some (.slice _),.sv (.one (.sl _ _ l _))=>some (mkLe (.lit 0) l,TI .i64 l)
 | some .string,.sv (.one (.str e))=>some (.tt,TI .i64 (oP e))
 | some (.map _ _),.sv (.one (.map x))=>match(ug mem x).bind (fun r=>r.2.hk)with
  | some h=>some (mkAnd (mkLe (.lit 0) x) (mkAnd (mkLe (.lit 0) x) (.hism h x)),TI .i64 (.hmlen h x))
  | none=>none
 | _,_=>none
def Gv:TV→TV→Option TV
 | .sv (.one (.int k x)),.sv (.one (.int _ y))=>some (TI k (mkIte (mkLt y x) y x))
 | _,_=>none
def Gu:TV→TV→Option TV
 | .sv (.one (.int k x)),.sv (.one (.int _ y))=>some (TI k (mkIte (mkLt x y) y x))
 | _,_=>none
def wo (f:TV→TV→Option TV):List TV→TV→Option TV
 | [],x=>some x
 | y::l,x=>match f x y with
  | some z=>wo f l z
  | none=>none
def oV (st:St):List Operand→Option (List TV)
 | []=>some []
 | x::l=>match cB st x,oV st l with
  | some v,some vs=>some (v::vs)
  | _,_=>none
def p6 (P:Program) (mem:Mem) (b:Builtin) (ats:Array TypeId) (vs:List TV):RT :=
 match b,vs with
 | .len,[x]=>match ats[0]? with | some t=>Gn P mem t x | none=>none
 | .min,x::l=>(wo Gv l x).map fun v=>(.tt,v)
 | .max,x::l=>(wo Gu l x).map fun v=>(.tt,v)
 | _,_=>none
def SV.cells:SV→List CV
 | .one c=>[c]
 | .agg l=>l
def CV.mH:CV→Bool
 | .val v=>v.oneCell'
 | .vr _=>false
 | .hv _ _ _ _=>false
 | _=>true
theorem CV.ke {ρ:Env} (c:CV) (h:c.mH=true):(c.ev ρ).oneCell'=true:=by
 cases c<;>first | rfl | exact h | cases h
theorem SV.mK {ρ:Env} (v:SV) (h:v.cells.all CV.mH=true):(v.ev ρ).cells.toList=v.cells.map (CV.ev ρ):=by
 cases v with
 | one c =>
  simp only[SV.cells,List.all_cons,List.all_nil,Bool.and_true]at h
  have:=CV.ke (ρ:=ρ) c h
  simp only[SV.ev,SV.cells,List.map_cons,List.map_nil]
  generalize c.ev ρ=x at *
  cases x<;>first | rfl | simp [Value.oneCell']at this
 | agg l=>simp [SV.ev,SV.cells,Value.cells]
def bG {α:Type} (l:List α) (o:Nat) (m:List α):List α:=l.take o++m++l.drop (o+m.length)
def sE (place:Nat→Option (Nat×Nat)) (l:List CV):List (Nat×SV)→Option (List CV)
 | []=>some l
 | (i,v)::rest=>match place i with
  | none=>none
  | some (off,size)=>if v.cells.length=size∧off+v.cells.length≤l.length∧v.cells.all CV.mH=true then sE place (bG l off v.cells) rest else none
def GY:List TV→Option (List SV)
 | []=>some []
 | .sv v::l=>(GY l).map (v::·)
 | _=>none
def yc (P:Program) (t:TypeId) (is:List Nat) (vs:List TV):RT :=
 match iQ P t,GY vs with
 | some z,some vs=>match P.underlying t with
  | some (.struct fs)=>match fq (fs.toList.map fun f=>(dd P f.type).map fun n=>(f.offset,n))with
   | some places=>(sE (places[·]?) (z.cells.toList.map fE) (is.zip vs)).map fun l=>(.tt,.sv (.agg l))
   | none=>none
  | some (.array _ el)=>match dd P el with
   | some n=>(sE (fun i=>some (i*n,n)) (z.cells.toList.map fE) (is.zip vs)).map fun l=>(.tt,.sv (.agg l))
   | none=>none
  | _=>none
 | _,_=>none
def we (P:Program) (rec:TypeId→SV→SV→Option E) (xs ys:List CV):List Field→Option E
 | []=>some .tt
 | f::fs=>if f.name≠ "_" then
  match dO P f.type xs f.offset,dO P f.type ys f.offset with
  | some a,some b=>match rec f.type a b,we P rec xs ys fs with
   | some e,some r=>some (mkAnd e r)
   | _,_=>none
  | _,_=>none
  else we P rec xs ys fs
def Af (P:Program) (rec:TypeId→SV→SV→Option E) (e:TypeId) (xs ys:List CV):List Nat→Option E
 | []=>some .tt
 | i::is=>match dO P e xs (i*P.cellsOf e),dO P e ys (i*P.cellsOf e)with
  | some a,some b=>match rec e a b,Af P rec e xs ys is with
   | some q,some r=>some (mkAnd q r)
   | _,_=>none
  | _,_=>none
def uf (P:Program):Nat→TypeId→SV→SV→Option E
 | 0,_,_,_=>none
 | d+1,t,x,y=>match P.underlying t with
  | some .bool=>match x,y with
   | .one (.bool a),.one (.bool b)=>some (Dp a b)
   | _,_=>none
  | some (.int _)=>match x,y with
   | .one (.int k a),.one (.int k' b)=>if k=k' then some (mkEq a b)else none
   | _,_=>none
  | some .string=>match x,y with
   | .one (.str a),.one (.str b)=>some (mkSeq a b)
   | _,_=>none
  | some (.slice _)=>match x,y with
   | .one (.sl x _ _ _),.one (.sl x' _ _ _)=>if x'=.lit (-1)then some (mkEq x (.lit (-1)))else if x=.lit (-1)then some (mkEq x' (.lit (-1)))else none
   | _,_=>none
  | some (.pointer _)=>match x,y with
   | .one (.hptr x _),.one (.hptr x' _)=>if x'=.lit (-1)then some (mkEq x (.lit (-1)))else if x=.lit (-1)then some (mkEq x' (.lit (-1)))else none
   | _,_=>none
  | some (.map _ _)=>match x,y with
   | .one (.map x),.one (.map x')=>if x'=.lit (-1)then some (mkEq x (.lit (-1)))else if x=.lit (-1)then some (mkEq x' (.lit (-1)))else none
   | _,_=>none
  | some (.struct fs)=>match x,y with
   | .agg xs,.agg ys=>if P.stoodInHeld t=false then we P (uf P d) xs ys fs.toList else none
   | _,_=>none
  | some (.array n e)=>match x,y with
   | .agg xs,.agg ys=>match P.info? e with
    | some _=>Af P (uf P d) e xs ys (List.range n)
    | none=>none
   | _,_=>none
  | _=>none
def FQ (P:Program) (op:BinOp) (t:TypeId) (X Y:TV):RT :=
 match X,Y with
 | .sv (.one (.int k a)),.sv (.one (.int k' b))=>FR op k k' a b
 | .sv (.one (.str a)),.sv (.one (.str b))=>FT op a b
 | .sv (.one a),.sv (.one b)=>match uf P 20 t (.one a) (.one b)with
  | some e=>match op with
   | .eql=>some (.tt,TB e)
   | .neq=>some (.tt,TB (mkNot e))
   | _=>none
  | none=>none
 | .sv (.agg a),.sv (.agg b)=>if P.eqGuardType P.depth t=false then
  match uf P 20 t (.agg a) (.agg b)with
  | some e=>match op with
   | .eql=>some (.tt,TB e)
   | .neq=>some (.tt,TB (mkNot e))
   | _=>none
  | none=>none
  else none
 | _,_=>none
def DB (mem:Mem) (x:E):E :=
 match x with
 | .var a=>if(mT mem a).isSome then .tt else .le (.lit (-1)) x
 | x=>mkLe (.lit (-1)) x
def iV (d:E):Option TV→Option E
 | none=>some d
 | some (.sv (.one (.int _ e)))=>some e
 | _=>none
def rN (m l:E) (y:E) (n:Nat):E:=mkIte (mkEq m l) y (mkAdd y (mkMul l (.lit n)))
def zx (P:Program) (mem:Mem) (t:TypeId) (x:TV) (lo hi mx:Option TV):RT :=
 match mx with
 | some _=>none
 | none=>match P.underlying t,x with
  | some .string,.sv (.one (.str s))=>match iV (.lit 0) lo,iV (oP s) hi with
   | some l,some h=>some (mkAnd (mkLe (.lit 0) l) (mkAnd (mkLe l h) (mkLe h (oP s))),TS (.sext s l h))
   | _,_=>none
  | some (.slice el),.sv (.one (.sl x y len cap))=>match iV (.lit 0) lo,iV len hi,dd P el with
   | some l,some h,some n=>some (mkAnd (DB mem x) (mkAnd (mkLe (.lit 0) y) (mkAnd (mkLe (.lit 0) l) (mkAnd (mkLe l h) (mkLe h cap)))),
    .sv (.one (.sl x (rN cap l y n) (mkSub h l) (mkSub cap l))))
   | _,_,_=>none
  | some (.array q el),.sv (.one (.hptr x y))=>match iV (.lit 0) lo,iV (.lit q) hi,dd P el with
   | some l,some h,some n=>some (mkAnd (wP mem x) (mkAnd (mkLe (.lit 0) y) (mkAnd (mkLe (.lit 0) l) (mkAnd (mkLe l h) (mkLe h (.lit q))))),
    .sv (.one (.sl x (rN (.lit q) l y n) (mkSub h l) (mkSub (.lit q) l))))
   | _,_,_=>none
  | _,_=>none
def yZ (P:Program) (st:St) (op:BinOp) (t:TypeId) (x y:Operand):RT :=
 match cB st x,y with
 | some (.sv (.one (.vr j))),.const .nilIface=>match P.underlying t with
  | some (.interface _)=>match op with
   | .eql=>some (.le (.vint j) (.lit 1),TB (.eq (.vint j) (.lit 0)))
   | .neq=>some (.le (.vint j) (.lit 1),TB (.not (.eq (.vint j) (.lit 0))))
   | _=>none
  | _=>none
 | _,_=>none
def quiet (P:Program) (st:St) (op:Op):RT :=
 match op with
 | .move x=>(cB st x).map fun v=>(.tt,v)
 | .assign x=>(cB st x).map fun v=>(.tt,v)
 | .pick c a b=>match cB st c with
  | some (.sv (.one (.bool e)))=>match known st.path e with
   | some true=>(cB st a).map fun v=>(.tt,v)
   | some false=>(cB st b).map fun v=>(.tt,v)
   | none=>match cB st a,cB st b with
    | some (.sv va),some (.sv vb)=>(pI e va vb).map fun v=>(.tt,.sv v)
    | _,_=>none
  | _=>none
 | .nilCheck x=>match cB st x with
  | some (.sv (.one (.hptr x y)))=>some (wP st.mem x,TP x y)
  | _=>none
 | .binOp op t x y _=>match yZ P st op t x y with
  | some r=>some r
  | none=>match cB st x,cB st y with
   | some a,some b=>FQ P op t a b
   | _,_=>none
 | .unOp op _ x=>match cB st x with
  | some a=>J8 op a
  | none=>none
 | .convert s d x=>match cB st x with
  | some a=>CI P st.mem s d a
  | none=>none
 | .fieldAddr s x f=>match cB st x with
  | some a=>l7 P st.mem s f a
  | none=>none
 | .field t x f=>match cB st x with
  | some a=>yt P t f a
  | none=>none
 | .indexAddr t x i=>match cB st x,cB st i with
  | some a,some b=>l9 P st.mem t a b
  | _,_=>none
 | .index t x i=>match cB st x,cB st i with
  | some a,some b=>yJ P t a b
  | _,_=>none
 | .load t x=>match cB st x with
  | some (.sv (.one c))=>(Aw P st.mem t c).map fun r=>(r.1,.sv r.2)
  | _=>none
 | .extract x i=>match cB st x with
  | some a=>qu i a
  | none=>none
 | .sliceToArrayPointer t x=>match P.underlying t,cB st x with
  | some (.array n _),some (.sv (.one (.sl x y l _)))=>some (mkLe (.lit n) l,TP x y)
  | _,_=>none
 | .slice t x lo hi mx=>match cB st x with
  | some a=>match(match lo with | none=>some none | some o=>(cB st o).map some),(match hi with | none=>some none | some o=>(cB st o).map some),(match mx with | none=>some none | some o=>(cB st o).map some)with
   | some l,some h,some m=>zx P st.mem t a l h m
   | _,_,_=>none
  | none=>none
 | .makeFunc (.func f) first captured=>if first=#[]∧captured=#[]then some (.tt,.sv (.one (.val (.func (.func f) #[] #[]))))else match captured.toList with
  | [c]=>if first=#[]then match cB st c with
   | some (.sv (.one (.hptr x y)))=>if y=.lit 0 then some (.tt,.sv (.one (.clo f x)))else none
   | _=>none
   else none
  | _=>none
 | .call {callee:=.builtin b,args,argTypes}=>match oV st args.toList with
  | some vs=>p6 P st.mem b argTypes vs
  | none=>none
 | .build t parts=>match oV st (parts.toList.map (·.2))with
  | some vs=>yc P t (parts.toList.map (·.1)) vs
  | none=>none
 | _=>none
end Go.Sx
namespace Go.Sx
open Go
section
variable {P:Program} {S:Nat→Prop} {w0:World} {ρ:Env} {st:St} {mem:Mem} {a:Act} {w:World} {n:E} {v:TV}
theorem eS {t:TypeId} {l:List CV} {o:Nat} {v:SV} (h:dO P t l o=some v):(part t (l.map (CV.ev ρ)).toArray o).run P w=.ok (v.ev ρ) w:=by
 unfold dO at h
 unfold part
 split at h
 ·rename_i n ha hs
  split at h
  ·rename_i hle
   cases h
   simp only[Sem.run_bind,mA ha,Result.andThen_ok,if_true,cO hs,Sem.run_pure,SV.ev]
   congr 2
   simp [List.map_take,List.map_drop,List.extract_eq_take_drop]
  ·cases h
 ·rename_i ha
  simp only[Option.map_eq_some_iff]at h
  obtain⟨x,hx,rfl⟩:=h
  simp only[Sem.run_bind,mA ha,Result.andThen_ok,Bool.false_eq_true,if_false]
  have:(l.map (CV.ev ρ)).toArray[o]?=some (x.ev ρ):=by simp [hx]
  simp only[this]
  rfl
 ·cases h
theorem B2 {op:UnOp} {x:TV} (h:J8 op x=some (n,v)):(Op.unary op (x.ev ρ)).run P w=.ok (v.ev ρ) w:=by
 unfold J8 at h
 split at h
 ·cases h;simp only[TV.ev,SV.ev,CV.ev,cE,Op.unary,Sem.run_pure]
 ·cases h;simp only[TV.ev,SV.ev,CV.ev,jG,jr,ah,Op.unary,Op.intArith,Sem.run_pure]
 ·cases h;simp only[TV.ev,SV.ev,CV.ev,m7,ah,Op.unary,Op.intBits,Sem.run_pure,kb]
 ·cases h
theorem tU (x:Int) (l:List Int):bytesOf (x::l)=bytesOf [x]++bytesOf l:=by
 have key:∀ (l:List Int) (r:ByteArray),l.foldl (fun r n=>r.push (UInt8.ofNat n.toNat)) r=r++bytesOf l:=by
  intro l
  induction l with
  | nil=>intro r;simp [bytesOf]
  | cons y l ih =>
   intro r
   simp only[List.foldl_cons]
   rw[ih]
   have e:bytesOf (y::l)=ByteArray.empty.push (UInt8.ofNat y.toNat)++bytesOf l:=by
    show List.foldl _ _ _=_
    rw[List.foldl_cons,ih]
   rw[e,←ByteArray.append_assoc]
   congr 1
   apply ByteArray.ext
   simp [ByteArray.data_append,ByteArray.data_push]
 simp only[bytesOf,List.foldl_cons,List.foldl_nil]
 exact key l _
theorem pf:∀ (l:List CV) (s:E),strOf l=some s→∃ ns:List Int,l.map (CV.ev ρ)=ns.map (Value.int .u8)∧gT ρ s=bytesOf ns
 | [],s,h=>by cases h;exact⟨[],rfl,rfl⟩
 | c::l,s,h=>by
  unfold strOf at h
  split at h
  ·cases ‹c::l=[]›
  ·rename_i e l' heq
   cases heq
   simp only[Option.map_eq_some_iff]at h
   obtain⟨r,hr,rfl⟩:=h
   obtain⟨ns,h1,h2⟩:=pf _ r hr
   refine⟨ak ρ e::ns,by simp [h1,CV.ev],?_⟩
   rw[tp,BS,h2,tU (ak ρ e) ns]
  ·cases h
theorem sj {h:Hl} {x y n:Nat} (hb:cN h x y n=true):∀ j,j<n→h.cell x (y+j)=some (.int .u8 (fg (h.cell x (y+j)))):=by
 intro j hj
 unfold cN at hb
 rw[List.all_eq_true]at hb
 have:=hb j (List.mem_range.2 hj)
 cases hc:h.cell x (y+j)with
 | none=>simp [hc,cx]at this
 | some v =>
  rw[hc]at this
  cases v<;>simp [cx]at this
  rename_i k m
  subst this
  rfl
theorem Au {el:TypeId} (h:Bj P el=true):P.underlying el=some (.int .u8):=by
 unfold Bj at h;split at h
 ·assumption
 ·cases h
theorem vY (hm:MRel S w0 ρ mem w) {s d:TypeId} {x:TV} (h:CI P mem s d x=some (n,v)) (hn:bo ρ n=true):(convert s d (x.ev ρ)).run P w=.ok (v.ev ρ) w:=by
 unfold CI at h
 split at h
 ·rename_i k k' e hs hd
  cases h
  simp only[TV.ev,SV.ev,CV.ev,jG]
  unfold convert
  simp only[Sem.run_bind,run_underlying hs,run_underlying hd,Result.andThen_ok,Conv.intToInt]
  rfl
 ·rename_i e hs hd
  cases h
  simp only[TV.ev,SV.ev,CV.ev]
  unfold convert
  simp only[Sem.run_bind,run_underlying hs,run_underlying hd,Result.andThen_ok]
  rfl
 ·rename_i el x y l c hs hd
  split at h
  ·rename_i hu
   have he:=Au hu
   split at h
   ·rename_i hx
    subst hx
    cases h
    simp only[TV.ev,SV.ev,CV.ev,ah,cW,aC]
    rw[run_convert_bytes_string w s d el _ _ _ hs he hd]
    rfl
   ·split at h
    ·rename_i a p cs T o m hk0
     obtain⟨rfl,rfl,hk⟩:=eQ hk0
     split at h
     ·rename_i hle
      simp only[Option.map_eq_some_iff,Prod.mk.injEq]at h
      obtain⟨r,hr,rfl,rfl⟩:=h
      obtain⟨ns,h1,h2⟩:=pf (ρ:=ρ) _ _ hr
      have hpos:0≤ρ.i a:=hm.pos _ (List.mem_of_getElem? hk)
      simp only[TV.ev,SV.ev,CV.ev,ah,ai,aq hpos,Int.toNat_natCast]
      rw[run_convert_bytes_string w s d el _ _ _ hs he hd,run_bytesToString w _ _ _ ns,h2]
      ·rfl
      ·have hb:=hm.aS hk
       have:=run_loadCells_list (P:=P) w ⟨(ρ.i a).toNat,o,none⟩ (ns.map (Value.int .u8)) (fun j u hu=>by
        rw[←h1]at hu
        rw[c7]
        simp only[World.cell?,hb]
        simp only[List.getElem?_toArray,Option.isSome_none,Bool.false_eq_true,if_false]
        rw[List.getElem?_map,List.getElem?_take]at hu
        split at hu
        ·rw[List.getElem?_drop]at hu;rw[List.getElem?_map];exact hu
        ·simp at hu)
       have hl:(ns.map (Value.int .u8)).length=m.toNat:=by rw[←h1];simp;omega
       rw[hl]at this
       exact this
     ·cases h
    ·split at h
     ·rename_i l _ _ _ _ k hk
      have hsub:=qx hm hk
      cases h
      simp only[TV.ev,SV.ev,CV.ev]
      rw[run_convert_bytes_string w s d el _ _ _ hs he hd]
      rw[mD,Bool.or_eq_true,dx,ah,decide_eq_true_eq]at hn
      have hsev:∀ a b:E,gT ρ (mkIte (mkEq x (.lit (-1))) a b)=if ak ρ x= -1 then gT ρ a else gT ρ b:=by
       intro a b
       have hq:=dx ρ x (.lit (-1))
       rw[ah]at hq
       unfold mkIte
       split
       ·rename_i e;rw[e,cq]at hq;rw[if_pos (by simpa using hq.symm)]
       ·rename_i e;rw[e,dK]at hq;rw[if_neg (by simpa using hq.symm)]
       ·split
        ·rename_i e;subst e;simp
        ·rw[aO,hq];simp
      rw[hsev]
      by_cases hx:ak ρ x= -1
      ·rw[if_pos hx,hx,cW];rfl
      ·rw[if_neg hx]
       have hn:=hn.resolve_left hx
       rw[mD,Bool.or_eq_true,dx,ah,decide_eq_true_eq]at hn
       by_cases hl0:ak ρ l=0
       ·rw[hl0,aN,hl0]
        cases hp:ar (ak ρ x) (ak ρ y)with
        | none =>
         have h1:=fv (ak ρ x) (ak ρ y)
         rw[hp]at h1
         exact absurd (by simpa using h1) hx
        | some a0 =>
         rw[run_bytesToString w a0 _ _ []]
         ·rfl
         ·exact run_loadCells_list (P:=P) w a0 [] (fun j u hu=>by cases hu)
       have hn:=hn.resolve_left hl0
       rw[aL,Bool.and_eq_true,aL,Bool.and_eq_true,aY,aY,ah,decide_eq_true_eq,decide_eq_true_eq,tN]at hn
       obtain⟨hx0,hy0,hby⟩:=hn
       rw[aq hx0,aN]
       rw[run_bytesToString w _ _ _ (dV (ρ.h k) (ak ρ x).toNat (ak ρ y).toNat (ak ρ l).toNat)]
       ·rfl
       ·have:=run_loadCells_list (P:=P) w ⟨(ak ρ x).toNat,(ak ρ y).toNat,none⟩ ((dV (ρ.h k) (ak ρ x).toNat (ak ρ y).toNat (ak ρ l).toNat).map (Value.int .u8)) (fun j u hu=>by
         rw[c7]
         unfold dV at hu
         rw[List.map_map,List.getElem?_map]at hu
         by_cases hj:j<(ak ρ l).toNat
         ·rw[List.getElem?_range hj]at hu
          simp only[Option.map_some,Option.some.injEq,Function.comp]at hu
          rw[←hu]
          exact Hl.fm hsub (sj hby j hj)
         ·rw[List.getElem?_eq_none (by simp;omega)]at hu;cases hu)
        have hl:((dV (ρ.h k) (ak ρ x).toNat (ak ρ y).toNat (ak ρ l).toNat).map (Value.int .u8)).length=(ak ρ l).toNat:=by simp [dV]
        rw[hl]at this
        exact this
     ·cases h
  ·cases h
 ·cases h
theorem qy {m b o:Nat} (fl:Field) (hs:dd P fl.type=some (m+1)):(fieldPlace ⟨b,o,none⟩ fl).run P w=.ok ⟨b,o+fl.offset,none⟩ w:=by
 unfold fieldPlace
 simp only[Sem.run_bind,cO hs,Result.andThen_ok,Nat.add_eq_zero_iff,Nat.one_ne_zero,and_false,if_false,Sem.run_pure,c7]
theorem lD {x y:Int} (hx:0≤x) (hy:0≤y) (n:Nat):ar x (y+n)=some ⟨x.toNat,y.toNat+n,none⟩:=by
 rw[aq hx];congr 2;omega
theorem qw (hm:MRel S w0 ρ mem w) {a:Nat} (h:(mT mem a).isSome=true):0≤ρ.i a:=by
 obtain⟨⟨p,l,T⟩,hp⟩:=Option.isSome_iff_exists.1 h
 exact hm.pos _ (List.mem_of_getElem? (dE hp))
theorem jS {o s:Nat} {i:Int} (h:0≤i):((o:Int)+(s:Int)*i)=((o+s*i.toNat:Nat):Int):=by
 obtain⟨q,hq⟩:=Int.eq_ofNat_of_zero_le h
 rw[hq,Int.toNat_natCast];simp
theorem nO (hm:MRel S w0 ρ mem w) {s:TypeId} {f:Nat} {x:TV} (h:l7 P mem s f x=some (n,v)) (hn:bo ρ n=true):(Instr.fieldAt s (x.ev ρ) f).run P w=.ok (v.ev ρ) w:=by
 unfold l7 at h
 split at h
 ·rename_i fs hu
  split at h
  ·rename_i fl hf
   split at h
   ·rename_i m hs
    have key:∀ b o,(Instr.fieldAt s (.pointer (some ⟨b,o,none⟩)) f).run P w=.ok (.pointer (some ⟨b,o+fl.offset,none⟩)) w:=fun b o=>by
     unfold Instr.fieldAt
     simp only[Sem.run_bind,run_underlying hu,Result.andThen_ok,hf,Instr.sureAddr,Sem.run_pure,qy fl hs]
    split at h
    ·rename_i x y
     cases h
     rw[aL,Bool.and_eq_true,aY,ah,decide_eq_true_eq]at hn
     have hx:=hm.wP hn.1
     simp only[TV.ev,SV.ev,CV.ev,cZ,ah]
     rw[aq hx,key,lD hx hn.2]
    ·rename_i a o s' n' i
     split at h
     ·rename_i ha
      cases h
      obtain⟨h0,h1⟩:=fD hn
      have hx:=qw hm ha
      simp only[TV.ev,SV.ev,CV.ev]
      rw[aq hx,key,jS h0,jS h0,Int.toNat_natCast,aq hx,Int.toNat_natCast]
      congr 4
      omega
     ·cases h
    ·cases h
   ·cases h
  ·cases h
 ·cases h
theorem iJ {t el:TypeId} {len m b o:Nat} {k:IntKind} {i:Int} (hu:P.underlying t=some (.array len el)) (hs:dd P el=some m) (h0:0≤i) (h1:i<len) :
 (Instr.indexAt t (.pointer (some ⟨b,o,none⟩)) (.int k i)).run P w=.ok (.pointer (some ⟨b,o+i.toNat*m,none⟩)) w:=by
 unfold Instr.indexAt
 simp only[asIntOf,Sem.run_bind,Sem.run_pure,Result.andThen_ok,run_underlying hu,Instr.sureAddr,h0,h1,and_self,if_true,cO hs,c7]
theorem iX {t el:TypeId} {len c m b o:Nat} {k:IntKind} {i:Int} (hu:P.underlying t=some (.slice el)) (hs:dd P el=some m) (h0:0≤i) (h1:i<len) :
 (Instr.indexAt t (.slice (some ⟨b,o,none⟩) len c) (.int k i)).run P w=.ok (.pointer (some ⟨b,o+i.toNat*m,none⟩)) w:=by
 unfold Instr.indexAt
 simp only[asIntOf,Sem.run_bind,Sem.run_pure,Result.andThen_ok,run_underlying hu,h0,h1,and_self,if_true,cO hs,c7]
theorem lu {i:Int} (h:0≤i) (m:Nat):i*(m:Int)=((i.toNat*m:Nat):Int):=by
 obtain⟨q,hq⟩:=Int.eq_ofNat_of_zero_le h
 rw[hq,Int.toNat_natCast];simp
theorem nQ (hm:MRel S w0 ρ mem w) {t:TypeId} {x i:TV} (h:l9 P mem t x i=some (n,v)) (hn:bo ρ n=true):(Instr.indexAt t (x.ev ρ) (i.ev ρ)).run P w=.ok (v.ev ρ) w:=by
 unfold l9 at h
 split at h
 ·rename_i k e
  split at h
  ·rename_i len el hu
   split at h
   ·rename_i m a o s q kk hs
    split at h
    ·rename_i j
     split at h
     ·rename_i hj
      cases h
      obtain⟨h0,h1⟩:=fD hn
      have hx:=qw hm hj.2.2
      simp only[TV.ev,SV.ev,CV.ev,ah]
      rw[aq hx,iJ hu hs hj.1 hj.2.1,jS h0,jS h0,Int.toNat_natCast,aq hx,Int.toNat_natCast]
      congr 4
      omega
     ·cases h
    ·cases h
   ·rename_i m x y hs
    split at h
    ·rename_i j _
     split at h
     ·rename_i hj
      cases h
      rw[aL,Bool.and_eq_true,aY,ah,decide_eq_true_eq]at hn
      have hx:=hm.wP hn.1
      simp only[TV.ev,SV.ev,CV.ev,ah,cZ]
      rw[aq hx,iJ hu hs hj.1 hj.2,←Int.natCast_mul,lD hx hn.2]
     ·cases h
    ·rename_i e a p l T o _ hk0
     obtain⟨rfl,rfl,hk⟩:=eQ hk0
     cases h
     obtain⟨h0,h1⟩:=fD hn
     have hx:0≤ρ.i a:=hm.pos _ (List.mem_of_getElem? hk)
     simp only[TV.ev,SV.ev,CV.ev,ai,ah]
     rw[aq hx,Int.toNat_natCast,iJ hu hs h0 h1,jS h0,aq hx,Int.toNat_natCast,Nat.mul_comm]
    ·rename_i e _ _
     cases h
     rw[aL,Bool.and_eq_true,aL,Bool.and_eq_true,aY,ah,decide_eq_true_eq]at hn
     obtain⟨hx,hy,hb⟩:=hn
     have hx:=hm.wP hx
     obtain⟨h0,h1⟩:=fD hb
     simp only[TV.ev,SV.ev,CV.ev,cZ,jq,ah]
     rw[aq hx,iJ hu hs h0 h1,lu h0,lD hx hy]
   ·cases h
  ·rename_i el hu
   split at h
   ·rename_i m x y l c hs
    split at h
    ·rename_i j _ _
     cases h
     rw[aL,Bool.and_eq_true,aL,Bool.and_eq_true,aL,Bool.and_eq_true,aY,aY,fL,decide_eq_true_eq,decide_eq_true_eq,decide_eq_true_eq,ah,ah]at hn
     obtain⟨hx,hy,h0,h1⟩:=hn
     have hx:=hm.wP hx
     simp only[TV.ev,SV.ev,CV.ev,cZ,jq,ah]
     rw[aq hx,iX hu hs h0 (by omega),lu h0,lD hx hy]
    ·rename_i a p l' T o q _ hk0
     obtain⟨rfl,rfl,hk⟩:=eQ hk0
     cases h
     rw[aL,Bool.and_eq_true]at hn
     obtain⟨h0,h1⟩:=fD hn.1
     have hx:0≤ρ.i a:=hm.pos _ (List.mem_of_getElem? hk)
     simp only[TV.ev,SV.ev,CV.ev,ai,ah]
     rw[aq hx,Int.toNat_natCast,iX hu hs h0 (by omega),jS h0,aq hx,Int.toNat_natCast,Nat.mul_comm]
    ·cases h
     rw[aL,Bool.and_eq_true,aL,Bool.and_eq_true,aL,Bool.and_eq_true,aY,aY,fL,decide_eq_true_eq,decide_eq_true_eq,decide_eq_true_eq,ah]at hn
     obtain⟨hx,hy,h0,h1⟩:=hn
     have hx:=hm.wP hx
     simp only[TV.ev,SV.ev,CV.ev,cZ,jq,ah]
     rw[aq hx,iX hu hs h0 (by omega),lu h0,lD hx hy]
   ·cases h
  ·cases h
 ·cases h
theorem ui {t:TypeId} {f:Nat} {x:TV} (h:yt P t f x=some (n,v)):(Instr.field t (x.ev ρ) f).run P w=.ok (v.ev ρ) w:=by
 unfold yt at h
 split at h
 ·rename_i fs l hu
  split at h
  ·rename_i fl hf
   simp only[Option.map_eq_some_iff,Prod.mk.injEq]at h
   obtain⟨u,hu',_,rfl⟩:=h
   unfold Instr.field
   simp only[Sem.run_bind,run_underlying hu,Result.andThen_ok,hf,TV.ev,SV.ev,asAgg,Sem.run_pure]
   exact eS hu'
  ·cases h
 ·cases h
theorem sM {t el:TypeId} {len m:Nat} {k:IntKind} {i:Int} {l:List CV} {u:SV} (hu:P.underlying t=some (.array len el)) (hs:dd P el=some m) (h0:0≤i) (h1:i<len)
 (hl:dO P el l (i.toNat*m)=some u):(Instr.index t (.agg (l.map (CV.ev ρ)).toArray) (.int k i)).run P w=.ok (u.ev ρ) w:=by
 unfold Instr.index
 simp only[asIntOf,Sem.run_bind,Sem.run_pure,Result.andThen_ok,run_underlying hu,h0,h1,and_self,if_true,cO hs]
 exact eS hl
theorem uw {t:TypeId} {x i:TV} (h:yJ P t x i=some (n,v)) (hn:bo ρ n=true):(Instr.index t (x.ev ρ) (i.ev ρ)).run P w=.ok (v.ev ρ) w:=by
 unfold yJ at h
 split at h
 ·rename_i len el l k e hu
  split at h
  ·rename_i m hs
   split at h
   ·rename_i j
    split at h
    ·rename_i hj
     simp only[Option.map_eq_some_iff,Prod.mk.injEq]at h
     obtain⟨u,hu',_,rfl⟩:=h
     simp only[TV.ev,SV.ev,CV.ev,ah]
     exact sM hu hs hj.1 hj.2 hu'
    ·cases h
   ·split at h
    ·rename_i vs hvs
     simp only[Option.map_eq_some_iff,Prod.mk.injEq]at h
     obtain⟨u,hu',rfl,rfl⟩:=h
     obtain⟨h0,h1⟩:=fD hn
     obtain⟨hlen,hget⟩:=iF hvs
     simp only[List.length_map,List.length_range]at hlen
     obtain⟨z,hz,hzv⟩:=rG vs 0 u hu' (by omega) (by omega)
     have hz':=hget _ _ hz
     rw[Nat.sub_zero,List.getElem?_map,List.getElem?_range (by omega)]at hz'
     simp only[Option.map_some,Option.some.injEq]at hz'
     simp only[TV.ev,hzv]
     exact sM hu hs h0 h1 hz'
    ·cases h
  ·cases h
 ·rename_i s k e hu
  cases h
  rw[aL,Bool.and_eq_true,aY,fL,decide_eq_true_eq,decide_eq_true_eq,ah,ik]at hn
  obtain⟨h0,h1⟩:=hn
  unfold Instr.index
  simp only[TV.ev,SV.ev,CV.ev,asIntOf,Sem.run_bind,Sem.run_pure,Result.andThen_ok,run_underlying hu,h0,if_true]
  have hlt:(ak ρ e).toNat<(gT ρ s).size:=by omega
  have e1:(gT ρ s)[(ak ρ e).toNat]?=some ((gT ρ s)[(ak ρ e).toNat]'hlt):=getElem?_pos (gT ρ s) (ak ρ e).toNat hlt
  have e2:(gT ρ s).data[(ak ρ e).toNat]?.getD 0=(gT ρ s)[(ak ρ e).toNat]'hlt:=by
   rw[getElem?_pos (gT ρ s).data (ak ρ e).toNat hlt];rfl
  simp only[e1,Bg,e2]
  rfl
 ·cases h
theorem qv {i:Nat} {x:TV} (h:qu i x=some (n,v)):(Instr.extract (x.ev ρ) i).run P w=.ok (v.ev ρ) w:=by
 unfold qu at h
 split at h
 ·simp only[Option.map_eq_some_iff,Prod.mk.injEq]at h
  obtain⟨u,hu,_,rfl⟩:=h
  unfold Instr.extract
  simp only[TV.ev]
  have:((List.map (SV.ev ρ) ‹_›).toArray)[i]?=some (u.ev ρ):=by simp [hu]
  simp only[this]
  rfl
 ·cases h
theorem yN (hm:MRel S w0 ρ mem w) {t ty:TypeId} {ats:Array TypeId} {x:TV} (ht:ats[0]?=some t) (h:Gn P mem t x=some (n,v)) (hn:bo ρ n=true):(Builtin.len_ ats ty #[x.ev ρ]).run P w=.ok (v.ev ρ) w:=by
 unfold Gn at h
 unfold Builtin.len_
 have h0:(#[x.ev ρ]:Array Value)[0]?=some (x.ev ρ):=rfl
 simp only[ht,h0]
 split at h
 ·rename_i m _ hu
  cases h
  simp only[Sem.run_bind,run_underlying hu,Result.andThen_ok]
  rfl
 ·rename_i el _ _ l _ hu
  cases h
  rw[aY,decide_eq_true_eq,ah]at hn
  simp only[Sem.run_bind,run_underlying hu,Result.andThen_ok,TV.ev,SV.ev,CV.ev,Sem.run_pure,goInt,Int.toNat_of_nonneg hn]
 ·rename_i e hu
  cases h
  simp only[Sem.run_bind,run_underlying hu,Result.andThen_ok,TV.ev,SV.ev,CV.ev,Sem.run_pure,goInt,ik]
 ·rename_i k vt x hu
  split at h
  ·rename_i q hq
   have hsub:=qx hm hq
   cases h
   rw[aL,Bool.and_eq_true,aL,Bool.and_eq_true,aY,ah,decide_eq_true_eq,Cm]at hn
   obtain⟨hx,_,he⟩:=hn
   have hne:¬ak ρ x= -1:=by omega
   obtain⟨es,c,he⟩:∃ es c,ρ.h q (ak ρ x).toNat=some (.map es c):=by
    revert he;generalize ρ.h q (ak ρ x).toNat=o;intro he
    cases o with
    | none=>cases he
    | some o=>cases o<;>first | exact⟨_,_,rfl⟩ | cases he
   have hw:=hsub _ _ he
   simp only[Sem.run_bind,run_underlying hu,Result.andThen_ok,TV.ev,SV.ev,CV.ev,if_neg hne,Sem.run_pure,goInt,au,he,yT]
   simp [getObj,Sem.run,hw]
  ·cases h
 ·cases h
theorem yX {x y z:TV} (h:Gv x y=some z):(Builtin.min2 (x.ev ρ) (y.ev ρ)).run P w=.ok (z.ev ρ) w:=by
 unfold Gv at h
 split at h
 ·cases h
  simp only[TV.ev,SV.ev,CV.ev,Builtin.min2,fC,fL,decide_eq_true_eq,Sem.run_pure]
 ·cases h
theorem yV {x y z:TV} (h:Gu x y=some z):(Builtin.max2 (x.ev ρ) (y.ev ρ)).run P w=.ok (z.ev ρ) w:=by
 unfold Gu at h
 split at h
 ·cases h
  simp only[TV.ev,SV.ev,CV.ev,Builtin.max2,fC,fL,decide_eq_true_eq,Sem.run_pure,GT.gt]
 ·cases h
theorem kn {f:TV→TV→Option TV} {F:Value→Value→Sem Value} (hf:∀ x y z,f x y=some z→(F (x.ev ρ) (y.ev ρ)).run P w=.ok (z.ev ρ) w) :
 ∀ (l:List TV) (x z:TV),wo f l x=some z→((l.map (TV.ev ρ)).foldlM F (x.ev ρ)).run P w=.ok (z.ev ρ) w
 | [],x,z,h=>by cases h;rfl
 | y::l,x,z,h=>by
  simp only[wo]at h
  split at h
  ·rename_i u hu
   simp only[List.map_cons,List.foldlM_cons,Sem.run_bind,hf x y u hu,Result.andThen_ok]
   exact kn hf l u z h
  ·cases h
theorem fJ (h:Rel S w0 ρ st a w):∀ (l:List Operand) (vs:List TV),oV st l=some vs→l.map a.eval=vs.map (TV.ev ρ)
 | [],vs,ho=>by cases ho;rfl
 | x::l,vs,ho=>by
  simp only[oV]at ho
  split at ho
  ·rename_i v1 v2 h1 h2
   cases ho
   simp only[List.map_cons,ay h h1,fJ h l _ h2]
  ·cases ho
theorem qa (hm:MRel S w0 ρ mem w) {b:Builtin} {ats:Array TypeId} {ty:TypeId} {cs:Array Bool} {vs:List TV} (h:p6 P mem b ats vs=some (n,v)) (hn:bo ρ n=true) :
 (builtin b ats ty cs (vs.map (TV.ev ρ)).toArray).run P w=.ok (.value (v.ev ρ)) w:=by
 unfold p6 at h
 split at h
 ·split at h
  ·rename_i t ht
   have:=yN hm (ty:=ty) ht h hn
   unfold builtin
   simp only[List.map_cons,List.map_nil,Sem.run_bind,this,Result.andThen_ok,Sem.run_pure]
  ·cases h
 ·simp only[Option.map_eq_some_iff,Prod.mk.injEq]at h
  obtain⟨u,hu,_,rfl⟩:=h
  have:=kn (P:=P) (w:=w) (ρ:=ρ) (fun x y z=>yX) _ _ _ hu
  unfold builtin
  simp only[List.map_cons,Sem.run_bind,Builtin.min_,this,Result.andThen_ok,Sem.run_pure]
 ·simp only[Option.map_eq_some_iff,Prod.mk.injEq]at h
  obtain⟨u,hu,_,rfl⟩:=h
  have:=kn (P:=P) (w:=w) (ρ:=ρ) (fun x y z=>yV) _ _ _ hu
  unfold builtin
  simp only[List.map_cons,Sem.run_bind,Builtin.max_,this,Result.andThen_ok,Sem.run_pure]
 ·cases h
theorem mW (off:Nat):∀ (vs:List Value) (k:Nat) (arr:Array Value),off+k+vs.length≤arr.size →
 (vs.zipIdx k).foldl (fun cs (p:Value×Nat)=>cs.setIfInBounds (off+p.2) p.1) arr=(bG arr.toList (off+k) vs).toArray
 | [],k,arr,h=>by simp [bG]
 | x::vs,k,arr,h=>by
  simp only[List.length_cons]at h
  rw[List.zipIdx_cons,List.foldl_cons,mW off vs (k+1) _ (by simp;omega)]
  congr 1
  have:=list_seg_step arr.toList (off+k) x vs (by simp;omega)
  simpa [bG,Array.toList_setIfInBounds,Nat.add_assoc] using this
theorem iI {place:Nat→Option (Nat×Nat)} : ∀ (ps:List (Nat×SV)) (l r:List CV),sE place l ps=some r →
 Instr.fill place (l.map (CV.ev ρ)).toArray (ps.map fun p=>(p.1,p.2.ev ρ))=some (r.map (CV.ev ρ)).toArray
 | [],l,r,h=>by cases h;rfl
 | (i,v)::ps,l,r,h=>by
  simp only[sE]at h
  split at h
  ·cases h
  ·rename_i off size hp
   split at h
   ·rename_i hc
    obtain⟨h1,h2,h3⟩:=hc
    have hcs:=SV.mK (ρ:=ρ) v h3
    have hsz:(v.ev ρ).cells.size=v.cells.length:=by rw[←Array.length_toList,hcs];simp
    have hle:¬off+(v.ev ρ).cells.size>(l.map (CV.ev ρ)).toArray.size:=by rw[hsz];simp;omega
    simp only[List.map_cons,Instr.fill,hp]
    rw[if_neg (by simp only[hsz,h1,ne_eq,not_true_eq_false,decide_false,Bool.false_or,decide_eq_true_eq];rw[←h1,←hsz];exact hle)]
    have e:(v.ev ρ).cells.zipIdx.foldl (fun cs (p:Value×Nat)=>cs.setIfInBounds (off+p.2) p.1) (l.map (CV.ev ρ)).toArray=((bG l off v.cells).map (CV.ev ρ)).toArray:=by
     rw[←Array.foldl_toList,Array.toList_zipIdx,hcs]
     have:=mW off (v.cells.map (CV.ev ρ)) 0 (l.map (CV.ev ρ)).toArray (by simp;omega)
     rw[this]
     simp [bG,List.map_append,List.map_take,List.map_drop]
    have ih:=iI ps _ _ h
    rw[←ih]
    exact congrArg (fun z=>Instr.fill place z _) e
   ·cases h
theorem zG:∀ (l:List TV) (m:List SV),GY l=some m→l.map (TV.ev ρ)=m.map (SV.ev ρ)
 | [],m,h=>by cases h;rfl
 | .sv v::l,m,h=>by
  simp only[GY,Option.map_eq_some_iff]at h
  obtain⟨r,hr,rfl⟩:=h
  simp only[List.map_cons,zG l r hr];rfl
 | .tup _::l,m,h=>by simp [GY]at h
theorem rj:∀ (fs:List Field) (ps:List (Nat×Nat)),fq (fs.map fun f=>(dd P f.type).map fun n=>(f.offset,n))=some ps →
 (fs.mapM fun(f:Field)=>(do pure (f.offset,←sizeOf f.type):Sem (Nat×Nat))).run P w=.ok ps w
 | [],ps,h=>by cases h;rfl
 | f::fs,ps,h=>by
  simp only[List.map_cons]at h
  cases hs:dd P f.type with
  | none=>simp [hs,fq]at h
  | some m =>
   simp only[hs,Option.map_some,fq,Option.map_eq_some_iff]at h
   obtain⟨r,hr,rfl⟩:=h
   have ih:=rj fs r hr
   simp only[List.mapM_cons,Sem.run_bind,cO hs,Result.andThen_ok,Sem.run_pure,ih]
theorem qN {α β γ:Type} {f:α→β} {h:α→γ} : ∀ (l:List α),l.map (fun x=>(f x,h x))=(l.map f).zip (l.map h)
 | []=>rfl
 | x::l=>by simp [qN l]
theorem zS:∀ (is:List Nat) (vs:List SV),(is.zip vs).map (fun p=>(p.1,p.2.ev ρ))=is.zip (vs.map (SV.ev ρ))
 | [],_=>rfl
 | _::_,[]=>rfl
 | i::is,v::vs=>by simp [zS is vs]
theorem tQ {t:TypeId} {is:List Nat} {vs:List TV} (h:yc P t is vs=some (n,v)):(Instr.build t (is.zip (vs.map (TV.ev ρ))).toArray).run P w=.ok (v.ev ρ) w:=by
 unfold yc at h
 split at h
 ·rename_i z us hz hus
  rw[zG _ _ hus,←zS]
  have hzc:z.cells=((z.cells.toList.map fE).map (CV.ev ρ)).toArray:=by rw[gr]
  unfold Instr.build
  simp only[Sem.run_bind,jB hz,Result.andThen_ok]
  split at h
  ·rename_i fs hu
   split at h
   ·rename_i places hp
    simp only[Option.map_eq_some_iff,Prod.mk.injEq]at h
    obtain⟨r,hr,_,rfl⟩:=h
    have hf:=iI (ρ:=ρ) _ _ _ hr
    rw[←hzc]at hf
    have hpl:(fs.mapM fun(f:Field)=>(do pure (f.offset,←sizeOf f.type):Sem (Nat×Nat))).run P w=.ok places.toArray w:=by
     have:=rj (w:=w) _ _ hp
     obtain⟨fs⟩:=fs
     simp only[List.mapM_toArray,Sem.run_map,this,Result.andThen_ok]
    simp only[run_underlying hu,Result.andThen_ok,Sem.run_bind,hpl]
    have e:(fun(i:Nat)=>places.toArray[i]?)=(fun(i:Nat)=>places[i]?):=by funext i;simp
    simp only[e,hf]
    rfl
   ·cases h
  ·rename_i m el hu
   split at h
   ·rename_i q hs
    simp only[Option.map_eq_some_iff,Prod.mk.injEq]at h
    obtain⟨r,hr,_,rfl⟩:=h
    have hf:=iI (ρ:=ρ) _ _ _ hr
    rw[←hzc]at hf
    simp only[run_underlying hu,Result.andThen_ok,Sem.run_bind,cO hs,hf]
    rfl
   ·cases h
  ·cases h
 ·cases h
theorem kl {rec:TypeId→SV→SV→Option E} {D:Nat} (hrec:∀ t x y e,rec t x y=some e→(Op.equalIn D t (x.ev ρ) (y.ev ρ)).run P w=.ok (bo ρ e) w) {xs ys:List CV} :
 ∀ (fs:List Field) (e:E),we P rec xs ys fs=some e→(Op.eqFields D (xs.map (CV.ev ρ)).toArray (ys.map (CV.ev ρ)).toArray fs).run P w=.ok (bo ρ e) w
 | [],e,h=>by cases h;simp [Op.eqFields,cq]
 | f::fs,e,h=>by
  unfold we at h
  unfold Op.eqFields
  split at h
  ·rename_i hn
   rw[if_pos hn]
   split at h
   ·rename_i a b ha hb
    split at h
    ·rename_i q r hq hr
     cases h
     have ih:=kl hrec fs r hr
     simp only[Sem.run_bind,eS ha,eS hb,Result.andThen_ok,hrec _ _ _ _ hq,aL]
     cases hb:bo ρ q with
     | true=>simpa using ih
     | false=>simp
    ·cases h
   ·cases h
  ·rename_i hn
   rw[if_neg hn]
   exact kl hrec fs e h
theorem oG {rec:TypeId→SV→SV→Option E} {D:Nat} (hrec:∀ t x y e,rec t x y=some e→(Op.equalIn D t (x.ev ρ) (y.ev ρ)).run P w=.ok (bo ρ e) w) {t:TypeId} {xs ys:List CV} :
 ∀ (is:List Nat) (e:E),Af P rec t xs ys is=some e→(Op.eqItems D t (P.cellsOf t) (xs.map (CV.ev ρ)).toArray (ys.map (CV.ev ρ)).toArray is).run P w=.ok (bo ρ e) w
 | [],e,h=>by cases h;simp [Op.eqItems,cq]
 | i::is,e,h=>by
  unfold Af at h
  unfold Op.eqItems
  split at h
  ·rename_i a b ha hb
   split at h
   ·rename_i q r hq hr
    cases h
    have ih:=oG hrec is r hr
    simp only[Sem.run_bind,eS ha,eS hb,Result.andThen_ok,hrec _ _ _ _ hq,aL]
    cases hb:bo ρ q with
    | true=>simpa using ih
    | false=>simp
   ·cases h
  ·cases h
theorem xU (a b:ByteArray):(a==b)=decide (a=b):=by
 rw[Bool.eq_iff_iff]
 simp only[decide_eq_true_eq]
 cases a;cases b
 simp only[BEq.beq,ByteArray.beq,ByteArray.mk.injEq]
 exact⟨fun h=>Array.eq_of_isEqv _ _ (by simpa [BEq.beq] using h),fun h=>by subst h;simpa [BEq.beq] using Array.isEqv_self _⟩
theorem yp {d:Nat} {t:TypeId} {a b:CV} {e:E} (h:uf P (d+1) t (.one a) (.one b)=some e):(∃ k x k' y,a=.int k x∧b=.int k' y)∨(∃ x y,a=.str x∧b=.str y)∨(∃ x y,a=.bool x∧b=.bool y)∨(∃ x y l c x' y' l' c',a=.sl x y l c∧b=.sl x' y' l' c')∨(∃ x y x' y',a=.hptr x y∧b=.hptr x' y')∨(∃ x y,a=.map x∧b=.map y):=by
 unfold uf at h
 cases hu:P.underlying t with
 | none=>simp [hu]at h
 | some d'=>cases d'<;>simp only[hu]at h<;>first | (cases h;done) | (cases a<;>first | (cases h;done) | (cases b<;>first | (cases h;done) | simp))
theorem kD {x x':E} {e:E} (he:(if x'=.lit (-1)then some (mkEq x (.lit (-1)))else if x=.lit (-1)then some (mkEq x' (.lit (-1)))else none)=some e) :
 (ak ρ x'= -1∧bo ρ e=decide (ak ρ x= -1))∨(ak ρ x= -1∧bo ρ e=decide (ak ρ x'= -1)):=by
 split at he
 ·rename_i hx;cases he;subst hx;exact Or.inl ⟨rfl,by rw[dx];rfl⟩
 ·split at he
  ·rename_i hx;cases he;subst hx;exact Or.inr ⟨rfl,by rw[dx];rfl⟩
  ·cases he
theorem l6:∀ (d:Nat) (t:TypeId) (x y:SV) (e:E) (D:Nat),d≤D→uf P d t x y=some e→(Op.equalIn D t (x.ev ρ) (y.ev ρ)).run P w=.ok (bo ρ e) w
 | 0,_,_,_,_,_,_,h=>by cases h
 | d+1,t,x,y,e,D,hD,h=>by
  obtain⟨D,rfl⟩:∃ D',D=D'+1:=⟨D-1,by omega⟩
  have ih:∀ t x y e,uf P d t x y=some e→(Op.equalIn D t (x.ev ρ) (y.ev ρ)).run P w=.ok (bo ρ e) w:=fun t x y e h=>l6 d t x y e D (by omega) h
  unfold uf at h
  split at h
  ·rename_i hu
   split at h
   ·cases h
    simp [Op.equalIn,Sem.run_bind,run_underlying hu,SV.ev,CV.ev,A3]
   ·cases h
  ·rename_i kk hu
   split at h
   ·split at h
    ·rename_i hk
     subst hk
     cases h
     simp [Op.equalIn,Sem.run_bind,run_underlying hu,SV.ev,CV.ev,dx]
     rfl
    ·cases h
   ·cases h
  ·rename_i hu
   split at h
   ·rename_i a b
    cases h
    have:(gT ρ a==gT ρ b)=decide (gT ρ a=gT ρ b):=xU _ _
    simp only[Op.equalIn,Sem.run_bind,run_underlying hu,SV.ev,CV.ev,nJ,Result.andThen_ok,Sem.run_pure,this]
   ·cases h
  ·rename_i el hu
   split at h
   ·rename_i x l1 q1 z1 x' l2 q2 z2
    rw[Op.equalIn]
    simp only[Sem.run_bind,run_underlying hu,Result.andThen_ok,SV.ev,CV.ev]
    rcases kD (ρ:=ρ) h with ⟨h1,h2⟩ | ⟨h1,h2⟩
    ·rw[h1,cW,h2]
     cases hs:ar (ak ρ x) (ak ρ l1)with
     | none=>have:=fv (ak ρ x) (ak ρ l1);rw[hs]at this;simp at this;simp [this]
     | some q=>have:=fv (ak ρ x) (ak ρ l1);rw[hs]at this;simp at this;simp [this]
    ·rw[h1,cW,h2]
     simp [fv]
   ·cases h
  ·rename_i el hu
   split at h
   ·rename_i x l1 x' l2
    rw[Op.equalIn]
    simp only[Sem.run_bind,run_underlying hu,Result.andThen_ok,SV.ev,CV.ev]
    rcases kD (ρ:=ρ) h with ⟨h1,h2⟩ | ⟨h1,h2⟩
    ·rw[h1,cW,h2]
     cases hs:ar (ak ρ x) (ak ρ l1)with
     | none=>have:=fv (ak ρ x) (ak ρ l1);rw[hs]at this;simp at this;simp [this]
     | some q=>have:=fv (ak ρ x) (ak ρ l1);rw[hs]at this;simp at this;simp [this]
    ·rw[h1,cW,h2]
     simp [fv]
   ·cases h
  ·rename_i k el hu
   split at h
   ·rename_i x x'
    rw[Op.equalIn]
    simp only[Sem.run_bind,run_underlying hu,Result.andThen_ok,SV.ev,CV.ev]
    rcases kD (ρ:=ρ) h with ⟨h1,h2⟩ | ⟨h1,h2⟩
    ·rw[h1,if_pos rfl,h2]
     by_cases hx:ak ρ x= -1
     ·simp [hx]
     ·simp [hx]
    ·rw[h1,if_pos rfl,h2]
     by_cases hx:ak ρ x'= -1
     ·simp [hx]
     ·simp [hx]
   ·cases h
  ·rename_i fs hu
   split at h
   ·split at h
    ·rename_i hp
     have hf:P.fieldsOf t=fs:=by simp [Program.fieldsOf,hu]
     simp only[SV.ev]
     rw[run_equalIn_struct w D t _ _ (by rw[hf];exact hu) hp,hf]
     exact kl ih _ _ h
    ·cases h
   ·cases h
  ·rename_i n el hu
   split at h
   ·split at h
    ·rename_i i hi
     simp only[SV.ev]
     rw[run_equalIn_array w D _ _ hu hi]
     exact oG ih _ _ h
    ·cases h
   ·cases h
  ·cases h
theorem x7 {op:BinOp} {t:TypeId} {x y:TV} {X Y:Operand} (h:FQ P op t x y=some (n,v)) (hn:bo ρ n=true) :
 Sem.run P (do eqGuard op t X Y (x.ev ρ) (y.ev ρ);binOp op t (x.ev ρ) (y.ev ρ)) w=.ok (v.ev ρ) w:=by
 unfold FQ at h
 split at h
 ·rename_i k a k' b
  have:=x8 (T:=t) (w:=w) (P:=P) h hn
  simp only[TV.ev,SV.ev,CV.ev]at this ⊢
  have hg:(eqGuard op t X Y (.int k (ak ρ a)) (.int k' (ak ρ b))).run P w=.ok () w:=by
   unfold eqGuard;split<;>rfl
  simp only[Sem.run_bind,hg,Result.andThen_ok]
  exact this
 ·rename_i a b
  have:=x9 (T:=t) (w:=w) (P:=P) h hn
  simp only[TV.ev,SV.ev,CV.ev]at this ⊢
  have hg:(eqGuard op t X Y (.string (gT ρ a)) (.string (gT ρ b))).run P w=.ok () w:=by
   unfold eqGuard;split<;>rfl
  simp only[Sem.run_bind,hg,Result.andThen_ok]
  exact this
 ·rename_i a b hni hns
  split at h
  ·rename_i e he
   have heq:(Op.equal t (a.ev ρ) (b.ev ρ)).run P w=.ok (bo ρ e) w:=l6 20 t _ _ e 10000 (by decide) he
   have hsh:(∃ x y,a=.bool x∧b=.bool y)∨(∃ x y l c x' y' l' c',a=.sl x y l c∧b=.sl x' y' l' c')∨(∃ x y x' y',a=.hptr x y∧b=.hptr x' y')∨(∃ x y,a=.map x∧b=.map y):=by
    rcases yp he with ⟨_,_,_,_,rfl,rfl⟩ | ⟨_,_,rfl,rfl⟩ | h | h | h | h
    ·exact(hni _ _ _ _ rfl rfl).elim
    ·exact(hns _ _ rfl rfl).elim
    ·exact Or.inl h
    ·exact Or.inr (Or.inl h)
    ·exact Or.inr (Or.inr (Or.inl h))
    ·exact Or.inr (Or.inr (Or.inr h))
   rcases hsh with ⟨x,y,rfl,rfl⟩ | ⟨x,y,l,c,x',y',l',c',rfl,rfl⟩ | ⟨x,y,x',y',rfl,rfl⟩ | ⟨x,y,rfl,rfl⟩
   all_goals
    split at h
    ·cases h
     simp only[TV.ev,SV.ev]at heq ⊢
     simp only[CV.ev]at heq ⊢
     simp only[Sem.run_bind,eqGuard,binOp,heq,Sem.run_pure,Result.andThen_ok]
     simp [heq]
    ·cases h
     simp only[TV.ev,SV.ev]at heq ⊢
     simp only[CV.ev]at heq ⊢
     simp [Sem.run_bind,eqGuard,binOp,heq,cE]
    ·cases h
  ·cases h
 ·rename_i a b
  split at h
  ·rename_i hgt
   have hg:∀ op,(eqGuard op t X Y (SV.ev ρ (.agg a)) (SV.ev ρ (.agg b))).run P w=.ok () w:=by
    intro op;cases op<;>simp [eqGuard,SV.ev,Sem.run_bind,run_program,hgt]
   split at h
   ·rename_i e he
    have heq:(Op.equal t (SV.ev ρ (.agg a)) (SV.ev ρ (.agg b))).run P w=.ok (bo ρ e) w:=l6 20 t _ _ e 10000 (by decide) he
    split at h
    ·cases h
     simp only[SV.ev]at hg heq
     simp only[TV.ev,SV.ev,CV.ev,Sem.run_bind,hg,Result.andThen_ok,binOp,heq,Sem.run_pure]
    ·cases h
     simp only[SV.ev]at hg heq
     simp only[TV.ev,SV.ev,CV.ev,Sem.run_bind,hg,Result.andThen_ok,binOp,heq,Sem.run_pure,cE]
    ·cases h
   ·cases h
  ·cases h
 ·cases h
end
end Go.Sx
namespace Go.Sx
open Go
section
variable {P:Program} {S:Nat→Prop} {w0:World} {ρ:Env} {st:St} {mem:Mem} {a:Act} {w:World} {n:E} {v:TV}
theorem MRel.DB (h:MRel S w0 ρ mem w) {x:E} (hx:bo ρ (DB mem x)=true):-1≤ak ρ x:=by
 unfold Sx.DB at hx
 split at hx
 ·split at hx
  ·rename_i a ha
   have:=qw h ha
   rw[ai];omega
  ·rw[iT,ah,decide_eq_true_eq]at hx;exact hx
 ·rw[aY,ah,decide_eq_true_eq]at hx;exact hx
theorem dY {k:IntKind} {i:Int} {y:Nat} {code:BoundsCode} (h0:0≤i) (h1:i≤y):(Instr.sliceBound (.int k i) y code).run P w=.ok i.toNat w:=by
 unfold Instr.sliceBound
 simp only[asIntOf,Sem.run_bind,Sem.run_pure,Result.andThen_ok,h0,h1,and_self,if_true]
theorem ji {d:E} {x:Option TV} {e:E} (h:iV d x=some e):(x=none∧e=d)∨∃ k,x.map (TV.ev ρ)=some (.int k (ak ρ e)):=by
 unfold iV at h
 split at h
 ·cases h;exact Or.inl ⟨rfl,rfl⟩
 ·cases h;exact Or.inr ⟨_,rfl⟩
 ·cases h
theorem gU {isSlice:Bool} {len cap:Nat} {lo hi:Option TV} {dl dh l h:E} (hl:iV dl lo=some l) (hh:iV dh hi=some h) (h0:ak ρ dl=0) (h1:ak ρ dh=len)
 (a0:0≤ak ρ l) (a1:ak ρ l≤ak ρ h) (a2:ak ρ h≤cap) :
 (Instr.sliceBounds isSlice len cap (lo.map (TV.ev ρ)) (hi.map (TV.ev ρ)) none).run P w=.ok ((ak ρ l).toNat,(ak ρ h).toNat,cap) w:=by
 unfold Instr.sliceBounds
 simp only[Sem.run_bind,Sem.run_pure,Result.andThen_ok]
 rcases ji (ρ:=ρ) hh with ⟨rfl,rfl⟩ | ⟨k,hk⟩
 ·simp only[Option.map_none,Sem.run_pure,Result.andThen_ok]
  rw[h1]
  rcases ji (ρ:=ρ) hl with ⟨rfl,rfl⟩ | ⟨k',hk'⟩
  ·simp only[Option.map_none,Sem.run_pure,Result.andThen_ok,h0,Int.toNat_natCast]
   rfl
  ·simp only[hk',Sem.run_bind,Sem.run_pure,Result.andThen_ok]
   rw[dY a0 (by omega)]
   simp
 ·simp only[hk,Sem.run_bind]
  rw[dY (by omega) a2]
  simp only[Result.andThen_ok]
  rcases ji (ρ:=ρ) hl with ⟨rfl,rfl⟩ | ⟨k',hk'⟩
  ·simp only[Option.map_none,Sem.run_pure,Result.andThen_ok,h0]
   rfl
  ·simp only[hk',Sem.run_bind]
   rw[dY a0 (by omega)]
   simp
theorem om {m l y:E} {k:Nat} (hl:0≤ak ρ l):ak ρ (rN m l y k)=if ak ρ m=ak ρ l then ak ρ y else ak ρ y+(((ak ρ l).toNat*k:Nat):Int):=by
 unfold rN
 rw[fC,dx,cZ,jq,ah,lu hl]
 by_cases h:ak ρ m=ak ρ l<;>simp [h]
theorem xw {x y:Int} (hx:-1≤x) (hy:0≤y) (k:Nat):(ar x y).map (·.add k)=ar x (y+k):=by
 by_cases h:0≤x
 ·rw[aq h,lD h hy,Option.map_some,c7]
 ·have:x= -1:=by omega
  subst this;rfl
theorem vf (hm:MRel S w0 ρ mem w) {t:TypeId} {x:TV} {lo hi mx:Option TV} (h:zx P mem t x lo hi mx=some (n,v)) (hn:bo ρ n=true) :
 (Instr.sliceAt t (x.ev ρ) (lo.map (TV.ev ρ)) (hi.map (TV.ev ρ)) (mx.map (TV.ev ρ))).run P w=.ok (v.ev ρ) w:=by
 unfold zx at h
 split at h
 ·cases h
 ·split at h
  ·rename_i s hu
   split at h
   ·rename_i l hh hl hh'
    cases h
    rw[aL,Bool.and_eq_true,aL,Bool.and_eq_true,aY,aY,aY,ah,decide_eq_true_eq,decide_eq_true_eq,decide_eq_true_eq,ik]at hn
    obtain⟨a0,a1,a2⟩:=hn
    have hb:=gU (P:=P) (w:=w) (isSlice:=false) (len:=(gT ρ s).size) (cap:=(gT ρ s).size) hl hh' (ah _ _) (ik _ _) a0 a1 a2
    unfold Instr.sliceAt
    simp only[Sem.run_bind,run_underlying hu,Result.andThen_ok]
    unfold Instr.slice
    simp only[Sem.run_bind,run_underlying hu,Result.andThen_ok,TV.ev,SV.ev,CV.ev,Option.map_none,Option.isSome_none,Bool.false_eq_true,if_false,Sem.run_pure,hb,D3]
   ·cases h
  ·rename_i el x y len cap hu
   split at h
   ·rename_i l hh k hl hh' hs
    cases h
    rw[aL,Bool.and_eq_true,aL,Bool.and_eq_true,aL,Bool.and_eq_true,aL,Bool.and_eq_true,aY,aY,aY,aY,ah,decide_eq_true_eq,decide_eq_true_eq,decide_eq_true_eq,decide_eq_true_eq]at hn
    obtain⟨hx,hy,a0,a1,a2⟩:=hn
    have hx:=hm.DB hx
    by_cases hlen:0≤ak ρ len
    ·have hb:=gU (P:=P) (w:=w) (isSlice:=true) (len:=(ak ρ len).toNat) (cap:=(ak ρ cap).toNat) hl hh' (ah _ _) (by rw[Int.toNat_of_nonneg hlen]) a0 a1 (by omega)
     unfold Instr.sliceAt
     simp only[Sem.run_bind,run_underlying hu,Result.andThen_ok]
     unfold Instr.slice
     simp only[Sem.run_bind,run_underlying hu,Result.andThen_ok,TV.ev,SV.ev,CV.ev,Option.map_none,hb,cO hs,Sem.run_pure,om a0,jr]
     congr 2
     ·by_cases hc:ak ρ cap=ak ρ l
      ·rw[if_pos (by rw[hc]),if_pos hc]
      ·rw[if_neg (by omega),if_neg hc,xw hx hy]
     ·omega
     ·omega
    ·
     rcases ji (ρ:=ρ) hh' with ⟨rfl,rfl⟩ | ⟨kk,hk⟩
     ·omega
     ·unfold Instr.sliceAt
      simp only[Sem.run_bind,run_underlying hu,Result.andThen_ok]
      unfold Instr.slice
      simp only[Sem.run_bind,run_underlying hu,Result.andThen_ok,TV.ev,SV.ev,CV.ev,Option.map_none]
      have hb:(Instr.sliceBounds true (ak ρ len).toNat (ak ρ cap).toNat (lo.map (TV.ev ρ)) (hi.map (TV.ev ρ)) none).run P w=.ok ((ak ρ l).toNat,(ak ρ hh).toNat,(ak ρ cap).toNat) w:=by
       unfold Instr.sliceBounds
       simp only[Sem.run_bind,Sem.run_pure,Result.andThen_ok,hk]
       rw[dY (by omega) (by omega)]
       simp only[Result.andThen_ok]
       rcases ji (ρ:=ρ) hl with ⟨rfl,rfl⟩ | ⟨k',hk'⟩
       ·simp only[Option.map_none,Sem.run_pure,Result.andThen_ok,ah]
        rfl
       ·simp only[hk',Sem.run_bind]
        rw[dY a0 (by omega)]
        simp
      simp only[hb,cO hs,Sem.run_pure,om a0,jr,Result.andThen_ok]
      congr 2
      ·by_cases hc:ak ρ cap=ak ρ l
       ·rw[if_pos (by rw[hc]),if_pos hc]
       ·rw[if_neg (by omega),if_neg hc,xw hx hy]
      ·omega
      ·omega
   ·cases h
  ·rename_i q el x y hu
   split at h
   ·rename_i l hh k hl hh' hs
    cases h
    rw[aL,Bool.and_eq_true,aL,Bool.and_eq_true,aL,Bool.and_eq_true,aL,Bool.and_eq_true,aY,aY,aY,aY,ah,ah,decide_eq_true_eq,decide_eq_true_eq,decide_eq_true_eq,decide_eq_true_eq]at hn
    obtain⟨hx,hy,a0,a1,a2⟩:=hn
    have hx:=hm.wP hx
    have hb:=gU (P:=P) (w:=w) (isSlice:=false) (len:=q) (cap:=q) hl hh' (ah _ _) (ah _ _) a0 a1 a2
    have es:ak ρ (rN (.lit q) l y k)=if(q:Int)=ak ρ l then ak ρ y else ak ρ y+(((ak ρ l).toNat*k:Nat):Int):=om a0
    unfold Instr.sliceAt
    simp only[Sem.run_bind,run_underlying hu,Result.andThen_ok,TV.ev,SV.ev,CV.ev,aq hx,Instr.sureAddr,Sem.run_pure,Option.map_none,hb,cO hs,es,jr,ah]
    congr 2
    ·by_cases hc:(q:Int)=ak ρ l
     ·rw[if_pos (by omega),if_pos hc]
     ·rw[if_neg (by omega),if_neg hc,c7];congr 2;omega
    ·omega
    ·omega
   ·cases h
  ·cases h
theorem qZ {o:Option Operand} {x:Option TV} (hr:Rel S w0 ρ st a w) (h:(match o with | none=>some none | some o=>(cB st o).map some)=some x):o.map a.eval=x.map (TV.ev ρ):=by
 cases o with
 | none=>simp only[Option.some.injEq]at h;subst h;rfl
 | some o =>
  simp only[Option.map_eq_some_iff]at h
  obtain⟨y,hy,rfl⟩:=h
  simp [ay hr hy]
theorem uG (hr:Rel S w0 ρ st a w) {op:BinOp} {t:TypeId} {x y:Operand} (h:yZ P st op t x y=some (n,v)) (hn:bo ρ n=true) :
 Sem.run P (do eqGuard op t x y (a.eval x) (a.eval y);binOp op t (a.eval x) (a.eval y)) w=.ok (v.ev ρ) w:=by
 unfold yZ at h
 split at h
 ·rename_i j hx
  have e1:=ay hr hx
  simp only[TV.ev,SV.ev,CV.ev]at e1
  have e2:a.eval (.const .nilIface)=.nilIface:=rfl
  split at h
  ·rename_i ms ht
   have heq:(Op.equal t (ρ.v j) .nilIface).run P w=.ok (decide (j8 (ρ.v j)=0)) w:=by
    have hd:∀ v:Value,v=.nilIface∨(∃ t x,v=.iface t x)→(Op.equal t v .nilIface).run P w=.ok (decide (j8 v=0)) w:=by
     rintro v (rfl | ⟨t',x',rfl⟩)
     ·show(Op.equalIn (9999+1) t .nilIface .nilIface).run P w=_
      rw[Op.equalIn]
      simp only[Sem.run_bind,run_underlying ht,Result.andThen_ok,Sem.run_pure,j8]
      rfl
     ·show(Op.equalIn (9999+1) t (.iface t' x') .nilIface).run P w=_
      rw[Op.equalIn]
      simp only[Sem.run_bind,run_underlying ht,Result.andThen_ok,Sem.run_pure,j8]
      rfl
    refine hd _ (xJ ?_)
    split at h
    ·cases h
     rw[iT,decide_eq_true_eq]at hn
     exact hn
    ·cases h
     rw[iT,decide_eq_true_eq]at hn
     exact hn
    ·cases h
   have hv:ρ.v j=.nilIface∨(∃ t x,ρ.v j=.iface t x):=by
    refine xJ ?_
    split at h
    ·cases h
     rw[iT,decide_eq_true_eq]at hn
     exact hn
    ·cases h
     rw[iT,decide_eq_true_eq]at hn
     exact hn
    ·cases h
   have hg:∀ op,(eqGuard op t x (.const .nilIface) (ρ.v j) .nilIface).run P w=.ok () w:=by
    intro op
    rcases hv with h | ⟨t',x',h⟩<;>rw[h]<;>cases op<;>simp [eqGuard]
   have hb:(binOp .eql t (ρ.v j) .nilIface).run P w=.ok (.bool (decide (j8 (ρ.v j)=0))) w∧(binOp .neq t (ρ.v j) .nilIface).run P w=.ok (.bool (!decide (j8 (ρ.v j)=0))) w:=by
    rcases hv with h | ⟨t',x',h⟩<;>rw[h]at heq ⊢<;>constructor<;>simp only[binOp,Sem.run_bind,heq,Result.andThen_ok,Sem.run_pure]
   split at h
   ·cases h
    simp only[e1,e2,Sem.run_bind,hg,Result.andThen_ok,hb.1]
    rfl
   ·cases h
    simp only[e1,e2,Sem.run_bind,hg,Result.andThen_ok,hb.2]
    rfl
   ·cases h
  ·cases h
 ·cases h
theorem kJ (hr:Rel S w0 ρ st a w) {o:Oper} (h:quiet P st o.op=some (n,v)) (hn:bo ρ n=true) :
 (execOp a.eval o).run P w=.ok (.value (v.ev ρ)) w:=by
 obtain⟨dst,op,ty,pos,af,gd⟩:=o
 simp only at h
 unfold quiet at h
 split at h
 ·rename_i x
  simp only[Option.map_eq_some_iff,Prod.mk.injEq]at h
  obtain⟨y,hy,_,rfl⟩:=h
  simp only[execOp,Sem.run_pure,ay hr hy]
 ·rename_i x
  simp only[Option.map_eq_some_iff,Prod.mk.injEq]at h
  obtain⟨y,hy,_,rfl⟩:=h
  simp only[execOp,Sem.run_pure,ay hr hy]
 ·rename_i c x y
  split at h
  ·rename_i e hc
   have e1:=ay hr hc
   simp only[TV.ev,SV.ev,CV.ev]at e1
   split at h
   ·rename_i hk
    simp only[Option.map_eq_some_iff,Prod.mk.injEq]at h
    obtain⟨z,hz,_,rfl⟩:=h
    simp only[execOp,Sem.run_bind,e1,dg hr.path hk,asBool,Sem.run_pure,Result.andThen_ok,if_true,ay hr hz]
   ·rename_i hk
    simp only[Option.map_eq_some_iff,Prod.mk.injEq]at h
    obtain⟨z,hz,_,rfl⟩:=h
    simp only[execOp,Sem.run_bind,e1,dg hr.path hk,asBool,Sem.run_pure,Result.andThen_ok,if_false,Bool.false_eq_true,ay hr hz]
   ·split at h
    ·rename_i va vb ha hb
     simp only[Option.map_eq_some_iff,Prod.mk.injEq]at h
     obtain⟨u,hu,_,rfl⟩:=h
     have em:=qO (ρ:=ρ) hu
     simp only[execOp,Sem.run_bind,e1,asBool,Sem.run_pure,Result.andThen_ok,TV.ev,em,ay hr ha,ay hr hb]
    ·cases h
  ·cases h
 ·rename_i x
  split at h
  ·rename_i p q hx
   cases h
   have hp:=hr.toMRel.wP hn
   have e1:=ay hr hx
   simp only[TV.ev,SV.ev,CV.ev]at e1
   simp only[execOp,e1,TV.ev,SV.ev,CV.ev,aq hp,Sem.run_pure]
  ·cases h
 ·rename_i op t x y _
  split at h
  ·rename_i r hnc
   cases h
   have:=uG hr hnc hn
   unfold execOp
   simp only[Sem.run_bind]at this ⊢
   rw[this]
   simp only[Result.andThen_ok,Sem.run_pure]
  split at h
  ·rename_i v1 v2 hx hy
   have e1:=ay hr hx
   have e2:=ay hr hy
   have:=x7 (w:=w) (X:=x) (Y:=y) h hn
   rw[←e1,←e2]at this
   unfold execOp
   simp only[Sem.run_bind]at this ⊢
   rw[this]
   simp only[Result.andThen_ok,Sem.run_pure]
  ·cases h
 ·rename_i op t x
  split at h
  ·rename_i v1 hx
   simp only[execOp,Sem.run_bind,ay hr hx,B2 (w:=w) (P:=P) (ρ:=ρ) h,Result.andThen_ok,Sem.run_pure]
  ·cases h
 ·rename_i s d x
  split at h
  ·rename_i v1 hx
   simp only[execOp,Sem.run_bind,ay hr hx,vY hr.toMRel h hn,Result.andThen_ok,Sem.run_pure]
  ·cases h
 ·rename_i s x f
  split at h
  ·rename_i v1 hx
   simp only[execOp,Sem.run_bind,ay hr hx,nO hr.toMRel h hn,Result.andThen_ok,Sem.run_pure]
  ·cases h
 ·rename_i s x f
  split at h
  ·rename_i v1 hx
   simp only[execOp,Sem.run_bind,ay hr hx,ui (w:=w) (ρ:=ρ) h,Result.andThen_ok,Sem.run_pure]
  ·cases h
 ·rename_i t x y
  split at h
  ·rename_i v1 v2 hx hy
   simp only[execOp,Sem.run_bind,ay hr hx,ay hr hy,nQ hr.toMRel h hn,Result.andThen_ok,Sem.run_pure]
  ·cases h
 ·rename_i t x y
  split at h
  ·rename_i v1 v2 hx hy
   simp only[execOp,Sem.run_bind,ay hr hx,ay hr hy,uw (w:=w) h hn,Result.andThen_ok,Sem.run_pure]
  ·cases h
 ·rename_i t x
  split at h
  ·rename_i c hx
   simp only[Option.map_eq_some_iff,Prod.mk.injEq]at h
   obtain⟨⟨nn,u⟩,hu,rfl,rfl⟩:=h
   have e1:=ay hr hx
   obtain⟨p,hp,hl⟩:=oM hr.toMRel hu hn
   simp only[TV.ev,SV.ev,hp]at e1
   simp only[execOp,Sem.run_bind,e1,Instr.loadAt,Instr.sureAddr,Sem.run_pure,Result.andThen_ok,hl,TV.ev]
  ·cases h
 ·rename_i x i
  split at h
  ·rename_i v1 hx
   simp only[execOp,Sem.run_bind,ay hr hx,qv (w:=w) (P:=P) (ρ:=ρ) h,Result.andThen_ok,Sem.run_pure]
  ·cases h
 ·rename_i t x
  split at h
  ·rename_i q el x' y l c hu hx
   cases h
   rw[aY,ah,decide_eq_true_eq]at hn
   have e1:=ay hr hx
   simp only[TV.ev,SV.ev,CV.ev]at e1
   have:¬(ak ρ l).toNat<q:=by omega
   simp only[execOp,Sem.run_bind,e1,Instr.arrayAt,run_underlying hu,Result.andThen_ok,if_neg this,Sem.run_pure,TV.ev,SV.ev,CV.ev]
  ·cases h
 ·rename_i t x lo hi mx
  split at h
  ·rename_i v1 hx
   split at h
   ·rename_i l hh m h1 h2 h3
    have:=vf hr.toMRel h hn
    rw[←qZ hr h1,←qZ hr h2,←qZ hr h3,←ay hr hx]at this
    simp only[execOp,Sem.run_bind,this,Result.andThen_ok,Sem.run_pure]
   ·cases h
  ·cases h
 ·rename_i f first captured
  split at h
  ·rename_i hc
   cases h
   obtain⟨rfl,rfl⟩:=hc
   simp [execOp,Sem.run_bind,Instr.makeFunc,TV.ev,SV.ev,CV.ev]
  ·split at h
   ·rename_i c hcap
    split at h
    ·rename_i hf
     split at h
     ·rename_i x y hx
      split at h
      ·rename_i hy
       cases h
       subst hy;subst hf
       have e1:=ay hr hx
       simp only[TV.ev,SV.ev,CV.ev,ah]at e1
       have ec:captured=#[c]:=by
        obtain⟨l⟩:=captured;simp only at hcap;subst hcap;rfl
       subst ec
       simp [execOp,Sem.run_bind,Instr.makeFunc,TV.ev,SV.ev,CV.ev,e1]
      ·cases h
     ·cases h
    ·cases h
   ·cases h
 ·rename_i b args ats
  split at h
  ·rename_i vs hx
   have e1:=fJ hr _ _ hx
   have e2:args.map a.eval=(vs.map (TV.ev ρ)).toArray:=by
    rw[←e1];obtain⟨l⟩:=args;exact List.map_toArray
   rw[BigFrame.execOp_builtin,e2]
   exact qa hr.toMRel h hn
  ·cases h
 ·rename_i t parts
  split at h
  ·rename_i vs hx
   have e1:=fJ hr _ _ hx
   have e2:(parts.map fun p=>(p.1,a.eval p.2))=((parts.toList.map (·.1)).zip (vs.map (TV.ev ρ))).toArray:=by
    rw[←e1,List.map_map,←qN parts.toList]
    obtain⟨l⟩:=parts;exact List.map_toArray
   have:=tQ (w:=w) (ρ:=ρ) h
   rw[←e2]at this
   simp only[execOp,Sem.run_bind,this,Result.andThen_ok,Sem.run_pure]
  ·cases h
 ·cases h
end
end Go.Sx
namespace Go.Sx
open Go
def Env.dv (ρ:Env) (n:Nat) (x:Int):Env:={ρ with i:=fun k=>if k=n then x else ρ.i k}
def Env.iE (ρ:Env) (n:Nat) (x:Hl):Env:={ρ with h:=fun k=>if k=n then x else ρ.h k}
def Env.Fk (ρ:Env) (n:Nat) (x:Value):Env:={ρ with v:=fun k=>if k=n then x else ρ.v k}
def Env.BR (ρ:Env) (n:Nat) (x:Bool):Env:={ρ with b:=fun k=>if k=n then x else ρ.b k}
def Env.Fj (ρ:Env) (n:Nat) (x:ByteArray):Env:={ρ with s:=fun k=>if k=n then x else ρ.s k}
section
variable (ρ:Env) (n m:Nat)
theorem jc (x:Int):(ρ.dv n x).i n=x:=by simp [Env.dv]
theorem AM (x:Int) (h:m≠n):(ρ.dv n x).i m=ρ.i m:=by simp [Env.dv,h]
theorem dX (x:Hl):(ρ.iE n x).h n=x:=by simp [Env.iE]
theorem bX {k:Nat} (x:Int) (h:n≤k):ae n ρ (ρ.dv k x):=⟨fun j hj=>by simp [Env.dv];omega,fun _ _=>rfl,fun _ _=>rfl,fun _ _=>rfl,fun _ _=>rfl⟩
theorem dn {k:Nat} (x:Hl) (h:n≤k):ae n ρ (ρ.iE k x):=⟨fun _ _=>rfl,fun _ _=>rfl,fun _ _=>rfl,fun _ _=>rfl,fun j hj=>by simp [Env.iE];omega⟩
theorem xP {k:Nat} (x:Value) (h:n≤k):ae n ρ (ρ.Fk k x):=⟨fun _ _=>rfl,fun _ _=>rfl,fun _ _=>rfl,fun j hj=>by simp [Env.Fk];omega,fun _ _=>rfl⟩
theorem pQ {k:Nat} (x:Bool) (h:n≤k):ae n ρ (ρ.BR k x):=⟨fun _ _=>rfl,fun j hj=>by simp [Env.BR];omega,fun _ _=>rfl,fun _ _=>rfl,fun _ _=>rfl⟩
theorem xO {k:Nat} (x:ByteArray) (h:n≤k):ae n ρ (ρ.Fj k x):=⟨fun _ _=>rfl,fun _ _=>rfl,fun j hj=>by simp [Env.Fj];omega,fun _ _=>rfl,fun _ _=>rfl⟩
end
def Hl.put (h:Hl) (x y:Nat) (vs:List Value):Hl:=fun b=>if b=x then
 match h x with
 | some (.cells c T fr)=>some (.cells (bG c.toList y vs).toArray T fr)
 | o=>o
 else h b
def Hl.wr (h:Hl) (x y n:Nat):Bool :=
 match h x with
 | some (.cells c _ fr)=>decide (y+n≤c.size)&&(decide (fr.2≤y)||decide (y+n≤fr.1))
 | _=>false
theorem Hl.gE {h:Hl} {x y b:Nat} {vs:List Value} : (h.put x y vs).mem b↔h.mem b:=by
 unfold Hl.mem Hl.put
 split
 ·rename_i e;subst e;split
  ·rename_i c T fr hb;simp [hb]
  ·rfl
 ·rfl
def Hl.un (a b:Hl):Hl:=fun k=>(a k).or (b k)
def dF (l:List Hl):Hl:=l.foldr Hl.un Hl.none
def Hl.le (a b:Hl):Prop:=∀ k o,a k=some o→b k=some o
theorem Hl.vp {a b:Hl} {k:Nat} : (a.un b).mem k↔a.mem k∨b.mem k:=by
 unfold Hl.mem Hl.un
 cases a k<;>simp
theorem Hl.Ei {a b:Hl} {w:World} (h1:a.sub w) (h2:b.sub w):(a.un b).sub w:=by
 intro k o h
 unfold Hl.un at h
 cases ha:a k with
 | some x=>rw[ha]at h;cases h;exact h1 _ _ ha
 | none=>rw[ha]at h;exact h2 _ _ h
def bR (h:Hl) (e:TypeId) (size:Nat) (v:Value) (n:Nat) (xs:List Value):Prop :=
 xs.length=n*size ∧
 ((v=.slice none 0 0∧n=0) ∨
  ∃ g cap cur,v=.slice (some ⟨g,0,none⟩) n cap∧h g=some (.cells cur e (0,0))∧n≤cap∧cap≤maxLen∧cur.size=cap*size∧cur.toList.take (n*size)=xs)
inductive Src | cvs (l:List CV) (m:Nat) | seg (h:Nat) (x y l:E)
def cl (h:Hl) (x y n:Nat):List Value:=(List.range n).map fun j=>(h.cell x (y+j)).getD (.tuple #[])
def Src.len (ρ:Env):Src→Nat
 | .cvs _ m=>m
 | .seg _ _ _ l=>(ak ρ l).toNat
def Src.bS (ρ:Env) (size:Nat):Src→List Value
 | .cvs l _=>l.map (CV.ev ρ)
 | .seg h x y l=>cl (ρ.h h) (ak ρ x).toNat (ak ρ y).toNat ((ak ρ l).toNat*size)
def Src.ok (ρ:Env) (size:Nat):Src→Prop
 | .cvs l m=>True
 | .seg h x y l=>(0≤ak ρ x∧0≤ak ρ y∧0≤ak ρ l∧∀ j,j<(ak ρ l).toNat*size→∃ v,(ρ.h h).cell (ak ρ x).toNat ((ak ρ y).toNat+j)=some v∧v.oneCell'=true)∨ak ρ l=0
def iK (kd:Kd) (key:Value) (es:Array MapEntry):Option (Option (Nat×Value)) :=
 match kd with
 | .int k=>Instr.findNow (.int k) key es.toList 0
 | .str=>Instr.findNow .string key es.toList 0
 | _=>none
def me (kd:Kd) (key val:Value) (es:Array MapEntry) (clock:Nat):Obj :=
 match iK kd key es with
 | some (some (i,_))=>.map (es.modify i fun e=>{e with key,val}) clock
 | _=>.map (es.push {key,val,born:=clock}) (clock+1)
def isAgg:Value→Bool
 | .agg _=>true
 | _=>false
def Hl.setObj (h:Hl) (x:Nat) (o:Obj):Hl:=fun b=>if b=x then some o else h b
inductive Ck | int (k:IntKind) | bool | str | any | ptr | sl | map
inductive Cp | one (k:Ck) | agg (ks:List Ck)
def Ck.len:Ck→Nat
 | .ptr=>2 | .sl=>4 | _=>1
def Ck.cv (n:Nat):Ck→CV
 | .int k=>.int k (.var n)
 | .bool=>.bool (.bvar n)
 | .str=>.str (.svar n)
 | .any=>.vr n
 | .ptr=>.hptr (.var n) (.var (n+1))
 | .sl=>.sl (.var n) (.var (n+1)) (.var (n+2)) (.var (n+3))
 | .map=>.map (.var n)
def Ck.root (n:Nat):Ck→List E
 | .ptr | .sl | .map=>[.var n]
 | _=>[]
def al:Nat→List Ck→List CV
 | _,[]=>[]
 | n,k::l=>k.cv n::al (n+k.len) l
def zX:Nat→List Ck→List E
 | _,[]=>[]
 | n,k::l=>k.root n++zX (n+k.len) l
def fM (l:List Ck):Nat:=(l.map Ck.len).sum
def Cp.sv (n:Nat):Cp→SV
 | .one k=>.one (k.cv n)
 | .agg ks=>.agg (al n ks)
def Cp.len:Cp→Nat
 | .one k=>k.len
 | .agg ks=>fM ks
def Cp.roots (n:Nat):Cp→List E
 | .one k=>k.root n
 | .agg ks=>zX n ks
def ct:Nat→List Cp→List SV
 | _,[]=>[]
 | n,c::l=>c.sv n::ct (n+c.len) l
def bO:Nat→List Cp→List E
 | _,[]=>[]
 | n,c::l=>c.roots n++bO (n+c.len) l
def Hi (l:List Cp):Nat:=(l.map Cp.len).sum
def df (n:Nat) (l:List Cp):TV :=
 match l with
 | [c]=>.sv (c.sv n)
 | l=>.tup (ct n l)
def iq:Value→Ck
 | .int k _=>.int k
 | .bool _=>.bool
 | .string _=>.str
 | .slice _ _ _=>.sl
 | .pointer _=>.ptr
 | .map _=>.map
 | _=>.any
def iy (n:Nat) (ks:List Ck) (agg:Bool):SV:=if agg then .agg (al n ks)else match ks with
 | [k]=>.one (k.cv n)
 | _=>.agg (al n ks)
def jo (ks:List Ck) (agg:Bool) (v:Value):Prop:=if agg then ∃ cs,v=.agg cs∧cs.toList.map iq=ks else ∃ k,ks=[k]∧iq v=k
def kf (n:Nat) (ρ:Env):Ck→Prop
 | .ptr=> -1≤ρ.i n∧0≤ρ.i (n+1)
 | .sl=> -1≤ρ.i n∧0≤ρ.i (n+1)∧0≤ρ.i (n+2)∧0≤ρ.i (n+3)
 | .map=> -1≤ρ.i n
 | _=>True
def gx:Nat→List Ck→Env→Prop
 | _,[],_=>True
 | n,k::l,ρ=>kf n ρ k∧gx (n+k.len) l ρ
def yj (n:Nat) (ρ:Env):Cp→Prop
 | .one k=>kf n ρ k
 | .agg ks=>gx n ks ρ
def dN:Nat→List Cp→Env→Prop
 | _,[],_=>True
 | n,c::l,ρ=>yj n ρ c∧dN (n+c.len) l ρ
inductive Iw | arg (i:Nat) | link (i j:Nat) | Io (i j k:Nat)
structure Spec where
 fn:FuncId
 own:List Iw
 rd:List Nat
 res:List Cp
 links:List Nat:=[]
 pre:List Value→List Hl→List Hl→Prop
 post:List Value→List Hl→List Hl→Value→List Hl→Hl→Prop
structure pO (w w':World) (Hs Hs':List Hl) (F:Hl):Prop where
 os:w'.os=w.os
 tape:w'.tape=w.tape
 output:w'.output=w.output
 size:w.heap.size≤w'.heap.size
 block:∀ b,b<w.heap.size→(∀ H∈Hs,¬H.mem b)→w'.heap[b]?=w.heap[b]?
 len:Hs'.length=Hs.length
 sub:∀ H∈Hs',H.sub w'
 fsub:F.sub w'
 dom:∀ H∈Hs',∀ b,H.mem b→(∃ K∈Hs,K.mem b)∨w.heap.size≤b
 fdom:∀ b,F.mem b→(∃ K∈Hs,K.mem b)∨w.heap.size≤b
 ch:∀ (p q:Nat) H K,p≠q→Hs'[p]?=some H→Hs'[q]?=some K→H.ch K
 fdis:∀ H∈Hs',H.ch F
def Spec.OK (P:Program) (s:Spec):Prop:=∀ w (xs:List Value) (Hs Rs:List Hl),Hs.length=s.own.length→Rs.length=s.rd.length →
 (∀ H∈Hs,H.sub w)→(∀ R∈Rs,R.sub w)→(∀ (p q:Nat) H K,p≠q→Hs[p]?=some H→Hs[q]?=some K→H.ch K)→(∀ H∈Hs,∀ R∈Rs,H.ch R)→s.pre xs Hs Rs →
 Calls P s.fn xs.toArray w fun e w'=>∃ (ρ:Env) (Hs':List Hl) (F:Hl),e=.returned ((df 0 s.res).ev ρ)∧dN 0 s.res ρ∧pO w w' Hs Hs' F∧s.post xs Hs Rs ((df 0 s.res).ev ρ) Hs' F
structure Ctx where
 Γ:List Spec
 inv:Nat→Env→Prop
 mu:Nat→Env→Nat
 post:Env→Mem→TV→Prop
inductive X
 | alloc (n:Nat)
 | put (n h:Nat) (x y:E) (cs:List CV)
 | app (n:Nat) (el:TypeId) (size bytes:Nat) (s:CV) (l:E) (H:bc) (src:Src)
 | grow (n:Nat) (el:TypeId) (size bytes:Nat) (olds:List CV) (l c:Nat) (src:Src)
 | mk (n:Nat) (el:TypeId) (z:List CV) (bytes:Nat) (l:E)
 | call (j n:Nat) (args:List TV) (own rd:List bc)
 | mnew (n:Nat)
 | mget (n h:Nat) (x:E) (kd:Kd) (key:CV) (z:SV) (ks:List Ck) (agg:Bool)
 | mset (n h:Nat) (x:E) (kd:Kd) (key:CV) (v:SV)
 | mclr (n h:Nat) (x:E)
 | cbs (n a:Nat) (cs:List CV) (T:TypeId)
 | Bx (n:Nat) (a b:bc)
 | cpy (n h:Nat) (x y ld:E) (hs:Nat) (xs ys ls:E)
def X.n:X→Nat
 | .mnew n | .mget n _ _ _ _ _ _ _ | .mset n _ _ _ _ _ | .mclr n _ _ | .cbs n _ _ _ | .Bx n _ _ | .cpy n _ _ _ _ _ _ _ _=>n
 | .alloc n | .put n _ _ _ _ | .app n _ _ _ _ _ _ _ | .grow n _ _ _ _ _ _ _ | .mk n _ _ _ _ | .call _ n _ _ _=>n
def newHs (ρ:Env) (n k:Nat):List Hl:=(List.range k).map fun j=>ρ.h (n+j)
def X.pre (C:Ctx) (ρ:Env):X→Prop
 | .alloc _=>True
 | .put _ h x y cs=>0≤ak ρ x∧0≤ak ρ y∧(ρ.h h).wr (ak ρ x).toNat (ak ρ y).toNat cs.length=true
 | .app _ el size bytes s l H src=>(∃ xs,bR (H.hl ρ) el size (s.ev ρ) (ak ρ l).toNat xs)∧0≤ak ρ l∧src.ok ρ size∧(ak ρ l).toNat+src.len ρ≤maxLen∧((ak ρ l).toNat+src.len ρ)*bytes≤140737488355328
 | .grow _ el size bytes olds l c src=>src.ok ρ size∧c<l+src.len ρ∧l+src.len ρ≤maxLen∧(l+src.len ρ)*bytes≤140737488355328
 | .mk _ el z bytes l=>0≤ak ρ l∧(bytes:Int)*ak ρ l≤281474976710656∧ak ρ l≤9223372036854775807
 | .call j _ args own rd=>match C.Γ[j]? with
  | some s=>s.pre (args.map (TV.ev ρ)) (own.map (bc.hl ρ)) (rd.map (bc.hl ρ))
  | none=>False
 | .mnew _=>True
 | .mget _ h x kd key z ks agg=>0≤ak ρ x∧∃ es clock r,ρ.h h (ak ρ x).toNat=some (.map es clock)∧iK kd (key.ev ρ) es=some r∧∀ i v,r=some (i,v)→jo ks agg v
 | .mset _ h x kd key v=>0≤ak ρ x∧∃ es clock r,ρ.h h (ak ρ x).toNat=some (.map es clock)∧iK kd (key.ev ρ) es=some r
 | .mclr _ h x=>0≤ak ρ x∧∃ es clock,ρ.h h (ak ρ x).toNat=some (.map es clock)
 | .cbs _ _ _ _=>True
 | .Bx _ _ _=>True
 | .cpy _ h x y ld hs xs ys ls=>(0≤ak ρ x∧0≤ak ρ y∧0≤ak ρ ld∧0≤ak ρ ls)∧(∃ c T,ρ.h h (ak ρ x).toNat=some (.cells c T (0,0))∧ak ρ y+min (ak ρ ls) (ak ρ ld)≤c.size) ∧
  (min (ak ρ ls) (ak ρ ld)=0∨0≤ak ρ xs∧0≤ak ρ ys∧cN (ρ.h hs) (ak ρ xs).toNat (ak ρ ys).toNat (min (ak ρ ls) (ak ρ ld)).toNat=true)
def X.rel (C:Ctx) (ρ ρ':Env):X→Prop
 | .alloc n=>0≤ρ'.i n
 | .put n h x y cs=>ρ'.h n=(ρ.h h).put (ak ρ x).toNat (ak ρ y).toNat (cs.map (CV.ev ρ))
 | .app n el size bytes s l H src =>
  -1≤ρ'.i n∧0≤ρ'.i (n+1) ∧
  (∀ xs,bR (H.hl ρ) el size (s.ev ρ) (ak ρ l).toNat xs→bR (ρ'.h n) el size (.slice (ar (ρ'.i n) 0) ((ak ρ l).toNat+src.len ρ) (ρ'.i (n+1)).toNat) ((ak ρ l).toNat+src.len ρ) (xs++src.bS ρ size)) ∧
  (∀ b,(H.hl ρ).mem b→some b≠(s.ev ρ).ownBlock→ρ'.h n b=H.hl ρ b) ∧
  (∀ b,(ρ'.h n).mem b→(H.hl ρ).mem b∨(b=(ρ'.i n).toNat∧0≤ρ'.i n)) ∧
  (some (ρ'.i n).toNat=(s.ev ρ).ownBlock∨¬(H.hl ρ).mem (ρ'.i n).toNat∨ρ'.i n= -1)
 | .grow n el size bytes olds l c src =>
  0≤ρ'.i n∧0≤ρ'.i (n+1) ∧
  bR (ρ'.h n) el size (.slice (ar (ρ'.i n) 0) (l+src.len ρ) (ρ'.i (n+1)).toNat) (l+src.len ρ) (olds.map (CV.ev ρ)++src.bS ρ size) ∧
  (∀ b,(ρ'.h n).mem b→b=(ρ'.i n).toNat)
 | .mk n el z bytes l=>0≤ρ'.i n∧ρ'.h n=Hl.one (ρ'.i n).toNat (.cells (madeCells (z.map (CV.ev ρ)).toArray ((ak ρ l).toNat*z.length)) el (0,0))
 | .call j n args own rd=>match C.Γ[j]? with
  | some s=>∃ F,s.post (args.map (TV.ev ρ)) (own.map (bc.hl ρ)) (rd.map (bc.hl ρ)) ((df n s.res).ev ρ') (newHs ρ' n own.length) F∧(bO 0 s.res≠[]→ρ'.h (n+own.length)=F)∧dN n s.res ρ'
  | none=>False
 | .mnew n=>0≤ρ'.i n∧ρ'.h n=Hl.one (ρ'.i n).toNat (.map #[] 0)
 | .mget n h x kd key z ks agg=>∀ es clock r,ρ.h h (ak ρ x).toNat=some (.map es clock)→iK kd (key.ev ρ) es=some r →
  (iy n ks agg).ev ρ'=(match r with | some (_,v)=>v | none=>z.ev ρ)∧ρ'.b (n+fM ks)=r.isSome
 | .mset n h x kd key v=>∀ es clock,ρ.h h (ak ρ x).toNat=some (.map es clock)→ρ'.h n=(ρ.h h).setObj (ak ρ x).toNat (me kd (key.ev ρ) (v.ev ρ) es clock)
 | .mclr n h x=>∀ es clock,ρ.h h (ak ρ x).toNat=some (.map es clock)→ρ'.h n=(ρ.h h).setObj (ak ρ x).toNat (.map #[] clock)
 | .cbs n a cs T=>ρ'.h n=Hl.one (ρ.i a).toNat (.cells (cs.map (CV.ev ρ)).toArray T (cs.length,cs.length+1))
 | .Bx n a b=>ρ'.h n=(a.hl ρ).un (b.hl ρ)∧(a.hl ρ).ch (b.hl ρ)
 | .cpy n h x y ld hs xs ys ls=>ρ'.h n=(ρ.h h).put (ak ρ x).toNat (ak ρ y).toNat (cl (ρ.h hs) (ak ρ xs).toNat (ak ρ ys).toNat (min (ak ρ ls) (ak ρ ld)).toNat)
structure As where
 n:Nat
 k:Nat
 c:CV
inductive Nd
 | tt | e (x:E) | and (a b:Nd) | imp (c:E) (a:Nd) | pre (x:X) | ext (x:X) (a:Nd)
 | inv (j:Nat) (A:List As) (hs:List (Nat×Option Nat)) | back (d j:Nat) (A:List As) (hs:List (Nat×Option Nat)) | havoc (d j n0:Nat) (a:Nd)
 | post (mem:Mem) (r:TV)
def assign (ρ:Env) (A:List As) (hs:List (Nat×Option Nat)):Env where
 i:=fun k=>match A.find? fun a=>a.n==k&&a.k==0 with
  | some a=>fg (some (a.c.ev ρ))
  | none=>ρ.i k
 b:=fun k=>match A.find? fun a=>a.n==k&&a.k==1 with
  | some a=>vv (some (a.c.ev ρ))
  | none=>ρ.b k
 s:=fun k=>match A.find? fun a=>a.n==k&&a.k==2 with
  | some a=>Ej (some (a.c.ev ρ))
  | none=>ρ.s k
 v:=fun k=>match A.find? fun a=>a.n==k&&a.k==3 with
  | some a=>a.c.ev ρ
  | none=>ρ.v k
 h:=fun k=>match hs.find? fun p=>p.1==k with
  | some (_,some q)=>ρ.h q
  | some (_,none)=>Hl.none
  | none=>ρ.h k
def Nd.holds (C:Ctx) (ms:Nat→Nat) (ρ:Env):Nd→Prop
 | .tt=>True
 | .e x=>bo ρ x=true
 | .and a b=>a.holds C ms ρ∧b.holds C ms ρ
 | .imp c a=>bo ρ c=true→a.holds C ms ρ
 | .pre x=>x.pre C ρ
 | .ext x a=>∀ ρ',ae x.n ρ ρ'→x.rel C ρ ρ'→a.holds C ms ρ'
 | .inv j A hs=>C.inv j (assign ρ A hs)
 | .back d j A hs=>C.inv j (assign ρ A hs)∧C.mu j (assign ρ A hs)<ms d
 | .havoc d j n0 a=>∀ ρ',ae n0 ρ ρ'→C.inv j ρ'→a.holds C (fun k=>if k=d then C.mu j ρ' else ms k) ρ'
 | .post mem r=>C.post ρ mem r
def HO:E→Nd
 | .tt=>.tt
 | x=>.e x
def j6:Nd→Nd→Nd
 | .tt,b=>b
 | a,.tt=>a
 | a,b=>.and a b
def oQ:E→Nd→Nd
 | _,.tt=>.tt
 | .tt,a=>a
 | c,a=>.imp c a
section
variable (C:Ctx) (ms:Nat→Nat)
theorem nV (x:E) (ρ:Env):(HO x).holds C ms ρ=(bo ρ x=true):=by
 unfold HO;split
 ·simp [Nd.holds,cq]
 ·rfl
theorem cX (a b:Nd) (ρ:Env):(j6 a b).holds C ms ρ=(a.holds C ms ρ∧b.holds C ms ρ):=by unfold j6;split<;>simp [Nd.holds]
theorem fG (c:E) (a:Nd) (ρ:Env):(oQ c a).holds C ms ρ=(bo ρ c=true→a.holds C ms ρ):=by unfold oQ;split<;>simp [Nd.holds,cq]
end
end Go.Sx
namespace Go.Sx
open Go
section
variable {P:Program} {w:World}
theorem xz (g o:Nat) (t:TypeId) (fr:Nat×Nat):∀ (vs:List Value) (i:Nat) (cur:Array Value) (w:World),w.heap[g]?=some (.cells cur t fr)→o+i+vs.length≤cur.size→(fr.2≤o+i∨o+i+vs.length≤fr.1)→(∀ v∈vs,v.oneCell'=true) →
 (storeCells ⟨g,o,none⟩ vs i).run P w=.ok () (w.setRow g (cur.toList.take (o+i)++vs++cur.toList.drop (o+i+vs.length)).toArray)
 | [],i,cur,w,hg,_,_,_=>by
  simp only[storeCells,List.append_nil,List.length_nil,Nat.add_zero,List.take_append_drop,Array.toArray_toList]
  rw[setRow_self w g cur t fr hg]
  rfl
 | v::rest,i,cur,w,hg,hl,hf,h1=>by
  have hi:o+i<cur.size:=by simp at hl;omega
  have hadd:(⟨g,o,none⟩:Addr).add i=⟨g,o+i,none⟩:=by unfold Addr.add;split<;>simp_all
  have hcell:w.cell? ⟨g,o+i,none⟩=some cur[o+i]:=by simp [World.cell?,hg,hi]
  have hfro:w.frozen? ⟨g,o+i,none⟩=false:=by
   obtain⟨lo,hi'⟩:=fr
   simp only[World.frozen?,hg,List.length_cons]at hf ⊢
   simp only[Bool.and_eq_false_iff,decide_eq_false_iff_not]
   omega
  have hst:(store ((⟨g,o,none⟩:Addr).add i) v).run P w=.ok () (w.setRow g (cur.setIfInBounds (o+i) v)):=by
   rw[hadd,run_store P w _ v _ (h1 v (by simp)),hcell]
   simp [hfro,setCell_eq_setRow w g (o+i) cur t fr v hg]
  have ih:=xz g o t fr rest (i+1) (cur.setIfInBounds (o+i) v) (w.setRow g (cur.setIfInBounds (o+i) v)) (setRow_heap w g cur _ t _ hg) (by simp at hl ⊢;omega) (by simp only[List.length_cons]at hf;omega) (fun x hx=>h1 x (by simp [hx]))
  simp only[storeCells,Sem.run_bind,hst,Result.andThen_ok,ih,setRow_setRow]
  congr 3
  have e:=list_seg_step cur.toList (o+i) v rest (by simp at hl ⊢;omega)
  simpa [Array.toList_setIfInBounds,Nat.add_assoc] using e
theorem E8 {h:Hl} (hs:h.sub w) {x y:Nat} {vs:List Value} {c:Array Value} {T:TypeId} {fr:Nat×Nat} (hx:h x=some (.cells c T fr)):(h.put x y vs).sub (w.setRow x (bG c.toList y vs).toArray):=by
 intro b o hb
 unfold Hl.put at hb
 split at hb
 ·rename_i e;subst e
  rw[hx]at hb
  cases hb
  exact setRow_heap w b c _ T fr (hs _ _ hx)
 ·rename_i e
  rw[setRow_other w x b _ e]
  exact hs b o hb
theorem xL {h:Hl} {x y n:Nat} (hw:h.wr x y n=true):∃ c T fr,h x=some (.cells c T fr)∧y+n≤c.size∧(fr.2≤y∨y+n≤fr.1):=by
 unfold Hl.wr at hw
 split at hw
 ·rename_i c T fr hx
  simp only[Bool.and_eq_true,Bool.or_eq_true,decide_eq_true_eq]at hw
  exact⟨c,T,fr,hx,hw.1,hw.2⟩
 ·cases hw
theorem Ea {h:Hl} (hs:h.sub w) {t:TypeId} {x y:Nat} {v:Value} {vs:List Value} (hsz:dd P t=some vs.length) (hv:v.cells.toList=vs) (h1:∀ u∈vs,u.oneCell'=true) (hw:h.wr x y vs.length=true) :
 ∃ cs,(storeVar t ⟨x,y,none⟩ v).run P w=.ok () (w.setRow x cs)∧(h.put x y vs).sub (w.setRow x cs):=by
 obtain⟨c,T,fr,hx,hle,hfr⟩:=xL hw
 refine⟨(bG c.toList y vs).toArray,?_,E8 hs hx⟩
 unfold storeVar
 have hsize:v.cells.size=vs.length:=by rw[←Array.length_toList,hv]
 simp only[Sem.run_bind,cO hsz,Result.andThen_ok,hsize,ne_eq,not_true_eq_false,if_false]
 rw[hv]
 have:=xz (P:=P) x y T fr vs 0 c w (hs _ _ hx) (by omega) (by omega) h1
 simp only[Nat.add_zero]at this
 rw[this]
 simp [bG]
theorem xb {H:Hl} (hs:H.sub w) {e:TypeId} {size:Nat} {v:Value} {n:Nat} {xs:List Value} (h:bR H e size v n xs):w.ownsRow 0 e size v n xs:=by
 refine⟨h.1,?_⟩
 rcases h.2 with h | ⟨g,cap,cur,rfl,hg,r1,r2,r3,r4⟩
 ·exact Or.inl h
 ·exact Or.inr ⟨g,cap,cur,rfl,Nat.zero_le _,hs _ _ hg,r1,r2,r3,r4⟩
def Cf (w:World) (u:Value) (m:Nat) (news:List Value):Prop :=
 (∃ a c,u=.slice (some a) m c∧∀ j x,news[j]?=some x→w.cell? (a.add j)=some x)∨((∃ c,u=.slice none 0 c)∧m=0∧news=[])
theorem vS (base:Nat) (t ty e:TypeId) (i:TypeInfo) (size:Nat) (ht:P.underlying t=some (.slice e)) (hi:P.info? e=some i)
 (v:Value) (n:Nat) (xs:List Value) (hown:w.ownsRow base e size v n xs) (c:Nat) :
 (Builtin.append_ #[t,t] ty #[v,.slice none 0 c]).run P w=.ok v w:=by
 rcases hown.2 with ⟨rfl,rfl⟩ | ⟨g,cap,cur,rfl,_,_,hnc,_⟩
 ·simp [Builtin.append_,run_underlying ht,sizeOf,typeInfo,hi,Builtin.lenOf,Builtin.firstCells]
 ·simp [Builtin.append_,run_underlying ht,sizeOf,typeInfo,hi,Builtin.lenOf,Builtin.firstCells,hnc,storeCells]
theorem xR {H:Hl} (hs:H.sub w) {t ty e:TypeId} {i:TypeInfo} {z:Value} {size bytes:Nat} (ht:P.underlying t=some (.slice e)) (hi:P.info? e=some i) (hz:i.zero=some z)
 (hsize:i.size=size) (hby:i.bytes=bytes) (hzs:z.cells.size=size) (hsz:0<size) {v:Value} {n:Nat} {xs:List Value} (ho:bR H e size v n xs)
 {u:Value} {m:Nat} {news:List Value} (hl:news.length=m*size) (hu:Cf w u m news) (h1:∀ x∈news,x.oneCell'=true) (h63:n+m≤maxLen) (hbytes:(n+m)*bytes≤140737488355328) :
 ∃ v' w' H',(Builtin.append_ #[t,t] ty #[v,u]).run P w=.ok v' w'∧bR H' e size v' (n+m) (xs++news)∧H'.sub w'∧w.grownBy w' v.ownBlock ∧
  (∀ b,H.mem b→some b≠v.ownBlock→H' b=H b)∧(∀ b,H'.mem b→H.mem b∨(v'.ownBlock=some b∧w.heap.size≤b))∧(v'.ownBlock=v.ownBlock∨∃ b,v'.ownBlock=some b∧w.heap.size≤b):=by
 subst hsize
 subst hby
 have hsmall:n+m≤9223372036854775807:=by simp only[maxLen]at h63;omega
 rcases hu with ⟨a,c,rfl,hnews⟩ | ⟨⟨c,rfl⟩,rfl,rfl⟩
 rotate_left
 ·refine⟨v,w,H,vS 0 t ty e i i.size ht hi v n xs (xb hs ho) c,by simpa using ho,hs,⟨rfl,rfl,rfl,Nat.le_refl _,fun _ _ _=>rfl⟩,fun _ _ _=>rfl,fun b hb=>Or.inl hb,Or.inl rfl⟩
 have hlen:(xs++news).length=(n+m)*i.size:=by rw[List.length_append,ho.1,hl,Nat.add_mul]
 have grown:∀ (old:Nat),old<n+m→v.ownBlock=none∨(∃ g,v.ownBlock=some g∧g<w.heap.size) →
  ∃ H',bR H' e i.size (.slice (some ⟨w.heap.size,0,none⟩) (n+m) (grownCap w (n+m) old e)) (n+m) (xs++news) ∧
   H'.sub (w.drew.alloc (.cells (xs.toArray++news.toArray++Builtin.zeroCells z.cells (grownCap w (n+m) old e-(n+m))) e)) ∧
   w.grownBy (w.drew.alloc (.cells (xs.toArray++news.toArray++Builtin.zeroCells z.cells (grownCap w (n+m) old e-(n+m))) e)) v.ownBlock ∧
   (∀ b,H.mem b→some b≠v.ownBlock→H' b=H b)∧(∀ b,H'.mem b→H.mem b∨(some w.heap.size=some b∧w.heap.size≤b)):=by
  intro old hold hv
  have hge:=grownCap_ge w (n+m) old e
  have hcm:grownCap w (n+m) old e≤maxLen:=grownCap_le_maxLen w (n+m) old e h63
  let ob:Obj:=.cells (xs.toArray++news.toArray++Builtin.zeroCells z.cells (grownCap w (n+m) old e-(n+m))) e
  refine⟨fun b=>if b=w.heap.size then some ob else H b,⟨hlen,Or.inr ⟨w.heap.size,_,_,rfl,if_pos rfl,hge,hcm,?_,?_⟩⟩,?_,⟨rfl,rfl,rfl,by simp,fun k hk _=>heap_alloc_old w.drew _ hk⟩,?_,?_⟩
  ·simp only[Array.size_append,List.size_toArray,size_zeroCells,hzs,ho.1,hl,←Nat.add_mul]
   congr 1
   omega
  ·simp only[Array.toList_append,List.append_assoc]
   rw[←List.append_assoc,←hlen]
   exact List.take_left
  ·intro b o hb
   simp only at hb
   split at hb
   ·rename_i e1;subst e1;cases hb;exact heap_alloc_new w.drew _
   ·have:=hs b o hb
    rw[heap_alloc_old w.drew _ (Array.getElem?_eq_some_iff.1 this).1]
    exact this
  ·intro b hb _
   have:=Hl.sub_lt hs hb
   exact if_neg (by omega)
  ·intro b hb
   by_cases e1:b=w.heap.size
   ·exact Or.inr ⟨by rw[e1],by omega⟩
   ·left;unfold Hl.mem at hb ⊢;simpa [e1] using hb
 rcases ho.2 with ⟨rfl,rfl⟩ | ⟨g,cap,cur,rfl,hg,hnc,hcm,hcs,htake⟩
 ·have hx:xs=[]:=List.eq_nil_of_length_eq_zero (by simpa using ho.1)
  subst hx
  by_cases hm:m=0
  ·subst hm
   have hn:news=[]:=List.eq_nil_of_length_eq_zero (by simpa using hl)
   subst hn
   refine⟨.slice none 0 0,w,H,?_,ho,hs,⟨rfl,rfl,rfl,Nat.le_refl _,fun _ _ _=>rfl⟩,fun _ _ _=>rfl,fun b hb=>Or.inl hb,Or.inl rfl⟩
   simp [Builtin.append_,run_underlying ht,sizeOf,typeInfo,hi,Builtin.lenOf,Builtin.firstCells,loadCells,loadCellsFrom]
  ·have hr:=run_append_nil (P:=P) w t ty e i z ht hi hz a m c news hl hnews (by omega) (by omega) (by have hb:=hbytes;simp only[Nat.zero_add]at hb;omega)
   obtain⟨H',g1,g2,g3,g4,g5⟩:=grown 0 (by omega) (Or.inl rfl)
   simp only[Nat.zero_add,List.nil_append,Array.empty_append]at hr g1 g2 g3 g4 g5 ⊢
   exact⟨_,_,H',hr,g1,g2,g3,g4,g5,Or.inr ⟨_,rfl,Nat.le_refl _⟩⟩
 ·by_cases hroom:n+m≤cap
  ·have hfit:n*i.size+news.length≤cur.size:=by rw[hl,hcs,←Nat.add_mul];exact Nat.mul_le_mul_right _ hroom
   have hr:=run_append_room (P:=P) w t ty e i ht hi g n cap cur (hs _ _ hg) a m c news hl hnews h1 hroom hfit
   refine⟨_,_,fun b=>if b=g then some (.cells (cur.toList.take (n*i.size)++news++cur.toList.drop (n*i.size+news.length)).toArray e (0,0))else H b,hr,
    ⟨hlen,Or.inr ⟨g,cap,_,rfl,if_pos rfl,hroom,hcm,?_,?_⟩⟩,?_,⟨rfl,rfl,rfl,by simp,fun k _ hk=>setRow_other w g k _ (fun e=>hk (by simp [Value.ownBlock,e]))⟩,?_,?_,Or.inl rfl⟩
   ·simp only[List.size_toArray,List.length_append,List.length_take,List.length_drop,Array.length_toList]
    omega
   ·rw[htake,←hlen]
    exact List.take_left
   ·intro b o hb
    simp only at hb
    split at hb
    ·rename_i e1;subst e1;cases hb;exact setRow_heap w b cur _ e _ (hs _ _ hg)
    ·rename_i e1
     rw[setRow_other w g b _ e1];exact hs b o hb
   ·intro b hb hne
    exact if_neg (fun e1=>hne (by simp [Value.ownBlock,e1]))
   ·intro b hb
    left
    by_cases e1:b=g
    ·subst e1;unfold Hl.mem;rw[hg];rfl
    ·unfold Hl.mem at hb ⊢;simpa [e1] using hb
  ·have holds:∀ j u,xs[j]?=some u→w.cell? ((⟨g,0,none⟩:Addr).add j)=some u:=(xb hs ho).cells (g:=g) rfl
   have hr:=run_append_grow (P:=P) w t ty e i z ht hi hz ⟨g,0,none⟩ n cap xs ho.1 holds a m c news hl hnews (by omega) (by omega) (growslice_fits (by omega) hbytes)
   obtain⟨H',g1,g2,g3,g4,g5⟩:=grown cap (by omega) (Or.inr ⟨g,rfl,(Array.getElem?_eq_some_iff.1 (hs _ _ hg)).1⟩)
   exact⟨_,_,H',hr,g1,g2,g3,g4,g5,Or.inr ⟨_,rfl,Nat.le_refl _⟩⟩
theorem vQ {t ty e:TypeId} {i:TypeInfo} {z:Value} {size bytes:Nat} (ht:P.underlying t=some (.slice e)) (hi:P.info? e=some i) (hz:i.zero=some z)
 (hsize:i.size=size) (hby:i.bytes=bytes) (hzs:z.cells.size=size) {b:Addr} {n cap:Nat} {olds:List Value} (hlo:olds.length=n*size) (holds:∀ j x,olds[j]?=some x→w.cell? (b.add j)=some x)
 {u:Value} {m:Nat} {news:List Value} (hl:news.length=m*size) (hu:Cf w u m news) (hg:cap<n+m) (hnc:n≤cap) (h63:n+m≤maxLen) (hbytes:(n+m)*bytes≤140737488355328) :
 ∃ cp ob,(Builtin.append_ #[t,t] ty #[.slice (some b) n cap,u]).run P w=.ok (.slice (some ⟨w.heap.size,0,none⟩) (n+m) cp) (w.drew.alloc ob) ∧
  bR (Hl.one w.heap.size ob) e size (.slice (some ⟨w.heap.size,0,none⟩) (n+m) cp) (n+m) (olds++news):=by
 subst hsize
 subst hby
 have hsmall:n+m≤9223372036854775807:=by simp only[maxLen]at h63;omega
 rcases hu with ⟨a,c,rfl,hnews⟩ | ⟨⟨c,rfl⟩,rfl,rfl⟩
 rotate_left
 ·omega
 have hr:=run_append_grow (P:=P) w t ty e i z ht hi hz b n cap olds hlo holds a m c news hl hnews hg (by omega) (growslice_fits (by omega) hbytes)
 have hge:=grownCap_ge w (n+m) cap e
 have hcm:grownCap w (n+m) cap e≤maxLen:=grownCap_le_maxLen w (n+m) cap e h63
 have hlen:(olds++news).length=(n+m)*i.size:=by rw[List.length_append,hlo,hl,Nat.add_mul]
 refine⟨_,_,hr,hlen,Or.inr ⟨w.heap.size,_,_,rfl,Hl.bE _ _,hge,hcm,?_,?_⟩⟩
 ·simp only[Array.size_append,List.size_toArray,size_zeroCells,hzs,hlo,hl,←Nat.add_mul]
  congr 1
  omega
 ·simp only[Array.toList_append,List.append_assoc]
  rw[←List.append_assoc,←hlen]
  exact List.take_left
end
end Go.Sx
