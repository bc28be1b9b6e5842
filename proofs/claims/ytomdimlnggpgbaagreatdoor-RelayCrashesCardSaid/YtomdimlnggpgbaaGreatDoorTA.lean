/- RelayCrashes. -/
import Derived.ChangeKeysEq
import Derived.Laws.BytesString
import Derived.Laws.CopyRow
import Derived.Laws.Rows
import Derived.Laws.Strings
import Derived.Laws.Tables
import Derived.WalkKit
set_option linter.all false
namespace Go
def aar:=@Int.toNat_natCast
def aax:=@List.getElem?_eq_getElem
def aay:=@List.length_append
def aaz:=@List.length_eq_zero_iff
def aaA:=@List.mem_of_getElem?
def aaB:=@decide_eq_true_eq
def aaC:=@List.cons.injEq
def aaD:=@List.getD_eq_getElem?_getD
def aaE:=@Bool.and_eq_true
def aaF:=@Option.some.injEq
def aaG:=@if_neg
def aaH:=@List.getElem?_eq_some_iff
def aaI:=@Option.map_eq_some_iff
def aaJ:=@List.mem_singleton
def aaK:=@List.getElem?_eq_none
def aaL:=@List.getElem?_map
def aaM:=@Int.le_refl
def aaN:=@List.mem_cons
def aaO:=@List.mem_cons_of_mem
def aaP:=@and_true
def aaQ:=@List.getElem?_append_right
def aaR:=@if_pos
def aaS:=@Nat.le_refl
def aaT:=@List.length_map
def aaU:=@List.length_take
def aaV:=@List.append_assoc
def aaW:=@List.length_singleton
def aaX:=@List.mem_nil_iff
def aaY:=@List.map_cons
def aaZ:=@List.getElem?_range
def aa0:=@List.getElem?_append_left
def aa1:=@congrArg
def aa2:=@List.ext_getElem?
def aa3:=@List.all_eq_true
def aa4:=@List.mem_append
def aa5:=@List.toArray_inj
def aa6:=@Nat.zero_add
def aa7:=@List.length_drop
def aa8:=@List.mem_cons_self
def aa9:=@List.getElem?_drop
def aba:=@List.map_append
def abb:=@List.mem_map
def abc:=@List.length_cons
def abd:=@List.mem_range
def abe:=@Option.map_some
def abf:=@List.getElem?_take
def abg:=@Array.getElem?_eq_some_iff
def abh:=@Array.mk.injEq
def abi:=@Nat.add_le_add
def abj:=@Nat.add_zero
def abk:=@true_and
def abl:=@Prod.mk.injEq
def abm:=@Int.tmod_eq_emod_of_nonneg
def abn:=@Nat.lt_or_ge
def abo:=@List.mem_of_mem_take
def abp:=@Option.some.inj
def abq:=@List.getElem?_cons_succ
def abr:=@List.map_congr_left
def abt:=@List.length_nil
def abu:=@decide_eq_false_iff_not
def abv:=@List.getElem?_cons_zero
def abw:=@Option.isSome_iff_exists
def abx:=@List.getElem?_take_of_lt
def aby:=@List.length_replicate
def abz:=@Bool.false_eq_true
def abA:=@List.append_nil
def abB:=@List.getElem?_of_mem
def abC:=@or_false
def abD:=@List.map_map
def abE:=@Bool.not_eq_true'
def abF:=@List.getElem?_set_ne
def abG:=@List.take_length
def abH:=@List.mem_of_mem_drop
def abI:=@List.getElem?_toArray
def abJ:=@Nat.zero_le
def abK:=@of_decide_eq_true
def abL:=@Option.getD_some
def abM:=@List.getElem_mem
def abN:=@List.map_nil
def abO:=@List.mem_append_right
def abP:=@List.getElem?_set_self
def abQ:=@Int.lt_or_le
def abR:=@List.flatten_cons
def abS:=@List.mem_filter
def abT:=@Classical.byContradiction
def abU:=@List.nil_append
def abV:=@List.take_add_one
def abW:=@List.contains_iff_mem
def abX:=@Int.fdiv_eq_ediv_of_nonneg
def abY:=@Int.eq_ofNat_of_zero_le
def abZ:=@Bool.eq_false_iff
def ab0:=@List.mem_append_left
def ab1:=@Bool.or_eq_true
def ab2:=@Array.length_toList
def ab3:=@Array.getElem?_setIfInBounds_ne
def ab4:=@List.map_eq_nil_iff
def ab5:=@List.length_range
def ab6:=@if_true
def ab7:=@Nat.add_assoc
def ab8:=@Option.toList_some
def ab9:=@List.flatten_nil
def aca:=@if_false
def acb:=@Int.tdiv_eq_ediv_of_nonneg
def acd:=@List.take_of_length_le
def ace:=@List.find?_eq_none
def acf:=@List.eq_of_mem_replicate
def acg:=@Nat.add_mul
def ach:=@List.eq_nil_of_length_eq_zero
def aci:=@List.ext_getElem
def acj:=@List.contains_eq_mem
def ack:=@List.getElem?_replicate
def acm:=@List.size_toArray
def acn:=@Option.map_none
def aco:=@List.take_left'
def acp:=@Option.bind_some
def acq:=@List.cons_append
def acr:=@Int.natCast_nonneg
def acs:=@Nat.le_of_ble_eq_true
def acu:=@List.mem_or_eq_of_mem_set
def acv:=@BitVec.ofInt_natCast
def acw:=@not_true_eq_false
def acx:=@Bool.eq_iff_iff
def acy:=@List.drop_left'
def acz:=@Nat.le_trans
def acA:=@Nat.mul_one
def acB:=@List.flatten_append
def acC:=@Nat.mod_eq_of_lt
def acD:=@List.take_append_of_le_length
def acE:=@List.drop_drop
def acF:=@List.take_zero
def acG:=@Nat.eq_zero_or_pos
def acH:=@BitVec.toNat_ofNat
def acI:=@List.mem_replicate
def acJ:=@Nat.mul_comm
def acK:=@Array.getElem?_toList
def acL:=@Nat.pow_succ
def acM:=@List.append_inj
def acN:=@List.getElem?_append
def acO:=@Nat.mul_le_mul_right
def acP:=@Nat.pow_le_pow_right
def acQ:=@List.take_left
def acR:=@List.mem_of_find?_eq_some
def acS:=@List.pairwise_iff_getElem
def acT:=@Int.toNat_zero
def acU:=@List.append_inj'
def acV:=@Int.toNat_of_nonneg
def acW:=@List.toList_toArray
def acX:=@List.mergeSort_perm
def acY:=@Nat.add_comm
def acZ:=@Array.size_setIfInBounds
def ac0:=@List.map_take
def ac2:=@List.foldl_cons
def ac3:=@List.map_replicate
def ac4:=@Array.getElem?_eq_none
def ac5:=@List.getElem?_set
def ac6:=@Classical.not_not
def ac7:=@List.drop_zero
def ac8:=@Int.mul_le_mul_of_nonneg_right
def ac9:=@List.take_append_drop
def ada:=@List.mem_iff_getElem?
def adb:=@List.eq_nil_iff_forall_not_mem
def ade:=@Nat.zero_mul
def adf:=@Nat.le_of_eq
def adg:=@List.set_append_right
def adh:=@List.map_toArray
def adi:=@List.mem_flatten
def adj:=@Nat.shiftLeft_add_eq_or_of_lt
def adk:=@Array.toArray_toList
def adl:=@List.map_drop
def adm:=@List.take_add
def adn:=@List.mem_map_of_mem
def ado:=@Nat.le_zero
def adp:=@List.replicate_succ
def adq:=@BitVec.toNat_or
def adr:=@Array.toList_setIfInBounds
def ads:=@Nat.mod_two_eq_zero_or_one
def adt:=@Nat.lt_of_lt_of_le
def adu:=@Int.tmod_lt_of_pos
def adv:=@Nat.mul_le_mul
def adw:=@List.drop_eq_getElem_cons
def adx:=@beq_iff_eq
def ady:=@List.mapM_toArray
def adz:=@Nat.mod_lt
def adA:=@Int.emod_eq_of_lt
def adB:=@UInt8.toNat_ofNat_of_lt'
def adC:=@Iff.rfl
def adD:=@List.pairwise_mergeSort
def adE:=@List.drop_eq_nil_of_le
def adF:=@List.getElem_replicate
def adG:=@Nat.sub_self
def adH:=@Nat.sub_zero
def adI:=@List.find?_cons
def adJ:=@Array.getElem?_modify
def adK:=@Nat.min_eq_left
def adL:=@Int.tmod_nonneg
def adM:=@List.pairwise_append
def adN:=@List.replicate_succ'
def adO:=@List.mapM_cons
def adP:=@Array.toList_append
def adQ:=@List.drop_replicate
def adR:=@List.take_replicate
def adS:=@List.length_pos_iff
def adT:=@List.replicate_zero
def adU:=@Nat.one_mul
def adV:=@List.all_cons
def adW:=@Int.lt_irrefl
def adX:=@List.map_set
def adY:=@Nat.lt_trans
def adZ:=@Nat.succ_mul
def ad0:=@Nat.pow_add
end Go
namespace Go.Sx
open Go
variable {op:BinOp}{x y:Int}{j k m n o p:Nat}{a b:Option Int}{P:Program}{α β:Type}{T t:TypeId}{v:Value}{w w0:World}
def zzT:True:=trivial
def ah {p:Prop} (h:p:=by omega):p:=h
def aF {p:Prop} (h:p:=by simp):p:=h
def aA {p:Prop} (h:p:=by decide):p:=h
def qu {α β:Type} (f:Nat->α->β):Nat->List α->List β
 | _,[]=>[]
 | n,a::l=>f n a::qu f (n+1) l
def BN {α β:Type} {f:Nat->α->β} : ∀ {l:List α} {n j:Nat},(qu f n l)[j]?=(l[j]?).map (f (n+j))
 | [],_,_=>rfl
 | a::l,n,0=>rfl
 | a::l,n,j+1=>by
  show(qu f (n+1) l)[j]?=(l[j]?).map (f (n+(j+1)));rw[BN,show n+1+j=n+(j+1)by omega]
def o9 {f:Nat->α->β} {l:List α} : (qu f 0 l)[j]?=(l[j]?).map (f j):=by
 rw[BN,aa6]
@[simp] theorem Du {α β:Type} {f:Nat->α->β} : ∀ {l:List α} {n:Nat},(qu f n l).length=l.length
 | [],_=>rfl
 | a::l,n=>by simp [qu,Du (l:=l)]
def Ng:List Nat->List Nat->Bool
 | [],[]=>true
 | a::l,b::m=>Nat.beq a b&&Ng l m
 | _,_=>false
abbrev Hl:=Nat->Option Obj
def Hl.cell (h:Hl) (x y:Nat):Option Value :=
 match h x with
 | some (.cells c _ _)=>c[y]?
 | _=>none
def Hl.sub (h:Hl) (w:World):Prop:=∀ (b:Nat) o,h b=some o->w.heap[b]?=some o
def Hl.mem (h:Hl) (b:Nat):Prop:=(h b).isSome=true
def Hl.bV (h k:Hl):Prop:=∀ b,¬(h.mem b/\k.mem b)
def Hl.one (b:Nat) (o:Obj):Hl:=fun c=>if c=b then some o else none
def Hl.none:Hl:=fun _=>Option.none
def Hl.all (w:World):Hl:=fun b=>w.heap[b]?
def Hl.aU (b:Nat) (o:Obj):Hl.one b o b=some o:=aaR rfl
def Hl.nI {b c:Nat} {o p:Obj} (h:Hl.one b o c=some p):c=b/\p=o:=by
 unfold Hl.one at h;split at h
 .exact⟨‹_›,(abp h).symm⟩
 .cases h
def Hl.dJ {b c:Nat} {o:Obj} : (Hl.one b o).mem c↔c=b:=by
 unfold Hl.mem Hl.one;split<;>simp [*]
def Hl.iu {h:Hl} (hs:h.sub w) {x y:Nat} (hc:h.cell x y=some v):w.cell? ⟨x,y,Option.none⟩=some v:=by
 unfold Hl.cell at hc;split at hc
 .rename_i hb;simp [World.cell?,hs _ _ hb,hc]
 .cases hc
def Hl.QH (w:World):(Hl.all w).sub w:=fun _ _ h=>h
def Hl.jv {h k:Hl} (d:h.bV k):k.bV h:=fun b ⟨x,y⟩=>d b ⟨y,x⟩
inductive Kd | int (k:IntKind) | bool | slice | ptr | str | map | any
 deriving DecidableEq
structure Env where
 i:Nat->Int
 b:Nat->Bool
 s:Nat->ByteArray
 v:Nat->Value
 h:Nat->Hl
variable {J J':Env}
inductive E where
 | lit (n:Int) | var (i:Nat)
 | add (a b:E) | sub (a b:E) | mul (a b:E) | quo (a b:E) | rem (a b:E)
 | wrap (k:IntKind) (a:E)
 | bits (op:BinOp) (k:IntKind) (a b:E)
 | shl (k:IntKind) (a b:E) | shr (k:IntKind) (a b:E)
 | tt | ff | bvar (i:Nat)
 | not (a:E) | and (a b:E) | or (a b:E)
 | ite (c a b:E)
 | lt (a b:E) | le (a b:E) | eq (a b:E) | beq (a b:E)
 | hI (h:Nat) (x y:E) (j:Nat) | hB (h:Nat) (x y:E) (j:Nat) | hP (h:Nat) (x y:E) (j which:Nat) | hS (h:Nat) (x y:E) (j:Nat) | his (h:Nat) (x y:E) (j:Nat) (k:Kd)
 | svar (i:Nat) | slit (s:ByteArray) | scat (a b:E) | sbyte (a:E) | sof (h:Nat) (x y l:E)
 | slen (a:E) | sat (a i:E) | sext (a i j:E) | seq (a b:E) | slt (a b:E)
 | hmlen (h:Nat) (x:E) | vint (v:Nat) | hby (h:Nat) (x y l:E) | hism (h:Nat) (x:E) | hks (h:Nat) (x y:E) (ks:List Kd)
 deriving DecidableEq
variable {c e f i:E}
def cQ (op:BinOp) (k:IntKind) (x y:Int):Int :=
 let a:=BitVec.ofInt k.bits x
 let b:=BitVec.ofInt k.bits y
 match op with
 | .and=>k.wrap (a &&&b).toNat
 | .or=>k.wrap (a |||b).toNat
 | .xor=>k.wrap (a ^^^ b).toNat
 | .andNot=>k.wrap (a &&&~~~b).toNat
 | _=>0
def XB:Nat×Nat->Nat×Nat
 | (0,b)=>(b+1,0)
 | (a+1,b)=>(a,b+1)
def QB:Nat->Nat×Nat
 | 0=>(0,0)
 | n+1=>XB (QB n)
def SA:∀ s b a:Nat,a+b=s->∃ n,QB n=(a,b):=by
 intro s
 induction s with
 | zero=>intro b a h;exact⟨0,by rw[show a=0 by omega,show b=0 by omega];rfl⟩
 | succ s ih =>
  intro b
  induction b with
  | zero=>intro a h;obtain⟨n,hn⟩:=ih s 0 ah;exact⟨n+1,by rw[QB,hn,show a=s+1 by omega];rfl⟩
  | succ b c=>intro a h;obtain⟨n,hn⟩:=c (a+1) ah;exact⟨n+1,by rw[QB,hn];rfl⟩
def XI:Nat->Nat
 | 0=>0
 | n+1=>XI n+n+1
def S9 (a b:Nat):Nat:=XI (a+b)+b
def SB:∀ s b a:Nat,a+b=s->QB (XI s+b)=(a,b):=by
 intro s
 induction s with
 | zero=>intro b a h;rw[show a=0 by omega,show b=0 by omega];rfl
 | succ s ih =>
  intro b
  induction b with
  | zero=>intro a h;rw[show XI (s+1)+0=(XI s+s)+1 from rfl,QB,ih s 0 ah,show a=s+1 by omega];rfl
  | succ b c=>intro a h;rw[<-ab7,QB,c (a+1) ah];rfl
def GS (a b:Nat):QB (S9 a b)=(a,b):=SB _ b a rfl
def pM:Value->Int
 | .nilIface=>0
 | .iface _ _=>1
 | _=>2
def AY (h:pM v<=1):v=.nilIface\/∃ t x,v=.iface t x:=by
 cases v<;>simp [pM]at h ⊢
def az (x y:Int):Option Addr:=if 0<=x then some ⟨x.toNat,y.toNat,none⟩else if x= -1 then none else some ⟨(-x-2).toNat,(QB y.toNat).1,some (QB y.toNat).2⟩
def au (h:0<=x):az x y=some ⟨x.toNat,y.toNat,none⟩:=aaR h
def fx (y:Int):az (-1) y=none:=rfl
def Qg (h:x≠ -1):(az x y).isNone=false:=by unfold az;split<;>simp
def iV (x y:Int):(az x y).isNone=decide (x= -1):=by
 by_cases h:x= -1
 .subst h;rfl
 .rw[Qg h];simp [h]
def rO (a:Option Addr):∃ x y:Int,a=az x y/\0<=y/\ -1<=y:=by
 cases a with
 | none=>exact⟨-1,0,rfl,ah,ah⟩
 | some q =>
  obtain⟨b,o,s⟩:=q;cases s with
  | none=>exact⟨b,o,by simp [az],ah,ah⟩
  | some s =>
   obtain⟨n,hn⟩:=SA (o+s) s o rfl;refine⟨-(b:Int)-2,n,?_,ah,ah⟩;unfold az;rw[aaG ah,aaG ah,aar,hn,show(-(-(b:Int)-2)-2).toNat=b by omega]
def cf:Option Value->Int | some (.int _ n)=>n | _=>0
def xI:Option Value->Bool | some (.bool b)=>b | _=>false
def Qs:Option Value->ByteArray | some (.string s)=>s | _=>.empty
def bw:Option Value->Nat->Int
 | some (.slice none _ _),0=> -1
 | some (.slice (some ⟨b,_,none⟩) _ _),0=>b
 | some (.slice (some ⟨b,_,some _⟩) _ _),0=> -(b:Int)-2
 | some (.slice (some ⟨_,o,none⟩) _ _),1=>o
 | some (.slice (some ⟨_,o,some s⟩) _ _),1=>S9 o s
 | some (.slice _ n _),2=>n
 | some (.slice _ _ c),3=>c
 | some (.pointer none),0=> -1
 | some (.pointer (some ⟨b,_,_⟩)),0=>b
 | some (.pointer (some ⟨_,o,_⟩)),1=>o
 | some (.map none),0=> -1
 | some (.map (some r)),0=>r
 | _,_=>0
def bz:Option Value->Kd->Bool
 | some (.int k _),.int a=>k=a
 | some (.bool _),.bool=>true
 | some (.string _),.str=>true
 | some (.slice _ _ _),.slice=>true
 | some (.pointer (some ⟨_,_,none⟩)),.ptr=>true
 | some (.pointer none),.ptr=>true
 | some (.map _),.map=>true
 | some _,.any=>true
 | _,_=>false
def bytesOf (a:List Int):ByteArray:=a.foldl (fun r n=>r.push (UInt8.ofNat n.toNat)) ByteArray.empty
def fU (h:Hl) (x y n:Nat):List Int:=(List.range n).map fun j=>cf (h.cell x (y+j))
def bM (h:Hl) (x y n:Nat):Bool:=(List.range n).all fun j=>bz (h.cell x (y+j)) (.int .u8)
def xk (h:Hl) (x:Nat):Nat->List Kd->Bool
 | _,[]=>true
 | y,k::l=>bz (h.cell x y) k&&xk h x (y+1) l
def isMap:Option Obj->Bool
 | some (.map _ _)=>true
 | _=>false
def Il:Option Obj->Int
 | some (.map es _)=>es.size
 | _=>0
def ev (J:Env):E->Int×Bool×ByteArray
 | .lit n=>(n,false,.empty)
 | .var i=>(J.i i,false,.empty)
 | .add a b=>((ev J a).1+(ev J b).1,false,.empty)
 | .sub a b=>((ev J a).1-(ev J b).1,false,.empty)
 | .mul a b=>((ev J a).1*(ev J b).1,false,.empty)
 | .quo a b=>((ev J a).1.tdiv (ev J b).1,false,.empty)
 | .rem a b=>((ev J a).1.tmod (ev J b).1,false,.empty)
 | .wrap k a=>(k.wrap (ev J a).1,false,.empty)
 | .bits op k a b=>(cQ op k (ev J a).1 (ev J b).1,false,.empty)
 | .shl k a b=>(k.wrap ((ev J a).1*2 ^ (min (ev J b).1.toNat k.bits)),false,.empty)
 | .shr k a b=>((ev J a).1.fdiv (2 ^ (min (ev J b).1.toNat k.bits)),false,.empty)
 | .tt=>(0,true,.empty)
 | .ff=>(0,false,.empty)
 | .bvar i=>(0,J.b i,.empty)
 | .not a=>(0,!(ev J a).2.1,.empty)
 | .and a b=>(0,(ev J a).2.1&&(ev J b).2.1,.empty)
 | .or a b=>(0,(ev J a).2.1||(ev J b).2.1,.empty)
 | .ite c a b=>(if(ev J c).2.1 then(ev J a).1 else(ev J b).1,if(ev J c).2.1 then(ev J a).2.1 else(ev J b).2.1,if(ev J c).2.1 then(ev J a).2.2 else(ev J b).2.2)
 | .lt a b=>(0,decide ((ev J a).1<(ev J b).1),.empty)
 | .le a b=>(0,decide ((ev J a).1<=(ev J b).1),.empty)
 | .eq a b=>(0,decide ((ev J a).1=(ev J b).1),.empty)
 | .beq a b=>(0,(ev J a).2.1==(ev J b).2.1,.empty)
 | .hI h x y j=>(cf ((J.h h).cell (ev J x).1.toNat ((ev J y).1.toNat+j)),false,.empty)
 | .hB h x y j=>(0,xI ((J.h h).cell (ev J x).1.toNat ((ev J y).1.toNat+j)),.empty)
 | .hP h x y j k=>(bw ((J.h h).cell (ev J x).1.toNat ((ev J y).1.toNat+j)) k,false,.empty)
 | .hS h x y j=>(0,false,Qs ((J.h h).cell (ev J x).1.toNat ((ev J y).1.toNat+j)))
 | .his h x y j k=>(0,bz ((J.h h).cell (ev J x).1.toNat ((ev J y).1.toNat+j)) k,.empty)
 | .svar i=>(0,false,J.s i)
 | .slit s=>(0,false,s)
 | .scat a b=>(0,false,(ev J a).2.2++(ev J b).2.2)
 | .sbyte a=>(0,false,bytesOf [(ev J a).1])
 | .sof h x y l=>(0,false,bytesOf (fU (J.h h) (ev J x).1.toNat (ev J y).1.toNat (ev J l).1.toNat))
 | .slen a=>((ev J a).2.2.size,false,.empty)
 | .sat a i=>(((ev J a).2.2.data[(ev J i).1.toNat]?.getD 0).toNat,false,.empty)
 | .sext a i j=>(0,false,(ev J a).2.2.extract (ev J i).1.toNat (ev J j).1.toNat)
 | .seq a b=>(0,decide ((ev J a).2.2=(ev J b).2.2),.empty)
 | .slt a b=>(0,decide ((ev J a).2.2.data.toList<(ev J b).2.2.data.toList),.empty)
 | .hmlen h x=>(Il (J.h h (ev J x).1.toNat),false,.empty)
 | .vint v=>(pM (J.v v),false,.empty)
 | .hism h x=>(0,isMap (J.h h (ev J x).1.toNat),.empty)
 | .hks h x y ks=>(0,xk (J.h h) (ev J x).1.toNat (ev J y).1.toNat ks,.empty)
 | .hby h x y l=>(0,bM (J.h h) (ev J x).1.toNat (ev J y).1.toNat (ev J l).1.toNat,.empty)
def aB (J:Env) (e:E):Int:=(ev J e).1
def bh (J:Env) (e:E):Bool:=(ev J e).2.1
def lh (J:Env) (e:E):ByteArray:=(ev J e).2.2
section
variable (J:Env) (a b c x y l:E)
def ak (n:Int):aB J (.lit n)=n:=rfl
def al (i:Nat):aB J (.var i)=J.i i:=rfl
def bQ:aB J (.add a b)=aB J a+aB J b:=rfl
def dm:aB J (.sub a b)=aB J a-aB J b:=rfl
def cG:aB J (.mul a b)=aB J a*aB J b:=rfl
def J3:aB J (.quo a b)=(aB J a).tdiv (aB J b):=rfl
def ue:aB J (.rem a b)=(aB J a).tmod (aB J b):=rfl
def bP (k:IntKind):aB J (.wrap k a)=k.wrap (aB J a):=rfl
def ud (op:BinOp) (k:IntKind):aB J (.bits op k a b)=cQ op k (aB J a) (aB J b):=rfl
def Rh (k:IntKind):aB J (.shl k a b)=k.wrap (aB J a*2 ^ (min (aB J b).toNat k.bits)):=rfl
def Ri (k:IntKind):aB J (.shr k a b)=(aB J a).fdiv (2 ^ (min (aB J b).toNat k.bits)):=rfl
def cO:aB J (.ite c a b)=if bh J c then aB J a else aB J b:=rfl
def fh (h j:Nat):aB J (.hI h x y j)=cf ((J.h h).cell (aB J x).toNat ((aB J y).toNat+j)):=rfl
def fG (h j k:Nat):aB J (.hP h x y j k)=bw ((J.h h).cell (aB J x).toNat ((aB J y).toNat+j)) k:=rfl
def Oq:aB J (.slen a)=(lh J a).size:=rfl
def fS (h:Nat):aB J (.hmlen h x)=Il (J.h h (aB J x).toNat):=rfl
def uf (v:Nat):aB J (.vint v)=pM (J.v v):=rfl
def cZ:bh J .tt=true:=rfl
def du:bh J .ff=false:=rfl
def bD (i:Nat):bh J (.bvar i)=J.b i:=rfl
def CU:bh J (.not a)=!bh J a:=rfl
def oM:bh J (.and a b)=(bh J a&&bh J b):=rfl
def yC:bh J (.or a b)=(bh J a||bh J b):=rfl
def QN:bh J (.ite c a b)=if bh J c then bh J a else bh J b:=rfl
def nz:bh J (.lt a b)=decide (aB J a<aB J b):=rfl
def kQ:bh J (.le a b)=decide (aB J a<=aB J b):=rfl
def sJ:bh J (.eq a b)=decide (aB J a=aB J b):=rfl
def QM:bh J (.beq a b)=(bh J a==bh J b):=rfl
def TD (h j:Nat):bh J (.hB h x y j)=xI ((J.h h).cell (aB J x).toNat ((aB J y).toNat+j)):=rfl
def xQ (h j:Nat) (k:Kd):bh J (.his h x y j k)=bz ((J.h h).cell (aB J x).toNat ((aB J y).toNat+j)) k:=rfl
def CT (h:Nat):bh J (.hby h x y l)=bM (J.h h) (aB J x).toNat (aB J y).toNat (aB J l).toNat:=rfl
def Nu (h:Nat):bh J (.hism h x)=isMap (J.h h (aB J x).toNat):=rfl
def QO:bh J (.seq a b)=decide (lh J a=lh J b):=rfl
def fY (i:Nat):lh J (.svar i)=J.s i:=rfl
def gy (s:ByteArray):lh J (.slit s)=s:=rfl
def MO:lh J (.sbyte a)=bytesOf [aB J a]:=rfl
def iE (h:Nat):lh J (.sof h x y l)=bytesOf (fU (J.h h) (aB J x).toNat (aB J y).toNat (aB J l).toNat):=rfl
def Qc:lh J (.sext a x y)=(lh J a).extract (aB J x).toNat (aB J y).toNat:=rfl
def Vv (h j:Nat):lh J (.hS h x y j)=Qs ((J.h h).cell (aB J x).toNat ((aB J y).toNat+j)):=rfl
def iT:lh J (.ite c a b)=if bh J c then lh J a else lh J b:=rfl
end
section
variable (J:Env) (a b c x y l:E)
def se:(bh J .tt=true)=True:=by simp [cZ]
def r9:(bh J .ff=true)=False:=by simp [du]
def jZ (i:Nat):(bh J (.bvar i)=true)=(J.b i=true):=rfl
def kP:(bh J (.not a)=true)=¬(bh J a=true):=by simp [CU]
def jr:(bh J (.and a b)=true)=(bh J a=true/\bh J b=true):=by simp [oM]
def sd:(bh J (.or a b)=true)=(bh J a=true\/bh J b=true):=by simp [yC]
def nx:(bh J (.ite c a b)=true)=if bh J c=true then bh J a=true else bh J b=true:=by rw[QN];split<;>rfl
def mO:(bh J (.lt a b)=true)=(aB J a<aB J b):=by simp [nz]
def pG:(bh J (.le a b)=true)=(aB J a<=aB J b):=by simp [kQ]
def gM:(bh J (.eq a b)=true)=(aB J a=aB J b):=by simp [sJ]
def nj:(bh J (.beq a b)=true)=((bh J a=true)=(bh J b=true)):=by rw[QM];cases bh J a<;>cases bh J b<;>simp
def ny:(bh J (.seq a b)=true)=(lh J a=lh J b):=by simp [QO]
def sa (h j:Nat):(bh J (.hB h x y j)=true)=(xI ((J.h h).cell (aB J x).toNat ((aB J y).toNat+j))=true):=rfl
def nq (h j:Nat) (k:Kd):(bh J (.his h x y j k)=true)=(bz ((J.h h).cell (aB J x).toNat ((aB J y).toNat+j)) k=true):=rfl
def nu (h:Nat) (ks:List Kd):(bh J (.hks h x y ks)=true)=(xk (J.h h) (aB J x).toNat (aB J y).toNat ks=true):=rfl
def np (h:Nat):(bh J (.hby h x y l)=true)=(bM (J.h h) (aB J x).toNat (aB J y).toNat (aB J l).toNat=true):=rfl
def j7 (h:Nat):(bh J (.hism h x)=true)=(isMap (J.h h (aB J x).toNat)=true):=rfl
end
def mkNot:E->E
 | .tt=>.ff
 | .ff=>.tt
 | .not a=>a
 | a=>.not a
def dv (J:Env) (a:E):bh J (mkNot a)=!bh J a:=by
 unfold mkNot;split<;>simp [cZ,du,CU]
def mkAnd (a b:E):E :=
 match a,b with
 | .tt,b=>b
 | .ff,_=>.ff
 | a,.tt=>a
 | _,.ff=>.ff
 | a,b=>if a=b then a else .and a b
def aO (J:Env) (a b:E):bh J (mkAnd a b)=(bh J a&&bh J b):=by
 unfold mkAnd;split<;>try simp [cZ,du,oM]
 split
 .rename_i h;rw[h];simp
 .rfl
def mkOr (a b:E):E :=
 match a,b with
 | .tt,_=>.tt
 | .ff,b=>b
 | _,.tt=>.tt
 | a,.ff=>a
 | a,b=>if b=mkNot a then .tt else .or a b
def tJ (J:Env) (a b:E):bh J (mkOr a b)=(bh J a||bh J b):=by
 unfold mkOr;split<;>try simp [cZ,du,yC]
 split
 .rename_i h;rw[h,dv,cZ];cases bh J a<;>rfl
 .rfl
def Ir (c a b:E):E :=
 match c,a,b with
 | .tt,a,_=>a
 | .ff,_,b=>b
 | c,.tt,.ff=>c
 | c,.tt,b=>mkOr c b
 | c,.ff,b=>mkAnd (mkNot c) b
 | c,a,.ff=>mkAnd c a
 | c,a,.tt=>mkOr (mkNot c) a
 | c,a,b=>if a=b then a else .ite c a b
def Hm (J:Env) (c a b:E):bh J (Ir c a b)=if bh J c then bh J a else bh J b:=by
 unfold Ir;split<;>try simp only[cZ,du,tJ,aO,dv,ab6,aca,abz]
 case h_8 =>
  split
  .rename_i h;subst h;simp
  .rfl
 all_goals (split<;>simp_all)
def mkIte (c a b:E):E :=
 match c with
 | .tt=>a
 | .ff=>b
 | c=>if a=b then a else .ite c a b
def jb (J:Env) (c a b:E):aB J (mkIte c a b)=if bh J c then aB J a else aB J b:=by
 unfold mkIte;split
 .simp [cZ]
 .simp [du]
 .split
  .rename_i h;subst h;simp
  .rfl
def mkAdd:E->E->E
 | .lit a,.lit b=>.lit (a+b)
 | .lit a,b=>if a=0 then b else .add (.lit a) b
 | .add a (.lit b),.lit c=>.add a (.lit (b+c))
 | a,.lit b=>if b=0 then a else .add a (.lit b)
 | a,b=>.add a b
def fD (J:Env) (a b:E):aB J (mkAdd a b)=aB J a+aB J b:=by
 unfold mkAdd;split<;>try rfl
 .split
  .rename_i h;subst h;simp [ak]
  .rfl
 .simp only[bQ,ak];omega
 .split
  .rename_i h;subst h;simp [ak]
  .rfl
def mkSub:E->E->E
 | .lit a,.lit b=>.lit (a-b)
 | a,.lit b=>if b=0 then a else .sub a (.lit b)
 | a,b=>if a=b then .lit 0 else .sub a b
def oe (J:Env) (a b:E):aB J (mkSub a b)=aB J a-aB J b:=by
 unfold mkSub;split<;>try rfl
 .split
  .rename_i h;subst h;simp [ak]
  .rfl
 .split
  .rename_i h;subst h;simp [ak]
  .rfl
def mkMul:E->E->E
 | .lit a,.lit b=>.lit (a*b)
 | .lit a,b=>if a=1 then b else .mul (.lit a) b
 | a,.lit b=>if b=1 then a else .mul a (.lit b)
 | a,b=>.mul a b
def od (J:Env) (a b:E):aB J (mkMul a b)=aB J a*aB J b:=by
 unfold mkMul;split<;>try rfl
 .split
  .rename_i h;subst h;simp [ak]
  .rfl
 .split
  .rename_i h;subst h;simp [ak]
  .rfl
def mkWrap (k:IntKind):E->E
 | .lit a=>.lit (k.wrap a)
 | a=>.wrap k a
def oU (J:Env) (k:IntKind) (a:E):aB J (mkWrap k a)=k.wrap (aB J a):=by
 unfold mkWrap;split<;>rfl
def mkLt:E->E->E
 | .lit a,.lit b=>if a<b then .tt else .ff
 | a,b=>.lt a b
def js (J:Env) (a b:E):bh J (mkLt a b)=decide (aB J a<aB J b):=by
 unfold mkLt;split
 .split<;>rename_i h<;>simp [cZ,du,ak,h]<;>omega
 .rfl
def mkLe:E->E->E
 | .lit a,.lit b=>if a<=b then .tt else .ff
 | a,b=>if a=b then .tt else .le a b
def ba (J:Env) (a b:E):bh J (mkLe a b)=decide (aB J a<=aB J b):=by
 unfold mkLe;split
 .split<;>rename_i h<;>simp [cZ,du,ak,h]<;>omega
 .split
  .rename_i h;subst h;simp [cZ]
  .rfl
def mkEq:E->E->E
 | .lit a,.lit b=>if a=b then .tt else .ff
 | a,b=>if a=b then .tt else .eq a b
def gj (J:Env) (a b:E):bh J (mkEq a b)=decide (aB J a=aB J b):=by
 unfold mkEq;split
 .split<;>rename_i h<;>simp [cZ,du,ak,h]
 .split
  .rename_i h;subst h;simp [cZ]
  .rfl
def OS:E->E->E
 | .tt,b=>b
 | .ff,b=>mkNot b
 | a,.tt=>a
 | a,.ff=>mkNot a
 | a,b=>if a=b then .tt else .beq a b
def Lg (J:Env) (a b:E):bh J (OS a b)=(bh J a==bh J b):=by
 unfold OS;split<;>try simp only[cZ,du,dv]
 .simp
 .cases bh J b<;>rfl
 .simp
 .cases bh J a<;>rfl
 .split
  .rename_i h;subst h;simp [cZ]
  .rfl
def mkSeq:E->E->E
 | .slit a,.slit b=>if a=b then .tt else .ff
 | a,b=>if a=b then .tt else .seq a b
def vj (J:Env) (a b:E):bh J (mkSeq a b)=decide (lh J a=lh J b):=by
 unfold mkSeq;split
 .split<;>rename_i h<;>simp [cZ,du,gy,h]
 .split
  .rename_i h;subst h;simp [cZ]
  .rfl
def Kj:E->E->E
 | .slit a,.slit b=>.slit (a++b)
 | a,b=>.scat a b
def Ct (J:Env) (a b:E):lh J (Kj a b)=lh J a++lh J b:=by
 unfold Kj;split<;>rfl
def wT:E->E
 | .slit a=>.lit a.size
 | a=>.slen a
def lS (J:Env) (a:E):aB J (wT a)=(lh J a).size:=by
 unfold wT;split<;>rfl
def OV:E->E->E
 | .slit a,.lit i=>.lit (a.data[i.toNat]?.getD 0).toNat
 | a,i=>.sat a i
def LK (J:Env) (a i:E):aB J (OV a i)=((lh J a).data[(aB J i).toNat]?.getD 0).toNat:=by
 unfold OV;split<;>rfl
def Path (J:Env) (path:List E):Prop:=∀ e∈path,bh J e=true
def Io:Option Int->Option Int->Option Int
 | some a,some b=>some (max a b)
 | some a,none=>some a
 | none,b=>b
def L9:Option Int->Option Int->Option Int
 | some a,some b=>some (min a b)
 | some a,none=>some a
 | none,b=>b
def Ye (e:E):E->Option Int
 | .le (.lit n) x=>if x=e then some n else none
 | .lt (.lit n) x=>if x=e then some (n+1)else none
 | .eq x (.lit n)=>if x=e then some n else none
 | .not (.lt x (.lit n))=>if x=e then some n else none
 | .not (.le x (.lit n))=>if x=e then some (n+1)else none
 | _=>none
def Yy (e:E):E->Option Int
 | .le x (.lit n)=>if x=e then some n else none
 | .lt x (.lit n)=>if x=e then some (n-1)else none
 | .eq x (.lit n)=>if x=e then some n else none
 | .not (.lt (.lit n) x)=>if x=e then some n else none
 | .not (.le (.lit n) x)=>if x=e then some (n-1)else none
 | _=>none
def WV (path:List E) (e:E):Option Int:=path.foldl (fun a f=>Io a (Ye e f)) none
def Yz (path:List E) (e:E):Option Int:=path.foldl (fun a f=>L9 a (Yy e f)) none
def lb (path:List E):E->Option Int
 | .lit n=>some n
 | .add a b=>Io (WV path (.add a b)) (match lb path a,lb path b with | some x,some y=>some (x+y) | _,_=>none)
 | .mul a (.lit k)=>Io (WV path (.mul a (.lit k))) (match lb path a with | some x=>if 0<=k then some (x*k)else none | none=>none)
 | .slen a=>Io (WV path (.slen a)) (some 0)
 | e=>WV path e
def ub (path:List E):E->Option Int
 | .lit n=>some n
 | .add a b=>L9 (Yz path (.add a b)) (match ub path a,ub path b with | some x,some y=>some (x+y) | _,_=>none)
 | .mul a (.lit k)=>L9 (Yz path (.mul a (.lit k))) (match ub path a with | some x=>if 0<=k then some (x*k)else none | none=>none)
 | e=>Yz path e
def VO:Option Int->Option Int->Bool
 | some a,some b=>decide (a<=b)
 | _,_=>false
def VP:Option Int->Option Int->Bool
 | some a,some b=>decide (a<b)
 | _,_=>false
def nF (path:List E) (e:E):Option Bool :=
 if path.contains e then some true else if path.contains (mkNot e)then some false else match e with
 | .le a b=>if VO (ub path a) (lb path b)then some true else if VP (ub path b) (lb path a)then some false else none
 | .lt a b=>if VP (ub path a) (lb path b)then some true else if VO (ub path b) (lb path a)then some false else none
 | .eq a b=>if VP (ub path a) (lb path b)||VP (ub path b) (lb path a)then some false else if VO (ub path a) (lb path b)&&VO (ub path b) (lb path a)then some true else none
 | _=>none
def known (path:List E) (e:E):Option Bool :=
 match e with
 | .tt=>some true
 | .ff=>some false
 | .not e=>(nF path e).map not
 | .and a b=>match nF path a,nF path b with
  | some true,some true=>some true
  | some false,_=>some false
  | _,some false=>some false
  | _,_=>nF path (.and a b)
 | .or a b=>match nF path a,nF path b with
  | some false,some false=>some false
  | some true,_=>some true
  | _,some true=>some true
  | _,_=>nF path (.or a b)
 | e=>nF path e
section
variable {J:Env} {path:List E}
def LS {n:Int} (hf:bh J f=true) (h:Ye e f=some n):n<=aB J e:=by
 unfold Ye at h;split at h<;>first | (cases h;done) | skip
 all_goals (split at h<;>first | (cases h;done) | skip)
 all_goals (cases h;rename_i he;subst he;simp only[pG,mO,gM,kP,ak]at hf;omega)
def M1 {n:Int} (hf:bh J f=true) (h:Yy e f=some n):aB J e<=n:=by
 unfold Yy at h;split at h<;>first | (cases h;done) | skip
 all_goals (split at h<;>first | (cases h;done) | skip)
 all_goals (cases h;rename_i he;subst he;simp only[pG,mO,gM,kP,ak]at hf;omega)
def ye (c:∀ n,a=some n->n<=x) (hb:∀ n,b=some n->n<=x):∀ n,Io a b=some n->n<=x:=by
 intro n h;unfold Io at h;split at h
 .cases h;have h1:=c _ rfl;have h2:=hb _ rfl;omega
 .cases h;exact c _ rfl
 .exact hb _ h
def Dv (c:∀ n,a=some n->x<=n) (hb:∀ n,b=some n->x<=n):∀ n,L9 a b=some n->x<=n:=by
 intro n h;unfold L9 at h;split at h
 .cases h;have h1:=c _ rfl;have h2:=hb _ rfl;omega
 .cases h;exact c _ rfl
 .exact hb _ h
def rj (hp:Path J path) : ∀ n,WV path e=some n->n<=aB J e:=by
 have key:∀ (l:List E) (a:Option Int),(∀ f∈l,bh J f=true)->(∀ n,a=some n->n<=aB J e)->∀ n,l.foldl (fun a f=>Io a (Ye e f)) a=some n->n<=aB J e:=by
  intro l
  induction l with
  | nil=>intro a _ b n h;exact b n h
  | cons f l ih =>
   intro a hl b n h;exact ih _ (fun g c=>hl g (aaO _ c)) (ye b fun m hm=>LS (hl f (aa8 ..)) hm) n h
 exact key path none hp (fun n h=>by cases h)
def wc (hp:Path J path) : ∀ n,Yz path e=some n->aB J e<=n:=by
 have key:∀ (l:List E) (a:Option Int),(∀ f∈l,bh J f=true)->(∀ n,a=some n->aB J e<=n)->∀ n,l.foldl (fun a f=>L9 a (Yy e f)) a=some n->aB J e<=n:=by
  intro l
  induction l with
  | nil=>intro a _ b n h;exact b n h
  | cons f l ih =>
   intro a hl b n h;exact ih _ (fun g c=>hl g (aaO _ c)) (Dv b fun m hm=>M1 (hl f (aa8 ..)) hm) n h
 exact key path none hp (fun n h=>by cases h)
def kv (hp:Path J path):∀ (e:E) n,lb path e=some n->n<=aB J e:=by
 intro e
 fun_induction lb path e with
 | case1 m=>intro n h;cases h;rw[ak];omega
 | case2 a b c d =>
  refine ye (rj hp) fun n h=>?_;split at h
  .rename_i x y hx f;cases h;have h1:=c _ hx;have h2:=d _ f;rw[bQ];omega
  .cases h
 | case3 a k c =>
  refine ye (rj hp) fun n h=>?_;split at h
  .rename_i x hx;split at h
   .cases h;have h1:=c _ hx;rw[cG,ak];exact ac8 h1 ‹_›
   .cases h
  .cases h
 | case4 a =>
  refine ye (rj hp) fun n h=>?_;cases h;rw[Oq];omega
 | case5 e=>exact rj hp
def kJ (hp:Path J path):∀ (e:E) n,ub path e=some n->aB J e<=n:=by
 intro e
 fun_induction ub path e with
 | case1 m=>intro n h;cases h;rw[ak];omega
 | case2 a b c d =>
  refine Dv (wc hp) fun n h=>?_;split at h
  .rename_i x y hx f;cases h;have h1:=c _ hx;have h2:=d _ f;rw[bQ];omega
  .cases h
 | case3 a k c =>
  refine Dv (wc hp) fun n h=>?_;split at h
  .rename_i x hx;split at h
   .cases h;have h1:=c _ hx;rw[cG,ak];exact ac8 h1 ‹_›
   .cases h
  .cases h
 | case4 e=>exact wc hp
def rl (h:VO a b=true) (c:∀ n,a=some n->x<=n) (hb:∀ n,b=some n->n<=y):x<=y:=by
 unfold VO at h;split at h
 .have h1:=c _ rfl;have h2:=hb _ rfl;simp only[aaB]at h;omega
 .cases h
def rm (h:VP a b=true) (c:∀ n,a=some n->x<=n) (hb:∀ n,b=some n->n<=y):x<y:=by
 unfold VP at h;split at h
 .have h1:=c _ rfl;have h2:=hb _ rfl;simp only[aaB]at h;omega
 .cases h
def cP (hp:Path J path) {t:Bool} (h:nF path e=some t):bh J e=t:=by
 unfold nF at h;split at h
 .rename_i hc;cases h;exact hp e (by simpa using hc)
 .split at h
  .rename_i hc;cases h;have:=hp _ (abW.1 hc);rw[dv]at this;simpa using this
  .split at h
   .rename_i a b _ _;split at h
    .rename_i hc;cases h;have:=rl hc (kJ hp a) (kv hp b);rw[kQ];simpa using this
    .split at h
     .rename_i hc;cases h;have:=rm hc (kJ hp b) (kv hp a);rw[kQ];simp;omega
     .cases h
   .rename_i a b _ _;split at h
    .rename_i hc;cases h;have:=rm hc (kJ hp a) (kv hp b);rw[nz];simpa using this
    .split at h
     .rename_i hc;cases h;have:=rl hc (kJ hp b) (kv hp a);rw[nz];simp;omega
     .cases h
   .rename_i a b _ _;split at h
    .rename_i hc;cases h;rw[ab1]at hc;rw[sJ];rcases hc with hc | hc
     .have:=rm hc (kJ hp a) (kv hp b);simp;omega
     .have:=rm hc (kJ hp b) (kv hp a);simp;omega
    .split at h
     .rename_i hc;cases h;rw[aaE]at hc;have h1:=rl hc.1 (kJ hp a) (kv hp b);have h2:=rl hc.2 (kJ hp b) (kv hp a);rw[sJ];simp;omega
     .cases h
   .cases h
def fW (hp:Path J path) {t:Bool} (h:known path e=some t):bh J e=t:=by
 unfold known at h;split at h
 .cases h;rfl
 .cases h;rfl
 .simp only[aaI]at h;obtain⟨b,hb,rfl⟩:=h;rw[CU,cP hp hb]
 .split at h
  .rename_i h1 h2;cases h;rw[oM,cP hp h1,cP hp h2];rfl
  .rename_i h1;cases h;rw[oM,cP hp h1];rfl
  .rename_i h1 _;cases h;rw[oM,cP hp h1];simp
  .exact cP hp h
 .split at h
  .rename_i h1 h2;cases h;rw[yC,cP hp h1,cP hp h2];rfl
  .rename_i h1;cases h;rw[yC,cP hp h1];rfl
  .rename_i h1 _;cases h;rw[yC,cP hp h1];simp
  .exact cP hp h
 .exact cP hp h
end
inductive CV where
 | int (k:IntKind) (e:E) | bool (e:E) | str (e:E)
 | pti (a o s n:Nat) (i:E)
 | hptr (x y:E) | sl (x y l c:E) | map (x:E)
 | vr (j:Nat) | hv (h:Nat) (x y:E) (j:Nat)
 | val (v:Value)
 | clo (f:Nat) (x:E)
variable {l:List CV}
inductive SV where | one (c:CV) | agg (l:List CV)
inductive TV where | sv (s:SV) | tup (l:List SV)
def CV.ev (J:Env):CV->Value
 | .int k e=>.int k (aB J e)
 | .bool e=>.bool (bh J e)
 | .str e=>.string (lh J e)
 | .pti a o s _ i=>.pointer (az (J.i a) ((o:Int)+(s:Int)*aB J i))
 | .hptr x y=>.pointer (az (aB J x) (aB J y))
 | .sl x y l c=>.slice (az (aB J x) (aB J y)) (aB J l).toNat (aB J c).toNat
 | .map x=>.map (if aB J x= -1 then none else some (aB J x).toNat)
 | .vr j=>J.v j
 | .hv h x y j=>((J.h h).cell (aB J x).toNat ((aB J y).toNat+j)).getD (.bool false)
 | .val v=>v
 | .clo f x=>.func (.func f) #[] #[.pointer (az (aB J x) 0)]
def SV.ev (J:Env):SV->Value
 | .one c=>c.ev J
 | .agg l=>.agg (l.map (CV.ev J)).toArray
def TV.ev (J:Env):TV->Value
 | .sv s=>s.ev J
 | .tup l=>.tuple (l.map (SV.ev J)).toArray
def iG:Value->CV
 | .int k n=>.int k (.lit n)
 | .bool true=>.bool .tt
 | .bool false=>.bool .ff
 | .string s=>.str (.slit s)
 | .slice none n c=>.sl (.lit (-1)) (.lit 0) (.lit n) (.lit c)
 | .pointer none=>.hptr (.lit (-1)) (.lit 0)
 | .map none=>.map (.lit (-1))
 | v=>.val v
def Fy (J:Env) (v:Value):(iG v).ev J=v:=by
 unfold iG;split<;>rfl
def lift:Value->TV
 | .agg cs=>.sv (.agg (cs.toList.map iG))
 | v=>.sv (.one (iG v))
def jf (J:Env) (l:List Value):(l.map iG).map (CV.ev J)=l:=by
 induction l with
 | nil=>rfl
 | cons v l ih=>simp only[aaY,Fy,ih]
def Ke (J:Env) (v:Value):(lift v).ev J=v:=by
 unfold lift;split
 .simp only[TV.ev,SV.ev,jf]
 .exact Fy J v
def Gv:Value->Value->Bool
 | .nilFunc,.nilFunc=>true
 | .nilIface,.nilIface=>true
 | .func (.func f) a b,.func (.func g) c d=>f==g&&a.isEmpty&&b.isEmpty&&c.isEmpty&&d.isEmpty
 | _,_=>false
def AE {a b:Value} (h:Gv a b=true):a=b:=by
 unfold Gv at h;split at h<;>simp_all
def rp (c:E):CV->CV->Option CV
 | .int k e,.int a b=>if k=a then some (.int k (mkIte c e b))else none
 | .bool e,.bool b=>some (.bool (Ir c e b))
 | .hptr x y,.hptr x' y'=>some (.hptr (mkIte c x x') (mkIte c y y'))
 | .sl x y l k,.sl x' y' l' a=>some (.sl (mkIte c x x') (mkIte c y y') (mkIte c l l') (mkIte c k a))
 | .map x,.map x'=>some (.map (mkIte c x x'))
 | .vr j,.vr k=>if j=k then some (.vr j)else none
 | .val v,.val v'=>if Gv v v' then some (.val v)else none
 | _,_=>none
def pc {a b v:CV} (h:rp c a b=some v):v.ev J=if bh J c then a.ev J else b.ev J:=by
 unfold rp at h;split at h
 .split at h
  .rename_i hk;subst hk;cases h;simp only[CV.ev,jb];split<;>rfl
  .cases h
 .cases h;simp only[CV.ev,Hm];split<;>rfl
 .cases h;simp only[CV.ev,jb];split<;>rfl
 .cases h;simp only[CV.ev,jb];split<;>rfl
 .cases h;simp only[CV.ev,jb];split<;>rfl
 .split at h
  .rename_i hk;subst hk;cases h;simp
  .cases h
 .split at h
  .rename_i hv;cases h;simp [CV.ev,AE hv]
  .cases h
 .cases h
def vB (c:E):List CV->List CV->Option (List CV)
 | [],[]=>some []
 | a::l,b::m=>match rp c a b,vB c l m with
  | some v,some r=>some (v::r)
  | _,_=>none
 | _,_=>none
def BO {J:Env} {c:E} : ∀ {l m r:List CV},vB c l m=some r->r.map (CV.ev J)=if bh J c then l.map (CV.ev J)else m.map (CV.ev J)
 | [],[],r,h=>by cases h;simp
 | a::l,b::m,r,h=>by
  unfold vB at h;split at h
  .rename_i v r' h1 h2;cases h;have e1:=pc (J:=J) h1;have d:=BO (J:=J) h2;simp only[aaY,e1,d];split<;>rfl
  .cases h
 | [],_::_,_,h=>by simp [vB]at h
 | _::_,[],_,h=>by simp [vB]at h
def yf (c:E):SV->SV->Option SV
 | .one a,.one b=>(rp c a b).map .one
 | .agg l,.agg m=>(vB c l m).map .agg
 | _,_=>none
def zT {a b v:SV} (h:yf c a b=some v):v.ev J=if bh J c then a.ev J else b.ev J:=by
 unfold yf at h;split at h
 .simp only[aaI]at h;obtain⟨x,hx,rfl⟩:=h;exact pc hx
 .simp only[aaI]at h;obtain⟨x,hx,rfl⟩:=h;simp only[SV.ev,BO hx];split<;>rfl
 .cases h
def E.upto (n:Nat):E->Bool
 | .lit _ | .tt | .ff | .slit _=>true
 | .var i | .bvar i | .svar i | .vint i=>decide (i<n)
 | .add a b | .sub a b | .mul a b | .quo a b | .rem a b | .bits _ _ a b | .shl _ a b | .shr _ a b | .and a b | .or a b | .lt a b | .le a b | .eq a b | .beq a b | .scat a b | .sat a b | .seq a b | .slt a b=>a.upto n&&b.upto n
 | .wrap _ a | .not a | .sbyte a | .slen a=>a.upto n
 | .ite c a b | .sext c a b=>c.upto n&&a.upto n&&b.upto n
 | .hks h x y _ | .hI h x y _ | .hB h x y _ | .hP h x y _ _ | .his h x y _ _ | .hS h x y _=>decide (h<n)&&x.upto n&&y.upto n
 | .sof h x y l | .hby h x y l=>decide (h<n)&&x.upto n&&y.upto n&&l.upto n
 | .hmlen h x | .hism h x=>decide (h<n)&&x.upto n
structure ai (n:Nat) (J J':Env):Prop where
 i:∀ k,(_:k<n:=by omega)->J'.i k=J.i k
 b:∀ k,(_:k<n:=by omega)->J'.b k=J.b k
 s:∀ k,(_:k<n:=by omega)->J'.s k=J.s k
 v:∀ k,(_:k<n:=by omega)->J'.v k=J.v k
 h:∀ k,(_:k<n:=by omega)->J'.h k=J.h k
def ai.refl (n:Nat) (J:Env):ai n J J:=⟨fun _ _=>rfl,fun _ _=>rfl,fun _ _=>rfl,fun _ _=>rfl,fun _ _=>rfl⟩
def ai.trans {a b c:Env} (h:ai n a b) (k:ai n b c):ai n a c :=
 ⟨fun i hi=>(k.i i hi).trans (h.i i hi),fun i hi=>(k.b i hi).trans (h.b i hi),fun i hi=>(k.s i hi).trans (h.s i hi),fun i hi=>(k.v i hi).trans (h.v i hi),fun i hi=>(k.h i hi).trans (h.h i hi)⟩
def ai.mono {a b:Env} (h:ai n a b) (hm:m<=n:=by omega):ai m a b:=⟨fun i hi=>h.i i,fun i hi=>h.b i,fun i hi=>h.s i,fun i hi=>h.v i,fun i hi=>h.h i⟩
def ai.tr {a b c:Env} (h:ai n a b) (k:ai m b c) (hm:n<=m:=by omega):ai n a c:=h.trans (k.mono hm)
def za (h:ai n J J'):∀ e:E,e.upto n=true->ev J' e=ev J e:=by
 intro e
 induction e with
 | var i=>intro hb;simp only[E.upto,aaB]at hb;simp only[ev,h.i i hb]
 | bvar i=>intro hb;simp only[E.upto,aaB]at hb;simp only[ev,h.b i hb]
 | svar i=>intro hb;simp only[E.upto,aaB]at hb;simp only[ev,h.s i hb]
 | vint i=>intro hb;simp only[E.upto,aaB]at hb;simp only[ev,h.v i hb]
 | lit _=>intro _;rfl
 | slit _=>intro _;rfl
 | tt=>intro _;rfl
 | ff=>intro _;rfl
 | wrap k a ih=>intro hb;simp only[E.upto]at hb;simp only[ev,ih hb]
 | not a ih=>intro hb;simp only[E.upto]at hb;simp only[ev,ih hb]
 | sbyte a ih=>intro hb;simp only[E.upto]at hb;simp only[ev,ih hb]
 | slen a ih=>intro hb;simp only[E.upto]at hb;simp only[ev,ih hb]
 | ite c a b o g m=>intro hb;simp only[E.upto,aaE]at hb;simp only[ev,o hb.1.1,g hb.1.2,m hb.2]
 | sext c a b o g m=>intro hb;simp only[E.upto,aaE]at hb;simp only[ev,o hb.1.1,g hb.1.2,m hb.2]
 | hI k x y j d f=>intro hb;simp only[E.upto,aaE,aaB]at hb;simp only[ev,d hb.1.2,f hb.2,h.h k hb.1.1]
 | hB k x y j d f=>intro hb;simp only[E.upto,aaE,aaB]at hb;simp only[ev,d hb.1.2,f hb.2,h.h k hb.1.1]
 | hS k x y j d f=>intro hb;simp only[E.upto,aaE,aaB]at hb;simp only[ev,d hb.1.2,f hb.2,h.h k hb.1.1]
 | hP k x y j q d f=>intro hb;simp only[E.upto,aaE,aaB]at hb;simp only[ev,d hb.1.2,f hb.2,h.h k hb.1.1]
 | his k x y j q d f=>intro hb;simp only[E.upto,aaE,aaB]at hb;simp only[ev,d hb.1.2,f hb.2,h.h k hb.1.1]
 | hism k x d=>intro hb;simp only[E.upto,aaE,aaB]at hb;simp only[ev,d hb.2,h.h k hb.1]
 | hmlen k x d=>intro hb;simp only[E.upto,aaE,aaB]at hb;simp only[ev,d hb.2,h.h k hb.1]
 | hks k x y ks d f=>intro hb;simp only[E.upto,aaE,aaB]at hb;simp only[ev,d hb.1.2,f hb.2,h.h k hb.1.1]
 | hby k x y l d f p=>intro hb;simp only[E.upto,aaE,aaB]at hb;simp only[ev,d hb.1.1.2,f hb.1.2,p hb.2,h.h k hb.1.1.1]
 | sof k x y l d f p=>intro hb;simp only[E.upto,aaE,aaB]at hb;simp only[ev,d hb.1.1.2,f hb.1.2,p hb.2,h.h k hb.1.1.1]
 | _=>rename_i g m;intro hb;simp only[E.upto,aaE]at hb;simp only[ev,g hb.1,m hb.2]
def cJ (h:ai n J J') (hb:e.upto n=true):aB J' e=aB J e:=by unfold aB;rw[za h e hb]
def lO (h:ai n J J') (hb:e.upto n=true):bh J' e=bh J e:=by unfold bh;rw[za h e hb]
def vW (h:ai n J J') (hb:e.upto n=true):lh J' e=lh J e:=by unfold lh;rw[za h e hb]
def CV.upto (n:Nat):CV->Bool
 | .int _ e | .bool e | .str e | .map e=>e.upto n
 | .pti a _ _ _ i=>decide (a<n)&&i.upto n
 | .hptr x y=>x.upto n&&y.upto n
 | .sl x y l c=>x.upto n&&y.upto n&&l.upto n&&c.upto n
 | .vr j=>decide (j<n)
 | .hv h x y _=>decide (h<n)&&x.upto n&&y.upto n
 | .val _=>true
 | .clo _ x=>x.upto n
def SV.upto (n:Nat):SV->Bool
 | .one c=>c.upto n
 | .agg l=>l.all (·.upto n)
def TV.upto (n:Nat):TV->Bool
 | .sv s=>s.upto n
 | .tup l=>l.all (·.upto n)
def CV.agree (h:ai m J J') (c:CV) (hb:c.upto m=true):c.ev J'=c.ev J:=by
 cases c<;>simp only[CV.upto,aaE,aaB]at hb<;>simp only[CV.ev]
 .rw[cJ h hb]
 .rw[lO h hb]
 .rw[vW h hb]
 .rw[h.i _ hb.1,cJ h hb.2]
 .rw[cJ h hb.1,cJ h hb.2]
 .rw[cJ h hb.1.1.1,cJ h hb.1.1.2,cJ h hb.1.2,cJ h hb.2]
 .rw[cJ h hb]
 .rw[h.v _ hb]
 .rw[cJ h hb.1.2,cJ h hb.2,h.h _ hb.1.1]
 .rw[cJ h hb]
def CV.gF (h:ai m J J') (l:List CV) (hb:l.all (·.upto m)=true):l.map (CV.ev J')=l.map (CV.ev J):=by
 rw[aa3]at hb;exact abr fun c hc=>CV.agree h c (hb c hc)
def SV.agree (h:ai m J J') (s:SV) (hb:s.upto m=true):s.ev J'=s.ev J:=by
 cases s with
 | one c=>exact CV.agree h c hb
 | agg l=>simp only[SV.ev,CV.gF h l hb]
def TV.agree (h:ai m J J') (s:TV) (hb:s.upto m=true):s.ev J'=s.ev J:=by
 cases s with
 | sv c=>exact SV.agree h c hb
 | tup l =>
  simp only[TV.upto,aa3]at hb;simp only[TV.ev,abr fun c hc=>SV.agree h c (hb c hc)]
def Path.agree {path:List E} (h:ai m J J') (hp:Path J path) (hb:path.all (·.upto m)=true):Path J' path:=by
 rw[aa3]at hb;intro e he;rw[lO h (hb e he)];exact hp e he
inductive bL where
 | bj (a:Nat) (l:List CV) (T:TypeId)
 | hp (k:Nat) (vers:List Nat) (tags links:List E)
 | ro (k:Nat) (tags:List E) (any:Bool)
 | dead
variable {r r':bL}
def bL.own:bL->Bool
 | .ro _ _ _=>false
 | _=>true
def bL.hl (J:Env):bL->Hl
 | .bj a l T=>Hl.one (J.i a).toNat (.cells (l.map (CV.ev J)).toArray T (0,0))
 | .hp k _ _ _=>J.h k
 | .ro k _ _=>J.h k
 | .dead=>Hl.none
def bL.pos (J:Env):bL->Prop
 | .bj a _ _=>0<=J.i a
 | _=>True
def bL.same (J J':Env) (r:bL):Prop:=r.hl J'=r.hl J/\(r.pos J->r.pos J')
abbrev Mem:=List bL
structure St where
 tmps:List (Option TV)
 mem:Mem
 nv:Nat
 path:List E
structure La (S:Nat->Prop) (w0 w:World):Prop where
 os:w.os=w0.os
 tape:w.tape=w0.tape
 output:w.output=w0.output
 size:w0.heap.size<=w.heap.size
 block:∀ k,k<w0.heap.size->¬S k->w.heap[k]?=w0.heap[k]?
def La.refl (S:Nat->Prop) (w:World):La S w w:=⟨rfl,rfl,rfl,aaS _,fun _ _ _=>rfl⟩
structure MRel (S:Nat->Prop) (w0:World) (J:Env) (mem:Mem) (w:World):Prop where
 fV:La S w0 w
 sub:∀ r∈mem,(r.hl J).sub w
 own:∀ r∈mem,r.own=true->∀ b,(r.hl J).mem b->S b\/w0.heap.size<=b
 bV:∀ (p q:Nat) r s,p≠q->mem[p]?=some r->mem[q]?=some s->r.own=true->(r.hl J).bV (s.hl J)
 pos:∀ r∈mem,r.pos J
structure Rel (S:Nat->Prop) (w0:World) (J:Env) (st:St) (a:Act) (w:World):Prop extends MRel S w0 J st.mem w where
 size:a.tmps.size=st.tmps.length
 defers:a.defers=[]
 tmp:∀ (t:Nat) (v:TV),st.tmps[t]?=some (some v)->a.tmps[t]?=some (v.ev J)
 path:Path J st.path
def Hl.sub_lt {h:Hl} (hs:h.sub w) {b:Nat} (hb:h.mem b):b<w.heap.size:=by
 unfold Hl.mem at hb;obtain⟨o,ho⟩:=abw.1 hb;exact(abg.1 (hs b o ho)).1
def bL.upto (n:Nat):bL->Bool
 | .bj a l _=>decide (a<n)&&l.all (·.upto n)
 | .hp k vers tags links=>decide (k<n)
 | .ro k tags _=>decide (k<n)
 | .dead=>true
def O6 (f:α->Bool):Option α->Bool
 | some x=>f x
 | none=>true
def Mem.upto (n:Nat) (m:Mem):Bool:=m.all (bL.upto n)
def St.upto (n:Nat) (st:St):Bool:=st.tmps.all (O6 (·.upto n))&&Mem.upto n st.mem&&st.path.all (·.upto n)
def bL.agree (h:ai m J J') (r:bL) (hb:r.upto m=true):r.hl J'=r.hl J:=by
 cases r<;>simp only[bL.upto,aaE,aaB]at hb<;>simp only[bL.hl]
 .rw[h.i _ hb.1,CV.gF h _ hb.2]
 .rw[h.h _ hb]
 .rw[h.h _ hb]
def bL.Lc (h:ai m J J') (r:bL) (hb:r.upto m=true):r.pos J->r.pos J':=by
 cases r<;>simp only[bL.upto,aaE,aaB]at hb<;>simp only[bL.pos]
 .rw[h.i _ hb.1];exact id
 all_goals (intro;trivial)
def Mem.agree (h:ai m J J') {mem:Mem} (hb:Mem.upto m mem=true):∀ r∈mem,r.same J J':=by
 unfold Mem.upto at hb;rw[aa3]at hb;exact fun r hr=>⟨bL.agree h r (hb r hr),bL.Lc h r (hb r hr)⟩
section
variable {S:Nat->Prop} {w0:World} {J J':Env} {st:St} {a:Act} {w w':World} {mem mem':Mem}
def MRel.vf (h:MRel S w0 J mem w) (U:Nat->Prop) (d:Nat->Prop)
 (hU:∀ b,U b->∃ r∈mem,r.own=true/\(r.hl J).mem b)
 (ho:w'.os=w.os) (m:w'.tape=w.tape) (f:w'.output=w.output) (hs:w.heap.size<=w'.heap.size)
 (hb:∀ b,b<w.heap.size->¬U b->w'.heap[b]?=w.heap[b]?)
 (c1:∀ (p:Nat) r,mem'[p]?=some r->¬d p->mem[p]?=some r/\r.same J J'/\∀ b,(r.hl J).mem b->¬U b)
 (c2:∀ (p:Nat) r,mem'[p]?=some r->d p->((r.hl J').sub w'/\r.pos J')/\∀ b,(r.hl J').mem b->U b\/w.heap.size<=b)
 (c3:∀ (p q:Nat) r s,p≠q->d p->d q->mem'[p]?=some r->mem'[q]?=some s->r.own=true->(r.hl J').bV (s.hl J')):MRel S w0 J' mem' w':=by
 have g:∀ b,U b->S b\/w0.heap.size<=b:=fun b hb=>by
  obtain⟨r,hr,ho,hm⟩:=hU b hb;exact h.own r hr ho b hm
 refine⟨⟨ho.trans h.fV.os,m.trans h.fV.tape,f.trans h.fV.output,acz h.fV.size hs,fun k hk hS=>?_⟩,?_,?_,?_,?_⟩
 .rw[hb k (adt hk h.fV.size) (fun hu=>(g k hu).elim hS (fun h=>ah))];exact h.fV.block k hk hS
 .intro r hr;obtain⟨p,hp⟩:=abB hr;by_cases hn:d p
  .exact(c2 p r hp hn).1.1
  .obtain⟨e1,⟨c,_⟩,e⟩:=c1 p r hp hn;rw[c];intro b o i;have hm:(r.hl J).mem b:=by unfold Hl.mem;rw[i];rfl
   have hs:=h.sub r (aaA e1);rw[hb b (Hl.sub_lt hs hm) (e b hm)];exact hs b o i
 .intro r hr a b hm;obtain⟨p,hp⟩:=abB hr;by_cases hn:d p
  .rcases(c2 p r hp hn).2 b hm with hu | hl
   .exact g b hu
   .right;have:=h.fV.size;omega
  .obtain⟨e1,⟨c,_⟩,e⟩:=c1 p r hp hn;rw[c]at hm;exact h.own r (aaA e1) a b hm
 .intro p q r s j hp l a;by_cases hn:d p<;>by_cases hm:d q
  .exact c3 p q r s j hn hm hp l a
  .obtain⟨e1,⟨c,_⟩,e⟩:=c1 q s l hm;obtain⟨f1,f2⟩:=c2 p r hp hn;rintro b ⟨x,y⟩;rw[c]at y;rcases f2 b x with hu | hl
   .exact e b y hu
   .have:=Hl.sub_lt (h.sub s (aaA e1)) y;omega
  .obtain⟨e1,⟨c,_⟩,e⟩:=c1 p r hp hn;obtain⟨f1,f2⟩:=c2 q s l hm;rintro b ⟨x,y⟩;rw[c]at x;rcases f2 b y with hu | hl
   .exact e b x hu
   .have:=Hl.sub_lt (h.sub r (aaA e1)) x;omega
  .obtain⟨e1,⟨c,_⟩,e⟩:=c1 p r hp hn;obtain⟨f1,⟨f2,_⟩,f3⟩:=c1 q s l hm;rw[c,f2];exact h.bV p q r s j e1 f1 a
 .intro r hr;obtain⟨p,hp⟩:=abB hr;by_cases hn:d p
  .exact(c2 p r hp hn).1.2
  .obtain⟨e1,⟨_,c⟩,_⟩:=c1 p r hp hn;exact c (h.pos r (aaA e1))
def MRel.set (h:MRel S w0 J mem w) (hp:mem[p]?=some r) (hr:r.own=true)
 (ho:w'.os=w.os) (j:w'.tape=w.tape) (c:w'.output=w.output) (hs:w.heap.size<=w'.heap.size)
 (hb:∀ b,b<w.heap.size->¬(r.hl J).mem b->w'.heap[b]?=w.heap[b]?)
 (hag:∀ s∈mem,s.same J J')
 (hsub:(r'.hl J').sub w') (d:r'.pos J') (f:∀ b,(r'.hl J').mem b->(r.hl J).mem b\/w.heap.size<=b):MRel S w0 J' (mem.set p r') w':=by
 have g:p<mem.length:=(aaH.1 hp).1;refine h.vf (fun b=>(r.hl J).mem b) (fun q=>q=p) (fun b hb=>⟨r,aaA hp,hr,hb⟩) ho j c hs hb ?_ ?_ ?_
 .intro q s a hn;rw[abF (fun e=>hn e.symm)]at a;exact⟨a,hag s (aaA a),fun b hb hu=>h.bV p q r s (fun e=>hn e.symm) hp a hr b ⟨hu,hb⟩⟩
 .intro q s a hn;rw[hn,abP g]at a;cases a;exact⟨⟨hsub,d⟩,f⟩
 .intro q q' s k i h1 h2;exact absurd (h1.trans h2.symm) i
def MRel.add (h:MRel S w0 J mem w) 
 (ho:w'.os=w.os) (g:w'.tape=w.tape) (c:w'.output=w.output) (hs:w.heap.size<=w'.heap.size)
 (hb:∀ b,b<w.heap.size->w'.heap[b]?=w.heap[b]?)
 (hag:∀ s∈mem,s.same J J')
 (hsub:(r'.hl J').sub w') (d:r'.pos J') (e:∀ b,(r'.hl J').mem b->w.heap.size<=b):MRel S w0 J' (mem++[r']) w':=by
 refine h.vf (fun b=>False) (fun q=>q=mem.length) (fun b hb=>hb.elim) ho g c hs (fun b hl _=>hb b hl) ?_ ?_ ?_
 .intro q s a hn;rw[acN]at a;split at a
  .exact⟨a,hag s (aaA a),fun _ _=>id⟩
  .rw[aaK (by simp;omega)]at a;cases a
 .intro q s a hn;rw[hn,aaQ (aaS _),adG]at a;cases a;exact⟨⟨hsub,d⟩,fun b hb=>Or.inr (e b hb)⟩
 .intro q q' s i f h1 h2;exact absurd (h1.trans h2.symm) f
def MRel.agree (h:MRel S w0 J mem w) (hag:∀ s∈mem,s.same J J'):MRel S w0 J' mem w :=
 h.vf (fun _=>False) (fun _=>False) (fun _ h=>h.elim) rfl rfl rfl (aaS _) (fun _ _ _=>rfl) (fun p r hp _=>⟨hp,hag r (aaA hp),fun _ _=>id⟩) (fun _ _ _ h=>h.elim) (fun _ _ _ _ _ h=>h.elim)
def MRel.below (h:MRel S w0 J mem w) (hb:RowKit.Below w.heap.size w w'):MRel S w0 J mem w' :=
 h.vf (fun _=>False) (fun _=>False) (fun _ h=>h.elim) hb.os hb.tape hb.output hb.size (fun b hl _=>hb.block b hl) (fun p r hp _=>⟨hp,⟨rfl,id⟩,fun _ _=>id⟩) (fun _ _ _ h=>h.elim) (fun _ _ _ _ _ h=>h.elim)
def MRel.sublist (h:MRel S w0 J mem w) (hm:∀ (p:Nat) r,mem'[p]?=some r->mem[p]?=some r\/r=.dead):MRel S w0 J mem' w:=by
 refine h.vf (fun _=>False) (fun p=>mem'[p]?=some .dead) (fun _ h=>h.elim) rfl rfl rfl (aaS _) (fun _ _ _=>rfl) (fun p r hp hn=>⟨(hm p r hp).resolve_right (fun e=>hn (by rw[hp,e])),⟨rfl,id⟩,fun _ _=>id⟩) ?_ ?_
 .intro p r hp hn;rw[hp]at hn;cases hn;exact⟨⟨(fun b o hb=>by cases hb),trivial⟩,(fun b hb=>by cases hb)⟩
 .intro p q r s _ hn _ hp _ _;rw[hp]at hn;cases hn;rintro b ⟨x,_⟩;cases x
def Rel.agree (h:ai m J J') (hb:st.upto m=true) (hr:Rel S w0 J st a w):Rel S w0 J' st a w:=by
 simp only[St.upto,aaE]at hb;refine⟨hr.toMRel.agree (Mem.agree h hb.1.2),hr.size,hr.defers,fun t s hs=>?_,hr.path.agree h hb.2⟩;have:=hb.1.1;rw[aa3]at this;have:=this _ (aaA hs);simp only[O6]at this;rw[TV.agree h s this];exact hr.tmp t s hs
def Rel.pD (h:ai m J J') (hb:st.upto m=true) (hr:Rel S w0 J st a w) {mem:Mem} (hm:MRel S w0 J' mem w') (nv:Nat):Rel S w0 J' {st with mem:=mem,nv:=nv} a w':=by
 have:=hr.agree h hb;exact⟨hm,this.size,this.defers,this.tmp,this.path⟩
def de (st:St):Operand->Option TV
 | .tmp t=>match st.tmps[t]? with
  | some (some s)=>some s
  | _=>none
 | .const v=>some (lift v)
 | .func f=>some (.sv (.one (.val (.func (.func f) #[] #[]))))
 | .global g=>some (.sv (.one (.hptr (.lit g) (.lit 0))))
def aH (h:Rel S w0 J st a w) {x:Operand} {v:TV} (ho:de st x=some v):a.eval x=v.ev J:=by
 cases x with
 | tmp t =>
  simp only[de]at ho;split at ho
  .rename_i s hs;have:=h.tmp t s hs;simp only[aaF]at ho;subst ho;simp [Act.eval,this]
  .cases ho
 | const v'=>simp only[de,aaF]at ho;rw[<-ho,Ke];rfl
 | func f=>simp only[de,aaF]at ho;rw[<-ho];rfl
 | global g=>simp only[de,aaF]at ho;rw[<-ho];rfl
def St.put (st:St) (d:Option Tmp) (v:Option TV):St :=
 match d with
 | some d=>{st with tmps:=st.tmps.set d v}
 | none=>st
def St.iA (st:St) (d:Option Tmp) (v:Option TV):(st.put d v).mem=st.mem:=by cases d<;>rfl
def St.DK (st:St) (d:Option Tmp) (v:Option TV):(st.put d v).nv=st.nv:=by cases d<;>rfl
def St.Am (st:St) (d:Option Tmp) (v:Option TV):(st.put d v).path=st.path:=by cases d<;>rfl
def Rel.put (h:Rel S w0 J st a w) (d:Option Tmp) (v:Option TV) (x:Value) (hx:∀ y,v=some y->x=y.ev J):Rel S w0 J (st.put d v) (a.put d x) w:=by
 cases d with
 | none=>exact h
 | some d =>
  refine⟨h.toMRel,?_,h.defers,?_,h.path⟩
  .simp [Act.put,St.put,h.size]
  .intro t s hs;simp only[St.put]at hs;simp only[Act.put];by_cases he:d=t
   .subst he;by_cases b:d<st.tmps.length
    .rw[abP b]at hs;simp only[aaF]at hs;rw[Array.getElem?_setIfInBounds_self_of_lt (by rw[h.size];exact b),hx s hs]
    .rw[aaK (by simpa using b)]at hs;cases hs
   .rw[abF he]at hs;rw[ab3 he];exact h.tmp t s hs
def Ak (a:Nat):Mem->Nat->Option (Nat×List CV×TypeId)
 | [],_=>none
 | .bj b l T::m,p=>if b=a then some (p,l,T)else Ak a m (p+1)
 | _::m,p=>Ak a m (p+1)
def jB {a:Nat} : ∀ {mem:Mem} {p q:Nat} {l:List CV} {T:TypeId},Ak a mem p=some (q,l,T)->p<=q/\mem[q-p]?=some (.bj a l T)
 | [],_,_,_,_,h=>by cases h
 | .bj b l' c::m,p,q,l,T,h=>by
  unfold Ak at h;split at h
  .rename_i e;subst e;cases h;exact⟨aaS _,aF⟩
  .obtain⟨h1,h2⟩:=jB h;exact⟨ah,by rw[show q-p=(q-(p+1))+1 by omega,abq];exact h2⟩
 | .hp _ _ _ _::m,p,q,l,T,h=>by
  obtain⟨h1,h2⟩:=jB (mem:=m) (p:=p+1) h;exact⟨ah,by rw[show q-p=(q-(p+1))+1 by omega,abq];exact h2⟩
 | .ro _ _ _::m,p,q,l,T,h=>by
  obtain⟨h1,h2⟩:=jB (mem:=m) (p:=p+1) h;exact⟨ah,by rw[show q-p=(q-(p+1))+1 by omega,abq];exact h2⟩
 | .dead::m,p,q,l,T,h=>by
  obtain⟨h1,h2⟩:=jB (mem:=m) (p:=p+1) h;exact⟨ah,by rw[show q-p=(q-(p+1))+1 by omega,abq];exact h2⟩
def tX (mem:Mem) (a:Nat):Option (Nat×List CV×TypeId):=Ak a mem 0
def gH {a:Nat} (h:tX mem a=some (p,l,T)):mem[p]?=some (.bj a l T):=by
 have:=(jB h).2;simpa using this
def bL.has (x:E):bL->Bool
 | .hp k vers tags _=>tags.contains x||(match x with | .hP h _ _ _ _=>h==k||vers.contains h | _=>false)
 | .ro k tags _=>tags.contains x||(match x with | .hP h _ _ _ _=>h==k | _=>false)
 | _=>false
def F0 (x:E):Mem->Nat->Option (Nat×bL)
 | [],_=>none
 | r::m,p=>if r.has x then some (p,r)else F0 x m (p+1)
def xe {x:E} : ∀ {mem:Mem} {p q:Nat} {r:bL},F0 x mem p=some (q,r)->p<=q/\mem[q-p]?=some r
 | [],_,_,_,h=>by cases h
 | s::m,p,q,r,h=>by
  unfold F0 at h;split at h
  .cases h;exact⟨aaS _,aF⟩
  .obtain⟨h1,h2⟩:=xe h;exact⟨ah,by rw[show q-p=(q-(p+1))+1 by omega,abq];exact h2⟩
def bL.hk:bL->Option Nat
 | .hp k _ _ _=>some k
 | .ro k _ _=>some k
 | _=>none
def bL.WI (h:r.hk=some k):r.hl J=J.h k:=by cases r<;>simp [bL.hk]at h<;>simp [bL.hl,h]
def bL.YI:bL->Bool
 | .ro _ _ any=>any
 | _=>false
def qC:Mem->Nat->Option (Nat×bL)
 | [],_=>none
 | r::m,p=>if r.YI then some (p,r)else qC m (p+1)
def lE:∀ {mem:Mem} {p q:Nat} {r:bL},qC mem p=some (q,r)->p<=q/\mem[q-p]?=some r
 | [],_,_,_,h=>by cases h
 | s::m,p,q,r,h=>by
  unfold qC at h;split at h
  .cases h;exact⟨aaS _,aF⟩
  .obtain⟨h1,h2⟩:=lE h;exact⟨ah,by rw[show q-p=(q-(p+1))+1 by omega,abq];exact h2⟩
def Dc (mem:Mem) (x:E):Option (Nat×bL) :=
 match F0 x mem 0 with
 | some (p,.ro k tags false)=>if tags.contains x then some (p,.ro k tags false)else match qC mem 0 with
  | some q=>some q
  | none=>some (p,.ro k tags false)
 | some r=>some r
 | none=>qC mem 0
def iZ {x:E} (h:Dc mem x=some (p,r)):mem[p]?=some r:=by
 have any:∀ {p r},qC mem 0=some (p,r)->mem[p]?=some r:=fun h=>by
  have:=(lE h).2;simpa using this
 have hp:∀ {p r},F0 x mem 0=some (p,r)->mem[p]?=some r:=fun h=>by
  have:=(xe h).2;simpa using this
 unfold Dc at h;split at h
 .rename_i hr;split at h
  .cases h;exact hp hr
  .split at h
   .rename_i a;cases h;exact any a
   .cases h;exact hp hr
 .rename_i hr;cases h;exact hp hr
 .exact any h
def vV {d:TypeDesc} (hu:P.underlying t=some d) (w:World):(isAgg t).run P w=.ok (match d with | .struct _ | .array _ _=>true | _=>false) w:=by
 unfold isAgg;rw[Sem.run_bind,run_underlying hu w];cases d<;>rfl
def Ha (P:Program) (t:TypeId):Option Bool :=
 match P.underlying t with
 | some (.struct _)=>some true
 | some (.array _ _)=>some true
 | some _=>some false
 | none=>none
def tH {b:Bool} (h:Ha P t=some b) (w:World):(isAgg t).run P w=.ok b w:=by
 unfold Ha at h;split at h
 .rename_i hu;cases h;exact vV hu w
 .rename_i hu;cases h;exact vV hu w
 .rename_i d hs a hu;cases h;rw[vV hu w];cases d<;>first | rfl | (exact absurd rfl (hs _)) | (exact absurd rfl (a _ _)) | (exact absurd hu (hs _)) | (exact absurd hu (a _ _))
 .cases h
def fI (P:Program) (t:TypeId):Option Nat:=(P.info? t).map (·.size)
def fe (h:fI P t=some n) (w:World):(sizeOf t).run P w=.ok n w:=by
 unfold fI at h;cases hi:P.info? t with
 | none=>simp [hi]at h
 | some i=>simp [hi]at h;subst h;simp [sizeOf,typeInfo,hi]
def mD (P:Program) (t:TypeId):Option Value:=(P.info? t).bind (·.zero)
def lX (h:mD P t=some v) (w:World):(zeroValue t).run P w=.ok v w:=by
 unfold mD at h;cases hi:P.info? t with
 | none=>simp [hi]at h
 | some i=>simp [hi]at h;simp [zeroValue,typeInfo,hi,h]
def gW (P:Program) (t:TypeId) (l:List CV) (o:Nat):Option SV :=
 match Ha P t,fI P t with
 | some true,some n=>if o+n<=l.length then some (.agg ((l.drop o).take n))else none
 | some false,_=>(l[o]?).map .one
 | _,_=>none
def fE (b o n:Nat):(⟨b,o,none⟩:Addr).add n=⟨b,o+n,none⟩:=by unfold Addr.add;split<;>simp_all
def sq {b:Nat} {cs:List Value} (a:Ha P t=some true) (hs:fI P t=some n) (hl:cs.length=n)
 (h:∀ j v,cs[j]?=some v->w.cell? ⟨b,o+j,none⟩=some v):(loadVar t ⟨b,o,none⟩).run P w=.ok (.agg cs.toArray) w:=by
 unfold loadVar;simp only[Sem.run_bind,tH a,Result.andThen_ok,ab6,fe hs];subst hl;rw[run_loadCells_list w ⟨b,o,none⟩ cs (fun j v hv=>by rw[fE];exact h j v hv)];rfl
def wQ {p:Addr} (a:Ha P t=some false) (h:w.cell? p=some v):(loadVar t p).run P w=.ok v w:=by
 unfold loadVar;simp only[Sem.run_bind,tH a,Result.andThen_ok,abz,aca];simp [load,Sem.run,h]
def sm {b:Nat} {v:SV} {fr:Nat×Nat} (h:gW P t l o=some v)
 (hb:w.heap[b]?=some (.cells (l.map (CV.ev J)).toArray T fr)):(loadVar t ⟨b,o,none⟩).run P w=.ok (v.ev J) w:=by
 have hc:∀ j,w.cell? ⟨b,j,none⟩=(l[j]?).map (CV.ev J):=fun j=>by simp [World.cell?,hb]
 unfold gW at h;split at h
 .rename_i n a hs;split at h
  .rename_i hle;cases h;refine sq (cs:=((l.drop o).take n).map (CV.ev J)) a hs (by simp;omega) (fun j x hx=>?_);rw[hc];rw[aaL,abf]at hx;split at hx
   .rwa[aa9]at hx
   .simp at hx
  .cases h
 .rename_i a;simp only[aaI]at h;obtain⟨x,hx,rfl⟩:=h;exact wQ a (by rw[hc,hx];rfl)
 .cases h
def MRel.bj (h:MRel S w0 J mem w) {a:Nat} (hp:mem[p]?=some (.bj a l T)):w.heap[(J.i a).toNat]?=some (.cells (l.map (CV.ev J)).toArray T (0,0)) :=
 h.sub _ (aaA hp) _ _ (Hl.aU _ _)
end
abbrev TI (k:IntKind) (e:E):TV:=.sv (.one (.int k e))
abbrev TB (e:E):TV:=.sv (.one (.bool e))
abbrev TS (e:E):TV:=.sv (.one (.str e))
abbrev TP (x y:E):TV:=.sv (.one (.hptr x y))
def OW (k:IntKind):E->E->E
 | .lit a,.lit b=>.lit (k.wrap (a*2 ^ (min b.toNat k.bits)))
 | a,b=>.shl k a b
def LL (J:Env) (k:IntKind) (a b:E):aB J (OW k a b)=k.wrap (aB J a*2 ^ (min (aB J b).toNat k.bits)):=by
 unfold OW;split<;>rfl
def OX (k:IntKind):E->E->E
 | .lit a,.lit b=>.lit (a.fdiv (2 ^ (min b.toNat k.bits)))
 | a,b=>.shr k a b
def LN (J:Env) (k:IntKind) (a b:E):aB J (OX k a b)=(aB J a).fdiv (2 ^ (min (aB J b).toNat k.bits)):=by
 unfold OX;split<;>rfl
def OT:E->E->E
 | .lit a,.lit b=>.lit (a.tdiv b)
 | a,b=>.quo a b
def LI (J:Env) (a b:E):aB J (OT a b)=(aB J a).tdiv (aB J b):=by unfold OT;split<;>rfl
def OU:E->E->E
 | .lit a,.lit b=>.lit (a.tmod b)
 | a,b=>.rem a b
def LJ (J:Env) (a b:E):aB J (OU a b)=(aB J a).tmod (aB J b):=by unfold OU;split<;>rfl
def TF (op:BinOp) (k c:IntKind) (a b:E):Option (E×TV) :=
 match op with
 | .shl=>some (mkLe (.lit 0) b,TI k (OW k a b))
 | .shr=>some (mkLe (.lit 0) b,TI k (OX k a b))
 | op=>if k=c then match op with
  | .add=>some (.tt,TI k (mkWrap k (mkAdd a b)))
  | .sub=>some (.tt,TI k (mkWrap k (mkSub a b)))
  | .mul=>some (.tt,TI k (mkWrap k (mkMul a b)))
  | .quo=>some (mkNot (mkEq b (.lit 0)),TI k (mkWrap k (OT a b)))
  | .rem=>some (mkNot (mkEq b (.lit 0)),TI k (OU a b))
  | .and=>some (.tt,TI k (.bits .and k a b))
  | .or=>some (.tt,TI k (.bits .or k a b))
  | .xor=>some (.tt,TI k (.bits .xor k a b))
  | .andNot=>some (.tt,TI k (.bits .andNot k a b))
  | .eql=>some (.tt,TB (mkEq a b))
  | .neq=>some (.tt,TB (mkNot (mkEq a b)))
  | .lss=>some (.tt,TB (mkLt a b))
  | .leq=>some (.tt,TB (mkLe a b))
  | .gtr=>some (.tt,TB (mkLt b a))
  | .geq=>some (.tt,TB (mkLe b a))
  | _=>none
 else none
section
variable {P:Program} {J:Env} {w:World}
def Hp {k d:IntKind} {a b n:E} {v:TV} (h:TF op k d a b=some (n,v)) (hn:bh J n=true) :
 (binOp op T (.int k (aB J a)) (.int d (aB J b))).run P w=.ok (v.ev J) w:=by
 unfold TF at h;split at h
 .cases h;rw[ba,ak,aaB]at hn;have:¬aB J b<0:=ah;simp only[binOp,Op.shift,this,aca,TV.ev,SV.ev,CV.ev,LL];rfl
 .cases h;rw[ba,ak,aaB]at hn;have:¬aB J b<0:=ah;simp only[binOp,Op.shift,this,aca,TV.ev,SV.ev,CV.ev,LN];rfl
 .split at h
  .rename_i hk;subst hk;split at h<;>first | (cases h;done) | skip
   all_goals cases h
   case h_4 =>
    rw[dv,gj,abE,abu,ak]at hn;have c:¬aB J b=0:=hn;simp only[binOp,ne_eq,acw,aca,Op.intDiv,aaG c,TV.ev,SV.ev,CV.ev,oU,LI,Sem.run_pure]
   case h_5 =>
    rw[dv,gj,abE,abu,ak]at hn;have c:¬aB J b=0:=hn;simp only[binOp,ne_eq,acw,aca,Op.intDiv,aaG c,TV.ev,SV.ev,CV.ev,LJ,Sem.run_pure]
   all_goals
    simp only[binOp,ne_eq,acw,aca,Op.intArith,Op.intBits,Op.intCmp,TV.ev,SV.ev,CV.ev,oU,fD,oe,od,ud,gj,dv,js,ba,cQ]
    try rfl
    try (simp only[Sem.run_pure];congr 2;rw[acx];simp)
  .cases h
def AQ (x y:ByteArray):(x.toList==y.toList)=decide (x=y):=by
 rw[acx];simp only[adx,aaB];refine⟨fun h=>?_,fun h=>by rw[h]⟩;rw[ByteArray.toList_eq,ByteArray.toList_eq]at h;cases x;cases y;simp at h;rw[h]
def TG (op:BinOp) (a b:E):Option (E×TV) :=
 match op with
 | .add=>some (mkLe (mkAdd (wT a) (wT b)) (.lit 9223372036854775807),TS (Kj a b))
 | .eql=>some (.tt,TB (mkSeq a b))
 | .neq=>some (.tt,TB (mkNot (mkSeq a b)))
 | _=>none
def Hq {a b n:E} {v:TV} (h:TG op a b=some (n,v)) (hn:bh J n=true) :
 (binOp op T (.string (lh J a)) (.string (lh J b))).run P w=.ok (v.ev J) w:=by
 unfold TG at h;split at h
 .cases h;rw[ba,fD,lS,lS,ak,aaB]at hn;have:¬(((lh J a).size+(lh J b).size:Nat):Int)>IntKind.i64.max:=by simp only[IntKind.max,IntKind.signed,IntKind.bits];omega
  simp only[binOp,Op.stringOp,aaG this,TV.ev,SV.ev,CV.ev,Ct,Sem.run_pure]
 .cases h;simp only[binOp,Op.stringOp,TV.ev,SV.ev,CV.ev,vj,Sem.run_pure,AQ]
 .cases h;simp only[binOp,Op.stringOp,TV.ev,SV.ev,CV.ev,dv,vj,Sem.run_pure,AQ]
 .cases h
def AG (i:E):Nat->List SV->Option SV
 | _,[]=>none
 | _,[v]=>some v
 | j,v::l=>match AG i (j+1) l with
  | some r=>yf (mkEq i (.lit j)) v r
  | none=>none
def AH {i:E} : ∀ (l:List SV) (j:Nat) (v:SV),AG i j l=some v->(j:Int)<=aB J i->aB J i<j+l.length->∃ x,l[(aB J i).toNat-j]?=some x/\v.ev J=x.ev J
 | [],j,v,h,_,_=>by simp [AG]at h
 | [x],j,v,h,h1,h2=>by
  simp only[AG,aaF]at h;subst h;simp only[aaW]at h2;have:(aB J i).toNat-j=0:=ah;exact⟨x,by rw[this];rfl,rfl⟩
 | x::y::l,j,v,h,h1,h2=>by
  simp only[AG]at h;split at h
  .rename_i r hr;have hm:=zT (J:=J) h;rw[gj,ak]at hm;by_cases he:aB J i=(j:Int)
   .have:(aB J i).toNat-j=0:=ah;exact⟨x,by rw[this];rfl,by rw[hm];simp [he]⟩
   .simp only[abc]at h2;obtain⟨z,a,hv⟩:=AH (y::l) (j+1) r hr ah (by simp only[abc];omega);refine⟨z,?_,by rw[hm,<-hv];simp [he]⟩;have:(aB J i).toNat-j=((aB J i).toNat-(j+1))+1:=ah;rw[this,abq];exact a
  .cases h
def Qy (i:E) (n:Nat):E:=mkAnd (mkLe (.lit 0) i) (mkLt i (.lit n))
def jc (h:bh J (Qy i n)=true):0<=aB J i/\aB J i<n:=by
 unfold Qy at h;rw[aO,aaE,ba,js,aaB,aaB]at h;exact h
def iv {α:Type} : List (Option α)->Option (List α)
 | []=>some []
 | some x::l=>(iv l).map (x::·)
 | none::_=>none
def mN {α:Type} : ∀ {l:List (Option α)} {m:List α},iv l=some m->m.length=l.length/\∀ (j:Nat) x,m[j]?=some x->l[j]?=some (some x)
 | [],m,h=>by cases h;simp
 | some y::l,m,h=>by
  simp only[iv,aaI]at h;obtain⟨r,hr,rfl⟩:=h;obtain⟨h1,h2⟩:=mN hr;refine⟨by simp [h1],fun j x hx=>?_⟩;cases j with
  | zero=>simpa using hx
  | succ j=>simpa using h2 j x (by simpa using hx)
 | none::l,m,h=>by simp [iv]at h
def kindOf:Value->Kd
 | .int k _=>.int k
 | .bool _=>.bool
 | .slice _ _ _=>.slice
 | .pointer _=>.ptr
 | .string _=>.str
 | .map _=>.map
 | _=>.any
def uI (h:Nat) (x y:E) (j:Nat):Kd->CV
 | .int k=>.int k (.hI h x y j)
 | .bool=>.bool (.hB h x y j)
 | .slice=>.sl (.hP h x y j 0) (.hP h x y j 1) (.hP h x y j 2) (.hP h x y j 3)
 | .ptr=>.hptr (.hP h x y j 0) (.hP h x y j 1)
 | .str=>.str (.hS h x y j)
 | .map=>.map (.hP h x y j 0)
 | .any=>.hv h x y j
def tf {h:Nat} {x y:E} {k:Kd} (hh:bh J (.his h x y j k)=true):(J.h h).cell (aB J x).toNat ((aB J y).toNat+j)=some ((uI h x y j k).ev J):=by
 rw[xQ]at hh;cases hc:(J.h h).cell (aB J x).toNat ((aB J y).toNat+j)with
 | none=>simp [hc,bz]at hh
 | some v =>
  rw[hc]at hh;cases k with
  | any=>simp [uI,CV.ev,hc]
  | int k =>
   cases v<;>simp only[bz,abz,aaB]at hh
   subst hh;simp [uI,CV.ev,fh,hc,cf]
  | bool =>
   cases v<;>simp only[bz,abz]at hh
   simp [uI,CV.ev,TD,hc,xI]
  | str =>
   cases v<;>simp only[bz,abz]at hh
   simp [uI,CV.ev,Vv,hc,Qs]
  | map =>
   cases v<;>simp only[bz,abz]at hh
   rename_i r;cases r<;>simp [uI,CV.ev,fG,hc,bw]
  | slice =>
   cases v<;>simp only[bz,abz]at hh
   rename_i a n c;cases a with
   | none=>simp [uI,CV.ev,fG,hc,bw,az]
   | some a =>
    obtain⟨b,o,s⟩:=a;cases s with
    | none=>simp [uI,CV.ev,fG,hc,bw,az]
    | some s =>
     simp only[uI,CV.ev,fG,hc,bw,aar];unfold az;rw[aaG ah,aaG ah,aar,GS,show(-(-(b:Int)-2)-2).toNat=b by omega]
  | ptr =>
   unfold bz at hh;split at hh<;>first | (cases hh;done) | skip
   all_goals simp_all
   .simp [uI,CV.ev,fG,hc,bw,az]
   .simp [uI,CV.ev,fG,hc,bw,az]
def aY (h:Nat) (x y:E):Nat->List Kd->List CV
 | _,[]=>[]
 | j,k::l=>uI h x y j k::aY h x y (j+1) l
def jC (h:Nat) (x y:E):Nat->List Kd->E
 | _,[]=>.tt
 | j,k::l=>mkAnd (.his h x y j k) (jC h x y (j+1) l)
def qJ {h:Nat} {x y:E} : ∀ (ks:List Kd) (j:Nat),bh J (jC h x y j ks)=true->∀ (i:Nat) v,((aY h x y j ks).map (CV.ev J))[i]?=some v->(J.h h).cell (aB J x).toNat ((aB J y).toNat+(j+i))=some v
 | [],_,_,i,v,h=>by simp [aY]at h
 | k::l,j,hn,i,v,h=>by
  simp only[jC,aO,aaE]at hn;cases i with
  | zero =>
   simp only[aY,aaY,abv,aaF]at h;rw[<-h];exact tf hn.1
  | succ i =>
   simp only[aY,aaY,abq]at h;have:=qJ l (j+1) hn.2 i v h;rwa[show j+(i+1)=j+1+i by omega]
def kZ (h:Nat) (x y:E):∀ (ks:List Kd) (j:Nat),(aY h x y j ks).length=ks.length
 | [],_=>rfl
 | _::l,j=>by simp [aY,kZ h x y l (j+1)]
def sC {h:Nat} {x y:E} : ∀ (ks:List Kd) (j:Nat),ks.all (fun k=>decide (k=.int .u8))=true->(∀ i,i<ks.length->bz ((J.h h).cell (aB J x).toNat ((aB J y).toNat+(j+i))) (.int .u8)=true)->bh J (jC h x y j ks)=true
 | [],_,_,_=>by simp [jC,cZ]
 | k::l,j,a,hb=>by
  simp only[adV,aaE,aaB]at a;obtain⟨rfl,a⟩:=a;simp only[jC,aO,aaE,xQ];refine⟨by have:=hb 0 aF;simpa using this,sC l (j+1) a fun i hi=>?_⟩;have:=hb (i+1) (by simp only[abc];omega);rwa[show j+(i+1)=j+1+i by omega]at this
def Az (h:Nat) (x y:E) (ks:List Kd):E :=
 if decide (8<ks.length)&&ks.all (fun k=>decide (k=.int .u8))then .hby h x y (.lit ks.length)else if 8<ks.length then .hks h x y ks else jC h x y 0 ks
def xi {h:Nat} {x y:E} : ∀ (ks:List Kd) (j:Nat),xk (J.h h) (aB J x).toNat ((aB J y).toNat+j) ks=true->bh J (jC h x y j ks)=true
 | [],_,_=>by simp [jC,cZ]
 | k::l,j,hr=>by
  simp only[xk,aaE]at hr;simp only[jC,aO,aaE,xQ];exact⟨hr.1,xi l (j+1) hr.2⟩
def Gm {h:Nat} {x y:E} {ks:List Kd} (hn:bh J (Az h x y ks)=true):bh J (jC h x y 0 ks)=true:=by
 unfold Az at hn;split at hn
 .rename_i hc;simp only[aaE,aaB]at hc;rw[CT,ak,aar]at hn;unfold bM at hn;rw[aa3]at hn;refine sC ks 0 hc.2 fun i hi=>?_;have:=hn i (abd.2 hi);rwa[aa6]
 .split at hn
  .exact xi ks 0 hn
  .exact hn
def qj (mem:Mem) (x y:E):Option (Nat×Nat×List CV×TypeId×Nat) :=
 match x,y with
 | .var a,.lit o=>if 0<=o then(tX mem a).map fun r=>(a,r.1,r.2.1,r.2.2,o.toNat)else none
 | _,_=>none
def iw {mem:Mem} {x y:E} {a:Nat} (h:qj mem x y=some (a,p,l,T,o)):x=.var a/\y=.lit o/\mem[p]?=some (.bj a l T):=by
 unfold qj at h;split at h
 .rename_i c o';split at h
  .rename_i ho;simp only[aaI,abl]at h;obtain⟨⟨q,l',d⟩,b,rfl,rfl,rfl,rfl,rfl⟩:=h;refine⟨rfl,by rw[acV ho],gH b⟩
  .cases h
 .cases h
def FE (mem:Mem) (x:E):E :=
 match x with
 | .var a=>if(tX mem a).isSome then .tt else .le (.lit 0) x
 | x=>mkLe (.lit 0) x
def MRel.FE {S:Nat->Prop} {mem:Mem} (h:MRel S w0 J mem w) {x:E} (hx:bh J (FE mem x)=true):0<=aB J x:=by
 unfold Sx.FE at hx;split at hx
 .split at hx
  .rename_i a b;obtain⟨⟨p,l,T⟩,hp⟩:=abw.1 b;exact h.pos _ (aaA (gH hp))
  .rw[kQ,ak,aaB]at hx;exact hx
 .rw[ba,ak,aaB]at hx;exact hx
def Kf (P:Program) (mem:Mem) (t:TypeId):CV->Option (E×SV)
 | .pti a o s n i=>match tX mem a with
  | some (_,l,_)=>match iv ((List.range n).map fun j=>gW P t l (o+s*j))with
   | some vs=>(AG i 0 vs).map fun v=>(Qy i n,v)
   | none=>none
  | _=>none
 | .hptr x y=>match qj mem x y with
  | some (_,_,l,_,o)=>(gW P t l o).map fun v=>(.tt,v)
  | none=>match(Dc mem x).bind (fun r=>r.2.hk)with
   | some h=>match Ha P t,mD P t,fI P t with
    | some true,some z,some n =>
     let ks:=z.cells.toList.map kindOf
     if ks.length=n then some (mkAnd (mkLe (.lit 0) x) (mkAnd (mkLe (.lit 0) y) (Az h x y ks)),.agg (aY h x y 0 ks))else none
    | some false,some z,_=>some (mkAnd (mkLe (.lit 0) x) (mkAnd (mkLe (.lit 0) y) (.his h x y 0 (kindOf z))),.one (uI h x y 0 (kindOf z)))
    | _,_,_=>none
   | none=>none
 | _=>none
variable {S:Nat->Prop} {w0:World} {mem:Mem}
def zh (h:MRel S w0 J mem w) {x:E} (hf:(Dc mem x).bind (fun r=>r.2.hk)=some k):(J.h k).sub w:=by
 cases hh:Dc mem x with
 | none=>simp [hh]at hf
 | some r =>
  simp only[hh,acp]at hf;have:=h.sub r.2 (aaA (iZ (p:=r.1) (r:=r.2) hh));rwa[bL.WI hf]at this
def wP (h:MRel S w0 J mem w) {c:CV} {n:E} {v:SV} (hl:Kf P mem t c=some (n,v)) (hn:bh J n=true) :
 ∃ p,c.ev J=.pointer (some p)/\(loadVar t p).run P w=.ok (v.ev J) w:=by
 unfold Kf at hl;split at hl
 .rename_i b o s m i;split at hl
  .rename_i p l T hb;split at hl
   .rename_i vs r;simp only[aaI,abl]at hl;obtain⟨v',hv,rfl,rfl⟩:=hl;obtain⟨h1,h2⟩:=jc hn;obtain⟨hlen,g⟩:=mN r;simp only[aaT,ab5]at hlen;obtain⟨x,hx,A⟩:=AH vs 0 v' hv ah ah;have f:=g _ _ hx;rw[adH,aaL,aaZ ah]at f;simp only[abe,aaF]at f;have hk:=gH hb;have d:0<=J.i b:=h.pos _ (aaA hk);refine⟨_,by simp only[CV.ev];rw[au d],?_⟩;have e:((o:Int)+(s:Int)*aB J i).toNat=o+s*(aB J i).toNat:=by
     obtain⟨q,D⟩:=abY h1;rw[D,aar,<-Int.natCast_mul,<-Int.natCast_add,aar]
    rw[e,A];exact sm f (h.bj hk)
   .cases hl
  .cases hl
 .rename_i x y;split at hl
  .rename_i a p l T o B;obtain⟨rfl,rfl,hk⟩:=iw B;simp only[aaI,abl]at hl;obtain⟨v',hv,rfl,rfl⟩:=hl;have d:0<=J.i a:=h.pos _ (aaA hk);exact⟨_,by simp only[CV.ev,al,ak];rw[au d,aar],sm hv (h.bj hk)⟩
  .split at hl
   .rename_i k hk;have hsub:=zh h hk;split at hl
    .rename_i z m C F hs;simp only at hl;split at hl
     .rename_i hm;cases hl;rw[aO,aaE,aO,aaE,ba,ba,ak,aaB,aaB]at hn;obtain⟨hx,G,hn⟩:=hn;replace hn:=Gm hn;refine⟨_,by simp only[CV.ev];rw[au hx],?_⟩;refine sq (cs:=(aY k x y 0 (z.cells.toList.map kindOf)).map (CV.ev J)) C hs (by simp only[aaT,kZ];simpa using hm) (fun j u hu=>?_);have:=qJ _ 0 hn j u hu;rw[aa6]at this;exact Hl.iu hsub this
     .cases hl
    .rename_i z _ C F;cases hl;rw[aO,aaE,aO,aaE,ba,ba,ak,aaB,aaB]at hn;obtain⟨hx,G,hn⟩:=hn;have:=tf hn;refine⟨_,by simp only[CV.ev];rw[au hx],wQ C ?_⟩;exact Hl.iu hsub this
    .cases hl
   .cases hl
 .cases hl
end
abbrev RT:=Option (E×TV)
def unE:UnOp->TV->RT
 | .not,.sv (.one (.bool e))=>some (.tt,TB (mkNot e))
 | .neg,.sv (.one (.int k e))=>some (.tt,TI k (mkWrap k (mkSub (.lit 0) e)))
 | .xor,.sv (.one (.int k e))=>some (.tt,TI k (.bits .xor k (.lit (if k.signed then -1 else k.max)) e))
 | _,_=>none
def strOf:List CV->Option E
 | []=>some (.slit .empty)
 | .int .u8 e::l=>(strOf l).map fun s=>Kj (.sbyte e) s
 | _=>none
def LP (P:Program) (el:TypeId):Bool:=match P.underlying el with | some (.int .u8)=>true | _=>false
def NL (P:Program) (mem:Mem) (src dst:TypeId) (x:TV):RT :=
 match P.underlying src,P.underlying dst,x with
 | some _,some (.int k),.sv (.one (.int _ e))=>some (.tt,TI k (mkWrap k e))
 | some .string,some .string,.sv (.one (.str e))=>some (.tt,TS e)
 | some (.slice el),some .string,.sv (.one (.sl x y l c)) =>
  if LP P el then
   if x=.lit (-1)then some (.tt,TS (.slit .empty))else
   match qj mem x y,l with
   | some (_,_,cs,_,o),.lit n=>if o+n.toNat<=cs.length then(strOf ((cs.drop o).take n.toNat)).map fun s=>(.tt,TS s)else none
   | _,_=>match(Dc mem x).bind (fun r=>r.2.hk)with
    | some h=>some (mkOr (mkEq x (.lit (-1))) (mkOr (mkEq l (.lit 0)) (mkAnd (mkLe (.lit 0) x) (mkAnd (mkLe (.lit 0) y) (.hby h x y l)))),TS (mkIte (mkEq x (.lit (-1))) (.slit .empty) (.sof h x y l)))
    | none=>none
  else none
 | _,_,_=>none
def sM (P:Program) (mem:Mem) (s:TypeId) (f:Nat) (x:TV):RT :=
 match P.underlying s with
 | some (.struct fs)=>match fs[f]? with
  | some fl=>match fI P fl.type with
   | some (_+1)=>match x with
    | .sv (.one (.hptr x y))=>some (mkAnd (FE mem x) (mkLe (.lit 0) y),TP x (mkAdd y (.lit fl.offset)))
    | .sv (.one (.pti a o s n i))=>if(tX mem a).isSome then some (Qy i n,.sv (.one (.pti a (o+fl.offset) s n i)))else none
    | _=>none
   | _=>none
  | none=>none
 | _=>none
def sR (P:Program) (mem:Mem) (t:TypeId) (x i:TV):RT :=
 match i with
 | .sv (.one (.int _ e))=>match P.underlying t with
  | some (.array len el)=>match fI P el,x with
   | some n,.sv (.one (.pti a o s m k))=>match e with
    | .lit j=>if 0<=j/\j<len/\(tX mem a).isSome then some (Qy k m,.sv (.one (.pti a (o+j.toNat*n) s m k)))else none
    | _=>none
   | some n,.sv (.one (.hptr x y))=>match e,qj mem x y with
    | .lit j,_=>if 0<=j/\j<len then some (mkAnd (FE mem x) (mkLe (.lit 0) y),TP x (mkAdd y (.lit (j.toNat*n))))else none
    | e,some (a,_,_,_,o)=>some (Qy e len,.sv (.one (.pti a o n len e)))
    | e,none=>some (mkAnd (FE mem x) (mkAnd (mkLe (.lit 0) y) (Qy e len)),TP x (mkAdd y (mkMul e (.lit n))))
   | _,_=>none
  | some (.slice el)=>match fI P el,x with
   | some n,.sv (.one (.sl x y l _))=>match e,qj mem x y,l with
    | .lit j,_,_=>some (mkAnd (FE mem x) (mkAnd (mkLe (.lit 0) y) (mkAnd (mkLe (.lit 0) (.lit j)) (mkLt (.lit j) l))),TP x (mkAdd y (mkMul (.lit j) (.lit n))))
    | e,some (a,_,_,_,o),.lit q=>some (mkAnd (Qy e q.toNat) (mkLe (.lit 0) (.lit q)),.sv (.one (.pti a o n q.toNat e)))
    | e,_,l=>some (mkAnd (FE mem x) (mkAnd (mkLe (.lit 0) y) (mkAnd (mkLe (.lit 0) e) (mkLt e l))),TP x (mkAdd y (mkMul e (.lit n))))
   | _,_=>none
  | _=>none
 | _=>none
def HM (P:Program) (t:TypeId) (f:Nat) (x:TV):RT :=
 match P.underlying t,x with
 | some (.struct fs),.sv (.agg l)=>match fs[f]? with
  | some fl=>(gW P fl.type l fl.offset).map fun v=>(.tt,.sv v)
  | none=>none
 | _,_=>none
def H7 (P:Program) (t:TypeId) (x i:TV):RT :=
 match P.underlying t,x,i with
 | some (.array len el),.sv (.agg l),.sv (.one (.int _ e))=>match fI P el with
  | some n=>match e with
   | .lit j=>if 0<=j/\j<len then(gW P el l (j.toNat*n)).map fun v=>(.tt,.sv v)else none
   | e=>match iv ((List.range len).map fun j=>gW P el l (j*n))with
    | some vs=>(AG e 0 vs).map fun v=>(Qy e len,.sv v)
    | none=>none
  | none=>none
 | some .string,.sv (.one (.str s)),.sv (.one (.int _ e))=>some (mkAnd (mkLe (.lit 0) e) (mkLt e (wT s)),TI .u8 (OV s e))
 | _,_,_=>none
def ze (i:Nat):TV->RT
 | .tup l=>(l[i]?).map fun v=>(.tt,.sv v)
 | _=>none
def Uw (P:Program) (mem:Mem) (t:TypeId) (x:TV):RT :=
 match P.underlying t,x with
 | some (.array n _),_=>some (.tt,TI .i64 (.lit n))
 | some (.slice _),.sv (.one (.sl _ _ l _))=>some (mkLe (.lit 0) l,TI .i64 l)
 | some .string,.sv (.one (.str e))=>some (.tt,TI .i64 (wT e))
 | some (.map _ _),.sv (.one (.map x))=>match(Dc mem x).bind (fun r=>r.2.hk)with
  | some h=>some (mkAnd (mkLe (.lit 0) x) (mkAnd (mkLe (.lit 0) x) (.hism h x)),TI .i64 (.hmlen h x))
  | none=>none
 | _,_=>none
def UE:TV->TV->Option TV
 | .sv (.one (.int k x)),.sv (.one (.int _ y))=>some (TI k (mkIte (mkLt y x) y x))
 | _,_=>none
def UD:TV->TV->Option TV
 | .sv (.one (.int k x)),.sv (.one (.int _ y))=>some (TI k (mkIte (mkLt x y) y x))
 | _,_=>none
def E5 (f:TV->TV->Option TV):List TV->TV->Option TV
 | [],x=>some x
 | y::l,x=>match f x y with
  | some z=>E5 f l z
  | none=>none
def uB (st:St):List Operand->Option (List TV)
 | []=>some []
 | x::l=>match de st x,uB st l with
  | some v,some vs=>some (v::vs)
  | _,_=>none
def yE (P:Program) (mem:Mem) (b:Builtin) (ats:Array TypeId) (vs:List TV):RT :=
 match b,vs with
 | .len,[x]=>match ats[0]? with | some t=>Uw P mem t x | none=>none
 | .min,x::l=>(E5 UE l x).map fun v=>(.tt,v)
 | .max,x::l=>(E5 UD l x).map fun v=>(.tt,v)
 | _,_=>none
def SV.cells:SV->List CV
 | .one c=>[c]
 | .agg l=>l
def CV.sf:CV->Bool
 | .val v=>v.oneCell'
 | .vr _=>false
 | .hv _ _ _ _=>false
 | _=>true
def CV.qa (c:CV) (h:c.sf=true):(c.ev J).oneCell'=true:=by
 cases c<;>first | rfl | exact h | cases h
def SV.tN (v:SV) (h:v.cells.all CV.sf=true):(v.ev J).cells.toList=v.cells.map (CV.ev J):=by
 cases v with
 | one c =>
  simp only[SV.cells,adV,List.all_nil,Bool.and_true]at h;have:=CV.qa (J:=J) c h;simp only[SV.ev,SV.cells,aaY,abN];generalize c.ev J=x at *;cases x<;>first | rfl | simp [Value.oneCell']at this
 | agg l=>simp [SV.ev,SV.cells,Value.cells]
def br (l:List α) (o:Nat) (m:List α):List α:=l.take o++m++l.drop (o+m.length)
def zk (place:Nat->Option (Nat×Nat)) (l:List CV):List (Nat×SV)->Option (List CV)
 | []=>some l
 | (i,v)::rest=>match place i with
  | none=>none
  | some (off,size)=>if v.cells.length=size/\off+v.cells.length<=l.length/\v.cells.all CV.sf=true then zk place (br l off v.cells) rest else none
def VS:List TV->Option (List SV)
 | []=>some []
 | .sv v::l=>(VS l).map (v::·)
 | _=>none
def Hu (P:Program) (t:TypeId) (is:List Nat) (vs:List TV):RT :=
 match mD P t,VS vs with
 | some z,some vs=>match P.underlying t with
  | some (.struct fs)=>match iv (fs.toList.map fun f=>(fI P f.type).map fun n=>(f.offset,n))with
   | some places=>(zk (places[·]?) (z.cells.toList.map iG) (is.zip vs)).map fun l=>(.tt,.sv (.agg l))
   | none=>none
  | some (.array _ el)=>match fI P el with
   | some n=>(zk (fun i=>some (i*n,n)) (z.cells.toList.map iG) (is.zip vs)).map fun l=>(.tt,.sv (.agg l))
   | none=>none
  | _=>none
 | _,_=>none
def TH (P:Program) (t:TypeId) (is:List Nat) (vs:List TV):RT :=
 match is,vs,mD P t,P.underlying t with
 | [0],[.sv (.one (.vr j))],some z,some (.struct fs)=>match z.cells.toList,fs.toList with
  | [_],[f]=>if f.offset=0/\fI P f.type=some 1 then some (.le (.vint j) (.lit 1),.sv (.agg [.vr j]))else none
  | _,_=>none
 | _,_,_,_=>none
def E0 (P:Program) (rec:TypeId->SV->SV->Option E) (xs ys:List CV):List Field->Option E
 | []=>some .tt
 | f::fs=>if f.name≠ "_" then
  match gW P f.type xs f.offset,gW P f.type ys f.offset with
  | some a,some b=>match rec f.type a b,E0 P rec xs ys fs with
   | some e,some r=>some (mkAnd e r)
   | _,_=>none
  | _,_=>none
  else E0 P rec xs ys fs
def JO (P:Program) (rec:TypeId->SV->SV->Option E) (e:TypeId) (xs ys:List CV):List Nat->Option E
 | []=>some .tt
 | i::is=>match gW P e xs (i*P.cellsOf e),gW P e ys (i*P.cellsOf e)with
  | some a,some b=>match rec e a b,JO P rec e xs ys is with
   | some q,some r=>some (mkAnd q r)
   | _,_=>none
  | _,_=>none
def Db (P:Program):Nat->TypeId->SV->SV->Option E
 | 0,_,_,_=>none
 | d+1,t,x,y=>match P.underlying t with
  | some .bool=>match x,y with
   | .one (.bool a),.one (.bool b)=>some (OS a b)
   | _,_=>none
  | some (.int _)=>match x,y with
   | .one (.int k a),.one (.int c b)=>if k=c then some (mkEq a b)else none
   | _,_=>none
  | some .string=>match x,y with
   | .one (.str a),.one (.str b)=>some (mkSeq a b)
   | _,_=>none
  | some (.slice _)=>match x,y with
   | .one (.sl x _ _ _),.one (.sl x' _ _ _)=>if x'=.lit (-1)then some (mkEq x (.lit (-1)))else if x=.lit (-1)then some (mkEq x' (.lit (-1)))else none
   | _,_=>none
  | some (.pointer _)=>match x,y with
   | .one (.hptr x _),.one (.hptr x' _)=>if x'=.lit (-1)then some (mkEq x (.lit (-1)))else if x=.lit (-1)then some (mkEq x' (.lit (-1)))else none
   | _,_=>none
  | some (.map _ _)=>match x,y with
   | .one (.map x),.one (.map x')=>if x'=.lit (-1)then some (mkEq x (.lit (-1)))else if x=.lit (-1)then some (mkEq x' (.lit (-1)))else none
   | _,_=>none
  | some (.struct fs)=>match x,y with
   | .agg xs,.agg ys=>if P.stoodInHeld t=false then E0 P (Db P d) xs ys fs.toList else none
   | _,_=>none
  | some (.array n e)=>match x,y with
   | .agg xs,.agg ys=>match P.info? e with
    | some _=>JO P (Db P d) e xs ys (List.range n)
    | none=>none
   | _,_=>none
  | _=>none
def TE (P:Program) (op:BinOp) (t:TypeId) (X Y:TV):RT :=
 match X,Y with
 | .sv (.one (.int k a)),.sv (.one (.int c b))=>TF op k c a b
 | .sv (.one (.str a)),.sv (.one (.str b))=>TG op a b
 | .sv (.one a),.sv (.one b)=>match Db P 20 t (.one a) (.one b)with
  | some e=>match op with
   | .eql=>some (.tt,TB e)
   | .neq=>some (.tt,TB (mkNot e))
   | _=>none
  | none=>none
 | .sv (.agg a),.sv (.agg b)=>if P.eqGuardType P.depth t=false then
  match Db P 20 t (.agg a) (.agg b)with
  | some e=>match op with
   | .eql=>some (.tt,TB e)
   | .neq=>some (.tt,TB (mkNot e))
   | _=>none
  | none=>none
  else none
 | _,_=>none
def O1 (mem:Mem) (x:E):E :=
 match x with
 | .var a=>if(tX mem a).isSome then .tt else .le (.lit (-1)) x
 | x=>mkLe (.lit (-1)) x
def nA (d:E):Option TV->Option E
 | none=>some d
 | some (.sv (.one (.int _ e)))=>some e
 | _=>none
def AJ (m l:E) (y:E) (n:Nat):E:=mkIte (mkEq m l) y (mkAdd y (mkMul l (.lit n)))
def I9 (P:Program) (mem:Mem) (t:TypeId) (x:TV) (lo hi mx:Option TV):RT :=
 match mx with
 | some _=>none
 | none=>match P.underlying t,x with
  | some .string,.sv (.one (.str s))=>match nA (.lit 0) lo,nA (wT s) hi with
   | some l,some h=>some (mkAnd (mkLe (.lit 0) l) (mkAnd (mkLe l h) (mkLe h (wT s))),TS (.sext s l h))
   | _,_=>none
  | some (.slice el),.sv (.one (.sl x y len cap))=>match nA (.lit 0) lo,nA len hi,fI P el with
   | some l,some h,some n=>some (mkAnd (O1 mem x) (mkAnd (mkLe (.lit 0) y) (mkAnd (mkLe (.lit 0) l) (mkAnd (mkLe l h) (mkLe h cap)))),
    .sv (.one (.sl x (AJ cap l y n) (mkSub h l) (mkSub cap l))))
   | _,_,_=>none
  | some (.array q el),.sv (.one (.hptr x y))=>match nA (.lit 0) lo,nA (.lit q) hi,fI P el with
   | some l,some h,some n=>some (mkAnd (FE mem x) (mkAnd (mkLe (.lit 0) y) (mkAnd (mkLe (.lit 0) l) (mkAnd (mkLe l h) (mkLe h (.lit q))))),
    .sv (.one (.sl x (AJ (.lit q) l y n) (mkSub h l) (mkSub (.lit q) l))))
   | _,_,_=>none
  | _,_=>none
def Iv (P:Program) (st:St) (op:BinOp) (t:TypeId) (x y:Operand):RT :=
 match de st x,y with
 | some (.sv (.one (.vr j))),.const .nilIface=>match P.underlying t with
  | some (.interface _)=>match op with
   | .eql=>some (.le (.vint j) (.lit 1),TB (.eq (.vint j) (.lit 0)))
   | .neq=>some (.le (.vint j) (.lit 1),TB (.not (.eq (.vint j) (.lit 0))))
   | _=>none
  | _=>none
 | some (.sv (.one (.val .nilIface))),.const .nilIface=>match P.underlying t with
  | some (.interface _)=>match op with
   | .eql=>some (.tt,TB .tt)
   | .neq=>some (.tt,TB .ff)
   | _=>none
  | _=>none
 | _,_=>none
def quiet (P:Program) (st:St) (op:Op):RT :=
 match op with
 | .move x=>(de st x).map fun v=>(.tt,v)
 | .assign x=>(de st x).map fun v=>(.tt,v)
 | .pick c a b=>match de st c with
  | some (.sv (.one (.bool e)))=>match known st.path e with
   | some true=>(de st a).map fun v=>(.tt,v)
   | some false=>(de st b).map fun v=>(.tt,v)
   | none=>match de st a,de st b with
    | some (.sv g),some (.sv j)=>(yf e g j).map fun v=>(.tt,.sv v)
    | _,_=>none
  | _=>none
 | .nilCheck x=>match de st x with
  | some (.sv (.one (.hptr x y)))=>some (FE st.mem x,TP x y)
  | _=>none
 | .binOp op t x y _=>match Iv P st op t x y with
  | some r=>some r
  | none=>match de st x,de st y with
   | some a,some b=>TE P op t a b
   | _,_=>none
 | .unOp op _ x=>match de st x with
  | some a=>unE op a
  | none=>none
 | .convert s d x=>match de st x with
  | some a=>NL P st.mem s d a
  | none=>none
 | .fieldAddr s x f=>match de st x with
  | some a=>sM P st.mem s f a
  | none=>none
 | .field t x f=>match de st x with
  | some a=>HM P t f a
  | none=>none
 | .indexAddr t x i=>match de st x,de st i with
  | some a,some b=>sR P st.mem t a b
  | _,_=>none
 | .index t x i=>match de st x,de st i with
  | some a,some b=>H7 P t a b
  | _,_=>none
 | .load t x=>match de st x with
  | some (.sv (.one c))=>(Kf P st.mem t c).map fun r=>(r.1,.sv r.2)
  | _=>none
 | .extract x i=>match de st x with
  | some a=>ze i a
  | none=>none
 | .sliceToArrayPointer t x=>match P.underlying t,de st x with
  | some (.array n _),some (.sv (.one (.sl x y l _)))=>some (mkLe (.lit n) l,TP x y)
  | _,_=>none
 | .slice t x lo hi mx=>match de st x with
  | some a=>match(match lo with | none=>some none | some o=>(de st o).map some),(match hi with | none=>some none | some o=>(de st o).map some),(match mx with | none=>some none | some o=>(de st o).map some)with
   | some l,some h,some m=>I9 P st.mem t a l h m
   | _,_,_=>none
  | none=>none
 | .makeFunc (.func f) first captured=>if first=#[]/\captured=#[]then some (.tt,.sv (.one (.val (.func (.func f) #[] #[]))))else match captured.toList with
  | [c]=>if first=#[]then match de st c with
   | some (.sv (.one (.hptr x y)))=>if y=.lit 0 then some (.tt,.sv (.one (.clo f x)))else none
   | _=>none
   else none
  | _=>none
 | .call {callee:=.builtin b,args,argTypes}=>match uB st args.toList with
  | some vs=>yE P st.mem b argTypes vs
  | none=>none
 | .build t parts=>match uB st (parts.toList.map (·.2))with
  | some vs=>match TH P t (parts.toList.map (·.1)) vs with
   | some r=>some r
   | none=>Hu P t (parts.toList.map (·.1)) vs
  | none=>none
 | _=>none
end Go.Sx
