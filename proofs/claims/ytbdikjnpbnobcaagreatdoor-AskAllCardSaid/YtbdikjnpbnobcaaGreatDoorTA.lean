/- Pull after pull, for all and with bodies, brings every piece laid in a door once, each whole and in its writer's order: a part of the proof. No condition. -/
import Derived.ChangeKeysEq
import Derived.Laws.BytesString
import Derived.Laws.CopyRow
import Derived.Laws.Rows
import Derived.Laws.Strings
import Derived.Laws.Tables
import Derived.WalkKit
import Derived.Laws.MakeOwn
import Derived.Laws.OwnMore
set_option linter.all false
namespace Go
def aac:=@Int.toNat_natCast
def aad:=@List.getElem?_eq_getElem
def aae:=@List.cons.injEq
def aah:=@List.mem_of_getElem?
def aas:=@decide_eq_true_eq
def aaA:=@List.length_append
def aaG:=@List.getElem?_eq_some_iff
def aaH:=@Option.map_eq_some_iff
def aaM:=@Bool.and_eq_true
def aaQ:=@List.mem_singleton
def aaW:=@List.mem_cons
def aa1:=@List.length_eq_zero_iff
def aa3:=@Option.some.injEq
def aa8:=@if_neg
def aba:=@Int.le_refl
def abd:=@List.mem_nil_iff
def abl:=@List.getElem?_map
def abq:=@List.mem_cons_of_mem
def abv:=@List.getD_eq_getElem?_getD
def abw:=@and_true
def abA:=@List.getElem?_eq_none
def abO:=@List.getElem?_append_right
def abS:=@List.append_assoc
def abW:=@List.map_cons
def ab1:=@List.toArray_inj
def ab8:=@Nat.le_refl
def ab9:=@if_pos
def aca:=@List.length_map
def acb:=@List.getElem?_append_left
def acd:=@List.all_eq_true
def ace:=@List.length_take
def acf:=@List.getElem?_range
def acg:=@List.mem_append
def ach:=@congrArg
def aci:=@Array.getElem?_setIfInBounds
def acj:=@List.mem_cons_self
def ack:=@List.ext_getElem?
def acm:=@List.map_append
def acn:=@List.length_cons
def aco:=@Nat.zero_add
def acp:=@Array.mk.injEq
def acq:=@Array.getElem?_eq_some_iff
def acr:=@Option.map_some
def acs:=@or_false
def acu:=@true_and
def acv:=@List.mem_range
def acw:=@List.mem_map
def acx:=@Prod.mk.injEq
def acy:=@List.length_drop
def acz:=@List.length_replicate
def acA:=@Nat.le_trans
def acB:=@List.length_singleton
def acC:=@List.getElem?_take
def acD:=@List.append_nil
def acE:=@Option.some.inj
def acF:=@List.getElem?_cons_zero
def acG:=@List.getElem?_of_mem
def acH:=@Option.isSome_iff_exists
def acI:=@List.map_nil
def acJ:=@Nat.add_zero
def acK:=@List.getElem_mem
def acL:=@List.map_congr_left
def acM:=@decide_eq_false_iff_not
def acN:=@Nat.lt_or_ge
def acO:=@List.length_nil
def acP:=@Nat.zero_le
def acQ:=@Bool.false_eq_true
def acR:=@List.getElem?_drop
def acS:=@List.take_length
def acT:=@Int.tmod_eq_emod_of_nonneg
def acU:=@List.mem_iff_getElem?
def acV:=@List.mem_append_right
def ac6:=@Nat.add_le_add
def adg:=@Nat.le_of_ble_eq_true
def adk:=@List.nil_append
def adv:=@List.map_map
def adx:=@List.getElem?_set_ne
def ady:=@List.mem_of_mem_take
def adz:=@List.flatten_cons
def adB:=@List.take_add_one
def ad0:=@Bool.not_eq_true'
def ad4:=@List.getElem?_take_of_lt
def ad7:=@Int.natCast_nonneg
def ad9:=@Int.lt_or_le
def aec:=@List.getElem?_toArray
def aed:=@Int.fdiv_eq_ediv_of_nonneg
def aee:=@Classical.byContradiction
def aef:=@Bool.eq_false_iff
def aei:=@List.mem_append_left
def aej:=@of_decide_eq_true
def aem:=@List.getElem?_replicate
def aen:=@List.getElem?_set_self
def aeo:=@List.take_of_length_le
def aeM:=@Bool.or_eq_true
def afb:=@Option.getD_some
def afg:=@List.cons_append
def afh:=@List.length_range
def afi:=@Nat.lt_of_lt_of_le
def afj:=@Int.eq_ofNat_of_zero_le
def afk:=@Option.toList_some
def afl:=@List.ext_getElem
def afm:=@if_true
def afn:=@Int.tdiv_eq_ediv_of_nonneg
def afo:=@Array.getElem?_setIfInBounds_ne
def afp:=@Nat.add_assoc
def afq:=@List.mem_filter
def afr:=@Nat.eq_zero_or_pos
def afs:=@List.mem_of_mem_drop
def aft:=@List.drop_drop
def afu:=@Nat.add_mul
def afv:=@List.map_eq_nil_iff
def afw:=@if_false
def afx:=@List.flatten_nil
def afy:=@List.contains_iff_mem
def afz:=@List.take_append_drop
def afA:=@List.pairwise_iff_getElem
def afB:=@Nat.mul_one
def afC:=@List.drop_eq_getElem_cons
def afD:=@List.take_zero
def afE:=@List.contains_eq_mem
def afF:=@BitVec.ofInt_natCast
def afG:=@List.getElem?_cons_succ
def afH:=@List.flatten_append
def afI:=@Option.bind_some
def afJ:=@Nat.mod_eq_of_lt
def afK:=@List.take_append_of_le_length
def afL:=@List.find?_eq_none
def afM:=@BitVec.toNat_ofNat
def afN:=@List.map_replicate
def afO:=@List.mem_replicate
def afP:=@Bool.eq_iff_iff
def afQ:=@Nat.mul_comm
def afR:=@Nat.pow_succ
def afS:=@List.append_inj
def afT:=@List.drop_left'
def afU:=@List.take_left'
def afV:=@List.set_append_right
def afW:=@not_true_eq_false
def afX:=@Nat.mul_le_mul_right
def afY:=@Nat.pow_le_pow_right
def afZ:=@List.mem_or_eq_of_mem_set
def af0:=@List.toList_toArray
def af1:=@List.eq_of_mem_replicate
def af2:=@Option.map_none
def af3:=@List.drop_eq_nil_of_le
def af4:=@beq_iff_eq
def af5:=@List.size_toArray
def af6:=@Classical.not_not
def af7:=@Int.toNat_zero
def af8:=@List.drop_zero
def af9:=@Int.mul_le_mul_of_nonneg_right
def aga:=@Nat.add_comm
def agb:=@List.eq_nil_iff_forall_not_mem
def agc:=@Nat.zero_mul
def agd:=@Array.getElem?_toList
def age:=@List.map_toArray
def agf:=@List.eq_nil_of_length_eq_zero
def agh:=@List.mem_flatten
def agi:=@Nat.shiftLeft_add_eq_or_of_lt
def agj:=@forall_eq_or_imp
def agk:=@List.getElem?_append
def agl:=@List.take_add
def agm:=@List.foldl_cons
def agn:=@Array.length_toList
def ago:=@Nat.le_zero
def agp:=@List.replicate_succ
def agq:=@BitVec.toNat_or
def agr:=@Bool.false_ne_true
def ags:=@List.pairwise_cons
def agt:=@List.mem_of_find?_eq_some
def agu:=@Nat.mul_le_mul
def agv:=@List.getElem?_eq_none_iff
def agw:=@List.mapM_toArray
def agx:=@Function.comp_def
def agy:=@Array.size_setIfInBounds
def agz:=@Int.emod_eq_of_lt
def agA:=@List.getElem?_set
def agB:=@UInt8.toNat_ofNat_of_lt'
def agC:=@List.all_cons
def agD:=@Iff.rfl
def agE:=@List.append_cancel_left
def agF:=@List.append_inj'
def agG:=@Array.getElem?_eq_none
def agH:=@List.getElem_replicate
def agI:=@Nat.sub_zero
def agJ:=@Array.getElem?_modify
def agK:=@Nat.le_of_eq
def agL:=@Array.toArray_toList
def agM:=@List.pairwise_append
def agN:=@List.replicate_succ'
def agO:=@Array.size_replicate
def agP:=@Int.toNat_of_nonneg
def agQ:=@List.mem_map_of_mem
def agR:=@List.replicate_zero
def agS:=@Nat.one_mul
def agT:=@List.map_take
def agU:=@List.map_drop
def agV:=@Eq.trans
def agW:=@Nat.mod_lt
def agX:=@List.map_set
def agY:=@Nat.succ_mul
def agZ:=@Int.le_trans
def ag0:=@Int.le_of_eq
def ag1:=@Nat.pow_add
def ag2:=@forall_eq
def ag3:=@not_false
end Go
namespace Go.Sx
open Go
variable {ats:Array TypeId}{op:BinOp}{i:Int}{is:List Nat}{cs vs xs:List Value}{bytes cap f j k o p size:Nat}{fr:Nat×Nat}{α β γ:Type}{T el s t ty:TypeId}{z:Value}
def zzT:True:=trivial
def ah {p:Prop} (h:p:=by omega):p:=h
def aC {p:Prop} (h:p:=by simp):p:=h
def az {p:Prop} (h:p:=by decide):p:=h
def re {α β:Type} (f:Nat->α->β):Nat->List α->List β
 | _,[]=>[]
 | n,a::l=>f n a::re f (n+1) l
def C2 {α β:Type} {f:Nat->α->β} : ∀ {l:List α} {n j:Nat},(re f n l)[j]?=(l[j]?).map (f (n+j))
 | [],_,_=>rfl
 | a::l,n,0=>rfl
 | a::l,n,j+1=>by
  show(re f (n+1) l)[j]?=(l[j]?).map (f (n+(j+1)));rw[C2,show n+1+j=n+(j+1)by omega]
def pW {f:Nat->α->β} {l:List α} : (re f 0 l)[j]?=(l[j]?).map (f j):=by
 rw[C2,aco]
@[simp] theorem Es {α β:Type} {f:Nat->α->β} : ∀ {l:List α} {n:Nat},(re f n l).length=l.length
 | [],_=>rfl
 | a::l,n=>by simp [re,Es (l:=l)]
def Iv:List Nat->List Nat->Bool
 | [],[]=>true
 | a::l,b::m=>Nat.beq a b&&Iv l m
 | _,_=>false
abbrev Hl:=Nat->Option Obj
variable {H h:Hl}
def Hl.cell (h:Hl) (x y:Nat):Option Value :=
 match h x with
 | some (.cells c _ _)=>c[y]?
 | _=>none
def Hl.sub (h:Hl) (w:World):Prop:=∀ (b:Nat) o,h b=some o->w.heap[b]?=some o
def Hl.mem (h:Hl) (b:Nat):Prop:=(h b).isSome=true
def Hl.bq (h k:Hl):Prop:=∀ b,¬(h.mem b/\k.mem b)
def Hl.one (b:Nat) (o:Obj):Hl:=fun c=>if c=b then some o else none
def Hl.none:Hl:=fun _=>Option.none
def Hl.all (w:World):Hl:=fun b=>w.heap[b]?
def Hl.aK (b:Nat) (o:Obj):Hl.one b o b=some o:=ab9 rfl
theorem Hl.oh {b c:Nat} {o p:Obj} (h:Hl.one b o c=some p):c=b/\p=o:=by
 unfold Hl.one at h;grind
theorem Hl.cn {b c:Nat} {o:Obj} : (Hl.one b o).mem c↔c=b:=by
 unfold Hl.mem Hl.one;grind
def Hl.gW {w:World} (hs:h.sub w) {x y:Nat} {v:Value} (a:h.cell x y=some v):w.cell? ⟨x,y,Option.none⟩=some v:=by
 unfold Hl.cell at a;split at a
 .rename_i hb;simp [World.cell?,hs _ _ hb,a]
 .cases a
def Hl.S8 (w:World):(Hl.all w).sub w:=fun _ _ h=>h
def Hl.kE {k:Hl} (d:h.bq k):k.bq h:=fun b ⟨x,y⟩=>d b ⟨y,x⟩
inductive Kd | int (k:IntKind) | bool | slice | ptr | str | map | any
 deriving DecidableEq
structure Env where
 i:Nat->Int
 b:Nat->Bool
 s:Nat->ByteArray
 v:Nat->Value
 h:Nat->Hl
inductive E where
 | lit (n:Int) | var (i:Nat)
 | add (a b:E) | sub (a b:E) | mul (a b:E) | quo (a b:E) | rem (a b:E)
 | wrap (k:IntKind) (a:E)
 | bits (op:BinOp) (k:IntKind) (a b:E)
 | shl (k:IntKind) (a b:E) | shr (k:IntKind) (a b:E)
 | tt | ff | bvar (i:Nat)
 | not (a:E) | and (a b:E) | or (a b:E)
 | ite (c a b:E)
 | lt (a b:E) | le (a b:E) | eq (a b:E) | beq (a b:E)
 | hI (h:Nat) (x y:E) (j:Nat) | hB (h:Nat) (x y:E) (j:Nat) | hP (h:Nat) (x y:E) (j which:Nat) | hS (h:Nat) (x y:E) (j:Nat) | his (h:Nat) (x y:E) (j:Nat) (k:Kd)
 | svar (i:Nat) | slit (s:ByteArray) | scat (a b:E) | sbyte (a:E) | sof (h:Nat) (x y l:E)
 | slen (a:E) | sat (a i:E) | sext (a i j:E) | seq (a b:E) | slt (a b:E)
 | hmlen (h:Nat) (x:E) | vint (v:Nat) | hby (h:Nat) (x y l:E) | hism (h:Nat) (x:E) | hks (h:Nat) (x y:E) (ks:List Kd)
 deriving DecidableEq
variable {e:E}
def ct (op:BinOp) (k:IntKind) (x y:Int):Int :=
 let a:=BitVec.ofInt k.bits x
 let b:=BitVec.ofInt k.bits y
 match op with
 | .and=>k.wrap (a &&&b).toNat
 | .or=>k.wrap (a |||b).toNat
 | .xor=>k.wrap (a ^^^ b).toNat
 | .andNot=>k.wrap (a &&&~~~b).toNat
 | _=>0
def abV:Nat×Nat->Nat×Nat
 | (0,b)=>(b+1,0)
 | (a+1,b)=>(a,b+1)
def SZ:Nat->Nat×Nat
 | 0=>(0,0)
 | n+1=>abV (SZ n)
def Vp:∀ s b a:Nat,a+b=s->∃ n,SZ n=(a,b):=by
 intro s
 induction s with
 | zero=>intro b a h;exact⟨0,by rw[show a=0 by omega,show b=0 by omega];rfl⟩
 | succ s ih =>
  intro b
  induction b with
  | zero=>intro a h;obtain⟨n,hn⟩:=ih s 0 ah;exact⟨n+1,by rw[SZ,hn,show a=s+1 by omega];rfl⟩
  | succ b c=>intro a h;obtain⟨n,hn⟩:=c (a+1) ah;exact⟨n+1,by rw[SZ,hn];rfl⟩
def tri:Nat->Nat
 | 0=>0
 | n+1=>tri n+n+1
def VV (a b:Nat):Nat:=tri (a+b)+b
def Vq:∀ s b a:Nat,a+b=s->SZ (tri s+b)=(a,b):=by
 intro s
 induction s with
 | zero=>intro b a h;rw[show a=0 by omega,show b=0 by omega];rfl
 | succ s ih =>
  intro b
  induction b with
  | zero=>intro a h;rw[show tri (s+1)+0=(tri s+s)+1 from rfl,SZ,ih s 0 ah,show a=s+1 by omega];rfl
  | succ b c=>intro a h;rw[<-afp,SZ,c (a+1) ah];rfl
def Ii (a b:Nat):SZ (VV a b)=(a,b):=Vq _ b a rfl
def qA:Value->Int
 | .nilIface=>0
 | .iface _ _=>1
 | _=>2
def Cf {v:Value} (h:qA v<=1):v=.nilIface\/∃ t x,v=.iface t x:=by
 cases v<;>simp [qA]at h ⊢
def au (x y:Int):Option Addr:=if 0<=x then some ⟨x.toNat,y.toNat,none⟩else if x= -1 then none else some ⟨(-x-2).toNat,(SZ y.toNat).1,some (SZ y.toNat).2⟩
def av {x y:Int} (h:0<=x):au x y=some ⟨x.toNat,y.toNat,none⟩:=ab9 h
def dr (y:Int):au (-1) y=none:=rfl
theorem Su {x y:Int} (h:x≠ -1):(au x y).isNone=false:=by unfold au;grind
def j7 (x y:Int):(au x y).isNone=decide (x= -1):=by
 by_cases h:x= -1
 .subst h;rfl
 .rw[Su h];simp [h]
theorem td (a:Option Addr):∃ x y:Int,a=au x y/\0<=y/\ -1<=y:=by
 cases a with
 | none=>exact⟨-1,0,rfl,ah,ah⟩
 | some q =>
  obtain⟨b,o,s⟩:=q;cases s with
  | none=>exact⟨b,o,by simp [au],ah,ah⟩
  | some s =>
   obtain⟨n,hn⟩:=Vp (o+s) s o rfl;refine⟨-(b:Int)-2,n,?_,ah,ah⟩;unfold au
   grind
def bO:Option Value->Int | some (.int _ n)=>n | _=>0
def yX:Option Value->Bool | some (.bool b)=>b | _=>false
def SI:Option Value->ByteArray | some (.string s)=>s | _=>.empty
def bD:Option Value->Nat->Int
 | some (.slice none _ _),0=> -1
 | some (.slice (some ⟨b,_,none⟩) _ _),0=>b
 | some (.slice (some ⟨b,_,some _⟩) _ _),0=> -(b:Int)-2
 | some (.slice (some ⟨_,o,none⟩) _ _),1=>o
 | some (.slice (some ⟨_,o,some s⟩) _ _),1=>VV o s
 | some (.slice _ n _),2=>n
 | some (.slice _ _ c),3=>c
 | some (.pointer none),0=> -1
 | some (.pointer (some ⟨b,_,_⟩)),0=>b
 | some (.pointer (some ⟨_,o,_⟩)),1=>o
 | some (.map none),0=> -1
 | some (.map (some r)),0=>r
 | _,_=>0
def bh:Option Value->Kd->Bool
 | some (.int k _),.int a=>k=a
 | some (.bool _),.bool=>true
 | some (.string _),.str=>true
 | some (.slice _ _ _),.slice=>true
 | some (.pointer (some ⟨_,_,none⟩)),.ptr=>true
 | some (.pointer none),.ptr=>true
 | some (.map _),.map=>true
 | some _,.any=>true
 | _,_=>false
def bytesOf (a:List Int):ByteArray:=a.foldl (fun r n=>r.push (UInt8.ofNat n.toNat)) ByteArray.empty
def gw (h:Hl) (x y n:Nat):List Int:=(List.range n).map fun j=>bO (h.cell x (y+j))
def bx (h:Hl) (x y n:Nat):Bool:=(List.range n).all fun j=>bh (h.cell x (y+j)) (.int .u8)
def wz (h:Hl) (x:Nat):Nat->List Kd->Bool
 | _,[]=>true
 | y,k::l=>bh (h.cell x y) k&&wz h x (y+1) l
def isMap:Option Obj->Bool
 | some (.map _ _)=>true
 | _=>false
def Jr:Option Obj->Int
 | some (.map es _)=>es.size
 | _=>0
def ev (J:Env):E->Int×Bool×ByteArray
 | .lit n=>(n,false,.empty)
 | .var i=>(J.i i,false,.empty)
 | .add a b=>((ev J a).1+(ev J b).1,false,.empty)
 | .sub a b=>((ev J a).1-(ev J b).1,false,.empty)
 | .mul a b=>((ev J a).1*(ev J b).1,false,.empty)
 | .quo a b=>((ev J a).1.tdiv (ev J b).1,false,.empty)
 | .rem a b=>((ev J a).1.tmod (ev J b).1,false,.empty)
 | .wrap k a=>(k.wrap (ev J a).1,false,.empty)
 | .bits op k a b=>(ct op k (ev J a).1 (ev J b).1,false,.empty)
 | .shl k a b=>(k.wrap ((ev J a).1*2 ^ (min (ev J b).1.toNat k.bits)),false,.empty)
 | .shr k a b=>((ev J a).1.fdiv (2 ^ (min (ev J b).1.toNat k.bits)),false,.empty)
 | .tt=>(0,true,.empty)
 | .ff=>(0,false,.empty)
 | .bvar i=>(0,J.b i,.empty)
 | .not a=>(0,!(ev J a).2.1,.empty)
 | .and a b=>(0,(ev J a).2.1&&(ev J b).2.1,.empty)
 | .or a b=>(0,(ev J a).2.1||(ev J b).2.1,.empty)
 | .ite c a b=>(if(ev J c).2.1 then(ev J a).1 else(ev J b).1,if(ev J c).2.1 then(ev J a).2.1 else(ev J b).2.1,if(ev J c).2.1 then(ev J a).2.2 else(ev J b).2.2)
 | .lt a b=>(0,decide ((ev J a).1<(ev J b).1),.empty)
 | .le a b=>(0,decide ((ev J a).1<=(ev J b).1),.empty)
 | .eq a b=>(0,decide ((ev J a).1=(ev J b).1),.empty)
 | .beq a b=>(0,(ev J a).2.1==(ev J b).2.1,.empty)
 | .hI h x y j=>(bO ((J.h h).cell (ev J x).1.toNat ((ev J y).1.toNat+j)),false,.empty)
 | .hB h x y j=>(0,yX ((J.h h).cell (ev J x).1.toNat ((ev J y).1.toNat+j)),.empty)
 | .hP h x y j k=>(bD ((J.h h).cell (ev J x).1.toNat ((ev J y).1.toNat+j)) k,false,.empty)
 | .hS h x y j=>(0,false,SI ((J.h h).cell (ev J x).1.toNat ((ev J y).1.toNat+j)))
 | .his h x y j k=>(0,bh ((J.h h).cell (ev J x).1.toNat ((ev J y).1.toNat+j)) k,.empty)
 | .svar i=>(0,false,J.s i)
 | .slit s=>(0,false,s)
 | .scat a b=>(0,false,(ev J a).2.2++(ev J b).2.2)
 | .sbyte a=>(0,false,bytesOf [(ev J a).1])
 | .sof h x y l=>(0,false,bytesOf (gw (J.h h) (ev J x).1.toNat (ev J y).1.toNat (ev J l).1.toNat))
 | .slen a=>((ev J a).2.2.size,false,.empty)
 | .sat a i=>(((ev J a).2.2.data[(ev J i).1.toNat]?.getD 0).toNat,false,.empty)
 | .sext a i j=>(0,false,(ev J a).2.2.extract (ev J i).1.toNat (ev J j).1.toNat)
 | .seq a b=>(0,decide ((ev J a).2.2=(ev J b).2.2),.empty)
 | .slt a b=>(0,decide ((ev J a).2.2.data.toList<(ev J b).2.2.data.toList),.empty)
 | .hmlen h x=>(Jr (J.h h (ev J x).1.toNat),false,.empty)
 | .vint v=>(qA (J.v v),false,.empty)
 | .hism h x=>(0,isMap (J.h h (ev J x).1.toNat),.empty)
 | .hks h x y ks=>(0,wz (J.h h) (ev J x).1.toNat (ev J y).1.toNat ks,.empty)
 | .hby h x y l=>(0,bx (J.h h) (ev J x).1.toNat (ev J y).1.toNat (ev J l).1.toNat,.empty)
def aw (J:Env) (e:E):Int:=(ev J e).1
def aY (J:Env) (e:E):Bool:=(ev J e).2.1
def lC (J:Env) (e:E):ByteArray:=(ev J e).2.2
section
variable (J:Env) (a b c x y l:E)
def aq (n:Int):aw J (.lit n)=n:=rfl
def ar (i:Nat):aw J (.var i)=J.i i:=rfl
def bP:aw J (.add a b)=aw J a+aw J b:=rfl
def dZ:aw J (.sub a b)=aw J a-aw J b:=rfl
def cN:aw J (.mul a b)=aw J a*aw J b:=rfl
def Li:aw J (.quo a b)=(aw J a).tdiv (aw J b):=rfl
def En:aw J (.rem a b)=(aw J a).tmod (aw J b):=rfl
def bL (k:IntKind):aw J (.wrap k a)=k.wrap (aw J a):=rfl
def AQ (op:BinOp) (k:IntKind):aw J (.bits op k a b)=ct op k (aw J a) (aw J b):=rfl
def TZ (k:IntKind):aw J (.shl k a b)=k.wrap (aw J a*2 ^ (min (aw J b).toNat k.bits)):=rfl
def T0 (k:IntKind):aw J (.shr k a b)=(aw J a).fdiv (2 ^ (min (aw J b).toNat k.bits)):=rfl
def dY:aw J (.ite c a b)=if aY J c then aw J a else aw J b:=rfl
def fi (h j:Nat):aw J (.hI h x y j)=bO ((J.h h).cell (aw J x).toNat ((aw J y).toNat+j)):=rfl
def fC (h j k:Nat):aw J (.hP h x y j k)=bD ((J.h h).cell (aw J x).toNat ((aw J y).toNat+j)) k:=rfl
def Qq:aw J (.slen a)=(lC J a).size:=rfl
def fT (h:Nat):aw J (.hmlen h x)=Jr (J.h h (aw J x).toNat):=rfl
def AS (v:Nat):aw J (.vint v)=qA (J.v v):=rfl
def dc:aY J .tt=true:=rfl
def du:aY J .ff=false:=rfl
def bn (i:Nat):aY J (.bvar i)=J.b i:=rfl
def DU:aY J (.not a)=!aY J a:=rfl
def sk:aY J (.and a b)=(aY J a&&aY J b):=rfl
def zX:aY J (.or a b)=(aY J a||aY J b):=rfl
def Ti:aY J (.ite c a b)=if aY J c then aY J a else aY J b:=rfl
def wX:aY J (.lt a b)=decide (aw J a<aw J b):=rfl
def mA:aY J (.le a b)=decide (aw J a<=aw J b):=rfl
def uf:aY J (.eq a b)=decide (aw J a=aw J b):=rfl
def Th:aY J (.beq a b)=(aY J a==aY J b):=rfl
def WB (h j:Nat):aY J (.hB h x y j)=yX ((J.h h).cell (aw J x).toNat ((aw J y).toNat+j)):=rfl
def zh (h j:Nat) (k:Kd):aY J (.his h x y j k)=bh ((J.h h).cell (aw J x).toNat ((aw J y).toNat+j)) k:=rfl
def DT (h:Nat):aY J (.hby h x y l)=bx (J.h h) (aw J x).toNat (aw J y).toNat (aw J l).toNat:=rfl
def Ph (h:Nat):aY J (.hism h x)=isMap (J.h h (aw J x).toNat):=rfl
def Tj:aY J (.seq a b)=decide (lC J a=lC J b):=rfl
def fW (i:Nat):lC J (.svar i)=J.s i:=rfl
def gy (s:ByteArray):lC J (.slit s)=s:=rfl
def Ou:lC J (.sbyte a)=bytesOf [aw J a]:=rfl
def iP (h:Nat):lC J (.sof h x y l)=bytesOf (gw (J.h h) (aw J x).toNat (aw J y).toNat (aw J l).toNat):=rfl
def So:lC J (.sext a x y)=(lC J a).extract (aw J x).toNat (aw J y).toNat:=rfl
def YQ (h j:Nat):lC J (.hS h x y j)=SI ((J.h h).cell (aw J x).toNat ((aw J y).toNat+j)):=rfl
def jJ:lC J (.ite c a b)=if aY J c then lC J a else lC J b:=rfl
end
section
variable (J:Env) (a b c x y l:E)
def tH:(aY J .tt=true)=True:=by simp [dc]
def tE:(aY J .ff=true)=False:=by simp [du]
def kc (i:Nat):(aY J (.bvar i)=true)=(J.b i=true):=rfl
def lh:(aY J (.not a)=true)=¬(aY J a=true):=by simp [DU]
def jv:(aY J (.and a b)=true)=(aY J a=true/\aY J b=true):=by simp [sk]
def tG:(aY J (.or a b)=true)=(aY J a=true\/aY J b=true):=by simp [zX]
def nR:(aY J (.ite c a b)=true)=if aY J c=true then aY J a=true else aY J b=true:=by rw[Ti];split<;>rfl
def nu:(aY J (.lt a b)=true)=(aw J a<aw J b):=by simp [wX]
def nq:(aY J (.le a b)=true)=(aw J a<=aw J b):=by simp [mA]
def ik:(aY J (.eq a b)=true)=(aw J a=aw J b):=by simp [uf]
theorem nN:(aY J (.beq a b)=true)=((aY J a=true)=(aY J b=true)):=by rw[Th];grind
def nS:(aY J (.seq a b)=true)=(lC J a=lC J b):=by simp [Tj]
def tF (h j:Nat):(aY J (.hB h x y j)=true)=(yX ((J.h h).cell (aw J x).toNat ((aw J y).toNat+j))=true):=rfl
def nP (h j:Nat) (k:Kd):(aY J (.his h x y j k)=true)=(bh ((J.h h).cell (aw J x).toNat ((aw J y).toNat+j)) k=true):=rfl
def nQ (h:Nat) (ks:List Kd):(aY J (.hks h x y ks)=true)=(wz (J.h h) (aw J x).toNat (aw J y).toNat ks=true):=rfl
def nO (h:Nat):(aY J (.hby h x y l)=true)=(bx (J.h h) (aw J x).toNat (aw J y).toNat (aw J l).toNat=true):=rfl
def ke (h:Nat):(aY J (.hism h x)=true)=(isMap (J.h h (aw J x).toNat)=true):=rfl
end
def mkNot:E->E
 | .tt=>.ff
 | .ff=>.tt
 | .not a=>a
 | a=>.not a
def cU (J:Env) (a:E):aY J (mkNot a)=!aY J a:=by
 unfold mkNot;split<;>simp [dc,du,DU]
def mkAnd (a b:E):E :=
 match a,b with
 | .tt,b=>b
 | .ff,_=>.ff
 | a,.tt=>a
 | _,.ff=>.ff
 | a,b=>if a=b then a else .and a b
theorem aN (J:Env) (a b:E):aY J (mkAnd a b)=(aY J a&&aY J b):=by
 unfold mkAnd;split<;>try simp [dc,du,sk]
 split
 .grind
 .rfl
def mkOr (a b:E):E :=
 match a,b with
 | .tt,_=>.tt
 | .ff,b=>b
 | _,.tt=>.tt
 | a,.ff=>a
 | a,b=>if b=mkNot a then .tt else .or a b
theorem vg (J:Env) (a b:E):aY J (mkOr a b)=(aY J a||aY J b):=by
 unfold mkOr;split<;>try simp [dc,du,zX]
 split
 .rename_i h;rw[h,cU,dc];grind
 .rfl
def Jw (c a b:E):E :=
 match c,a,b with
 | .tt,a,_=>a
 | .ff,_,b=>b
 | c,.tt,.ff=>c
 | c,.tt,b=>mkOr c b
 | c,.ff,b=>mkAnd (mkNot c) b
 | c,a,.ff=>mkAnd c a
 | c,a,.tt=>mkOr (mkNot c) a
 | c,a,b=>if a=b then a else .ite c a b
theorem IM (J:Env) (c a b:E):aY J (Jw c a b)=if aY J c then aY J a else aY J b:=by
 unfold Jw;split<;>try simp only[dc,du,vg,aN,cU,afm,afw,acQ]
 case h_8 =>
  split
  .grind
  .rfl
 all_goals grind
def mkIte (c a b:E):E :=
 match c with
 | .tt=>a
 | .ff=>b
 | c=>if a=b then a else .ite c a b
theorem jc (J:Env) (c a b:E):aw J (mkIte c a b)=if aY J c then aw J a else aw J b:=by
 unfold mkIte;split
 .simp [dc]
 .simp [du]
 .split
  .grind
  .rfl
def mkAdd:E->E->E
 | .lit a,.lit b=>.lit (a+b)
 | .lit a,b=>if a=0 then b else .add (.lit a) b
 | .add a (.lit b),.lit c=>.add a (.lit (b+c))
 | a,.lit b=>if b=0 then a else .add a (.lit b)
 | a,b=>.add a b
def fc (J:Env) (a b:E):aw J (mkAdd a b)=aw J a+aw J b:=by
 unfold mkAdd;split<;>try rfl
 .split
  .rename_i h;subst h;simp [aq]
  .rfl
 .simp only[bP,aq];omega
 .split
  .rename_i h;subst h;simp [aq]
  .rfl
def mkSub:E->E->E
 | .lit a,.lit b=>.lit (a-b)
 | a,.lit b=>if b=0 then a else .sub a (.lit b)
 | a,b=>if a=b then .lit 0 else .sub a b
def oO (J:Env) (a b:E):aw J (mkSub a b)=aw J a-aw J b:=by
 unfold mkSub;split<;>try rfl
 .split
  .rename_i h;subst h;simp [aq]
  .rfl
 .split
  .rename_i h;subst h;simp [aq]
  .rfl
def mkMul:E->E->E
 | .lit a,.lit b=>.lit (a*b)
 | .lit a,b=>if a=1 then b else .mul (.lit a) b
 | a,.lit b=>if b=1 then a else .mul a (.lit b)
 | a,b=>.mul a b
def oN (J:Env) (a b:E):aw J (mkMul a b)=aw J a*aw J b:=by
 unfold mkMul;split<;>try rfl
 .split
  .rename_i h;subst h;simp [aq]
  .rfl
 .split
  .rename_i h;subst h;simp [aq]
  .rfl
def mkWrap (k:IntKind):E->E
 | .lit a=>.lit (k.wrap a)
 | a=>.wrap k a
def pP (J:Env) (k:IntKind) (a:E):aw J (mkWrap k a)=k.wrap (aw J a):=by
 unfold mkWrap;split<;>rfl
def mkLt:E->E->E
 | .lit a,.lit b=>if a<b then .tt else .ff
 | a,b=>.lt a b
def jw (J:Env) (a b:E):aY J (mkLt a b)=decide (aw J a<aw J b):=by
 unfold mkLt;split
 .split<;>rename_i h<;>simp [dc,du,aq,h]<;>omega
 .rfl
def mkLe:E->E->E
 | .lit a,.lit b=>if a<=b then .tt else .ff
 | a,b=>if a=b then .tt else .le a b
def aX (J:Env) (a b:E):aY J (mkLe a b)=decide (aw J a<=aw J b):=by
 unfold mkLe;split
 .split<;>rename_i h<;>simp [dc,du,aq,h]<;>omega
 .split
  .rename_i h;subst h;simp [dc]
  .rfl
def mkEq:E->E->E
 | .lit a,.lit b=>if a=b then .tt else .ff
 | a,b=>if a=b then .tt else .eq a b
def fN (J:Env) (a b:E):aY J (mkEq a b)=decide (aw J a=aw J b):=by
 unfold mkEq;split
 .split<;>rename_i h<;>simp [dc,du,aq,h]
 .split
  .rename_i h;subst h;simp [dc]
  .rfl
def QQ:E->E->E
 | .tt,b=>b
 | .ff,b=>mkNot b
 | a,.tt=>a
 | a,.ff=>mkNot a
 | a,b=>if a=b then .tt else .beq a b
theorem MK (J:Env) (a b:E):aY J (QQ a b)=(aY J a==aY J b):=by
 unfold QQ;split<;>try simp only[dc,du,cU]
 .simp
 .grind
 .simp
 .grind
 .split
  .rename_i h;subst h;simp [dc]
  .rfl
def mkSeq:E->E->E
 | .slit a,.slit b=>if a=b then .tt else .ff
 | a,b=>if a=b then .tt else .seq a b
def wY (J:Env) (a b:E):aY J (mkSeq a b)=decide (lC J a=lC J b):=by
 unfold mkSeq;split
 .split<;>rename_i h<;>simp [dc,du,gy,h]
 .split
  .rename_i h;subst h;simp [dc]
  .rfl
def Lx:E->E->E
 | .slit a,.slit b=>.slit (a++b)
 | a,b=>.scat a b
def Dv (J:Env) (a b:E):lC J (Lx a b)=lC J a++lC J b:=by
 unfold Lx;split<;>rfl
def yn:E->E
 | .slit a=>.lit a.size
 | a=>.slen a
def ml (J:Env) (a:E):aw J (yn a)=(lC J a).size:=by
 unfold yn;split<;>rfl
def QT:E->E->E
 | .slit a,.lit i=>.lit (a.data[i.toNat]?.getD 0).toNat
 | a,i=>.sat a i
def Nj (J:Env) (a i:E):aw J (QT a i)=((lC J a).data[(aw J i).toNat]?.getD 0).toNat:=by
 unfold QT;split<;>rfl
def Path (J:Env) (path:List E):Prop:=∀ e∈path,aY J e=true
def Jt:Option Int->Option Int->Option Int
 | some a,some b=>some (max a b)
 | some a,none=>some a
 | none,b=>b
def ND:Option Int->Option Int->Option Int
 | some a,some b=>some (min a b)
 | some a,none=>some a
 | none,b=>b
def lbF (e:E):E->Option Int
 | .le (.lit n) x=>if x=e then some n else none
 | .lt (.lit n) x=>if x=e then some (n+1)else none
 | .eq x (.lit n)=>if x=e then some n else none
 | .not (.lt x (.lit n))=>if x=e then some n else none
 | .not (.le x (.lit n))=>if x=e then some (n+1)else none
 | _=>none
def ubF (e:E):E->Option Int
 | .le x (.lit n)=>if x=e then some n else none
 | .lt x (.lit n)=>if x=e then some (n-1)else none
 | .eq x (.lit n)=>if x=e then some n else none
 | .not (.lt (.lit n) x)=>if x=e then some n else none
 | .not (.le (.lit n) x)=>if x=e then some (n-1)else none
 | _=>none
def lbP (path:List E) (e:E):Option Int:=path.foldl (fun a f=>Jt a (lbF e f)) none
def ubP (path:List E) (e:E):Option Int:=path.foldl (fun a f=>ND a (ubF e f)) none
def lb (path:List E):E->Option Int
 | .lit n=>some n
 | .add a b=>Jt (lbP path (.add a b)) (match lb path a,lb path b with | some x,some y=>some (x+y) | _,_=>none)
 | .mul a (.lit k)=>Jt (lbP path (.mul a (.lit k))) (match lb path a with | some x=>if 0<=k then some (x*k)else none | none=>none)
 | .slen a=>Jt (lbP path (.slen a)) (some 0)
 | e=>lbP path e
def ub (path:List E):E->Option Int
 | .lit n=>some n
 | .add a b=>ND (ubP path (.add a b)) (match ub path a,ub path b with | some x,some y=>some (x+y) | _,_=>none)
 | .mul a (.lit k)=>ND (ubP path (.mul a (.lit k))) (match ub path a with | some x=>if 0<=k then some (x*k)else none | none=>none)
 | e=>ubP path e
def Zg:Option Int->Option Int->Bool
 | some a,some b=>decide (a<=b)
 | _,_=>false
def Zi:Option Int->Option Int->Bool
 | some a,some b=>decide (a<b)
 | _,_=>false
def nZ (path:List E) (e:E):Option Bool :=
 if path.contains e then some true else if path.contains (mkNot e)then some false else match e with
 | .le a b=>if Zg (ub path a) (lb path b)then some true else if Zi (ub path b) (lb path a)then some false else none
 | .lt a b=>if Zi (ub path a) (lb path b)then some true else if Zg (ub path b) (lb path a)then some false else none
 | .eq a b=>if Zi (ub path a) (lb path b)||Zi (ub path b) (lb path a)then some false else if Zg (ub path a) (lb path b)&&Zg (ub path b) (lb path a)then some true else none
 | _=>none
def known (path:List E) (e:E):Option Bool :=
 match e with
 | .tt=>some true
 | .ff=>some false
 | .not e=>(nZ path e).map not
 | .and a b=>match nZ path a,nZ path b with
  | some true,some true=>some true
  | some false,_=>some false
  | _,some false=>some false
  | _,_=>nZ path (.and a b)
 | .or a b=>match nZ path a,nZ path b with
  | some false,some false=>some false
  | some true,_=>some true
  | _,some true=>some true
  | _,_=>nZ path (.or a b)
 | e=>nZ path e
section
variable {J:Env} {path:List E}
def Nr {f:E} {n:Int} (hf:aY J f=true) (h:lbF e f=some n):n<=aw J e:=by
 unfold lbF at h;split at h<;>first | (cases h;done) | skip
 all_goals (split at h<;>first | (cases h;done) | skip)
 all_goals (cases h;rename_i he;subst he;simp only[nq,nu,ik,lh,aq]at hf;omega)
def OG {f:E} {n:Int} (hf:aY J f=true) (h:ubF e f=some n):aw J e<=n:=by
 unfold ubF at h;split at h<;>first | (cases h;done) | skip
 all_goals (split at h<;>first | (cases h;done) | skip)
 all_goals (cases h;rename_i he;subst he;simp only[nq,nu,ik,lh,aq]at hf;omega)
theorem zA {a b:Option Int} {x:Int} (c:∀ n,a=some n->n<=x) (hb:∀ n,b=some n->n<=x):∀ n,Jt a b=some n->n<=x:=by
 intro n h;unfold Jt at h
 grind
theorem Eu {a b:Option Int} {x:Int} (c:∀ n,a=some n->x<=n) (hb:∀ n,b=some n->x<=n):∀ n,ND a b=some n->x<=n:=by
 intro n h;unfold ND at h
 grind
theorem sC (hp:Path J path) : ∀ n,lbP path e=some n->n<=aw J e:=by
 have key:∀ (l:List E) (a:Option Int),(∀ f∈l,aY J f=true)->(∀ n,a=some n->n<=aw J e)->∀ n,l.foldl (fun a f=>Jt a (lbF e f)) a=some n->n<=aw J e:=by
  intro l
  induction l with
  | nil=>grind
  | cons f l ih =>
   intro a hl b n h;exact ih _ (fun g hg=>hl g (abq _ hg)) (zA b fun m hm=>Nr (hl f (acj ..)) hm) n h
 exact key path none hp (fun n h=>by cases h)
theorem xL (hp:Path J path) : ∀ n,ubP path e=some n->aw J e<=n:=by
 have key:∀ (l:List E) (a:Option Int),(∀ f∈l,aY J f=true)->(∀ n,a=some n->aw J e<=n)->∀ n,l.foldl (fun a f=>ND a (ubF e f)) a=some n->aw J e<=n:=by
  intro l
  induction l with
  | nil=>grind
  | cons f l ih =>
   intro a hl b n h;exact ih _ (fun g hg=>hl g (abq _ hg)) (Eu b fun m hm=>OG (hl f (acj ..)) hm) n h
 exact key path none hp (fun n h=>by cases h)
def kJ (hp:Path J path):∀ (e:E) n,lb path e=some n->n<=aw J e:=by
 intro e
 fun_induction lb path e with
 | case1 m=>intro n h;cases h;rw[aq];omega
 | case2 a b c d =>
  refine zA (sC hp) fun n h=>?_;split at h
  .rename_i x y hx hy;cases h;have h1:=c _ hx;have f:=d _ hy;rw[bP];omega
  .cases h
 | case3 a k c =>
  refine zA (sC hp) fun n h=>?_;split at h
  .rename_i x hx;split at h
   .cases h;have h1:=c _ hx;rw[cN,aq];exact af9 h1 ‹_›
   .cases h
  .cases h
 | case4 a =>
  refine zA (sC hp) fun n h=>?_;cases h;rw[Qq];omega
 | case5 e=>exact sC hp
def kZ (hp:Path J path):∀ (e:E) n,ub path e=some n->aw J e<=n:=by
 intro e
 fun_induction ub path e with
 | case1 m=>intro n h;cases h;rw[aq];omega
 | case2 a b c d =>
  refine Eu (xL hp) fun n h=>?_;split at h
  .rename_i x y hx hy;cases h;have h1:=c _ hx;have f:=d _ hy;rw[bP];omega
  .cases h
 | case3 a k c =>
  refine Eu (xL hp) fun n h=>?_;split at h
  .rename_i x hx;split at h
   .cases h;have h1:=c _ hx;rw[cN,aq];exact af9 h1 ‹_›
   .cases h
  .cases h
 | case4 e=>exact xL hp
theorem sD {a b:Option Int} {x y:Int} (h:Zg a b=true) (c:∀ n,a=some n->x<=n) (hb:∀ n,b=some n->n<=y):x<=y:=by
 unfold Zg at h;grind
theorem sE {a b:Option Int} {x y:Int} (h:Zi a b=true) (c:∀ n,a=some n->x<=n) (hb:∀ n,b=some n->n<=y):x<y:=by
 unfold Zi at h;grind
theorem cj (hp:Path J path) {t:Bool} (h:nZ path e=some t):aY J e=t:=by
 unfold nZ at h;split at h
 .rename_i c;cases h;exact hp e (by grind)
 .split at h
  .rename_i c;cases h;have:=hp _ (afy.1 c);rw[cU]at this
   grind
  .split at h
   .rename_i a b _ _;split at h
    .rename_i c;cases h;have:=sD c (kZ hp a) (kJ hp b);rw[mA];grind
    .split at h
     .rename_i c;cases h;have:=sE c (kZ hp b) (kJ hp a);rw[mA];simp;omega
     .cases h
   .rename_i a b _ _;split at h
    .rename_i c;cases h;have:=sE c (kZ hp a) (kJ hp b);rw[wX];grind
    .split at h
     .rename_i c;cases h;have:=sD c (kZ hp b) (kJ hp a);rw[wX];simp;omega
     .cases h
   .rename_i a b _ _;split at h
    .rename_i c;cases h;rw[aeM]at c;rw[uf];rcases c with c | c
     .have:=sE c (kZ hp a) (kJ hp b);simp;omega
     .have:=sE c (kZ hp b) (kJ hp a);simp;omega
    .split at h
     .rename_i c;cases h;rw[aaM]at c;have h1:=sD c.1 (kZ hp a) (kJ hp b);have d:=sD c.2 (kZ hp b) (kJ hp a);rw[uf];simp;omega
     .cases h
   .cases h
def fw (hp:Path J path) {t:Bool} (h:known path e=some t):aY J e=t:=by
 unfold known at h;split at h
 .cases h;rfl
 .cases h;rfl
 .simp only[aaH]at h;obtain⟨b,hb,rfl⟩:=h;rw[DU,cj hp hb]
 .split at h
  .rename_i h1 a;cases h;rw[sk,cj hp h1,cj hp a];rfl
  .rename_i h1;cases h;rw[sk,cj hp h1];rfl
  .rename_i h1 _;cases h;rw[sk,cj hp h1];simp
  .exact cj hp h
 .split at h
  .rename_i h1 a;cases h;rw[zX,cj hp h1,cj hp a];rfl
  .rename_i h1;cases h;rw[zX,cj hp h1];rfl
  .rename_i h1 _;cases h;rw[zX,cj hp h1];simp
  .exact cj hp h
 .exact cj hp h
end
inductive CV where
 | int (k:IntKind) (e:E) | bool (e:E) | str (e:E)
 | pti (a o s n:Nat) (i:E)
 | hptr (x y:E) | sl (x y l c:E) | map (x:E)
 | vr (j:Nat) | hv (h:Nat) (x y:E) (j:Nat)
 | val (v:Value)
 | clo (f:Nat) (x:E)
 | clo2 (f:Nat) (x y:E)
inductive SV where | one (c:CV) | agg (l:List CV)
inductive TV where | sv (s:SV) | tup (l:List SV)
variable {hi lo mx:Option TV}
def CV.ev (J:Env):CV->Value
 | .int k e=>.int k (aw J e)
 | .bool e=>.bool (aY J e)
 | .str e=>.string (lC J e)
 | .pti a o s _ i=>.pointer (au (J.i a) ((o:Int)+(s:Int)*aw J i))
 | .hptr x y=>.pointer (au (aw J x) (aw J y))
 | .sl x y l c=>.slice (au (aw J x) (aw J y)) (aw J l).toNat (aw J c).toNat
 | .map x=>.map (if aw J x= -1 then none else some (aw J x).toNat)
 | .vr j=>J.v j
 | .hv h x y j=>((J.h h).cell (aw J x).toNat ((aw J y).toNat+j)).getD (.bool false)
 | .val v=>v
 | .clo f x=>.func (.func f) #[] #[.pointer (au (aw J x) 0)]
 | .clo2 f x y=>.func (.func f) #[] #[.pointer (au (aw J x) 0),.pointer (au (aw J y) 0)]
def SV.ev (J:Env):SV->Value
 | .one c=>c.ev J
 | .agg l=>.agg (l.map (CV.ev J)).toArray
def TV.ev (J:Env):TV->Value
 | .sv s=>s.ev J
 | .tup l=>.tuple (l.map (SV.ev J)).toArray
def il:Value->CV
 | .int k n=>.int k (.lit n)
 | .bool true=>.bool .tt
 | .bool false=>.bool .ff
 | .string s=>.str (.slit s)
 | .slice none n c=>.sl (.lit (-1)) (.lit 0) (.lit n) (.lit c)
 | .pointer none=>.hptr (.lit (-1)) (.lit 0)
 | .map none=>.map (.lit (-1))
 | v=>.val v
def GB (J:Env) (v:Value):(il v).ev J=v:=by
 unfold il;split<;>rfl
def lift:Value->TV
 | .agg cs=>.sv (.agg (cs.toList.map il))
 | v=>.sv (.one (il v))
def jf (J:Env) (l:List Value):(l.map il).map (CV.ev J)=l:=by
 induction l with
 | nil=>rfl
 | cons v l ih=>simp only[abW,GB,ih]
def Ls (J:Env) (v:Value):(lift v).ev J=v:=by
 unfold lift;split
 .simp only[TV.ev,SV.ev,jf]
 .exact GB J v
def HP:Value->Value->Bool
 | .nilFunc,.nilFunc=>true
 | .nilIface,.nilIface=>true
 | .func (.func f) a b,.func (.func g) c d=>f==g&&a.isEmpty&&b.isEmpty&&c.isEmpty&&d.isEmpty
 | _,_=>false
theorem BU {a b:Value} (h:HP a b=true):a=b:=by
 unfold HP at h;grind
def sF (c:E):CV->CV->Option CV
 | .int k e,.int a b=>if k=a then some (.int k (mkIte c e b))else none
 | .bool e,.bool b=>some (.bool (Jw c e b))
 | .hptr x y,.hptr x' y'=>some (.hptr (mkIte c x x') (mkIte c y y'))
 | .sl x y l k,.sl x' y' l' a=>some (.sl (mkIte c x x') (mkIte c y y') (mkIte c l l') (mkIte c k a))
 | .map x,.map x'=>some (.map (mkIte c x x'))
 | .vr j,.vr k=>if j=k then some (.vr j)else none
 | .val v,.val v'=>if HP v v' then some (.val v)else none
 | _,_=>none
theorem pX {J:Env} {c:E} {a b v:CV} (h:sF c a b=some v):v.ev J=if aY J c then a.ev J else b.ev J:=by
 unfold sF at h;split at h
 .split at h
  .rename_i hk;subst hk;cases h;simp only[CV.ev,jc];split<;>rfl
  .cases h
 .cases h;simp only[CV.ev,IM];split<;>rfl
 .cases h;simp only[CV.ev,jc];split<;>rfl
 .cases h;simp only[CV.ev,jc];split<;>rfl
 .cases h;simp only[CV.ev,jc];split<;>rfl
 .grind
 .split at h
  .rename_i hv;cases h;simp [CV.ev,BU hv]
  .cases h
 .cases h
def Et (c:E):List CV->List CV->Option (List CV)
 | [],[]=>some []
 | a::l,b::m=>match sF c a b,Et c l m with
  | some v,some r=>some (v::r)
  | _,_=>none
 | _,_=>none
theorem C3 {J:Env} {c:E} : ∀ {l m r:List CV},Et c l m=some r->r.map (CV.ev J)=if aY J c then l.map (CV.ev J)else m.map (CV.ev J)
 | [],[],r,h=>by cases h;simp
 | a::l,b::m,r,h=>by
  unfold Et at h;split at h
  .rename_i v r' h1 d;cases h;have e1:=pX (J:=J) h1;have e:=C3 (J:=J) d
   grind
  .cases h
 | [],_::_,_,h=>by trivial
 | _::_,[],_,h=>by trivial
def zB (c:E):SV->SV->Option SV
 | .one a,.one b=>(sF c a b).map .one
 | .agg l,.agg m=>(Et c l m).map .agg
 | _,_=>none
def Bn {J:Env} {c:E} {a b v:SV} (h:zB c a b=some v):v.ev J=if aY J c then a.ev J else b.ev J:=by
 unfold zB at h;split at h
 .simp only[aaH]at h;obtain⟨x,hx,rfl⟩:=h;exact pX hx
 .simp only[aaH]at h;obtain⟨x,hx,rfl⟩:=h;simp only[SV.ev,C3 hx];split<;>rfl
 .cases h
def E.upto (n:Nat):E->Bool
 | .lit _ | .tt | .ff | .slit _=>true
 | .var i | .bvar i | .svar i | .vint i=>decide (i<n)
 | .add a b | .sub a b | .mul a b | .quo a b | .rem a b | .bits _ _ a b | .shl _ a b | .shr _ a b | .and a b | .or a b | .lt a b | .le a b | .eq a b | .beq a b | .scat a b | .sat a b | .seq a b | .slt a b=>a.upto n&&b.upto n
 | .wrap _ a | .not a | .sbyte a | .slen a=>a.upto n
 | .ite c a b | .sext c a b=>c.upto n&&a.upto n&&b.upto n
 | .hks h x y _ | .hI h x y _ | .hB h x y _ | .hP h x y _ _ | .his h x y _ _ | .hS h x y _=>decide (h<n)&&x.upto n&&y.upto n
 | .sof h x y l | .hby h x y l=>decide (h<n)&&x.upto n&&y.upto n&&l.upto n
 | .hmlen h x | .hism h x=>decide (h<n)&&x.upto n
structure ai (n:Nat) (J J':Env):Prop where
 i:∀ k,(_:k<n:=by omega)->J'.i k=J.i k
 b:∀ k,(_:k<n:=by omega)->J'.b k=J.b k
 s:∀ k,(_:k<n:=by omega)->J'.s k=J.s k
 v:∀ k,(_:k<n:=by omega)->J'.v k=J.v k
 h:∀ k,(_:k<n:=by omega)->J'.h k=J.h k
def ai.refl (n:Nat) (J:Env):ai n J J:=⟨fun _ _=>rfl,fun _ _=>rfl,fun _ _=>rfl,fun _ _=>rfl,fun _ _=>rfl⟩
def ai.trans {n:Nat} {a b c:Env} (h:ai n a b) (k:ai n b c):ai n a c :=
 ⟨fun i hi=>(k.i i hi).trans (h.i i hi),fun i hi=>(k.b i hi).trans (h.b i hi),fun i hi=>(k.s i hi).trans (h.s i hi),fun i hi=>(k.v i hi).trans (h.v i hi),fun i hi=>(k.h i hi).trans (h.h i hi)⟩
def ai.mono {n m:Nat} {a b:Env} (h:ai n a b) (hm:m<=n:=by omega):ai m a b:=⟨fun i hi=>h.i i,fun i hi=>h.b i,fun i hi=>h.s i,fun i hi=>h.v i,fun i hi=>h.h i⟩
def ai.iA {n:Nat} {a b:Env} (h:ai n a b):∀ k,k<n->b.i k=a.i k:=fun k e=>h.i k e
def ai.hA {n:Nat} {a b:Env} (h:ai n a b):∀ k,k<n->b.h k=a.h k:=fun k e=>h.h k e
def ai.bA {n:Nat} {a b:Env} (h:ai n a b):∀ k,k<n->b.b k=a.b k:=fun k e=>h.b k e
def ai.sA {n:Nat} {a b:Env} (h:ai n a b):∀ k,k<n->b.s k=a.s k:=fun k e=>h.s k e
def ai.tr {n m:Nat} {a b c:Env} (h:ai n a b) (k:ai m b c) (hm:n<=m:=by omega):ai n a c:=h.trans (k.mono hm)
def Aq {n:Nat} {J J':Env} (h:ai n J J'):∀ e:E,e.upto n=true->ev J' e=ev J e:=by
 intro e
 induction e with
 | var i=>intro hb;simp only[E.upto,aas]at hb;simp only[ev,h.i i hb]
 | bvar i=>intro hb;simp only[E.upto,aas]at hb;simp only[ev,h.b i hb]
 | svar i=>intro hb;simp only[E.upto,aas]at hb;simp only[ev,h.s i hb]
 | vint i=>intro hb;simp only[E.upto,aas]at hb;simp only[ev,h.v i hb]
 | lit _=>intro _;rfl
 | slit _=>intro _;rfl
 | tt=>intro _;rfl
 | ff=>intro _;rfl
 | wrap k a ih=>intro hb;simp only[E.upto]at hb;simp only[ev,ih hb]
 | not a ih=>intro hb;simp only[E.upto]at hb;simp only[ev,ih hb]
 | sbyte a ih=>intro hb;simp only[E.upto]at hb;simp only[ev,ih hb]
 | slen a ih=>intro hb;simp only[E.upto]at hb;simp only[ev,ih hb]
 | ite c a b o g m=>intro hb;simp only[E.upto,aaM]at hb;simp only[ev,o hb.1.1,g hb.1.2,m hb.2]
 | sext c a b o g m=>intro hb;simp only[E.upto,aaM]at hb;simp only[ev,o hb.1.1,g hb.1.2,m hb.2]
 | hI k x y j d f=>intro hb;simp only[E.upto,aaM,aas]at hb;simp only[ev,d hb.1.2,f hb.2,h.h k hb.1.1]
 | hB k x y j d f=>intro hb;simp only[E.upto,aaM,aas]at hb;simp only[ev,d hb.1.2,f hb.2,h.h k hb.1.1]
 | hS k x y j d f=>intro hb;simp only[E.upto,aaM,aas]at hb;simp only[ev,d hb.1.2,f hb.2,h.h k hb.1.1]
 | hP k x y j q d f=>intro hb;simp only[E.upto,aaM,aas]at hb;simp only[ev,d hb.1.2,f hb.2,h.h k hb.1.1]
 | his k x y j q d f=>intro hb;simp only[E.upto,aaM,aas]at hb;simp only[ev,d hb.1.2,f hb.2,h.h k hb.1.1]
 | hism k x d=>intro hb;simp only[E.upto,aaM,aas]at hb;simp only[ev,d hb.2,h.h k hb.1]
 | hmlen k x d=>intro hb;simp only[E.upto,aaM,aas]at hb;simp only[ev,d hb.2,h.h k hb.1]
 | hks k x y ks d f=>intro hb;simp only[E.upto,aaM,aas]at hb;simp only[ev,d hb.1.2,f hb.2,h.h k hb.1.1]
 | hby k x y l d f p=>intro hb;simp only[E.upto,aaM,aas]at hb;simp only[ev,d hb.1.1.2,f hb.1.2,p hb.2,h.h k hb.1.1.1]
 | sof k x y l d f p=>intro hb;simp only[E.upto,aaM,aas]at hb;simp only[ev,d hb.1.1.2,f hb.1.2,p hb.2,h.h k hb.1.1.1]
 | _=>rename_i g m;intro hb;simp only[E.upto,aaM]at hb;simp only[ev,g hb.1,m hb.2]
def bz {n:Nat} {J J':Env} (h:ai n J J') (hb:e.upto n=true):aw J' e=aw J e:=by unfold aw;rw[Aq h e hb]
def mf {n:Nat} {J J':Env} (h:ai n J J') (hb:e.upto n=true):aY J' e=aY J e:=by unfold aY;rw[Aq h e hb]
def xD {n:Nat} {J J':Env} (h:ai n J J') (hb:e.upto n=true):lC J' e=lC J e:=by unfold lC;rw[Aq h e hb]
def CV.upto (n:Nat):CV->Bool
 | .int _ e | .bool e | .str e | .map e=>e.upto n
 | .pti a _ _ _ i=>decide (a<n)&&i.upto n
 | .hptr x y=>x.upto n&&y.upto n
 | .sl x y l c=>x.upto n&&y.upto n&&l.upto n&&c.upto n
 | .vr j=>decide (j<n)
 | .hv h x y _=>decide (h<n)&&x.upto n&&y.upto n
 | .val _=>true
 | .clo _ x=>x.upto n
 | .clo2 _ x y=>x.upto n&&y.upto n
def SV.upto (n:Nat):SV->Bool
 | .one c=>c.upto n
 | .agg l=>l.all (·.upto n)
def TV.upto (n:Nat):TV->Bool
 | .sv s=>s.upto n
 | .tup l=>l.all (·.upto n)
def CV.bF {J J':Env} {m:Nat} (h:ai m J J') (c:CV) (hb:c.upto m=true):c.ev J'=c.ev J:=by
 cases c<;>simp only[CV.upto,aaM,aas]at hb<;>simp only[CV.ev]
 .rw[bz h hb]
 .rw[mf h hb]
 .rw[xD h hb]
 .rw[h.i _ hb.1,bz h hb.2]
 .rw[bz h hb.1,bz h hb.2]
 .rw[bz h hb.1.1.1,bz h hb.1.1.2,bz h hb.1.2,bz h hb.2]
 .rw[bz h hb]
 .rw[h.v _ hb]
 .rw[bz h hb.1.2,bz h hb.2,h.h _ hb.1.1]
 .rw[bz h hb]
 .rw[bz h hb.1,bz h hb.2]
def CV.gN {J J':Env} {m:Nat} (h:ai m J J') (l:List CV) (hb:l.all (·.upto m)=true):l.map (CV.ev J')=l.map (CV.ev J):=by
 rw[acd]at hb;exact acL fun c a=>CV.bF h c (hb c a)
def SV.bF {J J':Env} {m:Nat} (h:ai m J J') (s:SV) (hb:s.upto m=true):s.ev J'=s.ev J:=by
 cases s with
 | one c=>exact CV.bF h c hb
 | agg l=>simp only[SV.ev,CV.gN h l hb]
def TV.bF {J J':Env} {m:Nat} (h:ai m J J') (s:TV) (hb:s.upto m=true):s.ev J'=s.ev J:=by
 cases s with
 | sv c=>exact SV.bF h c hb
 | tup l =>
  simp only[TV.upto,acd]at hb;simp only[TV.ev,acL fun c a=>SV.bF h c (hb c a)]
def Path.bF {J J':Env} {m:Nat} {path:List E} (h:ai m J J') (hp:Path J path) (hb:path.all (·.upto m)=true):Path J' path:=by
 rw[acd]at hb;intro e he;rw[mf h (hb e he)];exact hp e he
inductive bo where
 | bc (a:Nat) (l:List CV) (T:TypeId)
 | hp (k:Nat) (vers:List Nat) (tags links:List E)
 | ro (k:Nat) (tags:List E) (any:Bool)
 | dead
variable {r r':bo}
def bo.own:bo->Bool
 | .ro _ _ _=>false
 | _=>true
def bo.hl (J:Env):bo->Hl
 | .bc a l T=>Hl.one (J.i a).toNat (.cells (l.map (CV.ev J)).toArray T (0,0))
 | .hp k _ _ _=>J.h k
 | .ro k _ _=>J.h k
 | .dead=>Hl.none
def bo.pos (J:Env):bo->Prop
 | .bc a _ _=>0<=J.i a
 | _=>True
def bo.same (J J':Env) (r:bo):Prop:=r.hl J'=r.hl J/\(r.pos J->r.pos J')
abbrev Mem:=List bo
structure St where
 tmps:List (Option TV)
 mem:Mem
 nv:Nat
 path:List E
structure gX (S:Nat->Prop) (w0 w:World):Prop where
 os:w.os=w0.os
 tape:w.tape=w0.tape
 output:w.output=w0.output
 size:w0.heap.size<=w.heap.size
 block:∀ k,k<w0.heap.size->¬S k->w.heap[k]?=w0.heap[k]?
def gX.refl (S:Nat->Prop) (w:World):gX S w w:=⟨rfl,rfl,rfl,ab8 _,fun _ _ _=>rfl⟩
structure MRel (S:Nat->Prop) (w0:World) (J:Env) (mem:Mem) (w:World):Prop where
 cJ:gX S w0 w
 sub:∀ r∈mem,(r.hl J).sub w
 own:∀ r∈mem,r.own=true->∀ b,(r.hl J).mem b->S b\/w0.heap.size<=b
 bq:∀ (p q:Nat) r s,p≠q->mem[p]?=some r->mem[q]?=some s->r.own=true->(r.hl J).bq (s.hl J)
 pos:∀ r∈mem,r.pos J
structure Rel (S:Nat->Prop) (w0:World) (J:Env) (st:St) (a:Act) (w:World):Prop extends MRel S w0 J st.mem w where
 size:a.tmps.size=st.tmps.length
 defers:a.defers=[]
 tmp:∀ (t:Nat) (v:TV),st.tmps[t]?=some (some v)->a.tmps[t]?=some (v.ev J)
 path:Path J st.path
def Hl.sub_lt {w:World} (hs:h.sub w) {b:Nat} (hb:h.mem b):b<w.heap.size:=by
 unfold Hl.mem at hb;obtain⟨o,ho⟩:=acH.1 hb;exact(acq.1 (hs b o ho)).1
def bo.upto (n:Nat):bo->Bool
 | .bc a l _=>decide (a<n)&&l.all (·.upto n)
 | .hp k vers tags links=>decide (k<n)
 | .ro k tags _=>decide (k<n)
 | .dead=>true
def Q5 (f:α->Bool):Option α->Bool
 | some x=>f x
 | none=>true
def Mem.upto (n:Nat) (m:Mem):Bool:=m.all (bo.upto n)
def St.upto (n:Nat) (st:St):Bool:=st.tmps.all (Q5 (·.upto n))&&Mem.upto n st.mem&&st.path.all (·.upto n)
def bo.bF {J J':Env} {m:Nat} (h:ai m J J') (r:bo) (hb:r.upto m=true):r.hl J'=r.hl J:=by
 cases r<;>simp only[bo.upto,aaM,aas]at hb<;>simp only[bo.hl]
 .rw[h.i _ hb.1,CV.gN h _ hb.2]
 .rw[h.h _ hb]
 .rw[h.h _ hb]
theorem bo.MF {J J':Env} {m:Nat} (h:ai m J J') (r:bo) (hb:r.upto m=true):r.pos J->r.pos J':=by
 cases r<;>simp only[bo.upto,aaM,aas]at hb<;>simp only[bo.pos]
 .rw[h.i _ hb.1];exact id
 all_goals grind
def Mem.bF {J J':Env} {m:Nat} (h:ai m J J') {mem:Mem} (hb:Mem.upto m mem=true):∀ r∈mem,r.same J J':=by
 unfold Mem.upto at hb;rw[acd]at hb;exact fun r hr=>⟨bo.bF h r (hb r hr),bo.MF h r (hb r hr)⟩
section
variable {S:Nat->Prop} {w0:World} {J J':Env} {st:St} {a:Act} {w w':World} {mem mem':Mem}
theorem MRel.pE (h:MRel S w0 J mem w) (U:Nat->Prop) (d:Nat->Prop)
 (hU:∀ b,U b->∃ r∈mem,r.own=true/\(r.hl J).mem b)
 (ho:w'.os=w.os) (m:w'.tape=w.tape) (e:w'.output=w.output) (hs:w.heap.size<=w'.heap.size)
 (hb:∀ b,b<w.heap.size->¬U b->w'.heap[b]?=w.heap[b]?)
 (c1:∀ (p:Nat) r,mem'[p]?=some r->¬d p->mem[p]?=some r/\r.same J J'/\∀ b,(r.hl J).mem b->¬U b)
 (c2:∀ (p:Nat) r,mem'[p]?=some r->d p->((r.hl J').sub w'/\r.pos J')/\∀ b,(r.hl J').mem b->U b\/w.heap.size<=b)
 (c3:∀ (p q:Nat) r s,p≠q->d p->d q->mem'[p]?=some r->mem'[q]?=some s->r.own=true->(r.hl J').bq (s.hl J')):MRel S w0 J' mem' w':=by
 have i:∀ b,U b->S b\/w0.heap.size<=b:=fun b hb=>by
  obtain⟨r,hr,ho,hm⟩:=hU b hb;exact h.own r hr ho b hm
 refine⟨⟨ho.trans h.cJ.os,m.trans h.cJ.tape,e.trans h.cJ.output,acA h.cJ.size hs,fun k hk hS=>?_⟩,?_,?_,?_,?_⟩
 .rw[hb k (afi hk h.cJ.size) (fun hu=>(i k hu).elim hS (fun h=>ah))];exact h.cJ.block k hk hS
 .intro r hr;obtain⟨p,hp⟩:=acG hr;by_cases hn:d p
  .grind
  .obtain⟨e1,⟨a,_⟩,f⟩:=c1 p r hp hn;rw[a];intro b o g;have hm:(r.hl J).mem b:=by unfold Hl.mem;rw[g];rfl
   have hs:=h.sub r (aah e1);rw[hb b (Hl.sub_lt hs hm) (f b hm)];exact hs b o g
 .intro r hr c b hm;obtain⟨p,hp⟩:=acG hr;by_cases hn:d p
  .rcases(c2 p r hp hn).2 b hm with hu | hl
   .grind
   .right;have:=h.cJ.size;omega
  .obtain⟨e1,⟨a,_⟩,f⟩:=c1 p r hp hn;rw[a]at hm;exact h.own r (aah e1) c b hm
 .intro p q r s j hp l c;by_cases hn:d p<;>by_cases hm:d q
  .grind
  .obtain⟨e1,⟨a,_⟩,f⟩:=c1 q s l hm;obtain⟨f1,f2⟩:=c2 p r hp hn;rintro b ⟨x,y⟩;rw[a]at y;rcases f2 b x with hu | hl
   .grind
   .have:=Hl.sub_lt (h.sub s (aah e1)) y;omega
  .obtain⟨e1,⟨a,_⟩,f⟩:=c1 p r hp hn;obtain⟨f1,f2⟩:=c2 q s l hm;rintro b ⟨x,y⟩;rw[a]at x;rcases f2 b y with hu | hl
   .grind
   .have:=Hl.sub_lt (h.sub r (aah e1)) x;omega
  .obtain⟨e1,⟨a,_⟩,f⟩:=c1 p r hp hn;obtain⟨f1,⟨f2,_⟩,f3⟩:=c1 q s l hm;rw[a,f2];exact h.bq p q r s j e1 f1 c
 .intro r hr;obtain⟨p,hp⟩:=acG hr;by_cases hn:d p
  .grind
  .obtain⟨e1,⟨_,a⟩,_⟩:=c1 p r hp hn;exact a (h.pos r (aah e1))
theorem MRel.set (h:MRel S w0 J mem w) (hp:mem[p]?=some r) (hr:r.own=true)
 (ho:w'.os=w.os) (g:w'.tape=w.tape) (a:w'.output=w.output) (hs:w.heap.size<=w'.heap.size)
 (hb:∀ b,b<w.heap.size->¬(r.hl J).mem b->w'.heap[b]?=w.heap[b]?)
 (hag:∀ s∈mem,s.same J J')
 (hsub:(r'.hl J').sub w') (d:r'.pos J') (f:∀ b,(r'.hl J').mem b->(r.hl J).mem b\/w.heap.size<=b):MRel S w0 J' (mem.set p r') w':=by
 have i:p<mem.length:=(aaG.1 hp).1;refine h.pE (fun b=>(r.hl J).mem b) (fun q=>q=p) (fun b hb=>⟨r,aah hp,hr,hb⟩) ho g a hs hb ?_ ?_ ?_
 .intro q s c hn;rw[adx (fun e=>hn e.symm)]at c;exact⟨c,hag s (aah c),fun b hb hu=>h.bq p q r s (fun e=>hn e.symm) hp c hr b ⟨hu,hb⟩⟩
 .grind
 grind
theorem MRel.add (h:MRel S w0 J mem w) 
 (ho:w'.os=w.os) (e:w'.tape=w.tape) (a:w'.output=w.output) (hs:w.heap.size<=w'.heap.size)
 (hb:∀ b,b<w.heap.size->w'.heap[b]?=w.heap[b]?)
 (hag:∀ s∈mem,s.same J J')
 (hsub:(r'.hl J').sub w') (c:r'.pos J') (d:∀ b,(r'.hl J').mem b->w.heap.size<=b):MRel S w0 J' (mem++[r']) w':=by
 refine h.pE (fun b=>False) (fun q=>q=mem.length) (fun b hb=>hb.elim) ho e a hs (fun b hl _=>hb b hl) ?_ ?_ ?_
 .grind
 .grind
 grind
def MRel.bF (h:MRel S w0 J mem w) (hag:∀ s∈mem,s.same J J'):MRel S w0 J' mem w :=
 h.pE (fun _=>False) (fun _=>False) (fun _ h=>h.elim) rfl rfl rfl (ab8 _) (fun _ _ _=>rfl) (fun p r hp _=>⟨hp,hag r (aah hp),fun _ _=>id⟩) (fun _ _ _ h=>h.elim) (fun _ _ _ _ _ h=>h.elim)
def MRel.below (h:MRel S w0 J mem w) (hb:RowKit.Below w.heap.size w w'):MRel S w0 J mem w' :=
 h.pE (fun _=>False) (fun _=>False) (fun _ h=>h.elim) hb.os hb.tape hb.output hb.size (fun b hl _=>hb.block b hl) (fun p r hp _=>⟨hp,⟨rfl,id⟩,fun _ _=>id⟩) (fun _ _ _ h=>h.elim) (fun _ _ _ _ _ h=>h.elim)
def MRel.sublist (h:MRel S w0 J mem w) (hm:∀ (p:Nat) r,mem'[p]?=some r->mem[p]?=some r\/r=.dead):MRel S w0 J mem' w:=by
 refine h.pE (fun _=>False) (fun p=>mem'[p]?=some .dead) (fun _ h=>h.elim) rfl rfl rfl (ab8 _) (fun _ _ _=>rfl) (fun p r hp hn=>⟨(hm p r hp).resolve_right (fun e=>hn (by rw[hp,e])),⟨rfl,id⟩,fun _ _=>id⟩) ?_ ?_
 .intro p r hp hn;rw[hp]at hn;cases hn;exact⟨⟨(fun b o hb=>by cases hb),trivial⟩,(fun b hb=>by cases hb)⟩
 .intro p q r s _ hn _ hp _ _;rw[hp]at hn;cases hn;rintro b ⟨x,_⟩;cases x
def Rel.bF {m:Nat} (h:ai m J J') (hb:st.upto m=true) (hr:Rel S w0 J st a w):Rel S w0 J' st a w:=by
 simp only[St.upto,aaM]at hb;refine⟨hr.toMRel.bF (Mem.bF h hb.1.2),hr.size,hr.defers,fun t s hs=>?_,hr.path.bF h hb.2⟩;have:=hb.1.1;rw[acd]at this;have:=this _ (aah hs);simp only[Q5]at this;rw[TV.bF h s this];exact hr.tmp t s hs
def Rel.qo {m:Nat} (h:ai m J J') (hb:st.upto m=true) (hr:Rel S w0 J st a w) {mem:Mem} (hm:MRel S w0 J' mem w') (nv:Nat):Rel S w0 J' {st with mem:=mem,nv:=nv} a w':=by
 have:=hr.bF h hb;exact⟨hm,this.size,this.defers,this.tmp,this.path⟩
def cA (st:St):Operand->Option TV
 | .tmp t=>match st.tmps[t]? with
  | some (some s)=>some s
  | _=>none
 | .const v=>some (lift v)
 | .func f=>some (.sv (.one (.val (.func (.func f) #[] #[]))))
 | .global g=>some (.sv (.one (.hptr (.lit g) (.lit 0))))
def aH (h:Rel S w0 J st a w) {x:Operand} {v:TV} (ho:cA st x=some v):a.eval x=v.ev J:=by
 cases x with
 | tmp t =>
  simp only[cA]at ho;split at ho
  .rename_i s hs;have:=h.tmp t s hs;simp only[aa3]at ho;subst ho;simp [Act.eval,this]
  .cases ho
 | const v'=>simp only[cA,aa3]at ho;rw[<-ho,Ls];rfl
 | func f=>simp only[cA,aa3]at ho;rw[<-ho];rfl
 | global g=>simp only[cA,aa3]at ho;rw[<-ho];rfl
def St.put (st:St) (d:Option Tmp) (v:Option TV):St :=
 match d with
 | some d=>{st with tmps:=st.tmps.set d v}
 | none=>st
def St.ic (st:St) (d:Option Tmp) (v:Option TV):(st.put d v).mem=st.mem:=by cases d<;>rfl
def St.EL (st:St) (d:Option Tmp) (v:Option TV):(st.put d v).nv=st.nv:=by cases d<;>rfl
def St.BI (st:St) (d:Option Tmp) (v:Option TV):(st.put d v).path=st.path:=by cases d<;>rfl
theorem Rel.put (h:Rel S w0 J st a w) (d:Option Tmp) (v:Option TV) (x:Value) (hx:∀ y,v=some y->x=y.ev J):Rel S w0 J (st.put d v) (a.put d x) w:=by
 cases d with
 | none=>exact h
 | some d =>
  refine⟨h.toMRel,?_,h.defers,?_,h.path⟩
  .simp [Act.put,St.put,h.size]
  .intro t s hs;simp only[St.put]at hs;simp only[Act.put];by_cases he:d=t
   .subst he;by_cases b:d<st.tmps.length
    .rw[aen b]at hs;simp only[aa3]at hs;rw[Array.getElem?_setIfInBounds_self_of_lt (by rw[h.size];exact b),hx s hs]
    grind
   .rw[adx he]at hs;rw[afo he];exact h.tmp t s hs
def BE (a:Nat):Mem->Nat->Option (Nat×List CV×TypeId)
 | [],_=>none
 | .bc b l T::m,p=>if b=a then some (p,l,T)else BE a m (p+1)
 | _::m,p=>BE a m (p+1)
theorem jD {a:Nat} : ∀ {mem:Mem} {p q:Nat} {l:List CV} {T:TypeId},BE a mem p=some (q,l,T)->p<=q/\mem[q-p]?=some (.bc a l T)
 | [],_,_,_,_,h=>by cases h
 | .bc b l' d::m,p,q,l,T,h=>by
  unfold BE at h;split at h
  .grind
  .obtain⟨h1,c⟩:=jD h
   grind
 | .hp _ _ _ _::m,p,q,l,T,h=>by
  obtain⟨h1,c⟩:=jD (mem:=m) (p:=p+1) h
  grind
 | .ro _ _ _::m,p,q,l,T,h=>by
  obtain⟨h1,c⟩:=jD (mem:=m) (p:=p+1) h
  grind
 | .dead::m,p,q,l,T,h=>by
  obtain⟨h1,c⟩:=jD (mem:=m) (p:=p+1) h
  grind
def vv (mem:Mem) (a:Nat):Option (Nat×List CV×TypeId):=BE a mem 0
theorem gk {a:Nat} {l:List CV} (h:vv mem a=some (p,l,T)):mem[p]?=some (.bc a l T):=by
 have:=(jD h).2;grind
def bo.has (x:E):bo->Bool
 | .hp k vers tags _=>tags.contains x||(match x with | .hP h _ _ _ _=>h==k||vers.contains h | _=>false)
 | .ro k tags _=>tags.contains x||(match x with | .hP h _ _ _ _=>h==k | _=>false)
 | _=>false
def Hf (x:E):Mem->Nat->Option (Nat×bo)
 | [],_=>none
 | r::m,p=>if r.has x then some (p,r)else Hf x m (p+1)
theorem yw {x:E} : ∀ {mem:Mem} {p q:Nat} {r:bo},Hf x mem p=some (q,r)->p<=q/\mem[q-p]?=some r
 | [],_,_,_,h=>by cases h
 | s::m,p,q,r,h=>by
  unfold Hf at h;split at h
  .grind
  .obtain⟨h1,a⟩:=yw h
   grind
def bo.hk:bo->Option Nat
 | .hp k _ _ _=>some k
 | .ro k _ _=>some k
 | _=>none
def bo.aaF (h:r.hk=some k):r.hl J=J.h k:=by cases r<;>simp [bo.hk]at h<;>simp [bo.hl,h]
def bo.ac7:bo->Bool
 | .ro _ _ any=>any
 | _=>false
def rF:Mem->Nat->Option (Nat×bo)
 | [],_=>none
 | r::m,p=>if r.ac7 then some (p,r)else rF m (p+1)
theorem lV:∀ {mem:Mem} {p q:Nat} {r:bo},rF mem p=some (q,r)->p<=q/\mem[q-p]?=some r
 | [],_,_,_,h=>by cases h
 | s::m,p,q,r,h=>by
  unfold rF at h;split at h
  .grind
  .obtain⟨h1,a⟩:=lV h
   grind
def Ed (mem:Mem) (x:E):Option (Nat×bo) :=
 match Hf x mem 0 with
 | some (p,.ro k tags false)=>if tags.contains x then some (p,.ro k tags false)else match rF mem 0 with
  | some q=>some q
  | none=>some (p,.ro k tags false)
 | some r=>some r
 | none=>rF mem 0
theorem ja {x:E} (h:Ed mem x=some (p,r)):mem[p]?=some r:=by
 have any:∀ {p r},rF mem 0=some (p,r)->mem[p]?=some r:=fun h=>by
  have:=(lV h).2;grind
 have hp:∀ {p r},Hf x mem 0=some (p,r)->mem[p]?=some r:=fun h=>by
  have:=(yw h).2;grind
 unfold Ed at h
 grind
def xA {P:Program} {d:TypeDesc} (hu:P.underlying t=some d) (w:World):(isAgg t).run P w=.ok (match d with | .struct _ | .array _ _=>true | _=>false) w:=by
 unfold isAgg;rw[Sem.run_bind,run_underlying hu w];cases d<;>rfl
def DN (P:Program) (t:TypeId):Option Bool :=
 match P.underlying t with
 | some (.struct _)=>some true
 | some (.array _ _)=>some true
 | some _=>some false
 | none=>none
def vc {P:Program} {b:Bool} (h:DN P t=some b) (w:World):(isAgg t).run P w=.ok b w:=by
 unfold DN at h;split at h
 .rename_i hu;cases h;exact xA hu w
 .rename_i hu;cases h;exact xA hu w
 .rename_i d hs a hu;cases h;rw[xA hu w];simp_all
 .cases h
def fj (P:Program) (t:TypeId):Option Nat:=(P.info? t).map (·.size)
theorem dq {P:Program} {n:Nat} (h:fj P t=some n) (w:World):(sizeOf t).run P w=.ok n w:=by
 unfold fj at h;cases hi:P.info? t with
 | none=>grind
 | some i=>simp [hi]at h;subst h;simp [sizeOf,typeInfo,hi]
def nc (P:Program) (t:TypeId):Option Value:=(P.info? t).bind (·.zero)
theorem mq {P:Program} {v:Value} (h:nc P t=some v) (w:World):(zeroValue t).run P w=.ok v w:=by
 unfold nc at h;cases hi:P.info? t with
 | none=>grind
 | some i=>simp [hi]at h;simp [zeroValue,typeInfo,hi,h]
def gJ (P:Program) (t:TypeId) (l:List CV) (o:Nat):Option SV :=
 match DN P t,fj P t with
 | some true,some n=>if o+n<=l.length then some (.agg ((l.drop o).take n))else none
 | some false,_=>(l[o]?).map .one
 | _,_=>none
theorem fg (b o n:Nat):(⟨b,o,none⟩:Addr).add n=⟨b,o+n,none⟩:=by unfold Addr.add;grind
theorem oa {P:Program} {b n:Nat} (a:DN P t=some true) (hs:fj P t=some n) (hl:cs.length=n)
 (h:∀ j v,cs[j]?=some v->w.cell? ⟨b,o+j,none⟩=some v):(loadVar t ⟨b,o,none⟩).run P w=.ok (.agg cs.toArray) w:=by
 unfold loadVar;simp only[Sem.run_bind,vc a,Result.andThen_ok,afm,dq hs];subst hl;rw[run_loadCells_list w ⟨b,o,none⟩ cs (fun j v hv=>by rw[fg];grind)];rfl
def qY {P:Program} {p:Addr} {v:Value} (a:DN P t=some false) (h:w.cell? p=some v):(loadVar t p).run P w=.ok v w:=by
 unfold loadVar;simp only[Sem.run_bind,vc a,Result.andThen_ok,acQ,afw];simp_all
theorem tN {P:Program} {l:List CV} {b:Nat} {v:SV} (h:gJ P t l o=some v)
 (hb:w.heap[b]?=some (.cells (l.map (CV.ev J)).toArray T fr)):(loadVar t ⟨b,o,none⟩).run P w=.ok (v.ev J) w:=by
 have c:∀ j,w.cell? ⟨b,j,none⟩=(l[j]?).map (CV.ev J):=fun j=>by simp [World.cell?,hb]
 unfold gJ at h;split at h
 .rename_i n a hs;split at h
  .rename_i hle;cases h;refine oa (cs:=((l.drop o).take n).map (CV.ev J)) a hs (by simp;omega) (fun j x hx=>?_)
   grind
  .cases h
 .rename_i a;simp only[aaH]at h;obtain⟨x,hx,rfl⟩:=h;exact qY a (by rw[c,hx];rfl)
 .cases h
def MRel.bc (h:MRel S w0 J mem w) {a:Nat} {l:List CV} (hp:mem[p]?=some (.bc a l T)):w.heap[(J.i a).toNat]?=some (.cells (l.map (CV.ev J)).toArray T (0,0)) :=
 h.sub _ (aah hp) _ _ (Hl.aK _ _)
end
abbrev TI (k:IntKind) (e:E):TV:=.sv (.one (.int k e))
abbrev TB (e:E):TV:=.sv (.one (.bool e))
abbrev TS (e:E):TV:=.sv (.one (.str e))
abbrev TP (x y:E):TV:=.sv (.one (.hptr x y))
def QU (k:IntKind):E->E->E
 | .lit a,.lit b=>.lit (k.wrap (a*2 ^ (min b.toNat k.bits)))
 | a,b=>.shl k a b
def Nk (J:Env) (k:IntKind) (a b:E):aw J (QU k a b)=k.wrap (aw J a*2 ^ (min (aw J b).toNat k.bits)):=by
 unfold QU;split<;>rfl
def QV (k:IntKind):E->E->E
 | .lit a,.lit b=>.lit (a.fdiv (2 ^ (min b.toNat k.bits)))
 | a,b=>.shr k a b
def Nl (J:Env) (k:IntKind) (a b:E):aw J (QV k a b)=(aw J a).fdiv (2 ^ (min (aw J b).toNat k.bits)):=by
 unfold QV;split<;>rfl
def QR:E->E->E
 | .lit a,.lit b=>.lit (a.tdiv b)
 | a,b=>.quo a b
def Nh (J:Env) (a b:E):aw J (QR a b)=(aw J a).tdiv (aw J b):=by unfold QR;split<;>rfl
def QS:E->E->E
 | .lit a,.lit b=>.lit (a.tmod b)
 | a,b=>.rem a b
def Ni (J:Env) (a b:E):aw J (QS a b)=(aw J a).tmod (aw J b):=by unfold QS;split<;>rfl
def WI (op:BinOp) (k c:IntKind) (a b:E):Option (E×TV) :=
 match op with
 | .shl=>some (mkLe (.lit 0) b,TI k (QU k a b))
 | .shr=>some (mkLe (.lit 0) b,TI k (QV k a b))
 | op=>if k=c then match op with
  | .add=>some (.tt,TI k (mkWrap k (mkAdd a b)))
  | .sub=>some (.tt,TI k (mkWrap k (mkSub a b)))
  | .mul=>some (.tt,TI k (mkWrap k (mkMul a b)))
  | .quo=>some (mkNot (mkEq b (.lit 0)),TI k (mkWrap k (QR a b)))
  | .rem=>some (mkNot (mkEq b (.lit 0)),TI k (QS a b))
  | .and=>some (.tt,TI k (.bits .and k a b))
  | .or=>some (.tt,TI k (.bits .or k a b))
  | .xor=>some (.tt,TI k (.bits .xor k a b))
  | .andNot=>some (.tt,TI k (.bits .andNot k a b))
  | .eql=>some (.tt,TB (mkEq a b))
  | .neq=>some (.tt,TB (mkNot (mkEq a b)))
  | .lss=>some (.tt,TB (mkLt a b))
  | .leq=>some (.tt,TB (mkLe a b))
  | .gtr=>some (.tt,TB (mkLt b a))
  | .geq=>some (.tt,TB (mkLe b a))
  | _=>none
 else none
section
variable {P:Program} {J:Env} {w:World}
def IQ {k c:IntKind} {a b n:E} {v:TV} (h:WI op k c a b=some (n,v)) (hn:aY J n=true) :
 (binOp op T (.int k (aw J a)) (.int c (aw J b))).run P w=.ok (v.ev J) w:=by
 unfold WI at h;split at h
 .cases h;rw[aX,aq,aas]at hn;have:¬aw J b<0:=ah;simp only[binOp,Op.shift,this,afw,TV.ev,SV.ev,CV.ev,Nk];rfl
 .cases h;rw[aX,aq,aas]at hn;have:¬aw J b<0:=ah;simp only[binOp,Op.shift,this,afw,TV.ev,SV.ev,CV.ev,Nl];rfl
 .split at h
  .rename_i hk;subst hk;split at h<;>first | (cases h;done) | skip
   all_goals cases h
   case h_4 =>
    rw[cU,fN,ad0,acM,aq]at hn;have hz:¬aw J b=0:=hn;simp only[binOp,ne_eq,afW,afw,Op.intDiv,aa8 hz,TV.ev,SV.ev,CV.ev,pP,Nh,Sem.run_pure]
   case h_5 =>
    rw[cU,fN,ad0,acM,aq]at hn;have hz:¬aw J b=0:=hn;simp only[binOp,ne_eq,afW,afw,Op.intDiv,aa8 hz,TV.ev,SV.ev,CV.ev,Ni,Sem.run_pure]
   all_goals
    simp only[binOp,ne_eq,afW,afw,Op.intArith,Op.intBits,Op.intCmp,TV.ev,SV.ev,CV.ev,pP,fc,oO,oN,AQ,fN,cU,jw,aX,ct]
    try rfl
    try (simp only[Sem.run_pure];congr 2;rw[afP];simp)
  .cases h
def B9 (x y:ByteArray):(x.toList==y.toList)=decide (x=y):=by
 rw[afP];simp only[af4,aas];refine⟨fun h=>?_,fun h=>by rw[h]⟩;rw[ByteArray.toList_eq,ByteArray.toList_eq]at h;cases x;simp_all
def WJ (op:BinOp) (a b:E):Option (E×TV) :=
 match op with
 | .add=>some (mkLe (mkAdd (yn a) (yn b)) (.lit 9223372036854775807),TS (Lx a b))
 | .eql=>some (.tt,TB (mkSeq a b))
 | .neq=>some (.tt,TB (mkNot (mkSeq a b)))
 | _=>none
def IS {a b n:E} {v:TV} (h:WJ op a b=some (n,v)) (hn:aY J n=true) :
 (binOp op T (.string (lC J a)) (.string (lC J b))).run P w=.ok (v.ev J) w:=by
 unfold WJ at h;split at h
 .cases h;rw[aX,fc,ml,ml,aq,aas]at hn;have:¬(((lC J a).size+(lC J b).size:Nat):Int)>IntKind.i64.max:=by simp only[IntKind.max,IntKind.signed,IntKind.bits];omega
  simp only[binOp,Op.stringOp,aa8 this,TV.ev,SV.ev,CV.ev,Dv,Sem.run_pure]
 .cases h;simp only[binOp,Op.stringOp,TV.ev,SV.ev,CV.ev,wY,Sem.run_pure,B9]
 .cases h;simp only[binOp,Op.stringOp,TV.ev,SV.ev,CV.ev,cU,wY,Sem.run_pure,B9]
 .cases h
def Ds (i:E):Nat->List SV->Option SV
 | _,[]=>none
 | _,[v]=>some v
 | j,v::l=>match Ds i (j+1) l with
  | some r=>zB (mkEq i (.lit j)) v r
  | none=>none
theorem BW {i:E} : ∀ (l:List SV) (j:Nat) (v:SV),Ds i j l=some v->(j:Int)<=aw J i->aw J i<j+l.length->∃ x,l[(aw J i).toNat-j]?=some x/\v.ev J=x.ev J
 | [],j,v,h,_,_=>by grind
 | [x],j,v,h,h1,a=>by
  simp only[Ds,aa3]at h;grind
 | x::y::l,j,v,h,h1,a=>by
  simp only[Ds]at h;split at h
  .rename_i r hr;have hm:=Bn (J:=J) h;rw[fN,aq]at hm;by_cases he:aw J i=(j:Int)
   .grind
   .simp only[acn]at a;obtain⟨z,hz,hv⟩:=BW (y::l) (j+1) r hr ah (by grind)
    grind
  .cases h
def SU (i:E) (n:Nat):E:=mkAnd (mkLe (.lit 0) i) (mkLt i (.lit n))
def jd {i:E} {n:Nat} (h:aY J (SU i n)=true):0<=aw J i/\aw J i<n:=by
 unfold SU at h;rw[aN,aaM,aX,jw,aas,aas]at h;exact h
def iN {α:Type} : List (Option α)->Option (List α)
 | []=>some []
 | some x::l=>(iN l).map (x::·)
 | none::_=>none
theorem np {α:Type} : ∀ {l:List (Option α)} {m:List α},iN l=some m->m.length=l.length/\∀ (j:Nat) x,m[j]?=some x->l[j]?=some (some x)
 | [],m,h=>by cases h;simp
 | some y::l,m,h=>by
  simp only[iN,aaH]at h;obtain⟨r,hr,rfl⟩:=h;obtain⟨h1,a⟩:=np hr
  grind
 | none::l,m,h=>by trivial
def kindOf:Value->Kd
 | .int k _=>.int k
 | .bool _=>.bool
 | .slice _ _ _=>.slice
 | .pointer _=>.ptr
 | .string _=>.str
 | .map _=>.map
 | _=>.any
def wx (h:Nat) (x y:E) (j:Nat):Kd->CV
 | .int k=>.int k (.hI h x y j)
 | .bool=>.bool (.hB h x y j)
 | .slice=>.sl (.hP h x y j 0) (.hP h x y j 1) (.hP h x y j 2) (.hP h x y j 3)
 | .ptr=>.hptr (.hP h x y j 0) (.hP h x y j 1)
 | .str=>.str (.hS h x y j)
 | .map=>.map (.hP h x y j 0)
 | .any=>.hv h x y j
def uK {h:Nat} {x y:E} {k:Kd} (hh:aY J (.his h x y j k)=true):(J.h h).cell (aw J x).toNat ((aw J y).toNat+j)=some ((wx h x y j k).ev J):=by
 rw[zh]at hh;cases d:(J.h h).cell (aw J x).toNat ((aw J y).toNat+j)with
 | none=>simp [d,bh]at hh
 | some v =>
  rw[d]at hh;cases k with
  | any=>simp [wx,CV.ev,d]
  | int k =>
   cases v<;>simp only[bh,acQ,aas]at hh
   subst hh;simp [wx,CV.ev,fi,d,bO]
  | bool =>
   cases v<;>simp only[bh,acQ]at hh
   simp [wx,CV.ev,WB,d,yX]
  | str =>
   cases v<;>simp only[bh,acQ]at hh
   simp [wx,CV.ev,YQ,d,SI]
  | map =>
   cases v<;>simp only[bh,acQ]at hh
   rename_i r;cases r<;>simp [wx,CV.ev,fC,d,bD]
  | slice =>
   cases v<;>simp only[bh,acQ]at hh
   rename_i a n c;cases a with
   | none=>simp [wx,CV.ev,fC,d,bD,au]
   | some a =>
    obtain⟨b,o,s⟩:=a;cases s with
    | none=>simp [wx,CV.ev,fC,d,bD,au]
    | some s =>
     simp only[wx,CV.ev,fC,d,bD,aac];unfold au;rw[aa8 ah,aa8 ah,aac,Ii,show(-(-(b:Int)-2)-2).toNat=b by omega]
  | ptr =>
   unfold bh at hh;split at hh<;>first | (cases hh;done) | skip
   all_goals simp_all
   .simp [wx,CV.ev,fC,d,bD,au]
   .simp [wx,CV.ev,fC,d,bD,au]
def aU (h:Nat) (x y:E):Nat->List Kd->List CV
 | _,[]=>[]
 | j,k::l=>wx h x y j k::aU h x y (j+1) l
def lW (h:Nat) (x y:E):Nat->List Kd->E
 | _,[]=>.tt
 | j,k::l=>mkAnd (.his h x y j k) (lW h x y (j+1) l)
theorem rP {h:Nat} {x y:E} : ∀ (ks:List Kd) (j:Nat),aY J (lW h x y j ks)=true->∀ (i:Nat) v,((aU h x y j ks).map (CV.ev J))[i]?=some v->(J.h h).cell (aw J x).toNat ((aw J y).toNat+(j+i))=some v
 | [],_,_,i,v,h=>by trivial
 | k::l,j,hn,i,v,h=>by
  simp only[lW,aN,aaM]at hn;cases i with
  | zero =>
   simp only[aU,abW,acF,aa3]at h;rw[<-h];exact uK hn.1
  | succ i =>
   simp only[aU,abW,afG]at h;have:=rP l (j+1) hn.2 i v h
   grind
def ly (h:Nat) (x y:E):∀ (ks:List Kd) (j:Nat),(aU h x y j ks).length=ks.length
 | [],_=>rfl
 | _::l,j=>by simp [aU,ly h x y l (j+1)]
theorem tS {h:Nat} {x y:E} : ∀ (ks:List Kd) (j:Nat),ks.all (fun k=>decide (k=.int .u8))=true->(∀ i,i<ks.length->bh ((J.h h).cell (aw J x).toNat ((aw J y).toNat+(j+i))) (.int .u8)=true)->aY J (lW h x y j ks)=true
 | [],_,_,_=>by trivial
 | k::l,j,a,hb=>by
  simp only[agC,aaM,aas]at a;obtain⟨rfl,a⟩:=a;simp only[lW,aN,aaM,zh];refine⟨by have:=hb 0 aC;grind,tS l (j+1) a fun i hi=>?_⟩;have:=hb (i+1) (by grind)
  grind
def BO (h:Nat) (x y:E) (ks:List Kd):E :=
 if decide (8<ks.length)&&ks.all (fun k=>decide (k=.int .u8))then .hby h x y (.lit ks.length)else if 8<ks.length then .hks h x y ks else lW h x y 0 ks
def yA {h:Nat} {x y:E} : ∀ (ks:List Kd) (j:Nat),wz (J.h h) (aw J x).toNat ((aw J y).toNat+j) ks=true->aY J (lW h x y j ks)=true
 | [],_,_=>by trivial
 | k::l,j,hr=>by
  simp only[wz,aaM]at hr;simp only[lW,aN,aaM,zh];exact⟨hr.1,yA l (j+1) hr.2⟩
theorem HE {h:Nat} {x y:E} {ks:List Kd} (hn:aY J (BO h x y ks)=true):aY J (lW h x y 0 ks)=true:=by
 unfold BO at hn;split at hn
 .rename_i a;simp only[aaM,aas]at a;rw[DT,aq,aac]at hn;unfold bx at hn;rw[acd]at hn;refine tS ks 0 a.2 fun i hi=>?_
  grind
 .split at hn
  .exact yA ks 0 hn
  .exact hn
def qW (mem:Mem) (x y:E):Option (Nat×Nat×List CV×TypeId×Nat) :=
 match x,y with
 | .var a,.lit o=>if 0<=o then(vv mem a).map fun r=>(a,r.1,r.2.1,r.2.2,o.toNat)else none
 | _,_=>none
theorem hJ {mem:Mem} {x y:E} {a:Nat} {l:List CV} (h:qW mem x y=some (a,p,l,T,o)):x=.var a/\y=.lit o/\mem[p]?=some (.bc a l T):=by
 unfold qW at h;split at h
 .rename_i a' o';split at h
  .rename_i ho;simp only[aaH,acx]at h;obtain⟨⟨q,l',c⟩,b,rfl,rfl,rfl,rfl,rfl⟩:=h;refine⟨rfl,by grind,gk b⟩
  .cases h
 .cases h
def GL (mem:Mem) (x:E):E :=
 match x with
 | .var a=>if(vv mem a).isSome then .tt else .le (.lit 0) x
 | x=>mkLe (.lit 0) x
def MRel.GL {S:Nat->Prop} {w0:World} {mem:Mem} (h:MRel S w0 J mem w) {x:E} (hx:aY J (GL mem x)=true):0<=aw J x:=by
 unfold Sx.GL at hx;split at hx
 .split at hx
  .rename_i a b;obtain⟨⟨p,l,T⟩,hp⟩:=acH.1 b;exact h.pos _ (aah (gk hp))
  .rw[mA,aq,aas]at hx;exact hx
 .rw[aX,aq,aas]at hx;exact hx
def Lt (P:Program) (mem:Mem) (t:TypeId):CV->Option (E×SV)
 | .pti a o s n i=>match vv mem a with
  | some (_,l,_)=>match iN ((List.range n).map fun j=>gJ P t l (o+s*j))with
   | some vs=>(Ds i 0 vs).map fun v=>(SU i n,v)
   | none=>none
  | _=>none
 | .hptr x y=>match qW mem x y with
  | some (_,_,l,_,o)=>(gJ P t l o).map fun v=>(.tt,v)
  | none=>match(Ed mem x).bind (fun r=>r.2.hk)with
   | some h=>match DN P t,nc P t,fj P t with
    | some true,some z,some n =>
     let ks:=z.cells.toList.map kindOf
     if ks.length=n then some (mkAnd (mkLe (.lit 0) x) (mkAnd (mkLe (.lit 0) y) (BO h x y ks)),.agg (aU h x y 0 ks))else none
    | some false,some z,_=>some (mkAnd (mkLe (.lit 0) x) (mkAnd (mkLe (.lit 0) y) (.his h x y 0 (kindOf z))),.one (wx h x y 0 (kindOf z)))
    | _,_,_=>none
   | none=>none
 | _=>none
variable {S:Nat->Prop} {w0:World} {mem:Mem}
theorem Aw (h:MRel S w0 J mem w) {x:E} (hf:(Ed mem x).bind (fun r=>r.2.hk)=some k):(J.h k).sub w:=by
 cases hh:Ed mem x with
 | none=>grind
 | some r =>
  simp only[hh,afI]at hf;have:=h.sub r.2 (aah (ja (p:=r.1) (r:=r.2) hh));rwa[bo.aaF hf]at this
theorem yl (h:MRel S w0 J mem w) {c:CV} {n:E} {v:SV} (hl:Lt P mem t c=some (n,v)) (hn:aY J n=true) :
 ∃ p,c.ev J=.pointer (some p)/\(loadVar t p).run P w=.ok (v.ev J) w:=by
 unfold Lt at hl;split at hl
 .rename_i b o s m i;split at hl
  .rename_i p l T hb;split at hl
   .rename_i vs r;simp only[aaH,acx]at hl;obtain⟨v',hv,rfl,rfl⟩:=hl;obtain⟨h1,D⟩:=jd hn;obtain⟨hlen,g⟩:=np r;simp only[aca,afh]at hlen;obtain⟨x,hx,A⟩:=BW vs 0 v' hv ah ah;have f:=g _ _ hx;rw[agI,abl,acf ah]at f;simp only[acr,aa3]at f;have hk:=gk hb;have d:0<=J.i b:=h.pos _ (aah hk);refine⟨_,by simp only[CV.ev];rw[av d],?_⟩;have e:((o:Int)+(s:Int)*aw J i).toNat=o+s*(aw J i).toNat:=by
     obtain⟨q,F⟩:=afj h1
     grind
    rw[e,A];exact tN f (h.bc hk)
   .cases hl
  .cases hl
 .rename_i x y;split at hl
  .rename_i a p l T o B;obtain⟨rfl,rfl,hk⟩:=hJ B;simp only[aaH,acx]at hl;obtain⟨v',hv,rfl,rfl⟩:=hl;have d:0<=J.i a:=h.pos _ (aah hk);exact⟨_,by simp only[CV.ev,ar,aq];rw[av d,aac],tN hv (h.bc hk)⟩
  .split at hl
   .rename_i k hk;have hsub:=Aw h hk;split at hl
    .rename_i z m C hz hs;simp only at hl;split at hl
     .rename_i hm;cases hl;rw[aN,aaM,aN,aaM,aX,aX,aq,aas,aas]at hn;obtain⟨hx,hy,hn⟩:=hn;replace hn:=HE hn;refine⟨_,by simp only[CV.ev];rw[av hx],?_⟩;refine oa (cs:=(aU k x y 0 (z.cells.toList.map kindOf)).map (CV.ev J)) C hs (by simp only[aca,ly];grind) (fun j u hu=>?_);have:=rP _ 0 hn j u hu;rw[aco]at this;exact Hl.gW hsub this
     .cases hl
    .rename_i z _ C hz;cases hl;rw[aN,aaM,aN,aaM,aX,aX,aq,aas,aas]at hn;obtain⟨hx,hy,hn⟩:=hn;have:=uK hn;refine⟨_,by simp only[CV.ev];rw[av hx],qY C ?_⟩;exact Hl.gW hsub this
    .cases hl
   .cases hl
 .cases hl
end
abbrev RT:=Option (E×TV)
def unE:UnOp->TV->RT
 | .not,.sv (.one (.bool e))=>some (.tt,TB (mkNot e))
 | .neg,.sv (.one (.int k e))=>some (.tt,TI k (mkWrap k (mkSub (.lit 0) e)))
 | .xor,.sv (.one (.int k e))=>some (.tt,TI k (.bits .xor k (.lit (if k.signed then -1 else k.max)) e))
 | _,_=>none
def strOf:List CV->Option E
 | []=>some (.slit .empty)
 | .int .u8 e::l=>(strOf l).map fun s=>Lx (.sbyte e) s
 | _=>none
def Nm (P:Program) (el:TypeId):Bool:=match P.underlying el with | some (.int .u8)=>true | _=>false
def PF (P:Program) (mem:Mem) (src dst:TypeId) (x:TV):RT :=
 match P.underlying src,P.underlying dst,x with
 | some _,some (.int k),.sv (.one (.int _ e))=>some (.tt,TI k (mkWrap k e))
 | some .string,some .string,.sv (.one (.str e))=>some (.tt,TS e)
 | some (.slice el),some .string,.sv (.one (.sl x y l c)) =>
  if Nm P el then
   if x=.lit (-1)then some (.tt,TS (.slit .empty))else
   match qW mem x y,l with
   | some (_,_,cs,_,o),.lit n=>if o+n.toNat<=cs.length then(strOf ((cs.drop o).take n.toNat)).map fun s=>(.tt,TS s)else none
   | _,_=>match(Ed mem x).bind (fun r=>r.2.hk)with
    | some h=>some (mkOr (mkEq x (.lit (-1))) (mkOr (mkEq l (.lit 0)) (mkAnd (mkLe (.lit 0) x) (mkAnd (mkLe (.lit 0) y) (.hby h x y l)))),TS (mkIte (mkEq x (.lit (-1))) (.slit .empty) (.sof h x y l)))
    | none=>none
  else none
 | _,_,_=>none
def uj (P:Program) (mem:Mem) (s:TypeId) (f:Nat) (x:TV):RT :=
 match P.underlying s with
 | some (.struct fs)=>match fs[f]? with
  | some fl=>match fj P fl.type with
   | some (_+1)=>match x with
    | .sv (.one (.hptr x y))=>some (mkAnd (GL mem x) (mkLe (.lit 0) y),TP x (mkAdd y (.lit fl.offset)))
    | .sv (.one (.pti a o s n i))=>if(vv mem a).isSome then some (SU i n,.sv (.one (.pti a (o+fl.offset) s n i)))else none
    | _=>none
   | _=>none
  | none=>none
 | _=>none
def uz (P:Program) (mem:Mem) (t:TypeId) (x i:TV):RT :=
 match i with
 | .sv (.one (.int _ e))=>match P.underlying t with
  | some (.array len el)=>match fj P el,x with
   | some n,.sv (.one (.pti a o s m k))=>match e with
    | .lit j=>if 0<=j/\j<len/\(vv mem a).isSome then some (SU k m,.sv (.one (.pti a (o+j.toNat*n) s m k)))else none
    | _=>none
   | some n,.sv (.one (.hptr x y))=>match e,qW mem x y with
    | .lit j,_=>if 0<=j/\j<len then some (mkAnd (GL mem x) (mkLe (.lit 0) y),TP x (mkAdd y (.lit (j.toNat*n))))else none
    | e,some (a,_,_,_,o)=>some (SU e len,.sv (.one (.pti a o n len e)))
    | e,none=>some (mkAnd (GL mem x) (mkAnd (mkLe (.lit 0) y) (SU e len)),TP x (mkAdd y (mkMul e (.lit n))))
   | _,_=>none
  | some (.slice el)=>match fj P el,x with
   | some n,.sv (.one (.sl x y l _))=>match e,qW mem x y,l with
    | .lit j,_,_=>some (mkAnd (GL mem x) (mkAnd (mkLe (.lit 0) y) (mkAnd (mkLe (.lit 0) (.lit j)) (mkLt (.lit j) l))),TP x (mkAdd y (mkMul (.lit j) (.lit n))))
    | e,some (a,_,_,_,o),.lit q=>some (mkAnd (SU e q.toNat) (mkLe (.lit 0) (.lit q)),.sv (.one (.pti a o n q.toNat e)))
    | e,_,l=>some (mkAnd (GL mem x) (mkAnd (mkLe (.lit 0) y) (mkAnd (mkLe (.lit 0) e) (mkLt e l))),TP x (mkAdd y (mkMul e (.lit n))))
   | _,_=>none
  | _=>none
 | _=>none
def I6 (P:Program) (t:TypeId) (f:Nat) (x:TV):RT :=
 match P.underlying t,x with
 | some (.struct fs),.sv (.agg l)=>match fs[f]? with
  | some fl=>(gJ P fl.type l fl.offset).map fun v=>(.tt,.sv v)
  | none=>none
 | _,_=>none
def Jg (P:Program) (t:TypeId) (x i:TV):RT :=
 match P.underlying t,x,i with
 | some (.array len el),.sv (.agg l),.sv (.one (.int _ e))=>match fj P el with
  | some n=>match e with
   | .lit j=>if 0<=j/\j<len then(gJ P el l (j.toNat*n)).map fun v=>(.tt,.sv v)else none
   | e=>match iN ((List.range len).map fun j=>gJ P el l (j*n))with
    | some vs=>(Ds e 0 vs).map fun v=>(SU e len,.sv v)
    | none=>none
  | none=>none
 | some .string,.sv (.one (.str s)),.sv (.one (.int _ e))=>some (mkAnd (mkLe (.lit 0) e) (mkLt e (yn s)),TI .u8 (QT s e))
 | _,_,_=>none
def At (i:Nat):TV->RT
 | .tup l=>(l[i]?).map fun v=>(.tt,.sv v)
 | _=>none
def XM (P:Program) (mem:Mem) (t:TypeId) (x:TV):RT :=
 match P.underlying t,x with
 | some (.array n _),_=>some (.tt,TI .i64 (.lit n))
 | some (.slice _),.sv (.one (.sl _ _ l _))=>some (mkLe (.lit 0) l,TI .i64 l)
 | some .string,.sv (.one (.str e))=>some (.tt,TI .i64 (yn e))
 | some (.map _ _),.sv (.one (.map x))=>match(Ed mem x).bind (fun r=>r.2.hk)with
  | some h=>some (mkAnd (mkLe (.lit 0) x) (mkAnd (mkLe (.lit 0) x) (.hism h x)),TI .i64 (.hmlen h x))
  | none=>none
 | _,_=>none
def XV:TV->TV->Option TV
 | .sv (.one (.int k x)),.sv (.one (.int _ y))=>some (TI k (mkIte (mkLt y x) y x))
 | _,_=>none
def XU:TV->TV->Option TV
 | .sv (.one (.int k x)),.sv (.one (.int _ y))=>some (TI k (mkIte (mkLt x y) y x))
 | _,_=>none
def Gg (f:TV->TV->Option TV):List TV->TV->Option TV
 | [],x=>some x
 | y::l,x=>match f x y with
  | some z=>Gg f l z
  | none=>none
def wc (st:St):List Operand->Option (List TV)
 | []=>some []
 | x::l=>match cA st x,wc st l with
  | some v,some vs=>some (v::vs)
  | _,_=>none
def Aa (P:Program) (mem:Mem) (b:Builtin) (ats:Array TypeId) (vs:List TV):RT :=
 match b,vs with
 | .len,[x]=>match ats[0]? with | some t=>XM P mem t x | none=>none
 | .min,x::l=>(Gg XV l x).map fun v=>(.tt,v)
 | .max,x::l=>(Gg XU l x).map fun v=>(.tt,v)
 | _,_=>none
def SV.cells:SV->List CV
 | .one c=>[c]
 | .agg l=>l
def CV.tI:CV->Bool
 | .val v=>v.oneCell'
 | .vr _=>false
 | .hv _ _ _ _=>false
 | _=>true
def CV.qI {J:Env} (c:CV) (h:c.tI=true):(c.ev J).oneCell'=true:=by
 cases c<;>trivial
def SV.vo {J:Env} (v:SV) (h:v.cells.all CV.tI=true):(v.ev J).cells.toList=v.cells.map (CV.ev J):=by
 cases v with
 | one c =>
  simp only[SV.cells,agC,List.all_nil,Bool.and_true]at h;have:=CV.qI (J:=J) c h;simp only[SV.ev,SV.cells,abW,acI];generalize c.ev J=x at *;cases x<;>trivial
 | agg l=>trivial
def bm (l:List α) (o:Nat) (m:List α):List α:=l.take o++m++l.drop (o+m.length)
def Ay (place:Nat->Option (Nat×Nat)) (l:List CV):List (Nat×SV)->Option (List CV)
 | []=>some l
 | (i,v)::rest=>match place i with
  | none=>none
  | some (off,size)=>if v.cells.length=size/\off+v.cells.length<=l.length/\v.cells.all CV.tI=true then Ay place (bm l off v.cells) rest else none
def svs:List TV->Option (List SV)
 | []=>some []
 | .sv v::l=>(svs l).map (v::·)
 | _=>none
def IV (P:Program) (t:TypeId) (is:List Nat) (vs:List TV):RT :=
 match nc P t,svs vs with
 | some z,some vs=>match P.underlying t with
  | some (.struct fs)=>match iN (fs.toList.map fun f=>(fj P f.type).map fun n=>(f.offset,n))with
   | some places=>(Ay (places[·]?) (z.cells.toList.map il) (is.zip vs)).map fun l=>(.tt,.sv (.agg l))
   | none=>none
  | some (.array _ el)=>match fj P el with
   | some n=>(Ay (fun i=>some (i*n,n)) (z.cells.toList.map il) (is.zip vs)).map fun l=>(.tt,.sv (.agg l))
   | none=>none
  | _=>none
 | _,_=>none
def WK (P:Program) (t:TypeId) (is:List Nat) (vs:List TV):RT :=
 match is,vs,nc P t,P.underlying t with
 | [0],[.sv (.one (.vr j))],some z,some (.struct fs)=>match z.cells.toList,fs.toList with
  | [_],[f]=>if f.offset=0/\fj P f.type=some 1 then some (.le (.vint j) (.lit 1),.sv (.agg [.vr j]))else none
  | _,_=>none
 | _,_,_,_=>none
def FY (P:Program) (rec:TypeId->SV->SV->Option E) (xs ys:List CV):List Field->Option E
 | []=>some .tt
 | f::fs=>if f.name≠ "_" then
  match gJ P f.type xs f.offset,gJ P f.type ys f.offset with
  | some a,some b=>match rec f.type a b,FY P rec xs ys fs with
   | some e,some r=>some (mkAnd e r)
   | _,_=>none
  | _,_=>none
  else FY P rec xs ys fs
def K3 (P:Program) (rec:TypeId->SV->SV->Option E) (e:TypeId) (xs ys:List CV):List Nat->Option E
 | []=>some .tt
 | i::is=>match gJ P e xs (i*P.cellsOf e),gJ P e ys (i*P.cellsOf e)with
  | some a,some b=>match rec e a b,K3 P rec e xs ys is with
   | some q,some r=>some (mkAnd q r)
   | _,_=>none
  | _,_=>none
def Ec (P:Program):Nat->TypeId->SV->SV->Option E
 | 0,_,_,_=>none
 | d+1,t,x,y=>match P.underlying t with
  | some .bool=>match x,y with
   | .one (.bool a),.one (.bool b)=>some (QQ a b)
   | _,_=>none
  | some (.int _)=>match x,y with
   | .one (.int k a),.one (.int c b)=>if k=c then some (mkEq a b)else none
   | _,_=>none
  | some .string=>match x,y with
   | .one (.str a),.one (.str b)=>some (mkSeq a b)
   | _,_=>none
  | some (.slice _)=>match x,y with
   | .one (.sl x _ _ _),.one (.sl x' _ _ _)=>if x'=.lit (-1)then some (mkEq x (.lit (-1)))else if x=.lit (-1)then some (mkEq x' (.lit (-1)))else none
   | _,_=>none
  | some (.pointer _)=>match x,y with
   | .one (.hptr x _),.one (.hptr x' _)=>if x'=.lit (-1)then some (mkEq x (.lit (-1)))else if x=.lit (-1)then some (mkEq x' (.lit (-1)))else none
   | _,_=>none
  | some (.map _ _)=>match x,y with
   | .one (.map x),.one (.map x')=>if x'=.lit (-1)then some (mkEq x (.lit (-1)))else if x=.lit (-1)then some (mkEq x' (.lit (-1)))else none
   | _,_=>none
  | some (.struct fs)=>match x,y with
   | .agg xs,.agg ys=>if P.stoodInHeld t=false then FY P (Ec P d) xs ys fs.toList else none
   | _,_=>none
  | some (.array n e)=>match x,y with
   | .agg xs,.agg ys=>match P.info? e with
    | some _=>K3 P (Ec P d) e xs ys (List.range n)
    | none=>none
   | _,_=>none
  | _=>none
def WH (P:Program) (op:BinOp) (t:TypeId) (X Y:TV):RT :=
 match X,Y with
 | .sv (.one (.int k a)),.sv (.one (.int c b))=>WI op k c a b
 | .sv (.one (.str a)),.sv (.one (.str b))=>WJ op a b
 | .sv (.one a),.sv (.one b)=>match Ec P 20 t (.one a) (.one b)with
  | some e=>match op with
   | .eql=>some (.tt,TB e)
   | .neq=>some (.tt,TB (mkNot e))
   | _=>none
  | none=>none
 | .sv (.agg a),.sv (.agg b)=>if P.eqGuardType P.depth t=false then
  match Ec P 20 t (.agg a) (.agg b)with
  | some e=>match op with
   | .eql=>some (.tt,TB e)
   | .neq=>some (.tt,TB (mkNot e))
   | _=>none
  | none=>none
  else none
 | _,_=>none
def Q0 (mem:Mem) (x:E):E :=
 match x with
 | .var a=>if(vv mem a).isSome then .tt else .le (.lit (-1)) x
 | x=>mkLe (.lit (-1)) x
def nT (d:E):Option TV->Option E
 | none=>some d
 | some (.sv (.one (.int _ e)))=>some e
 | _=>none
def BY (m l:E) (y:E) (n:Nat):E:=mkIte (mkEq m l) y (mkAdd y (mkMul l (.lit n)))
def Kg (P:Program) (mem:Mem) (t:TypeId) (x:TV) (lo hi mx:Option TV):RT :=
 match mx with
 | some _=>none
 | none=>match P.underlying t,x with
  | some .string,.sv (.one (.str s))=>match nT (.lit 0) lo,nT (yn s) hi with
   | some l,some h=>some (mkAnd (mkLe (.lit 0) l) (mkAnd (mkLe l h) (mkLe h (yn s))),TS (.sext s l h))
   | _,_=>none
  | some (.slice el),.sv (.one (.sl x y len cap))=>match nT (.lit 0) lo,nT len hi,fj P el with
   | some l,some h,some n=>some (mkAnd (Q0 mem x) (mkAnd (mkLe (.lit 0) y) (mkAnd (mkLe (.lit 0) l) (mkAnd (mkLe l h) (mkLe h cap)))),
    .sv (.one (.sl x (BY cap l y n) (mkSub h l) (mkSub cap l))))
   | _,_,_=>none
  | some (.array q el),.sv (.one (.hptr x y))=>match nT (.lit 0) lo,nT (.lit q) hi,fj P el with
   | some l,some h,some n=>some (mkAnd (GL mem x) (mkAnd (mkLe (.lit 0) y) (mkAnd (mkLe (.lit 0) l) (mkAnd (mkLe l h) (mkLe h (.lit q))))),
    .sv (.one (.sl x (BY (.lit q) l y n) (mkSub h l) (mkSub (.lit q) l))))
   | _,_,_=>none
  | _,_=>none
def Jy (P:Program) (st:St) (op:BinOp) (t:TypeId) (x y:Operand):RT :=
 match cA st x,y with
 | some (.sv (.one (.vr j))),.const .nilIface=>match P.underlying t with
  | some (.interface _)=>match op with
   | .eql=>some (.le (.vint j) (.lit 1),TB (.eq (.vint j) (.lit 0)))
   | .neq=>some (.le (.vint j) (.lit 1),TB (.not (.eq (.vint j) (.lit 0))))
   | _=>none
  | _=>none
 | some (.sv (.one (.val .nilIface))),.const .nilIface=>match P.underlying t with
  | some (.interface _)=>match op with
   | .eql=>some (.tt,TB .tt)
   | .neq=>some (.tt,TB .ff)
   | _=>none
  | _=>none
 | _,_=>none
def quiet (P:Program) (st:St) (op:Op):RT :=
 match op with
 | .move x=>(cA st x).map fun v=>(.tt,v)
 | .assign x=>(cA st x).map fun v=>(.tt,v)
 | .pick c a b=>match cA st c with
  | some (.sv (.one (.bool e)))=>match known st.path e with
   | some true=>(cA st a).map fun v=>(.tt,v)
   | some false=>(cA st b).map fun v=>(.tt,v)
   | none=>match cA st a,cA st b with
    | some (.sv g),some (.sv j)=>(zB e g j).map fun v=>(.tt,.sv v)
    | _,_=>none
  | _=>none
 | .nilCheck x=>match cA st x with
  | some (.sv (.one (.hptr x y)))=>some (GL st.mem x,TP x y)
  | _=>none
 | .binOp op t x y _=>match Jy P st op t x y with
  | some r=>some r
  | none=>match cA st x,cA st y with
   | some a,some b=>WH P op t a b
   | _,_=>none
 | .unOp op _ x=>match cA st x with
  | some a=>unE op a
  | none=>none
 | .convert s d x=>match cA st x with
  | some a=>PF P st.mem s d a
  | none=>none
 | .fieldAddr s x f=>match cA st x with
  | some a=>uj P st.mem s f a
  | none=>none
 | .field t x f=>match cA st x with
  | some a=>I6 P t f a
  | none=>none
 | .indexAddr t x i=>match cA st x,cA st i with
  | some a,some b=>uz P st.mem t a b
  | _,_=>none
 | .index t x i=>match cA st x,cA st i with
  | some a,some b=>Jg P t a b
  | _,_=>none
 | .load t x=>match cA st x with
  | some (.sv (.one c))=>(Lt P st.mem t c).map fun r=>(r.1,.sv r.2)
  | _=>none
 | .extract x i=>match cA st x with
  | some a=>At i a
  | none=>none
 | .sliceToArrayPointer t x=>match P.underlying t,cA st x with
  | some (.array n _),some (.sv (.one (.sl x y l _)))=>some (mkLe (.lit n) l,TP x y)
  | _,_=>none
 | .slice t x lo hi mx=>match cA st x with
  | some a=>match(match lo with | none=>some none | some o=>(cA st o).map some),(match hi with | none=>some none | some o=>(cA st o).map some),(match mx with | none=>some none | some o=>(cA st o).map some)with
   | some l,some h,some m=>Kg P st.mem t a l h m
   | _,_,_=>none
  | none=>none
 | .makeFunc (.func f) first captured=>if first=#[]/\captured=#[]then some (.tt,.sv (.one (.val (.func (.func f) #[] #[]))))else match captured.toList with
  | [c]=>if first=#[]then match cA st c with
   | some (.sv (.one (.hptr x y)))=>if y=.lit 0 then some (.tt,.sv (.one (.clo f x)))else none
   | _=>none
   else none
  | [c,d]=>if first=#[]then match cA st c,cA st d with
   | some (.sv (.one (.hptr x y))),some (.sv (.one (.hptr x' y')))=>if y=.lit 0/\y'=.lit 0 then some (.tt,.sv (.one (.clo2 f x x')))else none
   | _,_=>none
   else none
  | _=>none
 | .call {callee:=.builtin b,args,argTypes}=>match wc st args.toList with
  | some vs=>Aa P st.mem b argTypes vs
  | none=>none
 | .build t parts=>match wc st (parts.toList.map (·.2))with
  | some vs=>match WK P t (parts.toList.map (·.1)) vs with
   | some r=>some r
   | none=>IV P t (parts.toList.map (·.1)) vs
  | none=>none
 | _=>none
section
variable {P:Program} {S:Nat->Prop} {w0:World} {J:Env} {st:St} {mem:Mem} {a:Act} {w:World} {n:E} {v:TV}
def hZ {l:List CV} {v:SV} (h:gJ P t l o=some v):(part t (l.map (CV.ev J)).toArray o).run P w=.ok (v.ev J) w:=by
 unfold gJ at h;unfold part;split at h
 .rename_i n a hs;split at h
  .rename_i hle;cases h;simp only[Sem.run_bind,vc a,Result.andThen_ok,afm,dq hs,Sem.run_pure,SV.ev];simp_all
  .cases h
 .rename_i a;simp only[aaH]at h;obtain⟨x,hx,rfl⟩:=h;simp only[Sem.run_bind,vc a,Result.andThen_ok,acQ,afw];have:(l.map (CV.ev J)).toArray[o]?=some (x.ev J):=by simp [hx]
  simp only[this];rfl
 .cases h
def OH {op:UnOp} {x:TV} (h:unE op x=some (n,v)):(Op.unary op (x.ev J)).run P w=.ok (v.ev J) w:=by
 unfold unE at h;split at h
 .cases h;simp only[TV.ev,SV.ev,CV.ev,cU,Op.unary,Sem.run_pure]
 .cases h;simp only[TV.ev,SV.ev,CV.ev,pP,oO,aq,Op.unary,Op.intArith,Sem.run_pure]
 .cases h;trivial
 .cases h
theorem D4 (x:Int) (l:List Int):bytesOf (x::l)=bytesOf [x]++bytesOf l:=by
 have key:∀ (l:List Int) (r:ByteArray),l.foldl (fun r n=>r.push (UInt8.ofNat n.toNat)) r=r++bytesOf l:=by
  intro l
  induction l with
  | nil=>intro r;simp [bytesOf]
  | cons y l ih =>
   intro r;simp only[agm];rw[ih];have e:bytesOf (y::l)=ByteArray.empty.push (UInt8.ofNat y.toNat)++bytesOf l:=by
    show List.foldl _ _ _=_
    grind
   rw[e,<-ByteArray.append_assoc]
   congr 1
   apply ByteArray.ext;simp_all
 simp only[bytesOf,agm,List.foldl_nil];exact key l _
theorem yK:∀ (l:List CV) (s:E),strOf l=some s->∃ a:List Int,l.map (CV.ev J)=a.map (Value.int .u8)/\lC J s=bytesOf a
 | [],s,h=>by cases h;exact⟨[],rfl,rfl⟩
 | c::l,s,h=>by
  unfold strOf at h;split at h
  .grind
  .rename_i e l' heq;cases heq;simp only[aaH]at h;obtain⟨r,hr,rfl⟩:=h;obtain⟨a,h1,b⟩:=yK _ r hr;refine⟨aw J e::a,by simp [h1,CV.ev],?_⟩;rw[Dv,Ou,b,D4 (aw J e) a]
  .cases h
def Cr {x y n:Nat} (hb:bx h x y n=true):∀ j,j<n->h.cell x (y+j)=some (.int .u8 (bO (h.cell x (y+j)))):=by
 intro j b;unfold bx at hb;rw[acd]at hb;have:=hb j (acv.2 b);cases a:h.cell x (y+j)with
 | none=>simp [a,bh]at this
 | some v =>
  rw[a]at this;cases v<;>simp [bh]at this
  rename_i k m;subst this;rfl
theorem Ln (h:Nm P el=true):P.underlying el=some (.int .u8):=by
 unfold Nm at h;grind
theorem FQ (hm:MRel S w0 J mem w) {d:TypeId} {x:TV} (h:PF P mem s d x=some (n,v)) (hn:aY J n=true):(convert s d (x.ev J)).run P w=.ok (v.ev J) w:=by
 unfold PF at h;split at h
 .rename_i k G e hs hd;cases h;simp only[TV.ev,SV.ev,CV.ev,pP];unfold convert;simp only[Sem.run_bind,run_underlying hs,run_underlying hd,Result.andThen_ok,Conv.intToInt];rfl
 .rename_i e hs hd;cases h;simp only[TV.ev,SV.ev,CV.ev];unfold convert;simp only[Sem.run_bind,run_underlying hs,run_underlying hd,Result.andThen_ok];rfl
 .rename_i el x y l c hs hd;split at h
  .rename_i hu;have he:=Ln hu;split at h
   .rename_i hx;subst hx;cases h;simp only[TV.ev,SV.ev,CV.ev,aq,dr,gy];rw[run_convert_bytes_string w s d el _ _ _ hs he hd];rfl
   .split at h
    .rename_i a p cs T o m z;obtain⟨rfl,rfl,hk⟩:=hJ z;split at h
     .rename_i hle;simp only[aaH,acx]at h;obtain⟨r,hr,rfl,rfl⟩:=h;obtain⟨B,h1,D⟩:=yK (J:=J) _ _ hr;have g:0<=J.i a:=hm.pos _ (aah hk);simp only[TV.ev,SV.ev,CV.ev,aq,ar,av g,aac];rw[run_convert_bytes_string w s d el _ _ _ hs he hd,run_bytesToString w _ _ _ B,D]
      .rfl
      .have hb:=hm.bc hk;have:=run_loadCells_list (P:=P) w ⟨(J.i a).toNat,o,none⟩ (B.map (Value.int .u8)) (fun j u hu=>by
        rw[<-h1]at hu;rw[fg];simp only[World.cell?,hb]
        grind)
       grind
     .cases h
    .split at h
     .rename_i l _ _ _ _ k hk;have hsub:=Aw hm hk;cases h;simp only[TV.ev,SV.ev,CV.ev];rw[run_convert_bytes_string w s d el _ _ _ hs he hd];rw[vg,aeM,fN,aq,aas]at hn;have q:∀ a b:E,lC J (mkIte (mkEq x (.lit (-1))) a b)=if aw J x= -1 then lC J a else lC J b:=by
       intro a b;have t:=fN J x (.lit (-1));rw[aq]at t;unfold mkIte;split
       .rename_i e;rw[e,dc]at t;grind
       .rename_i e;rw[e,du]at t;grind
       .split
        .grind
        .rw[jJ,t];simp
      rw[q];by_cases hx:aw J x= -1
      .rw[ab9 hx,hx,dr];rfl
      .rw[aa8 hx];have hn:=hn.resolve_left hx;rw[vg,aeM,fN,aq,aas]at hn;by_cases f:aw J l=0
       .rw[f,iP,f];cases hp:au (aw J x) (aw J y)with
        | none =>
         trivial
        | some a0 =>
         trivial
       have hn:=hn.resolve_left f;rw[aN,aaM,aN,aaM,aX,aX,aq,aas,aas,DT]at hn;obtain⟨A,F,hby⟩:=hn;rw[av A,iP];rw[run_bytesToString w _ _ _ (gw (J.h k) (aw J x).toNat (aw J y).toNat (aw J l).toNat)]
       .rfl
       .have:=run_loadCells_list (P:=P) w ⟨(aw J x).toNat,(aw J y).toNat,none⟩ ((gw (J.h k) (aw J x).toNat (aw J y).toNat (aw J l).toNat).map (Value.int .u8)) (fun j u hu=>by
         rw[fg];unfold gw at hu;rw[adv,abl]at hu;by_cases C:j<(aw J l).toNat
         .rw[acf C]at hu;simp only[acr,aa3,Function.comp]at hu;rw[<-hu];exact Hl.gW hsub (Cr hby j C)
         grind)
        have hl:((gw (J.h k) (aw J x).toNat (aw J y).toNat (aw J l).toNat).map (Value.int .u8)).length=(aw J l).toNat:=by simp [gw]
        grind
     .cases h
  .cases h
 .cases h
def Ax {m b:Nat} (fl:Field) (hs:fj P fl.type=some (m+1)):(fieldPlace ⟨b,o,none⟩ fl).run P w=.ok ⟨b,o+fl.offset,none⟩ w:=by
 unfold fieldPlace;simp only[Sem.run_bind,dq hs,Result.andThen_ok,Nat.add_eq_zero_iff,Nat.one_ne_zero,and_false,afw,Sem.run_pure,fg]
theorem sZ {x y:Int} (hx:0<=x) (hy:0<=y) (n:Nat):au x (y+n)=some ⟨x.toNat,y.toNat+n,none⟩:=by
 rw[av hx];grind
def Av (hm:MRel S w0 J mem w) {a:Nat} (h:(vv mem a).isSome=true):0<=J.i a:=by
 obtain⟨⟨p,l,T⟩,hp⟩:=acH.1 h;exact hm.pos _ (aah (gk hp))
theorem qd {s:Nat} (h:0<=i):((o:Int)+(s:Int)*i)=((o+s*i.toNat:Nat):Int):=by
 grind
theorem xe (hm:MRel S w0 J mem w) {x:TV} (h:uj P mem s f x=some (n,v)) (hn:aY J n=true):(Instr.fieldAt s (x.ev J) f).run P w=.ok (v.ev J) w:=by
 unfold uj at h;split at h
 .rename_i fs hu;split at h
  .rename_i fl hf;split at h
   .rename_i m hs;have key:∀ b o,(Instr.fieldAt s (.pointer (some ⟨b,o,none⟩)) f).run P w=.ok (.pointer (some ⟨b,o+fl.offset,none⟩)) w:=fun b o=>by
     unfold Instr.fieldAt;simp only[Sem.run_bind,run_underlying hu,Result.andThen_ok,hf,Instr.sureAddr,Sem.run_pure,Ax fl hs]
    split at h
    .rename_i x y;cases h;rw[aN,aaM,aX,aq,aas]at hn;have hx:=hm.GL hn.1;simp only[TV.ev,SV.ev,CV.ev,fc,aq];rw[av hx,key,sZ hx hn.2]
    .rename_i a o d n' i;split at h
     .rename_i c;cases h;obtain⟨h0,h1⟩:=jd hn;have hx:=Av hm c;simp only[TV.ev,SV.ev,CV.ev];rw[av hx,key,qd h0,qd h0,aac,av hx,aac]
      grind
     .cases h
    .cases h
   .cases h
  .cases h
 .cases h
def nC {len m b:Nat} {k:IntKind} (hu:P.underlying t=some (.array len el)) (hs:fj P el=some m) (h0:0<=i) (h1:i<len) :
 (Instr.indexAt t (.pointer (some ⟨b,o,none⟩)) (.int k i)).run P w=.ok (.pointer (some ⟨b,o+i.toNat*m,none⟩)) w:=by
 unfold Instr.indexAt;simp only[asIntOf,Sem.run_bind,Sem.run_pure,Result.andThen_ok,run_underlying hu,Instr.sureAddr,h0,h1,and_self,afm,dq hs,fg]
def nY {len c m b:Nat} {k:IntKind} (hu:P.underlying t=some (.slice el)) (hs:fj P el=some m) (h0:0<=i) (h1:i<len) :
 (Instr.indexAt t (.slice (some ⟨b,o,none⟩) len c) (.int k i)).run P w=.ok (.pointer (some ⟨b,o+i.toNat*m,none⟩)) w:=by
 unfold Instr.indexAt;simp only[asIntOf,Sem.run_bind,Sem.run_pure,Result.andThen_ok,run_underlying hu,h0,h1,and_self,afm,dq hs,fg]
theorem sG (h:0<=i) (m:Nat):i*(m:Int)=((i.toNat*m:Nat):Int):=by
 grind
theorem xi (hm:MRel S w0 J mem w) {x i:TV} (h:uz P mem t x i=some (n,v)) (hn:aY J n=true):(Instr.indexAt t (x.ev J) (i.ev J)).run P w=.ok (v.ev J) w:=by
 unfold uz at h;split at h
 .rename_i k e;split at h
  .rename_i len el hu;split at h
   .rename_i m a o s q kk hs;split at h
    .rename_i j;split at h
     .rename_i d;cases h;obtain⟨h0,h1⟩:=jd hn;have hx:=Av hm d.2.2;simp only[TV.ev,SV.ev,CV.ev,aq];rw[av hx,nC hu hs d.1 d.2.1,qd h0,qd h0,aac,av hx,aac]
      grind
     .cases h
    .cases h
   .rename_i m x y hs;split at h
    .rename_i j _;split at h
     .rename_i d;cases h;rw[aN,aaM,aX,aq,aas]at hn;have hx:=hm.GL hn.1;simp only[TV.ev,SV.ev,CV.ev,aq,fc];rw[av hx,nC hu hs d.1 d.2,<-Int.natCast_mul,sZ hx hn.2]
     .cases h
    .rename_i e a p l T o _ b;obtain⟨rfl,rfl,hk⟩:=hJ b;cases h;obtain⟨h0,h1⟩:=jd hn;have hx:0<=J.i a:=hm.pos _ (aah hk);simp only[TV.ev,SV.ev,CV.ev,ar,aq];rw[av hx,aac,nC hu hs h0 h1,qd h0,av hx,aac,afQ]
    .rename_i e _ _;cases h;rw[aN,aaM,aN,aaM,aX,aq,aas]at hn;obtain⟨hx,hy,hb⟩:=hn;have hx:=hm.GL hx;obtain⟨h0,h1⟩:=jd hb;simp only[TV.ev,SV.ev,CV.ev,fc,oN,aq];rw[av hx,nC hu hs h0 h1,sG h0,sZ hx hy]
   .cases h
  .rename_i el hu;split at h
   .rename_i m x y l c hs;split at h
    .rename_i j _ _;cases h;rw[aN,aaM,aN,aaM,aN,aaM,aX,aX,jw,aas,aas,aas,aq,aq]at hn;obtain⟨hx,hy,h0,h1⟩:=hn;have hx:=hm.GL hx;simp only[TV.ev,SV.ev,CV.ev,fc,oN,aq];rw[av hx,nY hu hs h0 ah,sG h0,sZ hx hy]
    .rename_i a p l' T o q _ b;obtain⟨rfl,rfl,hk⟩:=hJ b;cases h;rw[aN,aaM]at hn;obtain⟨h0,h1⟩:=jd hn.1;have hx:0<=J.i a:=hm.pos _ (aah hk);simp only[TV.ev,SV.ev,CV.ev,ar,aq];rw[av hx,aac,nY hu hs h0 ah,qd h0,av hx,aac,afQ]
    .cases h;rw[aN,aaM,aN,aaM,aN,aaM,aX,aX,jw,aas,aas,aas,aq]at hn;obtain⟨hx,hy,h0,h1⟩:=hn;have hx:=hm.GL hx;simp only[TV.ev,SV.ev,CV.ev,fc,oN,aq];rw[av hx,nY hu hs h0 ah,sG h0,sZ hx hy]
   .cases h
  .cases h
 .cases h
def Ee {x:TV} (h:I6 P t f x=some (n,v)):(Instr.field t (x.ev J) f).run P w=.ok (v.ev J) w:=by
 unfold I6 at h;split at h
 .rename_i fs l hu;split at h
  .rename_i fl hf;simp only[aaH,acx]at h;obtain⟨u,a,_,rfl⟩:=h;unfold Instr.field;simp only[Sem.run_bind,run_underlying hu,Result.andThen_ok,hf,TV.ev,SV.ev,asAgg,Sem.run_pure];exact hZ a
  .cases h
 .cases h
def CT {len m:Nat} {k:IntKind} {l:List CV} {u:SV} (hu:P.underlying t=some (.array len el)) (hs:fj P el=some m) (h0:0<=i) (h1:i<len)
 (hl:gJ P el l (i.toNat*m)=some u):(Instr.index t (.agg (l.map (CV.ev J)).toArray) (.int k i)).run P w=.ok (u.ev J) w:=by
 unfold Instr.index;simp only[asIntOf,Sem.run_bind,Sem.run_pure,Result.andThen_ok,run_underlying hu,h0,h1,and_self,afm,dq hs];exact hZ hl
def Ep {x i:TV} (h:Jg P t x i=some (n,v)) (hn:aY J n=true):(Instr.index t (x.ev J) (i.ev J)).run P w=.ok (v.ev J) w:=by
 unfold Jg at h;split at h
 .rename_i len el l k e hu;split at h
  .rename_i m hs;split at h
   .rename_i j;split at h
    .rename_i o;simp only[aaH,acx]at h;obtain⟨u,b,_,rfl⟩:=h;simp only[TV.ev,SV.ev,CV.ev,aq];exact CT hu hs o.1 o.2 b
    .cases h
   .split at h
    .rename_i vs f;simp only[aaH,acx]at h;obtain⟨u,b,rfl,rfl⟩:=h;obtain⟨h0,h1⟩:=jd hn;obtain⟨hlen,d⟩:=np f;simp only[aca,afh]at hlen;obtain⟨z,hz,g⟩:=BW vs 0 u b ah ah;have c:=d _ _ hz;rw[agI,abl,acf ah]at c;simp only[acr,aa3]at c;simp only[TV.ev,g];exact CT hu hs h0 h1 c
    .cases h
  .cases h
 .rename_i s k e hu;cases h;rw[aN,aaM,aX,jw,aas,aas,aq,ml]at hn;obtain⟨h0,h1⟩:=hn;unfold Instr.index;simp only[TV.ev,SV.ev,CV.ev,asIntOf,Sem.run_bind,Sem.run_pure,Result.andThen_ok,run_underlying hu,h0,afm];have a:(aw J e).toNat<(lC J s).size:=ah;have e1:(lC J s)[(aw J e).toNat]?=some ((lC J s)[(aw J e).toNat]'a):=getElem?_pos (lC J s) (aw J e).toNat a;have p:(lC J s).data[(aw J e).toNat]?.getD 0=(lC J s)[(aw J e).toNat]'a:=by
   rw[getElem?_pos (lC J s).data (aw J e).toNat a];rfl
  simp only[e1,Nj,p];rfl
 .cases h
def Au {i:Nat} {x:TV} (h:At i x=some (n,v)):(Instr.extract (x.ev J) i).run P w=.ok (v.ev J) w:=by
 unfold At at h;split at h
 .simp only[aaH,acx]at h;obtain⟨u,hu,_,rfl⟩:=h;unfold Instr.extract;simp only[TV.ev];simp_all
 .cases h
def Jm (hm:MRel S w0 J mem w) {x:TV} (b:ats[0]?=some t) (h:XM P mem t x=some (n,v)) (hn:aY J n=true):(Builtin.len_ ats ty #[x.ev J]).run P w=.ok (v.ev J) w:=by
 unfold XM at h;unfold Builtin.len_;have h0:(#[x.ev J]:Array Value)[0]?=some (x.ev J):=rfl;simp only[b,h0];split at h
 .rename_i m _ hu;cases h;simp only[Sem.run_bind,run_underlying hu,Result.andThen_ok];rfl
 .rename_i el _ _ l _ hu;cases h;rw[aX,aas,aq]at hn;simp only[Sem.run_bind,run_underlying hu,Result.andThen_ok,TV.ev,SV.ev,CV.ev,Sem.run_pure,goInt,agP hn]
 .rename_i e hu;cases h;simp only[Sem.run_bind,run_underlying hu,Result.andThen_ok,TV.ev,SV.ev,CV.ev,Sem.run_pure,goInt,ml]
 .rename_i k f x hu;split at h
  .rename_i q d;have hsub:=Aw hm d;cases h;rw[aN,aaM,aN,aaM,aX,aq,aas,Ph]at hn;obtain⟨hx,_,he⟩:=hn;have a:¬aw J x= -1:=ah;obtain⟨es,c,he⟩:∃ es c,J.h q (aw J x).toNat=some (.map es c):=by
    revert he;generalize J.h q (aw J x).toNat=o;intro he;cases o with
    | none=>cases he
    | some o=>cases o<;>first | exact⟨_,_,rfl⟩ | cases he
   have hw:=hsub _ _ he;simp only[Sem.run_bind,run_underlying hu,Result.andThen_ok,TV.ev,SV.ev,CV.ev,aa8 a,Sem.run_pure,goInt,fT,he,Jr];simp [getObj,Sem.run,hw]
  .cases h
 .cases h
def Ju {x y z:TV} (h:XV x y=some z):(Builtin.min2 (x.ev J) (y.ev J)).run P w=.ok (z.ev J) w:=by
 unfold XV at h;split at h
 .cases h;simp only[TV.ev,SV.ev,CV.ev,Builtin.min2,jc,jw,aas,Sem.run_pure]
 .cases h
def Js {x y z:TV} (h:XU x y=some z):(Builtin.max2 (x.ev J) (y.ev J)).run P w=.ok (z.ev J) w:=by
 unfold XU at h;split at h
 .cases h;simp only[TV.ev,SV.ev,CV.ev,Builtin.max2,jc,jw,aas,Sem.run_pure,GT.gt]
 .cases h
def qO {f:TV->TV->Option TV} {F:Value->Value->Sem Value} (hf:∀ x y z,f x y=some z->(F (x.ev J) (y.ev J)).run P w=.ok (z.ev J) w) :
 ∀ (l:List TV) (x z:TV),Gg f l x=some z->((l.map (TV.ev J)).foldlM F (x.ev J)).run P w=.ok (z.ev J) w
 | [],x,z,h=>by cases h;rfl
 | y::l,x,z,h=>by
  simp only[Gg]at h;split at h
  .rename_i u hu;simp only[abW,List.foldlM_cons,Sem.run_bind,hf x y u hu,Result.andThen_ok];exact qO hf l u z h
  .cases h
def jj (h:Rel S w0 J st a w):∀ (l:List Operand) (vs:List TV),wc st l=some vs->l.map a.eval=vs.map (TV.ev J)
 | [],vs,ho=>by cases ho;rfl
 | x::l,vs,ho=>by
  simp only[wc]at ho;split at ho
  .rename_i v1 v2 h1 b;cases ho;simp only[abW,aH h h1,jj h l _ b]
  .cases ho
def Ab (hm:MRel S w0 J mem w) {b:Builtin} {cs:Array Bool} {vs:List TV} (h:Aa P mem b ats vs=some (n,v)) (hn:aY J n=true) :
 (builtin b ats ty cs (vs.map (TV.ev J)).toArray).run P w=.ok (.value (v.ev J)) w:=by
 unfold Aa at h;split at h
 .split at h
  .rename_i t a;have:=Jm hm (ty:=ty) a h hn;unfold builtin;simp_all
  .cases h
 .simp only[aaH,acx]at h;obtain⟨u,hu,_,rfl⟩:=h;have:=qO (P:=P) (w:=w) (J:=J) (fun x y z=>Ju) _ _ _ hu;unfold builtin;simp only[abW,Sem.run_bind,Builtin.min_,this,Result.andThen_ok,Sem.run_pure]
 .simp only[aaH,acx]at h;obtain⟨u,hu,_,rfl⟩:=h;have:=qO (P:=P) (w:=w) (J:=J) (fun x y z=>Js) _ _ _ hu;unfold builtin;simp only[abW,Sem.run_bind,Builtin.max_,this,Result.andThen_ok,Sem.run_pure]
 .cases h
def vB (off:Nat):∀ (vs:List Value) (k:Nat) (arr:Array Value),off+k+vs.length<=arr.size ->
 (vs.zipIdx k).foldl (fun cs (p:Value×Nat)=>cs.setIfInBounds (off+p.2) p.1) arr=(bm arr.toList (off+k) vs).toArray
 | [],k,arr,h=>by simp [bm]
 | x::vs,k,arr,h=>by
  simp only[acn]at h;rw[List.zipIdx_cons,agm,vB off vs (k+1) _ (by simp;omega)]
  congr 1
  have:=list_seg_step arr.toList (off+k) x vs (by simp;omega);simpa [bm,Array.toList_setIfInBounds,afp] using this
theorem kG {place:Nat->Option (Nat×Nat)} : ∀ (ps:List (Nat×SV)) (l r:List CV),Ay place l ps=some r ->
 Instr.fill place (l.map (CV.ev J)).toArray (ps.map fun p=>(p.1,p.2.ev J))=some (r.map (CV.ev J)).toArray
 | [],l,r,h=>by cases h;rfl
 | (i,v)::ps,l,r,h=>by
  simp only[Ay]at h;split at h
  .cases h
  .rename_i off size hp;split at h
   .rename_i b;obtain⟨h1,d,c⟩:=b;have a:=SV.vo (J:=J) v c;have hsz:(v.ev J).cells.size=v.cells.length:=by rw[<-agn,a];simp
    have hle:¬off+(v.ev J).cells.size>(l.map (CV.ev J)).toArray.size:=by rw[hsz];simp;omega
    simp only[abW,Instr.fill,hp];rw[aa8 (by grind)];have e:(v.ev J).cells.zipIdx.foldl (fun cs (p:Value×Nat)=>cs.setIfInBounds (off+p.2) p.1) (l.map (CV.ev J)).toArray=((bm l off v.cells).map (CV.ev J)).toArray:=by
     rw[<-Array.foldl_toList,Array.toList_zipIdx,a];have:=vB off (v.cells.map (CV.ev J)) 0 (l.map (CV.ev J)).toArray (by simp;omega);rw[this];simp [bm,acm,agT,agU]
    have ih:=kG ps _ _ h
    grind
   .cases h
def Kp:∀ (l:List TV) (m:List SV),svs l=some m->l.map (TV.ev J)=m.map (SV.ev J)
 | [],m,h=>by cases h;rfl
 | .sv v::l,m,h=>by
  simp only[svs,aaH]at h;obtain⟨r,hr,rfl⟩:=h;simp only[abW,Kp l r hr];rfl
 | .tup _::l,m,h=>by trivial
def uG:∀ (fs:List Field) (ps:List (Nat×Nat)),iN (fs.map fun f=>(fj P f.type).map fun n=>(f.offset,n))=some ps ->
 (fs.mapM fun(f:Field)=>(do pure (f.offset,<-sizeOf f.type):Sem (Nat×Nat))).run P w=.ok ps w
 | [],ps,h=>by cases h;rfl
 | f::fs,ps,h=>by
  simp only[abW]at h;cases hs:fj P f.type with
  | none=>simp [hs,iN]at h
  | some m =>
   simp only[hs,acr,iN,aaH]at h;obtain⟨r,hr,rfl⟩:=h;have ih:=uG fs r hr;simp only[List.mapM_cons,Sem.run_bind,dq hs,Result.andThen_ok,Sem.run_pure,ih]
theorem GF {f:α->β} {h:α->γ} : ∀ (l:List α),l.map (fun x=>(f x,h x))=(l.map f).zip (l.map h)
 | []=>rfl
 | x::l=>by grind
def KD:∀ (is:List Nat) (vs:List SV),(is.zip vs).map (fun p=>(p.1,p.2.ev J))=is.zip (vs.map (SV.ev J))
 | [],_=>rfl
 | _::_,[]=>rfl
 | i::is,v::vs=>by simp [KD is vs]
def DX {vs:List TV} (h:IV P t is vs=some (n,v)):(Instr.build t (is.zip (vs.map (TV.ev J))).toArray).run P w=.ok (v.ev J) w:=by
 unfold IV at h;split at h
 .rename_i z us hz b;rw[Kp _ _ b,<-KD];have a:z.cells=((z.cells.toList.map il).map (CV.ev J)).toArray:=by rw[jf]
  unfold Instr.build;simp only[Sem.run_bind,mq hz,Result.andThen_ok];split at h
  .rename_i fs hu;split at h
   .rename_i places hp;simp only[aaH,acx]at h;obtain⟨r,hr,_,rfl⟩:=h;have hf:=kG (J:=J) _ _ _ hr;rw[<-a]at hf;have c:(fs.mapM fun(f:Field)=>(do pure (f.offset,<-sizeOf f.type):Sem (Nat×Nat))).run P w=.ok places.toArray w:=by
     have:=uG (w:=w) _ _ hp;obtain⟨fs⟩:=fs;simp only[agw,Sem.run_map,this,Result.andThen_ok]
    simp only[run_underlying hu,Result.andThen_ok,Sem.run_bind,c];have e:(fun(i:Nat)=>places.toArray[i]?)=(fun(i:Nat)=>places[i]?):=by funext i;simp
    simp only[e,hf];rfl
   .cases h
  .rename_i m el hu;split at h
   .rename_i q hs;simp only[aaH,acx]at h;obtain⟨r,hr,_,rfl⟩:=h;have hf:=kG (J:=J) _ _ _ hr;rw[<-a]at hf;simp only[run_underlying hu,Result.andThen_ok,Sem.run_bind,dq hs,hf];rfl
   .cases h
  .cases h
 .cases h
def IT {vs:List TV} (h:WK P t is vs=some (n,v)) (hn:aY J n=true):(Instr.build t (is.zip (vs.map (TV.ev J))).toArray).run P w=.ok (v.ev J) w:=by
 unfold WK at h;split at h
 .rename_i j z fs hz hu;split at h
  .rename_i y f k hf;split at h
   .rename_i ho;cases h;rw[mA,aas]at hn;have hv:(J.v j).oneCell'=true:=by
     rcases Cf hn with h | ⟨a,b,h⟩<;>rw[h]<;>rfl
    have d:(fs.mapM fun(f:Field)=>(do pure (f.offset,<-sizeOf f.type):Sem (Nat×Nat))).run P w=.ok #[(0,1)] w:=by
     have:=uG (P:=P) (w:=w) fs.toList [(0,1)] (by rw[hf];simp [ho.1,ho.2,iN]);obtain⟨fs⟩:=fs;simp only[agw,Sem.run_map,this,Result.andThen_ok]
    have g:z.cells=((z.cells.toList.map il).map (CV.ev J)).toArray:=by rw[jf]
    have c:=kG (J:=J) (place:=fun i=>([(0,1)]:List (Nat×Nat))[i]?) [(0,.one (.val (J.v j)))] (z.cells.toList.map il) [.val (J.v j)] (by
     rw[k];simp [Ay,SV.cells,CV.tI,hv,bm])
    rw[<-g]at c;unfold Instr.build;simp only[Sem.run_bind,mq hz,Result.andThen_ok,run_underlying hu,d];have e:(fun(i:Nat)=>(#[(0,1)]:Array (Nat×Nat))[i]?)=(fun(i:Nat)=>([(0,1)]:List (Nat×Nat))[i]?):=by funext i;simp
    have m:([0].zip ([TV.sv (.one (.vr j))].map (TV.ev J))).toArray.toList=[(0,J.v j)]:=rfl;simp only[e];have c:Instr.fill (fun i=>([(0,1)]:List (Nat×Nat))[i]?) z.cells [(0,J.v j)]=some #[J.v j]:=c;have l:[0].zip ([TV.sv (.one (.vr j))].map (TV.ev J))=[(0,J.v j)]:=rfl;rw[l,c];rfl
   .cases h
  .cases h
 .cases h
theorem qN {rec:TypeId->SV->SV->Option E} {D:Nat} (c:∀ t x y e,rec t x y=some e->(Op.equalIn D t (x.ev J) (y.ev J)).run P w=.ok (aY J e) w) {xs ys:List CV} :
 ∀ (fs:List Field) (e:E),FY P rec xs ys fs=some e->(Op.eqFields D (xs.map (CV.ev J)).toArray (ys.map (CV.ev J)).toArray fs).run P w=.ok (aY J e) w
 | [],e,h=>by cases h;trivial
 | f::fs,e,h=>by
  unfold FY at h;unfold Op.eqFields;split at h
  .rename_i hn;rw[ab9 hn];split at h
   .rename_i a b d hb;split at h
    .rename_i q r g hr;cases h;have ih:=qN c fs r hr;simp only[Sem.run_bind,hZ d,hZ hb,Result.andThen_ok,c _ _ _ _ g,aN];cases hb:aY J q with
     | true=>grind
     | false=>simp
    .cases h
   .cases h
  .rename_i hn;rw[aa8 hn];exact qN c fs e h
theorem yc {rec:TypeId->SV->SV->Option E} {D:Nat} (c:∀ t x y e,rec t x y=some e->(Op.equalIn D t (x.ev J) (y.ev J)).run P w=.ok (aY J e) w) {t:TypeId} {xs ys:List CV} :
 ∀ (is:List Nat) (e:E),K3 P rec t xs ys is=some e->(Op.eqItems D t (P.cellsOf t) (xs.map (CV.ev J)).toArray (ys.map (CV.ev J)).toArray is).run P w=.ok (aY J e) w
 | [],e,h=>by cases h;trivial
 | i::is,e,h=>by
  unfold K3 at h;unfold Op.eqItems;split at h
  .rename_i a b d hb;split at h
   .rename_i q r f hr;cases h;have ih:=yc c is r hr;simp only[Sem.run_bind,hZ d,hZ hb,Result.andThen_ok,c _ _ _ _ f,aN];cases hb:aY J q with
    | true=>grind
    | false=>simp
   .cases h
  .cases h
theorem II (a b:ByteArray):(a==b)=decide (a=b):=by
 rw[afP];simp only[aas];cases a;cases b;simp only[BEq.beq,ByteArray.beq,ByteArray.mk.injEq];exact⟨fun h=>Array.eq_of_isEqv _ _ (by grind),fun h=>by subst h;simpa [BEq.beq] using Array.isEqv_self _⟩
theorem I4 {d:Nat} {a b:CV} (h:Ec P (d+1) t (.one a) (.one b)=some e):(∃ k x f y,a=.int k x/\b=.int f y)\/(∃ x y,a=.str x/\b=.str y)\/(∃ x y,a=.bool x/\b=.bool y)\/(∃ x y l c x' y' l' c',a=.sl x y l c/\b=.sl x' y' l' c')\/(∃ x y x' y',a=.hptr x y/\b=.hptr x' y')\/(∃ x y,a=.map x/\b=.map y):=by
 unfold Ec at h
 grind
def ri {x x':E} (he:(if x'=.lit (-1)then some (mkEq x (.lit (-1)))else if x=.lit (-1)then some (mkEq x' (.lit (-1)))else none)=some e) :
 (aw J x'= -1/\aY J e=decide (aw J x= -1))\/(aw J x= -1/\aY J e=decide (aw J x'= -1)):=by
 split at he
 .rename_i hx;cases he;subst hx;exact Or.inl ⟨rfl,by rw[fN];rfl⟩
 .split at he
  .rename_i hx;cases he;subst hx;exact Or.inr ⟨rfl,by rw[fN];rfl⟩
  .cases he
theorem ui:∀ (d:Nat) (t:TypeId) (x y:SV) (e:E) (D:Nat),d<=D->Ec P d t x y=some e->(Op.equalIn D t (x.ev J) (y.ev J)).run P w=.ok (aY J e) w
 | 0,_,_,_,_,_,_,h=>by cases h
 | d+1,t,x,y,e,D,j,h=>by
  obtain⟨D,rfl⟩:∃ D',D=D'+1:=⟨D-1,ah⟩;have ih:∀ t x y e,Ec P d t x y=some e->(Op.equalIn D t (x.ev J) (y.ev J)).run P w=.ok (aY J e) w:=fun t x y e h=>ui d t x y e D ah h;unfold Ec at h;split at h
  .rename_i hu;split at h
   .cases h;simp [Op.equalIn,Sem.run_bind,run_underlying hu,SV.ev,CV.ev,MK]
   .cases h
  .rename_i kk hu;split at h
   .split at h
    .rename_i hk;subst hk;cases h;simp [Op.equalIn,Sem.run_bind,run_underlying hu,SV.ev,CV.ev,fN];rfl
    .cases h
   .cases h
  .rename_i hu;split at h
   .rename_i a b;cases h;have:(lC J a==lC J b)=decide (lC J a=lC J b):=II _ _;simp only[Op.equalIn,Sem.run_bind,run_underlying hu,SV.ev,CV.ev,wY,Result.andThen_ok,Sem.run_pure,this]
   .cases h
  .rename_i el hu;split at h
   .rename_i x f q1 l x' g q2 m;rw[Op.equalIn];simp only[Sem.run_bind,run_underlying hu,Result.andThen_ok,SV.ev,CV.ev];rcases ri (J:=J) h with ⟨h1,c⟩ | ⟨h1,c⟩
    .rw[h1,dr,c];cases hs:au (aw J x) (aw J f)with
     | none=>have:=j7 (aw J x) (aw J f);simp_all
     | some q=>have:=j7 (aw J x) (aw J f);simp_all
    .rw[h1,dr,c];simp [j7]
   .cases h
  .rename_i el hu;split at h
   .rename_i x f x' g;rw[Op.equalIn];simp only[Sem.run_bind,run_underlying hu,Result.andThen_ok,SV.ev,CV.ev];rcases ri (J:=J) h with ⟨h1,c⟩ | ⟨h1,c⟩
    .rw[h1,dr,c];cases hs:au (aw J x) (aw J f)with
     | none=>have:=j7 (aw J x) (aw J f);simp_all
     | some q=>have:=j7 (aw J x) (aw J f);simp_all
    .rw[h1,dr,c];simp [j7]
   .cases h
  .rename_i k el hu;split at h
   .rename_i x x';rw[Op.equalIn];simp only[Sem.run_bind,run_underlying hu,Result.andThen_ok,SV.ev,CV.ev];rcases ri (J:=J) h with ⟨h1,c⟩ | ⟨h1,c⟩
    .rw[h1,ab9 rfl,c];by_cases hx:aw J x= -1
     .simp [hx]
     .simp [hx]
    .rw[h1,ab9 rfl,c];by_cases hx:aw J x'= -1
     .simp [hx]
     .simp [hx]
   .cases h
  .rename_i fs hu;split at h
   .split at h
    .rename_i hp;have hf:P.fieldsOf t=fs:=by simp [Program.fieldsOf,hu]
     simp only[SV.ev];rw[run_equalIn_struct w D t _ _ (by grind) hp,hf];exact qN ih _ _ h
    .cases h
   .cases h
  .rename_i n el hu;split at h
   .split at h
    .rename_i i hi;simp only[SV.ev];rw[run_equalIn_array w D _ _ hu hi];exact yc ih _ _ h
    .cases h
   .cases h
  .cases h
theorem IP {x y:TV} {X Y:Operand} (h:WH P op t x y=some (n,v)) (hn:aY J n=true) :
 Sem.run P (do eqGuard op t X Y (x.ev J) (y.ev J);binOp op t (x.ev J) (y.ev J)) w=.ok (v.ev J) w:=by
 unfold WH at h;split at h
 .rename_i k a g b;have:=IQ (T:=t) (w:=w) (P:=P) h hn;simp only[TV.ev,SV.ev,CV.ev]at this ⊢;have hg:(eqGuard op t X Y (.int k (aw J a)) (.int g (aw J b))).run P w=.ok () w:=by
   unfold eqGuard;split<;>rfl
  simp_all
 .rename_i a b;have:=IS (T:=t) (w:=w) (P:=P) h hn;simp only[TV.ev,SV.ev,CV.ev]at this ⊢;have hg:(eqGuard op t X Y (.string (lC J a)) (.string (lC J b))).run P w=.ok () w:=by
   unfold eqGuard;split<;>rfl
  simp_all
 .rename_i a b i j;split at h
  .rename_i e he;have heq:(Op.equal t (a.ev J) (b.ev J)).run P w=.ok (aY J e) w:=ui 20 t _ _ e 10000 az he;have d:(∃ x y,a=.bool x/\b=.bool y)\/(∃ x y l c x' y' l' c',a=.sl x y l c/\b=.sl x' y' l' c')\/(∃ x y x' y',a=.hptr x y/\b=.hptr x' y')\/(∃ x y,a=.map x/\b=.map y):=by
    rcases I4 he with ⟨_,_,_,_,rfl,rfl⟩ | ⟨_,_,rfl,rfl⟩ | h | h | h | h
    .grind
    .grind
    .grind
    .grind
    .grind
    .grind
   rcases d with ⟨x,y,rfl,rfl⟩ | ⟨x,y,l,c,x',y',l',c',rfl,rfl⟩ | ⟨x,y,x',y',rfl,rfl⟩ | ⟨x,y,rfl,rfl⟩
   all_goals
    split at h
    .cases h;simp only[TV.ev,SV.ev]at heq ⊢;simp only[CV.ev]at heq ⊢;simp only[Sem.run_bind,eqGuard,binOp,heq,Sem.run_pure,Result.andThen_ok];simp [heq]
    .cases h;simp only[TV.ev,SV.ev]at heq ⊢;simp only[CV.ev]at heq ⊢;simp [Sem.run_bind,eqGuard,binOp,heq,cU]
    .cases h
  .cases h
 .rename_i a b;split at h
  .rename_i f;have hg:∀ op,(eqGuard op t X Y (SV.ev J (.agg a)) (SV.ev J (.agg b))).run P w=.ok () w:=by
    intro op;cases op<;>simp [eqGuard,SV.ev,Sem.run_bind,run_program,f]
   split at h
   .rename_i e he;have heq:(Op.equal t (SV.ev J (.agg a)) (SV.ev J (.agg b))).run P w=.ok (aY J e) w:=ui 20 t _ _ e 10000 az he;split at h
    .cases h;simp only[SV.ev]at hg heq;simp only[TV.ev,SV.ev,CV.ev,Sem.run_bind,hg,Result.andThen_ok,binOp,heq,Sem.run_pure]
    .cases h;simp only[SV.ev]at hg heq;simp only[TV.ev,SV.ev,CV.ev,Sem.run_bind,hg,Result.andThen_ok,binOp,heq,Sem.run_pure,cU]
    .cases h
   .cases h
  .cases h
 .cases h
end
section
variable {P:Program} {S:Nat->Prop} {w0:World} {J:Env} {st:St} {mem:Mem} {a:Act} {w:World} {n:E} {v:TV}
def MRel.Q0 (h:MRel S w0 J mem w) {x:E} (hx:aY J (Q0 mem x)=true):-1<=aw J x:=by
 unfold Sx.Q0 at hx;split at hx
 .split at hx
  .rename_i a b;have:=Av h b;rw[ar];omega
  .rw[mA,aq,aas]at hx;exact hx
 .rw[aX,aq,aas]at hx;exact hx
def gV {k:IntKind} {y:Nat} {code:BoundsCode} (h0:0<=i) (h1:i<=y):(Instr.sliceBound (.int k i) y code).run P w=.ok i.toNat w:=by
 unfold Instr.sliceBound;simp only[asIntOf,Sem.run_bind,Sem.run_pure,Result.andThen_ok,h0,h1,and_self,afm]
theorem oC {d:E} {x:Option TV} (h:nT d x=some e):(x=none/\e=d)\/∃ k,x.map (TV.ev J)=some (.int k (aw J e)):=by
 unfold nT at h;split at h
 .grind
 .cases h;exact Or.inr ⟨_,rfl⟩
 .cases h
def lD {isSlice:Bool} {len:Nat} {dl b l h:E} (hl:nT dl lo=some l) (hh:nT b hi=some h) (h0:aw J dl=0) (h1:aw J b=len)
 (a0:0<=aw J l) (a1:aw J l<=aw J h) (a2:aw J h<=cap) :
 (Instr.sliceBounds isSlice len cap (lo.map (TV.ev J)) (hi.map (TV.ev J)) none).run P w=.ok ((aw J l).toNat,(aw J h).toNat,cap) w:=by
 unfold Instr.sliceBounds;simp only[Sem.run_bind,Sem.run_pure,Result.andThen_ok];rcases oC (J:=J) hh with ⟨rfl,rfl⟩ | ⟨k,hk⟩
 .simp only[af2,Sem.run_pure,Result.andThen_ok];rw[h1];rcases oC (J:=J) hl with ⟨rfl,rfl⟩ | ⟨c,a⟩
  .simp_all
  .simp only[a,Sem.run_bind,Sem.run_pure,Result.andThen_ok];rw[gV a0 ah];simp
 .simp only[hk,Sem.run_bind];rw[gV ah a2];simp only[Result.andThen_ok];rcases oC (J:=J) hl with ⟨rfl,rfl⟩ | ⟨c,a⟩
  .simp_all
  .simp only[a,Sem.run_bind];rw[gV a0 ah];simp
theorem xE {m l y:E} (hl:0<=aw J l):aw J (BY m l y k)=if aw J m=aw J l then aw J y else aw J y+(((aw J l).toNat*k:Nat):Int):=by
 unfold BY;rw[jc,fN,fc,oN,aq,sG hl]
 grind
def H0 {x y:Int} (hx:-1<=x) (hy:0<=y) (k:Nat):(au x y).map (·.add k)=au x (y+k):=by
 by_cases h:0<=x
 .rw[av h,sZ h hy,acr,fg]
 .have:x= -1:=ah;subst this;rfl
theorem E7 (hm:MRel S w0 J mem w) {x:TV} (h:Kg P mem t x lo hi mx=some (n,v)) (hn:aY J n=true) :
 (Instr.sliceAt t (x.ev J) (lo.map (TV.ev J)) (hi.map (TV.ev J)) (mx.map (TV.ev J))).run P w=.ok (v.ev J) w:=by
 unfold Kg at h;split at h
 .cases h
 .split at h
  .rename_i s hu;split at h
   .rename_i l hh hl a;cases h;rw[aN,aaM,aN,aaM,aX,aX,aX,aq,aas,aas,aas,ml]at hn;obtain⟨a0,a1,a2⟩:=hn;have hb:=lD (P:=P) (w:=w) (isSlice:=false) (len:=(lC J s).size) (cap:=(lC J s).size) hl a (aq _ _) (ml _ _) a0 a1 a2;unfold Instr.sliceAt;simp only[Sem.run_bind,run_underlying hu,Result.andThen_ok];unfold Instr.slice;simp only[Sem.run_bind,run_underlying hu,Result.andThen_ok,TV.ev,SV.ev,CV.ev,af2,Option.isSome_none,acQ,afw,Sem.run_pure,hb,So]
   .cases h
  .rename_i el x y len cap hu;split at h
   .rename_i l hh k hl a hs;cases h;rw[aN,aaM,aN,aaM,aN,aaM,aN,aaM,aX,aX,aX,aX,aq,aas,aas,aas,aas]at hn;obtain⟨hx,hy,a0,a1,a2⟩:=hn;have hx:=hm.Q0 hx;by_cases hlen:0<=aw J len
    .have hb:=lD (P:=P) (w:=w) (isSlice:=true) (len:=(aw J len).toNat) (cap:=(aw J cap).toNat) hl a (aq _ _) (by grind) a0 a1 ah;unfold Instr.sliceAt;simp only[Sem.run_bind,run_underlying hu,Result.andThen_ok];unfold Instr.slice;simp only[Sem.run_bind,run_underlying hu,Result.andThen_ok,TV.ev,SV.ev,CV.ev,af2,hb,dq hs,Sem.run_pure,xE a0,oO]
     congr 2
     .by_cases b:aw J cap=aw J l
      .grind
      .rw[aa8 ah,aa8 b,H0 hx hy]
     .omega
     .omega
    .
     rcases oC (J:=J) a with ⟨rfl,rfl⟩ | ⟨kk,hk⟩
     .omega
     .unfold Instr.sliceAt;simp only[Sem.run_bind,run_underlying hu,Result.andThen_ok];unfold Instr.slice;simp only[Sem.run_bind,run_underlying hu,Result.andThen_ok,TV.ev,SV.ev,CV.ev,af2];have hb:(Instr.sliceBounds true (aw J len).toNat (aw J cap).toNat (lo.map (TV.ev J)) (hi.map (TV.ev J)) none).run P w=.ok ((aw J l).toNat,(aw J hh).toNat,(aw J cap).toNat) w:=by
       unfold Instr.sliceBounds;simp only[Sem.run_bind,Sem.run_pure,Result.andThen_ok,hk];rw[gV ah ah];simp only[Result.andThen_ok];rcases oC (J:=J) hl with ⟨rfl,rfl⟩ | ⟨d,c⟩
       .trivial
       .simp only[c,Sem.run_bind];rw[gV a0 ah];simp
      simp only[hb,dq hs,Sem.run_pure,xE a0,oO,Result.andThen_ok]
      congr 2
      .by_cases b:aw J cap=aw J l
       .grind
       .rw[aa8 ah,aa8 b,H0 hx hy]
      .omega
      .omega
   .cases h
  .rename_i q el x y hu;split at h
   .rename_i l hh k hl a hs;cases h;rw[aN,aaM,aN,aaM,aN,aaM,aN,aaM,aX,aX,aX,aX,aq,aq,aas,aas,aas,aas]at hn;obtain⟨hx,hy,a0,a1,a2⟩:=hn;have hx:=hm.GL hx;have hb:=lD (P:=P) (w:=w) (isSlice:=false) (len:=q) (cap:=q) hl a (aq _ _) (aq _ _) a0 a1 a2;have es:aw J (BY (.lit q) l y k)=if(q:Int)=aw J l then aw J y else aw J y+(((aw J l).toNat*k:Nat):Int):=xE a0
    unfold Instr.sliceAt;simp only[Sem.run_bind,run_underlying hu,Result.andThen_ok,TV.ev,SV.ev,CV.ev,av hx,Instr.sureAddr,Sem.run_pure,af2,hb,dq hs,es,oO,aq]
    congr 2
    .by_cases b:(q:Int)=aw J l
     .grind
     .rw[aa8 ah,aa8 b,fg];grind
    .omega
    .omega
   .cases h
  .cases h
theorem By {o:Option Operand} {x:Option TV} (hr:Rel S w0 J st a w) (h:(match o with | none=>some none | some o=>(cA st o).map some)=some x):o.map a.eval=x.map (TV.ev J):=by
 cases o with
 | none=>grind
 | some o =>
  simp only[aaH]at h;obtain⟨y,hy,rfl⟩:=h;simp [aH hr hy]
def Ey (hr:Rel S w0 J st a w) {x y:Operand} (h:Jy P st op t x y=some (n,v)) (hn:aY J n=true) :
 Sem.run P (do eqGuard op t x y (a.eval x) (a.eval y);binOp op t (a.eval x) (a.eval y)) w=.ok (v.ev J) w:=by
 unfold Jy at h;split at h
 .rename_i j hx;have e1:=aH hr hx;simp only[TV.ev,SV.ev,CV.ev]at e1;have b:a.eval (.const .nilIface)=.nilIface:=rfl;split at h
  .rename_i ms c;have heq:(Op.equal t (J.v j) .nilIface).run P w=.ok (decide (qA (J.v j)=0)) w:=by
    have hd:∀ v:Value,v=.nilIface\/(∃ t x,v=.iface t x)->(Op.equal t v .nilIface).run P w=.ok (decide (qA v=0)) w:=by
     rintro v (rfl | ⟨t',x',rfl⟩)
     .show(Op.equalIn (9999+1) t .nilIface .nilIface).run P w=_;rw[Op.equalIn];simp only[Sem.run_bind,run_underlying c,Result.andThen_ok,Sem.run_pure,qA];rfl
     .show(Op.equalIn (9999+1) t (.iface t' x') .nilIface).run P w=_;rw[Op.equalIn];simp only[Sem.run_bind,run_underlying c,Result.andThen_ok,Sem.run_pure,qA];rfl
    refine hd _ (Cf ?_);split at h
    .cases h;rw[mA,aas]at hn;exact hn
    .cases h;rw[mA,aas]at hn;exact hn
    .cases h
   have hv:J.v j=.nilIface\/(∃ t x,J.v j=.iface t x):=by
    refine Cf ?_;split at h
    .cases h;rw[mA,aas]at hn;exact hn
    .cases h;rw[mA,aas]at hn;exact hn
    .cases h
   have hg:∀ op,(eqGuard op t x (.const .nilIface) (J.v j) .nilIface).run P w=.ok () w:=by
    intro op;rcases hv with h | ⟨t',x',h⟩<;>rw[h]<;>cases op<;>simp [eqGuard]
   have hb:(binOp .eql t (J.v j) .nilIface).run P w=.ok (.bool (decide (qA (J.v j)=0))) w/\(binOp .neq t (J.v j) .nilIface).run P w=.ok (.bool (!decide (qA (J.v j)=0))) w:=by
    rcases hv with h | ⟨t',x',h⟩<;>rw[h]at heq ⊢<;>constructor<;>simp only[binOp,Sem.run_bind,heq,Result.andThen_ok,Sem.run_pure]
   split at h
   .cases h;simp only[e1,b,Sem.run_bind,hg,Result.andThen_ok,hb.1];rfl
   .cases h;simp only[e1,b,Sem.run_bind,hg,Result.andThen_ok,hb.2];rfl
   .cases h
  .cases h
 .rename_i hx;have e1:=aH hr hx;have b:a.eval (.const .nilIface)=.nilIface:=rfl;have e1:a.eval x=.nilIface:=e1;split at h
  .rename_i ms c;have hd:(Op.equal t .nilIface .nilIface).run P w=.ok true w:=by
    show(Op.equalIn (9999+1) t .nilIface .nilIface).run P w=_;rw[Op.equalIn];simp only[Sem.run_bind,run_underlying c,Result.andThen_ok,Sem.run_pure]
   have hg:∀ op,(eqGuard op t x (.const .nilIface) .nilIface .nilIface).run P w=.ok () w:=by
    intro op;cases op<;>simp [eqGuard]
   have hb:(binOp .eql t .nilIface .nilIface).run P w=.ok (.bool true) w/\(binOp .neq t .nilIface .nilIface).run P w=.ok (.bool false) w:=by
    constructor<;>simp only[binOp,Sem.run_bind,hd,Result.andThen_ok,Sem.run_pure]<;>rfl
   split at h
   .cases h;simp only[e1,b,Sem.run_bind,hg,Result.andThen_ok,hb.1];rfl
   .cases h;simp only[e1,b,Sem.run_bind,hg,Result.andThen_ok,hb.2];rfl
   .cases h
  .cases h
 .cases h
def rN (hr:Rel S w0 J st a w) {o:Oper} (h:quiet P st o.op=some (n,v)) (hn:aY J n=true) :
 (execOp a.eval o).run P w=.ok (.value (v.ev J)) w:=by
 obtain⟨dst,op,ty,pos,H,gd⟩:=o;simp only at h;unfold quiet at h;split at h
 .rename_i x;simp only[aaH,acx]at h;obtain⟨y,hy,_,rfl⟩:=h;simp only[execOp,Sem.run_pure,aH hr hy]
 .rename_i x;simp only[aaH,acx]at h;obtain⟨y,hy,_,rfl⟩:=h;simp only[execOp,Sem.run_pure,aH hr hy]
 .rename_i c x y;split at h
  .rename_i e k;have e1:=aH hr k;simp only[TV.ev,SV.ev,CV.ev]at e1;split at h
   .rename_i hk;simp only[aaH,acx]at h;obtain⟨z,hz,_,rfl⟩:=h;simp only[execOp,Sem.run_bind,e1,fw hr.path hk,asBool,Sem.run_pure,Result.andThen_ok,afm,aH hr hz]
   .rename_i hk;simp only[aaH,acx]at h;obtain⟨z,hz,_,rfl⟩:=h;simp only[execOp,Sem.run_bind,e1,fw hr.path hk,asBool,Sem.run_pure,Result.andThen_ok,afw,acQ,aH hr hz]
   .split at h
    .rename_i I K E hb;simp only[aaH,acx]at h;obtain⟨u,hu,_,rfl⟩:=h;have em:=Bn (J:=J) hu;simp only[execOp,Sem.run_bind,e1,asBool,Sem.run_pure,Result.andThen_ok,TV.ev,em,aH hr E,aH hr hb]
    .cases h
  .cases h
 .rename_i x;split at h
  .rename_i p q hx;cases h;have hp:=hr.toMRel.GL hn;have e1:=aH hr hx;simp only[TV.ev,SV.ev,CV.ev]at e1;simp only[execOp,e1,TV.ev,SV.ev,CV.ev,av hp,Sem.run_pure]
  .cases h
 .rename_i op t x y _;split at h
  .rename_i r A;cases h;have:=Ey hr A hn;unfold execOp;simp only[Sem.run_bind]at this ⊢;rw[this];simp only[Result.andThen_ok,Sem.run_pure]
  split at h
  .rename_i v1 v2 hx hy;have e1:=aH hr hx;have j:=aH hr hy;have:=IP (w:=w) (X:=x) (Y:=y) h hn;rw[<-e1,<-j]at this;unfold execOp;simp only[Sem.run_bind]at this ⊢;rw[this];simp only[Result.andThen_ok,Sem.run_pure]
  .cases h
 .rename_i op t x;split at h
  .rename_i v1 hx;simp only[execOp,Sem.run_bind,aH hr hx,OH (w:=w) (P:=P) (J:=J) h,Result.andThen_ok,Sem.run_pure]
  .cases h
 .rename_i s d x;split at h
  .rename_i v1 hx;simp only[execOp,Sem.run_bind,aH hr hx,FQ hr.toMRel h hn,Result.andThen_ok,Sem.run_pure]
  .cases h
 .rename_i s x f;split at h
  .rename_i v1 hx;simp only[execOp,Sem.run_bind,aH hr hx,xe hr.toMRel h hn,Result.andThen_ok,Sem.run_pure]
  .cases h
 .rename_i s x f;split at h
  .rename_i v1 hx;simp only[execOp,Sem.run_bind,aH hr hx,Ee (w:=w) (J:=J) h,Result.andThen_ok,Sem.run_pure]
  .cases h
 .rename_i t x y;split at h
  .rename_i v1 v2 hx hy;simp only[execOp,Sem.run_bind,aH hr hx,aH hr hy,xi hr.toMRel h hn,Result.andThen_ok,Sem.run_pure]
  .cases h
 .rename_i t x y;split at h
  .rename_i v1 v2 hx hy;simp only[execOp,Sem.run_bind,aH hr hx,aH hr hy,Ep (w:=w) h hn,Result.andThen_ok,Sem.run_pure]
  .cases h
 .rename_i t x;split at h
  .rename_i c hx;simp only[aaH,acx]at h;obtain⟨⟨L,u⟩,hu,rfl,rfl⟩:=h;have e1:=aH hr hx;obtain⟨p,hp,hl⟩:=yl hr.toMRel hu hn;simp only[TV.ev,SV.ev,hp]at e1;simp only[execOp,Sem.run_bind,e1,Instr.loadAt,Instr.sureAddr,Sem.run_pure,Result.andThen_ok,hl,TV.ev]
  .cases h
 .rename_i x i;split at h
  .rename_i v1 hx;simp only[execOp,Sem.run_bind,aH hr hx,Au (w:=w) (P:=P) (J:=J) h,Result.andThen_ok,Sem.run_pure]
  .cases h
 .rename_i t x;split at h
  .rename_i q el x' y l c hu hx;cases h;rw[aX,aq,aas]at hn;have e1:=aH hr hx;simp only[TV.ev,SV.ev,CV.ev]at e1;have:¬(aw J l).toNat<q:=ah;simp only[execOp,Sem.run_bind,e1,Instr.arrayAt,run_underlying hu,Result.andThen_ok,aa8 this,Sem.run_pure,TV.ev,SV.ev,CV.ev]
  .cases h
 .rename_i t x lo hi mx;split at h
  .rename_i v1 hx;split at h
   .rename_i l hh m h1 F G;have:=E7 hr.toMRel h hn;rw[<-By hr h1,<-By hr F,<-By hr G,<-aH hr hx]at this;simp only[execOp,Sem.run_bind,this,Result.andThen_ok,Sem.run_pure]
   .cases h
  .cases h
 .rename_i f first captured
  split at h
  .rename_i k;cases h;obtain⟨rfl,rfl⟩:=k;simp [execOp,Sem.run_bind,Instr.makeFunc,TV.ev,SV.ev,CV.ev]
  .split at h
   .rename_i c g;split at h
    .rename_i hf;split at h
     .rename_i x y hx;split at h
      .rename_i hy;cases h;subst hy;subst hf;have e1:=aH hr hx;simp only[TV.ev,SV.ev,CV.ev,aq]at e1;have B:captured=#[c]:=by
        obtain⟨l⟩:=captured;simp only at g;subst g;rfl
       subst B;simp [execOp,Sem.run_bind,Instr.makeFunc,TV.ev,SV.ev,CV.ev,e1]
      .cases h
     .cases h
    .cases h
   .rename_i c d g;split at h
    .rename_i hf;split at h
     .rename_i x y x' y' hx C;split at h
      .rename_i hy;obtain⟨hy,D⟩:=hy;cases h;subst hy D;subst hf;have e1:=aH hr hx;have j:=aH hr C;simp only[TV.ev,SV.ev,CV.ev,aq]at e1 j;have B:captured=#[c,d]:=by
        obtain⟨l⟩:=captured;simp only at g;subst g;rfl
       subst B;simp [execOp,Sem.run_bind,Instr.makeFunc,TV.ev,SV.ev,CV.ev,e1,j]
      .cases h
     .cases h
    .cases h
   .cases h
 .rename_i b args ats;split at h
  .rename_i vs hx;have e1:=jj hr _ _ hx;have j:args.map a.eval=(vs.map (TV.ev J)).toArray:=by
    rw[<-e1];obtain⟨l⟩:=args;exact age
   rw[BigFrame.execOp_builtin,j];exact Ab hr.toMRel h hn
  .cases h
 .rename_i t parts;split at h
  .rename_i vs hx;have e1:=jj hr _ _ hx;have j:(parts.map fun p=>(p.1,a.eval p.2))=((parts.toList.map (·.1)).zip (vs.map (TV.ev J))).toArray:=by
    rw[<-e1,adv,<-GF parts.toList];obtain⟨l⟩:=parts;exact age
   split at h
   .rename_i r hb;cases h;have:=IT (w:=w) (J:=J) hb hn;rw[<-j]at this;simp only[execOp,Sem.run_bind,this,Result.andThen_ok,Sem.run_pure]
   .have:=DX (w:=w) (J:=J) h;rw[<-j]at this;simp only[execOp,Sem.run_bind,this,Result.andThen_ok,Sem.run_pure]
  .cases h
 .cases h
end
def Env.dw (J:Env) (n:Nat) (x:Int):Env:={J with i:=fun k=>if k=n then x else J.i k}
def Env.mY (J:Env) (n:Nat) (x:Hl):Env:={J with h:=fun k=>if k=n then x else J.h k}
def Env.HY (J:Env) (n:Nat) (x:Value):Env:={J with v:=fun k=>if k=n then x else J.v k}
def Env.Ot (J:Env) (n:Nat) (x:Bool):Env:={J with b:=fun k=>if k=n then x else J.b k}
def Env.Ve (J:Env) (n:Nat) (x:ByteArray):Env:={J with s:=fun k=>if k=n then x else J.s k}
section
variable (J:Env) (n m:Nat)
def oq (x:Int):(J.dw n x).i n=x:=by simp [Env.dw]
def Mi (x:Int) (h:m≠n):(J.dw n x).i m=J.i m:=by simp [Env.dw,h]
def gu (x:Hl):(J.mY n x).h n=x:=by simp [Env.mY]
def bI (x:Int) (h:n<=k):ai n J (J.dw k x):=⟨fun j a=>by simp [Env.dw];omega,fun _ _=>rfl,fun _ _=>rfl,fun _ _=>rfl,fun _ _=>rfl⟩
def fh (x:Hl) (h:n<=k):ai n J (J.mY k x):=⟨fun _ _=>rfl,fun _ _=>rfl,fun _ _=>rfl,fun _ _=>rfl,fun j a=>by simp [Env.mY];omega⟩
def zS (x:Value) (h:n<=k):ai n J (J.HY k x):=⟨fun _ _=>rfl,fun _ _=>rfl,fun _ _=>rfl,fun j a=>by simp [Env.HY];omega,fun _ _=>rfl⟩
def zR (x:Bool) (h:n<=k):ai n J (J.Ot k x):=⟨fun _ _=>rfl,fun j a=>by simp [Env.Ot];omega,fun _ _=>rfl,fun _ _=>rfl,fun _ _=>rfl⟩
def IB (x:ByteArray) (h:n<=k):ai n J (J.Ve k x):=⟨fun _ _=>rfl,fun _ _=>rfl,fun j a=>by simp [Env.Ve];omega,fun _ _=>rfl,fun _ _=>rfl⟩
end
def Hl.put (h:Hl) (x y:Nat) (vs:List Value):Hl:=fun b=>if b=x then
 match h x with
 | some (.cells c T fr)=>some (.cells (bm c.toList y vs).toArray T fr)
 | o=>o
 else h b
def Hl.wr (h:Hl) (x y n:Nat):Bool :=
 match h x with
 | some (.cells c _ fr)=>decide (y+n<=c.size)&&(decide (fr.2<=y)||decide (y+n<=fr.1))
 | _=>false
theorem Hl.ic {x y b:Nat} : (h.put x y vs).mem b↔h.mem b:=by
 unfold Hl.mem Hl.put
 grind
def Hl.un (a b:Hl):Hl:=fun k=>(a k).or (b k)
def bY (l:List Hl):Hl:=l.foldr Hl.un Hl.none
def Hl.le (a b:Hl):Prop:=∀ k o,a k=some o->b k=some o
theorem Hl.cG {a b:Hl} : (a.un b).mem k↔a.mem k\/b.mem k:=by
 unfold Hl.mem Hl.un
 grind
def Hl.Kz {a b:Hl} {w:World} (h1:a.sub w) (d:b.sub w):(a.un b).sub w:=by
 intro k o h;unfold Hl.un at h;cases c:a k with
 | some x=>rw[c]at h;cases h;exact h1 _ _ c
 | none=>rw[c]at h;exact d _ _ h
def aO (h:Hl) (e:TypeId) (size:Nat) (v:Value) (n:Nat) (xs:List Value):Prop :=
 xs.length=n*size /\
 ((v=.slice none 0 0/\n=0) \/
  ∃ g cap cur,v=.slice (some ⟨g,0,none⟩) n cap/\h g=some (.cells cur e (0,0))/\n<=cap/\cap<=maxLen/\cur.size=cap*size/\cur.toList.take (n*size)=xs)
inductive Src | cvs (l:List CV) (m:Nat) | seg (h:Nat) (x y l:E)
def bK (h:Hl) (x y n:Nat):List Value:=(List.range n).map fun j=>(h.cell x (y+j)).getD (.tuple #[])
def Src.len (J:Env):Src->Nat
 | .cvs _ m=>m
 | .seg _ _ _ l=>(aw J l).toNat
def Src.iX (J:Env) (size:Nat):Src->List Value
 | .cvs l _=>l.map (CV.ev J)
 | .seg h x y l=>bK (J.h h) (aw J x).toNat (aw J y).toNat ((aw J l).toNat*size)
def Src.ok (J:Env) (size:Nat):Src->Prop
 | .cvs l m=>True
 | .seg h x y l=>(0<=aw J x/\0<=aw J y/\0<=aw J l/\∀ j,j<(aw J l).toNat*size->∃ v,(J.h h).cell (aw J x).toNat ((aw J y).toNat+j)=some v/\v.oneCell'=true)\/aw J l=0
def nD (kd:Kd) (key:Value) (es:Array MapEntry):Option (Option (Nat×Value)) :=
 match kd with
 | .int k=>Instr.findNow (.int k) key es.toList 0
 | .str=>Instr.findNow .string key es.toList 0
 | _=>none
def uF (kd:Kd) (key val:Value) (es:Array MapEntry) (clock:Nat):Obj :=
 match nD kd key es with
 | some (some (i,_))=>.map (es.modify i fun e=>{e with key,val}) clock
 | _=>.map (es.push {key,val,born:=clock}) (clock+1)
def isAgg:Value->Bool
 | .agg _=>true
 | _=>false
def Hl.setObj (h:Hl) (x:Nat) (o:Obj):Hl:=fun b=>if b=x then some o else h b
inductive Ck | int (k:IntKind) | bool | str | any | ptr | sl | map | slw
inductive Cp | one (k:Ck) | agg (ks:List Ck)
def Ck.len:Ck->Nat
 | .ptr=>2 | .sl=>4 | .slw=>4 | _=>1
def Ck.cv (n:Nat):Ck->CV
 | .int k=>.int k (.var n)
 | .bool=>.bool (.bvar n)
 | .str=>.str (.svar n)
 | .any=>.vr n
 | .ptr=>.hptr (.var n) (.var (n+1))
 | .sl=>.sl (.var n) (.var (n+1)) (.var (n+2)) (.var (n+3))
 | .map=>.map (.var n)
 | .slw=>.sl (.var n) (.var (n+1)) (.var (n+2)) (.var (n+3))
def Ck.root (n:Nat):Ck->List E
 | .ptr | .sl | .map=>[.var n]
 | _=>[]
def aj:Nat->List Ck->List CV
 | _,[]=>[]
 | n,k::l=>k.cv n::aj (n+k.len) l
def KL:Nat->List Ck->List E
 | _,[]=>[]
 | n,k::l=>k.root n++KL (n+k.len) l
def aQ (l:List Ck):Nat:=(l.map Ck.len).sum
def Cp.sv (n:Nat):Cp->SV
 | .one k=>.one (k.cv n)
 | .agg ks=>.agg (aj n ks)
def Cp.len:Cp->Nat
 | .one k=>k.len
 | .agg ks=>aQ ks
def Cp.roots (n:Nat):Cp->List E
 | .one k=>k.root n
 | .agg ks=>KL n ks
def bQ:Nat->List Cp->List SV
 | _,[]=>[]
 | n,c::l=>c.sv n::bQ (n+c.len) l
def aL:Nat->List Cp->List E
 | _,[]=>[]
 | n,c::l=>c.roots n++aL (n+c.len) l
def aab (l:List Cp):Nat:=(l.map Cp.len).sum
def jO (n:Nat) (l:List Cp):TV :=
 match l with
 | [c]=>.sv (c.sv n)
 | l=>.tup (bQ n l)
def nV:Value->Ck
 | .int k _=>.int k
 | .bool _=>.bool
 | .string _=>.str
 | .slice _ _ _=>.sl
 | .pointer _=>.ptr
 | .map _=>.map
 | _=>.any
def mN (n:Nat) (ks:List Ck) (agg:Bool):SV:=if agg then .agg (aj n ks)else match ks with
 | [k]=>.one (k.cv n)
 | _=>.agg (aj n ks)
def oJ (ks:List Ck) (agg:Bool) (v:Value):Prop:=if agg then ∃ cs,v=.agg cs/\cs.toList.map nV=ks else ∃ k,ks=[k]/\nV v=k
def ir (n:Nat) (J:Env):Ck->Prop
 | .ptr=> -1<=J.i n/\0<=J.i (n+1)
 | .sl=> -1<=J.i n/\0<=J.i (n+1)/\0<=J.i (n+2)/\0<=J.i (n+3)
 | .map=> -1<=J.i n
 | .slw=>True/\0<=J.i (n+1)/\0<=J.i (n+2)/\0<=J.i (n+3)
 | _=>True
def bZ:Nat->List Ck->Env->Prop
 | _,[],_=>True
 | n,k::l,J=>ir n J k/\bZ (n+k.len) l J
def IZ (n:Nat) (J:Env):Cp->Prop
 | .one k=>ir n J k
 | .agg ks=>bZ n ks J
def bR:Nat->List Cp->Env->Prop
 | _,[],_=>True
 | n,c::l,J=>IZ n J c/\bR (n+c.len) l J
inductive Sel | arg (i:Nat) | link (i j:Nat) | far (i j k:Nat)
structure Spec where
 fn:FuncId
 own:List Sel
 rd:List Nat
 res:List Cp
 links:List Nat:=[]
 pre:List Value->List Hl->List Hl->Prop
 post:List Value->List Hl->List Hl->Value->List Hl->Hl->Prop
structure fq (w w':World) (Hs Hs':List Hl) (F:Hl):Prop where
 os:w'.os=w.os
 tape:w'.tape=w.tape
 output:w'.output=w.output
 size:w.heap.size<=w'.heap.size
 block:∀ b,b<w.heap.size->(∀ H∈Hs,¬H.mem b)->w'.heap[b]?=w.heap[b]?
 len:Hs'.length=Hs.length
 sub:∀ H∈Hs',H.sub w'
 fsub:F.sub w'
 dom:∀ H∈Hs',∀ b,H.mem b->(∃ K∈Hs,K.mem b)\/w.heap.size<=b
 fdom:∀ b,F.mem b->(∃ K∈Hs,K.mem b)\/w.heap.size<=b
 bq:∀ (p q:Nat) H K,p≠q->Hs'[p]?=some H->Hs'[q]?=some K->H.bq K
 fdis:∀ H∈Hs',H.bq F
def Spec.OK (P:Program) (s:Spec):Prop:=∀ w (xs:List Value) (Hs Rs:List Hl),Hs.length=s.own.length->Rs.length=s.rd.length ->
 (∀ H∈Hs,H.sub w)->(∀ R∈Rs,R.sub w)->(∀ (p q:Nat) H K,p≠q->Hs[p]?=some H->Hs[q]?=some K->H.bq K)->(∀ H∈Hs,∀ R∈Rs,H.bq R)->s.pre xs Hs Rs ->
 Calls P s.fn xs.toArray w fun e w'=>∃ (J:Env) (Hs':List Hl) (F:Hl),e=.returned ((jO 0 s.res).ev J)/\bR 0 s.res J/\fq w w' Hs Hs' F/\s.post xs Hs Rs ((jO 0 s.res).ev J) Hs' F
structure Ctx where
 Γ:List Spec
 inv:Nat->Env->Prop
 mu:Nat->Env->Nat
 post:Env->Mem->TV->Prop
inductive X
 | alloc (n:Nat)
 | put (n h:Nat) (x y:E) (cs:List CV)
 | app (n:Nat) (el:TypeId) (size bytes:Nat) (s:CV) (l:E) (H:bo) (src:Src)
 | grow (n:Nat) (el:TypeId) (size bytes:Nat) (olds:List CV) (l c:Nat) (src:Src)
 | mk (n:Nat) (el:TypeId) (z:List CV) (bytes:Nat) (l:E)
 | call (j n:Nat) (args:List TV) (own rd:List bo)
 | mnew (n:Nat)
 | mget (n h:Nat) (x:E) (kd:Kd) (key:CV) (z:SV) (ks:List Ck) (agg:Bool)
 | mset (n h:Nat) (x:E) (kd:Kd) (key:CV) (v:SV)
 | mclr (n h:Nat) (x:E)
 | cbs (n a:Nat) (cs:List CV) (T:TypeId)
 | Ub (n:Nat) (a b:bo)
 | cpy (n h:Nat) (x y ld:E) (hs:Nat) (xs ys ls:E)
 | OR (n:Nat) (r:bo)
 | mki (n:Nat) (T:TypeId) (v:SV)
def X.n:X->Nat
 | .mnew n | .mget n _ _ _ _ _ _ _ | .mset n _ _ _ _ _ | .mclr n _ _ | .cbs n _ _ _ | .Ub n _ _ | .cpy n _ _ _ _ _ _ _ _ | .OR n _ | .mki n _ _=>n
 | .alloc n | .put n _ _ _ _ | .app n _ _ _ _ _ _ _ | .grow n _ _ _ _ _ _ _ | .mk n _ _ _ _ | .call _ n _ _ _=>n
def newHs (J:Env) (n k:Nat):List Hl:=(List.range k).map fun j=>J.h (n+j)
def X.pre (C:Ctx) (J:Env):X->Prop
 | .alloc _=>True
 | .put _ h x y cs=>0<=aw J x/\0<=aw J y/\(J.h h).wr (aw J x).toNat (aw J y).toNat cs.length=true
 | .app _ el size bytes s l H src=>(∃ xs,aO (H.hl J) el size (s.ev J) (aw J l).toNat xs)/\0<=aw J l/\src.ok J size/\(aw J l).toNat+src.len J<=maxLen/\((aw J l).toNat+src.len J)*bytes<=140737488355328
 | .grow _ el size bytes olds l c src=>src.ok J size/\c<l+src.len J/\l+src.len J<=maxLen/\(l+src.len J)*bytes<=140737488355328
 | .mk _ el z bytes l=>0<=aw J l/\(bytes:Int)*aw J l<=281474976710656/\aw J l<=9223372036854775807
 | .call j _ args own rd=>match C.Γ[j]? with
  | some s=>s.pre (args.map (TV.ev J)) (own.map (bo.hl J)) (rd.map (bo.hl J))
  | none=>False
 | .mnew _=>True
 | .mget _ h x kd key z ks agg=>0<=aw J x/\∃ es clock r,J.h h (aw J x).toNat=some (.map es clock)/\nD kd (key.ev J) es=some r/\∀ i v,r=some (i,v)->oJ ks agg v
 | .mset _ h x kd key v=>0<=aw J x/\∃ es clock r,J.h h (aw J x).toNat=some (.map es clock)/\nD kd (key.ev J) es=some r
 | .mclr _ h x=>0<=aw J x/\∃ es clock,J.h h (aw J x).toNat=some (.map es clock)
 | .cbs _ _ _ _=>True
 | .Ub _ _ _=>True
 | .OR _ _=>True
 | .mki _ _ _=>True
 | .cpy _ h x y ld hs xs ys ls=>(0<=aw J x/\0<=aw J y/\0<=aw J ld/\0<=aw J ls)/\(∃ c T,J.h h (aw J x).toNat=some (.cells c T (0,0))/\aw J y+min (aw J ls) (aw J ld)<=c.size) /\
  (min (aw J ls) (aw J ld)=0\/0<=aw J xs/\0<=aw J ys/\bx (J.h hs) (aw J xs).toNat (aw J ys).toNat (min (aw J ls) (aw J ld)).toNat=true)
def X.rel (C:Ctx) (J J':Env):X->Prop
 | .alloc n=>0<=J'.i n
 | .put n h x y cs=>J'.h n=(J.h h).put (aw J x).toNat (aw J y).toNat (cs.map (CV.ev J))
 | .app n el size bytes s l H src =>
  -1<=J'.i n/\0<=J'.i (n+1) /\
  (∀ xs,aO (H.hl J) el size (s.ev J) (aw J l).toNat xs->aO (J'.h n) el size (.slice (au (J'.i n) 0) ((aw J l).toNat+src.len J) (J'.i (n+1)).toNat) ((aw J l).toNat+src.len J) (xs++src.iX J size)) /\
  (∀ b,(H.hl J).mem b->some b≠(s.ev J).ownBlock->J'.h n b=H.hl J b) /\
  ((∀ b,(J'.h n).mem b->(H.hl J).mem b\/(b=(J'.i n).toNat/\0<=J'.i n))/\∀ xs,aO (H.hl J) el size (s.ev J) (aw J l).toNat xs->aO (J'.h n) el size (s.ev J) (aw J l).toNat xs) /\
  (some (J'.i n).toNat=(s.ev J).ownBlock\/¬(H.hl J).mem (J'.i n).toNat\/J'.i n= -1)
 | .grow n el size bytes olds l c src =>
  0<=J'.i n/\0<=J'.i (n+1) /\
  aO (J'.h n) el size (.slice (au (J'.i n) 0) (l+src.len J) (J'.i (n+1)).toNat) (l+src.len J) (olds.map (CV.ev J)++src.iX J size) /\
  (∀ b,(J'.h n).mem b->b=(J'.i n).toNat)
 | .mk n el z bytes l=>0<=J'.i n/\J'.h n=Hl.one (J'.i n).toNat (.cells (madeCells (z.map (CV.ev J)).toArray ((aw J l).toNat*z.length)) el (0,0))
 | .call j n args own rd=>match C.Γ[j]? with
  | some s=>∃ F,s.post (args.map (TV.ev J)) (own.map (bo.hl J)) (rd.map (bo.hl J)) ((jO n s.res).ev J') (newHs J' n own.length) F/\(aL 0 s.res≠[]->J'.h (n+own.length)=F)/\bR n s.res J'
  | none=>False
 | .mnew n=>0<=J'.i n/\J'.h n=Hl.one (J'.i n).toNat (.map #[] 0)
 | .mget n h x kd key z ks agg=>∀ es clock r,J.h h (aw J x).toNat=some (.map es clock)->nD kd (key.ev J) es=some r ->
  (mN n ks agg).ev J'=(match r with | some (_,v)=>v | none=>z.ev J)/\J'.b (n+aQ ks)=r.isSome
 | .mset n h x kd key v=>∀ es clock,J.h h (aw J x).toNat=some (.map es clock)->J'.h n=(J.h h).setObj (aw J x).toNat (uF kd (key.ev J) (v.ev J) es clock)
 | .mclr n h x=>∀ es clock,J.h h (aw J x).toNat=some (.map es clock)->J'.h n=(J.h h).setObj (aw J x).toNat (.map #[] clock)
 | .cbs n a cs T=>J'.h n=Hl.one (J.i a).toNat (.cells (cs.map (CV.ev J)).toArray T (cs.length,cs.length+1))
 | .OR n r=>J'.h n=r.hl J
 | .mki n T v=>J'.v n=.iface T (v.ev J)
 | .Ub n a b=>J'.h n=(a.hl J).un (b.hl J)/\(a.hl J).bq (b.hl J)
 | .cpy n h x y ld hs xs ys ls=>J'.h n=(J.h h).put (aw J x).toNat (aw J y).toNat (bK (J.h hs) (aw J xs).toNat (aw J ys).toNat (min (aw J ls) (aw J ld)).toNat)
structure As where
 n:Nat
 k:Nat
 c:CV
inductive Nd
 | tt | e (x:E) | and (a b:Nd) | imp (c:E) (a:Nd) | pre (x:X) | ext (x:X) (a:Nd)
 | inv (j:Nat) (A:List As) (hs:List (Nat×Option Nat)) | back (d j:Nat) (A:List As) (hs:List (Nat×Option Nat)) | havoc (d j n0:Nat) (a:Nd)
 | post (mem:Mem) (r:TV)
def assign (J:Env) (A:List As) (hs:List (Nat×Option Nat)):Env where
 i:=fun k=>match A.find? fun a=>a.n==k&&a.k==0 with
  | some a=>bO (some (a.c.ev J))
  | none=>J.i k
 b:=fun k=>match A.find? fun a=>a.n==k&&a.k==1 with
  | some a=>yX (some (a.c.ev J))
  | none=>J.b k
 s:=fun k=>match A.find? fun a=>a.n==k&&a.k==2 with
  | some a=>SI (some (a.c.ev J))
  | none=>J.s k
 v:=fun k=>match A.find? fun a=>a.n==k&&a.k==3 with
  | some a=>a.c.ev J
  | none=>J.v k
 h:=fun k=>match hs.find? fun p=>p.1==k with
  | some (_,some q)=>J.h q
  | some (_,none)=>Hl.none
  | none=>J.h k
def Nd.holds (C:Ctx) (ms:Nat->Nat) (J:Env):Nd->Prop
 | .tt=>True
 | .e x=>aY J x=true
 | .and a b=>a.holds C ms J/\b.holds C ms J
 | .imp c a=>aY J c=true->a.holds C ms J
 | .pre x=>x.pre C J
 | .ext x a=>∀ J',ai x.n J J'->x.rel C J J'->a.holds C ms J'
 | .inv j A hs=>C.inv j (assign J A hs)
 | .back d j A hs=>C.inv j (assign J A hs)/\C.mu j (assign J A hs)<ms d
 | .havoc d j n0 a=>∀ J',ai n0 J J'->C.inv j J'->a.holds C (fun k=>if k=d then C.mu j J' else ms k) J'
 | .post mem r=>C.post J mem r
def ndE:E->Nd
 | .tt=>.tt
 | x=>.e x
def qy:Nd->Nd->Nd
 | .tt,b=>b
 | a,.tt=>a
 | a,b=>.and a b
def yo:E->Nd->Nd
 | _,.tt=>.tt
 | .tt,a=>a
 | c,a=>.imp c a
section
variable (C:Ctx) (ms:Nat->Nat)
def xk (x:E) (J:Env):(ndE x).holds C ms J=(aY J x=true):=by
 unfold ndE;split
 .simp [Nd.holds,dc]
 .rfl
def fa (a b:Nd) (J:Env):(qy a b).holds C ms J=(a.holds C ms J/\b.holds C ms J):=by unfold qy;split<;>simp [Nd.holds]
def jg (c:E) (a:Nd) (J:Env):(yo c a).holds C ms J=(aY J c=true->a.holds C ms J):=by unfold yo;split<;>simp [Nd.holds,dc]
end
section
variable {P:Program} {w:World}
theorem H7 (g o:Nat) (t:TypeId) (fr:Nat×Nat):∀ (vs:List Value) (i:Nat) (cur:Array Value) (w:World),w.heap[g]?=some (.cells cur t fr)->o+i+vs.length<=cur.size->(fr.2<=o+i\/o+i+vs.length<=fr.1)->(∀ v∈vs,v.oneCell'=true) ->
 (storeCells ⟨g,o,none⟩ vs i).run P w=.ok () (w.setRow g (cur.toList.take (o+i)++vs++cur.toList.drop (o+i+vs.length)).toArray)
 | [],i,cur,w,hg,_,_,_=>by
  simp only[storeCells,acD,acO,acJ,afz,agL];rw[setRow_self w g cur t fr hg];rfl
 | v::rest,i,cur,w,hg,hl,hf,h1=>by
  have hi:o+i<cur.size:=by simp at hl;omega
  have b:(⟨g,o,none⟩:Addr).add i=⟨g,o+i,none⟩:=by unfold Addr.add;grind
  have a:w.cell? ⟨g,o+i,none⟩=some cur[o+i]:=by simp [World.cell?,hg,hi]
  have c:w.frozen? ⟨g,o+i,none⟩=false:=by
   obtain⟨lo,f⟩:=fr;simp only[World.frozen?,hg,acn]at hf ⊢;simp only[Bool.and_eq_false_iff,acM];omega
  have d:(store ((⟨g,o,none⟩:Addr).add i) v).run P w=.ok () (w.setRow g (cur.setIfInBounds (o+i) v)):=by
   rw[b,run_store P w _ v _ (h1 v aC),a];simp [c,setCell_eq_setRow w g (o+i) cur t fr v hg]
  have ih:=H7 g o t fr rest (i+1) (cur.setIfInBounds (o+i) v) (w.setRow g (cur.setIfInBounds (o+i) v)) (setRow_heap w g cur _ t _ hg) (by grind) (by grind) (fun x hx=>h1 x (by simp [hx]));simp only[storeCells,Sem.run_bind,d,Result.andThen_ok,ih,setRow_setRow]
  congr 3
  have e:=list_seg_step cur.toList (o+i) v rest (by grind)
  grind
def Uw (hs:h.sub w) {x y:Nat} {c:Array Value} (hx:h x=some (.cells c T fr)):(h.put x y vs).sub (w.setRow x (bm c.toList y vs).toArray):=by
 intro b o hb;unfold Hl.put at hb;split at hb
 .rename_i e;subst e;rw[hx]at hb;cases hb;exact setRow_heap w b c _ T fr (hs _ _ hx)
 .rename_i e;rw[setRow_other w x b _ e];exact hs b o hb
theorem jM {x y n:Nat} (hw:h.wr x y n=true):∃ c T fr,h x=some (.cells c T fr)/\y+n<=c.size/\(fr.2<=y\/y+n<=fr.1):=by
 unfold Hl.wr at hw
 grind
theorem Sy (hs:h.sub w) {x y:Nat} {v:Value} (hsz:fj P t=some vs.length) (hv:v.cells.toList=vs) (h1:∀ u∈vs,u.oneCell'=true) (hw:h.wr x y vs.length=true) :
 ∃ cs,(storeVar t ⟨x,y,none⟩ v).run P w=.ok () (w.setRow x cs)/\(h.put x y vs).sub (w.setRow x cs):=by
 obtain⟨c,T,fr,hx,hle,a⟩:=jM hw;refine⟨(bm c.toList y vs).toArray,?_,Uw hs hx⟩;unfold storeVar;have hsize:v.cells.size=vs.length:=by grind
 simp only[Sem.run_bind,dq hsz,Result.andThen_ok,hsize,ne_eq,afW,afw];rw[hv];have:=H7 (P:=P) x y T fr vs 0 c w (hs _ _ hx) ah ah h1;trivial
theorem GY (hs:H.sub w) {e:TypeId} {v:Value} {n:Nat} (h:aO H e size v n xs):w.ownsRow 0 e size v n xs:=by
 refine⟨h.1,?_⟩;rcases h.2 with h | ⟨g,cap,cur,rfl,hg,r1,r2,a,b⟩
 .grind
 .exact Or.inr ⟨g,cap,cur,rfl,acP _,hs _ _ hg,r1,r2,a,b⟩
def OZ (w:World) (u:Value) (m:Nat) (news:List Value):Prop :=
 (∃ a c,u=.slice (some a) m c/\∀ j x,news[j]?=some x->w.cell? (a.add j)=some x)\/((∃ c,u=.slice none 0 c)/\m=0/\news=[])
def FD (base:Nat) (t ty e:TypeId) (i:TypeInfo) (size:Nat) (d:P.underlying t=some (.slice e)) (hi:P.info? e=some i)
 (v:Value) (n:Nat) (xs:List Value) (a:w.ownsRow base e size v n xs) (c:Nat) :
 (Builtin.append_ #[t,t] ty #[v,.slice none 0 c]).run P w=.ok v w:=by
 rcases a.2 with ⟨rfl,rfl⟩ | ⟨g,cap,cur,rfl,_,_,b,_⟩
 .simp [Builtin.append_,run_underlying d,sizeOf,typeInfo,hi,Builtin.lenOf,Builtin.firstCells]
 .simp [Builtin.append_,run_underlying d,sizeOf,typeInfo,hi,Builtin.lenOf,Builtin.firstCells,b,storeCells]
theorem IE (hs:H.sub w) {e:TypeId} {i:TypeInfo} (p:P.underlying t=some (.slice e)) (hi:P.info? e=some i) (hz:i.zero=some z)
 (hsize:i.size=size) (hby:i.bytes=bytes) (D:z.cells.size=size) (hsz:0<size) {v:Value} {n:Nat} {xs:List Value} (ho:aO H e size v n xs)
 {u:Value} {m:Nat} {news:List Value} (hl:news.length=m*size) (hu:OZ w u m news) (h1:∀ x∈news,x.oneCell'=true) (q:n+m<=maxLen) (h:(n+m)*bytes<=140737488355328) :
 ∃ v' w' H',(Builtin.append_ #[t,t] ty #[v,u]).run P w=.ok v' w'/\aO H' e size v' (n+m) (xs++news)/\H'.sub w'/\w.grownBy w' v.ownBlock /\
  (∀ b,H.mem b->some b≠v.ownBlock->H' b=H b)/\(∀ b,H'.mem b->H.mem b\/(v'.ownBlock=some b/\w.heap.size<=b))/\(v'.ownBlock=v.ownBlock\/∃ b,v'.ownBlock=some b/\w.heap.size<=b)/\aO H' e size v n xs:=by
 subst hsize;subst hby;have y:n+m<=9223372036854775807:=by simp only[maxLen]at q;omega
 rcases hu with ⟨a,c,rfl,d⟩ | ⟨⟨c,rfl⟩,rfl,rfl⟩
 rotate_left
 .refine⟨v,w,H,FD 0 t ty e i i.size p hi v n xs (GY hs ho) c,by grind,hs,⟨rfl,rfl,rfl,ab8 _,fun _ _ _=>rfl⟩,fun _ _ _=>rfl,fun b hb=>Or.inl hb,Or.inl rfl,ho⟩
 have hlen:(xs++news).length=(n+m)*i.size:=by rw[aaA,ho.1,hl,afu]
 have grown:∀ (old:Nat),old<n+m->v.ownBlock=none\/(∃ g,v.ownBlock=some g/\g<w.heap.size) ->
  ∃ H',aO H' e i.size (.slice (some ⟨w.heap.size,0,none⟩) (n+m) (grownCap w (n+m) old e)) (n+m) (xs++news) /\
   H'.sub (w.drew.alloc (.cells (xs.toArray++news.toArray++Builtin.zeroCells z.cells (grownCap w (n+m) old e-(n+m))) e)) /\
   w.grownBy (w.drew.alloc (.cells (xs.toArray++news.toArray++Builtin.zeroCells z.cells (grownCap w (n+m) old e-(n+m))) e)) v.ownBlock /\
   (∀ b,H.mem b->some b≠v.ownBlock->H' b=H b)/\(∀ b,H'.mem b->H.mem b\/(some w.heap.size=some b/\w.heap.size<=b))/\aO H' e i.size v n xs:=by
  intro old hold hv;have E:=grownCap_ge w (n+m) old e;have l:grownCap w (n+m) old e<=maxLen:=grownCap_le_maxLen w (n+m) old e q
  let L:Obj:=.cells (xs.toArray++news.toArray++Builtin.zeroCells z.cells (grownCap w (n+m) old e-(n+m))) e
  refine⟨fun b=>if b=w.heap.size then some L else H b,⟨hlen,Or.inr ⟨w.heap.size,_,_,rfl,ab9 rfl,E,l,?_,?_⟩⟩,?_,⟨rfl,rfl,rfl,aC,fun k hk _=>heap_alloc_old w.drew _ hk⟩,?_,?_,ho.1,ho.2.imp id fun⟨g,cap,cur,hv,hg,r⟩=>⟨g,cap,cur,hv,?_,r⟩⟩
  .simp only[Array.size_append,af5,size_zeroCells,D,ho.1,hl,<-afu]
   grind
  .grind
  .intro b o hb;simp only at hb;split at hb
   .rename_i e1;subst e1;cases hb;exact heap_alloc_new w.drew _
   .have:=hs b o hb;rw[heap_alloc_old w.drew _ (acq.1 this).1];exact this
  .intro b hb _;have:=Hl.sub_lt hs hb
   grind
  .intro b hb;by_cases e1:b=w.heap.size
   .grind
   .left;unfold Hl.mem at hb ⊢;grind
  .have:=Hl.sub_lt hs (b:=g) (by unfold Hl.mem;rw[hg];rfl)
   grind
 rcases ho.2 with ⟨rfl,rfl⟩ | ⟨g,cap,cur,rfl,hg,F,l,G,I⟩
 .have hx:xs=[]:=agf (by grind);subst hx;by_cases hm:m=0
  .subst hm;have hn:news=[]:=agf (by grind);subst hn;refine⟨.slice none 0 0,w,H,?_,ho,hs,⟨rfl,rfl,rfl,ab8 _,fun _ _ _=>rfl⟩,fun _ _ _=>rfl,fun b hb=>Or.inl hb,Or.inl rfl,ho⟩;simp [Builtin.append_,run_underlying p,sizeOf,typeInfo,hi,Builtin.lenOf,Builtin.firstCells,loadCells,loadCellsFrom]
  .have hr:=run_append_nil (P:=P) w t ty e i z p hi hz a m c news hl d ah ah (by grind);obtain⟨H',A,B,g3,g4,C,J⟩:=grown 0 ah (Or.inl rfl);simp only[aco,adk,Array.empty_append]at hr A B g3 g4 C ⊢;exact⟨_,_,H',hr,A,B,g3,g4,C,Or.inr ⟨_,rfl,ab8 _⟩,J⟩
 .by_cases f:n+m<=cap
  .have s:n*i.size+news.length<=cur.size:=by rw[hl,G,<-afu];exact afX _ f
   have hr:=run_append_room (P:=P) w t ty e i p hi g n cap cur (hs _ _ hg) a m c news hl d h1 f s;refine⟨_,_,fun b=>if b=g then some (.cells (cur.toList.take (n*i.size)++news++cur.toList.drop (n*i.size+news.length)).toArray e (0,0))else H b,hr,
    ⟨hlen,Or.inr ⟨g,cap,_,rfl,ab9 rfl,f,l,?_,?_⟩⟩,?_,⟨rfl,rfl,rfl,aC,fun k _ hk=>setRow_other w g k _ (fun e=>hk (by simp [Value.ownBlock,e]))⟩,?_,?_,Or.inl rfl,ho.1,Or.inr ⟨g,cap,_,rfl,ab9 rfl,F,l,?_,?_⟩⟩
   .grind
   .grind
   .intro b o hb;simp only at hb;split at hb
    .rename_i e1;subst e1;cases hb;exact setRow_heap w b cur _ e _ (hs _ _ hg)
    .rename_i e1;rw[setRow_other w g b _ e1];exact hs b o hb
   .intro b hb K;exact aa8 (fun e1=>K (by simp [Value.ownBlock,e1]))
   .intro b hb;left;by_cases e1:b=g
    .subst e1;unfold Hl.mem;rw[hg];rfl
    .unfold Hl.mem at hb ⊢;grind
   .grind
   grind
  .have holds:∀ j u,xs[j]?=some u->w.cell? ((⟨g,0,none⟩:Addr).add j)=some u:=(GY hs ho).cells (g:=g) rfl;have hr:=run_append_grow (P:=P) w t ty e i z p hi hz ⟨g,0,none⟩ n cap xs ho.1 holds a m c news hl d ah ah (growslice_fits ah h);obtain⟨H',A,B,g3,g4,C,J⟩:=grown cap ah (Or.inr ⟨g,rfl,(acq.1 (hs _ _ hg)).1⟩);exact⟨_,_,H',hr,A,B,g3,g4,C,Or.inr ⟨_,rfl,ab8 _⟩,J⟩
theorem FC {e:TypeId} {i:TypeInfo} (s:P.underlying t=some (.slice e)) (hi:P.info? e=some i) (hz:i.zero=some z)
 (hsize:i.size=size) (hby:i.bytes=bytes) (l:z.cells.size=size) {b:Addr} {n cap:Nat} {olds:List Value} (g:olds.length=n*size) (holds:∀ j x,olds[j]?=some x->w.cell? (b.add j)=some x)
 {u:Value} {m:Nat} {news:List Value} (hl:news.length=m*size) (hu:OZ w u m news) (hg:cap<n+m) (v:n<=cap) (h:n+m<=maxLen) (d:(n+m)*bytes<=140737488355328) :
 ∃ q r,(Builtin.append_ #[t,t] ty #[.slice (some b) n cap,u]).run P w=.ok (.slice (some ⟨w.heap.size,0,none⟩) (n+m) q) (w.drew.alloc r) /\
  aO (Hl.one w.heap.size r) e size (.slice (some ⟨w.heap.size,0,none⟩) (n+m) q) (n+m) (olds++news):=by
 subst hsize;subst hby;have k:n+m<=9223372036854775807:=by simp only[maxLen]at h;omega
 rcases hu with ⟨a,c,rfl,f⟩ | ⟨⟨c,rfl⟩,rfl,rfl⟩
 rotate_left
 .omega
 have hr:=run_append_grow (P:=P) w t ty e i z s hi hz b n cap olds g holds a m c news hl f hg ah (growslice_fits ah d);have o:=grownCap_ge w (n+m) cap e;have p:grownCap w (n+m) cap e<=maxLen:=grownCap_le_maxLen w (n+m) cap e h;have hlen:(olds++news).length=(n+m)*i.size:=by grind
 refine⟨_,_,hr,hlen,Or.inr ⟨w.heap.size,_,_,rfl,Hl.aK _ _,o,p,?_,?_⟩⟩
 .simp only[Array.size_append,af5,size_zeroCells,l,g,hl,<-afu]
  grind
 grind
end
end Go.Sx
