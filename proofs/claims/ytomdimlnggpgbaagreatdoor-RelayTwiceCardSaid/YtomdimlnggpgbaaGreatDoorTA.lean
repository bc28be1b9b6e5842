/- RelayTwice. -/
import Derived.ChangeKeysEq
import Derived.Laws.BytesString
import Derived.Laws.CopyRow
import Derived.Laws.Rows
import Derived.Laws.Strings
import Derived.Laws.Tables
import Derived.WalkKit
import Derived.Laws.MakeOwn
import Derived.Laws.OwnMore
set_option linter.all false
namespace Go
def Y7:=@Int.toNat_natCast
def Y8:=@List.getElem?_eq_getElem
def Y9:=@List.length_append
def Za:=@List.length_eq_zero_iff
def Zb:=@List.mem_of_getElem?
def Zc:=@decide_eq_true_eq
def Zd:=@List.length_cons
def Ze:=@List.cons.injEq
def Zf:=@List.map_cons
def Zg:=@Bool.and_eq_true
def Zh:=@List.length_nil
def Zi:=@List.getElem?_eq_some_iff
def Zj:=@Option.some.injEq
def Zk:=@Option.map_eq_some_iff
def Zl:=@List.mem_cons
def Zm:=@and_true
def Zn:=@List.mem_singleton
def Zo:=@if_neg
def Zp:=@Nat.add_zero
def Zq:=@List.mem_nil_iff
def Zr:=@List.map_nil
def Zs:=@List.getElem?_map
def Zt:=@List.getD_eq_getElem?_getD
def Zu:=@List.mem_cons_of_mem
def Zv:=@List.getElem?_eq_none
def Zw:=@Int.le_refl
def Zx:=@Nat.mul_one
def Zy:=@true_and
def Zz:=@List.getElem?_append_right
def ZA:=@if_pos
def ZB:=@Nat.le_refl
def ZC:=@List.length_singleton
def ZD:=@List.length_map
def ZE:=@List.length_take
def ZF:=@List.all_eq_true
def ZG:=@if_true
def ZH:=@List.getElem?_append_left
def ZI:=@List.getElem?_range
def ZJ:=@List.mem_cons_self
def ZK:=@List.append_assoc
def ZL:=@List.toArray_inj
def ZM:=@Nat.zero_add
def ZN:=@List.ext_getElem?
def ZO:=@or_false
def ZP:=@List.map_append
def ZQ:=@List.mem_range
def ZR:=@Nat.add_le_add
def ZS:=@Option.map_some
def ZT:=@List.mem_append
def ZU:=@Array.getElem?_eq_some_iff
def ZV:=@List.mem_map
def ZW:=@congrArg
def ZX:=@List.length_drop
def ZY:=@Array.mk.injEq
def ZZ:=@List.getElem?_drop
def Z0:=@Prod.mk.injEq
def Z1:=@Option.some.inj
def Z2:=@List.getElem?_take
def Z3:=@List.getElem?_cons_succ
def Z4:=@decide_eq_false_iff_not
def Z5:=@Bool.false_eq_true
def Z6:=@List.getElem?_cons_zero
def Z7:=@List.getElem?_of_mem
def Z8:=@List.length_replicate
def Z9:=@List.getElem?_take_of_lt
def aaa:=@Nat.lt_or_ge
def aab:=@List.getElem?_set_ne
def aac:=@List.map_congr_left
def aad:=@List.take_length
def aae:=@List.getElem?_toArray
def aaf:=@Bool.not_eq_true'
def aag:=@List.getElem?_set_self
def aah:=@Option.isSome_iff_exists
def aai:=@Int.tmod_eq_emod_of_nonneg
def aaj:=@List.mem_filter
def aak:=@Classical.byContradiction
def aal:=@Int.lt_or_le
def aam:=@Nat.zero_le
def aan:=@List.contains_iff_mem
def aao:=@List.mem_append_right
def aap:=@Int.fdiv_eq_ediv_of_nonneg
def aaq:=@Int.eq_ofNat_of_zero_le
def aar:=@List.flatten_cons
def aas:=@List.mem_append_left
def aat:=@Bool.or_eq_true
def aau:=@List.append_nil
def aav:=@Option.getD_some
def aaw:=@Array.getElem?_setIfInBounds_ne
def aax:=@List.nil_append
def aay:=@List.getElem_mem
def aaz:=@List.map_eq_nil_iff
def aaA:=@List.length_range
def aaB:=@of_decide_eq_true
def aaC:=@List.take_add_one
def aaD:=@Nat.add_assoc
def aaE:=@Option.toList_some
def aaF:=@List.map_map
def aaG:=@if_false
def aaH:=@Int.tdiv_eq_ediv_of_nonneg
def aaI:=@Array.length_toList
def aaJ:=@Nat.add_mul
def aaK:=@List.eq_nil_of_length_eq_zero
def aaL:=@List.ext_getElem
def aaM:=@List.contains_eq_mem
def aaN:=@List.mem_of_mem_take
def aaO:=@Bool.eq_false_iff
def aaP:=@Option.map_none
def aaQ:=@Option.bind_some
def aaR:=@List.flatten_nil
def aaS:=@List.mem_or_eq_of_mem_set
def aaT:=@BitVec.ofInt_natCast
def aaU:=@List.mem_of_mem_drop
def aaV:=@not_true_eq_false
def aaW:=@Bool.eq_iff_iff
def aaX:=@List.getElem?_replicate
def aaY:=@Nat.mod_eq_of_lt
def aaZ:=@List.drop_drop
def aa0:=@List.take_zero
def aa1:=@List.take_of_length_le
def aa2:=@List.find?_eq_none
def aa3:=@Nat.eq_zero_or_pos
def aa4:=@Int.natCast_nonneg
def aa5:=@BitVec.toNat_ofNat
def aa6:=@Nat.mul_comm
def aa7:=@Array.getElem?_toList
def aa8:=@Nat.pow_succ
def aa9:=@List.append_inj
def aba:=@List.drop_left'
def abb:=@List.size_toArray
def abc:=@List.getElem?_append
def abd:=@Nat.mul_le_mul_right
def abe:=@Nat.pow_le_pow_right
def abf:=@List.pairwise_iff_getElem
def abg:=@List.cons_append
def abh:=@Int.toNat_of_nonneg
def abi:=@List.flatten_append
def abj:=@List.toList_toArray
def abk:=@Nat.le_trans
def abl:=@List.eq_of_mem_replicate
def abm:=@Array.size_setIfInBounds
def abn:=@List.map_take
def abo:=@List.foldl_cons
def abp:=@List.map_replicate
def abq:=@List.take_left'
def abr:=@Array.getElem?_eq_none
def abt:=@List.getElem?_set
def abu:=@Classical.not_not
def abv:=@Int.toNat_zero
def abw:=@Int.mul_le_mul_of_nonneg_right
def abx:=@Nat.add_comm
def aby:=@List.mem_iff_getElem?
def abz:=@List.eq_nil_iff_forall_not_mem
def abA:=@Nat.zero_mul
def abB:=@Nat.le_of_ble_eq_true
def abC:=@Nat.le_of_eq
def abD:=@List.map_toArray
def abE:=@List.mem_flatten
def abF:=@Nat.shiftLeft_add_eq_or_of_lt
def abG:=@List.take_append_of_le_length
def abH:=@Array.toArray_toList
def abI:=@List.map_drop
def abJ:=@List.take_add
def abK:=@List.mem_map_of_mem
def abL:=@Nat.le_zero
def abM:=@List.replicate_succ
def abN:=@BitVec.toNat_or
def abO:=@Array.toList_setIfInBounds
def abP:=@Nat.lt_of_lt_of_le
def abQ:=@List.mem_replicate
def abR:=@Nat.mul_le_mul
def abS:=@List.drop_zero
def abT:=@beq_iff_eq
def abU:=@List.mapM_toArray
def abV:=@Int.emod_eq_of_lt
def abW:=@UInt8.toNat_ofNat_of_lt'
def abX:=@Iff.rfl
def abY:=@List.append_inj'
def abZ:=@List.drop_eq_nil_of_le
def ab0:=@List.getElem_replicate
def ab1:=@Nat.sub_self
def ab2:=@Nat.sub_zero
def ab3:=@List.find?_cons
def ab4:=@Array.getElem?_modify
def ab5:=@Nat.min_eq_left
def ab6:=@List.pairwise_append
def ab7:=@List.replicate_succ'
def ab8:=@List.mapM_cons
def ab9:=@List.take_left
def aca:=@Array.toList_append
def acb:=@List.replicate_zero
def acd:=@Nat.one_mul
def ace:=@List.all_cons
def acf:=@Int.lt_irrefl
def acg:=@Nat.mod_lt
def ach:=@List.map_set
def aci:=@Nat.lt_trans
def acj:=@Nat.succ_mul
def ack:=@Nat.pow_add
end Go
namespace Go.Sx
open Go
def nZ {α β:Type} (f:Nat->α->β):Nat->List α->List β
 | _,[]=>[]
 | n,a::l=>f n a::nZ f (n+1) l
theorem yZ {α β:Type} {f:Nat->α->β} : ∀ {l:List α} {n j:Nat},(nZ f n l)[j]?=(l[j]?).map (f (n+j))
 | [],_,_=>rfl
 | a::l,n,0=>rfl
 | a::l,n,j+1=>by
  show(nZ f (n+1) l)[j]?=(l[j]?).map (f (n+(j+1)));rw[yZ,show n+1+j=n+(j+1)by omega]
theorem mN {α β:Type} {f:Nat->α->β} {l:List α} {j:Nat} : (nZ f 0 l)[j]?=(l[j]?).map (f j):=by
 rw[yZ,ZM]
@[simp] theorem AQ {α β:Type} {f:Nat->α->β} : ∀ {l:List α} {n:Nat},(nZ f n l).length=l.length
 | [],_=>rfl
 | a::l,n=>by simp [nZ,AQ (l:=l)]
def Kg:List Nat->List Nat->Bool
 | [],[]=>true
 | a::l,b::m=>Nat.beq a b&&Kg l m
 | _,_=>false
abbrev Hl:=Nat->Option Obj
def Hl.cell (h:Hl) (x y:Nat):Option Value :=
 match h x with
 | some (.cells c _ _)=>c[y]?
 | _=>none
def Hl.sub (h:Hl) (w:World):Prop:=∀ (b:Nat) o,h b=some o->w.heap[b]?=some o
def Hl.mem (h:Hl) (b:Nat):Prop:=(h b).isSome=true
def Hl.cG (h k:Hl):Prop:=∀ b,¬(h.mem b/\k.mem b)
def Hl.one (b:Nat) (o:Obj):Hl:=fun c=>if c=b then some o else none
def Hl.none:Hl:=fun _=>Option.none
def Hl.all (w:World):Hl:=fun b=>w.heap[b]?
theorem Hl.bF (b:Nat) (o:Obj):Hl.one b o b=some o:=ZA rfl
theorem Hl.mZ {b c:Nat} {o p:Obj} (h:Hl.one b o c=some p):c=b/\p=o:=by
 unfold Hl.one at h;split at h
 .exact⟨‹_›,(Z1 h).symm⟩
 .cases h
theorem Hl.dH {b c:Nat} {o:Obj} : (Hl.one b o).mem c↔c=b:=by
 unfold Hl.mem Hl.one;split<;>simp [*]
theorem Hl.gG {h:Hl} {w:World} (hs:h.sub w) {x y:Nat} {v:Value} (hc:h.cell x y=some v):w.cell? ⟨x,y,Option.none⟩=some v:=by
 unfold Hl.cell at hc;split at hc
 .rename_i hb;simp [World.cell?,hs _ _ hb,hc]
 .cases hc
theorem Hl.Nt (w:World):(Hl.all w).sub w:=fun _ _ h=>h
theorem Hl.lJ {h k:Hl} (d:h.cG k):k.cG h:=fun b ⟨x,y⟩=>d b ⟨y,x⟩
inductive Kd | int (k:IntKind) | bool | slice | ptr | str | map | any
 deriving DecidableEq
structure Env where
 i:Nat->Int
 b:Nat->Bool
 s:Nat->ByteArray
 v:Nat->Value
 h:Nat->Hl
inductive E where
 | lit (n:Int) | var (i:Nat)
 | add (a b:E) | sub (a b:E) | mul (a b:E) | quo (a b:E) | rem (a b:E)
 | wrap (k:IntKind) (a:E)
 | bits (op:BinOp) (k:IntKind) (a b:E)
 | shl (k:IntKind) (a b:E) | shr (k:IntKind) (a b:E)
 | tt | ff | bvar (i:Nat)
 | not (a:E) | and (a b:E) | or (a b:E)
 | ite (c a b:E)
 | lt (a b:E) | le (a b:E) | eq (a b:E) | beq (a b:E)
 | hI (h:Nat) (x y:E) (j:Nat) | hB (h:Nat) (x y:E) (j:Nat) | hP (h:Nat) (x y:E) (j which:Nat) | hS (h:Nat) (x y:E) (j:Nat) | his (h:Nat) (x y:E) (j:Nat) (k:Kd)
 | svar (i:Nat) | slit (s:ByteArray) | scat (a b:E) | sbyte (a:E) | sof (h:Nat) (x y l:E)
 | slen (a:E) | sat (a i:E) | sext (a i j:E) | seq (a b:E) | slt (a b:E)
 | hmlen (h:Nat) (x:E) | vint (v:Nat) | hby (h:Nat) (x y l:E) | hism (h:Nat) (x:E) | hks (h:Nat) (x y:E) (ks:List Kd)
 deriving DecidableEq
def cU (op:BinOp) (k:IntKind) (x y:Int):Int :=
 let a:=BitVec.ofInt k.bits x
 let b:=BitVec.ofInt k.bits y
 match op with
 | .and=>k.wrap (a &&&b).toNat
 | .or=>k.wrap (a |||b).toNat
 | .xor=>k.wrap (a ^^^ b).toNat
 | .andNot=>k.wrap (a &&&~~~b).toNat
 | _=>0
def TQ:Nat×Nat->Nat×Nat
 | (0,b)=>(b+1,0)
 | (a+1,b)=>(a,b+1)
def Nm:Nat->Nat×Nat
 | 0=>(0,0)
 | n+1=>TQ (Nm n)
theorem O7:∀ s b a:Nat,a+b=s->∃ n,Nm n=(a,b):=by
 intro s
 induction s with
 | zero=>intro b a h;exact⟨0,by rw[show a=0 by omega,show b=0 by omega];rfl⟩
 | succ s ih =>
  intro b
  induction b with
  | zero=>intro a h;obtain⟨n,hn⟩:=ih s 0 (by omega);exact⟨n+1,by rw[Nm,hn,show a=s+1 by omega];rfl⟩
  | succ b ihb=>intro a h;obtain⟨n,hn⟩:=ihb (a+1) (by omega);exact⟨n+1,by rw[Nm,hn];rfl⟩
def TX:Nat->Nat
 | 0=>0
 | n+1=>TX n+n+1
def PA (a b:Nat):Nat:=TX (a+b)+b
theorem O8:∀ s b a:Nat,a+b=s->Nm (TX s+b)=(a,b):=by
 intro s
 induction s with
 | zero=>intro b a h;rw[show a=0 by omega,show b=0 by omega];rfl
 | succ s ih =>
  intro b
  induction b with
  | zero=>intro a h;rw[show TX (s+1)+0=(TX s+s)+1 from rfl,Nm,ih s 0 (by omega),show a=s+1 by omega];rfl
  | succ b ihb=>intro a h;rw[<-aaD,Nm,ihb (a+1) (by omega)];rfl
theorem D6 (a b:Nat):Nm (PA a b)=(a,b):=O8 _ b a rfl
def nz:Value->Int
 | .nilIface=>0
 | .iface _ _=>1
 | _=>2
theorem yh {v:Value} (h:nz v<=1):v=.nilIface\/∃ t x,v=.iface t x:=by
 cases v<;>simp [nz]at h ⊢
def aA (x y:Int):Option Addr:=if 0<=x then some ⟨x.toNat,y.toNat,none⟩else if x= -1 then none else some ⟨(-x-2).toNat,(Nm y.toNat).1,some (Nm y.toNat).2⟩
theorem au {x y:Int} (h:0<=x):aA x y=some ⟨x.toNat,y.toNat,none⟩:=ZA h
theorem fa (y:Int):aA (-1) y=none:=rfl
theorem MY {x y:Int} (h:x≠ -1):(aA x y).isNone=false:=by unfold aA;split<;>simp
theorem gO (x y:Int):(aA x y).isNone=decide (x= -1):=by
 by_cases h:x= -1
 .subst h;rfl
 .rw[MY h];simp [h]
theorem pn (a:Option Addr):∃ x y:Int,a=aA x y/\0<=y/\ -1<=y:=by
 cases a with
 | none=>exact⟨-1,0,rfl,by omega,by omega⟩
 | some q =>
  obtain⟨b,o,s⟩:=q;cases s with
  | none=>exact⟨b,o,by simp [aA],by omega,by omega⟩
  | some s =>
   obtain⟨n,hn⟩:=O7 (o+s) s o rfl;refine⟨-(b:Int)-2,n,?_,by omega,by omega⟩;unfold aA;rw[Zo (by omega),Zo (by omega),Y7,hn,show(-(-(b:Int)-2)-2).toNat=b by omega]
def cW:Option Value->Int | some (.int _ n)=>n | _=>0
def yA:Option Value->Bool | some (.bool b)=>b | _=>false
def M9:Option Value->ByteArray | some (.string s)=>s | _=>.empty
def bM:Option Value->Nat->Int
 | some (.slice none _ _),0=> -1
 | some (.slice (some ⟨b,_,none⟩) _ _),0=>b
 | some (.slice (some ⟨b,_,some _⟩) _ _),0=> -(b:Int)-2
 | some (.slice (some ⟨_,o,none⟩) _ _),1=>o
 | some (.slice (some ⟨_,o,some s⟩) _ _),1=>PA o s
 | some (.slice _ n _),2=>n
 | some (.slice _ _ c),3=>c
 | some (.pointer none),0=> -1
 | some (.pointer (some ⟨b,_,_⟩)),0=>b
 | some (.pointer (some ⟨_,o,_⟩)),1=>o
 | some (.map none),0=> -1
 | some (.map (some r)),0=>r
 | _,_=>0
def bY:Option Value->Kd->Bool
 | some (.int k _),.int k'=>k=k'
 | some (.bool _),.bool=>true
 | some (.string _),.str=>true
 | some (.slice _ _ _),.slice=>true
 | some (.pointer (some ⟨_,_,none⟩)),.ptr=>true
 | some (.pointer none),.ptr=>true
 | some (.map _),.map=>true
 | some _,.any=>true
 | _,_=>false
def bytesOf (ns:List Int):ByteArray:=ns.foldl (fun r n=>r.push (UInt8.ofNat n.toNat)) ByteArray.empty
def fe (h:Hl) (x y n:Nat):List Int:=(List.range n).map fun j=>cW (h.cell x (y+j))
def cy (h:Hl) (x y n:Nat):Bool:=(List.range n).all fun j=>bY (h.cell x (y+j)) (.int .u8)
def ua (h:Hl) (x:Nat):Nat->List Kd->Bool
 | _,[]=>true
 | y,k::l=>bY (h.cell x y) k&&ua h x (y+1) l
def isMap:Option Obj->Bool
 | some (.map _ _)=>true
 | _=>false
def Fk:Option Obj->Int
 | some (.map es _)=>es.size
 | _=>0
def ev (ρ:Env):E->Int×Bool×ByteArray
 | .lit n=>(n,false,.empty)
 | .var i=>(ρ.i i,false,.empty)
 | .add a b=>((ev ρ a).1+(ev ρ b).1,false,.empty)
 | .sub a b=>((ev ρ a).1-(ev ρ b).1,false,.empty)
 | .mul a b=>((ev ρ a).1*(ev ρ b).1,false,.empty)
 | .quo a b=>((ev ρ a).1.tdiv (ev ρ b).1,false,.empty)
 | .rem a b=>((ev ρ a).1.tmod (ev ρ b).1,false,.empty)
 | .wrap k a=>(k.wrap (ev ρ a).1,false,.empty)
 | .bits op k a b=>(cU op k (ev ρ a).1 (ev ρ b).1,false,.empty)
 | .shl k a b=>(k.wrap ((ev ρ a).1*2 ^ (min (ev ρ b).1.toNat k.bits)),false,.empty)
 | .shr k a b=>((ev ρ a).1.fdiv (2 ^ (min (ev ρ b).1.toNat k.bits)),false,.empty)
 | .tt=>(0,true,.empty)
 | .ff=>(0,false,.empty)
 | .bvar i=>(0,ρ.b i,.empty)
 | .not a=>(0,!(ev ρ a).2.1,.empty)
 | .and a b=>(0,(ev ρ a).2.1&&(ev ρ b).2.1,.empty)
 | .or a b=>(0,(ev ρ a).2.1||(ev ρ b).2.1,.empty)
 | .ite c a b=>(if(ev ρ c).2.1 then(ev ρ a).1 else(ev ρ b).1,if(ev ρ c).2.1 then(ev ρ a).2.1 else(ev ρ b).2.1,if(ev ρ c).2.1 then(ev ρ a).2.2 else(ev ρ b).2.2)
 | .lt a b=>(0,decide ((ev ρ a).1<(ev ρ b).1),.empty)
 | .le a b=>(0,decide ((ev ρ a).1<=(ev ρ b).1),.empty)
 | .eq a b=>(0,decide ((ev ρ a).1=(ev ρ b).1),.empty)
 | .beq a b=>(0,(ev ρ a).2.1==(ev ρ b).2.1,.empty)
 | .hI h x y j=>(cW ((ρ.h h).cell (ev ρ x).1.toNat ((ev ρ y).1.toNat+j)),false,.empty)
 | .hB h x y j=>(0,yA ((ρ.h h).cell (ev ρ x).1.toNat ((ev ρ y).1.toNat+j)),.empty)
 | .hP h x y j k=>(bM ((ρ.h h).cell (ev ρ x).1.toNat ((ev ρ y).1.toNat+j)) k,false,.empty)
 | .hS h x y j=>(0,false,M9 ((ρ.h h).cell (ev ρ x).1.toNat ((ev ρ y).1.toNat+j)))
 | .his h x y j k=>(0,bY ((ρ.h h).cell (ev ρ x).1.toNat ((ev ρ y).1.toNat+j)) k,.empty)
 | .svar i=>(0,false,ρ.s i)
 | .slit s=>(0,false,s)
 | .scat a b=>(0,false,(ev ρ a).2.2++(ev ρ b).2.2)
 | .sbyte a=>(0,false,bytesOf [(ev ρ a).1])
 | .sof h x y l=>(0,false,bytesOf (fe (ρ.h h) (ev ρ x).1.toNat (ev ρ y).1.toNat (ev ρ l).1.toNat))
 | .slen a=>((ev ρ a).2.2.size,false,.empty)
 | .sat a i=>(((ev ρ a).2.2.data[(ev ρ i).1.toNat]?.getD 0).toNat,false,.empty)
 | .sext a i j=>(0,false,(ev ρ a).2.2.extract (ev ρ i).1.toNat (ev ρ j).1.toNat)
 | .seq a b=>(0,decide ((ev ρ a).2.2=(ev ρ b).2.2),.empty)
 | .slt a b=>(0,decide ((ev ρ a).2.2.data.toList<(ev ρ b).2.2.data.toList),.empty)
 | .hmlen h x=>(Fk (ρ.h h (ev ρ x).1.toNat),false,.empty)
 | .vint v=>(nz (ρ.v v),false,.empty)
 | .hism h x=>(0,isMap (ρ.h h (ev ρ x).1.toNat),.empty)
 | .hks h x y ks=>(0,ua (ρ.h h) (ev ρ x).1.toNat (ev ρ y).1.toNat ks,.empty)
 | .hby h x y l=>(0,cy (ρ.h h) (ev ρ x).1.toNat (ev ρ y).1.toNat (ev ρ l).1.toNat,.empty)
def aC (ρ:Env) (e:E):Int:=(ev ρ e).1
def bN (ρ:Env) (e:E):Bool:=(ev ρ e).2.1
def jq (ρ:Env) (e:E):ByteArray:=(ev ρ e).2.2
section
variable (ρ:Env) (a b c x y l:E)
theorem ai (n:Int):aC ρ (.lit n)=n:=rfl
theorem aj (i:Nat):aC ρ (.var i)=ρ.i i:=rfl
theorem aB:aC ρ (.add a b)=aC ρ a+aC ρ b:=rfl
theorem aF:aC ρ (.sub a b)=aC ρ a-aC ρ b:=rfl
theorem aD:aC ρ (.mul a b)=aC ρ a*aC ρ b:=rfl
theorem Hy:aC ρ (.quo a b)=(aC ρ a).tdiv (aC ρ b):=rfl
theorem AJ:aC ρ (.rem a b)=(aC ρ a).tmod (aC ρ b):=rfl
theorem ar (k:IntKind):aC ρ (.wrap k a)=k.wrap (aC ρ a):=rfl
theorem rl (op:BinOp) (k:IntKind):aC ρ (.bits op k a b)=cU op k (aC ρ a) (aC ρ b):=rfl
theorem N0 (k:IntKind):aC ρ (.shl k a b)=k.wrap (aC ρ a*2 ^ (min (aC ρ b).toNat k.bits)):=rfl
theorem N1 (k:IntKind):aC ρ (.shr k a b)=(aC ρ a).fdiv (2 ^ (min (aC ρ b).toNat k.bits)):=rfl
theorem aG:aC ρ (.ite c a b)=if bN ρ c then aC ρ a else aC ρ b:=rfl
theorem aQ (h j:Nat):aC ρ (.hI h x y j)=cW ((ρ.h h).cell (aC ρ x).toNat ((aC ρ y).toNat+j)):=rfl
theorem aP (h j k:Nat):aC ρ (.hP h x y j k)=bM ((ρ.h h).cell (aC ρ x).toNat ((aC ρ y).toNat+j)) k:=rfl
theorem Lo:aC ρ (.slen a)=(jq ρ a).size:=rfl
theorem aq (h:Nat):aC ρ (.hmlen h x)=Fk (ρ.h h (aC ρ x).toNat):=rfl
theorem wo (v:Nat):aC ρ (.vint v)=nz (ρ.v v):=rfl
theorem c8:bN ρ .tt=true:=rfl
theorem dq:bN ρ .ff=false:=rfl
theorem cn (i:Nat):bN ρ (.bvar i)=ρ.b i:=rfl
theorem Ag:bN ρ (.not a)=!bN ρ a:=rfl
theorem oM:bN ρ (.and a b)=(bN ρ a&&bN ρ b):=rfl
theorem ve:bN ρ (.or a b)=(bN ρ a||bN ρ b):=rfl
theorem Nz:bN ρ (.ite c a b)=if bN ρ c then bN ρ a else bN ρ b:=rfl
theorem ss:bN ρ (.lt a b)=decide (aC ρ a<aC ρ b):=rfl
theorem jO:bN ρ (.le a b)=decide (aC ρ a<=aC ρ b):=rfl
theorem Ae:bN ρ (.eq a b)=decide (aC ρ a=aC ρ b):=rfl
theorem Ny:bN ρ (.beq a b)=(bN ρ a==bN ρ b):=rfl
theorem Qa (h j:Nat):bN ρ (.hB h x y j)=yA ((ρ.h h).cell (aC ρ x).toNat ((aC ρ y).toNat+j)):=rfl
theorem uD (h j:Nat) (k:Kd):bN ρ (.his h x y j k)=bY ((ρ.h h).cell (aC ρ x).toNat ((aC ρ y).toNat+j)) k:=rfl
theorem Af (h:Nat):bN ρ (.hby h x y l)=cy (ρ.h h) (aC ρ x).toNat (aC ρ y).toNat (aC ρ l).toNat:=rfl
theorem Kx (h:Nat):bN ρ (.hism h x)=isMap (ρ.h h (aC ρ x).toNat):=rfl
theorem NA:bN ρ (.seq a b)=decide (jq ρ a=jq ρ b):=rfl
theorem av (i:Nat):jq ρ (.svar i)=ρ.s i:=rfl
theorem az (s:ByteArray):jq ρ (.slit s)=s:=rfl
theorem JS:jq ρ (.sbyte a)=bytesOf [aC ρ a]:=rfl
theorem aH (h:Nat):jq ρ (.sof h x y l)=bytesOf (fe (ρ.h h) (aC ρ x).toNat (aC ρ y).toNat (aC ρ l).toNat):=rfl
theorem MU:jq ρ (.sext a x y)=(jq ρ a).extract (aC ρ x).toNat (aC ρ y).toNat:=rfl
theorem RI (h j:Nat):jq ρ (.hS h x y j)=M9 ((ρ.h h).cell (aC ρ x).toNat ((aC ρ y).toNat+j)):=rfl
theorem aI:jq ρ (.ite c a b)=if bN ρ c then jq ρ a else jq ρ b:=rfl
end
section
variable (ρ:Env) (a b c x y l:E)
theorem bn:(bN ρ .tt=true)=True:=by simp [c8]
theorem bj:(bN ρ .ff=true)=False:=by simp [dq]
theorem aJ (i:Nat):(bN ρ (.bvar i)=true)=(ρ.b i=true):=rfl
theorem aU:(bN ρ (.not a)=true)=¬(bN ρ a=true):=by simp [Ag]
theorem aR:(bN ρ (.and a b)=true)=(bN ρ a=true/\bN ρ b=true):=by simp [oM]
theorem bm:(bN ρ (.or a b)=true)=(bN ρ a=true\/bN ρ b=true):=by simp [ve]
theorem aZ:(bN ρ (.ite c a b)=true)=if bN ρ c=true then bN ρ a=true else bN ρ b=true:=by rw[Nz];split<;>rfl
theorem bh:(bN ρ (.lt a b)=true)=(aC ρ a<aC ρ b):=by simp [ss]
theorem bg:(bN ρ (.le a b)=true)=(aC ρ a<=aC ρ b):=by simp [jO]
theorem bd:(bN ρ (.eq a b)=true)=(aC ρ a=aC ρ b):=by simp [Ae]
theorem aV:(bN ρ (.beq a b)=true)=((bN ρ a=true)=(bN ρ b=true)):=by rw[Ny];cases bN ρ a<;>cases bN ρ b<;>simp
theorem ba:(bN ρ (.seq a b)=true)=(jq ρ a=jq ρ b):=by simp [NA]
theorem bk (h j:Nat):(bN ρ (.hB h x y j)=true)=(yA ((ρ.h h).cell (aC ρ x).toNat ((aC ρ y).toNat+j))=true):=rfl
theorem aX (h j:Nat) (k:Kd):(bN ρ (.his h x y j k)=true)=(bY ((ρ.h h).cell (aC ρ x).toNat ((aC ρ y).toNat+j)) k=true):=rfl
theorem aY (h:Nat) (ks:List Kd):(bN ρ (.hks h x y ks)=true)=(ua (ρ.h h) (aC ρ x).toNat (aC ρ y).toNat ks=true):=rfl
theorem aW (h:Nat):(bN ρ (.hby h x y l)=true)=(cy (ρ.h h) (aC ρ x).toNat (aC ρ y).toNat (aC ρ l).toNat=true):=rfl
theorem aK (h:Nat):(bN ρ (.hism h x)=true)=(isMap (ρ.h h (aC ρ x).toNat)=true):=rfl
end
def mkNot:E->E
 | .tt=>.ff
 | .ff=>.tt
 | .not a=>a
 | a=>.not a
theorem dr (ρ:Env) (a:E):bN ρ (mkNot a)=!bN ρ a:=by
 unfold mkNot;split<;>simp [c8,dq,Ag]
def mkAnd (a b:E):E :=
 match a,b with
 | .tt,b=>b
 | .ff,_=>.ff
 | a,.tt=>a
 | _,.ff=>.ff
 | a,b=>if a=b then a else .and a b
theorem bp (ρ:Env) (a b:E):bN ρ (mkAnd a b)=(bN ρ a&&bN ρ b):=by
 unfold mkAnd;split<;>try simp [c8,dq,oM]
 split
 .rename_i h;rw[h];simp
 .rfl
def mkOr (a b:E):E :=
 match a,b with
 | .tt,_=>.tt
 | .ff,b=>b
 | _,.tt=>.tt
 | a,.ff=>a
 | a,b=>if b=mkNot a then .tt else .or a b
theorem qL (ρ:Env) (a b:E):bN ρ (mkOr a b)=(bN ρ a||bN ρ b):=by
 unfold mkOr;split<;>try simp [c8,dq,ve]
 split
 .rename_i h;rw[h,dr,c8];cases bN ρ a<;>rfl
 .rfl
def Fq (c a b:E):E :=
 match c,a,b with
 | .tt,a,_=>a
 | .ff,_,b=>b
 | c,.tt,.ff=>c
 | c,.tt,b=>mkOr c b
 | c,.ff,b=>mkAnd (mkNot c) b
 | c,a,.ff=>mkAnd c a
 | c,a,.tt=>mkOr (mkNot c) a
 | c,a,b=>if a=b then a else .ite c a b
theorem Em (ρ:Env) (c a b:E):bN ρ (Fq c a b)=if bN ρ c then bN ρ a else bN ρ b:=by
 unfold Fq;split<;>try simp only[c8,dq,qL,bp,dr,ZG,aaG,Z5]
 case h_8 =>
  split
  .rename_i h;subst h;simp
  .rfl
 all_goals (split<;>simp_all)
def mkIte (c a b:E):E :=
 match c with
 | .tt=>a
 | .ff=>b
 | c=>if a=b then a else .ite c a b
theorem gU (ρ:Env) (c a b:E):aC ρ (mkIte c a b)=if bN ρ c then aC ρ a else aC ρ b:=by
 unfold mkIte;split
 .simp [c8]
 .simp [dq]
 .split
  .rename_i h;subst h;simp
  .rfl
def mkAdd:E->E->E
 | .lit a,.lit b=>.lit (a+b)
 | .lit a,b=>if a=0 then b else .add (.lit a) b
 | .add a (.lit b),.lit c=>.add a (.lit (b+c))
 | a,.lit b=>if b=0 then a else .add a (.lit b)
 | a,b=>.add a b
theorem dZ (ρ:Env) (a b:E):aC ρ (mkAdd a b)=aC ρ a+aC ρ b:=by
 unfold mkAdd;split<;>try rfl
 .split
  .rename_i h;subst h;simp [ai]
  .rfl
 .simp only[aB,ai];omega
 .split
  .rename_i h;subst h;simp [ai]
  .rfl
def mkSub:E->E->E
 | .lit a,.lit b=>.lit (a-b)
 | a,.lit b=>if b=0 then a else .sub a (.lit b)
 | a,b=>if a=b then .lit 0 else .sub a b
theorem lX (ρ:Env) (a b:E):aC ρ (mkSub a b)=aC ρ a-aC ρ b:=by
 unfold mkSub;split<;>try rfl
 .split
  .rename_i h;subst h;simp [ai]
  .rfl
 .split
  .rename_i h;subst h;simp [ai]
  .rfl
def mkMul:E->E->E
 | .lit a,.lit b=>.lit (a*b)
 | .lit a,b=>if a=1 then b else .mul (.lit a) b
 | a,.lit b=>if b=1 then a else .mul a (.lit b)
 | a,b=>.mul a b
theorem lW (ρ:Env) (a b:E):aC ρ (mkMul a b)=aC ρ a*aC ρ b:=by
 unfold mkMul;split<;>try rfl
 .split
  .rename_i h;subst h;simp [ai]
  .rfl
 .split
  .rename_i h;subst h;simp [ai]
  .rfl
def mkWrap (k:IntKind):E->E
 | .lit a=>.lit (k.wrap a)
 | a=>.wrap k a
theorem mF (ρ:Env) (k:IntKind) (a:E):aC ρ (mkWrap k a)=k.wrap (aC ρ a):=by
 unfold mkWrap;split<;>rfl
def mkLt:E->E->E
 | .lit a,.lit b=>if a<b then .tt else .ff
 | a,b=>.lt a b
theorem ik (ρ:Env) (a b:E):bN ρ (mkLt a b)=decide (aC ρ a<aC ρ b):=by
 unfold mkLt;split
 .split<;>rename_i h<;>simp [c8,dq,ai,h]<;>omega
 .rfl
def mkLe:E->E->E
 | .lit a,.lit b=>if a<=b then .tt else .ff
 | a,b=>if a=b then .tt else .le a b
theorem bI (ρ:Env) (a b:E):bN ρ (mkLe a b)=decide (aC ρ a<=aC ρ b):=by
 unfold mkLe;split
 .split<;>rename_i h<;>simp [c8,dq,ai,h]<;>omega
 .split
  .rename_i h;subst h;simp [c8]
  .rfl
def mkEq:E->E->E
 | .lit a,.lit b=>if a=b then .tt else .ff
 | a,b=>if a=b then .tt else .eq a b
theorem fw (ρ:Env) (a b:E):bN ρ (mkEq a b)=decide (aC ρ a=aC ρ b):=by
 unfold mkEq;split
 .split<;>rename_i h<;>simp [c8,dq,ai,h]
 .split
  .rename_i h;subst h;simp [c8]
  .rfl
def LX:E->E->E
 | .tt,b=>b
 | .ff,b=>mkNot b
 | a,.tt=>a
 | a,.ff=>mkNot a
 | a,b=>if a=b then .tt else .beq a b
theorem IF (ρ:Env) (a b:E):bN ρ (LX a b)=(bN ρ a==bN ρ b):=by
 unfold LX;split<;>try simp only[c8,dq,dr]
 .simp
 .cases bN ρ b<;>rfl
 .simp
 .cases bN ρ a<;>rfl
 .split
  .rename_i h;subst h;simp [c8]
  .rfl
def mkSeq:E->E->E
 | .slit a,.slit b=>if a=b then .tt else .ff
 | a,b=>if a=b then .tt else .seq a b
theorem su (ρ:Env) (a b:E):bN ρ (mkSeq a b)=decide (jq ρ a=jq ρ b):=by
 unfold mkSeq;split
 .split<;>rename_i h<;>simp [c8,dq,az,h]
 .split
  .rename_i h;subst h;simp [c8]
  .rfl
def HM:E->E->E
 | .slit a,.slit b=>.slit (a++b)
 | a,b=>.scat a b
theorem zH (ρ:Env) (a b:E):jq ρ (HM a b)=jq ρ a++jq ρ b:=by
 unfold HM;split<;>rfl
def tL:E->E
 | .slit a=>.lit a.size
 | a=>.slen a
theorem jL (ρ:Env) (a:E):aC ρ (tL a)=(jq ρ a).size:=by
 unfold tL;split<;>rfl
def L0:E->E->E
 | .slit a,.lit i=>.lit (a.data[i.toNat]?.getD 0).toNat
 | a,i=>.sat a i
theorem I0 (ρ:Env) (a i:E):aC ρ (L0 a i)=((jq ρ a).data[(aC ρ i).toNat]?.getD 0).toNat:=by
 unfold L0;split<;>rfl
def Path (ρ:Env) (path:List E):Prop:=∀ e∈path,bN ρ e=true
def Fm:Option Int->Option Int->Option Int
 | some a,some b=>some (max a b)
 | some a,none=>some a
 | none,b=>b
def Jf:Option Int->Option Int->Option Int
 | some a,some b=>some (min a b)
 | some a,none=>some a
 | none,b=>b
def Ua (e:E):E->Option Int
 | .le (.lit n) x=>if x=e then some n else none
 | .lt (.lit n) x=>if x=e then some (n+1)else none
 | .eq x (.lit n)=>if x=e then some n else none
 | .not (.lt x (.lit n))=>if x=e then some n else none
 | .not (.le x (.lit n))=>if x=e then some (n+1)else none
 | _=>none
def Ui (e:E):E->Option Int
 | .le x (.lit n)=>if x=e then some n else none
 | .lt x (.lit n)=>if x=e then some (n-1)else none
 | .eq x (.lit n)=>if x=e then some n else none
 | .not (.lt (.lit n) x)=>if x=e then some n else none
 | .not (.le (.lit n) x)=>if x=e then some (n-1)else none
 | _=>none
def Te (path:List E) (e:E):Option Int:=path.foldl (fun a f=>Fm a (Ua e f)) none
def Uj (path:List E) (e:E):Option Int:=path.foldl (fun a f=>Jf a (Ui e f)) none
def lb (path:List E):E->Option Int
 | .lit n=>some n
 | .add a b=>Fm (Te path (.add a b)) (match lb path a,lb path b with | some x,some y=>some (x+y) | _,_=>none)
 | .mul a (.lit k)=>Fm (Te path (.mul a (.lit k))) (match lb path a with | some x=>if 0<=k then some (x*k)else none | none=>none)
 | .slen a=>Fm (Te path (.slen a)) (some 0)
 | e=>Te path e
def ub (path:List E):E->Option Int
 | .lit n=>some n
 | .add a b=>Jf (Uj path (.add a b)) (match ub path a,ub path b with | some x,some y=>some (x+y) | _,_=>none)
 | .mul a (.lit k)=>Jf (Uj path (.mul a (.lit k))) (match ub path a with | some x=>if 0<=k then some (x*k)else none | none=>none)
 | e=>Uj path e
def Se:Option Int->Option Int->Bool
 | some a,some b=>decide (a<=b)
 | _,_=>false
def Sf:Option Int->Option Int->Bool
 | some a,some b=>decide (a<b)
 | _,_=>false
def kX (path:List E) (e:E):Option Bool :=
 if path.contains e then some true else if path.contains (mkNot e)then some false else match e with
 | .le a b=>if Se (ub path a) (lb path b)then some true else if Sf (ub path b) (lb path a)then some false else none
 | .lt a b=>if Sf (ub path a) (lb path b)then some true else if Se (ub path b) (lb path a)then some false else none
 | .eq a b=>if Sf (ub path a) (lb path b)||Sf (ub path b) (lb path a)then some false else if Se (ub path a) (lb path b)&&Se (ub path b) (lb path a)then some true else none
 | _=>none
def known (path:List E) (e:E):Option Bool :=
 match e with
 | .tt=>some true
 | .ff=>some false
 | .not e=>(kX path e).map not
 | .and a b=>match kX path a,kX path b with
  | some true,some true=>some true
  | some false,_=>some false
  | _,some false=>some false
  | _,_=>kX path (.and a b)
 | .or a b=>match kX path a,kX path b with
  | some false,some false=>some false
  | some true,_=>some true
  | _,some true=>some true
  | _,_=>kX path (.or a b)
 | e=>kX path e
section
variable {ρ:Env} {path:List E}
theorem I6 {e f:E} {n:Int} (hf:bN ρ f=true) (h:Ua e f=some n):n<=aC ρ e:=by
 unfold Ua at h;split at h<;>first | (cases h;done) | skip
 all_goals (split at h<;>first | (cases h;done) | skip)
 all_goals (cases h;rename_i he;subst he;simp only[bg,bh,bd,aU,ai]at hf;omega)
theorem J2 {e f:E} {n:Int} (hf:bN ρ f=true) (h:Ui e f=some n):aC ρ e<=n:=by
 unfold Ui at h;split at h<;>first | (cases h;done) | skip
 all_goals (split at h<;>first | (cases h;done) | skip)
 all_goals (cases h;rename_i he;subst he;simp only[bg,bh,bd,aU,ai]at hf;omega)
theorem uM {a b:Option Int} {x:Int} (ha:∀ n,a=some n->n<=x) (hb:∀ n,b=some n->n<=x):∀ n,Fm a b=some n->n<=x:=by
 intro n h;unfold Fm at h;split at h
 .cases h;have h1:=ha _ rfl;have h2:=hb _ rfl;omega
 .cases h;exact ha _ rfl
 .exact hb _ h
theorem AS {a b:Option Int} {x:Int} (ha:∀ n,a=some n->x<=n) (hb:∀ n,b=some n->x<=n):∀ n,Jf a b=some n->x<=n:=by
 intro n h;unfold Jf at h;split at h
 .cases h;have h1:=ha _ rfl;have h2:=hb _ rfl;omega
 .cases h;exact ha _ rfl
 .exact hb _ h
theorem oT (hp:Path ρ path) {e:E} : ∀ n,Te path e=some n->n<=aC ρ e:=by
 have key:∀ (l:List E) (a:Option Int),(∀ f∈l,bN ρ f=true)->(∀ n,a=some n->n<=aC ρ e)->∀ n,l.foldl (fun a f=>Fm a (Ua e f)) a=some n->n<=aC ρ e:=by
  intro l
  induction l with
  | nil=>intro a _ ha n h;exact ha n h
  | cons f l ih =>
   intro a hl ha n h;exact ih _ (fun g hg=>hl g (Zu _ hg)) (uM ha fun m hm=>I6 (hl f (ZJ ..)) hm) n h
 exact key path none hp (fun n h=>by cases h)
theorem td (hp:Path ρ path) {e:E} : ∀ n,Uj path e=some n->aC ρ e<=n:=by
 have key:∀ (l:List E) (a:Option Int),(∀ f∈l,bN ρ f=true)->(∀ n,a=some n->aC ρ e<=n)->∀ n,l.foldl (fun a f=>Jf a (Ui e f)) a=some n->aC ρ e<=n:=by
  intro l
  induction l with
  | nil=>intro a _ ha n h;exact ha n h
  | cons f l ih =>
   intro a hl ha n h;exact ih _ (fun g hg=>hl g (Zu _ hg)) (AS ha fun m hm=>J2 (hl f (ZJ ..)) hm) n h
 exact key path none hp (fun n h=>by cases h)
theorem ja (hp:Path ρ path):∀ (e:E) n,lb path e=some n->n<=aC ρ e:=by
 intro e
 fun_induction lb path e with
 | case1 m=>intro n h;cases h;rw[ai];omega
 | case2 a b iha ihb =>
  refine uM (oT hp) fun n h=>?_;split at h
  .rename_i x y hx hy;cases h;have h1:=iha _ hx;have h2:=ihb _ hy;rw[aB];omega
  .cases h
 | case3 a k iha =>
  refine uM (oT hp) fun n h=>?_;split at h
  .rename_i x hx;split at h
   .cases h;have h1:=iha _ hx;rw[aD,ai];exact abw h1 ‹_›
   .cases h
  .cases h
 | case4 a =>
  refine uM (oT hp) fun n h=>?_;cases h;rw[Lo];omega
 | case5 e=>exact oT hp
theorem ji (hp:Path ρ path):∀ (e:E) n,ub path e=some n->aC ρ e<=n:=by
 intro e
 fun_induction ub path e with
 | case1 m=>intro n h;cases h;rw[ai];omega
 | case2 a b iha ihb =>
  refine AS (td hp) fun n h=>?_;split at h
  .rename_i x y hx hy;cases h;have h1:=iha _ hx;have h2:=ihb _ hy;rw[aB];omega
  .cases h
 | case3 a k iha =>
  refine AS (td hp) fun n h=>?_;split at h
  .rename_i x hx;split at h
   .cases h;have h1:=iha _ hx;rw[aD,ai];exact abw h1 ‹_›
   .cases h
  .cases h
 | case4 e=>exact td hp
theorem oU {a b:Option Int} {x y:Int} (h:Se a b=true) (ha:∀ n,a=some n->x<=n) (hb:∀ n,b=some n->n<=y):x<=y:=by
 unfold Se at h;split at h
 .have h1:=ha _ rfl;have h2:=hb _ rfl;simp only[Zc]at h;omega
 .cases h
theorem oV {a b:Option Int} {x y:Int} (h:Sf a b=true) (ha:∀ n,a=some n->x<=n) (hb:∀ n,b=some n->n<=y):x<y:=by
 unfold Sf at h;split at h
 .have h1:=ha _ rfl;have h2:=hb _ rfl;simp only[Zc]at h;omega
 .cases h
theorem cV (hp:Path ρ path) {e:E} {t:Bool} (h:kX path e=some t):bN ρ e=t:=by
 unfold kX at h;split at h
 .rename_i hc;cases h;exact hp e (by simpa using hc)
 .split at h
  .rename_i hc;cases h;have:=hp _ (aan.1 hc);rw[dr]at this;simpa using this
  .split at h
   .rename_i a b _ _;split at h
    .rename_i hc;cases h;have:=oU hc (ji hp a) (ja hp b);rw[jO];simpa using this
    .split at h
     .rename_i hc;cases h;have:=oV hc (ji hp b) (ja hp a);rw[jO];simp;omega
     .cases h
   .rename_i a b _ _;split at h
    .rename_i hc;cases h;have:=oV hc (ji hp a) (ja hp b);rw[ss];simpa using this
    .split at h
     .rename_i hc;cases h;have:=oU hc (ji hp b) (ja hp a);rw[ss];simp;omega
     .cases h
   .rename_i a b _ _;split at h
    .rename_i hc;cases h;rw[aat]at hc;rw[Ae];rcases hc with hc | hc
     .have:=oV hc (ji hp a) (ja hp b);simp;omega
     .have:=oV hc (ji hp b) (ja hp a);simp;omega
    .split at h
     .rename_i hc;cases h;rw[Zg]at hc;have h1:=oU hc.1 (ji hp a) (ja hp b);have h2:=oU hc.2 (ji hp b) (ja hp a);rw[Ae];simp;omega
     .cases h
   .cases h
theorem fi (hp:Path ρ path) {e:E} {t:Bool} (h:known path e=some t):bN ρ e=t:=by
 unfold known at h;split at h
 .cases h;rfl
 .cases h;rfl
 .simp only[Zk]at h;obtain⟨b,hb,rfl⟩:=h;rw[Ag,cV hp hb]
 .split at h
  .rename_i h1 h2;cases h;rw[oM,cV hp h1,cV hp h2];rfl
  .rename_i h1;cases h;rw[oM,cV hp h1];rfl
  .rename_i h1 _;cases h;rw[oM,cV hp h1];simp
  .exact cV hp h
 .split at h
  .rename_i h1 h2;cases h;rw[ve,cV hp h1,cV hp h2];rfl
  .rename_i h1;cases h;rw[ve,cV hp h1];rfl
  .rename_i h1 _;cases h;rw[ve,cV hp h1];simp
  .exact cV hp h
 .exact cV hp h
end
inductive CV where
 | int (k:IntKind) (e:E) | bool (e:E) | str (e:E)
 | pti (a o s n:Nat) (i:E)
 | hptr (x y:E) | sl (x y l c:E) | map (x:E)
 | vr (j:Nat) | hv (h:Nat) (x y:E) (j:Nat)
 | val (v:Value)
 | clo (f:Nat) (x:E)
inductive SV where | one (c:CV) | agg (l:List CV)
inductive TV where | sv (s:SV) | tup (l:List SV)
def CV.ev (ρ:Env):CV->Value
 | .int k e=>.int k (aC ρ e)
 | .bool e=>.bool (bN ρ e)
 | .str e=>.string (jq ρ e)
 | .pti a o s _ i=>.pointer (aA (ρ.i a) ((o:Int)+(s:Int)*aC ρ i))
 | .hptr x y=>.pointer (aA (aC ρ x) (aC ρ y))
 | .sl x y l c=>.slice (aA (aC ρ x) (aC ρ y)) (aC ρ l).toNat (aC ρ c).toNat
 | .map x=>.map (if aC ρ x= -1 then none else some (aC ρ x).toNat)
 | .vr j=>ρ.v j
 | .hv h x y j=>((ρ.h h).cell (aC ρ x).toNat ((aC ρ y).toNat+j)).getD (.bool false)
 | .val v=>v
 | .clo f x=>.func (.func f) #[] #[.pointer (aA (aC ρ x) 0)]
def SV.ev (ρ:Env):SV->Value
 | .one c=>c.ev ρ
 | .agg l=>.agg (l.map (CV.ev ρ)).toArray
def TV.ev (ρ:Env):TV->Value
 | .sv s=>s.ev ρ
 | .tup l=>.tuple (l.map (SV.ev ρ)).toArray
def gk:Value->CV
 | .int k n=>.int k (.lit n)
 | .bool true=>.bool .tt
 | .bool false=>.bool .ff
 | .string s=>.str (.slit s)
 | .slice none n c=>.sl (.lit (-1)) (.lit 0) (.lit n) (.lit c)
 | .pointer none=>.hptr (.lit (-1)) (.lit 0)
 | .map none=>.map (.lit (-1))
 | v=>.val v
theorem CQ (ρ:Env) (v:Value):(gk v).ev ρ=v:=by
 unfold gk;split<;>rfl
def lift:Value->TV
 | .agg cs=>.sv (.agg (cs.toList.map gk))
 | v=>.sv (.one (gk v))
theorem gX (ρ:Env) (l:List Value):(l.map gk).map (CV.ev ρ)=l:=by
 induction l with
 | nil=>rfl
 | cons v l ih=>simp only[Zf,CQ,ih]
theorem HG (ρ:Env) (v:Value):(lift v).ev ρ=v:=by
 unfold lift;split
 .simp only[TV.ev,SV.ev,gX]
 .exact CQ ρ v
def DJ:Value->Value->Bool
 | .nilFunc,.nilFunc=>true
 | .nilIface,.nilIface=>true
 | .func (.func f) a b,.func (.func g) c d=>f==g&&a.isEmpty&&b.isEmpty&&c.isEmpty&&d.isEmpty
 | _,_=>false
theorem xN {a b:Value} (h:DJ a b=true):a=b:=by
 unfold DJ at h;split at h<;>simp_all
def oW (c:E):CV->CV->Option CV
 | .int k e,.int k' e'=>if k=k' then some (.int k (mkIte c e e'))else none
 | .bool e,.bool e'=>some (.bool (Fq c e e'))
 | .hptr x y,.hptr x' y'=>some (.hptr (mkIte c x x') (mkIte c y y'))
 | .sl x y l k,.sl x' y' l' k'=>some (.sl (mkIte c x x') (mkIte c y y') (mkIte c l l') (mkIte c k k'))
 | .map x,.map x'=>some (.map (mkIte c x x'))
 | .vr j,.vr k=>if j=k then some (.vr j)else none
 | .val v,.val v'=>if DJ v v' then some (.val v)else none
 | _,_=>none
theorem mO {ρ:Env} {c:E} {a b v:CV} (h:oW c a b=some v):v.ev ρ=if bN ρ c then a.ev ρ else b.ev ρ:=by
 unfold oW at h;split at h
 .split at h
  .rename_i hk;subst hk;cases h;simp only[CV.ev,gU];split<;>rfl
  .cases h
 .cases h;simp only[CV.ev,Em];split<;>rfl
 .cases h;simp only[CV.ev,gU];split<;>rfl
 .cases h;simp only[CV.ev,gU];split<;>rfl
 .cases h;simp only[CV.ev,gU];split<;>rfl
 .split at h
  .rename_i hk;subst hk;cases h;simp
  .cases h
 .split at h
  .rename_i hv;cases h;simp [CV.ev,xN hv]
  .cases h
 .cases h
def sI (c:E):List CV->List CV->Option (List CV)
 | [],[]=>some []
 | a::l,b::m=>match oW c a b,sI c l m with
  | some v,some r=>some (v::r)
  | _,_=>none
 | _,_=>none
theorem za {ρ:Env} {c:E} : ∀ {l m r:List CV},sI c l m=some r->r.map (CV.ev ρ)=if bN ρ c then l.map (CV.ev ρ)else m.map (CV.ev ρ)
 | [],[],r,h=>by cases h;simp
 | a::l,b::m,r,h=>by
  unfold sI at h;split at h
  .rename_i v r' h1 h2;cases h;have e1:=mO (ρ:=ρ) h1;have e2:=za (ρ:=ρ) h2;simp only[Zf,e1,e2];split<;>rfl
  .cases h
 | [],_::_,_,h=>by simp [sI]at h
 | _::_,[],_,h=>by simp [sI]at h
def uN (c:E):SV->SV->Option SV
 | .one a,.one b=>(oW c a b).map .one
 | .agg l,.agg m=>(sI c l m).map .agg
 | _,_=>none
theorem wQ {ρ:Env} {c:E} {a b v:SV} (h:uN c a b=some v):v.ev ρ=if bN ρ c then a.ev ρ else b.ev ρ:=by
 unfold uN at h;split at h
 .simp only[Zk]at h;obtain⟨x,hx,rfl⟩:=h;exact mO hx
 .simp only[Zk]at h;obtain⟨x,hx,rfl⟩:=h;simp only[SV.ev,za hx];split<;>rfl
 .cases h
def E.upto (n:Nat):E->Bool
 | .lit _ | .tt | .ff | .slit _=>true
 | .var i | .bvar i | .svar i | .vint i=>decide (i<n)
 | .add a b | .sub a b | .mul a b | .quo a b | .rem a b | .bits _ _ a b | .shl _ a b | .shr _ a b | .and a b | .or a b | .lt a b | .le a b | .eq a b | .beq a b | .scat a b | .sat a b | .seq a b | .slt a b=>a.upto n&&b.upto n
 | .wrap _ a | .not a | .sbyte a | .slen a=>a.upto n
 | .ite c a b | .sext c a b=>c.upto n&&a.upto n&&b.upto n
 | .hks h x y _ | .hI h x y _ | .hB h x y _ | .hP h x y _ _ | .his h x y _ _ | .hS h x y _=>decide (h<n)&&x.upto n&&y.upto n
 | .sof h x y l | .hby h x y l=>decide (h<n)&&x.upto n&&y.upto n&&l.upto n
 | .hmlen h x | .hism h x=>decide (h<n)&&x.upto n
structure ah (n:Nat) (ρ ρ':Env):Prop where
 i:∀ k,(_:k<n:=by omega)->ρ'.i k=ρ.i k
 b:∀ k,(_:k<n:=by omega)->ρ'.b k=ρ.b k
 s:∀ k,(_:k<n:=by omega)->ρ'.s k=ρ.s k
 v:∀ k,(_:k<n:=by omega)->ρ'.v k=ρ.v k
 h:∀ k,(_:k<n:=by omega)->ρ'.h k=ρ.h k
theorem ah.refl (n:Nat) (ρ:Env):ah n ρ ρ:=⟨fun _ _=>rfl,fun _ _=>rfl,fun _ _=>rfl,fun _ _=>rfl,fun _ _=>rfl⟩
theorem ah.trans {n:Nat} {a b c:Env} (h:ah n a b) (k:ah n b c):ah n a c :=
 ⟨fun i hi=>(k.i i hi).trans (h.i i hi),fun i hi=>(k.b i hi).trans (h.b i hi),fun i hi=>(k.s i hi).trans (h.s i hi),fun i hi=>(k.v i hi).trans (h.v i hi),fun i hi=>(k.h i hi).trans (h.h i hi)⟩
theorem ah.mono {n m:Nat} {a b:Env} (h:ah n a b) (hm:m<=n:=by omega):ah m a b:=⟨fun i hi=>h.i i,fun i hi=>h.b i,fun i hi=>h.s i,fun i hi=>h.v i,fun i hi=>h.h i⟩
theorem ah.tr {n m:Nat} {a b c:Env} (h:ah n a b) (k:ah m b c) (hm:n<=m:=by omega):ah n a c:=h.trans (k.mono hm)
theorem vI {n:Nat} {ρ ρ':Env} (h:ah n ρ ρ'):∀ e:E,e.upto n=true->ev ρ' e=ev ρ e:=by
 intro e
 induction e with
 | var i=>intro hb;simp only[E.upto,Zc]at hb;simp only[ev,h.i i hb]
 | bvar i=>intro hb;simp only[E.upto,Zc]at hb;simp only[ev,h.b i hb]
 | svar i=>intro hb;simp only[E.upto,Zc]at hb;simp only[ev,h.s i hb]
 | vint i=>intro hb;simp only[E.upto,Zc]at hb;simp only[ev,h.v i hb]
 | lit _=>intro _;rfl
 | slit _=>intro _;rfl
 | tt=>intro _;rfl
 | ff=>intro _;rfl
 | wrap k a ih=>intro hb;simp only[E.upto]at hb;simp only[ev,ih hb]
 | not a ih=>intro hb;simp only[E.upto]at hb;simp only[ev,ih hb]
 | sbyte a ih=>intro hb;simp only[E.upto]at hb;simp only[ev,ih hb]
 | slen a ih=>intro hb;simp only[E.upto]at hb;simp only[ev,ih hb]
 | ite c a b ihc iha ihb=>intro hb;simp only[E.upto,Zg]at hb;simp only[ev,ihc hb.1.1,iha hb.1.2,ihb hb.2]
 | sext c a b ihc iha ihb=>intro hb;simp only[E.upto,Zg]at hb;simp only[ev,ihc hb.1.1,iha hb.1.2,ihb hb.2]
 | hI k x y j ihx ihy=>intro hb;simp only[E.upto,Zg,Zc]at hb;simp only[ev,ihx hb.1.2,ihy hb.2,h.h k hb.1.1]
 | hB k x y j ihx ihy=>intro hb;simp only[E.upto,Zg,Zc]at hb;simp only[ev,ihx hb.1.2,ihy hb.2,h.h k hb.1.1]
 | hS k x y j ihx ihy=>intro hb;simp only[E.upto,Zg,Zc]at hb;simp only[ev,ihx hb.1.2,ihy hb.2,h.h k hb.1.1]
 | hP k x y j q ihx ihy=>intro hb;simp only[E.upto,Zg,Zc]at hb;simp only[ev,ihx hb.1.2,ihy hb.2,h.h k hb.1.1]
 | his k x y j q ihx ihy=>intro hb;simp only[E.upto,Zg,Zc]at hb;simp only[ev,ihx hb.1.2,ihy hb.2,h.h k hb.1.1]
 | hism k x ihx=>intro hb;simp only[E.upto,Zg,Zc]at hb;simp only[ev,ihx hb.2,h.h k hb.1]
 | hmlen k x ihx=>intro hb;simp only[E.upto,Zg,Zc]at hb;simp only[ev,ihx hb.2,h.h k hb.1]
 | hks k x y ks ihx ihy=>intro hb;simp only[E.upto,Zg,Zc]at hb;simp only[ev,ihx hb.1.2,ihy hb.2,h.h k hb.1.1]
 | hby k x y l ihx ihy ihl=>intro hb;simp only[E.upto,Zg,Zc]at hb;simp only[ev,ihx hb.1.1.2,ihy hb.1.2,ihl hb.2,h.h k hb.1.1.1]
 | sof k x y l ihx ihy ihl=>intro hb;simp only[E.upto,Zg,Zc]at hb;simp only[ev,ihx hb.1.1.2,ihy hb.1.2,ihl hb.2,h.h k hb.1.1.1]
 | _=>rename_i iha ihb;intro hb;simp only[E.upto,Zg]at hb;simp only[ev,iha hb.1,ihb hb.2]
theorem cR {n:Nat} {ρ ρ':Env} (h:ah n ρ ρ') {e:E} (hb:e.upto n=true):aC ρ' e=aC ρ e:=by unfold aC;rw[vI h e hb]
theorem jK {n:Nat} {ρ ρ':Env} (h:ah n ρ ρ') {e:E} (hb:e.upto n=true):bN ρ' e=bN ρ e:=by unfold bN;rw[vI h e hb]
theorem sY {n:Nat} {ρ ρ':Env} (h:ah n ρ ρ') {e:E} (hb:e.upto n=true):jq ρ' e=jq ρ e:=by unfold jq;rw[vI h e hb]
def CV.upto (n:Nat):CV->Bool
 | .int _ e | .bool e | .str e | .map e=>e.upto n
 | .pti a _ _ _ i=>decide (a<n)&&i.upto n
 | .hptr x y=>x.upto n&&y.upto n
 | .sl x y l c=>x.upto n&&y.upto n&&l.upto n&&c.upto n
 | .vr j=>decide (j<n)
 | .hv h x y _=>decide (h<n)&&x.upto n&&y.upto n
 | .val _=>true
 | .clo _ x=>x.upto n
def SV.upto (n:Nat):SV->Bool
 | .one c=>c.upto n
 | .agg l=>l.all (·.upto n)
def TV.upto (n:Nat):TV->Bool
 | .sv s=>s.upto n
 | .tup l=>l.all (·.upto n)
theorem CV.cx {ρ ρ':Env} {m:Nat} (h:ah m ρ ρ') (c:CV) (hb:c.upto m=true):c.ev ρ'=c.ev ρ:=by
 cases c<;>simp only[CV.upto,Zg,Zc]at hb<;>simp only[CV.ev]
 .rw[cR h hb]
 .rw[jK h hb]
 .rw[sY h hb]
 .rw[h.i _ hb.1,cR h hb.2]
 .rw[cR h hb.1,cR h hb.2]
 .rw[cR h hb.1.1.1,cR h hb.1.1.2,cR h hb.1.2,cR h hb.2]
 .rw[cR h hb]
 .rw[h.v _ hb]
 .rw[cR h hb.1.2,cR h hb.2,h.h _ hb.1.1]
 .rw[cR h hb]
theorem CV.gn {ρ ρ':Env} {m:Nat} (h:ah m ρ ρ') (l:List CV) (hb:l.all (·.upto m)=true):l.map (CV.ev ρ')=l.map (CV.ev ρ):=by
 rw[ZF]at hb;exact aac fun c hc=>CV.cx h c (hb c hc)
theorem SV.cx {ρ ρ':Env} {m:Nat} (h:ah m ρ ρ') (s:SV) (hb:s.upto m=true):s.ev ρ'=s.ev ρ:=by
 cases s with
 | one c=>exact CV.cx h c hb
 | agg l=>simp only[SV.ev,CV.gn h l hb]
theorem TV.cx {ρ ρ':Env} {m:Nat} (h:ah m ρ ρ') (s:TV) (hb:s.upto m=true):s.ev ρ'=s.ev ρ:=by
 cases s with
 | sv c=>exact SV.cx h c hb
 | tup l =>
  simp only[TV.upto,ZF]at hb;simp only[TV.ev,aac fun c hc=>SV.cx h c (hb c hc)]
theorem Path.cx {ρ ρ':Env} {m:Nat} {path:List E} (h:ah m ρ ρ') (hp:Path ρ path) (hb:path.all (·.upto m)=true):Path ρ' path:=by
 rw[ZF]at hb;intro e he;rw[jK h (hb e he)];exact hp e he
inductive bx where
 | bD (a:Nat) (l:List CV) (T:TypeId)
 | hp (k:Nat) (vers:List Nat) (tags links:List E)
 | ro (k:Nat) (tags:List E) (any:Bool)
 | dead
def bx.own:bx->Bool
 | .ro _ _ _=>false
 | _=>true
def bx.hl (ρ:Env):bx->Hl
 | .bD a l T=>Hl.one (ρ.i a).toNat (.cells (l.map (CV.ev ρ)).toArray T (0,0))
 | .hp k _ _ _=>ρ.h k
 | .ro k _ _=>ρ.h k
 | .dead=>Hl.none
def bx.pos (ρ:Env):bx->Prop
 | .bD a _ _=>0<=ρ.i a
 | _=>True
def bx.same (ρ ρ':Env) (r:bx):Prop:=r.hl ρ'=r.hl ρ/\(r.pos ρ->r.pos ρ')
abbrev Mem:=List bx
structure St where
 tmps:List (Option TV)
 mem:Mem
 nv:Nat
 path:List E
structure IA (S:Nat->Prop) (w0 w:World):Prop where
 os:w.os=w0.os
 tape:w.tape=w0.tape
 output:w.output=w0.output
 size:w0.heap.size<=w.heap.size
 block:∀ k,k<w0.heap.size->¬S k->w.heap[k]?=w0.heap[k]?
theorem IA.refl (S:Nat->Prop) (w:World):IA S w w:=⟨rfl,rfl,rfl,ZB _,fun _ _ _=>rfl⟩
structure MRel (S:Nat->Prop) (w0:World) (ρ:Env) (mem:Mem) (w:World):Prop where
 fz:IA S w0 w
 sub:∀ r∈mem,(r.hl ρ).sub w
 own:∀ r∈mem,r.own=true->∀ b,(r.hl ρ).mem b->S b\/w0.heap.size<=b
 cG:∀ (p q:Nat) r s,p≠q->mem[p]?=some r->mem[q]?=some s->r.own=true->(r.hl ρ).cG (s.hl ρ)
 pos:∀ r∈mem,r.pos ρ
structure Rel (S:Nat->Prop) (w0:World) (ρ:Env) (st:St) (a:Act) (w:World):Prop extends MRel S w0 ρ st.mem w where
 size:a.tmps.size=st.tmps.length
 defers:a.defers=[]
 tmp:∀ (t:Nat) (v:TV),st.tmps[t]?=some (some v)->a.tmps[t]?=some (v.ev ρ)
 path:Path ρ st.path
theorem Hl.sub_lt {h:Hl} {w:World} (hs:h.sub w) {b:Nat} (hb:h.mem b):b<w.heap.size:=by
 unfold Hl.mem at hb;obtain⟨o,ho⟩:=aah.1 hb;exact(ZU.1 (hs b o ho)).1
def bx.upto (n:Nat):bx->Bool
 | .bD a l _=>decide (a<n)&&l.all (·.upto n)
 | .hp k vers tags links=>decide (k<n)
 | .ro k tags _=>decide (k<n)
 | .dead=>true
def Mg {α:Type} (f:α->Bool):Option α->Bool
 | some x=>f x
 | none=>true
def Mem.upto (n:Nat) (m:Mem):Bool:=m.all (bx.upto n)
def St.upto (n:Nat) (st:St):Bool:=st.tmps.all (Mg (·.upto n))&&Mem.upto n st.mem&&st.path.all (·.upto n)
theorem bx.cx {ρ ρ':Env} {m:Nat} (h:ah m ρ ρ') (r:bx) (hb:r.upto m=true):r.hl ρ'=r.hl ρ:=by
 cases r<;>simp only[bx.upto,Zg,Zc]at hb<;>simp only[bx.hl]
 .rw[h.i _ hb.1,CV.gn h _ hb.2]
 .rw[h.h _ hb]
 .rw[h.h _ hb]
theorem bx.IC {ρ ρ':Env} {m:Nat} (h:ah m ρ ρ') (r:bx) (hb:r.upto m=true):r.pos ρ->r.pos ρ':=by
 cases r<;>simp only[bx.upto,Zg,Zc]at hb<;>simp only[bx.pos]
 .rw[h.i _ hb.1];exact id
 all_goals (intro;trivial)
theorem Mem.cx {ρ ρ':Env} {m:Nat} (h:ah m ρ ρ') {mem:Mem} (hb:Mem.upto m mem=true):∀ r∈mem,r.same ρ ρ':=by
 unfold Mem.upto at hb;rw[ZF]at hb;exact fun r hr=>⟨bx.cx h r (hb r hr),bx.IC h r (hb r hr)⟩
section
variable {S:Nat->Prop} {w0:World} {ρ ρ':Env} {st:St} {a:Act} {w w':World} {mem mem':Mem}
theorem MRel.te (h:MRel S w0 ρ mem w) (U:Nat->Prop) (nw:Nat->Prop)
 (hU:∀ b,U b->∃ r∈mem,r.own=true/\(r.hl ρ).mem b)
 (ho:w'.os=w.os) (ht:w'.tape=w.tape) (hout:w'.output=w.output) (hs:w.heap.size<=w'.heap.size)
 (hb:∀ b,b<w.heap.size->¬U b->w'.heap[b]?=w.heap[b]?)
 (c1:∀ (p:Nat) r,mem'[p]?=some r->¬nw p->mem[p]?=some r/\r.same ρ ρ'/\∀ b,(r.hl ρ).mem b->¬U b)
 (c2:∀ (p:Nat) r,mem'[p]?=some r->nw p->((r.hl ρ').sub w'/\r.pos ρ')/\∀ b,(r.hl ρ').mem b->U b\/w.heap.size<=b)
 (c3:∀ (p q:Nat) r s,p≠q->nw p->nw q->mem'[p]?=some r->mem'[q]?=some s->r.own=true->(r.hl ρ').cG (s.hl ρ')):MRel S w0 ρ' mem' w':=by
 have hUo:∀ b,U b->S b\/w0.heap.size<=b:=fun b hb=>by
  obtain⟨r,hr,ho,hm⟩:=hU b hb;exact h.own r hr ho b hm
 refine⟨⟨ho.trans h.fz.os,ht.trans h.fz.tape,hout.trans h.fz.output,abk h.fz.size hs,fun k hk hS=>?_⟩,?_,?_,?_,?_⟩
 .rw[hb k (abP hk h.fz.size) (fun hu=>(hUo k hu).elim hS (fun h=>by omega))];exact h.fz.block k hk hS
 .intro r hr;obtain⟨p,hp⟩:=Z7 hr;by_cases hn:nw p
  .exact(c2 p r hp hn).1.1
  .obtain⟨e1,⟨e2,_⟩,e3⟩:=c1 p r hp hn;rw[e2];intro b o hbo;have hm:(r.hl ρ).mem b:=by unfold Hl.mem;rw[hbo];rfl
   have hs:=h.sub r (Zb e1);rw[hb b (Hl.sub_lt hs hm) (e3 b hm)];exact hs b o hbo
 .intro r hr hown b hm;obtain⟨p,hp⟩:=Z7 hr;by_cases hn:nw p
  .rcases(c2 p r hp hn).2 b hm with hu | hl
   .exact hUo b hu
   .right;have:=h.fz.size;omega
  .obtain⟨e1,⟨e2,_⟩,e3⟩:=c1 p r hp hn;rw[e2]at hm;exact h.own r (Zb e1) hown b hm
 .intro p q r s hpq hp hq hown;by_cases hn:nw p<;>by_cases hm:nw q
  .exact c3 p q r s hpq hn hm hp hq hown
  .obtain⟨e1,⟨e2,_⟩,e3⟩:=c1 q s hq hm;obtain⟨f1,f2⟩:=c2 p r hp hn;rintro b ⟨x,y⟩;rw[e2]at y;rcases f2 b x with hu | hl
   .exact e3 b y hu
   .have:=Hl.sub_lt (h.sub s (Zb e1)) y;omega
  .obtain⟨e1,⟨e2,_⟩,e3⟩:=c1 p r hp hn;obtain⟨f1,f2⟩:=c2 q s hq hm;rintro b ⟨x,y⟩;rw[e2]at x;rcases f2 b y with hu | hl
   .exact e3 b x hu
   .have:=Hl.sub_lt (h.sub r (Zb e1)) x;omega
  .obtain⟨e1,⟨e2,_⟩,e3⟩:=c1 p r hp hn;obtain⟨f1,⟨f2,_⟩,f3⟩:=c1 q s hq hm;rw[e2,f2];exact h.cG p q r s hpq e1 f1 hown
 .intro r hr;obtain⟨p,hp⟩:=Z7 hr;by_cases hn:nw p
  .exact(c2 p r hp hn).1.2
  .obtain⟨e1,⟨_,e2⟩,_⟩:=c1 p r hp hn;exact e2 (h.pos r (Zb e1))
theorem MRel.set (h:MRel S w0 ρ mem w) {p:Nat} {r r':bx} (hp:mem[p]?=some r) (hr:r.own=true)
 (ho:w'.os=w.os) (ht:w'.tape=w.tape) (hout:w'.output=w.output) (hs:w.heap.size<=w'.heap.size)
 (hb:∀ b,b<w.heap.size->¬(r.hl ρ).mem b->w'.heap[b]?=w.heap[b]?)
 (hag:∀ s∈mem,s.same ρ ρ')
 (hsub:(r'.hl ρ').sub w') (hpos:r'.pos ρ') (hdom:∀ b,(r'.hl ρ').mem b->(r.hl ρ).mem b\/w.heap.size<=b):MRel S w0 ρ' (mem.set p r') w':=by
 have hlt:p<mem.length:=(Zi.1 hp).1;refine h.te (fun b=>(r.hl ρ).mem b) (fun q=>q=p) (fun b hb=>⟨r,Zb hp,hr,hb⟩) ho ht hout hs hb ?_ ?_ ?_
 .intro q s hq hn;rw[aab (fun e=>hn e.symm)]at hq;exact⟨hq,hag s (Zb hq),fun b hb hu=>h.cG p q r s (fun e=>hn e.symm) hp hq hr b ⟨hu,hb⟩⟩
 .intro q s hq hn;rw[hn,aag hlt]at hq;cases hq;exact⟨⟨hsub,hpos⟩,hdom⟩
 .intro q q' s s' hne h1 h2;exact absurd (h1.trans h2.symm) hne
theorem MRel.add (h:MRel S w0 ρ mem w) {r':bx}
 (ho:w'.os=w.os) (ht:w'.tape=w.tape) (hout:w'.output=w.output) (hs:w.heap.size<=w'.heap.size)
 (hb:∀ b,b<w.heap.size->w'.heap[b]?=w.heap[b]?)
 (hag:∀ s∈mem,s.same ρ ρ')
 (hsub:(r'.hl ρ').sub w') (hpos:r'.pos ρ') (hdom:∀ b,(r'.hl ρ').mem b->w.heap.size<=b):MRel S w0 ρ' (mem++[r']) w':=by
 refine h.te (fun b=>False) (fun q=>q=mem.length) (fun b hb=>hb.elim) ho ht hout hs (fun b hl _=>hb b hl) ?_ ?_ ?_
 .intro q s hq hn;rw[abc]at hq;split at hq
  .exact⟨hq,hag s (Zb hq),fun _ _=>id⟩
  .rw[Zv (by simp;omega)]at hq;cases hq
 .intro q s hq hn;rw[hn,Zz (ZB _),ab1]at hq;cases hq;exact⟨⟨hsub,hpos⟩,fun b hb=>Or.inr (hdom b hb)⟩
 .intro q q' s s' hne h1 h2;exact absurd (h1.trans h2.symm) hne
theorem MRel.cx (h:MRel S w0 ρ mem w) (hag:∀ s∈mem,s.same ρ ρ'):MRel S w0 ρ' mem w :=
 h.te (fun _=>False) (fun _=>False) (fun _ h=>h.elim) rfl rfl rfl (ZB _) (fun _ _ _=>rfl) (fun p r hp _=>⟨hp,hag r (Zb hp),fun _ _=>id⟩) (fun _ _ _ h=>h.elim) (fun _ _ _ _ _ h=>h.elim)
theorem MRel.below (h:MRel S w0 ρ mem w) (hb:RowKit.Below w.heap.size w w'):MRel S w0 ρ mem w' :=
 h.te (fun _=>False) (fun _=>False) (fun _ h=>h.elim) hb.os hb.tape hb.output hb.size (fun b hl _=>hb.block b hl) (fun p r hp _=>⟨hp,⟨rfl,id⟩,fun _ _=>id⟩) (fun _ _ _ h=>h.elim) (fun _ _ _ _ _ h=>h.elim)
theorem MRel.sublist (h:MRel S w0 ρ mem w) (hm:∀ (p:Nat) r,mem'[p]?=some r->mem[p]?=some r\/r=.dead):MRel S w0 ρ mem' w:=by
 refine h.te (fun _=>False) (fun p=>mem'[p]?=some .dead) (fun _ h=>h.elim) rfl rfl rfl (ZB _) (fun _ _ _=>rfl) (fun p r hp hn=>⟨(hm p r hp).resolve_right (fun e=>hn (by rw[hp,e])),⟨rfl,id⟩,fun _ _=>id⟩) ?_ ?_
 .intro p r hp hn;rw[hp]at hn;cases hn;exact⟨⟨(fun b o hb=>by cases hb),trivial⟩,(fun b hb=>by cases hb)⟩
 .intro p q r s _ hn _ hp _ _;rw[hp]at hn;cases hn;rintro b ⟨x,_⟩;cases x
theorem Rel.cx {m:Nat} (h:ah m ρ ρ') (hb:st.upto m=true) (hr:Rel S w0 ρ st a w):Rel S w0 ρ' st a w:=by
 simp only[St.upto,Zg]at hb;refine⟨hr.toMRel.cx (Mem.cx h hb.1.2),hr.size,hr.defers,fun t s hs=>?_,hr.path.cx h hb.2⟩;have:=hb.1.1;rw[ZF]at this;have:=this _ (Zb hs);simp only[Mg]at this;rw[TV.cx h s this];exact hr.tmp t s hs
theorem Rel.nh {m:Nat} (h:ah m ρ ρ') (hb:st.upto m=true) (hr:Rel S w0 ρ st a w) {mem:Mem} (hm:MRel S w0 ρ' mem w') (nv:Nat):Rel S w0 ρ' {st with mem:=mem,nv:=nv} a w':=by
 have:=hr.cx h hb;exact⟨hm,this.size,this.defers,this.tmp,this.path⟩
def dg (st:St):Operand->Option TV
 | .tmp t=>match st.tmps[t]? with
  | some (some s)=>some s
  | _=>none
 | .const v=>some (lift v)
 | .func f=>some (.sv (.one (.val (.func (.func f) #[] #[]))))
 | .global g=>some (.sv (.one (.hptr (.lit g) (.lit 0))))
theorem bc (h:Rel S w0 ρ st a w) {x:Operand} {v:TV} (ho:dg st x=some v):a.eval x=v.ev ρ:=by
 cases x with
 | tmp t =>
  simp only[dg]at ho;split at ho
  .rename_i s hs;have:=h.tmp t s hs;simp only[Zj]at ho;subst ho;simp [Act.eval,this]
  .cases ho
 | const v'=>simp only[dg,Zj]at ho;rw[<-ho,HG];rfl
 | func f=>simp only[dg,Zj]at ho;rw[<-ho];rfl
 | global g=>simp only[dg,Zj]at ho;rw[<-ho];rfl
def St.put (st:St) (d:Option Tmp) (v:Option TV):St :=
 match d with
 | some d=>{st with tmps:=st.tmps.set d v}
 | none=>st
theorem St.gL (st:St) (d:Option Tmp) (v:Option TV):(st.put d v).mem=st.mem:=by cases d<;>rfl
theorem St.Bd (st:St) (d:Option Tmp) (v:Option TV):(st.put d v).nv=st.nv:=by cases d<;>rfl
theorem St.xn (st:St) (d:Option Tmp) (v:Option TV):(st.put d v).path=st.path:=by cases d<;>rfl
theorem Rel.put (h:Rel S w0 ρ st a w) (d:Option Tmp) (v:Option TV) (x:Value) (hx:∀ y,v=some y->x=y.ev ρ):Rel S w0 ρ (st.put d v) (a.put d x) w:=by
 cases d with
 | none=>exact h
 | some d =>
  refine⟨h.toMRel,?_,h.defers,?_,h.path⟩
  .simp [Act.put,St.put,h.size]
  .intro t s hs;simp only[St.put]at hs;simp only[Act.put];by_cases he:d=t
   .subst he;by_cases hlt:d<st.tmps.length
    .rw[aag hlt]at hs;simp only[Zj]at hs;rw[Array.getElem?_setIfInBounds_self_of_lt (by rw[h.size];exact hlt),hx s hs]
    .rw[Zv (by simpa using hlt)]at hs;cases hs
   .rw[aab he]at hs;rw[aaw he];exact h.tmp t s hs
def xl (a:Nat):Mem->Nat->Option (Nat×List CV×TypeId)
 | [],_=>none
 | .bD b l T::m,p=>if b=a then some (p,l,T)else xl a m (p+1)
 | _::m,p=>xl a m (p+1)
theorem iv {a:Nat} : ∀ {mem:Mem} {p q:Nat} {l:List CV} {T:TypeId},xl a mem p=some (q,l,T)->p<=q/\mem[q-p]?=some (.bD a l T)
 | [],_,_,_,_,h=>by cases h
 | .bD b l' T'::m,p,q,l,T,h=>by
  unfold xl at h;split at h
  .rename_i e;subst e;cases h;exact⟨ZB _,by simp⟩
  .obtain⟨h1,h2⟩:=iv h;exact⟨by omega,by rw[show q-p=(q-(p+1))+1 by omega,Z3];exact h2⟩
 | .hp _ _ _ _::m,p,q,l,T,h=>by
  obtain⟨h1,h2⟩:=iv (mem:=m) (p:=p+1) h;exact⟨by omega,by rw[show q-p=(q-(p+1))+1 by omega,Z3];exact h2⟩
 | .ro _ _ _::m,p,q,l,T,h=>by
  obtain⟨h1,h2⟩:=iv (mem:=m) (p:=p+1) h;exact⟨by omega,by rw[show q-p=(q-(p+1))+1 by omega,Z3];exact h2⟩
 | .dead::m,p,q,l,T,h=>by
  obtain⟨h1,h2⟩:=iv (mem:=m) (p:=p+1) h;exact⟨by omega,by rw[show q-p=(q-(p+1))+1 by omega,Z3];exact h2⟩
def qX (mem:Mem) (a:Nat):Option (Nat×List CV×TypeId):=xl a mem 0
theorem fF {a p:Nat} {l:List CV} {T:TypeId} (h:qX mem a=some (p,l,T)):mem[p]?=some (.bD a l T):=by
 have:=(iv h).2;simpa using this
def bx.has (x:E):bx->Bool
 | .hp k vers tags _=>tags.contains x||(match x with | .hP h _ _ _ _=>h==k||vers.contains h | _=>false)
 | .ro k tags _=>tags.contains x||(match x with | .hP h _ _ _ _=>h==k | _=>false)
 | _=>false
def Dp (x:E):Mem->Nat->Option (Nat×bx)
 | [],_=>none
 | r::m,p=>if r.has x then some (p,r)else Dp x m (p+1)
theorem tR {x:E} : ∀ {mem:Mem} {p q:Nat} {r:bx},Dp x mem p=some (q,r)->p<=q/\mem[q-p]?=some r
 | [],_,_,_,h=>by cases h
 | s::m,p,q,r,h=>by
  unfold Dp at h;split at h
  .cases h;exact⟨ZB _,by simp⟩
  .obtain⟨h1,h2⟩:=tR h;exact⟨by omega,by rw[show q-p=(q-(p+1))+1 by omega,Z3];exact h2⟩
def bx.hk:bx->Option Nat
 | .hp k _ _ _=>some k
 | .ro k _ _=>some k
 | _=>none
theorem bx.S5 {r:bx} {k:Nat} (h:r.hk=some k):r.hl ρ=ρ.h k:=by cases r<;>simp [bx.hk]at h<;>simp [bx.hl,h]
def bx.UB:bx->Bool
 | .ro _ _ any=>any
 | _=>false
def oh:Mem->Nat->Option (Nat×bx)
 | [],_=>none
 | r::m,p=>if r.UB then some (p,r)else oh m (p+1)
theorem jD:∀ {mem:Mem} {p q:Nat} {r:bx},oh mem p=some (q,r)->p<=q/\mem[q-p]?=some r
 | [],_,_,_,h=>by cases h
 | s::m,p,q,r,h=>by
  unfold oh at h;split at h
  .cases h;exact⟨ZB _,by simp⟩
  .obtain⟨h1,h2⟩:=jD h;exact⟨by omega,by rw[show q-p=(q-(p+1))+1 by omega,Z3];exact h2⟩
def Ay (mem:Mem) (x:E):Option (Nat×bx) :=
 match Dp x mem 0 with
 | some (p,.ro k tags false)=>if tags.contains x then some (p,.ro k tags false)else match oh mem 0 with
  | some q=>some q
  | none=>some (p,.ro k tags false)
 | some r=>some r
 | none=>oh mem 0
theorem gR {x:E} {p:Nat} {r:bx} (h:Ay mem x=some (p,r)):mem[p]?=some r:=by
 have any:∀ {p r},oh mem 0=some (p,r)->mem[p]?=some r:=fun h=>by
  have:=(jD h).2;simpa using this
 have hp:∀ {p r},Dp x mem 0=some (p,r)->mem[p]?=some r:=fun h=>by
  have:=(tR h).2;simpa using this
 unfold Ay at h;split at h
 .rename_i hr;split at h
  .cases h;exact hp hr
  .split at h
   .rename_i hq;cases h;exact any hq
   .cases h;exact hp hr
 .rename_i hr;cases h;exact hp hr
 .exact any h
theorem sW {P:Program} {t:TypeId} {d:TypeDesc} (hu:P.underlying t=some d) (w:World):(isAgg t).run P w=.ok (match d with | .struct _ | .array _ _=>true | _=>false) w:=by
 unfold isAgg;rw[Sem.run_bind,run_underlying hu w];cases d<;>rfl
def Ec (P:Program) (t:TypeId):Option Bool :=
 match P.underlying t with
 | some (.struct _)=>some true
 | some (.array _ _)=>some true
 | some _=>some false
 | none=>none
theorem qK {P:Program} {t:TypeId} {b:Bool} (h:Ec P t=some b) (w:World):(isAgg t).run P w=.ok b w:=by
 unfold Ec at h;split at h
 .rename_i hu;cases h;exact sW hu w
 .rename_i hu;cases h;exact sW hu w
 .rename_i d hs ha hu;cases h;rw[sW hu w];cases d<;>first | rfl | (exact absurd rfl (hs _)) | (exact absurd rfl (ha _ _)) | (exact absurd hu (hs _)) | (exact absurd hu (ha _ _))
 .cases h
def eO (P:Program) (t:TypeId):Option Nat:=(P.info? t).map (·.size)
theorem dL {P:Program} {t:TypeId} {n:Nat} (h:eO P t=some n) (w:World):(sizeOf t).run P w=.ok n w:=by
 unfold eO at h;cases hi:P.info? t with
 | none=>simp [hi]at h
 | some i=>simp [hi]at h;subst h;simp [sizeOf,typeInfo,hi]
def kl (P:Program) (t:TypeId):Option Value:=(P.info? t).bind (·.zero)
theorem jN {P:Program} {t:TypeId} {v:Value} (h:kl P t=some v) (w:World):(zeroValue t).run P w=.ok v w:=by
 unfold kl at h;cases hi:P.info? t with
 | none=>simp [hi]at h
 | some i=>simp [hi]at h;simp [zeroValue,typeInfo,hi,h]
def fS (P:Program) (t:TypeId) (l:List CV) (o:Nat):Option SV :=
 match Ec P t,eO P t with
 | some true,some n=>if o+n<=l.length then some (.agg ((l.drop o).take n))else none
 | some false,_=>(l[o]?).map .one
 | _,_=>none
theorem ef (b o n:Nat):(⟨b,o,none⟩:Addr).add n=⟨b,o+n,none⟩:=by unfold Addr.add;split<;>simp_all
theorem pO {P:Program} {t:TypeId} {b o n:Nat} {cs:List Value} (ha:Ec P t=some true) (hs:eO P t=some n) (hl:cs.length=n)
 (h:∀ j v,cs[j]?=some v->w.cell? ⟨b,o+j,none⟩=some v):(loadVar t ⟨b,o,none⟩).run P w=.ok (.agg cs.toArray) w:=by
 unfold loadVar;simp only[Sem.run_bind,qK ha,Result.andThen_ok,ZG,dL hs];subst hl;rw[run_loadCells_list w ⟨b,o,none⟩ cs (fun j v hv=>by rw[ef];exact h j v hv)];rfl
theorem tJ {P:Program} {t:TypeId} {p:Addr} {v:Value} (ha:Ec P t=some false) (h:w.cell? p=some v):(loadVar t p).run P w=.ok v w:=by
 unfold loadVar;simp only[Sem.run_bind,qK ha,Result.andThen_ok,Z5,aaG];simp [load,Sem.run,h]
theorem pN {P:Program} {t:TypeId} {l:List CV} {o b:Nat} {v:SV} {T:TypeId} {fr:Nat×Nat} (h:fS P t l o=some v)
 (hb:w.heap[b]?=some (.cells (l.map (CV.ev ρ)).toArray T fr)):(loadVar t ⟨b,o,none⟩).run P w=.ok (v.ev ρ) w:=by
 have hc:∀ j,w.cell? ⟨b,j,none⟩=(l[j]?).map (CV.ev ρ):=fun j=>by simp [World.cell?,hb]
 unfold fS at h;split at h
 .rename_i n ha hs;split at h
  .rename_i hle;cases h;refine pO (cs:=((l.drop o).take n).map (CV.ev ρ)) ha hs (by simp;omega) (fun j x hx=>?_);rw[hc];rw[Zs,Z2]at hx;split at hx
   .rwa[ZZ]at hx
   .simp at hx
  .cases h
 .rename_i ha;simp only[Zk]at h;obtain⟨x,hx,rfl⟩:=h;exact tJ ha (by rw[hc,hx];rfl)
 .cases h
theorem MRel.bD (h:MRel S w0 ρ mem w) {p a:Nat} {l:List CV} {T:TypeId} (hp:mem[p]?=some (.bD a l T)):w.heap[(ρ.i a).toNat]?=some (.cells (l.map (CV.ev ρ)).toArray T (0,0)) :=
 h.sub _ (Zb hp) _ _ (Hl.bF _ _)
end
abbrev TI (k:IntKind) (e:E):TV:=.sv (.one (.int k e))
abbrev TB (e:E):TV:=.sv (.one (.bool e))
abbrev TS (e:E):TV:=.sv (.one (.str e))
abbrev TP (x y:E):TV:=.sv (.one (.hptr x y))
def L3 (k:IntKind):E->E->E
 | .lit a,.lit b=>.lit (k.wrap (a*2 ^ (min b.toNat k.bits)))
 | a,b=>.shl k a b
theorem I1 (ρ:Env) (k:IntKind) (a b:E):aC ρ (L3 k a b)=k.wrap (aC ρ a*2 ^ (min (aC ρ b).toNat k.bits)):=by
 unfold L3;split<;>rfl
def L6 (k:IntKind):E->E->E
 | .lit a,.lit b=>.lit (a.fdiv (2 ^ (min b.toNat k.bits)))
 | a,b=>.shr k a b
theorem I2 (ρ:Env) (k:IntKind) (a b:E):aC ρ (L6 k a b)=(aC ρ a).fdiv (2 ^ (min (aC ρ b).toNat k.bits)):=by
 unfold L6;split<;>rfl
def LY:E->E->E
 | .lit a,.lit b=>.lit (a.tdiv b)
 | a,b=>.quo a b
theorem IY (ρ:Env) (a b:E):aC ρ (LY a b)=(aC ρ a).tdiv (aC ρ b):=by unfold LY;split<;>rfl
def LZ:E->E->E
 | .lit a,.lit b=>.lit (a.tmod b)
 | a,b=>.rem a b
theorem IZ (ρ:Env) (a b:E):aC ρ (LZ a b)=(aC ρ a).tmod (aC ρ b):=by unfold LZ;split<;>rfl
def Qc (op:BinOp) (k k':IntKind) (a b:E):Option (E×TV) :=
 match op with
 | .shl=>some (mkLe (.lit 0) b,TI k (L3 k a b))
 | .shr=>some (mkLe (.lit 0) b,TI k (L6 k a b))
 | op=>if k=k' then match op with
  | .add=>some (.tt,TI k (mkWrap k (mkAdd a b)))
  | .sub=>some (.tt,TI k (mkWrap k (mkSub a b)))
  | .mul=>some (.tt,TI k (mkWrap k (mkMul a b)))
  | .quo=>some (mkNot (mkEq b (.lit 0)),TI k (mkWrap k (LY a b)))
  | .rem=>some (mkNot (mkEq b (.lit 0)),TI k (LZ a b))
  | .and=>some (.tt,TI k (.bits .and k a b))
  | .or=>some (.tt,TI k (.bits .or k a b))
  | .xor=>some (.tt,TI k (.bits .xor k a b))
  | .andNot=>some (.tt,TI k (.bits .andNot k a b))
  | .eql=>some (.tt,TB (mkEq a b))
  | .neq=>some (.tt,TB (mkNot (mkEq a b)))
  | .lss=>some (.tt,TB (mkLt a b))
  | .leq=>some (.tt,TB (mkLe a b))
  | .gtr=>some (.tt,TB (mkLt b a))
  | .geq=>some (.tt,TB (mkLe b a))
  | _=>none
 else none
section
variable {P:Program} {ρ:Env} {w:World}
theorem Ep {op:BinOp} {T:TypeId} {k k':IntKind} {a b n:E} {v:TV} (h:Qc op k k' a b=some (n,v)) (hn:bN ρ n=true) :
 (binOp op T (.int k (aC ρ a)) (.int k' (aC ρ b))).run P w=.ok (v.ev ρ) w:=by
 unfold Qc at h;split at h
 .cases h;rw[bI,ai,Zc]at hn;have:¬aC ρ b<0:=by omega
  simp only[binOp,Op.shift,this,aaG,TV.ev,SV.ev,CV.ev,I1];rfl
 .cases h;rw[bI,ai,Zc]at hn;have:¬aC ρ b<0:=by omega
  simp only[binOp,Op.shift,this,aaG,TV.ev,SV.ev,CV.ev,I2];rfl
 .split at h
  .rename_i hk;subst hk;split at h<;>first | (cases h;done) | skip
   all_goals cases h
   case h_4 =>
    rw[dr,fw,aaf,Z4,ai]at hn;have hz:¬aC ρ b=0:=hn;simp only[binOp,ne_eq,aaV,aaG,Op.intDiv,Zo hz,TV.ev,SV.ev,CV.ev,mF,IY,Sem.run_pure]
   case h_5 =>
    rw[dr,fw,aaf,Z4,ai]at hn;have hz:¬aC ρ b=0:=hn;simp only[binOp,ne_eq,aaV,aaG,Op.intDiv,Zo hz,TV.ev,SV.ev,CV.ev,IZ,Sem.run_pure]
   all_goals
    simp only[binOp,ne_eq,aaV,aaG,Op.intArith,Op.intBits,Op.intCmp,TV.ev,SV.ev,CV.ev,mF,dZ,lX,lW,rl,fw,dr,ik,bI,cU]
    try rfl
    try (simp only[Sem.run_pure];congr 2;rw[aaW];simp)
  .cases h
theorem xZ (x y:ByteArray):(x.toList==y.toList)=decide (x=y):=by
 rw[aaW];simp only[abT,Zc];refine⟨fun h=>?_,fun h=>by rw[h]⟩;rw[ByteArray.toList_eq,ByteArray.toList_eq]at h;cases x;cases y;simp at h;rw[h]
def Qd (op:BinOp) (a b:E):Option (E×TV) :=
 match op with
 | .add=>some (mkLe (mkAdd (tL a) (tL b)) (.lit 9223372036854775807),TS (HM a b))
 | .eql=>some (.tt,TB (mkSeq a b))
 | .neq=>some (.tt,TB (mkNot (mkSeq a b)))
 | _=>none
theorem Er {op:BinOp} {T:TypeId} {a b n:E} {v:TV} (h:Qd op a b=some (n,v)) (hn:bN ρ n=true) :
 (binOp op T (.string (jq ρ a)) (.string (jq ρ b))).run P w=.ok (v.ev ρ) w:=by
 unfold Qd at h;split at h
 .cases h;rw[bI,dZ,jL,jL,ai,Zc]at hn;have:¬(((jq ρ a).size+(jq ρ b).size:Nat):Int)>IntKind.i64.max:=by simp only[IntKind.max,IntKind.signed,IntKind.bits];omega
  simp only[binOp,Op.stringOp,Zo this,TV.ev,SV.ev,CV.ev,zH,Sem.run_pure]
 .cases h;simp only[binOp,Op.stringOp,TV.ev,SV.ev,CV.ev,su,Sem.run_pure,xZ]
 .cases h;simp only[binOp,Op.stringOp,TV.ev,SV.ev,CV.ev,dr,su,Sem.run_pure,xZ]
 .cases h
def xP (i:E):Nat->List SV->Option SV
 | _,[]=>none
 | _,[v]=>some v
 | j,v::l=>match xP i (j+1) l with
  | some r=>uN (mkEq i (.lit j)) v r
  | none=>none
theorem xQ {i:E} : ∀ (l:List SV) (j:Nat) (v:SV),xP i j l=some v->(j:Int)<=aC ρ i->aC ρ i<j+l.length->∃ x,l[(aC ρ i).toNat-j]?=some x/\v.ev ρ=x.ev ρ
 | [],j,v,h,_,_=>by simp [xP]at h
 | [x],j,v,h,h1,h2=>by
  simp only[xP,Zj]at h;subst h;simp only[ZC]at h2;have:(aC ρ i).toNat-j=0:=by omega
  exact⟨x,by rw[this];rfl,rfl⟩
 | x::y::l,j,v,h,h1,h2=>by
  simp only[xP]at h;split at h
  .rename_i r hr;have hm:=wQ (ρ:=ρ) h;rw[fw,ai]at hm;by_cases he:aC ρ i=(j:Int)
   .have:(aC ρ i).toNat-j=0:=by omega
    exact⟨x,by rw[this];rfl,by rw[hm];simp [he]⟩
   .simp only[Zd]at h2;obtain⟨z,hz,hv⟩:=xQ (y::l) (j+1) r hr (by omega) (by simp only[Zd];omega);refine⟨z,?_,by rw[hm,<-hv];simp [he]⟩;have:(aC ρ i).toNat-j=((aC ρ i).toNat-(j+1))+1:=by omega
    rw[this,Z3];exact hz
  .cases h
def Ni (i:E) (n:Nat):E:=mkAnd (mkLe (.lit 0) i) (mkLt i (.lit n))
theorem gV {i:E} {n:Nat} (h:bN ρ (Ni i n)=true):0<=aC ρ i/\aC ρ i<n:=by
 unfold Ni at h;rw[bp,Zg,bI,ik,Zc,Zc]at h;exact h
def ga {α:Type} : List (Option α)->Option (List α)
 | []=>some []
 | some x::l=>(ga l).map (x::·)
 | none::_=>none
theorem ky {α:Type} : ∀ {l:List (Option α)} {m:List α},ga l=some m->m.length=l.length/\∀ (j:Nat) x,m[j]?=some x->l[j]?=some (some x)
 | [],m,h=>by cases h;simp
 | some y::l,m,h=>by
  simp only[ga,Zk]at h;obtain⟨r,hr,rfl⟩:=h;obtain⟨h1,h2⟩:=ky hr;refine⟨by simp [h1],fun j x hx=>?_⟩;cases j with
  | zero=>simpa using hx
  | succ j=>simpa using h2 j x (by simpa using hx)
 | none::l,m,h=>by simp [ga]at h
def kindOf:Value->Kd
 | .int k _=>.int k
 | .bool _=>.bool
 | .slice _ _ _=>.slice
 | .pointer _=>.ptr
 | .string _=>.str
 | .map _=>.map
 | _=>.any
def rT (h:Nat) (x y:E) (j:Nat):Kd->CV
 | .int k=>.int k (.hI h x y j)
 | .bool=>.bool (.hB h x y j)
 | .slice=>.sl (.hP h x y j 0) (.hP h x y j 1) (.hP h x y j 2) (.hP h x y j 3)
 | .ptr=>.hptr (.hP h x y j 0) (.hP h x y j 1)
 | .str=>.str (.hS h x y j)
 | .map=>.map (.hP h x y j 0)
 | .any=>.hv h x y j
theorem qv {h:Nat} {x y:E} {j:Nat} {k:Kd} (hh:bN ρ (.his h x y j k)=true):(ρ.h h).cell (aC ρ x).toNat ((aC ρ y).toNat+j)=some ((rT h x y j k).ev ρ):=by
 rw[uD]at hh;cases hc:(ρ.h h).cell (aC ρ x).toNat ((aC ρ y).toNat+j)with
 | none=>simp [hc,bY]at hh
 | some v =>
  rw[hc]at hh;cases k with
  | any=>simp [rT,CV.ev,hc]
  | int k =>
   cases v<;>simp only[bY,Z5,Zc]at hh
   subst hh;simp [rT,CV.ev,aQ,hc,cW]
  | bool =>
   cases v<;>simp only[bY,Z5]at hh
   simp [rT,CV.ev,Qa,hc,yA]
  | str =>
   cases v<;>simp only[bY,Z5]at hh
   simp [rT,CV.ev,RI,hc,M9]
  | map =>
   cases v<;>simp only[bY,Z5]at hh
   rename_i r;cases r<;>simp [rT,CV.ev,aP,hc,bM]
  | slice =>
   cases v<;>simp only[bY,Z5]at hh
   rename_i a n c;cases a with
   | none=>simp [rT,CV.ev,aP,hc,bM,aA]
   | some a =>
    obtain⟨b,o,s⟩:=a;cases s with
    | none=>simp [rT,CV.ev,aP,hc,bM,aA]
    | some s =>
     simp only[rT,CV.ev,aP,hc,bM,Y7];unfold aA;rw[Zo (by omega),Zo (by omega),Y7,D6,show(-(-(b:Int)-2)-2).toNat=b by omega]
  | ptr =>
   unfold bY at hh;split at hh<;>first | (cases hh;done) | skip
   all_goals simp_all
   .simp [rT,CV.ev,aP,hc,bM,aA]
   .simp [rT,CV.ev,aP,hc,bM,aA]
def bo (h:Nat) (x y:E):Nat->List Kd->List CV
 | _,[]=>[]
 | j,k::l=>rT h x y j k::bo h x y (j+1) l
def iw (h:Nat) (x y:E):Nat->List Kd->E
 | _,[]=>.tt
 | j,k::l=>mkAnd (.his h x y j k) (iw h x y (j+1) l)
theorem ot {h:Nat} {x y:E} : ∀ (ks:List Kd) (j:Nat),bN ρ (iw h x y j ks)=true->∀ (i:Nat) v,((bo h x y j ks).map (CV.ev ρ))[i]?=some v->(ρ.h h).cell (aC ρ x).toNat ((aC ρ y).toNat+(j+i))=some v
 | [],_,_,i,v,h=>by simp [bo]at h
 | k::l,j,hn,i,v,h=>by
  simp only[iw,bp,Zg]at hn;cases i with
  | zero =>
   simp only[bo,Zf,Z6,Zj]at h;rw[<-h];exact qv hn.1
  | succ i =>
   simp only[bo,Zf,Z3]at h;have:=ot l (j+1) hn.2 i v h;rwa[show j+(i+1)=j+1+i by omega]
theorem jo (h:Nat) (x y:E):∀ (ks:List Kd) (j:Nat),(bo h x y j ks).length=ks.length
 | [],_=>rfl
 | _::l,j=>by simp [bo,jo h x y l (j+1)]
theorem pS {h:Nat} {x y:E} : ∀ (ks:List Kd) (j:Nat),ks.all (fun k=>decide (k=.int .u8))=true->(∀ i,i<ks.length->bY ((ρ.h h).cell (aC ρ x).toNat ((aC ρ y).toNat+(j+i))) (.int .u8)=true)->bN ρ (iw h x y j ks)=true
 | [],_,_,_=>by simp [iw,c8]
 | k::l,j,ha,hb=>by
  simp only[ace,Zg,Zc]at ha;obtain⟨rfl,ha⟩:=ha;simp only[iw,bp,Zg,uD];refine⟨by have:=hb 0 (by simp);simpa using this,pS l (j+1) ha fun i hi=>?_⟩;have:=hb (i+1) (by simp only[Zd];omega);rwa[show j+(i+1)=j+1+i by omega]at this
def xF (h:Nat) (x y:E) (ks:List Kd):E :=
 if decide (8<ks.length)&&ks.all (fun k=>decide (k=.int .u8))then .hby h x y (.lit ks.length)else if 8<ks.length then .hks h x y ks else iw h x y 0 ks
theorem tZ {h:Nat} {x y:E} : ∀ (ks:List Kd) (j:Nat),ua (ρ.h h) (aC ρ x).toNat ((aC ρ y).toNat+j) ks=true->bN ρ (iw h x y j ks)=true
 | [],_,_=>by simp [iw,c8]
 | k::l,j,hr=>by
  simp only[ua,Zg]at hr;simp only[iw,bp,Zg,uD];exact⟨hr.1,tZ l (j+1) hr.2⟩
theorem DE {h:Nat} {x y:E} {ks:List Kd} (hn:bN ρ (xF h x y ks)=true):bN ρ (iw h x y 0 ks)=true:=by
 unfold xF at hn;split at hn
 .rename_i hc;simp only[Zg,Zc]at hc;rw[Af,ai,Y7]at hn;unfold cy at hn;rw[ZF]at hn;refine pS ks 0 hc.2 fun i hi=>?_;have:=hn i (ZQ.2 hi);rwa[ZM]
 .split at hn
  .exact tZ ks 0 hn
  .exact hn
def nU (mem:Mem) (x y:E):Option (Nat×Nat×List CV×TypeId×Nat) :=
 match x,y with
 | .var a,.lit o=>if 0<=o then(qX mem a).map fun r=>(a,r.1,r.2.1,r.2.2,o.toNat)else none
 | _,_=>none
theorem gb {mem:Mem} {x y:E} {a p o:Nat} {l:List CV} {T:TypeId} (h:nU mem x y=some (a,p,l,T,o)):x=.var a/\y=.lit o/\mem[p]?=some (.bD a l T):=by
 unfold nU at h;split at h
 .rename_i a' o';split at h
  .rename_i ho;simp only[Zk,Z0]at h;obtain⟨⟨q,l',T'⟩,hq,rfl,rfl,rfl,rfl,rfl⟩:=h;refine⟨rfl,by rw[abh ho],fF hq⟩
  .cases h
 .cases h
def CY (mem:Mem) (x:E):E :=
 match x with
 | .var a=>if(qX mem a).isSome then .tt else .le (.lit 0) x
 | x=>mkLe (.lit 0) x
theorem MRel.CY {S:Nat->Prop} {w0:World} {mem:Mem} (h:MRel S w0 ρ mem w) {x:E} (hx:bN ρ (CY mem x)=true):0<=aC ρ x:=by
 unfold Sx.CY at hx;split at hx
 .split at hx
  .rename_i a ha;obtain⟨⟨p,l,T⟩,hp⟩:=aah.1 ha;exact h.pos _ (Zb (fF hp))
  .rw[jO,ai,Zc]at hx;exact hx
 .rw[bI,ai,Zc]at hx;exact hx
def HH (P:Program) (mem:Mem) (t:TypeId):CV->Option (E×SV)
 | .pti a o s n i=>match qX mem a with
  | some (_,l,_)=>match ga ((List.range n).map fun j=>fS P t l (o+s*j))with
   | some vs=>(xP i 0 vs).map fun v=>(Ni i n,v)
   | none=>none
  | _=>none
 | .hptr x y=>match nU mem x y with
  | some (_,_,l,_,o)=>(fS P t l o).map fun v=>(.tt,v)
  | none=>match(Ay mem x).bind (fun r=>r.2.hk)with
   | some h=>match Ec P t,kl P t,eO P t with
    | some true,some z,some n =>
     let ks:=z.cells.toList.map kindOf
     if ks.length=n then some (mkAnd (mkLe (.lit 0) x) (mkAnd (mkLe (.lit 0) y) (xF h x y ks)),.agg (bo h x y 0 ks))else none
    | some false,some z,_=>some (mkAnd (mkLe (.lit 0) x) (mkAnd (mkLe (.lit 0) y) (.his h x y 0 (kindOf z))),.one (rT h x y 0 (kindOf z)))
    | _,_,_=>none
   | none=>none
 | _=>none
variable {S:Nat->Prop} {w0:World} {mem:Mem}
theorem vS (h:MRel S w0 ρ mem w) {x:E} {k:Nat} (hf:(Ay mem x).bind (fun r=>r.2.hk)=some k):(ρ.h k).sub w:=by
 cases hh:Ay mem x with
 | none=>simp [hh]at hf
 | some r =>
  simp only[hh,aaQ]at hf;have:=h.sub r.2 (Zb (gR (p:=r.1) (r:=r.2) hh));rwa[bx.S5 hf]at this
theorem tI (h:MRel S w0 ρ mem w) {t:TypeId} {c:CV} {n:E} {v:SV} (hl:HH P mem t c=some (n,v)) (hn:bN ρ n=true) :
 ∃ p,c.ev ρ=.pointer (some p)/\(loadVar t p).run P w=.ok (v.ev ρ) w:=by
 unfold HH at hl;split at hl
 .rename_i b o s m i;split at hl
  .rename_i p l T hb;split at hl
   .rename_i vs hvs;simp only[Zk,Z0]at hl;obtain⟨v',hv,rfl,rfl⟩:=hl;obtain⟨h1,h2⟩:=gV hn;obtain⟨hlen,hget⟩:=ky hvs;simp only[ZD,aaA]at hlen;obtain⟨x,hx,hxv⟩:=xQ vs 0 v' hv (by omega) (by omega);have hx':=hget _ _ hx;rw[ab2,Zs,ZI (by omega)]at hx';simp only[ZS,Zj]at hx';have hk:=fF hb;have hpos:0<=ρ.i b:=h.pos _ (Zb hk);refine⟨_,by simp only[CV.ev];rw[au hpos],?_⟩;have e:((o:Int)+(s:Int)*aC ρ i).toNat=o+s*(aC ρ i).toNat:=by
     obtain⟨q,hq⟩:=aaq h1;rw[hq,Y7,<-Int.natCast_mul,<-Int.natCast_add,Y7]
    rw[e,hxv];exact pN hx' (h.bD hk)
   .cases hl
  .cases hl
 .rename_i x y;split at hl
  .rename_i a p l T o hk0;obtain⟨rfl,rfl,hk⟩:=gb hk0;simp only[Zk,Z0]at hl;obtain⟨v',hv,rfl,rfl⟩:=hl;have hpos:0<=ρ.i a:=h.pos _ (Zb hk);exact⟨_,by simp only[CV.ev,aj,ai];rw[au hpos,Y7],pN hv (h.bD hk)⟩
  .split at hl
   .rename_i k hk;have hsub:=vS h hk;split at hl
    .rename_i z m ha hz hs;simp only at hl;split at hl
     .rename_i hm;cases hl;rw[bp,Zg,bp,Zg,bI,bI,ai,Zc,Zc]at hn;obtain⟨hx,hy,hn⟩:=hn;replace hn:=DE hn;refine⟨_,by simp only[CV.ev];rw[au hx],?_⟩;refine pO (cs:=(bo k x y 0 (z.cells.toList.map kindOf)).map (CV.ev ρ)) ha hs (by simp only[ZD,jo];simpa using hm) (fun j u hu=>?_);have:=ot _ 0 hn j u hu;rw[ZM]at this;exact Hl.gG hsub this
     .cases hl
    .rename_i z _ ha hz;cases hl;rw[bp,Zg,bp,Zg,bI,bI,ai,Zc,Zc]at hn;obtain⟨hx,hy,hn⟩:=hn;have:=qv hn;refine⟨_,by simp only[CV.ev];rw[au hx],tJ ha ?_⟩;exact Hl.gG hsub this
    .cases hl
   .cases hl
 .cases hl
end
abbrev RT:=Option (E×TV)
def Xy:UnOp->TV->RT
 | .not,.sv (.one (.bool e))=>some (.tt,TB (mkNot e))
 | .neg,.sv (.one (.int k e))=>some (.tt,TI k (mkWrap k (mkSub (.lit 0) e)))
 | .xor,.sv (.one (.int k e))=>some (.tt,TI k (.bits .xor k (.lit (if k.signed then -1 else k.max)) e))
 | _,_=>none
def strOf:List CV->Option E
 | []=>some (.slit .empty)
 | .int .u8 e::l=>(strOf l).map fun s=>HM (.sbyte e) s
 | _=>none
def I3 (P:Program) (el:TypeId):Bool:=match P.underlying el with | some (.int .u8)=>true | _=>false
def KR (P:Program) (mem:Mem) (src dst:TypeId) (x:TV):RT :=
 match P.underlying src,P.underlying dst,x with
 | some _,some (.int k),.sv (.one (.int _ e))=>some (.tt,TI k (mkWrap k e))
 | some .string,some .string,.sv (.one (.str e))=>some (.tt,TS e)
 | some (.slice el),some .string,.sv (.one (.sl x y l c)) =>
  if I3 P el then
   if x=.lit (-1)then some (.tt,TS (.slit .empty))else
   match nU mem x y,l with
   | some (_,_,cs,_,o),.lit n=>if o+n.toNat<=cs.length then(strOf ((cs.drop o).take n.toNat)).map fun s=>(.tt,TS s)else none
   | _,_=>match(Ay mem x).bind (fun r=>r.2.hk)with
    | some h=>some (mkOr (mkEq x (.lit (-1))) (mkOr (mkEq l (.lit 0)) (mkAnd (mkLe (.lit 0) x) (mkAnd (mkLe (.lit 0) y) (.hby h x y l)))),TS (mkIte (mkEq x (.lit (-1))) (.slit .empty) (.sof h x y l)))
    | none=>none
  else none
 | _,_,_=>none
def qc (P:Program) (mem:Mem) (s:TypeId) (f:Nat) (x:TV):RT :=
 match P.underlying s with
 | some (.struct fs)=>match fs[f]? with
  | some fl=>match eO P fl.type with
   | some (_+1)=>match x with
    | .sv (.one (.hptr x y))=>some (mkAnd (CY mem x) (mkLe (.lit 0) y),TP x (mkAdd y (.lit fl.offset)))
    | .sv (.one (.pti a o s n i))=>if(qX mem a).isSome then some (Ni i n,.sv (.one (.pti a (o+fl.offset) s n i)))else none
    | _=>none
   | _=>none
  | none=>none
 | _=>none
def qh (P:Program) (mem:Mem) (t:TypeId) (x i:TV):RT :=
 match i with
 | .sv (.one (.int _ e))=>match P.underlying t with
  | some (.array len el)=>match eO P el,x with
   | some n,.sv (.one (.pti a o s m k))=>match e with
    | .lit j=>if 0<=j/\j<len/\(qX mem a).isSome then some (Ni k m,.sv (.one (.pti a (o+j.toNat*n) s m k)))else none
    | _=>none
   | some n,.sv (.one (.hptr x y))=>match e,nU mem x y with
    | .lit j,_=>if 0<=j/\j<len then some (mkAnd (CY mem x) (mkLe (.lit 0) y),TP x (mkAdd y (.lit (j.toNat*n))))else none
    | e,some (a,_,_,_,o)=>some (Ni e len,.sv (.one (.pti a o n len e)))
    | e,none=>some (mkAnd (CY mem x) (mkAnd (mkLe (.lit 0) y) (Ni e len)),TP x (mkAdd y (mkMul e (.lit n))))
   | _,_=>none
  | some (.slice el)=>match eO P el,x with
   | some n,.sv (.one (.sl x y l _))=>match e,nU mem x y,l with
    | .lit j,_,_=>some (mkAnd (CY mem x) (mkAnd (mkLe (.lit 0) y) (mkAnd (mkLe (.lit 0) (.lit j)) (mkLt (.lit j) l))),TP x (mkAdd y (mkMul (.lit j) (.lit n))))
    | e,some (a,_,_,_,o),.lit q=>some (mkAnd (Ni e q.toNat) (mkLe (.lit 0) (.lit q)),.sv (.one (.pti a o n q.toNat e)))
    | e,_,l=>some (mkAnd (CY mem x) (mkAnd (mkLe (.lit 0) y) (mkAnd (mkLe (.lit 0) e) (mkLt e l))),TP x (mkAdd y (mkMul e (.lit n))))
   | _,_=>none
  | _=>none
 | _=>none
def EL (P:Program) (t:TypeId) (f:Nat) (x:TV):RT :=
 match P.underlying t,x with
 | some (.struct fs),.sv (.agg l)=>match fs[f]? with
  | some fl=>(fS P fl.type l fl.offset).map fun v=>(.tt,.sv v)
  | none=>none
 | _,_=>none
def E4 (P:Program) (t:TypeId) (x i:TV):RT :=
 match P.underlying t,x,i with
 | some (.array len el),.sv (.agg l),.sv (.one (.int _ e))=>match eO P el with
  | some n=>match e with
   | .lit j=>if 0<=j/\j<len then(fS P el l (j.toNat*n)).map fun v=>(.tt,.sv v)else none
   | e=>match ga ((List.range len).map fun j=>fS P el l (j*n))with
    | some vs=>(xP e 0 vs).map fun v=>(Ni e len,.sv v)
    | none=>none
  | none=>none
 | some .string,.sv (.one (.str s)),.sv (.one (.int _ e))=>some (mkAnd (mkLe (.lit 0) e) (mkLt e (tL s)),TI .u8 (L0 s e))
 | _,_,_=>none
def vO (i:Nat):TV->RT
 | .tup l=>(l[i]?).map fun v=>(.tt,.sv v)
 | _=>none
def QT (P:Program) (mem:Mem) (t:TypeId) (x:TV):RT :=
 match P.underlying t,x with
 | some (.array n _),_=>some (.tt,TI .i64 (.lit n))
 | some (.slice _),.sv (.one (.sl _ _ l _))=>some (mkLe (.lit 0) l,TI .i64 l)
 | some .string,.sv (.one (.str e))=>some (.tt,TI .i64 (tL e))
 | some (.map _ _),.sv (.one (.map x))=>match(Ay mem x).bind (fun r=>r.2.hk)with
  | some h=>some (mkAnd (mkLe (.lit 0) x) (mkAnd (mkLe (.lit 0) x) (.hism h x)),TI .i64 (.hmlen h x))
  | none=>none
 | _,_=>none
def Q1:TV->TV->Option TV
 | .sv (.one (.int k x)),.sv (.one (.int _ y))=>some (TI k (mkIte (mkLt y x) y x))
 | _,_=>none
def Q0:TV->TV->Option TV
 | .sv (.one (.int k x)),.sv (.one (.int _ y))=>some (TI k (mkIte (mkLt x y) y x))
 | _,_=>none
def Cv (f:TV->TV->Option TV):List TV->TV->Option TV
 | [],x=>some x
 | y::l,x=>match f x y with
  | some z=>Cv f l z
  | none=>none
def rH (st:St):List Operand->Option (List TV)
 | []=>some []
 | x::l=>match dg st x,rH st l with
  | some v,some vs=>some (v::vs)
  | _,_=>none
def vg (P:Program) (mem:Mem) (b:Builtin) (ats:Array TypeId) (vs:List TV):RT :=
 match b,vs with
 | .len,[x]=>match ats[0]? with | some t=>QT P mem t x | none=>none
 | .min,x::l=>(Cv Q1 l x).map fun v=>(.tt,v)
 | .max,x::l=>(Cv Q0 l x).map fun v=>(.tt,v)
 | _,_=>none
def SV.cells:SV->List CV
 | .one c=>[c]
 | .agg l=>l
def CV.pG:CV->Bool
 | .val v=>v.oneCell'
 | .vr _=>false
 | .hv _ _ _ _=>false
 | _=>true
theorem CV.nJ {ρ:Env} (c:CV) (h:c.pG=true):(c.ev ρ).oneCell'=true:=by
 cases c<;>first | rfl | exact h | cases h
theorem SV.qQ {ρ:Env} (v:SV) (h:v.cells.all CV.pG=true):(v.ev ρ).cells.toList=v.cells.map (CV.ev ρ):=by
 cases v with
 | one c =>
  simp only[SV.cells,ace,List.all_nil,Bool.and_true]at h;have:=CV.nJ (ρ:=ρ) c h;simp only[SV.ev,SV.cells,Zf,Zr];generalize c.ev ρ=x at *;cases x<;>first | rfl | simp [Value.oneCell']at this
 | agg l=>simp [SV.ev,SV.cells,Value.cells]
def cf {α:Type} (l:List α) (o:Nat) (m:List α):List α:=l.take o++m++l.drop (o+m.length)
def vU (place:Nat->Option (Nat×Nat)) (l:List CV):List (Nat×SV)->Option (List CV)
 | []=>some l
 | (i,v)::rest=>match place i with
  | none=>none
  | some (off,size)=>if v.cells.length=size/\off+v.cells.length<=l.length/\v.cells.all CV.pG=true then vU place (cf l off v.cells) rest else none
def Sp:List TV->Option (List SV)
 | []=>some []
 | .sv v::l=>(Sp l).map (v::·)
 | _=>none
def Ev (P:Program) (t:TypeId) (is:List Nat) (vs:List TV):RT :=
 match kl P t,Sp vs with
 | some z,some vs=>match P.underlying t with
  | some (.struct fs)=>match ga (fs.toList.map fun f=>(eO P f.type).map fun n=>(f.offset,n))with
   | some places=>(vU (places[·]?) (z.cells.toList.map gk) (is.zip vs)).map fun l=>(.tt,.sv (.agg l))
   | none=>none
  | some (.array _ el)=>match eO P el with
   | some n=>(vU (fun i=>some (i*n,n)) (z.cells.toList.map gk) (is.zip vs)).map fun l=>(.tt,.sv (.agg l))
   | none=>none
  | _=>none
 | _,_=>none
def Qe (P:Program) (t:TypeId) (is:List Nat) (vs:List TV):RT :=
 match is,vs,kl P t,P.underlying t with
 | [0],[.sv (.one (.vr j))],some z,some (.struct fs)=>match z.cells.toList,fs.toList with
  | [_],[f]=>if f.offset=0/\eO P f.type=some 1 then some (.le (.vint j) (.lit 1),.sv (.agg [.vr j]))else none
  | _,_=>none
 | _,_,_,_=>none
def Cs (P:Program) (rec:TypeId->SV->SV->Option E) (xs ys:List CV):List Field->Option E
 | []=>some .tt
 | f::fs=>if f.name≠ "_" then
  match fS P f.type xs f.offset,fS P f.type ys f.offset with
  | some a,some b=>match rec f.type a b,Cs P rec xs ys fs with
   | some e,some r=>some (mkAnd e r)
   | _,_=>none
  | _,_=>none
  else Cs P rec xs ys fs
def Hi (P:Program) (rec:TypeId->SV->SV->Option E) (e:TypeId) (xs ys:List CV):List Nat->Option E
 | []=>some .tt
 | i::is=>match fS P e xs (i*P.cellsOf e),fS P e ys (i*P.cellsOf e)with
  | some a,some b=>match rec e a b,Hi P rec e xs ys is with
   | some q,some r=>some (mkAnd q r)
   | _,_=>none
  | _,_=>none
def Aw (P:Program):Nat->TypeId->SV->SV->Option E
 | 0,_,_,_=>none
 | d+1,t,x,y=>match P.underlying t with
  | some .bool=>match x,y with
   | .one (.bool a),.one (.bool b)=>some (LX a b)
   | _,_=>none
  | some (.int _)=>match x,y with
   | .one (.int k a),.one (.int k' b)=>if k=k' then some (mkEq a b)else none
   | _,_=>none
  | some .string=>match x,y with
   | .one (.str a),.one (.str b)=>some (mkSeq a b)
   | _,_=>none
  | some (.slice _)=>match x,y with
   | .one (.sl x _ _ _),.one (.sl x' _ _ _)=>if x'=.lit (-1)then some (mkEq x (.lit (-1)))else if x=.lit (-1)then some (mkEq x' (.lit (-1)))else none
   | _,_=>none
  | some (.pointer _)=>match x,y with
   | .one (.hptr x _),.one (.hptr x' _)=>if x'=.lit (-1)then some (mkEq x (.lit (-1)))else if x=.lit (-1)then some (mkEq x' (.lit (-1)))else none
   | _,_=>none
  | some (.map _ _)=>match x,y with
   | .one (.map x),.one (.map x')=>if x'=.lit (-1)then some (mkEq x (.lit (-1)))else if x=.lit (-1)then some (mkEq x' (.lit (-1)))else none
   | _,_=>none
  | some (.struct fs)=>match x,y with
   | .agg xs,.agg ys=>if P.stoodInHeld t=false then Cs P (Aw P d) xs ys fs.toList else none
   | _,_=>none
  | some (.array n e)=>match x,y with
   | .agg xs,.agg ys=>match P.info? e with
    | some _=>Hi P (Aw P d) e xs ys (List.range n)
    | none=>none
   | _,_=>none
  | _=>none
def Qb (P:Program) (op:BinOp) (t:TypeId) (X Y:TV):RT :=
 match X,Y with
 | .sv (.one (.int k a)),.sv (.one (.int k' b))=>Qc op k k' a b
 | .sv (.one (.str a)),.sv (.one (.str b))=>Qd op a b
 | .sv (.one a),.sv (.one b)=>match Aw P 20 t (.one a) (.one b)with
  | some e=>match op with
   | .eql=>some (.tt,TB e)
   | .neq=>some (.tt,TB (mkNot e))
   | _=>none
  | none=>none
 | .sv (.agg a),.sv (.agg b)=>if P.eqGuardType P.depth t=false then
  match Aw P 20 t (.agg a) (.agg b)with
  | some e=>match op with
   | .eql=>some (.tt,TB e)
   | .neq=>some (.tt,TB (mkNot e))
   | _=>none
  | none=>none
  else none
 | _,_=>none
def Mb (mem:Mem) (x:E):E :=
 match x with
 | .var a=>if(qX mem a).isSome then .tt else .le (.lit (-1)) x
 | x=>mkLe (.lit (-1)) x
def kT (d:E):Option TV->Option E
 | none=>some d
 | some (.sv (.one (.int _ e)))=>some e
 | _=>none
def xU (m l:E) (y:E) (n:Nat):E:=mkIte (mkEq m l) y (mkAdd y (mkMul l (.lit n)))
def Gr (P:Program) (mem:Mem) (t:TypeId) (x:TV) (lo hi mx:Option TV):RT :=
 match mx with
 | some _=>none
 | none=>match P.underlying t,x with
  | some .string,.sv (.one (.str s))=>match kT (.lit 0) lo,kT (tL s) hi with
   | some l,some h=>some (mkAnd (mkLe (.lit 0) l) (mkAnd (mkLe l h) (mkLe h (tL s))),TS (.sext s l h))
   | _,_=>none
  | some (.slice el),.sv (.one (.sl x y len cap))=>match kT (.lit 0) lo,kT len hi,eO P el with
   | some l,some h,some n=>some (mkAnd (Mb mem x) (mkAnd (mkLe (.lit 0) y) (mkAnd (mkLe (.lit 0) l) (mkAnd (mkLe l h) (mkLe h cap)))),
    .sv (.one (.sl x (xU cap l y n) (mkSub h l) (mkSub cap l))))
   | _,_,_=>none
  | some (.array q el),.sv (.one (.hptr x y))=>match kT (.lit 0) lo,kT (.lit q) hi,eO P el with
   | some l,some h,some n=>some (mkAnd (CY mem x) (mkAnd (mkLe (.lit 0) y) (mkAnd (mkLe (.lit 0) l) (mkAnd (mkLe l h) (mkLe h (.lit q))))),
    .sv (.one (.sl x (xU (.lit q) l y n) (mkSub h l) (mkSub (.lit q) l))))
   | _,_,_=>none
  | _,_=>none
def Ft (P:Program) (st:St) (op:BinOp) (t:TypeId) (x y:Operand):RT :=
 match dg st x,y with
 | some (.sv (.one (.vr j))),.const .nilIface=>match P.underlying t with
  | some (.interface _)=>match op with
   | .eql=>some (.le (.vint j) (.lit 1),TB (.eq (.vint j) (.lit 0)))
   | .neq=>some (.le (.vint j) (.lit 1),TB (.not (.eq (.vint j) (.lit 0))))
   | _=>none
  | _=>none
 | some (.sv (.one (.val .nilIface))),.const .nilIface=>match P.underlying t with
  | some (.interface _)=>match op with
   | .eql=>some (.tt,TB .tt)
   | .neq=>some (.tt,TB .ff)
   | _=>none
  | _=>none
 | _,_=>none
def quiet (P:Program) (st:St) (op:Op):RT :=
 match op with
 | .move x=>(dg st x).map fun v=>(.tt,v)
 | .assign x=>(dg st x).map fun v=>(.tt,v)
 | .pick c a b=>match dg st c with
  | some (.sv (.one (.bool e)))=>match known st.path e with
   | some true=>(dg st a).map fun v=>(.tt,v)
   | some false=>(dg st b).map fun v=>(.tt,v)
   | none=>match dg st a,dg st b with
    | some (.sv va),some (.sv vb)=>(uN e va vb).map fun v=>(.tt,.sv v)
    | _,_=>none
  | _=>none
 | .nilCheck x=>match dg st x with
  | some (.sv (.one (.hptr x y)))=>some (CY st.mem x,TP x y)
  | _=>none
 | .binOp op t x y _=>match Ft P st op t x y with
  | some r=>some r
  | none=>match dg st x,dg st y with
   | some a,some b=>Qb P op t a b
   | _,_=>none
 | .unOp op _ x=>match dg st x with
  | some a=>Xy op a
  | none=>none
 | .convert s d x=>match dg st x with
  | some a=>KR P st.mem s d a
  | none=>none
 | .fieldAddr s x f=>match dg st x with
  | some a=>qc P st.mem s f a
  | none=>none
 | .field t x f=>match dg st x with
  | some a=>EL P t f a
  | none=>none
 | .indexAddr t x i=>match dg st x,dg st i with
  | some a,some b=>qh P st.mem t a b
  | _,_=>none
 | .index t x i=>match dg st x,dg st i with
  | some a,some b=>E4 P t a b
  | _,_=>none
 | .load t x=>match dg st x with
  | some (.sv (.one c))=>(HH P st.mem t c).map fun r=>(r.1,.sv r.2)
  | _=>none
 | .extract x i=>match dg st x with
  | some a=>vO i a
  | none=>none
 | .sliceToArrayPointer t x=>match P.underlying t,dg st x with
  | some (.array n _),some (.sv (.one (.sl x y l _)))=>some (mkLe (.lit n) l,TP x y)
  | _,_=>none
 | .slice t x lo hi mx=>match dg st x with
  | some a=>match(match lo with | none=>some none | some o=>(dg st o).map some),(match hi with | none=>some none | some o=>(dg st o).map some),(match mx with | none=>some none | some o=>(dg st o).map some)with
   | some l,some h,some m=>Gr P st.mem t a l h m
   | _,_,_=>none
  | none=>none
 | .makeFunc (.func f) first captured=>if first=#[]/\captured=#[]then some (.tt,.sv (.one (.val (.func (.func f) #[] #[]))))else match captured.toList with
  | [c]=>if first=#[]then match dg st c with
   | some (.sv (.one (.hptr x y)))=>if y=.lit 0 then some (.tt,.sv (.one (.clo f x)))else none
   | _=>none
   else none
  | _=>none
 | .call {callee:=.builtin b,args,argTypes}=>match rH st args.toList with
  | some vs=>vg P st.mem b argTypes vs
  | none=>none
 | .build t parts=>match rH st (parts.toList.map (·.2))with
  | some vs=>match Qe P t (parts.toList.map (·.1)) vs with
   | some r=>some r
   | none=>Ev P t (parts.toList.map (·.1)) vs
  | none=>none
 | _=>none
section
variable {P:Program} {S:Nat->Prop} {w0:World} {ρ:Env} {st:St} {mem:Mem} {a:Act} {w:World} {n:E} {v:TV}
theorem gf {t:TypeId} {l:List CV} {o:Nat} {v:SV} (h:fS P t l o=some v):(part t (l.map (CV.ev ρ)).toArray o).run P w=.ok (v.ev ρ) w:=by
 unfold fS at h;unfold part;split at h
 .rename_i n ha hs;split at h
  .rename_i hle;cases h;simp only[Sem.run_bind,qK ha,Result.andThen_ok,ZG,dL hs,Sem.run_pure,SV.ev]
   congr 2
   simp [abn,abI,List.extract_eq_take_drop]
  .cases h
 .rename_i ha;simp only[Zk]at h;obtain⟨x,hx,rfl⟩:=h;simp only[Sem.run_bind,qK ha,Result.andThen_ok,Z5,aaG];have:(l.map (CV.ev ρ)).toArray[o]?=some (x.ev ρ):=by simp [hx]
  simp only[this];rfl
 .cases h
theorem J3 {op:UnOp} {x:TV} (h:Xy op x=some (n,v)):(Op.unary op (x.ev ρ)).run P w=.ok (v.ev ρ) w:=by
 unfold Xy at h;split at h
 .cases h;simp only[TV.ev,SV.ev,CV.ev,dr,Op.unary,Sem.run_pure]
 .cases h;simp only[TV.ev,SV.ev,CV.ev,mF,lX,ai,Op.unary,Op.intArith,Sem.run_pure]
 .cases h;simp only[TV.ev,SV.ev,CV.ev,rl,ai,Op.unary,Op.intBits,Sem.run_pure,cU]
 .cases h
theorem Am (x:Int) (l:List Int):bytesOf (x::l)=bytesOf [x]++bytesOf l:=by
 have key:∀ (l:List Int) (r:ByteArray),l.foldl (fun r n=>r.push (UInt8.ofNat n.toNat)) r=r++bytesOf l:=by
  intro l
  induction l with
  | nil=>intro r;simp [bytesOf]
  | cons y l ih =>
   intro r;simp only[abo];rw[ih];have e:bytesOf (y::l)=ByteArray.empty.push (UInt8.ofNat y.toNat)++bytesOf l:=by
    show List.foldl _ _ _=_;rw[abo,ih]
   rw[e,<-ByteArray.append_assoc]
   congr 1
   apply ByteArray.ext;simp [ByteArray.data_append,ByteArray.data_push]
 simp only[bytesOf,abo,List.foldl_nil];exact key l _
theorem ui:∀ (l:List CV) (s:E),strOf l=some s->∃ ns:List Int,l.map (CV.ev ρ)=ns.map (Value.int .u8)/\jq ρ s=bytesOf ns
 | [],s,h=>by cases h;exact⟨[],rfl,rfl⟩
 | c::l,s,h=>by
  unfold strOf at h;split at h
  .cases ‹c::l=[]›
  .rename_i e l' heq;cases heq;simp only[Zk]at h;obtain⟨r,hr,rfl⟩:=h;obtain⟨ns,h1,h2⟩:=ui _ r hr;refine⟨aC ρ e::ns,by simp [h1,CV.ev],?_⟩;rw[zH,JS,h2,Am (aC ρ e) ns]
  .cases h
theorem yp {h:Hl} {x y n:Nat} (hb:cy h x y n=true):∀ j,j<n->h.cell x (y+j)=some (.int .u8 (cW (h.cell x (y+j)))):=by
 intro j hj;unfold cy at hb;rw[ZF]at hb;have:=hb j (ZQ.2 hj);cases hc:h.cell x (y+j)with
 | none=>simp [hc,bY]at this
 | some v =>
  rw[hc]at this;cases v<;>simp [bY]at this
  rename_i k m;subst this;rfl
theorem HE {el:TypeId} (h:I3 P el=true):P.underlying el=some (.int .u8):=by
 unfold I3 at h;split at h
 .assumption
 .cases h
theorem Ci (hm:MRel S w0 ρ mem w) {s d:TypeId} {x:TV} (h:KR P mem s d x=some (n,v)) (hn:bN ρ n=true):(convert s d (x.ev ρ)).run P w=.ok (v.ev ρ) w:=by
 unfold KR at h;split at h
 .rename_i k k' e hs hd;cases h;simp only[TV.ev,SV.ev,CV.ev,mF];unfold convert;simp only[Sem.run_bind,run_underlying hs,run_underlying hd,Result.andThen_ok,Conv.intToInt];rfl
 .rename_i e hs hd;cases h;simp only[TV.ev,SV.ev,CV.ev];unfold convert;simp only[Sem.run_bind,run_underlying hs,run_underlying hd,Result.andThen_ok];rfl
 .rename_i el x y l c hs hd;split at h
  .rename_i hu;have he:=HE hu;split at h
   .rename_i hx;subst hx;cases h;simp only[TV.ev,SV.ev,CV.ev,ai,fa,az];rw[run_convert_bytes_string w s d el _ _ _ hs he hd];rfl
   .split at h
    .rename_i a p cs T o m hk0;obtain⟨rfl,rfl,hk⟩:=gb hk0;split at h
     .rename_i hle;simp only[Zk,Z0]at h;obtain⟨r,hr,rfl,rfl⟩:=h;obtain⟨ns,h1,h2⟩:=ui (ρ:=ρ) _ _ hr;have hpos:0<=ρ.i a:=hm.pos _ (Zb hk);simp only[TV.ev,SV.ev,CV.ev,ai,aj,au hpos,Y7];rw[run_convert_bytes_string w s d el _ _ _ hs he hd,run_bytesToString w _ _ _ ns,h2]
      .rfl
      .have hb:=hm.bD hk;have:=run_loadCells_list (P:=P) w ⟨(ρ.i a).toNat,o,none⟩ (ns.map (Value.int .u8)) (fun j u hu=>by
        rw[<-h1]at hu;rw[ef];simp only[World.cell?,hb];simp only[aae,Option.isSome_none,Z5,aaG];rw[Zs,Z2]at hu;split at hu
        .rw[ZZ]at hu;rw[Zs];exact hu
        .simp at hu)
       have hl:(ns.map (Value.int .u8)).length=m.toNat:=by rw[<-h1];simp;omega
       rw[hl]at this;exact this
     .cases h
    .split at h
     .rename_i l _ _ _ _ k hk;have hsub:=vS hm hk;cases h;simp only[TV.ev,SV.ev,CV.ev];rw[run_convert_bytes_string w s d el _ _ _ hs he hd];rw[qL,aat,fw,ai,Zc]at hn;have hsev:∀ a b:E,jq ρ (mkIte (mkEq x (.lit (-1))) a b)=if aC ρ x= -1 then jq ρ a else jq ρ b:=by
       intro a b;have hq:=fw ρ x (.lit (-1));rw[ai]at hq;unfold mkIte;split
       .rename_i e;rw[e,c8]at hq;rw[ZA (by simpa using hq.symm)]
       .rename_i e;rw[e,dq]at hq;rw[Zo (by simpa using hq.symm)]
       .split
        .rename_i e;subst e;simp
        .rw[aI,hq];simp
      rw[hsev];by_cases hx:aC ρ x= -1
      .rw[ZA hx,hx,fa];rfl
      .rw[Zo hx];have hn:=hn.resolve_left hx;rw[qL,aat,fw,ai,Zc]at hn;by_cases hl0:aC ρ l=0
       .rw[hl0,aH,hl0];cases hp:aA (aC ρ x) (aC ρ y)with
        | none =>
         have h1:=gO (aC ρ x) (aC ρ y);rw[hp]at h1;exact absurd (by simpa using h1) hx
        | some a0 =>
         rw[run_bytesToString w a0 _ _ []]
         .rfl
         .exact run_loadCells_list (P:=P) w a0 [] (fun j u hu=>by cases hu)
       have hn:=hn.resolve_left hl0;rw[bp,Zg,bp,Zg,bI,bI,ai,Zc,Zc,Af]at hn;obtain⟨hx0,hy0,hby⟩:=hn;rw[au hx0,aH];rw[run_bytesToString w _ _ _ (fe (ρ.h k) (aC ρ x).toNat (aC ρ y).toNat (aC ρ l).toNat)]
       .rfl
       .have:=run_loadCells_list (P:=P) w ⟨(aC ρ x).toNat,(aC ρ y).toNat,none⟩ ((fe (ρ.h k) (aC ρ x).toNat (aC ρ y).toNat (aC ρ l).toNat).map (Value.int .u8)) (fun j u hu=>by
         rw[ef];unfold fe at hu;rw[aaF,Zs]at hu;by_cases hj:j<(aC ρ l).toNat
         .rw[ZI hj]at hu;simp only[ZS,Zj,Function.comp]at hu;rw[<-hu];exact Hl.gG hsub (yp hby j hj)
         .rw[Zv (by simp;omega)]at hu;cases hu)
        have hl:((fe (ρ.h k) (aC ρ x).toNat (aC ρ y).toNat (aC ρ l).toNat).map (Value.int .u8)).length=(aC ρ l).toNat:=by simp [fe]
        rw[hl]at this;exact this
     .cases h
  .cases h
 .cases h
theorem vT {m b o:Nat} (fl:Field) (hs:eO P fl.type=some (m+1)):(fieldPlace ⟨b,o,none⟩ fl).run P w=.ok ⟨b,o+fl.offset,none⟩ w:=by
 unfold fieldPlace;simp only[Sem.run_bind,dL hs,Result.andThen_ok,Nat.add_eq_zero_iff,Nat.one_ne_zero,and_false,aaG,Sem.run_pure,ef]
theorem pj {x y:Int} (hx:0<=x) (hy:0<=y) (n:Nat):aA x (y+n)=some ⟨x.toNat,y.toNat+n,none⟩:=by
 rw[au hx];congr 2;omega
theorem vQ (hm:MRel S w0 ρ mem w) {a:Nat} (h:(qX mem a).isSome=true):0<=ρ.i a:=by
 obtain⟨⟨p,l,T⟩,hp⟩:=aah.1 h;exact hm.pos _ (Zb (fF hp))
theorem m7 {o s:Nat} {i:Int} (h:0<=i):((o:Int)+(s:Int)*i)=((o+s*i.toNat:Nat):Int):=by
 obtain⟨q,hq⟩:=aaq h;rw[hq,Y7];simp
theorem sB (hm:MRel S w0 ρ mem w) {s:TypeId} {f:Nat} {x:TV} (h:qc P mem s f x=some (n,v)) (hn:bN ρ n=true):(Instr.fieldAt s (x.ev ρ) f).run P w=.ok (v.ev ρ) w:=by
 unfold qc at h;split at h
 .rename_i fs hu;split at h
  .rename_i fl hf;split at h
   .rename_i m hs;have key:∀ b o,(Instr.fieldAt s (.pointer (some ⟨b,o,none⟩)) f).run P w=.ok (.pointer (some ⟨b,o+fl.offset,none⟩)) w:=fun b o=>by
     unfold Instr.fieldAt;simp only[Sem.run_bind,run_underlying hu,Result.andThen_ok,hf,Instr.sureAddr,Sem.run_pure,vT fl hs]
    split at h
    .rename_i x y;cases h;rw[bp,Zg,bI,ai,Zc]at hn;have hx:=hm.CY hn.1;simp only[TV.ev,SV.ev,CV.ev,dZ,ai];rw[au hx,key,pj hx hn.2]
    .rename_i a o s' n' i;split at h
     .rename_i ha;cases h;obtain⟨h0,h1⟩:=gV hn;have hx:=vQ hm ha;simp only[TV.ev,SV.ev,CV.ev];rw[au hx,key,m7 h0,m7 h0,Y7,au hx,Y7]
      congr 4
      omega
     .cases h
    .cases h
   .cases h
  .cases h
 .cases h
theorem kH {t el:TypeId} {len m b o:Nat} {k:IntKind} {i:Int} (hu:P.underlying t=some (.array len el)) (hs:eO P el=some m) (h0:0<=i) (h1:i<len) :
 (Instr.indexAt t (.pointer (some ⟨b,o,none⟩)) (.int k i)).run P w=.ok (.pointer (some ⟨b,o+i.toNat*m,none⟩)) w:=by
 unfold Instr.indexAt;simp only[asIntOf,Sem.run_bind,Sem.run_pure,Result.andThen_ok,run_underlying hu,Instr.sureAddr,h0,h1,and_self,ZG,dL hs,ef]
theorem kW {t el:TypeId} {len c m b o:Nat} {k:IntKind} {i:Int} (hu:P.underlying t=some (.slice el)) (hs:eO P el=some m) (h0:0<=i) (h1:i<len) :
 (Instr.indexAt t (.slice (some ⟨b,o,none⟩) len c) (.int k i)).run P w=.ok (.pointer (some ⟨b,o+i.toNat*m,none⟩)) w:=by
 unfold Instr.indexAt;simp only[asIntOf,Sem.run_bind,Sem.run_pure,Result.andThen_ok,run_underlying hu,h0,h1,and_self,ZG,dL hs,ef]
theorem oX {i:Int} (h:0<=i) (m:Nat):i*(m:Int)=((i.toNat*m:Nat):Int):=by
 obtain⟨q,hq⟩:=aaq h;rw[hq,Y7];simp
theorem sF (hm:MRel S w0 ρ mem w) {t:TypeId} {x i:TV} (h:qh P mem t x i=some (n,v)) (hn:bN ρ n=true):(Instr.indexAt t (x.ev ρ) (i.ev ρ)).run P w=.ok (v.ev ρ) w:=by
 unfold qh at h;split at h
 .rename_i k e;split at h
  .rename_i len el hu;split at h
   .rename_i m a o s q kk hs;split at h
    .rename_i j;split at h
     .rename_i hj;cases h;obtain⟨h0,h1⟩:=gV hn;have hx:=vQ hm hj.2.2;simp only[TV.ev,SV.ev,CV.ev,ai];rw[au hx,kH hu hs hj.1 hj.2.1,m7 h0,m7 h0,Y7,au hx,Y7]
      congr 4
      omega
     .cases h
    .cases h
   .rename_i m x y hs;split at h
    .rename_i j _;split at h
     .rename_i hj;cases h;rw[bp,Zg,bI,ai,Zc]at hn;have hx:=hm.CY hn.1;simp only[TV.ev,SV.ev,CV.ev,ai,dZ];rw[au hx,kH hu hs hj.1 hj.2,<-Int.natCast_mul,pj hx hn.2]
     .cases h
    .rename_i e a p l T o _ hk0;obtain⟨rfl,rfl,hk⟩:=gb hk0;cases h;obtain⟨h0,h1⟩:=gV hn;have hx:0<=ρ.i a:=hm.pos _ (Zb hk);simp only[TV.ev,SV.ev,CV.ev,aj,ai];rw[au hx,Y7,kH hu hs h0 h1,m7 h0,au hx,Y7,aa6]
    .rename_i e _ _;cases h;rw[bp,Zg,bp,Zg,bI,ai,Zc]at hn;obtain⟨hx,hy,hb⟩:=hn;have hx:=hm.CY hx;obtain⟨h0,h1⟩:=gV hb;simp only[TV.ev,SV.ev,CV.ev,dZ,lW,ai];rw[au hx,kH hu hs h0 h1,oX h0,pj hx hy]
   .cases h
  .rename_i el hu;split at h
   .rename_i m x y l c hs;split at h
    .rename_i j _ _;cases h;rw[bp,Zg,bp,Zg,bp,Zg,bI,bI,ik,Zc,Zc,Zc,ai,ai]at hn;obtain⟨hx,hy,h0,h1⟩:=hn;have hx:=hm.CY hx;simp only[TV.ev,SV.ev,CV.ev,dZ,lW,ai];rw[au hx,kW hu hs h0 (by omega),oX h0,pj hx hy]
    .rename_i a p l' T o q _ hk0;obtain⟨rfl,rfl,hk⟩:=gb hk0;cases h;rw[bp,Zg]at hn;obtain⟨h0,h1⟩:=gV hn.1;have hx:0<=ρ.i a:=hm.pos _ (Zb hk);simp only[TV.ev,SV.ev,CV.ev,aj,ai];rw[au hx,Y7,kW hu hs h0 (by omega),m7 h0,au hx,Y7,aa6]
    .cases h;rw[bp,Zg,bp,Zg,bp,Zg,bI,bI,ik,Zc,Zc,Zc,ai]at hn;obtain⟨hx,hy,h0,h1⟩:=hn;have hx:=hm.CY hx;simp only[TV.ev,SV.ev,CV.ev,dZ,lW,ai];rw[au hx,kW hu hs h0 (by omega),oX h0,pj hx hy]
   .cases h
  .cases h
 .cases h
theorem AA {t:TypeId} {f:Nat} {x:TV} (h:EL P t f x=some (n,v)):(Instr.field t (x.ev ρ) f).run P w=.ok (v.ev ρ) w:=by
 unfold EL at h;split at h
 .rename_i fs l hu;split at h
  .rename_i fl hf;simp only[Zk,Z0]at h;obtain⟨u,hu',_,rfl⟩:=h;unfold Instr.field;simp only[Sem.run_bind,run_underlying hu,Result.andThen_ok,hf,TV.ev,SV.ev,asAgg,Sem.run_pure];exact gf hu'
  .cases h
 .cases h
theorem yS {t el:TypeId} {len m:Nat} {k:IntKind} {i:Int} {l:List CV} {u:SV} (hu:P.underlying t=some (.array len el)) (hs:eO P el=some m) (h0:0<=i) (h1:i<len)
 (hl:fS P el l (i.toNat*m)=some u):(Instr.index t (.agg (l.map (CV.ev ρ)).toArray) (.int k i)).run P w=.ok (u.ev ρ) w:=by
 unfold Instr.index;simp only[asIntOf,Sem.run_bind,Sem.run_pure,Result.andThen_ok,run_underlying hu,h0,h1,and_self,ZG,dL hs];exact gf hl
theorem AL {t:TypeId} {x i:TV} (h:E4 P t x i=some (n,v)) (hn:bN ρ n=true):(Instr.index t (x.ev ρ) (i.ev ρ)).run P w=.ok (v.ev ρ) w:=by
 unfold E4 at h;split at h
 .rename_i len el l k e hu;split at h
  .rename_i m hs;split at h
   .rename_i j;split at h
    .rename_i hj;simp only[Zk,Z0]at h;obtain⟨u,hu',_,rfl⟩:=h;simp only[TV.ev,SV.ev,CV.ev,ai];exact yS hu hs hj.1 hj.2 hu'
    .cases h
   .split at h
    .rename_i vs hvs;simp only[Zk,Z0]at h;obtain⟨u,hu',rfl,rfl⟩:=h;obtain⟨h0,h1⟩:=gV hn;obtain⟨hlen,hget⟩:=ky hvs;simp only[ZD,aaA]at hlen;obtain⟨z,hz,hzv⟩:=xQ vs 0 u hu' (by omega) (by omega);have hz':=hget _ _ hz;rw[ab2,Zs,ZI (by omega)]at hz';simp only[ZS,Zj]at hz';simp only[TV.ev,hzv];exact yS hu hs h0 h1 hz'
    .cases h
  .cases h
 .rename_i s k e hu;cases h;rw[bp,Zg,bI,ik,Zc,Zc,ai,jL]at hn;obtain⟨h0,h1⟩:=hn;unfold Instr.index;simp only[TV.ev,SV.ev,CV.ev,asIntOf,Sem.run_bind,Sem.run_pure,Result.andThen_ok,run_underlying hu,h0,ZG];have hlt:(aC ρ e).toNat<(jq ρ s).size:=by omega
  have e1:(jq ρ s)[(aC ρ e).toNat]?=some ((jq ρ s)[(aC ρ e).toNat]'hlt):=getElem?_pos (jq ρ s) (aC ρ e).toNat hlt;have e2:(jq ρ s).data[(aC ρ e).toNat]?.getD 0=(jq ρ s)[(aC ρ e).toNat]'hlt:=by
   rw[getElem?_pos (jq ρ s).data (aC ρ e).toNat hlt];rfl
  simp only[e1,I0,e2];rfl
 .cases h
theorem vP {i:Nat} {x:TV} (h:vO i x=some (n,v)):(Instr.extract (x.ev ρ) i).run P w=.ok (v.ev ρ) w:=by
 unfold vO at h;split at h
 .simp only[Zk,Z0]at h;obtain⟨u,hu,_,rfl⟩:=h;unfold Instr.extract;simp only[TV.ev];have:((List.map (SV.ev ρ) ‹_›).toArray)[i]?=some (u.ev ρ):=by simp [hu]
  simp only[this];rfl
 .cases h
theorem Fc (hm:MRel S w0 ρ mem w) {t ty:TypeId} {ats:Array TypeId} {x:TV} (ht:ats[0]?=some t) (h:QT P mem t x=some (n,v)) (hn:bN ρ n=true):(Builtin.len_ ats ty #[x.ev ρ]).run P w=.ok (v.ev ρ) w:=by
 unfold QT at h;unfold Builtin.len_;have h0:(#[x.ev ρ]:Array Value)[0]?=some (x.ev ρ):=rfl;simp only[ht,h0];split at h
 .rename_i m _ hu;cases h;simp only[Sem.run_bind,run_underlying hu,Result.andThen_ok];rfl
 .rename_i el _ _ l _ hu;cases h;rw[bI,Zc,ai]at hn;simp only[Sem.run_bind,run_underlying hu,Result.andThen_ok,TV.ev,SV.ev,CV.ev,Sem.run_pure,goInt,abh hn]
 .rename_i e hu;cases h;simp only[Sem.run_bind,run_underlying hu,Result.andThen_ok,TV.ev,SV.ev,CV.ev,Sem.run_pure,goInt,jL]
 .rename_i k vt x hu;split at h
  .rename_i q hq;have hsub:=vS hm hq;cases h;rw[bp,Zg,bp,Zg,bI,ai,Zc,Kx]at hn;obtain⟨hx,_,he⟩:=hn;have hne:¬aC ρ x= -1:=by omega
   obtain⟨es,c,he⟩:∃ es c,ρ.h q (aC ρ x).toNat=some (.map es c):=by
    revert he;generalize ρ.h q (aC ρ x).toNat=o;intro he;cases o with
    | none=>cases he
    | some o=>cases o<;>first | exact⟨_,_,rfl⟩ | cases he
   have hw:=hsub _ _ he;simp only[Sem.run_bind,run_underlying hu,Result.andThen_ok,TV.ev,SV.ev,CV.ev,Zo hne,Sem.run_pure,goInt,aq,he,Fk];simp [getObj,Sem.run,hw]
  .cases h
 .cases h
theorem Fo {x y z:TV} (h:Q1 x y=some z):(Builtin.min2 (x.ev ρ) (y.ev ρ)).run P w=.ok (z.ev ρ) w:=by
 unfold Q1 at h;split at h
 .cases h;simp only[TV.ev,SV.ev,CV.ev,Builtin.min2,gU,ik,Zc,Sem.run_pure]
 .cases h
theorem Fl {x y z:TV} (h:Q0 x y=some z):(Builtin.max2 (x.ev ρ) (y.ev ρ)).run P w=.ok (z.ev ρ) w:=by
 unfold Q0 at h;split at h
 .cases h;simp only[TV.ev,SV.ev,CV.ev,Builtin.max2,gU,ik,Zc,Sem.run_pure,GT.gt]
 .cases h
theorem nP {f:TV->TV->Option TV} {F:Value->Value->Sem Value} (hf:∀ x y z,f x y=some z->(F (x.ev ρ) (y.ev ρ)).run P w=.ok (z.ev ρ) w) :
 ∀ (l:List TV) (x z:TV),Cv f l x=some z->((l.map (TV.ev ρ)).foldlM F (x.ev ρ)).run P w=.ok (z.ev ρ) w
 | [],x,z,h=>by cases h;rfl
 | y::l,x,z,h=>by
  simp only[Cv]at h;split at h
  .rename_i u hu;simp only[Zf,List.foldlM_cons,Sem.run_bind,hf x y u hu,Result.andThen_ok];exact nP hf l u z h
  .cases h
theorem hZ (h:Rel S w0 ρ st a w):∀ (l:List Operand) (vs:List TV),rH st l=some vs->l.map a.eval=vs.map (TV.ev ρ)
 | [],vs,ho=>by cases ho;rfl
 | x::l,vs,ho=>by
  simp only[rH]at ho;split at ho
  .rename_i v1 v2 h1 h2;cases ho;simp only[Zf,bc h h1,hZ h l _ h2]
  .cases ho
theorem vj (hm:MRel S w0 ρ mem w) {b:Builtin} {ats:Array TypeId} {ty:TypeId} {cs:Array Bool} {vs:List TV} (h:vg P mem b ats vs=some (n,v)) (hn:bN ρ n=true) :
 (builtin b ats ty cs (vs.map (TV.ev ρ)).toArray).run P w=.ok (.value (v.ev ρ)) w:=by
 unfold vg at h;split at h
 .split at h
  .rename_i t ht;have:=Fc hm (ty:=ty) ht h hn;unfold builtin;simp only[Zf,Zr,Sem.run_bind,this,Result.andThen_ok,Sem.run_pure]
  .cases h
 .simp only[Zk,Z0]at h;obtain⟨u,hu,_,rfl⟩:=h;have:=nP (P:=P) (w:=w) (ρ:=ρ) (fun x y z=>Fo) _ _ _ hu;unfold builtin;simp only[Zf,Sem.run_bind,Builtin.min_,this,Result.andThen_ok,Sem.run_pure]
 .simp only[Zk,Z0]at h;obtain⟨u,hu,_,rfl⟩:=h;have:=nP (P:=P) (w:=w) (ρ:=ρ) (fun x y z=>Fl) _ _ _ hu;unfold builtin;simp only[Zf,Sem.run_bind,Builtin.max_,this,Result.andThen_ok,Sem.run_pure]
 .cases h
theorem qZ (off:Nat):∀ (vs:List Value) (k:Nat) (arr:Array Value),off+k+vs.length<=arr.size ->
 (vs.zipIdx k).foldl (fun cs (p:Value×Nat)=>cs.setIfInBounds (off+p.2) p.1) arr=(cf arr.toList (off+k) vs).toArray
 | [],k,arr,h=>by simp [cf]
 | x::vs,k,arr,h=>by
  simp only[Zd]at h;rw[List.zipIdx_cons,abo,qZ off vs (k+1) _ (by simp;omega)]
  congr 1
  have:=list_seg_step arr.toList (off+k) x vs (by simp;omega);simpa [cf,abO,aaD] using this
theorem iY {place:Nat->Option (Nat×Nat)} : ∀ (ps:List (Nat×SV)) (l r:List CV),vU place l ps=some r ->
 Instr.fill place (l.map (CV.ev ρ)).toArray (ps.map fun p=>(p.1,p.2.ev ρ))=some (r.map (CV.ev ρ)).toArray
 | [],l,r,h=>by cases h;rfl
 | (i,v)::ps,l,r,h=>by
  simp only[vU]at h;split at h
  .cases h
  .rename_i off size hp;split at h
   .rename_i hc;obtain⟨h1,h2,h3⟩:=hc;have hcs:=SV.qQ (ρ:=ρ) v h3;have hsz:(v.ev ρ).cells.size=v.cells.length:=by rw[<-aaI,hcs];simp
    have hle:¬off+(v.ev ρ).cells.size>(l.map (CV.ev ρ)).toArray.size:=by rw[hsz];simp;omega
    simp only[Zf,Instr.fill,hp];rw[Zo (by simp only[hsz,h1,ne_eq,aaV,decide_false,Bool.false_or,Zc];rw[<-h1,<-hsz];exact hle)];have e:(v.ev ρ).cells.zipIdx.foldl (fun cs (p:Value×Nat)=>cs.setIfInBounds (off+p.2) p.1) (l.map (CV.ev ρ)).toArray=((cf l off v.cells).map (CV.ev ρ)).toArray:=by
     rw[<-Array.foldl_toList,Array.toList_zipIdx,hcs];have:=qZ off (v.cells.map (CV.ev ρ)) 0 (l.map (CV.ev ρ)).toArray (by simp;omega);rw[this];simp [cf,ZP,abn,abI]
    have ih:=iY ps _ _ h;rw[<-ih];exact ZW (fun z=>Instr.fill place z _) e
   .cases h
theorem Gy:∀ (l:List TV) (m:List SV),Sp l=some m->l.map (TV.ev ρ)=m.map (SV.ev ρ)
 | [],m,h=>by cases h;rfl
 | .sv v::l,m,h=>by
  simp only[Sp,Zk]at h;obtain⟨r,hr,rfl⟩:=h;simp only[Zf,Gy l r hr];rfl
 | .tup _::l,m,h=>by simp [Sp]at h
theorem qp:∀ (fs:List Field) (ps:List (Nat×Nat)),ga (fs.map fun f=>(eO P f.type).map fun n=>(f.offset,n))=some ps ->
 (fs.mapM fun(f:Field)=>(do pure (f.offset,<-sizeOf f.type):Sem (Nat×Nat))).run P w=.ok ps w
 | [],ps,h=>by cases h;rfl
 | f::fs,ps,h=>by
  simp only[Zf]at h;cases hs:eO P f.type with
  | none=>simp [hs,ga]at h
  | some m =>
   simp only[hs,ZS,ga,Zk]at h;obtain⟨r,hr,rfl⟩:=h;have ih:=qp fs r hr;simp only[ab8,Sem.run_bind,dL hs,Result.andThen_ok,Sem.run_pure,ih]
theorem wP {α β γ:Type} {f:α->β} {h:α->γ} : ∀ (l:List α),l.map (fun x=>(f x,h x))=(l.map f).zip (l.map h)
 | []=>rfl
 | x::l=>by simp [wP l]
theorem GO:∀ (is:List Nat) (vs:List SV),(is.zip vs).map (fun p=>(p.1,p.2.ev ρ))=is.zip (vs.map (SV.ev ρ))
 | [],_=>rfl
 | _::_,[]=>rfl
 | i::is,v::vs=>by simp [GO is vs]
theorem Ah {t:TypeId} {is:List Nat} {vs:List TV} (h:Ev P t is vs=some (n,v)):(Instr.build t (is.zip (vs.map (TV.ev ρ))).toArray).run P w=.ok (v.ev ρ) w:=by
 unfold Ev at h;split at h
 .rename_i z us hz hus;rw[Gy _ _ hus,<-GO];have hzc:z.cells=((z.cells.toList.map gk).map (CV.ev ρ)).toArray:=by rw[gX]
  unfold Instr.build;simp only[Sem.run_bind,jN hz,Result.andThen_ok];split at h
  .rename_i fs hu;split at h
   .rename_i places hp;simp only[Zk,Z0]at h;obtain⟨r,hr,_,rfl⟩:=h;have hf:=iY (ρ:=ρ) _ _ _ hr;rw[<-hzc]at hf;have hpl:(fs.mapM fun(f:Field)=>(do pure (f.offset,<-sizeOf f.type):Sem (Nat×Nat))).run P w=.ok places.toArray w:=by
     have:=qp (w:=w) _ _ hp;obtain⟨fs⟩:=fs;simp only[abU,Sem.run_map,this,Result.andThen_ok]
    simp only[run_underlying hu,Result.andThen_ok,Sem.run_bind,hpl];have e:(fun(i:Nat)=>places.toArray[i]?)=(fun(i:Nat)=>places[i]?):=by funext i;simp
    simp only[e,hf];rfl
   .cases h
  .rename_i m el hu;split at h
   .rename_i q hs;simp only[Zk,Z0]at h;obtain⟨r,hr,_,rfl⟩:=h;have hf:=iY (ρ:=ρ) _ _ _ hr;rw[<-hzc]at hf;simp only[run_underlying hu,Result.andThen_ok,Sem.run_bind,dL hs,hf];rfl
   .cases h
  .cases h
 .cases h
theorem Es {t:TypeId} {is:List Nat} {vs:List TV} (h:Qe P t is vs=some (n,v)) (hn:bN ρ n=true):(Instr.build t (is.zip (vs.map (TV.ev ρ))).toArray).run P w=.ok (v.ev ρ) w:=by
 unfold Qe at h;split at h
 .rename_i j z fs hz hu;split at h
  .rename_i y f hc hf;split at h
   .rename_i ho;cases h;rw[jO,Zc]at hn;have hv:(ρ.v j).oneCell'=true:=by
     rcases yh hn with h | ⟨a,b,h⟩<;>rw[h]<;>rfl
    have hpl:(fs.mapM fun(f:Field)=>(do pure (f.offset,<-sizeOf f.type):Sem (Nat×Nat))).run P w=.ok #[(0,1)] w:=by
     have:=qp (P:=P) (w:=w) fs.toList [(0,1)] (by rw[hf];simp [ho.1,ho.2,ga]);obtain⟨fs⟩:=fs;simp only[abU,Sem.run_map,this,Result.andThen_ok]
    have hzc:z.cells=((z.cells.toList.map gk).map (CV.ev ρ)).toArray:=by rw[gX]
    have hfill:=iY (ρ:=ρ) (place:=fun i=>([(0,1)]:List (Nat×Nat))[i]?) [(0,.one (.val (ρ.v j)))] (z.cells.toList.map gk) [.val (ρ.v j)] (by
     rw[hc];simp [vU,SV.cells,CV.pG,hv,cf])
    rw[<-hzc]at hfill;unfold Instr.build;simp only[Sem.run_bind,jN hz,Result.andThen_ok,run_underlying hu,hpl];have e:(fun(i:Nat)=>(#[(0,1)]:Array (Nat×Nat))[i]?)=(fun(i:Nat)=>([(0,1)]:List (Nat×Nat))[i]?):=by funext i;simp
    have e2:([0].zip ([TV.sv (.one (.vr j))].map (TV.ev ρ))).toArray.toList=[(0,ρ.v j)]:=rfl;simp only[e];have hfill:Instr.fill (fun i=>([(0,1)]:List (Nat×Nat))[i]?) z.cells [(0,ρ.v j)]=some #[ρ.v j]:=hfill;have e3:[0].zip ([TV.sv (.one (.vr j))].map (TV.ev ρ))=[(0,ρ.v j)]:=rfl;rw[e3,hfill];rfl
   .cases h
  .cases h
 .cases h
theorem nO {rec:TypeId->SV->SV->Option E} {D:Nat} (hrec:∀ t x y e,rec t x y=some e->(Op.equalIn D t (x.ev ρ) (y.ev ρ)).run P w=.ok (bN ρ e) w) {xs ys:List CV} :
 ∀ (fs:List Field) (e:E),Cs P rec xs ys fs=some e->(Op.eqFields D (xs.map (CV.ev ρ)).toArray (ys.map (CV.ev ρ)).toArray fs).run P w=.ok (bN ρ e) w
 | [],e,h=>by cases h;simp [Op.eqFields,c8]
 | f::fs,e,h=>by
  unfold Cs at h;unfold Op.eqFields;split at h
  .rename_i hn;rw[ZA hn];split at h
   .rename_i a b ha hb;split at h
    .rename_i q r hq hr;cases h;have ih:=nO hrec fs r hr;simp only[Sem.run_bind,gf ha,gf hb,Result.andThen_ok,hrec _ _ _ _ hq,bp];cases hb:bN ρ q with
     | true=>simpa using ih
     | false=>simp
    .cases h
   .cases h
  .rename_i hn;rw[Zo hn];exact nO hrec fs e h
theorem tB {rec:TypeId->SV->SV->Option E} {D:Nat} (hrec:∀ t x y e,rec t x y=some e->(Op.equalIn D t (x.ev ρ) (y.ev ρ)).run P w=.ok (bN ρ e) w) {t:TypeId} {xs ys:List CV} :
 ∀ (is:List Nat) (e:E),Hi P rec t xs ys is=some e->(Op.eqItems D t (P.cellsOf t) (xs.map (CV.ev ρ)).toArray (ys.map (CV.ev ρ)).toArray is).run P w=.ok (bN ρ e) w
 | [],e,h=>by cases h;simp [Op.eqItems,c8]
 | i::is,e,h=>by
  unfold Hi at h;unfold Op.eqItems;split at h
  .rename_i a b ha hb;split at h
   .rename_i q r hq hr;cases h;have ih:=tB hrec is r hr;simp only[Sem.run_bind,gf ha,gf hb,Result.andThen_ok,hrec _ _ _ _ hq,bp];cases hb:bN ρ q with
    | true=>simpa using ih
    | false=>simp
   .cases h
  .cases h
theorem Ei (a b:ByteArray):(a==b)=decide (a=b):=by
 rw[aaW];simp only[Zc];cases a;cases b;simp only[BEq.beq,ByteArray.beq,ByteArray.mk.injEq];exact⟨fun h=>Array.eq_of_isEqv _ _ (by simpa [BEq.beq] using h),fun h=>by subst h;simpa [BEq.beq] using Array.isEqv_self _⟩
theorem EJ {d:Nat} {t:TypeId} {a b:CV} {e:E} (h:Aw P (d+1) t (.one a) (.one b)=some e):(∃ k x k' y,a=.int k x/\b=.int k' y)\/(∃ x y,a=.str x/\b=.str y)\/(∃ x y,a=.bool x/\b=.bool y)\/(∃ x y l c x' y' l' c',a=.sl x y l c/\b=.sl x' y' l' c')\/(∃ x y x' y',a=.hptr x y/\b=.hptr x' y')\/(∃ x y,a=.map x/\b=.map y):=by
 unfold Aw at h;cases hu:P.underlying t with
 | none=>simp [hu]at h
 | some d'=>cases d'<;>simp only[hu]at h<;>first | (cases h;done) | (cases a<;>first | (cases h;done) | (cases b<;>first | (cases h;done) | simp))
theorem oa {x x':E} {e:E} (he:(if x'=.lit (-1)then some (mkEq x (.lit (-1)))else if x=.lit (-1)then some (mkEq x' (.lit (-1)))else none)=some e) :
 (aC ρ x'= -1/\bN ρ e=decide (aC ρ x= -1))\/(aC ρ x= -1/\bN ρ e=decide (aC ρ x'= -1)):=by
 split at he
 .rename_i hx;cases he;subst hx;exact Or.inl ⟨rfl,by rw[fw];rfl⟩
 .split at he
  .rename_i hx;cases he;subst hx;exact Or.inr ⟨rfl,by rw[fw];rfl⟩
  .cases he
theorem qa:∀ (d:Nat) (t:TypeId) (x y:SV) (e:E) (D:Nat),d<=D->Aw P d t x y=some e->(Op.equalIn D t (x.ev ρ) (y.ev ρ)).run P w=.ok (bN ρ e) w
 | 0,_,_,_,_,_,_,h=>by cases h
 | d+1,t,x,y,e,D,hD,h=>by
  obtain⟨D,rfl⟩:∃ D',D=D'+1:=⟨D-1,by omega⟩;have ih:∀ t x y e,Aw P d t x y=some e->(Op.equalIn D t (x.ev ρ) (y.ev ρ)).run P w=.ok (bN ρ e) w:=fun t x y e h=>qa d t x y e D (by omega) h;unfold Aw at h;split at h
  .rename_i hu;split at h
   .cases h;simp [Op.equalIn,Sem.run_bind,run_underlying hu,SV.ev,CV.ev,IF]
   .cases h
  .rename_i kk hu;split at h
   .split at h
    .rename_i hk;subst hk;cases h;simp [Op.equalIn,Sem.run_bind,run_underlying hu,SV.ev,CV.ev,fw];rfl
    .cases h
   .cases h
  .rename_i hu;split at h
   .rename_i a b;cases h;have:(jq ρ a==jq ρ b)=decide (jq ρ a=jq ρ b):=Ei _ _;simp only[Op.equalIn,Sem.run_bind,run_underlying hu,SV.ev,CV.ev,su,Result.andThen_ok,Sem.run_pure,this]
   .cases h
  .rename_i el hu;split at h
   .rename_i x l1 q1 z1 x' l2 q2 z2;rw[Op.equalIn];simp only[Sem.run_bind,run_underlying hu,Result.andThen_ok,SV.ev,CV.ev];rcases oa (ρ:=ρ) h with ⟨h1,h2⟩ | ⟨h1,h2⟩
    .rw[h1,fa,h2];cases hs:aA (aC ρ x) (aC ρ l1)with
     | none=>have:=gO (aC ρ x) (aC ρ l1);rw[hs]at this;simp at this;simp [this]
     | some q=>have:=gO (aC ρ x) (aC ρ l1);rw[hs]at this;simp at this;simp [this]
    .rw[h1,fa,h2];simp [gO]
   .cases h
  .rename_i el hu;split at h
   .rename_i x l1 x' l2;rw[Op.equalIn];simp only[Sem.run_bind,run_underlying hu,Result.andThen_ok,SV.ev,CV.ev];rcases oa (ρ:=ρ) h with ⟨h1,h2⟩ | ⟨h1,h2⟩
    .rw[h1,fa,h2];cases hs:aA (aC ρ x) (aC ρ l1)with
     | none=>have:=gO (aC ρ x) (aC ρ l1);rw[hs]at this;simp at this;simp [this]
     | some q=>have:=gO (aC ρ x) (aC ρ l1);rw[hs]at this;simp at this;simp [this]
    .rw[h1,fa,h2];simp [gO]
   .cases h
  .rename_i k el hu;split at h
   .rename_i x x';rw[Op.equalIn];simp only[Sem.run_bind,run_underlying hu,Result.andThen_ok,SV.ev,CV.ev];rcases oa (ρ:=ρ) h with ⟨h1,h2⟩ | ⟨h1,h2⟩
    .rw[h1,ZA rfl,h2];by_cases hx:aC ρ x= -1
     .simp [hx]
     .simp [hx]
    .rw[h1,ZA rfl,h2];by_cases hx:aC ρ x'= -1
     .simp [hx]
     .simp [hx]
   .cases h
  .rename_i fs hu;split at h
   .split at h
    .rename_i hp;have hf:P.fieldsOf t=fs:=by simp [Program.fieldsOf,hu]
     simp only[SV.ev];rw[run_equalIn_struct w D t _ _ (by rw[hf];exact hu) hp,hf];exact nO ih _ _ h
    .cases h
   .cases h
  .rename_i n el hu;split at h
   .split at h
    .rename_i i hi;simp only[SV.ev];rw[run_equalIn_array w D _ _ hu hi];exact tB ih _ _ h
    .cases h
   .cases h
  .cases h
theorem Eo {op:BinOp} {t:TypeId} {x y:TV} {X Y:Operand} (h:Qb P op t x y=some (n,v)) (hn:bN ρ n=true) :
 Sem.run P (do eqGuard op t X Y (x.ev ρ) (y.ev ρ);binOp op t (x.ev ρ) (y.ev ρ)) w=.ok (v.ev ρ) w:=by
 unfold Qb at h;split at h
 .rename_i k a k' b;have:=Ep (T:=t) (w:=w) (P:=P) h hn;simp only[TV.ev,SV.ev,CV.ev]at this ⊢;have hg:(eqGuard op t X Y (.int k (aC ρ a)) (.int k' (aC ρ b))).run P w=.ok () w:=by
   unfold eqGuard;split<;>rfl
  simp only[Sem.run_bind,hg,Result.andThen_ok];exact this
 .rename_i a b;have:=Er (T:=t) (w:=w) (P:=P) h hn;simp only[TV.ev,SV.ev,CV.ev]at this ⊢;have hg:(eqGuard op t X Y (.string (jq ρ a)) (.string (jq ρ b))).run P w=.ok () w:=by
   unfold eqGuard;split<;>rfl
  simp only[Sem.run_bind,hg,Result.andThen_ok];exact this
 .rename_i a b hni hns;split at h
  .rename_i e he;have heq:(Op.equal t (a.ev ρ) (b.ev ρ)).run P w=.ok (bN ρ e) w:=qa 20 t _ _ e 10000 (by decide) he;have hsh:(∃ x y,a=.bool x/\b=.bool y)\/(∃ x y l c x' y' l' c',a=.sl x y l c/\b=.sl x' y' l' c')\/(∃ x y x' y',a=.hptr x y/\b=.hptr x' y')\/(∃ x y,a=.map x/\b=.map y):=by
    rcases EJ he with ⟨_,_,_,_,rfl,rfl⟩ | ⟨_,_,rfl,rfl⟩ | h | h | h | h
    .exact(hni _ _ _ _ rfl rfl).elim
    .exact(hns _ _ rfl rfl).elim
    .exact Or.inl h
    .exact Or.inr (Or.inl h)
    .exact Or.inr (Or.inr (Or.inl h))
    .exact Or.inr (Or.inr (Or.inr h))
   rcases hsh with ⟨x,y,rfl,rfl⟩ | ⟨x,y,l,c,x',y',l',c',rfl,rfl⟩ | ⟨x,y,x',y',rfl,rfl⟩ | ⟨x,y,rfl,rfl⟩
   all_goals
    split at h
    .cases h;simp only[TV.ev,SV.ev]at heq ⊢;simp only[CV.ev]at heq ⊢;simp only[Sem.run_bind,eqGuard,binOp,heq,Sem.run_pure,Result.andThen_ok];simp [heq]
    .cases h;simp only[TV.ev,SV.ev]at heq ⊢;simp only[CV.ev]at heq ⊢;simp [Sem.run_bind,eqGuard,binOp,heq,dr]
    .cases h
  .cases h
 .rename_i a b;split at h
  .rename_i hgt;have hg:∀ op,(eqGuard op t X Y (SV.ev ρ (.agg a)) (SV.ev ρ (.agg b))).run P w=.ok () w:=by
    intro op;cases op<;>simp [eqGuard,SV.ev,Sem.run_bind,run_program,hgt]
   split at h
   .rename_i e he;have heq:(Op.equal t (SV.ev ρ (.agg a)) (SV.ev ρ (.agg b))).run P w=.ok (bN ρ e) w:=qa 20 t _ _ e 10000 (by decide) he;split at h
    .cases h;simp only[SV.ev]at hg heq;simp only[TV.ev,SV.ev,CV.ev,Sem.run_bind,hg,Result.andThen_ok,binOp,heq,Sem.run_pure]
    .cases h;simp only[SV.ev]at hg heq;simp only[TV.ev,SV.ev,CV.ev,Sem.run_bind,hg,Result.andThen_ok,binOp,heq,Sem.run_pure,dr]
    .cases h
   .cases h
  .cases h
 .cases h
end
section
variable {P:Program} {S:Nat->Prop} {w0:World} {ρ:Env} {st:St} {mem:Mem} {a:Act} {w:World} {n:E} {v:TV}
theorem MRel.Mb (h:MRel S w0 ρ mem w) {x:E} (hx:bN ρ (Mb mem x)=true):-1<=aC ρ x:=by
 unfold Sx.Mb at hx;split at hx
 .split at hx
  .rename_i a ha;have:=vQ h ha;rw[aj];omega
  .rw[jO,ai,Zc]at hx;exact hx
 .rw[bI,ai,Zc]at hx;exact hx
theorem fZ {k:IntKind} {i:Int} {y:Nat} {code:BoundsCode} (h0:0<=i) (h1:i<=y):(Instr.sliceBound (.int k i) y code).run P w=.ok i.toNat w:=by
 unfold Instr.sliceBound;simp only[asIntOf,Sem.run_bind,Sem.run_pure,Result.andThen_ok,h0,h1,and_self,ZG]
theorem lD {d:E} {x:Option TV} {e:E} (h:kT d x=some e):(x=none/\e=d)\/∃ k,x.map (TV.ev ρ)=some (.int k (aC ρ e)):=by
 unfold kT at h;split at h
 .cases h;exact Or.inl ⟨rfl,rfl⟩
 .cases h;exact Or.inr ⟨_,rfl⟩
 .cases h
theorem jr {isSlice:Bool} {len cap:Nat} {lo hi:Option TV} {dl dh l h:E} (hl:kT dl lo=some l) (hh:kT dh hi=some h) (h0:aC ρ dl=0) (h1:aC ρ dh=len)
 (a0:0<=aC ρ l) (a1:aC ρ l<=aC ρ h) (a2:aC ρ h<=cap) :
 (Instr.sliceBounds isSlice len cap (lo.map (TV.ev ρ)) (hi.map (TV.ev ρ)) none).run P w=.ok ((aC ρ l).toNat,(aC ρ h).toNat,cap) w:=by
 unfold Instr.sliceBounds;simp only[Sem.run_bind,Sem.run_pure,Result.andThen_ok];rcases lD (ρ:=ρ) hh with ⟨rfl,rfl⟩ | ⟨k,hk⟩
 .simp only[aaP,Sem.run_pure,Result.andThen_ok];rw[h1];rcases lD (ρ:=ρ) hl with ⟨rfl,rfl⟩ | ⟨k',hk'⟩
  .simp only[aaP,Sem.run_pure,Result.andThen_ok,h0,Y7];rfl
  .simp only[hk',Sem.run_bind,Sem.run_pure,Result.andThen_ok];rw[fZ a0 (by omega)];simp
 .simp only[hk,Sem.run_bind];rw[fZ (by omega) a2];simp only[Result.andThen_ok];rcases lD (ρ:=ρ) hl with ⟨rfl,rfl⟩ | ⟨k',hk'⟩
  .simp only[aaP,Sem.run_pure,Result.andThen_ok,h0];rfl
  .simp only[hk',Sem.run_bind];rw[fZ a0 (by omega)];simp
theorem s6 {m l y:E} {k:Nat} (hl:0<=aC ρ l):aC ρ (xU m l y k)=if aC ρ m=aC ρ l then aC ρ y else aC ρ y+(((aC ρ l).toNat*k:Nat):Int):=by
 unfold xU;rw[gU,fw,dZ,lW,ai,oX hl];by_cases h:aC ρ m=aC ρ l<;>simp [h]
theorem DT {x y:Int} (hx:-1<=x) (hy:0<=y) (k:Nat):(aA x y).map (·.add k)=aA x (y+k):=by
 by_cases h:0<=x
 .rw[au h,pj h hy,ZS,ef]
 .have:x= -1:=by omega
  subst this;rfl
theorem BD (hm:MRel S w0 ρ mem w) {t:TypeId} {x:TV} {lo hi mx:Option TV} (h:Gr P mem t x lo hi mx=some (n,v)) (hn:bN ρ n=true) :
 (Instr.sliceAt t (x.ev ρ) (lo.map (TV.ev ρ)) (hi.map (TV.ev ρ)) (mx.map (TV.ev ρ))).run P w=.ok (v.ev ρ) w:=by
 unfold Gr at h;split at h
 .cases h
 .split at h
  .rename_i s hu;split at h
   .rename_i l hh hl hh';cases h;rw[bp,Zg,bp,Zg,bI,bI,bI,ai,Zc,Zc,Zc,jL]at hn;obtain⟨a0,a1,a2⟩:=hn;have hb:=jr (P:=P) (w:=w) (isSlice:=false) (len:=(jq ρ s).size) (cap:=(jq ρ s).size) hl hh' (ai _ _) (jL _ _) a0 a1 a2;unfold Instr.sliceAt;simp only[Sem.run_bind,run_underlying hu,Result.andThen_ok];unfold Instr.slice;simp only[Sem.run_bind,run_underlying hu,Result.andThen_ok,TV.ev,SV.ev,CV.ev,aaP,Option.isSome_none,Z5,aaG,Sem.run_pure,hb,MU]
   .cases h
  .rename_i el x y len cap hu;split at h
   .rename_i l hh k hl hh' hs;cases h;rw[bp,Zg,bp,Zg,bp,Zg,bp,Zg,bI,bI,bI,bI,ai,Zc,Zc,Zc,Zc]at hn;obtain⟨hx,hy,a0,a1,a2⟩:=hn;have hx:=hm.Mb hx;by_cases hlen:0<=aC ρ len
    .have hb:=jr (P:=P) (w:=w) (isSlice:=true) (len:=(aC ρ len).toNat) (cap:=(aC ρ cap).toNat) hl hh' (ai _ _) (by rw[abh hlen]) a0 a1 (by omega);unfold Instr.sliceAt;simp only[Sem.run_bind,run_underlying hu,Result.andThen_ok];unfold Instr.slice;simp only[Sem.run_bind,run_underlying hu,Result.andThen_ok,TV.ev,SV.ev,CV.ev,aaP,hb,dL hs,Sem.run_pure,s6 a0,lX]
     congr 2
     .by_cases hc:aC ρ cap=aC ρ l
      .rw[ZA (by rw[hc]),ZA hc]
      .rw[Zo (by omega),Zo hc,DT hx hy]
     .omega
     .omega
    .
     rcases lD (ρ:=ρ) hh' with ⟨rfl,rfl⟩ | ⟨kk,hk⟩
     .omega
     .unfold Instr.sliceAt;simp only[Sem.run_bind,run_underlying hu,Result.andThen_ok];unfold Instr.slice;simp only[Sem.run_bind,run_underlying hu,Result.andThen_ok,TV.ev,SV.ev,CV.ev,aaP];have hb:(Instr.sliceBounds true (aC ρ len).toNat (aC ρ cap).toNat (lo.map (TV.ev ρ)) (hi.map (TV.ev ρ)) none).run P w=.ok ((aC ρ l).toNat,(aC ρ hh).toNat,(aC ρ cap).toNat) w:=by
       unfold Instr.sliceBounds;simp only[Sem.run_bind,Sem.run_pure,Result.andThen_ok,hk];rw[fZ (by omega) (by omega)];simp only[Result.andThen_ok];rcases lD (ρ:=ρ) hl with ⟨rfl,rfl⟩ | ⟨k',hk'⟩
       .simp only[aaP,Sem.run_pure,Result.andThen_ok,ai];rfl
       .simp only[hk',Sem.run_bind];rw[fZ a0 (by omega)];simp
      simp only[hb,dL hs,Sem.run_pure,s6 a0,lX,Result.andThen_ok]
      congr 2
      .by_cases hc:aC ρ cap=aC ρ l
       .rw[ZA (by rw[hc]),ZA hc]
       .rw[Zo (by omega),Zo hc,DT hx hy]
      .omega
      .omega
   .cases h
  .rename_i q el x y hu;split at h
   .rename_i l hh k hl hh' hs;cases h;rw[bp,Zg,bp,Zg,bp,Zg,bp,Zg,bI,bI,bI,bI,ai,ai,Zc,Zc,Zc,Zc]at hn;obtain⟨hx,hy,a0,a1,a2⟩:=hn;have hx:=hm.CY hx;have hb:=jr (P:=P) (w:=w) (isSlice:=false) (len:=q) (cap:=q) hl hh' (ai _ _) (ai _ _) a0 a1 a2;have es:aC ρ (xU (.lit q) l y k)=if(q:Int)=aC ρ l then aC ρ y else aC ρ y+(((aC ρ l).toNat*k:Nat):Int):=s6 a0
    unfold Instr.sliceAt;simp only[Sem.run_bind,run_underlying hu,Result.andThen_ok,TV.ev,SV.ev,CV.ev,au hx,Instr.sureAddr,Sem.run_pure,aaP,hb,dL hs,es,lX,ai]
    congr 2
    .by_cases hc:(q:Int)=aC ρ l
     .rw[ZA (by omega),ZA hc]
     .rw[Zo (by omega),Zo hc,ef];congr 2;omega
    .omega
    .omega
   .cases h
  .cases h
theorem xe {o:Option Operand} {x:Option TV} (hr:Rel S w0 ρ st a w) (h:(match o with | none=>some none | some o=>(dg st o).map some)=some x):o.map a.eval=x.map (TV.ev ρ):=by
 cases o with
 | none=>simp only[Zj]at h;subst h;rfl
 | some o =>
  simp only[Zk]at h;obtain⟨y,hy,rfl⟩:=h;simp [bc hr hy]
theorem AV (hr:Rel S w0 ρ st a w) {op:BinOp} {t:TypeId} {x y:Operand} (h:Ft P st op t x y=some (n,v)) (hn:bN ρ n=true) :
 Sem.run P (do eqGuard op t x y (a.eval x) (a.eval y);binOp op t (a.eval x) (a.eval y)) w=.ok (v.ev ρ) w:=by
 unfold Ft at h;split at h
 .rename_i j hx;have e1:=bc hr hx;simp only[TV.ev,SV.ev,CV.ev]at e1;have e2:a.eval (.const .nilIface)=.nilIface:=rfl;split at h
  .rename_i ms ht;have heq:(Op.equal t (ρ.v j) .nilIface).run P w=.ok (decide (nz (ρ.v j)=0)) w:=by
    have hd:∀ v:Value,v=.nilIface\/(∃ t x,v=.iface t x)->(Op.equal t v .nilIface).run P w=.ok (decide (nz v=0)) w:=by
     rintro v (rfl | ⟨t',x',rfl⟩)
     .show(Op.equalIn (9999+1) t .nilIface .nilIface).run P w=_;rw[Op.equalIn];simp only[Sem.run_bind,run_underlying ht,Result.andThen_ok,Sem.run_pure,nz];rfl
     .show(Op.equalIn (9999+1) t (.iface t' x') .nilIface).run P w=_;rw[Op.equalIn];simp only[Sem.run_bind,run_underlying ht,Result.andThen_ok,Sem.run_pure,nz];rfl
    refine hd _ (yh ?_);split at h
    .cases h;rw[jO,Zc]at hn;exact hn
    .cases h;rw[jO,Zc]at hn;exact hn
    .cases h
   have hv:ρ.v j=.nilIface\/(∃ t x,ρ.v j=.iface t x):=by
    refine yh ?_;split at h
    .cases h;rw[jO,Zc]at hn;exact hn
    .cases h;rw[jO,Zc]at hn;exact hn
    .cases h
   have hg:∀ op,(eqGuard op t x (.const .nilIface) (ρ.v j) .nilIface).run P w=.ok () w:=by
    intro op;rcases hv with h | ⟨t',x',h⟩<;>rw[h]<;>cases op<;>simp [eqGuard]
   have hb:(binOp .eql t (ρ.v j) .nilIface).run P w=.ok (.bool (decide (nz (ρ.v j)=0))) w/\(binOp .neq t (ρ.v j) .nilIface).run P w=.ok (.bool (!decide (nz (ρ.v j)=0))) w:=by
    rcases hv with h | ⟨t',x',h⟩<;>rw[h]at heq ⊢<;>constructor<;>simp only[binOp,Sem.run_bind,heq,Result.andThen_ok,Sem.run_pure]
   split at h
   .cases h;simp only[e1,e2,Sem.run_bind,hg,Result.andThen_ok,hb.1];rfl
   .cases h;simp only[e1,e2,Sem.run_bind,hg,Result.andThen_ok,hb.2];rfl
   .cases h
  .cases h
 .rename_i hx;have e1:=bc hr hx;have e2:a.eval (.const .nilIface)=.nilIface:=rfl;have e1:a.eval x=.nilIface:=e1;split at h
  .rename_i ms ht;have hd:(Op.equal t .nilIface .nilIface).run P w=.ok true w:=by
    show(Op.equalIn (9999+1) t .nilIface .nilIface).run P w=_;rw[Op.equalIn];simp only[Sem.run_bind,run_underlying ht,Result.andThen_ok,Sem.run_pure]
   have hg:∀ op,(eqGuard op t x (.const .nilIface) .nilIface .nilIface).run P w=.ok () w:=by
    intro op;cases op<;>simp [eqGuard]
   have hb:(binOp .eql t .nilIface .nilIface).run P w=.ok (.bool true) w/\(binOp .neq t .nilIface .nilIface).run P w=.ok (.bool false) w:=by
    constructor<;>simp only[binOp,Sem.run_bind,hd,Result.andThen_ok,Sem.run_pure]<;>rfl
   split at h
   .cases h;simp only[e1,e2,Sem.run_bind,hg,Result.andThen_ok,hb.1];rfl
   .cases h;simp only[e1,e2,Sem.run_bind,hg,Result.andThen_ok,hb.2];rfl
   .cases h
  .cases h
 .cases h
theorem oi (hr:Rel S w0 ρ st a w) {o:Oper} (h:quiet P st o.op=some (n,v)) (hn:bN ρ n=true) :
 (execOp a.eval o).run P w=.ok (.value (v.ev ρ)) w:=by
 obtain⟨dst,op,ty,pos,af,gd⟩:=o;simp only at h;unfold quiet at h;split at h
 .rename_i x;simp only[Zk,Z0]at h;obtain⟨y,hy,_,rfl⟩:=h;simp only[execOp,Sem.run_pure,bc hr hy]
 .rename_i x;simp only[Zk,Z0]at h;obtain⟨y,hy,_,rfl⟩:=h;simp only[execOp,Sem.run_pure,bc hr hy]
 .rename_i c x y;split at h
  .rename_i e hc;have e1:=bc hr hc;simp only[TV.ev,SV.ev,CV.ev]at e1;split at h
   .rename_i hk;simp only[Zk,Z0]at h;obtain⟨z,hz,_,rfl⟩:=h;simp only[execOp,Sem.run_bind,e1,fi hr.path hk,asBool,Sem.run_pure,Result.andThen_ok,ZG,bc hr hz]
   .rename_i hk;simp only[Zk,Z0]at h;obtain⟨z,hz,_,rfl⟩:=h;simp only[execOp,Sem.run_bind,e1,fi hr.path hk,asBool,Sem.run_pure,Result.andThen_ok,aaG,Z5,bc hr hz]
   .split at h
    .rename_i va vb ha hb;simp only[Zk,Z0]at h;obtain⟨u,hu,_,rfl⟩:=h;have em:=wQ (ρ:=ρ) hu;simp only[execOp,Sem.run_bind,e1,asBool,Sem.run_pure,Result.andThen_ok,TV.ev,em,bc hr ha,bc hr hb]
    .cases h
  .cases h
 .rename_i x;split at h
  .rename_i p q hx;cases h;have hp:=hr.toMRel.CY hn;have e1:=bc hr hx;simp only[TV.ev,SV.ev,CV.ev]at e1;simp only[execOp,e1,TV.ev,SV.ev,CV.ev,au hp,Sem.run_pure]
  .cases h
 .rename_i op t x y _;split at h
  .rename_i r hnc;cases h;have:=AV hr hnc hn;unfold execOp;simp only[Sem.run_bind]at this ⊢;rw[this];simp only[Result.andThen_ok,Sem.run_pure]
  split at h
  .rename_i v1 v2 hx hy;have e1:=bc hr hx;have e2:=bc hr hy;have:=Eo (w:=w) (X:=x) (Y:=y) h hn;rw[<-e1,<-e2]at this;unfold execOp;simp only[Sem.run_bind]at this ⊢;rw[this];simp only[Result.andThen_ok,Sem.run_pure]
  .cases h
 .rename_i op t x;split at h
  .rename_i v1 hx;simp only[execOp,Sem.run_bind,bc hr hx,J3 (w:=w) (P:=P) (ρ:=ρ) h,Result.andThen_ok,Sem.run_pure]
  .cases h
 .rename_i s d x;split at h
  .rename_i v1 hx;simp only[execOp,Sem.run_bind,bc hr hx,Ci hr.toMRel h hn,Result.andThen_ok,Sem.run_pure]
  .cases h
 .rename_i s x f;split at h
  .rename_i v1 hx;simp only[execOp,Sem.run_bind,bc hr hx,sB hr.toMRel h hn,Result.andThen_ok,Sem.run_pure]
  .cases h
 .rename_i s x f;split at h
  .rename_i v1 hx;simp only[execOp,Sem.run_bind,bc hr hx,AA (w:=w) (ρ:=ρ) h,Result.andThen_ok,Sem.run_pure]
  .cases h
 .rename_i t x y;split at h
  .rename_i v1 v2 hx hy;simp only[execOp,Sem.run_bind,bc hr hx,bc hr hy,sF hr.toMRel h hn,Result.andThen_ok,Sem.run_pure]
  .cases h
 .rename_i t x y;split at h
  .rename_i v1 v2 hx hy;simp only[execOp,Sem.run_bind,bc hr hx,bc hr hy,AL (w:=w) h hn,Result.andThen_ok,Sem.run_pure]
  .cases h
 .rename_i t x;split at h
  .rename_i c hx;simp only[Zk,Z0]at h;obtain⟨⟨nn,u⟩,hu,rfl,rfl⟩:=h;have e1:=bc hr hx;obtain⟨p,hp,hl⟩:=tI hr.toMRel hu hn;simp only[TV.ev,SV.ev,hp]at e1;simp only[execOp,Sem.run_bind,e1,Instr.loadAt,Instr.sureAddr,Sem.run_pure,Result.andThen_ok,hl,TV.ev]
  .cases h
 .rename_i x i;split at h
  .rename_i v1 hx;simp only[execOp,Sem.run_bind,bc hr hx,vP (w:=w) (P:=P) (ρ:=ρ) h,Result.andThen_ok,Sem.run_pure]
  .cases h
 .rename_i t x;split at h
  .rename_i q el x' y l c hu hx;cases h;rw[bI,ai,Zc]at hn;have e1:=bc hr hx;simp only[TV.ev,SV.ev,CV.ev]at e1;have:¬(aC ρ l).toNat<q:=by omega
   simp only[execOp,Sem.run_bind,e1,Instr.arrayAt,run_underlying hu,Result.andThen_ok,Zo this,Sem.run_pure,TV.ev,SV.ev,CV.ev]
  .cases h
 .rename_i t x lo hi mx;split at h
  .rename_i v1 hx;split at h
   .rename_i l hh m h1 h2 h3;have:=BD hr.toMRel h hn;rw[<-xe hr h1,<-xe hr h2,<-xe hr h3,<-bc hr hx]at this;simp only[execOp,Sem.run_bind,this,Result.andThen_ok,Sem.run_pure]
   .cases h
  .cases h
 .rename_i f first captured
  split at h
  .rename_i hc;cases h;obtain⟨rfl,rfl⟩:=hc;simp [execOp,Sem.run_bind,Instr.makeFunc,TV.ev,SV.ev,CV.ev]
  .split at h
   .rename_i c hcap;split at h
    .rename_i hf;split at h
     .rename_i x y hx;split at h
      .rename_i hy;cases h;subst hy;subst hf;have e1:=bc hr hx;simp only[TV.ev,SV.ev,CV.ev,ai]at e1;have ec:captured=#[c]:=by
        obtain⟨l⟩:=captured;simp only at hcap;subst hcap;rfl
       subst ec;simp [execOp,Sem.run_bind,Instr.makeFunc,TV.ev,SV.ev,CV.ev,e1]
      .cases h
     .cases h
    .cases h
   .cases h
 .rename_i b args ats;split at h
  .rename_i vs hx;have e1:=hZ hr _ _ hx;have e2:args.map a.eval=(vs.map (TV.ev ρ)).toArray:=by
    rw[<-e1];obtain⟨l⟩:=args;exact abD
   rw[BigFrame.execOp_builtin,e2];exact vj hr.toMRel h hn
  .cases h
 .rename_i t parts;split at h
  .rename_i vs hx;have e1:=hZ hr _ _ hx;have e2:(parts.map fun p=>(p.1,a.eval p.2))=((parts.toList.map (·.1)).zip (vs.map (TV.ev ρ))).toArray:=by
    rw[<-e1,aaF,<-wP parts.toList];obtain⟨l⟩:=parts;exact abD
   split at h
   .rename_i r hb;cases h;have:=Es (w:=w) (ρ:=ρ) hb hn;rw[<-e2]at this;simp only[execOp,Sem.run_bind,this,Result.andThen_ok,Sem.run_pure]
   .have:=Ah (w:=w) (ρ:=ρ) h;rw[<-e2]at this;simp only[execOp,Sem.run_bind,this,Result.andThen_ok,Sem.run_pure]
  .cases h
 .cases h
end
def Env.fq (ρ:Env) (n:Nat) (x:Int):Env:={ρ with i:=fun k=>if k=n then x else ρ.i k}
def Env.kj (ρ:Env) (n:Nat) (x:Hl):Env:={ρ with h:=fun k=>if k=n then x else ρ.h k}
def Env.DR (ρ:Env) (n:Nat) (x:Value):Env:={ρ with v:=fun k=>if k=n then x else ρ.v k}
def Env.JR (ρ:Env) (n:Nat) (x:Bool):Env:={ρ with b:=fun k=>if k=n then x else ρ.b k}
def Env.OX (ρ:Env) (n:Nat) (x:ByteArray):Env:={ρ with s:=fun k=>if k=n then x else ρ.s k}
section
variable (ρ:Env) (n m:Nat)
theorem ll (x:Int):(ρ.fq n x).i n=x:=by simp [Env.fq]
theorem Ik (x:Int) (h:m≠n):(ρ.fq n x).i m=ρ.i m:=by simp [Env.fq,h]
theorem fI (x:Hl):(ρ.kj n x).h n=x:=by simp [Env.kj]
theorem cM {k:Nat} (x:Int) (h:n<=k):ah n ρ (ρ.fq k x):=⟨fun j hj=>by simp [Env.fq];omega,fun _ _=>rfl,fun _ _=>rfl,fun _ _=>rfl,fun _ _=>rfl⟩
theorem eD {k:Nat} (x:Hl) (h:n<=k):ah n ρ (ρ.kj k x):=⟨fun _ _=>rfl,fun _ _=>rfl,fun _ _=>rfl,fun _ _=>rfl,fun j hj=>by simp [Env.kj];omega⟩
theorem uX {k:Nat} (x:Value) (h:n<=k):ah n ρ (ρ.DR k x):=⟨fun _ _=>rfl,fun _ _=>rfl,fun _ _=>rfl,fun j hj=>by simp [Env.DR];omega,fun _ _=>rfl⟩
theorem uV {k:Nat} (x:Bool) (h:n<=k):ah n ρ (ρ.JR k x):=⟨fun _ _=>rfl,fun j hj=>by simp [Env.JR];omega,fun _ _=>rfl,fun _ _=>rfl,fun _ _=>rfl⟩
theorem Ed {k:Nat} (x:ByteArray) (h:n<=k):ah n ρ (ρ.OX k x):=⟨fun _ _=>rfl,fun _ _=>rfl,fun j hj=>by simp [Env.OX];omega,fun _ _=>rfl,fun _ _=>rfl⟩
end
def Hl.put (h:Hl) (x y:Nat) (vs:List Value):Hl:=fun b=>if b=x then
 match h x with
 | some (.cells c T fr)=>some (.cells (cf c.toList y vs).toArray T fr)
 | o=>o
 else h b
def Hl.wr (h:Hl) (x y n:Nat):Bool :=
 match h x with
 | some (.cells c _ fr)=>decide (y+n<=c.size)&&(decide (fr.2<=y)||decide (y+n<=fr.1))
 | _=>false
theorem Hl.gL {h:Hl} {x y b:Nat} {vs:List Value} : (h.put x y vs).mem b↔h.mem b:=by
 unfold Hl.mem Hl.put;split
 .rename_i e;subst e;split
  .rename_i c T fr hb;simp [hb]
  .rfl
 .rfl
def Hl.un (a b:Hl):Hl:=fun k=>(a k).or (b k)
def dC (l:List Hl):Hl:=l.foldr Hl.un Hl.none
def Hl.le (a b:Hl):Prop:=∀ k o,a k=some o->b k=some o
theorem Hl.dN {a b:Hl} {k:Nat} : (a.un b).mem k↔a.mem k\/b.mem k:=by
 unfold Hl.mem Hl.un;cases a k<;>simp
theorem Hl.GK {a b:Hl} {w:World} (h1:a.sub w) (h2:b.sub w):(a.un b).sub w:=by
 intro k o h;unfold Hl.un at h;cases ha:a k with
 | some x=>rw[ha]at h;cases h;exact h1 _ _ ha
 | none=>rw[ha]at h;exact h2 _ _ h
def bE (h:Hl) (e:TypeId) (size:Nat) (v:Value) (n:Nat) (xs:List Value):Prop :=
 xs.length=n*size /\
 ((v=.slice none 0 0/\n=0) \/
  ∃ g cap cur,v=.slice (some ⟨g,0,none⟩) n cap/\h g=some (.cells cur e (0,0))/\n<=cap/\cap<=maxLen/\cur.size=cap*size/\cur.toList.take (n*size)=xs)
inductive Src | cvs (l:List CV) (m:Nat) | seg (h:Nat) (x y l:E)
def cJ (h:Hl) (x y n:Nat):List Value:=(List.range n).map fun j=>(h.cell x (y+j)).getD (.tuple #[])
def Src.len (ρ:Env):Src->Nat
 | .cvs _ m=>m
 | .seg _ _ _ l=>(aC ρ l).toNat
def Src.bG (ρ:Env) (size:Nat):Src->List Value
 | .cvs l _=>l.map (CV.ev ρ)
 | .seg h x y l=>cJ (ρ.h h) (aC ρ x).toNat (aC ρ y).toNat ((aC ρ l).toNat*size)
def Src.ok (ρ:Env) (size:Nat):Src->Prop
 | .cvs l m=>True
 | .seg h x y l=>(0<=aC ρ x/\0<=aC ρ y/\0<=aC ρ l/\∀ j,j<(aC ρ l).toNat*size->∃ v,(ρ.h h).cell (aC ρ x).toNat ((aC ρ y).toNat+j)=some v/\v.oneCell'=true)\/aC ρ l=0
def kI (kd:Kd) (key:Value) (es:Array MapEntry):Option (Option (Nat×Value)) :=
 match kd with
 | .int k=>Instr.findNow (.int k) key es.toList 0
 | .str=>Instr.findNow .string key es.toList 0
 | _=>none
def qm (kd:Kd) (key val:Value) (es:Array MapEntry) (clock:Nat):Obj :=
 match kI kd key es with
 | some (some (i,_))=>.map (es.modify i fun e=>{e with key,val}) clock
 | _=>.map (es.push {key,val,born:=clock}) (clock+1)
def isAgg:Value->Bool
 | .agg _=>true
 | _=>false
def Hl.setObj (h:Hl) (x:Nat) (o:Obj):Hl:=fun b=>if b=x then some o else h b
inductive Ck | int (k:IntKind) | bool | str | any | ptr | sl | map | slw
inductive Cp | one (k:Ck) | agg (ks:List Ck)
def Ck.len:Ck->Nat
 | .ptr=>2 | .sl=>4 | .slw=>4 | _=>1
def Ck.cv (n:Nat):Ck->CV
 | .int k=>.int k (.var n)
 | .bool=>.bool (.bvar n)
 | .str=>.str (.svar n)
 | .any=>.vr n
 | .ptr=>.hptr (.var n) (.var (n+1))
 | .sl=>.sl (.var n) (.var (n+1)) (.var (n+2)) (.var (n+3))
 | .map=>.map (.var n)
 | .slw=>.sl (.var n) (.var (n+1)) (.var (n+2)) (.var (n+3))
def Ck.root (n:Nat):Ck->List E
 | .ptr | .sl | .map=>[.var n]
 | _=>[]
def al:Nat->List Ck->List CV
 | _,[]=>[]
 | n,k::l=>k.cv n::al (n+k.len) l
def GV:Nat->List Ck->List E
 | _,[]=>[]
 | n,k::l=>k.root n++GV (n+k.len) l
def bR (l:List Ck):Nat:=(l.map Ck.len).sum
def Cp.sv (n:Nat):Cp->SV
 | .one k=>.one (k.cv n)
 | .agg ks=>.agg (al n ks)
def Cp.len:Cp->Nat
 | .one k=>k.len
 | .agg ks=>bR ks
def Cp.roots (n:Nat):Cp->List E
 | .one k=>k.root n
 | .agg ks=>GV n ks
def bf:Nat->List Cp->List SV
 | _,[]=>[]
 | n,c::l=>c.sv n::bf (n+c.len) l
def br:Nat->List Cp->List E
 | _,[]=>[]
 | n,c::l=>c.roots n++br (n+c.len) l
def SL (l:List Cp):Nat:=(l.map Cp.len).sum
def cu (n:Nat) (l:List Cp):TV :=
 match l with
 | [c]=>.sv (c.sv n)
 | l=>.tup (bf n l)
def km:Value->Ck
 | .int k _=>.int k
 | .bool _=>.bool
 | .string _=>.str
 | .slice _ _ _=>.sl
 | .pointer _=>.ptr
 | .map _=>.map
 | _=>.any
def jZ (n:Nat) (ks:List Ck) (agg:Bool):SV:=if agg then .agg (al n ks)else match ks with
 | [k]=>.one (k.cv n)
 | _=>.agg (al n ks)
def lS (ks:List Ck) (agg:Bool) (v:Value):Prop:=if agg then ∃ cs,v=.agg cs/\cs.toList.map km=ks else ∃ k,ks=[k]/\km v=k
def il (n:Nat) (ρ:Env):Ck->Prop
 | .ptr=> -1<=ρ.i n/\0<=ρ.i (n+1)
 | .sl=> -1<=ρ.i n/\0<=ρ.i (n+1)/\0<=ρ.i (n+2)/\0<=ρ.i (n+3)
 | .map=> -1<=ρ.i n
 | .slw=>True/\0<=ρ.i (n+1)/\0<=ρ.i (n+2)/\0<=ρ.i (n+3)
 | _=>True
def dd:Nat->List Ck->Env->Prop
 | _,[],_=>True
 | n,k::l,ρ=>il n ρ k/\dd (n+k.len) l ρ
def EE (n:Nat) (ρ:Env):Cp->Prop
 | .one k=>il n ρ k
 | .agg ks=>dd n ks ρ
def fg:Nat->List Cp->Env->Prop
 | _,[],_=>True
 | n,c::l,ρ=>EE n ρ c/\fg (n+c.len) l ρ
inductive Ul | arg (i:Nat) | link (i j:Nat) | far (i j k:Nat)
structure Spec where
 fn:FuncId
 own:List Ul
 rd:List Nat
 res:List Cp
 links:List Nat:=[]
 pre:List Value->List Hl->List Hl->Prop
 post:List Value->List Hl->List Hl->Value->List Hl->Hl->Prop
structure uU (w w':World) (Hs Hs':List Hl) (F:Hl):Prop where
 os:w'.os=w.os
 tape:w'.tape=w.tape
 output:w'.output=w.output
 size:w.heap.size<=w'.heap.size
 block:∀ b,b<w.heap.size->(∀ H∈Hs,¬H.mem b)->w'.heap[b]?=w.heap[b]?
 len:Hs'.length=Hs.length
 sub:∀ H∈Hs',H.sub w'
 fsub:F.sub w'
 dom:∀ H∈Hs',∀ b,H.mem b->(∃ K∈Hs,K.mem b)\/w.heap.size<=b
 fdom:∀ b,F.mem b->(∃ K∈Hs,K.mem b)\/w.heap.size<=b
 cG:∀ (p q:Nat) H K,p≠q->Hs'[p]?=some H->Hs'[q]?=some K->H.cG K
 fdis:∀ H∈Hs',H.cG F
def Spec.OK (P:Program) (s:Spec):Prop:=∀ w (xs:List Value) (Hs Rs:List Hl),Hs.length=s.own.length->Rs.length=s.rd.length ->
 (∀ H∈Hs,H.sub w)->(∀ R∈Rs,R.sub w)->(∀ (p q:Nat) H K,p≠q->Hs[p]?=some H->Hs[q]?=some K->H.cG K)->(∀ H∈Hs,∀ R∈Rs,H.cG R)->s.pre xs Hs Rs ->
 Calls P s.fn xs.toArray w fun e w'=>∃ (ρ:Env) (Hs':List Hl) (F:Hl),e=.returned ((cu 0 s.res).ev ρ)/\fg 0 s.res ρ/\uU w w' Hs Hs' F/\s.post xs Hs Rs ((cu 0 s.res).ev ρ) Hs' F
structure Ctx where
 Γ:List Spec
 inv:Nat->Env->Prop
 mu:Nat->Env->Nat
 post:Env->Mem->TV->Prop
inductive X
 | alloc (n:Nat)
 | put (n h:Nat) (x y:E) (cs:List CV)
 | app (n:Nat) (el:TypeId) (size bytes:Nat) (s:CV) (l:E) (H:bx) (src:Src)
 | grow (n:Nat) (el:TypeId) (size bytes:Nat) (olds:List CV) (l c:Nat) (src:Src)
 | mk (n:Nat) (el:TypeId) (z:List CV) (bytes:Nat) (l:E)
 | call (j n:Nat) (args:List TV) (own rd:List bx)
 | mnew (n:Nat)
 | mget (n h:Nat) (x:E) (kd:Kd) (key:CV) (z:SV) (ks:List Ck) (agg:Bool)
 | mset (n h:Nat) (x:E) (kd:Kd) (key:CV) (v:SV)
 | mclr (n h:Nat) (x:E)
 | cbs (n a:Nat) (cs:List CV) (T:TypeId)
 | L8 (n:Nat) (a b:bx)
 | cpy (n h:Nat) (x y ld:E) (hs:Nat) (xs ys ls:E)
 | IX (n:Nat) (r:bx)
 | mki (n:Nat) (T:TypeId) (v:SV)
def X.n:X->Nat
 | .mnew n | .mget n _ _ _ _ _ _ _ | .mset n _ _ _ _ _ | .mclr n _ _ | .cbs n _ _ _ | .L8 n _ _ | .cpy n _ _ _ _ _ _ _ _ | .IX n _ | .mki n _ _=>n
 | .alloc n | .put n _ _ _ _ | .app n _ _ _ _ _ _ _ | .grow n _ _ _ _ _ _ _ | .mk n _ _ _ _ | .call _ n _ _ _=>n
def newHs (ρ:Env) (n k:Nat):List Hl:=(List.range k).map fun j=>ρ.h (n+j)
def X.pre (C:Ctx) (ρ:Env):X->Prop
 | .alloc _=>True
 | .put _ h x y cs=>0<=aC ρ x/\0<=aC ρ y/\(ρ.h h).wr (aC ρ x).toNat (aC ρ y).toNat cs.length=true
 | .app _ el size bytes s l H src=>(∃ xs,bE (H.hl ρ) el size (s.ev ρ) (aC ρ l).toNat xs)/\0<=aC ρ l/\src.ok ρ size/\(aC ρ l).toNat+src.len ρ<=maxLen/\((aC ρ l).toNat+src.len ρ)*bytes<=140737488355328
 | .grow _ el size bytes olds l c src=>src.ok ρ size/\c<l+src.len ρ/\l+src.len ρ<=maxLen/\(l+src.len ρ)*bytes<=140737488355328
 | .mk _ el z bytes l=>0<=aC ρ l/\(bytes:Int)*aC ρ l<=281474976710656/\aC ρ l<=9223372036854775807
 | .call j _ args own rd=>match C.Γ[j]? with
  | some s=>s.pre (args.map (TV.ev ρ)) (own.map (bx.hl ρ)) (rd.map (bx.hl ρ))
  | none=>False
 | .mnew _=>True
 | .mget _ h x kd key z ks agg=>0<=aC ρ x/\∃ es clock r,ρ.h h (aC ρ x).toNat=some (.map es clock)/\kI kd (key.ev ρ) es=some r/\∀ i v,r=some (i,v)->lS ks agg v
 | .mset _ h x kd key v=>0<=aC ρ x/\∃ es clock r,ρ.h h (aC ρ x).toNat=some (.map es clock)/\kI kd (key.ev ρ) es=some r
 | .mclr _ h x=>0<=aC ρ x/\∃ es clock,ρ.h h (aC ρ x).toNat=some (.map es clock)
 | .cbs _ _ _ _=>True
 | .L8 _ _ _=>True
 | .IX _ _=>True
 | .mki _ _ _=>True
 | .cpy _ h x y ld hs xs ys ls=>(0<=aC ρ x/\0<=aC ρ y/\0<=aC ρ ld/\0<=aC ρ ls)/\(∃ c T,ρ.h h (aC ρ x).toNat=some (.cells c T (0,0))/\aC ρ y+min (aC ρ ls) (aC ρ ld)<=c.size) /\
  (min (aC ρ ls) (aC ρ ld)=0\/0<=aC ρ xs/\0<=aC ρ ys/\cy (ρ.h hs) (aC ρ xs).toNat (aC ρ ys).toNat (min (aC ρ ls) (aC ρ ld)).toNat=true)
def X.rel (C:Ctx) (ρ ρ':Env):X->Prop
 | .alloc n=>0<=ρ'.i n
 | .put n h x y cs=>ρ'.h n=(ρ.h h).put (aC ρ x).toNat (aC ρ y).toNat (cs.map (CV.ev ρ))
 | .app n el size bytes s l H src =>
  -1<=ρ'.i n/\0<=ρ'.i (n+1) /\
  (∀ xs,bE (H.hl ρ) el size (s.ev ρ) (aC ρ l).toNat xs->bE (ρ'.h n) el size (.slice (aA (ρ'.i n) 0) ((aC ρ l).toNat+src.len ρ) (ρ'.i (n+1)).toNat) ((aC ρ l).toNat+src.len ρ) (xs++src.bG ρ size)) /\
  (∀ b,(H.hl ρ).mem b->some b≠(s.ev ρ).ownBlock->ρ'.h n b=H.hl ρ b) /\
  (∀ b,(ρ'.h n).mem b->(H.hl ρ).mem b\/(b=(ρ'.i n).toNat/\0<=ρ'.i n)) /\
  (some (ρ'.i n).toNat=(s.ev ρ).ownBlock\/¬(H.hl ρ).mem (ρ'.i n).toNat\/ρ'.i n= -1)
 | .grow n el size bytes olds l c src =>
  0<=ρ'.i n/\0<=ρ'.i (n+1) /\
  bE (ρ'.h n) el size (.slice (aA (ρ'.i n) 0) (l+src.len ρ) (ρ'.i (n+1)).toNat) (l+src.len ρ) (olds.map (CV.ev ρ)++src.bG ρ size) /\
  (∀ b,(ρ'.h n).mem b->b=(ρ'.i n).toNat)
 | .mk n el z bytes l=>0<=ρ'.i n/\ρ'.h n=Hl.one (ρ'.i n).toNat (.cells (madeCells (z.map (CV.ev ρ)).toArray ((aC ρ l).toNat*z.length)) el (0,0))
 | .call j n args own rd=>match C.Γ[j]? with
  | some s=>∃ F,s.post (args.map (TV.ev ρ)) (own.map (bx.hl ρ)) (rd.map (bx.hl ρ)) ((cu n s.res).ev ρ') (newHs ρ' n own.length) F/\(br 0 s.res≠[]->ρ'.h (n+own.length)=F)/\fg n s.res ρ'
  | none=>False
 | .mnew n=>0<=ρ'.i n/\ρ'.h n=Hl.one (ρ'.i n).toNat (.map #[] 0)
 | .mget n h x kd key z ks agg=>∀ es clock r,ρ.h h (aC ρ x).toNat=some (.map es clock)->kI kd (key.ev ρ) es=some r ->
  (jZ n ks agg).ev ρ'=(match r with | some (_,v)=>v | none=>z.ev ρ)/\ρ'.b (n+bR ks)=r.isSome
 | .mset n h x kd key v=>∀ es clock,ρ.h h (aC ρ x).toNat=some (.map es clock)->ρ'.h n=(ρ.h h).setObj (aC ρ x).toNat (qm kd (key.ev ρ) (v.ev ρ) es clock)
 | .mclr n h x=>∀ es clock,ρ.h h (aC ρ x).toNat=some (.map es clock)->ρ'.h n=(ρ.h h).setObj (aC ρ x).toNat (.map #[] clock)
 | .cbs n a cs T=>ρ'.h n=Hl.one (ρ.i a).toNat (.cells (cs.map (CV.ev ρ)).toArray T (cs.length,cs.length+1))
 | .IX n r=>ρ'.h n=r.hl ρ
 | .mki n T v=>ρ'.v n=.iface T (v.ev ρ)
 | .L8 n a b=>ρ'.h n=(a.hl ρ).un (b.hl ρ)/\(a.hl ρ).cG (b.hl ρ)
 | .cpy n h x y ld hs xs ys ls=>ρ'.h n=(ρ.h h).put (aC ρ x).toNat (aC ρ y).toNat (cJ (ρ.h hs) (aC ρ xs).toNat (aC ρ ys).toNat (min (aC ρ ls) (aC ρ ld)).toNat)
structure As where
 n:Nat
 k:Nat
 c:CV
inductive Nd
 | tt | e (x:E) | and (a b:Nd) | imp (c:E) (a:Nd) | pre (x:X) | ext (x:X) (a:Nd)
 | inv (j:Nat) (A:List As) (hs:List (Nat×Option Nat)) | back (d j:Nat) (A:List As) (hs:List (Nat×Option Nat)) | havoc (d j n0:Nat) (a:Nd)
 | post (mem:Mem) (r:TV)
def assign (ρ:Env) (A:List As) (hs:List (Nat×Option Nat)):Env where
 i:=fun k=>match A.find? fun a=>a.n==k&&a.k==0 with
  | some a=>cW (some (a.c.ev ρ))
  | none=>ρ.i k
 b:=fun k=>match A.find? fun a=>a.n==k&&a.k==1 with
  | some a=>yA (some (a.c.ev ρ))
  | none=>ρ.b k
 s:=fun k=>match A.find? fun a=>a.n==k&&a.k==2 with
  | some a=>M9 (some (a.c.ev ρ))
  | none=>ρ.s k
 v:=fun k=>match A.find? fun a=>a.n==k&&a.k==3 with
  | some a=>a.c.ev ρ
  | none=>ρ.v k
 h:=fun k=>match hs.find? fun p=>p.1==k with
  | some (_,some q)=>ρ.h q
  | some (_,none)=>Hl.none
  | none=>ρ.h k
def Nd.holds (C:Ctx) (ms:Nat->Nat) (ρ:Env):Nd->Prop
 | .tt=>True
 | .e x=>bN ρ x=true
 | .and a b=>a.holds C ms ρ/\b.holds C ms ρ
 | .imp c a=>bN ρ c=true->a.holds C ms ρ
 | .pre x=>x.pre C ρ
 | .ext x a=>∀ ρ',ah x.n ρ ρ'->x.rel C ρ ρ'->a.holds C ms ρ'
 | .inv j A hs=>C.inv j (assign ρ A hs)
 | .back d j A hs=>C.inv j (assign ρ A hs)/\C.mu j (assign ρ A hs)<ms d
 | .havoc d j n0 a=>∀ ρ',ah n0 ρ ρ'->C.inv j ρ'->a.holds C (fun k=>if k=d then C.mu j ρ' else ms k) ρ'
 | .post mem r=>C.post ρ mem r
def Tn:E->Nd
 | .tt=>.tt
 | x=>.e x
def nu:Nd->Nd->Nd
 | .tt,b=>b
 | a,.tt=>a
 | a,b=>.and a b
def tM:E->Nd->Nd
 | _,.tt=>.tt
 | .tt,a=>a
 | c,a=>.imp c a
section
variable (C:Ctx) (ms:Nat->Nat)
theorem sJ (x:E) (ρ:Env):(Tn x).holds C ms ρ=(bN ρ x=true):=by
 unfold Tn;split
 .simp [Nd.holds,c8]
 .rfl
theorem dY (a b:Nd) (ρ:Env):(nu a b).holds C ms ρ=(a.holds C ms ρ/\b.holds C ms ρ):=by unfold nu;split<;>simp [Nd.holds]
theorem gY (c:E) (a:Nd) (ρ:Env):(tM c a).holds C ms ρ=(bN ρ c=true->a.holds C ms ρ):=by unfold tM;split<;>simp [Nd.holds,c8]
end
section
variable {P:Program} {w:World}
theorem DW (g o:Nat) (t:TypeId) (fr:Nat×Nat):∀ (vs:List Value) (i:Nat) (cur:Array Value) (w:World),w.heap[g]?=some (.cells cur t fr)->o+i+vs.length<=cur.size->(fr.2<=o+i\/o+i+vs.length<=fr.1)->(∀ v∈vs,v.oneCell'=true) ->
 (storeCells ⟨g,o,none⟩ vs i).run P w=.ok () (w.setRow g (cur.toList.take (o+i)++vs++cur.toList.drop (o+i+vs.length)).toArray)
 | [],i,cur,w,hg,_,_,_=>by
  simp only[storeCells,aau,Zh,Zp,List.take_append_drop,abH];rw[setRow_self w g cur t fr hg];rfl
 | v::rest,i,cur,w,hg,hl,hf,h1=>by
  have hi:o+i<cur.size:=by simp at hl;omega
  have hadd:(⟨g,o,none⟩:Addr).add i=⟨g,o+i,none⟩:=by unfold Addr.add;split<;>simp_all
  have hcell:w.cell? ⟨g,o+i,none⟩=some cur[o+i]:=by simp [World.cell?,hg,hi]
  have hfro:w.frozen? ⟨g,o+i,none⟩=false:=by
   obtain⟨lo,hi'⟩:=fr;simp only[World.frozen?,hg,Zd]at hf ⊢;simp only[Bool.and_eq_false_iff,Z4];omega
  have hst:(store ((⟨g,o,none⟩:Addr).add i) v).run P w=.ok () (w.setRow g (cur.setIfInBounds (o+i) v)):=by
   rw[hadd,run_store P w _ v _ (h1 v (by simp)),hcell];simp [hfro,setCell_eq_setRow w g (o+i) cur t fr v hg]
  have ih:=DW g o t fr rest (i+1) (cur.setIfInBounds (o+i) v) (w.setRow g (cur.setIfInBounds (o+i) v)) (setRow_heap w g cur _ t _ hg) (by simp at hl ⊢;omega) (by simp only[Zd]at hf;omega) (fun x hx=>h1 x (by simp [hx]));simp only[storeCells,Sem.run_bind,hst,Result.andThen_ok,ih,setRow_setRow]
  congr 3
  have e:=list_seg_step cur.toList (o+i) v rest (by simp at hl ⊢;omega);simpa [abO,aaD] using e
theorem Ox {h:Hl} (hs:h.sub w) {x y:Nat} {vs:List Value} {c:Array Value} {T:TypeId} {fr:Nat×Nat} (hx:h x=some (.cells c T fr)):(h.put x y vs).sub (w.setRow x (cf c.toList y vs).toArray):=by
 intro b o hb;unfold Hl.put at hb;split at hb
 .rename_i e;subst e;rw[hx]at hb;cases hb;exact setRow_heap w b c _ T fr (hs _ _ hx)
 .rename_i e;rw[setRow_other w x b _ e];exact hs b o hb
theorem jk {h:Hl} {x y n:Nat} (hw:h.wr x y n=true):∃ c T fr,h x=some (.cells c T fr)/\y+n<=c.size/\(fr.2<=y\/y+n<=fr.1):=by
 unfold Hl.wr at hw;split at hw
 .rename_i c T fr hx;simp only[Zg,aat,Zc]at hw;exact⟨c,T,fr,hx,hw.1,hw.2⟩
 .cases hw
theorem M1 {h:Hl} (hs:h.sub w) {t:TypeId} {x y:Nat} {v:Value} {vs:List Value} (hsz:eO P t=some vs.length) (hv:v.cells.toList=vs) (h1:∀ u∈vs,u.oneCell'=true) (hw:h.wr x y vs.length=true) :
 ∃ cs,(storeVar t ⟨x,y,none⟩ v).run P w=.ok () (w.setRow x cs)/\(h.put x y vs).sub (w.setRow x cs):=by
 obtain⟨c,T,fr,hx,hle,hfr⟩:=jk hw;refine⟨(cf c.toList y vs).toArray,?_,Ox hs hx⟩;unfold storeVar;have hsize:v.cells.size=vs.length:=by rw[<-aaI,hv]
 simp only[Sem.run_bind,dL hsz,Result.andThen_ok,hsize,ne_eq,aaV,aaG];rw[hv];have:=DW (P:=P) x y T fr vs 0 c w (hs _ _ hx) (by omega) (by omega) h1;simp only[Zp]at this;rw[this];simp [cf]
theorem Dj {H:Hl} (hs:H.sub w) {e:TypeId} {size:Nat} {v:Value} {n:Nat} {xs:List Value} (h:bE H e size v n xs):w.ownsRow 0 e size v n xs:=by
 refine⟨h.1,?_⟩;rcases h.2 with h | ⟨g,cap,cur,rfl,hg,r1,r2,r3,r4⟩
 .exact Or.inl h
 .exact Or.inr ⟨g,cap,cur,rfl,aam _,hs _ _ hg,r1,r2,r3,r4⟩
def Kn (w:World) (u:Value) (m:Nat) (news:List Value):Prop :=
 (∃ a c,u=.slice (some a) m c/\∀ j x,news[j]?=some x->w.cell? (a.add j)=some x)\/((∃ c,u=.slice none 0 c)/\m=0/\news=[])
theorem B0 (base:Nat) (t ty e:TypeId) (i:TypeInfo) (size:Nat) (ht:P.underlying t=some (.slice e)) (hi:P.info? e=some i)
 (v:Value) (n:Nat) (xs:List Value) (hown:w.ownsRow base e size v n xs) (c:Nat) :
 (Builtin.append_ #[t,t] ty #[v,.slice none 0 c]).run P w=.ok v w:=by
 rcases hown.2 with ⟨rfl,rfl⟩ | ⟨g,cap,cur,rfl,_,_,hnc,_⟩
 .simp [Builtin.append_,run_underlying ht,sizeOf,typeInfo,hi,Builtin.lenOf,Builtin.firstCells]
 .simp [Builtin.append_,run_underlying ht,sizeOf,typeInfo,hi,Builtin.lenOf,Builtin.firstCells,hnc,storeCells]
theorem Eg {H:Hl} (hs:H.sub w) {t ty e:TypeId} {i:TypeInfo} {z:Value} {size bytes:Nat} (ht:P.underlying t=some (.slice e)) (hi:P.info? e=some i) (hz:i.zero=some z)
 (hsize:i.size=size) (hby:i.bytes=bytes) (hzs:z.cells.size=size) (hsz:0<size) {v:Value} {n:Nat} {xs:List Value} (ho:bE H e size v n xs)
 {u:Value} {m:Nat} {news:List Value} (hl:news.length=m*size) (hu:Kn w u m news) (h1:∀ x∈news,x.oneCell'=true) (h63:n+m<=maxLen) (hbytes:(n+m)*bytes<=140737488355328) :
 ∃ v' w' H',(Builtin.append_ #[t,t] ty #[v,u]).run P w=.ok v' w'/\bE H' e size v' (n+m) (xs++news)/\H'.sub w'/\w.grownBy w' v.ownBlock /\
  (∀ b,H.mem b->some b≠v.ownBlock->H' b=H b)/\(∀ b,H'.mem b->H.mem b\/(v'.ownBlock=some b/\w.heap.size<=b))/\(v'.ownBlock=v.ownBlock\/∃ b,v'.ownBlock=some b/\w.heap.size<=b):=by
 subst hsize;subst hby;have hsmall:n+m<=9223372036854775807:=by simp only[maxLen]at h63;omega
 rcases hu with ⟨a,c,rfl,hnews⟩ | ⟨⟨c,rfl⟩,rfl,rfl⟩
 rotate_left
 .refine⟨v,w,H,B0 0 t ty e i i.size ht hi v n xs (Dj hs ho) c,by simpa using ho,hs,⟨rfl,rfl,rfl,ZB _,fun _ _ _=>rfl⟩,fun _ _ _=>rfl,fun b hb=>Or.inl hb,Or.inl rfl⟩
 have hlen:(xs++news).length=(n+m)*i.size:=by rw[Y9,ho.1,hl,aaJ]
 have grown:∀ (old:Nat),old<n+m->v.ownBlock=none\/(∃ g,v.ownBlock=some g/\g<w.heap.size) ->
  ∃ H',bE H' e i.size (.slice (some ⟨w.heap.size,0,none⟩) (n+m) (grownCap w (n+m) old e)) (n+m) (xs++news) /\
   H'.sub (w.drew.alloc (.cells (xs.toArray++news.toArray++Builtin.zeroCells z.cells (grownCap w (n+m) old e-(n+m))) e)) /\
   w.grownBy (w.drew.alloc (.cells (xs.toArray++news.toArray++Builtin.zeroCells z.cells (grownCap w (n+m) old e-(n+m))) e)) v.ownBlock /\
   (∀ b,H.mem b->some b≠v.ownBlock->H' b=H b)/\(∀ b,H'.mem b->H.mem b\/(some w.heap.size=some b/\w.heap.size<=b)):=by
  intro old hold hv;have hge:=grownCap_ge w (n+m) old e;have hcm:grownCap w (n+m) old e<=maxLen:=grownCap_le_maxLen w (n+m) old e h63
  let ob:Obj:=.cells (xs.toArray++news.toArray++Builtin.zeroCells z.cells (grownCap w (n+m) old e-(n+m))) e
  refine⟨fun b=>if b=w.heap.size then some ob else H b,⟨hlen,Or.inr ⟨w.heap.size,_,_,rfl,ZA rfl,hge,hcm,?_,?_⟩⟩,?_,⟨rfl,rfl,rfl,by simp,fun k hk _=>heap_alloc_old w.drew _ hk⟩,?_,?_⟩
  .simp only[Array.size_append,abb,size_zeroCells,hzs,ho.1,hl,<-aaJ]
   congr 1
   omega
  .simp only[aca,ZK];rw[<-ZK,<-hlen];exact ab9
  .intro b o hb;simp only at hb;split at hb
   .rename_i e1;subst e1;cases hb;exact heap_alloc_new w.drew _
   .have:=hs b o hb;rw[heap_alloc_old w.drew _ (ZU.1 this).1];exact this
  .intro b hb _;have:=Hl.sub_lt hs hb;exact Zo (by omega)
  .intro b hb;by_cases e1:b=w.heap.size
   .exact Or.inr ⟨by rw[e1],by omega⟩
   .left;unfold Hl.mem at hb ⊢;simpa [e1] using hb
 rcases ho.2 with ⟨rfl,rfl⟩ | ⟨g,cap,cur,rfl,hg,hnc,hcm,hcs,htake⟩
 .have hx:xs=[]:=aaK (by simpa using ho.1);subst hx;by_cases hm:m=0
  .subst hm;have hn:news=[]:=aaK (by simpa using hl);subst hn;refine⟨.slice none 0 0,w,H,?_,ho,hs,⟨rfl,rfl,rfl,ZB _,fun _ _ _=>rfl⟩,fun _ _ _=>rfl,fun b hb=>Or.inl hb,Or.inl rfl⟩;simp [Builtin.append_,run_underlying ht,sizeOf,typeInfo,hi,Builtin.lenOf,Builtin.firstCells,loadCells,loadCellsFrom]
  .have hr:=run_append_nil (P:=P) w t ty e i z ht hi hz a m c news hl hnews (by omega) (by omega) (by have hb:=hbytes;simp only[ZM]at hb;omega);obtain⟨H',g1,g2,g3,g4,g5⟩:=grown 0 (by omega) (Or.inl rfl);simp only[ZM,aax,Array.empty_append]at hr g1 g2 g3 g4 g5 ⊢;exact⟨_,_,H',hr,g1,g2,g3,g4,g5,Or.inr ⟨_,rfl,ZB _⟩⟩
 .by_cases hroom:n+m<=cap
  .have hfit:n*i.size+news.length<=cur.size:=by rw[hl,hcs,<-aaJ];exact abd _ hroom
   have hr:=run_append_room (P:=P) w t ty e i ht hi g n cap cur (hs _ _ hg) a m c news hl hnews h1 hroom hfit;refine⟨_,_,fun b=>if b=g then some (.cells (cur.toList.take (n*i.size)++news++cur.toList.drop (n*i.size+news.length)).toArray e (0,0))else H b,hr,
    ⟨hlen,Or.inr ⟨g,cap,_,rfl,ZA rfl,hroom,hcm,?_,?_⟩⟩,?_,⟨rfl,rfl,rfl,by simp,fun k _ hk=>setRow_other w g k _ (fun e=>hk (by simp [Value.ownBlock,e]))⟩,?_,?_,Or.inl rfl⟩
   .simp only[abb,Y9,ZE,ZX,aaI];omega
   .rw[htake,<-hlen];exact ab9
   .intro b o hb;simp only at hb;split at hb
    .rename_i e1;subst e1;cases hb;exact setRow_heap w b cur _ e _ (hs _ _ hg)
    .rename_i e1;rw[setRow_other w g b _ e1];exact hs b o hb
   .intro b hb hne;exact Zo (fun e1=>hne (by simp [Value.ownBlock,e1]))
   .intro b hb;left;by_cases e1:b=g
    .subst e1;unfold Hl.mem;rw[hg];rfl
    .unfold Hl.mem at hb ⊢;simpa [e1] using hb
  .have holds:∀ j u,xs[j]?=some u->w.cell? ((⟨g,0,none⟩:Addr).add j)=some u:=(Dj hs ho).cells (g:=g) rfl;have hr:=run_append_grow (P:=P) w t ty e i z ht hi hz ⟨g,0,none⟩ n cap xs ho.1 holds a m c news hl hnews (by omega) (by omega) (growslice_fits (by omega) hbytes);obtain⟨H',g1,g2,g3,g4,g5⟩:=grown cap (by omega) (Or.inr ⟨g,rfl,(ZU.1 (hs _ _ hg)).1⟩);exact⟨_,_,H',hr,g1,g2,g3,g4,g5,Or.inr ⟨_,rfl,ZB _⟩⟩
theorem BZ {t ty e:TypeId} {i:TypeInfo} {z:Value} {size bytes:Nat} (ht:P.underlying t=some (.slice e)) (hi:P.info? e=some i) (hz:i.zero=some z)
 (hsize:i.size=size) (hby:i.bytes=bytes) (hzs:z.cells.size=size) {b:Addr} {n cap:Nat} {olds:List Value} (hlo:olds.length=n*size) (holds:∀ j x,olds[j]?=some x->w.cell? (b.add j)=some x)
 {u:Value} {m:Nat} {news:List Value} (hl:news.length=m*size) (hu:Kn w u m news) (hg:cap<n+m) (hnc:n<=cap) (h63:n+m<=maxLen) (hbytes:(n+m)*bytes<=140737488355328) :
 ∃ cp ob,(Builtin.append_ #[t,t] ty #[.slice (some b) n cap,u]).run P w=.ok (.slice (some ⟨w.heap.size,0,none⟩) (n+m) cp) (w.drew.alloc ob) /\
  bE (Hl.one w.heap.size ob) e size (.slice (some ⟨w.heap.size,0,none⟩) (n+m) cp) (n+m) (olds++news):=by
 subst hsize;subst hby;have hsmall:n+m<=9223372036854775807:=by simp only[maxLen]at h63;omega
 rcases hu with ⟨a,c,rfl,hnews⟩ | ⟨⟨c,rfl⟩,rfl,rfl⟩
 rotate_left
 .omega
 have hr:=run_append_grow (P:=P) w t ty e i z ht hi hz b n cap olds hlo holds a m c news hl hnews hg (by omega) (growslice_fits (by omega) hbytes);have hge:=grownCap_ge w (n+m) cap e;have hcm:grownCap w (n+m) cap e<=maxLen:=grownCap_le_maxLen w (n+m) cap e h63;have hlen:(olds++news).length=(n+m)*i.size:=by rw[Y9,hlo,hl,aaJ]
 refine⟨_,_,hr,hlen,Or.inr ⟨w.heap.size,_,_,rfl,Hl.bF _ _,hge,hcm,?_,?_⟩⟩
 .simp only[Array.size_append,abb,size_zeroCells,hzs,hlo,hl,<-aaJ]
  congr 1
  omega
 .simp only[aca,ZK];rw[<-ZK,<-hlen];exact ab9
end
end Go.Sx
