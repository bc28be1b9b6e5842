/- RelayOpens. -/
import Derived.ChangeKeysEq
import Derived.Laws.BytesString
import Derived.Laws.CopyRow
import Derived.Laws.Rows
import Derived.Laws.Strings
import Derived.Laws.Tables
import Derived.WalkKit
set_option linter.all false
namespace Go
def aaa:=@Int.toNat_natCast
def aab:=@List.getElem?_eq_getElem
def aac:=@List.length_append
def aad:=@List.length_eq_zero_iff
def aae:=@List.mem_of_getElem?
def aaf:=@List.cons.injEq
def aag:=@decide_eq_true_eq
def aah:=@Bool.and_eq_true
def aai:=@List.getElem?_eq_some_iff
def aaj:=@Option.some.injEq
def aak:=@Option.map_eq_some_iff
def aal:=@if_neg
def aam:=@List.mem_singleton
def aan:=@List.getD_eq_getElem?_getD
def aao:=@List.getElem?_map
def aap:=@Int.le_refl
def aaq:=@List.getElem?_eq_none
def aar:=@List.mem_cons_of_mem
def aas:=@List.mem_cons
def aat:=@and_true
def aau:=@List.getElem?_append_right
def aav:=@Nat.le_refl
def aaw:=@List.append_assoc
def aax:=@if_pos
def aay:=@List.length_singleton
def aaz:=@List.length_take
def aaA:=@List.mem_nil_iff
def aaB:=@List.length_map
def aaC:=@List.map_cons
def aaD:=@List.getElem?_range
def aaE:=@List.all_eq_true
def aaF:=@List.length_drop
def aaG:=@List.getElem?_append_left
def aaH:=@List.mem_cons_self
def aaI:=@List.toArray_inj
def aaJ:=@Array.mk.injEq
def aaK:=@List.map_append
def aaL:=@List.ext_getElem?
def aaM:=@List.mem_range
def aaN:=@Option.map_some
def aaO:=@List.length_cons
def aaP:=@Nat.zero_add
def aaQ:=@congrArg
def aaR:=@List.mem_append
def aaS:=@List.mem_map
def aaT:=@Nat.add_le_add
def aaU:=@Array.getElem?_eq_some_iff
def aaV:=@true_and
def aaW:=@List.getElem?_drop
def aaX:=@List.getElem?_take
def aaY:=@Prod.mk.injEq
def aaZ:=@Option.some.inj
def aa0:=@Nat.add_zero
def aa1:=@List.getElem?_cons_succ
def aa2:=@Bool.false_eq_true
def aa3:=@decide_eq_false_iff_not
def aa4:=@List.getElem?_cons_zero
def aa5:=@List.length_replicate
def aa6:=@Nat.zero_le
def aa7:=@List.map_congr_left
def aa8:=@List.append_nil
def aa9:=@List.getElem?_of_mem
def aba:=@Nat.lt_or_ge
def abb:=@List.getElem?_take_of_lt
def abc:=@or_false
def abd:=@Int.tmod_eq_emod_of_nonneg
def abe:=@List.length_nil
def abf:=@Bool.not_eq_true'
def abg:=@List.getElem?_set_ne
def abh:=@List.take_length
def abi:=@Classical.byContradiction
def abj:=@Option.isSome_iff_exists
def abk:=@List.getElem?_toArray
def abl:=@List.mem_append_right
def abm:=@Bool.eq_false_iff
def abn:=@List.getElem?_set_self
def abo:=@List.flatten_cons
def abp:=@List.map_nil
def abq:=@List.mem_filter
def abr:=@Int.lt_or_le
def abt:=@List.getElem_mem
def abu:=@List.nil_append
def abv:=@List.take_add_one
def abw:=@List.contains_iff_mem
def abx:=@Int.fdiv_eq_ediv_of_nonneg
def aby:=@Int.eq_ofNat_of_zero_le
def abz:=@of_decide_eq_true
def abA:=@List.map_map
def abB:=@List.mem_append_left
def abC:=@List.mem_of_mem_take
def abD:=@Bool.or_eq_true
def abE:=@Option.getD_some
def abF:=@Array.getElem?_setIfInBounds_ne
def abG:=@List.length_range
def abH:=@Int.tdiv_eq_ediv_of_nonneg
def abI:=@List.take_of_length_le
def abJ:=@List.map_eq_nil_iff
def abK:=@if_false
def abL:=@Nat.add_assoc
def abM:=@if_true
def abN:=@Option.toList_some
def abO:=@List.mem_of_mem_drop
def abP:=@List.flatten_nil
def abQ:=@Array.length_toList
def abR:=@Nat.eq_zero_or_pos
def abS:=@Nat.add_mul
def abT:=@List.eq_nil_of_length_eq_zero
def abU:=@List.ext_getElem
def abV:=@List.contains_eq_mem
def abW:=@Nat.pow_le_pow_right
def abX:=@List.getElem?_replicate
def abY:=@Option.map_none
def abZ:=@Option.bind_some
def ab0:=@List.cons_append
def ab1:=@Nat.pow_succ
def ab2:=@Int.natCast_nonneg
def ab3:=@Nat.le_of_ble_eq_true
def ab4:=@List.mem_or_eq_of_mem_set
def ab5:=@List.drop_eq_getElem_cons
def ab6:=@Nat.mul_le_mul_right
def ab7:=@BitVec.ofInt_natCast
def ab8:=@not_true_eq_false
def ab9:=@Bool.eq_iff_iff
def aca:=@List.flatten_append
def acb:=@Nat.mod_eq_of_lt
def acd:=@List.take_append_of_le_length
def ace:=@List.drop_drop
def acf:=@List.take_zero
def acg:=@List.find?_eq_none
def ach:=@BitVec.toNat_ofNat
def aci:=@List.foldl_cons
def acj:=@Nat.mul_comm
def ack:=@List.take_append_drop
def acm:=@Array.getElem?_toList
def acn:=@List.append_inj
def aco:=@List.drop_left'
def acp:=@List.take_left'
def acq:=@List.size_toArray
def acr:=@List.getElem?_append
def acs:=@List.pairwise_iff_getElem
def acu:=@List.append_inj'
def acv:=@Int.toNat_of_nonneg
def acw:=@Nat.mul_one
def acx:=@List.toList_toArray
def acy:=@Nat.le_trans
def acz:=@List.eq_of_mem_replicate
def acA:=@Array.size_setIfInBounds
def acB:=@Int.natCast_mul
def acC:=@List.map_take
def acD:=@Nat.min_eq_left
def acE:=@List.map_replicate
def acF:=@List.mem_replicate
def acG:=@UInt8.toNat_ofNat'
def acH:=@Array.getElem?_eq_none
def acI:=@List.drop_eq_nil_of_le
def acJ:=@Int.emod_eq_of_lt
def acK:=@List.getElem?_set
def acL:=@Classical.not_not
def acM:=@List.take_left
def acN:=@Int.toNat_zero
def acO:=@List.drop_zero
def acP:=@Int.mul_le_mul_of_nonneg_right
def acQ:=@Nat.add_comm
def acR:=@List.mem_iff_getElem?
def acS:=@List.eq_nil_iff_forall_not_mem
def acT:=@Nat.zero_mul
def acU:=@Nat.le_of_eq
def acV:=@List.set_append_right
def acW:=@List.map_toArray
def acX:=@List.mem_flatten
def acY:=@Nat.shiftLeft_add_eq_or_of_lt
def acZ:=@Array.toArray_toList
def ac0:=@List.map_drop
def ac1:=@List.take_add
def ac2:=@Nat.one_ne_zero
def ac3:=@List.mem_map_of_mem
def ac4:=@Nat.le_zero
def ac5:=@List.replicate_succ
def ac6:=@BitVec.toNat_or
def ac7:=@Array.toList_setIfInBounds
def ac8:=@Nat.lt_of_lt_of_le
def ac9:=@Nat.mul_le_mul
def ada:=@beq_iff_eq
def adb:=@List.mapM_toArray
def ade:=@Array.toList_push
def adf:=@UInt8.toNat_ofNat_of_lt'
def adg:=@Iff.rfl
def adh:=@List.getElem_replicate
def adi:=@Nat.sub_self
def adj:=@Nat.sub_zero
def adk:=@List.find?_cons
def adl:=@Array.getElem?_modify
def adm:=@List.pairwise_append
def adn:=@List.replicate_succ'
def ado:=@List.mapM_cons
def adp:=@Array.toList_append
def adq:=@List.replicate_zero
def adr:=@Nat.one_mul
def ads:=@List.all_cons
def adt:=@Int.lt_irrefl
def adu:=@Nat.mod_lt
def adv:=@List.map_set
def adw:=@Nat.lt_trans
def adx:=@Nat.succ_mul
def ady:=@false_or
def adz:=@Nat.pow_add
end Go
namespace Go.Sx
open Go
theorem ah {p:Prop} (h:p:=by omega):p:=h
theorem aF {p:Prop} (h:p:=by simp):p:=h
theorem aB {p:Prop} (h:p:=by decide):p:=h
def pO {α β:Type} (f:Nat->α->β):Nat->List α->List β
 | _,[]=>[]
 | n,a::l=>f n a::pO f (n+1) l
theorem Bg {α β:Type} {f:Nat->α->β} : ∀ {l:List α} {n j:Nat},(pO f n l)[j]?=(l[j]?).map (f (n+j))
 | [],_,_=>rfl
 | a::l,n,0=>rfl
 | a::l,n,j+1=>by
  show(pO f (n+1) l)[j]?=(l[j]?).map (f (n+(j+1)));rw[Bg,show n+1+j=n+(j+1)by omega]
theorem oc {α β:Type} {f:Nat->α->β} {l:List α} {j:Nat} : (pO f 0 l)[j]?=(l[j]?).map (f j):=by
 rw[Bg,aaP]
@[simp] theorem CJ {α β:Type} {f:Nat->α->β} : ∀ {l:List α} {n:Nat},(pO f n l).length=l.length
 | [],_=>rfl
 | a::l,n=>by simp [pO,CJ (l:=l)]
def L3:List Nat->List Nat->Bool
 | [],[]=>true
 | a::l,b::m=>Nat.beq a b&&L3 l m
 | _,_=>false
abbrev Hl:=Nat->Option Obj
def Hl.cell (h:Hl) (x y:Nat):Option Value :=
 match h x with
 | some (.cells c _ _)=>c[y]?
 | _=>none
def Hl.sub (h:Hl) (w:World):Prop:=∀ (b:Nat) o,h b=some o->w.heap[b]?=some o
def Hl.mem (h:Hl) (b:Nat):Prop:=(h b).isSome=true
def Hl.bT (h k:Hl):Prop:=∀ b,¬(h.mem b/\k.mem b)
def Hl.one (b:Nat) (o:Obj):Hl:=fun c=>if c=b then some o else none
def Hl.none:Hl:=fun _=>Option.none
def Hl.all (w:World):Hl:=fun b=>w.heap[b]?
theorem Hl.aX (b:Nat) (o:Obj):Hl.one b o b=some o:=aax rfl
theorem Hl.oq {b c:Nat} {o p:Obj} (h:Hl.one b o c=some p):c=b/\p=o:=by
 unfold Hl.one at h;split at h
 .exact⟨‹_›,(aaZ h).symm⟩
 .cases h
theorem Hl.dn {b c:Nat} {o:Obj} : (Hl.one b o).mem c↔c=b:=by
 unfold Hl.mem Hl.one;split<;>simp [*]
theorem Hl.ie {h:Hl} {w:World} (hs:h.sub w) {x y:Nat} {v:Value} (hc:h.cell x y=some v):w.cell? ⟨x,y,Option.none⟩=some v:=by
 unfold Hl.cell at hc;split at hc
 .rename_i hb;simp [World.cell?,hs _ _ hb,hc]
 .cases hc
theorem Hl.Pj (w:World):(Hl.all w).sub w:=fun _ _ h=>h
theorem Hl.jt {h k:Hl} (d:h.bT k):k.bT h:=fun b ⟨x,y⟩=>d b ⟨y,x⟩
inductive Kd | int (k:IntKind) | bool | slice | ptr | str | map | any
 deriving DecidableEq
structure Env where
 i:Nat->Int
 b:Nat->Bool
 s:Nat->ByteArray
 v:Nat->Value
 h:Nat->Hl
inductive E where
 | lit (n:Int) | var (i:Nat)
 | add (a b:E) | sub (a b:E) | mul (a b:E) | quo (a b:E) | rem (a b:E)
 | wrap (k:IntKind) (a:E)
 | bits (op:BinOp) (k:IntKind) (a b:E)
 | shl (k:IntKind) (a b:E) | shr (k:IntKind) (a b:E)
 | tt | ff | bvar (i:Nat)
 | not (a:E) | and (a b:E) | or (a b:E)
 | ite (c a b:E)
 | lt (a b:E) | le (a b:E) | eq (a b:E) | beq (a b:E)
 | hI (h:Nat) (x y:E) (j:Nat) | hB (h:Nat) (x y:E) (j:Nat) | hP (h:Nat) (x y:E) (j which:Nat) | hS (h:Nat) (x y:E) (j:Nat) | his (h:Nat) (x y:E) (j:Nat) (k:Kd)
 | svar (i:Nat) | slit (s:ByteArray) | scat (a b:E) | sbyte (a:E) | sof (h:Nat) (x y l:E)
 | slen (a:E) | sat (a i:E) | sext (a i j:E) | seq (a b:E) | slt (a b:E)
 | hmlen (h:Nat) (x:E) | vint (v:Nat) | hby (h:Nat) (x y l:E) | hism (h:Nat) (x:E) | hks (h:Nat) (x y:E) (ks:List Kd)
 deriving DecidableEq
def cy (op:BinOp) (k:IntKind) (x y:Int):Int :=
 let a:=BitVec.ofInt k.bits x
 let b:=BitVec.ofInt k.bits y
 match op with
 | .and=>k.wrap (a &&&b).toNat
 | .or=>k.wrap (a |||b).toNat
 | .xor=>k.wrap (a ^^^ b).toNat
 | .andNot=>k.wrap (a &&&~~~b).toNat
 | _=>0
def V7:Nat×Nat->Nat×Nat
 | (0,b)=>(b+1,0)
 | (a+1,b)=>(a,b+1)
def Pd:Nat->Nat×Nat
 | 0=>(0,0)
 | n+1=>V7 (Pd n)
theorem Q5:∀ s b a:Nat,a+b=s->∃ n,Pd n=(a,b):=by
 intro s
 induction s with
 | zero=>intro b a h;exact⟨0,by rw[show a=0 by omega,show b=0 by omega];rfl⟩
 | succ s ih =>
  intro b
  induction b with
  | zero=>intro a h;obtain⟨n,hn⟩:=ih s 0 ah;exact⟨n+1,by rw[Pd,hn,show a=s+1 by omega];rfl⟩
  | succ b ihb=>intro a h;obtain⟨n,hn⟩:=ihb (a+1) ah;exact⟨n+1,by rw[Pd,hn];rfl⟩
def We:Nat->Nat
 | 0=>0
 | n+1=>We n+n+1
def Ry (a b:Nat):Nat:=We (a+b)+b
theorem Q6:∀ s b a:Nat,a+b=s->Pd (We s+b)=(a,b):=by
 intro s
 induction s with
 | zero=>intro b a h;rw[show a=0 by omega,show b=0 by omega];rfl
 | succ s ih =>
  intro b
  induction b with
  | zero=>intro a h;rw[show We (s+1)+0=(We s+s)+1 from rfl,Pd,ih s 0 ah,show a=s+1 by omega];rfl
  | succ b ihb=>intro a h;rw[<-abL,Pd,ihb (a+1) ah];rfl
theorem FO (a b:Nat):Pd (Ry a b)=(a,b):=Q6 _ b a rfl
def oV:Value->Int
 | .nilIface=>0
 | .iface _ _=>1
 | _=>2
theorem Ao {v:Value} (h:oV v<=1):v=.nilIface\/∃ t x,v=.iface t x:=by
 cases v<;>simp [oV]at h ⊢
def az (x y:Int):Option Addr:=if 0<=x then some ⟨x.toNat,y.toNat,none⟩else if x= -1 then none else some ⟨(-x-2).toNat,(Pd y.toNat).1,some (Pd y.toNat).2⟩
theorem av {x y:Int} (h:0<=x):az x y=some ⟨x.toNat,y.toNat,none⟩:=aax h
theorem fq (y:Int):az (-1) y=none:=rfl
theorem OQ {x y:Int} (h:x≠ -1):(az x y).isNone=false:=by unfold az;split<;>simp
theorem iv (x y:Int):(az x y).isNone=decide (x= -1):=by
 by_cases h:x= -1
 .subst h;rfl
 .rw[OQ h];simp [h]
theorem oC (a:Option Addr):∃ x y:Int,a=az x y/\0<=y/\ -1<=y:=by
 cases a with
 | none=>exact⟨-1,0,rfl,ah,ah⟩
 | some q =>
  obtain⟨b,o,s⟩:=q;cases s with
  | none=>exact⟨b,o,by simp [az],ah,ah⟩
  | some s =>
   obtain⟨n,hn⟩:=Q5 (o+s) s o rfl;refine⟨-(b:Int)-2,n,?_,ah,ah⟩;unfold az;rw[aal ah,aal ah,aaa,hn,show(-(-(b:Int)-2)-2).toNat=b by omega]
def ck:Option Value->Int | some (.int _ n)=>n | _=>0
def AJ:Option Value->Bool | some (.bool b)=>b | _=>false
def O1:Option Value->ByteArray | some (.string s)=>s | _=>.empty
def bm:Option Value->Nat->Int
 | some (.slice none _ _),0=> -1
 | some (.slice (some ⟨b,_,none⟩) _ _),0=>b
 | some (.slice (some ⟨b,_,some _⟩) _ _),0=> -(b:Int)-2
 | some (.slice (some ⟨_,o,none⟩) _ _),1=>o
 | some (.slice (some ⟨_,o,some s⟩) _ _),1=>Ry o s
 | some (.slice _ n _),2=>n
 | some (.slice _ _ c),3=>c
 | some (.pointer none),0=> -1
 | some (.pointer (some ⟨b,_,_⟩)),0=>b
 | some (.pointer (some ⟨_,o,_⟩)),1=>o
 | some (.map none),0=> -1
 | some (.map (some r)),0=>r
 | _,_=>0
def bD:Option Value->Kd->Bool
 | some (.int k _),.int k'=>k=k'
 | some (.bool _),.bool=>true
 | some (.string _),.str=>true
 | some (.slice _ _ _),.slice=>true
 | some (.pointer (some ⟨_,_,none⟩)),.ptr=>true
 | some (.pointer none),.ptr=>true
 | some (.map _),.map=>true
 | some _,.any=>true
 | _,_=>false
def bytesOf (ns:List Int):ByteArray:=ns.foldl (fun r n=>r.push (UInt8.ofNat n.toNat)) ByteArray.empty
def fg (h:Hl) (x y n:Nat):List Int:=(List.range n).map fun j=>ck (h.cell x (y+j))
def bx (h:Hl) (x y n:Nat):Bool:=(List.range n).all fun j=>bD (h.cell x (y+j)) (.int .u8)
def wB (h:Hl) (x:Nat):Nat->List Kd->Bool
 | _,[]=>true
 | y,k::l=>bD (h.cell x y) k&&wB h x (y+1) l
def isMap:Option Obj->Bool
 | some (.map _ _)=>true
 | _=>false
def GZ:Option Obj->Int
 | some (.map es _)=>es.size
 | _=>0
def ev (J:Env):E->Int×Bool×ByteArray
 | .lit n=>(n,false,.empty)
 | .var i=>(J.i i,false,.empty)
 | .add a b=>((ev J a).1+(ev J b).1,false,.empty)
 | .sub a b=>((ev J a).1-(ev J b).1,false,.empty)
 | .mul a b=>((ev J a).1*(ev J b).1,false,.empty)
 | .quo a b=>((ev J a).1.tdiv (ev J b).1,false,.empty)
 | .rem a b=>((ev J a).1.tmod (ev J b).1,false,.empty)
 | .wrap k a=>(k.wrap (ev J a).1,false,.empty)
 | .bits op k a b=>(cy op k (ev J a).1 (ev J b).1,false,.empty)
 | .shl k a b=>(k.wrap ((ev J a).1*2 ^ (min (ev J b).1.toNat k.bits)),false,.empty)
 | .shr k a b=>((ev J a).1.fdiv (2 ^ (min (ev J b).1.toNat k.bits)),false,.empty)
 | .tt=>(0,true,.empty)
 | .ff=>(0,false,.empty)
 | .bvar i=>(0,J.b i,.empty)
 | .not a=>(0,!(ev J a).2.1,.empty)
 | .and a b=>(0,(ev J a).2.1&&(ev J b).2.1,.empty)
 | .or a b=>(0,(ev J a).2.1||(ev J b).2.1,.empty)
 | .ite c a b=>(if(ev J c).2.1 then(ev J a).1 else(ev J b).1,if(ev J c).2.1 then(ev J a).2.1 else(ev J b).2.1,if(ev J c).2.1 then(ev J a).2.2 else(ev J b).2.2)
 | .lt a b=>(0,decide ((ev J a).1<(ev J b).1),.empty)
 | .le a b=>(0,decide ((ev J a).1<=(ev J b).1),.empty)
 | .eq a b=>(0,decide ((ev J a).1=(ev J b).1),.empty)
 | .beq a b=>(0,(ev J a).2.1==(ev J b).2.1,.empty)
 | .hI h x y j=>(ck ((J.h h).cell (ev J x).1.toNat ((ev J y).1.toNat+j)),false,.empty)
 | .hB h x y j=>(0,AJ ((J.h h).cell (ev J x).1.toNat ((ev J y).1.toNat+j)),.empty)
 | .hP h x y j k=>(bm ((J.h h).cell (ev J x).1.toNat ((ev J y).1.toNat+j)) k,false,.empty)
 | .hS h x y j=>(0,false,O1 ((J.h h).cell (ev J x).1.toNat ((ev J y).1.toNat+j)))
 | .his h x y j k=>(0,bD ((J.h h).cell (ev J x).1.toNat ((ev J y).1.toNat+j)) k,.empty)
 | .svar i=>(0,false,J.s i)
 | .slit s=>(0,false,s)
 | .scat a b=>(0,false,(ev J a).2.2++(ev J b).2.2)
 | .sbyte a=>(0,false,bytesOf [(ev J a).1])
 | .sof h x y l=>(0,false,bytesOf (fg (J.h h) (ev J x).1.toNat (ev J y).1.toNat (ev J l).1.toNat))
 | .slen a=>((ev J a).2.2.size,false,.empty)
 | .sat a i=>(((ev J a).2.2.data[(ev J i).1.toNat]?.getD 0).toNat,false,.empty)
 | .sext a i j=>(0,false,(ev J a).2.2.extract (ev J i).1.toNat (ev J j).1.toNat)
 | .seq a b=>(0,decide ((ev J a).2.2=(ev J b).2.2),.empty)
 | .slt a b=>(0,decide ((ev J a).2.2.data.toList<(ev J b).2.2.data.toList),.empty)
 | .hmlen h x=>(GZ (J.h h (ev J x).1.toNat),false,.empty)
 | .vint v=>(oV (J.v v),false,.empty)
 | .hism h x=>(0,isMap (J.h h (ev J x).1.toNat),.empty)
 | .hks h x y ks=>(0,wB (J.h h) (ev J x).1.toNat (ev J y).1.toNat ks,.empty)
 | .hby h x y l=>(0,bx (J.h h) (ev J x).1.toNat (ev J y).1.toNat (ev J l).1.toNat,.empty)
def aA (J:Env) (e:E):Int:=(ev J e).1
def bd (J:Env) (e:E):Bool:=(ev J e).2.1
def jP (J:Env) (e:E):ByteArray:=(ev J e).2.2
section
variable (J:Env) (a b c x y l:E)
theorem aq (n:Int):aA J (.lit n)=n:=rfl
theorem al (i:Nat):aA J (.var i)=J.i i:=rfl
theorem bL:aA J (.add a b)=aA J a+aA J b:=rfl
theorem dm:aA J (.sub a b)=aA J a-aA J b:=rfl
theorem cJ:aA J (.mul a b)=aA J a*aA J b:=rfl
theorem I3:aA J (.quo a b)=(aA J a).tdiv (aA J b):=rfl
theorem CE:aA J (.rem a b)=(aA J a).tmod (aA J b):=rfl
theorem bP (k:IntKind):aA J (.wrap k a)=k.wrap (aA J a):=rfl
theorem tp (op:BinOp) (k:IntKind):aA J (.bits op k a b)=cy op k (aA J a) (aA J b):=rfl
theorem PW (k:IntKind):aA J (.shl k a b)=k.wrap (aA J a*2 ^ (min (aA J b).toNat k.bits)):=rfl
theorem PX (k:IntKind):aA J (.shr k a b)=(aA J a).fdiv (2 ^ (min (aA J b).toNat k.bits)):=rfl
theorem dj:aA J (.ite c a b)=if bd J c then aA J a else aA J b:=rfl
theorem fw (h j:Nat):aA J (.hI h x y j)=ck ((J.h h).cell (aA J x).toNat ((aA J y).toNat+j)):=rfl
theorem fE (h j k:Nat):aA J (.hP h x y j k)=bm ((J.h h).cell (aA J x).toNat ((aA J y).toNat+j)) k:=rfl
theorem Nc:aA J (.slen a)=(jP J a).size:=rfl
theorem gk (h:Nat):aA J (.hmlen h x)=GZ (J.h h (aA J x).toNat):=rfl
theorem tq (v:Nat):aA J (.vint v)=oV (J.v v):=rfl
theorem cE:bd J .tt=true:=rfl
theorem c8:bd J .ff=false:=rfl
theorem bq (i:Nat):bd J (.bvar i)=J.b i:=rfl
theorem Cf:bd J (.not a)=!bd J a:=rfl
theorem qu:bd J (.and a b)=(bd J a&&bd J b):=rfl
theorem xU:bd J (.or a b)=(bd J a||bd J b):=rfl
theorem Pr:bd J (.ite c a b)=if bd J c then bd J a else bd J b:=rfl
theorem uw:bd J (.lt a b)=decide (aA J a<aA J b):=rfl
theorem kC:bd J (.le a b)=decide (aA J a<=aA J b):=rfl
theorem rW:bd J (.eq a b)=decide (aA J a=aA J b):=rfl
theorem Pq:bd J (.beq a b)=(bd J a==bd J b):=rfl
theorem R8 (h j:Nat):bd J (.hB h x y j)=AJ ((J.h h).cell (aA J x).toNat ((aA J y).toNat+j)):=rfl
theorem xf (h j:Nat) (k:Kd):bd J (.his h x y j k)=bD ((J.h h).cell (aA J x).toNat ((aA J y).toNat+j)) k:=rfl
theorem Ce (h:Nat):bd J (.hby h x y l)=bx (J.h h) (aA J x).toNat (aA J y).toNat (aA J l).toNat:=rfl
theorem Mj (h:Nat):bd J (.hism h x)=isMap (J.h h (aA J x).toNat):=rfl
theorem Ps:bd J (.seq a b)=decide (jP J a=jP J b):=rfl
theorem gf (i:Nat):jP J (.svar i)=J.s i:=rfl
theorem gM (s:ByteArray):jP J (.slit s)=s:=rfl
theorem LJ:jP J (.sbyte a)=bytesOf [aA J a]:=rfl
theorem iX (h:Nat):jP J (.sof h x y l)=bytesOf (fg (J.h h) (aA J x).toNat (aA J y).toNat (aA J l).toNat):=rfl
theorem OM:jP J (.sext a x y)=(jP J a).extract (aA J x).toNat (aA J y).toNat:=rfl
theorem T5 (h j:Nat):jP J (.hS h x y j)=O1 ((J.h h).cell (aA J x).toNat ((aA J y).toNat+j)):=rfl
theorem jr:jP J (.ite c a b)=if bd J c then jP J a else jP J b:=rfl
end
section
variable (J:Env) (a b c x y l:E)
theorem vA:(bd J .tt=true)=True:=by simp [cE]
theorem vu:(bd J .ff=true)=False:=by simp [c8]
theorem lQ (i:Nat):(bd J (.bvar i)=true)=(J.b i=true):=rfl
theorem mv:(bd J (.not a)=true)=¬(bd J a=true):=by simp [Cf]
theorem jK:(bd J (.and a b)=true)=(bd J a=true/\bd J b=true):=by simp [qu]
theorem vw:(bd J (.or a b)=true)=(bd J a=true\/bd J b=true):=by simp [xU]
theorem pq:(bd J (.ite c a b)=true)=if bd J c=true then bd J a=true else bd J b=true:=by rw[Pr];split<;>rfl
theorem oL:(bd J (.lt a b)=true)=(aA J a<aA J b):=by simp [uw]
theorem rp:(bd J (.le a b)=true)=(aA J a<=aA J b):=by simp [kC]
theorem gF:(bd J (.eq a b)=true)=(aA J a=aA J b):=by simp [rW]
theorem pg:(bd J (.beq a b)=true)=((bd J a=true)=(bd J b=true)):=by rw[Pq];cases bd J a<;>cases bd J b<;>simp
theorem pt:(bd J (.seq a b)=true)=(jP J a=jP J b):=by simp [Ps]
theorem vv (h j:Nat):(bd J (.hB h x y j)=true)=(AJ ((J.h h).cell (aA J x).toNat ((aA J y).toNat+j))=true):=rfl
theorem pn (h j:Nat) (k:Kd):(bd J (.his h x y j k)=true)=(bD ((J.h h).cell (aA J x).toNat ((aA J y).toNat+j)) k=true):=rfl
theorem po (h:Nat) (ks:List Kd):(bd J (.hks h x y ks)=true)=(wB (J.h h) (aA J x).toNat (aA J y).toNat ks=true):=rfl
theorem pj (h:Nat):(bd J (.hby h x y l)=true)=(bx (J.h h) (aA J x).toNat (aA J y).toNat (aA J l).toNat=true):=rfl
theorem lS (h:Nat):(bd J (.hism h x)=true)=(isMap (J.h h (aA J x).toNat)=true):=rfl
end
def mkNot:E->E
 | .tt=>.ff
 | .ff=>.tt
 | .not a=>a
 | a=>.not a
theorem c9 (J:Env) (a:E):bd J (mkNot a)=!bd J a:=by
 unfold mkNot;split<;>simp [cE,c8,Cf]
def mkAnd (a b:E):E :=
 match a,b with
 | .tt,b=>b
 | .ff,_=>.ff
 | a,.tt=>a
 | _,.ff=>.ff
 | a,b=>if a=b then a else .and a b
theorem aP (J:Env) (a b:E):bd J (mkAnd a b)=(bd J a&&bd J b):=by
 unfold mkAnd;split<;>try simp [cE,c8,qu]
 split
 .rename_i h;rw[h];simp
 .rfl
def mkOr (a b:E):E :=
 match a,b with
 | .tt,_=>.tt
 | .ff,b=>b
 | _,.tt=>.tt
 | a,.ff=>a
 | a,b=>if b=mkNot a then .tt else .or a b
theorem sM (J:Env) (a b:E):bd J (mkOr a b)=(bd J a||bd J b):=by
 unfold mkOr;split<;>try simp [cE,c8,xU]
 split
 .rename_i h;rw[h,c9,cE];cases bd J a<;>rfl
 .rfl
def He (c a b:E):E :=
 match c,a,b with
 | .tt,a,_=>a
 | .ff,_,b=>b
 | c,.tt,.ff=>c
 | c,.tt,b=>mkOr c b
 | c,.ff,b=>mkAnd (mkNot c) b
 | c,a,.ff=>mkAnd c a
 | c,a,.tt=>mkOr (mkNot c) a
 | c,a,b=>if a=b then a else .ite c a b
theorem Gf (J:Env) (c a b:E):bd J (He c a b)=if bd J c then bd J a else bd J b:=by
 unfold He;split<;>try simp only[cE,c8,sM,aP,c9,abM,abK,aa2]
 case h_8 =>
  split
  .rename_i h;subst h;simp
  .rfl
 all_goals (split<;>simp_all)
def mkIte (c a b:E):E :=
 match c with
 | .tt=>a
 | .ff=>b
 | c=>if a=b then a else .ite c a b
theorem iB (J:Env) (c a b:E):aA J (mkIte c a b)=if bd J c then aA J a else aA J b:=by
 unfold mkIte;split
 .simp [cE]
 .simp [c8]
 .split
  .rename_i h;subst h;simp
  .rfl
def mkAdd:E->E->E
 | .lit a,.lit b=>.lit (a+b)
 | .lit a,b=>if a=0 then b else .add (.lit a) b
 | .add a (.lit b),.lit c=>.add a (.lit (b+c))
 | a,.lit b=>if b=0 then a else .add a (.lit b)
 | a,b=>.add a b
theorem fc (J:Env) (a b:E):aA J (mkAdd a b)=aA J a+aA J b:=by
 unfold mkAdd;split<;>try rfl
 .split
  .rename_i h;subst h;simp [aq]
  .rfl
 .simp only[bL,aq];omega
 .split
  .rename_i h;subst h;simp [aq]
  .rfl
def mkSub:E->E->E
 | .lit a,.lit b=>.lit (a-b)
 | a,.lit b=>if b=0 then a else .sub a (.lit b)
 | a,b=>if a=b then .lit 0 else .sub a b
theorem m8 (J:Env) (a b:E):aA J (mkSub a b)=aA J a-aA J b:=by
 unfold mkSub;split<;>try rfl
 .split
  .rename_i h;subst h;simp [aq]
  .rfl
 .split
  .rename_i h;subst h;simp [aq]
  .rfl
def mkMul:E->E->E
 | .lit a,.lit b=>.lit (a*b)
 | .lit a,b=>if a=1 then b else .mul (.lit a) b
 | a,.lit b=>if b=1 then a else .mul a (.lit b)
 | a,b=>.mul a b
theorem m7 (J:Env) (a b:E):aA J (mkMul a b)=aA J a*aA J b:=by
 unfold mkMul;split<;>try rfl
 .split
  .rename_i h;subst h;simp [aq]
  .rfl
 .split
  .rename_i h;subst h;simp [aq]
  .rfl
def mkWrap (k:IntKind):E->E
 | .lit a=>.lit (k.wrap a)
 | a=>.wrap k a
theorem nS (J:Env) (k:IntKind) (a:E):aA J (mkWrap k a)=k.wrap (aA J a):=by
 unfold mkWrap;split<;>rfl
def mkLt:E->E->E
 | .lit a,.lit b=>if a<b then .tt else .ff
 | a,b=>.lt a b
theorem iO (J:Env) (a b:E):bd J (mkLt a b)=decide (aA J a<aA J b):=by
 unfold mkLt;split
 .split<;>rename_i h<;>simp [cE,c8,aq,h]<;>omega
 .rfl
def mkLe:E->E->E
 | .lit a,.lit b=>if a<=b then .tt else .ff
 | a,b=>if a=b then .tt else .le a b
theorem aZ (J:Env) (a b:E):bd J (mkLe a b)=decide (aA J a<=aA J b):=by
 unfold mkLe;split
 .split<;>rename_i h<;>simp [cE,c8,aq,h]<;>omega
 .split
  .rename_i h;subst h;simp [cE]
  .rfl
def mkEq:E->E->E
 | .lit a,.lit b=>if a=b then .tt else .ff
 | a,b=>if a=b then .tt else .eq a b
theorem fO (J:Env) (a b:E):bd J (mkEq a b)=decide (aA J a=aA J b):=by
 unfold mkEq;split
 .split<;>rename_i h<;>simp [cE,c8,aq,h]
 .split
  .rename_i h;subst h;simp [cE]
  .rfl
def NC:E->E->E
 | .tt,b=>b
 | .ff,b=>mkNot b
 | a,.tt=>a
 | a,.ff=>mkNot a
 | a,b=>if a=b then .tt else .beq a b
theorem Kj (J:Env) (a b:E):bd J (NC a b)=(bd J a==bd J b):=by
 unfold NC;split<;>try simp only[cE,c8,c9]
 .simp
 .cases bd J b<;>rfl
 .simp
 .cases bd J a<;>rfl
 .split
  .rename_i h;subst h;simp [cE]
  .rfl
def mkSeq:E->E->E
 | .slit a,.slit b=>if a=b then .tt else .ff
 | a,b=>if a=b then .tt else .seq a b
theorem ux (J:Env) (a b:E):bd J (mkSeq a b)=decide (jP J a=jP J b):=by
 unfold mkSeq;split
 .split<;>rename_i h<;>simp [cE,c8,gM,h]
 .split
  .rename_i h;subst h;simp [cE]
  .rfl
def Jh:E->E->E
 | .slit a,.slit b=>.slit (a++b)
 | a,b=>.scat a b
theorem BK (J:Env) (a b:E):jP J (Jh a b)=jP J a++jP J b:=by
 unfold Jh;split<;>rfl
def wa:E->E
 | .slit a=>.lit a.size
 | a=>.slen a
theorem ko (J:Env) (a:E):aA J (wa a)=(jP J a).size:=by
 unfold wa;split<;>rfl
def NG:E->E->E
 | .slit a,.lit i=>.lit (a.data[i.toNat]?.getD 0).toNat
 | a,i=>.sat a i
theorem KI (J:Env) (a i:E):aA J (NG a i)=((jP J a).data[(aA J i).toNat]?.getD 0).toNat:=by
 unfold NG;split<;>rfl
def Path (J:Env) (path:List E):Prop:=∀ e∈path,bd J e=true
def Ha:Option Int->Option Int->Option Int
 | some a,some b=>some (max a b)
 | some a,none=>some a
 | none,b=>b
def K0:Option Int->Option Int->Option Int
 | some a,some b=>some (min a b)
 | some a,none=>some a
 | none,b=>b
def WJ (e:E):E->Option Int
 | .le (.lit n) x=>if x=e then some n else none
 | .lt (.lit n) x=>if x=e then some (n+1)else none
 | .eq x (.lit n)=>if x=e then some n else none
 | .not (.lt x (.lit n))=>if x=e then some n else none
 | .not (.le x (.lit n))=>if x=e then some (n+1)else none
 | _=>none
def W5 (e:E):E->Option Int
 | .le x (.lit n)=>if x=e then some n else none
 | .lt x (.lit n)=>if x=e then some (n-1)else none
 | .eq x (.lit n)=>if x=e then some n else none
 | .not (.lt (.lit n) x)=>if x=e then some n else none
 | .not (.le (.lit n) x)=>if x=e then some (n-1)else none
 | _=>none
def Vq (path:List E) (e:E):Option Int:=path.foldl (fun a f=>Ha a (WJ e f)) none
def W6 (path:List E) (e:E):Option Int:=path.foldl (fun a f=>K0 a (W5 e f)) none
def lb (path:List E):E->Option Int
 | .lit n=>some n
 | .add a b=>Ha (Vq path (.add a b)) (match lb path a,lb path b with | some x,some y=>some (x+y) | _,_=>none)
 | .mul a (.lit k)=>Ha (Vq path (.mul a (.lit k))) (match lb path a with | some x=>if 0<=k then some (x*k)else none | none=>none)
 | .slen a=>Ha (Vq path (.slen a)) (some 0)
 | e=>Vq path e
def ub (path:List E):E->Option Int
 | .lit n=>some n
 | .add a b=>K0 (W6 path (.add a b)) (match ub path a,ub path b with | some x,some y=>some (x+y) | _,_=>none)
 | .mul a (.lit k)=>K0 (W6 path (.mul a (.lit k))) (match ub path a with | some x=>if 0<=k then some (x*k)else none | none=>none)
 | e=>W6 path e
def Um:Option Int->Option Int->Bool
 | some a,some b=>decide (a<=b)
 | _,_=>false
def Un:Option Int->Option Int->Bool
 | some a,some b=>decide (a<b)
 | _,_=>false
def mA (path:List E) (e:E):Option Bool :=
 if path.contains e then some true else if path.contains (mkNot e)then some false else match e with
 | .le a b=>if Um (ub path a) (lb path b)then some true else if Un (ub path b) (lb path a)then some false else none
 | .lt a b=>if Un (ub path a) (lb path b)then some true else if Um (ub path b) (lb path a)then some false else none
 | .eq a b=>if Un (ub path a) (lb path b)||Un (ub path b) (lb path a)then some false else if Um (ub path a) (lb path b)&&Um (ub path b) (lb path a)then some true else none
 | _=>none
def known (path:List E) (e:E):Option Bool :=
 match e with
 | .tt=>some true
 | .ff=>some false
 | .not e=>(mA path e).map not
 | .and a b=>match mA path a,mA path b with
  | some true,some true=>some true
  | some false,_=>some false
  | _,some false=>some false
  | _,_=>mA path (.and a b)
 | .or a b=>match mA path a,mA path b with
  | some false,some false=>some false
  | some true,_=>some true
  | _,some true=>some true
  | _,_=>mA path (.or a b)
 | e=>mA path e
section
variable {J:Env} {path:List E}
theorem KP {e f:E} {n:Int} (hf:bd J f=true) (h:WJ e f=some n):n<=aA J e:=by
 unfold WJ at h;split at h<;>first | (cases h;done) | skip
 all_goals (split at h<;>first | (cases h;done) | skip)
 all_goals (cases h;rename_i he;subst he;simp only[rp,oL,gF,mv,aq]at hf;omega)
theorem LR {e f:E} {n:Int} (hf:bd J f=true) (h:W5 e f=some n):aA J e<=n:=by
 unfold W5 at h;split at h<;>first | (cases h;done) | skip
 all_goals (split at h<;>first | (cases h;done) | skip)
 all_goals (cases h;rename_i he;subst he;simp only[rp,oL,gF,mv,aq]at hf;omega)
theorem xt {a b:Option Int} {x:Int} (ha:∀ n,a=some n->n<=x) (hb:∀ n,b=some n->n<=x):∀ n,Ha a b=some n->n<=x:=by
 intro n h;unfold Ha at h;split at h
 .cases h;have h1:=ha _ rfl;have h2:=hb _ rfl;omega
 .cases h;exact ha _ rfl
 .exact hb _ h
theorem CK {a b:Option Int} {x:Int} (ha:∀ n,a=some n->x<=n) (hb:∀ n,b=some n->x<=n):∀ n,K0 a b=some n->x<=n:=by
 intro n h;unfold K0 at h;split at h
 .cases h;have h1:=ha _ rfl;have h2:=hb _ rfl;omega
 .cases h;exact ha _ rfl
 .exact hb _ h
theorem qB (hp:Path J path) {e:E} : ∀ n,Vq path e=some n->n<=aA J e:=by
 have key:∀ (l:List E) (a:Option Int),(∀ f∈l,bd J f=true)->(∀ n,a=some n->n<=aA J e)->∀ n,l.foldl (fun a f=>Ha a (WJ e f)) a=some n->n<=aA J e:=by
  intro l
  induction l with
  | nil=>intro a _ ha n h;exact ha n h
  | cons f l ih =>
   intro a hl ha n h;exact ih _ (fun g hg=>hl g (aar _ hg)) (xt ha fun m hm=>KP (hl f (aaH ..)) hm) n h
 exact key path none hp (fun n h=>by cases h)
theorem vk (hp:Path J path) {e:E} : ∀ n,W6 path e=some n->aA J e<=n:=by
 have key:∀ (l:List E) (a:Option Int),(∀ f∈l,bd J f=true)->(∀ n,a=some n->aA J e<=n)->∀ n,l.foldl (fun a f=>K0 a (W5 e f)) a=some n->aA J e<=n:=by
  intro l
  induction l with
  | nil=>intro a _ ha n h;exact ha n h
  | cons f l ih =>
   intro a hl ha n h;exact ih _ (fun g hg=>hl g (aar _ hg)) (CK ha fun m hm=>LR (hl f (aaH ..)) hm) n h
 exact key path none hp (fun n h=>by cases h)
theorem jx (hp:Path J path):∀ (e:E) n,lb path e=some n->n<=aA J e:=by
 intro e
 fun_induction lb path e with
 | case1 m=>intro n h;cases h;rw[aq];omega
 | case2 a b iha ihb =>
  refine xt (qB hp) fun n h=>?_;split at h
  .rename_i x y hx hy;cases h;have h1:=iha _ hx;have h2:=ihb _ hy;rw[bL];omega
  .cases h
 | case3 a k iha =>
  refine xt (qB hp) fun n h=>?_;split at h
  .rename_i x hx;split at h
   .cases h;have h1:=iha _ hx;rw[cJ,aq];exact acP h1 ‹_›
   .cases h
  .cases h
 | case4 a =>
  refine xt (qB hp) fun n h=>?_;cases h;rw[Nc];omega
 | case5 e=>exact qB hp
theorem jH (hp:Path J path):∀ (e:E) n,ub path e=some n->aA J e<=n:=by
 intro e
 fun_induction ub path e with
 | case1 m=>intro n h;cases h;rw[aq];omega
 | case2 a b iha ihb =>
  refine CK (vk hp) fun n h=>?_;split at h
  .rename_i x y hx hy;cases h;have h1:=iha _ hx;have h2:=ihb _ hy;rw[bL];omega
  .cases h
 | case3 a k iha =>
  refine CK (vk hp) fun n h=>?_;split at h
  .rename_i x hx;split at h
   .cases h;have h1:=iha _ hx;rw[cJ,aq];exact acP h1 ‹_›
   .cases h
  .cases h
 | case4 e=>exact vk hp
theorem qC {a b:Option Int} {x y:Int} (h:Um a b=true) (ha:∀ n,a=some n->x<=n) (hb:∀ n,b=some n->n<=y):x<=y:=by
 unfold Um at h;split at h
 .have h1:=ha _ rfl;have h2:=hb _ rfl;simp only[aag]at h;omega
 .cases h
theorem qD {a b:Option Int} {x y:Int} (h:Un a b=true) (ha:∀ n,a=some n->x<=n) (hb:∀ n,b=some n->n<=y):x<y:=by
 unfold Un at h;split at h
 .have h1:=ha _ rfl;have h2:=hb _ rfl;simp only[aag]at h;omega
 .cases h
theorem cw (hp:Path J path) {e:E} {t:Bool} (h:mA path e=some t):bd J e=t:=by
 unfold mA at h;split at h
 .rename_i hc;cases h;exact hp e (by simpa using hc)
 .split at h
  .rename_i hc;cases h;have:=hp _ (abw.1 hc);rw[c9]at this;simpa using this
  .split at h
   .rename_i a b _ _;split at h
    .rename_i hc;cases h;have:=qC hc (jH hp a) (jx hp b);rw[kC];simpa using this
    .split at h
     .rename_i hc;cases h;have:=qD hc (jH hp b) (jx hp a);rw[kC];simp;omega
     .cases h
   .rename_i a b _ _;split at h
    .rename_i hc;cases h;have:=qD hc (jH hp a) (jx hp b);rw[uw];simpa using this
    .split at h
     .rename_i hc;cases h;have:=qC hc (jH hp b) (jx hp a);rw[uw];simp;omega
     .cases h
   .rename_i a b _ _;split at h
    .rename_i hc;cases h;rw[abD]at hc;rw[rW];rcases hc with hc | hc
     .have:=qD hc (jH hp a) (jx hp b);simp;omega
     .have:=qD hc (jH hp b) (jx hp a);simp;omega
    .split at h
     .rename_i hc;cases h;rw[aah]at hc;have h1:=qC hc.1 (jH hp a) (jx hp b);have h2:=qC hc.2 (jH hp b) (jx hp a);rw[rW];simp;omega
     .cases h
   .cases h
theorem fz (hp:Path J path) {e:E} {t:Bool} (h:known path e=some t):bd J e=t:=by
 unfold known at h;split at h
 .cases h;rfl
 .cases h;rfl
 .simp only[aak]at h;obtain⟨b,hb,rfl⟩:=h;rw[Cf,cw hp hb]
 .split at h
  .rename_i h1 h2;cases h;rw[qu,cw hp h1,cw hp h2];rfl
  .rename_i h1;cases h;rw[qu,cw hp h1];rfl
  .rename_i h1 _;cases h;rw[qu,cw hp h1];simp
  .exact cw hp h
 .split at h
  .rename_i h1 h2;cases h;rw[xU,cw hp h1,cw hp h2];rfl
  .rename_i h1;cases h;rw[xU,cw hp h1];rfl
  .rename_i h1 _;cases h;rw[xU,cw hp h1];simp
  .exact cw hp h
 .exact cw hp h
end
inductive CV where
 | int (k:IntKind) (e:E) | bool (e:E) | str (e:E)
 | pti (a o s n:Nat) (i:E)
 | hptr (x y:E) | sl (x y l c:E) | map (x:E)
 | vr (j:Nat) | hv (h:Nat) (x y:E) (j:Nat)
 | val (v:Value)
 | clo (f:Nat) (x:E)
inductive SV where | one (c:CV) | agg (l:List CV)
inductive TV where | sv (s:SV) | tup (l:List SV)
def CV.ev (J:Env):CV->Value
 | .int k e=>.int k (aA J e)
 | .bool e=>.bool (bd J e)
 | .str e=>.string (jP J e)
 | .pti a o s _ i=>.pointer (az (J.i a) ((o:Int)+(s:Int)*aA J i))
 | .hptr x y=>.pointer (az (aA J x) (aA J y))
 | .sl x y l c=>.slice (az (aA J x) (aA J y)) (aA J l).toNat (aA J c).toNat
 | .map x=>.map (if aA J x= -1 then none else some (aA J x).toNat)
 | .vr j=>J.v j
 | .hv h x y j=>((J.h h).cell (aA J x).toNat ((aA J y).toNat+j)).getD (.bool false)
 | .val v=>v
 | .clo f x=>.func (.func f) #[] #[.pointer (az (aA J x) 0)]
def SV.ev (J:Env):SV->Value
 | .one c=>c.ev J
 | .agg l=>.agg (l.map (CV.ev J)).toArray
def TV.ev (J:Env):TV->Value
 | .sv s=>s.ev J
 | .tup l=>.tuple (l.map (SV.ev J)).toArray
def gV:Value->CV
 | .int k n=>.int k (.lit n)
 | .bool true=>.bool .tt
 | .bool false=>.bool .ff
 | .string s=>.str (.slit s)
 | .slice none n c=>.sl (.lit (-1)) (.lit 0) (.lit n) (.lit c)
 | .pointer none=>.hptr (.lit (-1)) (.lit 0)
 | .map none=>.map (.lit (-1))
 | v=>.val v
theorem EE (J:Env) (v:Value):(gV v).ev J=v:=by
 unfold gV;split<;>rfl
def lift:Value->TV
 | .agg cs=>.sv (.agg (cs.toList.map gV))
 | v=>.sv (.one (gV v))
theorem iE (J:Env) (l:List Value):(l.map gV).map (CV.ev J)=l:=by
 induction l with
 | nil=>rfl
 | cons v l ih=>simp only[aaC,EE,ih]
theorem Jc (J:Env) (v:Value):(lift v).ev J=v:=by
 unfold lift;split
 .simp only[TV.ev,SV.ev,iE]
 .exact EE J v
def Fu:Value->Value->Bool
 | .nilFunc,.nilFunc=>true
 | .nilIface,.nilIface=>true
 | .func (.func f) a b,.func (.func g) c d=>f==g&&a.isEmpty&&b.isEmpty&&c.isEmpty&&d.isEmpty
 | _,_=>false
theorem zX {a b:Value} (h:Fu a b=true):a=b:=by
 unfold Fu at h;split at h<;>simp_all
def qE (c:E):CV->CV->Option CV
 | .int k e,.int k' e'=>if k=k' then some (.int k (mkIte c e e'))else none
 | .bool e,.bool e'=>some (.bool (He c e e'))
 | .hptr x y,.hptr x' y'=>some (.hptr (mkIte c x x') (mkIte c y y'))
 | .sl x y l k,.sl x' y' l' k'=>some (.sl (mkIte c x x') (mkIte c y y') (mkIte c l l') (mkIte c k k'))
 | .map x,.map x'=>some (.map (mkIte c x x'))
 | .vr j,.vr k=>if j=k then some (.vr j)else none
 | .val v,.val v'=>if Fu v v' then some (.val v)else none
 | _,_=>none
theorem od {J:Env} {c:E} {a b v:CV} (h:qE c a b=some v):v.ev J=if bd J c then a.ev J else b.ev J:=by
 unfold qE at h;split at h
 .split at h
  .rename_i hk;subst hk;cases h;simp only[CV.ev,iB];split<;>rfl
  .cases h
 .cases h;simp only[CV.ev,Gf];split<;>rfl
 .cases h;simp only[CV.ev,iB];split<;>rfl
 .cases h;simp only[CV.ev,iB];split<;>rfl
 .cases h;simp only[CV.ev,iB];split<;>rfl
 .split at h
  .rename_i hk;subst hk;cases h;simp
  .cases h
 .split at h
  .rename_i hv;cases h;simp [CV.ev,zX hv]
  .cases h
 .cases h
def uI (c:E):List CV->List CV->Option (List CV)
 | [],[]=>some []
 | a::l,b::m=>match qE c a b,uI c l m with
  | some v,some r=>some (v::r)
  | _,_=>none
 | _,_=>none
theorem Bh {J:Env} {c:E} : ∀ {l m r:List CV},uI c l m=some r->r.map (CV.ev J)=if bd J c then l.map (CV.ev J)else m.map (CV.ev J)
 | [],[],r,h=>by cases h;simp
 | a::l,b::m,r,h=>by
  unfold uI at h;split at h
  .rename_i v r' h1 h2;cases h;have e1:=od (J:=J) h1;have e2:=Bh (J:=J) h2;simp only[aaC,e1,e2];split<;>rfl
  .cases h
 | [],_::_,_,h=>by simp [uI]at h
 | _::_,[],_,h=>by simp [uI]at h
def xw (c:E):SV->SV->Option SV
 | .one a,.one b=>(qE c a b).map .one
 | .agg l,.agg m=>(uI c l m).map .agg
 | _,_=>none
theorem zd {J:Env} {c:E} {a b v:SV} (h:xw c a b=some v):v.ev J=if bd J c then a.ev J else b.ev J:=by
 unfold xw at h;split at h
 .simp only[aak]at h;obtain⟨x,hx,rfl⟩:=h;exact od hx
 .simp only[aak]at h;obtain⟨x,hx,rfl⟩:=h;simp only[SV.ev,Bh hx];split<;>rfl
 .cases h
def E.aL (n:Nat):E->Bool
 | .lit _ | .tt | .ff | .slit _=>true
 | .var i | .bvar i | .svar i | .vint i=>decide (i<n)
 | .add a b | .sub a b | .mul a b | .quo a b | .rem a b | .bits _ _ a b | .shl _ a b | .shr _ a b | .and a b | .or a b | .lt a b | .le a b | .eq a b | .beq a b | .scat a b | .sat a b | .seq a b | .slt a b=>a.aL n&&b.aL n
 | .wrap _ a | .not a | .sbyte a | .slen a=>a.aL n
 | .ite c a b | .sext c a b=>c.aL n&&a.aL n&&b.aL n
 | .hks h x y _ | .hI h x y _ | .hB h x y _ | .hP h x y _ _ | .his h x y _ _ | .hS h x y _=>decide (h<n)&&x.aL n&&y.aL n
 | .sof h x y l | .hby h x y l=>decide (h<n)&&x.aL n&&y.aL n&&l.aL n
 | .hmlen h x | .hism h x=>decide (h<n)&&x.aL n
structure ai (n:Nat) (J J':Env):Prop where
 i:∀ k,(_:k<n:=by omega)->J'.i k=J.i k
 b:∀ k,(_:k<n:=by omega)->J'.b k=J.b k
 s:∀ k,(_:k<n:=by omega)->J'.s k=J.s k
 v:∀ k,(_:k<n:=by omega)->J'.v k=J.v k
 h:∀ k,(_:k<n:=by omega)->J'.h k=J.h k
theorem ai.refl (n:Nat) (J:Env):ai n J J:=⟨fun _ _=>rfl,fun _ _=>rfl,fun _ _=>rfl,fun _ _=>rfl,fun _ _=>rfl⟩
theorem ai.trans {n:Nat} {a b c:Env} (h:ai n a b) (k:ai n b c):ai n a c :=
 ⟨fun i hi=>(k.i i hi).trans (h.i i hi),fun i hi=>(k.b i hi).trans (h.b i hi),fun i hi=>(k.s i hi).trans (h.s i hi),fun i hi=>(k.v i hi).trans (h.v i hi),fun i hi=>(k.h i hi).trans (h.h i hi)⟩
theorem ai.mono {n m:Nat} {a b:Env} (h:ai n a b) (hm:m<=n:=by omega):ai m a b:=⟨fun i hi=>h.i i,fun i hi=>h.b i,fun i hi=>h.s i,fun i hi=>h.v i,fun i hi=>h.h i⟩
theorem ai.tr {n m:Nat} {a b c:Env} (h:ai n a b) (k:ai m b c) (hm:n<=m:=by omega):ai n a c:=h.trans (k.mono hm)
theorem yo {n:Nat} {J J':Env} (h:ai n J J'):∀ e:E,e.aL n=true->ev J' e=ev J e:=by
 intro e
 induction e with
 | var i=>intro hb;simp only[E.aL,aag]at hb;simp only[ev,h.i i hb]
 | bvar i=>intro hb;simp only[E.aL,aag]at hb;simp only[ev,h.b i hb]
 | svar i=>intro hb;simp only[E.aL,aag]at hb;simp only[ev,h.s i hb]
 | vint i=>intro hb;simp only[E.aL,aag]at hb;simp only[ev,h.v i hb]
 | lit _=>intro _;rfl
 | slit _=>intro _;rfl
 | tt=>intro _;rfl
 | ff=>intro _;rfl
 | wrap k a ih=>intro hb;simp only[E.aL]at hb;simp only[ev,ih hb]
 | not a ih=>intro hb;simp only[E.aL]at hb;simp only[ev,ih hb]
 | sbyte a ih=>intro hb;simp only[E.aL]at hb;simp only[ev,ih hb]
 | slen a ih=>intro hb;simp only[E.aL]at hb;simp only[ev,ih hb]
 | ite c a b ihc iha ihb=>intro hb;simp only[E.aL,aah]at hb;simp only[ev,ihc hb.1.1,iha hb.1.2,ihb hb.2]
 | sext c a b ihc iha ihb=>intro hb;simp only[E.aL,aah]at hb;simp only[ev,ihc hb.1.1,iha hb.1.2,ihb hb.2]
 | hI k x y j ihx ihy=>intro hb;simp only[E.aL,aah,aag]at hb;simp only[ev,ihx hb.1.2,ihy hb.2,h.h k hb.1.1]
 | hB k x y j ihx ihy=>intro hb;simp only[E.aL,aah,aag]at hb;simp only[ev,ihx hb.1.2,ihy hb.2,h.h k hb.1.1]
 | hS k x y j ihx ihy=>intro hb;simp only[E.aL,aah,aag]at hb;simp only[ev,ihx hb.1.2,ihy hb.2,h.h k hb.1.1]
 | hP k x y j q ihx ihy=>intro hb;simp only[E.aL,aah,aag]at hb;simp only[ev,ihx hb.1.2,ihy hb.2,h.h k hb.1.1]
 | his k x y j q ihx ihy=>intro hb;simp only[E.aL,aah,aag]at hb;simp only[ev,ihx hb.1.2,ihy hb.2,h.h k hb.1.1]
 | hism k x ihx=>intro hb;simp only[E.aL,aah,aag]at hb;simp only[ev,ihx hb.2,h.h k hb.1]
 | hmlen k x ihx=>intro hb;simp only[E.aL,aah,aag]at hb;simp only[ev,ihx hb.2,h.h k hb.1]
 | hks k x y ks ihx ihy=>intro hb;simp only[E.aL,aah,aag]at hb;simp only[ev,ihx hb.1.2,ihy hb.2,h.h k hb.1.1]
 | hby k x y l ihx ihy ihl=>intro hb;simp only[E.aL,aah,aag]at hb;simp only[ev,ihx hb.1.1.2,ihy hb.1.2,ihl hb.2,h.h k hb.1.1.1]
 | sof k x y l ihx ihy ihl=>intro hb;simp only[E.aL,aah,aag]at hb;simp only[ev,ihx hb.1.1.2,ihy hb.1.2,ihl hb.2,h.h k hb.1.1.1]
 | _=>rename_i iha ihb;intro hb;simp only[E.aL,aah]at hb;simp only[ev,iha hb.1,ihb hb.2]
theorem ct {n:Nat} {J J':Env} (h:ai n J J') {e:E} (hb:e.aL n=true):aA J' e=aA J e:=by unfold aA;rw[yo h e hb]
theorem kl {n:Nat} {J J':Env} (h:ai n J J') {e:E} (hb:e.aL n=true):bd J' e=bd J e:=by unfold bd;rw[yo h e hb]
theorem uX {n:Nat} {J J':Env} (h:ai n J J') {e:E} (hb:e.aL n=true):jP J' e=jP J e:=by unfold jP;rw[yo h e hb]
def CV.aL (n:Nat):CV->Bool
 | .int _ e | .bool e | .str e | .map e=>e.aL n
 | .pti a _ _ _ i=>decide (a<n)&&i.aL n
 | .hptr x y=>x.aL n&&y.aL n
 | .sl x y l c=>x.aL n&&y.aL n&&l.aL n&&c.aL n
 | .vr j=>decide (j<n)
 | .hv h x y _=>decide (h<n)&&x.aL n&&y.aL n
 | .val _=>true
 | .clo _ x=>x.aL n
def SV.aL (n:Nat):SV->Bool
 | .one c=>c.aL n
 | .agg l=>l.all (·.aL n)
def TV.aL (n:Nat):TV->Bool
 | .sv s=>s.aL n
 | .tup l=>l.all (·.aL n)
theorem CV.bO {J J':Env} {m:Nat} (h:ai m J J') (c:CV) (hb:c.aL m=true):c.ev J'=c.ev J:=by
 cases c<;>simp only[CV.aL,aah,aag]at hb<;>simp only[CV.ev]
 .rw[ct h hb]
 .rw[kl h hb]
 .rw[uX h hb]
 .rw[h.i _ hb.1,ct h hb.2]
 .rw[ct h hb.1,ct h hb.2]
 .rw[ct h hb.1.1.1,ct h hb.1.1.2,ct h hb.1.2,ct h hb.2]
 .rw[ct h hb]
 .rw[h.v _ hb]
 .rw[ct h hb.1.2,ct h hb.2,h.h _ hb.1.1]
 .rw[ct h hb]
theorem CV.gD {J J':Env} {m:Nat} (h:ai m J J') (l:List CV) (hb:l.all (·.aL m)=true):l.map (CV.ev J')=l.map (CV.ev J):=by
 rw[aaE]at hb;exact aa7 fun c hc=>CV.bO h c (hb c hc)
theorem SV.bO {J J':Env} {m:Nat} (h:ai m J J') (s:SV) (hb:s.aL m=true):s.ev J'=s.ev J:=by
 cases s with
 | one c=>exact CV.bO h c hb
 | agg l=>simp only[SV.ev,CV.gD h l hb]
theorem TV.bO {J J':Env} {m:Nat} (h:ai m J J') (s:TV) (hb:s.aL m=true):s.ev J'=s.ev J:=by
 cases s with
 | sv c=>exact SV.bO h c hb
 | tup l =>
  simp only[TV.aL,aaE]at hb;simp only[TV.ev,aa7 fun c hc=>SV.bO h c (hb c hc)]
theorem Path.bO {J J':Env} {m:Nat} {path:List E} (h:ai m J J') (hp:Path J path) (hb:path.all (·.aL m)=true):Path J' path:=by
 rw[aaE]at hb;intro e he;rw[kl h (hb e he)];exact hp e he
inductive bE where
 | bw (a:Nat) (l:List CV) (T:TypeId)
 | hp (k:Nat) (vers:List Nat) (tags links:List E)
 | ro (k:Nat) (tags:List E) (any:Bool)
 | dead
def bE.own:bE->Bool
 | .ro _ _ _=>false
 | _=>true
def bE.hl (J:Env):bE->Hl
 | .bw a l T=>Hl.one (J.i a).toNat (.cells (l.map (CV.ev J)).toArray T (0,0))
 | .hp k _ _ _=>J.h k
 | .ro k _ _=>J.h k
 | .dead=>Hl.none
def bE.pos (J:Env):bE->Prop
 | .bw a _ _=>0<=J.i a
 | _=>True
def bE.same (J J':Env) (r:bE):Prop:=r.hl J'=r.hl J/\(r.pos J->r.pos J')
abbrev Mem:=List bE
structure St where
 tmps:List (Option TV)
 mem:Mem
 nv:Nat
 path:List E
structure Ke (S:Nat->Prop) (w0 w:World):Prop where
 os:w.os=w0.os
 tape:w.tape=w0.tape
 output:w.output=w0.output
 size:w0.heap.size<=w.heap.size
 block:∀ k,k<w0.heap.size->¬S k->w.heap[k]?=w0.heap[k]?
theorem Ke.refl (S:Nat->Prop) (w:World):Ke S w w:=⟨rfl,rfl,rfl,aav _,fun _ _ _=>rfl⟩
structure MRel (S:Nat->Prop) (w0:World) (J:Env) (mem:Mem) (w:World):Prop where
 fR:Ke S w0 w
 sub:∀ r∈mem,(r.hl J).sub w
 own:∀ r∈mem,r.own=true->∀ b,(r.hl J).mem b->S b\/w0.heap.size<=b
 bT:∀ (p q:Nat) r s,p≠q->mem[p]?=some r->mem[q]?=some s->r.own=true->(r.hl J).bT (s.hl J)
 pos:∀ r∈mem,r.pos J
structure Rel (S:Nat->Prop) (w0:World) (J:Env) (st:St) (a:Act) (w:World):Prop extends MRel S w0 J st.mem w where
 size:a.tmps.size=st.tmps.length
 defers:a.defers=[]
 tmp:∀ (t:Nat) (v:TV),st.tmps[t]?=some (some v)->a.tmps[t]?=some (v.ev J)
 path:Path J st.path
theorem Hl.sub_lt {h:Hl} {w:World} (hs:h.sub w) {b:Nat} (hb:h.mem b):b<w.heap.size:=by
 unfold Hl.mem at hb;obtain⟨o,ho⟩:=abj.1 hb;exact(aaU.1 (hs b o ho)).1
def bE.aL (n:Nat):bE->Bool
 | .bw a l _=>decide (a<n)&&l.all (·.aL n)
 | .hp k vers tags links=>decide (k<n)
 | .ro k tags _=>decide (k<n)
 | .dead=>true
def NR {α:Type} (f:α->Bool):Option α->Bool
 | some x=>f x
 | none=>true
def Mem.aL (n:Nat) (m:Mem):Bool:=m.all (bE.aL n)
def St.aL (n:Nat) (st:St):Bool:=st.tmps.all (NR (·.aL n))&&Mem.aL n st.mem&&st.path.all (·.aL n)
theorem bE.bO {J J':Env} {m:Nat} (h:ai m J J') (r:bE) (hb:r.aL m=true):r.hl J'=r.hl J:=by
 cases r<;>simp only[bE.aL,aah,aag]at hb<;>simp only[bE.hl]
 .rw[h.i _ hb.1,CV.gD h _ hb.2]
 .rw[h.h _ hb]
 .rw[h.h _ hb]
theorem bE.Kg {J J':Env} {m:Nat} (h:ai m J J') (r:bE) (hb:r.aL m=true):r.pos J->r.pos J':=by
 cases r<;>simp only[bE.aL,aah,aag]at hb<;>simp only[bE.pos]
 .rw[h.i _ hb.1];exact id
 all_goals (intro;trivial)
theorem Mem.bO {J J':Env} {m:Nat} (h:ai m J J') {mem:Mem} (hb:Mem.aL m mem=true):∀ r∈mem,r.same J J':=by
 unfold Mem.aL at hb;rw[aaE]at hb;exact fun r hr=>⟨bE.bO h r (hb r hr),bE.Kg h r (hb r hr)⟩
section
variable {S:Nat->Prop} {w0:World} {J J':Env} {st:St} {a:Act} {w w':World} {mem mem':Mem}
theorem MRel.vl (h:MRel S w0 J mem w) (U:Nat->Prop) (nw:Nat->Prop)
 (hU:∀ b,U b->∃ r∈mem,r.own=true/\(r.hl J).mem b)
 (ho:w'.os=w.os) (ht:w'.tape=w.tape) (hout:w'.output=w.output) (hs:w.heap.size<=w'.heap.size)
 (hb:∀ b,b<w.heap.size->¬U b->w'.heap[b]?=w.heap[b]?)
 (c1:∀ (p:Nat) r,mem'[p]?=some r->¬nw p->mem[p]?=some r/\r.same J J'/\∀ b,(r.hl J).mem b->¬U b)
 (c2:∀ (p:Nat) r,mem'[p]?=some r->nw p->((r.hl J').sub w'/\r.pos J')/\∀ b,(r.hl J').mem b->U b\/w.heap.size<=b)
 (c3:∀ (p q:Nat) r s,p≠q->nw p->nw q->mem'[p]?=some r->mem'[q]?=some s->r.own=true->(r.hl J').bT (s.hl J')):MRel S w0 J' mem' w':=by
 have hUo:∀ b,U b->S b\/w0.heap.size<=b:=fun b hb=>by
  obtain⟨r,hr,ho,hm⟩:=hU b hb;exact h.own r hr ho b hm
 refine⟨⟨ho.trans h.fR.os,ht.trans h.fR.tape,hout.trans h.fR.output,acy h.fR.size hs,fun k hk hS=>?_⟩,?_,?_,?_,?_⟩
 .rw[hb k (ac8 hk h.fR.size) (fun hu=>(hUo k hu).elim hS (fun h=>ah))];exact h.fR.block k hk hS
 .intro r hr;obtain⟨p,hp⟩:=aa9 hr;by_cases hn:nw p
  .exact(c2 p r hp hn).1.1
  .obtain⟨e1,⟨e2,_⟩,e3⟩:=c1 p r hp hn;rw[e2];intro b o hbo;have hm:(r.hl J).mem b:=by unfold Hl.mem;rw[hbo];rfl
   have hs:=h.sub r (aae e1);rw[hb b (Hl.sub_lt hs hm) (e3 b hm)];exact hs b o hbo
 .intro r hr hown b hm;obtain⟨p,hp⟩:=aa9 hr;by_cases hn:nw p
  .rcases(c2 p r hp hn).2 b hm with hu | hl
   .exact hUo b hu
   .right;have:=h.fR.size;omega
  .obtain⟨e1,⟨e2,_⟩,e3⟩:=c1 p r hp hn;rw[e2]at hm;exact h.own r (aae e1) hown b hm
 .intro p q r s hpq hp hq hown;by_cases hn:nw p<;>by_cases hm:nw q
  .exact c3 p q r s hpq hn hm hp hq hown
  .obtain⟨e1,⟨e2,_⟩,e3⟩:=c1 q s hq hm;obtain⟨f1,f2⟩:=c2 p r hp hn;rintro b ⟨x,y⟩;rw[e2]at y;rcases f2 b x with hu | hl
   .exact e3 b y hu
   .have:=Hl.sub_lt (h.sub s (aae e1)) y;omega
  .obtain⟨e1,⟨e2,_⟩,e3⟩:=c1 p r hp hn;obtain⟨f1,f2⟩:=c2 q s hq hm;rintro b ⟨x,y⟩;rw[e2]at x;rcases f2 b y with hu | hl
   .exact e3 b x hu
   .have:=Hl.sub_lt (h.sub r (aae e1)) x;omega
  .obtain⟨e1,⟨e2,_⟩,e3⟩:=c1 p r hp hn;obtain⟨f1,⟨f2,_⟩,f3⟩:=c1 q s hq hm;rw[e2,f2];exact h.bT p q r s hpq e1 f1 hown
 .intro r hr;obtain⟨p,hp⟩:=aa9 hr;by_cases hn:nw p
  .exact(c2 p r hp hn).1.2
  .obtain⟨e1,⟨_,e2⟩,_⟩:=c1 p r hp hn;exact e2 (h.pos r (aae e1))
theorem MRel.set (h:MRel S w0 J mem w) {p:Nat} {r r':bE} (hp:mem[p]?=some r) (hr:r.own=true)
 (ho:w'.os=w.os) (ht:w'.tape=w.tape) (hout:w'.output=w.output) (hs:w.heap.size<=w'.heap.size)
 (hb:∀ b,b<w.heap.size->¬(r.hl J).mem b->w'.heap[b]?=w.heap[b]?)
 (hag:∀ s∈mem,s.same J J')
 (hsub:(r'.hl J').sub w') (hpos:r'.pos J') (hdom:∀ b,(r'.hl J').mem b->(r.hl J).mem b\/w.heap.size<=b):MRel S w0 J' (mem.set p r') w':=by
 have hlt:p<mem.length:=(aai.1 hp).1;refine h.vl (fun b=>(r.hl J).mem b) (fun q=>q=p) (fun b hb=>⟨r,aae hp,hr,hb⟩) ho ht hout hs hb ?_ ?_ ?_
 .intro q s hq hn;rw[abg (fun e=>hn e.symm)]at hq;exact⟨hq,hag s (aae hq),fun b hb hu=>h.bT p q r s (fun e=>hn e.symm) hp hq hr b ⟨hu,hb⟩⟩
 .intro q s hq hn;rw[hn,abn hlt]at hq;cases hq;exact⟨⟨hsub,hpos⟩,hdom⟩
 .intro q q' s s' hne h1 h2;exact absurd (h1.trans h2.symm) hne
theorem MRel.add (h:MRel S w0 J mem w) {r':bE}
 (ho:w'.os=w.os) (ht:w'.tape=w.tape) (hout:w'.output=w.output) (hs:w.heap.size<=w'.heap.size)
 (hb:∀ b,b<w.heap.size->w'.heap[b]?=w.heap[b]?)
 (hag:∀ s∈mem,s.same J J')
 (hsub:(r'.hl J').sub w') (hpos:r'.pos J') (hdom:∀ b,(r'.hl J').mem b->w.heap.size<=b):MRel S w0 J' (mem++[r']) w':=by
 refine h.vl (fun b=>False) (fun q=>q=mem.length) (fun b hb=>hb.elim) ho ht hout hs (fun b hl _=>hb b hl) ?_ ?_ ?_
 .intro q s hq hn;rw[acr]at hq;split at hq
  .exact⟨hq,hag s (aae hq),fun _ _=>id⟩
  .rw[aaq (by simp;omega)]at hq;cases hq
 .intro q s hq hn;rw[hn,aau (aav _),adi]at hq;cases hq;exact⟨⟨hsub,hpos⟩,fun b hb=>Or.inr (hdom b hb)⟩
 .intro q q' s s' hne h1 h2;exact absurd (h1.trans h2.symm) hne
theorem MRel.bO (h:MRel S w0 J mem w) (hag:∀ s∈mem,s.same J J'):MRel S w0 J' mem w :=
 h.vl (fun _=>False) (fun _=>False) (fun _ h=>h.elim) rfl rfl rfl (aav _) (fun _ _ _=>rfl) (fun p r hp _=>⟨hp,hag r (aae hp),fun _ _=>id⟩) (fun _ _ _ h=>h.elim) (fun _ _ _ _ _ h=>h.elim)
theorem MRel.below (h:MRel S w0 J mem w) (hb:RowKit.Below w.heap.size w w'):MRel S w0 J mem w' :=
 h.vl (fun _=>False) (fun _=>False) (fun _ h=>h.elim) hb.os hb.tape hb.output hb.size (fun b hl _=>hb.block b hl) (fun p r hp _=>⟨hp,⟨rfl,id⟩,fun _ _=>id⟩) (fun _ _ _ h=>h.elim) (fun _ _ _ _ _ h=>h.elim)
theorem MRel.sublist (h:MRel S w0 J mem w) (hm:∀ (p:Nat) r,mem'[p]?=some r->mem[p]?=some r\/r=.dead):MRel S w0 J mem' w:=by
 refine h.vl (fun _=>False) (fun p=>mem'[p]?=some .dead) (fun _ h=>h.elim) rfl rfl rfl (aav _) (fun _ _ _=>rfl) (fun p r hp hn=>⟨(hm p r hp).resolve_right (fun e=>hn (by rw[hp,e])),⟨rfl,id⟩,fun _ _=>id⟩) ?_ ?_
 .intro p r hp hn;rw[hp]at hn;cases hn;exact⟨⟨(fun b o hb=>by cases hb),trivial⟩,(fun b hb=>by cases hb)⟩
 .intro p q r s _ hn _ hp _ _;rw[hp]at hn;cases hn;rintro b ⟨x,_⟩;cases x
theorem Rel.bO {m:Nat} (h:ai m J J') (hb:st.aL m=true) (hr:Rel S w0 J st a w):Rel S w0 J' st a w:=by
 simp only[St.aL,aah]at hb;refine⟨hr.toMRel.bO (Mem.bO h hb.1.2),hr.size,hr.defers,fun t s hs=>?_,hr.path.bO h hb.2⟩;have:=hb.1.1;rw[aaE]at this;have:=this _ (aae hs);simp only[NR]at this;rw[TV.bO h s this];exact hr.tmp t s hs
theorem Rel.oH {m:Nat} (h:ai m J J') (hb:st.aL m=true) (hr:Rel S w0 J st a w) {mem:Mem} (hm:MRel S w0 J' mem w') (nv:Nat):Rel S w0 J' {st with mem:=mem,nv:=nv} a w':=by
 have:=hr.bO h hb;exact⟨hm,this.size,this.defers,this.tmp,this.path⟩
def cN (st:St):Operand->Option TV
 | .tmp t=>match st.tmps[t]? with
  | some (some s)=>some s
  | _=>none
 | .const v=>some (lift v)
 | .func f=>some (.sv (.one (.val (.func (.func f) #[] #[]))))
 | .global g=>some (.sv (.one (.hptr (.lit g) (.lit 0))))
theorem aH (h:Rel S w0 J st a w) {x:Operand} {v:TV} (ho:cN st x=some v):a.eval x=v.ev J:=by
 cases x with
 | tmp t =>
  simp only[cN]at ho;split at ho
  .rename_i s hs;have:=h.tmp t s hs;simp only[aaj]at ho;subst ho;simp [Act.eval,this]
  .cases ho
 | const v'=>simp only[cN,aaj]at ho;rw[<-ho,Jc];rfl
 | func f=>simp only[cN,aaj]at ho;rw[<-ho];rfl
 | global g=>simp only[cN,aaj]at ho;rw[<-ho];rfl
def St.put (st:St) (d:Option Tmp) (v:Option TV):St :=
 match d with
 | some d=>{st with tmps:=st.tmps.set d v}
 | none=>st
theorem St.im (st:St) (d:Option Tmp) (v:Option TV):(st.put d v).mem=st.mem:=by cases d<;>rfl
theorem St.CW (st:St) (d:Option Tmp) (v:Option TV):(st.put d v).nv=st.nv:=by cases d<;>rfl
theorem St.zK (st:St) (d:Option Tmp) (v:Option TV):(st.put d v).path=st.path:=by cases d<;>rfl
theorem Rel.put (h:Rel S w0 J st a w) (d:Option Tmp) (v:Option TV) (x:Value) (hx:∀ y,v=some y->x=y.ev J):Rel S w0 J (st.put d v) (a.put d x) w:=by
 cases d with
 | none=>exact h
 | some d =>
  refine⟨h.toMRel,?_,h.defers,?_,h.path⟩
  .simp [Act.put,St.put,h.size]
  .intro t s hs;simp only[St.put]at hs;simp only[Act.put];by_cases he:d=t
   .subst he;by_cases hlt:d<st.tmps.length
    .rw[abn hlt]at hs;simp only[aaj]at hs;rw[Array.getElem?_setIfInBounds_self_of_lt (by rw[h.size];exact hlt),hx s hs]
    .rw[aaq (by simpa using hlt)]at hs;cases hs
   .rw[abg he]at hs;rw[abF he];exact h.tmp t s hs
def zI (a:Nat):Mem->Nat->Option (Nat×List CV×TypeId)
 | [],_=>none
 | .bw b l T::m,p=>if b=a then some (p,l,T)else zI a m (p+1)
 | _::m,p=>zI a m (p+1)
theorem iU {a:Nat} : ∀ {mem:Mem} {p q:Nat} {l:List CV} {T:TypeId},zI a mem p=some (q,l,T)->p<=q/\mem[q-p]?=some (.bw a l T)
 | [],_,_,_,_,h=>by cases h
 | .bw b l' T'::m,p,q,l,T,h=>by
  unfold zI at h;split at h
  .rename_i e;subst e;cases h;exact⟨aav _,aF⟩
  .obtain⟨h1,h2⟩:=iU h;exact⟨ah,by rw[show q-p=(q-(p+1))+1 by omega,aa1];exact h2⟩
 | .hp _ _ _ _::m,p,q,l,T,h=>by
  obtain⟨h1,h2⟩:=iU (mem:=m) (p:=p+1) h;exact⟨ah,by rw[show q-p=(q-(p+1))+1 by omega,aa1];exact h2⟩
 | .ro _ _ _::m,p,q,l,T,h=>by
  obtain⟨h1,h2⟩:=iU (mem:=m) (p:=p+1) h;exact⟨ah,by rw[show q-p=(q-(p+1))+1 by omega,aa1];exact h2⟩
 | .dead::m,p,q,l,T,h=>by
  obtain⟨h1,h2⟩:=iU (mem:=m) (p:=p+1) h;exact⟨ah,by rw[show q-p=(q-(p+1))+1 by omega,aa1];exact h2⟩
def tf (mem:Mem) (a:Nat):Option (Nat×List CV×TypeId):=zI a mem 0
theorem fX {a p:Nat} {l:List CV} {T:TypeId} (h:tf mem a=some (p,l,T)):mem[p]?=some (.bw a l T):=by
 have:=(iU h).2;simpa using this
def bE.has (x:E):bE->Bool
 | .hp k vers tags _=>tags.contains x||(match x with | .hP h _ _ _ _=>h==k||vers.contains h | _=>false)
 | .ro k tags _=>tags.contains x||(match x with | .hP h _ _ _ _=>h==k | _=>false)
 | _=>false
def E7 (x:E):Mem->Nat->Option (Nat×bE)
 | [],_=>none
 | r::m,p=>if r.has x then some (p,r)else E7 x m (p+1)
theorem wo {x:E} : ∀ {mem:Mem} {p q:Nat} {r:bE},E7 x mem p=some (q,r)->p<=q/\mem[q-p]?=some r
 | [],_,_,_,h=>by cases h
 | s::m,p,q,r,h=>by
  unfold E7 at h;split at h
  .cases h;exact⟨aav _,aF⟩
  .obtain⟨h1,h2⟩:=wo h;exact⟨ah,by rw[show q-p=(q-(p+1))+1 by omega,aa1];exact h2⟩
def bE.hk:bE->Option Nat
 | .hp k _ _ _=>some k
 | .ro k _ _=>some k
 | _=>none
theorem bE.Vf {r:bE} {k:Nat} (h:r.hk=some k):r.hl J=J.h k:=by cases r<;>simp [bE.hk]at h<;>simp [bE.hl,h]
def bE.Xh:bE->Bool
 | .ro _ _ any=>any
 | _=>false
def pV:Mem->Nat->Option (Nat×bE)
 | [],_=>none
 | r::m,p=>if r.Xh then some (p,r)else pV m (p+1)
theorem j8:∀ {mem:Mem} {p q:Nat} {r:bE},pV mem p=some (q,r)->p<=q/\mem[q-p]?=some r
 | [],_,_,_,h=>by cases h
 | s::m,p,q,r,h=>by
  unfold pV at h;split at h
  .cases h;exact⟨aav _,aF⟩
  .obtain⟨h1,h2⟩:=j8 h;exact⟨ah,by rw[show q-p=(q-(p+1))+1 by omega,aa1];exact h2⟩
def Cu (mem:Mem) (x:E):Option (Nat×bE) :=
 match E7 x mem 0 with
 | some (p,.ro k tags false)=>if tags.contains x then some (p,.ro k tags false)else match pV mem 0 with
  | some q=>some q
  | none=>some (p,.ro k tags false)
 | some r=>some r
 | none=>pV mem 0
theorem iz {x:E} {p:Nat} {r:bE} (h:Cu mem x=some (p,r)):mem[p]?=some r:=by
 have any:∀ {p r},pV mem 0=some (p,r)->mem[p]?=some r:=fun h=>by
  have:=(j8 h).2;simpa using this
 have hp:∀ {p r},E7 x mem 0=some (p,r)->mem[p]?=some r:=fun h=>by
  have:=(wo h).2;simpa using this
 unfold Cu at h;split at h
 .rename_i hr;split at h
  .cases h;exact hp hr
  .split at h
   .rename_i hq;cases h;exact any hq
   .cases h;exact hp hr
 .rename_i hr;cases h;exact hp hr
 .exact any h
theorem uV {P:Program} {t:TypeId} {d:TypeDesc} (hu:P.underlying t=some d) (w:World):(isAgg t).run P w=.ok (match d with | .struct _ | .array _ _=>true | _=>false) w:=by
 unfold isAgg;rw[Sem.run_bind,run_underlying hu w];cases d<;>rfl
def FW (P:Program) (t:TypeId):Option Bool :=
 match P.underlying t with
 | some (.struct _)=>some true
 | some (.array _ _)=>some true
 | some _=>some false
 | none=>none
theorem sK {P:Program} {t:TypeId} {b:Bool} (h:FW P t=some b) (w:World):(isAgg t).run P w=.ok b w:=by
 unfold FW at h;split at h
 .rename_i hu;cases h;exact uV hu w
 .rename_i hu;cases h;exact uV hu w
 .rename_i d hs ha hu;cases h;rw[uV hu w];cases d<;>first | rfl | (exact absurd rfl (hs _)) | (exact absurd rfl (ha _ _)) | (exact absurd hu (hs _)) | (exact absurd hu (ha _ _))
 .cases h
def fj (P:Program) (t:TypeId):Option Nat:=(P.info? t).map (·.size)
theorem du {P:Program} {t:TypeId} {n:Nat} (h:fj P t=some n) (w:World):(sizeOf t).run P w=.ok n w:=by
 unfold fj at h;cases hi:P.info? t with
 | none=>simp [hi]at h
 | some i=>simp [hi]at h;subst h;simp [sizeOf,typeInfo,hi]
def lx (P:Program) (t:TypeId):Option Value:=(P.info? t).bind (·.zero)
theorem ky {P:Program} {t:TypeId} {v:Value} (h:lx P t=some v) (w:World):(zeroValue t).run P w=.ok v w:=by
 unfold lx at h;cases hi:P.info? t with
 | none=>simp [hi]at h
 | some i=>simp [hi]at h;simp [zeroValue,typeInfo,hi,h]
def gy (P:Program) (t:TypeId) (l:List CV) (o:Nat):Option SV :=
 match FW P t,fj P t with
 | some true,some n=>if o+n<=l.length then some (.agg ((l.drop o).take n))else none
 | some false,_=>(l[o]?).map .one
 | _,_=>none
theorem dz (b o n:Nat):(⟨b,o,none⟩:Addr).add n=⟨b,o+n,none⟩:=by unfold Addr.add;split<;>simp_all
theorem rG {P:Program} {t:TypeId} {b o n:Nat} {cs:List Value} (ha:FW P t=some true) (hs:fj P t=some n) (hl:cs.length=n)
 (h:∀ j v,cs[j]?=some v->w.cell? ⟨b,o+j,none⟩=some v):(loadVar t ⟨b,o,none⟩).run P w=.ok (.agg cs.toArray) w:=by
 unfold loadVar;simp only[Sem.run_bind,sK ha,Result.andThen_ok,abM,du hs];subst hl;rw[run_loadCells_list w ⟨b,o,none⟩ cs (fun j v hv=>by rw[dz];exact h j v hv)];rfl
theorem vY {P:Program} {t:TypeId} {p:Addr} {v:Value} (ha:FW P t=some false) (h:w.cell? p=some v):(loadVar t p).run P w=.ok v w:=by
 unfold loadVar;simp only[Sem.run_bind,sK ha,Result.andThen_ok,aa2,abK];simp [load,Sem.run,h]
theorem rF {P:Program} {t:TypeId} {l:List CV} {o b:Nat} {v:SV} {T:TypeId} {fr:Nat×Nat} (h:gy P t l o=some v)
 (hb:w.heap[b]?=some (.cells (l.map (CV.ev J)).toArray T fr)):(loadVar t ⟨b,o,none⟩).run P w=.ok (v.ev J) w:=by
 have hc:∀ j,w.cell? ⟨b,j,none⟩=(l[j]?).map (CV.ev J):=fun j=>by simp [World.cell?,hb]
 unfold gy at h;split at h
 .rename_i n ha hs;split at h
  .rename_i hle;cases h;refine rG (cs:=((l.drop o).take n).map (CV.ev J)) ha hs (by simp;omega) (fun j x hx=>?_);rw[hc];rw[aao,aaX]at hx;split at hx
   .rwa[aaW]at hx
   .simp at hx
  .cases h
 .rename_i ha;simp only[aak]at h;obtain⟨x,hx,rfl⟩:=h;exact vY ha (by rw[hc,hx];rfl)
 .cases h
theorem MRel.bw (h:MRel S w0 J mem w) {p a:Nat} {l:List CV} {T:TypeId} (hp:mem[p]?=some (.bw a l T)):w.heap[(J.i a).toNat]?=some (.cells (l.map (CV.ev J)).toArray T (0,0)) :=
 h.sub _ (aae hp) _ _ (Hl.aX _ _)
end
abbrev TI (k:IntKind) (e:E):TV:=.sv (.one (.int k e))
abbrev TB (e:E):TV:=.sv (.one (.bool e))
abbrev TS (e:E):TV:=.sv (.one (.str e))
abbrev TP (x y:E):TV:=.sv (.one (.hptr x y))
def NH (k:IntKind):E->E->E
 | .lit a,.lit b=>.lit (k.wrap (a*2 ^ (min b.toNat k.bits)))
 | a,b=>.shl k a b
theorem KJ (J:Env) (k:IntKind) (a b:E):aA J (NH k a b)=k.wrap (aA J a*2 ^ (min (aA J b).toNat k.bits)):=by
 unfold NH;split<;>rfl
def NI (k:IntKind):E->E->E
 | .lit a,.lit b=>.lit (a.fdiv (2 ^ (min b.toNat k.bits)))
 | a,b=>.shr k a b
theorem KK (J:Env) (k:IntKind) (a b:E):aA J (NI k a b)=(aA J a).fdiv (2 ^ (min (aA J b).toNat k.bits)):=by
 unfold NI;split<;>rfl
def ND:E->E->E
 | .lit a,.lit b=>.lit (a.tdiv b)
 | a,b=>.quo a b
theorem KG (J:Env) (a b:E):aA J (ND a b)=(aA J a).tdiv (aA J b):=by unfold ND;split<;>rfl
def NF:E->E->E
 | .lit a,.lit b=>.lit (a.tmod b)
 | a,b=>.rem a b
theorem KH (J:Env) (a b:E):aA J (NF a b)=(aA J a).tmod (aA J b):=by unfold NF;split<;>rfl
def Sb (op:BinOp) (k k':IntKind) (a b:E):Option (E×TV) :=
 match op with
 | .shl=>some (mkLe (.lit 0) b,TI k (NH k a b))
 | .shr=>some (mkLe (.lit 0) b,TI k (NI k a b))
 | op=>if k=k' then match op with
  | .add=>some (.tt,TI k (mkWrap k (mkAdd a b)))
  | .sub=>some (.tt,TI k (mkWrap k (mkSub a b)))
  | .mul=>some (.tt,TI k (mkWrap k (mkMul a b)))
  | .quo=>some (mkNot (mkEq b (.lit 0)),TI k (mkWrap k (ND a b)))
  | .rem=>some (mkNot (mkEq b (.lit 0)),TI k (NF a b))
  | .and=>some (.tt,TI k (.bits .and k a b))
  | .or=>some (.tt,TI k (.bits .or k a b))
  | .xor=>some (.tt,TI k (.bits .xor k a b))
  | .andNot=>some (.tt,TI k (.bits .andNot k a b))
  | .eql=>some (.tt,TB (mkEq a b))
  | .neq=>some (.tt,TB (mkNot (mkEq a b)))
  | .lss=>some (.tt,TB (mkLt a b))
  | .leq=>some (.tt,TB (mkLe a b))
  | .gtr=>some (.tt,TB (mkLt b a))
  | .geq=>some (.tt,TB (mkLe b a))
  | _=>none
 else none
section
variable {P:Program} {J:Env} {w:World}
theorem Gi {op:BinOp} {T:TypeId} {k k':IntKind} {a b n:E} {v:TV} (h:Sb op k k' a b=some (n,v)) (hn:bd J n=true) :
 (binOp op T (.int k (aA J a)) (.int k' (aA J b))).run P w=.ok (v.ev J) w:=by
 unfold Sb at h;split at h
 .cases h;rw[aZ,aq,aag]at hn;have:¬aA J b<0:=ah;simp only[binOp,Op.shift,this,abK,TV.ev,SV.ev,CV.ev,KJ];rfl
 .cases h;rw[aZ,aq,aag]at hn;have:¬aA J b<0:=ah;simp only[binOp,Op.shift,this,abK,TV.ev,SV.ev,CV.ev,KK];rfl
 .split at h
  .rename_i hk;subst hk;split at h<;>first | (cases h;done) | skip
   all_goals cases h
   case h_4 =>
    rw[c9,fO,abf,aa3,aq]at hn;have hz:¬aA J b=0:=hn;simp only[binOp,ne_eq,ab8,abK,Op.intDiv,aal hz,TV.ev,SV.ev,CV.ev,nS,KG,Sem.run_pure]
   case h_5 =>
    rw[c9,fO,abf,aa3,aq]at hn;have hz:¬aA J b=0:=hn;simp only[binOp,ne_eq,ab8,abK,Op.intDiv,aal hz,TV.ev,SV.ev,CV.ev,KH,Sem.run_pure]
   all_goals
    simp only[binOp,ne_eq,ab8,abK,Op.intArith,Op.intBits,Op.intCmp,TV.ev,SV.ev,CV.ev,nS,fc,m8,m7,tp,fO,c9,iO,aZ,cy]
    try rfl
    try (simp only[Sem.run_pure];congr 2;rw[ab9];simp)
  .cases h
theorem Ah (x y:ByteArray):(x.toList==y.toList)=decide (x=y):=by
 rw[ab9];simp only[ada,aag];refine⟨fun h=>?_,fun h=>by rw[h]⟩;rw[ByteArray.toList_eq,ByteArray.toList_eq]at h;cases x;cases y;simp at h;rw[h]
def Sc (op:BinOp) (a b:E):Option (E×TV) :=
 match op with
 | .add=>some (mkLe (mkAdd (wa a) (wa b)) (.lit 9223372036854775807),TS (Jh a b))
 | .eql=>some (.tt,TB (mkSeq a b))
 | .neq=>some (.tt,TB (mkNot (mkSeq a b)))
 | _=>none
theorem Gj {op:BinOp} {T:TypeId} {a b n:E} {v:TV} (h:Sc op a b=some (n,v)) (hn:bd J n=true) :
 (binOp op T (.string (jP J a)) (.string (jP J b))).run P w=.ok (v.ev J) w:=by
 unfold Sc at h;split at h
 .cases h;rw[aZ,fc,ko,ko,aq,aag]at hn;have:¬(((jP J a).size+(jP J b).size:Nat):Int)>IntKind.i64.max:=by simp only[IntKind.max,IntKind.signed,IntKind.bits];omega
  simp only[binOp,Op.stringOp,aal this,TV.ev,SV.ev,CV.ev,BK,Sem.run_pure]
 .cases h;simp only[binOp,Op.stringOp,TV.ev,SV.ev,CV.ev,ux,Sem.run_pure,Ah]
 .cases h;simp only[binOp,Op.stringOp,TV.ev,SV.ev,CV.ev,c9,ux,Sem.run_pure,Ah]
 .cases h
def zZ (i:E):Nat->List SV->Option SV
 | _,[]=>none
 | _,[v]=>some v
 | j,v::l=>match zZ i (j+1) l with
  | some r=>xw (mkEq i (.lit j)) v r
  | none=>none
theorem Aa {i:E} : ∀ (l:List SV) (j:Nat) (v:SV),zZ i j l=some v->(j:Int)<=aA J i->aA J i<j+l.length->∃ x,l[(aA J i).toNat-j]?=some x/\v.ev J=x.ev J
 | [],j,v,h,_,_=>by simp [zZ]at h
 | [x],j,v,h,h1,h2=>by
  simp only[zZ,aaj]at h;subst h;simp only[aay]at h2;have:(aA J i).toNat-j=0:=ah;exact⟨x,by rw[this];rfl,rfl⟩
 | x::y::l,j,v,h,h1,h2=>by
  simp only[zZ]at h;split at h
  .rename_i r hr;have hm:=zd (J:=J) h;rw[fO,aq]at hm;by_cases he:aA J i=(j:Int)
   .have:(aA J i).toNat-j=0:=ah;exact⟨x,by rw[this];rfl,by rw[hm];simp [he]⟩
   .simp only[aaO]at h2;obtain⟨z,hz,hv⟩:=Aa (y::l) (j+1) r hr ah (by simp only[aaO];omega);refine⟨z,?_,by rw[hm,<-hv];simp [he]⟩;have:(aA J i).toNat-j=((aA J i).toNat-(j+1))+1:=ah;rw[this,aa1];exact hz
  .cases h
def O9 (i:E) (n:Nat):E:=mkAnd (mkLe (.lit 0) i) (mkLt i (.lit n))
theorem iC {i:E} {n:Nat} (h:bd J (O9 i n)=true):0<=aA J i/\aA J i<n:=by
 unfold O9 at h;rw[aP,aah,aZ,iO,aag,aag]at h;exact h
def gO {α:Type} : List (Option α)->Option (List α)
 | []=>some []
 | some x::l=>(gO l).map (x::·)
 | none::_=>none
theorem lP {α:Type} : ∀ {l:List (Option α)} {m:List α},gO l=some m->m.length=l.length/\∀ (j:Nat) x,m[j]?=some x->l[j]?=some (some x)
 | [],m,h=>by cases h;simp
 | some y::l,m,h=>by
  simp only[gO,aak]at h;obtain⟨r,hr,rfl⟩:=h;obtain⟨h1,h2⟩:=lP hr;refine⟨by simp [h1],fun j x hx=>?_⟩;cases j with
  | zero=>simpa using hx
  | succ j=>simpa using h2 j x (by simpa using hx)
 | none::l,m,h=>by simp [gO]at h
def kindOf:Value->Kd
 | .int k _=>.int k
 | .bool _=>.bool
 | .slice _ _ _=>.slice
 | .pointer _=>.ptr
 | .string _=>.str
 | .map _=>.map
 | _=>.any
def tR (h:Nat) (x y:E) (j:Nat):Kd->CV
 | .int k=>.int k (.hI h x y j)
 | .bool=>.bool (.hB h x y j)
 | .slice=>.sl (.hP h x y j 0) (.hP h x y j 1) (.hP h x y j 2) (.hP h x y j 3)
 | .ptr=>.hptr (.hP h x y j 0) (.hP h x y j 1)
 | .str=>.str (.hS h x y j)
 | .map=>.map (.hP h x y j 0)
 | .any=>.hv h x y j
theorem sm {h:Nat} {x y:E} {j:Nat} {k:Kd} (hh:bd J (.his h x y j k)=true):(J.h h).cell (aA J x).toNat ((aA J y).toNat+j)=some ((tR h x y j k).ev J):=by
 rw[xf]at hh;cases hc:(J.h h).cell (aA J x).toNat ((aA J y).toNat+j)with
 | none=>simp [hc,bD]at hh
 | some v =>
  rw[hc]at hh;cases k with
  | any=>simp [tR,CV.ev,hc]
  | int k =>
   cases v<;>simp only[bD,aa2,aag]at hh
   subst hh;simp [tR,CV.ev,fw,hc,ck]
  | bool =>
   cases v<;>simp only[bD,aa2]at hh
   simp [tR,CV.ev,R8,hc,AJ]
  | str =>
   cases v<;>simp only[bD,aa2]at hh
   simp [tR,CV.ev,T5,hc,O1]
  | map =>
   cases v<;>simp only[bD,aa2]at hh
   rename_i r;cases r<;>simp [tR,CV.ev,fE,hc,bm]
  | slice =>
   cases v<;>simp only[bD,aa2]at hh
   rename_i a n c;cases a with
   | none=>simp [tR,CV.ev,fE,hc,bm,az]
   | some a =>
    obtain⟨b,o,s⟩:=a;cases s with
    | none=>simp [tR,CV.ev,fE,hc,bm,az]
    | some s =>
     simp only[tR,CV.ev,fE,hc,bm,aaa];unfold az;rw[aal ah,aal ah,aaa,FO,show(-(-(b:Int)-2)-2).toNat=b by omega]
  | ptr =>
   unfold bD at hh;split at hh<;>first | (cases hh;done) | skip
   all_goals simp_all
   .simp [tR,CV.ev,fE,hc,bm,az]
   .simp [tR,CV.ev,fE,hc,bm,az]
def ba (h:Nat) (x y:E):Nat->List Kd->List CV
 | _,[]=>[]
 | j,k::l=>tR h x y j k::ba h x y (j+1) l
def iV (h:Nat) (x y:E):Nat->List Kd->E
 | _,[]=>.tt
 | j,k::l=>mkAnd (.his h x y j k) (iV h x y (j+1) l)
theorem qa {h:Nat} {x y:E} : ∀ (ks:List Kd) (j:Nat),bd J (iV h x y j ks)=true->∀ (i:Nat) v,((ba h x y j ks).map (CV.ev J))[i]?=some v->(J.h h).cell (aA J x).toNat ((aA J y).toNat+(j+i))=some v
 | [],_,_,i,v,h=>by simp [ba]at h
 | k::l,j,hn,i,v,h=>by
  simp only[iV,aP,aah]at hn;cases i with
  | zero =>
   simp only[ba,aaC,aa4,aaj]at h;rw[<-h];exact sm hn.1
  | succ i =>
   simp only[ba,aaC,aa1]at h;have:=qa l (j+1) hn.2 i v h;rwa[show j+(i+1)=j+1+i by omega]
theorem jO (h:Nat) (x y:E):∀ (ks:List Kd) (j:Nat),(ba h x y j ks).length=ks.length
 | [],_=>rfl
 | _::l,j=>by simp [ba,jO h x y l (j+1)]
theorem rO {h:Nat} {x y:E} : ∀ (ks:List Kd) (j:Nat),ks.all (fun k=>decide (k=.int .u8))=true->(∀ i,i<ks.length->bD ((J.h h).cell (aA J x).toNat ((aA J y).toNat+(j+i))) (.int .u8)=true)->bd J (iV h x y j ks)=true
 | [],_,_,_=>by simp [iV,cE]
 | k::l,j,ha,hb=>by
  simp only[ads,aah,aag]at ha;obtain⟨rfl,ha⟩:=ha;simp only[iV,aP,aah,xf];refine⟨by have:=hb 0 aF;simpa using this,rO l (j+1) ha fun i hi=>?_⟩;have:=hb (i+1) (by simp only[aaO];omega);rwa[show j+(i+1)=j+1+i by omega]at this
def zT (h:Nat) (x y:E) (ks:List Kd):E :=
 if decide (8<ks.length)&&ks.all (fun k=>decide (k=.int .u8))then .hby h x y (.lit ks.length)else if 8<ks.length then .hks h x y ks else iV h x y 0 ks
theorem wy {h:Nat} {x y:E} : ∀ (ks:List Kd) (j:Nat),wB (J.h h) (aA J x).toNat ((aA J y).toNat+j) ks=true->bd J (iV h x y j ks)=true
 | [],_,_=>by simp [iV,cE]
 | k::l,j,hr=>by
  simp only[wB,aah]at hr;simp only[iV,aP,aah,xf];exact⟨hr.1,wy l (j+1) hr.2⟩
theorem Fl {h:Nat} {x y:E} {ks:List Kd} (hn:bd J (zT h x y ks)=true):bd J (iV h x y 0 ks)=true:=by
 unfold zT at hn;split at hn
 .rename_i hc;simp only[aah,aag]at hc;rw[Ce,aq,aaa]at hn;unfold bx at hn;rw[aaE]at hn;refine rO ks 0 hc.2 fun i hi=>?_;have:=hn i (aaM.2 hi);rwa[aaP]
 .split at hn
  .exact wy ks 0 hn
  .exact hn
def pJ (mem:Mem) (x y:E):Option (Nat×Nat×List CV×TypeId×Nat) :=
 match x,y with
 | .var a,.lit o=>if 0<=o then(tf mem a).map fun r=>(a,r.1,r.2.1,r.2.2,o.toNat)else none
 | _,_=>none
theorem gP {mem:Mem} {x y:E} {a p o:Nat} {l:List CV} {T:TypeId} (h:pJ mem x y=some (a,p,l,T,o)):x=.var a/\y=.lit o/\mem[p]?=some (.bw a l T):=by
 unfold pJ at h;split at h
 .rename_i a' o';split at h
  .rename_i ho;simp only[aak,aaY]at h;obtain⟨⟨q,l',T'⟩,hq,rfl,rfl,rfl,rfl,rfl⟩:=h;refine⟨rfl,by rw[acv ho],fX hq⟩
  .cases h
 .cases h
def EK (mem:Mem) (x:E):E :=
 match x with
 | .var a=>if(tf mem a).isSome then .tt else .le (.lit 0) x
 | x=>mkLe (.lit 0) x
theorem MRel.EK {S:Nat->Prop} {w0:World} {mem:Mem} (h:MRel S w0 J mem w) {x:E} (hx:bd J (EK mem x)=true):0<=aA J x:=by
 unfold Sx.EK at hx;split at hx
 .split at hx
  .rename_i a ha;obtain⟨⟨p,l,T⟩,hp⟩:=abj.1 ha;exact h.pos _ (aae (fX hp))
  .rw[kC,aq,aag]at hx;exact hx
 .rw[aZ,aq,aag]at hx;exact hx
def Jd (P:Program) (mem:Mem) (t:TypeId):CV->Option (E×SV)
 | .pti a o s n i=>match tf mem a with
  | some (_,l,_)=>match gO ((List.range n).map fun j=>gy P t l (o+s*j))with
   | some vs=>(zZ i 0 vs).map fun v=>(O9 i n,v)
   | none=>none
  | _=>none
 | .hptr x y=>match pJ mem x y with
  | some (_,_,l,_,o)=>(gy P t l o).map fun v=>(.tt,v)
  | none=>match(Cu mem x).bind (fun r=>r.2.hk)with
   | some h=>match FW P t,lx P t,fj P t with
    | some true,some z,some n =>
     let ks:=z.cells.toList.map kindOf
     if ks.length=n then some (mkAnd (mkLe (.lit 0) x) (mkAnd (mkLe (.lit 0) y) (zT h x y ks)),.agg (ba h x y 0 ks))else none
    | some false,some z,_=>some (mkAnd (mkLe (.lit 0) x) (mkAnd (mkLe (.lit 0) y) (.his h x y 0 (kindOf z))),.one (tR h x y 0 (kindOf z)))
    | _,_,_=>none
   | none=>none
 | _=>none
variable {S:Nat->Prop} {w0:World} {mem:Mem}
theorem yy (h:MRel S w0 J mem w) {x:E} {k:Nat} (hf:(Cu mem x).bind (fun r=>r.2.hk)=some k):(J.h k).sub w:=by
 cases hh:Cu mem x with
 | none=>simp [hh]at hf
 | some r =>
  simp only[hh,abZ]at hf;have:=h.sub r.2 (aae (iz (p:=r.1) (r:=r.2) hh));rwa[bE.Vf hf]at this
theorem vX (h:MRel S w0 J mem w) {t:TypeId} {c:CV} {n:E} {v:SV} (hl:Jd P mem t c=some (n,v)) (hn:bd J n=true) :
 ∃ p,c.ev J=.pointer (some p)/\(loadVar t p).run P w=.ok (v.ev J) w:=by
 unfold Jd at hl;split at hl
 .rename_i b o s m i;split at hl
  .rename_i p l T hb;split at hl
   .rename_i vs hvs;simp only[aak,aaY]at hl;obtain⟨v',hv,rfl,rfl⟩:=hl;obtain⟨h1,h2⟩:=iC hn;obtain⟨hlen,hget⟩:=lP hvs;simp only[aaB,abG]at hlen;obtain⟨x,hx,hxv⟩:=Aa vs 0 v' hv ah ah;have hx':=hget _ _ hx;rw[adj,aao,aaD ah]at hx';simp only[aaN,aaj]at hx';have hk:=fX hb;have hpos:0<=J.i b:=h.pos _ (aae hk);refine⟨_,by simp only[CV.ev];rw[av hpos],?_⟩;have e:((o:Int)+(s:Int)*aA J i).toNat=o+s*(aA J i).toNat:=by
     obtain⟨q,hq⟩:=aby h1;rw[hq,aaa,<-acB,<-Int.natCast_add,aaa]
    rw[e,hxv];exact rF hx' (h.bw hk)
   .cases hl
  .cases hl
 .rename_i x y;split at hl
  .rename_i a p l T o hk0;obtain⟨rfl,rfl,hk⟩:=gP hk0;simp only[aak,aaY]at hl;obtain⟨v',hv,rfl,rfl⟩:=hl;have hpos:0<=J.i a:=h.pos _ (aae hk);exact⟨_,by simp only[CV.ev,al,aq];rw[av hpos,aaa],rF hv (h.bw hk)⟩
  .split at hl
   .rename_i k hk;have hsub:=yy h hk;split at hl
    .rename_i z m ha hz hs;simp only at hl;split at hl
     .rename_i hm;cases hl;rw[aP,aah,aP,aah,aZ,aZ,aq,aag,aag]at hn;obtain⟨hx,hy,hn⟩:=hn;replace hn:=Fl hn;refine⟨_,by simp only[CV.ev];rw[av hx],?_⟩;refine rG (cs:=(ba k x y 0 (z.cells.toList.map kindOf)).map (CV.ev J)) ha hs (by simp only[aaB,jO];simpa using hm) (fun j u hu=>?_);have:=qa _ 0 hn j u hu;rw[aaP]at this;exact Hl.ie hsub this
     .cases hl
    .rename_i z _ ha hz;cases hl;rw[aP,aah,aP,aah,aZ,aZ,aq,aag,aag]at hn;obtain⟨hx,hy,hn⟩:=hn;have:=sm hn;refine⟨_,by simp only[CV.ev];rw[av hx],vY ha ?_⟩;exact Hl.ie hsub this
    .cases hl
   .cases hl
 .cases hl
end
abbrev RT:=Option (E×TV)
def YX:UnOp->TV->RT
 | .not,.sv (.one (.bool e))=>some (.tt,TB (mkNot e))
 | .neg,.sv (.one (.int k e))=>some (.tt,TI k (mkWrap k (mkSub (.lit 0) e)))
 | .xor,.sv (.one (.int k e))=>some (.tt,TI k (.bits .xor k (.lit (if k.signed then -1 else k.max)) e))
 | _,_=>none
def strOf:List CV->Option E
 | []=>some (.slit .empty)
 | .int .u8 e::l=>(strOf l).map fun s=>Jh (.sbyte e) s
 | _=>none
def KM (P:Program) (el:TypeId):Bool:=match P.underlying el with | some (.int .u8)=>true | _=>false
def MB (P:Program) (mem:Mem) (src dst:TypeId) (x:TV):RT :=
 match P.underlying src,P.underlying dst,x with
 | some _,some (.int k),.sv (.one (.int _ e))=>some (.tt,TI k (mkWrap k e))
 | some .string,some .string,.sv (.one (.str e))=>some (.tt,TS e)
 | some (.slice el),some .string,.sv (.one (.sl x y l c)) =>
  if KM P el then
   if x=.lit (-1)then some (.tt,TS (.slit .empty))else
   match pJ mem x y,l with
   | some (_,_,cs,_,o),.lit n=>if o+n.toNat<=cs.length then(strOf ((cs.drop o).take n.toNat)).map fun s=>(.tt,TS s)else none
   | _,_=>match(Cu mem x).bind (fun r=>r.2.hk)with
    | some h=>some (mkOr (mkEq x (.lit (-1))) (mkOr (mkEq l (.lit 0)) (mkAnd (mkLe (.lit 0) x) (mkAnd (mkLe (.lit 0) y) (.hby h x y l)))),TS (mkIte (mkEq x (.lit (-1))) (.slit .empty) (.sof h x y l)))
    | none=>none
  else none
 | _,_,_=>none
def rY (P:Program) (mem:Mem) (s:TypeId) (f:Nat) (x:TV):RT :=
 match P.underlying s with
 | some (.struct fs)=>match fs[f]? with
  | some fl=>match fj P fl.type with
   | some (_+1)=>match x with
    | .sv (.one (.hptr x y))=>some (mkAnd (EK mem x) (mkLe (.lit 0) y),TP x (mkAdd y (.lit fl.offset)))
    | .sv (.one (.pti a o s n i))=>if(tf mem a).isSome then some (O9 i n,.sv (.one (.pti a (o+fl.offset) s n i)))else none
    | _=>none
   | _=>none
  | none=>none
 | _=>none
def r9 (P:Program) (mem:Mem) (t:TypeId) (x i:TV):RT :=
 match i with
 | .sv (.one (.int _ e))=>match P.underlying t with
  | some (.array len el)=>match fj P el,x with
   | some n,.sv (.one (.pti a o s m k))=>match e with
    | .lit j=>if 0<=j/\j<len/\(tf mem a).isSome then some (O9 k m,.sv (.one (.pti a (o+j.toNat*n) s m k)))else none
    | _=>none
   | some n,.sv (.one (.hptr x y))=>match e,pJ mem x y with
    | .lit j,_=>if 0<=j/\j<len then some (mkAnd (EK mem x) (mkLe (.lit 0) y),TP x (mkAdd y (.lit (j.toNat*n))))else none
    | e,some (a,_,_,_,o)=>some (O9 e len,.sv (.one (.pti a o n len e)))
    | e,none=>some (mkAnd (EK mem x) (mkAnd (mkLe (.lit 0) y) (O9 e len)),TP x (mkAdd y (mkMul e (.lit n))))
   | _,_=>none
  | some (.slice el)=>match fj P el,x with
   | some n,.sv (.one (.sl x y l _))=>match e,pJ mem x y,l with
    | .lit j,_,_=>some (mkAnd (EK mem x) (mkAnd (mkLe (.lit 0) y) (mkAnd (mkLe (.lit 0) (.lit j)) (mkLt (.lit j) l))),TP x (mkAdd y (mkMul (.lit j) (.lit n))))
    | e,some (a,_,_,_,o),.lit q=>some (mkAnd (O9 e q.toNat) (mkLe (.lit 0) (.lit q)),.sv (.one (.pti a o n q.toNat e)))
    | e,_,l=>some (mkAnd (EK mem x) (mkAnd (mkLe (.lit 0) y) (mkAnd (mkLe (.lit 0) e) (mkLt e l))),TP x (mkAdd y (mkMul e (.lit n))))
   | _,_=>none
  | _=>none
 | _=>none
def Gy (P:Program) (t:TypeId) (f:Nat) (x:TV):RT :=
 match P.underlying t,x with
 | some (.struct fs),.sv (.agg l)=>match fs[f]? with
  | some fl=>(gy P fl.type l fl.offset).map fun v=>(.tt,.sv v)
  | none=>none
 | _,_=>none
def GN (P:Program) (t:TypeId) (x i:TV):RT :=
 match P.underlying t,x,i with
 | some (.array len el),.sv (.agg l),.sv (.one (.int _ e))=>match fj P el with
  | some n=>match e with
   | .lit j=>if 0<=j/\j<len then(gy P el l (j.toNat*n)).map fun v=>(.tt,.sv v)else none
   | e=>match gO ((List.range len).map fun j=>gy P el l (j*n))with
    | some vs=>(zZ e 0 vs).map fun v=>(O9 e len,.sv v)
    | none=>none
  | none=>none
 | some .string,.sv (.one (.str s)),.sv (.one (.int _ e))=>some (mkAnd (mkLe (.lit 0) e) (mkLt e (wa s)),TI .u8 (NG s e))
 | _,_,_=>none
def yv (i:Nat):TV->RT
 | .tup l=>(l[i]?).map fun v=>(.tt,.sv v)
 | _=>none
def S4 (P:Program) (mem:Mem) (t:TypeId) (x:TV):RT :=
 match P.underlying t,x with
 | some (.array n _),_=>some (.tt,TI .i64 (.lit n))
 | some (.slice _),.sv (.one (.sl _ _ l _))=>some (mkLe (.lit 0) l,TI .i64 l)
 | some .string,.sv (.one (.str e))=>some (.tt,TI .i64 (wa e))
 | some (.map _ _),.sv (.one (.map x))=>match(Cu mem x).bind (fun r=>r.2.hk)with
  | some h=>some (mkAnd (mkLe (.lit 0) x) (mkAnd (mkLe (.lit 0) x) (.hism h x)),TI .i64 (.hmlen h x))
  | none=>none
 | _,_=>none
def Tc:TV->TV->Option TV
 | .sv (.one (.int k x)),.sv (.one (.int _ y))=>some (TI k (mkIte (mkLt y x) y x))
 | _,_=>none
def Tb:TV->TV->Option TV
 | .sv (.one (.int k x)),.sv (.one (.int _ y))=>some (TI k (mkIte (mkLt x y) y x))
 | _,_=>none
def Ed (f:TV->TV->Option TV):List TV->TV->Option TV
 | [],x=>some x
 | y::l,x=>match f x y with
  | some z=>Ed f l z
  | none=>none
def tH (st:St):List Operand->Option (List TV)
 | []=>some []
 | x::l=>match cN st x,tH st l with
  | some v,some vs=>some (v::vs)
  | _,_=>none
def xW (P:Program) (mem:Mem) (b:Builtin) (ats:Array TypeId) (vs:List TV):RT :=
 match b,vs with
 | .len,[x]=>match ats[0]? with | some t=>S4 P mem t x | none=>none
 | .min,x::l=>(Ed Tc l x).map fun v=>(.tt,v)
 | .max,x::l=>(Ed Tb l x).map fun v=>(.tt,v)
 | _,_=>none
def SV.cells:SV->List CV
 | .one c=>[c]
 | .agg l=>l
def CV.ru:CV->Bool
 | .val v=>v.oneCell'
 | .vr _=>false
 | .hv _ _ _ _=>false
 | _=>true
theorem CV.py {J:Env} (c:CV) (h:c.ru=true):(c.ev J).oneCell'=true:=by
 cases c<;>first | rfl | exact h | cases h
theorem SV.sU {J:Env} (v:SV) (h:v.cells.all CV.ru=true):(v.ev J).cells.toList=v.cells.map (CV.ev J):=by
 cases v with
 | one c =>
  simp only[SV.cells,ads,List.all_nil,Bool.and_true]at h;have:=CV.py (J:=J) c h;simp only[SV.ev,SV.cells,aaC,abp];generalize c.ev J=x at *;cases x<;>first | rfl | simp [Value.oneCell']at this
 | agg l=>simp [SV.ev,SV.cells,Value.cells]
def bI {α:Type} (l:List α) (o:Nat) (m:List α):List α:=l.take o++m++l.drop (o+m.length)
def yA (place:Nat->Option (Nat×Nat)) (l:List CV):List (Nat×SV)->Option (List CV)
 | []=>some l
 | (i,v)::rest=>match place i with
  | none=>none
  | some (off,size)=>if v.cells.length=size/\off+v.cells.length<=l.length/\v.cells.all CV.ru=true then yA place (bI l off v.cells) rest else none
def Ur:List TV->Option (List SV)
 | []=>some []
 | .sv v::l=>(Ur l).map (v::·)
 | _=>none
def Gn (P:Program) (t:TypeId) (is:List Nat) (vs:List TV):RT :=
 match lx P t,Ur vs with
 | some z,some vs=>match P.underlying t with
  | some (.struct fs)=>match gO (fs.toList.map fun f=>(fj P f.type).map fun n=>(f.offset,n))with
   | some places=>(yA (places[·]?) (z.cells.toList.map gV) (is.zip vs)).map fun l=>(.tt,.sv (.agg l))
   | none=>none
  | some (.array _ el)=>match fj P el with
   | some n=>(yA (fun i=>some (i*n,n)) (z.cells.toList.map gV) (is.zip vs)).map fun l=>(.tt,.sv (.agg l))
   | none=>none
  | _=>none
 | _,_=>none
def Sd (P:Program) (t:TypeId) (is:List Nat) (vs:List TV):RT :=
 match is,vs,lx P t,P.underlying t with
 | [0],[.sv (.one (.vr j))],some z,some (.struct fs)=>match z.cells.toList,fs.toList with
  | [_],[f]=>if f.offset=0/\fj P f.type=some 1 then some (.le (.vint j) (.lit 1),.sv (.agg [.vr j]))else none
  | _,_=>none
 | _,_,_,_=>none
def D8 (P:Program) (rec:TypeId->SV->SV->Option E) (xs ys:List CV):List Field->Option E
 | []=>some .tt
 | f::fs=>if f.name≠ "_" then
  match gy P f.type xs f.offset,gy P f.type ys f.offset with
  | some a,some b=>match rec f.type a b,D8 P rec xs ys fs with
   | some e,some r=>some (mkAnd e r)
   | _,_=>none
  | _,_=>none
  else D8 P rec xs ys fs
def IN (P:Program) (rec:TypeId->SV->SV->Option E) (e:TypeId) (xs ys:List CV):List Nat->Option E
 | []=>some .tt
 | i::is=>match gy P e xs (i*P.cellsOf e),gy P e ys (i*P.cellsOf e)with
  | some a,some b=>match rec e a b,IN P rec e xs ys is with
   | some q,some r=>some (mkAnd q r)
   | _,_=>none
  | _,_=>none
def Ct (P:Program):Nat->TypeId->SV->SV->Option E
 | 0,_,_,_=>none
 | d+1,t,x,y=>match P.underlying t with
  | some .bool=>match x,y with
   | .one (.bool a),.one (.bool b)=>some (NC a b)
   | _,_=>none
  | some (.int _)=>match x,y with
   | .one (.int k a),.one (.int k' b)=>if k=k' then some (mkEq a b)else none
   | _,_=>none
  | some .string=>match x,y with
   | .one (.str a),.one (.str b)=>some (mkSeq a b)
   | _,_=>none
  | some (.slice _)=>match x,y with
   | .one (.sl x _ _ _),.one (.sl x' _ _ _)=>if x'=.lit (-1)then some (mkEq x (.lit (-1)))else if x=.lit (-1)then some (mkEq x' (.lit (-1)))else none
   | _,_=>none
  | some (.pointer _)=>match x,y with
   | .one (.hptr x _),.one (.hptr x' _)=>if x'=.lit (-1)then some (mkEq x (.lit (-1)))else if x=.lit (-1)then some (mkEq x' (.lit (-1)))else none
   | _,_=>none
  | some (.map _ _)=>match x,y with
   | .one (.map x),.one (.map x')=>if x'=.lit (-1)then some (mkEq x (.lit (-1)))else if x=.lit (-1)then some (mkEq x' (.lit (-1)))else none
   | _,_=>none
  | some (.struct fs)=>match x,y with
   | .agg xs,.agg ys=>if P.stoodInHeld t=false then D8 P (Ct P d) xs ys fs.toList else none
   | _,_=>none
  | some (.array n e)=>match x,y with
   | .agg xs,.agg ys=>match P.info? e with
    | some _=>IN P (Ct P d) e xs ys (List.range n)
    | none=>none
   | _,_=>none
  | _=>none
def Sa (P:Program) (op:BinOp) (t:TypeId) (X Y:TV):RT :=
 match X,Y with
 | .sv (.one (.int k a)),.sv (.one (.int k' b))=>Sb op k k' a b
 | .sv (.one (.str a)),.sv (.one (.str b))=>Sc op a b
 | .sv (.one a),.sv (.one b)=>match Ct P 20 t (.one a) (.one b)with
  | some e=>match op with
   | .eql=>some (.tt,TB e)
   | .neq=>some (.tt,TB (mkNot e))
   | _=>none
  | none=>none
 | .sv (.agg a),.sv (.agg b)=>if P.eqGuardType P.depth t=false then
  match Ct P 20 t (.agg a) (.agg b)with
  | some e=>match op with
   | .eql=>some (.tt,TB e)
   | .neq=>some (.tt,TB (mkNot e))
   | _=>none
  | none=>none
  else none
 | _,_=>none
def NL (mem:Mem) (x:E):E :=
 match x with
 | .var a=>if(tf mem a).isSome then .tt else .le (.lit (-1)) x
 | x=>mkLe (.lit (-1)) x
def mw (d:E):Option TV->Option E
 | none=>some d
 | some (.sv (.one (.int _ e)))=>some e
 | _=>none
def Ac (m l:E) (y:E) (n:Nat):E:=mkIte (mkEq m l) y (mkAdd y (mkMul l (.lit n)))
def H5 (P:Program) (mem:Mem) (t:TypeId) (x:TV) (lo hi mx:Option TV):RT :=
 match mx with
 | some _=>none
 | none=>match P.underlying t,x with
  | some .string,.sv (.one (.str s))=>match mw (.lit 0) lo,mw (wa s) hi with
   | some l,some h=>some (mkAnd (mkLe (.lit 0) l) (mkAnd (mkLe l h) (mkLe h (wa s))),TS (.sext s l h))
   | _,_=>none
  | some (.slice el),.sv (.one (.sl x y len cap))=>match mw (.lit 0) lo,mw len hi,fj P el with
   | some l,some h,some n=>some (mkAnd (NL mem x) (mkAnd (mkLe (.lit 0) y) (mkAnd (mkLe (.lit 0) l) (mkAnd (mkLe l h) (mkLe h cap)))),
    .sv (.one (.sl x (Ac cap l y n) (mkSub h l) (mkSub cap l))))
   | _,_,_=>none
  | some (.array q el),.sv (.one (.hptr x y))=>match mw (.lit 0) lo,mw (.lit q) hi,fj P el with
   | some l,some h,some n=>some (mkAnd (EK mem x) (mkAnd (mkLe (.lit 0) y) (mkAnd (mkLe (.lit 0) l) (mkAnd (mkLe l h) (mkLe h (.lit q))))),
    .sv (.one (.sl x (Ac (.lit q) l y n) (mkSub h l) (mkSub (.lit q) l))))
   | _,_,_=>none
  | _,_=>none
def Hh (P:Program) (st:St) (op:BinOp) (t:TypeId) (x y:Operand):RT :=
 match cN st x,y with
 | some (.sv (.one (.vr j))),.const .nilIface=>match P.underlying t with
  | some (.interface _)=>match op with
   | .eql=>some (.le (.vint j) (.lit 1),TB (.eq (.vint j) (.lit 0)))
   | .neq=>some (.le (.vint j) (.lit 1),TB (.not (.eq (.vint j) (.lit 0))))
   | _=>none
  | _=>none
 | some (.sv (.one (.val .nilIface))),.const .nilIface=>match P.underlying t with
  | some (.interface _)=>match op with
   | .eql=>some (.tt,TB .tt)
   | .neq=>some (.tt,TB .ff)
   | _=>none
  | _=>none
 | _,_=>none
def quiet (P:Program) (st:St) (op:Op):RT :=
 match op with
 | .move x=>(cN st x).map fun v=>(.tt,v)
 | .assign x=>(cN st x).map fun v=>(.tt,v)
 | .pick c a b=>match cN st c with
  | some (.sv (.one (.bool e)))=>match known st.path e with
   | some true=>(cN st a).map fun v=>(.tt,v)
   | some false=>(cN st b).map fun v=>(.tt,v)
   | none=>match cN st a,cN st b with
    | some (.sv va),some (.sv vb)=>(xw e va vb).map fun v=>(.tt,.sv v)
    | _,_=>none
  | _=>none
 | .nilCheck x=>match cN st x with
  | some (.sv (.one (.hptr x y)))=>some (EK st.mem x,TP x y)
  | _=>none
 | .binOp op t x y _=>match Hh P st op t x y with
  | some r=>some r
  | none=>match cN st x,cN st y with
   | some a,some b=>Sa P op t a b
   | _,_=>none
 | .unOp op _ x=>match cN st x with
  | some a=>YX op a
  | none=>none
 | .convert s d x=>match cN st x with
  | some a=>MB P st.mem s d a
  | none=>none
 | .fieldAddr s x f=>match cN st x with
  | some a=>rY P st.mem s f a
  | none=>none
 | .field t x f=>match cN st x with
  | some a=>Gy P t f a
  | none=>none
 | .indexAddr t x i=>match cN st x,cN st i with
  | some a,some b=>r9 P st.mem t a b
  | _,_=>none
 | .index t x i=>match cN st x,cN st i with
  | some a,some b=>GN P t a b
  | _,_=>none
 | .load t x=>match cN st x with
  | some (.sv (.one c))=>(Jd P st.mem t c).map fun r=>(r.1,.sv r.2)
  | _=>none
 | .extract x i=>match cN st x with
  | some a=>yv i a
  | none=>none
 | .sliceToArrayPointer t x=>match P.underlying t,cN st x with
  | some (.array n _),some (.sv (.one (.sl x y l _)))=>some (mkLe (.lit n) l,TP x y)
  | _,_=>none
 | .slice t x lo hi mx=>match cN st x with
  | some a=>match(match lo with | none=>some none | some o=>(cN st o).map some),(match hi with | none=>some none | some o=>(cN st o).map some),(match mx with | none=>some none | some o=>(cN st o).map some)with
   | some l,some h,some m=>H5 P st.mem t a l h m
   | _,_,_=>none
  | none=>none
 | .makeFunc (.func f) first captured=>if first=#[]/\captured=#[]then some (.tt,.sv (.one (.val (.func (.func f) #[] #[]))))else match captured.toList with
  | [c]=>if first=#[]then match cN st c with
   | some (.sv (.one (.hptr x y)))=>if y=.lit 0 then some (.tt,.sv (.one (.clo f x)))else none
   | _=>none
   else none
  | _=>none
 | .call {callee:=.builtin b,args,argTypes}=>match tH st args.toList with
  | some vs=>xW P st.mem b argTypes vs
  | none=>none
 | .build t parts=>match tH st (parts.toList.map (·.2))with
  | some vs=>match Sd P t (parts.toList.map (·.1)) vs with
   | some r=>some r
   | none=>Gn P t (parts.toList.map (·.1)) vs
  | none=>none
 | _=>none
end Go.Sx
