/- Bytes that are no request are told nothing and change nothing: a part of the proof. No condition. -/
import Derived.ChangeKeysEq
import Derived.Laws.BytesString
import Derived.Laws.CopyRow
import Derived.Laws.Rows
import Derived.Laws.Strings
import Derived.Laws.Tables
import Derived.WalkKit
set_option linter.all false
namespace Go
def MD:=@Int.toNat_natCast
def ME:=@List.getElem?_eq_getElem
def MF:=@List.length_eq_zero_iff
def MG:=@List.mem_of_getElem?
def MH:=@List.cons.injEq
def MI:=@decide_eq_true_eq
def MJ:=@List.length_append
def MK:=@List.getElem?_eq_some_iff
def ML:=@Bool.and_eq_true
def MM:=@if_neg
def MN:=@Option.map_eq_some_iff
def MO:=@List.mem_singleton
def MP:=@Option.some.injEq
def MQ:=@List.mem_cons
def MR:=@List.getD_eq_getElem?_getD
def MS:=@List.getElem?_eq_none
def MT:=@Int.le_refl
def MU:=@List.getElem?_map
def MV:=@List.mem_nil_iff
def MW:=@List.mem_cons_of_mem
def MX:=@List.getElem?_append_right
def MY:=@List.append_assoc
def MZ:=@and_true
def M0:=@if_pos
def M1:=@Nat.le_refl
def M3:=@List.length_take
def M4:=@List.toArray_inj
def M5:=@List.getElem?_append_left
def M6:=@List.map_cons
def M7:=@List.length_map
def M8:=@List.all_eq_true
def M9:=@List.map_append
def Na:=@Array.getElem?_setIfInBounds
def Nb:=@List.mem_append
def Nc:=@Array.mk.injEq
def Nf:=@List.getElem?_range
def Ng:=@Array.getElem?_eq_some_iff
def Nh:=@List.mem_cons_self
def Ni:=@List.ext_getElem?
def Nj:=@List.length_drop
def Nk:=@List.length_cons
def Nl:=@Option.map_some
def Nm:=@List.getElem?_drop
def Nn:=@List.mem_range
def Np:=@List.mem_map
def Nq:=@List.length_singleton
def Nr:=@Prod.mk.injEq
def Ns:=@congrArg
def Nt:=@or_false
def Nu:=@List.append_nil
def Nv:=@List.getElem?_take_of_lt
def Nw:=@Nat.zero_add
def Nx:=@Option.some.inj
def Ny:=@List.getElem?_set_ne
def Nz:=@true_and
def NA:=@List.getElem?_of_mem
def NB:=@List.getElem?_take
def NC:=@List.getElem?_cons_succ
def ND:=@Nat.lt_or_ge
def NF:=@decide_eq_false_iff_not
def NG:=@List.getElem?_cons_zero
def NH:=@Nat.add_zero
def NI:=@Bool.false_eq_true
def NJ:=@Option.isSome_iff_exists
def NK:=@Bool.not_eq_true'
def NL:=@List.map_congr_left
def NM:=@List.getElem_mem
def NN:=@List.map_nil
def NO:=@Nat.zero_le
def NP:=@List.contains_iff_mem
def NQ:=@List.mem_append_right
def NR:=@Classical.byContradiction
def NS:=@Nat.le_of_ble_eq_true
def NT:=@Nat.le_trans
def NU:=@Int.lt_or_le
def NV:=@Nat.add_le_add
def NW:=@List.mem_filter
def NX:=@List.getElem?_set_self
def NY:=@List.map_map
def NZ:=@List.take_length
def N0:=@List.length_nil
def N1:=@List.nil_append
def N2:=@List.mem_iff_getElem?
def N3:=@Int.eq_ofNat_of_zero_le
def N4:=@Bool.eq_false_iff
def N5:=@List.mem_append_left
def N6:=@Bool.or_eq_true
def N7:=@List.getElem?_toArray
def N9:=@List.map_eq_nil_iff
def Oa:=@Array.getElem?_setIfInBounds_ne
def Oc:=@Int.fdiv_eq_ediv_of_nonneg
def Od:=@List.take_of_length_le
def Oe:=@Option.getD_some
def Of:=@Array.length_toList
def Og:=@List.length_replicate
def Oh:=@List.take_add_one
def Oi:=@Nat.lt_of_lt_of_le
def Oj:=@List.getElem?_replicate
def Ok:=@Int.natCast_nonneg
def Ol:=@of_decide_eq_true
def Om:=@if_false
def On:=@List.take_append_drop
def Oo:=@List.eq_nil_of_length_eq_zero
def Oq:=@List.ext_getElem
def Ot:=@List.take_append_of_le_length
def Ou:=@List.contains_eq_mem
def Ov:=@List.mem_of_mem_take
def Ow:=@Nat.add_assoc
def Ox:=@List.take_left
def Oy:=@List.length_range
def Oz:=@List.flatten_cons
def OA:=@if_true
def OB:=@Option.map_none
def OC:=@Int.tmod_eq_emod_of_nonneg
def OD:=@List.cons_append
def OE:=@Nat.add_mul
def OF:=@List.pairwise_iff_getElem
def OG:=@List.getElem?_eq_none_iff
def OH:=@List.take_zero
def OI:=@BitVec.ofInt_natCast
def OJ:=@not_true_eq_false
def OL:=@List.size_toArray
def OM:=@Option.bind_some
def ON:=@Nat.mod_eq_of_lt
def OO:=@List.drop_drop
def OQ:=@List.find?_eq_none
def OR:=@Nat.eq_zero_or_pos
def OS:=@BitVec.toNat_ofNat
def OT:=@Option.toList_some
def OU:=@Bool.eq_iff_iff
def OV:=@Nat.mul_comm
def OW:=@Array.getElem?_toList
def OX:=@Nat.pow_succ
def OY:=@List.drop_left'
def OZ:=@List.take_left'
def O0:=@List.getElem?_append
def O1:=@Nat.mul_le_mul_right
def O2:=@Nat.pow_le_pow_right
def O3:=@List.mem_or_eq_of_mem_set
def O4:=@List.mem_of_find?_eq_some
def O5:=@List.drop_eq_getElem_cons
def O6:=@forall_eq_or_imp
def O7:=@Int.toNat_of_nonneg
def O8:=@List.flatten_append
def O9:=@Array.size_setIfInBounds
def Pa:=@List.map_take
def Pb:=@Array.getElem?_eq_none
def Pd:=@List.drop_eq_nil_of_le
def Pe:=@beq_iff_eq
def Pf:=@Nat.mul_one
def Pg:=@Int.mul_le_mul_of_nonneg_right
def Ph:=@List.eq_nil_iff_forall_not_mem
def Pj:=@List.set_append_right
def Pm:=@List.map_toArray
def Pn:=@List.mem_flatten
def Po:=@Nat.shiftLeft_add_eq_or_of_lt
def Pp:=@List.flatten_nil
def Pq:=@List.prefix_refl
def Pr:=@Array.toArray_toList
def Ps:=@List.mem_of_mem_drop
def Pt:=@List.map_drop
def Pu:=@List.foldl_cons
def Pv:=@List.mem_map_of_mem
def Pw:=@Nat.le_zero
def Px:=@List.replicate_succ
def Py:=@Nat.min_eq_left
def Pz:=@BitVec.toNat_or
def PA:=@List.toList_toArray
def PB:=@Array.toList_setIfInBounds
def PC:=@Int.tdiv_eq_ediv_of_nonneg
def PD:=@Bool.false_ne_true
def PE:=@List.map_replicate
def PF:=@List.pairwise_cons
def PG:=@List.mem_replicate
def PH:=@Nat.mul_le_mul
def PI:=@List.drop_left
def PJ:=@List.mapM_toArray
def PK:=@Function.comp_def
def PL:=@List.eq_of_mem_replicate
def PM:=@Int.emod_eq_of_lt
def PN:=@UInt8.toNat_ofNat_of_lt'
def PO:=@List.all_cons
def PQ:=@Nat.sub_zero
def PR:=@List.find?_cons
def PT:=@Nat.add_comm
def PU:=@Array.getElem?_modify
def PV:=@List.find?_some
def PW:=@List.pairwise_append
def PX:=@Array.size_replicate
def PY:=@List.mapM_cons
def PZ:=@Int.toNat_zero
def Qa:=@List.take_take
def Qb:=@List.drop_zero
def Qc:=@Array.toList_append
def Qd:=@Iff.rfl
def Qe:=@List.take_add
def Qf:=@Int.lt_irrefl
def Qg:=@Nat.mod_lt
def Qh:=@Nat.sub_self
def Qi:=@Nat.lt_trans
def Qj:=@Nat.zero_mul
def Qk:=@Nat.succ_mul
def Ql:=@Nat.le_of_eq
def Qm:=@Nat.pow_add
def Qn:=@forall_eq
def Qo:=@not_false
end Go
namespace Go.Sx
open Go
variable {op:BinOp}{j k m n o p:Nat}{α β:Type}{T t:TypeId}{v:Value}
def zzT:True:=trivial
def ae {p:Prop} (h:p:=by omega):p:=h
def ar {p:Prop} (h:p:=by simp):p:=h
def aj {p:Prop} (h:p:=by decide):p:=h
def mapIx {α β:Type} (f:Nat->α->β):Nat->List α->List β
 | _,[]=>[]
 | n,a::l=>f n a::mapIx f (n+1) l
def mapIx_get {α β:Type} {f:Nat->α->β} : ∀ {l:List α} {n j:Nat},(mapIx f n l)[j]?=(l[j]?).map (f (n+j))
 | [],_,_=>rfl
 | a::l,n,0=>rfl
 | a::l,n,j+1=>by
  show(mapIx f (n+1) l)[j]?=(l[j]?).map (f (n+(j+1)));rw[mapIx_get,show n+1+j=n+(j+1)by omega]
def mapIx_get0 {f:Nat->α->β} {l:List α} : (mapIx f 0 l)[j]?=(l[j]?).map (f j):=by
 rw[mapIx_get,Nw]
@[simp] theorem mapIx_length {α β:Type} {f:Nat->α->β} : ∀ {l:List α} {n:Nat},(mapIx f n l).length=l.length
 | [],_=>rfl
 | a::l,n=>by simp [mapIx,mapIx_length (l:=l)]
def eqN:List Nat->List Nat->Bool
 | [],[]=>true
 | a::l,b::m=>Nat.beq a b&&eqN l m
 | _,_=>false
abbrev Hl:=Nat->Option Obj
def Hl.cell (h:Hl) (x y:Nat):Option Value :=
 match h x with
 | some (.cells c _ _)=>c[y]?
 | _=>none
def Hl.sub (h:Hl) (w:World):Prop:=∀ (b:Nat) o,h b=some o->w.heap[b]?=some o
def Hl.mem (h:Hl) (b:Nat):Prop:=(h b).isSome=true
def Hl.dis (h k:Hl):Prop:=∀ b,¬(h.mem b/\k.mem b)
def Hl.one (b:Nat) (o:Obj):Hl:=fun c=>if c=b then some o else none
def Hl.none:Hl:=fun _=>Option.none
def Hl.all (w:World):Hl:=fun b=>w.heap[b]?
def Hl.one_self (b:Nat) (o:Obj):Hl.one b o b=some o:=M0 rfl
def Hl.one_eq {b c:Nat} {o p:Obj} (h:Hl.one b o c=some p):c=b/\p=o:=by
 unfold Hl.one at h;split at h
 .exact⟨‹_›,(Nx h).symm⟩
 .cases h
def Hl.one_mem {b c:Nat} {o:Obj} : (Hl.one b o).mem c↔c=b:=by
 unfold Hl.mem Hl.one;split<;>simp [*]
def Hl.sub_cell {h:Hl} {w:World} (hs:h.sub w) {x y:Nat} (a:h.cell x y=some v):w.cell? ⟨x,y,Option.none⟩=some v:=by
 unfold Hl.cell at a;split at a
 .rename_i hb;simp [World.cell?,hs _ _ hb,a]
 .cases a
def Hl.all_sub (w:World):(Hl.all w).sub w:=fun _ _ h=>h
def Hl.dis_symm {h k:Hl} (d:h.dis k):k.dis h:=fun b ⟨x,y⟩=>d b ⟨y,x⟩
inductive Kd | int (k:IntKind) | bool | slice | ptr | str | map | any
 deriving DecidableEq
structure Env where
 i:Nat->Int
 b:Nat->Bool
 s:Nat->ByteArray
 v:Nat->Value
 h:Nat->Hl
inductive E where
 | lit (n:Int) | var (i:Nat)
 | add (a b:E) | sub (a b:E) | mul (a b:E) | quo (a b:E) | rem (a b:E)
 | wrap (k:IntKind) (a:E)
 | bits (op:BinOp) (k:IntKind) (a b:E)
 | shl (k:IntKind) (a b:E) | shr (k:IntKind) (a b:E)
 | tt | ff | bvar (i:Nat)
 | not (a:E) | and (a b:E) | or (a b:E)
 | ite (c a b:E)
 | lt (a b:E) | le (a b:E) | eq (a b:E) | beq (a b:E)
 | hI (h:Nat) (x y:E) (j:Nat) | hB (h:Nat) (x y:E) (j:Nat) | hP (h:Nat) (x y:E) (j which:Nat) | hS (h:Nat) (x y:E) (j:Nat) | his (h:Nat) (x y:E) (j:Nat) (k:Kd)
 | svar (i:Nat) | slit (s:ByteArray) | scat (a b:E) | sbyte (a:E) | sof (h:Nat) (x y l:E)
 | slen (a:E) | sat (a i:E) | sext (a i j:E) | seq (a b:E) | slt (a b:E)
 | hmlen (h:Nat) (x:E) | vint (v:Nat) | hby (h:Nat) (x y l:E) | hism (h:Nat) (x:E) | hks (h:Nat) (x y:E) (ks:List Kd)
 deriving DecidableEq
variable {e f i:E}
def bitsI (op:BinOp) (k:IntKind) (x y:Int):Int :=
 let a:=BitVec.ofInt k.bits x
 let b:=BitVec.ofInt k.bits y
 match op with
 | .and=>k.wrap (a &&&b).toNat
 | .or=>k.wrap (a |||b).toNat
 | .xor=>k.wrap (a ^^^ b).toNat
 | .andNot=>k.wrap (a &&&~~~b).toNat
 | _=>0
def stepP:Nat×Nat->Nat×Nat
 | (0,b)=>(b+1,0)
 | (a+1,b)=>(a,b+1)
def unp:Nat->Nat×Nat
 | 0=>(0,0)
 | n+1=>stepP (unp n)
def unp_all:∀ s b a:Nat,a+b=s->∃ n,unp n=(a,b):=by
 intro s
 induction s with
 | zero=>intro b a h;exact⟨0,by rw[show a=0 by omega,show b=0 by omega];rfl⟩
 | succ s ih =>
  intro b
  induction b with
  | zero=>intro a h;obtain⟨n,hn⟩:=ih s 0 ae;exact⟨n+1,by rw[unp,hn,show a=s+1 by omega];rfl⟩
  | succ b c=>intro a h;obtain⟨n,hn⟩:=c (a+1) ae;exact⟨n+1,by rw[unp,hn];rfl⟩
def tri:Nat->Nat
 | 0=>0
 | n+1=>tri n+n+1
def pairN (a b:Nat):Nat:=tri (a+b)+b
def unp_tri:∀ s b a:Nat,a+b=s->unp (tri s+b)=(a,b):=by
 intro s
 induction s with
 | zero=>intro b a h;rw[show a=0 by omega,show b=0 by omega];rfl
 | succ s ih =>
  intro b
  induction b with
  | zero=>intro a h;rw[show tri (s+1)+0=(tri s+s)+1 from rfl,unp,ih s 0 ae,show a=s+1 by omega];rfl
  | succ b c=>intro a h;rw[<-Ow,unp,c (a+1) ae];rfl
def unp_pair (a b:Nat):unp (pairN a b)=(a,b):=unp_tri _ b a rfl
def vcode:Value->Int
 | .nilIface=>0
 | .iface _ _=>1
 | _=>2
def vcode_le (h:vcode v<=1):v=.nilIface\/∃ t x,v=.iface t x:=by
 cases v<;>simp [vcode]at h ⊢
def slP (x y:Int):Option Addr:=if 0<=x then some ⟨x.toNat,y.toNat,none⟩else if x= -1 then none else some ⟨(-x-2).toNat,(unp y.toNat).1,some (unp y.toNat).2⟩
def slP_pos {x y:Int} (h:0<=x):slP x y=some ⟨x.toNat,y.toNat,none⟩:=M0 h
def slP_nil (y:Int):slP (-1) y=none:=rfl
def slP_some {x y:Int} (h:x≠ -1):(slP x y).isNone=false:=by unfold slP;split<;>simp
def slP_isNone (x y:Int):(slP x y).isNone=decide (x= -1):=by
 by_cases h:x= -1
 .subst h;rfl
 .rw[slP_some h];simp [h]
def slP_all (a:Option Addr):∃ x y:Int,a=slP x y/\0<=y/\ -1<=y:=by
 cases a with
 | none=>exact⟨-1,0,rfl,ae,ae⟩
 | some q =>
  obtain⟨b,o,s⟩:=q;cases s with
  | none=>exact⟨b,o,by simp [slP],ae,ae⟩
  | some s =>
   obtain⟨n,hn⟩:=unp_all (o+s) s o rfl;refine⟨-(b:Int)-2,n,?_,ae,ae⟩;unfold slP;rw[MM ae,MM ae,MD,hn,show(-(-(b:Int)-2)-2).toNat=b by omega]
def valI:Option Value->Int | some (.int _ n)=>n | _=>0
def valB:Option Value->Bool | some (.bool b)=>b | _=>false
def valS:Option Value->ByteArray | some (.string s)=>s | _=>.empty
def valP:Option Value->Nat->Int
 | some (.slice none _ _),0=> -1
 | some (.slice (some ⟨b,_,none⟩) _ _),0=>b
 | some (.slice (some ⟨b,_,some _⟩) _ _),0=> -(b:Int)-2
 | some (.slice (some ⟨_,o,none⟩) _ _),1=>o
 | some (.slice (some ⟨_,o,some s⟩) _ _),1=>pairN o s
 | some (.slice _ n _),2=>n
 | some (.slice _ _ c),3=>c
 | some (.pointer none),0=> -1
 | some (.pointer (some ⟨b,_,_⟩)),0=>b
 | some (.pointer (some ⟨_,o,_⟩)),1=>o
 | some (.map none),0=> -1
 | some (.map (some r)),0=>r
 | _,_=>0
def valIs:Option Value->Kd->Bool
 | some (.int k _),.int a=>k=a
 | some (.bool _),.bool=>true
 | some (.string _),.str=>true
 | some (.slice _ _ _),.slice=>true
 | some (.pointer (some ⟨_,_,none⟩)),.ptr=>true
 | some (.pointer none),.ptr=>true
 | some (.map _),.map=>true
 | some _,.any=>true
 | _,_=>false
def bytesOf (a:List Int):ByteArray:=a.foldl (fun r n=>r.push (UInt8.ofNat n.toNat)) ByteArray.empty
def cellInts (h:Hl) (x y n:Nat):List Int:=(List.range n).map fun j=>valI (h.cell x (y+j))
def cellBytes (h:Hl) (x y n:Nat):Bool:=(List.range n).all fun j=>valIs (h.cell x (y+j)) (.int .u8)
def rowIs (h:Hl) (x:Nat):Nat->List Kd->Bool
 | _,[]=>true
 | y,k::l=>valIs (h.cell x y) k&&rowIs h x (y+1) l
def isMap:Option Obj->Bool
 | some (.map _ _)=>true
 | _=>false
def mapLen:Option Obj->Int
 | some (.map es _)=>es.size
 | _=>0
def ev (J:Env):E->Int×Bool×ByteArray
 | .lit n=>(n,false,.empty)
 | .var i=>(J.i i,false,.empty)
 | .add a b=>((ev J a).1+(ev J b).1,false,.empty)
 | .sub a b=>((ev J a).1-(ev J b).1,false,.empty)
 | .mul a b=>((ev J a).1*(ev J b).1,false,.empty)
 | .quo a b=>((ev J a).1.tdiv (ev J b).1,false,.empty)
 | .rem a b=>((ev J a).1.tmod (ev J b).1,false,.empty)
 | .wrap k a=>(k.wrap (ev J a).1,false,.empty)
 | .bits op k a b=>(bitsI op k (ev J a).1 (ev J b).1,false,.empty)
 | .shl k a b=>(k.wrap ((ev J a).1*2 ^ (min (ev J b).1.toNat k.bits)),false,.empty)
 | .shr k a b=>((ev J a).1.fdiv (2 ^ (min (ev J b).1.toNat k.bits)),false,.empty)
 | .tt=>(0,true,.empty)
 | .ff=>(0,false,.empty)
 | .bvar i=>(0,J.b i,.empty)
 | .not a=>(0,!(ev J a).2.1,.empty)
 | .and a b=>(0,(ev J a).2.1&&(ev J b).2.1,.empty)
 | .or a b=>(0,(ev J a).2.1||(ev J b).2.1,.empty)
 | .ite c a b=>(if(ev J c).2.1 then(ev J a).1 else(ev J b).1,if(ev J c).2.1 then(ev J a).2.1 else(ev J b).2.1,if(ev J c).2.1 then(ev J a).2.2 else(ev J b).2.2)
 | .lt a b=>(0,decide ((ev J a).1<(ev J b).1),.empty)
 | .le a b=>(0,decide ((ev J a).1<=(ev J b).1),.empty)
 | .eq a b=>(0,decide ((ev J a).1=(ev J b).1),.empty)
 | .beq a b=>(0,(ev J a).2.1==(ev J b).2.1,.empty)
 | .hI h x y j=>(valI ((J.h h).cell (ev J x).1.toNat ((ev J y).1.toNat+j)),false,.empty)
 | .hB h x y j=>(0,valB ((J.h h).cell (ev J x).1.toNat ((ev J y).1.toNat+j)),.empty)
 | .hP h x y j k=>(valP ((J.h h).cell (ev J x).1.toNat ((ev J y).1.toNat+j)) k,false,.empty)
 | .hS h x y j=>(0,false,valS ((J.h h).cell (ev J x).1.toNat ((ev J y).1.toNat+j)))
 | .his h x y j k=>(0,valIs ((J.h h).cell (ev J x).1.toNat ((ev J y).1.toNat+j)) k,.empty)
 | .svar i=>(0,false,J.s i)
 | .slit s=>(0,false,s)
 | .scat a b=>(0,false,(ev J a).2.2++(ev J b).2.2)
 | .sbyte a=>(0,false,bytesOf [(ev J a).1])
 | .sof h x y l=>(0,false,bytesOf (cellInts (J.h h) (ev J x).1.toNat (ev J y).1.toNat (ev J l).1.toNat))
 | .slen a=>((ev J a).2.2.size,false,.empty)
 | .sat a i=>(((ev J a).2.2.data[(ev J i).1.toNat]?.getD 0).toNat,false,.empty)
 | .sext a i j=>(0,false,(ev J a).2.2.extract (ev J i).1.toNat (ev J j).1.toNat)
 | .seq a b=>(0,decide ((ev J a).2.2=(ev J b).2.2),.empty)
 | .slt a b=>(0,decide ((ev J a).2.2.data.toList<(ev J b).2.2.data.toList),.empty)
 | .hmlen h x=>(mapLen (J.h h (ev J x).1.toNat),false,.empty)
 | .vint v=>(vcode (J.v v),false,.empty)
 | .hism h x=>(0,isMap (J.h h (ev J x).1.toNat),.empty)
 | .hks h x y ks=>(0,rowIs (J.h h) (ev J x).1.toNat (ev J y).1.toNat ks,.empty)
 | .hby h x y l=>(0,cellBytes (J.h h) (ev J x).1.toNat (ev J y).1.toNat (ev J l).1.toNat,.empty)
def iev (J:Env) (e:E):Int:=(ev J e).1
def bev (J:Env) (e:E):Bool:=(ev J e).2.1
def sev (J:Env) (e:E):ByteArray:=(ev J e).2.2
section
variable (J:Env) (a b c x y l:E)
def iev_lit (n:Int):iev J (.lit n)=n:=rfl
def iev_var (i:Nat):iev J (.var i)=J.i i:=rfl
def iev_add:iev J (.add a b)=iev J a+iev J b:=rfl
def iev_sub:iev J (.sub a b)=iev J a-iev J b:=rfl
def iev_mul:iev J (.mul a b)=iev J a*iev J b:=rfl
def iev_quo:iev J (.quo a b)=(iev J a).tdiv (iev J b):=rfl
def iev_rem:iev J (.rem a b)=(iev J a).tmod (iev J b):=rfl
def iev_wrap (k:IntKind):iev J (.wrap k a)=k.wrap (iev J a):=rfl
def iev_bits (op:BinOp) (k:IntKind):iev J (.bits op k a b)=bitsI op k (iev J a) (iev J b):=rfl
def iev_shl (k:IntKind):iev J (.shl k a b)=k.wrap (iev J a*2 ^ (min (iev J b).toNat k.bits)):=rfl
def iev_shr (k:IntKind):iev J (.shr k a b)=(iev J a).fdiv (2 ^ (min (iev J b).toNat k.bits)):=rfl
def iev_ite:iev J (.ite c a b)=if bev J c then iev J a else iev J b:=rfl
def iev_hI (h j:Nat):iev J (.hI h x y j)=valI ((J.h h).cell (iev J x).toNat ((iev J y).toNat+j)):=rfl
def iev_hP (h j k:Nat):iev J (.hP h x y j k)=valP ((J.h h).cell (iev J x).toNat ((iev J y).toNat+j)) k:=rfl
def iev_slen:iev J (.slen a)=(sev J a).size:=rfl
def iev_hmlen (h:Nat):iev J (.hmlen h x)=mapLen (J.h h (iev J x).toNat):=rfl
def iev_vint (v:Nat):iev J (.vint v)=vcode (J.v v):=rfl
def bev_tt:bev J .tt=true:=rfl
def bev_ff:bev J .ff=false:=rfl
def bev_bvar (i:Nat):bev J (.bvar i)=J.b i:=rfl
def bev_not:bev J (.not a)=!bev J a:=rfl
def bev_and:bev J (.and a b)=(bev J a&&bev J b):=rfl
def bev_or:bev J (.or a b)=(bev J a||bev J b):=rfl
def bev_ite:bev J (.ite c a b)=if bev J c then bev J a else bev J b:=rfl
def bev_lt:bev J (.lt a b)=decide (iev J a<iev J b):=rfl
def bev_le:bev J (.le a b)=decide (iev J a<=iev J b):=rfl
def bev_eq:bev J (.eq a b)=decide (iev J a=iev J b):=rfl
def bev_beq:bev J (.beq a b)=(bev J a==bev J b):=rfl
def bev_hB (h j:Nat):bev J (.hB h x y j)=valB ((J.h h).cell (iev J x).toNat ((iev J y).toNat+j)):=rfl
def bev_his (h j:Nat) (k:Kd):bev J (.his h x y j k)=valIs ((J.h h).cell (iev J x).toNat ((iev J y).toNat+j)) k:=rfl
def bev_hby (h:Nat):bev J (.hby h x y l)=cellBytes (J.h h) (iev J x).toNat (iev J y).toNat (iev J l).toNat:=rfl
def bev_hism (h:Nat):bev J (.hism h x)=isMap (J.h h (iev J x).toNat):=rfl
def bev_seq:bev J (.seq a b)=decide (sev J a=sev J b):=rfl
def sev_svar (i:Nat):sev J (.svar i)=J.s i:=rfl
def sev_slit (s:ByteArray):sev J (.slit s)=s:=rfl
def sev_sbyte:sev J (.sbyte a)=bytesOf [iev J a]:=rfl
def sev_sof (h:Nat):sev J (.sof h x y l)=bytesOf (cellInts (J.h h) (iev J x).toNat (iev J y).toNat (iev J l).toNat):=rfl
def sev_sext:sev J (.sext a x y)=(sev J a).extract (iev J x).toNat (iev J y).toNat:=rfl
def sev_hS (h j:Nat):sev J (.hS h x y j)=valS ((J.h h).cell (iev J x).toNat ((iev J y).toNat+j)):=rfl
def sev_ite:sev J (.ite c a b)=if bev J c then sev J a else sev J b:=rfl
end
section
variable (J:Env) (a b c x y l:E)
def bT_tt:(bev J .tt=true)=True:=by simp [bev_tt]
def bT_ff:(bev J .ff=true)=False:=by simp [bev_ff]
def bT_bvar (i:Nat):(bev J (.bvar i)=true)=(J.b i=true):=rfl
def bT_not:(bev J (.not a)=true)=¬(bev J a=true):=by simp [bev_not]
def bT_and:(bev J (.and a b)=true)=(bev J a=true/\bev J b=true):=by simp [bev_and]
def bT_or:(bev J (.or a b)=true)=(bev J a=true\/bev J b=true):=by simp [bev_or]
def bT_ite:(bev J (.ite c a b)=true)=if bev J c=true then bev J a=true else bev J b=true:=by rw[bev_ite];split<;>rfl
def bT_lt:(bev J (.lt a b)=true)=(iev J a<iev J b):=by simp [bev_lt]
def bT_le:(bev J (.le a b)=true)=(iev J a<=iev J b):=by simp [bev_le]
def bT_eq:(bev J (.eq a b)=true)=(iev J a=iev J b):=by simp [bev_eq]
def bT_beq:(bev J (.beq a b)=true)=((bev J a=true)=(bev J b=true)):=by rw[bev_beq];cases bev J a<;>cases bev J b<;>simp
def bT_seq:(bev J (.seq a b)=true)=(sev J a=sev J b):=by simp [bev_seq]
def bT_hB (h j:Nat):(bev J (.hB h x y j)=true)=(valB ((J.h h).cell (iev J x).toNat ((iev J y).toNat+j))=true):=rfl
def bT_his (h j:Nat) (k:Kd):(bev J (.his h x y j k)=true)=(valIs ((J.h h).cell (iev J x).toNat ((iev J y).toNat+j)) k=true):=rfl
def bT_hks (h:Nat) (ks:List Kd):(bev J (.hks h x y ks)=true)=(rowIs (J.h h) (iev J x).toNat (iev J y).toNat ks=true):=rfl
def bT_hby (h:Nat):(bev J (.hby h x y l)=true)=(cellBytes (J.h h) (iev J x).toNat (iev J y).toNat (iev J l).toNat=true):=rfl
def bT_hism (h:Nat):(bev J (.hism h x)=true)=(isMap (J.h h (iev J x).toNat)=true):=rfl
end
def mkNot:E->E
 | .tt=>.ff
 | .ff=>.tt
 | .not a=>a
 | a=>.not a
def bev_mkNot (J:Env) (a:E):bev J (mkNot a)=!bev J a:=by
 unfold mkNot;split<;>simp [bev_tt,bev_ff,bev_not]
def mkAnd (a b:E):E :=
 match a,b with
 | .tt,b=>b
 | .ff,_=>.ff
 | a,.tt=>a
 | _,.ff=>.ff
 | a,b=>if a=b then a else .and a b
def bev_mkAnd (J:Env) (a b:E):bev J (mkAnd a b)=(bev J a&&bev J b):=by
 unfold mkAnd;split<;>try simp [bev_tt,bev_ff,bev_and]
 split
 .rename_i h;rw[h];simp
 .rfl
def mkOr (a b:E):E :=
 match a,b with
 | .tt,_=>.tt
 | .ff,b=>b
 | _,.tt=>.tt
 | a,.ff=>a
 | a,b=>if b=mkNot a then .tt else .or a b
def bev_mkOr (J:Env) (a b:E):bev J (mkOr a b)=(bev J a||bev J b):=by
 unfold mkOr;split<;>try simp [bev_tt,bev_ff,bev_or]
 split
 .rename_i h;rw[h,bev_mkNot,bev_tt];cases bev J a<;>rfl
 .rfl
def mkIteB (c a b:E):E :=
 match c,a,b with
 | .tt,a,_=>a
 | .ff,_,b=>b
 | c,.tt,.ff=>c
 | c,.tt,b=>mkOr c b
 | c,.ff,b=>mkAnd (mkNot c) b
 | c,a,.ff=>mkAnd c a
 | c,a,.tt=>mkOr (mkNot c) a
 | c,a,b=>if a=b then a else .ite c a b
def bev_mkIteB (J:Env) (c a b:E):bev J (mkIteB c a b)=if bev J c then bev J a else bev J b:=by
 unfold mkIteB;split<;>try simp only[bev_tt,bev_ff,bev_mkOr,bev_mkAnd,bev_mkNot,OA,Om,NI]
 case h_8 =>
  split
  .rename_i h;subst h;simp
  .rfl
 all_goals (split<;>simp_all)
def mkIte (c a b:E):E :=
 match c with
 | .tt=>a
 | .ff=>b
 | c=>if a=b then a else .ite c a b
def iev_mkIte (J:Env) (c a b:E):iev J (mkIte c a b)=if bev J c then iev J a else iev J b:=by
 unfold mkIte;split
 .simp [bev_tt]
 .simp [bev_ff]
 .split
  .rename_i h;subst h;simp
  .rfl
def mkAdd:E->E->E
 | .lit a,.lit b=>.lit (a+b)
 | .lit a,b=>if a=0 then b else .add (.lit a) b
 | .add a (.lit b),.lit c=>.add a (.lit (b+c))
 | a,.lit b=>if b=0 then a else .add a (.lit b)
 | a,b=>.add a b
def iev_mkAdd (J:Env) (a b:E):iev J (mkAdd a b)=iev J a+iev J b:=by
 unfold mkAdd;split<;>try rfl
 .split
  .rename_i h;subst h;simp [iev_lit]
  .rfl
 .simp only[iev_add,iev_lit];omega
 .split
  .rename_i h;subst h;simp [iev_lit]
  .rfl
def mkSub:E->E->E
 | .lit a,.lit b=>.lit (a-b)
 | a,.lit b=>if b=0 then a else .sub a (.lit b)
 | a,b=>if a=b then .lit 0 else .sub a b
def iev_mkSub (J:Env) (a b:E):iev J (mkSub a b)=iev J a-iev J b:=by
 unfold mkSub;split<;>try rfl
 .split
  .rename_i h;subst h;simp [iev_lit]
  .rfl
 .split
  .rename_i h;subst h;simp [iev_lit]
  .rfl
def mkMul:E->E->E
 | .lit a,.lit b=>.lit (a*b)
 | .lit a,b=>if a=1 then b else .mul (.lit a) b
 | a,.lit b=>if b=1 then a else .mul a (.lit b)
 | a,b=>.mul a b
def iev_mkMul (J:Env) (a b:E):iev J (mkMul a b)=iev J a*iev J b:=by
 unfold mkMul;split<;>try rfl
 .split
  .rename_i h;subst h;simp [iev_lit]
  .rfl
 .split
  .rename_i h;subst h;simp [iev_lit]
  .rfl
def mkWrap (k:IntKind):E->E
 | .lit a=>.lit (k.wrap a)
 | a=>.wrap k a
def iev_mkWrap (J:Env) (k:IntKind) (a:E):iev J (mkWrap k a)=k.wrap (iev J a):=by
 unfold mkWrap;split<;>rfl
def mkLt:E->E->E
 | .lit a,.lit b=>if a<b then .tt else .ff
 | a,b=>.lt a b
def bev_mkLt (J:Env) (a b:E):bev J (mkLt a b)=decide (iev J a<iev J b):=by
 unfold mkLt;split
 .split<;>rename_i h<;>simp [bev_tt,bev_ff,iev_lit,h]<;>omega
 .rfl
def mkLe:E->E->E
 | .lit a,.lit b=>if a<=b then .tt else .ff
 | a,b=>if a=b then .tt else .le a b
def bev_mkLe (J:Env) (a b:E):bev J (mkLe a b)=decide (iev J a<=iev J b):=by
 unfold mkLe;split
 .split<;>rename_i h<;>simp [bev_tt,bev_ff,iev_lit,h]<;>omega
 .split
  .rename_i h;subst h;simp [bev_tt]
  .rfl
def mkEq:E->E->E
 | .lit a,.lit b=>if a=b then .tt else .ff
 | a,b=>if a=b then .tt else .eq a b
def bev_mkEq (J:Env) (a b:E):bev J (mkEq a b)=decide (iev J a=iev J b):=by
 unfold mkEq;split
 .split<;>rename_i h<;>simp [bev_tt,bev_ff,iev_lit,h]
 .split
  .rename_i h;subst h;simp [bev_tt]
  .rfl
def mkBeq:E->E->E
 | .tt,b=>b
 | .ff,b=>mkNot b
 | a,.tt=>a
 | a,.ff=>mkNot a
 | a,b=>if a=b then .tt else .beq a b
def bev_mkBeq (J:Env) (a b:E):bev J (mkBeq a b)=(bev J a==bev J b):=by
 unfold mkBeq;split<;>try simp only[bev_tt,bev_ff,bev_mkNot]
 .simp
 .cases bev J b<;>rfl
 .simp
 .cases bev J a<;>rfl
 .split
  .rename_i h;subst h;simp [bev_tt]
  .rfl
def mkSeq:E->E->E
 | .slit a,.slit b=>if a=b then .tt else .ff
 | a,b=>if a=b then .tt else .seq a b
def bev_mkSeq (J:Env) (a b:E):bev J (mkSeq a b)=decide (sev J a=sev J b):=by
 unfold mkSeq;split
 .split<;>rename_i h<;>simp [bev_tt,bev_ff,sev_slit,h]
 .split
  .rename_i h;subst h;simp [bev_tt]
  .rfl
def mkCat:E->E->E
 | .slit a,.slit b=>.slit (a++b)
 | a,b=>.scat a b
def sev_mkCat (J:Env) (a b:E):sev J (mkCat a b)=sev J a++sev J b:=by
 unfold mkCat;split<;>rfl
def mkLen:E->E
 | .slit a=>.lit a.size
 | a=>.slen a
def iev_mkLen (J:Env) (a:E):iev J (mkLen a)=(sev J a).size:=by
 unfold mkLen;split<;>rfl
def mkSat:E->E->E
 | .slit a,.lit i=>.lit (a.data[i.toNat]?.getD 0).toNat
 | a,i=>.sat a i
def iev_mkSat (J:Env) (a i:E):iev J (mkSat a i)=((sev J a).data[(iev J i).toNat]?.getD 0).toNat:=by
 unfold mkSat;split<;>rfl
def Path (J:Env) (path:List E):Prop:=∀ e∈path,bev J e=true
def maxO:Option Int->Option Int->Option Int
 | some a,some b=>some (max a b)
 | some a,none=>some a
 | none,b=>b
def minO:Option Int->Option Int->Option Int
 | some a,some b=>some (min a b)
 | some a,none=>some a
 | none,b=>b
def lbF (e:E):E->Option Int
 | .le (.lit n) x=>if x=e then some n else none
 | .lt (.lit n) x=>if x=e then some (n+1)else none
 | .eq x (.lit n)=>if x=e then some n else none
 | .not (.lt x (.lit n))=>if x=e then some n else none
 | .not (.le x (.lit n))=>if x=e then some (n+1)else none
 | _=>none
def ubF (e:E):E->Option Int
 | .le x (.lit n)=>if x=e then some n else none
 | .lt x (.lit n)=>if x=e then some (n-1)else none
 | .eq x (.lit n)=>if x=e then some n else none
 | .not (.lt (.lit n) x)=>if x=e then some n else none
 | .not (.le (.lit n) x)=>if x=e then some (n-1)else none
 | _=>none
def lbP (path:List E) (e:E):Option Int:=path.foldl (fun a f=>maxO a (lbF e f)) none
def ubP (path:List E) (e:E):Option Int:=path.foldl (fun a f=>minO a (ubF e f)) none
def lb (path:List E):E->Option Int
 | .lit n=>some n
 | .add a b=>maxO (lbP path (.add a b)) (match lb path a,lb path b with | some x,some y=>some (x+y) | _,_=>none)
 | .mul a (.lit k)=>maxO (lbP path (.mul a (.lit k))) (match lb path a with | some x=>if 0<=k then some (x*k)else none | none=>none)
 | .slen a=>maxO (lbP path (.slen a)) (some 0)
 | e=>lbP path e
def ub (path:List E):E->Option Int
 | .lit n=>some n
 | .add a b=>minO (ubP path (.add a b)) (match ub path a,ub path b with | some x,some y=>some (x+y) | _,_=>none)
 | .mul a (.lit k)=>minO (ubP path (.mul a (.lit k))) (match ub path a with | some x=>if 0<=k then some (x*k)else none | none=>none)
 | e=>ubP path e
def leO:Option Int->Option Int->Bool
 | some a,some b=>decide (a<=b)
 | _,_=>false
def ltO:Option Int->Option Int->Bool
 | some a,some b=>decide (a<b)
 | _,_=>false
def known1 (path:List E) (e:E):Option Bool :=
 if path.contains e then some true else if path.contains (mkNot e)then some false else match e with
 | .le a b=>if leO (ub path a) (lb path b)then some true else if ltO (ub path b) (lb path a)then some false else none
 | .lt a b=>if ltO (ub path a) (lb path b)then some true else if leO (ub path b) (lb path a)then some false else none
 | .eq a b=>if ltO (ub path a) (lb path b)||ltO (ub path b) (lb path a)then some false else if leO (ub path a) (lb path b)&&leO (ub path b) (lb path a)then some true else none
 | _=>none
def known (path:List E) (e:E):Option Bool :=
 match e with
 | .tt=>some true
 | .ff=>some false
 | .not e=>(known1 path e).map not
 | .and a b=>match known1 path a,known1 path b with
  | some true,some true=>some true
  | some false,_=>some false
  | _,some false=>some false
  | _,_=>known1 path (.and a b)
 | .or a b=>match known1 path a,known1 path b with
  | some false,some false=>some false
  | some true,_=>some true
  | _,some true=>some true
  | _,_=>known1 path (.or a b)
 | e=>known1 path e
section
variable {J:Env} {path:List E}
def lbF_sound {n:Int} (hf:bev J f=true) (h:lbF e f=some n):n<=iev J e:=by
 unfold lbF at h;split at h<;>first | (cases h;done) | skip
 all_goals (split at h<;>first | (cases h;done) | skip)
 all_goals (cases h;rename_i he;subst he;simp only[bT_le,bT_lt,bT_eq,bT_not,iev_lit]at hf;omega)
def ubF_sound {n:Int} (hf:bev J f=true) (h:ubF e f=some n):iev J e<=n:=by
 unfold ubF at h;split at h<;>first | (cases h;done) | skip
 all_goals (split at h<;>first | (cases h;done) | skip)
 all_goals (cases h;rename_i he;subst he;simp only[bT_le,bT_lt,bT_eq,bT_not,iev_lit]at hf;omega)
def maxO_le {a b:Option Int} {x:Int} (c:∀ n,a=some n->n<=x) (hb:∀ n,b=some n->n<=x):∀ n,maxO a b=some n->n<=x:=by
 intro n h;unfold maxO at h;split at h
 .cases h;have h1:=c _ rfl;have h2:=hb _ rfl;omega
 .cases h;exact c _ rfl
 .exact hb _ h
def minO_ge {a b:Option Int} {x:Int} (c:∀ n,a=some n->x<=n) (hb:∀ n,b=some n->x<=n):∀ n,minO a b=some n->x<=n:=by
 intro n h;unfold minO at h;split at h
 .cases h;have h1:=c _ rfl;have h2:=hb _ rfl;omega
 .cases h;exact c _ rfl
 .exact hb _ h
def lbP_sound (hp:Path J path) : ∀ n,lbP path e=some n->n<=iev J e:=by
 have key:∀ (l:List E) (a:Option Int),(∀ f∈l,bev J f=true)->(∀ n,a=some n->n<=iev J e)->∀ n,l.foldl (fun a f=>maxO a (lbF e f)) a=some n->n<=iev J e:=by
  intro l
  induction l with
  | nil=>intro a _ b n h;exact b n h
  | cons f l ih =>
   intro a hl b n h;exact ih _ (fun g hg=>hl g (MW _ hg)) (maxO_le b fun m hm=>lbF_sound (hl f (Nh ..)) hm) n h
 exact key path none hp (fun n h=>by cases h)
def ubP_sound (hp:Path J path) : ∀ n,ubP path e=some n->iev J e<=n:=by
 have key:∀ (l:List E) (a:Option Int),(∀ f∈l,bev J f=true)->(∀ n,a=some n->iev J e<=n)->∀ n,l.foldl (fun a f=>minO a (ubF e f)) a=some n->iev J e<=n:=by
  intro l
  induction l with
  | nil=>intro a _ b n h;exact b n h
  | cons f l ih =>
   intro a hl b n h;exact ih _ (fun g hg=>hl g (MW _ hg)) (minO_ge b fun m hm=>ubF_sound (hl f (Nh ..)) hm) n h
 exact key path none hp (fun n h=>by cases h)
def lb_sound (hp:Path J path):∀ (e:E) n,lb path e=some n->n<=iev J e:=by
 intro e
 fun_induction lb path e with
 | case1 m=>intro n h;cases h;rw[iev_lit];omega
 | case2 a b c d =>
  refine maxO_le (lbP_sound hp) fun n h=>?_;split at h
  .rename_i x y hx hy;cases h;have h1:=c _ hx;have h2:=d _ hy;rw[iev_add];omega
  .cases h
 | case3 a k c =>
  refine maxO_le (lbP_sound hp) fun n h=>?_;split at h
  .rename_i x hx;split at h
   .cases h;have h1:=c _ hx;rw[iev_mul,iev_lit];exact Pg h1 ‹_›
   .cases h
  .cases h
 | case4 a =>
  refine maxO_le (lbP_sound hp) fun n h=>?_;cases h;rw[iev_slen];omega
 | case5 e=>exact lbP_sound hp
def ub_sound (hp:Path J path):∀ (e:E) n,ub path e=some n->iev J e<=n:=by
 intro e
 fun_induction ub path e with
 | case1 m=>intro n h;cases h;rw[iev_lit];omega
 | case2 a b c d =>
  refine minO_ge (ubP_sound hp) fun n h=>?_;split at h
  .rename_i x y hx hy;cases h;have h1:=c _ hx;have h2:=d _ hy;rw[iev_add];omega
  .cases h
 | case3 a k c =>
  refine minO_ge (ubP_sound hp) fun n h=>?_;split at h
  .rename_i x hx;split at h
   .cases h;have h1:=c _ hx;rw[iev_mul,iev_lit];exact Pg h1 ‹_›
   .cases h
  .cases h
 | case4 e=>exact ubP_sound hp
def leO_sound {a b:Option Int} {x y:Int} (h:leO a b=true) (c:∀ n,a=some n->x<=n) (hb:∀ n,b=some n->n<=y):x<=y:=by
 unfold leO at h;split at h
 .have h1:=c _ rfl;have h2:=hb _ rfl;simp only[MI]at h;omega
 .cases h
def ltO_sound {a b:Option Int} {x y:Int} (h:ltO a b=true) (c:∀ n,a=some n->x<=n) (hb:∀ n,b=some n->n<=y):x<y:=by
 unfold ltO at h;split at h
 .have h1:=c _ rfl;have h2:=hb _ rfl;simp only[MI]at h;omega
 .cases h
def known1_sound (hp:Path J path) {t:Bool} (h:known1 path e=some t):bev J e=t:=by
 unfold known1 at h;split at h
 .rename_i c;cases h;exact hp e (by simpa using c)
 .split at h
  .rename_i c;cases h;have:=hp _ (NP.1 c);rw[bev_mkNot]at this;simpa using this
  .split at h
   .rename_i a b _ _;split at h
    .rename_i c;cases h;have:=leO_sound c (ub_sound hp a) (lb_sound hp b);rw[bev_le];simpa using this
    .split at h
     .rename_i c;cases h;have:=ltO_sound c (ub_sound hp b) (lb_sound hp a);rw[bev_le];simp;omega
     .cases h
   .rename_i a b _ _;split at h
    .rename_i c;cases h;have:=ltO_sound c (ub_sound hp a) (lb_sound hp b);rw[bev_lt];simpa using this
    .split at h
     .rename_i c;cases h;have:=leO_sound c (ub_sound hp b) (lb_sound hp a);rw[bev_lt];simp;omega
     .cases h
   .rename_i a b _ _;split at h
    .rename_i c;cases h;rw[N6]at c;rw[bev_eq];rcases c with c | c
     .have:=ltO_sound c (ub_sound hp a) (lb_sound hp b);simp;omega
     .have:=ltO_sound c (ub_sound hp b) (lb_sound hp a);simp;omega
    .split at h
     .rename_i c;cases h;rw[ML]at c;have h1:=leO_sound c.1 (ub_sound hp a) (lb_sound hp b);have h2:=leO_sound c.2 (ub_sound hp b) (lb_sound hp a);rw[bev_eq];simp;omega
     .cases h
   .cases h
def known_sound (hp:Path J path) {t:Bool} (h:known path e=some t):bev J e=t:=by
 unfold known at h;split at h
 .cases h;rfl
 .cases h;rfl
 .simp only[MN]at h;obtain⟨b,hb,rfl⟩:=h;rw[bev_not,known1_sound hp hb]
 .split at h
  .rename_i h1 h2;cases h;rw[bev_and,known1_sound hp h1,known1_sound hp h2];rfl
  .rename_i h1;cases h;rw[bev_and,known1_sound hp h1];rfl
  .rename_i h1 _;cases h;rw[bev_and,known1_sound hp h1];simp
  .exact known1_sound hp h
 .split at h
  .rename_i h1 h2;cases h;rw[bev_or,known1_sound hp h1,known1_sound hp h2];rfl
  .rename_i h1;cases h;rw[bev_or,known1_sound hp h1];rfl
  .rename_i h1 _;cases h;rw[bev_or,known1_sound hp h1];simp
  .exact known1_sound hp h
 .exact known1_sound hp h
end
inductive CV where
 | int (k:IntKind) (e:E) | bool (e:E) | str (e:E)
 | pti (a o s n:Nat) (i:E)
 | hptr (x y:E) | sl (x y l c:E) | map (x:E)
 | vr (j:Nat) | hv (h:Nat) (x y:E) (j:Nat)
 | val (v:Value)
 | clo (f:Nat) (x:E)
 | clo2 (f:Nat) (x y:E)
inductive SV where | one (c:CV) | agg (l:List CV)
inductive TV where | sv (s:SV) | tup (l:List SV)
def CV.ev (J:Env):CV->Value
 | .int k e=>.int k (iev J e)
 | .bool e=>.bool (bev J e)
 | .str e=>.string (sev J e)
 | .pti a o s _ i=>.pointer (slP (J.i a) ((o:Int)+(s:Int)*iev J i))
 | .hptr x y=>.pointer (slP (iev J x) (iev J y))
 | .sl x y l c=>.slice (slP (iev J x) (iev J y)) (iev J l).toNat (iev J c).toNat
 | .map x=>.map (if iev J x= -1 then none else some (iev J x).toNat)
 | .vr j=>J.v j
 | .hv h x y j=>((J.h h).cell (iev J x).toNat ((iev J y).toNat+j)).getD (.bool false)
 | .val v=>v
 | .clo f x=>.func (.func f) #[] #[.pointer (slP (iev J x) 0)]
 | .clo2 f x y=>.func (.func f) #[] #[.pointer (slP (iev J x) 0),.pointer (slP (iev J y) 0)]
def SV.ev (J:Env):SV->Value
 | .one c=>c.ev J
 | .agg l=>.agg (l.map (CV.ev J)).toArray
def TV.ev (J:Env):TV->Value
 | .sv s=>s.ev J
 | .tup l=>.tuple (l.map (SV.ev J)).toArray
def liftC:Value->CV
 | .int k n=>.int k (.lit n)
 | .bool true=>.bool .tt
 | .bool false=>.bool .ff
 | .string s=>.str (.slit s)
 | .slice none n c=>.sl (.lit (-1)) (.lit 0) (.lit n) (.lit c)
 | .pointer none=>.hptr (.lit (-1)) (.lit 0)
 | .map none=>.map (.lit (-1))
 | v=>.val v
def liftC_ev (J:Env) (v:Value):(liftC v).ev J=v:=by
 unfold liftC;split<;>rfl
def lift:Value->TV
 | .agg cs=>.sv (.agg (cs.toList.map liftC))
 | v=>.sv (.one (liftC v))
def map_liftC (J:Env) (l:List Value):(l.map liftC).map (CV.ev J)=l:=by
 induction l with
 | nil=>rfl
 | cons v l ih=>simp only[M6,liftC_ev,ih]
def lift_ev (J:Env) (v:Value):(lift v).ev J=v:=by
 unfold lift;split
 .simp only[TV.ev,SV.ev,map_liftC]
 .exact liftC_ev J v
def sameV:Value->Value->Bool
 | .nilFunc,.nilFunc=>true
 | .nilIface,.nilIface=>true
 | .func (.func f) a b,.func (.func g) c d=>f==g&&a.isEmpty&&b.isEmpty&&c.isEmpty&&d.isEmpty
 | _,_=>false
def sameV_eq {a b:Value} (h:sameV a b=true):a=b:=by
 unfold sameV at h;split at h<;>simp_all
def mergeCV (c:E):CV->CV->Option CV
 | .int k e,.int a b=>if k=a then some (.int k (mkIte c e b))else none
 | .bool e,.bool b=>some (.bool (mkIteB c e b))
 | .hptr x y,.hptr x' y'=>some (.hptr (mkIte c x x') (mkIte c y y'))
 | .sl x y l k,.sl x' y' l' a=>some (.sl (mkIte c x x') (mkIte c y y') (mkIte c l l') (mkIte c k a))
 | .map x,.map x'=>some (.map (mkIte c x x'))
 | .vr j,.vr k=>if j=k then some (.vr j)else none
 | .val v,.val v'=>if sameV v v' then some (.val v)else none
 | _,_=>none
def mergeCV_ev {J:Env} {c:E} {a b v:CV} (h:mergeCV c a b=some v):v.ev J=if bev J c then a.ev J else b.ev J:=by
 unfold mergeCV at h;split at h
 .split at h
  .rename_i hk;subst hk;cases h;simp only[CV.ev,iev_mkIte];split<;>rfl
  .cases h
 .cases h;simp only[CV.ev,bev_mkIteB];split<;>rfl
 .cases h;simp only[CV.ev,iev_mkIte];split<;>rfl
 .cases h;simp only[CV.ev,iev_mkIte];split<;>rfl
 .cases h;simp only[CV.ev,iev_mkIte];split<;>rfl
 .split at h
  .rename_i hk;subst hk;cases h;simp
  .cases h
 .split at h
  .rename_i hv;cases h;simp [CV.ev,sameV_eq hv]
  .cases h
 .cases h
def mergeL (c:E):List CV->List CV->Option (List CV)
 | [],[]=>some []
 | a::l,b::m=>match mergeCV c a b,mergeL c l m with
  | some v,some r=>some (v::r)
  | _,_=>none
 | _,_=>none
def mergeL_ev {J:Env} {c:E} : ∀ {l m r:List CV},mergeL c l m=some r->r.map (CV.ev J)=if bev J c then l.map (CV.ev J)else m.map (CV.ev J)
 | [],[],r,h=>by cases h;simp
 | a::l,b::m,r,h=>by
  unfold mergeL at h;split at h
  .rename_i v r' h1 h2;cases h;have e1:=mergeCV_ev (J:=J) h1;have d:=mergeL_ev (J:=J) h2;simp only[M6,e1,d];split<;>rfl
  .cases h
 | [],_::_,_,h=>by simp [mergeL]at h
 | _::_,[],_,h=>by simp [mergeL]at h
def mergeSV (c:E):SV->SV->Option SV
 | .one a,.one b=>(mergeCV c a b).map .one
 | .agg l,.agg m=>(mergeL c l m).map .agg
 | _,_=>none
def mergeSV_ev {J:Env} {c:E} {a b v:SV} (h:mergeSV c a b=some v):v.ev J=if bev J c then a.ev J else b.ev J:=by
 unfold mergeSV at h;split at h
 .simp only[MN]at h;obtain⟨x,hx,rfl⟩:=h;exact mergeCV_ev hx
 .simp only[MN]at h;obtain⟨x,hx,rfl⟩:=h;simp only[SV.ev,mergeL_ev hx];split<;>rfl
 .cases h
def E.upto (n:Nat):E->Bool
 | .lit _ | .tt | .ff | .slit _=>true
 | .var i | .bvar i | .svar i | .vint i=>decide (i<n)
 | .add a b | .sub a b | .mul a b | .quo a b | .rem a b | .bits _ _ a b | .shl _ a b | .shr _ a b | .and a b | .or a b | .lt a b | .le a b | .eq a b | .beq a b | .scat a b | .sat a b | .seq a b | .slt a b=>a.upto n&&b.upto n
 | .wrap _ a | .not a | .sbyte a | .slen a=>a.upto n
 | .ite c a b | .sext c a b=>c.upto n&&a.upto n&&b.upto n
 | .hks h x y _ | .hI h x y _ | .hB h x y _ | .hP h x y _ _ | .his h x y _ _ | .hS h x y _=>decide (h<n)&&x.upto n&&y.upto n
 | .sof h x y l | .hby h x y l=>decide (h<n)&&x.upto n&&y.upto n&&l.upto n
 | .hmlen h x | .hism h x=>decide (h<n)&&x.upto n
structure Agree (n:Nat) (J J':Env):Prop where
 i:∀ k,(_:k<n:=by omega)->J'.i k=J.i k
 b:∀ k,(_:k<n:=by omega)->J'.b k=J.b k
 s:∀ k,(_:k<n:=by omega)->J'.s k=J.s k
 v:∀ k,(_:k<n:=by omega)->J'.v k=J.v k
 h:∀ k,(_:k<n:=by omega)->J'.h k=J.h k
def Agree.refl (n:Nat) (J:Env):Agree n J J:=⟨fun _ _=>rfl,fun _ _=>rfl,fun _ _=>rfl,fun _ _=>rfl,fun _ _=>rfl⟩
def Agree.trans {a b c:Env} (h:Agree n a b) (k:Agree n b c):Agree n a c :=
 ⟨fun i hi=>(k.i i hi).trans (h.i i hi),fun i hi=>(k.b i hi).trans (h.b i hi),fun i hi=>(k.s i hi).trans (h.s i hi),fun i hi=>(k.v i hi).trans (h.v i hi),fun i hi=>(k.h i hi).trans (h.h i hi)⟩
def Agree.mono {a b:Env} (h:Agree n a b) (hm:m<=n:=by omega):Agree m a b:=⟨fun i hi=>h.i i,fun i hi=>h.b i,fun i hi=>h.s i,fun i hi=>h.v i,fun i hi=>h.h i⟩
def Agree.iA {a b:Env} (h:Agree n a b):∀ k,k<n->b.i k=a.i k:=fun k e=>h.i k e
def Agree.hA {a b:Env} (h:Agree n a b):∀ k,k<n->b.h k=a.h k:=fun k e=>h.h k e
def Agree.bA {a b:Env} (h:Agree n a b):∀ k,k<n->b.b k=a.b k:=fun k e=>h.b k e
def Agree.sA {a b:Env} (h:Agree n a b):∀ k,k<n->b.s k=a.s k:=fun k e=>h.s k e
def Agree.tr {a b c:Env} (h:Agree n a b) (k:Agree m b c) (hm:n<=m:=by omega):Agree n a c:=h.trans (k.mono hm)
def ev_agree {J J':Env} (h:Agree n J J'):∀ e:E,e.upto n=true->ev J' e=ev J e:=by
 intro e
 induction e with
 | var i=>intro hb;simp only[E.upto,MI]at hb;simp only[ev,h.i i hb]
 | bvar i=>intro hb;simp only[E.upto,MI]at hb;simp only[ev,h.b i hb]
 | svar i=>intro hb;simp only[E.upto,MI]at hb;simp only[ev,h.s i hb]
 | vint i=>intro hb;simp only[E.upto,MI]at hb;simp only[ev,h.v i hb]
 | lit _=>intro _;rfl
 | slit _=>intro _;rfl
 | tt=>intro _;rfl
 | ff=>intro _;rfl
 | wrap k a ih=>intro hb;simp only[E.upto]at hb;simp only[ev,ih hb]
 | not a ih=>intro hb;simp only[E.upto]at hb;simp only[ev,ih hb]
 | sbyte a ih=>intro hb;simp only[E.upto]at hb;simp only[ev,ih hb]
 | slen a ih=>intro hb;simp only[E.upto]at hb;simp only[ev,ih hb]
 | ite c a b o g m=>intro hb;simp only[E.upto,ML]at hb;simp only[ev,o hb.1.1,g hb.1.2,m hb.2]
 | sext c a b o g m=>intro hb;simp only[E.upto,ML]at hb;simp only[ev,o hb.1.1,g hb.1.2,m hb.2]
 | hI k x y j d f=>intro hb;simp only[E.upto,ML,MI]at hb;simp only[ev,d hb.1.2,f hb.2,h.h k hb.1.1]
 | hB k x y j d f=>intro hb;simp only[E.upto,ML,MI]at hb;simp only[ev,d hb.1.2,f hb.2,h.h k hb.1.1]
 | hS k x y j d f=>intro hb;simp only[E.upto,ML,MI]at hb;simp only[ev,d hb.1.2,f hb.2,h.h k hb.1.1]
 | hP k x y j q d f=>intro hb;simp only[E.upto,ML,MI]at hb;simp only[ev,d hb.1.2,f hb.2,h.h k hb.1.1]
 | his k x y j q d f=>intro hb;simp only[E.upto,ML,MI]at hb;simp only[ev,d hb.1.2,f hb.2,h.h k hb.1.1]
 | hism k x d=>intro hb;simp only[E.upto,ML,MI]at hb;simp only[ev,d hb.2,h.h k hb.1]
 | hmlen k x d=>intro hb;simp only[E.upto,ML,MI]at hb;simp only[ev,d hb.2,h.h k hb.1]
 | hks k x y ks d f=>intro hb;simp only[E.upto,ML,MI]at hb;simp only[ev,d hb.1.2,f hb.2,h.h k hb.1.1]
 | hby k x y l d f p=>intro hb;simp only[E.upto,ML,MI]at hb;simp only[ev,d hb.1.1.2,f hb.1.2,p hb.2,h.h k hb.1.1.1]
 | sof k x y l d f p=>intro hb;simp only[E.upto,ML,MI]at hb;simp only[ev,d hb.1.1.2,f hb.1.2,p hb.2,h.h k hb.1.1.1]
 | _=>rename_i g m;intro hb;simp only[E.upto,ML]at hb;simp only[ev,g hb.1,m hb.2]
def iev_agree {J J':Env} (h:Agree n J J') (hb:e.upto n=true):iev J' e=iev J e:=by unfold iev;rw[ev_agree h e hb]
def bev_agree {J J':Env} (h:Agree n J J') (hb:e.upto n=true):bev J' e=bev J e:=by unfold bev;rw[ev_agree h e hb]
def sev_agree {J J':Env} (h:Agree n J J') (hb:e.upto n=true):sev J' e=sev J e:=by unfold sev;rw[ev_agree h e hb]
def CV.upto (n:Nat):CV->Bool
 | .int _ e | .bool e | .str e | .map e=>e.upto n
 | .pti a _ _ _ i=>decide (a<n)&&i.upto n
 | .hptr x y=>x.upto n&&y.upto n
 | .sl x y l c=>x.upto n&&y.upto n&&l.upto n&&c.upto n
 | .vr j=>decide (j<n)
 | .hv h x y _=>decide (h<n)&&x.upto n&&y.upto n
 | .val _=>true
 | .clo _ x=>x.upto n
 | .clo2 _ x y=>x.upto n&&y.upto n
def SV.upto (n:Nat):SV->Bool
 | .one c=>c.upto n
 | .agg l=>l.all (·.upto n)
def TV.upto (n:Nat):TV->Bool
 | .sv s=>s.upto n
 | .tup l=>l.all (·.upto n)
def CV.agree {J J':Env} (h:Agree m J J') (c:CV) (hb:c.upto m=true):c.ev J'=c.ev J:=by
 cases c<;>simp only[CV.upto,ML,MI]at hb<;>simp only[CV.ev]
 .rw[iev_agree h hb]
 .rw[bev_agree h hb]
 .rw[sev_agree h hb]
 .rw[h.i _ hb.1,iev_agree h hb.2]
 .rw[iev_agree h hb.1,iev_agree h hb.2]
 .rw[iev_agree h hb.1.1.1,iev_agree h hb.1.1.2,iev_agree h hb.1.2,iev_agree h hb.2]
 .rw[iev_agree h hb]
 .rw[h.v _ hb]
 .rw[iev_agree h hb.1.2,iev_agree h hb.2,h.h _ hb.1.1]
 .rw[iev_agree h hb]
 .rw[iev_agree h hb.1,iev_agree h hb.2]
def CV.agreeL {J J':Env} (h:Agree m J J') (l:List CV) (hb:l.all (·.upto m)=true):l.map (CV.ev J')=l.map (CV.ev J):=by
 rw[M8]at hb;exact NL fun c a=>CV.agree h c (hb c a)
def SV.agree {J J':Env} (h:Agree m J J') (s:SV) (hb:s.upto m=true):s.ev J'=s.ev J:=by
 cases s with
 | one c=>exact CV.agree h c hb
 | agg l=>simp only[SV.ev,CV.agreeL h l hb]
def TV.agree {J J':Env} (h:Agree m J J') (s:TV) (hb:s.upto m=true):s.ev J'=s.ev J:=by
 cases s with
 | sv c=>exact SV.agree h c hb
 | tup l =>
  simp only[TV.upto,M8]at hb;simp only[TV.ev,NL fun c a=>SV.agree h c (hb c a)]
def Path.agree {J J':Env} {path:List E} (h:Agree m J J') (hp:Path J path) (hb:path.all (·.upto m)=true):Path J' path:=by
 rw[M8]at hb;intro e he;rw[bev_agree h (hb e he)];exact hp e he
inductive Res where
 | blk (a:Nat) (l:List CV) (T:TypeId)
 | hp (k:Nat) (vers:List Nat) (tags links:List E)
 | ro (k:Nat) (tags:List E) (any:Bool)
 | dead
variable {r r':Res}
def Res.own:Res->Bool
 | .ro _ _ _=>false
 | _=>true
def Res.hl (J:Env):Res->Hl
 | .blk a l T=>Hl.one (J.i a).toNat (.cells (l.map (CV.ev J)).toArray T (0,0))
 | .hp k _ _ _=>J.h k
 | .ro k _ _=>J.h k
 | .dead=>Hl.none
def Res.pos (J:Env):Res->Prop
 | .blk a _ _=>0<=J.i a
 | _=>True
def Res.same (J J':Env) (r:Res):Prop:=r.hl J'=r.hl J/\(r.pos J->r.pos J')
abbrev Mem:=List Res
structure St where
 tmps:List (Option TV)
 mem:Mem
 nv:Nat
 path:List E
structure Keep (S:Nat->Prop) (w0 w:World):Prop where
 os:w.os=w0.os
 tape:w.tape=w0.tape
 output:w.output=w0.output
 size:w0.heap.size<=w.heap.size
 block:∀ k,k<w0.heap.size->¬S k->w.heap[k]?=w0.heap[k]?
def Keep.refl (S:Nat->Prop) (w:World):Keep S w w:=⟨rfl,rfl,rfl,M1 _,fun _ _ _=>rfl⟩
structure MRel (S:Nat->Prop) (w0:World) (J:Env) (mem:Mem) (w:World):Prop where
 keep:Keep S w0 w
 sub:∀ r∈mem,(r.hl J).sub w
 own:∀ r∈mem,r.own=true->∀ b,(r.hl J).mem b->S b\/w0.heap.size<=b
 dis:∀ (p q:Nat) r s,p≠q->mem[p]?=some r->mem[q]?=some s->r.own=true->(r.hl J).dis (s.hl J)
 pos:∀ r∈mem,r.pos J
structure Rel (S:Nat->Prop) (w0:World) (J:Env) (st:St) (a:Act) (w:World):Prop extends MRel S w0 J st.mem w where
 size:a.tmps.size=st.tmps.length
 defers:a.defers=[]
 tmp:∀ (t:Nat) (v:TV),st.tmps[t]?=some (some v)->a.tmps[t]?=some (v.ev J)
 path:Path J st.path
def Hl.sub_lt {h:Hl} {w:World} (hs:h.sub w) {b:Nat} (hb:h.mem b):b<w.heap.size:=by
 unfold Hl.mem at hb;obtain⟨o,ho⟩:=NJ.1 hb;exact(Ng.1 (hs b o ho)).1
def Res.upto (n:Nat):Res->Bool
 | .blk a l _=>decide (a<n)&&l.all (·.upto n)
 | .hp k vers tags links=>decide (k<n)
 | .ro k tags _=>decide (k<n)
 | .dead=>true
def optB (f:α->Bool):Option α->Bool
 | some x=>f x
 | none=>true
def Mem.upto (n:Nat) (m:Mem):Bool:=m.all (Res.upto n)
def St.upto (n:Nat) (st:St):Bool:=st.tmps.all (optB (·.upto n))&&Mem.upto n st.mem&&st.path.all (·.upto n)
def Res.agree {J J':Env} (h:Agree m J J') (r:Res) (hb:r.upto m=true):r.hl J'=r.hl J:=by
 cases r<;>simp only[Res.upto,ML,MI]at hb<;>simp only[Res.hl]
 .rw[h.i _ hb.1,CV.agreeL h _ hb.2]
 .rw[h.h _ hb]
 .rw[h.h _ hb]
def Res.agree_pos {J J':Env} (h:Agree m J J') (r:Res) (hb:r.upto m=true):r.pos J->r.pos J':=by
 cases r<;>simp only[Res.upto,ML,MI]at hb<;>simp only[Res.pos]
 .rw[h.i _ hb.1];exact id
 all_goals (intro;trivial)
def Mem.agree {J J':Env} (h:Agree m J J') {mem:Mem} (hb:Mem.upto m mem=true):∀ r∈mem,r.same J J':=by
 unfold Mem.upto at hb;rw[M8]at hb;exact fun r hr=>⟨Res.agree h r (hb r hr),Res.agree_pos h r (hb r hr)⟩
section
variable {S:Nat->Prop} {w0:World} {J J':Env} {st:St} {a:Act} {w w':World} {mem mem':Mem}
def MRel.upd (h:MRel S w0 J mem w) (U:Nat->Prop) (d:Nat->Prop)
 (hU:∀ b,U b->∃ r∈mem,r.own=true/\(r.hl J).mem b)
 (ho:w'.os=w.os) (m:w'.tape=w.tape) (f:w'.output=w.output) (hs:w.heap.size<=w'.heap.size)
 (hb:∀ b,b<w.heap.size->¬U b->w'.heap[b]?=w.heap[b]?)
 (c1:∀ (p:Nat) r,mem'[p]?=some r->¬d p->mem[p]?=some r/\r.same J J'/\∀ b,(r.hl J).mem b->¬U b)
 (c2:∀ (p:Nat) r,mem'[p]?=some r->d p->((r.hl J').sub w'/\r.pos J')/\∀ b,(r.hl J').mem b->U b\/w.heap.size<=b)
 (c3:∀ (p q:Nat) r s,p≠q->d p->d q->mem'[p]?=some r->mem'[q]?=some s->r.own=true->(r.hl J').dis (s.hl J')):MRel S w0 J' mem' w':=by
 have g:∀ b,U b->S b\/w0.heap.size<=b:=fun b hb=>by
  obtain⟨r,hr,ho,hm⟩:=hU b hb;exact h.own r hr ho b hm
 refine⟨⟨ho.trans h.keep.os,m.trans h.keep.tape,f.trans h.keep.output,NT h.keep.size hs,fun k hk hS=>?_⟩,?_,?_,?_,?_⟩
 .rw[hb k (Oi hk h.keep.size) (fun hu=>(g k hu).elim hS (fun h=>ae))];exact h.keep.block k hk hS
 .intro r hr;obtain⟨p,hp⟩:=NA hr;by_cases hn:d p
  .exact(c2 p r hp hn).1.1
  .obtain⟨e1,⟨c,_⟩,e⟩:=c1 p r hp hn;rw[c];intro b o i;have hm:(r.hl J).mem b:=by unfold Hl.mem;rw[i];rfl
   have hs:=h.sub r (MG e1);rw[hb b (Hl.sub_lt hs hm) (e b hm)];exact hs b o i
 .intro r hr a b hm;obtain⟨p,hp⟩:=NA hr;by_cases hn:d p
  .rcases(c2 p r hp hn).2 b hm with hu | hl
   .exact g b hu
   .right;have:=h.keep.size;omega
  .obtain⟨e1,⟨c,_⟩,e⟩:=c1 p r hp hn;rw[c]at hm;exact h.own r (MG e1) a b hm
 .intro p q r s j hp l a;by_cases hn:d p<;>by_cases hm:d q
  .exact c3 p q r s j hn hm hp l a
  .obtain⟨e1,⟨c,_⟩,e⟩:=c1 q s l hm;obtain⟨f1,f2⟩:=c2 p r hp hn;rintro b ⟨x,y⟩;rw[c]at y;rcases f2 b x with hu | hl
   .exact e b y hu
   .have:=Hl.sub_lt (h.sub s (MG e1)) y;omega
  .obtain⟨e1,⟨c,_⟩,e⟩:=c1 p r hp hn;obtain⟨f1,f2⟩:=c2 q s l hm;rintro b ⟨x,y⟩;rw[c]at x;rcases f2 b y with hu | hl
   .exact e b x hu
   .have:=Hl.sub_lt (h.sub r (MG e1)) x;omega
  .obtain⟨e1,⟨c,_⟩,e⟩:=c1 p r hp hn;obtain⟨f1,⟨f2,_⟩,f3⟩:=c1 q s l hm;rw[c,f2];exact h.dis p q r s j e1 f1 a
 .intro r hr;obtain⟨p,hp⟩:=NA hr;by_cases hn:d p
  .exact(c2 p r hp hn).1.2
  .obtain⟨e1,⟨_,c⟩,_⟩:=c1 p r hp hn;exact c (h.pos r (MG e1))
def MRel.set (h:MRel S w0 J mem w) (hp:mem[p]?=some r) (hr:r.own=true)
 (ho:w'.os=w.os) (j:w'.tape=w.tape) (c:w'.output=w.output) (hs:w.heap.size<=w'.heap.size)
 (hb:∀ b,b<w.heap.size->¬(r.hl J).mem b->w'.heap[b]?=w.heap[b]?)
 (hag:∀ s∈mem,s.same J J')
 (hsub:(r'.hl J').sub w') (d:r'.pos J') (f:∀ b,(r'.hl J').mem b->(r.hl J).mem b\/w.heap.size<=b):MRel S w0 J' (mem.set p r') w':=by
 have g:p<mem.length:=(MK.1 hp).1;refine h.upd (fun b=>(r.hl J).mem b) (fun q=>q=p) (fun b hb=>⟨r,MG hp,hr,hb⟩) ho j c hs hb ?_ ?_ ?_
 .intro q s a hn;rw[Ny (fun e=>hn e.symm)]at a;exact⟨a,hag s (MG a),fun b hb hu=>h.dis p q r s (fun e=>hn e.symm) hp a hr b ⟨hu,hb⟩⟩
 .intro q s a hn;rw[hn,NX g]at a;cases a;exact⟨⟨hsub,d⟩,f⟩
 .intro q q' s k i h1 h2;exact absurd (h1.trans h2.symm) i
def MRel.add (h:MRel S w0 J mem w) 
 (ho:w'.os=w.os) (g:w'.tape=w.tape) (c:w'.output=w.output) (hs:w.heap.size<=w'.heap.size)
 (hb:∀ b,b<w.heap.size->w'.heap[b]?=w.heap[b]?)
 (hag:∀ s∈mem,s.same J J')
 (hsub:(r'.hl J').sub w') (d:r'.pos J') (e:∀ b,(r'.hl J').mem b->w.heap.size<=b):MRel S w0 J' (mem++[r']) w':=by
 refine h.upd (fun b=>False) (fun q=>q=mem.length) (fun b hb=>hb.elim) ho g c hs (fun b hl _=>hb b hl) ?_ ?_ ?_
 .intro q s a hn;rw[O0]at a;split at a
  .exact⟨a,hag s (MG a),fun _ _=>id⟩
  .rw[MS (by simp;omega)]at a;cases a
 .intro q s a hn;rw[hn,MX (M1 _),Qh]at a;cases a;exact⟨⟨hsub,d⟩,fun b hb=>Or.inr (e b hb)⟩
 .intro q q' s i f h1 h2;exact absurd (h1.trans h2.symm) f
def MRel.agree (h:MRel S w0 J mem w) (hag:∀ s∈mem,s.same J J'):MRel S w0 J' mem w :=
 h.upd (fun _=>False) (fun _=>False) (fun _ h=>h.elim) rfl rfl rfl (M1 _) (fun _ _ _=>rfl) (fun p r hp _=>⟨hp,hag r (MG hp),fun _ _=>id⟩) (fun _ _ _ h=>h.elim) (fun _ _ _ _ _ h=>h.elim)
def MRel.below (h:MRel S w0 J mem w) (hb:RowKit.Below w.heap.size w w'):MRel S w0 J mem w' :=
 h.upd (fun _=>False) (fun _=>False) (fun _ h=>h.elim) hb.os hb.tape hb.output hb.size (fun b hl _=>hb.block b hl) (fun p r hp _=>⟨hp,⟨rfl,id⟩,fun _ _=>id⟩) (fun _ _ _ h=>h.elim) (fun _ _ _ _ _ h=>h.elim)
def MRel.sublist (h:MRel S w0 J mem w) (hm:∀ (p:Nat) r,mem'[p]?=some r->mem[p]?=some r\/r=.dead):MRel S w0 J mem' w:=by
 refine h.upd (fun _=>False) (fun p=>mem'[p]?=some .dead) (fun _ h=>h.elim) rfl rfl rfl (M1 _) (fun _ _ _=>rfl) (fun p r hp hn=>⟨(hm p r hp).resolve_right (fun e=>hn (by rw[hp,e])),⟨rfl,id⟩,fun _ _=>id⟩) ?_ ?_
 .intro p r hp hn;rw[hp]at hn;cases hn;exact⟨⟨(fun b o hb=>by cases hb),trivial⟩,(fun b hb=>by cases hb)⟩
 .intro p q r s _ hn _ hp _ _;rw[hp]at hn;cases hn;rintro b ⟨x,_⟩;cases x
def Rel.agree (h:Agree m J J') (hb:st.upto m=true) (hr:Rel S w0 J st a w):Rel S w0 J' st a w:=by
 simp only[St.upto,ML]at hb;refine⟨hr.toMRel.agree (Mem.agree h hb.1.2),hr.size,hr.defers,fun t s hs=>?_,hr.path.agree h hb.2⟩;have:=hb.1.1;rw[M8]at this;have:=this _ (MG hs);simp only[optB]at this;rw[TV.agree h s this];exact hr.tmp t s hs
def Rel.tmps_agree (h:Agree m J J') (hb:st.upto m=true) (hr:Rel S w0 J st a w) {mem:Mem} (hm:MRel S w0 J' mem w') (nv:Nat):Rel S w0 J' {st with mem:=mem,nv:=nv} a w':=by
 have:=hr.agree h hb;exact⟨hm,this.size,this.defers,this.tmp,this.path⟩
def opnd (st:St):Operand->Option TV
 | .tmp t=>match st.tmps[t]? with
  | some (some s)=>some s
  | _=>none
 | .const v=>some (lift v)
 | .func f=>some (.sv (.one (.val (.func (.func f) #[] #[]))))
 | .global g=>some (.sv (.one (.hptr (.lit g) (.lit 0))))
def opnd_sound (h:Rel S w0 J st a w) {x:Operand} {v:TV} (ho:opnd st x=some v):a.eval x=v.ev J:=by
 cases x with
 | tmp t =>
  simp only[opnd]at ho;split at ho
  .rename_i s hs;have:=h.tmp t s hs;simp only[MP]at ho;subst ho;simp [Act.eval,this]
  .cases ho
 | const v'=>simp only[opnd,MP]at ho;rw[<-ho,lift_ev];rfl
 | func f=>simp only[opnd,MP]at ho;rw[<-ho];rfl
 | global g=>simp only[opnd,MP]at ho;rw[<-ho];rfl
def St.put (st:St) (d:Option Tmp) (v:Option TV):St :=
 match d with
 | some d=>{st with tmps:=st.tmps.set d v}
 | none=>st
def St.put_mem (st:St) (d:Option Tmp) (v:Option TV):(st.put d v).mem=st.mem:=by cases d<;>rfl
def St.put_nv (st:St) (d:Option Tmp) (v:Option TV):(st.put d v).nv=st.nv:=by cases d<;>rfl
def St.put_path (st:St) (d:Option Tmp) (v:Option TV):(st.put d v).path=st.path:=by cases d<;>rfl
def Rel.put (h:Rel S w0 J st a w) (d:Option Tmp) (v:Option TV) (x:Value) (hx:∀ y,v=some y->x=y.ev J):Rel S w0 J (st.put d v) (a.put d x) w:=by
 cases d with
 | none=>exact h
 | some d =>
  refine⟨h.toMRel,?_,h.defers,?_,h.path⟩
  .simp [Act.put,St.put,h.size]
  .intro t s hs;simp only[St.put]at hs;simp only[Act.put];by_cases he:d=t
   .subst he;by_cases b:d<st.tmps.length
    .rw[NX b]at hs;simp only[MP]at hs;rw[Array.getElem?_setIfInBounds_self_of_lt (by rw[h.size];exact b),hx s hs]
    .rw[MS (by simpa using b)]at hs;cases hs
   .rw[Ny he]at hs;rw[Oa he];exact h.tmp t s hs
def posBlk (a:Nat):Mem->Nat->Option (Nat×List CV×TypeId)
 | [],_=>none
 | .blk b l T::m,p=>if b=a then some (p,l,T)else posBlk a m (p+1)
 | _::m,p=>posBlk a m (p+1)
def posBlk_sound {a:Nat} : ∀ {mem:Mem} {p q:Nat} {l:List CV} {T:TypeId},posBlk a mem p=some (q,l,T)->p<=q/\mem[q-p]?=some (.blk a l T)
 | [],_,_,_,_,h=>by cases h
 | .blk b l' c::m,p,q,l,T,h=>by
  unfold posBlk at h;split at h
  .rename_i e;subst e;cases h;exact⟨M1 _,ar⟩
  .obtain⟨h1,h2⟩:=posBlk_sound h;exact⟨ae,by rw[show q-p=(q-(p+1))+1 by omega,NC];exact h2⟩
 | .hp _ _ _ _::m,p,q,l,T,h=>by
  obtain⟨h1,h2⟩:=posBlk_sound (mem:=m) (p:=p+1) h;exact⟨ae,by rw[show q-p=(q-(p+1))+1 by omega,NC];exact h2⟩
 | .ro _ _ _::m,p,q,l,T,h=>by
  obtain⟨h1,h2⟩:=posBlk_sound (mem:=m) (p:=p+1) h;exact⟨ae,by rw[show q-p=(q-(p+1))+1 by omega,NC];exact h2⟩
 | .dead::m,p,q,l,T,h=>by
  obtain⟨h1,h2⟩:=posBlk_sound (mem:=m) (p:=p+1) h;exact⟨ae,by rw[show q-p=(q-(p+1))+1 by omega,NC];exact h2⟩
def fBlk (mem:Mem) (a:Nat):Option (Nat×List CV×TypeId):=posBlk a mem 0
def fBlk_sound {a:Nat} {l:List CV} (h:fBlk mem a=some (p,l,T)):mem[p]?=some (.blk a l T):=by
 have:=(posBlk_sound h).2;simpa using this
def Res.has (x:E):Res->Bool
 | .hp k vers tags _=>tags.contains x||(match x with | .hP h _ _ _ _=>h==k||vers.contains h | _=>false)
 | .ro k tags _=>tags.contains x||(match x with | .hP h _ _ _ _=>h==k | _=>false)
 | _=>false
def posHp (x:E):Mem->Nat->Option (Nat×Res)
 | [],_=>none
 | r::m,p=>if r.has x then some (p,r)else posHp x m (p+1)
def posHp_sound {x:E} : ∀ {mem:Mem} {p q:Nat} {r:Res},posHp x mem p=some (q,r)->p<=q/\mem[q-p]?=some r
 | [],_,_,_,h=>by cases h
 | s::m,p,q,r,h=>by
  unfold posHp at h;split at h
  .cases h;exact⟨M1 _,ar⟩
  .obtain⟨h1,h2⟩:=posHp_sound h;exact⟨ae,by rw[show q-p=(q-(p+1))+1 by omega,NC];exact h2⟩
def Res.hk:Res->Option Nat
 | .hp k _ _ _=>some k
 | .ro k _ _=>some k
 | _=>none
def Res.hk_hl (h:r.hk=some k):r.hl J=J.h k:=by cases r<;>simp [Res.hk]at h<;>simp [Res.hl,h]
def Res.anyB:Res->Bool
 | .ro _ _ any=>any
 | _=>false
def posAny:Mem->Nat->Option (Nat×Res)
 | [],_=>none
 | r::m,p=>if r.anyB then some (p,r)else posAny m (p+1)
def posAny_sound:∀ {mem:Mem} {p q:Nat} {r:Res},posAny mem p=some (q,r)->p<=q/\mem[q-p]?=some r
 | [],_,_,_,h=>by cases h
 | s::m,p,q,r,h=>by
  unfold posAny at h;split at h
  .cases h;exact⟨M1 _,ar⟩
  .obtain⟨h1,h2⟩:=posAny_sound h;exact⟨ae,by rw[show q-p=(q-(p+1))+1 by omega,NC];exact h2⟩
def fHp (mem:Mem) (x:E):Option (Nat×Res) :=
 match posHp x mem 0 with
 | some (p,.ro k tags false)=>if tags.contains x then some (p,.ro k tags false)else match posAny mem 0 with
  | some q=>some q
  | none=>some (p,.ro k tags false)
 | some r=>some r
 | none=>posAny mem 0
def fHp_sound {x:E} (h:fHp mem x=some (p,r)):mem[p]?=some r:=by
 have any:∀ {p r},posAny mem 0=some (p,r)->mem[p]?=some r:=fun h=>by
  have:=(posAny_sound h).2;simpa using this
 have hp:∀ {p r},posHp x mem 0=some (p,r)->mem[p]?=some r:=fun h=>by
  have:=(posHp_sound h).2;simpa using this
 unfold fHp at h;split at h
 .rename_i hr;split at h
  .cases h;exact hp hr
  .split at h
   .rename_i a;cases h;exact any a
   .cases h;exact hp hr
 .rename_i hr;cases h;exact hp hr
 .exact any h
def run_isAgg {P:Program} {d:TypeDesc} (hu:P.underlying t=some d) (w:World):(isAgg t).run P w=.ok (match d with | .struct _ | .array _ _=>true | _=>false) w:=by
 unfold isAgg;rw[Sem.run_bind,run_underlying hu w];cases d<;>rfl
def aggB (P:Program) (t:TypeId):Option Bool :=
 match P.underlying t with
 | some (.struct _)=>some true
 | some (.array _ _)=>some true
 | some _=>some false
 | none=>none
def aggB_run {P:Program} {b:Bool} (h:aggB P t=some b) (w:World):(isAgg t).run P w=.ok b w:=by
 unfold aggB at h;split at h
 .rename_i hu;cases h;exact run_isAgg hu w
 .rename_i hu;cases h;exact run_isAgg hu w
 .rename_i d hs a hu;cases h;rw[run_isAgg hu w];cases d<;>first | rfl | (exact absurd rfl (hs _)) | (exact absurd rfl (a _ _)) | (exact absurd hu (hs _)) | (exact absurd hu (a _ _))
 .cases h
def sizeT (P:Program) (t:TypeId):Option Nat:=(P.info? t).map (·.size)
def sizeT_run {P:Program} (h:sizeT P t=some n) (w:World):(sizeOf t).run P w=.ok n w:=by
 unfold sizeT at h;cases hi:P.info? t with
 | none=>simp [hi]at h
 | some i=>simp [hi]at h;subst h;simp [sizeOf,typeInfo,hi]
def zeroT (P:Program) (t:TypeId):Option Value:=(P.info? t).bind (·.zero)
def zeroT_run {P:Program} (h:zeroT P t=some v) (w:World):(zeroValue t).run P w=.ok v w:=by
 unfold zeroT at h;cases hi:P.info? t with
 | none=>simp [hi]at h
 | some i=>simp [hi]at h;simp [zeroValue,typeInfo,hi,h]
def loadRow (P:Program) (t:TypeId) (l:List CV) (o:Nat):Option SV :=
 match aggB P t,sizeT P t with
 | some true,some n=>if o+n<=l.length then some (.agg ((l.drop o).take n))else none
 | some false,_=>(l[o]?).map .one
 | _,_=>none
def addr_add (b o n:Nat):(⟨b,o,none⟩:Addr).add n=⟨b,o+n,none⟩:=by unfold Addr.add;split<;>simp_all
def loadVar_cells {P:Program} {b:Nat} {cs:List Value} (a:aggB P t=some true) (hs:sizeT P t=some n) (hl:cs.length=n)
 (h:∀ j v,cs[j]?=some v->w.cell? ⟨b,o+j,none⟩=some v):(loadVar t ⟨b,o,none⟩).run P w=.ok (.agg cs.toArray) w:=by
 unfold loadVar;simp only[Sem.run_bind,aggB_run a,Result.andThen_ok,OA,sizeT_run hs];subst hl;rw[run_loadCells_list w ⟨b,o,none⟩ cs (fun j v hv=>by rw[addr_add];exact h j v hv)];rfl
def loadVar_one {P:Program} {p:Addr} (a:aggB P t=some false) (h:w.cell? p=some v):(loadVar t p).run P w=.ok v w:=by
 unfold loadVar;simp only[Sem.run_bind,aggB_run a,Result.andThen_ok,NI,Om];simp [load,Sem.run,h]
def loadRow_sound {P:Program} {l:List CV} {b:Nat} {v:SV} {d:Nat×Nat} (h:loadRow P t l o=some v)
 (hb:w.heap[b]?=some (.cells (l.map (CV.ev J)).toArray T d)):(loadVar t ⟨b,o,none⟩).run P w=.ok (v.ev J) w:=by
 have c:∀ j,w.cell? ⟨b,j,none⟩=(l[j]?).map (CV.ev J):=fun j=>by simp [World.cell?,hb]
 unfold loadRow at h;split at h
 .rename_i n a hs;split at h
  .rename_i hle;cases h;refine loadVar_cells (cs:=((l.drop o).take n).map (CV.ev J)) a hs (by simp;omega) (fun j x hx=>?_);rw[c];rw[MU,NB]at hx;split at hx
   .rwa[Nm]at hx
   .simp at hx
  .cases h
 .rename_i a;simp only[MN]at h;obtain⟨x,hx,rfl⟩:=h;exact loadVar_one a (by rw[c,hx];rfl)
 .cases h
def MRel.blk (h:MRel S w0 J mem w) {a:Nat} {l:List CV} (hp:mem[p]?=some (.blk a l T)):w.heap[(J.i a).toNat]?=some (.cells (l.map (CV.ev J)).toArray T (0,0)) :=
 h.sub _ (MG hp) _ _ (Hl.one_self _ _)
end
abbrev TI (k:IntKind) (e:E):TV:=.sv (.one (.int k e))
abbrev TB (e:E):TV:=.sv (.one (.bool e))
abbrev TS (e:E):TV:=.sv (.one (.str e))
abbrev TP (x y:E):TV:=.sv (.one (.hptr x y))
def mkShl (k:IntKind):E->E->E
 | .lit a,.lit b=>.lit (k.wrap (a*2 ^ (min b.toNat k.bits)))
 | a,b=>.shl k a b
def iev_mkShl (J:Env) (k:IntKind) (a b:E):iev J (mkShl k a b)=k.wrap (iev J a*2 ^ (min (iev J b).toNat k.bits)):=by
 unfold mkShl;split<;>rfl
def mkShr (k:IntKind):E->E->E
 | .lit a,.lit b=>.lit (a.fdiv (2 ^ (min b.toNat k.bits)))
 | a,b=>.shr k a b
def iev_mkShr (J:Env) (k:IntKind) (a b:E):iev J (mkShr k a b)=(iev J a).fdiv (2 ^ (min (iev J b).toNat k.bits)):=by
 unfold mkShr;split<;>rfl
def mkQuo:E->E->E
 | .lit a,.lit b=>.lit (a.tdiv b)
 | a,b=>.quo a b
def iev_mkQuo (J:Env) (a b:E):iev J (mkQuo a b)=(iev J a).tdiv (iev J b):=by unfold mkQuo;split<;>rfl
def mkRem:E->E->E
 | .lit a,.lit b=>.lit (a.tmod b)
 | a,b=>.rem a b
def iev_mkRem (J:Env) (a b:E):iev J (mkRem a b)=(iev J a).tmod (iev J b):=by unfold mkRem;split<;>rfl
def binI (op:BinOp) (k c:IntKind) (a b:E):Option (E×TV) :=
 match op with
 | .shl=>some (mkLe (.lit 0) b,TI k (mkShl k a b))
 | .shr=>some (mkLe (.lit 0) b,TI k (mkShr k a b))
 | op=>if k=c then match op with
  | .add=>some (.tt,TI k (mkWrap k (mkAdd a b)))
  | .sub=>some (.tt,TI k (mkWrap k (mkSub a b)))
  | .mul=>some (.tt,TI k (mkWrap k (mkMul a b)))
  | .quo=>some (mkNot (mkEq b (.lit 0)),TI k (mkWrap k (mkQuo a b)))
  | .rem=>some (mkNot (mkEq b (.lit 0)),TI k (mkRem a b))
  | .and=>some (.tt,TI k (.bits .and k a b))
  | .or=>some (.tt,TI k (.bits .or k a b))
  | .xor=>some (.tt,TI k (.bits .xor k a b))
  | .andNot=>some (.tt,TI k (.bits .andNot k a b))
  | .eql=>some (.tt,TB (mkEq a b))
  | .neq=>some (.tt,TB (mkNot (mkEq a b)))
  | .lss=>some (.tt,TB (mkLt a b))
  | .leq=>some (.tt,TB (mkLe a b))
  | .gtr=>some (.tt,TB (mkLt b a))
  | .geq=>some (.tt,TB (mkLe b a))
  | _=>none
 else none
section
variable {P:Program} {J:Env} {w:World}
def binI_sound {k c:IntKind} {a b n:E} {v:TV} (h:binI op k c a b=some (n,v)) (hn:bev J n=true) :
 (binOp op T (.int k (iev J a)) (.int c (iev J b))).run P w=.ok (v.ev J) w:=by
 unfold binI at h;split at h
 .cases h;rw[bev_mkLe,iev_lit,MI]at hn;have:¬iev J b<0:=ae;simp only[binOp,Op.shift,this,Om,TV.ev,SV.ev,CV.ev,iev_mkShl];rfl
 .cases h;rw[bev_mkLe,iev_lit,MI]at hn;have:¬iev J b<0:=ae;simp only[binOp,Op.shift,this,Om,TV.ev,SV.ev,CV.ev,iev_mkShr];rfl
 .split at h
  .rename_i hk;subst hk;split at h<;>first | (cases h;done) | skip
   all_goals cases h
   case h_4 =>
    rw[bev_mkNot,bev_mkEq,NK,NF,iev_lit]at hn;have hz:¬iev J b=0:=hn;simp only[binOp,ne_eq,OJ,Om,Op.intDiv,MM hz,TV.ev,SV.ev,CV.ev,iev_mkWrap,iev_mkQuo,Sem.run_pure]
   case h_5 =>
    rw[bev_mkNot,bev_mkEq,NK,NF,iev_lit]at hn;have hz:¬iev J b=0:=hn;simp only[binOp,ne_eq,OJ,Om,Op.intDiv,MM hz,TV.ev,SV.ev,CV.ev,iev_mkRem,Sem.run_pure]
   all_goals
    simp only[binOp,ne_eq,OJ,Om,Op.intArith,Op.intBits,Op.intCmp,TV.ev,SV.ev,CV.ev,iev_mkWrap,iev_mkAdd,iev_mkSub,iev_mkMul,iev_bits,bev_mkEq,bev_mkNot,bev_mkLt,bev_mkLe,bitsI]
    try rfl
    try (simp only[Sem.run_pure];congr 2;rw[OU];simp)
  .cases h
def toList_beq (x y:ByteArray):(x.toList==y.toList)=decide (x=y):=by
 rw[OU];simp only[Pe,MI];refine⟨fun h=>?_,fun h=>by rw[h]⟩;rw[ByteArray.toList_eq,ByteArray.toList_eq]at h;cases x;cases y;simp at h;rw[h]
def binS (op:BinOp) (a b:E):Option (E×TV) :=
 match op with
 | .add=>some (mkLe (mkAdd (mkLen a) (mkLen b)) (.lit 9223372036854775807),TS (mkCat a b))
 | .eql=>some (.tt,TB (mkSeq a b))
 | .neq=>some (.tt,TB (mkNot (mkSeq a b)))
 | _=>none
def binS_sound {a b n:E} {v:TV} (h:binS op a b=some (n,v)) (hn:bev J n=true) :
 (binOp op T (.string (sev J a)) (.string (sev J b))).run P w=.ok (v.ev J) w:=by
 unfold binS at h;split at h
 .cases h;rw[bev_mkLe,iev_mkAdd,iev_mkLen,iev_mkLen,iev_lit,MI]at hn;have:¬(((sev J a).size+(sev J b).size:Nat):Int)>IntKind.i64.max:=by simp only[IntKind.max,IntKind.signed,IntKind.bits];omega
  simp only[binOp,Op.stringOp,MM this,TV.ev,SV.ev,CV.ev,sev_mkCat,Sem.run_pure]
 .cases h;simp only[binOp,Op.stringOp,TV.ev,SV.ev,CV.ev,bev_mkSeq,Sem.run_pure,toList_beq]
 .cases h;simp only[binOp,Op.stringOp,TV.ev,SV.ev,CV.ev,bev_mkNot,bev_mkSeq,Sem.run_pure,toList_beq]
 .cases h
def selSV (i:E):Nat->List SV->Option SV
 | _,[]=>none
 | _,[v]=>some v
 | j,v::l=>match selSV i (j+1) l with
  | some r=>mergeSV (mkEq i (.lit j)) v r
  | none=>none
def selSV_ev {i:E} : ∀ (l:List SV) (j:Nat) (v:SV),selSV i j l=some v->(j:Int)<=iev J i->iev J i<j+l.length->∃ x,l[(iev J i).toNat-j]?=some x/\v.ev J=x.ev J
 | [],j,v,h,_,_=>by simp [selSV]at h
 | [x],j,v,h,h1,h2=>by
  simp only[selSV,MP]at h;subst h;simp only[Nq]at h2;have:(iev J i).toNat-j=0:=ae;exact⟨x,by rw[this];rfl,rfl⟩
 | x::y::l,j,v,h,h1,h2=>by
  simp only[selSV]at h;split at h
  .rename_i r hr;have hm:=mergeSV_ev (J:=J) h;rw[bev_mkEq,iev_lit]at hm;by_cases he:iev J i=(j:Int)
   .have:(iev J i).toNat-j=0:=ae;exact⟨x,by rw[this];rfl,by rw[hm];simp [he]⟩
   .simp only[Nk]at h2;obtain⟨z,hz,hv⟩:=selSV_ev (y::l) (j+1) r hr ae (by simp only[Nk];omega);refine⟨z,?_,by rw[hm,<-hv];simp [he]⟩;have:(iev J i).toNat-j=((iev J i).toNat-(j+1))+1:=ae;rw[this,NC];exact hz
  .cases h
def inB (i:E) (n:Nat):E:=mkAnd (mkLe (.lit 0) i) (mkLt i (.lit n))
def inB_sound (h:bev J (inB i n)=true):0<=iev J i/\iev J i<n:=by
 unfold inB at h;rw[bev_mkAnd,ML,bev_mkLe,bev_mkLt,MI,MI]at h;exact h
def allSome {α:Type} : List (Option α)->Option (List α)
 | []=>some []
 | some x::l=>(allSome l).map (x::·)
 | none::_=>none
def allSome_get {α:Type} : ∀ {l:List (Option α)} {m:List α},allSome l=some m->m.length=l.length/\∀ (j:Nat) x,m[j]?=some x->l[j]?=some (some x)
 | [],m,h=>by cases h;simp
 | some y::l,m,h=>by
  simp only[allSome,MN]at h;obtain⟨r,hr,rfl⟩:=h;obtain⟨h1,h2⟩:=allSome_get hr;refine⟨by simp [h1],fun j x hx=>?_⟩;cases j with
  | zero=>simpa using hx
  | succ j=>simpa using h2 j x (by simpa using hx)
 | none::l,m,h=>by simp [allSome]at h
def kindOf:Value->Kd
 | .int k _=>.int k
 | .bool _=>.bool
 | .slice _ _ _=>.slice
 | .pointer _=>.ptr
 | .string _=>.str
 | .map _=>.map
 | _=>.any
def romC (h:Nat) (x y:E) (j:Nat):Kd->CV
 | .int k=>.int k (.hI h x y j)
 | .bool=>.bool (.hB h x y j)
 | .slice=>.sl (.hP h x y j 0) (.hP h x y j 1) (.hP h x y j 2) (.hP h x y j 3)
 | .ptr=>.hptr (.hP h x y j 0) (.hP h x y j 1)
 | .str=>.str (.hS h x y j)
 | .map=>.map (.hP h x y j 0)
 | .any=>.hv h x y j
def romC_sound {h:Nat} {x y:E} {k:Kd} (hh:bev J (.his h x y j k)=true):(J.h h).cell (iev J x).toNat ((iev J y).toNat+j)=some ((romC h x y j k).ev J):=by
 rw[bev_his]at hh;cases d:(J.h h).cell (iev J x).toNat ((iev J y).toNat+j)with
 | none=>simp [d,valIs]at hh
 | some v =>
  rw[d]at hh;cases k with
  | any=>simp [romC,CV.ev,d]
  | int k =>
   cases v<;>simp only[valIs,NI,MI]at hh
   subst hh;simp [romC,CV.ev,iev_hI,d,valI]
  | bool =>
   cases v<;>simp only[valIs,NI]at hh
   simp [romC,CV.ev,bev_hB,d,valB]
  | str =>
   cases v<;>simp only[valIs,NI]at hh
   simp [romC,CV.ev,sev_hS,d,valS]
  | map =>
   cases v<;>simp only[valIs,NI]at hh
   rename_i r;cases r<;>simp [romC,CV.ev,iev_hP,d,valP]
  | slice =>
   cases v<;>simp only[valIs,NI]at hh
   rename_i a n c;cases a with
   | none=>simp [romC,CV.ev,iev_hP,d,valP,slP]
   | some a =>
    obtain⟨b,o,s⟩:=a;cases s with
    | none=>simp [romC,CV.ev,iev_hP,d,valP,slP]
    | some s =>
     simp only[romC,CV.ev,iev_hP,d,valP,MD];unfold slP;rw[MM ae,MM ae,MD,unp_pair,show(-(-(b:Int)-2)-2).toNat=b by omega]
  | ptr =>
   unfold valIs at hh;split at hh<;>first | (cases hh;done) | skip
   all_goals simp_all
   .simp [romC,CV.ev,iev_hP,d,valP,slP]
   .simp [romC,CV.ev,iev_hP,d,valP,slP]
def romCells (h:Nat) (x y:E):Nat->List Kd->List CV
 | _,[]=>[]
 | j,k::l=>romC h x y j k::romCells h x y (j+1) l
def romNeed (h:Nat) (x y:E):Nat->List Kd->E
 | _,[]=>.tt
 | j,k::l=>mkAnd (.his h x y j k) (romNeed h x y (j+1) l)
def romCells_sound {h:Nat} {x y:E} : ∀ (ks:List Kd) (j:Nat),bev J (romNeed h x y j ks)=true->∀ (i:Nat) v,((romCells h x y j ks).map (CV.ev J))[i]?=some v->(J.h h).cell (iev J x).toNat ((iev J y).toNat+(j+i))=some v
 | [],_,_,i,v,h=>by simp [romCells]at h
 | k::l,j,hn,i,v,h=>by
  simp only[romNeed,bev_mkAnd,ML]at hn;cases i with
  | zero =>
   simp only[romCells,M6,NG,MP]at h;rw[<-h];exact romC_sound hn.1
  | succ i =>
   simp only[romCells,M6,NC]at h;have:=romCells_sound l (j+1) hn.2 i v h;rwa[show j+(i+1)=j+1+i by omega]
def romCells_length (h:Nat) (x y:E):∀ (ks:List Kd) (j:Nat),(romCells h x y j ks).length=ks.length
 | [],_=>rfl
 | _::l,j=>by simp [romCells,romCells_length h x y l (j+1)]
def romNeed_bytes {h:Nat} {x y:E} : ∀ (ks:List Kd) (j:Nat),ks.all (fun k=>decide (k=.int .u8))=true->(∀ i,i<ks.length->valIs ((J.h h).cell (iev J x).toNat ((iev J y).toNat+(j+i))) (.int .u8)=true)->bev J (romNeed h x y j ks)=true
 | [],_,_,_=>by simp [romNeed,bev_tt]
 | k::l,j,a,hb=>by
  simp only[PO,ML,MI]at a;obtain⟨rfl,a⟩:=a;simp only[romNeed,bev_mkAnd,ML,bev_his];refine⟨by have:=hb 0 ar;simpa using this,romNeed_bytes l (j+1) a fun i hi=>?_⟩;have:=hb (i+1) (by simp only[Nk];omega);rwa[show j+(i+1)=j+1+i by omega]at this
def romNeedW (h:Nat) (x y:E) (ks:List Kd):E :=
 if decide (8<ks.length)&&ks.all (fun k=>decide (k=.int .u8))then .hby h x y (.lit ks.length)else if 8<ks.length then .hks h x y ks else romNeed h x y 0 ks
def romNeed_row {h:Nat} {x y:E} : ∀ (ks:List Kd) (j:Nat),rowIs (J.h h) (iev J x).toNat ((iev J y).toNat+j) ks=true->bev J (romNeed h x y j ks)=true
 | [],_,_=>by simp [romNeed,bev_tt]
 | k::l,j,hr=>by
  simp only[rowIs,ML]at hr;simp only[romNeed,bev_mkAnd,ML,bev_his];exact⟨hr.1,romNeed_row l (j+1) hr.2⟩
def romNeedW_ev {h:Nat} {x y:E} {ks:List Kd} (hn:bev J (romNeedW h x y ks)=true):bev J (romNeed h x y 0 ks)=true:=by
 unfold romNeedW at hn;split at hn
 .rename_i a;simp only[ML,MI]at a;rw[bev_hby,iev_lit,MD]at hn;unfold cellBytes at hn;rw[M8]at hn;refine romNeed_bytes ks 0 a.2 fun i hi=>?_;have:=hn i (Nn.2 hi);rwa[Nw]
 .split at hn
  .exact romNeed_row ks 0 hn
  .exact hn
def knownP (mem:Mem) (x y:E):Option (Nat×Nat×List CV×TypeId×Nat) :=
 match x,y with
 | .var a,.lit o=>if 0<=o then(fBlk mem a).map fun r=>(a,r.1,r.2.1,r.2.2,o.toNat)else none
 | _,_=>none
def knownP_sound {mem:Mem} {x y:E} {a:Nat} {l:List CV} (h:knownP mem x y=some (a,p,l,T,o)):x=.var a/\y=.lit o/\mem[p]?=some (.blk a l T):=by
 unfold knownP at h;split at h
 .rename_i a' o';split at h
  .rename_i ho;simp only[MN,Nr]at h;obtain⟨⟨q,l',c⟩,b,rfl,rfl,rfl,rfl,rfl⟩:=h;refine⟨rfl,by rw[O7 ho],fBlk_sound b⟩
  .cases h
 .cases h
def nnX (mem:Mem) (x:E):E :=
 match x with
 | .var a=>if(fBlk mem a).isSome then .tt else .le (.lit 0) x
 | x=>mkLe (.lit 0) x
def MRel.nnX {S:Nat->Prop} {w0:World} {mem:Mem} (h:MRel S w0 J mem w) {x:E} (hx:bev J (nnX mem x)=true):0<=iev J x:=by
 unfold Sx.nnX at hx;split at hx
 .split at hx
  .rename_i a b;obtain⟨⟨p,l,T⟩,hp⟩:=NJ.1 b;exact h.pos _ (MG (fBlk_sound hp))
  .rw[bev_le,iev_lit,MI]at hx;exact hx
 .rw[bev_mkLe,iev_lit,MI]at hx;exact hx
def loadE (P:Program) (mem:Mem) (t:TypeId):CV->Option (E×SV)
 | .pti a o s n i=>match fBlk mem a with
  | some (_,l,_)=>match allSome ((List.range n).map fun j=>loadRow P t l (o+s*j))with
   | some vs=>(selSV i 0 vs).map fun v=>(inB i n,v)
   | none=>none
  | _=>none
 | .hptr x y=>match knownP mem x y with
  | some (_,_,l,_,o)=>(loadRow P t l o).map fun v=>(.tt,v)
  | none=>match(fHp mem x).bind (fun r=>r.2.hk)with
   | some h=>match aggB P t,zeroT P t,sizeT P t with
    | some true,some z,some n =>
     let ks:=z.cells.toList.map kindOf
     if ks.length=n then some (mkAnd (mkLe (.lit 0) x) (mkAnd (mkLe (.lit 0) y) (romNeedW h x y ks)),.agg (romCells h x y 0 ks))else none
    | some false,some z,_=>some (mkAnd (mkLe (.lit 0) x) (mkAnd (mkLe (.lit 0) y) (.his h x y 0 (kindOf z))),.one (romC h x y 0 (kindOf z)))
    | _,_,_=>none
   | none=>none
 | _=>none
variable {S:Nat->Prop} {w0:World} {mem:Mem}
def fHp_hk (h:MRel S w0 J mem w) {x:E} (hf:(fHp mem x).bind (fun r=>r.2.hk)=some k):(J.h k).sub w:=by
 cases hh:fHp mem x with
 | none=>simp [hh]at hf
 | some r =>
  simp only[hh,OM]at hf;have:=h.sub r.2 (MG (fHp_sound (p:=r.1) (r:=r.2) hh));rwa[Res.hk_hl hf]at this
def loadE_sound (h:MRel S w0 J mem w) {c:CV} {n:E} {v:SV} (hl:loadE P mem t c=some (n,v)) (hn:bev J n=true) :
 ∃ p,c.ev J=.pointer (some p)/\(loadVar t p).run P w=.ok (v.ev J) w:=by
 unfold loadE at hl;split at hl
 .rename_i b o s m i;split at hl
  .rename_i p l T hb;split at hl
   .rename_i vs r;simp only[MN,Nr]at hl;obtain⟨v',hv,rfl,rfl⟩:=hl;obtain⟨h1,h2⟩:=inB_sound hn;obtain⟨hlen,g⟩:=allSome_get r;simp only[M7,Oy]at hlen;obtain⟨x,hx,A⟩:=selSV_ev vs 0 v' hv ae ae;have f:=g _ _ hx;rw[PQ,MU,Nf ae]at f;simp only[Nl,MP]at f;have hk:=fBlk_sound hb;have d:0<=J.i b:=h.pos _ (MG hk);refine⟨_,by simp only[CV.ev];rw[slP_pos d],?_⟩;have e:((o:Int)+(s:Int)*iev J i).toNat=o+s*(iev J i).toNat:=by
     obtain⟨q,D⟩:=N3 h1;rw[D,MD,<-Int.natCast_mul,<-Int.natCast_add,MD]
    rw[e,A];exact loadRow_sound f (h.blk hk)
   .cases hl
  .cases hl
 .rename_i x y;split at hl
  .rename_i a p l T o B;obtain⟨rfl,rfl,hk⟩:=knownP_sound B;simp only[MN,Nr]at hl;obtain⟨v',hv,rfl,rfl⟩:=hl;have d:0<=J.i a:=h.pos _ (MG hk);exact⟨_,by simp only[CV.ev,iev_var,iev_lit];rw[slP_pos d,MD],loadRow_sound hv (h.blk hk)⟩
  .split at hl
   .rename_i k hk;have hsub:=fHp_hk h hk;split at hl
    .rename_i z m C hz hs;simp only at hl;split at hl
     .rename_i hm;cases hl;rw[bev_mkAnd,ML,bev_mkAnd,ML,bev_mkLe,bev_mkLe,iev_lit,MI,MI]at hn;obtain⟨hx,hy,hn⟩:=hn;replace hn:=romNeedW_ev hn;refine⟨_,by simp only[CV.ev];rw[slP_pos hx],?_⟩;refine loadVar_cells (cs:=(romCells k x y 0 (z.cells.toList.map kindOf)).map (CV.ev J)) C hs (by simp only[M7,romCells_length];simpa using hm) (fun j u hu=>?_);have:=romCells_sound _ 0 hn j u hu;rw[Nw]at this;exact Hl.sub_cell hsub this
     .cases hl
    .rename_i z _ C hz;cases hl;rw[bev_mkAnd,ML,bev_mkAnd,ML,bev_mkLe,bev_mkLe,iev_lit,MI,MI]at hn;obtain⟨hx,hy,hn⟩:=hn;have:=romC_sound hn;refine⟨_,by simp only[CV.ev];rw[slP_pos hx],loadVar_one C ?_⟩;exact Hl.sub_cell hsub this
    .cases hl
   .cases hl
 .cases hl
end
abbrev RT:=Option (E×TV)
def unE:UnOp->TV->RT
 | .not,.sv (.one (.bool e))=>some (.tt,TB (mkNot e))
 | .neg,.sv (.one (.int k e))=>some (.tt,TI k (mkWrap k (mkSub (.lit 0) e)))
 | .xor,.sv (.one (.int k e))=>some (.tt,TI k (.bits .xor k (.lit (if k.signed then -1 else k.max)) e))
 | _,_=>none
def strOf:List CV->Option E
 | []=>some (.slit .empty)
 | .int .u8 e::l=>(strOf l).map fun s=>mkCat (.sbyte e) s
 | _=>none
def isU8 (P:Program) (el:TypeId):Bool:=match P.underlying el with | some (.int .u8)=>true | _=>false
def convE (P:Program) (mem:Mem) (src dst:TypeId) (x:TV):RT :=
 match P.underlying src,P.underlying dst,x with
 | some _,some (.int k),.sv (.one (.int _ e))=>some (.tt,TI k (mkWrap k e))
 | some .string,some .string,.sv (.one (.str e))=>some (.tt,TS e)
 | some (.slice el),some .string,.sv (.one (.sl x y l c)) =>
  if isU8 P el then
   if x=.lit (-1)then some (.tt,TS (.slit .empty))else
   match knownP mem x y,l with
   | some (_,_,cs,_,o),.lit n=>if o+n.toNat<=cs.length then(strOf ((cs.drop o).take n.toNat)).map fun s=>(.tt,TS s)else none
   | _,_=>match(fHp mem x).bind (fun r=>r.2.hk)with
    | some h=>some (mkOr (mkEq x (.lit (-1))) (mkOr (mkEq l (.lit 0)) (mkAnd (mkLe (.lit 0) x) (mkAnd (mkLe (.lit 0) y) (.hby h x y l)))),TS (mkIte (mkEq x (.lit (-1))) (.slit .empty) (.sof h x y l)))
    | none=>none
  else none
 | _,_,_=>none
def fieldAddrE (P:Program) (mem:Mem) (s:TypeId) (f:Nat) (x:TV):RT :=
 match P.underlying s with
 | some (.struct fs)=>match fs[f]? with
  | some fl=>match sizeT P fl.type with
   | some (_+1)=>match x with
    | .sv (.one (.hptr x y))=>some (mkAnd (nnX mem x) (mkLe (.lit 0) y),TP x (mkAdd y (.lit fl.offset)))
    | .sv (.one (.pti a o s n i))=>if(fBlk mem a).isSome then some (inB i n,.sv (.one (.pti a (o+fl.offset) s n i)))else none
    | _=>none
   | _=>none
  | none=>none
 | _=>none
def indexAddrE (P:Program) (mem:Mem) (t:TypeId) (x i:TV):RT :=
 match i with
 | .sv (.one (.int _ e))=>match P.underlying t with
  | some (.array len el)=>match sizeT P el,x with
   | some n,.sv (.one (.pti a o s m k))=>match e with
    | .lit j=>if 0<=j/\j<len/\(fBlk mem a).isSome then some (inB k m,.sv (.one (.pti a (o+j.toNat*n) s m k)))else none
    | _=>none
   | some n,.sv (.one (.hptr x y))=>match e,knownP mem x y with
    | .lit j,_=>if 0<=j/\j<len then some (mkAnd (nnX mem x) (mkLe (.lit 0) y),TP x (mkAdd y (.lit (j.toNat*n))))else none
    | e,some (a,_,_,_,o)=>some (inB e len,.sv (.one (.pti a o n len e)))
    | e,none=>some (mkAnd (nnX mem x) (mkAnd (mkLe (.lit 0) y) (inB e len)),TP x (mkAdd y (mkMul e (.lit n))))
   | _,_=>none
  | some (.slice el)=>match sizeT P el,x with
   | some n,.sv (.one (.sl x y l _))=>match e,knownP mem x y,l with
    | .lit j,_,_=>some (mkAnd (nnX mem x) (mkAnd (mkLe (.lit 0) y) (mkAnd (mkLe (.lit 0) (.lit j)) (mkLt (.lit j) l))),TP x (mkAdd y (mkMul (.lit j) (.lit n))))
    | e,some (a,_,_,_,o),.lit q=>some (mkAnd (inB e q.toNat) (mkLe (.lit 0) (.lit q)),.sv (.one (.pti a o n q.toNat e)))
    | e,_,l=>some (mkAnd (nnX mem x) (mkAnd (mkLe (.lit 0) y) (mkAnd (mkLe (.lit 0) e) (mkLt e l))),TP x (mkAdd y (mkMul e (.lit n))))
   | _,_=>none
  | _=>none
 | _=>none
def fieldE (P:Program) (t:TypeId) (f:Nat) (x:TV):RT :=
 match P.underlying t,x with
 | some (.struct fs),.sv (.agg l)=>match fs[f]? with
  | some fl=>(loadRow P fl.type l fl.offset).map fun v=>(.tt,.sv v)
  | none=>none
 | _,_=>none
def indexE (P:Program) (t:TypeId) (x i:TV):RT :=
 match P.underlying t,x,i with
 | some (.array len el),.sv (.agg l),.sv (.one (.int _ e))=>match sizeT P el with
  | some n=>match e with
   | .lit j=>if 0<=j/\j<len then(loadRow P el l (j.toNat*n)).map fun v=>(.tt,.sv v)else none
   | e=>match allSome ((List.range len).map fun j=>loadRow P el l (j*n))with
    | some vs=>(selSV e 0 vs).map fun v=>(inB e len,.sv v)
    | none=>none
  | none=>none
 | some .string,.sv (.one (.str s)),.sv (.one (.int _ e))=>some (mkAnd (mkLe (.lit 0) e) (mkLt e (mkLen s)),TI .u8 (mkSat s e))
 | _,_,_=>none
def extractE (i:Nat):TV->RT
 | .tup l=>(l[i]?).map fun v=>(.tt,.sv v)
 | _=>none
def lenE (P:Program) (mem:Mem) (t:TypeId) (x:TV):RT :=
 match P.underlying t,x with
 | some (.array n _),_=>some (.tt,TI .i64 (.lit n))
 | some (.slice _),.sv (.one (.sl _ _ l _))=>some (mkLe (.lit 0) l,TI .i64 l)
 | some .string,.sv (.one (.str e))=>some (.tt,TI .i64 (mkLen e))
 | some (.map _ _),.sv (.one (.map x))=>match(fHp mem x).bind (fun r=>r.2.hk)with
  | some h=>some (mkAnd (mkLe (.lit 0) x) (mkAnd (mkLe (.lit 0) x) (.hism h x)),TI .i64 (.hmlen h x))
  | none=>none
 | _,_=>none
def minE:TV->TV->Option TV
 | .sv (.one (.int k x)),.sv (.one (.int _ y))=>some (TI k (mkIte (mkLt y x) y x))
 | _,_=>none
def maxE:TV->TV->Option TV
 | .sv (.one (.int k x)),.sv (.one (.int _ y))=>some (TI k (mkIte (mkLt x y) y x))
 | _,_=>none
def foldE (f:TV->TV->Option TV):List TV->TV->Option TV
 | [],x=>some x
 | y::l,x=>match f x y with
  | some z=>foldE f l z
  | none=>none
def opnds (st:St):List Operand->Option (List TV)
 | []=>some []
 | x::l=>match opnd st x,opnds st l with
  | some v,some vs=>some (v::vs)
  | _,_=>none
def builtinE (P:Program) (mem:Mem) (b:Builtin) (ats:Array TypeId) (vs:List TV):RT :=
 match b,vs with
 | .len,[x]=>match ats[0]? with | some t=>lenE P mem t x | none=>none
 | .min,x::l=>(foldE minE l x).map fun v=>(.tt,v)
 | .max,x::l=>(foldE maxE l x).map fun v=>(.tt,v)
 | _,_=>none
def SV.cells:SV->List CV
 | .one c=>[c]
 | .agg l=>l
def CV.cellB:CV->Bool
 | .val v=>v.oneCell'
 | .vr _=>false
 | .hv _ _ _ _=>false
 | _=>true
def CV.cell_one {J:Env} (c:CV) (h:c.cellB=true):(c.ev J).oneCell'=true:=by
 cases c<;>first | rfl | exact h | cases h
def SV.cells_ev {J:Env} (v:SV) (h:v.cells.all CV.cellB=true):(v.ev J).cells.toList=v.cells.map (CV.ev J):=by
 cases v with
 | one c =>
  simp only[SV.cells,PO,List.all_nil,Bool.and_true]at h;have:=CV.cell_one (J:=J) c h;simp only[SV.ev,SV.cells,M6,NN];generalize c.ev J=x at *;cases x<;>first | rfl | simp [Value.oneCell']at this
 | agg l=>simp [SV.ev,SV.cells,Value.cells]
def splice (l:List α) (o:Nat) (m:List α):List α:=l.take o++m++l.drop (o+m.length)
def fillE (place:Nat->Option (Nat×Nat)) (l:List CV):List (Nat×SV)->Option (List CV)
 | []=>some l
 | (i,v)::rest=>match place i with
  | none=>none
  | some (off,size)=>if v.cells.length=size/\off+v.cells.length<=l.length/\v.cells.all CV.cellB=true then fillE place (splice l off v.cells) rest else none
def svs:List TV->Option (List SV)
 | []=>some []
 | .sv v::l=>(svs l).map (v::·)
 | _=>none
def buildE (P:Program) (t:TypeId) (is:List Nat) (vs:List TV):RT :=
 match zeroT P t,svs vs with
 | some z,some vs=>match P.underlying t with
  | some (.struct fs)=>match allSome (fs.toList.map fun f=>(sizeT P f.type).map fun n=>(f.offset,n))with
   | some places=>(fillE (places[·]?) (z.cells.toList.map liftC) (is.zip vs)).map fun l=>(.tt,.sv (.agg l))
   | none=>none
  | some (.array _ el)=>match sizeT P el with
   | some n=>(fillE (fun i=>some (i*n,n)) (z.cells.toList.map liftC) (is.zip vs)).map fun l=>(.tt,.sv (.agg l))
   | none=>none
  | _=>none
 | _,_=>none
def boxI (P:Program) (t:TypeId) (is:List Nat) (vs:List TV):RT :=
 match is,vs,zeroT P t,P.underlying t with
 | [0],[.sv (.one (.vr j))],some z,some (.struct fs)=>match z.cells.toList,fs.toList with
  | [_],[f]=>if f.offset=0/\sizeT P f.type=some 1 then some (.le (.vint j) (.lit 1),.sv (.agg [.vr j]))else none
  | _,_=>none
 | _,_,_,_=>none
def eqFsE (P:Program) (rec:TypeId->SV->SV->Option E) (xs ys:List CV):List Field->Option E
 | []=>some .tt
 | f::fs=>if f.name≠ "_" then
  match loadRow P f.type xs f.offset,loadRow P f.type ys f.offset with
  | some a,some b=>match rec f.type a b,eqFsE P rec xs ys fs with
   | some e,some r=>some (mkAnd e r)
   | _,_=>none
  | _,_=>none
  else eqFsE P rec xs ys fs
def eqIsE (P:Program) (rec:TypeId->SV->SV->Option E) (e:TypeId) (xs ys:List CV):List Nat->Option E
 | []=>some .tt
 | i::is=>match loadRow P e xs (i*P.cellsOf e),loadRow P e ys (i*P.cellsOf e)with
  | some a,some b=>match rec e a b,eqIsE P rec e xs ys is with
   | some q,some r=>some (mkAnd q r)
   | _,_=>none
  | _,_=>none
def eqSV (P:Program):Nat->TypeId->SV->SV->Option E
 | 0,_,_,_=>none
 | d+1,t,x,y=>match P.underlying t with
  | some .bool=>match x,y with
   | .one (.bool a),.one (.bool b)=>some (mkBeq a b)
   | _,_=>none
  | some (.int _)=>match x,y with
   | .one (.int k a),.one (.int c b)=>if k=c then some (mkEq a b)else none
   | _,_=>none
  | some .string=>match x,y with
   | .one (.str a),.one (.str b)=>some (mkSeq a b)
   | _,_=>none
  | some (.slice _)=>match x,y with
   | .one (.sl x _ _ _),.one (.sl x' _ _ _)=>if x'=.lit (-1)then some (mkEq x (.lit (-1)))else if x=.lit (-1)then some (mkEq x' (.lit (-1)))else none
   | _,_=>none
  | some (.pointer _)=>match x,y with
   | .one (.hptr x _),.one (.hptr x' _)=>if x'=.lit (-1)then some (mkEq x (.lit (-1)))else if x=.lit (-1)then some (mkEq x' (.lit (-1)))else none
   | _,_=>none
  | some (.map _ _)=>match x,y with
   | .one (.map x),.one (.map x')=>if x'=.lit (-1)then some (mkEq x (.lit (-1)))else if x=.lit (-1)then some (mkEq x' (.lit (-1)))else none
   | _,_=>none
  | some (.struct fs)=>match x,y with
   | .agg xs,.agg ys=>if P.stoodInHeld t=false then eqFsE P (eqSV P d) xs ys fs.toList else none
   | _,_=>none
  | some (.array n e)=>match x,y with
   | .agg xs,.agg ys=>match P.info? e with
    | some _=>eqIsE P (eqSV P d) e xs ys (List.range n)
    | none=>none
   | _,_=>none
  | _=>none
def binE (P:Program) (op:BinOp) (t:TypeId) (X Y:TV):RT :=
 match X,Y with
 | .sv (.one (.int k a)),.sv (.one (.int c b))=>binI op k c a b
 | .sv (.one (.str a)),.sv (.one (.str b))=>binS op a b
 | .sv (.one a),.sv (.one b)=>match eqSV P 20 t (.one a) (.one b)with
  | some e=>match op with
   | .eql=>some (.tt,TB e)
   | .neq=>some (.tt,TB (mkNot e))
   | _=>none
  | none=>none
 | .sv (.agg a),.sv (.agg b)=>if P.eqGuardType P.depth t=false then
  match eqSV P 20 t (.agg a) (.agg b)with
  | some e=>match op with
   | .eql=>some (.tt,TB e)
   | .neq=>some (.tt,TB (mkNot e))
   | _=>none
  | none=>none
  else none
 | _,_=>none
def nnX1 (mem:Mem) (x:E):E :=
 match x with
 | .var a=>if(fBlk mem a).isSome then .tt else .le (.lit (-1)) x
 | x=>mkLe (.lit (-1)) x
def boundE (d:E):Option TV->Option E
 | none=>some d
 | some (.sv (.one (.int _ e)))=>some e
 | _=>none
def shiftE (m l:E) (y:E) (n:Nat):E:=mkIte (mkEq m l) y (mkAdd y (mkMul l (.lit n)))
def sliceE (P:Program) (mem:Mem) (t:TypeId) (x:TV) (lo hi mx:Option TV):RT :=
 match mx with
 | some _=>none
 | none=>match P.underlying t,x with
  | some .string,.sv (.one (.str s))=>match boundE (.lit 0) lo,boundE (mkLen s) hi with
   | some l,some h=>some (mkAnd (mkLe (.lit 0) l) (mkAnd (mkLe l h) (mkLe h (mkLen s))),TS (.sext s l h))
   | _,_=>none
  | some (.slice el),.sv (.one (.sl x y len cap))=>match boundE (.lit 0) lo,boundE len hi,sizeT P el with
   | some l,some h,some n=>some (mkAnd (nnX1 mem x) (mkAnd (mkLe (.lit 0) y) (mkAnd (mkLe (.lit 0) l) (mkAnd (mkLe l h) (mkLe h cap)))),
    .sv (.one (.sl x (shiftE cap l y n) (mkSub h l) (mkSub cap l))))
   | _,_,_=>none
  | some (.array q el),.sv (.one (.hptr x y))=>match boundE (.lit 0) lo,boundE (.lit q) hi,sizeT P el with
   | some l,some h,some n=>some (mkAnd (nnX mem x) (mkAnd (mkLe (.lit 0) y) (mkAnd (mkLe (.lit 0) l) (mkAnd (mkLe l h) (mkLe h (.lit q))))),
    .sv (.one (.sl x (shiftE (.lit q) l y n) (mkSub h l) (mkSub (.lit q) l))))
   | _,_,_=>none
  | _,_=>none
def nilCmp (P:Program) (st:St) (op:BinOp) (t:TypeId) (x y:Operand):RT :=
 match opnd st x,y with
 | some (.sv (.one (.vr j))),.const .nilIface=>match P.underlying t with
  | some (.interface _)=>match op with
   | .eql=>some (.le (.vint j) (.lit 1),TB (.eq (.vint j) (.lit 0)))
   | .neq=>some (.le (.vint j) (.lit 1),TB (.not (.eq (.vint j) (.lit 0))))
   | _=>none
  | _=>none
 | some (.sv (.one (.val .nilIface))),.const .nilIface=>match P.underlying t with
  | some (.interface _)=>match op with
   | .eql=>some (.tt,TB .tt)
   | .neq=>some (.tt,TB .ff)
   | _=>none
  | _=>none
 | _,_=>none
def quiet (P:Program) (st:St) (op:Op):RT :=
 match op with
 | .move x=>(opnd st x).map fun v=>(.tt,v)
 | .assign x=>(opnd st x).map fun v=>(.tt,v)
 | .pick c a b=>match opnd st c with
  | some (.sv (.one (.bool e)))=>match known st.path e with
   | some true=>(opnd st a).map fun v=>(.tt,v)
   | some false=>(opnd st b).map fun v=>(.tt,v)
   | none=>match opnd st a,opnd st b with
    | some (.sv g),some (.sv j)=>(mergeSV e g j).map fun v=>(.tt,.sv v)
    | _,_=>none
  | _=>none
 | .nilCheck x=>match opnd st x with
  | some (.sv (.one (.hptr x y)))=>some (nnX st.mem x,TP x y)
  | _=>none
 | .binOp op t x y _=>match nilCmp P st op t x y with
  | some r=>some r
  | none=>match opnd st x,opnd st y with
   | some a,some b=>binE P op t a b
   | _,_=>none
 | .unOp op _ x=>match opnd st x with
  | some a=>unE op a
  | none=>none
 | .convert s d x=>match opnd st x with
  | some a=>convE P st.mem s d a
  | none=>none
 | .fieldAddr s x f=>match opnd st x with
  | some a=>fieldAddrE P st.mem s f a
  | none=>none
 | .field t x f=>match opnd st x with
  | some a=>fieldE P t f a
  | none=>none
 | .indexAddr t x i=>match opnd st x,opnd st i with
  | some a,some b=>indexAddrE P st.mem t a b
  | _,_=>none
 | .index t x i=>match opnd st x,opnd st i with
  | some a,some b=>indexE P t a b
  | _,_=>none
 | .load t x=>match opnd st x with
  | some (.sv (.one c))=>(loadE P st.mem t c).map fun r=>(r.1,.sv r.2)
  | _=>none
 | .extract x i=>match opnd st x with
  | some a=>extractE i a
  | none=>none
 | .sliceToArrayPointer t x=>match P.underlying t,opnd st x with
  | some (.array n _),some (.sv (.one (.sl x y l _)))=>some (mkLe (.lit n) l,TP x y)
  | _,_=>none
 | .slice t x lo hi mx=>match opnd st x with
  | some a=>match(match lo with | none=>some none | some o=>(opnd st o).map some),(match hi with | none=>some none | some o=>(opnd st o).map some),(match mx with | none=>some none | some o=>(opnd st o).map some)with
   | some l,some h,some m=>sliceE P st.mem t a l h m
   | _,_,_=>none
  | none=>none
 | .makeFunc (.func f) first captured=>if first=#[]/\captured=#[]then some (.tt,.sv (.one (.val (.func (.func f) #[] #[]))))else match captured.toList with
  | [c]=>if first=#[]then match opnd st c with
   | some (.sv (.one (.hptr x y)))=>if y=.lit 0 then some (.tt,.sv (.one (.clo f x)))else none
   | _=>none
   else none
  | [c,d]=>if first=#[]then match opnd st c,opnd st d with
   | some (.sv (.one (.hptr x y))),some (.sv (.one (.hptr x' y')))=>if y=.lit 0/\y'=.lit 0 then some (.tt,.sv (.one (.clo2 f x x')))else none
   | _,_=>none
   else none
  | _=>none
 | .call {callee:=.builtin b,args,argTypes}=>match opnds st args.toList with
  | some vs=>builtinE P st.mem b argTypes vs
  | none=>none
 | .build t parts=>match opnds st (parts.toList.map (·.2))with
  | some vs=>match boxI P t (parts.toList.map (·.1)) vs with
   | some r=>some r
   | none=>buildE P t (parts.toList.map (·.1)) vs
  | none=>none
 | _=>none
end Go.Sx
