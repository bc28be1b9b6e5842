/- Pull after pull, for all and with bodies, brings every piece laid in a door once, each whole and in its writer's order: a part of the proof. No condition. -/
import Derived.Handy
import Derived.Orders
import Derived.Test.YtbdikjnpbnobcaaGreatDoorRows
import Derived.MapKept
import Derived.Test.YtbdikjnpbnobcaaGreatDoorTC
set_option linter.all false
namespace Go.Sx
open Go
variable {Q:Exit->Act->World->Prop}{bs:List Int}{l:List Nat}{b c g i j k n r t y:Nat}{o:Oper}{u:TV}{α:Type}{T e:TypeId}{v z:Value}{x:X}
def M5 (o:Oper):List Nat:=(o.after.toList.filter fun e=>Region.binds .any e).map (·.on)
def iC (ops:List Oper) (i:Nat):List Nat:=match ops[i]? with
 | some o=>M5 o
 | none=>[]
def ZB:List Oper->List (List Nat)->List (List Nat)
 | [],acc=>acc
 | o::l,acc=>ZB l (acc++[((M5 o)++(M5 o).flatMap fun e=>acc.getD e []).eraseDups])
def oD (ops:List Oper) (A:List (List Nat)):Bool :=
 (List.range ops.length).all fun i=>((A.getD i []).all fun j=>(iC ops i).contains j||(iC ops i).any fun e=>(A.getD e []).contains j)&&(iC ops i).all fun e=>decide (e<i)
def iz (ops:List Oper) (i:Nat):Option Tmp:=(ops[i]?).bind (·.dst)
def cO (ops:List Oper) (i:Nat):Bool:=match ops[i]? with
 | some o=>match o.op,o.guard,o.dst with
  | .alloc _,none,some _=>(M5 o).isEmpty
  | _,_,_=>false
 | none=>false
def M3:CV->CV->Bool
 | .int k e,.int d b=>decide (k=d)&&decide (e=b)
 | .bool e,.bool b=>decide (e=b)
 | .str e,.str b=>decide (e=b)
 | .pti a o s n i,.pti a' o' f n' g=>a==a'&&o==o'&&s==f&&n==n'&&decide (i=g)
 | .hptr x y,.hptr x' y'=>decide (x=x')&&decide (y=y')
 | .sl x y l c,.sl x' y' l' c'=>decide (x=x')&&decide (y=y')&&decide (l=l')&&decide (c=c')
 | .map x,.map x'=>decide (x=x')
 | .vr j,.vr k=>j==k
 | .hv h x y j,.hv h' x' y' j'=>h==h'&&decide (x=x')&&decide (y=y')&&j==j'
 | .val v,.val v'=>HP v v'
 | _,_=>false
theorem KZ {a b:CV} (h:M3 a b=true):a=b:=by
 unfold M3 at h;split at h<;>(try simp only[aaM,aas,af4]at h)<;>first | (cases h;done) | skip
 .grind
 .rw[h]
 .rw[h]
 .grind
 .grind
 .grind
 .rw[h]
 .rw[h]
 .grind
 .rw[BU h]
def Zb {α:Type} (f:α->α->Bool):List α->List α->Bool
 | [],[]=>true
 | a::l,b::m=>f a b&&Zb f l m
 | _,_=>false
def I3 {α:Type} {f:α->α->Bool} (hf:∀ a b,f a b=true->a=b):∀ {l m:List α},Zb f l m=true->l=m
 | [],[],_=>rfl
 | a::l,b::m,h=>by
  simp only[Zb,aaM]at h;rw[hf a b h.1,I3 hf h.2]
 | [],_::_,h=>by trivial
 | _::_,[],h=>by trivial
def K4:SV->SV->Bool
 | .one a,.one b=>M3 a b
 | .agg l,.agg m=>Zb M3 l m
 | _,_=>false
def FZ {a b:SV} (h:K4 a b=true):a=b:=by
 unfold K4 at h;split at h
 .rw[KZ h]
 .rw[I3 (fun _ _=>KZ) h]
 .cases h
def Xk:TV->TV->Bool
 | .sv a,.sv b=>K4 a b
 | .tup l,.tup m=>Zb K4 l m
 | _,_=>false
def TD {a b:TV} (h:Xk a b=true):a=b:=by
 unfold Xk at h;split at h
 .rw[FZ h]
 .rw[I3 (fun _ _=>FZ) h]
 .cases h
def eqO:Option TV->Option TV->Bool
 | some a,some b=>Xk a b
 | none,none=>true
 | _,_=>false
def Xj {a b:Option TV} (h:eqO a b=true):a=b:=by
 unfold eqO at h;split at h
 .rw[TD h]
 .rfl
 .cases h
def fl (P:Program) (ops:List Oper) (s:St) (o:Oper):Option (E×Option TV) :=
 match xf ops s o with
 | none=>none
 | some none=>(quiet P s o.op).map fun r=>(r.1,some r.2)
 | some (some (e,want))=>match known s.path e with
  | some b=>if b=want then(quiet P s o.op).map fun r=>(r.1,some r.2)else some (.tt,some E6)
  | none=>none
def Ik (ops:List Oper) (A:List (List Nat)) (i:Nat) (st:St):St :=
 let hid:=(List.range ops.length).filterMap fun j=>if(A.getD i []).contains j then none else iz ops j
 {st with tmps:=re (fun t v=>match v with | none=>none | some u=>if hid.contains t then none else some u) 0 st.tmps}
structure yU where
 i:Nat
 snap:St
 n:E
 v:Option TV
structure Dr where
 st:St
 done:List Nat
 late:List yU
def aan (P:Program) (ops:List Oper) (A:List (List Nat)) (D:Dr):Option Nat :=
 (List.range ops.length).find? fun i=>!D.done.contains i&&!cO ops i&&(iC ops i).all D.done.contains&&match ops[i]? with
  | some o=>(fl P ops (Ik ops A i D.st) o).isSome
  | none=>false
def afc (ops:List Oper) (A:List (List Nat)) (D:Dr) (i:Nat):Option E :=
 match ops[i]? with
 | some o=>match xf ops (Ik ops A i D.st) o with
  | some (some (e,_))=>match known D.st.path e with
   | none=>some e
   | _=>none
  | _=>none
 | none=>none
def aao (ops:List Oper) (A:List (List Nat)) (D:Dr):Option E :=
 (List.range ops.length).findSome? fun i=>if !D.done.contains i&&!cO ops i&&(iC ops i).all D.done.contains then afc ops A D i else none
def xZ (ops:List Oper) (D:Dr):List Nat :=
 (List.range ops.length).filter fun i=>!D.done.contains i&&!cO ops i&&(iC ops i).all fun e=>D.done.contains e||cO ops e
def yU.upto (n:Nat) (f:yU):Bool:=f.snap.tmps.all (Q5 (·.upto n))&&f.snap.path.all (·.upto n)&&f.n.upto n
def Dr.upto (D:Dr):Bool:=D.st.upto D.st.nv&&D.late.all (yU.upto D.st.nv)
def xO (ops:List Oper) (s:St) (o:Oper):Bool :=
 match xf ops s o with
 | some none=>true
 | some (some (e,want))=>known s.path e==some want
 | none=>false
def CX (P:Program) (ops:List Oper) (mem:Mem) (f:yU):Bool :=
 match ops[f.i]? with
 | some o=>match fl P ops {f.snap with mem:=mem} o with
  | some (n,v)=>decide (n=f.n)&&eqO v f.v
  | none=>false
 | none=>false
def vI (P:Program) (ops:List Oper) (D:Dr) (j:Nat):Option Dr :=
 match ops[j]? with
 | some o=>match o.op,o.dst with
  | .alloc t,some d=>match nc P t with
   | some z=>if D.upto&&cO ops j&&D.late.all (CX P ops (D.st.mem++[.bc D.st.nv (z.cells.toList.map il) t]))then
    some ⟨({D.st with mem:=D.st.mem++[.bc D.st.nv (z.cells.toList.map il) t],nv:=D.st.nv+1} : St).put (some d) (some (TP (.var D.st.nv) (.lit 0))),j::D.done,D.late⟩
    else none
   | none=>none
  | _,_=>none
 | none=>none
def roB (mem mem':Mem):Bool:=mem'.all fun r=>match r with
 | .ro k _ _=>mem.any fun s=>match s with
  | .ro a _ _=>k==a
  | _=>false
 | _=>true
def D5 (P:Program) (Γ:List Spec) (ops:List Oper) (A:List (List Nat)) (D:Dr) (c:Nat):Option (Dr×XR) :=
 match ops[c]? with
 | some o =>
  let s:=Ik ops A c D.st
  if xO ops s o then match TG P Γ s o with
   | some R =>
    let late:=D.late.filter fun f=>!(A.getD c []).contains f.i
    if D.upto&&decide (D.st.nv<=R.st.nv)&&roB D.st.mem R.st.mem&&late.all (CX P ops R.st.mem)then
     some (⟨({D.st with mem:=R.st.mem,nv:=R.st.nv} : St).put o.dst (match o.dst with | some d=>R.st.tmps.getD d none | none=>none),c::D.done,late⟩,R)
    else none
   | none=>none
  else none
 | none=>none
def VL (ops:List Oper) (A:List (List Nat)) (c:Nat):Bool:=(List.range ops.length).all fun i=>i==c||(A.getD c []).contains i
def wJ (ops:List Oper) (A:List (List Nat)):List Nat->Bool
 | []=>true
 | r::l=>decide (r<ops.length)&&!l.contains r&&((List.range ops.length).all fun i=>i==r||l.contains i||(A.getD r []).contains i)&&wJ ops A l
def RI (ops:List Oper) (A:List (List Nat)) (c:Nat):List Nat:=(List.range ops.length).filter fun i=>!(i==c)&&!(A.getD c []).contains i
def Vb (P:Program) (Γ:List Spec) (ex:Ex) (d:Nat) (ops:List Oper):List Nat->St->(St->Option Nd)->Option Nd
 | [],st,k=>k st
 | r::l,st,k=>match ops[r]? with
  | some o=>if xO ops st o then wI P Γ ex d o st fun s=>if st.nv<=s.nv then Vb P Γ ex d ops l s k else none else none
  | none=>none
def KF:List (Option Nd)->Option Nd
 | []=>some .tt
 | some a::l=>(KF l).map (qy a)
 | none::_=>none
def XY (P:Program) (ops:List Oper) (A:List (List Nat)) (D:Dr) (c:Nat):Option (Dr×X) :=
 match ops[c]? with
 | some o=>match C5 P (Ik ops A c D.st) o with
  | some (s,x)=>if D.upto&&D.late.all (CX P ops s.mem)then some ({D with st:={D.st with mem:=s.mem,nv:=s.nv}},x)else none
  | none=>none
 | none=>none
def qw (P:Program) (Γ:List Spec) (ex:Ex) (d:Nat) (ops:List Oper) (A:List (List Nat)):Nat->Dr->(St->Option Nd)->Option Nd
 | 0,_,_=>none
 | m+1,D,k =>
  match aan P ops A D with
  | some i=>match ops[i]? with
   | some o =>
    let s:=Ik ops A i D.st
    match fl P ops s o with
    | some (n,v) =>
     let cs:=GH D.st.path n
     (qw P Γ ex d ops A m ⟨({D.st with path:=cs++D.st.path} : St).put o.dst v,i::D.done,⟨i,s,n,v⟩::D.late⟩ k).map (vW cs)
    | none=>none
   | none=>none
  | none=>match aao ops A D with
   | some e=>match qw P Γ ex d ops A m {D with st:={D.st with path:=e::D.st.path}} k,qw P Γ ex d ops A m {D with st:={D.st with path:=mkNot e::D.st.path}} k with
    | some a,some b=>some (qy (yo e a) (yo (mkNot e) b))
    | _,_=>none
   | none=>match xZ ops D with
    | []=>match(List.range ops.length).find? fun i=>!D.done.contains i with
     | none=>k D.st
     | some j=>match vI P ops D j with
      | some D'=>(qw P Γ ex d ops A m D' k).map fun nd=>.ext (.alloc D.st.nv) nd
      | none=>none
    | [c]=>match(iC ops c).find? fun e=>!D.done.contains e with
     | some j=>match vI P ops D j with
      | some D'=>(qw P Γ ex d ops A m D' k).map fun nd=>.ext (.alloc D.st.nv) nd
      | none=>none
     | none=>match XY P ops A D c with
      | some (D',x)=>(qw P Γ ex d ops A m D' k).map fun nd=>.ext x nd
      | none=>match D5 P Γ ops A D c with
      | some (D',R)=>(qw P Γ ex d ops A m D' k).map fun nd=>qy R.need (match R.x with | some x=>.ext x nd | none=>nd)
      | none=>match ops[c]? with
       | some o=>if xO ops (Ik ops A c D.st) o&&VL ops A c then wI P Γ ex d o (Ik ops A c D.st) k else if xO ops (Ik ops A c D.st) o&&wJ ops A (c::RI ops A c)then wI P Γ ex d o (Ik ops A c D.st) fun s=>if D.st.nv<=s.nv then Vb P Γ ex d ops (RI ops A c) s k else none else none
       | none=>none
    | c1::c2::cs=>if((c1::c2::cs).all fun c=>(iC ops c).all D.done.contains)=true then
     KF ((c1::c2::cs).map fun c=>match D5 P Γ ops A D c with
      | some (D',R)=>(qw P Γ ex d ops A m D' k).map fun nd=>qy R.need (match R.x with | some x=>.ext x nd | none=>nd)
      | none=>none)
     else none
def mG (ops:List Oper) (st:St):St :=
 let hid:=(List.range ops.length).filterMap fun j=>if cO ops j then iz ops j else none
 {st with tmps:=re (fun t v=>match v with | none=>none | some u=>if hid.contains t then none else some u) 0 st.tmps}
def xm:List (Option Tmp)->Bool
 | []=>true
 | none::l=>xm l
 | some t::l=>!l.contains (some t)&&xm l
def SO (P:Program) (ops:List Oper):Bool:=ops.all fun o=>match o.op with
 | .alloc t=>(nc P t).isSome
 | _=>true
def dk (P:Program) (Γ:List Spec):Dk:=fun ex d ops st k =>
 let A:=ZB ops []
 if oD ops A&&xm (ops.map (·.dst))&&P.follows .mixedOrders&&SO P ops then qw P Γ ex d ops A (3*ops.length+10) ⟨mG ops st,[],[]⟩ (fun s=>if st.nv<=s.nv then k s else none)else none
section
variable {P:Program} {C:Ctx} {S:Nat->Prop} {w0:World} {J J':Env} {ops:List Oper} {A:List (List Nat)} {D:Dr} {L:Array Bool} {pl:Nat->Nat} {a:Act} {w w':World}
theorem sq (a:oD ops A=true) (hi:i<ops.length):(∀ j∈A.getD i [],j∈iC ops i\/∃ e∈iC ops i,j∈A.getD e [])/\∀ e∈iC ops i,e<i:=by
 unfold oD at a
 grind
theorem gO (a:oD ops A=true) {p:Nat->Prop} (hp:∀ i,p i->∀ e∈iC ops i,p e):∀ i,i<ops.length->(∀ e∈iC ops i,p e)->∀ j∈A.getD i [],p j:=by
 intro i
 induction i using Nat.strongRecOn with
 | _ i ih =>
  intro hi he j b;obtain⟨h1,c⟩:=sq a hi
  grind
structure DJ (P:Program) (ops:List Oper) (A:List (List Nat)) (J:Env) (D:Dr) (L:Array Bool) (a:Act) (f:yU):Prop where
 fl:∃ o,ops[f.i]?=some o/\Sx.fl P ops {f.snap with mem:=D.st.mem} o=some (f.n,f.v)
 need:aY J f.n=true
 path:Path J f.snap.path
 len:f.snap.tmps.length=D.st.tmps.length
 slots:∀ (t:Nat) u,f.snap.tmps[t]?=some (some u)->(∃ g∈D.late,L.getD g.i false=false/\iz ops g.i=some t/\g.i∈A.getD f.i [])\/a.tmps[t]?=some (u.ev J)
 hid:∀ (j:Nat) t,j<ops.length->iz ops j=some t->j∉A.getD f.i []->∀ u,f.snap.tmps[t]?≠some (some u)
 iX:∀ h∈D.late,h.i∈A.getD f.i []->∀ t u,iz ops h.i=some t->f.snap.tmps[t]?=some (some u)->h.v=some u
 sub:∀ j∈A.getD f.i [],j∈D.done
structure pC (P:Program) (S:Nat->Prop) (w0:World) (ops:List Oper) (A:List (List Nat)) (J:Env) (D:Dr) (L:Array Bool) (pl:Nat->Nat) (a:Act) (w:World):Prop where
 lsz:L.size=ops.length
 mem:MRel S w0 J D.st.mem w
 path:Path J D.st.path
 size:a.tmps.size=D.st.tmps.length
 defers:a.defers=[]
 slots:∀ (t:Nat) u,D.st.tmps[t]?=some (some u)->(∃ f∈D.late,L.getD f.i false=false/\iz ops f.i=some t)\/a.tmps[t]?=some (u.ev J)
 lsub:∀ i,L.getD i false=true->i∈D.done\/cO ops i=true
 dsub:∀ i∈D.done,L.getD i false=true\/∃ f∈D.late,f.i=i
 dlt:∀ i∈D.done,i<ops.length
 ldone:∀ f∈D.late,f.i∈D.done
 lval:∀ f∈D.late,∀ t u,iz ops f.i=some t->D.st.tmps[t]?=some (some u)->f.v=some u
 late:∀ f∈D.late,L.getD f.i false=false->DJ P ops A J D L a f
 hid:∀ j,cO ops j=true->j∉D.done->∀ t u,iz ops j=some t->D.st.tmps[t]?≠some (some u)
 early:∀ j,L.getD j false=true->j∉D.done->∃ o t z d,ops[j]?=some o/\o.op=.alloc t/\nc P t=some z/\o.dst=some d/\(d<a.tmps.size->a.tmps[d]?=some (.pointer (some ⟨pl j,0,none⟩))) /\
  w.heap[pl j]?=some (.cells z.cells t (0,0))/\w0.heap.size<=pl j/\∀ r∈D.st.mem,¬(r.hl J).mem (pl j)
 inj:∀ j j',L.getD j false=true->j∉D.done->L.getD j' false=true->j'∉D.done->pl j=pl j'->j=j'
 closed:∀ i,L.getD i false=true->∀ e∈iC ops i,L.getD e false=true
 dclosed:∀ i∈D.done,∀ e∈iC ops i,e∈D.done
def FA (ops:List Oper):Prop:=∀ (i j:Nat) t,iz ops i=some t->iz ops j=some t->i=j
theorem Mu:∀ {l:List Oper},xm (l.map (·.dst))=true->FA l
 | [],_,i,j,t,h,_=>by trivial
 | o::l,hn,i,j,t,hi,a=>by
  have hl:xm (l.map (·.dst))=true/\∀ t,o.dst=some t->some t∉l.map (·.dst):=by
   simp only[abW]at hn;unfold xm at hn;split at hn
   .grind
   .grind
   .grind
  have ih:=Mu hl.1;have nm:∀ (k:Nat),iz l k=some t->some t∈l.map (·.dst):=fun k hk=>by
   unfold iz at hk
   grind
  cases i with
  | zero =>
   cases j with
   | zero=>rfl
   | succ j=>exact absurd (nm j (by trivial)) (hl.2 t (by trivial))
  | succ i =>
   cases j with
   | zero=>exact absurd (nm i (by trivial)) (hl.2 t (by trivial))
   | succ j=>rw[ih i j t (by trivial) (by trivial)]
def Gj (hi:∀ j:Nat,True) (L:Array Bool) (i j:Nat):(L.setIfInBounds i true).getD j false=if i=j/\i<L.size then true else L.getD j false:=by
 by_cases h:i=j
 .simp_all
 simp_all
def KA (ops:List Oper) (L:Array Bool):Nat:=(List.range ops.length).countP fun i=>!L.getD i false
theorem countP_set (L:Array Bool) {i:Nat} (hi:i<L.size) (hf:L.getD i false=false):∀ (l:List Nat),l.Nodup->(l.countP fun j=>!(L.setIfInBounds i true).getD j false)+(if i∈l then 1 else 0)=l.countP fun j=>!L.getD j false
 | [],_=>aC
 | x::l,hn=>by
  rw[List.nodup_cons]at hn;have ih:=countP_set L hi hf l hn.2;have e:∀ j,(L.setIfInBounds i true).getD j false=if i=j then true else L.getD j false:=fun j=>by rw[Gj (fun _=>trivial)];simp [hi]
  grind
def wR (hs:L.size=ops.length) (hi:i<ops.length) (hf:L.getD i false=false):KA ops (L.setIfInBounds i true)+1=KA ops L:=by
 have:=countP_set L ah hf (List.range ops.length) List.nodup_range;rw[ab9 (acv.2 hi)]at this;exact this
def pw (h:KA ops L=0) (hi:i<ops.length):L.getD i false=true:=by
 unfold KA at h;simp_all
theorem cW (hs:L.size=ops.length) : i∈Region.ready .any ops.toArray L↔i<ops.length/\L.getD i false=false/\∀ e∈iC ops i,L.getD e false=true:=by
 rw[mem_ready];constructor
 .rintro⟨h0,o,ho,he⟩;have ho:ops[i]?=some o:=by simpa using ho
  have a:=(aaG.1 ho).1;refine⟨a,?_,fun e b=>?_⟩
  .grind
  .unfold iC at b;simp only[ho,M5]at b
   grind
 .rintro⟨a,h0,he⟩;refine⟨?_,ops[i],by simp [a],fun e b hb=>?_⟩
  .grind
  .apply he;unfold iC;rw[aad a];simp only[M5]
   grind
theorem iU (a:oD ops A=true) (hs:L.size=ops.length) (hr:Region.ready .any ops.toArray L=[]):∀ i,i<ops.length->L.getD i false=true:=by
 intro i
 induction i using Nat.strongRecOn with
 | _ i ih =>
  intro hi;cases h:L.getD i false with
  | true=>rfl
  | false =>
   exfalso;have:i∈Region.ready .any ops.toArray L:=(cW hs).2 ⟨hi,h,fun e he=>ih e ((sq a hi).2 e he) (Nat.lt_trans ((sq a hi).2 e he) hi)⟩
   grind
theorem TJ {s:St} {n:E} {v:Option TV} {K:Act->World->Prop} (hA:Rel S w0 J s a w) (ho:ops[i]?=some o) (h:fl P ops s o=some (n,v)) (hn:aY J n=true)
 (hK:∀ x,(∀ u,v=some u->x=u.ev J)->K (a.put o.dst x) w):wpOp P ops.toArray Q i K a w:=by
 unfold wpOp;have:ops.toArray[i]?=some o:=by simpa using ho
 rw[this];simp only;unfold fl at h;split at h
 .cases h
 .rename_i hg;simp only[aaH,acx]at h;obtain⟨⟨n',u⟩,c,rfl,rfl⟩:=h;have hw:=jb hA hg;rw[hw];simp only[Il,afm];exact Or.inl (fk (W:=Y7 P) (rN hA c hn) (hK _ (fun y hy=>by cases hy;rfl)))
 .rename_i e want hg;have hw:Region.wanted o (yielded ops.toArray a.tmps)=(aY J e==want):=jb hA hg;split at h
  .rename_i b d;rw[fw hA.path d]at hw;split at h
   .rename_i f;simp only[aaH,acx]at h;obtain⟨⟨n',u⟩,c,rfl,rfl⟩:=h;rw[hw,ab9 (by grind)];exact Or.inl (fk (W:=Y7 P) (rN hA c hn) (hK _ (fun y hy=>by cases hy;rfl)))
   .rename_i f;cases h;rw[hw,aa8 (by grind)];exact hK _ (fun y hy=>by cases hy;rfl)
  .cases h
def kq (a:Act) (d:Option Tmp) (x:Value) (t:Nat):(a.put d x).tmps[t]?=if d=some t/\t<a.tmps.size then some x else a.tmps[t]?:=by
 cases d with
 | none=>simp [Act.put]
 | some d =>
  by_cases h:d=t
  .subst h;by_cases hs:d<a.tmps.size
   .simp [Act.put,hs]
   .simp [Act.put,hs,agG (Nat.le_of_not_lt hs)]
  .simp [Act.put,h,afo h]
def xG (st:St) (d:Option Tmp) (v:Option TV) (t:Nat):(st.put d v).tmps[t]?=if d=some t/\t<st.tmps.length then some v else st.tmps[t]?:=by
 cases d with
 | none=>simp [St.put]
 | some d =>
  by_cases h:d=t
  .subst h;by_cases hs:d<st.tmps.length
   .simp [St.put,hs]
   .simp [St.put,hs,abA (Nat.le_of_not_lt hs)]
  .simp [St.put,h,adx h]
def j8 (st:St) (d:Option Tmp) (v:Option TV):(st.put d v).tmps.length=st.tmps.length:=by cases d<;>simp [St.put]
theorem zQ {st:St} (h:(Ik ops A i st).tmps[t]?=some (some u)):st.tmps[t]?=some (some u)/\∀ j,j<ops.length->iz ops j=some t->j∈A.getD i []:=by
 unfold Ik at h;simp only[pW,aaH]at h
 grind
def Mw {st:St} : (Ik ops A i st).tmps.length=st.tmps.length:=by simp [Ik]
end
section
variable {P:Program} {C:Ctx} {S:Nat->Prop} {w0:World} {J J':Env} {ops:List Oper} {A:List (List Nat)} {D D':Dr} {L:Array Bool} {pl:Nat->Nat} {a:Act} {w w':World}
def kF (ho:ops[i]?=some o):iz ops i=o.dst:=by simp [iz,ho]
theorem An (h:iz ops i=some t):i<ops.length:=by
 unfold iz at h
 grind
def kW {L:Array Bool} (hi:i<L.size):(L.setIfInBounds i true).getD j false=if i=j then true else L.getD j false:=by
 rw[Gj (fun _=>trivial)];simp [hi]
theorem pC.RH (h:pC P S w0 ops A J D L pl a w) (j:oD ops A=true) {f:yU} (hf:f∈D.late) (k:L.getD f.i false=false) (hr:∀ e∈iC ops f.i,L.getD e false=true) :
 Rel S w0 J {f.snap with mem:=D.st.mem} a w:=by
 have hl:=h.late f hf k;have b:=h.dlt _ (h.ldone f hf);have d:=gO j (p:=fun i=>L.getD i false=true) h.closed f.i b hr;refine⟨h.mem,by rw[h.size,<-hl.len],h.defers,fun t v hv=>?_,hl.path⟩;rcases hl.slots t v hv with ⟨g,_,hg,_,l⟩ | c
 .grind
 .exact c
theorem pC.ER (h:pC P S w0 ops A J D L pl a w) (f:oD ops A=true) (hi:i<ops.length) (hr:∀ e∈iC ops i,L.getD e false=true):Rel S w0 J (Ik ops A i D.st) a w:=by
 have b:=gO f (p:=fun i=>L.getD i false=true) h.closed i hi hr;refine⟨h.mem,by rw[h.size,Mw],h.defers,fun t v hv=>?_,h.path⟩;obtain⟨h1,j⟩:=zQ hv;rcases h.slots t v h1 with ⟨g,hg,k,c⟩ | d
 .have:=b _ (j _ (An c) c);grind
 .exact d
theorem pC.QC (h:pC P S w0 ops A J D L pl a w) (hu:FA ops) {f:yU} (hf:f∈D.late) (ho:ops[f.i]?=some o) (M:L.getD f.i false=false) (hr:∀ e∈iC ops f.i,L.getD e false=true)
 {x:Value} (hx:∀ u,f.v=some u->x=u.ev J):pC P S w0 ops A J D (L.setIfInBounds f.i true) pl (a.put o.dst x) w:=by
 have p:f.i<ops.length:=(aaG.1 ho).1;have hs:∀ j,(L.setIfInBounds f.i true).getD j false=if f.i=j then true else L.getD j false:=fun j=>kW (by rw[h.lsz];exact p)
 have hd:=kF ho;have hsz:(a.put o.dst x).tmps.size=a.tmps.size:=by cases o.dst<;>simp [Act.put]
 refine⟨by simp [h.lsz],h.mem,h.path,by rw[hsz];exact h.size,by cases o.dst<;>exact h.defers,?_,?_,?_,h.dlt,h.ldone,h.lval,?_,h.hid,?_,?_,?_,h.dclosed⟩
 .intro t u l;have hlen:t<a.tmps.size:=by rw[h.size];exact(aaG.1 l).1
  rw[kq];by_cases b:o.dst=some t
  .right;rw[ab9 ⟨b,hlen⟩];rw[hx u (h.lval f hf t u (by rw[hd,b]) l)]
  .rw[aa8 (fun e=>b e.1)];rcases h.slots t u l with ⟨g,hg,c,E⟩ | hv
   .grind
   grind
 .intro i hi;rw[hs]at hi;split at hi
  .rename_i e;subst e;exact Or.inl (h.ldone f hf)
  .exact h.lsub i hi
 .intro i hi;rcases h.dsub i hi with h1 | h1
  .grind
  grind
 .intro g hg c;rw[hs]at c;split at c
  .cases c
  .rename_i n;have hl:=h.late g hg c;refine⟨hl.fl,hl.need,hl.path,hl.len,fun t u l=>?_,hl.hid,hl.iX,hl.sub⟩;have hlen:t<a.tmps.size:=by rw[h.size,<-hl.len];exact(aaG.1 l).1
   rw[kq];by_cases b:o.dst=some t
   .right;rw[ab9 ⟨b,hlen⟩];have hm:f.i∈A.getD g.i []:=by
     by_cases hm:f.i∈A.getD g.i []
     .exact hm
     .exact absurd l (hl.hid f.i t p (by rw[hd,b]) hm u)
    rw[hx u (hl.iX f hf hm t u (by rw[hd,b]) l)]
   .rw[aa8 (fun e=>b e.1)];rcases hl.slots t u l with ⟨N,F,s,y,B⟩ | hv
    .grind
    grind
 .intro j q k;have n:f.i≠j:=fun e=>k (e▸h.ldone f hf);rw[hs,aa8 n]at q;obtain⟨o',t,z,d,h1,G,H,C,O,I⟩:=h.early j q k;refine⟨o',t,z,d,h1,G,H,C,fun K=>?_,I⟩;rw[kq,aa8]
  .grind
  .rintro⟨e,_⟩;exact n (hu _ _ d (by rw[hd,e]) (by rw[kF h1,C]))
 .intro j j' q k r m;rw[hs,aa8 (show ¬f.i=j from fun e=>k (e▸h.ldone f hf))]at q;rw[hs,aa8 (show ¬f.i=j' from fun e=>m (e▸h.ldone f hf))]at r;exact h.inj j j' q k r m
 .intro i hi e he;rw[hs];split
  .rfl
  .rw[hs]at hi;split at hi
   .grind
   .exact h.closed i hi e he
theorem qS (h:cO ops j=true):∃ o t d,ops[j]?=some o/\o.op=.alloc t/\o.dst=some d/\o.guard=none/\iC ops j=[]:=by
 unfold cO at h;split at h
 .rename_i o ho;split at h
  .rename_i t d h1 a b;exact⟨o,t,d,ho,h1,b,a,by unfold iC;grind⟩
  .cases h
 .cases h
theorem pC.MG (h:pC P S w0 ops A J D L pl a w) (hu:FA ops) (G:cO ops j=true) (s:j∉D.done) (V:L.getD j false=false) {t:TypeId} {d:Tmp} (ho:ops[j]?=some o) (E:o.op=.alloc t) (b:o.dst=some d) (hz:nc P t=some z) :
 pC P S w0 ops A J D (L.setIfInBounds j true) (fun k=>if k=j then w.heap.size else pl k) (a.put o.dst (.pointer (some ⟨w.heap.size,0,none⟩))) (w.alloc (.cells z.cells t)):=by
 have v:j<ops.length:=(aaG.1 ho).1;have hs:∀ k,(L.setIfInBounds j true).getD k false=if j=k then true else L.getD k false:=fun k=>kW (by rw[h.lsz];exact v)
 have hd:=kF ho;have hsz:(a.put o.dst (.pointer (some ⟨w.heap.size,0,none⟩))).tmps.size=a.tmps.size:=by cases o.dst<;>simp [Act.put]
 have x:RowKit.Below w.heap.size w (w.alloc (.cells z.cells t)):=(RowKit.Below.refl _ _).alloc (ab8 _) _;refine⟨by simp [h.lsz],h.mem.below x,h.path,by rw[hsz];exact h.size,by rw[b];exact h.defers,?_,?_,?_,h.dlt,h.ldone,h.lval,?_,h.hid,?_,?_,?_,h.dclosed⟩
 .intro t' u y;rw[kq];by_cases c:o.dst=some t'
  .exact absurd y (h.hid j G s t' u (by rw[hd,c]))
  .rw[aa8 (fun e=>c e.1)];rcases h.slots t' u y with ⟨g,hg,f,O⟩ | hv
   .grind
   grind
 .intro i hi;rw[hs]at hi;split at hi
  .grind
  .exact h.lsub i hi
 .intro i hi;rcases h.dsub i hi with h1 | h1
  .grind
  grind
 .intro g hg f;rw[hs]at f;split at f
  .cases f
  .have hl:=h.late g hg f;refine⟨hl.fl,hl.need,hl.path,hl.len,fun t' u y=>?_,hl.hid,hl.iX,hl.sub⟩;rw[kq];by_cases c:o.dst=some t'
   .exact absurd y (hl.hid j t' v (by rw[hd,c]) (fun hm=>s (hl.sub j hm)) u)
   .rw[aa8 (fun e=>c e.1)];rcases hl.slots t' u y with ⟨W,Q,H,I,K⟩ | hv
    .grind
    grind
 .intro k hk dz;rw[hs]at hk;by_cases m:j=k
  .subst m;refine⟨o,t,z,d,ho,E,hz,b,?_,?_,?_,?_⟩
   .intro q;simp only[afm];rw[hsz]at q;rw[kq,ab9 ⟨b,q⟩]
   .simp only[afm];exact heap_alloc_new w _
   .simp only[afm];exact h.mem.cJ.size
   .intro r hr hm;simp only[afm]at hm;have:=Hl.sub_lt (h.mem.sub r hr) hm;omega
  .rw[aa8 m]at hk;obtain⟨o',t',R,M,h1,n,T,N,X,C,Y,Z⟩:=h.early k hk dz;have B:k≠j:=fun e=>m e.symm;refine⟨o',t',R,M,h1,n,T,N,?_,?_,?_,?_⟩
   .intro q;simp only[aa8 B];rw[kq,aa8]
    .grind
    .rintro⟨e,_⟩;exact m (hu _ _ M (by rw[hd,e]) (by rw[kF h1,N]))
   .simp only[aa8 B];rw[heap_alloc_old w _ (acq.1 C).1];exact C
   .grind
   grind
 .intro k F hk dz l p he;rw[hs]at hk l;by_cases h1:k=j<;>by_cases n:F=j
  .rw[h1,n]
  .rw[ab9 h1,aa8 n]at he;rw[aa8 (fun e=>n e.symm)]at l;obtain⟨_,_,_,_,_,_,_,_,_,C,_⟩:=h.early F l p
   grind
  .rw[aa8 h1,ab9 n]at he;rw[aa8 (fun e=>h1 e.symm)]at hk;obtain⟨_,_,_,_,_,_,_,_,_,C,_⟩:=h.early k hk dz
   grind
  .rw[aa8 h1,aa8 n]at he;rw[aa8 (fun e=>h1 e.symm)]at hk;rw[aa8 (fun e=>n e.symm)]at l;exact h.inj k F hk dz l p he
 .intro i hi e he;rw[hs];split
  .rfl
  .rw[hs]at hi;split at hi
   .rename_i e1;subst e1;obtain⟨_,_,_,_,_,_,_,U⟩:=qS G
    grind
   .exact h.closed i hi e he
def pC.rD (h:pC P S w0 ops A J D L pl a w) {cs:List E} (b:∀ c∈cs,aY J c=true):pC P S w0 ops A J {D with st:={D.st with path:=cs++D.st.path}} L pl a w :=
 ⟨h.lsz,h.mem,fun e he=>(acg.1 he).elim (b e) (h.path e),h.size,h.defers,h.slots,h.lsub,h.dsub,h.dlt,h.ldone,h.lval,
  fun f hf d=>let l:=h.late f hf d;⟨l.fl,l.need,l.path,l.len,l.slots,l.hid,l.iX,l.sub⟩,h.hid,h.early,h.inj,h.closed,h.dclosed⟩
end
section
variable {P:Program} {C:Ctx} {S:Nat->Prop} {w0:World} {J J':Env} {ops:List Oper} {A:List (List Nat)} {D D':Dr} {L:Array Bool} {pl:Nat->Nat} {a:Act} {w w':World}
theorem pC.iK (h:pC P S w0 ops A J D L pl a w) (hd:i∉D.done) (c:cO ops i=false):L.getD i false=false:=by
 cases b:L.getD i false with
 | false=>rfl
 | true=>rcases h.lsub i b with h1 | h1
         .grind
         grind
theorem pC.float (h:pC P S w0 ops A J D L pl a w) (T:oD ops A=true) (hu:FA ops) (ho:ops[i]?=some o) (hd:i∉D.done) (U:cO ops i=false) (I:∀ e∈iC ops i,e∈D.done)
 {n:E} {v:Option TV} (hf:fl P ops (Ik ops A i D.st) o=some (n,v)) (hn:aY J n=true) {cs:List E} (K:∀ c∈cs,aY J c=true) :
 pC P S w0 ops A J ⟨({D.st with path:=cs++D.st.path} : St).put o.dst v,i::D.done,⟨i,Ik ops A i D.st,n,v⟩::D.late⟩ L pl a w:=by
 have C:i<ops.length:=(aaG.1 ho).1;have V:=h.iK hd U;have y:=kF ho;have R:=gO T (p:=fun k=>k∈D.done) h.dclosed i C I;have q:(({D.st with path:=cs++D.st.path} : St).put o.dst v).mem=D.st.mem:=St.ic _ _ _;have s:∀ t u,(({D.st with path:=cs++D.st.path} : St).put o.dst v).tmps[t]?=some (some u)->(o.dst=some t/\v=some u)\/(o.dst≠some t/\D.st.tmps[t]?=some (some u)):=by
  intro t u d;rw[xG]at d;split at d
  .grind
  .grind
 refine⟨h.lsz,by rw[q];exact h.mem,?_,by rw[j8];exact h.size,h.defers,?_,?_,?_,?_,?_,?_,?_,?_,?_,?_,h.closed,?_⟩
 .rw[St.BI];exact fun e he=>(acg.1 he).elim (K e) (h.path e)
 .intro t u d;rcases s t u d with ⟨h1,z⟩ | ⟨h1,z⟩
  .simp_all
  .rcases h.slots t u z with ⟨f,b,r⟩ | hv
   .grind
   grind
 .intro k hk;exact(h.lsub k hk).imp (abq _) id
 .intro k hk;rcases aaW.1 hk with rfl | hk
  .simp_all
  .rcases h.dsub k hk with h1 | ⟨f,b,r⟩
   .grind
   grind
 .intro k hk;rcases aaW.1 hk with rfl | hk
  .exact C
  .exact h.dlt k hk
 .intro f b;rcases aaW.1 b with rfl | b
  .grind
  .exact abq _ (h.ldone f b)
 .intro f b t u F d;rcases aaW.1 b with rfl | b
  .grind
  .rcases s t u d with ⟨h1,_⟩ | ⟨_,z⟩
   .exact absurd (hu _ _ t F (by rw[y,h1])▸h.ldone f b) hd
   .exact h.lval f b t u F z
 .intro f b M;rcases aaW.1 b with rfl | b
  .refine⟨⟨o,ho,?_⟩,hn,h.path,?_,?_,?_,?_,?_⟩
   .rw[q];exact hf
   .rw[j8];exact Mw
   .intro t u d;obtain⟨h1,z⟩:=zQ d;rcases h.slots t u h1 with ⟨g,hg,N,l⟩ | hv
    .left;exact⟨g,abq _ hg,N,l,z _ (An l) l⟩
    grind
   .intro j t x m O u d;exact O ((zQ d).2 j x m)
   .intro g hg B t u l d;rcases aaW.1 hg with rfl | hg
    .grind
    .exact h.lval g hg t u l (zQ d).1
   grind
  .have hl:=h.late f b M;refine⟨?_,hl.need,hl.path,by rw[j8];exact hl.len,?_,hl.hid,?_,fun j x=>abq _ (hl.sub j x)⟩
   .rw[q];exact hl.fl
   .intro t u d;rcases hl.slots t u d with ⟨g,hg,r⟩ | hv
    .grind
    grind
   .intro g hg B t u l d;rcases aaW.1 hg with rfl | hg
    .exact absurd (hl.sub _ B) hd
    .exact hl.iX g hg B t u l d
 .intro j x m t u G d;rcases s t u d with ⟨h1,_⟩ | ⟨_,z⟩
  .have:=hu _ _ t G (by rw[y,h1])
   grind
  .exact h.hid j x (fun e=>m (abq _ e)) t u G z
 .intro j x m;rw[q];exact h.early j x (fun e=>m (abq _ e))
 .intro j j' x m Q H;exact h.inj j j' x (fun e=>m (abq _ e)) Q (fun e=>H (abq _ e))
 .intro k hk e he;rcases aaW.1 hk with rfl | hk
  .grind
  .exact abq _ (h.dclosed k hk e he)
def Nq {mem:Mem} {f:yU} (h:CX P ops mem f=true):∃ o,ops[f.i]?=some o/\fl P ops {f.snap with mem:=mem} o=some (f.n,f.v):=by
 unfold CX at h;split at h
 .rename_i o ho;split at h
  .rename_i n v hf;simp only[aaM,aas]at h;refine⟨o,ho,?_⟩;rw[hf,h.1,Xj h.2]
  .cases h
 .cases h
def MRel.Zn {mem:Mem} (h:MRel S w0 J mem w) {p:Nat} {l:List CV} {x:bo} (hx:x=.bc b l T) (hag:∀ s∈mem,s.same J J') (hb:(J'.i b)=(p:Int)) (hw:w.heap[p]?=some (.cells (l.map (CV.ev J')).toArray T (0,0)))
 (h0:w0.heap.size<=p) (hn:∀ r∈mem,¬(r.hl J).mem p):MRel S w0 J' (mem++[x]) w:=by
 subst hx;have hm:=h.bF hag;have a:∀ c,((bo.bc b l T).hl J').mem c->c=p:=fun c e=>by
  have:=Hl.cn.1 e;rw[hb]at this;simpa using this
 have key:∀ (q:Nat) r,(mem++[bo.bc b l T])[q]?=some r->mem[q]?=some r\/(q=mem.length/\r=.bc b l T):=by
  intro q r d;rw[agk]at d;split at d
  .exact Or.inl d
  .have:q-mem.length=0:=by
    rcases afr (q-mem.length)with h0 | h0
    .exact h0
    .rw[abA (by simp;omega)]at d;cases d
   rw[this]at d;simp only[acF,aa3]at d;exact Or.inr ⟨ah,d.symm⟩
 have f:∀ r∈mem,¬(r.hl J').mem p:=fun r hr hp=>hn r hr (by rw[<-(hag r hr).1];exact hp);refine⟨hm.cJ,fun r hr=>?_,fun r hr ho c e=>?_,fun q q' r s g d k ho=>?_,fun r hr=>?_⟩
 .rcases acg.1 hr with hr | hr
  .exact hm.sub r hr
  .rw[aaQ.1 hr];intro c o e;obtain⟨rfl,rfl⟩:=Hl.oh e;rw[hb,aac];exact hw
 .rcases acg.1 hr with hr | hr
  .exact hm.own r hr ho c e
  .rw[aaQ.1 hr]at e;rw[a c e];exact Or.inr h0
 .rcases key q r d with h1 | ⟨h1,rfl⟩<;>rcases key q' s k with j | ⟨j,rfl⟩
  .exact hm.bq q q' r s g h1 j ho
  .rintro c ⟨x,y⟩;rw[a c y]at x;exact f r (aah h1) x
  .rintro c ⟨x,y⟩;rw[a c x]at y;exact f s (aah j) y
  .exact absurd (h1.trans j.symm) g
 .rcases acg.1 hr with hr | hr
  .exact hm.pos r hr
  .rw[aaQ.1 hr];show 0<=J'.i b;rw[hb];omega
theorem Dr.Fh (h:D.upto=true):D.st.upto D.st.nv=true:=by
 unfold Dr.upto at h;grind
theorem Dr.OJ (h:D.upto=true) {f:yU} (hf:f∈D.late):f.snap.tmps.all (Q5 (·.upto D.st.nv))=true/\f.snap.path.all (·.upto D.st.nv)=true/\f.n.upto D.st.nv=true:=by
 unfold Dr.upto at h;simp only[aaM,acd]at h;have:=h.2 f hf;unfold yU.upto at this
 grind
def St.wU {st:St} (h:st.tmps.all (Q5 (·.upto n))=true) (a:st.tmps[t]?=some (some u)):u.upto n=true:=by
 rw[acd]at h;exact h _ (aah a)
def DJ.next {f:yU} (h:DJ P ops A J D L a f) (hu:D.upto=true) (hg:ai D.st.nv J J') (hf:f∈D.late) {D':Dr} {L':Array Bool} {a':Act} (hb:CX P ops D'.st.mem f=true)
 (hlen:D'.st.tmps.length=D.st.tmps.length) (b:∀ (t:Nat) u,f.snap.tmps[t]?=some (some u)->((∃ g∈D.late,L.getD g.i false=false/\iz ops g.i=some t/\g.i∈A.getD f.i [])\/a.tmps[t]?=some (u.ev J)) ->
  ((∃ g∈D'.late,L'.getD g.i false=false/\iz ops g.i=some t/\g.i∈A.getD f.i [])\/a'.tmps[t]?=some (u.ev J)))
 (hlate:∀ g∈D'.late,g∈D.late) (hdone:∀ j∈D.done,j∈D'.done):DJ P ops A J' D' L' a' f:=by
 obtain⟨e,k,l⟩:=Dr.OJ hu hf;refine⟨Nq hb,by rw[mf hg l];exact h.need,h.path.bF hg k,by rw[hlen];exact h.len,fun t u c=>?_,h.hid,fun g d=>h.iX g (hlate g d),fun j m=>hdone j (h.sub j m)⟩;rw[TV.bF hg u (St.wU e c)];exact b t u c (h.slots t u c)
theorem pC.import (h:pC P S w0 ops A J D L pl a w) (hu:FA ops) (hd:j∉D.done) (I:L.getD j false=true) (hi:vI P ops D j=some D') :
 ∃ J',ai D.st.nv J J'/\0<=J'.i D.st.nv/\pC P S w0 ops A J' D' L pl a w/\D'.st.nv=D.st.nv+1:=by
 unfold vI at hi;split at hi
 .rename_i o ho;split at hi
  .rename_i t d B n;split at hi
   .rename_i z hz;split at hi
    .rename_i K;cases hi;simp only[aaM]at K;obtain⟨⟨q,C⟩,hlate⟩:=K;rw[acd]at hlate;obtain⟨o',t',M,N,h1,O,Q,R,T,U,V,W⟩:=h.early j I hd;rw[ho]at h1;cases h1;rw[B]at O;cases O;rw[hz]at Q;cases Q;rw[n]at R;cases R;have E:j<ops.length:=(aaG.1 ho).1;have s:iz ops j=some d:=by rw[kF ho,n]
     let J':=J.dw D.st.nv (pl j)
     have hg:ai D.st.nv J J':=bI _ _ _ (ab8 _);have e1:J'.i D.st.nv=(pl j:Int):=oq _ _ _;have v:=Dr.Fh q;have hag:=Mem.bF hg (St.cR v);have l:=v;simp only[St.upto,aaM]at l;have m:∀ t' u,(({D.st with mem:=D.st.mem++[.bc D.st.nv (z.cells.toList.map il) t],nv:=D.st.nv+1} : St).put (some d) (some (TP (.var D.st.nv) (.lit 0)))).tmps[t']?=some (some u) ->
      (d=t'/\u=TP (.var D.st.nv) (.lit 0)/\d<D.st.tmps.length)\/(d≠t'/\D.st.tmps[t']?=some (some u)):=by
      intro t' u b;rw[xG]at b;split at b
      .grind
      .grind
     refine⟨J',hg,by grind,⟨h.lsz,?_,?_,by rw[j8];exact h.size,h.defers,?_,?_,?_,?_,?_,?_,?_,?_,?_,?_,h.closed,?_⟩,by rw[St.EL]⟩
     .rw[St.ic];refine h.mem.Zn (p:=pl j) rfl hag e1 ?_ V W;rw[jf];exact U
     .rw[St.BI];exact h.path.bF hg l.2
     .intro t' u b;rcases m t' u b with ⟨rfl,rfl,F⟩ | ⟨X,b⟩
      .right;rw[T (by rw[h.size];exact F)];simp only[TV.ev,SV.ev,CV.ev,ar,aq,e1];trivial
      .rw[TV.bF hg u (St.wU l.1.1 b)];exact h.slots t' u b
     .intro k hk;exact(h.lsub k hk).imp (abq _) id
     .intro k hk;rcases aaW.1 hk with rfl | hk
      .grind
      .exact h.dsub k hk
     .intro k hk;rcases aaW.1 hk with rfl | hk
      .exact E
      .exact h.dlt k hk
     .intro f hf;exact abq _ (h.ldone f hf)
     .intro f hf t' u x b;rcases m t' u b with ⟨rfl,_⟩ | ⟨_,b⟩
      .exact absurd (hu _ _ _ x s▸h.ldone f hf) hd
      .exact h.lval f hf t' u x b
     .intro f hf G;refine(h.late f hf G).next q hg hf ?_ (by rw[j8]) (fun _ _ _ hs=>hs) (fun g hg=>hg) (fun k hk=>abq _ hk);rw[St.ic];grind
     .intro k hk dz t' u y b;rcases m t' u b with ⟨rfl,_⟩ | ⟨_,b⟩
      .exact absurd (aaW.2 (Or.inl (hu _ _ _ y s))) dz
      .exact h.hid k hk (fun e=>dz (abq _ e)) t' u y b
     .intro k hk dz;have c:k∉D.done:=fun e=>dz (abq _ e);obtain⟨o',t',M,N,Y,Z,g3,g4,g5,g6,g7,g8⟩:=h.early k hk c;refine⟨o',t',M,N,Y,Z,g3,g4,g5,g6,g7,fun r hr hm=>?_⟩;rw[St.ic]at hr;rcases acg.1 hr with hr | hr
      .rw[(hag r hr).1]at hm;grind
      .rw[aaQ.1 hr]at hm;have:=Hl.cn.1 hm;rw[e1,aac]at this;exact dz (aaW.2 (Or.inl (h.inj k j hk c I hd this)))
     .intro k k' hk dz H c;exact h.inj k k' hk (fun e=>dz (abq _ e)) H (fun e=>c (abq _ e))
     .intro k hk e he;rcases aaW.1 hk with rfl | hk
      .obtain⟨_,_,_,_,_,_,_,aa⟩:=qS C
       grind
      .exact abq _ (h.dclosed k hk e he)
    .cases hi
   .cases hi
  .cases hi
 .cases hi
theorem NF {C:Ctx} {st s:St} (h:C5 P st o=some (s,x)) (hm:MRel S w0 J st.mem w) :
 ∃ J',ai st.nv J J'/\x.n=st.nv/\x.rel C J J'/\s.nv=st.nv+1/\MRel S w0 J' s.mem w/\∀ r∈s.mem,∀ b,(r.hl J').mem b->∃ d∈st.mem,(d.hl J).mem b:=by
 unfold C5 at h;split at h
 .split at h
  .rename_i p k vers tags links hp;split at h
   .rename_i y q r f;split at h
    .rename_i hu;cases h;have hp:=bj hp;obtain⟨h1,g,c⟩:=pZ f;have hg:ai st.nv J (J.mY st.nv (((bo.hp k vers tags links).hl J).un (r.hl J))):=fh _ _ _ (ab8 _);have hag:=Mem.bF hg (St.cR hu);refine⟨_,hg,rfl,⟨gu _ _ _,hm.bq p q _ _ c.symm hp h1 rfl⟩,rfl,hm.Ub hp h1 c rfl g hag (gu _ _ _) trivial,fun r' a b hb=>?_⟩;rcases afZ a with a | rfl
     .rcases afZ a with a | rfl
      .rw[(hag r' a).1]at hb
       grind
      .have hb:(((bo.hp k vers tags links).hl J).un (r.hl J)).mem b:=by
        have e:(bo.hp st.nv (k::r.ks++vers) (tags++y::r.abY) links).hl (J.mY st.nv (((bo.hp k vers tags links).hl J).un (r.hl J)))=((bo.hp k vers tags links).hl J).un (r.hl J):=gu _ _ _;rw[<-e];exact hb
       rcases Hl.cG.1 hb with hb | hb
       .grind
       grind
     .cases hb
    .cases h
   .cases h
  .cases h
 .cases h
def pC.merge {C:Ctx} (h:pC P S w0 ops A J D L pl a w) (hm:XY P ops A D c=some (D',x)) :
 ∃ J',ai D.st.nv J J'/\x.n=D.st.nv/\x.rel C J J'/\D'.st.nv=D.st.nv+1/\pC P S w0 ops A J' D' L pl a w:=by
 unfold XY at hm;split at hm
 .rename_i o ho;split at hm
  .rename_i s x' hx;split at hm
   .rename_i v;cases hm;simp only[aaM]at v;obtain⟨d,hlate⟩:=v;rw[acd]at hlate;obtain⟨J',hg,i,j,l,z,e⟩:=NF (C:=C) hx h.mem;have m:=Dr.Fh d;have b:=m;simp only[St.upto,aaM]at b;refine⟨J',hg,i,j,l,⟨h.lsz,z,h.path.bF hg b.2,h.size,h.defers,fun t u y=>?_,h.lsub,h.dsub,h.dlt,h.ldone,h.lval,fun f hf p=>?_,h.hid,fun k hk dz=>?_,h.inj,h.closed,h.dclosed⟩⟩
    .rw[TV.bF hg u (St.wU b.1.1 y)];exact h.slots t u y
    .exact(h.late f hf p).next d hg hf (hlate f hf) rfl (fun _ _ _ hs=>hs) (fun g hg=>hg) (fun k hk=>hk)
    .obtain⟨o',t',B,E,F,G,g3,g4,H,I,K,M⟩:=h.early k hk dz;refine⟨o',t',B,E,F,G,g3,g4,H,I,K,fun r hr hb=>?_⟩;obtain⟨N,AO,q⟩:=e r hr _ hb;exact M N AO q
   .cases hm
  .cases hm
 .cases hm
end
section
variable {P:Program} {C:Ctx} {S:Nat->Prop} {w0:World} {J J':Env} {ops:List Oper} {A:List (List Nat)} {D D':Dr} {L:Array Bool} {pl:Nat->Nat} {a:Act} {w w':World}
def mc {s:St} (hA:Rel S w0 J s a w) (h:xO ops s o=true):Region.wanted o (yielded ops.toArray a.tmps)=true:=by
 unfold xO at h;split at h
 .rename_i hg;rw[jb hA hg];rfl
 .rename_i e want hg;have hw:Region.wanted o (yielded ops.toArray a.tmps)=(aY J e==want):=jb hA hg;have hk:known s.path e=some want:=by simpa using h
  rw[hw,fw hA.path hk];simp
 .cases h
theorem pC.chain (an:∀ s∈C.Γ,s.OK P) (h:pC P S w0 ops A J D L pl a w) (hc:oD ops A=true) (hu:FA ops) (H:c<ops.length) (hd:c∉D.done) (ha:cO ops c=false) (aF:∀ e∈iC ops c,e∈D.done) (hr:∀ e∈iC ops c,L.getD e false=true)
 {R:XR} (hx:D5 P C.Γ ops A D c=some (D',R)) {ms:Nat->Nat} (hn:R.need.holds C ms J) {K:Act->World->Prop} {Q:Exit->Act->World->Prop}
 (hK:∀ J' a' w',ai D.st.nv J J'->(match R.x with | some y=>y.rel C J J'/\y.n=D.st.nv | none=>J'=J)->pC P S w0 ops A J' D' (L.setIfInBounds c true) pl a' w'->D.st.nv<=D'.st.nv->K a' w'):wpOp P ops.toArray Q c K a w:=by
 unfold D5 at hx;split at hx
 .rename_i o ho;simp only at hx;split at hx
  .rename_i hw;split at hx
   .rename_i R' hR;split at hx
    .rename_i I;cases hx;simp only[aaM,aas]at I;obtain⟨⟨⟨aa,ao⟩,V⟩,hlate⟩:=I;unfold roB at V;rw[acd]at hlate V;have hL:=h.iK hd ha;have m:=h.ER hc H hr;have aD:=gO hc (p:=fun i=>L.getD i false=true) h.closed c H hr;have M:=kF ho;have ab:=Dr.Fh aa;have N:=ab;simp only[St.upto,aaM]at N
     let E:Nat->Prop:=fun b=>∃ j,L.getD j false=true/\j∉D.done/\pl j=b
     let S':Nat->Prop:=fun b=>(S b\/w0.heap.size<=b)/\¬E b
     have hE:∀ r∈D.st.mem,∀ b,(r.hl J).mem b->¬E b:=by
      rintro r hr b hb ⟨j,G,l,rfl⟩;obtain⟨_,_,_,_,_,_,_,_,_,_,_,h8⟩:=h.early j G l;exact h8 r hr hb
     have X:Rel S' w J (Ik ops A c D.st) a w:=by
      refine⟨⟨gX.refl _ _,h.mem.sub,fun r hr ho b hb=>Or.inl ⟨h.mem.own r hr ho b hb,hE r hr b hb⟩,h.mem.bq,h.mem.pos⟩,m.size,m.defers,m.tmp,m.path⟩
     unfold wpOp;have:ops.toArray[c]?=some o:=by simpa using ho
     rw[this];simp only;rw[ab9 (mc m hw)];refine Or.inl (Ar (W:=Y7 P) (Q:=Q) an X hR hn (fun J' x w' hg aq z=>?_));have hg:ai D.st.nv J J':=hg;have hag:=Mem.bF hg (St.cR ab);have hs:∀ k,(L.setIfInBounds c true).getD k false=if c=k then true else L.getD k false:=fun k=>kW (by rw[h.lsz];exact H)
     have hsz:(a.put o.dst x).tmps.size=a.tmps.size:=by cases o.dst<;>simp [Act.put]
     have hk:=z.cJ;have ar:∀ k,k<w0.heap.size->¬S k->¬S' k:=fun k hk hS Y=>Y.1.elim hS (fun h=>ah);have au:∀ j,L.getD j false=true->j∉D.done->w'.heap[pl j]?=w.heap[pl j]?:=by
      intro j G l;obtain⟨_,_,_,_,_,_,_,_,_,h6,_⟩:=h.early j G l;exact hk.block _ (acq.1 h6).1 (fun Y=>Y.2 ⟨j,G,l,rfl⟩)
     have ad:MRel S w0 J' R.st.mem w':=by
      refine⟨⟨hk.os.trans h.mem.cJ.os,hk.tape.trans h.mem.cJ.tape,hk.output.trans h.mem.cJ.output,acA h.mem.cJ.size hk.size,fun k ot hS=>?_⟩,z.sub,fun r hr ho b hb=>?_,z.bq,z.pos⟩
      .rw[hk.block k (afi ot h.mem.cJ.size) (ar k ot hS)];exact h.mem.cJ.block k ot hS
      .rcases z.own r hr ho b hb with h1 | h1
       .exact h1.1
       .right;have:=h.mem.cJ.size;omega
     have O:∀ t u,(({D.st with mem:=R.st.mem,nv:=R.st.nv} : St).put o.dst (match o.dst with | some d=>R.st.tmps.getD d none | none=>none)).tmps[t]?=some (some u) ->
      (o.dst=some t/\R.st.tmps[t]?=some (some u))\/(o.dst≠some t/\D.st.tmps[t]?=some (some u)):=by
      intro t u q;rw[xG]at q;split at q
      .grind
      .grind
     have B:∀ t (u:TV),o.dst≠some t->u.upto D.st.nv=true->a.tmps[t]?=some (u.ev J)->(a.put o.dst x).tmps[t]?=some (u.ev J'):=by
      intro t u v av hv;rw[kq,aa8 (fun e=>v e.1),hv,TV.bF hg u av]
     refine hK J' (a.put o.dst x) w' hg aq ⟨by simp [h.lsz],by rw[St.ic];exact ad,by rw[St.BI];exact h.path.bF hg N.2,by rw[j8,hsz];exact h.size,by cases o.dst<;>exact h.defers,?_,?_,?_,?_,?_,?_,?_,?_,?_,?_,?_,?_⟩ (by rw[St.EL];exact ao)
     .intro t u q;rcases O t u q with ⟨h1,h2⟩ | ⟨v,q⟩
      .right;exact z.tmp t u h2
      .rcases h.slots t u q with ⟨f,hf,T,aG⟩ | hv
       .grind
       .right;exact B t u v (St.wU N.1.1 q) hv
     .intro k hk;rw[hs]at hk;split at hk
      .grind
      .exact(h.lsub k hk).imp (abq _) id
     .intro k hk;rcases aaW.1 hk with rfl | hk
      .grind
      .rcases h.dsub k hk with h1 | ⟨f,hf,rfl⟩
       .grind
       grind
     .intro k hk;rcases aaW.1 hk with rfl | hk
      .exact H
      .exact h.dlt k hk
     .intro f hf;exact abq _ (h.ldone f (afq.1 hf).1)
     .intro f hf t u ae q;have hf:=(afq.1 hf).1;rcases O t u q with ⟨h1,_⟩ | ⟨_,q⟩
      .exact absurd (hu _ _ t ae (by rw[M,h1])▸h.ldone f hf) hd
      .exact h.lval f hf t u ae q
     .intro f hf T;have aw:=hlate f hf;have hf:=(afq.1 hf).1;have v:c≠f.i:=fun e=>hd (e▸h.ldone f hf);rw[hs,aa8 v]at T;refine(h.late f hf T).next aa hg hf (by rw[St.ic];exact aw) (by rw[j8]) (fun t u q ax=>?_) (fun g Z=>(afq.1 Z).1) (fun k hk=>abq _ hk);rcases ax with ⟨g,Z,ay,az,aA⟩ | hv
      .left;refine⟨g,?_,?_,az,aA⟩
       .grind
       .rw[hs,aa8 (show ¬c=g.i from fun e=>hd (e▸h.ldone g Z))];exact ay
      .right;have af:o.dst≠some t:=by
        intro af;exact(h.late f hf T).hid c t H (by grind) (fun hm=>hd ((h.late f hf T).sub c hm)) u q
       rw[kq,aa8 (fun e=>af e.1)];exact hv
     .intro j G l t u ag q;rcases O t u q with ⟨h1,_⟩ | ⟨_,q⟩
      .have:=hu _ _ t ag (by rw[M,h1])
       grind
      .exact h.hid j G (fun e=>l (abq _ e)) t u ag q
     .intro j G l;have F:j∉D.done:=fun e=>l (abq _ e);have v:c≠j:=fun e=>l (aaW.2 (Or.inl e.symm));rw[hs,aa8 v]at G;obtain⟨o',t',z',d',g1,g2,g3,g4,g5,g6,g7,g8⟩:=h.early j G F;refine⟨o',t',z',d',g1,g2,g3,g4,fun aH=>?_,by grind,g7,fun r hr hm=>?_⟩
      .rw[kq,aa8]
       .grind
       .rintro⟨e,_⟩;exact v (hu _ _ d' (by rw[M,e]) (by rw[kF g1,g4]))
      .rw[St.ic]at hr;cases U:r.own with
       | true =>
        rcases z.own r hr U _ hm with h1 | h1
        .grind
        grind
       | false =>
        have hb:=V r hr;cases r with
        | ro k tags any =>
         simp only[List.any_eq_true]at hb;obtain⟨s,aj,ak⟩:=hb;cases s with
         | ro k' aB aE =>
          have aC:k=k':=by simpa using ak
          subst aC;have:=(hag _ aj).1;simp only[bo.hl]at this hm;rw[this]at hm;exact g8 _ aj hm
         | _=>cases ak
        | _=>cases U
     .intro j j' G l al F;rw[hs,aa8 (show ¬c=j from fun e=>l (aaW.2 (Or.inl e.symm)))]at G;rw[hs,aa8 (show ¬c=j' from fun e=>F (aaW.2 (Or.inl e.symm)))]at al;exact h.inj j j' G (fun e=>l (abq _ e)) al (fun e=>F (abq _ e))
     .intro i hi e he;rw[hs];split
      .rfl
      .rw[hs]at hi;split at hi
       .grind
       .exact h.closed i hi e he
     .intro k hk e he;rcases aaW.1 hk with rfl | hk
      .grind
      .exact abq _ (h.dclosed k hk e he)
    .cases hx
   .cases hx
  .cases hx
 .cases hx
theorem pC.other (h:pC P S w0 ops A J D L pl a w) (s:oD ops A=true) (hu:FA ops) (b:∀ j o t,cO ops j=true->ops[j]?=some o->o.op=.alloc t->j∉D.done->∃ z,nc P t=some z)
 (ih:∀ L' m a' w',pC P S w0 ops A J D L' m a' w'->KA ops L'<=g->wpAny P .any ops.toArray Q g L' a' w') {i:Nat} (hi:i∈Region.ready .any ops.toArray L) (hg:KA ops L<=g+1) (hk:i∈D.done\/cO ops i=true) :
 wpOp P ops.toArray Q i (wpAny P .any ops.toArray Q g (L.setIfInBounds i true)) a w:=by
 obtain⟨n,e,hr⟩:=(cW h.lsz).1 hi;have u:=wR h.lsz n e;by_cases hd:i∈D.done
 .rcases h.dsub i hd with h1 | ⟨f,hf,rfl⟩
  .grind
  .have hl:=h.late f hf e;obtain⟨o,ho,p⟩:=hl.fl;exact TJ (h.RH s hf e hr) ho p hl.need fun x hx=>ih _ pl _ _ (h.QC hu hf ho e hr hx) ah
 .have q:=hk.resolve_left hd;obtain⟨o,t,d,ho,c,k,r,_⟩:=qS q;obtain⟨z,hz⟩:=b i o t q ho c hd;unfold wpOp;have:ops.toArray[i]?=some o:=by simpa using ho
  rw[this];simp only;rw[ab9 (by simp [Region.wanted,r])];refine Or.inl ?_;have l:(execOp a.eval o).run P w=.ok (.value (.pointer (some ⟨w.heap.size,0,none⟩))) (w.alloc (.cells z.cells t)):=by
   unfold execOp;rw[c];simp only[Sem.run_bind,Instr.alloc,mq hz,Result.andThen_ok];rfl
  exact fk (W:=Y7 P) l (ih _ _ _ _ (h.MG hu q hd e ho c k hz) ah)
def find_spec {p:α->Bool} {l:List α} {x:α} (h:l.find? p=some x):x∈l/\p x=true:=⟨agt h,List.find?_some h⟩
theorem xW {C:Ctx} {ms:Nat->Nat} {J:Env} : ∀ (l:List (Option Nd)) {nd:Nd},KF l=some nd->nd.holds C ms J->∀ x∈l,∃ a,x=some a/\a.holds C ms J
 | [],_,_,_,x,hx=>by cases hx
 | some a::l,nd,h,hn,x,hx=>by
  simp only[KF,aaH]at h;obtain⟨b,hb,rfl⟩:=h;rw[fa]at hn;rcases aaW.1 hx with rfl | hx
  .grind
  .exact xW l hb hn.2 x hx
 | none::_,_,h,_,_,_=>by cases h
theorem pn (h:wJ ops A (r::l)=true):r<ops.length/\r∉l/\(∀ i,i<ops.length->i=r\/i∈l\/i∈A.getD r [])/\wJ ops A l=true:=by
 unfold wJ at h;simp only[aaM,aas,ad0,afE,acM,acd,acv,aeM,af4]at h
 grind
def Ib:∀ {l:List Nat},wJ ops A l=true->∀ i∈l,∃ m:List Nat,i<ops.length/\(∀ j,j<ops.length->j=i\/j∈m\/j∈A.getD i [])/\∀ j∈m,j∈l
 | [],_,i,h=>by cases h
 | r::l,h,i,hi=>by
  obtain⟨h1,g,b,c⟩:=pn h;rcases aaW.1 hi with rfl | hi
  .exact⟨l,h1,b,fun j a=>abq _ a⟩
  .obtain⟨m,d,e,f⟩:=Ib c i hi;exact⟨m,d,e,fun j a=>abq _ (f j a)⟩
theorem Kr (d:oD ops A=true) (h:wJ ops A (r::l)=true) {L:Array Bool} (g:∀ j,j<ops.length->(L.getD j false=true↔j∉r::l)) (b:∀ i,L.getD i false=true->∀ e∈iC ops i,L.getD e false=true) (hi:i<ops.length) (hn:L.getD i false=false) (hr:∀ e∈iC ops i,L.getD e false=true):i=r:=by
 obtain⟨h1,k,m,n⟩:=pn h;have c:=gO d (p:=fun i=>L.getD i false=true) b i hi hr;have a:i∈r::l:=aee fun hh=>by grind
 rcases aaW.1 a with e | a
 .exact e
 .exfalso;have key:∀ {l:List Nat},wJ ops A l=true->i∈l->r∉l->r∈A.getD i []:=by
   intro l
   induction l with
   | nil=>grind
   | cons x l ih =>
    intro h hi f;obtain⟨_,_,k3,k4⟩:=pn h
    grind
  grind
theorem Du {ex:Ex} (f:∀ s∈C.Γ,s.OK P) (hex:Cl P C ex) (p:oD ops A=true) {d:Nat} {Q:Exit->Act->World->Prop} {k:St->Option Nd} : ∀ (l:List Nat) (st:St) (nd:Nd) (ms:Nat->Nat) (J:Env) (g:Nat) (L:Array Bool) (a:Act) (w:World),
 wJ ops A l=true->Vb P C.Γ ex d ops l st k=some nd->nd.holds C ms J->Rel S w0 J st a w->L.size=ops.length->(∀ j,j<ops.length->(L.getD j false=true↔j∉l))->(∀ i,L.getD i false=true->∀ e∈iC ops i,L.getD e false=true)->KA ops L<=g->MD S w0 C d ms st.nv J k (Q .normal)->wpAny P .any ops.toArray Q g L a w
 | [],st,nd,ms,J,g,L,a,w,_,h,hn,hA,b,q,m,hg,hk=>by
  have K:=hk ms st nd J a w (fun _ _=>rfl) h (ai.refl _ _) hA hn;have H:Region.ready .any ops.toArray L=[]:=by
   rw[agb];intro j n;obtain⟨h1,t,_⟩:=(cW b).1 n;rw[(q j h1).2 aC]at t;cases t
  cases g with
  | zero=>trivial
  | succ g=>exact⟨fun _=>K,fun j n=>by grind⟩
 | r::l,st,nd,ms,J,g,L,a,w,I,h,hn,hA,b,q,m,hg,hk=>by
  obtain⟨h1,t,O,M⟩:=pn I;have u:L.getD r false=false:=by
   cases hh:L.getD r false with
   | false=>rfl
   | true=>grind
  have N:=wR b h1 u;cases g with
  | zero=>omega
  | succ g =>
   refine⟨fun AO=>?_,fun i hi=>?_⟩
   .exfalso;have:=iU p b AO r h1
    grind
   .obtain⟨v,x,hr⟩:=(cW b).1 hi;have e:=Kr p I q m v x hr;subst e;unfold Vb at h;split at h
    .rename_i o ho;split at h
     .rename_i hw;unfold wpOp;have:ops.toArray[i]?=some o:=by simpa using ho
      rw[this];simp only;rw[ab9 (mc hA hw)];refine Or.inl (nI (W:=Y7 P) f hex h hA hn fun y st' z J' a2 w2 B c D E F=>?_);simp only at c;split at c
      .rename_i G;refine Du f hex p l st' z y J' g _ a2 w2 M c F E (by grind) (fun j n=>?_) (fun j n e he=>?_) ah (hk.fx B D G)
       .rw[kW (by grind)]
        grind
       .rw[kW (by grind)]at n ⊢
        grind
      .cases c
     .cases h
    .cases h
def Am {ex:Ex} (ao:∀ s∈C.Γ,s.OK P) (hex:Cl P C ex) (I:oD ops A=true) (hu:FA ops) {d:Nat} {Q:Exit->Act->World->Prop} (r:∀ j o t,cO ops j=true->ops[j]?=some o->o.op=.alloc t->∃ z,nc P t=some z) :
 ∀ (m:Nat) (D:Dr) (k:St->Option Nd) (nd:Nd) (ms:Nat->Nat) (J:Env) (g:Nat) (L:Array Bool) (pl:Nat->Nat) (a:Act) (w:World),
  qw P C.Γ ex d ops A m D k=some nd->nd.holds C ms J->pC P S w0 ops A J D L pl a w->KA ops L<=g->MD S w0 C d ms D.st.nv J k (Q .normal)->wpAny P .any ops.toArray Q g L a w
 | 0,D,k,nd,ms,J,g,L,pl,a,w,h,_,_,_,_=>by cases h
 | m+1,D,k,nd,ms,J,g,L,pl,a,w,h,hn,hS,hg,hk=>by
  have IH:=Am (d:=d) (Q:=Q) ao hex I hu r m;unfold qw at h;split at h
  .rename_i i hi;obtain⟨_,hp⟩:=find_spec hi;simp only[aaM,ad0,afE,acM,acd,aas]at hp;obtain⟨⟨⟨hd,ha⟩,ar⟩,_⟩:=hp;split at h
   .rename_i o ho;simp only at h;split at h
    .rename_i n v hf;simp only[aaH]at h;obtain⟨F,h',rfl⟩:=h;obtain⟨h1,N⟩:=oe _ _ hn;have hb:aY J n=true:=CJ n fun c aR=>by
      by_cases aJ:known D.st.path c=some true
      .exact fw hS.path aJ
      .exact h1 c (by unfold GH;rw[afq];exact⟨aR,by simpa using aJ⟩)
     exact IH _ k F ms J g L pl a w h' N (hS.float I hu ho hd ha ar hf hb h1) hg (by rw[St.EL];exact hk)
    .cases h
   .cases h
  .split at h
   .rename_i e he;split at h
    .rename_i x y h1 N;cases h;rw[fa,jg,jg]at hn;cases hb:aY J e with
     | true=>exact IH _ k x ms J g L pl a w h1 (hn.1 hb) (hS.rD (cs:=[e]) (fun c I=>by rw[aaQ.1 I];exact hb)) hg hk
     | false =>
      have aK:aY J (mkNot e)=true:=by rw[cU,hb];rfl
      exact IH _ k y ms J g L pl a w N (hn.2 aK) (hS.rD (cs:=[mkNot e]) (fun c I=>by rw[aaQ.1 I];exact aK)) hg hk
    .cases h
   .
    have ad:∀ L' q a' w',pC P S w0 ops A J D L' q a' w'->∀ i∈Region.ready .any ops.toArray L',i∈D.done\/cO ops i=true\/i∈xZ ops D:=by
     intro L' q a' w' b i hi;obtain⟨O,au,hr⟩:=(cW b.lsz).1 hi;by_cases hd:i∈D.done
     .exact Or.inl hd
     .cases ha:cO ops i with
      | true=>exact Or.inr (Or.inl rfl)
      | false =>
       right;right;unfold xZ;rw[afq];refine⟨acv.2 O,?_⟩;simp only[aaM,ad0,afE,acM,acd,aeM,aas];exact⟨⟨hd,ha⟩,fun e he=>b.lsub e (hr e he)⟩
    have ae:∀ (j:Nat) (D':Dr) (F:Nd),j∉D.done->(∀ L' q a' w',pC P S w0 ops A J D L' q a' w'->L'.getD j false=false->j<ops.length)->vI P ops D j=some D'->qw P C.Γ ex d ops A m D' k=some F ->
     (∀ J',ai D.st.nv J J'->0<=J'.i D.st.nv->F.holds C ms J')->(∀ c∈xZ ops D,j∈iC ops c) ->
     ∀ (g:Nat) L' q a' w',pC P S w0 ops A J D L' q a' w'->KA ops L'<=g->wpAny P .any ops.toArray Q g L' a' w':=by
     intro j D' F ay aL himp aM aN aS g
     induction g with
     | zero =>
      intro L' q a' w' b B;cases U:L'.getD j false with
      | true =>
       obtain⟨J',G,h0,Y,af⟩:=b.import hu ay U himp;exact IH D' k F ms J' 0 L' q a' w' aM (aN J' G h0) Y B (hk.fx (fun _ _=>rfl) G ah)
      | false =>
       exfalso;have:=pw (ago.1 B) (aL L' q a' w' b U);rw[U]at this;cases this
     | succ g K =>
      intro L' q a' w' b B;cases U:L'.getD j false with
      | true =>
       obtain⟨J',G,h0,Y,af⟩:=b.import hu ay U himp;exact IH D' k F ms J' (g+1) L' q a' w' aM (aN J' G h0) Y B (hk.fx (fun _ _=>rfl) G ah)
      | false =>
       refine⟨fun AO=>?_,fun i hi=>?_⟩
       .exfalso;have:=iU I b.lsz AO j (aL L' q a' w' b U);rw[U]at this;cases this
       .refine b.other I hu (fun j o t h1 N Z _=>r j o t h1 N Z) K hi B ?_;rcases ad L' q a' w' b i hi with h1 | h1 | h1
        .exact Or.inl h1
        .exact Or.inr h1
        .exfalso;have:=((cW b.lsz).1 hi).2.2 j (aS i h1);rw[U]at this;cases this
    split at h
    .rename_i V;split at h
     .rename_i hall;have hdone:∀ i,i<ops.length->i∈D.done:=by
       intro i hi;have:=afL.1 hall i (acv.2 hi);simpa using this
      have key:∀ (g:Nat) L' q a' w',pC P S w0 ops A J D L' q a' w'->KA ops L'<=g->wpAny P .any ops.toArray Q g L' a' w':=by
       have fin:∀ L' q a' w',pC P S w0 ops A J D L' q a' w'->(∀ i,i<ops.length->L'.getD i false=true)->Q .normal a' w':=by
        intro L' q a' w' b au;refine hk ms D.st nd J a' w' (fun _ _=>rfl) h (ai.refl _ _) ⟨b.mem,b.size,b.defers,fun t u ht=>?_,b.path⟩ hn;rcases b.slots t u ht with ⟨f,hf,aT,_⟩ | hv
        .have:=au f.i (b.dlt _ (b.ldone f hf));rw[aT]at this;cases this
        .exact hv
       intro g
       induction g with
       | zero =>
        intro L' q a' w' b B;have au:∀ i,i<ops.length->L'.getD i false=true:=fun i hi=>pw (ago.1 B) hi;refine⟨?_,fin L' q a' w' b au⟩;cases hr:Region.ready .any ops.toArray L' with
        | nil=>rfl
        | cons i l =>
         exfalso;obtain⟨O,X,_⟩:=(cW b.lsz).1 (hr▸acj .. : i∈Region.ready .any ops.toArray L');rw[au i O]at X;cases X
       | succ g K =>
        intro L' q a' w' b B;refine⟨fun AO=>fin L' q a' w' b (iU I b.lsz AO),fun i hi=>?_⟩;exact b.other I hu (fun j o t h1 N Z _=>r j o t h1 N Z) K hi B (Or.inl (hdone i ((cW b.lsz).1 hi).1))
      exact key g L pl a w hS hg
     .rename_i j hj;obtain⟨av,aC⟩:=find_spec hj;split at h
      .rename_i D' himp;simp only[aaH]at h;obtain⟨F,h',rfl⟩:=h;exact ae j D' F (by simpa using aC) (fun _ _ _ _ _ _=>acv.1 av) himp h' (fun J' G h0=>hn J' G h0) (fun c az=>by rw[V]at az;cases az) g L pl a w hS hg
      .cases h
    .rename_i c V;have az:c∈xZ ops D:=by rw[V];exact acj ..
     have E:=az;unfold xZ at E;rw[afq]at E;simp only[aaM,ad0,afE,acM,acd,aeM,aas,acv]at E;obtain⟨H,⟨aa,ab⟩,a1⟩:=E;split at h
     .rename_i j hj;obtain⟨aO,aC⟩:=find_spec hj;have ay:j∉D.done:=by simpa using aC
      split at h
      .rename_i D' himp;simp only[aaH]at h;obtain⟨F,h',rfl⟩:=h;refine ae j D' F ay (fun _ _ _ _ _ _=>Nat.lt_trans ((sq I H).2 j aO) H) himp h' (fun J' G h0=>hn J' G h0) (fun c' E=>?_) g L pl a w hS hg;rw[V,aaQ]at E;rw[E];exact aO
      .cases h
     .rename_i hj;have ar:∀ e∈iC ops c,e∈D.done:=fun e he=>by
       have:=afL.1 hj e he;simpa using this
      split at h
      .rename_i D' x aU;simp only[aaH]at h;obtain⟨F,h',rfl⟩:=h;obtain⟨J',G,aV,aW,af,Y⟩:=hS.merge (C:=C) aU;exact IH D' k F ms J' g L pl a w h' (hn J' (by rw[aV];exact G) aW) Y hg (hk.fx (fun _ _=>rfl) G ah)
      split at h
      .rename_i D' R aD;simp only[aaH]at h;obtain⟨F,h',rfl⟩:=h;rw[fa]at hn;have key:∀ (g:Nat) L' q a' w',pC P S w0 ops A J D L' q a' w'->KA ops L'<=g->wpAny P .any ops.toArray Q g L' a' w':=by
        intro g
        induction g with
        | zero =>
         intro L' q a' w' b B;exfalso;have h1:=pw (ago.1 B) H;rw[b.iK aa ab]at h1;cases h1
        | succ g K =>
         intro L' q a' w' b B;refine⟨fun AO=>?_,fun i hi=>?_⟩
         .exfalso;have h1:=iU I b.lsz AO c H;rw[b.iK aa ab]at h1;cases h1
         .rcases ad L' q a' w' b i hi with h1 | h1 | h1
          .exact b.other I hu (fun j o t h1 N Z _=>r j o t h1 N Z) K hi B (Or.inl h1)
          .exact b.other I hu (fun j o t h1 N Z _=>r j o t h1 N Z) K hi B (Or.inr h1)
          .rw[V,aaQ]at h1;subst h1;obtain⟨O,X,hr⟩:=(cW b.lsz).1 hi;have aP:=wR b.lsz O X;refine b.chain (Q:=Q) ao I hu O aa ab ar hr aD hn.1 fun J' a2 w2 G hx Y af=>?_;refine IH D' k F ms J' g _ q a2 w2 h' ?_ Y ah (hk.fx (fun _ _=>rfl) G af);have M:=hn.2;cases aw:R.x with
           | none=>rw[aw]at M hx;subst hx;exact M
           | some y =>
            rw[aw]at M hx;exact M J' (by rw[hx.2];exact G) hx.1
       exact key g L pl a w hS hg
      .split at h
       .rename_i o ho;split at h
        .rename_i T;simp only[aaM]at T;obtain⟨hw,aj⟩:=T;have key:∀ (g:Nat) L' q a' w',pC P S w0 ops A J D L' q a' w'->KA ops L'<=g->wpAny P .any ops.toArray Q g L' a' w':=by
          intro g
          induction g with
          | zero =>
           intro L' q a' w' b B;exfalso;have h1:=pw (ago.1 B) H;rw[b.iK aa ab]at h1;cases h1
          | succ g K =>
           intro L' q a' w' b B;refine⟨fun AO=>?_,fun i hi=>?_⟩
           .exfalso;have h1:=iU I b.lsz AO c H;rw[b.iK aa ab]at h1;cases h1
           .rcases ad L' q a' w' b i hi with h1 | h1 | h1
            .exact b.other I hu (fun j o t h1 N Z _=>r j o t h1 N Z) K hi B (Or.inl h1)
            .exact b.other I hu (fun j o t h1 N Z _=>r j o t h1 N Z) K hi B (Or.inr h1)
            .rw[V,aaQ]at h1;subst h1;obtain⟨O,X,hr⟩:=(cW b.lsz).1 hi;have ag:=b.ER I H hr;have ax:=gO I (p:=fun i=>L'.getD i false=true) b.closed i H hr;unfold wpOp;have:ops.toArray[i]?=some o:=by simpa using ho
             rw[this];simp only;rw[ab9 (mc ag hw)];refine Or.inl (nI (W:=Y7 P) ao hex h ag hn fun aE st' F J' a2 w2 aF aq aG aH M=>?_);have hq:=hk aE st' F J' a2 w2 aF aq aG aH M;have hall:∀ j,j<ops.length->(L'.setIfInBounds i true).getD j false=true:=by
              intro j hj;rw[kW (by rw[b.lsz];exact H)];split
              .rfl
              .rename_i aX;unfold VL at aj;rw[acd]at aj;have:=aj j (acv.2 hj);simp only[aeM,af4]at this;rcases this with h1 | h1
               .exact absurd h1.symm aX
               .exact ax j (by simpa using h1)
             have aQ:(L'.setIfInBounds i true).size=ops.length:=by rw[agy];exact b.lsz
             have aB:Region.ready .any ops.toArray (L'.setIfInBounds i true)=[]:=by
              rw[agb];intro j hj;obtain⟨h1,N,_⟩:=(cW aQ).1 hj;rw[hall j h1]at N;cases N
             cases g with
             | zero=>exact⟨aB,hq⟩
             | succ g=>exact⟨fun _=>hq,fun j hj=>by rw[aB]at hj;cases hj⟩
         exact key g L pl a w hS hg
        .split at h
         .rename_i T;simp only[aaM]at T;obtain⟨hw,aZ⟩:=T;obtain⟨t1,t2,t3,t4⟩:=pn aZ;have key:∀ (g:Nat) L' q a' w',pC P S w0 ops A J D L' q a' w'->KA ops L'<=g->wpAny P .any ops.toArray Q g L' a' w':=by
           intro g
           induction g with
           | zero =>
            intro L' q a' w' b B;exfalso;have h1:=pw (ago.1 B) H;rw[b.iK aa ab]at h1;cases h1
           | succ g K =>
            intro L' q a' w' b B;refine⟨fun AO=>?_,fun i hi=>?_⟩
            .exfalso;have h1:=iU I b.lsz AO c H;rw[b.iK aa ab]at h1;cases h1
            .rcases ad L' q a' w' b i hi with h1 | h1 | h1
             .exact b.other I hu (fun j o t h1 N Z _=>r j o t h1 N Z) K hi B (Or.inl h1)
             .exact b.other I hu (fun j o t h1 N Z _=>r j o t h1 N Z) K hi B (Or.inr h1)
             .rw[V,aaQ]at h1;subst h1;obtain⟨O,X,hr⟩:=(cW b.lsz).1 hi;have ag:=b.ER I H hr;have ax:=gO I (p:=fun i=>L'.getD i false=true) b.closed i H hr;have aP:=wR b.lsz O X;unfold wpOp;have:ops.toArray[i]?=some o:=by simpa using ho
              rw[this];simp only;rw[ab9 (mc ag hw)];refine Or.inl (nI (W:=Y7 P) ao hex h ag hn fun aE st' F J' a2 w2 aF aq aG aH M=>?_);simp only at aq;split at aq
              .rename_i af;refine Du ao hex I _ st' F aE J' g _ a2 w2 t4 aq M aH (by rw[agy];exact b.lsz) (fun j hj=>?_) (fun j hj e he=>?_) ah (hk.fx aF aG af)
               .rw[kW (by rw[b.lsz];exact H)];by_cases ak:i=j
                .subst ak;simp [t2]
                .rw[aa8 ak];constructor
                 .intro U av;obtain⟨m,m1,m2,m3⟩:=Ib t4 j av;have a0:i∈A.getD j []:=by
                   rcases m2 i H with e | e | e
                   .exact absurd e ak
                   .exact absurd (m3 i e) t2
                   .exact e
                  have:=gO I (p:=fun i=>L'.getD i false=true) b.closed j hj (b.closed j U) i a0;rw[X]at this;cases this
                 .intro av;rcases t3 j hj with e | e | e
                  .exact absurd e.symm ak
                  .exact absurd e av
                  .exact ax j e
               .rw[kW (by rw[b.lsz];exact H)]at hj ⊢;split
                .rfl
                .by_cases ak:i=j
                 .subst ak;exact hr e he
                 .rw[aa8 ak]at hj;exact b.closed j hj e he
              .cases aq
          exact key g L pl a w hS hg
         .cases h
       .cases h
    .rename_i c1 c2 cs V;split at h
     .rename_i al;have an:∀ c∈xZ ops D,c<ops.length/\c∉D.done/\cO ops c=false:=by
       intro c E;unfold xZ at E;rw[afq]at E;simp only[aaM,ad0,afE,acM,acd,aeM,aas,acv]at E;exact⟨E.1,E.2.1.1,E.2.1.2⟩
      obtain⟨k1,k2,k3⟩:=an c1 (by rw[V];exact acj ..);have key:∀ (g:Nat) L' q a' w',pC P S w0 ops A J D L' q a' w'->KA ops L'<=g->wpAny P .any ops.toArray Q g L' a' w':=by
       intro g
       induction g with
       | zero =>
        intro L' q a' w' b B;exfalso;have h1:=pw (ago.1 B) k1;rw[b.iK k2 k3]at h1;cases h1
       | succ g K =>
        intro L' q a' w' b B;refine⟨fun AO=>?_,fun i hi=>?_⟩
        .exfalso;have h1:=iU I b.lsz AO c1 k1;rw[b.iK k2 k3]at h1;cases h1
        .rcases ad L' q a' w' b i hi with h1 | h1 | h1
         .exact b.other I hu (fun j o t h1 N Z _=>r j o t h1 N Z) K hi B (Or.inl h1)
         .exact b.other I hu (fun j o t h1 N Z _=>r j o t h1 N Z) K hi B (Or.inr h1)
         .obtain⟨_,aa,ab⟩:=an i h1;rw[V]at h1;obtain⟨a3,aA,aI⟩:=xW _ h hn _ (acw.2 ⟨i,h1,rfl⟩);rw[acd]at al;have ar:∀ e∈iC ops i,e∈D.done:=fun e he=>by
           have:=al i h1;rw[acd]at this;simpa using this e he
          split at aA
          .rename_i D' R aD;simp only[aaH]at aA;obtain⟨F,h',rfl⟩:=aA;rw[fa]at aI;obtain⟨O,X,hr⟩:=(cW b.lsz).1 hi;have aP:=wR b.lsz O X;refine b.chain (Q:=Q) ao I hu O aa ab ar hr aD aI.1 fun J' a2 w2 G hx Y af=>?_;refine IH D' k F ms J' g _ q a2 w2 h' ?_ Y ah (hk.fx (fun _ _=>rfl) G af);have M:=aI.2;cases aw:R.x with
           | none=>rw[aw]at M hx;subst hx;exact M
           | some y =>
            rw[aw]at M hx;exact M J' (by rw[hx.2];exact G) hx.1
          .cases aA
      exact key g L pl a w hS hg
     .cases h
theorem Gr {st:St} (h:(mG ops st).tmps[t]?=some (some u)):st.tmps[t]?=some (some u)/\∀ j,cO ops j=true->iz ops j≠some t:=by
 unfold mG at h;simp only[pW,aaH]at h;obtain⟨v,hv,he⟩:=h;split at he
 .cases he
 split at he
 .cases he
 .rename_i a;cases he;refine⟨hv,fun j b hd=>a ?_⟩;rw[afy,List.mem_filterMap];exact⟨j,acv.2 (An hd),by grind⟩
theorem FX (g:∀ s∈C.Γ,s.OK P):Fv P C (dk P C.Γ):=by
 intro ex hex d ops st k nd ms S w0 J a w id Q h hA hn hk;unfold dk at h;simp only at h;split at h
 .rename_i b;simp only[aaM]at b;obtain⟨⟨⟨B,l⟩,hm⟩,e⟩:=b;have hu:=Mu l;refine wp_region_any hm ?_;have hsz:ops.toArray.size=ops.length:=by simp
  rw[hsz];have E:∀ i,(Array.replicate ops.length false).getD i false=false:=fun i=>by
   by_cases hi:i<ops.length
   .simp [hi]
   .simp [hi]
  have f:RowKit.Below w.heap.size w {w with drawn:=w.drawn+1}:=(RowKit.Below.refl _ w).drew;have m:MRel S w0 J st.mem {w with drawn:=w.drawn+1}:=hA.toMRel.below f;have hz:∀ j o t,cO ops j=true->ops[j]?=some o->o.op=.alloc t->∃ z,nc P t=some z:=by
   intro j o t _ ho n;unfold SO at e;rw[acd]at e;have:=e o (aah ho);rw[n]at this;exact acH.1 this
  .refine Am (d:=d) g hex B hu hz _ ⟨mG ops st,[],[]⟩ _ nd ms J ops.length _ (fun _=>0) a _ h hn ⟨aC,m,hA.path,?_,hA.defers,?_,?_,?_,?_,?_,?_,?_,?_,?_,?_,?_,?_⟩ ?_ ?_
   .rw[hA.size];simp [mG]
   .intro t u p;exact Or.inr (hA.tmp t u (Gr p).1)
   .grind
   .grind
   .grind
   .grind
   .grind
   .grind
   .intro j D _ t u q p;exact(Gr p).2 j D q
   .grind
   .grind
   .grind
   .grind
   .unfold KA;simp_all
   .intro r st' v J' a' w' x c hg y A;simp only at c;split at c
    .exact hk r st' v J' a' w' x c hg y A
    .cases c
 .cases h
end
def vG {k:Nat} : ∀ {l:List Hl},(bY l).mem k↔∃ H∈l,H.mem k
 | []=>by simp [bY,Hl.mem,Hl.none]
 | a::l=>by
  show(a.un (bY l)).mem k↔_;rw[Hl.cG,vG];simp
def vH {w:World} : ∀ {l:List Hl},(∀ H∈l,H.sub w)->(bY l).sub w
 | [],_=>fun _ _ h=>by cases h
 | a::l,h=>Hl.Kz (h a aC) (vH fun H b=>h H (by simp [b]))
def Hl.Ba {a b:Hl} {w:World} (h:a.le b) (hs:b.sub w):a.sub w:=fun k o hk=>hs k o (h k o hk)
variable {B F R h:Hl}
def Hl.bV {a b:Hl} (h:a.le b) (hk:a.mem k):b.mem k:=by
 unfold Hl.mem at hk ⊢;obtain⟨o,ho⟩:=acH.1 hk;rw[h k o ho];rfl
def Hl.le_refl (a:Hl):a.le a:=fun _ _ h=>h
def Hl.aV (a b:Hl):a.le (a.un b):=fun k o h=>by unfold Hl.un;rw[h];rfl
def Hl.bg {a b:Hl} (d:a.bq b):b.le (a.un b):=fun k o h=>by
 unfold Hl.un;cases c:a k with
 | some x=>exact absurd ⟨by unfold Hl.mem;rw[c];rfl,by unfold Hl.mem;rw[h];rfl⟩ (d k)
 | none=>exact h
def Hl.qu {a b:Hl} {o:Obj} (h:a k=some o):(a.un b) k=some o:=by unfold Hl.un;rw[h];rfl
def Hl.sf {a b:Hl} (h:¬a.mem k):(a.un b) k=b k:=by
 unfold Hl.un;cases c:a k with
 | some x=>exact absurd (by unfold Hl.mem;rw[c];rfl) h
 | none=>rfl
def Hl.Al {a b c:Hl} (h1:a.bq b) (d:a.bq c):a.bq (b.un c):=fun k ⟨x,y⟩=>by
 rcases Hl.cG.1 y with y | y
 .exact h1 k ⟨x,y⟩
 .exact d k ⟨x,y⟩
def Hl.Aj {a b c:Hl} (h:a.bq b) (d:c.le b):a.bq c:=fun k ⟨x,y⟩=>h k ⟨x,Hl.bV d y⟩
def Hl.Ak (a:Hl):a.bq Hl.none:=fun k ⟨_,y⟩=>by trivial
theorem Hl.fL {o:Obj} : (Hl.one b o).bq h↔¬h.mem b:=by
 constructor
 .exact fun d hb=>d b ⟨Hl.cn.2 rfl,hb⟩
 .exact fun d k ⟨x,y⟩=>by rw[Hl.cn]at x;grind
theorem Hl.iQ (a:Hl):a.un Hl.none=a:=by
 funext k;unfold Hl.un Hl.none;grind
def aJ (a:Hl):bY [a]=a:=Hl.iQ a
def rO (J:Env) (mem:Mem) (p:Nat):Hl:=match mem[p]? with
 | some r=>r.hl J
 | none=>Hl.none
def uY (J:Env) (mem:Mem) (f:List Nat):Hl:=bY (f.map (rO J mem))
def Db (mem:Mem) (gs:List (List Nat)) (f:List Nat):Bool :=
 ((gs.flatten++f).all fun p=>match mem[p]? with | some r=>r.own | none=>false)&&decide (gs.flatten++f).Nodup
section
variable {P:Program} {J:Env} {mem:Mem} {w w':World} {Hs Rs:List Hl}
theorem Fg {f:List Nat} : (uY J mem f).mem b↔∃ p∈f,(rO J mem p).mem b:=by
 unfold uY;rw[vG]
 grind
def Mt (hd:∀ (p q:Nat) r s,p≠q->mem[p]?=some r->mem[q]?=some s->r.own=true->(r.hl J).bq (s.hl J)) {f g:List Nat}
 (hf:∀ p∈f,∃ r,mem[p]?=some r/\r.own=true) (hg:∀ p∈g,∃ r,mem[p]?=some r/\r.own=true) (c:∀ p∈f,∀ q∈g,p≠q):(uY J mem f).bq (uY J mem g):=by
 intro b ⟨h1,a⟩;obtain⟨p,hp,h1⟩:=Fg.1 h1;obtain⟨q,d,a⟩:=Fg.1 a;obtain⟨r,hr,ho⟩:=hf p hp;obtain⟨s,hs,_⟩:=hg q d;unfold rO at h1 a;rw[hr]at h1;rw[hs]at a;exact hd p q r s (c p hp q d) hr hs ho b ⟨h1,a⟩
def fq.of (hm:MRel (fun b=>∃ H∈Hs,H.mem b) w J mem w') {gs:List (List Nat)} {f:List Nat} (hl:gs.length=Hs.length) (hok:Db mem gs f=true) :
 fq w w' Hs (gs.map (uY J mem)) (uY J mem f):=by
 unfold Db at hok;rw[aaM,aas]at hok;obtain⟨hall,m⟩:=hok;have i:∀ p∈gs.flatten++f,∃ r,mem[p]?=some r/\r.own=true:=by
  intro p hp;have:=acd.1 hall p hp;split at this
  .rename_i r hr;exact⟨r,hr,this⟩
  .cases this
 have hg:∀ g∈gs,∀ p∈g,∃ r,mem[p]?=some r/\r.own=true:=fun g hg p hp=>i p (aei _ (agh.2 ⟨g,hg,hp⟩));have hf:∀ p∈f,∃ r,mem[p]?=some r/\r.own=true:=fun p hp=>i p (acV _ hp);have hsub:∀ l:List Nat,(∀ p∈l,∃ r,mem[p]?=some r/\r.own=true)->(uY J mem l).sub w':=by
  intro l hl;refine vH fun H d=>?_;obtain⟨p,hp,rfl⟩:=acw.1 d;obtain⟨r,hr,_⟩:=hl p hp;unfold rO;rw[hr];exact hm.sub r (aah hr)
 have j:∀ l:List Nat,(∀ p∈l,∃ r,mem[p]?=some r/\r.own=true)->∀ b,(uY J mem l).mem b->(∃ K∈Hs,K.mem b)\/w.heap.size<=b:=by
  intro l hl b hb;obtain⟨p,hp,hb⟩:=Fg.1 hb;obtain⟨r,hr,ho⟩:=hl p hp;unfold rO at hb;rw[hr]at hb;exact hm.own r (aah hr) ho b hb
 rw[List.nodup_append]at m;obtain⟨u,C,v⟩:=m;have k:gs.flatten.Pairwise (·≠·):=u;rw[List.pairwise_flatten]at k;refine⟨hm.cJ.os,hm.cJ.tape,hm.cJ.output,hm.cJ.size,fun b hb hn=>hm.cJ.block b hb (fun⟨H,d,z⟩=>hn H d z),by simp [hl],?_,hsub f hf,?_,j f hf,?_,?_⟩
 .intro H d;obtain⟨g,c,rfl⟩:=acw.1 d;exact hsub g (hg g c)
 .intro H d;obtain⟨g,c,rfl⟩:=acw.1 d;exact j g (hg g c)
 .intro p q H K A d hK;rw[abl,aaH]at d hK;obtain⟨a,B,rfl⟩:=d;obtain⟨b,hb,rfl⟩:=hK;refine Mt hm.bq (hg a (aah B)) (hg b (aah hb)) ?_;have n:=afA.1 k.2;obtain⟨hp,o⟩:=aaG.1 B;obtain⟨t,s⟩:=aaG.1 hb;rcases Nat.lt_or_gt_of_ne A with h | h
  .have:=n p q hp t h;rw[o,s]at this;exact this
  .have:=n q p t hp h;rw[o,s]at this;exact fun x hx y hy e=>this y hy x hx e.symm
 .intro H d;obtain⟨g,c,rfl⟩:=acw.1 d;exact Mt hm.bq (hg g c) hf fun p hp q t=>v p (agh.2 ⟨g,c,hp⟩) q t
structure Entry (J:Env) (mem:Mem) (Hs Rs:List Hl):Prop where
 own:∀ r∈mem,r.own=true->∃ H∈Hs,(r.hl J).le H
 ro:∀ r∈mem,r.own=false->∃ R∈Rs,(r.hl J).le R
 bq:mem.Pairwise fun r s=>r.own=true->s.own=true->(r.hl J).bq (s.hl J)
 pos:∀ r∈mem,r.pos J
theorem Entry.XX (h:Entry J mem Hs Rs) (h1:∀ H∈Hs,H.sub w) (m:∀ R∈Rs,R.sub w) (n:∀ H∈Hs,∀ R∈Rs,H.bq R):MRel (fun b=>∃ H∈Hs,H.mem b) w J mem w:=by
 refine⟨gX.refl _ _,fun r hr=>?_,fun r hr ho b hb=>?_,fun p q r s e hp l ho=>?_,h.pos⟩
 .cases ho:r.own with
  | true=>obtain⟨H,a,hle⟩:=h.own r hr ho;exact Hl.Ba hle (h1 H a)
  | false=>obtain⟨H,a,hle⟩:=h.ro r hr ho;exact Hl.Ba hle (m H a)
 .obtain⟨H,a,hle⟩:=h.own r hr ho;exact Or.inl ⟨H,a,Hl.bV hle hb⟩
 .cases hs:s.own with
  | true =>
   have f:=afA.1 h.bq;obtain⟨g,i⟩:=aaG.1 hp;obtain⟨j,k⟩:=aaG.1 l;rcases Nat.lt_or_gt_of_ne e with c | c
   .grind
   .have:=f q p j g c;rw[i,k]at this;exact Hl.kE (this hs ho)
  | false =>
   obtain⟨H,a,hle⟩:=h.own r (aah hp) ho;obtain⟨R,o,d⟩:=h.ro s (aah l) hs;exact Hl.kE (Hl.Aj (Hl.kE (Hl.Aj (n H a R o) d)) hle)
def postOf (s:Spec) (xs:List Value) (Hs Rs:List Hl):Env->Mem->TV->Prop:=fun J mem r =>
 (∀ (p q:Nat) r s,p≠q->mem[p]?=some r->mem[q]?=some s->r.own=true->(r.hl J).bq (s.hl J))->∃ gs f,gs.length=Hs.length/\Db mem gs f=true/\(∃ a,r.ev J=(jO 0 s.res).ev a/\bR 0 s.res a)/\s.post xs Hs Rs (r.ev J) (gs.map (uY J mem)) (uY J mem f)
structure aD (P:Program) (Γ:List Spec) (f:FuncId) where
 Λ:oz
 lim:Nat:=100
 fuel:Nat:=400
 args:List TV
 mem:Mem
 nv:Nat
 path:List E:=[]
def aD.V {Γ:List Spec} {f:FuncId} (W:aD P Γ f):Option Nd:=aar P Γ (dk P Γ) W.Λ W.lim W.fuel f W.args W.mem W.nv W.path
@[irreducible] def aD.oZ {Γ:List Spec} {f:FuncId} (W:aD P Γ f) (C:Ctx) (ms:Nat->Nat) (J:Env):Prop:=∃ nd,W.V=some nd/\nd.holds C ms J
theorem Spec.cM {s:Spec} {Γ:List Spec} (a:∀ t∈Γ,t.OK P)
 (h:∀ xs Hs Rs,Hs.length=s.own.length->Rs.length=s.rd.length->s.pre xs Hs Rs->∃ (W:aD P Γ s.fn) (J:Env) (inv:Nat->Env->Prop) (mu:Nat->Env->Nat),
  W.args.map (TV.ev J)=xs/\Entry J W.mem Hs Rs/\Path J W.path/\W.oZ ⟨Γ,inv,mu,postOf s xs Hs Rs⟩ (fun _=>0) J):s.OK P:=by
 intro w xs Hs Rs d g i j n k b;obtain⟨W,J,inv,mu,hx,o,hp,hn⟩:=h xs Hs Rs d g b;unfold aD.oZ at hn;obtain⟨nd,p,hn⟩:=hn;have hm:=o.XX i j k;have:=AB (C:=⟨Γ,inv,mu,postOf s xs Hs Rs⟩) a (FX (C:=⟨Γ,inv,mu,postOf s xs Hs Rs⟩) a) p hm hp hn;rw[hx]at this;refine this.mono ?_;rintro e w' ⟨J',mem',r,rfl,hg,c,l⟩;obtain⟨gs,f,hl,hok,⟨m,q,u⟩,hpost⟩:=l c.bq;refine⟨m,gs.map (uY J' mem'),uY J' mem' f,by rw[q],u,fq.of c hl hok,?_⟩
 grind
end
def aS (l:List Int):List Value:=l.map (Value.int .u8)
def bN (l:List Int):(aS l).length=l.length:=aca _
def fJ (l:List Int) (j:Nat):(aS l)[j]?=(l[j]?).map (Value.int .u8):=abl
def gQ (a b:List Int):aS (a++b)=aS a++aS b:=acm
theorem lQ {a b:List Int} (h:aS a=aS b):a=b:=by
 apply ack;intro j;have:=ach (fun l=>l[j]?) h;simp only[fJ]at this
 grind
def pz (R:Hl) (v:Value) (bs:List Int):Prop :=
 ∃ (x y:Int) (c:Nat),v=.slice (au x y) bs.length c/\0<=y/\((x= -1/\bs=[])\/(0<=x/\∀ j z,bs[j]?=some z->R.cell x.toNat (y.toNat+j)=some (.int .u8 z)))
theorem ma {x y x' y':Int} (h0:-1<=x) (hy:0<=y) (h1:-1<=x') (b:0<=y') (h:au x y=au x' y'):x=x'/\(0<=x->y=y'):=by
 rcases ad9 x 0 with hx | hx
 .have e:x= -1:=ah;subst e;rw[dr]at h;rcases ad9 x' 0 with a | a
  .grind
  .rw[av a]at h;cases h
 .rcases ad9 x' 0 with a | a
  .have e:x'= -1:=ah;subst e;rw[dr,av hx]at h;cases h
  .rw[av hx,av a]at h
   grind
theorem pz.uniq {a b:List Int} (h1:pz R v a) (d:pz R v b):a=b:=by
 obtain⟨x,y,c,rfl,hy,h1⟩:=h1;obtain⟨x',y',c',he,e,d⟩:=d;simp only[Value.slice.injEq]at he;obtain⟨hp,hl,_⟩:=he;have hx:-1<=x:=by grind
 have f:-1<=x':=by grind
 obtain⟨rfl,g⟩:=ma hx hy f e hp;rcases h1 with ⟨rfl,rfl⟩ | ⟨h0,h1⟩
 .grind
 .have:=g h0;subst this;rcases d with ⟨rfl,_⟩ | ⟨_,d⟩
  .omega
  .apply ack
   grind
def fE (R:Hl) (v:Value) (bs:List Int):Prop :=
 ∃ (x y:Int) (c:Nat),v=.slice (au x y) bs.length c/\0<=y/\(bs=[]\/(0<=x/\∀ j z,bs[j]?=some z->R.cell x.toNat (y.toNat+j)=some (.int .u8 z)))
def pz.w (h:pz R v bs):fE R v bs:=by
 obtain⟨x,y,c,hv,hy,h⟩:=h;exact⟨x,y,c,hv,hy,h.imp (·.2) id⟩
theorem fE.uniq {a b:List Int} (h1:fE R v a) (d:fE R v b):a=b:=by
 obtain⟨x,y,c,rfl,hy,h1⟩:=h1;obtain⟨x',y',c',he,e,d⟩:=d;have hl:a.length=b.length:=by simp only[Value.slice.injEq]at he;exact he.2.1
 rcases h1 with rfl | ⟨h0,h1⟩
 .grind
 .rcases d with rfl | ⟨f,d⟩
  .grind
  .refine pz.uniq (R:=R) (v:=.slice (au x y) a.length c) ⟨x,y,c,rfl,hy,Or.inr ⟨h0,h1⟩⟩ ⟨x',y',c',he,e,Or.inr ⟨f,d⟩⟩
def c9 (F:Hl) (e:TypeId) (v:Value) (bs:List Int):Prop:=aO F e 1 v bs.length (aS bs)
theorem c9.rd (h:c9 F e v bs):pz F v bs:=by
 obtain⟨hl,h⟩:=h;rcases h with ⟨rfl,hn⟩ | ⟨g,cap,cur,rfl,hg,hle,hm,hs,a⟩
 .exact⟨-1,0,0,by rw[dr,hn],ah,Or.inl ⟨rfl,aa1.1 hn⟩⟩
 .refine⟨g,0,cap,by trivial,ah,Or.inr ⟨ah,fun j z hz=>?_⟩⟩;have b:=(aaG.1 hz).1;simp only[aac,Hl.cell,hg,af7,aco];have e1:(cur.toList.take (bs.length*1))[j]?=some (.int .u8 z):=by rw[a,fJ,hz];rfl
  grind
theorem pz.at {x y l c:Int} (h:pz R (.slice (au x y) l.toNat c.toNat) bs) (hx:-1<=x) (hy:0<=y) (hl:0<=l) :
 l=bs.length/\((x= -1/\bs=[])\/(0<=x/\∀ j z,bs[j]?=some z->R.cell x.toNat (y.toNat+j)=some (.int .u8 z))):=by
 obtain⟨x',y',c',he,a,h⟩:=h;simp only[Value.slice.injEq]at he;obtain⟨hp,he,_⟩:=he;have b:-1<=x':=by grind
 obtain⟨rfl,d⟩:=ma hx hy b a hp
 grind
def dd {x:Nat} (h:∀ j z,bs[j]?=some z->R.cell x (y+j)=some (.int .u8 z)) (hn:n<=bs.length):bx R x y n=true:=by
 unfold bx;rw[acd];intro j a;have a:=acv.1 a;rw[h j _ (aad ah)];simp [bh]
theorem ug {x:Nat} (h:∀ j z,bs[j]?=some z->R.cell x (y+j)=some (.int .u8 z)):gw R x y bs.length=bs:=by
 unfold gw;apply ack;intro j;rw[abl];rcases acN j bs.length with a | a
 .rw[acf a,acr,h j _ (aad a),aad a];rfl
 grind
theorem jk {J:Env} {h:Nat} {x y:E} : ∀ (n j:Nat) (bs:List Int),bs.length=n->(∀ i z,bs[i]?=some z->(J.h h).cell (aw J x).toNat ((aw J y).toNat+(j+i))=some (.int .u8 z))->(aU h x y j (List.replicate n (Kd.int .u8))).map (CV.ev J)=aS bs
 | 0,_,bs,hl,_=>by rw[aa1.1 hl];rfl
 | n+1,j,bs,hl,a=>by
  cases bs with
  | nil=>cases hl
  | cons b bs =>
   rw[agp];simp only[aU,abW,aS,abW]
   congr 1
   .have:=a 0 b rfl;rw[acJ]at this;simp only[wx,CV.ev,fi,this,bO]
   .refine jk n (j+1) bs (by grind) fun i z hz=>?_;have:=a (i+1) z (by grind)
    grind
def wrap_i64 {n:Int} (h0:-9223372036854775808<=n) (h1:n<=9223372036854775807):IntKind.i64.wrap n=n:=by rw[IntKind.wrap_i64];omega
def Hl.zF (b y:Nat) (c:Array Value) (T:TypeId) (fr:Nat×Nat) (vs:List Value):(Hl.one b (.cells c T fr)).put b y vs=Hl.one b (.cells (bm c.toList y vs).toArray T fr):=by
 funext k
 unfold Hl.put;rw[Hl.aK];unfold Hl.one;split<;>rfl
theorem Hl.Bx (b:Nat) (o o':Obj):(Hl.one b o).setObj b o'=Hl.one b o':=by
 funext k;unfold Hl.setObj Hl.one;grind
def Hl.mP (b:Nat) (c:Array Value) (T:TypeId) (fr:Nat×Nat) (y:Nat):(Hl.one b (.cells c T fr)).cell b y=c[y]?:=by
 unfold Hl.cell;rw[Hl.aK]
def Hl.JH (b:Nat) (c:Array Value) (T:TypeId) (y n:Nat) (h:y+n<=c.size):(Hl.one b (.cells c T (0,0))).wr b y n=true:=by
 unfold Hl.wr;rw[Hl.aK];simp [h]
theorem Cz {l m:List α} {o:Nat} (h:o+m.length<=l.length):(bm l o m).length=l.length:=by
 unfold bm;grind
def Ki (l m:List Int) (o:Nat):bm (aS l) o (aS m)=aS (bm l o m):=by
 unfold bm;rw[gQ,gQ,bN];unfold aS;simp_all
theorem uP {l m:List α} {o:Nat} (h:o+m.length<=l.length):(bm l o m)[j]?=if o<=j/\j<o+m.length then m[j-o]? else l[j]?:=by
 unfold bm;by_cases h1:j<o
 .grind
 grind
def Em {A C:Hl} (h1:A.bq B) (b:A.bq C) (c:B.bq C):A.le (bY [A,B,C])/\B.le (bY [A,B,C])/\C.le (bY [A,B,C]):=by
 show A.le (A.un (B.un (C.un Hl.none)))/\B.le (A.un (B.un (C.un Hl.none)))/\C.le (A.un (B.un (C.un Hl.none)));rw[Hl.iQ];have a:A.bq (B.un C):=Hl.Al h1 b;refine⟨Hl.aV _ _,fun k o h=>Hl.bg a k o (Hl.aV _ _ k o h),fun k o h=>Hl.bg a k o (Hl.bg c k o h)⟩
def Hl.ji {a:Nat} {o p:Obj} (h:a≠b):(Hl.one a o).bq (Hl.one b p):=Hl.fL.2 fun hb=>h (Hl.cn.1 hb)
def ni (k:IntKind) (es:Array MapEntry) (l:List (Int×Value)):Prop:=es.toList.map (fun e=>(e.key,e.val))=l.map fun p=>(Value.int k p.1,p.2)
def jR (i:Int):List (Int×Value)->Nat->Option (Nat×Value)
 | [],_=>none
 | p::l,n=>if i=p.1 then some (n,p.2)else jR i l (n+1)
def yh {k:IntKind} {i:Int} : ∀ (es:List MapEntry) (l:List (Int×Value)) (n:Nat),es.map (fun e=>(e.key,e.val))=l.map (fun p=>(Value.int k p.1,p.2))->Instr.findNow (.int k) (.int k i) es n=some (jR i l n)
 | [],[],_,_=>rfl
 | [],_::_,_,h=>by cases h
 | _::_,[],_,h=>by cases h
 | e::es,p::l,n,h=>by
  simp only[abW,aae,acx]at h;obtain⟨⟨hk,hv⟩,h⟩:=h;unfold Instr.findNow jR;rw[hk];simp only[Instr.sameNow,afm];by_cases hi:i=p.1
  .simp [hi,hv]
  .have:(i==p.1)=false:=by simp [hi]
   simp only[this,aa8 hi];exact yh es l (n+1) h
def nF {k:IntKind} {es:Array MapEntry} {l:List (Int×Value)} (h:ni k es l) (i:Int):nD (.int k) (.int k i) es=some (jR i l 0):=yh _ _ 0 h
theorem Bl {i:Int} : ∀ {l:List (Int×Value)} {n:Nat},jR i l n=none↔∀ p∈l,p.1≠i
 | [],_=>by simp [jR]
 | p::l,n=>by
  unfold jR;by_cases hi:i=p.1
  .simp [hi]
  .rw[aa8 hi,Bl]
   grind
theorem Bm {i:Int} : ∀ {l:List (Int×Value)} {n j:Nat} {v:Value},jR i l n=some (j,v)->n<=j/\l[j-n]?=some (i,v)
 | [],_,_,_,h=>by cases h
 | p::l,n,j,v,h=>by
  unfold jR at h;split at h
  .grind
  .obtain⟨h1,a⟩:=Bm h
   grind
def gm (q:Env) (n:Nat):newHs q n 0=[]:=rfl
def ia (q:Env) (n:Nat):newHs q n 1=[q.h n]:=by trivial
def jF {a:α} {l:List α} : (a::l≠[])=True:=by simp
def aA:oz:=fun _=>none
def vO (ins:List Cp) (q:Env):List Value:=(bQ 0 ins).map (SV.ev q)
def kg (n:Nat) (J:Env):Ck->Prop
 | .ptr=>True/\0<=J.i (n+1)
 | .sl=>True/\0<=J.i (n+1)/\0<=J.i (n+2)/\0<=J.i (n+3)
 | .slw=>True/\0<=J.i (n+1)/\0<=J.i (n+2)/\0<=J.i (n+3)
 | _=>True
def bk:Nat->List Ck->Env->Prop
 | _,[],_=>True
 | n,k::l,J=>kg n J k/\bk (n+k.len) l J
def Tr (n:Nat) (J:Env):Cp->Prop
 | .one k=>kg n J k
 | .agg ks=>bk n ks J
def oF:Nat->List Cp->Env->Prop
 | _,[],_=>True
 | n,c::l,J=>Tr n J c/\oF (n+c.len) l J
def ir.w {J:Env} {k:Ck} (h:ir n J k):kg n J k:=by
 cases k<;>first | exact zzT | exact⟨zzT,h.2⟩
def bZ.w {J:Env} : ∀ {ks:List Ck} {n:Nat},bZ n ks J->bk n ks J
 | [],_,_=>trivial
 | _::_,_,h=>⟨h.1.w,bZ.w h.2⟩
def bR.w {J:Env} : ∀ {cs:List Cp} {n:Nat},bR n cs J->oF n cs J
 | [],_,_=>trivial
 | c::_,_,h=>⟨(match c,h.1 with | .one _,h=>ir.w h | .agg _,h=>bZ.w h),bR.w h.2⟩
def rG (f:FuncId) (ins res:List Cp) (N:List Value->Prop) (G:List Value->Value):Spec where
 fn:=f
 own:=[]
 rd:=[]
 res:=res
 pre:=fun xs _ _=>(∃ q,oF 0 ins q/\xs=vO ins q)/\N xs
 post:=fun xs _ _ v _ _=>v=G xs
def sX (res:List Cp) (v:Value):Prop:=∃ a,v=(jO 0 res).ev a/\bR 0 res a
section
variable {P:Program} {Γ:List Spec} {f:FuncId} {ins res:List Cp} {N:List Value->Prop} {G:List Value->Value}
def ko (c:∀ t∈Γ,t.OK P) (W:aD P Γ f) (l:W.args=(bQ 0 ins).map .sv) (hm:W.mem=[]) (hp:W.path=[])
 (hres:∀ q,oF 0 ins q->N (vO ins q)->sX res (G (vO ins q)))
 (h:∀ q,oF 0 ins q->N (vO ins q)->∃ inv mu,W.oZ ⟨Γ,inv,mu,fun J _ r=>r.ev J=G (vO ins q)⟩ (fun _=>0) q):(rG f ins res N G).OK P:=by
 intro w xs Hs Rs d m n o s u ⟨⟨q,k,hx⟩,hN⟩;subst hx;have e0:Hs=[]:=aa1.1 d;subst e0;obtain⟨inv,mu,hn⟩:=h q k hN;unfold aD.oZ at hn;obtain⟨nd,v,hn⟩:=hn;have g:MRel (fun _=>False) w q W.mem w:=by
  rw[hm];exact⟨gX.refl _ _,(fun r hr=>nomatch hr),(fun r hr=>nomatch hr),(fun p _ r _ _ hp=>by simp at hp),(fun r hr=>nomatch hr)⟩
 have i:Path q W.path:=by rw[hp];exact fun _ h=>nomatch h
 have:=AB (C:=⟨Γ,inv,mu,fun J _ r=>r.ev J=G (vO ins q)⟩) c (FX (C:=⟨Γ,inv,mu,fun J _ r=>r.ev J=G (vO ins q)⟩) c) v g i hn;have ex:(W.args.map (TV.ev q))=vO ins q:=by
  rw[l,adv];rfl
 rw[ex]at this;refine this.mono ?_;rintro e w' ⟨J',mem',r,rfl,hg,a,hpost⟩;obtain⟨j,h1,x⟩:=hres q k hN;refine⟨j,[],Hl.none,(by rw[hpost,h1];rfl),x,⟨a.cJ.os,a.cJ.tape,a.cJ.output,a.cJ.size,fun b hb _=>a.cJ.block b hb id,rfl,(fun _ h=>nomatch h),(fun _ _ h=>nomatch h),(fun _ h=>nomatch h),(fun b h=>by trivial),(fun p _ _ _ _ h=>by simp at h),(fun _ h=>nomatch h)⟩,?_⟩;exact h1.symm
def qj (b:Bool):sX [.one .bool] (.bool b):=⟨⟨fun _=>0,fun _=>b,fun _=>.empty,fun _=>.tuple #[],fun _=>Hl.none⟩,rfl,zzT,zzT⟩
def sY (k:IntKind) (n:Int):sX [.one (.int k)] (.int k n):=⟨⟨fun _=>n,fun _=>false,fun _=>.empty,fun _=>.tuple #[],fun _=>Hl.none⟩,rfl,zzT,zzT⟩
end
def WT:Value->List Value
 | .agg cs=>cs.toList
 | v=>[v]
def aaZ:Value->Int
 | .slice _ n _=>n
 | _=>0
def aR:List Value->List Kd->Prop
 | [],[]=>True
 | v::l,k::m=>bh (some v) k=true/\aR l m
 | _,_=>False
def jH:∀ {l:List Value} {ks:List Kd},aR l ks->l.length=ks.length
 | [],[],_=>rfl
 | _::l,_::m,h=>by simp [jH h.2]
 | [],_::_,h=>h.elim
 | _::_,[],h=>h.elim
def bd (R:Hl) (v:Value) (ks:List Kd) (rows:List (List Value)):Prop :=
 ∃ (x y:Int) (c:Nat),v=.slice (au x y) rows.length c/\0<=y/\(rows=[]\/(0<=x/\∀ (i:Nat) row,rows[i]?=some row->aR row ks/\∀ j u,row[j]?=some u->R.cell x.toNat (y.toNat+i*ks.length+j)=some u))
theorem jG {R:Hl} {x:Nat} : ∀ {row:List Value} {ks:List Kd} (y:Nat),aR row ks->(∀ j u,row[j]?=some u->R.cell x (y+j)=some u)->wz R x y ks=true
 | [],[],_,_,_=>rfl
 | v::l,k::m,y,h,a=>by
  simp only[wz,aaM];refine⟨?_,jG (y+1) h.2 fun j u hu=>?_⟩
  .have:=a 0 v rfl;rw[acJ]at this;rw[this];exact h.1
  .have:=a (j+1) u (by grind)
   grind
 | [],_::_,_,h,_=>h.elim
 | _::_,[],_,h,_=>h.elim
theorem cD {J:Env} {h:Nat} {x y:E} : ∀ (row:List Value) (ks:List Kd) (j:Nat),aR row ks->(∀ i u,row[i]?=some u->(J.h h).cell (aw J x).toNat ((aw J y).toNat+(j+i))=some u)->(aU h x y j ks).map (CV.ev J)=row
 | [],[],_,_,_=>rfl
 | v::l,k::m,j,hr,a=>by
  simp only[aU,abW];have h0:=a 0 v rfl;rw[acJ]at h0
  congr 1
  .have:=uK (h:=h) (x:=x) (y:=y) (j:=j) (k:=k) (J:=J) (by rw[zh,h0];exact hr.1)
   grind
  .refine cD l m (j+1) hr.2 fun i u hu=>?_;have:=a (i+1) u (by grind)
   grind
 | [],_::_,_,h,_=>h.elim
 | _::_,[],_,h,_=>h.elim
end Go.Sx
namespace Go.Sx.K
open Go
variable {α:Type}
structure yZ where
 c:List (List Ck)
 k:List (List Kd):=[]
 w:List (List CV):=[]
def nv:List Nat->Nat->Nat
 | [],_=>0
 | n::l,p=>n <<<p+nv l (p+20)
def nk:Nat->Nat->Nat->List Nat->Nat
 | v,_,p,[]=>p+v <<<20
 | v,q,p,k::l=>nk (v+p <<<q+(k >>>20) <<<p) (q+20) (p+k%1048576) l
def nd (t:Nat) (a ks:List Nat):Nat:=nk (t+nv a 6) (6+20*a.length) (6+20*(a.length+ks.length)) ks
def el (f:α->Nat) (l:List α):Nat:=nd l.length [] (l.map f)
def bi (n:Nat):Nat:=(10+(n.log2+1))+((n.log2+1)+n <<<10) <<<20
def eI:Int->Nat
 | .ofNat n=>bi (2*n)
 | .negSucc n=>bi (2*n+1)
def eK:IntKind->Nat
 | .i8=>0 | .i16=>1 | .i32=>2 | .i64=>3 | .u8=>4 | .u16=>5 | .u32=>6 | .u64=>7
def eO:BinOp->Nat
 | .and=>0 | .or=>1 | .xor=>2 | _=>3
def eB:Bool->Nat
 | true=>1 | false=>0
def eD:Kd->Nat
 | .int k=>eK k | .bool=>8 | .slice=>9 | .ptr=>10 | .str=>11 | .map=>12 | .any=>13
def eC:Ck->Nat
 | .int k=>eK k | .bool=>8 | .sl=>9 | .ptr=>10 | .str=>11 | .map=>12 | .any=>13 | .slw=>14
def eVa:Value->Nat
 | .nilIface=>1
 | .func (.func f) _ _=>2+f
 | _=>0
def eU (n:UInt8):Nat:=nd 0 [n.toNat] []
def eM (n:Nat):Nat:=nd 0 [n] []
def eH:Nat×Option Nat->Nat
 | (n,none)=>nd 0 [n,0] []
 | (n,some k)=>nd 0 [n,k+1] []
def abH (a:Nat):List Nat->Nat
 | b::l=>if Nat.beq a b then abH a l+1 else 0
 | []=>0
def Va:Nat->List Nat->List Nat->List Nat
 | 0,_,_=>[]
 | _+1,acc,[]=>if acc.isEmpty then []else [nd 0 (acc.length::acc) []]
 | f+1,acc,a::l =>
  let n:=abH a (a::l)
  if Nat.ble 3 n then(if acc.isEmpty then []else [nd 0 (acc.length::acc) []])++nd 1 [n,a] []::Va f [] ((a::l).drop n)else Va f (acc++[a]) l
def VD:List Nat->Nat
 | []=>nd 0 [0] []
 | a::l=>l.foldl (fun x y=>nd 2 [] [x,y]) a
def TC:List Nat->List Nat->Bool
 | [],[]=>true
 | a::l,b::m=>Nat.beq a b&&TC l m
 | _,_=>false
def eCk (K:List (List Ck)) (l:List Ck):Nat :=
 match K.findIdx? fun k=>TC (k.map eC) (l.map eC)with
 | some i=>nd 3 [i] []
 | none=>VD (Va 200 [] (l.map eC))
def eKd (K:List (List Kd)) (l:List Kd):Nat :=
 match K.findIdx? fun k=>TC (k.map eD) (l.map eD)with
 | some i=>nd 3 [i] []
 | none=>VD (Va 200 [] (l.map eD))
def eE (K:yZ):E->Nat
 | .lit a0=>nd 0 [] [eI a0]
 | .var a0=>nd 1 [a0] []
 | .add a0 a1=>nd 2 [] [eE K a0,eE K a1]
 | .sub a0 a1=>nd 3 [] [eE K a0,eE K a1]
 | .mul a0 a1=>nd 4 [] [eE K a0,eE K a1]
 | .quo a0 a1=>nd 5 [] [eE K a0,eE K a1]
 | .rem a0 a1=>nd 6 [] [eE K a0,eE K a1]
 | .wrap a0 a1=>nd 7 [eK a0] [eE K a1]
 | .bits a0 a1 a2 a3=>nd 8 [eO a0,eK a1] [eE K a2,eE K a3]
 | .shl a0 a1 a2=>nd 9 [eK a0] [eE K a1,eE K a2]
 | .shr a0 a1 a2=>nd 10 [eK a0] [eE K a1,eE K a2]
 | .tt=>nd 11 [] []
 | .ff=>nd 12 [] []
 | .bvar a0=>nd 13 [a0] []
 | .not a0=>nd 14 [] [eE K a0]
 | .and a0 a1=>nd 15 [] [eE K a0,eE K a1]
 | .or a0 a1=>nd 16 [] [eE K a0,eE K a1]
 | .ite a0 a1 a2=>nd 17 [] [eE K a0,eE K a1,eE K a2]
 | .lt a0 a1=>nd 18 [] [eE K a0,eE K a1]
 | .le a0 a1=>nd 19 [] [eE K a0,eE K a1]
 | .eq a0 a1=>nd 20 [] [eE K a0,eE K a1]
 | .beq a0 a1=>nd 21 [] [eE K a0,eE K a1]
 | .hI a0 a1 a2 a3=>nd 22 [a0,a3] [eE K a1,eE K a2]
 | .hB a0 a1 a2 a3=>nd 23 [a0,a3] [eE K a1,eE K a2]
 | .hP a0 a1 a2 a3 a4=>nd 24 [a0,a3,a4] [eE K a1,eE K a2]
 | .hS a0 a1 a2 a3=>nd 25 [a0,a3] [eE K a1,eE K a2]
 | .his a0 a1 a2 a3 a4=>nd 26 [a0,a3,eD a4] [eE K a1,eE K a2]
 | .svar a0=>nd 27 [a0] []
 | .slit a0=>nd 28 [] [el eU a0.data.toList]
 | .scat a0 a1=>nd 29 [] [eE K a0,eE K a1]
 | .sbyte a0=>nd 30 [] [eE K a0]
 | .sof a0 a1 a2 a3=>nd 31 [a0] [eE K a1,eE K a2,eE K a3]
 | .slen a0=>nd 32 [] [eE K a0]
 | .sat a0 a1=>nd 33 [] [eE K a0,eE K a1]
 | .sext a0 a1 a2=>nd 34 [] [eE K a0,eE K a1,eE K a2]
 | .seq a0 a1=>nd 35 [] [eE K a0,eE K a1]
 | .slt a0 a1=>nd 36 [] [eE K a0,eE K a1]
 | .hmlen a0 a1=>nd 37 [a0] [eE K a1]
 | .vint a0=>nd 38 [a0] []
 | .hby a0 a1 a2 a3=>nd 39 [a0] [eE K a1,eE K a2,eE K a3]
 | .hism a0 a1=>nd 40 [a0] [eE K a1]
 | .hks a0 a1 a2 a3=>nd 41 [a0] [eE K a1,eE K a2,eKd K.k a3]
def eV (K:yZ):CV->Nat
 | .int a0 a1=>nd 0 [eK a0] [eE K a1]
 | .bool a0=>nd 1 [] [eE K a0]
 | .str a0=>nd 2 [] [eE K a0]
 | .pti a0 a1 a2 a3 a4=>nd 3 [a0,a1,a2,a3] [eE K a4]
 | .hptr a0 a1=>nd 4 [] [eE K a0,eE K a1]
 | .sl a0 a1 a2 a3=>nd 5 [] [eE K a0,eE K a1,eE K a2,eE K a3]
 | .map a0=>nd 6 [] [eE K a0]
 | .vr a0=>nd 7 [a0] []
 | .hv a0 a1 a2 a3=>nd 8 [a0,a3] [eE K a1,eE K a2]
 | .val a0=>nd 9 [eVa a0] []
 | .clo a0 a1=>nd 10 [a0] [eE K a1]
 | .clo2 a0 a1 a2=>nd 11 [a0] [eE K a1,eE K a2]
def Z7 (n:Nat):CV->Option Ck
 | .int k (.var m)=>if Nat.beq m n then some (.int k)else none
 | .bool (.bvar m)=>if Nat.beq m n then some .bool else none
 | .str (.svar m)=>if Nat.beq m n then some .str else none
 | .sl (.var a) (.var b) (.var c) (.var d)=>if Nat.beq a n&&Nat.beq b (n+1)&&Nat.beq c (n+2)&&Nat.beq d (n+3)then some .sl else none
 | .hptr (.var a) (.var b)=>if Nat.beq a n&&Nat.beq b (n+1)then some .ptr else none
 | .map (.var a)=>if Nat.beq a n then some .map else none
 | _=>none
def ab5:CV->Nat
 | .int _ (.var m)=>m | .bool (.bvar m)=>m | .str (.svar m)=>m | .sl (.var a) _ _ _=>a | .hptr (.var a) _=>a | .map (.var a)=>a
 | _=>0
def abJ (n:Nat):List CV->List Ck
 | c::l=>match Z7 n c with
  | some k=>k::abJ (n+k.len) l
  | none=>[]
 | []=>[]
def YD (h:Nat) (x y:E) (j:Nat):CV->Option Kd
 | .int k (.hI a b c d)=>if Nat.beq a h&&decide (b=x)&&decide (c=y)&&Nat.beq d j then some (.int k)else none
 | .bool (.hB a b c d)=>if Nat.beq a h&&decide (b=x)&&decide (c=y)&&Nat.beq d j then some .bool else none
 | .str (.hS a b c d)=>if Nat.beq a h&&decide (b=x)&&decide (c=y)&&Nat.beq d j then some .str else none
 | .sl (.hP a b c d 0) (.hP _ _ _ d1 1) (.hP _ _ _ d2 2) (.hP _ _ _ d3 3)=>if Nat.beq a h&&decide (b=x)&&decide (c=y)&&Nat.beq d j&&Nat.beq d1 j&&Nat.beq d2 j&&Nat.beq d3 j then some .slice else none
 | .hv a b c d=>if Nat.beq a h&&decide (b=x)&&decide (c=y)&&Nat.beq d j then some .any else none
 | _=>none
def RP (h:Nat) (x y:E) (j:Nat):List CV->List Kd
 | c::l=>match YD h x y j c with
  | some k=>k::RP h x y (j+1) l
  | none=>[]
 | []=>[]
def Hz:CV->Option (Nat×E×E)
 | .int _ (.hI a b c 0) | .bool (.hB a b c 0) | .str (.hS a b c 0) | .sl (.hP a b c 0 0) _ _ _ | .hv a b c 0=>some (a,b,c)
 | _=>none
def abI (a:CV):List CV->Nat
 | b::l=>if M3 a b then abI a l+1 else 0
 | []=>0
def Sl (K:yZ):Nat->List Nat->List CV->List Nat
 | 0,_,_=>[]
 | _+1,acc,[]=>if acc.isEmpty then []else [nd 0 [] [nd acc.length [] acc]]
 | f+1,acc,c::l =>
  let pre:=if acc.isEmpty then []else [nd 0 [] [nd acc.length [] acc]]
  let n1:=abI c (c::l)
  let rr:=match Hz c with
   | some (a,x,y)=>RP a x y 0 (c::l)
   | none=>[]
  let b:=abJ (ab5 c) (c::l)
  if Nat.ble 6 rr.length&&Nat.blt n1 9 then
   pre++(match Hz c with
    | some (a,x,y)=>nd 2 [a] [eE K x,eE K y,eKd K.k rr]
    | none=>0)::Sl K f [] ((c::l).drop rr.length)
  else if Nat.ble 6 b.length&&Nat.blt n1 9 then pre++nd 1 [ab5 c] [eCk K.c b]::Sl K f [] ((c::l).drop b.length)
  else if Nat.ble 9 n1 then pre++nd 3 [n1] [eV K c]::Sl K f [] ((c::l).drop n1)
  else Sl K f (acc++[eV K c]) l
def eW (K:yZ) (f:Nat) (l:List CV):Nat :=
 match K.w.findIdx? fun k=>Zb M3 k l with
 | some i=>nd 5 [i] []
 | none=>match Sl K f [] l with
  | []=>nd 0 [] [nd 0 [] []]
  | a::r=>r.foldl (fun x y=>nd 4 [] [x,y]) a
def eA (K:yZ) (a:As):Nat:=nd 0 [a.n,a.k] [eV K a.c]
def HG:List Ck->List As->List CV
 | .sl::ks,a::b::c::d::l=>(match a.c,b.c,c.c,d.c with | .int _ x,.int _ y,.int _ z,.int _ w=>CV.sl x y z w | _,_,_,_=>.vr 0)::HG ks l
 | .slw::ks,a::b::c::d::l=>(match a.c,b.c,c.c,d.c with | .int _ x,.int _ y,.int _ z,.int _ w=>CV.sl x y z w | _,_,_,_=>.vr 0)::HG ks l
 | .int k::ks,a::l=>(match a.c with | .int _ e=>CV.int k e | c=>c)::HG ks l
 | _::ks,a::l=>a.c::HG ks l
 | _,_=>[]
def hn:List As->Nat
 | a::_=>a.n | []=>0
def adC (K:yZ) (l:List As) (ks:List Ck):Bool:=Nat.ble 20 (aQ ks)&&Nat.ble (aQ ks) l.length&&TC (((mL (hn (l.drop (l.length-aQ ks))) (aj (hn (l.drop (l.length-aQ ks))) ks) (HG ks (l.drop (l.length-aQ ks)))).getD []).map (eA K)) ((l.drop (l.length-aQ ks)).map (eA K))
def eAl (K:yZ) (l:List As):Nat :=
 match K.c.findIdx? (adC K l)with
 | some i=>nd 1 [hn (l.drop (l.length-aQ (K.c.getD i []))),i] [el (eA K) (l.take (l.length-aQ (K.c.getD i []))),eW K 200 (HG (K.c.getD i []) (l.drop (l.length-aQ (K.c.getD i []))))]
 | none=>nd 0 [] [el (eA K) l]
def eS (K:yZ):SV->Nat
 | .one a0=>nd 0 [] [eV K a0]
 | .agg a0=>nd 1 [] [eW K 200 a0]
def eT (K:yZ):TV->Nat
 | .sv a0=>nd 0 [] [eS K a0]
 | .tup a0=>nd 1 [] [el (eS K) a0]
def eR (K:yZ):bo->Nat
 | .bc a0 a1 a2=>nd 0 [a0,a2] [eW K 200 a1]
 | .hp a0 a1 a2 a3=>nd 1 [a0] [el eM a1,el (eE K) a2,el (eE K) a3]
 | .ro a0 a1 a2=>nd 2 [a0,eB a2] [el (eE K) a1]
 | .dead=>nd 3 [] []
def eQ (K:yZ):Src->Nat
 | .cvs a0 a1=>nd 0 [a1] [eW K 200 a0]
 | .seg a0 a1 a2 a3=>nd 1 [a0] [eE K a1,eE K a2,eE K a3]
def eX (K:yZ):X->Nat
 | .alloc a0=>nd 0 [a0] []
 | .put a0 a1 a2 a3 a4=>nd 1 [a0,a1] [eE K a2,eE K a3,eW K 200 a4]
 | .app a0 a1 a2 a3 a4 a5 a b=>nd 2 [a0,a1,a2,a3] [eV K a4,eE K a5,eR K a,eQ K b]
 | .grow a0 a1 a2 a3 a4 a5 a b=>nd 3 [a0,a1,a2,a3,a5,a] [eW K 200 a4,eQ K b]
 | .mk a0 a1 a2 a3 a4=>nd 4 [a0,a1,a3] [eW K 200 a2,eE K a4]
 | .call a0 a1 a2 a3 a4=>nd 5 [a0,a1] [el (eT K) a2,el (eR K) a3,el (eR K) a4]
 | .mnew a0=>nd 6 [a0] []
 | .mget a0 a1 a2 a3 a4 a5 a b=>nd 7 [a0,a1,eD a3,eB b] [eE K a2,eV K a4,eS K a5,eCk K.c a]
 | .mset a0 a1 a2 a3 a4 a5=>nd 8 [a0,a1,eD a3] [eE K a2,eV K a4,eS K a5]
 | .mclr a0 a1 a2=>nd 9 [a0,a1] [eE K a2]
 | .cbs a0 a1 a2 a3=>nd 10 [a0,a1,a3] [eW K 200 a2]
 | .Ub a0 a1 a2=>nd 11 [a0] [eR K a1,eR K a2]
 | .cpy a0 a1 a2 a3 a4 a5 a b d=>nd 12 [a0,a1,a5] [eE K a2,eE K a3,eE K a4,eE K a,eE K b,eE K d]
 | .OR a0 a1=>nd 13 [a0] [eR K a1]
 | .mki a0 a1 a2=>nd 14 [a0,a1] [eS K a2]
def eN (K:yZ):Nd->Nat
 | .tt=>nd 0 [] []
 | .e a0=>nd 1 [] [eE K a0]
 | .and a0 a1=>nd 2 [] [eN K a0,eN K a1]
 | .imp a0 a1=>nd 3 [] [eE K a0,eN K a1]
 | .pre a0=>nd 4 [] [eX K a0]
 | .ext a0 a1=>nd 5 [] [eX K a0,eN K a1]
 | .inv a0 a1 a2=>nd 6 [a0] [eAl K a1,el eH a2]
 | .back a0 a1 a2 a3=>nd 7 [a0,a1] [eAl K a2,el eH a3]
 | .havoc a0 a1 a2 a3=>nd 8 [a0,a1,a2] [eN K a3]
 | .post a0 a1=>nd 9 [] [el (eR K) a0,eT K a1]
def fl (N p:Nat):Nat:=(N >>>p)%1048576
def tg (N p:Nat):Nat:=(N >>>p)%64
def fo (N o i:Nat):Nat:=fl N (o+i)
def jo (N o i:Nat):Nat:=o+fl N (o+i)
def at' (N:Nat) (g:Nat->Nat->α) (p:Nat):α:=g p (tg N p)
def dl {α:Type} (N:Nat) (g:Nat->Nat->α) (o:Nat):Nat->Nat->List α
 | _,0=>[]
 | i,n+1=>g (o+fl N (o+(6+20*i))) (tg N (o+fl N (o+(6+20*i))))::dl N g o (i+1) n
def ls (N:Nat) (g:Nat->Nat->α) (p:Nat):List α:=dl N g p 0 (tg N p)
def zi:Nat->Nat->Int
 | n,0=>(n:Int)
 | n,_=> -((n:Int)+1)
def dI' (n:Nat):Int:=zi (n/2) (n%2)
def dI (N p:Nat):Int:=dI' ((N >>>(p+10))%2 ^ ((N >>>p)%1024))
def dK:Nat->IntKind
 | 0=>.i8 | 1=>.i16 | 2=>.i32 | 3=>.i64 | 4=>.u8 | 5=>.u16 | 6=>.u32 | _=>.u64
def dO:Nat->BinOp
 | 0=>.and | 1=>.or | 2=>.xor | _=>.andNot
def dB:Nat->Bool
 | 0=>false | _=>true
def dD:Nat->Kd
 | 0=>.int .i8 | 1=>.int .i16 | 2=>.int .i32 | 3=>.int .i64 | 4=>.int .u8 | 5=>.int .u16 | 6=>.int .u32 | 7=>.int .u64 | 8=>.bool | 9=>.slice | 10=>.ptr | 11=>.str | 12=>.map | _=>.any
def dC:Nat->Ck
 | 0=>.int .i8 | 1=>.int .i16 | 2=>.int .i32 | 3=>.int .i64 | 4=>.int .u8 | 5=>.int .u16 | 6=>.int .u32 | 7=>.int .u64 | 8=>.bool | 9=>.sl | 10=>.ptr | 11=>.str | 12=>.map | 13=>.any | _=>.slw
def dVa:Nat->Value
 | 0=>.nilFunc | 1=>.nilIface | n+2=>.func (.func n) #[] #[]
def dU (N o _t:Nat):UInt8:=UInt8.ofNat (fl N (o+6))
def dM (N o _t:Nat):Nat:=fl N (o+6)
def dop:Nat->Option Nat
 | 0=>none | k+1=>some k
def dH (N o _t:Nat):Nat×Option Nat:=(fl N (o+6),dop (fl N (o+26)))
def gt {α:Type} : List (List α)->Nat->List α
 | [],_=>[] | a::_,0=>a | _::l,n+1=>gt l n
def dns {α:Type} (N:Nat) (g:Nat->α) (o:Nat):Nat->Nat->List α
 | _,0=>[]
 | i,n+1=>g (fl N (o+(26+20*i)))::dns N g o (i+1) n
def dCk (K:List (List Ck)) (N:Nat):Nat->Nat->Nat->List Ck
 | _+1,o,0=>dns N dC o 0 (fl N (o+6))
 | _+1,o,1=>List.replicate (fl N (o+6)) (dC (fl N (o+26)))
 | f+1,o,2=>at' N (dCk K N f) (o+46)++at' N (dCk K N f) (jo N o 26)
 | _,o,_=>gt K (fl N (o+6))
def dKd (K:List (List Kd)) (N:Nat):Nat->Nat->Nat->List Kd
 | _+1,o,0=>dns N dD o 0 (fl N (o+6))
 | _+1,o,1=>List.replicate (fl N (o+6)) (dD (fl N (o+26)))
 | f+1,o,2=>at' N (dKd K N f) (o+46)++at' N (dKd K N f) (jo N o 26)
 | _,o,_=>gt K (fl N (o+6))
def dE (K:yZ) (N:Nat):Nat->Nat->Nat->E
 | f+1,o,0=>.lit (dI N (o+26))
 | f+1,o,1=>.var (fo N o 6)
 | f+1,o,2=>.add (at' N (dE K N f) (o+46)) (at' N (dE K N f) (jo N o 26))
 | f+1,o,3=>.sub (at' N (dE K N f) (o+46)) (at' N (dE K N f) (jo N o 26))
 | f+1,o,4=>.mul (at' N (dE K N f) (o+46)) (at' N (dE K N f) (jo N o 26))
 | f+1,o,5=>.quo (at' N (dE K N f) (o+46)) (at' N (dE K N f) (jo N o 26))
 | f+1,o,6=>.rem (at' N (dE K N f) (o+46)) (at' N (dE K N f) (jo N o 26))
 | f+1,o,7=>.wrap (dK (fo N o 6)) (at' N (dE K N f) (o+46))
 | f+1,o,8=>.bits (dO (fo N o 6)) (dK (fo N o 26)) (at' N (dE K N f) (o+86)) (at' N (dE K N f) (jo N o 66))
 | f+1,o,9=>.shl (dK (fo N o 6)) (at' N (dE K N f) (o+66)) (at' N (dE K N f) (jo N o 46))
 | f+1,o,10=>.shr (dK (fo N o 6)) (at' N (dE K N f) (o+66)) (at' N (dE K N f) (jo N o 46))
 | f+1,o,11=>.tt
 | f+1,o,12=>.ff
 | f+1,o,13=>.bvar (fo N o 6)
 | f+1,o,14=>.not (at' N (dE K N f) (o+26))
 | f+1,o,15=>.and (at' N (dE K N f) (o+46)) (at' N (dE K N f) (jo N o 26))
 | f+1,o,16=>.or (at' N (dE K N f) (o+46)) (at' N (dE K N f) (jo N o 26))
 | f+1,o,17=>.ite (at' N (dE K N f) (o+66)) (at' N (dE K N f) (jo N o 26)) (at' N (dE K N f) (jo N o 46))
 | f+1,o,18=>.lt (at' N (dE K N f) (o+46)) (at' N (dE K N f) (jo N o 26))
 | f+1,o,19=>.le (at' N (dE K N f) (o+46)) (at' N (dE K N f) (jo N o 26))
 | f+1,o,20=>.eq (at' N (dE K N f) (o+46)) (at' N (dE K N f) (jo N o 26))
 | f+1,o,21=>.beq (at' N (dE K N f) (o+46)) (at' N (dE K N f) (jo N o 26))
 | f+1,o,22=>.hI (fo N o 6) (at' N (dE K N f) (o+86)) (at' N (dE K N f) (jo N o 66)) (fo N o 26)
 | f+1,o,23=>.hB (fo N o 6) (at' N (dE K N f) (o+86)) (at' N (dE K N f) (jo N o 66)) (fo N o 26)
 | f+1,o,24=>.hP (fo N o 6) (at' N (dE K N f) (o+106)) (at' N (dE K N f) (jo N o 86)) (fo N o 26) (fo N o 46)
 | f+1,o,25=>.hS (fo N o 6) (at' N (dE K N f) (o+86)) (at' N (dE K N f) (jo N o 66)) (fo N o 26)
 | f+1,o,26=>.his (fo N o 6) (at' N (dE K N f) (o+106)) (at' N (dE K N f) (jo N o 86)) (fo N o 26) (dD (fo N o 46))
 | f+1,o,27=>.svar (fo N o 6)
 | f+1,o,28=>.slit ⟨(dl N (dU N) (o+26) 0 (tg N (o+26))).toArray⟩
 | f+1,o,29=>.scat (at' N (dE K N f) (o+46)) (at' N (dE K N f) (jo N o 26))
 | f+1,o,30=>.sbyte (at' N (dE K N f) (o+26))
 | f+1,o,31=>.sof (fo N o 6) (at' N (dE K N f) (o+86)) (at' N (dE K N f) (jo N o 46)) (at' N (dE K N f) (jo N o 66))
 | f+1,o,32=>.slen (at' N (dE K N f) (o+26))
 | f+1,o,33=>.sat (at' N (dE K N f) (o+46)) (at' N (dE K N f) (jo N o 26))
 | f+1,o,34=>.sext (at' N (dE K N f) (o+66)) (at' N (dE K N f) (jo N o 26)) (at' N (dE K N f) (jo N o 46))
 | f+1,o,35=>.seq (at' N (dE K N f) (o+46)) (at' N (dE K N f) (jo N o 26))
 | f+1,o,36=>.slt (at' N (dE K N f) (o+46)) (at' N (dE K N f) (jo N o 26))
 | f+1,o,37=>.hmlen (fo N o 6) (at' N (dE K N f) (o+46))
 | f+1,o,38=>.vint (fo N o 6)
 | f+1,o,39=>.hby (fo N o 6) (at' N (dE K N f) (o+86)) (at' N (dE K N f) (jo N o 46)) (at' N (dE K N f) (jo N o 66))
 | f+1,o,40=>.hism (fo N o 6) (at' N (dE K N f) (o+46))
 | f+1,o,41=>.hks (fo N o 6) (at' N (dE K N f) (o+86)) (at' N (dE K N f) (jo N o 46)) (at' N (dKd K.k N 20) (jo N o 66))
 | _,_,_=>.tt
def dV (K:yZ) (N:Nat):Nat->Nat->CV
 | o,0=>.int (dK (fo N o 6)) (at' N (dE K N 99) (o+46))
 | o,1=>.bool (at' N (dE K N 99) (o+26))
 | o,2=>.str (at' N (dE K N 99) (o+26))
 | o,3=>.pti (fo N o 6) (fo N o 26) (fo N o 46) (fo N o 66) (at' N (dE K N 99) (o+106))
 | o,4=>.hptr (at' N (dE K N 99) (o+46)) (at' N (dE K N 99) (jo N o 26))
 | o,5=>.sl (at' N (dE K N 99) (o+86)) (at' N (dE K N 99) (jo N o 26)) (at' N (dE K N 99) (jo N o 46)) (at' N (dE K N 99) (jo N o 66))
 | o,6=>.map (at' N (dE K N 99) (o+26))
 | o,7=>.vr (fo N o 6)
 | o,8=>.hv (fo N o 6) (at' N (dE K N 99) (o+86)) (at' N (dE K N 99) (jo N o 66)) (fo N o 26)
 | o,9=>.val (dVa (fo N o 6))
 | o,10=>.clo (fo N o 6) (at' N (dE K N 99) (o+46))
 | o,11=>.clo2 (fo N o 6) (at' N (dE K N 99) (o+66)) (at' N (dE K N 99) (jo N o 46))
 | _,_=>.vr 0
def dW (K:yZ) (N:Nat):Nat->Nat->Nat->List CV
 | _+1,o,0=>ls N (dV K N) (o+26)
 | _+1,o,1=>aj (fl N (o+6)) (at' N (dCk K.c N 20) (o+46))
 | _+1,o,2=>aU (fl N (o+6)) (at' N (dE K N 99) (o+86)) (at' N (dE K N 99) (jo N o 46)) 0 (at' N (dKd K.k N 20) (jo N o 66))
 | _+1,o,3=>List.replicate (fl N (o+6)) (at' N (dV K N) (o+46))
 | f+1,o,4=>at' N (dW K N f) (o+46)++at' N (dW K N f) (jo N o 26)
 | _,o,_=>gt K.w (fo N o 6)
def dA (K:yZ) (N o _t:Nat):As:=⟨fl N (o+6),fl N (o+26),at' N (dV K N) (o+66)⟩
def dAl (K:yZ) (N:Nat):Nat->Nat->List As
 | o,0=>ls N (dA K N) (o+26)
 | o,_=>ls N (dA K N) (o+86)++(mL (fo N o 6) (aj (fo N o 6) (gt K.c (fo N o 26))) (at' N (dW K N 60) (jo N o 66))).getD []
def dS (K:yZ) (N:Nat):Nat->Nat->SV
 | o,0=>.one (at' N (dV K N) (o+26))
 | o,1=>.agg (at' N (dW K N 60) (o+26))
 | _,_=>.agg []
def dT (K:yZ) (N:Nat):Nat->Nat->TV
 | o,0=>.sv (at' N (dS K N) (o+26))
 | o,1=>.tup (ls N (dS K N) (o+26))
 | _,_=>.tup []
def dR (K:yZ) (N:Nat):Nat->Nat->bo
 | o,0=>.bc (fo N o 6) (at' N (dW K N 60) (o+66)) (fo N o 26)
 | o,1=>.hp (fo N o 6) (ls N (dM N) (o+86)) (ls N (dE K N 99) (jo N o 46)) (ls N (dE K N 99) (jo N o 66))
 | o,2=>.ro (fo N o 6) (ls N (dE K N 99) (o+66)) (dB (fo N o 26))
 | o,3=>.dead
 | _,_=>.dead
def dQ (K:yZ) (N:Nat):Nat->Nat->Src
 | o,0=>.cvs (at' N (dW K N 60) (o+46)) (fo N o 6)
 | o,1=>.seg (fo N o 6) (at' N (dE K N 99) (o+86)) (at' N (dE K N 99) (jo N o 46)) (at' N (dE K N 99) (jo N o 66))
 | _,_=>.cvs [] 0
def dX (K:yZ) (N:Nat):Nat->Nat->X
 | o,0=>.alloc (fo N o 6)
 | o,1=>.put (fo N o 6) (fo N o 26) (at' N (dE K N 99) (o+106)) (at' N (dE K N 99) (jo N o 66)) (at' N (dW K N 60) (jo N o 86))
 | o,2=>.app (fo N o 6) (fo N o 26) (fo N o 46) (fo N o 66) (at' N (dV K N) (o+166)) (at' N (dE K N 99) (jo N o 106)) (at' N (dR K N) (jo N o 126)) (at' N (dQ K N) (jo N o 146))
 | o,3=>.grow (fo N o 6) (fo N o 26) (fo N o 46) (fo N o 66) (at' N (dW K N 60) (o+166)) (fo N o 86) (fo N o 106) (at' N (dQ K N) (jo N o 146))
 | o,4=>.mk (fo N o 6) (fo N o 26) (at' N (dW K N 60) (o+106)) (fo N o 46) (at' N (dE K N 99) (jo N o 86))
 | o,5=>.call (fo N o 6) (fo N o 26) (ls N (dT K N) (o+106)) (ls N (dR K N) (jo N o 66)) (ls N (dR K N) (jo N o 86))
 | o,6=>.mnew (fo N o 6)
 | o,7=>.mget (fo N o 6) (fo N o 26) (at' N (dE K N 99) (o+166)) (dD (fo N o 46)) (at' N (dV K N) (jo N o 106)) (at' N (dS K N) (jo N o 126)) (at' N (dCk K.c N 20) (jo N o 146)) (dB (fo N o 66))
 | o,8=>.mset (fo N o 6) (fo N o 26) (at' N (dE K N 99) (o+126)) (dD (fo N o 46)) (at' N (dV K N) (jo N o 86)) (at' N (dS K N) (jo N o 106))
 | o,9=>.mclr (fo N o 6) (fo N o 26) (at' N (dE K N 99) (o+66))
 | o,10=>.cbs (fo N o 6) (fo N o 26) (at' N (dW K N 60) (o+86)) (fo N o 46)
 | o,11=>.Ub (fo N o 6) (at' N (dR K N) (o+66)) (at' N (dR K N) (jo N o 46))
 | o,12=>.cpy (fo N o 6) (fo N o 26) (at' N (dE K N 99) (o+186)) (at' N (dE K N 99) (jo N o 86)) (at' N (dE K N 99) (jo N o 106)) (fo N o 46) (at' N (dE K N 99) (jo N o 126)) (at' N (dE K N 99) (jo N o 146)) (at' N (dE K N 99) (jo N o 166))
 | o,13=>.OR (fo N o 6) (at' N (dR K N) (o+46))
 | o,14=>.mki (fo N o 6) (fo N o 26) (at' N (dS K N) (o+66))
 | _,_=>.alloc 0
def dN (K:yZ) (N:Nat):Nat->Nat->Nat->Nd
 | f+1,o,0=>.tt
 | f+1,o,1=>.e (at' N (dE K N 99) (o+26))
 | f+1,o,2=>.and (at' N (dN K N f) (o+46)) (at' N (dN K N f) (jo N o 26))
 | f+1,o,3=>.imp (at' N (dE K N 99) (o+46)) (at' N (dN K N f) (jo N o 26))
 | f+1,o,4=>.pre (at' N (dX K N) (o+26))
 | f+1,o,5=>.ext (at' N (dX K N) (o+46)) (at' N (dN K N f) (jo N o 26))
 | f+1,o,6=>.inv (fo N o 6) (at' N (dAl K N) (o+66)) (ls N (dH N) (jo N o 46))
 | f+1,o,7=>.back (fo N o 6) (fo N o 26) (at' N (dAl K N) (o+86)) (ls N (dH N) (jo N o 66))
 | f+1,o,8=>.havoc (fo N o 6) (fo N o 26) (fo N o 46) (at' N (dN K N f) (o+86))
 | f+1,o,9=>.post (ls N (dR K N) (o+46)) (at' N (dT K N) (jo N o 26))
 | _,_,_=>.tt
attribute [go_sem] fl fo jo at' ls tg dl zi dI' dI dK dO dB dD dC dVa dU dM dop dH gt dns dCk dKd dE dV dW dA dAl dS dT dR dQ dX dN
def VA (n:Nat):Program:={(default:Program)with types:=#[{(default:TypeInfo)with desc:=.int .i64,methods:=#[{(default:Method)with name:= "",func:=some (n,false)}]}]}
end Go.Sx.K
namespace Go.Sx
open Go
variable {C:Ctx}{J:Env}{f:FuncId}{Γ:List Spec}{ms:Nat->Nat}{x y:Nd}{P:Program}
theorem aD.lit {W:aD P Γ f} (g:x.holds C ms J) (e:W.V=some x:=by kernel_rfl):W.oZ C ms J:=by unfold aD.oZ;grind
def aD.read {W:aD P Γ f} (a:List (List Ck)) (b:List (List Kd)) (c:List (List CV)) {n:Nat} {v:Value} (g:y.holds C ms J) (_:Sem.run (K.VA (K.eN ⟨a,b,c⟩ (W.V.getD .tt) >>>20)) (method 1 0 .nilFunc "") default=.ok (n,v) default:=by go_invoke;exact rfl)
 (_:K.dN ⟨a,b,c⟩ n 400 0 (K.tg n 0)=y:=by simp (config:={maxSteps:=10000000}) only[go_sem,Nat.reduceShiftRight,Nat.reduceMod,Nat.reduceAdd,Nat.reduceMul,Nat.reduceDiv,Nat.reducePow,Int.reduceNatCast',Int.reduceNeg,Int.reduceAdd];exact rfl)
 (e:W.V=some y:=by kernel_rfl):W.oZ C ms J:=aD.lit g e
attribute [go_sem] Nd.holds X.pre X.rel X.n Src.ok Src.len Src.iX acu abw afm afB acJ acn acO tH tE kc lh jv tG nR nu nq ik nN nS tF nP nO ke nQ aq ar bP dZ cN bL dY fi fC fT jJ gy iP fW TV.ev SV.ev CV.ev abW acI bo.hl jO Cp.sv Ck.cv bQ Cp.len Ck.len gm ia jF acF afG
end Go.Sx
namespace Go.Sx
open Go
variable {J:Env}{B F R:Hl}{c x y:Int}{a b rows:List (List Value)}{hs:List (Nat×Option Nat)}{A:List As}{ks:List Kd}{row xs:List Value}{n n0:Nat}{P:Program}{e:TypeId}{v:Value}
def bu : ∀ t∈([]:List Spec),t.OK P:=fun _ h=>by cases h
def ak {s:Spec} {l:List Spec} (h:s.OK P) (k:∀ t∈l,t.OK P):∀ t∈s::l,t.OK P:=fun t a=>(aaW.1 a).elim (fun e=>e▸h) (k t)
abbrev ba (f:Nat->Int):Env:=⟨f,fun _=>false,fun _=>.empty,fun _=>.tuple #[],fun _=>Hl.none⟩
def zzK {p:Prop} (h:p:=by kernel_rfl):p:=h
def pK {s:Spec} (ho:s.own=[]) (h:∀ w xs Rs,(∀ R∈Rs,R.sub w)->s.pre xs [] Rs->∃ v,sX s.res v/\(Calls P s.fn xs.toArray w fun e w'=>e=.returned v/\RowKit.Below w.heap.size w w')/\s.post xs [] Rs v [] Hl.none):s.OK P:=by
 intro w xs Hs Rs a f g c i j hp;rw[ho]at a;have e0:Hs=[]:=aa1.1 a;subst e0;obtain⟨v,⟨d,h1,k⟩,l,hpost⟩:=h w xs Rs c hp;refine l.mono ?_;rintro e w' ⟨rfl,hb⟩;refine⟨d,[],Hl.none,(by rw[h1]),k,⟨hb.os,hb.tape,hb.output,hb.size,fun b hl _=>hb.block b hl,rfl,(fun _ h=>nomatch h),(fun _ _ h=>nomatch h),(fun _ h=>nomatch h),(fun b h=>by simp [Hl.mem,Hl.none]at h),(fun p _ _ _ _ h=>by simp at h),(fun _ h=>nomatch h)⟩,?_⟩;rw[<-h1];exact hpost
def aM (l:List Int) (b:Bool) (hs:List Hl):Env:=⟨fun k=>l.getD k 0,fun _=>b,fun _=>.empty,fun _=>.tuple #[],fun k=>hs.getD k Hl.none⟩
def jx {m:Nat} {J J':Env} (h:ai m J J'):∀ (ks:List Ck) (n:Nat),n+aQ ks<=m->bk n ks J->bk n ks J'
 | [],_,_,_=>trivial
 | k::ks,n,hm,hn=>by
  have hl:aQ (k::ks)=k.len+aQ ks:=by simp [aQ]
  rw[hl]at hm;refine⟨?_,jx h ks (n+k.len) ah hn.2⟩;have h1:=hn.1;cases k<;>simp only[kg,Ck.len]at h1 hm ⊢
  .rw[h.i (n+1)];exact h1
  .rw[h.i (n+1),h.i (n+2),h.i (n+3)];exact h1
  .rw[h.i (n+1),h.i (n+2),h.i (n+3)];exact h1
def Uf:List Ck->Bool
 | []=>true
 | k::l=>(match k with | .ptr | .sl | .map | .slw=>false | _=>true)&&Uf l
def cf:∀ (ks:List Ck) (n:Nat) (J:Env),Uf ks=true->bZ n ks J
 | [],_,_,_=>trivial
 | k::ks,n,J,h=>by
  simp only[Uf,aaM]at h;refine⟨?_,cf ks _ J h.2⟩;cases k<;>first | exact zzT | cases h.1
def fQ {a b:Env} {m:Nat} {ks:List Ck} (h:ai m a b) (hm:n+aQ ks<=m):(SV.agg (aj n ks)).ev b=(SV.agg (aj n ks)).ev a:=by
 simp only[SV.ev];rw[CV.gN (h.mono hm) _ (cV ks n)]
def gY:Ck->Kd
 | .int k=>.int k | .bool=>.bool | .str=>.str | .any=>.any | .ptr=>.ptr | .sl=>.slice | .map=>.map | .slw=>.slice
def MT (k:Ck) (n:Nat):(k.cv n).upto (n+k.len)=true:=by
 cases k<;>simp [Ck.cv,Ck.len,CV.upto,E.upto]
def Uk (k:Ck) (n:Nat) (v:Value) (J:Env) (h:bh (some v) (gY k)=true):∃ J',ai n J J'/\kg n J' k/\(k.cv n).ev J'=v:=by
 have d:bh (some v) .slice=true->∃ J',ai n J J'/\kg n J' .sl/\(Ck.sl.cv n).ev J'=v:=fun h=>by
  cases v with
  | slice a l c =>
   obtain⟨x,y,rfl,hy,_⟩:=td a;refine⟨(((J.dw n x).dw (n+1) y).dw (n+2) l).dw (n+3) c,(((bI _ _ x (ab8 _)).trans (bI _ _ y ah)).trans (bI _ _ _ ah)).trans (bI _ _ _ ah),?_,?_⟩
   .simp [kg,Env.dw];exact hy
   .simp [Ck.cv,CV.ev,ar,Env.dw]
  | _=>simp [bh]at h
 cases k with
 | int k =>
  cases v<;>simp [bh,gY]at h
  subst h;rename_i x;exact⟨J.dw n x,bI _ _ x (ab8 _),zzT,by simp [Ck.cv,CV.ev,ar,oq]⟩
 | bool =>
  cases v<;>simp [bh,gY]at h
  rename_i x;exact⟨J.Ot n x,zR _ _ x (ab8 _),zzT,by simp [Ck.cv,CV.ev,bn,Env.Ot]⟩
 | str =>
  cases v<;>simp [bh,gY]at h
  rename_i x;exact⟨J.Ve n x,IB _ _ x (ab8 _),zzT,by simp [Ck.cv,CV.ev,fW,Env.Ve]⟩
 | any=>exact⟨J.HY n v,zS _ _ v (ab8 _),zzT,by simp [Ck.cv,CV.ev,Env.HY]⟩
 | ptr =>
  have key:∀ x y:Int,-1<=x->0<=y->v=.pointer (au x y)->∃ J',ai n J J'/\kg n J' .ptr/\(Ck.ptr.cv n).ev J'=v:=by
   intro x y hx hy hv;refine⟨(J.dw n x).dw (n+1) y,(bI _ _ x (ab8 _)).trans (bI _ _ y ah),?_,?_⟩
   .simp [kg,Env.dw];exact hy
   .simp [Ck.cv,CV.ev,ar,Env.dw,hv]
  cases v with
  | pointer a =>
   cases a with
   | none=>exact key (-1) 0 ah ah rfl
   | some a =>
    obtain⟨b,o,s⟩:=a;cases s with
    | none=>exact key b o ah ah (by simp [av])
    | some s=>simp [bh,gY]at h
  | _=>simp [bh,gY]at h
 | sl=>exact d h
 | slw=>exact d h
 | map =>
  cases v with
  | map a =>
   cases a with
   | none=>exact⟨J.dw n (-1),bI _ _ _ (ab8 _),zzT,by simp [Ck.cv,CV.ev,ar,Env.dw]⟩
   | some r=>exact⟨J.dw n r,bI _ _ _ (ab8 _),zzT,by show Value.map (if(J.dw n r).i n= -1 then none else some ((J.dw n r).i n).toNat)=_;rw[oq,aa8 ah,aac]⟩
  | _=>simp [bh,gY]at h
def cE:∀ (ks:List Ck) (n:Nat) (row:List Value) (J:Env),aR row (ks.map gY)->∃ J',ai n J J'/\bk n ks J'/\(aj n ks).map (CV.ev J')=row
 | [],n,[],J,_=>⟨J,ai.refl _ _,zzT,rfl⟩
 | k::ks,n,v::row,J,h=>by
  obtain⟨a,d,n1,e1⟩:=Uk k n v J h.1;obtain⟨b,c,n2,e⟩:=cE ks (n+k.len) row a h.2;refine⟨b,d.tr c,⟨?_,n2⟩,?_⟩
  .have:=jx (ks:=[k]) (n:=n) c (by simp [aQ]) ⟨n1,zzT⟩;exact this.1
  .simp only[aj,abW,e];rw[CV.bF c _ (MT k n),e1]
 | [],_,_::_,_,h=>h.elim
 | _::_,_,[],_,h=>h.elim
def SH (k:Ck) (h:ir n J k):bh (some ((k.cv n).ev J)) (gY k)=true:=by
 cases k<;>simp only[ir]at h<;>simp only[Ck.cv,CV.ev,gY,bh,decide_true,ar]
 .rcases ad9 (J.i n) 0 with hx | hx
  .rw[show J.i n= -1 by omega,dr]
  .rw[av hx]
def RZ {J:Env} : ∀ (ks:List Ck) (n:Nat),bZ n ks J->aR ((aj n ks).map (CV.ev J)) (ks.map gY)
 | [],_,_=>trivial
 | k::ks,n,h=>⟨SH k h.1,RZ ks _ h.2⟩
def VO (n0:Nat) (l m:List CV):List As:=(mL n0 l m).getD []
def CP (n0:Nat) (A:List As) (hs:List (Nat×Option Nat)):Bool:=mg A&&A.all (fun x=>decide (n0<=x.n))&&hs.all (fun x=>decide (n0<=x.1))&&mh hs
def CC {l m:List CV} (hg:CP n0 A hs=true) (hm:(mL n0 l m).isSome=true) (hsub:∀ y∈VO n0 l m,y∈A):(SV.agg l).ev (assign J A hs)=(SV.agg m).ev J:=by
 simp only[CP,aaM]at hg;obtain⟨x,hx⟩:=acH.1 hm;have hs':∀ y∈x,y∈A:=fun y hy=>hsub y (by unfold VO;rw[hx];exact hy);simp only[SV.ev,oU hg.1.1.1 hg.1.1.2 hg.1.2 l m x hx hs']
def zV (hg:CP n0 A hs=true):ai n0 J (assign J A hs):=by
 simp only[CP,aaM]at hg;exact cX hg.1.1.2 hg.1.2
def bd.uniq (h1:bd R v ks a) (e:bd R v ks b):a=b:=by
 obtain⟨x,y,c,rfl,hy,h1⟩:=h1;obtain⟨x',y',c',he,f,e⟩:=e;simp only[Value.slice.injEq]at he;obtain⟨he,hl,rfl⟩:=he;rcases h1 with rfl | ⟨hx,h1⟩
 .exact(aa1.1 hl.symm).symm
 rcases e with rfl | ⟨l,e⟩
 .exact aa1.1 hl
 obtain⟨rfl,d⟩:=ma ah hy ah f he;have d:=d hx;subst d;apply afl hl;intro i hi g;obtain⟨k1,c1⟩:=h1 i _ (aad hi);obtain⟨k2,c2⟩:=e i _ (aad g);apply afl (by rw[jH k1,jH k2]);intro j m h;have e1:=c1 j _ (aad m);have k:=c2 j _ (aad h);rw[e1]at k;exact acE k
def bd.at {l:Int} (h:bd R (.slice (au x y) l.toNat c.toNat) ks rows) (hx:-1<=x) (hy:0<=y) (hl:0<=l) :
 l=rows.length/\∀ (i:Nat) row,rows[i]?=some row->0<=x/\aR row ks/\∀ j u,row[j]?=some u->R.cell x.toNat (y.toNat+i*ks.length+j)=some u:=by
 obtain⟨x',y',c',he,d,h⟩:=h;simp only[Value.slice.injEq]at he;obtain⟨he,hle,_⟩:=he;refine⟨ah,fun i row hi=>?_⟩;rcases h with rfl | ⟨b,h⟩
 .simp at hi
 obtain⟨rfl,a⟩:=ma hx hy ah d he;have a:=a b;subst a;exact⟨b,h i row hi⟩
def pF (F:Hl) (e:TypeId) (ks:List Kd) (v:Value) (rows:List (List Value)):Prop:=(∀ row∈rows,aR row ks)/\aO F e ks.length v rows.length rows.flatten
def pF.nil (F:Hl) (e:TypeId) (ks:List Kd):pF F e ks (.slice none 0 0) []:=⟨fun _ h=>(nomatch h),by simp [aO]⟩
def AA {α:Type} {n:Nat} : ∀ {rows:List (List α)} (_:∀ r∈rows,r.length=n) {i j:Nat} {row:List α} {u:α},rows[i]?=some row->row[j]?=some u->rows.flatten[i*n+j]?=some u
 | [],_,i,j,row,u,h,_=>by simp at h
 | r::rows,hl,0,j,row,u,h,a=>by
  simp only[acF,aa3]at h;subst h;have b:j<r.length:=(aaG.1 a).1;rw[adz,agc,aco,acb b];exact a
 | r::rows,hl,i+1,j,row,u,h,a=>by
  have hr:r.length=n:=hl r aC;have ih:=AA (rows:=rows) (fun r hr=>hl r (by simp [hr])) (i:=i) (j:=j) (row:=row) (u:=u) (by simpa using h) a;rw[adz,abO (by rw[hr,agY];omega),hr,show(i+1)*n+j-n=i*n+j by rw[agY];omega];exact ih
def pF.rd (h:pF F e ks v rows):bd F v ks rows:=by
 obtain⟨hk,hl,h⟩:=h;rcases h with ⟨rfl,hn⟩ | ⟨g,cap,cur,rfl,hg,hle,hm,hs,a⟩
 .exact⟨-1,0,0,by rw[dr,hn],ah,Or.inl (aa1.1 hn)⟩
 .refine⟨g,0,cap,by simp [av],ah,Or.inr ⟨ah,fun i row hi=>⟨hk row (aah hi),fun j u b=>?_⟩⟩⟩;have e1:=AA (n:=ks.length) (fun r hr=>jH (hk r hr)) hi b;have c:cur.toList[i*ks.length+j]?=some u:=by
   rw[<-a]at e1;rw[acC]at e1;split at e1
   .exact e1
   .cases e1
  unfold Hl.cell;rw[aac,hg];simpa using c
def pF.snoc (hk:∀ r∈rows,aR r ks) (hr:aR row ks) (h:aO F e ks.length v n xs) (hn:n=rows.length+1) (hx:xs=rows.flatten++row):pF F e ks v (rows++[row]):=by
 refine⟨fun r a=>?_,?_⟩
 .rcases acg.1 a with h | h
  .exact hk r h
  .rw[aaQ]at h;subst h;exact hr
 .subst hn;subst hx;simpa using h
def pF.app {A:Hl} {l x1 c1:Int} (ho:pF A e ks (.slice (au x 0) l.toNat c.toNat) rows) (hl:l=rows.length) (hr:aR row ks)
 (happ:∀ xs,aO A e ks.length (.slice (au x 0) l.toNat c.toNat) l.toNat xs->aO B e ks.length (.slice (au x1 0) (l.toNat+1) c1.toNat) (l.toNat+1) (xs++row)):pF B e ks (.slice (au x1 0) (l+1).toNat c1.toNat) (rows++[row]):=by
 have hn:l.toNat=rows.length:=ah;rw[show(l+1).toNat=l.toNat+1 by omega];refine pF.snoc ho.1 hr (happ rows.flatten ?_) ah rfl;have:=ho.2;rw[hn]at this ⊢;exact this
def pF.pre {A:Hl} {l:Int} (ho:pF A e ks (.slice (au x 0) l.toNat c.toNat) rows) (hl:l=rows.length):aO A e ks.length (.slice (au x 0) l.toNat c.toNat) l.toNat rows.flatten:=by
 have hn:l.toNat=rows.length:=ah;have:=ho.2;rw[hn]at this ⊢;exact this
def BN:Mem->Bool
 | []=>true
 | .ro _ _ _::l=>BN l
 | _::_=>false
def sV:∀ {mem:Mem},BN mem=true->∀ r∈mem,∃ k t a,r=.ro k t a
 | .ro k t a::l,h,r,hr=>by
  rcases aaW.1 hr with rfl | hr
  .exact⟨k,t,a,rfl⟩
  .exact sV (mem:=l) h r hr
def aT {mem:Mem} {Hs Rs:List Hl} (h1:BN mem=true) (b:mem.map (bo.hl J)=Rs):Entry J mem Hs Rs:=by
 refine⟨fun r hr ho=>?_,fun r hr _=>⟨r.hl J,by rw[<-b];exact acw.2 ⟨r,hr,rfl⟩,Hl.le_refl _⟩,?_,fun r hr=>?_⟩
 .obtain⟨k,t,a,rfl⟩:=sV h1 r hr;cases ho
 .refine afA.2 fun i j hi c _ ho=>?_;obtain⟨k,t,a,e⟩:=sV h1 mem[i] (acK hi);rw[e]at ho;cases ho
 .obtain⟨k,t,a,rfl⟩:=sV h1 r hr;trivial
def Spec.jN {s:Spec} {Γ:List Spec} (e:∀ t∈Γ,t.OK P) (h0:s.own=[])
 (h:∀ xs Rs,s.pre xs [] Rs->∃ (W:aD P Γ s.fn) (J:Env) (inv:Nat->Env->Prop) (mu:Nat->Env->Nat),
  W.args.map (TV.ev J)=xs/\Entry J W.mem [] Rs/\W.path=[]/\W.oZ ⟨Γ,inv,mu,postOf s xs [] Rs⟩ (fun _=>0) J):s.OK P :=
 Spec.cM e fun xs Hs Rs f _ hp=>by
  rw[h0]at f;obtain rfl:=aa1.1 f;obtain⟨W,J,inv,mu,a,b,c,d⟩:=h xs Rs hp;exact⟨W,J,inv,mu,a,b,by rw[c];exact fun _ h=>(nomatch h),d⟩
def OW (q:Env):Nat->List Int->Prop
 | _,[]=>True
 | k,a::l=>q.i k=a/\OW q (k+1) l
def OV (q:Env):Nat->List Hl->Prop
 | _,[]=>True
 | k,a::l=>q.h k=a/\OV q (k+1) l
def OW.of {q:Env} : ∀ {l:List Int} (k:Nat),(∀ j,q.i (k+j)=l.getD j 0)->OW q k l
 | [],_,_=>trivial
 | _::_,k,h=>⟨h 0,OW.of (k+1) fun j=>by rw[Nat.add_right_comm];exact h (j+1)⟩
def OV.of {q:Env} : ∀ {l:List Hl} (k:Nat),(∀ j,q.h (k+j)=l.getD j Hl.none)->OV q k l
 | [],_,_=>trivial
 | _::_,k,h=>⟨h 0,OV.of (k+1) fun j=>by rw[Nat.add_right_comm];exact h (j+1)⟩
def jn {l:List Int} {b:Bool} {hs:List Hl} (h:aM l b hs=J):OW J 0 l/\OV J 0 hs:=by
 subst h;exact⟨.of 0 fun j=>by rw[aco];rfl,.of 0 fun j=>by rw[aco];rfl⟩
end Go.Sx
namespace Go.Pk
open Go Go.Sx
variable {a c k m w x y:Nat}
def aF (x:Nat):List Int:=if x<128 then [(x:Int)]else((x%128+128:Nat):Int)::aF (x/128)
def tP:List Int->Nat->Nat->Option (Nat×Nat)
 | [],_,_=>none
 | c::l,n,x=>if(n=9/\1<c)\/9<n then none else if c<128 then(if c=0/\0<n then none else some (x+c.toNat*128 ^ n,n+1))else tP l (n+1) (x+(c.toNat%128)*128 ^ n)
def tO (l:List Int):Option (Nat×Nat):=tP l 0 0
def jz (h:x<128):aF x=[(x:Int)]:=by rw[aF,ab9 h]
def jW (h:¬x<128):aF x=((x%128+128:Nat):Int)::aF (x/128):=by rw[aF,aa8 h]
def C9:∀ (x:Nat),∀ b∈aF x,0<=b/\b<256:=by
 intro x
 induction x using Nat.strongRecOn with
 | _ x ih =>
  intro b hb;by_cases h:x<128
  .rw[jz h,aaQ]at hb;omega
  .rw[jW h]at hb;rcases aaW.1 hb with rfl | hb
   .omega
   .exact ih (x/128) ah b hb
def vZ (x:Nat):0<(aF x).length:=by
 by_cases h:x<128
 .rw[jz h];exact Nat.one_pos
 .rw[jW h];exact Nat.succ_pos _
def GO:∀ (k x:Nat),x<128 ^ (k+1)->(aF x).length<=k+1
 | 0,x,h=>by rw[jz (by simpa using h)];exact ab8 _
 | k+1,x,h=>by
  by_cases h1:x<128
  .rw[jz h1];simp
  .rw[jW h1,acn];have:=GO k (x/128) (by
    rw[afR]at h;exact Nat.div_lt_of_lt_mul ah)
   omega
def Rh:(128:Nat) ^ 9=9223372036854775808:=by decide
def NN (t:List Int):∀ (x n y:Nat),(0<n->0<x)->n<=9->x*128 ^ n<18446744073709551616->tP (aF x++t) n y=some (y+x*128 ^ n,n+(aF x).length):=by
 intro x
 induction x using Nat.strongRecOn with
 | _ x ih =>
  intro n y hx hn a;have b:n=9->x<=1:=fun e=>by
   subst e;rw[Rh]at a;omega
  by_cases h:x<128
  .rw[jz h];show(if(n=9/\1<(x:Int))\/9<n then none else _)=_;rw[aa8 ah,ab9 ah,aa8 ah,aac];rfl
  .rw[jW h];have c:(((x%128+128:Nat):Int)).toNat%128=x%128:=by rw[aac];omega
   show(if(n=9/\1<((x%128+128:Nat):Int))\/9<n then none else _)=_;have d:n≠9:=fun e=>by have:=b e;omega
   rw[aa8 ah,aa8 ah,c];have hmul:x/128*128 ^ (n+1)+x%128*128 ^ n=x*128 ^ n:=by
    rw[afR,<-Nat.mul_assoc,Nat.mul_right_comm,<-afu]
    congr 1
    omega
   show tP (aF (x/128)++t) (n+1) (y+x%128*128 ^ n)=_;rw[ih (x/128) ah (n+1) _ (fun _=>ah) ah ah,acn]
   congr 1
   rw[acx];omega
def oW (h:x<18446744073709551616) (t:List Int):tO (aF x++t)=some (x,(aF x).length):=by
 have:=NN t x 0 0 (fun h=>absurd h ah) ah (by simpa using h);unfold tO;rw[this];simp
def Da:∀ (l:List Int) (n y z m:Nat),(∀ b∈l,0<=b/\b<256)->tP l n y=some (z,m)->∃ x,z=y+x*128 ^ n/\n<m/\m-n<=l.length/\l.take (m-n)=aF x/\(0<n->0<x)/\x*128 ^ n<18446744073709551616
 | [],_,_,_,_,_,h=>by cases h
 | c::l,n,y,z,m,hb,h=>by
  have o:=hb c (acj ..);have hl:∀ b∈l,0<=b/\b<256:=fun b h=>hb b (abq _ h);have h:(if(n=9/\1<c)\/9<n then none else if c<128 then(if c=0/\0<n then none else some (y+c.toNat*128 ^ n,n+1))else tP l (n+1) (y+(c.toNat%128)*128 ^ n))=some (z,m):=h;split at h
  .cases h
  .rename_i v;have d:128 ^ n<=9223372036854775808:=by
    rw[<-Rh];exact afY az ah
   have a:n<9->128 ^ n<=72057594037927936:=fun hn=>by
    have:(128:Nat) ^ 8=72057594037927936:=by decide
    rw[<-this];exact afY az ah
   split at h
   .rename_i e;split at h
    .cases h
    .rename_i h0;simp only[aa3,acx]at h;obtain⟨h1,p⟩:=h;subst h1 p;refine⟨c.toNat,rfl,ah,by rw[acn];omega,?_,ah,?_⟩
     .rw[show n+1-n=1 by omega,jz ah];show [c]=_;rw[agP o.1]
     .rcases acN n 9 with hn | hn
      .have:=a hn
       calc c.toNat*128 ^ n<=127*72057594037927936:=agu ah this
        _<_:=by decide
      .have:c.toNat<=1:=ah
       calc c.toNat*128 ^ n<=1*9223372036854775808:=agu this d
        _<_:=by decide
   .rename_i e;obtain⟨x,e1,w,A,r,s,j⟩:=Da l (n+1) _ z m hl h;have hx:=s ah;have hdiv:(x*128+c.toNat%128)/128=x:=ah;have f:(x*128+c.toNat%128)%128=c.toNat%128:=ah;have hmul:(x*128+c.toNat%128)*128 ^ n=x*128 ^ (n+1)+(c.toNat%128)*128 ^ n:=by
     rw[afu,afR,Nat.mul_assoc x 128,afQ 128]
    refine⟨x*128+c.toNat%128,by rw[e1,hmul];omega,ah,by rw[acn];omega,?_,fun _=>ah,?_⟩
    .rw[show m-n=(m-(n+1))+1 by omega,List.take_succ_cons,r,jW (x:=x*128+c.toNat%128) ah,hdiv,f]
     congr 1
     omega
    .rw[hmul];have k:c.toNat%128*128 ^ n<128 ^ (n+1):=by
      rw[afR,afQ (128 ^ n)];exact Nat.mul_lt_mul_of_pos_right ah (Nat.pow_pos az)
     have t:n<9:=ah;have g:∃ q,18446744073709551616=q*128 ^ (n+1):=by
      refine⟨2 ^ (64-7*(n+1)),?_⟩;have:(18446744073709551616:Nat)=2 ^ 64:=by decide
      rw[this,show(128:Nat)=2 ^ 7 by decide,<-Nat.pow_mul,<-ag1]
      congr 1;omega
     obtain⟨q,u⟩:=g;rw[u]at j ⊢;have i:x<q:=Nat.lt_of_mul_lt_mul_right j
     calc x*128 ^ (n+1)+c.toNat%128*128 ^ n<x*128 ^ (n+1)+128 ^ (n+1):=ah
      _=(x+1)*128 ^ (n+1):=by rw[agY]
      _<=q*128 ^ (n+1):=afX _ i
def xo {l:List Int} (hb:∀ b∈l,0<=b/\b<256) (h:tO l=some (x,m)):0<m/\m<=l.length/\l.take m=aF x/\x<18446744073709551616:=by
 obtain⟨z,e1,a,c,d,_,e⟩:=Da l 0 0 x m hb h;have f:x=z:=by simpa using e1
 subst f;exact⟨a,by simpa using c,by simpa using d,by simpa using e⟩
def m9 {x:Int} (h0:0<=x) (h1:x<18446744073709551616):IntKind.u64.wrap x=x:=by
 show Int.emod x 18446744073709551616=x;exact agz h0 h1
def Wc (x:Int):IntKind.u8.wrap x=x%256:=rfl
def DY (h:x<2 ^ w):(BitVec.ofInt w (x:Int)).toNat=x:=by
 rw[BitVec.toNat_ofInt,agz ah (by exact_mod_cast h),aac]
def Pm (h:c<256):ct .and .u8 (c:Int) 127=((c%128:Nat):Int):=by
 show IntKind.u8.wrap (((BitVec.ofInt 8 (c:Int) &&&BitVec.ofInt 8 127).toNat:Nat):Int)=_;rw[BitVec.toNat_and,DY (by simpa using h),show(BitVec.ofInt 8 127).toNat=2 ^ 7-1 from rfl,Nat.and_two_pow_sub_one_eq_mod,Wc];have:c%2 ^ 7=c%128:=rfl;omega
def Tn (hx:x<18446744073709551616) (hy:y<18446744073709551616):ct .or .u64 (x:Int) (y:Int)=((x |||y:Nat):Int):=by
 show IntKind.u64.wrap (((BitVec.ofInt 64 (x:Int) |||BitVec.ofInt 64 (y:Int)).toNat:Nat):Int)=_;have a:x<2 ^ 64:=hx;have b:y<2 ^ 64:=hy;rw[agq,DY a,DY b];have:=Nat.or_lt_two_pow a b
 exact m9 (by omega) (by have e:(2:Nat) ^ 64=18446744073709551616:=by decide
                         omega)
def GW (hy:y<2 ^ k):y |||(a*2 ^ k)=y+a*2 ^ k:=by
 rw[Nat.or_comm,<-Nat.shiftLeft_eq,<-agi hy,aga]
def Uu (k:Nat):(2:Nat) ^ (7*k)=128 ^ k:=by rw[Nat.pow_mul]
def aa9 (hy:y<128 ^ k) (hk:k<=9) (b:c<256) (d:k=9->c<=1) :
 ct .or .u64 (y:Int) (IntKind.u64.wrap (IntKind.u64.wrap (ct .and .u8 (c:Int) 127)*2 ^ (min (IntKind.i64.wrap (7*(k:Int))).toNat 64)))=((y+c%128*128 ^ k:Nat):Int)/\y+c%128*128 ^ k<18446744073709551616:=by
 have a:128 ^ k<=9223372036854775808:=by
  rw[<-Rh];exact afY az hk
 have hz:c%128*128 ^ k<=9223372036854775808:=by
  rcases acN k 9 with h | h
  .have e:128 ^ k<=72057594037927936:=by
    have:(128:Nat) ^ 8=72057594037927936:=by decide
    rw[<-this];exact afY az ah
   calc c%128*128 ^ k<=127*72057594037927936:=agu ah e
    _<=_:=by decide
  .have:c%128<=1:=by have:=d ah;omega
   calc c%128*128 ^ k<=1*9223372036854775808:=agu this a
    _<=_:=by decide
 have e1:(IntKind.i64.wrap (7*(k:Int))).toNat=7*k:=by rw[wrap_i64 ah ah];omega
 have f:min (7*k) 64=7*k:=ah;rw[Pm b,e1,f,m9 (x:=((c%128:Nat):Int)) ah ah];have g:((c%128:Nat):Int)*2 ^ (7*k)=((c%128*128 ^ k:Nat):Int):=by
  rw[<-Uu];push_cast;rfl
 rw[g,m9 ah ah,Tn ah ah,<-Uu,GW (by rw[Uu];exact hy)];rw[Uu];exact⟨rfl,ah⟩
set_option maxRecDepth 20000 in
def abh:∀ v:Fin 256,v.val |||128=v.val%128+128:=by decide
def aa5 : ct .or .u8 (IntKind.u8.wrap (x:Int)) 128=((x%128+128:Nat):Int):=by
 have e:IntKind.u8.wrap (x:Int)=((x%256:Nat):Int):=by rw[Wc];omega
 rw[e];show IntKind.u8.wrap (((BitVec.ofInt 8 ((x%256:Nat):Int) |||BitVec.ofInt 8 128).toNat:Nat):Int)=_
 rw[BitVec.toNat_or,DY (w:=8) (by have e:(2:Nat) ^ 8=256:=by decide
                                  omega),show(BitVec.ofInt 8 128).toNat=128 from rfl,abh ⟨x%256,agW _ az⟩,Wc]
 show(((x%256%128+128:Nat)):Int)%256=_;omega
def aeT : ((x:Int)).fdiv (2 ^ (7:Int).toNat)=((x/128:Nat):Int):=by
 rw[aed _ az];rfl
end Go.Pk
namespace Go.Proofs.YtbdikjnpbnobcaaGreatDoor
open Go Go.Sx Go.Pk
variable {x:Int}{j k n:Nat}
abbrev dL (x:Int):Int:=IntKind.u32.wrap x
def wW (x:Int):dL x=x%4294967296:=by
 unfold dL IntKind.wrap;simp [IntKind.bits,IntKind.signed]
def okW (x:Int):Prop:=0<=x/\x<4294967296
def Cg (x:Int):okW (dL x):=by
 rw[wW];unfold okW;omega
def sg (h:okW x):dL x=x:=by
 rw[wW];unfold okW at h;omega
def tZ (x:Int):Int:=x/2+x%2*2147483648
def bC:Nat->Int->Int
 | 0,x=>x
 | n+1,x=>tZ (bC n x)
def DE (x:Nat) (hx:x<4294967296):∀ n,n<=32->bC n (x:Int)=((x/2 ^ n+x%2 ^ n*2 ^ (32-n):Nat):Int)
 | 0,_=>by
  show(x:Int)=_;have:x/2 ^ 0+x%2 ^ 0*2 ^ (32-0)=x:=by simp [Nat.mod_one]
  rw[this]
 | n+1,h=>by
  have ih:=DE x hx n ah;show tZ (bC n x)=_;rw[ih];obtain⟨T,hT⟩:∃ T,T=x/2 ^ n+x%2 ^ n*2 ^ (32-n):=⟨_,rfl⟩;rw[<-hT];have e1:tZ (T:Int)=((T/2+T%2*2147483648:Nat):Int):=by unfold tZ;omega
  rw[e1]
  congr 1
  have a:2 ^ (32-n)=2*2 ^ (31-n):=by rw[show 32-n=(31-n)+1 by omega,afR,afQ]
  have hd:x/2 ^ (n+1)=x/2 ^ n/2:=by rw[afR,Nat.div_div_eq_div_mul]
  have hm:x%2 ^ (n+1)=x%2 ^ n+2 ^ n*(x/2 ^ n%2):=by rw[afR,Nat.mod_mul]
  have hp:2 ^ n*2 ^ (31-n)=2147483648:=by rw[<-ag1,show n+(31-n)=31 by omega]
  rw[hd,hm,show 32-(n+1)=31-n by omega,afu,Nat.mul_right_comm,hp];rw[a]at hT;obtain⟨A,hA⟩:∃ A,A=x/2 ^ n:=⟨_,rfl⟩;obtain⟨B,hB⟩:∃ B,B=x%2 ^ n*2 ^ (31-n):=⟨_,rfl⟩;have hT:T=A+2*B:=by rw[hT,hA,hB,Nat.mul_left_comm]
  rw[<-hA,<-hB];omega
def Ig (h:okW x) (n:Nat) (hn:n<=32):okW (bC n x):=by
 obtain⟨h0,h1⟩:=h
 induction n with
 | zero=>exact⟨h0,h1⟩
 | succ n ih =>
  have:=ih ah;unfold okW at this ⊢;show 0<=tZ (bC n x)/\tZ (bC n x)<_;unfold tZ;omega
def RW (h:okW x) (h1:1<=n) (c:n<=31):ct .or .u32 (IntKind.u32.wrap (x*2 ^ (32-n))) (x.fdiv (2 ^ n))=bC n x:=by
 obtain⟨h0,d⟩:=h;obtain⟨m,rfl⟩:∃ m:Nat,x=m:=⟨x.toNat,ah⟩;have hm:m<4294967296:=ah;rw[DE m hm n ah];have hp:2 ^ n*2 ^ (32-n)=4294967296:=by rw[<-ag1,show n+(32-n)=32 by omega]
 have e:IntKind.u32.wrap ((m:Int)*2 ^ (32-n))=((m%2 ^ n*2 ^ (32-n):Nat):Int):=by
  have e0:((m:Int)*2 ^ (32-n))=((m*2 ^ (32-n):Nat):Int):=by push_cast;rfl
  show dL _=_;rw[e0,wW];have:m*2 ^ (32-n)%4294967296=m%2 ^ n*2 ^ (32-n):=by rw[<-hp,Nat.mul_mod_mul_right]
  rw[<-this];rfl
 have hb:(m:Int).fdiv (2 ^ n)=((m/2 ^ n:Nat):Int):=by
  have:((2:Int) ^ n)=((2 ^ n:Nat):Int):=by push_cast;rfl
  rw[this,aed _ (ad7 _)];rfl
 rw[e,hb];have a:m/2 ^ n<2 ^ (32-n):=by
  rw[Nat.div_lt_iff_lt_mul (Nat.two_pow_pos n),afQ,hp];exact hm
 have b:(m%2 ^ n*2 ^ (32-n)) |||(m/2 ^ n)=m/2 ^ n+m%2 ^ n*2 ^ (32-n):=by
  rw[Nat.or_comm];exact GW a
 have f:m/2 ^ n<=m:=Nat.div_le_self _ _;have hs:m/2 ^ n+m%2 ^ n*2 ^ (32-n)<4294967296:=by
  have h1:m%2 ^ n<2 ^ n:=agW _ (Nat.two_pow_pos n);have c:m%2 ^ n+1<=2 ^ n:=h1;have d:=afX (2 ^ (32-n)) c;rw[hp,afu]at d;omega
 have hA:m%2 ^ n*2 ^ (32-n)<4294967296:=Nat.lt_of_le_of_lt (Nat.le_add_left _ _) hs;show IntKind.u32.wrap (((BitVec.ofInt 32 ((m%2 ^ n*2 ^ (32-n):Nat):Int)) |||(BitVec.ofInt 32 ((m/2 ^ n:Nat):Int))).toNat:Int)=_;have g:(BitVec.ofInt 32 ((m%2 ^ n*2 ^ (32-n):Nat):Int)).toNat=m%2 ^ n*2 ^ (32-n):=by
  rw[afF,afM,afJ (by rw[show 2 ^ 32=4294967296 from rfl];exact hA)]
 have i:(BitVec.ofInt 32 ((m/2 ^ n:Nat):Int)).toNat=m/2 ^ n:=by
  rw[afF,afM,afJ (by rw[show 2 ^ 32=4294967296 from rfl];omega)]
 rw[agq,g,i,b];exact sg ⟨ad7 _,Int.ofNat_lt.2 hs⟩
def xor_not (h:okW x):ct .xor .u32 4294967295 x=4294967295-x:=by
 obtain⟨h0,a⟩:=h;obtain⟨m,rfl⟩:∃ m:Nat,x=m:=⟨x.toNat,ah⟩;have hm:m<4294967296:=ah;show IntKind.u32.wrap (((BitVec.ofInt 32 4294967295) ^^^ (BitVec.ofInt 32 (m:Int))).toNat:Int)=_;have e:(BitVec.ofInt 32 4294967295:BitVec 32)=BitVec.allOnes 32:=by decide
 rw[e,BitVec.allOnes_xor,BitVec.toNat_not,afF,afM,afJ (by rw[show 2 ^ 32=4294967296 from rfl];omega)];show dL _=_;rw[sg ⟨ah,ah⟩];omega
def me (a b c:Int):Int:=ct .xor .u32 (ct .xor .u32 a b) c
def ju (a b:Int):Int:=ct .and .u32 a b
def loS (x:Int):Int:=me (bC 7 x) (bC 18 x) (x/8)
def Zd (x:Int):Int:=me (bC 17 x) (bC 19 x) (x/1024)
def smE (x:Int):Int:=me (bC 6 x) (bC 11 x) (bC 25 x)
def smA (x:Int):Int:=me (bC 2 x) (bC 13 x) (bC 22 x)
def shC (e f g:Int):Int:=ct .xor .u32 (ju e f) (ju (4294967295-e) g)
def shM (a b c:Int):Int:=ct .xor .u32 (ct .xor .u32 (ju a b) (ju a c)) (ju b c)
def Io (m:List Int) (k:Nat):Int:=dL (m.getD (4*k) 0*16777216+m.getD (4*k+1) 0*65536+m.getD (4*k+2) 0*256+m.getD (4*k+3) 0)
def DG (w:List Int) (i:Nat):Int:=dL (dL (dL (w.getD (i-16) 0+loS (w.getD (i-15) 0))+w.getD (i-7) 0)+Zd (w.getD (i-2) 0))
def aP (m:List Int):Nat->List Int
 | 0=>[]
 | n+1=>aP m n++[if n<16 then Io m n else DG (aP m n) n]
def cZ (m:List Int):∀ n,(aP m n).length=n
 | 0=>rfl
 | n+1=>by show(_++[_]).length=_;rw[aaA,cZ m n];rfl
def mW (m:List Int):∀ (n j:Nat),j<n->(aP m n).getD j 0=if j<16 then Io m j else DG (aP m j) j
 | n+1,j,h=>by
  show(aP m n++[_]).getD j 0=_;rw[abv];by_cases a:j<n
  .rw[acb (by rw[cZ];exact a),<-abv];exact mW m n j a
  .have:j=n:=ah;subst this;rw[abO (by rw[cZ];omega),cZ,Nat.sub_self];rfl
def HT (m:List Int) (h1:j<n) (a:j<k):(aP m n).getD j 0=(aP m k).getD j 0:=by
 rw[mW m n j h1,mW m k j a]
def E4:List Int:=[1116352408,1899447441,3049323471,3921009573,961987163,1508970993,2453635748,2870763221,3624381080,310598401,607225278,1426881987,1925078388,2162078206,2614888103,3248222580,3835390401,4022224774,264347078,604807628,770255983,1249150122,1555081692,1996064986,2554220882,2821834349,2952996808,3210313671,3336571891,3584528711,113926993,338241895,666307205,773529912,1294757372,1396182291,1695183700,1986661051,2177026350,2456956037,2730485921,2820302411,3259730800,3345764771,3516065817,3600352804,4094571909,275423344,430227734,506948616,659060556,883997877,958139571,1322822218,1537002063,1747873779,1955562222,2024104815,2227730452,2361852424,2428436474,2756734187,3204031479,3329325298]
abbrev Wd:=Nat->Int
def Ke (v:Wd) (k w:Int):Int:=dL (dL (dL (dL (v 7+smE (v 4))+shC (v 4) (v 5) (v 6))+k)+w)
def SY (v:Wd):Int:=dL (smA (v 0)+shM (v 0) (v 1) (v 2))
def wF (v:Wd) (k w:Int):Wd:=fun j=>match j with
 | 0=>dL (Ke v k w+SY v)
 | 4=>dL (v 3+Ke v k w)
 | j+1=>v j
def cY (v:Wd) (w:List Int):Nat->Wd
 | 0=>v
 | n+1=>wF (cY v w n) (E4.getD n 0) (w.getD n 0)
def qB (v:Wd) (m:List Int):Wd:=fun j=>dL (v j+cY v (aP m 64) 64 j)
def dm:Wd:=fun j=>[1779033703,3144134277,1013904242,2773480762,1359893119,2600822924,528734635,1541459225].getD j 0
def Wz (x:Nat):List Int:=(List.range 8).map fun i=>((x/2 ^ (8*(7-i))%256:Nat):Int)
def gM (b:List Int):List Int:=b++[128]++List.replicate ((119-b.length%64)%64) 0++Wz (8*b.length)
def oV (v:Wd) (all:List Int):Nat->Wd
 | 0=>v
 | n+1=>qB (oV v all n) ((all.drop (64*n)).take 64)
def E5 (b:List Int):Wd:=oV dm (gM b) ((gM b).length/64)
def jq (b:List Int):List Int:=(List.range 32).map fun i=>E5 b (i/4)/2 ^ (24-8*(i%4))%256
def gU (b:List Int):(jq b).length=32:=by simp [jq]
def Dw (b:List Int):∀ z∈jq b,0<=z/\z<256:=fun z hz=>by
 unfold jq at hz;obtain⟨i,_,rfl⟩:=acw.1 hz;omega
def yv (b:List Int):(gM b).length=b.length+9+(119-b.length%64)%64/\(gM b).length%64=0:=by
 have h:(gM b).length=b.length+9+(119-b.length%64)%64:=by
  unfold gM Wz;simp only[aaA,acz,aca,afh,acn,acO];omega
 exact⟨h,by rw[h];omega⟩
def uL {v:Wd} (h:∀ j,j<8->okW (v j)) (w:List Int):∀ n j,j<8->okW (cY v w n j)
 | 0,j,a=>h j a
 | n+1,j,a=>by
  have ih:=uL h w n;show okW (wF _ _ _ j);unfold wF;split
  .exact Cg _
  .exact Cg _
  .exact ih _ ah
def T7 {v:Wd} (h:∀ j,j<8->okW (v j)) (all:List Int):∀ n j,j<8->okW (oV v all n j)
 | 0,j,a=>h j a
 | n+1,j,a=>Cg _
def Kb:∀ j,j<8->okW (dm j):=by unfold okW;decide
end Go.Proofs.YtbdikjnpbnobcaaGreatDoor
namespace Go.Proofs.YtbdikjnpbnobcaaGreatDoor.D
open Go Go.Sx
variable {es:Array MapEntry}{f g:E}{H:Hl}{fuse i:Int}{a clock m n s:Nat}
def aA:oz:=fun _=>none
def aM (l:List Int) (b:Bool) (hs:List Hl):Env:=⟨fun k=>l.getD k 0,fun _=>b,fun _=>.empty,fun _=>.tuple #[],fun k=>hs.getD k Hl.none⟩
def NC {k:IntKind} {l:List (Int×Value)} (h:ni k es l) (hn:jR i l 0=none) (v:Value) (hs:MapKept.Stamped es clock) :
 ∃ es',uF (.int k) (.int k i) v es clock=.map es' (clock+1)/\ni k es' (l++[(i,v)])/\MapKept.Stamped es' (clock+1):=by
 refine⟨es.push ⟨.int k i,v,clock⟩,?_,?_,MapKept.stamped_push hs fun x hx he=>?_⟩
 .unfold uF;rw[nF h,hn]
 .unfold ni at h ⊢;rw[Array.toList_push,acm,acm,h];rfl
 .have:(x.key,x.val)∈l.map fun p=>(Value.int k p.1,p.2):=by
   rw[<-show es.toList.map (fun e=>(e.key,e.val))=_ from h];exact acw.2 ⟨x,hx,rfl⟩
  obtain⟨q,a,e⟩:=acw.1 this;have h1:=Bl.1 hn q a;rw[acx]at e;rw[he]at e;exact h1 (Value.int.inj e.1).2
structure DM where
 n:Nat
 now:List Int
 loose:List (Int×List Int)
 fuse:Int
 gone:Bool
structure DM.ok (D:DM):Prop where
 now:D.now.length=64*D.n
 n:D.n<=16384
 f0:-1<=D.fuse
 f1:D.fuse<=9223372036854775807
 loose:∀ p∈D.loose,p.2.length=64/\0<=p.1/\p.1<D.n
def lv (l:List (Int×List Int)):List (Int×Value):=l.map fun p=>(p.1,.agg (aS p.2).toArray)
def kj (a s m n:Nat) (fuse:Int) (gone:Bool):Hl:=Hl.one a (.cells #[.slice (some ⟨s,0,none⟩) n n,.map (some m),.int .i64 fuse,.bool gone] 93 (0,0))
def nX (s:Nat) (now:List Int):Hl:=Hl.one s (.cells (aS now).toArray 277 (0,0))
structure ua (H:Hl) (a s m:Nat) (es:Array MapEntry) (clock:Nat) (D:DM):Prop where
 ok:D.ok
 map:ni .i64 es (lv D.loose)
 st:MapKept.Stamped es clock
 nas:a≠s
 nam:a≠m
 nsm:s≠m
 hl:H=bY [kj a s m D.n D.fuse D.gone,nX s D.now,Hl.one m (.map es clock)]
def aE (H:Hl) (v:Value) (D:DM):Prop:=∃ a s m es clock,v=.pointer (some ⟨a,0,none⟩)/\ua H a s m es clock D
def yV:Mem:=[.bc 0 [.sl (.var 6) (.var 7) (.var 8) (.var 9),.map (.var 10),.int .i64 (.var 11),.bool (.bvar 12)] 93,.hp 13 [] [.var 6] [],.hp 14 [] [.var 10] []]
def qL (a s m:Nat) (D:DM) (l:List Int) (es:Array MapEntry) (clock:Nat) (R:Hl):Env :=
 aM (([(a:Int)]++l++[(s:Int),0,D.n,D.n,m,D.fuse])) D.gone (List.replicate 13 Hl.none++[nX s D.now,Hl.one m (.map es clock),R])
def PJ {q:Env} {gone:Bool} (h0:q.i 0=a) (c:q.i 6=s) (d:q.i 7=0) (e:q.i 8=n) (h:q.i 9=n) (b:q.i 10=m) (hf:aw q f=fuse) (hg:aY q g=gone) :
 (bo.bc 0 [.sl (.var 6) (.var 7) (.var 8) (.var 9),.map (.var 10),.int .i64 f,.bool g] 93).hl q=kj a s m n fuse gone:=by
 simp only[bo.hl,abW,acI,CV.ev,ar,h0,c,d,e,h,b,hf,hg,aac];rw[av ah,aa8 ah];rfl
def Ea {D:DM} (h:ua H a s m es clock D) (l:List Int) (hl:l.length=5) (R:Hl):Entry (qL a s m D l es clock R) yV [H] []:=by
 obtain⟨x1,b,c,d,e,rfl⟩:∃ x1 b c d e,l=[x1,b,c,d,e]:=by
  match l,hl with
  | [x1,b,c,d,e],_=>exact⟨x1,b,c,d,e,rfl⟩
 have hb:(bo.bc 0 [.sl (.var 6) (.var 7) (.var 8) (.var 9),.map (.var 10),.int .i64 (.var 11),.bool (.bvar 12)] 93).hl (qL a s m D [x1,b,c,d,e] es clock R)=kj a s m D.n D.fuse D.gone:=PJ rfl rfl rfl rfl rfl rfl rfl rfl;have d1:(kj a s m D.n D.fuse D.gone).bq (nX s D.now):=Hl.ji h.nas;have d2:(kj a s m D.n D.fuse D.gone).bq (Hl.one m (.map es clock)):=Hl.ji h.nam;have d3:(nX s D.now).bq (Hl.one m (.map es clock)):=Hl.ji h.nsm;obtain⟨f,g,i⟩:=Em d1 d2 d3;refine⟨fun r hr ho=>⟨H,aC,?_⟩,fun r hr ho=>?_,?_,fun r hr=>?_⟩
 .rw[h.hl];simp only[yV,aaW,abd,acs]at hr;rcases hr with rfl | rfl | rfl
  .rw[hb];exact f
  .exact g
  .exact i
 .simp only[yV,aaW,abd,acs]at hr;rcases hr with rfl | rfl | rfl<;>cases ho
 .unfold yV;refine List.Pairwise.cons (fun r hr _ _=>?_) (List.Pairwise.cons (fun r hr _ _=>?_) (List.Pairwise.cons (fun r hr=>by cases hr) List.Pairwise.nil))
  .rw[hb];simp only[aaW,abd,acs]at hr;rcases hr with rfl | rfl
   .exact d1
   .exact d2
  .simp only[aaW,abd,acs]at hr;subst hr;exact d3
 .simp only[yV,aaW,abd,acs]at hr;rcases hr with rfl | rfl | rfl
  .show(0:Int)<=(a:Int);omega
  .trivial
  .trivial
def Tw {D:DM} (h:ua H a s m es clock D) (l:List Int) (hl:l.length=5) (R:Hl) (t:List E):Entry (qL a s m D l es clock R) (yV++[.ro 15 t false]) [H] [R]:=by
 obtain⟨h1,b,c,d⟩:=Ea h l hl R;refine⟨fun r hr ho=>?_,fun r hr ho=>?_,?_,fun r hr=>?_⟩
 .rcases acg.1 hr with hr | hr
  .exact h1 r hr ho
  .rw[aaQ]at hr;subst hr;cases ho
 .rcases acg.1 hr with hr | hr
  .obtain⟨R,e,_⟩:=b r hr ho;cases e
  .rw[aaQ]at hr;subst hr;exact⟨R,aC,Hl.le_refl _⟩
 .rw[agM];refine⟨c,aC,fun r _ s hs _ ho=>?_⟩;rw[aaQ]at hs;subst hs;cases ho
 .rcases acg.1 hr with hr | hr
  .exact d r hr
  .rw[aaQ]at hr;subst hr;trivial
def iF (n:Int):Nat:=(min (max n 0) 16384).toNat
def gS (n:Int):DM:=⟨iF n,List.replicate (64*iF n) 0,[],-1,false⟩
def NH:Sx.Spec where
 fn:=8
 own:=[]
 rd:=[]
 res:=[.one .ptr]
 pre:=fun xs Hs Rs=>∃ n,xs=[.int .i64 n]
 post:=fun xs Hs Rs v Hs' F=>∃ n,xs=[.int .i64 n]/\aE F v (gS n)
def NI:aD Tryz.prog [] NH.fn where
 Λ:=aA
 args:=[TI .i64 (.var 0)]
 mem:=[]
 nv:=1
def QM (k n:Nat) (hk:0<k) (z:Value):madeCells (List.replicate k z).toArray n=(List.replicate n z).toArray:=by
 apply Array.ext
 .simp [madeCells]
 .intro i h1 a;simp [madeCells,aem,agW _ hk]
def Jq (n:Nat):madeCells (List.replicate 64 (Value.int .u8 0)).toArray (n*64)=(aS (List.replicate (64*n) 0)).toArray:=by
 rw[QM 64 _ ah,afQ];unfold aS;rw[afN]
def Ud:NH.OK Tryz.prog:=by
 refine Spec.cM (Γ:=[]) (fun _ h=>by cases h) ?_;rintro xs Hs Rs k l ⟨n,rfl⟩;have e0:Hs=[]:=aa1.1 k;have e1:Rs=[]:=aa1.1 l;subst e0;subst e1;refine⟨NI,aM [n] false [],fun _ _=>True,fun _ _=>0,?_,⟨?_,?_,?_,?_⟩,(fun _ h=>nomatch h),?_⟩
 .simp [NI,TI,TV.ev,SV.ev,CV.ev,ar,aM]
 .intro r hr;simp [NI]at hr
 .intro r hr;simp [NI]at hr
 .simp [NI]
 .intro r hr;simp [NI]at hr
 .refine aD.read [] [] [] ?_;simp only[go_sem,Nat.reduceAdd];have e:(if(16384:Int)<if n<0 then 0 else n then 16384 else if n<0 then 0 else n)=(iF n:Int):=by
   unfold iF;split<;>split<;>omega
  have hs:iF n<=16384:=by unfold iF;omega
  have o:(aM [n] false []).i 0=n:=rfl;rw[o];simp only[e];refine⟨⟨ah,ah,ah⟩,fun q1 w ⟨p1,f⟩ q2 q ⟨p2,g⟩ b g3 p3 hd=>?_⟩;have i0:b.i 0=n:=by rw[g3.i 0,q.i 0,w.i 0];rfl
  have i1:b.i 1=q1.i 1:=by rw[g3.i 1,q.i 1]
  have i2:b.i 2=q2.i 2:=by rw[g3.i 2]
  obtain⟨s,t⟩:=afj p1;obtain⟨m,u⟩:=afj p2;obtain⟨a,j⟩:=afj p3;rw[t]at i1 f;rw[u]at i2 g;rw[aac]at f g;have x:(List.replicate 64 (CV.int IntKind.u8 (E.lit 0))).map (CV.ev (aM [n] false []))=List.replicate 64 (Value.int .u8 0):=rfl;rw[x]at f;have h1:b.h 1=nX s (gS n).now:=by
   rw[g3.h 1,q.h 1,f,acz,aac,Jq];rfl
  have v:b.h 2=Hl.one m (.map #[] 0):=by rw[g3.h 2,g]
  have y:(bo.bc 3 [.sl (.var 1) (.lit 0) (.ite (.lt (.lit 16384) (.ite (.lt (.var 0) (.lit 0)) (.lit 0) (.var 0))) (.lit 16384) (.ite (.lt (.var 0) (.lit 0)) (.lit 0) (.var 0))) (.ite (.lt (.lit 16384) (.ite (.lt (.var 0) (.lit 0)) (.lit 0) (.var 0))) (.lit 16384) (.ite (.lt (.var 0) (.lit 0)) (.lit 0) (.var 0))),.map (.var 2),.int .i64 (.lit (-1)),.bool .ff] 93).hl b=kj a s m (iF n) (-1) false:=by
   simp only[bo.hl,abW,acI,CV.ev,tH,tE,kc,lh,jv,tG,nR,nu,nq,ik,nN,nS,tF,nP,nO,ke,nQ,aq,ar,bP,dZ,cN,bL,dY,fi,fC,fT,jJ,gy,iP,fW,du,wX,aas,i0,i1,i2,j,e,aac];rw[av ah,aa8 ah];rfl
  have c:=hd 0 1 _ _ az rfl rfl rfl;have d:=hd 0 2 _ _ az rfl rfl rfl;have d12:=hd 1 2 _ _ az rfl rfl rfl;rw[y]at d d12;have c:(b.h 1).bq (b.h 2):=c;have d:(b.h 1).bq (kj a s m (iF n) (-1) false):=d;have d12:(b.h 2).bq (kj a s m (iF n) (-1) false):=d12;rw[h1]at c d;rw[v]at c d12;have nsm:s≠m:=fun e=>Hl.fL.1 c (Hl.cn.2 e);have nas:a≠s:=fun e=>Hl.fL.1 d (Hl.cn.2 e.symm);have nam:a≠m:=fun e=>Hl.fL.1 d12 (Hl.cn.2 e.symm);refine⟨[],[2,0,1],rfl,rfl,⟨b.dw 0 (b.i 3) |>.dw 1 0,rfl,⟨by show -1<=b.i 3;omega,aba _⟩,zzT⟩,n,rfl,a,s,m,#[],0,?_,⟨⟨?_,hs,by show(-1:Int)<= -1;omega,by show(-1:Int)<=_;omega,fun p hp=>by cases hp⟩,rfl,MapKept.stamped_empty _,nas,nam,nsm,?_⟩⟩
  .simp only[TV.ev,SV.ev,CV.ev,ar,aq,j];rw[av ah];rfl
  .show(List.replicate (64*iF n) (0:Int)).length=_;rw[acz];rfl
  .show bY [_,b.h 1,b.h 2]=_;rw[h1,v]
   congr 1
   congr 1
end Go.Proofs.YtbdikjnpbnobcaaGreatDoor.D
