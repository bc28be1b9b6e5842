/- Bytes that are no request are told nothing and change nothing: a part of the proof. No condition. -/
import Derived.Handy
import Derived.Orders
import Derived.Test.YtbdikjnpbnobcaaGreatDoorRows
import Derived.Test.YtbdikjnpbnobcaaGreatDoorTD
set_option linter.all false
set_option maxHeartbeats 4000000
namespace Go.Sx
open Go
variable {Q:Exit->Act->World->Prop}{x y:Int}{bs:List Int}{l:List Nat}{b c g i j k n r t:Nat}{o:Oper}{u:TV}{α:Type}{T e:TypeId}{v z:Value}
def esOf (o:Oper):List Nat:=(o.after.toList.filter fun e=>Region.binds .any e).map (·.on)
def esAt (ops:List Oper) (i:Nat):List Nat:=match ops[i]? with
 | some o=>esOf o
 | none=>[]
def ancs:List Oper->List (List Nat)->List (List Nat)
 | [],acc=>acc
 | o::l,acc=>ancs l (acc++[((esOf o)++(esOf o).flatMap fun e=>acc.getD e []).eraseDups])
def certA (ops:List Oper) (A:List (List Nat)):Bool :=
 (List.range ops.length).all fun i=>((A.getD i []).all fun j=>(esAt ops i).contains j||(esAt ops i).any fun e=>(A.getD e []).contains j)&&(esAt ops i).all fun e=>decide (e<i)
def dstAt (ops:List Oper) (i:Nat):Option Tmp:=(ops[i]?).bind (·.dst)
def isAlloc (ops:List Oper) (i:Nat):Bool:=match ops[i]? with
 | some o=>match o.op,o.guard,o.dst with
  | .alloc _,none,some _=>(esOf o).isEmpty
  | _,_,_=>false
 | none=>false
def eqCV:CV->CV->Bool
 | .int k e,.int d b=>decide (k=d)&&decide (e=b)
 | .bool e,.bool b=>decide (e=b)
 | .str e,.str b=>decide (e=b)
 | .pti a o s n i,.pti a' o' f n' g=>a==a'&&o==o'&&s==f&&n==n'&&decide (i=g)
 | .hptr x y,.hptr x' y'=>decide (x=x')&&decide (y=y')
 | .sl x y l c,.sl x' y' l' c'=>decide (x=x')&&decide (y=y')&&decide (l=l')&&decide (c=c')
 | .map x,.map x'=>decide (x=x')
 | .vr j,.vr k=>j==k
 | .hv h x y j,.hv h' x' y' j'=>h==h'&&decide (x=x')&&decide (y=y')&&j==j'
 | .val v,.val v'=>sameV v v'
 | _,_=>false
def eqCV_eq {a b:CV} (h:eqCV a b=true):a=b:=by
 unfold eqCV at h;split at h<;>(try simp only[ML,MI,Pe]at h)<;>first | (cases h;done) | skip
 .obtain⟨rfl,rfl⟩:=h;rfl
 .rw[h]
 .rw[h]
 .obtain⟨⟨⟨⟨rfl,rfl⟩,rfl⟩,rfl⟩,rfl⟩:=h;rfl
 .obtain⟨rfl,rfl⟩:=h;rfl
 .obtain⟨⟨⟨rfl,rfl⟩,rfl⟩,rfl⟩:=h;rfl
 .rw[h]
 .rw[h]
 .obtain⟨⟨⟨rfl,rfl⟩,rfl⟩,rfl⟩:=h;rfl
 .rw[sameV_eq h]
def eqL {α:Type} (f:α->α->Bool):List α->List α->Bool
 | [],[]=>true
 | a::l,b::m=>f a b&&eqL f l m
 | _,_=>false
def eqL_eq {α:Type} {f:α->α->Bool} (hf:∀ a b,f a b=true->a=b):∀ {l m:List α},eqL f l m=true->l=m
 | [],[],_=>rfl
 | a::l,b::m,h=>by
  simp only[eqL,ML]at h;rw[hf a b h.1,eqL_eq hf h.2]
 | [],_::_,h=>by simp [eqL]at h
 | _::_,[],h=>by simp [eqL]at h
def eqSV':SV->SV->Bool
 | .one a,.one b=>eqCV a b
 | .agg l,.agg m=>eqL eqCV l m
 | _,_=>false
def eqSV'_eq {a b:SV} (h:eqSV' a b=true):a=b:=by
 unfold eqSV' at h;split at h
 .rw[eqCV_eq h]
 .rw[eqL_eq (fun _ _=>eqCV_eq) h]
 .cases h
def eqTV:TV->TV->Bool
 | .sv a,.sv b=>eqSV' a b
 | .tup l,.tup m=>eqL eqSV' l m
 | _,_=>false
def eqTV_eq {a b:TV} (h:eqTV a b=true):a=b:=by
 unfold eqTV at h;split at h
 .rw[eqSV'_eq h]
 .rw[eqL_eq (fun _ _=>eqSV'_eq) h]
 .cases h
def eqO:Option TV->Option TV->Bool
 | some a,some b=>eqTV a b
 | none,none=>true
 | _,_=>false
def eqO_eq {a b:Option TV} (h:eqO a b=true):a=b:=by
 unfold eqO at h;split at h
 .rw[eqTV_eq h]
 .rfl
 .cases h
def fl (P:Program) (ops:List Oper) (s:St) (o:Oper):Option (E×Option TV) :=
 match guardE ops s o with
 | none=>none
 | some none=>(quiet P s o.op).map fun r=>(r.1,some r.2)
 | some (some (e,want))=>match known s.path e with
  | some b=>if b=want then(quiet P s o.op).map fun r=>(r.1,some r.2)else some (.tt,some skipTV)
  | none=>none
def vis (ops:List Oper) (A:List (List Nat)) (i:Nat) (st:St):St :=
 let hid:=(List.range ops.length).filterMap fun j=>if(A.getD i []).contains j then none else dstAt ops j
 {st with tmps:=mapIx (fun t v=>match v with | none=>none | some u=>if hid.contains t then none else some u) 0 st.tmps}
structure Late where
 i:Nat
 snap:St
 n:E
 v:Option TV
structure Dr where
 st:St
 done:List Nat
 late:List Late
def find1 (P:Program) (ops:List Oper) (A:List (List Nat)) (D:Dr):Option Nat :=
 (List.range ops.length).find? fun i=>!D.done.contains i&&!isAlloc ops i&&(esAt ops i).all D.done.contains&&match ops[i]? with
  | some o=>(fl P ops (vis ops A i D.st) o).isSome
  | none=>false
def unkG (ops:List Oper) (A:List (List Nat)) (D:Dr) (i:Nat):Option E :=
 match ops[i]? with
 | some o=>match guardE ops (vis ops A i D.st) o with
  | some (some (e,_))=>match known D.st.path e with
   | none=>some e
   | _=>none
  | _=>none
 | none=>none
def find2 (ops:List Oper) (A:List (List Nat)) (D:Dr):Option E :=
 (List.range ops.length).findSome? fun i=>if !D.done.contains i&&!isAlloc ops i&&(esAt ops i).all D.done.contains then unkG ops A D i else none
def cands (ops:List Oper) (D:Dr):List Nat :=
 (List.range ops.length).filter fun i=>!D.done.contains i&&!isAlloc ops i&&(esAt ops i).all fun e=>D.done.contains e||isAlloc ops e
def Late.upto (n:Nat) (f:Late):Bool:=f.snap.tmps.all (optB (·.upto n))&&f.snap.path.all (·.upto n)&&f.n.upto n
def Dr.upto (D:Dr):Bool:=D.st.upto D.st.nv&&D.late.all (Late.upto D.st.nv)
def wantsB (ops:List Oper) (s:St) (o:Oper):Bool :=
 match guardE ops s o with
 | some none=>true
 | some (some (e,want))=>known s.path e==some want
 | none=>false
def lateB (P:Program) (ops:List Oper) (mem:Mem) (f:Late):Bool :=
 match ops[f.i]? with
 | some o=>match fl P ops {f.snap with mem:=mem} o with
  | some (n,v)=>decide (n=f.n)&&eqO v f.v
  | none=>false
 | none=>false
def importD (P:Program) (ops:List Oper) (D:Dr) (j:Nat):Option Dr :=
 match ops[j]? with
 | some o=>match o.op,o.dst with
  | .alloc t,some d=>match zeroT P t with
   | some z=>if D.upto&&isAlloc ops j&&D.late.all (lateB P ops (D.st.mem++[.blk D.st.nv (z.cells.toList.map liftC) t]))then
    some ⟨({D.st with mem:=D.st.mem++[.blk D.st.nv (z.cells.toList.map liftC) t],nv:=D.st.nv+1} : St).put (some d) (some (TP (.var D.st.nv) (.lit 0))),j::D.done,D.late⟩
    else none
   | none=>none
  | _,_=>none
 | none=>none
def roB (mem mem':Mem):Bool:=mem'.all fun r=>match r with
 | .ro k _ _=>mem.any fun s=>match s with
  | .ro a _ _=>k==a
  | _=>false
 | _=>true
def chainD (P:Program) (Γ:List Spec) (ops:List Oper) (A:List (List Nat)) (D:Dr) (c:Nat):Option (Dr×XR) :=
 match ops[c]? with
 | some o =>
  let s:=vis ops A c D.st
  if wantsB ops s o then match extE P Γ s o with
   | some R =>
    let late:=D.late.filter fun f=>!(A.getD c []).contains f.i
    if D.upto&&decide (D.st.nv<=R.st.nv)&&roB D.st.mem R.st.mem&&late.all (lateB P ops R.st.mem)then
     some (⟨({D.st with mem:=R.st.mem,nv:=R.st.nv} : St).put o.dst (match o.dst with | some d=>R.st.tmps.getD d none | none=>none),c::D.done,late⟩,R)
    else none
   | none=>none
  else none
 | none=>none
def lastB (ops:List Oper) (A:List (List Nat)) (c:Nat):Bool:=(List.range ops.length).all fun i=>i==c||(A.getD c []).contains i
def tailB (ops:List Oper) (A:List (List Nat)):List Nat->Bool
 | []=>true
 | r::l=>decide (r<ops.length)&&!l.contains r&&((List.range ops.length).all fun i=>i==r||l.contains i||(A.getD r []).contains i)&&tailB ops A l
def restOf (ops:List Oper) (A:List (List Nat)) (c:Nat):List Nat:=(List.range ops.length).filter fun i=>!(i==c)&&!(A.getD c []).contains i
def seqK (P:Program) (Γ:List Spec) (ex:Ex) (d:Nat) (ops:List Oper):List Nat->St->(St->Option Nd)->Option Nd
 | [],st,k=>k st
 | r::l,st,k=>match ops[r]? with
  | some o=>if wantsB ops st o then stepK P Γ ex d o st fun s=>if st.nv<=s.nv then seqK P Γ ex d ops l s k else none else none
  | none=>none
def allNd:List (Option Nd)->Option Nd
 | []=>some .tt
 | some a::l=>(allNd l).map (ndAnd a)
 | none::_=>none
def mrgD (P:Program) (ops:List Oper) (A:List (List Nat)) (D:Dr) (c:Nat):Option (Dr×X) :=
 match ops[c]? with
 | some o=>match mrgOf P (vis ops A c D.st) o with
  | some (s,x)=>if D.upto&&D.late.all (lateB P ops s.mem)then some ({D with st:={D.st with mem:=s.mem,nv:=s.nv}},x)else none
  | none=>none
 | none=>none
def drawK (P:Program) (Γ:List Spec) (ex:Ex) (d:Nat) (ops:List Oper) (A:List (List Nat)):Nat->Dr->(St->Option Nd)->Option Nd
 | 0,_,_=>none
 | m+1,D,k =>
  match find1 P ops A D with
  | some i=>match ops[i]? with
   | some o =>
    let s:=vis ops A i D.st
    match fl P ops s o with
    | some (n,v) =>
     let cs:=needE D.st.path n
     (drawK P Γ ex d ops A m ⟨({D.st with path:=cs++D.st.path} : St).put o.dst v,i::D.done,⟨i,s,n,v⟩::D.late⟩ k).map (needAnd cs)
    | none=>none
   | none=>none
  | none=>match find2 ops A D with
   | some e=>match drawK P Γ ex d ops A m {D with st:={D.st with path:=e::D.st.path}} k,drawK P Γ ex d ops A m {D with st:={D.st with path:=mkNot e::D.st.path}} k with
    | some a,some b=>some (ndAnd (ndImp e a) (ndImp (mkNot e) b))
    | _,_=>none
   | none=>match cands ops D with
    | []=>match(List.range ops.length).find? fun i=>!D.done.contains i with
     | none=>k D.st
     | some j=>match importD P ops D j with
      | some D'=>(drawK P Γ ex d ops A m D' k).map fun nd=>.ext (.alloc D.st.nv) nd
      | none=>none
    | [c]=>match(esAt ops c).find? fun e=>!D.done.contains e with
     | some j=>match importD P ops D j with
      | some D'=>(drawK P Γ ex d ops A m D' k).map fun nd=>.ext (.alloc D.st.nv) nd
      | none=>none
     | none=>match mrgD P ops A D c with
      | some (D',x)=>(drawK P Γ ex d ops A m D' k).map fun nd=>.ext x nd
      | none=>match chainD P Γ ops A D c with
      | some (D',R)=>(drawK P Γ ex d ops A m D' k).map fun nd=>ndAnd R.need (match R.x with | some x=>.ext x nd | none=>nd)
      | none=>match ops[c]? with
       | some o=>if wantsB ops (vis ops A c D.st) o&&lastB ops A c then stepK P Γ ex d o (vis ops A c D.st) k else if wantsB ops (vis ops A c D.st) o&&tailB ops A (c::restOf ops A c)then stepK P Γ ex d o (vis ops A c D.st) fun s=>if D.st.nv<=s.nv then seqK P Γ ex d ops (restOf ops A c) s k else none else none
       | none=>none
    | c1::c2::cs=>if((c1::c2::cs).all fun c=>(esAt ops c).all D.done.contains)=true then
     allNd ((c1::c2::cs).map fun c=>match chainD P Γ ops A D c with
      | some (D',R)=>(drawK P Γ ex d ops A m D' k).map fun nd=>ndAnd R.need (match R.x with | some x=>.ext x nd | none=>nd)
      | none=>none)
     else none
def hideAllocs (ops:List Oper) (st:St):St :=
 let hid:=(List.range ops.length).filterMap fun j=>if isAlloc ops j then dstAt ops j else none
 {st with tmps:=mapIx (fun t v=>match v with | none=>none | some u=>if hid.contains t then none else some u) 0 st.tmps}
def nodupO:List (Option Tmp)->Bool
 | []=>true
 | none::l=>nodupO l
 | some t::l=>!l.contains (some t)&&nodupO l
def zerosB (P:Program) (ops:List Oper):Bool:=ops.all fun o=>match o.op with
 | .alloc t=>(zeroT P t).isSome
 | _=>true
def dk (P:Program) (Γ:List Spec):Dk:=fun ex d ops st k =>
 let A:=ancs ops []
 if certA ops A&&nodupO (ops.map (·.dst))&&P.follows .mixedOrders&&zerosB P ops then drawK P Γ ex d ops A (3*ops.length+10) ⟨hideAllocs ops st,[],[]⟩ (fun s=>if st.nv<=s.nv then k s else none)else none
section
variable {P:Program} {C:Ctx} {S:Nat->Prop} {w0:World} {J J':Env} {ops:List Oper} {A:List (List Nat)} {D:Dr} {L:Array Bool} {pl:Nat->Nat} {a:Act} {w w':World}
def certA_get (a:certA ops A=true) (hi:i<ops.length):(∀ j∈A.getD i [],j∈esAt ops i\/∃ e∈esAt ops i,j∈A.getD e [])/\∀ e∈esAt ops i,e<i:=by
 unfold certA at a;rw[M8]at a;have:=a i (Nn.2 hi);simp only[ML,M8,N6,List.any_eq_true,MI,NP]at this;exact this
def anc_closed (c:certA ops A=true) {p:Nat->Prop} (hp:∀ i,p i->∀ e∈esAt ops i,p e):∀ i,i<ops.length->(∀ e∈esAt ops i,p e)->∀ j∈A.getD i [],p j:=by
 intro i
 induction i using Nat.strongRecOn with
 | _ i ih =>
  intro hi he j d;obtain⟨h1,h2⟩:=certA_get c hi;rcases h1 j d with h | ⟨e,a,b⟩
  .exact he j h
  .exact ih e (h2 e a) (Qi (h2 e a) hi) (hp e (he e a)) j b
structure LateOK (P:Program) (ops:List Oper) (A:List (List Nat)) (J:Env) (D:Dr) (L:Array Bool) (a:Act) (f:Late):Prop where
 fl:∃ o,ops[f.i]?=some o/\Sx.fl P ops {f.snap with mem:=D.st.mem} o=some (f.n,f.v)
 need:bev J f.n=true
 path:Path J f.snap.path
 len:f.snap.tmps.length=D.st.tmps.length
 slots:∀ (t:Nat) u,f.snap.tmps[t]?=some (some u)->(∃ g∈D.late,L.getD g.i false=false/\dstAt ops g.i=some t/\g.i∈A.getD f.i [])\/a.tmps[t]?=some (u.ev J)
 hid:∀ (j:Nat) t,j<ops.length->dstAt ops j=some t->j∉A.getD f.i []->∀ u,f.snap.tmps[t]?≠some (some u)
 vals:∀ h∈D.late,h.i∈A.getD f.i []->∀ t u,dstAt ops h.i=some t->f.snap.tmps[t]?=some (some u)->h.v=some u
 sub:∀ j∈A.getD f.i [],j∈D.done
structure Sim (P:Program) (S:Nat->Prop) (w0:World) (ops:List Oper) (A:List (List Nat)) (J:Env) (D:Dr) (L:Array Bool) (pl:Nat->Nat) (a:Act) (w:World):Prop where
 lsz:L.size=ops.length
 mem:MRel S w0 J D.st.mem w
 path:Path J D.st.path
 size:a.tmps.size=D.st.tmps.length
 defers:a.defers=[]
 slots:∀ (t:Nat) u,D.st.tmps[t]?=some (some u)->(∃ f∈D.late,L.getD f.i false=false/\dstAt ops f.i=some t)\/a.tmps[t]?=some (u.ev J)
 lsub:∀ i,L.getD i false=true->i∈D.done\/isAlloc ops i=true
 dsub:∀ i∈D.done,L.getD i false=true\/∃ f∈D.late,f.i=i
 dlt:∀ i∈D.done,i<ops.length
 ldone:∀ f∈D.late,f.i∈D.done
 lval:∀ f∈D.late,∀ t u,dstAt ops f.i=some t->D.st.tmps[t]?=some (some u)->f.v=some u
 late:∀ f∈D.late,L.getD f.i false=false->LateOK P ops A J D L a f
 hid:∀ j,isAlloc ops j=true->j∉D.done->∀ t u,dstAt ops j=some t->D.st.tmps[t]?≠some (some u)
 early:∀ j,L.getD j false=true->j∉D.done->∃ o t z d,ops[j]?=some o/\o.op=.alloc t/\zeroT P t=some z/\o.dst=some d/\(d<a.tmps.size->a.tmps[d]?=some (.pointer (some ⟨pl j,0,none⟩))) /\
  w.heap[pl j]?=some (.cells z.cells t (0,0))/\w0.heap.size<=pl j/\∀ r∈D.st.mem,¬(r.hl J).mem (pl j)
 inj:∀ j j',L.getD j false=true->j∉D.done->L.getD j' false=true->j'∉D.done->pl j=pl j'->j=j'
 closed:∀ i,L.getD i false=true->∀ e∈esAt ops i,L.getD e false=true
 dclosed:∀ i∈D.done,∀ e∈esAt ops i,e∈D.done
def Uniq (ops:List Oper):Prop:=∀ (i j:Nat) t,dstAt ops i=some t->dstAt ops j=some t->i=j
def uniq_of:∀ {l:List Oper},nodupO (l.map (·.dst))=true->Uniq l
 | [],_,i,j,t,h,_=>by simp [dstAt]at h
 | o::l,hn,i,j,t,hi,b=>by
  have hl:nodupO (l.map (·.dst))=true/\∀ t,o.dst=some t->some t∉l.map (·.dst):=by
   simp only[M6]at hn;unfold nodupO at hn;split at hn
   .cases ‹_::_=[]›
   .rename_i heq;simp only[MH]at heq;obtain⟨h1,h2⟩:=heq;subst h2;exact⟨hn,fun t a=>by rw[h1]at a;cases a⟩
   .rename_i t' l' heq;simp only[MH]at heq;obtain⟨h1,h2⟩:=heq;subst h2;simp only[ML,NK,Ou,NF]at hn;exact⟨hn.2,fun t a=>by rw[h1]at a;cases a;exact hn.1⟩
  have ih:=uniq_of hl.1;have nm:∀ (k:Nat),dstAt l k=some t->some t∈l.map (·.dst):=fun k hk=>by
   unfold dstAt at hk;cases ho:l[k]? with
   | none=>simp [ho]at hk
   | some o'=>simp only[ho,OM]at hk;exact Np.2 ⟨o',MG ho,hk⟩
  cases i with
  | zero =>
   cases j with
   | zero=>rfl
   | succ j=>exact absurd (nm j (by simpa [dstAt] using b)) (hl.2 t (by simpa [dstAt] using hi))
  | succ i =>
   cases j with
   | zero=>exact absurd (nm i (by simpa [dstAt] using hi)) (hl.2 t (by simpa [dstAt] using b))
   | succ j=>rw[ih i j t (by simpa [dstAt] using hi) (by simpa [dstAt] using b)]
def getD_set (hi:∀ j:Nat,True) (L:Array Bool) (i j:Nat):(L.setIfInBounds i true).getD j false=if i=j/\i<L.size then true else L.getD j false:=by
 by_cases h:i=j
 .subst h;by_cases hs:i<L.size
  .simp [hs]
  .simp [hs,Pb (show L.size<=i by omega)]
 .simp [h,Oa h]
def unl (ops:List Oper) (L:Array Bool):Nat:=(List.range ops.length).countP fun i=>!L.getD i false
def countP_set (L:Array Bool) {i:Nat} (hi:i<L.size) (hf:L.getD i false=false):∀ (l:List Nat),l.Nodup->(l.countP fun j=>!(L.setIfInBounds i true).getD j false)+(if i∈l then 1 else 0)=l.countP fun j=>!L.getD j false
 | [],_=>ar
 | x::l,hn=>by
  rw[List.nodup_cons]at hn;have ih:=countP_set L hi hf l hn.2;have e:∀ j,(L.setIfInBounds i true).getD j false=if i=j then true else L.getD j false:=fun j=>by rw[getD_set (fun _=>trivial)];simp [hi]
  simp only[List.countP_cons,e,MQ];simp only[e]at ih;by_cases hx:i=x
  .subst hx;have:i∉l:=hn.1;simp only[this,Om,NH]at ih;simp only[OA,hf,true_or,Bool.not_true,Bool.not_false,NI,Om];omega
  .simp only[hx,Om,false_or];omega
def unl_set (hs:L.size=ops.length) (hi:i<ops.length) (hf:L.getD i false=false):unl ops (L.setIfInBounds i true)+1=unl ops L:=by
 have:=countP_set L ae hf (List.range ops.length) List.nodup_range;rw[M0 (Nn.2 hi)]at this;exact this
def unl_zero (h:unl ops L=0) (hi:i<ops.length):L.getD i false=true:=by
 unfold unl at h;rw[List.countP_eq_zero]at h;simpa using h i (Nn.2 hi)
def mem_ready' (hs:L.size=ops.length) : i∈Region.ready .any ops.toArray L↔i<ops.length/\L.getD i false=false/\∀ e∈esAt ops i,L.getD e false=true:=by
 rw[mem_ready];constructor
 .rintro⟨h0,o,ho,he⟩;have ho:ops[i]?=some o:=by simpa using ho
  have b:=(MK.1 ho).1;refine⟨b,?_,fun e a=>?_⟩
  .have:i<L.size:=ae;simpa [this] using h0
  .unfold esAt at a;simp only[ho,esOf]at a;obtain⟨x,hx,rfl⟩:=Np.1 a;rw[NW]at hx;exact he x (by simpa using hx.1) hx.2
 .rintro⟨b,h0,he⟩;refine⟨?_,ops[i],by simp [b],fun e a hb=>?_⟩
  .have:i<L.size:=ae;simpa [this] using h0
  .apply he;unfold esAt;rw[ME b];simp only[esOf];exact Np.2 ⟨e,NW.2 ⟨by simpa using a,hb⟩,rfl⟩
def ready_some (a:certA ops A=true) (hs:L.size=ops.length) (hr:Region.ready .any ops.toArray L=[]):∀ i,i<ops.length->L.getD i false=true:=by
 intro i
 induction i using Nat.strongRecOn with
 | _ i ih =>
  intro hi;cases h:L.getD i false with
  | true=>rfl
  | false =>
   exfalso;have:i∈Region.ready .any ops.toArray L:=(mem_ready' hs).2 ⟨hi,h,fun e he=>ih e ((certA_get a hi).2 e he) (Qi ((certA_get a hi).2 e he) hi)⟩;rw[hr]at this;cases this
def fl_exec {s:St} {n:E} {v:Option TV} {K:Act->World->Prop} (hA:Rel S w0 J s a w) (ho:ops[i]?=some o) (h:fl P ops s o=some (n,v)) (hn:bev J n=true)
 (hK:∀ x,(∀ u,v=some u->x=u.ev J)->K (a.put o.dst x) w):wpOp P ops.toArray Q i K a w:=by
 unfold wpOp;have:ops.toArray[i]?=some o:=by simpa using ho
 rw[this];simp only;unfold fl at h;split at h
 .cases h
 .rename_i hg;simp only[MN,Nr]at h;obtain⟨⟨n',u⟩,d,rfl,rfl⟩:=h;have hw:=guard_sound hA hg;rw[hw];simp only[wantB,OA];exact Or.inl (wp_value (W:=wpJ P) (quiet_sound hA d hn) (hK _ (fun y hy=>by cases hy;rfl)))
 .rename_i e want hg;have hw:Region.wanted o (yielded ops.toArray a.tmps)=(bev J e==want):=guard_sound hA hg;split at h
  .rename_i b f;rw[known_sound hA.path f]at hw;split at h
   .rename_i c;simp only[MN,Nr]at h;obtain⟨⟨n',u⟩,d,rfl,rfl⟩:=h;rw[hw,M0 (by simpa using c)];exact Or.inl (wp_value (W:=wpJ P) (quiet_sound hA d hn) (hK _ (fun y hy=>by cases hy;rfl)))
   .rename_i c;cases h;rw[hw,MM (by simpa using c)];exact hK _ (fun y hy=>by cases hy;rfl)
  .cases h
def put_get (a:Act) (d:Option Tmp) (x:Value) (t:Nat):(a.put d x).tmps[t]?=if d=some t/\t<a.tmps.size then some x else a.tmps[t]?:=by
 cases d with
 | none=>simp [Act.put]
 | some d =>
  by_cases h:d=t
  .subst h;by_cases hs:d<a.tmps.size
   .simp [Act.put,hs]
   .simp [Act.put,hs,Pb (Nat.le_of_not_lt hs)]
  .simp [Act.put,h,Oa h]
def stput_get (st:St) (d:Option Tmp) (v:Option TV) (t:Nat):(st.put d v).tmps[t]?=if d=some t/\t<st.tmps.length then some v else st.tmps[t]?:=by
 cases d with
 | none=>simp [St.put]
 | some d =>
  by_cases h:d=t
  .subst h;by_cases hs:d<st.tmps.length
   .simp [St.put,hs]
   .simp [St.put,hs,MS (Nat.le_of_not_lt hs)]
  .simp [St.put,h,Ny h]
def stput_len (st:St) (d:Option Tmp) (v:Option TV):(st.put d v).tmps.length=st.tmps.length:=by cases d<;>simp [St.put]
def vis_get {st:St} (h:(vis ops A i st).tmps[t]?=some (some u)):st.tmps[t]?=some (some u)/\∀ j,j<ops.length->dstAt ops j=some t->j∈A.getD i []:=by
 unfold vis at h;simp only[mapIx_get0,MN]at h;obtain⟨v,hv,he⟩:=h;split at he
 .cases he
 split at he
 .cases he
 .rename_i a;cases he;refine⟨hv,fun j b hd=>?_⟩;by_cases hm:j∈A.getD i []
  .exact hm
  .exfalso;apply a;rw[NP,List.mem_filterMap];refine⟨j,Nn.2 b,?_⟩;rw[MM (by rw[NP];exact hm)];exact hd
def vis_len {st:St} : (vis ops A i st).tmps.length=st.tmps.length:=by simp [vis]
end
section
variable {P:Program} {C:Ctx} {S:Nat->Prop} {w0:World} {J J':Env} {ops:List Oper} {A:List (List Nat)} {D D':Dr} {L:Array Bool} {pl:Nat->Nat} {a:Act} {w w':World}
def dstAt_eq (ho:ops[i]?=some o):dstAt ops i=o.dst:=by simp [dstAt,ho]
def dstAt_lt (h:dstAt ops i=some t):i<ops.length:=by
 unfold dstAt at h;cases ho:ops[i]? with
 | none=>simp [ho]at h
 | some o=>exact(MK.1 ho).1
def set_getD {L:Array Bool} (hi:i<L.size):(L.setIfInBounds i true).getD j false=if i=j then true else L.getD j false:=by
 rw[getD_set (fun _=>trivial)];simp [hi]
def Sim.rel_late (h:Sim P S w0 ops A J D L pl a w) (k:certA ops A=true) {f:Late} (hf:f∈D.late) (l:L.getD f.i false=false) (hr:∀ e∈esAt ops f.i,L.getD e false=true) :
 Rel S w0 J {f.snap with mem:=D.st.mem} a w:=by
 have hl:=h.late f hf l;have c:=h.dlt _ (h.ldone f hf);have b:=anc_closed k (p:=fun i=>L.getD i false=true) h.closed f.i c hr;refine⟨h.mem,by rw[h.size,<-hl.len],h.defers,fun t v hv=>?_,hl.path⟩;rcases hl.slots t v hv with ⟨g,_,hg,_,d⟩ | j
 .have:=b _ d;rw[hg]at this;cases this
 .exact j
def Sim.rel_vis (h:Sim P S w0 ops A J D L pl a w) (j:certA ops A=true) (hi:i<ops.length) (hr:∀ e∈esAt ops i,L.getD e false=true):Rel S w0 J (vis ops A i D.st) a w:=by
 have b:=anc_closed j (p:=fun i=>L.getD i false=true) h.closed i hi hr;refine⟨h.mem,by rw[h.size,vis_len],h.defers,fun t v hv=>?_,h.path⟩;obtain⟨h1,h2⟩:=vis_get hv;rcases h.slots t v h1 with ⟨g,hg,d,c⟩ | f
 .have:=b _ (h2 _ (dstAt_lt c) c);rw[d]at this;cases this
 .exact f
def Sim.lateStep (h:Sim P S w0 ops A J D L pl a w) (hu:Uniq ops) {f:Late} (hf:f∈D.late) (ho:ops[f.i]?=some o) (N:L.getD f.i false=false) (hr:∀ e∈esAt ops f.i,L.getD e false=true)
 {x:Value} (hx:∀ u,f.v=some u->x=u.ev J):Sim P S w0 ops A J D (L.setIfInBounds f.i true) pl (a.put o.dst x) w:=by
 have q:f.i<ops.length:=(MK.1 ho).1;have hs:∀ j,(L.setIfInBounds f.i true).getD j false=if f.i=j then true else L.getD j false:=fun j=>set_getD (by rw[h.lsz];exact q)
 have hd:=dstAt_eq ho;have hsz:(a.put o.dst x).tmps.size=a.tmps.size:=by cases o.dst<;>simp [Act.put]
 refine⟨by simp [h.lsz],h.mem,h.path,by rw[hsz];exact h.size,by cases o.dst<;>exact h.defers,?_,?_,?_,h.dlt,h.ldone,h.lval,?_,h.hid,?_,?_,?_,h.dclosed⟩
 .intro t u l;have hlen:t<a.tmps.size:=by rw[h.size];exact(MK.1 l).1
  rw[put_get];by_cases b:o.dst=some t
  .right;rw[M0 ⟨b,hlen⟩];rw[hx u (h.lval f hf t u (by rw[hd,b]) l)]
  .rw[MM (fun e=>b e.1)];rcases h.slots t u l with ⟨g,hg,c,r⟩ | hv
   .left;refine⟨g,hg,?_,r⟩;rw[hs,MM]
    .exact c
    .intro e;apply b;rw[<-hd,e];exact r
   .exact Or.inr hv
 .intro i hi;rw[hs]at hi;split at hi
  .rename_i e;subst e;exact Or.inl (h.ldone f hf)
  .exact h.lsub i hi
 .intro i hi;rcases h.dsub i hi with h1 | h1
  .left;rw[hs];split
   .rfl
   .exact h1
  .exact Or.inr h1
 .intro g hg c;rw[hs]at c;split at c
  .cases c
  .rename_i p;have hl:=h.late g hg c;refine⟨hl.fl,hl.need,hl.path,hl.len,fun t u l=>?_,hl.hid,hl.vals,hl.sub⟩;have hlen:t<a.tmps.size:=by rw[h.size,<-hl.len];exact(MK.1 l).1
   rw[put_get];by_cases b:o.dst=some t
   .right;rw[M0 ⟨b,hlen⟩];have hm:f.i∈A.getD g.i []:=by
     by_cases hm:f.i∈A.getD g.i []
     .exact hm
     .exact absurd l (hl.hid f.i t q (by rw[hd,b]) hm u)
    rw[hx u (hl.vals f hf hm t u (by rw[hd,b]) l)]
   .rw[MM (fun e=>b e.1)];rcases hl.slots t u l with ⟨H,F,s,m,y⟩ | hv
    .left;refine⟨H,F,?_,m,y⟩;rw[hs,MM]
     .exact s
     .intro e;apply b;rw[<-hd,e];exact m
    .exact Or.inr hv
 .intro j B k;have p:f.i≠j:=fun e=>k (e▸h.ldone f hf);rw[hs,MM p]at B;obtain⟨o',t,z,d,h1,h2,I,G,K,M⟩:=h.early j B k;refine⟨o',t,z,d,h1,h2,I,G,fun C=>?_,M⟩;rw[put_get,MM]
  .exact K (by rw[hsz]at C;exact C)
  .rintro⟨e,_⟩;exact p (hu _ _ d (by rw[hd,e]) (by rw[dstAt_eq h1,G]))
 .intro j j' B k E n;rw[hs,MM (show ¬f.i=j from fun e=>k (e▸h.ldone f hf))]at B;rw[hs,MM (show ¬f.i=j' from fun e=>n (e▸h.ldone f hf))]at E;exact h.inj j j' B k E n
 .intro i hi e he;rw[hs];split
  .rfl
  .rw[hs]at hi;split at hi
   .rename_i e1;subst e1;exact hr e he
   .exact h.closed i hi e he
def isAlloc_get (h:isAlloc ops j=true):∃ o t d,ops[j]?=some o/\o.op=.alloc t/\o.dst=some d/\o.guard=none/\esAt ops j=[]:=by
 unfold isAlloc at h;split at h
 .rename_i o ho;split at h
  .rename_i t d h1 h2 a;exact⟨o,t,d,ho,h1,a,h2,by unfold esAt;rw[ho];simpa using h⟩
  .cases h
 .cases h
def Sim.allocStep (h:Sim P S w0 ops A J D L pl a w) (hu:Uniq ops) (H:isAlloc ops j=true) (n:j∉D.done) (Y:L.getD j false=false) {t:TypeId} {d:Tmp} (ho:ops[j]?=some o) (I:o.op=.alloc t) (c:o.dst=some d) (hz:zeroT P t=some z) :
 Sim P S w0 ops A J D (L.setIfInBounds j true) (fun k=>if k=j then w.heap.size else pl k) (a.put o.dst (.pointer (some ⟨w.heap.size,0,none⟩))) (w.alloc (.cells z.cells t)):=by
 have x:j<ops.length:=(MK.1 ho).1;have hs:∀ k,(L.setIfInBounds j true).getD k false=if j=k then true else L.getD k false:=fun k=>set_getD (by rw[h.lsz];exact x)
 have hd:=dstAt_eq ho;have hsz:(a.put o.dst (.pointer (some ⟨w.heap.size,0,none⟩))).tmps.size=a.tmps.size:=by cases o.dst<;>simp [Act.put]
 have y:RowKit.Below w.heap.size w (w.alloc (.cells z.cells t)):=(RowKit.Below.refl _ _).alloc (M1 _) _;refine⟨by simp [h.lsz],h.mem.below y,h.path,by rw[hsz];exact h.size,by rw[c];exact h.defers,?_,?_,?_,h.dlt,h.ldone,h.lval,?_,h.hid,?_,?_,?_,h.dclosed⟩
 .intro t' u B;rw[put_get];by_cases f:o.dst=some t'
  .exact absurd B (h.hid j H n t' u (by rw[hd,f]))
  .rw[MM (fun e=>f e.1)];rcases h.slots t' u B with ⟨g,hg,b,K⟩ | hv
   .left;refine⟨g,hg,?_,K⟩;rw[hs,MM]
    .exact b
    .intro e;exact n (e▸h.ldone g hg)
   .exact Or.inr hv
 .intro i hi;rw[hs]at hi;split at hi
  .rename_i e;subst e;exact Or.inr H
  .exact h.lsub i hi
 .intro i hi;rcases h.dsub i hi with h1 | h1
  .left;rw[hs];split
   .rfl
   .exact h1
  .exact Or.inr h1
 .intro g hg b;rw[hs]at b;split at b
  .cases b
  .have hl:=h.late g hg b;refine⟨hl.fl,hl.need,hl.path,hl.len,fun t' u B=>?_,hl.hid,hl.vals,hl.sub⟩;rw[put_get];by_cases f:o.dst=some t'
   .exact absurd B (hl.hid j t' x (by rw[hd,f]) (fun hm=>n (hl.sub j hm)) u)
   .rw[MM (fun e=>f e.1)];rcases hl.slots t' u B with ⟨O,C,E,F,G⟩ | hv
    .left;refine⟨O,C,?_,F,G⟩;rw[hs,MM]
     .exact E
     .intro e;exact n (e▸h.ldone O C)
    .exact Or.inr hv
 .intro k hk cj;rw[hs]at hk;by_cases p:j=k
  .subst p;refine⟨o,t,z,d,ho,I,hz,c,?_,?_,?_,?_⟩
   .intro l;simp only[OA];rw[hsz]at l;rw[put_get,M0 ⟨c,l⟩]
   .simp only[OA];exact heap_alloc_new w _
   .simp only[OA];exact h.mem.keep.size
   .intro r hr hm;simp only[OA]at hm;have:=Hl.sub_lt (h.mem.sub r hr) hm;omega
  .rw[MM p]at hk;obtain⟨o',t',T,Q,h1,h2,U,R,V,v,W,X⟩:=h.early k hk cj;have q:k≠j:=fun e=>p e.symm;refine⟨o',t',T,Q,h1,h2,U,R,?_,?_,?_,?_⟩
   .intro l;simp only[MM q];rw[put_get,MM]
    .exact V (by rw[hsz]at l;exact l)
    .rintro⟨e,_⟩;exact p (hu _ _ Q (by rw[hd,e]) (by rw[dstAt_eq h1,R]))
   .simp only[MM q];rw[heap_alloc_old w _ (Ng.1 v).1];exact v
   .simp only[MM q];exact W
   .simp only[MM q];exact X
 .intro k M hk cj m s he;rw[hs]at hk m;by_cases h1:k=j<;>by_cases h2:M=j
  .rw[h1,h2]
  .rw[M0 h1,MM h2]at he;rw[MM (fun e=>h2 e.symm)]at m;obtain⟨_,_,_,_,_,_,_,_,_,v,_⟩:=h.early M m s;have:=(Ng.1 v).1;omega
  .rw[MM h1,M0 h2]at he;rw[MM (fun e=>h1 e.symm)]at hk;obtain⟨_,_,_,_,_,_,_,_,_,v,_⟩:=h.early k hk cj;have:=(Ng.1 v).1;omega
  .rw[MM h1,MM h2]at he;rw[MM (fun e=>h1 e.symm)]at hk;rw[MM (fun e=>h2 e.symm)]at m;exact h.inj k M hk cj m s he
 .intro i hi e he;rw[hs];split
  .rfl
  .rw[hs]at hi;split at hi
   .rename_i e1;subst e1;obtain⟨_,_,_,_,_,_,_,N⟩:=isAlloc_get H;rw[N]at he;cases he
   .exact h.closed i hi e he
def Sim.path_add (h:Sim P S w0 ops A J D L pl a w) {cs:List E} (b:∀ c∈cs,bev J c=true):Sim P S w0 ops A J {D with st:={D.st with path:=cs++D.st.path}} L pl a w :=
 ⟨h.lsz,h.mem,fun e he=>(Nb.1 he).elim (b e) (h.path e),h.size,h.defers,h.slots,h.lsub,h.dsub,h.dlt,h.ldone,h.lval,
  fun f hf d=>let l:=h.late f hf d;⟨l.fl,l.need,l.path,l.len,l.slots,l.hid,l.vals,l.sub⟩,h.hid,h.early,h.inj,h.closed,h.dclosed⟩
end
section
variable {P:Program} {C:Ctx} {S:Nat->Prop} {w0:World} {J J':Env} {ops:List Oper} {A:List (List Nat)} {D D':Dr} {L:Array Bool} {pl:Nat->Nat} {a:Act} {w w':World}
def Sim.unlisted (h:Sim P S w0 ops A J D L pl a w) (hd:i∉D.done) (b:isAlloc ops i=false):L.getD i false=false:=by
 cases c:L.getD i false with
 | false=>rfl
 | true=>rcases h.lsub i c with h1 | h1
         .exact absurd h1 hd
         .rw[b]at h1;cases h1
def Sim.float (h:Sim P S w0 ops A J D L pl a w) (F:certA ops A=true) (hu:Uniq ops) (ho:ops[i]?=some o) (hd:i∉D.done) (U:isAlloc ops i=false) (G:∀ e∈esAt ops i,e∈D.done)
 {n:E} {v:Option TV} (hf:fl P ops (vis ops A i D.st) o=some (n,v)) (hn:bev J n=true) {cs:List E} (N:∀ c∈cs,bev J c=true) :
 Sim P S w0 ops A J ⟨({D.st with path:=cs++D.st.path} : St).put o.dst v,i::D.done,⟨i,vis ops A i D.st,n,v⟩::D.late⟩ L pl a w:=by
 have H:i<ops.length:=(MK.1 ho).1;have V:=h.unlisted hd U;have q:=dstAt_eq ho;have B:=anc_closed F (p:=fun k=>k∈D.done) h.dclosed i H G;have s:(({D.st with path:=cs++D.st.path} : St).put o.dst v).mem=D.st.mem:=St.put_mem _ _ _;have x:∀ t u,(({D.st with path:=cs++D.st.path} : St).put o.dst v).tmps[t]?=some (some u)->(o.dst=some t/\v=some u)\/(o.dst≠some t/\D.st.tmps[t]?=some (some u)):=by
  intro t u d;rw[stput_get]at d;split at d
  .rename_i F;left;exact⟨F.1,Nx d⟩
  .rename_i F;by_cases I:o.dst=some t
   .exfalso;have:t<D.st.tmps.length:=(MK.1 d).1;exact F ⟨I,this⟩
   .exact Or.inr ⟨I,d⟩
 refine⟨h.lsz,by rw[s];exact h.mem,?_,by rw[stput_len];exact h.size,h.defers,?_,?_,?_,?_,?_,?_,?_,?_,?_,?_,h.closed,?_⟩
 .rw[St.put_path];exact fun e he=>(Nb.1 he).elim (N e) (h.path e)
 .intro t u d;rcases x t u d with ⟨h1,h2⟩ | ⟨h1,h2⟩
  .left;exact⟨_,Nh ..,V,by rw[q,h1]⟩
  .rcases h.slots t u h2 with ⟨f,b,r⟩ | hv
   .left;exact⟨f,MW _ b,r⟩
   .exact Or.inr hv
 .intro k hk;exact(h.lsub k hk).imp (MW _) id
 .intro k hk;rcases MQ.1 hk with rfl | hk
  .right;exact⟨_,Nh ..,rfl⟩
  .rcases h.dsub k hk with h1 | ⟨f,b,r⟩
   .exact Or.inl h1
   .exact Or.inr ⟨f,MW _ b,r⟩
 .intro k hk;rcases MQ.1 hk with rfl | hk
  .exact H
  .exact h.dlt k hk
 .intro f b;rcases MQ.1 b with rfl | b
  .exact Nh ..
  .exact MW _ (h.ldone f b)
 .intro f b t u C d;rcases MQ.1 b with rfl | b
  .rcases x t u d with ⟨_,h2⟩ | ⟨h1,_⟩
   .exact h2
   .exact absurd (by rw[<-q];exact C) h1
  .rcases x t u d with ⟨h1,_⟩ | ⟨_,h2⟩
   .exact absurd (hu _ _ t C (by rw[q,h1])▸h.ldone f b) hd
   .exact h.lval f b t u C h2
 .intro f b O;rcases MQ.1 b with rfl | b
  .refine⟨⟨o,ho,?_⟩,hn,h.path,?_,?_,?_,?_,?_⟩
   .rw[s];exact hf
   .rw[stput_len];exact vis_len
   .intro t u d;obtain⟨h1,h2⟩:=vis_get d;rcases h.slots t u h1 with ⟨g,hg,Q,l⟩ | hv
    .left;exact⟨g,MW _ hg,Q,l,h2 _ (dstAt_lt l) l⟩
    .exact Or.inr hv
   .intro j t y m R u d;exact R ((vis_get d).2 j y m)
   .intro g hg z t u l d;rcases MQ.1 hg with rfl | hg
    .exact absurd (B _ z) hd
    .exact h.lval g hg t u l (vis_get d).1
   .intro j y;exact MW _ (B j y)
  .have hl:=h.late f b O;refine⟨?_,hl.need,hl.path,by rw[stput_len];exact hl.len,?_,hl.hid,?_,fun j y=>MW _ (hl.sub j y)⟩
   .rw[s];exact hl.fl
   .intro t u d;rcases hl.slots t u d with ⟨g,hg,r⟩ | hv
    .left;exact⟨g,MW _ hg,r⟩
    .exact Or.inr hv
   .intro g hg z t u l d;rcases MQ.1 hg with rfl | hg
    .exact absurd (hl.sub _ z) hd
    .exact hl.vals g hg z t u l d
 .intro j y m t u K d;rcases x t u d with ⟨h1,_⟩ | ⟨_,h2⟩
  .have:=hu _ _ t K (by rw[q,h1]);rw[this,U]at y;cases y
  .exact h.hid j y (fun e=>m (MW _ e)) t u K h2
 .intro j y m;rw[s];exact h.early j y (fun e=>m (MW _ e))
 .intro j j' y m T M;exact h.inj j j' y (fun e=>m (MW _ e)) T (fun e=>M (MW _ e))
 .intro k hk e he;rcases MQ.1 hk with rfl | hk
  .exact MW _ (G e he)
  .exact MW _ (h.dclosed k hk e he)
def lateB_get {mem:Mem} {f:Late} (h:lateB P ops mem f=true):∃ o,ops[f.i]?=some o/\fl P ops {f.snap with mem:=mem} o=some (f.n,f.v):=by
 unfold lateB at h;split at h
 .rename_i o ho;split at h
  .rename_i n v hf;simp only[ML,MI]at h;refine⟨o,ho,?_⟩;rw[hf,h.1,eqO_eq h.2]
  .cases h
 .cases h
def MRel.adopt {mem:Mem} (h:MRel S w0 J mem w) {p:Nat} {l:List CV} {x:Res} (hx:x=.blk b l T) (hag:∀ s∈mem,s.same J J') (hb:(J'.i b)=(p:Int)) (hw:w.heap[p]?=some (.cells (l.map (CV.ev J')).toArray T (0,0)))
 (h0:w0.heap.size<=p) (hn:∀ r∈mem,¬(r.hl J).mem p):MRel S w0 J' (mem++[x]) w:=by
 subst hx;have hm:=h.agree hag;have a:∀ c,((Res.blk b l T).hl J').mem c->c=p:=fun c e=>by
  have:=Hl.one_mem.1 e;rw[hb]at this;simpa using this
 have key:∀ (q:Nat) r,(mem++[Res.blk b l T])[q]?=some r->mem[q]?=some r\/(q=mem.length/\r=.blk b l T):=by
  intro q r d;rw[O0]at d;split at d
  .exact Or.inl d
  .have:q-mem.length=0:=by
    rcases OR (q-mem.length)with h0 | h0
    .exact h0
    .rw[MS (by simp;omega)]at d;cases d
   rw[this]at d;simp only[NG,MP]at d;exact Or.inr ⟨ae,d.symm⟩
 have f:∀ r∈mem,¬(r.hl J').mem p:=fun r hr hp=>hn r hr (by rw[<-(hag r hr).1];exact hp);refine⟨hm.keep,fun r hr=>?_,fun r hr ho c e=>?_,fun q q' r s g d j ho=>?_,fun r hr=>?_⟩
 .rcases Nb.1 hr with hr | hr
  .exact hm.sub r hr
  .rw[MO.1 hr];intro c o e;obtain⟨rfl,rfl⟩:=Hl.one_eq e;rw[hb,MD];exact hw
 .rcases Nb.1 hr with hr | hr
  .exact hm.own r hr ho c e
  .rw[MO.1 hr]at e;rw[a c e];exact Or.inr h0
 .rcases key q r d with h1 | ⟨h1,rfl⟩<;>rcases key q' s j with h2 | ⟨h2,rfl⟩
  .exact hm.dis q q' r s g h1 h2 ho
  .rintro c ⟨x,y⟩;rw[a c y]at x;exact f r (MG h1) x
  .rintro c ⟨x,y⟩;rw[a c x]at y;exact f s (MG h2) y
  .exact absurd (h1.trans h2.symm) g
 .rcases Nb.1 hr with hr | hr
  .exact hm.pos r hr
  .rw[MO.1 hr];show 0<=J'.i b;rw[hb];omega
def Dr.upto_st (h:D.upto=true):D.st.upto D.st.nv=true:=by
 unfold Dr.upto at h;simp only[ML]at h;exact h.1
def Dr.upto_late (h:D.upto=true) {f:Late} (hf:f∈D.late):f.snap.tmps.all (optB (·.upto D.st.nv))=true/\f.snap.path.all (·.upto D.st.nv)=true/\f.n.upto D.st.nv=true:=by
 unfold Dr.upto at h;simp only[ML,M8]at h;have:=h.2 f hf;unfold Late.upto at this;simp only[ML]at this;exact⟨this.1.1,this.1.2,this.2⟩
def St.upto_tmp {st:St} (h:st.tmps.all (optB (·.upto n))=true) (a:st.tmps[t]?=some (some u)):u.upto n=true:=by
 rw[M8]at h;exact h _ (MG a)
def LateOK.next {f:Late} (h:LateOK P ops A J D L a f) (hu:D.upto=true) (hg:Agree D.st.nv J J') (hf:f∈D.late) {D':Dr} {L':Array Bool} {a':Act} (hb:lateB P ops D'.st.mem f=true)
 (hlen:D'.st.tmps.length=D.st.tmps.length) (b:∀ (t:Nat) u,f.snap.tmps[t]?=some (some u)->((∃ g∈D.late,L.getD g.i false=false/\dstAt ops g.i=some t/\g.i∈A.getD f.i [])\/a.tmps[t]?=some (u.ev J)) ->
  ((∃ g∈D'.late,L'.getD g.i false=false/\dstAt ops g.i=some t/\g.i∈A.getD f.i [])\/a'.tmps[t]?=some (u.ev J)))
 (hlate:∀ g∈D'.late,g∈D.late) (hdone:∀ j∈D.done,j∈D'.done):LateOK P ops A J' D' L' a' f:=by
 obtain⟨e,k,l⟩:=Dr.upto_late hu hf;refine⟨lateB_get hb,by rw[bev_agree hg l];exact h.need,h.path.agree hg k,by rw[hlen];exact h.len,fun t u c=>?_,h.hid,fun g d=>h.vals g (hlate g d),fun j m=>hdone j (h.sub j m)⟩;rw[TV.agree hg u (St.upto_tmp e c)];exact b t u c (h.slots t u c)
def Sim.import (h:Sim P S w0 ops A J D L pl a w) (hu:Uniq ops) (hd:j∉D.done) (E:L.getD j false=true) (hi:importD P ops D j=some D') :
 ∃ J',Agree D.st.nv J J'/\0<=J'.i D.st.nv/\Sim P S w0 ops A J' D' L pl a w/\D'.st.nv=D.st.nv+1:=by
 unfold importD at hi;split at hi
 .rename_i o ho;split at hi
  .rename_i t d F q;split at hi
   .rename_i z hz;split at hi
    .rename_i n;cases hi;simp only[ML]at n;obtain⟨⟨s,G⟩,hlate⟩:=n;rw[M8]at hlate;obtain⟨o',t',O,Q,h1,h2,R,T,U,V,W,X⟩:=h.early j E hd;rw[ho]at h1;cases h1;rw[F]at h2;cases h2;rw[hz]at R;cases R;rw[q]at T;cases T;have H:j<ops.length:=(MK.1 ho).1;have v:dstAt ops j=some d:=by rw[dstAt_eq ho,q]
     let J':=J.setI D.st.nv (pl j)
     have hg:Agree D.st.nv J J':=agree_setI _ _ _ (M1 _);have e1:J'.i D.st.nv=(pl j:Int):=setI_i _ _ _;have x:=Dr.upto_st s;have hag:=Mem.agree hg (St.upto_mem x);have l:=x;simp only[St.upto,ML]at l;have m:∀ t' u,(({D.st with mem:=D.st.mem++[.blk D.st.nv (z.cells.toList.map liftC) t],nv:=D.st.nv+1} : St).put (some d) (some (TP (.var D.st.nv) (.lit 0)))).tmps[t']?=some (some u) ->
      (d=t'/\u=TP (.var D.st.nv) (.lit 0)/\d<D.st.tmps.length)\/(d≠t'/\D.st.tmps[t']?=some (some u)):=by
      intro t' u b;rw[stput_get]at b;split at b
      .rename_i n;left;simp only[MP]at n b;exact⟨n.1,b.symm,n.1▸n.2⟩
      .rename_i n;by_cases y:d=t'
       .exfalso;have:t'<D.st.tmps.length:=(MK.1 b).1;exact n ⟨by rw[y],this⟩
       .exact Or.inr ⟨y,b⟩
     refine⟨J',hg,by rw[e1];omega,⟨h.lsz,?_,?_,by rw[stput_len];exact h.size,h.defers,?_,?_,?_,?_,?_,?_,?_,?_,?_,?_,h.closed,?_⟩,by rw[St.put_nv]⟩
     .rw[St.put_mem];refine h.mem.adopt (p:=pl j) rfl hag e1 ?_ W X;rw[map_liftC];exact V
     .rw[St.put_path];exact h.path.agree hg l.2
     .intro t' u b;rcases m t' u b with ⟨rfl,rfl,I⟩ | ⟨Y,b⟩
      .right;rw[U (by rw[h.size];exact I)];simp only[TV.ev,SV.ev,CV.ev,iev_var,iev_lit,e1];rw[slP_pos ae];simp
      .rw[TV.agree hg u (St.upto_tmp l.1.1 b)];exact h.slots t' u b
     .intro k hk;exact(h.lsub k hk).imp (MW _) id
     .intro k hk;rcases MQ.1 hk with rfl | hk
      .exact Or.inl E
      .exact h.dsub k hk
     .intro k hk;rcases MQ.1 hk with rfl | hk
      .exact H
      .exact h.dlt k hk
     .intro f hf;exact MW _ (h.ldone f hf)
     .intro f hf t' u B b;rcases m t' u b with ⟨rfl,_⟩ | ⟨_,b⟩
      .exact absurd (hu _ _ _ B v▸h.ldone f hf) hd
      .exact h.lval f hf t' u B b
     .intro f hf K;refine(h.late f hf K).next s hg hf ?_ (by rw[stput_len]) (fun _ _ _ hs=>hs) (fun g hg=>hg) (fun k hk=>MW _ hk);rw[St.put_mem];exact hlate f hf
     .intro k hk cj t' u C b;rcases m t' u b with ⟨rfl,_⟩ | ⟨_,b⟩
      .exact absurd (MQ.2 (Or.inl (hu _ _ _ C v))) cj
      .exact h.hid k hk (fun e=>cj (MW _ e)) t' u C b
     .intro k hk cj;have c:k∉D.done:=fun e=>cj (MW _ e);obtain⟨o',t',O,Q,Z,g2,g3,g4,g5,g6,g7,g8⟩:=h.early k hk c;refine⟨o',t',O,Q,Z,g2,g3,g4,g5,g6,g7,fun r hr hm=>?_⟩;rw[St.put_mem]at hr;rcases Nb.1 hr with hr | hr
      .rw[(hag r hr).1]at hm;exact g8 r hr hm
      .rw[MO.1 hr]at hm;have:=Hl.one_mem.1 hm;rw[e1,MD]at this;exact cj (MQ.2 (Or.inl (h.inj k j hk c E hd this)))
     .intro k k' hk cj M c;exact h.inj k k' hk (fun e=>cj (MW _ e)) M (fun e=>c (MW _ e))
     .intro k hk e he;rcases MQ.1 hk with rfl | hk
      .obtain⟨_,_,_,_,_,_,_,N⟩:=isAlloc_get G;rw[N]at he;cases he
      .exact MW _ (h.dclosed k hk e he)
    .cases hi
   .cases hi
  .cases hi
 .cases hi
def mrgOf_mem {C:Ctx} {st s:St} {x:X} (h:mrgOf P st o=some (s,x)) (hm:MRel S w0 J st.mem w) :
 ∃ J',Agree st.nv J J'/\x.n=st.nv/\x.rel C J J'/\s.nv=st.nv+1/\MRel S w0 J' s.mem w/\∀ r∈s.mem,∀ b,(r.hl J').mem b->∃ d∈st.mem,(d.hl J).mem b:=by
 unfold mrgOf at h;split at h
 .split at h
  .rename_i p k vers tags links hp;split at h
   .rename_i y q r f;split at h
    .rename_i hu;cases h;have hp:=posOf_sound hp;obtain⟨h1,h2,c⟩:=mrgQ_sound f;have hg:Agree st.nv J (J.setH st.nv (((Res.hp k vers tags links).hl J).un (r.hl J))):=agree_setH _ _ _ (M1 _);have hag:=Mem.agree hg (St.upto_mem hu);refine⟨_,hg,rfl,⟨setH_h _ _ _,hm.dis p q _ _ c.symm hp h1 rfl⟩,rfl,hm.mrg hp h1 c rfl h2 hag (setH_h _ _ _) trivial,fun r' a b hb=>?_⟩;rcases O3 a with a | rfl
     .rcases O3 a with a | rfl
      .rw[(hag r' a).1]at hb;exact⟨r',a,hb⟩
      .have hb:(((Res.hp k vers tags links).hl J).un (r.hl J)).mem b:=by
        have e:(Res.hp st.nv (k::r.ks++vers) (tags++y::r.tagL) links).hl (J.setH st.nv (((Res.hp k vers tags links).hl J).un (r.hl J)))=((Res.hp k vers tags links).hl J).un (r.hl J):=setH_h _ _ _;rw[<-e];exact hb
       rcases Hl.un_mem.1 hb with hb | hb
       .exact⟨_,MG hp,hb⟩
       .exact⟨_,MG h1,hb⟩
     .cases hb
    .cases h
   .cases h
  .cases h
 .cases h
def Sim.merge {C:Ctx} (h:Sim P S w0 ops A J D L pl a w) {x:X} (hm:mrgD P ops A D c=some (D',x)) :
 ∃ J',Agree D.st.nv J J'/\x.n=D.st.nv/\x.rel C J J'/\D'.st.nv=D.st.nv+1/\Sim P S w0 ops A J' D' L pl a w:=by
 unfold mrgD at hm;split at hm
 .rename_i o ho;split at hm
  .rename_i s x' hx;split at hm
   .rename_i v;cases hm;simp only[ML]at v;obtain⟨d,hlate⟩:=v;rw[M8]at hlate;obtain⟨J',hg,i,j,l,z,e⟩:=mrgOf_mem (C:=C) hx h.mem;have m:=Dr.upto_st d;have b:=m;simp only[St.upto,ML]at b;refine⟨J',hg,i,j,l,⟨h.lsz,z,h.path.agree hg b.2,h.size,h.defers,fun t u y=>?_,h.lsub,h.dsub,h.dlt,h.ldone,h.lval,fun f hf p=>?_,h.hid,fun k hk cj=>?_,h.inj,h.closed,h.dclosed⟩⟩
    .rw[TV.agree hg u (St.upto_tmp b.1.1 y)];exact h.slots t u y
    .exact(h.late f hf p).next d hg hf (hlate f hf) rfl (fun _ _ _ hs=>hs) (fun g hg=>hg) (fun k hk=>hk)
    .obtain⟨o',t',B,E,F,G,g3,g4,H,I,K,M⟩:=h.early k hk cj;refine⟨o',t',B,E,F,G,g3,g4,H,I,K,fun r hr hb=>?_⟩;obtain⟨N,hr0,q⟩:=e r hr _ hb;exact M N hr0 q
   .cases hm
  .cases hm
 .cases hm
end
section
variable {P:Program} {C:Ctx} {S:Nat->Prop} {w0:World} {J J':Env} {ops:List Oper} {A:List (List Nat)} {D D':Dr} {L:Array Bool} {pl:Nat->Nat} {a:Act} {w w':World}
def wantsB_sound {s:St} (hA:Rel S w0 J s a w) (h:wantsB ops s o=true):Region.wanted o (yielded ops.toArray a.tmps)=true:=by
 unfold wantsB at h;split at h
 .rename_i hg;rw[guard_sound hA hg];rfl
 .rename_i e want hg;have hw:Region.wanted o (yielded ops.toArray a.tmps)=(bev J e==want):=guard_sound hA hg;have hk:known s.path e=some want:=by simpa using h
  rw[hw,known_sound hA.path hk];simp
 .cases h
def Sim.chain (aw:∀ s∈C.Γ,s.OK P) (h:Sim P S w0 ops A J D L pl a w) (hc:certA ops A=true) (hu:Uniq ops) (T:c<ops.length) (hd:c∉D.done) (ha:isAlloc ops c=false) (ax:∀ e∈esAt ops c,e∈D.done) (hr:∀ e∈esAt ops c,L.getD e false=true)
 {R:XR} (hx:chainD P C.Γ ops A D c=some (D',R)) {ms:Nat->Nat} (hn:R.need.holds C ms J) {K:Act->World->Prop} {Q:Exit->Act->World->Prop}
 (hK:∀ J' a' w',Agree D.st.nv J J'->(match R.x with | some y=>y.rel C J J'/\y.n=D.st.nv | none=>J'=J)->Sim P S w0 ops A J' D' (L.setIfInBounds c true) pl a' w'->D.st.nv<=D'.st.nv->K a' w'):wpOp P ops.toArray Q c K a w:=by
 unfold chainD at hx;split at hx
 .rename_i o ho;simp only at hx;split at hx
  .rename_i hw;split at hx
   .rename_i R' hR;split at hx
    .rename_i U;cases hx;simp only[ML,MI]at U;obtain⟨⟨⟨ai,ay⟩,ad⟩,hlate⟩:=U;unfold roB at ad;rw[M8]at hlate ad;have hL:=h.unlisted hd ha;have z:=h.rel_vis hc T hr;have V:=anc_closed hc (p:=fun i=>L.getD i false=true) h.closed c T hr;have M:=dstAt_eq ho;have aj:=Dr.upto_st ai;have X:=aj;simp only[St.upto,ML]at X
     let E:Nat->Prop:=fun b=>∃ j,L.getD j false=true/\j∉D.done/\pl j=b
     let S':Nat->Prop:=fun b=>(S b\/w0.heap.size<=b)/\¬E b
     have hE:∀ r∈D.st.mem,∀ b,(r.hl J).mem b->¬E b:=by
      rintro r hr b hb ⟨j,F,m,rfl⟩;obtain⟨_,_,_,_,_,_,_,_,_,_,_,h8⟩:=h.early j F m;exact h8 r hr hb
     have af:Rel S' w J (vis ops A c D.st) a w:=by
      refine⟨⟨Keep.refl _ _,h.mem.sub,fun r hr ho b hb=>Or.inl ⟨h.mem.own r hr ho b hb,hE r hr b hb⟩,h.mem.dis,h.mem.pos⟩,z.size,z.defers,z.tmp,z.path⟩
     unfold wpOp;have:ops.toArray[c]?=some o:=by simpa using ho
     rw[this];simp only;rw[M0 (wantsB_sound z hw)];refine Or.inl (extE_sound (W:=wpJ P) (Q:=Q) aw af hR hn (fun J' x w' hg az G=>?_));have hg:Agree D.st.nv J J':=hg;have hag:=Mem.agree hg (St.upto_mem aj);have hs:∀ k,(L.setIfInBounds c true).getD k false=if c=k then true else L.getD k false:=fun k=>set_getD (by rw[h.lsz];exact T)
     have hsz:(a.put o.dst x).tmps.size=a.tmps.size:=by cases o.dst<;>simp [Act.put]
     have hk:=G.keep;have aA:∀ k,k<w0.heap.size->¬S k->¬S' k:=fun k hk hS ag=>ag.1.elim hS (fun h=>ae);have ah:∀ j,L.getD j false=true->j∉D.done->w'.heap[pl j]?=w.heap[pl j]?:=by
      intro j F m;obtain⟨_,_,_,_,_,_,_,_,_,h6,_⟩:=h.early j F m;exact hk.block _ (Ng.1 h6).1 (fun ag=>ag.2 ⟨j,F,m,rfl⟩)
     have ak:MRel S w0 J' R.st.mem w':=by
      refine⟨⟨hk.os.trans h.mem.keep.os,hk.tape.trans h.mem.keep.tape,hk.output.trans h.mem.keep.output,NT h.mem.keep.size hk.size,fun k kD hS=>?_⟩,G.sub,fun r hr ho b hb=>?_,G.dis,G.pos⟩
      .rw[hk.block k (Oi kD h.mem.keep.size) (aA k kD hS)];exact h.mem.keep.block k kD hS
      .rcases G.own r hr ho b hb with h1 | h1
       .exact h1.1
       .right;have:=h.mem.keep.size;omega
     have Y:∀ t u,(({D.st with mem:=R.st.mem,nv:=R.st.nv} : St).put o.dst (match o.dst with | some d=>R.st.tmps.getD d none | none=>none)).tmps[t]?=some (some u) ->
      (o.dst=some t/\R.st.tmps[t]?=some (some u))\/(o.dst≠some t/\D.st.tmps[t]?=some (some u)):=by
      intro t u l;rw[stput_get]at l;split at l
      .rename_i Z;left;refine⟨Z.1,?_⟩;rw[Z.1]at l;simp only[MP]at l;rw[MR]at l;cases hq:R.st.tmps[t]? with
       | none=>rw[hq]at l;cases l
       | some q=>rw[hq]at l;simp only[Oe]at l;rw[l]
      .rename_i Z;by_cases N:o.dst=some t
       .exfalso;have:t<D.st.tmps.length:=(MK.1 l).1;exact Z ⟨N,this⟩
       .exact Or.inr ⟨N,l⟩
     have H:∀ t (u:TV),o.dst≠some t->u.upto D.st.nv=true->a.tmps[t]?=some (u.ev J)->(a.put o.dst x).tmps[t]?=some (u.ev J'):=by
      intro t u B aB hv;rw[put_get,MM (fun e=>B e.1),hv,TV.agree hg u aB]
     refine hK J' (a.put o.dst x) w' hg az ⟨by simp [h.lsz],by rw[St.put_mem];exact ak,by rw[St.put_path];exact h.path.agree hg X.2,by rw[stput_len,hsz];exact h.size,by cases o.dst<;>exact h.defers,?_,?_,?_,?_,?_,?_,?_,?_,?_,?_,?_,?_⟩ (by rw[St.put_nv];exact ay)
     .intro t u l;rcases Y t u l with ⟨h1,h2⟩ | ⟨B,l⟩
      .right;exact G.tmp t u h2
      .rcases h.slots t u l with ⟨f,hf,I,aC⟩ | hv
       .left;refine⟨f,?_,?_,aC⟩
        .rw[NW];refine⟨hf,?_⟩;simp only[NK];cases O:(A.getD c []).contains f.i with
         | false=>rfl
         | true=>have:=V _ (NP.1 O);rw[I]at this;cases this
        .rw[hs,MM (show ¬c=f.i from fun e=>hd (e▸h.ldone f hf))];exact I
       .right;exact H t u B (St.upto_tmp X.1.1 l) hv
     .intro k hk;rw[hs]at hk;split at hk
      .rename_i e;subst e;exact Or.inl (Nh ..)
      .exact(h.lsub k hk).imp (MW _) id
     .intro k hk;rcases MQ.1 hk with rfl | hk
      .left;rw[hs,M0 rfl]
      .rcases h.dsub k hk with h1 | ⟨f,hf,rfl⟩
       .left;rw[hs];split
        .rfl
        .exact h1
       .cases O:(A.getD c []).contains f.i with
        | true =>
         left;rw[hs];split
         .rfl
         .exact V _ (NP.1 O)
        | false=>right;exact⟨f,by rw[NW];exact⟨hf,by rw[O];rfl⟩,rfl⟩
     .intro k hk;rcases MQ.1 hk with rfl | hk
      .exact T
      .exact h.dlt k hk
     .intro f hf;exact MW _ (h.ldone f (NW.1 hf).1)
     .intro f hf t u al l;have hf:=(NW.1 hf).1;rcases Y t u l with ⟨h1,_⟩ | ⟨_,l⟩
      .exact absurd (hu _ _ t al (by rw[M,h1])▸h.ldone f hf) hd
      .exact h.lval f hf t u al l
     .intro f hf I;have aD:=hlate f hf;have hf:=(NW.1 hf).1;have B:c≠f.i:=fun e=>hd (e▸h.ldone f hf);rw[hs,MM B]at I;refine(h.late f hf I).next ai hg hf (by rw[St.put_mem];exact aD) (by rw[stput_len]) (fun t u l aE=>?_) (fun g aa=>(NW.1 aa).1) (fun k hk=>MW _ hk);rcases aE with ⟨g,aa,an,aF,aG⟩ | hv
      .left;refine⟨g,?_,?_,aF,aG⟩
       .rw[NW];refine⟨aa,?_⟩;simp only[NK];cases O:(A.getD c []).contains g.i with
        | false=>rfl
        | true=>have:=V _ (NP.1 O);rw[an]at this;cases this
       .rw[hs,MM (show ¬c=g.i from fun e=>hd (e▸h.ldone g aa))];exact an
      .right;have N:o.dst≠some t:=by
        intro N;exact(h.late f hf I).hid c t T (by rw[M,N]) (fun hm=>hd ((h.late f hf I).sub c hm)) u l
       rw[put_get,MM (fun e=>N e.1)];exact hv
     .intro j F m t u ao l;rcases Y t u l with ⟨h1,_⟩ | ⟨_,l⟩
      .have:=hu _ _ t ao (by rw[M,h1]);rw[this,ha]at F;cases F
      .exact h.hid j F (fun e=>m (MW _ e)) t u ao l
     .intro j F m;have v:j∉D.done:=fun e=>m (MW _ e);have B:c≠j:=fun e=>m (MQ.2 (Or.inl e.symm));rw[hs,MM B]at F;obtain⟨o',t',z',d',g1,g2,g3,g4,g5,g6,g7,g8⟩:=h.early j F v;refine⟨o',t',z',d',g1,g2,g3,g4,fun aq=>?_,by rw[ah j F v];exact g6,g7,fun r hr hm=>?_⟩
      .rw[put_get,MM]
       .exact g5 (by rw[hsz]at aq;exact aq)
       .rintro⟨e,_⟩;exact B (hu _ _ d' (by rw[M,e]) (by rw[dstAt_eq g1,g4]))
      .rw[St.put_mem]at hr;cases ab:r.own with
       | true =>
        rcases G.own r hr ab _ hm with h1 | h1
        .exact h1.2 ⟨j,F,v,rfl⟩
        .have:=(Ng.1 g6).1;omega
       | false =>
        have hb:=ad r hr;cases r with
        | ro k tags any =>
         simp only[List.any_eq_true]at hb;obtain⟨s,ar,au⟩:=hb;cases s with
         | ro k' aH aJ =>
          have aI:k=k':=by simpa using au
          subst aI;have:=(hag _ ar).1;simp only[Res.hl]at this hm;rw[this]at hm;exact g8 _ ar hm
         | _=>cases au
        | _=>cases ab
     .intro j j' F m av v;rw[hs,MM (show ¬c=j from fun e=>m (MQ.2 (Or.inl e.symm)))]at F;rw[hs,MM (show ¬c=j' from fun e=>v (MQ.2 (Or.inl e.symm)))]at av;exact h.inj j j' F (fun e=>m (MW _ e)) av (fun e=>v (MW _ e))
     .intro i hi e he;rw[hs];split
      .rfl
      .rw[hs]at hi;split at hi
       .rename_i e1;subst e1;exact hr e he
       .exact h.closed i hi e he
     .intro k hk e he;rcases MQ.1 hk with rfl | hk
      .exact MW _ (ax e he)
      .exact MW _ (h.dclosed k hk e he)
    .cases hx
   .cases hx
  .cases hx
 .cases hx
def Sim.other (h:Sim P S w0 ops A J D L pl a w) (s:certA ops A=true) (hu:Uniq ops) (b:∀ j o t,isAlloc ops j=true->ops[j]?=some o->o.op=.alloc t->j∉D.done->∃ z,zeroT P t=some z)
 (ih:∀ L' m a' w',Sim P S w0 ops A J D L' m a' w'->unl ops L'<=g->wpAny P .any ops.toArray Q g L' a' w') {i:Nat} (hi:i∈Region.ready .any ops.toArray L) (hg:unl ops L<=g+1) (hk:i∈D.done\/isAlloc ops i=true) :
 wpOp P ops.toArray Q i (wpAny P .any ops.toArray Q g (L.setIfInBounds i true)) a w:=by
 obtain⟨n,e,hr⟩:=(mem_ready' h.lsz).1 hi;have u:=unl_set h.lsz n e;by_cases hd:i∈D.done
 .rcases h.dsub i hd with h1 | ⟨f,hf,rfl⟩
  .rw[e]at h1;cases h1
  .have hl:=h.late f hf e;obtain⟨o,ho,p⟩:=hl.fl;exact fl_exec (h.rel_late s hf e hr) ho p hl.need fun x hx=>ih _ pl _ _ (h.lateStep hu hf ho e hr hx) ae
 .have q:=hk.resolve_left hd;obtain⟨o,t,d,ho,c,k,r,_⟩:=isAlloc_get q;obtain⟨z,hz⟩:=b i o t q ho c hd;unfold wpOp;have:ops.toArray[i]?=some o:=by simpa using ho
  rw[this];simp only;rw[M0 (by simp [Region.wanted,r])];refine Or.inl ?_;have l:(execOp a.eval o).run P w=.ok (.value (.pointer (some ⟨w.heap.size,0,none⟩))) (w.alloc (.cells z.cells t)):=by
   unfold execOp;rw[c];simp only[Sem.run_bind,Instr.alloc,zeroT_run hz,Result.andThen_ok];rfl
  exact wp_value (W:=wpJ P) l (ih _ _ _ _ (h.allocStep hu q hd e ho c k hz) ae)
def find_spec {p:α->Bool} {l:List α} {x:α} (h:l.find? p=some x):x∈l/\p x=true:=⟨O4 h,PV h⟩
def allNd_holds {C:Ctx} {ms:Nat->Nat} {J:Env} : ∀ (l:List (Option Nd)) {nd:Nd},allNd l=some nd->nd.holds C ms J->∀ x∈l,∃ a,x=some a/\a.holds C ms J
 | [],_,_,_,x,hx=>by cases hx
 | some a::l,nd,h,hn,x,hx=>by
  simp only[allNd,MN]at h;obtain⟨b,hb,rfl⟩:=h;rw[ndAnd_holds]at hn;rcases MQ.1 hx with rfl | hx
  .exact⟨a,rfl,hn.1⟩
  .exact allNd_holds l hb hn.2 x hx
 | none::_,_,h,_,_,_=>by cases h
def tail_head (h:tailB ops A (r::l)=true):r<ops.length/\r∉l/\(∀ i,i<ops.length->i=r\/i∈l\/i∈A.getD r [])/\tailB ops A l=true:=by
 unfold tailB at h;simp only[ML,MI,NK,Ou,NF,M8,Nn,N6,Pe]at h;exact⟨h.1.1.1,h.1.1.2,fun i hi=>(h.1.2 i hi).elim (fun h=>h.elim Or.inl fun h=>Or.inr (Or.inl h)) fun h=>Or.inr (Or.inr h),h.2⟩
def tail_mem:∀ {l:List Nat},tailB ops A l=true->∀ i∈l,∃ m:List Nat,i<ops.length/\(∀ j,j<ops.length->j=i\/j∈m\/j∈A.getD i [])/\∀ j∈m,j∈l
 | [],_,i,h=>by cases h
 | r::l,h,i,hi=>by
  obtain⟨h1,h2,b,c⟩:=tail_head h;rcases MQ.1 hi with rfl | hi
  .exact⟨l,h1,b,fun j a=>MW _ a⟩
  .obtain⟨m,d,e,f⟩:=tail_mem c i hi;exact⟨m,d,e,fun j a=>MW _ (f j a)⟩
def tail_ready (k:certA ops A=true) (h:tailB ops A (r::l)=true) {L:Array Bool} (g:∀ j,j<ops.length->(L.getD j false=true↔j∉r::l)) (d:∀ i,L.getD i false=true->∀ e∈esAt ops i,L.getD e false=true) (hi:i<ops.length) (hn:L.getD i false=false) (hr:∀ e∈esAt ops i,L.getD e false=true):i=r:=by
 obtain⟨h1,h2,n,m⟩:=tail_head h;have c:=anc_closed k (p:=fun i=>L.getD i false=true) d i hi hr;have a:i∈r::l:=NR fun hh=>by rw[(g i hi).2 hh]at hn;cases hn
 rcases MQ.1 a with e | a
 .exact e
 .exfalso;have key:∀ {l:List Nat},tailB ops A l=true->i∈l->r∉l->r∈A.getD i []:=by
   intro l
   induction l with
   | nil=>intro _ h;cases h
   | cons x l ih =>
    intro h hi b;obtain⟨_,_,k3,k4⟩:=tail_head h;rcases MQ.1 hi with rfl | hi
    .rcases k3 r h1 with e | e | e
     .exact absurd (e▸Nh ..) b
     .exact absurd (MW _ e) b
     .exact e
    .exact ih k4 hi fun h=>b (MW _ h)
  have f:=c r (key m a h2);exact((g r h1).1 f) (Nh ..)
def seq_sound {ex:Ex} (q:∀ s∈C.Γ,s.OK P) (hex:ExOK P C ex) (v:certA ops A=true) {d:Nat} {Q:Exit->Act->World->Prop} {k:St->Option Nd} : ∀ (l:List Nat) (st:St) (nd:Nd) (ms:Nat->Nat) (J:Env) (g:Nat) (L:Array Bool) (a:Act) (w:World),
 tailB ops A l=true->seqK P C.Γ ex d ops l st k=some nd->nd.holds C ms J->Rel S w0 J st a w->L.size=ops.length->(∀ j,j<ops.length->(L.getD j false=true↔j∉l))->(∀ i,L.getD i false=true->∀ e∈esAt ops i,L.getD e false=true)->unl ops L<=g->KOK S w0 C d ms st.nv J k (Q .normal)->wpAny P .any ops.toArray Q g L a w
 | [],st,nd,ms,J,g,L,a,w,_,h,hn,hA,b,t,p,hg,hk=>by
  have H:=hk ms st nd J a w (fun _ _=>rfl) h (Agree.refl _ _) hA hn;have n:Region.ready .any ops.toArray L=[]:=by
   rw[Ph];intro j f;obtain⟨h1,h2,_⟩:=(mem_ready' b).1 f;rw[(t j h1).2 ar]at h2;cases h2
  cases g with
  | zero=>exact⟨n,H⟩
  | succ g=>exact⟨fun _=>H,fun j f=>by rw[n]at f;cases f⟩
 | r::l,st,nd,ms,J,g,L,a,w,I,h,hn,hA,b,t,p,hg,hk=>by
  obtain⟨h1,h2,N,K⟩:=tail_head I;have u:L.getD r false=false:=by
   cases hh:L.getD r false with
   | false=>rfl
   | true=>exact absurd (Nh ..) ((t r h1).1 hh)
  have M:=unl_set b h1 u;cases g with
  | zero=>omega
  | succ g =>
   refine⟨fun hr0=>?_,fun i hi=>?_⟩
   .exfalso;have:=ready_some v b hr0 r h1;rw[u]at this;cases this
   .obtain⟨x,y,hr⟩:=(mem_ready' b).1 hi;have e:=tail_ready v I t p x y hr;subst e;unfold seqK at h;split at h
    .rename_i o ho;split at h
     .rename_i hw;unfold wpOp;have:ops.toArray[i]?=some o:=by simpa using ho
      rw[this];simp only;rw[M0 (wantsB_sound hA hw)];refine Or.inl (stepK_sound (W:=wpJ P) q hex h hA hn fun z st' B J' a2 w2 D m oB E F=>?_);simp only at m;split at m
      .rename_i G;refine seq_sound q hex v l st' B z J' g _ a2 w2 K m F E (by rw[O9];exact b) (fun j f=>?_) (fun j f e he=>?_) ae (hk.of_agree D oB G)
       .rw[set_getD (by rw[b];exact h1)];by_cases c:i=j
        .subst c;simp [h2]
        .rw[MM c,t j f,MQ];constructor
         .exact fun h hh=>h (Or.inr hh)
         .exact fun h hh=>hh.elim (fun e=>c e.symm) h
       .rw[set_getD (by rw[b];exact h1)]at f ⊢;split
        .rfl
        .by_cases c:i=j
         .subst c;exact hr e he
         .rw[MM c]at f;exact p j f e he
      .cases m
     .cases h
    .cases h
def draw_sound {ex:Ex} (an:∀ s∈C.Γ,s.OK P) (hex:ExOK P C ex) (I:certA ops A=true) (hu:Uniq ops) {d:Nat} {Q:Exit->Act->World->Prop} (r:∀ j o t,isAlloc ops j=true->ops[j]?=some o->o.op=.alloc t->∃ z,zeroT P t=some z) :
 ∀ (m:Nat) (D:Dr) (k:St->Option Nd) (nd:Nd) (ms:Nat->Nat) (J:Env) (g:Nat) (L:Array Bool) (pl:Nat->Nat) (a:Act) (w:World),
  drawK P C.Γ ex d ops A m D k=some nd->nd.holds C ms J->Sim P S w0 ops A J D L pl a w->unl ops L<=g->KOK S w0 C d ms D.st.nv J k (Q .normal)->wpAny P .any ops.toArray Q g L a w
 | 0,D,k,nd,ms,J,g,L,pl,a,w,h,_,_,_,_=>by cases h
 | m+1,D,k,nd,ms,J,g,L,pl,a,w,h,hn,hS,hg,hk=>by
  have IH:=draw_sound (d:=d) (Q:=Q) an hex I hu r m;unfold drawK at h;split at h
  .rename_i i hi;obtain⟨_,hp⟩:=find_spec hi;simp only[ML,NK,Ou,NF,M8,MI]at hp;obtain⟨⟨⟨hd,ha⟩,aq⟩,_⟩:=hp;split at h
   .rename_i o ho;simp only at h;split at h
    .rename_i n v hf;simp only[MN]at h;obtain⟨F,h',rfl⟩:=h;obtain⟨h1,h2⟩:=needAnd_holds _ _ hn;have hb:bev J n=true:=conjs_all n fun c aP=>by
      by_cases aH:known D.st.path c=some true
      .exact known_sound hS.path aH
      .exact h1 c (by unfold needE;rw[NW];exact⟨aP,by simpa using aH⟩)
     exact IH _ k F ms J g L pl a w h' h2 (hS.float I hu ho hd ha aq hf hb h1) hg (by rw[St.put_nv];exact hk)
    .cases h
   .cases h
  .split at h
   .rename_i e he;split at h
    .rename_i x y h1 h2;cases h;rw[ndAnd_holds,ndImp_holds,ndImp_holds]at hn;cases hb:bev J e with
     | true=>exact IH _ k x ms J g L pl a w h1 (hn.1 hb) (hS.path_add (cs:=[e]) (fun c I=>by rw[MO.1 I];exact hb)) hg hk
     | false =>
      have aI:bev J (mkNot e)=true:=by rw[bev_mkNot,hb];rfl
      exact IH _ k y ms J g L pl a w h2 (hn.2 aI) (hS.path_add (cs:=[mkNot e]) (fun c I=>by rw[MO.1 I];exact aI)) hg hk
    .cases h
   .
    have ad:∀ L' q a' w',Sim P S w0 ops A J D L' q a' w'->∀ i∈Region.ready .any ops.toArray L',i∈D.done\/isAlloc ops i=true\/i∈cands ops D:=by
     intro L' q a' w' b i hi;obtain⟨N,ar,hr⟩:=(mem_ready' b.lsz).1 hi;by_cases hd:i∈D.done
     .exact Or.inl hd
     .cases ha:isAlloc ops i with
      | true=>exact Or.inr (Or.inl rfl)
      | false =>
       right;right;unfold cands;rw[NW];refine⟨Nn.2 N,?_⟩;simp only[ML,NK,Ou,NF,M8,N6,MI];exact⟨⟨hd,ha⟩,fun e he=>b.lsub e (hr e he)⟩
    have af:∀ (j:Nat) (D':Dr) (F:Nd),j∉D.done->(∀ L' q a' w',Sim P S w0 ops A J D L' q a' w'->L'.getD j false=false->j<ops.length)->importD P ops D j=some D'->drawK P C.Γ ex d ops A m D' k=some F ->
     (∀ J',Agree D.st.nv J J'->0<=J'.i D.st.nv->F.holds C ms J')->(∀ c∈cands ops D,j∈esAt ops c) ->
     ∀ (g:Nat) L' q a' w',Sim P S w0 ops A J D L' q a' w'->unl ops L'<=g->wpAny P .any ops.toArray Q g L' a' w':=by
     intro j D' F ax aJ himp aK aL aQ g
     induction g with
     | zero =>
      intro L' q a' w' b B;cases T:L'.getD j false with
      | true =>
       obtain⟨J',G,h0,X,ag⟩:=b.import hu ax T himp;exact IH D' k F ms J' 0 L' q a' w' aK (aL J' G h0) X B (hk.of_agree (fun _ _=>rfl) G ae)
      | false =>
       exfalso;have:=unl_zero (Pw.1 B) (aJ L' q a' w' b T);rw[T]at this;cases this
     | succ g K =>
      intro L' q a' w' b B;cases T:L'.getD j false with
      | true =>
       obtain⟨J',G,h0,X,ag⟩:=b.import hu ax T himp;exact IH D' k F ms J' (g+1) L' q a' w' aK (aL J' G h0) X B (hk.of_agree (fun _ _=>rfl) G ae)
      | false =>
       refine⟨fun hr0=>?_,fun i hi=>?_⟩
       .exfalso;have:=ready_some I b.lsz hr0 j (aJ L' q a' w' b T);rw[T]at this;cases this
       .refine b.other I hu (fun j o t h1 h2 Y _=>r j o t h1 h2 Y) K hi B ?_;rcases ad L' q a' w' b i hi with h1 | h1 | h1
        .exact Or.inl h1
        .exact Or.inr h1
        .exfalso;have:=((mem_ready' b.lsz).1 hi).2.2 j (aQ i h1);rw[T]at this;cases this
    split at h
    .rename_i U;split at h
     .rename_i hall;have hdone:∀ i,i<ops.length->i∈D.done:=by
       intro i hi;have:=OQ.1 hall i (Nn.2 hi);simpa using this
      have key:∀ (g:Nat) L' q a' w',Sim P S w0 ops A J D L' q a' w'->unl ops L'<=g->wpAny P .any ops.toArray Q g L' a' w':=by
       have fin:∀ L' q a' w',Sim P S w0 ops A J D L' q a' w'->(∀ i,i<ops.length->L'.getD i false=true)->Q .normal a' w':=by
        intro L' q a' w' b ar;refine hk ms D.st nd J a' w' (fun _ _=>rfl) h (Agree.refl _ _) ⟨b.mem,b.size,b.defers,fun t u ht=>?_,b.path⟩ hn;rcases b.slots t u ht with ⟨f,hf,aR,_⟩ | hv
        .have:=ar f.i (b.dlt _ (b.ldone f hf));rw[aR]at this;cases this
        .exact hv
       intro g
       induction g with
       | zero =>
        intro L' q a' w' b B;have ar:∀ i,i<ops.length->L'.getD i false=true:=fun i hi=>unl_zero (Pw.1 B) hi;refine⟨?_,fin L' q a' w' b ar⟩;cases hr:Region.ready .any ops.toArray L' with
        | nil=>rfl
        | cons i l =>
         exfalso;obtain⟨N,V,_⟩:=(mem_ready' b.lsz).1 (hr▸Nh .. : i∈Region.ready .any ops.toArray L');rw[ar i N]at V;cases V
       | succ g K =>
        intro L' q a' w' b B;refine⟨fun hr0=>fin L' q a' w' b (ready_some I b.lsz hr0),fun i hi=>?_⟩;exact b.other I hu (fun j o t h1 h2 Y _=>r j o t h1 h2 Y) K hi B (Or.inl (hdone i ((mem_ready' b.lsz).1 hi).1))
      exact key g L pl a w hS hg
     .rename_i j Z;obtain⟨au,aB⟩:=find_spec Z;split at h
      .rename_i D' himp;simp only[MN]at h;obtain⟨F,h',rfl⟩:=h;exact af j D' F (by simpa using aB) (fun _ _ _ _ _ _=>Nn.1 au) himp h' (fun J' G h0=>hn J' G h0) (fun c ay=>by rw[U]at ay;cases ay) g L pl a w hS hg
      .cases h
    .rename_i c U;have ay:c∈cands ops D:=by rw[U];exact Nh ..
     have E:=ay;unfold cands at E;rw[NW]at E;simp only[ML,NK,Ou,NF,M8,N6,MI,Nn]at E;obtain⟨H,⟨aa,ab⟩,aY⟩:=E;split at h
     .rename_i j Z;obtain⟨aM,aB⟩:=find_spec Z;have ax:j∉D.done:=by simpa using aB
      split at h
      .rename_i D' himp;simp only[MN]at h;obtain⟨F,h',rfl⟩:=h;refine af j D' F ax (fun _ _ _ _ _ _=>Qi ((certA_get I H).2 j aM) H) himp h' (fun J' G h0=>hn J' G h0) (fun c' E=>?_) g L pl a w hS hg;rw[U,MO]at E;rw[E];exact aM
      .cases h
     .rename_i Z;have aq:∀ e∈esAt ops c,e∈D.done:=fun e he=>by
       have:=OQ.1 Z e he;simpa using this
      split at h
      .rename_i D' x aS;simp only[MN]at h;obtain⟨F,h',rfl⟩:=h;obtain⟨J',G,aT,aU,ag,X⟩:=hS.merge (C:=C) aS;exact IH D' k F ms J' g L pl a w h' (hn J' (by rw[aT];exact G) aU) X hg (hk.of_agree (fun _ _=>rfl) G ae)
      split at h
      .rename_i D' R aC;simp only[MN]at h;obtain⟨F,h',rfl⟩:=h;rw[ndAnd_holds]at hn;have key:∀ (g:Nat) L' q a' w',Sim P S w0 ops A J D L' q a' w'->unl ops L'<=g->wpAny P .any ops.toArray Q g L' a' w':=by
        intro g
        induction g with
        | zero =>
         intro L' q a' w' b B;exfalso;have h1:=unl_zero (Pw.1 B) H;rw[b.unlisted aa ab]at h1;cases h1
        | succ g K =>
         intro L' q a' w' b B;refine⟨fun hr0=>?_,fun i hi=>?_⟩
         .exfalso;have h1:=ready_some I b.lsz hr0 c H;rw[b.unlisted aa ab]at h1;cases h1
         .rcases ad L' q a' w' b i hi with h1 | h1 | h1
          .exact b.other I hu (fun j o t h1 h2 Y _=>r j o t h1 h2 Y) K hi B (Or.inl h1)
          .exact b.other I hu (fun j o t h1 h2 Y _=>r j o t h1 h2 Y) K hi B (Or.inr h1)
          .rw[U,MO]at h1;subst h1;obtain⟨N,V,hr⟩:=(mem_ready' b.lsz).1 hi;have aN:=unl_set b.lsz N V;refine b.chain (Q:=Q) an I hu N aa ab aq hr aC hn.1 fun J' a2 w2 G hx X ag=>?_;refine IH D' k F ms J' g _ q a2 w2 h' ?_ X ae (hk.of_agree (fun _ _=>rfl) G ag);have M:=hn.2;cases av:R.x with
           | none=>rw[av]at M hx;subst hx;exact M
           | some y =>
            rw[av]at M hx;exact M J' (by rw[hx.2];exact G) hx.1
       exact key g L pl a w hS hg
      .split at h
       .rename_i o ho;split at h
        .rename_i O;simp only[ML]at O;obtain⟨hw,ai⟩:=O;have key:∀ (g:Nat) L' q a' w',Sim P S w0 ops A J D L' q a' w'->unl ops L'<=g->wpAny P .any ops.toArray Q g L' a' w':=by
          intro g
          induction g with
          | zero =>
           intro L' q a' w' b B;exfalso;have h1:=unl_zero (Pw.1 B) H;rw[b.unlisted aa ab]at h1;cases h1
          | succ g K =>
           intro L' q a' w' b B;refine⟨fun hr0=>?_,fun i hi=>?_⟩
           .exfalso;have h1:=ready_some I b.lsz hr0 c H;rw[b.unlisted aa ab]at h1;cases h1
           .rcases ad L' q a' w' b i hi with h1 | h1 | h1
            .exact b.other I hu (fun j o t h1 h2 Y _=>r j o t h1 h2 Y) K hi B (Or.inl h1)
            .exact b.other I hu (fun j o t h1 h2 Y _=>r j o t h1 h2 Y) K hi B (Or.inr h1)
            .rw[U,MO]at h1;subst h1;obtain⟨N,V,hr⟩:=(mem_ready' b.lsz).1 hi;have ah:=b.rel_vis I H hr;have aw:=anc_closed I (p:=fun i=>L'.getD i false=true) b.closed i H hr;unfold wpOp;have:ops.toArray[i]?=some o:=by simpa using ho
             rw[this];simp only;rw[M0 (wantsB_sound ah hw)];refine Or.inl (stepK_sound (W:=wpJ P) an hex h ah hn fun aD st' F J' a2 w2 aE ao oB aF M=>?_);have hq:=hk aD st' F J' a2 w2 aE ao oB aF M;have hall:∀ j,j<ops.length->(L'.setIfInBounds i true).getD j false=true:=by
              intro j Z;rw[set_getD (by rw[b.lsz];exact H)];split
              .rfl
              .rename_i aV;unfold lastB at ai;rw[M8]at ai;have:=ai j (Nn.2 Z);simp only[N6,Pe]at this;rcases this with h1 | h1
               .exact absurd h1.symm aV
               .exact aw j (by simpa using h1)
             have aO:(L'.setIfInBounds i true).size=ops.length:=by rw[O9];exact b.lsz
             have aA:Region.ready .any ops.toArray (L'.setIfInBounds i true)=[]:=by
              rw[Ph];intro j Z;obtain⟨h1,h2,_⟩:=(mem_ready' aO).1 Z;rw[hall j h1]at h2;cases h2
             cases g with
             | zero=>exact⟨aA,hq⟩
             | succ g=>exact⟨fun _=>hq,fun j Z=>by rw[aA]at Z;cases Z⟩
         exact key g L pl a w hS hg
        .split at h
         .rename_i O;simp only[ML]at O;obtain⟨hw,aW⟩:=O;obtain⟨t1,t2,t3,t4⟩:=tail_head aW;have key:∀ (g:Nat) L' q a' w',Sim P S w0 ops A J D L' q a' w'->unl ops L'<=g->wpAny P .any ops.toArray Q g L' a' w':=by
           intro g
           induction g with
           | zero =>
            intro L' q a' w' b B;exfalso;have h1:=unl_zero (Pw.1 B) H;rw[b.unlisted aa ab]at h1;cases h1
           | succ g K =>
            intro L' q a' w' b B;refine⟨fun hr0=>?_,fun i hi=>?_⟩
            .exfalso;have h1:=ready_some I b.lsz hr0 c H;rw[b.unlisted aa ab]at h1;cases h1
            .rcases ad L' q a' w' b i hi with h1 | h1 | h1
             .exact b.other I hu (fun j o t h1 h2 Y _=>r j o t h1 h2 Y) K hi B (Or.inl h1)
             .exact b.other I hu (fun j o t h1 h2 Y _=>r j o t h1 h2 Y) K hi B (Or.inr h1)
             .rw[U,MO]at h1;subst h1;obtain⟨N,V,hr⟩:=(mem_ready' b.lsz).1 hi;have ah:=b.rel_vis I H hr;have aw:=anc_closed I (p:=fun i=>L'.getD i false=true) b.closed i H hr;have aN:=unl_set b.lsz N V;unfold wpOp;have:ops.toArray[i]?=some o:=by simpa using ho
              rw[this];simp only;rw[M0 (wantsB_sound ah hw)];refine Or.inl (stepK_sound (W:=wpJ P) an hex h ah hn fun aD st' F J' a2 w2 aE ao oB aF M=>?_);simp only at ao;split at ao
              .rename_i ag;refine seq_sound an hex I _ st' F aD J' g _ a2 w2 t4 ao M aF (by rw[O9];exact b.lsz) (fun j Z=>?_) (fun j Z e he=>?_) ae (hk.of_agree aE oB ag)
               .rw[set_getD (by rw[b.lsz];exact H)];by_cases aj:i=j
                .subst aj;simp [t2]
                .rw[MM aj];constructor
                 .intro T au;obtain⟨m,m1,m2,m3⟩:=tail_mem t4 j au;have aX:i∈A.getD j []:=by
                   rcases m2 i H with e | e | e
                   .exact absurd e aj
                   .exact absurd (m3 i e) t2
                   .exact e
                  have:=anc_closed I (p:=fun i=>L'.getD i false=true) b.closed j Z (b.closed j T) i aX;rw[V]at this;cases this
                 .intro au;rcases t3 j Z with e | e | e
                  .exact absurd e.symm aj
                  .exact absurd e au
                  .exact aw j e
               .rw[set_getD (by rw[b.lsz];exact H)]at Z ⊢;split
                .rfl
                .by_cases aj:i=j
                 .subst aj;exact hr e he
                 .rw[MM aj]at Z;exact b.closed j Z e he
              .cases ao
          exact key g L pl a w hS hg
         .cases h
       .cases h
    .rename_i c1 c2 cs U;split at h
     .rename_i ak;have al:∀ c∈cands ops D,c<ops.length/\c∉D.done/\isAlloc ops c=false:=by
       intro c E;unfold cands at E;rw[NW]at E;simp only[ML,NK,Ou,NF,M8,N6,MI,Nn]at E;exact⟨E.1,E.2.1.1,E.2.1.2⟩
      obtain⟨k1,k2,k3⟩:=al c1 (by rw[U];exact Nh ..);have key:∀ (g:Nat) L' q a' w',Sim P S w0 ops A J D L' q a' w'->unl ops L'<=g->wpAny P .any ops.toArray Q g L' a' w':=by
       intro g
       induction g with
       | zero =>
        intro L' q a' w' b B;exfalso;have h1:=unl_zero (Pw.1 B) k1;rw[b.unlisted k2 k3]at h1;cases h1
       | succ g K =>
        intro L' q a' w' b B;refine⟨fun hr0=>?_,fun i hi=>?_⟩
        .exfalso;have h1:=ready_some I b.lsz hr0 c1 k1;rw[b.unlisted k2 k3]at h1;cases h1
        .rcases ad L' q a' w' b i hi with h1 | h1 | h1
         .exact b.other I hu (fun j o t h1 h2 Y _=>r j o t h1 h2 Y) K hi B (Or.inl h1)
         .exact b.other I hu (fun j o t h1 h2 Y _=>r j o t h1 h2 Y) K hi B (Or.inr h1)
         .obtain⟨_,aa,ab⟩:=al i h1;rw[U]at h1;obtain⟨aZ,az,aG⟩:=allNd_holds _ h hn _ (Np.2 ⟨i,h1,rfl⟩);rw[M8]at ak;have aq:∀ e∈esAt ops i,e∈D.done:=fun e he=>by
           have:=ak i h1;rw[M8]at this;simpa using this e he
          split at az
          .rename_i D' R aC;simp only[MN]at az;obtain⟨F,h',rfl⟩:=az;rw[ndAnd_holds]at aG;obtain⟨N,V,hr⟩:=(mem_ready' b.lsz).1 hi;have aN:=unl_set b.lsz N V;refine b.chain (Q:=Q) an I hu N aa ab aq hr aC aG.1 fun J' a2 w2 G hx X ag=>?_;refine IH D' k F ms J' g _ q a2 w2 h' ?_ X ae (hk.of_agree (fun _ _=>rfl) G ag);have M:=aG.2;cases av:R.x with
           | none=>rw[av]at M hx;subst hx;exact M
           | some y =>
            rw[av]at M hx;exact M J' (by rw[hx.2];exact G) hx.1
          .cases az
      exact key g L pl a w hS hg
     .cases h
def hide_get {st:St} (h:(hideAllocs ops st).tmps[t]?=some (some u)):st.tmps[t]?=some (some u)/\∀ j,isAlloc ops j=true->dstAt ops j≠some t:=by
 unfold hideAllocs at h;simp only[mapIx_get0,MN]at h;obtain⟨v,hv,he⟩:=h;split at he
 .cases he
 split at he
 .cases he
 .rename_i a;cases he;refine⟨hv,fun j b hd=>a ?_⟩;rw[NP,List.mem_filterMap];exact⟨j,Nn.2 (dstAt_lt hd),by rw[M0 b];exact hd⟩
def dk_ok (m:∀ s∈C.Γ,s.OK P):DkOK P C (dk P C.Γ):=by
 intro ex hex d ops st k nd ms S w0 J a w id Q h hA hn hk;unfold dk at h;simp only at h;split at h
 .rename_i b;simp only[ML]at b;obtain⟨⟨⟨E,n⟩,hm⟩,f⟩:=b;have hu:=uniq_of n;refine wp_region_any hm ?_;have hsz:ops.toArray.size=ops.length:=by simp
  rw[hsz];have l:∀ i,(Array.replicate ops.length false).getD i false=false:=fun i=>by
   by_cases hi:i<ops.length
   .simp [hi]
   .simp [hi]
  have g:RowKit.Below w.heap.size w {w with drawn:=w.drawn+1}:=(RowKit.Below.refl _ w).drew;have p:MRel S w0 J st.mem {w with drawn:=w.drawn+1}:=hA.toMRel.below g;have hz:∀ j o t,isAlloc ops j=true->ops[j]?=some o->o.op=.alloc t->∃ z,zeroT P t=some z:=by
   intro j o t _ ho q;unfold zerosB at f;rw[M8]at f;have:=f o (MG ho);rw[q]at this;exact NJ.1 this
  .refine draw_sound (d:=d) m hex E hu hz _ ⟨hideAllocs ops st,[],[]⟩ _ nd ms J ops.length _ (fun _=>0) a _ h hn ⟨ar,p,hA.path,?_,hA.defers,?_,?_,?_,?_,?_,?_,?_,?_,?_,?_,?_,?_⟩ ?_ ?_
   .rw[hA.size];simp [hideAllocs]
   .intro t u r;exact Or.inr (hA.tmp t u (hide_get r).1)
   .intro i hi;rw[l]at hi;cases hi
   .intro i hi;cases hi
   .intro i hi;cases hi
   .intro i hi;cases hi
   .intro i hi;cases hi
   .intro i hi;cases hi
   .intro j c _ t u v r;exact(hide_get r).2 j c v
   .intro j c;rw[l]at c;cases c
   .intro j j' c;rw[l]at c;cases c
   .intro j c;rw[l]at c;cases c
   .intro i hi;cases hi
   .unfold unl;exact NT List.countP_le_length ar
   .intro x st' y J' a' w' A e hg B D;simp only at e;split at e
    .exact hk x st' y J' a' w' A e hg B D
    .cases e
 .cases h
end
def hls_mem {k:Nat} : ∀ {l:List Hl},(hls l).mem k↔∃ H∈l,H.mem k
 | []=>by simp [hls,Hl.mem,Hl.none]
 | a::l=>by
  show(a.un (hls l)).mem k↔_;rw[Hl.un_mem,hls_mem];simp
def hls_sub {w:World} : ∀ {l:List Hl},(∀ H∈l,H.sub w)->(hls l).sub w
 | [],_=>fun _ _ h=>by cases h
 | a::l,h=>Hl.un_sub (h a ar) (hls_sub fun H b=>h H (by simp [b]))
def Hl.le_sub {a b:Hl} {w:World} (h:a.le b) (hs:b.sub w):a.sub w:=fun k o hk=>hs k o (h k o hk)
variable {B F R h:Hl}
def Hl.le_mem {a b:Hl} (h:a.le b) (hk:a.mem k):b.mem k:=by
 unfold Hl.mem at hk ⊢;obtain⟨o,ho⟩:=NJ.1 hk;rw[h k o ho];rfl
def Hl.le_refl (a:Hl):a.le a:=fun _ _ h=>h
def Hl.un_left (a b:Hl):a.le (a.un b):=fun k o h=>by unfold Hl.un;rw[h];rfl
def Hl.un_right {a b:Hl} (d:a.dis b):b.le (a.un b):=fun k o h=>by
 unfold Hl.un;cases c:a k with
 | some x=>exact absurd ⟨by unfold Hl.mem;rw[c];rfl,by unfold Hl.mem;rw[h];rfl⟩ (d k)
 | none=>exact h
def Hl.un_at_left {a b:Hl} {o:Obj} (h:a k=some o):(a.un b) k=some o:=by unfold Hl.un;rw[h];rfl
def Hl.un_at_right {a b:Hl} (h:¬a.mem k):(a.un b) k=b k:=by
 unfold Hl.un;cases c:a k with
 | some x=>exact absurd (by unfold Hl.mem;rw[c];rfl) h
 | none=>rfl
def Hl.dis_un {a b c:Hl} (h1:a.dis b) (h2:a.dis c):a.dis (b.un c):=fun k ⟨x,y⟩=>by
 rcases Hl.un_mem.1 y with y | y
 .exact h1 k ⟨x,y⟩
 .exact h2 k ⟨x,y⟩
def Hl.dis_le {a b c:Hl} (h:a.dis b) (d:c.le b):a.dis c:=fun k ⟨x,y⟩=>h k ⟨x,Hl.le_mem d y⟩
def Hl.dis_none (a:Hl):a.dis Hl.none:=fun k ⟨_,y⟩=>by simp [Hl.mem,Hl.none]at y
def Hl.one_dis {o:Obj} : (Hl.one b o).dis h↔¬h.mem b:=by
 constructor
 .exact fun d hb=>d b ⟨Hl.one_mem.2 rfl,hb⟩
 .exact fun d k ⟨x,y⟩=>by rw[Hl.one_mem]at x;subst x;exact d y
def Hl.un_none (a:Hl):a.un Hl.none=a:=by
 funext k;unfold Hl.un Hl.none;cases a k<;>rfl
def hls_one (a:Hl):hls [a]=a:=Hl.un_none a
def resAt (J:Env) (mem:Mem) (p:Nat):Hl:=match mem[p]? with
 | some r=>r.hl J
 | none=>Hl.none
def uni (J:Env) (mem:Mem) (f:List Nat):Hl:=hls (f.map (resAt J mem))
def okIdx (mem:Mem) (gs:List (List Nat)) (f:List Nat):Bool :=
 ((gs.flatten++f).all fun p=>match mem[p]? with | some r=>r.own | none=>false)&&decide (gs.flatten++f).Nodup
section
variable {P:Program} {J:Env} {mem:Mem} {w w':World} {Hs Rs:List Hl}
def uni_mem {f:List Nat} : (uni J mem f).mem b↔∃ p∈f,(resAt J mem p).mem b:=by
 unfold uni;rw[hls_mem];constructor
 .rintro⟨H,a,hb⟩;obtain⟨p,hp,rfl⟩:=Np.1 a;exact⟨p,hp,hb⟩
 .rintro⟨p,hp,hb⟩;exact⟨_,Np.2 ⟨p,hp,rfl⟩,hb⟩
def uni_dis (hd:∀ (p q:Nat) r s,p≠q->mem[p]?=some r->mem[q]?=some s->r.own=true->(r.hl J).dis (s.hl J)) {f g:List Nat}
 (hf:∀ p∈f,∃ r,mem[p]?=some r/\r.own=true) (hg:∀ p∈g,∃ r,mem[p]?=some r/\r.own=true) (a:∀ p∈f,∀ q∈g,p≠q):(uni J mem f).dis (uni J mem g):=by
 intro b ⟨h1,h2⟩;obtain⟨p,hp,h1⟩:=uni_mem.1 h1;obtain⟨q,c,h2⟩:=uni_mem.1 h2;obtain⟨r,hr,ho⟩:=hf p hp;obtain⟨s,hs,_⟩:=hg q c;unfold resAt at h1 h2;rw[hr]at h1;rw[hs]at h2;exact hd p q r s (a p hp q c) hr hs ho b ⟨h1,h2⟩
def Turned.of (hm:MRel (fun b=>∃ H∈Hs,H.mem b) w J mem w') {gs:List (List Nat)} {f:List Nat} (hl:gs.length=Hs.length) (hok:okIdx mem gs f=true) :
 Turned w w' Hs (gs.map (uni J mem)) (uni J mem f):=by
 unfold okIdx at hok;rw[ML,MI]at hok;obtain⟨hall,m⟩:=hok;have i:∀ p∈gs.flatten++f,∃ r,mem[p]?=some r/\r.own=true:=by
  intro p hp;have:=M8.1 hall p hp;split at this
  .rename_i r hr;exact⟨r,hr,this⟩
  .cases this
 have hg:∀ g∈gs,∀ p∈g,∃ r,mem[p]?=some r/\r.own=true:=fun g hg p hp=>i p (N5 _ (Pn.2 ⟨g,hg,hp⟩));have hf:∀ p∈f,∃ r,mem[p]?=some r/\r.own=true:=fun p hp=>i p (NQ _ hp);have hsub:∀ l:List Nat,(∀ p∈l,∃ r,mem[p]?=some r/\r.own=true)->(uni J mem l).sub w':=by
  intro l hl;refine hls_sub fun H d=>?_;obtain⟨p,hp,rfl⟩:=Np.1 d;obtain⟨r,hr,_⟩:=hl p hp;unfold resAt;rw[hr];exact hm.sub r (MG hr)
 have j:∀ l:List Nat,(∀ p∈l,∃ r,mem[p]?=some r/\r.own=true)->∀ b,(uni J mem l).mem b->(∃ K∈Hs,K.mem b)\/w.heap.size<=b:=by
  intro l hl b hb;obtain⟨p,hp,hb⟩:=uni_mem.1 hb;obtain⟨r,hr,ho⟩:=hl p hp;unfold resAt at hb;rw[hr]at hb;exact hm.own r (MG hr) ho b hb
 rw[List.nodup_append]at m;obtain⟨u,C,v⟩:=m;have k:gs.flatten.Pairwise (·≠·):=u;rw[List.pairwise_flatten]at k;refine⟨hm.keep.os,hm.keep.tape,hm.keep.output,hm.keep.size,fun b hb hn=>hm.keep.block b hb (fun⟨H,d,z⟩=>hn H d z),by simp [hl],?_,hsub f hf,?_,j f hf,?_,?_⟩
 .intro H d;obtain⟨g,c,rfl⟩:=Np.1 d;exact hsub g (hg g c)
 .intro H d;obtain⟨g,c,rfl⟩:=Np.1 d;exact j g (hg g c)
 .intro p q H K A d hK;rw[MU,MN]at d hK;obtain⟨a,B,rfl⟩:=d;obtain⟨b,hb,rfl⟩:=hK;refine uni_dis hm.dis (hg a (MG B)) (hg b (MG hb)) ?_;have n:=OF.1 k.2;obtain⟨hp,o⟩:=MK.1 B;obtain⟨t,s⟩:=MK.1 hb;rcases Nat.lt_or_gt_of_ne A with h | h
  .have:=n p q hp t h;rw[o,s]at this;exact this
  .have:=n q p t hp h;rw[o,s]at this;exact fun x hx y hy e=>this y hy x hx e.symm
 .intro H d;obtain⟨g,c,rfl⟩:=Np.1 d;exact uni_dis hm.dis (hg g c) hf fun p hp q t=>v p (Pn.2 ⟨g,c,hp⟩) q t
structure Entry (J:Env) (mem:Mem) (Hs Rs:List Hl):Prop where
 own:∀ r∈mem,r.own=true->∃ H∈Hs,(r.hl J).le H
 ro:∀ r∈mem,r.own=false->∃ R∈Rs,(r.hl J).le R
 dis:mem.Pairwise fun r s=>r.own=true->s.own=true->(r.hl J).dis (s.hl J)
 pos:∀ r∈mem,r.pos J
def Entry.mrel (h:Entry J mem Hs Rs) (h1:∀ H∈Hs,H.sub w) (h2:∀ R∈Rs,R.sub w) (m:∀ H∈Hs,∀ R∈Rs,H.dis R):MRel (fun b=>∃ H∈Hs,H.mem b) w J mem w:=by
 refine⟨Keep.refl _ _,fun r hr=>?_,fun r hr ho b hb=>?_,fun p q r s k hp l ho=>?_,h.pos⟩
 .cases ho:r.own with
  | true=>obtain⟨H,a,hle⟩:=h.own r hr ho;exact Hl.le_sub hle (h1 H a)
  | false=>obtain⟨H,a,hle⟩:=h.ro r hr ho;exact Hl.le_sub hle (h2 H a)
 .obtain⟨H,a,hle⟩:=h.own r hr ho;exact Or.inl ⟨H,a,Hl.le_mem hle hb⟩
 .cases hs:s.own with
  | true =>
   have d:=OF.1 h.dis;obtain⟨e,f⟩:=MK.1 hp;obtain⟨g,i⟩:=MK.1 l;rcases Nat.lt_or_gt_of_ne k with c | c
   .have:=d p q e g c;rw[f,i]at this;exact this ho hs
   .have:=d q p g e c;rw[f,i]at this;exact Hl.dis_symm (this hs ho)
  | false =>
   obtain⟨H,a,hle⟩:=h.own r (MG hp) ho;obtain⟨R,n,j⟩:=h.ro s (MG l) hs;exact Hl.dis_symm (Hl.dis_le (Hl.dis_symm (Hl.dis_le (m H a R n) j)) hle)
def postOf (s:Spec) (xs:List Value) (Hs Rs:List Hl):Env->Mem->TV->Prop:=fun J mem r =>
 (∀ (p q:Nat) r s,p≠q->mem[p]?=some r->mem[q]?=some s->r.own=true->(r.hl J).dis (s.hl J))->∃ gs f,gs.length=Hs.length/\okIdx mem gs f=true/\(∃ a,r.ev J=(cpTV 0 s.res).ev a/\cpNorms 0 s.res a)/\s.post xs Hs Rs (r.ev J) (gs.map (uni J mem)) (uni J mem f)
structure Walk (P:Program) (Γ:List Spec) (f:FuncId) where
 Λ:Loops
 lim:Nat:=100
 fuel:Nat:=400
 args:List TV
 mem:Mem
 nv:Nat
 path:List E:=[]
def Walk.V {Γ:List Spec} {f:FuncId} (W:Walk P Γ f):Option Nd:=fnVC P Γ (dk P Γ) W.Λ W.lim W.fuel f W.args W.mem W.nv W.path
@[irreducible] def Walk.owes {Γ:List Spec} {f:FuncId} (W:Walk P Γ f) (C:Ctx) (ms:Nat->Nat) (J:Env):Prop:=∃ nd,W.V=some nd/\nd.holds C ms J
def Spec.of_fn {s:Spec} {Γ:List Spec} (a:∀ t∈Γ,t.OK P)
 (h:∀ xs Hs Rs,Hs.length=s.own.length->Rs.length=s.rd.length->s.pre xs Hs Rs->∃ (W:Walk P Γ s.fn) (J:Env) (inv:Nat->Env->Prop) (mu:Nat->Env->Nat),
  W.args.map (TV.ev J)=xs/\Entry J W.mem Hs Rs/\Path J W.path/\W.owes ⟨Γ,inv,mu,postOf s xs Hs Rs⟩ (fun _=>0) J):s.OK P:=by
 intro w xs Hs Rs d g i j n k b;obtain⟨W,J,inv,mu,hx,o,hp,hn⟩:=h xs Hs Rs d g b;unfold Walk.owes at hn;obtain⟨nd,p,hn⟩:=hn;have hm:=o.mrel i j k;have:=fn_sound (C:=⟨Γ,inv,mu,postOf s xs Hs Rs⟩) a (dk_ok (C:=⟨Γ,inv,mu,postOf s xs Hs Rs⟩) a) p hm hp hn;rw[hx]at this;refine this.mono ?_;rintro e w' ⟨J',mem',r,rfl,hg,c,l⟩;obtain⟨gs,f,hl,hok,⟨m,h2,q⟩,hpost⟩:=l c.dis;refine⟨m,gs.map (uni J' mem'),uni J' mem' f,by rw[h2],q,Turned.of c hl hok,?_⟩;rw[<-h2];exact hpost
end
def bys (l:List Int):List Value:=l.map (Value.int .u8)
def bys_length (l:List Int):(bys l).length=l.length:=M7 _
def bys_get (l:List Int) (j:Nat):(bys l)[j]?=(l[j]?).map (Value.int .u8):=MU
def bys_append (a b:List Int):bys (a++b)=bys a++bys b:=M9
def bys_inj {a b:List Int} (h:bys a=bys b):a=b:=by
 apply Ni;intro j;have:=Ns (fun l=>l[j]?) h;simp only[bys_get]at this;cases c:a[j]?<;>cases hb:b[j]?<;>simp [c,hb]at this ⊢
 exact this
def RdB (R:Hl) (v:Value) (bs:List Int):Prop :=
 ∃ (x y:Int) (c:Nat),v=.slice (slP x y) bs.length c/\0<=y/\((x= -1/\bs=[])\/(0<=x/\∀ j z,bs[j]?=some z->R.cell x.toNat (y.toNat+j)=some (.int .u8 z)))
def slP_inj {x' y':Int} (h0:-1<=x) (hy:0<=y) (h1:-1<=x') (b:0<=y') (h:slP x y=slP x' y'):x=x'/\(0<=x->y=y'):=by
 rcases NU x 0 with hx | hx
 .have e:x= -1:=ae;subst e;rw[slP_nil]at h;rcases NU x' 0 with a | a
  .exact⟨ae,fun h=>ae⟩
  .rw[slP_pos a]at h;cases h
 .rcases NU x' 0 with a | a
  .have e:x'= -1:=ae;subst e;rw[slP_nil,slP_pos hx]at h;cases h
  .rw[slP_pos hx,slP_pos a]at h;simp only[MP,Addr.mk.injEq,MZ]at h;exact⟨ae,fun _=>ae⟩
def RdB.uniq {a b:List Int} (h1:RdB R v a) (h2:RdB R v b):a=b:=by
 obtain⟨x,y,c,rfl,hy,h1⟩:=h1;obtain⟨x',y',c',he,d,h2⟩:=h2;simp only[Value.slice.injEq]at he;obtain⟨hp,hl,_⟩:=he;have hx:-1<=x:=by rcases h1 with ⟨rfl,_⟩ | ⟨h,_⟩<;>omega
 have e:-1<=x':=by rcases h2 with ⟨rfl,_⟩ | ⟨h,_⟩<;>omega
 obtain⟨rfl,f⟩:=slP_inj hx hy e d hp;rcases h1 with ⟨rfl,rfl⟩ | ⟨h0,h1⟩
 .rw[N0]at hl;exact(MF.1 hl.symm).symm
 .have:=f h0;subst this;rcases h2 with ⟨rfl,_⟩ | ⟨_,h2⟩
  .omega
  .apply Ni;intro j;cases g:a[j]? with
   | some z =>
    have k:j<b.length:=by have:=(MK.1 g).1;omega
    have e1:=h1 j z g;have i:=h2 j _ (ME k);rw[e1]at i;simp only[MP,Value.int.injEq,Nz]at i;rw[ME k,i]
   | none =>
    have:a.length<=j:=OG.1 g;rw[MS ae]
def RdW (R:Hl) (v:Value) (bs:List Int):Prop :=
 ∃ (x y:Int) (c:Nat),v=.slice (slP x y) bs.length c/\0<=y/\(bs=[]\/(0<=x/\∀ j z,bs[j]?=some z->R.cell x.toNat (y.toNat+j)=some (.int .u8 z)))
def RdB.w (h:RdB R v bs):RdW R v bs:=by
 obtain⟨x,y,c,hv,hy,h⟩:=h;exact⟨x,y,c,hv,hy,h.imp (·.2) id⟩
def RdW.uniq {a b:List Int} (h1:RdW R v a) (h2:RdW R v b):a=b:=by
 obtain⟨x,y,c,rfl,hy,h1⟩:=h1;obtain⟨x',y',c',he,d,h2⟩:=h2;have hl:a.length=b.length:=by simp only[Value.slice.injEq]at he;exact he.2.1
 rcases h1 with rfl | ⟨h0,h1⟩
 .exact(MF.1 hl.symm).symm
 .rcases h2 with rfl | ⟨e,h2⟩
  .exact MF.1 hl
  .refine RdB.uniq (R:=R) (v:=.slice (slP x y) a.length c) ⟨x,y,c,rfl,hy,Or.inr ⟨h0,h1⟩⟩ ⟨x',y',c',he,d,Or.inr ⟨e,h2⟩⟩
def OwB (F:Hl) (e:TypeId) (v:Value) (bs:List Int):Prop:=OwnsH F e 1 v bs.length (bys bs)
def OwB.rd (h:OwB F e v bs):RdB F v bs:=by
 obtain⟨hl,h⟩:=h;rcases h with ⟨rfl,hn⟩ | ⟨g,cap,cur,rfl,hg,hle,hm,hs,a⟩
 .exact⟨-1,0,0,by rw[slP_nil,hn],ae,Or.inl ⟨rfl,MF.1 hn⟩⟩
 .refine⟨g,0,cap,by rw[slP_pos ae];simp,ae,Or.inr ⟨ae,fun j z hz=>?_⟩⟩;have b:=(MK.1 hz).1;simp only[MD,Hl.cell,hg,PZ,Nw];have e1:(cur.toList.take (bs.length*1))[j]?=some (.int .u8 z):=by rw[a,bys_get,hz];rfl
  rw[Nv ae,OW]at e1;exact e1
def RdB.at {l c:Int} (h:RdB R (.slice (slP x y) l.toNat c.toNat) bs) (hx:-1<=x) (hy:0<=y) (hl:0<=l) :
 l=bs.length/\((x= -1/\bs=[])\/(0<=x/\∀ j z,bs[j]?=some z->R.cell x.toNat (y.toNat+j)=some (.int .u8 z))):=by
 obtain⟨x',y',c',he,a,h⟩:=h;simp only[Value.slice.injEq]at he;obtain⟨hp,he,_⟩:=he;have b:-1<=x':=by rcases h with ⟨rfl,_⟩ | ⟨h,_⟩<;>omega
 obtain⟨rfl,d⟩:=slP_inj hx hy b a hp;refine⟨ae,?_⟩;rcases h with h | ⟨h0,h⟩
 .exact Or.inl h
 .have:=d h0;subst this;exact Or.inr ⟨h0,h⟩
def cells_bytes {x y:Nat} (h:∀ j z,bs[j]?=some z->R.cell x (y+j)=some (.int .u8 z)) (hn:n<=bs.length):cellBytes R x y n=true:=by
 unfold cellBytes;rw[M8];intro j a;have a:=Nn.1 a;rw[h j _ (ME ae)];simp [valIs]
def cells_ints {x y:Nat} (h:∀ j z,bs[j]?=some z->R.cell x (y+j)=some (.int .u8 z)):cellInts R x y bs.length=bs:=by
 unfold cellInts;apply Ni;intro j;rw[MU];rcases ND j bs.length with a | a
 .rw[Nf a,Nl,h j _ (ME a),ME a];rfl
 .rw[MS (by simpa using a),MS a];rfl
def OwB.shape {l c:Int} (h:OwB F e (.slice (slP x y) l.toNat c.toNat) bs):(x= -1\/(0<=x/\y.toNat=0))\/x< -1:=by
 obtain⟨hl,h⟩:=h;rcases NU x (-1)with hx | hx
 .exact Or.inr hx
 .refine Or.inl ?_;rcases h with ⟨h,hn⟩ | ⟨g,cap,cur,h,hg,hle,hm,hs,a⟩
  .rcases NU x 0 with h0 | h0
   .exact Or.inl ae
   .rw[slP_pos h0]at h;cases h
  .rcases NU x 0 with h0 | h0
   .exact Or.inl ae
   .rw[slP_pos h0]at h;simp only[Value.slice.injEq,MP,Addr.mk.injEq]at h;exact Or.inr ⟨h0,h.1.2.1⟩
def romCells_ev {J:Env} {h:Nat} {x y:E} : ∀ (n j:Nat) (bs:List Int),bs.length=n->(∀ i z,bs[i]?=some z->(J.h h).cell (iev J x).toNat ((iev J y).toNat+(j+i))=some (.int .u8 z))->(romCells h x y j (List.replicate n (Kd.int .u8))).map (CV.ev J)=bys bs
 | 0,_,bs,hl,_=>by rw[MF.1 hl];rfl
 | n+1,j,bs,hl,a=>by
  cases bs with
  | nil=>cases hl
  | cons b bs =>
   rw[Px];simp only[romCells,M6,bys,M6]
   congr 1
   .have:=a 0 b rfl;rw[NH]at this;simp only[romC,CV.ev,iev_hI,this,valI]
   .refine romCells_ev n (j+1) bs (by simpa using hl) fun i z hz=>?_;have:=a (i+1) z (by simpa using hz);rwa[show j+(i+1)=j+1+i by omega]at this
def wrap_i64 {n:Int} (h0:-9223372036854775808<=n) (h1:n<=9223372036854775807):IntKind.i64.wrap n=n:=by rw[IntKind.wrap_i64];omega
def Hl.one_put (b y:Nat) (c:Array Value) (T:TypeId) (a:Nat×Nat) (vs:List Value):(Hl.one b (.cells c T a)).put b y vs=Hl.one b (.cells (splice c.toList y vs).toArray T a):=by
 funext k
 unfold Hl.put;rw[Hl.one_self];unfold Hl.one;split<;>rfl
def Hl.one_setObj (b:Nat) (o o':Obj):(Hl.one b o).setObj b o'=Hl.one b o':=by
 funext k;unfold Hl.setObj Hl.one;split<;>simp_all
def Hl.one_cell (b:Nat) (c:Array Value) (T:TypeId) (a:Nat×Nat) (y:Nat):(Hl.one b (.cells c T a)).cell b y=c[y]?:=by
 unfold Hl.cell;rw[Hl.one_self]
def Hl.one_wr (b:Nat) (c:Array Value) (T:TypeId) (y n:Nat) (h:y+n<=c.size):(Hl.one b (.cells c T (0,0))).wr b y n=true:=by
 unfold Hl.wr;rw[Hl.one_self];simp [h]
def splice_length {l m:List α} {o:Nat} (h:o+m.length<=l.length):(splice l o m).length=l.length:=by
 unfold splice;simp only[MJ,M3,Nj];omega
def splice_bys (l m:List Int) (o:Nat):splice (bys l) o (bys m)=bys (splice l o m):=by
 unfold splice;rw[bys_append,bys_append,bys_length];unfold bys;rw[Pa,Pt]
def splice_get {l m:List α} {o:Nat} (h:o+m.length<=l.length):(splice l o m)[j]?=if o<=j/\j<o+m.length then m[j-o]? else l[j]?:=by
 unfold splice;by_cases h1:j<o
 .rw[MM ae,MY,M5 (by rw[M3];omega),Nv h1]
 .by_cases h2:j<o+m.length
  .rw[M0 ⟨ae,h2⟩,MY,MX (by rw[M3];omega),M3,Py ae,M5 ae]
  .rw[MM ae,MX (by rw[MJ,M3];omega),MJ,M3,Py ae,Nm]
   congr 1;omega
def hls3_le {A C:Hl} (h1:A.dis B) (h2:A.dis C) (b:B.dis C):A.le (hls [A,B,C])/\B.le (hls [A,B,C])/\C.le (hls [A,B,C]):=by
 show A.le (A.un (B.un (C.un Hl.none)))/\B.le (A.un (B.un (C.un Hl.none)))/\C.le (A.un (B.un (C.un Hl.none)));rw[Hl.un_none];have a:A.dis (B.un C):=Hl.dis_un h1 h2;refine⟨Hl.un_left _ _,fun k o h=>Hl.un_right a k o (Hl.un_left _ _ k o h),fun k o h=>Hl.un_right a k o (Hl.un_right b k o h)⟩
def Hl.one_dis_one {a:Nat} {o p:Obj} (h:a≠b):(Hl.one a o).dis (Hl.one b p):=Hl.one_dis.2 fun hb=>h (Hl.one_mem.1 hb)
def MapIs (k:IntKind) (es:Array MapEntry) (l:List (Int×Value)):Prop:=es.toList.map (fun e=>(e.key,e.val))=l.map fun p=>(Value.int k p.1,p.2)
def mapGo (i:Int):List (Int×Value)->Nat->Option (Nat×Value)
 | [],_=>none
 | p::l,n=>if i=p.1 then some (n,p.2)else mapGo i l (n+1)
def findNow_int {k:IntKind} {i:Int} : ∀ (es:List MapEntry) (l:List (Int×Value)) (n:Nat),es.map (fun e=>(e.key,e.val))=l.map (fun p=>(Value.int k p.1,p.2))->Instr.findNow (.int k) (.int k i) es n=some (mapGo i l n)
 | [],[],_,_=>rfl
 | [],_::_,_,h=>by cases h
 | _::_,[],_,h=>by cases h
 | e::es,p::l,n,h=>by
  simp only[M6,MH,Nr]at h;obtain⟨⟨hk,hv⟩,h⟩:=h;unfold Instr.findNow mapGo;rw[hk];simp only[Instr.sameNow,OA];by_cases hi:i=p.1
  .simp [hi,hv]
  .have:(i==p.1)=false:=by simp [hi]
   simp only[this,MM hi];exact findNow_int es l (n+1) h
def mapFind_int {k:IntKind} {es:Array MapEntry} {l:List (Int×Value)} (h:MapIs k es l) (i:Int):mapFind (.int k) (.int k i) es=some (mapGo i l 0):=findNow_int _ _ 0 h
def mapGo_none {i:Int} : ∀ {l:List (Int×Value)} {n:Nat},mapGo i l n=none↔∀ p∈l,p.1≠i
 | [],_=>by simp [mapGo]
 | p::l,n=>by
  unfold mapGo;by_cases hi:i=p.1
  .simp [hi]
  .rw[MM hi,mapGo_none];simp only[MQ,O6];exact⟨fun h=>⟨fun e=>hi e.symm,h⟩,fun h=>h.2⟩
def mapGo_some {i:Int} : ∀ {l:List (Int×Value)} {n j:Nat} {v:Value},mapGo i l n=some (j,v)->n<=j/\l[j-n]?=some (i,v)
 | [],_,_,_,h=>by cases h
 | p::l,n,j,v,h=>by
  unfold mapGo at h;split at h
  .rename_i e;cases h;exact⟨M1 _,by rw[Qh,e];rfl⟩
  .obtain⟨h1,h2⟩:=mapGo_some h;exact⟨ae,by rw[show j-n=(j-(n+1))+1 by omega];exact h2⟩
def newHs_zero (q:Env) (n:Nat):newHs q n 0=[]:=rfl
def newHs_one (q:Env) (n:Nat):newHs q n 1=[q.h n]:=by unfold newHs;rw[List.range_one];rfl
def roots_ne {a:α} {l:List α} : (a::l≠[])=True:=by simp
def noLoops:Loops:=fun _=>none
def inVs (ins:List Cp) (q:Env):List Value:=(cpSVs 0 ins).map (SV.ev q)
def ckNormW (n:Nat) (J:Env):Ck->Prop
 | .ptr=>True/\0<=J.i (n+1)
 | .sl=>True/\0<=J.i (n+1)/\0<=J.i (n+2)/\0<=J.i (n+3)
 | .slw=>True/\0<=J.i (n+1)/\0<=J.i (n+2)/\0<=J.i (n+3)
 | _=>True
def ckNormsW:Nat->List Ck->Env->Prop
 | _,[],_=>True
 | n,k::l,J=>ckNormW n J k/\ckNormsW (n+k.len) l J
def cpNormW (n:Nat) (J:Env):Cp->Prop
 | .one k=>ckNormW n J k
 | .agg ks=>ckNormsW n ks J
def cpNormsW:Nat->List Cp->Env->Prop
 | _,[],_=>True
 | n,c::l,J=>cpNormW n J c/\cpNormsW (n+c.len) l J
def ckNorm.w {J:Env} {k:Ck} (h:ckNorm n J k):ckNormW n J k:=by
 cases k<;>first | exact zzT | exact⟨zzT,h.2⟩
def ckNorms.w {J:Env} : ∀ {ks:List Ck} {n:Nat},ckNorms n ks J->ckNormsW n ks J
 | [],_,_=>trivial
 | _::_,_,h=>⟨h.1.w,ckNorms.w h.2⟩
def cpNorms.w {J:Env} : ∀ {cs:List Cp} {n:Nat},cpNorms n cs J->cpNormsW n cs J
 | [],_,_=>trivial
 | c::_,_,h=>⟨(match c,h.1 with | .one _,h=>ckNorm.w h | .agg _,h=>ckNorms.w h),cpNorms.w h.2⟩
def pureS (f:FuncId) (ins res:List Cp) (N:List Value->Prop) (G:List Value->Value):Spec where
 fn:=f
 own:=[]
 rd:=[]
 res:=res
 pre:=fun xs _ _=>(∃ q,cpNormsW 0 ins q/\xs=inVs ins q)/\N xs
 post:=fun xs _ _ v _ _=>v=G xs
def shapeOK (res:List Cp) (v:Value):Prop:=∃ a,v=(cpTV 0 res).ev a/\cpNorms 0 res a
section
variable {P:Program} {Γ:List Spec} {f:FuncId} {ins res:List Cp} {N:List Value->Prop} {G:List Value->Value}
def pure_of (c:∀ t∈Γ,t.OK P) (W:Walk P Γ f) (l:W.args=(cpSVs 0 ins).map .sv) (hm:W.mem=[]) (hp:W.path=[])
 (hres:∀ q,cpNormsW 0 ins q->N (inVs ins q)->shapeOK res (G (inVs ins q)))
 (h:∀ q,cpNormsW 0 ins q->N (inVs ins q)->∃ inv mu,W.owes ⟨Γ,inv,mu,fun J _ r=>r.ev J=G (inVs ins q)⟩ (fun _=>0) q):(pureS f ins res N G).OK P:=by
 intro w xs Hs Rs d m n o s u ⟨⟨q,k,hx⟩,hN⟩;subst hx;have e0:Hs=[]:=MF.1 d;subst e0;obtain⟨inv,mu,hn⟩:=h q k hN;unfold Walk.owes at hn;obtain⟨nd,v,hn⟩:=hn;have g:MRel (fun _=>False) w q W.mem w:=by
  rw[hm];exact⟨Keep.refl _ _,(fun r hr=>nomatch hr),(fun r hr=>nomatch hr),(fun p _ r _ _ hp=>by simp at hp),(fun r hr=>nomatch hr)⟩
 have i:Path q W.path:=by rw[hp];exact fun _ h=>nomatch h
 have:=fn_sound (C:=⟨Γ,inv,mu,fun J _ r=>r.ev J=G (inVs ins q)⟩) c (dk_ok (C:=⟨Γ,inv,mu,fun J _ r=>r.ev J=G (inVs ins q)⟩) c) v g i hn;have ex:(W.args.map (TV.ev q))=inVs ins q:=by
  rw[l,NY];rfl
 rw[ex]at this;refine this.mono ?_;rintro e w' ⟨J',mem',r,rfl,hg,a,hpost⟩;obtain⟨j,h1,h2⟩:=hres q k hN;refine⟨j,[],Hl.none,(by rw[hpost,h1];rfl),h2,⟨a.keep.os,a.keep.tape,a.keep.output,a.keep.size,fun b hb _=>a.keep.block b hb id,rfl,(fun _ h=>nomatch h),(fun _ _ h=>nomatch h),(fun _ h=>nomatch h),(fun b h=>by simp [Hl.mem,Hl.none]at h),(fun p _ _ _ _ h=>by simp at h),(fun _ h=>nomatch h)⟩,?_⟩;exact h1.symm
def shape_bool (b:Bool):shapeOK [.one .bool] (.bool b):=⟨⟨fun _=>0,fun _=>b,fun _=>.empty,fun _=>.tuple #[],fun _=>Hl.none⟩,rfl,zzT,zzT⟩
def shape_int (k:IntKind) (n:Int):shapeOK [.one (.int k)] (.int k n):=⟨⟨fun _=>n,fun _=>false,fun _=>.empty,fun _=>.tuple #[],fun _=>Hl.none⟩,rfl,zzT,zzT⟩
end
def cellsV:Value->List Value
 | .agg cs=>cs.toList
 | v=>[v]
def lenV:Value->Int
 | .slice _ n _=>n
 | _=>0
def rowOK:List Value->List Kd->Prop
 | [],[]=>True
 | v::l,k::m=>valIs (some v) k=true/\rowOK l m
 | _,_=>False
def rowOK_length:∀ {l:List Value} {ks:List Kd},rowOK l ks->l.length=ks.length
 | [],[],_=>rfl
 | _::l,_::m,h=>by simp [rowOK_length h.2]
 | [],_::_,h=>h.elim
 | _::_,[],h=>h.elim
def RdRows (R:Hl) (v:Value) (ks:List Kd) (rows:List (List Value)):Prop :=
 ∃ (x y:Int) (c:Nat),v=.slice (slP x y) rows.length c/\0<=y/\(rows=[]\/(0<=x/\∀ (i:Nat) row,rows[i]?=some row->rowOK row ks/\∀ j u,row[j]?=some u->R.cell x.toNat (y.toNat+i*ks.length+j)=some u))
def rowIs_of {R:Hl} {x:Nat} : ∀ {row:List Value} {ks:List Kd} (y:Nat),rowOK row ks->(∀ j u,row[j]?=some u->R.cell x (y+j)=some u)->rowIs R x y ks=true
 | [],[],_,_,_=>rfl
 | v::l,k::m,y,h,a=>by
  simp only[rowIs,ML];refine⟨?_,rowIs_of (y+1) h.2 fun j u hu=>?_⟩
  .have:=a 0 v rfl;rw[NH]at this;rw[this];exact h.1
  .have:=a (j+1) u (by simpa using hu);rwa[show y+(j+1)=y+1+j by omega]at this
 | [],_::_,_,h,_=>h.elim
 | _::_,[],_,h,_=>h.elim
def romCells_row {J:Env} {h:Nat} {x y:E} : ∀ (row:List Value) (ks:List Kd) (j:Nat),rowOK row ks->(∀ i u,row[i]?=some u->(J.h h).cell (iev J x).toNat ((iev J y).toNat+(j+i))=some u)->(romCells h x y j ks).map (CV.ev J)=row
 | [],[],_,_,_=>rfl
 | v::l,k::m,j,hr,a=>by
  simp only[romCells,M6];have h0:=a 0 v rfl;rw[NH]at h0
  congr 1
  .have:=romC_sound (h:=h) (x:=x) (y:=y) (j:=j) (k:=k) (J:=J) (by rw[bev_his,h0];exact hr.1);rw[h0]at this;exact(Nx this).symm
  .refine romCells_row l m (j+1) hr.2 fun i u hu=>?_;have:=a (i+1) u (by simpa using hu);rwa[show j+(i+1)=j+1+i by omega]at this
 | [],_::_,_,h,_=>h.elim
 | _::_,[],_,h,_=>h.elim
end Go.Sx
namespace Go.Sx.K
open Go
variable {α:Type}
structure Tbl where
 c:List (List Ck)
 k:List (List Kd):=[]
 w:List (List CV):=[]
def nv:List Nat->Nat->Nat
 | [],_=>0
 | n::l,p=>n <<<p+nv l (p+20)
def nk:Nat->Nat->Nat->List Nat->Nat
 | v,_,p,[]=>p+v <<<20
 | v,q,p,k::l=>nk (v+p <<<q+(k >>>20) <<<p) (q+20) (p+k%1048576) l
def nd (t:Nat) (a ks:List Nat):Nat:=nk (t+nv a 6) (6+20*a.length) (6+20*(a.length+ks.length)) ks
def el (f:α->Nat) (l:List α):Nat:=nd l.length [] (l.map f)
def bi (n:Nat):Nat:=(10+(n.log2+1))+((n.log2+1)+n <<<10) <<<20
def eI:Int->Nat
 | .ofNat n=>bi (2*n)
 | .negSucc n=>bi (2*n+1)
def eK:IntKind->Nat
 | .i8=>0 | .i16=>1 | .i32=>2 | .i64=>3 | .u8=>4 | .u16=>5 | .u32=>6 | .u64=>7
def eO:BinOp->Nat
 | .and=>0 | .or=>1 | .xor=>2 | _=>3
def eB:Bool->Nat
 | true=>1 | false=>0
def eD:Kd->Nat
 | .int k=>eK k | .bool=>8 | .slice=>9 | .ptr=>10 | .str=>11 | .map=>12 | .any=>13
def eC:Ck->Nat
 | .int k=>eK k | .bool=>8 | .sl=>9 | .ptr=>10 | .str=>11 | .map=>12 | .any=>13 | .slw=>14
def eVa:Value->Nat
 | .nilIface=>1
 | .func (.func f) _ _=>2+f
 | _=>0
def eU (n:UInt8):Nat:=nd 0 [n.toNat] []
def eM (n:Nat):Nat:=nd 0 [n] []
def eH:Nat×Option Nat->Nat
 | (n,none)=>nd 0 [n,0] []
 | (n,some k)=>nd 0 [n,k+1] []
def run1 (a:Nat):List Nat->Nat
 | b::l=>if Nat.beq a b then run1 a l+1 else 0
 | []=>0
def segs:Nat->List Nat->List Nat->List Nat
 | 0,_,_=>[]
 | _+1,acc,[]=>if acc.isEmpty then []else [nd 0 (acc.length::acc) []]
 | f+1,acc,a::l =>
  let n:=run1 a (a::l)
  if Nat.ble 3 n then(if acc.isEmpty then []else [nd 0 (acc.length::acc) []])++nd 1 [n,a] []::segs f [] ((a::l).drop n)else segs f (acc++[a]) l
def fold2:List Nat->Nat
 | []=>nd 0 [0] []
 | a::l=>l.foldl (fun x y=>nd 2 [] [x,y]) a
def eqNs:List Nat->List Nat->Bool
 | [],[]=>true
 | a::l,b::m=>Nat.beq a b&&eqNs l m
 | _,_=>false
def eCk (K:List (List Ck)) (l:List Ck):Nat :=
 match K.findIdx? fun k=>eqNs (k.map eC) (l.map eC)with
 | some i=>nd 3 [i] []
 | none=>fold2 (segs 200 [] (l.map eC))
def eKd (K:List (List Kd)) (l:List Kd):Nat :=
 match K.findIdx? fun k=>eqNs (k.map eD) (l.map eD)with
 | some i=>nd 3 [i] []
 | none=>fold2 (segs 200 [] (l.map eD))
def eE (K:Tbl):E->Nat
 | .lit a0=>nd 0 [] [eI a0]
 | .var a0=>nd 1 [a0] []
 | .add a0 a1=>nd 2 [] [eE K a0,eE K a1]
 | .sub a0 a1=>nd 3 [] [eE K a0,eE K a1]
 | .mul a0 a1=>nd 4 [] [eE K a0,eE K a1]
 | .quo a0 a1=>nd 5 [] [eE K a0,eE K a1]
 | .rem a0 a1=>nd 6 [] [eE K a0,eE K a1]
 | .wrap a0 a1=>nd 7 [eK a0] [eE K a1]
 | .bits a0 a1 a2 a=>nd 8 [eO a0,eK a1] [eE K a2,eE K a]
 | .shl a0 a1 a2=>nd 9 [eK a0] [eE K a1,eE K a2]
 | .shr a0 a1 a2=>nd 10 [eK a0] [eE K a1,eE K a2]
 | .tt=>nd 11 [] []
 | .ff=>nd 12 [] []
 | .bvar a0=>nd 13 [a0] []
 | .not a0=>nd 14 [] [eE K a0]
 | .and a0 a1=>nd 15 [] [eE K a0,eE K a1]
 | .or a0 a1=>nd 16 [] [eE K a0,eE K a1]
 | .ite a0 a1 a2=>nd 17 [] [eE K a0,eE K a1,eE K a2]
 | .lt a0 a1=>nd 18 [] [eE K a0,eE K a1]
 | .le a0 a1=>nd 19 [] [eE K a0,eE K a1]
 | .eq a0 a1=>nd 20 [] [eE K a0,eE K a1]
 | .beq a0 a1=>nd 21 [] [eE K a0,eE K a1]
 | .hI a0 a1 a2 a=>nd 22 [a0,a] [eE K a1,eE K a2]
 | .hB a0 a1 a2 a=>nd 23 [a0,a] [eE K a1,eE K a2]
 | .hP a0 a1 a2 a b=>nd 24 [a0,a,b] [eE K a1,eE K a2]
 | .hS a0 a1 a2 a=>nd 25 [a0,a] [eE K a1,eE K a2]
 | .his a0 a1 a2 a b=>nd 26 [a0,a,eD b] [eE K a1,eE K a2]
 | .svar a0=>nd 27 [a0] []
 | .slit a0=>nd 28 [] [el eU a0.data.toList]
 | .scat a0 a1=>nd 29 [] [eE K a0,eE K a1]
 | .sbyte a0=>nd 30 [] [eE K a0]
 | .sof a0 a1 a2 a=>nd 31 [a0] [eE K a1,eE K a2,eE K a]
 | .slen a0=>nd 32 [] [eE K a0]
 | .sat a0 a1=>nd 33 [] [eE K a0,eE K a1]
 | .sext a0 a1 a2=>nd 34 [] [eE K a0,eE K a1,eE K a2]
 | .seq a0 a1=>nd 35 [] [eE K a0,eE K a1]
 | .slt a0 a1=>nd 36 [] [eE K a0,eE K a1]
 | .hmlen a0 a1=>nd 37 [a0] [eE K a1]
 | .vint a0=>nd 38 [a0] []
 | .hby a0 a1 a2 a=>nd 39 [a0] [eE K a1,eE K a2,eE K a]
 | .hism a0 a1=>nd 40 [a0] [eE K a1]
 | .hks a0 a1 a2 a=>nd 41 [a0] [eE K a1,eE K a2,eKd K.k a]
def eV (K:Tbl):CV->Nat
 | .int a0 a1=>nd 0 [eK a0] [eE K a1]
 | .bool a0=>nd 1 [] [eE K a0]
 | .str a0=>nd 2 [] [eE K a0]
 | .pti a0 a1 a2 a b=>nd 3 [a0,a1,a2,a] [eE K b]
 | .hptr a0 a1=>nd 4 [] [eE K a0,eE K a1]
 | .sl a0 a1 a2 a=>nd 5 [] [eE K a0,eE K a1,eE K a2,eE K a]
 | .map a0=>nd 6 [] [eE K a0]
 | .vr a0=>nd 7 [a0] []
 | .hv a0 a1 a2 a=>nd 8 [a0,a] [eE K a1,eE K a2]
 | .val a0=>nd 9 [eVa a0] []
 | .clo a0 a1=>nd 10 [a0] [eE K a1]
 | .clo2 a0 a1 a2=>nd 11 [a0] [eE K a1,eE K a2]
def ckAtV (n:Nat):CV->Option Ck
 | .int k (.var m)=>if Nat.beq m n then some (.int k)else none
 | .bool (.bvar m)=>if Nat.beq m n then some .bool else none
 | .str (.svar m)=>if Nat.beq m n then some .str else none
 | .sl (.var a) (.var b) (.var c) (.var d)=>if Nat.beq a n&&Nat.beq b (n+1)&&Nat.beq c (n+2)&&Nat.beq d (n+3)then some .sl else none
 | .hptr (.var a) (.var b)=>if Nat.beq a n&&Nat.beq b (n+1)then some .ptr else none
 | .map (.var a)=>if Nat.beq a n then some .map else none
 | _=>none
def varV:CV->Nat
 | .int _ (.var m)=>m | .bool (.bvar m)=>m | .str (.svar m)=>m | .sl (.var a) _ _ _=>a | .hptr (.var a) _=>a | .map (.var a)=>a
 | _=>0
def runV (n:Nat):List CV->List Ck
 | c::l=>match ckAtV n c with
  | some k=>k::runV (n+k.len) l
  | none=>[]
 | []=>[]
def romAtV (h:Nat) (x y:E) (j:Nat):CV->Option Kd
 | .int k (.hI a b c d)=>if Nat.beq a h&&decide (b=x)&&decide (c=y)&&Nat.beq d j then some (.int k)else none
 | .bool (.hB a b c d)=>if Nat.beq a h&&decide (b=x)&&decide (c=y)&&Nat.beq d j then some .bool else none
 | .str (.hS a b c d)=>if Nat.beq a h&&decide (b=x)&&decide (c=y)&&Nat.beq d j then some .str else none
 | .sl (.hP a b c d 0) (.hP _ _ _ d1 1) (.hP _ _ _ d2 2) (.hP _ _ _ d3 3)=>if Nat.beq a h&&decide (b=x)&&decide (c=y)&&Nat.beq d j&&Nat.beq d1 j&&Nat.beq d2 j&&Nat.beq d3 j then some .slice else none
 | .hv a b c d=>if Nat.beq a h&&decide (b=x)&&decide (c=y)&&Nat.beq d j then some .any else none
 | _=>none
def romRun (h:Nat) (x y:E) (j:Nat):List CV->List Kd
 | c::l=>match romAtV h x y j c with
  | some k=>k::romRun h x y (j+1) l
  | none=>[]
 | []=>[]
def romHeadV:CV->Option (Nat×E×E)
 | .int _ (.hI a b c 0) | .bool (.hB a b c 0) | .str (.hS a b c 0) | .sl (.hP a b c 0 0) _ _ _ | .hv a b c 0=>some (a,b,c)
 | _=>none
def runC (a:CV):List CV->Nat
 | b::l=>if eqCV a b then runC a l+1 else 0
 | []=>0
def segW (K:Tbl):Nat->List Nat->List CV->List Nat
 | 0,_,_=>[]
 | _+1,acc,[]=>if acc.isEmpty then []else [nd 0 [] [nd acc.length [] acc]]
 | f+1,acc,c::l =>
  let pre:=if acc.isEmpty then []else [nd 0 [] [nd acc.length [] acc]]
  let n1:=runC c (c::l)
  let b:=match romHeadV c with
   | some (a,x,y)=>romRun a x y 0 (c::l)
   | none=>[]
  let d:=runV (varV c) (c::l)
  if Nat.ble 6 b.length&&Nat.blt n1 9 then
   pre++(match romHeadV c with
    | some (a,x,y)=>nd 2 [a] [eE K x,eE K y,eKd K.k b]
    | none=>0)::segW K f [] ((c::l).drop b.length)
  else if Nat.ble 6 d.length&&Nat.blt n1 9 then pre++nd 1 [varV c] [eCk K.c d]::segW K f [] ((c::l).drop d.length)
  else if Nat.ble 9 n1 then pre++nd 3 [n1] [eV K c]::segW K f [] ((c::l).drop n1)
  else segW K f (acc++[eV K c]) l
def eW (K:Tbl) (f:Nat) (l:List CV):Nat :=
 match K.w.findIdx? fun k=>eqL eqCV k l with
 | some i=>nd 5 [i] []
 | none=>match segW K f [] l with
  | []=>nd 0 [] [nd 0 [] []]
  | a::r=>r.foldl (fun x y=>nd 4 [] [x,y]) a
def eA (K:Tbl) (a:As):Nat:=nd 0 [a.n,a.k] [eV K a.c]
def rowA:List Ck->List As->List CV
 | .sl::ks,a::b::c::d::l=>(match a.c,b.c,c.c,d.c with | .int _ x,.int _ y,.int _ z,.int _ w=>CV.sl x y z w | _,_,_,_=>.vr 0)::rowA ks l
 | .slw::ks,a::b::c::d::l=>(match a.c,b.c,c.c,d.c with | .int _ x,.int _ y,.int _ z,.int _ w=>CV.sl x y z w | _,_,_,_=>.vr 0)::rowA ks l
 | .int k::ks,a::l=>(match a.c with | .int _ e=>CV.int k e | c=>c)::rowA ks l
 | _::ks,a::l=>a.c::rowA ks l
 | _,_=>[]
def hn:List As->Nat
 | a::_=>a.n | []=>0
def fitA (K:Tbl) (l:List As) (ks:List Ck):Bool:=Nat.ble 20 (ckLen ks)&&Nat.ble (ckLen ks) l.length&&eqNs (((mL (hn (l.drop (l.length-ckLen ks))) (ckCVs (hn (l.drop (l.length-ckLen ks))) ks) (rowA ks (l.drop (l.length-ckLen ks)))).getD []).map (eA K)) ((l.drop (l.length-ckLen ks)).map (eA K))
def eAl (K:Tbl) (l:List As):Nat :=
 match K.c.findIdx? (fitA K l)with
 | some i=>nd 1 [hn (l.drop (l.length-ckLen (K.c.getD i []))),i] [el (eA K) (l.take (l.length-ckLen (K.c.getD i []))),eW K 200 (rowA (K.c.getD i []) (l.drop (l.length-ckLen (K.c.getD i []))))]
 | none=>nd 0 [] [el (eA K) l]
def eS (K:Tbl):SV->Nat
 | .one a0=>nd 0 [] [eV K a0]
 | .agg a0=>nd 1 [] [eW K 200 a0]
def eT (K:Tbl):TV->Nat
 | .sv a0=>nd 0 [] [eS K a0]
 | .tup a0=>nd 1 [] [el (eS K) a0]
def eR (K:Tbl):Res->Nat
 | .blk a0 a1 a2=>nd 0 [a0,a2] [eW K 200 a1]
 | .hp a0 a1 a2 a=>nd 1 [a0] [el eM a1,el (eE K) a2,el (eE K) a]
 | .ro a0 a1 a2=>nd 2 [a0,eB a2] [el (eE K) a1]
 | .dead=>nd 3 [] []
def eQ (K:Tbl):Src->Nat
 | .cvs a0 a1=>nd 0 [a1] [eW K 200 a0]
 | .seg a0 a1 a2 a=>nd 1 [a0] [eE K a1,eE K a2,eE K a]
def eX (K:Tbl):X->Nat
 | .alloc a0=>nd 0 [a0] []
 | .put a0 a1 a2 a b=>nd 1 [a0,a1] [eE K a2,eE K a,eW K 200 b]
 | .app a0 a1 a2 a b d e f=>nd 2 [a0,a1,a2,a] [eV K b,eE K d,eR K e,eQ K f]
 | .grow a0 a1 a2 a b d e f=>nd 3 [a0,a1,a2,a,d,e] [eW K 200 b,eQ K f]
 | .mk a0 a1 a2 a b=>nd 4 [a0,a1,a] [eW K 200 a2,eE K b]
 | .call a0 a1 a2 a b=>nd 5 [a0,a1] [el (eT K) a2,el (eR K) a,el (eR K) b]
 | .mnew a0=>nd 6 [a0] []
 | .mget a0 a1 a2 a b d e f=>nd 7 [a0,a1,eD a,eB f] [eE K a2,eV K b,eS K d,eCk K.c e]
 | .mset a0 a1 a2 a b d=>nd 8 [a0,a1,eD a] [eE K a2,eV K b,eS K d]
 | .mclr a0 a1 a2=>nd 9 [a0,a1] [eE K a2]
 | .cbs a0 a1 a2 a=>nd 10 [a0,a1,a] [eW K 200 a2]
 | .mrg a0 a1 a2=>nd 11 [a0] [eR K a1,eR K a2]
 | .cpy a0 a1 a2 a b d e f g=>nd 12 [a0,a1,d] [eE K a2,eE K a,eE K b,eE K e,eE K f,eE K g]
 | .hpf a0 a1=>nd 13 [a0] [eR K a1]
 | .mki a0 a1 a2=>nd 14 [a0,a1] [eS K a2]
def eN (K:Tbl):Nd->Nat
 | .tt=>nd 0 [] []
 | .e a0=>nd 1 [] [eE K a0]
 | .and a0 a1=>nd 2 [] [eN K a0,eN K a1]
 | .imp a0 a1=>nd 3 [] [eE K a0,eN K a1]
 | .pre a0=>nd 4 [] [eX K a0]
 | .ext a0 a1=>nd 5 [] [eX K a0,eN K a1]
 | .inv a0 a1 a2=>nd 6 [a0] [eAl K a1,el eH a2]
 | .back a0 a1 a2 a=>nd 7 [a0,a1] [eAl K a2,el eH a]
 | .havoc a0 a1 a2 a=>nd 8 [a0,a1,a2] [eN K a]
 | .post a0 a1=>nd 9 [] [el (eR K) a0,eT K a1]
def fl (N p:Nat):Nat:=(N >>>p)%1048576
def tg (N p:Nat):Nat:=(N >>>p)%64
def fo (N o i:Nat):Nat:=fl N (o+i)
def jo (N o i:Nat):Nat:=o+fl N (o+i)
def at' (N:Nat) (g:Nat->Nat->α) (p:Nat):α:=g p (tg N p)
def dl {α:Type} (N:Nat) (g:Nat->Nat->α) (o:Nat):Nat->Nat->List α
 | _,0=>[]
 | i,n+1=>g (o+fl N (o+(6+20*i))) (tg N (o+fl N (o+(6+20*i))))::dl N g o (i+1) n
def ls (N:Nat) (g:Nat->Nat->α) (p:Nat):List α:=dl N g p 0 (tg N p)
def zi:Nat->Nat->Int
 | n,0=>(n:Int)
 | n,_=> -((n:Int)+1)
def dI' (n:Nat):Int:=zi (n/2) (n%2)
def dI (N p:Nat):Int:=dI' ((N >>>(p+10))%2 ^ ((N >>>p)%1024))
def dK:Nat->IntKind
 | 0=>.i8 | 1=>.i16 | 2=>.i32 | 3=>.i64 | 4=>.u8 | 5=>.u16 | 6=>.u32 | _=>.u64
def dO:Nat->BinOp
 | 0=>.and | 1=>.or | 2=>.xor | _=>.andNot
def dB:Nat->Bool
 | 0=>false | _=>true
def dD:Nat->Kd
 | 0=>.int .i8 | 1=>.int .i16 | 2=>.int .i32 | 3=>.int .i64 | 4=>.int .u8 | 5=>.int .u16 | 6=>.int .u32 | 7=>.int .u64 | 8=>.bool | 9=>.slice | 10=>.ptr | 11=>.str | 12=>.map | _=>.any
def dC:Nat->Ck
 | 0=>.int .i8 | 1=>.int .i16 | 2=>.int .i32 | 3=>.int .i64 | 4=>.int .u8 | 5=>.int .u16 | 6=>.int .u32 | 7=>.int .u64 | 8=>.bool | 9=>.sl | 10=>.ptr | 11=>.str | 12=>.map | 13=>.any | _=>.slw
def dVa:Nat->Value
 | 0=>.nilFunc | 1=>.nilIface | n+2=>.func (.func n) #[] #[]
def dU (N o _t:Nat):UInt8:=UInt8.ofNat (fl N (o+6))
def dM (N o _t:Nat):Nat:=fl N (o+6)
def dop:Nat->Option Nat
 | 0=>none | k+1=>some k
def dH (N o _t:Nat):Nat×Option Nat:=(fl N (o+6),dop (fl N (o+26)))
def gt {α:Type} : List (List α)->Nat->List α
 | [],_=>[] | a::_,0=>a | _::l,n+1=>gt l n
def dns {α:Type} (N:Nat) (g:Nat->α) (o:Nat):Nat->Nat->List α
 | _,0=>[]
 | i,n+1=>g (fl N (o+(26+20*i)))::dns N g o (i+1) n
def dCk (K:List (List Ck)) (N:Nat):Nat->Nat->Nat->List Ck
 | _+1,o,0=>dns N dC o 0 (fl N (o+6))
 | _+1,o,1=>List.replicate (fl N (o+6)) (dC (fl N (o+26)))
 | f+1,o,2=>at' N (dCk K N f) (o+46)++at' N (dCk K N f) (jo N o 26)
 | _,o,_=>gt K (fl N (o+6))
def dKd (K:List (List Kd)) (N:Nat):Nat->Nat->Nat->List Kd
 | _+1,o,0=>dns N dD o 0 (fl N (o+6))
 | _+1,o,1=>List.replicate (fl N (o+6)) (dD (fl N (o+26)))
 | f+1,o,2=>at' N (dKd K N f) (o+46)++at' N (dKd K N f) (jo N o 26)
 | _,o,_=>gt K (fl N (o+6))
def dE (K:Tbl) (N:Nat):Nat->Nat->Nat->E
 | f+1,o,0=>.lit (dI N (o+26))
 | f+1,o,1=>.var (fo N o 6)
 | f+1,o,2=>.add (at' N (dE K N f) (o+46)) (at' N (dE K N f) (jo N o 26))
 | f+1,o,3=>.sub (at' N (dE K N f) (o+46)) (at' N (dE K N f) (jo N o 26))
 | f+1,o,4=>.mul (at' N (dE K N f) (o+46)) (at' N (dE K N f) (jo N o 26))
 | f+1,o,5=>.quo (at' N (dE K N f) (o+46)) (at' N (dE K N f) (jo N o 26))
 | f+1,o,6=>.rem (at' N (dE K N f) (o+46)) (at' N (dE K N f) (jo N o 26))
 | f+1,o,7=>.wrap (dK (fo N o 6)) (at' N (dE K N f) (o+46))
 | f+1,o,8=>.bits (dO (fo N o 6)) (dK (fo N o 26)) (at' N (dE K N f) (o+86)) (at' N (dE K N f) (jo N o 66))
 | f+1,o,9=>.shl (dK (fo N o 6)) (at' N (dE K N f) (o+66)) (at' N (dE K N f) (jo N o 46))
 | f+1,o,10=>.shr (dK (fo N o 6)) (at' N (dE K N f) (o+66)) (at' N (dE K N f) (jo N o 46))
 | f+1,o,11=>.tt
 | f+1,o,12=>.ff
 | f+1,o,13=>.bvar (fo N o 6)
 | f+1,o,14=>.not (at' N (dE K N f) (o+26))
 | f+1,o,15=>.and (at' N (dE K N f) (o+46)) (at' N (dE K N f) (jo N o 26))
 | f+1,o,16=>.or (at' N (dE K N f) (o+46)) (at' N (dE K N f) (jo N o 26))
 | f+1,o,17=>.ite (at' N (dE K N f) (o+66)) (at' N (dE K N f) (jo N o 26)) (at' N (dE K N f) (jo N o 46))
 | f+1,o,18=>.lt (at' N (dE K N f) (o+46)) (at' N (dE K N f) (jo N o 26))
 | f+1,o,19=>.le (at' N (dE K N f) (o+46)) (at' N (dE K N f) (jo N o 26))
 | f+1,o,20=>.eq (at' N (dE K N f) (o+46)) (at' N (dE K N f) (jo N o 26))
 | f+1,o,21=>.beq (at' N (dE K N f) (o+46)) (at' N (dE K N f) (jo N o 26))
 | f+1,o,22=>.hI (fo N o 6) (at' N (dE K N f) (o+86)) (at' N (dE K N f) (jo N o 66)) (fo N o 26)
 | f+1,o,23=>.hB (fo N o 6) (at' N (dE K N f) (o+86)) (at' N (dE K N f) (jo N o 66)) (fo N o 26)
 | f+1,o,24=>.hP (fo N o 6) (at' N (dE K N f) (o+106)) (at' N (dE K N f) (jo N o 86)) (fo N o 26) (fo N o 46)
 | f+1,o,25=>.hS (fo N o 6) (at' N (dE K N f) (o+86)) (at' N (dE K N f) (jo N o 66)) (fo N o 26)
 | f+1,o,26=>.his (fo N o 6) (at' N (dE K N f) (o+106)) (at' N (dE K N f) (jo N o 86)) (fo N o 26) (dD (fo N o 46))
 | f+1,o,27=>.svar (fo N o 6)
 | f+1,o,28=>.slit ⟨(dl N (dU N) (o+26) 0 (tg N (o+26))).toArray⟩
 | f+1,o,29=>.scat (at' N (dE K N f) (o+46)) (at' N (dE K N f) (jo N o 26))
 | f+1,o,30=>.sbyte (at' N (dE K N f) (o+26))
 | f+1,o,31=>.sof (fo N o 6) (at' N (dE K N f) (o+86)) (at' N (dE K N f) (jo N o 46)) (at' N (dE K N f) (jo N o 66))
 | f+1,o,32=>.slen (at' N (dE K N f) (o+26))
 | f+1,o,33=>.sat (at' N (dE K N f) (o+46)) (at' N (dE K N f) (jo N o 26))
 | f+1,o,34=>.sext (at' N (dE K N f) (o+66)) (at' N (dE K N f) (jo N o 26)) (at' N (dE K N f) (jo N o 46))
 | f+1,o,35=>.seq (at' N (dE K N f) (o+46)) (at' N (dE K N f) (jo N o 26))
 | f+1,o,36=>.slt (at' N (dE K N f) (o+46)) (at' N (dE K N f) (jo N o 26))
 | f+1,o,37=>.hmlen (fo N o 6) (at' N (dE K N f) (o+46))
 | f+1,o,38=>.vint (fo N o 6)
 | f+1,o,39=>.hby (fo N o 6) (at' N (dE K N f) (o+86)) (at' N (dE K N f) (jo N o 46)) (at' N (dE K N f) (jo N o 66))
 | f+1,o,40=>.hism (fo N o 6) (at' N (dE K N f) (o+46))
 | f+1,o,41=>.hks (fo N o 6) (at' N (dE K N f) (o+86)) (at' N (dE K N f) (jo N o 46)) (at' N (dKd K.k N 20) (jo N o 66))
 | _,_,_=>.tt
def dV (K:Tbl) (N:Nat):Nat->Nat->CV
 | o,0=>.int (dK (fo N o 6)) (at' N (dE K N 99) (o+46))
 | o,1=>.bool (at' N (dE K N 99) (o+26))
 | o,2=>.str (at' N (dE K N 99) (o+26))
 | o,3=>.pti (fo N o 6) (fo N o 26) (fo N o 46) (fo N o 66) (at' N (dE K N 99) (o+106))
 | o,4=>.hptr (at' N (dE K N 99) (o+46)) (at' N (dE K N 99) (jo N o 26))
 | o,5=>.sl (at' N (dE K N 99) (o+86)) (at' N (dE K N 99) (jo N o 26)) (at' N (dE K N 99) (jo N o 46)) (at' N (dE K N 99) (jo N o 66))
 | o,6=>.map (at' N (dE K N 99) (o+26))
 | o,7=>.vr (fo N o 6)
 | o,8=>.hv (fo N o 6) (at' N (dE K N 99) (o+86)) (at' N (dE K N 99) (jo N o 66)) (fo N o 26)
 | o,9=>.val (dVa (fo N o 6))
 | o,10=>.clo (fo N o 6) (at' N (dE K N 99) (o+46))
 | o,11=>.clo2 (fo N o 6) (at' N (dE K N 99) (o+66)) (at' N (dE K N 99) (jo N o 46))
 | _,_=>.vr 0
def dW (K:Tbl) (N:Nat):Nat->Nat->Nat->List CV
 | _+1,o,0=>ls N (dV K N) (o+26)
 | _+1,o,1=>ckCVs (fl N (o+6)) (at' N (dCk K.c N 20) (o+46))
 | _+1,o,2=>romCells (fl N (o+6)) (at' N (dE K N 99) (o+86)) (at' N (dE K N 99) (jo N o 46)) 0 (at' N (dKd K.k N 20) (jo N o 66))
 | _+1,o,3=>List.replicate (fl N (o+6)) (at' N (dV K N) (o+46))
 | f+1,o,4=>at' N (dW K N f) (o+46)++at' N (dW K N f) (jo N o 26)
 | _,o,_=>gt K.w (fo N o 6)
def dA (K:Tbl) (N o _t:Nat):As:=⟨fl N (o+6),fl N (o+26),at' N (dV K N) (o+66)⟩
def dAl (K:Tbl) (N:Nat):Nat->Nat->List As
 | o,0=>ls N (dA K N) (o+26)
 | o,_=>ls N (dA K N) (o+86)++(mL (fo N o 6) (ckCVs (fo N o 6) (gt K.c (fo N o 26))) (at' N (dW K N 60) (jo N o 66))).getD []
def dS (K:Tbl) (N:Nat):Nat->Nat->SV
 | o,0=>.one (at' N (dV K N) (o+26))
 | o,1=>.agg (at' N (dW K N 60) (o+26))
 | _,_=>.agg []
def dT (K:Tbl) (N:Nat):Nat->Nat->TV
 | o,0=>.sv (at' N (dS K N) (o+26))
 | o,1=>.tup (ls N (dS K N) (o+26))
 | _,_=>.tup []
def dR (K:Tbl) (N:Nat):Nat->Nat->Res
 | o,0=>.blk (fo N o 6) (at' N (dW K N 60) (o+66)) (fo N o 26)
 | o,1=>.hp (fo N o 6) (ls N (dM N) (o+86)) (ls N (dE K N 99) (jo N o 46)) (ls N (dE K N 99) (jo N o 66))
 | o,2=>.ro (fo N o 6) (ls N (dE K N 99) (o+66)) (dB (fo N o 26))
 | o,3=>.dead
 | _,_=>.dead
def dQ (K:Tbl) (N:Nat):Nat->Nat->Src
 | o,0=>.cvs (at' N (dW K N 60) (o+46)) (fo N o 6)
 | o,1=>.seg (fo N o 6) (at' N (dE K N 99) (o+86)) (at' N (dE K N 99) (jo N o 46)) (at' N (dE K N 99) (jo N o 66))
 | _,_=>.cvs [] 0
def dX (K:Tbl) (N:Nat):Nat->Nat->X
 | o,0=>.alloc (fo N o 6)
 | o,1=>.put (fo N o 6) (fo N o 26) (at' N (dE K N 99) (o+106)) (at' N (dE K N 99) (jo N o 66)) (at' N (dW K N 60) (jo N o 86))
 | o,2=>.app (fo N o 6) (fo N o 26) (fo N o 46) (fo N o 66) (at' N (dV K N) (o+166)) (at' N (dE K N 99) (jo N o 106)) (at' N (dR K N) (jo N o 126)) (at' N (dQ K N) (jo N o 146))
 | o,3=>.grow (fo N o 6) (fo N o 26) (fo N o 46) (fo N o 66) (at' N (dW K N 60) (o+166)) (fo N o 86) (fo N o 106) (at' N (dQ K N) (jo N o 146))
 | o,4=>.mk (fo N o 6) (fo N o 26) (at' N (dW K N 60) (o+106)) (fo N o 46) (at' N (dE K N 99) (jo N o 86))
 | o,5=>.call (fo N o 6) (fo N o 26) (ls N (dT K N) (o+106)) (ls N (dR K N) (jo N o 66)) (ls N (dR K N) (jo N o 86))
 | o,6=>.mnew (fo N o 6)
 | o,7=>.mget (fo N o 6) (fo N o 26) (at' N (dE K N 99) (o+166)) (dD (fo N o 46)) (at' N (dV K N) (jo N o 106)) (at' N (dS K N) (jo N o 126)) (at' N (dCk K.c N 20) (jo N o 146)) (dB (fo N o 66))
 | o,8=>.mset (fo N o 6) (fo N o 26) (at' N (dE K N 99) (o+126)) (dD (fo N o 46)) (at' N (dV K N) (jo N o 86)) (at' N (dS K N) (jo N o 106))
 | o,9=>.mclr (fo N o 6) (fo N o 26) (at' N (dE K N 99) (o+66))
 | o,10=>.cbs (fo N o 6) (fo N o 26) (at' N (dW K N 60) (o+86)) (fo N o 46)
 | o,11=>.mrg (fo N o 6) (at' N (dR K N) (o+66)) (at' N (dR K N) (jo N o 46))
 | o,12=>.cpy (fo N o 6) (fo N o 26) (at' N (dE K N 99) (o+186)) (at' N (dE K N 99) (jo N o 86)) (at' N (dE K N 99) (jo N o 106)) (fo N o 46) (at' N (dE K N 99) (jo N o 126)) (at' N (dE K N 99) (jo N o 146)) (at' N (dE K N 99) (jo N o 166))
 | o,13=>.hpf (fo N o 6) (at' N (dR K N) (o+46))
 | o,14=>.mki (fo N o 6) (fo N o 26) (at' N (dS K N) (o+66))
 | _,_=>.alloc 0
def dN (K:Tbl) (N:Nat):Nat->Nat->Nat->Nd
 | f+1,o,0=>.tt
 | f+1,o,1=>.e (at' N (dE K N 99) (o+26))
 | f+1,o,2=>.and (at' N (dN K N f) (o+46)) (at' N (dN K N f) (jo N o 26))
 | f+1,o,3=>.imp (at' N (dE K N 99) (o+46)) (at' N (dN K N f) (jo N o 26))
 | f+1,o,4=>.pre (at' N (dX K N) (o+26))
 | f+1,o,5=>.ext (at' N (dX K N) (o+46)) (at' N (dN K N f) (jo N o 26))
 | f+1,o,6=>.inv (fo N o 6) (at' N (dAl K N) (o+66)) (ls N (dH N) (jo N o 46))
 | f+1,o,7=>.back (fo N o 6) (fo N o 26) (at' N (dAl K N) (o+86)) (ls N (dH N) (jo N o 66))
 | f+1,o,8=>.havoc (fo N o 6) (fo N o 26) (fo N o 46) (at' N (dN K N f) (o+86))
 | f+1,o,9=>.post (ls N (dR K N) (o+46)) (at' N (dT K N) (jo N o 26))
 | _,_,_=>.tt
attribute [go_sem] fl fo jo at' ls tg dl zi dI' dI dK dO dB dD dC dVa dU dM dop dH gt dns dCk dKd dE dV dW dA dAl dS dT dR dQ dX dN
def codeP (n:Nat):Program:={(default:Program)with types:=#[{(default:TypeInfo)with desc:=.int .i64,methods:=#[{(default:Method)with name:= "",func:=some (n,false)}]}]}
end Go.Sx.K
namespace Go.Sx
open Go
variable {C:Ctx}{J:Env}{f:FuncId}{Γ:List Spec}{ms:Nat->Nat}{x y:Nd}{P:Program}
theorem Walk.lit {W:Walk P Γ f} (g:x.holds C ms J) (e:W.V=some x:=by kernel_rfl):W.owes C ms J:=by unfold Walk.owes;exact⟨x,e,g⟩
theorem Walk.read {W:Walk P Γ f} (a:List (List Ck)) (b:List (List Kd)) (c:List (List CV)) {n:Nat} {v:Value} (g:y.holds C ms J) (_:Sem.run (K.codeP (K.eN ⟨a,b,c⟩ (W.V.getD .tt) >>>20)) (method 1 0 .nilFunc "") default=.ok (n,v) default:=by go_invoke;exact rfl)
 (_:K.dN ⟨a,b,c⟩ n 400 0 (K.tg n 0)=y:=by simp (config:={maxSteps:=10000000}) only[go_sem,Nat.reduceShiftRight,Nat.reduceMod,Nat.reduceAdd,Nat.reduceMul,Nat.reduceDiv,Nat.reducePow,Int.reduceNatCast',Int.reduceNeg,Int.reduceAdd];exact rfl)
 (e:W.V=some y:=by kernel_rfl):W.owes C ms J:=Walk.lit g e
attribute [go_sem] Nd.holds X.pre X.rel X.n Src.ok Src.len Src.vals Nz MZ OA Pf NH Nk N0 bT_tt bT_ff bT_bvar bT_not bT_and bT_or bT_ite bT_lt bT_le bT_eq bT_beq bT_seq bT_hB bT_his bT_hby bT_hism bT_hks iev_lit iev_var iev_add iev_sub iev_mul iev_wrap iev_ite iev_hI iev_hP iev_hmlen sev_ite sev_slit sev_sof sev_svar TV.ev SV.ev CV.ev M6 NN Res.hl cpTV Cp.sv Ck.cv cpSVs Cp.len Ck.len newHs_zero newHs_one roots_ne NG NC
end Go.Sx
namespace Go.Sx
open Go
variable {J:Env}{B F R:Hl}{c x y:Int}{a b rows:List (List Value)}{hs:List (Nat×Option Nat)}{A:List As}{ks:List Kd}{row xs:List Value}{n n0:Nat}{P:Program}{s:Spec}{e:TypeId}{v:Value}
def aD : ∀ t∈([]:List Spec),t.OK P:=fun _ h=>by cases h
def ai {l:List Spec} (h:s.OK P) (k:∀ t∈l,t.OK P):∀ t∈s::l,t.OK P:=fun t a=>(MQ.1 a).elim (fun e=>e▸h) (k t)
abbrev ay (f:Nat->Int):Env:=⟨f,fun _=>false,fun _=>.empty,fun _=>.tuple #[],fun _=>Hl.none⟩
def zzK {p:Prop} (h:p:=by kernel_rfl):p:=h
def calls_spec (ho:s.own=[]) (h:∀ w xs Rs,(∀ R∈Rs,R.sub w)->s.pre xs [] Rs->∃ v,shapeOK s.res v/\(Calls P s.fn xs.toArray w fun e w'=>e=.returned v/\RowKit.Below w.heap.size w w')/\s.post xs [] Rs v [] Hl.none):s.OK P:=by
 intro w xs Hs Rs a f g c i j hp;rw[ho]at a;have e0:Hs=[]:=MF.1 a;subst e0;obtain⟨v,⟨d,h1,h2⟩,k,hpost⟩:=h w xs Rs c hp;refine k.mono ?_;rintro e w' ⟨rfl,hb⟩;refine⟨d,[],Hl.none,(by rw[h1]),h2,⟨hb.os,hb.tape,hb.output,hb.size,fun b hl _=>hb.block b hl,rfl,(fun _ h=>nomatch h),(fun _ _ h=>nomatch h),(fun _ h=>nomatch h),(fun b h=>by simp [Hl.mem,Hl.none]at h),(fun p _ _ _ _ h=>by simp at h),(fun _ h=>nomatch h)⟩,?_⟩;rw[<-h1];exact hpost
def envI (l:List Int) (b:Bool) (hs:List Hl):Env:=⟨fun k=>l.getD k 0,fun _=>b,fun _=>.empty,fun _=>.tuple #[],fun k=>hs.getD k Hl.none⟩
def ckNormsW_agree {m:Nat} {J J':Env} (h:Agree m J J'):∀ (ks:List Ck) (n:Nat),n+ckLen ks<=m->ckNormsW n ks J->ckNormsW n ks J'
 | [],_,_,_=>trivial
 | k::ks,n,hm,hn=>by
  have hl:ckLen (k::ks)=k.len+ckLen ks:=by simp [ckLen]
  rw[hl]at hm;refine⟨?_,ckNormsW_agree h ks (n+k.len) ae hn.2⟩;have h1:=hn.1;cases k<;>simp only[ckNormW,Ck.len]at h1 hm ⊢
  .rw[h.i (n+1)];exact h1
  .rw[h.i (n+1),h.i (n+2),h.i (n+3)];exact h1
  .rw[h.i (n+1),h.i (n+2),h.i (n+3)];exact h1
def noPl:List Ck->Bool
 | []=>true
 | k::l=>(match k with | .ptr | .sl | .map | .slw=>false | _=>true)&&noPl l
def ckNorms_pure:∀ (ks:List Ck) (n:Nat) (J:Env),noPl ks=true->ckNorms n ks J
 | [],_,_,_=>trivial
 | k::ks,n,J,h=>by
  simp only[noPl,ML]at h;refine⟨?_,ckNorms_pure ks _ J h.2⟩;cases k<;>first | exact zzT | cases h.1
def ev_ag {a b:Env} {m:Nat} {ks:List Ck} (h:Agree m a b) (hm:n+ckLen ks<=m):(SV.agg (ckCVs n ks)).ev b=(SV.agg (ckCVs n ks)).ev a:=by
 simp only[SV.ev];rw[CV.agreeL (h.mono hm) _ (ckCVs_upto ks n)]
def kdOf:Ck->Kd
 | .int k=>.int k | .bool=>.bool | .str=>.str | .any=>.any | .ptr=>.ptr | .sl=>.slice | .map=>.map | .slw=>.slice
def ckCV_upto (k:Ck) (n:Nat):(k.cv n).upto (n+k.len)=true:=by
 cases k<;>simp [Ck.cv,Ck.len,CV.upto,E.upto]
def one_rep (k:Ck) (n:Nat) (v:Value) (J:Env) (h:valIs (some v) (kdOf k)=true):∃ J',Agree n J J'/\ckNormW n J' k/\(k.cv n).ev J'=v:=by
 have d:valIs (some v) .slice=true->∃ J',Agree n J J'/\ckNormW n J' .sl/\(Ck.sl.cv n).ev J'=v:=fun h=>by
  cases v with
  | slice a l c =>
   obtain⟨x,y,rfl,hy,_⟩:=slP_all a;refine⟨(((J.setI n x).setI (n+1) y).setI (n+2) l).setI (n+3) c,(((agree_setI _ _ x (M1 _)).trans (agree_setI _ _ y ae)).trans (agree_setI _ _ _ ae)).trans (agree_setI _ _ _ ae),?_,?_⟩
   .simp [ckNormW,Env.setI];exact hy
   .simp [Ck.cv,CV.ev,iev_var,Env.setI]
  | _=>simp [valIs]at h
 cases k with
 | int k =>
  cases v<;>simp [valIs,kdOf]at h
  subst h;rename_i x;exact⟨J.setI n x,agree_setI _ _ x (M1 _),zzT,by simp [Ck.cv,CV.ev,iev_var,setI_i]⟩
 | bool =>
  cases v<;>simp [valIs,kdOf]at h
  rename_i x;exact⟨J.setB n x,agree_setB _ _ x (M1 _),zzT,by simp [Ck.cv,CV.ev,bev_bvar,Env.setB]⟩
 | str =>
  cases v<;>simp [valIs,kdOf]at h
  rename_i x;exact⟨J.setS n x,agree_setS _ _ x (M1 _),zzT,by simp [Ck.cv,CV.ev,sev_svar,Env.setS]⟩
 | any=>exact⟨J.setV n v,agree_setV _ _ v (M1 _),zzT,by simp [Ck.cv,CV.ev,Env.setV]⟩
 | ptr =>
  have key:∀ x y:Int,-1<=x->0<=y->v=.pointer (slP x y)->∃ J',Agree n J J'/\ckNormW n J' .ptr/\(Ck.ptr.cv n).ev J'=v:=by
   intro x y hx hy hv;refine⟨(J.setI n x).setI (n+1) y,(agree_setI _ _ x (M1 _)).trans (agree_setI _ _ y ae),?_,?_⟩
   .simp [ckNormW,Env.setI];exact hy
   .simp [Ck.cv,CV.ev,iev_var,Env.setI,hv]
  cases v with
  | pointer a =>
   cases a with
   | none=>exact key (-1) 0 ae ae rfl
   | some a =>
    obtain⟨b,o,s⟩:=a;cases s with
    | none=>exact key b o ae ae (by simp [slP_pos])
    | some s=>simp [valIs,kdOf]at h
  | _=>simp [valIs,kdOf]at h
 | sl=>exact d h
 | slw=>exact d h
 | map =>
  cases v with
  | map a =>
   cases a with
   | none=>exact⟨J.setI n (-1),agree_setI _ _ _ (M1 _),zzT,by simp [Ck.cv,CV.ev,iev_var,Env.setI]⟩
   | some r=>exact⟨J.setI n r,agree_setI _ _ _ (M1 _),zzT,by show Value.map (if(J.setI n r).i n= -1 then none else some ((J.setI n r).i n).toNat)=_;rw[setI_i,MM ae,MD]⟩
  | _=>simp [valIs,kdOf]at h
def row_rep:∀ (ks:List Ck) (n:Nat) (row:List Value) (J:Env),rowOK row (ks.map kdOf)->∃ J',Agree n J J'/\ckNormsW n ks J'/\(ckCVs n ks).map (CV.ev J')=row
 | [],n,[],J,_=>⟨J,Agree.refl _ _,zzT,rfl⟩
 | k::ks,n,v::row,J,h=>by
  obtain⟨a,d,n1,e1⟩:=one_rep k n v J h.1;obtain⟨b,c,n2,e⟩:=row_rep ks (n+k.len) row a h.2;refine⟨b,d.tr c,⟨?_,n2⟩,?_⟩
  .have:=ckNormsW_agree (ks:=[k]) (n:=n) c (by simp [ckLen]) ⟨n1,zzT⟩;exact this.1
  .simp only[ckCVs,M6,e];rw[CV.agree c _ (ckCV_upto k n),e1]
 | [],_,_::_,_,h=>h.elim
 | _::_,_,[],_,h=>h.elim
def valIs_cv (k:Ck) (h:ckNorm n J k):valIs (some ((k.cv n).ev J)) (kdOf k)=true:=by
 cases k<;>simp only[ckNorm]at h<;>simp only[Ck.cv,CV.ev,kdOf,valIs,decide_true,iev_var]
 .rcases NU (J.i n) 0 with hx | hx
  .rw[show J.i n= -1 by omega,slP_nil]
  .rw[slP_pos hx]
def row_of {J:Env} : ∀ (ks:List Ck) (n:Nat),ckNorms n ks J->rowOK ((ckCVs n ks).map (CV.ev J)) (ks.map kdOf)
 | [],_,_=>trivial
 | k::ks,n,h=>⟨valIs_cv k h.1,row_of ks _ h.2⟩
def mLd (n0:Nat) (l m:List CV):List As:=(mL n0 l m).getD []
def goodA (n0:Nat) (A:List As) (hs:List (Nat×Option Nat)):Bool:=distinctA A&&A.all (fun x=>decide (n0<=x.n))&&hs.all (fun x=>decide (n0<=x.1))&&distinctH hs
def assign_ag {l m:List CV} (hg:goodA n0 A hs=true) (hm:(mL n0 l m).isSome=true) (hsub:∀ y∈mLd n0 l m,y∈A):(SV.agg l).ev (assign J A hs)=(SV.agg m).ev J:=by
 simp only[goodA,ML]at hg;obtain⟨x,hx⟩:=NJ.1 hm;have hs':∀ y∈x,y∈A:=fun y hy=>hsub y (by unfold mLd;rw[hx];exact hy);simp only[SV.ev,mL_sound hg.1.1.1 hg.1.1.2 hg.1.2 l m x hx hs']
def assign_old (hg:goodA n0 A hs=true):Agree n0 J (assign J A hs):=by
 simp only[goodA,ML]at hg;exact assign_agree hg.1.1.2 hg.1.2
def RdRows.uniq (h1:RdRows R v ks a) (h2:RdRows R v ks b):a=b:=by
 obtain⟨x,y,c,rfl,hy,h1⟩:=h1;obtain⟨x',y',c',he,e,h2⟩:=h2;simp only[Value.slice.injEq]at he;obtain⟨he,hl,rfl⟩:=he;rcases h1 with rfl | ⟨hx,h1⟩
 .exact(MF.1 hl.symm).symm
 rcases h2 with rfl | ⟨k,h2⟩
 .exact MF.1 hl
 obtain⟨rfl,d⟩:=slP_inj ae hy ae e he;have d:=d hx;subst d;apply Oq hl;intro i hi f;obtain⟨k1,c1⟩:=h1 i _ (ME hi);obtain⟨k2,c2⟩:=h2 i _ (ME f);apply Oq (by rw[rowOK_length k1,rowOK_length k2]);intro j l g;have e1:=c1 j _ (ME l);have h:=c2 j _ (ME g);rw[e1]at h;exact Nx h
def RdRows.at {l:Int} (h:RdRows R (.slice (slP x y) l.toNat c.toNat) ks rows) (hx:-1<=x) (hy:0<=y) (hl:0<=l) :
 l=rows.length/\∀ (i:Nat) row,rows[i]?=some row->0<=x/\rowOK row ks/\∀ j u,row[j]?=some u->R.cell x.toNat (y.toNat+i*ks.length+j)=some u:=by
 obtain⟨x',y',c',he,d,h⟩:=h;simp only[Value.slice.injEq]at he;obtain⟨he,hle,_⟩:=he;refine⟨ae,fun i row hi=>?_⟩;rcases h with rfl | ⟨b,h⟩
 .simp at hi
 obtain⟨rfl,a⟩:=slP_inj hx hy ae d he;have a:=a b;subst a;exact⟨b,h i row hi⟩
def OwR (F:Hl) (e:TypeId) (ks:List Kd) (v:Value) (rows:List (List Value)):Prop:=(∀ row∈rows,rowOK row ks)/\OwnsH F e ks.length v rows.length rows.flatten
def OwR.nil (F:Hl) (e:TypeId) (ks:List Kd):OwR F e ks (.slice none 0 0) []:=⟨fun _ h=>(nomatch h),by simp [OwnsH]⟩
def flat_get {α:Type} {n:Nat} : ∀ {rows:List (List α)} (_:∀ r∈rows,r.length=n) {i j:Nat} {row:List α} {u:α},rows[i]?=some row->row[j]?=some u->rows.flatten[i*n+j]?=some u
 | [],_,i,j,row,u,h,_=>by simp at h
 | r::rows,hl,0,j,row,u,h,a=>by
  simp only[NG,MP]at h;subst h;have b:j<r.length:=(MK.1 a).1;rw[Oz,Qj,Nw,M5 b];exact a
 | r::rows,hl,i+1,j,row,u,h,a=>by
  have hr:r.length=n:=hl r ar;have ih:=flat_get (rows:=rows) (fun r hr=>hl r (by simp [hr])) (i:=i) (j:=j) (row:=row) (u:=u) (by simpa using h) a;rw[Oz,MX (by rw[hr,Qk];omega),hr,show(i+1)*n+j-n=i*n+j by rw[Qk];omega];exact ih
def OwR.rd (h:OwR F e ks v rows):RdRows F v ks rows:=by
 obtain⟨hk,hl,h⟩:=h;rcases h with ⟨rfl,hn⟩ | ⟨g,cap,cur,rfl,hg,hle,hm,hs,a⟩
 .exact⟨-1,0,0,by rw[slP_nil,hn],ae,Or.inl (MF.1 hn)⟩
 .refine⟨g,0,cap,by simp [slP_pos],ae,Or.inr ⟨ae,fun i row hi=>⟨hk row (MG hi),fun j u b=>?_⟩⟩⟩;have e1:=flat_get (n:=ks.length) (fun r hr=>rowOK_length (hk r hr)) hi b;have c:cur.toList[i*ks.length+j]?=some u:=by
   rw[<-a]at e1;rw[NB]at e1;split at e1
   .exact e1
   .cases e1
  unfold Hl.cell;rw[MD,hg];simpa using c
def OwR.snoc (hk:∀ r∈rows,rowOK r ks) (hr:rowOK row ks) (h:OwnsH F e ks.length v n xs) (hn:n=rows.length+1) (hx:xs=rows.flatten++row):OwR F e ks v (rows++[row]):=by
 refine⟨fun r a=>?_,?_⟩
 .rcases Nb.1 a with h | h
  .exact hk r h
  .rw[MO]at h;subst h;exact hr
 .subst hn;subst hx;simpa using h
def OwR.app {A:Hl} {l x1 c1:Int} (ho:OwR A e ks (.slice (slP x 0) l.toNat c.toNat) rows) (hl:l=rows.length) (hr:rowOK row ks)
 (happ:∀ xs,OwnsH A e ks.length (.slice (slP x 0) l.toNat c.toNat) l.toNat xs->OwnsH B e ks.length (.slice (slP x1 0) (l.toNat+1) c1.toNat) (l.toNat+1) (xs++row)):OwR B e ks (.slice (slP x1 0) (l+1).toNat c1.toNat) (rows++[row]):=by
 have hn:l.toNat=rows.length:=ae;rw[show(l+1).toNat=l.toNat+1 by omega];refine OwR.snoc ho.1 hr (happ rows.flatten ?_) ae rfl;have:=ho.2;rw[hn]at this ⊢;exact this
def OwR.pre {A:Hl} {l:Int} (ho:OwR A e ks (.slice (slP x 0) l.toNat c.toNat) rows) (hl:l=rows.length):OwnsH A e ks.length (.slice (slP x 0) l.toNat c.toNat) l.toNat rows.flatten:=by
 have hn:l.toNat=rows.length:=ae;have:=ho.2;rw[hn]at this ⊢;exact this
end Go.Sx
namespace Go.Pk
open Go Go.Sx
variable {a c k m w x y:Nat}
def aq (x:Nat):List Int:=if x<128 then [(x:Int)]else((x%128+128:Nat):Int)::aq (x/128)
def jg:List Int->Nat->Nat->Option (Nat×Nat)
 | [],_,_=>none
 | c::l,n,x=>if(n=9/\1<c)\/9<n then none else if c<128 then(if c=0/\0<n then none else some (x+c.toNat*128 ^ n,n+1))else jg l (n+1) (x+(c.toNat%128)*128 ^ n)
def jf (l:List Int):Option (Nat×Nat):=jg l 0 0
def dL (h:x<128):aq x=[(x:Int)]:=by rw[aq,M0 h]
def fe (h:¬x<128):aq x=((x%128+128:Nat):Int)::aq (x/128):=by rw[aq,MM h]
def po:∀ (x:Nat),∀ b∈aq x,0<=b/\b<256:=by
 intro x
 induction x using Nat.strongRecOn with
 | _ x ih =>
  intro b hb;by_cases h:x<128
  .rw[dL h,MO]at hb;omega
  .rw[fe h]at hb;rcases MQ.1 hb with rfl | hb
   .omega
   .exact ih (x/128) ae b hb
def jX (x:Nat):0<(aq x).length:=by
 by_cases h:x<128
 .rw[dL h];exact Nat.one_pos
 .rw[fe h];exact Nat.succ_pos _
def rY:∀ (k x:Nat),x<128 ^ (k+1)->(aq x).length<=k+1
 | 0,x,h=>by rw[dL (by simpa using h)];exact M1 _
 | k+1,x,h=>by
  by_cases h1:x<128
  .rw[dL h1];simp
  .rw[fe h1,Nk];have:=rY k (x/128) (by
    rw[OX]at h;exact Nat.div_lt_of_lt_mul ae)
   omega
def Au:(128:Nat) ^ 9=9223372036854775808:=by decide
def xI (t:List Int):∀ (x n y:Nat),(0<n->0<x)->n<=9->x*128 ^ n<18446744073709551616->jg (aq x++t) n y=some (y+x*128 ^ n,n+(aq x).length):=by
 intro x
 induction x using Nat.strongRecOn with
 | _ x ih =>
  intro n y hx hn a;have b:n=9->x<=1:=fun e=>by
   subst e;rw[Au]at a;omega
  by_cases h:x<128
  .rw[dL h];show(if(n=9/\1<(x:Int))\/9<n then none else _)=_;rw[MM ae,M0 ae,MM ae,MD];rfl
  .rw[fe h];have c:(((x%128+128:Nat):Int)).toNat%128=x%128:=by rw[MD];omega
   show(if(n=9/\1<((x%128+128:Nat):Int))\/9<n then none else _)=_;have d:n≠9:=fun e=>by have:=b e;omega
   rw[MM ae,MM ae,c];have hmul:x/128*128 ^ (n+1)+x%128*128 ^ n=x*128 ^ n:=by
    rw[OX,<-Nat.mul_assoc,Nat.mul_right_comm,<-OE]
    congr 1
    omega
   show jg (aq (x/128)++t) (n+1) (y+x%128*128 ^ n)=_;rw[ih (x/128) ae (n+1) _ (fun _=>ae) ae ae,Nk]
   congr 1
   rw[Nr];omega
def kJ (h:x<18446744073709551616) (t:List Int):jf (aq x++t)=some (x,(aq x).length):=by
 have:=xI t x 0 0 (fun h=>absurd h ae) ae (by simpa using h);unfold jf;rw[this];simp
def pq:∀ (l:List Int) (n y z m:Nat),(∀ b∈l,0<=b/\b<256)->jg l n y=some (z,m)->∃ x,z=y+x*128 ^ n/\n<m/\m-n<=l.length/\l.take (m-n)=aq x/\(0<n->0<x)/\x*128 ^ n<18446744073709551616
 | [],_,_,_,_,_,h=>by cases h
 | c::l,n,y,z,m,hb,h=>by
  have o:=hb c (Nh ..);have hl:∀ b∈l,0<=b/\b<256:=fun b h=>hb b (MW _ h);have h:(if(n=9/\1<c)\/9<n then none else if c<128 then(if c=0/\0<n then none else some (y+c.toNat*128 ^ n,n+1))else jg l (n+1) (y+(c.toNat%128)*128 ^ n))=some (z,m):=h;split at h
  .cases h
  .rename_i u;have d:128 ^ n<=9223372036854775808:=by
    rw[<-Au];exact O2 aj ae
   have a:n<9->128 ^ n<=72057594037927936:=fun hn=>by
    have:(128:Nat) ^ 8=72057594037927936:=by decide
    rw[<-this];exact O2 aj ae
   split at h
   .rename_i e;split at h
    .cases h
    .rename_i h0;simp only[MP,Nr]at h;obtain⟨h1,h2⟩:=h;subst h1 h2;refine⟨c.toNat,rfl,ae,by rw[Nk];omega,?_,ae,?_⟩
     .rw[show n+1-n=1 by omega,dL ae];show [c]=_;rw[O7 o.1]
     .rcases ND n 9 with hn | hn
      .have:=a hn
       calc c.toNat*128 ^ n<=127*72057594037927936:=PH ae this
        _<_:=by decide
      .have:c.toNat<=1:=ae
       calc c.toNat*128 ^ n<=1*9223372036854775808:=PH this d
        _<_:=by decide
   .rename_i e;obtain⟨x,e1,v,w,p,r,j⟩:=pq l (n+1) _ z m hl h;have hx:=r ae;have hdiv:(x*128+c.toNat%128)/128=x:=ae;have f:(x*128+c.toNat%128)%128=c.toNat%128:=ae;have hmul:(x*128+c.toNat%128)*128 ^ n=x*128 ^ (n+1)+(c.toNat%128)*128 ^ n:=by
     rw[OE,OX,Nat.mul_assoc x 128,OV 128]
    refine⟨x*128+c.toNat%128,by rw[e1,hmul];omega,ae,by rw[Nk];omega,?_,fun _=>ae,?_⟩
    .rw[show m-n=(m-(n+1))+1 by omega,List.take_succ_cons,p,fe (x:=x*128+c.toNat%128) ae,hdiv,f]
     congr 1
     omega
    .rw[hmul];have k:c.toNat%128*128 ^ n<128 ^ (n+1):=by
      rw[OX,OV (128 ^ n)];exact Nat.mul_lt_mul_of_pos_right ae (Nat.pow_pos aj)
     have s:n<9:=ae;have g:∃ q,18446744073709551616=q*128 ^ (n+1):=by
      refine⟨2 ^ (64-7*(n+1)),?_⟩;have:(18446744073709551616:Nat)=2 ^ 64:=by decide
      rw[this,show(128:Nat)=2 ^ 7 by decide,<-Nat.pow_mul,<-Qm]
      congr 1;omega
     obtain⟨q,t⟩:=g;rw[t]at j ⊢;have i:x<q:=Nat.lt_of_mul_lt_mul_right j
     calc x*128 ^ (n+1)+c.toNat%128*128 ^ n<x*128 ^ (n+1)+128 ^ (n+1):=ae
      _=(x+1)*128 ^ (n+1):=by rw[Qk]
      _<=q*128 ^ (n+1):=O1 _ i
def kI {l:List Int} (hb:∀ b∈l,0<=b/\b<256) (h:jf l=some (x,m)):0<m/\m<=l.length/\l.take m=aq x/\x<18446744073709551616:=by
 obtain⟨z,e1,a,c,d,_,e⟩:=pq l 0 0 x m hb h;have f:x=z:=by simpa using e1
 subst f;exact⟨a,by simpa using c,by simpa using d,by simpa using e⟩
def iG {x:Int} (h0:0<=x) (h1:x<18446744073709551616):IntKind.u64.wrap x=x:=by
 show Int.emod x 18446744073709551616=x;exact PM h0 h1
def I4 (x:Int):IntKind.u8.wrap x=x%256:=rfl
def pV (h:x<2 ^ w):(BitVec.ofInt w (x:Int)).toNat=x:=by
 rw[BitVec.toNat_ofInt,PM ae (by exact_mod_cast h),MD]
def yV (h:c<256):bitsI .and .u8 (c:Int) 127=((c%128:Nat):Int):=by
 show IntKind.u8.wrap (((BitVec.ofInt 8 (c:Int) &&&BitVec.ofInt 8 127).toNat:Nat):Int)=_;rw[BitVec.toNat_and,pV (by simpa using h),show(BitVec.ofInt 8 127).toNat=2 ^ 7-1 from rfl,Nat.and_two_pow_sub_one_eq_mod,I4];have:c%2 ^ 7=c%128:=rfl;omega
def BT (hx:x<18446744073709551616) (hy:y<18446744073709551616):bitsI .or .u64 (x:Int) (y:Int)=((x |||y:Nat):Int):=by
 show IntKind.u64.wrap (((BitVec.ofInt 64 (x:Int) |||BitVec.ofInt 64 (y:Int)).toNat:Nat):Int)=_;have a:x<2 ^ 64:=hx;have b:y<2 ^ 64:=hy;rw[Pz,pV a,pV b];have:=Nat.or_lt_two_pow a b
 exact iG (by omega) (by have e:(2:Nat) ^ 64=18446744073709551616:=by decide
                         omega)
def sa (hy:y<2 ^ k):y |||(a*2 ^ k)=y+a*2 ^ k:=by
 rw[Nat.or_comm,<-Nat.shiftLeft_eq,<-Po hy,PT]
def CC (k:Nat):(2:Nat) ^ (7*k)=128 ^ k:=by rw[Nat.pow_mul]
def Ij (hy:y<128 ^ k) (hk:k<=9) (b:c<256) (d:k=9->c<=1) :
 bitsI .or .u64 (y:Int) (IntKind.u64.wrap (IntKind.u64.wrap (bitsI .and .u8 (c:Int) 127)*2 ^ (min (IntKind.i64.wrap (7*(k:Int))).toNat 64)))=((y+c%128*128 ^ k:Nat):Int)/\y+c%128*128 ^ k<18446744073709551616:=by
 have a:128 ^ k<=9223372036854775808:=by
  rw[<-Au];exact O2 aj hk
 have hz:c%128*128 ^ k<=9223372036854775808:=by
  rcases ND k 9 with h | h
  .have e:128 ^ k<=72057594037927936:=by
    have:(128:Nat) ^ 8=72057594037927936:=by decide
    rw[<-this];exact O2 aj ae
   calc c%128*128 ^ k<=127*72057594037927936:=PH ae e
    _<=_:=by decide
  .have:c%128<=1:=by have:=d ae;omega
   calc c%128*128 ^ k<=1*9223372036854775808:=PH this a
    _<=_:=by decide
 have e1:(IntKind.i64.wrap (7*(k:Int))).toNat=7*k:=by rw[wrap_i64 ae ae];omega
 have f:min (7*k) 64=7*k:=ae;rw[yV b,e1,f,iG (x:=((c%128:Nat):Int)) ae ae];have g:((c%128:Nat):Int)*2 ^ (7*k)=((c%128*128 ^ k:Nat):Int):=by
  rw[<-CC];push_cast;rfl
 rw[g,iG ae ae,BT ae ae,<-CC,sa (by rw[CC];exact hy)];rw[CC];exact⟨rfl,ae⟩
set_option maxRecDepth 20000 in
def Iq:∀ v:Fin 256,v.val |||128=v.val%128+128:=by decide
def Ig : bitsI .or .u8 (IntKind.u8.wrap (x:Int)) 128=((x%128+128:Nat):Int):=by
 have e:IntKind.u8.wrap (x:Int)=((x%256:Nat):Int):=by rw[I4];omega
 rw[e];show IntKind.u8.wrap (((BitVec.ofInt 8 ((x%256:Nat):Int) |||BitVec.ofInt 8 128).toNat:Nat):Int)=_
 rw[BitVec.toNat_or,pV (w:=8) (by have e:(2:Nat) ^ 8=256:=by decide
                                  omega),show(BitVec.ofInt 8 128).toNat=128 from rfl,Iq ⟨x%256,Qg _ aj⟩,I4]
 show(((x%256%128+128:Nat)):Int)%256=_;omega
def Lt : ((x:Int)).fdiv (2 ^ (7:Int).toNat)=((x/128:Nat):Int):=by
 rw[Oc _ aj];rfl
end Go.Pk
namespace Go.Proofs.YtbdikjnpbnobcaaGreatDoor
open Go Go.Sx Go.Pk
variable {x:Int}{j k n:Nat}
abbrev dd (x:Int):Int:=IntKind.u32.wrap x
def ow (x:Int):dd x=x%4294967296:=by
 unfold dd IntKind.wrap;simp [IntKind.bits,IntKind.signed]
def okW (x:Int):Prop:=0<=x/\x<4294967296
def oz (x:Int):okW (dd x):=by
 rw[ow];unfold okW;omega
def oy (h:okW x):dd x=x:=by
 rw[ow];unfold okW at h;omega
def jl (x:Int):Int:=x/2+x%2*2147483648
def aN:Nat->Int->Int
 | 0,x=>x
 | n+1,x=>jl (aN n x)
def pM (x:Nat) (hx:x<4294967296):∀ n,n<=32->aN n (x:Int)=((x/2 ^ n+x%2 ^ n*2 ^ (32-n):Nat):Int)
 | 0,_=>by
  show(x:Int)=_;have:x/2 ^ 0+x%2 ^ 0*2 ^ (32-0)=x:=by simp [Nat.mod_one]
  rw[this]
 | n+1,h=>by
  have ih:=pM x hx n ae;show jl (aN n x)=_;rw[ih];obtain⟨T,hT⟩:∃ T,T=x/2 ^ n+x%2 ^ n*2 ^ (32-n):=⟨_,rfl⟩;rw[<-hT];have e1:jl (T:Int)=((T/2+T%2*2147483648:Nat):Int):=by unfold jl;omega
  rw[e1]
  congr 1
  have h2:2 ^ (32-n)=2*2 ^ (31-n):=by rw[show 32-n=(31-n)+1 by omega,OX,OV]
  have hd:x/2 ^ (n+1)=x/2 ^ n/2:=by rw[OX,Nat.div_div_eq_div_mul]
  have hm:x%2 ^ (n+1)=x%2 ^ n+2 ^ n*(x/2 ^ n%2):=by rw[OX,Nat.mod_mul]
  have hp:2 ^ n*2 ^ (31-n)=2147483648:=by rw[<-Qm,show n+(31-n)=31 by omega]
  rw[hd,hm,show 32-(n+1)=31-n by omega,OE,Nat.mul_right_comm,hp];rw[h2]at hT;obtain⟨A,hA⟩:∃ A,A=x/2 ^ n:=⟨_,rfl⟩;obtain⟨B,hB⟩:∃ B,B=x%2 ^ n*2 ^ (31-n):=⟨_,rfl⟩;have hT:T=A+2*B:=by rw[hT,hA,hB,Nat.mul_left_comm]
  rw[<-hA,<-hB];omega
def sX (h:okW x) (n:Nat) (hn:n<=32):okW (aN n x):=by
 obtain⟨h0,h1⟩:=h
 induction n with
 | zero=>exact⟨h0,h1⟩
 | succ n ih =>
  have:=ih ae;unfold okW at this ⊢;show 0<=jl (aN n x)/\jl (aN n x)<_;unfold jl;omega
def AT (h:okW x) (h1:1<=n) (h2:n<=31):bitsI .or .u32 (IntKind.u32.wrap (x*2 ^ (32-n))) (x.fdiv (2 ^ n))=aN n x:=by
 obtain⟨h0,c⟩:=h;obtain⟨m,rfl⟩:∃ m:Nat,x=m:=⟨x.toNat,ae⟩;have hm:m<4294967296:=ae;rw[pM m hm n ae];have hp:2 ^ n*2 ^ (32-n)=4294967296:=by rw[<-Qm,show n+(32-n)=32 by omega]
 have d:IntKind.u32.wrap ((m:Int)*2 ^ (32-n))=((m%2 ^ n*2 ^ (32-n):Nat):Int):=by
  have e0:((m:Int)*2 ^ (32-n))=((m*2 ^ (32-n):Nat):Int):=by push_cast;rfl
  show dd _=_;rw[e0,ow];have:m*2 ^ (32-n)%4294967296=m%2 ^ n*2 ^ (32-n):=by rw[<-hp,Nat.mul_mod_mul_right]
  rw[<-this];rfl
 have hb:(m:Int).fdiv (2 ^ n)=((m/2 ^ n:Nat):Int):=by
  have:((2:Int) ^ n)=((2 ^ n:Nat):Int):=by push_cast;rfl
  rw[this,Oc _ (Ok _)];rfl
 rw[d,hb];have a:m/2 ^ n<2 ^ (32-n):=by
  rw[Nat.div_lt_iff_lt_mul (Nat.two_pow_pos n),OV,hp];exact hm
 have b:(m%2 ^ n*2 ^ (32-n)) |||(m/2 ^ n)=m/2 ^ n+m%2 ^ n*2 ^ (32-n):=by
  rw[Nat.or_comm];exact sa a
 have e:m/2 ^ n<=m:=Nat.div_le_self _ _;have hs:m/2 ^ n+m%2 ^ n*2 ^ (32-n)<4294967296:=by
  have h1:m%2 ^ n<2 ^ n:=Qg _ (Nat.two_pow_pos n);have h2:m%2 ^ n+1<=2 ^ n:=h1;have c:=O1 (2 ^ (32-n)) h2;rw[hp,OE]at c;omega
 have hA:m%2 ^ n*2 ^ (32-n)<4294967296:=Nat.lt_of_le_of_lt (Nat.le_add_left _ _) hs;show IntKind.u32.wrap (((BitVec.ofInt 32 ((m%2 ^ n*2 ^ (32-n):Nat):Int)) |||(BitVec.ofInt 32 ((m/2 ^ n:Nat):Int))).toNat:Int)=_;have f:(BitVec.ofInt 32 ((m%2 ^ n*2 ^ (32-n):Nat):Int)).toNat=m%2 ^ n*2 ^ (32-n):=by
  rw[OI,OS,ON (by rw[show 2 ^ 32=4294967296 from rfl];exact hA)]
 have g:(BitVec.ofInt 32 ((m/2 ^ n:Nat):Int)).toNat=m/2 ^ n:=by
  rw[OI,OS,ON (by rw[show 2 ^ 32=4294967296 from rfl];omega)]
 rw[Pz,f,g,b];exact oy ⟨Ok _,Int.ofNat_lt.2 hs⟩
def xor_not (h:okW x):bitsI .xor .u32 4294967295 x=4294967295-x:=by
 obtain⟨h0,a⟩:=h;obtain⟨m,rfl⟩:∃ m:Nat,x=m:=⟨x.toNat,ae⟩;have hm:m<4294967296:=ae;show IntKind.u32.wrap (((BitVec.ofInt 32 4294967295) ^^^ (BitVec.ofInt 32 (m:Int))).toNat:Int)=_;have e:(BitVec.ofInt 32 4294967295:BitVec 32)=BitVec.allOnes 32:=by decide
 rw[e,BitVec.allOnes_xor,BitVec.toNat_not,OI,OS,ON (by rw[show 2 ^ 32=4294967296 from rfl];omega)];show dd _=_;rw[oy ⟨ae,ae⟩];omega
def iH (a b c:Int):Int:=bitsI .xor .u32 (bitsI .xor .u32 a b) c
def gY (a b:Int):Int:=bitsI .and .u32 a b
def Mn (x:Int):Int:=iH (aN 7 x) (aN 18 x) (x/8)
def HQ (x:Int):Int:=iH (aN 17 x) (aN 19 x) (x/1024)
def Mz (x:Int):Int:=iH (aN 6 x) (aN 11 x) (aN 25 x)
def My (x:Int):Int:=iH (aN 2 x) (aN 13 x) (aN 22 x)
def Mv (e f g:Int):Int:=bitsI .xor .u32 (gY e f) (gY (4294967295-e) g)
def Mw (a b c:Int):Int:=bitsI .xor .u32 (bitsI .xor .u32 (gY a b) (gY a c)) (gY b c)
def wR (m:List Int) (k:Nat):Int:=dd (m.getD (4*k) 0*16777216+m.getD (4*k+1) 0*65536+m.getD (4*k+2) 0*256+m.getD (4*k+3) 0)
def wQ (w:List Int) (i:Nat):Int:=dd (dd (dd (w.getD (i-16) 0+Mn (w.getD (i-15) 0))+w.getD (i-7) 0)+HQ (w.getD (i-2) 0))
def aA (m:List Int):Nat->List Int
 | 0=>[]
 | n+1=>aA m n++[if n<16 then wR m n else wQ (aA m n) n]
def bj (m:List Int):∀ n,(aA m n).length=n
 | 0=>rfl
 | n+1=>by show(_++[_]).length=_;rw[MJ,bj m n];rfl
def fz (m:List Int):∀ (n j:Nat),j<n->(aA m n).getD j 0=if j<16 then wR m j else wQ (aA m j) j
 | n+1,j,h=>by
  show(aA m n++[_]).getD j 0=_;rw[MR];by_cases a:j<n
  .rw[M5 (by rw[bj];exact a),<-MR];exact fz m n j a
  .have:j=n:=ae;subst this;rw[MX (by rw[bj];omega),bj,Qh];rfl
def sN (m:List Int) (h1:j<n) (h2:j<k):(aA m n).getD j 0=(aA m k).getD j 0:=by
 rw[fz m n j h1,fz m k j h2]
def wF:List Int:=[1116352408,1899447441,3049323471,3921009573,961987163,1508970993,2453635748,2870763221,3624381080,310598401,607225278,1426881987,1925078388,2162078206,2614888103,3248222580,3835390401,4022224774,264347078,604807628,770255983,1249150122,1555081692,1996064986,2554220882,2821834349,2952996808,3210313671,3336571891,3584528711,113926993,338241895,666307205,773529912,1294757372,1396182291,1695183700,1986661051,2177026350,2456956037,2730485921,2820302411,3259730800,3345764771,3516065817,3600352804,4094571909,275423344,430227734,506948616,659060556,883997877,958139571,1322822218,1537002063,1747873779,1955562222,2024104815,2227730452,2361852424,2428436474,2756734187,3204031479,3329325298]
abbrev Wd:=Nat->Int
def yC (v:Wd) (k w:Int):Int:=dd (dd (dd (dd (v 7+Mz (v 4))+Mv (v 4) (v 5) (v 6))+k)+w)
def DX (v:Wd):Int:=dd (My (v 0)+Mw (v 0) (v 1) (v 2))
def mF (v:Wd) (k w:Int):Wd:=fun j=>match j with
 | 0=>dd (yC v k w+DX v)
 | 4=>dd (v 3+yC v k w)
 | j+1=>v j
def bV (v:Wd) (w:List Int):Nat->Wd
 | 0=>v
 | n+1=>mF (bV v w n) (wF.getD n 0) (w.getD n 0)
def gU (v:Wd) (m:List Int):Wd:=fun j=>dd (v j+bV v (aA m 64) 64 j)
def fN:Wd:=fun j=>[1779033703,3144134277,1013904242,2773480762,1359893119,2600822924,528734635,1541459225].getD j 0
def Es (x:Nat):List Int:=(List.range 8).map fun i=>((x/2 ^ (8*(7-i))%256:Nat):Int)
def iu (b:List Int):List Int:=b++[128]++List.replicate ((119-b.length%64)%64) 0++Es (8*b.length)
def rV (v:Wd) (all:List Int):Nat->Wd
 | 0=>v
 | n+1=>gU (rV v all n) ((all.drop (64*n)).take 64)
def Gk (b:List Int):Wd:=rV fN (iu b) ((iu b).length/64)
def qI (b:List Int):List Int:=(List.range 32).map fun i=>Gk b (i/4)/2 ^ (24-8*(i%4))%256
def fO (b:List Int):(qI b).length=32:=by simp [qI]
def sg (b:List Int):(iu b).length=b.length+9+(119-b.length%64)%64/\(iu b).length%64=0:=by
 have h:(iu b).length=b.length+9+(119-b.length%64)%64:=by
  unfold iu Es;simp only[MJ,Og,M7,Oy,Nk,N0];omega
 exact⟨h,by rw[h];omega⟩
def nX {v:Wd} (h:∀ j,j<8->okW (v j)) (w:List Int):∀ n j,j<8->okW (bV v w n j)
 | 0,j,a=>h j a
 | n+1,j,a=>by
  have ih:=nX h w n;show okW (mF _ _ _ j);unfold mF;split
  .exact oz _
  .exact oz _
  .exact ih _ ae
def Cj {v:Wd} (h:∀ j,j<8->okW (v j)) (all:List Int):∀ n j,j<8->okW (rV v all n j)
 | 0,j,a=>h j a
 | n+1,j,a=>oz _
def uH:∀ j,j<8->okW (fN j):=by unfold okW;decide
end Go.Proofs.YtbdikjnpbnobcaaGreatDoor
namespace Go.Proofs.YtbdikjnpbnobcaaGreatDoor.D
open Go Go.Sx
def noLoops:Loops:=fun _=>none
def envI (l:List Int) (b:Bool) (hs:List Hl):Env:=⟨fun k=>l.getD k 0,fun _=>b,fun _=>.empty,fun _=>.tuple #[],fun k=>hs.getD k Hl.none⟩
end Go.Proofs.YtbdikjnpbnobcaaGreatDoor.D
