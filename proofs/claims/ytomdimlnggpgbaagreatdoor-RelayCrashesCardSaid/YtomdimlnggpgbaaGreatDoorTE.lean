/- RelayCrashes. -/
import Derived.Handy
import Derived.Orders
import Derived.Test.YtomdimlnggpgbaaGreatDoorRows
import Derived.MapKept
import Derived.Test.YtomdimlnggpgbaaGreatDoorTD
set_option linter.all false
set_option maxHeartbeats 4000000
namespace Go.Sx
open Go
variable {L L':Array Bool}{es:Array MapEntry}{C:Ctx}{Q:Exit->Act->World->Prop}{x y:Int}{k:IntKind}{l:List (Int×Value)}{bs:List Int}{f:List Nat}{mem:Mem}{b c g i j n r t:Nat}{o:Oper}{u:TV}{α:Type}{T e:TypeId}{v z:Value}
def Ly (o:Oper):List Nat:=(o.after.toList.filter fun e=>Region.binds .any e).map (·.on)
def iK (ops:List Oper) (i:Nat):List Nat:=match ops[i]? with
 | some o=>Ly o
 | none=>[]
def VW:List Oper->List (List Nat)->List (List Nat)
 | [],acc=>acc
 | o::l,acc=>VW l (acc++[((Ly o)++(Ly o).flatMap fun e=>acc.getD e []).eraseDups])
def nS (ops:List Oper) (A:List (List Nat)):Bool :=
 (List.range ops.length).all fun i=>((A.getD i []).all fun j=>(iK ops i).contains j||(iK ops i).any fun e=>(A.getD e []).contains j)&&(iK ops i).all fun e=>decide (e<i)
def fZ (ops:List Oper) (i:Nat):Option Tmp:=(ops[i]?).bind (·.dst)
def dn (ops:List Oper) (i:Nat):Bool:=match ops[i]? with
 | some o=>match o.op,o.guard,o.dst with
  | .alloc _,none,some _=>(Ly o).isEmpty
  | _,_,_=>false
 | none=>false
def Lw:CV->CV->Bool
 | .int k e,.int d b=>decide (k=d)&&decide (e=b)
 | .bool e,.bool b=>decide (e=b)
 | .str e,.str b=>decide (e=b)
 | .pti a o s n i,.pti f o' g n' m=>a==f&&o==o'&&s==g&&n==n'&&decide (i=m)
 | .hptr x y,.hptr x' y'=>decide (x=x')&&decide (y=y')
 | .sl x y l c,.sl x' y' l' c'=>decide (x=x')&&decide (y=y')&&decide (l=l')&&decide (c=c')
 | .map x,.map x'=>decide (x=x')
 | .vr j,.vr k=>j==k
 | .hv h x y j,.hv h' x' y' j'=>h==h'&&decide (x=x')&&decide (y=y')&&j==j'
 | .val v,.val v'=>Gv v v'
 | _,_=>false
def JM {a b:CV} (h:Lw a b=true):a=b:=by
 unfold Lw at h;split at h<;>(try simp only[aaE,aaB,adx]at h)<;>first | (cases h;done) | skip
 .obtain⟨rfl,rfl⟩:=h;rfl
 .rw[h]
 .rw[h]
 .obtain⟨⟨⟨⟨rfl,rfl⟩,rfl⟩,rfl⟩,rfl⟩:=h;rfl
 .obtain⟨rfl,rfl⟩:=h;rfl
 .obtain⟨⟨⟨rfl,rfl⟩,rfl⟩,rfl⟩:=h;rfl
 .rw[h]
 .rw[h]
 .obtain⟨⟨⟨rfl,rfl⟩,rfl⟩,rfl⟩:=h;rfl
 .rw[AE h]
def SK {α:Type} (f:α->α->Bool):List α->List α->Bool
 | [],[]=>true
 | a::l,b::m=>f a b&&SK f l m
 | _,_=>false
def HH {α:Type} {f:α->α->Bool} (hf:∀ a b,f a b=true->a=b):∀ {l m:List α},SK f l m=true->l=m
 | [],[],_=>rfl
 | a::l,b::m,h=>by
  simp only[SK,aaE]at h;rw[hf a b h.1,HH hf h.2]
 | [],_::_,h=>by simp [SK]at h
 | _::_,[],h=>by simp [SK]at h
def JP:SV->SV->Bool
 | .one a,.one b=>Lw a b
 | .agg l,.agg m=>SK Lw l m
 | _,_=>false
def E1 {a b:SV} (h:JP a b=true):a=b:=by
 unfold JP at h;split at h
 .rw[JM h]
 .rw[HH (fun _ _=>JM) h]
 .cases h
def Ub:TV->TV->Bool
 | .sv a,.sv b=>JP a b
 | .tup l,.tup m=>SK JP l m
 | _,_=>false
def Q2 {a b:TV} (h:Ub a b=true):a=b:=by
 unfold Ub at h;split at h
 .rw[E1 h]
 .rw[HH (fun _ _=>E1) h]
 .cases h
def Y1:Option TV->Option TV->Bool
 | some a,some b=>Ub a b
 | none,none=>true
 | _,_=>false
def Ua {a b:Option TV} (h:Y1 a b=true):a=b:=by
 unfold Y1 at h;split at h
 .rw[Q2 h]
 .rfl
 .cases h
def fl (P:Program) (ops:List Oper) (s:St) (o:Oper):Option (E×Option TV) :=
 match vp ops s o with
 | none=>none
 | some none=>(quiet P s o.op).map fun r=>(r.1,some r.2)
 | some (some (e,want))=>match known s.path e with
  | some b=>if b=want then(quiet P s o.op).map fun r=>(r.1,some r.2)else some (.tt,some D7)
  | none=>none
def GV (ops:List Oper) (A:List (List Nat)) (i:Nat) (st:St):St :=
 let hid:=(List.range ops.length).filterMap fun j=>if(A.getD i []).contains j then none else fZ ops j
 {st with tmps:=qu (fun t v=>match v with | none=>none | some u=>if hid.contains t then none else some u) 0 st.tmps}
structure xC where
 i:Nat
 snap:St
 n:E
 v:Option TV
structure Dr where
 st:St
 done:List Nat
 late:List xC
def Wu (P:Program) (ops:List Oper) (A:List (List Nat)) (D:Dr):Option Nat :=
 (List.range ops.length).find? fun i=>!D.done.contains i&&!dn ops i&&(iK ops i).all D.done.contains&&match ops[i]? with
  | some o=>(fl P ops (GV ops A i D.st) o).isSome
  | none=>false
def aas (ops:List Oper) (A:List (List Nat)) (D:Dr) (i:Nat):Option E :=
 match ops[i]? with
 | some o=>match vp ops (GV ops A i D.st) o with
  | some (some (e,_))=>match known D.st.path e with
   | none=>some e
   | _=>none
  | _=>none
 | none=>none
def Wv (ops:List Oper) (A:List (List Nat)) (D:Dr):Option E :=
 (List.range ops.length).findSome? fun i=>if !D.done.contains i&&!dn ops i&&(iK ops i).all D.done.contains then aas ops A D i else none
def wA (ops:List Oper) (D:Dr):List Nat :=
 (List.range ops.length).filter fun i=>!D.done.contains i&&!dn ops i&&(iK ops i).all fun e=>D.done.contains e||dn ops e
def xC.upto (n:Nat) (f:xC):Bool:=f.snap.tmps.all (O6 (·.upto n))&&f.snap.path.all (·.upto n)&&f.n.upto n
def Dr.upto (D:Dr):Bool:=D.st.upto D.st.nv&&D.late.all (xC.upto D.st.nv)
def wg (ops:List Oper) (s:St) (o:Oper):Bool :=
 match vp ops s o with
 | some none=>true
 | some (some (e,want))=>known s.path e==some want
 | none=>false
def BJ (P:Program) (ops:List Oper) (mem:Mem) (f:xC):Bool :=
 match ops[f.i]? with
 | some o=>match fl P ops {f.snap with mem:=mem} o with
  | some (n,v)=>decide (n=f.n)&&Y1 v f.v
  | none=>false
 | none=>false
def ug (P:Program) (ops:List Oper) (D:Dr) (j:Nat):Option Dr :=
 match ops[j]? with
 | some o=>match o.op,o.dst with
  | .alloc t,some d=>match mD P t with
   | some z=>if D.upto&&dn ops j&&D.late.all (BJ P ops (D.st.mem++[.bj D.st.nv (z.cells.toList.map iG) t]))then
    some ⟨({D.st with mem:=D.st.mem++[.bj D.st.nv (z.cells.toList.map iG) t],nv:=D.st.nv+1} : St).put (some d) (some (TP (.var D.st.nv) (.lit 0))),j::D.done,D.late⟩
    else none
   | none=>none
  | _,_=>none
 | none=>none
def roB (mem mem':Mem):Bool:=mem'.all fun r=>match r with
 | .ro k _ _=>mem.any fun s=>match s with
  | .ro a _ _=>k==a
  | _=>false
 | _=>true
def C6 (P:Program) (Γ:List Spec) (ops:List Oper) (A:List (List Nat)) (D:Dr) (c:Nat):Option (Dr×XR) :=
 match ops[c]? with
 | some o =>
  let s:=GV ops A c D.st
  if wg ops s o then match Q5 P Γ s o with
   | some R =>
    let late:=D.late.filter fun f=>!(A.getD c []).contains f.i
    if D.upto&&decide (D.st.nv<=R.st.nv)&&roB D.st.mem R.st.mem&&late.all (BJ P ops R.st.mem)then
     some (⟨({D.st with mem:=R.st.mem,nv:=R.st.nv} : St).put o.dst (match o.dst with | some d=>R.st.tmps.getD d none | none=>none),c::D.done,late⟩,R)
    else none
   | none=>none
  else none
 | none=>none
def SY (ops:List Oper) (A:List (List Nat)) (c:Nat):Bool:=(List.range ops.length).all fun i=>i==c||(A.getD c []).contains i
def uS (ops:List Oper) (A:List (List Nat)):List Nat->Bool
 | []=>true
 | r::l=>decide (r<ops.length)&&!l.contains r&&((List.range ops.length).all fun i=>i==r||l.contains i||(A.getD r []).contains i)&&uS ops A l
def PC (ops:List Oper) (A:List (List Nat)) (c:Nat):List Nat:=(List.range ops.length).filter fun i=>!(i==c)&&!(A.getD c []).contains i
def Sn (P:Program) (Γ:List Spec) (ex:Ex) (d:Nat) (ops:List Oper):List Nat->St->(St->Option Nd)->Option Nd
 | [],st,k=>k st
 | r::l,st,k=>match ops[r]? with
  | some o=>if wg ops st o then uR P Γ ex d o st fun s=>if st.nv<=s.nv then Sn P Γ ex d ops l s k else none else none
  | none=>none
def Jv:List (Option Nd)->Option Nd
 | []=>some .tt
 | some a::l=>(Jv l).map (pK a)
 | none::_=>none
def UH (P:Program) (ops:List Oper) (A:List (List Nat)) (D:Dr) (c:Nat):Option (Dr×X) :=
 match ops[c]? with
 | some o=>match BP P (GV ops A c D.st) o with
  | some (s,x)=>if D.upto&&D.late.all (BJ P ops s.mem)then some ({D with st:={D.st with mem:=s.mem,nv:=s.nv}},x)else none
  | none=>none
 | none=>none
def pI (P:Program) (Γ:List Spec) (ex:Ex) (d:Nat) (ops:List Oper) (A:List (List Nat)):Nat->Dr->(St->Option Nd)->Option Nd
 | 0,_,_=>none
 | m+1,D,k =>
  match Wu P ops A D with
  | some i=>match ops[i]? with
   | some o =>
    let s:=GV ops A i D.st
    match fl P ops s o with
    | some (n,v) =>
     let cs:=FC D.st.path n
     (pI P Γ ex d ops A m ⟨({D.st with path:=cs++D.st.path} : St).put o.dst v,i::D.done,⟨i,s,n,v⟩::D.late⟩ k).map (uu cs)
    | none=>none
   | none=>none
  | none=>match Wv ops A D with
   | some e=>match pI P Γ ex d ops A m {D with st:={D.st with path:=e::D.st.path}} k,pI P Γ ex d ops A m {D with st:={D.st with path:=mkNot e::D.st.path}} k with
    | some a,some b=>some (pK (wU e a) (wU (mkNot e) b))
    | _,_=>none
   | none=>match wA ops D with
    | []=>match(List.range ops.length).find? fun i=>!D.done.contains i with
     | none=>k D.st
     | some j=>match ug P ops D j with
      | some D'=>(pI P Γ ex d ops A m D' k).map fun nd=>.ext (.alloc D.st.nv) nd
      | none=>none
    | [c]=>match(iK ops c).find? fun e=>!D.done.contains e with
     | some j=>match ug P ops D j with
      | some D'=>(pI P Γ ex d ops A m D' k).map fun nd=>.ext (.alloc D.st.nv) nd
      | none=>none
     | none=>match UH P ops A D c with
      | some (D',x)=>(pI P Γ ex d ops A m D' k).map fun nd=>.ext x nd
      | none=>match C6 P Γ ops A D c with
      | some (D',R)=>(pI P Γ ex d ops A m D' k).map fun nd=>pK R.need (match R.x with | some x=>.ext x nd | none=>nd)
      | none=>match ops[c]? with
       | some o=>if wg ops (GV ops A c D.st) o&&SY ops A c then uR P Γ ex d o (GV ops A c D.st) k else if wg ops (GV ops A c D.st) o&&uS ops A (c::PC ops A c)then uR P Γ ex d o (GV ops A c D.st) fun s=>if D.st.nv<=s.nv then Sn P Γ ex d ops (PC ops A c) s k else none else none
       | none=>none
    | c1::c2::cs=>if((c1::c2::cs).all fun c=>(iK ops c).all D.done.contains)=true then
     Jv ((c1::c2::cs).map fun c=>match C6 P Γ ops A D c with
      | some (D',R)=>(pI P Γ ex d ops A m D' k).map fun nd=>pK R.need (match R.x with | some x=>.ext x nd | none=>nd)
      | none=>none)
     else none
def mi (ops:List Oper) (st:St):St :=
 let hid:=(List.range ops.length).filterMap fun j=>if dn ops j then fZ ops j else none
 {st with tmps:=qu (fun t v=>match v with | none=>none | some u=>if hid.contains t then none else some u) 0 st.tmps}
def vD:List (Option Tmp)->Bool
 | []=>true
 | none::l=>vD l
 | some t::l=>!l.contains (some t)&&vD l
def Qw (P:Program) (ops:List Oper):Bool:=ops.all fun o=>match o.op with
 | .alloc t=>(mD P t).isSome
 | _=>true
def dk (P:Program) (Γ:List Spec):Dk:=fun ex d ops st k =>
 let A:=VW ops []
 if nS ops A&&vD (ops.map (·.dst))&&P.follows .mixedOrders&&Qw P ops then pI P Γ ex d ops A (3*ops.length+10) ⟨mi ops st,[],[]⟩ (fun s=>if st.nv<=s.nv then k s else none)else none
section
variable {P:Program} {C:Ctx} {S:Nat->Prop} {w0:World} {J J':Env} {ops:List Oper} {A:List (List Nat)} {D:Dr} {L:Array Bool} {pl:Nat->Nat} {a:Act} {w w':World}
def qY (hc:nS ops A=true) (hi:i<ops.length):(∀ j∈A.getD i [],j∈iK ops i\/∃ e∈iK ops i,j∈A.getD e [])/\∀ e∈iK ops i,e<i:=by
 unfold nS at hc;rw[aa3]at hc;have:=hc i (abd.2 hi);simp only[aaE,aa3,ab1,List.any_eq_true,aaB,abW]at this;exact this
def hJ (hc:nS ops A=true) {p:Nat->Prop} (hp:∀ i,p i->∀ e∈iK ops i,p e):∀ i,i<ops.length->(∀ e∈iK ops i,p e)->∀ j∈A.getD i [],p j:=by
 intro i
 induction i using Nat.strongRecOn with
 | _ i ih =>
  intro hi he j c;obtain⟨h1,h2⟩:=qY hc hi;rcases h1 j c with h | ⟨e,a,b⟩
  .exact he j h
  .exact ih e (h2 e a) (adY (h2 e a) hi) (hp e (he e a)) j b
structure CL (P:Program) (ops:List Oper) (A:List (List Nat)) (J:Env) (D:Dr) (L:Array Bool) (a:Act) (f:xC):Prop where
 fl:∃ o,ops[f.i]?=some o/\Sx.fl P ops {f.snap with mem:=D.st.mem} o=some (f.n,f.v)
 need:bh J f.n=true
 path:Path J f.snap.path
 len:f.snap.tmps.length=D.st.tmps.length
 slots:∀ (t:Nat) u,f.snap.tmps[t]?=some (some u)->(∃ g∈D.late,L.getD g.i false=false/\fZ ops g.i=some t/\g.i∈A.getD f.i [])\/a.tmps[t]?=some (u.ev J)
 hid:∀ (j:Nat) t,j<ops.length->fZ ops j=some t->j∉A.getD f.i []->∀ u,f.snap.tmps[t]?≠some (some u)
 iW:∀ h∈D.late,h.i∈A.getD f.i []->∀ t u,fZ ops h.i=some t->f.snap.tmps[t]?=some (some u)->h.v=some u
 sub:∀ j∈A.getD f.i [],j∈D.done
structure oJ (P:Program) (S:Nat->Prop) (w0:World) (ops:List Oper) (A:List (List Nat)) (J:Env) (D:Dr) (L:Array Bool) (pl:Nat->Nat) (a:Act) (w:World):Prop where
 lsz:L.size=ops.length
 mem:MRel S w0 J D.st.mem w
 path:Path J D.st.path
 size:a.tmps.size=D.st.tmps.length
 defers:a.defers=[]
 slots:∀ (t:Nat) u,D.st.tmps[t]?=some (some u)->(∃ f∈D.late,L.getD f.i false=false/\fZ ops f.i=some t)\/a.tmps[t]?=some (u.ev J)
 lsub:∀ i,L.getD i false=true->i∈D.done\/dn ops i=true
 dsub:∀ i∈D.done,L.getD i false=true\/∃ f∈D.late,f.i=i
 dlt:∀ i∈D.done,i<ops.length
 ldone:∀ f∈D.late,f.i∈D.done
 lval:∀ f∈D.late,∀ t u,fZ ops f.i=some t->D.st.tmps[t]?=some (some u)->f.v=some u
 late:∀ f∈D.late,L.getD f.i false=false->CL P ops A J D L a f
 hid:∀ j,dn ops j=true->j∉D.done->∀ t u,fZ ops j=some t->D.st.tmps[t]?≠some (some u)
 early:∀ j,L.getD j false=true->j∉D.done->∃ o t z d,ops[j]?=some o/\o.op=.alloc t/\mD P t=some z/\o.dst=some d/\(d<a.tmps.size->a.tmps[d]?=some (.pointer (some ⟨pl j,0,none⟩))) /\
  w.heap[pl j]?=some (.cells z.cells t (0,0))/\w0.heap.size<=pl j/\∀ r∈D.st.mem,¬(r.hl J).mem (pl j)
 inj:∀ j j',L.getD j false=true->j∉D.done->L.getD j' false=true->j'∉D.done->pl j=pl j'->j=j'
 closed:∀ i,L.getD i false=true->∀ e∈iK ops i,L.getD e false=true
 dclosed:∀ i∈D.done,∀ e∈iK ops i,e∈D.done
def Ew (ops:List Oper):Prop:=∀ (i j:Nat) t,fZ ops i=some t->fZ ops j=some t->i=j
def K3:∀ {l:List Oper},vD (l.map (·.dst))=true->Ew l
 | [],_,i,j,t,h,_=>by simp [fZ]at h
 | o::l,hn,i,j,t,hi,b=>by
  have hl:vD (l.map (·.dst))=true/\∀ t,o.dst=some t->some t∉l.map (·.dst):=by
   simp only[aaY]at hn;unfold vD at hn;split at hn
   .cases ‹_::_=[]›
   .rename_i heq;simp only[aaC]at heq;obtain⟨h1,h2⟩:=heq;subst h2;exact⟨hn,fun t a=>by rw[h1]at a;cases a⟩
   .rename_i t' l' heq;simp only[aaC]at heq;obtain⟨h1,h2⟩:=heq;subst h2;simp only[aaE,abE,acj,abu]at hn;exact⟨hn.2,fun t a=>by rw[h1]at a;cases a;exact hn.1⟩
  have ih:=K3 hl.1;have nm:∀ (k:Nat),fZ l k=some t->some t∈l.map (·.dst):=fun k hk=>by
   unfold fZ at hk;cases ho:l[k]? with
   | none=>simp [ho]at hk
   | some o'=>simp only[ho,acp]at hk;exact abb.2 ⟨o',aaA ho,hk⟩
  cases i with
  | zero =>
   cases j with
   | zero=>rfl
   | succ j=>exact absurd (nm j (by simpa [fZ] using b)) (hl.2 t (by simpa [fZ] using hi))
  | succ i =>
   cases j with
   | zero=>exact absurd (nm i (by simpa [fZ] using hi)) (hl.2 t (by simpa [fZ] using b))
   | succ j=>rw[ih i j t (by simpa [fZ] using hi) (by simpa [fZ] using b)]
def E9 (hi:∀ j:Nat,True) (L:Array Bool) (i j:Nat):(L.setIfInBounds i true).getD j false=if i=j/\i<L.size then true else L.getD j false:=by
 by_cases h:i=j
 .subst h;by_cases hs:i<L.size
  .simp [hs]
  .simp [hs,ac4 (show L.size<=i by omega)]
 .simp [h,ab3 h]
def Jr (ops:List Oper) (L:Array Bool):Nat:=(List.range ops.length).countP fun i=>!L.getD i false
def countP_set (L:Array Bool) {i:Nat} (hi:i<L.size) (hf:L.getD i false=false):∀ (l:List Nat),l.Nodup->(l.countP fun j=>!(L.setIfInBounds i true).getD j false)+(if i∈l then 1 else 0)=l.countP fun j=>!L.getD j false
 | [],_=>aF
 | x::l,hn=>by
  rw[List.nodup_cons]at hn;have ih:=countP_set L hi hf l hn.2;have e:∀ j,(L.setIfInBounds i true).getD j false=if i=j then true else L.getD j false:=fun j=>by rw[E9 (fun _=>trivial)];simp [hi]
  simp only[List.countP_cons,e,aaN];simp only[e]at ih;by_cases hx:i=x
  .subst hx;have:i∉l:=hn.1;simp only[this,aca,abj]at ih;simp only[ab6,hf,true_or,Bool.not_true,Bool.not_false,abz,aca];omega
  .simp only[hx,aca,false_or];omega
def uV (hs:L.size=ops.length) (hi:i<ops.length) (hf:L.getD i false=false):Jr ops (L.setIfInBounds i true)+1=Jr ops L:=by
 have:=countP_set L ah hf (List.range ops.length) List.nodup_range;rw[aaR (abd.2 hi)]at this;exact this
def oD (h:Jr ops L=0) (hi:i<ops.length):L.getD i false=true:=by
 unfold Jr at h;rw[List.countP_eq_zero]at h;simpa using h i (abd.2 hi)
def dy (hs:L.size=ops.length) : i∈Region.ready .any ops.toArray L↔i<ops.length/\L.getD i false=false/\∀ e∈iK ops i,L.getD e false=true:=by
 rw[mem_ready];constructor
 .rintro⟨h0,o,ho,he⟩;have ho:ops[i]?=some o:=by simpa using ho
  have b:=(aaH.1 ho).1;refine⟨b,?_,fun e a=>?_⟩
  .have:i<L.size:=ah;simpa [this] using h0
  .unfold iK at a;simp only[ho,Ly]at a;obtain⟨x,hx,rfl⟩:=abb.1 a;rw[abS]at hx;exact he x (by simpa using hx.1) hx.2
 .rintro⟨b,h0,he⟩;refine⟨?_,ops[i],by simp [b],fun e a hb=>?_⟩
  .have:i<L.size:=ah;simpa [this] using h0
  .apply he;unfold iK;rw[aax b];simp only[Ly];exact abb.2 ⟨e,abS.2 ⟨by simpa using a,hb⟩,rfl⟩
def iU (hc:nS ops A=true) (hs:L.size=ops.length) (hr:Region.ready .any ops.toArray L=[]):∀ i,i<ops.length->L.getD i false=true:=by
 intro i
 induction i using Nat.strongRecOn with
 | _ i ih =>
  intro hi;cases h:L.getD i false with
  | true=>rfl
  | false =>
   exfalso;have:i∈Region.ready .any ops.toArray L:=(dy hs).2 ⟨hi,h,fun e he=>ih e ((qY hc hi).2 e he) (adY ((qY hc hi).2 e he) hi)⟩;rw[hr]at this;cases this
def Q7 {s:St} {n:E} {v:Option TV} {K:Act->World->Prop} (hA:Rel S w0 J s a w) (ho:ops[i]?=some o) (h:fl P ops s o=some (n,v)) (hn:bh J n=true)
 (hK:∀ x,(∀ u,v=some u->x=u.ev J)->K (a.put o.dst x) w):wpOp P ops.toArray Q i K a w:=by
 unfold wpOp;have:ops.toArray[i]?=some o:=by simpa using ho
 rw[this];simp only;unfold fl at h;split at h
 .cases h
 .rename_i f;simp only[aaI,abl]at h;obtain⟨⟨n',u⟩,g,rfl,rfl⟩:=h;have hw:=ja hA f;rw[hw];simp only[CI,ab6];exact Or.inl (fK (qF hA g hn) (hK _ (fun y d=>by cases d;rfl)))
 .rename_i e want f;have hw:Region.wanted o (yielded ops.toArray a.tmps)=(bh J e==want):=ja hA f;split at h
  .rename_i b j;rw[fW hA.path j]at hw;split at h
   .rename_i c;simp only[aaI,abl]at h;obtain⟨⟨n',u⟩,g,rfl,rfl⟩:=h;rw[hw,aaR (by simpa using c)];exact Or.inl (fK (qF hA g hn) (hK _ (fun y d=>by cases d;rfl)))
   .rename_i c;cases h;rw[hw,aaG (by simpa using c)];exact hK _ (fun y d=>by cases d;rfl)
  .cases h
def kl (a:Act) (d:Option Tmp) (x:Value) (t:Nat):(a.put d x).tmps[t]?=if d=some t/\t<a.tmps.size then some x else a.tmps[t]?:=by
 cases d with
 | none=>simp [Act.put]
 | some d =>
  by_cases h:d=t
  .subst h;by_cases hs:d<a.tmps.size
   .simp [Act.put,hs]
   .simp [Act.put,hs,ac4 (Nat.le_of_not_lt hs)]
  .simp [Act.put,h,ab3 h]
def vZ (st:St) (d:Option Tmp) (v:Option TV) (t:Nat):(st.put d v).tmps[t]?=if d=some t/\t<st.tmps.length then some v else st.tmps[t]?:=by
 cases d with
 | none=>simp [St.put]
 | some d =>
  by_cases h:d=t
  .subst h;by_cases hs:d<st.tmps.length
   .simp [St.put,hs]
   .simp [St.put,hs,aaK (Nat.le_of_not_lt hs)]
  .simp [St.put,h,abF h]
def jX (st:St) (d:Option Tmp) (v:Option TV):(st.put d v).tmps.length=st.tmps.length:=by cases d<;>simp [St.put]
def yu {st:St} (h:(GV ops A i st).tmps[t]?=some (some u)):st.tmps[t]?=some (some u)/\∀ j,j<ops.length->fZ ops j=some t->j∈A.getD i []:=by
 unfold GV at h;simp only[o9,aaI]at h;obtain⟨v,hv,he⟩:=h;split at he
 .cases he
 split at he
 .cases he
 .rename_i hc;cases he;refine⟨hv,fun j a hd=>?_⟩;by_cases hm:j∈A.getD i []
  .exact hm
  .exfalso;apply hc;rw[abW,List.mem_filterMap];refine⟨j,abd.2 a,?_⟩;rw[aaG (by rw[abW];exact hm)];exact hd
def K4 {st:St} : (GV ops A i st).tmps.length=st.tmps.length:=by simp [GV]
end
section
variable {P:Program} {C:Ctx} {S:Nat->Prop} {w0:World} {J J':Env} {ops:List Oper} {A:List (List Nat)} {D D':Dr} {L:Array Bool} {pl:Nat->Nat} {a:Act} {w w':World}
def kn (ho:ops[i]?=some o):fZ ops i=o.dst:=by simp [fZ,ho]
def yU (h:fZ ops i=some t):i<ops.length:=by
 unfold fZ at h;cases ho:ops[i]? with
 | none=>simp [ho]at h
 | some o=>exact(aaH.1 ho).1
def kH (hi:i<L.size):(L.setIfInBounds i true).getD j false=if i=j then true else L.getD j false:=by
 rw[E9 (fun _=>trivial)];simp [hi]
def oJ.PB (h:oJ P S w0 ops A J D L pl a w) (hc:nS ops A=true) {f:xC} (hf:f∈D.late) (k:L.getD f.i false=false) (hr:∀ e∈iK ops f.i,L.getD e false=true) :
 Rel S w0 J {f.snap with mem:=D.st.mem} a w:=by
 have hl:=h.late f hf k;have c:=h.dlt _ (h.ldone f hf);have b:=hJ hc (p:=fun i=>L.getD i false=true) h.closed f.i c hr;refine⟨h.mem,by rw[h.size,<-hl.len],h.defers,fun t v hv=>?_,hl.path⟩;rcases hl.slots t v hv with ⟨g,_,l,_,d⟩ | j
 .have:=b _ d;rw[l]at this;cases this
 .exact j
def oJ.DR (h:oJ P S w0 ops A J D L pl a w) (hc:nS ops A=true) (hi:i<ops.length) (hr:∀ e∈iK ops i,L.getD e false=true):Rel S w0 J (GV ops A i D.st) a w:=by
 have b:=hJ hc (p:=fun i=>L.getD i false=true) h.closed i hi hr;refine⟨h.mem,by rw[h.size,K4],h.defers,fun t v hv=>?_,h.path⟩;obtain⟨h1,h2⟩:=yu hv;rcases h.slots t v h1 with ⟨g,j,d,c⟩ | f
 .have:=b _ (h2 _ (yU c) c);rw[d]at this;cases this
 .exact f
def oJ.OC (h:oJ P S w0 ops A J D L pl a w) (hu:Ew ops) {f:xC} (hf:f∈D.late) (ho:ops[f.i]?=some o) (Q:L.getD f.i false=false) (hr:∀ e∈iK ops f.i,L.getD e false=true)
 {x:Value} (hx:∀ u,f.v=some u->x=u.ev J):oJ P S w0 ops A J D (L.setIfInBounds f.i true) pl (a.put o.dst x) w:=by
 have q:f.i<ops.length:=(aaH.1 ho).1;have hs:∀ j,(L.setIfInBounds f.i true).getD j false=if f.i=j then true else L.getD j false:=fun j=>kH (by rw[h.lsz];exact q)
 have hd:=kn ho;have r:(a.put o.dst x).tmps.size=a.tmps.size:=by cases o.dst<;>simp [Act.put]
 refine⟨by simp [h.lsz],h.mem,h.path,by rw[r];exact h.size,by cases o.dst<;>exact h.defers,?_,?_,?_,h.dlt,h.ldone,h.lval,?_,h.hid,?_,?_,?_,h.dclosed⟩
 .intro t u l;have hlen:t<a.tmps.size:=by rw[h.size];exact(aaH.1 l).1
  rw[kl];by_cases b:o.dst=some t
  .right;rw[aaR ⟨b,hlen⟩];rw[hx u (h.lval f hf t u (by rw[hd,b]) l)]
  .rw[aaG (fun e=>b e.1)];rcases h.slots t u l with ⟨g,G,c,s⟩ | hv
   .left;refine⟨g,G,?_,s⟩;rw[hs,aaG]
    .exact c
    .intro e;apply b;rw[<-hd,e];exact s
   .exact Or.inr hv
 .intro i hi;rw[hs]at hi;split at hi
  .rename_i e;subst e;exact Or.inl (h.ldone f hf)
  .exact h.lsub i hi
 .intro i hi;rcases h.dsub i hi with h1 | h1
  .left;rw[hs];split
   .rfl
   .exact h1
  .exact Or.inr h1
 .intro g G c;rw[hs]at c;split at c
  .cases c
  .rename_i p;have hl:=h.late g G c;refine⟨hl.fl,hl.need,hl.path,hl.len,fun t u l=>?_,hl.hid,hl.iW,hl.sub⟩;have hlen:t<a.tmps.size:=by rw[h.size,<-hl.len];exact(aaH.1 l).1
   rw[kl];by_cases b:o.dst=some t
   .right;rw[aaR ⟨b,hlen⟩];have hm:f.i∈A.getD g.i []:=by
     by_cases hm:f.i∈A.getD g.i []
     .exact hm
     .exact absurd l (hl.hid f.i t q (by rw[hd,b]) hm u)
    rw[hx u (hl.iW f hf hm t u (by rw[hd,b]) l)]
   .rw[aaG (fun e=>b e.1)];rcases hl.slots t u l with ⟨K,H,y,m,B⟩ | hv
    .left;refine⟨K,H,?_,m,B⟩;rw[hs,aaG]
     .exact y
     .intro e;apply b;rw[<-hd,e];exact m
    .exact Or.inr hv
 .intro j C k;have p:f.i≠j:=fun e=>k (e▸h.ldone f hf);rw[hs,aaG p]at C;obtain⟨o',t,z,d,h1,h2,M,I,N,O⟩:=h.early j C k;refine⟨o',t,z,d,h1,h2,M,I,fun E=>?_,O⟩;rw[kl,aaG]
  .exact N (by rw[r]at E;exact E)
  .rintro⟨e,_⟩;exact p (hu _ _ d (by rw[hd,e]) (by rw[kn h1,I]))
 .intro j j' C k F n;rw[hs,aaG (show ¬f.i=j from fun e=>k (e▸h.ldone f hf))]at C;rw[hs,aaG (show ¬f.i=j' from fun e=>n (e▸h.ldone f hf))]at F;exact h.inj j j' C k F n
 .intro i hi e he;rw[hs];split
  .rfl
  .rw[hs]at hi;split at hi
   .rename_i e1;subst e1;exact hr e he
   .exact h.closed i hi e he
def qh (h:dn ops j=true):∃ o t d,ops[j]?=some o/\o.op=.alloc t/\o.dst=some d/\o.guard=none/\iK ops j=[]:=by
 unfold dn at h;split at h
 .rename_i o ho;split at h
  .rename_i t d h1 h2 a;exact⟨o,t,d,ho,h1,a,h2,by unfold iK;rw[ho];simpa using h⟩
  .cases h
 .cases h
def oJ.Le (h:oJ P S w0 ops A J D L pl a w) (hu:Ew ops) (K:dn ops j=true) (n:j∉D.done) (hL:L.getD j false=false) {t:TypeId} {d:Tmp} (ho:ops[j]?=some o) (M:o.op=.alloc t) (c:o.dst=some d) (V:mD P t=some z) :
 oJ P S w0 ops A J D (L.setIfInBounds j true) (fun k=>if k=j then w.heap.size else pl k) (a.put o.dst (.pointer (some ⟨w.heap.size,0,none⟩))) (w.alloc (.cells z.cells t)):=by
 have y:j<ops.length:=(aaH.1 ho).1;have hs:∀ k,(L.setIfInBounds j true).getD k false=if j=k then true else L.getD k false:=fun k=>kH (by rw[h.lsz];exact y)
 have hd:=kn ho;have v:(a.put o.dst (.pointer (some ⟨w.heap.size,0,none⟩))).tmps.size=a.tmps.size:=by cases o.dst<;>simp [Act.put]
 have B:RowKit.Below w.heap.size w (w.alloc (.cells z.cells t)):=(RowKit.Below.refl _ _).alloc (aaS _) _;refine⟨by simp [h.lsz],h.mem.below B,h.path,by rw[v];exact h.size,by rw[c];exact h.defers,?_,?_,?_,h.dlt,h.ldone,h.lval,?_,h.hid,?_,?_,?_,h.dclosed⟩
 .intro t' u C;rw[kl];by_cases f:o.dst=some t'
  .exact absurd C (h.hid j K n t' u (by rw[hd,f]))
  .rw[aaG (fun e=>f e.1)];rcases h.slots t' u C with ⟨g,I,b,N⟩ | hv
   .left;refine⟨g,I,?_,N⟩;rw[hs,aaG]
    .exact b
    .intro e;exact n (e▸h.ldone g I)
   .exact Or.inr hv
 .intro i hi;rw[hs]at hi;split at hi
  .rename_i e;subst e;exact Or.inr K
  .exact h.lsub i hi
 .intro i hi;rcases h.dsub i hi with h1 | h1
  .left;rw[hs];split
   .rfl
   .exact h1
  .exact Or.inr h1
 .intro g I b;rw[hs]at b;split at b
  .cases b
  .have hl:=h.late g I b;refine⟨hl.fl,hl.need,hl.path,hl.len,fun t' u C=>?_,hl.hid,hl.iW,hl.sub⟩;rw[kl];by_cases f:o.dst=some t'
   .exact absurd C (hl.hid j t' y (by rw[hd,f]) (fun hm=>n (hl.sub j hm)) u)
   .rw[aaG (fun e=>f e.1)];rcases hl.slots t' u C with ⟨R,E,F,G,H⟩ | hv
    .left;refine⟨R,E,?_,G,H⟩;rw[hs,aaG]
     .exact F
     .intro e;exact n (e▸h.ldone R E)
    .exact Or.inr hv
 .intro k hk fu;rw[hs]at hk;by_cases p:j=k
  .subst p;refine⟨o,t,z,d,ho,M,V,c,?_,?_,?_,?_⟩
   .intro l;simp only[ab6];rw[v]at l;rw[kl,aaR ⟨c,l⟩]
   .simp only[ab6];exact heap_alloc_new w _
   .simp only[ab6];exact h.mem.fV.size
   .intro r hr hm;simp only[ab6]at hm;have:=Hl.sub_lt (h.mem.sub r hr) hm;omega
  .rw[aaG p]at hk;obtain⟨o',t',W,T,h1,h2,X,U,Y,x,Z,h8⟩:=h.early k hk fu;have q:k≠j:=fun e=>p e.symm;refine⟨o',t',W,T,h1,h2,X,U,?_,?_,?_,?_⟩
   .intro l;simp only[aaG q];rw[kl,aaG]
    .exact Y (by rw[v]at l;exact l)
    .rintro⟨e,_⟩;exact p (hu _ _ T (by rw[hd,e]) (by rw[kn h1,U]))
   .simp only[aaG q];rw[heap_alloc_old w _ (abg.1 x).1];exact x
   .simp only[aaG q];exact Z
   .simp only[aaG q];exact h8
 .intro k O hk fu m s he;rw[hs]at hk m;by_cases h1:k=j<;>by_cases h2:O=j
  .rw[h1,h2]
  .rw[aaR h1,aaG h2]at he;rw[aaG (fun e=>h2 e.symm)]at m;obtain⟨_,_,_,_,_,_,_,_,_,x,_⟩:=h.early O m s;have:=(abg.1 x).1;omega
  .rw[aaG h1,aaR h2]at he;rw[aaG (fun e=>h1 e.symm)]at hk;obtain⟨_,_,_,_,_,_,_,_,_,x,_⟩:=h.early k hk fu;have:=(abg.1 x).1;omega
  .rw[aaG h1,aaG h2]at he;rw[aaG (fun e=>h1 e.symm)]at hk;rw[aaG (fun e=>h2 e.symm)]at m;exact h.inj k O hk fu m s he
 .intro i hi e he;rw[hs];split
  .rfl
  .rw[hs]at hi;split at hi
   .rename_i e1;subst e1;obtain⟨_,_,_,_,_,_,_,Q⟩:=qh K;rw[Q]at he;cases he
   .exact h.closed i hi e he
def oJ.qB (h:oJ P S w0 ops A J D L pl a w) {cs:List E} (b:∀ c∈cs,bh J c=true):oJ P S w0 ops A J {D with st:={D.st with path:=cs++D.st.path}} L pl a w :=
 ⟨h.lsz,h.mem,fun e he=>(aa4.1 he).elim (b e) (h.path e),h.size,h.defers,h.slots,h.lsub,h.dsub,h.dlt,h.ldone,h.lval,
  fun f hf d=>let l:=h.late f hf d;⟨l.fl,l.need,l.path,l.len,l.slots,l.hid,l.iW,l.sub⟩,h.hid,h.early,h.inj,h.closed,h.dclosed⟩
end
section
variable {P:Program} {C:Ctx} {S:Nat->Prop} {w0:World} {J J':Env} {ops:List Oper} {A:List (List Nat)} {D D':Dr} {L:Array Bool} {pl:Nat->Nat} {a:Act} {w w':World}
def oJ.iP (h:oJ P S w0 ops A J D L pl a w) (hd:i∉D.done) (b:dn ops i=false):L.getD i false=false:=by
 cases c:L.getD i false with
 | false=>rfl
 | true=>rcases h.lsub i c with h1 | h1
         .exact absurd h1 hd
         .rw[b]at h1;cases h1
def oJ.float (h:oJ P S w0 ops A J D L pl a w) (hc:nS ops A=true) (hu:Ew ops) (ho:ops[i]?=some o) (hd:i∉D.done) (U:dn ops i=false) (G:∀ e∈iK ops i,e∈D.done)
 {n:E} {v:Option TV} (hf:fl P ops (GV ops A i D.st) o=some (n,v)) (hn:bh J n=true) {cs:List E} (N:∀ c∈cs,bh J c=true) :
 oJ P S w0 ops A J ⟨({D.st with path:=cs++D.st.path} : St).put o.dst v,i::D.done,⟨i,GV ops A i D.st,n,v⟩::D.late⟩ L pl a w:=by
 have H:i<ops.length:=(aaH.1 ho).1;have V:=h.iP hd U;have q:=kn ho;have C:=hJ hc (p:=fun k=>k∈D.done) h.dclosed i H G;have s:(({D.st with path:=cs++D.st.path} : St).put o.dst v).mem=D.st.mem:=St.iA _ _ _;have x:∀ t u,(({D.st with path:=cs++D.st.path} : St).put o.dst v).tmps[t]?=some (some u)->(o.dst=some t/\v=some u)\/(o.dst≠some t/\D.st.tmps[t]?=some (some u)):=by
  intro t u d;rw[vZ]at d;split at d
  .rename_i hc;left;exact⟨hc.1,abp d⟩
  .rename_i hc;by_cases I:o.dst=some t
   .exfalso;have:t<D.st.tmps.length:=(aaH.1 d).1;exact hc ⟨I,this⟩
   .exact Or.inr ⟨I,d⟩
 refine⟨h.lsz,by rw[s];exact h.mem,?_,by rw[jX];exact h.size,h.defers,?_,?_,?_,?_,?_,?_,?_,?_,?_,?_,h.closed,?_⟩
 .rw[St.Am];exact fun e he=>(aa4.1 he).elim (N e) (h.path e)
 .intro t u d;rcases x t u d with ⟨h1,h2⟩ | ⟨h1,h2⟩
  .left;exact⟨_,aa8 ..,V,by rw[q,h1]⟩
  .rcases h.slots t u h2 with ⟨f,b,r⟩ | hv
   .left;exact⟨f,aaO _ b,r⟩
   .exact Or.inr hv
 .intro k hk;exact(h.lsub k hk).imp (aaO _) id
 .intro k hk;rcases aaN.1 hk with rfl | hk
  .right;exact⟨_,aa8 ..,rfl⟩
  .rcases h.dsub k hk with h1 | ⟨f,b,r⟩
   .exact Or.inl h1
   .exact Or.inr ⟨f,aaO _ b,r⟩
 .intro k hk;rcases aaN.1 hk with rfl | hk
  .exact H
  .exact h.dlt k hk
 .intro f b;rcases aaN.1 b with rfl | b
  .exact aa8 ..
  .exact aaO _ (h.ldone f b)
 .intro f b t u F d;rcases aaN.1 b with rfl | b
  .rcases x t u d with ⟨_,h2⟩ | ⟨h1,_⟩
   .exact h2
   .exact absurd (by rw[<-q];exact F) h1
  .rcases x t u d with ⟨h1,_⟩ | ⟨_,h2⟩
   .exact absurd (hu _ _ t F (by rw[q,h1])▸h.ldone f b) hd
   .exact h.lval f b t u F h2
 .intro f b O;rcases aaN.1 b with rfl | b
  .refine⟨⟨o,ho,?_⟩,hn,h.path,?_,?_,?_,?_,?_⟩
   .rw[s];exact hf
   .rw[jX];exact K4
   .intro t u d;obtain⟨h1,h2⟩:=yu d;rcases h.slots t u h1 with ⟨g,z,Q,l⟩ | hv
    .left;exact⟨g,aaO _ z,Q,l,h2 _ (yU l) l⟩
    .exact Or.inr hv
   .intro j t y m R u d;exact R ((yu d).2 j y m)
   .intro g z B t u l d;rcases aaN.1 z with rfl | z
    .exact absurd (C _ B) hd
    .exact h.lval g z t u l (yu d).1
   .intro j y;exact aaO _ (C j y)
  .have hl:=h.late f b O;refine⟨?_,hl.need,hl.path,by rw[jX];exact hl.len,?_,hl.hid,?_,fun j y=>aaO _ (hl.sub j y)⟩
   .rw[s];exact hl.fl
   .intro t u d;rcases hl.slots t u d with ⟨g,z,r⟩ | hv
    .left;exact⟨g,aaO _ z,r⟩
    .exact Or.inr hv
   .intro g z B t u l d;rcases aaN.1 z with rfl | z
    .exact absurd (hl.sub _ B) hd
    .exact hl.iW g z B t u l d
 .intro j y m t u K d;rcases x t u d with ⟨h1,_⟩ | ⟨_,h2⟩
  .have:=hu _ _ t K (by rw[q,h1]);rw[this,U]at y;cases y
  .exact h.hid j y (fun e=>m (aaO _ e)) t u K h2
 .intro j y m;rw[s];exact h.early j y (fun e=>m (aaO _ e))
 .intro j j' y m T M;exact h.inj j j' y (fun e=>m (aaO _ e)) T (fun e=>M (aaO _ e))
 .intro k hk e he;rcases aaN.1 hk with rfl | hk
  .exact aaO _ (G e he)
  .exact aaO _ (h.dclosed k hk e he)
def LR {f:xC} (h:BJ P ops mem f=true):∃ o,ops[f.i]?=some o/\fl P ops {f.snap with mem:=mem} o=some (f.n,f.v):=by
 unfold BJ at h;split at h
 .rename_i o ho;split at h
  .rename_i n v hf;simp only[aaE,aaB]at h;refine⟨o,ho,?_⟩;rw[hf,h.1,Ua h.2]
  .cases h
 .cases h
def MRel.VU (h:MRel S w0 J mem w) {p:Nat} {l:List CV} {x:bL} (hx:x=.bj b l T) (hag:∀ s∈mem,s.same J J') (hb:(J'.i b)=(p:Int)) (hw:w.heap[p]?=some (.cells (l.map (CV.ev J')).toArray T (0,0)))
 (h0:w0.heap.size<=p) (hn:∀ r∈mem,¬(r.hl J).mem p):MRel S w0 J' (mem++[x]) w:=by
 subst hx;have hm:=h.agree hag;have a:∀ c,((bL.bj b l T).hl J').mem c->c=p:=fun c hc=>by
  have:=Hl.dJ.1 hc;rw[hb]at this;simpa using this
 have key:∀ (q:Nat) r,(mem++[bL.bj b l T])[q]?=some r->mem[q]?=some r\/(q=mem.length/\r=.bj b l T):=by
  intro q r d;rw[acN]at d;split at d
  .exact Or.inl d
  .have:q-mem.length=0:=by
    rcases acG (q-mem.length)with h0 | h0
    .exact h0
    .rw[aaK (by simp;omega)]at d;cases d
   rw[this]at d;simp only[abv,aaF]at d;exact Or.inr ⟨ah,d.symm⟩
 have e:∀ r∈mem,¬(r.hl J').mem p:=fun r hr hp=>hn r hr (by rw[<-(hag r hr).1];exact hp);refine⟨hm.fV,fun r hr=>?_,fun r hr ho c hc=>?_,fun q q' r s f d g ho=>?_,fun r hr=>?_⟩
 .rcases aa4.1 hr with hr | hr
  .exact hm.sub r hr
  .rw[aaJ.1 hr];intro c o hc;obtain⟨rfl,rfl⟩:=Hl.nI hc;rw[hb,aar];exact hw
 .rcases aa4.1 hr with hr | hr
  .exact hm.own r hr ho c hc
  .rw[aaJ.1 hr]at hc;rw[a c hc];exact Or.inr h0
 .rcases key q r d with h1 | ⟨h1,rfl⟩<;>rcases key q' s g with h2 | ⟨h2,rfl⟩
  .exact hm.bV q q' r s f h1 h2 ho
  .rintro c ⟨x,y⟩;rw[a c y]at x;exact e r (aaA h1) x
  .rintro c ⟨x,y⟩;rw[a c x]at y;exact e s (aaA h2) y
  .exact absurd (h1.trans h2.symm) f
 .rcases aa4.1 hr with hr | hr
  .exact hm.pos r hr
  .rw[aaJ.1 hr];show 0<=J'.i b;rw[hb];omega
def Dr.Eh (h:D.upto=true):D.st.upto D.st.nv=true:=by
 unfold Dr.upto at h;simp only[aaE]at h;exact h.1
def Dr.M5 (h:D.upto=true) {f:xC} (hf:f∈D.late):f.snap.tmps.all (O6 (·.upto D.st.nv))=true/\f.snap.path.all (·.upto D.st.nv)=true/\f.n.upto D.st.nv=true:=by
 unfold Dr.upto at h;simp only[aaE,aa3]at h;have:=h.2 f hf;unfold xC.upto at this;simp only[aaE]at this;exact⟨this.1.1,this.1.2,this.2⟩
def St.uY {st:St} (h:st.tmps.all (O6 (·.upto n))=true) (a:st.tmps[t]?=some (some u)):u.upto n=true:=by
 rw[aa3]at h;exact h _ (aaA a)
def CL.next {f:xC} (h:CL P ops A J D L a f) (hu:D.upto=true) (d:ai D.st.nv J J') (hf:f∈D.late) {D':Dr} {l:Act} (hb:BJ P ops D'.st.mem f=true)
 (hlen:D'.st.tmps.length=D.st.tmps.length) (b:∀ (t:Nat) u,f.snap.tmps[t]?=some (some u)->((∃ g∈D.late,L.getD g.i false=false/\fZ ops g.i=some t/\g.i∈A.getD f.i [])\/a.tmps[t]?=some (u.ev J)) ->
  ((∃ g∈D'.late,L'.getD g.i false=false/\fZ ops g.i=some t/\g.i∈A.getD f.i [])\/l.tmps[t]?=some (u.ev J)))
 (hlate:∀ g∈D'.late,g∈D.late) (c:∀ j∈D.done,j∈D'.done):CL P ops A J' D' L' l f:=by
 obtain⟨m,n,o⟩:=Dr.M5 hu hf;refine⟨LR hb,by rw[lO d o];exact h.need,h.path.agree d n,by rw[hlen];exact h.len,fun t u e=>?_,h.hid,fun g k=>h.iW g (hlate g k),fun j p=>c j (h.sub j p)⟩;rw[TV.agree d u (St.uY m e)];exact b t u e (h.slots t u e)
def oJ.import (h:oJ P S w0 ops A J D L pl a w) (hu:Ew ops) (hd:j∉D.done) (E:L.getD j false=true) (hi:ug P ops D j=some D') :
 ∃ J',ai D.st.nv J J'/\0<=J'.i D.st.nv/\oJ P S w0 ops A J' D' L pl a w/\D'.st.nv=D.st.nv+1:=by
 unfold ug at hi;split at hi
 .rename_i o ho;split at hi
  .rename_i t d F n;split at hi
   .rename_i z U;split at hi
    .rename_i hc;cases hi;simp only[aaE]at hc;obtain⟨⟨s,G⟩,hlate⟩:=hc;rw[aa3]at hlate;obtain⟨o',t',O,Q,h1,h2,R,T,V,W,X,Y⟩:=h.early j E hd;rw[ho]at h1;cases h1;rw[F]at h2;cases h2;rw[U]at R;cases R;rw[n]at T;cases T;have H:j<ops.length:=(aaH.1 ho).1;have v:fZ ops j=some d:=by rw[kn ho,n]
     let J':=J.gf D.st.nv (pl j)
     have q:ai D.st.nv J J':=ct _ _ _ (aaS _);have e1:J'.i D.st.nv=(pl j:Int):=nM _ _ _;have x:=Dr.Eh s;have hag:=Mem.agree q (St.dt x);have l:=x;simp only[St.upto,aaE]at l;have m:∀ t' u,(({D.st with mem:=D.st.mem++[.bj D.st.nv (z.cells.toList.map iG) t],nv:=D.st.nv+1} : St).put (some d) (some (TP (.var D.st.nv) (.lit 0)))).tmps[t']?=some (some u) ->
      (d=t'/\u=TP (.var D.st.nv) (.lit 0)/\d<D.st.tmps.length)\/(d≠t'/\D.st.tmps[t']?=some (some u)):=by
      intro t' u b;rw[vZ]at b;split at b
      .rename_i hc;left;simp only[aaF]at hc b;exact⟨hc.1,b.symm,hc.1▸hc.2⟩
      .rename_i hc;by_cases y:d=t'
       .exfalso;have:t'<D.st.tmps.length:=(aaH.1 b).1;exact hc ⟨by rw[y],this⟩
       .exact Or.inr ⟨y,b⟩
     refine⟨J',q,by rw[e1];omega,⟨h.lsz,?_,?_,by rw[jX];exact h.size,h.defers,?_,?_,?_,?_,?_,?_,?_,?_,?_,?_,h.closed,?_⟩,by rw[St.DK]⟩
     .rw[St.iA];refine h.mem.VU (p:=pl j) rfl hag e1 ?_ X Y;rw[jf];exact W
     .rw[St.Am];exact h.path.agree q l.2
     .intro t' u b;rcases m t' u b with ⟨rfl,rfl,I⟩ | ⟨Z,b⟩
      .right;rw[V (by rw[h.size];exact I)];simp only[TV.ev,SV.ev,CV.ev,al,ak,e1];rw[au ah];simp
      .rw[TV.agree q u (St.uY l.1.1 b)];exact h.slots t' u b
     .intro k hk;exact(h.lsub k hk).imp (aaO _) id
     .intro k hk;rcases aaN.1 hk with rfl | hk
      .exact Or.inl E
      .exact h.dsub k hk
     .intro k hk;rcases aaN.1 hk with rfl | hk
      .exact H
      .exact h.dlt k hk
     .intro f hf;exact aaO _ (h.ldone f hf)
     .intro f hf t' u B b;rcases m t' u b with ⟨rfl,_⟩ | ⟨_,b⟩
      .exact absurd (hu _ _ _ B v▸h.ldone f hf) hd
      .exact h.lval f hf t' u B b
     .intro f hf K;refine(h.late f hf K).next s q hf ?_ (by rw[jX]) (fun _ _ _ hs=>hs) (fun g q=>q) (fun k hk=>aaO _ hk);rw[St.iA];exact hlate f hf
     .intro k hk fu t' u C b;rcases m t' u b with ⟨rfl,_⟩ | ⟨_,b⟩
      .exact absurd (aaN.2 (Or.inl (hu _ _ _ C v))) fu
      .exact h.hid k hk (fun e=>fu (aaO _ e)) t' u C b
     .intro k hk fu;have c:k∉D.done:=fun e=>fu (aaO _ e);obtain⟨o',t',O,Q,g1,g2,g3,g4,g5,g6,g7,g8⟩:=h.early k hk c;refine⟨o',t',O,Q,g1,g2,g3,g4,g5,g6,g7,fun r hr hm=>?_⟩;rw[St.iA]at hr;rcases aa4.1 hr with hr | hr
      .rw[(hag r hr).1]at hm;exact g8 r hr hm
      .rw[aaJ.1 hr]at hm;have:=Hl.dJ.1 hm;rw[e1,aar]at this;exact fu (aaN.2 (Or.inl (h.inj k j hk c E hd this)))
     .intro k k' hk fu M c;exact h.inj k k' hk (fun e=>fu (aaO _ e)) M (fun e=>c (aaO _ e))
     .intro k hk e he;rcases aaN.1 hk with rfl | hk
      .obtain⟨_,_,_,_,_,_,_,N⟩:=qh G;rw[N]at he;cases he
      .exact aaO _ (h.dclosed k hk e he)
    .cases hi
   .cases hi
  .cases hi
 .cases hi
def Mb {st s:St} {x:X} (h:BP P st o=some (s,x)) (hm:MRel S w0 J st.mem w) :
 ∃ J',ai st.nv J J'/\x.n=st.nv/\x.rel C J J'/\s.nv=st.nv+1/\MRel S w0 J' s.mem w/\∀ r∈s.mem,∀ b,(r.hl J').mem b->∃ f∈st.mem,(f.hl J).mem b:=by
 unfold BP at h;split at h
 .split at h
  .rename_i p k vers tags links hp;split at h
   .rename_i y q r g;split at h
    .rename_i hu;cases h;have hp:=bu hp;obtain⟨h1,h2,c⟩:=pe g;have d:ai st.nv J (J.mC st.nv (((bL.hp k vers tags links).hl J).un (r.hl J))):=fF _ _ _ (aaS _);have hag:=Mem.agree d (St.dt hu);refine⟨_,d,rfl,⟨gL _ _ _,hm.bV p q _ _ c.symm hp h1 rfl⟩,rfl,hm.Rr hp h1 c rfl h2 hag (gL _ _ _) trivial,fun r' a b hb=>?_⟩;rcases acu a with a | rfl
     .rcases acu a with a | rfl
      .rw[(hag r' a).1]at hb;exact⟨r',a,hb⟩
      .have hb:(((bL.hp k vers tags links).hl J).un (r.hl J)).mem b:=by
        have e:(bL.hp st.nv (k::r.ks++vers) (tags++y::r.XD) links).hl (J.mC st.nv (((bL.hp k vers tags links).hl J).un (r.hl J)))=((bL.hp k vers tags links).hl J).un (r.hl J):=gL _ _ _;rw[<-e];exact hb
       rcases Hl.fm.1 hb with hb | hb
       .exact⟨_,aaA hp,hb⟩
       .exact⟨_,aaA h1,hb⟩
     .cases hb
    .cases h
   .cases h
  .cases h
 .cases h
def oJ.merge (h:oJ P S w0 ops A J D L pl a w) {x:X} (hm:UH P ops A D c=some (D',x)) :
 ∃ J',ai D.st.nv J J'/\x.n=D.st.nv/\x.rel C J J'/\D'.st.nv=D.st.nv+1/\oJ P S w0 ops A J' D' L pl a w:=by
 unfold UH at hm;split at hm
 .rename_i o ho;split at hm
  .rename_i s x' hx;split at hm
   .rename_i hc;cases hm;simp only[aaE]at hc;obtain⟨e,hlate⟩:=hc;rw[aa3]at hlate;obtain⟨J',d,j,l,m,z,i⟩:=Mb (C:=C) hx h.mem;have p:=Dr.Eh e;have b:=p;simp only[St.upto,aaE]at b;refine⟨J',d,j,l,m,⟨h.lsz,z,h.path.agree d b.2,h.size,h.defers,fun t u y=>?_,h.lsub,h.dsub,h.dlt,h.ldone,h.lval,fun f hf q=>?_,h.hid,fun k hk fu=>?_,h.inj,h.closed,h.dclosed⟩⟩
    .rw[TV.agree d u (St.uY b.1.1 y)];exact h.slots t u y
    .exact(h.late f hf q).next e d hf (hlate f hf) rfl (fun _ _ _ hs=>hs) (fun g d=>d) (fun k hk=>hk)
    .obtain⟨o',t',B,E,F,G,H,I,K,M,N,O⟩:=h.early k hk fu;refine⟨o',t',B,E,F,G,H,I,K,M,N,fun r hr hb=>?_⟩;obtain⟨Q,wM,v⟩:=i r hr _ hb;exact O Q wM v
   .cases hm
  .cases hm
 .cases hm
end
section
variable {P:Program} {C:Ctx} {S:Nat->Prop} {w0:World} {J J':Env} {ops:List Oper} {A:List (List Nat)} {D D':Dr} {L:Array Bool} {pl:Nat->Nat} {a:Act} {w w':World}
def lL {s:St} (hA:Rel S w0 J s a w) (h:wg ops s o=true):Region.wanted o (yielded ops.toArray a.tmps)=true:=by
 unfold wg at h;split at h
 .rename_i b;rw[ja hA b];rfl
 .rename_i e want b;have hw:Region.wanted o (yielded ops.toArray a.tmps)=(bh J e==want):=ja hA b;have hk:known s.path e=some want:=by simpa using h
  rw[hw,fW hA.path hk];simp
 .cases h
def oJ.chain (ax:∀ s∈C.Γ,s.OK P) (h:oJ P S w0 ops A J D L pl a w) (hc:nS ops A=true) (hu:Ew ops) (T:c<ops.length) (hd:c∉D.done) (ha:dn ops c=false) (ay:∀ e∈iK ops c,e∈D.done) (hr:∀ e∈iK ops c,L.getD e false=true)
 {R:XR} (hx:C6 P C.Γ ops A D c=some (D',R)) {ms:Nat->Nat} (hn:R.need.holds C ms J) {K:Act->World->Prop} {Q:Exit->Act->World->Prop}
 (hK:∀ J' a' w',ai D.st.nv J J'->(match R.x with | some y=>y.rel C J J'/\y.n=D.st.nv | none=>J'=J)->oJ P S w0 ops A J' D' (L.setIfInBounds c true) pl a' w'->D.st.nv<=D'.st.nv->K a' w'):wpOp P ops.toArray Q c K a w:=by
 unfold C6 at hx;split at hx
 .rename_i o ho;simp only at hx;split at hx
  .rename_i hw;split at hx
   .rename_i R' hR;split at hx
    .rename_i U;cases hx;simp only[aaE,aaB]at U;obtain⟨⟨⟨ag,az⟩,ab⟩,hlate⟩:=U;unfold roB at ab;rw[aa3]at hlate ab;have hL:=h.iP hd ha;have z:=h.DR hc T hr;have V:=hJ hc (p:=fun i=>L.getD i false=true) h.closed c T hr;have M:=kn ho;have aj:=Dr.Eh ag;have W:=aj;simp only[St.upto,aaE]at W
     let E:Nat->Prop:=fun b=>∃ j,L.getD j false=true/\j∉D.done/\pl j=b
     let S':Nat->Prop:=fun b=>(S b\/w0.heap.size<=b)/\¬E b
     have hE:∀ r∈D.st.mem,∀ b,(r.hl J).mem b->¬E b:=by
      rintro r hr b hb ⟨j,F,m,rfl⟩;obtain⟨_,_,_,_,_,_,_,_,_,_,_,h8⟩:=h.early j F m;exact h8 r hr hb
     have ad:Rel S' w J (GV ops A c D.st) a w:=by
      refine⟨⟨La.refl _ _,h.mem.sub,fun r hr ho b hb=>Or.inl ⟨h.mem.own r hr ho b hb,hE r hr b hb⟩,h.mem.bV,h.mem.pos⟩,z.size,z.defers,z.tmp,z.path⟩
     unfold wpOp;have:ops.toArray[c]?=some o:=by simpa using ho
     rw[this];simp only;rw[aaR (lL z hw)];refine Or.inl (zd (Q:=Q) ax ad hR hn (fun J' x w' hg aA G=>?_));have hg:ai D.st.nv J J':=hg;have hag:=Mem.agree hg (St.dt aj);have hs:∀ k,(L.setIfInBounds c true).getD k false=if c=k then true else L.getD k false:=fun k=>kH (by rw[h.lsz];exact T)
     have ak:(a.put o.dst x).tmps.size=a.tmps.size:=by cases o.dst<;>simp [Act.put]
     have hk:=G.fV;have aB:∀ k,k<w0.heap.size->¬S k->¬S' k:=fun k hk hS ae=>ae.1.elim hS (fun h=>ah);have af:∀ j,L.getD j false=true->j∉D.done->w'.heap[pl j]?=w.heap[pl j]?:=by
      intro j F m;obtain⟨_,_,_,_,_,_,_,_,_,h6,_⟩:=h.early j F m;exact hk.block _ (abg.1 h6).1 (fun ae=>ae.2 ⟨j,F,m,rfl⟩)
     have al:MRel S w0 J' R.st.mem w':=by
      refine⟨⟨hk.os.trans h.mem.fV.os,hk.tape.trans h.mem.fV.tape,hk.output.trans h.mem.fV.output,acz h.mem.fV.size hk.size,fun k sj hS=>?_⟩,G.sub,fun r hr ho b hb=>?_,G.bV,G.pos⟩
      .rw[hk.block k (adt sj h.mem.fV.size) (aB k sj hS)];exact h.mem.fV.block k sj hS
      .rcases G.own r hr ho b hb with h1 | h1
       .exact h1.1
       .right;have:=h.mem.fV.size;omega
     have X:∀ t u,(({D.st with mem:=R.st.mem,nv:=R.st.nv} : St).put o.dst (match o.dst with | some d=>R.st.tmps.getD d none | none=>none)).tmps[t]?=some (some u) ->
      (o.dst=some t/\R.st.tmps[t]?=some (some u))\/(o.dst≠some t/\D.st.tmps[t]?=some (some u)):=by
      intro t u l;rw[vZ]at l;split at l
      .rename_i Y;left;refine⟨Y.1,?_⟩;rw[Y.1]at l;simp only[aaF]at l;rw[aaD]at l;cases hq:R.st.tmps[t]? with
       | none=>rw[hq]at l;cases l
       | some q=>rw[hq]at l;simp only[abL]at l;rw[l]
      .rename_i Y;by_cases N:o.dst=some t
       .exfalso;have:t<D.st.tmps.length:=(aaH.1 l).1;exact Y ⟨N,this⟩
       .exact Or.inr ⟨N,l⟩
     have H:∀ t (u:TV),o.dst≠some t->u.upto D.st.nv=true->a.tmps[t]?=some (u.ev J)->(a.put o.dst x).tmps[t]?=some (u.ev J'):=by
      intro t u B aC hv;rw[kl,aaG (fun e=>B e.1),hv,TV.agree hg u aC]
     refine hK J' (a.put o.dst x) w' hg aA ⟨by simp [h.lsz],by rw[St.iA];exact al,by rw[St.Am];exact h.path.agree hg W.2,by rw[jX,ak];exact h.size,by cases o.dst<;>exact h.defers,?_,?_,?_,?_,?_,?_,?_,?_,?_,?_,?_,?_⟩ (by rw[St.DK];exact az)
     .intro t u l;rcases X t u l with ⟨h1,h2⟩ | ⟨B,l⟩
      .right;exact G.tmp t u h2
      .rcases h.slots t u l with ⟨f,hf,I,aD⟩ | hv
       .left;refine⟨f,?_,?_,aD⟩
        .rw[abS];refine⟨hf,?_⟩;simp only[abE];cases O:(A.getD c []).contains f.i with
         | false=>rfl
         | true=>have:=V _ (abW.1 O);rw[I]at this;cases this
        .rw[hs,aaG (show ¬c=f.i from fun e=>hd (e▸h.ldone f hf))];exact I
       .right;exact H t u B (St.uY W.1.1 l) hv
     .intro k hk;rw[hs]at hk;split at hk
      .rename_i e;subst e;exact Or.inl (aa8 ..)
      .exact(h.lsub k hk).imp (aaO _) id
     .intro k hk;rcases aaN.1 hk with rfl | hk
      .left;rw[hs,aaR rfl]
      .rcases h.dsub k hk with h1 | ⟨f,hf,rfl⟩
       .left;rw[hs];split
        .rfl
        .exact h1
       .cases O:(A.getD c []).contains f.i with
        | true =>
         left;rw[hs];split
         .rfl
         .exact V _ (abW.1 O)
        | false=>right;exact⟨f,by rw[abS];exact⟨hf,by rw[O];rfl⟩,rfl⟩
     .intro k hk;rcases aaN.1 hk with rfl | hk
      .exact T
      .exact h.dlt k hk
     .intro f hf;exact aaO _ (h.ldone f (abS.1 hf).1)
     .intro f hf t u an l;have hf:=(abS.1 hf).1;rcases X t u l with ⟨h1,_⟩ | ⟨_,l⟩
      .exact absurd (hu _ _ t an (by rw[M,h1])▸h.ldone f hf) hd
      .exact h.lval f hf t u an l
     .intro f hf I;have aE:=hlate f hf;have hf:=(abS.1 hf).1;have B:c≠f.i:=fun e=>hd (e▸h.ldone f hf);rw[hs,aaG B]at I;refine(h.late f hf I).next ag hg hf (by rw[St.iA];exact aE) (by rw[jX]) (fun t u l aF=>?_) (fun g Z=>(abS.1 Z).1) (fun k hk=>aaO _ hk);rcases aF with ⟨g,Z,ao,aG,aH⟩ | hv
      .left;refine⟨g,?_,?_,aG,aH⟩
       .rw[abS];refine⟨Z,?_⟩;simp only[abE];cases O:(A.getD c []).contains g.i with
        | false=>rfl
        | true=>have:=V _ (abW.1 O);rw[ao]at this;cases this
       .rw[hs,aaG (show ¬c=g.i from fun e=>hd (e▸h.ldone g Z))];exact ao
      .right;have N:o.dst≠some t:=by
        intro N;exact(h.late f hf I).hid c t T (by rw[M,N]) (fun hm=>hd ((h.late f hf I).sub c hm)) u l
       rw[kl,aaG (fun e=>N e.1)];exact hv
     .intro j F m t u aq l;rcases X t u l with ⟨h1,_⟩ | ⟨_,l⟩
      .have:=hu _ _ t aq (by rw[M,h1]);rw[this,ha]at F;cases F
      .exact h.hid j F (fun e=>m (aaO _ e)) t u aq l
     .intro j F m;have v:j∉D.done:=fun e=>m (aaO _ e);have B:c≠j:=fun e=>m (aaN.2 (Or.inl e.symm));rw[hs,aaG B]at F;obtain⟨o',t',z',d',g1,g2,g3,g4,g5,g6,g7,g8⟩:=h.early j F v;refine⟨o',t',z',d',g1,g2,g3,g4,fun ar=>?_,by rw[af j F v];exact g6,g7,fun r hr hm=>?_⟩
      .rw[kl,aaG]
       .exact g5 (by rw[ak]at ar;exact ar)
       .rintro⟨e,_⟩;exact B (hu _ _ d' (by rw[M,e]) (by rw[kn g1,g4]))
      .rw[St.iA]at hr;cases aa:r.own with
       | true =>
        rcases G.own r hr aa _ hm with h1 | h1
        .exact h1.2 ⟨j,F,v,rfl⟩
        .have:=(abg.1 g6).1;omega
       | false =>
        have hb:=ab r hr;cases r with
        | ro k tags any =>
         simp only[List.any_eq_true]at hb;obtain⟨s,au,av⟩:=hb;cases s with
         | ro k' aI aK =>
          have aJ:k=k':=by simpa using av
          subst aJ;have:=(hag _ au).1;simp only[bL.hl]at this hm;rw[this]at hm;exact g8 _ au hm
         | _=>cases av
        | _=>cases aa
     .intro j j' F m aw v;rw[hs,aaG (show ¬c=j from fun e=>m (aaN.2 (Or.inl e.symm)))]at F;rw[hs,aaG (show ¬c=j' from fun e=>v (aaN.2 (Or.inl e.symm)))]at aw;exact h.inj j j' F (fun e=>m (aaO _ e)) aw (fun e=>v (aaO _ e))
     .intro i hi e he;rw[hs];split
      .rfl
      .rw[hs]at hi;split at hi
       .rename_i e1;subst e1;exact hr e he
       .exact h.closed i hi e he
     .intro k hk e he;rcases aaN.1 hk with rfl | hk
      .exact aaO _ (ay e he)
      .exact aaO _ (h.dclosed k hk e he)
    .cases hx
   .cases hx
  .cases hx
 .cases hx
def oJ.other (h:oJ P S w0 ops A J D L pl a w) (hc:nS ops A=true) (hu:Ew ops) (b:∀ j o t,dn ops j=true->ops[j]?=some o->o.op=.alloc t->j∉D.done->∃ z,mD P t=some z)
 (ih:∀ L' m s w',oJ P S w0 ops A J D L' m s w'->Jr ops L'<=g->wpAny P .any ops.toArray Q g L' s w') {i:Nat} (hi:i∈Region.ready .any ops.toArray L) (y:Jr ops L<=g+1) (hk:i∈D.done\/dn ops i=true) :
 wpOp P ops.toArray Q i (wpAny P .any ops.toArray Q g (L.setIfInBounds i true)) a w:=by
 obtain⟨n,e,hr⟩:=(dy h.lsz).1 hi;have v:=uV h.lsz n e;by_cases hd:i∈D.done
 .rcases h.dsub i hd with h1 | ⟨f,hf,rfl⟩
  .rw[e]at h1;cases h1
  .have hl:=h.late f hf e;obtain⟨o,ho,p⟩:=hl.fl;exact Q7 (h.PB hc hf e hr) ho p hl.need fun x hx=>ih _ pl _ _ (h.OC hu hf ho e hr hx) ah
 .have q:=hk.resolve_left hd;obtain⟨o,t,d,ho,c,k,r,_⟩:=qh q;obtain⟨z,u⟩:=b i o t q ho c hd;unfold wpOp;have:ops.toArray[i]?=some o:=by simpa using ho
  rw[this];simp only;rw[aaR (by simp [Region.wanted,r])];refine Or.inl ?_;have l:(execOp a.eval o).run P w=.ok (.value (.pointer (some ⟨w.heap.size,0,none⟩))) (w.alloc (.cells z.cells t)):=by
   unfold execOp;rw[c];simp only[Sem.run_bind,Instr.alloc,lX u,Result.andThen_ok];rfl
  exact fK l (ih _ _ _ _ (h.Le hu q hd e ho c k u) ah)
def find_spec {p:α->Bool} {l:List α} {x:α} (h:l.find? p=some x):x∈l/\p x=true:=⟨acR h,List.find?_some h⟩
def wm {C:Ctx} {ms:Nat->Nat} {J:Env} : ∀ (l:List (Option Nd)) {nd:Nd},Jv l=some nd->nd.holds C ms J->∀ x∈l,∃ a,x=some a/\a.holds C ms J
 | [],_,_,_,x,hx=>by cases hx
 | some a::l,nd,h,hn,x,hx=>by
  simp only[Jv,aaI]at h;obtain⟨b,hb,rfl⟩:=h;rw[fC]at hn;rcases aaN.1 hx with rfl | hx
  .exact⟨a,rfl,hn.1⟩
  .exact wm l hb hn.2 x hx
 | none::_,_,h,_,_,_=>by cases h
def oy {l:List Nat} (h:uS ops A (r::l)=true):r<ops.length/\r∉l/\(∀ i,i<ops.length->i=r\/i∈l\/i∈A.getD r [])/\uS ops A l=true:=by
 unfold uS at h;simp only[aaE,aaB,abE,acj,abu,aa3,abd,ab1,adx]at h;exact⟨h.1.1.1,h.1.1.2,fun i hi=>(h.1.2 i hi).elim (fun h=>h.elim Or.inl fun h=>Or.inr (Or.inl h)) fun h=>Or.inr (Or.inr h),h.2⟩
def GM:∀ {l:List Nat},uS ops A l=true->∀ i∈l,∃ m:List Nat,i<ops.length/\(∀ j,j<ops.length->j=i\/j∈m\/j∈A.getD i [])/\∀ j∈m,j∈l
 | [],_,i,h=>by cases h
 | r::l,h,i,hi=>by
  obtain⟨h1,h2,b,c⟩:=oy h;rcases aaN.1 hi with rfl | hi
  .exact⟨l,h1,b,fun j a=>aaO _ a⟩
  .obtain⟨m,d,e,f⟩:=GM c i hi;exact⟨m,d,e,fun j a=>aaO _ (f j a)⟩
def Jj {l:List Nat} (hc:nS ops A=true) (h:uS ops A (r::l)=true) (g:∀ j,j<ops.length->(L.getD j false=true↔j∉r::l)) (d:∀ i,L.getD i false=true->∀ e∈iK ops i,L.getD e false=true) (hi:i<ops.length) (hn:L.getD i false=false) (hr:∀ e∈iK ops i,L.getD e false=true):i=r:=by
 obtain⟨h1,h2,m,k⟩:=oy h;have c:=hJ hc (p:=fun i=>L.getD i false=true) d i hi hr;have a:i∈r::l:=abT fun hh=>by rw[(g i hi).2 hh]at hn;cases hn
 rcases aaN.1 a with e | a
 .exact e
 .exfalso;have key:∀ {l:List Nat},uS ops A l=true->i∈l->r∉l->r∈A.getD i []:=by
   intro l
   induction l with
   | nil=>intro _ h;cases h
   | cons x l ih =>
    intro h hi b;obtain⟨_,_,k3,k4⟩:=oy h;rcases aaN.1 hi with rfl | hi
    .rcases k3 r h1 with e | e | e
     .exact absurd (e▸aa8 ..) b
     .exact absurd (aaO _ e) b
     .exact e
    .exact ih k4 hi fun h=>b (aaO _ h)
  have f:=c r (key k a h2);exact((g r h1).1 f) (aa8 ..)
def Cs {ex:Ex} (q:∀ s∈C.Γ,s.OK P) (hex:CK P C ex) (hc:nS ops A=true) {d:Nat} {Q:Exit->Act->World->Prop} {k:St->Option Nd} : ∀ (l:List Nat) (st:St) (nd:Nd) (ms:Nat->Nat) (J:Env) (g:Nat) (L:Array Bool) (a:Act) (w:World),
 uS ops A l=true->Sn P C.Γ ex d ops l st k=some nd->nd.holds C ms J->Rel S w0 J st a w->L.size=ops.length->(∀ j,j<ops.length->(L.getD j false=true↔j∉l))->(∀ i,L.getD i false=true->∀ e∈iK ops i,L.getD e false=true)->Jr ops L<=g->Nl S w0 C d ms st.nv J k (Q .normal)->wpAny P .any ops.toArray Q g L a w
 | [],st,nd,ms,J,g,L,a,w,_,h,hn,hA,b,t,p,H,hk=>by
  have F:=hk ms st nd J a w (fun _ _=>rfl) h (ai.refl _ _) hA hn;have n:Region.ready .any ops.toArray L=[]:=by
   rw[adb];intro j f;obtain⟨h1,h2,_⟩:=(dy b).1 f;rw[(t j h1).2 aF]at h2;cases h2
  cases g with
  | zero=>exact⟨n,F⟩
  | succ g=>exact⟨fun _=>F,fun j f=>by rw[n]at f;cases f⟩
 | r::l,st,nd,ms,J,g,L,a,w,G,h,hn,hA,b,t,p,H,hk=>by
  obtain⟨h1,h2,O,I⟩:=oy G;have u:L.getD r false=false:=by
   cases hh:L.getD r false with
   | false=>rfl
   | true=>exact absurd (aa8 ..) ((t r h1).1 hh)
  have K:=uV b h1 u;cases g with
  | zero=>omega
  | succ g =>
   refine⟨fun wM=>?_,fun i hi=>?_⟩
   .exfalso;have:=iU hc b wM r h1;rw[u]at this;cases this
   .obtain⟨v,x,hr⟩:=(dy b).1 hi;have e:=Jj hc G t p v x hr;subst e;unfold Sn at h;split at h
    .rename_i o ho;split at h
     .rename_i hw;unfold wpOp;have:ops.toArray[i]?=some o:=by simpa using ho
      rw[this];simp only;rw[aaR (lL hA hw)];refine Or.inl (nf q hex h hA hn fun ms' st' y J' M N z m zx B D=>?_);simp only at m;split at m
      .rename_i E;refine Cs q hex hc l st' y ms' J' g _ M N I m D B (by rw[acZ];exact b) (fun j f=>?_) (fun j f e he=>?_) ah (hk.gu z zx E)
       .rw[kH (by rw[b];exact h1)];by_cases c:i=j
        .subst c;simp [h2]
        .rw[aaG c,t j f,aaN];constructor
         .exact fun h hh=>h (Or.inr hh)
         .exact fun h hh=>hh.elim (fun e=>c e.symm) h
       .rw[kH (by rw[b];exact h1)]at f ⊢;split
        .rfl
        .by_cases c:i=j
         .subst c;exact hr e he
         .rw[aaG c]at f;exact p j f e he
      .cases m
     .cases h
    .cases h
def yT {ex:Ex} (an:∀ s∈C.Γ,s.OK P) (hex:CK P C ex) (hc:nS ops A=true) (hu:Ew ops) {d:Nat} {Q:Exit->Act->World->Prop} (r:∀ j o t,dn ops j=true->ops[j]?=some o->o.op=.alloc t->∃ z,mD P t=some z) :
 ∀ (m:Nat) (D:Dr) (k:St->Option Nd) (nd:Nd) (ms:Nat->Nat) (J:Env) (g:Nat) (L:Array Bool) (pl:Nat->Nat) (a:Act) (w:World),
  pI P C.Γ ex d ops A m D k=some nd->nd.holds C ms J->oJ P S w0 ops A J D L pl a w->Jr ops L<=g->Nl S w0 C d ms D.st.nv J k (Q .normal)->wpAny P .any ops.toArray Q g L a w
 | 0,D,k,nd,ms,J,g,L,pl,a,w,h,_,_,_,_=>by cases h
 | m+1,D,k,nd,ms,J,g,L,pl,a,w,h,hn,hS,hg,hk=>by
  have IH:=yT (d:=d) (Q:=Q) an hex hc hu r m;unfold pI at h;split at h
  .rename_i i hi;obtain⟨_,hp⟩:=find_spec hi;simp only[aaE,abE,acj,abu,aa3,aaB]at hp;obtain⟨⟨⟨hd,ha⟩,aq⟩,_⟩:=hp;split at h
   .rename_i o ho;simp only at h;split at h
    .rename_i n v hf;simp only[aaI]at h;obtain⟨G,h',rfl⟩:=h;obtain⟨h1,h2⟩:=nH _ _ hn;have hb:bh J n=true:=Bw n fun c aP=>by
      by_cases aH:known D.st.path c=some true
      .exact fW hS.path aH
      .exact h1 c (by unfold FC;rw[abS];exact⟨aP,by simpa using aH⟩)
     exact IH _ k G ms J g L pl a w h' h2 (hS.float hc hu ho hd ha aq hf hb h1) hg (by rw[St.DK];exact hk)
    .cases h
   .cases h
  .split at h
   .rename_i e he;split at h
    .rename_i x y h1 h2;cases h;rw[fC,jg,jg]at hn;cases hb:bh J e with
     | true=>exact IH _ k x ms J g L pl a w h1 (hn.1 hb) (hS.qB (cs:=[e]) (fun c hc=>by rw[aaJ.1 hc];exact hb)) hg hk
     | false =>
      have aI:bh J (mkNot e)=true:=by rw[dv,hb];rfl
      exact IH _ k y ms J g L pl a w h2 (hn.2 aI) (hS.qB (cs:=[mkNot e]) (fun c hc=>by rw[aaJ.1 hc];exact aI)) hg hk
    .cases h
   .
    have ab:∀ L' q E w',oJ P S w0 ops A J D L' q E w'->∀ i∈Region.ready .any ops.toArray L',i∈D.done\/dn ops i=true\/i∈wA ops D:=by
     intro L' q E w' b i hi;obtain⟨N,ar,hr⟩:=(dy b.lsz).1 hi;by_cases hd:i∈D.done
     .exact Or.inl hd
     .cases ha:dn ops i with
      | true=>exact Or.inr (Or.inl rfl)
      | false =>
       right;right;unfold wA;rw[abS];refine⟨abd.2 N,?_⟩;simp only[aaE,abE,acj,abu,aa3,ab1,aaB];exact⟨⟨hd,ha⟩,fun e he=>b.lsub e (hr e he)⟩
    have ad:∀ (j:Nat) (D':Dr) (G:Nd),j∉D.done->(∀ L' q E w',oJ P S w0 ops A J D L' q E w'->L'.getD j false=false->j<ops.length)->ug P ops D j=some D'->pI P C.Γ ex d ops A m D' k=some G ->
     (∀ J',ai D.st.nv J J'->0<=J'.i D.st.nv->G.holds C ms J')->(∀ c∈wA ops D,j∈iK ops c) ->
     ∀ (g:Nat) L' q E w',oJ P S w0 ops A J D L' q E w'->Jr ops L'<=g->wpAny P .any ops.toArray Q g L' E w':=by
     intro j D' G ax aJ himp aK aL aQ g
     induction g with
     | zero =>
      intro L' q E w' b B;cases T:L'.getD j false with
      | true =>
       obtain⟨J',H,h0,W,ae⟩:=b.import hu ax T himp;exact IH D' k G ms J' 0 L' q E w' aK (aL J' H h0) W B (hk.gu (fun _ _=>rfl) H ah)
      | false =>
       exfalso;have:=oD (ado.1 B) (aJ L' q E w' b T);rw[T]at this;cases this
     | succ g K =>
      intro L' q E w' b B;cases T:L'.getD j false with
      | true =>
       obtain⟨J',H,h0,W,ae⟩:=b.import hu ax T himp;exact IH D' k G ms J' (g+1) L' q E w' aK (aL J' H h0) W B (hk.gu (fun _ _=>rfl) H ah)
      | false =>
       refine⟨fun wM=>?_,fun i hi=>?_⟩
       .exfalso;have:=iU hc b.lsz wM j (aJ L' q E w' b T);rw[T]at this;cases this
       .refine b.other hc hu (fun j o t h1 h2 X _=>r j o t h1 h2 X) K hi B ?_;rcases ab L' q E w' b i hi with h1 | h1 | h1
        .exact Or.inl h1
        .exact Or.inr h1
        .exfalso;have:=((dy b.lsz).1 hi).2.2 j (aQ i h1);rw[T]at this;cases this
    split at h
    .rename_i U;split at h
     .rename_i hall;have aB:∀ i,i<ops.length->i∈D.done:=by
       intro i hi;have:=ace.1 hall i (abd.2 hi);simpa using this
      have key:∀ (g:Nat) L' q E w',oJ P S w0 ops A J D L' q E w'->Jr ops L'<=g->wpAny P .any ops.toArray Q g L' E w':=by
       have fin:∀ L' q E w',oJ P S w0 ops A J D L' q E w'->(∀ i,i<ops.length->L'.getD i false=true)->Q .normal E w':=by
        intro L' q E w' b ar;refine hk ms D.st nd J E w' (fun _ _=>rfl) h (ai.refl _ _) ⟨b.mem,b.size,b.defers,fun t u ht=>?_,b.path⟩ hn;rcases b.slots t u ht with ⟨f,hf,aR,_⟩ | hv
        .have:=ar f.i (b.dlt _ (b.ldone f hf));rw[aR]at this;cases this
        .exact hv
       intro g
       induction g with
       | zero =>
        intro L' q E w' b B;have ar:∀ i,i<ops.length->L'.getD i false=true:=fun i hi=>oD (ado.1 B) hi;refine⟨?_,fin L' q E w' b ar⟩;cases hr:Region.ready .any ops.toArray L' with
        | nil=>rfl
        | cons i l =>
         exfalso;obtain⟨N,V,_⟩:=(dy b.lsz).1 (hr▸aa8 .. : i∈Region.ready .any ops.toArray L');rw[ar i N]at V;cases V
       | succ g K =>
        intro L' q E w' b B;refine⟨fun wM=>fin L' q E w' b (iU hc b.lsz wM),fun i hi=>?_⟩;exact b.other hc hu (fun j o t h1 h2 X _=>r j o t h1 h2 X) K hi B (Or.inl (aB i ((dy b.lsz).1 hi).1))
      exact key g L pl a w hS hg
     .rename_i j Y;obtain⟨au,aC⟩:=find_spec Y;split at h
      .rename_i D' himp;simp only[aaI]at h;obtain⟨G,h',rfl⟩:=h;exact ad j D' G (by simpa using aC) (fun _ _ _ _ _ _=>abd.1 au) himp h' (fun J' H h0=>hn J' H h0) (fun c ay=>by rw[U]at ay;cases ay) g L pl a w hS hg
      .cases h
    .rename_i c U;have ay:c∈wA ops D:=by rw[U];exact aa8 ..
     have F:=ay;unfold wA at F;rw[abS]at F;simp only[aaE,abE,acj,abu,aa3,ab1,aaB,abd]at F;obtain⟨I,⟨Z,aa⟩,aY⟩:=F;split at h
     .rename_i j Y;obtain⟨aM,aC⟩:=find_spec Y;have ax:j∉D.done:=by simpa using aC
      split at h
      .rename_i D' himp;simp only[aaI]at h;obtain⟨G,h',rfl⟩:=h;refine ad j D' G ax (fun _ _ _ _ _ _=>adY ((qY hc I).2 j aM) I) himp h' (fun J' H h0=>hn J' H h0) (fun c' F=>?_) g L pl a w hS hg;rw[U,aaJ]at F;rw[F];exact aM
      .cases h
     .rename_i Y;have aq:∀ e∈iK ops c,e∈D.done:=fun e he=>by
       have:=ace.1 Y e he;simpa using this
      split at h
      .rename_i D' x aS;simp only[aaI]at h;obtain⟨G,h',rfl⟩:=h;obtain⟨J',H,aT,aU,ae,W⟩:=hS.merge (C:=C) aS;exact IH D' k G ms J' g L pl a w h' (hn J' (by rw[aT];exact H) aU) W hg (hk.gu (fun _ _=>rfl) H ah)
      split at h
      .rename_i D' R aD;simp only[aaI]at h;obtain⟨G,h',rfl⟩:=h;rw[fC]at hn;have key:∀ (g:Nat) L' q E w',oJ P S w0 ops A J D L' q E w'->Jr ops L'<=g->wpAny P .any ops.toArray Q g L' E w':=by
        intro g
        induction g with
        | zero =>
         intro L' q E w' b B;exfalso;have h1:=oD (ado.1 B) I;rw[b.iP Z aa]at h1;cases h1
        | succ g K =>
         intro L' q E w' b B;refine⟨fun wM=>?_,fun i hi=>?_⟩
         .exfalso;have h1:=iU hc b.lsz wM c I;rw[b.iP Z aa]at h1;cases h1
         .rcases ab L' q E w' b i hi with h1 | h1 | h1
          .exact b.other hc hu (fun j o t h1 h2 X _=>r j o t h1 h2 X) K hi B (Or.inl h1)
          .exact b.other hc hu (fun j o t h1 h2 X _=>r j o t h1 h2 X) K hi B (Or.inr h1)
          .rw[U,aaJ]at h1;subst h1;obtain⟨N,V,hr⟩:=(dy b.lsz).1 hi;have aN:=uV b.lsz N V;refine b.chain (Q:=Q) an hc hu N Z aa aq hr aD hn.1 fun J' a2 w2 H hx W ae=>?_;refine IH D' k G ms J' g _ q a2 w2 h' ?_ W ah (hk.gu (fun _ _=>rfl) H ae);have M:=hn.2;cases av:R.x with
           | none=>rw[av]at M hx;subst hx;exact M
           | some y =>
            rw[av]at M hx;exact M J' (by rw[hx.2];exact H) hx.1
       exact key g L pl a w hS hg
      .split at h
       .rename_i o ho;split at h
        .rename_i O;simp only[aaE]at O;obtain⟨hw,ag⟩:=O;have key:∀ (g:Nat) L' q E w',oJ P S w0 ops A J D L' q E w'->Jr ops L'<=g->wpAny P .any ops.toArray Q g L' E w':=by
          intro g
          induction g with
          | zero =>
           intro L' q E w' b B;exfalso;have h1:=oD (ado.1 B) I;rw[b.iP Z aa]at h1;cases h1
          | succ g K =>
           intro L' q E w' b B;refine⟨fun wM=>?_,fun i hi=>?_⟩
           .exfalso;have h1:=iU hc b.lsz wM c I;rw[b.iP Z aa]at h1;cases h1
           .rcases ab L' q E w' b i hi with h1 | h1 | h1
            .exact b.other hc hu (fun j o t h1 h2 X _=>r j o t h1 h2 X) K hi B (Or.inl h1)
            .exact b.other hc hu (fun j o t h1 h2 X _=>r j o t h1 h2 X) K hi B (Or.inr h1)
            .rw[U,aaJ]at h1;subst h1;obtain⟨N,V,hr⟩:=(dy b.lsz).1 hi;have af:=b.DR hc I hr;have aw:=hJ hc (p:=fun i=>L'.getD i false=true) b.closed i I hr;unfold wpOp;have:ops.toArray[i]?=some o:=by simpa using ho
             rw[this];simp only;rw[aaR (lL af hw)];refine Or.inl (nf an hex h af hn fun ms' st' G J' a2 w2 aE ao zx aF M=>?_);have hq:=hk ms' st' G J' a2 w2 aE ao zx aF M;have hall:∀ j,j<ops.length->(L'.setIfInBounds i true).getD j false=true:=by
              intro j Y;rw[kH (by rw[b.lsz];exact I)];split
              .rfl
              .rename_i aV;unfold SY at ag;rw[aa3]at ag;have:=ag j (abd.2 Y);simp only[ab1,adx]at this;rcases this with h1 | h1
               .exact absurd h1.symm aV
               .exact aw j (by simpa using h1)
             have aO:(L'.setIfInBounds i true).size=ops.length:=by rw[acZ];exact b.lsz
             have aA:Region.ready .any ops.toArray (L'.setIfInBounds i true)=[]:=by
              rw[adb];intro j Y;obtain⟨h1,h2,_⟩:=(dy aO).1 Y;rw[hall j h1]at h2;cases h2
             cases g with
             | zero=>exact⟨aA,hq⟩
             | succ g=>exact⟨fun _=>hq,fun j Y=>by rw[aA]at Y;cases Y⟩
         exact key g L pl a w hS hg
        .split at h
         .rename_i O;simp only[aaE]at O;obtain⟨hw,aW⟩:=O;obtain⟨t1,t2,t3,t4⟩:=oy aW;have key:∀ (g:Nat) L' q E w',oJ P S w0 ops A J D L' q E w'->Jr ops L'<=g->wpAny P .any ops.toArray Q g L' E w':=by
           intro g
           induction g with
           | zero =>
            intro L' q E w' b B;exfalso;have h1:=oD (ado.1 B) I;rw[b.iP Z aa]at h1;cases h1
           | succ g K =>
            intro L' q E w' b B;refine⟨fun wM=>?_,fun i hi=>?_⟩
            .exfalso;have h1:=iU hc b.lsz wM c I;rw[b.iP Z aa]at h1;cases h1
            .rcases ab L' q E w' b i hi with h1 | h1 | h1
             .exact b.other hc hu (fun j o t h1 h2 X _=>r j o t h1 h2 X) K hi B (Or.inl h1)
             .exact b.other hc hu (fun j o t h1 h2 X _=>r j o t h1 h2 X) K hi B (Or.inr h1)
             .rw[U,aaJ]at h1;subst h1;obtain⟨N,V,hr⟩:=(dy b.lsz).1 hi;have af:=b.DR hc I hr;have aw:=hJ hc (p:=fun i=>L'.getD i false=true) b.closed i I hr;have aN:=uV b.lsz N V;unfold wpOp;have:ops.toArray[i]?=some o:=by simpa using ho
              rw[this];simp only;rw[aaR (lL af hw)];refine Or.inl (nf an hex h af hn fun ms' st' G J' a2 w2 aE ao zx aF M=>?_);simp only at ao;split at ao
              .rename_i ae;refine Cs an hex hc _ st' G ms' J' g _ a2 w2 t4 ao M aF (by rw[acZ];exact b.lsz) (fun j Y=>?_) (fun j Y e he=>?_) ah (hk.gu aE zx ae)
               .rw[kH (by rw[b.lsz];exact I)];by_cases aj:i=j
                .subst aj;simp [t2]
                .rw[aaG aj];constructor
                 .intro T au;obtain⟨m,m1,m2,m3⟩:=GM t4 j au;have aX:i∈A.getD j []:=by
                   rcases m2 i I with e | e | e
                   .exact absurd e aj
                   .exact absurd (m3 i e) t2
                   .exact e
                  have:=hJ hc (p:=fun i=>L'.getD i false=true) b.closed j Y (b.closed j T) i aX;rw[V]at this;cases this
                 .intro au;rcases t3 j Y with e | e | e
                  .exact absurd e.symm aj
                  .exact absurd e au
                  .exact aw j e
               .rw[kH (by rw[b.lsz];exact I)]at Y ⊢;split
                .rfl
                .by_cases aj:i=j
                 .subst aj;exact hr e he
                 .rw[aaG aj]at Y;exact b.closed j Y e he
              .cases ao
          exact key g L pl a w hS hg
         .cases h
       .cases h
    .rename_i c1 c2 cs U;split at h
     .rename_i ak;have al:∀ c∈wA ops D,c<ops.length/\c∉D.done/\dn ops c=false:=by
       intro c F;unfold wA at F;rw[abS]at F;simp only[aaE,abE,acj,abu,aa3,ab1,aaB,abd]at F;exact⟨F.1,F.2.1.1,F.2.1.2⟩
      obtain⟨k1,k2,k3⟩:=al c1 (by rw[U];exact aa8 ..);have key:∀ (g:Nat) L' q E w',oJ P S w0 ops A J D L' q E w'->Jr ops L'<=g->wpAny P .any ops.toArray Q g L' E w':=by
       intro g
       induction g with
       | zero =>
        intro L' q E w' b B;exfalso;have h1:=oD (ado.1 B) k1;rw[b.iP k2 k3]at h1;cases h1
       | succ g K =>
        intro L' q E w' b B;refine⟨fun wM=>?_,fun i hi=>?_⟩
        .exfalso;have h1:=iU hc b.lsz wM c1 k1;rw[b.iP k2 k3]at h1;cases h1
        .rcases ab L' q E w' b i hi with h1 | h1 | h1
         .exact b.other hc hu (fun j o t h1 h2 X _=>r j o t h1 h2 X) K hi B (Or.inl h1)
         .exact b.other hc hu (fun j o t h1 h2 X _=>r j o t h1 h2 X) K hi B (Or.inr h1)
         .obtain⟨_,Z,aa⟩:=al i h1;rw[U]at h1;obtain⟨aZ,az,aG⟩:=wm _ h hn _ (abb.2 ⟨i,h1,rfl⟩);rw[aa3]at ak;have aq:∀ e∈iK ops i,e∈D.done:=fun e he=>by
           have:=ak i h1;rw[aa3]at this;simpa using this e he
          split at az
          .rename_i D' R aD;simp only[aaI]at az;obtain⟨G,h',rfl⟩:=az;rw[fC]at aG;obtain⟨N,V,hr⟩:=(dy b.lsz).1 hi;have aN:=uV b.lsz N V;refine b.chain (Q:=Q) an hc hu N Z aa aq hr aD aG.1 fun J' a2 w2 H hx W ae=>?_;refine IH D' k G ms J' g _ q a2 w2 h' ?_ W ah (hk.gu (fun _ _=>rfl) H ae);have M:=aG.2;cases av:R.x with
           | none=>rw[av]at M hx;subst hx;exact M
           | some y =>
            rw[av]at M hx;exact M J' (by rw[hx.2];exact H) hx.1
          .cases az
      exact key g L pl a w hS hg
     .cases h
def Fh {st:St} (h:(mi ops st).tmps[t]?=some (some u)):st.tmps[t]?=some (some u)/\∀ j,dn ops j=true->fZ ops j≠some t:=by
 unfold mi at h;simp only[o9,aaI]at h;obtain⟨v,hv,he⟩:=h;split at he
 .cases he
 split at he
 .cases he
 .rename_i hc;cases he;refine⟨hv,fun j a hd=>hc ?_⟩;rw[abW,List.mem_filterMap];exact⟨j,abd.2 (yU hd),by rw[aaR a];exact hd⟩
def NR (m:∀ s∈C.Γ,s.OK P):QC P C (dk P C.Γ):=by
 intro ex hex d ops st k nd ms S w0 J a w id Q h hA hn hk;unfold dk at h;simp only at h;split at h
 .rename_i b;simp only[aaE]at b;obtain⟨⟨⟨hc,n⟩,hm⟩,f⟩:=b;have hu:=K3 n;refine wp_region_any hm ?_;have p:ops.toArray.size=ops.length:=by simp
  rw[p];have l:∀ i,(Array.replicate ops.length false).getD i false=false:=fun i=>by
   by_cases hi:i<ops.length
   .simp [hi]
   .simp [hi]
  have g:RowKit.Below w.heap.size w {w with drawn:=w.drawn+1}:=(RowKit.Below.refl _ w).drew;have q:MRel S w0 J st.mem {w with drawn:=w.drawn+1}:=hA.toMRel.below g;have E:∀ j o t,dn ops j=true->ops[j]?=some o->o.op=.alloc t->∃ z,mD P t=some z:=by
   intro j o t _ ho r;unfold Qw at f;rw[aa3]at f;have:=f o (aaA ho);rw[r]at this;exact abw.1 this
  .refine yT (d:=d) m hex hc hu E _ ⟨mi ops st,[],[]⟩ _ nd ms J ops.length _ (fun _=>0) a _ h hn ⟨aF,q,hA.path,?_,hA.defers,?_,?_,?_,?_,?_,?_,?_,?_,?_,?_,?_,?_⟩ ?_ ?_
   .rw[hA.size];simp [mi]
   .intro t u v;exact Or.inr (hA.tmp t u (Fh v).1)
   .intro i hi;rw[l]at hi;cases hi
   .intro i hi;cases hi
   .intro i hi;cases hi
   .intro i hi;cases hi
   .intro i hi;cases hi
   .intro i hi;cases hi
   .intro j c _ t u x v;exact(Fh v).2 j c x
   .intro j c;rw[l]at c;cases c
   .intro j j' c;rw[l]at c;cases c
   .intro j c;rw[l]at c;cases c
   .intro i hi;cases hi
   .unfold Jr;exact acz List.countP_le_length aF
   .intro ms' st' y J' F w' A e G B D;simp only at e;split at e
    .exact hk ms' st' y J' F w' A e G B D
    .cases e
 .cases h
end
def Dm {k:Nat} : ∀ {l:List Hl},(di l).mem k↔∃ H∈l,H.mem k
 | []=>by simp [di,Hl.mem,Hl.none]
 | a::l=>by
  show(a.un (di l)).mem k↔_;rw[Hl.fm,Dm];simp
def xY {w:World} : ∀ {l:List Hl},(∀ H∈l,H.sub w)->(di l).sub w
 | [],_=>fun _ _ h=>by cases h
 | a::l,h=>Hl.Jq (h a aF) (xY fun H b=>h H (by simp [b]))
def Hl.OD {a b:Hl} {w:World} (h:a.le b) (hs:b.sub w):a.sub w:=fun k o hk=>hs k o (h k o hk)
variable {A B F R a h:Hl}
def Hl.fv {b:Hl} (h:a.le b) {k:Nat} (hk:a.mem k):b.mem k:=by
 unfold Hl.mem at hk ⊢;obtain⟨o,ho⟩:=abw.1 hk;rw[h k o ho];rfl
def Hl.le_refl (a:Hl):a.le a:=fun _ _ h=>h
def Hl.bm (a b:Hl):a.le (a.un b):=fun k o h=>by unfold Hl.un;rw[h];rfl
def Hl.bK {b:Hl} (d:a.bV b):b.le (a.un b):=fun k o h=>by
 unfold Hl.un;cases c:a k with
 | some x=>exact absurd ⟨by unfold Hl.mem;rw[c];rfl,by unfold Hl.mem;rw[h];rfl⟩ (d k)
 | none=>exact h
def Hl.tB {b:Hl} {k:Nat} {o:Obj} (h:a k=some o):(a.un b) k=some o:=by unfold Hl.un;rw[h];rfl
def Hl.qU {b:Hl} {k:Nat} (h:¬a.mem k):(a.un b) k=b k:=by
 unfold Hl.un;cases c:a k with
 | some x=>exact absurd (by unfold Hl.mem;rw[c];rfl) h
 | none=>rfl
def Hl.yS {b c:Hl} (h1:a.bV b) (h2:a.bV c):a.bV (b.un c):=fun k ⟨x,y⟩=>by
 rcases Hl.fm.1 y with y | y
 .exact h1 k ⟨x,y⟩
 .exact h2 k ⟨x,y⟩
def Hl.yR {b c:Hl} (h:a.bV b) (hc:c.le b):a.bV c:=fun k ⟨x,y⟩=>h k ⟨x,Hl.fv hc y⟩
def Hl.EW (a:Hl):a.bV Hl.none:=fun k ⟨_,y⟩=>by simp [Hl.mem,Hl.none]at y
def Hl.gJ {o:Obj} : (Hl.one b o).bV h↔¬h.mem b:=by
 constructor
 .exact fun d hb=>d b ⟨Hl.dJ.2 rfl,hb⟩
 .exact fun d k ⟨x,y⟩=>by rw[Hl.dJ]at x;subst x;exact d y
def Hl.ng (a:Hl):a.un Hl.none=a:=by
 funext k;unfold Hl.un Hl.none;cases a k<;>rfl
def aN (a:Hl):di [a]=a:=Hl.ng a
def qG (J:Env) (mem:Mem) (p:Nat):Hl:=match mem[p]? with
 | some r=>r.hl J
 | none=>Hl.none
def xA (J:Env) (mem:Mem) (f:List Nat):Hl:=di (f.map (qG J mem))
def Kp (mem:Mem) (gs:List (List Nat)) (f:List Nat):Bool :=
 ((gs.flatten++f).all fun p=>match mem[p]? with | some r=>r.own | none=>false)&&decide (gs.flatten++f).Nodup
section
variable {P:Program} {J:Env} {mem:Mem} {w w':World} {Hs Rs:List Hl}
def Eg : (xA J mem f).mem b↔∃ p∈f,(qG J mem p).mem b:=by
 unfold xA;rw[Dm];constructor
 .rintro⟨H,a,hb⟩;obtain⟨p,hp,rfl⟩:=abb.1 a;exact⟨p,hp,hb⟩
 .rintro⟨p,hp,hb⟩;exact⟨_,abb.2 ⟨p,hp,rfl⟩,hb⟩
def K0 (hd:∀ (p q:Nat) r s,p≠q->mem[p]?=some r->mem[q]?=some s->r.own=true->(r.hl J).bV (s.hl J)) {g:List Nat}
 (hf:∀ p∈f,∃ r,mem[p]?=some r/\r.own=true) (d:∀ p∈g,∃ r,mem[p]?=some r/\r.own=true) (a:∀ p∈f,∀ q∈g,p≠q):(xA J mem f).bV (xA J mem g):=by
 intro b ⟨h1,h2⟩;obtain⟨p,hp,h1⟩:=Eg.1 h1;obtain⟨q,c,h2⟩:=Eg.1 h2;obtain⟨r,hr,ho⟩:=hf p hp;obtain⟨s,hs,_⟩:=d q c;unfold qG at h1 h2;rw[hr]at h1;rw[hs]at h2;exact hd p q r s (a p hp q c) hr hs ho b ⟨h1,h2⟩
def yw.of (hm:MRel (fun b=>∃ H∈Hs,H.mem b) w J mem w') {gs:List (List Nat)} (hl:gs.length=Hs.length) (hok:Kp mem gs f=true) :
 yw w w' Hs (gs.map (xA J mem)) (xA J mem f):=by
 unfold Kp at hok;rw[aaE,aaB]at hok;obtain⟨hall,n⟩:=hok;have i:∀ p∈gs.flatten++f,∃ r,mem[p]?=some r/\r.own=true:=by
  intro p hp;have:=aa3.1 hall p hp;split at this
  .rename_i r hr;exact⟨r,hr,this⟩
  .cases this
 have m:∀ g∈gs,∀ p∈g,∃ r,mem[p]?=some r/\r.own=true:=fun g m p hp=>i p (ab0 _ (adi.2 ⟨g,m,hp⟩));have hf:∀ p∈f,∃ r,mem[p]?=some r/\r.own=true:=fun p hp=>i p (abO _ hp);have hsub:∀ l:List Nat,(∀ p∈l,∃ r,mem[p]?=some r/\r.own=true)->(xA J mem l).sub w':=by
  intro l hl;refine xY fun H d=>?_;obtain⟨p,hp,rfl⟩:=abb.1 d;obtain⟨r,hr,_⟩:=hl p hp;unfold qG;rw[hr];exact hm.sub r (aaA hr)
 have j:∀ l:List Nat,(∀ p∈l,∃ r,mem[p]?=some r/\r.own=true)->∀ b,(xA J mem l).mem b->(∃ K∈Hs,K.mem b)\/w.heap.size<=b:=by
  intro l hl b hb;obtain⟨p,hp,hb⟩:=Eg.1 hb;obtain⟨r,hr,ho⟩:=hl p hp;unfold qG at hb;rw[hr]at hb;exact hm.own r (aaA hr) ho b hb
 rw[List.nodup_append]at n;obtain⟨v,D,z⟩:=n;have k:gs.flatten.Pairwise (·≠·):=v;rw[List.pairwise_flatten]at k;refine⟨hm.fV.os,hm.fV.tape,hm.fV.output,hm.fV.size,fun b hb hn=>hm.fV.block b hb (fun⟨H,d,A⟩=>hn H d A),by simp [hl],?_,hsub f hf,?_,j f hf,?_,?_⟩
 .intro H d;obtain⟨g,c,rfl⟩:=abb.1 d;exact hsub g (m g c)
 .intro H d;obtain⟨g,c,rfl⟩:=abb.1 d;exact j g (m g c)
 .intro p q H K B d hK;rw[aaL,aaI]at d hK;obtain⟨a,C,rfl⟩:=d;obtain⟨b,hb,rfl⟩:=hK;refine K0 hm.bV (m a (aaA C)) (m b (aaA hb)) ?_;have o:=acS.1 k.2;obtain⟨hp,s⟩:=aaH.1 C;obtain⟨u,t⟩:=aaH.1 hb;rcases Nat.lt_or_gt_of_ne B with h | h
  .have:=o p q hp u h;rw[s,t]at this;exact this
  .have:=o q p u hp h;rw[s,t]at this;exact fun x hx y E e=>this y E x hx e.symm
 .intro H d;obtain⟨g,c,rfl⟩:=abb.1 d;exact K0 hm.bV (m g c) hf fun p hp q u=>z p (adi.2 ⟨g,c,hp⟩) q u
structure Entry (J:Env) (mem:Mem) (Hs Rs:List Hl):Prop where
 own:∀ r∈mem,r.own=true->∃ H∈Hs,(r.hl J).le H
 ro:∀ r∈mem,r.own=false->∃ R∈Rs,(r.hl J).le R
 bV:mem.Pairwise fun r s=>r.own=true->s.own=true->(r.hl J).bV (s.hl J)
 pos:∀ r∈mem,r.pos J
def Entry.W2 (h:Entry J mem Hs Rs) (h1:∀ H∈Hs,H.sub w) (h2:∀ R∈Rs,R.sub w) (m:∀ H∈Hs,∀ R∈Rs,H.bV R):MRel (fun b=>∃ H∈Hs,H.mem b) w J mem w:=by
 refine⟨La.refl _ _,fun r hr=>?_,fun r hr ho b hb=>?_,fun p q r s k hp l ho=>?_,h.pos⟩
 .cases ho:r.own with
  | true=>obtain⟨H,a,hle⟩:=h.own r hr ho;exact Hl.OD hle (h1 H a)
  | false=>obtain⟨H,a,hle⟩:=h.ro r hr ho;exact Hl.OD hle (h2 H a)
 .obtain⟨H,a,hle⟩:=h.own r hr ho;exact Or.inl ⟨H,a,Hl.fv hle hb⟩
 .cases hs:s.own with
  | true =>
   have d:=acS.1 h.bV;obtain⟨e,f⟩:=aaH.1 hp;obtain⟨g,i⟩:=aaH.1 l;rcases Nat.lt_or_gt_of_ne k with c | c
   .have:=d p q e g c;rw[f,i]at this;exact this ho hs
   .have:=d q p g e c;rw[f,i]at this;exact Hl.jv (this hs ho)
  | false =>
   obtain⟨H,a,hle⟩:=h.own r (aaA hp) ho;obtain⟨R,n,j⟩:=h.ro s (aaA l) hs;exact Hl.jv (Hl.yR (Hl.jv (Hl.yR (m H a R n) j)) hle)
def postOf (s:Spec) (xs:List Value) (Hs Rs:List Hl):Env->Mem->TV->Prop:=fun J mem r =>
 (∀ (p q:Nat) r s,p≠q->mem[p]?=some r->mem[q]?=some s->r.own=true->(r.hl J).bV (s.hl J))->∃ gs f,gs.length=Hs.length/\Kp mem gs f=true/\(∃ a,r.ev J=(kS 0 s.res).ev a/\ft 0 s.res a)/\s.post xs Hs Rs (r.ev J) (gs.map (xA J mem)) (xA J mem f)
structure aG (P:Program) (Γ:List Spec) (f:FuncId) where
 Λ:r8
 lim:Nat:=100
 fuel:Nat:=400
 args:List TV
 mem:Mem
 nv:Nat
 path:List E:=[]
def aG.V {Γ:List Spec} {f:FuncId} (W:aG P Γ f):Option Nd:=Wy P Γ (dk P Γ) W.Λ W.lim W.fuel f W.args W.mem W.nv W.path
@[irreducible] def aG.DF {Γ:List Spec} {f:FuncId} (W:aG P Γ f) (C:Ctx) (ms:Nat->Nat) (J:Env):Prop:=∃ nd,W.V=some nd/\nd.holds C ms J
def Spec.aV {s:Spec} {Γ:List Spec} (a:∀ t∈Γ,t.OK P)
 (h:∀ xs Hs Rs,Hs.length=s.own.length->Rs.length=s.rd.length->s.pre xs Hs Rs->∃ (W:aG P Γ s.fn) (J:Env) (inv:Nat->Env->Prop) (mu:Nat->Env->Nat),
  W.args.map (TV.ev J)=xs/\Entry J W.mem Hs Rs/\Path J W.path/\W.DF ⟨Γ,inv,mu,postOf s xs Hs Rs⟩ (fun _=>0) J):s.OK P:=by
 intro w xs Hs Rs d g i j n k b;obtain⟨W,J,inv,mu,hx,o,hp,hn⟩:=h xs Hs Rs d g b;unfold aG.DF at hn;obtain⟨nd,p,hn⟩:=hn;have hm:=o.W2 i j k;have:=zn (C:=⟨Γ,inv,mu,postOf s xs Hs Rs⟩) a (NR (C:=⟨Γ,inv,mu,postOf s xs Hs Rs⟩) a) p hm hp hn;rw[hx]at this;refine this.mono ?_;rintro e w' ⟨J',mem',r,rfl,u,c,l⟩;obtain⟨gs,f,hl,hok,⟨m,h2,q⟩,hpost⟩:=l c.bV;refine⟨m,gs.map (xA J' mem'),xA J' mem' f,by rw[h2],q,yw.of c hl hok,?_⟩;rw[<-h2];exact hpost
end
def aM (l:List Int):List Value:=l.map (Value.int .u8)
def cw (l:List Int):(aM l).length=l.length:=aaT _
def fT (l:List Int) (j:Nat):(aM l)[j]?=(l[j]?).map (Value.int .u8):=aaL
def ia (a b:List Int):aM (a++b)=aM a++aM b:=aba
def ly {a b:List Int} (h:aM a=aM b):a=b:=by
 apply aa2;intro j;have:=aa1 (fun l=>l[j]?) h;simp only[fT]at this;cases c:a[j]?<;>cases hb:b[j]?<;>simp [c,hb]at this ⊢
 exact this
def oI (R:Hl) (v:Value) (bs:List Int):Prop :=
 ∃ (x y:Int) (c:Nat),v=.slice (az x y) bs.length c/\0<=y/\((x= -1/\bs=[])\/(0<=x/\∀ j z,bs[j]?=some z->R.cell x.toNat (y.toNat+j)=some (.int .u8 z)))
def lI {x' y':Int} (h0:-1<=x) (c:0<=y) (h1:-1<=x') (b:0<=y') (h:az x y=az x' y'):x=x'/\(0<=x->y=y'):=by
 rcases abQ x 0 with hx | hx
 .have e:x= -1:=ah;subst e;rw[fx]at h;rcases abQ x' 0 with a | a
  .exact⟨ah,fun h=>ah⟩
  .rw[au a]at h;cases h
 .rcases abQ x' 0 with a | a
  .have e:x'= -1:=ah;subst e;rw[fx,au hx]at h;cases h
  .rw[au hx,au a]at h;simp only[aaF,Addr.mk.injEq,aaP]at h;exact⟨ah,fun _=>ah⟩
def oI.uniq {a b:List Int} (h1:oI R v a) (h2:oI R v b):a=b:=by
 obtain⟨x,y,c,rfl,l,h1⟩:=h1;obtain⟨x',y',c',he,d,h2⟩:=h2;simp only[Value.slice.injEq]at he;obtain⟨hp,hl,_⟩:=he;have hx:-1<=x:=by rcases h1 with ⟨rfl,_⟩ | ⟨h,_⟩<;>omega
 have e:-1<=x':=by rcases h2 with ⟨rfl,_⟩ | ⟨h,_⟩<;>omega
 obtain⟨rfl,f⟩:=lI hx l e d hp;rcases h1 with ⟨rfl,rfl⟩ | ⟨h0,h1⟩
 .rw[abt]at hl;exact(aaz.1 hl.symm).symm
 .have:=f h0;subst this;rcases h2 with ⟨rfl,_⟩ | ⟨_,h2⟩
  .omega
  .apply aa2;intro j;cases g:a[j]? with
   | some z =>
    have k:j<b.length:=by have:=(aaH.1 g).1;omega
    have e1:=h1 j z g;have i:=h2 j _ (aax k);rw[e1]at i;simp only[aaF,Value.int.injEq,abk]at i;rw[aax k,i]
   | none =>
    have:a.length<=j:=List.getElem?_eq_none_iff.1 g;rw[aaK ah]
def fL (R:Hl) (v:Value) (bs:List Int):Prop :=
 ∃ (x y:Int) (c:Nat),v=.slice (az x y) bs.length c/\0<=y/\(bs=[]\/(0<=x/\∀ j z,bs[j]?=some z->R.cell x.toNat (y.toNat+j)=some (.int .u8 z)))
def oI.w (h:oI R v bs):fL R v bs:=by
 obtain⟨x,y,c,hv,a,h⟩:=h;exact⟨x,y,c,hv,a,h.imp (·.2) id⟩
def fL.uniq {a b:List Int} (h1:fL R v a) (h2:fL R v b):a=b:=by
 obtain⟨x,y,c,rfl,f,h1⟩:=h1;obtain⟨x',y',c',he,d,h2⟩:=h2;have hl:a.length=b.length:=by simp only[Value.slice.injEq]at he;exact he.2.1
 rcases h1 with rfl | ⟨h0,h1⟩
 .exact(aaz.1 hl.symm).symm
 .rcases h2 with rfl | ⟨e,h2⟩
  .exact aaz.1 hl
  .refine oI.uniq (R:=R) (v:=.slice (az x y) a.length c) ⟨x,y,c,rfl,f,Or.inr ⟨h0,h1⟩⟩ ⟨x',y',c',he,d,Or.inr ⟨e,h2⟩⟩
def bZ (F:Hl) (e:TypeId) (v:Value) (bs:List Int):Prop:=aP F e 1 v bs.length (aM bs)
def bZ.rd (h:bZ F e v bs):oI F v bs:=by
 obtain⟨hl,h⟩:=h;rcases h with ⟨rfl,hn⟩ | ⟨g,cap,cur,rfl,b,hle,hm,hs,c⟩
 .exact⟨-1,0,0,by rw[fx,hn],ah,Or.inl ⟨rfl,aaz.1 hn⟩⟩
 .refine⟨g,0,cap,by rw[au ah];simp,ah,Or.inr ⟨ah,fun j z a=>?_⟩⟩;have d:=(aaH.1 a).1;simp only[aar,Hl.cell,b,acT,aa6];have e1:(cur.toList.take (bs.length*1))[j]?=some (.int .u8 z):=by rw[c,fT,a];rfl
  rw[abx ah,acK]at e1;exact e1
def oI.at {l c:Int} (h:oI R (.slice (az x y) l.toNat c.toNat) bs) (hx:-1<=x) (e:0<=y) (hl:0<=l) :
 l=bs.length/\((x= -1/\bs=[])\/(0<=x/\∀ j z,bs[j]?=some z->R.cell x.toNat (y.toNat+j)=some (.int .u8 z))):=by
 obtain⟨x',y',c',he,a,h⟩:=h;simp only[Value.slice.injEq]at he;obtain⟨hp,he,_⟩:=he;have b:-1<=x':=by rcases h with ⟨rfl,_⟩ | ⟨h,_⟩<;>omega
 obtain⟨rfl,d⟩:=lI hx e b a hp;refine⟨ah,?_⟩;rcases h with h | ⟨h0,h⟩
 .exact Or.inl h
 .have:=d h0;subst this;exact Or.inr ⟨h0,h⟩
def df {x y:Nat} (h:∀ j z,bs[j]?=some z->R.cell x (y+j)=some (.int .u8 z)) (hn:n<=bs.length):bM R x y n=true:=by
 unfold bM;rw[aa3];intro j a;have a:=abd.1 a;rw[h j _ (aax ah)];simp [bz]
def oQ {x y:Nat} (h:∀ j z,bs[j]?=some z->R.cell x (y+j)=some (.int .u8 z)):fU R x y bs.length=bs:=by
 unfold fU;apply aa2;intro j;rw[aaL];rcases abn j bs.length with a | a
 .rw[aaZ a,abe,h j _ (aax a),aax a];rfl
 .rw[aaK (by simpa using a),aaK a];rfl
def bZ.shape {l c:Int} (h:bZ F e (.slice (az x y) l.toNat c.toNat) bs):(x= -1\/(0<=x/\y.toNat=0))\/x< -1:=by
 obtain⟨hl,h⟩:=h;rcases abQ x (-1)with hx | hx
 .exact Or.inr hx
 .refine Or.inl ?_;rcases h with ⟨h,hn⟩ | ⟨g,cap,cur,h,a,hle,hm,hs,b⟩
  .rcases abQ x 0 with h0 | h0
   .exact Or.inl ah
   .rw[au h0]at h;cases h
  .rcases abQ x 0 with h0 | h0
   .exact Or.inl ah
   .rw[au h0]at h;simp only[Value.slice.injEq,aaF,Addr.mk.injEq]at h;exact Or.inr ⟨h0,h.1.2.1⟩
def im {J:Env} {h:Nat} {x y:E} : ∀ (n j:Nat) (bs:List Int),bs.length=n->(∀ i z,bs[i]?=some z->(J.h h).cell (aB J x).toNat ((aB J y).toNat+(j+i))=some (.int .u8 z))->(aY h x y j (List.replicate n (Kd.int .u8))).map (CV.ev J)=aM bs
 | 0,_,bs,hl,_=>by rw[aaz.1 hl];rfl
 | n+1,j,bs,hl,hc=>by
  cases bs with
  | nil=>cases hl
  | cons b bs =>
   rw[adp];simp only[aY,aaY,aM,aaY]
   congr 1
   .have:=hc 0 b rfl;rw[abj]at this;simp only[uI,CV.ev,fh,this,cf]
   .refine im n (j+1) bs (by simpa using hl) fun i z a=>?_;have:=hc (i+1) z (by simpa using a);rwa[show j+(i+1)=j+1+i by omega]at this
def wrap_i64 {n:Int} (h0:-9223372036854775808<=n) (h1:n<=9223372036854775807):IntKind.i64.wrap n=n:=by rw[IntKind.wrap_i64];omega
def Hl.DC (b y:Nat) (c:Array Value) (T:TypeId) (fr:Nat×Nat) (vs:List Value):(Hl.one b (.cells c T fr)).put b y vs=Hl.one b (.cells (br c.toList y vs).toArray T fr):=by
 funext k
 unfold Hl.put;rw[Hl.aU];unfold Hl.one;split<;>rfl
def Hl.sY (b:Nat) (o o':Obj):(Hl.one b o).setObj b o'=Hl.one b o':=by
 funext k;unfold Hl.setObj Hl.one;split<;>simp_all
def Hl.one_cell (b:Nat) (c:Array Value) (T:TypeId) (fr:Nat×Nat) (y:Nat):(Hl.one b (.cells c T fr)).cell b y=c[y]?:=by
 unfold Hl.cell;rw[Hl.aU]
def Hl.DD (b:Nat) (c:Array Value) (T:TypeId) (y n:Nat) (h:y+n<=c.size):(Hl.one b (.cells c T (0,0))).wr b y n=true:=by
 unfold Hl.wr;rw[Hl.aU];simp [h]
def sF {l m:List α} {o:Nat} (h:o+m.length<=l.length):(br l o m).length=l.length:=by
 unfold br;simp only[aay,aaU,aa7];omega
def Jc (l m:List Int) (o:Nat):br (aM l) o (aM m)=aM (br l o m):=by
 unfold br;rw[ia,ia,cw];unfold aM;rw[ac0,adl]
def jW {l m:List α} {o:Nat} (h:o+m.length<=l.length):(br l o m)[j]?=if o<=j/\j<o+m.length then m[j-o]? else l[j]?:=by
 unfold br;by_cases h1:j<o
 .rw[aaG ah,aaV,aa0 (by rw[aaU];omega),abx h1]
 .by_cases h2:j<o+m.length
  .rw[aaR ⟨ah,h2⟩,aaV,aaQ (by rw[aaU];omega),aaU,adK ah,aa0 ah]
  .rw[aaG ah,aaQ (by rw[aay,aaU];omega),aay,aaU,adK ah,aa9]
   congr 1;omega
def Dl {C:Hl} (h1:A.bV B) (h2:A.bV C) (b:B.bV C):A.le (di [A,B,C])/\B.le (di [A,B,C])/\C.le (di [A,B,C]):=by
 show A.le (A.un (B.un (C.un Hl.none)))/\B.le (A.un (B.un (C.un Hl.none)))/\C.le (A.un (B.un (C.un Hl.none)));rw[Hl.ng];have a:A.bV (B.un C):=Hl.yS h1 h2;refine⟨Hl.bm _ _,fun k o h=>Hl.bK a k o (Hl.bm _ _ k o h),fun k o h=>Hl.bK a k o (Hl.bK b k o h)⟩
def Hl.jh {a:Nat} {o p:Obj} (h:a≠b):(Hl.one a o).bV (Hl.one b p):=Hl.gJ.2 fun hb=>h (Hl.dJ.1 hb)
def iI (k:IntKind) (es:Array MapEntry) (l:List (Int×Value)):Prop:=es.toList.map (fun e=>(e.key,e.val))=l.map fun p=>(Value.int k p.1,p.2)
def gX (i:Int):List (Int×Value)->Nat->Option (Nat×Value)
 | [],_=>none
 | p::l,n=>if i=p.1 then some (n,p.2)else gX i l (n+1)
def wG {k:IntKind} {i:Int} : ∀ (es:List MapEntry) (l:List (Int×Value)) (n:Nat),es.map (fun e=>(e.key,e.val))=l.map (fun p=>(Value.int k p.1,p.2))->Instr.findNow (.int k) (.int k i) es n=some (gX i l n)
 | [],[],_,_=>rfl
 | [],_::_,_,h=>by cases h
 | _::_,[],_,h=>by cases h
 | e::es,p::l,n,h=>by
  simp only[aaY,aaC,abl]at h;obtain⟨⟨hk,hv⟩,h⟩:=h;unfold Instr.findNow gX;rw[hk];simp only[Instr.sameNow,ab6];by_cases hi:i=p.1
  .simp [hi,hv]
  .have:(i==p.1)=false:=by simp [hi]
   simp only[this,aaG hi];exact wG es l (n+1) h
def je (h:iI k es l) (i:Int):mY (.int k) (.int k i) es=some (gX i l 0):=wG _ _ 0 h
def zQ {i:Int} : ∀ {l:List (Int×Value)} {n:Nat},gX i l n=none↔∀ p∈l,p.1≠i
 | [],_=>by simp [gX]
 | p::l,n=>by
  unfold gX;by_cases hi:i=p.1
  .simp [hi]
  .rw[aaG hi,zQ];simp only[aaN,forall_eq_or_imp];exact⟨fun h=>⟨fun e=>hi e.symm,h⟩,fun h=>h.2⟩
def zR {i:Int} : ∀ {l:List (Int×Value)} {n j:Nat} {v:Value},gX i l n=some (j,v)->n<=j/\l[j-n]?=some (i,v)
 | [],_,_,_,h=>by cases h
 | p::l,n,j,v,h=>by
  unfold gX at h;split at h
  .rename_i e;cases h;exact⟨aaS _,by rw[adG,e];rfl⟩
  .obtain⟨h1,h2⟩:=zR h;exact⟨ah,by rw[show j-n=(j-(n+1))+1 by omega];exact h2⟩
def iI.size (h:iI k es l):es.size=l.length:=by
 have:=aa1 List.length h;simpa using this
def gI (q:Env) (n:Nat):newHs q n 0=[]:=rfl
def iz (q:Env) (n:Nat):newHs q n 1=[q.h n]:=by unfold newHs;rw[List.range_one];rfl
def jD {a:α} {l:List α} : (a::l≠[])=True:=by simp
def aC:r8:=fun _=>none
def ui (ins:List Cp) (q:Env):List Value:=(cA 0 ins).map (SV.ev q)
def j9 (n:Nat) (J:Env):Ck->Prop
 | .ptr=>True/\0<=J.i (n+1)
 | .sl=>True/\0<=J.i (n+1)/\0<=J.i (n+2)/\0<=J.i (n+3)
 | .slw=>True/\0<=J.i (n+1)/\0<=J.i (n+2)/\0<=J.i (n+3)
 | _=>True
def bR:Nat->List Ck->Env->Prop
 | _,[],_=>True
 | n,k::l,J=>j9 n J k/\bR (n+k.len) l J
def JG (n:Nat) (J:Env):Cp->Prop
 | .one k=>j9 n J k
 | .agg ks=>bR n ks J
def mf:Nat->List Cp->Env->Prop
 | _,[],_=>True
 | n,c::l,J=>JG n J c/\mf (n+c.len) l J
def jt.w {J:Env} {k:Ck} (h:jt n J k):j9 n J k:=by
 cases k<;>first | exact zzT | exact⟨zzT,h.2⟩
def cW.w {J:Env} : ∀ {ks:List Ck} {n:Nat},cW n ks J->bR n ks J
 | [],_,_=>trivial
 | _::_,_,h=>⟨h.1.w,cW.w h.2⟩
def ft.w {J:Env} : ∀ {cs:List Cp} {n:Nat},ft n cs J->mf n cs J
 | [],_,_=>trivial
 | c::_,_,h=>⟨(match c,h.1 with | .one _,h=>jt.w h | .agg _,h=>cW.w h),ft.w h.2⟩
def qD (f:FuncId) (ins res:List Cp) (N:List Value->Prop) (G:List Value->Value):Spec where
 fn:=f
 own:=[]
 rd:=[]
 res:=res
 pre:=fun xs _ _=>(∃ q,mf 0 ins q/\xs=ui ins q)/\N xs
 post:=fun xs _ _ v _ _=>v=G xs
def rJ (res:List Cp) (v:Value):Prop:=∃ a,v=(kS 0 res).ev a/\ft 0 res a
section
variable {P:Program} {Γ:List Spec} {f:FuncId} {ins res:List Cp} {N:List Value->Prop} {G:List Value->Value}
def kj (c:∀ t∈Γ,t.OK P) (W:aG P Γ f) (l:W.args=(cA 0 ins).map .sv) (hm:W.mem=[]) (hp:W.path=[])
 (hres:∀ q,mf 0 ins q->N (ui ins q)->rJ res (G (ui ins q)))
 (h:∀ q,mf 0 ins q->N (ui ins q)->∃ inv mu,W.DF ⟨Γ,inv,mu,fun J _ r=>r.ev J=G (ui ins q)⟩ (fun _=>0) q):(qD f ins res N G).OK P:=by
 intro w xs Hs Rs d m n o s u ⟨⟨q,k,hx⟩,hN⟩;subst hx;have v:Hs=[]:=aaz.1 d;subst v;obtain⟨inv,mu,hn⟩:=h q k hN;unfold aG.DF at hn;obtain⟨nd,x,hn⟩:=hn;have g:MRel (fun _=>False) w q W.mem w:=by
  rw[hm];exact⟨La.refl _ _,(fun r hr=>nomatch hr),(fun r hr=>nomatch hr),(fun p _ r _ _ hp=>by simp at hp),(fun r hr=>nomatch hr)⟩
 have i:Path q W.path:=by rw[hp];exact fun _ h=>nomatch h
 have:=zn (C:=⟨Γ,inv,mu,fun J _ r=>r.ev J=G (ui ins q)⟩) c (NR (C:=⟨Γ,inv,mu,fun J _ r=>r.ev J=G (ui ins q)⟩) c) x g i hn;have ex:(W.args.map (TV.ev q))=ui ins q:=by
  rw[l,abD];rfl
 rw[ex]at this;refine this.mono ?_;rintro e w' ⟨J',mem',r,rfl,y,a,hpost⟩;obtain⟨j,h1,h2⟩:=hres q k hN;refine⟨j,[],Hl.none,(by rw[hpost,h1];rfl),h2,⟨a.fV.os,a.fV.tape,a.fV.output,a.fV.size,fun b hb _=>a.fV.block b hb id,rfl,(fun _ h=>nomatch h),(fun _ _ h=>nomatch h),(fun _ h=>nomatch h),(fun b h=>by simp [Hl.mem,Hl.none]at h),(fun p _ _ _ _ h=>by simp at h),(fun _ h=>nomatch h)⟩,?_⟩;exact h1.symm
def pw (b:Bool):rJ [.one .bool] (.bool b):=⟨⟨fun _=>0,fun _=>b,fun _=>.empty,fun _=>.tuple #[],fun _=>Hl.none⟩,rfl,zzT,zzT⟩
def vX (k:IntKind) (n:Int):rJ [.one (.int k)] (.int k n):=⟨⟨fun _=>n,fun _=>false,fun _=>.empty,fun _=>.tuple #[],fun _=>Hl.none⟩,rfl,zzT,zzT⟩
end
def TQ:Value->List Value
 | .agg cs=>cs.toList
 | v=>[v]
def WW:Value->Int
 | .slice _ n _=>n
 | _=>0
def bo:List Value->List Kd->Prop
 | [],[]=>True
 | v::l,k::m=>bz (some v) k=true/\bo l m
 | _,_=>False
def jE:∀ {l:List Value} {ks:List Kd},bo l ks->l.length=ks.length
 | [],[],_=>rfl
 | _::l,_::m,h=>by simp [jE h.2]
 | [],_::_,h=>h.elim
 | _::_,[],h=>h.elim
def bq (R:Hl) (v:Value) (ks:List Kd) (rows:List (List Value)):Prop :=
 ∃ (x y:Int) (c:Nat),v=.slice (az x y) rows.length c/\0<=y/\(rows=[]\/(0<=x/\∀ (i:Nat) row,rows[i]?=some row->bo row ks/\∀ j u,row[j]?=some u->R.cell x.toNat (y.toNat+i*ks.length+j)=some u))
def my {R:Hl} {x:Nat} : ∀ {row:List Value} {ks:List Kd} (y:Nat),bo row ks->(∀ j u,row[j]?=some u->R.cell x (y+j)=some u)->xk R x y ks=true
 | [],[],_,_,_=>rfl
 | v::l,k::m,y,h,hc=>by
  simp only[xk,aaE];refine⟨?_,my (y+1) h.2 fun j u hu=>?_⟩
  .have:=hc 0 v rfl;rw[abj]at this;rw[this];exact h.1
  .have:=hc (j+1) u (by simpa using hu);rwa[show y+(j+1)=y+1+j by omega]at this
 | [],_::_,_,h,_=>h.elim
 | _::_,[],_,h,_=>h.elim
def fw {J:Env} {h:Nat} {x y:E} : ∀ (row:List Value) (ks:List Kd) (j:Nat),bo row ks->(∀ i u,row[i]?=some u->(J.h h).cell (aB J x).toNat ((aB J y).toNat+(j+i))=some u)->(aY h x y j ks).map (CV.ev J)=row
 | [],[],_,_,_=>rfl
 | v::l,k::m,j,hr,hc=>by
  simp only[aY,aaY];have h0:=hc 0 v rfl;rw[abj]at h0
  congr 1
  .have:=tf (h:=h) (x:=x) (y:=y) (j:=j) (k:=k) (J:=J) (by rw[xQ,h0];exact hr.1);rw[h0]at this;exact(abp this).symm
  .refine fw l m (j+1) hr.2 fun i u hu=>?_;have:=hc (i+1) u (by simpa using hu);rwa[show j+(i+1)=j+1+i by omega]at this
 | [],_::_,_,h,_=>h.elim
 | _::_,[],_,h,_=>h.elim
end Go.Sx
namespace Go.Sx.K
open Go
variable {α:Type}
structure xJ where
 c:List (List Ck)
 k:List (List Kd):=[]
 w:List (List CV):=[]
def nv:List Nat->Nat->Nat
 | [],_=>0
 | n::l,p=>n <<<p+nv l (p+20)
def nk:Nat->Nat->Nat->List Nat->Nat
 | v,_,p,[]=>p+v <<<20
 | v,q,p,k::l=>nk (v+p <<<q+(k >>>20) <<<p) (q+20) (p+k%1048576) l
def nd (t:Nat) (a ks:List Nat):Nat:=nk (t+nv a 6) (6+20*a.length) (6+20*(a.length+ks.length)) ks
def el (f:α->Nat) (l:List α):Nat:=nd l.length [] (l.map f)
def bi (n:Nat):Nat:=(10+(n.log2+1))+((n.log2+1)+n <<<10) <<<20
def eI:Int->Nat
 | .ofNat n=>bi (2*n)
 | .negSucc n=>bi (2*n+1)
def eK:IntKind->Nat
 | .i8=>0 | .i16=>1 | .i32=>2 | .i64=>3 | .u8=>4 | .u16=>5 | .u32=>6 | .u64=>7
def eO:BinOp->Nat
 | .and=>0 | .or=>1 | .xor=>2 | _=>3
def eB:Bool->Nat
 | true=>1 | false=>0
def eD:Kd->Nat
 | .int k=>eK k | .bool=>8 | .slice=>9 | .ptr=>10 | .str=>11 | .map=>12 | .any=>13
def eC:Ck->Nat
 | .int k=>eK k | .bool=>8 | .sl=>9 | .ptr=>10 | .str=>11 | .map=>12 | .any=>13 | .slw=>14
def eVa:Value->Nat
 | .nilIface=>1
 | .func (.func f) _ _=>2+f
 | _=>0
def eU (n:UInt8):Nat:=nd 0 [n.toNat] []
def eM (n:Nat):Nat:=nd 0 [n] []
def eH:Nat×Option Nat->Nat
 | (n,none)=>nd 0 [n,0] []
 | (n,some k)=>nd 0 [n,k+1] []
def Xt (a:Nat):List Nat->Nat
 | b::l=>if Nat.beq a b then Xt a l+1 else 0
 | []=>0
def Sm:Nat->List Nat->List Nat->List Nat
 | 0,_,_=>[]
 | _+1,acc,[]=>if acc.isEmpty then []else [nd 0 (acc.length::acc) []]
 | f+1,acc,a::l =>
  let n:=Xt a (a::l)
  if Nat.ble 3 n then(if acc.isEmpty then []else [nd 0 (acc.length::acc) []])++nd 1 [n,a] []::Sm f [] ((a::l).drop n)else Sm f (acc++[a]) l
def SL:List Nat->Nat
 | []=>nd 0 [0] []
 | a::l=>l.foldl (fun x y=>nd 2 [] [x,y]) a
def Q1:List Nat->List Nat->Bool
 | [],[]=>true
 | a::l,b::m=>Nat.beq a b&&Q1 l m
 | _,_=>false
def eCk (K:List (List Ck)) (l:List Ck):Nat :=
 match K.findIdx? fun k=>Q1 (k.map eC) (l.map eC)with
 | some i=>nd 3 [i] []
 | none=>SL (Sm 200 [] (l.map eC))
def eKd (K:List (List Kd)) (l:List Kd):Nat :=
 match K.findIdx? fun k=>Q1 (k.map eD) (l.map eD)with
 | some i=>nd 3 [i] []
 | none=>SL (Sm 200 [] (l.map eD))
def eE (K:xJ):E->Nat
 | .lit a0=>nd 0 [] [eI a0]
 | .var a0=>nd 1 [a0] []
 | .add a0 a=>nd 2 [] [eE K a0,eE K a]
 | .sub a0 a=>nd 3 [] [eE K a0,eE K a]
 | .mul a0 a=>nd 4 [] [eE K a0,eE K a]
 | .quo a0 a=>nd 5 [] [eE K a0,eE K a]
 | .rem a0 a=>nd 6 [] [eE K a0,eE K a]
 | .wrap a0 a=>nd 7 [eK a0] [eE K a]
 | .bits a0 a b a3=>nd 8 [eO a0,eK a] [eE K b,eE K a3]
 | .shl a0 a b=>nd 9 [eK a0] [eE K a,eE K b]
 | .shr a0 a b=>nd 10 [eK a0] [eE K a,eE K b]
 | .tt=>nd 11 [] []
 | .ff=>nd 12 [] []
 | .bvar a0=>nd 13 [a0] []
 | .not a0=>nd 14 [] [eE K a0]
 | .and a0 a=>nd 15 [] [eE K a0,eE K a]
 | .or a0 a=>nd 16 [] [eE K a0,eE K a]
 | .ite a0 a b=>nd 17 [] [eE K a0,eE K a,eE K b]
 | .lt a0 a=>nd 18 [] [eE K a0,eE K a]
 | .le a0 a=>nd 19 [] [eE K a0,eE K a]
 | .eq a0 a=>nd 20 [] [eE K a0,eE K a]
 | .beq a0 a=>nd 21 [] [eE K a0,eE K a]
 | .hI a0 a b a3=>nd 22 [a0,a3] [eE K a,eE K b]
 | .hB a0 a b a3=>nd 23 [a0,a3] [eE K a,eE K b]
 | .hP a0 a b a3 a4=>nd 24 [a0,a3,a4] [eE K a,eE K b]
 | .hS a0 a b a3=>nd 25 [a0,a3] [eE K a,eE K b]
 | .his a0 a b a3 a4=>nd 26 [a0,a3,eD a4] [eE K a,eE K b]
 | .svar a0=>nd 27 [a0] []
 | .slit a0=>nd 28 [] [el eU a0.data.toList]
 | .scat a0 a=>nd 29 [] [eE K a0,eE K a]
 | .sbyte a0=>nd 30 [] [eE K a0]
 | .sof a0 a b a3=>nd 31 [a0] [eE K a,eE K b,eE K a3]
 | .slen a0=>nd 32 [] [eE K a0]
 | .sat a0 a=>nd 33 [] [eE K a0,eE K a]
 | .sext a0 a b=>nd 34 [] [eE K a0,eE K a,eE K b]
 | .seq a0 a=>nd 35 [] [eE K a0,eE K a]
 | .slt a0 a=>nd 36 [] [eE K a0,eE K a]
 | .hmlen a0 a=>nd 37 [a0] [eE K a]
 | .vint a0=>nd 38 [a0] []
 | .hby a0 a b a3=>nd 39 [a0] [eE K a,eE K b,eE K a3]
 | .hism a0 a=>nd 40 [a0] [eE K a]
 | .hks a0 a b a3=>nd 41 [a0] [eE K a,eE K b,eKd K.k a3]
def eV (K:xJ):CV->Nat
 | .int a0 a=>nd 0 [eK a0] [eE K a]
 | .bool a0=>nd 1 [] [eE K a0]
 | .str a0=>nd 2 [] [eE K a0]
 | .pti a0 a b a3 a4=>nd 3 [a0,a,b,a3] [eE K a4]
 | .hptr a0 a=>nd 4 [] [eE K a0,eE K a]
 | .sl a0 a b a3=>nd 5 [] [eE K a0,eE K a,eE K b,eE K a3]
 | .map a0=>nd 6 [] [eE K a0]
 | .vr a0=>nd 7 [a0] []
 | .hv a0 a b a3=>nd 8 [a0,a3] [eE K a,eE K b]
 | .val a0=>nd 9 [eVa a0] []
 | .clo a0 a=>nd 10 [a0] [eE K a]
def Wh (n:Nat):CV->Option Ck
 | .int k (.var m)=>if Nat.beq m n then some (.int k)else none
 | .bool (.bvar m)=>if Nat.beq m n then some .bool else none
 | .str (.svar m)=>if Nat.beq m n then some .str else none
 | .sl (.var a) (.var b) (.var c) (.var d)=>if Nat.beq a n&&Nat.beq b (n+1)&&Nat.beq c (n+2)&&Nat.beq d (n+3)then some .sl else none
 | .hptr (.var a) (.var b)=>if Nat.beq a n&&Nat.beq b (n+1)then some .ptr else none
 | .map (.var a)=>if Nat.beq a n then some .map else none
 | _=>none
def XL:CV->Nat
 | .int _ (.var m)=>m | .bool (.bvar m)=>m | .str (.svar m)=>m | .sl (.var a) _ _ _=>a | .hptr (.var a) _=>a | .map (.var a)=>a
 | _=>0
def Xv (n:Nat):List CV->List Ck
 | c::l=>match Wh n c with
  | some k=>k::Xv (n+k.len) l
  | none=>[]
 | []=>[]
def Vk (h:Nat) (x y:E) (j:Nat):CV->Option Kd
 | .int k (.hI a b c d)=>if Nat.beq a h&&decide (b=x)&&decide (c=y)&&Nat.beq d j then some (.int k)else none
 | .bool (.hB a b c d)=>if Nat.beq a h&&decide (b=x)&&decide (c=y)&&Nat.beq d j then some .bool else none
 | .str (.hS a b c d)=>if Nat.beq a h&&decide (b=x)&&decide (c=y)&&Nat.beq d j then some .str else none
 | .sl (.hP a b c d 0) (.hP _ _ _ d1 1) (.hP _ _ _ d2 2) (.hP _ _ _ d3 3)=>if Nat.beq a h&&decide (b=x)&&decide (c=y)&&Nat.beq d j&&Nat.beq d1 j&&Nat.beq d2 j&&Nat.beq d3 j then some .slice else none
 | .hv a b c d=>if Nat.beq a h&&decide (b=x)&&decide (c=y)&&Nat.beq d j then some .any else none
 | _=>none
def PJ (h:Nat) (x y:E) (j:Nat):List CV->List Kd
 | c::l=>match Vk h x y j c with
  | some k=>k::PJ h x y (j+1) l
  | none=>[]
 | []=>[]
def Gk:CV->Option (Nat×E×E)
 | .int _ (.hI a b c 0) | .bool (.hB a b c 0) | .str (.hS a b c 0) | .sl (.hP a b c 0 0) _ _ _ | .hv a b c 0=>some (a,b,c)
 | _=>none
def Xu (a:CV):List CV->Nat
 | b::l=>if Lw a b then Xu a l+1 else 0
 | []=>0
def Qa (K:xJ):Nat->List Nat->List CV->List Nat
 | 0,_,_=>[]
 | _+1,acc,[]=>if acc.isEmpty then []else [nd 0 [] [nd acc.length [] acc]]
 | f+1,acc,c::l =>
  let pre:=if acc.isEmpty then []else [nd 0 [] [nd acc.length [] acc]]
  let n1:=Xu c (c::l)
  let b:=match Gk c with
   | some (a,x,y)=>PJ a x y 0 (c::l)
   | none=>[]
  let d:=Xv (XL c) (c::l)
  if Nat.ble 6 b.length&&Nat.blt n1 9 then
   pre++(match Gk c with
    | some (a,x,y)=>nd 2 [a] [eE K x,eE K y,eKd K.k b]
    | none=>0)::Qa K f [] ((c::l).drop b.length)
  else if Nat.ble 6 d.length&&Nat.blt n1 9 then pre++nd 1 [XL c] [eCk K.c d]::Qa K f [] ((c::l).drop d.length)
  else if Nat.ble 9 n1 then pre++nd 3 [n1] [eV K c]::Qa K f [] ((c::l).drop n1)
  else Qa K f (acc++[eV K c]) l
def eW (K:xJ) (f:Nat) (l:List CV):Nat :=
 match K.w.findIdx? fun k=>SK Lw k l with
 | some i=>nd 5 [i] []
 | none=>match Qa K f [] l with
  | []=>nd 0 [] [nd 0 [] []]
  | a::r=>r.foldl (fun x y=>nd 4 [] [x,y]) a
def eA (K:xJ) (a:As):Nat:=nd 0 [a.n,a.k] [eV K a.c]
def Gq:List Ck->List As->List CV
 | .sl::ks,a::b::c::d::l=>(match a.c,b.c,c.c,d.c with | .int _ x,.int _ y,.int _ z,.int _ w=>CV.sl x y z w | _,_,_,_=>.vr 0)::Gq ks l
 | .slw::ks,a::b::c::d::l=>(match a.c,b.c,c.c,d.c with | .int _ x,.int _ y,.int _ z,.int _ w=>CV.sl x y z w | _,_,_,_=>.vr 0)::Gq ks l
 | .int k::ks,a::l=>(match a.c with | .int _ e=>CV.int k e | c=>c)::Gq ks l
 | _::ks,a::l=>a.c::Gq ks l
 | _,_=>[]
def hn:List As->Nat
 | a::_=>a.n | []=>0
def Y7 (K:xJ) (l:List As) (ks:List Ck):Bool:=Nat.ble 20 (bd ks)&&Nat.ble (bd ks) l.length&&Q1 (((mL (hn (l.drop (l.length-bd ks))) (ar (hn (l.drop (l.length-bd ks))) ks) (Gq ks (l.drop (l.length-bd ks)))).getD []).map (eA K)) ((l.drop (l.length-bd ks)).map (eA K))
def eAl (K:xJ) (l:List As):Nat :=
 match K.c.findIdx? (Y7 K l)with
 | some i=>nd 1 [hn (l.drop (l.length-bd (K.c.getD i []))),i] [el (eA K) (l.take (l.length-bd (K.c.getD i []))),eW K 200 (Gq (K.c.getD i []) (l.drop (l.length-bd (K.c.getD i []))))]
 | none=>nd 0 [] [el (eA K) l]
def eS (K:xJ):SV->Nat
 | .one a0=>nd 0 [] [eV K a0]
 | .agg a0=>nd 1 [] [eW K 200 a0]
def eT (K:xJ):TV->Nat
 | .sv a0=>nd 0 [] [eS K a0]
 | .tup a0=>nd 1 [] [el (eS K) a0]
def eR (K:xJ):bL->Nat
 | .bj a0 a b=>nd 0 [a0,b] [eW K 200 a]
 | .hp a0 a b a3=>nd 1 [a0] [el eM a,el (eE K) b,el (eE K) a3]
 | .ro a0 a b=>nd 2 [a0,eB b] [el (eE K) a]
 | .dead=>nd 3 [] []
def eQ (K:xJ):Src->Nat
 | .cvs a0 a=>nd 0 [a] [eW K 200 a0]
 | .seg a0 a b a3=>nd 1 [a0] [eE K a,eE K b,eE K a3]
def eX (K:xJ):X->Nat
 | .alloc a0=>nd 0 [a0] []
 | .put a0 a b a3 a4=>nd 1 [a0,a] [eE K b,eE K a3,eW K 200 a4]
 | .app a0 a b a3 a4 a5 d e=>nd 2 [a0,a,b,a3] [eV K a4,eE K a5,eR K d,eQ K e]
 | .grow a0 a b a3 a4 a5 d e=>nd 3 [a0,a,b,a3,a5,d] [eW K 200 a4,eQ K e]
 | .mk a0 a b a3 a4=>nd 4 [a0,a,a3] [eW K 200 b,eE K a4]
 | .call a0 a b a3 a4=>nd 5 [a0,a] [el (eT K) b,el (eR K) a3,el (eR K) a4]
 | .mnew a0=>nd 6 [a0] []
 | .mget a0 a b a3 a4 a5 d e=>nd 7 [a0,a,eD a3,eB e] [eE K b,eV K a4,eS K a5,eCk K.c d]
 | .mset a0 a b a3 a4 a5=>nd 8 [a0,a,eD a3] [eE K b,eV K a4,eS K a5]
 | .mclr a0 a b=>nd 9 [a0,a] [eE K b]
 | .cbs a0 a b a3=>nd 10 [a0,a,a3] [eW K 200 b]
 | .Rr a0 a b=>nd 11 [a0] [eR K a,eR K b]
 | .cpy a0 a b a3 a4 a5 d e f=>nd 12 [a0,a,a5] [eE K b,eE K a3,eE K a4,eE K d,eE K e,eE K f]
 | .Nh a0 a=>nd 13 [a0] [eR K a]
 | .mki a0 a b=>nd 14 [a0,a] [eS K b]
def eN (K:xJ):Nd->Nat
 | .tt=>nd 0 [] []
 | .e a0=>nd 1 [] [eE K a0]
 | .and a0 a=>nd 2 [] [eN K a0,eN K a]
 | .imp a0 a=>nd 3 [] [eE K a0,eN K a]
 | .pre a0=>nd 4 [] [eX K a0]
 | .ext a0 a=>nd 5 [] [eX K a0,eN K a]
 | .inv a0 a b=>nd 6 [a0] [eAl K a,el eH b]
 | .back a0 a b a3=>nd 7 [a0,a] [eAl K b,el eH a3]
 | .havoc a0 a b a3=>nd 8 [a0,a,b] [eN K a3]
 | .post a0 a=>nd 9 [] [el (eR K) a0,eT K a]
def fl (N p:Nat):Nat:=(N >>>p)%1048576
def tg (N p:Nat):Nat:=(N >>>p)%64
def fo (N o i:Nat):Nat:=fl N (o+i)
def jo (N o i:Nat):Nat:=o+fl N (o+i)
def at' (N:Nat) (g:Nat->Nat->α) (p:Nat):α:=g p (tg N p)
def dl {α:Type} (N:Nat) (g:Nat->Nat->α) (o:Nat):Nat->Nat->List α
 | _,0=>[]
 | i,n+1=>g (o+fl N (o+(6+20*i))) (tg N (o+fl N (o+(6+20*i))))::dl N g o (i+1) n
def ls (N:Nat) (g:Nat->Nat->α) (p:Nat):List α:=dl N g p 0 (tg N p)
def zi:Nat->Nat->Int
 | n,0=>(n:Int)
 | n,_=> -((n:Int)+1)
def dI' (n:Nat):Int:=zi (n/2) (n%2)
def dI (N p:Nat):Int:=dI' ((N >>>(p+10))%2 ^ ((N >>>p)%1024))
def dK:Nat->IntKind
 | 0=>.i8 | 1=>.i16 | 2=>.i32 | 3=>.i64 | 4=>.u8 | 5=>.u16 | 6=>.u32 | _=>.u64
def dO:Nat->BinOp
 | 0=>.and | 1=>.or | 2=>.xor | _=>.andNot
def dB:Nat->Bool
 | 0=>false | _=>true
def dD:Nat->Kd
 | 0=>.int .i8 | 1=>.int .i16 | 2=>.int .i32 | 3=>.int .i64 | 4=>.int .u8 | 5=>.int .u16 | 6=>.int .u32 | 7=>.int .u64 | 8=>.bool | 9=>.slice | 10=>.ptr | 11=>.str | 12=>.map | _=>.any
def dC:Nat->Ck
 | 0=>.int .i8 | 1=>.int .i16 | 2=>.int .i32 | 3=>.int .i64 | 4=>.int .u8 | 5=>.int .u16 | 6=>.int .u32 | 7=>.int .u64 | 8=>.bool | 9=>.sl | 10=>.ptr | 11=>.str | 12=>.map | 13=>.any | _=>.slw
def dVa:Nat->Value
 | 0=>.nilFunc | 1=>.nilIface | n+2=>.func (.func n) #[] #[]
def dU (N o _t:Nat):UInt8:=UInt8.ofNat (fl N (o+6))
def dM (N o _t:Nat):Nat:=fl N (o+6)
def dop:Nat->Option Nat
 | 0=>none | k+1=>some k
def dH (N o _t:Nat):Nat×Option Nat:=(fl N (o+6),dop (fl N (o+26)))
def gt {α:Type} : List (List α)->Nat->List α
 | [],_=>[] | a::_,0=>a | _::l,n+1=>gt l n
def XZ {α:Type} (N:Nat) (g:Nat->α) (o:Nat):Nat->Nat->List α
 | _,0=>[]
 | i,n+1=>g (fl N (o+(26+20*i)))::XZ N g o (i+1) n
def Wp (K:List (List Ck)) (N:Nat):Nat->Nat->Nat->List Ck
 | _+1,o,0=>XZ N dC o 0 (fl N (o+6))
 | _+1,o,1=>List.replicate (fl N (o+6)) (dC (fl N (o+26)))
 | f+1,o,2=>at' N (Wp K N f) (o+46)++at' N (Wp K N f) (jo N o 26)
 | _,o,_=>gt K (fl N (o+6))
def Wq (K:List (List Kd)) (N:Nat):Nat->Nat->Nat->List Kd
 | _+1,o,0=>XZ N dD o 0 (fl N (o+6))
 | _+1,o,1=>List.replicate (fl N (o+6)) (dD (fl N (o+26)))
 | f+1,o,2=>at' N (Wq K N f) (o+46)++at' N (Wq K N f) (jo N o 26)
 | _,o,_=>gt K (fl N (o+6))
def dE (K:xJ) (N:Nat):Nat->Nat->Nat->E
 | f+1,o,0=>.lit (dI N (o+26))
 | f+1,o,1=>.var (fo N o 6)
 | f+1,o,2=>.add (at' N (dE K N f) (o+46)) (at' N (dE K N f) (jo N o 26))
 | f+1,o,3=>.sub (at' N (dE K N f) (o+46)) (at' N (dE K N f) (jo N o 26))
 | f+1,o,4=>.mul (at' N (dE K N f) (o+46)) (at' N (dE K N f) (jo N o 26))
 | f+1,o,5=>.quo (at' N (dE K N f) (o+46)) (at' N (dE K N f) (jo N o 26))
 | f+1,o,6=>.rem (at' N (dE K N f) (o+46)) (at' N (dE K N f) (jo N o 26))
 | f+1,o,7=>.wrap (dK (fo N o 6)) (at' N (dE K N f) (o+46))
 | f+1,o,8=>.bits (dO (fo N o 6)) (dK (fo N o 26)) (at' N (dE K N f) (o+86)) (at' N (dE K N f) (jo N o 66))
 | f+1,o,9=>.shl (dK (fo N o 6)) (at' N (dE K N f) (o+66)) (at' N (dE K N f) (jo N o 46))
 | f+1,o,10=>.shr (dK (fo N o 6)) (at' N (dE K N f) (o+66)) (at' N (dE K N f) (jo N o 46))
 | f+1,o,11=>.tt
 | f+1,o,12=>.ff
 | f+1,o,13=>.bvar (fo N o 6)
 | f+1,o,14=>.not (at' N (dE K N f) (o+26))
 | f+1,o,15=>.and (at' N (dE K N f) (o+46)) (at' N (dE K N f) (jo N o 26))
 | f+1,o,16=>.or (at' N (dE K N f) (o+46)) (at' N (dE K N f) (jo N o 26))
 | f+1,o,17=>.ite (at' N (dE K N f) (o+66)) (at' N (dE K N f) (jo N o 26)) (at' N (dE K N f) (jo N o 46))
 | f+1,o,18=>.lt (at' N (dE K N f) (o+46)) (at' N (dE K N f) (jo N o 26))
 | f+1,o,19=>.le (at' N (dE K N f) (o+46)) (at' N (dE K N f) (jo N o 26))
 | f+1,o,20=>.eq (at' N (dE K N f) (o+46)) (at' N (dE K N f) (jo N o 26))
 | f+1,o,21=>.beq (at' N (dE K N f) (o+46)) (at' N (dE K N f) (jo N o 26))
 | f+1,o,22=>.hI (fo N o 6) (at' N (dE K N f) (o+86)) (at' N (dE K N f) (jo N o 66)) (fo N o 26)
 | f+1,o,23=>.hB (fo N o 6) (at' N (dE K N f) (o+86)) (at' N (dE K N f) (jo N o 66)) (fo N o 26)
 | f+1,o,24=>.hP (fo N o 6) (at' N (dE K N f) (o+106)) (at' N (dE K N f) (jo N o 86)) (fo N o 26) (fo N o 46)
 | f+1,o,25=>.hS (fo N o 6) (at' N (dE K N f) (o+86)) (at' N (dE K N f) (jo N o 66)) (fo N o 26)
 | f+1,o,26=>.his (fo N o 6) (at' N (dE K N f) (o+106)) (at' N (dE K N f) (jo N o 86)) (fo N o 26) (dD (fo N o 46))
 | f+1,o,27=>.svar (fo N o 6)
 | f+1,o,28=>.slit ⟨(dl N (dU N) (o+26) 0 (tg N (o+26))).toArray⟩
 | f+1,o,29=>.scat (at' N (dE K N f) (o+46)) (at' N (dE K N f) (jo N o 26))
 | f+1,o,30=>.sbyte (at' N (dE K N f) (o+26))
 | f+1,o,31=>.sof (fo N o 6) (at' N (dE K N f) (o+86)) (at' N (dE K N f) (jo N o 46)) (at' N (dE K N f) (jo N o 66))
 | f+1,o,32=>.slen (at' N (dE K N f) (o+26))
 | f+1,o,33=>.sat (at' N (dE K N f) (o+46)) (at' N (dE K N f) (jo N o 26))
 | f+1,o,34=>.sext (at' N (dE K N f) (o+66)) (at' N (dE K N f) (jo N o 26)) (at' N (dE K N f) (jo N o 46))
 | f+1,o,35=>.seq (at' N (dE K N f) (o+46)) (at' N (dE K N f) (jo N o 26))
 | f+1,o,36=>.slt (at' N (dE K N f) (o+46)) (at' N (dE K N f) (jo N o 26))
 | f+1,o,37=>.hmlen (fo N o 6) (at' N (dE K N f) (o+46))
 | f+1,o,38=>.vint (fo N o 6)
 | f+1,o,39=>.hby (fo N o 6) (at' N (dE K N f) (o+86)) (at' N (dE K N f) (jo N o 46)) (at' N (dE K N f) (jo N o 66))
 | f+1,o,40=>.hism (fo N o 6) (at' N (dE K N f) (o+46))
 | f+1,o,41=>.hks (fo N o 6) (at' N (dE K N f) (o+86)) (at' N (dE K N f) (jo N o 46)) (at' N (Wq K.k N 20) (jo N o 66))
 | _,_,_=>.tt
def dV (K:xJ) (N:Nat):Nat->Nat->CV
 | o,0=>.int (dK (fo N o 6)) (at' N (dE K N 99) (o+46))
 | o,1=>.bool (at' N (dE K N 99) (o+26))
 | o,2=>.str (at' N (dE K N 99) (o+26))
 | o,3=>.pti (fo N o 6) (fo N o 26) (fo N o 46) (fo N o 66) (at' N (dE K N 99) (o+106))
 | o,4=>.hptr (at' N (dE K N 99) (o+46)) (at' N (dE K N 99) (jo N o 26))
 | o,5=>.sl (at' N (dE K N 99) (o+86)) (at' N (dE K N 99) (jo N o 26)) (at' N (dE K N 99) (jo N o 46)) (at' N (dE K N 99) (jo N o 66))
 | o,6=>.map (at' N (dE K N 99) (o+26))
 | o,7=>.vr (fo N o 6)
 | o,8=>.hv (fo N o 6) (at' N (dE K N 99) (o+86)) (at' N (dE K N 99) (jo N o 66)) (fo N o 26)
 | o,9=>.val (dVa (fo N o 6))
 | o,10=>.clo (fo N o 6) (at' N (dE K N 99) (o+46))
 | _,_=>.vr 0
def dW (K:xJ) (N:Nat):Nat->Nat->Nat->List CV
 | _+1,o,0=>ls N (dV K N) (o+26)
 | _+1,o,1=>ar (fl N (o+6)) (at' N (Wp K.c N 20) (o+46))
 | _+1,o,2=>aY (fl N (o+6)) (at' N (dE K N 99) (o+86)) (at' N (dE K N 99) (jo N o 46)) 0 (at' N (Wq K.k N 20) (jo N o 66))
 | _+1,o,3=>List.replicate (fl N (o+6)) (at' N (dV K N) (o+46))
 | f+1,o,4=>at' N (dW K N f) (o+46)++at' N (dW K N f) (jo N o 26)
 | _,o,_=>gt K.w (fo N o 6)
def dA (K:xJ) (N o _t:Nat):As:=⟨fl N (o+6),fl N (o+26),at' N (dV K N) (o+66)⟩
def Y0 (K:xJ) (N:Nat):Nat->Nat->List As
 | o,0=>ls N (dA K N) (o+26)
 | o,_=>ls N (dA K N) (o+86)++(mL (fo N o 6) (ar (fo N o 6) (gt K.c (fo N o 26))) (at' N (dW K N 60) (jo N o 66))).getD []
def dS (K:xJ) (N:Nat):Nat->Nat->SV
 | o,0=>.one (at' N (dV K N) (o+26))
 | o,1=>.agg (at' N (dW K N 60) (o+26))
 | _,_=>.agg []
def dT (K:xJ) (N:Nat):Nat->Nat->TV
 | o,0=>.sv (at' N (dS K N) (o+26))
 | o,1=>.tup (ls N (dS K N) (o+26))
 | _,_=>.tup []
def dR (K:xJ) (N:Nat):Nat->Nat->bL
 | o,0=>.bj (fo N o 6) (at' N (dW K N 60) (o+66)) (fo N o 26)
 | o,1=>.hp (fo N o 6) (ls N (dM N) (o+86)) (ls N (dE K N 99) (jo N o 46)) (ls N (dE K N 99) (jo N o 66))
 | o,2=>.ro (fo N o 6) (ls N (dE K N 99) (o+66)) (dB (fo N o 26))
 | o,3=>.dead
 | _,_=>.dead
def dQ (K:xJ) (N:Nat):Nat->Nat->Src
 | o,0=>.cvs (at' N (dW K N 60) (o+46)) (fo N o 6)
 | o,1=>.seg (fo N o 6) (at' N (dE K N 99) (o+86)) (at' N (dE K N 99) (jo N o 46)) (at' N (dE K N 99) (jo N o 66))
 | _,_=>.cvs [] 0
def dX (K:xJ) (N:Nat):Nat->Nat->X
 | o,0=>.alloc (fo N o 6)
 | o,1=>.put (fo N o 6) (fo N o 26) (at' N (dE K N 99) (o+106)) (at' N (dE K N 99) (jo N o 66)) (at' N (dW K N 60) (jo N o 86))
 | o,2=>.app (fo N o 6) (fo N o 26) (fo N o 46) (fo N o 66) (at' N (dV K N) (o+166)) (at' N (dE K N 99) (jo N o 106)) (at' N (dR K N) (jo N o 126)) (at' N (dQ K N) (jo N o 146))
 | o,3=>.grow (fo N o 6) (fo N o 26) (fo N o 46) (fo N o 66) (at' N (dW K N 60) (o+166)) (fo N o 86) (fo N o 106) (at' N (dQ K N) (jo N o 146))
 | o,4=>.mk (fo N o 6) (fo N o 26) (at' N (dW K N 60) (o+106)) (fo N o 46) (at' N (dE K N 99) (jo N o 86))
 | o,5=>.call (fo N o 6) (fo N o 26) (ls N (dT K N) (o+106)) (ls N (dR K N) (jo N o 66)) (ls N (dR K N) (jo N o 86))
 | o,6=>.mnew (fo N o 6)
 | o,7=>.mget (fo N o 6) (fo N o 26) (at' N (dE K N 99) (o+166)) (dD (fo N o 46)) (at' N (dV K N) (jo N o 106)) (at' N (dS K N) (jo N o 126)) (at' N (Wp K.c N 20) (jo N o 146)) (dB (fo N o 66))
 | o,8=>.mset (fo N o 6) (fo N o 26) (at' N (dE K N 99) (o+126)) (dD (fo N o 46)) (at' N (dV K N) (jo N o 86)) (at' N (dS K N) (jo N o 106))
 | o,9=>.mclr (fo N o 6) (fo N o 26) (at' N (dE K N 99) (o+66))
 | o,10=>.cbs (fo N o 6) (fo N o 26) (at' N (dW K N 60) (o+86)) (fo N o 46)
 | o,11=>.Rr (fo N o 6) (at' N (dR K N) (o+66)) (at' N (dR K N) (jo N o 46))
 | o,12=>.cpy (fo N o 6) (fo N o 26) (at' N (dE K N 99) (o+186)) (at' N (dE K N 99) (jo N o 86)) (at' N (dE K N 99) (jo N o 106)) (fo N o 46) (at' N (dE K N 99) (jo N o 126)) (at' N (dE K N 99) (jo N o 146)) (at' N (dE K N 99) (jo N o 166))
 | o,13=>.Nh (fo N o 6) (at' N (dR K N) (o+46))
 | o,14=>.mki (fo N o 6) (fo N o 26) (at' N (dS K N) (o+66))
 | _,_=>.alloc 0
def dN (K:xJ) (N:Nat):Nat->Nat->Nat->Nd
 | f+1,o,0=>.tt
 | f+1,o,1=>.e (at' N (dE K N 99) (o+26))
 | f+1,o,2=>.and (at' N (dN K N f) (o+46)) (at' N (dN K N f) (jo N o 26))
 | f+1,o,3=>.imp (at' N (dE K N 99) (o+46)) (at' N (dN K N f) (jo N o 26))
 | f+1,o,4=>.pre (at' N (dX K N) (o+26))
 | f+1,o,5=>.ext (at' N (dX K N) (o+46)) (at' N (dN K N f) (jo N o 26))
 | f+1,o,6=>.inv (fo N o 6) (at' N (Y0 K N) (o+66)) (ls N (dH N) (jo N o 46))
 | f+1,o,7=>.back (fo N o 6) (fo N o 26) (at' N (Y0 K N) (o+86)) (ls N (dH N) (jo N o 66))
 | f+1,o,8=>.havoc (fo N o 6) (fo N o 26) (fo N o 46) (at' N (dN K N f) (o+86))
 | f+1,o,9=>.post (ls N (dR K N) (o+46)) (at' N (dT K N) (jo N o 26))
 | _,_,_=>.tt
attribute [go_sem] fl fo jo at' ls tg dl zi dI' dI dK dO dB dD dC dVa dU dM dop dH gt XZ Wp Wq dE dV dW dA Y0 dS dT dR dQ dX dN
def Wl (n:Nat):Program:={(default:Program)with types:=#[{(default:TypeInfo)with desc:=.int .i64,methods:=#[{(default:Method)with name:= "",func:=some (n,false)}]}]}
end Go.Sx.K
namespace Go.Sx
open Go
variable {C:Ctx}{J:Env}{f:FuncId}{Γ:List Spec}{ms:Nat->Nat}{x y:Nd}{P:Program}
def aG.lit {W:aG P Γ f} (g:x.holds C ms J) (e:W.V=some x:=by kernel_rfl):W.DF C ms J:=by unfold aG.DF;exact⟨x,e,g⟩
def aG.read {W:aG P Γ f} (a:List (List Ck)) (b:List (List Kd)) (c:List (List CV)) {n:Nat} {v:Value} (g:y.holds C ms J) (_:Sem.run (K.Wl (K.eN ⟨a,b,c⟩ (W.V.getD .tt) >>>20)) (method 1 0 .nilFunc "") default=.ok (n,v) default:=by go_invoke;exact rfl)
 (_:K.dN ⟨a,b,c⟩ n 400 0 (K.tg n 0)=y:=by simp (config:={maxSteps:=10000000}) only[go_sem,Nat.reduceShiftRight,Nat.reduceMod,Nat.reduceAdd,Nat.reduceMul,Nat.reduceDiv,Nat.reducePow,Int.reduceNatCast',Int.reduceNeg,Int.reduceAdd];exact rfl)
 (e:W.V=some y:=by kernel_rfl):W.DF C ms J:=aG.lit g e
attribute [go_sem] Nd.holds X.pre X.rel X.n Src.ok Src.len Src.iW abk aaP ab6 acA abj abc abt se r9 jZ kP jr sd nx mO pG gM nj ny sa nq np j7 nu ak al bQ dm cG bP cO fh fG fS iT gy iE fY TV.ev SV.ev CV.ev aaY abN bL.hl kS Cp.sv Ck.cv cA Cp.len Ck.len gI iz jD abv abq
end Go.Sx
namespace Go.Sx
open Go
variable {J:Env}{B F R:Hl}{c x y:Int}{a b rows:List (List Value)}{hs:List (Nat×Option Nat)}{A:List As}{ks:List Kd}{row xs:List Value}{n n0:Nat}{P:Program}{s:Spec}{e:TypeId}{v:Value}
def bW : ∀ t∈([]:List Spec),t.OK P:=fun _ h=>by cases h
def av {l:List Spec} (h:s.OK P) (k:∀ t∈l,t.OK P):∀ t∈s::l,t.OK P:=fun t a=>(aaN.1 a).elim (fun e=>e▸h) (k t)
abbrev bf (f:Nat->Int):Env:=⟨f,fun _=>false,fun _=>.empty,fun _=>.tuple #[],fun _=>Hl.none⟩
def zzK {p:Prop} (h:p:=by kernel_rfl):p:=h
def oO (ho:s.own=[]) (h:∀ w xs Rs,(∀ R∈Rs,R.sub w)->s.pre xs [] Rs->∃ v,rJ s.res v/\(Calls P s.fn xs.toArray w fun e w'=>e=.returned v/\RowKit.Below w.heap.size w w')/\s.post xs [] Rs v [] Hl.none):s.OK P:=by
 intro w xs Hs Rs a f g c i j hp;rw[ho]at a;have k:Hs=[]:=aaz.1 a;subst k;obtain⟨v,⟨d,h1,h2⟩,hc,hpost⟩:=h w xs Rs c hp;refine hc.mono ?_;rintro e w' ⟨rfl,hb⟩;refine⟨d,[],Hl.none,(by rw[h1]),h2,⟨hb.os,hb.tape,hb.output,hb.size,fun b hl _=>hb.block b hl,rfl,(fun _ h=>nomatch h),(fun _ _ h=>nomatch h),(fun _ h=>nomatch h),(fun b h=>by simp [Hl.mem,Hl.none]at h),(fun p _ _ _ _ h=>by simp at h),(fun _ h=>nomatch h)⟩,?_⟩;rw[<-h1];exact hpost
def aL (l:List Int) (b:Bool) (hs:List Hl):Env:=⟨fun k=>l.getD k 0,fun _=>b,fun _=>.empty,fun _=>.tuple #[],fun k=>hs.getD k Hl.none⟩
def lZ {m:Nat} {J J':Env} (h:ai m J J'):∀ (ks:List Ck) (n:Nat),n+bd ks<=m->bR n ks J->bR n ks J'
 | [],_,_,_=>trivial
 | k::ks,n,hm,hn=>by
  have hl:bd (k::ks)=k.len+bd ks:=by simp [bd]
  rw[hl]at hm;refine⟨?_,lZ h ks (n+k.len) ah hn.2⟩;have h1:=hn.1;cases k<;>simp only[j9,Ck.len]at h1 hm ⊢
  .rw[h.i (n+1)];exact h1
  .rw[h.i (n+1),h.i (n+2),h.i (n+3)];exact h1
  .rw[h.i (n+1),h.i (n+2),h.i (n+3)];exact h1
def Rv:List Ck->Bool
 | []=>true
 | k::l=>(match k with | .ptr | .sl | .map | .slw=>false | _=>true)&&Rv l
def cN:∀ (ks:List Ck) (n:Nat) (J:Env),Rv ks=true->cW n ks J
 | [],_,_,_=>trivial
 | k::ks,n,J,h=>by
  simp only[Rv,aaE]at h;refine⟨?_,cN ks _ J h.2⟩;cases k<;>first | exact zzT | cases h.1
def gn {a b:Env} {m:Nat} {ks:List Ck} (h:ai m a b) (hm:n+bd ks<=m):(SV.agg (ar n ks)).ev b=(SV.agg (ar n ks)).ev a:=by
 simp only[SV.ev];rw[CV.gF (h.mono hm) _ (cU ks n)]
def kU:Ck->Kd
 | .int k=>.int k | .bool=>.bool | .str=>.str | .any=>.any | .ptr=>.ptr | .sl=>.slice | .map=>.map | .slw=>.slice
def Ln (k:Ck) (n:Nat):(k.cv n).upto (n+k.len)=true:=by
 cases k<;>simp [Ck.cv,Ck.len,CV.upto,E.upto]
def RB (k:Ck) (n:Nat) (v:Value) (J:Env) (h:bz (some v) (kU k)=true):∃ J',ai n J J'/\j9 n J' k/\(k.cv n).ev J'=v:=by
 have d:bz (some v) .slice=true->∃ J',ai n J J'/\j9 n J' .sl/\(Ck.sl.cv n).ev J'=v:=fun h=>by
  cases v with
  | slice a l c =>
   obtain⟨x,y,rfl,e,_⟩:=rO a;refine⟨(((J.gf n x).gf (n+1) y).gf (n+2) l).gf (n+3) c,(((ct _ _ x (aaS _)).trans (ct _ _ y ah)).trans (ct _ _ _ ah)).trans (ct _ _ _ ah),?_,?_⟩
   .simp [j9,Env.gf];exact e
   .simp [Ck.cv,CV.ev,al,Env.gf]
  | _=>simp [bz]at h
 cases k with
 | int k =>
  cases v<;>simp [bz,kU]at h
  subst h;rename_i x;exact⟨J.gf n x,ct _ _ x (aaS _),zzT,by simp [Ck.cv,CV.ev,al,nM]⟩
 | bool =>
  cases v<;>simp [bz,kU]at h
  rename_i x;exact⟨J.MN n x,yx _ _ x (aaS _),zzT,by simp [Ck.cv,CV.ev,bD,Env.MN]⟩
 | str =>
  cases v<;>simp [bz,kU]at h
  rename_i x;exact⟨J.Sq n x,Hb _ _ x (aaS _),zzT,by simp [Ck.cv,CV.ev,fY,Env.Sq]⟩
 | any=>exact⟨J.GD n v,yy _ _ v (aaS _),zzT,by simp [Ck.cv,CV.ev,Env.GD]⟩
 | ptr =>
  have key:∀ x y:Int,-1<=x->0<=y->v=.pointer (az x y)->∃ J',ai n J J'/\j9 n J' .ptr/\(Ck.ptr.cv n).ev J'=v:=by
   intro x y hx e hv;refine⟨(J.gf n x).gf (n+1) y,(ct _ _ x (aaS _)).trans (ct _ _ y ah),?_,?_⟩
   .simp [j9,Env.gf];exact e
   .simp [Ck.cv,CV.ev,al,Env.gf,hv]
  cases v with
  | pointer a =>
   cases a with
   | none=>exact key (-1) 0 ah ah rfl
   | some a =>
    obtain⟨b,o,s⟩:=a;cases s with
    | none=>exact key b o ah ah (by simp [au])
    | some s=>simp [bz,kU]at h
  | _=>simp [bz,kU]at h
 | sl=>exact d h
 | slw=>exact d h
 | map =>
  cases v with
  | map a =>
   cases a with
   | none=>exact⟨J.gf n (-1),ct _ _ _ (aaS _),zzT,by simp [Ck.cv,CV.ev,al,Env.gf]⟩
   | some r=>exact⟨J.gf n r,ct _ _ _ (aaS _),zzT,by show Value.map (if(J.gf n r).i n= -1 then none else some ((J.gf n r).i n).toNat)=_;rw[nM,aaG ah,aar]⟩
  | _=>simp [bz,kU]at h
def cY:∀ (ks:List Ck) (n:Nat) (row:List Value) (J:Env),bo row (ks.map kU)->∃ J',ai n J J'/\bR n ks J'/\(ar n ks).map (CV.ev J')=row
 | [],n,[],J,_=>⟨J,ai.refl _ _,zzT,rfl⟩
 | k::ks,n,v::row,J,h=>by
  obtain⟨a,d,n1,e1⟩:=RB k n v J h.1;obtain⟨b,c,e,f⟩:=cY ks (n+k.len) row a h.2;refine⟨b,d.tr c,⟨?_,e⟩,?_⟩
  .have:=lZ (ks:=[k]) (n:=n) c (by simp [bd]) ⟨n1,zzT⟩;exact this.1
  .simp only[ar,aaY,f];rw[CV.agree c _ (Ln k n),e1]
 | [],_,_::_,_,h=>h.elim
 | _::_,_,[],_,h=>h.elim
def S4 (n0:Nat) (l m:List CV):List As:=(mL n0 l m).getD []
def BA (n0:Nat) (A:List As) (hs:List (Nat×Option Nat)):Bool:=lP A&&A.all (fun x=>decide (n0<=x.n))&&hs.all (fun x=>decide (n0<=x.1))&&lQ hs
def Bs {l m:List CV} (a:BA n0 A hs=true) (hm:(mL n0 l m).isSome=true) (hsub:∀ y∈S4 n0 l m,y∈A):(SV.agg l).ev (assign J A hs)=(SV.agg m).ev J:=by
 simp only[BA,aaE]at a;obtain⟨x,hx⟩:=abw.1 hm;have hs':∀ y∈x,y∈A:=fun y b=>hsub y (by unfold S4;rw[hx];exact b);simp only[SV.ev,oq a.1.1.1 a.1.1.2 a.1.2 l m x hx hs']
def yA (a:BA n0 A hs=true):ai n0 J (assign J A hs):=by
 simp only[BA,aaE]at a;exact dz a.1.1.2 a.1.2
def bq.uniq (h1:bq R v ks a) (h2:bq R v ks b):a=b:=by
 obtain⟨x,y,c,rfl,k,h1⟩:=h1;obtain⟨x',y',c',he,e,h2⟩:=h2;simp only[Value.slice.injEq]at he;obtain⟨he,hl,rfl⟩:=he;rcases h1 with rfl | ⟨hx,h1⟩
 .exact(aaz.1 hl.symm).symm
 rcases h2 with rfl | ⟨l,h2⟩
 .exact aaz.1 hl
 obtain⟨rfl,d⟩:=lI ah k ah e he;have d:=d hx;subst d;apply aci hl;intro i hi f;obtain⟨k1,c1⟩:=h1 i _ (aax hi);obtain⟨k2,c2⟩:=h2 i _ (aax f);apply aci (by rw[jE k1,jE k2]);intro j m g;have e1:=c1 j _ (aax m);have h:=c2 j _ (aax g);rw[e1]at h;exact abp h
def bq.at {l:Int} (h:bq R (.slice (az x y) l.toNat c.toNat) ks rows) (hx:-1<=x) (e:0<=y) (hl:0<=l) :
 l=rows.length/\∀ (i:Nat) row,rows[i]?=some row->0<=x/\bo row ks/\∀ j u,row[j]?=some u->R.cell x.toNat (y.toNat+i*ks.length+j)=some u:=by
 obtain⟨x',y',c',he,d,h⟩:=h;simp only[Value.slice.injEq]at he;obtain⟨he,hle,_⟩:=he;refine⟨ah,fun i row hi=>?_⟩;rcases h with rfl | ⟨b,h⟩
 .simp at hi
 obtain⟨rfl,a⟩:=lI hx e ah d he;have a:=a b;subst a;exact⟨b,h i row hi⟩
def tD (F:Hl) (e:TypeId) (ks:List Kd) (v:Value) (rows:List (List Value)):Prop:=(∀ row∈rows,bo row ks)/\aP F e ks.length v rows.length rows.flatten
def tD.nil (F:Hl) (e:TypeId) (ks:List Kd):tD F e ks (.slice none 0 0) []:=⟨fun _ h=>(nomatch h),by simp [aP]⟩
def zm {α:Type} {n:Nat} : ∀ {rows:List (List α)} (_:∀ r∈rows,r.length=n) {i j:Nat} {row:List α} {u:α},rows[i]?=some row->row[j]?=some u->rows.flatten[i*n+j]?=some u
 | [],_,i,j,row,u,h,_=>by simp at h
 | r::rows,hl,0,j,row,u,h,a=>by
  simp only[abv,aaF]at h;subst h;have b:j<r.length:=(aaH.1 a).1;rw[abR,ade,aa6,aa0 b];exact a
 | r::rows,hl,i+1,j,row,u,h,a=>by
  have hr:r.length=n:=hl r aF;have ih:=zm (rows:=rows) (fun r hr=>hl r (by simp [hr])) (i:=i) (j:=j) (row:=row) (u:=u) (by simpa using h) a;rw[abR,aaQ (by rw[hr,adZ];omega),hr,show(i+1)*n+j-n=i*n+j by rw[adZ];omega];exact ih
def tD.rd (h:tD F e ks v rows):bq F v ks rows:=by
 obtain⟨hk,hl,h⟩:=h;rcases h with ⟨rfl,hn⟩ | ⟨g,cap,cur,rfl,a,hle,hm,hs,b⟩
 .exact⟨-1,0,0,by rw[fx,hn],ah,Or.inl (aaz.1 hn)⟩
 .refine⟨g,0,cap,by simp [au],ah,Or.inr ⟨ah,fun i row hi=>⟨hk row (aaA hi),fun j u c=>?_⟩⟩⟩;have e1:=zm (n:=ks.length) (fun r hr=>jE (hk r hr)) hi c;have d:cur.toList[i*ks.length+j]?=some u:=by
   rw[<-b]at e1;rw[abf]at e1;split at e1
   .exact e1
   .cases e1
  unfold Hl.cell;rw[aar,a];simpa using d
def tD.snoc (hk:∀ r∈rows,bo r ks) (hr:bo row ks) (h:aP F e ks.length v n xs) (hn:n=rows.length+1) (hx:xs=rows.flatten++row):tD F e ks v (rows++[row]):=by
 refine⟨fun r a=>?_,?_⟩
 .rcases aa4.1 a with h | h
  .exact hk r h
  .rw[aaJ]at h;subst h;exact hr
 .subst hn;subst hx;simpa using h
def tD.app {A:Hl} {l x1 c1:Int} (ho:tD A e ks (.slice (az x 0) l.toNat c.toNat) rows) (hl:l=rows.length) (hr:bo row ks)
 (happ:∀ xs,aP A e ks.length (.slice (az x 0) l.toNat c.toNat) l.toNat xs->aP B e ks.length (.slice (az x1 0) (l.toNat+1) c1.toNat) (l.toNat+1) (xs++row)):tD B e ks (.slice (az x1 0) (l+1).toNat c1.toNat) (rows++[row]):=by
 have hn:l.toNat=rows.length:=ah;rw[show(l+1).toNat=l.toNat+1 by omega];refine tD.snoc ho.1 hr (happ rows.flatten ?_) ah rfl;have:=ho.2;rw[hn]at this ⊢;exact this
def tD.pre {A:Hl} {l:Int} (ho:tD A e ks (.slice (az x 0) l.toNat c.toNat) rows) (hl:l=rows.length):aP A e ks.length (.slice (az x 0) l.toNat c.toNat) l.toNat rows.flatten:=by
 have hn:l.toNat=rows.length:=ah;have:=ho.2;rw[hn]at this ⊢;exact this
end Go.Sx
namespace Go.Pk
open Go Go.Sx
variable {a c k m w x y:Nat}
def aj (x:Nat):List Int:=if x<128 then [(x:Int)]else((x%128+128:Nat):Int)::aj (x/128)
def su:List Int->Nat->Nat->Option (Nat×Nat)
 | [],_,_=>none
 | c::l,n,x=>if(n=9/\1<c)\/9<n then none else if c<128 then(if c=0/\0<n then none else some (x+c.toNat*128 ^ n,n+1))else su l (n+1) (x+(c.toNat%128)*128 ^ n)
def uw (l:List Int):Option (Nat×Nat):=su l 0 0
def kz (h:x<128):aj x=[(x:Int)]:=by rw[aj,aaR h]
def jT (h:¬x<128):aj x=((x%128+128:Nat):Int)::aj (x/128):=by rw[aj,aaG h]
def BW:∀ (x:Nat),∀ b∈aj x,0<=b/\b<256:=by
 intro x
 induction x using Nat.strongRecOn with
 | _ x ih =>
  intro b hb;by_cases h:x<128
  .rw[kz h,aaJ]at hb;omega
  .rw[jT h]at hb;rcases aaN.1 hb with rfl | hb
   .omega
   .exact ih (x/128) ah b hb
def ux (x:Nat):0<(aj x).length:=by
 by_cases h:x<128
 .rw[kz h];exact Nat.one_pos
 .rw[jT h];exact Nat.succ_pos _
def FG:∀ (k x:Nat),x<128 ^ (k+1)->(aj x).length<=k+1
 | 0,x,h=>by rw[kz (by simpa using h)];exact aaS _
 | k+1,x,h=>by
  by_cases h1:x<128
  .rw[kz h1];simp
  .rw[jT h1,abc];have:=FG k (x/128) (by
    rw[acL]at h;exact Nat.div_lt_of_lt_mul ah)
   omega
def Pj:(128:Nat) ^ 9=9223372036854775808:=by decide
def Mf (t:List Int):∀ (x n y:Nat),(0<n->0<x)->n<=9->x*128 ^ n<18446744073709551616->su (aj x++t) n y=some (y+x*128 ^ n,n+(aj x).length):=by
 intro x
 induction x using Nat.strongRecOn with
 | _ x ih =>
  intro n y hx hn a;have b:n=9->x<=1:=fun e=>by
   subst e;rw[Pj]at a;omega
  by_cases h:x<128
  .rw[kz h];show(if(n=9/\1<(x:Int))\/9<n then none else _)=_;rw[aaG ah,aaR ah,aaG ah,aar];rfl
  .rw[jT h];have hc:(((x%128+128:Nat):Int)).toNat%128=x%128:=by rw[aar];omega
   show(if(n=9/\1<((x%128+128:Nat):Int))\/9<n then none else _)=_;have c:n≠9:=fun e=>by have:=b e;omega
   rw[aaG ah,aaG ah,hc];have hmul:x/128*128 ^ (n+1)+x%128*128 ^ n=x*128 ^ n:=by
    rw[acL,<-Nat.mul_assoc,Nat.mul_right_comm,<-acg]
    congr 1
    omega
   show su (aj (x/128)++t) (n+1) (y+x%128*128 ^ n)=_;rw[ih (x/128) ah (n+1) _ (fun _=>ah) ah ah,abc]
   congr 1
   rw[abl];omega
def ru (h:x<18446744073709551616) (t:List Int):uw (aj x++t)=some (x,(aj x).length):=by
 have:=Mf t x 0 0 (fun h=>absurd h ah) ah (by simpa using h);unfold uw;rw[this];simp
def BX:∀ (l:List Int) (n y z m:Nat),(∀ b∈l,0<=b/\b<256)->su l n y=some (z,m)->∃ x,z=y+x*128 ^ n/\n<m/\m-n<=l.length/\l.take (m-n)=aj x/\(0<n->0<x)/\x*128 ^ n<18446744073709551616
 | [],_,_,_,_,_,h=>by cases h
 | c::l,n,y,z,m,hb,h=>by
  have hc:=hb c (aa8 ..);have hl:∀ b∈l,0<=b/\b<256:=fun b h=>hb b (aaO _ h);have h:(if(n=9/\1<c)\/9<n then none else if c<128 then(if c=0/\0<n then none else some (y+c.toNat*128 ^ n,n+1))else su l (n+1) (y+(c.toNat%128)*128 ^ n))=some (z,m):=h;split at h
  .cases h
  .rename_i t;have d:128 ^ n<=9223372036854775808:=by
    rw[<-Pj];exact acP aA ah
   have a:n<9->128 ^ n<=72057594037927936:=fun hn=>by
    have:(128:Nat) ^ 8=72057594037927936:=by decide
    rw[<-this];exact acP aA ah
   split at h
   .rename_i e;split at h
    .cases h
    .rename_i h0;simp only[aaF,abl]at h;obtain⟨h1,h2⟩:=h;subst h1 h2;refine⟨c.toNat,rfl,ah,by rw[abc];omega,?_,ah,?_⟩
     .rw[show n+1-n=1 by omega,kz ah];show [c]=_;rw[acV hc.1]
     .rcases abn n 9 with hn | hn
      .have:=a hn
       calc c.toNat*128 ^ n<=127*72057594037927936:=adv ah this
        _<_:=by decide
      .have:c.toNat<=1:=ah
       calc c.toNat*128 ^ n<=1*9223372036854775808:=adv this d
        _<_:=by decide
   .rename_i e;obtain⟨x,e1,u,v,o,p,j⟩:=BX l (n+1) _ z m hl h;have hx:=p ah;have hdiv:(x*128+c.toNat%128)/128=x:=ah;have f:(x*128+c.toNat%128)%128=c.toNat%128:=ah;have hmul:(x*128+c.toNat%128)*128 ^ n=x*128 ^ (n+1)+(c.toNat%128)*128 ^ n:=by
     rw[acg,acL,Nat.mul_assoc x 128,acJ 128]
    refine⟨x*128+c.toNat%128,by rw[e1,hmul];omega,ah,by rw[abc];omega,?_,fun _=>ah,?_⟩
    .rw[show m-n=(m-(n+1))+1 by omega,List.take_succ_cons,o,jT (x:=x*128+c.toNat%128) ah,hdiv,f]
     congr 1
     omega
    .rw[hmul];have k:c.toNat%128*128 ^ n<128 ^ (n+1):=by
      rw[acL,acJ (128 ^ n)];exact Nat.mul_lt_mul_of_pos_right ah (Nat.pow_pos aA)
     have r:n<9:=ah;have g:∃ q,18446744073709551616=q*128 ^ (n+1):=by
      refine⟨2 ^ (64-7*(n+1)),?_⟩;have:(18446744073709551616:Nat)=2 ^ 64:=by decide
      rw[this,show(128:Nat)=2 ^ 7 by decide,<-Nat.pow_mul,<-ad0]
      congr 1;omega
     obtain⟨q,s⟩:=g;rw[s]at j ⊢;have i:x<q:=Nat.lt_of_mul_lt_mul_right j
     calc x*128 ^ (n+1)+c.toNat%128*128 ^ n<x*128 ^ (n+1)+128 ^ (n+1):=ah
      _=(x+1)*128 ^ (n+1):=by rw[adZ]
      _<=q*128 ^ (n+1):=acO _ i
def BV {l:List Int} (hb:∀ b∈l,0<=b/\b<256) (h:uw l=some (x,m)):0<m/\m<=l.length/\l.take m=aj x/\x<18446744073709551616:=by
 obtain⟨z,e1,a,c,d,_,e⟩:=BX l 0 0 x m hb h;have f:x=z:=by simpa using e1
 subst f;exact⟨a,by simpa using c,by simpa using d,by simpa using e⟩
def oH {x:Int} (h0:0<=x) (h1:x<18446744073709551616):IntKind.u64.wrap x=x:=by
 show Int.emod x 18446744073709551616=x;exact adA h0 h1
def Tq (x:Int):IntKind.u8.wrap x=x%256:=rfl
def CX (h:x<2 ^ w):(BitVec.ofInt w (x:Int)).toNat=x:=by
 rw[BitVec.toNat_ofInt,adA ah (by exact_mod_cast h),aar]
def Ny (h:c<256):cQ .and .u8 (c:Int) 127=((c%128:Nat):Int):=by
 show IntKind.u8.wrap (((BitVec.ofInt 8 (c:Int) &&&BitVec.ofInt 8 127).toNat:Nat):Int)=_;rw[BitVec.toNat_and,CX (by simpa using h),show(BitVec.ofInt 8 127).toNat=2 ^ 7-1 from rfl,Nat.and_two_pow_sub_one_eq_mod,Tq];have:c%2 ^ 7=c%128:=rfl;omega
def QQ (hx:x<18446744073709551616) (c:y<18446744073709551616):cQ .or .u64 (x:Int) (y:Int)=((x |||y:Nat):Int):=by
 show IntKind.u64.wrap (((BitVec.ofInt 64 (x:Int) |||BitVec.ofInt 64 (y:Int)).toNat:Nat):Int)=_;have a:x<2 ^ 64:=hx;have b:y<2 ^ 64:=c;rw[adq,CX a,CX b];have:=Nat.or_lt_two_pow a b
 exact oH (by omega) (by have e:(2:Nat) ^ 64=18446744073709551616:=by decide
                         omega)
def FP (b:y<2 ^ k):y |||(a*2 ^ k)=y+a*2 ^ k:=by
 rw[Nat.or_comm,<-Nat.shiftLeft_eq,<-adj b,acY]
def RO (k:Nat):(2:Nat) ^ (7*k)=128 ^ k:=by rw[Nat.pow_mul]
def W5 (b:y<128 ^ k) (hk:k<=9) (hc:c<256) (d:k=9->c<=1) :
 cQ .or .u64 (y:Int) (IntKind.u64.wrap (IntKind.u64.wrap (cQ .and .u8 (c:Int) 127)*2 ^ (min (IntKind.i64.wrap (7*(k:Int))).toNat 64)))=((y+c%128*128 ^ k:Nat):Int)/\y+c%128*128 ^ k<18446744073709551616:=by
 have a:128 ^ k<=9223372036854775808:=by
  rw[<-Pj];exact acP aA hk
 have i:c%128*128 ^ k<=9223372036854775808:=by
  rcases abn k 9 with h | h
  .have e:128 ^ k<=72057594037927936:=by
    have:(128:Nat) ^ 8=72057594037927936:=by decide
    rw[<-this];exact acP aA ah
   calc c%128*128 ^ k<=127*72057594037927936:=adv ah e
    _<=_:=by decide
  .have:c%128<=1:=by have:=d ah;omega
   calc c%128*128 ^ k<=1*9223372036854775808:=adv this a
    _<=_:=by decide
 have e1:(IntKind.i64.wrap (7*(k:Int))).toNat=7*k:=by rw[wrap_i64 ah ah];omega
 have f:min (7*k) 64=7*k:=ah;rw[Ny hc,e1,f,oH (x:=((c%128:Nat):Int)) ah ah];have g:((c%128:Nat):Int)*2 ^ (7*k)=((c%128*128 ^ k:Nat):Int):=by
  rw[<-RO];push_cast;rfl
 rw[g,oH ah ah,QQ ah ah,<-RO,FP (by rw[RO];exact b)];rw[RO];exact⟨rfl,ah⟩
set_option maxRecDepth 20000 in
def Xc:∀ v:Fin 256,v.val |||128=v.val%128+128:=by decide
def W1 : cQ .or .u8 (IntKind.u8.wrap (x:Int)) 128=((x%128+128:Nat):Int):=by
 have e:IntKind.u8.wrap (x:Int)=((x%256:Nat):Int):=by rw[Tq];omega
 rw[e];show IntKind.u8.wrap (((BitVec.ofInt 8 ((x%256:Nat):Int) |||BitVec.ofInt 8 128).toNat:Nat):Int)=_
 rw[BitVec.toNat_or,CX (w:=8) (by have e:(2:Nat) ^ 8=256:=by decide
                                  omega),show(BitVec.ofInt 8 128).toNat=128 from rfl,Xc ⟨x%256,adz _ aA⟩,Tq]
 show(((x%256%128+128:Nat)):Int)%256=_;omega
def Z9 : ((x:Int)).fdiv (2 ^ (7:Int).toNat)=((x/128:Nat):Int):=by
 rw[abX _ aA];rfl
end Go.Pk
namespace Go.Proofs.YtomdimlnggpgbaaGreatDoor
open Go Go.Sx Go.Pk
variable {x:Int}{j k n:Nat}
abbrev fp (x:Int):Int:=IntKind.u32.wrap x
def vc (x:Int):fp x=x%4294967296:=by
 unfold fp IntKind.wrap;simp [IntKind.bits,IntKind.signed]
def okW (x:Int):Prop:=0<=x/\x<4294967296
def AZ (x:Int):okW (fp x):=by
 rw[vc];unfold okW;omega
def qV (h:okW x):fp x=x:=by
 rw[vc];unfold okW at h;omega
def sH (x:Int):Int:=x/2+x%2*2147483648
def bS:Nat->Int->Int
 | 0,x=>x
 | n+1,x=>sH (bS n x)
def CF (x:Nat) (hx:x<4294967296):∀ n,n<=32->bS n (x:Int)=((x/2 ^ n+x%2 ^ n*2 ^ (32-n):Nat):Int)
 | 0,_=>by
  show(x:Int)=_;have:x/2 ^ 0+x%2 ^ 0*2 ^ (32-0)=x:=by simp [Nat.mod_one]
  rw[this]
 | n+1,h=>by
  have ih:=CF x hx n ah;show sH (bS n x)=_;rw[ih];obtain⟨T,hT⟩:∃ T,T=x/2 ^ n+x%2 ^ n*2 ^ (32-n):=⟨_,rfl⟩;rw[<-hT];have e1:sH (T:Int)=((T/2+T%2*2147483648:Nat):Int):=by unfold sH;omega
  rw[e1]
  congr 1
  have h2:2 ^ (32-n)=2*2 ^ (31-n):=by rw[show 32-n=(31-n)+1 by omega,acL,acJ]
  have hd:x/2 ^ (n+1)=x/2 ^ n/2:=by rw[acL,Nat.div_div_eq_div_mul]
  have hm:x%2 ^ (n+1)=x%2 ^ n+2 ^ n*(x/2 ^ n%2):=by rw[acL,Nat.mod_mul]
  have hp:2 ^ n*2 ^ (31-n)=2147483648:=by rw[<-ad0,show n+(31-n)=31 by omega]
  rw[hd,hm,show 32-(n+1)=31-n by omega,acg,Nat.mul_right_comm,hp];rw[h2]at hT;obtain⟨A,hA⟩:∃ A,A=x/2 ^ n:=⟨_,rfl⟩;obtain⟨B,hB⟩:∃ B,B=x%2 ^ n*2 ^ (31-n):=⟨_,rfl⟩;have hT:T=A+2*B:=by rw[hT,hA,hB,Nat.mul_left_comm]
  rw[<-hA,<-hB];omega
def GQ (h:okW x) (n:Nat) (hn:n<=32):okW (bS n x):=by
 obtain⟨h0,h1⟩:=h
 induction n with
 | zero=>exact⟨h0,h1⟩
 | succ n ih =>
  have:=ih ah;unfold okW at this ⊢;show 0<=sH (bS n x)/\sH (bS n x)<_;unfold sH;omega
def PM (h:okW x) (h1:1<=n) (h2:n<=31):cQ .or .u32 (IntKind.u32.wrap (x*2 ^ (32-n))) (x.fdiv (2 ^ n))=bS n x:=by
 obtain⟨h0,c⟩:=h;obtain⟨m,rfl⟩:∃ m:Nat,x=m:=⟨x.toNat,ah⟩;have hm:m<4294967296:=ah;rw[CF m hm n ah];have hp:2 ^ n*2 ^ (32-n)=4294967296:=by rw[<-ad0,show n+(32-n)=32 by omega]
 have d:IntKind.u32.wrap ((m:Int)*2 ^ (32-n))=((m%2 ^ n*2 ^ (32-n):Nat):Int):=by
  have e:((m:Int)*2 ^ (32-n))=((m*2 ^ (32-n):Nat):Int):=by push_cast;rfl
  show fp _=_;rw[e,vc];have:m*2 ^ (32-n)%4294967296=m%2 ^ n*2 ^ (32-n):=by rw[<-hp,Nat.mul_mod_mul_right]
  rw[<-this];rfl
 have hb:(m:Int).fdiv (2 ^ n)=((m/2 ^ n:Nat):Int):=by
  have:((2:Int) ^ n)=((2 ^ n:Nat):Int):=by push_cast;rfl
  rw[this,abX _ (acr _)];rfl
 rw[d,hb];have a:m/2 ^ n<2 ^ (32-n):=by
  rw[Nat.div_lt_iff_lt_mul (Nat.two_pow_pos n),acJ,hp];exact hm
 have b:(m%2 ^ n*2 ^ (32-n)) |||(m/2 ^ n)=m/2 ^ n+m%2 ^ n*2 ^ (32-n):=by
  rw[Nat.or_comm];exact FP a
 have f:m/2 ^ n<=m:=Nat.div_le_self _ _;have hs:m/2 ^ n+m%2 ^ n*2 ^ (32-n)<4294967296:=by
  have h1:m%2 ^ n<2 ^ n:=adz _ (Nat.two_pow_pos n);have h2:m%2 ^ n+1<=2 ^ n:=h1;have c:=acO (2 ^ (32-n)) h2;rw[hp,acg]at c;omega
 have hA:m%2 ^ n*2 ^ (32-n)<4294967296:=Nat.lt_of_le_of_lt (Nat.le_add_left _ _) hs;show IntKind.u32.wrap (((BitVec.ofInt 32 ((m%2 ^ n*2 ^ (32-n):Nat):Int)) |||(BitVec.ofInt 32 ((m/2 ^ n:Nat):Int))).toNat:Int)=_;have g:(BitVec.ofInt 32 ((m%2 ^ n*2 ^ (32-n):Nat):Int)).toNat=m%2 ^ n*2 ^ (32-n):=by
  rw[acv,acH,acC (by rw[show 2 ^ 32=4294967296 from rfl];exact hA)]
 have i:(BitVec.ofInt 32 ((m/2 ^ n:Nat):Int)).toNat=m/2 ^ n:=by
  rw[acv,acH,acC (by rw[show 2 ^ 32=4294967296 from rfl];omega)]
 rw[adq,g,i,b];exact qV ⟨acr _,Int.ofNat_lt.2 hs⟩
def xor_not (h:okW x):cQ .xor .u32 4294967295 x=4294967295-x:=by
 obtain⟨h0,a⟩:=h;obtain⟨m,rfl⟩:∃ m:Nat,x=m:=⟨x.toNat,ah⟩;have hm:m<4294967296:=ah;show IntKind.u32.wrap (((BitVec.ofInt 32 4294967295) ^^^ (BitVec.ofInt 32 (m:Int))).toNat:Int)=_;have e:(BitVec.ofInt 32 4294967295:BitVec 32)=BitVec.allOnes 32:=by decide
 rw[e,BitVec.allOnes_xor,BitVec.toNat_not,acv,acH,acC (by rw[show 2 ^ 32=4294967296 from rfl];omega)];show fp _=_;rw[qV ⟨ah,ah⟩];omega
def lN (a b c:Int):Int:=cQ .xor .u32 (cQ .xor .u32 a b) c
def jq (a b:Int):Int:=cQ .and .u32 a b
def loS (x:Int):Int:=lN (bS 7 x) (bS 18 x) (x/8)
def VL (x:Int):Int:=lN (bS 17 x) (bS 19 x) (x/1024)
def smE (x:Int):Int:=lN (bS 6 x) (bS 11 x) (bS 25 x)
def smA (x:Int):Int:=lN (bS 2 x) (bS 13 x) (bS 22 x)
def shC (e f g:Int):Int:=cQ .xor .u32 (jq e f) (jq (4294967295-e) g)
def shM (a b c:Int):Int:=cQ .xor .u32 (cQ .xor .u32 (jq a b) (jq a c)) (jq b c)
def GX (m:List Int) (k:Nat):Int:=fp (m.getD (4*k) 0*16777216+m.getD (4*k+1) 0*65536+m.getD (4*k+2) 0*256+m.getD (4*k+3) 0)
def CH (w:List Int) (i:Nat):Int:=fp (fp (fp (w.getD (i-16) 0+loS (w.getD (i-15) 0))+w.getD (i-7) 0)+VL (w.getD (i-2) 0))
def aR (m:List Int):Nat->List Int
 | 0=>[]
 | n+1=>aR m n++[if n<16 then GX m n else CH (aR m n) n]
def dY (m:List Int):∀ n,(aR m n).length=n
 | 0=>rfl
 | n+1=>by show(_++[_]).length=_;rw[aay,dY m n];rfl
def mz (m:List Int):∀ (n j:Nat),j<n->(aR m n).getD j 0=if j<16 then GX m j else CH (aR m j) j
 | n+1,j,h=>by
  show(aR m n++[_]).getD j 0=_;rw[aaD];by_cases a:j<n
  .rw[aa0 (by rw[dY];exact a),<-aaD];exact mz m n j a
  .have:j=n:=ah;subst this;rw[aaQ (by rw[dY];omega),dY,adG];rfl
def Gy (m:List Int) (h1:j<n) (h2:j<k):(aR m n).getD j 0=(aR m k).getD j 0:=by
 rw[mz m n j h1,mz m k j h2]
def D5:List Int:=[1116352408,1899447441,3049323471,3921009573,961987163,1508970993,2453635748,2870763221,3624381080,310598401,607225278,1426881987,1925078388,2162078206,2614888103,3248222580,3835390401,4022224774,264347078,604807628,770255983,1249150122,1555081692,1996064986,2554220882,2821834349,2952996808,3210313671,3336571891,3584528711,113926993,338241895,666307205,773529912,1294757372,1396182291,1695183700,1986661051,2177026350,2456956037,2730485921,2820302411,3259730800,3345764771,3516065817,3600352804,4094571909,275423344,430227734,506948616,659060556,883997877,958139571,1322822218,1537002063,1747873779,1955562222,2024104815,2227730452,2361852424,2428436474,2756734187,3204031479,3329325298]
abbrev Wd:=Nat->Int
def I8 (v:Wd) (k w:Int):Int:=fp (fp (fp (fp (v 7+smE (v 4))+shC (v 4) (v 5) (v 6))+k)+w)
def QA (v:Wd):Int:=fp (smA (v 0)+shM (v 0) (v 1) (v 2))
def uO (v:Wd) (k w:Int):Wd:=fun j=>match j with
 | 0=>fp (I8 v k w+QA v)
 | 4=>fp (v 3+I8 v k w)
 | j+1=>v j
def dL (v:Wd) (w:List Int):Nat->Wd
 | 0=>v
 | n+1=>uO (dL v w n) (D5.getD n 0) (w.getD n 0)
def pN (v:Wd) (m:List Int):Wd:=fun j=>fp (v j+dL v (aR m 64) 64 j)
def fc:Wd:=fun j=>[1779033703,3144134277,1013904242,2773480762,1359893119,2600822924,528734635,1541459225].getD j 0
def TC (x:Nat):List Int:=(List.range 8).map fun i=>((x/2 ^ (8*(7-i))%256:Nat):Int)
def gS (b:List Int):List Int:=b++[128]++List.replicate ((119-b.length%64)%64) 0++TC (8*b.length)
def ot (v:Wd) (all:List Int):Nat->Wd
 | 0=>v
 | n+1=>pN (ot v all n) ((all.drop (64*n)).take 64)
def D6 (b:List Int):Wd:=ot fc (gS b) ((gS b).length/64)
def gU (b:List Int):List Int:=(List.range 32).map fun i=>D6 b (i/4)/2 ^ (24-8*(i%4))%256
def gE (b:List Int):(gU b).length=32:=by simp [gU]
def Cu (b:List Int):∀ z∈gU b,0<=z/\z<256:=fun z a=>by
 unfold gU at a;obtain⟨i,_,rfl⟩:=abb.1 a;omega
def xd (b:List Int):(gS b).length=b.length+9+(119-b.length%64)%64/\(gS b).length%64=0:=by
 have h:(gS b).length=b.length+9+(119-b.length%64)%64:=by
  unfold gS TC;simp only[aay,aby,aaT,ab5,abc,abt];omega
 exact⟨h,by rw[h];omega⟩
def th {v:Wd} (h:∀ j,j<8->okW (v j)) (w:List Int):∀ n j,j<8->okW (dL v w n j)
 | 0,j,a=>h j a
 | n+1,j,a=>by
  have ih:=th h w n;show okW (uO _ _ _ j);unfold uO;split
  .exact AZ _
  .exact AZ _
  .exact ih _ ah
def Rn {v:Wd} (h:∀ j,j<8->okW (v j)) (all:List Int):∀ n j,j<8->okW (ot v all n j)
 | 0,j,a=>h j a
 | n+1,j,a=>AZ _
def I5:∀ j,j<8->okW (fc j):=by unfold okW;decide
end Go.Proofs.YtomdimlnggpgbaaGreatDoor
namespace Go.Proofs.YtomdimlnggpgbaaGreatDoor.D
open Go Go.Sx
variable {es:Array MapEntry}{f g:E}{H:Hl}{bO i:Int}{a clock m n s:Nat}
def aC:r8:=fun _=>none
def aL (l:List Int) (b:Bool) (hs:List Hl):Env:=⟨fun k=>l.getD k 0,fun _=>b,fun _=>.empty,fun _=>.tuple #[],fun k=>hs.getD k Hl.none⟩
def L8 {k:IntKind} {l:List (Int×Value)} (h:iI k es l) (hn:gX i l 0=none) (v:Value) (hs:MapKept.Stamped es clock) :
 ∃ es',sW (.int k) (.int k i) v es clock=.map es' (clock+1)/\iI k es' (l++[(i,v)])/\MapKept.Stamped es' (clock+1):=by
 refine⟨es.push ⟨.int k i,v,clock⟩,?_,?_,MapKept.stamped_push hs fun x hx he=>?_⟩
 .unfold sW;rw[je h,hn]
 .unfold iI at h ⊢;rw[Array.toList_push,aba,aba,h];rfl
 .have:(x.key,x.val)∈l.map fun p=>(Value.int k p.1,p.2):=by
   rw[<-show es.toList.map (fun e=>(e.key,e.val))=_ from h];exact abb.2 ⟨x,hx,rfl⟩
  obtain⟨q,a,e⟩:=abb.1 this;have h1:=zQ.1 hn q a;rw[abl]at e;rw[he]at e;exact h1 (Value.int.inj e.1).2
structure DM where
 n:Nat
 now:List Int
 loose:List (Int×List Int)
 bO:Int
 gone:Bool
structure DM.ok (D:DM):Prop where
 now:D.now.length=64*D.n
 n:D.n<=16384
 f0:-1<=D.bO
 f1:D.bO<=9223372036854775807
 loose:∀ p∈D.loose,p.2.length=64/\0<=p.1/\p.1<D.n
def lv (l:List (Int×List Int)):List (Int×Value):=l.map fun p=>(p.1,.agg (aM p.2).toArray)
def kc (a s m n:Nat) (bO:Int) (gone:Bool):Hl:=Hl.one a (.cells #[.slice (some ⟨s,0,none⟩) n n,.map (some m),.int .i64 bO,.bool gone] 93 (0,0))
def jP (s:Nat) (now:List Int):Hl:=Hl.one s (.cells (aM now).toArray 119 (0,0))
structure sI (H:Hl) (a s m:Nat) (es:Array MapEntry) (clock:Nat) (D:DM):Prop where
 ok:D.ok
 map:iI .i64 es (lv D.loose)
 st:MapKept.Stamped es clock
 nas:a≠s
 nam:a≠m
 nsm:s≠m
 hl:H=di [kc a s m D.n D.bO D.gone,jP s D.now,Hl.one m (.map es clock)]
def aD (H:Hl) (v:Value) (D:DM):Prop:=∃ a s m es clock,v=.pointer (some ⟨a,0,none⟩)/\sI H a s m es clock D
def tV:Mem:=[.bj 0 [.sl (.var 6) (.var 7) (.var 8) (.var 9),.map (.var 10),.int .i64 (.var 11),.bool (.bvar 12)] 93,.hp 13 [] [.var 6] [],.hp 14 [] [.var 10] []]
def nT (a s m:Nat) (D:DM) (l:List Int) (es:Array MapEntry) (clock:Nat) (R:Hl):Env :=
 aL (([(a:Int)]++l++[(s:Int),0,D.n,D.n,m,D.bO])) D.gone (List.replicate 13 Hl.none++[jP s D.now,Hl.one m (.map es clock),R])
def NP {q:Env} {gone:Bool} (h0:q.i 0=a) (c:q.i 6=s) (d:q.i 7=0) (e:q.i 8=n) (h:q.i 9=n) (b:q.i 10=m) (hf:aB q f=bO) (j:bh q g=gone) :
 (bL.bj 0 [.sl (.var 6) (.var 7) (.var 8) (.var 9),.map (.var 10),.int .i64 f,.bool g] 93).hl q=kc a s m n bO gone:=by
 simp only[bL.hl,aaY,abN,CV.ev,al,h0,c,d,e,h,b,hf,j,aar];rw[au ah,aaG ah];rfl
def yQ {D:DM} (h:sI H a s m es clock D) (l:List Int) (hl:l.length=5) (R:Hl):Entry (nT a s m D l es clock R) tV [H] []:=by
 obtain⟨x1,b,c,d,e,rfl⟩:∃ x1 b c d e,l=[x1,b,c,d,e]:=by
  match l,hl with
  | [x1,b,c,d,e],_=>exact⟨x1,b,c,d,e,rfl⟩
 have hb:(bL.bj 0 [.sl (.var 6) (.var 7) (.var 8) (.var 9),.map (.var 10),.int .i64 (.var 11),.bool (.bvar 12)] 93).hl (nT a s m D [x1,b,c,d,e] es clock R)=kc a s m D.n D.bO D.gone:=NP rfl rfl rfl rfl rfl rfl rfl rfl;have d1:(kc a s m D.n D.bO D.gone).bV (jP s D.now):=Hl.jh h.nas;have d2:(kc a s m D.n D.bO D.gone).bV (Hl.one m (.map es clock)):=Hl.jh h.nam;have d3:(jP s D.now).bV (Hl.one m (.map es clock)):=Hl.jh h.nsm;obtain⟨f,g,i⟩:=Dl d1 d2 d3;refine⟨fun r hr ho=>⟨H,aF,?_⟩,fun r hr ho=>?_,?_,fun r hr=>?_⟩
 .rw[h.hl];simp only[tV,aaN,aaX,abC]at hr;rcases hr with rfl | rfl | rfl
  .rw[hb];exact f
  .exact g
  .exact i
 .simp only[tV,aaN,aaX,abC]at hr;rcases hr with rfl | rfl | rfl<;>cases ho
 .unfold tV;refine List.Pairwise.cons (fun r hr _ _=>?_) (List.Pairwise.cons (fun r hr _ _=>?_) (List.Pairwise.cons (fun r hr=>by cases hr) List.Pairwise.nil))
  .rw[hb];simp only[aaN,aaX,abC]at hr;rcases hr with rfl | rfl
   .exact d1
   .exact d2
  .simp only[aaN,aaX,abC]at hr;subst hr;exact d3
 .simp only[tV,aaN,aaX,abC]at hr;rcases hr with rfl | rfl | rfl
  .show(0:Int)<=(a:Int);omega
  .trivial
  .trivial
def JI {D:DM} (h:sI H a s m es clock D) (l:List Int) (hl:l.length=5) (R:Hl) (t:List E):Entry (nT a s m D l es clock R) (tV++[.ro 15 t false]) [H] [R]:=by
 obtain⟨h1,h2,b,c⟩:=yQ h l hl R;refine⟨fun r hr ho=>?_,fun r hr ho=>?_,?_,fun r hr=>?_⟩
 .rcases aa4.1 hr with hr | hr
  .exact h1 r hr ho
  .rw[aaJ]at hr;subst hr;cases ho
 .rcases aa4.1 hr with hr | hr
  .obtain⟨R,d,_⟩:=h2 r hr ho;cases d
  .rw[aaJ]at hr;subst hr;exact⟨R,aF,Hl.le_refl _⟩
 .rw[adM];refine⟨b,aF,fun r _ s hs _ ho=>?_⟩;rw[aaJ]at hs;subst hs;cases ho
 .rcases aa4.1 hr with hr | hr
  .exact c r hr
  .rw[aaJ]at hr;subst hr;trivial
def ga (n:Int):Nat:=(min (max n 0) 16384).toNat
def eJ (n:Int):DM:=⟨ga n,List.replicate (64*ga n) 0,[],-1,false⟩
def Iu:Sx.Spec where
 fn:=12
 own:=[]
 rd:=[]
 res:=[.one .ptr]
 pre:=fun xs Hs Rs=>∃ n,xs=[.int .i64 n]
 post:=fun xs Hs Rs v Hs' F=>∃ n,xs=[.int .i64 n]/\aD F v (eJ n)
def Mc:aG Tryz.prog [] Iu.fn where
 Λ:=aC
 args:=[TI .i64 (.var 0)]
 mem:=[]
 nv:=1
def OO (k n:Nat) (hk:0<k) (z:Value):madeCells (List.replicate k z).toArray n=(List.replicate n z).toArray:=by
 apply Array.ext
 .simp [madeCells]
 .intro i h1 h2;simp [madeCells,ack,adz _ hk]
def Ik (n:Nat):madeCells (List.replicate 64 (Value.int .u8 0)).toArray (n*64)=(aM (List.replicate (64*n) 0)).toArray:=by
 rw[OO 64 _ ah,acJ];unfold aM;rw[ac3]
def Kk:Iu.OK Tryz.prog:=by
 refine Spec.aV (Γ:=[]) (fun _ h=>by cases h) ?_;rintro xs Hs Rs l o ⟨n,rfl⟩;have w:Hs=[]:=aaz.1 l;have e1:Rs=[]:=aaz.1 o;subst w;subst e1;refine⟨Mc,aL [n] false [],fun _ _=>True,fun _ _=>0,?_,⟨?_,?_,?_,?_⟩,(fun _ h=>nomatch h),?_⟩
 .simp [Mc,TI,TV.ev,SV.ev,CV.ev,al,aL]
 .intro r hr;simp [Mc]at hr
 .intro r hr;simp [Mc]at hr
 .simp [Mc]
 .intro r hr;simp [Mc]at hr
 .refine aG.read [] [] [] ?_;simp only[go_sem,Nat.reduceAdd];have e:(if(16384:Int)<if n<0 then 0 else n then 16384 else if n<0 then 0 else n)=(ga n:Int):=by
   unfold ga;split<;>split<;>omega
  have hs:ga n<=16384:=by unfold ga;omega
  have q:(aL [n] false []).i 0=n:=rfl;rw[q];simp only[e];refine⟨⟨ah,ah,ah⟩,fun q1 x ⟨p1,f⟩ q2 t ⟨p2,g⟩ b j p3 hd=>?_⟩;have i0:b.i 0=n:=by rw[j.i 0,t.i 0,x.i 0];rfl
  have i1:b.i 1=q1.i 1:=by rw[j.i 1,t.i 1]
  have i2:b.i 2=q2.i 2:=by rw[j.i 2]
  obtain⟨s,u⟩:=abY p1;obtain⟨m,v⟩:=abY p2;obtain⟨a,k⟩:=abY p3;rw[u]at i1 f;rw[v]at i2 g;rw[aar]at f g;have y:(List.replicate 64 (CV.int IntKind.u8 (E.lit 0))).map (CV.ev (aL [n] false []))=List.replicate 64 (Value.int .u8 0):=rfl;rw[y]at f;have h1:b.h 1=jP s (eJ n).now:=by
   rw[j.h 1,t.h 1,f,aby,aar,Ik];rfl
  have h2:b.h 2=Hl.one m (.map #[] 0):=by rw[j.h 2,g]
  have z:(bL.bj 3 [.sl (.var 1) (.lit 0) (.ite (.lt (.lit 16384) (.ite (.lt (.var 0) (.lit 0)) (.lit 0) (.var 0))) (.lit 16384) (.ite (.lt (.var 0) (.lit 0)) (.lit 0) (.var 0))) (.ite (.lt (.lit 16384) (.ite (.lt (.var 0) (.lit 0)) (.lit 0) (.var 0))) (.lit 16384) (.ite (.lt (.var 0) (.lit 0)) (.lit 0) (.var 0))),.map (.var 2),.int .i64 (.lit (-1)),.bool .ff] 93).hl b=kc a s m (ga n) (-1) false:=by
   simp only[bL.hl,aaY,abN,CV.ev,se,r9,jZ,kP,jr,sd,nx,mO,pG,gM,nj,ny,sa,nq,np,j7,nu,ak,al,bQ,dm,cG,bP,cO,fh,fG,fS,iT,gy,iE,fY,du,nz,aaB,i0,i1,i2,k,e,aar];rw[au ah,aaG ah];rfl
  have c:=hd 0 1 _ _ aA rfl rfl rfl;have d:=hd 0 2 _ _ aA rfl rfl rfl;have d12:=hd 1 2 _ _ aA rfl rfl rfl;rw[z]at d d12;have c:(b.h 1).bV (b.h 2):=c;have d:(b.h 1).bV (kc a s m (ga n) (-1) false):=d;have d12:(b.h 2).bV (kc a s m (ga n) (-1) false):=d12;rw[h1]at c d;rw[h2]at c d12;have nsm:s≠m:=fun e=>Hl.gJ.1 c (Hl.dJ.2 e);have nas:a≠s:=fun e=>Hl.gJ.1 d (Hl.dJ.2 e.symm);have nam:a≠m:=fun e=>Hl.gJ.1 d12 (Hl.dJ.2 e.symm);refine⟨[],[2,0,1],rfl,rfl,⟨b.gf 0 (b.i 3) |>.gf 1 0,rfl,⟨by show -1<=b.i 3;omega,aaM _⟩,zzT⟩,n,rfl,a,s,m,#[],0,?_,⟨⟨?_,hs,by show(-1:Int)<= -1;omega,by show(-1:Int)<=_;omega,fun p hp=>by cases hp⟩,rfl,MapKept.stamped_empty _,nas,nam,nsm,?_⟩⟩
  .simp only[TV.ev,SV.ev,CV.ev,al,ak,k];rw[au ah];rfl
  .show(List.replicate (64*ga n) (0:Int)).length=_;rw[aby];rfl
  .show di [_,b.h 1,b.h 2]=_;rw[h1,h2]
   congr 1
   congr 1
end Go.Proofs.YtomdimlnggpgbaaGreatDoor.D
