/- A symbolic executor of functions that make, turn and share memory: regions that draw their order, contracts of walks. What it tells of a piece of code is proved to be what the machine does. -/
import Derived.Orders
import Derived.Test.YtomdimlnggpgbaaGreatDoorRows
import Derived.MapKept
import Derived.Test.YtomdimlnggpgbaaGreatDoorCb
set_option linter.unusedSimpArgs false
set_option linter.unusedVariables false
set_option linter.constructorNameAsVariable false
namespace Go.Sx
open Go
def Bd (o:Oper):List Nat:=(o.after.toList.filter fun e=>Region.binds .any e).map (·.on)
def fj (ops:List Oper) (i:Nat):List Nat:=match ops[i]? with
 | some o=>Bd o
 | none=>[]
def Hf:List Oper→List (List Nat)→List (List Nat)
 | [],acc=>acc
 | o::l,acc=>Hf l (acc++[((Bd o)++(Bd o).flatMap fun e=>acc.getD e []).eraseDups])
def jj (ops:List Oper) (A:List (List Nat)):Bool :=
 (List.range ops.length).all fun i=>((A.getD i []).all fun j=>(fj ops i).contains j||(fj ops i).any fun e=>(A.getD e []).contains j)&&(fj ops i).all fun e=>decide (e<i)
def du (ops:List Oper) (i:Nat):Option Tmp:=(ops[i]?).bind (·.dst)
def cD (ops:List Oper) (i:Nat):Bool:=match ops[i]? with
 | some o=>match o.op,o.guard,o.dst with
  | .alloc _,none,some _=>(Bd o).isEmpty
  | _,_,_=>false
 | none=>false
def EF:CV→CV→Bool
 | .int k e,.int k' e'=>decide (k=k')&&decide (e=e')
 | .bool e,.bool e'=>decide (e=e')
 | .str e,.str e'=>decide (e=e')
 | .pti a o s n i,.pti a' o' s' n' i'=>a==a'&&o==o'&&s==s'&&n==n'&&decide (i=i')
 | .hptr x y,.hptr x' y'=>decide (x=x')&&decide (y=y')
 | .sl x y l c,.sl x' y' l' c'=>decide (x=x')&&decide (y=y')&&decide (l=l')&&decide (c=c')
 | .map x,.map x'=>decide (x=x')
 | .vr j,.vr k=>j==k
 | .hv h x y j,.hv h' x' y' j'=>h==h'&&decide (x=x')&&decide (y=y')&&j==j'
 | .val v,.val v'=>xn v v'
 | _,_=>false
theorem Ad {a b:CV} (h:EF a b=true):a=b:=by
 unfold EF at h
 split at h<;>(try simp only[Bool.and_eq_true,decide_eq_true_eq,beq_iff_eq]at h)<;>first | (cases h;done) | skip
 ·obtain⟨rfl,rfl⟩:=h;rfl
 ·rw[h]
 ·rw[h]
 ·obtain⟨⟨⟨⟨rfl,rfl⟩,rfl⟩,rfl⟩,rfl⟩:=h;rfl
 ·obtain⟨rfl,rfl⟩:=h;rfl
 ·obtain⟨⟨⟨rfl,rfl⟩,rfl⟩,rfl⟩:=h;rfl
 ·rw[h]
 ·rw[h]
 ·obtain⟨⟨⟨rfl,rfl⟩,rfl⟩,rfl⟩:=h;rfl
 ·rw[rD h]
def Gd {α:Type} (f:α→α→Bool):List α→List α→Bool
 | [],[]=>true
 | a::l,b::m=>f a b&&Gd f l m
 | _,_=>false
theorem yo {α:Type} {f:α→α→Bool} (hf:∀ a b,f a b=true→a=b):∀ {l m:List α},Gd f l m=true→l=m
 | [],[],_=>rfl
 | a::l,b::m,h=>by
  simp only[Gd,Bool.and_eq_true]at h
  rw[hf a b h.1,yo hf h.2]
 | [],_::_,h=>by simp [Gd]at h
 | _::_,[],h=>by simp [Gd]at h
def Ag:SV→SV→Bool
 | .one a,.one b=>EF a b
 | .agg l,.agg m=>Gd EF l m
 | _,_=>false
theorem wg {a b:SV} (h:Ag a b=true):a=b:=by
 unfold Ag at h;split at h
 ·rw[Ad h]
 ·rw[yo (fun _ _=>Ad) h]
 ·cases h
def Gf:TV→TV→Bool
 | .sv a,.sv b=>Ag a b
 | .tup l,.tup m=>Gd Ag l m
 | _,_=>false
theorem EG {a b:TV} (h:Gf a b=true):a=b:=by
 unfold Gf at h;split at h
 ·rw[wg h]
 ·rw[yo (fun _ _=>wg) h]
 ·cases h
def I6:Option TV→Option TV→Bool
 | some a,some b=>Gf a b
 | none,none=>true
 | _,_=>false
theorem Ge {a b:Option TV} (h:I6 a b=true):a=b:=by
 unfold I6 at h;split at h
 ·rw[EG h]
 ·rfl
 ·cases h
def fl (P:Program) (ops:List Oper) (s:St) (o:Oper):Option (E×Option TV) :=
 match nP ops s o with
 | none=>none
 | some none=>(quiet P s o.op).map fun r=>(r.1,some r.2)
 | some (some (e,want))=>match known s.path e with
  | some b=>if b=want then(quiet P s o.op).map fun r=>(r.1,some r.2)else some (.tt,some ve)
  | none=>none
def xK (ops:List Oper) (A:List (List Nat)) (i:Nat) (st:St):St :=
 let hid:=(List.range ops.length).filterMap fun j=>if(A.getD i []).contains j then none else du ops j
 {st with tmps:=kC (fun t v=>match v with | none=>none | some u=>if hid.contains t then none else some u) 0 st.tmps}
structure pr where
 i:Nat
 snap:St
 n:E
 v:Option TV
structure Dr where
 st:St
 done:List Nat
 late:List pr
def Hp (P:Program) (ops:List Oper) (A:List (List Nat)) (D:Dr):Option Nat :=
 (List.range ops.length).find? fun i=>!D.done.contains i&&!cD ops i&&(fj ops i).all D.done.contains&&match ops[i]? with
  | some o=>(fl P ops (xK ops A i D.st) o).isSome
  | none=>false
def J9 (ops:List Oper) (A:List (List Nat)) (D:Dr) (i:Nat):Option E :=
 match ops[i]? with
 | some o=>match nP ops (xK ops A i D.st) o with
  | some (some (e,_))=>match known D.st.path e with
   | none=>some e
   | _=>none
  | _=>none
 | none=>none
def Hq (ops:List Oper) (A:List (List Nat)) (D:Dr):Option E :=
 (List.range ops.length).findSome? fun i=>if !D.done.contains i&&!cD ops i&&(fj ops i).all D.done.contains then J9 ops A D i else none
def oC (ops:List Oper) (D:Dr):List Nat :=
 (List.range ops.length).filter fun i=>!D.done.contains i&&!cD ops i&&(fj ops i).all fun e=>D.done.contains e||cD ops e
def pr.upto (n:Nat) (f:pr):Bool:=f.snap.tmps.all (DJ (·.upto n))&&f.snap.path.all (·.upto n)&&f.n.upto n
def Dr.upto (D:Dr):Bool:=D.st.upto D.st.nv&&D.late.all (pr.upto D.st.nv)
def ox (ops:List Oper) (s:St) (o:Oper):Bool :=
 match nP ops s o with
 | some none=>true
 | some (some (e,want))=>known s.path e==some want
 | none=>false
def sP (P:Program) (ops:List Oper) (mem:Mem) (f:pr):Bool :=
 match ops[f.i]? with
 | some o=>match fl P ops {f.snap with mem:=mem} o with
  | some (n,v)=>decide (n=f.n)&&I6 v f.v
  | none=>false
 | none=>false
def m8 (P:Program) (ops:List Oper) (D:Dr) (j:Nat):Option Dr :=
 match ops[j]? with
 | some o=>match o.op,o.dst with
  | .alloc t,some d=>match iQ P t with
   | some z=>if D.upto&&cD ops j&&D.late.all (sP P ops (D.st.mem++[.aS D.st.nv (z.cells.toList.map fE) t]))then
    some ⟨({D.st with mem:=D.st.mem++[.aS D.st.nv (z.cells.toList.map fE) t],nv:=D.st.nv+1} : St).put (some d) (some (TP (.var D.st.nv) (.lit 0))),j::D.done,D.late⟩
    else none
   | none=>none
  | _,_=>none
 | none=>none
def Kj (mem mem':Mem):Bool:=mem'.all fun r=>match r with
 | .ro k _ _=>mem.any fun s=>match s with
  | .ro k' _ _=>k==k'
  | _=>false
 | _=>true
def tV (P:Program) (Γ:List Spec) (ops:List Oper) (A:List (List Nat)) (D:Dr) (c:Nat):Option (Dr×XR) :=
 match ops[c]? with
 | some o =>
  let s:=xK ops A c D.st
  if ox ops s o then match EH P Γ s o with
   | some R =>
    let late:=D.late.filter fun f=>!(A.getD c []).contains f.i
    if D.upto&&decide (D.st.nv≤R.st.nv)&&Kj D.st.mem R.st.mem&&late.all (sP P ops R.st.mem)then
     some (⟨({D.st with mem:=R.st.mem,nv:=R.st.nv} : St).put o.dst (match o.dst with | some d=>R.st.tmps.getD d none | none=>none),c::D.done,late⟩,R)
    else none
   | none=>none
  else none
 | none=>none
def FA (ops:List Oper) (A:List (List Nat)) (c:Nat):Bool:=(List.range ops.length).all fun i=>i==c||(A.getD c []).contains i
def nA (ops:List Oper) (A:List (List Nat)):List Nat→Bool
 | []=>true
 | r::l=>decide (r<ops.length)&&!l.contains r&&((List.range ops.length).all fun i=>i==r||l.contains i||(A.getD r []).contains i)&&nA ops A l
def DV (ops:List Oper) (A:List (List Nat)) (c:Nat):List Nat:=(List.range ops.length).filter fun i=>!(i==c)&&!(A.getD c []).contains i
def Fg (P:Program) (Γ:List Spec) (ex:Ex) (d:Nat) (ops:List Oper):List Nat→St→(St→Option Nd)→Option Nd
 | [],st,k=>k st
 | r::l,st,k=>match ops[r]? with
  | some o=>if ox ops st o then ny P Γ ex d o st fun s=>if st.nv≤s.nv then Fg P Γ ex d ops l s k else none else none
  | none=>none
def zV:List (Option Nd)→Option Nd
 | []=>some .tt
 | some a::l=>(zV l).map (j6 a)
 | none::_=>none
def Gw (P:Program) (ops:List Oper) (A:List (List Nat)) (D:Dr) (c:Nat):Option (Dr×X) :=
 match ops[c]? with
 | some o=>match sW P (xK ops A c D.st) o with
  | some (s,x)=>if D.upto&&D.late.all (sP P ops s.mem)then some ({D with st:={D.st with mem:=s.mem,nv:=s.nv}},x)else none
  | none=>none
 | none=>none
def jZ (P:Program) (Γ:List Spec) (ex:Ex) (d:Nat) (ops:List Oper) (A:List (List Nat)):Nat→Dr→(St→Option Nd)→Option Nd
 | 0,_,_=>none
 | m+1,D,k =>
  match Hp P ops A D with
  | some i=>match ops[i]? with
   | some o =>
    let s:=xK ops A i D.st
    match fl P ops s o with
    | some (n,v) =>
     let cs:=wK D.st.path n
     (jZ P Γ ex d ops A m ⟨({D.st with path:=cs++D.st.path} : St).put o.dst v,i::D.done,⟨i,s,n,v⟩::D.late⟩ k).map (nf cs)
    | none=>none
   | none=>none
  | none=>match Hq ops A D with
   | some e=>match jZ P Γ ex d ops A m {D with st:={D.st with path:=e::D.st.path}} k,jZ P Γ ex d ops A m {D with st:={D.st with path:=mkNot e::D.st.path}} k with
    | some a,some b=>some (j6 (oQ e a) (oQ (mkNot e) b))
    | _,_=>none
   | none=>match oC ops D with
    | []=>match(List.range ops.length).find? fun i=>!D.done.contains i with
     | none=>k D.st
     | some j=>match m8 P ops D j with
      | some D'=>(jZ P Γ ex d ops A m D' k).map fun nd=>.ext (.alloc D.st.nv) nd
      | none=>none
    | [c]=>match(fj ops c).find? fun e=>!D.done.contains e with
     | some j=>match m8 P ops D j with
      | some D'=>(jZ P Γ ex d ops A m D' k).map fun nd=>.ext (.alloc D.st.nv) nd
      | none=>none
     | none=>match Gw P ops A D c with
      | some (D',x)=>(jZ P Γ ex d ops A m D' k).map fun nd=>.ext x nd
      | none=>match tV P Γ ops A D c with
      | some (D',R)=>(jZ P Γ ex d ops A m D' k).map fun nd=>j6 R.need (match R.x with | some x=>.ext x nd | none=>nd)
      | none=>match ops[c]? with
       | some o=>if ox ops (xK ops A c D.st) o&&FA ops A c then ny P Γ ex d o (xK ops A c D.st) k else if ox ops (xK ops A c D.st) o&&nA ops A (c::DV ops A c)then ny P Γ ex d o (xK ops A c D.st) fun s=>if D.st.nv≤s.nv then Fg P Γ ex d ops (DV ops A c) s k else none else none
       | none=>none
    | c1::c2::cs=>if((c1::c2::cs).all fun c=>(fj ops c).all D.done.contains)=true then
     zV ((c1::c2::cs).map fun c=>match tV P Γ ops A D c with
      | some (D',R)=>(jZ P Γ ex d ops A m D' k).map fun nd=>j6 R.need (match R.x with | some x=>.ext x nd | none=>nd)
      | none=>none)
     else none
def iu (ops:List Oper) (st:St):St :=
 let hid:=(List.range ops.length).filterMap fun j=>if cD ops j then du ops j else none
 {st with tmps:=kC (fun t v=>match v with | none=>none | some u=>if hid.contains t then none else some u) 0 st.tmps}
def nX:List (Option Tmp)→Bool
 | []=>true
 | none::l=>nX l
 | some t::l=>!l.contains (some t)&&nX l
def El (P:Program) (ops:List Oper):Bool:=ops.all fun o=>match o.op with
 | .alloc t=>(iQ P t).isSome
 | _=>true
def dk (P:Program) (Γ:List Spec):Dk:=fun ex d ops st k =>
 let A:=Hf ops []
 if jj ops A&&nX (ops.map (·.dst))&&P.follows .mixedOrders&&El P ops then jZ P Γ ex d ops A (3*ops.length+10) ⟨iu ops st,[],[]⟩ (fun s=>if st.nv≤s.nv then k s else none)else none
end Go.Sx
namespace Go.Sx
open Go
section
variable {P:Program} {C:Ctx} {S:Nat→Prop} {w0:World} {ρ ρ':Env} {ops:List Oper} {A:List (List Nat)} {D:Dr} {L:Array Bool} {pl:Nat→Nat} {a:Act} {w w':World}
theorem k6 (hc:jj ops A=true) {i:Nat} (hi:i<ops.length):(∀ j∈A.getD i [],j∈fj ops i∨∃ e∈fj ops i,j∈A.getD e [])∧∀ e∈fj ops i,e<i:=by
 unfold jj at hc
 rw[List.all_eq_true]at hc
 have:=hc i (List.mem_range.2 hi)
 simp only[Bool.and_eq_true,List.all_eq_true,Bool.or_eq_true,List.any_eq_true,decide_eq_true_eq,List.contains_iff_mem]at this
 exact this
theorem dS (hc:jj ops A=true) {p:Nat→Prop} (hp:∀ i,p i→∀ e∈fj ops i,p e):∀ i,i<ops.length→(∀ e∈fj ops i,p e)→∀ j∈A.getD i [],p j:=by
 intro i
 induction i using Nat.strongRecOn with
 | _ i ih =>
  intro hi he j hj
  obtain⟨h1,h2⟩:=k6 hc hi
  rcases h1 j hj with h | ⟨e,hee,hje⟩
  ·exact he j h
  ·exact ih e (h2 e hee) (Nat.lt_trans (h2 e hee) hi) (hp e (he e hee)) j hje
structure tH (P:Program) (ops:List Oper) (A:List (List Nat)) (ρ:Env) (D:Dr) (L:Array Bool) (a:Act) (f:pr):Prop where
 fl:∃ o,ops[f.i]?=some o∧Sx.fl P ops {f.snap with mem:=D.st.mem} o=some (f.n,f.v)
 need:bo ρ f.n=true
 path:Path ρ f.snap.path
 len:f.snap.tmps.length=D.st.tmps.length
 slots:∀ (t:Nat) u,f.snap.tmps[t]?=some (some u)→(∃ g∈D.late,L.getD g.i false=false∧du ops g.i=some t∧g.i∈A.getD f.i [])∨a.tmps[t]?=some (u.ev ρ)
 hid:∀ (j:Nat) t,j<ops.length→du ops j=some t→j∉A.getD f.i []→∀ u,f.snap.tmps[t]?≠some (some u)
 bS:∀ h∈D.late,h.i∈A.getD f.i []→∀ t u,du ops h.i=some t→f.snap.tmps[t]?=some (some u)→h.v=some u
 sub:∀ j∈A.getD f.i [],j∈D.done
structure jC (P:Program) (S:Nat→Prop) (w0:World) (ops:List Oper) (A:List (List Nat)) (ρ:Env) (D:Dr) (L:Array Bool) (pl:Nat→Nat) (a:Act) (w:World):Prop where
 lsz:L.size=ops.length
 mem:MRel S w0 ρ D.st.mem w
 path:Path ρ D.st.path
 size:a.tmps.size=D.st.tmps.length
 defers:a.defers=[]
 slots:∀ (t:Nat) u,D.st.tmps[t]?=some (some u)→(∃ f∈D.late,L.getD f.i false=false∧du ops f.i=some t)∨a.tmps[t]?=some (u.ev ρ)
 lsub:∀ i,L.getD i false=true→i∈D.done∨cD ops i=true
 dsub:∀ i∈D.done,L.getD i false=true∨∃ f∈D.late,f.i=i
 dlt:∀ i∈D.done,i<ops.length
 ldone:∀ f∈D.late,f.i∈D.done
 lval:∀ f∈D.late,∀ t u,du ops f.i=some t→D.st.tmps[t]?=some (some u)→f.v=some u
 late:∀ f∈D.late,L.getD f.i false=false→tH P ops A ρ D L a f
 hid:∀ j,cD ops j=true→j∉D.done→∀ t u,du ops j=some t→D.st.tmps[t]?≠some (some u)
 early:∀ j,L.getD j false=true→j∉D.done→∃ o t z d,ops[j]?=some o∧o.op=.alloc t∧iQ P t=some z∧o.dst=some d∧(d<a.tmps.size→a.tmps[d]?=some (.pointer (some ⟨pl j,0,none⟩))) ∧
  w.heap[pl j]?=some (.cells z.cells t (0,0))∧w0.heap.size≤pl j∧∀ r∈D.st.mem,¬(r.hl ρ).mem (pl j)
 inj:∀ j j',L.getD j false=true→j∉D.done→L.getD j' false=true→j'∉D.done→pl j=pl j'→j=j'
 closed:∀ i,L.getD i false=true→∀ e∈fj ops i,L.getD e false=true
 dclosed:∀ i∈D.done,∀ e∈fj ops i,e∈D.done
def vN (ops:List Oper):Prop:=∀ (i j:Nat) t,du ops i=some t→du ops j=some t→i=j
theorem AU:∀ {l:List Oper},nX (l.map (·.dst))=true→vN l
 | [],_,i,j,t,h,_=>by simp [du]at h
 | o::l,hn,i,j,t,hi,hj=>by
  have hl:nX (l.map (·.dst))=true∧∀ t,o.dst=some t→some t∉l.map (·.dst):=by
   simp only[List.map_cons]at hn
   unfold nX at hn
   split at hn
   ·cases ‹_::_=[]›
   ·rename_i heq
    simp only[List.cons.injEq]at heq
    obtain⟨h1,h2⟩:=heq
    subst h2
    exact⟨hn,fun t ht=>by rw[h1]at ht;cases ht⟩
   ·rename_i t' l' heq
    simp only[List.cons.injEq]at heq
    obtain⟨h1,h2⟩:=heq
    subst h2
    simp only[Bool.and_eq_true,Bool.not_eq_true',List.contains_eq_mem,decide_eq_false_iff_not]at hn
    exact⟨hn.2,fun t ht=>by rw[h1]at ht;cases ht;exact hn.1⟩
  have ih:=AU hl.1
  have nm:∀ (k:Nat),du l k=some t→some t∈l.map (·.dst):=fun k hk=>by
   unfold du at hk
   cases ho:l[k]? with
   | none=>simp [ho]at hk
   | some o'=>simp only[ho,Option.bind_some]at hk;exact List.mem_map.2 ⟨o',List.mem_of_getElem? ho,hk⟩
  cases i with
  | zero =>
   cases j with
   | zero=>rfl
   | succ j=>exact absurd (nm j (by simpa [du] using hj)) (hl.2 t (by simpa [du] using hi))
  | succ i =>
   cases j with
   | zero=>exact absurd (nm i (by simpa [du] using hi)) (hl.2 t (by simpa [du] using hj))
   | succ j=>rw[ih i j t (by simpa [du] using hi) (by simpa [du] using hj)]
theorem wu (hi:∀ j:Nat,True) (L:Array Bool) (i j:Nat):(L.setIfInBounds i true).getD j false=if i=j∧i<L.size then true else L.getD j false:=by
 by_cases h:i=j
 ·subst h
  by_cases hs:i<L.size
  ·simp [hs]
  ·simp [hs,Array.getElem?_eq_none (show L.size≤i by omega)]
 ·simp [h,Array.getElem?_setIfInBounds_ne h]
def zR (ops:List Oper) (L:Array Bool):Nat:=(List.range ops.length).countP fun i=>!L.getD i false
theorem countP_set (L:Array Bool) {i:Nat} (hi:i<L.size) (hf:L.getD i false=false):∀ (l:List Nat),l.Nodup→(l.countP fun j=>!(L.setIfInBounds i true).getD j false)+(if i∈l then 1 else 0)=l.countP fun j=>!L.getD j false
 | [],_=>by simp
 | x::l,hn=>by
  rw[List.nodup_cons]at hn
  have ih:=countP_set L hi hf l hn.2
  have e:∀ j,(L.setIfInBounds i true).getD j false=if i=j then true else L.getD j false:=fun j=>by rw[wu (fun _=>trivial)];simp [hi]
  simp only[List.countP_cons,e,List.mem_cons]
  simp only[e]at ih
  by_cases hx:i=x
  ·subst hx
   have:i∉l:=hn.1
   simp only[this,if_false,Nat.add_zero]at ih
   simp only[if_true,hf,true_or,Bool.not_true,Bool.not_false,Bool.false_eq_true,if_false]
   omega
  ·simp only[hx,if_false,false_or]
   omega
theorem nC {i:Nat} (hs:L.size=ops.length) (hi:i<ops.length) (hf:L.getD i false=false):zR ops (L.setIfInBounds i true)+1=zR ops L:=by
 have:=countP_set L (by omega) hf (List.range ops.length) List.nodup_range
 rw[if_pos (List.mem_range.2 hi)]at this
 exact this
theorem jy (h:zR ops L=0) {i:Nat} (hi:i<ops.length):L.getD i false=true:=by
 unfold zR at h
 rw[List.countP_eq_zero]at h
 simpa using h i (List.mem_range.2 hi)
theorem cG (hs:L.size=ops.length) {i:Nat} : i∈Region.ready .any ops.toArray L↔i<ops.length∧L.getD i false=false∧∀ e∈fj ops i,L.getD e false=true:=by
 rw[mem_ready]
 constructor
 ·rintro⟨h0,o,ho,he⟩
  have ho:ops[i]?=some o:=by simpa using ho
  have hlt:=(List.getElem?_eq_some_iff.1 ho).1
  refine⟨hlt,?_,fun e hee=>?_⟩
  ·have:i<L.size:=by omega
   simpa [this] using h0
  ·unfold fj at hee
   simp only[ho,Bd]at hee
   obtain⟨x,hx,rfl⟩:=List.mem_map.1 hee
   rw[List.mem_filter]at hx
   exact he x (by simpa using hx.1) hx.2
 ·rintro⟨hlt,h0,he⟩
  refine⟨?_,ops[i],by simp [hlt],fun e hee hb=>?_⟩
  ·have:i<L.size:=by omega
   simpa [this] using h0
  ·apply he
   unfold fj
   rw[List.getElem?_eq_getElem hlt]
   simp only[Bd]
   exact List.mem_map.2 ⟨e,List.mem_filter.2 ⟨by simpa using hee,hb⟩,rfl⟩
theorem fu (hc:jj ops A=true) (hs:L.size=ops.length) (hr:Region.ready .any ops.toArray L=[]):∀ i,i<ops.length→L.getD i false=true:=by
 intro i
 induction i using Nat.strongRecOn with
 | _ i ih =>
  intro hi
  cases h:L.getD i false with
  | true=>rfl
  | false =>
   exfalso
   have:i∈Region.ready .any ops.toArray L:=(cG hs).2 ⟨hi,h,fun e he=>ih e ((k6 hc hi).2 e he) (Nat.lt_trans ((k6 hc hi).2 e he) hi)⟩
   rw[hr]at this;cases this
theorem EJ {s:St} {o:Oper} {i:Nat} {n:E} {v:Option TV} {K:Act→World→Prop} {Q:Exit→Act→World→Prop} (hA:Rel S w0 ρ s a w) (ho:ops[i]?=some o) (h:fl P ops s o=some (n,v)) (hn:bo ρ n=true)
 (hK:∀ x,(∀ u,v=some u→x=u.ev ρ)→K (a.put o.dst x) w):wpOp P ops.toArray Q i K a w:=by
 unfold wpOp
 have:ops.toArray[i]?=some o:=by simpa using ho
 rw[this]
 simp only
 unfold fl at h
 split at h
 ·cases h
 ·rename_i hg
  simp only[Option.map_eq_some_iff,Prod.mk.injEq]at h
  obtain⟨⟨n',u⟩,hq,rfl,rfl⟩:=h
  have hw:=fz hA hg
  rw[hw]
  simp only[tE,if_true]
  exact Or.inl (dm (kJ hA hq hn) (hK _ (fun y hy=>by cases hy;rfl)))
 ·rename_i e want hg
  have hw:Region.wanted o (yielded ops.toArray a.tmps)=(bo ρ e==want):=fz hA hg
  split at h
  ·rename_i b hkn
   rw[dg hA.path hkn]at hw
   split at h
   ·rename_i hbw
    simp only[Option.map_eq_some_iff,Prod.mk.injEq]at h
    obtain⟨⟨n',u⟩,hq,rfl,rfl⟩:=h
    rw[hw,if_pos (by simpa using hbw)]
    exact Or.inl (dm (kJ hA hq hn) (hK _ (fun y hy=>by cases hy;rfl)))
   ·rename_i hbw
    cases h
    rw[hw,if_neg (by simpa using hbw)]
    exact hK _ (fun y hy=>by cases hy;rfl)
  ·cases h
theorem gD (a:Act) (d:Option Tmp) (x:Value) (t:Nat):(a.put d x).tmps[t]?=if d=some t∧t<a.tmps.size then some x else a.tmps[t]?:=by
 cases d with
 | none=>simp [Act.put]
 | some d =>
  by_cases h:d=t
  ·subst h
   by_cases hs:d<a.tmps.size
   ·simp [Act.put,hs]
   ·simp [Act.put,hs,Array.getElem?_eq_none (Nat.le_of_not_lt hs)]
  ·simp [Act.put,h,Array.getElem?_setIfInBounds_ne h]
theorem ou (st:St) (d:Option Tmp) (v:Option TV) (t:Nat):(st.put d v).tmps[t]?=if d=some t∧t<st.tmps.length then some v else st.tmps[t]?:=by
 cases d with
 | none=>simp [St.put]
 | some d =>
  by_cases h:d=t
  ·subst h
   by_cases hs:d<st.tmps.length
   ·simp [St.put,hs]
   ·simp [St.put,hs,List.getElem?_eq_none (Nat.le_of_not_lt hs)]
  ·simp [St.put,h,List.getElem?_set_ne h]
theorem gw (st:St) (d:Option Tmp) (v:Option TV):(st.put d v).tmps.length=st.tmps.length:=by cases d<;>simp [St.put]
theorem pM {i:Nat} {st:St} {t:Nat} {u:TV} (h:(xK ops A i st).tmps[t]?=some (some u)):st.tmps[t]?=some (some u)∧∀ j,j<ops.length→du ops j=some t→j∈A.getD i []:=by
 unfold xK at h
 simp only[jM,Option.map_eq_some_iff]at h
 obtain⟨v,hv,he⟩:=h
 split at he
 ·cases he
 split at he
 ·cases he
 ·rename_i hc
  cases he
  refine⟨hv,fun j hj hd=>?_⟩
  by_cases hm:j∈A.getD i []
  ·exact hm
  ·exfalso
   apply hc
   rw[List.contains_iff_mem,List.mem_filterMap]
   refine⟨j,List.mem_range.2 hj,?_⟩
   rw[if_neg (by rw[List.contains_iff_mem];exact hm)]
   exact hd
theorem AV {i:Nat} {st:St} : (xK ops A i st).tmps.length=st.tmps.length:=by simp [xK]
end
end Go.Sx
namespace Go.Sx
open Go
section
variable {P:Program} {C:Ctx} {S:Nat→Prop} {w0:World} {ρ ρ':Env} {ops:List Oper} {A:List (List Nat)} {D D':Dr} {L:Array Bool} {pl:Nat→Nat} {a:Act} {w w':World}
theorem gK {i:Nat} {o:Oper} (ho:ops[i]?=some o):du ops i=o.dst:=by simp [du,ho]
theorem qo {i t:Nat} (h:du ops i=some t):i<ops.length:=by
 unfold du at h
 cases ho:ops[i]? with
 | none=>simp [ho]at h
 | some o=>exact(List.getElem?_eq_some_iff.1 ho).1
theorem gP {L:Array Bool} {i j:Nat} (hi:i<L.size):(L.setIfInBounds i true).getD j false=if i=j then true else L.getD j false:=by
 rw[wu (fun _=>trivial)];simp [hi]
theorem jC.DU (h:jC P S w0 ops A ρ D L pl a w) (hc:jj ops A=true) {f:pr} (hf:f∈D.late) (hL:L.getD f.i false=false) (hr:∀ e∈fj ops f.i,L.getD e false=true) :
 Rel S w0 ρ {f.snap with mem:=D.st.mem} a w:=by
 have hl:=h.late f hf hL
 have hlt:=h.dlt _ (h.ldone f hf)
 have hanc:=dS hc (p:=fun i=>L.getD i false=true) h.closed f.i hlt hr
 refine⟨h.mem,by rw[h.size,←hl.len],h.defers,fun t v hv=>?_,hl.path⟩
 rcases hl.slots t v hv with ⟨g,_,hg,_,hga⟩ | hv'
 ·have:=hanc _ hga;rw[hg]at this;cases this
 ·exact hv'
theorem jC.uQ (h:jC P S w0 ops A ρ D L pl a w) (hc:jj ops A=true) {i:Nat} (hi:i<ops.length) (hr:∀ e∈fj ops i,L.getD e false=true):Rel S w0 ρ (xK ops A i D.st) a w:=by
 have hanc:=dS hc (p:=fun i=>L.getD i false=true) h.closed i hi hr
 refine⟨h.mem,by rw[h.size,AV],h.defers,fun t v hv=>?_,h.path⟩
 obtain⟨h1,h2⟩:=pM hv
 rcases h.slots t v h1 with ⟨g,hg,hgl,hgd⟩ | hv'
 ·have:=hanc _ (h2 _ (qo hgd) hgd);rw[hgl]at this;cases this
 ·exact hv'
theorem jC.Dc (h:jC P S w0 ops A ρ D L pl a w) (hu:vN ops) {f:pr} (hf:f∈D.late) {o:Oper} (ho:ops[f.i]?=some o) (hL:L.getD f.i false=false) (hr:∀ e∈fj ops f.i,L.getD e false=true)
 {x:Value} (hx:∀ u,f.v=some u→x=u.ev ρ):jC P S w0 ops A ρ D (L.setIfInBounds f.i true) pl (a.put o.dst x) w:=by
 have hlt:f.i<ops.length:=(List.getElem?_eq_some_iff.1 ho).1
 have hs:∀ j,(L.setIfInBounds f.i true).getD j false=if f.i=j then true else L.getD j false:=fun j=>gP (by rw[h.lsz];exact hlt)
 have hd:=gK ho
 have hsz:(a.put o.dst x).tmps.size=a.tmps.size:=by cases o.dst<;>simp [Act.put]
 refine⟨by simp [h.lsz],h.mem,h.path,by rw[hsz];exact h.size,by cases o.dst<;>exact h.defers,?_,?_,?_,h.dlt,h.ldone,h.lval,?_,h.hid,?_,?_,?_,h.dclosed⟩
 ·intro t u ht
  have hlen:t<a.tmps.size:=by rw[h.size];exact(List.getElem?_eq_some_iff.1 ht).1
  rw[gD]
  by_cases hdt:o.dst=some t
  ·right
   rw[if_pos ⟨hdt,hlen⟩]
   rw[hx u (h.lval f hf t u (by rw[hd,hdt]) ht)]
  ·rw[if_neg (fun e=>hdt e.1)]
   rcases h.slots t u ht with ⟨g,hg,hgl,hgd⟩ | hv
   ·left
    refine⟨g,hg,?_,hgd⟩
    rw[hs,if_neg]
    ·exact hgl
    ·intro e;apply hdt;rw[←hd,e];exact hgd
   ·exact Or.inr hv
 ·intro i hi
  rw[hs]at hi
  split at hi
  ·rename_i e;subst e;exact Or.inl (h.ldone f hf)
  ·exact h.lsub i hi
 ·intro i hi
  rcases h.dsub i hi with h1 | h1
  ·left;rw[hs];split
   ·rfl
   ·exact h1
  ·exact Or.inr h1
 ·intro g hg hgl
  rw[hs]at hgl
  split at hgl
  ·cases hgl
  ·rename_i hne
   have hl:=h.late g hg hgl
   refine⟨hl.fl,hl.need,hl.path,hl.len,fun t u ht=>?_,hl.hid,hl.bS,hl.sub⟩
   have hlen:t<a.tmps.size:=by rw[h.size,←hl.len];exact(List.getElem?_eq_some_iff.1 ht).1
   rw[gD]
   by_cases hdt:o.dst=some t
   ·right
    rw[if_pos ⟨hdt,hlen⟩]
    have hm:f.i∈A.getD g.i []:=by
     by_cases hm:f.i∈A.getD g.i []
     ·exact hm
     ·exact absurd ht (hl.hid f.i t hlt (by rw[hd,hdt]) hm u)
    rw[hx u (hl.bS f hf hm t u (by rw[hd,hdt]) ht)]
   ·rw[if_neg (fun e=>hdt e.1)]
    rcases hl.slots t u ht with ⟨g',hg',hgl',hgd',hga'⟩ | hv
    ·left
     refine⟨g',hg',?_,hgd',hga'⟩
     rw[hs,if_neg]
     ·exact hgl'
     ·intro e;apply hdt;rw[←hd,e];exact hgd'
    ·exact Or.inr hv
 ·intro j hj hjd
  have hne:f.i≠j:=fun e=>hjd (e▸h.ldone f hf)
  rw[hs,if_neg hne]at hj
  obtain⟨o',t,z,d,h1,h2,h3,h4,h5,h6⟩:=h.early j hj hjd
  refine⟨o',t,z,d,h1,h2,h3,h4,fun hds=>?_,h6⟩
  rw[gD,if_neg]
  ·exact h5 (by rw[hsz]at hds;exact hds)
  ·rintro⟨e,_⟩
   exact hne (hu _ _ d (by rw[hd,e]) (by rw[gK h1,h4]))
 ·intro j j' hj hjd hj' hjd'
  rw[hs,if_neg (show ¬f.i=j from fun e=>hjd (e▸h.ldone f hf))]at hj
  rw[hs,if_neg (show ¬f.i=j' from fun e=>hjd' (e▸h.ldone f hf))]at hj'
  exact h.inj j j' hj hjd hj' hjd'
 ·intro i hi e he
  rw[hs]
  split
  ·rfl
  ·rw[hs]at hi
   split at hi
   ·rename_i e1;subst e1;exact hr e he
   ·exact h.closed i hi e he
theorem kp {j:Nat} (h:cD ops j=true):∃ o t d,ops[j]?=some o∧o.op=.alloc t∧o.dst=some d∧o.guard=none∧fj ops j=[]:=by
 unfold cD at h
 split at h
 ·rename_i o ho
  split at h
  ·rename_i t d h1 h2 h3
   exact⟨o,t,d,ho,h1,h3,h2,by unfold fj;rw[ho];simpa using h⟩
  ·cases h
 ·cases h
theorem jC.AY (h:jC P S w0 ops A ρ D L pl a w) (hu:vN ops) {j:Nat} (hj:cD ops j=true) (hjd:j∉D.done) (hL:L.getD j false=false) {o:Oper} {t:TypeId} {d:Tmp} {z:Value} (ho:ops[j]?=some o) (hop:o.op=.alloc t) (hdst:o.dst=some d) (hz:iQ P t=some z) :
 jC P S w0 ops A ρ D (L.setIfInBounds j true) (fun k=>if k=j then w.heap.size else pl k) (a.put o.dst (.pointer (some ⟨w.heap.size,0,none⟩))) (w.alloc (.cells z.cells t)):=by
 have hlt:j<ops.length:=(List.getElem?_eq_some_iff.1 ho).1
 have hs:∀ k,(L.setIfInBounds j true).getD k false=if j=k then true else L.getD k false:=fun k=>gP (by rw[h.lsz];exact hlt)
 have hd:=gK ho
 have hsz:(a.put o.dst (.pointer (some ⟨w.heap.size,0,none⟩))).tmps.size=a.tmps.size:=by cases o.dst<;>simp [Act.put]
 have hbel:RowKit.Below w.heap.size w (w.alloc (.cells z.cells t)):=(RowKit.Below.refl _ _).alloc (Nat.le_refl _) _
 refine⟨by simp [h.lsz],h.mem.below hbel,h.path,by rw[hsz];exact h.size,by rw[hdst];exact h.defers,?_,?_,?_,h.dlt,h.ldone,h.lval,?_,h.hid,?_,?_,?_,h.dclosed⟩
 ·intro t' u ht
  rw[gD]
  by_cases hdt:o.dst=some t'
  ·exact absurd ht (h.hid j hj hjd t' u (by rw[hd,hdt]))
  ·rw[if_neg (fun e=>hdt e.1)]
   rcases h.slots t' u ht with ⟨g,hg,hgl,hgd⟩ | hv
   ·left
    refine⟨g,hg,?_,hgd⟩
    rw[hs,if_neg]
    ·exact hgl
    ·intro e;exact hjd (e▸h.ldone g hg)
   ·exact Or.inr hv
 ·intro i hi
  rw[hs]at hi
  split at hi
  ·rename_i e;subst e;exact Or.inr hj
  ·exact h.lsub i hi
 ·intro i hi
  rcases h.dsub i hi with h1 | h1
  ·left;rw[hs];split
   ·rfl
   ·exact h1
  ·exact Or.inr h1
 ·intro g hg hgl
  rw[hs]at hgl
  split at hgl
  ·cases hgl
  ·have hl:=h.late g hg hgl
   refine⟨hl.fl,hl.need,hl.path,hl.len,fun t' u ht=>?_,hl.hid,hl.bS,hl.sub⟩
   rw[gD]
   by_cases hdt:o.dst=some t'
   ·exact absurd ht (hl.hid j t' hlt (by rw[hd,hdt]) (fun hm=>hjd (hl.sub j hm)) u)
   ·rw[if_neg (fun e=>hdt e.1)]
    rcases hl.slots t' u ht with ⟨g',hg',hgl',hgd',hga'⟩ | hv
    ·left
     refine⟨g',hg',?_,hgd',hga'⟩
     rw[hs,if_neg]
     ·exact hgl'
     ·intro e;exact hjd (e▸h.ldone g' hg')
    ·exact Or.inr hv
 ·intro k hk hkd
  rw[hs]at hk
  by_cases hjk:j=k
  ·subst hjk
   refine⟨o,t,z,d,ho,hop,hz,hdst,?_,?_,?_,?_⟩
   ·intro hds
    simp only[if_true]
    rw[hsz]at hds
    rw[gD,if_pos ⟨hdst,hds⟩]
   ·simp only[if_true];exact heap_alloc_new w _
   ·simp only[if_true];exact h.mem.cV.size
   ·intro r hr hm
    simp only[if_true]at hm
    have:=Hl.sub_lt (h.mem.sub r hr) hm
    omega
  ·rw[if_neg hjk]at hk
   obtain⟨o',t',z',d',h1,h2,h3,h4,h5,h6,h7,h8⟩:=h.early k hk hkd
   have hkj:k≠j:=fun e=>hjk e.symm
   refine⟨o',t',z',d',h1,h2,h3,h4,?_,?_,?_,?_⟩
   ·intro hds
    simp only[if_neg hkj]
    rw[gD,if_neg]
    ·exact h5 (by rw[hsz]at hds;exact hds)
    ·rintro⟨e,_⟩
     exact hjk (hu _ _ d' (by rw[hd,e]) (by rw[gK h1,h4]))
   ·simp only[if_neg hkj]
    rw[heap_alloc_old w _ (Array.getElem?_eq_some_iff.1 h6).1];exact h6
   ·simp only[if_neg hkj];exact h7
   ·simp only[if_neg hkj];exact h8
 ·intro k k' hk hkd hk' hkd' he
  rw[hs]at hk hk'
  by_cases h1:k=j<;>by_cases h2:k'=j
  ·rw[h1,h2]
  ·rw[if_pos h1,if_neg h2]at he
   rw[if_neg (fun e=>h2 e.symm)]at hk'
   obtain⟨_,_,_,_,_,_,_,_,_,h6,_⟩:=h.early k' hk' hkd'
   have:=(Array.getElem?_eq_some_iff.1 h6).1
   omega
  ·rw[if_neg h1,if_pos h2]at he
   rw[if_neg (fun e=>h1 e.symm)]at hk
   obtain⟨_,_,_,_,_,_,_,_,_,h6,_⟩:=h.early k hk hkd
   have:=(Array.getElem?_eq_some_iff.1 h6).1
   omega
  ·rw[if_neg h1,if_neg h2]at he
   rw[if_neg (fun e=>h1 e.symm)]at hk
   rw[if_neg (fun e=>h2 e.symm)]at hk'
   exact h.inj k k' hk hkd hk' hkd' he
 ·intro i hi e he
  rw[hs]
  split
  ·rfl
  ·rw[hs]at hi
   split at hi
   ·rename_i e1;subst e1
    obtain⟨_,_,_,_,_,_,_,hes⟩:=kp hj
    rw[hes]at he;cases he
   ·exact h.closed i hi e he
theorem jC.kH (h:jC P S w0 ops A ρ D L pl a w) {cs:List E} (hcs:∀ c∈cs,bo ρ c=true):jC P S w0 ops A ρ {D with st:={D.st with path:=cs++D.st.path}} L pl a w :=
 ⟨h.lsz,h.mem,fun e he=>(List.mem_append.1 he).elim (hcs e) (h.path e),h.size,h.defers,h.slots,h.lsub,h.dsub,h.dlt,h.ldone,h.lval,
  fun f hf hL=>let l:=h.late f hf hL;⟨l.fl,l.need,l.path,l.len,l.slots,l.hid,l.bS,l.sub⟩,h.hid,h.early,h.inj,h.closed,h.dclosed⟩
end
end Go.Sx
namespace Go.Sx
open Go
section
variable {P:Program} {C:Ctx} {S:Nat→Prop} {w0:World} {ρ ρ':Env} {ops:List Oper} {A:List (List Nat)} {D D':Dr} {L:Array Bool} {pl:Nat→Nat} {a:Act} {w w':World}
theorem jC.fo (h:jC P S w0 ops A ρ D L pl a w) {i:Nat} (hd:i∉D.done) (ha:cD ops i=false):L.getD i false=false:=by
 cases hL:L.getD i false with
 | false=>rfl
 | true=>rcases h.lsub i hL with h1 | h1
         ·exact absurd h1 hd
         ·rw[ha]at h1;cases h1
theorem jC.float (h:jC P S w0 ops A ρ D L pl a w) (hc:jj ops A=true) (hu:vN ops) {i:Nat} {o:Oper} (ho:ops[i]?=some o) (hd:i∉D.done) (ha:cD ops i=false) (hes:∀ e∈fj ops i,e∈D.done)
 {n:E} {v:Option TV} (hf:fl P ops (xK ops A i D.st) o=some (n,v)) (hn:bo ρ n=true) {cs:List E} (hcs:∀ c∈cs,bo ρ c=true) :
 jC P S w0 ops A ρ ⟨({D.st with path:=cs++D.st.path} : St).put o.dst v,i::D.done,⟨i,xK ops A i D.st,n,v⟩::D.late⟩ L pl a w:=by
 have hlt:i<ops.length:=(List.getElem?_eq_some_iff.1 ho).1
 have hL:=h.fo hd ha
 have hdst:=gK ho
 have hanc:=dS hc (p:=fun k=>k∈D.done) h.dclosed i hlt hes
 have hmem:(({D.st with path:=cs++D.st.path} : St).put o.dst v).mem=D.st.mem:=St.gE _ _ _
 have hget:∀ t u,(({D.st with path:=cs++D.st.path} : St).put o.dst v).tmps[t]?=some (some u)→(o.dst=some t∧v=some u)∨(o.dst≠some t∧D.st.tmps[t]?=some (some u)):=by
  intro t u ht
  rw[ou]at ht
  split at ht
  ·rename_i hc;left;exact⟨hc.1,Option.some.inj ht⟩
  ·rename_i hc
   by_cases hdt:o.dst=some t
   ·exfalso
    have:t<D.st.tmps.length:=(List.getElem?_eq_some_iff.1 ht).1
    exact hc ⟨hdt,this⟩
   ·exact Or.inr ⟨hdt,ht⟩
 refine⟨h.lsz,by rw[hmem];exact h.mem,?_,by rw[gw];exact h.size,h.defers,?_,?_,?_,?_,?_,?_,?_,?_,?_,?_,h.closed,?_⟩
 ·rw[St.rm];exact fun e he=>(List.mem_append.1 he).elim (hcs e) (h.path e)
 ·intro t u ht
  rcases hget t u ht with ⟨h1,h2⟩ | ⟨h1,h2⟩
  ·left;exact⟨_,List.mem_cons_self ..,hL,by rw[hdst,h1]⟩
  ·rcases h.slots t u h2 with ⟨f,hf',r⟩ | hv
   ·left;exact⟨f,List.mem_cons_of_mem _ hf',r⟩
   ·exact Or.inr hv
 ·intro k hk;exact(h.lsub k hk).imp (List.mem_cons_of_mem _) id
 ·intro k hk
  rcases List.mem_cons.1 hk with rfl | hk
  ·right;exact⟨_,List.mem_cons_self ..,rfl⟩
  ·rcases h.dsub k hk with h1 | ⟨f,hf',r⟩
   ·exact Or.inl h1
   ·exact Or.inr ⟨f,List.mem_cons_of_mem _ hf',r⟩
 ·intro k hk
  rcases List.mem_cons.1 hk with rfl | hk
  ·exact hlt
  ·exact h.dlt k hk
 ·intro f hf'
  rcases List.mem_cons.1 hf' with rfl | hf'
  ·exact List.mem_cons_self ..
  ·exact List.mem_cons_of_mem _ (h.ldone f hf')
 ·intro f hf' t u hft ht
  rcases List.mem_cons.1 hf' with rfl | hf'
  ·rcases hget t u ht with ⟨_,h2⟩ | ⟨h1,_⟩
   ·exact h2
   ·exact absurd (by rw[←hdst];exact hft) h1
  ·rcases hget t u ht with ⟨h1,_⟩ | ⟨_,h2⟩
   ·exact absurd (hu _ _ t hft (by rw[hdst,h1])▸h.ldone f hf') hd
   ·exact h.lval f hf' t u hft h2
 ·intro f hf' hfl
  rcases List.mem_cons.1 hf' with rfl | hf'
  ·refine⟨⟨o,ho,?_⟩,hn,h.path,?_,?_,?_,?_,?_⟩
   ·rw[hmem];exact hf
   ·rw[gw];exact AV
   ·intro t u ht
    obtain⟨h1,h2⟩:=pM ht
    rcases h.slots t u h1 with ⟨g,hg,hgl,hgd⟩ | hv
    ·left;exact⟨g,List.mem_cons_of_mem _ hg,hgl,hgd,h2 _ (qo hgd) hgd⟩
    ·exact Or.inr hv
   ·intro j t hj hjd hjA u ht
    exact hjA ((pM ht).2 j hj hjd)
   ·intro g hg hgA t u hgd ht
    rcases List.mem_cons.1 hg with rfl | hg
    ·exact absurd (hanc _ hgA) hd
    ·exact h.lval g hg t u hgd (pM ht).1
   ·intro j hj;exact List.mem_cons_of_mem _ (hanc j hj)
  ·have hl:=h.late f hf' hfl
   refine⟨?_,hl.need,hl.path,by rw[gw];exact hl.len,?_,hl.hid,?_,fun j hj=>List.mem_cons_of_mem _ (hl.sub j hj)⟩
   ·rw[hmem];exact hl.fl
   ·intro t u ht
    rcases hl.slots t u ht with ⟨g,hg,r⟩ | hv
    ·left;exact⟨g,List.mem_cons_of_mem _ hg,r⟩
    ·exact Or.inr hv
   ·intro g hg hgA t u hgd ht
    rcases List.mem_cons.1 hg with rfl | hg
    ·exact absurd (hl.sub _ hgA) hd
    ·exact hl.bS g hg hgA t u hgd ht
 ·intro j hj hjd t u hjt ht
  rcases hget t u ht with ⟨h1,_⟩ | ⟨_,h2⟩
  ·have:=hu _ _ t hjt (by rw[hdst,h1])
   rw[this,ha]at hj;cases hj
  ·exact h.hid j hj (fun e=>hjd (List.mem_cons_of_mem _ e)) t u hjt h2
 ·intro j hj hjd
  rw[hmem]
  exact h.early j hj (fun e=>hjd (List.mem_cons_of_mem _ e))
 ·intro j j' hj hjd hj' hjd'
  exact h.inj j j' hj (fun e=>hjd (List.mem_cons_of_mem _ e)) hj' (fun e=>hjd' (List.mem_cons_of_mem _ e))
 ·intro k hk e he
  rcases List.mem_cons.1 hk with rfl | hk
  ·exact List.mem_cons_of_mem _ (hes e he)
  ·exact List.mem_cons_of_mem _ (h.dclosed k hk e he)
theorem Bk {mem:Mem} {f:pr} (h:sP P ops mem f=true):∃ o,ops[f.i]?=some o∧fl P ops {f.snap with mem:=mem} o=some (f.n,f.v):=by
 unfold sP at h
 split at h
 ·rename_i o ho
  split at h
  ·rename_i n v hf
   simp only[Bool.and_eq_true,decide_eq_true_eq]at h
   refine⟨o,ho,?_⟩
   rw[hf,h.1,Ge h.2]
  ·cases h
 ·cases h
theorem MRel.G0 {mem:Mem} (h:MRel S w0 ρ mem w) {b p:Nat} {l:List CV} {T:TypeId} {x:bc} (hx:x=.aS b l T) (hag:∀ s∈mem,s.same ρ ρ') (hb:(ρ'.i b)=(p:Int)) (hw:w.heap[p]?=some (.cells (l.map (CV.ev ρ')).toArray T (0,0)))
 (h0:w0.heap.size≤p) (hn:∀ r∈mem,¬(r.hl ρ).mem p):MRel S w0 ρ' (mem++[x]) w:=by
 subst hx
 have hm:=h.agree hag
 have hdom:∀ c,((bc.aS b l T).hl ρ').mem c→c=p:=fun c hc=>by
  have:=Hl.cI.1 hc;rw[hb]at this;simpa using this
 have key:∀ (q:Nat) r,(mem++[bc.aS b l T])[q]?=some r→mem[q]?=some r∨(q=mem.length∧r=.aS b l T):=by
  intro q r hq
  rw[List.getElem?_append]at hq
  split at hq
  ·exact Or.inl hq
  ·have:q-mem.length=0:=by
    rcases Nat.eq_zero_or_pos (q-mem.length)with h0 | h0
    ·exact h0
    ·rw[List.getElem?_eq_none (by simp;omega)]at hq;cases hq
   rw[this]at hq
   simp only[List.getElem?_cons_zero,Option.some.injEq]at hq
   exact Or.inr ⟨by omega,hq.symm⟩
 have hn':∀ r∈mem,¬(r.hl ρ').mem p:=fun r hr hp=>hn r hr (by rw[←(hag r hr).1];exact hp)
 refine⟨hm.cV,fun r hr=>?_,fun r hr ho c hc=>?_,fun q q' r s hne hq hq' ho=>?_,fun r hr=>?_⟩
 ·rcases List.mem_append.1 hr with hr | hr
  ·exact hm.sub r hr
  ·rw[List.mem_singleton.1 hr]
   intro c o hc
   obtain⟨rfl,rfl⟩:=Hl.jb hc
   rw[hb,Int.toNat_natCast];exact hw
 ·rcases List.mem_append.1 hr with hr | hr
  ·exact hm.own r hr ho c hc
  ·rw[List.mem_singleton.1 hr]at hc
   rw[hdom c hc];exact Or.inr h0
 ·rcases key q r hq with h1 | ⟨h1,rfl⟩<;>rcases key q' s hq' with h2 | ⟨h2,rfl⟩
  ·exact hm.ch q q' r s hne h1 h2 ho
  ·rintro c ⟨x,y⟩;rw[hdom c y]at x;exact hn' r (List.mem_of_getElem? h1) x
  ·rintro c ⟨x,y⟩;rw[hdom c x]at y;exact hn' s (List.mem_of_getElem? h2) y
  ·exact absurd (h1.trans h2.symm) hne
 ·rcases List.mem_append.1 hr with hr | hr
  ·exact hm.pos r hr
  ·rw[List.mem_singleton.1 hr];show 0≤ρ'.i b;rw[hb];omega
theorem Dr.vu (h:D.upto=true):D.st.upto D.st.nv=true:=by
 unfold Dr.upto at h;simp only[Bool.and_eq_true]at h;exact h.1
theorem Dr.B3 (h:D.upto=true) {f:pr} (hf:f∈D.late):f.snap.tmps.all (DJ (·.upto D.st.nv))=true∧f.snap.path.all (·.upto D.st.nv)=true∧f.n.upto D.st.nv=true:=by
 unfold Dr.upto at h;simp only[Bool.and_eq_true,List.all_eq_true]at h
 have:=h.2 f hf
 unfold pr.upto at this
 simp only[Bool.and_eq_true]at this
 exact⟨this.1.1,this.1.2,this.2⟩
theorem St.nF {st:St} {n:Nat} (h:st.tmps.all (DJ (·.upto n))=true) {t:Nat} {u:TV} (ht:st.tmps[t]?=some (some u)):u.upto n=true:=by
 rw[List.all_eq_true]at h
 exact h _ (List.mem_of_getElem? ht)
theorem tH.next {f:pr} (h:tH P ops A ρ D L a f) (hu:D.upto=true) (hg:ae D.st.nv ρ ρ') (hf:f∈D.late) {D':Dr} {L':Array Bool} {a':Act} (hb:sP P ops D'.st.mem f=true)
 (hlen:D'.st.tmps.length=D.st.tmps.length) (hslots:∀ (t:Nat) u,f.snap.tmps[t]?=some (some u)→((∃ g∈D.late,L.getD g.i false=false∧du ops g.i=some t∧g.i∈A.getD f.i [])∨a.tmps[t]?=some (u.ev ρ)) →
  ((∃ g∈D'.late,L'.getD g.i false=false∧du ops g.i=some t∧g.i∈A.getD f.i [])∨a'.tmps[t]?=some (u.ev ρ)))
 (hlate:∀ g∈D'.late,g∈D.late) (hdone:∀ j∈D.done,j∈D'.done):tH P ops A ρ' D' L' a' f:=by
 obtain⟨u1,u2,u3⟩:=Dr.B3 hu hf
 refine⟨Bk hb,by rw[ie hg u3];exact h.need,h.path.agree hg u2,by rw[hlen];exact h.len,fun t u ht=>?_,h.hid,fun g hg'=>h.bS g (hlate g hg'),fun j hj=>hdone j (h.sub j hj)⟩
 rw[TV.agree hg u (St.nF u1 ht)]
 exact hslots t u ht (h.slots t u ht)
theorem jC.import (h:jC P S w0 ops A ρ D L pl a w) (hu:vN ops) {j:Nat} (hd:j∉D.done) (hL:L.getD j false=true) (hi:m8 P ops D j=some D') :
 ∃ ρ',ae D.st.nv ρ ρ'∧0≤ρ'.i D.st.nv∧jC P S w0 ops A ρ' D' L pl a w∧D'.st.nv=D.st.nv+1:=by
 unfold m8 at hi
 split at hi
 ·rename_i o ho
  split at hi
  ·rename_i t d hop hdst
   split at hi
   ·rename_i z hz
    split at hi
    ·rename_i hc
     cases hi
     simp only[Bool.and_eq_true]at hc
     obtain⟨⟨hup,hal⟩,hlate⟩:=hc
     rw[List.all_eq_true]at hlate
     obtain⟨o',t',z',d',h1,h2,h3,h4,h5,h6,h7,h8⟩:=h.early j hL hd
     rw[ho]at h1;cases h1
     rw[hop]at h2;cases h2
     rw[hz]at h3;cases h3
     rw[hdst]at h4;cases h4
     have hlt:j<ops.length:=(List.getElem?_eq_some_iff.1 ho).1
     have hdj:du ops j=some d:=by rw[gK ho,hdst]
     let ρ':=ρ.dv D.st.nv (pl j)
     have hg:ae D.st.nv ρ ρ':=bX _ _ _ (Nat.le_refl _)
     have e1:ρ'.i D.st.nv=(pl j:Int):=jc _ _ _
     have hst:=Dr.vu hup
     have hag:=Mem.agree hg (St.cM hst)
     have hstt:=hst
     simp only[St.upto,Bool.and_eq_true]at hstt
     have hget:∀ t' u,(({D.st with mem:=D.st.mem++[.aS D.st.nv (z.cells.toList.map fE) t],nv:=D.st.nv+1} : St).put (some d) (some (TP (.var D.st.nv) (.lit 0)))).tmps[t']?=some (some u) →
      (d=t'∧u=TP (.var D.st.nv) (.lit 0)∧d<D.st.tmps.length)∨(d≠t'∧D.st.tmps[t']?=some (some u)):=by
      intro t' u ht
      rw[ou]at ht
      split at ht
      ·rename_i hc;left
       simp only[Option.some.injEq]at hc ht
       exact⟨hc.1,ht.symm,hc.1▸hc.2⟩
      ·rename_i hc
       by_cases hdt:d=t'
       ·exfalso
        have:t'<D.st.tmps.length:=(List.getElem?_eq_some_iff.1 ht).1
        exact hc ⟨by rw[hdt],this⟩
       ·exact Or.inr ⟨hdt,ht⟩
     refine⟨ρ',hg,by rw[e1];omega,⟨h.lsz,?_,?_,by rw[gw];exact h.size,h.defers,?_,?_,?_,?_,?_,?_,?_,?_,?_,?_,h.closed,?_⟩,by rw[St.uL]⟩
     ·rw[St.gE]
      refine h.mem.G0 (p:=pl j) rfl hag e1 ?_ h7 h8
      rw[gr];exact h6
     ·rw[St.rm];exact h.path.agree hg hstt.2
     ·intro t' u ht
      rcases hget t' u ht with ⟨rfl,rfl,hdl⟩ | ⟨hne,ht⟩
      ·right
       rw[h5 (by rw[h.size];exact hdl)]
       simp only[TV.ev,SV.ev,CV.ev,ai,ah,e1]
       rw[aq (by omega)];simp
      ·rw[TV.agree hg u (St.nF hstt.1.1 ht)]
       exact h.slots t' u ht
     ·intro k hk;exact(h.lsub k hk).imp (List.mem_cons_of_mem _) id
     ·intro k hk
      rcases List.mem_cons.1 hk with rfl | hk
      ·exact Or.inl hL
      ·exact h.dsub k hk
     ·intro k hk
      rcases List.mem_cons.1 hk with rfl | hk
      ·exact hlt
      ·exact h.dlt k hk
     ·intro f hf;exact List.mem_cons_of_mem _ (h.ldone f hf)
     ·intro f hf t' u hft ht
      rcases hget t' u ht with ⟨rfl,_⟩ | ⟨_,ht⟩
      ·exact absurd (hu _ _ _ hft hdj▸h.ldone f hf) hd
      ·exact h.lval f hf t' u hft ht
     ·intro f hf hfl
      refine(h.late f hf hfl).next hup hg hf ?_ (by rw[gw]) (fun _ _ _ hs=>hs) (fun g hg=>hg) (fun k hk=>List.mem_cons_of_mem _ hk)
      rw[St.gE];exact hlate f hf
     ·intro k hk hkd t' u hkt ht
      rcases hget t' u ht with ⟨rfl,_⟩ | ⟨_,ht⟩
      ·exact absurd (List.mem_cons.2 (Or.inl (hu _ _ _ hkt hdj))) hkd
      ·exact h.hid k hk (fun e=>hkd (List.mem_cons_of_mem _ e)) t' u hkt ht
     ·intro k hk hkd
      have hkd':k∉D.done:=fun e=>hkd (List.mem_cons_of_mem _ e)
      obtain⟨o',t',z',d',g1,g2,g3,g4,g5,g6,g7,g8⟩:=h.early k hk hkd'
      refine⟨o',t',z',d',g1,g2,g3,g4,g5,g6,g7,fun r hr hm=>?_⟩
      rw[St.gE]at hr
      rcases List.mem_append.1 hr with hr | hr
      ·rw[(hag r hr).1]at hm;exact g8 r hr hm
      ·rw[List.mem_singleton.1 hr]at hm
       have:=Hl.cI.1 hm
       rw[e1,Int.toNat_natCast]at this
       exact hkd (List.mem_cons.2 (Or.inl (h.inj k j hk hkd' hL hd this)))
     ·intro k k' hk hkd hk' hkd'
      exact h.inj k k' hk (fun e=>hkd (List.mem_cons_of_mem _ e)) hk' (fun e=>hkd' (List.mem_cons_of_mem _ e))
     ·intro k hk e he
      rcases List.mem_cons.1 hk with rfl | hk
      ·obtain⟨_,_,_,_,_,_,_,hes⟩:=kp hal
       rw[hes]at he;cases he
      ·exact List.mem_cons_of_mem _ (h.dclosed k hk e he)
    ·cases hi
   ·cases hi
  ·cases hi
 ·cases hi
theorem By {C:Ctx} {o:Oper} {st s:St} {x:X} (h:sW P st o=some (s,x)) (hm:MRel S w0 ρ st.mem w) :
 ∃ ρ',ae st.nv ρ ρ'∧x.n=st.nv∧x.rel C ρ ρ'∧s.nv=st.nv+1∧MRel S w0 ρ' s.mem w∧∀ r∈s.mem,∀ b,(r.hl ρ').mem b→∃ r0∈st.mem,(r0.hl ρ).mem b:=by
 unfold sW at h
 split at h
 ·split at h
  ·rename_i p k vers tags links hp
   split at h
   ·rename_i y q r hq
    split at h
    ·rename_i hu
     cases h
     have hp:=bq hp
     obtain⟨h1,h2,h3⟩:=jO hq
     have hg:ae st.nv ρ (ρ.iE st.nv (((bc.hp k vers tags links).hl ρ).un (r.hl ρ))):=dn _ _ _ (Nat.le_refl _)
     have hag:=Mem.agree hg (St.cM hu)
     refine⟨_,hg,rfl,⟨dX _ _ _,hm.ch p q _ _ h3.symm hp h1 rfl⟩,rfl,hm.Bx hp h1 h3 rfl h2 hag (dX _ _ _) trivial,fun r' hr' b hb=>?_⟩
     rcases List.mem_or_eq_of_mem_set hr' with hr' | rfl
     ·rcases List.mem_or_eq_of_mem_set hr' with hr' | rfl
      ·rw[(hag r' hr').1]at hb
       exact⟨r',hr',hb⟩
      ·have hb:(((bc.hp k vers tags links).hl ρ).un (r.hl ρ)).mem b:=by
        have e:(bc.hp st.nv (k::r.ks++vers) (tags++y::r.Ih) links).hl (ρ.iE st.nv (((bc.hp k vers tags links).hl ρ).un (r.hl ρ)))=((bc.hp k vers tags links).hl ρ).un (r.hl ρ):=dX _ _ _
        rw[←e];exact hb
       rcases Hl.vp.1 hb with hb | hb
       ·exact⟨_,List.mem_of_getElem? hp,hb⟩
       ·exact⟨_,List.mem_of_getElem? h1,hb⟩
     ·cases hb
    ·cases h
   ·cases h
  ·cases h
 ·cases h
theorem jC.merge {C:Ctx} (h:jC P S w0 ops A ρ D L pl a w) {c:Nat} {x:X} (hm:Gw P ops A D c=some (D',x)) :
 ∃ ρ',ae D.st.nv ρ ρ'∧x.n=D.st.nv∧x.rel C ρ ρ'∧D'.st.nv=D.st.nv+1∧jC P S w0 ops A ρ' D' L pl a w:=by
 unfold Gw at hm
 split at hm
 ·rename_i o ho
  split at hm
  ·rename_i s x' hx
   split at hm
   ·rename_i hc
    cases hm
    simp only[Bool.and_eq_true]at hc
    obtain⟨hup,hlate⟩:=hc
    rw[List.all_eq_true]at hlate
    obtain⟨ρ',hg,hxn,hxr,hnv,hM,hmem⟩:=By (C:=C) hx h.mem
    have hst:=Dr.vu hup
    have hstt:=hst
    simp only[St.upto,Bool.and_eq_true]at hstt
    refine⟨ρ',hg,hxn,hxr,hnv,⟨h.lsz,hM,h.path.agree hg hstt.2,h.size,h.defers,fun t u ht=>?_,h.lsub,h.dsub,h.dlt,h.ldone,h.lval,fun f hf hfl=>?_,h.hid,fun k hk hkd=>?_,h.inj,h.closed,h.dclosed⟩⟩
    ·rw[TV.agree hg u (St.nF hstt.1.1 ht)]
     exact h.slots t u ht
    ·exact(h.late f hf hfl).next hup hg hf (hlate f hf) rfl (fun _ _ _ hs=>hs) (fun g hg=>hg) (fun k hk=>hk)
    ·obtain⟨o',t',z',d',g1,g2,g3,g4,g5,g6,g7,g8⟩:=h.early k hk hkd
     refine⟨o',t',z',d',g1,g2,g3,g4,g5,g6,g7,fun r hr hb=>?_⟩
     obtain⟨r0,wA,hb0⟩:=hmem r hr _ hb
     exact g8 r0 wA hb0
   ·cases hm
  ·cases hm
 ·cases hm
end
end Go.Sx
namespace Go.Sx
open Go
section
variable {P:Program} {C:Ctx} {S:Nat→Prop} {w0:World} {ρ ρ':Env} {ops:List Oper} {A:List (List Nat)} {D D':Dr} {L:Array Bool} {pl:Nat→Nat} {a:Act} {w w':World}
theorem ic {s:St} {o:Oper} (hA:Rel S w0 ρ s a w) (h:ox ops s o=true):Region.wanted o (yielded ops.toArray a.tmps)=true:=by
 unfold ox at h
 split at h
 ·rename_i hg;rw[fz hA hg];rfl
 ·rename_i e want hg
  have hw:Region.wanted o (yielded ops.toArray a.tmps)=(bo ρ e==want):=fz hA hg
  have hk:known s.path e=some want:=by simpa using h
  rw[hw,dg hA.path hk];simp
 ·cases h
theorem jC.chain (hΓ:∀ s∈C.Γ,s.OK P) (h:jC P S w0 ops A ρ D L pl a w) (hc:jj ops A=true) (hu:vN ops) {c:Nat} (hcl:c<ops.length) (hd:c∉D.done) (ha:cD ops c=false) (hes:∀ e∈fj ops c,e∈D.done) (hr:∀ e∈fj ops c,L.getD e false=true)
 {R:XR} (hx:tV P C.Γ ops A D c=some (D',R)) {ms:Nat→Nat} (hn:R.need.holds C ms ρ) {K:Act→World→Prop} {Q:Exit→Act→World→Prop}
 (hK:∀ ρ' a' w',ae D.st.nv ρ ρ'→(match R.x with | some y=>y.rel C ρ ρ'∧y.n=D.st.nv | none=>ρ'=ρ)→jC P S w0 ops A ρ' D' (L.setIfInBounds c true) pl a' w'→D.st.nv≤D'.st.nv→K a' w'):wpOp P ops.toArray Q c K a w:=by
 unfold tV at hx
 split at hx
 ·rename_i o ho
  simp only at hx
  split at hx
  ·rename_i hw
   split at hx
   ·rename_i R' hR
    split at hx
    ·rename_i hcond
     cases hx
     simp only[Bool.and_eq_true,decide_eq_true_eq]at hcond
     obtain⟨⟨⟨hup,hnv⟩,hro⟩,hlate⟩:=hcond
     unfold Kj at hro
     rw[List.all_eq_true]at hlate hro
     have hL:=h.fo hd ha
     have hrel:=h.uQ hc hcl hr
     have hanc:=dS hc (p:=fun i=>L.getD i false=true) h.closed c hcl hr
     have hdst:=gK ho
     have hst:=Dr.vu hup
     have hstt:=hst
     simp only[St.upto,Bool.and_eq_true]at hstt
     let E:Nat→Prop:=fun b=>∃ j,L.getD j false=true∧j∉D.done∧pl j=b
     let S':Nat→Prop:=fun b=>(S b∨w0.heap.size≤b)∧¬E b
     have hE:∀ r∈D.st.mem,∀ b,(r.hl ρ).mem b→¬E b:=by
      rintro r hr b hb ⟨j,hj,hjd,rfl⟩
      obtain⟨_,_,_,_,_,_,_,_,_,_,_,h8⟩:=h.early j hj hjd
      exact h8 r hr hb
     have hrel':Rel S' w ρ (xK ops A c D.st) a w:=by
      refine⟨⟨vG.refl _ _,h.mem.sub,fun r hr ho b hb=>Or.inl ⟨h.mem.own r hr ho b hb,hE r hr b hb⟩,h.mem.ch,h.mem.pos⟩,hrel.size,hrel.defers,hrel.tmp,hrel.path⟩
     unfold wpOp
     have:ops.toArray[c]?=some o:=by simpa using ho
     rw[this]
     simp only
     rw[if_pos (ic hrel hw)]
     refine Or.inl (qt (Q:=Q) hΓ hrel' hR hn (fun ρ' x w' hg hxr hA'=>?_))
     have hg:ae D.st.nv ρ ρ':=hg
     have hag:=Mem.agree hg (St.cM hst)
     have hs:∀ k,(L.setIfInBounds c true).getD k false=if c=k then true else L.getD k false:=fun k=>gP (by rw[h.lsz];exact hcl)
     have hsz:(a.put o.dst x).tmps.size=a.tmps.size:=by cases o.dst<;>simp [Act.put]
     have hk:=hA'.cV
     have hnS:∀ k,k<w0.heap.size→¬S k→¬S' k:=fun k hk hS hS'=>hS'.1.elim hS (fun h=>by omega)
     have hEfix:∀ j,L.getD j false=true→j∉D.done→w'.heap[pl j]?=w.heap[pl j]?:=by
      intro j hj hjd
      obtain⟨_,_,_,_,_,_,_,_,_,h6,_⟩:=h.early j hj hjd
      exact hk.block _ (Array.getElem?_eq_some_iff.1 h6).1 (fun hS'=>hS'.2 ⟨j,hj,hjd,rfl⟩)
     have hmem:MRel S w0 ρ' R.st.mem w':=by
      refine⟨⟨hk.os.trans h.mem.cV.os,hk.tape.trans h.mem.cV.tape,hk.output.trans h.mem.cV.output,Nat.le_trans h.mem.cV.size hk.size,fun k hkl hS=>?_⟩,hA'.sub,fun r hr ho b hb=>?_,hA'.ch,hA'.pos⟩
      ·rw[hk.block k (Nat.lt_of_lt_of_le hkl h.mem.cV.size) (hnS k hkl hS)]
       exact h.mem.cV.block k hkl hS
      ·rcases hA'.own r hr ho b hb with h1 | h1
       ·exact h1.1
       ·right;have:=h.mem.cV.size;omega
     have hget:∀ t u,(({D.st with mem:=R.st.mem,nv:=R.st.nv} : St).put o.dst (match o.dst with | some d=>R.st.tmps.getD d none | none=>none)).tmps[t]?=some (some u) →
      (o.dst=some t∧R.st.tmps[t]?=some (some u))∨(o.dst≠some t∧D.st.tmps[t]?=some (some u)):=by
      intro t u ht
      rw[ou]at ht
      split at ht
      ·rename_i hc'
       left
       refine⟨hc'.1,?_⟩
       rw[hc'.1]at ht
       simp only[Option.some.injEq]at ht
       rw[List.getD_eq_getElem?_getD]at ht
       cases hq:R.st.tmps[t]? with
       | none=>rw[hq]at ht;cases ht
       | some q=>rw[hq]at ht;simp only[Option.getD_some]at ht;rw[ht]
      ·rename_i hc'
       by_cases hdt:o.dst=some t
       ·exfalso
        have:t<D.st.tmps.length:=(List.getElem?_eq_some_iff.1 ht).1
        exact hc' ⟨hdt,this⟩
       ·exact Or.inr ⟨hdt,ht⟩
     have hkeepslot:∀ t (u:TV),o.dst≠some t→u.upto D.st.nv=true→a.tmps[t]?=some (u.ev ρ)→(a.put o.dst x).tmps[t]?=some (u.ev ρ'):=by
      intro t u hne hut hv
      rw[gD,if_neg (fun e=>hne e.1),hv,TV.agree hg u hut]
     refine hK ρ' (a.put o.dst x) w' hg hxr ⟨by simp [h.lsz],by rw[St.gE];exact hmem,by rw[St.rm];exact h.path.agree hg hstt.2,by rw[gw,hsz];exact h.size,by cases o.dst<;>exact h.defers,?_,?_,?_,?_,?_,?_,?_,?_,?_,?_,?_,?_⟩ (by rw[St.uL];exact hnv)
     ·intro t u ht
      rcases hget t u ht with ⟨h1,h2⟩ | ⟨hne,ht⟩
      ·right;exact hA'.tmp t u h2
      ·rcases h.slots t u ht with ⟨f,hf,hfl,hfd⟩ | hv
       ·left
        refine⟨f,?_,?_,hfd⟩
        ·rw[List.mem_filter]
         refine⟨hf,?_⟩
         simp only[Bool.not_eq_true']
         cases hcc:(A.getD c []).contains f.i with
         | false=>rfl
         | true=>have:=hanc _ (List.contains_iff_mem.1 hcc);rw[hfl]at this;cases this
        ·rw[hs,if_neg (show ¬c=f.i from fun e=>hd (e▸h.ldone f hf))];exact hfl
       ·right;exact hkeepslot t u hne (St.nF hstt.1.1 ht) hv
     ·intro k hk
      rw[hs]at hk
      split at hk
      ·rename_i e;subst e;exact Or.inl (List.mem_cons_self ..)
      ·exact(h.lsub k hk).imp (List.mem_cons_of_mem _) id
     ·intro k hk
      rcases List.mem_cons.1 hk with rfl | hk
      ·left;rw[hs,if_pos rfl]
      ·rcases h.dsub k hk with h1 | ⟨f,hf,rfl⟩
       ·left;rw[hs];split
        ·rfl
        ·exact h1
       ·cases hcc:(A.getD c []).contains f.i with
        | true =>
         left;rw[hs];split
         ·rfl
         ·exact hanc _ (List.contains_iff_mem.1 hcc)
        | false=>right;exact⟨f,by rw[List.mem_filter];exact⟨hf,by rw[hcc];rfl⟩,rfl⟩
     ·intro k hk
      rcases List.mem_cons.1 hk with rfl | hk
      ·exact hcl
      ·exact h.dlt k hk
     ·intro f hf;exact List.mem_cons_of_mem _ (h.ldone f (List.mem_filter.1 hf).1)
     ·intro f hf t u hft ht
      have hf:=(List.mem_filter.1 hf).1
      rcases hget t u ht with ⟨h1,_⟩ | ⟨_,ht⟩
      ·exact absurd (hu _ _ t hft (by rw[hdst,h1])▸h.ldone f hf) hd
      ·exact h.lval f hf t u hft ht
     ·intro f hf hfl
      have hfb:=hlate f hf
      have hf:=(List.mem_filter.1 hf).1
      have hne:c≠f.i:=fun e=>hd (e▸h.ldone f hf)
      rw[hs,if_neg hne]at hfl
      refine(h.late f hf hfl).next hup hg hf (by rw[St.gE];exact hfb) (by rw[gw]) (fun t u ht hsl=>?_) (fun g hg'=>(List.mem_filter.1 hg').1) (fun k hk=>List.mem_cons_of_mem _ hk)
      rcases hsl with ⟨g,hg',hgl,hgd,hga⟩ | hv
      ·left
       refine⟨g,?_,?_,hgd,hga⟩
       ·rw[List.mem_filter]
        refine⟨hg',?_⟩
        simp only[Bool.not_eq_true']
        cases hcc:(A.getD c []).contains g.i with
        | false=>rfl
        | true=>have:=hanc _ (List.contains_iff_mem.1 hcc);rw[hgl]at this;cases this
       ·rw[hs,if_neg (show ¬c=g.i from fun e=>hd (e▸h.ldone g hg'))];exact hgl
      ·right
       have hdt:o.dst≠some t:=by
        intro hdt
        exact(h.late f hf hfl).hid c t hcl (by rw[hdst,hdt]) (fun hm=>hd ((h.late f hf hfl).sub c hm)) u ht
       rw[gD,if_neg (fun e=>hdt e.1)];exact hv
     ·intro j hj hjd t u hjt ht
      rcases hget t u ht with ⟨h1,_⟩ | ⟨_,ht⟩
      ·have:=hu _ _ t hjt (by rw[hdst,h1])
       rw[this,ha]at hj;cases hj
      ·exact h.hid j hj (fun e=>hjd (List.mem_cons_of_mem _ e)) t u hjt ht
     ·intro j hj hjd
      have hjd':j∉D.done:=fun e=>hjd (List.mem_cons_of_mem _ e)
      have hne:c≠j:=fun e=>hjd (List.mem_cons.2 (Or.inl e.symm))
      rw[hs,if_neg hne]at hj
      obtain⟨o',t',z',d',g1,g2,g3,g4,g5,g6,g7,g8⟩:=h.early j hj hjd'
      refine⟨o',t',z',d',g1,g2,g3,g4,fun hds=>?_,by rw[hEfix j hj hjd'];exact g6,g7,fun r hr hm=>?_⟩
      ·rw[gD,if_neg]
       ·exact g5 (by rw[hsz]at hds;exact hds)
       ·rintro⟨e,_⟩
        exact hne (hu _ _ d' (by rw[hdst,e]) (by rw[gK g1,g4]))
      ·rw[St.gE]at hr
       cases hro':r.own with
       | true =>
        rcases hA'.own r hr hro' _ hm with h1 | h1
        ·exact h1.2 ⟨j,hj,hjd',rfl⟩
        ·have:=(Array.getElem?_eq_some_iff.1 g6).1;omega
       | false =>
        have hb:=hro r hr
        cases r with
        | ro k tags any =>
         simp only[List.any_eq_true]at hb
         obtain⟨s,hsm,hsk⟩:=hb
         cases s with
         | ro k' tags' any' =>
          have hkk:k=k':=by simpa using hsk
          subst hkk
          have:=(hag _ hsm).1
          simp only[bc.hl]at this hm
          rw[this]at hm
          exact g8 _ hsm hm
         | _=>cases hsk
        | _=>cases hro'
     ·intro j j' hj hjd hj' hjd'
      rw[hs,if_neg (show ¬c=j from fun e=>hjd (List.mem_cons.2 (Or.inl e.symm)))]at hj
      rw[hs,if_neg (show ¬c=j' from fun e=>hjd' (List.mem_cons.2 (Or.inl e.symm)))]at hj'
      exact h.inj j j' hj (fun e=>hjd (List.mem_cons_of_mem _ e)) hj' (fun e=>hjd' (List.mem_cons_of_mem _ e))
     ·intro i hi e he
      rw[hs]
      split
      ·rfl
      ·rw[hs]at hi
       split at hi
       ·rename_i e1;subst e1;exact hr e he
       ·exact h.closed i hi e he
     ·intro k hk e he
      rcases List.mem_cons.1 hk with rfl | hk
      ·exact List.mem_cons_of_mem _ (hes e he)
      ·exact List.mem_cons_of_mem _ (h.dclosed k hk e he)
    ·cases hx
   ·cases hx
  ·cases hx
 ·cases hx
theorem jC.other (h:jC P S w0 ops A ρ D L pl a w) (hc:jj ops A=true) (hu:vN ops) {Q:Exit→Act→World→Prop} {g:Nat} (halloc:∀ j o t,cD ops j=true→ops[j]?=some o→o.op=.alloc t→j∉D.done→∃ z,iQ P t=some z)
 (ih:∀ L' pl' a' w',jC P S w0 ops A ρ D L' pl' a' w'→zR ops L'≤g→wpAny P .any ops.toArray Q g L' a' w') {i:Nat} (hi:i∈Region.ready .any ops.toArray L) (hg:zR ops L≤g+1) (hk:i∈D.done∨cD ops i=true) :
 wpOp P ops.toArray Q i (wpAny P .any ops.toArray Q g (L.setIfInBounds i true)) a w:=by
 obtain⟨hlt,hL,hr⟩:=(cG h.lsz).1 hi
 have hun:=nC h.lsz hlt hL
 by_cases hd:i∈D.done
 ·rcases h.dsub i hd with h1 | ⟨f,hf,rfl⟩
  ·rw[hL]at h1;cases h1
  ·have hl:=h.late f hf hL
   obtain⟨o,ho,hfl⟩:=hl.fl
   exact EJ (h.DU hc hf hL hr) ho hfl hl.need fun x hx=>ih _ pl _ _ (h.Dc hu hf ho hL hr hx) (by omega)
 ·have ha:=hk.resolve_left hd
  obtain⟨o,t,d,ho,hop,hdst,hgd,_⟩:=kp ha
  obtain⟨z,hz⟩:=halloc i o t ha ho hop hd
  unfold wpOp
  have:ops.toArray[i]?=some o:=by simpa using ho
  rw[this]
  simp only
  rw[if_pos (by simp [Region.wanted,hgd])]
  refine Or.inl ?_
  have hrun:(execOp a.eval o).run P w=.ok (.value (.pointer (some ⟨w.heap.size,0,none⟩))) (w.alloc (.cells z.cells t)):=by
   unfold execOp;rw[hop]
   simp only[Sem.run_bind,Instr.alloc,jB hz,Result.andThen_ok]
   rfl
  exact dm hrun (ih _ _ _ _ (h.AY hu ha hd hL ho hop hdst hz) (by omega))
theorem find_spec {α:Type} {p:α→Bool} {l:List α} {x:α} (h:l.find? p=some x):x∈l∧p x=true:=⟨List.mem_of_find?_eq_some h,List.find?_some h⟩
theorem oA {C:Ctx} {ms:Nat→Nat} {ρ:Env} : ∀ (l:List (Option Nd)) {nd:Nd},zV l=some nd→nd.holds C ms ρ→∀ x∈l,∃ a,x=some a∧a.holds C ms ρ
 | [],_,_,_,x,hx=>by cases hx
 | some a::l,nd,h,hn,x,hx=>by
  simp only[zV,Option.map_eq_some_iff]at h
  obtain⟨b,hb,rfl⟩:=h
  rw[cX]at hn
  rcases List.mem_cons.1 hx with rfl | hx
  ·exact⟨a,rfl,hn.1⟩
  ·exact oA l hb hn.2 x hx
 | none::_,_,h,_,_,_=>by cases h
theorem jv {r:Nat} {l:List Nat} (h:nA ops A (r::l)=true):r<ops.length∧r∉l∧(∀ i,i<ops.length→i=r∨i∈l∨i∈A.getD r [])∧nA ops A l=true:=by
 unfold nA at h
 simp only[Bool.and_eq_true,decide_eq_true_eq,Bool.not_eq_true',List.contains_eq_mem,decide_eq_false_iff_not,List.all_eq_true,List.mem_range,Bool.or_eq_true,beq_iff_eq]at h
 exact⟨h.1.1.1,h.1.1.2,fun i hi=>(h.1.2 i hi).elim (fun h=>h.elim Or.inl fun h=>Or.inr (Or.inl h)) fun h=>Or.inr (Or.inr h),h.2⟩
theorem xC:∀ {l:List Nat},nA ops A l=true→∀ i∈l,∃ m:List Nat,i<ops.length∧(∀ j,j<ops.length→j=i∨j∈m∨j∈A.getD i [])∧∀ j∈m,j∈l
 | [],_,i,h=>by cases h
 | r::l,h,i,hi=>by
  obtain⟨h1,h2,h3,h4⟩:=jv h
  rcases List.mem_cons.1 hi with rfl | hi
  ·exact⟨l,h1,h3,fun j hj=>List.mem_cons_of_mem _ hj⟩
  ·obtain⟨m,h5,h6,h7⟩:=xC h4 i hi
   exact⟨m,h5,h6,fun j hj=>List.mem_cons_of_mem _ (h7 j hj)⟩
theorem zJ {r:Nat} {l:List Nat} (hc:jj ops A=true) (h:nA ops A (r::l)=true) {L:Array Bool} (hL:∀ j,j<ops.length→(L.getD j false=true↔j∉r::l)) (hcl:∀ i,L.getD i false=true→∀ e∈fj ops i,L.getD e false=true) {i:Nat} (hi:i<ops.length) (hn:L.getD i false=false) (hr:∀ e∈fj ops i,L.getD e false=true):i=r:=by
 obtain⟨h1,h2,h3,h4⟩:=jv h
 have hanc:=dS hc (p:=fun i=>L.getD i false=true) hcl i hi hr
 have him:i∈r::l:=Classical.byContradiction fun hh=>by rw[(hL i hi).2 hh]at hn;cases hn
 rcases List.mem_cons.1 him with e | him
 ·exact e
 ·exfalso
  have key:∀ {l:List Nat},nA ops A l=true→i∈l→r∉l→r∈A.getD i []:=by
   intro l
   induction l with
   | nil=>intro _ h;cases h
   | cons x l ih =>
    intro h hi hr'
    obtain⟨_,_,k3,k4⟩:=jv h
    rcases List.mem_cons.1 hi with rfl | hi
    ·rcases k3 r h1 with e | e | e
     ·exact absurd (e▸List.mem_cons_self ..) hr'
     ·exact absurd (List.mem_cons_of_mem _ e) hr'
     ·exact e
    ·exact ih k4 hi fun h=>hr' (List.mem_cons_of_mem _ h)
  have hrl:=hanc r (key h4 him h2)
  exact((hL r h1).1 hrl) (List.mem_cons_self ..)
theorem tn {ex:Ex} (hΓ:∀ s∈C.Γ,s.OK P) (hex:tG P C ex) (hc:jj ops A=true) {d:Nat} {Q:Exit→Act→World→Prop} {k:St→Option Nd} : ∀ (l:List Nat) (st:St) (nd:Nd) (ms:Nat→Nat) (ρ:Env) (g:Nat) (L:Array Bool) (a:Act) (w:World),
 nA ops A l=true→Fg P C.Γ ex d ops l st k=some nd→nd.holds C ms ρ→Rel S w0 ρ st a w→L.size=ops.length→(∀ j,j<ops.length→(L.getD j false=true↔j∉l))→(∀ i,L.getD i false=true→∀ e∈fj ops i,L.getD e false=true)→zR ops L≤g→Cc S w0 C d ms st.nv ρ k (Q .normal)→wpAny P .any ops.toArray Q g L a w
 | [],st,nd,ms,ρ,g,L,a,w,_,h,hn,hA,hlsz,hL,hcl,hg,hk=>by
  have hq:=hk ms st nd ρ a w (fun _ _=>rfl) h (ae.refl _ _) hA hn
  have hnil:Region.ready .any ops.toArray L=[]:=by
   rw[List.eq_nil_iff_forall_not_mem]
   intro j hj
   obtain⟨h1,h2,_⟩:=(cG hlsz).1 hj
   rw[(hL j h1).2 (by simp)]at h2;cases h2
  cases g with
  | zero=>exact⟨hnil,hq⟩
  | succ g=>exact⟨fun _=>hq,fun j hj=>by rw[hnil]at hj;cases hj⟩
 | r::l,st,nd,ms,ρ,g,L,a,w,ht,h,hn,hA,hlsz,hL,hcl,hg,hk=>by
  obtain⟨h1,h2,h3,h4⟩:=jv ht
  have hLr:L.getD r false=false:=by
   cases hh:L.getD r false with
   | false=>rfl
   | true=>exact absurd (List.mem_cons_self ..) ((hL r h1).1 hh)
  have hun:=nC hlsz h1 hLr
  cases g with
  | zero=>omega
  | succ g =>
   refine⟨fun wA=>?_,fun i hi=>?_⟩
   ·exfalso
    have:=fu hc hlsz wA r h1
    rw[hLr]at this;cases this
   ·obtain⟨hlt,hLi,hr⟩:=(cG hlsz).1 hi
    have e:=zJ hc ht hL hcl hlt hLi hr
    subst e
    unfold Fg at h
    split at h
    ·rename_i o ho
     split at h
     ·rename_i hw
      unfold wpOp
      have:ops.toArray[i]?=some o:=by simpa using ho
      rw[this]
      simp only
      rw[if_pos (ic hA hw)]
      refine Or.inl (iO hΓ hex h hA hn fun ms' st' nd' ρ' a2 w2 hms hk' hg2 hA2 hn2=>?_)
      simp only at hk'
      split at hk'
      ·rename_i hnv
       refine tn hΓ hex hc l st' nd' ms' ρ' g _ a2 w2 h4 hk' hn2 hA2 (by rw[Array.size_setIfInBounds];exact hlsz) (fun j hj=>?_) (fun j hj e he=>?_) (by omega) (hk.dH hms hg2 hnv)
       ·rw[gP (by rw[hlsz];exact h1)]
        by_cases hji:i=j
        ·subst hji;simp [h2]
        ·rw[if_neg hji,hL j hj,List.mem_cons]
         constructor
         ·exact fun h hh=>h (Or.inr hh)
         ·exact fun h hh=>hh.elim (fun e=>hji e.symm) h
       ·rw[gP (by rw[hlsz];exact h1)]at hj ⊢
        split
        ·rfl
        ·by_cases hji:i=j
         ·subst hji;exact hr e he
         ·rw[if_neg hji]at hj;exact hcl j hj e he
      ·cases hk'
     ·cases h
    ·cases h
theorem qn {ex:Ex} (hΓ:∀ s∈C.Γ,s.OK P) (hex:tG P C ex) (hc:jj ops A=true) (hu:vN ops) {d:Nat} {Q:Exit→Act→World→Prop} (halloc:∀ j o t,cD ops j=true→ops[j]?=some o→o.op=.alloc t→∃ z,iQ P t=some z) :
 ∀ (m:Nat) (D:Dr) (k:St→Option Nd) (nd:Nd) (ms:Nat→Nat) (ρ:Env) (g:Nat) (L:Array Bool) (pl:Nat→Nat) (a:Act) (w:World),
  jZ P C.Γ ex d ops A m D k=some nd→nd.holds C ms ρ→jC P S w0 ops A ρ D L pl a w→zR ops L≤g→Cc S w0 C d ms D.st.nv ρ k (Q .normal)→wpAny P .any ops.toArray Q g L a w
 | 0,D,k,nd,ms,ρ,g,L,pl,a,w,h,_,_,_,_=>by cases h
 | m+1,D,k,nd,ms,ρ,g,L,pl,a,w,h,hn,hS,hg,hk=>by
  have IH:=qn (d:=d) (Q:=Q) hΓ hex hc hu halloc m
  unfold jZ at h
  split at h
  ·rename_i i hi
   obtain⟨_,hp⟩:=find_spec hi
   simp only[Bool.and_eq_true,Bool.not_eq_true',List.contains_eq_mem,decide_eq_false_iff_not,List.all_eq_true,decide_eq_true_eq]at hp
   obtain⟨⟨⟨hd,ha⟩,hes⟩,_⟩:=hp
   split at h
   ·rename_i o ho
    simp only at h
    split at h
    ·rename_i n v hf
     simp only[Option.map_eq_some_iff]at h
     obtain⟨nd',h',rfl⟩:=h
     obtain⟨h1,h2⟩:=ja _ _ hn
     have hb:bo ρ n=true:=sC n fun c hc'=>by
      by_cases hkn:known D.st.path c=some true
      ·exact dg hS.path hkn
      ·exact h1 c (by unfold wK;rw[List.mem_filter];exact⟨hc',by simpa using hkn⟩)
     exact IH _ k nd' ms ρ g L pl a w h' h2 (hS.float hc hu ho hd ha hes hf hb h1) hg (by rw[St.uL];exact hk)
    ·cases h
   ·cases h
  ·split at h
   ·rename_i e he
    split at h
    ·rename_i x y h1 h2
     cases h
     rw[cX,fG,fG]at hn
     cases hb:bo ρ e with
     | true=>exact IH _ k x ms ρ g L pl a w h1 (hn.1 hb) (hS.kH (cs:=[e]) (fun c hc=>by rw[List.mem_singleton.1 hc];exact hb)) hg hk
     | false =>
      have hb':bo ρ (mkNot e)=true:=by rw[cE,hb];rfl
      exact IH _ k y ms ρ g L pl a w h2 (hn.2 hb') (hS.kH (cs:=[mkNot e]) (fun c hc=>by rw[List.mem_singleton.1 hc];exact hb')) hg hk
    ·cases h
   ·
    have cand:∀ L' pl' a' w',jC P S w0 ops A ρ D L' pl' a' w'→∀ i∈Region.ready .any ops.toArray L',i∈D.done∨cD ops i=true∨i∈oC ops D:=by
     intro L' pl' a' w' hS' i hi
     obtain⟨hlt,hL',hr⟩:=(cG hS'.lsz).1 hi
     by_cases hd:i∈D.done
     ·exact Or.inl hd
     ·cases ha:cD ops i with
      | true=>exact Or.inr (Or.inl rfl)
      | false =>
       right;right
       unfold oC
       rw[List.mem_filter]
       refine⟨List.mem_range.2 hlt,?_⟩
       simp only[Bool.and_eq_true,Bool.not_eq_true',List.contains_eq_mem,decide_eq_false_iff_not,List.all_eq_true,Bool.or_eq_true,decide_eq_true_eq]
       exact⟨⟨hd,ha⟩,fun e he=>hS'.lsub e (hr e he)⟩
    have waitImp:∀ (j:Nat) (D':Dr) (nd':Nd),j∉D.done→(∀ L' pl' a' w',jC P S w0 ops A ρ D L' pl' a' w'→L'.getD j false=false→j<ops.length)→m8 P ops D j=some D'→jZ P C.Γ ex d ops A m D' k=some nd' →
     (∀ ρ',ae D.st.nv ρ ρ'→0≤ρ'.i D.st.nv→nd'.holds C ms ρ')→(∀ c∈oC ops D,j∈fj ops c) →
     ∀ (g:Nat) L' pl' a' w',jC P S w0 ops A ρ D L' pl' a' w'→zR ops L'≤g→wpAny P .any ops.toArray Q g L' a' w':=by
     intro j D' nd' hjd hjl himp hd' hn' hcj g
     induction g with
     | zero =>
      intro L' pl' a' w' hS' hg'
      cases hLj:L'.getD j false with
      | true =>
       obtain⟨ρ',hgr,h0,hS2,hnv⟩:=hS'.import hu hjd hLj himp
       exact IH D' k nd' ms ρ' 0 L' pl' a' w' hd' (hn' ρ' hgr h0) hS2 hg' (hk.dH (fun _ _=>rfl) hgr (by omega))
      | false =>
       exfalso
       have:=jy (Nat.le_zero.1 hg') (hjl L' pl' a' w' hS' hLj)
       rw[hLj]at this;cases this
     | succ g ihg =>
      intro L' pl' a' w' hS' hg'
      cases hLj:L'.getD j false with
      | true =>
       obtain⟨ρ',hgr,h0,hS2,hnv⟩:=hS'.import hu hjd hLj himp
       exact IH D' k nd' ms ρ' (g+1) L' pl' a' w' hd' (hn' ρ' hgr h0) hS2 hg' (hk.dH (fun _ _=>rfl) hgr (by omega))
      | false =>
       refine⟨fun wA=>?_,fun i hi=>?_⟩
       ·exfalso
        have:=fu hc hS'.lsz wA j (hjl L' pl' a' w' hS' hLj)
        rw[hLj]at this;cases this
       ·refine hS'.other hc hu (fun j o t h1 h2 h3 _=>halloc j o t h1 h2 h3) ihg hi hg' ?_
        rcases cand L' pl' a' w' hS' i hi with h1 | h1 | h1
        ·exact Or.inl h1
        ·exact Or.inr h1
        ·exfalso
         have:=((cG hS'.lsz).1 hi).2.2 j (hcj i h1)
         rw[hLj]at this;cases this
    split at h
    ·rename_i hcn
     split at h
     ·rename_i hall
      have hdone:∀ i,i<ops.length→i∈D.done:=by
       intro i hi
       have:=List.find?_eq_none.1 hall i (List.mem_range.2 hi)
       simpa using this
      have key:∀ (g:Nat) L' pl' a' w',jC P S w0 ops A ρ D L' pl' a' w'→zR ops L'≤g→wpAny P .any ops.toArray Q g L' a' w':=by
       have fin:∀ L' pl' a' w',jC P S w0 ops A ρ D L' pl' a' w'→(∀ i,i<ops.length→L'.getD i false=true)→Q .normal a' w':=by
        intro L' pl' a' w' hS' hL'
        refine hk ms D.st nd ρ a' w' (fun _ _=>rfl) h (ae.refl _ _) ⟨hS'.mem,hS'.size,hS'.defers,fun t u ht=>?_,hS'.path⟩ hn
        rcases hS'.slots t u ht with ⟨f,hf,hfl,_⟩ | hv
        ·have:=hL' f.i (hS'.dlt _ (hS'.ldone f hf));rw[hfl]at this;cases this
        ·exact hv
       intro g
       induction g with
       | zero =>
        intro L' pl' a' w' hS' hg'
        have hL':∀ i,i<ops.length→L'.getD i false=true:=fun i hi=>jy (Nat.le_zero.1 hg') hi
        refine⟨?_,fin L' pl' a' w' hS' hL'⟩
        cases hr:Region.ready .any ops.toArray L' with
        | nil=>rfl
        | cons i l =>
         exfalso
         obtain⟨hlt,hLi,_⟩:=(cG hS'.lsz).1 (hr▸List.mem_cons_self .. : i∈Region.ready .any ops.toArray L')
         rw[hL' i hlt]at hLi;cases hLi
       | succ g ihg =>
        intro L' pl' a' w' hS' hg'
        refine⟨fun wA=>fin L' pl' a' w' hS' (fu hc hS'.lsz wA),fun i hi=>?_⟩
        exact hS'.other hc hu (fun j o t h1 h2 h3 _=>halloc j o t h1 h2 h3) ihg hi hg' (Or.inl (hdone i ((cG hS'.lsz).1 hi).1))
      exact key g L pl a w hS hg
     ·rename_i j hj
      obtain⟨hjr,hjp⟩:=find_spec hj
      split at h
      ·rename_i D' himp
       simp only[Option.map_eq_some_iff]at h
       obtain⟨nd',h',rfl⟩:=h
       exact waitImp j D' nd' (by simpa using hjp) (fun _ _ _ _ _ _=>List.mem_range.1 hjr) himp h' (fun ρ' hgr h0=>hn ρ' hgr h0) (fun c hcm=>by rw[hcn]at hcm;cases hcm) g L pl a w hS hg
      ·cases h
    ·rename_i c hcn
     have hcm:c∈oC ops D:=by rw[hcn];exact List.mem_cons_self ..
     have hcm':=hcm
     unfold oC at hcm'
     rw[List.mem_filter]at hcm'
     simp only[Bool.and_eq_true,Bool.not_eq_true',List.contains_eq_mem,decide_eq_false_iff_not,List.all_eq_true,Bool.or_eq_true,decide_eq_true_eq,List.mem_range]at hcm'
     obtain⟨hcl,⟨hcd,hca⟩,hces⟩:=hcm'
     split at h
     ·rename_i j hj
      obtain⟨hje,hjp⟩:=find_spec hj
      have hjd:j∉D.done:=by simpa using hjp
      split at h
      ·rename_i D' himp
       simp only[Option.map_eq_some_iff]at h
       obtain⟨nd',h',rfl⟩:=h
       refine waitImp j D' nd' hjd (fun _ _ _ _ _ _=>Nat.lt_trans ((k6 hc hcl).2 j hje) hcl) himp h' (fun ρ' hgr h0=>hn ρ' hgr h0) (fun c' hcm'=>?_) g L pl a w hS hg
       rw[hcn,List.mem_singleton]at hcm';rw[hcm'];exact hje
      ·cases h
     ·rename_i hj
      have hes:∀ e∈fj ops c,e∈D.done:=fun e he=>by
       have:=List.find?_eq_none.1 hj e he
       simpa using this
      split at h
      ·rename_i D' x hmd
       simp only[Option.map_eq_some_iff]at h
       obtain⟨nd',h',rfl⟩:=h
       obtain⟨ρ',hgr,hxn,hxr,hnv,hS2⟩:=hS.merge (C:=C) hmd
       exact IH D' k nd' ms ρ' g L pl a w h' (hn ρ' (by rw[hxn];exact hgr) hxr) hS2 hg (hk.dH (fun _ _=>rfl) hgr (by omega))
      split at h
      ·rename_i D' R hch
       simp only[Option.map_eq_some_iff]at h
       obtain⟨nd',h',rfl⟩:=h
       rw[cX]at hn
       have key:∀ (g:Nat) L' pl' a' w',jC P S w0 ops A ρ D L' pl' a' w'→zR ops L'≤g→wpAny P .any ops.toArray Q g L' a' w':=by
        intro g
        induction g with
        | zero =>
         intro L' pl' a' w' hS' hg'
         exfalso
         have h1:=jy (Nat.le_zero.1 hg') hcl
         rw[hS'.fo hcd hca]at h1;cases h1
        | succ g ihg =>
         intro L' pl' a' w' hS' hg'
         refine⟨fun wA=>?_,fun i hi=>?_⟩
         ·exfalso
          have h1:=fu hc hS'.lsz wA c hcl
          rw[hS'.fo hcd hca]at h1;cases h1
         ·rcases cand L' pl' a' w' hS' i hi with h1 | h1 | h1
          ·exact hS'.other hc hu (fun j o t h1 h2 h3 _=>halloc j o t h1 h2 h3) ihg hi hg' (Or.inl h1)
          ·exact hS'.other hc hu (fun j o t h1 h2 h3 _=>halloc j o t h1 h2 h3) ihg hi hg' (Or.inr h1)
          ·rw[hcn,List.mem_singleton]at h1
           subst h1
           obtain⟨hlt,hLi,hr⟩:=(cG hS'.lsz).1 hi
           have hun:=nC hS'.lsz hlt hLi
           refine hS'.chain (Q:=Q) hΓ hc hu hlt hcd hca hes hr hch hn.1 fun ρ' a2 w2 hgr hx hS2 hnv=>?_
           refine IH D' k nd' ms ρ' g _ pl' a2 w2 h' ?_ hS2 (by omega) (hk.dH (fun _ _=>rfl) hgr hnv)
           have hn2:=hn.2
           cases hRx:R.x with
           | none=>rw[hRx]at hn2 hx;subst hx;exact hn2
           | some y =>
            rw[hRx]at hn2 hx
            exact hn2 ρ' (by rw[hx.2];exact hgr) hx.1
       exact key g L pl a w hS hg
      ·split at h
       ·rename_i o ho
        split at h
        ·rename_i hcond
         simp only[Bool.and_eq_true]at hcond
         obtain⟨hw,hlast⟩:=hcond
         have key:∀ (g:Nat) L' pl' a' w',jC P S w0 ops A ρ D L' pl' a' w'→zR ops L'≤g→wpAny P .any ops.toArray Q g L' a' w':=by
          intro g
          induction g with
          | zero =>
           intro L' pl' a' w' hS' hg'
           exfalso
           have h1:=jy (Nat.le_zero.1 hg') hcl
           rw[hS'.fo hcd hca]at h1;cases h1
          | succ g ihg =>
           intro L' pl' a' w' hS' hg'
           refine⟨fun wA=>?_,fun i hi=>?_⟩
           ·exfalso
            have h1:=fu hc hS'.lsz wA c hcl
            rw[hS'.fo hcd hca]at h1;cases h1
           ·rcases cand L' pl' a' w' hS' i hi with h1 | h1 | h1
            ·exact hS'.other hc hu (fun j o t h1 h2 h3 _=>halloc j o t h1 h2 h3) ihg hi hg' (Or.inl h1)
            ·exact hS'.other hc hu (fun j o t h1 h2 h3 _=>halloc j o t h1 h2 h3) ihg hi hg' (Or.inr h1)
            ·rw[hcn,List.mem_singleton]at h1
             subst h1
             obtain⟨hlt,hLi,hr⟩:=(cG hS'.lsz).1 hi
             have hrel:=hS'.uQ hc hcl hr
             have hanc:=dS hc (p:=fun i=>L'.getD i false=true) hS'.closed i hcl hr
             unfold wpOp
             have:ops.toArray[i]?=some o:=by simpa using ho
             rw[this]
             simp only
             rw[if_pos (ic hrel hw)]
             refine Or.inl (iO hΓ hex h hrel hn fun ms' st' nd' ρ' a2 w2 hms hk' hg2 hA2 hn2=>?_)
             have hq:=hk ms' st' nd' ρ' a2 w2 hms hk' hg2 hA2 hn2
             have hall:∀ j,j<ops.length→(L'.setIfInBounds i true).getD j false=true:=by
              intro j hj
              rw[gP (by rw[hS'.lsz];exact hcl)]
              split
              ·rfl
              ·rename_i hne
               unfold FA at hlast
               rw[List.all_eq_true]at hlast
               have:=hlast j (List.mem_range.2 hj)
               simp only[Bool.or_eq_true,beq_iff_eq]at this
               rcases this with h1 | h1
               ·exact absurd h1.symm hne
               ·exact hanc j (by simpa using h1)
             have hlsz:(L'.setIfInBounds i true).size=ops.length:=by rw[Array.size_setIfInBounds];exact hS'.lsz
             have hnil:Region.ready .any ops.toArray (L'.setIfInBounds i true)=[]:=by
              rw[List.eq_nil_iff_forall_not_mem]
              intro j hj
              obtain⟨h1,h2,_⟩:=(cG hlsz).1 hj
              rw[hall j h1]at h2;cases h2
             cases g with
             | zero=>exact⟨hnil,hq⟩
             | succ g=>exact⟨fun _=>hq,fun j hj=>by rw[hnil]at hj;cases hj⟩
         exact key g L pl a w hS hg
        ·split at h
         ·rename_i hcond
          simp only[Bool.and_eq_true]at hcond
          obtain⟨hw,htl⟩:=hcond
          obtain⟨t1,t2,t3,t4⟩:=jv htl
          have key:∀ (g:Nat) L' pl' a' w',jC P S w0 ops A ρ D L' pl' a' w'→zR ops L'≤g→wpAny P .any ops.toArray Q g L' a' w':=by
           intro g
           induction g with
           | zero =>
            intro L' pl' a' w' hS' hg'
            exfalso
            have h1:=jy (Nat.le_zero.1 hg') hcl
            rw[hS'.fo hcd hca]at h1;cases h1
           | succ g ihg =>
            intro L' pl' a' w' hS' hg'
            refine⟨fun wA=>?_,fun i hi=>?_⟩
            ·exfalso
             have h1:=fu hc hS'.lsz wA c hcl
             rw[hS'.fo hcd hca]at h1;cases h1
            ·rcases cand L' pl' a' w' hS' i hi with h1 | h1 | h1
             ·exact hS'.other hc hu (fun j o t h1 h2 h3 _=>halloc j o t h1 h2 h3) ihg hi hg' (Or.inl h1)
             ·exact hS'.other hc hu (fun j o t h1 h2 h3 _=>halloc j o t h1 h2 h3) ihg hi hg' (Or.inr h1)
             ·rw[hcn,List.mem_singleton]at h1
              subst h1
              obtain⟨hlt,hLi,hr⟩:=(cG hS'.lsz).1 hi
              have hrel:=hS'.uQ hc hcl hr
              have hanc:=dS hc (p:=fun i=>L'.getD i false=true) hS'.closed i hcl hr
              have hun:=nC hS'.lsz hlt hLi
              unfold wpOp
              have:ops.toArray[i]?=some o:=by simpa using ho
              rw[this]
              simp only
              rw[if_pos (ic hrel hw)]
              refine Or.inl (iO hΓ hex h hrel hn fun ms' st' nd' ρ' a2 w2 hms hk' hg2 hA2 hn2=>?_)
              simp only at hk'
              split at hk'
              ·rename_i hnv
               refine tn hΓ hex hc _ st' nd' ms' ρ' g _ a2 w2 t4 hk' hn2 hA2 (by rw[Array.size_setIfInBounds];exact hS'.lsz) (fun j hj=>?_) (fun j hj e he=>?_) (by omega) (hk.dH hms hg2 hnv)
               ·rw[gP (by rw[hS'.lsz];exact hcl)]
                by_cases hji:i=j
                ·subst hji;simp [t2]
                ·rw[if_neg hji]
                 constructor
                 ·intro hLj hjr
                  obtain⟨m,m1,m2,m3⟩:=xC t4 j hjr
                  have hij:i∈A.getD j []:=by
                   rcases m2 i hcl with e | e | e
                   ·exact absurd e hji
                   ·exact absurd (m3 i e) t2
                   ·exact e
                  have:=dS hc (p:=fun i=>L'.getD i false=true) hS'.closed j hj (hS'.closed j hLj) i hij
                  rw[hLi]at this;cases this
                 ·intro hjr
                  rcases t3 j hj with e | e | e
                  ·exact absurd e.symm hji
                  ·exact absurd e hjr
                  ·exact hanc j e
               ·rw[gP (by rw[hS'.lsz];exact hcl)]at hj ⊢
                split
                ·rfl
                ·by_cases hji:i=j
                 ·subst hji;exact hr e he
                 ·rw[if_neg hji]at hj;exact hS'.closed j hj e he
              ·cases hk'
          exact key g L pl a w hS hg
         ·cases h
       ·cases h
    ·rename_i c1 c2 cs hcn
     split at h
     ·rename_i hready
      have cfacts:∀ c∈oC ops D,c<ops.length∧c∉D.done∧cD ops c=false:=by
       intro c hcm'
       unfold oC at hcm'
       rw[List.mem_filter]at hcm'
       simp only[Bool.and_eq_true,Bool.not_eq_true',List.contains_eq_mem,decide_eq_false_iff_not,List.all_eq_true,Bool.or_eq_true,decide_eq_true_eq,List.mem_range]at hcm'
       exact⟨hcm'.1,hcm'.2.1.1,hcm'.2.1.2⟩
      obtain⟨k1,k2,k3⟩:=cfacts c1 (by rw[hcn];exact List.mem_cons_self ..)
      have key:∀ (g:Nat) L' pl' a' w',jC P S w0 ops A ρ D L' pl' a' w'→zR ops L'≤g→wpAny P .any ops.toArray Q g L' a' w':=by
       intro g
       induction g with
       | zero =>
        intro L' pl' a' w' hS' hg'
        exfalso
        have h1:=jy (Nat.le_zero.1 hg') k1
        rw[hS'.fo k2 k3]at h1;cases h1
       | succ g ihg =>
        intro L' pl' a' w' hS' hg'
        refine⟨fun wA=>?_,fun i hi=>?_⟩
        ·exfalso
         have h1:=fu hc hS'.lsz wA c1 k1
         rw[hS'.fo k2 k3]at h1;cases h1
        ·rcases cand L' pl' a' w' hS' i hi with h1 | h1 | h1
         ·exact hS'.other hc hu (fun j o t h1 h2 h3 _=>halloc j o t h1 h2 h3) ihg hi hg' (Or.inl h1)
         ·exact hS'.other hc hu (fun j o t h1 h2 h3 _=>halloc j o t h1 h2 h3) ihg hi hg' (Or.inr h1)
         ·obtain⟨_,hcd,hca⟩:=cfacts i h1
          rw[hcn]at h1
          obtain⟨ndi,hni,hhi⟩:=oA _ h hn _ (List.mem_map.2 ⟨i,h1,rfl⟩)
          rw[List.all_eq_true]at hready
          have hes:∀ e∈fj ops i,e∈D.done:=fun e he=>by
           have:=hready i h1
           rw[List.all_eq_true]at this
           simpa using this e he
          split at hni
          ·rename_i D' R hch
           simp only[Option.map_eq_some_iff]at hni
           obtain⟨nd',h',rfl⟩:=hni
           rw[cX]at hhi
           obtain⟨hlt,hLi,hr⟩:=(cG hS'.lsz).1 hi
           have hun:=nC hS'.lsz hlt hLi
           refine hS'.chain (Q:=Q) hΓ hc hu hlt hcd hca hes hr hch hhi.1 fun ρ' a2 w2 hgr hx hS2 hnv=>?_
           refine IH D' k nd' ms ρ' g _ pl' a2 w2 h' ?_ hS2 (by omega) (hk.dH (fun _ _=>rfl) hgr hnv)
           have hn2:=hhi.2
           cases hRx:R.x with
           | none=>rw[hRx]at hn2 hx;subst hx;exact hn2
           | some y =>
            rw[hRx]at hn2 hx
            exact hn2 ρ' (by rw[hx.2];exact hgr) hx.1
          ·cases hni
      exact key g L pl a w hS hg
     ·cases h
theorem wz {st:St} {t:Nat} {u:TV} (h:(iu ops st).tmps[t]?=some (some u)):st.tmps[t]?=some (some u)∧∀ j,cD ops j=true→du ops j≠some t:=by
 unfold iu at h
 simp only[jM,Option.map_eq_some_iff]at h
 obtain⟨v,hv,he⟩:=h
 split at he
 ·cases he
 split at he
 ·cases he
 ·rename_i hc
  cases he
  refine⟨hv,fun j hj hd=>hc ?_⟩
  rw[List.contains_iff_mem,List.mem_filterMap]
  exact⟨j,List.mem_range.2 (qo hd),by rw[if_pos hj];exact hd⟩
theorem CO (hΓ:∀ s∈C.Γ,s.OK P):Es P C (dk P C.Γ):=by
 intro ex hex d ops st k nd ms S w0 ρ a w id Q h hA hn hk
 unfold dk at h
 simp only at h
 split at h
 ·rename_i hcond
  simp only[Bool.and_eq_true]at hcond
  obtain⟨⟨⟨hc,hnd⟩,hm⟩,hzb⟩:=hcond
  have hu:=AU hnd
  refine wp_region_any hm ?_
  have hsz:ops.toArray.size=ops.length:=by simp
  rw[hsz]
  have hL:∀ i,(Array.replicate ops.length false).getD i false=false:=fun i=>by
   by_cases hi:i<ops.length
   ·simp [hi]
   ·simp [hi]
  have hbel:RowKit.Below w.heap.size w {w with drawn:=w.drawn+1}:=(RowKit.Below.refl _ w).drew
  have hA':MRel S w0 ρ st.mem {w with drawn:=w.drawn+1}:=hA.toMRel.below hbel
  have hz:∀ j o t,cD ops j=true→ops[j]?=some o→o.op=.alloc t→∃ z,iQ P t=some z:=by
   intro j o t _ ho hop
   unfold El at hzb
   rw[List.all_eq_true]at hzb
   have:=hzb o (List.mem_of_getElem? ho)
   rw[hop]at this
   exact Option.isSome_iff_exists.1 this
  ·refine qn (d:=d) hΓ hex hc hu hz _ ⟨iu ops st,[],[]⟩ _ nd ms ρ ops.length _ (fun _=>0) a _ h hn ⟨by simp,hA',hA.path,?_,hA.defers,?_,?_,?_,?_,?_,?_,?_,?_,?_,?_,?_,?_⟩ ?_ ?_
   ·rw[hA.size];simp [iu]
   ·intro t u ht;exact Or.inr (hA.tmp t u (wz ht).1)
   ·intro i hi;rw[hL]at hi;cases hi
   ·intro i hi;cases hi
   ·intro i hi;cases hi
   ·intro i hi;cases hi
   ·intro i hi;cases hi
   ·intro i hi;cases hi
   ·intro j hj _ t u hjt ht;exact(wz ht).2 j hj hjt
   ·intro j hj;rw[hL]at hj;cases hj
   ·intro j j' hj;rw[hL]at hj;cases hj
   ·intro j hj;rw[hL]at hj;cases hj
   ·intro i hi;cases hi
   ·unfold zR
    exact Nat.le_trans List.countP_le_length (by simp)
   ·intro ms' st' nd' ρ' a' w' hms hk' hg hA2 hn'
    simp only at hk'
    split at hk'
    ·exact hk ms' st' nd' ρ' a' w' hms hk' hg hA2 hn'
    ·cases hk'
 ·cases h
end
end Go.Sx
namespace Go.Sx
open Go
theorem Ap {k:Nat} : ∀ {l:List Hl},(dF l).mem k↔∃ H∈l,H.mem k
 | []=>by simp [dF,Hl.mem,Hl.none]
 | a::l=>by
  show(a.un (dF l)).mem k↔_
  rw[Hl.vp,Ap];simp
theorem Aq {w:World} : ∀ {l:List Hl},(∀ H∈l,H.sub w)→(dF l).sub w
 | [],_=>fun _ _ h=>by cases h
 | a::l,h=>Hl.Ei (h a (by simp)) (Aq fun H hH=>h H (by simp [hH]))
theorem Hl.Dd {a b:Hl} {w:World} (h:a.le b) (hs:b.sub w):a.sub w:=fun k o hk=>hs k o (h k o hk)
theorem Hl.nR {a b:Hl} (h:a.le b) {k:Nat} (hk:a.mem k):b.mem k:=by
 unfold Hl.mem at hk ⊢
 obtain⟨o,ho⟩:=Option.isSome_iff_exists.1 hk
 rw[h k o ho];rfl
theorem Hl.le_refl (a:Hl):a.le a:=fun _ _ h=>h
theorem Hl.e8 (a b:Hl):a.le (a.un b):=fun k o h=>by unfold Hl.un;rw[h];rfl
theorem Hl.ga {a b:Hl} (d:a.ch b):b.le (a.un b):=fun k o h=>by
 unfold Hl.un
 cases ha:a k with
 | some x=>exact absurd ⟨by unfold Hl.mem;rw[ha];rfl,by unfold Hl.mem;rw[h];rfl⟩ (d k)
 | none=>exact h
theorem Hl.r5 {a b:Hl} {k:Nat} {o:Obj} (h:a k=some o):(a.un b) k=some o:=by unfold Hl.un;rw[h];rfl
theorem Hl.kX {a b:Hl} {k:Nat} (h:¬a.mem k):(a.un b) k=b k:=by
 unfold Hl.un
 cases ha:a k with
 | some x=>exact absurd (by unfold Hl.mem;rw[ha];rfl) h
 | none=>rfl
theorem Hl.ue {a b c:Hl} (h1:a.ch b) (h2:a.ch c):a.ch (b.un c):=fun k ⟨x,y⟩=>by
 rcases Hl.vp.1 y with y | y
 ·exact h1 k ⟨x,y⟩
 ·exact h2 k ⟨x,y⟩
theorem Hl.ud {a b c:Hl} (h:a.ch b) (hc:c.le b):a.ch c:=fun k ⟨x,y⟩=>h k ⟨x,Hl.nR hc y⟩
theorem Hl.CN (a:Hl):a.ch Hl.none:=fun k ⟨_,y⟩=>by simp [Hl.mem,Hl.none]at y
theorem Hl.eU {b:Nat} {o:Obj} {h:Hl} : (Hl.one b o).ch h↔¬h.mem b:=by
 constructor
 ·exact fun d hb=>d b ⟨Hl.cI.2 rfl,hb⟩
 ·exact fun d k ⟨x,y⟩=>by rw[Hl.cI]at x;subst x;exact d y
theorem Hl.jX (a:Hl):a.un Hl.none=a:=by
 funext k;unfold Hl.un Hl.none;cases a k<;>rfl
theorem bp (a:Hl):dF [a]=a:=Hl.jX a
def kO (ρ:Env) (mem:Mem) (p:Nat):Hl:=match mem[p]? with
 | some r=>r.hl ρ
 | none=>Hl.none
def tD (ρ:Env) (mem:Mem) (f:List Nat):Hl:=dF (f.map (kO ρ mem))
def AG (mem:Mem) (gs:List (List Nat)) (f:List Nat):Bool :=
 ((gs.flatten++f).all fun p=>match mem[p]? with | some r=>r.own | none=>false)&&decide (gs.flatten++f).Nodup
section
variable {P:Program} {ρ:Env} {mem:Mem} {w w':World} {Hs Rs:List Hl}
theorem vq {f:List Nat} {b:Nat} : (tD ρ mem f).mem b↔∃ p∈f,(kO ρ mem p).mem b:=by
 unfold tD;rw[Ap]
 constructor
 ·rintro⟨H,hH,hb⟩
  obtain⟨p,hp,rfl⟩:=List.mem_map.1 hH
  exact⟨p,hp,hb⟩
 ·rintro⟨p,hp,hb⟩
  exact⟨_,List.mem_map.2 ⟨p,hp,rfl⟩,hb⟩
theorem AT (hd:∀ (p q:Nat) r s,p≠q→mem[p]?=some r→mem[q]?=some s→r.own=true→(r.hl ρ).ch (s.hl ρ)) {f g:List Nat}
 (hf:∀ p∈f,∃ r,mem[p]?=some r∧r.own=true) (hg:∀ p∈g,∃ r,mem[p]?=some r∧r.own=true) (hne:∀ p∈f,∀ q∈g,p≠q):(tD ρ mem f).ch (tD ρ mem g):=by
 intro b ⟨h1,h2⟩
 obtain⟨p,hp,h1⟩:=vq.1 h1
 obtain⟨q,hq,h2⟩:=vq.1 h2
 obtain⟨r,hr,ho⟩:=hf p hp
 obtain⟨s,hs,_⟩:=hg q hq
 unfold kO at h1 h2
 rw[hr]at h1;rw[hs]at h2
 exact hd p q r s (hne p hp q hq) hr hs ho b ⟨h1,h2⟩
theorem pO.of (hm:MRel (fun b=>∃ H∈Hs,H.mem b) w ρ mem w') {gs:List (List Nat)} {f:List Nat} (hl:gs.length=Hs.length) (hok:AG mem gs f=true) :
 pO w w' Hs (gs.map (tD ρ mem)) (tD ρ mem f):=by
 unfold AG at hok
 rw[Bool.and_eq_true,decide_eq_true_eq]at hok
 obtain⟨hall,hnd⟩:=hok
 have hown:∀ p∈gs.flatten++f,∃ r,mem[p]?=some r∧r.own=true:=by
  intro p hp
  have:=List.all_eq_true.1 hall p hp
  split at this
  ·rename_i r hr;exact⟨r,hr,this⟩
  ·cases this
 have hg:∀ g∈gs,∀ p∈g,∃ r,mem[p]?=some r∧r.own=true:=fun g hg p hp=>hown p (List.mem_append_left _ (List.mem_flatten.2 ⟨g,hg,hp⟩))
 have hf:∀ p∈f,∃ r,mem[p]?=some r∧r.own=true:=fun p hp=>hown p (List.mem_append_right _ hp)
 have hsub:∀ l:List Nat,(∀ p∈l,∃ r,mem[p]?=some r∧r.own=true)→(tD ρ mem l).sub w':=by
  intro l hl
  refine Aq fun H hH=>?_
  obtain⟨p,hp,rfl⟩:=List.mem_map.1 hH
  obtain⟨r,hr,_⟩:=hl p hp
  unfold kO;rw[hr]
  exact hm.sub r (List.mem_of_getElem? hr)
 have hdom:∀ l:List Nat,(∀ p∈l,∃ r,mem[p]?=some r∧r.own=true)→∀ b,(tD ρ mem l).mem b→(∃ K∈Hs,K.mem b)∨w.heap.size≤b:=by
  intro l hl b hb
  obtain⟨p,hp,hb⟩:=vq.1 hb
  obtain⟨r,hr,ho⟩:=hl p hp
  unfold kO at hb;rw[hr]at hb
  exact hm.own r (List.mem_of_getElem? hr) ho b hb
 rw[List.nodup_append]at hnd
 obtain⟨hn1,hn2,hn3⟩:=hnd
 have hn1':gs.flatten.Pairwise (·≠·):=hn1
 rw[List.pairwise_flatten]at hn1'
 refine⟨hm.cV.os,hm.cV.tape,hm.cV.output,hm.cV.size,fun b hb hn=>hm.cV.block b hb (fun⟨H,hH,hbm⟩=>hn H hH hbm),by simp [hl],?_,hsub f hf,?_,hdom f hf,?_,?_⟩
 ·intro H hH
  obtain⟨g,hgm,rfl⟩:=List.mem_map.1 hH
  exact hsub g (hg g hgm)
 ·intro H hH
  obtain⟨g,hgm,rfl⟩:=List.mem_map.1 hH
  exact hdom g (hg g hgm)
 ·intro p q H K hpq hH hK
  rw[List.getElem?_map,Option.map_eq_some_iff]at hH hK
  obtain⟨a,ha,rfl⟩:=hH
  obtain⟨b,hb,rfl⟩:=hK
  refine AT hm.ch (hg a (List.mem_of_getElem? ha)) (hg b (List.mem_of_getElem? hb)) ?_
  have hpw:=List.pairwise_iff_getElem.1 hn1'.2
  obtain⟨hp,hpe⟩:=List.getElem?_eq_some_iff.1 ha
  obtain⟨hq,hqe⟩:=List.getElem?_eq_some_iff.1 hb
  rcases Nat.lt_or_gt_of_ne hpq with h | h
  ·have:=hpw p q hp hq h
   rw[hpe,hqe]at this
   exact this
  ·have:=hpw q p hq hp h
   rw[hpe,hqe]at this
   exact fun x hx y hy e=>this y hy x hx e.symm
 ·intro H hH
  obtain⟨g,hgm,rfl⟩:=List.mem_map.1 hH
  exact AT hm.ch (hg g hgm) hf fun p hp q hq=>hn3 p (List.mem_flatten.2 ⟨g,hgm,hp⟩) q hq
structure Entry (ρ:Env) (mem:Mem) (Hs Rs:List Hl):Prop where
 own:∀ r∈mem,r.own=true→∃ H∈Hs,(r.hl ρ).le H
 ro:∀ r∈mem,r.own=false→∃ R∈Rs,(r.hl ρ).le R
 ch:mem.Pairwise fun r s=>r.own=true→s.own=true→(r.hl ρ).ch (s.hl ρ)
 pos:∀ r∈mem,r.pos ρ
theorem Entry.HN (h:Entry ρ mem Hs Rs) (h1:∀ H∈Hs,H.sub w) (h2:∀ R∈Rs,R.sub w) (h3:∀ H∈Hs,∀ R∈Rs,H.ch R):MRel (fun b=>∃ H∈Hs,H.mem b) w ρ mem w:=by
 refine⟨vG.refl _ _,fun r hr=>?_,fun r hr ho b hb=>?_,fun p q r s hpq hp hq ho=>?_,h.pos⟩
 ·cases ho:r.own with
  | true=>obtain⟨H,hH,hle⟩:=h.own r hr ho;exact Hl.Dd hle (h1 H hH)
  | false=>obtain⟨H,hH,hle⟩:=h.ro r hr ho;exact Hl.Dd hle (h2 H hH)
 ·obtain⟨H,hH,hle⟩:=h.own r hr ho
  exact Or.inl ⟨H,hH,Hl.nR hle hb⟩
 ·cases hs:s.own with
  | true =>
   have hpw:=List.pairwise_iff_getElem.1 h.ch
   obtain⟨hp',hpe⟩:=List.getElem?_eq_some_iff.1 hp
   obtain⟨hq',hqe⟩:=List.getElem?_eq_some_iff.1 hq
   rcases Nat.lt_or_gt_of_ne hpq with hlt | hlt
   ·have:=hpw p q hp' hq' hlt
    rw[hpe,hqe]at this
    exact this ho hs
   ·have:=hpw q p hq' hp' hlt
    rw[hpe,hqe]at this
    exact Hl.gJ (this hs ho)
  | false =>
   obtain⟨H,hH,hle⟩:=h.own r (List.mem_of_getElem? hp) ho
   obtain⟨R,hR,hle'⟩:=h.ro s (List.mem_of_getElem? hq) hs
   exact Hl.gJ (Hl.ud (Hl.gJ (Hl.ud (h3 H hH R hR) hle')) hle)
def postOf (s:Spec) (xs:List Value) (Hs Rs:List Hl):Env→Mem→TV→Prop:=fun ρ mem r =>
 (∀ (p q:Nat) r s,p≠q→mem[p]?=some r→mem[q]?=some s→r.own=true→(r.hl ρ).ch (s.hl ρ))→∃ gs f,gs.length=Hs.length∧AG mem gs f=true∧(∃ ρ2,r.ev ρ=(df 0 s.res).ev ρ2∧dN 0 s.res ρ2)∧s.post xs Hs Rs (r.ev ρ) (gs.map (tD ρ mem)) (tD ρ mem f)
structure cy (P:Program) (Γ:List Spec) (f:FuncId) where
 Λ:lJ
 lim:Nat:=100
 fuel:Nat:=400
 args:List TV
 mem:Mem
 nv:Nat
 path:List E:=[]
 nd:Nd
 ok:Hr P Γ (dk P Γ) Λ lim fuel f args mem nv path=some nd
theorem Spec.b8 {s:Spec} {Γ:List Spec} (hΓ:∀ t∈Γ,t.OK P)
 (h:∀ xs Hs Rs,Hs.length=s.own.length→Rs.length=s.rd.length→s.pre xs Hs Rs→∃ (W:cy P Γ s.fn) (ρ:Env) (inv:Nat→Env→Prop) (mu:Nat→Env→Nat),
  W.args.map (TV.ev ρ)=xs∧Entry ρ W.mem Hs Rs∧Path ρ W.path∧W.nd.holds ⟨Γ,inv,mu,postOf s xs Hs Rs⟩ (fun _=>0) ρ):s.OK P:=by
 intro w xs Hs Rs hl1 hl2 hs1 hs2 hd1 hd2 hpre
 obtain⟨W,ρ,inv,mu,hx,hE,hp,hn⟩:=h xs Hs Rs hl1 hl2 hpre
 have hm:=hE.HN hs1 hs2 hd2
 have:=qz (C:=⟨Γ,inv,mu,postOf s xs Hs Rs⟩) hΓ (CO (C:=⟨Γ,inv,mu,postOf s xs Hs Rs⟩) hΓ) W.ok hm hp hn
 rw[hx]at this
 refine this.mono ?_
 rintro e w' ⟨ρ',mem',r,rfl,hg,hm',hp'⟩
 obtain⟨gs,f,hl,hok,⟨ρ2,h2,h3⟩,hpost⟩:=hp' hm'.ch
 refine⟨ρ2,gs.map (tD ρ' mem'),tD ρ' mem' f,by rw[h2],h3,pO.of hm' hl hok,?_⟩
 rw[←h2];exact hpost
end
end Go.Sx
namespace Go.Sx
open Go
def cn (l:List Int):List Value:=l.map (Value.int .u8)
theorem dq (l:List Int):(cn l).length=l.length:=List.length_map _
theorem dw (l:List Int) (j:Nat):(cn l)[j]?=(l[j]?).map (Value.int .u8):=List.getElem?_map
theorem ft (a b:List Int):cn (a++b)=cn a++cn b:=List.map_append
theorem mF {a b:List Int} (h:cn a=cn b):a=b:=by
 apply List.ext_getElem?
 intro j
 have:=congrArg (fun l=>l[j]?) h
 simp only[dw]at this
 cases ha:a[j]?<;>cases hb:b[j]?<;>simp [ha,hb]at this ⊢
 exact this
def mv (R:Hl) (v:Value) (bs:List Int):Prop :=
 ∃ (x y:Int) (c:Nat),v=.slice (ar x y) bs.length c∧0≤y∧((x= -1∧bs=[])∨(0≤x∧∀ j z,bs[j]?=some z→R.cell x.toNat (y.toNat+j)=some (.int .u8 z)))
theorem jT {x y x' y':Int} (h0:-1≤x) (hy:0≤y) (h1:-1≤x') (hy':0≤y') (h:ar x y=ar x' y'):x=x'∧(0≤x→y=y'):=by
 rcases Int.lt_or_le x 0 with hx | hx
 ·have e:x= -1:=by omega
  subst e
  rw[cW]at h
  rcases Int.lt_or_le x' 0 with hx' | hx'
  ·exact⟨by omega,fun h=>by omega⟩
  ·rw[aq hx']at h;cases h
 ·rcases Int.lt_or_le x' 0 with hx' | hx'
  ·have e:x'= -1:=by omega
   subst e
   rw[cW,aq hx]at h;cases h
  ·rw[aq hx,aq hx']at h
   simp only[Option.some.injEq,Addr.mk.injEq,and_true]at h
   exact⟨by omega,fun _=>by omega⟩
theorem mv.uniq {R:Hl} {v:Value} {a b:List Int} (h1:mv R v a) (h2:mv R v b):a=b:=by
 obtain⟨x,y,c,rfl,hy,h1⟩:=h1
 obtain⟨x',y',c',he,hy',h2⟩:=h2
 simp only[Value.slice.injEq]at he
 obtain⟨hp,hl,_⟩:=he
 have hx:-1≤x:=by rcases h1 with ⟨rfl,_⟩ | ⟨h,_⟩<;>omega
 have hx':-1≤x':=by rcases h2 with ⟨rfl,_⟩ | ⟨h,_⟩<;>omega
 obtain⟨rfl,hyy⟩:=jT hx hy hx' hy' hp
 rcases h1 with ⟨rfl,rfl⟩ | ⟨h0,h1⟩
 ·rw[List.length_nil]at hl
  exact(List.length_eq_zero_iff.1 hl.symm).symm
 ·have:=hyy h0
  subst this
  rcases h2 with ⟨rfl,_⟩ | ⟨_,h2⟩
  ·omega
  ·apply List.ext_getElem?
   intro j
   cases ha:a[j]? with
   | some z =>
    have hj:j<b.length:=by have:=(List.getElem?_eq_some_iff.1 ha).1;omega
    have e1:=h1 j z ha
    have e2:=h2 j _ (List.getElem?_eq_getElem hj)
    rw[e1]at e2
    simp only[Option.some.injEq,Value.int.injEq,true_and]at e2
    rw[List.getElem?_eq_getElem hj,e2]
   | none =>
    have:a.length≤j:=List.getElem?_eq_none_iff.1 ha
    rw[List.getElem?_eq_none (by omega)]
def fw (R:Hl) (v:Value) (bs:List Int):Prop :=
 ∃ (x y:Int) (c:Nat),v=.slice (ar x y) bs.length c∧0≤y∧(bs=[]∨(0≤x∧∀ j z,bs[j]?=some z→R.cell x.toNat (y.toNat+j)=some (.int .u8 z)))
theorem mv.w {R:Hl} {v:Value} {bs:List Int} (h:mv R v bs):fw R v bs:=by
 obtain⟨x,y,c,hv,hy,h⟩:=h
 exact⟨x,y,c,hv,hy,h.imp (·.2) id⟩
theorem fw.uniq {R:Hl} {v:Value} {a b:List Int} (h1:fw R v a) (h2:fw R v b):a=b:=by
 obtain⟨x,y,c,rfl,hy,h1⟩:=h1
 obtain⟨x',y',c',he,hy',h2⟩:=h2
 have hl:a.length=b.length:=by simp only[Value.slice.injEq]at he;exact he.2.1
 rcases h1 with rfl | ⟨h0,h1⟩
 ·exact(List.length_eq_zero_iff.1 hl.symm).symm
 ·rcases h2 with rfl | ⟨h0',h2⟩
  ·exact List.length_eq_zero_iff.1 hl
  ·refine mv.uniq (R:=R) (v:=.slice (ar x y) a.length c) ⟨x,y,c,rfl,hy,Or.inr ⟨h0,h1⟩⟩ ⟨x',y',c',he,hy',Or.inr ⟨h0',h2⟩⟩
def dA (F:Hl) (e:TypeId) (v:Value) (bs:List Int):Prop:=bR F e 1 v bs.length (cn bs)
theorem dA.rd {F:Hl} {e:TypeId} {v:Value} {bs:List Int} (h:dA F e v bs):mv F v bs:=by
 obtain⟨hl,h⟩:=h
 rcases h with ⟨rfl,hn⟩ | ⟨g,cap,cur,rfl,hg,hle,hm,hs,ht⟩
 ·exact⟨-1,0,0,by rw[cW,hn],by omega,Or.inl ⟨rfl,List.length_eq_zero_iff.1 hn⟩⟩
 ·refine⟨g,0,cap,by rw[aq (by omega)];simp,by omega,Or.inr ⟨by omega,fun j z hz=>?_⟩⟩
  have hj:=(List.getElem?_eq_some_iff.1 hz).1
  simp only[Int.toNat_natCast,Hl.cell,hg,Int.toNat_zero,Nat.zero_add]
  have e1:(cur.toList.take (bs.length*1))[j]?=some (.int .u8 z):=by rw[ht,dw,hz];rfl
  rw[List.getElem?_take_of_lt (by omega),Array.getElem?_toList]at e1
  exact e1
theorem dA.mem {F:Hl} {e:TypeId} {x y l c:Int} {bs:List Int} (h:dA F e (.slice (ar x y) l.toNat c.toNat) bs) (hx:0≤x):F.mem x.toNat:=by
 obtain⟨hl,h⟩:=h
 rcases h with ⟨h,hn⟩ | ⟨g,cap,cur,h,hg,hle,hm,hs,ht⟩
 ·rw[aq hx]at h;cases h
 ·rw[aq hx]at h
  simp only[Value.slice.injEq,Option.some.injEq,Addr.mk.injEq]at h
  unfold Hl.mem;rw[h.1.1,hg];rfl
theorem mv.at {R:Hl} {x y l c:Int} {bs:List Int} (h:mv R (.slice (ar x y) l.toNat c.toNat) bs) (hx:-1≤x) (hy:0≤y) (hl:0≤l) :
 l=bs.length∧((x= -1∧bs=[])∨(0≤x∧∀ j z,bs[j]?=some z→R.cell x.toNat (y.toNat+j)=some (.int .u8 z))):=by
 obtain⟨x',y',c',he,hy',h⟩:=h
 simp only[Value.slice.injEq]at he
 obtain⟨hp,he,_⟩:=he
 have hx':-1≤x':=by rcases h with ⟨rfl,_⟩ | ⟨h,_⟩<;>omega
 obtain⟨rfl,hyy⟩:=jT hx hy hx' hy' hp
 refine⟨by omega,?_⟩
 rcases h with h | ⟨h0,h⟩
 ·exact Or.inl h
 ·have:=hyy h0
  subst this
  exact Or.inr ⟨h0,h⟩
theorem dB {R:Hl} {x y n:Nat} {bs:List Int} (h:∀ j z,bs[j]?=some z→R.cell x (y+j)=some (.int .u8 z)) (hn:n≤bs.length):cN R x y n=true:=by
 unfold cN
 rw[List.all_eq_true]
 intro j hj
 have hj:=List.mem_range.1 hj
 rw[h j _ (List.getElem?_eq_getElem (by omega))]
 simp [cx]
theorem yf {R:Hl} {x y:Nat} {bs:List Int} (h:∀ j z,bs[j]?=some z→R.cell x (y+j)=some (.int .u8 z)):dV R x y bs.length=bs:=by
 unfold dV
 apply List.ext_getElem?
 intro j
 rw[List.getElem?_map]
 rcases Nat.lt_or_ge j bs.length with hj | hj
 ·rw[List.getElem?_range hj,Option.map_some,h j _ (List.getElem?_eq_getElem hj),List.getElem?_eq_getElem hj];rfl
 ·rw[List.getElem?_eq_none (by simpa using hj),List.getElem?_eq_none hj];rfl
theorem fK {ρ:Env} {h:Nat} {x y:E} : ∀ (n j:Nat) (bs:List Int),bs.length=n→(∀ i z,bs[i]?=some z→(ρ.h h).cell (ak ρ x).toNat ((ak ρ y).toNat+(j+i))=some (.int .u8 z))→(bz h x y j (List.replicate n (Kd.int .u8))).map (CV.ev ρ)=cn bs
 | 0,_,bs,hl,_=>by rw[List.length_eq_zero_iff.1 hl];rfl
 | n+1,j,bs,hl,hc=>by
  cases bs with
  | nil=>cases hl
  | cons b bs =>
   rw[List.replicate_succ]
   simp only[bz,List.map_cons,cn,List.map_cons]
   congr 1
   ·have:=hc 0 b rfl
    rw[Nat.add_zero]at this
    simp only[nr,CV.ev,aV,this,fg]
   ·refine fK n (j+1) bs (by simpa using hl) fun i z hz=>?_
    have:=hc (i+1) z (by simpa using hz)
    rwa[show j+(i+1)=j+1+i by omega]at this
end Go.Sx
namespace Go.Sx
open Go
theorem wrap_i64 {n:Int} (h0:-9223372036854775808≤n) (h1:n≤9223372036854775807):IntKind.i64.wrap n=n:=by rw[IntKind.wrap_i64];omega
theorem Hl.E1 (b y:Nat) (c:Array Value) (T:TypeId) (fr:Nat×Nat) (vs:List Value):(Hl.one b (.cells c T fr)).put b y vs=Hl.one b (.cells (bG c.toList y vs).toArray T fr):=by
 funext k
 unfold Hl.put
 rw[Hl.bE]
 unfold Hl.one
 split<;>rfl
theorem Hl.mf (b:Nat) (o o':Obj):(Hl.one b o).setObj b o'=Hl.one b o':=by
 funext k;unfold Hl.setObj Hl.one;split<;>simp_all
theorem Hl.one_cell (b:Nat) (c:Array Value) (T:TypeId) (fr:Nat×Nat) (y:Nat):(Hl.one b (.cells c T fr)).cell b y=c[y]?:=by
 unfold Hl.cell;rw[Hl.bE]
theorem Hl.DG (b:Nat) (c:Array Value) (T:TypeId) (y n:Nat) (h:y+n≤c.size):(Hl.one b (.cells c T (0,0))).wr b y n=true:=by
 unfold Hl.wr;rw[Hl.bE];simp [h]
theorem je {α:Type} {l m:List α} {o:Nat} (h:o+m.length≤l.length):(bG l o m).length=l.length:=by
 unfold bG;simp only[List.length_append,List.length_take,List.length_drop];omega
theorem zB (l m:List Int) (o:Nat):bG (cn l) o (cn m)=cn (bG l o m):=by
 unfold bG
 rw[ft,ft,dq]
 unfold cn
 rw[List.map_take,List.map_drop]
theorem iB {α:Type} {l m:List α} {o j:Nat} (h:o+m.length≤l.length):(bG l o m)[j]?=if o≤j∧j<o+m.length then m[j-o]? else l[j]?:=by
 unfold bG
 by_cases h1:j<o
 ·rw[if_neg (by omega),List.append_assoc,List.getElem?_append_left (by rw[List.length_take];omega),List.getElem?_take_of_lt h1]
 ·by_cases h2:j<o+m.length
  ·rw[if_pos ⟨by omega,h2⟩,List.append_assoc,List.getElem?_append_right (by rw[List.length_take];omega),List.length_take,Nat.min_eq_left (by omega),List.getElem?_append_left (by omega)]
  ·rw[if_neg (by omega),List.getElem?_append_right (by rw[List.length_append,List.length_take];omega),List.length_append,List.length_take,Nat.min_eq_left (by omega),List.getElem?_drop]
   congr 1;omega
theorem uq {A B C:Hl} (h1:A.ch B) (h2:A.ch C) (h3:B.ch C):A.le (dF [A,B,C])∧B.le (dF [A,B,C])∧C.le (dF [A,B,C]):=by
 show A.le (A.un (B.un (C.un Hl.none)))∧B.le (A.un (B.un (C.un Hl.none)))∧C.le (A.un (B.un (C.un Hl.none)))
 rw[Hl.jX]
 have h12:A.ch (B.un C):=Hl.ue h1 h2
 refine⟨Hl.e8 _ _,fun k o h=>Hl.ga h12 k o (Hl.e8 _ _ k o h),fun k o h=>Hl.ga h12 k o (Hl.ga h3 k o h)⟩
theorem Hl.fH {a b:Nat} {o p:Obj} (h:a≠b):(Hl.one a o).ch (Hl.one b p):=Hl.eU.2 fun hb=>h (Hl.cI.1 hb)
theorem dA.write {F:Hl} {e:TypeId} {x y l c:Int} {bs:List Int} (h:dA F e (.slice (ar x y) l.toNat c.toNat) bs) (hx:-1≤x) (hy:0≤y) {j:Nat} (hj:j<bs.length) (z:Int) :
 0≤x∧F.wr x.toNat (y.toNat+j) 1=true∧F.cell x.toNat (y.toNat+j)=some (.int .u8 bs[j])∧dA (F.put x.toNat (y.toNat+j) [.int .u8 z]) e (.slice (ar x y) l.toNat c.toNat) (bs.set j z):=by
 have hrd:=h.rd
 obtain⟨hl,h⟩:=h
 rcases h with ⟨_,hn⟩ | ⟨g,cap,cur,hv,hg,hle,hm,hs,ht⟩
 ·omega
 ·simp only[Value.slice.injEq]at hv
  obtain⟨hp,hll,hcc⟩:=hv
  have h0:0≤x:=by
   rcases Int.lt_or_le x 0 with hlt | h0
   ·rw[show x= -1 by omega,cW]at hp;cases hp
   ·exact h0
  rw[aq h0]at hp
  simp only[Option.some.injEq,Addr.mk.injEq,and_true]at hp
  obtain⟨hxg,hy0⟩:=hp
  rw[Nat.mul_one]at hs ht
  have hcur:∀ i,i<bs.length→cur.toList[i]?=some (.int .u8 (bs[i]?.getD 0)):=by
   intro i hi
   have:=congrArg (fun q=>q[i]?) ht
   simp only[dw]at this
   rw[List.getElem?_take_of_lt hi,List.getElem?_eq_getElem hi]at this
   rw[this,List.getElem?_eq_getElem hi];rfl
  refine⟨h0,?_,?_,?_⟩
  ·rw[hxg,hy0];unfold Hl.wr;rw[hg];simp;omega
  ·rw[hxg,hy0];unfold Hl.cell;rw[hg]
   show cur[0+j]?=_
   rw[Nat.zero_add,←Array.getElem?_toList,hcur j hj,List.getElem?_eq_getElem hj];rfl
  ·unfold dA
   rw[List.length_set]
   refine⟨by rw[dq,List.length_set,Nat.mul_one],Or.inr ⟨g,cap,(bG cur.toList (y.toNat+j) [.int .u8 z]).toArray,?_,?_,hle,hm,?_,?_⟩⟩
   ·rw[aq h0,hxg,hy0,hll,hcc]
   ·unfold Hl.put
    rw[hxg,if_pos rfl,hg]
   ·rw[List.size_toArray,je (by rw[hy0];simp;omega)];simpa using hs
   ·apply List.ext_getElem?
    intro i
    rw[Nat.mul_one,dw]
    rcases Nat.lt_or_ge i bs.length with hi | hi
    ·rw[List.getElem?_take_of_lt hi]
     show(bG cur.toList (y.toNat+j) [.int .u8 z])[i]?=_
     rw[iB (by rw[hy0];simp;omega),hy0,Nat.zero_add]
     by_cases hij:i=j
     ·subst hij
      rw[if_pos ⟨Nat.le_refl _,by simp⟩,Nat.sub_self,List.getElem?_set_self hi];rfl
     ·rw[if_neg (by simp;omega),hcur i hi,List.getElem?_set_ne (fun e=>hij e.symm),List.getElem?_eq_getElem hi];rfl
    ·rw[List.getElem?_eq_none (by rw[List.length_take];omega),List.getElem?_eq_none (by rw[List.length_set];omega)];rfl
def fh (k:IntKind) (es:Array MapEntry) (l:List (Int×Value)):Prop:=es.toList.map (fun e=>(e.key,e.val))=l.map fun p=>(Value.int k p.1,p.2)
def dP (i:Int):List (Int×Value)→Nat→Option (Nat×Value)
 | [],_=>none
 | p::l,n=>if i=p.1 then some (n,p.2)else dP i l (n+1)
theorem oJ {k:IntKind} {i:Int} : ∀ (es:List MapEntry) (l:List (Int×Value)) (n:Nat),es.map (fun e=>(e.key,e.val))=l.map (fun p=>(Value.int k p.1,p.2))→Instr.findNow (.int k) (.int k i) es n=some (dP i l n)
 | [],[],_,_=>rfl
 | [],_::_,_,h=>by cases h
 | _::_,[],_,h=>by cases h
 | e::es,p::l,n,h=>by
  simp only[List.map_cons,List.cons.injEq,Prod.mk.injEq]at h
  obtain⟨⟨hk,hv⟩,h⟩:=h
  unfold Instr.findNow dP
  rw[hk]
  simp only[Instr.sameNow,if_true]
  by_cases hi:i=p.1
  ·simp [hi,hv]
  ·have:(i==p.1)=false:=by simp [hi]
   simp only[this,if_neg hi]
   exact oJ es l (n+1) h
theorem fF {k:IntKind} {es:Array MapEntry} {l:List (Int×Value)} (h:fh k es l) (i:Int):iK (.int k) (.int k i) es=some (dP i l 0):=oJ _ _ 0 h
theorem qL {i:Int} : ∀ {l:List (Int×Value)} {n:Nat},dP i l n=none↔∀ p∈l,p.1≠i
 | [],_=>by simp [dP]
 | p::l,n=>by
  unfold dP
  by_cases hi:i=p.1
  ·simp [hi]
  ·rw[if_neg hi,qL]
   simp only[List.mem_cons,forall_eq_or_imp]
   exact⟨fun h=>⟨fun e=>hi e.symm,h⟩,fun h=>h.2⟩
theorem qM {i:Int} : ∀ {l:List (Int×Value)} {n j:Nat} {v:Value},dP i l n=some (j,v)→n≤j∧l[j-n]?=some (i,v)
 | [],_,_,_,h=>by cases h
 | p::l,n,j,v,h=>by
  unfold dP at h
  split at h
  ·rename_i e
   cases h
   exact⟨Nat.le_refl _,by rw[Nat.sub_self,e];rfl⟩
  ·obtain⟨h1,h2⟩:=qM h
   exact⟨by omega,by rw[show j-n=(j-(n+1))+1 by omega];exact h2⟩
theorem fh.size {k:IntKind} {es:Array MapEntry} {l:List (Int×Value)} (h:fh k es l):es.size=l.length:=by
 have:=congrArg List.length h
 simpa using this
end Go.Sx
namespace Go.Sx
open Go
theorem aU (q:Env) (n:Nat):newHs q n 0=[]:=rfl
theorem bm (q:Env) (n:Nat):newHs q n 1=[q.h n]:=by unfold newHs;rw[List.range_one];rfl
theorem bC {α:Type} {a:α} {l:List α} : (a::l≠[])=True:=by simp
def aH:lJ:=fun _=>none
def uv (ins:List Cp) (q:Env):List Value:=(ct 0 ins).map (SV.ev q)
def iH (n:Nat) (ρ:Env):Ck→Prop
 | .ptr=>True∧0≤ρ.i (n+1)
 | .sl=>True∧0≤ρ.i (n+1)∧0≤ρ.i (n+2)∧0≤ρ.i (n+3)
 | _=>True
def gI:Nat→List Ck→Env→Prop
 | _,[],_=>True
 | n,k::l,ρ=>iH n ρ k∧gI (n+k.len) l ρ
def EE (n:Nat) (ρ:Env):Cp→Prop
 | .one k=>iH n ρ k
 | .agg ks=>gI n ks ρ
def kj:Nat→List Cp→Env→Prop
 | _,[],_=>True
 | n,c::l,ρ=>EE n ρ c∧kj (n+c.len) l ρ
theorem kf.w {n:Nat} {ρ:Env} {k:Ck} (h:kf n ρ k):iH n ρ k:=by
 cases k<;>first | exact trivial | exact⟨trivial,h.2⟩
theorem gx.w {ρ:Env} : ∀ {ks:List Ck} {n:Nat},gx n ks ρ→gI n ks ρ
 | [],_,_=>trivial
 | _::_,_,h=>⟨h.1.w,gx.w h.2⟩
theorem dN.w {ρ:Env} : ∀ {cs:List Cp} {n:Nat},dN n cs ρ→kj n cs ρ
 | [],_,_=>trivial
 | c::_,_,h=>⟨(match c,h.1 with | .one _,h=>kf.w h | .agg _,h=>gx.w h),dN.w h.2⟩
def AI (f:FuncId) (ins res:List Cp) (N:List Value→Prop) (G:List Value→Value):Spec where
 fn:=f
 own:=[]
 rd:=[]
 res:=res
 pre:=fun xs _ _=>(∃ q,kj 0 ins q∧xs=uv ins q)∧N xs
 post:=fun xs _ _ v _ _=>v=G xs
def AO (res:List Cp) (v:Value):Prop:=∃ ρ2,v=(df 0 res).ev ρ2∧dN 0 res ρ2
section
variable {P:Program} {Γ:List Spec} {f:FuncId} {ins res:List Cp} {N:List Value→Prop} {G:List Value→Value}
theorem uK (hΓ:∀ t∈Γ,t.OK P) (W:cy P Γ f) (ha:W.args=(ct 0 ins).map .sv) (hm:W.mem=[]) (hp:W.path=[])
 (hres:∀ q,kj 0 ins q→N (uv ins q)→AO res (G (uv ins q)))
 (h:∀ q,kj 0 ins q→N (uv ins q)→∃ inv mu,W.nd.holds ⟨Γ,inv,mu,fun ρ _ r=>r.ev ρ=G (uv ins q)⟩ (fun _=>0) q):(AI f ins res N G).OK P:=by
 intro w xs Hs Rs hl1 hl2 hs1 hs2 hd1 hd2 ⟨⟨q,hq,hx⟩,hN⟩
 subst hx
 have e0:Hs=[]:=List.length_eq_zero_iff.1 hl1
 subst e0
 obtain⟨inv,mu,hn⟩:=h q hq hN
 have hm0:MRel (fun _=>False) w q W.mem w:=by
  rw[hm]
  exact⟨vG.refl _ _,(fun r hr=>nomatch hr),(fun r hr=>nomatch hr),(fun p _ r _ _ hp=>by simp at hp),(fun r hr=>nomatch hr)⟩
 have hp0:Path q W.path:=by rw[hp];exact fun _ h=>nomatch h
 have:=qz (C:=⟨Γ,inv,mu,fun ρ _ r=>r.ev ρ=G (uv ins q)⟩) hΓ (CO (C:=⟨Γ,inv,mu,fun ρ _ r=>r.ev ρ=G (uv ins q)⟩) hΓ) W.ok hm0 hp0 hn
 have ex:(W.args.map (TV.ev q))=uv ins q:=by
  rw[ha,List.map_map];rfl
 rw[ex]at this
 refine this.mono ?_
 rintro e w' ⟨ρ',mem',r,rfl,hg,hm',hpost⟩
 obtain⟨ρ2,h1,h2⟩:=hres q hq hN
 refine⟨ρ2,[],Hl.none,(by rw[hpost,h1];rfl),h2,⟨hm'.cV.os,hm'.cV.tape,hm'.cV.output,hm'.cV.size,fun b hb _=>hm'.cV.block b hb id,rfl,(fun _ h=>nomatch h),(fun _ _ h=>nomatch h),(fun _ h=>nomatch h),(fun b h=>by simp [Hl.mem,Hl.none]at h),(fun p _ _ _ _ h=>by simp at h),(fun _ h=>nomatch h)⟩,?_⟩
 exact h1.symm
end
def FX:Value→List Value
 | .agg cs=>cs.toList
 | v=>[v]
def HF:Value→Int
 | .slice _ n _=>n
 | _=>0
end Go.Sx
namespace Go.Sx
open Go
def j7:List Value→List Kd→Prop
 | [],[]=>True
 | v::l,k::m=>cx (some v) k=true∧j7 l m
 | _,_=>False
theorem ia:∀ {l:List Value} {ks:List Kd},j7 l ks→l.length=ks.length
 | [],[],_=>rfl
 | _::l,_::m,h=>by simp [ia h.2]
 | [],_::_,h=>h.elim
 | _::_,[],h=>h.elim
def im (R:Hl) (v:Value) (ks:List Kd) (rows:List (List Value)):Prop :=
 ∃ (x y:Int) (c:Nat),v=.slice (ar x y) rows.length c∧0≤y∧(rows=[]∨(0≤x∧∀ (i:Nat) row,rows[i]?=some row→j7 row ks∧∀ j u,row[j]?=some u→R.cell x.toNat (y.toNat+i*ks.length+j)=some u))
end Go.Sx
namespace Go.Proofs.YtomdimlnggpgbaaGreatDoor.D
open Go Go.Sx
def aH:lJ:=fun _=>none
def bx (l:List Int) (b:Bool) (hs:List Hl):Env:=⟨fun k=>l.getD k 0,fun _=>b,fun _=>.empty,fun _=>.tuple #[],fun k=>hs.getD k Hl.none⟩
end Go.Proofs.YtomdimlnggpgbaaGreatDoor.D
namespace Go.Proofs.YtomdimlnggpgbaaGreatDoor.D
open Go Go.Sx
theorem Bv {k:IntKind} {es:Array MapEntry} {l:List (Int×Value)} (h:fh k es l) {i:Int} (hn:dP i l 0=none) (v:Value) {clock:Nat} (hs:MapKept.Stamped es clock) :
 ∃ es',me (.int k) (.int k i) v es clock=.map es' (clock+1)∧fh k es' (l++[(i,v)])∧MapKept.Stamped es' (clock+1):=by
 refine⟨es.push ⟨.int k i,v,clock⟩,?_,?_,MapKept.stamped_push hs fun x hx he=>?_⟩
 ·unfold me
  rw[fF h,hn]
 ·unfold fh at h ⊢
  rw[Array.toList_push,List.map_append,List.map_append,h]
  rfl
 ·have:(x.key,x.val)∈l.map fun p=>(Value.int k p.1,p.2):=by
   rw[←show es.toList.map (fun e=>(e.key,e.val))=_ from h]
   exact List.mem_map.2 ⟨x,hx,rfl⟩
  obtain⟨q,hq,e⟩:=List.mem_map.1 this
  have h1:=qL.1 hn q hq
  rw[Prod.mk.injEq]at e
  rw[he]at e
  exact h1 (Value.int.inj e.1).2
structure DM where
 n:Nat
 now:List Int
 loose:List (Int×List Int)
 fuse:Int
 gone:Bool
structure DM.ok (D:DM):Prop where
 now:D.now.length=64*D.n
 n:D.n≤16384
 f0:-1≤D.fuse
 f1:D.fuse≤9223372036854775807
 loose:∀ p∈D.loose,p.2.length=64∧0≤p.1∧p.1<D.n
def lv (l:List (Int×List Int)):List (Int×Value):=l.map fun p=>(p.1,.agg (cn p.2).toArray)
def gy (a s m n:Nat) (fuse:Int) (gone:Bool):Hl:=Hl.one a (.cells #[.slice (some ⟨s,0,none⟩) n n,.map (some m),.int .i64 fuse,.bool gone] 93 (0,0))
def gk (s:Nat) (now:List Int):Hl:=Hl.one s (.cells (cn now).toArray 119 (0,0))
structure lV (H:Hl) (a s m:Nat) (es:Array MapEntry) (clock:Nat) (D:DM):Prop where
 ok:D.ok
 map:fh .i64 es (lv D.loose)
 st:MapKept.Stamped es clock
 nas:a≠s
 nam:a≠m
 nsm:s≠m
 hl:H=dF [gy a s m D.n D.fuse D.gone,gk s D.now,Hl.one m (.map es clock)]
def aj (H:Hl) (v:Value) (D:DM):Prop:=∃ a s m es clock,v=.pointer (some ⟨a,0,none⟩)∧lV H a s m es clock D
def mQ:Mem:=[.aS 0 [.sl (.var 6) (.var 7) (.var 8) (.var 9),.map (.var 10),.int .i64 (.var 11),.bool (.bvar 12)] 93,.hp 13 [] [.var 6] [],.hp 14 [] [.var 10] []]
def jk (a s m:Nat) (D:DM) (l:List Int) (es:Array MapEntry) (clock:Nat) (R:Hl):Env :=
 bx (([(a:Int)]++l++[(s:Int),0,D.n,D.n,m,D.fuse])) D.gone (List.replicate 13 Hl.none++[gk s D.now,Hl.one m (.map es clock),R])
theorem CM {q:Env} {a s m n:Nat} {fuse:Int} {gone:Bool} (h0:q.i 0=a) (h6:q.i 6=s) (h7:q.i 7=0) (h8:q.i 8=n) (h9:q.i 9=n) (h10:q.i 10=m) {f:E} (hf:ak q f=fuse) {g:E} (hg:bo q g=gone) :
 (bc.aS 0 [.sl (.var 6) (.var 7) (.var 8) (.var 9),.map (.var 10),.int .i64 f,.bool g] 93).hl q=gy a s m n fuse gone:=by
 simp only[bc.hl,List.map_cons,List.map_nil,CV.ev,ai,h0,h6,h7,h8,h9,h10,hf,hg,Int.toNat_natCast]
 rw[aq (by omega),if_neg (by omega)]
 rfl
theorem qm {H:Hl} {a s m:Nat} {es:Array MapEntry} {clock:Nat} {D:DM} (h:lV H a s m es clock D) (l:List Int) (hl:l.length=5) (R:Hl):Entry (jk a s m D l es clock R) mQ [H] []:=by
 obtain⟨x1,x2,x3,x4,x5,rfl⟩:∃ x1 x2 x3 x4 x5,l=[x1,x2,x3,x4,x5]:=by
  match l,hl with
  | [x1,x2,x3,x4,x5],_=>exact⟨x1,x2,x3,x4,x5,rfl⟩
 have hb:(bc.aS 0 [.sl (.var 6) (.var 7) (.var 8) (.var 9),.map (.var 10),.int .i64 (.var 11),.bool (.bvar 12)] 93).hl (jk a s m D [x1,x2,x3,x4,x5] es clock R)=gy a s m D.n D.fuse D.gone:=CM rfl rfl rfl rfl rfl rfl rfl rfl
 have d1:(gy a s m D.n D.fuse D.gone).ch (gk s D.now):=Hl.fH h.nas
 have d2:(gy a s m D.n D.fuse D.gone).ch (Hl.one m (.map es clock)):=Hl.fH h.nam
 have d3:(gk s D.now).ch (Hl.one m (.map es clock)):=Hl.fH h.nsm
 obtain⟨l1,l2,l3⟩:=uq d1 d2 d3
 refine⟨fun r hr ho=>⟨H,by simp,?_⟩,fun r hr ho=>?_,?_,fun r hr=>?_⟩
 ·rw[h.hl]
  simp only[mQ,List.mem_cons,List.mem_nil_iff,or_false]at hr
  rcases hr with rfl | rfl | rfl
  ·rw[hb];exact l1
  ·exact l2
  ·exact l3
 ·simp only[mQ,List.mem_cons,List.mem_nil_iff,or_false]at hr
  rcases hr with rfl | rfl | rfl<;>cases ho
 ·unfold mQ
  refine List.Pairwise.cons (fun r hr _ _=>?_) (List.Pairwise.cons (fun r hr _ _=>?_) (List.Pairwise.cons (fun r hr=>by cases hr) List.Pairwise.nil))
  ·rw[hb]
   simp only[List.mem_cons,List.mem_nil_iff,or_false]at hr
   rcases hr with rfl | rfl
   ·exact d1
   ·exact d2
  ·simp only[List.mem_cons,List.mem_nil_iff,or_false]at hr
   subst hr
   exact d3
 ·simp only[mQ,List.mem_cons,List.mem_nil_iff,or_false]at hr
  rcases hr with rfl | rfl | rfl
  ·show(0:Int)≤(a:Int);omega
  ·trivial
  ·trivial
theorem Ab {H:Hl} {a s m:Nat} {es:Array MapEntry} {clock:Nat} {D:DM} (h:lV H a s m es clock D) (l:List Int) (hl:l.length=5) (R:Hl) (t:List E):Entry (jk a s m D l es clock R) (mQ++[.ro 15 t false]) [H] [R]:=by
 obtain⟨h1,h2,h3,h4⟩:=qm h l hl R
 refine⟨fun r hr ho=>?_,fun r hr ho=>?_,?_,fun r hr=>?_⟩
 ·rcases List.mem_append.1 hr with hr | hr
  ·exact h1 r hr ho
  ·rw[List.mem_singleton]at hr;subst hr;cases ho
 ·rcases List.mem_append.1 hr with hr | hr
  ·obtain⟨R,hR,_⟩:=h2 r hr ho;cases hR
  ·rw[List.mem_singleton]at hr;subst hr
   exact⟨R,by simp,Hl.le_refl _⟩
 ·rw[List.pairwise_append]
  refine⟨h3,by simp,fun r _ s hs _ ho=>?_⟩
  rw[List.mem_singleton]at hs;subst hs;cases ho
 ·rcases List.mem_append.1 hr with hr | hr
  ·exact h4 r hr
  ·rw[List.mem_singleton]at hr;subst hr;trivial
def dj (n:Int):Nat:=(min (max n 0) 16384).toNat
def cw (n:Int):DM:=⟨dj n,List.replicate (64*dj n) 0,[],-1,false⟩
def wN:Sx.Spec where
 fn:=12
 own:=[]
 rd:=[]
 res:=[.one .ptr]
 pre:=fun xs Hs Rs=>∃ n,xs=[.int .i64 n]
 post:=fun xs Hs Rs v Hs' F=>∃ n,xs=[.int .i64 n]∧aj F v (cw n)
def DA:Nd:=.and (.pre (.mk 1 119 (List.replicate 64 (CV.int .u8 (.lit 0))) 64 (.ite (.lt (.lit 16384) (.ite (.lt (.var 0) (.lit 0)) (.lit 0) (.var 0))) (.lit 16384) (.ite (.lt (.var 0) (.lit 0)) (.lit 0) (.var 0))))) (.ext (.mk 1 119 (List.replicate 64 (CV.int .u8 (.lit 0))) 64 (.ite (.lt (.lit 16384) (.ite (.lt (.var 0) (.lit 0)) (.lit 0) (.var 0))) (.lit 16384) (.ite (.lt (.var 0) (.lit 0)) (.lit 0) (.var 0)))) (.and (.pre (.mnew 2)) (.ext (.mnew 2) (.ext (.alloc 3) (.post [.hp 1 [] [.var 1] [],.hp 2 [] [.var 2] [],.aS 3 [.sl (.var 1) (.lit 0) (.ite (.lt (.lit 16384) (.ite (.lt (.var 0) (.lit 0)) (.lit 0) (.var 0))) (.lit 16384) (.ite (.lt (.var 0) (.lit 0)) (.lit 0) (.var 0))) (.ite (.lt (.lit 16384) (.ite (.lt (.var 0) (.lit 0)) (.lit 0) (.var 0))) (.lit 16384) (.ite (.lt (.var 0) (.lit 0)) (.lit 0) (.var 0))),.map (.var 2),.int .i64 (.lit (-1)),.bool .ff] 93] (.sv (.one (.hptr (.var 3) (.lit 0)))))))))
def Bz:cy Tryz.prog [] wN.fn where
 Λ:=aH
 args:=[TI .i64 (.var 0)]
 mem:=[]
 nv:=1
 nd:=DA
 ok:=by kernel_rfl
theorem Dm (k n:Nat) (hk:0<k) (z:Value):madeCells (List.replicate k z).toArray n=(List.replicate n z).toArray:=by
 apply Array.ext
 ·simp [madeCells]
 ·intro i h1 h2
  simp [madeCells,List.getElem?_replicate,Nat.mod_lt _ hk]
theorem yS (n:Nat):madeCells (List.replicate 64 (Value.int .u8 0)).toArray (n*64)=(cn (List.replicate (64*n) 0)).toArray:=by
 rw[Dm 64 _ (by omega),Nat.mul_comm]
 unfold cn;rw[List.map_replicate]
theorem AB:wN.OK Tryz.prog:=by
 refine Spec.b8 (Γ:=[]) (fun _ h=>by cases h) ?_
 rintro xs Hs Rs hl1 hl2 ⟨n,rfl⟩
 have e0:Hs=[]:=List.length_eq_zero_iff.1 hl1
 have e1:Rs=[]:=List.length_eq_zero_iff.1 hl2
 subst e0;subst e1
 refine⟨Bz,bx [n] false [],fun _ _=>True,fun _ _=>0,?_,⟨?_,?_,?_,?_⟩,(fun _ h=>nomatch h),?_⟩
 ·simp [Bz,TI,TV.ev,SV.ev,CV.ev,ai,bx]
 ·intro r hr;simp [Bz]at hr
 ·intro r hr;simp [Bz]at hr
 ·simp [Bz]
 ·intro r hr;simp [Bz]at hr
 ·show Nd.holds _ _ _ DA
  unfold DA
  simp only[Nd.holds,X.pre,X.rel,X.n,Src.ok,Src.len,Src.bS,true_and,and_true,if_true,Nat.mul_one,Nat.add_zero,Nat.reduceAdd,List.length_cons,List.length_nil,bN,bK,aP,ba,bb,bM,bj,bJ,bI,bD,bd,bk,bL,bg,bf,aQ,bh,ah,ai,aE,aI,aK,ax,aF,aV,aT,au,aO,aC,aN,aB,TV.ev,SV.ev,CV.ev,List.map_cons,List.map_nil,bc.hl]
  have e:(if(16384:Int)<if n<0 then 0 else n then 16384 else if n<0 then 0 else n)=(dj n:Int):=by
   unfold dj;split<;>split<;>omega
  have hs:dj n≤16384:=by unfold dj;omega
  have hn0:(bx [n] false []).i 0=n:=rfl
  rw[hn0]
  simp only[e]
  refine⟨⟨by omega,by omega,by omega⟩,fun q1 g1 ⟨p1,hh1⟩ q2 g2 ⟨p2,hh2⟩ q3 g3 p3 hd=>?_⟩
  have i0:q3.i 0=n:=by rw[g3.i 0 (by omega),g2.i 0 (by omega),g1.i 0 (by omega)];rfl
  have i1:q3.i 1=q1.i 1:=by rw[g3.i 1 (by omega),g2.i 1 (by omega)]
  have i2:q3.i 2=q2.i 2:=by rw[g3.i 2 (by omega)]
  obtain⟨s,hs1⟩:=Int.eq_ofNat_of_zero_le p1
  obtain⟨m,hm1⟩:=Int.eq_ofNat_of_zero_le p2
  obtain⟨a,ha1⟩:=Int.eq_ofNat_of_zero_le p3
  rw[hs1]at i1 hh1
  rw[hm1]at i2 hh2
  rw[Int.toNat_natCast]at hh1 hh2
  have ez:(List.replicate 64 (CV.int IntKind.u8 (E.lit 0))).map (CV.ev (bx [n] false []))=List.replicate 64 (Value.int .u8 0):=rfl
  rw[ez]at hh1
  have h1:q3.h 1=gk s (cw n).now:=by
   rw[g3.h 1 (by omega),g2.h 1 (by omega),hh1,List.length_replicate,Int.toNat_natCast,yS]
   rfl
  have h2:q3.h 2=Hl.one m (.map #[] 0):=by rw[g3.h 2 (by omega),hh2]
  have h3:(bc.aS 3 [.sl (.var 1) (.lit 0) (.ite (.lt (.lit 16384) (.ite (.lt (.var 0) (.lit 0)) (.lit 0) (.var 0))) (.lit 16384) (.ite (.lt (.var 0) (.lit 0)) (.lit 0) (.var 0))) (.ite (.lt (.lit 16384) (.ite (.lt (.var 0) (.lit 0)) (.lit 0) (.var 0))) (.lit 16384) (.ite (.lt (.var 0) (.lit 0)) (.lit 0) (.var 0))),.map (.var 2),.int .i64 (.lit (-1)),.bool .ff] 93).hl q3=gy a s m (dj n) (-1) false:=by
   simp only[bc.hl,List.map_cons,List.map_nil,CV.ev,bN,bK,aP,ba,bb,bM,bj,bJ,bI,bD,bd,bk,bL,bg,bf,aQ,bh,ah,ai,aE,aI,aK,ax,aF,aV,aT,au,aO,aC,aN,aB,dK,iU,decide_eq_true_eq,i0,i1,i2,ha1,e,Int.toNat_natCast]
   rw[aq (by omega),if_neg (by omega)]
   rfl
  have d01:=hd 0 1 _ _ (by decide) rfl rfl rfl
  have d02:=hd 0 2 _ _ (by decide) rfl rfl rfl
  have d12:=hd 1 2 _ _ (by decide) rfl rfl rfl
  rw[h3]at d02 d12
  have d01:(q3.h 1).ch (q3.h 2):=d01
  have d02:(q3.h 1).ch (gy a s m (dj n) (-1) false):=d02
  have d12:(q3.h 2).ch (gy a s m (dj n) (-1) false):=d12
  rw[h1]at d01 d02
  rw[h2]at d01 d12
  have nsm:s≠m:=fun e=>Hl.eU.1 d01 (Hl.cI.2 e)
  have nas:a≠s:=fun e=>Hl.eU.1 d02 (Hl.cI.2 e.symm)
  have nam:a≠m:=fun e=>Hl.eU.1 d12 (Hl.cI.2 e.symm)
  refine⟨[],[2,0,1],rfl,rfl,⟨q3.dv 0 (q3.i 3) |>.dv 1 0,rfl,⟨by show -1≤q3.i 3;omega,Int.le_refl _⟩,trivial⟩,n,rfl,a,s,m,#[],0,?_,⟨⟨?_,hs,by show(-1:Int)≤ -1;omega,by show(-1:Int)≤_;omega,fun p hp=>by cases hp⟩,rfl,MapKept.stamped_empty _,nas,nam,nsm,?_⟩⟩
  ·simp only[TV.ev,SV.ev,CV.ev,ai,ah,ha1]
   rw[aq (by omega)];rfl
  ·show(List.replicate (64*dj n) (0:Int)).length=_
   rw[List.length_replicate];rfl
  ·show dF [_,q3.h 1,q3.h 2]=_
   rw[h1,h2]
   congr 1
   congr 1
end Go.Proofs.YtomdimlnggpgbaaGreatDoor.D
namespace Go.Proofs.YtomdimlnggpgbaaGreatDoor.D
open Go Go.Sx
theorem Gr {a b:List (Int×List Int)} (h:lv a=lv b):a=b:=by
 apply List.ext_getElem?
 intro j
 have:=congrArg (fun l=>l[j]?) h
 simp only[lv,List.getElem?_map]at this
 cases ha:a[j]? with
 | none =>
  cases hb:b[j]? with
  | none=>rfl
  | some q=>simp [ha,hb]at this
 | some p =>
  cases hb:b[j]? with
  | none=>simp [ha,hb]at this
  | some q =>
   simp only[ha,hb,Option.map_some,Option.some.injEq,Prod.mk.injEq,Value.agg.injEq]at this
   obtain⟨h1,h2⟩:=this
   have h3:=congrArg Array.toList h2
   have h4:=mF h3
   obtain⟨p1,p2⟩:=p
   obtain⟨q1,q2⟩:=q
   simp only at h1 h4
   rw[h1,h4]
theorem sR (l:List (Int×List Int)):(lv l).length=l.length:=List.length_map _
theorem fh.inj {k:IntKind} {es:Array MapEntry} {a b:List (Int×Value)} (h1:fh k es a) (h2:fh k es b):a=b:=by
 unfold fh at h1 h2
 rw[h1]at h2
 apply List.ext_getElem?
 intro j
 have:=congrArg (fun l=>l[j]?) h2
 simp only[List.getElem?_map]at this
 cases ha:a[j]?<;>cases hb:b[j]?<;>simp [ha,hb]at this ⊢
 exact Prod.ext this.1 this.2
theorem lV.at {H:Hl} {a s m:Nat} {es:Array MapEntry} {clock:Nat} {D:DM} (h:lV H a s m es clock D) :
 H a=some (.cells #[.slice (some ⟨s,0,none⟩) D.n D.n,.map (some m),.int .i64 D.fuse,.bool D.gone] 93 (0,0))∧H s=some (.cells (cn D.now).toArray 119 (0,0))∧H m=some (.map es clock):=by
 obtain⟨l1,l2,l3⟩:=uq (A:=gy a s m D.n D.fuse D.gone) (B:=gk s D.now) (C:=Hl.one m (.map es clock)) (Hl.fH h.nas) (Hl.fH h.nam) (Hl.fH h.nsm)
 rw[h.hl]
 exact⟨l1 _ _ (Hl.bE _ _),l2 _ _ (Hl.bE _ _),l3 _ _ (Hl.bE _ _)⟩
theorem aj.uniq {H:Hl} {v:Value} {D D':DM} (h:aj H v D) (h':aj H v D'):D=D':=by
 obtain⟨a,s,m,es,clock,rfl,h⟩:=h
 obtain⟨a',s',m',es',clock',he,h'⟩:=h'
 simp only[Value.pointer.injEq,Option.some.injEq,Addr.mk.injEq,and_true]at he
 subst he
 obtain⟨x1,x2,x3⟩:=h.at
 obtain⟨y1,y2,y3⟩:=h'.at
 rw[x1]at y1
 simp only[Option.some.injEq,Obj.cells.injEq,Array.mk.injEq,List.cons.injEq,Value.slice.injEq,Addr.mk.injEq,Value.map.injEq,Value.int.injEq,Value.bool.injEq,and_true,true_and]at y1
 obtain⟨⟨rfl,hn,_⟩,rfl,hf,hg⟩:=y1
 rw[x2]at y2
 rw[x3]at y3
 simp only[Option.some.injEq,Obj.cells.injEq,List.toArray_inj,and_true]at y2
 simp only[Option.some.injEq,Obj.map.injEq]at y3
 obtain⟨rfl,rfl⟩:=y3
 have e1:=mF (congrArg Array.toList y2)
 have e2:=Gr (fh.inj h.map h'.map)
 obtain⟨n,now,loose,fuse,gone⟩:=D
 obtain⟨n',now',loose',fuse',gone'⟩:=D'
 simp only at hn hf hg e1 e2
 subst hn hf hg e1 e2
 rfl
theorem Ac {q:Env} {mem:Mem} {a s m:Nat} {es:Array MapEntry} {clock:Nat} {D:DM} (hok:D.ok) (hm:fh .i64 es (lv D.loose)) (hst:MapKept.Stamped es clock) (h1:a≠s) (h2:a≠m) (h3:s≠m)
 (e1:kO q mem 0=gy a s m D.n D.fuse D.gone) (e2:kO q mem 1=gk s D.now) (e3:kO q mem 2=Hl.one m (.map es clock)):lV (tD q mem [0,1,2]) a s m es clock D :=
 ⟨hok,hm,hst,h1,h2,h3,by show dF [kO q mem 0,kO q mem 1,kO q mem 2]=_;rw[e1,e2,e3]⟩
theorem fc (a:Nat):Value.pointer (ar (a:Int) 0)=.pointer (some ⟨a,0,none⟩):=by rw[aq (by omega)];rfl
def hJ (f:FuncId) (num:DM→Int):Sx.Spec where
 fn:=f
 own:=[.arg 0]
 rd:=[]
 res:=[.one (.int .i64)]
 pre:=fun xs Hs Rs=>∃ p H D,xs=[p]∧Hs=[H]∧aj H p D
 post:=fun xs Hs Rs v Hs' F=>∃ p H D H',xs=[p]∧Hs=[H]∧aj H p D∧Hs'=[H']∧aj H' p D∧v=.int .i64 (num D)
def fY:=hJ 43 fun D=>D.n
def oh:Nd:=.and (.e (.le (.lit 0) (.var 8))) (.post [.aS 0 [.sl (.var 6) (.var 7) (.var 8) (.var 9),.map (.var 10),.int .i64 (.var 11),.bool (.bvar 12)] 93,.hp 13 [] [.var 6] [],.hp 14 [] [.var 10] []] (.sv (.one (.int .i64 (.var 8)))))
def DZ:cy Tryz.prog [] fY.fn where
 Λ:=aH
 args:=[TP (.var 0) (.lit 0)]
 mem:=mQ
 nv:=15
 nd:=oh
 ok:=by kernel_rfl
theorem o8:fY.OK Tryz.prog:=by
 refine Spec.b8 (Γ:=[]) (fun _ h=>by cases h) ?_
 rintro xs Hs Rs hl1 hl2 ⟨p,H,D,rfl,rfl,a,s,m,es,clock,rfl,h⟩
 have e1:Rs=[]:=List.length_eq_zero_iff.1 hl2
 subst e1
 refine⟨DZ,jk a s m D [0,0,0,0,0] es clock Hl.none,fun _ _=>True,fun _ _=>0,?_,qm h _ rfl _,(fun _ h=>nomatch h),?_⟩
 ·show [Value.pointer (ar (a:Int) 0)]=_;rw[fc]
 ·show Nd.holds _ _ _ oh
  unfold oh
  simp only[Nd.holds,X.pre,X.rel,X.n,Src.ok,Src.len,Src.bS,true_and,and_true,if_true,Nat.mul_one,Nat.add_zero,Nat.reduceAdd,List.length_cons,List.length_nil,bN,bK,aP,ba,bb,bM,bj,bJ,bI,bD,bd,bk,bL,bg,bf,aQ,bh,ah,ai,aE,aI,aK,ax,aF,aV,aT,au,aO,aC,aN,aB,TV.ev,SV.ev,CV.ev,List.map_cons,List.map_nil,bc.hl]
  refine⟨by show(0:Int)≤(D.n:Int);omega,fun _=>⟨[[0,1,2]],[],rfl,rfl,⟨⟨fun _=>D.n,fun _=>false,fun _=>.empty,fun _=>.tuple #[],fun _=>Hl.none⟩,rfl,trivial,trivial⟩,_,H,D,_,rfl,rfl,⟨a,s,m,es,clock,rfl,h⟩,rfl,⟨a,s,m,es,clock,rfl,?_⟩,rfl⟩⟩
  exact Ac h.ok h.map h.st h.nas h.nam h.nsm (CM rfl rfl rfl rfl rfl rfl rfl rfl) rfl rfl
def DM.has (D:DM) (i:Int):Bool:=decide (0≤i∧i<D.n)
def DM.aJ (D:DM) (i:Int):List Int:=(D.now.drop (64*i.toNat)).take 64
def fb (D:DM) (i:Int):List Int×Int:=if D.has i=false then([],1)else if D.gone then([],5)else(D.aJ i,0)
theorem dI {D:DM} (h:D.ok) {i:Int} (hi:D.has i=true):(D.aJ i).length=64:=by
 unfold DM.has at hi
 simp only[decide_eq_true_eq]at hi
 unfold DM.aJ
 rw[List.length_take,List.length_drop,h.now]
 omega
theorem mh {D:DM} (h:D.ok) {i:Int} (hi:D.has i=true) {j:Nat} (hj:j<64):(D.aJ i)[j]?=D.now[64*i.toNat+j]?:=by
 unfold DM.aJ
 rw[List.getElem?_take_of_lt hj,List.getElem?_drop]
theorem qT {D:DM} (s y:Nat):(gk s D.now).cell s y=(D.now[y]?).map (Value.int .u8):=by
 unfold gk
 rw[Hl.one_cell,List.getElem?_toArray,dw]
def oZ:Sx.Spec where
 fn:=122
 own:=[.arg 0]
 rd:=[]
 res:=[.one .sl,.one (.int .i64)]
 pre:=fun xs Hs Rs=>∃ p i H D,xs=[p,.int .i64 i]∧Hs=[H]∧aj H p D
 post:=fun xs Hs Rs v Hs' F=>∃ p i H D H' u,xs=[p,.int .i64 i]∧Hs=[H]∧aj H p D∧Hs'=[H']∧aj H' p D∧v=.tuple #[u,.int .i64 (fb D i).2]∧dA F 5 u (fb D i).1
def zm:Nd:=.and (.imp (.le (.lit 0) (.var 1)) (.and (.e (.le (.lit 0) (.var 8))) (.and (.imp (.not (.lt (.var 1) (.var 8))) (.post [.aS 0 [.sl (.var 6) (.var 7) (.var 8) (.var 9),.map (.var 10),.int .i64 (.var 11),.bool (.bvar 12)] 93,.hp 13 [] [.var 6] [],.hp 14 [] [.var 10] []] (.tup [.one (.sl (.lit (-1)) (.lit 0) (.lit 0) (.lit 0)),.one (.int .i64 (.lit 1))]))) (.imp (.lt (.var 1) (.var 8)) (.and (.imp (.bvar 12) (.post [.aS 0 [.sl (.var 6) (.var 7) (.var 8) (.var 9),.map (.var 10),.int .i64 (.var 11),.bool (.bvar 12)] 93,.hp 13 [] [.var 6] [],.hp 14 [] [.var 10] []] (.tup [.one (.sl (.lit (-1)) (.lit 0) (.lit 0) (.lit 0)),.one (.int .i64 (.lit 5))]))) (.imp (.not (.bvar 12)) (.and (.e (.le (.lit 0) (.var 6))) (.and (.e (.le (.lit 0) (.var 7))) (.ext (.alloc 15) (.and (.pre (.app 16 5 1 1 (.sl (.var 15) (.lit 0) (.lit 0) (.lit 0)) (.lit 0) (.aS 15 [] 5) (.seg 13 (.var 6) (.add (.var 7) (.mul (.var 1) (.lit 64))) (.lit 64)))) (.ext (.app 16 5 1 1 (.sl (.var 15) (.lit 0) (.lit 0) (.lit 0)) (.lit 0) (.aS 15 [] 5) (.seg 13 (.var 6) (.add (.var 7) (.mul (.var 1) (.lit 64))) (.lit 64))) (.post [.aS 0 [.sl (.var 6) (.var 7) (.var 8) (.var 9),.map (.var 10),.int .i64 (.var 11),.bool (.bvar 12)] 93,.hp 13 [] [.var 6] [],.hp 14 [] [.var 10] [],.hp 16 [] [.var 16,.var 15] []] (.tup [.one (.sl (.var 16) (.lit 0) (.lit 64) (.var 17)),.one (.int .i64 (.lit 0))]))))))))))))) (.imp (.not (.le (.lit 0) (.var 1))) (.post [.aS 0 [.sl (.var 6) (.var 7) (.var 8) (.var 9),.map (.var 10),.int .i64 (.var 11),.bool (.bvar 12)] 93,.hp 13 [] [.var 6] [],.hp 14 [] [.var 10] []] (.tup [.one (.sl (.lit (-1)) (.lit 0) (.lit 0) (.lit 0)),.one (.int .i64 (.lit 1))])))
def H5:cy Tryz.prog [] oZ.fn where
 Λ:=aH
 args:=[TP (.var 0) (.lit 0),TI .i64 (.var 1)]
 mem:=mQ
 nv:=15
 nd:=zm
 ok:=by kernel_rfl
theorem xi:oZ.OK Tryz.prog:=by
 refine Spec.b8 (Γ:=[]) (fun _ h=>by cases h) ?_
 rintro xs Hs Rs hl1 hl2 ⟨p,i,H,D,rfl,rfl,a,s,m,es,clock,rfl,h⟩
 have e1:Rs=[]:=List.length_eq_zero_iff.1 hl2
 subst e1
 refine⟨H5,jk a s m D [i,0,0,0,0] es clock Hl.none,fun _ _=>True,fun _ _=>0,?_,qm h _ rfl _,(fun _ h=>nomatch h),?_⟩
 ·show [Value.pointer (ar (a:Int) 0),Value.int .i64 i]=_;rw[fc]
 ·show Nd.holds _ _ _ zm
  unfold zm
  simp only[Nd.holds,X.pre,X.rel,X.n,Src.ok,Src.len,Src.bS,true_and,and_true,if_true,Nat.mul_one,Nat.add_zero,Nat.reduceAdd,List.length_cons,List.length_nil,bN,bK,aP,ba,bb,bM,bj,bJ,bI,bD,bd,bk,bL,bg,bf,aQ,bh,ah,ai,aE,aI,aK,ax,aF,aV,aT,au,aO,aC,aN,aB,TV.ev,SV.ev,CV.ev,List.map_cons,List.map_nil,bc.hl]
  have v1:(jk a s m D [i,0,0,0,0] es clock Hl.none).i 1=i:=rfl
  have v6:(jk a s m D [i,0,0,0,0] es clock Hl.none).i 6=s:=rfl
  have v7:(jk a s m D [i,0,0,0,0] es clock Hl.none).i 7=0:=rfl
  have v8:(jk a s m D [i,0,0,0,0] es clock Hl.none).i 8=D.n:=rfl
  have vb:(jk a s m D [i,0,0,0,0] es clock Hl.none).b 12=D.gone:=rfl
  rw[v1,v6,v7,v8,vb]
  have cV:∀ (q:Env) (t:Mem),ae 15 (jk a s m D [i,0,0,0,0] es clock Hl.none) q→aj (tD q (mQ++t) [0,1,2]) (.pointer (some ⟨a,0,none⟩)) D:=fun q t g =>
   ⟨a,s,m,es,clock,rfl,Ac h.ok h.map h.st h.nas h.nam h.nsm (CM (f:=.var 11) (g:=.bvar 12) (g.i 0 (by omega)) (g.i 6 (by omega)) (g.i 7 (by omega)) (g.i 8 (by omega)) (g.i 9 (by omega)) (g.i 10 (by omega)) (g.i 11 (by omega)) (g.b 12 (by omega))) (g.h 13 (by omega)) (g.h 14 (by omega))⟩
  have bad:∀ e:Int,fb D i=([],e)→postOf oZ [.pointer (some ⟨a,0,none⟩),.int .i64 i] [H] [] (jk a s m D [i,0,0,0,0] es clock Hl.none) mQ (.tup [.one (.sl (.lit (-1)) (.lit 0) (.lit 0) (.lit 0)),.one (.int .i64 (.lit e))]):=fun e he _ =>
   ⟨[[0,1,2]],[],rfl,rfl,⟨⟨fun k=>[-1,0,0,0,e].getD k 0,fun _=>false,fun _=>.empty,fun _=>.tuple #[],fun _=>Hl.none⟩,rfl,⟨by show(-1:Int)≤ -1;omega,Int.le_refl _,Int.le_refl _,Int.le_refl _⟩,trivial,trivial⟩,_,i,H,D,_,_,rfl,rfl,⟨a,s,m,es,clock,rfl,h⟩,rfl,cV _ [] (ae.refl _ _),by rw[he];rfl,by rw[he];exact⟨rfl,Or.inl ⟨rfl,rfl⟩⟩⟩
  refine⟨fun h0=>⟨by omega,fun hn=>bad 1 ?_,fun hn=>⟨fun hg=>bad 5 ?_,fun hg=>⟨by omega,by omega,fun q1 g1 p1=>⟨⟨⟨[],?_⟩,by omega,Or.inl ⟨?_,?_,by omega,?_⟩,by decide,by decide⟩,fun q2 g2 ⟨a1,a2,a3,_⟩ _=>?_⟩⟩⟩⟩,fun h0=>bad 1 ?_⟩
  ·unfold fb DM.has;rw[if_pos (by simp only[decide_eq_false_iff_not];omega)]
  ·have hh:D.has i=true:=by unfold DM.has;simpa using ⟨h0,hn⟩
   unfold fb;rw[hh,hg];rfl
  ·refine⟨rfl,Or.inr ⟨(q1.i 15).toNat,0,#[],by rw[aq p1];rfl,Hl.bE _ _,by omega,by decide,rfl,rfl⟩⟩
  ·rw[g1.i 6 (by omega),v6];omega
  ·rw[g1.i 7 (by omega),g1.i 1 (by omega),v7,v1];omega
  ·intro j hj
   have hj:j<64:=hj
   rw[g1.h 13 (by omega),g1.i 6 (by omega),g1.i 7 (by omega),g1.i 1 (by omega),v6,v7,v1]
   show ∃ v,(gk s D.now).cell s _=some v∧_
   rw[qT,List.getElem?_eq_getElem (by rw[h.ok.now];omega)]
   exact⟨_,rfl,rfl⟩
  ·have hh:D.has i=true:=by unfold DM.has;simpa using ⟨h0,hn⟩
   have hr:fb D i=(D.aJ i,0):=by
    unfold fb;rw[hh];simp only[Bool.true_eq_false,if_false];rw[if_neg hg]
   have hsl:=dI h.ok hh
   have hseg:cl (q1.h 13) (q1.i 6).toNat (q1.i 7+q1.i 1*64).toNat (Int.toNat 64)=cn (D.aJ i):=by
    rw[g1.h 13 (by omega),g1.i 6 (by omega),g1.i 7 (by omega),g1.i 1 (by omega),v6,v7,v1]
    show cl (gk s D.now) s _ 64=_
    unfold cl
    apply List.ext_getElem?
    intro j
    rw[List.getElem?_map,dw]
    rcases Nat.lt_or_ge j 64 with hj | hj
    ·rw[List.getElem?_range hj,Option.map_some,qT,mh h.ok hh hj,show(0+i*64).toNat+j=64*i.toNat+j by omega,List.getElem?_eq_getElem (by rw[h.ok.now];omega)]
     rfl
    ·rw[List.getElem?_eq_none (by simpa using hj),List.getElem?_eq_none (by omega)];rfl
   have hx:=a3 [] ⟨rfl,Or.inr ⟨(q1.i 15).toNat,0,#[],by rw[aq p1];rfl,Hl.bE _ _,by omega,by decide,rfl,rfl⟩⟩
   rw[hseg,List.nil_append]at hx
   refine⟨[[0,1,2]],[3],rfl,rfl,⟨⟨fun k=>[q2.i 16,0,64,q2.i 17,0].getD k 0,fun _=>false,fun _=>.empty,fun _=>.tuple #[],fun _=>Hl.none⟩,rfl,⟨a1,Int.le_refl _,by show(0:Int)≤64;omega,a2⟩,trivial,trivial⟩,_,i,H,D,_,_,rfl,rfl,⟨a,s,m,es,clock,rfl,h⟩,rfl,cV q2 _ (g1.trans (g2.mono (by omega))),by rw[hr];rfl,?_⟩
   rw[hr]
   show bR (dF [q2.h 16]) _ _ _ _ _
   rw[bp,hsl]
   exact hx
  ·unfold fb DM.has;rw[if_pos (by simp only[decide_eq_false_iff_not];omega)]
end Go.Proofs.YtomdimlnggpgbaaGreatDoor.D
namespace Go.Proofs.YtomdimlnggpgbaaGreatDoor.D
open Go Go.Sx
def gf (D:DM) (i:Int) (bs:List Int):DM:=⟨D.n,bG D.now (64*i.toNat) bs,if(dP i (lv D.loose) 0).isSome then D.loose else D.loose++[(i,D.aJ i)],if 0<D.fuse then D.fuse-1 else D.fuse,false⟩
def bV (D:DM) (i:Int) (bs:List Int):Int×DM :=
 if D.has i=false∨bs.length≠64 then(1,D)else if D.gone then(5,D)else if D.fuse=0 then(5,{D with gone:=true})else(0,gf D i bs)
def sd (rdP:Hl→Value→List Int→Prop):Sx.Spec where
 fn:=158
 own:=[.arg 0]
 rd:=[2]
 res:=[.one (.int .i64)]
 pre:=fun xs Hs Rs=>∃ p i u bs H R D,xs=[p,.int .i64 i,u]∧Hs=[H]∧Rs=[R]∧aj H p D∧rdP R u bs
 post:=fun xs Hs Rs v Hs' F=>∃ p i u bs H R D H',xs=[p,.int .i64 i,u]∧Hs=[H]∧Rs=[R]∧aj H p D∧rdP R u bs∧Hs'=[H']∧aj H' p (bV D i bs).2∧v=.int .i64 (bV D i bs).1
def oy:Sx.Spec:=sd mv
def lI (f:E):Nd:=.and (.pre (.mget 16 14 (.var 10) (.int .i64) (.int .i64 (.var 1)) (.agg (List.replicate 64 (CV.int .u8 (.lit 0)))) (List.replicate 64 (Ck.int .u8)) true)) (.ext (.mget 16 14 (.var 10) (.int .i64) (.int .i64 (.var 1)) (.agg (List.replicate 64 (CV.int .u8 (.lit 0)))) (List.replicate 64 (Ck.int .u8)) true) (.ext (.alloc 81) (.and (.imp (.not (.bvar 80)) (.and (.e (.le (.lit 0) (.var 6))) (.and (.e (.le (.lit 0) (.var 7))) (.and (.e (.hby 13 (.var 6) (.add (.var 7) (.mul (.var 1) (.lit 64))) (.lit 64))) (.and (.pre (.mset 82 14 (.var 10) (.int .i64) (.int .i64 (.var 1)) (.agg (bz 13 (.var 6) (.add (.var 7) (.mul (.var 1) (.lit 64))) 0 (List.replicate 64 (Kd.int .u8)))))) (.ext (.mset 82 14 (.var 10) (.int .i64) (.int .i64 (.var 1)) (.agg (bz 13 (.var 6) (.add (.var 7) (.mul (.var 1) (.lit 64))) 0 (List.replicate 64 (Kd.int .u8))))) (.and (.e (.le (.lit 0) (.var 2))) (.and (.e (.le (.lit 0) (.var 3))) (.and (.e (.hby 15 (.var 2) (.var 3) (.lit 64))) (.and (.pre (.put 83 13 (.var 6) (.add (.var 7) (.mul (.var 1) (.lit 64))) (bz 15 (.var 2) (.var 3) 0 (List.replicate 64 (Kd.int .u8))))) (.ext (.put 83 13 (.var 6) (.add (.var 7) (.mul (.var 1) (.lit 64))) (bz 15 (.var 2) (.var 3) 0 (List.replicate 64 (Kd.int .u8)))) (.post [.aS 0 [.sl (.var 6) (.var 7) (.var 8) (.var 9),.map (.var 10),.int .i64 f,.bool (.bvar 12)] 93,.hp 83 [13] [.var 6] [],.hp 82 [14] [.var 10] [],.ro 15 [.var 2] false,.dead] (.sv (.one (.int .i64 (.lit 0)))))))))))))))) (.imp (.bvar 80) (.and (.e (.le (.lit 0) (.var 2))) (.and (.e (.le (.lit 0) (.var 3))) (.and (.e (.hby 15 (.var 2) (.var 3) (.lit 64))) (.and (.e (.le (.lit 0) (.var 6))) (.and (.e (.le (.lit 0) (.var 7))) (.and (.pre (.put 82 13 (.var 6) (.add (.var 7) (.mul (.var 1) (.lit 64))) (bz 15 (.var 2) (.var 3) 0 (List.replicate 64 (Kd.int .u8))))) (.ext (.put 82 13 (.var 6) (.add (.var 7) (.mul (.var 1) (.lit 64))) (bz 15 (.var 2) (.var 3) 0 (List.replicate 64 (Kd.int .u8)))) (.post [.aS 0 [.sl (.var 6) (.var 7) (.var 8) (.var 9),.map (.var 10),.int .i64 f,.bool (.bvar 12)] 93,.hp 82 [13] [.var 6] [],.hp 14 [] [.var 10] [],.ro 15 [.var 2] false,.dead] (.sv (.one (.int .i64 (.lit 0))))))))))))))))
def vA:Nd:=.and (.imp (.le (.lit 0) (.var 1)) (.and (.e (.le (.lit 0) (.var 8))) (.and (.imp (.lt (.var 1) (.var 8)) (.and (.e (.le (.lit 0) (.var 4))) (.and (.imp (.not (.eq (.var 4) (.lit 64))) (.post [.aS 0 [.sl (.var 6) (.var 7) (.var 8) (.var 9),.map (.var 10),.int .i64 (.var 11),.bool (.bvar 12)] 93,.hp 13 [] [.var 6] [],.hp 14 [] [.var 10] [],.ro 15 [.var 2] false] (.sv (.one (.int .i64 (.lit 1)))))) (.imp (.eq (.var 4) (.lit 64)) (.and (.imp (.not (.bvar 12)) (.and (.imp (.eq (.var 11) (.lit 0)) (.post [.aS 0 [.sl (.var 6) (.var 7) (.var 8) (.var 9),.map (.var 10),.int .i64 (.var 11),.bool .tt] 93,.hp 13 [] [.var 6] [],.hp 14 [] [.var 10] [],.ro 15 [.var 2] false] (.sv (.one (.int .i64 (.lit 5)))))) (.imp (.not (.eq (.var 11) (.lit 0))) (.and (.imp (.lt (.lit 0) (.var 11)) (lI (.wrap .i64 (.sub (.var 11) (.lit 1))))) (.imp (.not (.lt (.lit 0) (.var 11))) (lI (.var 11))))))) (.imp (.bvar 12) (.post [.aS 0 [.sl (.var 6) (.var 7) (.var 8) (.var 9),.map (.var 10),.int .i64 (.var 11),.bool (.bvar 12)] 93,.hp 13 [] [.var 6] [],.hp 14 [] [.var 10] [],.ro 15 [.var 2] false] (.sv (.one (.int .i64 (.lit 5))))))))))) (.imp (.not (.lt (.var 1) (.var 8))) (.post [.aS 0 [.sl (.var 6) (.var 7) (.var 8) (.var 9),.map (.var 10),.int .i64 (.var 11),.bool (.bvar 12)] 93,.hp 13 [] [.var 6] [],.hp 14 [] [.var 10] [],.ro 15 [.var 2] false] (.sv (.one (.int .i64 (.lit 1))))))))) (.imp (.not (.le (.lit 0) (.var 1))) (.post [.aS 0 [.sl (.var 6) (.var 7) (.var 8) (.var 9),.map (.var 10),.int .i64 (.var 11),.bool (.bvar 12)] 93,.hp 13 [] [.var 6] [],.hp 14 [] [.var 10] [],.ro 15 [.var 2] false] (.sv (.one (.int .i64 (.lit 1))))))
def GQ:cy Tryz.prog [] 158 where
 Λ:=aH
 args:=[TP (.var 0) (.lit 0),TI .i64 (.var 1),.sv (.one (.sl (.var 2) (.var 3) (.var 4) (.var 5)))]
 mem:=mQ++[.ro 15 [.var 2] false]
 nv:=16
 nd:=vA
 ok:=by kernel_rfl
theorem vW (l:List Int):(cn l).map iq=List.replicate l.length (.int .u8):=by
 unfold cn
 rw[List.map_map]
 induction l with
 | nil=>rfl
 | cons a l ih=>rw[List.map_cons,List.length_cons,List.replicate_succ,ih];rfl
theorem pJ {D:DM} (h:D.ok) {i:Int} (hi:D.has i=true) {bs:List Int} (hb:bs.length=64):(gf D i bs).ok:=by
 have hh:0≤i∧i<D.n:=by unfold DM.has at hi;simpa using hi
 refine⟨?_,h.n,?_,?_,fun p hp=>?_⟩
 ·show(bG D.now (64*i.toNat) bs).length=_
  rw[je (by rw[h.now];omega),h.now];rfl
 ·have:=h.f0
  show(-1:Int)≤if 0<D.fuse then D.fuse-1 else D.fuse
  split<;>omega
 ·have:=h.f1
  show(if 0<D.fuse then D.fuse-1 else D.fuse)≤(9223372036854775807:Int)
  split<;>omega
 ·have hp:p∈(if(dP i (lv D.loose) 0).isSome then D.loose else D.loose++[(i,D.aJ i)]):=hp
  split at hp
  ·exact h.loose p hp
  ·rcases List.mem_append.1 hp with hp | hp
   ·exact h.loose p hp
   ·rw[List.mem_singleton]at hp;subst hp
    exact⟨dI h hi,hh.1,hh.2⟩
theorem Br (a:List (Int×List Int)) (i:Int) (l:List Int):lv (a++[(i,l)])=lv a++[(i,.agg (cn l).toArray)]:=by simp [lv]
theorem wc (s y:Nat) (now bs:List Int):(gk s now).put s y (cn bs)=gk s (bG now y bs):=by
 unfold gk
 rw[Hl.E1,←zB]
theorem AE {D:DM} (h:D.ok) {i:Int} (hi:D.has i=true) (s:Nat):∀ j z,(D.aJ i)[j]?=some z→(gk s D.now).cell s (64*i.toNat+j)=some (.int .u8 z):=by
 intro j z hz
 have hl:=dI h hi
 have hj:j<64:=by have:=(List.getElem?_eq_some_iff.1 hz).1;omega
 rw[qT,←mh h hi hj,hz];rfl
theorem B5 {rdP:Hl→Value→List Int→Prop} (hw:∀ {R u bs},rdP R u bs→fw R u bs):(sd rdP).OK Tryz.prog:=by
 refine Spec.b8 (Γ:=[]) (fun _ h=>by cases h) ?_
 rintro xs Hs Rs hl1 hl2 ⟨p,i,u,bs,H,R,D,rfl,rfl,rfl,⟨a,s,m,es,clock,rfl,h⟩,hRd⟩
 obtain⟨x,y,cp,rfl,hy,hR⟩:=hw hRd
 refine⟨GQ,jk a s m D [i,x,y,bs.length,cp] es clock R,fun _ _=>True,fun _ _=>0,?_,Ab h _ rfl _ _,(fun _ h=>nomatch h),?_⟩
 ·show [Value.pointer (ar (a:Int) 0),Value.int .i64 i,Value.slice (ar x y) ((bs.length:Int)).toNat ((cp:Int)).toNat]=_
  rw[fc,Int.toNat_natCast,Int.toNat_natCast]
 ·show Nd.holds _ _ _ vA
  generalize hρ:jk a s m D [i,x,y,bs.length,cp] es clock R=ρ
  have v0:ρ.i 0=a:=by rw[←hρ];rfl
  have v1:ρ.i 1=i:=by rw[←hρ];rfl
  have v2:ρ.i 2=x:=by rw[←hρ];rfl
  have v3:ρ.i 3=y:=by rw[←hρ];rfl
  have v4:ρ.i 4=bs.length:=by rw[←hρ];rfl
  have v6:ρ.i 6=s:=by rw[←hρ];rfl
  have v7:ρ.i 7=0:=by rw[←hρ];rfl
  have v8:ρ.i 8=D.n:=by rw[←hρ];rfl
  have v9:ρ.i 9=D.n:=by rw[←hρ];rfl
  have v10:ρ.i 10=m:=by rw[←hρ];rfl
  have v11:ρ.i 11=D.fuse:=by rw[←hρ];rfl
  have vb:ρ.b 12=D.gone:=by rw[←hρ];rfl
  have vh:ρ.h 13=gk s D.now:=by rw[←hρ];rfl
  have vm:ρ.h 14=Hl.one m (.map es clock):=by rw[←hρ];rfl
  have vr:ρ.h 15=R:=by rw[←hρ];rfl
  have hI:∀ q,ae 16 ρ q→∀ k,k<16→q.i k=ρ.i k:=fun q g=>g.i
  have ent:aj H (.pointer (some ⟨a,0,none⟩)) D:=⟨a,s,m,es,clock,rfl,h⟩
  have out:∀ (q:Env) (f g:E) (k1 k2:Nat) (t:Mem) (ts:List E) (v1 v2:List Nat) (c:Int) (D':DM) (es':Array MapEntry) (clock':Nat),ae 16 ρ q→bV D i bs=(c,D')→D'.ok→D'.n=D.n→(fh .i64 es' (lv D'.loose)∧MapKept.Stamped es' clock')→ak q f=D'.fuse→bo q g=D'.gone→q.h k1=gk s D'.now→q.h k2=Hl.one m (.map es' clock') →
   postOf (sd rdP) [.pointer (some ⟨a,0,none⟩),.int .i64 i,.slice (ar x y) bs.length cp] [H] [R] q
    (.aS 0 [.sl (.var 6) (.var 7) (.var 8) (.var 9),.map (.var 10),.int .i64 f,.bool g] 93::.hp k1 v1 [.var 6] []::.hp k2 v2 [.var 10] []::t) (.sv (.one (.int .i64 (.lit c)))):=by
   intro q f g k1 k2 t ts w1 w2 c D' es' clock' hq hw hok hn hm hf hg h1 h2 _
   refine⟨[[0,1,2]],[],rfl,rfl,⟨⟨fun _=>c,fun _=>false,fun _=>.empty,fun _=>.tuple #[],fun _=>Hl.none⟩,rfl,trivial,trivial⟩,_,i,_,bs,H,R,D,_,rfl,rfl,rfl,ent,hRd,rfl,⟨a,s,m,es',clock',rfl,?_⟩,by rw[hw];rfl⟩
   rw[hw]
   refine Ac hok hm.1 hm.2 h.nas h.nam h.nsm (CM ?_ ?_ ?_ ?_ ?_ ?_ hf hg) h1 h2
   ·rw[hq.i 0 (by omega),v0]
   ·rw[hq.i 6 (by omega),v6]
   ·rw[hq.i 7 (by omega),v7]
   ·rw[hq.i 8 (by omega),v8];show(D.n:Int)=(D'.n:Int);rw[hn]
   ·rw[hq.i 9 (by omega),v9];show(D.n:Int)=(D'.n:Int);rw[hn]
   ·rw[hq.i 10 (by omega),v10]
  have tail:∀ f:E,(∀ q,ae 16 ρ q→ak q f=if 0<D.fuse then D.fuse-1 else D.fuse)→D.has i=true→bs.length=64→D.gone=false→D.fuse≠0→(lI f).holds ⟨[],fun _ _=>True,fun _ _=>0,postOf (sd rdP) [.pointer (some ⟨a,0,none⟩),.int .i64 i,.slice (ar x y) bs.length cp] [H] [R]⟩ (fun _=>0) ρ:=by
   intro f hf hi hb hg hz
   have hh:0≤i∧i<D.n:=by unfold DM.has at hi;simpa using hi
   have hw:bV D i bs=(0,gf D i bs):=by
    unfold bV
    rw[if_neg (by rw[hi,hb];simp),if_neg (by rw[hg];simp),if_neg hz]
   have hx:0≤x∧∀ j z,bs[j]?=some z→R.cell x.toNat (y.toNat+j)=some (.int .u8 z):=by
    rcases hR with h | h
    ·rw[h]at hb;cases hb
    ·exact h
   have hpok:=pJ h.ok hi hb
   have hsl:=dI h.ok hi
   unfold lI
   simp only[Nd.holds,X.pre,X.rel,X.n,Src.ok,Src.len,Src.bS,true_and,and_true,if_true,Nat.mul_one,Nat.add_zero,Nat.reduceAdd,List.length_cons,List.length_nil,bN,bK,aP,ba,bb,bM,bj,bJ,bI,bD,bd,bk,bL,bg,bf,aQ,bh,ah,ai,aE,aI,aK,ax,aF,aV,aT,au,aO,aC,aN,aB,TV.ev,SV.ev,CV.ev,List.map_cons,List.map_nil,bc.hl]
   rw[v10,v1,vm]
   have hmem:(Hl.one m (.map es clock)) ((m:Int)).toNat=some (.map es clock):=by rw[Int.toNat_natCast];exact Hl.bE _ _
   refine⟨⟨by omega,es,clock,_,hmem,fF h.map i,?_⟩,fun q1 g1 hq1 q2 g2 _=>?_⟩
   ·intro j v hv
    obtain⟨_,hv⟩:=qM hv
    unfold lv at hv
    rw[List.getElem?_map,Option.map_eq_some_iff]at hv
    obtain⟨p,hp,he⟩:=hv
    cases he
    have:=(h.ok.loose p (List.mem_of_getElem? hp)).1
    refine⟨_,rfl,?_⟩
    show(cn p.2).map iq=_
    rw[vW,this]
   ·obtain⟨_,hb80⟩:=hq1 es clock _ hmem (fF h.map i)
    have hb80:q1.b 80=(dP i (lv D.loose) 0).isSome:=hb80
    have e80:q2.b 80=(dP i (lv D.loose) 0).isSome:=by rw[g2.b 80 (by omega),hb80]
    have g12:ae 16 ρ q2:=g1.trans (g2.mono (by omega))
    have hby:∀ q,ae 16 ρ q→cN (q.h 15) (q.i 2).toNat (q.i 3).toNat (Int.toNat 64)=true:=by
     intro q g
     rw[g.h 15 (by omega),g.i 2 (by omega),g.i 3 (by omega),vr,v2,v3]
     exact dB hx.2 (by rw[hb];decide)
    have hcs:∀ q,ae 16 ρ q→(bz 15 (.var 2) (.var 3) 0 (List.replicate 64 (Kd.int .u8))).map (CV.ev q)=cn bs:=by
     intro q g
     refine fK 64 0 bs hb fun j z hz=>?_
     rw[g.h 15 (by omega),ai,ai,g.i 2 (by omega),g.i 3 (by omega),vr,v2,v3,Nat.zero_add]
     exact hx.2 j z hz
    have hat:∀ q,ae 16 ρ q→(q.i 7+q.i 1*64).toNat=64*i.toNat:=by
     intro q g
     rw[g.i 7 (by omega),g.i 1 (by omega),v7,v1];omega
    have hwr:∀ q,ae 16 ρ q→0≤q.i 6∧0≤q.i 7+q.i 1*64∧(q.h 13).wr (q.i 6).toNat (q.i 7+q.i 1*64).toNat (bz 15 (.var 2) (.var 3) 0 (List.replicate 64 (Kd.int .u8))).length=true:=by
     intro q g
     have:=hat q g
     refine⟨by rw[g.i 6 (by omega),v6];omega,by rw[g.i 7 (by omega),g.i 1 (by omega),v7,v1];omega,?_⟩
     rw[this,g.h 13 (by omega),g.i 6 (by omega),vh,v6,gS,List.length_replicate,Int.toNat_natCast]
     exact Hl.DG _ _ _ _ _ (by rw[List.size_toArray,dq,h.ok.now];omega)
    have hput:∀ q,ae 16 ρ q→(q.h 13).put (q.i 6).toNat (q.i 7+q.i 1*64).toNat (cn bs)=gk s (gf D i bs).now:=by
     intro q g
     rw[hat q g,g.h 13 (by omega),g.i 6 (by omega),vh,v6,Int.toNat_natCast,wc]
     rfl
    have n2:∀ q,ae 16 ρ q→0≤q.i 2∧0≤q.i 3∧0≤q.i 6∧0≤q.i 7:=by
     intro q g
     rw[g.i 2 (by omega),g.i 3 (by omega),g.i 6 (by omega),g.i 7 (by omega),v2,v3,v6,v7]
     exact⟨hx.1,hy,by omega,by omega⟩
    refine⟨fun hnb=>?_,fun hyb=>?_⟩
    ·have hnone:dP i (lv D.loose) 0=none:=by
      rw[e80]at hnb
      cases hgo:dP i (lv D.loose) 0 with
      | none=>rfl
      | some v=>rw[hgo]at hnb;simp at hnb
     obtain⟨es',hmp,hmi,hmst⟩:=Bv h.map hnone (.agg (cn (D.aJ i)).toArray) h.st
     have c13:cN (q2.h 13) (q2.i 6).toNat (q2.i 7+q2.i 1*64).toNat (Int.toNat 64)=true:=by
      rw[hat q2 g12,g12.h 13 (by omega),g12.i 6 (by omega),vh,v6,Int.toNat_natCast]
      exact dB (AE h.ok hi s) (by rw[hsl];decide)
     have hsec:(bz 13 (.var 6) (.add (.var 7) (.mul (.var 1) (.lit 64))) 0 (List.replicate 64 (Kd.int .u8))).map (CV.ev q2)=cn (D.aJ i):=by
      refine fK 64 0 _ hsl fun j z hz=>?_
      simp only[aE,aK,ai,ah]
      rw[hat q2 g12,g12.h 13 (by omega),g12.i 6 (by omega),vh,v6,Int.toNat_natCast,Nat.zero_add]
      exact AE h.ok hi s j z hz
     have hm2:q2.h 14 (q2.i 10).toNat=some (.map es clock):=by
      rw[g12.h 14 (by omega),g12.i 10 (by omega),vm,v10];exact hmem
     refine⟨(n2 q2 g12).2.2.1,(n2 q2 g12).2.2.2,c13,⟨by rw[g12.i 10 (by omega),v10];omega,es,clock,_,hm2,fF h.map _⟩,fun q3 g3 hq3=>?_⟩
     have g13:ae 16 ρ q3:=g12.trans (g3.mono (by omega))
     have h82:=hq3 es clock hm2
     rw[hsec,g12.i 1 (by omega),v1,hmp,g12.h 14 (by omega),g12.i 10 (by omega),vm,v10,Int.toNat_natCast,Hl.mf]at h82
     refine⟨(n2 q3 g13).1,(n2 q3 g13).2.1,hby q3 g13,hwr q3 g13,fun q4 g4 hq4=>?_⟩
     have g14:ae 16 ρ q4:=g13.trans (g4.mono (by omega))
     rw[hcs q3 g13,hput q3 g13]at hq4
     refine out q4 _ _ _ _ _ [] _ _ 0 (gf D i bs) es' (clock+1) g14 hw hpok rfl ?_ (hf q4 g14) (by rw[bY,g14.b 12 (by omega),vb,hg];rfl) hq4 (by rw[g4.h 82 (by omega),h82])
     have el:(gf D i bs).loose=D.loose++[(i,D.aJ i)]:=by
      show(if(dP i (lv D.loose) 0).isSome then D.loose else D.loose++[(i,D.aJ i)])=_
      rw[hnone];rfl
     rw[el,Br]
     exact⟨hmi,hmst⟩
    ·have el:(gf D i bs).loose=D.loose:=by
      show(if(dP i (lv D.loose) 0).isSome then D.loose else D.loose++[(i,D.aJ i)])=_
      rw[←e80,hyb];rfl
     refine⟨(n2 q2 g12).1,(n2 q2 g12).2.1,hby q2 g12,(n2 q2 g12).2.2.1,(n2 q2 g12).2.2.2,hwr q2 g12,fun q3 g3 hq3=>?_⟩
     have g13:ae 16 ρ q3:=g12.trans (g3.mono (by omega))
     rw[hcs q2 g12,hput q2 g12]at hq3
     exact out q3 _ _ _ _ _ [] _ _ 0 (gf D i bs) es clock g13 hw hpok rfl (by rw[el];exact⟨h.map,h.st⟩) (hf q3 g13) (by rw[bY,g13.b 12 (by omega),vb,hg];rfl) hq3 (by rw[g13.h 14 (by omega),vm])
  unfold vA
  simp only[Nd.holds,X.pre,X.rel,X.n,Src.ok,Src.len,Src.bS,true_and,and_true,if_true,Nat.mul_one,Nat.add_zero,Nat.reduceAdd,List.length_cons,List.length_nil,bN,bK,aP,ba,bb,bM,bj,bJ,bI,bD,bd,bk,bL,bg,bf,aQ,bh,ah,ai,aE,aI,aK,ax,aF,aV,aT,au,aO,aC,aN,aB,TV.ev,SV.ev,CV.ev,List.map_cons,List.map_nil,bc.hl]
  rw[v1,v4,v8,v11,vb]
  have bad:∀ c:Int,bV D i bs=(c,D)→postOf (sd rdP) [.pointer (some ⟨a,0,none⟩),.int .i64 i,.slice (ar x y) bs.length cp] [H] [R] ρ
   (.aS 0 [.sl (.var 6) (.var 7) (.var 8) (.var 9),.map (.var 10),.int .i64 (.var 11),.bool (.bvar 12)] 93::.hp 13 [] [.var 6] []::.hp 14 [] [.var 10] []::[.ro 15 [.var 2] false]) (.sv (.one (.int .i64 (.lit c)))):=fun c hc =>
   out ρ _ _ _ _ _ [] _ _ c D es clock (ae.refl _ _) hc h.ok rfl ⟨h.map,h.st⟩ (by rw[ai,v11]) (by rw[bY,vb]) vh vm
  have yes:0≤i→i<D.n→D.has i=true:=fun h0 h1=>by unfold DM.has;simp [h0,h1]
  refine⟨fun h0=>⟨by omega,fun hn=>⟨by omega,fun hb=>bad 1 ?_,fun hb=>⟨fun hg=>⟨fun hz=>?_,fun hz=>⟨fun hp=>?_,fun hp=>?_⟩⟩,fun hg=>bad 5 ?_⟩⟩,fun hn=>bad 1 ?_⟩,fun h0=>bad 1 ?_⟩
  ·unfold bV;rw[if_pos (Or.inr (by omega))]
  ·have hw:bV D i bs=(5,{D with gone:=true}):=by
    unfold bV;rw[if_neg (by rw[yes h0 hn];simp;omega),if_neg hg,if_pos hz]
   exact out ρ _ _ _ _ _ [] _ _ 5 {D with gone:=true} es clock (ae.refl _ _) hw ⟨h.ok.now,h.ok.n,h.ok.f0,h.ok.f1,h.ok.loose⟩ rfl ⟨h.map,h.st⟩ (by rw[ai,v11]) (by rw[cq]) vh vm
  ·refine tail _ (fun q g=>?_) (yes h0 hn) (by omega) (by simpa using hg) hz
   have:=h.ok.f1
   rw[ax,aI,ai,ah,g.i 11 (by omega),v11,if_pos hp,wrap_i64 (by omega) (by omega)]
  ·refine tail _ (fun q g=>?_) (yes h0 hn) (by omega) (by simpa using hg) hz
   rw[ai,g.i 11 (by omega),v11,if_neg hp]
  ·unfold bV;rw[if_neg (by rw[yes h0 hn];simp;omega),if_pos hg]
  ·unfold bV DM.has;rw[if_pos (Or.inl (by simp only[decide_eq_false_iff_not];omega))]
  ·unfold bV DM.has;rw[if_pos (Or.inl (by simp only[decide_eq_false_iff_not];omega))]
theorem tF:oy.OK Tryz.prog:=B5 fun h=>h.w
end Go.Proofs.YtomdimlnggpgbaaGreatDoor.D
namespace Go.Sx
open Go
theorem qc {P:Program} {s:Spec} (ho:s.own=[]) (h:∀ w xs Rs,(∀ R∈Rs,R.sub w)→s.pre xs [] Rs→∃ v,AO s.res v∧(Calls P s.fn xs.toArray w fun e w'=>e=.returned v∧RowKit.Below w.heap.size w w')∧s.post xs [] Rs v [] Hl.none):s.OK P:=by
 intro w xs Hs Rs hl1 hl2 hs1 hs2 hd1 hd2 hp
 rw[ho]at hl1
 have e0:Hs=[]:=List.length_eq_zero_iff.1 hl1
 subst e0
 obtain⟨v,⟨ρ2,h1,h2⟩,hc,hpost⟩:=h w xs Rs hs2 hp
 refine hc.mono ?_
 rintro e w' ⟨rfl,hb⟩
 refine⟨ρ2,[],Hl.none,(by rw[h1]),h2,⟨hb.os,hb.tape,hb.output,hb.size,fun b hl _=>hb.block b hl,rfl,(fun _ h=>nomatch h),(fun _ _ h=>nomatch h),(fun _ h=>nomatch h),(fun b h=>by simp [Hl.mem,Hl.none]at h),(fun p _ _ _ _ h=>by simp at h),(fun _ h=>nomatch h)⟩,?_⟩
 rw[←h1];exact hpost
def bx (l:List Int) (b:Bool) (hs:List Hl):Env:=⟨fun k=>l.getD k 0,fun _=>b,fun _=>.empty,fun _=>.tuple #[],fun k=>hs.getD k Hl.none⟩
theorem kg {m:Nat} {ρ ρ':Env} (h:ae m ρ ρ'):∀ (ks:List Ck) (n:Nat),n+fM ks≤m→gI n ks ρ→gI n ks ρ'
 | [],_,_,_=>trivial
 | k::ks,n,hm,hn=>by
  have hl:fM (k::ks)=k.len+fM ks:=by simp [fM]
  rw[hl]at hm
  refine⟨?_,kg h ks (n+k.len) (by omega) hn.2⟩
  have h1:=hn.1
  cases k<;>simp only[iH,Ck.len]at h1 hm ⊢
  ·rw[h.i (n+1) (by omega)];exact h1
  ·rw[h.i (n+1) (by omega),h.i (n+2) (by omega),h.i (n+3) (by omega)];exact h1
def Gx:List Ck→Bool
 | []=>true
 | k::l=>(match k with | .ptr | .sl | .map=>false | _=>true)&&Gx l
theorem eP:∀ (ks:List Ck) (n:Nat) (ρ:Env),Gx ks=true→gx n ks ρ
 | [],_,_,_=>trivial
 | k::ks,n,ρ,h=>by
  simp only[Gx,Bool.and_eq_true]at h
  refine⟨?_,eP ks _ ρ h.2⟩
  cases k<;>first | exact trivial | cases h.1
def kq:Ck→Kd
 | .int k=>.int k | .bool=>.bool | .str=>.str | .any=>.any | .ptr=>.ptr | .sl=>.slice | .map=>.map
theorem A5 (k:Ck) (n:Nat):(k.cv n).upto (n+k.len)=true:=by
 cases k<;>simp [Ck.cv,Ck.len,CV.upto,E.upto]
theorem E2 (k:Ck) (n:Nat) (v:Value) (ρ:Env) (h:cx (some v) (kq k)=true):∃ ρ',ae n ρ ρ'∧iH n ρ' k∧(k.cv n).ev ρ'=v:=by
 cases k with
 | int k =>
  cases v<;>simp [cx,kq]at h
  subst h
  rename_i x
  exact⟨ρ.dv n x,bX _ _ x (Nat.le_refl _),trivial,by simp [Ck.cv,CV.ev,ai,jc]⟩
 | bool =>
  cases v<;>simp [cx,kq]at h
  rename_i x
  exact⟨ρ.BR n x,pQ _ _ x (Nat.le_refl _),trivial,by simp [Ck.cv,CV.ev,bY,Env.BR]⟩
 | str =>
  cases v<;>simp [cx,kq]at h
  rename_i x
  exact⟨ρ.Fj n x,xO _ _ x (Nat.le_refl _),trivial,by simp [Ck.cv,CV.ev,aB,Env.Fj]⟩
 | any=>exact⟨ρ.Fk n v,xP _ _ v (Nat.le_refl _),trivial,by simp [Ck.cv,CV.ev,Env.Fk]⟩
 | ptr =>
  have key:∀ x y:Int,-1≤x→0≤y→v=.pointer (ar x y)→∃ ρ',ae n ρ ρ'∧iH n ρ' .ptr∧(Ck.ptr.cv n).ev ρ'=v:=by
   intro x y hx hy hv
   refine⟨(ρ.dv n x).dv (n+1) y,(bX _ _ x (Nat.le_refl _)).trans (bX _ _ y (by omega)),?_,?_⟩
   ·simp [iH,Env.dv];exact hy
   ·simp [Ck.cv,CV.ev,ai,Env.dv,hv]
  cases v with
  | pointer a =>
   cases a with
   | none=>exact key (-1) 0 (by omega) (by omega) rfl
   | some a =>
    obtain⟨b,o,s⟩:=a
    cases s with
    | none=>exact key b o (by omega) (by omega) (by simp [aq])
    | some s=>simp [cx,kq]at h
  | _=>simp [cx,kq]at h
 | sl =>
  cases v with
  | slice a l c =>
   obtain⟨x,y,rfl,hy,_⟩:=lE a
   refine⟨(((ρ.dv n x).dv (n+1) y).dv (n+2) l).dv (n+3) c,(((bX _ _ x (Nat.le_refl _)).trans (bX _ _ y (by omega))).trans (bX _ _ _ (by omega))).trans (bX _ _ _ (by omega)),?_,?_⟩
   ·simp [iH,Env.dv];exact hy
   ·simp [Ck.cv,CV.ev,ai,Env.dv]
  | _=>simp [cx,kq]at h
 | map =>
  cases v with
  | map a =>
   cases a with
   | none=>exact⟨ρ.dv n (-1),bX _ _ _ (Nat.le_refl _),trivial,by simp [Ck.cv,CV.ev,ai,Env.dv]⟩
   | some r=>exact⟨ρ.dv n r,bX _ _ _ (Nat.le_refl _),trivial,by show Value.map (if(ρ.dv n r).i n= -1 then none else some ((ρ.dv n r).i n).toNat)=_;rw[jc,if_neg (by omega),Int.toNat_natCast]⟩
  | _=>simp [cx,kq]at h
theorem gF:∀ (ks:List Ck) (n:Nat) (row:List Value) (ρ:Env),j7 row (ks.map kq)→∃ ρ',ae n ρ ρ'∧gI n ks ρ'∧(al n ks).map (CV.ev ρ')=row
 | [],n,[],ρ,_=>⟨ρ,ae.refl _ _,trivial,rfl⟩
 | k::ks,n,v::row,ρ,h=>by
  obtain⟨ρ1,g1,n1,e1⟩:=E2 k n v ρ h.1
  obtain⟨ρ2,g2,n2,e2⟩:=gF ks (n+k.len) row ρ1 h.2
  refine⟨ρ2,g1.trans (g2.mono (by omega)),⟨?_,n2⟩,?_⟩
  ·have:=kg (ks:=[k]) (n:=n) g2 (by simp [fM]) ⟨n1,trivial⟩
   exact this.1
  ·simp only[al,List.map_cons,e2]
   rw[CV.agree g2 _ (A5 k n),e1]
 | [],_,_::_,_,h=>h.elim
 | _::_,_,[],_,h=>h.elim
theorem im.uniq {R:Hl} {v:Value} {ks:List Kd} {a b:List (List Value)} (h1:im R v ks a) (h2:im R v ks b):a=b:=by
 obtain⟨x,y,c,rfl,hy,h1⟩:=h1
 obtain⟨x',y',c',he,hy',h2⟩:=h2
 simp only[Value.slice.injEq]at he
 obtain⟨he,hl,rfl⟩:=he
 rcases h1 with rfl | ⟨hx,h1⟩
 ·exact(List.length_eq_zero_iff.1 hl.symm).symm
 rcases h2 with rfl | ⟨hx',h2⟩
 ·exact List.length_eq_zero_iff.1 hl
 obtain⟨rfl,hyy⟩:=jT (by omega) hy (by omega) hy' he
 have hyy:=hyy hx
 subst hyy
 apply List.ext_getElem hl
 intro i hi hi'
 obtain⟨k1,c1⟩:=h1 i _ (List.getElem?_eq_getElem hi)
 obtain⟨k2,c2⟩:=h2 i _ (List.getElem?_eq_getElem hi')
 apply List.ext_getElem (by rw[ia k1,ia k2])
 intro j hj hj'
 have e1:=c1 j _ (List.getElem?_eq_getElem hj)
 have e2:=c2 j _ (List.getElem?_eq_getElem hj')
 rw[e1]at e2
 exact Option.some.inj e2
theorem im.at {R:Hl} {x y l c:Int} {ks:List Kd} {rows:List (List Value)} (h:im R (.slice (ar x y) l.toNat c.toNat) ks rows) (hx:-1≤x) (hy:0≤y) (hl:0≤l) :
 l=rows.length∧∀ (i:Nat) row,rows[i]?=some row→0≤x∧j7 row ks∧∀ j u,row[j]?=some u→R.cell x.toNat (y.toNat+i*ks.length+j)=some u:=by
 obtain⟨x',y',c',he,hy',h⟩:=h
 simp only[Value.slice.injEq]at he
 obtain⟨he,hle,_⟩:=he
 refine⟨by omega,fun i row hi=>?_⟩
 rcases h with rfl | ⟨hx',h⟩
 ·simp at hi
 obtain⟨rfl,hyy⟩:=jT hx hy (by omega) hy' he
 have hyy:=hyy hx'
 subst hyy
 exact⟨hx',h i row hi⟩
def zT (F:Hl) (e:TypeId) (ks:List Kd) (v:Value) (rows:List (List Value)):Prop:=(∀ row∈rows,j7 row ks)∧bR F e ks.length v rows.length rows.flatten
theorem zT.nil (F:Hl) (e:TypeId) (ks:List Kd):zT F e ks (.slice none 0 0) []:=⟨fun _ h=>(nomatch h),by simp [bR]⟩
theorem wm {α:Type} {n:Nat} : ∀ {rows:List (List α)} (_:∀ r∈rows,r.length=n) {i j:Nat} {row:List α} {u:α},rows[i]?=some row→row[j]?=some u→rows.flatten[i*n+j]?=some u
 | [],_,i,j,row,u,h,_=>by simp at h
 | r::rows,hl,0,j,row,u,h,hj=>by
  simp only[List.getElem?_cons_zero,Option.some.injEq]at h
  subst h
  have hlt:j<r.length:=(List.getElem?_eq_some_iff.1 hj).1
  rw[List.flatten_cons,Nat.zero_mul,Nat.zero_add,List.getElem?_append_left hlt];exact hj
 | r::rows,hl,i+1,j,row,u,h,hj=>by
  have hr:r.length=n:=hl r (by simp)
  have ih:=wm (rows:=rows) (fun r hr=>hl r (by simp [hr])) (i:=i) (j:=j) (row:=row) (u:=u) (by simpa using h) hj
  rw[List.flatten_cons,List.getElem?_append_right (by rw[hr,Nat.succ_mul];omega),hr,show(i+1)*n+j-n=i*n+j by rw[Nat.succ_mul];omega]
  exact ih
theorem zT.rd {F:Hl} {e:TypeId} {ks:List Kd} {v:Value} {rows:List (List Value)} (h:zT F e ks v rows):im F v ks rows:=by
 obtain⟨hk,hl,h⟩:=h
 rcases h with ⟨rfl,hn⟩ | ⟨g,cap,cur,rfl,hg,hle,hm,hs,ht⟩
 ·exact⟨-1,0,0,by rw[cW,hn],by omega,Or.inl (List.length_eq_zero_iff.1 hn)⟩
 ·refine⟨g,0,cap,by simp [aq],by omega,Or.inr ⟨by omega,fun i row hi=>⟨hk row (List.mem_of_getElem? hi),fun j u hj=>?_⟩⟩⟩
  have e1:=wm (n:=ks.length) (fun r hr=>ia (hk r hr)) hi hj
  have e2:cur.toList[i*ks.length+j]?=some u:=by
   rw[←ht]at e1
   rw[List.getElem?_take]at e1
   split at e1
   ·exact e1
   ·cases e1
  unfold Hl.cell
  rw[Int.toNat_natCast,hg]
  simpa using e2
theorem zT.snoc {F:Hl} {e:TypeId} {ks:List Kd} {v:Value} {rows:List (List Value)} {row:List Value} {n:Nat} {xs:List Value} (hk:∀ r∈rows,j7 r ks) (hr:j7 row ks) (h:bR F e ks.length v n xs) (hn:n=rows.length+1) (hx:xs=rows.flatten++row):zT F e ks v (rows++[row]):=by
 refine⟨fun r hr'=>?_,?_⟩
 ·rcases List.mem_append.1 hr' with h | h
  ·exact hk r h
  ·rw[List.mem_singleton]at h;subst h;exact hr
 ·subst hn;subst hx
  simpa using h
theorem im.take {R:Hl} {x y l c:Int} {ks:List Kd} {rows:List (List Value)} (h:im R (.slice (ar x y) l.toNat c.toNat) ks rows) (hx:-1≤x) (hy:0≤y) (hl:0≤l) {m c':Int} (h0:0≤m) (hm:m≤l):im R (.slice (ar x y) m.toNat c'.toNat) ks (rows.take m.toNat):=by
 obtain⟨e,ha⟩:=h.at hx hy hl
 refine⟨x,y,c'.toNat,?_,hy,?_⟩
 ·rw[List.length_take,Nat.min_eq_left (by omega)]
 ·by_cases hz:rows.take m.toNat=[]
  ·exact Or.inl hz
  ·right
   obtain⟨r,hr⟩:=List.exists_mem_of_ne_nil _ hz
   obtain⟨i,hi⟩:=List.getElem?_of_mem hr
   have h1:rows[i]?=some r:=by
    rw[List.getElem?_take]at hi
    split at hi
    ·exact hi
    ·cases hi
   refine⟨(ha i r h1).1,fun i row hi=>?_⟩
   have h1:rows[i]?=some row:=by
    rw[List.getElem?_take]at hi
    split at hi
    ·exact hi
    ·cases hi
   exact(ha i row h1).2
theorem zT.app {A B:Hl} {e:TypeId} {ks:List Kd} {x l c x1 c1:Int} {rows:List (List Value)} {row:List Value} (ho:zT A e ks (.slice (ar x 0) l.toNat c.toNat) rows) (hl:l=rows.length) (hr:j7 row ks)
 (happ:∀ xs,bR A e ks.length (.slice (ar x 0) l.toNat c.toNat) l.toNat xs→bR B e ks.length (.slice (ar x1 0) (l.toNat+1) c1.toNat) (l.toNat+1) (xs++row)):zT B e ks (.slice (ar x1 0) (l+1).toNat c1.toNat) (rows++[row]):=by
 have hn:l.toNat=rows.length:=by omega
 rw[show(l+1).toNat=l.toNat+1 by omega]
 refine zT.snoc ho.1 hr (happ rows.flatten ?_) (by omega) rfl
 have:=ho.2
 rw[hn]at this ⊢
 exact this
theorem zT.pre {A:Hl} {e:TypeId} {ks:List Kd} {x l c:Int} {rows:List (List Value)} (ho:zT A e ks (.slice (ar x 0) l.toNat c.toNat) rows) (hl:l=rows.length):bR A e ks.length (.slice (ar x 0) l.toNat c.toNat) l.toNat rows.flatten:=by
 have hn:l.toNat=rows.length:=by omega
 have:=ho.2
 rw[hn]at this ⊢
 exact this
theorem zT.cap {A:Hl} {e:TypeId} {ks:List Kd} {x l c:Int} {rows:List (List Value)} (ho:zT A e ks (.slice (ar x 0) l.toNat c.toNat) rows) (hl:l=rows.length) (hc:0≤c):l≤c:=by
 obtain⟨_,_,h⟩:=ho
 rcases h with ⟨h,hn⟩ | ⟨g,cap,cur,h,hg,hle,_⟩
 ·omega
 ·simp only[Value.slice.injEq]at h
  obtain⟨_,h1,h2⟩:=h
  omega
end Go.Sx
namespace Go.Proofs.YtomdimlnggpgbaaGreatDoor.D
open Go Go.Sx
def aX (D:DM):Int×DM:=if D.gone then(5,D)else if D.fuse=0 then(5,{D with gone:=true})else(0,⟨D.n,D.now,[],if 0<D.fuse then D.fuse-1 else D.fuse,D.gone⟩)
def aW (D:DM) (n:Int):DM:={D with fuse:=max n (-1)}
theorem mX {D:DM} (h:D.ok) {n:Int} (hn:n≤9223372036854775807):(aW D n).ok:=⟨h.now,h.n,by show -1≤max n (-1);omega,by show max n (-1)≤_;omega,h.loose⟩
theorem Gb {H:Hl} {a s m:Nat} {es es':Array MapEntry} {clock clock':Nat} {D D':DM} {x1 x2 x3 x4 x5:Int} {R:Hl} (h:lV H a s m es clock D) {q:Env} (hq:ae 15 (jk a s m D [x1,x2,x3,x4,x5] es clock R) q) {f g:E} {k1 k2:Nat} {v1 v2:List Nat} {t:Mem}
 (hok:D'.ok) (hn:D'.n=D.n) (hm:fh .i64 es' (lv D'.loose)) (hst:MapKept.Stamped es' clock') (hf:ak q f=D'.fuse) (hg:bo q g=D'.gone) (h1:q.h k1=gk s D'.now) (h2:q.h k2=Hl.one m (.map es' clock')) :
 aj (tD q (.aS 0 [.sl (.var 6) (.var 7) (.var 8) (.var 9),.map (.var 10),.int .i64 f,.bool g] 93::.hp k1 v1 [.var 6] []::.hp k2 v2 [.var 10] []::t) [0,1,2]) (.pointer (some ⟨a,0,none⟩)) D':=by
 refine⟨a,s,m,es',clock',rfl,Ac hok hm hst h.nas h.nam h.nsm (CM (hq.i 0 (by omega)) (hq.i 6 (by omega)) (hq.i 7 (by omega)) ?_ ?_ (hq.i 10 (by omega)) hf hg) h1 h2⟩
 ·rw[hq.i 8 (by omega)];show(D.n:Int)=(D'.n:Int);rw[hn]
 ·rw[hq.i 9 (by omega)];show(D.n:Int)=(D'.n:Int);rw[hn]
def nz:Sx.Spec where
 fn:=159
 own:=[.arg 0]
 rd:=[]
 res:=[.one (.int .i64)]
 pre:=fun xs Hs Rs=>∃ p H D,xs=[p]∧Hs=[H]∧aj H p D
 post:=fun xs Hs Rs v Hs' F=>∃ p H D H',xs=[p]∧Hs=[H]∧aj H p D∧Hs'=[H']∧aj H' p (aX D).2∧v=.int .i64 (aX D).1
def zH:Nd:=.and (.imp (.not (.bvar 12)) (.and (.imp (.eq (.var 11) (.lit 0)) (.post [.aS 0 [.sl (.var 6) (.var 7) (.var 8) (.var 9),.map (.var 10),.int .i64 (.var 11),.bool .tt] 93,.hp 13 [] [.var 6] [],.hp 14 [] [.var 10] []] (.sv (.one (.int .i64 (.lit 5)))))) (.imp (.not (.eq (.var 11) (.lit 0))) (.and (.imp (.lt (.lit 0) (.var 11)) (.and (.pre (.mclr 15 14 (.var 10))) (.ext (.mclr 15 14 (.var 10)) (.post [.aS 0 [.sl (.var 6) (.var 7) (.var 8) (.var 9),.map (.var 10),.int .i64 (.wrap .i64 (.sub (.var 11) (.lit 1))),.bool (.bvar 12)] 93,.hp 13 [] [.var 6] [],.hp 15 [14] [.var 10] []] (.sv (.one (.int .i64 (.lit 0)))))))) (.imp (.not (.lt (.lit 0) (.var 11))) (.and (.pre (.mclr 15 14 (.var 10))) (.ext (.mclr 15 14 (.var 10)) (.post [.aS 0 [.sl (.var 6) (.var 7) (.var 8) (.var 9),.map (.var 10),.int .i64 (.var 11),.bool (.bvar 12)] 93,.hp 13 [] [.var 6] [],.hp 15 [14] [.var 10] []] (.sv (.one (.int .i64 (.lit 0)))))))))))) (.imp (.bvar 12) (.post [.aS 0 [.sl (.var 6) (.var 7) (.var 8) (.var 9),.map (.var 10),.int .i64 (.var 11),.bool (.bvar 12)] 93,.hp 13 [] [.var 6] [],.hp 14 [] [.var 10] []] (.sv (.one (.int .i64 (.lit 5))))))
def Ig:cy Tryz.prog [] nz.fn where
 Λ:=aH
 args:=[TP (.var 0) (.lit 0)]
 mem:=mQ
 nv:=15
 nd:=zH
 ok:=by kernel_rfl
theorem xB:nz.OK Tryz.prog:=by
 refine Spec.b8 (Γ:=[]) (fun _ h=>by cases h) ?_
 rintro xs Hs Rs hl1 hl2 ⟨p,H,D,rfl,rfl,a,s,m,es,clock,rfl,h⟩
 have e1:Rs=[]:=List.length_eq_zero_iff.1 hl2
 subst e1
 refine⟨Ig,jk a s m D [0,0,0,0,0] es clock Hl.none,fun _ _=>True,fun _ _=>0,?_,qm h _ rfl _,(fun _ h=>nomatch h),?_⟩
 ·show [Value.pointer (ar (a:Int) 0)]=_;rw[fc]
 ·show Nd.holds _ _ _ zH
  unfold zH
  simp only[Nd.holds,X.pre,X.rel,X.n,Src.ok,Src.len,Src.bS,true_and,and_true,if_true,Nat.mul_one,Nat.add_zero,Nat.reduceAdd,List.length_cons,List.length_nil,bN,bK,aP,ba,bb,bM,bj,bJ,bI,bD,bd,bk,bL,bg,bf,aQ,bh,ah,ai,aE,aI,aK,ax,aF,aV,aT,au,aO,aC,aN,aB,TV.ev,SV.ev,CV.ev,List.map_cons,List.map_nil,bc.hl]
  generalize hρ:jk a s m D [0,0,0,0,0] es clock Hl.none=ρ
  have v10:ρ.i 10=m:=by rw[←hρ];rfl
  have v11:ρ.i 11=D.fuse:=by rw[←hρ];rfl
  have vb:ρ.b 12=D.gone:=by rw[←hρ];rfl
  have vh:ρ.h 13=gk s D.now:=by rw[←hρ];rfl
  have vm:ρ.h 14=Hl.one m (.map es clock):=by rw[←hρ];rfl
  have out:∀ (q:Env) (f g:E) (k1 k2:Nat) (w1 w2:List Nat) (t:Mem) (c:Int) (D':DM) (es':Array MapEntry) (clock':Nat),ae 15 ρ q→aX D=(c,D')→D'.ok→D'.n=D.n→fh .i64 es' (lv D'.loose)→MapKept.Stamped es' clock'→ak q f=D'.fuse→bo q g=D'.gone→q.h k1=gk s D'.now→q.h k2=Hl.one m (.map es' clock') →
   postOf nz [.pointer (some ⟨a,0,none⟩)] [H] [] q (.aS 0 [.sl (.var 6) (.var 7) (.var 8) (.var 9),.map (.var 10),.int .i64 f,.bool g] 93::.hp k1 w1 [.var 6] []::.hp k2 w2 [.var 10] []::t) (.sv (.one (.int .i64 (.lit c)))):=by
   intro q f g k1 k2 w1 w2 t c D' es' clock' hq hs hok hn hm hst hf hg h1 h2 _
   rw[←hρ]at hq
   refine⟨[[0,1,2]],[],rfl,rfl,⟨⟨fun _=>c,fun _=>false,fun _=>.empty,fun _=>.tuple #[],fun _=>Hl.none⟩,rfl,trivial,trivial⟩,_,H,D,_,rfl,rfl,⟨a,s,m,es,clock,rfl,h⟩,rfl,?_,by rw[hs];rfl⟩
   rw[hs]
   exact Gb h hq hok hn hm hst hf hg h1 h2
  have hmem:(Hl.one m (.map es clock)) ((m:Int)).toNat=some (.map es clock):=by rw[Int.toNat_natCast];exact Hl.bE _ _
  have tail:∀ (f:E),(∀ q,ae 15 ρ q→ak q f=if 0<D.fuse then D.fuse-1 else D.fuse)→D.gone=false→D.fuse≠0→(0≤ρ.i 10∧∃ es clock,ρ.h 14 (ρ.i 10).toNat=some (.map es clock))∧∀ ρ',ae 15 ρ ρ'→(∀ es clock,ρ.h 14 (ρ.i 10).toNat=some (.map es clock)→ρ'.h 15=(ρ.h 14).setObj (ρ.i 10).toNat (.map #[] clock)) →
   postOf nz [.pointer (some ⟨a,0,none⟩)] [H] [] ρ' [.aS 0 [.sl (.var 6) (.var 7) (.var 8) (.var 9),.map (.var 10),.int .i64 f,.bool (.bvar 12)] 93,.hp 13 [] [.var 6] [],.hp 15 [14] [.var 10] []] (.sv (.one (.int .i64 (.lit 0)))):=by
   intro f hf hg hz
   rw[v10,vm]
   refine⟨⟨by omega,es,clock,hmem⟩,fun q gq hq=>?_⟩
   have hq:=hq es clock hmem
   rw[Int.toNat_natCast,Hl.mf]at hq
   refine out q f (.bvar 12) 13 15 _ _ _ 0 ⟨D.n,D.now,[],if 0<D.fuse then D.fuse-1 else D.fuse,D.gone⟩ #[] clock gq ?_ ⟨h.ok.now,h.ok.n,?_,?_,fun p hp=>by cases hp⟩ rfl rfl (MapKept.stamped_empty _) (hf q gq) (by rw[bY,gq.b 12 (by omega),vb]) (by rw[gq.h 13 (by omega),vh]) hq
   ·unfold aX;rw[if_neg (by rw[hg];simp),if_neg hz]
   ·have:=h.ok.f0;show -1≤(if 0<D.fuse then D.fuse-1 else D.fuse);split<;>omega
   ·have:=h.ok.f1;show(if 0<D.fuse then D.fuse-1 else D.fuse)≤_;split<;>omega
  rw[vb,v11]
  have f0:=h.ok.f0
  have f1:=h.ok.f1
  refine⟨fun hg=>⟨fun hz=>?_,fun hz=>⟨fun hp=>tail _ (fun q gq=>?_) (Bool.eq_false_iff.2 hg) hz,fun hp=>tail _ (fun q gq=>?_) (Bool.eq_false_iff.2 hg) hz⟩⟩,fun hg=>?_⟩
  ·refine out ρ _ _ _ _ _ _ _ 5 {D with gone:=true} es clock (ae.refl _ _) ?_ ⟨h.ok.now,h.ok.n,h.ok.f0,h.ok.f1,h.ok.loose⟩ rfl h.map h.st (by rw[ai,v11]) (cq _) vh vm
   unfold aX;rw[if_neg hg,if_pos hz]
  ·rw[if_pos hp,ax,aI,ai,ah,gq.i 11 (by omega),v11]
   exact wrap_i64 (by omega) (by omega)
  ·rw[if_neg hp,ai,gq.i 11 (by omega),v11]
  ·refine out ρ _ _ _ _ _ _ _ 5 D es clock (ae.refl _ _) ?_ h.ok rfl h.map h.st (by rw[ai,v11]) (by rw[bY,vb]) vh vm
   unfold aX;rw[if_pos hg]
def de (v:Value):List Int:=(FX v).map fun c=>fg (some c)
theorem ma (l:List Int):de (.agg (cn l).toArray)=l:=by
 show((l.map (Value.int .u8)).map fun c=>fg (some c))=l
 rw[List.map_map]
 exact List.map_id l
theorem eX:∀ (n:Nat) (l:List Int),l.length=n→j7 (cn l) ((List.replicate n (Ck.int .u8)).map kq)
 | 0,[],_=>trivial
 | n+1,x::l,h=>⟨by simp [cx,kq],eX n l (by simpa using h)⟩
 | 0,_::_,h=>by simp at h
 | _+1,[],h=>by simp at h
end Go.Proofs.YtomdimlnggpgbaaGreatDoor.D
namespace Go.Proofs.YtomdimlnggpgbaaGreatDoor.D
open Go Go.Sx
def jh (n c:Int):Int:=kb .or .u64 (IntKind.u64.wrap (n*2 ^ (min (Int.toNat 8) IntKind.u64.bits))) (IntKind.u64.wrap c)
def cY (bs:List Int):Int:=bs.foldl jh 0
theorem sz (bs:List Int) (k:Nat) (h:k<bs.length):cY (bs.take (k+1))=jh (cY (bs.take k)) bs[k]:=by
 unfold cY
 rw[List.take_add_one,List.getElem?_eq_getElem h,List.foldl_append];rfl
def Cq:Sx.Spec where
 fn:=155
 own:=[]
 rd:=[0]
 res:=[.one (.int .u64)]
 pre:=fun xs Hs Rs=>∃ u bs R,xs=[u]∧Rs=[R]∧fw R u bs∧bs.length≤1000
 post:=fun xs Hs Rs v Hs' F=>∃ u bs R,xs=[u]∧Rs=[R]∧fw R u bs∧v=.int .u64 (cY bs)
def Co:Nd:=.and (.e (.le (.lit 0) (.var 2))) (.and (.inv 0 [⟨10,0,.int .i64 (.lit 0)⟩,⟨11,0,.int .i64 (.lit 0)⟩] []) (.havoc 0 0 5 (.and (.imp (.lt (.var 11) (.var 2)) (.and (.e (.le (.lit 0) (.var 0))) (.and (.e (.le (.lit 0) (.var 1))) (.and (.e (.le (.lit 0) (.var 11))) (.and (.e (.his 4 (.var 0) (.add (.var 1) (.var 11)) 0 (.int .u8))) (.back 0 0 [⟨10,0,.int .i64 (.bits .or .u64 (.shl .u64 (.var 10) (.lit 8)) (.wrap .u64 (.hI 4 (.var 0) (.add (.var 1) (.var 11)) 0)))⟩,⟨11,0,.int .i64 (.wrap .i64 (.add (.var 11) (.lit 1)))⟩] [])))))) (.imp (.not (.lt (.var 11) (.var 2))) (.post [.ro 4 [.var 0] false] (.sv (.one (.int .u64 (.var 10)))))))))
def Cr:cy Tryz.prog [] Cq.fn where
 Λ:=fun p=>if lp p then some ⟨0,[(3,TI .u64 (.var 10)),(8,TI .i64 (.var 11))],[],12⟩else none
 args:=[.sv (.one (.sl (.var 0) (.var 1) (.var 2) (.var 3)))]
 mem:=[.ro 4 [.var 0] false]
 nv:=5
 nd:=Co
 ok:=by kernel_rfl
def Cn (bs:List Int) (_:Nat) (q:Env):Prop:=∃ k:Nat,k≤bs.length∧q.i 11=k∧q.i 10=cY (bs.take k)
theorem EB:Cq.OK Tryz.prog:=by
 refine Spec.b8 (Γ:=[]) (fun _ h=>by cases h) ?_
 rintro xs Hs Rs hl1 hl2 ⟨u,bs,R,rfl,rfl,⟨x,y,cp,rfl,hy,hR⟩,hlen⟩
 have e0:Hs=[]:=List.length_eq_zero_iff.1 hl1
 subst e0
 refine⟨Cr,bx [x,y,bs.length,cp] false [Hl.none,Hl.none,Hl.none,Hl.none,R],Cn bs,fun _ q=>(bs.length-q.i 11).toNat,?_,⟨?_,?_,?_,?_⟩,(fun _ h=>nomatch h),?_⟩
 ·show [Value.slice (ar x y) ((bs.length:Int)).toNat ((cp:Int)).toNat]=_
  rw[Int.toNat_natCast,Int.toNat_natCast]
 ·intro r hr ho;simp [Cr]at hr;subst hr;cases ho
 ·intro r hr ho;simp [Cr]at hr;subst hr;exact⟨R,by simp,Hl.le_refl _⟩
 ·simp [Cr]
 ·intro r hr;simp [Cr]at hr;subst hr;trivial
 ·show Nd.holds _ _ _ Co
  generalize hρ:bx [x,y,bs.length,cp] false [Hl.none,Hl.none,Hl.none,Hl.none,R]=ρ
  have v0:ρ.i 0=x:=by rw[←hρ];rfl
  have v1:ρ.i 1=y:=by rw[←hρ];rfl
  have v2:ρ.i 2=bs.length:=by rw[←hρ];rfl
  have w4:ρ.h 4=R:=by rw[←hρ];rfl
  unfold Co
  simp only[Nd.holds,X.pre,X.rel,X.n,Src.ok,Src.len,Src.bS,true_and,and_true,if_true,Nat.mul_one,Nat.add_zero,Nat.reduceAdd,List.length_cons,List.length_nil,bN,bK,aP,ba,bb,bM,bj,bJ,bI,bD,bd,bk,bL,bg,bf,aQ,bh,ah,ai,aE,aI,aK,ax,aF,aV,aT,au,aO,aC,aN,aB,TV.ev,SV.ev,CV.ev,List.map_cons,List.map_nil,bc.hl]
  rw[v2]
  refine⟨by omega,⟨0,by omega,rfl,rfl⟩,fun q g ⟨k,hk,h11,h10⟩=>?_⟩
  rw[g.i 0 (by omega),g.i 1 (by omega),g.i 2 (by omega),g.h 4 (by omega),v0,v1,v2,w4,h11]
  refine⟨fun hlt=>?_,fun hge=>?_⟩
  ·have hk':k<bs.length:=by omega
   have hxr:0≤x∧∀ j z,bs[j]?=some z→R.cell x.toNat (y.toNat+j)=some (.int .u8 z):=by
    rcases hR with h | h
    ·subst h;simp at hk'
    ·exact h
   have hc:R.cell x.toNat (y+k).toNat=some (.int .u8 bs[k]):=by
    rw[show(y+(k:Int)).toNat=y.toNat+k by omega]
    exact hxr.2 _ _ (List.getElem?_eq_getElem hk')
   rw[hc]
   refine⟨hxr.1,hy,by omega,rfl,⟨k+1,by omega,?_,?_⟩,?_⟩
   ·show IntKind.i64.wrap (q.i 11+1)=_
    rw[h11];exact wrap_i64 (by omega) (by omega)
   ·show jh (q.i 10) (fg ((q.h 4).cell (q.i 0).toNat (q.i 1+q.i 11).toNat))=_
    rw[h10,g.i 0 (by omega),g.i 1 (by omega),g.h 4 (by omega),v0,v1,w4,h11,hc,sz bs k hk']
    rfl
   ·show((bs.length:Int)-IntKind.i64.wrap (q.i 11+1)).toNat<_
    rw[h11,wrap_i64 (by omega) (by omega)];omega
  ·have e:k=bs.length:=by omega
   subst e
   rw[List.take_length]at h10
   refine fun _=>⟨[],[],rfl,rfl,⟨⟨fun _=>q.i 10,fun _=>false,fun _=>.empty,fun _=>.tuple #[],fun _=>Hl.none⟩,rfl,trivial,trivial⟩,_,bs,R,rfl,rfl,⟨x,y,cp,rfl,hy,hR⟩,?_⟩
   show Value.int .u64 (q.i 10)=_
   rw[h10]
end Go.Proofs.YtomdimlnggpgbaaGreatDoor.D
namespace Go.Proofs.YtomdimlnggpgbaaGreatDoor.D
open Go Go.Sx
theorem wrap_u64 {x:Int} (h0:0≤x) (h1:x<18446744073709551616):IntKind.u64.wrap x=x:=by
 show Int.emod x 18446744073709551616=x
 exact Int.emod_eq_of_lt h0 h1
theorem gH {n c:Int} (n0:0≤n) (n1:n<72057594037927936) (c0:0≤c) (c1:c<256):jh n c=n*256+c:=by
 unfold jh
 rw[show n*2 ^ (min (Int.toNat 8) IntKind.u64.bits)=n*256 from rfl,wrap_u64 (by omega) (by omega),wrap_u64 c0 (by omega)]
 obtain⟨m,rfl⟩:=Int.eq_ofNat_of_zero_le n0
 obtain⟨d,rfl⟩:=Int.eq_ofNat_of_zero_le c0
 show IntKind.u64.wrap (((BitVec.ofInt 64 ((m:Int)*256)) |||(BitVec.ofInt 64 (d:Int))).toNat:Int)=_
 have e1:(BitVec.ofInt 64 ((m:Int)*256)).toNat=m*256:=by
  rw[show((m:Int)*256)=((m*256:Nat):Int)by omega,BitVec.ofInt_natCast,BitVec.toNat_ofNat]
  exact Nat.mod_eq_of_lt (by omega)
 have e2:(BitVec.ofInt 64 (d:Int)).toNat=d:=by
  rw[BitVec.ofInt_natCast,BitVec.toNat_ofNat]
  exact Nat.mod_eq_of_lt (by omega)
 rw[BitVec.toNat_or,e1,e2]
 have e3:m*256 |||d=m*256+d:=by
  have:=Nat.shiftLeft_add_eq_or_of_lt (i:=8) (b:=d) (by omega) m
  rw[Nat.shiftLeft_eq]at this
  exact this.symm
 rw[e3,wrap_u64 (by omega) (by omega)]
 omega
def nG (x:Int):List Int:=[x/72057594037927936%256,x/281474976710656%256,x/1099511627776%256,x/4294967296%256,x/16777216%256,x/65536%256,x/256%256,x%256]
theorem A4 {a b c d e f g h:Int} (ha:0≤a∧a<256) (hb:0≤b∧b<256) (hc:0≤c∧c<256) (hd:0≤d∧d<256) (he:0≤e∧e<256) (hf:0≤f∧f<256) (hg:0≤g∧g<256) (hh:0≤h∧h<256) :
 cY [a,b,c,d,e,f,g,h]=((((((a*256+b)*256+c)*256+d)*256+e)*256+f)*256+g)*256+h:=by
 show jh (jh (jh (jh (jh (jh (jh (jh 0 a) b) c) d) e) f) g) h=_
 have e1:jh 0 a=a:=by rw[gH (by omega) (by omega) ha.1 ha.2];omega
 rw[e1,gH (n:=a) (c:=b) ha.1 (by omega) hb.1 hb.2]
 rw[gH (n:=a*256+b) (c:=c) (by omega) (by omega) hc.1 hc.2]
 rw[gH (n:=(a*256+b)*256+c) (c:=d) (by omega) (by omega) hd.1 hd.2]
 rw[gH (n:=((a*256+b)*256+c)*256+d) (c:=e) (by omega) (by omega) he.1 he.2]
 rw[gH (n:=(((a*256+b)*256+c)*256+d)*256+e) (c:=f) (by omega) (by omega) hf.1 hf.2]
 rw[gH (n:=((((a*256+b)*256+c)*256+d)*256+e)*256+f) (c:=g) (by omega) (by omega) hg.1 hg.2]
 rw[gH (n:=(((((a*256+b)*256+c)*256+d)*256+e)*256+f)*256+g) (c:=h) (by omega) (by omega) hh.1 hh.2]
theorem mE {x:Int} (h0:0≤x) (h1:x<18446744073709551616):cY (nG x)=x:=by
 unfold nG
 rw[A4 (by omega) (by omega) (by omega) (by omega) (by omega) (by omega) (by omega) (by omega)]
 omega
end Go.Proofs.YtomdimlnggpgbaaGreatDoor.D
namespace Go.Proofs.YtomdimlnggpgbaaGreatDoor.D
open Go Go.Sx
def mw (n:Nat):List Ck:=List.replicate n (.int .u8)
def gZ:List Ck:=[.int .u64,.int .u64]++mw 16
def aG (l:List Int):List Int:=nG (l.getD 0 0)++nG (l.getD 1 0)++(l.drop 2).take 16
def Hu (xs:List Value):Value:=match xs with
 | [v]=>.agg (cn (aG (de v))).toArray
 | _=>.bool false
def Hv (xs:List Value):Prop:=match xs with
 | [v]=>(0≤(de v).getD 0 0∧(de v).getD 0 0<18446744073709551616)∧0≤(de v).getD 1 0∧(de v).getD 1 0<18446744073709551616
 | _=>False
def wx:Sx.Spec:=AI 160 [.agg gZ] [.agg (mw 32)] Hv Hu
def yF:Nd:=.ext (.alloc 18) (.ext (.alloc 19) (.ext (.alloc 20) (.post [.dead,.dead,.dead] (.sv (.agg ([.int .u8 (.wrap .u8 (.shr .u64 (.var 0) (.lit 56))),.int .u8 (.wrap .u8 (.shr .u64 (.var 0) (.lit 48))),.int .u8 (.wrap .u8 (.shr .u64 (.var 0) (.lit 40))),.int .u8 (.wrap .u8 (.shr .u64 (.var 0) (.lit 32))),.int .u8 (.wrap .u8 (.shr .u64 (.var 0) (.lit 24))),.int .u8 (.wrap .u8 (.shr .u64 (.var 0) (.lit 16))),.int .u8 (.wrap .u8 (.shr .u64 (.var 0) (.lit 8))),.int .u8 (.wrap .u8 (.shr .u64 (.var 0) (.lit 0))),.int .u8 (.wrap .u8 (.shr .u64 (.var 1) (.lit 56))),.int .u8 (.wrap .u8 (.shr .u64 (.var 1) (.lit 48))),.int .u8 (.wrap .u8 (.shr .u64 (.var 1) (.lit 40))),.int .u8 (.wrap .u8 (.shr .u64 (.var 1) (.lit 32))),.int .u8 (.wrap .u8 (.shr .u64 (.var 1) (.lit 24))),.int .u8 (.wrap .u8 (.shr .u64 (.var 1) (.lit 16))),.int .u8 (.wrap .u8 (.shr .u64 (.var 1) (.lit 8))),.int .u8 (.wrap .u8 (.shr .u64 (.var 1) (.lit 0)))]++al 2 (List.replicate 16 (Ck.int .u8))))))))
def Hy:cy Tryz.prog [] 160 where
 Λ:=aH
 args:=(ct 0 [.agg gZ]).map .sv
 mem:=[]
 nv:=18
 nd:=yF
 ok:=by kernel_rfl
theorem wrap_u8 (x:Int):IntKind.u8.wrap x=x%256:=rfl
theorem Fl {q:Env} {n:Nat} {x:Int} (h:q.i n=x) (h0:0≤x) (k:Nat):ak q (.wrap .u8 (.shr .u64 (.var n) (.lit k)))=x/2 ^ (min k 64)%256:=by
 rw[ax,wrap_u8,uu,ai,h]
 show x.fdiv (2 ^ (min ((k:Int)).toNat 64))%256=_
 rw[Int.toNat_natCast,Int.fdiv_eq_ediv_of_nonneg _ (Int.le_of_lt (Int.pow_pos (by omega)))]
theorem xV {q:Env} {n:Nat} {x:Int} (h:q.i n=x) (h0:0≤x):[Value.int .u8 (ak q (.wrap .u8 (.shr .u64 (.var n) (.lit 56)))),Value.int .u8 (ak q (.wrap .u8 (.shr .u64 (.var n) (.lit 48)))),Value.int .u8 (ak q (.wrap .u8 (.shr .u64 (.var n) (.lit 40)))),Value.int .u8 (ak q (.wrap .u8 (.shr .u64 (.var n) (.lit 32)))),Value.int .u8 (ak q (.wrap .u8 (.shr .u64 (.var n) (.lit 24)))),Value.int .u8 (ak q (.wrap .u8 (.shr .u64 (.var n) (.lit 16)))),Value.int .u8 (ak q (.wrap .u8 (.shr .u64 (.var n) (.lit 8)))),Value.int .u8 (ak q (.wrap .u8 (.shr .u64 (.var n) (.lit 0))))]=(nG x).map (Value.int .u8):=by
 have s:=fun k=>Fl h h0 k
 have s56:ak q (.wrap .u8 (.shr .u64 (.var n) (.lit 56)))=x/72057594037927936%256:=s 56
 have s48:ak q (.wrap .u8 (.shr .u64 (.var n) (.lit 48)))=x/281474976710656%256:=s 48
 have s40:ak q (.wrap .u8 (.shr .u64 (.var n) (.lit 40)))=x/1099511627776%256:=s 40
 have s32:ak q (.wrap .u8 (.shr .u64 (.var n) (.lit 32)))=x/4294967296%256:=s 32
 have s24:ak q (.wrap .u8 (.shr .u64 (.var n) (.lit 24)))=x/16777216%256:=s 24
 have s16:ak q (.wrap .u8 (.shr .u64 (.var n) (.lit 16)))=x/65536%256:=s 16
 have s8:ak q (.wrap .u8 (.shr .u64 (.var n) (.lit 8)))=x/256%256:=s 8
 have s0:ak q (.wrap .u8 (.shr .u64 (.var n) (.lit 0)))=x/1%256:=s 0
 rw[s56,s48,s40,s32,s24,s16,s8,s0,Int.ediv_one];rfl
set_option maxRecDepth 20000 in
theorem C1:wx.OK Tryz.prog:=by
 refine uK (fun t h=>by cases h) Hy rfl rfl rfl (fun q _ _=>?_) (fun q hq hN=>⟨fun _ _=>True,fun _ _=>0,?_⟩)
 ·obtain⟨ρ,_,_,e⟩:=gF (mw 32) 0 (cn (aG (de ((SV.agg (al 0 gZ)).ev q)))) q (eX 32 _ rfl)
  exact⟨ρ,by show Value.agg _=Value.agg ((al 0 (mw 32)).map (CV.ev ρ)).toArray;rw[e];rfl,eP _ _ _ (by decide),trivial⟩
 ·have hN:(0≤q.i 0∧q.i 0<18446744073709551616)∧0≤q.i 1∧q.i 1<18446744073709551616:=hN
  obtain⟨⟨a0,a1⟩,b0,b1⟩:=hN
  show Nd.holds _ _ _ yF
  unfold yF
  simp only[Nd.holds,X.pre,X.rel,X.n]
  intro q1 g1 _ q2 g2 _ q3 g3 _
  have G:ae 18 q q3:=(g1.trans (g2.mono (by omega))).trans (g3.mono (by omega))
  have e0:q3.i 0=q.i 0:=G.i 0 (by omega)
  have e1:q3.i 1=q.i 1:=G.i 1 (by omega)
  show Value.agg (List.map (CV.ev q3) (_++_)).toArray=Value.agg (cn (nG (q.i 0)++nG (q.i 1)++(List.range 16).map fun j=>q.i (2+j))).toArray
  congr 2
  rw[List.map_append]
  unfold cn
  rw[List.map_append]
  congr 1
  ·rw[List.map_append,←xV e0 a0,←xV e1 b0];rfl
  ·have:=CV.dJ (G.mono (by decide)) _ (cr (mw 16) 2)
   unfold mw at this
   rw[this]
   rfl
end Go.Proofs.YtomdimlnggpgbaaGreatDoor.D
namespace Go.Proofs.YtomdimlnggpgbaaGreatDoor.D
open Go Go.Sx
def oL (l:List Int):List Value:=[.int .u64 (cY (l.take 8)),.int .u64 (cY ((l.drop 8).take 8))]++cn ((l.drop 16).take 16)
def EK (xs:List Value):Value:=match xs with
 | [v]=>.agg (oL (de v)).toArray
 | _=>.bool false
def m6:Sx.Spec:=AI 123 [.agg (mw 32)] [.agg gZ] (fun _=>True) EK
def qB:Nd:=.ext (.alloc 32) (.ext (.alloc 33) (.and (.pre (.call 0 34 [.sv (.one (.sl (.var 32) (.lit 0) (.lit 8) (.lit 32)))] [] [.aS 32 (al 0 (List.replicate 32 (Ck.int .u8))) 199])) (.ext (.call 0 34 [.sv (.one (.sl (.var 32) (.lit 0) (.lit 8) (.lit 32)))] [] [.aS 32 (al 0 (List.replicate 32 (Ck.int .u8))) 199]) (.and (.pre (.call 0 35 [.sv (.one (.sl (.var 32) (.lit 8) (.lit 8) (.lit 24)))] [] [.aS 32 (al 0 (List.replicate 32 (Ck.int .u8))) 199])) (.ext (.call 0 35 [.sv (.one (.sl (.var 32) (.lit 8) (.lit 8) (.lit 24)))] [] [.aS 32 (al 0 (List.replicate 32 (Ck.int .u8))) 199]) (.post [.dead,.dead] (.sv (.agg ([.int .u64 (.var 34),.int .u64 (.var 35)]++al 16 (List.replicate 16 (Ck.int .u8)))))))))))
def An:List Sx.Spec:=[Cq]
theorem C4:∀ t∈An,t.OK Tryz.prog:=fun t ht=>by
 rw[An,List.mem_singleton]at ht;subst ht;exact EB
def EL:cy Tryz.prog An 123 where
 Λ:=aH
 args:=(ct 0 [.agg (mw 32)]).map .sv
 mem:=[]
 nv:=32
 nd:=qB
 ok:=by kernel_rfl
theorem Em:An[0]?=some Cq:=rfl
theorem wA:Cq.res=[.one (.int .u64)]:=rfl
theorem AJ {a:Int} (h0:0≤a) (vs:List Int) (o n c:Nat) (T:TypeId) (hn:o+n≤vs.length):fw (Hl.one a.toNat (.cells (cn vs).toArray T (0,0))) (.slice (ar a (o:Int)) n c) ((vs.drop o).take n):=by
 have hl:((vs.drop o).take n).length=n:=by rw[List.length_take,List.length_drop];omega
 refine⟨a,o,c,by rw[hl],by omega,Or.inr ⟨h0,fun j z hz=>?_⟩⟩
 rw[Hl.one_cell,List.getElem?_toArray,dw,Int.toNat_natCast]
 rw[List.getElem?_take]at hz
 split at hz
 ·rw[List.getElem?_drop]at hz;rw[hz];rfl
 ·cases hz
set_option maxRecDepth 20000 in
theorem yH:m6.OK Tryz.prog:=by
 refine uK C4 EL rfl rfl rfl (fun q _ _=>?_) (fun q hq hN=>⟨fun _ _=>True,fun _ _=>0,?_⟩)
 ·obtain⟨ρ,_,_,e⟩:=gF gZ 0 (oL (de ((SV.agg (al 0 (mw 32))).ev q))) q ⟨by simp [cx,kq],by simp [cx,kq],eX 16 _ rfl⟩
  exact⟨ρ,by show Value.agg _=Value.agg ((al 0 gZ).map (CV.ev ρ)).toArray;rw[e];rfl,eP _ _ _ (by decide),trivial⟩
 ·show Nd.holds _ _ _ qB
  unfold qB
  simp only[Nd.holds,X.pre,X.rel,X.n,Em,wA,aU,df,Cp.sv,Ck.cv,ct,Cp.len,Ck.len,aU,bm,bC,TV.ev,SV.ev,CV.ev,List.map_cons,List.map_nil,bc.hl,ai,ah]
  intro q1 g1 a1 q2 g2 a2
  obtain⟨L,hL⟩:∃ L,L=(List.range 32).map fun j=>q.i j:=⟨_,rfl⟩
  have hLl:L.length=32:=by rw[hL];rfl
  have G2:ae 32 q q2:=g1.trans (g2.mono (by omega))
  have cells:∀ q',ae 32 q q'→List.map (CV.ev q') (al 0 (List.replicate 32 (Ck.int .u8)))=cn L:=by
   intro q' g
   have:=CV.dJ (g.mono (by decide)) _ (cr (mw 32) 0)
   unfold mw at this
   rw[this,hL];rfl
  rw[cells q2 G2]
  have p2:0≤q2.i 32:=by rw[g2.i 32 (by omega)];exact a1
  refine⟨⟨_,L.take 8,_,rfl,rfl,AJ p2 L 0 8 32 _ (by omega),by rw[List.length_take];omega⟩,fun q3 g3 ⟨_,⟨u,bs,R,hx,hR,hrd,hv⟩,_⟩=>?_⟩
  cases hx;cases hR
  have e1:=hrd.uniq (AJ p2 L 0 8 32 _ (by omega))
  have G3:ae 32 q q3:=G2.trans (g3.mono (by omega))
  rw[cells q3 G3]
  have p3:0≤q3.i 32:=by rw[g3.i 32 (by omega)];exact p2
  refine⟨⟨_,(L.drop 8).take 8,_,rfl,rfl,AJ p3 L 8 8 24 _ (by omega),by rw[List.length_take];omega⟩,fun q4 g4 ⟨_,⟨u,bs2,R,hx,hR,hrd2,hv2⟩,_⟩=>?_⟩
  cases hx;cases hR
  have e2:=hrd2.uniq (AJ p3 L 8 8 24 _ (by omega))
  have G4:ae 32 q q4:=G3.trans (g4.mono (by omega))
  simp only[Value.int.injEq,true_and]at hv hv2
  have hv:q4.i 34=cY (L.take 8):=by rw[g4.i 34 (by omega),hv,e1];rfl
  have hv2:q4.i 35=cY ((L.drop 8).take 8):=by rw[hv2,e2]
  show Value.agg (List.map (CV.ev q4) (_++_)).toArray=Value.agg (oL ((List.range 32).map fun j=>q.i j)).toArray
  rw[←hL]
  congr 2
  rw[List.map_append]
  unfold oL
  congr 1
  ·show [Value.int .u64 (q4.i 34),Value.int .u64 (q4.i 35)]=_
   rw[hv,hv2]
  ·have:=CV.dJ (G4.mono (by decide)) _ (cr (mw 16) 16)
   unfold mw at this
   rw[this,hL]
   rfl
end Go.Proofs.YtomdimlnggpgbaaGreatDoor.D
namespace Go.Proofs.YtomdimlnggpgbaaGreatDoor.D
open Go Go.Sx
structure LM where
 frm:Int
 most:Int
 serial:Int
 size:Int
 note:List Int
 over:Bool
structure LM.ok (L:LM):Prop where
 frm:0≤L.frm∧L.frm≤16384
 most:0≤L.most∧L.most≤1048576
 note:L.note.length=16
def iw (dp sl:Value) (L:LM):List Value:=[dp,.int .i64 L.frm,.int .i64 L.most,.int .u64 L.serial,.int .u64 L.size]++(cn L.note++[sl,.bool L.over])
def gV (R:Hl) (a:Nat) (dp sl:Value) (L:LM):Prop:=L.ok∧R a=some (.cells (iw dp sl L).toArray 145 (0,0))
def c6 (R:Hl) (p dp sl:Value) (L:LM):Prop:=∃ a:Nat,p=.pointer (some ⟨a,0,none⟩)∧gV R a dp sl L
theorem yL {dp sl dp' sl':Value} {L L':LM} (h1:L.note.length=16) (h2:L'.note.length=16) (h:iw dp sl L=iw dp' sl' L'):dp=dp'∧sl=sl'∧L=L':=by
 unfold iw at h
 obtain⟨ha,hb⟩:=List.append_inj h rfl
 obtain⟨hc,hd⟩:=List.append_inj hb (by rw[dq,dq,h1,h2])
 simp only[List.cons.injEq,Value.int.injEq,Value.bool.injEq,true_and,and_true]at ha hd
 obtain⟨e0,e1,e2,e3,e4⟩:=ha
 have e5:=mF hc
 obtain⟨x1,x2,x3,x4,x5,x6⟩:=L
 obtain⟨y1,y2,y3,y4,y5,y6⟩:=L'
 simp only at e1 e2 e3 e4 e5 hd
 obtain⟨e6,e7⟩:=hd
 subst e1 e2 e3 e4 e5 e7
 exact⟨e0,e6,rfl⟩
theorem c6.uniq {R:Hl} {p dp sl dp' sl':Value} {L L':LM} (h:c6 R p dp sl L) (h':c6 R p dp' sl' L'):dp=dp'∧sl=sl'∧L=L':=by
 obtain⟨a,rfl,ho,h⟩:=h
 obtain⟨a',he,ho',h'⟩:=h'
 simp only[Value.pointer.injEq,Option.some.injEq,Addr.mk.injEq,and_true]at he
 subst he
 rw[h]at h'
 simp only[Option.some.injEq,Obj.cells.injEq,and_true]at h'
 exact yL ho.note ho'.note (congrArg Array.toList h')
theorem gV.cell {R:Hl} {a:Nat} {dp sl:Value} {L:LM} (h:gV R a dp sl L) (j:Nat):R.cell a j=(iw dp sl L)[j]?:=by
 unfold Hl.cell;rw[h.2];simp
theorem gV.mono {R R':Hl} {a:Nat} {dp sl:Value} {L:LM} (h:gV R a dp sl L) (hl:R.le R'):gV R' a dp sl L:=⟨h.1,hl _ _ h.2⟩
theorem c6.mono {R R':Hl} {p dp sl:Value} {L:LM} (h:c6 R p dp sl L) (hl:R.le R'):c6 R' p dp sl L:=by
 obtain⟨a,e,h⟩:=h
 exact⟨a,e,h.mono hl⟩
def fa:List Int:=List.replicate 18 0
def oK (x:List Int):List Int:=[cY (x.take 8),cY ((x.drop 8).take 8)]++(x.drop 16).take 16
def jf (h:List Int):List Value:=[.int .u64 (h.getD 0 0),.int .u64 (h.getD 1 0)]++cn (h.drop 2)
def m5 (b:List Int) (most place:Int):Prop:=b.take 32=b.drop 32∧(cY ((b.take 32).take 8)).tmod 2=place∧cY (((b.take 32).drop 8).take 8)≤most
instance (b:List Int) (most place:Int):Decidable (m5 b most place):=by unfold m5;infer_instance
def aM (D:DM) (frm most place:Int):List Int×Int :=
 if(fb D (frm+place)).2≠0 then(fa,(fb D (frm+place)).2)
 else if m5 (fb D (frm+place)).1 most place then(oK ((fb D (frm+place)).1.take 32),0)else(fa,0)
def ix:Sx.Spec where
 fn:=77
 own:=[.link 0 0]
 rd:=[0]
 res:=[.agg gZ,.one (.int .i64)]
 pre:=fun xs Hs Rs=>∃ p place H R dp sl L D,xs=[p,.int .u64 place]∧Hs=[H]∧Rs=[R]∧c6 R p dp sl L∧aj H dp D∧(place=0∨place=1)
 post:=fun xs Hs Rs v Hs' F=>∃ p place H R dp sl L D H',xs=[p,.int .u64 place]∧Hs=[H]∧Rs=[R]∧c6 R p dp sl L∧aj H dp D∧Hs'=[H']∧aj H' dp D ∧
  v=.tuple #[.agg (jf (aM D L.frm L.most place).1).toArray,.int .i64 (aM D L.frm L.most place).2]
def ti:E:=.ite (.eq (.var 8) (.lit 32)) (.var 6) (.add (.var 6) (.lit 32))
def Ho (f g:Nat→E):Nat→Nat→E
 | 0,j=>.eq (f j) (g j)
 | n+1,j=>.and (.eq (f j) (g j)) (Ho f g n (j+1))
theorem Ae {q:Env} {f g:Nat→E} : ∀ (n j:Nat),bo q (Ho f g n j)=true↔∀ i,j≤i→i≤j+n→ak q (f i)=ak q (g i)
 | 0,j=>by
  unfold Ho
  rw[bD]
  exact⟨fun h i h1 h2=>by obtain rfl:i=j:=by omega
                          exact h,fun h=>h j (by omega) (by omega)⟩
 | n+1,j=>by
  unfold Ho
  rw[bb,bD,Ae n (j+1)]
  refine⟨fun⟨h1,h2⟩ i a b=>?_,fun h=>⟨h j (by omega) (by omega),fun i a b=>h i (by omega) (by omega)⟩⟩
  rcases Nat.lt_or_ge j i with h | h
  ·exact h2 i (by omega) (by omega)
  ·obtain rfl:i=j:=by omega
   exact h1
def uN:E:=Ho (fun j=>.hI 6 (.var 5) (.var 6) j) (fun j=>.hI 6 (.var 5) ti j) 31 0
def uA:Nd:=.ext (.alloc 4) (.and (.e (.le (.lit 0) (.var 0))) (.and (.e (.his 2 (.var 0) (.lit 0) 0 .ptr)) (.and (.e (.his 2 (.var 0) (.lit 1) 0 (.int .i64))) (.and (.pre (.call 0 5 [.sv (.one (.hptr (.hP 2 (.var 0) (.lit 0) 0 0) (.hP 2 (.var 0) (.lit 0) 0 1))),.sv (.one (.int .i64 (.wrap .i64 (.add (.hI 2 (.var 0) (.lit 1) 0) (.wrap .i64 (.var 1))))))] [.hp 3 [] [.hP 2 (.var 0) (.lit 0) 0 0] []] [])) (.ext (.call 0 5 [.sv (.one (.hptr (.hP 2 (.var 0) (.lit 0) 0 0) (.hP 2 (.var 0) (.lit 0) 0 1))),.sv (.one (.int .i64 (.wrap .i64 (.add (.hI 2 (.var 0) (.lit 1) 0) (.wrap .i64 (.var 1))))))] [.hp 3 [] [.hP 2 (.var 0) (.lit 0) 0 0] []] []) (.and (.imp (.not (.eq (.var 9) (.lit 0))) (.post [.hp 5 [3] [.hP 2 (.var 0) (.lit 0) 0 0] [],.ro 2 [.var 0] false,.dead,.hp 6 [] [.var 5] []] (.tup [.agg ([.int .u64 (.lit 0),.int .u64 (.lit 0)]++List.replicate 16 (CV.int .u8 (.lit 0))),.one (.int .i64 (.var 9))]))) (.imp (.eq (.var 9) (.lit 0)) (.and (.e (.le (.lit (-1)) (.var 5))) (.and (.e (.le (.lit 0) (.var 6))) (.and (.e (.le (.lit 32) (.var 8))) (.and (.e (.le (.lit 0) (.var 5))) (.and (.e (.hby 6 (.var 5) (.var 6) (.lit 32))) (.and (.e (.le (.lit 32) (.var 7))) (.and (.e (.le (.var 7) (.var 8))) (.and (.e (.le (.lit 32) (.sub (.var 7) (.lit 32)))) (.and (.e (.le (.lit 0) ti)) (.and (.e (.hby 6 (.var 5) ti (.lit 32))) (.ext (.alloc 10) (.ext (.alloc 11) (.and (.pre (.call 1 12 [.sv (.agg (bz 6 (.var 5) (.var 6) 0 (List.replicate 32 (Kd.int .u8))))] [] [])) (.ext (.call 1 12 [.sv (.agg (bz 6 (.var 5) (.var 6) 0 (List.replicate 32 (Kd.int .u8))))] [] []) (.ext (.alloc 30) (.and (.imp (.not uN) (.post [.hp 5 [3] [.hP 2 (.var 0) (.lit 0) 0 0] [],.ro 2 [.var 0] false,.dead,.hp 6 [] [.var 5] [],.dead,.dead,.dead] (.tup [.agg ([.int .u64 (.lit 0),.int .u64 (.lit 0)]++List.replicate 16 (CV.int .u8 (.lit 0))),.one (.int .i64 (.lit 0))]))) (.imp uN (.and (.imp (.not (.eq (.rem (.var 12) (.lit 2)) (.var 1))) (.post [.hp 5 [3] [.hP 2 (.var 0) (.lit 0) 0 0] [],.ro 2 [.var 0] false,.dead,.hp 6 [] [.var 5] [],.dead,.dead,.dead] (.tup [.agg ([.int .u64 (.lit 0),.int .u64 (.lit 0)]++List.replicate 16 (CV.int .u8 (.lit 0))),.one (.int .i64 (.lit 0))]))) (.imp (.eq (.rem (.var 12) (.lit 2)) (.var 1)) (.and (.e (.his 2 (.var 0) (.lit 2) 0 (.int .i64))) (.and (.imp (.lt (.wrap .u64 (.hI 2 (.var 0) (.lit 2) 0)) (.var 13)) (.post [.hp 5 [3] [.hP 2 (.var 0) (.lit 0) 0 0] [],.ro 2 [.var 0] false,.dead,.hp 6 [] [.var 5] [],.dead,.dead,.dead] (.tup [.agg ([.int .u64 (.lit 0),.int .u64 (.lit 0)]++List.replicate 16 (CV.int .u8 (.lit 0))),.one (.int .i64 (.lit 0))]))) (.imp (.not (.lt (.wrap .u64 (.hI 2 (.var 0) (.lit 2) 0)) (.var 13))) (.post [.hp 5 [3] [.hP 2 (.var 0) (.lit 0) 0 0] [],.ro 2 [.var 0] false,.dead,.hp 6 [] [.var 5] [],.dead,.dead,.dead] (.tup [.agg (al 12 ([Ck.int .u64,Ck.int .u64]++List.replicate 16 (Ck.int .u8))),.one (.int .i64 (.lit 0))])))))))))))))))))))))))))))))))
def nS:List Sx.Spec:=[oZ,m6]
theorem Bq:∀ t∈nS,t.OK Tryz.prog:=fun t ht=>by
 simp only[nS,List.mem_cons,List.mem_nil_iff,or_false]at ht
 rcases ht with rfl | rfl
 ·exact xi
 ·exact yH
def qF:cy Tryz.prog nS ix.fn where
 Λ:=aH
 args:=[TP (.var 0) (.lit 0),TI .u64 (.var 1)]
 mem:=[.hp 3 [] [.hP 2 (.var 0) (.lit 0) 0 0] [],.ro 2 [.var 0] false]
 nv:=4
 nd:=uA
 ok:=by kernel_rfl
theorem KM:nS[0]?=some oZ:=rfl
theorem KN:nS[1]?=some m6:=rfl
theorem Kl:oZ.res=[.one .sl,.one (.int .i64)]:=rfl
theorem KO:m6.res=[.agg gZ]:=rfl
theorem Ki:(bO 0 [Cp.one .sl,Cp.one (.int .i64)]≠[])=True:=by simp [bO,Cp.roots,Ck.root]
theorem fQ (q:Env):∀ (m n:Nat),gI n (List.replicate m (Ck.int .u8)) q
 | 0,_=>trivial
 | m+1,n=>⟨trivial,fQ q m (n+1)⟩
theorem dA.cap {F:Hl} {e:TypeId} {x y l c:Int} {bs:List Int} (h:dA F e (.slice (ar x y) l.toNat c.toNat) bs) (hl:0≤l) (hc:0≤c):l≤c:=by
 obtain⟨_,h⟩:=h
 rcases h with ⟨h,_⟩ | ⟨g,cap,cur,h,_,hle,_⟩
 ·simp only[Value.slice.injEq]at h;omega
 ·simp only[Value.slice.injEq]at h;omega
theorem xh {D:DM} (h:D.ok) {i:Int} (e:(fb D i).2=0):D.has i=true∧D.gone=false∧(fb D i).1=D.aJ i∧(D.aJ i).length=64:=by
 unfold fb at e ⊢
 split at e
 ·cases e
 ·rename_i h1
  have h1:D.has i=true:=by simpa using h1
  rw[if_neg (by simp [h1])]
  split at e
  ·cases e
  ·rename_i h2
   rw[if_neg h2]
   exact⟨h1,by simpa using h2,rfl,dI h h1⟩
theorem yI {x:List Int} (h:x.length=32):m6.pre [.agg (cn x).toArray] [] []:=by
 obtain⟨c,_,_,ec⟩:=gF (mw 32) 0 (cn x) ⟨fun _=>0,fun _=>false,fun _=>.empty,fun _=>.tuple #[],fun _=>Hl.none⟩ (eX 32 _ h)
 refine⟨⟨c,⟨fQ c 32 0,trivial⟩,?_⟩,trivial⟩
 show [Value.agg (cn x).toArray]=[Value.agg ((al 0 (mw 32)).map (CV.ev c)).toArray]
 rw[ec]
theorem Bp:ix.OK Tryz.prog:=by
 refine Spec.b8 (Γ:=nS) Bq ?_
 rintro xs Hs Rs hl1 hl2 ⟨p,place,H,R,dp,sl,L,D,rfl,rfl,rfl,⟨a,rfl,hL⟩,hD,hpl⟩
 obtain⟨da,s,m,es,clock,rfl,hDi⟩:=hD
 refine⟨qF,bx [a,place] false [Hl.none,Hl.none,R,H],fun _ _=>True,fun _ _=>0,?_,⟨?_,?_,?_,?_⟩,(fun _ h=>nomatch h),?_⟩
 ·show [Value.pointer (ar (a:Int) 0),Value.int .u64 place]=_;rw[fc]
 ·intro r hr ho
  simp [qF]at hr
  rcases hr with rfl | rfl
  ·exact⟨H,by simp,Hl.le_refl _⟩
  ·cases ho
 ·intro r hr ho
  simp [qF]at hr
  rcases hr with rfl | rfl
  ·cases ho
  ·exact⟨R,by simp,Hl.le_refl _⟩
 ·simp [qF,bc.own]
 ·intro r hr
  simp [qF]at hr
  rcases hr with rfl | rfl<;>trivial
 ·show Nd.holds _ _ _ uA
  generalize hρ:bx [(a:Int),place] false [Hl.none,Hl.none,R,H]=ρ
  have v0:ρ.i 0=a:=by rw[←hρ];rfl
  have v1:ρ.i 1=place:=by rw[←hρ];rfl
  have w2:ρ.h 2=R:=by rw[←hρ];rfl
  have w3:ρ.h 3=H:=by rw[←hρ];rfl
  unfold uA
  simp only[Nd.holds,X.pre,X.rel,X.n,Src.ok,Src.len,Src.bS,true_and,and_true,if_true,Nat.mul_one,Nat.add_zero,Nat.reduceAdd,List.length_cons,List.length_nil,bN,bK,aP,ba,bb,bM,bj,bJ,bI,bD,bd,bk,bL,bg,bf,aQ,bh,ah,ai,aE,aI,aK,ax,aF,aV,aT,au,aO,aC,aN,aB,TV.ev,SV.ev,CV.ev,List.map_cons,List.map_nil,bc.hl,df,Cp.sv,Ck.cv,ct,Cp.len,Ck.len,aU,bm,bC,KM,KN,Kl,KO,Ki]
  intro q0 g0 _
  have hDA:aj H (.pointer (some ⟨da,0,none⟩)) D:=⟨da,s,m,es,clock,rfl,hDi⟩
  have t0:Int.toNat 0=0:=rfl
  have t1:Int.toNat 1=1:=rfl
  have t2:Int.toNat 2=2:=rfl
  have t32:Int.toNat 32=32:=rfl
  have c0:R.cell a 0=some (.pointer (some ⟨da,0,none⟩)):=by rw[hL.cell];rfl
  have c1:R.cell a 1=some (.int .i64 L.frm):=by rw[hL.cell];rfl
  have c2:R.cell a 2=some (.int .i64 L.most):=by rw[hL.cell];rfl
  obtain⟨f0,f1⟩:=hL.1.frm
  obtain⟨m0,m1⟩:=hL.1.most
  have ep:Value.pointer (ar (cH (R.cell a 0) 0) (cH (R.cell a 0) 1))=.pointer (some ⟨da,0,none⟩):=by rw[c0];exact fc da
  have ei:IntKind.i64.wrap (fg (R.cell a 1)+IntKind.i64.wrap place)=L.frm+place:=by
   rw[c1]
   show IntKind.i64.wrap (L.frm+IntKind.i64.wrap place)=_
   rw[wrap_i64 (n:=place) (by omega) (by omega)]
   exact wrap_i64 (by omega) (by omega)
  rw[g0.i 0 (by omega),v0,g0.h 2 (by omega),w2,g0.i 1 (by omega),v1,g0.h 3 (by omega),w3,Int.toNat_natCast,t0,t1,ep,ei]
  refine⟨by omega,by rw[c0];rfl,by rw[c1];rfl,⟨_,L.frm+place,H,D,rfl,rfl,hDA⟩,fun q1 g1 ⟨F,⟨p',i',H',D',H2,u,hx,hH,hD',hH2,hD2,hv,hO⟩,hF,hn⟩=>?_⟩
  cases hx
  cases hH
  have e:=hD'.uniq hDA
  subst e
  obtain⟨⟨n5,n6,n7,n8⟩,_⟩:=hn
  have n6:0≤q1.i 6:=n6
  have n7:0≤q1.i 7:=n7
  have n8:0≤q1.i 8:=n8
  simp only[Value.tuple.injEq,Array.mk.injEq,List.cons.injEq,Value.int.injEq,true_and,and_true]at hv hH2
  obtain⟨rfl,h9⟩:=hv
  have hF:=hF trivial
  subst hF
  have out:∀ (q:Env) (t:Mem) (r:TV) (h:List Int) (e:Int) (ρ2:Env),ae 10 q1 q→aM D' L.frm L.most place=(h,e)→r.ev q=(df 0 ix.res).ev ρ2→r.ev q=.tuple #[.agg (jf h).toArray,.int .i64 e] →
   postOf ix [.pointer (some ⟨a,0,none⟩),.int .u64 place] [H] [R] q (.hp 5 [3] [.hP 2 (.var 0) (.lit 0) 0 0] []::t) r:=by
   intro q t r h e ρ2 hq hr h1 h2 _
   refine⟨[[0]],[],rfl,rfl,⟨ρ2,h1,eP _ _ _ (by decide),trivial,trivial⟩,_,place,H,R,_,sl,L,D',_,rfl,rfl,rfl,⟨a,rfl,hL⟩,hDA,rfl,?_,?_⟩
   ·show aj (dF [q.h 5]) _ _
    rw[bp,hq.h 5 (by omega),hH2]
    exact hD2
   ·rw[h2,hr]
  have zero:∀ (q:Env) (t:Mem) (x:E) (e:Int),ae 10 q1 q→aM D' L.frm L.most place=(fa,e)→ak q x=e →
   postOf ix [.pointer (some ⟨a,0,none⟩),.int .u64 place] [H] [R] q (.hp 5 [3] [.hP 2 (.var 0) (.lit 0) 0 0] []::t) (.tup [.agg ([.int .u64 (.lit 0),.int .u64 (.lit 0)]++List.replicate 16 (CV.int .u8 (.lit 0))),.one (.int .i64 x)]):=by
   intro q t x e hq hr hx
   refine out q t _ fa e ⟨fun k=>if k=18 then e else 0,fun _=>false,fun _=>.empty,fun _=>.tuple #[],fun _=>Hl.none⟩ hq hr ?_ ?_
   ·subst hx;rfl
   ·subst hx;rfl
  refine⟨fun h=>zero q1 _ _ _ (ae.refl _ _) ?_ (by rw[ai]),fun h=>?_⟩
  ·unfold aM
   rw[←h9,if_pos h]
  ·rw[h]at h9
   obtain⟨hh,hg,hs,hl⟩:=xh hDi.ok h9.symm
   obtain⟨b,hb⟩:∃ b,b=(fb D' (L.frm+place)).1:=⟨_,rfl⟩
   rw[←hb]at hO hs
   have hbl:b.length=64:=by rw[hs];exact hl
   have hat:=hO.rd.at n5 n6 n7
   obtain⟨e7,hc⟩:=hat
   rw[hbl]at e7
   have hc:0≤q1.i 5∧∀ j z,b[j]?=some z→(q1.h 6).cell (q1.i 5).toNat ((q1.i 6).toNat+j)=some (.int .u8 z):=by
    rcases hc with ⟨_,hc⟩ | hc
    ·rw[hc]at hbl;cases hbl
    ·exact hc
   obtain⟨p5,hc⟩:=hc
   have hcap:=dA.cap hO n7 n8
   have eY:∀ q,ae 10 q1 q→ak q ti=q1.i 6+32:=by
    intro q g
    unfold ti
    rw[aF,if_neg (by rw[bD,ai,ah,g.i 8 (by omega)];omega),aE,ai,ah,g.i 6 (by omega)]
   rw[eY q1 (ae.refl _ _),t32]
   refine⟨n5,n6,by omega,p5,dB hc (by omega),by omega,by omega,by omega,by omega,?_,fun q2 g2 _ q3 g3 _=>?_⟩
   ·refine dB (bs:=b.drop 32) (fun j z hz=>?_) (by rw[List.length_drop];omega)
    rw[List.getElem?_drop]at hz
    have:=hc _ _ hz
    rw[show(q1.i 6+32).toNat+j=(q1.i 6).toNat+(32+j)by omega]
    exact this
   have G3:ae 10 q1 q3:=g2.trans (g3.mono (by omega))
   have hxl:(b.take 32).length=32:=by rw[List.length_take];omega
   have hrom:(bz 6 (E.var 5) (E.var 6) 0 (List.replicate 32 (Kd.int IntKind.u8))).map (CV.ev q3)=cn (b.take 32):=by
    refine fK 32 0 _ hxl fun i z hz=>?_
    rw[List.getElem?_take]at hz
    split at hz
    ·rw[ai,ai,G3.h 6 (by omega),G3.i 5 (by omega),G3.i 6 (by omega),Nat.zero_add]
     exact hc _ _ hz
    ·cases hz
   rw[hrom]
   refine⟨yI hxl,fun q4 g4 ⟨F4,hp4,_,_⟩ q5 g5 _=>?_⟩
   have hp4:Value.agg (List.map (CV.ev q4) (al 12 gZ)).toArray=Value.agg (oL (de (.agg (cn (b.take 32)).toArray))).toArray:=hp4
   rw[ma]at hp4
   have hp4:List.map (CV.ev q4) (al 12 gZ)=oL (b.take 32):=by simpa using hp4
   have i12:q4.i 12=cY ((b.take 32).take 8):=by
    have:=congrArg (fun l=>l[0]?) hp4
    simpa [gZ,al,Ck.cv,CV.ev,oL,ai] using this
   have i13:q4.i 13=cY (((b.take 32).drop 8).take 8):=by
    have:=congrArg (fun l=>l[1]?) hp4
    simpa [gZ,al,Ck.cv,CV.ev,oL,ai,Ck.len] using this
   have G5:ae 10 q1 q5:=(G3.trans (g4.mono (by omega))).trans (g5.mono (by omega))
   have j12:q5.i 12=cY ((b.take 32).take 8):=by rw[g5.i 12 (by omega),i12]
   have j13:q5.i 13=cY (((b.take 32).drop 8).take 8):=by rw[g5.i 13 (by omega),i13]
   have heq:bo q5 uN=true↔b.take 32=b.drop 32:=by
    unfold uN
    rw[Ae]
    have ex:∀ i:Nat,i≤31→ak q5 (.hI 6 (.var 5) (.var 6) i)=b.getD i 0∧ak q5 (.hI 6 (.var 5) ti i)=b.getD (32+i) 0:=by
     intro i hi
     rw[aV,aV,ai,ai,eY q5 G5,G5.i 5 (by omega),G5.i 6 (by omega),G5.h 6 (by omega)]
     rw[hc i _ (List.getElem?_eq_getElem (by omega)),show(q1.i 6+32).toNat+i=(q1.i 6).toNat+(32+i)by omega,hc (32+i) _ (List.getElem?_eq_getElem (by omega))]
     simp only[List.getD_eq_getElem?_getD]
     rw[List.getElem?_eq_getElem (by omega),List.getElem?_eq_getElem (by omega)]
     exact⟨rfl,rfl⟩
    constructor
    ·intro h
     apply List.ext_getElem?
     intro j
     rcases Nat.lt_or_ge j 32 with hj | hj
     ·have:=h j (by omega) (by omega)
      rw[(ex j (by omega)).1,(ex j (by omega)).2]at this
      rw[List.getElem?_take_of_lt hj,List.getElem?_drop,List.getElem?_eq_getElem (by omega),List.getElem?_eq_getElem (by omega)]
      simp only[List.getD_eq_getElem?_getD]at this
      rw[List.getElem?_eq_getElem (by omega),List.getElem?_eq_getElem (by omega)]at this
      exact congrArg some this
     ·rw[List.getElem?_eq_none (by rw[List.length_take];omega),List.getElem?_eq_none (by rw[List.length_drop];omega)]
    ·intro h i _ hi
     rw[(ex i (by omega)).1,(ex i (by omega)).2]
     have this:(b.take 32)[i]?=(b.drop 32)[i]?:=congrArg (fun l=>l[i]?) h
     rw[List.getElem?_take_of_lt (by omega),List.getElem?_drop]at this
     rw[List.getD_eq_getElem?_getD,List.getD_eq_getElem?_getD,this]
   rw[heq,pF,ai,ah,j12,j13,g5.i 1 (by omega),g4.i 1 (by omega),g3.i 1 (by omega),g2.i 1 (by omega),g1.i 1 (by omega),g0.i 1 (by omega),v1]
   rw[g5.i 0 (by omega),g4.i 0 (by omega),g3.i 0 (by omega),g2.i 0 (by omega),g1.i 0 (by omega),g0.i 0 (by omega),v0]
   rw[g5.h 2 (by omega),g4.h 2 (by omega),g3.h 2 (by omega),g2.h 2 (by omega),g1.h 2 (by omega),g0.h 2 (by omega),w2,Int.toNat_natCast,t2,c2]
   have hw:IntKind.u64.wrap (fg (some (.int .i64 L.most)))=L.most:=by show IntKind.u64.wrap L.most=_;exact wrap_u64 m0 (by omega)
   rw[hw]
   have hl:aM D' L.frm L.most place=if m5 b L.most place then(oK (b.take 32),0)else(fa,0):=by
    unfold aM
    rw[if_neg (by rw[←h9];simp),←hb]
   refine⟨fun h1=>zero q5 _ _ _ G5 (by rw[hl,if_neg fun h=>h1 h.1]) (ah _ _),fun h1=>⟨fun h2=>zero q5 _ _ _ G5 (by rw[hl,if_neg fun h=>h2 h.2.1]) (ah _ _),fun h2=>⟨rfl,fun(h3:L.most<cY (((b.take 32).drop 8).take 8))=>zero q5 _ _ _ G5 (by rw[hl,if_neg fun h=>Int.not_le.2 h3 h.2.2]) (ah _ _),fun(h3:¬L.most<cY (((b.take 32).drop 8).take 8))=>?_⟩⟩⟩
   refine out q5 _ _ (oK (b.take 32)) 0 ⟨fun k=>if k=18 then 0 else q5.i (12+k),fun _=>false,fun _=>.empty,fun _=>.tuple #[],fun _=>Hl.none⟩ G5 (by rw[hl,if_pos ⟨h1,h2,Int.not_lt.1 h3⟩]) ?_ ?_
   ·rfl
   ·show Value.tuple #[Value.agg (List.map (CV.ev q5) (al 12 gZ)).toArray,_]=_
    have e5:List.map (CV.ev q5) (al 12 gZ)=List.map (CV.ev q4) (al 12 gZ):=CV.dJ (g5.mono (by decide)) _ (cr gZ 12)
    rw[e5,hp4]
    rfl
end Go.Proofs.YtomdimlnggpgbaaGreatDoor.D
