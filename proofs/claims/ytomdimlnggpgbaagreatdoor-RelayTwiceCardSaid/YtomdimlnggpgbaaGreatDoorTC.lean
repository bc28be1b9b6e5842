/- RelayTwice. -/
import Derived.Orders
import Derived.Test.YtomdimlnggpgbaaGreatDoorRows
import Derived.MapKept
import Derived.Test.YtomdimlnggpgbaaGreatDoorTB
set_option linter.all false
namespace Go.Sx
open Go
def IT (o:Oper):List Nat:=(o.after.toList.filter fun e=>Region.binds .any e).map (·.on)
def gx (ops:List Oper) (i:Nat):List Nat:=match ops[i]? with
 | some o=>IT o
 | none=>[]
def Ss:List Oper->List (List Nat)->List (List Nat)
 | [],acc=>acc
 | o::l,acc=>Ss l (acc++[((IT o)++(IT o).flatMap fun e=>acc.getD e []).eraseDups])
def lE (ops:List Oper) (A:List (List Nat)):Bool :=
 (List.range ops.length).all fun i=>((A.getD i []).all fun j=>(gx ops i).contains j||(gx ops i).any fun e=>(A.getD e []).contains j)&&(gx ops i).all fun e=>decide (e<i)
def fo (ops:List Oper) (i:Nat):Option Tmp:=(ops[i]?).bind (·.dst)
def dj (ops:List Oper) (i:Nat):Bool:=match ops[i]? with
 | some o=>match o.op,o.guard,o.dst with
  | .alloc _,none,some _=>(IT o).isEmpty
  | _,_,_=>false
 | none=>false
def NL:CV->CV->Bool
 | .int k e,.int k' e'=>decide (k=k')&&decide (e=e')
 | .bool e,.bool e'=>decide (e=e')
 | .str e,.str e'=>decide (e=e')
 | .pti a o s n i,.pti a' o' s' n' i'=>a==a'&&o==o'&&s==s'&&n==n'&&decide (i=i')
 | .hptr x y,.hptr x' y'=>decide (x=x')&&decide (y=y')
 | .sl x y l c,.sl x' y' l' c'=>decide (x=x')&&decide (y=y')&&decide (l=l')&&decide (c=c')
 | .map x,.map x'=>decide (x=x')
 | .vr j,.vr k=>j==k
 | .hv h x y j,.hv h' x' y' j'=>h==h'&&decide (x=x')&&decide (y=y')&&j==j'
 | .val v,.val v'=>DJ v v'
 | _,_=>false
theorem Hg {a b:CV} (h:NL a b=true):a=b:=by
 unfold NL at h;split at h<;>(try simp only[Zg,Zc,abT]at h)<;>first | (cases h;done) | skip
 .obtain⟨rfl,rfl⟩:=h;rfl
 .rw[h]
 .rw[h]
 .obtain⟨⟨⟨⟨rfl,rfl⟩,rfl⟩,rfl⟩,rfl⟩:=h;rfl
 .obtain⟨rfl,rfl⟩:=h;rfl
 .obtain⟨⟨⟨rfl,rfl⟩,rfl⟩,rfl⟩:=h;rfl
 .rw[h]
 .rw[h]
 .obtain⟨⟨⟨rfl,rfl⟩,rfl⟩,rfl⟩:=h;rfl
 .rw[xN h]
def Qz {α:Type} (f:α->α->Bool):List α->List α->Bool
 | [],[]=>true
 | a::l,b::m=>f a b&&Qz f l m
 | _,_=>false
theorem EI {α:Type} {f:α->α->Bool} (hf:∀ a b,f a b=true->a=b):∀ {l m:List α},Qz f l m=true->l=m
 | [],[],_=>rfl
 | a::l,b::m,h=>by
  simp only[Qz,Zg]at h;rw[hf a b h.1,EI hf h.2]
 | [],_::_,h=>by simp [Qz]at h
 | _::_,[],h=>by simp [Qz]at h
def Hj:SV->SV->Bool
 | .one a,.one b=>NL a b
 | .agg l,.agg m=>Qz NL l m
 | _,_=>false
theorem Ct {a b:SV} (h:Hj a b=true):a=b:=by
 unfold Hj at h;split at h
 .rw[Hg h]
 .rw[EI (fun _ _=>Hg) h]
 .cases h
def QB:TV->TV->Bool
 | .sv a,.sv b=>Hj a b
 | .tup l,.tup m=>Qz Hj l m
 | _,_=>false
theorem NM {a b:TV} (h:QB a b=true):a=b:=by
 unfold QB at h;split at h
 .rw[Ct h]
 .rw[EI (fun _ _=>Ct) h]
 .cases h
def U2:Option TV->Option TV->Bool
 | some a,some b=>QB a b
 | none,none=>true
 | _,_=>false
theorem QA {a b:Option TV} (h:U2 a b=true):a=b:=by
 unfold U2 at h;split at h
 .rw[NM h]
 .rfl
 .cases h
def fl (P:Program) (ops:List Oper) (s:St) (o:Oper):Option (E×Option TV) :=
 match sC ops s o with
 | none=>none
 | some none=>(quiet P s o.op).map fun r=>(r.1,some r.2)
 | some (some (e,want))=>match known s.path e with
  | some b=>if b=want then(quiet P s o.op).map fun r=>(r.1,some r.2)else some (.tt,some BC)
  | none=>none
def D8 (ops:List Oper) (A:List (List Nat)) (i:Nat) (st:St):St :=
 let hid:=(List.range ops.length).filterMap fun j=>if(A.getD i []).contains j then none else fo ops j
 {st with tmps:=nZ (fun t v=>match v with | none=>none | some u=>if hid.contains t then none else some u) 0 st.tmps}
structure uv where
 i:Nat
 snap:St
 n:E
 v:Option TV
structure Dr where
 st:St
 done:List Nat
 late:List uv
def SS (P:Program) (ops:List Oper) (A:List (List Nat)) (D:Dr):Option Nat :=
 (List.range ops.length).find? fun i=>!D.done.contains i&&!dj ops i&&(gx ops i).all D.done.contains&&match ops[i]? with
  | some o=>(fl P ops (D8 ops A i D.st) o).isSome
  | none=>false
def Xz (ops:List Oper) (A:List (List Nat)) (D:Dr) (i:Nat):Option E :=
 match ops[i]? with
 | some o=>match sC ops (D8 ops A i D.st) o with
  | some (some (e,_))=>match known D.st.path e with
   | none=>some e
   | _=>none
  | _=>none
 | none=>none
def SU (ops:List Oper) (A:List (List Nat)) (D:Dr):Option E :=
 (List.range ops.length).findSome? fun i=>if !D.done.contains i&&!dj ops i&&(gx ops i).all D.done.contains then Xz ops A D i else none
def tw (ops:List Oper) (D:Dr):List Nat :=
 (List.range ops.length).filter fun i=>!D.done.contains i&&!dj ops i&&(gx ops i).all fun e=>D.done.contains e||dj ops e
def uv.upto (n:Nat) (f:uv):Bool:=f.snap.tmps.all (Mg (·.upto n))&&f.snap.path.all (·.upto n)&&f.n.upto n
def Dr.upto (D:Dr):Bool:=D.st.upto D.st.nv&&D.late.all (uv.upto D.st.nv)
def tf (ops:List Oper) (s:St) (o:Oper):Bool :=
 match sC ops s o with
 | some none=>true
 | some (some (e,want))=>known s.path e==some want
 | none=>false
def yW (P:Program) (ops:List Oper) (mem:Mem) (f:uv):Bool :=
 match ops[f.i]? with
 | some o=>match fl P ops {f.snap with mem:=mem} o with
  | some (n,v)=>decide (n=f.n)&&U2 v f.v
  | none=>false
 | none=>false
def rm (P:Program) (ops:List Oper) (D:Dr) (j:Nat):Option Dr :=
 match ops[j]? with
 | some o=>match o.op,o.dst with
  | .alloc t,some d=>match kl P t with
   | some z=>if D.upto&&dj ops j&&D.late.all (yW P ops (D.st.mem++[.bD D.st.nv (z.cells.toList.map gk) t]))then
    some ⟨({D.st with mem:=D.st.mem++[.bD D.st.nv (z.cells.toList.map gk) t],nv:=D.st.nv+1} : St).put (some d) (some (TP (.var D.st.nv) (.lit 0))),j::D.done,D.late⟩
    else none
   | none=>none
  | _,_=>none
 | none=>none
def XX (mem mem':Mem):Bool:=mem'.all fun r=>match r with
 | .ro k _ _=>mem.any fun s=>match s with
  | .ro k' _ _=>k==k'
  | _=>false
 | _=>true
def An (P:Program) (Γ:List Spec) (ops:List Oper) (A:List (List Nat)) (D:Dr) (c:Nat):Option (Dr×XR) :=
 match ops[c]? with
 | some o =>
  let s:=D8 ops A c D.st
  if tf ops s o then match NP P Γ s o with
   | some R =>
    let late:=D.late.filter fun f=>!(A.getD c []).contains f.i
    if D.upto&&decide (D.st.nv<=R.st.nv)&&XX D.st.mem R.st.mem&&late.all (yW P ops R.st.mem)then
     some (⟨({D.st with mem:=R.st.mem,nv:=R.st.nv} : St).put o.dst (match o.dst with | some d=>R.st.tmps.getD d none | none=>none),c::D.done,late⟩,R)
    else none
   | none=>none
  else none
 | none=>none
def Pv (ops:List Oper) (A:List (List Nat)) (c:Nat):Bool:=(List.range ops.length).all fun i=>i==c||(A.getD c []).contains i
def se (ops:List Oper) (A:List (List Nat)):List Nat->Bool
 | []=>true
 | r::l=>decide (r<ops.length)&&!l.contains r&&((List.range ops.length).all fun i=>i==r||l.contains i||(A.getD r []).contains i)&&se ops A l
def MB (ops:List Oper) (A:List (List Nat)) (c:Nat):List Nat:=(List.range ops.length).filter fun i=>!(i==c)&&!(A.getD c []).contains i
def OV (P:Program) (Γ:List Spec) (ex:Ex) (d:Nat) (ops:List Oper):List Nat->St->(St->Option Nd)->Option Nd
 | [],st,k=>k st
 | r::l,st,k=>match ops[r]? with
  | some o=>if tf ops st o then r9 P Γ ex d o st fun s=>if st.nv<=s.nv then OV P Γ ex d ops l s k else none else none
  | none=>none
def GQ:List (Option Nd)->Option Nd
 | []=>some .tt
 | some a::l=>(GQ l).map (nu a)
 | none::_=>none
def Q3 (P:Program) (ops:List Oper) (A:List (List Nat)) (D:Dr) (c:Nat):Option (Dr×X) :=
 match ops[c]? with
 | some o=>match zc P (D8 ops A c D.st) o with
  | some (s,x)=>if D.upto&&D.late.all (yW P ops s.mem)then some ({D with st:={D.st with mem:=s.mem,nv:=s.nv}},x)else none
  | none=>none
 | none=>none
def nk (P:Program) (Γ:List Spec) (ex:Ex) (d:Nat) (ops:List Oper) (A:List (List Nat)):Nat->Dr->(St->Option Nd)->Option Nd
 | 0,_,_=>none
 | m+1,D,k =>
  match SS P ops A D with
  | some i=>match ops[i]? with
   | some o =>
    let s:=D8 ops A i D.st
    match fl P ops s o with
    | some (n,v) =>
     let cs:=CU D.st.path n
     (nk P Γ ex d ops A m ⟨({D.st with path:=cs++D.st.path} : St).put o.dst v,i::D.done,⟨i,s,n,v⟩::D.late⟩ k).map (ru cs)
    | none=>none
   | none=>none
  | none=>match SU ops A D with
   | some e=>match nk P Γ ex d ops A m {D with st:={D.st with path:=e::D.st.path}} k,nk P Γ ex d ops A m {D with st:={D.st with path:=mkNot e::D.st.path}} k with
    | some a,some b=>some (nu (tM e a) (tM (mkNot e) b))
    | _,_=>none
   | none=>match tw ops D with
    | []=>match(List.range ops.length).find? fun i=>!D.done.contains i with
     | none=>k D.st
     | some j=>match rm P ops D j with
      | some D'=>(nk P Γ ex d ops A m D' k).map fun nd=>.ext (.alloc D.st.nv) nd
      | none=>none
    | [c]=>match(gx ops c).find? fun e=>!D.done.contains e with
     | some j=>match rm P ops D j with
      | some D'=>(nk P Γ ex d ops A m D' k).map fun nd=>.ext (.alloc D.st.nv) nd
      | none=>none
     | none=>match Q3 P ops A D c with
      | some (D',x)=>(nk P Γ ex d ops A m D' k).map fun nd=>.ext x nd
      | none=>match An P Γ ops A D c with
      | some (D',R)=>(nk P Γ ex d ops A m D' k).map fun nd=>nu R.need (match R.x with | some x=>.ext x nd | none=>nd)
      | none=>match ops[c]? with
       | some o=>if tf ops (D8 ops A c D.st) o&&Pv ops A c then r9 P Γ ex d o (D8 ops A c D.st) k else if tf ops (D8 ops A c D.st) o&&se ops A (c::MB ops A c)then r9 P Γ ex d o (D8 ops A c D.st) fun s=>if D.st.nv<=s.nv then OV P Γ ex d ops (MB ops A c) s k else none else none
       | none=>none
    | c1::c2::cs=>if((c1::c2::cs).all fun c=>(gx ops c).all D.done.contains)=true then
     GQ ((c1::c2::cs).map fun c=>match An P Γ ops A D c with
      | some (D',R)=>(nk P Γ ex d ops A m D' k).map fun nd=>nu R.need (match R.x with | some x=>.ext x nd | none=>nd)
      | none=>none)
     else none
def jT (ops:List Oper) (st:St):St :=
 let hid:=(List.range ops.length).filterMap fun j=>if dj ops j then fo ops j else none
 {st with tmps:=nZ (fun t v=>match v with | none=>none | some u=>if hid.contains t then none else some u) 0 st.tmps}
def sK:List (Option Tmp)->Bool
 | []=>true
 | none::l=>sK l
 | some t::l=>!l.contains (some t)&&sK l
def Nf (P:Program) (ops:List Oper):Bool:=ops.all fun o=>match o.op with
 | .alloc t=>(kl P t).isSome
 | _=>true
def dk (P:Program) (Γ:List Spec):Dk:=fun ex d ops st k =>
 let A:=Ss ops []
 if lE ops A&&sK (ops.map (·.dst))&&P.follows .mixedOrders&&Nf P ops then nk P Γ ex d ops A (3*ops.length+10) ⟨jT ops st,[],[]⟩ (fun s=>if st.nv<=s.nv then k s else none)else none
section
variable {P:Program} {C:Ctx} {S:Nat->Prop} {w0:World} {ρ ρ':Env} {ops:List Oper} {A:List (List Nat)} {D:Dr} {L:Array Bool} {pl:Nat->Nat} {a:Act} {w w':World}
theorem oO (hc:lE ops A=true) {i:Nat} (hi:i<ops.length):(∀ j∈A.getD i [],j∈gx ops i\/∃ e∈gx ops i,j∈A.getD e [])/\∀ e∈gx ops i,e<i:=by
 unfold lE at hc;rw[ZF]at hc;have:=hc i (ZQ.2 hi);simp only[Zg,ZF,aat,List.any_eq_true,Zc,aan]at this;exact this
theorem fW (hc:lE ops A=true) {p:Nat->Prop} (hp:∀ i,p i->∀ e∈gx ops i,p e):∀ i,i<ops.length->(∀ e∈gx ops i,p e)->∀ j∈A.getD i [],p j:=by
 intro i
 induction i using Nat.strongRecOn with
 | _ i ih =>
  intro hi he j hj;obtain⟨h1,h2⟩:=oO hc hi;rcases h1 j hj with h | ⟨e,hee,hje⟩
  .exact he j h
  .exact ih e (h2 e hee) (aci (h2 e hee) hi) (hp e (he e hee)) j hje
structure zY (P:Program) (ops:List Oper) (A:List (List Nat)) (ρ:Env) (D:Dr) (L:Array Bool) (a:Act) (f:uv):Prop where
 fl:∃ o,ops[f.i]?=some o/\Sx.fl P ops {f.snap with mem:=D.st.mem} o=some (f.n,f.v)
 need:bN ρ f.n=true
 path:Path ρ f.snap.path
 len:f.snap.tmps.length=D.st.tmps.length
 slots:∀ (t:Nat) u,f.snap.tmps[t]?=some (some u)->(∃ g∈D.late,L.getD g.i false=false/\fo ops g.i=some t/\g.i∈A.getD f.i [])\/a.tmps[t]?=some (u.ev ρ)
 hid:∀ (j:Nat) t,j<ops.length->fo ops j=some t->j∉A.getD f.i []->∀ u,f.snap.tmps[t]?≠some (some u)
 bG:∀ h∈D.late,h.i∈A.getD f.i []->∀ t u,fo ops h.i=some t->f.snap.tmps[t]?=some (some u)->h.v=some u
 sub:∀ j∈A.getD f.i [],j∈D.done
structure mq (P:Program) (S:Nat->Prop) (w0:World) (ops:List Oper) (A:List (List Nat)) (ρ:Env) (D:Dr) (L:Array Bool) (pl:Nat->Nat) (a:Act) (w:World):Prop where
 lsz:L.size=ops.length
 mem:MRel S w0 ρ D.st.mem w
 path:Path ρ D.st.path
 size:a.tmps.size=D.st.tmps.length
 defers:a.defers=[]
 slots:∀ (t:Nat) u,D.st.tmps[t]?=some (some u)->(∃ f∈D.late,L.getD f.i false=false/\fo ops f.i=some t)\/a.tmps[t]?=some (u.ev ρ)
 lsub:∀ i,L.getD i false=true->i∈D.done\/dj ops i=true
 dsub:∀ i∈D.done,L.getD i false=true\/∃ f∈D.late,f.i=i
 dlt:∀ i∈D.done,i<ops.length
 ldone:∀ f∈D.late,f.i∈D.done
 lval:∀ f∈D.late,∀ t u,fo ops f.i=some t->D.st.tmps[t]?=some (some u)->f.v=some u
 late:∀ f∈D.late,L.getD f.i false=false->zY P ops A ρ D L a f
 hid:∀ j,dj ops j=true->j∉D.done->∀ t u,fo ops j=some t->D.st.tmps[t]?≠some (some u)
 early:∀ j,L.getD j false=true->j∉D.done->∃ o t z d,ops[j]?=some o/\o.op=.alloc t/\kl P t=some z/\o.dst=some d/\(d<a.tmps.size->a.tmps[d]?=some (.pointer (some ⟨pl j,0,none⟩))) /\
  w.heap[pl j]?=some (.cells z.cells t (0,0))/\w0.heap.size<=pl j/\∀ r∈D.st.mem,¬(r.hl ρ).mem (pl j)
 inj:∀ j j',L.getD j false=true->j∉D.done->L.getD j' false=true->j'∉D.done->pl j=pl j'->j=j'
 closed:∀ i,L.getD i false=true->∀ e∈gx ops i,L.getD e false=true
 dclosed:∀ i∈D.done,∀ e∈gx ops i,e∈D.done
def BW (ops:List Oper):Prop:=∀ (i j:Nat) t,fo ops i=some t->fo ops j=some t->i=j
theorem Iv:∀ {l:List Oper},sK (l.map (·.dst))=true->BW l
 | [],_,i,j,t,h,_=>by simp [fo]at h
 | o::l,hn,i,j,t,hi,hj=>by
  have hl:sK (l.map (·.dst))=true/\∀ t,o.dst=some t->some t∉l.map (·.dst):=by
   simp only[Zf]at hn;unfold sK at hn;split at hn
   .cases ‹_::_=[]›
   .rename_i heq;simp only[Ze]at heq;obtain⟨h1,h2⟩:=heq;subst h2;exact⟨hn,fun t ht=>by rw[h1]at ht;cases ht⟩
   .rename_i t' l' heq;simp only[Ze]at heq;obtain⟨h1,h2⟩:=heq;subst h2;simp only[Zg,aaf,aaM,Z4]at hn;exact⟨hn.2,fun t ht=>by rw[h1]at ht;cases ht;exact hn.1⟩
  have ih:=Iv hl.1;have nm:∀ (k:Nat),fo l k=some t->some t∈l.map (·.dst):=fun k hk=>by
   unfold fo at hk;cases ho:l[k]? with
   | none=>simp [ho]at hk
   | some o'=>simp only[ho,aaQ]at hk;exact ZV.2 ⟨o',Zb ho,hk⟩
  cases i with
  | zero =>
   cases j with
   | zero=>rfl
   | succ j=>exact absurd (nm j (by simpa [fo] using hj)) (hl.2 t (by simpa [fo] using hi))
  | succ i =>
   cases j with
   | zero=>exact absurd (nm i (by simpa [fo] using hi)) (hl.2 t (by simpa [fo] using hj))
   | succ j=>rw[ih i j t (by simpa [fo] using hi) (by simpa [fo] using hj)]
theorem Cx (hi:∀ j:Nat,True) (L:Array Bool) (i j:Nat):(L.setIfInBounds i true).getD j false=if i=j/\i<L.size then true else L.getD j false:=by
 by_cases h:i=j
 .subst h;by_cases hs:i<L.size
  .simp [hs]
  .simp [hs,abr (show L.size<=i by omega)]
 .simp [h,aaw h]
def GL (ops:List Oper) (L:Array Bool):Nat:=(List.range ops.length).countP fun i=>!L.getD i false
theorem countP_set (L:Array Bool) {i:Nat} (hi:i<L.size) (hf:L.getD i false=false):∀ (l:List Nat),l.Nodup->(l.countP fun j=>!(L.setIfInBounds i true).getD j false)+(if i∈l then 1 else 0)=l.countP fun j=>!L.getD j false
 | [],_=>by simp
 | x::l,hn=>by
  rw[List.nodup_cons]at hn;have ih:=countP_set L hi hf l hn.2;have e:∀ j,(L.setIfInBounds i true).getD j false=if i=j then true else L.getD j false:=fun j=>by rw[Cx (fun _=>trivial)];simp [hi]
  simp only[List.countP_cons,e,Zl];simp only[e]at ih;by_cases hx:i=x
  .subst hx;have:i∉l:=hn.1;simp only[this,aaG,Zp]at ih;simp only[ZG,hf,true_or,Bool.not_true,Bool.not_false,Z5,aaG];omega
  .simp only[hx,aaG,false_or];omega
theorem sg {i:Nat} (hs:L.size=ops.length) (hi:i<ops.length) (hf:L.getD i false=false):GL ops (L.setIfInBounds i true)+1=GL ops L:=by
 have:=countP_set L (by omega) hf (List.range ops.length) List.nodup_range;rw[ZA (ZQ.2 hi)]at this;exact this
theorem ml (h:GL ops L=0) {i:Nat} (hi:i<ops.length):L.getD i false=true:=by
 unfold GL at h;rw[List.countP_eq_zero]at h;simpa using h i (ZQ.2 hi)
theorem dw (hs:L.size=ops.length) {i:Nat} : i∈Region.ready .any ops.toArray L↔i<ops.length/\L.getD i false=false/\∀ e∈gx ops i,L.getD e false=true:=by
 rw[mem_ready];constructor
 .rintro⟨h0,o,ho,he⟩;have ho:ops[i]?=some o:=by simpa using ho
  have hlt:=(Zi.1 ho).1;refine⟨hlt,?_,fun e hee=>?_⟩
  .have:i<L.size:=by omega
   simpa [this] using h0
  .unfold gx at hee;simp only[ho,IT]at hee;obtain⟨x,hx,rfl⟩:=ZV.1 hee;rw[aaj]at hx;exact he x (by simpa using hx.1) hx.2
 .rintro⟨hlt,h0,he⟩;refine⟨?_,ops[i],by simp [hlt],fun e hee hb=>?_⟩
  .have:i<L.size:=by omega
   simpa [this] using h0
  .apply he;unfold gx;rw[Y8 hlt];simp only[IT];exact ZV.2 ⟨e,aaj.2 ⟨by simpa using hee,hb⟩,rfl⟩
theorem gN (hc:lE ops A=true) (hs:L.size=ops.length) (hr:Region.ready .any ops.toArray L=[]):∀ i,i<ops.length->L.getD i false=true:=by
 intro i
 induction i using Nat.strongRecOn with
 | _ i ih =>
  intro hi;cases h:L.getD i false with
  | true=>rfl
  | false =>
   exfalso;have:i∈Region.ready .any ops.toArray L:=(dw hs).2 ⟨hi,h,fun e he=>ih e ((oO hc hi).2 e he) (aci ((oO hc hi).2 e he) hi)⟩;rw[hr]at this;cases this
theorem NR {s:St} {o:Oper} {i:Nat} {n:E} {v:Option TV} {K:Act->World->Prop} {Q:Exit->Act->World->Prop} (hA:Rel S w0 ρ s a w) (ho:ops[i]?=some o) (h:fl P ops s o=some (n,v)) (hn:bN ρ n=true)
 (hK:∀ x,(∀ u,v=some u->x=u.ev ρ)->K (a.put o.dst x) w):wpOp P ops.toArray Q i K a w:=by
 unfold wpOp;have:ops.toArray[i]?=some o:=by simpa using ho
 rw[this];simp only;unfold fl at h;split at h
 .cases h
 .rename_i hg;simp only[Zk,Z0]at h;obtain⟨⟨n',u⟩,hq,rfl,rfl⟩:=h;have hw:=gS hA hg;rw[hw];simp only[zT,ZG];exact Or.inl (eV (oi hA hq hn) (hK _ (fun y hy=>by cases hy;rfl)))
 .rename_i e want hg;have hw:Region.wanted o (yielded ops.toArray a.tmps)=(bN ρ e==want):=gS hA hg;split at h
  .rename_i b hkn;rw[fi hA.path hkn]at hw;split at h
   .rename_i hbw;simp only[Zk,Z0]at h;obtain⟨⟨n',u⟩,hq,rfl,rfl⟩:=h;rw[hw,ZA (by simpa using hbw)];exact Or.inl (eV (oi hA hq hn) (hK _ (fun y hy=>by cases hy;rfl)))
   .rename_i hbw;cases h;rw[hw,Zo (by simpa using hbw)];exact hK _ (fun y hy=>by cases hy;rfl)
  .cases h
theorem iU (a:Act) (d:Option Tmp) (x:Value) (t:Nat):(a.put d x).tmps[t]?=if d=some t/\t<a.tmps.size then some x else a.tmps[t]?:=by
 cases d with
 | none=>simp [Act.put]
 | some d =>
  by_cases h:d=t
  .subst h;by_cases hs:d<a.tmps.size
   .simp [Act.put,hs]
   .simp [Act.put,hs,abr (Nat.le_of_not_lt hs)]
  .simp [Act.put,h,aaw h]
theorem s7 (st:St) (d:Option Tmp) (v:Option TV) (t:Nat):(st.put d v).tmps[t]?=if d=some t/\t<st.tmps.length then some v else st.tmps[t]?:=by
 cases d with
 | none=>simp [St.put]
 | some d =>
  by_cases h:d=t
  .subst h;by_cases hs:d<st.tmps.length
   .simp [St.put,hs]
   .simp [St.put,hs,Zv (Nat.le_of_not_lt hs)]
  .simp [St.put,h,aab h]
theorem iN (st:St) (d:Option Tmp) (v:Option TV):(st.put d v).tmps.length=st.tmps.length:=by cases d<;>simp [St.put]
theorem uT {i:Nat} {st:St} {t:Nat} {u:TV} (h:(D8 ops A i st).tmps[t]?=some (some u)):st.tmps[t]?=some (some u)/\∀ j,j<ops.length->fo ops j=some t->j∈A.getD i []:=by
 unfold D8 at h;simp only[mN,Zk]at h;obtain⟨v,hv,he⟩:=h;split at he
 .cases he
 split at he
 .cases he
 .rename_i hc;cases he;refine⟨hv,fun j hj hd=>?_⟩;by_cases hm:j∈A.getD i []
  .exact hm
  .exfalso;apply hc;rw[aan,List.mem_filterMap];refine⟨j,ZQ.2 hj,?_⟩;rw[Zo (by rw[aan];exact hm)];exact hd
theorem Iw {i:Nat} {st:St} : (D8 ops A i st).tmps.length=st.tmps.length:=by simp [D8]
end
section
variable {P:Program} {C:Ctx} {S:Nat->Prop} {w0:World} {ρ ρ':Env} {ops:List Oper} {A:List (List Nat)} {D D':Dr} {L:Array Bool} {pl:Nat->Nat} {a:Act} {w w':World}
theorem iX {i:Nat} {o:Oper} (ho:ops[i]?=some o):fo ops i=o.dst:=by simp [fo,ho]
theorem vC {i t:Nat} (h:fo ops i=some t):i<ops.length:=by
 unfold fo at h;cases ho:ops[i]? with
 | none=>simp [ho]at h
 | some o=>exact(Zi.1 ho).1
theorem jg {L:Array Bool} {i j:Nat} (hi:i<L.size):(L.setIfInBounds i true).getD j false=if i=j then true else L.getD j false:=by
 rw[Cx (fun _=>trivial)];simp [hi]
theorem mq.Mz (h:mq P S w0 ops A ρ D L pl a w) (hc:lE ops A=true) {f:uv} (hf:f∈D.late) (hL:L.getD f.i false=false) (hr:∀ e∈gx ops f.i,L.getD e false=true) :
 Rel S w0 ρ {f.snap with mem:=D.st.mem} a w:=by
 have hl:=h.late f hf hL;have hlt:=h.dlt _ (h.ldone f hf);have hanc:=fW hc (p:=fun i=>L.getD i false=true) h.closed f.i hlt hr;refine⟨h.mem,by rw[h.size,<-hl.len],h.defers,fun t v hv=>?_,hl.path⟩;rcases hl.slots t v hv with ⟨g,_,hg,_,hga⟩ | hv'
 .have:=hanc _ hga;rw[hg]at this;cases this
 .exact hv'
theorem mq.Bo (h:mq P S w0 ops A ρ D L pl a w) (hc:lE ops A=true) {i:Nat} (hi:i<ops.length) (hr:∀ e∈gx ops i,L.getD e false=true):Rel S w0 ρ (D8 ops A i D.st) a w:=by
 have hanc:=fW hc (p:=fun i=>L.getD i false=true) h.closed i hi hr;refine⟨h.mem,by rw[h.size,Iw],h.defers,fun t v hv=>?_,h.path⟩;obtain⟨h1,h2⟩:=uT hv;rcases h.slots t v h1 with ⟨g,hg,hgl,hgd⟩ | hv'
 .have:=hanc _ (h2 _ (vC hgd) hgd);rw[hgl]at this;cases this
 .exact hv'
theorem mq.LF (h:mq P S w0 ops A ρ D L pl a w) (hu:BW ops) {f:uv} (hf:f∈D.late) {o:Oper} (ho:ops[f.i]?=some o) (hL:L.getD f.i false=false) (hr:∀ e∈gx ops f.i,L.getD e false=true)
 {x:Value} (hx:∀ u,f.v=some u->x=u.ev ρ):mq P S w0 ops A ρ D (L.setIfInBounds f.i true) pl (a.put o.dst x) w:=by
 have hlt:f.i<ops.length:=(Zi.1 ho).1;have hs:∀ j,(L.setIfInBounds f.i true).getD j false=if f.i=j then true else L.getD j false:=fun j=>jg (by rw[h.lsz];exact hlt)
 have hd:=iX ho;have hsz:(a.put o.dst x).tmps.size=a.tmps.size:=by cases o.dst<;>simp [Act.put]
 refine⟨by simp [h.lsz],h.mem,h.path,by rw[hsz];exact h.size,by cases o.dst<;>exact h.defers,?_,?_,?_,h.dlt,h.ldone,h.lval,?_,h.hid,?_,?_,?_,h.dclosed⟩
 .intro t u ht;have hlen:t<a.tmps.size:=by rw[h.size];exact(Zi.1 ht).1
  rw[iU];by_cases hdt:o.dst=some t
  .right;rw[ZA ⟨hdt,hlen⟩];rw[hx u (h.lval f hf t u (by rw[hd,hdt]) ht)]
  .rw[Zo (fun e=>hdt e.1)];rcases h.slots t u ht with ⟨g,hg,hgl,hgd⟩ | hv
   .left;refine⟨g,hg,?_,hgd⟩;rw[hs,Zo]
    .exact hgl
    .intro e;apply hdt;rw[<-hd,e];exact hgd
   .exact Or.inr hv
 .intro i hi;rw[hs]at hi;split at hi
  .rename_i e;subst e;exact Or.inl (h.ldone f hf)
  .exact h.lsub i hi
 .intro i hi;rcases h.dsub i hi with h1 | h1
  .left;rw[hs];split
   .rfl
   .exact h1
  .exact Or.inr h1
 .intro g hg hgl;rw[hs]at hgl;split at hgl
  .cases hgl
  .rename_i hne;have hl:=h.late g hg hgl;refine⟨hl.fl,hl.need,hl.path,hl.len,fun t u ht=>?_,hl.hid,hl.bG,hl.sub⟩;have hlen:t<a.tmps.size:=by rw[h.size,<-hl.len];exact(Zi.1 ht).1
   rw[iU];by_cases hdt:o.dst=some t
   .right;rw[ZA ⟨hdt,hlen⟩];have hm:f.i∈A.getD g.i []:=by
     by_cases hm:f.i∈A.getD g.i []
     .exact hm
     .exact absurd ht (hl.hid f.i t hlt (by rw[hd,hdt]) hm u)
    rw[hx u (hl.bG f hf hm t u (by rw[hd,hdt]) ht)]
   .rw[Zo (fun e=>hdt e.1)];rcases hl.slots t u ht with ⟨g',hg',hgl',hgd',hga'⟩ | hv
    .left;refine⟨g',hg',?_,hgd',hga'⟩;rw[hs,Zo]
     .exact hgl'
     .intro e;apply hdt;rw[<-hd,e];exact hgd'
    .exact Or.inr hv
 .intro j hj hjd;have hne:f.i≠j:=fun e=>hjd (e▸h.ldone f hf);rw[hs,Zo hne]at hj;obtain⟨o',t,z,d,h1,h2,h3,h4,h5,h6⟩:=h.early j hj hjd;refine⟨o',t,z,d,h1,h2,h3,h4,fun hds=>?_,h6⟩;rw[iU,Zo]
  .exact h5 (by rw[hsz]at hds;exact hds)
  .rintro⟨e,_⟩;exact hne (hu _ _ d (by rw[hd,e]) (by rw[iX h1,h4]))
 .intro j j' hj hjd hj' hjd';rw[hs,Zo (show ¬f.i=j from fun e=>hjd (e▸h.ldone f hf))]at hj;rw[hs,Zo (show ¬f.i=j' from fun e=>hjd' (e▸h.ldone f hf))]at hj';exact h.inj j j' hj hjd hj' hjd'
 .intro i hi e he;rw[hs];split
  .rfl
  .rw[hs]at hi;split at hi
   .rename_i e1;subst e1;exact hr e he
   .exact h.closed i hi e he
theorem nR {j:Nat} (h:dj ops j=true):∃ o t d,ops[j]?=some o/\o.op=.alloc t/\o.dst=some d/\o.guard=none/\gx ops j=[]:=by
 unfold dj at h;split at h
 .rename_i o ho;split at h
  .rename_i t d h1 h2 h3;exact⟨o,t,d,ho,h1,h3,h2,by unfold gx;rw[ho];simpa using h⟩
  .cases h
 .cases h
theorem mq.ID (h:mq P S w0 ops A ρ D L pl a w) (hu:BW ops) {j:Nat} (hj:dj ops j=true) (hjd:j∉D.done) (hL:L.getD j false=false) {o:Oper} {t:TypeId} {d:Tmp} {z:Value} (ho:ops[j]?=some o) (hop:o.op=.alloc t) (hdst:o.dst=some d) (hz:kl P t=some z) :
 mq P S w0 ops A ρ D (L.setIfInBounds j true) (fun k=>if k=j then w.heap.size else pl k) (a.put o.dst (.pointer (some ⟨w.heap.size,0,none⟩))) (w.alloc (.cells z.cells t)):=by
 have hlt:j<ops.length:=(Zi.1 ho).1;have hs:∀ k,(L.setIfInBounds j true).getD k false=if j=k then true else L.getD k false:=fun k=>jg (by rw[h.lsz];exact hlt)
 have hd:=iX ho;have hsz:(a.put o.dst (.pointer (some ⟨w.heap.size,0,none⟩))).tmps.size=a.tmps.size:=by cases o.dst<;>simp [Act.put]
 have hbel:RowKit.Below w.heap.size w (w.alloc (.cells z.cells t)):=(RowKit.Below.refl _ _).alloc (ZB _) _;refine⟨by simp [h.lsz],h.mem.below hbel,h.path,by rw[hsz];exact h.size,by rw[hdst];exact h.defers,?_,?_,?_,h.dlt,h.ldone,h.lval,?_,h.hid,?_,?_,?_,h.dclosed⟩
 .intro t' u ht;rw[iU];by_cases hdt:o.dst=some t'
  .exact absurd ht (h.hid j hj hjd t' u (by rw[hd,hdt]))
  .rw[Zo (fun e=>hdt e.1)];rcases h.slots t' u ht with ⟨g,hg,hgl,hgd⟩ | hv
   .left;refine⟨g,hg,?_,hgd⟩;rw[hs,Zo]
    .exact hgl
    .intro e;exact hjd (e▸h.ldone g hg)
   .exact Or.inr hv
 .intro i hi;rw[hs]at hi;split at hi
  .rename_i e;subst e;exact Or.inr hj
  .exact h.lsub i hi
 .intro i hi;rcases h.dsub i hi with h1 | h1
  .left;rw[hs];split
   .rfl
   .exact h1
  .exact Or.inr h1
 .intro g hg hgl;rw[hs]at hgl;split at hgl
  .cases hgl
  .have hl:=h.late g hg hgl;refine⟨hl.fl,hl.need,hl.path,hl.len,fun t' u ht=>?_,hl.hid,hl.bG,hl.sub⟩;rw[iU];by_cases hdt:o.dst=some t'
   .exact absurd ht (hl.hid j t' hlt (by rw[hd,hdt]) (fun hm=>hjd (hl.sub j hm)) u)
   .rw[Zo (fun e=>hdt e.1)];rcases hl.slots t' u ht with ⟨g',hg',hgl',hgd',hga'⟩ | hv
    .left;refine⟨g',hg',?_,hgd',hga'⟩;rw[hs,Zo]
     .exact hgl'
     .intro e;exact hjd (e▸h.ldone g' hg')
    .exact Or.inr hv
 .intro k hk dQ;rw[hs]at hk;by_cases hjk:j=k
  .subst hjk;refine⟨o,t,z,d,ho,hop,hz,hdst,?_,?_,?_,?_⟩
   .intro hds;simp only[ZG];rw[hsz]at hds;rw[iU,ZA ⟨hdst,hds⟩]
   .simp only[ZG];exact heap_alloc_new w _
   .simp only[ZG];exact h.mem.fz.size
   .intro r hr hm;simp only[ZG]at hm;have:=Hl.sub_lt (h.mem.sub r hr) hm;omega
  .rw[Zo hjk]at hk;obtain⟨o',t',z',d',h1,h2,h3,h4,h5,h6,h7,h8⟩:=h.early k hk dQ;have hkj:k≠j:=fun e=>hjk e.symm;refine⟨o',t',z',d',h1,h2,h3,h4,?_,?_,?_,?_⟩
   .intro hds;simp only[Zo hkj];rw[iU,Zo]
    .exact h5 (by rw[hsz]at hds;exact hds)
    .rintro⟨e,_⟩;exact hjk (hu _ _ d' (by rw[hd,e]) (by rw[iX h1,h4]))
   .simp only[Zo hkj];rw[heap_alloc_old w _ (ZU.1 h6).1];exact h6
   .simp only[Zo hkj];exact h7
   .simp only[Zo hkj];exact h8
 .intro k k' hk dQ hk' hkd' he;rw[hs]at hk hk';by_cases h1:k=j<;>by_cases h2:k'=j
  .rw[h1,h2]
  .rw[ZA h1,Zo h2]at he;rw[Zo (fun e=>h2 e.symm)]at hk';obtain⟨_,_,_,_,_,_,_,_,_,h6,_⟩:=h.early k' hk' hkd';have:=(ZU.1 h6).1;omega
  .rw[Zo h1,ZA h2]at he;rw[Zo (fun e=>h1 e.symm)]at hk;obtain⟨_,_,_,_,_,_,_,_,_,h6,_⟩:=h.early k hk dQ;have:=(ZU.1 h6).1;omega
  .rw[Zo h1,Zo h2]at he;rw[Zo (fun e=>h1 e.symm)]at hk;rw[Zo (fun e=>h2 e.symm)]at hk';exact h.inj k k' hk dQ hk' hkd' he
 .intro i hi e he;rw[hs];split
  .rfl
  .rw[hs]at hi;split at hi
   .rename_i e1;subst e1;obtain⟨_,_,_,_,_,_,_,hes⟩:=nR hj;rw[hes]at he;cases he
   .exact h.closed i hi e he
theorem mq.og (h:mq P S w0 ops A ρ D L pl a w) {cs:List E} (hcs:∀ c∈cs,bN ρ c=true):mq P S w0 ops A ρ {D with st:={D.st with path:=cs++D.st.path}} L pl a w :=
 ⟨h.lsz,h.mem,fun e he=>(ZT.1 he).elim (hcs e) (h.path e),h.size,h.defers,h.slots,h.lsub,h.dsub,h.dlt,h.ldone,h.lval,
  fun f hf hL=>let l:=h.late f hf hL;⟨l.fl,l.need,l.path,l.len,l.slots,l.hid,l.bG,l.sub⟩,h.hid,h.early,h.inj,h.closed,h.dclosed⟩
end
section
variable {P:Program} {C:Ctx} {S:Nat->Prop} {w0:World} {ρ ρ':Env} {ops:List Oper} {A:List (List Nat)} {D D':Dr} {L:Array Bool} {pl:Nat->Nat} {a:Act} {w w':World}
theorem mq.gI (h:mq P S w0 ops A ρ D L pl a w) {i:Nat} (hd:i∉D.done) (ha:dj ops i=false):L.getD i false=false:=by
 cases hL:L.getD i false with
 | false=>rfl
 | true=>rcases h.lsub i hL with h1 | h1
         .exact absurd h1 hd
         .rw[ha]at h1;cases h1
theorem mq.float (h:mq P S w0 ops A ρ D L pl a w) (hc:lE ops A=true) (hu:BW ops) {i:Nat} {o:Oper} (ho:ops[i]?=some o) (hd:i∉D.done) (ha:dj ops i=false) (hes:∀ e∈gx ops i,e∈D.done)
 {n:E} {v:Option TV} (hf:fl P ops (D8 ops A i D.st) o=some (n,v)) (hn:bN ρ n=true) {cs:List E} (hcs:∀ c∈cs,bN ρ c=true) :
 mq P S w0 ops A ρ ⟨({D.st with path:=cs++D.st.path} : St).put o.dst v,i::D.done,⟨i,D8 ops A i D.st,n,v⟩::D.late⟩ L pl a w:=by
 have hlt:i<ops.length:=(Zi.1 ho).1;have hL:=h.gI hd ha;have hdst:=iX ho;have hanc:=fW hc (p:=fun k=>k∈D.done) h.dclosed i hlt hes;have hmem:(({D.st with path:=cs++D.st.path} : St).put o.dst v).mem=D.st.mem:=St.gL _ _ _;have hget:∀ t u,(({D.st with path:=cs++D.st.path} : St).put o.dst v).tmps[t]?=some (some u)->(o.dst=some t/\v=some u)\/(o.dst≠some t/\D.st.tmps[t]?=some (some u)):=by
  intro t u ht;rw[s7]at ht;split at ht
  .rename_i hc;left;exact⟨hc.1,Z1 ht⟩
  .rename_i hc;by_cases hdt:o.dst=some t
   .exfalso;have:t<D.st.tmps.length:=(Zi.1 ht).1;exact hc ⟨hdt,this⟩
   .exact Or.inr ⟨hdt,ht⟩
 refine⟨h.lsz,by rw[hmem];exact h.mem,?_,by rw[iN];exact h.size,h.defers,?_,?_,?_,?_,?_,?_,?_,?_,?_,?_,h.closed,?_⟩
 .rw[St.xn];exact fun e he=>(ZT.1 he).elim (hcs e) (h.path e)
 .intro t u ht;rcases hget t u ht with ⟨h1,h2⟩ | ⟨h1,h2⟩
  .left;exact⟨_,ZJ ..,hL,by rw[hdst,h1]⟩
  .rcases h.slots t u h2 with ⟨f,hf',r⟩ | hv
   .left;exact⟨f,Zu _ hf',r⟩
   .exact Or.inr hv
 .intro k hk;exact(h.lsub k hk).imp (Zu _) id
 .intro k hk;rcases Zl.1 hk with rfl | hk
  .right;exact⟨_,ZJ ..,rfl⟩
  .rcases h.dsub k hk with h1 | ⟨f,hf',r⟩
   .exact Or.inl h1
   .exact Or.inr ⟨f,Zu _ hf',r⟩
 .intro k hk;rcases Zl.1 hk with rfl | hk
  .exact hlt
  .exact h.dlt k hk
 .intro f hf';rcases Zl.1 hf' with rfl | hf'
  .exact ZJ ..
  .exact Zu _ (h.ldone f hf')
 .intro f hf' t u hft ht;rcases Zl.1 hf' with rfl | hf'
  .rcases hget t u ht with ⟨_,h2⟩ | ⟨h1,_⟩
   .exact h2
   .exact absurd (by rw[<-hdst];exact hft) h1
  .rcases hget t u ht with ⟨h1,_⟩ | ⟨_,h2⟩
   .exact absurd (hu _ _ t hft (by rw[hdst,h1])▸h.ldone f hf') hd
   .exact h.lval f hf' t u hft h2
 .intro f hf' hfl;rcases Zl.1 hf' with rfl | hf'
  .refine⟨⟨o,ho,?_⟩,hn,h.path,?_,?_,?_,?_,?_⟩
   .rw[hmem];exact hf
   .rw[iN];exact Iw
   .intro t u ht;obtain⟨h1,h2⟩:=uT ht;rcases h.slots t u h1 with ⟨g,hg,hgl,hgd⟩ | hv
    .left;exact⟨g,Zu _ hg,hgl,hgd,h2 _ (vC hgd) hgd⟩
    .exact Or.inr hv
   .intro j t hj hjd hjA u ht;exact hjA ((uT ht).2 j hj hjd)
   .intro g hg hgA t u hgd ht;rcases Zl.1 hg with rfl | hg
    .exact absurd (hanc _ hgA) hd
    .exact h.lval g hg t u hgd (uT ht).1
   .intro j hj;exact Zu _ (hanc j hj)
  .have hl:=h.late f hf' hfl;refine⟨?_,hl.need,hl.path,by rw[iN];exact hl.len,?_,hl.hid,?_,fun j hj=>Zu _ (hl.sub j hj)⟩
   .rw[hmem];exact hl.fl
   .intro t u ht;rcases hl.slots t u ht with ⟨g,hg,r⟩ | hv
    .left;exact⟨g,Zu _ hg,r⟩
    .exact Or.inr hv
   .intro g hg hgA t u hgd ht;rcases Zl.1 hg with rfl | hg
    .exact absurd (hl.sub _ hgA) hd
    .exact hl.bG g hg hgA t u hgd ht
 .intro j hj hjd t u hjt ht;rcases hget t u ht with ⟨h1,_⟩ | ⟨_,h2⟩
  .have:=hu _ _ t hjt (by rw[hdst,h1]);rw[this,ha]at hj;cases hj
  .exact h.hid j hj (fun e=>hjd (Zu _ e)) t u hjt h2
 .intro j hj hjd;rw[hmem];exact h.early j hj (fun e=>hjd (Zu _ e))
 .intro j j' hj hjd hj' hjd';exact h.inj j j' hj (fun e=>hjd (Zu _ e)) hj' (fun e=>hjd' (Zu _ e))
 .intro k hk e he;rcases Zl.1 hk with rfl | hk
  .exact Zu _ (hes e he)
  .exact Zu _ (h.dclosed k hk e he)
theorem I5 {mem:Mem} {f:uv} (h:yW P ops mem f=true):∃ o,ops[f.i]?=some o/\fl P ops {f.snap with mem:=mem} o=some (f.n,f.v):=by
 unfold yW at h;split at h
 .rename_i o ho;split at h
  .rename_i n v hf;simp only[Zg,Zc]at h;refine⟨o,ho,?_⟩;rw[hf,h.1,QA h.2]
  .cases h
 .cases h
theorem MRel.Sq {mem:Mem} (h:MRel S w0 ρ mem w) {b p:Nat} {l:List CV} {T:TypeId} {x:bx} (hx:x=.bD b l T) (hag:∀ s∈mem,s.same ρ ρ') (hb:(ρ'.i b)=(p:Int)) (hw:w.heap[p]?=some (.cells (l.map (CV.ev ρ')).toArray T (0,0)))
 (h0:w0.heap.size<=p) (hn:∀ r∈mem,¬(r.hl ρ).mem p):MRel S w0 ρ' (mem++[x]) w:=by
 subst hx;have hm:=h.cx hag;have hdom:∀ c,((bx.bD b l T).hl ρ').mem c->c=p:=fun c hc=>by
  have:=Hl.dH.1 hc;rw[hb]at this;simpa using this
 have key:∀ (q:Nat) r,(mem++[bx.bD b l T])[q]?=some r->mem[q]?=some r\/(q=mem.length/\r=.bD b l T):=by
  intro q r hq;rw[abc]at hq;split at hq
  .exact Or.inl hq
  .have:q-mem.length=0:=by
    rcases aa3 (q-mem.length)with h0 | h0
    .exact h0
    .rw[Zv (by simp;omega)]at hq;cases hq
   rw[this]at hq;simp only[Z6,Zj]at hq;exact Or.inr ⟨by omega,hq.symm⟩
 have hn':∀ r∈mem,¬(r.hl ρ').mem p:=fun r hr hp=>hn r hr (by rw[<-(hag r hr).1];exact hp);refine⟨hm.fz,fun r hr=>?_,fun r hr ho c hc=>?_,fun q q' r s hne hq hq' ho=>?_,fun r hr=>?_⟩
 .rcases ZT.1 hr with hr | hr
  .exact hm.sub r hr
  .rw[Zn.1 hr];intro c o hc;obtain⟨rfl,rfl⟩:=Hl.mZ hc;rw[hb,Y7];exact hw
 .rcases ZT.1 hr with hr | hr
  .exact hm.own r hr ho c hc
  .rw[Zn.1 hr]at hc;rw[hdom c hc];exact Or.inr h0
 .rcases key q r hq with h1 | ⟨h1,rfl⟩<;>rcases key q' s hq' with h2 | ⟨h2,rfl⟩
  .exact hm.cG q q' r s hne h1 h2 ho
  .rintro c ⟨x,y⟩;rw[hdom c y]at x;exact hn' r (Zb h1) x
  .rintro c ⟨x,y⟩;rw[hdom c x]at y;exact hn' s (Zb h2) y
  .exact absurd (h1.trans h2.symm) hne
 .rcases ZT.1 hr with hr | hr
  .exact hm.pos r hr
  .rw[Zn.1 hr];show 0<=ρ'.i b;rw[hb];omega
theorem Dr.BL (h:D.upto=true):D.st.upto D.st.nv=true:=by
 unfold Dr.upto at h;simp only[Zg]at h;exact h.1
theorem Dr.J4 (h:D.upto=true) {f:uv} (hf:f∈D.late):f.snap.tmps.all (Mg (·.upto D.st.nv))=true/\f.snap.path.all (·.upto D.st.nv)=true/\f.n.upto D.st.nv=true:=by
 unfold Dr.upto at h;simp only[Zg,ZF]at h;have:=h.2 f hf;unfold uv.upto at this;simp only[Zg]at this;exact⟨this.1.1,this.1.2,this.2⟩
theorem St.si {st:St} {n:Nat} (h:st.tmps.all (Mg (·.upto n))=true) {t:Nat} {u:TV} (ht:st.tmps[t]?=some (some u)):u.upto n=true:=by
 rw[ZF]at h;exact h _ (Zb ht)
theorem zY.next {f:uv} (h:zY P ops A ρ D L a f) (hu:D.upto=true) (hg:ah D.st.nv ρ ρ') (hf:f∈D.late) {D':Dr} {L':Array Bool} {a':Act} (hb:yW P ops D'.st.mem f=true)
 (hlen:D'.st.tmps.length=D.st.tmps.length) (hslots:∀ (t:Nat) u,f.snap.tmps[t]?=some (some u)->((∃ g∈D.late,L.getD g.i false=false/\fo ops g.i=some t/\g.i∈A.getD f.i [])\/a.tmps[t]?=some (u.ev ρ)) ->
  ((∃ g∈D'.late,L'.getD g.i false=false/\fo ops g.i=some t/\g.i∈A.getD f.i [])\/a'.tmps[t]?=some (u.ev ρ)))
 (hlate:∀ g∈D'.late,g∈D.late) (hdone:∀ j∈D.done,j∈D'.done):zY P ops A ρ' D' L' a' f:=by
 obtain⟨u1,u2,u3⟩:=Dr.J4 hu hf;refine⟨I5 hb,by rw[jK hg u3];exact h.need,h.path.cx hg u2,by rw[hlen];exact h.len,fun t u ht=>?_,h.hid,fun g hg'=>h.bG g (hlate g hg'),fun j hj=>hdone j (h.sub j hj)⟩;rw[TV.cx hg u (St.si u1 ht)];exact hslots t u ht (h.slots t u ht)
theorem mq.import (h:mq P S w0 ops A ρ D L pl a w) (hu:BW ops) {j:Nat} (hd:j∉D.done) (hL:L.getD j false=true) (hi:rm P ops D j=some D') :
 ∃ ρ',ah D.st.nv ρ ρ'/\0<=ρ'.i D.st.nv/\mq P S w0 ops A ρ' D' L pl a w/\D'.st.nv=D.st.nv+1:=by
 unfold rm at hi;split at hi
 .rename_i o ho;split at hi
  .rename_i t d hop hdst;split at hi
   .rename_i z hz;split at hi
    .rename_i hc;cases hi;simp only[Zg]at hc;obtain⟨⟨hup,hal⟩,hlate⟩:=hc;rw[ZF]at hlate;obtain⟨o',t',z',d',h1,h2,h3,h4,h5,h6,h7,h8⟩:=h.early j hL hd;rw[ho]at h1;cases h1;rw[hop]at h2;cases h2;rw[hz]at h3;cases h3;rw[hdst]at h4;cases h4;have hlt:j<ops.length:=(Zi.1 ho).1;have hdj:fo ops j=some d:=by rw[iX ho,hdst]
     let ρ':=ρ.fq D.st.nv (pl j)
     have hg:ah D.st.nv ρ ρ':=cM _ _ _ (ZB _);have e1:ρ'.i D.st.nv=(pl j:Int):=ll _ _ _;have hst:=Dr.BL hup;have hag:=Mem.cx hg (St.dn hst);have hstt:=hst;simp only[St.upto,Zg]at hstt;have hget:∀ t' u,(({D.st with mem:=D.st.mem++[.bD D.st.nv (z.cells.toList.map gk) t],nv:=D.st.nv+1} : St).put (some d) (some (TP (.var D.st.nv) (.lit 0)))).tmps[t']?=some (some u) ->
      (d=t'/\u=TP (.var D.st.nv) (.lit 0)/\d<D.st.tmps.length)\/(d≠t'/\D.st.tmps[t']?=some (some u)):=by
      intro t' u ht;rw[s7]at ht;split at ht
      .rename_i hc;left;simp only[Zj]at hc ht;exact⟨hc.1,ht.symm,hc.1▸hc.2⟩
      .rename_i hc;by_cases hdt:d=t'
       .exfalso;have:t'<D.st.tmps.length:=(Zi.1 ht).1;exact hc ⟨by rw[hdt],this⟩
       .exact Or.inr ⟨hdt,ht⟩
     refine⟨ρ',hg,by rw[e1];omega,⟨h.lsz,?_,?_,by rw[iN];exact h.size,h.defers,?_,?_,?_,?_,?_,?_,?_,?_,?_,?_,h.closed,?_⟩,by rw[St.Bd]⟩
     .rw[St.gL];refine h.mem.Sq (p:=pl j) rfl hag e1 ?_ h7 h8;rw[gX];exact h6
     .rw[St.xn];exact h.path.cx hg hstt.2
     .intro t' u ht;rcases hget t' u ht with ⟨rfl,rfl,hdl⟩ | ⟨hne,ht⟩
      .right;rw[h5 (by rw[h.size];exact hdl)];simp only[TV.ev,SV.ev,CV.ev,aj,ai,e1];rw[au (by omega)];simp
      .rw[TV.cx hg u (St.si hstt.1.1 ht)];exact h.slots t' u ht
     .intro k hk;exact(h.lsub k hk).imp (Zu _) id
     .intro k hk;rcases Zl.1 hk with rfl | hk
      .exact Or.inl hL
      .exact h.dsub k hk
     .intro k hk;rcases Zl.1 hk with rfl | hk
      .exact hlt
      .exact h.dlt k hk
     .intro f hf;exact Zu _ (h.ldone f hf)
     .intro f hf t' u hft ht;rcases hget t' u ht with ⟨rfl,_⟩ | ⟨_,ht⟩
      .exact absurd (hu _ _ _ hft hdj▸h.ldone f hf) hd
      .exact h.lval f hf t' u hft ht
     .intro f hf hfl;refine(h.late f hf hfl).next hup hg hf ?_ (by rw[iN]) (fun _ _ _ hs=>hs) (fun g hg=>hg) (fun k hk=>Zu _ hk);rw[St.gL];exact hlate f hf
     .intro k hk dQ t' u hkt ht;rcases hget t' u ht with ⟨rfl,_⟩ | ⟨_,ht⟩
      .exact absurd (Zl.2 (Or.inl (hu _ _ _ hkt hdj))) dQ
      .exact h.hid k hk (fun e=>dQ (Zu _ e)) t' u hkt ht
     .intro k hk dQ;have hkd':k∉D.done:=fun e=>dQ (Zu _ e);obtain⟨o',t',z',d',g1,g2,g3,g4,g5,g6,g7,g8⟩:=h.early k hk hkd';refine⟨o',t',z',d',g1,g2,g3,g4,g5,g6,g7,fun r hr hm=>?_⟩;rw[St.gL]at hr;rcases ZT.1 hr with hr | hr
      .rw[(hag r hr).1]at hm;exact g8 r hr hm
      .rw[Zn.1 hr]at hm;have:=Hl.dH.1 hm;rw[e1,Y7]at this;exact dQ (Zl.2 (Or.inl (h.inj k j hk hkd' hL hd this)))
     .intro k k' hk dQ hk' hkd';exact h.inj k k' hk (fun e=>dQ (Zu _ e)) hk' (fun e=>hkd' (Zu _ e))
     .intro k hk e he;rcases Zl.1 hk with rfl | hk
      .obtain⟨_,_,_,_,_,_,_,hes⟩:=nR hal;rw[hes]at he;cases he
      .exact Zu _ (h.dclosed k hk e he)
    .cases hi
   .cases hi
  .cases hi
 .cases hi
theorem Jh {C:Ctx} {o:Oper} {st s:St} {x:X} (h:zc P st o=some (s,x)) (hm:MRel S w0 ρ st.mem w) :
 ∃ ρ',ah st.nv ρ ρ'/\x.n=st.nv/\x.rel C ρ ρ'/\s.nv=st.nv+1/\MRel S w0 ρ' s.mem w/\∀ r∈s.mem,∀ b,(r.hl ρ').mem b->∃ r0∈st.mem,(r0.hl ρ).mem b:=by
 unfold zc at h;split at h
 .split at h
  .rename_i p k vers tags links hp;split at h
   .rename_i y q r hq;split at h
    .rename_i hu;cases h;have hp:=bQ hp;obtain⟨h1,h2,h3⟩:=mQ hq;have hg:ah st.nv ρ (ρ.kj st.nv (((bx.hp k vers tags links).hl ρ).un (r.hl ρ))):=eD _ _ _ (ZB _);have hag:=Mem.cx hg (St.dn hu);refine⟨_,hg,rfl,⟨fI _ _ _,hm.cG p q _ _ h3.symm hp h1 rfl⟩,rfl,hm.L8 hp h1 h3 rfl h2 hag (fI _ _ _) trivial,fun r' hr' b hb=>?_⟩;rcases aaS hr' with hr' | rfl
     .rcases aaS hr' with hr' | rfl
      .rw[(hag r' hr').1]at hb;exact⟨r',hr',hb⟩
      .have hb:(((bx.hp k vers tags links).hl ρ).un (r.hl ρ)).mem b:=by
        have e:(bx.hp st.nv (k::r.ks++vers) (tags++y::r.TT) links).hl (ρ.kj st.nv (((bx.hp k vers tags links).hl ρ).un (r.hl ρ)))=((bx.hp k vers tags links).hl ρ).un (r.hl ρ):=fI _ _ _;rw[<-e];exact hb
       rcases Hl.dN.1 hb with hb | hb
       .exact⟨_,Zb hp,hb⟩
       .exact⟨_,Zb h1,hb⟩
     .cases hb
    .cases h
   .cases h
  .cases h
 .cases h
theorem mq.merge {C:Ctx} (h:mq P S w0 ops A ρ D L pl a w) {c:Nat} {x:X} (hm:Q3 P ops A D c=some (D',x)) :
 ∃ ρ',ah D.st.nv ρ ρ'/\x.n=D.st.nv/\x.rel C ρ ρ'/\D'.st.nv=D.st.nv+1/\mq P S w0 ops A ρ' D' L pl a w:=by
 unfold Q3 at hm;split at hm
 .rename_i o ho;split at hm
  .rename_i s x' hx;split at hm
   .rename_i hc;cases hm;simp only[Zg]at hc;obtain⟨hup,hlate⟩:=hc;rw[ZF]at hlate;obtain⟨ρ',hg,hxn,hxr,hnv,hM,hmem⟩:=Jh (C:=C) hx h.mem;have hst:=Dr.BL hup;have hstt:=hst;simp only[St.upto,Zg]at hstt;refine⟨ρ',hg,hxn,hxr,hnv,⟨h.lsz,hM,h.path.cx hg hstt.2,h.size,h.defers,fun t u ht=>?_,h.lsub,h.dsub,h.dlt,h.ldone,h.lval,fun f hf hfl=>?_,h.hid,fun k hk dQ=>?_,h.inj,h.closed,h.dclosed⟩⟩
    .rw[TV.cx hg u (St.si hstt.1.1 ht)];exact h.slots t u ht
    .exact(h.late f hf hfl).next hup hg hf (hlate f hf) rfl (fun _ _ _ hs=>hs) (fun g hg=>hg) (fun k hk=>hk)
    .obtain⟨o',t',z',d',g1,g2,g3,g4,g5,g6,g7,g8⟩:=h.early k hk dQ;refine⟨o',t',z',d',g1,g2,g3,g4,g5,g6,g7,fun r hr hb=>?_⟩;obtain⟨r0,ri,hb0⟩:=hmem r hr _ hb;exact g8 r0 ri hb0
   .cases hm
  .cases hm
 .cases hm
end
section
variable {P:Program} {C:Ctx} {S:Nat->Prop} {w0:World} {ρ ρ':Env} {ops:List Oper} {A:List (List Nat)} {D D':Dr} {L:Array Bool} {pl:Nat->Nat} {a:Act} {w w':World}
theorem jI {s:St} {o:Oper} (hA:Rel S w0 ρ s a w) (h:tf ops s o=true):Region.wanted o (yielded ops.toArray a.tmps)=true:=by
 unfold tf at h;split at h
 .rename_i hg;rw[gS hA hg];rfl
 .rename_i e want hg;have hw:Region.wanted o (yielded ops.toArray a.tmps)=(bN ρ e==want):=gS hA hg;have hk:known s.path e=some want:=by simpa using h
  rw[hw,fi hA.path hk];simp
 .cases h
theorem mq.chain (hΓ:∀ s∈C.Γ,s.OK P) (h:mq P S w0 ops A ρ D L pl a w) (hc:lE ops A=true) (hu:BW ops) {c:Nat} (hcl:c<ops.length) (hd:c∉D.done) (ha:dj ops c=false) (hes:∀ e∈gx ops c,e∈D.done) (hr:∀ e∈gx ops c,L.getD e false=true)
 {R:XR} (hx:An P C.Γ ops A D c=some (D',R)) {ms:Nat->Nat} (hn:R.need.holds C ms ρ) {K:Act->World->Prop} {Q:Exit->Act->World->Prop}
 (hK:∀ ρ' a' w',ah D.st.nv ρ ρ'->(match R.x with | some y=>y.rel C ρ ρ'/\y.n=D.st.nv | none=>ρ'=ρ)->mq P S w0 ops A ρ' D' (L.setIfInBounds c true) pl a' w'->D.st.nv<=D'.st.nv->K a' w'):wpOp P ops.toArray Q c K a w:=by
 unfold An at hx;split at hx
 .rename_i o ho;simp only at hx;split at hx
  .rename_i hw;split at hx
   .rename_i R' hR;split at hx
    .rename_i hcond;cases hx;simp only[Zg,Zc]at hcond;obtain⟨⟨⟨hup,hnv⟩,hro⟩,hlate⟩:=hcond;unfold XX at hro;rw[ZF]at hlate hro;have hL:=h.gI hd ha;have hrel:=h.Bo hc hcl hr;have hanc:=fW hc (p:=fun i=>L.getD i false=true) h.closed c hcl hr;have hdst:=iX ho;have hst:=Dr.BL hup;have hstt:=hst;simp only[St.upto,Zg]at hstt
     let E:Nat->Prop:=fun b=>∃ j,L.getD j false=true/\j∉D.done/\pl j=b
     let S':Nat->Prop:=fun b=>(S b\/w0.heap.size<=b)/\¬E b
     have hE:∀ r∈D.st.mem,∀ b,(r.hl ρ).mem b->¬E b:=by
      rintro r hr b hb ⟨j,hj,hjd,rfl⟩;obtain⟨_,_,_,_,_,_,_,_,_,_,_,h8⟩:=h.early j hj hjd;exact h8 r hr hb
     have hrel':Rel S' w ρ (D8 ops A c D.st) a w:=by
      refine⟨⟨IA.refl _ _,h.mem.sub,fun r hr ho b hb=>Or.inl ⟨h.mem.own r hr ho b hb,hE r hr b hb⟩,h.mem.cG,h.mem.pos⟩,hrel.size,hrel.defers,hrel.tmp,hrel.path⟩
     unfold wpOp;have:ops.toArray[c]?=some o:=by simpa using ho
     rw[this];simp only;rw[ZA (jI hrel hw)];refine Or.inl (vN (Q:=Q) hΓ hrel' hR hn (fun ρ' x w' hg hxr hA'=>?_));have hg:ah D.st.nv ρ ρ':=hg;have hag:=Mem.cx hg (St.dn hst);have hs:∀ k,(L.setIfInBounds c true).getD k false=if c=k then true else L.getD k false:=fun k=>jg (by rw[h.lsz];exact hcl)
     have hsz:(a.put o.dst x).tmps.size=a.tmps.size:=by cases o.dst<;>simp [Act.put]
     have hk:=hA'.fz;have hnS:∀ k,k<w0.heap.size->¬S k->¬S' k:=fun k hk hS hS'=>hS'.1.elim hS (fun h=>by omega);have hEfix:∀ j,L.getD j false=true->j∉D.done->w'.heap[pl j]?=w.heap[pl j]?:=by
      intro j hj hjd;obtain⟨_,_,_,_,_,_,_,_,_,h6,_⟩:=h.early j hj hjd;exact hk.block _ (ZU.1 h6).1 (fun hS'=>hS'.2 ⟨j,hj,hjd,rfl⟩)
     have hmem:MRel S w0 ρ' R.st.mem w':=by
      refine⟨⟨hk.os.trans h.mem.fz.os,hk.tape.trans h.mem.fz.tape,hk.output.trans h.mem.fz.output,abk h.mem.fz.size hk.size,fun k qH hS=>?_⟩,hA'.sub,fun r hr ho b hb=>?_,hA'.cG,hA'.pos⟩
      .rw[hk.block k (abP qH h.mem.fz.size) (hnS k qH hS)];exact h.mem.fz.block k qH hS
      .rcases hA'.own r hr ho b hb with h1 | h1
       .exact h1.1
       .right;have:=h.mem.fz.size;omega
     have hget:∀ t u,(({D.st with mem:=R.st.mem,nv:=R.st.nv} : St).put o.dst (match o.dst with | some d=>R.st.tmps.getD d none | none=>none)).tmps[t]?=some (some u) ->
      (o.dst=some t/\R.st.tmps[t]?=some (some u))\/(o.dst≠some t/\D.st.tmps[t]?=some (some u)):=by
      intro t u ht;rw[s7]at ht;split at ht
      .rename_i hc';left;refine⟨hc'.1,?_⟩;rw[hc'.1]at ht;simp only[Zj]at ht;rw[Zt]at ht;cases hq:R.st.tmps[t]? with
       | none=>rw[hq]at ht;cases ht
       | some q=>rw[hq]at ht;simp only[aav]at ht;rw[ht]
      .rename_i hc';by_cases hdt:o.dst=some t
       .exfalso;have:t<D.st.tmps.length:=(Zi.1 ht).1;exact hc' ⟨hdt,this⟩
       .exact Or.inr ⟨hdt,ht⟩
     have hkeepslot:∀ t (u:TV),o.dst≠some t->u.upto D.st.nv=true->a.tmps[t]?=some (u.ev ρ)->(a.put o.dst x).tmps[t]?=some (u.ev ρ'):=by
      intro t u hne hut hv;rw[iU,Zo (fun e=>hne e.1),hv,TV.cx hg u hut]
     refine hK ρ' (a.put o.dst x) w' hg hxr ⟨by simp [h.lsz],by rw[St.gL];exact hmem,by rw[St.xn];exact h.path.cx hg hstt.2,by rw[iN,hsz];exact h.size,by cases o.dst<;>exact h.defers,?_,?_,?_,?_,?_,?_,?_,?_,?_,?_,?_,?_⟩ (by rw[St.Bd];exact hnv)
     .intro t u ht;rcases hget t u ht with ⟨h1,h2⟩ | ⟨hne,ht⟩
      .right;exact hA'.tmp t u h2
      .rcases h.slots t u ht with ⟨f,hf,hfl,hfd⟩ | hv
       .left;refine⟨f,?_,?_,hfd⟩
        .rw[aaj];refine⟨hf,?_⟩;simp only[aaf];cases hcc:(A.getD c []).contains f.i with
         | false=>rfl
         | true=>have:=hanc _ (aan.1 hcc);rw[hfl]at this;cases this
        .rw[hs,Zo (show ¬c=f.i from fun e=>hd (e▸h.ldone f hf))];exact hfl
       .right;exact hkeepslot t u hne (St.si hstt.1.1 ht) hv
     .intro k hk;rw[hs]at hk;split at hk
      .rename_i e;subst e;exact Or.inl (ZJ ..)
      .exact(h.lsub k hk).imp (Zu _) id
     .intro k hk;rcases Zl.1 hk with rfl | hk
      .left;rw[hs,ZA rfl]
      .rcases h.dsub k hk with h1 | ⟨f,hf,rfl⟩
       .left;rw[hs];split
        .rfl
        .exact h1
       .cases hcc:(A.getD c []).contains f.i with
        | true =>
         left;rw[hs];split
         .rfl
         .exact hanc _ (aan.1 hcc)
        | false=>right;exact⟨f,by rw[aaj];exact⟨hf,by rw[hcc];rfl⟩,rfl⟩
     .intro k hk;rcases Zl.1 hk with rfl | hk
      .exact hcl
      .exact h.dlt k hk
     .intro f hf;exact Zu _ (h.ldone f (aaj.1 hf).1)
     .intro f hf t u hft ht;have hf:=(aaj.1 hf).1;rcases hget t u ht with ⟨h1,_⟩ | ⟨_,ht⟩
      .exact absurd (hu _ _ t hft (by rw[hdst,h1])▸h.ldone f hf) hd
      .exact h.lval f hf t u hft ht
     .intro f hf hfl;have hfb:=hlate f hf;have hf:=(aaj.1 hf).1;have hne:c≠f.i:=fun e=>hd (e▸h.ldone f hf);rw[hs,Zo hne]at hfl;refine(h.late f hf hfl).next hup hg hf (by rw[St.gL];exact hfb) (by rw[iN]) (fun t u ht hsl=>?_) (fun g hg'=>(aaj.1 hg').1) (fun k hk=>Zu _ hk);rcases hsl with ⟨g,hg',hgl,hgd,hga⟩ | hv
      .left;refine⟨g,?_,?_,hgd,hga⟩
       .rw[aaj];refine⟨hg',?_⟩;simp only[aaf];cases hcc:(A.getD c []).contains g.i with
        | false=>rfl
        | true=>have:=hanc _ (aan.1 hcc);rw[hgl]at this;cases this
       .rw[hs,Zo (show ¬c=g.i from fun e=>hd (e▸h.ldone g hg'))];exact hgl
      .right;have hdt:o.dst≠some t:=by
        intro hdt;exact(h.late f hf hfl).hid c t hcl (by rw[hdst,hdt]) (fun hm=>hd ((h.late f hf hfl).sub c hm)) u ht
       rw[iU,Zo (fun e=>hdt e.1)];exact hv
     .intro j hj hjd t u hjt ht;rcases hget t u ht with ⟨h1,_⟩ | ⟨_,ht⟩
      .have:=hu _ _ t hjt (by rw[hdst,h1]);rw[this,ha]at hj;cases hj
      .exact h.hid j hj (fun e=>hjd (Zu _ e)) t u hjt ht
     .intro j hj hjd;have hjd':j∉D.done:=fun e=>hjd (Zu _ e);have hne:c≠j:=fun e=>hjd (Zl.2 (Or.inl e.symm));rw[hs,Zo hne]at hj;obtain⟨o',t',z',d',g1,g2,g3,g4,g5,g6,g7,g8⟩:=h.early j hj hjd';refine⟨o',t',z',d',g1,g2,g3,g4,fun hds=>?_,by rw[hEfix j hj hjd'];exact g6,g7,fun r hr hm=>?_⟩
      .rw[iU,Zo]
       .exact g5 (by rw[hsz]at hds;exact hds)
       .rintro⟨e,_⟩;exact hne (hu _ _ d' (by rw[hdst,e]) (by rw[iX g1,g4]))
      .rw[St.gL]at hr;cases hro':r.own with
       | true =>
        rcases hA'.own r hr hro' _ hm with h1 | h1
        .exact h1.2 ⟨j,hj,hjd',rfl⟩
        .have:=(ZU.1 g6).1;omega
       | false =>
        have hb:=hro r hr;cases r with
        | ro k tags any =>
         simp only[List.any_eq_true]at hb;obtain⟨s,hsm,hsk⟩:=hb;cases s with
         | ro k' tags' any' =>
          have hkk:k=k':=by simpa using hsk
          subst hkk;have:=(hag _ hsm).1;simp only[bx.hl]at this hm;rw[this]at hm;exact g8 _ hsm hm
         | _=>cases hsk
        | _=>cases hro'
     .intro j j' hj hjd hj' hjd';rw[hs,Zo (show ¬c=j from fun e=>hjd (Zl.2 (Or.inl e.symm)))]at hj;rw[hs,Zo (show ¬c=j' from fun e=>hjd' (Zl.2 (Or.inl e.symm)))]at hj';exact h.inj j j' hj (fun e=>hjd (Zu _ e)) hj' (fun e=>hjd' (Zu _ e))
     .intro i hi e he;rw[hs];split
      .rfl
      .rw[hs]at hi;split at hi
       .rename_i e1;subst e1;exact hr e he
       .exact h.closed i hi e he
     .intro k hk e he;rcases Zl.1 hk with rfl | hk
      .exact Zu _ (hes e he)
      .exact Zu _ (h.dclosed k hk e he)
    .cases hx
   .cases hx
  .cases hx
 .cases hx
theorem mq.other (h:mq P S w0 ops A ρ D L pl a w) (hc:lE ops A=true) (hu:BW ops) {Q:Exit->Act->World->Prop} {g:Nat} (halloc:∀ j o t,dj ops j=true->ops[j]?=some o->o.op=.alloc t->j∉D.done->∃ z,kl P t=some z)
 (ih:∀ L' pl' a' w',mq P S w0 ops A ρ D L' pl' a' w'->GL ops L'<=g->wpAny P .any ops.toArray Q g L' a' w') {i:Nat} (hi:i∈Region.ready .any ops.toArray L) (hg:GL ops L<=g+1) (hk:i∈D.done\/dj ops i=true) :
 wpOp P ops.toArray Q i (wpAny P .any ops.toArray Q g (L.setIfInBounds i true)) a w:=by
 obtain⟨hlt,hL,hr⟩:=(dw h.lsz).1 hi;have hun:=sg h.lsz hlt hL;by_cases hd:i∈D.done
 .rcases h.dsub i hd with h1 | ⟨f,hf,rfl⟩
  .rw[hL]at h1;cases h1
  .have hl:=h.late f hf hL;obtain⟨o,ho,hfl⟩:=hl.fl;exact NR (h.Mz hc hf hL hr) ho hfl hl.need fun x hx=>ih _ pl _ _ (h.LF hu hf ho hL hr hx) (by omega)
 .have ha:=hk.resolve_left hd;obtain⟨o,t,d,ho,hop,hdst,hgd,_⟩:=nR ha;obtain⟨z,hz⟩:=halloc i o t ha ho hop hd;unfold wpOp;have:ops.toArray[i]?=some o:=by simpa using ho
  rw[this];simp only;rw[ZA (by simp [Region.wanted,hgd])];refine Or.inl ?_;have hrun:(execOp a.eval o).run P w=.ok (.value (.pointer (some ⟨w.heap.size,0,none⟩))) (w.alloc (.cells z.cells t)):=by
   unfold execOp;rw[hop];simp only[Sem.run_bind,Instr.alloc,jN hz,Result.andThen_ok];rfl
  exact eV hrun (ih _ _ _ _ (h.ID hu ha hd hL ho hop hdst hz) (by omega))
theorem find_spec {α:Type} {p:α->Bool} {l:List α} {x:α} (h:l.find? p=some x):x∈l/\p x=true:=⟨List.mem_of_find?_eq_some h,List.find?_some h⟩
theorem tj {C:Ctx} {ms:Nat->Nat} {ρ:Env} : ∀ (l:List (Option Nd)) {nd:Nd},GQ l=some nd->nd.holds C ms ρ->∀ x∈l,∃ a,x=some a/\a.holds C ms ρ
 | [],_,_,_,x,hx=>by cases hx
 | some a::l,nd,h,hn,x,hx=>by
  simp only[GQ,Zk]at h;obtain⟨b,hb,rfl⟩:=h;rw[dY]at hn;rcases Zl.1 hx with rfl | hx
  .exact⟨a,rfl,hn.1⟩
  .exact tj l hb hn.2 x hx
 | none::_,_,h,_,_,_=>by cases h
theorem mh {r:Nat} {l:List Nat} (h:se ops A (r::l)=true):r<ops.length/\r∉l/\(∀ i,i<ops.length->i=r\/i∈l\/i∈A.getD r [])/\se ops A l=true:=by
 unfold se at h;simp only[Zg,Zc,aaf,aaM,Z4,ZF,ZQ,aat,abT]at h;exact⟨h.1.1.1,h.1.1.2,fun i hi=>(h.1.2 i hi).elim (fun h=>h.elim Or.inl fun h=>Or.inr (Or.inl h)) fun h=>Or.inr (Or.inr h),h.2⟩
theorem DZ:∀ {l:List Nat},se ops A l=true->∀ i∈l,∃ m:List Nat,i<ops.length/\(∀ j,j<ops.length->j=i\/j∈m\/j∈A.getD i [])/\∀ j∈m,j∈l
 | [],_,i,h=>by cases h
 | r::l,h,i,hi=>by
  obtain⟨h1,h2,h3,h4⟩:=mh h;rcases Zl.1 hi with rfl | hi
  .exact⟨l,h1,h3,fun j hj=>Zu _ hj⟩
  .obtain⟨m,h5,h6,h7⟩:=DZ h4 i hi;exact⟨m,h5,h6,fun j hj=>Zu _ (h7 j hj)⟩
theorem GB {r:Nat} {l:List Nat} (hc:lE ops A=true) (h:se ops A (r::l)=true) {L:Array Bool} (hL:∀ j,j<ops.length->(L.getD j false=true↔j∉r::l)) (hcl:∀ i,L.getD i false=true->∀ e∈gx ops i,L.getD e false=true) {i:Nat} (hi:i<ops.length) (hn:L.getD i false=false) (hr:∀ e∈gx ops i,L.getD e false=true):i=r:=by
 obtain⟨h1,h2,h3,h4⟩:=mh h;have hanc:=fW hc (p:=fun i=>L.getD i false=true) hcl i hi hr;have him:i∈r::l:=aak fun hh=>by rw[(hL i hi).2 hh]at hn;cases hn
 rcases Zl.1 him with e | him
 .exact e
 .exfalso;have key:∀ {l:List Nat},se ops A l=true->i∈l->r∉l->r∈A.getD i []:=by
   intro l
   induction l with
   | nil=>intro _ h;cases h
   | cons x l ih =>
    intro h hi hr';obtain⟨_,_,k3,k4⟩:=mh h;rcases Zl.1 hi with rfl | hi
    .rcases k3 r h1 with e | e | e
     .exact absurd (e▸ZJ ..) hr'
     .exact absurd (Zu _ e) hr'
     .exact e
    .exact ih k4 hi fun h=>hr' (Zu _ h)
  have hrl:=hanc r (key h4 him h2);exact((hL r h1).1 hrl) (ZJ ..)
theorem zG {ex:Ex} (hΓ:∀ s∈C.Γ,s.OK P) (hex:zX P C ex) (hc:lE ops A=true) {d:Nat} {Q:Exit->Act->World->Prop} {k:St->Option Nd} : ∀ (l:List Nat) (st:St) (nd:Nd) (ms:Nat->Nat) (ρ:Env) (g:Nat) (L:Array Bool) (a:Act) (w:World),
 se ops A l=true->OV P C.Γ ex d ops l st k=some nd->nd.holds C ms ρ->Rel S w0 ρ st a w->L.size=ops.length->(∀ j,j<ops.length->(L.getD j false=true↔j∉l))->(∀ i,L.getD i false=true->∀ e∈gx ops i,L.getD e false=true)->GL ops L<=g->Kl S w0 C d ms st.nv ρ k (Q .normal)->wpAny P .any ops.toArray Q g L a w
 | [],st,nd,ms,ρ,g,L,a,w,_,h,hn,hA,hlsz,hL,hcl,hg,hk=>by
  have hq:=hk ms st nd ρ a w (fun _ _=>rfl) h (ah.refl _ _) hA hn;have hnil:Region.ready .any ops.toArray L=[]:=by
   rw[abz];intro j hj;obtain⟨h1,h2,_⟩:=(dw hlsz).1 hj;rw[(hL j h1).2 (by simp)]at h2;cases h2
  cases g with
  | zero=>exact⟨hnil,hq⟩
  | succ g=>exact⟨fun _=>hq,fun j hj=>by rw[hnil]at hj;cases hj⟩
 | r::l,st,nd,ms,ρ,g,L,a,w,ht,h,hn,hA,hlsz,hL,hcl,hg,hk=>by
  obtain⟨h1,h2,h3,h4⟩:=mh ht;have hLr:L.getD r false=false:=by
   cases hh:L.getD r false with
   | false=>rfl
   | true=>exact absurd (ZJ ..) ((hL r h1).1 hh)
  have hun:=sg hlsz h1 hLr;cases g with
  | zero=>omega
  | succ g =>
   refine⟨fun ri=>?_,fun i hi=>?_⟩
   .exfalso;have:=gN hc hlsz ri r h1;rw[hLr]at this;cases this
   .obtain⟨hlt,hLi,hr⟩:=(dw hlsz).1 hi;have e:=GB hc ht hL hcl hlt hLi hr;subst e;unfold OV at h;split at h
    .rename_i o ho;split at h
     .rename_i hw;unfold wpOp;have:ops.toArray[i]?=some o:=by simpa using ho
      rw[this];simp only;rw[ZA (jI hA hw)];refine Or.inl (kO hΓ hex h hA hn fun ms' st' nd' ρ' a2 w2 hms hk' wh hA2 hn2=>?_);simp only at hk';split at hk'
      .rename_i hnv;refine zG hΓ hex hc l st' nd' ms' ρ' g _ a2 w2 h4 hk' hn2 hA2 (by rw[abm];exact hlsz) (fun j hj=>?_) (fun j hj e he=>?_) (by omega) (hk.fC hms wh hnv)
       .rw[jg (by rw[hlsz];exact h1)];by_cases hji:i=j
        .subst hji;simp [h2]
        .rw[Zo hji,hL j hj,Zl];constructor
         .exact fun h hh=>h (Or.inr hh)
         .exact fun h hh=>hh.elim (fun e=>hji e.symm) h
       .rw[jg (by rw[hlsz];exact h1)]at hj ⊢;split
        .rfl
        .by_cases hji:i=j
         .subst hji;exact hr e he
         .rw[Zo hji]at hj;exact hcl j hj e he
      .cases hk'
     .cases h
    .cases h
theorem vB {ex:Ex} (hΓ:∀ s∈C.Γ,s.OK P) (hex:zX P C ex) (hc:lE ops A=true) (hu:BW ops) {d:Nat} {Q:Exit->Act->World->Prop} (halloc:∀ j o t,dj ops j=true->ops[j]?=some o->o.op=.alloc t->∃ z,kl P t=some z) :
 ∀ (m:Nat) (D:Dr) (k:St->Option Nd) (nd:Nd) (ms:Nat->Nat) (ρ:Env) (g:Nat) (L:Array Bool) (pl:Nat->Nat) (a:Act) (w:World),
  nk P C.Γ ex d ops A m D k=some nd->nd.holds C ms ρ->mq P S w0 ops A ρ D L pl a w->GL ops L<=g->Kl S w0 C d ms D.st.nv ρ k (Q .normal)->wpAny P .any ops.toArray Q g L a w
 | 0,D,k,nd,ms,ρ,g,L,pl,a,w,h,_,_,_,_=>by cases h
 | m+1,D,k,nd,ms,ρ,g,L,pl,a,w,h,hn,hS,hg,hk=>by
  have IH:=vB (d:=d) (Q:=Q) hΓ hex hc hu halloc m;unfold nk at h;split at h
  .rename_i i hi;obtain⟨_,hp⟩:=find_spec hi;simp only[Zg,aaf,aaM,Z4,ZF,Zc]at hp;obtain⟨⟨⟨hd,ha⟩,hes⟩,_⟩:=hp;split at h
   .rename_i o ho;simp only at h;split at h
    .rename_i n v hf;simp only[Zk]at h;obtain⟨nd',h',rfl⟩:=h;obtain⟨h1,h2⟩:=lh _ _ hn;have hb:bN ρ n=true:=yF n fun c hc'=>by
      by_cases hkn:known D.st.path c=some true
      .exact fi hS.path hkn
      .exact h1 c (by unfold CU;rw[aaj];exact⟨hc',by simpa using hkn⟩)
     exact IH _ k nd' ms ρ g L pl a w h' h2 (hS.float hc hu ho hd ha hes hf hb h1) hg (by rw[St.Bd];exact hk)
    .cases h
   .cases h
  .split at h
   .rename_i e he;split at h
    .rename_i x y h1 h2;cases h;rw[dY,gY,gY]at hn;cases hb:bN ρ e with
     | true=>exact IH _ k x ms ρ g L pl a w h1 (hn.1 hb) (hS.og (cs:=[e]) (fun c hc=>by rw[Zn.1 hc];exact hb)) hg hk
     | false =>
      have hb':bN ρ (mkNot e)=true:=by rw[dr,hb];rfl
      exact IH _ k y ms ρ g L pl a w h2 (hn.2 hb') (hS.og (cs:=[mkNot e]) (fun c hc=>by rw[Zn.1 hc];exact hb')) hg hk
    .cases h
   .
    have cand:∀ L' pl' a' w',mq P S w0 ops A ρ D L' pl' a' w'->∀ i∈Region.ready .any ops.toArray L',i∈D.done\/dj ops i=true\/i∈tw ops D:=by
     intro L' pl' a' w' hS' i hi;obtain⟨hlt,hL',hr⟩:=(dw hS'.lsz).1 hi;by_cases hd:i∈D.done
     .exact Or.inl hd
     .cases ha:dj ops i with
      | true=>exact Or.inr (Or.inl rfl)
      | false =>
       right;right;unfold tw;rw[aaj];refine⟨ZQ.2 hlt,?_⟩;simp only[Zg,aaf,aaM,Z4,ZF,aat,Zc];exact⟨⟨hd,ha⟩,fun e he=>hS'.lsub e (hr e he)⟩
    have waitImp:∀ (j:Nat) (D':Dr) (nd':Nd),j∉D.done->(∀ L' pl' a' w',mq P S w0 ops A ρ D L' pl' a' w'->L'.getD j false=false->j<ops.length)->rm P ops D j=some D'->nk P C.Γ ex d ops A m D' k=some nd' ->
     (∀ ρ',ah D.st.nv ρ ρ'->0<=ρ'.i D.st.nv->nd'.holds C ms ρ')->(∀ c∈tw ops D,j∈gx ops c) ->
     ∀ (g:Nat) L' pl' a' w',mq P S w0 ops A ρ D L' pl' a' w'->GL ops L'<=g->wpAny P .any ops.toArray Q g L' a' w':=by
     intro j D' nd' hjd hjl himp hd' hn' hcj g
     induction g with
     | zero =>
      intro L' pl' a' w' hS' hg';cases hLj:L'.getD j false with
      | true =>
       obtain⟨ρ',hgr,h0,hS2,hnv⟩:=hS'.import hu hjd hLj himp;exact IH D' k nd' ms ρ' 0 L' pl' a' w' hd' (hn' ρ' hgr h0) hS2 hg' (hk.fC (fun _ _=>rfl) hgr (by omega))
      | false =>
       exfalso;have:=ml (abL.1 hg') (hjl L' pl' a' w' hS' hLj);rw[hLj]at this;cases this
     | succ g ihg =>
      intro L' pl' a' w' hS' hg';cases hLj:L'.getD j false with
      | true =>
       obtain⟨ρ',hgr,h0,hS2,hnv⟩:=hS'.import hu hjd hLj himp;exact IH D' k nd' ms ρ' (g+1) L' pl' a' w' hd' (hn' ρ' hgr h0) hS2 hg' (hk.fC (fun _ _=>rfl) hgr (by omega))
      | false =>
       refine⟨fun ri=>?_,fun i hi=>?_⟩
       .exfalso;have:=gN hc hS'.lsz ri j (hjl L' pl' a' w' hS' hLj);rw[hLj]at this;cases this
       .refine hS'.other hc hu (fun j o t h1 h2 h3 _=>halloc j o t h1 h2 h3) ihg hi hg' ?_;rcases cand L' pl' a' w' hS' i hi with h1 | h1 | h1
        .exact Or.inl h1
        .exact Or.inr h1
        .exfalso;have:=((dw hS'.lsz).1 hi).2.2 j (hcj i h1);rw[hLj]at this;cases this
    split at h
    .rename_i hcn;split at h
     .rename_i hall;have hdone:∀ i,i<ops.length->i∈D.done:=by
       intro i hi;have:=aa2.1 hall i (ZQ.2 hi);simpa using this
      have key:∀ (g:Nat) L' pl' a' w',mq P S w0 ops A ρ D L' pl' a' w'->GL ops L'<=g->wpAny P .any ops.toArray Q g L' a' w':=by
       have fin:∀ L' pl' a' w',mq P S w0 ops A ρ D L' pl' a' w'->(∀ i,i<ops.length->L'.getD i false=true)->Q .normal a' w':=by
        intro L' pl' a' w' hS' hL';refine hk ms D.st nd ρ a' w' (fun _ _=>rfl) h (ah.refl _ _) ⟨hS'.mem,hS'.size,hS'.defers,fun t u ht=>?_,hS'.path⟩ hn;rcases hS'.slots t u ht with ⟨f,hf,hfl,_⟩ | hv
        .have:=hL' f.i (hS'.dlt _ (hS'.ldone f hf));rw[hfl]at this;cases this
        .exact hv
       intro g
       induction g with
       | zero =>
        intro L' pl' a' w' hS' hg';have hL':∀ i,i<ops.length->L'.getD i false=true:=fun i hi=>ml (abL.1 hg') hi;refine⟨?_,fin L' pl' a' w' hS' hL'⟩;cases hr:Region.ready .any ops.toArray L' with
        | nil=>rfl
        | cons i l =>
         exfalso;obtain⟨hlt,hLi,_⟩:=(dw hS'.lsz).1 (hr▸ZJ .. : i∈Region.ready .any ops.toArray L');rw[hL' i hlt]at hLi;cases hLi
       | succ g ihg =>
        intro L' pl' a' w' hS' hg';refine⟨fun ri=>fin L' pl' a' w' hS' (gN hc hS'.lsz ri),fun i hi=>?_⟩;exact hS'.other hc hu (fun j o t h1 h2 h3 _=>halloc j o t h1 h2 h3) ihg hi hg' (Or.inl (hdone i ((dw hS'.lsz).1 hi).1))
      exact key g L pl a w hS hg
     .rename_i j hj;obtain⟨hjr,hjp⟩:=find_spec hj;split at h
      .rename_i D' himp;simp only[Zk]at h;obtain⟨nd',h',rfl⟩:=h;exact waitImp j D' nd' (by simpa using hjp) (fun _ _ _ _ _ _=>ZQ.1 hjr) himp h' (fun ρ' hgr h0=>hn ρ' hgr h0) (fun c hcm=>by rw[hcn]at hcm;cases hcm) g L pl a w hS hg
      .cases h
    .rename_i c hcn;have hcm:c∈tw ops D:=by rw[hcn];exact ZJ ..
     have hcm':=hcm;unfold tw at hcm';rw[aaj]at hcm';simp only[Zg,aaf,aaM,Z4,ZF,aat,Zc,ZQ]at hcm';obtain⟨hcl,⟨hcd,hca⟩,hces⟩:=hcm';split at h
     .rename_i j hj;obtain⟨hje,hjp⟩:=find_spec hj;have hjd:j∉D.done:=by simpa using hjp
      split at h
      .rename_i D' himp;simp only[Zk]at h;obtain⟨nd',h',rfl⟩:=h;refine waitImp j D' nd' hjd (fun _ _ _ _ _ _=>aci ((oO hc hcl).2 j hje) hcl) himp h' (fun ρ' hgr h0=>hn ρ' hgr h0) (fun c' hcm'=>?_) g L pl a w hS hg;rw[hcn,Zn]at hcm';rw[hcm'];exact hje
      .cases h
     .rename_i hj;have hes:∀ e∈gx ops c,e∈D.done:=fun e he=>by
       have:=aa2.1 hj e he;simpa using this
      split at h
      .rename_i D' x hmd;simp only[Zk]at h;obtain⟨nd',h',rfl⟩:=h;obtain⟨ρ',hgr,hxn,hxr,hnv,hS2⟩:=hS.merge (C:=C) hmd;exact IH D' k nd' ms ρ' g L pl a w h' (hn ρ' (by rw[hxn];exact hgr) hxr) hS2 hg (hk.fC (fun _ _=>rfl) hgr (by omega))
      split at h
      .rename_i D' R hch;simp only[Zk]at h;obtain⟨nd',h',rfl⟩:=h;rw[dY]at hn;have key:∀ (g:Nat) L' pl' a' w',mq P S w0 ops A ρ D L' pl' a' w'->GL ops L'<=g->wpAny P .any ops.toArray Q g L' a' w':=by
        intro g
        induction g with
        | zero =>
         intro L' pl' a' w' hS' hg';exfalso;have h1:=ml (abL.1 hg') hcl;rw[hS'.gI hcd hca]at h1;cases h1
        | succ g ihg =>
         intro L' pl' a' w' hS' hg';refine⟨fun ri=>?_,fun i hi=>?_⟩
         .exfalso;have h1:=gN hc hS'.lsz ri c hcl;rw[hS'.gI hcd hca]at h1;cases h1
         .rcases cand L' pl' a' w' hS' i hi with h1 | h1 | h1
          .exact hS'.other hc hu (fun j o t h1 h2 h3 _=>halloc j o t h1 h2 h3) ihg hi hg' (Or.inl h1)
          .exact hS'.other hc hu (fun j o t h1 h2 h3 _=>halloc j o t h1 h2 h3) ihg hi hg' (Or.inr h1)
          .rw[hcn,Zn]at h1;subst h1;obtain⟨hlt,hLi,hr⟩:=(dw hS'.lsz).1 hi;have hun:=sg hS'.lsz hlt hLi;refine hS'.chain (Q:=Q) hΓ hc hu hlt hcd hca hes hr hch hn.1 fun ρ' a2 w2 hgr hx hS2 hnv=>?_;refine IH D' k nd' ms ρ' g _ pl' a2 w2 h' ?_ hS2 (by omega) (hk.fC (fun _ _=>rfl) hgr hnv);have hn2:=hn.2;cases hRx:R.x with
           | none=>rw[hRx]at hn2 hx;subst hx;exact hn2
           | some y =>
            rw[hRx]at hn2 hx;exact hn2 ρ' (by rw[hx.2];exact hgr) hx.1
       exact key g L pl a w hS hg
      .split at h
       .rename_i o ho;split at h
        .rename_i hcond;simp only[Zg]at hcond;obtain⟨hw,hlast⟩:=hcond;have key:∀ (g:Nat) L' pl' a' w',mq P S w0 ops A ρ D L' pl' a' w'->GL ops L'<=g->wpAny P .any ops.toArray Q g L' a' w':=by
          intro g
          induction g with
          | zero =>
           intro L' pl' a' w' hS' hg';exfalso;have h1:=ml (abL.1 hg') hcl;rw[hS'.gI hcd hca]at h1;cases h1
          | succ g ihg =>
           intro L' pl' a' w' hS' hg';refine⟨fun ri=>?_,fun i hi=>?_⟩
           .exfalso;have h1:=gN hc hS'.lsz ri c hcl;rw[hS'.gI hcd hca]at h1;cases h1
           .rcases cand L' pl' a' w' hS' i hi with h1 | h1 | h1
            .exact hS'.other hc hu (fun j o t h1 h2 h3 _=>halloc j o t h1 h2 h3) ihg hi hg' (Or.inl h1)
            .exact hS'.other hc hu (fun j o t h1 h2 h3 _=>halloc j o t h1 h2 h3) ihg hi hg' (Or.inr h1)
            .rw[hcn,Zn]at h1;subst h1;obtain⟨hlt,hLi,hr⟩:=(dw hS'.lsz).1 hi;have hrel:=hS'.Bo hc hcl hr;have hanc:=fW hc (p:=fun i=>L'.getD i false=true) hS'.closed i hcl hr;unfold wpOp;have:ops.toArray[i]?=some o:=by simpa using ho
             rw[this];simp only;rw[ZA (jI hrel hw)];refine Or.inl (kO hΓ hex h hrel hn fun ms' st' nd' ρ' a2 w2 hms hk' wh hA2 hn2=>?_);have hq:=hk ms' st' nd' ρ' a2 w2 hms hk' wh hA2 hn2;have hall:∀ j,j<ops.length->(L'.setIfInBounds i true).getD j false=true:=by
              intro j hj;rw[jg (by rw[hS'.lsz];exact hcl)];split
              .rfl
              .rename_i hne;unfold Pv at hlast;rw[ZF]at hlast;have:=hlast j (ZQ.2 hj);simp only[aat,abT]at this;rcases this with h1 | h1
               .exact absurd h1.symm hne
               .exact hanc j (by simpa using h1)
             have hlsz:(L'.setIfInBounds i true).size=ops.length:=by rw[abm];exact hS'.lsz
             have hnil:Region.ready .any ops.toArray (L'.setIfInBounds i true)=[]:=by
              rw[abz];intro j hj;obtain⟨h1,h2,_⟩:=(dw hlsz).1 hj;rw[hall j h1]at h2;cases h2
             cases g with
             | zero=>exact⟨hnil,hq⟩
             | succ g=>exact⟨fun _=>hq,fun j hj=>by rw[hnil]at hj;cases hj⟩
         exact key g L pl a w hS hg
        .split at h
         .rename_i hcond;simp only[Zg]at hcond;obtain⟨hw,htl⟩:=hcond;obtain⟨t1,t2,t3,t4⟩:=mh htl;have key:∀ (g:Nat) L' pl' a' w',mq P S w0 ops A ρ D L' pl' a' w'->GL ops L'<=g->wpAny P .any ops.toArray Q g L' a' w':=by
           intro g
           induction g with
           | zero =>
            intro L' pl' a' w' hS' hg';exfalso;have h1:=ml (abL.1 hg') hcl;rw[hS'.gI hcd hca]at h1;cases h1
           | succ g ihg =>
            intro L' pl' a' w' hS' hg';refine⟨fun ri=>?_,fun i hi=>?_⟩
            .exfalso;have h1:=gN hc hS'.lsz ri c hcl;rw[hS'.gI hcd hca]at h1;cases h1
            .rcases cand L' pl' a' w' hS' i hi with h1 | h1 | h1
             .exact hS'.other hc hu (fun j o t h1 h2 h3 _=>halloc j o t h1 h2 h3) ihg hi hg' (Or.inl h1)
             .exact hS'.other hc hu (fun j o t h1 h2 h3 _=>halloc j o t h1 h2 h3) ihg hi hg' (Or.inr h1)
             .rw[hcn,Zn]at h1;subst h1;obtain⟨hlt,hLi,hr⟩:=(dw hS'.lsz).1 hi;have hrel:=hS'.Bo hc hcl hr;have hanc:=fW hc (p:=fun i=>L'.getD i false=true) hS'.closed i hcl hr;have hun:=sg hS'.lsz hlt hLi;unfold wpOp;have:ops.toArray[i]?=some o:=by simpa using ho
              rw[this];simp only;rw[ZA (jI hrel hw)];refine Or.inl (kO hΓ hex h hrel hn fun ms' st' nd' ρ' a2 w2 hms hk' wh hA2 hn2=>?_);simp only at hk';split at hk'
              .rename_i hnv;refine zG hΓ hex hc _ st' nd' ms' ρ' g _ a2 w2 t4 hk' hn2 hA2 (by rw[abm];exact hS'.lsz) (fun j hj=>?_) (fun j hj e he=>?_) (by omega) (hk.fC hms wh hnv)
               .rw[jg (by rw[hS'.lsz];exact hcl)];by_cases hji:i=j
                .subst hji;simp [t2]
                .rw[Zo hji];constructor
                 .intro hLj hjr;obtain⟨m,m1,m2,m3⟩:=DZ t4 j hjr;have hij:i∈A.getD j []:=by
                   rcases m2 i hcl with e | e | e
                   .exact absurd e hji
                   .exact absurd (m3 i e) t2
                   .exact e
                  have:=fW hc (p:=fun i=>L'.getD i false=true) hS'.closed j hj (hS'.closed j hLj) i hij;rw[hLi]at this;cases this
                 .intro hjr;rcases t3 j hj with e | e | e
                  .exact absurd e.symm hji
                  .exact absurd e hjr
                  .exact hanc j e
               .rw[jg (by rw[hS'.lsz];exact hcl)]at hj ⊢;split
                .rfl
                .by_cases hji:i=j
                 .subst hji;exact hr e he
                 .rw[Zo hji]at hj;exact hS'.closed j hj e he
              .cases hk'
          exact key g L pl a w hS hg
         .cases h
       .cases h
    .rename_i c1 c2 cs hcn;split at h
     .rename_i hready;have cfacts:∀ c∈tw ops D,c<ops.length/\c∉D.done/\dj ops c=false:=by
       intro c hcm';unfold tw at hcm';rw[aaj]at hcm';simp only[Zg,aaf,aaM,Z4,ZF,aat,Zc,ZQ]at hcm';exact⟨hcm'.1,hcm'.2.1.1,hcm'.2.1.2⟩
      obtain⟨k1,k2,k3⟩:=cfacts c1 (by rw[hcn];exact ZJ ..);have key:∀ (g:Nat) L' pl' a' w',mq P S w0 ops A ρ D L' pl' a' w'->GL ops L'<=g->wpAny P .any ops.toArray Q g L' a' w':=by
       intro g
       induction g with
       | zero =>
        intro L' pl' a' w' hS' hg';exfalso;have h1:=ml (abL.1 hg') k1;rw[hS'.gI k2 k3]at h1;cases h1
       | succ g ihg =>
        intro L' pl' a' w' hS' hg';refine⟨fun ri=>?_,fun i hi=>?_⟩
        .exfalso;have h1:=gN hc hS'.lsz ri c1 k1;rw[hS'.gI k2 k3]at h1;cases h1
        .rcases cand L' pl' a' w' hS' i hi with h1 | h1 | h1
         .exact hS'.other hc hu (fun j o t h1 h2 h3 _=>halloc j o t h1 h2 h3) ihg hi hg' (Or.inl h1)
         .exact hS'.other hc hu (fun j o t h1 h2 h3 _=>halloc j o t h1 h2 h3) ihg hi hg' (Or.inr h1)
         .obtain⟨_,hcd,hca⟩:=cfacts i h1;rw[hcn]at h1;obtain⟨ndi,hni,hhi⟩:=tj _ h hn _ (ZV.2 ⟨i,h1,rfl⟩);rw[ZF]at hready;have hes:∀ e∈gx ops i,e∈D.done:=fun e he=>by
           have:=hready i h1;rw[ZF]at this;simpa using this e he
          split at hni
          .rename_i D' R hch;simp only[Zk]at hni;obtain⟨nd',h',rfl⟩:=hni;rw[dY]at hhi;obtain⟨hlt,hLi,hr⟩:=(dw hS'.lsz).1 hi;have hun:=sg hS'.lsz hlt hLi;refine hS'.chain (Q:=Q) hΓ hc hu hlt hcd hca hes hr hch hhi.1 fun ρ' a2 w2 hgr hx hS2 hnv=>?_;refine IH D' k nd' ms ρ' g _ pl' a2 w2 h' ?_ hS2 (by omega) (hk.fC (fun _ _=>rfl) hgr hnv);have hn2:=hhi.2;cases hRx:R.x with
           | none=>rw[hRx]at hn2 hx;subst hx;exact hn2
           | some y =>
            rw[hRx]at hn2 hx;exact hn2 ρ' (by rw[hx.2];exact hgr) hx.1
          .cases hni
      exact key g L pl a w hS hg
     .cases h
theorem CE {st:St} {t:Nat} {u:TV} (h:(jT ops st).tmps[t]?=some (some u)):st.tmps[t]?=some (some u)/\∀ j,dj ops j=true->fo ops j≠some t:=by
 unfold jT at h;simp only[mN,Zk]at h;obtain⟨v,hv,he⟩:=h;split at he
 .cases he
 split at he
 .cases he
 .rename_i hc;cases he;refine⟨hv,fun j hj hd=>hc ?_⟩;rw[aan,List.mem_filterMap];exact⟨j,ZQ.2 (vC hd),by rw[ZA hj];exact hd⟩
theorem KZ (hΓ:∀ s∈C.Γ,s.OK P):Nn P C (dk P C.Γ):=by
 intro ex hex d ops st k nd ms S w0 ρ a w id Q h hA hn hk;unfold dk at h;simp only at h;split at h
 .rename_i hcond;simp only[Zg]at hcond;obtain⟨⟨⟨hc,hnd⟩,hm⟩,hzb⟩:=hcond;have hu:=Iv hnd;refine wp_region_any hm ?_;have hsz:ops.toArray.size=ops.length:=by simp
  rw[hsz];have hL:∀ i,(Array.replicate ops.length false).getD i false=false:=fun i=>by
   by_cases hi:i<ops.length
   .simp [hi]
   .simp [hi]
  have hbel:RowKit.Below w.heap.size w {w with drawn:=w.drawn+1}:=(RowKit.Below.refl _ w).drew;have hA':MRel S w0 ρ st.mem {w with drawn:=w.drawn+1}:=hA.toMRel.below hbel;have hz:∀ j o t,dj ops j=true->ops[j]?=some o->o.op=.alloc t->∃ z,kl P t=some z:=by
   intro j o t _ ho hop;unfold Nf at hzb;rw[ZF]at hzb;have:=hzb o (Zb ho);rw[hop]at this;exact aah.1 this
  .refine vB (d:=d) hΓ hex hc hu hz _ ⟨jT ops st,[],[]⟩ _ nd ms ρ ops.length _ (fun _=>0) a _ h hn ⟨by simp,hA',hA.path,?_,hA.defers,?_,?_,?_,?_,?_,?_,?_,?_,?_,?_,?_,?_⟩ ?_ ?_
   .rw[hA.size];simp [jT]
   .intro t u ht;exact Or.inr (hA.tmp t u (CE ht).1)
   .intro i hi;rw[hL]at hi;cases hi
   .intro i hi;cases hi
   .intro i hi;cases hi
   .intro i hi;cases hi
   .intro i hi;cases hi
   .intro i hi;cases hi
   .intro j hj _ t u hjt ht;exact(CE ht).2 j hj hjt
   .intro j hj;rw[hL]at hj;cases hj
   .intro j j' hj;rw[hL]at hj;cases hj
   .intro j hj;rw[hL]at hj;cases hj
   .intro i hi;cases hi
   .unfold GL;exact abk List.countP_le_length (by simp)
   .intro ms' st' nd' ρ' a' w' hms hk' hg hA2 hn';simp only at hk';split at hk'
    .exact hk ms' st' nd' ρ' a' w' hms hk' hg hA2 hn'
    .cases hk'
 .cases h
end
theorem AH {k:Nat} : ∀ {l:List Hl},(dC l).mem k↔∃ H∈l,H.mem k
 | []=>by simp [dC,Hl.mem,Hl.none]
 | a::l=>by
  show(a.un (dC l)).mem k↔_;rw[Hl.dN,AH];simp
theorem uJ {w:World} : ∀ {l:List Hl},(∀ H∈l,H.sub w)->(dC l).sub w
 | [],_=>fun _ _ h=>by cases h
 | a::l,h=>Hl.GK (h a (by simp)) (uJ fun H hH=>h H (by simp [hH]))
theorem Hl.LG {a b:Hl} {w:World} (h:a.le b) (hs:b.sub w):a.sub w:=fun k o hk=>hs k o (h k o hk)
theorem Hl.dU {a b:Hl} (h:a.le b) {k:Nat} (hk:a.mem k):b.mem k:=by
 unfold Hl.mem at hk ⊢;obtain⟨o,ho⟩:=aah.1 hk;rw[h k o ho];rfl
theorem Hl.le_refl (a:Hl):a.le a:=fun _ _ h=>h
theorem Hl.cC (a b:Hl):a.le (a.un b):=fun k o h=>by unfold Hl.un;rw[h];rfl
theorem Hl.cD {a b:Hl} (d:a.cG b):b.le (a.un b):=fun k o h=>by
 unfold Hl.un;cases ha:a k with
 | some x=>exact absurd ⟨by unfold Hl.mem;rw[ha];rfl,by unfold Hl.mem;rw[h];rfl⟩ (d k)
 | none=>exact h
theorem Hl.yf {a b:Hl} {k:Nat} {o:Obj} (h:a k=some o):(a.un b) k=some o:=by unfold Hl.un;rw[h];rfl
theorem Hl.oH {a b:Hl} {k:Nat} (h:¬a.mem k):(a.un b) k=b k:=by
 unfold Hl.un;cases ha:a k with
 | some x=>exact absurd (by unfold Hl.mem;rw[ha];rfl) h
 | none=>rfl
theorem Hl.Ar {a b c:Hl} (h1:a.cG b) (h2:a.cG c):a.cG (b.un c):=fun k ⟨x,y⟩=>by
 rcases Hl.dN.1 y with y | y
 .exact h1 k ⟨x,y⟩
 .exact h2 k ⟨x,y⟩
theorem Hl.vA {a b c:Hl} (h:a.cG b) (hc:c.le b):a.cG c:=fun k ⟨x,y⟩=>h k ⟨x,Hl.dU hc y⟩
theorem Hl.KY (a:Hl):a.cG Hl.none:=fun k ⟨_,y⟩=>by simp [Hl.mem,Hl.none]at y
theorem Hl.fH {b:Nat} {o:Obj} {h:Hl} : (Hl.one b o).cG h↔¬h.mem b:=by
 constructor
 .exact fun d hb=>d b ⟨Hl.dH.2 rfl,hb⟩
 .exact fun d k ⟨x,y⟩=>by rw[Hl.dH]at x;subst x;exact d y
theorem Hl.kP (a:Hl):a.un Hl.none=a:=by
 funext k;unfold Hl.un Hl.none;cases a k<;>rfl
theorem bz (a:Hl):dC [a]=a:=Hl.kP a
def om (ρ:Env) (mem:Mem) (p:Nat):Hl:=match mem[p]? with
 | some r=>r.hl ρ
 | none=>Hl.none
def uu (ρ:Env) (mem:Mem) (f:List Nat):Hl:=dC (f.map (om ρ mem))
def HT (mem:Mem) (gs:List (List Nat)) (f:List Nat):Bool :=
 ((gs.flatten++f).all fun p=>match mem[p]? with | some r=>r.own | none=>false)&&decide (gs.flatten++f).Nodup
section
variable {P:Program} {ρ:Env} {mem:Mem} {w w':World} {Hs Rs:List Hl}
theorem BK {f:List Nat} {b:Nat} : (uu ρ mem f).mem b↔∃ p∈f,(om ρ mem p).mem b:=by
 unfold uu;rw[AH];constructor
 .rintro⟨H,hH,hb⟩;obtain⟨p,hp,rfl⟩:=ZV.1 hH;exact⟨p,hp,hb⟩
 .rintro⟨p,hp,hb⟩;exact⟨_,ZV.2 ⟨p,hp,rfl⟩,hb⟩
theorem Iu (hd:∀ (p q:Nat) r s,p≠q->mem[p]?=some r->mem[q]?=some s->r.own=true->(r.hl ρ).cG (s.hl ρ)) {f g:List Nat}
 (hf:∀ p∈f,∃ r,mem[p]?=some r/\r.own=true) (hg:∀ p∈g,∃ r,mem[p]?=some r/\r.own=true) (hne:∀ p∈f,∀ q∈g,p≠q):(uu ρ mem f).cG (uu ρ mem g):=by
 intro b ⟨h1,h2⟩;obtain⟨p,hp,h1⟩:=BK.1 h1;obtain⟨q,hq,h2⟩:=BK.1 h2;obtain⟨r,hr,ho⟩:=hf p hp;obtain⟨s,hs,_⟩:=hg q hq;unfold om at h1 h2;rw[hr]at h1;rw[hs]at h2;exact hd p q r s (hne p hp q hq) hr hs ho b ⟨h1,h2⟩
theorem uU.of (hm:MRel (fun b=>∃ H∈Hs,H.mem b) w ρ mem w') {gs:List (List Nat)} {f:List Nat} (hl:gs.length=Hs.length) (hok:HT mem gs f=true) :
 uU w w' Hs (gs.map (uu ρ mem)) (uu ρ mem f):=by
 unfold HT at hok;rw[Zg,Zc]at hok;obtain⟨hall,hnd⟩:=hok;have hown:∀ p∈gs.flatten++f,∃ r,mem[p]?=some r/\r.own=true:=by
  intro p hp;have:=ZF.1 hall p hp;split at this
  .rename_i r hr;exact⟨r,hr,this⟩
  .cases this
 have hg:∀ g∈gs,∀ p∈g,∃ r,mem[p]?=some r/\r.own=true:=fun g hg p hp=>hown p (aas _ (abE.2 ⟨g,hg,hp⟩));have hf:∀ p∈f,∃ r,mem[p]?=some r/\r.own=true:=fun p hp=>hown p (aao _ hp);have hsub:∀ l:List Nat,(∀ p∈l,∃ r,mem[p]?=some r/\r.own=true)->(uu ρ mem l).sub w':=by
  intro l hl;refine uJ fun H hH=>?_;obtain⟨p,hp,rfl⟩:=ZV.1 hH;obtain⟨r,hr,_⟩:=hl p hp;unfold om;rw[hr];exact hm.sub r (Zb hr)
 have hdom:∀ l:List Nat,(∀ p∈l,∃ r,mem[p]?=some r/\r.own=true)->∀ b,(uu ρ mem l).mem b->(∃ K∈Hs,K.mem b)\/w.heap.size<=b:=by
  intro l hl b hb;obtain⟨p,hp,hb⟩:=BK.1 hb;obtain⟨r,hr,ho⟩:=hl p hp;unfold om at hb;rw[hr]at hb;exact hm.own r (Zb hr) ho b hb
 rw[List.nodup_append]at hnd;obtain⟨hn1,hn2,hn3⟩:=hnd;have hn1':gs.flatten.Pairwise (·≠·):=hn1;rw[List.pairwise_flatten]at hn1';refine⟨hm.fz.os,hm.fz.tape,hm.fz.output,hm.fz.size,fun b hb hn=>hm.fz.block b hb (fun⟨H,hH,hbm⟩=>hn H hH hbm),by simp [hl],?_,hsub f hf,?_,hdom f hf,?_,?_⟩
 .intro H hH;obtain⟨g,hgm,rfl⟩:=ZV.1 hH;exact hsub g (hg g hgm)
 .intro H hH;obtain⟨g,hgm,rfl⟩:=ZV.1 hH;exact hdom g (hg g hgm)
 .intro p q H K hpq hH hK;rw[Zs,Zk]at hH hK;obtain⟨a,ha,rfl⟩:=hH;obtain⟨b,hb,rfl⟩:=hK;refine Iu hm.cG (hg a (Zb ha)) (hg b (Zb hb)) ?_;have hpw:=abf.1 hn1'.2;obtain⟨hp,hpe⟩:=Zi.1 ha;obtain⟨hq,hqe⟩:=Zi.1 hb;rcases Nat.lt_or_gt_of_ne hpq with h | h
  .have:=hpw p q hp hq h;rw[hpe,hqe]at this;exact this
  .have:=hpw q p hq hp h;rw[hpe,hqe]at this;exact fun x hx y hy e=>this y hy x hx e.symm
 .intro H hH;obtain⟨g,hgm,rfl⟩:=ZV.1 hH;exact Iu hm.cG (hg g hgm) hf fun p hp q hq=>hn3 p (abE.2 ⟨g,hgm,hp⟩) q hq
structure Entry (ρ:Env) (mem:Mem) (Hs Rs:List Hl):Prop where
 own:∀ r∈mem,r.own=true->∃ H∈Hs,(r.hl ρ).le H
 ro:∀ r∈mem,r.own=false->∃ R∈Rs,(r.hl ρ).le R
 cG:mem.Pairwise fun r s=>r.own=true->s.own=true->(r.hl ρ).cG (s.hl ρ)
 pos:∀ r∈mem,r.pos ρ
theorem Entry.Tm (h:Entry ρ mem Hs Rs) (h1:∀ H∈Hs,H.sub w) (h2:∀ R∈Rs,R.sub w) (h3:∀ H∈Hs,∀ R∈Rs,H.cG R):MRel (fun b=>∃ H∈Hs,H.mem b) w ρ mem w:=by
 refine⟨IA.refl _ _,fun r hr=>?_,fun r hr ho b hb=>?_,fun p q r s hpq hp hq ho=>?_,h.pos⟩
 .cases ho:r.own with
  | true=>obtain⟨H,hH,hle⟩:=h.own r hr ho;exact Hl.LG hle (h1 H hH)
  | false=>obtain⟨H,hH,hle⟩:=h.ro r hr ho;exact Hl.LG hle (h2 H hH)
 .obtain⟨H,hH,hle⟩:=h.own r hr ho;exact Or.inl ⟨H,hH,Hl.dU hle hb⟩
 .cases hs:s.own with
  | true =>
   have hpw:=abf.1 h.cG;obtain⟨hp',hpe⟩:=Zi.1 hp;obtain⟨hq',hqe⟩:=Zi.1 hq;rcases Nat.lt_or_gt_of_ne hpq with hlt | hlt
   .have:=hpw p q hp' hq' hlt;rw[hpe,hqe]at this;exact this ho hs
   .have:=hpw q p hq' hp' hlt;rw[hpe,hqe]at this;exact Hl.lJ (this hs ho)
  | false =>
   obtain⟨H,hH,hle⟩:=h.own r (Zb hp) ho;obtain⟨R,hR,hle'⟩:=h.ro s (Zb hq) hs;exact Hl.lJ (Hl.vA (Hl.lJ (Hl.vA (h3 H hH R hR) hle')) hle)
def postOf (s:Spec) (xs:List Value) (Hs Rs:List Hl):Env->Mem->TV->Prop:=fun ρ mem r =>
 (∀ (p q:Nat) r s,p≠q->mem[p]?=some r->mem[q]?=some s->r.own=true->(r.hl ρ).cG (s.hl ρ))->∃ gs f,gs.length=Hs.length/\HT mem gs f=true/\(∃ ρ2,r.ev ρ=(cu 0 s.res).ev ρ2/\fg 0 s.res ρ2)/\s.post xs Hs Rs (r.ev ρ) (gs.map (uu ρ mem)) (uu ρ mem f)
structure bU (P:Program) (Γ:List Spec) (f:FuncId) where
 Λ:pF
 lim:Nat:=100
 fuel:Nat:=400
 args:List TV
 mem:Mem
 nv:Nat
 path:List E:=[]
 nd:Nd
 ok:SW P Γ (dk P Γ) Λ lim fuel f args mem nv path=some nd
theorem Spec.bJ {s:Spec} {Γ:List Spec} (hΓ:∀ t∈Γ,t.OK P)
 (h:∀ xs Hs Rs,Hs.length=s.own.length->Rs.length=s.rd.length->s.pre xs Hs Rs->∃ (W:bU P Γ s.fn) (ρ:Env) (inv:Nat->Env->Prop) (mu:Nat->Env->Nat),
  W.args.map (TV.ev ρ)=xs/\Entry ρ W.mem Hs Rs/\Path ρ W.path/\W.nd.holds ⟨Γ,inv,mu,postOf s xs Hs Rs⟩ (fun _=>0) ρ):s.OK P:=by
 intro w xs Hs Rs hl1 hl2 hs1 hs2 hd1 hd2 hpre;obtain⟨W,ρ,inv,mu,hx,hE,hp,hn⟩:=h xs Hs Rs hl1 hl2 hpre;have hm:=hE.Tm hs1 hs2 hd2;have:=vW (C:=⟨Γ,inv,mu,postOf s xs Hs Rs⟩) hΓ (KZ (C:=⟨Γ,inv,mu,postOf s xs Hs Rs⟩) hΓ) W.ok hm hp hn;rw[hx]at this;refine this.mono ?_;rintro e w' ⟨ρ',mem',r,rfl,hg,hm',hp'⟩;obtain⟨gs,f,hl,hok,⟨ρ2,h2,h3⟩,hpost⟩:=hp' hm'.cG;refine⟨ρ2,gs.map (uu ρ' mem'),uu ρ' mem' f,by rw[h2],h3,uU.of hm' hl hok,?_⟩;rw[<-h2];exact hpost
end
def bK (l:List Int):List Value:=l.map (Value.int .u8)
theorem cP (l:List Int):(bK l).length=l.length:=ZD _
theorem ft (l:List Int) (j:Nat):(bK l)[j]?=(l[j]?).map (Value.int .u8):=Zs
theorem fY (a b:List Int):bK (a++b)=bK a++bK b:=ZP
theorem jy {a b:List Int} (h:bK a=bK b):a=b:=by
 apply ZN;intro j;have:=ZW (fun l=>l[j]?) h;simp only[ft]at this;cases ha:a[j]?<;>cases hb:b[j]?<;>simp [ha,hb]at this ⊢
 exact this
def mo (R:Hl) (v:Value) (bs:List Int):Prop :=
 ∃ (x y:Int) (c:Nat),v=.slice (aA x y) bs.length c/\0<=y/\((x= -1/\bs=[])\/(0<=x/\∀ j z,bs[j]?=some z->R.cell x.toNat (y.toNat+j)=some (.int .u8 z)))
theorem jG {x y x' y':Int} (h0:-1<=x) (hy:0<=y) (h1:-1<=x') (hy':0<=y') (h:aA x y=aA x' y'):x=x'/\(0<=x->y=y'):=by
 rcases aal x 0 with hx | hx
 .have e:x= -1:=by omega
  subst e;rw[fa]at h;rcases aal x' 0 with hx' | hx'
  .exact⟨by omega,fun h=>by omega⟩
  .rw[au hx']at h;cases h
 .rcases aal x' 0 with hx' | hx'
  .have e:x'= -1:=by omega
   subst e;rw[fa,au hx]at h;cases h
  .rw[au hx,au hx']at h;simp only[Zj,Addr.mk.injEq,Zm]at h;exact⟨by omega,fun _=>by omega⟩
theorem mo.uniq {R:Hl} {v:Value} {a b:List Int} (h1:mo R v a) (h2:mo R v b):a=b:=by
 obtain⟨x,y,c,rfl,hy,h1⟩:=h1;obtain⟨x',y',c',he,hy',h2⟩:=h2;simp only[Value.slice.injEq]at he;obtain⟨hp,hl,_⟩:=he;have hx:-1<=x:=by rcases h1 with ⟨rfl,_⟩ | ⟨h,_⟩<;>omega
 have hx':-1<=x':=by rcases h2 with ⟨rfl,_⟩ | ⟨h,_⟩<;>omega
 obtain⟨rfl,hyy⟩:=jG hx hy hx' hy' hp;rcases h1 with ⟨rfl,rfl⟩ | ⟨h0,h1⟩
 .rw[Zh]at hl;exact(Za.1 hl.symm).symm
 .have:=hyy h0;subst this;rcases h2 with ⟨rfl,_⟩ | ⟨_,h2⟩
  .omega
  .apply ZN;intro j;cases ha:a[j]? with
   | some z =>
    have hj:j<b.length:=by have:=(Zi.1 ha).1;omega
    have e1:=h1 j z ha;have e2:=h2 j _ (Y8 hj);rw[e1]at e2;simp only[Zj,Value.int.injEq,Zy]at e2;rw[Y8 hj,e2]
   | none =>
    have:a.length<=j:=List.getElem?_eq_none_iff.1 ha;rw[Zv (by omega)]
def fp (R:Hl) (v:Value) (bs:List Int):Prop :=
 ∃ (x y:Int) (c:Nat),v=.slice (aA x y) bs.length c/\0<=y/\(bs=[]\/(0<=x/\∀ j z,bs[j]?=some z->R.cell x.toNat (y.toNat+j)=some (.int .u8 z)))
theorem mo.w {R:Hl} {v:Value} {bs:List Int} (h:mo R v bs):fp R v bs:=by
 obtain⟨x,y,c,hv,hy,h⟩:=h;exact⟨x,y,c,hv,hy,h.imp (·.2) id⟩
theorem fp.uniq {R:Hl} {v:Value} {a b:List Int} (h1:fp R v a) (h2:fp R v b):a=b:=by
 obtain⟨x,y,c,rfl,hy,h1⟩:=h1;obtain⟨x',y',c',he,hy',h2⟩:=h2;have hl:a.length=b.length:=by simp only[Value.slice.injEq]at he;exact he.2.1
 rcases h1 with rfl | ⟨h0,h1⟩
 .exact(Za.1 hl.symm).symm
 .rcases h2 with rfl | ⟨h0',h2⟩
  .exact Za.1 hl
  .refine mo.uniq (R:=R) (v:=.slice (aA x y) a.length c) ⟨x,y,c,rfl,hy,Or.inr ⟨h0,h1⟩⟩ ⟨x',y',c',he,hy',Or.inr ⟨h0',h2⟩⟩
def cH (F:Hl) (e:TypeId) (v:Value) (bs:List Int):Prop:=bE F e 1 v bs.length (bK bs)
theorem cH.rd {F:Hl} {e:TypeId} {v:Value} {bs:List Int} (h:cH F e v bs):mo F v bs:=by
 obtain⟨hl,h⟩:=h;rcases h with ⟨rfl,hn⟩ | ⟨g,cap,cur,rfl,hg,hle,hm,hs,ht⟩
 .exact⟨-1,0,0,by rw[fa,hn],by omega,Or.inl ⟨rfl,Za.1 hn⟩⟩
 .refine⟨g,0,cap,by rw[au (by omega)];simp,by omega,Or.inr ⟨by omega,fun j z hz=>?_⟩⟩;have hj:=(Zi.1 hz).1;simp only[Y7,Hl.cell,hg,abv,ZM];have e1:(cur.toList.take (bs.length*1))[j]?=some (.int .u8 z):=by rw[ht,ft,hz];rfl
  rw[Z9 (by omega),aa7]at e1;exact e1
theorem mo.at {R:Hl} {x y l c:Int} {bs:List Int} (h:mo R (.slice (aA x y) l.toNat c.toNat) bs) (hx:-1<=x) (hy:0<=y) (hl:0<=l) :
 l=bs.length/\((x= -1/\bs=[])\/(0<=x/\∀ j z,bs[j]?=some z->R.cell x.toNat (y.toNat+j)=some (.int .u8 z))):=by
 obtain⟨x',y',c',he,hy',h⟩:=h;simp only[Value.slice.injEq]at he;obtain⟨hp,he,_⟩:=he;have hx':-1<=x':=by rcases h with ⟨rfl,_⟩ | ⟨h,_⟩<;>omega
 obtain⟨rfl,hyy⟩:=jG hx hy hx' hy' hp;refine⟨by omega,?_⟩;rcases h with h | ⟨h0,h⟩
 .exact Or.inl h
 .have:=hyy h0;subst this;exact Or.inr ⟨h0,h⟩
theorem dA {R:Hl} {x y n:Nat} {bs:List Int} (h:∀ j z,bs[j]?=some z->R.cell x (y+j)=some (.int .u8 z)) (hn:n<=bs.length):cy R x y n=true:=by
 unfold cy;rw[ZF];intro j hj;have hj:=ZQ.1 hj;rw[h j _ (Y8 (by omega))];simp [bY]
theorem mC {R:Hl} {x y:Nat} {bs:List Int} (h:∀ j z,bs[j]?=some z->R.cell x (y+j)=some (.int .u8 z)):fe R x y bs.length=bs:=by
 unfold fe;apply ZN;intro j;rw[Zs];rcases aaa j bs.length with hj | hj
 .rw[ZI hj,ZS,h j _ (Y8 hj),Y8 hj];rfl
 .rw[Zv (by simpa using hj),Zv hj];rfl
theorem cH.shape {F:Hl} {e:TypeId} {x y l c:Int} {bs:List Int} (h:cH F e (.slice (aA x y) l.toNat c.toNat) bs):(x= -1\/(0<=x/\y.toNat=0))\/x< -1:=by
 obtain⟨hl,h⟩:=h;rcases aal x (-1)with hx | hx
 .exact Or.inr hx
 .refine Or.inl ?_;rcases h with ⟨h,hn⟩ | ⟨g,cap,cur,h,hg,hle,hm,hs,ht⟩
  .rcases aal x 0 with h0 | h0
   .exact Or.inl (by omega)
   .rw[au h0]at h;cases h
  .rcases aal x 0 with h0 | h0
   .exact Or.inl (by omega)
   .rw[au h0]at h;simp only[Value.slice.injEq,Zj,Addr.mk.injEq]at h;exact Or.inr ⟨h0,h.1.2.1⟩
theorem ib {ρ:Env} {h:Nat} {x y:E} : ∀ (n j:Nat) (bs:List Int),bs.length=n->(∀ i z,bs[i]?=some z->(ρ.h h).cell (aC ρ x).toNat ((aC ρ y).toNat+(j+i))=some (.int .u8 z))->(bo h x y j (List.replicate n (Kd.int .u8))).map (CV.ev ρ)=bK bs
 | 0,_,bs,hl,_=>by rw[Za.1 hl];rfl
 | n+1,j,bs,hl,hc=>by
  cases bs with
  | nil=>cases hl
  | cons b bs =>
   rw[abM];simp only[bo,Zf,bK,Zf]
   congr 1
   .have:=hc 0 b rfl;rw[Zp]at this;simp only[rT,CV.ev,aQ,this,cW]
   .refine ib n (j+1) bs (by simpa using hl) fun i z hz=>?_;have:=hc (i+1) z (by simpa using hz);rwa[show j+(i+1)=j+1+i by omega]at this
theorem wrap_i64 {n:Int} (h0:-9223372036854775808<=n) (h1:n<=9223372036854775807):IntKind.i64.wrap n=n:=by rw[IntKind.wrap_i64];omega
theorem Hl.AY (b y:Nat) (c:Array Value) (T:TypeId) (fr:Nat×Nat) (vs:List Value):(Hl.one b (.cells c T fr)).put b y vs=Hl.one b (.cells (cf c.toList y vs).toArray T fr):=by
 funext k
 unfold Hl.put;rw[Hl.bF];unfold Hl.one;split<;>rfl
theorem Hl.xc (b:Nat) (o o':Obj):(Hl.one b o).setObj b o'=Hl.one b o':=by
 funext k;unfold Hl.setObj Hl.one;split<;>simp_all
theorem Hl.j7 (b:Nat) (c:Array Value) (T:TypeId) (fr:Nat×Nat) (y:Nat):(Hl.one b (.cells c T fr)).cell b y=c[y]?:=by
 unfold Hl.cell;rw[Hl.bF]
theorem Hl.FF (b:Nat) (c:Array Value) (T:TypeId) (y n:Nat) (h:y+n<=c.size):(Hl.one b (.cells c T (0,0))).wr b y n=true:=by
 unfold Hl.wr;rw[Hl.bF];simp [h]
theorem yz {α:Type} {l m:List α} {o:Nat} (h:o+m.length<=l.length):(cf l o m).length=l.length:=by
 unfold cf;simp only[Y9,ZE,ZX];omega
theorem Gt (l m:List Int) (o:Nat):cf (bK l) o (bK m)=bK (cf l o m):=by
 unfold cf;rw[fY,fY,cP];unfold bK;rw[abn,abI]
theorem qB {α:Type} {l m:List α} {o j:Nat} (h:o+m.length<=l.length):(cf l o m)[j]?=if o<=j/\j<o+m.length then m[j-o]? else l[j]?:=by
 unfold cf;by_cases h1:j<o
 .rw[Zo (by omega),ZK,ZH (by rw[ZE];omega),Z9 h1]
 .by_cases h2:j<o+m.length
  .rw[ZA ⟨by omega,h2⟩,ZK,Zz (by rw[ZE];omega),ZE,ab5 (by omega),ZH (by omega)]
  .rw[Zo (by omega),Zz (by rw[Y9,ZE];omega),Y9,ZE,ab5 (by omega),ZZ]
   congr 1;omega
theorem AG {A B C:Hl} (h1:A.cG B) (h2:A.cG C) (h3:B.cG C):A.le (dC [A,B,C])/\B.le (dC [A,B,C])/\C.le (dC [A,B,C]):=by
 show A.le (A.un (B.un (C.un Hl.none)))/\B.le (A.un (B.un (C.un Hl.none)))/\C.le (A.un (B.un (C.un Hl.none)));rw[Hl.kP];have h12:A.cG (B.un C):=Hl.Ar h1 h2;refine⟨Hl.cC _ _,fun k o h=>Hl.cD h12 k o (Hl.cC _ _ k o h),fun k o h=>Hl.cD h12 k o (Hl.cD h3 k o h)⟩
theorem Hl.gZ {a b:Nat} {o p:Obj} (h:a≠b):(Hl.one a o).cG (Hl.one b p):=Hl.fH.2 fun hb=>h (Hl.dH.1 hb)
def ku (k:IntKind) (es:Array MapEntry) (l:List (Int×Value)):Prop:=es.toList.map (fun e=>(e.key,e.val))=l.map fun p=>(Value.int k p.1,p.2)
def iF (i:Int):List (Int×Value)->Nat->Option (Nat×Value)
 | [],_=>none
 | p::l,n=>if i=p.1 then some (n,p.2)else iF i l (n+1)
theorem tE {k:IntKind} {i:Int} : ∀ (es:List MapEntry) (l:List (Int×Value)) (n:Nat),es.map (fun e=>(e.key,e.val))=l.map (fun p=>(Value.int k p.1,p.2))->Instr.findNow (.int k) (.int k i) es n=some (iF i l n)
 | [],[],_,_=>rfl
 | [],_::_,_,h=>by cases h
 | _::_,[],_,h=>by cases h
 | e::es,p::l,n,h=>by
  simp only[Zf,Ze,Z0]at h;obtain⟨⟨hk,hv⟩,h⟩:=h;unfold Instr.findNow iF;rw[hk];simp only[Instr.sameNow,ZG];by_cases hi:i=p.1
  .simp [hi,hv]
  .have:(i==p.1)=false:=by simp [hi]
   simp only[this,Zo hi];exact tE es l (n+1) h
theorem kJ {k:IntKind} {es:Array MapEntry} {l:List (Int×Value)} (h:ku k es l) (i:Int):kI (.int k) (.int k i) es=some (iF i l 0):=tE _ _ 0 h
theorem wN {i:Int} : ∀ {l:List (Int×Value)} {n:Nat},iF i l n=none↔∀ p∈l,p.1≠i
 | [],_=>by simp [iF]
 | p::l,n=>by
  unfold iF;by_cases hi:i=p.1
  .simp [hi]
  .rw[Zo hi,wN];simp only[Zl,forall_eq_or_imp];exact⟨fun h=>⟨fun e=>hi e.symm,h⟩,fun h=>h.2⟩
theorem wO {i:Int} : ∀ {l:List (Int×Value)} {n j:Nat} {v:Value},iF i l n=some (j,v)->n<=j/\l[j-n]?=some (i,v)
 | [],_,_,_,h=>by cases h
 | p::l,n,j,v,h=>by
  unfold iF at h;split at h
  .rename_i e;cases h;exact⟨ZB _,by rw[ab1,e];rfl⟩
  .obtain⟨h1,h2⟩:=wO h;exact⟨by omega,by rw[show j-n=(j-(n+1))+1 by omega];exact h2⟩
theorem aE (q:Env) (n:Nat):newHs q n 0=[]:=rfl
theorem aN (q:Env) (n:Nat):newHs q n 1=[q.h n]:=by unfold newHs;rw[List.range_one];rfl
theorem aT {α:Type} {a:α} {l:List α} : (a::l≠[])=True:=by simp
def aM:pF:=fun _=>none
def sE (ins:List Cp) (q:Env):List Value:=(bf 0 ins).map (SV.ev q)
def iP (n:Nat) (ρ:Env):Ck->Prop
 | .ptr=>True/\0<=ρ.i (n+1)
 | .sl=>True/\0<=ρ.i (n+1)/\0<=ρ.i (n+2)/\0<=ρ.i (n+3)
 | .slw=>True/\0<=ρ.i (n+1)/\0<=ρ.i (n+2)/\0<=ρ.i (n+3)
 | _=>True
def ck:Nat->List Ck->Env->Prop
 | _,[],_=>True
 | n,k::l,ρ=>iP n ρ k/\ck (n+k.len) l ρ
def Hb (n:Nat) (ρ:Env):Cp->Prop
 | .one k=>iP n ρ k
 | .agg ks=>ck n ks ρ
def jR:Nat->List Cp->Env->Prop
 | _,[],_=>True
 | n,c::l,ρ=>Hb n ρ c/\jR (n+c.len) l ρ
theorem il.w {n:Nat} {ρ:Env} {k:Ck} (h:il n ρ k):iP n ρ k:=by
 cases k<;>first | exact trivial | exact⟨trivial,h.2⟩
theorem dd.w {ρ:Env} : ∀ {ks:List Ck} {n:Nat},dd n ks ρ->ck n ks ρ
 | [],_,_=>trivial
 | _::_,_,h=>⟨h.1.w,dd.w h.2⟩
theorem fg.w {ρ:Env} : ∀ {cs:List Cp} {n:Nat},fg n cs ρ->jR n cs ρ
 | [],_,_=>trivial
 | c::_,_,h=>⟨(match c,h.1 with | .one _,h=>il.w h | .agg _,h=>dd.w h),fg.w h.2⟩
def pQ (f:FuncId) (ins res:List Cp) (N:List Value->Prop) (G:List Value->Value):Spec where
 fn:=f
 own:=[]
 rd:=[]
 res:=res
 pre:=fun xs _ _=>(∃ q,jR 0 ins q/\xs=sE ins q)/\N xs
 post:=fun xs _ _ v _ _=>v=G xs
def pg (res:List Cp) (v:Value):Prop:=∃ ρ2,v=(cu 0 res).ev ρ2/\fg 0 res ρ2
section
variable {P:Program} {Γ:List Spec} {f:FuncId} {ins res:List Cp} {N:List Value->Prop} {G:List Value->Value}
theorem jE (hΓ:∀ t∈Γ,t.OK P) (W:bU P Γ f) (ha:W.args=(bf 0 ins).map .sv) (hm:W.mem=[]) (hp:W.path=[])
 (hres:∀ q,jR 0 ins q->N (sE ins q)->pg res (G (sE ins q)))
 (h:∀ q,jR 0 ins q->N (sE ins q)->∃ inv mu,W.nd.holds ⟨Γ,inv,mu,fun ρ _ r=>r.ev ρ=G (sE ins q)⟩ (fun _=>0) q):(pQ f ins res N G).OK P:=by
 intro w xs Hs Rs hl1 hl2 hs1 hs2 hd1 hd2 ⟨⟨q,hq,hx⟩,hN⟩;subst hx;have e0:Hs=[]:=Za.1 hl1;subst e0;obtain⟨inv,mu,hn⟩:=h q hq hN;have hm0:MRel (fun _=>False) w q W.mem w:=by
  rw[hm];exact⟨IA.refl _ _,(fun r hr=>nomatch hr),(fun r hr=>nomatch hr),(fun p _ r _ _ hp=>by simp at hp),(fun r hr=>nomatch hr)⟩
 have hp0:Path q W.path:=by rw[hp];exact fun _ h=>nomatch h
 have:=vW (C:=⟨Γ,inv,mu,fun ρ _ r=>r.ev ρ=G (sE ins q)⟩) hΓ (KZ (C:=⟨Γ,inv,mu,fun ρ _ r=>r.ev ρ=G (sE ins q)⟩) hΓ) W.ok hm0 hp0 hn;have ex:(W.args.map (TV.ev q))=sE ins q:=by
  rw[ha,aaF];rfl
 rw[ex]at this;refine this.mono ?_;rintro e w' ⟨ρ',mem',r,rfl,hg,hm',hpost⟩;obtain⟨ρ2,h1,h2⟩:=hres q hq hN;refine⟨ρ2,[],Hl.none,(by rw[hpost,h1];rfl),h2,⟨hm'.fz.os,hm'.fz.tape,hm'.fz.output,hm'.fz.size,fun b hb _=>hm'.fz.block b hb id,rfl,(fun _ h=>nomatch h),(fun _ _ h=>nomatch h),(fun _ h=>nomatch h),(fun b h=>by simp [Hl.mem,Hl.none]at h),(fun p _ _ _ _ h=>by simp at h),(fun _ h=>nomatch h)⟩,?_⟩;exact h1.symm
theorem nf (b:Bool):pg [.one .bool] (.bool b):=⟨⟨fun _=>0,fun _=>b,fun _=>.empty,fun _=>.tuple #[],fun _=>Hl.none⟩,rfl,trivial,trivial⟩
theorem sZ (k:IntKind) (n:Int):pg [.one (.int k)] (.int k n):=⟨⟨fun _=>n,fun _=>false,fun _=>.empty,fun _=>.tuple #[],fun _=>Hl.none⟩,rfl,trivial,trivial⟩
end
def Qm:Value->List Value
 | .agg cs=>cs.toList
 | v=>[v]
def Tf:Value->Int
 | .slice _ n _=>n
 | _=>0
def bS:List Value->List Kd->Prop
 | [],[]=>True
 | v::l,k::m=>bY (some v) k=true/\bS l m
 | _,_=>False
theorem iy:∀ {l:List Value} {ks:List Kd},bS l ks->l.length=ks.length
 | [],[],_=>rfl
 | _::l,_::m,h=>by simp [iy h.2]
 | [],_::_,h=>h.elim
 | _::_,[],h=>h.elim
def bO (R:Hl) (v:Value) (ks:List Kd) (rows:List (List Value)):Prop :=
 ∃ (x y:Int) (c:Nat),v=.slice (aA x y) rows.length c/\0<=y/\(rows=[]\/(0<=x/\∀ (i:Nat) row,rows[i]?=some row->bS row ks/\∀ j u,row[j]?=some u->R.cell x.toNat (y.toNat+i*ks.length+j)=some u))
theorem ke {R:Hl} {x:Nat} : ∀ {row:List Value} {ks:List Kd} (y:Nat),bS row ks->(∀ j u,row[j]?=some u->R.cell x (y+j)=some u)->ua R x y ks=true
 | [],[],_,_,_=>rfl
 | v::l,k::m,y,h,hc=>by
  simp only[ua,Zg];refine⟨?_,ke (y+1) h.2 fun j u hu=>?_⟩
  .have:=hc 0 v rfl;rw[Zp]at this;rw[this];exact h.1
  .have:=hc (j+1) u (by simpa using hu);rwa[show y+(j+1)=y+1+j by omega]at this
 | [],_::_,_,h,_=>h.elim
 | _::_,[],_,h,_=>h.elim
theorem fj {ρ:Env} {h:Nat} {x y:E} : ∀ (row:List Value) (ks:List Kd) (j:Nat),bS row ks->(∀ i u,row[i]?=some u->(ρ.h h).cell (aC ρ x).toNat ((aC ρ y).toNat+(j+i))=some u)->(bo h x y j ks).map (CV.ev ρ)=row
 | [],[],_,_,_=>rfl
 | v::l,k::m,j,hr,hc=>by
  simp only[bo,Zf];have h0:=hc 0 v rfl;rw[Zp]at h0
  congr 1
  .have:=qv (h:=h) (x:=x) (y:=y) (j:=j) (k:=k) (ρ:=ρ) (by rw[uD,h0];exact hr.1);rw[h0]at this;exact(Z1 this).symm
  .refine fj l m (j+1) hr.2 fun i u hu=>?_;have:=hc (i+1) u (by simpa using hu);rwa[show j+(i+1)=j+1+i by omega]at this
 | [],_::_,_,h,_=>h.elim
 | _::_,[],_,h,_=>h.elim
theorem mA {P:Program} {s:Spec} (ho:s.own=[]) (h:∀ w xs Rs,(∀ R∈Rs,R.sub w)->s.pre xs [] Rs->∃ v,pg s.res v/\(Calls P s.fn xs.toArray w fun e w'=>e=.returned v/\RowKit.Below w.heap.size w w')/\s.post xs [] Rs v [] Hl.none):s.OK P:=by
 intro w xs Hs Rs hl1 hl2 hs1 hs2 hd1 hd2 hp;rw[ho]at hl1;have e0:Hs=[]:=Za.1 hl1;subst e0;obtain⟨v,⟨ρ2,h1,h2⟩,hc,hpost⟩:=h w xs Rs hs2 hp;refine hc.mono ?_;rintro e w' ⟨rfl,hb⟩;refine⟨ρ2,[],Hl.none,(by rw[h1]),h2,⟨hb.os,hb.tape,hb.output,hb.size,fun b hl _=>hb.block b hl,rfl,(fun _ h=>nomatch h),(fun _ _ h=>nomatch h),(fun _ h=>nomatch h),(fun b h=>by simp [Hl.mem,Hl.none]at h),(fun p _ _ _ _ h=>by simp at h),(fun _ h=>nomatch h)⟩,?_⟩;rw[<-h1];exact hpost
def bw (l:List Int) (b:Bool) (hs:List Hl):Env:=⟨fun k=>l.getD k 0,fun _=>b,fun _=>.empty,fun _=>.tuple #[],fun k=>hs.getD k Hl.none⟩
theorem jP {m:Nat} {ρ ρ':Env} (h:ah m ρ ρ'):∀ (ks:List Ck) (n:Nat),n+bR ks<=m->ck n ks ρ->ck n ks ρ'
 | [],_,_,_=>trivial
 | k::ks,n,hm,hn=>by
  have hl:bR (k::ks)=k.len+bR ks:=by simp [bR]
  rw[hl]at hm;refine⟨?_,jP h ks (n+k.len) (by omega) hn.2⟩;have h1:=hn.1;cases k<;>simp only[iP,Ck.len]at h1 hm ⊢
  .rw[h.i (n+1)];exact h1
  .rw[h.i (n+1),h.i (n+2),h.i (n+3)];exact h1
  .rw[h.i (n+1),h.i (n+2),h.i (n+3)];exact h1
def Og:List Ck->Bool
 | []=>true
 | k::l=>(match k with | .ptr | .sl | .map | .slw=>false | _=>true)&&Og l
theorem de:∀ (ks:List Ck) (n:Nat) (ρ:Env),Og ks=true->dd n ks ρ
 | [],_,_,_=>trivial
 | k::ks,n,ρ,h=>by
  simp only[Og,Zg]at h;refine⟨?_,de ks _ ρ h.2⟩;cases k<;>first | exact trivial | cases h.1
theorem fQ {a b:Env} {n m:Nat} {ks:List Ck} (h:ah m a b) (hm:n+bR ks<=m):(SV.agg (al n ks)).ev b=(SV.agg (al n ks)).ev a:=by
 simp only[SV.ev];rw[CV.gn (h.mono hm) _ (du ks n)]
def jA:Ck->Kd
 | .int k=>.int k | .bool=>.bool | .str=>.str | .any=>.any | .ptr=>.ptr | .sl=>.slice | .map=>.map | .slw=>.slice
theorem IM (k:Ck) (n:Nat):(k.cv n).upto (n+k.len)=true:=by
 cases k<;>simp [Ck.cv,Ck.len,CV.upto,E.upto]
theorem Ok (k:Ck) (n:Nat) (v:Value) (ρ:Env) (h:bY (some v) (jA k)=true):∃ ρ',ah n ρ ρ'/\iP n ρ' k/\(k.cv n).ev ρ'=v:=by
 have slc:bY (some v) .slice=true->∃ ρ',ah n ρ ρ'/\iP n ρ' .sl/\(Ck.sl.cv n).ev ρ'=v:=fun h=>by
  cases v with
  | slice a l c =>
   obtain⟨x,y,rfl,hy,_⟩:=pn a;refine⟨(((ρ.fq n x).fq (n+1) y).fq (n+2) l).fq (n+3) c,(((cM _ _ x (ZB _)).trans (cM _ _ y (by omega))).trans (cM _ _ _ (by omega))).trans (cM _ _ _ (by omega)),?_,?_⟩
   .simp [iP,Env.fq];exact hy
   .simp [Ck.cv,CV.ev,aj,Env.fq]
  | _=>simp [bY]at h
 cases k with
 | int k =>
  cases v<;>simp [bY,jA]at h
  subst h;rename_i x;exact⟨ρ.fq n x,cM _ _ x (ZB _),trivial,by simp [Ck.cv,CV.ev,aj,ll]⟩
 | bool =>
  cases v<;>simp [bY,jA]at h
  rename_i x;exact⟨ρ.JR n x,uV _ _ x (ZB _),trivial,by simp [Ck.cv,CV.ev,cn,Env.JR]⟩
 | str =>
  cases v<;>simp [bY,jA]at h
  rename_i x;exact⟨ρ.OX n x,Ed _ _ x (ZB _),trivial,by simp [Ck.cv,CV.ev,av,Env.OX]⟩
 | any=>exact⟨ρ.DR n v,uX _ _ v (ZB _),trivial,by simp [Ck.cv,CV.ev,Env.DR]⟩
 | ptr =>
  have key:∀ x y:Int,-1<=x->0<=y->v=.pointer (aA x y)->∃ ρ',ah n ρ ρ'/\iP n ρ' .ptr/\(Ck.ptr.cv n).ev ρ'=v:=by
   intro x y hx hy hv;refine⟨(ρ.fq n x).fq (n+1) y,(cM _ _ x (ZB _)).trans (cM _ _ y (by omega)),?_,?_⟩
   .simp [iP,Env.fq];exact hy
   .simp [Ck.cv,CV.ev,aj,Env.fq,hv]
  cases v with
  | pointer a =>
   cases a with
   | none=>exact key (-1) 0 (by omega) (by omega) rfl
   | some a =>
    obtain⟨b,o,s⟩:=a;cases s with
    | none=>exact key b o (by omega) (by omega) (by simp [au])
    | some s=>simp [bY,jA]at h
  | _=>simp [bY,jA]at h
 | sl=>exact slc h
 | slw=>exact slc h
 | map =>
  cases v with
  | map a =>
   cases a with
   | none=>exact⟨ρ.fq n (-1),cM _ _ _ (ZB _),trivial,by simp [Ck.cv,CV.ev,aj,Env.fq]⟩
   | some r=>exact⟨ρ.fq n r,cM _ _ _ (ZB _),trivial,by show Value.map (if(ρ.fq n r).i n= -1 then none else some ((ρ.fq n r).i n).toNat)=_;rw[ll,Zo (by omega),Y7]⟩
  | _=>simp [bY,jA]at h
theorem dI:∀ (ks:List Ck) (n:Nat) (row:List Value) (ρ:Env),bS row (ks.map jA)->∃ ρ',ah n ρ ρ'/\ck n ks ρ'/\(al n ks).map (CV.ev ρ')=row
 | [],n,[],ρ,_=>⟨ρ,ah.refl _ _,trivial,rfl⟩
 | k::ks,n,v::row,ρ,h=>by
  obtain⟨ρ1,g1,n1,e1⟩:=Ok k n v ρ h.1;obtain⟨ρ2,g2,n2,e2⟩:=dI ks (n+k.len) row ρ1 h.2;refine⟨ρ2,g1.tr g2,⟨?_,n2⟩,?_⟩
  .have:=jP (ks:=[k]) (n:=n) g2 (by simp [bR]) ⟨n1,trivial⟩;exact this.1
  .simp only[al,Zf,e2];rw[CV.cx g2 _ (IM k n),e1]
 | [],_,_::_,_,h=>h.elim
 | _::_,_,[],_,h=>h.elim
def Ub (n0:Nat) (l m:List CV):List As:=(mL n0 l m).getD []
theorem bO.uniq {R:Hl} {v:Value} {ks:List Kd} {a b:List (List Value)} (h1:bO R v ks a) (h2:bO R v ks b):a=b:=by
 obtain⟨x,y,c,rfl,hy,h1⟩:=h1;obtain⟨x',y',c',he,hy',h2⟩:=h2;simp only[Value.slice.injEq]at he;obtain⟨he,hl,rfl⟩:=he;rcases h1 with rfl | ⟨hx,h1⟩
 .exact(Za.1 hl.symm).symm
 rcases h2 with rfl | ⟨hx',h2⟩
 .exact Za.1 hl
 obtain⟨rfl,hyy⟩:=jG (by omega) hy (by omega) hy' he;have hyy:=hyy hx;subst hyy;apply aaL hl;intro i hi hi';obtain⟨k1,c1⟩:=h1 i _ (Y8 hi);obtain⟨k2,c2⟩:=h2 i _ (Y8 hi');apply aaL (by rw[iy k1,iy k2]);intro j hj hj';have e1:=c1 j _ (Y8 hj);have e2:=c2 j _ (Y8 hj');rw[e1]at e2;exact Z1 e2
theorem bO.at {R:Hl} {x y l c:Int} {ks:List Kd} {rows:List (List Value)} (h:bO R (.slice (aA x y) l.toNat c.toNat) ks rows) (hx:-1<=x) (hy:0<=y) (hl:0<=l) :
 l=rows.length/\∀ (i:Nat) row,rows[i]?=some row->0<=x/\bS row ks/\∀ j u,row[j]?=some u->R.cell x.toNat (y.toNat+i*ks.length+j)=some u:=by
 obtain⟨x',y',c',he,hy',h⟩:=h;simp only[Value.slice.injEq]at he;obtain⟨he,hle,_⟩:=he;refine⟨by omega,fun i row hi=>?_⟩;rcases h with rfl | ⟨hx',h⟩
 .simp at hi
 obtain⟨rfl,hyy⟩:=jG hx hy (by omega) hy' he;have hyy:=hyy hx';subst hyy;exact⟨hx',h i row hi⟩
def uw (F:Hl) (e:TypeId) (ks:List Kd) (v:Value) (rows:List (List Value)):Prop:=(∀ row∈rows,bS row ks)/\bE F e ks.length v rows.length rows.flatten
theorem uw.nil (F:Hl) (e:TypeId) (ks:List Kd):uw F e ks (.slice none 0 0) []:=⟨fun _ h=>(nomatch h),by simp [bE]⟩
theorem vV {α:Type} {n:Nat} : ∀ {rows:List (List α)} (_:∀ r∈rows,r.length=n) {i j:Nat} {row:List α} {u:α},rows[i]?=some row->row[j]?=some u->rows.flatten[i*n+j]?=some u
 | [],_,i,j,row,u,h,_=>by simp at h
 | r::rows,hl,0,j,row,u,h,hj=>by
  simp only[Z6,Zj]at h;subst h;have hlt:j<r.length:=(Zi.1 hj).1;rw[aar,abA,ZM,ZH hlt];exact hj
 | r::rows,hl,i+1,j,row,u,h,hj=>by
  have hr:r.length=n:=hl r (by simp);have ih:=vV (rows:=rows) (fun r hr=>hl r (by simp [hr])) (i:=i) (j:=j) (row:=row) (u:=u) (by simpa using h) hj;rw[aar,Zz (by rw[hr,acj];omega),hr,show(i+1)*n+j-n=i*n+j by rw[acj];omega];exact ih
theorem uw.rd {F:Hl} {e:TypeId} {ks:List Kd} {v:Value} {rows:List (List Value)} (h:uw F e ks v rows):bO F v ks rows:=by
 obtain⟨hk,hl,h⟩:=h;rcases h with ⟨rfl,hn⟩ | ⟨g,cap,cur,rfl,hg,hle,hm,hs,ht⟩
 .exact⟨-1,0,0,by rw[fa,hn],by omega,Or.inl (Za.1 hn)⟩
 .refine⟨g,0,cap,by simp [au],by omega,Or.inr ⟨by omega,fun i row hi=>⟨hk row (Zb hi),fun j u hj=>?_⟩⟩⟩;have e1:=vV (n:=ks.length) (fun r hr=>iy (hk r hr)) hi hj;have e2:cur.toList[i*ks.length+j]?=some u:=by
   rw[<-ht]at e1;rw[Z2]at e1;split at e1
   .exact e1
   .cases e1
  unfold Hl.cell;rw[Y7,hg];simpa using e2
theorem uw.snoc {F:Hl} {e:TypeId} {ks:List Kd} {v:Value} {rows:List (List Value)} {row:List Value} {n:Nat} {xs:List Value} (hk:∀ r∈rows,bS r ks) (hr:bS row ks) (h:bE F e ks.length v n xs) (hn:n=rows.length+1) (hx:xs=rows.flatten++row):uw F e ks v (rows++[row]):=by
 refine⟨fun r hr'=>?_,?_⟩
 .rcases ZT.1 hr' with h | h
  .exact hk r h
  .rw[Zn]at h;subst h;exact hr
 .subst hn;subst hx;simpa using h
theorem uw.app {A B:Hl} {e:TypeId} {ks:List Kd} {x l c x1 c1:Int} {rows:List (List Value)} {row:List Value} (ho:uw A e ks (.slice (aA x 0) l.toNat c.toNat) rows) (hl:l=rows.length) (hr:bS row ks)
 (happ:∀ xs,bE A e ks.length (.slice (aA x 0) l.toNat c.toNat) l.toNat xs->bE B e ks.length (.slice (aA x1 0) (l.toNat+1) c1.toNat) (l.toNat+1) (xs++row)):uw B e ks (.slice (aA x1 0) (l+1).toNat c1.toNat) (rows++[row]):=by
 have hn:l.toNat=rows.length:=by omega
 rw[show(l+1).toNat=l.toNat+1 by omega];refine uw.snoc ho.1 hr (happ rows.flatten ?_) (by omega) rfl;have:=ho.2;rw[hn]at this ⊢;exact this
theorem uw.pre {A:Hl} {e:TypeId} {ks:List Kd} {x l c:Int} {rows:List (List Value)} (ho:uw A e ks (.slice (aA x 0) l.toNat c.toNat) rows) (hl:l=rows.length):bE A e ks.length (.slice (aA x 0) l.toNat c.toNat) l.toNat rows.flatten:=by
 have hn:l.toNat=rows.length:=by omega
 have:=ho.2;rw[hn]at this ⊢;exact this
end Go.Sx
namespace Go.Pk
open Go Go.Sx
def ak (x:Nat):List Int:=if x<128 then [(x:Int)]else((x%128+128:Nat):Int)::ak (x/128)
def pP:List Int->Nat->Nat->Option (Nat×Nat)
 | [],_,_=>none
 | c::l,n,x=>if(n=9/\1<c)\/9<n then none else if c<128 then(if c=0/\0<n then none else some (x+c.toNat*128 ^ n,n+1))else pP l (n+1) (x+(c.toNat%128)*128 ^ n)
def tO (l:List Int):Option (Nat×Nat):=pP l 0 0
theorem jc {x:Nat} (h:x<128):ak x=[(x:Int)]:=by rw[ak,ZA h]
theorem iK {x:Nat} (h:¬x<128):ak x=((x%128+128:Nat):Int)::ak (x/128):=by rw[ak,Zo h]
theorem zh:∀ (x:Nat),∀ b∈ak x,0<=b/\b<256:=by
 intro x
 induction x using Nat.strongRecOn with
 | _ x ih =>
  intro b hb;by_cases h:x<128
  .rw[jc h,Zn]at hb;omega
  .rw[iK h]at hb;rcases Zl.1 hb with rfl | hb
   .omega
   .exact ih (x/128) (by omega) b hb
theorem C3 (x:Nat):0<(ak x).length:=by
 by_cases h:x<128
 .rw[jc h];exact Nat.one_pos
 .rw[iK h];exact Nat.succ_pos _
theorem C2:∀ (k x:Nat),x<128 ^ (k+1)->(ak x).length<=k+1
 | 0,x,h=>by rw[jc (by simpa using h)];exact ZB _
 | k+1,x,h=>by
  by_cases h1:x<128
  .rw[jc h1];simp
  .rw[iK h1,Zd];have:=C2 k (x/128) (by
    rw[aa8]at h;exact Nat.div_lt_of_lt_mul (by omega))
   omega
theorem Mo:(128:Nat) ^ 9=9223372036854775808:=by decide
theorem Jn (t:List Int):∀ (x n y:Nat),(0<n->0<x)->n<=9->x*128 ^ n<18446744073709551616->pP (ak x++t) n y=some (y+x*128 ^ n,n+(ak x).length):=by
 intro x
 induction x using Nat.strongRecOn with
 | _ x ih =>
  intro n y hx hn hlt;have h9:n=9->x<=1:=fun e=>by
   subst e;rw[Mo]at hlt;omega
  by_cases h:x<128
  .rw[jc h];show(if(n=9/\1<(x:Int))\/9<n then none else _)=_;rw[Zo (by omega),ZA (by omega),Zo (by omega),Y7];rfl
  .rw[iK h];have hc:(((x%128+128:Nat):Int)).toNat%128=x%128:=by rw[Y7];omega
   show(if(n=9/\1<((x%128+128:Nat):Int))\/9<n then none else _)=_;have hn9:n≠9:=fun e=>by have:=h9 e;omega
   rw[Zo (by omega),Zo (by omega),hc];have hmul:x/128*128 ^ (n+1)+x%128*128 ^ n=x*128 ^ n:=by
    rw[aa8,<-Nat.mul_assoc,Nat.mul_right_comm,<-aaJ]
    congr 1
    omega
   show pP (ak (x/128)++t) (n+1) (y+x%128*128 ^ n)=_;rw[ih (x/128) (by omega) (n+1) _ (fun _=>by omega) (by omega) (by omega),Zd]
   congr 1
   rw[Z0];omega
theorem sM {x:Nat} (h:x<18446744073709551616) (t:List Int):tO (ak x++t)=some (x,(ak x).length):=by
 have:=Jn t x 0 0 (fun h=>absurd h (by omega)) (by omega) (by simpa using h);unfold tO;rw[this];simp
theorem zi:∀ (l:List Int) (n y z m:Nat),(∀ b∈l,0<=b/\b<256)->pP l n y=some (z,m)->∃ x,z=y+x*128 ^ n/\n<m/\m-n<=l.length/\l.take (m-n)=ak x/\(0<n->0<x)/\x*128 ^ n<18446744073709551616
 | [],_,_,_,_,_,h=>by cases h
 | c::l,n,y,z,m,hb,h=>by
  have hc:=hb c (ZJ ..);have hl:∀ b∈l,0<=b/\b<256:=fun b h=>hb b (Zu _ h);have h:(if(n=9/\1<c)\/9<n then none else if c<128 then(if c=0/\0<n then none else some (y+c.toNat*128 ^ n,n+1))else pP l (n+1) (y+(c.toNat%128)*128 ^ n))=some (z,m):=h;split at h
  .cases h
  .rename_i h9;have hpow:128 ^ n<=9223372036854775808:=by
    rw[<-Mo];exact abe (by decide) (by omega)
   have hsmall:n<9->128 ^ n<=72057594037927936:=fun hn=>by
    have:(128:Nat) ^ 8=72057594037927936:=by decide
    rw[<-this];exact abe (by decide) (by omega)
   split at h
   .rename_i h128;split at h
    .cases h
    .rename_i h0;simp only[Zj,Z0]at h;obtain⟨h1,h2⟩:=h;subst h1 h2;refine⟨c.toNat,rfl,by omega,by rw[Zd];omega,?_,by omega,?_⟩
     .rw[show n+1-n=1 by omega,jc (by omega)];show [c]=_;rw[abh hc.1]
     .rcases aaa n 9 with hn | hn
      .have:=hsmall hn
       calc c.toNat*128 ^ n<=127*72057594037927936:=abR (by omega) this
        _<_:=by decide
      .have:c.toNat<=1:=by omega
       calc c.toNat*128 ^ n<=1*9223372036854775808:=abR this hpow
        _<_:=by decide
   .rename_i h128;obtain⟨x,e1,e2,e3,e4,e5,e6⟩:=zi l (n+1) _ z m hl h;have hx:=e5 (by omega);have hdiv:(x*128+c.toNat%128)/128=x:=by omega
    have hmod:(x*128+c.toNat%128)%128=c.toNat%128:=by omega
    have hmul:(x*128+c.toNat%128)*128 ^ n=x*128 ^ (n+1)+(c.toNat%128)*128 ^ n:=by
     rw[aaJ,aa8,Nat.mul_assoc x 128,aa6 128]
    refine⟨x*128+c.toNat%128,by rw[e1,hmul];omega,by omega,by rw[Zd];omega,?_,fun _=>by omega,?_⟩
    .rw[show m-n=(m-(n+1))+1 by omega,List.take_succ_cons,e4,iK (x:=x*128+c.toNat%128) (by omega),hdiv,hmod]
     congr 1
     omega
    .rw[hmul];have h127:c.toNat%128*128 ^ n<128 ^ (n+1):=by
      rw[aa8,aa6 (128 ^ n)];exact Nat.mul_lt_mul_of_pos_right (by omega) (Nat.pow_pos (by decide))
     have hn9:n<9:=by omega
     have hdvd:∃ q,18446744073709551616=q*128 ^ (n+1):=by
      refine⟨2 ^ (64-7*(n+1)),?_⟩;have:(18446744073709551616:Nat)=2 ^ 64:=by decide
      rw[this,show(128:Nat)=2 ^ 7 by decide,<-Nat.pow_mul,<-ack]
      congr 1;omega
     obtain⟨q,hq⟩:=hdvd;rw[hq]at e6 ⊢;have hxq:x<q:=Nat.lt_of_mul_lt_mul_right e6
     calc x*128 ^ (n+1)+c.toNat%128*128 ^ n<x*128 ^ (n+1)+128 ^ (n+1):=by omega
      _=(x+1)*128 ^ (n+1):=by rw[acj]
      _<=q*128 ^ (n+1):=abd _ hxq
theorem Jk {l:List Int} {x m:Nat} (hb:∀ b∈l,0<=b/\b<256) (h:tO l=some (x,m)):0<m/\m<=l.length/\l.take m=ak x/\x<18446744073709551616:=by
 obtain⟨z,e1,e2,e3,e4,_,e6⟩:=zi l 0 0 x m hb h;have ez:x=z:=by simpa using e1
 subst ez;exact⟨e2,by simpa using e3,by simpa using e4,by simpa using e6⟩
theorem nD {x:Int} (h0:0<=x) (h1:x<18446744073709551616):IntKind.u64.wrap x=x:=by
 show Int.emod x 18446744073709551616=x;exact abV h0 h1
theorem PO (x:Int):IntKind.u8.wrap x=x%256:=rfl
theorem Ai {w:Nat} {x:Nat} (h:x<2 ^ w):(BitVec.ofInt w (x:Int)).toNat=x:=by
 rw[BitVec.toNat_ofInt,abV (by omega) (by exact_mod_cast h),Y7]
theorem KD {c:Nat} (h:c<256):cU .and .u8 (c:Int) 127=((c%128:Nat):Int):=by
 show IntKind.u8.wrap (((BitVec.ofInt 8 (c:Int) &&&BitVec.ofInt 8 127).toNat:Nat):Int)=_;rw[BitVec.toNat_and,Ai (by simpa using h),show(BitVec.ofInt 8 127).toNat=2 ^ 7-1 from rfl,Nat.and_two_pow_sub_one_eq_mod,PO];have:c%2 ^ 7=c%128:=rfl;omega
theorem NC {x y:Nat} (hx:x<18446744073709551616) (hy:y<18446744073709551616):cU .or .u64 (x:Int) (y:Int)=((x |||y:Nat):Int):=by
 show IntKind.u64.wrap (((BitVec.ofInt 64 (x:Int) |||BitVec.ofInt 64 (y:Int)).toNat:Nat):Int)=_;have hx':x<2 ^ 64:=hx;have hy':y<2 ^ 64:=hy;rw[abN,Ai hx',Ai hy'];have:=Nat.or_lt_two_pow hx' hy'
 exact nD (by omega) (by have e:(2:Nat) ^ 64=18446744073709551616:=by decide
                         omega)
theorem Dg {y a k:Nat} (hy:y<2 ^ k):y |||(a*2 ^ k)=y+a*2 ^ k:=by
 rw[Nat.or_comm,<-Nat.shiftLeft_eq,<-abF hy,abx]
theorem Ow (k:Nat):(2:Nat) ^ (7*k)=128 ^ k:=by rw[Nat.pow_mul]
theorem To {y k c:Nat} (hy:y<128 ^ k) (hk:k<=9) (hc:c<256) (h9:k=9->c<=1) :
 cU .or .u64 (y:Int) (IntKind.u64.wrap (IntKind.u64.wrap (cU .and .u8 (c:Int) 127)*2 ^ (min (IntKind.i64.wrap (7*(k:Int))).toNat 64)))=((y+c%128*128 ^ k:Nat):Int)/\y+c%128*128 ^ k<18446744073709551616:=by
 have hpow:128 ^ k<=9223372036854775808:=by
  rw[<-Mo];exact abe (by decide) hk
 have hz:c%128*128 ^ k<=9223372036854775808:=by
  rcases aaa k 9 with h | h
  .have h8:128 ^ k<=72057594037927936:=by
    have:(128:Nat) ^ 8=72057594037927936:=by decide
    rw[<-this];exact abe (by decide) (by omega)
   calc c%128*128 ^ k<=127*72057594037927936:=abR (by omega) h8
    _<=_:=by decide
  .have:c%128<=1:=by have:=h9 (by omega);omega
   calc c%128*128 ^ k<=1*9223372036854775808:=abR this hpow
    _<=_:=by decide
 have e1:(IntKind.i64.wrap (7*(k:Int))).toNat=7*k:=by rw[wrap_i64 (by omega) (by omega)];omega
 have e2:min (7*k) 64=7*k:=by omega
 rw[KD hc,e1,e2,nD (x:=((c%128:Nat):Int)) (by omega) (by omega)];have e3:((c%128:Nat):Int)*2 ^ (7*k)=((c%128*128 ^ k:Nat):Int):=by
  rw[<-Ow];push_cast;rfl
 rw[e3,nD (by omega) (by omega),NC (by omega) (by omega),<-Ow,Dg (by rw[Ow];exact hy)];rw[Ow];exact⟨rfl,by omega⟩
set_option maxRecDepth 20000 in
theorem Tt:∀ v:Fin 256,v.val |||128=v.val%128+128:=by decide
theorem Tl {x:Nat} : cU .or .u8 (IntKind.u8.wrap (x:Int)) 128=((x%128+128:Nat):Int):=by
 have e:IntKind.u8.wrap (x:Int)=((x%256:Nat):Int):=by rw[PO];omega
 rw[e];show IntKind.u8.wrap (((BitVec.ofInt 8 ((x%256:Nat):Int) |||BitVec.ofInt 8 128).toNat:Nat):Int)=_
 rw[BitVec.toNat_or,Ai (w:=8) (by have e:(2:Nat) ^ 8=256:=by decide
                                  omega),show(BitVec.ofInt 8 128).toNat=128 from rfl,Tt ⟨x%256,acg _ (by decide)⟩,PO]
 show(((x%256%128+128:Nat)):Int)%256=_;omega
theorem WK {x:Nat} : ((x:Int)).fdiv (2 ^ (7:Int).toNat)=((x/128:Nat):Int):=by
 rw[aap _ (by decide)];rfl
end Go.Pk
namespace Go.Proofs.YtomdimlnggpgbaaGreatDoor
open Go Go.Sx Go.Pk
abbrev dR (x:Int):Int:=IntKind.u32.wrap x
theorem sj (x:Int):dR x=x%4294967296:=by
 unfold dR IntKind.wrap;simp [IntKind.bits,IntKind.signed]
def okW (x:Int):Prop:=0<=x/\x<4294967296
theorem yi (x:Int):okW (dR x):=by
 rw[sj];unfold okW;omega
theorem oI {x:Int} (h:okW x):dR x=x:=by
 rw[sj];unfold okW at h;omega
def pX (x:Int):Int:=x/2+x%2*2147483648
def cm:Nat->Int->Int
 | 0,x=>x
 | n+1,x=>pX (cm n x)
theorem zQ (x:Nat) (hx:x<4294967296):∀ n,n<=32->cm n (x:Int)=((x/2 ^ n+x%2 ^ n*2 ^ (32-n):Nat):Int)
 | 0,_=>by
  show(x:Int)=_;have:x/2 ^ 0+x%2 ^ 0*2 ^ (32-0)=x:=by simp [Nat.mod_one]
  rw[this]
 | n+1,h=>by
  have ih:=zQ x hx n (by omega);show pX (cm n x)=_;rw[ih];obtain⟨T,hT⟩:∃ T,T=x/2 ^ n+x%2 ^ n*2 ^ (32-n):=⟨_,rfl⟩;rw[<-hT];have e1:pX (T:Int)=((T/2+T%2*2147483648:Nat):Int):=by unfold pX;omega
  rw[e1]
  congr 1
  have h2:2 ^ (32-n)=2*2 ^ (31-n):=by rw[show 32-n=(31-n)+1 by omega,aa8,aa6]
  have hd:x/2 ^ (n+1)=x/2 ^ n/2:=by rw[aa8,Nat.div_div_eq_div_mul]
  have hm:x%2 ^ (n+1)=x%2 ^ n+2 ^ n*(x/2 ^ n%2):=by rw[aa8,Nat.mod_mul]
  have hp:2 ^ n*2 ^ (31-n)=2147483648:=by rw[<-ack,show n+(31-n)=31 by omega]
  rw[hd,hm,show 32-(n+1)=31-n by omega,aaJ,Nat.mul_right_comm,hp];rw[h2]at hT;obtain⟨A,hA⟩:∃ A,A=x/2 ^ n:=⟨_,rfl⟩;obtain⟨B,hB⟩:∃ B,B=x%2 ^ n*2 ^ (31-n):=⟨_,rfl⟩;have hT:T=A+2*B:=by rw[hT,hA,hB,Nat.mul_left_comm]
  rw[<-hA,<-hB];omega
theorem D4 {x:Int} (h:okW x) (n:Nat) (hn:n<=32):okW (cm n x):=by
 obtain⟨h0,h1⟩:=h
 induction n with
 | zero=>exact⟨h0,h1⟩
 | succ n ih =>
  have:=ih (by omega);unfold okW at this ⊢;show 0<=pX (cm n x)/\pX (cm n x)<_;unfold pX;omega
theorem MJ {x:Int} (h:okW x) {n:Nat} (h1:1<=n) (h2:n<=31):cU .or .u32 (IntKind.u32.wrap (x*2 ^ (32-n))) (x.fdiv (2 ^ n))=cm n x:=by
 obtain⟨h0,h3⟩:=h;obtain⟨m,rfl⟩:∃ m:Nat,x=m:=⟨x.toNat,by omega⟩;have hm:m<4294967296:=by omega
 rw[zQ m hm n (by omega)];have hp:2 ^ n*2 ^ (32-n)=4294967296:=by rw[<-ack,show n+(32-n)=32 by omega]
 have ha:IntKind.u32.wrap ((m:Int)*2 ^ (32-n))=((m%2 ^ n*2 ^ (32-n):Nat):Int):=by
  have e0:((m:Int)*2 ^ (32-n))=((m*2 ^ (32-n):Nat):Int):=by push_cast;rfl
  show dR _=_;rw[e0,sj];have:m*2 ^ (32-n)%4294967296=m%2 ^ n*2 ^ (32-n):=by rw[<-hp,Nat.mul_mod_mul_right]
  rw[<-this];rfl
 have hb:(m:Int).fdiv (2 ^ n)=((m/2 ^ n:Nat):Int):=by
  have:((2:Int) ^ n)=((2 ^ n:Nat):Int):=by push_cast;rfl
  rw[this,aap _ (aa4 _)];rfl
 rw[ha,hb];have hlt:m/2 ^ n<2 ^ (32-n):=by
  rw[Nat.div_lt_iff_lt_mul (Nat.two_pow_pos n),aa6,hp];exact hm
 have hor:(m%2 ^ n*2 ^ (32-n)) |||(m/2 ^ n)=m/2 ^ n+m%2 ^ n*2 ^ (32-n):=by
  rw[Nat.or_comm];exact Dg hlt
 have hdl:m/2 ^ n<=m:=Nat.div_le_self _ _;have hs:m/2 ^ n+m%2 ^ n*2 ^ (32-n)<4294967296:=by
  have h1:m%2 ^ n<2 ^ n:=acg _ (Nat.two_pow_pos n);have h2:m%2 ^ n+1<=2 ^ n:=h1;have h3:=abd (2 ^ (32-n)) h2;rw[hp,aaJ]at h3;omega
 have hA:m%2 ^ n*2 ^ (32-n)<4294967296:=Nat.lt_of_le_of_lt (Nat.le_add_left _ _) hs;show IntKind.u32.wrap (((BitVec.ofInt 32 ((m%2 ^ n*2 ^ (32-n):Nat):Int)) |||(BitVec.ofInt 32 ((m/2 ^ n:Nat):Int))).toNat:Int)=_;have ea:(BitVec.ofInt 32 ((m%2 ^ n*2 ^ (32-n):Nat):Int)).toNat=m%2 ^ n*2 ^ (32-n):=by
  rw[aaT,aa5,aaY (by rw[show 2 ^ 32=4294967296 from rfl];exact hA)]
 have eb:(BitVec.ofInt 32 ((m/2 ^ n:Nat):Int)).toNat=m/2 ^ n:=by
  rw[aaT,aa5,aaY (by rw[show 2 ^ 32=4294967296 from rfl];omega)]
 rw[abN,ea,eb,hor];exact oI ⟨aa4 _,Int.ofNat_lt.2 hs⟩
theorem xor_not {x:Int} (h:okW x):cU .xor .u32 4294967295 x=4294967295-x:=by
 obtain⟨h0,h3⟩:=h;obtain⟨m,rfl⟩:∃ m:Nat,x=m:=⟨x.toNat,by omega⟩;have hm:m<4294967296:=by omega
 show IntKind.u32.wrap (((BitVec.ofInt 32 4294967295) ^^^ (BitVec.ofInt 32 (m:Int))).toNat:Int)=_;have e:(BitVec.ofInt 32 4294967295:BitVec 32)=BitVec.allOnes 32:=by decide
 rw[e,BitVec.allOnes_xor,BitVec.toNat_not,aaT,aa5,aaY (by rw[show 2 ^ 32=4294967296 from rfl];omega)];show dR _=_;rw[oI ⟨by omega,by omega⟩];omega
def jJ (a b c:Int):Int:=cU .xor .u32 (cU .xor .u32 a b) c
def ij (a b:Int):Int:=cU .and .u32 a b
def XT (x:Int):Int:=jJ (cm 7 x) (cm 18 x) (x/8)
def R8 (x:Int):Int:=jJ (cm 17 x) (cm 19 x) (x/1024)
def YY (x:Int):Int:=jJ (cm 6 x) (cm 11 x) (cm 25 x)
def YX (x:Int):Int:=jJ (cm 2 x) (cm 13 x) (cm 22 x)
def YU (e f g:Int):Int:=cU .xor .u32 (ij e f) (ij (4294967295-e) g)
def YV (a b c:Int):Int:=cU .xor .u32 (cU .xor .u32 (ij a b) (ij a c)) (ij b c)
def D9 (m:List Int) (k:Nat):Int:=dR (m.getD (4*k) 0*16777216+m.getD (4*k+1) 0*65536+m.getD (4*k+2) 0*256+m.getD (4*k+3) 0)
def zS (w:List Int) (i:Nat):Int:=dR (dR (dR (w.getD (i-16) 0+XT (w.getD (i-15) 0))+w.getD (i-7) 0)+R8 (w.getD (i-2) 0))
def bu (m:List Int):Nat->List Int
 | 0=>[]
 | n+1=>bu m n++[if n<16 then D9 m n else zS (bu m n) n]
theorem dz (m:List Int):∀ n,(bu m n).length=n
 | 0=>rfl
 | n+1=>by show(_++[_]).length=_;rw[Y9,dz m n];rfl
theorem kg (m:List Int):∀ (n j:Nat),j<n->(bu m n).getD j 0=if j<16 then D9 m j else zS (bu m j) j
 | n+1,j,h=>by
  show(bu m n++[_]).getD j 0=_;rw[Zt];by_cases hj:j<n
  .rw[ZH (by rw[dz];exact hj),<-Zt];exact kg m n j hj
  .have:j=n:=by omega
   subst this;rw[Zz (by rw[dz];omega),dz,ab1];rfl
theorem DO (m:List Int) {n k j:Nat} (h1:j<n) (h2:j<k):(bu m n).getD j 0=(bu m k).getD j 0:=by
 rw[kg m n j h1,kg m k j h2]
def BA:List Int:=[1116352408,1899447441,3049323471,3921009573,961987163,1508970993,2453635748,2870763221,3624381080,310598401,607225278,1426881987,1925078388,2162078206,2614888103,3248222580,3835390401,4022224774,264347078,604807628,770255983,1249150122,1555081692,1996064986,2554220882,2821834349,2952996808,3210313671,3336571891,3584528711,113926993,338241895,666307205,773529912,1294757372,1396182291,1695183700,1986661051,2177026350,2456956037,2730485921,2820302411,3259730800,3345764771,3516065817,3600352804,4094571909,275423344,430227734,506948616,659060556,883997877,958139571,1322822218,1537002063,1747873779,1955562222,2024104815,2227730452,2361852424,2428436474,2756734187,3204031479,3329325298]
abbrev Wd:=Nat->Int
def Gq (v:Wd) (k w:Int):Int:=dR (dR (dR (dR (v 7+YY (v 4))+YU (v 4) (v 5) (v 6))+k)+w)
def Nl (v:Wd):Int:=dR (YX (v 0)+YV (v 0) (v 1) (v 2))
def rY (v:Wd) (k w:Int):Wd:=fun j=>match j with
 | 0=>dR (Gq v k w+Nl v)
 | 4=>dR (v 3+Gq v k w)
 | j+1=>v j
def dy (v:Wd) (w:List Int):Nat->Wd
 | 0=>v
 | n+1=>rY (dy v w n) (BA.getD n 0) (w.getD n 0)
def nA (v:Wd) (m:List Int):Wd:=fun j=>dR (v j+dy v (bu m 64) 64 j)
def dJ:Wd:=fun j=>[1779033703,3144134277,1013904242,2773480762,1359893119,2600822924,528734635,1541459225].getD j 0
def P1 (x:Nat):List Int:=(List.range 8).map fun i=>((x/2 ^ (8*(7-i))%256:Nat):Int)
def fO (b:List Int):List Int:=b++[128]++List.replicate ((119-b.length%64)%64) 0++P1 (8*b.length)
def lZ (v:Wd) (all:List Int):Nat->Wd
 | 0=>v
 | n+1=>nA (lZ v all n) ((all.drop (64*n)).take 64)
def BB (b:List Int):Wd:=lZ dJ (fO b) ((fO b).length/64)
def fP (b:List Int):List Int:=(List.range 32).map fun i=>BB b (i/4)/2 ^ (24-8*(i%4))%256
theorem fE (b:List Int):(fP b).length=32:=by simp [fP]
theorem zI (b:List Int):∀ z∈fP b,0<=z/\z<256:=fun z hz=>by
 unfold fP at hz;obtain⟨i,_,rfl⟩:=ZV.1 hz;omega
theorem tQ (b:List Int):(fO b).length=b.length+9+(119-b.length%64)%64/\(fO b).length%64=0:=by
 have h:(fO b).length=b.length+9+(119-b.length%64)%64:=by
  unfold fO P1;simp only[Y9,Z8,ZD,aaA,Zd,Zh];omega
 exact⟨h,by rw[h];omega⟩
theorem qw {v:Wd} (h:∀ j,j<8->okW (v j)) (w:List Int):∀ n j,j<8->okW (dy v w n j)
 | 0,j,hj=>h j hj
 | n+1,j,hj=>by
  have ih:=qw h w n;show okW (rY _ _ _ j);unfold rY;split
  .exact yi _
  .exact yi _
  .exact ih _ (by omega)
theorem Oa {v:Wd} (h:∀ j,j<8->okW (v j)) (all:List Int):∀ n j,j<8->okW (lZ v all n j)
 | 0,j,hj=>h j hj
 | n+1,j,hj=>yi _
theorem Gp:∀ j,j<8->okW (dJ j):=by unfold okW;decide
end Go.Proofs.YtomdimlnggpgbaaGreatDoor
namespace Go.Proofs.YtomdimlnggpgbaaGreatDoor.D
open Go Go.Sx
def aM:pF:=fun _=>none
def bw (l:List Int) (b:Bool) (hs:List Hl):Env:=⟨fun k=>l.getD k 0,fun _=>b,fun _=>.empty,fun _=>.tuple #[],fun k=>hs.getD k Hl.none⟩
theorem Je {k:IntKind} {es:Array MapEntry} {l:List (Int×Value)} (h:ku k es l) {i:Int} (hn:iF i l 0=none) (v:Value) {clock:Nat} (hs:MapKept.Stamped es clock) :
 ∃ es',qm (.int k) (.int k i) v es clock=.map es' (clock+1)/\ku k es' (l++[(i,v)])/\MapKept.Stamped es' (clock+1):=by
 refine⟨es.push ⟨.int k i,v,clock⟩,?_,?_,MapKept.stamped_push hs fun x hx he=>?_⟩
 .unfold qm;rw[kJ h,hn]
 .unfold ku at h ⊢;rw[Array.toList_push,ZP,ZP,h];rfl
 .have:(x.key,x.val)∈l.map fun p=>(Value.int k p.1,p.2):=by
   rw[<-show es.toList.map (fun e=>(e.key,e.val))=_ from h];exact ZV.2 ⟨x,hx,rfl⟩
  obtain⟨q,hq,e⟩:=ZV.1 this;have h1:=wN.1 hn q hq;rw[Z0]at e;rw[he]at e;exact h1 (Value.int.inj e.1).2
structure DM where
 n:Nat
 now:List Int
 loose:List (Int×List Int)
 fuse:Int
 gone:Bool
structure DM.ok (D:DM):Prop where
 now:D.now.length=64*D.n
 n:D.n<=16384
 f0:-1<=D.fuse
 f1:D.fuse<=9223372036854775807
 loose:∀ p∈D.loose,p.2.length=64/\0<=p.1/\p.1<D.n
def lv (l:List (Int×List Int)):List (Int×Value):=l.map fun p=>(p.1,.agg (bK p.2).toArray)
def iQ (a s m n:Nat) (fuse:Int) (gone:Bool):Hl:=Hl.one a (.cells #[.slice (some ⟨s,0,none⟩) n n,.map (some m),.int .i64 fuse,.bool gone] 93 (0,0))
def kU (s:Nat) (now:List Int):Hl:=Hl.one s (.cells (bK now).toArray 119 (0,0))
structure pY (H:Hl) (a s m:Nat) (es:Array MapEntry) (clock:Nat) (D:DM):Prop where
 ok:D.ok
 map:ku .i64 es (lv D.loose)
 st:MapKept.Stamped es clock
 nas:a≠s
 nam:a≠m
 nsm:s≠m
 hl:H=dC [iQ a s m D.n D.fuse D.gone,kU s D.now,Hl.one m (.map es clock)]
def aO (H:Hl) (v:Value) (D:DM):Prop:=∃ a s m es clock,v=.pointer (some ⟨a,0,none⟩)/\pY H a s m es clock D
def ux:Mem:=[.bD 0 [.sl (.var 6) (.var 7) (.var 8) (.var 9),.map (.var 10),.int .i64 (.var 11),.bool (.bvar 12)] 93,.hp 13 [] [.var 6] [],.hp 14 [] [.var 10] []]
def nN (a s m:Nat) (D:DM) (l:List Int) (es:Array MapEntry) (clock:Nat) (R:Hl):Env :=
 bw (([(a:Int)]++l++[(s:Int),0,D.n,D.n,m,D.fuse])) D.gone (List.replicate 13 Hl.none++[kU s D.now,Hl.one m (.map es clock),R])
theorem KW {q:Env} {a s m n:Nat} {fuse:Int} {gone:Bool} (h0:q.i 0=a) (h6:q.i 6=s) (h7:q.i 7=0) (h8:q.i 8=n) (h9:q.i 9=n) (h10:q.i 10=m) {f:E} (hf:aC q f=fuse) {g:E} (hg:bN q g=gone) :
 (bx.bD 0 [.sl (.var 6) (.var 7) (.var 8) (.var 9),.map (.var 10),.int .i64 f,.bool g] 93).hl q=iQ a s m n fuse gone:=by
 simp only[bx.hl,Zf,Zr,CV.ev,aj,h0,h6,h7,h8,h9,h10,hf,hg,Y7];rw[au (by omega),Zo (by omega)];rfl
theorem Aq {H:Hl} {a s m:Nat} {es:Array MapEntry} {clock:Nat} {D:DM} (h:pY H a s m es clock D) (l:List Int) (hl:l.length=5) (R:Hl):Entry (nN a s m D l es clock R) ux [H] []:=by
 obtain⟨x1,x2,x3,x4,x5,rfl⟩:∃ x1 x2 x3 x4 x5,l=[x1,x2,x3,x4,x5]:=by
  match l,hl with
  | [x1,x2,x3,x4,x5],_=>exact⟨x1,x2,x3,x4,x5,rfl⟩
 have hb:(bx.bD 0 [.sl (.var 6) (.var 7) (.var 8) (.var 9),.map (.var 10),.int .i64 (.var 11),.bool (.bvar 12)] 93).hl (nN a s m D [x1,x2,x3,x4,x5] es clock R)=iQ a s m D.n D.fuse D.gone:=KW rfl rfl rfl rfl rfl rfl rfl rfl;have d1:(iQ a s m D.n D.fuse D.gone).cG (kU s D.now):=Hl.gZ h.nas;have d2:(iQ a s m D.n D.fuse D.gone).cG (Hl.one m (.map es clock)):=Hl.gZ h.nam;have d3:(kU s D.now).cG (Hl.one m (.map es clock)):=Hl.gZ h.nsm;obtain⟨l1,l2,l3⟩:=AG d1 d2 d3;refine⟨fun r hr ho=>⟨H,by simp,?_⟩,fun r hr ho=>?_,?_,fun r hr=>?_⟩
 .rw[h.hl];simp only[ux,Zl,Zq,ZO]at hr;rcases hr with rfl | rfl | rfl
  .rw[hb];exact l1
  .exact l2
  .exact l3
 .simp only[ux,Zl,Zq,ZO]at hr;rcases hr with rfl | rfl | rfl<;>cases ho
 .unfold ux;refine List.Pairwise.cons (fun r hr _ _=>?_) (List.Pairwise.cons (fun r hr _ _=>?_) (List.Pairwise.cons (fun r hr=>by cases hr) List.Pairwise.nil))
  .rw[hb];simp only[Zl,Zq,ZO]at hr;rcases hr with rfl | rfl
   .exact d1
   .exact d2
  .simp only[Zl,Zq,ZO]at hr;subst hr;exact d3
 .simp only[ux,Zl,Zq,ZO]at hr;rcases hr with rfl | rfl | rfl
  .show(0:Int)<=(a:Int);omega
  .trivial
  .trivial
theorem NK {H:Hl} {a s m:Nat} {es:Array MapEntry} {clock:Nat} {D:DM} (h:pY H a s m es clock D) (l:List Int) (hl:l.length=5) (R:Hl) (t:List E):Entry (nN a s m D l es clock R) (ux++[.ro 15 t false]) [H] [R]:=by
 obtain⟨h1,h2,h3,h4⟩:=Aq h l hl R;refine⟨fun r hr ho=>?_,fun r hr ho=>?_,?_,fun r hr=>?_⟩
 .rcases ZT.1 hr with hr | hr
  .exact h1 r hr ho
  .rw[Zn]at hr;subst hr;cases ho
 .rcases ZT.1 hr with hr | hr
  .obtain⟨R,hR,_⟩:=h2 r hr ho;cases hR
  .rw[Zn]at hr;subst hr;exact⟨R,by simp,Hl.le_refl _⟩
 .rw[ab6];refine⟨h3,by simp,fun r _ s hs _ ho=>?_⟩;rw[Zn]at hs;subst hs;cases ho
 .rcases ZT.1 hr with hr | hr
  .exact h4 r hr
  .rw[Zn]at hr;subst hr;trivial
def gE (n:Int):Nat:=(min (max n 0) 16384).toNat
def fb (n:Int):DM:=⟨gE n,List.replicate (64*gE n) 0,[],-1,false⟩
def CX:Sx.Spec where
 fn:=12
 own:=[]
 rd:=[]
 res:=[.one .ptr]
 pre:=fun xs Hs Rs=>∃ n,xs=[.int .i64 n]
 post:=fun xs Hs Rs v Hs' F=>∃ n,xs=[.int .i64 n]/\aO F v (fb n)
def Ma:Nd:=(fun d=>(fun c=>(fun a=>(fun b=>(.and (.pre b) (.ext b (.and (.pre (.mnew 2)) (.ext (.mnew 2) (.ext (.alloc 3) (.post [.hp 1 [] [.var 1] [],.hp 2 [] [.var 2] [],.bD 3 [.sl (.var 1) d a a,.map (.var 2),.int .i64 (.lit (-1)),.bool .ff] 93] (.sv (.one (.hptr (.var 3) d)))))))):Nd)) (.mk 1 119 (List.replicate 64 (CV.int .u8 d)) 64 a)) (.ite (.lt (.lit 16384) c) (.lit 16384) c)) (.ite (.lt (.var 0) d) d (.var 0))) (.lit 0)
def Jj:bU Tryz.prog [] CX.fn where
 Λ:=aM
 args:=[TI .i64 (.var 0)]
 mem:=[]
 nv:=1
 nd:=Ma
 ok:=by kernel_rfl
theorem LQ (k n:Nat) (hk:0<k) (z:Value):madeCells (List.replicate k z).toArray n=(List.replicate n z).toArray:=by
 apply Array.ext
 .simp [madeCells]
 .intro i h1 h2;simp [madeCells,aaX,acg _ hk]
theorem Fj (n:Nat):madeCells (List.replicate 64 (Value.int .u8 0)).toArray (n*64)=(bK (List.replicate (64*n) 0)).toArray:=by
 rw[LQ 64 _ (by omega),aa6];unfold bK;rw[abp]
theorem HN:CX.OK Tryz.prog:=by
 refine Spec.bJ (Γ:=[]) (fun _ h=>by cases h) ?_;rintro xs Hs Rs hl1 hl2 ⟨n,rfl⟩;have e0:Hs=[]:=Za.1 hl1;have e1:Rs=[]:=Za.1 hl2;subst e0;subst e1;refine⟨Jj,bw [n] false [],fun _ _=>True,fun _ _=>0,?_,⟨?_,?_,?_,?_⟩,(fun _ h=>nomatch h),?_⟩
 .simp [Jj,TI,TV.ev,SV.ev,CV.ev,aj,bw]
 .intro r hr;simp [Jj]at hr
 .intro r hr;simp [Jj]at hr
 .simp [Jj]
 .intro r hr;simp [Jj]at hr
 .show Nd.holds _ _ _ Ma;unfold Ma;simp only[Nd.holds,X.pre,X.rel,X.n,Src.ok,Src.len,Src.bG,Zy,Zm,ZG,Zx,Zp,Nat.reduceAdd,Zd,Zh,bn,bj,aJ,aU,aR,bm,aZ,bh,bg,bd,aV,ba,bk,aX,aW,aK,aY,ai,aj,aB,aF,aD,ar,aG,aQ,aP,aq,aI,az,aH,av,TV.ev,SV.ev,CV.ev,Zf,Zr,bx.hl];have e:(if(16384:Int)<if n<0 then 0 else n then 16384 else if n<0 then 0 else n)=(gE n:Int):=by
   unfold gE;split<;>split<;>omega
  have hs:gE n<=16384:=by unfold gE;omega
  have hn0:(bw [n] false []).i 0=n:=rfl;rw[hn0];simp only[e];refine⟨⟨by omega,by omega,by omega⟩,fun q1 g1 ⟨p1,hh1⟩ q2 g2 ⟨p2,hh2⟩ q3 g3 p3 hd=>?_⟩;have i0:q3.i 0=n:=by rw[g3.i 0,g2.i 0,g1.i 0];rfl
  have i1:q3.i 1=q1.i 1:=by rw[g3.i 1,g2.i 1]
  have i2:q3.i 2=q2.i 2:=by rw[g3.i 2]
  obtain⟨s,hs1⟩:=aaq p1;obtain⟨m,hm1⟩:=aaq p2;obtain⟨a,ha1⟩:=aaq p3;rw[hs1]at i1 hh1;rw[hm1]at i2 hh2;rw[Y7]at hh1 hh2;have ez:(List.replicate 64 (CV.int IntKind.u8 (E.lit 0))).map (CV.ev (bw [n] false []))=List.replicate 64 (Value.int .u8 0):=rfl;rw[ez]at hh1;have h1:q3.h 1=kU s (fb n).now:=by
   rw[g3.h 1,g2.h 1,hh1,Z8,Y7,Fj];rfl
  have h2:q3.h 2=Hl.one m (.map #[] 0):=by rw[g3.h 2,hh2]
  have h3:(bx.bD 3 [.sl (.var 1) (.lit 0) (.ite (.lt (.lit 16384) (.ite (.lt (.var 0) (.lit 0)) (.lit 0) (.var 0))) (.lit 16384) (.ite (.lt (.var 0) (.lit 0)) (.lit 0) (.var 0))) (.ite (.lt (.lit 16384) (.ite (.lt (.var 0) (.lit 0)) (.lit 0) (.var 0))) (.lit 16384) (.ite (.lt (.var 0) (.lit 0)) (.lit 0) (.var 0))),.map (.var 2),.int .i64 (.lit (-1)),.bool .ff] 93).hl q3=iQ a s m (gE n) (-1) false:=by
   simp only[bx.hl,Zf,Zr,CV.ev,bn,bj,aJ,aU,aR,bm,aZ,bh,bg,bd,aV,ba,bk,aX,aW,aK,aY,ai,aj,aB,aF,aD,ar,aG,aQ,aP,aq,aI,az,aH,av,dq,ss,Zc,i0,i1,i2,ha1,e,Y7];rw[au (by omega),Zo (by omega)];rfl
  have d01:=hd 0 1 _ _ (by decide) rfl rfl rfl;have d02:=hd 0 2 _ _ (by decide) rfl rfl rfl;have d12:=hd 1 2 _ _ (by decide) rfl rfl rfl;rw[h3]at d02 d12;have d01:(q3.h 1).cG (q3.h 2):=d01;have d02:(q3.h 1).cG (iQ a s m (gE n) (-1) false):=d02;have d12:(q3.h 2).cG (iQ a s m (gE n) (-1) false):=d12;rw[h1]at d01 d02;rw[h2]at d01 d12;have nsm:s≠m:=fun e=>Hl.fH.1 d01 (Hl.dH.2 e);have nas:a≠s:=fun e=>Hl.fH.1 d02 (Hl.dH.2 e.symm);have nam:a≠m:=fun e=>Hl.fH.1 d12 (Hl.dH.2 e.symm);refine⟨[],[2,0,1],rfl,rfl,⟨q3.fq 0 (q3.i 3) |>.fq 1 0,rfl,⟨by show -1<=q3.i 3;omega,Zw _⟩,trivial⟩,n,rfl,a,s,m,#[],0,?_,⟨⟨?_,hs,by show(-1:Int)<= -1;omega,by show(-1:Int)<=_;omega,fun p hp=>by cases hp⟩,rfl,MapKept.stamped_empty _,nas,nam,nsm,?_⟩⟩
  .simp only[TV.ev,SV.ev,CV.ev,aj,ai,ha1];rw[au (by omega)];rfl
  .show(List.replicate (64*gE n) (0:Int)).length=_;rw[Z8];rfl
  .show dC [_,q3.h 1,q3.h 2]=_;rw[h1,h2]
   congr 1
   congr 1
theorem QY {a b:List (Int×List Int)} (h:lv a=lv b):a=b:=by
 apply ZN;intro j;have:=ZW (fun l=>l[j]?) h;simp only[lv,Zs]at this;cases ha:a[j]? with
 | none =>
  cases hb:b[j]? with
  | none=>rfl
  | some q=>simp [ha,hb]at this
 | some p =>
  cases hb:b[j]? with
  | none=>simp [ha,hb]at this
  | some q =>
   simp only[ha,hb,ZS,Zj,Z0,Value.agg.injEq]at this;obtain⟨h1,h2⟩:=this;have h3:=ZW Array.toList h2;have h4:=jy h3;obtain⟨p1,p2⟩:=p;obtain⟨q1,q2⟩:=q;simp only at h1 h4;rw[h1,h4]
theorem ku.inj {k:IntKind} {es:Array MapEntry} {a b:List (Int×Value)} (h1:ku k es a) (h2:ku k es b):a=b:=by
 unfold ku at h1 h2;rw[h1]at h2;apply ZN;intro j;have:=ZW (fun l=>l[j]?) h2;simp only[Zs]at this;cases ha:a[j]?<;>cases hb:b[j]?<;>simp [ha,hb]at this ⊢
 exact Prod.ext this.1 this.2
theorem pY.at {H:Hl} {a s m:Nat} {es:Array MapEntry} {clock:Nat} {D:DM} (h:pY H a s m es clock D) :
 H a=some (.cells #[.slice (some ⟨s,0,none⟩) D.n D.n,.map (some m),.int .i64 D.fuse,.bool D.gone] 93 (0,0))/\H s=some (.cells (bK D.now).toArray 119 (0,0))/\H m=some (.map es clock):=by
 obtain⟨l1,l2,l3⟩:=AG (A:=iQ a s m D.n D.fuse D.gone) (B:=kU s D.now) (C:=Hl.one m (.map es clock)) (Hl.gZ h.nas) (Hl.gZ h.nam) (Hl.gZ h.nsm);rw[h.hl];exact⟨l1 _ _ (Hl.bF _ _),l2 _ _ (Hl.bF _ _),l3 _ _ (Hl.bF _ _)⟩
theorem aO.uniq {H:Hl} {v:Value} {D D':DM} (h:aO H v D) (h':aO H v D'):D=D':=by
 obtain⟨a,s,m,es,clock,rfl,h⟩:=h;obtain⟨a',s',m',es',clock',he,h'⟩:=h';simp only[Value.pointer.injEq,Zj,Addr.mk.injEq,Zm]at he;subst he;obtain⟨x1,x2,x3⟩:=h.at;obtain⟨y1,y2,y3⟩:=h'.at;rw[x1]at y1;simp only[Zj,Obj.cells.injEq,ZY,Ze,Value.slice.injEq,Addr.mk.injEq,Value.map.injEq,Value.int.injEq,Value.bool.injEq,Zm,Zy]at y1;obtain⟨⟨rfl,hn,_⟩,rfl,hf,hg⟩:=y1;rw[x2]at y2;rw[x3]at y3;simp only[Zj,Obj.cells.injEq,ZL,Zm]at y2;simp only[Zj,Obj.map.injEq]at y3;obtain⟨rfl,rfl⟩:=y3;have e1:=jy (ZW Array.toList y2);have e2:=QY (ku.inj h.map h'.map);obtain⟨n,now,loose,fuse,gone⟩:=D;obtain⟨n',now',loose',fuse',gone'⟩:=D';simp only at hn hf hg e1 e2;subst hn hf hg e1 e2;rfl
theorem He {q:Env} {mem:Mem} {a s m:Nat} {es:Array MapEntry} {clock:Nat} {D:DM} (hok:D.ok) (hm:ku .i64 es (lv D.loose)) (hst:MapKept.Stamped es clock) (h1:a≠s) (h2:a≠m) (h3:s≠m)
 (e1:om q mem 0=iQ a s m D.n D.fuse D.gone) (e2:om q mem 1=kU s D.now) (e3:om q mem 2=Hl.one m (.map es clock)):pY (uu q mem [0,1,2]) a s m es clock D :=
 ⟨hok,hm,hst,h1,h2,h3,by show dC [om q mem 0,om q mem 1,om q mem 2]=_;rw[e1,e2,e3]⟩
theorem iI (a:Nat):Value.pointer (aA (a:Int) 0)=.pointer (some ⟨a,0,none⟩):=by rw[au (by omega)];rfl
def gC (f:FuncId) (num:DM->Int):Sx.Spec where
 fn:=f
 own:=[.arg 0]
 rd:=[]
 res:=[.one (.int .i64)]
 pre:=fun xs Hs Rs=>∃ p H D,xs=[p]/\Hs=[H]/\aO H p D
 post:=fun xs Hs Rs v Hs' F=>∃ p H D H',xs=[p]/\Hs=[H]/\aO H p D/\Hs'=[H']/\aO H' p D/\v=.int .i64 (num D)
def iA:=gC 43 fun D=>D.n
def sX:Nd:=.and (.e (.le (.lit 0) (.var 8))) (.post [.bD 0 [.sl (.var 6) (.var 7) (.var 8) (.var 9),.map (.var 10),.int .i64 (.var 11),.bool (.bvar 12)] 93,.hp 13 [] [.var 6] [],.hp 14 [] [.var 10] []] (.sv (.one (.int .i64 (.var 8)))))
def MT:bU Tryz.prog [] iA.fn where
 Λ:=aM
 args:=[TP (.var 0) (.lit 0)]
 mem:=ux
 nv:=15
 nd:=sX
 ok:=by kernel_rfl
theorem ug:iA.OK Tryz.prog:=by
 refine Spec.bJ (Γ:=[]) (fun _ h=>by cases h) ?_;rintro xs Hs Rs hl1 hl2 ⟨p,H,D,rfl,rfl,a,s,m,es,clock,rfl,h⟩;have e1:Rs=[]:=Za.1 hl2;subst e1;refine⟨MT,nN a s m D [0,0,0,0,0] es clock Hl.none,fun _ _=>True,fun _ _=>0,?_,Aq h _ rfl _,(fun _ h=>nomatch h),?_⟩
 .show [Value.pointer (aA (a:Int) 0)]=_;rw[iI]
 .show Nd.holds _ _ _ sX;unfold sX;simp only[Nd.holds,X.pre,X.rel,X.n,Src.ok,Src.len,Src.bG,Zy,Zm,ZG,Zx,Zp,Nat.reduceAdd,Zd,Zh,bn,bj,aJ,aU,aR,bm,aZ,bh,bg,bd,aV,ba,bk,aX,aW,aK,aY,ai,aj,aB,aF,aD,ar,aG,aQ,aP,aq,aI,az,aH,av,TV.ev,SV.ev,CV.ev,Zf,Zr,bx.hl];refine⟨by show(0:Int)<=(D.n:Int);omega,fun _=>⟨[[0,1,2]],[],rfl,rfl,⟨⟨fun _=>D.n,fun _=>false,fun _=>.empty,fun _=>.tuple #[],fun _=>Hl.none⟩,rfl,trivial,trivial⟩,_,H,D,_,rfl,rfl,⟨a,s,m,es,clock,rfl,h⟩,rfl,⟨a,s,m,es,clock,rfl,?_⟩,rfl⟩⟩;exact He h.ok h.map h.st h.nas h.nam h.nsm (KW rfl rfl rfl rfl rfl rfl rfl rfl) rfl rfl
def DM.has (D:DM) (i:Int):Bool:=decide (0<=i/\i<D.n)
def DM.cw (D:DM) (i:Int):List Int:=(D.now.drop (64*i.toNat)).take 64
def gl (D:DM) (i:Int):List Int×Int:=if D.has i=false then([],1)else if D.gone then([],5)else(D.cw i,0)
theorem fM {D:DM} (h:D.ok) {i:Int} (hi:D.has i=true):(D.cw i).length=64:=by
 unfold DM.has at hi;simp only[Zc]at hi;unfold DM.cw;rw[ZE,ZX,h.now];omega
theorem xO {D:DM} (h:D.ok) {i:Int} (hi:D.has i=true) {j:Nat} (hj:j<64):(D.cw i)[j]?=D.now[64*i.toNat+j]?:=by
 unfold DM.cw;rw[Z9 hj,ZZ]
theorem wW {D:DM} (s y:Nat):(kU s D.now).cell s y=(D.now[y]?).map (Value.int .u8):=by
 unfold kU;rw[Hl.j7,aae,ft]
def tX:Sx.Spec where
 fn:=122
 own:=[.arg 0]
 rd:=[]
 res:=[.one .sl,.one (.int .i64)]
 pre:=fun xs Hs Rs=>∃ p i H D,xs=[p,.int .i64 i]/\Hs=[H]/\aO H p D
 post:=fun xs Hs Rs v Hs' F=>∃ p i H D H' u,xs=[p,.int .i64 i]/\Hs=[H]/\aO H p D/\Hs'=[H']/\aO H' p D/\v=.tuple #[u,.int .i64 (gl D i).2]/\cH F 5 u (gl D i).1
def FU:Nd:=(fun d b g=>(fun a c=>(fun f=>(.and (.imp (.le b g) (.and (.e (.le b (.var 8))) (.and (.imp (.not (.lt g (.var 8))) f) (.imp (.lt g (.var 8)) (.and (.imp (.bvar 12) (.post a (.tup [.one (.sl (.lit (-1)) b b b),.one (.int .i64 (.lit 5))]))) (.imp (.not (.bvar 12)) (.and (.e (.le b (.var 6))) (.and (.e (.le b (.var 7))) (.ext (.alloc 15) (.and (.pre c) (.ext c (.post [.bD 0 d 93,.hp 13 [] [.var 6] [],.hp 14 [] [.var 10] [],.hp 16 [] [.var 16,.var 15] []] (.tup [.one (.sl (.var 16) b (.lit 64) (.var 17)),.one (.int .i64 b)]))))))))))))) (.imp (.not (.le b g)) f):Nd)) (.post a (.tup [.one (.sl (.lit (-1)) b b b),.one (.int .i64 (.lit 1))]))) [.bD 0 d 93,.hp 13 [] [.var 6] [],.hp 14 [] [.var 10] []] (.app 16 5 1 1 (.sl (.var 15) b b b) b (.bD 15 [] 5) (.seg 13 (.var 6) (.add (.var 7) (.mul g (.lit 64))) (.lit 64)))) [.sl (.var 6) (.var 7) (.var 8) (.var 9),.map (.var 10),.int .i64 (.var 11),.bool (.bvar 12)] (.lit 0) (.var 1)
def TC:bU Tryz.prog [] tX.fn where
 Λ:=aM
 args:=[TP (.var 0) (.lit 0),TI .i64 (.var 1)]
 mem:=ux
 nv:=15
 nd:=FU
 ok:=by kernel_rfl
theorem DD:tX.OK Tryz.prog:=by
 refine Spec.bJ (Γ:=[]) (fun _ h=>by cases h) ?_;rintro xs Hs Rs hl1 hl2 ⟨p,i,H,D,rfl,rfl,a,s,m,es,clock,rfl,h⟩;have e1:Rs=[]:=Za.1 hl2;subst e1;refine⟨TC,nN a s m D [i,0,0,0,0] es clock Hl.none,fun _ _=>True,fun _ _=>0,?_,Aq h _ rfl _,(fun _ h=>nomatch h),?_⟩
 .show [Value.pointer (aA (a:Int) 0),Value.int .i64 i]=_;rw[iI]
 .show Nd.holds _ _ _ FU;unfold FU;simp only[Nd.holds,X.pre,X.rel,X.n,Src.ok,Src.len,Src.bG,Zy,Zm,ZG,Zx,Zp,Nat.reduceAdd,Zd,Zh,bn,bj,aJ,aU,aR,bm,aZ,bh,bg,bd,aV,ba,bk,aX,aW,aK,aY,ai,aj,aB,aF,aD,ar,aG,aQ,aP,aq,aI,az,aH,av,TV.ev,SV.ev,CV.ev,Zf,Zr,bx.hl];have v1:(nN a s m D [i,0,0,0,0] es clock Hl.none).i 1=i:=rfl;have v6:(nN a s m D [i,0,0,0,0] es clock Hl.none).i 6=s:=rfl;have v7:(nN a s m D [i,0,0,0,0] es clock Hl.none).i 7=0:=rfl;have v8:(nN a s m D [i,0,0,0,0] es clock Hl.none).i 8=D.n:=rfl;have vb:(nN a s m D [i,0,0,0,0] es clock Hl.none).b 12=D.gone:=rfl;rw[v1,v6,v7,v8,vb];have fz:∀ (q:Env) (t:Mem),ah 15 (nN a s m D [i,0,0,0,0] es clock Hl.none) q->aO (uu q (ux++t) [0,1,2]) (.pointer (some ⟨a,0,none⟩)) D:=fun q t g =>
   ⟨a,s,m,es,clock,rfl,He h.ok h.map h.st h.nas h.nam h.nsm (KW (f:=.var 11) (g:=.bvar 12) (g.i 0) (g.i 6) (g.i 7) (g.i 8) (g.i 9) (g.i 10) (g.i 11) (g.b 12)) (g.h 13) (g.h 14)⟩
  have bad:∀ e:Int,gl D i=([],e)->postOf tX [.pointer (some ⟨a,0,none⟩),.int .i64 i] [H] [] (nN a s m D [i,0,0,0,0] es clock Hl.none) ux (.tup [.one (.sl (.lit (-1)) (.lit 0) (.lit 0) (.lit 0)),.one (.int .i64 (.lit e))]):=fun e he _ =>
   ⟨[[0,1,2]],[],rfl,rfl,⟨⟨fun k=>[-1,0,0,0,e].getD k 0,fun _=>false,fun _=>.empty,fun _=>.tuple #[],fun _=>Hl.none⟩,rfl,⟨by show(-1:Int)<= -1;omega,Zw _,Zw _,Zw _⟩,trivial,trivial⟩,_,i,H,D,_,_,rfl,rfl,⟨a,s,m,es,clock,rfl,h⟩,rfl,fz _ [] (ah.refl _ _),by rw[he];rfl,by rw[he];exact⟨rfl,Or.inl ⟨rfl,rfl⟩⟩⟩
  refine⟨fun h0=>⟨by omega,fun hn=>bad 1 ?_,fun hn=>⟨fun hg=>bad 5 ?_,fun hg=>⟨by omega,by omega,fun q1 g1 p1=>⟨⟨⟨[],?_⟩,by omega,Or.inl ⟨?_,?_,by omega,?_⟩,by decide,by decide⟩,fun q2 g2 ⟨a1,a2,a3,_⟩ _=>?_⟩⟩⟩⟩,fun h0=>bad 1 ?_⟩
  .unfold gl DM.has;rw[ZA (by simp only[Z4];omega)]
  .have hh:D.has i=true:=by unfold DM.has;simpa using ⟨h0,hn⟩
   unfold gl;rw[hh,hg];rfl
  .refine⟨rfl,Or.inr ⟨(q1.i 15).toNat,0,#[],by rw[au p1];rfl,Hl.bF _ _,by omega,by decide,rfl,rfl⟩⟩
  .rw[g1.i 6,v6];omega
  .rw[g1.i 7,g1.i 1,v7,v1];omega
  .intro j hj;have hj:j<64:=hj;rw[g1.h 13,g1.i 6,g1.i 7,g1.i 1,v6,v7,v1];show ∃ v,(kU s D.now).cell s _=some v/\_;rw[wW,Y8 (by rw[h.ok.now];omega)];exact⟨_,rfl,rfl⟩
  .have hh:D.has i=true:=by unfold DM.has;simpa using ⟨h0,hn⟩
   have hr:gl D i=(D.cw i,0):=by
    unfold gl;rw[hh];simp only[Bool.true_eq_false,aaG];rw[Zo hg]
   have hsl:=fM h.ok hh;have hseg:cJ (q1.h 13) (q1.i 6).toNat (q1.i 7+q1.i 1*64).toNat (Int.toNat 64)=bK (D.cw i):=by
    rw[g1.h 13,g1.i 6,g1.i 7,g1.i 1,v6,v7,v1];show cJ (kU s D.now) s _ 64=_;unfold cJ;apply ZN;intro j;rw[Zs,ft];rcases aaa j 64 with hj | hj
    .rw[ZI hj,ZS,wW,xO h.ok hh hj,show(0+i*64).toNat+j=64*i.toNat+j by omega,Y8 (by rw[h.ok.now];omega)];rfl
    .rw[Zv (by simpa using hj),Zv (by omega)];rfl
   have hx:=a3 [] ⟨rfl,Or.inr ⟨(q1.i 15).toNat,0,#[],by rw[au p1];rfl,Hl.bF _ _,by omega,by decide,rfl,rfl⟩⟩;rw[hseg,aax]at hx;refine⟨[[0,1,2]],[3],rfl,rfl,⟨⟨fun k=>[q2.i 16,0,64,q2.i 17,0].getD k 0,fun _=>false,fun _=>.empty,fun _=>.tuple #[],fun _=>Hl.none⟩,rfl,⟨a1,Zw _,by show(0:Int)<=64;omega,a2⟩,trivial,trivial⟩,_,i,H,D,_,_,rfl,rfl,⟨a,s,m,es,clock,rfl,h⟩,rfl,fz q2 _ (g1.tr g2),by rw[hr];rfl,?_⟩;rw[hr];show bE (dC [q2.h 16]) _ _ _ _ _;rw[bz,hsl];exact hx
  .unfold gl DM.has;rw[ZA (by simp only[Z4];omega)]
def pz (D:DM) (i:Int) (bs:List Int):DM:=⟨D.n,cf D.now (64*i.toNat) bs,if(iF i (lv D.loose) 0).isSome then D.loose else D.loose++[(i,D.cw i)],if 0<D.fuse then D.fuse-1 else D.fuse,false⟩
def dO (D:DM) (i:Int) (bs:List Int):Int×DM :=
 if D.has i=false\/bs.length≠64 then(1,D)else if D.gone then(5,D)else if D.fuse=0 then(5,{D with gone:=true})else(0,pz D i bs)
def ym (rdP:Hl->Value->List Int->Prop):Sx.Spec where
 fn:=158
 own:=[.arg 0]
 rd:=[2]
 res:=[.one (.int .i64)]
 pre:=fun xs Hs Rs=>∃ p i u bs H R D,xs=[p,.int .i64 i,u]/\Hs=[H]/\Rs=[R]/\aO H p D/\rdP R u bs
 post:=fun xs Hs Rs v Hs' F=>∃ p i u bs H R D H',xs=[p,.int .i64 i,u]/\Hs=[H]/\Rs=[R]/\aO H p D/\rdP R u bs/\Hs'=[H']/\aO H' p (dO D i bs).2/\v=.int .i64 (dO D i bs).1
def th:Sx.Spec:=ym mo
def pq (f:E):Nd:=(fun a k h i j=>(fun b c d g l=>(.and (.pre c) (.ext c (.ext (.alloc 81) (.and (.imp (.not (.bvar 80)) (.and (.e (.le h i)) (.and (.e (.le h (.var 7))) (.and (.e (.hby 13 i a (.lit 64))) (.and (.pre d) (.ext d (.and (.e (.le h (.var 2))) (.and (.e (.le h (.var 3))) (.and j (.and (.pre (.put 83 13 i a b)) (.ext (.put 83 13 i a b) (.post [.bD 0 g 93,.hp 83 [13] [.var 6] [],.hp 82 [14] [.var 10] [],.ro 15 [.var 2] false,.dead] l)))))))))))) (.imp (.bvar 80) (.and (.e (.le h (.var 2))) (.and (.e (.le h (.var 3))) (.and j (.and (.e (.le h i)) (.and (.e (.le h (.var 7))) (.and (.pre (.put 82 13 i a b)) (.ext (.put 82 13 i a b) (.post [.bD 0 g 93,.hp 82 [13] [.var 6] [],.hp 14 [] [.var 10] [],.ro 15 [.var 2] false,.dead] l)))))))))))):Nd)) (bo 15 (.var 2) (.var 3) 0 k) (.mget 16 14 (.var 10) (.int .i64) (.int .i64 (.var 1)) (.agg (List.replicate 64 (CV.int .u8 h))) (List.replicate 64 (Ck.int .u8)) true) (.mset 82 14 (.var 10) (.int .i64) (.int .i64 (.var 1)) (.agg (bo 13 i a 0 k))) [.sl i (.var 7) (.var 8) (.var 9),.map (.var 10),.int .i64 f,.bool (.bvar 12)] (.sv (.one (.int .i64 h)))) (.add (.var 7) (.mul (.var 1) (.lit 64))) (List.replicate 64 (Kd.int .u8)) (.lit 0) (.var 6) (.e (.hby 15 (.var 2) (.var 3) (.lit 64)))
def BQ:Nd:=(fun c g d f=>(fun a=>(fun b=>(.and (.imp (.le d (.var 1)) (.and (.e (.le d g)) (.and (.imp (.lt (.var 1) g) (.and (.e (.le d (.var 4))) (.and (.imp (.not (.eq (.var 4) (.lit 64))) b) (.imp (.eq (.var 4) (.lit 64)) (.and (.imp (.not (.bvar 12)) (.and (.imp (.eq c d) (.post [.bD 0 [.sl (.var 6) (.var 7) g (.var 9),.map (.var 10),.int .i64 c,.bool .tt] 93,.hp 13 [] [.var 6] [],.hp 14 [] [.var 10] [],.ro 15 [.var 2] false] f)) (.imp (.not (.eq c d)) (.and (.imp (.lt d c) (pq (.wrap .i64 (.sub c (.lit 1))))) (.imp (.not (.lt d c)) (pq c)))))) (.imp (.bvar 12) (.post a f))))))) (.imp (.not (.lt (.var 1) g)) b)))) (.imp (.not (.le d (.var 1))) b):Nd)) (.post a (.sv (.one (.int .i64 (.lit 1)))))) [.bD 0 [.sl (.var 6) (.var 7) g (.var 9),.map (.var 10),.int .i64 c,.bool (.bvar 12)] 93,.hp 13 [] [.var 6] [],.hp 14 [] [.var 10] [],.ro 15 [.var 2] false]) (.var 11) (.var 8) (.lit 0) (.sv (.one (.int .i64 (.lit 5))))
def RZ:bU Tryz.prog [] 158 where
 Λ:=aM
 args:=[TP (.var 0) (.lit 0),TI .i64 (.var 1),.sv (.one (.sl (.var 2) (.var 3) (.var 4) (.var 5)))]
 mem:=ux++[.ro 15 [.var 2] false]
 nv:=16
 nd:=BQ
 ok:=by kernel_rfl
theorem KO (l:List Int):(bK l).map km=List.replicate l.length (.int .u8):=by
 unfold bK;rw[aaF]
 induction l with
 | nil=>rfl
 | cons a l ih=>rw[Zf,Zd,abM,ih];rfl
theorem H0 {D:DM} (h:D.ok) {i:Int} (hi:D.has i=true) {bs:List Int} (hb:bs.length=64):(pz D i bs).ok:=by
 have hh:0<=i/\i<D.n:=by unfold DM.has at hi;simpa using hi
 refine⟨?_,h.n,?_,?_,fun p hp=>?_⟩
 .show(cf D.now (64*i.toNat) bs).length=_;rw[yz (by rw[h.now];omega),h.now];rfl
 .have:=h.f0;show(-1:Int)<=if 0<D.fuse then D.fuse-1 else D.fuse
  split<;>omega
 .have:=h.f1;show(if 0<D.fuse then D.fuse-1 else D.fuse)<=(9223372036854775807:Int);split<;>omega
 .have hp:p∈(if(iF i (lv D.loose) 0).isSome then D.loose else D.loose++[(i,D.cw i)]):=hp;split at hp
  .exact h.loose p hp
  .rcases ZT.1 hp with hp | hp
   .exact h.loose p hp
   .rw[Zn]at hp;subst hp;exact⟨fM h hi,hh.1,hh.2⟩
theorem Jb (a:List (Int×List Int)) (i:Int) (l:List Int):lv (a++[(i,l)])=lv a++[(i,.agg (bK l).toArray)]:=by simp [lv]
theorem KX (s y:Nat) (now bs:List Int):(kU s now).put s y (bK bs)=kU s (cf now y bs):=by
 unfold kU;rw[Hl.AY,<-Gt]
theorem HP {D:DM} (h:D.ok) {i:Int} (hi:D.has i=true) (s:Nat):∀ j z,(D.cw i)[j]?=some z->(kU s D.now).cell s (64*i.toNat+j)=some (.int .u8 z):=by
 intro j z hz;have hl:=fM h hi;have hj:j<64:=by have:=(Zi.1 hz).1;omega
 rw[wW,<-xO h hi hj,hz];rfl
theorem Kb {rdP:Hl->Value->List Int->Prop} (hw:∀ {R u bs},rdP R u bs->fp R u bs):(ym rdP).OK Tryz.prog:=by
 refine Spec.bJ (Γ:=[]) (fun _ h=>by cases h) ?_;rintro xs Hs Rs hl1 hl2 ⟨p,i,u,bs,H,R,D,rfl,rfl,rfl,⟨a,s,m,es,clock,rfl,h⟩,hRd⟩;obtain⟨x,y,cp,rfl,hy,hR⟩:=hw hRd;refine⟨RZ,nN a s m D [i,x,y,bs.length,cp] es clock R,fun _ _=>True,fun _ _=>0,?_,NK h _ rfl _ _,(fun _ h=>nomatch h),?_⟩
 .show [Value.pointer (aA (a:Int) 0),Value.int .i64 i,Value.slice (aA x y) ((bs.length:Int)).toNat ((cp:Int)).toNat]=_;rw[iI,Y7,Y7]
 .show Nd.holds _ _ _ BQ;generalize hρ:nN a s m D [i,x,y,bs.length,cp] es clock R=ρ;have v0:ρ.i 0=a:=by rw[<-hρ];rfl
  have v1:ρ.i 1=i:=by rw[<-hρ];rfl
  have v2:ρ.i 2=x:=by rw[<-hρ];rfl
  have v3:ρ.i 3=y:=by rw[<-hρ];rfl
  have v4:ρ.i 4=bs.length:=by rw[<-hρ];rfl
  have v6:ρ.i 6=s:=by rw[<-hρ];rfl
  have v7:ρ.i 7=0:=by rw[<-hρ];rfl
  have v8:ρ.i 8=D.n:=by rw[<-hρ];rfl
  have v9:ρ.i 9=D.n:=by rw[<-hρ];rfl
  have v10:ρ.i 10=m:=by rw[<-hρ];rfl
  have v11:ρ.i 11=D.fuse:=by rw[<-hρ];rfl
  have vb:ρ.b 12=D.gone:=by rw[<-hρ];rfl
  have vh:ρ.h 13=kU s D.now:=by rw[<-hρ];rfl
  have vm:ρ.h 14=Hl.one m (.map es clock):=by rw[<-hρ];rfl
  have vr:ρ.h 15=R:=by rw[<-hρ];rfl
  have hI:∀ q,ah 16 ρ q->∀ k,k<16->q.i k=ρ.i k:=fun q g k h=>g.i k h;have ent:aO H (.pointer (some ⟨a,0,none⟩)) D:=⟨a,s,m,es,clock,rfl,h⟩;have out:∀ (q:Env) (f g:E) (k1 k2:Nat) (t:Mem) (ts:List E) (v1 v2:List Nat) (c:Int) (D':DM) (es':Array MapEntry) (clock':Nat),ah 16 ρ q->dO D i bs=(c,D')->D'.ok->D'.n=D.n->(ku .i64 es' (lv D'.loose)/\MapKept.Stamped es' clock')->aC q f=D'.fuse->bN q g=D'.gone->q.h k1=kU s D'.now->q.h k2=Hl.one m (.map es' clock') ->
   postOf (ym rdP) [.pointer (some ⟨a,0,none⟩),.int .i64 i,.slice (aA x y) bs.length cp] [H] [R] q
    (.bD 0 [.sl (.var 6) (.var 7) (.var 8) (.var 9),.map (.var 10),.int .i64 f,.bool g] 93::.hp k1 v1 [.var 6] []::.hp k2 v2 [.var 10] []::t) (.sv (.one (.int .i64 (.lit c)))):=by
   intro q f g k1 k2 t ts w1 w2 c D' es' clock' hq hw hok hn hm hf hg h1 h2 _;refine⟨[[0,1,2]],[],rfl,rfl,⟨⟨fun _=>c,fun _=>false,fun _=>.empty,fun _=>.tuple #[],fun _=>Hl.none⟩,rfl,trivial,trivial⟩,_,i,_,bs,H,R,D,_,rfl,rfl,rfl,ent,hRd,rfl,⟨a,s,m,es',clock',rfl,?_⟩,by rw[hw];rfl⟩;rw[hw];refine He hok hm.1 hm.2 h.nas h.nam h.nsm (KW ?_ ?_ ?_ ?_ ?_ ?_ hf hg) h1 h2
   .rw[hq.i 0,v0]
   .rw[hq.i 6,v6]
   .rw[hq.i 7,v7]
   .rw[hq.i 8,v8];show(D.n:Int)=(D'.n:Int);rw[hn]
   .rw[hq.i 9,v9];show(D.n:Int)=(D'.n:Int);rw[hn]
   .rw[hq.i 10,v10]
  have tail:∀ f:E,(∀ q,ah 16 ρ q->aC q f=if 0<D.fuse then D.fuse-1 else D.fuse)->D.has i=true->bs.length=64->D.gone=false->D.fuse≠0->(pq f).holds ⟨[],fun _ _=>True,fun _ _=>0,postOf (ym rdP) [.pointer (some ⟨a,0,none⟩),.int .i64 i,.slice (aA x y) bs.length cp] [H] [R]⟩ (fun _=>0) ρ:=by
   intro f hf hi hb hg hz;have hh:0<=i/\i<D.n:=by unfold DM.has at hi;simpa using hi
   have hw:dO D i bs=(0,pz D i bs):=by
    unfold dO;rw[Zo (by rw[hi,hb];simp),Zo (by rw[hg];simp),Zo hz]
   have hx:0<=x/\∀ j z,bs[j]?=some z->R.cell x.toNat (y.toNat+j)=some (.int .u8 z):=by
    rcases hR with h | h
    .rw[h]at hb;cases hb
    .exact h
   have hpok:=H0 h.ok hi hb;have hsl:=fM h.ok hi;unfold pq;simp only[Nd.holds,X.pre,X.rel,X.n,Src.ok,Src.len,Src.bG,Zy,Zm,ZG,Zx,Zp,Nat.reduceAdd,Zd,Zh,bn,bj,aJ,aU,aR,bm,aZ,bh,bg,bd,aV,ba,bk,aX,aW,aK,aY,ai,aj,aB,aF,aD,ar,aG,aQ,aP,aq,aI,az,aH,av,TV.ev,SV.ev,CV.ev,Zf,Zr,bx.hl];rw[v10,v1,vm];have hmem:(Hl.one m (.map es clock)) ((m:Int)).toNat=some (.map es clock):=by rw[Y7];exact Hl.bF _ _
   refine⟨⟨by omega,es,clock,_,hmem,kJ h.map i,?_⟩,fun q1 g1 hq1 q2 g2 _=>?_⟩
   .intro j v hv;obtain⟨_,hv⟩:=wO hv;unfold lv at hv;rw[Zs,Zk]at hv;obtain⟨p,hp,he⟩:=hv;cases he;have:=(h.ok.loose p (Zb hp)).1;refine⟨_,rfl,?_⟩;show(bK p.2).map km=_;rw[KO,this]
   .obtain⟨_,hb80⟩:=hq1 es clock _ hmem (kJ h.map i);have hb80:q1.b 80=(iF i (lv D.loose) 0).isSome:=hb80;have e80:q2.b 80=(iF i (lv D.loose) 0).isSome:=by rw[g2.b 80,hb80]
    have g12:ah 16 ρ q2:=g1.tr g2;have hby:∀ q,ah 16 ρ q->cy (q.h 15) (q.i 2).toNat (q.i 3).toNat (Int.toNat 64)=true:=by
     intro q g;rw[g.h 15,g.i 2,g.i 3,vr,v2,v3];exact dA hx.2 (by rw[hb];decide)
    have hcs:∀ q,ah 16 ρ q->(bo 15 (.var 2) (.var 3) 0 (List.replicate 64 (Kd.int .u8))).map (CV.ev q)=bK bs:=by
     intro q g;refine ib 64 0 bs hb fun j z hz=>?_;rw[g.h 15,aj,aj,g.i 2,g.i 3,vr,v2,v3,ZM];exact hx.2 j z hz
    have hat:∀ q,ah 16 ρ q->(q.i 7+q.i 1*64).toNat=64*i.toNat:=by
     intro q g;rw[g.i 7,g.i 1,v7,v1];omega
    have hwr:∀ q,ah 16 ρ q->0<=q.i 6/\0<=q.i 7+q.i 1*64/\(q.h 13).wr (q.i 6).toNat (q.i 7+q.i 1*64).toNat (bo 15 (.var 2) (.var 3) 0 (List.replicate 64 (Kd.int .u8))).length=true:=by
     intro q g;have:=hat q g;refine⟨by rw[g.i 6,v6];omega,by rw[g.i 7,g.i 1,v7,v1];omega,?_⟩;rw[this,g.h 13,g.i 6,vh,v6,jo,Z8,Y7];exact Hl.FF _ _ _ _ _ (by rw[abb,cP,h.ok.now];omega)
    have hput:∀ q,ah 16 ρ q->(q.h 13).put (q.i 6).toNat (q.i 7+q.i 1*64).toNat (bK bs)=kU s (pz D i bs).now:=by
     intro q g;rw[hat q g,g.h 13,g.i 6,vh,v6,Y7,KX];rfl
    have n2:∀ q,ah 16 ρ q->0<=q.i 2/\0<=q.i 3/\0<=q.i 6/\0<=q.i 7:=by
     intro q g;rw[g.i 2,g.i 3,g.i 6,g.i 7,v2,v3,v6,v7];exact⟨hx.1,hy,by omega,by omega⟩
    refine⟨fun hnb=>?_,fun hyb=>?_⟩
    .have hnone:iF i (lv D.loose) 0=none:=by
      rw[e80]at hnb;cases hgo:iF i (lv D.loose) 0 with
      | none=>rfl
      | some v=>rw[hgo]at hnb;simp at hnb
     obtain⟨es',hmp,hmi,hmst⟩:=Je h.map hnone (.agg (bK (D.cw i)).toArray) h.st;have c13:cy (q2.h 13) (q2.i 6).toNat (q2.i 7+q2.i 1*64).toNat (Int.toNat 64)=true:=by
      rw[hat q2 g12,g12.h 13,g12.i 6,vh,v6,Y7];exact dA (HP h.ok hi s) (by rw[hsl];decide)
     have hsec:(bo 13 (.var 6) (.add (.var 7) (.mul (.var 1) (.lit 64))) 0 (List.replicate 64 (Kd.int .u8))).map (CV.ev q2)=bK (D.cw i):=by
      refine ib 64 0 _ hsl fun j z hz=>?_;simp only[aB,aD,aj,ai];rw[hat q2 g12,g12.h 13,g12.i 6,vh,v6,Y7,ZM];exact HP h.ok hi s j z hz
     have hm2:q2.h 14 (q2.i 10).toNat=some (.map es clock):=by
      rw[g12.h 14,g12.i 10,vm,v10];exact hmem
     refine⟨(n2 q2 g12).2.2.1,(n2 q2 g12).2.2.2,c13,⟨by rw[g12.i 10,v10];omega,es,clock,_,hm2,kJ h.map _⟩,fun q3 g3 hq3=>?_⟩;have g13:ah 16 ρ q3:=g12.tr g3;have h82:=hq3 es clock hm2;rw[hsec,g12.i 1,v1,hmp,g12.h 14,g12.i 10,vm,v10,Y7,Hl.xc]at h82;refine⟨(n2 q3 g13).1,(n2 q3 g13).2.1,hby q3 g13,hwr q3 g13,fun q4 g4 hq4=>?_⟩;have g14:ah 16 ρ q4:=g13.tr g4;rw[hcs q3 g13,hput q3 g13]at hq4;refine out q4 _ _ _ _ _ [] _ _ 0 (pz D i bs) es' (clock+1) g14 hw hpok rfl ?_ (hf q4 g14) (by rw[cn,g14.b 12,vb,hg];rfl) hq4 (by rw[g4.h 82,h82]);have el:(pz D i bs).loose=D.loose++[(i,D.cw i)]:=by
      show(if(iF i (lv D.loose) 0).isSome then D.loose else D.loose++[(i,D.cw i)])=_;rw[hnone];rfl
     rw[el,Jb];exact⟨hmi,hmst⟩
    .have el:(pz D i bs).loose=D.loose:=by
      show(if(iF i (lv D.loose) 0).isSome then D.loose else D.loose++[(i,D.cw i)])=_;rw[<-e80,hyb];rfl
     refine⟨(n2 q2 g12).1,(n2 q2 g12).2.1,hby q2 g12,(n2 q2 g12).2.2.1,(n2 q2 g12).2.2.2,hwr q2 g12,fun q3 g3 hq3=>?_⟩;have g13:ah 16 ρ q3:=g12.tr g3;rw[hcs q2 g12,hput q2 g12]at hq3;exact out q3 _ _ _ _ _ [] _ _ 0 (pz D i bs) es clock g13 hw hpok rfl (by rw[el];exact⟨h.map,h.st⟩) (hf q3 g13) (by rw[cn,g13.b 12,vb,hg];rfl) hq3 (by rw[g13.h 14,vm])
  unfold BQ;simp only[Nd.holds,X.pre,X.rel,X.n,Src.ok,Src.len,Src.bG,Zy,Zm,ZG,Zx,Zp,Nat.reduceAdd,Zd,Zh,bn,bj,aJ,aU,aR,bm,aZ,bh,bg,bd,aV,ba,bk,aX,aW,aK,aY,ai,aj,aB,aF,aD,ar,aG,aQ,aP,aq,aI,az,aH,av,TV.ev,SV.ev,CV.ev,Zf,Zr,bx.hl];rw[v1,v4,v8,v11,vb];have bad:∀ c:Int,dO D i bs=(c,D)->postOf (ym rdP) [.pointer (some ⟨a,0,none⟩),.int .i64 i,.slice (aA x y) bs.length cp] [H] [R] ρ
   (.bD 0 [.sl (.var 6) (.var 7) (.var 8) (.var 9),.map (.var 10),.int .i64 (.var 11),.bool (.bvar 12)] 93::.hp 13 [] [.var 6] []::.hp 14 [] [.var 10] []::[.ro 15 [.var 2] false]) (.sv (.one (.int .i64 (.lit c)))):=fun c hc =>
   out ρ _ _ _ _ _ [] _ _ c D es clock (ah.refl _ _) hc h.ok rfl ⟨h.map,h.st⟩ (by rw[aj,v11]) (by rw[cn,vb]) vh vm
  have yes:0<=i->i<D.n->D.has i=true:=fun h0 h1=>by unfold DM.has;simp [h0,h1]
  refine⟨fun h0=>⟨by omega,fun hn=>⟨by omega,fun hb=>bad 1 ?_,fun hb=>⟨fun hg=>⟨fun hz=>?_,fun hz=>⟨fun hp=>?_,fun hp=>?_⟩⟩,fun hg=>bad 5 ?_⟩⟩,fun hn=>bad 1 ?_⟩,fun h0=>bad 1 ?_⟩
  .unfold dO;rw[ZA (Or.inr (by omega))]
  .have hw:dO D i bs=(5,{D with gone:=true}):=by
    unfold dO;rw[Zo (by rw[yes h0 hn];simp;omega),Zo hg,ZA hz]
   exact out ρ _ _ _ _ _ [] _ _ 5 {D with gone:=true} es clock (ah.refl _ _) hw ⟨h.ok.now,h.ok.n,h.ok.f0,h.ok.f1,h.ok.loose⟩ rfl ⟨h.map,h.st⟩ (by rw[aj,v11]) (by rw[c8]) vh vm
  .refine tail _ (fun q g=>?_) (yes h0 hn) (by omega) (by simpa using hg) hz;have:=h.ok.f1;rw[ar,aF,aj,ai,g.i 11,v11,ZA hp,wrap_i64 (by omega) (by omega)]
  .refine tail _ (fun q g=>?_) (yes h0 hn) (by omega) (by simpa using hg) hz;rw[aj,g.i 11,v11,Zo hp]
  .unfold dO;rw[Zo (by rw[yes h0 hn];simp;omega),ZA hg]
  .unfold dO DM.has;rw[ZA (Or.inl (by simp only[Z4];omega))]
  .unfold dO DM.has;rw[ZA (Or.inl (by simp only[Z4];omega))]
theorem zV:th.OK Tryz.prog:=Kb fun h=>h.w
def dm (D:DM):Int×DM:=if D.gone then(5,D)else if D.fuse=0 then(5,{D with gone:=true})else(0,⟨D.n,D.now,[],if 0<D.fuse then D.fuse-1 else D.fuse,D.gone⟩)
theorem UZ {H:Hl} {a s m:Nat} {es es':Array MapEntry} {clock clock':Nat} {D D':DM} {x1 x2 x3 x4 x5:Int} {R:Hl} (h:pY H a s m es clock D) {q:Env} (hq:ah 15 (nN a s m D [x1,x2,x3,x4,x5] es clock R) q) {f g:E} {k1 k2:Nat} {v1 v2:List Nat} {t:Mem}
 (hok:D'.ok) (hn:D'.n=D.n) (hm:ku .i64 es' (lv D'.loose)) (hst:MapKept.Stamped es' clock') (hf:aC q f=D'.fuse) (hg:bN q g=D'.gone) (h1:q.h k1=kU s D'.now) (h2:q.h k2=Hl.one m (.map es' clock')) :
 aO (uu q (.bD 0 [.sl (.var 6) (.var 7) (.var 8) (.var 9),.map (.var 10),.int .i64 f,.bool g] 93::.hp k1 v1 [.var 6] []::.hp k2 v2 [.var 10] []::t) [0,1,2]) (.pointer (some ⟨a,0,none⟩)) D':=by
 refine⟨a,s,m,es',clock',rfl,He hok hm hst h.nas h.nam h.nsm (KW (hq.i 0) (hq.i 6) (hq.i 7) ?_ ?_ (hq.i 10) hf hg) h1 h2⟩
 .rw[hq.i 8];show(D.n:Int)=(D'.n:Int);rw[hn]
 .rw[hq.i 9];show(D.n:Int)=(D'.n:Int);rw[hn]
def sd:Sx.Spec where
 fn:=159
 own:=[.arg 0]
 rd:=[]
 res:=[.one (.int .i64)]
 pre:=fun xs Hs Rs=>∃ p H D,xs=[p]/\Hs=[H]/\aO H p D
 post:=fun xs Hs Rs v Hs' F=>∃ p H D H',xs=[p]/\Hs=[H]/\aO H p D/\Hs'=[H']/\aO H' p (dm D).2/\v=.int .i64 (dm D).1
def Gz:Nd:=(fun c f b d e=>(fun a g=>(.and (.imp (.not f) (.and (.imp (.eq c d) (.post [.bD 0 [.sl (.var 6) (.var 7) (.var 8) (.var 9),.map (.var 10),.int .i64 c,.bool .tt] 93,.hp 13 [] [.var 6] [],.hp 14 [] [.var 10] []] e)) (.imp (.not (.eq c d)) (.and (.imp (.lt d c) (.and (.pre b) (.ext b (.post [.bD 0 [.sl (.var 6) (.var 7) (.var 8) (.var 9),.map (.var 10),.int .i64 (.wrap .i64 (.sub c (.lit 1))),.bool f] 93,.hp 13 [] [.var 6] [],.hp 15 [14] [.var 10] []] g)))) (.imp (.not (.lt d c)) (.and (.pre b) (.ext b (.post [.bD 0 a 93,.hp 13 [] [.var 6] [],.hp 15 [14] [.var 10] []] g)))))))) (.imp f (.post [.bD 0 a 93,.hp 13 [] [.var 6] [],.hp 14 [] [.var 10] []] e)):Nd)) [.sl (.var 6) (.var 7) (.var 8) (.var 9),.map (.var 10),.int .i64 c,.bool f] (.sv (.one (.int .i64 d)))) (.var 11) (.bvar 12) (.mclr 15 14 (.var 10)) (.lit 0) (.sv (.one (.int .i64 (.lit 5))))
def TR:bU Tryz.prog [] sd.fn where
 Λ:=aM
 args:=[TP (.var 0) (.lit 0)]
 mem:=ux
 nv:=15
 nd:=Gz
 ok:=by kernel_rfl
theorem DY:sd.OK Tryz.prog:=by
 refine Spec.bJ (Γ:=[]) (fun _ h=>by cases h) ?_;rintro xs Hs Rs hl1 hl2 ⟨p,H,D,rfl,rfl,a,s,m,es,clock,rfl,h⟩;have e1:Rs=[]:=Za.1 hl2;subst e1;refine⟨TR,nN a s m D [0,0,0,0,0] es clock Hl.none,fun _ _=>True,fun _ _=>0,?_,Aq h _ rfl _,(fun _ h=>nomatch h),?_⟩
 .show [Value.pointer (aA (a:Int) 0)]=_;rw[iI]
 .show Nd.holds _ _ _ Gz;unfold Gz;simp only[Nd.holds,X.pre,X.rel,X.n,Src.ok,Src.len,Src.bG,Zy,Zm,ZG,Zx,Zp,Nat.reduceAdd,Zd,Zh,bn,bj,aJ,aU,aR,bm,aZ,bh,bg,bd,aV,ba,bk,aX,aW,aK,aY,ai,aj,aB,aF,aD,ar,aG,aQ,aP,aq,aI,az,aH,av,TV.ev,SV.ev,CV.ev,Zf,Zr,bx.hl];generalize hρ:nN a s m D [0,0,0,0,0] es clock Hl.none=ρ;have v10:ρ.i 10=m:=by rw[<-hρ];rfl
  have v11:ρ.i 11=D.fuse:=by rw[<-hρ];rfl
  have vb:ρ.b 12=D.gone:=by rw[<-hρ];rfl
  have vh:ρ.h 13=kU s D.now:=by rw[<-hρ];rfl
  have vm:ρ.h 14=Hl.one m (.map es clock):=by rw[<-hρ];rfl
  have out:∀ (q:Env) (f g:E) (k1 k2:Nat) (w1 w2:List Nat) (t:Mem) (c:Int) (D':DM) (es':Array MapEntry) (clock':Nat),ah 15 ρ q->dm D=(c,D')->D'.ok->D'.n=D.n->ku .i64 es' (lv D'.loose)->MapKept.Stamped es' clock'->aC q f=D'.fuse->bN q g=D'.gone->q.h k1=kU s D'.now->q.h k2=Hl.one m (.map es' clock') ->
   postOf sd [.pointer (some ⟨a,0,none⟩)] [H] [] q (.bD 0 [.sl (.var 6) (.var 7) (.var 8) (.var 9),.map (.var 10),.int .i64 f,.bool g] 93::.hp k1 w1 [.var 6] []::.hp k2 w2 [.var 10] []::t) (.sv (.one (.int .i64 (.lit c)))):=by
   intro q f g k1 k2 w1 w2 t c D' es' clock' hq hs hok hn hm hst hf hg h1 h2 _;rw[<-hρ]at hq;refine⟨[[0,1,2]],[],rfl,rfl,⟨⟨fun _=>c,fun _=>false,fun _=>.empty,fun _=>.tuple #[],fun _=>Hl.none⟩,rfl,trivial,trivial⟩,_,H,D,_,rfl,rfl,⟨a,s,m,es,clock,rfl,h⟩,rfl,?_,by rw[hs];rfl⟩;rw[hs];exact UZ h hq hok hn hm hst hf hg h1 h2
  have hmem:(Hl.one m (.map es clock)) ((m:Int)).toNat=some (.map es clock):=by rw[Y7];exact Hl.bF _ _
  have tail:∀ (f:E),(∀ q,ah 15 ρ q->aC q f=if 0<D.fuse then D.fuse-1 else D.fuse)->D.gone=false->D.fuse≠0->(0<=ρ.i 10/\∃ es clock,ρ.h 14 (ρ.i 10).toNat=some (.map es clock))/\∀ ρ',ah 15 ρ ρ'->(∀ es clock,ρ.h 14 (ρ.i 10).toNat=some (.map es clock)->ρ'.h 15=(ρ.h 14).setObj (ρ.i 10).toNat (.map #[] clock)) ->
   postOf sd [.pointer (some ⟨a,0,none⟩)] [H] [] ρ' [.bD 0 [.sl (.var 6) (.var 7) (.var 8) (.var 9),.map (.var 10),.int .i64 f,.bool (.bvar 12)] 93,.hp 13 [] [.var 6] [],.hp 15 [14] [.var 10] []] (.sv (.one (.int .i64 (.lit 0)))):=by
   intro f hf hg hz;rw[v10,vm];refine⟨⟨by omega,es,clock,hmem⟩,fun q gq hq=>?_⟩;have hq:=hq es clock hmem;rw[Y7,Hl.xc]at hq;refine out q f (.bvar 12) 13 15 _ _ _ 0 ⟨D.n,D.now,[],if 0<D.fuse then D.fuse-1 else D.fuse,D.gone⟩ #[] clock gq ?_ ⟨h.ok.now,h.ok.n,?_,?_,fun p hp=>by cases hp⟩ rfl rfl (MapKept.stamped_empty _) (hf q gq) (by rw[cn,gq.b 12,vb]) (by rw[gq.h 13,vh]) hq
   .unfold dm;rw[Zo (by rw[hg];simp),Zo hz]
   .have:=h.ok.f0;show -1<=(if 0<D.fuse then D.fuse-1 else D.fuse);split<;>omega
   .have:=h.ok.f1;show(if 0<D.fuse then D.fuse-1 else D.fuse)<=_;split<;>omega
  rw[vb,v11];have f0:=h.ok.f0;have f1:=h.ok.f1;refine⟨fun hg=>⟨fun hz=>?_,fun hz=>⟨fun hp=>tail _ (fun q gq=>?_) (aaO.2 hg) hz,fun hp=>tail _ (fun q gq=>?_) (aaO.2 hg) hz⟩⟩,fun hg=>?_⟩
  .refine out ρ _ _ _ _ _ _ _ 5 {D with gone:=true} es clock (ah.refl _ _) ?_ ⟨h.ok.now,h.ok.n,h.ok.f0,h.ok.f1,h.ok.loose⟩ rfl h.map h.st (by rw[aj,v11]) (c8 _) vh vm;unfold dm;rw[Zo hg,ZA hz]
  .rw[ZA hp,ar,aF,aj,ai,gq.i 11,v11];exact wrap_i64 (by omega) (by omega)
  .rw[Zo hp,aj,gq.i 11,v11]
  .refine out ρ _ _ _ _ _ _ _ 5 D es clock (ah.refl _ _) ?_ h.ok rfl h.map h.st (by rw[aj,v11]) (by rw[cn,vb]) vh vm;unfold dm;rw[ZA hg]
def gr (v:Value):List Int:=(Qm v).map fun c=>cW (some c)
theorem E6 (l:List Int):gr (.agg (bK l).toArray)=l:=by
 show((l.map (Value.int .u8)).map fun c=>cW (some c))=l;rw[aaF];exact List.map_id l
theorem jM:∀ (n:Nat) (l:List Int),l.length=n->bS (bK l) ((List.replicate n (Ck.int .u8)).map jA)
 | 0,[],_=>trivial
 | n+1,x::l,h=>⟨by simp [bY,jA],jM n l (by simpa using h)⟩
 | 0,_::_,h=>by simp at h
 | _+1,[],h=>by simp at h
end Go.Proofs.YtomdimlnggpgbaaGreatDoor.D
