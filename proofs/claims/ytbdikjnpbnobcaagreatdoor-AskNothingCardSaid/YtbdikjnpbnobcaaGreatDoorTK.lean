/- Bytes that are no request are told nothing and change nothing: a part of the proof. No condition. -/
import Derived.RangeFuncLeaves
import Derived.Test.YtbdikjnpbnobcaaGreatDoorProg
import Derived.Test.YtbdikjnpbnobcaaGreatDoorTJ
set_option linter.all false
set_option maxHeartbeats 4000000
namespace Go.Sx
open Go
section
variable {P:Program} {C:Ctx} {S:Nat->Prop} {w0:World} {J J':Env} {st:St} {mem mem':Mem} {a:Act} {w w':World}
def sV:Tag->Int
 | .norm=>0
 | .ret=>1
 | .exit i=>2+i
def qo (s:St):List Nat->Option (List SV)
 | []=>some []
 | t::l=>match s.tmps[t]?,qo s l with
  | some (some (.sv v)),some vs=>some (v::vs)
  | _,_=>none
def j9 (hA:Rel S w0 J st a w):∀ {l:List Nat} {vs:List SV},qo st l=some vs->l.map (fun t=>a.tmps[t]?)=vs.map fun v=>some (v.ev J)
 | [],vs,h=>by cases h;rfl
 | t::l,vs,h=>by
  unfold qo at h;split at h
  .rename_i v us h1 h2;cases h;rw[M6,M6,j9 hA h2,hA.tmp t _ h1];rfl
  .cases h
def Ia (t:Tag) (vs:List SV):TV:=.tup (.one (.int .i64 (.lit (sV t)))::vs)
def leaf (N n0:Nat) (outs:Tag->List Nat):Kont:=fun t s=>if s.tmps.length≠N then none else(qo s (outs t)).map fun vs=>.post s.mem (Ia t vs)
def vp (ex:Ex) (p:List Nat):List Code->St->Kont->Option Nd
 | [],st,k=>k .norm st
 | c::l,st,k=>ex 0 (l.length::p) c st fun t s=>match t with
  | .norm=>if st.nv<=s.nv then vp ex p l s k else none
  | t=>k t s
def lZ (F:Fence) (n:Nat) (P:Program) (Q:Exit->Act->World->Prop):List Code->Act->World->Prop
 | []=>Q .normal
 | c::l=>c.wpIn F n P (Exit.then (lZ F n P Q l) Q)
def ly {ro:Option Nat} {dn:Nat} {ex:Ex} (hex:ExOKr ro P C ex) {p:List Nat} {k:Kont} {Q:Exit->Act->World->Prop} : ∀ (l:List Code) (st:St) (nd:Nd) (ms:Nat->Nat) (J:Env) (a:Act) (w:World),
 vp ex p l st k=some nd->Rel S w0 J st a w->nd.holds C ms J->(∀ t,KOK S w0 C 0 ms st.nv J (k t) (Q (exitOf t)))->lZ (FW ro) dn P Q l a w
 | [],st,nd,ms,J,a,w,h,hA,hn,hk=>hk .norm ms st nd J a w (fun _ _=>rfl) h (Agree.refl _ _) hA hn
 | c::l,st,nd,ms,J,a,w,h,hA,hn,hk=>by
  refine hex dn 0 _ c st _ nd ms S w0 J a w _ h hA hn fun t=>?_;intro d st' e J' a' w' f b hg g j;cases t with
  | norm =>
   simp only at b;split at b
   .rename_i hle;exact ly hex l st' e d J' a' w' b g j fun t=>(hk t).of_agree f hg hle
   .cases b
  | ret=>exact hk .ret d st' e J' a' w' f b hg g j
  | exit i=>exact hk (.exit i) d st' e J' a' w' f b hg g j
def owes (R:Value->List Hl->Hl->Prop) (Hs:List Hl):Env->Mem->TV->Prop:=fun J mem r =>
 (∀ (p q:Nat) r s,p≠q->mem[p]?=some r->mem[q]?=some s->r.own=true->(r.hl J).dis (s.hl J))->∃ gs f,gs.length=Hs.length/\okIdx mem gs f=true/\R (r.ev J) (gs.map (uni J mem)) (uni J mem f)
def Ca {Γ:List Spec} (m:∀ t∈Γ,t.OK P) {ro:Option Nat} {dn:Nat} {inv:Nat->Env->Prop} {mu:Nat->Env->Nat} {R:Value->List Hl->Hl->Prop} {Hs Rs:List Hl} {ex:Ex} (hex:ExOKr ro P ⟨Γ,inv,mu,owes R Hs⟩ ex)
 {p:List Nat} {l:List Code} {n0:Nat} {outs:Tag->List Nat} {nd:Nd} (h:vp ex p l st (leaf st.tmps.length n0 outs)=some nd)
 (h1:∀ H∈Hs,H.sub w) (h2:∀ R∈Rs,R.sub w) (n:∀ H∈Hs,∀ R∈Rs,H.dis R) (o:Entry J st.mem Hs Rs)
 (hsz:a.tmps.size=st.tmps.length) (g:a.defers=[]) (i:∀ (t:Nat) (v:TV),st.tmps[t]?=some (some v)->a.tmps[t]?=some (v.ev J)) (hp:Path J st.path)
 (hn:nd.holds ⟨Γ,inv,mu,owes R Hs⟩ (fun _=>0) J) :
 lZ (FW ro) dn P (fun e a' w'=>∃ t vs Hs' F,e=exitOf t/\a'.tmps.size=a.tmps.size/\a'.defers=[]/\(outs t).map (fun t=>a'.tmps[t]?)=vs.map some/\Turned w w' Hs Hs' F/\R (.tuple (Value.int .i64 (sV t)::vs).toArray) Hs' F) l a w:=by
 refine ly (C:=⟨Γ,inv,mu,owes R Hs⟩) (w0:=w) (S:=fun b=>∃ H∈Hs,H.mem b) hex l st nd (fun _=>0) J a w h ⟨o.mrel h1 h2 n,hsz,g,i,hp⟩ hn fun t=>?_;intro q st' r J' a' w' s c hg d j;unfold leaf at c;split at c
 .cases c
 rename_i hN;simp only[MN]at c;obtain⟨vs,k,rfl⟩:=c;have hm:=d.toMRel;obtain⟨gs,f,hl,hok,u⟩:=j hm.dis;refine⟨t,vs.map (SV.ev J'),_,_,rfl,?_,d.defers,?_,Turned.of hm hl hok,?_⟩
 .rw[d.size,hsz];exact Decidable.not_not.1 hN
 .rw[j9 d k,NY];rfl
 .exact u
end
end Go.Sx
namespace Go.Sx
open Go Go.RowKit
variable {a:Act}{Q:Exit->Act->World->Prop}{B gf l n:Nat}{o o0 o1 o2 o3:Oper}{g x y:Operand}{σ:Type}{T ty:TypeId}{W w:World}
section
variable {P:Program}
def rows (B:Nat) (r:Loop) (W:World):Prop:=W.heap[B+1]?=some (.loop r)/\W.heap[B]?=some (.deferred (some []))
def FU (fn:FuncId) (t:Array Value) (ps:Array Tmp) (x y:Code) (B:Nat) (s:LoopState) (p:Option Code):Loop:={state:=s,pending:=p,fn:=fn,tmps:=t,params:=ps,assign:=x,body:=y,defers:=B}
def kn {r r':Loop} (h:rows B r W):rows B r' (W.putObj (B+1) (.loop r')) :=
 ⟨World.putObj_heap_same (Ng.1 h.1).1,(World.putObj_heap_other ae).trans h.2⟩
def Yields (n:Nat) (P:Program) (gf:Nat) (lb:Array Value) (l:Nat) (Y Z:σ->World->Prop) (args:σ->Array Value) (W0:World) (Done:World->Prop):Prop :=
 ∀ (L X:World->Prop),(∀ W W',L W->W.heap.size<=W'.heap.size->(∀ b,b<W.heap.size->W'.heap[b]?=W.heap[b]?)->L W') ->
  (∀ s W,Y s W->L W->YieldAt Fence.wide (n-1-1) P l (args s) W fun e W'=>(e=.returned (.bool true)/\Z s W'/\L W')\/(e=.returned (.bool false)/\X W')) ->
  L W0->CallsIn Fence.wide (n-1) P gf (#[.func (.yield l) #[] #[]]++lb) W0 fun e W'=>(∃ v,e=.returned v)/\((Done W'/\L W')\/X W')
def ends (B:Nat) (rc:LoopState->Option Code->Loop) (Z:World->Prop) (Ix:Nat->World->Prop):Exit->Act->World->Prop
 | .normal,_,W=>rows B (rc .busy none) W/\Z (W.putObj (B+1) (.loop (rc .ready none)))
 | .exit i,_,W=>rows B (rc .busy none) W/\Ix i (W.putObj (B+1) (.loop (rc .done (some (.exit i)))))
 | _,_,_=>False
def yy {ps:Array Tmp} {x y:Code} {lb:Array Value}
 (hg:a.eval g=.func (.func gf) #[] lb) (m:∀ args w,(callFunc gf args).run P w=.ok (.enter gf args) w)
 {Y Z:σ->World->Prop} {args:σ->Array Value} {Done:World->Prop} {Ix:Nat->World->Prop} (hsz:∀ s,(args s).size=ps.size)
 (hseq:∀ rc,Yields n P gf lb (w.heap.size+1) Y Z args ((w.alloc (.deferred (some []))).alloc (.loop rc)) Done)
 (hround:∀ (rc:LoopState->Option Code->Loop) (s:σ) (W:World),Y s W->rows w.heap.size (rc .ready none) W ->
  x.wpIn (FW (some (w.heap.size+1))) (n-1-1) P (Exit.then (fun a1 d=>rows w.heap.size (rc .ready none) d/\y.wpIn (FW (some (w.heap.size+1))) (n-1-1) P (ends w.heap.size rc (Z s) Ix) a1 (d.putObj (w.heap.size+1) (.loop (rc .busy none)))) fun _ _ _=>False)
   {tmps:=(ps.zip (args s)).foldl (fun t (p,v)=>t.setIfInBounds p v) a.tmps,defers:=[]} W)
 (hdone:∀ r r' W,Done W->rows w.heap.size r W->Q .normal {a with defers:={target:=.collected w.heap.size,args:=#[]}::a.defers} (W.putObj (w.heap.size+1) (.loop r')))
 (hstop:∀ r r' i W,Ix i W->rows w.heap.size r W->Q (.exit i) {a with defers:={target:=.collected w.heap.size,args:=#[]}::a.defers} (W.putObj (w.heap.size+1) (.loop r'))) :
 (Code.rangeFunc g ps x y).wpIn Fence.wide n P Q a w:=by
 refine wpIn_rangeFunc ?_;intro fn l;obtain⟨rc,b⟩:∃ rc,rc=FU fn a.tmps ps x y w.heap.size:=⟨_,rfl⟩;obtain⟨d,f⟩:∃ d,(w.alloc (.deferred (some []))).alloc (.loop (rc .ready none))=d:=⟨_,rfl⟩;have h1:rows w.heap.size (rc .ready none) d:=by
  rw[<-f];refine⟨?_,(Below.heap_alloc _ _ _ ar).trans (World.alloc_heap_new w _)⟩;have:=World.alloc_heap_new (w.alloc (.deferred (some []))) (.loop (rc .ready none));rwa[World.size_alloc]at this
 refine⟨w.heap.size+1,[{target:=.collected w.heap.size,args:=#[]}],d,{target:=.fn (.func gf) lb,args:=#[.func (.yield (w.heap.size+1)) #[] #[]]},d,gf,
  #[.func (.yield (w.heap.size+1)) #[] #[]]++lb,d,?_,?_,fun _ _=>trivial,?_,fun h=>(PD h).elim,?_⟩
 .rw[<-f,b];exact run_enterLoop_outer _ _ _ _ _
 .simp only[resolve,hg];simp [go_sem]
 .simp [invoke,go_sem,m]
 have hs:=hseq (rc .ready none);rw[f]at hs;refine(hs (rows w.heap.size (rc .ready none)) (fun W=>∃ i,Ix i W/\rows w.heap.size (rc .done (some (.exit i))) W)
  (fun W W' j _ hk=>⟨(hk _ (Ng.1 j.1).1).trans j.1,(hk _ (Ng.1 j.2).1).trans j.2⟩) ?_ h1).mono ?_
 .intro s W hY j;have hy:=run_yield (P:=P) (args:=args s) j.1 (by rw[b];exact hsz s);rw[b]at hy;refine⟨fn,_,x,y,hy,roundIn_of_wpIn l (wpIn_mono (hround rc s W hY j) ?_)⟩;rintro e a1 o hp;cases e with
  | normal =>
   obtain⟨hr,hb⟩:=hp;refine⟨_,by have:=run_beginRound (P:=P) hr.1 (by rw[b];rfl);exact this,wpIn_mono (Q:=ends w.heap.size rc (Z s) Ix) (by rw[b]at hb ⊢;exact hb) ?_⟩;rintro e q u hp;cases e with
   | normal =>
    obtain⟨c,hz⟩:=hp;have:=run_endRound (P:=P) none c.1;exact⟨_,_,this,.inl ⟨rfl,by rw[b]at hz ⊢;exact hz,by rw[b]at c ⊢;exact kn c⟩⟩
   | exit i =>
    obtain⟨c,hz⟩:=hp;have:=run_endRound (P:=P) (some (.exit i)) c.1;exact⟨_,_,this,.inr ⟨rfl,i,by rw[b]at hz ⊢;exact hz,by rw[b]at c ⊢;exact kn c⟩⟩
   | _=>exact hp.elim
  | _=>exact hp.elim
 .rintro e o ⟨⟨v,rfl⟩,k⟩;rcases k with ⟨hd,hr⟩ | ⟨i,hx,hr⟩
  .exact⟨none,_,by have:=run_endLoop (P:=P) hr.1 (by rw[b];simp [FU]);rw[b]at this;exact this,hdone _ _ _ hd hr⟩
  .exact⟨some (.exit i),_,by have:=run_endLoop (P:=P) hr.1 (by rw[b];simp [FU]);rw[b]at this;exact this,wpIn_exit (hstop _ _ _ _ hx hr)⟩
end
section
variable {P:Program}
def Bx (ho:o.op=.call {callee:=.value x,args:=#[y],argTypes:=#[T]}) {v:Value} {K:Act->World->Prop} {A X:World->Prop}
 (hx:a.eval x=.func (.yield l) #[] #[]) (hv:a.eval y=v)
 (hy:YieldAt Fence.wide (n-1) P l #[v] w fun e W=>(e=.returned (.bool true)/\A W)\/(e=.returned (.bool false)/\X W))
 (hA:∀ W,A W->K (a.put o.dst (.bool true)) W) (hX:∀ W,X W->K (a.put o.dst (.bool false)) W):o.wpIn Fence.wide n P a w K Q:=by
 obtain⟨fn,tmps,b,body,hy,c⟩:=hy;have h:∀ ev:Operand->Value,ev x=.func (.yield l) #[] #[]->ev y=v->(execOp ev o).run P w=.ok (.round l fn tmps b body) w:=by
  intro ev hx hv;unfold execOp;rw[ho];simp [resolve,invoke,hx,hv,go_sem,hy]
 have h:=h _ hx hv;refine⟨fun _ _=>trivial,?_⟩;rw[Oper.semAt_eq _ _ _ (nodefer h fun _ h=>by cases h),h,Oper.uponIn_round];refine⟨fun h=>(PD h).elim,c.mono ?_⟩;rintro e W (⟨rfl,h⟩ | ⟨rfl,h⟩)
 .exact hA W h
 .exact hX W h
def qR {id p d d0 d1 d2 d3:Nat} (g0:o0.guard=none) (r:o1.guard=none) (s:o2.guard=none) (g3:o3.guard=none)
 (e0:o0.op=.move (.tmp p)) (e1:o1.op=.load T (.tmp d)) (u:o2.op=.call {callee:=.value (.tmp d0),args:=#[.tmp d1],argTypes:=#[T]}) (q:o3.op=.unOp .not ty (.tmp d2))
 (f0:o0.dst=some d0) (f1:o1.dst=some d1) (f2:o2.dst=some d2) (f3:o3.dst=some d3)
 {a:Act} {w:World} {b m:Nat} {row:List Value} {B:TypeId} {x:Nat×Nat} {Q:Exit->Act->World->Prop} {A X:World->Prop}
 (hs0:d0<a.tmps.size) (f:d1<a.tmps.size) (c:d2<a.tmps.size) (g:d0≠d1) (i:d0≠d)
 (ha0:a.tmps[p]?=some (.func (.yield l) #[] #[])) (k:a.tmps[d]?=some (.pointer (some ⟨b,0,none⟩)))
 (hg:aggB P T=some true) (hm:sizeT P T=some m) (hl:row.length=m) (hb:w.heap[b]?=some (.cells row.toArray B x))
 (hy:YieldAt Fence.wide (n-1) P l #[.agg row.toArray] w fun e W=>(e=.returned (.bool true)/\A W)\/(e=.returned (.bool false)/\X W))
 (hA:∀ W,A W->Q .normal ((((a.put (some d0) (.func (.yield l) #[] #[])).put (some d1) (.agg row.toArray)).put (some d2) (.bool true)).put (some d3) (.bool false)) W)
 (hX:∀ W,X W->Q .normal ((((a.put (some d0) (.func (.yield l) #[] #[])).put (some d1) (.agg row.toArray)).put (some d2) (.bool false)).put (some d3) (.bool true)) W) :
 (Code.region id #[o0,o1,o2,o3] false).wpIn Fence.wide n P Q a w:=by
 refine wpIn_region_lit (l:=[o0,o1,o2,o3]) (wpListIn_plain g0 fun K hK=>(inJ none n P).val (v:=.func (.yield l) #[] #[]) (w':=w) ?_ (hK _ _ ?_))
 .unfold execOp;rw[e0];simp [Act.eval,ha0,go_sem]
 rw[f0];refine wpListIn_plain r fun K hK=>(inJ none n P).val (v:=.agg row.toArray) (w':=w) ?_ (hK _ _ ?_)
 .unfold execOp;rw[e1];have:(a.put (some d0) (.func (.yield l) #[] #[])).eval (.tmp d)=.pointer (some ⟨b,0,none⟩):=by
   simp [Act.eval,Act.put,Na,i,k]
  simp only[this];have:=loadVar_cells (P:=P) (t:=T) (b:=b) (o:=0) (n:=m) (cs:=row) (w:=w) hg hm hl fun j v y=>by
   rw[Nw];simp [World.cell?,hb,y]
  have h2:(Instr.loadAt T (.pointer (some ⟨b,0,none⟩))).run P w=.ok (.agg row.toArray) w:=this;rw[Sem.run_bind,h2];rfl
 rw[f1];refine wpListIn_plain s fun K hK=>Bx u (v:=.agg row.toArray) ?_ ?_ hy (fun W h=>hK _ _ ?_) (fun W h=>hK _ _ ?_)
 .simp [Act.eval,Act.put,Na,g.symm,hs0]
 .simp [Act.eval,Act.put,Na,f]
 .rw[f2];refine wpListIn_plain g3 fun K hK=>(inJ none n P).val (v:=.bool false) (w':=W) ?_ (hK _ _ ?_)
  .unfold execOp;rw[q];simp [Act.eval,Act.put,Na,c,go_sem]
  .rw[f3];exact hA W h
 .rw[f2];refine wpListIn_plain g3 fun K hK=>(inJ none n P).val (v:=.bool true) (w':=W) ?_ (hK _ _ ?_)
  .unfold execOp;rw[q];simp [Act.eval,Act.put,Na,c,go_sem]
  .rw[f3];exact hX W h
def C9:List Code->Code->Code
 | [],c=>c
 | x::l,c=>.seq x (C9 l c)
def lr {F:Fence} {n:Nat} {Q:Exit->Act->World->Prop} {c:Code} : ∀ {l:List Code} {a:Act} {w:World},lZ F n P (Exit.then (c.wpIn F n P Q) Q) l a w->(C9 l c).wpIn F n P Q a w
 | [],a,w,h=>h
 | x::l,a,w,h=>wpIn_seq (wpIn_mono h fun e a w=>by
  cases e with
  | normal=>exact fun h=>lr h
  | _=>exact id)
def cG {F:Fence} {n:Nat} {Q c:Exit->Act->World->Prop} (b:∀ e a w,Q e a w->c e a w):∀ {l:List Code} {a:Act} {w:World},lZ F n P Q l a w->lZ F n P c l a w
 | [],a,w,h=>b _ _ _ h
 | x::l,a,w,h=>wpIn_mono h fun e a w=>by
  cases e with
  | normal=>exact fun h=>cG b h
  | _=>exact b _ _ _
end
end Go.Sx
namespace Go.Sx
open Go
variable {a:Act}{C:Ctx}{J:Env}{Hs Rs:List Hl}{Γ:List Spec}{dn n:Nat}{ms:Nat->Nat}{x y:Nd}{ro:Option Nat}{P:Program}{w w':World}
structure bw (P:Program) (Γ:List Spec) where
 Λ:Loops:=noLoops
 lim:Nat:=100
 fuel:Nat:=400
 cs:List Code
 st:St
 outs:Tag->List Nat
 plain:Bool:=false
def Ki (P:Program) (Γ:List Spec):Bool->Dk
 | true=>dkNone
 | false=>dk P Γ
def ES (a:∀ s∈C.Γ,s.OK P):∀ b,DkOK P C (Ki P C.Γ b)
 | true=>dkNone_ok P C
 | false=>dk_ok a
def BY (a:∀ s∈C.Γ,s.OK P) : ∀ b,(b=true\/ro=none)->DkOKr ro P C (Ki P C.Γ b)
 | true,_=>fun _ _ _ _ _ _ _ _ _ _ _ _ _ _ _ _ h=>by cases h
 | false,h=>by
  obtain rfl:=h.resolve_left aj;exact(dk_ok a).to
def bw.V (W:bw P Γ):Option Nd:=vp (exec P Γ (Ki P Γ W.plain) W.Λ W.lim W.fuel) [] W.cs W.st (leaf W.st.tmps.length 0 W.outs)
@[irreducible] def bw.tA (W:bw P Γ) (C:Ctx) (ms:Nat->Nat) (J:Env):Prop:=∃ nd,W.V=some nd/\nd.holds C ms J
def bw.lit {W:bw P Γ} (g:x.holds C ms J) (e:W.V=some x:=by kernel_rfl):W.tA C ms J:=by unfold bw.tA;exact⟨x,e,g⟩
def bw.read {W:bw P Γ} (a:List (List Ck)) (b:List (List Kd)) (c:List (List CV)) {v:Value} (g:y.holds C ms J) (_:Sem.run (K.codeP (K.eN ⟨a,b,c⟩ (W.V.getD .tt) >>>20)) (method 1 0 .nilFunc "") default=.ok (n,v) default:=by go_invoke;exact rfl)
 (_:K.dN ⟨a,b,c⟩ n 400 0 (K.tg n 0)=y:=by simp (config:={maxSteps:=10000000}) only[go_sem,Nat.reduceShiftRight,Nat.reduceMod,Nat.reduceAdd,Nat.reduceMul,Nat.reduceDiv,Nat.reducePow,Int.reduceNatCast',Int.reduceNeg,Int.reduceAdd];exact rfl)
 (e:W.V=some y:=by kernel_rfl):W.tA C ms J:=bw.lit g e
def bw.sound (b:∀ t∈Γ,t.OK P) (W:bw P Γ) (c:W.plain=true\/ro=none) {inv:Nat->Env->Prop} {mu:Nat->Env->Nat} {R:Value->List Hl->Hl->Prop} 
 (h1:∀ H∈Hs,H.sub w) (h2:∀ R∈Rs,R.sub w) (g:∀ H∈Hs,∀ R∈Rs,H.dis R) (h:Entry J W.st.mem Hs Rs)
 (hsz:a.tmps.size=W.st.tmps.length) (d:a.defers=[]) (f:∀ (t:Nat) (v:TV),W.st.tmps[t]?=some (some v)->a.tmps[t]?=some (v.ev J)) (hp:Path J W.st.path)
 (hn:W.tA ⟨Γ,inv,mu,owes R Hs⟩ (fun _=>0) J) :
 lZ (FW ro) dn P (fun e a' w'=>∃ t vs Hs' F,e=exitOf t/\a'.tmps.size=a.tmps.size/\a'.defers=[]/\(W.outs t).map (fun t=>a'.tmps[t]?)=vs.map some/\Turned w w' Hs Hs' F/\R (.tuple (Value.int .i64 (sV t)::vs).toArray) Hs' F) W.cs a w:=by
 unfold bw.tA at hn;obtain⟨nd,i,hn⟩:=hn;exact Ca (ro:=ro) b (exec_okr (C:=⟨Γ,inv,mu,owes R Hs⟩) b (ES (C:=⟨Γ,inv,mu,owes R Hs⟩) b W.plain) (BY (C:=⟨Γ,inv,mu,owes R Hs⟩) b W.plain c) W.Λ W.lim W.fuel) i h1 h2 g h hsz d f hp hn
def Turned.gR {F:Hl} (h:Turned w w' [] Hs F):Keep (fun _=>False) w w':=⟨h.os,h.tape,h.output,h.size,fun b hb _=>h.block b hb ar⟩
def bw.pure (b:∀ t∈Γ,t.OK P) (W:bw P Γ) {R:Value->Prop} (hm:W.st.mem=[]) (hp:W.st.path=[])
 (hsz:a.tmps.size=W.st.tmps.length) (c:a.defers=[]) (d:∀ (t:Nat) (v:TV),W.st.tmps[t]?=some (some v)->a.tmps[t]?=some (v.ev J))
 (hn:W.tA ⟨Γ,fun _ _=>True,fun _ _=>0,owes (fun v _ _=>R v) []⟩ (fun _=>0) J) :
 lZ (FW none) dn P (fun e a' w'=>∃ t vs,e=exitOf t/\a'.tmps.size=a.tmps.size/\a'.defers=[]/\(W.outs t).map (fun t=>a'.tmps[t]?)=vs.map some/\Keep (fun _=>False) w w'/\R (.tuple (Value.int .i64 (sV t)::vs).toArray)) W.cs a w:=by
 refine cG ?_ (bw.sound (Rs:=[]) b W (Or.inr rfl) (Hs:=[]) ar ar ar ?_ hsz c d (by rw[hp];intro e he;cases he) hn)
 .rintro e a' w' ⟨t,vs,Hs',F,h1,h2,f,g,h,i⟩;exact⟨t,vs,h1,h2,f,g,h.gR,i⟩
 .rw[hm];exact⟨ar,ar,.nil,ar⟩
end Go.Sx
namespace Go.Pk
open Go
variable {i j k m n:Nat}{cur:Nat->Nat}
section
variable {α:Type}
def bF (st:Nat->List α) (cur:Nat->Nat) (k i:Nat):List α:=(List.range i).filterMap fun j=>(st j)[cur j+k]?
def bo (st:Nat->List α) (cur:Nat->Nat):Nat->List α
 | 0=>[]
 | k+1=>bo st cur k++bF st cur k 6
def bZ (st:Nat->List α) (cur:Nat->Nat) (k i:Nat):bF st cur k (i+1)=bF st cur k i++((st i)[cur i+k]?).toList:=by
 unfold bF;rw[List.range_succ,List.filterMap_append];cases h:(st i)[cur i+k]?<;>simp [h]
def iT {st:Nat->List α} : bF st cur k i=[]↔∀ j,j<i->(st j).length<=cur j+k:=by
 induction i with
 | zero=>simp [bF]
 | succ i ih =>
  rw[bZ];constructor
  .intro h j a;obtain⟨h1,h2⟩:=List.append_eq_nil_iff.1 h;by_cases e:j=i
   .subst e;cases hg:(st j)[cur j+k]? with
    | none=>exact OG.1 hg
    | some v=>rw[hg]at h2;simp at h2
   .exact ih.1 h1 j Sx.ae
  .intro h;rw[ih.2 fun j a=>h j Sx.ae,OG.2 (h i Sx.ae)];rfl
def sH {st:Nat->List α} (h:bF st cur k 6=[]) (hk:k<=m):bF st cur m 6=[] :=
 iT.2 fun j a=>by have:=iT.1 h j a;omega
def lO {st:Nat->List α} (h:bF st cur k 6=[]):∀ {m:Nat},k<=m->bo st cur m=bo st cur k:=by
 intro m hm
 induction m with
 | zero=>rw[show k=0 by omega]
 | succ m ih =>
  by_cases e:k=m+1
  .rw[e]
  .rw[bo,sH h (show k<=m by omega),Nu,ih Sx.ae]
def pG {st:Nat->List α} (h:∀ j,j<6->(st j).length<=n) (hm:n<=m):bo st cur m=bo st cur n :=
 lO (iT.2 fun j a=>by have:=h j a;omega) hm
def uG {st:Nat->List α} (h:k<=m):bo st cur k <+: bo st cur m:=by
 induction m with
 | zero=>rw[show k=0 by omega];exact Pq _
 | succ m ih =>
  by_cases e:k=m+1
  .rw[e];exact Pq _
  .exact(ih Sx.ae).trans (List.prefix_append _ _)
def qD {st:Nat->List α} (h:i<=j):bF st cur k i <+: bF st cur k j:=by
 induction j with
 | zero=>rw[show i=0 by omega];exact Pq _
 | succ j ih =>
  by_cases e:i=j+1
  .rw[e];exact Pq _
  .rw[bZ];exact(ih Sx.ae).trans (List.prefix_append _ _)
def before (st:Nat->List α) (cur:Nat->Nat) (k i:Nat):List α:=bo st cur k++bF st cur k i
def oD {st:Nat->List α} (hi:i<=6) (hk:k<m):before st cur k i <+: bo st cur m :=
 ((List.prefix_append_right_inj _).2 (qD hi)).trans (uG (k:=k+1) hk)
def oi {l m:List α} (h:l <+: m) (hl:l.length=n):m.take n=l:=by
 obtain⟨t,rfl⟩:=h;rw[<-hl,Ox]
end
end Go.Pk
namespace Go.Proofs.YtbdikjnpbnobcaaGreatDoor
open Go Go.Sx Go.Pk
variable {a:Act}{s:Bool}{i k:Int}{w:World}
def dr (cv:Nat->Int) (i:Nat):Nat:=(min (cv i) 1048576).toNat
def fc:Code->Code
 | .seq a _=>a
 | .block _ c=>c
 | .loop c=>c
 | c=>c
def cA:Code->Code
 | .seq _ b=>b
 | c=>c
noncomputable def oF:Code:=match Tryz.f180.body with
 | some c=>fc (fc (cA (fc (cA (fc (fc (fc (fc (cA c)))))))))
 | none=>.skip
noncomputable def GW:Code:=fc (fc (cA (cA oF)))
noncomputable def Dp:Code:=match Tryz.f180.body with
 | some c=>c
 | none=>.skip
noncomputable def GX:Code:=fc (fc (cA Dp))
noncomputable def By:Code:=fc (fc GX)
noncomputable def J1:List Code:=[fc GW,fc (cA GW),fc (cA (cA GW)),fc (cA (cA (cA GW)))]
def qM (l:List (Nat×TV)):List (Option TV):=(List.range 36).map fun i=>(l.find? fun p=>p.1==i).map (·.2)
def GZ:St:=⟨qM [(0,.sv (.one (.vr 0))),(1,.sv (.one (.hptr (.var 0) (.lit 0)))),(2,.sv (.one (.hptr (.var 1) (.lit 0)))),(4,.sv (.one (.int .u64 (.var 2)))),(5,.sv (.one (.bool (.bvar 3)))),(11,.sv (.one (.int .i64 (.var 4))))],[.ro 10 [.var 0,.var 1] true],11,[]⟩
def GY:Tag->List Nat
 | .norm=>[0,1,2,4,5,7,11]
 | _=>[0,1,2,4,5,11]
def pU:List (Nat×TV):=[(0,.sv (.one (.vr 0))),(1,.sv (.one (.hptr (.var 0) (.lit 0)))),(2,.sv (.one (.hptr (.var 1) (.lit 0))))]
def kk:Nat×TV:=(4,.sv (.one (.int .u64 (.var 2))))
def ss:Nat×TV:=(5,.sv (.one (.bool (.bvar 3))))
def ii:Nat×TV:=(11,.sv (.one (.int .i64 (.var 4))))
def Gp (l:List (Nat×TV)):St:=⟨qM (pU++l),[],11,[]⟩
noncomputable def f0:bw Tryz.prog [] where
 cs:=[fc Dp]
 st:=Gp []
 outs:=fun _=>[0,1,2,4]
noncomputable def f2:bw Tryz.prog [] where
 cs:=[fc By,fc (fc (cA By))]
 st:=Gp [kk]
 outs:=fun _=>[0,1,2,4,5,11]
noncomputable def f4:bw Tryz.prog [] where
 cs:=[fc oF,fc (cA oF)]
 st:=Gp [kk,ss,ii]
 outs:=fun _=>[0,1,2,4,5,11]
noncomputable def f10:bw Tryz.prog [] where
 cs:=[cA (cA (cA oF))]
 st:=Gp [kk,ss,ii]
 outs:=fun _=>[0,1,2,4,5,11]
noncomputable def f11:bw Tryz.prog [] where
 cs:=[cA (cA By)]
 st:=Gp [kk,ss,ii]
 outs:=fun _=>[0,1,2,4,5,11]
noncomputable def f1:bw Tryz.prog [] where
 cs:=[cA GX]
 st:=Gp [kk,ss,ii]
 outs:=fun _=>[0,1,2,4,5,11]
def jB {l:List (Nat×TV)} {t:Nat} {v:TV} (h:(qM l)[t]?=some (some v)):(t,v)∈l:=by
 unfold qM at h;simp only[MU,MN]at h;obtain⟨i,hi,⟨n,x⟩,hf,rfl⟩:=h;have h1:=O4 hf;have h2:=PV hf;obtain⟨b,a⟩:=MK.1 hi;rw[List.getElem_range]at a;simp only[Pe]at h2;rw[<-a]at h2;rw[<-h2];exact h1
def tB (i:List Int) (b:Bool) (v:Value) (h:Hl):Env:=⟨fun n=>i.getD n 0,fun _=>b,fun _=>.empty,fun _=>v,fun _=>h⟩
structure aZ (y:Value) (b1 b2:Nat) (a:Act) (k:Option Int) (s:Option Bool) (i:Option Int):Prop where
 sz:a.tmps.size=36
 df:a.defers=[]
 t0:a.tmps[0]?=some y
 t1:a.tmps[1]?=some (.pointer (some ⟨b1,0,none⟩))
 t2:a.tmps[2]?=some (.pointer (some ⟨b2,0,none⟩))
 t4:∀ x,k=some x->a.tmps[4]?=some (.int .u64 x)
 t5:∀ x,s=some x->a.tmps[5]?=some (.bool x)
 t11:∀ x,i=some x->a.tmps[11]?=some (.int .i64 x)
def dP:∀ {t u:Tag},sV t=sV u->t=u
 | .norm,.norm,_=>rfl
 | .ret,.ret,_=>rfl
 | .exit i,.exit j,h=>by have:(2:Int)+i=2+j:=h;rw[show i=j by omega]
 | .norm,.ret,h=>absurd h Sx.aj
 | .ret,.norm,h=>absurd h Sx.aj
 | .norm,.exit i,h=>absurd h (show ¬(0:Int)=2+i by omega)
 | .exit i,.norm,h=>absurd h (show ¬(2:Int)+i=0 by omega)
 | .ret,.exit i,h=>absurd h (show ¬(1:Int)=2+i by omega)
 | .exit i,.ret,h=>absurd h (show ¬(2:Int)+i=1 by omega)
def Ip (k:Option Int) (s:Option Bool) (i:Option Int):List (Nat×TV):=(k.map fun _=>kk).toList++(s.map fun _=>ss).toList++(i.map fun _=>ii).toList
def B7 (y:Value) (b1 b2:Nat) (k:Option Int) (s:Option Bool) (i:Option Int):Env:=tB [b1,b2,k.getD 0,0,i.getD 0] (s.getD false) y Hl.none
def CZ (y:Value) (b1 b2:Nat) (t:Tag) (k:Int) (s:Bool) (i:Int):Value:=.tuple #[.int .i64 (sV t),y,.pointer (slP (b1:Int) 0),.pointer (slP (b2:Int) 0),.int .u64 k,.bool s,.int .i64 i]
def aZ.run {y:Value} {b1 b2:Nat} {dn:Nat} {k:Option Int} {s:Option Bool} {i:Option Int} (h:aZ y b1 b2 a k s i) (W:bw Tryz.prog []) (b:W.st=Gp (Ip k s i)) (g:∀ t,W.outs t=[0,1,2,4,5,11])
 {T:Tag->Int->Bool->Int->Prop}
 (hn:W.tA ⟨[],fun _ _=>True,fun _ _=>0,owes (fun v _ _=>∃ t c d f,T t c d f/\v=CZ y b1 b2 t c d f) []⟩ (fun _=>0) (B7 y b1 b2 k s i)) :
 lZ (FW none) dn Tryz.prog (fun e a' w'=>∃ t c d f,e=exitOf t/\T t c d f/\aZ y b1 b2 a' (some c) (some d) (some f)/\Keep (fun _=>False) w w') W.cs a w:=by
 refine cG ?_ (bw.pure Sx.ar W (by rw[b];rfl) (by rw[b];rfl) (by rw[b];exact h.sz) h.df ?_ hn)
 .rintro e a' w' ⟨t,vs,rfl,hsz,l,hm,hk,t',c,d,f,hT,hv⟩;rw[g]at hm;unfold CZ at hv;rw[slP_pos Sx.ae,slP_pos Sx.ae]at hv;simp only[Value.tuple.injEq,Nc,MH,Value.int.injEq,Nz]at hv;obtain⟨j,rfl⟩:=hv;obtain rfl:=dP j;simp only[M6,NN,MH,MZ]at hm;obtain⟨n,m1,m2,o,p,m⟩:=hm;exact⟨t,c,d,f,rfl,hT,⟨hsz.trans h.sz,l,n,m1,m2,fun x hx=>by cases hx;exact o,fun x hx=>by cases hx;exact p,fun x hx=>by cases hx;exact m⟩,hk⟩
 .intro t v j;rw[b]at j;have:=jB j;simp only[pU,Ip,Nb,MQ,MV,Nt,Nr,Option.mem_toList,Option.mem_def,MN]at this;rcases this with (⟨rfl,rfl⟩ | ⟨rfl,rfl⟩ | ⟨rfl,rfl⟩) | (⟨x,rfl,hx⟩ | ⟨x,rfl,hx⟩) | ⟨x,rfl,hx⟩
  .exact h.t0
  .exact h.t1.trans (by show _=some (Value.pointer (slP (b1:Int) 0));rw[slP_pos Sx.ae];rfl)
  .exact h.t2.trans (by show _=some (Value.pointer (slP (b2:Int) 0));rw[slP_pos Sx.ae];rfl)
  .cases hx;exact h.t4 _ rfl
  .cases hx;exact h.t5 _ rfl
  .cases hx;exact h.t11 _ rfl
def HC {y:Value} {b1 b2:Nat} {dn:Nat} (h:aZ y b1 b2 a (some k) (some s) (some i)) :
 lZ (FW none) dn Tryz.prog (fun e a' w'=>∃ t b c d,e=exitOf t/\(((t=.norm/\i<6)\/(t=.exit 2/\¬i<6))/\b=k/\c=s/\d=i)/\aZ y b1 b2 a' (some b) (some c) (some d)/\Keep (fun _=>False) w w') f4.cs a w:=by
 refine h.run f4 rfl (fun _=>rfl) (T:=fun t b c d=>((t=.norm/\i<6)\/(t=.exit 2/\¬i<6))/\b=k/\c=s/\d=i) ?_;refine bw.read [] [] [] ?_;simp only[go_sem];refine⟨fun hi=>fun _=>⟨[],[],rfl,rfl,.norm,k,s,i,⟨Or.inl ⟨rfl,hi⟩,rfl,rfl,rfl⟩,rfl⟩,fun hi=>fun _=>⟨[],[],rfl,rfl,.exit 2,k,s,i,⟨Or.inr ⟨rfl,hi⟩,rfl,rfl,rfl⟩,rfl⟩⟩
def Hz {y:Value} {b1 b2:Nat} {dn:Nat} (h:aZ y b1 b2 a (some k) none none) :
 lZ (FW none) dn Tryz.prog (fun e a' w'=>∃ t b c d,e=exitOf t/\(t=.norm/\b=k/\c=false/\d=0)/\aZ y b1 b2 a' (some b) (some c) (some d)/\Keep (fun _=>False) w w') f2.cs a w:=by
 refine h.run f2 rfl (fun _=>rfl) (T:=fun t b c d=>t=.norm/\b=k/\c=false/\d=0) ?_;refine bw.read [] [] [] ?_;simp only[go_sem];exact fun _=>⟨[],[],rfl,rfl,.norm,k,false,0,⟨rfl,rfl,rfl,rfl⟩,rfl⟩
def EY {y:Value} {b1 b2:Nat} {dn:Nat} (h:aZ y b1 b2 a (some k) (some s) (some i)) :
 lZ (FW none) dn Tryz.prog (fun e a' w'=>∃ t b c d,e=exitOf t/\(t=.norm/\b=k/\c=s/\d=IntKind.i64.wrap (i+1))/\aZ y b1 b2 a' (some b) (some c) (some d)/\Keep (fun _=>False) w w') f10.cs a w:=by
 refine h.run f10 rfl (fun _=>rfl) (T:=fun t b c d=>t=.norm/\b=k/\c=s/\d=IntKind.i64.wrap (i+1)) ?_;refine bw.read [] [] [] ?_;simp only[go_sem];exact fun _=>⟨[],[],rfl,rfl,.norm,k,s,_,⟨rfl,rfl,rfl,rfl⟩,rfl⟩
def Hy {y:Value} {b1 b2:Nat} {dn:Nat} (h:aZ y b1 b2 a (some k) (some s) (some i)) :
 lZ (FW none) dn Tryz.prog (fun e a' w'=>∃ t b c d,e=exitOf t/\(t=.norm/\b=IntKind.u64.wrap (k+1)/\c=s/\d=i)/\aZ y b1 b2 a' (some b) (some c) (some d)/\Keep (fun _=>False) w w') f1.cs a w:=by
 refine h.run f1 rfl (fun _=>rfl) (T:=fun t b c d=>t=.norm/\b=IntKind.u64.wrap (k+1)/\c=s/\d=i) ?_;refine bw.read [] [] [] ?_;simp only[go_sem];exact fun _=>⟨[],[],rfl,rfl,.norm,_,s,i,⟨rfl,rfl,rfl,rfl⟩,rfl⟩
def EZ {y:Value} {b1 b2:Nat} {dn:Nat} (h:aZ y b1 b2 a (some k) (some s) (some i)) :
 lZ (FW none) dn Tryz.prog (fun e a' w'=>∃ t b c d,e=exitOf t/\(((t=.norm/\s=true)\/(t=.ret/\s=false))/\b=k/\c=s/\d=i)/\aZ y b1 b2 a' (some b) (some c) (some d)/\Keep (fun _=>False) w w') f11.cs a w:=by
 refine h.run f11 rfl (fun _=>rfl) (T:=fun t b c d=>((t=.norm/\s=true)\/(t=.ret/\s=false))/\b=k/\c=s/\d=i) ?_;refine bw.read [] [] [] ?_;simp only[go_sem];exact⟨fun hs _=>⟨[],[],rfl,rfl,.ret,k,s,i,⟨Or.inr ⟨rfl,by simpa [B7,tB] using hs⟩,rfl,rfl,rfl⟩,rfl⟩,fun hs _=>⟨[],[],rfl,rfl,.norm,k,s,i,⟨Or.inl ⟨rfl,by simpa [B7,tB] using hs⟩,rfl,rfl,rfl⟩,rfl⟩⟩
open RowKit
variable {a:Act}{N:Nat}{s:Option Bool}{i k:Option Int}{W:World}{L X:World->Prop}
section
variable {α:Type} {st:Nat->List α} {cur:Nat->Nat} {y:Value} {b1 b2 l dn:Nat}
structure JK (st:Nat->List α) (cur:Nat->Nat) (y:Value) (b1 b2 dn N:Nat) (I:List α->World->Prop) (L X:World->Prop):Prop where
 keep:∀ W W',L W->Keep (fun _=>False) W W'->L W'
 ikeep:∀ pre W W',I pre W->Keep (fun _=>False) W W'->I pre W'
 round:∀ a W (k:Nat) (s:Bool) (i:Nat),i<6->k<=N->aZ y b1 b2 a (some (k+1)) (some s) (some i)->I (before st cur k i) W->L W ->
  (fc (fc (cA (cA oF)))).wpIn Fence.wide dn Tryz.prog (fun e a' W' =>
   (e=.exit 3/\(st i)[cur i+k]?=none/\aZ y b1 b2 a' (some (k+1)) (some s) (some i)/\I (before st cur k i) W'/\L W') \/
   (e=.normal/\(st i)[cur i+k]?≠none/\aZ y b1 b2 a' (some (k+1)) (some true) (some i)/\I (before st cur k (i+1)) W'/\L W') \/
   (e=.ret/\a'.defers=[]/\X W')) a W
def Ad (a:Act) (_:World):Nat:=match a.tmps[11]? with
 | some (Value.int _ x)=>(6-x).toNat
 | _=>0
def aZ.mu {i:Nat} (h:aZ y b1 b2 a k s (some (i:Int))):Ad a W=6-i:=by
 unfold Ad;rw[h.t11 _ rfl];show(6-(i:Int)).toNat=_;omega
def zO {I:List α->World->Prop} (H:JK st cur y b1 b2 dn N I L X) {k:Nat} (o:k<=N) (h:aZ y b1 b2 a (some (k+1)) (some false) (some 0)) (hI:I (bo st cur k) W) (n:L W) :
 (cA (fc (cA By))).wpIn Fence.wide dn Tryz.prog (fun e a' W' =>
  (e=.normal/\∃ s:Bool,(s=false↔bF st cur k 6=[])/\aZ y b1 b2 a' (some (k+1)) (some s) (some 6)/\I (bo st cur (k+1)) W'/\L W')\/(e=.ret/\a'.defers=[]/\X W')) a W:=by
 show(Code.block 2 (Code.loop oF)).wpIn _ _ _ _ _ _;refine wpIn_block (wpIn_loop (fun a W=>∃ (i:Nat) (s:Bool),i<=6/\(s=false↔bF st cur k i=[])/\aZ y b1 b2 a (some (k+1)) (some s) (some i)/\I (before st cur k i) W/\L W) Ad ⟨0,false,Sx.ae,by simp [bF],h,by simpa [before,bF] using hI,n⟩ ?_);rintro a W ⟨i,s,hi,hs,hA,hI,n⟩;show(C9 f4.cs (.seq (.block 3 (fc (fc (cA (cA oF))))) (cA (cA (cA oF))))).wpIn _ _ _ _ _ _;refine lr (cG ?_ (HC hA));rintro e a1 B ⟨t,w,j,x,rfl,⟨p,e1,q,r⟩,d,b⟩;rw[e1,q,r]at d;rcases p with ⟨rfl,p⟩ | ⟨rfl,p⟩
 rotate_left
 .have C:i=6:=Sx.ae;subst C;exact Or.inl ⟨rfl,s,hs,d,H.ikeep _ _ _ hI b,H.keep _ _ n b⟩
 have u:i<6:=Sx.ae;refine wpIn_seq (wpIn_block (wpIn_mono (H.round a1 B k s i u o d (H.ikeep _ _ _ hI b) (H.keep _ _ n b)) ?_));have z:∀ (j:Bool) (a2:Act) (c:World),(j=false↔bF st cur k (i+1)=[])->aZ y b1 b2 a2 (some (k+1)) (some j) (some i)->I (before st cur k (i+1)) c->L c ->
  ∀ Q,(cA (cA (cA oF))).wpIn (FW none) dn Tryz.prog (Exit.then (fun a' W'=>(∃ (i:Nat) (s:Bool),i<=6/\(s=false↔bF st cur k i=[])/\aZ y b1 b2 a' (some (k+1)) (some s) (some i)/\I (before st cur k i) W'/\L W')/\Ad a' W'<Ad a W) Q) a2 c:=fun j a2 c h1 h2 f l Q=>by
  have D:lZ (FW none) dn Tryz.prog _ [cA (cA (cA oF))] a2 c:=EY h2;refine wpIn_mono D ?_;intro e E F A;cases e with
  | normal =>
   obtain⟨t,w,s2,x,_,⟨_,e1,q,r⟩,g,m⟩:=A;rw[e1,q,r,show IntKind.i64.wrap ((i:Int)+1)=((i+1:Nat):Int)by rw[IntKind.wrap_i64];omega]at g;exact⟨⟨i+1,j,Sx.ae,h1,g,H.ikeep _ _ _ f m,H.keep _ _ l m⟩,by rw[g.mu,hA.mu];omega⟩
  | _=>obtain⟨t,w,s2,x,e0,⟨e1,_⟩,_⟩:=A;rw[e1]at e0;cases e0
 rintro e a2 c (⟨rfl,hn,h2,f,l⟩ | ⟨rfl,hn,h2,f,l⟩ | ⟨rfl,h2,f⟩)
 .refine z s a2 c ?_ h2 ?_ l _
  .rw[bZ,hn];simpa using hs
  .unfold before;rw[bZ,hn];simpa [before] using f
 .refine z true a2 c ?_ h2 f l _;rw[bZ];cases hg:(st i)[cur i+k]? with
  | none=>exact absurd hg hn
  | some v=>simp
 .exact Or.inr ⟨rfl,h2,f⟩
def KM (N:Nat) (a:Act) (_:World):Nat:=match a.tmps[4]? with
 | some (Value.int _ x)=>(N+1-x).toNat
 | _=>0
def aZ.Ii {k:Nat} (h:aZ y b1 b2 a (some (k+1)) s i):KM N a W=N-k:=by
 unfold _root_.Go.Proofs.YtbdikjnpbnobcaaGreatDoor.KM;rw[h.t4 _ rfl];show((N:Int)+1-(k+1)).toNat=_;omega
def Aj {I:List α->World->Prop} (H:JK st cur y b1 b2 dn N I L X) (hN:∀ j,j<6->(st j).length<=N) (E:N<=2000000) (h:aZ y b1 b2 a (some 1) none none) (hI:I [] W) (w:L W) :
 (fc (cA Dp)).wpIn Fence.wide dn Tryz.prog (fun e a' W'=>e=.ret/\a'.defers=[]/\(((∃ k,bF st cur k 6=[]/\I (bo st cur k) W')/\L W')\/X W')) a W:=by
 show(Code.loop GX).wpIn _ _ _ _ _ _;refine wpIn_loop (fun a W=>∃ k:Nat,k<=N/\aZ y b1 b2 a (some (k+1)) none none/\I (bo st cur k) W/\L W) (KM N) ⟨0,Sx.ae,by simpa using h,hI,w⟩ ?_;rintro a W ⟨k,hk,hA,hI,w⟩;show(Code.seq (.block 1 By) (cA GX)).wpIn _ _ _ _ _ _;refine wpIn_seq (wpIn_block ?_);show(Code.seq (fc By) (.seq (.seq (fc (fc (cA By))) (cA (fc (cA By)))) (cA (cA By)))).wpIn _ _ _ _ _ _;refine wpIn_seq (wpIn_mono (Hz hA) ?_);intro e a1 P h1;cases e with
 | normal =>
  refine wpIn_seq (wpIn_seq (wpIn_mono h1 ?_));intro e a2 Q h2;cases e with
  | normal =>
   obtain⟨t,g,i,l,_,⟨_,e1,m,n⟩,p,aI⟩:=h2;rw[e1,m,n]at p;refine wpIn_mono (zO H hk p (H.ikeep _ _ _ hI aI) (H.keep _ _ w aI)) ?_;rintro e F G (⟨rfl,s,hs,x,q,r⟩ | ⟨rfl,hd,hX⟩)
   .have z:lZ (FW none) dn Tryz.prog _ [cA (cA By)] F G:=EZ x;refine wpIn_mono z ?_;intro e J K A;cases e with
    | normal =>
     obtain⟨t,g,i,l,u,⟨o,e1,m,n⟩,d,c⟩:=A;rw[e1,m,n]at d;have f:s=true:=by
      rcases o with ⟨_,h⟩ | ⟨h,_⟩
      .exact h
      .subst h;cases u
     have B:bF st cur k 6≠[]:=fun h=>by rw[hs.2 h]at f;cases f
     have C:k<N:=by
      refine NR fun o=>B (iT.2 fun j M=>?_);have:=hN j M;omega
     have h1:lZ (FW none) dn Tryz.prog _ [cA GX] J K:=Hy d;refine wpIn_mono h1 ?_;intro e O R D;cases e with
     | normal =>
      obtain⟨t,g,i,l,_,⟨_,e1,m,n⟩,b,v⟩:=D;rw[e1,m,n,show IntKind.u64.wrap ((k:Int)+1+1)=((k+1:Nat):Int)+1 by rw[IntKind.wrap_u64];omega]at b;have b:aZ y b1 b2 O (some (((k+1:Nat):Int)+1)) none none:=⟨b.sz,b.df,b.t0,b.t1,b.t2,b.t4,(fun _ h=>by cases h),(fun _ h=>by cases h)⟩;exact⟨⟨k+1,C,b,H.ikeep _ _ _ (H.ikeep _ _ _ q c) v,H.keep _ _ (H.keep _ _ r c) v⟩,by rw[b.Ii,hA.Ii];omega⟩
     | _=>obtain⟨t,g,i,l,e0,⟨e1,_⟩,_⟩:=D;rw[e1]at e0;cases e0
    | ret =>
     obtain⟨t,g,i,l,u,⟨o,e1,m,n⟩,d,c⟩:=A;have f:s=false:=by
      rcases o with ⟨h,_⟩ | ⟨_,h⟩
      .subst h;cases u
      .exact h
     have hr:=hs.1 f;refine⟨rfl,d.df,Or.inl ⟨⟨k,hr,?_⟩,H.keep _ _ r c⟩⟩;have:=H.ikeep _ _ _ q c;rwa[bo,hr,Nu]at this
    | _ =>
     obtain⟨t,g,i,l,u,⟨o,_⟩,_⟩:=A;rcases o with ⟨h,_⟩ | ⟨h,_⟩<;>subst h<;>cases u
   .exact⟨rfl,hd,Or.inr hX⟩
  | _=>obtain⟨t,g,i,l,e0,⟨e1,_⟩,_⟩:=h2;rw[e1]at e0;cases e0
 | _=>obtain⟨t,g,i,l,e0,⟨e1,_⟩,_⟩:=h1;rw[e1]at e0;cases e0
end
end Go.Proofs.YtbdikjnpbnobcaaGreatDoor
namespace Go.Proofs.YtbdikjnpbnobcaaGreatDoor
open Go Go.Sx Go.Pk
variable {q:Env}{A B F R R':Hl}{n w w' z:Int}{rows:List (List Value)}{hs hs':List Hd}{Hs K Rs:List Hl}{row xs:List Value}{mem:Mem}{a:Nat}
def di (R:Hl) (rows:List (List Value)) (hs:List Hd):Prop:=rows.length=hs.length/\∀ (i:Nat) row h,rows[i]?=some row->hs[i]?=some h->aG R row h
def di.nil (R:Hl):di R [] []:=⟨rfl,fun i row h hr=>by simp at hr⟩
def di.snoc {h:Hd} (a:di R rows hs) (x:aG R row h):di R (rows++[row]) (hs++[h]):=by
 refine⟨by rw[MJ,MJ,a.1];rfl,fun i r g hr hg=>?_⟩;rcases ND i rows.length with hi | hi
 .rw[M5 hi]at hr;rw[M5 (by rw[<-a.1];exact hi)]at hg;exact a.2 i r g hr hg
 .rw[MX hi]at hr;rw[MX (by rw[<-a.1];exact hi),<-a.1]at hg;have e:i-rows.length=0:=by
   have:=(MK.1 hr).1;simpa using this
  rw[e]at hr hg;have hr:row=r:=by simpa using hr
  have hg:h=g:=by simpa using hg
  subst hr;subst hg;exact x
def di.mono (a:di R rows hs) (hl:R.le R'):di R' rows hs:=⟨a.1,fun i row h hr hh=>(a.2 i row h hr hh).mono hl⟩
def di.uniq (a:di R rows hs) (b:di R rows hs'):hs=hs':=by
 apply Oq (by rw[<-a.1,<-b.1]);intro i h1 h2;have hr:rows[i]?=some (rows[i]'(by rw[a.1];exact h1)):=ME _;exact(a.2 i _ _ hr (ME h1)).uniq (b.2 i _ _ hr (ME h2))
noncomputable def lj (hs:List Hd):List Int:=match hs.getLast? with
 | none=>List.replicate 32 0
 | some h=>ia h
def kx (hs:List Hd):(lj hs).length=32:=by
 unfold lj;split
 .rfl
 .exact fO _
def cH (K:Hl) (a:Nat) (w:Int) (hs:List Hd):Prop:=∃ (x:Int) (c:Nat) (rows:List (List Value)),
 K a=some (.cells (([.int .i64 w,.slice (slP x 0) hs.length c]:List Value)++bys (lj hs)).toArray 248 (0,0)) /\
 OwR K 38 cj (.slice (slP x 0) hs.length c) rows/\di K rows hs/\ -1<=x /\
 ∃ KT,KT.le K/\di KT rows hs/\¬KT.mem a/\∀ b:Nat,x=b->¬KT.mem b
def aR (R:Hl) (a:Nat) (w:Int) (hs:List Hd):Prop:=∃ K,K.le R/\cH K a w hs
def jO {s:Sx.Spec} {e:E} {k:IntKind} (hr:s.res=[.one (.int k)]) (he:iev q e=z) (h:∀ F,s.post xs [] Rs (.int k z) [] F):postOf s xs [] Rs q mem (.sv (.one (.int k e))):=by
 intro _;refine⟨[],[],rfl,rfl,⟨(ay fun _=>z),?_,?_⟩,?_⟩
 .rw[hr,<-he];rfl
 .rw[hr];exact⟨zzT,zzT⟩
 .have:=h (uni q mem []);rw[<-he]at this;exact this
def lB:Sx.Spec where
 fn:=122
 own:=[]
 rd:=[0]
 res:=[.one (.int .u64)]
 pre:=fun xs Hs Rs=>∃ a R w hs,xs=[.pointer (some ⟨a,0,none⟩)]/\Rs=[R]/\aR R a w hs
 post:=fun xs Hs Rs v Hs' F=>∀ a R w hs,xs=[.pointer (some ⟨a,0,none⟩)]->Rs=[R]->aR R a w hs->v=.int .u64 (IntKind.u64.wrap hs.length)
def DA:Walk Tryz.prog [] lB.fn where
 Λ:=noLoops
 args:=[TP (.var 0) (.lit 0)]
 mem:=[.ro 1 [.var 0] false]
 nv:=2
def aR.sl (h:aR R a w hs):∃ (x:Int) (c:Nat),-1<=x/\R.cell a 0=some (.int .i64 w)/\R.cell a 1=some (.slice (slP x 0) hs.length c):=by
 obtain⟨K,hl,x,c,rows,hK,_,_,hx,_⟩:=h;have b:=hl _ _ hK;exact⟨x,c,hx,by simp [Hl.cell,b],by simp [Hl.cell,b]⟩
def m9:lB.OK Tryz.prog:=by
 refine Spec.of_fn (Γ:=[]) (fun _ h=>by cases h) ?_;rintro xs Hs Rs f j ⟨a,R,w,hs,rfl,rfl,k⟩;have e0:Hs=[]:=MF.1 f;subst e0;obtain⟨x,c,hx,c0,c1⟩:=k.sl;refine⟨DA,envI [a] false [Hl.none,R],fun _ _=>True,fun _ _=>0,?_,bM (by intro r hr;simp [DA]at hr;subst hr;exact⟨_,_,_,rfl⟩) rfl,(fun _ h=>nomatch h),?_⟩
 .show [Value.pointer (slP (a:Int) 0)]=_;rw[slP_pos ae];rfl
 .refine Walk.read [] [] [] ?_;generalize e:envI [(a:Int)] false [Hl.none,R]=J;have v0:J.i 0=a:=by rw[<-e];rfl
  have w1:J.h 1=R:=by rw[<-e];rfl
  simp only[go_sem,Nat.reduceAdd];rw[v0,w1];have e1:R.cell ((a:Int)).toNat (Int.toNat 1)=some (.slice (slP x 0) hs.length c):=by rw[MD];exact c1
  have g:valP (some (Value.slice (slP x 0) hs.length c)) 2=hs.length:=by
   cases slP x 0 with
   | none=>rfl
   | some b=>obtain⟨b,o,s⟩:=b;cases s<;>rfl
  rw[e1,g];refine⟨ae,rfl,ae,jO rfl (z:=IntKind.u64.wrap hs.length) ?_ fun F a' R' w' hs' h1 h2 h'=>?_⟩
  .show IntKind.u64.wrap (valP ((J.h 1).cell (J.i 0).toNat (Int.toNat 1+0)) 2)=_;rw[v0,w1,NH,e1,g]
  .simp only[MH,MZ,Value.pointer.injEq,MP,Addr.mk.injEq]at h1 h2;subst h1 h2;obtain⟨x',c',_,_,d⟩:=h'.sl;rw[c1]at d;simp only[MP,Value.slice.injEq]at d;rw[d.2.1]
def sY:Sx.Spec where
 fn:=129
 own:=[]
 rd:=[]
 res:=[.one .ptr]
 pre:=fun xs Hs Rs=>∃ w,xs=[.int .i64 w]
 post:=fun xs Hs Rs v Hs' F=>∀ w,xs=[.int .i64 w]->∃ b:Nat,v=.pointer (some ⟨b,0,none⟩)/\cH F b w []
def D7:Walk Tryz.prog [] sY.fn where
 Λ:=noLoops
 args:=[TI .i64 (.var 0)]
 mem:=[]
 nv:=1
set_option maxRecDepth 20000 in
def Bv:sY.OK Tryz.prog:=by
 refine Spec.of_fn (Γ:=[]) (fun _ h=>by cases h) ?_;rintro xs Hs Rs a c ⟨w,rfl⟩;have e0:Hs=[]:=MF.1 a;have e1:Rs=[]:=MF.1 c;subst e0 e1;refine⟨D7,envI [w] false [],fun _ _=>True,fun _ _=>0,rfl,bM (by intro r hr;simp [D7]at hr) rfl,(fun _ h=>nomatch h),?_⟩;refine Walk.read [] [] [] ?_;generalize d:envI [w] false []=J;have v0:J.i 0=w:=by rw[<-d];rfl
 simp only[go_sem,Nat.reduceAdd];intro q1 f p1 _;have v1:q1.i 0=w:=by rw[f.i 0,v0]
 have p1:0<=q1.i 1:=p1;refine⟨[],[0],rfl,rfl,⟨(ay fun k=>if k=0 then q1.i 1 else 0),rfl,⟨by show -1<=q1.i 1;omega,MT 0⟩,zzT⟩,fun w' e=>⟨(q1.i 1).toNat,?_,-1,0,[],?_,OwR.nil _ _ _,di.nil _,MT _,Hl.none,(fun _ _ h=>by cases h),di.nil _,(fun h=>by cases h),fun b h=>ae⟩⟩
 .show Value.pointer (slP (q1.i 1) 0)=_;rw[slP_pos p1];rfl
 .simp only[MH,Value.int.injEq,Nz,MZ]at e;subst e;show(hls [Hl.one (q1.i 1).toNat _]) _=_;rw[hls_one,Hl.one_self,<-v1];rfl
def wZ:Sx.Spec where
 fn:=153
 own:=[]
 rd:=[0]
 res:=[.agg aI,.one .bool]
 pre:=fun xs Hs Rs=>∃ a R w hs n,xs=[.pointer (some ⟨a,0,none⟩),.int .u64 n]/\Rs=[R]/\aR R a w hs/\(0<=n/\n<18446744073709551616)/\hs.length<1000000
 post:=fun xs Hs Rs v Hs' F=>∃ a R w hs n,xs=[.pointer (some ⟨a,0,none⟩),.int .u64 n]/\Rs=[R]/\aR R a w hs /\
  ((1<=n/\n<=hs.length/\∃ row h,hs[(n-1).toNat]?=some h/\v=.tuple #[.agg row.toArray,.bool true]/\aG F row h)\/(¬(1<=n/\n<=hs.length)/\∃ u,v=.tuple #[u,.bool false]))
def Hj:List Sx.Spec:=[lB,xj]
def EM:∀ t∈Hj,t.OK Tryz.prog:=ai m9 <| ai vg <| aD
def J8:Hj[0]?=some lB:=rfl
def Ka:Hj[1]?=some xj:=rfl
def EL:lB.res=[.one (.int .u64)]:=rfl
def Hh:xj.res=[.agg aI]:=rfl
set_option maxRecDepth 20000 in
def Hg:(cpRoots 0 [Cp.agg aI]≠[])=True:=eq_true aj
def Hi:Walk Tryz.prog Hj wZ.fn where
 Λ:=noLoops
 args:=[TP (.var 0) (.lit 0),.sv (.one (.int .u64 (.var 1)))]
 mem:=[.ro 2 [.var 0] true]
 nv:=3
set_option maxRecDepth 20000 in
def y7 (c:aR R a w hs) (b:¬(1<=n/\n<=hs.length)) : postOf wZ [.pointer (some ⟨a,0,none⟩),.int .u64 n] [] [R] q mem (.tup [.agg ([.int .i64 (.lit 0),.int .u64 (.lit 0)]++List.replicate 32 (CV.int .u8 (.lit 0))++[.int .i64 (.lit 0),.bool .ff,.int .u64 (.lit 0)]++List.replicate 16 (CV.int .u8 (.lit 0))++[.sl (.lit (-1)) (.lit 0) (.lit 0) (.lit 0),.int .u64 (.lit 0),.int .u64 (.lit 0),.int .u64 (.lit 0),.int .u64 (.lit 0),.int .u64 (.lit 0),.int .u64 (.lit 0)]++List.replicate 32 (CV.int .u8 (.lit 0))++[.int .i64 (.lit 0)]++List.replicate 32 (CV.int .u8 (.lit 0))),.one (.bool .ff)]):=by
 intro _;refine⟨[],[],rfl,rfl,⟨(ay fun k=>if k=53 then -1 else 0),rfl,(tr8 (tr8 (tr8 (tr8 (tr8 (tr8 ⟨zzT,zzT,zzT,zzT,zzT,⟨aj,aj,aj,aj⟩,tr8 (tr8 (tr8 (tr8 (tr8 (tr8 (tr8 (tr8 ⟨zzT,zzT,zzT,zzT,zzT,zzT,zzT,zzT⟩)))))))⟩)))))),zzT,zzT⟩,a,R,w,hs,n,rfl,rfl,c,Or.inr ⟨b,_,rfl⟩⟩
def dJ (b:aR R a w hs) (hl:hs.length<1000000) (hp:lB.post [.pointer (some ⟨a,0,none⟩)] Hs [R] (.int .u64 n) K F):n=hs.length:=by
 have:=hp _ _ _ _ rfl rfl b;simp only[Value.int.injEq,Nz]at this;rw[this,IntKind.wrap_u64];omega
set_option maxRecDepth 20000 in
def uZ:wZ.OK Tryz.prog:=by
 refine Spec.of_fn (Γ:=Hj) EM ?_;rintro xs Hs Rs t D ⟨a,R,w,hs,n,rfl,rfl,m,hn,hlen⟩;have e0:Hs=[]:=MF.1 t;subst e0;refine⟨Hi,envI [a,n] false [Hl.none,Hl.none,R],fun _ _=>True,fun _ _=>0,?_,bM (by intro r hr;simp [Hi]at hr;subst hr;exact⟨_,_,_,rfl⟩) rfl,(fun _ h=>nomatch h),?_⟩
 .show [Value.pointer (slP (a:Int) 0),.int .u64 n]=_;rw[slP_pos ae];rfl
 .refine Walk.read [aI] [cj] [] ?_;generalize g:envI [(a:Int),n] false [Hl.none,Hl.none,R]=J;simp only[Nd.holds,X.pre,X.rel,X.n,Src.ok,Src.len,Src.vals,Nz,MZ,OA,Pf,NH,Nat.reduceAdd,Nk,N0,bT_tt,bT_ff,bT_bvar,bT_not,bT_and,bT_or,bT_ite,bT_lt,bT_le,bT_eq,bT_beq,bT_seq,bT_hB,bT_his,bT_hby,bT_hism,bT_hks,iev_lit,iev_var,iev_add,iev_sub,iev_mul,iev_wrap,iev_ite,iev_hI,iev_hP,iev_hmlen,sev_ite,sev_slit,sev_sof,sev_svar,TV.ev,SV.ev,CV.ev,M6,NN,Res.hl,cpTV,Cp.sv,Ck.cv,cpSVs,Cp.len,Ck.len,newHs_zero,newHs_one,roots_ne,J8,Ka,EL,Hh,Hg];have v0:J.i 0=a:=by rw[<-g];rfl
  have v1:J.i 1=n:=by rw[<-g];rfl
  have w2:J.h 2=R:=by rw[<-g];rfl
  intro q1 q _;have G:Value.pointer (slP (a:Int) 0)=.pointer (some ⟨a,0,none⟩):=by rw[slP_pos ae];rfl
  rw[q.i 0,q.i 1,q.h 2,v0,v1,w2,G];refine⟨fun h1=>⟨⟨a,R,w,hs,rfl,rfl,m⟩,fun q2 H ⟨F,hp,_⟩=>?_⟩,fun h1=>y7 m ae⟩;have I:=dJ m hlen hp;have o:Agree 3 J q2:=q.tr H;rw[I,o.i 0,o.i 1,o.h 2,v0,v1,w2];refine⟨fun h2=>y7 m ae,fun h2=>?_⟩;obtain⟨K,hl,x,c,rows,hK,L,hA,hx,_⟩:=id m;have c1:R.cell a 1=some (.slice (slP x 0) hs.length c):=by simp [Hl.cell,hl _ _ hK]
  have hr:RdRows R (.slice (slP x 0) ((hs.length:Int)).toNat ((c:Int)).toNat) cj rows:=by rw[MD,MD];exact cQ L.rd hl
  obtain⟨el,y⟩:=hr.at hx (MT _) ae;have M:=hA.1;obtain⟨row,av⟩:∃ row,rows[(n-1).toNat]?=some row:=⟨_,ME ae⟩;obtain⟨h,hh⟩:∃ h,hs[(n-1).toNat]?=some h:=⟨_,ME ae⟩;obtain⟨f,p,cells⟩:=y _ _ av;have hI:=(hA.mono hl).2 _ _ _ av hh;have hw:IntKind.u64.wrap (n-1)=n-1:=by rw[IntKind.wrap_u64];omega
  have e1:R.cell ((a:Int)).toNat (Int.toNat 1)=some (.slice (slP x 0) hs.length c):=by rw[MD];exact c1
  have p0:valP (some (Value.slice (slP x 0) hs.length c)) 0=x:=by rw[slP_pos f];show((x.toNat:Nat):Int)=x;omega
  have p1:valP (some (Value.slice (slP x 0) hs.length c)) 1=0:=by rw[slP_pos f];rfl
  have p2:valP (some (Value.slice (slP x 0) hs.length c)) 2=hs.length:=by rw[slP_pos f];rfl
  have d:∀ j u,row[j]?=some u->R.cell x.toNat ((0+(n-1)*125).toNat+j)=some u:=fun j u hu=>by
   have:=cells j u hu;have e:(0:Int).toNat+(n-1).toNat*cj.length+j=(0+(n-1)*125).toNat+j:=by
    rw[show cj.length=125 from rfl];omega
   rw[e]at this;exact this
  have eR:List.map (CV.ev q2) (romCells 2 (E.hP 2 (E.var 0) (E.lit 1) 0 0) ((E.hP 2 (E.var 0) (E.lit 1) 0 1).add ((E.wrap IntKind.u64 ((E.var 1).sub (E.lit 1))).mul (E.lit 125))) 0 cj)=row:=by
   refine romCells_row row cj 0 p fun i u hu=>?_;have:=d i u hu;simp only[iev_hP,iev_add,iev_mul,iev_wrap,iev_sub,iev_var,iev_lit,o.i 0 (by omega:0<3),o.i 1 (by omega:1<3),o.h 2 (by omega:2<3),v0,v1,w2,NH,Nw];rw[e1,p0,p1,hw];exact this
  rw[eR,e1,p0,p1,p2,hw];refine⟨ae,rfl,f,MT _,ae,ae,rowIs_of _ p d,⟨row,R,h,rfl,rfl,hI⟩,fun l g3 ⟨O,z,A,B⟩=>?_⟩;obtain⟨row',er,C⟩:=z _ _ _ rfl rfl hI;intro _;refine⟨[],[2],rfl,rfl,?_,a,R,w,hs,n,rfl,rfl,m,Or.inl ⟨ae,ae,row',h,hh,?_,?_⟩⟩
  .obtain⟨N,m1,m2,m3⟩:=B.1.2.2.2.2.2.2.2.2.2.2.2.2.2.2.2.2.2.2.2.2.2.2.2.2.2.2.2.2.2.2.2.2.2.2.2.2.2.2.2.2.2.2.2.2.2.2.2.2.2.2.2.2.2.1;exact⟨⟨fun k=>l.i (k+5),fun k=>if k=128 then true else l.b (k+5),l.s,l.v,l.h⟩,rfl,(tr8 (tr8 (tr8 (tr8 (tr8 (tr8 ⟨zzT,zzT,zzT,zzT,zzT,⟨N,m1,m2,m3⟩,tr8 (tr8 (tr8 (tr8 (tr8 (tr8 (tr8 (tr8 ⟨zzT,zzT,zzT,zzT,zzT,zzT,zzT,zzT⟩)))))))⟩)))))),zzT,zzT⟩
  .show Value.tuple #[.agg (List.map (CV.ev l) (ckCVs 5 aI)).toArray,.bool true]=_;rw[er]
  .show aG (hls [l.h 5]) _ _;rw[hls_one,A zzT];exact C
open Classical in
noncomputable def fT (w:Int) (hs:List Hd) (h:Hd):Int :=
 if ¬h.Form\/cI h.c 0≠w then 1
 else if cI h.c 1<=hs.length then(if hs[(cI h.c 1-1).toNat]?=some h then 13 else 8)
 else if hs.length+1<cI h.c 1 then 12
 else if aw h.c 2 32≠lj hs then 7 else 0
def fW (q:Env) (n:Nat):List Value:=(ckCVs n aI).map (CV.ev q)
def zH {a:Int} (h:rowOK row cj):∃ q:Env,q.i 0=a/\row=fW q 1/\q.h 129=A/\q.h 130=B/\ckNormsW 1 aI q:=by
 obtain⟨q,g,hn,e⟩:=row_rep aI 1 row (ay fun _=>a) h;refine⟨⟨q.i,q.b,q.s,q.v,fun k=>if k=129 then A else if k=130 then B else Hl.none⟩,g.i 0,e.symm,rfl,rfl,hn⟩
def aR.facts (h:aR R a w hs):∃ (x:Int) (c:Nat) (rows:List (List Value)),R a=some (.cells (([.int .i64 w,.slice (slP x 0) hs.length c]:List Value)++bys (lj hs)).toArray 248 (0,0))/\RdRows R (.slice (slP x 0) hs.length c) cj rows/\di R rows hs:=by
 obtain⟨K,hl,x,c,rows,hK,b,hA,_⟩:=h;exact⟨x,c,rows,hl _ _ hK,cQ b.rd hl,hA.mono hl⟩
def aR.uniq (h:aR R a w hs) (h':aR R a w' hs'):w=w'/\hs=hs':=by
 obtain⟨x,c,rows,e,hr,hA⟩:=h.facts;obtain⟨x',c',f,b,d,g⟩:=h'.facts;rw[e]at b;simp only[MP,Obj.cells.injEq,MZ]at b;have b:=Ns Array.toList b;have h0:some (Value.int .i64 w)=some (.int .i64 w'):=Ns (fun l=>l[0]?) b;have h1:some (Value.slice (slP x 0) hs.length c)=some (.slice (slP x' 0) hs'.length c'):=Ns (fun l=>l[1]?) b;rw[<-Nx h1]at d;obtain rfl:=hr.uniq d;simp only[MP,Value.int.injEq,Nz]at h0;exact⟨h0,hA.uniq g⟩
def IP (q:Env) (n:Nat) (f:Nat->Int):fM q n=(List.range 32).map f↔(q.i (n+0)=f 0/\q.i (n+1)=f 1/\q.i (n+2)=f 2/\q.i (n+3)=f 3/\q.i (n+4)=f 4/\q.i (n+5)=f 5/\q.i (n+6)=f 6/\q.i (n+7)=f 7/\q.i (n+8)=f 8/\q.i (n+9)=f 9/\q.i (n+10)=f 10/\q.i (n+11)=f 11/\q.i (n+12)=f 12/\q.i (n+13)=f 13/\q.i (n+14)=f 14/\q.i (n+15)=f 15/\q.i (n+16)=f 16/\q.i (n+17)=f 17/\q.i (n+18)=f 18/\q.i (n+19)=f 19/\q.i (n+20)=f 20/\q.i (n+21)=f 21/\q.i (n+22)=f 22/\q.i (n+23)=f 23/\q.i (n+24)=f 24/\q.i (n+25)=f 25/\q.i (n+26)=f 26/\q.i (n+27)=f 27/\q.i (n+28)=f 28/\q.i (n+29)=f 29/\q.i (n+30)=f 30/\q.i (n+31)=f 31):=by
 have e:List.range 32=[0,1,2,3,4,5,6,7,8,9,10,11,12,13,14,15,16,17,18,19,20,21,22,23,24,25,26,27,28,29,30,31]:=rfl;unfold fM;rw[e];simp only[M6,NN,MH,MZ]
def aR.wM (h:aR R a w hs):R.cell a 0=some (.int .i64 w)/\cellBytes R a 2 32=true/\(List.range 32).map (fun j=>valI (R.cell a (2+j)))=lj hs:=by
 obtain⟨x,c,rows,e,_,_⟩:=h.facts;have b:∀ j z,(lj hs)[j]?=some z->R.cell a (2+j)=some (.int .u8 z):=fun j z hz=>by
  unfold Hl.cell;rw[e];simp only[N7];rw[MX ar];simp only[Nk,N0];rw[show 2+j-(0+1+1)=j by omega,bys_get,hz];rfl
 refine⟨by unfold Hl.cell;rw[e];rfl,cells_bytes b (by rw[kx];decide),?_⟩;have:=cells_ints (y:=2) b;rw[kx]at this;exact this
noncomputable def mN:Sx.Spec where
 fn:=155
 own:=[]
 rd:=[0,10153]
 res:=[.one (.int .i64)]
 pre:=fun xs Hs Rs=>∃ a R w hs row T h,xs=[.pointer (some ⟨a,0,none⟩),.agg row.toArray]/\Rs=[R,T]/\aR R a w hs/\hs.length<1000000/\aG T row h
 post:=fun xs Hs Rs v Hs' F=>∃ a R w hs row T h,xs=[.pointer (some ⟨a,0,none⟩),.agg row.toArray]/\Rs=[R,T]/\aR R a w hs/\aG T row h/\v=.int .i64 (fT w hs h)
noncomputable def Jc:List Sx.Spec:=[bR 91,lB,wZ,lL]
def EO:∀ t∈Jc,t.OK Tryz.prog:=ai dt <| ai m9 <| ai uZ <| ai sK <| aD
def Hm (f:FuncId):(bR f).res=[.one .bool]:=rfl
def Hn:wZ.res=[.agg aI,.one .bool]:=rfl
def Kf:lL.res=[.one .bool]:=rfl
set_option maxRecDepth 20000 in
def Hk:(cpRoots 0 [Cp.agg aI,Cp.one .bool]≠[])=True:=eq_true aj
noncomputable def Dt:Walk Tryz.prog Jc mN.fn where
 Λ:=noLoops
 args:=TP (.var 0) (.lit 0)::(cpSVs 1 [.agg aI]).map .sv
 mem:=[.ro 129 [.var 0] false,.ro 130 [.var 54] true]
 nv:=131
open Classical in
set_option maxRecDepth 20000 in
def rm:mN.OK Tryz.prog:=by
 refine Spec.of_fn (Γ:=Jc) EO ?_;rintro xs Hs Rs D ab ⟨a,R,w,hs,row,T,h,rfl,rfl,t,hlen,hx⟩;have e0:Hs=[]:=MF.1 D;subst e0;obtain⟨J,va,rfl,w1,w2,ad⟩:=zH (A:=R) (B:=T) (a:=(a:Int)) hx.ok;refine⟨Dt,J,fun _ _=>True,fun _ _=>0,?_,bM (by intro r hr;simp [Dt]at hr;rcases hr with rfl | rfl<;>exact⟨_,_,_,rfl⟩) (by show [J.h 129,J.h 130]=_;rw[w1,w2]),(fun _ h=>nomatch h),?_⟩
 .show [Value.pointer (slP (J.i 0) 0),.agg (fW J 1).toArray]=_;rw[va,slP_pos ae];rfl
 .refine Walk.read [aI] [] [] ?_;simp only[go_sem,Nat.reduceAdd,Jc,Hm,EL,Hn,Kf,Hk];have V:∀ q:Env,Agree 131 J q->q.i 0=a/\q.h 129=R/\q.h 130=T/\fW q 1=fW J 1:=fun q g=>by
   refine⟨by rw[g.i 0,va],by rw[g.h 129,w1],by rw[g.h 130,w2],?_⟩;have:=ev_ag (ks:=aI) (n:=1) g aj;exact Ns Array.toList (Value.agg.inj this)
  have ep:Value.pointer (slP (a:Int) 0)=.pointer (some ⟨a,0,none⟩):=by rw[slP_pos ae];rfl
  have out:∀ {q:Env} {mem:Mem} {e:E},iev q e=fT w hs h->postOf mN [.pointer (some ⟨a,0,none⟩),.agg (fW J 1).toArray] [] [R,T] q mem (.sv (.one (.int .i64 e))):=fun {q mem e} he =>
   jO rfl he fun F=>⟨a,R,w,hs,fW J 1,T,h,rfl,rfl,t,hx,rfl⟩
  obtain⟨t0,t1,t2⟩:=t.wM;have hI:∀ {k:Nat},k≠53->cI h.c k=cI (fW J 1) k:=fun hk=>hx.I hk;have h0:cI h.c 0=J.i 1:=hI aj;have h1:cI h.c 1=J.i 2:=hI aj;have h2:aw h.c 2 32=fM J 3:=by
   have:aw h.c 2 32=aw (fW J 1) 2 32:=by
    unfold aw;refine NL fun j hj=>hI ?_;have:=Nn.1 hj;omega
   rw[this];rfl
  have hu:0<=J.i 2/\J.i 2<18446744073709551616:=by
   have:=hx.rng _ (MG (mE hx.ok (k:=1) rfl));exact this
  have G:∀ (k:Nat) (q:Env),Agree k J q->131<=k->q.i 1=J.i 1/\q.i 2=J.i 2/\fM q 3=fM J 3:=fun k q g hk=>⟨g.i 1,g.i 2,Bb g ae⟩;have H:R.cell ((a:Int)).toNat (Int.toNat 0)=some (.int .i64 w):=by rw[MD];exact t0
  intro q1 g1 p1;obtain⟨v0,x1,x2,x3⟩:=V q1 g1;have K:(ckCVs 1 aI).map (CV.ev q1)=fW J 1:=x3;rw[K,x2];refine⟨⟨_,T,h,rfl,rfl,hx⟩,fun q2 g2 ⟨F2,L,_⟩=>?_⟩;have M:Agree 131 J q2:=g1.tr g2;have x:q2.b 132=decide h.Form:=Value.bool.inj (hZ hx L);obtain⟨y0,y1,y2,y3⟩:=V q2 M;obtain⟨r1,r2,r3⟩:=G _ q2 M ae;refine⟨fun hb=>out ?_,fun hb=>?_⟩
  .have C:¬h.Form:=by rw[x]at hb;simpa using hb
   unfold fT;rw[M0 (Or.inl C)];rfl
  have C:h.Form:=by rw[x]at hb;simpa using hb
  have hseq:1<=cI h.c 1:=C.1.2.1.1;rw[y0,y1,H,r1,r2,ep];refine⟨ae,rfl,fun d=>out ?_,fun heq=>?_⟩
  .have d:¬J.i 1=w:=d;unfold fT;rw[M0 (Or.inr (by rw[h0];exact d))];rfl
  have heq:J.i 1=w:=heq;have f:¬(¬h.Form\/cI h.c 0≠w):=by rw[h0];exact fun hh=>hh.elim (fun g=>g C) (fun g=>g heq)
  refine⟨⟨a,R,w,hs,_,rfl,rfl,t,hu,hlen⟩,fun N g3 ⟨F3,⟨a',R',w',hs',n',e1,e2,O,l⟩,P,af⟩ v g4 p4=>?_⟩;simp only[MH,MZ,Value.pointer.injEq,MP,Addr.mk.injEq,Value.int.injEq,Nz]at e1 e2;obtain⟨rfl,rfl⟩:=e1;subst e2;obtain⟨rfl,rfl⟩:=t.uniq O;have G3:Agree 132 q1 N:=g2.tr g3;have Q:Agree 131 J v:=M.trans (g3.mono.tr g4);obtain⟨z0,z1,z2,z3⟩:=V v Q;obtain⟨s1,s2,s3⟩:=G _ v Q ae;have S:v.b 261=N.b 261:=g4.b 261;have rowA:(ckCVs 133 aI).map (CV.ev v)=(ckCVs 133 aI).map (CV.ev N):=Ns Array.toList (Value.agg.inj (ev_ag (ks:=aI) (n:=133) g4 aj));have U:(ckCVs 1 aI).map (CV.ev v)=fW J 1:=z3;rw[rowA,U,z0,z1,z2,S,g4.h 133,ep];refine⟨fun hb=>?_,fun hb=>?_⟩
  .rcases l with ⟨n1,n2,row',h',y,ev,m⟩ | ⟨_,u,ev⟩
   rotate_left
   .simp only[Value.tuple.injEq,Nc,MH,Value.bool.injEq,MZ]at ev;exact absurd (ev.2.symm.trans hb) aj
   simp only[Value.tuple.injEq,Nc,MH,Value.bool.injEq,MZ,Value.agg.injEq]at ev;have er:=ev.1;rw[er];rw[<-P zzT]at m;have ag:¬¬cI h.c 1<=hs.length:=by rw[h1];omega
   refine⟨⟨_,_,_,_,_,_,rfl,rfl,m,hx⟩,fun p g5 ⟨F5,⟨ah,ai,ak,al,an,ao,f1,f2,i1,i2,hv⟩,_⟩=>?_⟩;simp only[MH,MZ,Value.agg.injEq]at f1 f2;obtain⟨rfl,rfl⟩:=f2;have W:=M4 f1.1;have X:=M4 f1.2;subst W X;obtain rfl:=m.uniq i1;obtain rfl:=hx.uniq i2;have z:p.b 263=decide (h'=h):=Value.bool.inj hv;have key:(hs[(cI h.c 1-1).toNat]?=some h)↔h'=h:=by rw[h1,y,MP]
   refine⟨fun hb=>out ?_,fun hb=>out ?_⟩
   .unfold fT;rw[MM f,M0 (by rw[h1];omega),M0 (key.2 (by rw[z]at hb;simpa using hb))];rfl
   .unfold fT;rw[MM f,M0 (by rw[h1];omega),MM (fun g=>hb (by rw[z];simpa using key.1 g))];rfl
  .rcases l with ⟨n1,n2,row',h',y,ev,m⟩ | ⟨aq,u,ev⟩
   .simp only[Value.tuple.injEq,Nc,MH,Value.bool.injEq,MZ]at ev;exact absurd ev.2 hb
   have s:¬cI h.c 1<=hs.length:=by rw[h1]at hseq ⊢;omega
   refine⟨⟨a,R,w,hs,rfl,rfl,t⟩,fun p g5 ⟨F5,Y,_⟩=>?_⟩;have Z:=dJ t hlen Y;have G5:Agree 131 J p:=Q.tr g5;obtain⟨u0,u1,u2,u3⟩:=V p G5;obtain⟨k1,k2,k3⟩:=G _ p G5 ae;have Z:p.i 263=hs.length:=Z;have hw:IntKind.u64.wrap ((hs.length:Int)+1)=(hs.length:Int)+1:=by rw[IntKind.wrap_u64];omega
   rw[Z,k2,hw,u0,u1];have aa:cellBytes R ((a:Int)).toNat (Int.toNat 2) (Int.toNat 32)=true:=by rw[MD];exact t1
   refine⟨fun ar=>out ?_,fun au=>⟨aa,?_⟩⟩
   .unfold fT;rw[MM f,MM s,M0 (by rw[h1];omega)];rfl
   have o:¬((hs.length:Int)+1<cI h.c 1):=by rw[h1];omega
   have key:=IP p 3 (fun j=>valI (R.cell ((a:Int)).toNat (Int.toNat 2+j)));have et:(List.range 32).map (fun j=>valI (R.cell ((a:Int)).toNat (Int.toNat 2+j)))=lj hs:=by rw[MD];exact t2
   rw[et,k3,<-h2]at key;refine⟨fun d=>out ?_,fun heq=>out ?_⟩
   .have d:¬aw h.c 2 32=lj hs:=fun g=>d (key.1 g);unfold fT;rw[MM f,MM s,MM o,M0 d];rfl
   .have heq:aw h.c 2 32=lj hs:=key.2 heq;unfold fT;rw[MM f,MM s,MM o,MM (fun g=>g heq)];rfl
end Go.Proofs.YtbdikjnpbnobcaaGreatDoor
namespace Go.Sx
open Go
variable {us vs:List Value}{b k n x y:Nat}{T e:TypeId}{v:Value}
def Hl.mem_of {H:Hl} {o:Obj} (h:H b=some o):H.mem b:=by unfold Hl.mem;rw[h];rfl
variable {A F G H:Hl}
def Hl.nM (h:b≠x):H.put x y vs b=H b:=by
 unfold Hl.put;rw[MM h]
def Hl.kQ {c:Array Value} {a:Nat×Nat} (h:H x=some (.cells c T a)):H.put x y vs x=some (.cells (splice c.toList y vs).toArray T a):=by
 unfold Hl.put;rw[M0 rfl,h]
def Hl.qh (h:A.le H) (hx:¬A.mem x):A.le (H.put x y vs):=fun b o hb=>by
 rw[Hl.nM fun e=>hx (by rw[<-e];exact Hl.mem_of hb)];exact h b o hb
def OwnsH.at (h:OwnsH F e k v n us) (hk:∀ b,v.ownBlock=some b->G b=F b):OwnsH G e k v n us:=by
 refine⟨h.1,h.2.imp id fun⟨g,cap,cur,hv,hg,r⟩=>⟨g,cap,cur,hv,?_,r⟩⟩;rw[hk g (by rw[hv];rfl)];exact hg
def OwnsH.type (h:OwnsH F e k v n us) (hb:v.ownBlock=some b):∃ c,F b=some (.cells c e (0,0)):=by
 rcases h.2 with ⟨h,_⟩ | ⟨g,cap,cur,h,hg,_⟩
 .rw[h]at hb;cases hb
 .rw[h]at hb;have:g=b:=by simpa [Value.ownBlock] using hb
  subst this;exact⟨_,hg⟩
def dw (A B:Hl):hls [A,B]=A.un B:=by
 show A.un (B.un Hl.none)=_;rw[Hl.un_none]
def vW {x:Int} {c:Nat} (h:(Value.slice (slP x 0) n c).ownBlock=some b) (hx:-1<=x):x=b:=by
 rcases NU x 0 with a | h0
 .rw[show x= -1 by omega,slP_nil]at h;cases h
 .rw[slP_pos h0]at h;have:x.toNat=b:=by simpa [Value.ownBlock] using h
  omega
end Go.Sx
namespace Go.Proofs.YtbdikjnpbnobcaaGreatDoor
open Go Go.Sx Go.Pk
variable {A B C G H K KT:Hl}{w x:Int}{rows:List (List Value)}{hs:List Hd}{wM:List Int}{l row:List Value}{a c c1 n n1 y:Nat}
def xd (w:Int) (v:Value) (wM:List Int):List Value:=[.int .i64 w,v]++bys wM
def BU (w:Int) (v u:Value) (wM t:List Int) (h1:wM.length=32) (h2:t.length=32):splice (splice (xd w v wM) 1 [u]) 2 (bys t)=xd w u t:=by
 have e:splice (xd w v wM) 1 [u]=.int .i64 w::u::bys wM:=by simp [splice,xd]
 rw[e];unfold splice xd;rw[bys_length,h2];simp [Pd,bys_length,h1]
def mO 
 (hK:K a=some (.cells (xd w (.slice (slP x 0) hs.length c) wM).toArray 248 (0,0))) (f:OwR K 38 cj (.slice (slP x 0) hs.length c) rows)
 (hk:∀ b,K.mem b->some b≠(Value.slice (slP x 0) hs.length c).ownBlock->G b=K b):G a=some (.cells (xd w (.slice (slP x 0) hs.length c) wM).toArray 248 (0,0)):=by
 have g:some a≠(Value.slice (slP x 0) hs.length c).ownBlock:=fun e=>by
  obtain⟨h,d⟩:=f.2.type e.symm;rw[hK]at d;simp at d
 rw[hk a (Hl.mem_of hK) g,hK]
def wr_cells {T:TypeId} (h:H a=some (.cells l.toArray T (0,0))) (hl:y+n<=l.length):H.wr a y n=true:=by
 unfold Hl.wr;rw[h];simp [hl]
def xe {x1:Int} {h:Hd} 
 (hK:K a=some (.cells (xd w (.slice (slP x 0) hs.length c) wM).toArray 248 (0,0))) (p:OwR K 38 cj (.slice (slP x 0) hs.length c) rows)
 (hT:KT.le K) (hA:di KT rows hs) (f:¬KT.mem a) (i:∀ b:Nat,x=b->¬KT.mem b) (hx:-1<=x) (j:wM.length=32) (hI:aG B row h) (q:-1<=x1)
 (happ:∀ xs,OwnsH K 38 cj.length (.slice (slP x 0) hs.length c) hs.length xs->OwnsH G 38 cj.length (.slice (slP x1 0) n1 c1) (hs.length+1) (xs++row)) (r:n1=hs.length+1)
 (hk:∀ b,K.mem b->some b≠(Value.slice (slP x 0) hs.length c).ownBlock->G b=K b)
 (hnew:some x1.toNat=(Value.slice (slP x 0) hs.length c).ownBlock\/¬K.mem x1.toNat\/x1= -1)
 (hGB:(((G.put a 1 [.slice (slP x1 0) n1 c1]).put a 2 (bys (ia h)))).dis B) :
 cH (((G.put a 1 [.slice (slP x1 0) n1 c1]).put a 2 (bys (ia h))).un B) a w (hs++[h]):=by
 subst r;have A:=mO hK p hk;have hl:rows.length=hs.length:=hA.1;have k:=happ rows.flatten (by have:=p.2;rw[hl]at this;exact this);have l:∀ b,(Value.slice (slP x1 0) (hs.length+1) c1).ownBlock=some b->b≠a:=fun b hb e=>by
  subst e;obtain⟨D,n⟩:=k.type hb;rw[A]at n;simp at n
 have g:OwR ((G.put a 1 [.slice (slP x1 0) (hs.length+1) c1]).put a 2 (bys (ia h))) 38 cj (.slice (slP x1 0) (hs.length+1) c1) (rows++[row]):=by
  have:=OwR.snoc (rows:=rows) p.1 hI.ok k (by rw[hl]) rfl;refine⟨this.1,this.2.at fun b hb=>?_⟩;rw[Hl.nM (l b hb),Hl.nM (l b hb)]
 have m:KT.le ((G.put a 1 [.slice (slP x1 0) (hs.length+1) c1]).put a 2 (bys (ia h))):=by
  refine Hl.qh (Hl.qh (fun b o hb=>?_) f) f;rw[hk b (Hl.le_mem hT (Hl.mem_of hb)) fun e=>i b (vW e.symm hx) (Hl.mem_of hb)];exact hT b o hb
 have C:((G.put a 1 [.slice (slP x1 0) (hs.length+1) c1]).put a 2 (bys (ia h))) a=some (.cells (xd w (.slice (slP x1 0) (hs.length+1) c1) (ia h)).toArray 248 (0,0)):=by
  rw[Hl.kQ (Hl.kQ A)];simp only[PA];rw[BU _ _ _ _ _ j (show(ia h).length=32 from fO _)]
 generalize (G.put a 1 [.slice (slP x1 0) (hs.length+1) c1]).put a 2 (bys (ia h))=s at *;have d:di (KT.un B) (rows++[row]) (hs++[h]):=(hA.mono (Hl.un_left _ _)).snoc (hI.mono (Hl.un_right fun b ⟨y,z⟩=>hGB b ⟨Hl.le_mem m y,z⟩));have hle:(KT.un B).le (s.un B):=fun b o hb=>by
  unfold Hl.un at hb ⊢;cases t:KT b with
  | some o'=>rw[t]at hb;cases hb;rw[m _ _ t];rfl
  | none =>
   rw[t]at hb;have hb:B b=some o:=hb;cases hg:s b with
   | none=>exact hb
   | some o2=>exact absurd ⟨Hl.mem_of hg,Hl.mem_of hb⟩ (hGB b)
 refine⟨x1,c1,rows++[row],?_,?_,d.mono hle,q,KT.un B,hle,d,fun hm=>?_,fun b hb hm=>?_⟩
 .rw[Hl.un_left s B _ _ C,MJ];have:lj (hs++[h])=ia h:=by unfold lj;rw[List.getLast?_append];rfl
  rw[this];rfl
 .rw[MJ];exact⟨g.1,OwnsH.mono (Hl.un_left _ _) g.2⟩
 .rcases Hl.un_mem.1 hm with h1 | h1
  .exact f h1
  .exact hGB a ⟨Hl.mem_of C,h1⟩
 .have u:(Value.slice (slP x1 0) (hs.length+1) c1).ownBlock=some b:=by
   rw[slP_pos ae];show some x1.toNat=_;rw[hb,MD]
  rcases Hl.un_mem.1 hm with h1 | h1
  .have v:=Hl.le_mem hT h1;rcases hnew with h2 | h2 | h2
   .rw[hb,MD]at h2;exact i b (vW h2.symm hx) h1
   .rw[hb,MD]at h2;exact h2 v
   .omega
  .obtain⟨D,n⟩:=g.2.type u;exact hGB b ⟨Hl.mem_of n,h1⟩
noncomputable def ri:Sx.Spec where
 fn:=130
 own:=[.arg 0]
 rd:=[10153,2000002]
 res:=[.one (.int .i64)]
 pre:=fun xs Hs Rs=>∃ a K w hs row T RG h,xs=[.pointer (some ⟨a,0,none⟩),.agg row.toArray]/\Hs=[K]/\Rs=[T,RG]/\cH K a w hs/\hs.length<1000000/\aG T row h/\yE RG 2
 post:=fun xs Hs Rs v Hs' F=>∃ a K w hs row T RG h K',xs=[.pointer (some ⟨a,0,none⟩),.agg row.toArray]/\Hs=[K]/\Rs=[T,RG]/\cH K a w hs/\aG T row h/\Hs'=[K']/\v=.int .i64 (fT w hs h)/\(fT w hs h=0->cH K' a w (hs++[h]))/\(fT w hs h≠0->cH K' a w hs)
noncomputable def Jb:List Sx.Spec:=[mN,xj,Je]
def EN:∀ t∈Jb,t.OK Tryz.prog:=ai rm <| ai vg <| ai EU <| aD
def Kb:mN.res=[.one (.int .i64)]:=rfl
def Ke:Je.res=[.agg (List.replicate 32 (Ck.int .u8))]:=rfl
noncomputable def rj:Walk Tryz.prog Jb ri.fn where
 Λ:=noLoops
 args:=TP (.var 0) (.lit 0)::(cpSVs 1 [.agg aI]).map .sv
 mem:=[.hp 129 [] [.var 0] [],.ro 130 [.var 54] true,.ro 131 [.lit 2] false]
 nv:=132
def zG {a:Int} (h:rowOK row cj):∃ q:Env,q.i 0=a/\row=fW q 1/\q.h 129=A/\q.h 130=B/\q.h 131=C:=by
 obtain⟨q,g,hn,e⟩:=row_rep aI 1 row (ay fun _=>a) h;exact⟨⟨q.i,q.b,q.s,q.v,fun k=>if k=129 then A else if k=130 then B else if k=131 then C else Hl.none⟩,g.i 0,e.symm,rfl,rfl,rfl⟩
set_option maxRecDepth 20000 in
def yZ:ri.OK Tryz.prog:=by
 refine Spec.of_fn (Γ:=Jb) EN ?_;rintro xs Hs Rs aa ab ⟨a,K,w,hs,row,T,RG,h,rfl,rfl,rfl,j,hlen,hx,k⟩;obtain⟨J,N,rfl,w1,w2,O⟩:=zG (A:=K) (B:=T) (C:=RG) (a:=(a:Int)) hx.ok;refine⟨rj,J,fun _ _=>True,fun _ _=>0,?_,⟨?_,?_,?_,?_⟩,(fun _ h=>nomatch h),?_⟩
 .show [Value.pointer (slP (J.i 0) 0),.agg (fW J 1).toArray]=_;rw[N,slP_pos ae];rfl
 .intro r hr ho;simp [rj]at hr;rcases hr with rfl | rfl | rfl
  .exact⟨K,ar,by show(J.h 129).le K;rw[w1];exact Hl.le_refl _⟩
  .cases ho
  .cases ho
 .intro r hr ho;simp [rj]at hr;rcases hr with rfl | rfl | rfl
  .cases ho
  .exact⟨T,ar,by show(J.h 130).le T;rw[w2];exact Hl.le_refl _⟩
  .exact⟨RG,ar,by show(J.h 131).le RG;rw[O];exact Hl.le_refl _⟩
 .simp [rj,Res.own]
 .intro r hr;simp [rj]at hr;rcases hr with rfl | rfl | rfl<;>trivial
 .refine Walk.read [aI] [] [] ?_;simp only[go_sem,Nat.reduceAdd,Jb,Kb,Hh,Ke,Hg];obtain⟨x,c,rows,hK,u,hA,l,KT,hT,v,y,z⟩:=id j;have hK:K a=some (.cells (xd w (.slice (slP x 0) hs.length c) (lj hs)).toArray 248 (0,0)):=hK;have D:rows.length=hs.length:=hA.1;have c1:K.cell ((a:Int)).toNat (Int.toNat 1)=some (.slice (slP x 0) hs.length c):=by rw[MD];simp [Hl.cell,hK,xd]
  have V:∀ q:Env,Agree 132 J q->q.i 0=a/\q.h 129=K/\q.h 130=T/\q.h 131=RG/\(ckCVs 1 aI).map (CV.ev q)=fW J 1:=fun q g =>
   ⟨by rw[g.i 0,N],by rw[g.h 129,w1],by rw[g.h 130,w2],by rw[g.h 131,O],Ns Array.toList (Value.agg.inj (ev_ag (ks:=aI) (n:=1) g aj))⟩
  have ep:Value.pointer (slP (a:Int) 0)=.pointer (some ⟨a,0,none⟩):=by rw[slP_pos ae];rfl
  have E:Value.slice (slP (valP (some (Value.slice (slP x 0) hs.length c)) 0) (valP (some (Value.slice (slP x 0) hs.length c)) 1)) (valP (some (Value.slice (slP x 0) hs.length c)) 2).toNat (valP (some (Value.slice (slP x 0) hs.length c)) 3).toNat=.slice (slP x 0) hs.length c:=fC ⟨_,_,_,rfl⟩;have P:valP (some (Value.slice (slP x 0) hs.length c)) 2=hs.length:=Db l _ _;intro q1 Q p1;obtain⟨v0,x1,x2,x3,xr⟩:=V q1 Q;rw[v0,x1,x2,xr,ep];refine⟨⟨a,K,w,hs,_,T,h,rfl,rfl,⟨K,Hl.le_refl _,j⟩,hlen,hx⟩,fun q2 g2 ⟨F2,⟨a',R',w',hs',row',T',h',f1,f2,c2,i2,hv⟩,_⟩=>?_⟩;simp only[MH,MZ,Value.pointer.injEq,MP,Addr.mk.injEq,Value.agg.injEq]at f1 f2;obtain⟨rfl,f1⟩:=f1;obtain⟨rfl,rfl⟩:=f2;have f1:=M4 f1;subst f1;obtain⟨rfl,rfl⟩:=aR.uniq ⟨K,Hl.le_refl _,j⟩ c2;obtain rfl:=hx.uniq i2;have b:q2.i 133=fT w hs h:=by simpa using hv
  have R:Agree 132 J q2:=Q.tr g2;obtain⟨y0,S,y2,y3,yr⟩:=V q2 R;refine⟨fun f _=>?_,fun heq=>?_⟩
  .refine⟨[[0]],[],rfl,rfl,⟨(ay fun _=>q2.i 133),rfl,zzT,zzT⟩,a,K,w,hs,_,T,RG,h,_,rfl,rfl,rfl,j,hx,rfl,by rw[<-b];rfl,fun h0=>absurd (b.trans h0) f,fun _=>?_⟩;show cH (hls [q2.h 129]) _ _ _;rw[hls_one,S];exact j
  have h0:fT w hs h=0:=b.symm.trans heq;rw[y0,S,y2,yr,c1];refine⟨ae,rfl,⟨_,T,h,rfl,rfl,hx⟩,fun q3 g3 ⟨F3,F,G,ad⟩ H g4 p4=>?_⟩;obtain⟨row',er,hI⟩:=F _ _ _ rfl rfl hx;have er:=M4 (Value.agg.inj er);rw[<-G zzT]at hI;have U:Agree 132 J H:=R.trans (g3.mono.tr g4);obtain⟨z0,z1,z2,z3,zr⟩:=V H U;have m:(ckCVs 134 aI).map (CV.ev H)=row':=(Ns Array.toList (Value.agg.inj (ev_ag (ks:=aI) (n:=134) g4 aj))).trans er;rw[z0,z1,c1,E,P,m,MD];refine⟨⟨⟨rows.flatten,by have:=u.2;rw[D]at this;exact this⟩,ae,by unfold maxLen;omega,ae⟩,fun W X ⟨a1,a2,happ,o,_,I⟩=>?_⟩;have Y:Agree 132 J W:=U.tr X;obtain⟨u0,u1,u2,u3,ur⟩:=V W Y;have p:=mO hK u o;have L:((hs.length:Int)+1).toNat=hs.length+1:=ae;rw[u0,u1,c1,P,L,show((a:Int)).toNat=a from MD a];refine⟨⟨ae,ae,wr_cells p (by simp [xd])⟩,fun Z g6 p6=>?_⟩;have G6:Agree 132 J Z:=Y.tr g6;obtain⟨s0,s1,s2,s3,sr⟩:=V Z G6;rw[s2,s3,sr];refine⟨⟨_,T,RG,h,rfl,rfl,hx,k⟩,fun q7 M ⟨F7,d,_⟩=>?_⟩;have d:=d _ _ _ _ rfl rfl hx;have d:=M4 (Value.agg.inj d);have G7:Agree 132 J q7:=G6.tr M;obtain⟨k0,_⟩:=V q7 G7;rw[k0,d,M.h 265,p6,show((a:Int)).toNat=a from MD a];refine⟨⟨ae,ae,wr_cells (Hl.kQ p) ?_⟩,fun s g8 p8=>?_⟩
  .show 2+32<=_;simp [xd,splice,bys_length,kx]
  intro t;have hGB:=t 0 4 _ _ aj rfl rfl rfl;have e:s.h 134=q3.h 134:=by rw[g8.h 134,M.h 134,g6.h 134,X.h 134,g4.h 134]
  have hGB:(s.h 298).dis (s.h 134):=hGB;rw[p8,e]at hGB;have key:=xe hK u hT v y z l (kx hs) hI a1 happ rfl o I hGB;refine⟨[[0,4]],[],rfl,rfl,⟨(ay fun _=>0),rfl,zzT,zzT⟩,a,K,w,hs,_,T,RG,h,_,rfl,rfl,rfl,j,hx,rfl,by rw[h0];rfl,fun _=>?_,fun f=>absurd h0 f⟩;show cH (hls [s.h 298,s.h 134]) _ _ _;rw[dw,p8,e];exact key
end Go.Proofs.YtbdikjnpbnobcaaGreatDoor
namespace Go.Sx
open Go
section
variable {P:Program}
def Spec.Cs {s:Spec} (h:∀ xs Hs Rs,s.pre xs Hs Rs->({s with pre:=fun a b c=>a=xs/\b=Hs/\c=Rs} : Spec).OK P):s.OK P :=
 fun w xs Hs Rs d e s1 s2 d1 d2 hp=>h xs Hs Rs hp w xs Hs Rs d e s1 s2 d1 d2 ⟨rfl,rfl,rfl⟩
def qa (s:Spec) (K R:Hl):Spec where
 fn:=s.fn
 own:=s.own
 rd:=s.rd
 res:=s.res
 pre:=fun xs Hs Rs=>Hs=[K.un R]/\K.dis R/\s.pre xs [K] Rs
 post:=fun xs Hs Rs v Hs' F=>∃ K',Hs'=[K'.un R]/\K'.dis R/\F.dis R/\s.post xs [K] Rs v [K'] F
def xp {s:Spec} (h1:s.own.length=1) (hs:s.OK P) (K R:Hl):(qa s K R).OK P:=by
 intro w xs Hs Rs A t hsub k hd l ⟨e,f,hp⟩;subst e;have c:=hsub _ (MO.2 rfl);have kw:K.sub w:=fun b o hb=>c b o (Hl.un_left K R b o hb);have i:R.sub w:=fun b o hb=>c b o (Hl.un_right f b o hb);have u:=hs w xs [K] Rs (by rw[h1];rfl) t (fun H c=>by rw[MO.1 c];exact kw) k
  (fun p q H v g a b=>by
   cases p with
   | zero=>cases q with
    | zero=>exact absurd rfl g
    | succ q=>simp at b
   | succ p=>simp at a)
  (fun H c R1 z=>by
   rw[MO.1 c];intro b ⟨x,y⟩;exact l _ (MO.2 rfl) R1 z b ⟨Hl.un_mem.2 (Or.inl x),y⟩) hp
 refine u.mono fun e w' ⟨J,Hs',F,he,hn,d,hpost⟩=>?_;obtain⟨K',rfl⟩:∃ K',Hs'=[K']:=List.length_eq_one_iff.1 (by rw[d.len];rfl);have j:∀ b,R.mem b->b<w.heap.size:=fun b hb=>by
  obtain⟨o,ho⟩:=NJ.1 hb;exact(Ng.1 (i b o ho)).1
 have far:∀ (X:Hl),(∀ b,X.mem b->(∃ H∈[K],H.mem b)\/w.heap.size<=b)->X.dis R:=fun X hX b ⟨x,y⟩=>by
  rcases hX b x with ⟨H,c,hb⟩ | hb
  .rw[MO.1 c]at hb;exact f b ⟨hb,y⟩
  .have:=j b y;omega
 have dK:K'.dis R:=far K' (d.dom K' (MO.2 rfl));have r:F.dis R:=far F d.fdom;have m:R.sub w':=fun b o hb=>by
  have hm:R.mem b:=by unfold Hl.mem;rw[hb];rfl
  rw[d.block b (j b hm) (fun H c=>by rw[MO.1 c];exact fun hk=>f b ⟨hk,hm⟩)];exact i b o hb
 have wide:∀ b,(∃ H∈[K],H.mem b)\/w.heap.size<=b->(∃ H∈[K.un R],H.mem b)\/w.heap.size<=b:=fun b h=>by
  rcases h with ⟨H,c,hb⟩ | hb
  .rw[MO.1 c]at hb;exact Or.inl ⟨_,MO.2 rfl,Hl.un_mem.2 (Or.inl hb)⟩
  .exact Or.inr hb
 refine⟨J,[K'.un R],F,he,hn,⟨d.os,d.tape,d.output,d.size,fun b hb n=>?_,rfl,fun H c=>?_,d.fsub,fun H c b hb=>?_,fun b hb=>wide b (d.fdom b hb),fun p q H v g a b=>?_,fun H c=>?_⟩,K',rfl,dK,r,hpost⟩
 .exact d.block b hb fun H c=>by rw[MO.1 c];exact fun hk=>n _ (MO.2 rfl) (Hl.un_mem.2 (Or.inl hk))
 .rw[MO.1 c];exact Hl.un_sub (d.sub K' (MO.2 rfl)) m
 .rw[MO.1 c]at hb;rcases Hl.un_mem.1 hb with hb | hb
  .exact wide b (d.dom K' (MO.2 rfl) b hb)
  .exact Or.inl ⟨_,MO.2 rfl,Hl.un_mem.2 (Or.inr hb)⟩
 .cases p with
  | zero=>cases q with
   | zero=>exact absurd rfl g
   | succ q=>simp at b
  | succ p=>simp at a
 .rw[MO.1 c];intro b ⟨x,y⟩;rcases Hl.un_mem.1 x with x | x
  .exact d.fdis K' (MO.2 rfl) b ⟨x,y⟩
  .exact r b ⟨y,x⟩
end
def Hl.minus (H K:Hl):Hl:=fun b=>if(K b).isSome then Option.none else H b
variable {A H K a b:Hl}
def Hl.jT (H K:Hl):(H.minus K).le H:=fun b o h=>by
 unfold Hl.minus at h;split at h
 .cases h
 .exact h
def Hl.pj (H K:Hl):K.dis (H.minus K):=fun b ⟨x,y⟩=>by
 unfold Hl.mem at x y;unfold Hl.minus at y;rw[M0 x]at y;cases y
def Hl.nu (h:A.le H) (d:A.dis K):A.le (H.minus K):=fun b o hb=>by
 unfold Hl.minus;have hm:A.mem b:=by unfold Hl.mem;rw[hb];rfl
 have hn:¬(K b).isSome=true:=fun hk=>d b ⟨hm,hk⟩;rw[MM hn];exact h b o hb
def Hl.zZ (h:K.le H):K.un (H.minus K)=H:=by
 funext b
 unfold Hl.un Hl.minus;cases hb:K b with
 | none=>simp
 | some o=>simp;exact(h b o hb).symm
def Hl.fj (h:a.dis b):b.dis a:=fun k ⟨x,y⟩=>h k ⟨y,x⟩
end Go.Sx
namespace Go.Proofs.YtbdikjnpbnobcaaGreatDoor
open Go Go.Sx Go.Pk
variable {B G H KB R R':Hl}{w x1:Int}{c1 i k n1 x:Nat}{st:Nat->List Pc}{a:Nat->Nat}{sv:Nat->Value}{α:Type}
def bL (st:Nat->List Pc):Int:=(((st 0).length+(st 1).length+(st 2).length+(st 3).length+(st 4).length+(st 5).length:Nat):Int)
def qU (a:Nat->Nat) (sv:Nat->Value) (n:Int):List Value:=[.pointer (some ⟨a 0,0,none⟩),.pointer (some ⟨a 1,0,none⟩),.pointer (some ⟨a 2,0,none⟩),.pointer (some ⟨a 3,0,none⟩),.pointer (some ⟨a 4,0,none⟩),.pointer (some ⟨a 5,0,none⟩),sv 0,sv 1,sv 2,sv 3,sv 4,sv 5,.int .i64 n]
def vJ (a:Nat->Nat) (sv:Nat->Value) (n:Int) (h:i<6):(qU a sv n)[i]?=some (.pointer (some ⟨a i,0,none⟩))/\(qU a sv n)[6+i]?=some (sv i):=by
 have:i=0\/i=1\/i=2\/i=3\/i=4\/i=5:=ae;rcases this with rfl | rfl | rfl | rfl | rfl | rfl<;>exact⟨rfl,rfl⟩
def upd (f:Nat->α) (i:Nat) (x:α):Nat->α:=fun k=>if k=i then x else f k
def bG (f:Nat->α) (i:Nat) (x:α):upd f i x i=x:=by simp [upd]
def cx (f:Nat->α) (x:α) (h:k≠i):upd f i x k=f k:=by simp [upd,h]
def zU (a:Nat->Nat) (sv:Nat->Value) (n:Int) (v:Value) (h:i<6):splice (qU a sv n) (6+i) [v]=qU a (upd sv i v) n:=by
 have:i=0\/i=1\/i=2\/i=3\/i=4\/i=5:=ae;rcases this with rfl | rfl | rfl | rfl | rfl | rfl<;>rfl
def HZ (a:Nat->Nat) (sv:Nat->Value) (n m:Int):splice (qU a sv n) 12 [.int .i64 m]=qU a sv m:=rfl
def zh (st:Nat->List Pc) (p:Pc) (h:i<6):bL (upd st i (st i++[p]))=bL st+1:=by
 have:i=0\/i=1\/i=2\/i=3\/i=4\/i=5:=ae;rcases this with rfl | rfl | rfl | rfl | rfl | rfl<;>(unfold bL upd;simp;omega)
def lC (st:Nat->List Pc) (i:Nat):List Hd:=(st i).map Pc.h
structure I7 (H:Hl) (x:Nat) (st:Nat->List Pc) (a:Nat->Nat) (sv:Nat->Value) (Kc:Nat->Hl) (KB:Hl):Prop where
 blk:H x=some (.cells (qU a sv (bL st)).toArray 163 (0,0))
 ch:∀ i,i<6->cH (Kc i) (a i) (i+1:Nat) (lC st i)
 le:∀ i,i<6->(Kc i).le H
 dis:∀ i j,i<6->j<6->i≠j->(Kc i).dis (Kc j)
 nox:∀ i,i<6->¬(Kc i).mem x
 row:∀ i,i<6->∃ us,OwnsH H 22 1 (sv i) (st i).length us/\∀ (j:Nat) u p,us[j]?=some u->(st i)[j]?=some p->RdW KB u p.b
 kb:KB.le H
 kbx:¬KB.mem x
 kbc:∀ i,i<6->KB.dis (Kc i)
 own:∀ i b,i<6->(sv i).ownBlock=some b->¬KB.mem b/\∀ j,j<6->¬(Kc j).mem b/\(j≠i->(sv j).ownBlock≠some b)
def jD (H:Hl) (x:Nat) (st:Nat->List Pc):Prop:=∃ a sv Kc KB,I7 H x st a sv Kc KB
structure D8 (R:Hl) (x:Nat) (st:Nat->List Pc) (a:Nat->Nat) (sv:Nat->Value):Prop where
 blk:R x=some (.cells (qU a sv (bL st)).toArray 163 (0,0))
 ch:∀ i,i<6->aR R (a i) (i+1:Nat) (lC st i)
 row:∀ i,i<6->∃ us,OwnsH R 22 1 (sv i) (st i).length us/\∀ (j:Nat) u p,us[j]?=some u->(st i)[j]?=some p->RdW R u p.b
def fa (R:Hl) (x:Nat) (st:Nat->List Pc):Prop:=∃ a sv,D8 R x st a sv
def jD.rd (h:jD H x st):fa H x st:=by
 obtain⟨a,sv,Kc,KB,h⟩:=h;refine⟨a,sv,h.blk,fun i hi=>⟨Kc i,h.le i hi,h.ch i hi⟩,fun i hi=>?_⟩;obtain⟨us,h1,h2⟩:=h.row i hi;exact⟨us,h1,fun j u p hu hp=>cD (h2 j u p hu hp) h.kb⟩
def aR.mono (hl:R.le R') {a:Nat} {hs:List Hd} (h:aR R a w hs):aR R' a w hs:=by
 obtain⟨K,h1,h2⟩:=h;exact⟨K,fun b o hb=>hl b o (h1 b o hb),h2⟩
def fa.mono (hl:R.le R') (h:fa R x st):fa R' x st:=by
 obtain⟨a,sv,h⟩:=h;refine⟨a,sv,hl _ _ h.blk,fun i hi=>(h.ch i hi).mono hl,fun i hi=>?_⟩;obtain⟨us,h1,h2⟩:=h.row i hi;exact⟨us,h1.mono hl,fun j u p hu hp=>cD (h2 j u p hu hp) hl⟩
def D8.cells (h:D8 R x st a sv) (hi:i<6):R.cell x i=some (.pointer (some ⟨a i,0,none⟩))/\R.cell x (6+i)=some (sv i)/\R.cell x 12=some (.int .i64 (bL st)):=by
 obtain⟨e1,b⟩:=vJ a sv (bL st) hi;refine⟨?_,?_,?_⟩
 .unfold Hl.cell;rw[h.blk];simpa using e1
 .unfold Hl.cell;rw[h.blk];simpa using b
 .unfold Hl.cell;rw[h.blk];rfl
def I7.put {Kc:Nat->Hl} (h:I7 H x st a sv Kc KB) (hi:i<6) {K':Hl} {p:Pc} {u:Value} 
 (hd:K'.dis (H.minus (Kc i))) (hc:cH K' (a i) (i+1:Nat) (lC st i++[p.h])) (hb:RdW B u p.b) (ag:-1<=x1)
 (happ:∀ xs,OwnsH (K'.un (H.minus (Kc i))) 22 1 (sv i) (st i).length xs->OwnsH G 22 1 (.slice (slP x1 0) n1 c1) ((st i).length+1) (xs++[u]))
 (hk:∀ b,(K'.un (H.minus (Kc i))).mem b->some b≠(sv i).ownBlock->G b=(K'.un (H.minus (Kc i))) b)
 (hnew:some x1.toNat=(sv i).ownBlock\/¬(K'.un (H.minus (Kc i))).mem x1.toNat\/x1= -1)
 (hB:((G.put x (6+i) [.slice (slP x1 0) n1 c1]).put x 12 [.int .i64 (bL st+1)]).dis B) :
 I7 (((G.put x (6+i) [.slice (slP x1 0) n1 c1]).put x 12 [.int .i64 (bL st+1)]).un B) x (upd st i (st i++[p])) a (upd sv i (.slice (slP x1 0) n1 c1)) (upd Kc i K') (KB.un B):=by
 generalize Q:K'.un (H.minus (Kc i))=R at *;have r:(H.minus (Kc i)).le R:=by
  rw[<-Q];exact Hl.un_right hd
 have lK:K'.le R:=by
  rw[<-Q];exact Hl.un_left _ _
 have Y:(H.minus (Kc i)).mem x:=Hl.le_mem (Hl.nu (A:=Hl.one x (.cells (qU a sv (bL st)).toArray 163 (0,0))) (fun b o hb=>by
  unfold Hl.one at hb;split at hb
  .rename_i e;subst e;cases hb;exact h.blk
  .cases hb) (Hl.one_dis.2 (h.nox i hi))) (Hl.mem_of (Hl.one_self _ _))
 have S:(H.minus (Kc i)) x=some (.cells (qU a sv (bL st)).toArray 163 (0,0)):=by
  obtain⟨o,ho⟩:=NJ.1 Y;have:=Hl.jT H (Kc i) x o ho;rw[h.blk]at this;cases this;exact ho
 have C:∀ j,j<6->j≠i->(Kc j).le (H.minus (Kc i)):=fun j f t=>Hl.nu (h.le j f) (h.dis j i f hi t);have L:KB.le (H.minus (Kc i)):=Hl.nu h.kb (h.kbc i hi);have g:∀ j b,j<6->(sv j).ownBlock=some b->∃ c,(H.minus (Kc i)) b=some (.cells c 22 (0,0)):=fun j b f hb=>by
  obtain⟨us,h1,_⟩:=h.row j f;obtain⟨c,d⟩:=h1.type hb;refine⟨c,?_⟩;unfold Hl.minus;have:=((h.own j b f hb).2 i hi).1;unfold Hl.mem at this;rw[MM this];exact d
 have F:∀ j b,j<6->(sv j).ownBlock=some b->b≠x:=fun j b f hb e=>by
  subst e;obtain⟨c,d⟩:=g j _ f hb;rw[S]at d;simp at d
 have Z:some x≠(sv i).ownBlock:=fun e=>F i x hi e.symm rfl;have m:G x=some (.cells (qU a sv (bL st)).toArray 163 (0,0)):=by
  rw[hk x (Hl.le_mem r Y) Z];exact r _ _ S
 have lG:∀ {A:Hl},A.le R->(∀ b,(sv i).ownBlock=some b->¬A.mem b)->A.le G:=fun {A} hA hn b o hb=>by
  rw[hk b (Hl.le_mem hA (Hl.mem_of hb)) fun e=>hn b e.symm (Hl.mem_of hb)];exact hA b o hb
 have nK:∀ b,(sv i).ownBlock=some b->¬K'.mem b:=fun b hb hm=>by
  obtain⟨c,d⟩:=g i b hi hb;exact hd b ⟨hm,Hl.mem_of d⟩
 have xK:¬K'.mem x:=fun hm=>hd x ⟨hm,Y⟩;have aa:((G.put x (6+i) [.slice (slP x1 0) n1 c1]).put x 12 [.int .i64 (bL st+1)]) x=some (.cells (qU a (upd sv i (.slice (slP x1 0) n1 c1)) (bL st+1)).toArray 163 (0,0)):=by
  rw[Hl.kQ (Hl.kQ m)];simp only[PA];rw[zU _ _ _ _ hi,HZ]
 have P:∀ b,G.mem b->¬B.mem b:=fun b h1 h2=>hB b ⟨Hl.put_mem.2 (Hl.put_mem.2 h1),h2⟩;have I:∀ b o,b≠x->G b=some o->(((G.put x (6+i) [.slice (slP x1 0) n1 c1]).put x 12 [.int .i64 (bL st+1)]).un B) b=some o:=fun b o hb hg=>Hl.un_left _ _ b o (by rw[Hl.nM hb,Hl.nM hb];exact hg);have M:∀ {A:Hl},A.le G->¬A.mem x->A.le (((G.put x (6+i) [.slice (slP x1 0) n1 c1]).put x 12 [.int .i64 (bL st+1)]).un B):=fun hA hx b o hb=>Hl.un_left _ _ b o (Hl.qh (Hl.qh hA hx) hx b o hb);have T:K'.le G:=lG lK nK;have U:KB.le G:=lG (fun b o hb=>r _ _ (L b o hb)) fun b hb=>(h.own i b hi hb).1;have V:∀ j,j<6->j≠i->(Kc j).le G:=fun j f e=>lG (fun b o hb=>r _ _ (C j f e b o hb)) fun b hb=>((h.own i b hi hb).2 j f).1;have xB:¬B.mem x:=P x (Hl.mem_of m);have W:¬(KB.un B).mem x:=fun hm=>(Hl.un_mem.1 hm).elim h.kbx xB;have X:(KB.un B).le (((G.put x (6+i) [.slice (slP x1 0) n1 c1]).put x 12 [.int .i64 (bL st+1)]).un B):=fun b o hb=>by
  unfold Hl.un at hb;cases n:KB b with
  | some o'=>rw[n]at hb;cases hb;exact M U h.kbx _ _ n
  | none=>rw[n]at hb;exact Hl.un_right hB b o hb
 obtain⟨us,ho,ab⟩:=h.row i hi;have ad:OwnsH R 22 1 (sv i) (st i).length us:=ho.at fun b hb=>by
  obtain⟨c,d⟩:=g i b hi hb;rw[r _ _ d];exact(Hl.jT H (Kc i) _ _ d).symm
 have D:=happ us ad;have J:∀ b,(Value.slice (slP x1 0) n1 c1).ownBlock=some b->b=x1.toNat/\x1≠ -1:=fun b hb=>by
  rcases NU x1 0 with ah | h0
  .rw[show x1= -1 by omega,slP_nil]at hb;cases hb
  .rw[slP_pos h0]at hb;have:x1.toNat=b:=by simpa [Value.ownBlock] using hb
   exact⟨this.symm,ae⟩
 have w:∀ {A:Hl},A.le R->(∀ b,(sv i).ownBlock=some b->¬A.mem b)->∀ b,(Value.slice (slP x1 0) n1 c1).ownBlock=some b->¬A.mem b:=fun {A} hA hn b hb hm=>by
  obtain⟨rfl,t⟩:=J b hb;rcases hnew with h1 | h1 | h1
  .exact hn _ h1.symm hm
  .exact h1 (Hl.le_mem hA hm)
  .exact t h1
 have K:∀ j b,j<6->j≠i->(Value.slice (slP x1 0) n1 c1).ownBlock=some b->(sv j).ownBlock≠some b:=fun j b f af hb e=>by
  obtain⟨rfl,t⟩:=J b hb;rcases hnew with h1 | h1 | h1
  .exact((h.own i _ hi h1.symm).2 j f).2 af e
  .obtain⟨c,d⟩:=g j _ f e;exact h1 (Hl.le_mem r (Hl.mem_of d))
  .exact t h1
 have N:∀ b,(Value.slice (slP x1 0) n1 c1).ownBlock=some b->b≠x:=fun b hb e=>by
  subst e;obtain⟨c,d⟩:=D.type hb;rw[m]at d;simp at d
 refine⟨?_,fun j f=>?_,fun j f=>?_,fun j k f l O=>?_,fun j f=>?_,fun j f=>?_,X,W,fun j f=>?_,fun j b f hb=>?_⟩
 .rw[zh _ _ hi];exact Hl.un_left _ _ _ _ aa
 .by_cases e:j=i
  .subst e;rw[bG];unfold lC;rw[bG,M9];exact hc
  .rw[cx _ _ e];unfold lC;rw[cx _ _ e];exact h.ch j f
 .by_cases e:j=i
  .subst e;rw[bG];exact M T xK
  .rw[cx _ _ e];exact M (V j f e) (h.nox j f)
 .by_cases e:j=i
  .subst e;rw[bG,cx _ _ (Ne.symm O)];exact Hl.dis_le hd (C k l (Ne.symm O))
  .by_cases s:k=i
   .subst s;rw[bG,cx _ _ e];exact Hl.fj (Hl.dis_le hd (C j f e))
   .rw[cx _ _ e,cx _ _ s];exact h.dis j k f l O
 .by_cases e:j=i
  .subst e;rw[bG];exact xK
  .rw[cx _ _ e];exact h.nox j f
 .by_cases e:j=i
  .subst e;rw[bG,bG,MJ];refine⟨us++[u],D.at fun b hb=>(by obtain⟨cc,E⟩:=D.type hb;rw[E];exact I b _ (N b hb) E),fun k v q hv n=>?_⟩;have hl:us.length=(st j).length:=by have:=ho.1;omega
   rcases ND k us.length with kD | kD
   .rw[M5 kD]at hv;rw[M5 ae]at n;exact cD (ab k v q hv n) (Hl.un_left _ _)
   .rw[MX kD]at hv;rw[MX ae]at n;have hv:=MG hv;have n:=MG n;rw[MO]at hv n;subst hv;subst n;exact cD hb (Hl.un_right fun b ⟨y,z⟩=>P b (Hl.le_mem U y) z)
  .rw[cx _ _ e,cx _ _ e];obtain⟨vs,h1,h2⟩:=h.row j f;refine⟨vs,h1.at fun b hb=>?_,fun k v q hv n=>cD (h2 k v q hv n) (Hl.un_left _ _)⟩;obtain⟨c,d⟩:=g j b f hb;rw[Hl.jT H (Kc i) _ _ d];refine I b _ (F j b f hb) ?_;rw[hk b (Hl.le_mem r (Hl.mem_of d)) fun e'=>((h.own i b hi e'.symm).2 j f).2 e hb,r _ _ d]
 .by_cases e:j=i
  .subst e;rw[bG];exact fun b ⟨y,z⟩=>(Hl.un_mem.1 y).elim (fun y=>hd b ⟨z,Hl.le_mem L y⟩) (fun y=>P b (Hl.le_mem T z) y)
  .rw[cx _ _ e];exact fun b ⟨y,z⟩=>(Hl.un_mem.1 y).elim (fun y=>h.kbc j f b ⟨y,z⟩) (fun y=>P b (Hl.le_mem (V j f e) z) y)
 .by_cases e:j=i
  .subst e;rw[bG]at hb;refine⟨fun hm=>(Hl.un_mem.1 hm).elim (w (fun b o hb=>r _ _ (L b o hb)) (fun b hb=>(h.own j b hi hb).1) b hb) (fun y=>by obtain⟨cc,E⟩:=D.type hb;exact P b (Hl.mem_of E) y),fun k l=>?_⟩;by_cases s:k=j
   .subst s;rw[bG];exact⟨w lK nK b hb,fun h=>absurd rfl h⟩
   .rw[cx _ _ s,cx _ _ s];exact⟨w (fun b o hb=>r _ _ (C k l s b o hb)) (fun b hb=>((h.own j b hi hb).2 k l).1) b hb,fun _=>K k b l s hb⟩
  .rw[cx _ _ e]at hb;obtain⟨c,d⟩:=g j b f hb;refine⟨fun hm=>(Hl.un_mem.1 hm).elim (h.own j b f hb).1 (fun y=>P b (by
    have e1:G b=some (.cells c 22 (0,0)):=by rw[hk b (Hl.le_mem r (Hl.mem_of d)) fun e'=>((h.own i b hi e'.symm).2 j f).2 e hb,r _ _ d]
    exact Hl.mem_of e1) y),fun k l=>?_⟩
   by_cases s:k=i
   .subst s;rw[bG,bG];exact⟨fun hm=>hd b ⟨hm,Hl.mem_of d⟩,fun _ e3=>K j b f e e3 hb⟩
   .rw[cx _ _ s,cx _ _ s];exact(h.own j b f hb).2 k l
end Go.Proofs.YtbdikjnpbnobcaaGreatDoor
namespace Go.Sx
open Go
def fq:∀ {l:List Hl} (_:∀ (p q:Nat) A B,p≠q->l[p]?=some A->l[q]?=some B->A.dis B) {i:Nat} {A:Hl},l[i]?=some A->A.le (hls l)
 | [],_,_,_,h=>by simp at h
 | B::l,hd,0,A,h=>by
  simp only[NG,MP]at h;subst h;exact Hl.un_left _ _
 | B::l,hd,i+1,A,h=>by
  have ih:=fq (l:=l) (fun p q A B a c hb=>hd (p+1) (q+1) A B ae (by simpa using c) (by simpa using hb)) (i:=i) (A:=A) (by simpa using h);have hB:B.dis (hls l):=fun b ⟨x,y⟩=>by
   obtain⟨C,d,hb⟩:=hls_mem.1 y;obtain⟨j,e⟩:=NA d;exact hd 0 (j+1) B C ae rfl (by simpa using e) b ⟨x,hb⟩
  exact fun b o hb=>Hl.un_right hB b o (ih b o hb)
end Go.Sx
namespace Go.Proofs.YtbdikjnpbnobcaaGreatDoor
open Go Go.Sx Go.Pk
variable {q:Env}{h:Hd}{s w y:Int}{row:List Value}{i n:Nat}{st':Nat->List Pc}
def vG:Sx.Spec where
 fn:=76
 own:=[]
 rd:=[]
 res:=[.one .ptr]
 pre:=fun xs Hs Rs=>xs=[]
 post:=fun xs Hs Rs v Hs' F=>∃ x:Nat,v=.pointer (some ⟨x,0,none⟩)/\jD F x (fun _=>[])
def HY:List Sx.Spec:=[sY]
def Fh:∀ t∈HY,t.OK Tryz.prog:=fun t a=>by
 rw[HY,MO]at a;subst a;exact Bv
def KC:sY.res=[.one .ptr]:=rfl
def DV (n:Nat):(cpRoots n [Cp.one .ptr]≠[])=True:=by simp [cpRoots,Cp.roots,Ck.root]
def DG:Walk Tryz.prog HY vG.fn where
 Λ:=noLoops
 args:=[]
 mem:=[]
 nv:=0
def gw {x:Int} {F:Hl} {K:List Hl} (hp:sY.post [.int .i64 w] [] [] (.pointer (slP x y)) K F) (hx:-1<=x) (hy:0<=y):0<=x/\slP x y=some ⟨x.toNat,0,none⟩/\cH F x.toNat w []:=by
 obtain⟨b,e,h⟩:=hp w rfl;rcases NU x 0 with a | h0
 .rw[show x= -1 by omega,slP_nil]at e;cases e
 .rw[slP_pos h0]at e ⊢;simp only[Value.pointer.injEq,MP,Addr.mk.injEq,MZ]at e;obtain⟨e1,c⟩:=e;rw[<-e1]at h;refine⟨h0,?_,h⟩;rw[c]
def zN:vG.OK Tryz.prog:=by
 refine Spec.of_fn (Γ:=HY) Fh ?_;rintro xs Hs Rs o t rfl;have e0:Hs=[]:=MF.1 o;have e1:Rs=[]:=MF.1 t;subst e0 e1;refine⟨DG,envI [] false [],fun _ _=>True,fun _ _=>0,rfl,bM (by intro r hr;simp [DG]at hr) rfl,(fun _ h=>nomatch h),?_⟩;refine Walk.read [] [] [] ?_;generalize envI [] false []=J;simp only[go_sem,Nat.reduceAdd,HY,KC,DV];intro V g0 p0;refine⟨⟨1,rfl⟩,fun q1 G ⟨W,a1,b1,n1⟩=>⟨⟨2,rfl⟩,fun q2 H ⟨X,a2,b2,n2⟩=>⟨⟨3,rfl⟩,fun I g3 ⟨Y,K,v,n3⟩=>⟨⟨4,rfl⟩,fun L g4 ⟨Z,M,w,z⟩=>⟨⟨5,rfl⟩,fun N O ⟨F5,P,x,C⟩=>⟨⟨6,rfl⟩,fun a Q ⟨F6,R,b6,n6⟩=>?_⟩⟩⟩⟩⟩⟩;obtain⟨m1,c1,d1⟩:=gw a1 n1.1.1 n1.1.2;obtain⟨m2,c2,d2⟩:=gw a2 n2.1.1 n2.1.2;obtain⟨m3,c3,d3⟩:=gw K n3.1.1 n3.1.2;obtain⟨m4,D,d4⟩:=gw M z.1.1 z.1.2;obtain⟨m5,E,d5⟩:=gw P C.1.1 C.1.2;obtain⟨m6,c6,d6⟩:=gw R n6.1.1 n6.1.2;have b1:=b1 trivial;have b2:=b2 trivial;have v:=v trivial;have w:=w trivial;have x:=x trivial;have b6:=b6 trivial;have d:Agree 11 N a:=Q;have e:Agree 9 L a:=O.tr d;have f:Agree 7 I a:=g4.tr e;have g:Agree 5 q2 a:=g3.tr f;have l:Agree 3 q1 a:=H.tr g;rw[<-b1,<-l.i 1,<-l.h 1]at d1;rw[<-b2,<-g.i 3,<-g.h 3]at d2;rw[<-v,<-f.i 5,<-f.h 5]at d3;rw[<-w,<-e.i 7,<-e.h 7]at d4;rw[<-x,<-d.i 9,<-d.h 9]at d5;rw[<-b6]at d6;rw[<-l.i 1,<-l.i 2]at c1;rw[<-g.i 3,<-g.i 4]at c2;rw[<-f.i 5,<-f.i 6]at c3;rw[<-e.i 7,<-e.i 8]at D;rw[<-d.i 9,<-d.i 10]at E;have p0:0<=a.i 0:=by rw[l.i 0,G.i 0];exact p0
 intro m;generalize hm:([Res.blk 0 (ckCVs 1 (List.replicate 6 Ck.ptr)++[.sl (.lit (-1)) (.lit 0) (.lit 0) (.lit 0),.sl (.lit (-1)) (.lit 0) (.lit 0) (.lit 0),.sl (.lit (-1)) (.lit 0) (.lit 0) (.lit 0),.sl (.lit (-1)) (.lit 0) (.lit 0) (.lit 0),.sl (.lit (-1)) (.lit 0) (.lit 0) (.lit 0),.sl (.lit (-1)) (.lit 0) (.lit 0) (.lit 0),.int .i64 (.lit 0)]) 163,.hp 1 [] [.var 1] [],.hp 3 [] [.var 3] [],.hp 5 [] [.var 5] [],.hp 7 [] [.var 7] [],.hp 9 [] [.var 9] [],.hp 11 [] [.var 11] []]:Mem)=mem at *;have n:∀ r∈mem,r.own=true:=by rw[<-hm];intro r hr;simp at hr;rcases hr with rfl | rfl | rfl | rfl | rfl | rfl | rfl<;>rfl
 have hl:mem.map (Res.hl a)=[Hl.one (a.i 0).toNat (.cells (qU (fun i=>([a.i 1,a.i 3,a.i 5,a.i 7,a.i 9,a.i 11].getD i 0).toNat) (fun _=>.slice none 0 0) 0).toArray 163 (0,0)),a.h 1,a.h 3,a.h 5,a.h 7,a.h 9,a.h 11]:=by
  rw[<-hm];have:Hl.one (a.i 0).toNat (.cells #[.pointer (slP (a.i 1) (a.i 2)),.pointer (slP (a.i 3) (a.i 4)),.pointer (slP (a.i 5) (a.i 6)),.pointer (slP (a.i 7) (a.i 8)),.pointer (slP (a.i 9) (a.i 10)),.pointer (slP (a.i 11) (a.i 12)),.slice none 0 0,.slice none 0 0,.slice none 0 0,.slice none 0 0,.slice none 0 0,.slice none 0 0,.int .i64 0] 163 (0,0))=Hl.one (a.i 0).toNat (.cells (qU (fun i=>([a.i 1,a.i 3,a.i 5,a.i 7,a.i 9,a.i 11].getD i 0).toNat) (fun _=>.slice none 0 0) 0).toArray 163 (0,0)):=by
   rw[c1,c2,c3,D,E,c6];rfl
  rw[<-this];rfl
 have c:∀ (p q:Nat) A B,p≠q->(mem.map (Res.hl a))[p]?=some A->(mem.map (Res.hl a))[q]?=some B->A.dis B:=by
  intro p q A B y F hb;rw[MU]at F hb;obtain⟨r,hr,rfl⟩:=MN.1 F;obtain⟨s,hs,rfl⟩:=MN.1 hb;exact m p q r s y hr hs (n r (MG hr))
 rw[hl]at c;have hK:∀ i,i<6->([Hl.one (a.i 0).toNat (.cells (qU (fun i=>([a.i 1,a.i 3,a.i 5,a.i 7,a.i 9,a.i 11].getD i 0).toNat) (fun _=>.slice none 0 0) 0).toArray 163 (0,0)),a.h 1,a.h 3,a.h 5,a.h 7,a.h 9,a.h 11])[i+1]?=some ([a.h 1,a.h 3,a.h 5,a.h 7,a.h 9,a.h 11].getD i Hl.none):=fun i hi=>by
  have:i=0\/i=1\/i=2\/i=3\/i=4\/i=5:=ae;rcases this with rfl | rfl | rfl | rfl | rfl | rfl<;>rfl
 have S:uni a mem [0,1,2,3,4,5,6]=hls (mem.map (Res.hl a)):=by rw[<-hm];rfl
 refine⟨[],[0,1,2,3,4,5,6],rfl,by rw[<-hm];rfl,⟨(ay fun k=>if k=0 then a.i 0 else 0),rfl,⟨by show -1<=a.i 0;omega,MT 0⟩,zzT⟩,(a.i 0).toNat,?_,?_⟩
 .show Value.pointer (slP (a.i 0) 0)=_;rw[slP_pos p0];rfl
 rw[S,hl];refine⟨_,_,fun i=>[a.h 1,a.h 3,a.h 5,a.h 7,a.h 9,a.h 11].getD i Hl.none,Hl.none,Hl.un_left _ _ _ _ (Hl.one_self _ _),fun i hi=>?_,fun i hi=>fq c (hK i hi),fun i j hi T U=>c (i+1) (j+1) _ _ ae (hK i hi) (hK j T),fun i hi=>Hl.one_dis.1 (c 0 (i+1) _ _ ae rfl (hK i hi)),fun i hi=>⟨[],⟨rfl,Or.inl ⟨rfl,rfl⟩⟩,fun j u p h=>by simp at h⟩,(fun _ _ h=>by cases h),(fun h=>by cases h),(fun i hi b ⟨h,_⟩=>by cases h),(fun i b _ h=>by cases h)⟩;have:i=0\/i=1\/i=2\/i=3\/i=4\/i=5:=ae;rcases this with rfl | rfl | rfl | rfl | rfl | rfl
 .exact d1
 .exact d2
 .exact d3
 .exact d4
 .exact d5
 .exact d6
def Mj (h:rowOK row oK):row=row.take 125++[row.getD 125 cC]:=by
 have hl:=fg h;rw[fK]at hl;apply Ni;intro k;rcases ND k 125 with hk | hk
 .rw[M5 (by rw[M3];omega),NB,M0 hk]
 .rw[MX (by rw[M3];omega),M3,hl];rcases ND k 126 with aI | aI
  .have:k=125:=ae;subst this;show _=some (row.getD 125 cC);rw[MR,ME ae];rfl
  .rw[MS ae,MS (by simp;omega)]
def ug {a:Int} (hs:List (Nat×Hl)) (h:rowOK row oK):∃ q:Env,q.i 0=a/\row=(ckCVs 1 bC).map (CV.ev q)/\(∀ k,q.h k=oI hs k)/\ckNormsW 1 bC q:=by
 obtain⟨q,g,hn,e⟩:=row_rep bC 1 row (ay fun _=>a) h;exact⟨⟨q.i,q.b,q.s,q.v,oI hs⟩,g.i 0,by rw[<-BV (oI hs)];exact e.symm,fun _=>rfl,Co _ _ _ hn⟩
set_option maxRecDepth 20000 in
def At (n:Nat):ckCVs n bC=ckCVs n aI++[.sl (.var (n+128)) (.var (n+128+1)) (.var (n+128+2)) (.var (n+128+3))]:=by
 have:∀ (a b:List Ck) (n:Nat),ckCVs n (a++b)=ckCVs n a++ckCVs (n+ckLen a) b:=by
  intro a
  induction a with
  | nil=>intro b n;simp [ckCVs,ckLen]
  | cons k a ih=>intro b n;rw[OD,ckCVs,ckCVs,ih,OD];simp [ckLen,Ow]
 rw[bC,this];rfl
set_option maxRecDepth 20000 in
def kg (q:Env) (n:Nat):((ckCVs n bC).map (CV.ev q)).take 125=(ckCVs n aI).map (CV.ev q):=by
 rw[At,M9];exact OZ (by rw[M7];rfl)
set_option maxRecDepth 20000 in
def wb (q:Env) (n:Nat):((ckCVs n bC).map (CV.ev q)).getD 125 cC=.slice (slP (q.i (n+128)) (q.i (n+128+1))) (q.i (n+128+2)).toNat (q.i (n+128+3)).toNat:=by
 have hl:((ckCVs n aI).map (CV.ev q)).length=125:=by rw[M7];rfl
 rw[At,M9,MR,MX ae,hl];rfl
def uU {R:Hl} (hx:aG R row h) (bs:List Int):dc row bs=dc h.c bs:=by
 unfold dc;rw[hx.I (k:=92) aj];have:aw h.c 60 32=aw row 60 32:=by
  unfold aw;refine NL fun j a=>hx.I ?_;have:=Nn.1 a;omega
 rw[this]
open Classical in
noncomputable def bq (st:Nat->List Pc) (p:Pc):Int :=
 if ¬p.h.Form then 1
 else if fT (cI p.h.c 0) (lC st (cI p.h.c 0-1).toNat) p.h≠0 then fT (cI p.h.c 0) (lC st (cI p.h.c 0-1).toNat) p.h
 else if dc p.h.c p.b=false then 2 else if 400<=bL st then 4 else 0
def D8.LD {R:Hl} {x:Nat} {st:Nat->List Pc} {a a':Nat->Nat} {sv c:Nat->Value} (h:D8 R x st a sv) (h':D8 R x st' a' c) (hi:i<6):st i=st' i:=by
 obtain⟨e1,f,_⟩:=h.cells hi;obtain⟨f1,f2,_⟩:=h'.cells hi;rw[e1]at f1;rw[f]at f2;simp only[MP,Value.pointer.injEq,Addr.mk.injEq,MZ]at f1 f2;have c1:=h.ch i hi;have c2:=h'.ch i hi;rw[f1]at c1;have g:=(c1.uniq c2).2;obtain⟨us,o1,b1⟩:=h.row i hi;obtain⟨vs,o2,b2⟩:=h'.row i hi;rw[f2]at o1;obtain⟨el,k⟩:=o1.inj o2;subst k;apply Oq el;intro j h1 h2;have d:j<us.length:=by have:=o1.1;omega
 have hu:us[j]?=some us[j]:=ME d;have p1:=b1 j _ _ hu (ME h1);have p2:=b2 j _ _ hu (ME h2);have e:=p1.uniq p2;have b:(st i)[j].h=(st' i)[j].h:=by
  have:=Ns (fun l=>l[j]?) g;simpa [lC,MU,h1,h2] using this
 generalize (st i)[j]=x at *;generalize (st' i)[j]=y at *;cases x;cases y;simp only at e b;rw[e,b]
def fa.st {R:Hl} {x:Nat} {st:Nat->List Pc} (h:fa R x st) (h':fa R x st') (hi:i<6):st i=st' i:=by
 obtain⟨a,sv,h⟩:=h;obtain⟨a',b,h'⟩:=h';exact h.LD h' hi
def tz {st:Nat->List Pc} (h:∀ i,i<6->st i=st' i):bL st=bL st':=by
 unfold bL;rw[h 0 ae,h 1 ae,h 2 ae,h 3 ae,h 4 ae,h 5 ae]
def tG (a:h.Form):1<=cI h.c 0/\cI h.c 0<=6:=a.1.1
def jR {st:Nat->List Pc} (h:∀ i,i<6->st i=st' i) (p:Pc):bq st p=bq st' p:=by
 unfold bq;rw[tz h];by_cases a:p.h.Form
 .have:=tG a;unfold lC;rw[h (cI p.h.c 0-1).toNat ae]
 .rw[M0 a,M0 a]
def mi:Sx.Spec where
 fn:=39
 own:=[]
 rd:=[0]
 res:=[.one (.int .i64)]
 pre:=fun xs Hs Rs=>∃ x R st,xs=[.pointer (some ⟨x,0,none⟩)]/\Rs=[R]/\fa R x st
 post:=fun xs Hs Rs v Hs' F=>∀ x R st,xs=[.pointer (some ⟨x,0,none⟩)]->Rs=[R]->fa R x st->v=.int .i64 (bL st)
def vA:Walk Tryz.prog [] mi.fn where
 Λ:=noLoops
 args:=[TP (.var 0) (.lit 0)]
 mem:=[.ro 1 [.var 0] true]
 nv:=2
def tK:mi.OK Tryz.prog:=by
 refine Spec.of_fn (Γ:=[]) (fun _ h=>by cases h) ?_;rintro xs Hs Rs d e ⟨x,R,st,rfl,rfl,hI⟩;have e0:Hs=[]:=MF.1 d;subst e0;refine⟨vA,envI [x] false [Hl.none,R],fun _ _=>True,fun _ _=>0,?_,bM (by intro r hr;simp [vA]at hr;subst hr;exact⟨_,_,_,rfl⟩) rfl,(fun _ h=>nomatch h),?_⟩
 .show [Value.pointer (slP (x:Int) 0)]=_;rw[slP_pos ae];rfl
 .refine Walk.read [] [] [] ?_;generalize c:envI [(x:Int)] false [Hl.none,R]=J;have v0:J.i 0=x:=by rw[<-c];rfl
  have w1:J.h 1=R:=by rw[<-c];rfl
  simp only[go_sem,Nat.reduceAdd];rw[v0,w1];obtain⟨a,sv,f⟩:=id hI;obtain⟨_,_,b⟩:=f.cells (i:=0) ae;have b:R.cell ((x:Int)).toNat (Int.toNat 12)=some (.int .i64 (bL st)):=by rw[MD];exact b
  rw[b];refine⟨ae,rfl,jO rfl (z:=bL st) ?_ fun F x' R' st' h1 h2 h'=>?_⟩
  .show valI ((J.h 1).cell (J.i 0).toNat (Int.toNat 12+0))=_;rw[v0,w1,NH,b];rfl
  .simp only[MH,MZ,Value.pointer.injEq,MP,Addr.mk.injEq]at h1 h2;subst h1 h2;rw[tz fun i hi=>hI.st h' hi]
def qc (st:Nat->List Pc):List Value:=[.int .u64 (st 0).length,.int .u64 (st 1).length,.int .u64 (st 2).length,.int .u64 (st 3).length,.int .u64 (st 4).length,.int .u64 (st 5).length]
def gN (st:Nat->List Pc):Prop:=∀ i,i<6->(st i).length<1000000
def mj:Sx.Spec where
 fn:=70
 own:=[]
 rd:=[0]
 res:=[.agg (List.replicate 6 (Ck.int .u64))]
 pre:=fun xs Hs Rs=>∃ x R st,xs=[.pointer (some ⟨x,0,none⟩)]/\Rs=[R]/\fa R x st/\gN st
 post:=fun xs Hs Rs v Hs' F=>∀ x R st,xs=[.pointer (some ⟨x,0,none⟩)]->Rs=[R]->fa R x st->gN st->v=.agg (qc st).toArray
def Jn:List Sx.Spec:=[lB]
def vB:Walk Tryz.prog Jn mj.fn where
 Λ:=noLoops
 args:=[TP (.var 0) (.lit 0)]
 mem:=[.ro 1 [.var 0] true]
 nv:=2
def tL:mj.OK Tryz.prog:=by
 refine Spec.of_fn (Γ:=Jn) (fun t B=>by rw[Jn,MO]at B;subst B;exact m9) ?_;rintro xs Hs Rs v K ⟨x,R,st,rfl,rfl,hI,hS⟩;have e0:Hs=[]:=MF.1 v;subst e0;refine⟨vB,envI [x] false [Hl.none,R],fun _ _=>True,fun _ _=>0,?_,bM (by intro r hr;simp [vB]at hr;subst hr;exact⟨_,_,_,rfl⟩) rfl,(fun _ h=>nomatch h),?_⟩
 .show [Value.pointer (slP (x:Int) 0)]=_;rw[slP_pos ae];rfl
 .refine Walk.read [] [] [] ?_;generalize d:envI [(x:Int)] false [Hl.none,R]=J;have v0:J.i 0=x:=by rw[<-d];rfl
  have w1:J.h 1=R:=by rw[<-d];rfl
  clear d;obtain⟨a,sv,b⟩:=id hI;have L:∀ q:Env,Agree 2 J q->∀ i,i<6->(q.h 1).cell (q.i 0).toNat (Int.toNat 0+i)=some (.pointer (some ⟨a i,0,none⟩))/\q.h 1=R:=fun q g i hi=>by
   rw[g.i 0,g.h 1,v0,w1,MD];refine⟨?_,rfl⟩;have:=(b.cells hi).1;rw[show Int.toNat 0+i=i from Nw i];exact this
  simp only[go_sem,Nat.reduceAdd,Jn,EL];have hp:∀ q:Env,Agree 2 J q->∀ i,i<6->Value.pointer (slP (valP ((q.h 1).cell (q.i 0).toNat (Int.toNat 0+i)) 0) (valP ((q.h 1).cell (q.i 0).toNat (Int.toNat 0+i)) 1))=.pointer (some ⟨a i,0,none⟩)/\q.h 1=R/\valIs ((q.h 1).cell (q.i 0).toNat (Int.toNat 0+i)) .ptr=true:=fun q g i hi=>by
   obtain⟨e1,u⟩:=L q g i hi;rw[e1];exact⟨cl,u,rfl⟩
  have hl:∀ i,i<6->(lC st i).length<1000000:=fun i hi=>by unfold lC;rw[M7];exact hS i hi
  intro S g0 _ q1 M _;have c:Agree 2 J q1:=g0.tr M;obtain⟨f1,f2,f3⟩:=hp q1 c 0 ae;refine⟨by rw[c.i 0,v0];omega,f3,(hp q1 c 1 ae).2.2,(hp q1 c 2 ae).2.2,(hp q1 c 3 ae).2.2,(hp q1 c 4 ae).2.2,(hp q1 c 5 ae).2.2,?_⟩;have f1:Value.pointer (slP (valP ((q1.h 1).cell (q1.i 0).toNat (Int.toNat 0)) 0) (valP ((q1.h 1).cell (q1.i 0).toNat (Int.toNat 0)) 1))=.pointer (some ⟨a 0,0,none⟩):=f1;rw[f1,f2];refine⟨⟨_,R,_,_,rfl,rfl,b.ch 0 ae⟩,fun q2 N ⟨T,h2,_⟩=>?_⟩;have h2:=dJ (b.ch 0 ae) (hl 0 ae) h2;have w:Agree 2 J q2:=c.tr N;rw[(hp q2 w 1 ae).1,(hp q2 w 1 ae).2.1];refine⟨⟨_,R,_,_,rfl,rfl,b.ch 1 ae⟩,fun e g3 ⟨U,f,_⟩=>?_⟩;have f:=dJ (b.ch 1 ae) (hl 1 ae) f;have y:Agree 2 J e:=w.tr g3;rw[(hp e y 2 ae).1,(hp e y 2 ae).2.1];refine⟨⟨_,R,_,_,rfl,rfl,b.ch 2 ae⟩,fun j g4 ⟨V,l,_⟩=>?_⟩;have l:=dJ (b.ch 2 ae) (hl 2 ae) l;have z:Agree 2 J j:=y.tr g4;rw[(hp j z 3 ae).1,(hp j z 3 ae).2.1];refine⟨⟨_,R,_,_,rfl,rfl,b.ch 3 ae⟩,fun m C ⟨W,n,_⟩=>?_⟩;have n:=dJ (b.ch 3 ae) (hl 3 ae) n;have A:Agree 2 J m:=z.tr C;rw[(hp m A 4 ae).1,(hp m A 4 ae).2.1];refine⟨⟨_,R,_,_,rfl,rfl,b.ch 4 ae⟩,fun o D ⟨X,p,_⟩=>?_⟩;have p:=dJ (b.ch 4 ae) (hl 4 ae) p;have E:Agree 2 J o:=A.tr D;rw[(hp o E 5 ae).1,(hp o E 5 ae).2.1];refine⟨⟨_,R,_,_,rfl,rfl,b.ch 5 ae⟩,fun q7 O ⟨Y,s,_⟩=>?_⟩;have s:=dJ (b.ch 5 ae) (hl 5 ae) s;intro _;refine⟨[],[],rfl,rfl,⟨(ay fun k=>q7.i (k+4)),rfl,⟨zzT,zzT,zzT,zzT,zzT,zzT,zzT⟩,zzT⟩,fun x' R' st' e1 u h' P=>?_⟩;simp only[MH,MZ,Value.pointer.injEq,MP,Addr.mk.injEq]at e1 u;subst e1 u;have es:∀ i,i<6->((lC st i).length:Int)=(st' i).length:=fun i hi=>by unfold lC;rw[M7,hI.st h' hi]
  show Value.agg #[.int .u64 (q7.i 4),.int .u64 (q7.i 5),.int .u64 (q7.i 6),.int .u64 (q7.i 7),.int .u64 (q7.i 8),.int .u64 (q7.i 9)]=_;have F:Agree 9 o q7:=O;have G:Agree 8 m q7:=D.tr F;have H:Agree 7 j q7:=C.tr G;have I:Agree 6 e q7:=g4.tr H;have Q:Agree 5 q2 q7:=g3.tr I;rw[Q.i 4,I.i 5,H.i 6,G.i 7,F.i 8];have h2:q2.i 4=_:=h2;have f:e.i 5=_:=f;have l:j.i 6=_:=l;have n:m.i 7=_:=n;have p:o.i 8=_:=p;have s:q7.i 9=_:=s;rw[h2,f,l,n,p,s,es 0 ae,es 1 ae,es 2 ae,es 3 ae,es 4 ae,es 5 ae];rfl
noncomputable def ng:Sx.Spec where
 fn:=111
 own:=[]
 rd:=[0,1001053,1001125,2000002]
 res:=[.one (.int .i64)]
 pre:=fun xs Hs Rs=>∃ x R st row T B RG p,xs=[.pointer (some ⟨x,0,none⟩),.agg row.toArray]/\Rs=[R,T,B,RG]/\fa R x st/\gN st/\aV T B row p/\p.b.length<=900000/\yE RG 2
 post:=fun xs Hs Rs v Hs' F=>∀ x R st row T B RG p,xs=[.pointer (some ⟨x,0,none⟩),.agg row.toArray]->Rs=[R,T,B,RG]->fa R x st->aV T B row p->v=.int .i64 (bq st p)
noncomputable def Jo:List Sx.Spec:=[bR 91,mN,qP]
def Fb:∀ t∈Jo,t.OK Tryz.prog:=ai dt <| ai rm <| ai yw <| aD
def Kz:mN.res=[.one (.int .i64)]:=rfl
def KA:qP.res=[.one .bool]:=rfl
noncomputable def DE:Walk Tryz.prog Jo ng.fn where
 Λ:=noLoops
 args:=TP (.var 0) (.lit 0)::(cpSVs 1 [.agg ti]).map .sv
 mem:=[.ro 133 [.var 0] true,.ro 134 [.var 54] false,.ro 135 [.var 129] false,.ro 136 [.lit 2] false]
 nv:=137
open Classical in
set_option maxRecDepth 20000 in
def rJ:ng.OK Tryz.prog:=by
 refine Spec.of_fn (Γ:=Jo) Fb ?_;rintro xs Hs Rs C aa ⟨x,R,st,row,T,B,RG,p,rfl,rfl,hI,hS,hx,hlen,t⟩;have e0:Hs=[]:=MF.1 C;subst e0;obtain⟨J,W,rfl,hh,ab⟩:=ug (a:=(x:Int)) [(133,R),(134,T),(135,B),(136,RG)] hx.ok;have w1:J.h 133=R:=hh 133;have w2:J.h 134=T:=hh 134;have X:J.h 135=B:=hh 135;have Y:J.h 136=RG:=hh 136;refine⟨DE,J,fun _ _=>True,fun _ _=>0,?_,bM (by intro r hr;simp [DE]at hr;rcases hr with rfl | rfl | rfl | rfl<;>exact⟨_,_,_,rfl⟩) (by show [J.h 133,J.h 134,J.h 135,J.h 136]=_;rw[w1,w2,X,Y]),(fun _ h=>nomatch h),?_⟩
 .show [Value.pointer (slP (J.i 0) 0),.agg ((ckCVs 1 bC).map (CV.ev J)).toArray]=_;rw[W,slP_pos ae];rfl
 refine Walk.read [aI,ti] [] [] ?_;simp only[go_sem,Nat.reduceAdd,Jo,Hm,Kz,KA];generalize d:(ckCVs 1 bC).map (CV.ev J)=row at *;have u:(ckCVs 1 aI).map (CV.ev J)=row.take 125:=by rw[<-d,kg]
 have V:∀ q:Env,Agree 137 J q->q.i 0=x/\q.h 133=R/\q.h 134=T/\q.h 135=B/\q.h 136=RG/\(ckCVs 1 aI).map (CV.ev q)=row.take 125/\(ckCVs 1 ti).map (CV.ev q)=row/\q.i 1=J.i 1:=fun q g=>by
  refine⟨by rw[g.i 0,W],by rw[g.h 133,w1],by rw[g.h 134,w2],by rw[g.h 135,X],by rw[g.h 136,Y],?_,?_,g.i 1⟩
  .rw[<-u];exact Ns Array.toList (Value.agg.inj (ev_ag (ks:=aI) (n:=1) g aj))
  .rw[<-d];exact Ns Array.toList (Value.agg.inj (ev_ag (ks:=bC) (n:=1) g aj))
 obtain⟨a,sv,D⟩:=id hI;have f:row=row.take 125++[row.getD 125 cC]:=Mj hx.ok;have hd:=hx.hd;have v:cI p.h.c 0=J.i 1:=by
  have e1:cI p.h.c 0=cI (row.take 125) 0:=hd.I aj;rw[e1,<-u];rfl
 have out:∀ {q:Env} {mem:Mem} {e:E},iev q e=bq st p->postOf ng [.pointer (some ⟨x,0,none⟩),.agg row.toArray] [] [R,T,B,RG] q mem (.sv (.one (.int .i64 e))):=fun {q mem e} he =>
  jO rfl he fun F x' R' st' row' T' B' ad p' e1 Z h' G=>by
   simp only[MH,MZ,Value.pointer.injEq,MP,Addr.mk.injEq,Value.agg.injEq]at e1 Z;obtain⟨rfl,e1⟩:=e1;obtain⟨rfl,rfl,rfl,rfl⟩:=Z;have e1:=M4 e1;subst e1;obtain rfl:=hx.uniq G;rw[jR (fun i hi=>hI.st h' hi) p]
 intro q1 g1 p1;obtain⟨v0,x1,x2,x3,x4,xr,af,_⟩:=V q1 g1;rw[xr,x2];refine⟨⟨_,T,p.h,rfl,rfl,hd⟩,fun q2 g2 ⟨F2,H,_⟩=>?_⟩;have G2:Agree 137 J q2:=g1.tr g2;have w:q2.b 138=decide p.h.Form:=Value.bool.inj (hZ hd H);obtain⟨y0,y1,y2,y3,y4,yr,ag,y5⟩:=V q2 G2;refine⟨fun hb=>out ?_,fun hb=>?_⟩
 .have A:¬p.h.Form:=by rw[w]at hb;simpa using hb
  unfold bq;rw[M0 A];rfl
 have A:p.h.Form:=by rw[w]at hb;simpa using hb
 have k:¬¬p.h.Form:=fun g=>g A;have hw:=tG A;have K:IntKind.i64.wrap (J.i 1-1)=((cI p.h.c 0-1).toNat:Nat):=by rw[v,IntKind.wrap_i64];rw[v]at hw;omega
 generalize hi:(cI p.h.c 0-1).toNat=i at *;have l:i<6:=ae;have L:cI p.h.c 0=((i+1:Nat):Int):=ae;obtain⟨c1,c2,c3⟩:=D.cells l;have M:R.cell ((x:Int)).toNat (Int.toNat ((i:Nat):Int))=some (.pointer (some ⟨a i,0,none⟩)):=by rw[MD,MD];exact c1
 have N:R.cell ((x:Int)).toNat (Int.toNat 12)=some (.int .i64 (bL st)):=by rw[MD];exact c3
 have m:(lC st i).length<1000000:=by unfold lC;rw[M7];exact hS i l
 rw[y0,y1,y2,y5,yr,K,M,cl];refine⟨ae,ae,ae,rfl,⟨a i,R,_,_,_,T,p.h,rfl,rfl,D.ch i l,m,hd⟩,fun O g3 ⟨F3,⟨a',R',w',hs',row',T',h',f1,f2,d2,i2,hv⟩,_⟩=>?_⟩;simp only[MH,MZ,Value.pointer.injEq,MP,Addr.mk.injEq,Value.agg.injEq]at f1 f2;obtain⟨rfl,f1⟩:=f1;obtain⟨rfl,rfl⟩:=f2;have f1:=M4 f1;subst f1;obtain⟨rfl,rfl⟩:=(D.ch i l).uniq d2;obtain rfl:=hd.uniq i2;have j:O.i 139=fT (cI p.h.c 0) (lC st i) p.h:=by rw[L];simpa using hv
 have G3:Agree 137 J O:=G2.tr g3;obtain⟨z0,z1,z2,z3,z4,zr,P,z5⟩:=V O G3;refine⟨fun Q=>out ?_,fun heq=>?_⟩
 .unfold bq;rw[MM k,hi,M0 (by rw[<-j];exact Q)];exact j
 have h0:¬fT (cI p.h.c 0) (lC st i) p.h≠0:=fun g=>g (j.symm.trans heq);rw[P,z3,z4];have S:rowOK (row.take 125) cj:=hd.ok;refine⟨⟨row.take 125,row.getD 125 cC,p.b,B,RG,by rw[<-f],rfl,S,hx.body,hx.byte,hlen,t⟩,fun U g4 ⟨F4,o,_⟩=>?_⟩;have o:=o (row.take 125) (row.getD 125 cC) p.b B RG (by rw[<-f]) rfl hx.body;have y:U.b 140=dc p.h.c p.b:=by rw[<-uU hd];exact Value.bool.inj o
 have G4:Agree 137 J U:=G3.tr g4;obtain⟨u0,u1,_⟩:=V U G4;refine⟨fun hb=>out ?_,fun hb=>?_⟩
 .unfold bq;rw[MM k,hi,MM h0,M0 (by rw[<-y];simpa using hb)];rfl
 have z:¬dc p.h.c p.b=false:=by rw[<-y,hb];decide
 rw[u0,u1,N];refine⟨rfl,fun s=>out ?_,fun s=>out ?_⟩
 .have s:400<=bL st:=s;unfold bq;rw[MM k,hi,MM h0,MM z,M0 s];rfl
 .have s:¬400<=bL st:=s;unfold bq;rw[MM k,hi,MM h0,MM z,MM s];rfl
open Classical in
noncomputable def fu (st:Nat->List Pc) (p:Pc):Nat->List Pc:=if bq st p=0 then upd st (cI p.h.c 0-1).toNat (st (cI p.h.c 0-1).toNat++[p])else st
noncomputable def vH:Sx.Spec where
 fn:=78
 own:=[.arg 0]
 rd:=[1001053,1001125,2000002]
 res:=[.one (.int .i64)]
 pre:=fun xs Hs Rs=>∃ x H st row T B RG p,xs=[.pointer (some ⟨x,0,none⟩),.agg row.toArray]/\Hs=[H]/\Rs=[T,B,RG]/\jD H x st/\gN st/\aV T B row p/\p.b.length<=900000/\yE RG 2
 post:=fun xs Hs Rs v Hs' F=>∃ x H st row T B RG p H',xs=[.pointer (some ⟨x,0,none⟩),.agg row.toArray]/\Hs=[H]/\Rs=[T,B,RG]/\jD H x st/\aV T B row p/\Hs'=[H']/\v=.int .i64 (bq st p)/\jD H' x (fu st p)
def zP:Nd:=(fun a g o m p k l=>(fun f c d h i=>(fun n=>(fun b j=>(.ext (.alloc 137) (.and (.pre d) (.ext d (.and (.imp (.not (.eq (.var 138) k)) (.post [.hp 133 [] o [],.ro 134 m false,.ro 135 l true,.ro 136 p false,.dead] (.sv (.one (.int .i64 (.var 138)))))) (.imp (.eq (.var 138) k) (.and (.e (.le k g)) (.and (.e (.le k a)) (.and (.e (.lt a (.lit 6))) (.and (.e (.his 133 g a 0 .ptr)) (.and (.pre c) (.ext c (.and (.imp (.not (.eq (.var 139) k)) (.post [.hp 139 [133] o [],.ro 134 m false,.ro 135 l true,.ro 136 p false,.dead] (.sv (.one (.int .i64 (.var 139)))))) (.imp (.eq (.var 139) k) (.and (.e (.his 139 g f 0 .slice)) (.and (.pre h) (.ext h (.ext (.alloc 145) (.and (.pre b) (.ext b (.and (.pre j) (.ext j (.and (.e (.his 148 g (.lit 12) 0 (.int .i64))) (.and (.pre i) (.ext i (.post [.hp 149 [148,146,139,133] [.var 146,.var 0] [],.ro 134 m false,.ro 135 l true,.ro 136 p false,.dead,.hp 141 [] [.var 141] [],.dead] (.sv (.one (.int .i64 k))))))))))))))))))))))))))):Nd)) (.app 146 22 1 24 (.sl (.hP 139 g f 0 0) (.hP 139 g f 0 1) n (.hP 139 g f 0 3)) n (.hp 139 [133] o []) (.cvs [.sl (.var 141) (.var 142) (.var 143) (.var 144)] 1)) (.put 148 146 g f [.sl (.var 146) k (.add n (.lit 1)) (.var 147)])) (.hP 139 g f 0 2)) (.add (.lit 6) a) (.call 1 139 [.sv (.one (.hptr (.hP 133 g a 0 0) (.hP 133 g a 0 1))),.sv (.agg (ckCVs 1 aI))] [.hp 133 [] o []] [.ro 134 m false,.ro 136 p false]) (.call 0 138 [.sv (.one (.hptr g k)),.sv (.agg (ckCVs 1 ti))] [] [.hp 133 [] o [],.ro 134 m false,.ro 135 l true,.ro 136 p false]) (.call 2 141 [.sv (.one (.sl (.var 129) (.var 130) (.var 131) (.var 132)))] [] [.ro 135 l true]) (.put 149 148 g (.lit 12) [.int .i64 (.wrap .i64 (.add (.hI 148 g (.lit 12) 0) (.lit 1)))])) (.wrap .i64 (.sub (.var 1) (.lit 1))) (.var 0) [.var 0] [.var 54] [.lit 2] (.lit 0) [.var 129]
noncomputable def Gz (K R:Hl):List Sx.Spec:=[ng,qa ri K R,bK]
def Ff (K R:Hl):∀ t∈Gz K R,t.OK Tryz.prog:=ai rJ <| ai (xp rfl yZ K R) <| ai fi <| aD
def KD (K R:Hl):(Gz K R)[0]?=some ng:=rfl
def KE (K R:Hl):(Gz K R)[1]?=some (qa ri K R):=rfl
def KF (K R:Hl):(Gz K R)[2]?=some bK:=rfl
def HW:ng.res=[.one (.int .i64)]:=rfl
def KG (K R:Hl):(qa ri K R).res=[.one (.int .i64)]:=rfl
def HX:bK.res=[.one .sl]:=rfl
def tO {st:Nat->List Pc} {p:Pc} (h:bq st p=0):p.h.Form/\fT (cI p.h.c 0) (lC st (cI p.h.c 0-1).toNat) p.h=0/\dc p.h.c p.b=true/\bL st<400:=by
 unfold bq at h;split at h
 .cases h
 .rename_i a;split at h
  .rename_i hn;exact absurd h hn
  .rename_i d;split at h
   .cases h
   .rename_i hw;split at h
    .cases h
    .rename_i e;exact⟨Classical.not_not.1 a,Classical.not_not.1 d,by simpa using hw,ae⟩
noncomputable def rP (K R:Hl):Walk Tryz.prog (Gz K R) vH.fn where
 Λ:=noLoops
 args:=TP (.var 0) (.lit 0)::(cpSVs 1 [.agg ti]).map .sv
 mem:=[.hp 133 [] [.var 0] [],.ro 134 [.var 54] false,.ro 135 [.var 129] true,.ro 136 [.lit 2] false]
 nv:=137
set_option maxRecDepth 20000 in
def zQ:vH.OK Tryz.prog:=by
 refine Spec.Cs fun xs Hs Rs ⟨x,H,st,row,T,B,RG,p,ex,eH,eR,hI,hS,hx,hlen,z⟩=>?_;obtain⟨a,sv,Kc,KB,m⟩:=id hI;generalize hi:(cI p.h.c 0-1).toNat=i;refine Spec.of_fn (Γ:=Gz (Kc i) (H.minus (Kc i))) (Ff _ _) ?_;rintro aA Hs' aB aC aD ⟨e1,e2,e3⟩;subst e1 e2 e3 ex eH eR;obtain⟨J,va,rfl,hh,Q⟩:=ug (a:=(x:Int)) [(133,H),(134,T),(135,B),(136,RG)] hx.ok;have w1:J.h 133=H:=hh 133;have w2:J.h 134=T:=hh 134;have w3:J.h 135=B:=hh 135;have w4:J.h 136=RG:=hh 136;refine⟨rP _ _,J,fun _ _=>True,fun _ _=>0,?_,⟨?_,?_,?_,?_⟩,(fun _ h=>nomatch h),?_⟩
 .show [Value.pointer (slP (J.i 0) 0),.agg ((ckCVs 1 bC).map (CV.ev J)).toArray]=_;rw[va,slP_pos ae];rfl
 .intro r hr ho;simp [rP]at hr;rcases hr with rfl | rfl | rfl | rfl
  .exact⟨H,ar,by show(J.h 133).le H;rw[w1];exact Hl.le_refl _⟩
  all_goals cases ho
 .intro r hr ho;simp [rP]at hr;rcases hr with rfl | rfl | rfl | rfl
  .cases ho
  .exact⟨T,ar,by show(J.h 134).le T;rw[w2];exact Hl.le_refl _⟩
  .exact⟨B,ar,by show(J.h 135).le B;rw[w3];exact Hl.le_refl _⟩
  .exact⟨RG,ar,by show(J.h 136).le RG;rw[w4];exact Hl.le_refl _⟩
 .simp [rP,Res.own]
 .intro r hr;simp [rP]at hr;rcases hr with rfl | rfl | rfl | rfl<;>trivial
 refine Walk.lit (x:=zP) ?_;unfold zP;simp only[Nd.holds,X.pre,X.rel,X.n,Src.ok,Src.len,Src.vals,Nz,MZ,OA,Pf,NH,Nat.reduceAdd,Nk,N0,bT_tt,bT_ff,bT_bvar,bT_not,bT_and,bT_or,bT_ite,bT_lt,bT_le,bT_eq,bT_beq,bT_seq,bT_hB,bT_his,bT_hby,bT_hism,bT_hks,iev_lit,iev_var,iev_add,iev_sub,iev_mul,iev_wrap,iev_ite,iev_hI,iev_hP,iev_hmlen,sev_ite,sev_slit,sev_sof,sev_svar,TV.ev,SV.ev,CV.ev,M6,NN,Res.hl,cpTV,Cp.sv,Ck.cv,cpSVs,Cp.len,Ck.len,newHs_zero,newHs_one,roots_ne,KD,KE,KF,HW,KG,HX,BB];generalize f:(ckCVs 1 bC).map (CV.ev J)=row at *;have R:(ckCVs 1 aI).map (CV.ev J)=row.take 125:=by rw[<-f,kg]
 have ab:Value.slice (slP (J.i 129) (J.i 130)) (J.i 131).toNat (J.i 132).toNat=row.getD 125 cC:=by rw[<-f,wb]
 have V:∀ q:Env,Agree 137 J q->q.i 0=x/\q.h 133=H/\q.h 134=T/\q.h 135=B/\q.h 136=RG/\(ckCVs 1 aI).map (CV.ev q)=row.take 125/\(ckCVs 1 ti).map (CV.ev q)=row/\q.i 1=J.i 1/\Value.slice (slP (q.i 129) (q.i 130)) (q.i 131).toNat (q.i 132).toNat=row.getD 125 cC:=fun q g=>by
  refine⟨by rw[g.i 0,va],by rw[g.h 133,w1],by rw[g.h 134,w2],by rw[g.h 135,w3],by rw[g.h 136,w4],?_,?_,g.i 1,?_⟩
  .rw[<-R];exact Ns Array.toList (Value.agg.inj (ev_ag (ks:=aI) (n:=1) g aj))
  .rw[<-f];exact Ns Array.toList (Value.agg.inj (ev_ag (ks:=bC) (n:=1) g aj))
  .rw[g.i 129,g.i 130,g.i 131,g.i 132];exact ab
 have hd:=hx.hd;have ad:cI p.h.c 0=J.i 1:=by
  have e1:cI p.h.c 0=cI (row.take 125) 0:=hd.I aj;rw[e1,<-R];rfl
 have ep:Value.pointer (slP (x:Int) 0)=.pointer (some ⟨x,0,none⟩):=by rw[slP_pos ae];rfl
 intro q1 g1 p1;obtain⟨v0,x1,x2,x3,x4,xr,af,_,_⟩:=V q1 g1;rw[v0,ep,af,x1,x2,x3,x4];refine⟨⟨x,H,st,_,T,B,RG,p,rfl,rfl,hI.rd,hS,hx,hlen,z⟩,fun q2 g2 ⟨F2,ag,_⟩=>?_⟩;have o:q2.i 138=bq st p:=by simpa using ag _ _ _ _ _ _ _ _ rfl rfl hI.rd hx
 have G2:Agree 137 J q2:=g1.tr g2;obtain⟨y0,y1,y2,y3,y4,yr,aE,y5,_⟩:=V q2 G2;refine⟨fun D _=>?_,fun heq=>?_⟩
 .refine⟨[[0]],[],rfl,rfl,⟨(ay fun _=>q2.i 138),rfl,zzT,zzT⟩,x,H,st,_,T,B,RG,p,_,rfl,rfl,rfl,hI,hx,rfl,by rw[<-o];rfl,?_⟩;unfold fu;rw[MM (by rw[<-o];exact D)];show jD (hls [q2.h 133]) _ _;rw[hls_one,y1];exact hI
 obtain⟨hF,ha0,_,az⟩:=tO (o.symm.trans heq);have hw:=tG hF;rw[hi]at ha0;have E:IntKind.i64.wrap (J.i 1-1)=((i:Nat):Int):=by rw[IntKind.wrap_i64];rw[ad]at hw hi;omega
 have d:i<6:=ae;have ah:cI p.h.c 0=((i+1:Nat):Int):=ae;rw[ah]at ha0;have F:=m.nox i d;obtain⟨c1,c2,c3⟩:=(show D8 H x st a sv from ⟨m.blk,fun j hj=>⟨Kc j,m.le j hj,m.ch j hj⟩,fun j hj=>by
  obtain⟨us,h1,h2⟩:=m.row j hj;exact⟨us,h1,fun k u q hu hq=>cD (h2 k u q hu hq) m.kb⟩⟩).cells d
 have ai:H.cell ((x:Int)).toNat (Int.toNat ((i:Nat):Int))=some (.pointer (some ⟨a i,0,none⟩)):=by rw[MD,MD];exact c1
 have G:(lC st i).length<1000000:=by unfold lC;rw[M7];exact hS i d
 rw[y0,y1,y2,y4,y5,yr,E,ai,cl];refine⟨ae,ae,ae,rfl,⟨by rw[Hl.zZ (m.le i d)],Hl.pj _ _,a i,Kc i,_,_,_,T,RG,p.h,rfl,rfl,rfl,m.ch i d,G,hd,z⟩,fun s g3 ⟨F3,⟨K',k1,k2,k3,a',K2,w',hs',row',T',aF,h',aG,f1,f2,f3,d2,i2,f4,hv,hok,aH⟩,_⟩=>?_⟩;simp only[MH,MZ,Value.pointer.injEq,MP,Addr.mk.injEq,Value.agg.injEq]at f1 f2 f3 f4 k1;obtain⟨rfl,f1⟩:=f1;obtain⟨rfl,rfl⟩:=f3;have f1:=M4 f1;subst f1 f2 f4;obtain⟨rfl,rfl⟩:=aR.uniq ⟨Kc i,Hl.le_refl _,m.ch i d⟩ ⟨_,Hl.le_refl _,d2⟩;obtain rfl:=hd.uniq i2;have K:s.i 139=0:=by rw[<-ha0];simpa using hv
 have ak:=hok ha0;have G3:Agree 137 J s:=G2.tr g3;obtain⟨z0,z1,z2,z3,z4,zr,aJ,z5,zb⟩:=V s G3;refine⟨fun D=>absurd K D,fun _=>?_⟩;have lR:(H.minus (Kc i)).le (s.h 139):=by rw[k1];exact Hl.un_right k2
 have xR:(H.minus (Kc i)) x=some (.cells (qU a sv (bL st)).toArray 163 (0,0)):=by
  unfold Hl.minus;have F:¬((Kc i) x).isSome=true:=F;rw[MM F];exact m.blk
 have L:∀ q:Env,q.i 0=x->q.i 1=J.i 1->q.h 139=s.h 139->(q.h 139).cell (q.i 0).toNat (6+IntKind.i64.wrap (q.i 1-1)).toNat=some (sv i):=fun q h1 h2 h3=>by
  rw[h1,h2,h3,E,MD,show(6+((i:Nat):Int)).toNat=6+i by omega];have:=(vJ a sv (bL st) d).2;unfold Hl.cell;rw[lR _ _ xR];simpa using this
 obtain⟨us,ho,aK⟩:=m.row i d;have S:∃ p l c,sv i=Value.slice p l c:=by
  rcases ho.2 with ⟨h,_⟩ | ⟨_,_,_,h,_⟩<;>exact⟨_,_,_,h⟩
 have A:valP (some (sv i)) 2=(st i).length:=by
  rcases ho.2 with ⟨h,hn⟩ | ⟨_,_,_,h,_⟩
  .rw[h,hn];rfl
  .rw[h];rfl
 have al:valIs (some (sv i)) .slice=true:=by obtain⟨_,_,_,e⟩:=S;rw[e];rfl
 rw[L s z0 z5 rfl,zb,z3];refine⟨al,⟨_,p.b,B,rfl,rfl,hx.body,ae⟩,fun q4 g4 ⟨F4,⟨u',bs',R',m1,m2,m3,m4⟩,an,aL⟩ y M p5=>?_⟩;simp only[MH,MZ]at m1 m2;subst m1 m2;obtain rfl:=hx.body.uniq m3;rw[<-an zzT]at m4;have G5:Agree 139 s y:=g4.mono.tr M;have ao:Agree 137 J y:=G3.tr G5;obtain⟨s0,s1,s2,s3,s4,sr,L0,s5,sb⟩:=V y ao;have t:y.h 139=s.h 139:=by rw[M.h 139,g4.h 139]
 rw[L y s0 s5 t,fC S,A,t,k1,MD];have aq:OwnsH (K'.un (H.minus (Kc i))) 22 1 (sv i) (st i).length us:=ho.at fun b hb=>by
  obtain⟨c,U⟩:=ho.type hb;have N:=((m.own i b d hb).2 i d).1;have:(H.minus (Kc i)) b=H b:=by
   unfold Hl.minus;have N:¬((Kc i) b).isSome=true:=N;rw[MM N]
  rw[Hl.un_right k2 b _ (this.trans U),U]
 have aM:=hS i d;refine⟨⟨⟨us,aq⟩,ae,by unfold maxLen;omega,ae⟩,fun v g6 ⟨a1,a2,happ,W,_,Q⟩=>?_⟩;have G6:Agree 139 s v:=G5.tr g6;obtain⟨t0,t1,t2,t3,t4,tr,tr2,t5,tb⟩:=V v (G3.tr G6);have O:v.h 139=s.h 139:=by rw[g6.h 139,t]
 have Y:(v.h 146) x=some (.cells (qU a sv (bL st)).toArray 163 (0,0)):=by
  have e1:=Hl.un_right k2 x _ xR;rw[W x (Hl.mem_of e1) fun e=>?_,e1];obtain⟨c,U⟩:=ho.type e.symm;rw[m.blk]at U;simp at U
 have en:(((st i).length:Int)+1).toNat=(st i).length+1:=ae;have au:(6+((i:Nat):Int)).toNat=6+i:=ae;rw[L v t0 t5 O,A,en,t0,t5,E,au,MD];refine⟨⟨ae,ae,wr_cells Y (by show 6+i+1<=13;omega)⟩,fun q7 g7 p7=>?_⟩;have G7:Agree 139 s q7:=G6.tr g7;obtain⟨r0,_⟩:=V q7 (G3.tr G7);have Z:(q7.h 148) x=some (.cells (qU a (upd sv i (.slice (slP (v.i 146) 0) ((st i).length+1) (v.i 147).toNat)) (bL st)).toArray 163 (0,0)):=by
  rw[p7,Hl.kQ Y];simp only[PA];rw[zU _ _ _ _ d]
 have av:(q7.h 148).cell ((x:Int)).toNat (Int.toNat 12)=some (.int .i64 (bL st)):=by
  rw[MD];unfold Hl.cell;rw[Z];rfl
 rw[r0,av];have aN:0<=bL st:=Ok _;have aw:IntKind.i64.wrap (valI (some (Value.int .i64 (bL st)))+1)=bL st+1:=by
  show IntKind.i64.wrap (bL st+1)=_;rw[IntKind.wrap_i64];omega
 rw[aw,MD];refine⟨rfl,⟨ae,ae,wr_cells Z (by show 12+1<=13;omega)⟩,fun P g8 p8=>?_⟩;intro aa;have hGB:(P.h 149).dis (P.h 141):=aa 0 5 _ _ aj rfl rfl rfl;have C:P.h 141=q4.h 141:=by rw[g8.h 141,g7.h 141,g6.h 141,M.h 141]
 have e8:P.h 149=((v.h 146).put x (6+i) [.slice (slP (v.i 146) 0) ((st i).length+1) (v.i 147).toNat]).put x 12 [.int .i64 (bL st+1)]:=by rw[p8,p7];rfl
 rw[e8,C]at hGB;have ax:RdW (q4.h 141) (.slice (slP (y.i 141) (y.i 142)) (y.i 143).toNat (y.i 144).toNat) p.b:=by
  rw[M.i 141,M.i 142,M.i 143,M.i 144];exact m4.rd.w
 have key:=m.put d k2 ak ax a1 happ W Q hGB;have e0:bq st p=0:=o.symm.trans heq;refine⟨[[0,5]],[],rfl,rfl,⟨(ay fun _=>0),rfl,zzT,zzT⟩,x,H,st,_,T,B,RG,p,_,rfl,rfl,rfl,hI,hx,rfl,by rw[e0];rfl,?_⟩;unfold fu;rw[M0 e0,hi];show jD (hls [P.h 149,P.h 141]) _ _;rw[dw,e8,C];exact⟨_,_,_,_,key⟩
def mn {q:Env} : ∀ {a b:List Ck} {n:Nat},ckNorms n a q->ckNorms (n+ckLen a) b q->ckNorms n (a++b) q
 | [],b,n,_,h=>by simpa [ckLen] using h
 | k::a,b,n,h,h2=>⟨h.1,mn h.2 (by rw[show n+k.len+ckLen a=n+ckLen (k::a)by simp [ckLen];omega];exact h2)⟩
def Ft (h:ckNorm (n+53) q .sl):ckNorms n aI q:=by
 have e:aI=([i64,.int .u64]++List.replicate 32 (.int .u8)++[i64,.bool,.int .u64]++List.replicate 16 (.int .u8))++([.sl]++(List.replicate 6 (.int .u64)++List.replicate 32 (.int .u8)++[i64]++List.replicate 32 (.int .u8))):=rfl;rw[e];exact mn (ckNorms_pure _ _ _ rfl) (mn ⟨h,zzT⟩ (ckNorms_pure _ _ _ rfl))
set_option maxRecDepth 20000 in
def Af (h:ckNorm (n+53) q .sl) (h2:ckNorm (n+128) q .sl):ckNorms n bC q:=mn (Ft h) ⟨h2,zzT⟩
def Good (st:Nat->List Pc):Prop:=∀ i,i<6->∀ p∈st i,ah p.b/\p.b.length<=1000000
def nh:Sx.Spec where
 fn:=107
 own:=[]
 rd:=[0]
 res:=[.agg bC,.one (.int .i64)]
 pre:=fun xs Hs Rs=>∃ x R st n s,xs=[.pointer (some ⟨x,0,none⟩),.int .i64 n,.int .u64 s]/\Rs=[R]/\fa R x st/\gN st/\Good st/\(0<=s/\s<18446744073709551616)
 post:=fun xs Hs Rs v Hs' F=>∃ x R st n s,xs=[.pointer (some ⟨x,0,none⟩),.int .i64 n,.int .u64 s]/\Rs=[R]/\fa R x st /\
  (((1<=n/\n<=6)/\(1<=s/\s<=(st (n-1).toNat).length)/\∃ row p,(st (n-1).toNat)[(s-1).toNat]?=some p/\v=.tuple #[.agg row.toArray,.int .i64 0]/\aV F F row p)\/(¬((1<=n/\n<=6)/\1<=s/\s<=(st (n-1).toNat).length)/\∃ u,v=.tuple #[u,.int .i64 11]))
def LQ:List CV:=[.int .i64 (.lit 0),.int .u64 (.lit 0)]++List.replicate 32 (CV.int .u8 (.lit 0))++[.int .i64 (.lit 0),.bool .ff,.int .u64 (.lit 0)]++List.replicate 16 (CV.int .u8 (.lit 0))++[.sl (.lit (-1)) (.lit 0) (.lit 0) (.lit 0),.int .u64 (.lit 0),.int .u64 (.lit 0),.int .u64 (.lit 0),.int .u64 (.lit 0),.int .u64 (.lit 0),.int .u64 (.lit 0)]++List.replicate 32 (CV.int .u8 (.lit 0))++[.int .i64 (.lit 0)]++List.replicate 32 (CV.int .u8 (.lit 0))++[.sl (.lit (-1)) (.lit 0) (.lit 0) (.lit 0)]
def Jm:List Sx.Spec:=[wZ,bK]
def Fa:∀ t∈Jm,t.OK Tryz.prog:=ai uZ <| ai fi <| aD
def DF:Walk Tryz.prog Jm nh.fn where
 Λ:=noLoops
 args:=[TP (.var 0) (.lit 0),TI .i64 (.var 1),.sv (.one (.int .u64 (.var 2)))]
 mem:=[.ro 3 [.var 0] true]
 nv:=4
set_option maxRecDepth 20000 in
def qf {x:Nat} {n:Int} {R:Hl} {st:Nat->List Pc} (hI:fa R x st) (a:¬((1<=n/\n<=6)/\1<=s/\s<=(st (n-1).toNat).length)) {mem:Mem} : postOf nh [.pointer (some ⟨x,0,none⟩),.int .i64 n,.int .u64 s] [] [R] q mem (.tup [.agg LQ,.one (.int .i64 (.lit 11))]):=by
 intro _;exact⟨[],[],rfl,rfl,⟨(ay fun k=>if k=53 then -1 else if k=128 then -1 else if k=132 then 11 else 0),rfl,⟨Af ⟨aj,aj,aj,aj⟩ ⟨aj,aj,aj,aj⟩,zzT,zzT⟩⟩,x,R,st,n,s,rfl,rfl,hI,Or.inr ⟨a,_,rfl⟩⟩
set_option maxRecDepth 20000 in
def rN:nh.OK Tryz.prog:=by
 refine Spec.of_fn (Γ:=Jm) Fa ?_;rintro xs Hs Rs N af ⟨x,R,st,n,s,rfl,rfl,hI,hS,hG,hs⟩;have e0:Hs=[]:=MF.1 N;subst e0;refine⟨DF,envI [x,n,s] false [Hl.none,Hl.none,Hl.none,R],fun _ _=>True,fun _ _=>0,?_,bM (by intro r hr;simp [DF]at hr;subst hr;exact⟨_,_,_,rfl⟩) rfl,(fun _ h=>nomatch h),?_⟩
 .show [Value.pointer (slP (x:Int) 0),.int .i64 n,.int .u64 s]=_;rw[slP_pos ae];rfl
 refine Walk.read [aI] [] [] ?_;generalize F:envI [(x:Int),n,s] false [Hl.none,Hl.none,Hl.none,R]=J;have V:∀ q:Env,Agree 4 J q->q.i 0=x/\q.i 1=n/\q.i 2=s/\q.h 3=R:=fun q g=>by
  rw[g.i 0,g.i 1,g.i 2,g.h 3,<-F];exact⟨rfl,rfl,rfl,rfl⟩
 clear F;simp only[go_sem,Nat.reduceAdd,Jm,Hn,Hk,HX,BB];obtain⟨a,sv,M⟩:=id hI;intro q1 g1 p1;obtain⟨v0,v1,v2,w3⟩:=V q1 g1;rw[v0,v1,v2,w3];refine⟨fun h1=>⟨fun h6=>qf hI ae,fun h6=>?_⟩,fun h1=>qf hI ae⟩;obtain⟨i,hi⟩:∃ i:Nat,n-1=i:=⟨(n-1).toNat,ae⟩;have j:i<6:=ae;have A:(n-1).toNat=i:=ae;have hw:IntKind.i64.wrap (n-1)=((i:Nat):Int):=by rw[IntKind.wrap_i64];omega
 obtain⟨c1,c2,_⟩:=M.cells j;have O:R.cell ((x:Int)).toNat (Int.toNat ((i:Nat):Int))=some (.pointer (some ⟨a i,0,none⟩)):=by rw[MD,MD];exact c1
 have hlen:(lC st i).length<1000000:=by unfold lC;rw[M7];exact hS i j
 rw[hw,O,cl];refine⟨ae,ae,ae,rfl,⟨a i,R,_,_,s,rfl,rfl,M.ch i j,hs,hlen⟩,fun q2 g2 ⟨F2,⟨a',R',w',hs',s',f1,f2,d2,t⟩,P,Q⟩ q3 g3 p3=>?_⟩;simp only[MH,MZ,Value.pointer.injEq,MP,Addr.mk.injEq,Value.int.injEq,Nz]at f1 f2;obtain⟨rfl,rfl⟩:=f1;subst f2;obtain⟨rfl,rfl⟩:=(M.ch i j).uniq d2;have hl:(lC st i).length=(st i).length:=by unfold lC;rw[M7]
 have S:q3.b 133=q2.b 133:=g3.b 133;rw[S];refine⟨fun hb=>?_,fun hb=>?_⟩
 .rcases t with ⟨m1,m2,row',h',z,ev,o⟩ | ⟨B,u,ev⟩
  .simp only[Value.tuple.injEq,Nc,MH,Value.bool.injEq,MZ]at ev;exact absurd ev.2 hb
  .exact qf hI (by rw[A];rw[hl]at B;exact fun g=>B g.2)
 rcases t with ⟨m1,m2,row',h',z,ev,o⟩ | ⟨B,u,ev⟩
 rotate_left
 .simp only[Value.tuple.injEq,Nc,MH,Value.bool.injEq,MZ]at ev;exact absurd (ev.2.symm.trans hb) aj
 simp only[Value.tuple.injEq,Nc,MH,Value.bool.injEq,MZ,Value.agg.injEq]at ev;have er:=ev.1;rw[<-P zzT]at o;rw[hl]at m2;obtain⟨us,ho,T⟩:=M.row i j;have U:(s-1).toNat<(st i).length:=ae;have hp:(st i)[(s-1).toNat]?=some (st i)[(s-1).toNat]:=ME U;have W:(s-1).toNat<us.length:=by have:=ho.1;omega
 have hu:us[(s-1).toNat]?=some us[(s-1).toNat]:=ME W;have f:=T _ _ _ hu hp;obtain⟨g,cap,cur,hv,hg,hle,ag,hsz,ht⟩:∃ g cap cur,sv i=.slice (some ⟨g,0,none⟩) (st i).length cap/\R g=some (.cells cur 22 (0,0))/\(st i).length<=cap/\cap<=maxLen/\cur.size=cap*1/\cur.toList.take ((st i).length*1)=us:=by
  rcases ho.2 with ⟨_,hn⟩ | h
  .omega
  .exact h
 have X:R.cell ((g:Int)).toNat (0+(s-1)).toNat=some us[(s-1).toNat]:=by
  rw[MD,Int.zero_add];unfold Hl.cell;rw[hg];rw[<-hu,<-ht,NB,M0 ae,OW]
 obtain⟨y0,y1,y2,y3⟩:=V q3 (g1.trans (g2.mono.tr g3));have Y:R.cell ((x:Int)).toNat (6+((i:Nat):Int)).toNat=some (.slice (some ⟨g,0,none⟩) (st i).length cap):=by
  rw[MD,show(6+((i:Nat):Int)).toNat=6+i by omega,c2,hv]
 have Z:IntKind.u64.wrap (s-1)=s-1:=by rw[IntKind.wrap_u64];omega
 have k0:valP (some (Value.slice (some ⟨g,0,none⟩) (st i).length cap)) 0=(g:Int):=rfl;have k1:valP (some (Value.slice (some ⟨g,0,none⟩) (st i).length cap)) 1=0:=rfl;have k2:valP (some (Value.slice (some ⟨g,0,none⟩) (st i).length cap)) 2=(st i).length:=rfl;obtain⟨x5,y5,ah,e5,_⟩:=id f;have G:∃ p l c,us[(s-1).toNat]=Value.slice p l c:=⟨_,_,_,e5⟩;rw[y0,y1,y2,y3,hw,Y,Z,k0,k1,k2,X,fC G];have C:=hG i j _ (MG hp);refine⟨rfl,ae,ae,ae,by rw[e5];rfl,⟨_,_,R,rfl,rfl,f,C.2⟩,fun d g4 ⟨F4,⟨u',bs',R',z1,z2,z3,z4⟩,aa,ab⟩ H=>?_⟩;simp only[MH,MZ]at z1 z2;subst z1 z2;obtain rfl:=f.uniq z3;rw[<-aa zzT]at z4;have hGB:(d.h 5).dis (d.h 135):=H 2 4 _ _ aj rfl rfl rfl;have E:Agree 134 q2 d:=g3.mono.tr g4;have I:(ckCVs 5 aI).map (CV.ev d)=row':=(Ns Array.toList (Value.agg.inj (ev_ag (ks:=aI) (n:=5) (m:=134) E aj))).trans er;have ad:∃ sl,sl=Value.slice (slP (d.i 135) (d.i 136)) (d.i 137).toNat (d.i 138).toNat:=⟨_,rfl⟩;obtain⟨sl,D⟩:=ad;rw[<-D]at z4;have av:rowOK (row'++[sl]) oK:=by
  have:oK=cj++[Kd.slice]:=rfl;rw[this];exact iV o.ok (by rw[D];rfl)
 have y:row'.length=125:=fg o.ok;have h5:d.h 5=q2.h 5:=E.h 5;have K:ckNorm 58 d .sl:=by
  have hh:=Q.1;have e:aI=(([i64,.int .u64]:List Ck)++List.replicate 32 (.int .u8)++[i64,.bool,.int .u64]++List.replicate 16 (.int .u8))++([Ck.sl]++(List.replicate 6 (.int .u64)++List.replicate 32 (.int .u8)++[i64]++List.replicate 32 (.int .u8))):=rfl;have sp:∀ (a b:List Ck) (n:Nat),ckNorms n (a++b) q2->ckNorms (n+ckLen a) b q2:=by
   intro a
   induction a with
   | nil=>intro b n h;simpa [ckLen] using h
   | cons k a ih=>intro b n h;have:=ih b _ h.2;rw[show n+k.len+ckLen a=n+ckLen (k::a)by simp [ckLen];omega]at this;exact this
  have hh:ckNorms 5 aI q2:=hh;rw[e]at hh;obtain⟨n1,n2,n3,n4⟩:=(sp _ _ _ hh).1;have n1:-1<=q2.i 58:=n1;have n2:0<=q2.i 59:=n2;have n3:0<=q2.i 60:=n3;have n4:0<=q2.i 61:=n4;exact⟨by rw[E.i 58];exact n1,by rw[E.i 59];exact n2,by rw[E.i 60];exact n3,by rw[E.i 61];exact n4⟩
 have L:ckNorm 135 d .sl:=ab.1;have ph:(st i)[(s-1).toNat].h=h':=by
  unfold lC at z;rw[MU,hp]at z;simpa using z
 refine⟨[],[2,4],rfl,rfl,⟨⟨fun k=>if k<128 then d.i (k+5)else if k<132 then d.i (k+7)else 0,fun k=>d.b (k+5),d.s,d.v,d.h⟩,rfl,⟨Af K L,zzT,zzT⟩⟩,x,R,st,n,s,rfl,rfl,hI,Or.inl ⟨⟨ae,ae⟩,⟨ae,by rw[A];omega⟩,row'++[sl],(st i)[(s-1).toNat],by rw[A];exact hp,?_,?_⟩⟩
 .show Value.tuple #[.agg ((ckCVs 5 aI++[CV.sl (.var 135) (.var 136) (.var 137) (.var 138)]).map (CV.ev d)).toArray,.int .i64 0]=_;rw[M9,I,D];rfl
 .show aV (hls [d.h 5,d.h 135]) (hls [d.h 5,d.h 135]) _ _;rw[dw];refine⟨av,?_,?_,C.1,C.2⟩
  .rw[OZ y,ph];rw[<-h5]at o;exact o.mono (Hl.un_left _ _)
  .have:(row'++[sl]).getD 125 cC=sl:=by rw[MR,MX ae,y];rfl
   rw[this];exact cD z4.rd.w (Hl.un_right hGB)
open RowKit
variable {a:Act}{I:List Pc->World->Prop}{N dn i k n:Nat}{y:Value}{W W0 w:World}
def Hb:List Sx.Spec:=[nh]
def Ev:∀ t∈Hb,t.OK Tryz.prog:=fun t a=>by
 simp only[Hb,MQ,MV,Nt]at a;subst a;exact rN
noncomputable def fG:bw Tryz.prog Hb where
 cs:=J1
 st:=GZ
 outs:=GY
def J2:nh.res=[.agg bC,.one (.int .i64)]:=rfl
structure I6 (R:Hl) (b1 b2 x:Nat) (st:Nat->List Pc) (cv:Nat->Int):Prop where
 c1:R.cell b1 0=some (.pointer (some ⟨x,0,none⟩))
 c2:∀ i,i<6->R.cell b2 i=some (.int .u64 (cv i))
 rng:∀ i,i<6->0<=cv i/\cv i<18446744073709551616
 ix:fa R x st
 sh:gN st
 gd:Good st
set_option maxRecDepth 20000 in
def Eu {R:Hl} {b1 b2 x:Nat} {st:Nat->List Pc} {cv:Nat->Int} (h:I6 R b1 b2 x st cv) {s:Bool} (hi:i<6) (hk:k<=2000000) (hA:aZ y b1 b2 a (some (k+1)) (some s) (some i)) (T:R.sub W) :
 lZ (FW none) dn Tryz.prog (fun e a' W'=>(e=.exit 3/\(st i)[dr cv i+k]?=none/\aZ y b1 b2 a' (some (k+1)) (some s) (some i)/\Keep (fun _=>False) W W') \/
  (e=.normal/\∃ p g row F,(st i)[dr cv i+k]?=some p/\aZ y b1 b2 a' (some (k+1)) (some true) (some i)/\a'.tmps[7]?=some (.pointer (some ⟨g,0,none⟩))/\Turned W W' [] [] F/\F g=some (.cells row.toArray 40 (0,0))/\aV F F row p)) J1 a W:=by
 have C:fG.plain=true\/(none:Option Nat)=none:=Or.inr rfl;refine cG ?_ (bw.sound (Γ:=Hb) Ev fG C (Hs:=[]) (Rs:=[R]) (J:=tB [b1,b2,k+1,0,i] s y R) (inv:=fun _ _=>True) (mu:=fun _ _=>0)
  (R:=fun v _ F=>(v=CZ y b1 b2 (.exit 3) (k+1) s i/\(st i)[dr cv i+k]?=none)\/∃ p g row,(st i)[dr cv i+k]?=some p/\v=.tuple #[.int .i64 0,y,.pointer (slP (b1:Int) 0),.pointer (slP (b2:Int) 0),.int .u64 (k+1),.bool true,.pointer (slP ((g:Nat):Int) 0),.int .i64 i]/\F g=some (.cells row.toArray 40 (0,0))/\aV F F row p)
  ar (by simpa using T) ar (bM (by intro r hr;simp [fG,GZ]at hr;subst hr;exact⟨_,_,_,rfl⟩) rfl) hA.sz hA.df ?_ (fun _ h=>(nomatch h)) ?_)
 .rintro e a' W' ⟨t,vs,Hs',F,rfl,hsz,m,hm,hT,hp⟩;have e0:Hs'=[]:=MF.1 hT.len;subst e0;rcases hp with ⟨hv,o⟩ | ⟨p,g,row,hp,hv,hg,hP⟩
  .unfold CZ at hv;rw[slP_pos ae,slP_pos ae]at hv;simp only[Value.tuple.injEq,Nc,MH,Value.int.injEq,Nz]at hv;obtain⟨z,rfl⟩:=hv;obtain rfl:=dP z;have hm:[a'.tmps[0]?,a'.tmps[1]?,a'.tmps[2]?,a'.tmps[4]?,a'.tmps[5]?,a'.tmps[11]?]=_:=hm;simp only[M6,NN,MH,MZ]at hm;obtain⟨D,m1,m2,E,G,f⟩:=hm;exact Or.inl ⟨rfl,o,⟨hsz.trans hA.sz,m,D,m1,m2,fun x hx=>by cases hx;exact E,fun x hx=>by cases hx;exact G,fun x hx=>by cases hx;exact f⟩,hT.gR⟩
  .rw[slP_pos ae,slP_pos ae,slP_pos ae]at hv;simp only[Value.tuple.injEq,Nc,MH,Value.int.injEq,Nz]at hv;obtain⟨z,rfl⟩:=hv;obtain rfl:t=.norm:=dP z;have hm:[a'.tmps[0]?,a'.tmps[1]?,a'.tmps[2]?,a'.tmps[4]?,a'.tmps[5]?,a'.tmps[7]?,a'.tmps[11]?]=_:=hm;simp only[M6,NN,MH,MZ]at hm;obtain⟨D,m1,m2,E,G,U,f⟩:=hm;exact Or.inr ⟨rfl,p,g,row,F,hp,⟨hsz.trans hA.sz,m,D,m1,m2,fun x hx=>by cases hx;exact E,fun x hx=>by cases hx;exact G,fun x hx=>by cases hx;exact f⟩,U,hT,hg,hP⟩
 .intro t v z;have:=jB (l:=[(0,.sv (.one (.vr 0))),(1,.sv (.one (.hptr (.var 0) (.lit 0)))),(2,.sv (.one (.hptr (.var 1) (.lit 0)))),(4,.sv (.one (.int .u64 (.var 2)))),(5,.sv (.one (.bool (.bvar 3)))),(11,.sv (.one (.int .i64 (.var 4))))]) z;simp only[MQ,MV,Nt,Nr]at this;rcases this with ⟨rfl,rfl⟩ | ⟨rfl,rfl⟩ | ⟨rfl,rfl⟩ | ⟨rfl,rfl⟩ | ⟨rfl,rfl⟩ | ⟨rfl,rfl⟩
  .exact hA.t0
  .exact hA.t1.trans (by show _=some (Value.pointer (slP (b1:Int) 0));rw[slP_pos ae];rfl)
  .exact hA.t2.trans (by show _=some (Value.pointer (slP (b2:Int) 0));rw[slP_pos ae];rfl)
  .exact hA.t4 _ rfl
  .exact hA.t5 _ rfl
  .exact hA.t11 _ rfl
 refine bw.read [bC] [] [] ?_;generalize A:tB [(b1:Int),b2,k+1,0,i] s y R=J;have V:∀ q:Env,Agree 11 J q->q.i 0=b1/\q.i 1=b2/\q.i 2=k+1/\q.i 4=i/\q.b 3=s/\q.v 0=y/\q.h 10=R:=fun q g=>by
  rw[g.i 0,g.i 1,g.i 2,g.i 4,g.b 3,g.v 0,g.h 10,<-A];exact⟨rfl,rfl,rfl,rfl,rfl,rfl,rfl⟩
 clear A;simp only[go_sem,Nat.reduceAdd,Hb,J2];obtain⟨v0,v1,v2,v4,_,_,w⟩:=V J (Agree.refl _ _);have hr:=h.rng i hi;have c1:R.cell ((b1:Int)).toNat (Int.toNat 0)=some (.pointer (some ⟨x,0,none⟩)):=by rw[MD];exact h.c1
 have c2:R.cell ((b2:Int)).toNat (((i:Nat):Int)).toNat=some (.int .u64 (cv i)):=by rw[MD,MD];exact h.c2 i hi
 rw[v0,v1,v2,v4,w,c1,c2,cl];have H:(if 1048576<valI (some (Value.int .u64 (cv i)))then 1048576 else valI (some (Value.int .u64 (cv i))))=((dr cv i:Nat):Int):=by
  show(if 1048576<cv i then 1048576 else cv i)=_;unfold dr;split<;>omega
 have X:dr cv i<=1048576:=by unfold dr;omega
 have e1:IntKind.i64.wrap ((i:Int)+1)=((i+1:Nat):Int):=by rw[IntKind.wrap_i64];omega
 have Y:IntKind.u64.wrap (((dr cv i:Nat):Int)+(k+1))=((dr cv i+k+1:Nat):Int):=by rw[IntKind.wrap_u64];omega
 rw[H,e1,Y];refine⟨ae,rfl,ae,ae,ae,rfl,⟨x,R,st,_,_,rfl,rfl,h.ix,h.sh,h.gd,ae,ae⟩,fun q2 Z ⟨F2,⟨x',R',st',n',s',f1,f2,h',d⟩,I,aa⟩ c g3 p3=>?_⟩;simp only[MH,MZ,Value.pointer.injEq,MP,Addr.mk.injEq,Value.int.injEq,Nz]at f1 f2;obtain⟨rfl,rfl,rfl⟩:=f1;subst f2;have K:(((i+1:Nat):Int)-1).toNat=i:=ae;have ti:(((dr cv i+k+1:Nat):Int)-1).toNat=dr cv i+k:=ae;rw[K,ti,<-h.ix.st h' hi]at d;rw[g3.i 143];obtain⟨M,N,O,P,ub,Q,uw⟩:=V c (Z.tr g3);refine⟨fun L=>?_,fun he=>?_⟩
 .refine fun _=>⟨[],[],rfl,rfl,Or.inl ⟨?_,?_⟩⟩
  .show Value.tuple #[.int .i64 5,c.v 0,.pointer (slP (c.i 0) 0),.pointer (slP (c.i 1) 0),.int .u64 (c.i 2),.bool (c.b 3),.int .i64 (c.i 4)]=_;rw[M,N,O,P,ub,Q];rfl
  .rcases d with ⟨_,_,row',S,B,ev,j⟩ | ⟨o,_⟩
   .simp only[Value.tuple.injEq,Nc,MH,Value.int.injEq,Value.agg.injEq,Nz,MZ]at ev;exact absurd ev.2 L
   .exact OG.2 ae
 .rcases d with ⟨_,_,row',S,B,ev,j⟩ | ⟨_,u,ev⟩
  rotate_left
  .simp only[Value.tuple.injEq,Nc,MH,Value.int.injEq,Nz,MZ]at ev;exact absurd (he.symm.trans ev.2) aj
  simp only[Value.tuple.injEq,Nc,MH,Value.int.injEq,Value.agg.injEq,Nz,MZ]at ev;rw[<-I aj]at j;refine fun hd=>⟨[],[1,2],rfl,zzK,Or.inr ⟨S,(c.i 144).toNat,row',B,?_,?_,?_⟩⟩
  .show Value.tuple #[.int .i64 0,c.v 0,.pointer (slP (c.i 0) 0),.pointer (slP (c.i 1) 0),.int .u64 (c.i 2),.bool true,.pointer (slP (c.i 144) 0),.int .i64 (c.i 4)]=_;rw[M,N,O,P,Q,show(((c.i 144).toNat:Nat):Int)=c.i 144 by omega]
  .have er:(ckCVs 11 bC).map (CV.ev c)=row':=(Ns Array.toList (Value.agg.inj (ev_ag (ks:=bC) (n:=11) g3 aj))).trans ev.1;show hls [c.h 11,Hl.one (c.i 144).toNat (.cells ((ckCVs 11 bC).map (CV.ev c)).toArray 40 (0,0))] _=_;rw[dw,<-er];exact Hl.un_right (hd 1 2 _ _ aj rfl rfl rfl) _ _ (Hl.one_self _ _)
  .show aV (hls [c.h 11,_]) (hls [c.h 11,_]) _ _;rw[dw,g3.h 11];exact j.mono (Hl.un_left _ _) (Hl.un_left _ _)
def BS {α:Type} {st:Nat->List α} {cur:Nat->Nat} {p:α} (h:(st i)[cur i+n]?=some p):before st cur n (i+1)=before st cur n i++[p]:=by
 unfold before;rw[bZ,h];simp
def Hv {b1 b2:Nat} (h:aZ y b1 b2 a none none none) :
 lZ (FW none) dn Tryz.prog (fun e a' w'=>e=.normal/\aZ y b1 b2 a' (some 1) none none/\Keep (fun _=>False) w w') f0.cs a w:=by
 refine cG ?_ (bw.pure ar f0 rfl rfl h.sz h.df (J:=B7 y b1 b2 none none none) (R:=fun v=>v=.tuple #[.int .i64 (sV .norm),y,.pointer (slP (b1:Int) 0),.pointer (slP (b2:Int) 0),.int .u64 1]) ?_ ?_)
 .rintro e a' w' ⟨t,vs,rfl,hsz,b,hm,hk,hv⟩;rw[slP_pos ae,slP_pos ae]at hv;simp only[Value.tuple.injEq,Nc,MH,Value.int.injEq,Nz]at hv;obtain⟨c,rfl⟩:=hv;obtain rfl:t=.norm:=dP c;have hm:[a'.tmps[0]?,a'.tmps[1]?,a'.tmps[2]?,a'.tmps[4]?]=_:=hm;simp only[M6,NN,MH,MZ]at hm;obtain⟨d,m1,m2,f⟩:=hm;exact⟨rfl,⟨hsz.trans h.sz,b,d,m1,m2,(fun x hx=>by cases hx;exact f),(fun x hx=>by cases hx),(fun x hx=>by cases hx)⟩,hk⟩
 .intro t v c;have:=jB (l:=pU++[]) c;simp only[pU,Nu,MQ,MV,Nt,Nr]at this;rcases this with ⟨rfl,rfl⟩ | ⟨rfl,rfl⟩ | ⟨rfl,rfl⟩
  .exact h.t0
  .exact h.t1.trans (by show _=some (Value.pointer (slP (b1:Int) 0));rw[slP_pos ae];rfl)
  .exact h.t2.trans (by show _=some (Value.pointer (slP (b2:Int) 0));rw[slP_pos ae];rfl)
 .refine bw.read [] [] [] ?_;simp only[go_sem];exact fun _=>⟨[],[],rfl,rfl,rfl⟩
def me (y p q:Value) (r:Array Value):(#[y]++#[p,q]++r)[0]?=some y/\(#[y]++#[p,q]++r)[1]?=some p/\(#[y]++#[p,q]++r)[2]?=some q/\(#[y]++#[p,q]++r).size=3+r.size:=by
 obtain⟨r⟩:=r;refine⟨ar,ar,ar,by simp;omega⟩
section
variable {R:Hl} {b1 b2 x l:Nat} {st:Nat->List Pc} {cv:Nat->Int}
def Ha (I:List Pc->World->Prop) (st:Nat->List Pc) (cv:Nat->Int) (s:List Pc×Pc×List Value) (W:World):Prop :=
 ∃ a F k i,i<6/\s.1=before st (dr cv) k i/\(st i)[dr cv i+k]?=some s.2.1/\I s.1 a/\Turned a W [] [] F/\aV F F s.2.2 s.2.1
def yU (h:I6 R b1 b2 x st cv) (t:N<=2000000) (n:∀ pre W,I pre W->R.sub W) (d:∀ pre W W',I pre W->Keep (fun _=>False) W W'->I pre W')
 {L X:World->Prop} (u:∀ W W',L W->W.heap.size<=W'.heap.size->(∀ b,b<W.heap.size->W'.heap[b]?=W.heap[b]?)->L W')
 (hY:∀ s W,Ha I st cv s W->L W->YieldAt Fence.wide (dn-1) Tryz.prog l #[.agg s.2.2.toArray] W fun e W'=>(e=.returned (.bool true)/\I (s.1++[s.2.1]) W'/\L W')\/(e=.returned (.bool false)/\X W')) :
 JK st (dr cv) (.func (.yield l) #[] #[]) b1 b2 dn N I L X:=by
 have keep:∀ W W',L W->Keep (fun _=>False) W W'->L W':=fun W W' h1 h2=>u W W' h1 h2.size fun b hb=>h2.block b hb Qo;refine⟨keep,d,fun a W k s i hi hk hA hI f=>?_⟩;show(C9 J1 (cA (cA (cA (cA GW))))).wpIn _ _ _ _ _ _;refine lr (cG ?_ (Eu h hi ae hA (n _ _ hI)));rintro e a1 v (⟨rfl,o,c,j⟩ | ⟨rfl,p,g,row,F,hp,c,w,hT,hg,hP⟩)
 .exact Or.inl ⟨rfl,o,c,d _ _ _ hI j,keep _ _ f j⟩
 have hl:row.length=126:=by have:=fg hP.ok;rwa[fK]at this
 have hsz:a1.tmps.size=36:=c.sz;have hs:Ha I st cv (before st (dr cv) k i,p,row) v:=⟨W,F,k,i,hi,rfl,hp,hI,hT,hP⟩;refine wpIn_seq (qR (b:=g) (row:=row) (m:=126) (A:=fun W'=>I (before st (dr cv) k i++[p]) W'/\L W') (X:=X) rfl rfl rfl rfl rfl rfl rfl rfl rfl rfl rfl rfl ae ae ae aj aj c.t0 w zzK zzK hl (hT.fsub _ _ hg) ?_ ?_ ?_)
 .exact hY _ _ hs (keep _ _ f hT.gR)
 .rintro y ⟨q,r⟩;refine wpIn_cond_false ?_ ?_
  .simp [Act.eval,Act.put,Na,hsz]
  .refine wpIn_skip (Or.inr (Or.inl ⟨rfl,by rw[hp];simp,?_,by rw[BS hp];exact q,r⟩));refine⟨by simp [Act.put,hsz],by simp [Act.put,c.df],?_,?_,?_,fun x hx=>?_,fun x hx=>?_,fun x hx=>?_⟩
   .simpa [Act.put,Na] using c.t0
   .simpa [Act.put,Na] using c.t1
   .simpa [Act.put,Na] using c.t2
   .simpa [Act.put,Na] using c.t4 x hx
   .simpa [Act.put,Na] using c.t5 x hx
   .simpa [Act.put,Na] using c.t11 x hx
 .intro y hX;refine wpIn_cond_true ?_ ?_
  .simp [Act.eval,Act.put,Na,hsz]
  .exact wpIn_ret (Or.inr (Or.inr ⟨rfl,by simp [Act.put,c.df],hX⟩))
def wY (h:I6 R b1 b2 x st cv) (hN:∀ j,j<6->(st j).length<=N) (d:N<=2000000) (g:∀ pre W,I pre W->R.sub W) (f:∀ pre W W',I pre W->Keep (fun _=>False) W W'->I pre W') (h0:I [] W0) :
 Sx.Yields n Tryz.prog 180 #[.pointer (some ⟨b1,0,none⟩),.pointer (some ⟨b2,0,none⟩)] l (Ha I st cv) (fun s W=>I (s.1++[s.2.1]) W) (fun s=>#[.agg s.2.2.toArray]) W0 (fun W=>∃ k,bF st (dr cv) k 6=[]/\I (bo st (dr cv) k) W):=by
 intro L X q hY i;have H:=yU (dn:=n-1) h d g f q hY;have hf:Tryz.prog.funcs[180]?=some Tryz.f180:=by kernel_rfl
 have hb:Tryz.f180.body=some Dp:=by kernel_rfl
 have m:Tryz.f180.ntmps=36:=by kernel_rfl
 have o:Tryz.f180.results=#[]:=by kernel_rfl
 have a:Dp=Code.seq (fc Dp) (Code.block 0 (fc (cA Dp))):=by kernel_rfl
 refine callsIn_of_wp hf hb trivial ?_ rfl;rw[m,a];have hA:aZ (.func (.yield l) #[] #[]) b1 b2 {tmps:=(#[.func (.yield l) #[] #[]]++#[.pointer (some ⟨b1,0,none⟩),.pointer (some ⟨b2,0,none⟩)]:Array Value)++Array.replicate (36-(#[.func (.yield l) #[] #[]]++#[.pointer (some ⟨b1,0,none⟩),.pointer (some ⟨b2,0,none⟩)]:Array Value).size) undef,defers:=[]} none none none :=
  ⟨(me _ _ _ _).2.2.2.trans (by rw[PX];rfl),rfl,(me _ _ _ _).1,(me _ _ _ _).2.1,(me _ _ _ _).2.2.1,(fun x hx=>by cases hx),(fun x hx=>by cases hx),(fun x hx=>by cases hx)⟩
 have h1:lZ (FW none) (n-1) Tryz.prog _ [fc Dp] _ W0:=Hv hA;refine wpIn_seq (wpIn_mono h1 ?_);intro e a1 t h2;cases e with
 | normal =>
  obtain⟨_,p,c⟩:=h2;refine wpIn_block (wpIn_mono (Aj H hN d p (f _ _ _ h0 c) (q _ _ i c.size fun b hb=>c.block b hb Qo)) ?_);rintro e a2 u ⟨rfl,hd,r⟩;exact⟨hd,_,results_none o _ _ _,⟨_,rfl⟩,r⟩
 | _=>exact absurd h2.1 ar
end
end Go.Proofs.YtbdikjnpbnobcaaGreatDoor
namespace Go.Proofs.YtbdikjnpbnobcaaGreatDoor
open Go Go.Sx Go.Pk
variable {e:E}{a b d x y:Int}{t:List Int}{c i:Nat}
section
variable {s:Sx.Spec} {xs:List Value} {Rs:List Hl} {q:Env} {mem:Mem}
def kj (hr:s.res=[.one .bool]) (h:s.post xs [] Rs (.bool (bev q e)) [] Hl.none):postOf s xs [] Rs q mem (.sv (.one (.bool e))):=fun _ =>
 ⟨[],[],rfl,rfl,⟨{oN with b:=fun _=>bev q e},by rw[hr];rfl,by rw[hr];exact⟨zzT,zzT⟩⟩,h⟩
def wx {k:IntKind} (hr:s.res=[.one (.int k)]) (h:s.post xs [] Rs (.int k (iev q e)) [] Hl.none):postOf s xs [] Rs q mem (.sv (.one (.int k e))):=fun _ =>
 ⟨[],[],rfl,rfl,⟨{oN with i:=fun _=>iev q e},by rw[hr];rfl,by rw[hr];exact⟨zzT,zzT⟩⟩,h⟩
end
open Classical in
noncomputable def xy (f:FuncId):Sx.Spec where
 fn:=f
 own:=[]
 rd:=[0]
 res:=[.one .bool]
 pre:=fun xs Hs Rs=>∃ (u:Value) (t:List Int) (R:Hl) (T:List (List Int)),xs=[u,.agg (bys t).toArray]/\Rs=[R]/\RdRows R u dg (T.map bys)/\bO T/\t.length=16
 post:=fun xs Hs Rs w Hs' F=>∀ (u:Value) (t:List Int) (R:Hl) (T:List (List Int)),xs=[u,.agg (bys t).toArray]->Rs=[R]->RdRows R u dg (T.map bys)->w=.bool (decide (t∈T))
def iJ:Walk Tryz.prog [] 195 where
 Λ:=fun p=>if xF p then some ⟨0,[(8,TI .i64 (.var 30))],[],32⟩else none
 args:=[.sv (.one (.sl (.var 0) (.var 1) (.var 2) (.var 3))),.sv (.agg (ckCVs 4 (List.replicate 16 (.int .u8))))]
 mem:=[.ro 20 [.var 0] false]
 nv:=21
def Mi:Walk Tryz.prog [] 182 where
 Λ:=fun p=>if xF p then some ⟨0,[(5,TI .i64 (.var 30))],[],32⟩else none
 args:=[.sv (.one (.sl (.var 0) (.var 1) (.var 2) (.var 3))),.sv (.agg (ckCVs 4 (List.replicate 16 (.int .u8))))]
 mem:=[.ro 20 [.var 0] false]
 nv:=21
def Bn {c:Int} (r:t.length=16) {hs:List Hl} : (ckCVs 4 (List.replicate 16 (Ck.int .u8))).map (CV.ev (envI ([a,b,c,d]++t) false hs))=bys t:=by
 obtain⟨t0,t1,t2,t3,t4,t5,t6,t7,t8,t9,t10,t11,t12,t13,t14,t15,rfl⟩:∃ a0 a1 a2 k l m n o p q e f g h i j,t=[a0,a1,a2,k,l,m,n,o,p,q,e,f,g,h,i,j]:=by
  match t,r with
  | [a0,a1,a2,k,l,m,n,o,p,q,e,f,g,h,i,j],_=>exact⟨_,_,_,_,_,_,_,_,_,_,_,_,_,_,_,_,rfl⟩
 rfl
def vF {R:Hl} {T:List (List Int)} (f:RdRows R (.slice (slP x y) T.length c) dg (T.map bys)) (hy:0<=y) (hT:bO T) (hi:i<T.length) (d:t.length=16) {g:Nat->Int} (hg:∀ j,j<16->g j=t.getD j 0) :
 0<=x/\cellBytes R x.toNat (y+(i:Int)*16).toNat 16=true/\(eqs g (fun j=>valI (R.cell x.toNat ((y+(i:Int)*16).toNat+j))) 0 16↔T[i]?=some t)/\(eqs (fun j=>valI (R.cell x.toNat ((y+(i:Int)*16).toNat+j))) g 0 16↔T[i]?=some t):=by
 obtain⟨x',y',c',e,b,a⟩:=f;simp only[Value.slice.injEq]at e;rcases a with hn | ⟨hx,k⟩
 .rw[N9]at hn;rw[hn]at hi;cases hi
 obtain⟨rfl,rfl⟩:=jz hx b hy e.1;have hs:T[i]?=some T[i]:=ME hi;have m1:=(hT.2 _ (MG hs)).1;obtain⟨b1,c1⟩:=iF hy k hs m1;refine⟨hx,b1,?_,?_⟩
 .rw[pY d m1 hg c1,hs];exact⟨fun h=>by rw[h],fun h=>(Nx h).symm⟩
 .rw[pY m1 d c1 hg,hs];exact⟨fun h=>by rw[h],fun h=>Nx h⟩
open Classical in
def vD {f:FuncId} (W:Walk Tryz.prog [] f) (g:W.args=iJ.args/\W.mem=iJ.mem/\W.path=[]) (h:∀ (J:Env) C ms (T:List (List Int)) (R:Hl) (x y:Int) (c:Nat) (t:List Int),J.i 0=x->J.i 1=y->J.i 2=T.length->J.h 20=R->(∀ j,j<16->J.i (4+j)=t.getD j 0)->RdRows R (.slice (slP x y) T.length c) dg (T.map bys)->0<=y->bO T->t.length=16 ->
 (∀ (q:Env) (e:E) (mem:Mem),(bev q e=true↔t∈T)->C.post q mem (.sv (.one (.bool e))))->C.inv=(fun(_:Nat) (q:Env)=>∃ i:Nat,q.i 30=i/\i<=T.length/\∀ k,k<i->T[k]?≠some t)->C.mu=(fun(_:Nat) (q:Env)=>((T.length:Int)-q.i 30).toNat)->W.owes C ms J):(xy f).OK Tryz.prog:=by
 refine Spec.of_fn (Γ:=[]) (fun _ h=>by cases h) ?_;rintro xs Hs Rs l o ⟨u,t,R,T,rfl,rfl,d,hT,m⟩;have e0:Hs=[]:=MF.1 l;subst e0;obtain⟨x,y,c,rfl,hy,_⟩:=id d;rw[M7]at d;refine⟨W,envI ([x,y,T.length,c]++t) false (List.replicate 20 Hl.none++[R]),fun _ q=>∃ i:Nat,q.i 30=i/\i<=T.length/\∀ k,k<i->T[k]?≠some t,fun _ q=>(T.length-q.i 30).toNat,?_,?_,(by rw[g.2.2];exact fun _ h=>(nomatch h)),?_⟩
 .rw[g.1,M7];show [Value.slice (slP x y) ((T.length:Int)).toNat ((c:Int)).toNat,.agg ((ckCVs 4 (List.replicate 16 (Ck.int .u8))).map (CV.ev _)).toArray]=_;rw[MD,MD,Bn m]
 .rw[g.2.1];exact bM (by intro r hr;simp [iJ]at hr;subst hr;exact⟨_,_,_,rfl⟩) rfl
 .refine h _ _ _ T R x y c t rfl rfl rfl rfl (fun j p=>?_) d hy hT m (fun q e mem he _=>?_) rfl rfl
  .show([x,y,(T.length:Int),(c:Int)]++t).getD (4+j) 0=_;rw[MR,MX ar,MR];simp
  .refine⟨[],[],rfl,rfl,⟨{oN with b:=fun _=>bev q e},rfl,zzT,zzT⟩,fun s t' R' v e1 n a=>?_⟩;simp only[MH,MZ,Value.agg.injEq,Nc]at e1 n;obtain⟨rfl,e1⟩:=e1;subst n;obtain rfl:=bys_inj e1;rw[M7]at a;have:=bm (d.uniq a);subst this;exact gO he
open Classical in
def pX:(xy 195).OK Tryz.prog:=by
 refine vD iJ ⟨rfl,rfl,rfl⟩ fun J C ms T R x y c t v0 v1 v2 a n o hy hT p out hinv b=>?_;refine Walk.read [] [] [] ?_;simp only[go_sem,Nat.reduceAdd,hinv,b];intro q1 r _ q2 s _;have u:=hT.1;have d:Agree 21 J q2:=r.tr s;rw[d.i 2,v2];refine⟨ae,⟨0,rfl,ae,fun k hk=>ae⟩,fun q g ⟨i,f,hi,hk⟩=>?_⟩;have A:Agree 21 J q:=d.tr g;rw[A.i 2,v2,f,A.i 0,v0,A.i 1,v1,A.h 20,a];refine⟨fun v=>?_,fun w=>out _ _ _ ⟨fun e=>(by rw[bev_ff]at e;cases e),fun hm=>?_⟩⟩
 .obtain⟨hx,hb,l,D⟩:=vF o hy hT (i:=i) ae p (g:=fun j=>q.i (4+j)) (fun j z=>by show q.i (4+j)=_;rw[A.i (4+j)];exact n j z);have m:IntKind.i64.wrap (q.i 30+1)=((i+1:Nat):Int):=by rw[f,IntWalk.i64_in _ ae];omega
  refine⟨hx,hy,ae,hb,fun he=>out _ _ _ ⟨fun _=>MG (l.1 he),fun _=>by rw[bT_le];show(0:Int)<=q.i 30;omega⟩,fun hn=>⟨⟨i+1,m,ae,fun k B=>?_⟩,?_⟩⟩
  .rcases ND k i with h1 | h1
   .exact hk k h1
   .obtain rfl:k=i:=ae;exact fun h=>hn (l.2 h)
  .show((T.length:Int)-IntKind.i64.wrap (q.i 30+1)).toNat<_;rw[m];omega
 .obtain⟨k,aI⟩:=NA hm;have:=(MK.1 aI).1;exact absurd aI (hk k ae)
open Classical in
def Fe:(xy 182).OK Tryz.prog:=by
 refine vD Mi ⟨rfl,rfl,rfl⟩ fun J C ms T R x y c t v0 v1 v2 a m n hy hT o out hinv b=>?_;refine Walk.read [] [] [] ?_;simp only[go_sem,Nat.reduceAdd,hinv,b];intro q1 p _;have r:=hT.1;refine⟨⟨0,rfl,ae,fun k hk=>ae⟩,fun q g ⟨i,d,hi,hk⟩=>?_⟩;have A:Agree 21 J q:=p.tr g;rw[A.i 2,v2,d,A.i 0,v0,A.i 1,v1,A.h 20,a];refine⟨ae,fun s=>?_,fun u=>out _ _ _ ⟨fun e=>(by rw[bev_ff]at e;cases e),fun hm=>?_⟩⟩
 .obtain⟨hx,hb,z,f⟩:=vF n hy hT (i:=i) ae o (g:=fun j=>q.i (4+j)) (fun j v=>by show q.i (4+j)=_;rw[A.i (4+j)];exact m j v);have l:IntKind.i64.wrap (q.i 30+1)=((i+1:Nat):Int):=by rw[d,IntWalk.i64_in _ ae];omega
  refine⟨hx,hy,ae,hb,fun he=>out _ _ _ ⟨fun _=>MG (f.1 he),fun _=>bev_tt _⟩,fun hn=>⟨⟨i+1,l,ae,fun k w=>?_⟩,?_⟩⟩
  .rcases ND k i with h1 | h1
   .exact hk k h1
   .obtain rfl:k=i:=ae;exact fun h=>hn (f.2 h)
  .show((T.length:Int)-IntKind.i64.wrap (q.i 30+1)).toNat<_;rw[l];omega
 .obtain⟨k,aI⟩:=NA hm;have:=(MK.1 aI).1;exact absurd aI (hk k ae)
end Go.Proofs.YtbdikjnpbnobcaaGreatDoor
