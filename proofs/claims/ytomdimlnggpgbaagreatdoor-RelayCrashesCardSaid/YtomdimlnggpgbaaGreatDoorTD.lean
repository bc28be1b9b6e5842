/- RelayCrashes. -/
import Derived.LoopN
import Derived.Test.YtomdimlnggpgbaaGreatDoorTC
set_option linter.all false
namespace Go.Sx
open Go
variable {a:Act}{e n:E}{J:Env}{f:FuncId}{g hs:List (Nat×Option Nat)}{A x z:List As}{cs path tags:List E}{mem mem':Mem}{fuel i len lim m n0 nv p q:Nat}{ms ms':Nat->Nat}{S:Nat->Prop}{nd:Nd}{o:Oper}{c y:Operand}{d:Option Tmp}{h s st:St}{k:St->Option Nd}{T t:TypeId}{w w0:World}{R:XR}
section
variable {P:Program} {C:Ctx} {ms:Nat->Nat} {S:Nat->Prop} {w0:World} {J J':Env} {st:St} {mem mem':Mem} {a:Act} {w w':World}
def FA (hA:Rel S w0 J st a w) (hu:st.upto st.nv=true) {x y:TV} (h:OP P st t x y d=some R) (hn:R.need.holds C ms J)
 {K:Act->World->Prop} (hK:Fin S w0 C J st a d R K):∃ v' w',(Instr.makeSlice t (x.ev J) (y.ev J)).run P w=.ok v' w'/\K (a.put d v') w':=by
 unfold OP at h;split at h
 .rename_i el k l F c H;split at h
  .rename_i s;subst s;split at h
   .rename_i i hi;split at h
    .rename_i z I;split at h
     .rename_i g;simp only at h;have key:∀ (r:bL),r.own=true->(∀ J',ai st.nv J J'->0<=J'.i st.nv->J'.h st.nv=Hl.one (J'.i st.nv).toNat (.cells (madeCells z.cells ((aB J l).toNat*i.size)) el (0,0))->r.hl J'=J'.h st.nv/\r.pos J') ->
       ∀ R':XR,R'=⟨({st with mem:=st.mem++[r],nv:=st.nv+1} : St).put d (some (.sv (.one (.sl (.var st.nv) (.lit 0) l l)))),.pre (.mk st.nv el (z.cells.toList.map iG) i.bytes l),some (.mk st.nv el (z.cells.toList.map iG) i.bytes l)⟩ ->
       R'.need.holds C ms J->Fin S w0 C J st a d R' K->∃ v' w',(Instr.makeSlice t (.int k (aB J l)) (.int F (aB J l))).run P w=.ok v' w'/\K (a.put d v') w':=by
       intro r hr hres R' v hn hK;subst v;obtain⟨h0,hby,A⟩:=hn;have j:=run_make (P:=P) w t el i z H hi I k F (aB J l) (aB J l) h0 (aaM _) hby A
       let G:Obj:=.cells (madeCells z.cells ((aB J l).toNat*i.size)) el
       let J':=(J.gf st.nv w.heap.size).mC st.nv (Hl.one w.heap.size G)
       have f:ai st.nv J J':=(ct _ _ _ (aaS _)).trans (fF _ _ _ (aaS _));have e1:J'.i st.nv=w.heap.size:=by show(J.gf st.nv w.heap.size).i st.nv=_;rw[nM]
       have B:J'.h st.nv=Hl.one w.heap.size G:=gL _ _ _;have n:J'.h st.nv=Hl.one (J'.i st.nv).toNat (.cells (madeCells z.cells ((aB J l).toNat*i.size)) el (0,0)):=by rw[e1,aar];exact B
       obtain⟨p,D⟩:=hres J' f (by rw[e1];omega) n;refine⟨_,_,j,hK J' _ _ f ⟨⟨by rw[e1];omega,?_⟩,rfl⟩ (Rel.step hA hu f ?_ _ _ _ _ ?_)⟩
       .rw[n,jf];simp only[adk,aaT,ab2,g.1]
       .refine hA.toMRel.add rfl rfl rfl aF (fun b hb=>RowKit.Below.heap_alloc w _ b hb) (Mem.agree f (St.dt hu)) ?_ D ?_
        .rw[p,B];intro b o hb;obtain⟨rfl,rfl⟩:=Hl.nI hb;exact heap_alloc_new w _
        .intro b hb;rw[p,B]at hb;rw[Hl.dJ.1 hb];exact aaS _
       .intro u E;cases E;simp only[TV.ev,SV.ev,CV.ev,al,ak,e1,cJ f g.2.2];rw[au ah];simp
      have q:=key (.hp st.nv [] [.var st.nv] []) rfl (fun J' _ _ _=>⟨rfl,zzT⟩);split at h
      .rename_i m;split at h
       .cases h;refine key (.bj st.nv (oY (z.cells.toList.map iG) (m.toNat*i.size)) el) rfl (fun J' f h0 he=>⟨?_,h0⟩) _ rfl hn hK;rw[he];show Hl.one _ _=_;have e:=zP (J:=J') (z:=z.cells.toList.map iG) (zs:=z.cells.toList) (jf _ _) (by rw[ab2];omega) (m.toNat*i.size);rw[e];simp [ak]
       .cases h;exact q _ rfl hn hK
      .cases h;exact q _ rfl hn hK
     .cases h
    .cases h
   .cases h
  .cases h
 .cases h
def Ht (hA:Rel S w0 J st a w) (hu:st.upto st.nv=true) {is:List Nat} {vs:List TV} (h:TJ P st t len is vs d=some R)
 {K:Act->World->Prop} (hK:Fin S w0 C J st a d R K):∃ v' w',(Instr.buildSlice t len (is.zip (vs.map (TV.ev J))).toArray).run P w=.ok v' w'/\K (a.put d v') w':=by
 unfold TJ at h;split at h
 .rename_i el o;split at h
  .rename_i n z us hs q g;split at h
   .rename_i hc;split at h
    .rename_i l hl;have hf:=ko (J:=J) _ _ _ hl;have c:¬len*n>2 ^ 24:=ah;refine⟨.slice (some ⟨w.heap.size,0,none⟩) len len,w.alloc (.cells (l.map (CV.ev J)).toArray el),?_,pf h hu hA hK rfl (fun J' r hi=>?_)⟩
     .rw[Jh _ _ g,<-Jt];unfold Instr.buildSlice;simp only[Sem.run_bind,run_underlying o,Result.andThen_ok,fe hs,c,aca];have b:∀ f:Array Value,(Array.range (len*n)).map (fun j=>f[j%f.size]!)=((oY (z.cells.toList.map iG) (len*n)).map (CV.ev J)).toArray ->
       Instr.fill (fun i=>some (i*n,n)) ((Array.range (len*n)).map (fun j=>f[j%f.size]!)) ((is.zip us).map fun(p:Nat×SV)=>(p.1,SV.ev J p.2))=some (l.map (CV.ev J)).toArray:=by
       intro f k;rw[k,hf]
      by_cases h0:len*n=0
      .rw[aaR h0];simp only[Sem.run_bind,Sem.run_pure,Result.andThen_ok];rw[b #[] (by simp [h0,oY])];rfl
      .rw[aaG h0];simp only[Sem.run_bind,Sem.run_pure,Result.andThen_ok,lX q];rw[b z.cells ?_]
       .rfl
       have m:0<z.cells.toList.length:=by
        rw[ab2,hc.2];exact Nat.pos_of_ne_zero (fun e=>h0 (by rw[e,Nat.mul_zero]))
       have e:=zP (J:=J) (z:=z.cells.toList.map iG) (zs:=z.cells.toList) (jf _ _) m (len*n);rw[e];simp only[madeCells,adk]
     .simp only[TV.ev,SV.ev,CV.ev,al,ak,hi];rw[au ah];simp
    .cases h
   .cases h
  .cases h
 .cases h
def HG (h:yX P f=true) (args:Array Value) (w:World):(callFunc f args).run P w=.ok (.enter f args) w:=by
 unfold yX at h;split at h
 .rename_i fn hf;simp only[aaE,abE]at h;unfold callFunc;simp only[Sem.run_bind,program,Sem.run,Result.andThen_ok,hf,h.2,abz,aca];cases hb:fn.body with
  | none=>simp [hb]at h
  | some c=>simp
 .cases h
def pZ (hA:Rel S w0 J st a w) (h:tL st c=some f):a.eval c=.func (.func f) #[] #[]:=by
 unfold tL at h;split at h
 .cases h;rfl
 .rename_i t;split at h
  .rename_i g x y hs;split at h
   .rename_i b;cases h;simp only[aaE,Array.isEmpty_iff]at b;obtain⟨rfl,rfl⟩:=b;have:=hA.tmp t _ hs;simp [Act.eval,this,TV.ev,SV.ev,CV.ev]
   .cases h
  .cases h
 .cases h
def K7 {args:Array Operand} {h:Array TypeId} (d:o.op=.call {callee:=.value c,args,argTypes:=h}) (g:a.eval c=.func (.func f) #[] #[]) (he:yX P f=true) {xs:List Value} (hx:args.toList.map a.eval=xs)
 {K:Act->World->Prop} {Q:Exit->Act->World->Prop} (hc:Calls P f xs.toArray w fun e w'=>∃ v,e=.returned v/\K (a.put o.dst v) w'):o.wp P a w K Q:=by
 have i:args.map a.eval=xs.toArray:=by rw[<-hx];obtain⟨l⟩:=args;exact adh
 have b:(execOp a.eval o).run P w=.ok (.enter f xs.toArray) w:=by
  unfold execOp;rw[d];simp only[resolve,g,Deferred.ofValue,Sem.run_bind,Sem.run_pure,Result.andThen_ok,invoke];rw[i];simpa using HG (P:=P) he xs.toArray w
 unfold Oper.wp;rw[b];refine hc.mono fun e w' ⟨v,he,hk⟩=>?_;subst he;exact hk
def Hv (hA:Rel S w0 J st a w) (hu:st.upto st.nv=true) {s d:TypeId} (q:o.op=.convert s d y) {x:TV} (hx:a.eval y=x.ev J) (h:TN P st s d x o.dst=some R)
 {K:Act->World->Prop} {Q:Exit->Act->World->Prop} (hK:Fin S w0 C J st a o.dst R K):o.wp P a w K Q:=by
 unfold TN at h;split at h
 .rename_i r;subst r;split at h
  .rename_i el hs;split at h
   .rename_i f;obtain⟨f,t⟩:=f;have he:=J6 f;split at h
    .rename_i b y' l c;split at h
     .rename_i p cs T hb;cases h;have hp:=gH hb;have j:0<=J.i b:=hA.pos _ (aaA hp);have hw:=hA.toMRel.bj hp
      let o':Obj:=.cells (cs.map (CV.ev J)).toArray T (cs.length,cs.length+1)
      let w':World:=w.freeze ⟨(J.i b).toNat,cs.length,none⟩ 1
      have B:(J.i b).toNat<w.heap.size:=(abg.1 hw).1;have u:w'.heap[(J.i b).toNat]?=some o':=by
       show(w.freeze ⟨(J.i b).toNat,cs.length,none⟩ 1).heap[(J.i b).toNat]?=_;unfold World.freeze;rw[aaG aA];simp only[adJ,ab6,hw,abe];rfl
      have v:∀ k,k≠(J.i b).toNat->w'.heap[k]?=w.heap[k]?:=by
       intro k hk;show(w.freeze ⟨(J.i b).toNat,cs.length,none⟩ 1).heap[k]?=_;unfold World.freeze;rw[aaG aA];simp only[adJ,aaG hk.symm]
      have D:w'.heap.size=w.heap.size:=by
       show(w.freeze ⟨(J.i b).toNat,cs.length,none⟩ 1).heap.size=_;unfold World.freeze;rw[aaG aA];simp
      have g:w'.os=w.os/\w'.tape=w.tape/\w'.output=w.output:=by
       show(w.freeze ⟨(J.i b).toNat,cs.length,none⟩ 1).os=_/\(w.freeze ⟨(J.i b).toNat,cs.length,none⟩ 1).tape=_/\(w.freeze ⟨(J.i b).toNat,cs.length,none⟩ 1).output=_;unfold World.freeze;rw[aaG aA];exact⟨rfl,rfl,rfl⟩
      have ex:a.eval y=.slice (some ⟨(J.i b).toNat,(aB J y').toNat,none⟩) (aB J l).toNat (aB J c).toNat:=by
       rw[hx];simp only[TV.ev,SV.ev,CV.ev,al];rw[au j]
      have m:(execOp a.eval o).run P w=.ok (.value (a.eval y)) w':=by
       have A:w.shape? (J.i b).toNat=some (T,cs.length):=by
        unfold World.shape?;rw[hw];simp
       unfold execOp;rw[q];simp [convert,run_underlying hs,run_underlying he,markStringish,ex,A];rfl
      refine fK m ?_;have n:ai st.nv J (J.mC st.nv (Hl.one (J.i b).toNat o')):=fF _ _ _ (aaS _);refine hK _ _ w' n ⟨gL _ _ _,rfl⟩ (Rel.step hA hu n ?_ _ _ _ _ (fun z F=>?_))
      .refine hA.toMRel.set hp rfl g.1 g.2.1 g.2.2 ah (fun k _ hk=>v k fun e=>hk (by rw[e];exact Hl.dJ.2 rfl)) (Mem.agree n (St.dt hu)) ?_ trivial ?_
       .intro k G hk;rw[show(bL.hp st.nv [] [E.var b] []).hl (J.mC st.nv (Hl.one (J.i b).toNat o'))=Hl.one (J.i b).toNat o' from gL _ _ _]at hk;obtain⟨rfl,rfl⟩:=Hl.nI hk;exact u
       .intro k hk;rw[show(bL.hp st.nv [] [E.var b] []).hl (J.mC st.nv (Hl.one (J.i b).toNat o'))=Hl.one (J.i b).toNat o' from gL _ _ _]at hk;left;show(Hl.one (J.i b).toNat _).mem k;exact Hl.dJ.2 (Hl.dJ.1 hk)
      .cases F;rw[hx];exact(TV.agree n _ t).symm
     .cases h
    .cases h
   .cases h
  .cases h
 .cases h
def Rq {d:TypeDesc} (hd:P.underlying T=some d) (a:∀ i,d≠.interface i) (x:Value) (w:World):(Instr.makeInterface T x).run P w=.ok (.iface T x) w:=by
 unfold Instr.makeInterface;rw[Sem.run_bind,run_underlying hd];cases d with
 | interface i=>exact absurd rfl (a i)
 | _=>rfl
def W0 (hA:Rel S w0 J st a w) (hu:st.upto st.nv=true) (c:o.op=.makeInterface T y) {v:SV} (hx:a.eval y=v.ev J) {d:TypeDesc} (hd:P.underlying T=some d) (e:∀ i,d≠.interface i)
 {K:Act->World->Prop} {Q:Exit->Act->World->Prop} (hK:Fin S w0 C J st a o.dst ⟨({st with nv:=st.nv+1} : St).put o.dst (some (.sv (.one (.vr st.nv)))),.tt,some (.mki st.nv T v)⟩ K):o.wp P a w K Q:=by
 have b:(execOp a.eval o).run P w=.ok (.value (.iface T (v.ev J))) w:=by
  unfold execOp;rw[c];simp only[Sem.run_bind,hx];simp [Rq hd e]
 refine fK b ?_;have f:ai st.nv J (J.GD st.nv (.iface T (v.ev J))):=yy _ _ _ (aaS _);refine hK _ _ w f ⟨?_,rfl⟩ (Rel.put (Rel.pD f hu hA (hA.agree f hu).toMRel _) _ _ _ (fun z g=>?_))
 .show(J.GD st.nv (.iface T (v.ev J))).v st.nv=_;simp [Env.GD]
 .cases g;simp [TV.ev,SV.ev,CV.ev,Env.GD]
def It (hA:Rel S w0 J st a w) (hu:st.upto st.nv=true) (b:o.op=.makeInterface T y) {x:TV} (hx:a.eval y=x.ev J) (h:UG P st T x o.dst=some R)
 {K:Act->World->Prop} {Q:Exit->Act->World->Prop} (hK:Fin S w0 C J st a o.dst R K):o.wp P a w K Q:=by
 unfold UG at h;split at h
 .split at h
  .rename_i e hd;cases h;exact W0 hA hu b hx hd aF hK
  .rename_i e hd;cases h;exact W0 hA hu b hx hd aF hK
  .cases h
 .cases h
def zd (D:∀ s∈C.Γ,s.OK P) (hA:Rel S w0 J st a w) (h:Q5 P C.Γ st o=some R) (hn:R.need.holds C ms J)
 {K:Act->World->Prop} {Q:Exit->Act->World->Prop} (hK:Fin S w0 C J st a o.dst R K):o.wp P a w K Q:=by
 unfold Q5 at h;split at h
 .rename_i hu;split at h
  .rename_i t b;split at h
   .rename_i z O;have e:(execOp a.eval o).run P w=.ok (.value (.pointer (some ⟨w.heap.size,0,none⟩))) (w.alloc (.cells z.cells t)):=by
     unfold execOp;rw[b];simp only[Sem.run_bind,Instr.alloc,lX O,Result.andThen_ok];rfl
    refine fK e (pf h hu hA hK (by rw[jf]) (fun J' B hi=>?_));simp only[TV.ev,SV.ev,CV.ev,al,ak,hi];rw[au ah];simp
   .cases h
  .rename_i t x b;split at h
   .rename_i v hx;split at h
    .rename_i j;have ex:=aH hA hx;have e:(execOp a.eval o).run P w=.ok (.value (.pointer (some ⟨w.heap.size,0,none⟩))) (w.alloc (.cells (v.ev J).cells t)):=by
      unfold execOp;rw[b];simp only[Sem.run_bind,Instr.box,ex,TV.ev];rfl
     refine fK e (pf h hu hA hK ?_ (fun J' B hi=>?_))
     .rw[<-SV.tN v j]
     .simp only[TV.ev,SV.ev,CV.ev,al,ak,hi];rw[au ah];simp
    .cases h
   .cases h
  .rename_i t p x b;split at h
   .rename_i U v hp hx;have N:a.eval p=U.ev J:=aH hA hp;have ex:a.eval x=v.ev J:=aH hA hx;split at h
    .rename_i n mem hs;cases h;simp only[vC]at hn;obtain⟨q,w',E,e,hm⟩:=Jf hA.toMRel hs hn;have g:(execOp a.eval o).run P w=.ok .skip w':=by
      unfold execOp;rw[b];simp only[Sem.run_bind,Instr.storeAt,N,ex,E,Instr.sureAddr,Sem.run_pure,Result.andThen_ok,e]
     exact Bb g (hK J _ w' (ai.refl _ _) rfl (Rel.put (st:={st with mem:=mem}) ⟨hm,hA.size,hA.defers,hA.tmp,hA.path⟩ _ _ _ (fun y r=>by cases r)))
    .rename_i x' mem hs;cases h;obtain⟨q,w',J',E,e,B,u,F,hm⟩:=Jg hA hu hs hn;have g:(execOp a.eval o).run P w=.ok .skip w':=by
      unfold execOp;rw[b];simp only[Sem.run_bind,Instr.storeAt,N,ex,E,Instr.sureAddr,Sem.run_pure,Result.andThen_ok,e]
     exact Bb g (hK J' _ w' B ⟨u,F⟩ (Rel.step hA hu B hm _ _ _ _ (fun y r=>by cases r)))
    .cases h
   .cases h
  .rename_i t l c b;split at h
   .rename_i x y hl hc;obtain⟨v',w',e,hk⟩:=FA hA hu h hn hK;refine fK (v:=v') (w':=w') ?_ hk;unfold execOp;rw[b];simp only[Sem.run_bind,aH hA hl,aH hA hc,e,Result.andThen_ok,Sem.run_pure]
   .cases h
  .rename_i t len parts b;split at h
   .rename_i vs hx;obtain⟨v',w',e,hk⟩:=Ht hA hu h hK;refine fK (v:=v') (w':=w') ?_ hk;have e1:=ji hA _ _ hx;have V:(parts.map fun p=>(p.1,a.eval p.2))=((parts.toList.map (·.1)).zip (vs.map (TV.ev J))).toArray:=by
     rw[<-e1,abD,<-zS parts.toList];obtain⟨l⟩:=parts;exact adh
    unfold execOp;rw[b];rw[<-V]at e;simp only[Sem.run_bind,e,Result.andThen_ok,Sem.run_pure]
   .cases h
  .rename_i args ats b;split at h
   .rename_i x y t t' A i;split at h
    .rename_i G;subst G;split at h
     .rename_i H I hx r;obtain⟨v',w',e,hk⟩:=Hc (ty:=o.type) hA hu h hn hK;refine fK (v:=v') (w':=w') ?_ hk;have L:args.map a.eval=#[H.ev J,I.ev J]:=by
       obtain⟨l⟩:=args;simp only at A;subst A;simp [aH hA hx,aH hA r]
      have M:ats=#[t,t]:=by obtain⟨l⟩:=ats;simp only at i;rw[i]
      obtain⟨dst,op,ty,pos,W,gd⟩:=o;simp only at b;subst b;rw[BigFrame.execOp_builtin,L,M];unfold builtin;simp only[Sem.run_bind,e,Result.andThen_ok,Sem.run_pure]
     .cases h
    .cases h
   .cases h
  .rename_i args ats b;split at h
   .rename_i x y t t' A i;split at h
    .rename_i H I hx r;obtain⟨v',w',e,hk⟩:=EO (t':=t') (ty:=o.type) hA hu h hn hK;refine fK (v:=v') (w':=w') ?_ hk;have L:args.map a.eval=#[H.ev J,I.ev J]:=by
      obtain⟨l⟩:=args;simp only at A;subst A;simp [aH hA hx,aH hA r]
     have M:ats=#[t,t']:=by obtain⟨l⟩:=ats;simp only at i;rw[i]
     obtain⟨dst,op,ty,pos,W,gd⟩:=o;simp only at b;subst b;rw[BigFrame.execOp_builtin,L,M];unfold builtin;simp only[Sem.run_bind,e,Result.andThen_ok,Sem.run_pure]
    .cases h
   .cases h
  .rename_i s d x b;split at h
   .rename_i x hx;exact Hv hA hu b (aH hA hx) h hK
   .cases h
  .rename_i T x b;split at h
   .rename_i x hx;exact It hA hu b (aH hA hx) h hK
   .cases h
  .rename_i t b;exact oZ hA hu (by rw[b];exact h) hn hK
  .rename_i t m k ok b;exact oZ hA hu (by rw[b];exact h) hn hK
  .rename_i t m k v b;exact oZ hA hu (by rw[b];exact h) hn hK
  .rename_i args ats b;exact oZ hA hu (by rw[b];exact h) hn hK
  .rename_i c args ats b;split at h
   .rename_i f vs hc hx;split at h
    .rename_i he;exact K7 b (pZ hA hc) he (ji hA _ _ hx) (EI D hA hu h hn hK)
    .cases h
   .cases h
  .cases h
 .cases h
end
inductive Tag | norm | ret | exit (id:Nat)
 deriving DecidableEq
def zc:Tag->Exit
 | .norm=>.normal
 | .ret=>.ret
 | .exit i=>.exit i
abbrev Nm:=Tag->St->Option Nd
def Bv:E->List E
 | .and a b=>Bv a++Bv b
 | e=>[e]
def FC (path:List E) (n:E):List E:=(Bv n).filter fun c=>!(known path c==some true)
def uu:List E->Nd->Nd
 | [],a=>a
 | c::l,a=>pK (W4 c) (uu l a)
def FD (st:St) (n:E) (k:St->Option Nd):Option Nd :=
 let cs:=FC st.path n
 (k {st with path:=cs++st.path}).map (uu cs)
def Bw : ∀ n:E,(∀ c∈Bv n,bh J c=true)->bh J n=true:=by
 intro n
 induction n with
 | and a b d e =>
  intro h;simp only[Bv,aa4]at h;rw[oM,d (fun c hc=>h c (Or.inl hc)),e (fun c hc=>h c (Or.inr hc))];rfl
 | _=>intro h;exact h _ (by simp [Bv])
def D7:TV:=.sv (.one (.val undef))
def Kl:Value->Bool
 | .bool _=>false
 | _=>true
def vp (ops:List Oper) (st:St) (o:Oper):Option (Option (E×Bool)) :=
 match o.guard with
 | none=>some none
 | some (j,want)=>match(ops[j]?).bind (·.dst)with
  | some t=>match st.tmps[t]? with
   | some (some (.sv (.one (.bool e))))=>some (some (e,want))
   | some (some (.sv (.one (.val v))))=>if Kl v then some (some (.ff,true))else none
   | _=>none
  | none=>none
def kF (P:Program) (st:St):List ResultVar->Option (E×List SV)
 | []=>some (.tt,[])
 | .tmp t::l=>match de st (.tmp t),kF P st l with
  | some (.sv v),some (m,vs)=>some (m,v::vs)
  | _,_=>none
 | .cell t ty::l=>match de st (.tmp t),kF P st l with
  | some (.sv (.one c)),some (m,vs)=>match Kf P st.mem ty c with
   | some (k,v)=>some (mkAnd k m,v::vs)
   | none=>none
  | _,_=>none
def Ca:List SV->TV
 | [v]=>.sv v
 | l=>.tup l
abbrev Ex:=Nat->List Nat->Code->St->Nm->Option Nd
variable {ex:Ex}
def ya (P:Program) (ex:Ex) (d:Nat) (f:FuncId) (args:List TV) (st:St) (k:TV->St->Option Nd):Option Nd :=
 match P.funcs[f]? with
 | some fn=>match fn.body with
  | some c=>ex d [f] c ⟨args.map some++List.replicate (fn.ntmps-args.length) none,st.mem,st.nv,st.path⟩ fun t s=>match t with
   | .exit _=>none
   | _=>match kF P s fn.results.toList with
    | some (n,vs)=>FD s n fun s=>k (Ca vs) s
    | none=>none
  | none=>none
 | none=>none
def Rt (P:Program) (o:Oper) (k:St->Option Nd):Nat->St->Option Nd
 | 0,st=>k st
 | n+1,st=>match BP P st o with
  | some (s,x)=>(Rt P o k n s).map (.ext x ·)
  | none=>k st
def uR (P:Program) (Γ:List Spec) (ex:Ex) (d:Nat) (o:Oper) (st:St) (k:St->Option Nd):Option Nd :=
 match quiet P st o.op with
 | some (n,v)=>FD st n fun st=>k (st.put o.dst (some v))
 | none=>Rt P o (fun st=>match Q5 P Γ st o with
  | some R=>if st.nv<=R.st.nv then(k R.st).map fun nd=>pK R.need (match R.x with | some x=>.ext x nd | none=>nd)else none
  | none=>match o.op with
   | .call {callee:=.value c,args,argTypes:=_}=>match tL st c,uB st args.toList with
    | some f,some vs=>if yX P f&&st.upto st.nv then ya P ex d f vs st fun r s=>if st.nv<=s.nv then k (({s with tmps:=st.tmps} : St).put o.dst (some r))else none else none
    | _,_=>none
   | .panic _=>some (.e .ff)
   | .makeInterface _ _=>some (.e .ff)
   | _=>none) 4 st
def ke (P:Program) (Γ:List Spec) (ex:Ex) (d:Nat) (ops:List Oper):List Oper->St->(St->Option Nd)->Option Nd
 | [],st,k=>k st
 | o::l,st,k=>match vp ops st o with
  | none=>none
  | some none=>uR P Γ ex d o st fun s=>if st.nv<=s.nv then ke P Γ ex d ops l s k else none
  | some (some (e,want))=>match known st.path e with
   | some b=>if b=want then uR P Γ ex d o st fun s=>if st.nv<=s.nv then ke P Γ ex d ops l s k else none else ke P Γ ex d ops l (st.put o.dst (some D7)) k
   | none =>
    let y:=if want then e else mkNot e
    match uR P Γ ex d o {st with path:=y::st.path} fun s=>if st.nv<=s.nv then ke P Γ ex d ops l s k else none,ke P Γ ex d ops l (({st with path:=mkNot y::st.path} : St).put o.dst (some D7)) k with
    | some a,some b=>some (pK (wU y a) (wU (mkNot y) b))
    | _,_=>none
section
variable {P:Program} {C:Ctx} {ms:Nat->Nat} {S:Nat->Prop} {w0:World} {J J':Env} {st:St} {mem mem':Mem} {a:Act} {w w':World}
def Nl (S:Nat->Prop) (w0:World) (C:Ctx) (d:Nat) (ms:Nat->Nat) (n:Nat) (J:Env) (k:St->Option Nd) (K:Act->World->Prop):Prop :=
 ∀ ms' st' nd J' a w',(∀ i,i<d->ms' i=ms i)->k st'=some nd->ai n J J'->Rel S w0 J' st' a w'->nd.holds C ms' J'->K a w'
def Nl.gu {d n:Nat} {K:Act->World->Prop} (h:Nl S w0 C d ms n J k K) (b:∀ i,i<d->ms' i=ms i) (g:ai n J J') (hm:n<=m):Nl S w0 C d ms' m J' k K :=
 fun a st' nd c j w' e hk f hA hn=>h a st' nd c j w' (fun i hi=>(e i hi).trans (b i hi)) hk (g.trans (f.mono hm)) hA hn
def Rel.qB (hA:Rel S w0 J st a w) (h:∀ c∈cs,bh J c=true):Rel S w0 J {st with path:=cs++st.path} a w :=
 ⟨hA.toMRel,hA.size,hA.defers,hA.tmp,fun e he=>(aa4.1 he).elim (h e) (hA.path e)⟩
def Rel.rC (hA:Rel S w0 J st a w) {c:E} (h:bh J c=true):Rel S w0 J {st with path:=c::st.path} a w :=
 hA.qB (cs:=[c]) (fun x hx=>by rw[aaJ.1 hx];exact h)
def nH:∀ (cs:List E) (a:Nd),(uu cs a).holds C ms J->(∀ c∈cs,bh J c=true)/\a.holds C ms J
 | [],a,h=>⟨aF,h⟩
 | c::l,a,h=>by
  simp only[uu,fC,vC]at h;obtain⟨h1,h2⟩:=nH l a h.2;exact⟨fun x hx=>(aaN.1 hx).elim (fun e=>e▸h.1) (h1 x),h2⟩
def wV (h:FD st n k=some nd) (hA:Rel S w0 J st a w) (hn:nd.holds C ms J) :
 bh J n=true/\∃ st' b,k st'=some b/\st'={st with path:=FC st.path n++st.path}/\Rel S w0 J st' a w/\b.holds C ms J:=by
 unfold FD at h;simp only[aaI]at h;obtain⟨b,hk,rfl⟩:=h;obtain⟨h1,h2⟩:=nH _ _ hn;refine⟨Bw n fun c hc=>?_,_,b,hk,rfl,hA.qB h1,h2⟩;by_cases hk:known st.path c=some true
 .exact fW hA.path hk
 .exact h1 c (by unfold FC;rw[abS];exact⟨hc,by simpa using hk⟩)
def CI (J:Env):Option (E×Bool)->Bool
 | none=>true
 | some q=>bh J q.1==q.2
def ja (hr:Rel S w0 J st a w) {ops:List Oper} {g:Option (E×Bool)} (h:vp ops st o=some g) :
 Region.wanted o (yielded ops.toArray a.tmps)=CI J g:=by
 unfold vp at h;unfold Region.wanted;split at h
 .rename_i b;cases h;simp only[b,CI]
 .rename_i j want b;simp only[b];split at h
  .rename_i t d;split at h
   .rename_i e hs;cases h;have:=hr.tmp t _ hs;have c:yielded ops.toArray a.tmps j=some (bh J e):=by
     unfold yielded;have e1:(ops.toArray[j]?).bind (·.dst)=some t:=by simpa using d
     rw[e1];simp only[acp,this,TV.ev,SV.ev,CV.ev]
    rw[c];simp [CI]
   .rename_i v hs;split at h
    .rename_i hv;cases h;have:=hr.tmp t _ hs;have c:yielded ops.toArray a.tmps j=none:=by
      unfold yielded;have e1:(ops.toArray[j]?).bind (·.dst)=some t:=by simpa using d
      rw[e1];simp only[acp,this,TV.ev,SV.ev,CV.ev];cases v<;>simp [Kl]at hv ⊢
     rw[c];simp [CI,du]
    .cases h
   .cases h
  .cases h
def mv (hA:Rel S w0 J st a w):∀ (l:List ResultVar) (n:E) (vs:List SV),kF P st l=some (n,vs)->bh J n=true ->
 (l.mapM fun(x:ResultVar)=>match x with
  | .tmp t=>(pure (a.tmps.getD t undef):Sem Value)
  | .cell p t=>do loadVar t (<-asAddr (a.tmps.getD p undef))).run P w=.ok (vs.map (SV.ev J)) w
 | [],n,vs,h,_=>by cases h;rfl
 | .tmp t::l,n,vs,h,hn=>by
  simp only[kF]at h;split at h
  .rename_i v m d h1 h2;cases h;have e1:=aH hA h1;simp only[Act.eval,TV.ev]at e1;have ih:=mv hA l _ _ h2 hn;simp only[adO,Sem.run_bind,Sem.run_pure,Result.andThen_ok,ih,aaY];rw[<-e1]
  .cases h
 | .cell p t::l,n,vs,h,hn=>by
  simp only[kF]at h;split at h
  .rename_i c m d h1 h2;split at h
   .rename_i k v hl;cases h;rw[aO,aaE]at hn;have e1:=aH hA h1;obtain⟨q,e,b⟩:=wP hA.toMRel hl hn.1;simp only[Act.eval,TV.ev,SV.ev,e]at e1;have ih:=mv hA l _ _ h2 hn.2;have f:(asAddr (a.tmps.getD p undef)).run P w=.ok q w:=by rw[e1];rfl
    simp only[adO,Sem.run_bind,f,Sem.run_pure,Result.andThen_ok,b,ih,aaY]
   .cases h
  .cases h
def Bn (hA:Rel S w0 J st a w) {fn:Func} {vs:List SV} (h:kF P st fn.results.toList=some (n,vs)) (hn:bh J n=true) :
 (results fn a.tmps).run P w=.ok ((Ca vs).ev J) w:=by
 have key:=mv hA _ _ _ h hn;unfold results;have hm:(fn.results.mapM fun(x:ResultVar)=>match x with
  | .tmp t=>(pure (a.tmps.getD t undef):Sem Value)
  | .cell p t=>do loadVar t (<-asAddr (a.tmps.getD p undef))).run P w=.ok (vs.map (SV.ev J)).toArray w:=by
  generalize fn.results=rs at *;obtain⟨l⟩:=rs;simp only[ady,Sem.run_map,key,Result.andThen_ok]
 simp only[Sem.run_bind];refine(aa1 (fun r=>Result.andThen r _) hm).trans ?_;simp only[Result.andThen_ok,Sem.run_pure]
 congr 1
 match vs with
 | []=>simp [Ca,TV.ev]
 | [v]=>simp [Ca,TV.ev]
 | v::u::l=>simp [Ca,TV.ev]
end
abbrev MA:=Option (List As×List (Nat×Option Nat))
def mI (n0:Nat) (t e:E):Option (List As) :=
 match t with
 | .var n=>if n0<=n then some [⟨n,0,.int .i64 e⟩]else if t=e then some []else none
 | t=>if t=e/\t.upto n0=true then some []else none
def mB (n0:Nat) (t e:E):Option (List As) :=
 match t with
 | .bvar n=>if n0<=n then some [⟨n,1,.bool e⟩]else if t=e then some []else none
 | t=>if t=e/\t.upto n0=true then some []else none
def mS (n0:Nat) (t e:E):Option (List As) :=
 match t with
 | .svar n=>if n0<=n then some [⟨n,2,.str e⟩]else if t=e then some []else none
 | t=>if t=e/\t.upto n0=true then some []else none
def Bg:Option (List As)->Option (List As)->Option (List As)
 | some a,some b=>some (a++b)
 | _,_=>none
def I0:CV->CV->Bool
 | .pti a o s n i,.pti b o' c n' d=>decide (a=b)&&decide (o=o')&&decide (s=c)&&decide (n=n')&&decide (i=d)
 | .hv h x y j,.hv h' x' y' j'=>decide (h=h')&&decide (x=x')&&decide (y=y')&&decide (j=j')
 | .clo f x,.clo e x'=>decide (f=e)&&decide (x=x')
 | _,_=>false
def ML {a b:CV} (h:I0 a b=true):a=b:=by
 unfold I0 at h;split at h
 .simp only[aaE,aaB]at h;obtain⟨⟨⟨⟨rfl,rfl⟩,rfl⟩,rfl⟩,rfl⟩:=h;rfl
 .simp only[aaE,aaB]at h;obtain⟨⟨⟨rfl,rfl⟩,rfl⟩,rfl⟩:=h;rfl
 .simp only[aaE,aaB]at h;obtain⟨rfl,rfl⟩:=h;rfl
 .cases h
def WY (n0:Nat) (t c:CV):Option (List As) :=
 match t,c with
 | .int k e,.int b a=>if k=b then mI n0 e a else none
 | .bool e,.bool a=>mB n0 e a
 | .str e,.str a=>mS n0 e a
 | .hptr x y,.hptr x' y'=>Bg (mI n0 x x') (mI n0 y y')
 | .sl x y l c,.sl x' y' l' c'=>Bg (Bg (mI n0 x x') (mI n0 y y')) (Bg (mI n0 l l') (mI n0 c c'))
 | .map x,.map x'=>mI n0 x x'
 | .vr n,c=>if n0<=n then some [⟨n,3,c⟩]else match c with
  | .vr m=>if n=m then some []else none
  | _=>none
 | .val v,.val v'=>if Gv v v' then some []else none
 | t,c=>if I0 t c=true/\t.upto n0=true then some []else none
def mL (n0:Nat):List CV->List CV->Option (List As)
 | [],[]=>some []
 | a::l,b::m=>Bg (WY n0 a b) (mL n0 l m)
 | _,_=>none
def zN (n0:Nat):List SV->List SV->Option (List As)
 | [],[]=>some []
 | .one a::l,.one b::m=>Bg (WY n0 a b) (zN n0 l m)
 | .agg a::l,.agg b::m=>Bg (mL n0 a b) (zN n0 l m)
 | _,_=>none
def Zr (n0:Nat):TV->TV->Option (List As)
 | .sv (.one a),.sv (.one b)=>WY n0 a b
 | .sv (.agg l),.sv (.agg m)=>mL n0 l m
 | .tup l,.tup m=>zN n0 l m
 | _,_=>none
def qp (n0:Nat):List (Option TV)->List (Option TV)->Option (List As)
 | [],[]=>some []
 | none::l,_::m=>qp n0 l m
 | some a::l,some b::m=>Bg (Zr n0 a b) (qp n0 l m)
 | _,_=>none
def UC (n0:Nat) (t:bL) (r:Option bL):MA :=
 match t,r with
 | .dead,_=>some ([],[])
 | .bj a l T,some (.bj c l' d)=>if T=d then
  if n0<=a then(mL n0 l l').map fun A=>(⟨a,0,.int .i64 (.var c)⟩::A,[])else if a=c then(mL n0 l l').map fun A=>(A,[])else none
  else none
 | .hp k _ _ _,some (.hp b _ _ _)=>if n0<=k then some ([],[(k,some b)])else if k=b then some ([],[])else none
 | .hp k _ _ _,some .dead=>if n0<=k then some ([],[(k,none)])else none
 | .hp k _ _ _,none=>if n0<=k then some ([],[(k,none)])else none
 | .ro k _ _,some (.ro b _ _)=>if k<n0/\k=b then some ([],[])else none
 | _,_=>none
def Rl (n0:Nat):Mem->Mem->MA
 | [],_=>some ([],[])
 | r::l,m=>match UC n0 r m.head?,Rl n0 l m.tail with
  | some (a,h),some (b,g)=>some (a++b,h++g)
  | _,_=>none
def lP:List As->Bool
 | []=>true
 | a::l=>(l.all fun x=>!(x.n==a.n&&x.k==a.k))&&lP l
def lQ:List (Nat×Option Nat)->Bool
 | []=>true
 | a::l=>(l.all fun x=>!(x.1==a.1))&&lQ l
def Rm (n0:Nat) (h s:St):MA :=
 match qp n0 h.tmps s.tmps,Rl n0 h.mem s.mem with
 | some a,some (b,g)=>if lP (a++b)&&lQ g&&((a++b).all fun x=>decide (n0<=x.n))&&(g.all fun x=>decide (n0<=x.1))&&(h.path.all fun e=>e.upto n0&&s.path.contains e)&&decide (n0<=h.nv)then some (a++b,g)else none
 | _,_=>none
def Qj (m:Mem) (p q:Nat):Mem:=match m[p]?,m[q]? with
 | some a,some b=>(m.set p b).set q a
 | _,_=>m
def UO (m:Mem) (n:Nat):Mem:=m++List.replicate (n-m.length) .dead
def N0 (n0:Nat) (A:List As):Mem->Nat->Mem->Mem
 | [],_,m=>m
 | .hp k _ (.var a::_) _::l,p,m=>N0 n0 A l (p+1) (if n0<=k/\n0<=a then match A.find? (fun x=>x.n==a&&x.k==0)with
  | some ⟨_,_,.int _ e⟩=>match posOf m e with
   | some (q,r)=>if r.own=true then Qj m p q else m
   | none=>m
  | _=>m
  else m)
 | _::l,p,m=>N0 n0 A l (p+1) m
def Yf (n0:Nat) (h s:St):MA:=match qp n0 h.tmps s.tmps with
 | some A=>match Rm n0 h {s with mem:=N0 n0 A h.mem 0 (UO s.mem h.mem.length)} with
  | some r=>some r
  | none=>Rm n0 h s
 | none=>none
section
variable {P:Program} {C:Ctx} {ms:Nat->Nat} {S:Nat->Prop} {w0:World} {J J':Env} {st:St} {mem mem':Mem} {a:Act} {w w':World} {n0:Nat} {A:List As} {hs:List (Nat×Option Nat)}
def dz (hA:A.all (fun x=>decide (n0<=x.n))=true) (hh:hs.all (fun x=>decide (n0<=x.1))=true):ai n0 J (assign J A hs):=by
 rw[aa3]at hA hh;have key:∀ k j,k<n0->A.find? (fun a=>a.n==k&&a.k==j)=none:=fun k j hk=>by
  rw[ace];intro x hx;have:=hA x hx;simp only[aaB]at this;simp;omega
 refine⟨fun k hk=>?_,fun k hk=>?_,fun k hk=>?_,fun k hk=>?_,fun k hk=>?_⟩
 .simp only[assign,key k 0 hk]
 .simp only[assign,key k 1 hk]
 .simp only[assign,key k 2 hk]
 .simp only[assign,key k 3 hk]
 .have:hs.find? (fun p=>p.1==k)=none:=by
   rw[ace];intro x hx;have:=hh x hx;simp only[aaB]at this;simp;omega
  simp only[assign,this]
def gm:∀ {A:List As},lP A=true->∀ x∈A,A.find? (fun a=>a.n==x.n&&a.k==x.k)=some x
 | [],_,_,h=>by cases h
 | y::l,h,x,hx=>by
  simp only[lP,aaE,aa3,abE]at h;rw[adI];rcases aaN.1 hx with rfl | hx
  .simp
  .have:=h.1 x hx;have hb:(y.n==x.n&&y.k==x.k)=false:=by
    rw[<-this];congr 1<;>exact Bool.beq_comm
   rw[hb];exact gm h.2 x hx
def jx:∀ {A:List (Nat×Option Nat)},lQ A=true->∀ x∈A,A.find? (fun a=>a.1==x.1)=some x
 | [],_,_,h=>by cases h
 | y::l,h,x,hx=>by
  simp only[lQ,aaE,aa3,abE]at h;rw[adI];rcases aaN.1 hx with rfl | hx
  .simp
  .have:=h.1 x hx;have hb:(y.1==x.1)=false:=by rw[<-this];exact Bool.beq_comm
   rw[hb];exact jx h.2 x hx
section
variable (hd:lP A=true) (hall:A.all (fun x=>decide (n0<=x.n))=true) (hh:hs.all (fun x=>decide (n0<=x.1))=true) (hdh:lQ hs=true)
include hd hall hh
def ky {t:E} (hm:mI n0 t e=some x) (hx:∀ y∈x,y∈A):aB (assign J A hs) t=aB J e:=by
 have a:ai n0 J (assign J A hs):=dz hall hh;unfold mI at hm;split at hm
 .rename_i n;split at hm
  .cases hm;have:=gm hd _ (hx _ (aaJ.2 rfl));simp only[al,assign,this,CV.ev,cf]
  .split at hm
   .rename_i he;subst he;exact cJ a (by simp only[E.upto,aaB];omega)
   .cases hm
 .split at hm
  .rename_i hc;obtain⟨rfl,hu⟩:=hc;exact cJ a hu
  .cases hm
def OL {t:E} (hm:mB n0 t e=some x) (hx:∀ y∈x,y∈A):bh (assign J A hs) t=bh J e:=by
 have a:ai n0 J (assign J A hs):=dz hall hh;unfold mB at hm;split at hm
 .rename_i n;split at hm
  .cases hm;have:=gm hd _ (hx _ (aaJ.2 rfl));simp only[bD,assign,this,CV.ev,xI]
  .split at hm
   .rename_i he;subst he;exact lO a (by simp only[E.upto,aaB];omega)
   .cases hm
 .split at hm
  .rename_i hc;obtain⟨rfl,hu⟩:=hc;exact lO a hu
  .cases hm
def OM {t:E} (hm:mS n0 t e=some x) (hx:∀ y∈x,y∈A):lh (assign J A hs) t=lh J e:=by
 have a:ai n0 J (assign J A hs):=dz hall hh;unfold mS at hm;split at hm
 .rename_i n;split at hm
  .cases hm;have:=gm hd _ (hx _ (aaJ.2 rfl));simp only[fY,assign,this,CV.ev,Qs]
  .split at hm
   .rename_i he;subst he;exact vW a (by simp only[E.upto,aaB];omega)
   .cases hm
 .split at hm
  .rename_i hc;obtain⟨rfl,hu⟩:=hc;exact vW a hu
  .cases hm
omit hd hall hh in
def iX {x y:Option (List As)} (h:Bg x y=some z):∃ u v,x=some u/\y=some v/\z=u++v:=by
 unfold Bg at h;split at h
 .cases h;exact⟨_,_,rfl,rfl,rfl⟩
 .cases h
def vA {t c:CV} (hm:WY n0 t c=some x) (hx:∀ y∈x,y∈A):t.ev (assign J A hs)=c.ev J:=by
 unfold WY at hm;split at hm
 .split at hm
  .rename_i hk;subst hk;simp only[CV.ev,ky hd hall hh hm hx]
  .cases hm
 .simp only[CV.ev,OL hd hall hh hm hx]
 .simp only[CV.ev,OM hd hall hh hm hx]
 .obtain⟨u,v,h1,h2,rfl⟩:=iX hm;simp only[CV.ev,ky hd hall hh h1 (fun y a=>hx y (ab0 _ a)),ky hd hall hh h2 (fun y a=>hx y (abO _ a))]
 .obtain⟨u,v,h1,h2,rfl⟩:=iX hm;obtain⟨g,h,b,d,rfl⟩:=iX h1;obtain⟨v1,v2,e,f,rfl⟩:=iX h2;simp only[CV.ev,ky hd hall hh b (fun y a=>hx y (by simp [a])),ky hd hall hh d (fun y a=>hx y (by simp [a])),ky hd hall hh e (fun y a=>hx y (by simp [a])),ky hd hall hh f (fun y a=>hx y (by simp [a]))]
 .simp only[CV.ev,ky hd hall hh hm hx]
 .rename_i n c;split at hm
  .cases hm;have:=gm hd _ (hx _ (aaJ.2 rfl));simp only[CV.ev,assign,this]
  .split at hm
   .rename_i m;split at hm
    .rename_i he;subst he;exact CV.agree (dz hall hh) _ (by simp only[CV.upto,aaB];omega)
    .cases hm
   .cases hm
 .split at hm
  .rename_i hv;simp only[CV.ev,AE hv]
  .cases hm
 .split at hm
  .rename_i hv;rw[<-ML hv.1];exact CV.agree (dz hall hh) _ hv.2
  .cases hm
def oq:∀ (l m:List CV) (x:List As),mL n0 l m=some x->(∀ y∈x,y∈A)->l.map (CV.ev (assign J A hs))=m.map (CV.ev J)
 | [],[],_,_,_=>rfl
 | a::l,b::m,x,h,hx=>by
  simp only[mL]at h;obtain⟨u,v,h1,h2,rfl⟩:=iX h;simp only[aaY,vA hd hall hh h1 (fun y c=>hx y (ab0 _ c)),oq l m v h2 (fun y c=>hx y (abO _ c))]
 | [],_::_,_,h,_=>by simp [mL]at h
 | _::_,[],_,h,_=>by simp [mL]at h
def sU:∀ (l m:List SV) (x:List As),zN n0 l m=some x->(∀ y∈x,y∈A)->l.map (SV.ev (assign J A hs))=m.map (SV.ev J)
 | [],[],_,_,_=>rfl
 | .one a::l,.one b::m,x,h,hx=>by
  simp only[zN]at h;obtain⟨u,v,h1,h2,rfl⟩:=iX h;simp only[aaY,SV.ev,vA hd hall hh h1 (fun y c=>hx y (ab0 _ c)),sU l m v h2 (fun y c=>hx y (abO _ c))]
 | .agg a::l,.agg b::m,x,h,hx=>by
  simp only[zN]at h;obtain⟨u,v,h1,h2,rfl⟩:=iX h;simp only[aaY,SV.ev,oq hd hall hh _ _ _ h1 (fun y c=>hx y (ab0 _ c)),sU l m v h2 (fun y c=>hx y (abO _ c))]
 | [],_::_,_,h,_=>by simp [zN]at h
 | .one _::_,[],_,h,_=>by simp [zN]at h
 | .agg _::_,[],_,h,_=>by simp [zN]at h
 | .one _::_,.agg _::_,_,h,_=>by simp [zN]at h
 | .agg _::_,.one _::_,_,h,_=>by simp [zN]at h
def L0 {t c:TV} (hm:Zr n0 t c=some x) (hx:∀ y∈x,y∈A):t.ev (assign J A hs)=c.ev J:=by
 unfold Zr at hm;split at hm
 .exact vA hd hall hh hm hx
 .simp only[TV.ev,SV.ev,oq hd hall hh _ _ _ hm hx]
 .simp only[TV.ev,sU hd hall hh _ _ _ hm hx]
 .cases hm
def qs:∀ (l m:List (Option TV)) (x:List As),qp n0 l m=some x->(∀ y∈x,y∈A)->l.length=m.length/\∀ (t:Nat) v,l[t]?=some (some v)->∃ u,m[t]?=some (some u)/\v.ev (assign J A hs)=u.ev J
 | [],[],_,_,_=>⟨rfl,fun t v h=>by simp at h⟩
 | none::l,b::m,x,h,hx=>by
  simp only[qp]at h;obtain⟨h1,h2⟩:=qs l m x h hx;refine⟨by simp [h1],fun t v hv=>?_⟩;cases t with
  | zero=>simp at hv
  | succ t=>simpa using h2 t v (by simpa using hv)
 | some c::l,some b::m,x,h,hx=>by
  simp only[qp]at h;obtain⟨u,v,h1,h2,rfl⟩:=iX h;obtain⟨e1,d⟩:=qs l m v h2 (fun y a=>hx y (abO _ a));refine⟨by simp [e1],fun t v hv=>?_⟩;cases t with
  | zero =>
   simp only[abv,aaF]at hv;subst hv;exact⟨b,rfl,L0 hd hall hh h1 (fun y a=>hx y (ab0 _ a))⟩
  | succ t=>simpa using d t v (by simpa using hv)
 | some _::_,none::_,_,h,_=>by simp [qp]at h
 | [],_::_,_,h,_=>by simp [qp]at h
 | none::_,[],_,h,_=>by simp [qp]at h
 | some _::_,[],_,h,_=>by simp [qp]at h
include hdh
def Ij {t:bL} {r:Option bL} (hm:UC n0 t r=some (x,g)) (hx:∀ y∈x,y∈A) (c:∀ y∈g,y∈hs) :
 (∃ s,r=some s/\t.hl (assign J A hs)=s.hl J/\(t.own=true->s.own=true)/\(s.pos J->t.pos (assign J A hs)))\/(t.hl (assign J A hs)=Hl.none/\t.pos (assign J A hs)):=by
 unfold UC at hm;split at hm
 .right;exact⟨rfl,zzT⟩
 .rename_i a l T d l' j;split at hm
  .rename_i hT;subst hT;left;split at hm
   .simp only[aaI,abl]at hm;obtain⟨B,hB,rfl,rfl⟩:=hm;have e1:(assign J A hs).i a=J.i d:=by
     have:=gm hd _ (hx _ (aa8 ..));simp only[assign,this,CV.ev,cf,al]
    refine⟨_,rfl,?_,fun _=>rfl,?_⟩
    .simp only[bL.hl,e1,oq hd hall hh _ _ _ hB (fun y e=>hx y (aaO _ e))]
    .simp only[bL.pos,e1];exact id
   .split at hm
    .rename_i b he;subst he;simp only[aaI,abl]at hm;obtain⟨B,hB,rfl,rfl⟩:=hm;have e1:(assign J A hs).i a=J.i a:=(dz hall hh).i a;refine⟨_,rfl,?_,fun _=>rfl,?_⟩
     .simp only[bL.hl,e1,oq hd hall hh _ _ _ hB hx]
     .simp only[bL.pos,e1];exact id
    .cases hm
  .cases hm
 .rename_i k _ _ _ f _ _ _;split at hm
  .cases hm;have:=jx hdh _ (c _ (aaJ.2 rfl));left;exact⟨_,rfl,by simp only[bL.hl,assign,this],fun _=>rfl,fun _=>trivial⟩
  .split at hm
   .rename_i b he;subst he;left;exact⟨_,rfl,by simp only[bL.hl];exact(dz hall hh).h k,fun _=>rfl,fun _=>trivial⟩
   .cases hm
 .rename_i k _ _ _;split at hm
  .cases hm;have:=jx hdh _ (c _ (aaJ.2 rfl));right;exact⟨by simp only[bL.hl,assign,this],zzT⟩
  .cases hm
 .rename_i k _ _ _;split at hm
  .cases hm;have:=jx hdh _ (c _ (aaJ.2 rfl));right;exact⟨by simp only[bL.hl,assign,this],zzT⟩
  .cases hm
 .rename_i k _ _ f _ _;split at hm
  .rename_i hc;obtain⟨b,rfl⟩:=hc;cases hm;left;exact⟨_,rfl,by simp only[bL.hl];exact(dz hall hh).h k b,fun h=>h,fun _=>trivial⟩
  .cases hm
 .cases hm
def zM:∀ (l m:Mem) (x:List As) (g:List (Nat×Option Nat)),Rl n0 l m=some (x,g)->(∀ y∈x,y∈A)->(∀ y∈g,y∈hs)->∀ (p:Nat) t,l[p]?=some t ->
 (∃ s,m[p]?=some s/\t.hl (assign J A hs)=s.hl J/\(t.own=true->s.own=true)/\(s.pos J->t.pos (assign J A hs)))\/(t.hl (assign J A hs)=Hl.none/\t.pos (assign J A hs))
 | [],_,_,_,_,_,_,p,t,h=>by simp at h
 | r::l,m,x,g,h,hx,b,p,t,hp=>by
  simp only[Rl]at h;split at h
  .rename_i d h1 b1 e e1 c;cases h;cases p with
   | zero =>
    simp only[abv,aaF]at hp;subst hp;have:=Ij (J:=J) hd hall hh hdh e1 (fun y a=>hx y (ab0 _ a)) (fun y a=>b y (ab0 _ a));rwa[List.head?_eq_getElem?]at this
   | succ p =>
    have:=zM l m.tail _ _ c (fun y a=>hx y (abO _ a)) (fun y a=>b y (abO _ a)) p t (by simpa using hp);rwa[List.getElem?_tail]at this
  .cases h
end
def MRel.map (h:MRel S w0 J mem w) (hm:∀ (p:Nat) t,mem'[p]?=some t->(∃ s,mem[p]?=some s/\t.hl J'=s.hl J/\(t.own=true->s.own=true)/\(s.pos J->t.pos J'))\/(t.hl J'=Hl.none/\t.pos J')):MRel S w0 J' mem' w:=by
 refine⟨h.fV,fun r hr=>?_,fun r hr ho b hb=>?_,fun p q r s a hp c ho=>?_,fun r hr=>?_⟩
 .obtain⟨p,hp⟩:=abB hr;rcases hm p r hp with ⟨s,hs,e,_⟩ | ⟨e,_⟩
  .rw[e];exact h.sub s (aaA hs)
  .rw[e];intro b o hb;cases hb
 .obtain⟨p,hp⟩:=abB hr;rcases hm p r hp with ⟨s,hs,e,h1,_⟩ | ⟨e,_⟩
  .rw[e]at hb;exact h.own s (aaA hs) (h1 ho) b hb
  .rw[e]at hb;cases hb
 .rcases hm p r hp with ⟨d,hs,e,h1,_⟩ | ⟨e,_⟩
  .rcases hm q s c with ⟨t',g,f,_,_⟩ | ⟨f,_⟩
   .rw[e,f];exact h.bV p q d t' a hs g (h1 ho)
   .rw[f];rintro b ⟨_,y⟩;cases y
  .rw[e];rintro b ⟨y,_⟩;cases y
 .obtain⟨p,hp⟩:=abB hr;rcases hm p r hp with ⟨s,hs,_,_,h1⟩ | ⟨_,e⟩
  .exact h1 (h.pos s (aaA hs))
  .exact e
def zO (hm:Rm n0 h s=some (A,hs)) (hA:Rel S w0 J s a w):Rel S w0 (assign J A hs) h a w/\ai n0 J (assign J A hs)/\n0<=h.nv:=by
 unfold Rm at hm;split at hm
 .rename_i d b1 f e1 i;split at hm
  .rename_i hc;obtain⟨rfl,rfl⟩:d++b1=A/\f=hs:=by simpa using hm
   simp only[aaE,aaB]at hc;obtain⟨⟨⟨⟨⟨hd,hdh⟩,hall⟩,hh⟩,hp⟩,c⟩:=hc;have g:ai n0 J (assign J (d++b1) f):=dz hall hh;obtain⟨t1,t2⟩:=qs (J:=J) hd hall hh _ _ _ e1 (fun y b=>ab0 _ b);have m1:=zM (J:=J) hd hall hh hdh _ _ _ _ i (fun y b=>abO _ b) (fun y b=>b);refine⟨⟨hA.toMRel.map m1,by rw[t1];exact hA.size,hA.defers,fun t v hv=>?_,fun e he=>?_⟩,g,c⟩
   .obtain⟨u,hu,ev⟩:=t2 t v hv;rw[ev];exact hA.tmp t u hu
   .rw[aa3]at hp;have:=hp e he;simp only[aaE]at this;rw[lO g this.1];exact hA.path e (by simpa using this.2)
  .cases hm
 .cases hm
def MRel.of_map (h:MRel S w0 J mem w) (c:Nat->Nat) (hi:∀ i j,c i=c j->i=j) (hs:∀ (i:Nat) r,mem'[i]?=some r->mem[c i]?=some r\/r=.dead):MRel S w0 J mem' w:=by
 have dead:∀ (r:bL),r=.dead->(r.hl J).sub w/\(∀ b,¬(r.hl J).mem b)/\r.pos J:=fun r e=>by
  subst e;exact⟨fun b o hb=>(by cases hb),fun b hb=>(by cases hb),zzT⟩
 refine⟨h.fV,fun r hr=>?_,fun r hr ho b hb=>?_,fun p q r s d hp g ho=>?_,fun r hr=>?_⟩
 .obtain⟨i,a⟩:=abB hr;rcases hs i r a with e | e
  .exact h.sub r (aaA e)
  .exact(dead r e).1
 .obtain⟨i,a⟩:=abB hr;rcases hs i r a with e | e
  .exact h.own r (aaA e) ho b hb
  .exact absurd hb ((dead r e).2.1 b)
 .rcases hs p r hp with e | e
  .rcases hs q s g with f | f
   .exact h.bV _ _ r s (fun he=>d (hi p q he)) e f ho
   .exact fun b ⟨_,y⟩=>(dead s f).2.1 b y
  .exact fun b ⟨x,_⟩=>(dead r e).2.1 b x
 .obtain⟨i,a⟩:=abB hr;rcases hs i r a with e | e
  .exact h.pos r (aaA e)
  .exact(dead r e).2.2
def MRel.pad (h:MRel S w0 J mem w) (n:Nat):MRel S w0 J (UO mem n) w:=by
 refine h.of_map id (fun _ _ e=>e) fun i r hr=>?_;unfold UO at hr;rcases abn i mem.length with hl | hl
 .rw[aa0 hl]at hr;exact Or.inl hr
 .rw[aaQ hl]at hr;exact Or.inr (acf (aaA hr))
def MRel.swap (h:MRel S w0 J mem w) (p q:Nat):MRel S w0 J (Qj mem p q) w:=by
 unfold Qj;split
 .rename_i a b hp c;have lp:=(aaH.1 hp).1;have d:=(aaH.1 c).1;refine h.of_map (fun i=>if i=p then q else if i=q then p else i) (fun i j e=>?_) fun i r hr=>Or.inl ?_
  .have e:(if i=p then q else if i=q then p else i)=(if j=p then q else if j=q then p else j):=e;split at e<;>split at e<;>(try split at e)<;>(try split at e)<;>omega
  .show mem[if i=p then q else if i=q then p else i]?=_;by_cases h1:i=q
   .subst h1;rw[abP (by simpa using d)]at hr;by_cases h2:i=p
    .subst h2;rw[aaR rfl];rw[c]at hp ⊢;rw[<-hr];exact hp
    .rw[aaG h2,aaR rfl,hp];exact hr
   .rw[abF (fun e=>h1 e.symm)]at hr;by_cases h2:i=p
    .subst h2;rw[abP lp]at hr;rw[aaR rfl,c];exact hr
    .rw[abF (fun e=>h2 e.symm)]at hr;rw[aaG h2,aaG h1];exact hr
 .exact h
def MRel.fix:∀ (l:Mem) (p:Nat) {m:Mem},MRel S w0 J m w->MRel S w0 J (N0 n0 A l p m) w
 | [],_,_,h=>h
 | r::l,p,m,h=>by
  unfold N0;split
  .exact h
  .rename_i heq;cases heq;refine MRel.fix _ _ ?_;split
   .split
    .split
     .split
      .exact h.swap _ _
      .exact h
     .exact h
    .exact h
   .exact h
  .rename_i heq;cases heq;exact MRel.fix _ _ h
def BM (hm:Yf n0 h s=some (A,hs)) (hA:Rel S w0 J s a w):Rel S w0 (assign J A hs) h a w/\ai n0 J (assign J A hs)/\n0<=h.nv:=by
 unfold Yf at hm;split at hm
 .rename_i b h0;split at hm
  .rename_i r hr;cases hm;exact zO hr ⟨(hA.toMRel.pad _).fix _ _,hA.size,hA.defers,hA.tmp,hA.path⟩
  .exact zO hm hA
 .cases hm
end
section
variable {P:Program} {C:Ctx} {S:Nat->Prop} {w0:World} {J J':Env} {st:St} {mem mem':Mem} {a:Act} {w w':World}
def CK (P:Program) (C:Ctx) (ex:Ex):Prop:=∀ d path c st k nd ms S w0 J a w (Q:Exit->Act->World->Prop),ex d path c st k=some nd->Rel S w0 J st a w->nd.holds C ms J ->
 (∀ t,Nl S w0 C d ms st.nv J (k t) (Q (zc t)))->c.wp P Q a w
def sk (hex:CK P C ex) {d:Nat} {args:List TV} {k:TV->St->Option Nd} (h:ya P ex d f args st k=some nd) (hm:MRel S w0 J st.mem w) (hp:Path J st.path) (hn:nd.holds C ms J)
 {R:Value->World->Prop} (hk:∀ ms' r st' b J' w',(∀ i,i<d->ms' i=ms i)->k r st'=some b->ai st.nv J J'->MRel S w0 J' st'.mem w'->Path J' st'.path->b.holds C ms' J'->R (r.ev J') w') :
 Calls P f (args.map (TV.ev J)).toArray w fun e w'=>∃ v,e=.returned v/\R v w':=by
 unfold ya at h;split at h
 .rename_i fn hf;split at h
  .rename_i c hb;refine calls_of_wp hf hb ?_;have g:Rel S w0 J ⟨args.map some++List.replicate (fn.ntmps-args.length) none,st.mem,st.nv,st.path⟩ {tmps:=(args.map (TV.ev J)).toArray++Array.replicate (fn.ntmps-(args.map (TV.ev J)).toArray.size) undef,defers:=[]} w:=by
    refine⟨hm,aF,rfl,?_,hp⟩;intro t v hs;have hs':(args.map some++List.replicate (fn.ntmps-args.length) none)[t]?=some (some v):=hs;rw[acN]at hs';split at hs'
    .rename_i p;rw[aaL,aaI]at hs';obtain⟨u,q,x⟩:=hs';cases x;have j:t<args.length:=by simpa using p
     rw[Array.getElem?_append,aaR (by simpa using j)];simp [q]
    .rw[ack]at hs';split at hs'<;>cases hs'
   refine hex _ _ _ _ _ _ ms _ _ _ _ _ _ h g hn fun t=>?_;intro ms' st' b J' B w' y a D hA z;have key:∀ (t:Tag),(match kF P st' fn.results.toList with
    | some (n,vs)=>FD st' n fun s=>k (Ca vs) s
    | none=>none)=some b->B.defers=[]/\∃ v,(results fn B.tmps).run P w'=.ok v w'/\∃ v',Ending.returned v=.returned v'/\R v' w':=by
    intro t a;split at a
    .rename_i n vs hv;obtain⟨hb,l,m,cy,he,o,A⟩:=wV a hA z;refine⟨hA.defers,_,Bn hA hv hb,_,rfl,?_⟩;exact hk ms' _ l m J' w' y cy D o.toMRel o.path A
    .cases a
   cases t with
   | norm=>exact key .norm a
   | ret=>exact key .ret a
   | exit i=>cases a
  .cases h
 .cases h
def MRel.Rr (h:MRel S w0 J mem w) {r1 r2 r':bL} (hp:mem[p]?=some r1) (f:mem[q]?=some r2) (g:q≠p) (n:r1.own=true) (r:r2.own=true) (hag:∀ s∈mem,s.same J J')
 (hnew:r'.hl J'=(r1.hl J).un (r2.hl J)) (c:r'.pos J'):MRel S w0 J' ((mem.set p r').set q .dead) w:=by
 have i:p<mem.length:=(aaH.1 hp).1;have k:q<mem.length:=(aaH.1 f).1;have t:((mem.set p r').set q bL.dead)[p]?=some r':=by
  rw[abF g,abP i]
 have l:((mem.set p r').set q bL.dead)[q]?=some .dead:=abP (by simpa using k);refine h.vf (fun b=>(r1.hl J).mem b\/(r2.hl J).mem b) (fun j=>j=p\/j=q) ?_ rfl rfl rfl (aaS _) (fun b _ _=>rfl) ?_ ?_ ?_
 .rintro b (hb | hb)
  .exact⟨r1,aaA hp,n,hb⟩
  .exact⟨r2,aaA f,r,hb⟩
 .intro j s a hn;have h1:j≠p:=fun e=>hn (Or.inl e);have h2:j≠q:=fun e=>hn (Or.inr e);rw[abF h2.symm,abF h1.symm]at a;refine⟨a,hag s (aaA a),fun b hb hu=>?_⟩;rcases hu with hu | hu
  .exact h.bV p j r1 s h1.symm hp a n b ⟨hu,hb⟩
  .exact h.bV q j r2 s h2.symm f a r b ⟨hu,hb⟩
 .intro j s a hn;rcases hn with rfl | rfl
  .rw[t]at a;cases a;refine⟨⟨?_,c⟩,fun b hb=>?_⟩
   .rw[hnew];exact Hl.Jq (h.sub _ (aaA hp)) (h.sub _ (aaA f))
   .rw[hnew]at hb;exact Or.inl (Hl.fm.1 hb)
  .rw[l]at a;cases a;exact⟨⟨fun b o hb=>(by cases hb),zzT⟩,fun b hb=>(by cases hb)⟩
 .intro j j' s u m h1 h2 a d ho;rcases h1 with rfl | rfl
  .rcases h2 with rfl | rfl
   .exact absurd rfl m
   .rw[l]at d;cases d;exact fun b ⟨_,y⟩=>by cases y
  .rw[l]at a;cases a;exact fun b ⟨x,_⟩=>by cases x
def pe {mem:Mem} {p:Nat} : ∀ {l:List CV} {y:E} {q:Nat} {r:bL},OY mem p l=some (y,q,r)->mem[q]?=some r/\r.own=true/\q≠p
 | c::l,y,q,r,h=>by
  unfold OY at h;split at h
  .rename_i y' q' r' hb;split at h
   .rename_i hc;cases h;cases hr:qK c with
    | none=>rw[hr]at hb;cases hb
    | some z =>
     rw[hr]at hb;simp only[acp,aaI]at hb;obtain⟨a,b,e⟩:=hb;cases e;exact⟨bu b,hc.1,hc.2⟩
   .exact pe h
  .exact pe h
def FB {x:X} (h:BP P st o=some (s,x)) (hA:Rel S w0 J st a w):∃ J',ai st.nv J J'/\x.n=st.nv/\x.rel C J J'/\st.nv<=s.nv/\Rel S w0 J' s a w:=by
 unfold BP at h;split at h
 .split at h
  .rename_i p k vers tags links hp;split at h
   .rename_i y q r d;split at h
    .rename_i hu;cases h;have hp:=bu hp;obtain⟨h1,h2,c⟩:=pe d;have b:ai st.nv J (J.mC st.nv (((bL.hp k vers tags links).hl J).un (r.hl J))):=fF _ _ _ (aaS _);refine⟨_,b,rfl,⟨gL _ _ _,hA.bV p q _ _ c.symm hp h1 rfl⟩,by show st.nv<=st.nv+1;omega,Rel.pD b hu hA ?_ _⟩;exact hA.toMRel.Rr hp h1 c rfl h2 (Mem.agree b (St.dt hu)) (gL _ _ _) trivial
    .cases h
   .cases h
  .cases h
 .cases h
def zV {o:Oper} {ms:Nat->Nat} {k:St->Option Nd} : ∀ (n:Nat) {st:St} {J:Env} {nd:Nd},Rt P o k n st=some nd->Rel S w0 J st a w->nd.holds C ms J->∃ J' s b,ai st.nv J J'/\st.nv<=s.nv/\k s=some b/\Rel S w0 J' s a w/\b.holds C ms J'
 | 0,st,J,nd,h,hA,hn=>⟨J,st,nd,ai.refl _ _,aaS _,h,hA,hn⟩
 | n+1,st,J,nd,h,hA,hn=>by
  unfold Rt at h;split at h
  .rename_i s x hm;simp only[aaI]at h;obtain⟨d,h1,rfl⟩:=h;obtain⟨c,j,e1,r1,l,m⟩:=FB (C:=C) hm hA;have e:d.holds C ms c:=hn c (by rw[e1];exact j) r1;obtain⟨f,s2,g,p,q,h2,r,i⟩:=zV n h1 m e;exact⟨f,s2,g,j.trans (p.mono l),acz l q,h2,r,i⟩
  .exact⟨J,st,nd,ai.refl _ _,aaS _,h,hA,hn⟩
def nf (t:∀ s∈C.Γ,s.OK P) (hex:CK P C ex) {d:Nat} (h:uR P C.Γ ex d o st k=some nd) (hA:Rel S w0 J st a w) (hn:nd.holds C ms J)
 {K:Act->World->Prop} {Q:Exit->Act->World->Prop} (hk:Nl S w0 C d ms st.nv J k K):o.wp P a w K Q:=by
 unfold uR at h;split at h
 .rename_i n v H;obtain⟨hb,st',g,b,he,j,l⟩:=wV h hA hn;refine fK (qF hA H hb) (hk ms _ g J _ w (fun _ _=>rfl) b (ai.refl _ _) ?_ l);exact Rel.put j _ _ _ (fun y u=>by cases u;rfl)
 .obtain⟨I,s1,L,M,N,h1,z,A⟩:=zV 4 h hA hn;replace hk:=hk.gu (fun _ _=>rfl) M N;clear h hn hA;rename_i B;clear B;revert h1;generalize s1=D at *;intro h;have hA:=z;have hn:=A;split at h
  .rename_i R O;split at h
   .rename_i E;simp only[aaI]at h;obtain⟨g,b,rfl⟩:=h;rw[fC]at hn;refine zd (Q:=Q) t hA O hn.1 (fun J' x w' p hx j=>?_);refine hk ms _ g J' _ w' (fun _ _=>rfl) b p j ?_;have i:=hn.2;cases q:R.x with
    | none=>rw[q]at i hx;subst hx;exact i
    | some y =>
     rw[q]at i hx;exact i J' (by rw[hx.2];exact p) hx.1
   .cases h
  .split at h
   .rename_i c args ats F;split at h
    .rename_i f vs hc hx;split at h
     .rename_i e;simp only[aaE]at e;refine K7 F (pZ hA hc) e.1 (ji hA _ _ hx) ?_;refine sk hex h hA.toMRel hA.path hn fun ms' r st' g J' w' G b p hm hp l=>?_;split at b
      .rename_i E;refine hk ms' _ g J' _ w' G b p ?_ l;have m:=hA.agree p e.2;exact Rel.put (st:={st' with tmps:=D.tmps}) ⟨hm,m.size,m.defers,m.tmp,hp⟩ _ _ _ (fun y u=>by cases u;rfl)
      .cases b
     .cases h
    .cases h
   .cases h;exact absurd hn (by simp [Nd.holds,du])
   .cases h;exact absurd hn (by simp [Nd.holds,du])
   .cases h
def si {ex:Ex} (r:∀ s∈C.Γ,s.OK P) (hex:CK P C ex) {d:Nat} {ops:List Oper} {Q:Exit->Act->World->Prop} : ∀ (l:List Oper) (st:St) (k:St->Option Nd) (nd:Nd) (ms:Nat->Nat) (J:Env) (a:Act) (w:World),
 ke P C.Γ ex d ops l st k=some nd->Rel S w0 J st a w->nd.holds C ms J->Nl S w0 C d ms st.nv J k (Q .normal)->wpList P ops.toArray Q l a w
 | [],st,k,nd,ms,J,a,w,h,hA,hn,hk=>hk ms st nd J a w (fun _ _=>rfl) h (ai.refl _ _) hA hn
 | o::l,st,k,nd,ms,J,a,w,h,hA,hn,hk=>by
  have ih:=fun st k nd ms J a w=>si (d:=d) (ops:=ops) (Q:=Q) r hex l st k nd ms J a w;have one:∀ (c:St) (f:Nd),c.nv=st.nv->(uR P C.Γ ex d o c fun s=>if st.nv<=s.nv then ke P C.Γ ex d ops l s k else none)=some f->Rel S w0 J c a w->f.holds C ms J ->
   ∀ K:Act->World->Prop,(∀ a w,wpList P ops.toArray Q l a w->K a w)->o.wp P a w K Q:=by
   intro c f i h1 j m K hK;refine nf r hex h1 j m fun ms' st' u J' E w' v g q z A=>hK _ _ ?_;simp only at g;split at g
   .rename_i hle;refine ih st' k u ms' J' E w' g z A ?_;rw[i]at q;exact hk.gu v q hle
   .cases g
  have skip:∀ (c:St) (f:Nd),c.nv=st.nv->ke P C.Γ ex d ops l (c.put o.dst (some D7)) k=some f->Rel S w0 J c a w->f.holds C ms J ->
   wpList P ops.toArray Q l (a.put o.dst undef) w:=by
   intro c f i h1 j m;refine ih _ k f ms J _ w h1 (Rel.put j _ _ _ (fun y n=>by cases n;rfl)) m ?_;exact hk.gu (fun _ _=>rfl) (ai.refl _ _) (by rw[St.DK,i];exact aaS _)
  refine wpList_step fun K hK=>?_;unfold ke at h;split at h
  .cases h
  .rename_i q;rw[ja hA q];simp only[CI,ab6];exact one st nd rfl h hA hn K hK
  .rename_i e want q;have hw:Region.wanted o (yielded ops.toArray a.tmps)=(bh J e==want):=ja hA q;split at h
   .rename_i b B;have D:(bh J e==want)=(b==want):=by rw[fW hA.path B]
    rw[hw,D];split at h
    .rename_i p;rw[aaR (by simpa using p)];exact one st nd rfl h hA hn K hK
    .rename_i p;rw[aaG (by simpa using p)];exact hK _ _ (skip st nd rfl h hA hn)
   .simp only at h;split at h
    .rename_i x y h1 h2;cases h;rw[fC,jg,jg]at hn;have n:bh J (if want then e else mkNot e)=(bh J e==want):=by
      cases want
      .simp [dv]
      .simp
     rw[hw];cases hb:(bh J e==want)with
     | true =>
      rw[aaR rfl];rw[hb]at n;exact one {st with path:=(if want then e else mkNot e)::st.path} x rfl h1 (hA.rC n) (hn.1 n) K hK
     | false =>
      rw[aaG aF];rw[hb]at n;have t:bh J (mkNot (if want then e else mkNot e))=true:=by rw[dv,n];rfl
      exact hK _ _ (skip {st with path:=mkNot (if want then e else mkNot e)::st.path} y rfl h2 (hA.rC t) (hn.2 t))
    .cases h
end
def swapAt {α:Type} : Nat->List α->List α
 | 0,a::b::l=>b::a::l
 | i+1,a::l=>a::swapAt i l
 | _,l=>l
def sw (i p:Nat):Nat:=if p=i then i+1 else if p=i+1 then i else p
def VA (h:p≠q):sw i p≠sw i q:=by unfold sw;split<;>split<;>(try split)<;>(try split)<;>omega
def tw {α:Type} : ∀ {l:List α} {i p:Nat},i+1<l.length->(swapAt i l)[p]?=l[sw i p]?
 | a::b::l,0,p,_=>by
  match p with
  | 0=>rfl
  | 1=>rfl
  | p+2=>rfl
 | a::l,i+1,0,h=>rfl
 | a::l,i+1,p+1,h=>by
  show(swapAt i l)[p]?=_;rw[tw (by simpa using h)];have:sw (i+1) (p+1)=sw i p+1:=by unfold sw;split<;>split<;>(try split)<;>(try split)<;>omega
  rw[this,abq]
 | [],_,_,h=>by simp at h
 | [_],0,_,h=>by simp at h
def tz {α:Type} {l:List α} (hi:i+1<l.length) {x:α} (h:x∈swapAt i l):x∈l:=by
 obtain⟨p,hp⟩:=ada.1 h;rw[tw hi]at hp;exact aaA hp
def Rel.swap (h:Rel S w0 J st a w) (hi:i+1<st.mem.length):Rel S w0 J {st with mem:=swapAt i st.mem} a w :=
 ⟨⟨h.fV,fun r hr=>h.sub r (tz hi hr),fun r hr=>h.own r (tz hi hr),fun p q r s c hp b ho=>by
  have hp:(swapAt i st.mem)[p]?=some r:=hp;have b:(swapAt i st.mem)[q]?=some s:=b;rw[tw hi]at hp b;exact h.bV _ _ r s (VA c) hp b ho,fun r hr=>h.pos r (tz hi hr)⟩,h.size,h.defers,h.tmp,h.path⟩
def ON (n0:Nat) (h s:St):MA:=match Yf n0 h s with
 | some r=>some r
 | none=>(List.range (s.mem.length-1)).findSome? fun i=>Yf n0 h {s with mem:=swapAt i s.mem}
def sV (hm:ON n0 h s=some (A,hs)) (hA:Rel S w0 J s a w):Rel S w0 (assign J A hs) h a w/\ai n0 J (assign J A hs)/\n0<=h.nv:=by
 unfold ON at hm;split at hm
 .rename_i r hr;cases hm;exact BM hr hA
 .obtain⟨i,hi,hm⟩:=List.exists_of_findSome?_eq_some hm;exact BM hm (hA.swap (by have:=abd.1 hi;omega))
structure Eu where
 j:Nat
 slots:List (Nat×TV)
 mem:List (Nat×bL)
 nv:Nat
def Bj:Code->List Nat
 | .region _ ops _=>ops.toList.filterMap (·.dst)
 | .seq a b=>Bj a++Bj b
 | .cond _ a b=>Bj a++Bj b
 | .block _ b=>Bj b
 | .loop b=>Bj b
 | .scope b=>Bj b
 | _=>[]
def Eu.head (L:Eu) (a:List Nat) (st:St):St where
 tmps:=qu (fun i v=>match L.slots.find? fun q=>q.1==i with
  | some q=>some q.2
  | none=>if a.contains i then none else v) 0 st.tmps
 mem:=(List.range (max st.mem.length (L.mem.foldl (fun m q=>max m (q.1+1)) 0))).map fun p=>match L.mem.find? fun q=>q.1==p with
  | some q=>q.2
  | none=>st.mem.getD p .dead
 nv:=L.nv
 path:=st.path.filter (E.upto st.nv)
abbrev r8:=List Nat->Option Eu
def Kh (ex:St->Nm->Option Nd):Nat->St->Nm->Option Nd
 | 0,_,_=>none
 | m+1,st,k=>ex st fun t s=>match t with
  | .norm=>if st.nv<=s.nv then Kh ex m s k else none
  | t=>k t s
def Uj (st:St) (p:Nat):Option (St×X):=match st.mem[p]? with
 | some (.bj a l T)=>if st.upto st.nv=true then some ({st with mem:=st.mem.set p (.hp st.nv [] [.var a] []),nv:=st.nv+1},.Nh st.nv (.bj a l T))else none
 | _=>none
def WJ (k:St->Option Nd):List Nat->St->Option Nd
 | [],st=>k st
 | p::ps,st=>match Uj st p with
  | some (s,x)=>(WJ k ps s).map (.ext x)
  | none=>WJ k ps st
def Eu.hps (L:Eu):List Nat:=L.mem.filterMap fun q=>match q.2 with
 | .hp _ _ _ _=>some q.1
 | _=>none
abbrev Dk:=Ex->Nat->List Oper->St->(St->Option Nd)->Option Nd
def JR (P:Program) (Γ:List Spec) (dk:Dk) (Λ:r8) (lim:Nat) (ex:Ex):Ex:=fun d path c st k =>
 match c with
 | .skip=>k .norm st
 | .label _=>k .norm st
 | .exit i=>k (.exit i) st
 | .ret=>k .ret st
 | .region _ ops draw=>if draw then dk ex d ops.toList st (k .norm)else ke P Γ ex d ops.toList ops.toList st (k .norm)
 | .seq x y=>ex d (path++[0]) x st fun t s=>match t with
  | .norm=>if st.nv<=s.nv then ex d (path++[1]) y s k else none
  | t=>k t s
 | .cond c x y=>match de st c with
  | some (.sv (.one (.bool e)))=>match known st.path e with
   | some true=>ex d (path++[0]) x st k
   | some false=>ex d (path++[1]) y st k
   | none=>match ex d (path++[0]) x {st with path:=e::st.path} k,ex d (path++[1]) y {st with path:=mkNot e::st.path} k with
    | some a,some b=>some (pK (wU e a) (wU (mkNot e) b))
    | _,_=>none
  | _=>none
 | .block id b=>ex d (path++[0]) b st fun t s=>k (if t=.exit id then .norm else t) s
 | .loop b=>match Λ path with
  | none=>Kh (fun st k=>ex d (path++[0]) b st k) lim st k
  | some L=>WJ (fun st =>
   let hd:=L.head (Bj b) st
   match ON st.nv hd st,ex (d+1) (path++[0]) b hd fun t s=>match t with
    | .norm=>(ON st.nv hd s).map fun r=>.back d L.j r.1 r.2
    | t=>k t s with
   | some r,some nd=>some (pK (.inv L.j r.1 r.2) (.havoc d L.j st.nv nd))
   | _,_=>none) L.hps st
 | _=>none
def exec (P:Program) (Γ:List Spec) (dk:Dk) (Λ:r8) (lim:Nat):Nat->Ex
 | 0=>fun _ _ _ _ _=>none
 | n+1=>fun d path c st k =>
  let ex:=exec P Γ dk Λ lim n
  if(Λ (99::99::path)).isSome=true then some (.e .ff)else
  match Λ (99::path)with
  | none=>JR P Γ dk Λ lim ex d path c st k
  | some L =>
   let hd:=L.head (Bj c) st
   match JR P Γ dk Λ lim ex d path c st fun t s=>match t with
    | .norm=>(ON st.nv hd s).map fun r=>.inv L.j r.1 r.2
    | t=>k t s,k .norm hd with
   | some a,some b=>some (pK a (.havoc d L.j st.nv b))
   | _,_=>none
def lp (p:List Nat):Bool:=decide (p.length>1)&&!(p.head?==some 99)
def cutAt (p:List Nat) (q:List Nat):Bool:=Ng p (99::q)
def T5 (p:List Nat) (q:List Nat):Bool:=Ng p (99::99::q)
def CV.yB:CV->List Nat
 | .hptr (.var a) _=>[a]
 | .sl (.var a) _ _ _=>[a]
 | .map (.var a)=>[a]
 | .pti a _ _ _ _=>[a]
 | _=>[]
def bL.yB:bL->List Nat
 | .bj _ l _=>l.flatMap CV.yB
 | _=>[]
def TV.yB:TV->List Nat
 | .sv v=>v.cells.flatMap CV.yB
 | .tup l=>l.flatMap fun v=>v.cells.flatMap CV.yB
def IK (n0:Nat) (r:TV) (mem:Mem):Mem :=
 let used:=r.yB++mem.flatMap bL.yB
 qu (fun i x=>match x with
  | .bj a l T=>if decide (n0<=i)&&!used.contains a then .dead else .bj a l T
  | x=>x) 0 mem
def IL {r:TV} (p:Nat) (x:bL) (h:(IK n0 r mem)[p]?=some x):mem[p]?=some x\/x=.dead:=by
 unfold IK at h;simp only[o9,aaI]at h;obtain⟨y,a,h⟩:=h;split at h
 .split at h
  .exact Or.inr h.symm
  .subst h;exact Or.inl a
 .subst h;exact Or.inl a
def Wy (P:Program) (Γ:List Spec) (dk:Dk) (Λ:r8) (lim fuel:Nat) (f:FuncId) (args:List TV) (mem:Mem) (nv:Nat) (path:List E):Option Nd :=
 ya P (exec P Γ dk Λ lim fuel) 0 f args ⟨[],mem,nv,path⟩ fun r s=>some (.post (IK mem.length r s.mem) r)
def QC (P:Program) (C:Ctx) (dk:Dk):Prop:=∀ ex,CK P C ex->∀ d ops st k nd ms S w0 J a w id (Q:Exit->Act->World->Prop),dk ex d ops st k=some nd->Rel S w0 J st a w->nd.holds C ms J ->
 Nl S w0 C d ms st.nv J k (Q .normal)->(Code.region id ops.toArray true).wp P Q a w
section
variable {P:Program} {C:Ctx} {S:Nat->Prop} {w0:World} {J J':Env} {st:St} {mem mem':Mem} {a:Act} {w w':World}
def wR {c:Code} {d:Nat} {ex:St->Nm->Option Nd} {k:Nm} {Q:Exit->Act->World->Prop}
 (hex:∀ st k nd ms J a w (Q:Exit->Act->World->Prop),ex st k=some nd->Rel S w0 J st a w->nd.holds C ms J->(∀ t,Nl S w0 C d ms st.nv J (k t) (Q (zc t)))->c.wp P Q a w) :
 ∀ (m:Nat) (st:St) (nd:Nd) (ms:Nat->Nat) (J:Env) (a:Act) (w:World),Kh ex m st k=some nd->Rel S w0 J st a w->nd.holds C ms J->(∀ t,Nl S w0 C d ms st.nv J (k t) (Q (zc t)))->Code.rounds P c Q m a w
 | 0,st,nd,ms,J,a,w,h,_,_,_=>by cases h
 | m+1,st,nd,ms,J,a,w,h,hA,hn,hk=>by
  unfold Kh at h;refine hex st _ nd ms J a w _ h hA hn fun t=>?_;intro ms' st' e J' l w' f b n g j;cases t with
  | norm =>
   simp only at b;split at b
   .rename_i hle;exact wR hex m st' e ms' J' l w' b g j fun t=>(hk t).gu f n hle
   .cases b
  | ret=>exact hk .ret ms' st' e J' l w' f b n g j
  | exit i=>exact hk (.exit i) ms' st' e J' l w' f b n g j
def MRel.Nh (h:MRel S w0 J mem w) {a n:Nat} {l:List CV} (hp:mem[p]?=some (.bj a l T)) (hag:∀ s∈mem,s.same J J') (hnew:J'.h n=(bL.bj a l T).hl J):MRel S w0 J' (mem.set p (.hp n [] tags [])) w:=by
 refine h.map fun j t b=>?_;by_cases e:p=j
 .subst e;rw[abP (aaH.1 hp).1]at b;cases b;exact Or.inl ⟨_,hp,hnew,fun _=>rfl,fun _=>trivial⟩
 .rw[abF e]at b;obtain⟨h1,h2⟩:=hag t (aaA b);exact Or.inl ⟨t,b,h1,id,h2⟩
def H5 {x:X} (h:Uj st p=some (s,x)) (hA:Rel S w0 J st a w):∃ J',ai st.nv J J'/\x.n=st.nv/\x.rel C J J'/\st.nv<=s.nv/\Rel S w0 J' s a w:=by
 unfold Uj at h;split at h
 .rename_i c l T hp;split at h
  .rename_i hu;cases h;have b:ai st.nv J (J.mC st.nv ((bL.bj c l T).hl J)):=fF _ _ _ (aaS _);refine⟨_,b,rfl,gL _ _ _,by show st.nv<=st.nv+1;omega,Rel.pD b hu hA ?_ _⟩;exact hA.toMRel.Nh hp (Mem.agree b (St.dt hu)) (gL _ _ _)
  .cases h
 .cases h
def vq {ms:Nat->Nat} {k:St->Option Nd} : ∀ (ps:List Nat) {st:St} {J:Env} {nd:Nd},WJ k ps st=some nd->Rel S w0 J st a w->nd.holds C ms J->∃ J' s b,ai st.nv J J'/\st.nv<=s.nv/\k s=some b/\Rel S w0 J' s a w/\b.holds C ms J'
 | [],st,J,nd,h,hA,hn=>⟨J,st,nd,ai.refl _ _,aaS _,h,hA,hn⟩
 | p::ps,st,J,nd,h,hA,hn=>by
  unfold WJ at h;split at h
  .rename_i s x hm;simp only[aaI]at h;obtain⟨d,h1,rfl⟩:=h;obtain⟨c,j,e1,r1,l,m⟩:=H5 (C:=C) hm hA;have e:d.holds C ms c:=hn c (by rw[e1];exact j) r1;obtain⟨f,s2,g,n,o,h2,q,i⟩:=vq ps h1 m e;exact⟨f,s2,g,j.trans (n.mono l),acz l o,h2,q,i⟩
  .exact vq ps h hA hn
def NV {dk:Dk} (M:∀ s∈C.Γ,s.OK P) (lC:QC P C dk) (Λ:r8) (lim:Nat) (ih:CK P C ex):CK P C (JR P C.Γ dk Λ lim ex):=fun d path c st k nd ms S w0 J a w Q h hA hn hk=>by
 unfold JR at h;simp only at h;have self:∀ t,k t st=some nd->Q (zc t) a w:=fun t h=>hk t ms st nd J a w (fun _ _=>rfl) h (ai.refl _ _) hA hn;split at h
 .exact wp_skip (self .norm h)
 .exact wp_label (self .norm h)
 .exact wp_exit (self (.exit _) h)
 .exact wp_ret (self .ret h)
 .rename_i id ops draw;split at h
  .rename_i hd;subst hd;have:=lC _ ih d ops.toList st (k .norm) nd ms S w0 J a w id Q h hA hn (hk .norm);simpa using this
  .rename_i hd;have hd:draw=false:=by simpa using hd
   subst hd;have:=si (Q:=Q) M ih ops.toList st (k .norm) nd ms J a w h hA hn (hk .norm);exact wp_region_list (by simpa using this)
 .rename_i x y;refine wp_seq (ih d _ x st _ nd ms S w0 J a w _ h hA hn fun t=>?_);intro ms' st' o J' z w' p f u n g;cases t with
  | norm =>
   simp only at f;split at f
   .rename_i hle;exact ih d _ y st' k o ms' S w0 J' z w' Q f n g fun t=>(hk t).gu p u hle
   .cases f
  | ret=>exact hk .ret ms' st' o J' z w' p f u n g
  | exit i=>exact hk (.exit i) ms' st' o J' z w' p f u n g
 .rename_i c x y;split at h
  .rename_i e hc;have D:=aH hA hc;simp only[TV.ev,SV.ev,CV.ev]at D;split at h
   .rename_i F;exact wp_cond_true (by rw[D,fW hA.path F]) (ih d _ x st k nd ms S w0 J a w Q h hA hn hk)
   .rename_i F;exact wp_cond_false (by rw[D,fW hA.path F]) (ih d _ y st k nd ms S w0 J a w Q h hA hn hk)
   .split at h
    .rename_i n1 n2 h1 h2;cases h;rw[fC,jg,jg]at hn;refine wp_cond_split D (fun K=>?_) (fun hf=>?_)
     .exact ih d _ x {st with path:=e::st.path} k n1 ms S w0 J a w Q h1 (hA.rC K) (hn.1 K) hk
     .have K:bh J (mkNot e)=true:=by rw[dv,hf];rfl
      exact ih d _ y {st with path:=mkNot e::st.path} k n2 ms S w0 J a w Q h2 (hA.rC K) (hn.2 K) hk
    .cases h
  .cases h
 .rename_i id b;refine wp_block (ih d _ b st _ nd ms S w0 J a w _ h hA hn fun t=>?_);intro ms' st' o J' z w' p f u n g;cases t with
  | norm=>exact hk .norm ms' st' o J' z w' p (by simpa using f) u n g
  | ret=>exact hk .ret ms' st' o J' z w' p (by simpa using f) u n g
  | exit i =>
   simp only[zc,Exit.inBlock];split
   .rename_i e;subst e;exact hk .norm ms' st' o J' z w' p (by simpa using f) u n g
   .rename_i e;exact hk (.exit i) ms' st' o J' z w' p (by simpa [e] using f) u n g
 .rename_i b;split at h
  .refine wp_loop_rounds lim (wR (d:=d) (fun st k nd ms J a w Q h hA hn hk=>ih d _ b st k nd ms S w0 J a w Q h hA hn hk) lim st nd ms J a w h hA hn hk)
  .rename_i L hL;obtain⟨l,N,O,W,X,h,Y,hn⟩:=vq L.hps h hA hn;have hk:=fun t=>(hk t).gu (fun _ _=>rfl) W X;clear hA self;clear W;have hA:=Y;clear Y X;revert h hn hk hA;generalize l=J;generalize N=st;generalize O=nd;intro h hn hk hA;split at h
   .rename_i r Z hr hb;cases h;rw[fC]at hn;obtain⟨hinv,E⟩:=hn;obtain⟨B,H0,hle⟩:=sV (A:=r.1) (hs:=r.2) hr hA;have key:∀ (m:Nat) (l:Env) (H:Act) (I:World),ai st.nv J l->C.inv L.j l->Rel S w0 l (L.head (Bj b) st) H I->C.mu L.j l<=m->Code.rounds P b Q (m+1) H I:=by
     intro m
     induction m with
     | zero =>
      intro l H I u hi B hm;refine ih (d+1) _ b _ _ Z _ S w0 l H I _ hb B (E l u hi) fun t=>?_;intro ms' st' o J' z w' p f G n g;have zx:ai st.nv l J':=G.mono hle;have v:∀ i,i<d->ms' i=ms i:=fun i hi=>by
       have:=p i ah;rw[this];exact aaG ah
      cases t with
      | norm =>
       simp only[aaI]at f;obtain⟨q,hq,rfl⟩:=f;have R:=g.2;have:ms' d=C.mu L.j l:=by have:=p d ah;rw[this];exact aaR rfl
       omega
      | ret=>exact hk .ret ms' st' o J' z w' v f (u.trans zx) n g
      | exit i=>exact hk (.exit i) ms' st' o J' z w' v f (u.trans zx) n g
     | succ m T =>
      intro l H I u hi B hm;refine ih (d+1) _ b _ _ Z _ S w0 l H I _ hb B (E l u hi) fun t=>?_;intro ms' st' o J' z w' p f G n g;have zx:ai st.nv l J':=G.mono hle;have v:∀ i,i<d->ms' i=ms i:=fun i hi=>by
       have:=p i ah;rw[this];exact aaG ah
      cases t with
      | norm =>
       simp only[aaI]at f;obtain⟨q,hq,rfl⟩:=f;obtain⟨U,R⟩:=g;have:ms' d=C.mu L.j l:=by have:=p d ah;rw[this];exact aaR rfl
       obtain⟨V,Uh,_⟩:=sV (A:=q.1) (hs:=q.2) hq n;exact T _ z w' ((u.trans zx).trans Uh) U V ah
      | ret=>exact hk .ret ms' st' o J' z w' v f (u.trans zx) n g
      | exit i=>exact hk (.exit i) ms' st' o J' z w' v f (u.trans zx) n g
    exact wp_loop_rounds _ (key _ _ a w H0 hinv B (aaS _))
   .cases h
 .cases h
def JS {dk:Dk} (g:∀ s∈C.Γ,s.OK P) (lC:QC P C dk) (Λ:r8) (lim:Nat):∀ n,CK P C (exec P C.Γ dk Λ lim n)
 | 0=>fun d path c st k nd ms S w0 J a w Q h=>by cases h
 | n+1=>fun d path c st k nd ms S w0 J a w Q h hA hn hk=>by
  have ih:=NV g lC Λ lim (JS g lC Λ lim n);unfold exec at h;simp only at h;split at h
  .cases h;exact nomatch (show false=true from hn)
  split at h
  .exact ih d path c st k nd ms S w0 J a w Q h hA hn hk
  .rename_i L z;split at h
   .rename_i na v x hb;cases h;rw[fC]at hn;obtain⟨o,j⟩:=hn;refine ih d path c st _ na ms S w0 J a w Q x hA o fun t=>?_;intro ms' st' l J' p w' m b r e f;cases t with
    | norm =>
     simp only[aaI]at b;obtain⟨q,y,rfl⟩:=b;obtain⟨u,zx,hle⟩:=sV (A:=q.1) (hs:=q.2) y e;have Uh:ai st.nv J (assign J' q.1 q.2):=r.trans zx;exact hk .norm _ _ v (assign J' q.1 q.2) p w' (fun i hi=>aaG ah) hb Uh u (j _ Uh f)
    | ret=>exact hk .ret ms' st' l J' p w' m b r e f
    | exit i=>exact hk (.exit i) ms' st' l J' p w' m b r e f
   .cases h
def zn {dk:Dk} (b:∀ s∈C.Γ,s.OK P) (lC:QC P C dk) {Λ:r8} {args:List TV} (h:Wy P C.Γ dk Λ lim fuel f args mem nv path=some nd)
 (hm:MRel S w0 J mem w) (hp:Path J path) (hn:nd.holds C ms J) :
 Calls P f (args.map (TV.ev J)).toArray w fun e w'=>∃ J' mem' r,e=.returned (r.ev J')/\ai nv J J'/\MRel S w0 J' mem' w'/\C.post J' mem' r:=by
 have:=sk (st:=⟨[],mem,nv,path⟩) (JS b lC Λ lim fuel) h hm hp hn (R:=fun v w'=>∃ J' mem' r,v=r.ev J'/\ai nv J J'/\MRel S w0 J' mem' w'/\C.post J' mem' r)
  (fun ms' r st' j J' w' _ c d a _ g=>by cases c;exact⟨J',_,r,rfl,d,a.sublist IL,g⟩)
 refine this.mono fun e w' ⟨v,he,J',mem',r,hv,d,a,i⟩=>⟨J',mem',r,by rw[he,hv],d,a,i⟩
end
end Go.Sx
