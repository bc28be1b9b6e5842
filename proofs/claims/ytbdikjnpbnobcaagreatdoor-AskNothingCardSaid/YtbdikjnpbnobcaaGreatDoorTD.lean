/- Bytes that are no request are told nothing and change nothing: a part of the proof. No condition. -/
import Derived.LoopN
import Derived.LoopNIn
import Derived.OrdersIn
import Derived.RangeFuncKeeps
import Derived.TacticsIn
import Derived.Test.YtbdikjnpbnobcaaGreatDoorTC
set_option linter.all false
namespace Go.Sx
open Go
variable {args:Array Operand}{ts:Array TypeId}{e n:E}{f:FuncId}{x z:List As}{cs path tags:List E}{ws xs:List Value}{fuel i len lim m nv p q:Nat}{nd:Nd}{o:Oper}{c y:Operand}{ro:Option Nat}{d:Option Tmp}{h s:St}{k:St->Option Nd}{T t:TypeId}{R:XR}
section
variable {P:Program} {C:Ctx} {ms:Nat->Nat} {S:Nat->Prop} {w0:World} {J J':Env} {st:St} {mem mem':Mem} {a:Act} {w w':World} {W:OpJ P}
def makeE_sound (hA:Rel S w0 J st a w) (hu:st.upto st.nv=true) {x y:TV} (h:makeE P st t x y d=some R) (hn:R.need.holds C ms J)
 {K:Act->World->Prop} (hK:Fin S w0 C J st a d R K):∃ v' w',(Instr.makeSlice t (x.ev J) (y.ev J)).run P w=.ok v' w'/\K (a.put d v') w':=by
 unfold makeE at h;split at h
 .rename_i el k l E c G;split at h
  .rename_i q;subst q;split at h
   .rename_i i hi;split at h
    .rename_i z hz;split at h
     .rename_i f;simp only at h;have key:∀ (r:Res),r.own=true->(∀ J',Agree st.nv J J'->0<=J'.i st.nv->J'.h st.nv=Hl.one (J'.i st.nv).toNat (.cells (madeCells z.cells ((iev J l).toNat*i.size)) el (0,0))->r.hl J'=J'.h st.nv/\r.pos J') ->
       ∀ R':XR,R'=⟨({st with mem:=st.mem++[r],nv:=st.nv+1} : St).put d (some (.sv (.one (.sl (.var st.nv) (.lit 0) l l)))),.pre (.mk st.nv el (z.cells.toList.map liftC) i.bytes l),some (.mk st.nv el (z.cells.toList.map liftC) i.bytes l)⟩ ->
       R'.need.holds C ms J->Fin S w0 C J st a d R' K->∃ v' w',(Instr.makeSlice t (.int k (iev J l)) (.int E (iev J l))).run P w=.ok v' w'/\K (a.put d v') w':=by
       intro r hr hres R' s hn hK;subst s;obtain⟨h0,hby,v⟩:=hn;have g:=run_make (P:=P) w t el i z G hi hz k E (iev J l) (iev J l) h0 (MT _) hby v
       let F:Obj:=.cells (madeCells z.cells ((iev J l).toNat*i.size)) el
       let J':=(J.setI st.nv w.heap.size).setH st.nv (Hl.one w.heap.size F)
       have hg:Agree st.nv J J':=(agree_setI _ _ _ (M1 _)).trans (agree_setH _ _ _ (M1 _));have e1:J'.i st.nv=w.heap.size:=by show(J.setI st.nv w.heap.size).i st.nv=_;rw[setI_i]
       have A:J'.h st.nv=Hl.one w.heap.size F:=setH_h _ _ _;have j:J'.h st.nv=Hl.one (J'.i st.nv).toNat (.cells (madeCells z.cells ((iev J l).toNat*i.size)) el (0,0)):=by rw[e1,MD];exact A
       obtain⟨n,B⟩:=hres J' hg (by rw[e1];omega) j;refine⟨_,_,g,hK J' _ _ hg ⟨⟨by rw[e1];omega,?_⟩,rfl⟩ (Rel.step hA hu hg ?_ _ _ _ _ ?_)⟩
       .rw[j,map_liftC];simp only[Pr,M7,Of,f.1]
       .refine hA.toMRel.add rfl rfl rfl ar (fun b hb=>RowKit.Below.heap_alloc w _ b hb) (Mem.agree hg (St.upto_mem hu)) ?_ B ?_
        .rw[n,A];intro b o hb;obtain⟨rfl,rfl⟩:=Hl.one_eq hb;exact heap_alloc_new w _
        .intro b hb;rw[n,A]at hb;rw[Hl.one_mem.1 hb];exact M1 _
       .intro u D;cases D;simp only[TV.ev,SV.ev,CV.ev,iev_var,iev_lit,e1,iev_agree hg f.2.2];rw[slP_pos ae];simp
      have p:=key (.hp st.nv [] [.var st.nv] []) rfl (fun J' _ _ _=>⟨rfl,zzT⟩);split at h
      .rename_i m;split at h
       .cases h;refine key (.blk st.nv (madeCVs (z.cells.toList.map liftC) (m.toNat*i.size)) el) rfl (fun J' hg h0 he=>⟨?_,h0⟩) _ rfl hn hK;rw[he];show Hl.one _ _=_;have e:=madeCVs_ev (J:=J') (z:=z.cells.toList.map liftC) (zs:=z.cells.toList) (map_liftC _ _) (by rw[Of];omega) (m.toNat*i.size);rw[e];simp [iev_lit]
       .cases h;exact p _ rfl hn hK
      .cases h;exact p _ rfl hn hK
     .cases h
    .cases h
   .cases h
  .cases h
 .cases h
def bslE_sound (hA:Rel S w0 J st a w) (hu:st.upto st.nv=true) {is:List Nat} {vs:List TV} (h:bslE P st t len is vs d=some R)
 {K:Act->World->Prop} (hK:Fin S w0 C J st a d R K):∃ v' w',(Instr.buildSlice t len (is.zip (vs.map (TV.ev J))).toArray).run P w=.ok v' w'/\K (a.put d v') w':=by
 unfold bslE at h;split at h
 .rename_i el o;split at h
  .rename_i n z us hs hz g;split at h
   .rename_i q;split at h
    .rename_i l hl;have hf:=fillE_sound (J:=J) _ _ _ hl;have c:¬len*n>2 ^ 24:=ae;refine⟨.slice (some ⟨w.heap.size,0,none⟩) len len,w.alloc (.cells (l.map (CV.ev J)).toArray el),?_,newBlk_sound h hu hA hK rfl (fun J' hg hi=>?_)⟩
     .rw[svs_ev _ _ g,<-zip_ev];unfold Instr.buildSlice;simp only[Sem.run_bind,run_underlying o,Result.andThen_ok,sizeT_run hs,c,Om];have b:∀ f:Array Value,(Array.range (len*n)).map (fun j=>f[j%f.size]!)=((madeCVs (z.cells.toList.map liftC) (len*n)).map (CV.ev J)).toArray ->
       Instr.fill (fun i=>some (i*n,n)) ((Array.range (len*n)).map (fun j=>f[j%f.size]!)) ((is.zip us).map fun(p:Nat×SV)=>(p.1,SV.ev J p.2))=some (l.map (CV.ev J)).toArray:=by
       intro f k;rw[k,hf]
      by_cases h0:len*n=0
      .rw[M0 h0];simp only[Sem.run_bind,Sem.run_pure,Result.andThen_ok];rw[b #[] (by simp [h0,madeCVs])];rfl
      .rw[MM h0];simp only[Sem.run_bind,Sem.run_pure,Result.andThen_ok,zeroT_run hz];rw[b z.cells ?_]
       .rfl
       have m:0<z.cells.toList.length:=by
        rw[Of,q.2];exact Nat.pos_of_ne_zero (fun e=>h0 (by rw[e,Nat.mul_zero]))
       have e:=madeCVs_ev (J:=J) (z:=z.cells.toList.map liftC) (zs:=z.cells.toList) (map_liftC _ _) m (len*n);rw[e];simp only[madeCells,Pr]
     .simp only[TV.ev,SV.ev,CV.ev,iev_var,iev_lit,hi];rw[slP_pos ae];simp
    .cases h
   .cases h
  .cases h
 .cases h
def enterB_run (h:enterB P f=true) (args:Array Value) (w:World):(callFunc f args).run P w=.ok (.enter f args) w:=by
 unfold enterB at h;split at h
 .rename_i fn hf;simp only[ML,NK]at h;unfold callFunc;simp only[Sem.run_bind,program,Sem.run,Result.andThen_ok,hf,h.2,NI,Om];cases hb:fn.body with
  | none=>simp [hb]at h
  | some c=>simp
 .cases h
def calleeOf_sound (hA:Rel S w0 J st a w) (h:calleeOf st c=some f):a.eval c=.func (.func f) #[] #[]:=by
 unfold calleeOf at h;split at h
 .cases h;rfl
 .rename_i t;split at h
  .rename_i g x y hs;split at h
   .rename_i b;cases h;simp only[ML,Array.isEmpty_iff]at b;obtain⟨rfl,rfl⟩:=b;have:=hA.tmp t _ hs;simp [Act.eval,this,TV.ev,SV.ev,CV.ev]
   .cases h
  .cases h
 .cases h
def wp_clo (d:o.op=.call {callee:=.value c,args,argTypes:=ts}) (g:a.eval c=.func (.func f) #[] ws.toArray) (he:enterB P f=true) (hx:args.toList.map a.eval=xs)
 {K:Act->World->Prop} {Q:Exit->Act->World->Prop} (i:Calls P f (xs++ws).toArray w fun e w'=>∃ v,e=.returned v/\K (a.put o.dst v) w'):W.j o a w K Q:=by
 have k:args.map a.eval=xs.toArray:=by rw[<-hx];obtain⟨l⟩:=args;exact Pm
 have b:(execOp a.eval o).run P w=.ok (.enter f (xs++ws).toArray) w:=by
  unfold execOp;rw[d];simp only[resolve,g,Deferred.ofValue,Sem.run_bind,Sem.run_pure,Result.andThen_ok,invoke];rw[k];have h:=enterB_run (P:=P) he (xs++ws).toArray w;rw[show(xs++ws).toArray=#[]++xs.toArray++ws.toArray by simp]at h ⊢;exact h
 exact W.call b i
def wp_call (b:o.op=.call {callee:=.value c,args,argTypes:=ts}) (d:a.eval c=.func (.func f) #[] #[]) (he:enterB P f=true) (hx:args.toList.map a.eval=xs)
 {K:Act->World->Prop} {Q:Exit->Act->World->Prop} (g:Calls P f xs.toArray w fun e w'=>∃ v,e=.returned v/\K (a.put o.dst v) w'):W.j o a w K Q :=
 wp_clo (ws:=[]) b d he hx (by rw[Nu];exact g)
def closOf_sound (hA:Rel S w0 J st a w) {ws:List TV} (h:closOf st c=some (f,ws)):a.eval c=.func (.func f) #[] (ws.map (TV.ev J)).toArray:=by
 unfold closOf at h;split at h
 .rename_i g hg;cases h;exact calleeOf_sound hA hg
 .split at h
  .rename_i t hz;have key:∀ v,st.tmps[t]?=some (some v)->a.eval (.tmp t)=v.ev J:=fun v hv=>by
    have:=hA.tmp t v hv;simp [Act.eval,this]
   split at h
   .rename_i hs;cases h;rw[key _ hs];simp [TV.ev,SV.ev,CV.ev,iev_lit]
   .rename_i hs;cases h;rw[key _ hs];simp [TV.ev,SV.ev,CV.ev,iev_lit]
   .cases h
  .cases h
def cbsE_sound (hA:Rel S w0 J st a w) (hu:st.upto st.nv=true) {s d:TypeId} (q:o.op=.convert s d y) {x:TV} (hx:a.eval y=x.ev J) (h:cbsE P st s d x o.dst=some R)
 {K:Act->World->Prop} {Q:Exit->Act->World->Prop} (hK:Fin S w0 C J st a o.dst R K):W.j o a w K Q:=by
 unfold cbsE at h;split at h
 .rename_i r;subst r;split at h
  .rename_i el hs;split at h
   .rename_i f;obtain⟨f,t⟩:=f;have he:=isU8_eq f;split at h
    .rename_i b y' l c;split at h
     .rename_i p cs T hb;cases h;have hp:=fBlk_sound hb;have m:0<=J.i b:=hA.pos _ (MG hp);have hw:=hA.toMRel.blk hp
      let o':Obj:=.cells (cs.map (CV.ev J)).toArray T (cs.length,cs.length+1)
      let w':World:=w.freeze ⟨(J.i b).toNat,cs.length,none⟩ 1
      have B:(J.i b).toNat<w.heap.size:=(Ng.1 hw).1;have u:w'.heap[(J.i b).toNat]?=some o':=by
       show(w.freeze ⟨(J.i b).toNat,cs.length,none⟩ 1).heap[(J.i b).toNat]?=_;unfold World.freeze;rw[MM aj];simp only[PU,OA,hw,Nl];rfl
      have v:∀ k,k≠(J.i b).toNat->w'.heap[k]?=w.heap[k]?:=by
       intro k hk;show(w.freeze ⟨(J.i b).toNat,cs.length,none⟩ 1).heap[k]?=_;unfold World.freeze;rw[MM aj];simp only[PU,MM hk.symm]
      have hsz:w'.heap.size=w.heap.size:=by
       show(w.freeze ⟨(J.i b).toNat,cs.length,none⟩ 1).heap.size=_;unfold World.freeze;rw[MM aj];simp
      have g:w'.os=w.os/\w'.tape=w.tape/\w'.output=w.output:=by
       show(w.freeze ⟨(J.i b).toNat,cs.length,none⟩ 1).os=_/\(w.freeze ⟨(J.i b).toNat,cs.length,none⟩ 1).tape=_/\(w.freeze ⟨(J.i b).toNat,cs.length,none⟩ 1).output=_;unfold World.freeze;rw[MM aj];exact⟨rfl,rfl,rfl⟩
      have ex:a.eval y=.slice (some ⟨(J.i b).toNat,(iev J y').toNat,none⟩) (iev J l).toNat (iev J c).toNat:=by
       rw[hx];simp only[TV.ev,SV.ev,CV.ev,iev_var];rw[slP_pos m]
      have n:(execOp a.eval o).run P w=.ok (.value (a.eval y)) w':=by
       have A:w.shape? (J.i b).toNat=some (T,cs.length):=by
        unfold World.shape?;rw[hw];simp
       unfold execOp;rw[q];simp [convert,run_underlying hs,run_underlying he,markStringish,ex,A];rfl
      refine wp_value n ?_;have hg:Agree st.nv J (J.setH st.nv (Hl.one (J.i b).toNat o')):=agree_setH _ _ _ (M1 _);refine hK _ _ w' hg ⟨setH_h _ _ _,rfl⟩ (Rel.step hA hu hg ?_ _ _ _ _ (fun z hz=>?_))
      .refine hA.toMRel.set hp rfl g.1 g.2.1 g.2.2 ae (fun k _ hk=>v k fun e=>hk (by rw[e];exact Hl.one_mem.2 rfl)) (Mem.agree hg (St.upto_mem hu)) ?_ trivial ?_
       .intro k D hk;rw[show(Res.hp st.nv [] [E.var b] []).hl (J.setH st.nv (Hl.one (J.i b).toNat o'))=Hl.one (J.i b).toNat o' from setH_h _ _ _]at hk;obtain⟨rfl,rfl⟩:=Hl.one_eq hk;exact u
       .intro k hk;rw[show(Res.hp st.nv [] [E.var b] []).hl (J.setH st.nv (Hl.one (J.i b).toNat o'))=Hl.one (J.i b).toNat o' from setH_h _ _ _]at hk;left;show(Hl.one (J.i b).toNat _).mem k;exact Hl.one_mem.2 (Hl.one_mem.1 hk)
      .cases hz;rw[hx];exact(TV.agree hg _ t).symm
     .cases h
    .cases h
   .cases h
  .cases h
 .cases h
def mki_run {d:TypeDesc} (hd:P.underlying T=some d) (a:∀ i,d≠.interface i) (x:Value) (w:World):(Instr.makeInterface T x).run P w=.ok (.iface T x) w:=by
 unfold Instr.makeInterface;rw[Sem.run_bind,run_underlying hd];cases d with
 | interface i=>exact absurd rfl (a i)
 | _=>rfl
def mkiV (hA:Rel S w0 J st a w) (hu:st.upto st.nv=true) (c:o.op=.makeInterface T y) {v:SV} (hx:a.eval y=v.ev J) {d:TypeDesc} (hd:P.underlying T=some d) (e:∀ i,d≠.interface i)
 {K:Act->World->Prop} {Q:Exit->Act->World->Prop} (hK:Fin S w0 C J st a o.dst ⟨({st with nv:=st.nv+1} : St).put o.dst (some (.sv (.one (.vr st.nv)))),.tt,some (.mki st.nv T v)⟩ K):W.j o a w K Q:=by
 have b:(execOp a.eval o).run P w=.ok (.value (.iface T (v.ev J))) w:=by
  unfold execOp;rw[c];simp only[Sem.run_bind,hx];simp [mki_run hd e]
 refine wp_value b ?_;have hg:Agree st.nv J (J.setV st.nv (.iface T (v.ev J))):=agree_setV _ _ _ (M1 _);refine hK _ _ w hg ⟨?_,rfl⟩ (Rel.put (Rel.tmps_agree hg hu hA (hA.agree hg hu).toMRel _) _ _ _ (fun z hz=>?_))
 .show(J.setV st.nv (.iface T (v.ev J))).v st.nv=_;simp [Env.setV]
 .cases hz;simp [TV.ev,SV.ev,CV.ev,Env.setV]
def mkiE_sound (hA:Rel S w0 J st a w) (hu:st.upto st.nv=true) (b:o.op=.makeInterface T y) {x:TV} (hx:a.eval y=x.ev J) (h:mkiE P st T x o.dst=some R)
 {K:Act->World->Prop} {Q:Exit->Act->World->Prop} (hK:Fin S w0 C J st a o.dst R K):W.j o a w K Q:=by
 unfold mkiE at h;split at h
 .split at h
  .rename_i e hd;cases h;exact mkiV hA hu b hx hd ar hK
  .rename_i e hd;cases h;exact mkiV hA hu b hx hd ar hK
  .cases h
 .cases h
def extE_sound (B:∀ s∈C.Γ,s.OK P) (hA:Rel S w0 J st a w) (h:extE P C.Γ st o=some R) (hn:R.need.holds C ms J)
 {K:Act->World->Prop} {Q:Exit->Act->World->Prop} (hK:Fin S w0 C J st a o.dst R K):W.j o a w K Q:=by
 unfold extE at h;split at h
 .rename_i hu;split at h
  .rename_i t b;split at h
   .rename_i z hz;have e:(execOp a.eval o).run P w=.ok (.value (.pointer (some ⟨w.heap.size,0,none⟩))) (w.alloc (.cells z.cells t)):=by
     unfold execOp;rw[b];simp only[Sem.run_bind,Instr.alloc,zeroT_run hz,Result.andThen_ok];rfl
    refine wp_value e (newBlk_sound h hu hA hK (by rw[map_liftC]) (fun J' hg hi=>?_));simp only[TV.ev,SV.ev,CV.ev,iev_var,iev_lit,hi];rw[slP_pos ae];simp
   .cases h
  .rename_i t x b;split at h
   .rename_i v hx;split at h
    .rename_i r;have ex:=opnd_sound hA hx;have e:(execOp a.eval o).run P w=.ok (.value (.pointer (some ⟨w.heap.size,0,none⟩))) (w.alloc (.cells (v.ev J).cells t)):=by
      unfold execOp;rw[b];simp only[Sem.run_bind,Instr.box,ex,TV.ev];rfl
     refine wp_value e (newBlk_sound h hu hA hK ?_ (fun J' hg hi=>?_))
     .rw[<-SV.cells_ev v r]
     .simp only[TV.ev,SV.ev,CV.ev,iev_var,iev_lit,hi];rw[slP_pos ae];simp
    .cases h
   .cases h
  .rename_i t p x b;split at h
   .rename_i O v hp hx;have N:a.eval p=O.ev J:=opnd_sound hA hp;have ex:a.eval x=v.ev J:=opnd_sound hA hx;split at h
    .rename_i n mem hs;cases h;simp only[ndE_holds]at hn;obtain⟨q,w',D,e,hm⟩:=storeE_inl hA.toMRel hs hn;have g:(execOp a.eval o).run P w=.ok .skip w':=by
      unfold execOp;rw[b];simp only[Sem.run_bind,Instr.storeAt,N,ex,D,Instr.sureAddr,Sem.run_pure,Result.andThen_ok,e]
     exact wp_skip' g (hK J _ w' (Agree.refl _ _) rfl (Rel.put (st:={st with mem:=mem}) ⟨hm,hA.size,hA.defers,hA.tmp,hA.path⟩ _ _ _ (fun y hy=>by cases hy)))
    .rename_i x' mem hs;cases h;obtain⟨q,w',J',D,e,hg,u,E,hm⟩:=storeE_inr hA hu hs hn;have g:(execOp a.eval o).run P w=.ok .skip w':=by
      unfold execOp;rw[b];simp only[Sem.run_bind,Instr.storeAt,N,ex,D,Instr.sureAddr,Sem.run_pure,Result.andThen_ok,e]
     exact wp_skip' g (hK J' _ w' hg ⟨u,E⟩ (Rel.step hA hu hg hm _ _ _ _ (fun y hy=>by cases hy)))
    .cases h
   .cases h
  .rename_i t l c b;split at h
   .rename_i x y hl F;obtain⟨v',w',e,hk⟩:=makeE_sound hA hu h hn hK;refine wp_value (v:=v') (w':=w') ?_ hk;unfold execOp;rw[b];simp only[Sem.run_bind,opnd_sound hA hl,opnd_sound hA F,e,Result.andThen_ok,Sem.run_pure]
   .cases h
  .rename_i t len parts b;split at h
   .rename_i vs hx;obtain⟨v',w',e,hk⟩:=bslE_sound hA hu h hK;refine wp_value (v:=v') (w':=w') ?_ hk;have e1:=opnds_sound hA _ _ hx;have U:(parts.map fun p=>(p.1,a.eval p.2))=((parts.toList.map (·.1)).zip (vs.map (TV.ev J))).toArray:=by
     rw[<-e1,NY,<-map_zip2 parts.toList];obtain⟨l⟩:=parts;exact Pm
    unfold execOp;rw[b];rw[<-U]at e;simp only[Sem.run_bind,e,Result.andThen_ok,Sem.run_pure]
   .cases h
  .rename_i args ats b;split at h
   .rename_i x y t t' A i;split at h
    .rename_i G;subst G;split at h
     .rename_i H I hx hy;obtain⟨v',w',e,hk⟩:=appE_sound (ty:=o.type) hA hu h hn hK;refine wp_value (v:=v') (w':=w') ?_ hk;have L:args.map a.eval=#[H.ev J,I.ev J]:=by
       obtain⟨l⟩:=args;simp only at A;subst A;simp [opnd_sound hA hx,opnd_sound hA hy]
      have M:ats=#[t,t]:=by obtain⟨l⟩:=ats;simp only at i;rw[i]
      obtain⟨dst,op,ty,pos,V,gd⟩:=o;simp only at b;subst b;rw[BigFrame.execOp_builtin,L,M];unfold builtin;simp only[Sem.run_bind,e,Result.andThen_ok,Sem.run_pure]
     .cases h
    .cases h
   .cases h
  .rename_i args ats b;split at h
   .rename_i x y t t' A i;split at h
    .rename_i H I hx hy;obtain⟨v',w',e,hk⟩:=copyE_sound (t':=t') (ty:=o.type) hA hu h hn hK;refine wp_value (v:=v') (w':=w') ?_ hk;have L:args.map a.eval=#[H.ev J,I.ev J]:=by
      obtain⟨l⟩:=args;simp only at A;subst A;simp [opnd_sound hA hx,opnd_sound hA hy]
     have M:ats=#[t,t']:=by obtain⟨l⟩:=ats;simp only at i;rw[i]
     obtain⟨dst,op,ty,pos,V,gd⟩:=o;simp only at b;subst b;rw[BigFrame.execOp_builtin,L,M];unfold builtin;simp only[Sem.run_bind,e,Result.andThen_ok,Sem.run_pure]
    .cases h
   .cases h
  .rename_i s d x b;split at h
   .rename_i x hx;exact cbsE_sound hA hu b (opnd_sound hA hx) h hK
   .cases h
  .rename_i T x b;split at h
   .rename_i x hx;exact mkiE_sound hA hu b (opnd_sound hA hx) h hK
   .cases h
  .rename_i t b;exact mapE_sound hA hu (by rw[b];exact h) hn hK
  .rename_i t m k ok b;exact mapE_sound hA hu (by rw[b];exact h) hn hK
  .rename_i t m k v b;exact mapE_sound hA hu (by rw[b];exact h) hn hK
  .rename_i args ats b;exact mapE_sound hA hu (by rw[b];exact h) hn hK
  .rename_i c args ats b;split at h
   .rename_i f vs F hx;split at h
    .rename_i he;exact wp_call b (calleeOf_sound hA F) he (opnds_sound hA _ _ hx) (callE_sound B hA hu h hn hK)
    .cases h
   .cases h
  .cases h
 .cases h
end
inductive Tag | norm | ret | exit (id:Nat)
 deriving DecidableEq
def exitOf:Tag->Exit
 | .norm=>.normal
 | .ret=>.ret
 | .exit i=>.exit i
abbrev Kont:=Tag->St->Option Nd
def conjs:E->List E
 | .and a b=>conjs a++conjs b
 | e=>[e]
def needE (path:List E) (n:E):List E:=(conjs n).filter fun c=>!(known path c==some true)
def needAnd:List E->Nd->Nd
 | [],a=>a
 | c::l,a=>ndAnd (ndE c) (needAnd l a)
def needK (st:St) (n:E) (k:St->Option Nd):Option Nd :=
 let cs:=needE st.path n
 (k {st with path:=cs++st.path}).map (needAnd cs)
def conjs_all {J:Env} : ∀ n:E,(∀ c∈conjs n,bev J c=true)->bev J n=true:=by
 intro n
 induction n with
 | and a b d e =>
  intro h;simp only[conjs,Nb]at h;rw[bev_and,d (fun c f=>h c (Or.inl f)),e (fun c f=>h c (Or.inr f))];rfl
 | _=>intro h;exact h _ (by simp [conjs])
def skipTV:TV:=.sv (.one (.val undef))
def notBool:Value->Bool
 | .bool _=>false
 | _=>true
def guardE (ops:List Oper) (st:St) (o:Oper):Option (Option (E×Bool)) :=
 match o.guard with
 | none=>some none
 | some (j,want)=>match(ops[j]?).bind (·.dst)with
  | some t=>match st.tmps[t]? with
   | some (some (.sv (.one (.bool e))))=>some (some (e,want))
   | some (some (.sv (.one (.val v))))=>if notBool v then some (some (.ff,true))else none
   | _=>none
  | none=>none
def resultsE (P:Program) (st:St):List ResultVar->Option (E×List SV)
 | []=>some (.tt,[])
 | .tmp t::l=>match opnd st (.tmp t),resultsE P st l with
  | some (.sv v),some (m,vs)=>some (m,v::vs)
  | _,_=>none
 | .cell t ty::l=>match opnd st (.tmp t),resultsE P st l with
  | some (.sv (.one c)),some (m,vs)=>match loadE P st.mem ty c with
   | some (k,v)=>some (mkAnd k m,v::vs)
   | none=>none
  | _,_=>none
def outOf:List SV->TV
 | [v]=>.sv v
 | l=>.tup l
abbrev Ex:=Nat->List Nat->Code->St->Kont->Option Nd
variable {ex:Ex}
def inlineK (P:Program) (ex:Ex) (d:Nat) (f:FuncId) (args:List TV) (st:St) (k:TV->St->Option Nd):Option Nd :=
 match P.funcs[f]? with
 | some fn=>match fn.body with
  | some c=>ex d [f] c ⟨args.map some++List.replicate (fn.ntmps-args.length) none,st.mem,st.nv,st.path⟩ fun t s=>match t with
   | .exit _=>none
   | _=>match resultsE P s fn.results.toList with
    | some (n,vs)=>needK s n fun s=>k (outOf vs) s
    | none=>none
  | none=>none
 | none=>none
def mrgK (P:Program) (o:Oper) (k:St->Option Nd):Nat->St->Option Nd
 | 0,st=>k st
 | n+1,st=>match mrgOf P st o with
  | some (s,x)=>(mrgK P o k n s).map (.ext x ·)
  | none=>k st
def stepK (P:Program) (Γ:List Spec) (ex:Ex) (d:Nat) (o:Oper) (st:St) (k:St->Option Nd):Option Nd :=
 match quiet P st o.op with
 | some (n,v)=>needK st n fun st=>k (st.put o.dst (some v))
 | none=>mrgK P o (fun st=>match extE P Γ st o with
  | some R=>if st.nv<=R.st.nv then(k R.st).map fun nd=>ndAnd R.need (match R.x with | some x=>.ext x nd | none=>nd)else none
  | none=>match o.op with
   | .call {callee:=.value c,args,argTypes:=_}=>match closOf st c,opnds st args.toList with
    | some (f,ws),some vs=>if enterB P f&&st.upto st.nv then inlineK P ex d f (vs++ws) st fun r s=>if st.nv<=s.nv then k (({s with tmps:=st.tmps} : St).put o.dst (some r))else none else none
    | _,_=>none
   | .panic _=>some (.e .ff)
   | .makeInterface _ _=>some (.e .ff)
   | _=>none) 4 st
def execOps (P:Program) (Γ:List Spec) (ex:Ex) (d:Nat) (ops:List Oper):List Oper->St->(St->Option Nd)->Option Nd
 | [],st,k=>k st
 | o::l,st,k=>match guardE ops st o with
  | none=>none
  | some none=>stepK P Γ ex d o st fun s=>if st.nv<=s.nv then execOps P Γ ex d ops l s k else none
  | some (some (e,want))=>match known st.path e with
   | some b=>if b=want then stepK P Γ ex d o st fun s=>if st.nv<=s.nv then execOps P Γ ex d ops l s k else none else execOps P Γ ex d ops l (st.put o.dst (some skipTV)) k
   | none =>
    let y:=if want then e else mkNot e
    match stepK P Γ ex d o {st with path:=y::st.path} fun s=>if st.nv<=s.nv then execOps P Γ ex d ops l s k else none,execOps P Γ ex d ops l (({st with path:=mkNot y::st.path} : St).put o.dst (some skipTV)) k with
    | some a,some b=>some (ndAnd (ndImp y a) (ndImp (mkNot y) b))
    | _,_=>none
section
variable {P:Program} {C:Ctx} {ms:Nat->Nat} {S:Nat->Prop} {w0:World} {J J':Env} {st:St} {mem mem':Mem} {a:Act} {w w':World}
def KOK (S:Nat->Prop) (w0:World) (C:Ctx) (d:Nat) (ms:Nat->Nat) (n:Nat) (J:Env) (k:St->Option Nd) (K:Act->World->Prop):Prop :=
 ∀ a st' nd J' a' w',(∀ i,i<d->a i=ms i)->k st'=some nd->Agree n J J'->Rel S w0 J' st' a' w'->nd.holds C a J'->K a' w'
def KOK.of_agree {d n:Nat} {a:Nat->Nat} {K:Act->World->Prop} (h:KOK S w0 C d ms n J k K) (c:∀ i,i<d->a i=ms i) (hg:Agree n J J') (hm:n<=m):KOK S w0 C d a m J' k K :=
 fun b st' nd e a' w' f hk g hA hn=>h b st' nd e a' w' (fun i hi=>(f i hi).trans (c i hi)) hk (hg.trans (g.mono hm)) hA hn
def Rel.path_add (hA:Rel S w0 J st a w) (h:∀ c∈cs,bev J c=true):Rel S w0 J {st with path:=cs++st.path} a w :=
 ⟨hA.toMRel,hA.size,hA.defers,hA.tmp,fun e he=>(Nb.1 he).elim (h e) (hA.path e)⟩
def Rel.path_cons (hA:Rel S w0 J st a w) {c:E} (h:bev J c=true):Rel S w0 J {st with path:=c::st.path} a w :=
 hA.path_add (cs:=[c]) (fun x hx=>by rw[MO.1 hx];exact h)
def needAnd_holds:∀ (cs:List E) (a:Nd),(needAnd cs a).holds C ms J->(∀ c∈cs,bev J c=true)/\a.holds C ms J
 | [],a,h=>⟨ar,h⟩
 | c::l,a,h=>by
  simp only[needAnd,ndAnd_holds,ndE_holds]at h;obtain⟨h1,h2⟩:=needAnd_holds l a h.2;exact⟨fun x hx=>(MQ.1 hx).elim (fun e=>e▸h.1) (h1 x),h2⟩
def needK_sound (h:needK st n k=some nd) (hA:Rel S w0 J st a w) (hn:nd.holds C ms J) :
 bev J n=true/\∃ st' b,k st'=some b/\st'={st with path:=needE st.path n++st.path}/\Rel S w0 J st' a w/\b.holds C ms J:=by
 unfold needK at h;simp only[MN]at h;obtain⟨b,hk,rfl⟩:=h;obtain⟨h1,h2⟩:=needAnd_holds _ _ hn;refine⟨conjs_all n fun c d=>?_,_,b,hk,rfl,hA.path_add h1,h2⟩;by_cases hk:known st.path c=some true
 .exact known_sound hA.path hk
 .exact h1 c (by unfold needE;rw[NW];exact⟨d,by simpa using hk⟩)
def wantB (J:Env):Option (E×Bool)->Bool
 | none=>true
 | some q=>bev J q.1==q.2
def guard_sound (hr:Rel S w0 J st a w) {ops:List Oper} {g:Option (E×Bool)} (h:guardE ops st o=some g) :
 Region.wanted o (yielded ops.toArray a.tmps)=wantB J g:=by
 unfold guardE at h;unfold Region.wanted;split at h
 .rename_i hg;cases h;simp only[hg,wantB]
 .rename_i j want hg;simp only[hg];split at h
  .rename_i t b;split at h
   .rename_i e hs;cases h;have:=hr.tmp t _ hs;have hy:yielded ops.toArray a.tmps j=some (bev J e):=by
     unfold yielded;have e1:(ops.toArray[j]?).bind (·.dst)=some t:=by simpa using b
     rw[e1];simp only[OM,this,TV.ev,SV.ev,CV.ev]
    rw[hy];simp [wantB]
   .rename_i v hs;split at h
    .rename_i hv;cases h;have:=hr.tmp t _ hs;have hy:yielded ops.toArray a.tmps j=none:=by
      unfold yielded;have e1:(ops.toArray[j]?).bind (·.dst)=some t:=by simpa using b
      rw[e1];simp only[OM,this,TV.ev,SV.ev,CV.ev];cases v<;>simp [notBool]at hv ⊢
     rw[hy];simp [wantB,bev_ff]
    .cases h
   .cases h
  .cases h
def resultsE_sound (hA:Rel S w0 J st a w):∀ (l:List ResultVar) (n:E) (vs:List SV),resultsE P st l=some (n,vs)->bev J n=true ->
 (l.mapM fun(x:ResultVar)=>match x with
  | .tmp t=>(pure (a.tmps.getD t undef):Sem Value)
  | .cell p t=>do loadVar t (<-asAddr (a.tmps.getD p undef))).run P w=.ok (vs.map (SV.ev J)) w
 | [],n,vs,h,_=>by cases h;rfl
 | .tmp t::l,n,vs,h,hn=>by
  simp only[resultsE]at h;split at h
  .rename_i v m d h1 h2;cases h;have e1:=opnd_sound hA h1;simp only[Act.eval,TV.ev]at e1;have ih:=resultsE_sound hA l _ _ h2 hn;simp only[PY,Sem.run_bind,Sem.run_pure,Result.andThen_ok,ih,M6];rw[<-e1]
  .cases h
 | .cell p t::l,n,vs,h,hn=>by
  simp only[resultsE]at h;split at h
  .rename_i c m d h1 h2;split at h
   .rename_i k v hl;cases h;rw[bev_mkAnd,ML]at hn;have e1:=opnd_sound hA h1;obtain⟨q,e,b⟩:=loadE_sound hA.toMRel hl hn.1;simp only[Act.eval,TV.ev,SV.ev,e]at e1;have ih:=resultsE_sound hA l _ _ h2 hn.2;have f:(asAddr (a.tmps.getD p undef)).run P w=.ok q w:=by rw[e1];rfl
    simp only[PY,Sem.run_bind,f,Sem.run_pure,Result.andThen_ok,b,ih,M6]
   .cases h
  .cases h
def results_sound (hA:Rel S w0 J st a w) {fn:Func} {vs:List SV} (h:resultsE P st fn.results.toList=some (n,vs)) (hn:bev J n=true) :
 (results fn a.tmps).run P w=.ok ((outOf vs).ev J) w:=by
 have key:=resultsE_sound hA _ _ _ h hn;unfold results;have hm:(fn.results.mapM fun(x:ResultVar)=>match x with
  | .tmp t=>(pure (a.tmps.getD t undef):Sem Value)
  | .cell p t=>do loadVar t (<-asAddr (a.tmps.getD p undef))).run P w=.ok (vs.map (SV.ev J)).toArray w:=by
  generalize fn.results=rs at *;obtain⟨l⟩:=rs;simp only[PJ,Sem.run_map,key,Result.andThen_ok]
 simp only[Sem.run_bind];refine(Ns (fun r=>Result.andThen r _) hm).trans ?_;simp only[Result.andThen_ok,Sem.run_pure]
 congr 1
 match vs with
 | []=>simp [outOf,TV.ev]
 | [v]=>simp [outOf,TV.ev]
 | v::u::l=>simp [outOf,TV.ev]
end
abbrev MA:=Option (List As×List (Nat×Option Nat))
def mI (n0:Nat) (t e:E):Option (List As) :=
 match t with
 | .var n=>if n0<=n then some [⟨n,0,.int .i64 e⟩]else if t=e then some []else none
 | t=>if t=e/\t.upto n0=true then some []else none
def mB (n0:Nat) (t e:E):Option (List As) :=
 match t with
 | .bvar n=>if n0<=n then some [⟨n,1,.bool e⟩]else if t=e then some []else none
 | t=>if t=e/\t.upto n0=true then some []else none
def mS (n0:Nat) (t e:E):Option (List As) :=
 match t with
 | .svar n=>if n0<=n then some [⟨n,2,.str e⟩]else if t=e then some []else none
 | t=>if t=e/\t.upto n0=true then some []else none
def app2:Option (List As)->Option (List As)->Option (List As)
 | some a,some b=>some (a++b)
 | _,_=>none
def samePl:CV->CV->Bool
 | .pti a o s n i,.pti a' o' c n' d=>decide (a=a')&&decide (o=o')&&decide (s=c)&&decide (n=n')&&decide (i=d)
 | .hv h x y j,.hv h' x' y' j'=>decide (h=h')&&decide (x=x')&&decide (y=y')&&decide (j=j')
 | .clo f x,.clo b x'=>decide (f=b)&&decide (x=x')
 | .clo2 f x y,.clo2 b x' y'=>decide (f=b)&&decide (x=x')&&decide (y=y')
 | _,_=>false
def samePl_eq {a b:CV} (h:samePl a b=true):a=b:=by
 unfold samePl at h;split at h
 .simp only[ML,MI]at h;obtain⟨⟨⟨⟨rfl,rfl⟩,rfl⟩,rfl⟩,rfl⟩:=h;rfl
 .simp only[ML,MI]at h;obtain⟨⟨⟨rfl,rfl⟩,rfl⟩,rfl⟩:=h;rfl
 .simp only[ML,MI]at h;obtain⟨rfl,rfl⟩:=h;rfl
 .simp only[ML,MI]at h;obtain⟨⟨rfl,rfl⟩,rfl⟩:=h;rfl
 .cases h
def mCV (n0:Nat) (t c:CV):Option (List As) :=
 match t,c with
 | .int k e,.int b a=>if k=b then mI n0 e a else none
 | .bool e,.bool a=>mB n0 e a
 | .str e,.str a=>mS n0 e a
 | .hptr x y,.hptr x' y'=>app2 (mI n0 x x') (mI n0 y y')
 | .sl x y l c,.sl x' y' l' c'=>app2 (app2 (mI n0 x x') (mI n0 y y')) (app2 (mI n0 l l') (mI n0 c c'))
 | .map x,.map x'=>mI n0 x x'
 | .vr n,c=>if n0<=n then some [⟨n,3,c⟩]else match c with
  | .vr m=>if n=m then some []else none
  | _=>none
 | .val v,.val v'=>if sameV v v' then some []else none
 | t,c=>if samePl t c=true/\t.upto n0=true then some []else none
def mL (n0:Nat):List CV->List CV->Option (List As)
 | [],[]=>some []
 | a::l,b::m=>app2 (mCV n0 a b) (mL n0 l m)
 | _,_=>none
def mSVs (n0:Nat):List SV->List SV->Option (List As)
 | [],[]=>some []
 | .one a::l,.one b::m=>app2 (mCV n0 a b) (mSVs n0 l m)
 | .agg a::l,.agg b::m=>app2 (mL n0 a b) (mSVs n0 l m)
 | _,_=>none
def mTV (n0:Nat):TV->TV->Option (List As)
 | .sv (.one a),.sv (.one b)=>mCV n0 a b
 | .sv (.agg l),.sv (.agg m)=>mL n0 l m
 | .tup l,.tup m=>mSVs n0 l m
 | _,_=>none
def mTmps (n0:Nat):List (Option TV)->List (Option TV)->Option (List As)
 | [],[]=>some []
 | none::l,_::m=>mTmps n0 l m
 | some a::l,some b::m=>app2 (mTV n0 a b) (mTmps n0 l m)
 | _,_=>none
def mRes (n0:Nat) (t:Res) (r:Option Res):MA :=
 match t,r with
 | .dead,_=>some ([],[])
 | .blk a l T,some (.blk a' l' c)=>if T=c then
  if n0<=a then(mL n0 l l').map fun A=>(⟨a,0,.int .i64 (.var a')⟩::A,[])else if a=a' then(mL n0 l l').map fun A=>(A,[])else none
  else none
 | .hp k _ _ _,some (.hp b _ _ _)=>if n0<=k then some ([],[(k,some b)])else if k=b then some ([],[])else none
 | .hp k _ _ _,some .dead=>if n0<=k then some ([],[(k,none)])else none
 | .hp k _ _ _,none=>if n0<=k then some ([],[(k,none)])else none
 | .ro k _ _,some (.ro b _ _)=>if k<n0/\k=b then some ([],[])else none
 | _,_=>none
def mMem (n0:Nat):Mem->Mem->MA
 | [],_=>some ([],[])
 | r::l,m=>match mRes n0 r m.head?,mMem n0 l m.tail with
  | some (a,h),some (b,g)=>some (a++b,h++g)
  | _,_=>none
def distinctA:List As->Bool
 | []=>true
 | a::l=>(l.all fun x=>!(x.n==a.n&&x.k==a.k))&&distinctA l
def distinctH:List (Nat×Option Nat)->Bool
 | []=>true
 | a::l=>(l.all fun x=>!(x.1==a.1))&&distinctH l
def mSt0 (n0:Nat) (h s:St):MA :=
 match mTmps n0 h.tmps s.tmps,mMem n0 h.mem s.mem with
 | some a,some (b,g)=>if distinctA (a++b)&&distinctH g&&((a++b).all fun x=>decide (n0<=x.n))&&(g.all fun x=>decide (n0<=x.1))&&(h.path.all fun e=>e.upto n0&&s.path.contains e)&&decide (n0<=h.nv)then some (a++b,g)else none
 | _,_=>none
def swapM (m:Mem) (p q:Nat):Mem:=match m[p]?,m[q]? with
 | some a,some b=>(m.set p b).set q a
 | _,_=>m
def padM (m:Mem) (n:Nat):Mem:=m++List.replicate (n-m.length) .dead
def fixM (n0:Nat) (A:List As):Mem->Nat->Mem->Mem
 | [],_,m=>m
 | .hp k _ (.var a::_) _::l,p,m=>fixM n0 A l (p+1) (if n0<=k/\n0<=a then match A.find? (fun x=>x.n==a&&x.k==0)with
  | some ⟨_,_,.int _ e⟩=>match posOf m e with
   | some (q,r)=>if r.own=true then swapM m p q else m
   | none=>m
  | _=>m
  else m)
 | _::l,p,m=>fixM n0 A l (p+1) m
def mSt (n0:Nat) (h s:St):MA:=match mTmps n0 h.tmps s.tmps with
 | some A=>match mSt0 n0 h {s with mem:=fixM n0 A h.mem 0 (padM s.mem h.mem.length)} with
  | some r=>some r
  | none=>mSt0 n0 h s
 | none=>none
section
variable {P:Program} {C:Ctx} {ms:Nat->Nat} {S:Nat->Prop} {w0:World} {J J':Env} {st:St} {mem mem':Mem} {a:Act} {w w':World} {n0:Nat} {A:List As} {hs:List (Nat×Option Nat)}
def assign_agree (hA:A.all (fun x=>decide (n0<=x.n))=true) (hh:hs.all (fun x=>decide (n0<=x.1))=true):Agree n0 J (assign J A hs):=by
 rw[M8]at hA hh;have key:∀ k j,k<n0->A.find? (fun a=>a.n==k&&a.k==j)=none:=fun k j hk=>by
  rw[OQ];intro x hx;have:=hA x hx;simp only[MI]at this;simp;omega
 refine⟨fun k hk=>?_,fun k hk=>?_,fun k hk=>?_,fun k hk=>?_,fun k hk=>?_⟩
 .simp only[assign,key k 0 hk]
 .simp only[assign,key k 1 hk]
 .simp only[assign,key k 2 hk]
 .simp only[assign,key k 3 hk]
 .have:hs.find? (fun p=>p.1==k)=none:=by
   rw[OQ];intro x hx;have:=hh x hx;simp only[MI]at this;simp;omega
  simp only[assign,this]
def distinctA_find:∀ {A:List As},distinctA A=true->∀ x∈A,A.find? (fun a=>a.n==x.n&&a.k==x.k)=some x
 | [],_,_,h=>by cases h
 | y::l,h,x,hx=>by
  simp only[distinctA,ML,M8,NK]at h;rw[PR];rcases MQ.1 hx with rfl | hx
  .simp
  .have:=h.1 x hx;have hb:(y.n==x.n&&y.k==x.k)=false:=by
    rw[<-this];congr 1<;>exact Bool.beq_comm
   rw[hb];exact distinctA_find h.2 x hx
def distinctH_find:∀ {A:List (Nat×Option Nat)},distinctH A=true->∀ x∈A,A.find? (fun a=>a.1==x.1)=some x
 | [],_,_,h=>by cases h
 | y::l,h,x,hx=>by
  simp only[distinctH,ML,M8,NK]at h;rw[PR];rcases MQ.1 hx with rfl | hx
  .simp
  .have:=h.1 x hx;have hb:(y.1==x.1)=false:=by rw[<-this];exact Bool.beq_comm
   rw[hb];exact distinctH_find h.2 x hx
section
variable (hd:distinctA A=true) (hall:A.all (fun x=>decide (n0<=x.n))=true) (hh:hs.all (fun x=>decide (n0<=x.1))=true) (hdh:distinctH hs=true)
include hd hall hh
def mI_sound {t:E} (hm:mI n0 t e=some x) (hx:∀ y∈x,y∈A):iev (assign J A hs) t=iev J e:=by
 have hg:Agree n0 J (assign J A hs):=assign_agree hall hh;unfold mI at hm;split at hm
 .rename_i n;split at hm
  .cases hm;have:=distinctA_find hd _ (hx _ (MO.2 rfl));simp only[iev_var,assign,this,CV.ev,valI]
  .split at hm
   .rename_i he;subst he;exact iev_agree hg (by simp only[E.upto,MI];omega)
   .cases hm
 .split at hm
  .rename_i a;obtain⟨rfl,hu⟩:=a;exact iev_agree hg hu
  .cases hm
def mB_sound {t:E} (hm:mB n0 t e=some x) (hx:∀ y∈x,y∈A):bev (assign J A hs) t=bev J e:=by
 have hg:Agree n0 J (assign J A hs):=assign_agree hall hh;unfold mB at hm;split at hm
 .rename_i n;split at hm
  .cases hm;have:=distinctA_find hd _ (hx _ (MO.2 rfl));simp only[bev_bvar,assign,this,CV.ev,valB]
  .split at hm
   .rename_i he;subst he;exact bev_agree hg (by simp only[E.upto,MI];omega)
   .cases hm
 .split at hm
  .rename_i a;obtain⟨rfl,hu⟩:=a;exact bev_agree hg hu
  .cases hm
def mS_sound {t:E} (hm:mS n0 t e=some x) (hx:∀ y∈x,y∈A):sev (assign J A hs) t=sev J e:=by
 have hg:Agree n0 J (assign J A hs):=assign_agree hall hh;unfold mS at hm;split at hm
 .rename_i n;split at hm
  .cases hm;have:=distinctA_find hd _ (hx _ (MO.2 rfl));simp only[sev_svar,assign,this,CV.ev,valS]
  .split at hm
   .rename_i he;subst he;exact sev_agree hg (by simp only[E.upto,MI];omega)
   .cases hm
 .split at hm
  .rename_i a;obtain⟨rfl,hu⟩:=a;exact sev_agree hg hu
  .cases hm
omit hd hall hh in
def app2_some {x y:Option (List As)} (h:app2 x y=some z):∃ u v,x=some u/\y=some v/\z=u++v:=by
 unfold app2 at h;split at h
 .cases h;exact⟨_,_,rfl,rfl,rfl⟩
 .cases h
def mCV_sound {t c:CV} (hm:mCV n0 t c=some x) (hx:∀ y∈x,y∈A):t.ev (assign J A hs)=c.ev J:=by
 unfold mCV at hm;split at hm
 .split at hm
  .rename_i hk;subst hk;simp only[CV.ev,mI_sound hd hall hh hm hx]
  .cases hm
 .simp only[CV.ev,mB_sound hd hall hh hm hx]
 .simp only[CV.ev,mS_sound hd hall hh hm hx]
 .obtain⟨u,v,h1,h2,rfl⟩:=app2_some hm;simp only[CV.ev,mI_sound hd hall hh h1 (fun y hy=>hx y (N5 _ hy)),mI_sound hd hall hh h2 (fun y hy=>hx y (NQ _ hy))]
 .obtain⟨u,v,h1,h2,rfl⟩:=app2_some hm;obtain⟨f,g,a,b,rfl⟩:=app2_some h1;obtain⟨v1,v2,d,e,rfl⟩:=app2_some h2;simp only[CV.ev,mI_sound hd hall hh a (fun y hy=>hx y (by simp [hy])),mI_sound hd hall hh b (fun y hy=>hx y (by simp [hy])),mI_sound hd hall hh d (fun y hy=>hx y (by simp [hy])),mI_sound hd hall hh e (fun y hy=>hx y (by simp [hy]))]
 .simp only[CV.ev,mI_sound hd hall hh hm hx]
 .rename_i n c;split at hm
  .cases hm;have:=distinctA_find hd _ (hx _ (MO.2 rfl));simp only[CV.ev,assign,this]
  .split at hm
   .rename_i m;split at hm
    .rename_i he;subst he;exact CV.agree (assign_agree hall hh) _ (by simp only[CV.upto,MI];omega)
    .cases hm
   .cases hm
 .split at hm
  .rename_i hv;simp only[CV.ev,sameV_eq hv]
  .cases hm
 .split at hm
  .rename_i hv;rw[<-samePl_eq hv.1];exact CV.agree (assign_agree hall hh) _ hv.2
  .cases hm
def mL_sound:∀ (l m:List CV) (x:List As),mL n0 l m=some x->(∀ y∈x,y∈A)->l.map (CV.ev (assign J A hs))=m.map (CV.ev J)
 | [],[],_,_,_=>rfl
 | a::l,b::m,x,h,hx=>by
  simp only[mL]at h;obtain⟨u,v,h1,h2,rfl⟩:=app2_some h;simp only[M6,mCV_sound hd hall hh h1 (fun y hy=>hx y (N5 _ hy)),mL_sound l m v h2 (fun y hy=>hx y (NQ _ hy))]
 | [],_::_,_,h,_=>by simp [mL]at h
 | _::_,[],_,h,_=>by simp [mL]at h
def mSVs_sound:∀ (l m:List SV) (x:List As),mSVs n0 l m=some x->(∀ y∈x,y∈A)->l.map (SV.ev (assign J A hs))=m.map (SV.ev J)
 | [],[],_,_,_=>rfl
 | .one a::l,.one b::m,x,h,hx=>by
  simp only[mSVs]at h;obtain⟨u,v,h1,h2,rfl⟩:=app2_some h;simp only[M6,SV.ev,mCV_sound hd hall hh h1 (fun y hy=>hx y (N5 _ hy)),mSVs_sound l m v h2 (fun y hy=>hx y (NQ _ hy))]
 | .agg a::l,.agg b::m,x,h,hx=>by
  simp only[mSVs]at h;obtain⟨u,v,h1,h2,rfl⟩:=app2_some h;simp only[M6,SV.ev,mL_sound hd hall hh _ _ _ h1 (fun y hy=>hx y (N5 _ hy)),mSVs_sound l m v h2 (fun y hy=>hx y (NQ _ hy))]
 | [],_::_,_,h,_=>by simp [mSVs]at h
 | .one _::_,[],_,h,_=>by simp [mSVs]at h
 | .agg _::_,[],_,h,_=>by simp [mSVs]at h
 | .one _::_,.agg _::_,_,h,_=>by simp [mSVs]at h
 | .agg _::_,.one _::_,_,h,_=>by simp [mSVs]at h
def mTV_sound {t c:TV} (hm:mTV n0 t c=some x) (hx:∀ y∈x,y∈A):t.ev (assign J A hs)=c.ev J:=by
 unfold mTV at hm;split at hm
 .exact mCV_sound hd hall hh hm hx
 .simp only[TV.ev,SV.ev,mL_sound hd hall hh _ _ _ hm hx]
 .simp only[TV.ev,mSVs_sound hd hall hh _ _ _ hm hx]
 .cases hm
def mTmps_sound:∀ (l m:List (Option TV)) (x:List As),mTmps n0 l m=some x->(∀ y∈x,y∈A)->l.length=m.length/\∀ (t:Nat) v,l[t]?=some (some v)->∃ u,m[t]?=some (some u)/\v.ev (assign J A hs)=u.ev J
 | [],[],_,_,_=>⟨rfl,fun t v h=>by simp at h⟩
 | none::l,b::m,x,h,hx=>by
  simp only[mTmps]at h;obtain⟨h1,h2⟩:=mTmps_sound l m x h hx;refine⟨by simp [h1],fun t v hv=>?_⟩;cases t with
  | zero=>simp at hv
  | succ t=>simpa using h2 t v (by simpa using hv)
 | some c::l,some b::m,x,h,hx=>by
  simp only[mTmps]at h;obtain⟨u,v,h1,h2,rfl⟩:=app2_some h;obtain⟨e1,a⟩:=mTmps_sound l m v h2 (fun y hy=>hx y (NQ _ hy));refine⟨by simp [e1],fun t v hv=>?_⟩;cases t with
  | zero =>
   simp only[NG,MP]at hv;subst hv;exact⟨b,rfl,mTV_sound hd hall hh h1 (fun y hy=>hx y (N5 _ hy))⟩
  | succ t=>simpa using a t v (by simpa using hv)
 | some _::_,none::_,_,h,_=>by simp [mTmps]at h
 | [],_::_,_,h,_=>by simp [mTmps]at h
 | none::_,[],_,h,_=>by simp [mTmps]at h
 | some _::_,[],_,h,_=>by simp [mTmps]at h
include hdh
def mRes_sound {t:Res} {r:Option Res} {g:List (Nat×Option Nat)} (hm:mRes n0 t r=some (x,g)) (hx:∀ y∈x,y∈A) (hg:∀ y∈g,y∈hs) :
 (∃ s,r=some s/\t.hl (assign J A hs)=s.hl J/\(t.own=true->s.own=true)/\(s.pos J->t.pos (assign J A hs)))\/(t.hl (assign J A hs)=Hl.none/\t.pos (assign J A hs)):=by
 unfold mRes at hm;split at hm
 .right;exact⟨rfl,zzT⟩
 .rename_i a l T a' l' e;split at hm
  .rename_i hT;subst hT;left;split at hm
   .simp only[MN,Nr]at hm;obtain⟨B,hB,rfl,rfl⟩:=hm;have e1:(assign J A hs).i a=J.i a':=by
     have:=distinctA_find hd _ (hx _ (Nh ..));simp only[assign,this,CV.ev,valI,iev_var]
    refine⟨_,rfl,?_,fun _=>rfl,?_⟩
    .simp only[Res.hl,e1,mL_sound hd hall hh _ _ _ hB (fun y hy=>hx y (MW _ hy))]
    .simp only[Res.pos,e1];exact id
   .split at hm
    .rename_i b he;subst he;simp only[MN,Nr]at hm;obtain⟨B,hB,rfl,rfl⟩:=hm;have e1:(assign J A hs).i a=J.i a:=(assign_agree hall hh).i a;refine⟨_,rfl,?_,fun _=>rfl,?_⟩
     .simp only[Res.hl,e1,mL_sound hd hall hh _ _ _ hB hx]
     .simp only[Res.pos,e1];exact id
    .cases hm
  .cases hm
 .rename_i k _ _ _ c _ _ _;split at hm
  .cases hm;have:=distinctH_find hdh _ (hg _ (MO.2 rfl));left;exact⟨_,rfl,by simp only[Res.hl,assign,this],fun _=>rfl,fun _=>trivial⟩
  .split at hm
   .rename_i b he;subst he;left;exact⟨_,rfl,by simp only[Res.hl];exact(assign_agree hall hh).h k,fun _=>rfl,fun _=>trivial⟩
   .cases hm
 .rename_i k _ _ _;split at hm
  .cases hm;have:=distinctH_find hdh _ (hg _ (MO.2 rfl));right;exact⟨by simp only[Res.hl,assign,this],zzT⟩
  .cases hm
 .rename_i k _ _ _;split at hm
  .cases hm;have:=distinctH_find hdh _ (hg _ (MO.2 rfl));right;exact⟨by simp only[Res.hl,assign,this],zzT⟩
  .cases hm
 .rename_i k _ _ c _ _;split at hm
  .rename_i d;obtain⟨b,rfl⟩:=d;cases hm;left;exact⟨_,rfl,by simp only[Res.hl];exact(assign_agree hall hh).h k b,fun h=>h,fun _=>trivial⟩
  .cases hm
 .cases hm
def mMem_sound:∀ (l m:Mem) (x:List As) (g:List (Nat×Option Nat)),mMem n0 l m=some (x,g)->(∀ y∈x,y∈A)->(∀ y∈g,y∈hs)->∀ (p:Nat) t,l[p]?=some t ->
 (∃ s,m[p]?=some s/\t.hl (assign J A hs)=s.hl J/\(t.own=true->s.own=true)/\(s.pos J->t.pos (assign J A hs)))\/(t.hl (assign J A hs)=Hl.none/\t.pos (assign J A hs))
 | [],_,_,_,_,_,_,p,t,h=>by simp at h
 | r::l,m,x,g,h,hx,hg,p,t,hp=>by
  simp only[mMem]at h;split at h
  .rename_i a1 h1 b1 b e1 a;cases h;cases p with
   | zero =>
    simp only[NG,MP]at hp;subst hp;have:=mRes_sound (J:=J) hd hall hh hdh e1 (fun y hy=>hx y (N5 _ hy)) (fun y hy=>hg y (N5 _ hy));rwa[List.head?_eq_getElem?]at this
   | succ p =>
    have:=mMem_sound l m.tail _ _ a (fun y hy=>hx y (NQ _ hy)) (fun y hy=>hg y (NQ _ hy)) p t (by simpa using hp);rwa[List.getElem?_tail]at this
  .cases h
end
def MRel.map (h:MRel S w0 J mem w) (hm:∀ (p:Nat) t,mem'[p]?=some t->(∃ s,mem[p]?=some s/\t.hl J'=s.hl J/\(t.own=true->s.own=true)/\(s.pos J->t.pos J'))\/(t.hl J'=Hl.none/\t.pos J')):MRel S w0 J' mem' w:=by
 refine⟨h.keep,fun r hr=>?_,fun r hr ho b hb=>?_,fun p q r s a hp c ho=>?_,fun r hr=>?_⟩
 .obtain⟨p,hp⟩:=NA hr;rcases hm p r hp with ⟨s,hs,e,_⟩ | ⟨e,_⟩
  .rw[e];exact h.sub s (MG hs)
  .rw[e];intro b o hb;cases hb
 .obtain⟨p,hp⟩:=NA hr;rcases hm p r hp with ⟨s,hs,e,h1,_⟩ | ⟨e,_⟩
  .rw[e]at hb;exact h.own s (MG hs) (h1 ho) b hb
  .rw[e]at hb;cases hb
 .rcases hm p r hp with ⟨d,hs,e,h1,_⟩ | ⟨e,_⟩
  .rcases hm q s c with ⟨t',g,f,_,_⟩ | ⟨f,_⟩
   .rw[e,f];exact h.dis p q d t' a hs g (h1 ho)
   .rw[f];rintro b ⟨_,y⟩;cases y
  .rw[e];rintro b ⟨y,_⟩;cases y
 .obtain⟨p,hp⟩:=NA hr;rcases hm p r hp with ⟨s,hs,_,_,h1⟩ | ⟨_,e⟩
  .exact h1 (h.pos s (MG hs))
  .exact e
def mSt0_sound (hm:mSt0 n0 h s=some (A,hs)) (hA:Rel S w0 J s a w):Rel S w0 (assign J A hs) h a w/\Agree n0 J (assign J A hs)/\n0<=h.nv:=by
 unfold mSt0 at hm;split at hm
 .rename_i a1 b1 c e1 f;split at hm
  .rename_i d;obtain⟨rfl,rfl⟩:a1++b1=A/\c=hs:=by simpa using hm
   simp only[ML,MI]at d;obtain⟨⟨⟨⟨⟨hd,hdh⟩,hall⟩,hh⟩,hp⟩,b⟩:=d;have hg:Agree n0 J (assign J (a1++b1) c):=assign_agree hall hh;obtain⟨t1,t2⟩:=mTmps_sound (J:=J) hd hall hh _ _ _ e1 (fun y hy=>N5 _ hy);have m1:=mMem_sound (J:=J) hd hall hh hdh _ _ _ _ f (fun y hy=>NQ _ hy) (fun y hy=>hy);refine⟨⟨hA.toMRel.map m1,by rw[t1];exact hA.size,hA.defers,fun t v hv=>?_,fun e he=>?_⟩,hg,b⟩
   .obtain⟨u,hu,ev⟩:=t2 t v hv;rw[ev];exact hA.tmp t u hu
   .rw[M8]at hp;have:=hp e he;simp only[ML]at this;rw[bev_agree hg this.1];exact hA.path e (by simpa using this.2)
  .cases hm
 .cases hm
def MRel.of_map (h:MRel S w0 J mem w) {mem':Mem} (σ:Nat->Nat) (hi:∀ i j,σ i=σ j->i=j) (hs:∀ (i:Nat) r,mem'[i]?=some r->mem[σ i]?=some r\/r=.dead):MRel S w0 J mem' w:=by
 have dead:∀ (r:Res),r=.dead->(r.hl J).sub w/\(∀ b,¬(r.hl J).mem b)/\r.pos J:=fun r e=>by
  subst e;exact⟨fun b o hb=>(by cases hb),fun b hb=>(by cases hb),zzT⟩
 refine⟨h.keep,fun r hr=>?_,fun r hr ho b hb=>?_,fun p q r s c hp f ho=>?_,fun r hr=>?_⟩
 .obtain⟨i,a⟩:=NA hr;rcases hs i r a with e | e
  .exact h.sub r (MG e)
  .exact(dead r e).1
 .obtain⟨i,a⟩:=NA hr;rcases hs i r a with e | e
  .exact h.own r (MG e) ho b hb
  .exact absurd hb ((dead r e).2.1 b)
 .rcases hs p r hp with e | e
  .rcases hs q s f with d | d
   .exact h.dis _ _ r s (fun he=>c (hi p q he)) e d ho
   .exact fun b ⟨_,y⟩=>(dead s d).2.1 b y
  .exact fun b ⟨x,_⟩=>(dead r e).2.1 b x
 .obtain⟨i,a⟩:=NA hr;rcases hs i r a with e | e
  .exact h.pos r (MG e)
  .exact(dead r e).2.2
def MRel.pad (h:MRel S w0 J mem w) (n:Nat):MRel S w0 J (padM mem n) w:=by
 refine h.of_map id (fun _ _ e=>e) fun i r hr=>?_;unfold padM at hr;rcases ND i mem.length with hl | hl
 .rw[M5 hl]at hr;exact Or.inl hr
 .rw[MX hl]at hr;exact Or.inr (PL (MG hr))
def MRel.swap (h:MRel S w0 J mem w) (p q:Nat):MRel S w0 J (swapM mem p q) w:=by
 unfold swapM;split
 .rename_i a b hp c;have lp:=(MK.1 hp).1;have d:=(MK.1 c).1;refine h.of_map (fun i=>if i=p then q else if i=q then p else i) (fun i j e=>?_) fun i r hr=>Or.inl ?_
  .have e:(if i=p then q else if i=q then p else i)=(if j=p then q else if j=q then p else j):=e;split at e<;>split at e<;>(try split at e)<;>(try split at e)<;>omega
  .show mem[if i=p then q else if i=q then p else i]?=_;by_cases h1:i=q
   .subst h1;rw[NX (by simpa using d)]at hr;by_cases h2:i=p
    .subst h2;rw[M0 rfl];rw[c]at hp ⊢;rw[<-hr];exact hp
    .rw[MM h2,M0 rfl,hp];exact hr
   .rw[Ny (fun e=>h1 e.symm)]at hr;by_cases h2:i=p
    .subst h2;rw[NX lp]at hr;rw[M0 rfl,c];exact hr
    .rw[Ny (fun e=>h2 e.symm)]at hr;rw[MM h2,MM h1];exact hr
 .exact h
def MRel.fix:∀ (l:Mem) (p:Nat) {m:Mem},MRel S w0 J m w->MRel S w0 J (fixM n0 A l p m) w
 | [],_,_,h=>h
 | r::l,p,m,h=>by
  unfold fixM;split
  .exact h
  .rename_i heq;cases heq;refine MRel.fix _ _ ?_;split
   .split
    .split
     .split
      .exact h.swap _ _
      .exact h
     .exact h
    .exact h
   .exact h
  .rename_i heq;cases heq;exact MRel.fix _ _ h
def mSt_sound (hm:mSt n0 h s=some (A,hs)) (hA:Rel S w0 J s a w):Rel S w0 (assign J A hs) h a w/\Agree n0 J (assign J A hs)/\n0<=h.nv:=by
 unfold mSt at hm;split at hm
 .rename_i b h0;split at hm
  .rename_i r hr;cases hm;exact mSt0_sound hr ⟨(hA.toMRel.pad _).fix _ _,hA.size,hA.defers,hA.tmp,hA.path⟩
  .exact mSt0_sound hm hA
 .cases hm
end
section
variable {P:Program} {C:Ctx} {S:Nat->Prop} {w0:World} {J J':Env} {st:St} {mem mem':Mem} {a:Act} {w w':World}
def FW (ro:Option Nat):Fence:={Fence.wide with round:=ro}
def nodefer {J:Operand->Value} {r:Next} (h:(execOp J o).run P w=.ok r w') (hr:∀ d,r≠.defer d):∀ c,o.op≠.defer c:=fun c a=>by
 unfold execOp at h;rw[a]at h;simp only[Sem.run_bind]at h;revert h;cases(resolve J c o.type).run P w with
 | ok d w2 =>
  intro h;have h:Result.ok (Next.defer d) w2=.ok r w':=h;cases h;exact hr d rfl
 | _=>intro h;cases h
def inJ (ro:Option Nat) (dn:Nat) (P:Program):OpJ P where
 j o a w K Q:=o.wpIn (FW ro) dn P a w K Q
 val h hK:=⟨fun _ _=>trivial,by rw[Oper.semAt_eq _ _ _ (nodefer h fun _ h=>by cases h),h];exact hK⟩
 skip h hK:=⟨fun _ _=>trivial,by rw[Oper.semAt_eq _ _ _ (nodefer h fun _ h=>by cases h),h];exact hK⟩
 call h b:=⟨fun _ _=>trivial,by
  rw[Oper.semAt_eq _ _ _ (nodefer h fun _ h=>by cases h),h];rw[Oper.uponIn_enter];refine⟨fun h=>(PD h).elim,?_⟩;have b:CallsIn (FW ro) (dn-1) P _ _ _ _:=callsIn_wide.2 b;refine b.mono fun e w' ⟨v,he,hk⟩=>?_;subst he;exact hk⟩
def ExOKr (ro:Option Nat) (P:Program) (C:Ctx) (ex:Ex):Prop:=∀ dn d path c st k nd ms S w0 J a w (Q:Exit->Act->World->Prop),ex d path c st k=some nd->Rel S w0 J st a w->nd.holds C ms J ->
 (∀ t,KOK S w0 C d ms st.nv J (k t) (Q (exitOf t)))->c.wpIn (FW ro) dn P Q a w
abbrev ExOK:=ExOKr none
def inlineK_sound (hex:ExOK P C ex) {d:Nat} {ms:Nat->Nat} {args:List TV} {k:TV->St->Option Nd} (h:inlineK P ex d f args st k=some nd) (hm:MRel S w0 J st.mem w) (hp:Path J st.path) (hn:nd.holds C ms J)
 {R:Value->World->Prop} (hk:∀ b r st' g J' w',(∀ i,i<d->b i=ms i)->k r st'=some g->Agree st.nv J J'->MRel S w0 J' st'.mem w'->Path J' st'.path->g.holds C b J'->R (r.ev J') w') :
 Calls P f (args.map (TV.ev J)).toArray w fun e w'=>∃ v,e=.returned v/\R v w':=by
 unfold inlineK at h;split at h
 .rename_i fn hf;split at h
  .rename_i c hb;refine calls_of_wp hf hb ((wpIn_wide (n:=0)).1 ?_);have j:Rel S w0 J ⟨args.map some++List.replicate (fn.ntmps-args.length) none,st.mem,st.nv,st.path⟩ {tmps:=(args.map (TV.ev J)).toArray++Array.replicate (fn.ntmps-(args.map (TV.ev J)).toArray.size) undef,defers:=[]} w:=by
    refine⟨hm,ar,rfl,?_,hp⟩;intro t v hs;have hs':(args.map some++List.replicate (fn.ntmps-args.length) none)[t]?=some (some v):=hs;rw[O0]at hs';split at hs'
    .rename_i q;rw[MU,MN]at hs';obtain⟨u,x,y⟩:=hs';cases y;have l:t<args.length:=by simpa using q
     rw[Array.getElem?_append,M0 (by simpa using l)];simp [x]
    .rw[Oj]at hs';split at hs'<;>cases hs'
   refine hex _ _ _ _ _ _ _ ms _ _ _ _ _ _ h j hn fun t=>?_;intro b st' g J' a' w' z a hg hA A;have key:∀ (t:Tag),(match resultsE P st' fn.results.toList with
    | some (n,vs)=>needK st' n fun s=>k (outOf vs) s
    | none=>none)=some g->a'.defers=[]/\∃ v,(results fn a'.tmps).run P w'=.ok v w'/\∃ v',Ending.returned v=.returned v'/\R v' w':=by
    intro t a;split at a
    .rename_i n vs hv;obtain⟨hb,m,o,aI,he,p,B⟩:=needK_sound a hA A;refine⟨hA.defers,_,results_sound hA hv hb,_,rfl,?_⟩;exact hk b _ m o J' w' z aI hg p.toMRel p.path B
    .cases a
   cases t with
   | norm=>exact key .norm a
   | ret=>exact key .ret a
   | exit i=>cases a
  .cases h
 .cases h
def MRel.mrg (h:MRel S w0 J mem w) {r1 r2 r':Res} (hp:mem[p]?=some r1) (f:mem[q]?=some r2) (g:q≠p) (o1:r1.own=true) (o2:r2.own=true) (hag:∀ s∈mem,s.same J J')
 (hnew:r'.hl J'=(r1.hl J).un (r2.hl J)) (c:r'.pos J'):MRel S w0 J' ((mem.set p r').set q .dead) w:=by
 have i:p<mem.length:=(MK.1 hp).1;have k:q<mem.length:=(MK.1 f).1;have n:((mem.set p r').set q Res.dead)[p]?=some r':=by
  rw[Ny g,NX i]
 have l:((mem.set p r').set q Res.dead)[q]?=some .dead:=NX (by simpa using k);refine h.upd (fun b=>(r1.hl J).mem b\/(r2.hl J).mem b) (fun j=>j=p\/j=q) ?_ rfl rfl rfl (M1 _) (fun b _ _=>rfl) ?_ ?_ ?_
 .rintro b (hb | hb)
  .exact⟨r1,MG hp,o1,hb⟩
  .exact⟨r2,MG f,o2,hb⟩
 .intro j s a hn;have h1:j≠p:=fun e=>hn (Or.inl e);have h2:j≠q:=fun e=>hn (Or.inr e);rw[Ny h2.symm,Ny h1.symm]at a;refine⟨a,hag s (MG a),fun b hb hu=>?_⟩;rcases hu with hu | hu
  .exact h.dis p j r1 s h1.symm hp a o1 b ⟨hu,hb⟩
  .exact h.dis q j r2 s h2.symm f a o2 b ⟨hu,hb⟩
 .intro j s a hn;rcases hn with rfl | rfl
  .rw[n]at a;cases a;refine⟨⟨?_,c⟩,fun b hb=>?_⟩
   .rw[hnew];exact Hl.un_sub (h.sub _ (MG hp)) (h.sub _ (MG f))
   .rw[hnew]at hb;exact Or.inl (Hl.un_mem.1 hb)
  .rw[l]at a;cases a;exact⟨⟨fun b o hb=>(by cases hb),zzT⟩,fun b hb=>(by cases hb)⟩
 .intro j j' s r m h1 h2 a d ho;rcases h1 with rfl | rfl
  .rcases h2 with rfl | rfl
   .exact absurd rfl m
   .rw[l]at d;cases d;exact fun b ⟨_,y⟩=>by cases y
  .rw[l]at a;cases a;exact fun b ⟨x,_⟩=>by cases x
def mrgQ_sound {mem:Mem} {p:Nat} : ∀ {l:List CV} {y:E} {q:Nat} {r:Res},mrgQ mem p l=some (y,q,r)->mem[q]?=some r/\r.own=true/\q≠p
 | c::l,y,q,r,h=>by
  unfold mrgQ at h;split at h
  .rename_i y' q' r' hb;split at h
   .rename_i b;cases h;cases hr:rootCV c with
    | none=>rw[hr]at hb;cases hb
    | some z =>
     rw[hr]at hb;simp only[OM,MN]at hb;obtain⟨a,d,e⟩:=hb;cases e;exact⟨posOf_sound d,b.1,b.2⟩
   .exact mrgQ_sound h
  .exact mrgQ_sound h
def mrgOf_sound {x:X} (h:mrgOf P st o=some (s,x)) (hA:Rel S w0 J st a w):∃ J',Agree st.nv J J'/\x.n=st.nv/\x.rel C J J'/\st.nv<=s.nv/\Rel S w0 J' s a w:=by
 unfold mrgOf at h;split at h
 .split at h
  .rename_i p k vers tags links hp;split at h
   .rename_i y q r c;split at h
    .rename_i hu;cases h;have hp:=posOf_sound hp;obtain⟨h1,h2,b⟩:=mrgQ_sound c;have hg:Agree st.nv J (J.setH st.nv (((Res.hp k vers tags links).hl J).un (r.hl J))):=agree_setH _ _ _ (M1 _);refine⟨_,hg,rfl,⟨setH_h _ _ _,hA.dis p q _ _ b.symm hp h1 rfl⟩,by show st.nv<=st.nv+1;omega,Rel.tmps_agree hg hu hA ?_ _⟩;exact hA.toMRel.mrg hp h1 b rfl h2 (Mem.agree hg (St.upto_mem hu)) (setH_h _ _ _) trivial
    .cases h
   .cases h
  .cases h
 .cases h
def mrgK_sound {o:Oper} {ms:Nat->Nat} {k:St->Option Nd} : ∀ (n:Nat) {st:St} {J:Env} {nd:Nd},mrgK P o k n st=some nd->Rel S w0 J st a w->nd.holds C ms J->∃ J' s b,Agree st.nv J J'/\st.nv<=s.nv/\k s=some b/\Rel S w0 J' s a w/\b.holds C ms J'
 | 0,st,J,nd,h,hA,hn=>⟨J,st,nd,Agree.refl _ _,M1 _,h,hA,hn⟩
 | n+1,st,J,nd,h,hA,hn=>by
  unfold mrgK at h;split at h
  .rename_i s x hm;simp only[MN]at h;obtain⟨d,h1,rfl⟩:=h;obtain⟨c,j,e1,r1,l,m⟩:=mrgOf_sound (C:=C) hm hA;have e:d.holds C ms c:=hn c (by rw[e1];exact j) r1;obtain⟨f,s2,g,p,q,h2,r,i⟩:=mrgK_sound n h1 m e;exact⟨f,s2,g,j.trans (p.mono l),NT l q,h2,r,i⟩
  .exact⟨J,st,nd,Agree.refl _ _,M1 _,h,hA,hn⟩
def stepK_sound {W:OpJ P} (t:∀ s∈C.Γ,s.OK P) (hex:ExOK P C ex) {d:Nat} {ms:Nat->Nat} (h:stepK P C.Γ ex d o st k=some nd) (hA:Rel S w0 J st a w) (hn:nd.holds C ms J)
 {K:Act->World->Prop} {Q:Exit->Act->World->Prop} (hk:KOK S w0 C d ms st.nv J k K):W.j o a w K Q:=by
 unfold stepK at h;split at h
 .rename_i n v H;obtain⟨hb,st',g,b,he,l,m⟩:=needK_sound h hA hn;refine wp_value (quiet_sound hA H hb) (hk ms _ g J _ w (fun _ _=>rfl) b (Agree.refl _ _) ?_ m);exact Rel.put l _ _ _ (fun y hy=>by cases hy;rfl)
 .obtain⟨I,s1,L,M,N,h1,u,z⟩:=mrgK_sound 4 h hA hn;replace hk:=hk.of_agree (fun _ _=>rfl) M N;clear h hn hA;rename_i A;clear A;revert h1;generalize s1=B at *;intro h;have hA:=u;have hn:=z;split at h
  .rename_i R O;split at h
   .rename_i D;simp only[MN]at h;obtain⟨g,b,rfl⟩:=h;rw[ndAnd_holds]at hn;refine extE_sound (W:=W) (Q:=Q) t hA O hn.1 (fun J' x w' hg hx l=>?_);refine hk ms _ g J' _ w' (fun _ _=>rfl) b hg l ?_;have i:=hn.2;cases q:R.x with
    | none=>rw[q]at i hx;subst hx;exact i
    | some y =>
     rw[q]at i hx;exact i J' (by rw[hx.2];exact hg) hx.1
   .cases h
  .split at h
   .rename_i c args ats E;split at h
    .rename_i f ws vs T hx;split at h
     .rename_i e;simp only[ML]at e;refine wp_clo E (closOf_sound hA T) e.1 (opnds_sound hA _ _ hx) ?_;rw[<-M9];refine inlineK_sound hex h hA.toMRel hA.path hn fun F r st' g J' w' G b hg hm hp m=>?_;split at b
      .rename_i D;refine hk F _ g J' _ w' G b hg ?_ m;have p:=hA.agree hg e.2;exact Rel.put (st:={st' with tmps:=B.tmps}) ⟨hm,p.size,p.defers,p.tmp,hp⟩ _ _ _ (fun y hy=>by cases hy;rfl)
      .cases b
     .cases h
    .cases h
   .cases h;exact absurd hn (by simp [Nd.holds,bev_ff])
   .cases h;exact absurd hn (by simp [Nd.holds,bev_ff])
   .cases h
def execOps_sound {ro:Option Nat} {dn:Nat} {ex:Ex} (p:∀ s∈C.Γ,s.OK P) (hex:ExOK P C ex) {d:Nat} {ops:List Oper} {Q:Exit->Act->World->Prop} : ∀ (l:List Oper) (st:St) (k:St->Option Nd) (nd:Nd) (ms:Nat->Nat) (J:Env) (a:Act) (w:World),
 execOps P C.Γ ex d ops l st k=some nd->Rel S w0 J st a w->nd.holds C ms J->KOK S w0 C d ms st.nv J k (Q .normal)->wpListIn (FW ro) dn P ops.toArray Q l a w
 | [],st,k,nd,ms,J,a,w,h,hA,hn,hk=>hk ms st nd J a w (fun _ _=>rfl) h (Agree.refl _ _) hA hn
 | o::l,st,k,nd,ms,J,a,w,h,hA,hn,hk=>by
  have ih:=fun st k nd ms J a w=>execOps_sound (ro:=ro) (dn:=dn) (d:=d) (ops:=ops) (Q:=Q) p hex l st k nd ms J a w;have one:∀ (c:St) (f:Nd),c.nv=st.nv->(stepK P C.Γ ex d o c fun s=>if st.nv<=s.nv then execOps P C.Γ ex d ops l s k else none)=some f->Rel S w0 J c a w->f.holds C ms J ->
   ∀ K:Act->World->Prop,(∀ a w,wpListIn (FW ro) dn P ops.toArray Q l a w->K a w)->o.wpIn (FW ro) dn P a w K Q:=by
   intro c f i h1 j m K hK;refine stepK_sound (W:=inJ ro dn P) p hex h1 j m fun r st' t J' a' w' u g hg v z=>hK _ _ ?_;simp only at g;split at g
   .rename_i hle;refine ih st' k t r J' a' w' g v z ?_;rw[i]at hg;exact hk.of_agree u hg hle
   .cases g
  have skip:∀ (c:St) (f:Nd),c.nv=st.nv->execOps P C.Γ ex d ops l (c.put o.dst (some skipTV)) k=some f->Rel S w0 J c a w->f.holds C ms J ->
   wpListIn (FW ro) dn P ops.toArray Q l (a.put o.dst undef) w:=by
   intro c f i h1 j m;refine ih _ k f ms J _ w h1 (Rel.put j _ _ _ (fun y hy=>by cases hy;rfl)) m ?_;exact hk.of_agree (fun _ _=>rfl) (Agree.refl _ _) (by rw[St.put_nv,i];exact M1 _)
  refine wpListIn_step fun K hK=>?_;unfold execOps at h;split at h
  .cases h
  .rename_i hg;rw[guard_sound hA hg];simp only[wantB,OA];exact one st nd rfl h hA hn K hK
  .rename_i e want hg;have hw:Region.wanted o (yielded ops.toArray a.tmps)=(bev J e==want):=guard_sound hA hg;split at h
   .rename_i b A;have B:(bev J e==want)=(b==want):=by rw[known_sound hA.path A]
    rw[hw,B];split at h
    .rename_i n;rw[M0 (by simpa using n)];exact one st nd rfl h hA hn K hK
    .rename_i n;rw[MM (by simpa using n)];exact And.intro (fun _ _=>trivial) (hK _ _ (skip st nd rfl h hA hn))
   .simp only at h;split at h
    .rename_i x y h1 h2;cases h;rw[ndAnd_holds,ndImp_holds,ndImp_holds]at hn;have hy:bev J (if want then e else mkNot e)=(bev J e==want):=by
      cases want
      .simp [bev_mkNot]
      .simp
     rw[hw];cases hb:(bev J e==want)with
     | true =>
      rw[M0 rfl];rw[hb]at hy;exact one {st with path:=(if want then e else mkNot e)::st.path} x rfl h1 (hA.path_cons hy) (hn.1 hy) K hK
     | false =>
      rw[MM ar];rw[hb]at hy;have q:bev J (mkNot (if want then e else mkNot e))=true:=by rw[bev_mkNot,hy];rfl
      exact And.intro (fun _ _=>trivial) (hK _ _ (skip {st with path:=mkNot (if want then e else mkNot e)::st.path} y rfl h2 (hA.path_cons q) (hn.2 q)))
    .cases h
end
def swapAt {α:Type} : Nat->List α->List α
 | 0,a::b::l=>b::a::l
 | i+1,a::l=>a::swapAt i l
 | _,l=>l
def sw (i p:Nat):Nat:=if p=i then i+1 else if p=i+1 then i else p
def sw_inj (h:p≠q):sw i p≠sw i q:=by unfold sw;split<;>split<;>(try split)<;>(try split)<;>omega
def swapAt_get {α:Type} : ∀ {l:List α} {i p:Nat},i+1<l.length->(swapAt i l)[p]?=l[sw i p]?
 | a::b::l,0,p,_=>by
  match p with
  | 0=>rfl
  | 1=>rfl
  | p+2=>rfl
 | a::l,i+1,0,h=>rfl
 | a::l,i+1,p+1,h=>by
  show(swapAt i l)[p]?=_;rw[swapAt_get (by simpa using h)];have:sw (i+1) (p+1)=sw i p+1:=by unfold sw;split<;>split<;>(try split)<;>(try split)<;>omega
  rw[this,NC]
 | [],_,_,h=>by simp at h
 | [_],0,_,h=>by simp at h
def swapAt_mem {α:Type} {l:List α} (hi:i+1<l.length) {x:α} (h:x∈swapAt i l):x∈l:=by
 obtain⟨p,hp⟩:=N2.1 h;rw[swapAt_get hi]at hp;exact MG hp
def Rel.swap {S:Nat->Prop} {w0:World} {J:Env} {st:St} {a:Act} {w:World} (h:Rel S w0 J st a w) (hi:i+1<st.mem.length):Rel S w0 J {st with mem:=swapAt i st.mem} a w :=
 ⟨⟨h.keep,fun r hr=>h.sub r (swapAt_mem hi hr),fun r hr=>h.own r (swapAt_mem hi hr),fun p q r s c hp b ho=>by
  have hp:(swapAt i st.mem)[p]?=some r:=hp;have b:(swapAt i st.mem)[q]?=some s:=b;rw[swapAt_get hi]at hp b;exact h.dis _ _ r s (sw_inj c) hp b ho,fun r hr=>h.pos r (swapAt_mem hi hr)⟩,h.size,h.defers,h.tmp,h.path⟩
def mStX (n0:Nat) (h s:St):MA:=match mSt n0 h s with
 | some r=>some r
 | none=>(List.range (s.mem.length-1)).findSome? fun i=>mSt n0 h {s with mem:=swapAt i s.mem}
def mStX_sound {n0:Nat} {S:Nat->Prop} {w0:World} {J:Env} {a:Act} {w:World} {A:List As} {hs:List (Nat×Option Nat)} (hm:mStX n0 h s=some (A,hs)) (hA:Rel S w0 J s a w):Rel S w0 (assign J A hs) h a w/\Agree n0 J (assign J A hs)/\n0<=h.nv:=by
 unfold mStX at hm;split at hm
 .rename_i r hr;cases hm;exact mSt_sound hr hA
 .obtain⟨i,hi,hm⟩:=List.exists_of_findSome?_eq_some hm;exact mSt_sound hm (hA.swap (by have:=Nn.1 hi;omega))
structure LoopI where
 j:Nat
 slots:List (Nat×TV)
 mem:List (Nat×Res)
 nv:Nat
def dsts:Code->List Nat
 | .region _ ops _=>ops.toList.filterMap (·.dst)
 | .seq a b=>dsts a++dsts b
 | .cond _ a b=>dsts a++dsts b
 | .block _ b=>dsts b
 | .loop b=>dsts b
 | .scope b=>dsts b
 | _=>[]
def LoopI.head (L:LoopI) (a:List Nat) (st:St):St where
 tmps:=mapIx (fun i v=>match L.slots.find? fun q=>q.1==i with
  | some q=>some q.2
  | none=>if a.contains i then none else v) 0 st.tmps
 mem:=(List.range (max st.mem.length (L.mem.foldl (fun m q=>max m (q.1+1)) 0))).map fun p=>match L.mem.find? fun q=>q.1==p with
  | some q=>q.2
  | none=>st.mem.getD p .dead
 nv:=L.nv
 path:=st.path.filter (E.upto st.nv)
abbrev Loops:=List Nat->Option LoopI
def loopK (ex:St->Kont->Option Nd):Nat->St->Kont->Option Nd
 | 0,_,_=>none
 | m+1,st,k=>ex st fun t s=>match t with
  | .norm=>if st.nv<=s.nv then loopK ex m s k else none
  | t=>k t s
def hpOf (st:St) (p:Nat):Option (St×X):=match st.mem[p]? with
 | some (.blk a l T)=>if st.upto st.nv=true then some ({st with mem:=st.mem.set p (.hp st.nv [] [.var a] []),nv:=st.nv+1},.hpf st.nv (.blk a l T))else none
 | _=>none
def hpK (k:St->Option Nd):List Nat->St->Option Nd
 | [],st=>k st
 | p::ps,st=>match hpOf st p with
  | some (s,x)=>(hpK k ps s).map (.ext x)
  | none=>hpK k ps st
def LoopI.hps (L:LoopI):List Nat:=L.mem.filterMap fun q=>match q.2 with
 | .hp _ _ _ _=>some q.1
 | _=>none
abbrev Dk:=Ex->Nat->List Oper->St->(St->Option Nd)->Option Nd
variable {dk:Dk}
def exec1 (P:Program) (Γ:List Spec) (dk:Dk) (Λ:Loops) (lim:Nat) (ex:Ex):Ex:=fun d path c st k =>
 match c with
 | .skip=>k .norm st
 | .label _=>k .norm st
 | .exit i=>k (.exit i) st
 | .ret=>k .ret st
 | .region _ ops draw=>if draw then dk ex d ops.toList st (k .norm)else execOps P Γ ex d ops.toList ops.toList st (k .norm)
 | .seq x y=>ex d (path++[0]) x st fun t s=>match t with
  | .norm=>if st.nv<=s.nv then ex d (path++[1]) y s k else none
  | t=>k t s
 | .cond c x y=>match opnd st c with
  | some (.sv (.one (.bool e)))=>match known st.path e with
   | some true=>ex d (path++[0]) x st k
   | some false=>ex d (path++[1]) y st k
   | none=>match ex d (path++[0]) x {st with path:=e::st.path} k,ex d (path++[1]) y {st with path:=mkNot e::st.path} k with
    | some a,some b=>some (ndAnd (ndImp e a) (ndImp (mkNot e) b))
    | _,_=>none
  | _=>none
 | .block id b=>ex d (path++[0]) b st fun t s=>k (if t=.exit id then .norm else t) s
 | .loop b=>match Λ path with
  | none=>loopK (fun st k=>ex d (path++[0]) b st k) lim st k
  | some L=>hpK (fun st =>
   let hd:=L.head (dsts b) st
   match mStX st.nv hd st,ex (d+1) (path++[0]) b hd fun t s=>match t with
    | .norm=>(mStX st.nv hd s).map fun r=>.back d L.j r.1 r.2
    | t=>k t s with
   | some r,some nd=>some (ndAnd (.inv L.j r.1 r.2) (.havoc d L.j st.nv nd))
   | _,_=>none) L.hps st
 | _=>none
def exec (P:Program) (Γ:List Spec) (dk:Dk) (Λ:Loops) (lim:Nat):Nat->Ex
 | 0=>fun _ _ _ _ _=>none
 | n+1=>fun d path c st k =>
  let ex:=exec P Γ dk Λ lim n
  if(Λ (99::99::path)).isSome=true then some (.e .ff)else
  match Λ (99::path)with
  | none=>exec1 P Γ dk Λ lim ex d path c st k
  | some L =>
   let hd:=L.head (dsts c) st
   match exec1 P Γ dk Λ lim ex d path c st fun t s=>match t with
    | .norm=>(mStX st.nv hd s).map fun r=>.inv L.j r.1 r.2
    | t=>k t s,k .norm hd with
   | some a,some b=>some (ndAnd a (.havoc d L.j st.nv b))
   | _,_=>none
def lp (p:List Nat):Bool:=decide (p.length>1)&&!(p.head?==some 99)
def cutAt (p:List Nat) (q:List Nat):Bool:=eqN p (99::q)
def deadAt (p:List Nat) (q:List Nat):Bool:=eqN p (99::99::q)
def CV.bases:CV->List Nat
 | .hptr (.var a) _=>[a]
 | .sl (.var a) _ _ _=>[a]
 | .map (.var a)=>[a]
 | .pti a _ _ _ _=>[a]
 | _=>[]
def Res.bases:Res->List Nat
 | .blk _ l _=>l.flatMap CV.bases
 | _=>[]
def TV.bases:TV->List Nat
 | .sv v=>v.cells.flatMap CV.bases
 | .tup l=>l.flatMap fun v=>v.cells.flatMap CV.bases
def pruneM (n0:Nat) (r:TV) (mem:Mem):Mem :=
 let used:=r.bases++mem.flatMap Res.bases
 mapIx (fun i x=>match x with
  | .blk a l T=>if decide (n0<=i)&&!used.contains a then .dead else .blk a l T
  | x=>x) 0 mem
def pruneM_get {n0:Nat} {r:TV} {mem:Mem} (p:Nat) (x:Res) (h:(pruneM n0 r mem)[p]?=some x):mem[p]?=some x\/x=.dead:=by
 unfold pruneM at h;simp only[mapIx_get0,MN]at h;obtain⟨y,hy,h⟩:=h;split at h
 .split at h
  .exact Or.inr h.symm
  .subst h;exact Or.inl hy
 .subst h;exact Or.inl hy
def fnVC (P:Program) (Γ:List Spec) (dk:Dk) (Λ:Loops) (lim fuel:Nat) (f:FuncId) (args:List TV) (mem:Mem) (nv:Nat) (path:List E):Option Nd :=
 inlineK P (exec P Γ dk Λ lim fuel) 0 f args ⟨[],mem,nv,path⟩ fun r s=>some (.post (pruneM mem.length r s.mem) r)
def DkOK (P:Program) (C:Ctx) (dk:Dk):Prop:=∀ ex,ExOK P C ex->∀ d ops st k nd ms S w0 J a w id (Q:Exit->Act->World->Prop),dk ex d ops st k=some nd->Rel S w0 J st a w->nd.holds C ms J ->
 KOK S w0 C d ms st.nv J k (Q .normal)->(Code.region id ops.toArray true).wp P Q a w
def DkOKr (ro:Option Nat) (P:Program) (C:Ctx) (dk:Dk):Prop:=∀ dn ex,ExOK P C ex->∀ d ops st k nd ms S w0 J a w id (Q:Exit->Act->World->Prop),dk ex d ops st k=some nd->Rel S w0 J st a w->nd.holds C ms J ->
 KOK S w0 C d ms st.nv J k (Q .normal)->(Code.region id ops.toArray true).wpIn (FW ro) dn P Q a w
def DkOK.to {P:Program} {C:Ctx} (h:DkOK P C dk):DkOKr none P C dk:=fun dn ex hx d ops st k nd ms S w0 J a w id Q h1 h2 b c=>wpIn_wide.2 (h ex hx d ops st k nd ms S w0 J a w id Q h1 h2 b c)
section
variable {P:Program} {C:Ctx} {S:Nat->Prop} {w0:World} {J J':Env} {st:St} {mem mem':Mem} {a:Act} {w w':World}
def loopK_sound {ro:Option Nat} {dn:Nat} {c:Code} {d:Nat} {ex:St->Kont->Option Nd} {k:Kont} {Q:Exit->Act->World->Prop}
 (hex:∀ st k nd ms J a w (Q:Exit->Act->World->Prop),ex st k=some nd->Rel S w0 J st a w->nd.holds C ms J->(∀ t,KOK S w0 C d ms st.nv J (k t) (Q (exitOf t)))->c.wpIn (FW ro) dn P Q a w) :
 ∀ (m:Nat) (st:St) (nd:Nd) (ms:Nat->Nat) (J:Env) (a:Act) (w:World),loopK ex m st k=some nd->Rel S w0 J st a w->nd.holds C ms J->(∀ t,KOK S w0 C d ms st.nv J (k t) (Q (exitOf t)))->Code.roundsIn (FW ro) dn P c Q m a w
 | 0,st,nd,ms,J,a,w,h,_,_,_=>by cases h
 | m+1,st,nd,ms,J,a,w,h,hA,hn,hk=>by
  unfold loopK at h;refine hex st _ nd ms J a w _ h hA hn fun t=>?_;intro e st' f J' a' w' g b hg j l;cases t with
  | norm =>
   simp only at b;split at b
   .rename_i hle;exact loopK_sound hex m st' f e J' a' w' b j l fun t=>(hk t).of_agree g hg hle
   .cases b
  | ret=>exact hk .ret e st' f J' a' w' g b hg j l
  | exit i=>exact hk (.exit i) e st' f J' a' w' g b hg j l
def MRel.hpf (h:MRel S w0 J mem w) {a n:Nat} {l:List CV} (hp:mem[p]?=some (.blk a l T)) (hag:∀ s∈mem,s.same J J') (hnew:J'.h n=(Res.blk a l T).hl J):MRel S w0 J' (mem.set p (.hp n [] tags [])) w:=by
 refine h.map fun j t b=>?_;by_cases e:p=j
 .subst e;rw[NX (MK.1 hp).1]at b;cases b;exact Or.inl ⟨_,hp,hnew,fun _=>rfl,fun _=>trivial⟩
 .rw[Ny e]at b;obtain⟨h1,h2⟩:=hag t (MG b);exact Or.inl ⟨t,b,h1,id,h2⟩
def hpOf_sound {x:X} (h:hpOf st p=some (s,x)) (hA:Rel S w0 J st a w):∃ J',Agree st.nv J J'/\x.n=st.nv/\x.rel C J J'/\st.nv<=s.nv/\Rel S w0 J' s a w:=by
 unfold hpOf at h;split at h
 .rename_i a' l T hp;split at h
  .rename_i hu;cases h;have hg:Agree st.nv J (J.setH st.nv ((Res.blk a' l T).hl J)):=agree_setH _ _ _ (M1 _);refine⟨_,hg,rfl,setH_h _ _ _,by show st.nv<=st.nv+1;omega,Rel.tmps_agree hg hu hA ?_ _⟩;exact hA.toMRel.hpf hp (Mem.agree hg (St.upto_mem hu)) (setH_h _ _ _)
  .cases h
 .cases h
def hpK_sound {ms:Nat->Nat} {k:St->Option Nd} : ∀ (ps:List Nat) {st:St} {J:Env} {nd:Nd},hpK k ps st=some nd->Rel S w0 J st a w->nd.holds C ms J->∃ J' s b,Agree st.nv J J'/\st.nv<=s.nv/\k s=some b/\Rel S w0 J' s a w/\b.holds C ms J'
 | [],st,J,nd,h,hA,hn=>⟨J,st,nd,Agree.refl _ _,M1 _,h,hA,hn⟩
 | p::ps,st,J,nd,h,hA,hn=>by
  unfold hpK at h;split at h
  .rename_i s x hm;simp only[MN]at h;obtain⟨d,h1,rfl⟩:=h;obtain⟨c,j,e1,r1,l,m⟩:=hpOf_sound (C:=C) hm hA;have e:d.holds C ms c:=hn c (by rw[e1];exact j) r1;obtain⟨f,s2,g,n,o,h2,q,i⟩:=hpK_sound ps h1 m e;exact⟨f,s2,g,j.trans (n.mono l),NT l o,h2,q,i⟩
  .exact hpK_sound ps h hA hn
def exec1_ok (I:∀ s∈C.Γ,s.OK P) (hdk:DkOKr ro P C dk) (Λ:Loops) (lim:Nat) (G:ExOK P C ex) (K:ExOKr ro P C ex):ExOKr ro P C (exec1 P C.Γ dk Λ lim ex):=fun dn d path c st k nd ms S w0 J a w Q h hA hn hk=>by
 have ih:=K dn;unfold exec1 at h;simp only at h;have self:∀ t,k t st=some nd->Q (exitOf t) a w:=fun t h=>hk t ms st nd J a w (fun _ _=>rfl) h (Agree.refl _ _) hA hn;split at h
 .exact wpIn_skip (self .norm h)
 .exact wpIn_label (self .norm h)
 .exact wpIn_exit (self (.exit _) h)
 .exact wpIn_ret (self .ret h)
 .rename_i id ops draw;split at h
  .rename_i hd;subst hd;have:=hdk dn _ G d ops.toList st (k .norm) nd ms S w0 J a w id Q h hA hn (hk .norm);simpa using this
  .rename_i hd;have hd:draw=false:=by simpa using hd
   subst hd;have:=execOps_sound (ro:=ro) (dn:=dn) (Q:=Q) I G ops.toList st (k .norm) nd ms J a w h hA hn (hk .norm);exact wpIn_region_list (by simpa using this)
 .rename_i x y;refine wpIn_seq (ih d _ x st _ nd ms S w0 J a w _ h hA hn fun t=>?_);intro g st' p J' a' w' u f hg o l;cases t with
  | norm =>
   simp only at f;split at f
   .rename_i hle;exact ih d _ y st' k p g S w0 J' a' w' Q f o l fun t=>(hk t).of_agree u hg hle
   .cases f
  | ret=>exact hk .ret g st' p J' a' w' u f hg o l
  | exit i=>exact hk (.exit i) g st' p J' a' w' u f hg o l
 .rename_i c x y;split at h
  .rename_i e hc;have B:=opnd_sound hA hc;simp only[TV.ev,SV.ev,CV.ev]at B;split at h
   .rename_i E;exact wpIn_cond_true (by rw[B,known_sound hA.path E]) (ih d _ x st k nd ms S w0 J a w Q h hA hn hk)
   .rename_i E;exact wpIn_cond_false (by rw[B,known_sound hA.path E]) (ih d _ y st k nd ms S w0 J a w Q h hA hn hk)
   .split at h
    .rename_i n1 n2 h1 h2;cases h;rw[ndAnd_holds,ndImp_holds,ndImp_holds]at hn;refine wpIn_cond_split B (fun H=>?_) (fun hf=>?_)
     .exact ih d _ x {st with path:=e::st.path} k n1 ms S w0 J a w Q h1 (hA.path_cons H) (hn.1 H) hk
     .have H:bev J (mkNot e)=true:=by rw[bev_mkNot,hf];rfl
      exact ih d _ y {st with path:=mkNot e::st.path} k n2 ms S w0 J a w Q h2 (hA.path_cons H) (hn.2 H) hk
    .cases h
  .cases h
 .rename_i id b;refine wpIn_block (ih d _ b st _ nd ms S w0 J a w _ h hA hn fun t=>?_);intro g st' p J' a' w' u f hg o l;cases t with
  | norm=>exact hk .norm g st' p J' a' w' u (by simpa using f) hg o l
  | ret=>exact hk .ret g st' p J' a' w' u (by simpa using f) hg o l
  | exit i =>
   simp only[exitOf,Exit.inBlock];split
   .rename_i e;subst e;exact hk .norm g st' p J' a' w' u (by simpa using f) hg o l
   .rename_i e;exact hk (.exit i) g st' p J' a' w' u (by simpa [e] using f) hg o l
 .rename_i b;split at h
  .refine wpIn_loop_rounds lim (loopK_sound (d:=d) (fun st k nd ms J a w Q h hA hn hk=>ih d _ b st k nd ms S w0 J a w Q h hA hn hk) lim st nd ms J a w h hA hn hk)
  .rename_i L hL;obtain⟨n,M,N,V,W,h,X,hn⟩:=hpK_sound L.hps h hA hn;have hk:=fun t=>(hk t).of_agree (fun _ _=>rfl) V W;clear hA self;clear V;have hA:=X;clear X W;revert h hn hk hA;generalize n=J;generalize M=st;generalize N=nd;intro h hn hk hA;split at h
   .rename_i r Y hr hb;cases h;rw[ndAnd_holds]at hn;obtain⟨hinv,D⟩:=hn;obtain⟨z,zJ,hle⟩:=mStX_sound (A:=r.1) (hs:=r.2) hr hA;have key:∀ (m:Nat) (n:Env) (a1:Act) (w1:World),Agree st.nv J n->C.inv L.j n->Rel S w0 n (L.head (dsts b) st) a1 w1->C.mu L.j n<=m->Code.roundsIn (FW ro) dn P b Q (m+1) a1 w1:=by
     intro m
     induction m with
     | zero =>
      intro n a1 w1 hg hi z hm;refine ih (d+1) _ b _ _ Y _ S w0 n a1 w1 _ hb z (D n hg hi) fun t=>?_;intro g st' p J' a' w' u f F o l;have oB:Agree st.nv n J':=F.mono hle;have v:∀ i,i<d->g i=ms i:=fun i hi=>by
       have:=u i ae;rw[this];exact MM ae
      cases t with
      | norm =>
       simp only[MN]at f;obtain⟨q,Z,rfl⟩:=f;have O:=l.2;have:g d=C.mu L.j n:=by have:=u d ae;rw[this];exact M0 rfl
       omega
      | ret=>exact hk .ret g st' p J' a' w' v f (hg.trans oB) o l
      | exit i=>exact hk (.exit i) g st' p J' a' w' v f (hg.trans oB) o l
     | succ m R =>
      intro n a1 w1 hg hi z hm;refine ih (d+1) _ b _ _ Y _ S w0 n a1 w1 _ hb z (D n hg hi) fun t=>?_;intro g st' p J' a' w' u f F o l;have oB:Agree st.nv n J':=F.mono hle;have v:∀ i,i<d->g i=ms i:=fun i hi=>by
       have:=u i ae;rw[this];exact MM ae
      cases t with
      | norm =>
       simp only[MN]at f;obtain⟨q,Z,rfl⟩:=f;obtain⟨T,O⟩:=l;have:g d=C.mu L.j n:=by have:=u d ae;rw[this];exact M0 rfl
       obtain⟨U,Gx,_⟩:=mStX_sound (A:=q.1) (hs:=q.2) Z o;exact R _ a' w' ((hg.trans oB).trans Gx) T U ae
      | ret=>exact hk .ret g st' p J' a' w' v f (hg.trans oB) o l
      | exit i=>exact hk (.exit i) g st' p J' a' w' v f (hg.trans oB) o l
    exact wpIn_loop_rounds _ (key _ _ a w zJ hinv z (M1 _))
   .cases h
 .cases h
def exec_step (o:∀ s∈C.Γ,s.OK P) (hdk:DkOKr ro P C dk) (Λ:Loops) (lim n:Nat) (p:ExOK P C (exec P C.Γ dk Λ lim n)) (r:ExOKr ro P C (exec P C.Γ dk Λ lim n)):ExOKr ro P C (exec P C.Γ dk Λ lim (n+1)):=fun dn d path c st k nd ms S w0 J a w Q h hA hn hk=>by
 have ih:=exec1_ok o hdk Λ lim p r dn;unfold exec at h;simp only at h;split at h
 .cases h;exact nomatch (show false=true from hn)
 split at h
 .exact ih d path c st k nd ms S w0 J a w Q h hA hn hk
 .rename_i L B;split at h
  .rename_i na x y hb;cases h;rw[ndAnd_holds]at hn;obtain⟨u,g⟩:=hn;refine ih d path c st _ na ms S w0 J a w Q y hA u fun t=>?_;intro j st' l J' a' w' m b hg e f;cases t with
   | norm =>
    simp only[MN]at b;obtain⟨q,z,rfl⟩:=b;obtain⟨v,oB,hle⟩:=mStX_sound (A:=q.1) (hs:=q.2) z e;have Gx:Agree st.nv J (assign J' q.1 q.2):=hg.trans oB;exact hk .norm _ _ x (assign J' q.1 q.2) a' w' (fun i hi=>MM ae) hb Gx v (g _ Gx f)
   | ret=>exact hk .ret j st' l J' a' w' m b hg e f
   | exit i=>exact hk (.exit i) j st' l J' a' w' m b hg e f
  .cases h
def exec_ok {dk:Dk} (b:∀ s∈C.Γ,s.OK P) (hdk:DkOK P C dk) (Λ:Loops) (lim:Nat):∀ n,ExOK P C (exec P C.Γ dk Λ lim n)
 | 0=>fun dn d path c st k nd ms S w0 J a w Q h=>by cases h
 | n+1=>exec_step b hdk.to Λ lim n (exec_ok b hdk Λ lim n) (exec_ok b hdk Λ lim n)
def exec_okr {ro:Option Nat} {dk:Dk} (e:∀ s∈C.Γ,s.OK P) (hdk:DkOK P C dk) (b:DkOKr ro P C dk) (Λ:Loops) (lim:Nat):∀ n,ExOKr ro P C (exec P C.Γ dk Λ lim n)
 | 0=>fun dn d path c st k nd ms S w0 J a w Q h=>by cases h
 | n+1=>exec_step e b Λ lim n (exec_ok e hdk Λ lim n) (exec_okr e hdk b Λ lim n)
def fn_sound (b:∀ s∈C.Γ,s.OK P) (hdk:DkOK P C dk) {Λ:Loops} {args:List TV} {ms:Nat->Nat} (h:fnVC P C.Γ dk Λ lim fuel f args mem nv path=some nd)
 (hm:MRel S w0 J mem w) (hp:Path J path) (hn:nd.holds C ms J) :
 Calls P f (args.map (TV.ev J)).toArray w fun e w'=>∃ J' mem' r,e=.returned (r.ev J')/\Agree nv J J'/\MRel S w0 J' mem' w'/\C.post J' mem' r:=by
 have:=inlineK_sound (st:=⟨[],mem,nv,path⟩) (exec_ok b hdk Λ lim fuel) h hm hp hn (R:=fun v w'=>∃ J' mem' r,v=r.ev J'/\Agree nv J J'/\MRel S w0 J' mem' w'/\C.post J' mem' r)
  (fun i r st' j J' w' _ c hg a _ d=>by cases c;exact⟨J',_,r,rfl,hg,a.sublist pruneM_get,d⟩)
 refine this.mono fun e w' ⟨v,he,J',mem',r,hv,hg,a,g⟩=>⟨J',mem',r,by rw[he,hv],hg,a,g⟩
end
def dkNone:Dk:=fun _ _ _ _ _=>none
def dkNone_ok (P:Program) (C:Ctx):DkOK P C dkNone:=fun _ _ _ _ _ _ _ _ _ _ _ _ _ _ _ h=>by cases h
end Go.Sx
