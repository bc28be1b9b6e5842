/- Pull after pull, for all and with bodies, brings every piece laid in a door once, each whole and in its writer's order: a part of the proof. No condition. -/
import Derived.LoopN
import Derived.LoopNIn
import Derived.OrdersIn
import Derived.RangeFuncKeeps
import Derived.TacticsIn
import Derived.Test.YtbdikjnpbnobcaaGreatDoorTB
set_option linter.all false
namespace Go.Sx
open Go
variable {args:Array Operand}{ts:Array TypeId}{e n:E}{f:FuncId}{x z:List As}{cs path tags:List E}{ws xs:List Value}{fuel i len lim m nv p q:Nat}{nd:Nd}{o:Oper}{c y:Operand}{ro:Option Nat}{d:Option Tmp}{h s:St}{k:St->Option Nd}{T t:TypeId}{R:XR}
section
variable {P:Program} {C:Ctx} {ms:Nat->Nat} {S:Nat->Prop} {w0:World} {J J':Env} {st:St} {mem mem':Mem} {a:Act} {w w':World} {W:Za P}
theorem GD (hA:Rel S w0 J st a w) (hu:st.upto st.nv=true) {x y:TV} (h:QN P st t x y d=some R) (hn:R.need.holds C ms J)
 {K:Act->World->Prop} (hK:Fin S w0 C J st a d R K):∃ v' w',(Instr.makeSlice t (x.ev J) (y.ev J)).run P w=.ok v' w'/\K (a.put d v') w':=by
 unfold QN at h;split at h
 .rename_i el k l E c G;split at h
  .rename_i p;subst p;split at h
   .rename_i i hi;split at h
    .rename_i z hz;split at h
     .rename_i q;simp only at h;have key:∀ (r:bo),r.own=true->(∀ J',ai st.nv J J'->0<=J'.i st.nv->J'.h st.nv=Hl.one (J'.i st.nv).toNat (.cells (madeCells z.cells ((aw J l).toNat*i.size)) el (0,0))->r.hl J'=J'.h st.nv/\r.pos J') ->
       ∀ R':XR,R'=⟨({st with mem:=st.mem++[r],nv:=st.nv+1} : St).put d (some (.sv (.one (.sl (.var st.nv) (.lit 0) l l)))),.pre (.mk st.nv el (z.cells.toList.map il) i.bytes l),some (.mk st.nv el (z.cells.toList.map il) i.bytes l)⟩ ->
       R'.need.holds C ms J->Fin S w0 C J st a d R' K->∃ v' w',(Instr.makeSlice t (.int k (aw J l)) (.int E (aw J l))).run P w=.ok v' w'/\K (a.put d v') w':=by
       intro r hr hres R' s hn hK;subst s;obtain⟨h0,hby,v⟩:=hn;have f:=run_make (P:=P) w t el i z G hi hz k E (aw J l) (aw J l) h0 (aba _) hby v
       let F:Obj:=.cells (madeCells z.cells ((aw J l).toNat*i.size)) el
       let J':=(J.dw st.nv w.heap.size).mY st.nv (Hl.one w.heap.size F)
       have hg:ai st.nv J J':=(bI _ _ _ (ab8 _)).trans (fh _ _ _ (ab8 _));have e1:J'.i st.nv=w.heap.size:=by show(J.dw st.nv w.heap.size).i st.nv=_;rw[oq]
       have A:J'.h st.nv=Hl.one w.heap.size F:=gu _ _ _;have g:J'.h st.nv=Hl.one (J'.i st.nv).toNat (.cells (madeCells z.cells ((aw J l).toNat*i.size)) el (0,0)):=by rw[e1,aac];exact A
       obtain⟨j,B⟩:=hres J' hg (by grind) g;refine⟨_,_,f,hK J' _ _ hg ⟨⟨by grind,?_⟩,rfl⟩ (Rel.step hA hu hg ?_ _ _ _ _ ?_)⟩
       .rw[g,jf];simp_all
       .refine hA.toMRel.add rfl rfl rfl aC (fun b hb=>RowKit.Below.heap_alloc w _ b hb) (Mem.bF hg (St.cR hu)) ?_ B ?_
        .rw[j,A];intro b o hb;obtain⟨rfl,rfl⟩:=Hl.oh hb;exact heap_alloc_new w _
        .intro b hb;rw[j,A]at hb;rw[Hl.cn.1 hb];grind
       .intro u D;cases D;simp only[TV.ev,SV.ev,CV.ev,ar,aq,e1,bz hg q.2.2];trivial
      have n:=key (.hp st.nv [] [.var st.nv] []) rfl (fun J' _ _ _=>⟨rfl,zzT⟩);split at h
      .rename_i m;split at h
       .cases h;refine key (.bc st.nv (pU (z.cells.toList.map il) (m.toNat*i.size)) el) rfl (fun J' hg h0 he=>⟨?_,h0⟩) _ rfl hn hK;rw[he];show Hl.one _ _=_;have e:=Bk (J:=J') (z:=z.cells.toList.map il) (zs:=z.cells.toList) (jf _ _) (by grind) (m.toNat*i.size);rw[e];simp [aq]
       .cases h;exact n _ rfl hn hK
      .cases h;exact n _ rfl hn hK
     .cases h
    .cases h
   .cases h
  .cases h
 .cases h
def IU (hA:Rel S w0 J st a w) (hu:st.upto st.nv=true) {is:List Nat} {vs:List TV} (h:WM P st t len is vs d=some R)
 {K:Act->World->Prop} (hK:Fin S w0 C J st a d R K):∃ v' w',(Instr.buildSlice t len (is.zip (vs.map (TV.ev J))).toArray).run P w=.ok v' w'/\K (a.put d v') w':=by
 unfold WM at h;split at h
 .rename_i el o;split at h
  .rename_i n z us hs hz g;split at h
   .rename_i q;split at h
    .rename_i l hl;have hf:=kG (J:=J) _ _ _ hl;have c:¬len*n>2 ^ 24:=ah;refine⟨.slice (some ⟨w.heap.size,0,none⟩) len len,w.alloc (.cells (l.map (CV.ev J)).toArray el),?_,qa h hu hA hK rfl (fun J' hg hi=>?_)⟩
     .rw[Kp _ _ g,<-KD];unfold Instr.buildSlice;simp only[Sem.run_bind,run_underlying o,Result.andThen_ok,dq hs,c,afw];have b:∀ f:Array Value,(Array.range (len*n)).map (fun j=>f[j%f.size]!)=((pU (z.cells.toList.map il) (len*n)).map (CV.ev J)).toArray ->
       Instr.fill (fun i=>some (i*n,n)) ((Array.range (len*n)).map (fun j=>f[j%f.size]!)) ((is.zip us).map fun(p:Nat×SV)=>(p.1,SV.ev J p.2))=some (l.map (CV.ev J)).toArray:=by
       intro f k;rw[k,hf]
      by_cases h0:len*n=0
      .rw[ab9 h0];simp only[Sem.run_bind,Sem.run_pure,Result.andThen_ok];rw[b #[] (by simp [h0,pU])];rfl
      .rw[aa8 h0];simp only[Sem.run_bind,Sem.run_pure,Result.andThen_ok,mq hz];rw[b z.cells ?_]
       .rfl
       have m:0<z.cells.toList.length:=by
        rw[agn,q.2];exact Nat.pos_of_ne_zero (fun e=>h0 (by rw[e,Nat.mul_zero]))
       have e:=Bk (J:=J) (z:=z.cells.toList.map il) (zs:=z.cells.toList) (jf _ _) m (len*n);rw[e];simp only[madeCells,agL]
     .simp only[TV.ev,SV.ev,CV.ev,ar,aq,hi];rw[av ah];simp
    .cases h
   .cases h
  .cases h
 .cases h
theorem Ao (h:xc P f=true) (args:Array Value) (w:World):(callFunc f args).run P w=.ok (.enter f args) w:=by
 unfold xc at h;split at h
 .rename_i fn hf;simp only[aaM,ad0]at h;unfold callFunc;simp only[Sem.run_bind,program,Sem.run,Result.andThen_ok,hf,h.2,acQ,afw];cases hb:fn.body with
  | none=>grind
  | some c=>simp
 .cases h
def qH (hA:Rel S w0 J st a w) (h:vl st c=some f):a.eval c=.func (.func f) #[] #[]:=by
 unfold vl at h;split at h
 .cases h;rfl
 .rename_i t;split at h
  .rename_i g x y hs;split at h
   .rename_i b;cases h;simp only[aaM,Array.isEmpty_iff]at b;obtain⟨rfl,rfl⟩:=b;have:=hA.tmp t _ hs;simp [Act.eval,this,TV.ev,SV.ev,CV.ev]
   .cases h
  .cases h
 .cases h
def SK (d:o.op=.call {callee:=.value c,args,argTypes:=ts}) (g:a.eval c=.func (.func f) #[] ws.toArray) (he:xc P f=true) (hx:args.toList.map a.eval=xs)
 {K:Act->World->Prop} {Q:Exit->Act->World->Prop} (i:Calls P f (xs++ws).toArray w fun e w'=>∃ v,e=.returned v/\K (a.put o.dst v) w'):W.j o a w K Q:=by
 have k:args.map a.eval=xs.toArray:=by rw[<-hx];obtain⟨l⟩:=args;exact age
 have b:(execOp a.eval o).run P w=.ok (.enter f (xs++ws).toArray) w:=by
  unfold execOp;rw[d];simp only[resolve,g,Deferred.ofValue,Sem.run_bind,Sem.run_pure,Result.andThen_ok,invoke];rw[k];have h:=Ao (P:=P) he (xs++ws).toArray w;rw[show(xs++ws).toArray=#[]++xs.toArray++ws.toArray by simp]at h ⊢;exact h
 exact W.call b i
theorem Vr (b:o.op=.call {callee:=.value c,args,argTypes:=ts}) (d:a.eval c=.func (.func f) #[] #[]) (he:xc P f=true) (hx:args.toList.map a.eval=xs)
 {K:Act->World->Prop} {Q:Exit->Act->World->Prop} (g:Calls P f xs.toArray w fun e w'=>∃ v,e=.returned v/\K (a.put o.dst v) w'):W.j o a w K Q :=
 SK (ws:=[]) b d he hx (by grind)
def D7 (hA:Rel S w0 J st a w) {ws:List TV} (h:IX st c=some (f,ws)):a.eval c=.func (.func f) #[] (ws.map (TV.ev J)).toArray:=by
 unfold IX at h;split at h
 .rename_i g hg;cases h;exact qH hA hg
 .split at h
  .rename_i t hz;have key:∀ v,st.tmps[t]?=some (some v)->a.eval (.tmp t)=v.ev J:=fun v hv=>by
    have:=hA.tmp t v hv;simp [Act.eval,this]
   split at h
   .rename_i hs;cases h;rw[key _ hs];trivial
   .rename_i hs;cases h;rw[key _ hs];trivial
   .cases h
  .cases h
def IW (hA:Rel S w0 J st a w) (hu:st.upto st.nv=true) {s d:TypeId} (q:o.op=.convert s d y) {x:TV} (hx:a.eval y=x.ev J) (h:WR P st s d x o.dst=some R)
 {K:Act->World->Prop} {Q:Exit->Act->World->Prop} (hK:Fin S w0 C J st a o.dst R K):W.j o a w K Q:=by
 unfold WR at h;split at h
 .rename_i r;subst r;split at h
  .rename_i el hs;split at h
   .rename_i f;obtain⟨f,t⟩:=f;have he:=Ln f;split at h
    .rename_i b y' l c;split at h
     .rename_i p cs T hb;cases h;have hp:=gk hb;have m:0<=J.i b:=hA.pos _ (aah hp);have hw:=hA.toMRel.bc hp
      let o':Obj:=.cells (cs.map (CV.ev J)).toArray T (cs.length,cs.length+1)
      let w':World:=w.freeze ⟨(J.i b).toNat,cs.length,none⟩ 1
      have B:(J.i b).toNat<w.heap.size:=(acq.1 hw).1;have u:w'.heap[(J.i b).toNat]?=some o':=by
       show(w.freeze ⟨(J.i b).toNat,cs.length,none⟩ 1).heap[(J.i b).toNat]?=_;unfold World.freeze;rw[aa8 az];simp only[agJ,afm,hw,acr];rfl
      have v:∀ k,k≠(J.i b).toNat->w'.heap[k]?=w.heap[k]?:=by
       intro k hk;show(w.freeze ⟨(J.i b).toNat,cs.length,none⟩ 1).heap[k]?=_;unfold World.freeze;rw[aa8 az];simp only[agJ,aa8 hk.symm]
      have hsz:w'.heap.size=w.heap.size:=by
       show(w.freeze ⟨(J.i b).toNat,cs.length,none⟩ 1).heap.size=_;unfold World.freeze;rw[aa8 az];simp
      have g:w'.os=w.os/\w'.tape=w.tape/\w'.output=w.output:=by
       show(w.freeze ⟨(J.i b).toNat,cs.length,none⟩ 1).os=_/\(w.freeze ⟨(J.i b).toNat,cs.length,none⟩ 1).tape=_/\(w.freeze ⟨(J.i b).toNat,cs.length,none⟩ 1).output=_;unfold World.freeze;rw[aa8 az];exact⟨rfl,rfl,rfl⟩
      have ex:a.eval y=.slice (some ⟨(J.i b).toNat,(aw J y').toNat,none⟩) (aw J l).toNat (aw J c).toNat:=by
       rw[hx];simp only[TV.ev,SV.ev,CV.ev,ar];rw[av m]
      have n:(execOp a.eval o).run P w=.ok (.value (a.eval y)) w':=by
       have A:w.shape? (J.i b).toNat=some (T,cs.length):=by
        unfold World.shape?;rw[hw];simp
       unfold execOp;rw[q];simp [convert,run_underlying hs,run_underlying he,markStringish,ex,A];rfl
      refine fk n ?_;have hg:ai st.nv J (J.mY st.nv (Hl.one (J.i b).toNat o')):=fh _ _ _ (ab8 _);refine hK _ _ w' hg ⟨gu _ _ _,rfl⟩ (Rel.step hA hu hg ?_ _ _ _ _ (fun z hz=>?_))
      .refine hA.toMRel.set hp rfl g.1 g.2.1 g.2.2 ah (fun k _ hk=>v k fun e=>hk (by rw[e];exact Hl.cn.2 rfl)) (Mem.bF hg (St.cR hu)) ?_ trivial ?_
       .intro k D hk;rw[show(bo.hp st.nv [] [E.var b] []).hl (J.mY st.nv (Hl.one (J.i b).toNat o'))=Hl.one (J.i b).toNat o' from gu _ _ _]at hk;obtain⟨rfl,rfl⟩:=Hl.oh hk;exact u
       .intro k hk;rw[show(bo.hp st.nv [] [E.var b] []).hl (J.mY st.nv (Hl.one (J.i b).toNat o'))=Hl.one (J.i b).toNat o' from gu _ _ _]at hk;left;show(Hl.one (J.i b).toNat _).mem k;exact Hl.cn.2 (Hl.cn.1 hk)
      .cases hz;rw[hx];exact(TV.bF hg _ t).symm
     .cases h
    .cases h
   .cases h
  .cases h
 .cases h
def Ua {d:TypeDesc} (hd:P.underlying T=some d) (a:∀ i,d≠.interface i) (x:Value) (w:World):(Instr.makeInterface T x).run P w=.ok (.iface T x) w:=by
 unfold Instr.makeInterface;rw[Sem.run_bind,run_underlying hd];simp_all
def aa4 (hA:Rel S w0 J st a w) (hu:st.upto st.nv=true) (c:o.op=.makeInterface T y) {v:SV} (hx:a.eval y=v.ev J) {d:TypeDesc} (hd:P.underlying T=some d) (e:∀ i,d≠.interface i)
 {K:Act->World->Prop} {Q:Exit->Act->World->Prop} (hK:Fin S w0 C J st a o.dst ⟨({st with nv:=st.nv+1} : St).put o.dst (some (.sv (.one (.vr st.nv)))),.tt,some (.mki st.nv T v)⟩ K):W.j o a w K Q:=by
 have b:(execOp a.eval o).run P w=.ok (.value (.iface T (v.ev J))) w:=by
  unfold execOp;rw[c];simp only[Sem.run_bind,hx];simp [Ua hd e]
 refine fk b ?_;have hg:ai st.nv J (J.HY st.nv (.iface T (v.ev J))):=zS _ _ _ (ab8 _);refine hK _ _ w hg ⟨?_,rfl⟩ (Rel.put (Rel.qo hg hu hA (hA.bF hg hu).toMRel _) _ _ _ (fun z hz=>?_))
 .show(J.HY st.nv (.iface T (v.ev J))).v st.nv=_;simp [Env.HY]
 .cases hz;simp [TV.ev,SV.ev,CV.ev,Env.HY]
def Jx (hA:Rel S w0 J st a w) (hu:st.upto st.nv=true) (b:o.op=.makeInterface T y) {x:TV} (hx:a.eval y=x.ev J) (h:XW P st T x o.dst=some R)
 {K:Act->World->Prop} {Q:Exit->Act->World->Prop} (hK:Fin S w0 C J st a o.dst R K):W.j o a w K Q:=by
 unfold XW at h;split at h
 .split at h
  .rename_i e hd;cases h;exact aa4 hA hu b hx hd aC hK
  .rename_i e hd;cases h;exact aa4 hA hu b hx hd aC hK
  .cases h
 .cases h
def Ar (B:∀ s∈C.Γ,s.OK P) (hA:Rel S w0 J st a w) (h:TG P C.Γ st o=some R) (hn:R.need.holds C ms J)
 {K:Act->World->Prop} {Q:Exit->Act->World->Prop} (hK:Fin S w0 C J st a o.dst R K):W.j o a w K Q:=by
 unfold TG at h;split at h
 .rename_i hu;split at h
  .rename_i t b;split at h
   .rename_i z hz;have e:(execOp a.eval o).run P w=.ok (.value (.pointer (some ⟨w.heap.size,0,none⟩))) (w.alloc (.cells z.cells t)):=by
     unfold execOp;rw[b];simp only[Sem.run_bind,Instr.alloc,mq hz,Result.andThen_ok];rfl
    refine fk e (qa h hu hA hK (by rw[jf]) (fun J' hg hi=>?_));simp only[TV.ev,SV.ev,CV.ev,ar,aq,hi];rw[av ah];simp
   .cases h
  .rename_i t x b;split at h
   .rename_i v hx;split at h
    .rename_i r;have ex:=aH hA hx;have e:(execOp a.eval o).run P w=.ok (.value (.pointer (some ⟨w.heap.size,0,none⟩))) (w.alloc (.cells (v.ev J).cells t)):=by
      unfold execOp;rw[b];simp only[Sem.run_bind,Instr.box,ex,TV.ev];rfl
     refine fk e (qa h hu hA hK ?_ (fun J' hg hi=>?_))
     .rw[<-SV.vo v r]
     .simp only[TV.ev,SV.ev,CV.ev,ar,aq,hi];rw[av ah];simp
    .cases h
   .cases h
  .rename_i t p x b;split at h
   .rename_i O v hp hx;have N:a.eval p=O.ev J:=aH hA hp;have ex:a.eval x=v.ev J:=aH hA hx;split at h
    .rename_i n mem hs;cases h;simp only[xk]at hn;obtain⟨q,w',D,e,hm⟩:=Km hA.toMRel hs hn;have g:(execOp a.eval o).run P w=.ok .skip w':=by
      unfold execOp;rw[b];simp only[Sem.run_bind,Instr.storeAt,N,ex,D,Instr.sureAddr,Sem.run_pure,Result.andThen_ok,e]
     exact Ch g (hK J _ w' (ai.refl _ _) rfl (Rel.put (st:={st with mem:=mem}) ⟨hm,hA.size,hA.defers,hA.tmp,hA.path⟩ _ _ _ (fun y hy=>by cases hy)))
    .rename_i x' mem hs;cases h;obtain⟨q,w',J',D,e,hg,u,E,hm⟩:=Kn hA hu hs hn;have g:(execOp a.eval o).run P w=.ok .skip w':=by
      unfold execOp;rw[b];simp only[Sem.run_bind,Instr.storeAt,N,ex,D,Instr.sureAddr,Sem.run_pure,Result.andThen_ok,e]
     exact Ch g (hK J' _ w' hg ⟨u,E⟩ (Rel.step hA hu hg hm _ _ _ _ (fun y hy=>by cases hy)))
    .cases h
   .cases h
  .rename_i t l c b;split at h
   .rename_i x y hl F;obtain⟨v',w',e,hk⟩:=GD hA hu h hn hK;refine fk (v:=v') (w':=w') ?_ hk;unfold execOp;rw[b];simp only[Sem.run_bind,aH hA hl,aH hA F,e,Result.andThen_ok,Sem.run_pure]
   .cases h
  .rename_i t len parts b;split at h
   .rename_i vs hx;obtain⟨v',w',e,hk⟩:=IU hA hu h hK;refine fk (v:=v') (w':=w') ?_ hk;have e1:=jj hA _ _ hx;have U:(parts.map fun p=>(p.1,a.eval p.2))=((parts.toList.map (·.1)).zip (vs.map (TV.ev J))).toArray:=by
     rw[<-e1,adv,<-GF parts.toList];obtain⟨l⟩:=parts;exact age
    unfold execOp;rw[b];rw[<-U]at e;simp only[Sem.run_bind,e,Result.andThen_ok,Sem.run_pure]
   .cases h
  .rename_i args ats b;split at h
   .rename_i x y t t' A i;split at h
    .rename_i G;subst G;split at h
     .rename_i H I hx hy;obtain⟨v',w',e,hk⟩:=IC (ty:=o.type) hA hu h hn hK;refine fk (v:=v') (w':=w') ?_ hk;have L:args.map a.eval=#[H.ev J,I.ev J]:=by
       obtain⟨l⟩:=args;simp only at A;subst A;simp [aH hA hx,aH hA hy]
      have M:ats=#[t,t]:=by obtain⟨l⟩:=ats;simp only at i;rw[i]
      obtain⟨dst,op,ty,pos,V,gd⟩:=o;simp only at b;subst b;rw[BigFrame.execOp_builtin,L,M];unfold builtin;simp only[Sem.run_bind,e,Result.andThen_ok,Sem.run_pure]
     .cases h
    .cases h
   .cases h
  .rename_i args ats b;split at h
   .rename_i x y t t' A i;split at h
    .rename_i H I hx hy;obtain⟨v',w',e,hk⟩:=FR (t':=t') (ty:=o.type) hA hu h hn hK;refine fk (v:=v') (w':=w') ?_ hk;have L:args.map a.eval=#[H.ev J,I.ev J]:=by
      obtain⟨l⟩:=args;simp only at A;subst A;simp [aH hA hx,aH hA hy]
     have M:ats=#[t,t']:=by obtain⟨l⟩:=ats;simp only at i;rw[i]
     obtain⟨dst,op,ty,pos,V,gd⟩:=o;simp only at b;subst b;rw[BigFrame.execOp_builtin,L,M];unfold builtin;simp only[Sem.run_bind,e,Result.andThen_ok,Sem.run_pure]
    .cases h
   .cases h
  .rename_i s d x b;split at h
   .rename_i x hx;exact IW hA hu b (aH hA hx) h hK
   .cases h
  .rename_i T x b;split at h
   .rename_i x hx;exact Jx hA hu b (aH hA hx) h hK
   .cases h
  .rename_i t b;exact pV hA hu (by rw[b];exact h) hn hK
  .rename_i t m k ok b;exact pV hA hu (by rw[b];exact h) hn hK
  .rename_i t m k v b;exact pV hA hu (by rw[b];exact h) hn hK
  .rename_i args ats b;exact pV hA hu (by rw[b];exact h) hn hK
  .rename_i c args ats b;split at h
   .rename_i f vs F hx;split at h
    .rename_i he;exact Vr b (qH hA F) he (jj hA _ _ hx) (FM B hA hu h hn hK)
    .cases h
   .cases h
  .cases h
 .cases h
end
inductive Tag | norm | ret | exit (id:Nat)
 deriving DecidableEq
def iT:Tag->Exit
 | .norm=>.normal
 | .ret=>.ret
 | .exit i=>.exit i
abbrev Fy:=Tag->St->Option Nd
def CI:E->List E
 | .and a b=>CI a++CI b
 | e=>[e]
def GH (path:List E) (n:E):List E:=(CI n).filter fun c=>!(known path c==some true)
def vW:List E->Nd->Nd
 | [],a=>a
 | c::l,a=>qy (ndE c) (vW l a)
def GI (st:St) (n:E) (k:St->Option Nd):Option Nd :=
 let cs:=GH st.path n
 (k {st with path:=cs++st.path}).map (vW cs)
def CJ {J:Env} : ∀ n:E,(∀ c∈CI n,aY J c=true)->aY J n=true:=by
 intro n
 induction n with
 | and a b d e =>
  intro h;simp only[CI,acg]at h;rw[sk,d (fun c f=>h c (Or.inl f)),e (fun c f=>h c (Or.inr f))];rfl
 | _=>intro h;exact h _ (by simp [CI])
def E6:TV:=.sv (.one (.val undef))
def Uh:Value->Bool
 | .bool _=>false
 | _=>true
def xf (ops:List Oper) (st:St) (o:Oper):Option (Option (E×Bool)) :=
 match o.guard with
 | none=>some none
 | some (j,want)=>match(ops[j]?).bind (·.dst)with
  | some t=>match st.tmps[t]? with
   | some (some (.sv (.one (.bool e))))=>some (some (e,want))
   | some (some (.sv (.one (.val v))))=>if Uh v then some (some (.ff,true))else none
   | _=>none
  | none=>none
def kT (P:Program) (st:St):List ResultVar->Option (E×List SV)
 | []=>some (.tt,[])
 | .tmp t::l=>match cA st (.tmp t),kT P st l with
  | some (.sv v),some (m,vs)=>some (m,v::vs)
  | _,_=>none
 | .cell t ty::l=>match cA st (.tmp t),kT P st l with
  | some (.sv (.one c)),some (m,vs)=>match Lt P st.mem ty c with
   | some (k,v)=>some (mkAnd k m,v::vs)
   | none=>none
  | _,_=>none
def GX:List SV->TV
 | [v]=>.sv v
 | l=>.tup l
abbrev Ex:=Nat->List Nat->Code->St->Fy->Option Nd
variable {ex:Ex}
def zw (P:Program) (ex:Ex) (d:Nat) (f:FuncId) (args:List TV) (st:St) (k:TV->St->Option Nd):Option Nd :=
 match P.funcs[f]? with
 | some fn=>match fn.body with
  | some c=>ex d [f] c ⟨args.map some++List.replicate (fn.ntmps-args.length) none,st.mem,st.nv,st.path⟩ fun t s=>match t with
   | .exit _=>none
   | _=>match kT P s fn.results.toList with
    | some (n,vs)=>GI s n fun s=>k (GX vs) s
    | none=>none
  | none=>none
 | none=>none
def Uc (P:Program) (o:Oper) (k:St->Option Nd):Nat->St->Option Nd
 | 0,st=>k st
 | n+1,st=>match C5 P st o with
  | some (s,x)=>(Uc P o k n s).map (.ext x ·)
  | none=>k st
def wI (P:Program) (Γ:List Spec) (ex:Ex) (d:Nat) (o:Oper) (st:St) (k:St->Option Nd):Option Nd :=
 match quiet P st o.op with
 | some (n,v)=>GI st n fun st=>k (st.put o.dst (some v))
 | none=>Uc P o (fun st=>match TG P Γ st o with
  | some R=>if st.nv<=R.st.nv then(k R.st).map fun nd=>qy R.need (match R.x with | some x=>.ext x nd | none=>nd)else none
  | none=>match o.op with
   | .call {callee:=.value c,args,argTypes:=_}=>match IX st c,wc st args.toList with
    | some (f,ws),some vs=>if xc P f&&st.upto st.nv then zw P ex d f (vs++ws) st fun r s=>if st.nv<=s.nv then k (({s with tmps:=st.tmps} : St).put o.dst (some r))else none else none
    | _,_=>none
   | .panic _=>some (.e .ff)
   | .makeInterface _ _=>some (.e .ff)
   | _=>none) 4 st
def kl (P:Program) (Γ:List Spec) (ex:Ex) (d:Nat) (ops:List Oper):List Oper->St->(St->Option Nd)->Option Nd
 | [],st,k=>k st
 | o::l,st,k=>match xf ops st o with
  | none=>none
  | some none=>wI P Γ ex d o st fun s=>if st.nv<=s.nv then kl P Γ ex d ops l s k else none
  | some (some (e,want))=>match known st.path e with
   | some b=>if b=want then wI P Γ ex d o st fun s=>if st.nv<=s.nv then kl P Γ ex d ops l s k else none else kl P Γ ex d ops l (st.put o.dst (some E6)) k
   | none =>
    let y:=if want then e else mkNot e
    match wI P Γ ex d o {st with path:=y::st.path} fun s=>if st.nv<=s.nv then kl P Γ ex d ops l s k else none,kl P Γ ex d ops l (({st with path:=mkNot y::st.path} : St).put o.dst (some E6)) k with
    | some a,some b=>some (qy (yo y a) (yo (mkNot y) b))
    | _,_=>none
section
variable {P:Program} {C:Ctx} {ms:Nat->Nat} {S:Nat->Prop} {w0:World} {J J':Env} {st:St} {mem mem':Mem} {a:Act} {w w':World}
def MD (S:Nat->Prop) (w0:World) (C:Ctx) (d:Nat) (ms:Nat->Nat) (n:Nat) (J:Env) (k:St->Option Nd) (K:Act->World->Prop):Prop :=
 ∀ a st' nd J' a' w',(∀ i,i<d->a i=ms i)->k st'=some nd->ai n J J'->Rel S w0 J' st' a' w'->nd.holds C a J'->K a' w'
def MD.fx {d n:Nat} {a:Nat->Nat} {K:Act->World->Prop} (h:MD S w0 C d ms n J k K) (c:∀ i,i<d->a i=ms i) (hg:ai n J J') (hm:n<=m):MD S w0 C d a m J' k K :=
 fun b st' nd e a' w' f hk g hA hn=>h b st' nd e a' w' (fun i hi=>(f i hi).trans (c i hi)) hk (hg.trans (g.mono hm)) hA hn
def Rel.rD (hA:Rel S w0 J st a w) (h:∀ c∈cs,aY J c=true):Rel S w0 J {st with path:=cs++st.path} a w :=
 ⟨hA.toMRel,hA.size,hA.defers,hA.tmp,fun e he=>(acg.1 he).elim (h e) (hA.path e)⟩
theorem Rel.sM (hA:Rel S w0 J st a w) {c:E} (h:aY J c=true):Rel S w0 J {st with path:=c::st.path} a w :=
 hA.rD (cs:=[c]) (fun x hx=>by grind)
theorem oe:∀ (cs:List E) (a:Nd),(vW cs a).holds C ms J->(∀ c∈cs,aY J c=true)/\a.holds C ms J
 | [],a,h=>⟨aC,h⟩
 | c::l,a,h=>by
  simp only[vW,fa,xk]at h;obtain⟨h1,b⟩:=oe l a h.2
  grind
theorem yp (h:GI st n k=some nd) (hA:Rel S w0 J st a w) (hn:nd.holds C ms J) :
 aY J n=true/\∃ st' b,k st'=some b/\st'={st with path:=GH st.path n++st.path}/\Rel S w0 J st' a w/\b.holds C ms J:=by
 unfold GI at h;simp only[aaH]at h;obtain⟨b,hk,rfl⟩:=h;obtain⟨h1,d⟩:=oe _ _ hn;refine⟨CJ n fun c e=>?_,_,b,hk,rfl,hA.rD h1,d⟩;by_cases hk:known st.path c=some true
 .exact fw hA.path hk
 .exact h1 c (by unfold GH;grind)
def Il (J:Env):Option (E×Bool)->Bool
 | none=>true
 | some q=>aY J q.1==q.2
def jb (hr:Rel S w0 J st a w) {ops:List Oper} {g:Option (E×Bool)} (h:xf ops st o=some g) :
 Region.wanted o (yielded ops.toArray a.tmps)=Il J g:=by
 unfold xf at h;unfold Region.wanted;split at h
 .rename_i hg;cases h;simp only[hg,Il]
 .rename_i j want hg;simp only[hg];split at h
  .rename_i t b;split at h
   .rename_i e hs;cases h;have:=hr.tmp t _ hs;have hy:yielded ops.toArray a.tmps j=some (aY J e):=by
     unfold yielded;have e1:(ops.toArray[j]?).bind (·.dst)=some t:=by simpa using b
     rw[e1];simp only[afI,this,TV.ev,SV.ev,CV.ev]
    rw[hy];simp [Il]
   .rename_i v hs;split at h
    .rename_i hv;cases h;have:=hr.tmp t _ hs;have hy:yielded ops.toArray a.tmps j=none:=by
      unfold yielded;have e1:(ops.toArray[j]?).bind (·.dst)=some t:=by simpa using b
      rw[e1];simp only[afI,this,TV.ev,SV.ev,CV.ev];cases v<;>trivial
     rw[hy];trivial
    .cases h
   .cases h
  .cases h
def mT (hA:Rel S w0 J st a w):∀ (l:List ResultVar) (n:E) (vs:List SV),kT P st l=some (n,vs)->aY J n=true ->
 (l.mapM fun(x:ResultVar)=>match x with
  | .tmp t=>(pure (a.tmps.getD t undef):Sem Value)
  | .cell p t=>do loadVar t (<-asAddr (a.tmps.getD p undef))).run P w=.ok (vs.map (SV.ev J)) w
 | [],n,vs,h,_=>by cases h;rfl
 | .tmp t::l,n,vs,h,hn=>by
  simp only[kT]at h;split at h
  .rename_i v m b h1 d;cases h;have e1:=aH hA h1;simp only[Act.eval,TV.ev]at e1;have ih:=mT hA l _ _ d hn;simp_all
  .cases h
 | .cell p t::l,n,vs,h,hn=>by
  simp only[kT]at h;split at h
  .rename_i c m b h1 d;split at h
   .rename_i k v hl;cases h;rw[aN,aaM]at hn;have e1:=aH hA h1;obtain⟨q,f,e⟩:=yl hA.toMRel hl hn.1;simp only[Act.eval,TV.ev,SV.ev,f]at e1;have ih:=mT hA l _ _ d hn.2;have g:(asAddr (a.tmps.getD p undef)).run P w=.ok q w:=by rw[e1];rfl
    simp_all
   .cases h
  .cases h
def Cw (hA:Rel S w0 J st a w) {fn:Func} {vs:List SV} (h:kT P st fn.results.toList=some (n,vs)) (hn:aY J n=true) :
 (results fn a.tmps).run P w=.ok ((GX vs).ev J) w:=by
 have key:=mT hA _ _ _ h hn;unfold results;have hm:(fn.results.mapM fun(x:ResultVar)=>match x with
  | .tmp t=>(pure (a.tmps.getD t undef):Sem Value)
  | .cell p t=>do loadVar t (<-asAddr (a.tmps.getD p undef))).run P w=.ok (vs.map (SV.ev J)).toArray w:=by
  generalize fn.results=rs at *;obtain⟨l⟩:=rs;simp only[agw,Sem.run_map,key,Result.andThen_ok]
 simp only[Sem.run_bind];refine(ach (fun r=>Result.andThen r _) hm).trans ?_;simp only[Result.andThen_ok,Sem.run_pure]
 congr 1
 match vs with
 | []=>simp [GX,TV.ev]
 | [v]=>simp [GX,TV.ev]
 | v::u::l=>trivial
end
abbrev MA:=Option (List As×List (Nat×Option Nat))
def mI (n0:Nat) (t e:E):Option (List As) :=
 match t with
 | .var n=>if n0<=n then some [⟨n,0,.int .i64 e⟩]else if t=e then some []else none
 | t=>if t=e/\t.upto n0=true then some []else none
def mB (n0:Nat) (t e:E):Option (List As) :=
 match t with
 | .bvar n=>if n0<=n then some [⟨n,1,.bool e⟩]else if t=e then some []else none
 | t=>if t=e/\t.upto n0=true then some []else none
def mS (n0:Nat) (t e:E):Option (List As) :=
 match t with
 | .svar n=>if n0<=n then some [⟨n,2,.str e⟩]else if t=e then some []else none
 | t=>if t=e/\t.upto n0=true then some []else none
def Cn:Option (List As)->Option (List As)->Option (List As)
 | some a,some b=>some (a++b)
 | _,_=>none
def J5:CV->CV->Bool
 | .pti a o s n i,.pti a' o' c n' d=>decide (a=a')&&decide (o=o')&&decide (s=c)&&decide (n=n')&&decide (i=d)
 | .hv h x y j,.hv h' x' y' j'=>decide (h=h')&&decide (x=x')&&decide (y=y')&&decide (j=j')
 | .clo f x,.clo b x'=>decide (f=b)&&decide (x=x')
 | .clo2 f x y,.clo2 b x' y'=>decide (f=b)&&decide (x=x')&&decide (y=y')
 | _,_=>false
theorem Oq {a b:CV} (h:J5 a b=true):a=b:=by
 unfold J5 at h
 grind
def mCV (n0:Nat) (t c:CV):Option (List As) :=
 match t,c with
 | .int k e,.int b a=>if k=b then mI n0 e a else none
 | .bool e,.bool a=>mB n0 e a
 | .str e,.str a=>mS n0 e a
 | .hptr x y,.hptr x' y'=>Cn (mI n0 x x') (mI n0 y y')
 | .sl x y l c,.sl x' y' l' c'=>Cn (Cn (mI n0 x x') (mI n0 y y')) (Cn (mI n0 l l') (mI n0 c c'))
 | .map x,.map x'=>mI n0 x x'
 | .vr n,c=>if n0<=n then some [⟨n,3,c⟩]else match c with
  | .vr m=>if n=m then some []else none
  | _=>none
 | .val v,.val v'=>if HP v v' then some []else none
 | t,c=>if J5 t c=true/\t.upto n0=true then some []else none
def mL (n0:Nat):List CV->List CV->Option (List As)
 | [],[]=>some []
 | a::l,b::m=>Cn (mCV n0 a b) (mL n0 l m)
 | _,_=>none
def Nz (n0:Nat):List SV->List SV->Option (List As)
 | [],[]=>some []
 | .one a::l,.one b::m=>Cn (mCV n0 a b) (Nz n0 l m)
 | .agg a::l,.agg b::m=>Cn (mL n0 a b) (Nz n0 l m)
 | _,_=>none
def mTV (n0:Nat):TV->TV->Option (List As)
 | .sv (.one a),.sv (.one b)=>mCV n0 a b
 | .sv (.agg l),.sv (.agg m)=>mL n0 l m
 | .tup l,.tup m=>Nz n0 l m
 | _,_=>none
def Bj (n0:Nat):List (Option TV)->List (Option TV)->Option (List As)
 | [],[]=>some []
 | none::l,_::m=>Bj n0 l m
 | some a::l,some b::m=>Cn (mTV n0 a b) (Bj n0 l m)
 | _,_=>none
def XT (n0:Nat) (t:bo) (r:Option bo):MA :=
 match t,r with
 | .dead,_=>some ([],[])
 | .bc a l T,some (.bc a' l' c)=>if T=c then
  if n0<=a then(mL n0 l l').map fun A=>(⟨a,0,.int .i64 (.var a')⟩::A,[])else if a=a' then(mL n0 l l').map fun A=>(A,[])else none
  else none
 | .hp k _ _ _,some (.hp b _ _ _)=>if n0<=k then some ([],[(k,some b)])else if k=b then some ([],[])else none
 | .hp k _ _ _,some .dead=>if n0<=k then some ([],[(k,none)])else none
 | .hp k _ _ _,none=>if n0<=k then some ([],[(k,none)])else none
 | .ro k _ _,some (.ro b _ _)=>if k<n0/\k=b then some ([],[])else none
 | _,_=>none
def T5 (n0:Nat):Mem->Mem->MA
 | [],_=>some ([],[])
 | r::l,m=>match XT n0 r m.head?,T5 n0 l m.tail with
  | some (a,h),some (b,g)=>some (a++b,h++g)
  | _,_=>none
def mg:List As->Bool
 | []=>true
 | a::l=>(l.all fun x=>!(x.n==a.n&&x.k==a.k))&&mg l
def mh:List (Nat×Option Nat)->Bool
 | []=>true
 | a::l=>(l.all fun x=>!(x.1==a.1))&&mh l
def T6 (n0:Nat) (h s:St):MA :=
 match Bj n0 h.tmps s.tmps,T5 n0 h.mem s.mem with
 | some a,some (b,g)=>if mg (a++b)&&mh g&&((a++b).all fun x=>decide (n0<=x.n))&&(g.all fun x=>decide (n0<=x.1))&&(h.path.all fun e=>e.upto n0&&s.path.contains e)&&decide (n0<=h.nv)then some (a++b,g)else none
 | _,_=>none
def SA (m:Mem) (p q:Nat):Mem:=match m[p]?,m[q]? with
 | some a,some b=>(m.set p b).set q a
 | _,_=>m
def X5 (m:Mem) (n:Nat):Mem:=m++List.replicate (n-m.length) .dead
def PW (n0:Nat) (A:List As):Mem->Nat->Mem->Mem
 | [],_,m=>m
 | .hp k _ (.var a::_) _::l,p,m=>PW n0 A l (p+1) (if n0<=k/\n0<=a then match A.find? (fun x=>x.n==a&&x.k==0)with
  | some ⟨_,_,.int _ e⟩=>match posOf m e with
   | some (q,r)=>if r.own=true then SA m p q else m
   | none=>m
  | _=>m
  else m)
 | _::l,p,m=>PW n0 A l (p+1) m
def mSt (n0:Nat) (h s:St):MA:=match Bj n0 h.tmps s.tmps with
 | some A=>match T6 n0 h {s with mem:=PW n0 A h.mem 0 (X5 s.mem h.mem.length)} with
  | some r=>some r
  | none=>T6 n0 h s
 | none=>none
section
variable {P:Program} {C:Ctx} {ms:Nat->Nat} {S:Nat->Prop} {w0:World} {J J':Env} {st:St} {mem mem':Mem} {a:Act} {w w':World} {n0:Nat} {A:List As} {hs:List (Nat×Option Nat)}
def cX (hA:A.all (fun x=>decide (n0<=x.n))=true) (hh:hs.all (fun x=>decide (n0<=x.1))=true):ai n0 J (assign J A hs):=by
 rw[acd]at hA hh;have key:∀ k j,k<n0->A.find? (fun a=>a.n==k&&a.k==j)=none:=fun k j hk=>by
  rw[afL];intro x hx;have:=hA x hx;simp only[aas]at this;simp;omega
 refine⟨fun k hk=>?_,fun k hk=>?_,fun k hk=>?_,fun k hk=>?_,fun k hk=>?_⟩
 .simp only[assign,key k 0 hk]
 .simp only[assign,key k 1 hk]
 .simp only[assign,key k 2 hk]
 .simp only[assign,key k 3 hk]
 .have:hs.find? (fun p=>p.1==k)=none:=by
   rw[afL];intro x hx;have:=hh x hx;simp only[aas]at this;simp;omega
  simp only[assign,this]
theorem fP:∀ {A:List As},mg A=true->∀ x∈A,A.find? (fun a=>a.n==x.n&&a.k==x.k)=some x
 | [],_,_,h=>by cases h
 | y::l,h,x,hx=>by
  simp only[mg,aaM,acd,ad0]at h;rw[List.find?_cons];rcases aaW.1 hx with rfl | hx
  .simp
  .have:=h.1 x hx;have hb:(y.n==x.n&&y.k==x.k)=false:=by
    rw[<-this];grind
   rw[hb];exact fP h.2 x hx
def jy:∀ {A:List (Nat×Option Nat)},mh A=true->∀ x∈A,A.find? (fun a=>a.1==x.1)=some x
 | [],_,_,h=>by cases h
 | y::l,h,x,hx=>by
  simp only[mh,aaM,acd,ad0]at h;rw[List.find?_cons];rcases aaW.1 hx with rfl | hx
  .simp
  .have:=h.1 x hx;have hb:(y.1==x.1)=false:=by rw[<-this];exact Bool.beq_comm
   rw[hb];exact jy h.2 x hx
section
variable (hd:mg A=true) (hall:A.all (fun x=>decide (n0<=x.n))=true) (hh:hs.all (fun x=>decide (n0<=x.1))=true) (hdh:mh hs=true)
include hd hall hh
def kN {t:E} (hm:mI n0 t e=some x) (hx:∀ y∈x,y∈A):aw (assign J A hs) t=aw J e:=by
 have hg:ai n0 J (assign J A hs):=cX hall hh;unfold mI at hm;split at hm
 .rename_i n;split at hm
  .cases hm;have:=fP hd _ (hx _ (aaQ.2 rfl));simp only[ar,assign,this,CV.ev,bO]
  .split at hm
   .rename_i he;subst he;exact bz hg (by simp only[E.upto,aas];omega)
   .cases hm
 .split at hm
  .rename_i a;obtain⟨rfl,hu⟩:=a;exact bz hg hu
  .cases hm
def QJ {t:E} (hm:mB n0 t e=some x) (hx:∀ y∈x,y∈A):aY (assign J A hs) t=aY J e:=by
 have hg:ai n0 J (assign J A hs):=cX hall hh;unfold mB at hm;split at hm
 .rename_i n;split at hm
  .cases hm;have:=fP hd _ (hx _ (aaQ.2 rfl));simp only[bn,assign,this,CV.ev,yX]
  .split at hm
   .rename_i he;subst he;exact mf hg (by simp only[E.upto,aas];omega)
   .cases hm
 .split at hm
  .rename_i a;obtain⟨rfl,hu⟩:=a;exact mf hg hu
  .cases hm
def QK {t:E} (hm:mS n0 t e=some x) (hx:∀ y∈x,y∈A):lC (assign J A hs) t=lC J e:=by
 have hg:ai n0 J (assign J A hs):=cX hall hh;unfold mS at hm;split at hm
 .rename_i n;split at hm
  .cases hm;have:=fP hd _ (hx _ (aaQ.2 rfl));simp only[fW,assign,this,CV.ev,SI]
  .split at hm
   .rename_i he;subst he;exact xD hg (by simp only[E.upto,aas];omega)
   .cases hm
 .split at hm
  .rename_i a;obtain⟨rfl,hu⟩:=a;exact xD hg hu
  .cases hm
omit hd hall hh in
theorem iY {x y:Option (List As)} (h:Cn x y=some z):∃ u v,x=some u/\y=some v/\z=u++v:=by
 unfold Cn at h;grind
def xj {t c:CV} (hm:mCV n0 t c=some x) (hx:∀ y∈x,y∈A):t.ev (assign J A hs)=c.ev J:=by
 unfold mCV at hm;split at hm
 .split at hm
  .rename_i hk;subst hk;simp only[CV.ev,kN hd hall hh hm hx]
  .cases hm
 .simp only[CV.ev,QJ hd hall hh hm hx]
 .simp only[CV.ev,QK hd hall hh hm hx]
 .obtain⟨u,v,h1,a,rfl⟩:=iY hm;simp only[CV.ev,kN hd hall hh h1 (fun y hy=>hx y (aei _ hy)),kN hd hall hh a (fun y hy=>hx y (acV _ hy))]
 .obtain⟨u,v,h1,a,rfl⟩:=iY hm;obtain⟨g,h,b,d,rfl⟩:=iY h1;obtain⟨v1,v2,e,f,rfl⟩:=iY a;simp only[CV.ev,kN hd hall hh b (fun y hy=>hx y (by simp [hy])),kN hd hall hh d (fun y hy=>hx y (by simp [hy])),kN hd hall hh e (fun y hy=>hx y (by simp [hy])),kN hd hall hh f (fun y hy=>hx y (by simp [hy]))]
 .simp only[CV.ev,kN hd hall hh hm hx]
 .rename_i n c;split at hm
  .cases hm;have:=fP hd _ (hx _ (aaQ.2 rfl));simp only[CV.ev,assign,this]
  .split at hm
   .rename_i m;split at hm
    .rename_i he;subst he;exact CV.bF (cX hall hh) _ (by simp only[CV.upto,aas];omega)
    .cases hm
   .cases hm
 .split at hm
  .rename_i hv;simp only[CV.ev,BU hv]
  .cases hm
 .split at hm
  .rename_i hv;rw[<-Oq hv.1];exact CV.bF (cX hall hh) _ hv.2
  .cases hm
def oU:∀ (l m:List CV) (x:List As),mL n0 l m=some x->(∀ y∈x,y∈A)->l.map (CV.ev (assign J A hs))=m.map (CV.ev J)
 | [],[],_,_,_=>rfl
 | a::l,b::m,x,h,hx=>by
  simp only[mL]at h;obtain⟨u,v,h1,c,rfl⟩:=iY h;simp only[abW,xj hd hall hh h1 (fun y hy=>hx y (aei _ hy)),oU l m v c (fun y hy=>hx y (acV _ hy))]
 | [],_::_,_,h,_=>by simp [mL]at h
 | _::_,[],_,h,_=>by simp [mL]at h
def uC:∀ (l m:List SV) (x:List As),Nz n0 l m=some x->(∀ y∈x,y∈A)->l.map (SV.ev (assign J A hs))=m.map (SV.ev J)
 | [],[],_,_,_=>rfl
 | .one a::l,.one b::m,x,h,hx=>by
  simp only[Nz]at h;obtain⟨u,v,h1,c,rfl⟩:=iY h;simp only[abW,SV.ev,xj hd hall hh h1 (fun y hy=>hx y (aei _ hy)),uC l m v c (fun y hy=>hx y (acV _ hy))]
 | .agg a::l,.agg b::m,x,h,hx=>by
  simp only[Nz]at h;obtain⟨u,v,h1,c,rfl⟩:=iY h;simp only[abW,SV.ev,oU hd hall hh _ _ _ h1 (fun y hy=>hx y (aei _ hy)),uC l m v c (fun y hy=>hx y (acV _ hy))]
 | [],_::_,_,h,_=>by trivial
 | .one _::_,[],_,h,_=>by trivial
 | .agg _::_,[],_,h,_=>by trivial
 | .one _::_,.agg _::_,_,h,_=>by trivial
 | .agg _::_,.one _::_,_,h,_=>by trivial
def NA {t c:TV} (hm:mTV n0 t c=some x) (hx:∀ y∈x,y∈A):t.ev (assign J A hs)=c.ev J:=by
 unfold mTV at hm;split at hm
 .exact xj hd hall hh hm hx
 .simp only[TV.ev,SV.ev,oU hd hall hh _ _ _ hm hx]
 .simp only[TV.ev,uC hd hall hh _ _ _ hm hx]
 .cases hm
theorem qZ:∀ (l m:List (Option TV)) (x:List As),Bj n0 l m=some x->(∀ y∈x,y∈A)->l.length=m.length/\∀ (t:Nat) v,l[t]?=some (some v)->∃ u,m[t]?=some (some u)/\v.ev (assign J A hs)=u.ev J
 | [],[],_,_,_=>⟨rfl,fun t v h=>by simp at h⟩
 | none::l,b::m,x,h,hx=>by
  simp only[Bj]at h;obtain⟨h1,a⟩:=qZ l m x h hx
  grind
 | some c::l,some b::m,x,h,hx=>by
  simp only[Bj]at h;obtain⟨u,v,h1,a,rfl⟩:=iY h;obtain⟨e1,d⟩:=qZ l m v a (fun y hy=>hx y (acV _ hy));refine⟨by simp [e1],fun t v hv=>?_⟩;cases t with
  | zero =>
   simp only[acF,aa3]at hv;subst hv;exact⟨b,rfl,NA hd hall hh h1 (fun y hy=>hx y (aei _ hy))⟩
  | succ t=>grind
 | some _::_,none::_,_,h,_=>by trivial
 | [],_::_,_,h,_=>by trivial
 | none::_,[],_,h,_=>by trivial
 | some _::_,[],_,h,_=>by trivial
include hdh
def Jp {t:bo} {r:Option bo} {g:List (Nat×Option Nat)} (hm:XT n0 t r=some (x,g)) (hx:∀ y∈x,y∈A) (hg:∀ y∈g,y∈hs) :
 (∃ s,r=some s/\t.hl (assign J A hs)=s.hl J/\(t.own=true->s.own=true)/\(s.pos J->t.pos (assign J A hs)))\/(t.hl (assign J A hs)=Hl.none/\t.pos (assign J A hs)):=by
 unfold XT at hm;split at hm
 .right;trivial
 .rename_i a l T a' l' e;split at hm
  .rename_i hT;subst hT;left;split at hm
   .simp only[aaH,acx]at hm;obtain⟨B,hB,rfl,rfl⟩:=hm;have e1:(assign J A hs).i a=J.i a':=by
     have:=fP hd _ (hx _ (acj ..));simp only[assign,this,CV.ev,bO,ar]
    refine⟨_,rfl,?_,fun _=>rfl,?_⟩
    .simp only[bo.hl,e1,oU hd hall hh _ _ _ hB (fun y hy=>hx y (abq _ hy))]
    .simp only[bo.pos,e1];exact id
   .split at hm
    .rename_i b he;subst he;simp only[aaH,acx]at hm;obtain⟨B,hB,rfl,rfl⟩:=hm;have e1:(assign J A hs).i a=J.i a:=(cX hall hh).i a;refine⟨_,rfl,?_,fun _=>rfl,?_⟩
     .simp only[bo.hl,e1,oU hd hall hh _ _ _ hB hx]
     .simp only[bo.pos,e1];exact id
    .cases hm
  .cases hm
 .rename_i k _ _ _ c _ _ _;split at hm
  .cases hm;have:=jy hdh _ (hg _ (aaQ.2 rfl));left;exact⟨_,rfl,by simp only[bo.hl,assign,this],fun _=>rfl,fun _=>trivial⟩
  .split at hm
   .rename_i b he;subst he;left;exact⟨_,rfl,by simp only[bo.hl];exact(cX hall hh).h k,fun _=>rfl,fun _=>trivial⟩
   .cases hm
 .rename_i k _ _ _;split at hm
  .cases hm;have:=jy hdh _ (hg _ (aaQ.2 rfl));right;exact⟨by simp only[bo.hl,assign,this],zzT⟩
  .cases hm
 .rename_i k _ _ _;split at hm
  .cases hm;have:=jy hdh _ (hg _ (aaQ.2 rfl));right;exact⟨by simp only[bo.hl,assign,this],zzT⟩
  .cases hm
 .rename_i k _ _ c _ _;split at hm
  .rename_i d;obtain⟨b,rfl⟩:=d;cases hm;left;exact⟨_,rfl,by simp only[bo.hl];exact(cX hall hh).h k b,fun h=>h,fun _=>trivial⟩
  .cases hm
 .cases hm
theorem Bh:∀ (l m:Mem) (x:List As) (g:List (Nat×Option Nat)),T5 n0 l m=some (x,g)->(∀ y∈x,y∈A)->(∀ y∈g,y∈hs)->∀ (p:Nat) t,l[p]?=some t ->
 (∃ s,m[p]?=some s/\t.hl (assign J A hs)=s.hl J/\(t.own=true->s.own=true)/\(s.pos J->t.pos (assign J A hs)))\/(t.hl (assign J A hs)=Hl.none/\t.pos (assign J A hs))
 | [],_,_,_,_,_,_,p,t,h=>by simp at h
 | r::l,m,x,g,h,hx,hg,p,t,hp=>by
  simp only[T5]at h;split at h
  .rename_i a1 h1 b1 b e1 a;cases h;cases p with
   | zero =>
    simp only[acF,aa3]at hp;subst hp;have:=Jp (J:=J) hd hall hh hdh e1 (fun y hy=>hx y (aei _ hy)) (fun y hy=>hg y (aei _ hy));rwa[List.head?_eq_getElem?]at this
   | succ p =>
    have:=Bh l m.tail _ _ a (fun y hy=>hx y (acV _ hy)) (fun y hy=>hg y (acV _ hy)) p t (by grind)
    grind
  .cases h
end
def MRel.map (h:MRel S w0 J mem w) (hm:∀ (p:Nat) t,mem'[p]?=some t->(∃ s,mem[p]?=some s/\t.hl J'=s.hl J/\(t.own=true->s.own=true)/\(s.pos J->t.pos J'))\/(t.hl J'=Hl.none/\t.pos J')):MRel S w0 J' mem' w:=by
 refine⟨h.cJ,fun r hr=>?_,fun r hr ho b hb=>?_,fun p q r s a hp c ho=>?_,fun r hr=>?_⟩
 .obtain⟨p,hp⟩:=acG hr;rcases hm p r hp with ⟨s,hs,e,_⟩ | ⟨e,_⟩
  .rw[e];exact h.sub s (aah hs)
  .rw[e];intro b o hb;cases hb
 .obtain⟨p,hp⟩:=acG hr;rcases hm p r hp with ⟨s,hs,e,h1,_⟩ | ⟨e,_⟩
  .rw[e]at hb;exact h.own s (aah hs) (h1 ho) b hb
  .rw[e]at hb;cases hb
 .rcases hm p r hp with ⟨d,hs,e,h1,_⟩ | ⟨e,_⟩
  .rcases hm q s c with ⟨t',g,f,_,_⟩ | ⟨f,_⟩
   .rw[e,f];exact h.bq p q d t' a hs g (h1 ho)
   .rw[f];rintro b ⟨_,y⟩;cases y
  .rw[e];rintro b ⟨y,_⟩;cases y
 .obtain⟨p,hp⟩:=acG hr;rcases hm p r hp with ⟨s,hs,_,_,h1⟩ | ⟨_,e⟩
  .exact h1 (h.pos s (aah hs))
  .exact e
theorem Bi (hm:T6 n0 h s=some (A,hs)) (hA:Rel S w0 J s a w):Rel S w0 (assign J A hs) h a w/\ai n0 J (assign J A hs)/\n0<=h.nv:=by
 unfold T6 at hm;split at hm
 .rename_i a1 b1 c e1 f;split at hm
  .rename_i d;obtain⟨rfl,rfl⟩:a1++b1=A/\c=hs:=by grind
   simp only[aaM,aas]at d;obtain⟨⟨⟨⟨⟨hd,hdh⟩,hall⟩,hh⟩,hp⟩,b⟩:=d;have hg:ai n0 J (assign J (a1++b1) c):=cX hall hh;obtain⟨t1,t2⟩:=qZ (J:=J) hd hall hh _ _ _ e1 (fun y hy=>aei _ hy);have m1:=Bh (J:=J) hd hall hh hdh _ _ _ _ f (fun y hy=>acV _ hy) (fun y hy=>hy);refine⟨⟨hA.toMRel.map m1,by rw[t1];exact hA.size,hA.defers,fun t v hv=>?_,fun e he=>?_⟩,hg,b⟩
   .obtain⟨u,hu,ev⟩:=t2 t v hv;rw[ev];exact hA.tmp t u hu
   .rw[acd]at hp;have:=hp e he;simp only[aaM]at this;rw[mf hg this.1];exact hA.path e (by grind)
  .cases hm
 .cases hm
theorem MRel.of_map (h:MRel S w0 J mem w) {mem':Mem} (σ:Nat->Nat) (hi:∀ i j,σ i=σ j->i=j) (hs:∀ (i:Nat) r,mem'[i]?=some r->mem[σ i]?=some r\/r=.dead):MRel S w0 J mem' w:=by
 have dead:∀ (r:bo),r=.dead->(r.hl J).sub w/\(∀ b,¬(r.hl J).mem b)/\r.pos J:=fun r e=>by
  subst e;exact⟨fun b o hb=>(by cases hb),fun b hb=>(by cases hb),zzT⟩
 refine⟨h.cJ,fun r hr=>?_,fun r hr ho b hb=>?_,fun p q r s c hp f ho=>?_,fun r hr=>?_⟩
 .obtain⟨i,a⟩:=acG hr;rcases hs i r a with e | e
  .exact h.sub r (aah e)
  grind
 .obtain⟨i,a⟩:=acG hr;rcases hs i r a with e | e
  .exact h.own r (aah e) ho b hb
  grind
 .rcases hs p r hp with e | e
  .rcases hs q s f with d | d
   .exact h.bq _ _ r s (fun he=>c (hi p q he)) e d ho
   .exact fun b ⟨_,y⟩=>(dead s d).2.1 b y
  .exact fun b ⟨x,_⟩=>(dead r e).2.1 b x
 .obtain⟨i,a⟩:=acG hr;rcases hs i r a with e | e
  .exact h.pos r (aah e)
  grind
theorem MRel.pad (h:MRel S w0 J mem w) (n:Nat):MRel S w0 J (X5 mem n) w:=by
 refine h.of_map id (fun _ _ e=>e) fun i r hr=>?_;unfold X5 at hr
 grind
theorem MRel.swap (h:MRel S w0 J mem w) (p q:Nat):MRel S w0 J (SA mem p q) w:=by
 unfold SA;split
 .rename_i a b hp c;have lp:=(aaG.1 hp).1;have d:=(aaG.1 c).1;refine h.of_map (fun i=>if i=p then q else if i=q then p else i) (fun i j e=>?_) fun i r hr=>Or.inl ?_
  .grind
  grind
 .exact h
def MRel.fix:∀ (l:Mem) (p:Nat) {m:Mem},MRel S w0 J m w->MRel S w0 J (PW n0 A l p m) w
 | [],_,_,h=>h
 | r::l,p,m,h=>by
  unfold PW;split
  .exact h
  .rename_i heq;cases heq;refine MRel.fix _ _ ?_;split
   .split
    .split
     .split
      .exact h.swap _ _
      .exact h
     .exact h
    .exact h
   .exact h
  .rename_i heq;cases heq;exact MRel.fix _ _ h
def CZ (hm:mSt n0 h s=some (A,hs)) (hA:Rel S w0 J s a w):Rel S w0 (assign J A hs) h a w/\ai n0 J (assign J A hs)/\n0<=h.nv:=by
 unfold mSt at hm;split at hm
 .rename_i b h0;split at hm
  .rename_i r hr;cases hm;exact Bi hr ⟨(hA.toMRel.pad _).fix _ _,hA.size,hA.defers,hA.tmp,hA.path⟩
  .exact Bi hm hA
 .cases hm
end
section
variable {P:Program} {C:Ctx} {S:Nat->Prop} {w0:World} {J J':Env} {st:St} {mem mem':Mem} {a:Act} {w w':World}
def FW (ro:Option Nat):Fence:={Fence.wide with round:=ro}
theorem zD {J:Operand->Value} {r:Next} (h:(execOp J o).run P w=.ok r w') (hr:∀ d,r≠.defer d):∀ c,o.op≠.defer c:=fun c a=>by
 unfold execOp at h;rw[a]at h;simp only[Sem.run_bind]at h;revert h;cases(resolve J c o.type).run P w with
 | ok d w2 =>
  intro h;have h:Result.ok (Next.defer d) w2=.ok r w':=h
  grind
 | _=>simp_all
def XE (ro:Option Nat) (dn:Nat) (P:Program):Za P where
 j o a w K Q:=o.wpIn (FW ro) dn P a w K Q
 val h hK:=⟨fun _ _=>trivial,by rw[Oper.semAt_eq _ _ _ (zD h fun _ h=>by cases h),h];exact hK⟩
 skip h hK:=⟨fun _ _=>trivial,by rw[Oper.semAt_eq _ _ _ (zD h fun _ h=>by cases h),h];exact hK⟩
 call h b:=⟨fun _ _=>trivial,by
  rw[Oper.semAt_eq _ _ _ (zD h fun _ h=>by cases h),h];rw[Oper.uponIn_enter];refine⟨fun h=>(agr h).elim,?_⟩;have b:CallsIn (FW ro) (dn-1) P _ _ _ _:=callsIn_wide.2 b;refine b.mono fun e w' ⟨v,he,hk⟩=>?_
  grind⟩
def xU (ro:Option Nat) (P:Program) (C:Ctx) (ex:Ex):Prop:=∀ dn d path c st k nd ms S w0 J a w (Q:Exit->Act->World->Prop),ex d path c st k=some nd->Rel S w0 J st a w->nd.holds C ms J ->
 (∀ t,MD S w0 C d ms st.nv J (k t) (Q (iT t)))->c.wpIn (FW ro) dn P Q a w
abbrev Cl:=xU none
def tM (hex:Cl P C ex) {d:Nat} {ms:Nat->Nat} {args:List TV} {k:TV->St->Option Nd} (h:zw P ex d f args st k=some nd) (hm:MRel S w0 J st.mem w) (hp:Path J st.path) (hn:nd.holds C ms J)
 {R:Value->World->Prop} (hk:∀ b r st' g J' w',(∀ i,i<d->b i=ms i)->k r st'=some g->ai st.nv J J'->MRel S w0 J' st'.mem w'->Path J' st'.path->g.holds C b J'->R (r.ev J') w') :
 Calls P f (args.map (TV.ev J)).toArray w fun e w'=>∃ v,e=.returned v/\R v w':=by
 unfold zw at h;split at h
 .rename_i fn hf;split at h
  .rename_i c hb;refine calls_of_wp hf hb ((wpIn_wide (n:=0)).1 ?_);have j:Rel S w0 J ⟨args.map some++List.replicate (fn.ntmps-args.length) none,st.mem,st.nv,st.path⟩ {tmps:=(args.map (TV.ev J)).toArray++Array.replicate (fn.ntmps-(args.map (TV.ev J)).toArray.size) undef,defers:=[]} w:=by
    refine⟨hm,aC,rfl,?_,hp⟩;intro t v hs;have hs':(args.map some++List.replicate (fn.ntmps-args.length) none)[t]?=some (some v):=hs;rw[agk]at hs';split at hs'
    .rename_i q;rw[abl,aaH]at hs';obtain⟨u,x,y⟩:=hs';cases y;have l:t<args.length:=by simpa using q
     rw[Array.getElem?_append,ab9 (by simpa using l)];simp [x]
    .rw[aem]at hs';split at hs'<;>cases hs'
   refine hex _ _ _ _ _ _ _ ms _ _ _ _ _ _ h j hn fun t=>?_;intro b st' g J' a' w' z a hg hA A;have key:∀ (t:Tag),(match kT P st' fn.results.toList with
    | some (n,vs)=>GI st' n fun s=>k (GX vs) s
    | none=>none)=some g->a'.defers=[]/\∃ v,(results fn a'.tmps).run P w'=.ok v w'/\∃ v',Ending.returned v=.returned v'/\R v' w':=by
    intro t a;split at a
    .rename_i n vs hv;obtain⟨hb,m,o,bJ,he,p,B⟩:=yp a hA A;refine⟨hA.defers,_,Cw hA hv hb,_,rfl,?_⟩;exact hk b _ m o J' w' z bJ hg p.toMRel p.path B
    .cases a
   cases t with
   | norm=>exact key .norm a
   | ret=>exact key .ret a
   | exit i=>cases a
  .cases h
 .cases h
theorem MRel.Ub (h:MRel S w0 J mem w) {r1 r2 r':bo} (hp:mem[p]?=some r1) (g:mem[q]?=some r2) (k:q≠p) (o1:r1.own=true) (o2:r2.own=true) (hag:∀ s∈mem,s.same J J')
 (hnew:r'.hl J'=(r1.hl J).un (r2.hl J)) (c:r'.pos J'):MRel S w0 J' ((mem.set p r').set q .dead) w:=by
 have l:p<mem.length:=(aaG.1 hp).1;have m:q<mem.length:=(aaG.1 g).1;have n:((mem.set p r').set q bo.dead)[p]?=some r':=by
  grind
 have i:((mem.set p r').set q bo.dead)[q]?=some .dead:=aen (by grind);refine h.pE (fun b=>(r1.hl J).mem b\/(r2.hl J).mem b) (fun j=>j=p\/j=q) ?_ rfl rfl rfl (ab8 _) (fun b _ _=>rfl) ?_ ?_ ?_
 .grind
 .intro j s a hn;have h1:j≠p:=fun e=>hn (Or.inl e);have f:j≠q:=fun e=>hn (Or.inr e);rw[adx f.symm,adx h1.symm]at a;refine⟨a,hag s (aah a),fun b hb hu=>?_⟩;rcases hu with hu | hu
  .exact h.bq p j r1 s h1.symm hp a o1 b ⟨hu,hb⟩
  .exact h.bq q j r2 s f.symm g a o2 b ⟨hu,hb⟩
 .intro j s a hn;rcases hn with rfl | rfl
  .rw[n]at a;cases a;refine⟨⟨?_,c⟩,fun b hb=>?_⟩
   .rw[hnew];exact Hl.Kz (h.sub _ (aah hp)) (h.sub _ (aah g))
   .rw[hnew]at hb;exact Or.inl (Hl.cG.1 hb)
  .rw[i]at a;cases a;exact⟨⟨fun b o hb=>(by cases hb),zzT⟩,fun b hb=>(by cases hb)⟩
 .intro j j' s t r h1 f a d ho;rcases h1 with rfl | rfl
  .rcases f with rfl | rfl
   .grind
   .rw[i]at d;cases d;exact fun b ⟨_,y⟩=>by cases y
  .rw[i]at a;cases a;exact fun b ⟨x,_⟩=>by cases x
theorem pZ {mem:Mem} {p:Nat} : ∀ {l:List CV} {y:E} {q:Nat} {r:bo},QW mem p l=some (y,q,r)->mem[q]?=some r/\r.own=true/\q≠p
 | c::l,y,q,r,h=>by
  unfold QW at h;split at h
  .rename_i y' q' r' hb;split at h
   .rename_i b;cases h;cases hr:rQ c with
    | none=>grind
    | some z =>
     rw[hr]at hb;simp only[afI,aaH]at hb;obtain⟨a,d,e⟩:=hb;cases e;exact⟨bj d,b.1,b.2⟩
   .exact pZ h
  .exact pZ h
theorem GG {x:X} (h:C5 P st o=some (s,x)) (hA:Rel S w0 J st a w):∃ J',ai st.nv J J'/\x.n=st.nv/\x.rel C J J'/\st.nv<=s.nv/\Rel S w0 J' s a w:=by
 unfold C5 at h;split at h
 .split at h
  .rename_i p k vers tags links hp;split at h
   .rename_i y q r c;split at h
    .rename_i hu;cases h;have hp:=bj hp;obtain⟨h1,d,b⟩:=pZ c;have hg:ai st.nv J (J.mY st.nv (((bo.hp k vers tags links).hl J).un (r.hl J))):=fh _ _ _ (ab8 _);refine⟨_,hg,rfl,⟨gu _ _ _,hA.bq p q _ _ b.symm hp h1 rfl⟩,by grind,Rel.qo hg hu hA ?_ _⟩;exact hA.toMRel.Ub hp h1 b rfl d (Mem.bF hg (St.cR hu)) (gu _ _ _) trivial
    .cases h
   .cases h
  .cases h
 .cases h
theorem Bo {o:Oper} {ms:Nat->Nat} {k:St->Option Nd} : ∀ (n:Nat) {st:St} {J:Env} {nd:Nd},Uc P o k n st=some nd->Rel S w0 J st a w->nd.holds C ms J->∃ J' s b,ai st.nv J J'/\st.nv<=s.nv/\k s=some b/\Rel S w0 J' s a w/\b.holds C ms J'
 | 0,st,J,nd,h,hA,hn=>⟨J,st,nd,ai.refl _ _,ab8 _,h,hA,hn⟩
 | n+1,st,J,nd,h,hA,hn=>by
  unfold Uc at h;split at h
  .rename_i s x hm;simp only[aaH]at h;obtain⟨d,h1,rfl⟩:=h;obtain⟨c,l,e1,r1,j,m⟩:=GG (C:=C) hm hA;have e:d.holds C ms c:=hn c (by grind) r1;obtain⟨f,s2,g,p,q,r,t,i⟩:=Bo n h1 m e;exact⟨f,s2,g,l.trans (p.mono j),acA j q,r,t,i⟩
  .exact⟨J,st,nd,ai.refl _ _,ab8 _,h,hA,hn⟩
theorem nI {W:Za P} (q:∀ s∈C.Γ,s.OK P) (hex:Cl P C ex) {d:Nat} {ms:Nat->Nat} (h:wI P C.Γ ex d o st k=some nd) (hA:Rel S w0 J st a w) (hn:nd.holds C ms J)
 {K:Act->World->Prop} {Q:Exit->Act->World->Prop} (hk:MD S w0 C d ms st.nv J k K):W.j o a w K Q:=by
 unfold wI at h;split at h
 .rename_i n v H;obtain⟨hb,st',g,b,he,i,l⟩:=yp h hA hn;refine fk (rN hA H hb) (hk ms _ g J _ w (fun _ _=>rfl) b (ai.refl _ _) ?_ l);exact Rel.put i _ _ _ (fun y hy=>by cases hy;rfl)
 .obtain⟨I,s1,L,M,N,h1,t,u⟩:=Bo 4 h hA hn;replace hk:=hk.fx (fun _ _=>rfl) M N;clear h hn hA;rename_i z;clear z;revert h1;generalize s1=A at *;intro h;have hA:=t;have hn:=u;split at h
  .rename_i R O;split at h
   .rename_i B;simp only[aaH]at h;obtain⟨g,b,rfl⟩:=h;rw[fa]at hn;refine Ar (W:=W) (Q:=Q) q hA O hn.1 (fun J' x w' hg hx i=>?_);refine hk ms _ g J' _ w' (fun _ _=>rfl) b hg i ?_;have p:=hn.2;cases D:R.x with
    | none=>grind
    | some y =>
     rw[D]at p hx;exact p J' (by grind) hx.1
   .cases h
  .split at h
   .rename_i c args ats E;split at h
    .rename_i f ws vs T hx;split at h
     .rename_i e;simp only[aaM]at e;refine SK E (D7 hA T) e.1 (jj hA _ _ hx) ?_;rw[<-acm];refine tM hex h hA.toMRel hA.path hn fun F r st' g J' w' G b hg hm hp l=>?_;split at b
      .rename_i B;refine hk F _ g J' _ w' G b hg ?_ l;have m:=hA.bF hg e.2;exact Rel.put (st:={st' with tmps:=A.tmps}) ⟨hm,m.size,m.defers,m.tmp,hp⟩ _ _ _ (fun y hy=>by cases hy;rfl)
      .cases b
     .cases h
    .cases h
   .cases h;trivial
   .cases h;trivial
   .cases h
theorem tL {ro:Option Nat} {dn:Nat} {ex:Ex} (n:∀ s∈C.Γ,s.OK P) (hex:Cl P C ex) {d:Nat} {ops:List Oper} {Q:Exit->Act->World->Prop} : ∀ (l:List Oper) (st:St) (k:St->Option Nd) (nd:Nd) (ms:Nat->Nat) (J:Env) (a:Act) (w:World),
 kl P C.Γ ex d ops l st k=some nd->Rel S w0 J st a w->nd.holds C ms J->MD S w0 C d ms st.nv J k (Q .normal)->wpListIn (FW ro) dn P ops.toArray Q l a w
 | [],st,k,nd,ms,J,a,w,h,hA,hn,hk=>hk ms st nd J a w (fun _ _=>rfl) h (ai.refl _ _) hA hn
 | o::l,st,k,nd,ms,J,a,w,h,hA,hn,hk=>by
  have ih:=fun st k nd ms J a w=>tL (ro:=ro) (dn:=dn) (d:=d) (ops:=ops) (Q:=Q) n hex l st k nd ms J a w;have one:∀ (c:St) (f:Nd),c.nv=st.nv->(wI P C.Γ ex d o c fun s=>if st.nv<=s.nv then kl P C.Γ ex d ops l s k else none)=some f->Rel S w0 J c a w->f.holds C ms J ->
   ∀ K:Act->World->Prop,(∀ a w,wpListIn (FW ro) dn P ops.toArray Q l a w->K a w)->o.wpIn (FW ro) dn P a w K Q:=by
   intro c f i h1 j m K hK;refine nI (W:=XE ro dn P) n hex h1 j m fun q st' r J' a' w' t g hg u v=>hK _ _ ?_;simp only at g;split at g
   .rename_i hle;refine ih st' k r q J' a' w' g u v ?_;rw[i]at hg;exact hk.fx t hg hle
   .cases g
  have skip:∀ (c:St) (f:Nd),c.nv=st.nv->kl P C.Γ ex d ops l (c.put o.dst (some E6)) k=some f->Rel S w0 J c a w->f.holds C ms J ->
   wpListIn (FW ro) dn P ops.toArray Q l (a.put o.dst undef) w:=by
   intro c f i h1 j m;refine ih _ k f ms J _ w h1 (Rel.put j _ _ _ (fun y hy=>by cases hy;rfl)) m ?_;exact hk.fx (fun _ _=>rfl) (ai.refl _ _) (by rw[St.EL,i];grind)
  refine wpListIn_step fun K hK=>?_;unfold kl at h;split at h
  .cases h
  .rename_i hg;rw[jb hA hg];simp only[Il,afm]
   grind
  .rename_i e want hg;have hw:Region.wanted o (yielded ops.toArray a.tmps)=(aY J e==want):=jb hA hg;split at h
   .rename_i b z;have A:(aY J e==want)=(b==want):=by rw[fw hA.path z]
    rw[hw,A];split at h
    .grind
    .rename_i B;rw[aa8 (by grind)];exact And.intro (fun _ _=>trivial) (hK _ _ (skip st nd rfl h hA hn))
   .simp only at h;split at h
    .rename_i x y h1 D;cases h;rw[fa,jg,jg]at hn;have hy:aY J (if want then e else mkNot e)=(aY J e==want):=by
      cases want
      .simp [cU]
      .simp
     rw[hw];cases hb:(aY J e==want)with
     | true =>
      rw[ab9 rfl];rw[hb]at hy;exact one {st with path:=(if want then e else mkNot e)::st.path} x rfl h1 (hA.sM hy) (hn.1 hy) K hK
     | false =>
      rw[aa8 aC];rw[hb]at hy;have p:aY J (mkNot (if want then e else mkNot e))=true:=by rw[cU,hy];rfl
      exact And.intro (fun _ _=>trivial) (hK _ _ (skip {st with path:=mkNot (if want then e else mkNot e)::st.path} y rfl D (hA.sM p) (hn.2 p)))
    .cases h
end
def swapAt {α:Type} : Nat->List α->List α
 | 0,a::b::l=>b::a::l
 | i+1,a::l=>a::swapAt i l
 | _,l=>l
def sw (i p:Nat):Nat:=if p=i then i+1 else if p=i+1 then i else p
theorem YU (h:p≠q):sw i p≠sw i q:=by unfold sw;grind
def uR {α:Type} : ∀ {l:List α} {i p:Nat},i+1<l.length->(swapAt i l)[p]?=l[sw i p]?
 | a::b::l,0,p,_=>by
  match p with
  | 0=>rfl
  | 1=>rfl
  | p+2=>rfl
 | a::l,i+1,0,h=>rfl
 | a::l,i+1,p+1,h=>by
  show(swapAt i l)[p]?=_;rw[uR (by simpa using h)];have:sw (i+1) (p+1)=sw i p+1:=by unfold sw;split<;>split<;>(try split)<;>(try split)<;>omega
  rw[this,afG]
 | [],_,_,h=>by simp at h
 | [_],0,_,h=>by simp at h
theorem uS {α:Type} {l:List α} (hi:i+1<l.length) {x:α} (h:x∈swapAt i l):x∈l:=by
 obtain⟨p,hp⟩:=acU.1 h;rw[uR hi]at hp
 grind
def Rel.swap {S:Nat->Prop} {w0:World} {J:Env} {st:St} {a:Act} {w:World} (h:Rel S w0 J st a w) (hi:i+1<st.mem.length):Rel S w0 J {st with mem:=swapAt i st.mem} a w :=
 ⟨⟨h.cJ,fun r hr=>h.sub r (uS hi hr),fun r hr=>h.own r (uS hi hr),fun p q r s c hp b ho=>by
  have hp:(swapAt i st.mem)[p]?=some r:=hp;have b:(swapAt i st.mem)[q]?=some s:=b;rw[uR hi]at hp b;exact h.bq _ _ r s (YU c) hp b ho,fun r hr=>h.pos r (uS hi hr)⟩,h.size,h.defers,h.tmp,h.path⟩
def QL (n0:Nat) (h s:St):MA:=match mSt n0 h s with
 | some r=>some r
 | none=>(List.range (s.mem.length-1)).findSome? fun i=>mSt n0 h {s with mem:=swapAt i s.mem}
theorem uD {n0:Nat} {S:Nat->Prop} {w0:World} {J:Env} {a:Act} {w:World} {A:List As} {hs:List (Nat×Option Nat)} (hm:QL n0 h s=some (A,hs)) (hA:Rel S w0 J s a w):Rel S w0 (assign J A hs) h a w/\ai n0 J (assign J A hs)/\n0<=h.nv:=by
 unfold QL at hm;split at hm
 .rename_i r hr;cases hm;exact CZ hr hA
 .obtain⟨i,hi,hm⟩:=List.exists_of_findSome?_eq_some hm;exact CZ hm (hA.swap (by grind))
structure Fz where
 j:Nat
 slots:List (Nat×TV)
 mem:List (Nat×bo)
 nv:Nat
def Ct:Code->List Nat
 | .region _ ops _=>ops.toList.filterMap (·.dst)
 | .seq a b=>Ct a++Ct b
 | .cond _ a b=>Ct a++Ct b
 | .block _ b=>Ct b
 | .loop b=>Ct b
 | .scope b=>Ct b
 | _=>[]
def Fz.head (L:Fz) (a:List Nat) (st:St):St where
 tmps:=re (fun i v=>match L.slots.find? fun q=>q.1==i with
  | some q=>some q.2
  | none=>if a.contains i then none else v) 0 st.tmps
 mem:=(List.range (max st.mem.length (L.mem.foldl (fun m q=>max m (q.1+1)) 0))).map fun p=>match L.mem.find? fun q=>q.1==p with
  | some q=>q.2
  | none=>st.mem.getD p .dead
 nv:=L.nv
 path:=st.path.filter (E.upto st.nv)
abbrev oz:=List Nat->Option Fz
def Lv (ex:St->Fy->Option Nd):Nat->St->Fy->Option Nd
 | 0,_,_=>none
 | m+1,st,k=>ex st fun t s=>match t with
  | .norm=>if st.nv<=s.nv then Lv ex m s k else none
  | t=>k t s
def Xx (st:St) (p:Nat):Option (St×X):=match st.mem[p]? with
 | some (.bc a l T)=>if st.upto st.nv=true then some ({st with mem:=st.mem.set p (.hp st.nv [] [.var a] []),nv:=st.nv+1},.OR st.nv (.bc a l T))else none
 | _=>none
def hpK (k:St->Option Nd):List Nat->St->Option Nd
 | [],st=>k st
 | p::ps,st=>match Xx st p with
  | some (s,x)=>(hpK k ps s).map (.ext x)
  | none=>hpK k ps st
def Fz.Gs (L:Fz):List Nat:=L.mem.filterMap fun q=>match q.2 with
 | .hp _ _ _ _=>some q.1
 | _=>none
abbrev Dk:=Ex->Nat->List Oper->St->(St->Option Nd)->Option Nd
variable {dk:Dk}
def K6 (P:Program) (Γ:List Spec) (dk:Dk) (Λ:oz) (lim:Nat) (ex:Ex):Ex:=fun d path c st k =>
 match c with
 | .skip=>k .norm st
 | .label _=>k .norm st
 | .exit i=>k (.exit i) st
 | .ret=>k .ret st
 | .region _ ops draw=>if draw then dk ex d ops.toList st (k .norm)else kl P Γ ex d ops.toList ops.toList st (k .norm)
 | .seq x y=>ex d (path++[0]) x st fun t s=>match t with
  | .norm=>if st.nv<=s.nv then ex d (path++[1]) y s k else none
  | t=>k t s
 | .cond c x y=>match cA st c with
  | some (.sv (.one (.bool e)))=>match known st.path e with
   | some true=>ex d (path++[0]) x st k
   | some false=>ex d (path++[1]) y st k
   | none=>match ex d (path++[0]) x {st with path:=e::st.path} k,ex d (path++[1]) y {st with path:=mkNot e::st.path} k with
    | some a,some b=>some (qy (yo e a) (yo (mkNot e) b))
    | _,_=>none
  | _=>none
 | .block id b=>ex d (path++[0]) b st fun t s=>k (if t=.exit id then .norm else t) s
 | .loop b=>match Λ path with
  | none=>Lv (fun st k=>ex d (path++[0]) b st k) lim st k
  | some L=>hpK (fun st =>
   let hd:=L.head (Ct b) st
   match QL st.nv hd st,ex (d+1) (path++[0]) b hd fun t s=>match t with
    | .norm=>(QL st.nv hd s).map fun r=>.back d L.j r.1 r.2
    | t=>k t s with
   | some r,some nd=>some (qy (.inv L.j r.1 r.2) (.havoc d L.j st.nv nd))
   | _,_=>none) L.Gs st
 | _=>none
def exec (P:Program) (Γ:List Spec) (dk:Dk) (Λ:oz) (lim:Nat):Nat->Ex
 | 0=>fun _ _ _ _ _=>none
 | n+1=>fun d path c st k =>
  let ex:=exec P Γ dk Λ lim n
  if(Λ (99::99::path)).isSome=true then some (.e .ff)else
  match Λ (99::path)with
  | none=>K6 P Γ dk Λ lim ex d path c st k
  | some L =>
   let hd:=L.head (Ct c) st
   match K6 P Γ dk Λ lim ex d path c st fun t s=>match t with
    | .norm=>(QL st.nv hd s).map fun r=>.inv L.j r.1 r.2
    | t=>k t s,k .norm hd with
   | some a,some b=>some (qy a (.havoc d L.j st.nv b))
   | _,_=>none
def lp (p:List Nat):Bool:=decide (p.length>1)&&!(p.head?==some 99)
def cutAt (p:List Nat) (q:List Nat):Bool:=Iv p (99::q)
def PL (p:List Nat) (q:List Nat):Bool:=Iv p (99::99::q)
def CV.zW:CV->List Nat
 | .hptr (.var a) _=>[a]
 | .sl (.var a) _ _ _=>[a]
 | .map (.var a)=>[a]
 | .pti a _ _ _ _=>[a]
 | _=>[]
def bo.zW:bo->List Nat
 | .bc _ l _=>l.flatMap CV.zW
 | _=>[]
def TV.zW:TV->List Nat
 | .sv v=>v.cells.flatMap CV.zW
 | .tup l=>l.flatMap fun v=>v.cells.flatMap CV.zW
def JR (n0:Nat) (r:TV) (mem:Mem):Mem :=
 let used:=r.zW++mem.flatMap bo.zW
 re (fun i x=>match x with
  | .bc a l T=>if decide (n0<=i)&&!used.contains a then .dead else .bc a l T
  | x=>x) 0 mem
theorem JS {n0:Nat} {r:TV} {mem:Mem} (p:Nat) (x:bo) (h:(JR n0 r mem)[p]?=some x):mem[p]?=some x\/x=.dead:=by
 unfold JR at h;simp only[pW,aaH]at h
 grind
def aar (P:Program) (Γ:List Spec) (dk:Dk) (Λ:oz) (lim fuel:Nat) (f:FuncId) (args:List TV) (mem:Mem) (nv:Nat) (path:List E):Option Nd :=
 zw P (exec P Γ dk Λ lim fuel) 0 f args ⟨[],mem,nv,path⟩ fun r s=>some (.post (JR mem.length r s.mem) r)
def Fv (P:Program) (C:Ctx) (dk:Dk):Prop:=∀ ex,Cl P C ex->∀ d ops st k nd ms S w0 J a w id (Q:Exit->Act->World->Prop),dk ex d ops st k=some nd->Rel S w0 J st a w->nd.holds C ms J ->
 MD S w0 C d ms st.nv J k (Q .normal)->(Code.region id ops.toArray true).wp P Q a w
def Fw (ro:Option Nat) (P:Program) (C:Ctx) (dk:Dk):Prop:=∀ dn ex,Cl P C ex->∀ d ops st k nd ms S w0 J a w id (Q:Exit->Act->World->Prop),dk ex d ops st k=some nd->Rel S w0 J st a w->nd.holds C ms J ->
 MD S w0 C d ms st.nv J k (Q .normal)->(Code.region id ops.toArray true).wpIn (FW ro) dn P Q a w
def Fv.to {P:Program} {C:Ctx} (h:Fv P C dk):Fw none P C dk:=fun dn ex hx d ops st k nd ms S w0 J a w id Q h1 b c e=>wpIn_wide.2 (h ex hx d ops st k nd ms S w0 J a w id Q h1 b c e)
section
variable {P:Program} {C:Ctx} {S:Nat->Prop} {w0:World} {J J':Env} {st:St} {mem mem':Mem} {a:Act} {w w':World}
def ym {ro:Option Nat} {dn:Nat} {c:Code} {d:Nat} {ex:St->Fy->Option Nd} {k:Fy} {Q:Exit->Act->World->Prop}
 (hex:∀ st k nd ms J a w (Q:Exit->Act->World->Prop),ex st k=some nd->Rel S w0 J st a w->nd.holds C ms J->(∀ t,MD S w0 C d ms st.nv J (k t) (Q (iT t)))->c.wpIn (FW ro) dn P Q a w) :
 ∀ (m:Nat) (st:St) (nd:Nd) (ms:Nat->Nat) (J:Env) (a:Act) (w:World),Lv ex m st k=some nd->Rel S w0 J st a w->nd.holds C ms J->(∀ t,MD S w0 C d ms st.nv J (k t) (Q (iT t)))->Code.roundsIn (FW ro) dn P c Q m a w
 | 0,st,nd,ms,J,a,w,h,_,_,_=>by cases h
 | m+1,st,nd,ms,J,a,w,h,hA,hn,hk=>by
  unfold Lv at h;refine hex st _ nd ms J a w _ h hA hn fun t=>?_;intro e st' f J' a' w' g b hg j l;cases t with
  | norm =>
   simp only at b;split at b
   .rename_i hle;exact ym hex m st' f e J' a' w' b j l fun t=>(hk t).fx g hg hle
   .cases b
  | ret=>exact hk .ret e st' f J' a' w' g b hg j l
  | exit i=>exact hk (.exit i) e st' f J' a' w' g b hg j l
theorem MRel.OR (h:MRel S w0 J mem w) {a n:Nat} {l:List CV} (hp:mem[p]?=some (.bc a l T)) (hag:∀ s∈mem,s.same J J') (hnew:J'.h n=(bo.bc a l T).hl J):MRel S w0 J' (mem.set p (.hp n [] tags [])) w:=by
 refine h.map fun j t b=>?_;by_cases e:p=j
 .subst e;rw[aen (aaG.1 hp).1]at b;cases b;exact Or.inl ⟨_,hp,hnew,fun _=>rfl,fun _=>trivial⟩
 .rw[adx e]at b;obtain⟨h1,c⟩:=hag t (aah b)
  grind
theorem Je {x:X} (h:Xx st p=some (s,x)) (hA:Rel S w0 J st a w):∃ J',ai st.nv J J'/\x.n=st.nv/\x.rel C J J'/\st.nv<=s.nv/\Rel S w0 J' s a w:=by
 unfold Xx at h;split at h
 .rename_i a' l T hp;split at h
  .rename_i hu;cases h;have hg:ai st.nv J (J.mY st.nv ((bo.bc a' l T).hl J)):=fh _ _ _ (ab8 _);refine⟨_,hg,rfl,gu _ _ _,by grind,Rel.qo hg hu hA ?_ _⟩;exact hA.toMRel.OR hp (Mem.bF hg (St.cR hu)) (gu _ _ _)
  .cases h
 .cases h
theorem xg {ms:Nat->Nat} {k:St->Option Nd} : ∀ (ps:List Nat) {st:St} {J:Env} {nd:Nd},hpK k ps st=some nd->Rel S w0 J st a w->nd.holds C ms J->∃ J' s b,ai st.nv J J'/\st.nv<=s.nv/\k s=some b/\Rel S w0 J' s a w/\b.holds C ms J'
 | [],st,J,nd,h,hA,hn=>⟨J,st,nd,ai.refl _ _,ab8 _,h,hA,hn⟩
 | p::ps,st,J,nd,h,hA,hn=>by
  unfold hpK at h;split at h
  .rename_i s x hm;simp only[aaH]at h;obtain⟨d,h1,rfl⟩:=h;obtain⟨c,l,e1,r1,j,m⟩:=Je (C:=C) hm hA;have e:d.holds C ms c:=hn c (by grind) r1;obtain⟨f,s2,g,n,o,q,r,i⟩:=xg ps h1 m e;exact⟨f,s2,g,l.trans (n.mono j),acA j o,q,r,i⟩
  .exact xg ps h hA hn
theorem PR (K:∀ s∈C.Γ,s.OK P) (jU:Fw ro P C dk) (Λ:oz) (lim:Nat) (H:Cl P C ex) (M:xU ro P C ex):xU ro P C (K6 P C.Γ dk Λ lim ex):=fun dn d path c st k nd ms S w0 J a w Q h hA hn hk=>by
 have ih:=M dn;unfold K6 at h;simp only at h;have self:∀ t,k t st=some nd->Q (iT t) a w:=fun t h=>hk t ms st nd J a w (fun _ _=>rfl) h (ai.refl _ _) hA hn;split at h
 .exact wpIn_skip (self .norm h)
 .exact wpIn_label (self .norm h)
 .exact wpIn_exit (self (.exit _) h)
 .exact wpIn_ret (self .ret h)
 .rename_i id ops draw;split at h
  .rename_i hd;subst hd;have:=jU dn _ H d ops.toList st (k .norm) nd ms S w0 J a w id Q h hA hn (hk .norm);simp_all
  .rename_i hd;have hd:draw=false:=by simpa using hd
   subst hd;have:=tL (ro:=ro) (dn:=dn) (Q:=Q) K H ops.toList st (k .norm) nd ms J a w h hA hn (hk .norm);exact wpIn_region_list (by simp_all)
 .rename_i x y;refine wpIn_seq (ih d _ x st _ nd ms S w0 J a w _ h hA hn fun t=>?_);intro f st' p J' a' w' u g hg n l;cases t with
  | norm =>
   simp only at g;split at g
   .rename_i hle;exact ih d _ y st' k p f S w0 J' a' w' Q g n l fun t=>(hk t).fx u hg hle
   .cases g
  | ret=>exact hk .ret f st' p J' a' w' u g hg n l
  | exit i=>exact hk (.exit i) f st' p J' a' w' u g hg n l
 .rename_i c x y;split at h
  .rename_i e hc;have D:=aH hA hc;simp only[TV.ev,SV.ev,CV.ev]at D;split at h
   .rename_i F;exact wpIn_cond_true (by rw[D,fw hA.path F]) (ih d _ x st k nd ms S w0 J a w Q h hA hn hk)
   .rename_i F;exact wpIn_cond_false (by rw[D,fw hA.path F]) (ih d _ y st k nd ms S w0 J a w Q h hA hn hk)
   .split at h
    .rename_i n1 n2 h1 h2;cases h;rw[fa,jg,jg]at hn;refine wpIn_cond_split D (fun I=>?_) (fun hf=>?_)
     .exact ih d _ x {st with path:=e::st.path} k n1 ms S w0 J a w Q h1 (hA.sM I) (hn.1 I) hk
     .have I:aY J (mkNot e)=true:=by rw[cU,hf];rfl
      exact ih d _ y {st with path:=mkNot e::st.path} k n2 ms S w0 J a w Q h2 (hA.sM I) (hn.2 I) hk
    .cases h
  .cases h
 .rename_i id b;refine wpIn_block (ih d _ b st _ nd ms S w0 J a w _ h hA hn fun t=>?_);intro f st' p J' a' w' u g hg n l;cases t with
  | norm=>exact hk .norm f st' p J' a' w' u (by grind) hg n l
  | ret=>exact hk .ret f st' p J' a' w' u (by grind) hg n l
  | exit i =>
   simp only[iT,Exit.inBlock];split
   .rename_i e;subst e;exact hk .norm f st' p J' a' w' u (by grind) hg n l
   .rename_i e;exact hk (.exit i) f st' p J' a' w' u (by grind) hg n l
 .rename_i b;split at h
  .refine wpIn_loop_rounds lim (ym (d:=d) (fun st k nd ms J a w Q h hA hn hk=>ih d _ b st k nd ms S w0 J a w Q h hA hn hk) lim st nd ms J a w h hA hn hk)
  .rename_i L hL;obtain⟨o,N,O,Y,Z,h,A1,hn⟩:=xg L.Gs h hA hn;have hk:=fun t=>(hk t).fx (fun _ _=>rfl) Y Z;clear hA self;clear Y;have hA:=A1;clear A1 Z;revert h hn hk hA;generalize o=J;generalize N=st;generalize O=nd;intro h hn hk hA;split at h
   .rename_i r nb hr hb;cases h;rw[fa]at hn;obtain⟨hinv,E⟩:=hn;obtain⟨B,R,hle⟩:=uD (A:=r.1) (hs:=r.2) hr hA;have key:∀ (m:Nat) (o:Env) (a1:Act) (w1:World),ai st.nv J o->C.inv L.j o->Rel S w0 o (L.head (Ct b) st) a1 w1->C.mu L.j o<=m->Code.roundsIn (FW ro) dn P b Q (m+1) a1 w1:=by
     intro m
     induction m with
     | zero =>
      intro o a1 w1 hg hi B hm;refine ih (d+1) _ b _ _ nb _ S w0 o a1 w1 _ hb B (E o hg hi) fun t=>?_;intro f st' p J' a' w' u g G n l;have z:ai st.nv o J':=G.mono hle;have v:∀ i,i<d->f i=ms i:=fun i hi=>by
       grind
      cases t with
      | norm =>
       simp only[aaH]at g;obtain⟨q,hq,rfl⟩:=g;have T:=l.2
       grind
      | ret=>exact hk .ret f st' p J' a' w' v g (hg.trans z) n l
      | exit i=>exact hk (.exit i) f st' p J' a' w' v g (hg.trans z) n l
     | succ m U =>
      intro o a1 w1 hg hi B hm;refine ih (d+1) _ b _ _ nb _ S w0 o a1 w1 _ hb B (E o hg hi) fun t=>?_;intro f st' p J' a' w' u g G n l;have z:ai st.nv o J':=G.mono hle;have v:∀ i,i<d->f i=ms i:=fun i hi=>by
       grind
      cases t with
      | norm =>
       simp only[aaH]at g;obtain⟨q,hq,rfl⟩:=g;obtain⟨V,T⟩:=l;have:f d=C.mu L.j o:=by have:=u d ah;rw[this];exact ab9 rfl
       obtain⟨W,X,_⟩:=uD (A:=q.1) (hs:=q.2) hq n;exact U _ a' w' ((hg.trans z).trans X) V W ah
      | ret=>exact hk .ret f st' p J' a' w' v g (hg.trans z) n l
      | exit i=>exact hk (.exit i) f st' p J' a' w' v g (hg.trans z) n l
    exact wpIn_loop_rounds _ (key _ _ a w R hinv B (ab8 _))
   .cases h
 .cases h
theorem CM (p:∀ s∈C.Γ,s.OK P) (jU:Fw ro P C dk) (Λ:oz) (lim n:Nat) (r:Cl P C (exec P C.Γ dk Λ lim n)) (u:xU ro P C (exec P C.Γ dk Λ lim n)):xU ro P C (exec P C.Γ dk Λ lim (n+1)):=fun dn d path c st k nd ms S w0 J a w Q h hA hn hk=>by
 have ih:=PR p jU Λ lim r u dn;unfold exec at h;simp only at h;split at h
 .cases h;trivial
 split at h
 .grind
 .rename_i L E;split at h
  .rename_i na z B hb;cases h;rw[fa]at hn;obtain⟨v,g⟩:=hn;refine ih d path c st _ na ms S w0 J a w Q B hA v fun t=>?_;intro j st' l J' a' w' m b hg e f;cases t with
   | norm =>
    simp only[aaH]at b;obtain⟨q,D,rfl⟩:=b;obtain⟨x,y,hle⟩:=uD (A:=q.1) (hs:=q.2) D e;have o:ai st.nv J (assign J' q.1 q.2):=hg.trans y;exact hk .norm _ _ z (assign J' q.1 q.2) a' w' (fun i hi=>aa8 ah) hb o x (g _ o f)
   | ret=>exact hk .ret j st' l J' a' w' m b hg e f
   | exit i=>exact hk (.exit i) j st' l J' a' w' m b hg e f
  .cases h
def zo {dk:Dk} (b:∀ s∈C.Γ,s.OK P) (jU:Fv P C dk) (Λ:oz) (lim:Nat):∀ n,Cl P C (exec P C.Γ dk Λ lim n)
 | 0=>fun dn d path c st k nd ms S w0 J a w Q h=>by cases h
 | n+1=>CM b jU.to Λ lim n (zo b jU Λ lim n) (zo b jU Λ lim n)
def Gb {ro:Option Nat} {dk:Dk} (e:∀ s∈C.Γ,s.OK P) (jU:Fv P C dk) (b:Fw ro P C dk) (Λ:oz) (lim:Nat):∀ n,xU ro P C (exec P C.Γ dk Λ lim n)
 | 0=>fun dn d path c st k nd ms S w0 J a w Q h=>by cases h
 | n+1=>CM e b Λ lim n (zo e jU Λ lim n) (Gb e jU b Λ lim n)
theorem AB (a:∀ s∈C.Γ,s.OK P) (jU:Fv P C dk) {Λ:oz} {args:List TV} {ms:Nat->Nat} (h:aar P C.Γ dk Λ lim fuel f args mem nv path=some nd)
 (hm:MRel S w0 J mem w) (hp:Path J path) (hn:nd.holds C ms J) :
 Calls P f (args.map (TV.ev J)).toArray w fun e w'=>∃ J' mem' r,e=.returned (r.ev J')/\ai nv J J'/\MRel S w0 J' mem' w'/\C.post J' mem' r:=by
 have:=tM (st:=⟨[],mem,nv,path⟩) (zo a jU Λ lim fuel) h hm hp hn (R:=fun v w'=>∃ J' mem' r,v=r.ev J'/\ai nv J J'/\MRel S w0 J' mem' w'/\C.post J' mem' r)
  (fun g r st' i J' w' _ b hg c _ d=>by cases b;exact⟨J',_,r,rfl,hg,c.sublist JS,d⟩)
 grind
end
def PM:Dk:=fun _ _ _ _ _=>none
def MY (P:Program) (C:Ctx):Fv P C PM:=fun _ _ _ _ _ _ _ _ _ _ _ _ _ _ _ h=>by cases h
end Go.Sx
