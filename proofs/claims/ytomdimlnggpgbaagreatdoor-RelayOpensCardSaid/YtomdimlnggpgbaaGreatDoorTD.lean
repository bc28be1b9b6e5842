/- RelayOpens. -/
import Derived.LoopN
import Derived.Test.YtomdimlnggpgbaaGreatDoorTC
set_option linter.all false
namespace Go.Sx
open Go
section
variable {P:Program} {C:Ctx} {ms:Nat->Nat} {S:Nat->Prop} {w0:World} {J J':Env} {st:St} {mem mem':Mem} {a:Act} {w w':World}
theorem EG (hA:Rel S w0 J st a w) (hu:st.aL st.nv=true) {t:TypeId} {x y:TV} {d:Option Tmp} {R:XR} (h:Nz P st t x y d=some R) (hn:R.need.holds C ms J)
 {K:Act->World->Prop} (hK:Fin S w0 C J st a d R K):∃ v' w',(Instr.makeSlice t (x.ev J) (y.ev J)).run P w=.ok v' w'/\K (a.put d v') w':=by
 unfold Nz at h;split at h
 .rename_i el k l k' c ht;split at h
  .rename_i hlc;subst hlc;split at h
   .rename_i i hi;split at h
    .rename_i z hz;split at h
     .rename_i hzs;simp only at h;have key:∀ (r:bE),r.own=true->(∀ J',ai st.nv J J'->0<=J'.i st.nv->J'.h st.nv=Hl.one (J'.i st.nv).toNat (.cells (madeCells z.cells ((aA J l).toNat*i.size)) el (0,0))->r.hl J'=J'.h st.nv/\r.pos J') ->
       ∀ R':XR,R'=⟨({st with mem:=st.mem++[r],nv:=st.nv+1} : St).put d (some (.sv (.one (.sl (.var st.nv) (.lit 0) l l)))),.pre (.mk st.nv el (z.cells.toList.map gV) i.bytes l),some (.mk st.nv el (z.cells.toList.map gV) i.bytes l)⟩ ->
       R'.need.holds C ms J->Fin S w0 C J st a d R' K->∃ v' w',(Instr.makeSlice t (.int k (aA J l)) (.int k' (aA J l))).run P w=.ok v' w'/\K (a.put d v') w':=by
       intro r hr hres R' hR' hn hK;subst hR';obtain⟨h0,hby,h63⟩:=hn;have hrun:=run_make (P:=P) w t el i z ht hi hz k k' (aA J l) (aA J l) h0 (aap _) hby h63
       let ob:Obj:=.cells (madeCells z.cells ((aA J l).toNat*i.size)) el
       let J':=(J.fJ st.nv w.heap.size).lu st.nv (Hl.one w.heap.size ob)
       have hg:ai st.nv J J':=(bX _ _ _ (aav _)).trans (fe _ _ _ (aav _));have e1:J'.i st.nv=w.heap.size:=by show(J.fJ st.nv w.heap.size).i st.nv=_;rw[mH]
       have e3:J'.h st.nv=Hl.one w.heap.size ob:=ga _ _ _;have e3':J'.h st.nv=Hl.one (J'.i st.nv).toNat (.cells (madeCells z.cells ((aA J l).toNat*i.size)) el (0,0)):=by rw[e1,aaa];exact e3
       obtain⟨hrh,hrp⟩:=hres J' hg (by rw[e1];omega) e3';refine⟨_,_,hrun,hK J' _ _ hg ⟨⟨by rw[e1];omega,?_⟩,rfl⟩ (Rel.step hA hu hg ?_ _ _ _ _ ?_)⟩
       .rw[e3',iE];simp only[acZ,aaB,abQ,hzs.1]
       .refine hA.toMRel.add rfl rfl rfl aF (fun b hb=>RowKit.Below.heap_alloc w _ b hb) (Mem.bO hg (St.cY hu)) ?_ hrp ?_
        .rw[hrh,e3];intro b o hb;obtain⟨rfl,rfl⟩:=Hl.oq hb;exact heap_alloc_new w _
        .intro b hb;rw[hrh,e3]at hb;rw[Hl.dn.1 hb];exact aav _
       .intro u hu';cases hu';simp only[TV.ev,SV.ev,CV.ev,al,aq,e1,ct hg hzs.2.2];rw[av ah];simp
      have khp:=key (.hp st.nv [] [.var st.nv] []) rfl (fun J' _ _ _=>⟨rfl,trivial⟩);split at h
      .rename_i m;split at h
       .cases h;refine key (.bw st.nv (nZ (z.cells.toList.map gV) (m.toNat*i.size)) el) rfl (fun J' hg h0 he=>⟨?_,h0⟩) _ rfl hn hK;rw[he];show Hl.one _ _=_;have e:=yY (J:=J') (z:=z.cells.toList.map gV) (zs:=z.cells.toList) (iE _ _) (by rw[abQ];omega) (m.toNat*i.size);rw[e];simp [aq]
       .cases h;exact khp _ rfl hn hK
      .cases h;exact khp _ rfl hn hK
     .cases h
    .cases h
   .cases h
  .cases h
 .cases h
theorem Gm (hA:Rel S w0 J st a w) (hu:st.aL st.nv=true) {t:TypeId} {len:Nat} {is:List Nat} {vs:List TV} {d:Option Tmp} {R:XR} (h:Se P st t len is vs d=some R)
 {K:Act->World->Prop} (hK:Fin S w0 C J st a d R K):∃ v' w',(Instr.buildSlice t len (is.zip (vs.map (TV.ev J))).toArray).run P w=.ok v' w'/\K (a.put d v') w':=by
 unfold Se at h;split at h
 .rename_i el ht;split at h
  .rename_i n z us hs hz hus;split at h
   .rename_i hc;split at h
    .rename_i l hl;have hf:=jv (J:=J) _ _ _ hl;have hbig:¬len*n>2 ^ 24:=ah;refine⟨.slice (some ⟨w.heap.size,0,none⟩) len len,w.alloc (.cells (l.map (CV.ev J)).toArray el),?_,oh h hu hA hK rfl (fun J' hg hi=>?_)⟩
     .rw[Ib _ _ hus,<-Ip];unfold Instr.buildSlice;simp only[Sem.run_bind,run_underlying ht,Result.andThen_ok,du hs,hbig,abK];have hfin:∀ zz:Array Value,(Array.range (len*n)).map (fun j=>zz[j%zz.size]!)=((nZ (z.cells.toList.map gV) (len*n)).map (CV.ev J)).toArray ->
       Instr.fill (fun i=>some (i*n,n)) ((Array.range (len*n)).map (fun j=>zz[j%zz.size]!)) ((is.zip us).map fun(p:Nat×SV)=>(p.1,SV.ev J p.2))=some (l.map (CV.ev J)).toArray:=by
       intro zz hz';rw[hz',hf]
      by_cases h0:len*n=0
      .rw[aax h0];simp only[Sem.run_bind,Sem.run_pure,Result.andThen_ok];rw[hfin #[] (by simp [h0,nZ])];rfl
      .rw[aal h0];simp only[Sem.run_bind,Sem.run_pure,Result.andThen_ok,ky hz];rw[hfin z.cells ?_]
       .rfl
       have hzp:0<z.cells.toList.length:=by
        rw[abQ,hc.2];exact Nat.pos_of_ne_zero (fun e=>h0 (by rw[e,Nat.mul_zero]))
       have e:=yY (J:=J) (z:=z.cells.toList.map gV) (zs:=z.cells.toList) (iE _ _) hzp (len*n);rw[e];simp only[madeCells,acZ]
     .simp only[TV.ev,SV.ev,CV.ev,al,aq,hi];rw[av ah];simp
    .cases h
   .cases h
  .cases h
 .cases h
theorem Gu {f:FuncId} (h:yl P f=true) (args:Array Value) (w:World):(callFunc f args).run P w=.ok (.enter f args) w:=by
 unfold yl at h;split at h
 .rename_i fn hf;simp only[aah,abf]at h;unfold callFunc;simp only[Sem.run_bind,program,Sem.run,Result.andThen_ok,hf,h.2,aa2,abK];cases hb:fn.body with
  | none=>simp [hb]at h
  | some c=>simp
 .cases h
theorem px (hA:Rel S w0 J st a w) {c:Operand} {f:FuncId} (h:sR st c=some f):a.eval c=.func (.func f) #[] #[]:=by
 unfold sR at h;split at h
 .cases h;rfl
 .rename_i t;split at h
  .rename_i g x y hs;split at h
   .rename_i hxy;cases h;simp only[aah,Array.isEmpty_iff]at hxy;obtain⟨rfl,rfl⟩:=hxy;have:=hA.tmp t _ hs;simp [Act.eval,this,TV.ev,SV.ev,CV.ev]
   .cases h
  .cases h
 .cases h
theorem J8 {o:Oper} {f:FuncId} {c:Operand} {args:Array Operand} {ts:Array TypeId} (hop:o.op=.call {callee:=.value c,args,argTypes:=ts}) (hcf:a.eval c=.func (.func f) #[] #[]) (he:yl P f=true) {xs:List Value} (hx:args.toList.map a.eval=xs)
 {K:Act->World->Prop} {Q:Exit->Act->World->Prop} (hc:Calls P f xs.toArray w fun e w'=>∃ v,e=.returned v/\K (a.put o.dst v) w'):o.wp P a w K Q:=by
 have e2:args.map a.eval=xs.toArray:=by rw[<-hx];obtain⟨l⟩:=args;exact acW
 have hrun:(execOp a.eval o).run P w=.ok (.enter f xs.toArray) w:=by
  unfold execOp;rw[hop];simp only[resolve,hcf,Deferred.ofValue,Sem.run_bind,Sem.run_pure,Result.andThen_ok,invoke];rw[e2];simpa using Gu (P:=P) he xs.toArray w
 unfold Oper.wp;rw[hrun];refine hc.mono fun e w' ⟨v,he,hk⟩=>?_;subst he;exact hk
theorem Gp (hA:Rel S w0 J st a w) (hu:st.aL st.nv=true) {o:Oper} {s d:TypeId} {y:Operand} (hop:o.op=.convert s d y) {x:TV} (hx:a.eval y=x.ev J) {R:XR} (h:Si P st s d x o.dst=some R)
 {K:Act->World->Prop} {Q:Exit->Act->World->Prop} (hK:Fin S w0 C J st a o.dst R K):o.wp P a w K Q:=by
 unfold Si at h;split at h
 .rename_i hsd;subst hsd;split at h
  .rename_i el hs;split at h
   .rename_i hu8;obtain⟨hu8,hup⟩:=hu8;have he:=I8 hu8;split at h
    .rename_i b y' l c;split at h
     .rename_i p cs T hb;cases h;have hp:=fX hb;have hpos:0<=J.i b:=hA.pos _ (aae hp);have hw:=hA.toMRel.bw hp
      let o':Obj:=.cells (cs.map (CV.ev J)).toArray T (cs.length,cs.length+1)
      let w':World:=w.freeze ⟨(J.i b).toNat,cs.length,none⟩ 1
      have hlt:(J.i b).toNat<w.heap.size:=(aaU.1 hw).1;have hw':w'.heap[(J.i b).toNat]?=some o':=by
       show(w.freeze ⟨(J.i b).toNat,cs.length,none⟩ 1).heap[(J.i b).toNat]?=_;unfold World.freeze;rw[aal aB];simp only[adl,abM,hw,aaN];rfl
      have hot:∀ k,k≠(J.i b).toNat->w'.heap[k]?=w.heap[k]?:=by
       intro k hk;show(w.freeze ⟨(J.i b).toNat,cs.length,none⟩ 1).heap[k]?=_;unfold World.freeze;rw[aal aB];simp only[adl,aal hk.symm]
      have hsz:w'.heap.size=w.heap.size:=by
       show(w.freeze ⟨(J.i b).toNat,cs.length,none⟩ 1).heap.size=_;unfold World.freeze;rw[aal aB];simp
      have hfr:w'.os=w.os/\w'.tape=w.tape/\w'.output=w.output:=by
       show(w.freeze ⟨(J.i b).toNat,cs.length,none⟩ 1).os=_/\(w.freeze ⟨(J.i b).toNat,cs.length,none⟩ 1).tape=_/\(w.freeze ⟨(J.i b).toNat,cs.length,none⟩ 1).output=_;unfold World.freeze;rw[aal aB];exact⟨rfl,rfl,rfl⟩
      have ex:a.eval y=.slice (some ⟨(J.i b).toNat,(aA J y').toNat,none⟩) (aA J l).toNat (aA J c).toNat:=by
       rw[hx];simp only[TV.ev,SV.ev,CV.ev,al];rw[av hpos]
      have hrun:(execOp a.eval o).run P w=.ok (.value (a.eval y)) w':=by
       have hsh:w.shape? (J.i b).toNat=some (T,cs.length):=by
        unfold World.shape?;rw[hw];simp
       unfold execOp;rw[hop];simp [convert,run_underlying hs,run_underlying he,markStringish,ex,hsh];rfl
      refine fm hrun ?_;have hg:ai st.nv J (J.lu st.nv (Hl.one (J.i b).toNat o')):=fe _ _ _ (aav _);refine hK _ _ w' hg ⟨ga _ _ _,rfl⟩ (Rel.step hA hu hg ?_ _ _ _ _ (fun z hz=>?_))
      .refine hA.toMRel.set hp rfl hfr.1 hfr.2.1 hfr.2.2 ah (fun k _ hk=>hot k fun e=>hk (by rw[e];exact Hl.dn.2 rfl)) (Mem.bO hg (St.cY hu)) ?_ trivial ?_
       .intro k ob hk;rw[show(bE.hp st.nv [] [E.var b] []).hl (J.lu st.nv (Hl.one (J.i b).toNat o'))=Hl.one (J.i b).toNat o' from ga _ _ _]at hk;obtain⟨rfl,rfl⟩:=Hl.oq hk;exact hw'
       .intro k hk;rw[show(bE.hp st.nv [] [E.var b] []).hl (J.lu st.nv (Hl.one (J.i b).toNat o'))=Hl.one (J.i b).toNat o' from ga _ _ _]at hk;left;show(Hl.one (J.i b).toNat _).mem k;exact Hl.dn.2 (Hl.dn.1 hk)
      .cases hz;rw[hx];exact(TV.bO hg _ hup).symm
     .cases h
    .cases h
   .cases h
  .cases h
 .cases h
theorem Qd {T:TypeId} {d:TypeDesc} (hd:P.underlying T=some d) (hni:∀ i,d≠.interface i) (x:Value) (w:World):(Instr.makeInterface T x).run P w=.ok (.iface T x) w:=by
 unfold Instr.makeInterface;rw[Sem.run_bind,run_underlying hd];cases d with
 | interface i=>exact absurd rfl (hni i)
 | _=>rfl
theorem Vw (hA:Rel S w0 J st a w) (hu:st.aL st.nv=true) {o:Oper} {T:TypeId} {y:Operand} (hop:o.op=.makeInterface T y) {v:SV} (hx:a.eval y=v.ev J) {d:TypeDesc} (hd:P.underlying T=some d) (hni:∀ i,d≠.interface i)
 {K:Act->World->Prop} {Q:Exit->Act->World->Prop} (hK:Fin S w0 C J st a o.dst ⟨({st with nv:=st.nv+1} : St).put o.dst (some (.sv (.one (.vr st.nv)))),.tt,some (.mki st.nv T v)⟩ K):o.wp P a w K Q:=by
 have hrun:(execOp a.eval o).run P w=.ok (.value (.iface T (v.ev J))) w:=by
  unfold execOp;rw[hop];simp only[Sem.run_bind,hx];simp [Qd hd hni]
 refine fm hrun ?_;have hg:ai st.nv J (J.FA st.nv (.iface T (v.ev J))):=xO _ _ _ (aav _);refine hK _ _ w hg ⟨?_,rfl⟩ (Rel.put (Rel.oH hg hu hA (hA.bO hg hu).toMRel _) _ _ _ (fun z hz=>?_))
 .show(J.FA st.nv (.iface T (v.ev J))).v st.nv=_;simp [Env.FA]
 .cases hz;simp [TV.ev,SV.ev,CV.ev,Env.FA]
theorem Hf (hA:Rel S w0 J st a w) (hu:st.aL st.nv=true) {o:Oper} {T:TypeId} {y:Operand} (hop:o.op=.makeInterface T y) {x:TV} (hx:a.eval y=x.ev J) {R:XR} (h:Td P st T x o.dst=some R)
 {K:Act->World->Prop} {Q:Exit->Act->World->Prop} (hK:Fin S w0 C J st a o.dst R K):o.wp P a w K Q:=by
 unfold Td at h;split at h
 .split at h
  .rename_i e hd;cases h;exact Vw hA hu hop hx hd aF hK
  .rename_i e hd;cases h;exact Vw hA hu hop hx hd aF hK
  .cases h
 .cases h
theorem yt (hΓ:∀ s∈C.Γ,s.OK P) (hA:Rel S w0 J st a w) {o:Oper} {R:XR} (h:PI P C.Γ st o=some R) (hn:R.need.holds C ms J)
 {K:Act->World->Prop} {Q:Exit->Act->World->Prop} (hK:Fin S w0 C J st a o.dst R K):o.wp P a w K Q:=by
 unfold PI at h;split at h
 .rename_i hu;split at h
  .rename_i t hop;split at h
   .rename_i z hz;have hrun:(execOp a.eval o).run P w=.ok (.value (.pointer (some ⟨w.heap.size,0,none⟩))) (w.alloc (.cells z.cells t)):=by
     unfold execOp;rw[hop];simp only[Sem.run_bind,Instr.alloc,ky hz,Result.andThen_ok];rfl
    refine fm hrun (oh h hu hA hK (by rw[iE]) (fun J' hg hi=>?_));simp only[TV.ev,SV.ev,CV.ev,al,aq,hi];rw[av ah];simp
   .cases h
  .rename_i t x hop;split at h
   .rename_i v hx;split at h
    .rename_i hcell;have ex:=aH hA hx;have hrun:(execOp a.eval o).run P w=.ok (.value (.pointer (some ⟨w.heap.size,0,none⟩))) (w.alloc (.cells (v.ev J).cells t)):=by
      unfold execOp;rw[hop];simp only[Sem.run_bind,Instr.box,ex,TV.ev];rfl
     refine fm hrun (oh h hu hA hK ?_ (fun J' hg hi=>?_))
     .rw[<-SV.sU v hcell]
     .simp only[TV.ev,SV.ev,CV.ev,al,aq,hi];rw[av ah];simp
    .cases h
   .cases h
  .rename_i t p x hop;split at h
   .rename_i pv v hp hx;have ep:a.eval p=pv.ev J:=aH hA hp;have ex:a.eval x=v.ev J:=aH hA hx;split at h
    .rename_i n mem hs;cases h;simp only[uJ]at hn;obtain⟨q,w',hq,hrun,hm⟩:=H9 hA.toMRel hs hn;have hrun':(execOp a.eval o).run P w=.ok .skip w':=by
      unfold execOp;rw[hop];simp only[Sem.run_bind,Instr.storeAt,ep,ex,hq,Instr.sureAddr,Sem.run_pure,Result.andThen_ok,hrun]
     exact Ar hrun' (hK J _ w' (ai.refl _ _) rfl (Rel.put (st:={st with mem:=mem}) ⟨hm,hA.size,hA.defers,hA.tmp,hA.path⟩ _ _ _ (fun y hy=>by cases hy)))
    .rename_i x' mem hs;cases h;obtain⟨q,w',J',hq,hrun,hg,hrel,hxn,hm⟩:=Ia hA hu hs hn;have hrun':(execOp a.eval o).run P w=.ok .skip w':=by
      unfold execOp;rw[hop];simp only[Sem.run_bind,Instr.storeAt,ep,ex,hq,Instr.sureAddr,Sem.run_pure,Result.andThen_ok,hrun]
     exact Ar hrun' (hK J' _ w' hg ⟨hrel,hxn⟩ (Rel.step hA hu hg hm _ _ _ _ (fun y hy=>by cases hy)))
    .cases h
   .cases h
  .rename_i t l c hop;split at h
   .rename_i x y hl hc;obtain⟨v',w',hrun,hk⟩:=EG hA hu h hn hK;refine fm (v:=v') (w':=w') ?_ hk;unfold execOp;rw[hop];simp only[Sem.run_bind,aH hA hl,aH hA hc,hrun,Result.andThen_ok,Sem.run_pure]
   .cases h
  .rename_i t len parts hop;split at h
   .rename_i vs hx;obtain⟨v',w',hrun,hk⟩:=Gm hA hu h hK;refine fm (v:=v') (w':=w') ?_ hk;have e1:=iI hA _ _ hx;have e2:(parts.map fun p=>(p.1,a.eval p.2))=((parts.toList.map (·.1)).zip (vs.map (TV.ev J))).toArray:=by
     rw[<-e1,abA,<-zc parts.toList];obtain⟨l⟩:=parts;exact acW
    unfold execOp;rw[hop];rw[<-e2]at hrun;simp only[Sem.run_bind,hrun,Result.andThen_ok,Sem.run_pure]
   .cases h
  .rename_i args ats hop;split at h
   .rename_i x y t t' ha hts;split at h
    .rename_i htt;subst htt;split at h
     .rename_i vx vy hx hy;obtain⟨v',w',hrun,hk⟩:=FY (ty:=o.type) hA hu h hn hK;refine fm (v:=v') (w':=w') ?_ hk;have ea:args.map a.eval=#[vx.ev J,vy.ev J]:=by
       obtain⟨l⟩:=args;simp only at ha;subst ha;simp [aH hA hx,aH hA hy]
      have et:ats=#[t,t]:=by obtain⟨l⟩:=ats;simp only at hts;rw[hts]
      obtain⟨dst,op,ty,pos,af,gd⟩:=o;simp only at hop;subst hop;rw[BigFrame.execOp_builtin,ea,et];unfold builtin;simp only[Sem.run_bind,hrun,Result.andThen_ok,Sem.run_pure]
     .cases h
    .cases h
   .cases h
  .rename_i args ats hop;split at h
   .rename_i x y t t' ha hts;split at h
    .rename_i vx vy hx hy;obtain⟨v',w',hrun,hk⟩:=DX (t':=t') (ty:=o.type) hA hu h hn hK;refine fm (v:=v') (w':=w') ?_ hk;have ea:args.map a.eval=#[vx.ev J,vy.ev J]:=by
      obtain⟨l⟩:=args;simp only at ha;subst ha;simp [aH hA hx,aH hA hy]
     have et:ats=#[t,t']:=by obtain⟨l⟩:=ats;simp only at hts;rw[hts]
     obtain⟨dst,op,ty,pos,af,gd⟩:=o;simp only at hop;subst hop;rw[BigFrame.execOp_builtin,ea,et];unfold builtin;simp only[Sem.run_bind,hrun,Result.andThen_ok,Sem.run_pure]
    .cases h
   .cases h
  .rename_i s d x hop;split at h
   .rename_i x hx;exact Gp hA hu hop (aH hA hx) h hK
   .cases h
  .rename_i T x hop;split at h
   .rename_i x hx;exact Hf hA hu hop (aH hA hx) h hK
   .cases h
  .rename_i t hop;exact oa hA hu (by rw[hop];exact h) hn hK
  .rename_i t m k ok hop;exact oa hA hu (by rw[hop];exact h) hn hK
  .rename_i t m k v hop;exact oa hA hu (by rw[hop];exact h) hn hK
  .rename_i args ats hop;exact oa hA hu (by rw[hop];exact h) hn hK
  .rename_i c args ats hop;split at h
   .rename_i f vs hc hx;split at h
    .rename_i he;exact J8 hop (px hA hc) he (iI hA _ _ hx) (DS hΓ hA hu h hn hK)
    .cases h
   .cases h
  .cases h
 .cases h
end
inductive Tag | norm | ret | exit (id:Nat)
 deriving DecidableEq
def yq:Tag->Exit
 | .norm=>.normal
 | .ret=>.ret
 | .exit i=>.exit i
abbrev Mc:=Tag->St->Option Nd
def AO:E->List E
 | .and a b=>AO a++AO b
 | e=>[e]
def EI (path:List E) (n:E):List E:=(AO n).filter fun c=>!(known path c==some true)
def tC:List E->Nd->Nd
 | [],a=>a
 | c::l,a=>oS (VA c) (tC l a)
def EJ (st:St) (n:E) (k:St->Option Nd):Option Nd :=
 let cs:=EI st.path n
 (k {st with path:=cs++st.path}).map (tC cs)
theorem AP {J:Env} : ∀ n:E,(∀ c∈AO n,bd J c=true)->bd J n=true:=by
 intro n
 induction n with
 | and a b iha ihb =>
  intro h;simp only[AO,aaR]at h;rw[qu,iha (fun c hc=>h c (Or.inl hc)),ihb (fun c hc=>h c (Or.inr hc))];rfl
 | _=>intro h;exact h _ (by simp [AO])
def Di:TV:=.sv (.one (.val undef))
def Jj:Value->Bool
 | .bool _=>false
 | _=>true
def uA (ops:List Oper) (st:St) (o:Oper):Option (Option (E×Bool)) :=
 match o.guard with
 | none=>some none
 | some (j,want)=>match(ops[j]?).bind (·.dst)with
  | some t=>match st.tmps[t]? with
   | some (some (.sv (.one (.bool e))))=>some (some (e,want))
   | some (some (.sv (.one (.val v))))=>if Jj v then some (some (.ff,true))else none
   | _=>none
  | none=>none
def jB (P:Program) (st:St):List ResultVar->Option (E×List SV)
 | []=>some (.tt,[])
 | .tmp t::l=>match cN st (.tmp t),jB P st l with
  | some (.sv v),some (m,vs)=>some (m,v::vs)
  | _,_=>none
 | .cell t ty::l=>match cN st (.tmp t),jB P st l with
  | some (.sv (.one c)),some (m,vs)=>match Jd P st.mem ty c with
   | some (k,v)=>some (mkAnd k m,v::vs)
   | none=>none
  | _,_=>none
def Bu:List SV->TV
 | [v]=>.sv v
 | l=>.tup l
abbrev Ex:=Nat->List Nat->Code->St->Mc->Option Nd
def xp (P:Program) (ex:Ex) (d:Nat) (f:FuncId) (args:List TV) (st:St) (k:TV->St->Option Nd):Option Nd :=
 match P.funcs[f]? with
 | some fn=>match fn.body with
  | some c=>ex d [f] c ⟨args.map some++List.replicate (fn.ntmps-args.length) none,st.mem,st.nv,st.path⟩ fun t s=>match t with
   | .exit _=>none
   | _=>match jB P s fn.results.toList with
    | some (n,vs)=>EJ s n fun s=>k (Bu vs) s
    | none=>none
  | none=>none
 | none=>none
def Qf (P:Program) (o:Oper) (k:St->Option Nd):Nat->St->Option Nd
 | 0,st=>k st
 | n+1,st=>match Bi P st o with
  | some (s,x)=>(Qf P o k n s).map (.ext x ·)
  | none=>k st
def uf (P:Program) (Γ:List Spec) (ex:Ex) (d:Nat) (o:Oper) (st:St) (k:St->Option Nd):Option Nd :=
 match quiet P st o.op with
 | some (n,v)=>EJ st n fun st=>k (st.put o.dst (some v))
 | none=>Qf P o (fun st=>match PI P Γ st o with
  | some R=>if st.nv<=R.st.nv then(k R.st).map fun nd=>oS R.need (match R.x with | some x=>.ext x nd | none=>nd)else none
  | none=>match o.op with
   | .call {callee:=.value c,args,argTypes:=_}=>match sR st c,tH st args.toList with
    | some f,some vs=>if yl P f&&st.aL st.nv then xp P ex d f vs st fun r s=>if st.nv<=s.nv then k (({s with tmps:=st.tmps} : St).put o.dst (some r))else none else none
    | _,_=>none
   | .panic _=>some (.e .ff)
   | .makeInterface _ _=>some (.e .ff)
   | _=>none) 4 st
def jl (P:Program) (Γ:List Spec) (ex:Ex) (d:Nat) (ops:List Oper):List Oper->St->(St->Option Nd)->Option Nd
 | [],st,k=>k st
 | o::l,st,k=>match uA ops st o with
  | none=>none
  | some none=>uf P Γ ex d o st fun s=>if st.nv<=s.nv then jl P Γ ex d ops l s k else none
  | some (some (e,want))=>match known st.path e with
   | some b=>if b=want then uf P Γ ex d o st fun s=>if st.nv<=s.nv then jl P Γ ex d ops l s k else none else jl P Γ ex d ops l (st.put o.dst (some Di)) k
   | none =>
    let y:=if want then e else mkNot e
    match uf P Γ ex d o {st with path:=y::st.path} fun s=>if st.nv<=s.nv then jl P Γ ex d ops l s k else none,jl P Γ ex d ops l (({st with path:=mkNot y::st.path} : St).put o.dst (some Di)) k with
    | some a,some b=>some (oS (wb y a) (wb (mkNot y) b))
    | _,_=>none
section
variable {P:Program} {C:Ctx} {ms:Nat->Nat} {S:Nat->Prop} {w0:World} {J J':Env} {st:St} {mem mem':Mem} {a:Act} {w w':World}
def Mb (S:Nat->Prop) (w0:World) (C:Ctx) (d:Nat) (ms:Nat->Nat) (n:Nat) (J:Env) (k:St->Option Nd) (K:Act->World->Prop):Prop :=
 ∀ ms' st' nd J' a' w',(∀ i,i<d->ms' i=ms i)->k st'=some nd->ai n J J'->Rel S w0 J' st' a' w'->nd.holds C ms' J'->K a' w'
theorem Mb.fS {d n m:Nat} {ms':Nat->Nat} {k:St->Option Nd} {K:Act->World->Prop} (h:Mb S w0 C d ms n J k K) (hm':∀ i,i<d->ms' i=ms i) (hg:ai n J J') (hm:n<=m):Mb S w0 C d ms' m J' k K :=
 fun ms'' st' nd J'' a' w' hms hk hg' hA hn=>h ms'' st' nd J'' a' w' (fun i hi=>(hms i hi).trans (hm' i hi)) hk (hg.trans (hg'.mono hm)) hA hn
theorem Rel.pU (hA:Rel S w0 J st a w) {cs:List E} (h:∀ c∈cs,bd J c=true):Rel S w0 J {st with path:=cs++st.path} a w :=
 ⟨hA.toMRel,hA.size,hA.defers,hA.tmp,fun e he=>(aaR.1 he).elim (h e) (hA.path e)⟩
theorem Rel.qJ (hA:Rel S w0 J st a w) {c:E} (h:bd J c=true):Rel S w0 J {st with path:=c::st.path} a w :=
 hA.pU (cs:=[c]) (fun x hx=>by rw[aam.1 hx];exact h)
theorem mD:∀ (cs:List E) (a:Nd),(tC cs a).holds C ms J->(∀ c∈cs,bd J c=true)/\a.holds C ms J
 | [],a,h=>⟨aF,h⟩
 | c::l,a,h=>by
  simp only[tC,fb,uJ]at h;obtain⟨h1,h2⟩:=mD l a h.2;exact⟨fun x hx=>(aas.1 hx).elim (fun e=>e▸h.1) (h1 x),h2⟩
theorem wc {n:E} {k:St->Option Nd} {nd:Nd} (h:EJ st n k=some nd) (hA:Rel S w0 J st a w) (hn:nd.holds C ms J) :
 bd J n=true/\∃ st' nd',k st'=some nd'/\st'={st with path:=EI st.path n++st.path}/\Rel S w0 J st' a w/\nd'.holds C ms J:=by
 unfold EJ at h;simp only[aak]at h;obtain⟨nd',hk,rfl⟩:=h;obtain⟨h1,h2⟩:=mD _ _ hn;refine⟨AP n fun c hc=>?_,_,nd',hk,rfl,hA.pU h1,h2⟩;by_cases hk:known st.path c=some true
 .exact fz hA.path hk
 .exact h1 c (by unfold EI;rw[abq];exact⟨hc,by simpa using hk⟩)
def BX (J:Env):Option (E×Bool)->Bool
 | none=>true
 | some q=>bd J q.1==q.2
theorem iA (hr:Rel S w0 J st a w) {ops:List Oper} {o:Oper} {g:Option (E×Bool)} (h:uA ops st o=some g) :
 Region.wanted o (yielded ops.toArray a.tmps)=BX J g:=by
 unfold uA at h;unfold Region.wanted;split at h
 .rename_i hg;cases h;simp only[hg,BX]
 .rename_i j want hg;simp only[hg];split at h
  .rename_i t ht;split at h
   .rename_i e hs;cases h;have:=hr.tmp t _ hs;have hy:yielded ops.toArray a.tmps j=some (bd J e):=by
     unfold yielded;have e1:(ops.toArray[j]?).bind (·.dst)=some t:=by simpa using ht
     rw[e1];simp only[abZ,this,TV.ev,SV.ev,CV.ev]
    rw[hy];simp [BX]
   .rename_i v hs;split at h
    .rename_i hv;cases h;have:=hr.tmp t _ hs;have hy:yielded ops.toArray a.tmps j=none:=by
      unfold yielded;have e1:(ops.toArray[j]?).bind (·.dst)=some t:=by simpa using ht
      rw[e1];simp only[abZ,this,TV.ev,SV.ev,CV.ev];cases v<;>simp [Jj]at hv ⊢
     rw[hy];simp [BX,c8]
    .cases h
   .cases h
  .cases h
theorem kY (hA:Rel S w0 J st a w):∀ (l:List ResultVar) (n:E) (vs:List SV),jB P st l=some (n,vs)->bd J n=true ->
 (l.mapM fun(x:ResultVar)=>match x with
  | .tmp t=>(pure (a.tmps.getD t undef):Sem Value)
  | .cell p t=>do loadVar t (<-asAddr (a.tmps.getD p undef))).run P w=.ok (vs.map (SV.ev J)) w
 | [],n,vs,h,_=>by cases h;rfl
 | .tmp t::l,n,vs,h,hn=>by
  simp only[jB]at h;split at h
  .rename_i v m vs' h1 h2;cases h;have e1:=aH hA h1;simp only[Act.eval,TV.ev]at e1;have ih:=kY hA l _ _ h2 hn;simp only[ado,Sem.run_bind,Sem.run_pure,Result.andThen_ok,ih,aaC];rw[<-e1]
  .cases h
 | .cell p t::l,n,vs,h,hn=>by
  simp only[jB]at h;split at h
  .rename_i c m vs' h1 h2;split at h
   .rename_i k v hl;cases h;rw[aP,aah]at hn;have e1:=aH hA h1;obtain⟨q,hq,hrun⟩:=vX hA.toMRel hl hn.1;simp only[Act.eval,TV.ev,SV.ev,hq]at e1;have ih:=kY hA l _ _ h2 hn.2;have ea:(asAddr (a.tmps.getD p undef)).run P w=.ok q w:=by rw[e1];rfl
    simp only[ado,Sem.run_bind,ea,Sem.run_pure,Result.andThen_ok,hrun,ih,aaC]
   .cases h
  .cases h
theorem AF (hA:Rel S w0 J st a w) {fn:Func} {n:E} {vs:List SV} (h:jB P st fn.results.toList=some (n,vs)) (hn:bd J n=true) :
 (results fn a.tmps).run P w=.ok ((Bu vs).ev J) w:=by
 have key:=kY hA _ _ _ h hn;unfold results;have hm:(fn.results.mapM fun(x:ResultVar)=>match x with
  | .tmp t=>(pure (a.tmps.getD t undef):Sem Value)
  | .cell p t=>do loadVar t (<-asAddr (a.tmps.getD p undef))).run P w=.ok (vs.map (SV.ev J)).toArray w:=by
  generalize fn.results=rs at *;obtain⟨l⟩:=rs;simp only[adb,Sem.run_map,key,Result.andThen_ok]
 simp only[Sem.run_bind];refine(aaQ (fun r=>Result.andThen r _) hm).trans ?_;simp only[Result.andThen_ok,Sem.run_pure]
 congr 1
 match vs with
 | []=>simp [Bu,TV.ev]
 | [v]=>simp [Bu,TV.ev]
 | v::u::l=>simp [Bu,TV.ev]
end
abbrev MA:=Option (List As×List (Nat×Option Nat))
def mI (n0:Nat) (t e:E):Option (List As) :=
 match t with
 | .var n=>if n0<=n then some [⟨n,0,.int .i64 e⟩]else if t=e then some []else none
 | t=>if t=e/\t.aL n0=true then some []else none
def mB (n0:Nat) (t e:E):Option (List As) :=
 match t with
 | .bvar n=>if n0<=n then some [⟨n,1,.bool e⟩]else if t=e then some []else none
 | t=>if t=e/\t.aL n0=true then some []else none
def mS (n0:Nat) (t e:E):Option (List As) :=
 match t with
 | .svar n=>if n0<=n then some [⟨n,2,.str e⟩]else if t=e then some []else none
 | t=>if t=e/\t.aL n0=true then some []else none
def Ay:Option (List As)->Option (List As)->Option (List As)
 | some a,some b=>some (a++b)
 | _,_=>none
def HT:CV->CV->Bool
 | .pti a o s n i,.pti a' o' s' n' i'=>decide (a=a')&&decide (o=o')&&decide (s=s')&&decide (n=n')&&decide (i=i')
 | .hv h x y j,.hv h' x' y' j'=>decide (h=h')&&decide (x=x')&&decide (y=y')&&decide (j=j')
 | .clo f x,.clo f' x'=>decide (f=f')&&decide (x=x')
 | _,_=>false
theorem LH {a b:CV} (h:HT a b=true):a=b:=by
 unfold HT at h;split at h
 .simp only[aah,aag]at h;obtain⟨⟨⟨⟨rfl,rfl⟩,rfl⟩,rfl⟩,rfl⟩:=h;rfl
 .simp only[aah,aag]at h;obtain⟨⟨⟨rfl,rfl⟩,rfl⟩,rfl⟩:=h;rfl
 .simp only[aah,aag]at h;obtain⟨rfl,rfl⟩:=h;rfl
 .cases h
def Vt (n0:Nat) (t c:CV):Option (List As) :=
 match t,c with
 | .int k e,.int k' e'=>if k=k' then mI n0 e e' else none
 | .bool e,.bool e'=>mB n0 e e'
 | .str e,.str e'=>mS n0 e e'
 | .hptr x y,.hptr x' y'=>Ay (mI n0 x x') (mI n0 y y')
 | .sl x y l c,.sl x' y' l' c'=>Ay (Ay (mI n0 x x') (mI n0 y y')) (Ay (mI n0 l l') (mI n0 c c'))
 | .map x,.map x'=>mI n0 x x'
 | .vr n,c=>if n0<=n then some [⟨n,3,c⟩]else match c with
  | .vr m=>if n=m then some []else none
  | _=>none
 | .val v,.val v'=>if Fu v v' then some []else none
 | t,c=>if HT t c=true/\t.aL n0=true then some []else none
def mL (n0:Nat):List CV->List CV->Option (List As)
 | [],[]=>some []
 | a::l,b::m=>Ay (Vt n0 a b) (mL n0 l m)
 | _,_=>none
def yW (n0:Nat):List SV->List SV->Option (List As)
 | [],[]=>some []
 | .one a::l,.one b::m=>Ay (Vt n0 a b) (yW n0 l m)
 | .agg a::l,.agg b::m=>Ay (mL n0 a b) (yW n0 l m)
 | _,_=>none
def XP (n0:Nat):TV->TV->Option (List As)
 | .sv (.one a),.sv (.one b)=>Vt n0 a b
 | .sv (.agg l),.sv (.agg m)=>mL n0 l m
 | .tup l,.tup m=>yW n0 l m
 | _,_=>none
def pM (n0:Nat):List (Option TV)->List (Option TV)->Option (List As)
 | [],[]=>some []
 | none::l,_::m=>pM n0 l m
 | some a::l,some b::m=>Ay (XP n0 a b) (pM n0 l m)
 | _,_=>none
def Ta (n0:Nat) (t:bE) (r:Option bE):MA :=
 match t,r with
 | .dead,_=>some ([],[])
 | .bw a l T,some (.bw a' l' T')=>if T=T' then
  if n0<=a then(mL n0 l l').map fun A=>(⟨a,0,.int .i64 (.var a')⟩::A,[])else if a=a' then(mL n0 l l').map fun A=>(A,[])else none
  else none
 | .hp k _ _ _,some (.hp k' _ _ _)=>if n0<=k then some ([],[(k,some k')])else if k=k' then some ([],[])else none
 | .hp k _ _ _,some .dead=>if n0<=k then some ([],[(k,none)])else none
 | .hp k _ _ _,none=>if n0<=k then some ([],[(k,none)])else none
 | .ro k _ _,some (.ro k' _ _)=>if k<n0/\k=k' then some ([],[])else none
 | _,_=>none
def P0 (n0:Nat):Mem->Mem->MA
 | [],_=>some ([],[])
 | r::l,m=>match Ta n0 r m.head?,P0 n0 l m.tail with
  | some (a,h),some (b,g)=>some (a++b,h++g)
  | _,_=>none
def km:List As->Bool
 | []=>true
 | a::l=>(l.all fun x=>!(x.n==a.n&&x.k==a.k))&&km l
def kn:List (Nat×Option Nat)->Bool
 | []=>true
 | a::l=>(l.all fun x=>!(x.1==a.1))&&kn l
def P1 (n0:Nat) (h s:St):MA :=
 match pM n0 h.tmps s.tmps,P0 n0 h.mem s.mem with
 | some a,some (b,g)=>if km (a++b)&&kn g&&((a++b).all fun x=>decide (n0<=x.n))&&(g.all fun x=>decide (n0<=x.1))&&(h.path.all fun e=>e.aL n0&&s.path.contains e)&&decide (n0<=h.nv)then some (a++b,g)else none
 | _,_=>none
def OT (m:Mem) (p q:Nat):Mem:=match m[p]?,m[q]? with
 | some a,some b=>(m.set p b).set q a
 | _,_=>m
def Tt (m:Mem) (n:Nat):Mem:=m++List.replicate (n-m.length) .dead
def MR (n0:Nat) (A:List As):Mem->Nat->Mem->Mem
 | [],_,m=>m
 | .hp k _ (.var a::_) _::l,p,m=>MR n0 A l (p+1) (if n0<=k/\n0<=a then match A.find? (fun x=>x.n==a&&x.k==0)with
  | some ⟨_,_,.int _ e⟩=>match posOf m e with
   | some (q,r)=>if r.own=true then OT m p q else m
   | none=>m
  | _=>m
  else m)
 | _::l,p,m=>MR n0 A l (p+1) m
def WK (n0:Nat) (h s:St):MA:=match pM n0 h.tmps s.tmps with
 | some A=>match P1 n0 h {s with mem:=MR n0 A h.mem 0 (Tt s.mem h.mem.length)} with
  | some r=>some r
  | none=>P1 n0 h s
 | none=>none
section
variable {P:Program} {C:Ctx} {ms:Nat->Nat} {S:Nat->Prop} {w0:World} {J J':Env} {st:St} {mem mem':Mem} {a:Act} {w w':World} {n0:Nat} {A:List As} {hs:List (Nat×Option Nat)}
theorem de (hA:A.all (fun x=>decide (n0<=x.n))=true) (hh:hs.all (fun x=>decide (n0<=x.1))=true):ai n0 J (assign J A hs):=by
 rw[aaE]at hA hh;have key:∀ k j,k<n0->A.find? (fun a=>a.n==k&&a.k==j)=none:=fun k j hk=>by
  rw[acg];intro x hx;have:=hA x hx;simp only[aag]at this;simp;omega
 refine⟨fun k hk=>?_,fun k hk=>?_,fun k hk=>?_,fun k hk=>?_,fun k hk=>?_⟩
 .simp only[assign,key k 0 hk]
 .simp only[assign,key k 1 hk]
 .simp only[assign,key k 2 hk]
 .simp only[assign,key k 3 hk]
 .have:hs.find? (fun p=>p.1==k)=none:=by
   rw[acg];intro x hx;have:=hh x hx;simp only[aag]at this;simp;omega
  simp only[assign,this]
theorem fQ:∀ {A:List As},km A=true->∀ x∈A,A.find? (fun a=>a.n==x.n&&a.k==x.k)=some x
 | [],_,_,h=>by cases h
 | y::l,h,x,hx=>by
  simp only[km,aah,aaE,abf]at h;rw[adk];rcases aas.1 hx with rfl | hx
  .simp
  .have:=h.1 x hx;have hb:(y.n==x.n&&y.k==x.k)=false:=by
    rw[<-this];congr 1<;>exact Bool.beq_comm
   rw[hb];exact fQ h.2 x hx
theorem iP:∀ {A:List (Nat×Option Nat)},kn A=true->∀ x∈A,A.find? (fun a=>a.1==x.1)=some x
 | [],_,_,h=>by cases h
 | y::l,h,x,hx=>by
  simp only[kn,aah,aaE,abf]at h;rw[adk];rcases aas.1 hx with rfl | hx
  .simp
  .have:=h.1 x hx;have hb:(y.1==x.1)=false:=by rw[<-this];exact Bool.beq_comm
   rw[hb];exact iP h.2 x hx
section
variable (hd:km A=true) (hall:A.all (fun x=>decide (n0<=x.n))=true) (hh:hs.all (fun x=>decide (n0<=x.1))=true) (hdh:kn hs=true)
include hd hall hh
theorem jy {t e:E} {x:List As} (hm:mI n0 t e=some x) (hx:∀ y∈x,y∈A):aA (assign J A hs) t=aA J e:=by
 have hg:ai n0 J (assign J A hs):=de hall hh;unfold mI at hm;split at hm
 .rename_i n;split at hm
  .cases hm;have:=fQ hd _ (hx _ (aam.2 rfl));simp only[al,assign,this,CV.ev,ck]
  .split at hm
   .rename_i he;subst he;exact ct hg (by simp only[E.aL,aag];omega)
   .cases hm
 .split at hm
  .rename_i hc;obtain⟨rfl,hu⟩:=hc;exact ct hg hu
  .cases hm
theorem Nv {t e:E} {x:List As} (hm:mB n0 t e=some x) (hx:∀ y∈x,y∈A):bd (assign J A hs) t=bd J e:=by
 have hg:ai n0 J (assign J A hs):=de hall hh;unfold mB at hm;split at hm
 .rename_i n;split at hm
  .cases hm;have:=fQ hd _ (hx _ (aam.2 rfl));simp only[bq,assign,this,CV.ev,AJ]
  .split at hm
   .rename_i he;subst he;exact kl hg (by simp only[E.aL,aag];omega)
   .cases hm
 .split at hm
  .rename_i hc;obtain⟨rfl,hu⟩:=hc;exact kl hg hu
  .cases hm
theorem Nw {t e:E} {x:List As} (hm:mS n0 t e=some x) (hx:∀ y∈x,y∈A):jP (assign J A hs) t=jP J e:=by
 have hg:ai n0 J (assign J A hs):=de hall hh;unfold mS at hm;split at hm
 .rename_i n;split at hm
  .cases hm;have:=fQ hd _ (hx _ (aam.2 rfl));simp only[gf,assign,this,CV.ev,O1]
  .split at hm
   .rename_i he;subst he;exact uX hg (by simp only[E.aL,aag];omega)
   .cases hm
 .split at hm
  .rename_i hc;obtain⟨rfl,hu⟩:=hc;exact uX hg hu
  .cases hm
omit hd hall hh in
theorem iw {x y:Option (List As)} {z:List As} (h:Ay x y=some z):∃ u v,x=some u/\y=some v/\z=u++v:=by
 unfold Ay at h;split at h
 .cases h;exact⟨_,_,rfl,rfl,rfl⟩
 .cases h
theorem uH {t c:CV} {x:List As} (hm:Vt n0 t c=some x) (hx:∀ y∈x,y∈A):t.ev (assign J A hs)=c.ev J:=by
 unfold Vt at hm;split at hm
 .split at hm
  .rename_i hk;subst hk;simp only[CV.ev,jy hd hall hh hm hx]
  .cases hm
 .simp only[CV.ev,Nv hd hall hh hm hx]
 .simp only[CV.ev,Nw hd hall hh hm hx]
 .obtain⟨u,v,h1,h2,rfl⟩:=iw hm;simp only[CV.ev,jy hd hall hh h1 (fun y hy=>hx y (abB _ hy)),jy hd hall hh h2 (fun y hy=>hx y (abl _ hy))]
 .obtain⟨u,v,h1,h2,rfl⟩:=iw hm;obtain⟨u1,u2,h11,h12,rfl⟩:=iw h1;obtain⟨v1,v2,h21,h22,rfl⟩:=iw h2;simp only[CV.ev,jy hd hall hh h11 (fun y hy=>hx y (by simp [hy])),jy hd hall hh h12 (fun y hy=>hx y (by simp [hy])),jy hd hall hh h21 (fun y hy=>hx y (by simp [hy])),jy hd hall hh h22 (fun y hy=>hx y (by simp [hy]))]
 .simp only[CV.ev,jy hd hall hh hm hx]
 .rename_i n c;split at hm
  .cases hm;have:=fQ hd _ (hx _ (aam.2 rfl));simp only[CV.ev,assign,this]
  .split at hm
   .rename_i m;split at hm
    .rename_i he;subst he;exact CV.bO (de hall hh) _ (by simp only[CV.aL,aag];omega)
    .cases hm
   .cases hm
 .split at hm
  .rename_i hv;simp only[CV.ev,zX hv]
  .cases hm
 .split at hm
  .rename_i hv;rw[<-LH hv.1];exact CV.bO (de hall hh) _ hv.2
  .cases hm
theorem ni:∀ (l m:List CV) (x:List As),mL n0 l m=some x->(∀ y∈x,y∈A)->l.map (CV.ev (assign J A hs))=m.map (CV.ev J)
 | [],[],_,_,_=>rfl
 | a::l,b::m,x,h,hx=>by
  simp only[mL]at h;obtain⟨u,v,h1,h2,rfl⟩:=iw h;simp only[aaC,uH hd hall hh h1 (fun y hy=>hx y (abB _ hy)),ni l m v h2 (fun y hy=>hx y (abl _ hy))]
 | [],_::_,_,h,_=>by simp [mL]at h
 | _::_,[],_,h,_=>by simp [mL]at h
theorem sd:∀ (l m:List SV) (x:List As),yW n0 l m=some x->(∀ y∈x,y∈A)->l.map (SV.ev (assign J A hs))=m.map (SV.ev J)
 | [],[],_,_,_=>rfl
 | .one a::l,.one b::m,x,h,hx=>by
  simp only[yW]at h;obtain⟨u,v,h1,h2,rfl⟩:=iw h;simp only[aaC,SV.ev,uH hd hall hh h1 (fun y hy=>hx y (abB _ hy)),sd l m v h2 (fun y hy=>hx y (abl _ hy))]
 | .agg a::l,.agg b::m,x,h,hx=>by
  simp only[yW]at h;obtain⟨u,v,h1,h2,rfl⟩:=iw h;simp only[aaC,SV.ev,ni hd hall hh _ _ _ h1 (fun y hy=>hx y (abB _ hy)),sd l m v h2 (fun y hy=>hx y (abl _ hy))]
 | [],_::_,_,h,_=>by simp [yW]at h
 | .one _::_,[],_,h,_=>by simp [yW]at h
 | .agg _::_,[],_,h,_=>by simp [yW]at h
 | .one _::_,.agg _::_,_,h,_=>by simp [yW]at h
 | .agg _::_,.one _::_,_,h,_=>by simp [yW]at h
theorem KX {t c:TV} {x:List As} (hm:XP n0 t c=some x) (hx:∀ y∈x,y∈A):t.ev (assign J A hs)=c.ev J:=by
 unfold XP at hm;split at hm
 .exact uH hd hall hh hm hx
 .simp only[TV.ev,SV.ev,ni hd hall hh _ _ _ hm hx]
 .simp only[TV.ev,sd hd hall hh _ _ _ hm hx]
 .cases hm
theorem pN:∀ (l m:List (Option TV)) (x:List As),pM n0 l m=some x->(∀ y∈x,y∈A)->l.length=m.length/\∀ (t:Nat) v,l[t]?=some (some v)->∃ u,m[t]?=some (some u)/\v.ev (assign J A hs)=u.ev J
 | [],[],_,_,_=>⟨rfl,fun t v h=>by simp at h⟩
 | none::l,b::m,x,h,hx=>by
  simp only[pM]at h;obtain⟨h1,h2⟩:=pN l m x h hx;refine⟨by simp [h1],fun t v hv=>?_⟩;cases t with
  | zero=>simp at hv
  | succ t=>simpa using h2 t v (by simpa using hv)
 | some c::l,some b::m,x,h,hx=>by
  simp only[pM]at h;obtain⟨u,v,h1,h2,rfl⟩:=iw h;obtain⟨e1,e2⟩:=pN l m v h2 (fun y hy=>hx y (abl _ hy));refine⟨by simp [e1],fun t v hv=>?_⟩;cases t with
  | zero =>
   simp only[aa4,aaj]at hv;subst hv;exact⟨b,rfl,KX hd hall hh h1 (fun y hy=>hx y (abB _ hy))⟩
  | succ t=>simpa using e2 t v (by simpa using hv)
 | some _::_,none::_,_,h,_=>by simp [pM]at h
 | [],_::_,_,h,_=>by simp [pM]at h
 | none::_,[],_,h,_=>by simp [pM]at h
 | some _::_,[],_,h,_=>by simp [pM]at h
include hdh
theorem GX {t:bE} {r:Option bE} {x:List As} {g:List (Nat×Option Nat)} (hm:Ta n0 t r=some (x,g)) (hx:∀ y∈x,y∈A) (hg:∀ y∈g,y∈hs) :
 (∃ s,r=some s/\t.hl (assign J A hs)=s.hl J/\(t.own=true->s.own=true)/\(s.pos J->t.pos (assign J A hs)))\/(t.hl (assign J A hs)=Hl.none/\t.pos (assign J A hs)):=by
 unfold Ta at hm;split at hm
 .right;exact⟨rfl,trivial⟩
 .rename_i a l T a' l' T';split at hm
  .rename_i hT;subst hT;left;split at hm
   .simp only[aak,aaY]at hm;obtain⟨B,hB,rfl,rfl⟩:=hm;have e1:(assign J A hs).i a=J.i a':=by
     have:=fQ hd _ (hx _ (aaH ..));simp only[assign,this,CV.ev,ck,al]
    refine⟨_,rfl,?_,fun _=>rfl,?_⟩
    .simp only[bE.hl,e1,ni hd hall hh _ _ _ hB (fun y hy=>hx y (aar _ hy))]
    .simp only[bE.pos,e1];exact id
   .split at hm
    .rename_i hlt he;subst he;simp only[aak,aaY]at hm;obtain⟨B,hB,rfl,rfl⟩:=hm;have e1:(assign J A hs).i a=J.i a:=(de hall hh).i a;refine⟨_,rfl,?_,fun _=>rfl,?_⟩
     .simp only[bE.hl,e1,ni hd hall hh _ _ _ hB hx]
     .simp only[bE.pos,e1];exact id
    .cases hm
  .cases hm
 .rename_i k _ _ _ k' _ _ _;split at hm
  .cases hm;have:=iP hdh _ (hg _ (aam.2 rfl));left;exact⟨_,rfl,by simp only[bE.hl,assign,this],fun _=>rfl,fun _=>trivial⟩
  .split at hm
   .rename_i hlt he;subst he;left;exact⟨_,rfl,by simp only[bE.hl];exact(de hall hh).h k,fun _=>rfl,fun _=>trivial⟩
   .cases hm
 .rename_i k _ _ _;split at hm
  .cases hm;have:=iP hdh _ (hg _ (aam.2 rfl));right;exact⟨by simp only[bE.hl,assign,this],trivial⟩
  .cases hm
 .rename_i k _ _ _;split at hm
  .cases hm;have:=iP hdh _ (hg _ (aam.2 rfl));right;exact⟨by simp only[bE.hl,assign,this],trivial⟩
  .cases hm
 .rename_i k _ _ k' _ _;split at hm
  .rename_i hc;obtain⟨hlt,rfl⟩:=hc;cases hm;left;exact⟨_,rfl,by simp only[bE.hl];exact(de hall hh).h k hlt,fun h=>h,fun _=>trivial⟩
  .cases hm
 .cases hm
theorem yV:∀ (l m:Mem) (x:List As) (g:List (Nat×Option Nat)),P0 n0 l m=some (x,g)->(∀ y∈x,y∈A)->(∀ y∈g,y∈hs)->∀ (p:Nat) t,l[p]?=some t ->
 (∃ s,m[p]?=some s/\t.hl (assign J A hs)=s.hl J/\(t.own=true->s.own=true)/\(s.pos J->t.pos (assign J A hs)))\/(t.hl (assign J A hs)=Hl.none/\t.pos (assign J A hs))
 | [],_,_,_,_,_,_,p,t,h=>by simp at h
 | r::l,m,x,g,h,hx,hg,p,t,hp=>by
  simp only[P0]at h;split at h
  .rename_i a1 h1 b1 g1 e1 e2;cases h;cases p with
   | zero =>
    simp only[aa4,aaj]at hp;subst hp;have:=GX (J:=J) hd hall hh hdh e1 (fun y hy=>hx y (abB _ hy)) (fun y hy=>hg y (abB _ hy));rwa[List.head?_eq_getElem?]at this
   | succ p =>
    have:=yV l m.tail _ _ e2 (fun y hy=>hx y (abl _ hy)) (fun y hy=>hg y (abl _ hy)) p t (by simpa using hp);rwa[List.getElem?_tail]at this
  .cases h
end
theorem MRel.map (h:MRel S w0 J mem w) (hm:∀ (p:Nat) t,mem'[p]?=some t->(∃ s,mem[p]?=some s/\t.hl J'=s.hl J/\(t.own=true->s.own=true)/\(s.pos J->t.pos J'))\/(t.hl J'=Hl.none/\t.pos J')):MRel S w0 J' mem' w:=by
 refine⟨h.fR,fun r hr=>?_,fun r hr ho b hb=>?_,fun p q r s hpq hp hq ho=>?_,fun r hr=>?_⟩
 .obtain⟨p,hp⟩:=aa9 hr;rcases hm p r hp with ⟨s,hs,e,_⟩ | ⟨e,_⟩
  .rw[e];exact h.sub s (aae hs)
  .rw[e];intro b o hb;cases hb
 .obtain⟨p,hp⟩:=aa9 hr;rcases hm p r hp with ⟨s,hs,e,h1,_⟩ | ⟨e,_⟩
  .rw[e]at hb;exact h.own s (aae hs) (h1 ho) b hb
  .rw[e]at hb;cases hb
 .rcases hm p r hp with ⟨s',hs,e,h1,_⟩ | ⟨e,_⟩
  .rcases hm q s hq with ⟨t',ht,f,_,_⟩ | ⟨f,_⟩
   .rw[e,f];exact h.bT p q s' t' hpq hs ht (h1 ho)
   .rw[f];rintro b ⟨_,y⟩;cases y
  .rw[e];rintro b ⟨y,_⟩;cases y
 .obtain⟨p,hp⟩:=aa9 hr;rcases hm p r hp with ⟨s,hs,_,_,h1⟩ | ⟨_,e⟩
  .exact h1 (h.pos s (aae hs))
  .exact e
theorem yX {h s:St} (hm:P1 n0 h s=some (A,hs)) (hA:Rel S w0 J s a w):Rel S w0 (assign J A hs) h a w/\ai n0 J (assign J A hs)/\n0<=h.nv:=by
 unfold P1 at hm;split at hm
 .rename_i a1 b1 g1 e1 e2;split at hm
  .rename_i hc;obtain⟨rfl,rfl⟩:a1++b1=A/\g1=hs:=by simpa using hm
   simp only[aah,aag]at hc;obtain⟨⟨⟨⟨⟨hd,hdh⟩,hall⟩,hh⟩,hp⟩,hnv⟩:=hc;have hg:ai n0 J (assign J (a1++b1) g1):=de hall hh;obtain⟨t1,t2⟩:=pN (J:=J) hd hall hh _ _ _ e1 (fun y hy=>abB _ hy);have m1:=yV (J:=J) hd hall hh hdh _ _ _ _ e2 (fun y hy=>abl _ hy) (fun y hy=>hy);refine⟨⟨hA.toMRel.map m1,by rw[t1];exact hA.size,hA.defers,fun t v hv=>?_,fun e he=>?_⟩,hg,hnv⟩
   .obtain⟨u,hu,ev⟩:=t2 t v hv;rw[ev];exact hA.tmp t u hu
   .rw[aaE]at hp;have:=hp e he;simp only[aah]at this;rw[kl hg this.1];exact hA.path e (by simpa using this.2)
  .cases hm
 .cases hm
theorem MRel.of_map (h:MRel S w0 J mem w) {mem':Mem} (σ:Nat->Nat) (hi:∀ i j,σ i=σ j->i=j) (hs:∀ (i:Nat) r,mem'[i]?=some r->mem[σ i]?=some r\/r=.dead):MRel S w0 J mem' w:=by
 have dead:∀ (r:bE),r=.dead->(r.hl J).sub w/\(∀ b,¬(r.hl J).mem b)/\r.pos J:=fun r e=>by
  subst e;exact⟨fun b o hb=>(by cases hb),fun b hb=>(by cases hb),trivial⟩
 refine⟨h.fR,fun r hr=>?_,fun r hr ho b hb=>?_,fun p q r s hpq hp hq ho=>?_,fun r hr=>?_⟩
 .obtain⟨i,hi'⟩:=aa9 hr;rcases hs i r hi' with e | e
  .exact h.sub r (aae e)
  .exact(dead r e).1
 .obtain⟨i,hi'⟩:=aa9 hr;rcases hs i r hi' with e | e
  .exact h.own r (aae e) ho b hb
  .exact absurd hb ((dead r e).2.1 b)
 .rcases hs p r hp with e | e
  .rcases hs q s hq with e' | e'
   .exact h.bT _ _ r s (fun he=>hpq (hi p q he)) e e' ho
   .exact fun b ⟨_,y⟩=>(dead s e').2.1 b y
  .exact fun b ⟨x,_⟩=>(dead r e).2.1 b x
 .obtain⟨i,hi'⟩:=aa9 hr;rcases hs i r hi' with e | e
  .exact h.pos r (aae e)
  .exact(dead r e).2.2
theorem MRel.pad (h:MRel S w0 J mem w) (n:Nat):MRel S w0 J (Tt mem n) w:=by
 refine h.of_map id (fun _ _ e=>e) fun i r hr=>?_;unfold Tt at hr;rcases aba i mem.length with hl | hl
 .rw[aaG hl]at hr;exact Or.inl hr
 .rw[aau hl]at hr;exact Or.inr (acz (aae hr))
theorem MRel.swap (h:MRel S w0 J mem w) (p q:Nat):MRel S w0 J (OT mem p q) w:=by
 unfold OT;split
 .rename_i a b hp hq;have lp:=(aai.1 hp).1;have lq:=(aai.1 hq).1;refine h.of_map (fun i=>if i=p then q else if i=q then p else i) (fun i j e=>?_) fun i r hr=>Or.inl ?_
  .have e:(if i=p then q else if i=q then p else i)=(if j=p then q else if j=q then p else j):=e;split at e<;>split at e<;>(try split at e)<;>(try split at e)<;>omega
  .show mem[if i=p then q else if i=q then p else i]?=_;by_cases h1:i=q
   .subst h1;rw[abn (by simpa using lq)]at hr;by_cases h2:i=p
    .subst h2;rw[aax rfl];rw[hq]at hp ⊢;rw[<-hr];exact hp
    .rw[aal h2,aax rfl,hp];exact hr
   .rw[abg (fun e=>h1 e.symm)]at hr;by_cases h2:i=p
    .subst h2;rw[abn lp]at hr;rw[aax rfl,hq];exact hr
    .rw[abg (fun e=>h2 e.symm)]at hr;rw[aal h2,aal h1];exact hr
 .exact h
theorem MRel.fix:∀ (l:Mem) (p:Nat) {m:Mem},MRel S w0 J m w->MRel S w0 J (MR n0 A l p m) w
 | [],_,_,h=>h
 | r::l,p,m,h=>by
  unfold MR;split
  .exact h
  .rename_i heq;cases heq;refine MRel.fix _ _ ?_;split
   .split
    .split
     .split
      .exact h.swap _ _
      .exact h
     .exact h
    .exact h
   .exact h
  .rename_i heq;cases heq;exact MRel.fix _ _ h
theorem Bf {h s:St} (hm:WK n0 h s=some (A,hs)) (hA:Rel S w0 J s a w):Rel S w0 (assign J A hs) h a w/\ai n0 J (assign J A hs)/\n0<=h.nv:=by
 unfold WK at hm;split at hm
 .rename_i A0 h0;split at hm
  .rename_i r hr;cases hm;exact yX hr ⟨(hA.toMRel.pad _).fix _ _,hA.size,hA.defers,hA.tmp,hA.path⟩
  .exact yX hm hA
 .cases hm
end
section
variable {P:Program} {C:Ctx} {S:Nat->Prop} {w0:World} {J J':Env} {st:St} {mem mem':Mem} {a:Act} {w w':World}
def BZ (P:Program) (C:Ctx) (ex:Ex):Prop:=∀ d path c st k nd ms S w0 J a w (Q:Exit->Act->World->Prop),ex d path c st k=some nd->Rel S w0 J st a w->nd.holds C ms J ->
 (∀ t,Mb S w0 C d ms st.nv J (k t) (Q (yq t)))->c.wp P Q a w
theorem rE {ex:Ex} (hex:BZ P C ex) {d:Nat} {ms:Nat->Nat} {f:FuncId} {args:List TV} {k:TV->St->Option Nd} {nd:Nd} (h:xp P ex d f args st k=some nd) (hm:MRel S w0 J st.mem w) (hp:Path J st.path) (hn:nd.holds C ms J)
 {R:Value->World->Prop} (hk:∀ ms' r st' nd' J' w',(∀ i,i<d->ms' i=ms i)->k r st'=some nd'->ai st.nv J J'->MRel S w0 J' st'.mem w'->Path J' st'.path->nd'.holds C ms' J'->R (r.ev J') w') :
 Calls P f (args.map (TV.ev J)).toArray w fun e w'=>∃ v,e=.returned v/\R v w':=by
 unfold xp at h;split at h
 .rename_i fn hf;split at h
  .rename_i c hb;refine calls_of_wp hf hb ?_;have hrel:Rel S w0 J ⟨args.map some++List.replicate (fn.ntmps-args.length) none,st.mem,st.nv,st.path⟩ {tmps:=(args.map (TV.ev J)).toArray++Array.replicate (fn.ntmps-(args.map (TV.ev J)).toArray.size) undef,defers:=[]} w:=by
    refine⟨hm,aF,rfl,?_,hp⟩;intro t v hs;have hs':(args.map some++List.replicate (fn.ntmps-args.length) none)[t]?=some (some v):=hs;rw[acr]at hs';split at hs'
    .rename_i hlt;rw[aao,aak]at hs';obtain⟨u,hu1,hu2⟩:=hs';cases hu2;have hlt':t<args.length:=by simpa using hlt
     rw[Array.getElem?_append,aax (by simpa using hlt')];simp [hu1]
    .rw[abX]at hs';split at hs'<;>cases hs'
   refine hex _ _ _ _ _ _ ms _ _ _ _ _ _ h hrel hn fun t=>?_;intro ms' st' nd' J' a' w' hms hk' hg hA hn';have key:∀ (t:Tag),(match jB P st' fn.results.toList with
    | some (n,vs)=>EJ st' n fun s=>k (Bu vs) s
    | none=>none)=some nd'->a'.defers=[]/\∃ v,(results fn a'.tmps).run P w'=.ok v w'/\∃ v',Ending.returned v=.returned v'/\R v' w':=by
    intro t hk';split at hk'
    .rename_i n vs hv;obtain⟨hb,st'',nd'',bU,he,hA2,hn2⟩:=wc hk' hA hn';refine⟨hA.defers,_,AF hA hv hb,_,rfl,?_⟩;exact hk ms' _ st'' nd'' J' w' hms bU hg hA2.toMRel hA2.path hn2
    .cases hk'
   cases t with
   | norm=>exact key .norm hk'
   | ret=>exact key .ret hk'
   | exit i=>cases hk'
  .cases h
 .cases h
theorem MRel.Qe (h:MRel S w0 J mem w) {p q:Nat} {r1 r2 r':bE} (hp:mem[p]?=some r1) (hq:mem[q]?=some r2) (hpq:q≠p) (o1:r1.own=true) (o2:r2.own=true) (hag:∀ s∈mem,s.same J J')
 (hnew:r'.hl J'=(r1.hl J).un (r2.hl J)) (hpos:r'.pos J'):MRel S w0 J' ((mem.set p r').set q .dead) w:=by
 have hlp:p<mem.length:=(aai.1 hp).1;have hlq:q<mem.length:=(aai.1 hq).1;have gp:((mem.set p r').set q bE.dead)[p]?=some r':=by
  rw[abg hpq,abn hlp]
 have gq:((mem.set p r').set q bE.dead)[q]?=some .dead:=abn (by simpa using hlq);refine h.vl (fun b=>(r1.hl J).mem b\/(r2.hl J).mem b) (fun j=>j=p\/j=q) ?_ rfl rfl rfl (aav _) (fun b _ _=>rfl) ?_ ?_ ?_
 .rintro b (hb | hb)
  .exact⟨r1,aae hp,o1,hb⟩
  .exact⟨r2,aae hq,o2,hb⟩
 .intro j s hj hn;have h1:j≠p:=fun e=>hn (Or.inl e);have h2:j≠q:=fun e=>hn (Or.inr e);rw[abg h2.symm,abg h1.symm]at hj;refine⟨hj,hag s (aae hj),fun b hb hu=>?_⟩;rcases hu with hu | hu
  .exact h.bT p j r1 s h1.symm hp hj o1 b ⟨hu,hb⟩
  .exact h.bT q j r2 s h2.symm hq hj o2 b ⟨hu,hb⟩
 .intro j s hj hn;rcases hn with rfl | rfl
  .rw[gp]at hj;cases hj;refine⟨⟨?_,hpos⟩,fun b hb=>?_⟩
   .rw[hnew];exact Hl.Il (h.sub _ (aae hp)) (h.sub _ (aae hq))
   .rw[hnew]at hb;exact Or.inl (Hl.dw.1 hb)
  .rw[gq]at hj;cases hj;exact⟨⟨fun b o hb=>(by cases hb),trivial⟩,fun b hb=>(by cases hb)⟩
 .intro j j' s s' hne h1 h2 hj hj' ho;rcases h1 with rfl | rfl
  .rcases h2 with rfl | rfl
   .exact absurd rfl hne
   .rw[gq]at hj';cases hj';exact fun b ⟨_,y⟩=>by cases y
  .rw[gq]at hj;cases hj;exact fun b ⟨x,_⟩=>by cases x
theorem og {mem:Mem} {p:Nat} : ∀ {l:List CV} {y:E} {q:Nat} {r:bE},NJ mem p l=some (y,q,r)->mem[q]?=some r/\r.own=true/\q≠p
 | c::l,y,q,r,h=>by
  unfold NJ at h;split at h
  .rename_i y' q' r' hb;split at h
   .rename_i hc;cases h;cases hr:qb c with
    | none=>rw[hr]at hb;cases hb
    | some z =>
     rw[hr]at hb;simp only[abZ,aak]at hb;obtain⟨a,ha,e⟩:=hb;cases e;exact⟨bk ha,hc.1,hc.2⟩
   .exact og h
  .exact og h
theorem EH {o:Oper} {s:St} {x:X} (h:Bi P st o=some (s,x)) (hA:Rel S w0 J st a w):∃ J',ai st.nv J J'/\x.n=st.nv/\x.rel C J J'/\st.nv<=s.nv/\Rel S w0 J' s a w:=by
 unfold Bi at h;split at h
 .split at h
  .rename_i p k vers tags links hp;split at h
   .rename_i y q r hq;split at h
    .rename_i hu;cases h;have hp:=bk hp;obtain⟨h1,h2,h3⟩:=og hq;have hg:ai st.nv J (J.lu st.nv (((bE.hp k vers tags links).hl J).un (r.hl J))):=fe _ _ _ (aav _);refine⟨_,hg,rfl,⟨ga _ _ _,hA.bT p q _ _ h3.symm hp h1 rfl⟩,by show st.nv<=st.nv+1;omega,Rel.oH hg hu hA ?_ _⟩;exact hA.toMRel.Qe hp h1 h3 rfl h2 (Mem.bO hg (St.cY hu)) (ga _ _ _) trivial
    .cases h
   .cases h
  .cases h
 .cases h
theorem zf {o:Oper} {ms:Nat->Nat} {k:St->Option Nd} : ∀ (n:Nat) {st:St} {J:Env} {nd:Nd},Qf P o k n st=some nd->Rel S w0 J st a w->nd.holds C ms J->∃ J' s nd',ai st.nv J J'/\st.nv<=s.nv/\k s=some nd'/\Rel S w0 J' s a w/\nd'.holds C ms J'
 | 0,st,J,nd,h,hA,hn=>⟨J,st,nd,ai.refl _ _,aav _,h,hA,hn⟩
 | n+1,st,J,nd,h,hA,hn=>by
  unfold Qf at h;split at h
  .rename_i s x hm;simp only[aak]at h;obtain⟨nd1,h1,rfl⟩:=h;obtain⟨ρ1,g1,e1,r1,l1,A1⟩:=EH (C:=C) hm hA;have hn1:nd1.holds C ms ρ1:=hn ρ1 (by rw[e1];exact g1) r1;obtain⟨ρ2,s2,nd2,g2,l2,h2,A2,hn2⟩:=zf n h1 A1 hn1;exact⟨ρ2,s2,nd2,g1.trans (g2.mono l1),acy l1 l2,h2,A2,hn2⟩
  .exact⟨J,st,nd,ai.refl _ _,aav _,h,hA,hn⟩
theorem ml {ex:Ex} (hΓ:∀ s∈C.Γ,s.OK P) (hex:BZ P C ex) {d:Nat} {ms:Nat->Nat} {o:Oper} {k:St->Option Nd} {nd:Nd} (h:uf P C.Γ ex d o st k=some nd) (hA:Rel S w0 J st a w) (hn:nd.holds C ms J)
 {K:Act->World->Prop} {Q:Exit->Act->World->Prop} (hk:Mb S w0 C d ms st.nv J k K):o.wp P a w K Q:=by
 unfold uf at h;split at h
 .rename_i n v hq;obtain⟨hb,st',nd',hk',he,hA',hn'⟩:=wc h hA hn;refine fm (pW hA hq hb) (hk ms _ nd' J _ w (fun _ _=>rfl) hk' (ai.refl _ _) ?_ hn');exact Rel.put hA' _ _ _ (fun y hy=>by cases hy;rfl)
 .obtain⟨ρ1,s1,nd1,g1,l1,h1,hA1,hn1⟩:=zf 4 h hA hn;replace hk:=hk.fS (fun _ _=>rfl) g1 l1;clear h hn hA;rename_i hqq;clear hqq;revert h1;generalize s1=st1 at *;intro h;have hA:=hA1;have hn:=hn1;split at h
  .rename_i R hR;split at h
   .rename_i hnv;simp only[aak]at h;obtain⟨nd',hk',rfl⟩:=h;rw[fb]at hn;refine yt (Q:=Q) hΓ hA hR hn.1 (fun J' x w' hg hx hA'=>?_);refine hk ms _ nd' J' _ w' (fun _ _=>rfl) hk' hg hA' ?_;have hn2:=hn.2;cases hRx:R.x with
    | none=>rw[hRx]at hn2 hx;subst hx;exact hn2
    | some y =>
     rw[hRx]at hn2 hx;exact hn2 J' (by rw[hx.2];exact hg) hx.1
   .cases h
  .split at h
   .rename_i c args ats hop;split at h
    .rename_i f vs hc hx;split at h
     .rename_i hcond;simp only[aah]at hcond;refine J8 hop (px hA hc) hcond.1 (iI hA _ _ hx) ?_;refine rE hex h hA.toMRel hA.path hn fun ms' r st' nd' J' w' hms hk' hg hm hp hn'=>?_;split at hk'
      .rename_i hnv;refine hk ms' _ nd' J' _ w' hms hk' hg ?_ hn';have hAg:=hA.bO hg hcond.2;exact Rel.put (st:={st' with tmps:=st1.tmps}) ⟨hm,hAg.size,hAg.defers,hAg.tmp,hp⟩ _ _ _ (fun y hy=>by cases hy;rfl)
      .cases hk'
     .cases h
    .cases h
   .cases h;exact absurd hn (by simp [Nd.holds,c8])
   .cases h;exact absurd hn (by simp [Nd.holds,c8])
   .cases h
theorem rC {ex:Ex} (hΓ:∀ s∈C.Γ,s.OK P) (hex:BZ P C ex) {d:Nat} {ops:List Oper} {Q:Exit->Act->World->Prop} : ∀ (l:List Oper) (st:St) (k:St->Option Nd) (nd:Nd) (ms:Nat->Nat) (J:Env) (a:Act) (w:World),
 jl P C.Γ ex d ops l st k=some nd->Rel S w0 J st a w->nd.holds C ms J->Mb S w0 C d ms st.nv J k (Q .normal)->wpList P ops.toArray Q l a w
 | [],st,k,nd,ms,J,a,w,h,hA,hn,hk=>hk ms st nd J a w (fun _ _=>rfl) h (ai.refl _ _) hA hn
 | o::l,st,k,nd,ms,J,a,w,h,hA,hn,hk=>by
  have ih:=fun st k nd ms J a w=>rC (d:=d) (ops:=ops) (Q:=Q) hΓ hex l st k nd ms J a w;have one:∀ (st1:St) (nd1:Nd),st1.nv=st.nv->(uf P C.Γ ex d o st1 fun s=>if st.nv<=s.nv then jl P C.Γ ex d ops l s k else none)=some nd1->Rel S w0 J st1 a w->nd1.holds C ms J ->
   ∀ K:Act->World->Prop,(∀ a w,wpList P ops.toArray Q l a w->K a w)->o.wp P a w K Q:=by
   intro st1 nd1 hnv h1 hA1 hn1 K hK;refine ml hΓ hex h1 hA1 hn1 fun ms' st' nd' J' a' w' hms hk' hg hA' hn'=>hK _ _ ?_;simp only at hk';split at hk'
   .rename_i hle;refine ih st' k nd' ms' J' a' w' hk' hA' hn' ?_;rw[hnv]at hg;exact hk.fS hms hg hle
   .cases hk'
  have skip:∀ (st1:St) (nd1:Nd),st1.nv=st.nv->jl P C.Γ ex d ops l (st1.put o.dst (some Di)) k=some nd1->Rel S w0 J st1 a w->nd1.holds C ms J ->
   wpList P ops.toArray Q l (a.put o.dst undef) w:=by
   intro st1 nd1 hnv h1 hA1 hn1;refine ih _ k nd1 ms J _ w h1 (Rel.put hA1 _ _ _ (fun y hy=>by cases hy;rfl)) hn1 ?_;exact hk.fS (fun _ _=>rfl) (ai.refl _ _) (by rw[St.CW,hnv];exact aav _)
  refine wpList_step fun K hK=>?_;unfold jl at h;split at h
  .cases h
  .rename_i hg;rw[iA hA hg];simp only[BX,abM];exact one st nd rfl h hA hn K hK
  .rename_i e want hg;have hw:Region.wanted o (yielded ops.toArray a.tmps)=(bd J e==want):=iA hA hg;split at h
   .rename_i b hkn;have hbe:(bd J e==want)=(b==want):=by rw[fz hA.path hkn]
    rw[hw,hbe];split at h
    .rename_i hbw;rw[aax (by simpa using hbw)];exact one st nd rfl h hA hn K hK
    .rename_i hbw;rw[aal (by simpa using hbw)];exact hK _ _ (skip st nd rfl h hA hn)
   .simp only at h;split at h
    .rename_i x y h1 h2;cases h;rw[fb,iF,iF]at hn;have hy:bd J (if want then e else mkNot e)=(bd J e==want):=by
      cases want
      .simp [c9]
      .simp
     rw[hw];cases hb:(bd J e==want)with
     | true =>
      rw[aax rfl];rw[hb]at hy;exact one {st with path:=(if want then e else mkNot e)::st.path} x rfl h1 (hA.qJ hy) (hn.1 hy) K hK
     | false =>
      rw[aal aF];rw[hb]at hy;have hy':bd J (mkNot (if want then e else mkNot e))=true:=by rw[c9,hy];rfl
      exact hK _ _ (skip {st with path:=mkNot (if want then e else mkNot e)::st.path} y rfl h2 (hA.qJ hy') (hn.2 hy'))
    .cases h
end
def swapAt {α:Type} : Nat->List α->List α
 | 0,a::b::l=>b::a::l
 | i+1,a::l=>a::swapAt i l
 | _,l=>l
def sw (i p:Nat):Nat:=if p=i then i+1 else if p=i+1 then i else p
theorem Ua {i p q:Nat} (h:p≠q):sw i p≠sw i q:=by unfold sw;split<;>split<;>(try split)<;>(try split)<;>omega
theorem sD {α:Type} : ∀ {l:List α} {i p:Nat},i+1<l.length->(swapAt i l)[p]?=l[sw i p]?
 | a::b::l,0,p,_=>by
  match p with
  | 0=>rfl
  | 1=>rfl
  | p+2=>rfl
 | a::l,i+1,0,h=>rfl
 | a::l,i+1,p+1,h=>by
  show(swapAt i l)[p]?=_;rw[sD (by simpa using h)];have:sw (i+1) (p+1)=sw i p+1:=by unfold sw;split<;>split<;>(try split)<;>(try split)<;>omega
  rw[this,aa1]
 | [],_,_,h=>by simp at h
 | [_],0,_,h=>by simp at h
theorem sE {α:Type} {l:List α} {i:Nat} (hi:i+1<l.length) {x:α} (h:x∈swapAt i l):x∈l:=by
 obtain⟨p,hp⟩:=acR.1 h;rw[sD hi]at hp;exact aae hp
theorem Rel.swap {S:Nat->Prop} {w0:World} {J:Env} {st:St} {a:Act} {w:World} (h:Rel S w0 J st a w) {i:Nat} (hi:i+1<st.mem.length):Rel S w0 J {st with mem:=swapAt i st.mem} a w :=
 ⟨⟨h.fR,fun r hr=>h.sub r (sE hi hr),fun r hr=>h.own r (sE hi hr),fun p q r s hpq hp hq ho=>by
  have hp:(swapAt i st.mem)[p]?=some r:=hp;have hq:(swapAt i st.mem)[q]?=some s:=hq;rw[sD hi]at hp hq;exact h.bT _ _ r s (Ua hpq) hp hq ho,fun r hr=>h.pos r (sE hi hr)⟩,h.size,h.defers,h.tmp,h.path⟩
def Nx (n0:Nat) (h s:St):MA:=match WK n0 h s with
 | some r=>some r
 | none=>(List.range (s.mem.length-1)).findSome? fun i=>WK n0 h {s with mem:=swapAt i s.mem}
theorem se {n0:Nat} {S:Nat->Prop} {w0:World} {J:Env} {h s:St} {a:Act} {w:World} {A:List As} {hs:List (Nat×Option Nat)} (hm:Nx n0 h s=some (A,hs)) (hA:Rel S w0 J s a w):Rel S w0 (assign J A hs) h a w/\ai n0 J (assign J A hs)/\n0<=h.nv:=by
 unfold Nx at hm;split at hm
 .rename_i r hr;cases hm;exact Bf hr hA
 .obtain⟨i,hi,hm⟩:=List.exists_of_findSome?_eq_some hm;exact Bf hm (hA.swap (by have:=aaM.1 hi;omega))
structure DH where
 j:Nat
 slots:List (Nat×TV)
 mem:List (Nat×bE)
 nv:Nat
def AB:Code->List Nat
 | .region _ ops _=>ops.toList.filterMap (·.dst)
 | .seq a b=>AB a++AB b
 | .cond _ a b=>AB a++AB b
 | .block _ b=>AB b
 | .loop b=>AB b
 | .scope b=>AB b
 | _=>[]
def DH.head (L:DH) (ds:List Nat) (st:St):St where
 tmps:=pO (fun i v=>match L.slots.find? fun q=>q.1==i with
  | some q=>some q.2
  | none=>if ds.contains i then none else v) 0 st.tmps
 mem:=(List.range (max st.mem.length (L.mem.foldl (fun m q=>max m (q.1+1)) 0))).map fun p=>match L.mem.find? fun q=>q.1==p with
  | some q=>q.2
  | none=>st.mem.getD p .dead
 nv:=L.nv
 path:=st.path.filter (E.aL st.nv)
abbrev rm:=List Nat->Option DH
def Jf (ex:St->Mc->Option Nd):Nat->St->Mc->Option Nd
 | 0,_,_=>none
 | m+1,st,k=>ex st fun t s=>match t with
  | .norm=>if st.nv<=s.nv then Jf ex m s k else none
  | t=>k t s
def SN (st:St) (p:Nat):Option (St×X):=match st.mem[p]? with
 | some (.bw a l T)=>if st.aL st.nv=true then some ({st with mem:=st.mem.set p (.hp st.nv [] [.var a] []),nv:=st.nv+1},.L6 st.nv (.bw a l T))else none
 | _=>none
def Vg (k:St->Option Nd):List Nat->St->Option Nd
 | [],st=>k st
 | p::ps,st=>match SN st p with
  | some (s,x)=>(Vg k ps s).map (.ext x)
  | none=>Vg k ps st
def DH.Zl (L:DH):List Nat:=L.mem.filterMap fun q=>match q.2 with
 | .hp _ _ _ _=>some q.1
 | _=>none
abbrev Dk:=Ex->Nat->List Oper->St->(St->Option Nd)->Option Nd
def IS (P:Program) (Γ:List Spec) (dk:Dk) (Λ:rm) (lim:Nat) (ex:Ex):Ex:=fun d path c st k =>
 match c with
 | .skip=>k .norm st
 | .label _=>k .norm st
 | .exit i=>k (.exit i) st
 | .ret=>k .ret st
 | .region _ ops draw=>if draw then dk ex d ops.toList st (k .norm)else jl P Γ ex d ops.toList ops.toList st (k .norm)
 | .seq x y=>ex d (path++[0]) x st fun t s=>match t with
  | .norm=>if st.nv<=s.nv then ex d (path++[1]) y s k else none
  | t=>k t s
 | .cond c x y=>match cN st c with
  | some (.sv (.one (.bool e)))=>match known st.path e with
   | some true=>ex d (path++[0]) x st k
   | some false=>ex d (path++[1]) y st k
   | none=>match ex d (path++[0]) x {st with path:=e::st.path} k,ex d (path++[1]) y {st with path:=mkNot e::st.path} k with
    | some a,some b=>some (oS (wb e a) (wb (mkNot e) b))
    | _,_=>none
  | _=>none
 | .block id b=>ex d (path++[0]) b st fun t s=>k (if t=.exit id then .norm else t) s
 | .loop b=>match Λ path with
  | none=>Jf (fun st k=>ex d (path++[0]) b st k) lim st k
  | some L=>Vg (fun st =>
   let hd:=L.head (AB b) st
   match Nx st.nv hd st,ex (d+1) (path++[0]) b hd fun t s=>match t with
    | .norm=>(Nx st.nv hd s).map fun r=>.back d L.j r.1 r.2
    | t=>k t s with
   | some r,some nd=>some (oS (.inv L.j r.1 r.2) (.havoc d L.j st.nv nd))
   | _,_=>none) L.Zl st
 | _=>none
def exec (P:Program) (Γ:List Spec) (dk:Dk) (Λ:rm) (lim:Nat):Nat->Ex
 | 0=>fun _ _ _ _ _=>none
 | n+1=>fun d path c st k =>
  let ex:=exec P Γ dk Λ lim n
  if(Λ (99::99::path)).isSome=true then some (.e .ff)else
  match Λ (99::path)with
  | none=>IS P Γ dk Λ lim ex d path c st k
  | some L =>
   let hd:=L.head (AB c) st
   match IS P Γ dk Λ lim ex d path c st fun t s=>match t with
    | .norm=>(Nx st.nv hd s).map fun r=>.inv L.j r.1 r.2
    | t=>k t s,k .norm hd with
   | some a,some b=>some (oS a (.havoc d L.j st.nv b))
   | _,_=>none
def lp (p:List Nat):Bool:=decide (p.length>1)&&!(p.head?==some 99)
def cutAt (p:List Nat) (q:List Nat):Bool:=L3 p (99::q)
def Sv (p:List Nat) (q:List Nat):Bool:=L3 p (99::99::q)
def CV.xS:CV->List Nat
 | .hptr (.var a) _=>[a]
 | .sl (.var a) _ _ _=>[a]
 | .map (.var a)=>[a]
 | .pti a _ _ _ _=>[a]
 | _=>[]
def bE.xS:bE->List Nat
 | .bw _ l _=>l.flatMap CV.xS
 | _=>[]
def TV.xS:TV->List Nat
 | .sv v=>v.cells.flatMap CV.xS
 | .tup l=>l.flatMap fun v=>v.cells.flatMap CV.xS
def Hz (n0:Nat) (r:TV) (mem:Mem):Mem :=
 let used:=r.xS++mem.flatMap bE.xS
 pO (fun i x=>match x with
  | .bw a l T=>if decide (n0<=i)&&!used.contains a then .dead else .bw a l T
  | x=>x) 0 mem
theorem HC {n0:Nat} {r:TV} {mem:Mem} (p:Nat) (x:bE) (h:(Hz n0 r mem)[p]?=some x):mem[p]?=some x\/x=.dead:=by
 unfold Hz at h;simp only[oc,aak]at h;obtain⟨y,hy,h⟩:=h;split at h
 .split at h
  .exact Or.inr h.symm
  .subst h;exact Or.inl hy
 .subst h;exact Or.inl hy
def U6 (P:Program) (Γ:List Spec) (dk:Dk) (Λ:rm) (lim fuel:Nat) (f:FuncId) (args:List TV) (mem:Mem) (nv:Nat) (path:List E):Option Nd :=
 xp P (exec P Γ dk Λ lim fuel) 0 f args ⟨[],mem,nv,path⟩ fun r s=>some (.post (Hz mem.length r s.mem) r)
def Pe (P:Program) (C:Ctx) (dk:Dk):Prop:=∀ ex,BZ P C ex->∀ d ops st k nd ms S w0 J a w id (Q:Exit->Act->World->Prop),dk ex d ops st k=some nd->Rel S w0 J st a w->nd.holds C ms J ->
 Mb S w0 C d ms st.nv J k (Q .normal)->(Code.region id ops.toArray true).wp P Q a w
section
variable {P:Program} {C:Ctx} {S:Nat->Prop} {w0:World} {J J':Env} {st:St} {mem mem':Mem} {a:Act} {w w':World}
theorem vZ {c:Code} {d:Nat} {ex:St->Mc->Option Nd} {k:Mc} {Q:Exit->Act->World->Prop}
 (hex:∀ st k nd ms J a w (Q:Exit->Act->World->Prop),ex st k=some nd->Rel S w0 J st a w->nd.holds C ms J->(∀ t,Mb S w0 C d ms st.nv J (k t) (Q (yq t)))->c.wp P Q a w) :
 ∀ (m:Nat) (st:St) (nd:Nd) (ms:Nat->Nat) (J:Env) (a:Act) (w:World),Jf ex m st k=some nd->Rel S w0 J st a w->nd.holds C ms J->(∀ t,Mb S w0 C d ms st.nv J (k t) (Q (yq t)))->Code.rounds P c Q m a w
 | 0,st,nd,ms,J,a,w,h,_,_,_=>by cases h
 | m+1,st,nd,ms,J,a,w,h,hA,hn,hk=>by
  unfold Jf at h;refine hex st _ nd ms J a w _ h hA hn fun t=>?_;intro ms' st' nd' J' a' w' hms hk' hg hA' hn';cases t with
  | norm =>
   simp only at hk';split at hk'
   .rename_i hle;exact vZ hex m st' nd' ms' J' a' w' hk' hA' hn' fun t=>(hk t).fS hms hg hle
   .cases hk'
  | ret=>exact hk .ret ms' st' nd' J' a' w' hms hk' hg hA' hn'
  | exit i=>exact hk (.exit i) ms' st' nd' J' a' w' hms hk' hg hA' hn'
theorem MRel.L6 (h:MRel S w0 J mem w) {p a n:Nat} {l:List CV} {T:TypeId} {tags:List E} (hp:mem[p]?=some (.bw a l T)) (hag:∀ s∈mem,s.same J J') (hnew:J'.h n=(bE.bw a l T).hl J):MRel S w0 J' (mem.set p (.hp n [] tags [])) w:=by
 refine h.map fun j t hj=>?_;by_cases e:p=j
 .subst e;rw[abn (aai.1 hp).1]at hj;cases hj;exact Or.inl ⟨_,hp,hnew,fun _=>rfl,fun _=>trivial⟩
 .rw[abg e]at hj;obtain⟨h1,h2⟩:=hag t (aae hj);exact Or.inl ⟨t,hj,h1,id,h2⟩
theorem GK {s:St} {x:X} {p:Nat} (h:SN st p=some (s,x)) (hA:Rel S w0 J st a w):∃ J',ai st.nv J J'/\x.n=st.nv/\x.rel C J J'/\st.nv<=s.nv/\Rel S w0 J' s a w:=by
 unfold SN at h;split at h
 .rename_i a' l T hp;split at h
  .rename_i hu;cases h;have hg:ai st.nv J (J.lu st.nv ((bE.bw a' l T).hl J)):=fe _ _ _ (aav _);refine⟨_,hg,rfl,ga _ _ _,by show st.nv<=st.nv+1;omega,Rel.oH hg hu hA ?_ _⟩;exact hA.toMRel.L6 hp (Mem.bO hg (St.cY hu)) (ga _ _ _)
  .cases h
 .cases h
theorem uC {ms:Nat->Nat} {k:St->Option Nd} : ∀ (ps:List Nat) {st:St} {J:Env} {nd:Nd},Vg k ps st=some nd->Rel S w0 J st a w->nd.holds C ms J->∃ J' s nd',ai st.nv J J'/\st.nv<=s.nv/\k s=some nd'/\Rel S w0 J' s a w/\nd'.holds C ms J'
 | [],st,J,nd,h,hA,hn=>⟨J,st,nd,ai.refl _ _,aav _,h,hA,hn⟩
 | p::ps,st,J,nd,h,hA,hn=>by
  unfold Vg at h;split at h
  .rename_i s x hm;simp only[aak]at h;obtain⟨nd1,h1,rfl⟩:=h;obtain⟨ρ1,g1,e1,r1,l1,A1⟩:=GK (C:=C) hm hA;have hn1:nd1.holds C ms ρ1:=hn ρ1 (by rw[e1];exact g1) r1;obtain⟨ρ2,s2,nd2,g2,l2,h2,A2,hn2⟩:=uC ps h1 A1 hn1;exact⟨ρ2,s2,nd2,g1.trans (g2.mono l1),acy l1 l2,h2,A2,hn2⟩
  .exact uC ps h hA hn
theorem MM {dk:Dk} (hΓ:∀ s∈C.Γ,s.OK P) (jY:Pe P C dk) (Λ:rm) (lim:Nat) {ex:Ex} (ih:BZ P C ex):BZ P C (IS P C.Γ dk Λ lim ex):=fun d path c st k nd ms S w0 J a w Q h hA hn hk=>by
 unfold IS at h;simp only at h;have self:∀ t,k t st=some nd->Q (yq t) a w:=fun t h=>hk t ms st nd J a w (fun _ _=>rfl) h (ai.refl _ _) hA hn;split at h
 .exact wp_skip (self .norm h)
 .exact wp_label (self .norm h)
 .exact wp_exit (self (.exit _) h)
 .exact wp_ret (self .ret h)
 .rename_i id ops draw;split at h
  .rename_i hd;subst hd;have:=jY _ ih d ops.toList st (k .norm) nd ms S w0 J a w id Q h hA hn (hk .norm);simpa using this
  .rename_i hd;have hd:draw=false:=by simpa using hd
   subst hd;have:=rC (Q:=Q) hΓ ih ops.toList st (k .norm) nd ms J a w h hA hn (hk .norm);exact wp_region_list (by simpa using this)
 .rename_i x y;refine wp_seq (ih d _ x st _ nd ms S w0 J a w _ h hA hn fun t=>?_);intro ms' st' nd' J' a' w' hms hk' hg hA' hn';cases t with
  | norm =>
   simp only at hk';split at hk'
   .rename_i hle;exact ih d _ y st' k nd' ms' S w0 J' a' w' Q hk' hA' hn' fun t=>(hk t).fS hms hg hle
   .cases hk'
  | ret=>exact hk .ret ms' st' nd' J' a' w' hms hk' hg hA' hn'
  | exit i=>exact hk (.exit i) ms' st' nd' J' a' w' hms hk' hg hA' hn'
 .rename_i c x y;split at h
  .rename_i e hc;have hce:=aH hA hc;simp only[TV.ev,SV.ev,CV.ev]at hce;split at h
   .rename_i hkn;exact wp_cond_true (by rw[hce,fz hA.path hkn]) (ih d _ x st k nd ms S w0 J a w Q h hA hn hk)
   .rename_i hkn;exact wp_cond_false (by rw[hce,fz hA.path hkn]) (ih d _ y st k nd ms S w0 J a w Q h hA hn hk)
   .split at h
    .rename_i n1 n2 h1 h2;cases h;rw[fb,iF,iF]at hn;refine wp_cond_split hce (fun ht=>?_) (fun hf=>?_)
     .exact ih d _ x {st with path:=e::st.path} k n1 ms S w0 J a w Q h1 (hA.qJ ht) (hn.1 ht) hk
     .have ht:bd J (mkNot e)=true:=by rw[c9,hf];rfl
      exact ih d _ y {st with path:=mkNot e::st.path} k n2 ms S w0 J a w Q h2 (hA.qJ ht) (hn.2 ht) hk
    .cases h
  .cases h
 .rename_i id b;refine wp_block (ih d _ b st _ nd ms S w0 J a w _ h hA hn fun t=>?_);intro ms' st' nd' J' a' w' hms hk' hg hA' hn';cases t with
  | norm=>exact hk .norm ms' st' nd' J' a' w' hms (by simpa using hk') hg hA' hn'
  | ret=>exact hk .ret ms' st' nd' J' a' w' hms (by simpa using hk') hg hA' hn'
  | exit i =>
   simp only[yq,Exit.inBlock];split
   .rename_i e;subst e;exact hk .norm ms' st' nd' J' a' w' hms (by simpa using hk') hg hA' hn'
   .rename_i e;exact hk (.exit i) ms' st' nd' J' a' w' hms (by simpa [e] using hk') hg hA' hn'
 .rename_i b;split at h
  .refine wp_loop_rounds lim (vZ (d:=d) (fun st k nd ms J a w Q h hA hn hk=>ih d _ b st k nd ms S w0 J a w Q h hA hn hk) lim st nd ms J a w h hA hn hk)
  .rename_i L hL;obtain⟨ρ1,st1,nd1,g1,l1,h,A1,hn⟩:=uC L.Zl h hA hn;have hk:=fun t=>(hk t).fS (fun _ _=>rfl) g1 l1;clear hA self;clear g1;have hA:=A1;clear A1 l1;revert h hn hk hA;generalize ρ1=J;generalize st1=st;generalize nd1=nd;intro h hn hk hA;split at h
   .rename_i r nb hr hb;cases h;rw[fb]at hn;obtain⟨hinv,hhav⟩:=hn;obtain⟨hA1,GJ,hle⟩:=se (A:=r.1) (hs:=r.2) hr hA;have key:∀ (m:Nat) (ρ1:Env) (a1:Act) (w1:World),ai st.nv J ρ1->C.inv L.j ρ1->Rel S w0 ρ1 (L.head (AB b) st) a1 w1->C.mu L.j ρ1<=m->Code.rounds P b Q (m+1) a1 w1:=by
     intro m
     induction m with
     | zero =>
      intro ρ1 a1 w1 hg hi hA1 hm;refine ih (d+1) _ b _ _ nb _ S w0 ρ1 a1 w1 _ hb hA1 (hhav ρ1 hg hi) fun t=>?_;intro ms' st' nd' J' a' w' hms hk' hg' hA' hn';have uB:ai st.nv ρ1 J':=hg'.mono hle;have hms':∀ i,i<d->ms' i=ms i:=fun i hi=>by
       have:=hms i ah;rw[this];exact aal ah
      cases t with
      | norm =>
       simp only[aak]at hk';obtain⟨q,hq,rfl⟩:=hk';have hmu:=hn'.2;have:ms' d=C.mu L.j ρ1:=by have:=hms d ah;rw[this];exact aax rfl
       omega
      | ret=>exact hk .ret ms' st' nd' J' a' w' hms' hk' (hg.trans uB) hA' hn'
      | exit i=>exact hk (.exit i) ms' st' nd' J' a' w' hms' hk' (hg.trans uB) hA' hn'
     | succ m ihm =>
      intro ρ1 a1 w1 hg hi hA1 hm;refine ih (d+1) _ b _ _ nb _ S w0 ρ1 a1 w1 _ hb hA1 (hhav ρ1 hg hi) fun t=>?_;intro ms' st' nd' J' a' w' hms hk' hg' hA' hn';have uB:ai st.nv ρ1 J':=hg'.mono hle;have hms':∀ i,i<d->ms' i=ms i:=fun i hi=>by
       have:=hms i ah;rw[this];exact aal ah
      cases t with
      | norm =>
       simp only[aak]at hk';obtain⟨q,hq,rfl⟩:=hk';obtain⟨hi',hmu⟩:=hn';have:ms' d=C.mu L.j ρ1:=by have:=hms d ah;rw[this];exact aax rfl
       obtain⟨hA2,SK,_⟩:=se (A:=q.1) (hs:=q.2) hq hA';exact ihm _ a' w' ((hg.trans uB).trans SK) hi' hA2 ah
      | ret=>exact hk .ret ms' st' nd' J' a' w' hms' hk' (hg.trans uB) hA' hn'
      | exit i=>exact hk (.exit i) ms' st' nd' J' a' w' hms' hk' (hg.trans uB) hA' hn'
    exact wp_loop_rounds _ (key _ _ a w GJ hinv hA1 (aav _))
   .cases h
 .cases h
theorem IT {dk:Dk} (hΓ:∀ s∈C.Γ,s.OK P) (jY:Pe P C dk) (Λ:rm) (lim:Nat):∀ n,BZ P C (exec P C.Γ dk Λ lim n)
 | 0=>fun d path c st k nd ms S w0 J a w Q h=>by cases h
 | n+1=>fun d path c st k nd ms S w0 J a w Q h hA hn hk=>by
  have ih:=MM hΓ jY Λ lim (IT hΓ jY Λ lim n);unfold exec at h;simp only at h;split at h
  .cases h;exact nomatch (show false=true from hn)
  split at h
  .exact ih d path c st k nd ms S w0 J a w Q h hA hn hk
  .rename_i L hL;split at h
   .rename_i na nb ha hb;cases h;rw[fb]at hn;obtain⟨hna,hhav⟩:=hn;refine ih d path c st _ na ms S w0 J a w Q ha hA hna fun t=>?_;intro ms' st' nd' J' a' w' hms hk' hg hA' hn';cases t with
    | norm =>
     simp only[aak]at hk';obtain⟨q,hq,rfl⟩:=hk';obtain⟨hA2,uB,hle⟩:=se (A:=q.1) (hs:=q.2) hq hA';have SK:ai st.nv J (assign J' q.1 q.2):=hg.trans uB;exact hk .norm _ _ nb (assign J' q.1 q.2) a' w' (fun i hi=>aal ah) hb SK hA2 (hhav _ SK hn')
    | ret=>exact hk .ret ms' st' nd' J' a' w' hms hk' hg hA' hn'
    | exit i=>exact hk (.exit i) ms' st' nd' J' a' w' hms hk' hg hA' hn'
   .cases h
theorem yD {dk:Dk} (hΓ:∀ s∈C.Γ,s.OK P) (jY:Pe P C dk) {Λ:rm} {lim fuel:Nat} {f:FuncId} {args:List TV} {nv:Nat} {path:List E} {nd:Nd} {ms:Nat->Nat} (h:U6 P C.Γ dk Λ lim fuel f args mem nv path=some nd)
 (hm:MRel S w0 J mem w) (hp:Path J path) (hn:nd.holds C ms J) :
 Calls P f (args.map (TV.ev J)).toArray w fun e w'=>∃ J' mem' r,e=.returned (r.ev J')/\ai nv J J'/\MRel S w0 J' mem' w'/\C.post J' mem' r:=by
 have:=rE (st:=⟨[],mem,nv,path⟩) (IT hΓ jY Λ lim fuel) h hm hp hn (R:=fun v w'=>∃ J' mem' r,v=r.ev J'/\ai nv J J'/\MRel S w0 J' mem' w'/\C.post J' mem' r)
  (fun ms' r st' nd' J' w' _ hk' hg hm' _ hn'=>by cases hk';exact⟨J',_,r,rfl,hg,hm'.sublist HC,hn'⟩)
 refine this.mono fun e w' ⟨v,he,J',mem',r,hv,hg,hm',hp'⟩=>⟨J',mem',r,by rw[he,hv],hg,hm',hp'⟩
end
end Go.Sx
