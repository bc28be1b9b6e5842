/- RelayOpens. -/
import Derived.ProofKit
import Derived.OpenShut
import Derived.Deep.Slices
import Derived.ChangeSame
import Derived.Test.YtomdimlnggpgbaaGreatDoorCards
import Derived.LaidMore
import Derived.LaidHandle
import Derived.Stop.Joined
import Derived.Stop.LaidErr
import Derived.LaidSub
import Derived.Test.YtomdimlnggpgbaaGreatDoorTN
set_option linter.all false
set_option maxHeartbeats 4000000
namespace Go.Proofs.YtomdimlnggpgbaaGreatDoor
open Go Go.Sx Go.Pk
open Go.Proofs.YtomdimlnggpgbaaGreatDoor.D hiding aM aC fI
theorem TK (T:Hl) {H:Hl} {x:Nat} (h:H x=some (.cells #[.slice none 0 0,.slice none 0 0,.slice none 0 0,.slice none 0 0,.slice none 0 0,.slice none 0 0] 57 (0,0))):jW H T x (fun _=>[]) :=
 ⟨fun _=>.slice none 0 0,Hl.none,h,fun i _=>⟨[],sH.nil _ _ _,rfl,fun j row p hr=>by simp at hr⟩,fun b o hb=>(by cases hb),fun hm=>(by cases hm),fun i b _ hb=>(by cases hb),fun i _ p hp=>(by cases hp)⟩
theorem rV.mono {R R':Hl} (hl:R.le R') {p:Value} {st:Nat->List Pc} (h:rV R p st):rV R' p st:=by
 obtain⟨r,ps,x,hp,hb,hI⟩:=h;exact⟨r,ps,x,hp,hl _ _ hb,hI.mono hl⟩
theorem Good.put {st:Nat->List Pc} {p:Pc} (h:Good st) (hb:ak p.b/\p.b.length<=1000000):Good (cP st p):=by
 unfold cP;split
 .intro i hi q hq;unfold vl at hq;split at hq
  .rename_i e;rcases aaR.1 hq with h1 | h1
   .exact h _ (e▸hi) q h1
   .rw[aam]at h1;rw[h1];exact hb
  .exact h i hi q hq
 .exact h
theorem SP.W9 {D:DM} {S:SM} {n:Nat} {g:Int} {K:Nat} (h:SP D S n g K) {r:List Int} (hb:ak r) (hK:K<1000000) (h0:(cf D S [r]).e=0) :
 r.length<=4096/\(cf D S [r]).S.recs=S.recs++[r]/\Nonempty (SP (cf D S [r]).D (cf D S [r]).S n g (K+1)):=by
 have hk:ir [r]:=abi fun hk=>by
  unfold cf at h0;rw[aal (by rw[h.ov];simp),aax hk]at h0;cases h0
 have hr:((bS [r]).length:Int)<=64*((n:Int)-2)-S.bA.length:=abi fun hr=>by
  unfold cf at h0;rw[aal (by rw[h.ov];simp),aal (fun x=>x hk),aal aF,aax (by rw[h.eA];show(64*((n:Int)-2)-S.bA.length:Int)<_;omega)]at h0;cases h0
 exact⟨hk r aF,(h.add hk hr (fun x hx=>by rw[aam.1 hx];exact hb) hK).2⟩
theorem zB:∀ {l:List (List Int)},(∀ r∈l,r.length<=4096)->(bS l).length<=4098*l.length
 | [],_=>aa6 _
 | r::l,h=>by
  have h1:=jG (h r aF);have h2:=h r aF;have h3:=zB (l:=l) fun s hs=>h s (by simp [hs]);rw[zA,aac,aaO];omega
theorem Tx {R1 R2:Hl} {row:List Value} {p:Pc} (hx:fM R1 R2 row p) (hF:p.h.Form) (hl:p.b.length<=4096):mJ (fF p) p:=by
 have e:bf p.h=rD p.h:=by unfold bf;rw[aax hF]
 have h1:=CA hx.hd;have e1:aW (fF p) false 4096=(rD p.h,aI p.b,false):=by
  have:=Ds (r:=bf p.h) (rest:=aI p.b) ah;rw[<-e];exact this
 have e2:aW (aI p.b) false 4096=(p.b,[],false):=by
  have:=Ds (r:=p.b) (rest:=[]) hl;rwa[aa8]at this
 exact⟨hF,by rw[e1],by rw[e1];show(aW (aI p.b) false 4096).2=_;rw[e2],by rw[e1];show _=(aW (aI p.b) false 4096).1;rw[e2],_,_,_,hx⟩
theorem wA {dp:Value} {H RG:Hl} {D:DM} (hD:aE H dp D) {v:Value} {K F:Hl} (h:qM.post [dp] [H] [RG] v [K] F):aE K dp D/\((∃ pv st,v=.tuple #[pv,.int .i64 0]/\Ld (bY D).recs st/\fK F pv dp (bY D) st)\/((∀ st,¬Ld (bY D).recs st)/\v=.tuple #[.pointer none,.int .i64 2])):=by
 obtain⟨dp',H',D',RG',H2,e1,e2,e4,d1,e3,d2,h⟩:=h;simp only[aaf,aat]at e1 e2 e3;subst e1 e2 e3;obtain rfl:=hD.uniq d1;exact⟨d2,h⟩
structure DD (T:Hl) (dp sp:Value) (x:Nat) (HD HS HX:Hl) (k:Nat) (good:Bool) (D:DM) (S:SM) (st:Nat->List Pc):Prop where
 dk:aE HD dp D
 so:gw HS sp dp S
 sp:∃ g K,Nonempty (SP D S 500 g K)/\K<=k
 rl:S.recs.length<=k
 rb:∀ r∈S.recs,r.length<=4096/\ak r
 rf:jW HX T x st
 ln:∀ i,i<6->(st i).length<=k
 gd:Good st
 ld:good=true->Ld S.recs st
 no:good=false->∀ st',¬Ld S.recs st'
section
variable {T HD HS HX:Hl} {dp sp:Value} {x k:Nat} {good:Bool} {D:DM} {S:SM} {st:Nat->List Pc}
theorem DD.short (h:DD T dp sp x HD HS HX k good D S st) (hk:k<=100):mK st:=fun i hi=>by have:=h.ln i hi;omega
theorem DD.pre (h:DD T dp sp x HD HS HX k good D S st) (hk:k<=100):S.bA.length<=1048576/\0<=S.LA.serial/\S.recs.length<=1000000000:=by
 obtain⟨g,K,⟨hP⟩,hK⟩:=h.sp;have h1:=zB fun r hr=>(h.rb r hr).1;have h2:=h.rl;refine⟨by rw[hP.pk];omega,by rw[hP.eA];exact ab2 _,ah⟩
theorem DD.open (h:DD T dp sp x HD HS HX k good D S st) (hk:k<=100):fx D=0/\bY D=S/\ak (kU D)/\ak (gU D):=by
 obtain⟨g,K,⟨hP⟩,hK⟩:=h.sp;exact hP.open
theorem DD.more (h:DD T dp sp x HD HS HX k good D S st) {k':Nat} (hk:k<=k') {HD':Hl} (d:aE HD' dp D):DD T dp sp x HD' HS HX k' good D S st:=by
 obtain⟨g,K,hP,hK⟩:=h.sp;exact⟨d,h.so,⟨g,K,hP,ah⟩,by have:=h.rl;omega,h.rb,h.rf,(fun i hi=>by have:=h.ln i hi;omega),h.gd,h.ld,h.no⟩
theorem DD.add (h:DD T dp sp x HD HS HX k good D S st) (hk:k<=100) {r:List Int} (hb:ak r) (h0:(cf D S [r]).e=0) {HD' HS' HX':Hl} (d:aE HD' dp (cf D S [r]).D) (s:gw HS' sp dp (cf D S [r]).S) {good':Bool} {st':Nat->List Pc} (hX:jW HX' T x st')
 (hl:∀ i,i<6->(st' i).length<=(st i).length+1) (hg:Good st') (hy:good'=true->good=true/\∃ c,mJ r c/\br st c=0/\st'=cP st c) (hn:good'=false->good=true->∀ c,mJ r c->br st c≠0):DD T dp sp x HD' HS' HX' (k+1) good' (cf D S [r]).D (cf D S [r]).S st':=by
 obtain⟨g,K,⟨hP⟩,hK⟩:=h.sp;obtain⟨h1,h2,h3⟩:=hP.W9 hb ah h0;refine⟨d,s,⟨g,K+1,h3,ah⟩,?_,fun r' hr'=>?_,hX,fun i hi=>?_,hg,fun e=>?_,fun e st2 h2'=>?_⟩
 .rw[h2,aac,aay];have:=h.rl;omega
 .rw[h2]at hr';rcases aaR.1 hr' with hr' | hr'
  .exact h.rb r' hr'
  .rw[aam.1 hr'];exact⟨h1,hb⟩
 .have:=h.ln i hi;have:=hl i hi;omega
 .obtain⟨e1,c,e2,e3,rfl⟩:=hy e;rw[h2];exact(h.ld e1).put e2 e3
 .rw[h2]at h2';obtain⟨st0,c,k1,k2,k3,_⟩:=Ld.snoc h2';cases hgd:good with
  | false=>exact h.no hgd _ k1
  | true =>
   rw[k1.uniq (h.ld hgd)]at k3;exact hn e hgd c k2 k3
end
set_option maxRecDepth 20000 in
theorem Oq:JJ.OK Tryz.prog:=by
 refine Spec.aT (Γ:=Qp) Qq ?_;rintro xs Hs Rs hl1 hl2 ⟨v,v2,T,RG,g,rows,us,raws,rfl,rfl,hR,hP,hRaw,hG,hK⟩;have e0:Hs=[]:=aad.1 hl1;subst e0;obtain⟨x,y,c,rfl,hy,hRR⟩:=id hR;obtain⟨x2,y2,c2,rfl,hy2,hul,hcell,hraw,hcap,hbyte⟩:=hRaw;refine⟨RH,aM [x,y,rows.length,c,x2,y2,us.length,c2] false [Hl.none,Hl.none,Hl.none,Hl.none,Hl.none,Hl.none,Hl.none,Hl.none,T,RG],
  fun j q=>if j=0 then ∃ (k z:Nat) (D:DM) (S:SM) (st:Nat->List Pc),q.i 69=k/\k<=rows.length/\q.i 17=z/\DD T (.pointer (az (q.i 12) (q.i 13))) (.pointer (az (q.i 14) (q.i 15))) z (q.h 60) (q.h 61) (q.h 62) k true D S st
   else ∃ (k z:Nat) (D:DM) (S:SM) (st:Nat->List Pc),q.i 88=k/\k<=us.length/\q.i 17=z/\DD T (.pointer (az (q.i 12) (q.i 13))) (.pointer (az (q.i 14) (q.i 15))) z (q.h 80) (q.h 81) (q.h 82) (8+k) (q.b 89) D S st,
  fun j q=>if j=0 then(rows.length-q.i 69).toNat else(us.length-q.i 88).toNat,?_,cQ (by intro r hr;simp [RH]at hr;rcases hr with rfl | rfl<;>exact⟨_,_,_,rfl⟩) rfl,(fun _ h=>nomatch h),?_⟩
 .show [Value.slice (az x y) ((rows.length:Int)).toNat ((c:Int)).toNat,Value.slice (az x2 y2) ((us.length:Int)).toNat ((c2:Int)).toNat]=_;simp only[aaa]
 refine aG.read [iT] [rI] [] ?_;generalize hρ:aM [x,y,rows.length,c,x2,y2,us.length,c2] false [Hl.none,Hl.none,Hl.none,Hl.none,Hl.none,Hl.none,Hl.none,Hl.none,T,RG]=J;have V:∀ q:Env,ai 10 J q->(q.i 0=x/\q.i 1=y/\q.i 2=rows.length/\q.i 3=c)/\(q.i 4=x2/\q.i 5=y2/\q.i 6=us.length)/\q.h 8=T/\q.h 9=RG:=fun q g=>by
  rw[g.i 0,g.i 1,g.i 2,g.i 3,g.i 4,g.i 5,g.i 6,g.h 8,g.h 9,<-hρ];exact⟨⟨rfl,rfl,rfl,rfl⟩,⟨rfl,rfl,rfl⟩,rfl,rfl⟩
 clear hρ;simp only[go_sem,Nat.reduceAdd,Qp,Tj,Tk,Tl,Tm,Tn,To,Tp,Tq,Tr,Ts,Ql,ac2,abK];have aw:∀ {q:Env},ai 10 J q->pf.pre [] [] [q.h 9,q.h 8]:=fun hg=>⟨RG,T,g,rfl,by rw[(V _ hg).2.2.1,(V _ hg).2.2.2],hG,hK⟩;have out:∀ {q:Env} {mem:Mem} {e:E},bd q e=true->postOf JJ [.slice (az x y) rows.length c,.slice (az x2 y2) us.length c2] [] [T,RG] q mem (.sv (.one (.bool e))):=fun h=>tP rfl (by show Value.bool _=_;rw[h]);have tt:∀ {q:Env} {mem:Mem},postOf JJ [.slice (az x y) rows.length c,.slice (az x2 y2) us.length c2] [] [T,RG] q mem (.sv (.one (.bool .tt))):=out rfl;refine⟨aw (ai.refl _ _),fun q1 g1 ⟨_,p1,_,_⟩=>⟨fun _=>?_,fun h=>absurd (Value.bool.inj p1) h⟩⟩;obtain⟨⟨v0,v1,v2,v3⟩,⟨v4,v5,v6⟩,w8,w9⟩:=V q1 g1;rw[v0,v1,v2,v3,w8,aaa,aaa];refine⟨⟨_,8,T,rows,rfl,rfl,hR,aB⟩,fun q2 g2 ⟨_,p2,_,_⟩=>?_⟩;obtain⟨zz,hz,hz2⟩:=p2 _ _ _ _ rfl rfl hR;have hz:q2.b 11=zz:=Value.bool.inj hz;have G2:ai 10 J q2:=g1.tr g2;obtain⟨⟨v0,v1,v2,v3⟩,⟨v4,v5,v6⟩,w8,w9⟩:=V q2 G2;refine⟨fun h11=>⟨ah,fun _=>⟨aw G2,fun q3 _ ⟨_,p3,_,_⟩=>out (Value.bool.inj p3)⟩,fun h8=>?_⟩,fun _=>⟨aw G2,fun q3 _ ⟨_,p3,_,_⟩=>out (Value.bool.inj p3)⟩⟩;rw[hz]at h11;obtain⟨hl8,hrows⟩:=hz2 h11;have hu8:us.length<=8:=ah;have hNew:=SP.new (m:=1000) ⟨ah,ah⟩;have newP:∀ {v:Value} {F:Hl},Hg.post [.int .i64 1000] [] [] v [] F->aE F v (fH 1000):=by
  rintro v F ⟨m,em,hD⟩;simp only[aaf,Value.int.injEq,aaV,aat]at em;subst em;exact hD
 have hLo:ak (kU (fH 1000))/\ak (gU (fH 1000)):=by
  obtain⟨⟨hP⟩,_⟩:=hNew;exact hP.open.2.2
 generalize fH 1000=D0 at hNew newP hLo;obtain⟨hSP,sI,hE0⟩:=hNew;have hSP:Nonempty (SP D0 (bY D0) 500 0 0):=hSP;refine⟨⟨1000,rfl⟩,fun q3 g3 ⟨F3,p3,hF3,_⟩=>?_⟩;have hD3:=newP p3;rw[<-hF3 (by simp [aJ,Cp.roots,Ck.root])]at hD3;refine⟨⟨_,_,_,rfl,rfl,hD3,hLo.1,hLo.2⟩,fun q4 g4 ⟨F4,p4,hF4,hn4⟩=>?_⟩;obtain⟨pv,hD4,hv4,hS4,_⟩:=sz hD3 p4;simp only[Value.tuple.injEq,aaJ,aaf,Value.int.injEq,aaV,aat]at hv4;obtain⟨rfl,e16⟩:=hv4;have hS4:=hS4 hE0;rw[<-hF4 (by simp [aJ,Cp.roots,Ck.root])]at hS4;refine⟨fun h=>absurd (e16.trans hE0) h,fun _ q5 g5 n5 q6 g6 h18=>?_⟩;have A46:ai 17 q4 q6:=g5.tr g6;have e17:q6.i 17=q5.i 17:=g6.i 17;refine⟨⟨0,(q5.i 17).toNat,D0,bY D0,fun _=>[],rfl,aa6 _,by show q6.i 17=_;omega,⟨?_,?_,⟨0,0,hSP,aav _⟩,by rw[sI];exact aav _,(fun r hr=>by rw[sI]at hr;cases hr),?_,(fun _ _=>aav _),(fun _ _ _ h=>by cases h),(fun _=>by rw[sI];exact Ld.nil),(fun h=>by cases h)⟩⟩,fun q7 g7 ⟨k,z,D,S,st,ek,hk,ez,hI⟩=>?_⟩
 .show aE (q6.h 14) (.pointer (az (q6.i 12) (q6.i 13))) _;rw[A46.h 14,A46.i 12,A46.i 13,g4.i 12,g4.i 13];exact hD4
 .show gw (q6.h 15) (.pointer (az (q6.i 14) (q6.i 15))) (.pointer (az (q6.i 12) (q6.i 13))) _;rw[A46.h 15,A46.i 12,A46.i 13,A46.i 14,A46.i 15,g4.i 12,g4.i 13];exact hS4
 .show jW (q6.h 18) _ _ _;rw[h18];exact TK T (Hl.aX _ _)
 have G7:ai 10 J q7:=G2.trans (g3.mono.trans (g4.mono.trans (A46.mono |>.tr g7)));obtain⟨⟨v0,v1,v2,v3⟩,⟨v4,v5,v6⟩,w8,w9⟩:=V q7 G7;generalize hdp:Value.pointer (az (q7.i 12) (q7.i 13))=dp at hI;generalize hsp:Value.pointer (az (q7.i 14) (q7.i 15))=sp at hI;rw[v2,ek];refine⟨ah,fun hlt=>?_,fun hge=>?_⟩
 .have qW:k<rows.length:=ah;obtain⟨sv,KB,hXD⟩:=id hI.rf;obtain⟨cS,csl,cl,cs⟩:=hXD.sl (i:=0) ah;obtain⟨rws,ho,hrl,hrp⟩:=hXD.row 0 ah;have hl0:=hI.ln 0 ah;have hAll:Wn (q7.h 62) T (rws.map (List.take 125)) (lD st 0):=by
   have hlen:(rws.map (List.take 125)).length=(lD st 0).length:=by unfold lD;rw[aaB,aaB,hrl]
   refine⟨hlen,fun U a b=>⟨hlen,fun j r h hr hh=>?_⟩⟩;unfold lD at hh;rw[aao]at hr hh;obtain⟨r0,sI,rfl⟩:=aak.1 hr;obtain⟨p0,hp0,rfl⟩:=aak.1 hh;exact((hrp j r0 p0 sI hp0).2 U b fun b' o hb=>a b' o (hXD.kb b' o hb)).hd
  have hrk:rows[k]?=some rows[k]:=aab qW;have hmem:rows[k]∈rows:=abt qW;obtain⟨p,hp⟩:=hP _ hmem (hrows _ hmem).1 (hrows _ hmem).2;generalize rows[k]=row at hrk hp;rcases hRR with h0 | ⟨hx0,hRR⟩
  .rw[h0]at qW;simp at qW
  obtain⟨hok,hcl⟩:=hRR k row hrk;have hc:∀ i u,row[i]?=some u->T.cell x.toNat ((y+(k:Int)*126).toNat+i)=some u:=fun i u hu=>by
   have:=hcl i u hu;rw[mj]at this;rw[show(y+(k:Int)*126).toNat=y.toNat+k*126 by omega];exact this
  have cS':(q7.h 62).cell ((z:Int)).toNat (Int.toNat 0)=some (sv 0):=by rw[aaa];exact cS
  have eR:(ba 8 (E.var 0) ((E.var 1).add ((E.var 69).mul (E.lit 126))) 0 rI).map (CV.ev q7)=row:=fC row rI 0 hok fun i u hu=>by
   rw[al,bL,cJ,al,al,aq,v0,v1,ek,w8,aaP];exact hc i u hu
  rw[eR,w8,w9,v0,v1,ez,cS',gh csl];refine⟨ah,cs,hx0,hy,ah,lj _ hok hc,⟨sv 0,_,row,_,T,RG,rws,lD st 0,p,rfl,rfl,ho.rd,hAll,ah,ah,hp,hK⟩,fun q8 g8 ⟨F8,⟨row',er,hpo⟩,hF8,_⟩ q9 g9 _ q10 g10 ⟨h203,hdis⟩=>?_⟩;have hx:=hpo _ _ _ _ _ _ _ _ _ rfl rfl ho.rd hAll hp;have er:=aaI (Value.agg.inj er);rw[Jt]at er;rw[<-hF8 aB]at hx;have hb80:(jM (lD st 0) 1 p).b.length=80:=aa5;generalize jM (lD st 0) 1 p=P at hx hb80;have hpr:∀ q,ai 202 q8 q->(ar 70 iT).map (CV.ev q)=row':=fun q g=>(aaQ Array.toList (Value.agg.inj (ft (ks:=iT) (n:=70) g aB))).trans er;have W:∀ q,ai 70 q7 q->(q.i 12=q7.i 12/\q.i 13=q7.i 13/\q.i 14=q7.i 14/\q.i 15=q7.i 15/\q.i 17=z/\q.i 69=k)/\q.h 8=T/\q.h 9=RG/\q.h 60=q7.h 60/\q.h 61=q7.h 61/\q.h 62=q7.h 62:=fun q g=>by
   rw[g.i 12,g.i 13,g.i 14,g.i 15,g.i 17,g.i 69,g.h 8,g.h 9,g.h 60,g.h 61,g.h 62];exact⟨⟨rfl,rfl,rfl,rfl,ez,ek⟩,w8,w9,rfl,rfl,rfl⟩
  have B9:ai 70 q7 q9:=g8.tr g9;have B10:ai 70 q7 q10:=B9.tr g10;have C10:ai 202 q8 q10:=g9.tr g10;rw[(W q9 B9).2.2.2.2.2,g9.h 70]at h203 hdis;obtain⟨⟨a12,a13,a14,a15,a17,a69⟩,b8,b9,b60,b61,b62⟩:=W q10 B10;rw[hpr q10 C10,h203,b8,b9,a17,gb z];have hS:=hI.short ah;refine⟨⟨z,_,_,row',T,RG,st,P,rfl,rfl,rfl,hdis,hI.rf,hS,fun i hi=>by have:=hI.ln i hi;omega,hx.u,ah,hK⟩,fun q11 g11 ⟨F11,p11,_⟩=>?_⟩;obtain⟨e11,hX11,hx11⟩:=BH (K:=q11.h 204) hdis hI.rf hx.u p11;have e11:q11.i 204=br st P:=by simpa using e11
  refine⟨fun _=>tt,fun h0=>?_⟩;have hA0:br st P=0:=e11.symm.trans h0;have B11:ai 70 q7 q11:=B10.tr g11;have C11:ai 202 q8 q11:=C10.tr g11;rw[hpr q11 C11,(W q11 B11).2.1];refine⟨fun U hU=>⟨row',U,U,P,rfl,rfl,hx11.2 U (hU T aF) (hU _ aF),ah⟩,fun q12 g12 ⟨F12,⟨U,hU,p12⟩,hF12,hn12⟩=>?_⟩;have hB:=p12 row' U U P rfl rfl (hx11.2 U (hU T aF) (hU _ aF));rw[<-hF12 (by simp [aJ,Cp.roots,Ck.root])]at hB;intro q13 g13 n13;have B13:ai 70 q7 q13:=B11.trans (g12.mono.tr g13);obtain⟨⟨a12,a13,a14,a15,a17,a69⟩,b8,b9,b60,b61,b62⟩:=W q13 B13;have hu:cV (q13.h 206) (.slice (az (q13.i 206) (q13.i 207)) (q13.i 208).toNat (q13.i 209).toNat) (fF P):=by
   rw[g13.h 206,g13.i 206,g13.i 207,g13.i 208,g13.i 209];exact hB.rd.w
  have hRows:=nz (T:=46) n13 hu;rw[a14,a15,hsp,b61,b60,b9];obtain⟨c1,c2,c3⟩:=hI.pre ah;refine⟨⟨sp,_,_,_,_,_,RG,g,dp,S,D,[fF P],rfl,rfl,rfl,hI.so,hI.dk,hRows,hG.1,aF,fun _ _=>aa6 _,c1,c2,c3⟩,fun q14 g14 ⟨F14,p14,_⟩=>⟨fun _=>tt,fun h0=>?_⟩⟩;obtain⟨d1,s1,e1⟩:=xL (H':=q14.h 211) (HD':=q14.h 212) hI.so hI.dk hRows p14;have e1:q14.i 211=(cf D S [fF P]).e:=by simpa using e1
  have hF:=(nU hA0).1;have B14:ai 70 q7 q14:=B13.tr g14;obtain⟨⟨a12,a13,a14,a15,a17,a69⟩,_⟩:=W q14 B14;have e69:aA q14 (E.wrap .i64 ((E.var 69).add (E.lit 1)))=((k+1:Nat):Int):=by
   rw[bP,bL,al,aq,a69,IntKind.wrap_i64];omega
  refine⟨⟨k+1,z,(cf D S [fF P]).D,(cf D S [fF P]).S,cP st P,e69,ah,a17,?_⟩,?_⟩
  .show DD T (.pointer (az (q14.i 12) (q14.i 13))) (.pointer (az (q14.i 14) (q14.i 15))) z (q14.h 212) (q14.h 211) (q14.h 204) (k+1) true _ _ _;rw[a12,a13,a14,a15,hdp,hsp,g14.h 204,g13.h 204,g12.h 204];exact hI.add ah (BB hx) (e1.symm.trans h0) d1 s1 hX11 (fun i _=>qA st P i) (hI.gd.put ⟨hx.byte,hx.len⟩) (fun _=>⟨rfl,P,Tx hx hF ah,hA0,rfl⟩) (fun h=>by cases h)
  .show(rows.length-aA q14 (E.wrap .i64 ((E.var 69).add (E.lit 1)))).toNat<_;rw[e69];omega
 .have hk8:k<=8:=ah;obtain⟨o1,o2,o3,o4⟩:=hI.open ah;rw[w9];refine⟨⟨dp,_,D,RG,rfl,rfl,rfl,hI.dk,o3,o4,o1,by rw[o2];have:=hI.rl;omega,fun r hr=>?_,hG.2.1,hG.2.2⟩,fun q8 g8 ⟨F8,p8,hF8,hn8⟩=>?_⟩
  .rw[o2]at hr;have:=hI.rb r hr;exact⟨ah,this.2⟩
  obtain⟨hD8,hcase⟩:=wA (K:=q8.h 70) hI.dk p8;rw[o2]at hcase;rcases hcase with ⟨pv,st',hv,hL,hRl⟩ | ⟨hno,_⟩
  rotate_left
  .exact absurd (hI.ld rfl) (hno _)
  obtain rfl:=hL.uniq (hI.ld rfl);simp only[Value.tuple.injEq,aaJ,aaf,Value.int.injEq,aaV,aat]at hv;obtain⟨rfl,e72⟩:=hv;rw[<-hF8 (by simp [aJ,Cp.roots,Ck.root])]at hRl;refine⟨fun _=>?_,fun h=>absurd e72 h⟩;rw[g8.i 17,ez,gb z,g8.h 62,g8.h 8,w8];refine⟨fun U hU=>⟨_,z,U,T,st',rfl,rfl,rV.mono (hU _ aF) hRl.rd,hI.rf.mono (hU _ aF),hU _ aF,hI.short ah,hI.gd⟩,fun q9 g9 ⟨F9,⟨U,_,hv9⟩,_⟩=>?_⟩;have b73:q9.b 73=true:=Value.bool.inj hv9;have B9:ai 70 q7 q9:=g8.tr g9;refine⟨fun h=>absurd b73 h,fun _=>⟨⟨0,z,D,S,st',rfl,aa6 _,(B9.i 17).trans ez,?_⟩,fun q10 g10 ⟨k2,z2,D2,S2,st2,Av,bU,ez2,hI2⟩=>?_⟩⟩
  .show DD T (.pointer (az (q9.i 12) (q9.i 13))) (.pointer (az (q9.i 14) (q9.i 15))) z (q9.h 70) (q9.h 61) (q9.h 62) (8+0) true D S st';rw[B9.i 12,B9.i 13,B9.i 14,B9.i 15,hdp,hsp,B9.h 61,B9.h 62,g9.h 70];exact hI.more ah hD8
  have G10:ai 10 J q10:=G7.trans (B9.mono ah |>.tr g10);clear hI hdp hsp;obtain⟨⟨v0,v1,v2,v3⟩,⟨v4,v5,v6⟩,w8,w9⟩:=V q10 G10;generalize hdp:Value.pointer (az (q10.i 12) (q10.i 13))=dp at hI2;generalize hsp:Value.pointer (az (q10.i 14) (q10.i 15))=sp at hI2;rw[v6,Av];refine⟨fun hlt=>?_,fun hge=>?_⟩
  .have qW:k2<us.length:=ah;have huk:us[k2]?=some us[k2]:=aab qW;have hrk:raws[k2]?=some (raws[k2]'ah):=aab _;have hum:us[k2]∈us:=abt qW;have hrm:raws[k2]'ah∈raws:=abt _;generalize us[k2]=u at huk hum;generalize (raws[k2]'ah)=r at hrk hrm;obtain⟨hx20,hcu⟩:=hcell k2 u huk;have hru:=hraw k2 u r huk hrk;obtain⟨ua,ul,uc,hue,hulc⟩:=hcap u hum;have hrb:=hbyte r hrm;have hus:∃ a l c,u=Value.slice a l c:=⟨ua,ul,uc,hue⟩;have hcu:T.cell x2.toNat (y2+(k2:Int)).toNat=some u:=by rw[show(y2+(k2:Int)).toNat=y2.toNat+k2 by omega];exact hcu
   have W:∀ q,ai 100 q10 q->(q.i 12=q10.i 12/\q.i 13=q10.i 13/\q.i 14=q10.i 14/\q.i 15=q10.i 15/\q.i 17=z2/\q.i 88=k2/\q.i 4=x2/\q.i 5=y2)/\q.h 8=T/\q.h 9=RG/\q.h 80=q10.h 80/\q.h 81=q10.h 81/\q.h 82=q10.h 82/\q.b 89=q10.b 89:=fun q g=>by
    rw[g.i 12,g.i 13,g.i 14,g.i 15,g.i 17,g.i 88,g.i 4,g.i 5,g.h 8,g.h 9,g.h 80,g.h 81,g.h 82,g.b 89];exact⟨⟨rfl,rfl,rfl,rfl,ez2,Av,v4,v5⟩,w8,w9,rfl,rfl,rfl,rfl⟩
   rw[v4,v5,w8,hcu];have hvl:bm (some u) 2=(r.length:Int):=JC hru;rw[hvl];refine⟨hx20,hy2,ah,by rw[hue];rfl,ah,fun hle q11 g11 n11=>?_,fun _=>tt⟩;obtain⟨⟨a12,a13,a14,a15,a17,a88,a4,a5⟩,b8,b9,b80,b81,b82,b89⟩:=W q11 g11;rw[a14,a15,hsp,b81,b80,b8,b9,a4,a5,a88,hcu,gh hus];have hRows:=nz (T:=46) n11 hru;obtain⟨c1,c2,c3⟩:=hI2.pre ah;refine⟨⟨sp,_,_,_,_,_,RG,g,dp,S2,D2,[r],rfl,rfl,rfl,hI2.so,hI2.dk,hRows,hG.1,aF,fun _ _=>aa6 _,c1,c2,c3⟩,fun q12 g12 ⟨F12,p12,_⟩=>⟨fun _=>tt,fun h0=>?_⟩⟩;obtain⟨d1,s1,e1⟩:=xL (H':=q12.h 101) (HD':=q12.h 102) hI2.so hI2.dk hRows p12;have e1:q12.i 101=(cf D2 S2 [r]).e:=by simpa using e1
   have B12:ai 100 q10 q12:=g11.tr g12;obtain⟨⟨a12,a13,a14,a15,a17,a88,a4,a5⟩,b8,b9,b80,b81,b82,b89⟩:=W q12 B12;rw[b8,a4,a5,a88,hcu,gh hus];obtain⟨xu,yu,cu,eu,hyu,_⟩:=id hru;have hcapu:r.length<=cu:=by rw[hue]at eu;simp only[Value.slice.injEq]at eu;omega
   refine⟨⟨xu,yu,cu,r,T,by rw[eu],rfl,by rw[<-eu];exact hru,hyu,hcapu,hrb,ah⟩,fun q13 g13 ⟨F13,⟨u',r',R',f1,f2,hr',row,ok,hv,hyes,hno⟩,hF13,_⟩ q14 g14 n14=>?_⟩;simp only[aaf,aat]at f1 f2;subst f1 f2;obtain rfl:=hru.uniq hr';rw[<-hF13 aB]at hyes;simp only[Value.tuple.injEq,aaJ,aaf,Value.agg.injEq,Value.bool.injEq,aat]at hv;obtain⟨er,eok⟩:=hv;have eok:q13.b 236=ok:=eok;have B13:ai 104 q12 q14:=g13.tr g14;have B14:ai 100 q10 q14:=B12.tr B13;have e236:q14.b 236=ok:=(g14.b 236).trans eok;have e89:q14.b 89=q10.b 89:=B14.b 89;have back:∀ (q:Env) (e:E) (hx:Nat) (good':Bool) (st':Nat->List Pc),ai 104 q12 q->bd q e=good'->jW (q.h hx) T z2 st'->(∀ i,i<6->(st' i).length<=(st2 i).length+1)->Good st'->(good'=true->q10.b 89=true/\∃ c,mJ r c/\br st2 c=0/\st'=cP st2 c)->(good'=false->q10.b 89=true->∀ c,mJ r c->br st2 c≠0) ->
    (fun q':Env=>(∃ (k z:Nat) (D:DM) (S:SM) (st:Nat->List Pc),q'.i 88=k/\k<=us.length/\q'.i 17=z/\DD T (.pointer (az (q'.i 12) (q'.i 13))) (.pointer (az (q'.i 14) (q'.i 15))) z (q'.h 80) (q'.h 81) (q'.h 82) (8+k) (q'.b 89) D S st)/\((us.length:Int)-q'.i 88).toNat<((us.length:Int)-(k2:Int)).toNat) (assign q [⟨89,1,.bool e⟩,⟨88,0,.int .i64 (.wrap .i64 (.add (.var 88) (.lit 1)))⟩] [(80,some 102),(81,some 101),(82,some hx)]):=by
    intro q e hx good' st' gq he hX hl hgd hy hn;have Bq:ai 100 q10 q:=B12.tr gq;obtain⟨⟨a12,a13,a14,a15,a17,a88,_⟩,_⟩:=W q Bq;have e88:aA q (E.wrap .i64 ((E.var 88).add (E.lit 1)))=((k2+1:Nat):Int):=by
     rw[bP,bL,al,aq,a88,IntKind.wrap_i64];omega
    refine⟨⟨k2+1,z2,(cf D2 S2 [r]).D,(cf D2 S2 [r]).S,st',e88,ah,a17,?_⟩,?_⟩
    .show DD T (.pointer (az (q.i 12) (q.i 13))) (.pointer (az (q.i 14) (q.i 15))) z2 (q.h 102) (q.h 101) (q.h hx) (8+(k2+1)) (bd q e) _ _ _;rw[a12,a13,a14,a15,hdp,hsp,he,gq.h 101,gq.h 102];exact hI2.add ah hrb (e1.symm.trans h0) d1 s1 hX hl hgd hy hn
    .show((us.length:Int)-aA q (E.wrap .i64 ((E.var 88).add (E.lit 1)))).toNat<_;rw[e88];omega
   have stay:(q10.b 89=true->∀ c,mJ r c->br st2 c≠0)->_:=fun h=>back q14 .ff 82 false st2 B13 rfl (by rw[(W q14 B14).2.2.2.2.2.1];exact hI2.rf) (fun i _=>Nat.le_succ _) hI2.gd (fun e=>by cases e) (fun _=>h);refine⟨fun h89=>⟨fun h236 q15 g15 ⟨h238,hdis⟩=>?_,fun h236=>stay fun _ c hc=>absurd hc (hno (by rw[<-e236];simpa using h236) c)⟩,fun h89=>stay fun h=>absurd (e89.trans h) h89⟩;obtain⟨c,hx,hPc⟩:=hyes (e236.symm.trans h236);rw[<-g14.h 104]at hx;rw[(W q14 B14).2.2.2.2.2.1]at h238 hdis;have B15:ai 104 q12 q15:=B13.tr g15;obtain⟨⟨a12,a13,a14,a15,a17,a88,a4,a5⟩,b8,b9,b80,b81,b82,b89⟩:=W q15 (B12.tr B15);have hpr:(ar 104 iT).map (CV.ev q15)=row:=(aaQ Array.toList (Value.agg.inj (ft (ks:=iT) (n:=104) (m:=236) (a:=q13) (g14.mono |>.tr g15) aB))).trans er;rw[hpr,h238,b8,b9,a17,gb z2];have hcl:c.b.length<=4096:=by rw[hPc.2.2.2.1];exact vW _ _ _
   refine⟨⟨z2,_,_,row,T,RG,st2,c,rfl,rfl,rfl,hdis,hI2.rf,hI2.short ah,fun i hi=>by have:=hI2.ln i hi;omega,hx.v,ah,hK⟩,fun q16 g16 ⟨F16,uP,_⟩=>?_⟩;obtain⟨e16,hX16,_⟩:=BH (K:=q16.h 239) hdis hI2.rf hx.v uP;have e16:q16.i 239=br st2 c:=by simpa using e16
   refine back q16 ((E.var 239).eq (E.lit 0)) 239 (decide (br st2 c=0)) (cP st2 c) (B15.tr g16) ?_ hX16 (fun i _=>qA st2 c i) (hI2.gd.put ⟨hx.byte,hx.len⟩) (fun h=>⟨e89.symm.trans h89,c,hPc,abz h,rfl⟩) (fun h _ c' hc'=>by rw[hc'.uniq hPc];exact of_decide_eq_false h);show decide (q16.i 239=0)=_;rw[e16]
  .obtain⟨o1,o2,o3,o4⟩:=hI2.open ah;rw[w9];refine⟨⟨dp,_,D2,RG,rfl,rfl,rfl,hI2.dk,o3,o4,o1,by rw[o2];have:=hI2.rl;omega,fun r hr=>?_,hG.2.1,hG.2.2⟩,fun q11 g11 ⟨F11,p11,hF11,hn11⟩=>?_⟩
   .rw[o2]at hr;have:=hI2.rb r hr;exact⟨ah,this.2⟩
   obtain⟨_,hcase⟩:=wA (K:=q11.h 100) hI2.dk p11;rw[o2]at hcase;have b89:q11.b 89=q10.b 89:=g11.b 89;refine⟨fun h=>?_,fun h=>?_⟩
   .have hL:=hI2.ld (b89.symm.trans h);rcases hcase with ⟨pv,st',hv,hL',hRl⟩ | ⟨hno,_⟩
    rotate_left
    .exact absurd hL (hno _)
    obtain rfl:=hL'.uniq hL;simp only[Value.tuple.injEq,aaJ,aaf,Value.int.injEq,aaV,aat]at hv;obtain⟨rfl,e102⟩:=hv;rw[<-hF11 (by simp [aJ,Cp.roots,Ck.root])]at hRl;refine⟨fun _=>?_,fun hn=>absurd e102 hn⟩;rw[g11.i 17,ez2,gb z2,g11.h 82,g11.h 8,w8];exact⟨fun U hU=>⟨_,z2,U,T,st',rfl,rfl,rV.mono (hU _ aF) hRl.rd,hI2.rf.mono (hU _ aF),hU _ aF,hI2.short ah,hI2.gd⟩,fun q12 g12 ⟨F12,⟨U,_,hv12⟩,_⟩=>⟨fun hn=>absurd (Value.bool.inj hv12) hn,fun _=>tt⟩⟩
   .have hno:=hI2.no (by rw[<-b89];simpa using h);rcases hcase with ⟨pv,st',hv,hL',_⟩ | ⟨_,hv⟩
    .exact absurd hL' (hno _)
    simp only[Value.tuple.injEq,aaJ,aaf,Value.int.injEq,Value.pointer.injEq,aaV,aat]at hv;obtain⟨hp,e102⟩:=hv;refine⟨fun _=>out ?_,fun hn=>absurd e102 hn⟩;have n:-1<=q11.i 100:=hn11.1.1;have e:q11.i 100= -1:=by
     rcases abr (q11.i 100) 0 with h | h
     .omega
     .rw[av h]at hp;cases hp
    show decide (q11.i 100= -1)=true;rw[e];rfl
end Go.Proofs.YtomdimlnggpgbaaGreatDoor
namespace Go.Sx
open Go Go.ChangeShapes Go.WideShapes Go.ChangeAt Go.RowKit Go.Deep
def Uo (v:Value):Kd->Prop
 | .int k=>∃ n,v=.int k n/\(Lit.int k n).wf=true
 | .bool=>∃ b,v=.bool b
 | _=>False
def oX:List Value->List Kd->Prop
 | [],[]=>True
 | v::l,k::m=>Uo v k/\oX l m
 | _,_=>False
theorem pQ:∀ {l m:List Value} {a b:List Kd},oX l a->oX m b->oX (l++m) (a++b)
 | [],m,[],b,_,h=>h
 | v::l,m,k::a,b,h,h2=>⟨h.1,pQ h.2 h2⟩
 | [],_,_::_,_,h,_=>h.elim
 | _::_,_,[],_,h,_=>h.elim
theorem EU:∀ {l:List Value} {a:List Kd},oX l a->∀ (j:Nat) (k:Kd),a[j]?=some k->∃ v,l[j]?=some v/\Uo v k
 | _::l,_::a,h,0,k,hk=>by simp at hk;subst hk;exact⟨_,rfl,h.1⟩
 | _::l,_::a,h,j+1,k,hk=>by simpa using EU h.2 j k (by simpa using hk)
 | [],[],_,j,k,hk=>by simp at hk
 | [],_::_,h,_,_,_=>h.elim
 | _::_,[],h,_,_,_=>h.elim
def xk (f:TypeId->Option (List Kd)):List Field->Nat->Option (List Kd)
 | [],_=>some []
 | fl::l,o=>if fl.offset=o then match f fl.type with
  | some a=>match xk f l (o+a.length)with
   | some b=>some (a++b)
   | none=>none
  | none=>none
  else none
def QO (a:List Kd):Nat->List Kd
 | 0=>[]
 | n+1=>a++QO a n
def nV (P:Program):Nat->TypeId->Option (List Kd)
 | 0,_=>none
 | d+1,t=>match P.underlying t with
  | some (.int k)=>some [.int k]
  | some .bool=>some [.bool]
  | some (.array n e)=>match nV P d e with
   | some a=>if a.length=P.cellsOf e/\P.cellsOf t=n*a.length then some (QO a n)else none
   | none=>none
  | some (.struct fs)=>match xk (fun u=>(nV P d u).bind fun a=>if a.length=P.cellsOf u then some a else none) fs.toList 0 with
   | some a=>if a.length=P.cellsOf t then some a else none
   | none=>none
  | _=>none
section
variable {H:Type} {enc:TypeId×Value->H} {P:Program} {w:World} {base:Nat} {spare:Nat->Bool} {held:Bool}
theorem wQ {g:TypeId->Option (List Kd)} {cs:List Value} : ∀ (l:List Field) (o:Nat) (ks:List Kd),xk g l o=some ks ->
 (∀ (fl:Field) (a:List Kd),fl∈l->g fl.type=some a->oX ((cs.drop fl.offset).take a.length) a)->oX ((cs.drop o).take ks.length) ks
 | [],o,ks,h,_=>by cases h;simp [oX]
 | fl::l,o,ks,h,hq=>by
  simp only[xk]at h;split at h
  .rename_i ho;subst ho;split at h
   .rename_i a ha;split at h
    .rename_i b hb;cases h;have h1:=hq fl a aF ha;have h2:=wQ l (fl.offset+a.length) b hb fun f c hf hc=>hq f c (aar _ hf) hc;have e:(cs.drop fl.offset).take (a++b).length=(cs.drop fl.offset).take a.length++(cs.drop (fl.offset+a.length)).take b.length:=by
      rw[aac,ac1,ace]
     rw[e];exact pQ h1 h2
    .cases h
   .cases h
  .cases h
theorem BT {cs:List Value} {a:List Kd} : ∀ (n:Nat) (o:Nat),(∀ i,i<n->oX ((cs.drop (o+i*a.length)).take a.length) a)->oX ((cs.drop o).take (n*a.length)) (QO a n)
 | 0,o,_=>by simp [oX,QO]
 | n+1,o,h=>by
  have h0:=h 0 ah;simp only[acT,aa0]at h0;have ih:=BT n (o+a.length) fun i hi=>by
   have:=h (i+1) ah;rwa[abS,adr,acQ (i*a.length),<-abL]at this
  have e:(cs.drop o).take ((n+1)*a.length)=(cs.drop o).take a.length++(cs.drop (o+a.length)).take (n*a.length):=by
   rw[abS,adr,acQ (n*a.length),ac1,ace]
  rw[e];exact pQ h0 ih
theorem Ii:∀ (d:Nat) (t:TypeId) (ks:List Kd) (fuel:Nat) (cs:List Value) (x:DataW H×List MemPlace),nV P d t=some ks->DataW.trod enc P w base spare held fuel t cs=some x->oX cs ks:=by
 intro d
 induction d with
 | zero=>intro t ks fuel cs x h;cases h
 | succ d ih =>
  intro t ks fuel cs x h hx;simp only[nV]at h;split at h
  .rename_i k hu;cases h;obtain⟨n,rfl,_,hw⟩:=DataW.trod_int hu hx;exact⟨⟨n,rfl,hw⟩,trivial⟩
  .rename_i hu;cases h;obtain⟨b,rfl,_⟩:=DataW.trod_bool hu hx;exact⟨⟨b,rfl⟩,trivial⟩
  .rename_i n e hu;split at h
   .rename_i a ha;split at h
    .rename_i hc;cases h;obtain⟨xs,m,_,_,hl,hxl,hxi⟩:=DataW.trod_array hu hx;have key:=BT (cs:=cs) (a:=a) n 0 fun i hi=>by
      have h1:=hxi i hi;rw[<-hc.1,aab ah]at h1;rw[aaP];exact ih e a m _ _ ha h1
     rw[acO,<-hc.2,<-hl,abh]at key;exact key
    .cases h
   .cases h
  .rename_i fs hu;split at h
   .rename_i a ha;split at h
    .rename_i hc;cases h;obtain⟨xs,m,_,_,hl,hxl,hxi⟩:=DataW.trod_struct hu hx;have key:=wQ (cs:=cs) fs.toList 0 ks ha fun fl b hfl hb=>by
      obtain⟨i,hi⟩:=aa9 hfl;have hi':fs[i]?=some fl:=by simpa using hi
      have h1:=hxi i fl hi';cases hk:nV P d fl.type with
      | none=>simp [hk]at hb
      | some b' =>
       simp only[hk,abZ]at hb;split at hb
       .rename_i hlen;cases hb;have hlt:i<xs.length:=by rw[hxl];exact(aaU.1 hi').1
        rw[<-hlen,aab hlt]at h1;exact ih fl.type b m _ _ hk h1
       .cases hb
     rw[acO,hc,<-hl,abh]at key;exact key
    .cases h
   .cases h
  .cases h
theorem Lc {v:Value} {k:Kd} (h:Uo v k):bD (some v) k=true:=by
 cases k with
 | int k=>obtain⟨n,rfl,_⟩:=h;simp [bD]
 | bool=>obtain⟨b,rfl⟩:=h;rfl
 | _=>exact h.elim
theorem Bt {t e:TypeId} {ks:List Kd} {dp:Nat} {fuel:Nat} {cs:List Value} {x:DataW H×List MemPlace} (ht:P.underlying t=some (.slice e)) (hk:nV P dp e=some ks) (hC:P.cellsOf e=ks.length)
 (h:DataW.trod enc P w base spare held fuel t cs=some x) :
 cs=[.slice none 0 0]\/∃ (a:Addr) (len cap:Nat),cs=[.slice (some a) len cap]/\len<=cap/\cap<=maxLen /\
  ∀ i,i<len->∀ (j:Nat) (k:Kd),ks[j]?=some k->∃ v,w.cell? (a.add (i*ks.length+j))=some v/\Uo v k:=by
 rcases open_slice ht h with h0 | ⟨a,len,cap,m,n,D,Pl,hcs,hb,hl,hm,hmm,hx,hi⟩
 .exact Or.inl h0.1
 .refine Or.inr ⟨a,len,cap,hcs,hl,hm,fun i hil j k hj=>?_⟩;have him:i<m:=by rw[hmm];split<;>omega
  obtain⟨cs',hc,ht'⟩:=hi i him;rw[hC]at hc;obtain⟨_,hcl,hat⟩:=World.cells?_some hc;have hok:=Ii dp e ks n cs' _ hk ht';obtain⟨v,hv,hov⟩:=EU hok j k hj;have hjl:j<ks.length:=(aai.1 hj).1;refine⟨v,?_,hov⟩;rw[<-Go.Deep.add_add,hat j hjl,hv]
end
theorem Ug {n:Int} (h:(Lit.int .u64 n).wf=true):0<=n/\n<18446744073709551616:=by
 simp only[Lit.wf,IntKind.min,IntKind.max,IntKind.signed,IntKind.bits,aah,aag]at h;simp at h;omega
theorem O0 {n:Int} (h:(Lit.int .u8 n).wf=true):0<=n/\n<256:=by
 simp only[Lit.wf,IntKind.min,IntKind.max,IntKind.signed,IntKind.bits,aah,aag]at h;simp at h;omega
theorem SR {n:Int} (h:(Lit.int .i64 n).wf=true):-9223372036854775808<=n/\n<9223372036854775808:=by
 simp only[Lit.wf,IntKind.min,IntKind.max,IntKind.signed,IntKind.bits,aah,aag]at h;simp at h;omega
theorem Fo:∀ {row:List Value} {ks:List Kd},oX row ks->bg row ks
 | [],[],_=>trivial
 | _::_,_::_,h=>⟨Lc h.1,Fo h.2⟩
 | [],_::_,h=>h.elim
 | _::_,[],h=>h.elim
theorem wg:∀ {ks:List Kd} {row:List Value},row.length=ks.length->(∀ (j:Nat) (k:Kd),ks[j]?=some k->∃ v,row[j]?=some v/\Uo v k)->oX row ks
 | [],[],_,_=>trivial
 | k::ks,v::row,hl,h=>by
  refine⟨?_,wg (by simpa using hl) fun j k' hj=>?_⟩
  .obtain⟨u,hu,ho⟩:=h 0 k rfl;simp at hu;subst hu;exact ho
  .have:=h (j+1) k' (by simpa using hj);simpa using this
 | [],_::_,hl,_=>by simp at hl
 | _::_,[],hl,_=>by simp at hl
section
variable {H:Type} {enc:TypeId×Value->H} {P:Program} {W:World} {base:Nat} {spare:Nat->Bool} {held:Bool} {d:DataW H} {p:List MemPlace}
theorem kz {b y:Nat} {v:Value} (h:W.cell? ⟨b,y,none⟩=some v):(Hl.all W).cell b y=some v:=by
 unfold Hl.cell Hl.all;unfold World.cell? at h;split at h
 .rename_i c T fr hb;rw[hb];simpa using h
 .cases h
theorem qw {a:Addr} {v:Value} (hv:W.cell? a=some v):a.spot=none:=by
 unfold World.cell? at hv;split at hv
 .split at hv
  .cases hv
  .rename_i h;simpa using h
 .cases hv
theorem Ln {t e:TypeId} {ks:List Kd} {dp:Nat} (ht:P.underlying t=some (.slice e)) (hk:nV P dp e=some ks) (hC:P.cellsOf e=ks.length) (hks:0<ks.length) {v:Value} (hv:∃ a l c,v=.slice a l c) (h:DataW.Trod enc P W base spare held t v d p) :
 ∃ rows,bj (Hl.all W) v ks rows/\∀ row∈rows,oX row ks:=by
 obtain⟨a0,len0,cap0,rfl⟩:=hv;obtain⟨fuel,hf⟩:=h;rcases Bt ht hk hC hf with h | ⟨a,len,cap,hcs,hl,hc,hat⟩
 .simp only[Value.cells,aaf,Value.slice.injEq,aat]at h;obtain⟨rfl,rfl,rfl⟩:=h;exact⟨[],⟨-1,0,0,rfl,ah,Or.inl rfl⟩,fun _ h=>nomatch h⟩
 .simp only[Value.cells,aaf,Value.slice.injEq,aat]at hcs;obtain⟨rfl,rfl,rfl⟩:=hcs;rcases abR len0 with h0 | h0
  .subst h0;obtain⟨x,y,hx,hy,_⟩:=oC (some a);exact⟨[],⟨x,y,cap0,by rw[hx];rfl,hy,Or.inl rfl⟩,fun _ h=>nomatch h⟩
  .have hsp:a.spot=none:=by
    obtain⟨v,hv,_⟩:=hat 0 h0 0 ks[0] (aab hks);simp only[acT,aa0,Addr.add,abM]at hv;exact qw hv
   obtain⟨bw,off,spot⟩:=a;simp only at hsp;subst hsp
   let row:Nat->List Value:=fun i=>(List.range ks.length).map fun j=>(W.cell? ⟨bw,off+(i*ks.length+j),none⟩).getD (.bool false)
   have aD:∀ i,i<len0->oX (row i) ks/\∀ j u,(row i)[j]?=some u->W.cell? ⟨bw,off+(i*ks.length+j),none⟩=some u:=by
    intro i hi;have hg:∀ (j:Nat) (k:Kd),ks[j]?=some k->∃ v,(row i)[j]?=some v/\W.cell? ⟨bw,off+(i*ks.length+j),none⟩=some v/\Uo v k:=by
     intro j k hj;obtain⟨v,hv,ho⟩:=hat i hi j k hj;rw[dz]at hv;have hjl:j<ks.length:=(aai.1 hj).1;refine⟨v,?_,hv,ho⟩;simp only[row,aao,aaD hjl,aaN,hv,abE]
    refine⟨wg (by simp [row]) fun j k hj=>?_,fun j u hu=>?_⟩
    .obtain⟨v,h1,_,h2⟩:=hg j k hj;exact⟨v,h1,h2⟩
    .have hjl:j<ks.length:=by have:=(aai.1 hu).1;simpa [row] using this
     obtain⟨v,h1,h2,_⟩:=hg j ks[j] (aab hjl);rw[hu]at h1;cases h1;exact h2
   refine⟨(List.range len0).map row,⟨bw,off,cap0,?_,ah,Or.inr ⟨ah,fun i r hr=>?_⟩⟩,fun r hr=>?_⟩
   .rw[av ah,aaB,abG];rfl
   .have hi:i<len0:=by have:=(aai.1 hr).1;simpa using this
    rw[aao,aaD hi,aaN,aaj]at hr;subst hr;obtain⟨h1,h2⟩:=aD i hi;refine⟨Fo h1,fun j u hu=>?_⟩;rw[aaa,aaa,abL];exact kz (h2 j u hu)
   .obtain⟨i,hi,rfl⟩:=aaS.1 hr;exact(aD i (aaM.1 hi)).1
end
theorem OR {P:Program} {s:Spec} (h:s.OK P) (ho:s.own=[]) {W:World} {xs:List Value} (hpre:s.pre xs [] (List.replicate s.rd.length (Hl.all W)))
 (hpost:∀ J F,s.post xs [] (List.replicate s.rd.length (Hl.all W)) ((lC 0 s.res).ev J) [] F->(lC 0 s.res).ev J=.bool true) :
 Calls P s.fn xs.toArray W fun e w'=>e=.returned (.bool true)/\Below W.heap.size W w':=by
 have:=h W xs [] (List.replicate s.rd.length (Hl.all W)) (by rw[ho];rfl) aF (fun _ h=>nomatch h) (fun R hR=>by rw[(acF.1 hR).2];exact Hl.Pj W) (fun p _ H _ _ h=>by simp at h) (fun _ h=>nomatch h) hpre;refine this.mono ?_;rintro e w' ⟨J,Hs',F,rfl,_,ht,hp⟩;have e0:Hs'=[]:=aad.1 ht.len;subst e0;exact⟨by rw[hpost J F hp],⟨ht.os,ht.tape,ht.output,ht.size,fun b hb=>ht.block b hb (fun _ h=>nomatch h)⟩⟩
section
variable {H:Type} {enc:TypeId×Value->H} {P:Program} {W:World} {base:Nat} {spare:Nat->Bool} {held:Bool} {d:DataW H} {p:List MemPlace}
theorem DQ {t e:TypeId} {dp:Nat} (ht:P.underlying t=some (.slice e)) (hk:nV P dp e=some [.int .u8]) (hC:P.cellsOf e=1) {v:Value} (hv:∃ a l c,v=.slice a l c) (h:DataW.Trod enc P W base spare held t v d p) :
 ∃ bs,cV (Hl.all W) v bs/\∀ b∈bs,0<=b/\b<256:=by
 obtain⟨a0,len0,cap0,rfl⟩:=hv;obtain⟨fuel,hf⟩:=h;rcases Bt ht hk hC hf with h | ⟨a,len,cap,hcs,hl,hc,hat⟩
 .simp only[Value.cells,aaf,Value.slice.injEq,aat]at h;obtain⟨rfl,rfl,rfl⟩:=h;exact⟨[],⟨-1,0,0,rfl,ah,Or.inl rfl⟩,fun _ h=>nomatch h⟩
 .simp only[Value.cells,aaf,Value.slice.injEq,aat]at hcs;obtain⟨rfl,rfl,rfl⟩:=hcs;rcases abR len0 with h0 | h0
  .subst h0;obtain⟨x,y,hx,hy,_⟩:=oC (some a);exact⟨[],⟨x,y,cap0,by rw[hx];rfl,hy,Or.inl rfl⟩,fun _ h=>nomatch h⟩
  .have hcell:∀ i,i<len0->∃ n,W.cell? (a.add i)=some (.int .u8 n)/\0<=n/\n<256:=by
    intro i hi;obtain⟨v,hv,ho⟩:=hat i hi 0 _ rfl;obtain⟨n,rfl,hw⟩:=ho;refine⟨n,?_,O0 hw⟩;rw[show i=i*([Kd.int .u8]:List Kd).length+0 by simp];exact hv
   have hsp:a.spot=none:=by
    obtain⟨n,hn,_⟩:=hcell 0 h0;simp only[Addr.add,abM,aa0]at hn;exact qw hn
   obtain⟨bw,off,spot⟩:=a;simp only at hsp;subst hsp;have hget:∀ j z,((List.range len0).map fun i=>ck (W.cell? ⟨bw,off+i,none⟩))[j]?=some z->W.cell? ⟨bw,off+j,none⟩=some (.int .u8 z)/\0<=z/\z<256:=by
    intro j z hz;have hj:j<len0:=by have:=(aai.1 hz).1;simpa using this
    rw[aao,aaD hj]at hz;simp only[aaN,aaj]at hz;obtain⟨n,hn,hr⟩:=hcell j hj;rw[dz]at hn;rw[hn]at hz;have hz:n=z:=hz;subst hz;exact⟨hn,hr⟩
   refine⟨(List.range len0).map fun i=>ck (W.cell? ⟨bw,off+i,none⟩),⟨bw,off,cap0,?_,ah,Or.inr ⟨ah,fun j z hz=>?_⟩⟩,fun b hb=>?_⟩
   .rw[av ah,aaB,abG];rfl
   .simp only[aaa];exact kz (hget j z hz).1
   .obtain⟨j,hj⟩:=acR.1 hb;exact(hget j b hj).2
end
section
variable {H:Type} {enc:TypeId×Value->H} {P:Program} {W:World} {base:Nat} {spare:Nat->Bool} {held:Bool} {d:DataW H} {p:List MemPlace}
end
end Go.Sx
namespace Go.Ex
open Go Go.ChangeShapes Go.WideShapes Go.ChangeAt Go.RowKit Go.Deep
inductive Kt | int (k:IntKind) | bool | other (t:TypeId)
def Zp (Φ:Value->TypeId->Prop) (v:Value):Kt->Prop
 | .int k=>∃ n,v=.int k n/\(Lit.int k n).wf=true
 | .bool=>∃ b,v=.bool b
 | .other t=>Φ v t
variable {Φ:Value->TypeId->Prop}
def RR (Φ:Value->TypeId->Prop):Prop:=∀ v t,Φ v t->∃ a len cap,v=.slice a len cap
def lE (Φ:Value->TypeId->Prop):List Value->List Kt->Prop
 | [],[]=>True
 | v::l,k::m=>Zp Φ v k/\lE Φ l m
 | _,_=>False
theorem pR:∀ {l m:List Value} {a b:List Kt},lE Φ l a->lE Φ m b->lE Φ (l++m) (a++b)
 | [],m,[],b,_,h=>h
 | v::l,m,k::a,b,h,h2=>⟨h.1,pR h.2 h2⟩
 | [],_,_::_,_,h,_=>h.elim
 | _::_,_,[],_,h,_=>h.elim
theorem zq:∀ {l:List Value} {a:List Kt},lE Φ l a->∀ (j:Nat) (k:Kt),a[j]?=some k->∃ v,l[j]?=some v/\Zp Φ v k
 | _::l,_::a,h,0,k,hk=>by simp at hk;subst hk;exact⟨_,rfl,h.1⟩
 | _::l,_::a,h,j+1,k,hk=>by simpa using zq h.2 j k (by simpa using hk)
 | [],[],_,j,k,hk=>by simp at hk
 | [],_::_,h,_,_,_=>h.elim
 | _::_,[],h,_,_,_=>h.elim
def th (f:TypeId->Option (List Kt)):List Field->Nat->Option (List Kt)
 | [],_=>some []
 | fl::l,o=>if fl.offset=o then match f fl.type with
  | some a=>match th f l (o+a.length)with
   | some b=>some (a++b)
   | none=>none
  | none=>none
  else none
def JH (a:List Kt):Nat->List Kt
 | 0=>[]
 | n+1=>a++JH a n
def nX (P:Program):Nat->TypeId->Option (List Kt)
 | 0,_=>none
 | d+1,t=>match P.underlying t with
  | some (.int k)=>some [.int k]
  | some .bool=>some [.bool]
  | some (.slice _)=>some [.other t]
  | some (.array n e)=>match nX P d e with
   | some a=>if a.length=P.cellsOf e/\P.cellsOf t=n*a.length then some (JH a n)else none
   | none=>none
  | some (.struct fs)=>match th (fun u=>(nX P d u).bind fun a=>if a.length=P.cellsOf u then some a else none) fs.toList 0 with
   | some a=>if a.length=P.cellsOf t then some a else none
   | none=>none
  | _=>none
section
variable {H:Type} {enc:TypeId×Value->H} {P:Program} {w:World} {base:Nat} {spare:Nat->Bool} {held:Bool}
theorem ui {g:TypeId->Option (List Kt)} {cs:List Value} : ∀ (l:List Field) (o:Nat) (ks:List Kt),th g l o=some ks ->
 (∀ (fl:Field) (a:List Kt),fl∈l->g fl.type=some a->lE Φ ((cs.drop fl.offset).take a.length) a)->lE Φ ((cs.drop o).take ks.length) ks
 | [],o,ks,h,_=>by cases h;simp [lE]
 | fl::l,o,ks,h,hq=>by
  simp only[th]at h;split at h
  .rename_i ho;subst ho;split at h
   .rename_i a ha;split at h
    .rename_i b hb;cases h;have h1:=hq fl a Sx.aF ha;have h2:=ui l (fl.offset+a.length) b hb fun f c hf hc=>hq f c (aar _ hf) hc;have e:(cs.drop fl.offset).take (a++b).length=(cs.drop fl.offset).take a.length++(cs.drop (fl.offset+a.length)).take b.length:=by
      rw[aac,ac1,ace]
     rw[e];exact pR h1 h2
    .cases h
   .cases h
  .cases h
theorem Aj {cs:List Value} {a:List Kt} : ∀ (n:Nat) (o:Nat),(∀ i,i<n->lE Φ ((cs.drop (o+i*a.length)).take a.length) a)->lE Φ ((cs.drop o).take (n*a.length)) (JH a n)
 | 0,o,_=>by simp [lE,JH]
 | n+1,o,h=>by
  have h0:=h 0 Sx.ah;simp only[acT,aa0]at h0;have ih:=Aj n (o+a.length) fun i hi=>by
   have:=h (i+1) Sx.ah;rwa[abS,adr,acQ (i*a.length),<-abL]at this
  have e:(cs.drop o).take ((n+1)*a.length)=(cs.drop o).take a.length++(cs.drop (o+a.length)).take (n*a.length):=by
   rw[abS,adr,acQ (n*a.length),ac1,ace]
  rw[e];exact pR h0 ih
abbrev rS (enc:TypeId×Value->H) (P:Program) (w:World) (base:Nat) (spare:Nat->Bool) (held:Bool) (v:Value) (t:TypeId):Prop:=(∃ e,P.underlying t=some (.slice e))/\∃ m x,DataW.trod enc P w base spare held m t [v]=some x
theorem nF:RR (rS enc P w base spare held):=by
 rintro v t ⟨⟨e,hu⟩,m,x,hx⟩;rcases open_slice hu hx with h0 | ⟨a,len,cap,m,n,D,Pl,hcs,_⟩
 .have h1:=h0.1;simp only[aaf,aat]at h1;exact⟨none,0,0,h1⟩
 .simp only[aaf,aat]at hcs;exact⟨some a,len,cap,hcs⟩
theorem FL:∀ (d:Nat) (t:TypeId) (ks:List Kt) (fuel:Nat) (cs:List Value) (x:DataW H×List MemPlace),nX P d t=some ks->DataW.trod enc P w base spare held fuel t cs=some x->lE (rS enc P w base spare held) cs ks:=by
 intro d
 induction d with
 | zero=>intro t ks fuel cs x h;cases h
 | succ d ih =>
  intro t ks fuel cs x h hx;simp only[nX]at h;split at h
  .rename_i k hu;cases h;obtain⟨n,rfl,_,hw⟩:=DataW.trod_int hu hx;exact⟨⟨n,rfl,hw⟩,trivial⟩
  .rename_i hu;cases h;obtain⟨b,rfl,_⟩:=DataW.trod_bool hu hx;exact⟨⟨b,rfl⟩,trivial⟩
  .rename_i e hu;cases h;rcases open_slice hu hx with h0 | ⟨a,len,cap,m,n,D,Pl,hcs,_⟩
   .have h1:=h0.1;subst h1;exact⟨⟨⟨_,hu⟩,fuel,x,hx⟩,trivial⟩
   .subst hcs;exact⟨⟨⟨_,hu⟩,fuel,x,hx⟩,trivial⟩
  .rename_i n e hu;split at h
   .rename_i a ha;split at h
    .rename_i hc;cases h;obtain⟨xs,m,_,_,hl,hxl,hxi⟩:=DataW.trod_array hu hx;have key:=Aj (cs:=cs) (a:=a) n 0 fun i hi=>by
      have h1:=hxi i hi;rw[<-hc.1,aab Sx.ah]at h1;rw[aaP];exact ih e a m _ _ ha h1
     rw[acO,<-hc.2,<-hl,abh]at key;exact key
    .cases h
   .cases h
  .rename_i fs hu;split at h
   .rename_i a ha;split at h
    .rename_i hc;cases h;obtain⟨xs,m,_,_,hl,hxl,hxi⟩:=DataW.trod_struct hu hx;have key:=ui (cs:=cs) fs.toList 0 ks ha fun fl b hfl hb=>by
      obtain⟨i,hi⟩:=aa9 hfl;have hi':fs[i]?=some fl:=by simpa using hi
      have h1:=hxi i fl hi';cases hk:nX P d fl.type with
      | none=>simp [hk]at hb
      | some b' =>
       simp only[hk,abZ]at hb;split at hb
       .rename_i hlen;cases hb;have hlt:i<xs.length:=by rw[hxl];exact(aaU.1 hi').1
        rw[<-hlen,aab hlt]at h1;exact ih fl.type b m _ _ hk h1
       .cases hb
     rw[acO,hc,<-hl,abh]at key;exact key
    .cases h
   .cases h
  .cases h
end
end Go.Ex
namespace Go.Sx
open Go Go.ChangeShapes Go.WideShapes Go.ChangeAt Go.RowKit Go.Deep
def KN:Ex.Kt->Kd
 | .int k=>.int k
 | .bool=>.bool
 | .other _=>.slice
theorem tV {Φ:Value->TypeId->Prop} (hΦ:Ex.RR Φ):∀ {row:List Value} {ks:List Ex.Kt},Ex.lE Φ row ks->bg row (ks.map KN)
 | [],[],_=>trivial
 | v::row,k::ks,h=>by
  refine⟨?_,tV hΦ h.2⟩;have h1:=h.1;cases k with
  | int k=>obtain⟨n,rfl,_⟩:=h1;simp [bD,KN]
  | bool=>obtain⟨b,rfl⟩:=h1;rfl
  | other t=>obtain⟨a,l,c,rfl⟩:=hΦ v t h1;rfl
 | [],_::_,h=>h.elim
 | _::_,[],h=>h.elim
section
variable {H:Type} {enc:TypeId×Value->H} {P:Program} {W:World} {base:Nat} {spare:Nat->Bool} {held:Bool} {d:DataW H} {p:List MemPlace}
theorem QL {t e:TypeId} {ks:List Ex.Kt} {dp:Nat} (ht:P.underlying t=some (.slice e)) (hk:Ex.nX P dp e=some ks) (hC:P.cellsOf e=ks.length) (hks:0<ks.length) {v:Value} (hv:∃ a l c,v=.slice a l c) (h:DataW.Trod enc P W base spare held t v d p) :
 ∃ rows,bj (Hl.all W) v (ks.map KN) rows/\∀ row∈rows,Ex.lE (Ex.rS enc P W base spare held) row ks:=by
 obtain⟨a0,len0,cap0,rfl⟩:=hv;obtain⟨fuel,hf⟩:=h;rcases open_slice ht hf with h | ⟨a,len,cap,m,n,D,Pl,hcs,hb,hl,hm,hmm,hx,hi⟩
 .have h:=h.1;simp only[Value.cells,aaf,Value.slice.injEq,aat]at h;obtain⟨rfl,rfl,rfl⟩:=h;exact⟨[],⟨-1,0,0,rfl,Sx.ah,Or.inl rfl⟩,fun _ h=>nomatch h⟩
 .simp only[Value.cells,aaf,Value.slice.injEq,aat]at hcs;obtain⟨rfl,rfl,rfl⟩:=hcs;have hlm:len0<=m:=by rw[hmm];split<;>omega
  have each:∀ i,i<len0->∃ row,row.length=ks.length/\Ex.lE (Ex.rS enc P W base spare held) row ks/\∀ j,j<ks.length->W.cell? ((a.add (i*ks.length)).add j)=row[j]?:=by
   intro i hil;obtain⟨cs',hc,ht'⟩:=hi i Sx.ah;rw[hC]at hc;obtain⟨_,hcl,hat⟩:=World.cells?_some hc;exact⟨cs',hcl,Ex.FL dp e ks n cs' _ hk ht',fun j hj=>hat j hj⟩
  rcases abR len0 with h0 | h0
  .subst h0;obtain⟨x,y,hx,hy,_⟩:=oC (some a);exact⟨[],⟨x,y,cap0,by rw[hx];rfl,hy,Or.inl rfl⟩,fun _ h=>nomatch h⟩
  .have hsp:a.spot=none:=by
    obtain⟨row,hl',_,hc⟩:=each 0 h0;have:=hc 0 hks;simp only[acT,Addr.add,abM]at this;rw[aab Sx.ah]at this;exact qw this
   obtain⟨bw,off,spot⟩:=a;simp only at hsp;subst hsp
   classical
   let row:Nat->List Value:=fun i=>if h:i<len0 then(each i h).choose else []
   have aD:∀ i,i<len0->(row i).length=ks.length/\Ex.lE (Ex.rS enc P W base spare held) (row i) ks/\∀ j,j<ks.length->W.cell? ⟨bw,off+i*ks.length+j,none⟩=(row i)[j]?:=by
    intro i hil;have:=(each i hil).choose_spec;simp only[row,dif_pos hil];refine⟨this.1,this.2.1,fun j hj=>?_⟩;rw[<-this.2.2 j hj,dz,dz]
   refine⟨(List.range len0).map row,⟨bw,off,cap0,?_,Sx.ah,Or.inr ⟨Sx.ah,fun i r hr=>?_⟩⟩,fun r hr=>?_⟩
   .rw[av Sx.ah,aaB,abG];rfl
   .have hil:i<len0:=by have:=(aai.1 hr).1;simpa using this
    rw[aao,aaD hil,aaN,aaj]at hr;subst hr;obtain⟨h1,h2,h3⟩:=aD i hil;refine⟨tV Ex.nF h2,fun j u hu=>?_⟩;rw[aaa,aaa,aaB];have hj:j<ks.length:=by rw[<-h1];exact(aai.1 hu).1
    exact kz (by rw[h3 j hj];exact hu)
   .obtain⟨i,hil,rfl⟩:=aaS.1 hr;exact(aD i (aaM.1 hil)).2.1
end
end Go.Sx
namespace Go.Proofs.YtomdimlnggpgbaaGreatDoor.opP
open Go Go.Sx Go.ChangeShapes Go.WideShapes Go.ChangeAt Go.RowKit Go.Deep
section
variable {H:Type} {enc:TypeId×Value->H} {W:World} {base b0:Nat} {spare:Nat->Bool} {held:Bool} {r:Reach}
def kh:List Ex.Kt:=[.int .i64,.int .u64]++List.replicate 32 (.int .u8)++[.int .i64,.bool,.int .u64]++List.replicate 16 (.int .u8)++[.other 62]++List.replicate 6 (.int .u64)++List.replicate 32 (.int .u8)++[.int .i64]++List.replicate 32 (.int .u8)
def kp:List Ex.Kt:=kh++[.other 46]
theorem Vp:Ex.nX Tryz.prog 6 67=some kp:=by kernel_rfl
theorem RL:∀ {n:Nat} {row:List Value},oX row (List.replicate n (Kd.int .u8))->∃ t:List Int,row=aS t/\t.length=n/\∀ b∈t,0<=b/\b<256
 | 0,[],_=>⟨[],rfl,rfl,fun _ h=>nomatch h⟩
 | n+1,v::row,h=>by
  obtain⟨t,e,hl,hb⟩:=RL (n:=n) h.2;obtain⟨z,rfl,hw⟩:=h.1;refine⟨z::t,by rw[e];rfl,by rw[aaO,hl],fun b hbm=>?_⟩;rcases aas.1 hbm with rfl | hbm
  .exact O0 hw
  .exact hb b hbm
theorem J0:∀ {rows:List (List Value)},(∀ row∈rows,oX row oY)->∃ T:List (List Int),rows=T.map aS/\∀ t∈T,t.length=16/\∀ b∈t,0<=b/\b<256
 | [],_=>⟨[],rfl,fun _ h=>nomatch h⟩
 | row::rows,h=>by
  obtain⟨T,e,hT⟩:=J0 (rows:=rows) fun r hr=>h r (aar _ hr);obtain⟨t,e2,hl,hb⟩:=RL (n:=16) (h row (aaH ..));refine⟨t::T,by rw[e,e2];rfl,fun x hx=>?_⟩;rcases aas.1 hx with rfl | hx
  .exact⟨hl,hb⟩
  .exact hT x hx
theorem LQ {v:Value} (ho:Ex.rS enc Tryz.prog W base spare held v 62):∃ (T:List (List Int)) (a:Option Addr) (c:Nat),v=.slice a T.length c/\bj (Hl.all W) v oY (T.map aS)/\∀ t∈T,t.length=16/\ak t:=by
 obtain⟨a,l,c,rfl⟩:=Ex.nF v _ ho;obtain⟨_,m,x,hx⟩:=ho;obtain⟨rows,hR,hrows⟩:=Ln Tryz.underlying62 (ks:=oY) (dp:=3) (by kernel_rfl) (by kernel_rfl) aB ⟨a,l,c,rfl⟩ (d:=x.1) (p:=x.2) ⟨m,hx⟩;obtain⟨T,e,hT⟩:=J0 hrows;subst e;have hl:l=(T.map aS).length:=by
  obtain⟨ax,ay,ac,ae,_⟩:=id hR;simp only[Value.slice.injEq]at ae;exact ae.2.1
 rw[aaB]at hl;subst hl;exact⟨T,a,c,rfl,hR,hT⟩
theorem Pv {v:Value} (ho:Ex.rS enc Tryz.prog W base spare held v 46):∃ (b:List Int) (a:Option Addr) (c:Nat),v=.slice a b.length c/\cV (Hl.all W) v b/\ak b:=by
 obtain⟨a,l,c,rfl⟩:=Ex.nF v _ ho;obtain⟨_,m,x,hx⟩:=ho;obtain⟨b,hR,hb⟩:=DQ Tryz.underlying46 (dp:=1) (by kernel_rfl) (by kernel_rfl) ⟨a,l,c,rfl⟩ (d:=x.1) (p:=x.2) ⟨m,hx⟩;have hl:l=b.length:=by
  obtain⟨ax,ay,ac,ae,_⟩:=id hR;simp only[Value.slice.injEq]at ae;exact ae.2.1
 subst hl;exact⟨b,a,c,rfl,hR,hb⟩
theorem Oo {Φ:Value->TypeId->Prop} (hΦ:Ex.RR Φ):∀ {row:List Value} {ks:List Ex.Kt},Ex.lE Φ row ks->∀ v∈row,wY v
 | [],[],_,_,h=>nomatch h
 | x::row,k::ks,h,v,hv=>by
  rcases aas.1 hv with rfl | hv
  .have h1:=h.1;cases k with
   | int k =>
    obtain⟨n,rfl,hw⟩:=h1;cases k with
    | u8=>exact O0 hw
    | u64=>exact Ug hw
    | i64=>exact SR hw
    | _=>trivial
   | bool=>obtain⟨b,rfl⟩:=h1;trivial
   | other t=>obtain⟨a,l,c,rfl⟩:=hΦ _ t h1;trivial
  .exact Oo hΦ h.2 v hv
 | [],_::_,h,_,_=>h.elim
 | _::_,[],h,_,_=>h.elim
theorem Bp {Φ:Value->TypeId->Prop} : ∀ {n:Nat} {l:List Value} {ks:List Ex.Kt},Ex.lE Φ l ks->Ex.lE Φ (l.take n) (ks.take n)
 | 0,_,_,_=>trivial
 | _+1,[],[],_=>trivial
 | n+1,_::_,_::_,h=>⟨h.1,Bp (n:=n) h.2⟩
 | _+1,[],_::_,h=>h.elim
 | _+1,_::_,[],h=>h.elim
theorem OP {row:List Value} {k n c:Nat} {a:Option Addr} (h:row[k]?=some (.slice a n c)):DF row k=n:=by unfold DF;rw[h]
theorem Ve {row:List Value} (ho:Ex.lE (Ex.rS enc Tryz.prog W base spare held) row kh) (h20:DF row 53<=20):∃ h,bN (Hl.all W) row h/\h.t.length<=20:=by
 have hok:bg row dZ:=by
  have:=tV Ex.nF ho;rwa[show kh.map KN=dZ by kernel_rfl]at this
 obtain⟨v,hv,ho53⟩:=Ex.zq ho 53 (.other 62) rfl;obtain⟨T,a,c,rfl,hR,hT⟩:=LQ ho53;rw[OP hv]at h20;refine⟨⟨row.set 53 Bk,T⟩,⟨hok,Oo Ex.nF ho,rfl,?_,by show T.length<=_;omega,hT⟩,h20⟩;rw[aan,hv];exact hR
theorem VK {row:List Value} (ho:Ex.lE (Ex.rS enc Tryz.prog W base spare held) row kp) (h20:DF row 53<=20) (h21:DF row 125<=2100):∃ c,fM (Hl.all W) (Hl.all W) row c/\c.h.t.length<=20/\c.b.length<=2100:=by
 have hok:bg row rI:=by
  have:=tV Ex.nF ho;rwa[show kp.map KN=rI by kernel_rfl]at this
 have h1:Ex.lE (Ex.rS enc Tryz.prog W base spare held) (row.take 125) kh:=by
  have:=Bp (n:=125) ho;rwa[show kp.take 125=kh by kernel_rfl]at this
 have e53:DF (row.take 125) 53=DF row 53:=by unfold DF;rw[abb ah]
 obtain⟨h,hx,hh⟩:=Ve h1 (by rw[e53];exact h20);obtain⟨v,hv,ho125⟩:=Ex.zq ho 125 (.other 46) rfl;obtain⟨b,a,c,rfl,hR,hb⟩:=Pv ho125;rw[OP hv]at h21;refine⟨⟨h,b⟩,⟨hok,hx,?_,hb,by show b.length<=_;omega⟩,hh,h21⟩;rw[aan,hv];exact hR
end
end Go.Proofs.YtomdimlnggpgbaaGreatDoor.opP
namespace Go.Sx
open Go Go.ChangeShapes Go.WideShapes Go.ChangeAt Go.RowKit Go.Deep
section
variable {H:Type} {enc:TypeId×Value->H} {P:Program} {W:World} {base:Nat} {spare:Nat->Bool} {held:Bool} {d:DataW H} {p:List MemPlace}
theorem T6 {t e e2:TypeId} {dp:Nat} (ht:P.underlying t=some (.slice e)) (he:P.underlying e=some (.slice e2)) (hk:nV P dp e2=some [.int .u8]) (hC:P.cellsOf e=1) (hC2:P.cellsOf e2=1) {v:Value} (hv:∃ a l c,v=.slice a l c) (h:DataW.Trod enc P W base spare held t v d p) :
 ∃ (us:List Value) (rows:List (List Int)) (x y:Int) (c:Nat),v=.slice (az x y) us.length c/\0<=y/\us.length=rows.length/\(∀ (j:Nat) (u:Value),us[j]?=some u->0<=x/\(Hl.all W).cell x.toNat (y.toNat+j)=some u)/\(∀ (j:Nat) (u:Value) (r:List Int),us[j]?=some u->rows[j]?=some r->cV (Hl.all W) u r)/\(∀ u∈us,∃ a l c,u=Value.slice a l c/\l<=c)/\∀ r∈rows,∀ b∈r,0<=b/\b<256:=by
 obtain⟨a0,len0,cap0,rfl⟩:=hv;obtain⟨fuel,hf⟩:=h;rcases open_slice ht hf with h | ⟨a,len,cap,m,n,D,Pl,hcs,hb,hl,hm,hmm,hx,hi⟩
 .have h:=h.1;simp only[Value.cells,aaf,Value.slice.injEq,aat]at h;obtain⟨rfl,rfl,rfl⟩:=h;exact⟨[],[],-1,0,0,rfl,ah,rfl,(fun _ _ h=>nomatch h),(fun _ _ _ h=>nomatch h),(fun _ h=>nomatch h),fun _ h=>nomatch h⟩
 .simp only[Value.cells,aaf,Value.slice.injEq,aat]at hcs;obtain⟨rfl,rfl,rfl⟩:=hcs;have hlm:len0<=m:=by rw[hmm];split<;>omega
  have each:∀ i,i<len0->∃ (u:Value) (bs:List Int),W.cell? (a.add i)=some u/\cV (Hl.all W) u bs/\(∃ a l c,u=Value.slice a l c/\l<=c)/\∀ b∈bs,0<=b/\b<256:=by
   intro i hil;obtain⟨cs',hc,ht'⟩:=hi i ah;rw[hC,acw]at hc;obtain⟨_,hcl,hat⟩:=World.cells?_some hc;obtain⟨u,rfl,hu⟩:∃ u,cs'=[u]/\∃ a l c,u=Value.slice a l c/\l<=c:=by
    rcases open_slice he ht' with h | ⟨a,len,cap,m,n,D,Pl,hcs,_,hl,_⟩
    .exact⟨_,h.1,_,_,_,rfl,aav _⟩
    .exact⟨_,hcs,_,_,_,rfl,hl⟩
   have h0:=hat 0 ah;have ha:(a.add i).add 0=a.add i:=by
    obtain⟨bw,off,spot⟩:=a;cases spot<;>simp [Addr.add]
   rw[ha]at h0;obtain⟨a1,l1,c1,rfl,hlc⟩:=hu;obtain⟨bs,hr,hb⟩:=DQ (enc:=enc) (W:=W) (base:=base) (spare:=spare) (held:=held) he hk hC2 ⟨a1,l1,c1,rfl⟩ ⟨n,by simpa [Value.cells] using ht'⟩;exact⟨_,bs,by simpa using h0,hr,⟨_,_,_,rfl,hlc⟩,hb⟩
  rcases abR len0 with h0 | h0
  .subst h0;obtain⟨x,y,hx,hy,_⟩:=oC (some a);exact⟨[],[],x,y,cap0,by rw[hx];rfl,hy,rfl,(fun _ _ h=>nomatch h),(fun _ _ _ h=>nomatch h),(fun _ h=>nomatch h),fun _ h=>nomatch h⟩
  .have hsp:a.spot=none:=by
    obtain⟨u,bs,hc,_⟩:=each 0 h0;simp only[Addr.add,abM]at hc;exact qw hc
   obtain⟨bw,off,spot⟩:=a;simp only at hsp;subst hsp
   classical
   let un:Nat->Value:=fun i=>if h:i<len0 then(each i h).choose else .bool false
   let bn:Nat->List Int:=fun i=>if h:i<len0 then(each i h).choose_spec.choose else []
   have hub:∀ i,i<len0->W.cell? ⟨bw,off+i,none⟩=some (un i)/\cV (Hl.all W) (un i) (bn i)/\(∃ a l c,un i=Value.slice a l c/\l<=c)/\∀ b∈bn i,0<=b/\b<256:=by
    intro i hil;have:=(each i hil).choose_spec.choose_spec;simp only[un,bn,dif_pos hil];refine⟨?_,this.2⟩;rw[<-dz];exact this.1
   have get:∀ (j:Nat) (u:Value),((List.range len0).map un)[j]?=some u->j<len0/\u=un j:=by
    intro j u hj;have hl:j<len0:=by have:=(aai.1 hj).1;simpa using this
    rw[aao,aaD hl,aaN,aaj]at hj;exact⟨hl,hj.symm⟩
   refine⟨(List.range len0).map un,(List.range len0).map bn,bw,off,cap0,?_,ah,aF,fun j u hj=>?_,fun j u r hj hr=>?_,fun u hu=>?_,fun r hr=>?_⟩
   .rw[av ah,aaB,abG];rfl
   .obtain⟨hl,rfl⟩:=get j u hj;refine⟨ah,?_⟩;simp only[aaa];exact kz (hub j hl).1
   .obtain⟨hl,rfl⟩:=get j u hj;rw[aao,aaD hl,aaN,aaj]at hr;subst hr;exact(hub j hl).2.1
   .obtain⟨i,hi,rfl⟩:=aaS.1 hu;exact(hub i (aaM.1 hi)).2.2.1
   .obtain⟨i,hi,rfl⟩:=aaS.1 hr;exact(hub i (aaM.1 hi)).2.2.2
end
end Go.Sx
namespace Go.Proofs.YtomdimlnggpgbaaGreatDoor
open Go Go.Sx Go.Pk Go.RowKit
def Ro:List (String×DataW Unit):=[("jalousie/store.errLost",Rows.laid_jalousie_store_errLost),("jalousie/store.errFull",Rows.laid_jalousie_store_errFull),("jalousie/store.errSpent",Rows.laid_jalousie_store_errSpent)]
theorem ZN:Tryz.prog.globalNamed "jalousie/store.errLost"= some 0:=by kernel_rfl
theorem ZO:Tryz.prog.globalNamed "jalousie/store.errFull"= some 1:=by kernel_rfl
theorem ZP:Tryz.prog.globalNamed "jalousie/store.errSpent"= some 2:=by kernel_rfl
theorem ZU:(Tryz.prog.globals[0]?).map (·.type)=some 107:=by kernel_rfl
theorem ZV:(Tryz.prog.globals[1]?).map (·.type)=some 107:=by kernel_rfl
theorem ZW:(Tryz.prog.globals[2]?).map (·.type)=some 107:=by kernel_rfl
theorem GD:Tryz.prog.cellsOf 319=1:=by kernel_rfl
theorem Cy:Tryz.prog.cellsOf 9=1:=by kernel_rfl
theorem Rh : "*"++ "errors.errorString"= "*errors.errorString":=by decide
theorem SH (u:TypeId) (h:Tryz.prog.typeName? 3 u=some "*errors.errorString"):u=299 :=
 typeName_ptr_named (nm:= "errors.errorString") (by rw[Rh];kernel_rfl) (by kernel_rfl) aB u (by rw[Rh];exact h)
set_option maxRecDepth 100000 in
theorem GF {W:World} (h:laidMetH Tryz.prog Ro W):∃ a,Gl (Hl.all W) a:=by
 rw[MakeChecks.laidMetH_plain _ _ _ (by kernel_rfl)]at h;obtain⟨ps,⟨g0,t0,cs0,f0,p0,q0,M8,ht0,hv0,hd0,⟨g1,t1,cs1,f1,p1,q1,GJ,ht1,hv1,hd1,⟨g2,t2,cs2,f2,p2,q2,uB,ht2,hv2,hd2,_,e2⟩,e1⟩,e0⟩,hnd,hrows⟩:=h;obtain rfl:=aaZ (ZN.symm.trans M8);obtain rfl:=aaZ (ZO.symm.trans GJ);obtain rfl:=aaZ (ZP.symm.trans uB);obtain rfl:=aaZ (ZU.symm.trans ht0);obtain rfl:=aaZ (ZV.symm.trans ht1);obtain rfl:=aaZ (ZW.symm.trans ht2);subst e2;subst e1;subst e0;obtain⟨l0⟩:=cs0;obtain⟨l1⟩:=cs1;obtain⟨l2⟩:=cs2;have ok0:∀ u v,l0=[.iface u v]->Value.okWide Tryz.prog W .any 0 u v:=fun u v e=>by
  subst e;exact(hrows 0 0 (by simp [MemPlace.row])).2 u v (by simpa using World.var?_cell M8 hv0 0)
 have ok1:∀ u v,l1=[.iface u v]->Value.okWide Tryz.prog W .any 0 u v:=fun u v e=>by
  subst e;exact(hrows 1 0 (by simp [MemPlace.row])).2 u v (by simpa using World.var?_cell GJ hv1 0)
 have ok2:∀ u v,l2=[.iface u v]->Value.okWide Tryz.prog W .any 0 u v:=fun u v e=>by
  subst e;exact(hrows 2 0 (by simp [MemPlace.row])).2 u v (by simpa using World.var?_cell uB hv2 0)
 obtain⟨a0,s0,rfl,hc0,hs0,hz0,rfl⟩:=errorString_of_trod Tryz.underlying107 SH Tryz.underlying299 Tryz.underlying319 rfl rfl Tryz.underlying9 GD Cy hd0 ok0;obtain⟨a1,s1,rfl,hc1,hs1,hz1,rfl⟩:=errorString_of_trod Tryz.underlying107 SH Tryz.underlying299 Tryz.underlying319 rfl rfl Tryz.underlying9 GD Cy hd1 ok1;obtain⟨a2,s2,rfl,hc2,hs2,hz2,rfl⟩:=errorString_of_trod Tryz.underlying107 SH Tryz.underlying299 Tryz.underlying319 rfl rfl Tryz.underlying9 GD Cy hd2 ok2;obtain⟨b0,y0,hb0⟩:=(hrows a0.block a0.off (by simp [MemPlace.row])).1;obtain⟨b1,y1,hb1⟩:=(hrows a1.block a1.off (by simp [MemPlace.row])).1;obtain⟨b2,y2,hb2⟩:=(hrows a2.block a2.off (by simp [MemPlace.row])).1;have n01:a0≠a1:=by rintro rfl;simp [MemPlace.row]at hnd
 have n02:a0≠a2:=by rintro rfl;simp [MemPlace.row]at hnd
 have n12:a1≠a2:=by rintro rfl;simp [MemPlace.row]at hnd
 have cell:∀ {g:Nat} {v:Value},W.cell? ⟨g,0,none⟩=some v->(Hl.all W).cell g 0=some v:=by
  intro g v h;unfold World.cell? at h;unfold Hl.cell Hl.all;cases hh:W.heap[g]? with
  | none=>simp [hh]at h
  | some o=>cases o<;>simp_all
 have c0:=cell (World.var?_cell M8 hv0 0);have c1:=cell (World.var?_cell GJ hv1 0);have c2:=cell (World.var?_cell uB hv2 0);refine⟨fun g=>if g=oO then a0 else if g=mV then a1 else a2,fun g hg=>?_,fun g hg=>?_,fun g h hg hh hne=>?_⟩
 .rcases hg with rfl | rfl | rfl
  .exact c0
  .exact c1
  .exact c2
 .rcases hg with rfl | rfl | rfl
  .exact⟨b0,y0,hb0⟩
  .exact⟨b1,y1,hb1⟩
  .exact⟨b2,y2,hb2⟩
 .rcases hg with rfl | rfl | rfl<;>rcases hh with rfl | rfl | rfl
  .exact absurd rfl hne
  .exact n01
  .exact n02
  .exact fun e=>n01 e.symm
  .exact absurd rfl hne
  .exact n12
  .exact fun e=>n02 e.symm
  .exact fun e=>n12 e.symm
  .exact absurd rfl hne
def oQ:List (String×DataW Unit):=[("jalousie/jalousieref01.words",Rows.laid_jalousie_jalousieref01_words),("errors.errorType",Rows.laid_errors_errorType),("jalousie/hash.rounds",Rows.laid_jalousie_hash_rounds),("jalousie/store.errLost",Rows.laid_jalousie_store_errLost),("jalousie/store.errFull",Rows.laid_jalousie_store_errFull),("jalousie/store.errSpent",Rows.laid_jalousie_store_errSpent)]
theorem kz {W:World} {g j:Nat} {v:Value} (h:W.cell? ⟨g,j,none⟩=some v):(Hl.all W).cell g j=some v:=by
 unfold World.cell? at h;unfold Hl.cell Hl.all;cases hh:W.heap[g]? with
 | none=>simp [hh]at h
 | some o=>cases o<;>simp_all
theorem ZZ {W:World} (h:laidMetH Tryz.prog oQ W):∃ a,Gl (Hl.all W) a:=by
 have h3:=h.filter fun x=>x.1== "jalousie/store.errLost"|| x.1== "jalousie/store.errFull"|| x.1== "jalousie/store.errSpent"
 have e:(oQ.filter fun x=>x.1== "jalousie/store.errLost"|| x.1== "jalousie/store.errFull"|| x.1== "jalousie/store.errSpent")=Ro:=by kernel_rfl
 rw[e]at h3;exact GF h3
theorem Nl {W:World} {n:String} {g:Nat} (hn:Tryz.prog.globalNamed n=some g) (hgt:(Tryz.prog.globals[g]?).map (·.type)=some 172) (h:laidMet Tryz.prog [(n,.agg (Dg.map fun z=>.lit (.int .u32 z)))] W):uu (Hl.all W) g:=by
 obtain⟨ps,⟨g',t',cs,fuel,p,q,hg,ht,hv,hd,_,_⟩,_,_⟩:=h;obtain rfl:=aaZ (hn.symm.trans hg);obtain rfl:=aaZ (hgt.symm.trans ht);obtain⟨xs,m,_,ex,_,hl,hel⟩:=DataW.trod_array Tryz.underlying172 hd;have c5:Tryz.prog.cellsOf 170=1:=by kernel_rfl
 have hlen:Dg.length=64:=by kernel_rfl
 intro r hr;have hE:=hel r hr;rw[c5,acw,aab ah]at hE;obtain⟨z,e1,e2,_⟩:=DataW.trod_int Tryz.underlying170 hE;have e3:(xs.map (·.1))=Dg.map fun n=>.lit (.int .u32 n):=(DataW.agg.inj (Prod.mk.inj ex).1).symm;have e4:(xs.map (·.1))[r]?=(Dg.map fun n=>(DataW.lit (.int .u32 n):DataW Unit))[r]?:=by rw[e3]
 rw[aao,aao,aab (by omega:r<xs.length),aab (by omega:r<Dg.length),e2]at e4;have hz:z=Dg.getD r 0:=by
  simp only[aaN,aaj,DataW.lit.injEq,Lit.int.injEq,aaV]at e4;rw[e4,List.getD,aab (by omega:r<Dg.length)];rfl
 refine kz ?_;rw[World.var?_cell hg hv r,<-hz];have:cs.toList[r]?=some (.int .u32 z):=by
  have h0:((cs.toList.drop r).take 1)[0]?=some (.int .u32 z):=by rw[e1];rfl
  simpa using h0
 simpa using this
theorem ZS:Tryz.prog.globalNamed "jalousie/jalousieref01.words"= some 3:=by kernel_rfl
theorem ZR:Tryz.prog.globalNamed "jalousie/hash.rounds"= some 5:=by kernel_rfl
theorem ZY:(Tryz.prog.globals[3]?).map (·.type)=some 172:=by kernel_rfl
theorem ZX:(Tryz.prog.globals[5]?).map (·.type)=some 172:=by kernel_rfl
theorem XM {W:World} (h:laidMetH Tryz.prog oQ W):uu (Hl.all W) 3:=by
 have h3:=h.filter fun x=>x.1== "jalousie/jalousieref01.words";have e:(oQ.filter fun x=>x.1== "jalousie/jalousieref01.words")=[("jalousie/jalousieref01.words",.agg (Dg.map fun z=>.lit (.int .u32 z)))]:=by kernel_rfl
 rw[e,MakeChecks.laidMetH_plain _ _ _ (by kernel_rfl)]at h3;exact Nl ZS ZY h3
theorem XL {W:World} (h:laidMetH Tryz.prog oQ W):uu (Hl.all W) 5:=by
 have h3:=h.filter fun x=>x.1== "jalousie/hash.rounds";have e:(oQ.filter fun x=>x.1== "jalousie/hash.rounds")=[("jalousie/hash.rounds",.agg (Dg.map fun z=>.lit (.int .u32 z)))]:=by kernel_rfl
 rw[e,MakeChecks.laidMetH_plain _ _ _ (by kernel_rfl)]at h3;exact Nl ZR ZX h3
theorem ZQ:Tryz.prog.globalNamed "errors.errorType"= some 4:=by kernel_rfl
theorem ZT:(Tryz.prog.cutTypes.find? (·.1== "internal/reflectlite.rtype")).map (·.2)=some 243:=by kernel_rfl
theorem XB:((List.range Tryz.prog.types.size).filter fun t=>Tryz.prog.rowNamed t [101,114,114,111,114])=[107]:=by kernel_rfl
theorem Xz {W:World} (h:laidMetH Tryz.prog oQ W):(Hl.all W).cell 4 0=some yn:=by
 have h3:=(laidMetH_iff.1 h).2;have e:(oQ.filter fun x=>x.2.handleName?.isSome)=[("errors.errorType",Rows.laid_errors_errorType)]:=by kernel_rfl
 rw[e]at h3;obtain⟨name,u,ty,e1,e2,e3,e4,e5⟩:=h3 _ (aam.2 rfl);have en:name=[101,114,114,111,114]:=(aaZ e1).symm;subst en;obtain rfl:=aaZ (ZT.symm.trans e2);have hm:ty∈(List.range Tryz.prog.types.size).filter fun t=>Tryz.prog.rowNamed t [101,114,114,111,114]:=abq.2 ⟨aaM.2 e3,e4⟩;rw[XB]at hm;obtain rfl:=aam.1 hm;have hh:typeHandle Tryz.prog 107=.pointer (some ⟨7,107,none⟩):=by kernel_rfl
 rw[hh]at e5;refine kz ?_;unfold yn;simpa using World.var?_cell ZQ e5 0
theorem Ku (os:Os) (args:Array Value):laidMetH Tryz.prog oQ ((World.doorLaid Tryz.prog 400 os).forCall (fun _ _=>0) ⟨#[],args,[]⟩).memory :=
 laidMetH_of_parts3 (fuel:=8) (laidMet_of_run' 8 (by kernel_rfl) (by kernel_rfl)) (by kernel_rfl) (by kernel_rfl)
end Go.Proofs.YtomdimlnggpgbaaGreatDoor
