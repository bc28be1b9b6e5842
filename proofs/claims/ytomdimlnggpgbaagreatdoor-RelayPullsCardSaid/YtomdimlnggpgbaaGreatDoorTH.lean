/- RelayPlays. -/
import Derived.Test.YtomdimlnggpgbaaGreatDoorTG
set_option linter.all false
set_option maxHeartbeats 4000000
namespace Go.Sx
open Go
def IT {A B C D:Hl} (h1:A.bq B) (h2:A.bq C) (h3:A.bq D) (h4:B.bq C) (h5:B.bq D) (h6:C.bq D):A.le (cu [A,B,C,D])/\B.le (cu [A,B,C,D])/\C.le (cu [A,B,C,D])/\D.le (cu [A,B,C,D]):=by
 obtain⟨r1,r2,r3⟩:=Cg h4 h5 h6;have hd:A.bq (cu [B,C,D]):=by
  show A.bq (B.un (C.un (D.un Hl.none)));exact Hl.xX h1 (Hl.xX h2 (Hl.xX h3 (Hl.xW _)))
 have hr:(cu [B,C,D]).le (cu [A,B,C,D]):=Hl.bj hd;exact⟨Hl.aX _ _,fun k o h=>hr k o (r1 k o h),fun k o h=>hr k o (r2 k o h),fun k o h=>hr k o (r3 k o h)⟩
def nN.mono {R R':Hl} (hl:R.le R') {u:Value} {bs:List Int} (h:nN R u bs):nN R' u bs:=by
 obtain⟨x,y,c,hv,hy,h⟩:=h;refine⟨x,y,c,hv,hy,h.imp id fun⟨h0,h⟩=>⟨h0,fun j z hz=>?_⟩⟩;have:=h j z hz;unfold Hl.cell at this ⊢;split at this
 .rename_i o c' T fr ho;rw[hl _ _ ho];exact this
 .cases this
end Go.Sx
namespace Go.Proofs.YtomdimlnggpgbaaGreatDoor.D
open Go Go.Sx
variable {D:DM}{F H H' R R':Hl}{frm n:Int}{L L':LM}{K:List Hl}{b bs bs' nt:List Int}{dp dp' p u v:Value}
def oX (H:Hl) (p dp:Value) (L:LM) (bs:List Int):Prop:=∃ sl,fF H p dp sl L/\nN H sl bs
def oX.mono (hl:R.le R') (h:oX R p dp L bs):oX R' p dp L bs:=by
 obtain⟨sl,h1,h2⟩:=h;exact⟨sl,fF.mono h1 hl,nN.mono hl h2⟩
def dt.rd (h:dt H p dp L bs):oX H p dp L bs:=h.parts
def oX.uniq (h:oX H p dp L bs) (h':oX H p dp' L' bs'):dp=dp'/\L=L'/\bs=bs':=by
 obtain⟨sl,h1,h2⟩:=h;obtain⟨sl',h1',h2'⟩:=h';obtain⟨e1,rfl,e3⟩:=h1.uniq h1';exact⟨e1,e3,h2.uniq h2'⟩
def CP (hD:aE H dp D) (hp:lL.post [dp] [H] [] v [H'] F):aE H' dp D/\v=.int .i64 D.n:=by
 obtain⟨p',Hx,D',H2,hx,hH,hD',hH2,hD2,hv⟩:=hp;simp only[aag,aau]at hx hH hH2;subst hx hH;have e:=hD'.uniq hD;subst e;rw[<-hH2]at hD2;exact⟨hD2,hv⟩
def Ba (hD:aE H dp D) (hp:vZ.post [dp,.int .i64 frm,.int .i64 n] [H] [] v [H'] F) :
 ∃ pv,aE H' dp D/\v=.tuple #[pv,.int .i64 (jN D frm n)]/\(jN D frm n=0->dt F pv dp (jO D frm n) (ky D frm n))/\(jN D frm n≠0->pv=.pointer none):=by
 obtain⟨dp',frm',n',Hx,D',H'',pv,hx,hH,hDx,hH',hDy,hv,hl⟩:=hp;have hx:dp=dp'/\frm=frm'/\n=n':=by simpa using hx
 obtain⟨e1,e2,e3⟩:=hx;subst e1 e2 e3;have hH:H=Hx:=by simpa using hH
 subst hH;have e:=hDx.uniq hD;subst e;have hH':H'=H'':=by simpa using hH'
 subst hH';exact⟨pv,hDy,hv,hl⟩
def Dv {HD:Hl} (h1:dt H p dp L bs) (h2:aE HD dp D) (h3:fC R u b) (hp:qn.post [p,u,.agg (aS nt).toArray] [H,HD] [R] v K F) :
 ∃ H' HD',K=[H',HD']/\aE HD' dp (bp D L bs b nt).D/\dt H' p dp (bp D L bs b nt).L (bp D L bs b nt).bs/\v=.int .i64 (bp D L bs b nt).e:=by
 obtain⟨p',u',b',nt',Hx,HDx,Rx,dp',L',bs',D',H',HD',hx,hH,hR,hLx,hDx,hBx,hK,hDy,hLy,hv⟩:=hp;have hx:p=p'/\u=u'/\aS nt=aS nt':=by simpa using hx
 obtain⟨e1,e2,e3⟩:=hx;have e3:=jx e3;subst e1 e2 e3;have hH:H=Hx/\HD=HDx:=by simpa using hH
 obtain⟨e1,e2⟩:=hH;subst e1 e2;have hR:R=Rx:=by simpa using hR
 subst hR;obtain⟨e1,e2,e3⟩:=hLx.uniq h1;subst e1 e2 e3;have e:=hDx.uniq h2;subst e;have e:=hBx.uniq h3;subst e;exact⟨H',HD',hK,hDy,hLy,hv⟩
def At (h:oX H p dp L bs) (hb:bs.length<=1048576):fJ.pre [p] [] [H,H]:=by
 obtain⟨sl,h1,h2⟩:=h;exact⟨p,H,H,dp,sl,L,bs,rfl,rfl,h1,h2,hb⟩
def xL (h:oX H p dp L bs) (hp:fJ.post [p] [] [H,H] v K F):bM F 5 v bs:=by
 obtain⟨sl,h1,h2⟩:=h;obtain⟨p',R1,R2,dp',sl',L',bs',hx,hR,hLx,hBx,hO⟩:=hp;have hx:p=p':=by simpa using hx
 subst hx;have hR:H=R1/\H=R2:=by simpa using hR
 obtain⟨e1,e2⟩:=hR;subst e1 e2;obtain⟨e1,e2,e3⟩:=hLx.uniq h1;subst e1 e2 e3;have e:=hBx.uniq h2;subst e;exact hO
def Om (h:oX H p dp L bs) (hb:bs.length<=1048576):wm.pre [p] [] [H]:=by
 obtain⟨sl,h1,h2⟩:=h;exact⟨p,H,dp,sl,L,bs.length,rfl,rfl,h1,nN.sg h2,hb⟩
def Ld (h:oX H p dp L bs) (hp:wm.post [p] [] [H] v K F):v=.int .i64 (L.most-bs.length):=by
 obtain⟨sl,h1,h2⟩:=h;obtain⟨p',R1,dp',sl',L',n',hx,hR,hLx,hs,hv⟩:=hp;have hx:p=p':=by simpa using hx
 subst hx;have hR:H=R1:=by simpa using hR
 subst hR;obtain⟨e1,e2,e3⟩:=hLx.uniq h1;subst e1 e2 e3;have e:=hs.uniq (nN.sg h2);subst e;exact hv
def KF (h:oX H p dp L bs):pE.pre [p] [] [H]:=by
 obtain⟨sl,h1,h2⟩:=h;exact⟨p,H,dp,sl,L,rfl,rfl,h1⟩
def GO (h:oX H p dp L bs) (hp:pE.post [p] [] [H] v K F):v=.agg (aS L.note).toArray:=by
 obtain⟨sl,h1,h2⟩:=h;obtain⟨p',R1,dp',sl',L',hx,hR,hLx,hv⟩:=hp;have hx:p=p':=by simpa using hx
 subst hx;have hR:H=R1:=by simpa using hR
 subst hR;obtain⟨e1,e2,e3⟩:=hLx.uniq h1;subst e1 e2 e3;exact hv
def tz (hD:D.ok) (hn:3<=n/\n<=16384):((ky D frm n).length:Int)<=64*(n-2):=by
 have hm:0<=64*(n-2):=ah;have h0:=(oc hD frm hm 0).2;have h1:=(oc hD frm hm 1).2;have hs:(jO D frm n).size<=64*(n-2):=by
  show(oS D frm n).getD 1 0<=_;unfold oS;split
  .exact h1
  .exact h0
 unfold ky wZ;rw[aaA];omega
end Go.Proofs.YtomdimlnggpgbaaGreatDoor.D
namespace Go.Proofs.YtomdimlnggpgbaaGreatDoor
open Go Go.Sx Go.Pk
open Go.Proofs.YtomdimlnggpgbaaGreatDoor.D hiding aQ aD ib
variable {D:DM}{J q:Env}{F H H' R R' RA:Hl}{L:LM}{rows:List (List Int)}{Hs K Rs:List Hl}{bs:List Int}{a b j m n:Nat}{dp dp' p pa pb sl u v w:Value}
def IM (h:oX H p dp L bs):Kp.pre [p] [] [H]:=by
 obtain⟨sl,h1,h2⟩:=h;exact⟨p,H,dp,sl,L,rfl,rfl,h1⟩
def DZ (h:oX H p dp L bs) (hp:Kp.post [p] [] [H] v K F):v=.int .u64 (rP L):=by
 obtain⟨sl,h1,h2⟩:=h;obtain⟨p',R1,dp',sl',L',hx,hR,hLx,hv⟩:=hp;have hx:p=p':=by simpa using hx
 subst hx;have hR:H=R1:=by simpa using hR
 subst hR;obtain⟨e1,e2,e3⟩:=hLx.uniq h1;subst e1 e2 e3;exact hv
def zO (h:fC R u bs) (hp:vf.post [u] [] [R] v K F):bX F v (jf bs):=by
 obtain⟨u',bs',R',e1,e2,hR',hO⟩:=hp;simp only[aag,aau]at e1 e2;subst e1 e2;rw[h.uniq hR'];exact hO
structure SM where
 LA:LM
 bA:List Int
 LB:LM
 bB:List Int
 recs:List (List Int)
 over:Bool
variable {S S':SM}
def Lo (a:Nat) (pa pb sl:Value) (o:Bool):Hl:=Hl.one a (.cells #[pa,pb,sl,.bool o] 101 (0,0))
structure Pd (H:Hl) (a:Nat) (dp pa pb sl:Value) (HA HB HR:Hl) (S:SM):Prop where
 la:dt HA pa dp S.LA S.bA
 lb:dt HB pb dp S.LB S.bB
 rows:bX HR sl S.recs
 d1:(Lo a pa pb sl S.over).bq HA
 d2:(Lo a pa pb sl S.over).bq HB
 d3:(Lo a pa pb sl S.over).bq HR
 d4:HA.bq HB
 d5:HA.bq HR
 d6:HB.bq HR
 hl:H=cu [Lo a pa pb sl S.over,HA,HB,HR]
def iP (H:Hl) (p dp:Value) (S:SM):Prop:=∃ (a:Nat) (pa pb sl:Value) (HA HB HR:Hl),p=.pointer (some ⟨a,0,none⟩)/\Pd H a dp pa pb sl HA HB HR S
structure BI (H:Hl) (a:Nat) (dp pa pb sl:Value) (S:SM):Prop where
 bd:H a=some (.cells #[pa,pb,sl,.bool S.over] 101 (0,0))
 la:oX H pa dp S.LA S.bA
 lb:oX H pb dp S.LB S.bB
 rows:bX H sl S.recs
def mn (H:Hl) (p dp:Value) (S:SM):Prop:=∃ (a:Nat) (pa pb sl:Value),p=.pointer (some ⟨a,0,none⟩)/\BI H a dp pa pb sl S
def iP.rd (h:iP H p dp S):mn H p dp S:=by
 obtain⟨a,pa,pb,sl,HA,HB,HR,hp,h⟩:=h;obtain⟨l1,l2,l3,l4⟩:=IT h.d1 h.d2 h.d3 h.d4 h.d5 h.d6;rw[<-h.hl]at l1 l2 l3 l4;exact⟨a,pa,pb,sl,hp,l1 _ _ (Hl.aN _ _),h.la.rd.mono l2,h.lb.rd.mono l3,h.rows.mono l4⟩
def mn.mono (hl:R.le R') (h:mn R p dp S):mn R' p dp S:=by
 obtain⟨a,pa,pb,sl,hp,h⟩:=h;exact⟨a,pa,pb,sl,hp,hl _ _ h.bd,h.la.mono hl,h.lb.mono hl,h.rows.mono hl⟩
def mn.uniq (h:mn H p dp S) (h':mn H p dp' S'):dp=dp'/\S=S':=by
 obtain⟨a,pa,pb,sl,rfl,h⟩:=h;obtain⟨a',pa',pb',sl',hp,h'⟩:=h';have e:a=a':=by simpa using hp
 subst e;have hb:=h.bd.symm.trans h'.bd;simp only[aak,Obj.cells.injEq,aaH,aag,Value.bool.injEq,aau]at hb;obtain⟨rfl,rfl,rfl,e4⟩:=hb;obtain⟨e1,e2,e3⟩:=h.la.uniq h'.la;obtain⟨_,e5,e6⟩:=h.lb.uniq h'.lb;have e7:=h.rows.uniq h'.rows;refine⟨e1,?_⟩;obtain⟨x1,x2,x3,x4,x5,x6⟩:=S;obtain⟨y1,y2,y3,y4,y5,y6⟩:=S';simp only at e2 e3 e4 e5 e6 e7;subst e2 e3 e4 e5 e6 e7;rfl
def fQ (D:DM):Int:=if D.n/2<3 then 1 else if D.gone then 5 else 0
def rV (D:DM):LM:=jO D 0 ((D.n/2:Nat):Int)
def nA (D:DM):List Int:=ky D 0 ((D.n/2:Nat):Int)
def lr (D:DM):LM:=jO D ((D.n/2:Nat):Int) ((D.n/2:Nat):Int)
def iV (D:DM):List Int:=ky D ((D.n/2:Nat):Int) ((D.n/2:Nat):Int)
def VC (A:LM) (bA:List Int) (B:LM) (bB:List Int):SM:=⟨A,bA,B,bB,jf bA,false⟩
def ic (D:DM):SM:=if rP (rV D)<rP (lr D)then VC (lr D) (iV D) (rV D) (nA D)else VC (rV D) (nA D) (lr D) (iV D)
def uZ:Sx.Spec where
 fn:=13
 own:=[.arg 0]
 rd:=[]
 res:=[.one .ptr,.one (.int .i64)]
 links:=[0]
 pre:=fun xs Hs Rs=>∃ dp H D,xs=[dp]/\Hs=[H]/\aE H dp D/\aG (nA D)/\aG (iV D)
 post:=fun xs Hs Rs v Hs' F=>∃ dp H D H' pv,xs=[dp]/\Hs=[H]/\aE H dp D/\Hs'=[H']/\aE H' dp D/\v=.tuple #[pv,.int .i64 (fQ D)]/\(fQ D=0->iP F pv dp (ic D))/\(fQ D≠0->pv=.pointer none)
def Xg:List Sx.Spec:=[lL,vZ,Kp,fJ,vf]
def T9:∀ t∈Xg,t.OK Tryz.prog:=av wy <| av NK <| av PN <| av Ar <| av LC <| bN
def zL:aF Tryz.prog Xg uZ.fn where
 Λ:=aD
 args:=[TP (.var 0) (.lit 0)]
 mem:=[.hp 1 [] [.var 0] []]
 nv:=2
def Y0:lL.res=[.one (.int .i64)]:=rfl
def Y1:vZ.res=[.one .ptr,.one (.int .i64)]:=rfl
def Y4:Kp.res=[.one (.int .u64)]:=rfl
def Y5:fJ.res=[.one .sl]:=rfl
def Y7:vf.res=[.one .sl]:=rfl
def ZG (n:Nat):(aT n [Cp.one .ptr,Cp.one (.int .i64)]≠[])=True:=by simp [aT,Cp.roots,Ck.root]
def AD (h:n<=16384):IntKind.i64.wrap ((n:Int).tdiv 2)=((n/2:Nat):Int):=by
 have e:(n:Int).tdiv 2=((n/2:Nat):Int):=rfl;rw[e];exact wrap_i64 ah ah
set_option maxRecDepth 4000 in
def Lu:uZ.OK Tryz.prog:=by
 refine Spec.aV (Γ:=Xg) T9 ?_;rintro xs Hs Rs hl1 hl2 ⟨dp,H,D,rfl,rfl,hD,hlo,hhi⟩;have e1:Rs=[]:=aad.1 hl2;subst e1;obtain⟨da,s,m,es,clock,hdp,hDi⟩:=id hD;have hDn:=hDi.ok.n;have hok:=hDi.ok;refine⟨zL,aQ [(da:Int)] false [Hl.none,H],fun _ _=>True,fun _ _=>0,?_,⟨?_,?_,?_,?_⟩,(fun _ h=>nomatch h),?_⟩
 .show [Value.pointer (ar (da:Int) 0)]=_;rw[js,hdp]
 .intro r hr ho;simp [zL]at hr;subst hr;exact⟨H,aC,Hl.le_refl _⟩
 .intro r hr ho;simp [zL]at hr;subst hr;cases ho
 .simp [zL]
 .intro r hr;simp [zL]at hr;subst hr;trivial
 .refine aF.read [] [] [] ?_;generalize hρ:aQ [(da:Int)] false [Hl.none,H]=J;have v0:J.i 0=da:=by rw[<-hρ];rfl
  have w1:J.h 1=H:=by rw[<-hρ];rfl
  clear hρ;have ep:Value.pointer (ar (da:Int) 0)=dp:=by rw[js,hdp]
  have bad:∀ (q:Env) (k:Nat) (vs:List Nat) (t:Mem) (x:E) (e:Int),aE (q.h k) dp D->az q x=e->fQ D=e->e≠0 ->
   postOf uZ [dp] [H] [] q (.hp k vs [.var 0] []::t) (.tup [.one (.hptr (.lit (-1)) (.lit 0)),.one (.int .i64 x)]):=by
   intro q k vs t x e hq hx he hne _;refine⟨[[0]],[],rfl,rfl,⟨(bh fun j=>[-1,0,e].getD j 0),?_,⟨by show(-1:Int)<= -1;omega,aar _⟩,zzT,zzT⟩,dp,H,D,_,.pointer none,rfl,rfl,hD,rfl,?_,?_,fun h=>absurd (he.symm.trans h) hne,fun _=>rfl⟩
   .subst hx;rfl
   .show aE (cu [q.h k]) _ _;rw[aL];exact hq
   .rw[he,<-hx];rfl
  simp only[go_sem,Nat.reduceAdd,Xg,Y0,Y1,Y4,Y5,Y7,Jy,QT,ZG,IV];rw[v0,w1,ep];refine⟨⟨dp,H,D,rfl,rfl,hD⟩,fun q1 g1 ⟨F1,hp1,_⟩=>?_⟩;obtain⟨hD1,hv1⟩:=CP hD hp1;have hv1:q1.i 2=D.n:=by simpa using hv1
  rw[hv1,AD hDn,g1.i 0,v0,ep];refine⟨fun hlt=>bad q1 2 _ _ _ 1 hD1 (aq _ _) (by unfold fQ;rw[aay ah]) aA,fun hge=>?_⟩;have hn3:3<=D.n/2:=ah;have hE:fQ D=if D.gone then 5 else 0:=by unfold fQ;rw[aal ah]
  have hEA:jN D 0 ((D.n/2:Nat):Int)=if D.gone then 5 else 0:=by unfold jN;rw[aal ah]
  have hEB:jN D ((D.n/2:Nat):Int) ((D.n/2:Nat):Int)=if D.gone then 5 else 0:=by unfold jN;rw[aal ah]
  have hnn:3<=((D.n/2:Nat):Int)/\((D.n/2:Nat):Int)<=16384:=ah;refine⟨⟨dp,_,_,_,D,rfl,rfl,hD1⟩,fun q2 g2 ⟨F2,hp2,hF2,hn2⟩=>?_⟩;obtain⟨pA,hD2,hv2,hA,_⟩:=Ba hD1 hp2;simp only[Value.tuple.injEq,aaH,aag,Value.int.injEq,aaZ,aau]at hv2;obtain⟨eA,e6⟩:=hv2;have G2:ai 2 J q2:=g1.tr g2;have hq2:q2.i 2=D.n:=by rw[g2.i 2,hv1]
  rw[hq2,AD hDn,G2.i 0,v0,ep];refine⟨fun hne=>bad q2 4 _ _ _ 5 hD2 (by rw[au,e6,hEA,aay];exact abj fun hg=>hne (by rw[e6,hEA,aal hg])) (by rw[hE,aay];exact abj fun hg=>hne (by rw[e6,hEA,aal hg])) aA,fun heq=>?_⟩;have hgone:D.gone=false:=by
   cases hg:D.gone with
   | false=>rfl
   | true=>rw[e6,hEA,hg]at heq;cases heq
  have hA:dt F2 pA dp (rV D) (nA D):=hA (by rw[hEA,hgone];rfl);rw[<-eA,<-hF2 zzT]at hA;refine⟨⟨dp,_,_,_,D,rfl,rfl,hD2⟩,fun q3 g3 ⟨F3,hp3,hF3,hn3'⟩=>?_⟩;obtain⟨pB,hD3,hv3,hB,_⟩:=Ba hD2 hp3;simp only[Value.tuple.injEq,aaH,aag,Value.int.injEq,aaZ,aau]at hv3;obtain⟨eB,e9⟩:=hv3;have e9:q3.i 9=0:=by rw[e9,hEB,hgone];rfl
  have hB:dt F3 pB dp (lr D) (iV D):=hB (by rw[hEB,hgone];rfl);rw[<-eB,<-hF3 zzT]at hB;refine⟨fun h=>absurd e9 h,fun _=>⟨IM hB.rd,fun q4 g4 ⟨F4,hp4,_⟩=>?_⟩⟩;have hv4:q4.i 10=rP (lr D):=by simpa using DZ hB.rd hp4
  have G4:ai 7 q2 q4:=g3.tr g4;have hA4:dt (q4.h 5) (.pointer (ar (q4.i 4) (q4.i 5))) dp (rV D) (nA D):=by
   rw[G4.h 5,G4.i 4,G4.i 5];exact hA
  refine⟨IM hA4.rd,fun q5 g5 ⟨F5,hp5,_⟩=>?_⟩;have hv5:q5.i 11=rP (rV D):=by simpa using DZ hA4.rd hp5
  have hv5':q5.i 10=rP (lr D):=by rw[g5.i 10,hv4]
  have hA5:dt (q5.h 5) (.pointer (ar (q5.i 4) (q5.i 5))) dp (rV D) (nA D):=by
   rw[g5.h 5,g5.i 4,g5.i 5];exact hA4
  have G35:ai 10 q3 q5:=g4.tr g5;have hB5:dt (q5.h 8) (.pointer (ar (q5.i 7) (q5.i 8))) dp (lr D) (iV D):=by
   rw[G35.h 8,G35.i 7,G35.i 8];exact hB
  have hD5:aE (q5.h 7) dp D:=by rw[G35.h 7];exact hD3
  have hLA:((nA D).length:Int)<=_:=tz hok (frm:=0) hnn;have hLB:((iV D).length:Int)<=_:=tz hok (frm:=((D.n/2:Nat):Int)) hnn;rw[hv5,hv5'];have hsE:fQ D=0:=by rw[hE,hgone];rfl
  refine⟨fun hlt=>⟨At hB5.rd ah,fun q6 g6 ⟨F6,hp6,hF6,hn6⟩=>?_⟩,fun hge=>⟨At hA5.rd ah,fun q6 g6 ⟨F6,hp6,hF6,hn6⟩=>?_⟩⟩
  .have hO:=xL hB5.rd hp6;rw[<-hF6 zzT]at hO;have hRd:=hO.rd.w;refine⟨⟨_,_,_,rfl,rfl,hRd,hhi,ah⟩,fun q7 g7 ⟨F7,hp7,hF7,hn7⟩ q8 g8 p8 hd=>?_⟩;have hW:=zO hRd hp7;rw[<-hF7 zzT]at hW;have G7:ai 12 q5 q8:=g6.trans ((g7.tr g8).mono ah);have hn7:-1<=q7.i 16/\0<=q7.i 17/\0<=q7.i 18/\0<=q7.i 19:=hn7.1;refine⟨[[0]],[5,2,1,4],rfl,rfl,⟨(bh fun j=>[q8.i 20,0,0].getD j 0),rfl,⟨by show -1<=q8.i 20;omega,aar _⟩,zzT,zzT⟩,dp,H,D,_,Value.pointer (ar (q8.i 20) 0),rfl,rfl,hD,rfl,?_,?_,fun _=>?_,fun h=>absurd hsE h⟩
   .show aE (cu [q8.h 7]) _ _;rw[aL,G7.h 7];exact hD5
   .rw[hsE];rfl
   .unfold ic;rw[aay hlt];have hW8:bX (q8.h 16) (.slice (ar (q8.i 16) (q8.i 17)) (q8.i 18).toNat (q8.i 19).toNat) (jf (iV D)):=by
     rw[g8.h 16,g8.i 16,g8.i 17,g8.i 18,g8.i 19];exact hW
    have hA8:dt (q8.h 5) (.pointer (ar (q8.i 4) (q8.i 5))) dp (rV D) (nA D):=by
     rw[G7.h 5,G7.i 4,G7.i 5];exact hA5
    have hB8:dt (q8.h 8) (.pointer (ar (q8.i 7) (q8.i 8))) dp (lr D) (iV D):=by
     rw[G7.h 8,G7.i 7,G7.i 8];exact hB5
    exact⟨(q8.i 20).toNat,_,_,_,_,_,_,by rw[al p8];rfl,⟨hB8,hA8,hW8,hd 5 2 _ _ aA rfl rfl rfl,hd 5 1 _ _ aA rfl rfl rfl,hd 5 4 _ _ aA rfl rfl rfl,hd 2 1 _ _ aA rfl rfl rfl,hd 2 4 _ _ aA rfl rfl rfl,hd 1 4 _ _ aA rfl rfl rfl,rfl⟩⟩
  .have hO:=xL hA5.rd hp6;rw[<-hF6 zzT]at hO;have hRd:=hO.rd.w;refine⟨⟨_,_,_,rfl,rfl,hRd,hlo,ah⟩,fun q7 g7 ⟨F7,hp7,hF7,hn7⟩ q8 g8 p8 hd=>?_⟩;have hW:=zO hRd hp7;rw[<-hF7 zzT]at hW;have G7:ai 12 q5 q8:=g6.trans ((g7.tr g8).mono ah);have hn7:-1<=q7.i 16/\0<=q7.i 17/\0<=q7.i 18/\0<=q7.i 19:=hn7.1;refine⟨[[0]],[5,1,2,4],rfl,rfl,⟨(bh fun j=>[q8.i 20,0,0].getD j 0),rfl,⟨by show -1<=q8.i 20;omega,aar _⟩,zzT,zzT⟩,dp,H,D,_,Value.pointer (ar (q8.i 20) 0),rfl,rfl,hD,rfl,?_,?_,fun _=>?_,fun h=>absurd hsE h⟩
   .show aE (cu [q8.h 7]) _ _;rw[aL,G7.h 7];exact hD5
   .rw[hsE];rfl
   .unfold ic;rw[aal hge];have hW8:bX (q8.h 16) (.slice (ar (q8.i 16) (q8.i 17)) (q8.i 18).toNat (q8.i 19).toNat) (jf (nA D)):=by
     rw[g8.h 16,g8.i 16,g8.i 17,g8.i 18,g8.i 19];exact hW
    have hA8:dt (q8.h 5) (.pointer (ar (q8.i 4) (q8.i 5))) dp (rV D) (nA D):=by
     rw[G7.h 5,G7.i 4,G7.i 5];exact hA5
    have hB8:dt (q8.h 8) (.pointer (ar (q8.i 7) (q8.i 8))) dp (lr D) (iV D):=by
     rw[G7.h 8,G7.i 7,G7.i 8];exact hB5
    exact⟨(q8.i 20).toNat,_,_,_,_,_,_,by rw[al p8];rfl,⟨hA8,hB8,hW8,hd 5 1 _ _ aA rfl rfl rfl,hd 5 2 _ _ aA rfl rfl rfl,hd 5 4 _ _ aA rfl rfl rfl,hd 1 2 _ _ aA rfl rfl rfl,hd 1 4 _ _ aA rfl rfl rfl,hd 2 4 _ _ aA rfl rfl rfl,rfl⟩⟩
def Oc (o:Bool) (rows:List (List Int)) (e:Int):Prop:=(o=true->e=5)/\(o=false->iZ rows->e=0)/\(o=false->¬iZ rows->e=3)
def zu:Sx.Spec where
 fn:=49
 own:=[]
 rd:=[0,1,3000001]
 res:=[.one .sl,.one (.int .i64)]
 pre:=fun xs Hs Rs=>∃ p v a o R R1 RA rows,xs=[p,v]/\Rs=[R,R1,RA]/\p=.pointer (some ⟨a,0,none⟩)/\R.cell a 3=some (.bool o)/\jG R1 RA v rows/\rows.length<=1000000/\∀ r∈rows,0<=r.length
 post:=fun xs Hs Rs w Hs' F=>∃ p v a o R R1 RA rows u e,xs=[p,v]/\Rs=[R,R1,RA]/\p=.pointer (some ⟨a,0,none⟩)/\R.cell a 3=some (.bool o)/\jG R1 RA v rows/\w=.tuple #[u,.int .i64 e]/\Oc o rows e/\(e=0->bM F 5 u (bL rows))
def Hv {o:Bool} {R1:Hl} (h1:R.cell a 3=some (.bool o)) (h2:jG R1 RA v rows) (hp:zu.post [.pointer (some ⟨a,0,none⟩),v] [] [R,R1,RA] w K F) :
 ∃ u e,w=.tuple #[u,.int .i64 e]/\Oc o rows e/\(e=0->bM F 5 u (bL rows)):=by
 obtain⟨p',v',a',o',R',R1',RA',rows',u,e,e1,e2,e3,e4,e5,hw,hE,hO⟩:=hp;simp only[aag,aau]at e1 e2;obtain⟨ep,ev⟩:=e1;obtain⟨x1,x2,x3⟩:=e2;subst ep ev x1 x2 x3;have ea:a=a':=by simpa using e3
 subst ea;have eo:o=o':=by simpa using h1.symm.trans e4
 subst eo;obtain rfl:=h2.uniq e5;exact⟨u,e,hw,hE,hO⟩
def EO (h2:jG R RA v rows) (hp:tF.post [v] [] [R,RA] w K F) :
 ∃ u e,w=.tuple #[u,.int .i64 e]/\(iZ rows->e=0/\bM F 5 u (bL rows))/\(¬iZ rows->e=3):=by
 obtain⟨v',R',RA',rows',u,e,e1,e2,e5,hw,hE,hO⟩:=hp;simp only[aag,aau]at e1 e2;obtain⟨x2,x3⟩:=e2;subst e1 x2 x3;obtain rfl:=h2.uniq e5;exact⟨u,e,hw,hE,hO⟩
def Oa:List Sx.Spec:=[tF]
def QL:∀ t∈Oa,t.OK Tryz.prog:=fun t ht=>by
 simp only[Oa,aan,aat,aaX]at ht;rw[ht];exact Hn
def zw:aF Tryz.prog Oa zu.fn where
 Λ:=aD
 args:=[TP (.var 0) (.lit 0),.sv (.one (.sl (.var 1) (.var 2) (.var 3) (.var 4)))]
 mem:=[.ro 5 [.var 0] false,.ro 6 [.var 1] false,.ro 7 [] true]
 nv:=8
def Yx:tF.res=[.one .sl,.one (.int .i64)]:=rfl
open Classical in
def La:zu.OK Tryz.prog:=by
 refine Spec.aV (Γ:=Oa) QL ?_;rintro xs Hs Rs hl1 hl2 ⟨p,v,a,o,R,R1,RA,rows,rfl,rfl,rfl,hc,hB,hlen,aB⟩;have e0:Hs=[]:=aad.1 hl1;subst e0;obtain⟨us,x,y,c,rfl,hy,hul,hcell,hrd⟩:=id hB;refine⟨zw,aQ [(a:Int),x,y,us.length,c] false [Hl.none,Hl.none,Hl.none,Hl.none,Hl.none,R,R1,RA],fun _ _=>True,fun _ _=>0,?_,⟨?_,?_,?_,?_⟩,(fun _ h=>nomatch h),?_⟩
 .show [Value.pointer (ar (a:Int) 0),Value.slice (ar x y) ((us.length:Int)).toNat ((c:Int)).toNat]=_;rw[aaa,aaa,js]
 .intro r hr ho;simp [zw]at hr;rcases hr with rfl | rfl | rfl<;>cases ho
 .intro r hr ho;simp [zw]at hr;rcases hr with rfl | rfl | rfl
  .exact⟨R,aC,Hl.le_refl _⟩
  .exact⟨R1,aC,Hl.le_refl _⟩
  .exact⟨RA,aC,Hl.le_refl _⟩
 .simp [zw,bm.own]
 .intro r hr;simp [zw]at hr;rcases hr with rfl | rfl | rfl<;>trivial
 .refine aF.read [] [] [] ?_;generalize hρ:aQ [(a:Int),x,y,us.length,c] false [Hl.none,Hl.none,Hl.none,Hl.none,Hl.none,R,R1,RA]=J;have v0:J.i 0=a:=by rw[<-hρ];rfl
  have v1:J.i 1=x:=by rw[<-hρ];rfl
  have v2:J.i 2=y:=by rw[<-hρ];rfl
  have v3:J.i 3=us.length:=by rw[<-hρ];rfl
  have v4:J.i 4=c:=by rw[<-hρ];rfl
  have w5:J.h 5=R:=by rw[<-hρ];rfl
  have w6:J.h 6=R1:=by rw[<-hρ];rfl
  have w7:J.h 7=RA:=by rw[<-hρ];rfl
  clear hρ;have t3:Int.toNat 3=3:=rfl;simp only[go_sem,Nat.reduceAdd,Oa,Yx,YR,t3];rw[v0,v1,v2,v3,v4,w5,w6,w7,aaa,aaa,aaa,hc];refine⟨ah,rfl,fun ho _=>?_,fun ho=>⟨⟨_,R1,RA,rows,rfl,rfl,hB,hlen,aB⟩,fun q1 g1 ⟨F1,hp1,hF1,hn1⟩ _=>?_⟩⟩
  .have ho:o=true:=ho;refine⟨[],[],rfl,rfl,⟨(bh fun j=>[-1,0,0,0,5].getD j 0),rfl,⟨aar _,aar _,aar _,aar _⟩,zzT,zzT⟩,_,_,a,o,R,R1,RA,rows,.slice none 0 0,5,rfl,rfl,rfl,hc,hB,rfl,⟨fun _=>rfl,fun h=>absurd (ho.symm.trans h) aC,fun h=>absurd (ho.symm.trans h) aC⟩,fun h=>absurd h aA⟩
  .have ho:¬o=true:=ho;obtain⟨u,e,hw,hy1,hy2⟩:=EO hB hp1;simp only[Value.tuple.injEq,aaH,aag,Value.int.injEq,aaZ,aau]at hw;obtain⟨eu,ee⟩:=hw;have hn:-1<=q1.i 8/\0<=q1.i 9/\0<=q1.i 10/\0<=q1.i 11:=hn1.1;refine⟨[],[3],rfl,rfl,⟨(bh fun j=>[q1.i 8,q1.i 9,q1.i 10,q1.i 11,q1.i 12].getD j 0),rfl,hn,zzT,zzT⟩,_,_,a,o,R,R1,RA,rows,.slice (ar (q1.i 8) (q1.i 9)) (q1.i 10).toNat (q1.i 11).toNat,q1.i 12,rfl,rfl,rfl,hc,hB,rfl,⟨fun h=>absurd h ho,fun _ h=>?_,fun _ h=>?_⟩,fun h=>?_⟩
   .rw[ee];exact(hy1 h).1
   .rw[ee];exact hy2 h
   .show bM (cu [q1.h 8]) _ _ _;rw[aL,hF1 trivial,eu];by_cases hk:iZ rows
    .exact(hy1 hk).2
    .have:=hy2 hk;omega
def bX.rep (h:bX F v rows):∃ (x:Int) (c:Nat),-1<=x/\v=.slice (ar x 0) rows.length c:=by
 obtain⟨us,ho,_⟩:=h;rcases ho.2 with ⟨h,hn⟩ | ⟨g,cap,cur,h,_⟩
 .exact⟨-1,0,ah,by rw[dr,hn];exact h⟩
 .exact⟨g,cap,ah,by rw[al ah];simpa using h⟩
structure Zj where
 e:Int
 D:DM
 S:SM
def FK (D:DM) (S:SM) (rows:List (List Int)) (r:AR):Zj :=
 ⟨qP r.e,r.D,⟨r.L,r.bs,S.LB,S.bB,if qP r.e=0 then S.recs++rows else S.recs,if r.e≠0/\gi r.e=oM then true else S.over⟩⟩
open Classical in
noncomputable def db (D:DM) (S:SM) (rows:List (List Int)):Zj :=
 if S.over=true then⟨5,D,S⟩
 else if ¬iZ rows then⟨3,D,S⟩
 else if rows=[]then⟨0,D,S⟩
 else if S.LA.most-S.bA.length<(bL rows).length then⟨4,D,S⟩
 else FK D S rows (bp D S.LA S.bA (bL rows) S.LA.note)
noncomputable def FL:Sx.Spec where
 fn:=15
 own:=[.arg 0,.link 0 0]
 rd:=[1,3000001,2000000]
 res:=[.one (.int .i64)]
 pre:=fun xs Hs Rs=>∃ p v H HD R RA RG g dp S D rows,xs=[p,v]/\Hs=[H,HD]/\Rs=[R,RA,RG]/\iP H p dp S/\aE HD dp D/\jG R RA v rows/\Gl RG g/\rows.length<=1000000/\(∀ r∈rows,0<=r.length)/\S.bA.length<=1048576/\0<=S.LA.serial/\S.recs.length<=1000000000
 post:=fun xs Hs Rs w Hs' F=>∃ p v H HD R RA RG dp S D rows H' HD',xs=[p,v]/\Hs=[H,HD]/\Rs=[R,RA,RG]/\iP H p dp S/\aE HD dp D/\jG R RA v rows/\Hs'=[H',HD']/\aE HD' dp (db D S rows).D/\iP H' p dp (db D S rows).S/\w=.int .i64 (db D S rows).e
def QQ (h:Value.int .i64 (q.i n)=.int .i64 (L.most-bs.length)):q.i n=L.most-bs.length:=by simpa using h
noncomputable def WH:List Sx.Spec:=[zu,wm,pE,qn,Ab,Uo,qB,sS]
def RY:∀ t∈WH,t.OK Tryz.prog:=av La <| av E8 <| av AK <| av FO <| av FH <| av Nc <| av He <| av xQ <| bN
noncomputable def LZ:aF Tryz.prog WH FL.fn where
 Λ:=fun p=>if I9 p then some ⟨0,[(51,TI .i64 (.var 60))],[(0,.bd 0 [.hptr (.var 5) (.lit 0),.hptr (.var 6) (.lit 0),.sl (.var 61) (.lit 0) (.var 62) (.var 63),.bool (.bvar 65)] 101),(3,.hp 64 [] [.var 61] [])],66⟩else none
 args:=[TP (.var 0) (.lit 0),.sv (.one (.sl (.var 1) (.var 2) (.var 3) (.var 4)))]
 mem:=[.bd 0 [.hptr (.var 5) (.lit 0),.hptr (.var 6) (.lit 0),.sl (.var 7) (.lit 0) (.var 8) (.var 9),.bool (.bvar 10)] 101,.hp 12 [] [.var 5] [.var 11],.hp 13 [] [.var 6] [.var 11],.hp 14 [] [.var 7] [],.hp 15 [] [.var 11] [],.ro 16 [.var 1] false,.ro 17 [] true,.ro 18 [.lit 0,.lit 1,.lit 2] false]
 nv:=19
def Xp:zu.res=[.one .sl,.one (.int .i64)]:=rfl
def Xq:wm.res=[.one (.int .i64)]:=rfl
def Xr:pE.res=[.agg (sF 16)]:=rfl
def Xs:qn.res=[.one (.int .i64)]:=rfl
def Xt:Ab.res=[.one .any]:=rfl
def Xu:Uo.res=[.one .bool]:=rfl
def Xv:qB.res=[.one (.int .i64)]:=rfl
def Uy:sS.res=[.one .sl]:=rfl
set_option maxRecDepth 8000 in
def Pf:FL.OK Tryz.prog:=by
 refine jU (Γ:=WH) RY ?_;rintro xs Hs Rs hl1 hl2 hdis ⟨p,v,H,HD,R,RA,RG,g,dp,S,D,rows,rfl,rfl,rfl,hAt,hD,hB,hG,hlen,aB,hbA,hser,hrecs⟩;obtain⟨a,pa,pb,sl,HA,HB,HR,rfl,hIn⟩:=id hAt;obtain⟨us,x,y,c,rfl,hy,hul,hcell,hrd⟩:=id hB;obtain⟨da,s,m,es,clock,hdp,hDi⟩:=id hD;obtain⟨rx,rc,hrx,hsl⟩:=hIn.rows.rep;obtain⟨aa,_,_,hpa,_⟩:=id hIn.la;obtain⟨ab,_,_,hpb,_⟩:=id hIn.lb;obtain⟨l1,l2,l3,l4⟩:=IT hIn.d1 hIn.d2 hIn.d3 hIn.d4 hIn.d5 hIn.d6;rw[<-hIn.hl]at l1 l2 l3 l4;have hHD:H.bq HD:=hdis 0 1 _ _ aA rfl rfl;generalize hρ:aQ [(a:Int),x,y,us.length,c,aa,ab,rx,S.recs.length,rc,0,da] S.over [Hl.none,Hl.none,Hl.none,Hl.none,Hl.none,Hl.none,Hl.none,Hl.none,Hl.none,Hl.none,Hl.none,Hl.none,HA,HB,HR,HD,R,RA,RG]=J;have v0:J.i 0=a:=by rw[<-hρ];rfl
 have v1:J.i 1=x:=by rw[<-hρ];rfl
 have v2:J.i 2=y:=by rw[<-hρ];rfl
 have v3:J.i 3=us.length:=by rw[<-hρ];rfl
 have v4:J.i 4=c:=by rw[<-hρ];rfl
 have v5:J.i 5=aa:=by rw[<-hρ];rfl
 have v6:J.i 6=ab:=by rw[<-hρ];rfl
 have v7:J.i 7=rx:=by rw[<-hρ];rfl
 have v8:J.i 8=S.recs.length:=by rw[<-hρ];rfl
 have v9:J.i 9=rc:=by rw[<-hρ];rfl
 have v11:J.i 11=da:=by rw[<-hρ];rfl
 have b10:J.b 10=S.over:=by rw[<-hρ];rfl
 have w12:J.h 12=HA:=by rw[<-hρ];rfl
 have w13:J.h 13=HB:=by rw[<-hρ];rfl
 have w14:J.h 14=HR:=by rw[<-hρ];rfl
 have w15:J.h 15=HD:=by rw[<-hρ];rfl
 have w16:J.h 16=R:=by rw[<-hρ];rfl
 have w17:J.h 17=RA:=by rw[<-hρ];rfl
 have w18:J.h 18=RG:=by rw[<-hρ];rfl
 clear hρ;have ea:Value.pointer (ar (aa:Int) 0)=pa:=by rw[js,hpa]
 have eb:Value.pointer (ar (ab:Int) 0)=pb:=by rw[js,hpb]
 have eBlk:∀ (q:Env) (cs:CV) (o:E),q.i 0=a->q.i 5=aa->q.i 6=ab->(bm.bd 0 [.hptr (.var 5) (.lit 0),.hptr (.var 6) (.lit 0),cs,.bool o] 101).hl q=Lo a pa pb (cs.ev q) (aY q o):=by
  intro q cs o h0 h5 h6;show Hl.one (q.i 0).toNat (.cells #[Value.pointer (ar (q.i 5) 0),Value.pointer (ar (q.i 6) 0),cs.ev q,.bool (aY q o)] _ (0,0))=_;rw[h0,h5,h6,ea,eb,aaa];rfl
 have e0:(bm.bd 0 [.hptr (.var 5) (.lit 0),.hptr (.var 6) (.lit 0),.sl (.var 7) (.lit 0) (.var 8) (.var 9),.bool (.bvar 10)] 101).hl J=Lo a pa pb sl S.over:=by
  rw[eBlk J _ _ v0 v5 v6,bF,b10]
  congr 1
  show Value.slice (ar (J.i 7) 0) (J.i 8).toNat (J.i 9).toNat=_;rw[v7,v8,v9,aaa,aaa,hsl]
 refine⟨LZ,J,fun _ q=>∃ k:Nat,q.i 60=k/\k<=rows.length/\ -1<=q.i 61/\0<=q.i 62/\0<=q.i 63/\q.b 65=false/\bX (q.h 64) (.slice (ar (q.i 61) 0) (q.i 62).toNat (q.i 63).toNat) (S.recs++rows.take k),fun _ q=>(rows.length-q.i 60).toNat,?_,⟨?_,?_,?_,?_⟩,(fun _ h=>nomatch h),?_⟩
 .show [Value.pointer (ar (J.i 0) 0),Value.slice (ar (J.i 1) (J.i 2)) (J.i 3).toNat (J.i 4).toNat]=_;rw[v0,v1,v2,v3,v4,aaa,aaa,js]
 .intro r hr ho;simp only[LZ,aan,aat,aaX]at hr;rcases hr with rfl | rfl | rfl | rfl | rfl | rfl | rfl | rfl
  .exact⟨H,aC,by rw[e0];exact l1⟩
  .exact⟨H,aC,by show(J.h 12).le H;rw[w12];exact l2⟩
  .exact⟨H,aC,by show(J.h 13).le H;rw[w13];exact l3⟩
  .exact⟨H,aC,by show(J.h 14).le H;rw[w14];exact l4⟩
  .exact⟨HD,aC,by show(J.h 15).le HD;rw[w15];exact Hl.le_refl _⟩
  .cases ho
  .cases ho
  .cases ho
 .intro r hr ho;simp only[LZ,aan,aat,aaX]at hr;rcases hr with rfl | rfl | rfl | rfl | rfl | rfl | rfl | rfl
  .cases ho
  .cases ho
  .cases ho
  .cases ho
  .cases ho
  .exact⟨R,aC,by show(J.h 16).le R;rw[w16];exact Hl.le_refl _⟩
  .exact⟨RA,aC,by show(J.h 17).le RA;rw[w17];exact Hl.le_refl _⟩
  .exact⟨RG,aC,by show(J.h 18).le RG;rw[w18];exact Hl.le_refl _⟩
 .have dD:∀ K:Hl,K.le H->K.bq HD:=fun K hK=>Hl.jH (Hl.xV (Hl.jH hHD) hK);have mem4:LZ.mem=[.bd 0 [.hptr (.var 5) (.lit 0),.hptr (.var 6) (.lit 0),.sl (.var 7) (.lit 0) (.var 8) (.var 9),.bool (.bvar 10)] 101,.hp 12 [] [.var 5] [.var 11],.hp 13 [] [.var 6] [.var 11],.hp 14 [] [.var 7] [],.hp 15 [] [.var 11] [],.ro 16 [.var 1] false,.ro 17 [] true,.ro 18 [.lit 0,.lit 1,.lit 2] false]:=rfl;rw[mem4];have ro3:∀ (l:Mem),(∀ r∈l,r.own=false)->∀ K:bm,∀ r∈l,K.own=true->r.own=true->(K.hl J).bq (r.hl J):=fun l h K r hr _ ho=>by rw[h r hr]at ho;cases ho
  have hro:∀ r∈([.ro 16 [.var 1] false,.ro 17 [] true,.ro 18 [.lit 0,.lit 1,.lit 2] false]:Mem),r.own=false:=by
   intro r hr;simp only[aan,aat,aaX]at hr;rcases hr with rfl | rfl | rfl<;>rfl
  refine List.Pairwise.cons (fun r hr hk ho=>?_) (List.Pairwise.cons (fun r hr hk ho=>?_) (List.Pairwise.cons (fun r hr hk ho=>?_) (List.Pairwise.cons (fun r hr hk ho=>?_) (List.Pairwise.cons (fun r hr hk ho=>ro3 _ hro _ r hr hk ho) (List.Pairwise.cons (fun r hr hk ho=>by cases hk) (List.Pairwise.cons (fun r hr hk ho=>by cases hk) (List.Pairwise.cons (fun r hr=>by cases hr) List.Pairwise.nil)))))))
  .rw[e0];rw[aan,aan,aan,aan]at hr;rcases hr with rfl | rfl | rfl | rfl | hr
   .show(Lo a pa pb sl S.over).bq (J.h 12);rw[w12];exact hIn.d1
   .show(Lo a pa pb sl S.over).bq (J.h 13);rw[w13];exact hIn.d2
   .show(Lo a pa pb sl S.over).bq (J.h 14);rw[w14];exact hIn.d3
   .show(Lo a pa pb sl S.over).bq (J.h 15);rw[w15];exact dD _ l1
   .rw[hro r hr]at ho;cases ho
  .rw[aan,aan,aan]at hr;show(J.h 12).bq _;rw[w12];rcases hr with rfl | rfl | rfl | hr
   .show HA.bq (J.h 13);rw[w13];exact hIn.d4
   .show HA.bq (J.h 14);rw[w14];exact hIn.d5
   .show HA.bq (J.h 15);rw[w15];exact dD _ l2
   .rw[hro r hr]at ho;cases ho
  .rw[aan,aan]at hr;show(J.h 13).bq _;rw[w13];rcases hr with rfl | rfl | hr
   .show HB.bq (J.h 14);rw[w14];exact hIn.d6
   .show HB.bq (J.h 15);rw[w15];exact dD _ l3
   .rw[hro r hr]at ho;cases ho
  .rw[aan]at hr;show(J.h 14).bq _;rw[w14];rcases hr with rfl | hr
   .show HR.bq (J.h 15);rw[w15];exact dD _ l4
   .rw[hro r hr]at ho;cases ho
 .intro r hr;simp only[LZ,aan,aat,aaX]at hr;rcases hr with rfl | rfl | rfl | rfl | rfl | rfl | rfl | rfl
  .show(0:Int)<=J.i 0;omega
  all_goals trivial
 .refine aF.read [] [] [] ?_;have fin:∀ (q:Env) (hL hR hK:Nat) (vL vM vR vK:List Nat) (rL rM rR rK kL kM kR kK:List E) (cs:CV) (o rv:E) (t:Mem),ai 19 J q ->
   dt (q.h hL) pa dp (db D S rows).S.LA (db D S rows).S.bA->(db D S rows).S.LB=S.LB/\(db D S rows).S.bB=S.bB->bX (q.h hR) (cs.ev q) (db D S rows).S.recs->aY q o=(db D S rows).S.over->aE (q.h hK) dp (db D S rows).D->az q rv=(db D S rows).e ->
   postOf FL [.pointer (some ⟨a,0,none⟩),.slice (ar x y) us.length c] [H,HD] [R,RA,RG] q (.bd 0 [.hptr (.var 5) (.lit 0),.hptr (.var 6) (.lit 0),cs,.bool o] 101::.hp hL vL rL kL::.hp 13 vM rM kM::.hp hR vR rR kR::.hp hK vK rK kK::t) (.sv (.one (.int .i64 rv))):=by
   intro q hL hR hK vL vM vR vK rL rM rR rK kL kM kR kK cs o rv t hg hLq hSB hRq hoq hDq heq hd;have g0:q.i 0=a:=by rw[hg.i 0,v0]
   have g5:q.i 5=aa:=by rw[hg.i 5,v5]
   have g6:q.i 6=ab:=by rw[hg.i 6,v6]
   have eq0:=eBlk q cs o g0 g5 g6;rw[hoq]at eq0;refine⟨[[0,1,2,3],[4]],[],rfl,rfl,⟨(bh fun _=>(db D S rows).e),?_,zzT,zzT⟩,_,_,H,HD,R,RA,RG,dp,S,D,rows,_,_,rfl,rfl,rfl,hAt,hD,hB,rfl,?_,?_,?_⟩
   .show Value.int .i64 (az q rv)=.int .i64 (db D S rows).e;rw[heq]
   .show aE (cu [q.h hK]) _ _;rw[aL];exact hDq
   .refine⟨a,pa,pb,cs.ev q,q.h hL,q.h 13,q.h hR,rfl,hLq,?_,hRq,?_,?_,?_,hd 1 2 _ _ aA rfl rfl rfl,hd 1 3 _ _ aA rfl rfl rfl,hd 2 3 _ _ aA rfl rfl rfl,?_⟩
    .rw[hSB.1,hSB.2,hg.h 13,w13];exact hIn.lb
    .rw[<-eq0];exact hd 0 1 _ _ aA rfl rfl rfl
    .rw[<-eq0];exact hd 0 2 _ _ aA rfl rfl rfl
    .rw[<-eq0];exact hd 0 3 _ _ aA rfl rfl rfl
    .rw[<-eq0];rfl
   .show Value.int .i64 (az q rv)=.int .i64 (db D S rows).e;rw[heq]
  simp only[go_sem,Nat.reduceAdd,WH,Xp,Xq,Xr,Xs,Xt,Xu,Xv,Uy,Jy,YR];have evs:Value.slice (ar (J.i 7) 0) (J.i 8).toNat (J.i 9).toNat=sl:=by rw[v7,v8,v9,aaa,aaa,hsl]
  have keepL:∀ q:Env,ai 19 J q->dt (q.h 12) pa dp S.LA S.bA/\bX (q.h 14) (CV.ev q (.sl (.var 7) (.lit 0) (.var 8) (.var 9))) S.recs/\aY q (.bvar 10)=S.over/\aE (q.h 15) dp D:=by
   intro q hg;refine⟨by rw[hg.h 12,w12];exact hIn.la,?_,by rw[bF,hg.b 10,b10],by rw[hg.h 15,w15];exact hD⟩;show bX (q.h 14) (.slice (ar (q.i 7) 0) (q.i 8).toNat (q.i 9).toNat) _;rw[hg.h 14,hg.i 7,hg.i 8,hg.i 9,w14,evs];exact hIn.rows
  have same:∀ (q:Env) (e:Int) (rv:E) (t:Mem),ai 19 J q->db D S rows=⟨e,D,S⟩->az q rv=e->postOf FL [.pointer (some ⟨a,0,none⟩),.slice (ar x y) us.length c] [H,HD] [R,RA,RG] q (.bd 0 [.hptr (.var 5) (.lit 0),.hptr (.var 6) (.lit 0),.sl (.var 7) (.lit 0) (.var 8) (.var 9),.bool (.bvar 10)] 101::.hp 12 [] [.var 5] [.var 11]::.hp 13 [] [.var 6] [.var 11]::.hp 14 [] [.var 7] []::.hp 15 [] [.var 11] []::t) (.sv (.one (.int .i64 rv))):=by
   intro q e rv t hg he hrv;obtain⟨k1,k2,k3,k4⟩:=keepL q hg;exact fin q 12 14 15 _ _ _ _ _ _ _ _ _ _ _ _ _ _ rv t hg (by rw[he];exact k1) (by rw[he];exact⟨rfl,rfl⟩) (by rw[he];exact k2) (by rw[he];exact k3) (by rw[he];exact k4) (by rw[he];exact hrv)
  have hp0:Value.pointer (ar (J.i 0) 0)=.pointer (some ⟨a,0,none⟩):=by rw[v0,js]
  have hv0:Value.slice (ar (J.i 1) (J.i 2)) (J.i 3).toNat (J.i 4).toNat=.slice (ar x y) us.length c:=by rw[v1,v2,v3,v4,aaa,aaa]
  have hc3:(Lo a pa pb sl S.over).cell a 3=some (.bool S.over):=by unfold Lo;rw[Hl.lD];rfl
  have e0':Hl.one (J.i 0).toNat (.cells #[Value.pointer (ar (J.i 5) 0),Value.pointer (ar (J.i 6) 0),Value.slice (ar (J.i 7) 0) (J.i 8).toNat (J.i 9).toNat,Value.bool (aY J (.bvar 10))] 101 (0,0))=Lo a pa pb sl S.over:=e0;rw[hp0,hv0,e0',w16,w17];refine⟨⟨_,_,a,S.over,_,R,RA,rows,rfl,rfl,rfl,hc3,hB,hlen,aB⟩,fun q1 g1 ⟨F1,hp1,hF1,hn1⟩=>?_⟩;obtain⟨u1,e1,hv1,hE1,hO1⟩:=Hv hc3 hB hp1;simp only[Value.tuple.injEq,aaH,aag,Value.int.injEq,aaZ,aau]at hv1;obtain⟨eu,ee⟩:=hv1;have hn19:-1<=q1.i 19/\0<=q1.i 20/\0<=q1.i 21/\0<=q1.i 22:=hn1.1;refine⟨fun h23=>?_,fun h23=>same q1 (q1.i 23) _ _ g1 ?_ (au _ _)⟩
  rotate_left
  .rw[ee]at h23 ⊢;unfold db;cases ho:S.over with
   | true=>rw[aay rfl,hE1.1 ho]
   | false =>
    rw[aal aC];by_cases hk:iZ rows
    .exact absurd (hE1.2.1 ho hk) h23
    .rw[aay hk,hE1.2.2 ho hk]
  have he0:e1=0:=by rw[<-ee];exact h23
  have ho:¬S.over=true:=fun h=>by have:=hE1.1 h;omega
  have hof:S.over=false:=abW.2 ho;have hk:iZ rows:=abj fun h=>by have:=hE1.2.2 hof h;omega
  have hOw:bM (q1.h 19) 5 (.slice (ar (q1.i 19) (q1.i 20)) (q1.i 21).toNat (q1.i 22).toNat) (bL rows):=by rw[hF1 trivial,eu];exact hO1 he0
  have h21:q1.i 21=(bL rows).length:=(hOw.rd.at hn19.1 hn19.2.1 hn19.2.2.1).1;rw[g1.i 3,v3];refine⟨ah,fun hz=>same q1 0 _ _ g1 ?_ h23,fun hnz=>⟨ah,?_⟩⟩
  .have hz:(us.length:Int)=0:=hz;have hz2:rows.length=0:=by rw[<-hul];omega
   have:rows=[]:=aad.1 hz2;unfold db;rw[aal ho,aal (fun h=>h hk),aay this]
  have hne:rows≠[]:=fun h=>by
   have hnz:¬(us.length:Int)=0:=hnz;rw[h]at hul;have:us.length=0:=hul;omega
  have hpa':∀ q:Env,ai 19 J q->Value.pointer (ar (q.i 5) 0)=pa:=fun q hg=>by rw[hg.i 5,v5,ea]
  have kA:∀ q:Env,ai 19 J q->dt (q.h 12) pa dp S.LA S.bA:=fun q hg=>(keepL q hg).1;rw[hpa' q1 g1];refine⟨Om (kA q1 g1).rd hbA,fun q2 g2 ⟨F2,hp2,_⟩=>?_⟩;have G2:ai 19 J q2:=g1.tr g2;have h24:q2.i 24=S.LA.most-S.bA.length:=QQ (Ld (kA q1 g1).rd hp2);have h21':q2.i 21=(bL rows).length:=by rw[g2.i 21,h21]
  refine⟨fun hlt=>same q2 4 _ _ G2 ?_ (aq _ _),fun hge=>?_⟩
  .rw[h24,h21']at hlt;unfold db;rw[aal ho,aal (fun h=>h hk),aal hne,aay hlt]
  rw[h24,h21']at hge;have hAdd:db D S rows=FK D S rows (bp D S.LA S.bA (bL rows) S.LA.note):=by
   unfold db;rw[aal ho,aal (fun h=>h hk),aal hne,aal hge]
  generalize hr:bp D S.LA S.bA (bL rows) S.LA.note=r at hAdd;rw[hpa' q2 G2];refine⟨KF (kA q2 G2).rd,fun q3 g3 ⟨F3,hp3,_⟩=>?_⟩;have G3:ai 19 J q3:=G2.tr g3;have hv3:=GO (kA q2 G2).rd hp3;have ec3:(ak 25 (List.replicate 16 (Ck.int .u8))).map (CV.ev q3)=aS S.LA.note:=aaO (Value.agg.inj hv3);have hn16:S.LA.note.length=16:=by obtain⟨_,⟨_,_,hLi⟩,_⟩:=hIn.la.rd;exact hLi.1.note
  have hRd3:fC (q3.h 19) (.slice (ar (q3.i 19) (q3.i 20)) (q3.i 21).toNat (q3.i 22).toNat) (bL rows):=by
   have G13:ai 24 q1 q3:=g2.tr g3;rw[G13.h 19,G13.i 19,G13.i 20,G13.i 21,G13.i 22];exact hOw.rd.w
  have kD3:aE (q3.h 15) dp D:=(keepL q3 G3).2.2.2;rw[hpa' q3 G3,ec3];refine⟨⟨_,_,_,_,_,_,_,dp,_,_,_,rfl,rfl,rfl,kA q3 G3,kD3,hRd3,hbA,hn16,hser⟩,fun q4 g4 ⟨F4,hp4,_⟩=>?_⟩;obtain⟨HL4,HD4,hK,hD4,hL4,hv4⟩:=Dv (kA q3 G3) kD3 hRd3 hp4;rw[hr]at hD4 hL4 hv4;have hK1:q4.h 41=HL4/\q4.h 42=HD4:=by
   have h1:[q4.h 41,q4.h 42]=[HL4,HD4]:=hK;simpa using h1
  obtain⟨hK1,hK2⟩:=hK1;have h41:q4.i 41=r.e:=by simpa using hv4
  have G4:ai 19 J q4:=G3.tr g4;rw[h41,G4.h 18,w18];refine⟨⟨_,_,RG,g,rfl,rfl,hG⟩,fun q5 g5 ⟨F5,⟨s5,c5,R5,x1,x2,hE5⟩,_⟩=>?_⟩;simp only[aag,Value.string.injEq,Value.int.injEq,aaZ,aau]at x1 x2;obtain⟨x1,x3⟩:=x1;subst x1 x2 x3;have hE5:lV g (q5.v 44) r.e:=hE5 g hG;have G5:ai 19 J q5:=G4.tr g5;have cL:RG.cell (Int.toNat 0) (Int.toNat 0)=some (gv g oM):=hG.cell oM (Or.inl rfl);rw[G5.h 18,w18,cL];refine⟨rfl,⟨_,_,RG,g,r.e,oM,rfl,rfl,hG,hE5,Or.inl rfl,rfl⟩,fun q6 g6 ⟨F6,hp6,_⟩=>?_⟩;have r6:=GK hG hE5 (Or.inl rfl) hp6;rw[r6];have G6:ai 19 J q6:=G5.tr g6;have hE6:lV g (q6.v 44) r.e:=by rw[g6.v 44];exact hE5
  have num:∀ (q7:Env),ai 46 q6 q7->(∃ F,qB.post [q6.v 44] [] [RG] (.int .i64 (q7.i 46)) [] F/\(aT 0 [Cp.one (Ck.int .i64)]≠[]->q7.h 46=F)/\fe 46 [Cp.one (Ck.int .i64)] q7)->q7.i 46=qP r.e/\ai 19 J q7/\ai 43 q4 q7:=by
   intro q7 g7 ⟨F7,⟨e7,R7,x1,x2,h7⟩,_⟩;simp only[aag,aau]at x1 x2;subst x1 x2;have:=h7 g r.e hG hE6;exact⟨by simpa using this,G6.tr g7,(g5.trans ((g6.tr g7).mono ah)).mono ah⟩
  rw[G6.h 18,w18];refine⟨fun hcl=>⟨⟨_,RG,g,r.e,rfl,rfl,hG,hE6⟩,fun q7 g7 hq7=>?_⟩,fun hcl=>⟨⟨_,RG,g,r.e,rfl,rfl,hG,hE6⟩,fun q7 g7 hq7=>?_⟩⟩
  .obtain⟨hn46,G7,G47⟩:=num q7 g7 hq7;have hnz46:¬qP r.e=0:=by
    unfold qP;rw[aal hcl.1,aal (by rw[hcl.2];decide),aal (by rw[hcl.2];decide)];decide
   refine⟨fun _=>?_,fun h=>absurd (hn46.symm.trans h) hnz46⟩;refine fin q7 41 14 42 _ _ _ _ _ _ _ _ _ _ _ _ (.sl (.var 7) (.lit 0) (.var 8) (.var 9)) _ _ _ G7 ?_ ?_ ?_ ?_ ?_ ?_
   .rw[hAdd,G47.h 41,hK1];exact hL4
   .rw[hAdd];exact⟨rfl,rfl⟩
   .rw[hAdd];unfold FK;rw[aal hnz46];exact(keepL q7 G7).2.1
   .rw[hAdd];show true=(if _ then true else S.over);rw[aay hcl]
   .rw[hAdd,G47.h 42,hK2];exact hD4
   .rw[hAdd,au,hn46];rfl
  .obtain⟨hn46,G7,G47⟩:=num q7 g7 hq7;refine⟨fun hnz46=>?_,fun h46=>?_⟩
   .refine fin q7 41 14 42 _ _ _ _ _ _ _ _ _ _ _ _ (.sl (.var 7) (.lit 0) (.var 8) (.var 9)) _ _ _ G7 ?_ ?_ ?_ ?_ ?_ ?_
    .rw[hAdd,G47.h 41,hK1];exact hL4
    .rw[hAdd];exact⟨rfl,rfl⟩
    .rw[hAdd];unfold FK;rw[aal (fun h=>hnz46 (hn46.trans h))];exact(keepL q7 G7).2.1
    .rw[hAdd,(keepL q7 G7).2.2.1];show S.over=(if _ then true else S.over);rw[aal hcl]
    .rw[hAdd,G47.h 42,hK2];exact hD4
    .rw[hAdd,au,hn46];rfl
   .clear num;refine⟨⟨0,rfl,abn _,by show -1<=q7.i 7;rw[G7.i 7,v7];exact hrx,by show 0<=q7.i 8;rw[G7.i 8,v8];omega,by show 0<=q7.i 9;rw[G7.i 9,v9];omega,?_,?_⟩,fun q8 g8 ⟨k,ek,qv,x61,x62,x63,b65,hRk⟩=>?_⟩
    .show aY q7 (.bvar 10)=false;rw[bF,G7.b 10,b10,hof]
    .show bX (q7.h 14) (.slice (ar (q7.i 7) 0) (q7.i 8).toNat (q7.i 9).toNat) _;rw[G7.h 14,G7.i 7,G7.i 8,G7.i 9,w14,evs,acb,abl];exact hIn.rows
    have G8:ai 19 J q8:=G7.tr g8;have h62:q8.i 62=S.recs.length+k:=by
     have:=(hRk.at x61 x62).1;rw[aac,aaA]at this;omega
    rw[G8.i 1,G8.i 2,G8.i 3,G8.h 16,G8.h 17,v1,v2,v3,w16,w17,ek];refine⟨fun hlt=>?_,fun hge=>?_⟩
    .have hkr:k<rows.length:=ah;have hrk:rows[k]?=some rows[k]:=aab hkr;have hu:us[k]?=some us[k]:=aab ah;obtain⟨hx0,hc⟩:=hcell k _ hu;have hRr:=hrd k _ _ hu hrk;have hsl:∃ a l c,us[k]=Value.slice a l c:=(fC.parts hRr).1;have hck:R.cell x.toNat (y+(k:Int)).toNat=some us[k]:=by rw[show(y+(k:Int)).toNat=y.toNat+k by omega];exact hc
     rw[hck,ij hsl];refine⟨hx0,hy,ah,by obtain⟨_,_,_,e⟩:=hsl;rw[e];rfl,⟨_,_,RA,rfl,rfl,hRr,ab0 (hk _ (abB _)) aA⟩,fun q9 g9 ⟨F9,⟨u9,bs9,R9,x1,x2,hR9,hO9⟩,hF9,hn9⟩ q10 g10 _ q11 g11 ⟨e11,hd11⟩=>?_⟩;simp only[aag,aau]at x1 x2;subst x1 x2;obtain rfl:=hRr.uniq hR9;rw[<-hF9 zzT]at hO9;have hn9:-1<=q9.i 66/\0<=q9.i 67/\0<=q9.i 68/\0<=q9.i 69:=hn9.1;have G10:ai 66 q8 q10:=g9.tr g10;have G11:ai 66 q8 q11:=G10.tr g11;have G9:ai 70 q9 q11:=g10.tr g11;have hu9:nQ (q10.h 66) none (.slice (ar (q11.i 66) (q11.i 67)) (q11.i 68).toNat (q11.i 69).toNat) rows[k]:=by
      rw[g10.h 66,G9.i 66,G9.i 67,G9.i 68,G9.i 69];exact nQ.of hO9.rd.w hn9.1 hn9.2.1
     rw[e11,G10.h 64,G11.i 61,G11.i 62,G11.i 63];rw[G10.h 64]at hd11;have hpre:∃ xs,aK ((q8.h 64).un (q10.h 66)) 46 1 (.slice (ar (q8.i 61) 0) (q8.i 62).toNat (q8.i 63).toNat) (q8.i 62).toNat xs:=by
      obtain⟨us',ho',_⟩:=hRk;rw[show(q8.i 62).toNat=(S.recs++rows.take k).length by rw[aac,aaA];omega]at ho' ⊢;exact⟨us',ho'.mono (Hl.aX _ _)⟩
     refine⟨⟨hpre,x62,by unfold maxLen;omega,ah⟩,fun q12 g12 ⟨a1,a2,happ,hkp,_,hnw⟩=>?_⟩;have G12:ai 66 q8 q12:=G11.tr g12;have hrows:=uT hRk x61 x62 hd11 hu9 a1 happ hkp hnw;have e62:q12.i 62+1=q8.i 62+1:=by rw[G12.i 62]
     have e60:q12.i 60=k:=by rw[G12.i 60,ek]
     have w60:IntKind.i64.wrap (q12.i 60+1)=(k:Int)+1:=by rw[e60];exact wrap_i64 ah ah
     refine⟨⟨k+1,?_,ah,a1,?_,a2,?_,?_⟩,?_⟩
     .show IntKind.i64.wrap (q12.i 60+1)=_;rw[w60];rfl
     .show 0<=q12.i 62+1;omega
     .show q12.b 65=false;rw[G12.b 65];exact b65
     .show bX (q12.h 72) (.slice (ar (q12.i 72) 0) (q12.i 62+1).toNat (q12.i 73).toNat) _;rw[e62,abJ,hrk,abN,<-aaF];exact hrows
     .show((rows.length:Int)-IntKind.i64.wrap (q12.i 60+1)).toNat<_;rw[w60];omega
    .have hke:k=rows.length:=ah;subst hke;rw[abg]at hRk;refine fin q8 41 64 42 _ _ _ _ _ _ _ _ _ _ _ _ (.sl (.var 61) (.lit 0) (.var 62) (.var 63)) _ _ _ G8 ?_ ?_ ?_ ?_ ?_ ?_
     .rw[hAdd,g8.h 41,G47.h 41,hK1];exact hL4
     .rw[hAdd];exact⟨rfl,rfl⟩
     .rw[hAdd];unfold FK;rw[aay (hn46.symm.trans h46)];exact hRk
     .rw[bF,b65,hAdd];show false=(if _ then true else S.over);rw[aal hcl];exact hof.symm
     .rw[hAdd,g8.h 42,G47.h 42,hK2];exact hD4
     .rw[hAdd,aq];exact(hn46.symm.trans h46).symm
def kP : Value.pointer (ar (bo (some (Value.pointer (some ⟨a,0,none⟩))) 0) (bo (some (Value.pointer (some ⟨a,0,none⟩))) 1))=.pointer (some ⟨a,0,none⟩):=by
 show Value.pointer (ar ((a:Nat):Int) 0)=_;rw[js]
def BI.cells (h:BI H a dp pa pb sl S):H.cell a 0=some pa/\H.cell a 2=some sl:=by
 unfold Hl.cell;rw[h.bd];exact⟨rfl,rfl⟩
def Fs:Sx.Spec where
 fn:=20
 own:=[]
 rd:=[0]
 res:=[.one .sl]
 pre:=fun xs Hs Rs=>∃ p R dp S,xs=[p]/\Rs=[R]/\mn R p dp S/\S.recs.length<=1000000000/\∀ r∈S.recs,r.length<=1000000
 post:=fun xs Hs Rs v Hs' F=>∃ p R dp S,xs=[p]/\Rs=[R]/\mn R p dp S/\bX F v S.recs
def Lv (h:mn R p dp S) (hp:Fs.post [p] [] [R] v K F):bX F v S.recs:=by
 obtain⟨p',R',dp',S',e1,e2,h',hv⟩:=hp;simp only[aag,aau]at e1 e2;subst e1 e2;obtain⟨_,rfl⟩:=h.uniq h';exact hv
def Wj:List Sx.Spec:=[sS]
def T6:∀ t∈Wj,t.OK Tryz.prog:=fun t ht=>by
 simp only[Wj,aan,aat,aaX]at ht;rw[ht];exact xQ
def Ft:aF Tryz.prog Wj Fs.fn where
 Λ:=fun p=>if I9 p then some ⟨0,[(11,TI .i64 (.var 50)),(3,.sv (.one (.sl (.var 53) (.lit 0) (.var 54) (.var 55))))],[(1,.hp 56 [] [.var 53] [])],60⟩else none
 args:=[TP (.var 0) (.lit 0)]
 mem:=[.ro 1 [.var 0] true]
 nv:=2
def OO:Fs.OK Tryz.prog:=by
 refine Spec.aV (Γ:=Wj) T6 ?_;rintro xs Hs Rs hl1 hl2 ⟨p,R,dp,S,rfl,rfl,hS,hlen,aB⟩;have e0:Hs=[]:=aad.1 hl1;subst e0;obtain⟨a,pa,pb,sl,rfl,hr⟩:=id hS;have hc:=hr.cells.2;obtain⟨rx,rc,hrx,rfl⟩:=hr.rows.rep;have hat:=bX.at (l:=(S.recs.length:Int)) (c:=(rc:Int)) (rows:=S.recs) (by rw[aaa,aaa];exact hr.rows) hrx ah;refine⟨Ft,aQ [(a:Int)] false [Hl.none,R],fun _ q=>∃ k:Nat,q.i 50=k/\k<=S.recs.length/\ -1<=q.i 53/\0<=q.i 54/\0<=q.i 55/\bX (q.h 56) (.slice (ar (q.i 53) 0) (q.i 54).toNat (q.i 55).toNat) (S.recs.take k),fun _ q=>(S.recs.length-q.i 50).toNat,?_,⟨?_,?_,?_,?_⟩,(fun _ h=>nomatch h),?_⟩
 .show [Value.pointer (ar (a:Int) 0)]=_;rw[js]
 .intro r hr ho;simp [Ft]at hr;subst hr;cases ho
 .intro r hr ho;simp [Ft]at hr;subst hr;exact⟨R,aC,Hl.le_refl _⟩
 .simp [Ft]
 .intro r hr;simp [Ft]at hr;subst hr;trivial
 .refine aF.read [] [] [] ?_;generalize hρ:aQ [(a:Int)] false [Hl.none,R]=J;have v0:J.i 0=a:=by rw[<-hρ];rfl
  have w1:J.h 1=R:=by rw[<-hρ];rfl
  clear hρ;have t2:Int.toNat 2=2:=rfl;simp only[go_sem,Nat.reduceAdd,Wj,Uy,Jy,t2];rw[v0,w1,aaa,hc,nL hrx];refine⟨ah,rfl,ah,⟨0,rfl,abn _,aar _,aar _,aar _,bX.nil _⟩,fun q8 g8 ⟨k,ek,qv,x61,x62,x63,hRk⟩=>?_⟩;have h62:q8.i 54=k:=by
   have:=(hRk.at x61 x62).1;rw[aaA]at this;omega
  rw[g8.i 0,g8.h 1,v0,w1,ek,aaa,hc,nL hrx];refine⟨fun hlt=>?_,fun hge=>?_⟩
  .have hkr:k<S.recs.length:=ah;have hrk:S.recs[k]?=some S.recs[k]:=aab hkr;obtain⟨hx0,u,hcu,hRu⟩:=hat.2 k _ hrk;have hRr:=hRu.rd;have hsl:∃ a l c,u=Value.slice a l c:=(fC.parts hRr).1;rw[zW hrx,FD hx0 (aar _)];have hck:R.cell rx.toNat (0+(k:Int)).toNat=some u:=by rw[show(0+(k:Int)).toNat=k by omega];exact hcu
   rw[hck,ij hsl];refine⟨hx0,aar _,ah,by obtain⟨_,_,_,e⟩:=hsl;rw[e];rfl,⟨_,_,R,rfl,rfl,hRr,aB _ (abB _)⟩,fun q9 g9 ⟨F9,⟨u9,bs9,R9,x1,x2,hR9,hO9⟩,hF9,hn9⟩ q10 g10 _ q11 g11 ⟨e11,hd11⟩=>?_⟩;simp only[aag,aau]at x1 x2;subst x1 x2;obtain rfl:=hRr.uniq hR9;rw[<-hF9 zzT]at hO9;have hn9:-1<=q9.i 60/\0<=q9.i 61/\0<=q9.i 62/\0<=q9.i 63:=hn9.1;have G10:ai 60 q8 q10:=g9.tr g10;have G11:ai 60 q8 q11:=G10.tr g11;have G9:ai 64 q9 q11:=g10.tr g11;have hu9:nQ (q10.h 60) none (.slice (ar (q11.i 60) (q11.i 61)) (q11.i 62).toNat (q11.i 63).toNat) S.recs[k]:=by
    rw[g10.h 60,G9.i 60,G9.i 61,G9.i 62,G9.i 63];exact nQ.of hO9.rd.w hn9.1 hn9.2.1
   rw[e11,G10.h 56,G11.i 53,G11.i 54,G11.i 55];rw[G10.h 56]at hd11;have hpre:∃ xs,aK ((q8.h 56).un (q10.h 60)) 46 1 (.slice (ar (q8.i 53) 0) (q8.i 54).toNat (q8.i 55).toNat) (q8.i 54).toNat xs:=by
    obtain⟨us',ho',_⟩:=hRk;rw[show(q8.i 54).toNat=(S.recs.take k).length by rw[aaA];omega]at ho' ⊢;exact⟨us',ho'.mono (Hl.aX _ _)⟩
   refine⟨⟨hpre,x62,by unfold maxLen;omega,ah⟩,fun q12 g12 ⟨a1,a2,happ,hkp,_,hnw⟩=>?_⟩;have G12:ai 60 q8 q12:=G11.tr g12;have hrows:=uT hRk x61 x62 hd11 hu9 a1 happ hkp hnw;have e62:q12.i 54+1=q8.i 54+1:=by rw[G12.i 54]
   have e60:q12.i 50=k:=by rw[G12.i 50,ek]
   have w60:IntKind.i64.wrap (q12.i 50+1)=(k:Int)+1:=by rw[e60];exact wrap_i64 ah ah
   refine⟨⟨k+1,?_,ah,a1,?_,a2,?_⟩,?_⟩
   .show IntKind.i64.wrap (q12.i 50+1)=_;rw[w60];rfl
   .show 0<=q12.i 54+1;omega
   .show bX (q12.h 66) (.slice (ar (q12.i 66) 0) (q12.i 54+1).toNat (q12.i 67).toNat) _;rw[e62,abJ,hrk,abN];exact hrows
   .show((S.recs.length:Int)-IntKind.i64.wrap (q12.i 50+1)).toNat<_;rw[w60];omega
  .have hke:k=S.recs.length:=ah;subst hke;rw[abg]at hRk;intro _;refine⟨[],[1],rfl,rfl,⟨(bh fun j=>[q8.i 53,0,q8.i 54,q8.i 55].getD j 0),rfl,⟨x61,aar _,x62,x63⟩,zzT⟩,_,R,dp,S,rfl,rfl,hS,?_⟩;show bX (cu [q8.h 56]) _ _;rw[aL];exact hRk
def Uk:Env:=(bh fun _=>0)
def cD {mem:Mem} (h1:∀ r∈mem,∃ k t a,r=.ro k t a) (h2:mem.map (bm.hl J)=Rs):Entry J mem Hs Rs:=by
 refine⟨fun r hr ho=>?_,fun r hr _=>⟨r.hl J,by rw[<-h2];exact aaW.2 ⟨r,hr,rfl⟩,Hl.le_refl _⟩,?_,fun r hr=>?_⟩
 .obtain⟨k,t,a,rfl⟩:=h1 r hr;cases ho
 .refine acu.2 fun i j hi hj _ ho=>?_;obtain⟨k,t,a,e⟩:=h1 mem[i] (abB hi);rw[e]at ho;cases ho
 .obtain⟨k,t,a,rfl⟩:=h1 r hr;trivial
def J6 (hl:R.le R') (h:R.cell b j=some v):R'.cell b j=some v:=by
 unfold Hl.cell at h ⊢;cases hR:R b with
 | none=>rw[hR]at h;cases h
 | some o=>rw[hR]at h;rw[hl _ _ hR];exact h
def jP (h:fC R v bs) (hl:R.le R'):fC R' v bs:=by
 obtain⟨x,y,c,e,hy,h⟩:=h;exact⟨x,y,c,e,hy,h.imp id fun⟨hx,h⟩=>⟨hx,fun j z hz=>J6 hl (h j z hz)⟩⟩
def Ra:List Int:=List.replicate 16 0
def Lp (h:6<=m/\m<=16384):fQ (fO m)=0/\ic (fO m)=VC ⟨0,64*(((m/2:Nat):Int)-2),0,0,Ra,false⟩ [] ⟨((m/2:Nat):Int),64*(((m/2:Nat):Int)-2),0,0,Ra,false⟩ []:=by
 have hs:(fO m).n=m:=by
  show ie m=m;unfold ie;omega
 have h1:gX (fO m) 0 ((m/2:Nat):Int) 0 [] (List.replicate 16 0):=ou ah ah ah;have h2:gX (fO m) (m/2) ((m/2:Nat):Int) 0 [] (List.replicate 16 0):=ou ah ah ah;have e1:rV (fO m)=⟨0,64*(((m/2:Nat):Int)-2),0,0,Ra,false⟩:=by unfold rV;rw[hs];exact h1.jO
 have e2:lr (fO m)=⟨((m/2:Nat):Int),64*(((m/2:Nat):Int)-2),0,0,Ra,false⟩:=by unfold lr;rw[hs];exact h2.jO
 have e3:nA (fO m)=[]:=by unfold nA;rw[hs];exact h1.ky
 have e4:iV (fO m)=[]:=by unfold iV;rw[hs];exact h2.ky
 refine⟨?_,?_⟩
 .unfold fQ;rw[hs,aal ah];rfl
 .unfold ic;rw[e1,e2,e3,e4,aal (by show ¬fu _<fu _;exact adv _)]
def KS:qP 0=0:=rfl
def Pe (ho:S.over=false) (hk:iZ rows) (hne:rows≠[]) (hr:((bL rows).length:Int)<=S.LA.most-S.bA.length) (he:(bp D S.LA S.bA (bL rows) S.LA.note).e=0) :
 (db D S rows).e=0/\(db D S rows).D=(bp D S.LA S.bA (bL rows) S.LA.note).D/\(db D S rows).S=⟨(bp D S.LA S.bA (bL rows) S.LA.note).L,(bp D S.LA S.bA (bL rows) S.LA.note).bs,S.LB,S.bB,S.recs++rows,false⟩:=by
 have e:db D S rows=FK D S rows (bp D S.LA S.bA (bL rows) S.LA.note):=by
  unfold db;rw[aal (by rw[ho];simp),aal (fun h=>h hk),aal hne,aal ah]
 rw[e];unfold FK;rw[he,KS,aay rfl,aal (fun h=>h.1 rfl),ho];exact⟨rfl,rfl,rfl⟩
def HQ (hD:aE H dp D) (hp:uZ.post [dp] [H] [] v [H'] F):∃ pv,aE H' dp D/\v=.tuple #[pv,.int .i64 (fQ D)]/\(fQ D=0->iP F pv dp (ic D))/\(fQ D≠0->pv=.pointer none):=by
 obtain⟨dp',Hx,D',H2,pv,e1,e2,hD',e3,hD2,hv,h1,h2⟩:=hp;simp only[aag,aau]at e1 e2 e3;subst e1 e2 e3;obtain rfl:=hD'.uniq hD;exact⟨pv,hD2,hv,h1,h2⟩
def L0 {HD HD' RG:Hl} (h1:iP H p dp S) (h2:aE HD dp D) (h3:jG R RA u rows) (hp:FL.post [p,u] [H,HD] [R,RA,RG] v [H',HD'] F) :
 aE HD' dp (db D S rows).D/\iP H' p dp (db D S rows).S/\v=.int .i64 (db D S rows).e:=by
 obtain⟨p',u',Hx,HDx,Rx,RAx,RGx,dp',S',D',rows',H2,HD2,e1,e2,e3,k1,k2,k3,e4,k4,k5,hv⟩:=hp;simp only[aag,aau]at e1 e2 e3 e4;obtain⟨a1,a2⟩:=e1;obtain⟨a3,a4⟩:=e2;obtain⟨a5,a6,a7⟩:=e3;obtain⟨a8,a9⟩:=e4;subst a1 a2 a3 a4 a5 a6 a7 a8 a9;obtain⟨rfl,rfl⟩:=h1.rd.uniq k1.rd;obtain rfl:=h2.uniq k2;obtain rfl:=h3.uniq k3;exact⟨k4,k5,hv⟩
def yes (fn:FuncId) (pre:List Value->List Hl->Prop) (rd:List Nat):Sx.Spec where
 fn:=fn
 own:=[]
 rd:=rd
 res:=[.one .bool]
 pre:=fun xs Hs Rs=>pre xs Rs
 post:=fun xs Hs Rs v Hs' F=>v=.bool true
end Go.Proofs.YtomdimlnggpgbaaGreatDoor
namespace Go.Proofs.YtomdimlnggpgbaaGreatDoor.D
open Go Go.Sx
variable {D D':DM}{i n:Int}{all b bs nt nt':List Int}{frm j k:Nat}
def EU (h:D.ok) (hi:D.has i=true) (hb:bs.length=64) (hj:¬(64*i.toNat<=j/\j<64*i.toNat+64)):(qQ D i bs).now[j]?=D.now[j]?:=by
 rw[zl h hi hb,aal hj]
def Gx (frm:Nat) (all:List Int) (B:Nat):∀ (f i:Nat) (D:DM),qM D->all.length+1<=f+i->all.length+64*(frm+2)<=64*D.n->64*(frm+2)+all.length<=64*B ->
 ∀ j,(j<64*frm\/64*B<=j)->(fW frm all f i D).2.now[j]?=D.now[j]?:=by
 intro f
 induction f with
 | zero =>
  intro i D h h1 h2 h3 j hj;show(cM D).2.now[j]?=_;rw[(ju h).2.2.1]
 | succ f ih =>
  intro i D h h1 h2 h3 j hj;have ec:(frm:Int)+2+i=((frm+2+i:Nat):Int):=ah;by_cases hlt:64*i<all.length
  .have hi:D.has ((frm:Int)+2+i)=true:=by unfold DM.has;simp only[aaf];omega
   have hw:=mm h hi (iO all i);have e:fW frm all (f+1) i D=fW frm all f (i+1) (qQ D ((frm:Int)+2+i) (nG all i)):=by
    show(if 64*i<all.length then _ else _)=_;rw[aay hlt,hw];simp
   rw[e,ih (i+1) _ (qF h hi (iO all i)) ah h2 h3 j hj,EU h.ok hi (iO all i)];rw[ec,aaa];omega
  .have e:fW frm all (f+1) i D=cM D:=by
    show(if 64*i<all.length then _ else _)=_;rw[aal hlt]
   rw[e,(ju h).2.2.1]
def gX.out (h:gX D frm n k all nt) (hb:(all.length:Int)+b.length<=64*(n-2)) (hk:k<1000000) (hn':nt'.length=16) :
 (bp D ⟨frm,64*(n-2),k,all.length,nt,false⟩ all b nt').D.n=D.n/\∀ j:Nat,((j:Int)<64*frm\/64*(frm+n)<=(j:Int))->(bp D ⟨frm,64*(n-2),k,all.length,nt,false⟩ all b nt').D.now[j]?=D.now[j]?:=by
 obtain⟨r1,r2⟩:=h.rng;have hDn:=h.sure.ok.n;have hal:(all++b).length=all.length+b.length:=aac;obtain⟨L,hL⟩:∃ L:LM,L=⟨frm,64*(n-2),k,all.length,nt,false⟩:=⟨_,rfl⟩;rw[<-hL];have f1:L.frm=frm:=by rw[hL]
 have f2:L.most=64*(n-2):=by rw[hL]
 have f3:L.serial=k:=by rw[hL]
 have f4:L.over=false:=by rw[hL]
 obtain⟨F,hF⟩:∃ F,F=(hJ D L.frm (all++b) all.length).2:=⟨_,rfl⟩;obtain⟨a1,a2,a3,_,_⟩:=vI frm (all++b) ((all++b).length+1) (all.length/64) D h.sure ah ah;have ao:=Gx frm (all++b) (frm+n.toNat) ((all++b).length+1) (all.length/64) D h.sure ah ah ah;have efr:hJ D L.frm (all++b) all.length=fW frm (all++b) ((all++b).length+1) (all.length/64) D:=by
  unfold hJ;rw[f1,show(((all.length:Nat):Int)/64).toNat=all.length/64 by omega]
 rw[<-efr]at a1 a2 a3 ao;rw[<-hF]at a2 a3 ao;obtain⟨N,hN⟩:∃ N,N=tq L (all++b) nt':=⟨_,rfl⟩;have eN:N=((k+1:Nat):Int)::((all++b).length:Int)::nt':=by
  rw[hN];unfold tq;rw[f3];rfl
 have hp:((k+1:Nat):Int).tmod 2=(((k+1)%2:Nat):Int):=by
  rw[abh ah];omega
 obtain⟨p,hpp⟩:∃ p,p=(k+1)%2:=⟨_,rfl⟩;have hp2:p<2:=ah;obtain⟨b1,_⟩:=AB (a:=((k+1:Nat):Int)) (b:=((all++b).length:Int)) (nt:=nt') ⟨ah,ah⟩ ⟨ah,ah⟩ hn';rw[<-eN]at b1;have hhl:(ct N++ct N).length=64:=by rw[aac,b1]
 have ei:∀ q:Nat,(frm:Int)+((q:Nat):Int)=((frm+q:Nat):Int):=fun q=>ah;have hasF:F.has ((frm:Int)+(p:Int))=true:=by unfold DM.has;rw[a3];simp only[aaf];omega
 have hw:=mm a2 hasF hhl;obtain⟨G,hG⟩:∃ G,G=qQ F ((frm:Int)+(p:Int)) (ct N++ct N):=⟨_,rfl⟩;rw[<-hG]at hw;have hGs:qM G:=by rw[hG];exact qF a2 hasF hhl
 have hGn:G.n=D.n:=by rw[hG,<-a3];rfl
 obtain⟨s1,s2,s3,s4⟩:=ju hGs;have htn:jl F L.frm N=cM G:=by
  unfold jl;have e0:N.getD 0 0=((k+1:Nat):Int):=by rw[eN];rfl
  rw[f1,e0,hp,<-hpp,hw];simp
 have hbec:cf D L (all++b) nt' all.length=(0,(cM G).2):=by
  unfold cf;rw[aal (by rw[a1];simp),<-hF,<-hN,htn,aal (by rw[s1];simp)]
 have happ:bp D L all b nt'=⟨0,(cM G).2,pt L (all++b) nt',all++b⟩:=by
  unfold bp;rw[f4,f3,f2,aal aC,aal ah,aal ah,hbec];rfl
 rw[happ];refine⟨s4.trans hGn,fun j hj=>?_⟩;show(cM G).2.now[j]?=_;rw[s3,hG,EU a2.ok hasF hhl (by rw[ei p,aaa];omega)];exact ao j ah
def gX.cH (h:gX D frm n k all nt) (hs:qM D') (hn:D'.n=D.n) (hsame:∀ j:Nat,64*(frm:Int)<=j->(j:Int)<64*(frm+n)->D'.now[j]?=D.now[j]?):gX D' frm n k all nt:=by
 obtain⟨r1,r2⟩:=h.rng;have hl:=h.len;have rd:∀ q:Nat,q<2->bx D' frm (64*(n-2)) (q:Int)=bx D frm (64*(n-2)) (q:Int):=by
  intro q hq;refine yL h.sure hs hn (by unfold DM.has;simp only[aaf];omega) (wx fun j h1 h2=>hsame j ?_ ?_)
  .omega
  .omega
 refine⟨hs,⟨r1,by rw[hn];exact r2⟩,hl,h.note,?_,?_,fun t z ht=>?_⟩
 .rw[rd _ ah];exact h.cur
 .have e1:bx D' frm (64*(n-2)) 1=bx D frm (64*(n-2)) 1:=rd 1 ah;rw[rd _ ah,e1];exact h.oth
 .have hlt:=(aah.1 ht).1;rw[hsame _ ah ah];exact h.bytes t z ht
end Go.Proofs.YtomdimlnggpgbaaGreatDoor.D
namespace Go.Proofs.YtomdimlnggpgbaaGreatDoor
open Go Go.Sx Go.Pk
open Go.Proofs.YtomdimlnggpgbaaGreatDoor.D hiding aQ aD ib
variable {D:DM}{g:Int}{rows:List (List Int)}{K K' m n:Nat}{S:SM}
def Q5 {r rest:List Int} (h:r.length<=4096):tx (aO r++rest)=(r,rest,false):=by
 have e:gw (aO r++rest)=(r.length,(aj r.length).length):=by
  unfold gw aO;rw[aaF,uM ah];rfl
 have hp:=Ez r.length;unfold tx mD;rw[e,aal]
 .show(((aO r++rest).drop (aj r.length).length).take r.length,(aO r++rest).drop ((aj r.length).length+r.length),false)=_;unfold aO;rw[aaF,acn rfl,aco rfl,<-aca,acn rfl,acn rfl]
 .show ¬(false=true\/(aj r.length).length=0\/(4096:Int)<0\/min (min 4096 4096) (((aO r++rest).length:Int)-((aj r.length).length:Nat))<((r.length:Nat):Int));have:(aO r++rest).length=(aj r.length).length+r.length+rest.length:=by unfold aO;simp;omega
  rw[this];simp only[abb,false_or];omega
def Hk (r:List Int) (rows:List (List Int)):bL (r::rows)=aO r++bL rows:=rfl
def tE (a b:List (List Int)):bL (a++b)=bL a++bL b:=by unfold bL;rw[aaK,acx]
def wG:∀ {rows:List (List Int)},iZ rows->jf (bL rows)=rows
 | [],_=>rfl
 | r::rows,h=>by
  have hr:=h r (aaI ..);have hp:=Ez r.length;rw[Hk,Bv (by intro e;have:=aaQ List.length e;unfold aO at this;rw[aac,aac]at this;simp only[aa9]at this;omega),Q5 hr,aal aC];show r::jf (bL rows)=_;rw[wG fun s hs=>h s (aaq _ hs)]
def EN (h:∀ r∈rows,aG r):aG (bL rows):=by
 intro z hz;unfold bL at hz;obtain⟨l,hl,hz⟩:=acS.1 hz;obtain⟨r,hr,rfl⟩:=aaW.1 hl;unfold aO at hz;rcases aaU.1 hz with h1 | h1
 .exact AV _ z h1
 .exact h r hr z h1
structure SP (D:DM) (S:SM) (n:Nat) (g:Int) (K:Nat) where
 fA:Nat
 kA:Nat
 ntA:List Int
 fB:Nat
 kB:Nat
 ntB:List Int
 hn:D.n/2=n
 n3:3<=n
 place:(fA=0/\fB=n/\fu (ntB.take 8)<=g)\/(fA=n/\fB=0/\fu (ntB.take 8)<g)
 hA:gX D fA n kA S.bA ntA
 hB:gX D fB n kB S.bB ntB
 eA:S.LA=⟨fA,64*((n:Int)-2),kA,S.bA.length,ntA,false⟩
 eB:S.LB=⟨fB,64*((n:Int)-2),kB,S.bB.length,ntB,false⟩
 pk:S.bA=bL S.recs
 ok:iZ S.recs
 ov:S.over=false
 gen:fu (ntA.take 8)=g
 g0:0<=g/\g<=K
 kK:kA<=K/\kB<=K
 loose:D.loose=[]
 b1:aG S.bA
 b2:aG S.bB
def SP.open (h:SP D S n g K):fQ D=0/\ic D=S/\aG (nA D)/\aG (iV D):=by
 obtain⟨fA,kA,ntA,fB,kB,ntB,hn,n3,place,hA,hB,eA,eB,pk,ok,ov,gen,g0,kK,loose,b1,b2⟩:=h;have hE:fQ D=0:=by
  unfold fQ;rw[hn,hA.sure.gone,aal ah];rfl
 have hSx:S=VC S.LA S.bA S.LB S.bB:=by
  unfold VC;rw[pk,wG ok,<-pk,<-ov]
 have gA:rP S.LA=g:=by unfold rP;rw[eA];exact gen
 rcases place with ⟨rfl,rfl,hg⟩ | ⟨rfl,rfl,hg⟩
 .have e1:rV D=S.LA:=by unfold rV;rw[hn,eA];exact hA.jO
  have e2:lr D=S.LB:=by unfold lr;rw[hn,eB];exact hB.jO
  have e3:nA D=S.bA:=by unfold nA;rw[hn];exact hA.ky
  have e4:iV D=S.bB:=by unfold iV;rw[hn];exact hB.ky
  refine⟨hE,?_,by rw[e3];exact b1,by rw[e4];exact b2⟩;unfold ic;rw[e1,e2,e3,e4,gA,aal (by show ¬g<rP S.LB;unfold rP;rw[eB];show ¬g<fu (ntB.take 8);omega)];exact hSx.symm
 .have e1:rV D=S.LB:=by unfold rV;rw[hn,eB];exact hB.jO
  have e2:lr D=S.LA:=by unfold lr;rw[hn,eA];exact hA.jO
  have e3:nA D=S.bB:=by unfold nA;rw[hn];exact hB.ky
  have e4:iV D=S.bA:=by unfold iV;rw[hn];exact hA.ky
  refine⟨hE,?_,by rw[e3];exact b2,by rw[e4];exact b1⟩;unfold ic;rw[e1,e2,e3,e4,gA,aay (by show rP S.LB<g;unfold rP;rw[eB];exact hg)];exact hSx.symm
def SP.more (h:SP D S n g K) (hK:K<=K'):SP D S n g K' :=
 {h with g0:=⟨h.g0.1,by have:=h.g0.2;omega⟩,kK:=⟨by have:=h.kK.1;omega,by have:=h.kK.2;omega⟩}
def SP.apart (h:SP D S n g K):(h.fA:Int)+n<=h.fB\/(h.fB:Int)+n<=h.fA:=by
 rcases h.place with ⟨h1,h2,_⟩ | ⟨h1,h2,_⟩<;>omega
def SP.add (h:SP D S n g K) (hk:iZ rows) (hr:((bL rows).length:Int)<=64*((n:Int)-2)-S.bA.length) (hb:∀ r∈rows,aG r) (hK:K<1000000) :
 (db D S rows).e=0/\(db D S rows).S.recs=S.recs++rows/\Nonempty (SP (db D S rows).D (db D S rows).S n g (K+1)):=by
 by_cases hne:rows=[]
 .subst hne;have e:db D S []=⟨0,D,S⟩:=by
   unfold db;rw[aal (by rw[h.ov];simp),aal (fun h'=>h' hk),aay rfl]
  rw[e];exact⟨rfl,(abl _).symm,⟨h.more ah⟩⟩
 have hcap:((S.bA.length:Nat):Int)+((bL rows).length:Nat)<=64*((n:Int)-2):=ah;have hkA:h.kA<1000000:=by have:=h.kK.1;omega
 obtain⟨a1,a2,a3,a4⟩:=h.hA.append (b:=bL rows) (nt':=h.ntA) hcap hkA h.hA.note;obtain⟨o1,o2⟩:=h.hA.out (b:=bL rows) (nt':=h.ntA) hcap hkA h.hA.note;rw[<-h.eA]at a1 a2 a3 a4 o1 o2;have eN:S.LA.note=h.ntA:=by rw[h.eA]
 have eM:S.LA.most=64*((n:Int)-2):=by rw[h.eA]
 obtain⟨c1,c2,c3⟩:=Pe (D:=D) (S:=S) (rows:=rows) h.ov hk hne (by rw[eM];exact hr) (by rw[eN];exact a1);rw[eN]at c2 c3;have hpb:S.bA++bL rows=bL (S.recs++rows):=by rw[h.pk,tE]
 refine⟨c1,by rw[c3],⟨?_⟩⟩;rw[c2,c3,a3,a4];refine⟨h.fA,h.kA+1,h.ntA,h.fB,h.kB,h.ntB,by rw[o1];exact h.hn,h.n3,h.place,a2,h.hB.cH a2.sure o1 fun j h1 h2=>o2 j ?_,rfl,h.eB,hpb,fun r hr=>?_,rfl,h.gen,⟨h.g0.1,by have:=h.g0.2;omega⟩,⟨by have:=h.kK.1;omega,by have:=h.kK.2;omega⟩,BK a1,fun z hz=>?_,h.b2⟩
 .rcases h.apart with hp | hp<;>omega
 .rcases aaU.1 hr with h1 | h1
  .exact h.ok r h1
  .exact hk r h1
 .rcases aaU.1 hz with h1 | h1
  .exact h.b1 z h1
  .exact EN hb z h1
def SP.new (h:6<=m/\m<=16384):Nonempty (SP (fO m) (ic (fO m)) (m/2) 0 0)/\(ic (fO m)).recs=[]/\fQ (fO m)=0:=by
 obtain⟨e1,e2⟩:=Lp h;rw[e2];have hn:(fO m).n=m:=by show ie m=m;unfold ie;omega
 have hA:gX (fO m) 0 ((m/2:Nat):Int) 0 [] Ra:=ou ah ah ah;have hB:gX (fO m) (m/2) ((m/2:Nat):Int) 0 [] Ra:=ou ah ah ah;have hz:fu (Ra.take 8)=0:=by decide
 exact⟨⟨⟨0,0,Ra,m/2,0,Ra,by rw[hn],ah,Or.inl ⟨rfl,rfl,by rw[hz];exact aar 0⟩,hA,hB,rfl,rfl,rfl,fun r hr=>(by cases hr),rfl,hz,⟨aar 0,aar 0⟩,⟨aaz _,aaz _⟩,rfl,fun z hz=>(by cases hz),fun z hz=>(by cases hz)⟩⟩,rfl,e1⟩
end Go.Proofs.YtomdimlnggpgbaaGreatDoor
namespace Go.Proofs.YtomdimlnggpgbaaGreatDoor
open Go Go.Sx Go.Pk
open Go.Proofs.YtomdimlnggpgbaaGreatDoor.D (fu jh mX)
abbrev vB:Ck:=.int .u32
def Wv (xs:List Value):Value:=match xs with
 | [.int _ x,.int _ n]=>.int .u32 (bE n.toNat x)
 | _=>.bool false
def Ww (xs:List Value):Prop:=match xs with
 | [.int _ x,.int _ n]=>okW x/\0<=n/\n<=32
 | _=>False
def qj:Sx.Spec:=rA 102 [.one vB,.one (.int .i64)] [.one vB] Ww Wv
def zU:aF Tryz.prog [] 102 where
 Λ:=fun p=>if lp p then some ⟨0,[(0,.sv (.one (.int .u32 (.var 10)))),(5,TI .i64 (.var 11))],[],20⟩else none
 args:=(bW 0 [.one vB,.one (.int .i64)]).map .sv
 mem:=[]
 nv:=2
def AZ (z:Int):∃ J:Env,Value.int .u32 z=((j7 0 [.one vB]).ev J)/\fe 0 [.one vB] J:=⟨(bh fun _=>z),rfl,zzT,zzT⟩
def zT:qj.OK Tryz.prog:=by
 refine kE (fun t h=>by cases h) zU rfl rfl rfl (fun q _ hN=>?_) (fun q hq hN=>⟨fun _ e=>∃ k:Nat,e.i 11=k/\(k:Int)<=q.i 1/\e.i 10=bE k (q.i 0),fun _ e=>(q.i 1-e.i 11).toNat,?_⟩)
 .obtain⟨J,h1,h2⟩:=AZ (bE (q.i 1).toNat (q.i 0));exact⟨J,h1,h2⟩
 .have hN:okW (q.i 0)/\0<=q.i 1/\q.i 1<=32:=hN;obtain⟨h0,h1,h2⟩:=hN;refine aF.read [] [] [] ?_;simp only[go_sem,Nat.reduceAdd];refine⟨⟨0,rfl,h1,rfl⟩,fun e g ⟨k,ek,hk,e10⟩=>?_⟩;rw[g.i 1,ek];refine⟨fun hlt=>⟨⟨k+1,?_,ah,?_⟩,?_⟩,fun hge=>?_⟩
  .show IntKind.i64.wrap (e.i 11+1)=_;rw[ek,wrap_i64 ah ah];rfl
  .show IntKind.u32.wrap (IntKind.u32.wrap ((e.i 10).tdiv 2)+IntKind.u32.wrap ((e.i 10).tmod 2*2147483648))=rF (bE k (q.i 0));have hx:=FA h0 k ah;have hy:=FA h0 (k+1) ah;rw[e10];have hy:okW (rF (bE k (q.i 0))):=hy;generalize bE k (q.i 0)=x at hx hy;unfold okW at hx hy;unfold rF at hy ⊢;have d:x.tdiv 2=x/2:=abQ hx.1;have m:x.tmod 2=x%2:=abh hx.1;rw[d,m];have a:=ql (x:=x/2) ⟨ah,ah⟩;have b:=ql (x:=x%2*2147483648) ⟨ah,ah⟩;unfold dg at a b;rw[a,b];exact ql hy
  .show(q.i 1-IntKind.i64.wrap (e.i 11+1)).toNat<(q.i 1-(k:Int)).toNat;rw[ek,wrap_i64 ah ah];omega
  .have hk':(k:Int)=q.i 1:=ah;show Value.int .u32 (e.i 10)=Value.int .u32 (bE (q.i 1).toNat (q.i 0));rw[e10,<-hk',aaa]
def We (xs:List Value):Value:=match xs with
 | [.int _ x,.int _ n]=>.int .u32 (bE (-n).toNat x)
 | _=>.bool false
def YJ (xs:List Value):Prop:=match xs with
 | [.int _ x,.int _ n]=>okW x/\n∈([-2,-6,-7,-11,-13,-17,-18,-19,-22,-25]:List Int)
 | _=>False
def On:Sx.Spec:=rA 207 [.one vB,.one (.int .i64)] [.one vB] YJ We
def YK:aF Tryz.prog [] 207 where
 Λ:=aD
 args:=(bW 0 [.one vB,.one (.int .i64)]).map .sv
 mem:=[]
 nv:=2
def TY {n:Nat} (h1:1<=n) (h2:n<=31) {x:Int} (hx:okW x) {s r:Int} (hs:s=((32-n:Nat):Int)) (hr:r=(n:Int)):cn .or .u32 (IntKind.u32.wrap (x*2 ^ (min s.toNat IntKind.u32.bits))) (x.fdiv (2 ^ (min r.toNat IntKind.u32.bits)))=bE n x:=by
 subst hs hr;have a:min ((32-n:Nat):Int).toNat IntKind.u32.bits=32-n:=by show min _ 32=_;omega
 have b:min ((n:Nat):Int).toNat IntKind.u32.bits=n:=by show min _ 32=_;omega
 rw[a,b];exact Oo hx h1 h2
def Jw:On.OK Tryz.prog:=by
 refine kE (fun t h=>by cases h) YK rfl rfl rfl (fun q _ hN=>?_) (fun q hq hN=>⟨fun _ _=>True,fun _ _=>0,?_⟩)
 .obtain⟨J,h1,h2⟩:=AZ (bE (-(q.i 1)).toNat (q.i 0));exact⟨J,h1,h2⟩
 .have hN:okW (q.i 0)/\q.i 1∈([-2,-6,-7,-11,-13,-17,-18,-19,-22,-25]:List Int):=hN;obtain⟨h0,h1⟩:=hN;refine aF.read [] [] [] ?_;simp only[go_sem,Nat.reduceAdd];have key:∀ k:Nat,1<=k->k<=31->q.i 1= -(k:Int)->cn .and .u64 (IntKind.u64.wrap (-(k:Int))) 31=((32-k:Nat):Int) ->
   0<=cn .and .u64 (IntKind.u64.wrap (q.i 1)) 31 /\
   Value.int .u32 (cn .or .u32 (IntKind.u32.wrap (q.i 0*2 ^ (min (cn .and .u64 (IntKind.u64.wrap (q.i 1)) 31).toNat IntKind.u32.bits))) ((q.i 0).fdiv (2 ^ (min (IntKind.u64.wrap (32-cn .and .u64 (IntKind.u64.wrap (q.i 1)) 31)).toNat IntKind.u32.bits))))=Value.int .u32 (bE (-(q.i 1)).toNat (q.i 0)):=by
   intro k k1 k2 e hb;rw[e,hb];have hw:IntKind.u64.wrap (32-((32-k:Nat):Int))=k:=by rw[oW ah ah];omega
   rw[hw,TY k1 k2 h0 rfl rfl];exact⟨ah,by rw[show(-(-(k:Int))).toNat=k by omega]⟩
  simp only[aan,aat,aaX]at h1;rcases h1 with h | h | h | h | h | h | h | h | h | h
  .exact key 2 aA aA h aA
  .exact key 6 aA aA h aA
  .exact key 7 aA aA h aA
  .exact key 11 aA aA h aA
  .exact key 13 aA aA h aA
  .exact key 17 aA aA h aA
  .exact key 18 aA aA h aA
  .exact key 19 aA aA h aA
  .exact key 22 aA aA h aA
  .exact key 25 aA aA h aA
end Go.Proofs.YtomdimlnggpgbaaGreatDoor
namespace Go.Proofs.YtomdimlnggpgbaaGreatDoor
open Go Go.Sx Go.Pk
open Go.Proofs.YtomdimlnggpgbaaGreatDoor.D (fu jh mX fI)
variable {F R:Hl}{a d x y' z:Int}{bs l:List Int}{b c j k n o y:Nat}{T:TypeId}
def D5:Sx.Spec where
 fn:=209
 own:=[]
 rd:=[0]
 res:=[.one (.int .u64)]
 pre:=fun xs Hs Rs=>∃ u bs R,xs=[u]/\Rs=[R]/\fC R u bs/\bs.length<=1000
 post:=fun xs Hs Rs v Hs' F=>∃ u bs R,xs=[u]/\Rs=[R]/\fC R u bs/\v=.int .u64 (fu bs)
def D6:aF Tryz.prog [] D5.fn where
 Λ:=fun p=>if lp p then some ⟨0,[(3,TI .u64 (.var 10)),(8,TI .i64 (.var 11))],[],12⟩else none
 args:=[.sv (.one (.sl (.var 0) (.var 1) (.var 2) (.var 3)))]
 mem:=[.ro 4 [.var 0] true]
 nv:=5
def PO (bs:List Int) (_:Nat) (q:Env):Prop:=∃ k:Nat,k<=bs.length/\q.i 11=k/\q.i 10=fu (bs.take k)
def MR:D5.OK Tryz.prog:=by
 refine Spec.aV (Γ:=[]) (fun _ h=>by cases h) ?_;rintro xs Hs Rs hl1 hl2 ⟨u,bs,R,rfl,rfl,⟨x,y,cp,rfl,hy,hR⟩,hlen⟩;have e0:Hs=[]:=aad.1 hl1;subst e0;refine⟨D6,aQ [x,y,bs.length,cp] false [Hl.none,Hl.none,Hl.none,Hl.none,R],PO bs,fun _ q=>(bs.length-q.i 11).toNat,?_,⟨?_,?_,?_,?_⟩,(fun _ h=>nomatch h),?_⟩
 .show [Value.slice (ar x y) ((bs.length:Int)).toNat ((cp:Int)).toNat]=_;rw[aaa,aaa]
 .intro r hr ho;simp [D6]at hr;subst hr;cases ho
 .intro r hr ho;simp [D6]at hr;subst hr;exact⟨R,aC,Hl.le_refl _⟩
 .simp [D6]
 .intro r hr;simp [D6]at hr;subst hr;trivial
 .refine aF.read [] [] [] ?_;generalize hρ:aQ [x,y,bs.length,cp] false [Hl.none,Hl.none,Hl.none,Hl.none,R]=J;have v0:J.i 0=x:=by rw[<-hρ];rfl
  have v1:J.i 1=y:=by rw[<-hρ];rfl
  have v2:J.i 2=bs.length:=by rw[<-hρ];rfl
  have w4:J.h 4=R:=by rw[<-hρ];rfl
  simp only[go_sem,Nat.reduceAdd];rw[v2];refine⟨ah,⟨0,ah,rfl,rfl⟩,fun q g ⟨k,hk,h11,h10⟩=>?_⟩;rw[g.i 0,g.i 1,g.i 2,g.h 4,v0,v1,v2,w4,h11];refine⟨fun hlt=>?_,fun hge=>?_⟩
  .have hk':k<bs.length:=ah;have hxr:0<=x/\∀ j z,bs[j]?=some z->R.cell x.toNat (y.toNat+j)=some (.int .u8 z):=by
    rcases hR with h | h
    .subst h;simp at hk'
    .exact h
   have hc:R.cell x.toNat (y+k).toNat=some (.int .u8 bs[k]):=by
    rw[show(y+(k:Int)).toNat=y.toNat+k by omega];exact hxr.2 _ _ (aab hk')
   rw[hc];refine⟨hxr.1,hy,ah,rfl,⟨k+1,ah,?_,?_⟩,?_⟩
   .show IntKind.i64.wrap (q.i 11+1)=_;rw[h11];exact wrap_i64 ah ah
   .show jh (q.i 10) (bV ((q.h 4).cell (q.i 0).toNat (q.i 1+q.i 11).toNat))=_;rw[h10,g.i 0,g.i 1,g.h 4,v0,v1,w4,h11,hc,mX bs k hk'];rfl
   .show((bs.length:Int)-IntKind.i64.wrap (q.i 11+1)).toNat<_;rw[h11,wrap_i64 ah ah];omega
  .have e:k=bs.length:=ah;subst e;rw[abg]at h10;refine fun _=>⟨[],[],rfl,rfl,⟨(bh fun _=>q.i 10),rfl,zzT,zzT⟩,_,bs,R,rfl,rfl,⟨x,y,cp,rfl,hy,hR⟩,?_⟩;show Value.int .u64 (q.i 10)=_;rw[h10]
def XG {b c:Int} (ha:0<=a/\a<256) (hb:0<=b/\b<256) (hc:0<=c/\c<256) (hd:0<=d/\d<256):fu [a,b,c,d]=a*16777216+b*65536+c*256+d:=by
 show jh (jh (jh (jh 0 a) b) c) d=_;have e1:jh 0 a=a:=by rw[fI ah ah ha.1 ha.2];omega
 rw[e1,fI (n:=a) (c:=b) ha.1 ah hb.1 hb.2];rw[fI (n:=a*256+b) (c:=c) ah ah hc.1 hc.2];rw[fI (n:=(a*256+b)*256+c) (c:=d) ah ah hd.1 hd.2];omega
def PL (hl:bs.length=64) (hk:k<16):(bs.drop (4*k)).take 4=[bs.getD (4*k) 0,bs.getD (4*k+1) 0,bs.getD (4*k+2) 0,bs.getD (4*k+3) 0]:=by
 apply aaN;intro j;rw[aa2];have key:∀ i,i<4->(bs.drop (4*k))[i]?=some (bs.getD (4*k+i) 0):=fun i hi=>by
  rw[aa0,aap,aab ah];rfl
 match j with
 | 0=>exact key 0 ah
 | 1=>exact key 1 ah
 | 2=>exact key 2 ah
 | 3=>exact key 3 ah
 | j+4=>rw[aal ah];rfl
def LK (hl:bs.length=64) (hb:aG bs) (hk:k<16):IntKind.u32.wrap (fu ((bs.drop (4*k)).take 4))=FG bs k:=by
 have g:∀ i,i<64->0<=bs.getD i 0/\bs.getD i 0<256:=fun i hi=>by
  rw[aap,aab ah,abw];exact hb _ (abB _)
 rw[PL hl hk,XG (g _ ah) (g _ ah) (g _ ah) (g _ ah)];rfl
def Jr {y:Int} {l:Nat} (h:fC R (.slice (ar x y) l c) bs) (hx:-1<=x) (hy:0<=y) (hn:o+n<=bs.length) (hy':n=0\/y'=y+o) (h0:0<=y') (c':Nat):fC R (.slice (ar x y') n c') ((bs.drop o).take n):=by
 have hl:((bs.drop o).take n).length=n:=by rw[aaA,aaV];omega
 obtain⟨x1,y1,c1,e,hy1,h⟩:=h;rcases hy' with rfl | rfl
 .exact⟨x,y',c',by rw[acb];rfl,h0,Or.inl (acb ..)⟩
 .refine⟨x,y+o,c',by rw[hl],h0,?_⟩;by_cases hz:n=0
  .subst hz;exact Or.inl (acb ..)
  simp only[Value.slice.injEq]at e;obtain⟨ep,el,_⟩:=e;rcases h with rfl | ⟨hx1,hc⟩
  .simp at hn;omega
  obtain⟨rfl,hyy⟩:=kF hx hy ah hy1 ep;obtain rfl:=hyy hx1;refine Or.inr ⟨hx1,fun j z hz=>?_⟩;have hj:j<n:=by have:=(aah.1 hz).1;omega
  rw[abc hj,aa0]at hz;have:=hc _ _ hz;rw[show(y+(o:Int)).toNat+j=y.toNat+(o+j)by omega];exact this
def Ie (l:List Int):List Value:=l.map (Value.int .u32)
def wH (b:Nat) (l:List Int) (T:TypeId):Hl:=Hl.one b (.cells (Ie l).toArray T (0,0))
def JR (b:Nat) (l:List Int) (T:TypeId) (j:Nat):(wH b l T).cell b j=(l[j]?).map (Value.int .u32):=by
 unfold wH Ie;rw[Hl.lD,abi,aao]
def BB (h:l[j]?=some z):(wH b l T).cell b j=some (.int .u32 z):=by rw[JR,h];rfl
def C9 (h:y<l.length) (z:Int):(wH b l T).put b y [Value.int .u32 z]=wH b (l.set y z) T:=by
 unfold wH Ie;rw[Hl.Cv]
 congr 2
 apply aaQ;apply aaN;intro j;rw[Sx.si (by simp;omega),adx];simp only[aaL,aa9,acG,aaw,aao];by_cases h2:j=y
 .subst h2;rw[aay ah,aay rfl,aay h];simp
 .rw[aal ah,aal ah]
def JS (h:y<l.length):(wH b l T).wr b y 1=true:=Hl.Hi _ _ _ _ _ (by simp [Ie];omega)
def uR:∀ {n:Nat} (l:List Int),l.length=n->bf (Ie l) (List.replicate n (Kd.int .u32))
 | 0,[],_=>trivial
 | n+1,z::l,h=>⟨by simp [bw],uR l (by simpa using h)⟩
def HC (l:List Int) (h:l.length=n):bf (Ie l) ((List.replicate n vB).map j8):=by rw[acD];exact uR l h
def JW (bs:List Int) (k:Nat) (l:List Int):Prop:=l.length=64/\∀ j,j<k->l[j]?=some ((aP bs 64).getD j 0)
def JW.set (h:JW bs k l) (hk:k<64) (hz:z=if k<16 then FG bs k else BC (aP bs k) k):JW bs (k+1) (l.set k z):=by
 refine⟨by rw[List.length_set];exact h.1,fun j hj=>?_⟩;rw[acG];by_cases e:k=j
 .subst e;rw[aay rfl,aay (by rw[h.1];exact hk),lJ bs 64 k hk,hz]
 .rw[aal e];exact h.2 j ah
def Fk (n j:Nat) (h:j<n):okW ((aP bs n).getD j 0):=by
 rw[lJ bs n j h];split
 .exact zY _
 .exact zY _
def xx:Sx.Spec where
 fn:=206
 own:=[]
 rd:=[0]
 res:=[.agg (List.replicate 64 vB)]
 pre:=fun xs Hs Rs=>∃ x y c bs R,xs=[.slice (ar x y) 64 c]/\Rs=[R]/\fC R (.slice (ar x y) 64 c) bs/\bs.length=64/\64<=c/\aG bs/\0<=y/\ -1<=x
 post:=fun xs Hs Rs v Hs' F=>∀ u bs R,xs=[u]->Rs=[R]->fC R u bs->v=.agg (Ie (aP bs 64)).toArray
def Xh:List Sx.Spec:=[On,D5]
def Ua:∀ t∈Xh,t.OK Tryz.prog:=av Jw <| av MR <| bN
def tQ:aF Tryz.prog Xh xx.fn where
 Λ:=fun p=>if lp p then(if LR p [206,1,1,0,1,0]then some ⟨0,[(10,TI .i64 (.var 50))],[(2,.hp 51 [] [.var 6] [])],60⟩else some ⟨1,[(5,TI .i64 (.var 70))],[(2,.hp 71 [] [.var 6] [])],80⟩)else none
 args:=[.sv (.one (.sl (.var 0) (.var 1) (.var 2) (.var 3)))]
 mem:=[.ro 4 [.var 0] true]
 nv:=5
def Wo:On.res=[.one vB]:=rfl
def Y8:D5.res=[.one (.int .u64)]:=rfl
def jE (h:okW x) {n:Int} (hn:n∈([-2,-6,-7,-11,-13,-17,-18,-19,-22,-25]:List Int)):On.pre [.int .u32 x,.int .i64 n] [] []:=⟨⟨(bh fun i=>if i=0 then x else n),⟨zzT,zzT,zzT⟩,rfl⟩,h,hn⟩
def Kq {u v:Value} {K:List Hl} (h:fC R u bs) (hp:D5.post [u] [] [R] v K F):v=.int .u64 (fu bs):=by
 obtain⟨u',bs',R',e1,e2,h',hv⟩:=hp;simp only[aag,aau]at e1 e2;subst e1 e2;rw[hv,h'.uniq h]
def JW.get (h:JW bs k l) (hj:j<k) (hk:k<=64):l[j]?=some ((aP bs k).getD j 0):=by
 rw[h.2 j hj,Fj bs ah hj]
def JW.all (h:JW bs 64 l):l=aP bs 64:=by
 apply aaN;intro j;by_cases hj:j<64
 .rw[h.2 j hj,aap,aab (by rw[cV];exact hj)];rfl
 .rw[aas (by rw[h.1];omega),aas (by rw[cV];omega)]
def YX (h:okW x):x.fdiv (2 ^ (min (Int.toNat 3) IntKind.u32.bits))=x/8:=abt _ aA
def Wm (h:okW x):x.fdiv (2 ^ (min (Int.toNat 10) IntKind.u32.bits))=x/1024:=abt _ aA
def HU:xx.OK Tryz.prog:=by
 refine Spec.aV (Γ:=Xh) Ua ?_;rintro xs Hs Rs hl1 hl2 ⟨x,y,c,bs,R,rfl,rfl,hR,hlen,hc,hb,hy,hx⟩;have e0:Hs=[]:=aad.1 hl1;subst e0;refine⟨tQ,aQ [x,y,64,c] false [Hl.none,Hl.none,Hl.none,Hl.none,R],
  fun j q=>match j with
   | 0=>∃ (k:Nat) (l:List Int),q.i 50=k/\k<=16/\JW bs k l/\q.h 51=wH (q.i 6).toNat l 172
   | _=>∃ (k:Nat) (l:List Int),q.i 70=k/\16<=k/\k<=64/\JW bs k l/\q.h 71=wH (q.i 6).toNat l 172,
  fun j q=>match j with
   | 0=>(16-q.i 50).toNat
   | _=>(64-q.i 70).toNat,?_,⟨?_,?_,?_,?_⟩,(fun _ h=>nomatch h),?_⟩
 .show [Value.slice (ar x y) (Int.toNat 64) ((c:Int)).toNat]=_;rw[aaa];rfl
 .intro r hr ho;simp [tQ]at hr;subst hr;cases ho
 .intro r hr ho;simp [tQ]at hr;subst hr;exact⟨R,aC,Hl.le_refl _⟩
 .simp [tQ]
 .intro r hr;simp [tQ]at hr;subst hr;trivial
 .refine aF.read [] [] [] ?_;generalize hρ:aQ [x,y,64,c] false [Hl.none,Hl.none,Hl.none,Hl.none,R]=J;have V:∀ q:Env,ai 5 J q->q.i 0=x/\q.i 1=y/\q.i 2=64/\q.i 3=c/\q.h 4=R:=fun q hg=>by
   rw[hg.i 0,hg.i 1,hg.i 2,hg.i 3,hg.h 4,<-hρ];exact⟨rfl,rfl,rfl,rfl,rfl⟩
  clear hρ;simp only[go_sem,Nat.reduceAdd,Xh,Wo,Y8];intro q1 g1 _ q2 g2 p6 q3 g3 h7;have G3:ai 5 J q3:=g1.trans (g2.mono.tr g3);refine⟨⟨0,List.replicate 64 0,rfl,ah,⟨aC,fun j hj=>ah⟩,?_⟩,fun q4 g4 ⟨k,l,e50,hk,hW,hh⟩=>?_⟩
  .show q3.h 7=wH (q3.i 6).toNat _ _;rw[h7,g3.i 6];rfl
  have G4:ai 5 J q4:=G3.tr g4;obtain⟨v0,v1,v2,v3,w4⟩:=V q4 G4;have p6':0<=q4.i 6:=by rw[g4.i 6,g3.i 6];exact p6
  rw[v0,v1,v3,w4,e50];refine⟨fun hlt=>?_,fun hge=>?_⟩
  .have hk4:IntKind.i64.wrap (4*(k:Int))=4*k:=wrap_i64 ah ah;have hk5:IntKind.i64.wrap (4*(k:Int)+4)=4*k+4:=wrap_i64 ah ah;rw[hk4,hk5];have hsub:=Jr hR hx hy (o:=4*k) (n:=4) ah (y':=y+(4*k:Nat)) (Or.inr rfl) ah ((c:Int)-4*k).toNat;have e4:((4:Int)*k+4-4*k).toNat=4:=ah;rw[aal ah,e4];rw[show y+((4*k:Nat):Int)=y+4*(k:Int)by omega]at hsub;refine⟨ah,hy,ah,ah,ah,⟨_,_,R,rfl,rfl,hsub,by rw[aaA];omega⟩,fun q5 g5 ⟨F,p5,_,_⟩=>?_⟩;have e60:q5.i 60=fu ((bs.drop (4*k)).take 4):=by
    have:=Kq hsub p5;simpa using this
   have j50:q5.i 50=k:=by rw[g5.i 50,e50]
   have j6:q5.i 6=q4.i 6:=g5.i 6;have hl:=hW.1;rw[j6,j50,g5.h 51,hh,aaa];refine⟨p6',ah,⟨p6',ah,JS ah⟩,fun q6 g6 h61=>?_⟩;have ew:IntKind.i64.wrap (q6.i 50+1)=((k+1:Nat):Int):=by rw[g6.i 50,j50,wrap_i64 ah ah];rfl
   refine⟨⟨k+1,_,ew,ah,hW.set (z:=IntKind.u32.wrap (q5.i 60)) ah ?_,?_⟩,?_⟩
   .rw[aay ah,e60];exact LK hlen hb ah
   .show q6.h 61=wH (q6.i 6).toNat _ _;rw[h61,C9 ah,g6.i 6,j6]
   .show(16-IntKind.i64.wrap (q6.i 50+1)).toNat<_;rw[ew];omega
  .refine⟨⟨16,l,rfl,aaz _,ah,?_,hh⟩,fun q5 g5 ⟨k,l,e70,hk1,bU,hW,hh⟩=>?_⟩
   .have:k=16:=ah;subst this;exact hW
   have p6'':0<=q5.i 6:=by rw[g5.i 6];exact p6'
   have hl:=hW.1;refine⟨fun hlt=>?_,fun hge=>?_⟩
   .have rd:∀ {q:Env},ai 80 q5 q->∀ d:Nat,1<=d->d<=16->(q.h 71).cell (q.i 6).toNat (IntKind.i64.wrap (q.i 70-d)).toNat=some (.int .u32 ((aP bs k).getD (k-d) 0)):=fun {q} hg d h1 h2=>by
     rw[hg.h 71,hg.i 6,hg.i 70,e70,hh,wrap_i64 ah ah,show((k:Int)-d).toNat=k-d by omega];exact BB (hW.get ah ah)
    have ok:∀ d:Nat,1<=d->d<=16->okW ((aP bs k).getD (k-d) 0):=fun d h1 h2=>Fk _ _ ah;have wd:∀ d:Nat,1<=d->d<=16->IntKind.i64.wrap (q5.i 70-d)=(k:Int)-d:=fun d h1 h2=>by rw[e70,wrap_i64 ah ah]
    have r15:=fun {q:Env} (hg:ai 80 q5 q)=>rd hg 15 ah ah;have r2:=fun {q:Env} (hg:ai 80 q5 q)=>rd hg 2 ah ah;have r16:=fun {q:Env} (hg:ai 80 q5 q)=>rd hg 16 ah ah;have r7:=fun {q:Env} (hg:ai 80 q5 q)=>rd hg 7 ah ah;have w15:IntKind.i64.wrap (q5.i 70-15)=(k:Int)-15:=wd 15 ah ah;have w2:IntKind.i64.wrap (q5.i 70-2)=(k:Int)-2:=wd 2 ah ah;have v15:∀ {q:Env},ai 80 q5 q->bV ((q.h 71).cell (q.i 6).toNat (IntKind.i64.wrap (q.i 70-15)).toNat)=(aP bs k).getD (k-15) 0:=fun hg=>by
     have:=r15 hg;rw[show((15:Nat):Int)=15 from rfl]at this;rw[this];rfl
    have v2:∀ {q:Env},ai 80 q5 q->bV ((q.h 71).cell (q.i 6).toNat (IntKind.i64.wrap (q.i 70-2)).toNat)=(aP bs k).getD (k-2) 0:=fun hg=>by
     have:=r2 hg;rw[show((2:Nat):Int)=2 from rfl]at this;rw[this];rfl
    have v16:∀ {q:Env},ai 80 q5 q->(q.h 71).cell (q.i 6).toNat (IntKind.i64.wrap (q.i 70-16)).toNat=some (.int .u32 ((aP bs k).getD (k-16) 0)):=fun hg=>r16 hg;have v7:∀ {q:Env},ai 80 q5 q->(q.h 71).cell (q.i 6).toNat (IntKind.i64.wrap (q.i 70-7)).toNat=some (.int .u32 ((aP bs k).getD (k-7) 0)):=fun hg=>r7 hg;have u15:(q5.h 71).cell (q5.i 6).toNat ((k:Int)-15).toNat=some (.int .u32 ((aP bs k).getD (k-15) 0)):=by rw[<-w15];exact r15 (ai.refl _ _)
    have u2:(q5.h 71).cell (q5.i 6).toNat ((k:Int)-2).toNat=some (.int .u32 ((aP bs k).getD (k-2) 0)):=by rw[<-w2];exact r2 (ai.refl _ _)
    rw[w15,w2,u15,u2];refine⟨p6'',ah,ah,rfl,ah,ah,rfl,jE (ok 15 ah ah) aA,fun q6 g6 ⟨_,p6,_,_⟩=>?_⟩;rw[v15 g6];refine⟨jE (ok 15 ah ah) aA,fun q7 g7 ⟨_,p7,_,_⟩=>?_⟩;have G7:ai 80 q5 q7:=g6.tr g7;rw[v2 G7];refine⟨jE (ok 2 ah ah) aA,fun q8 g8 ⟨_,p8,_,_⟩=>?_⟩;have G8:ai 80 q5 q8:=G7.tr g8;rw[v2 G8];refine⟨jE (ok 2 ah ah) aA,fun q9 g9 ⟨_,p9,_,_⟩=>?_⟩;have G9:ai 80 q5 q9:=G8.tr g9;have e80:q9.i 80=bE 7 ((aP bs k).getD (k-15) 0):=by
     rw[g9.i 80,g8.i 80,g7.i 80];have h:Value.int .u32 (q6.i 80)=.int .u32 (bE 7 (bV (some (Value.int .u32 ((aP bs k).getD (k-15) 0))))):=p6;simpa [bV] using h
    have e81:q9.i 81=bE 18 ((aP bs k).getD (k-15) 0):=by
     rw[g9.i 81,g8.i 81];have h:Value.int .u32 (q7.i 81)=.int .u32 (bE 18 ((aP bs k).getD (k-15) 0)):=p7;simpa using h
    have e82:q9.i 82=bE 17 ((aP bs k).getD (k-2) 0):=by
     rw[g9.i 82];have h:Value.int .u32 (q8.i 82)=.int .u32 (bE 17 ((aP bs k).getD (k-2) 0)):=p8;simpa using h
    have e83:q9.i 83=bE 19 ((aP bs k).getD (k-2) 0):=by
     have h:Value.int .u32 (q9.i 83)=.int .u32 (bE 19 ((aP bs k).getD (k-2) 0)):=p9;simpa using h
    have j70:q9.i 70=k:=by rw[G9.i 70,e70]
    have j6:q9.i 6=q5.i 6:=G9.i 6;have w16:IntKind.i64.wrap (q9.i 70-16)=(k:Int)-16:=by rw[j70,wrap_i64 ah ah]
    have w7:IntKind.i64.wrap (q9.i 70-7)=(k:Int)-7:=by rw[j70,wrap_i64 ah ah]
    have u16:=v16 G9;have u7:=v7 G9;rw[w16]at u16;rw[w7]at u7;have vz:IntKind.u32.wrap (IntKind.u32.wrap (IntKind.u32.wrap ((aP bs k).getD (k-16) 0+kI (q9.i 80) (q9.i 81) ((aP bs k).getD (k-15) 0/8))+(aP bs k).getD (k-7) 0)+kI (q9.i 82) (q9.i 83) ((aP bs k).getD (k-2) 0/1024))=BC (aP bs k) k:=by
     rw[e80,e81,e82,e83];rfl
    have x1:az q9 (E.bits BinOp.xor IntKind.u32 (E.bits BinOp.xor IntKind.u32 (E.var 80) (E.var 81)) (E.shr IntKind.u32 (E.hI 71 (E.var 6) (E.wrap IntKind.i64 ((E.var 70).sub (E.lit 15))) 0) (E.lit 3)))=kI (q9.i 80) (q9.i 81) ((aP bs k).getD (k-15) 0/8):=by
     show kI (q9.i 80) (q9.i 81) ((bV ((q9.h 71).cell (q9.i 6).toNat ((IntKind.i64.wrap (q9.i 70-15)).toNat))).fdiv (2 ^ (min (Int.toNat 3) IntKind.u32.bits)))=_;rw[v15 G9,YX (ok 15 ah ah)]
    have x2:az q9 (E.bits BinOp.xor IntKind.u32 (E.bits BinOp.xor IntKind.u32 (E.var 82) (E.var 83)) (E.shr IntKind.u32 (E.hI 71 (E.var 6) (E.wrap IntKind.i64 ((E.var 70).sub (E.lit 2))) 0) (E.lit 10)))=kI (q9.i 82) (q9.i 83) ((aP bs k).getD (k-2) 0/1024):=by
     show kI (q9.i 82) (q9.i 83) ((bV ((q9.h 71).cell (q9.i 6).toNat ((IntKind.i64.wrap (q9.i 70-2)).toNat))).fdiv (2 ^ (min (Int.toNat 10) IntKind.u32.bits)))=_;rw[v2 G9,Wm (ok 2 ah ah)]
    have hh9:q9.h 71=wH (q5.i 6).toNat l 172:=by rw[G9.h 71,hh]
    rw[w16,w7,u16,u7,x1,x2,j6,j70,aaa,hh9];refine⟨ah,ah,rfl,ah,ah,rfl,ah,⟨p6'',ah,JS ah⟩,fun q10 g10 h84=>?_⟩;have h84:q10.h 84=(wH (q5.i 6).toNat l 172).put (q5.i 6).toNat k [Value.int .u32 (IntKind.u32.wrap (IntKind.u32.wrap (IntKind.u32.wrap ((aP bs k).getD (k-16) 0+kI (q9.i 80) (q9.i 81) ((aP bs k).getD (k-15) 0/8))+(aP bs k).getD (k-7) 0)+kI (q9.i 82) (q9.i 83) ((aP bs k).getD (k-2) 0/1024)))]:=h84;rw[vz,C9 ah]at h84;have ew:IntKind.i64.wrap (q10.i 70+1)=((k+1:Nat):Int):=by rw[g10.i 70,j70,wrap_i64 ah ah];rfl
    refine⟨⟨k+1,_,ew,ah,ah,hW.set ah (by rw[aal ah]),?_⟩,?_⟩
    .show q10.h 84=wH (q10.i 6).toNat _ _;rw[h84,g10.i 6,j6]
    .show(64-IntKind.i64.wrap (q10.i 70+1)).toNat<(64-q5.i 70).toNat;rw[ew,e70];omega
   .have ek:k=64:=ah;subst ek;obtain⟨S,hS⟩:∃ S,S=aP bs 64:=⟨_,rfl⟩;have hSl:S.length=64:=by rw[hS];exact cV bs 64
    have el:l=S:=by rw[hS];exact hW.all
    have aB:bf (Ie S) (List.replicate 64 (Kd.int .u32)):=uR S hSl;have hcell:∀ j u,(Ie S)[j]?=some u->(q5.h 71).cell (q5.i 6).toNat (0+j)=some u:=fun j u hu=>by
     rw[hh,el,JR,aaM,<-aao];exact hu
    have ev:(aU 71 (E.var 6) (E.lit 0) 0 (List.replicate 64 (Kd.int .u32))).map (CV.ev q5)=Ie S:=dq _ _ 0 aB fun i u hu=>by
     show(q5.h 71).cell (q5.i 6).toNat (Int.toNat 0+(0+i))=_;rw[show Int.toNat 0+(0+i)=0+i from aaM _];exact hcell i u hu
    obtain⟨ρ2,_,_,e2⟩:=cU (List.replicate 64 vB) 0 (Ie S) q5 (HC S hSl);refine⟨p6'',jR 0 aB hcell,fun _=>⟨[],[],rfl,rfl,⟨ρ2,?_,cC _ _ _ aA,zzT⟩,fun u bs' R' h1 h2 h'=>?_⟩⟩
    .show Value.agg ((aU 71 (E.var 6) (E.lit 0) 0 (List.replicate 64 (Kd.int .u32))).map (CV.ev q5)).toArray=Value.agg ((ak 0 (List.replicate 64 vB)).map (CV.ev ρ2)).toArray;rw[ev,e2]
    .simp only[aag,aau]at h1 h2;subst h1 h2;obtain rfl:=h'.uniq hR;show Value.agg ((aU 71 (E.var 6) (E.lit 0) 0 (List.replicate 64 (Kd.int .u32))).map (CV.ev q5)).toArray=_;rw[ev,hS]
end Go.Proofs.YtomdimlnggpgbaaGreatDoor
namespace Go.Proofs.YtomdimlnggpgbaaGreatDoor
open Go Go.Sx Go.Pk
variable {q q':Env}{F F' R:Hl}{c c' s x x' y z:Int}{K:List Hl}{bs l l':List Int}{L b j k m n:Nat}{T e:TypeId}{u:Value}{v v':Wd}
def s8 (v:Wd):List Int:=(List.range 8).map v
def T5 (h:s8 v=s8 v'):∀ j,j<8->v j=v' j:=fun j hj=>by
 have e:=aaQ (fun l=>l[j]?) h;unfold s8 at e;simp only[aao,aaJ hj,aaT,aak]at e;exact e
def OA (h:∀ j,j<8->v j=v' j):s8 v=s8 v':=abf fun j hj=>h j (aaP.1 hj)
def tK {v v':Wd} (h:∀ j,j<8->v j=v' j) (w:List Int):∀ n j,j<8->cR v w n j=cR v' w n j
 | 0,j,hj=>h j hj
 | n+1,j,hj=>by
  have ih:=tK h w n;have eT:∀ k x,HO (cR v w n) k x=HO (cR v' w n) k x:=fun k x=>by
   unfold HO;rw[ih 7 ah,ih 4 ah,ih 5 ah,ih 6 ah]
  have eU:O9 (cR v w n)=O9 (cR v' w n):=by
   unfold O9;rw[ih 0 ah,ih 1 ah,ih 2 ah]
  match j,hj with
  | 0,_=>show dg (HO _ _ _+O9 _)=dg (HO _ _ _+O9 _);rw[eT,eU]
  | 4,_=>show dg (cR v w n 3+HO _ _ _)=dg (cR v' w n 3+HO _ _ _);rw[eT,ih 3 ah]
  | 1,_=>exact ih 0 ah
  | 2,_=>exact ih 1 ah
  | 3,_=>exact ih 2 ah
  | 5,_=>exact ih 4 ah
  | 6,_=>exact ih 5 ah
  | 7,_=>exact ih 6 ah
def GW (h:∀ j,j<8->v j=v' j) (m:List Int):∀ j,j<8->oU v m j=oU v' m j:=fun j hj=>by
 unfold oU;rw[h j hj,tK h _ _ j hj]
def Uh (h:wH b l T=wH b l' T):l=l':=by
 have e:=congrFun h b;unfold wH at e;rw[Hl.aN,Hl.aN]at e;simp only[aak,Obj.cells.injEq,aaO,aaH,aau]at e;unfold Ie at e;exact(List.map_inj_right fun a b h=>by simpa using h).1 e
def uf (R:Hl) (g:Nat):Prop:=∀ j,j<64->R.cell g j=some (.int .u32 (CT.getD j 0))
def Qd:Sx.Spec where
 fn:=197
 own:=[.arg 0]
 rd:=[1,2000005]
 res:=[]
 pre:=fun xs Hs Rs=>∃ (a:Nat) (v:Wd) (x y:Int) (c:Nat) (bs:List Int) (R RG:Hl),xs=[.pointer (some ⟨a,0,none⟩),.slice (ar x y) 64 c]/\Hs=[wH a (s8 v) 285]/\Rs=[R,RG]/\(∀ j,j<8->okW (v j))/\fC R (.slice (ar x y) 64 c) bs/\bs.length=64/\64<=c/\aG bs/\0<=y/\ -1<=x/\uf RG 5
 post:=fun xs Hs Rs w Hs' F=>∀ (a:Nat) (u:Value) (v:Wd) (bs:List Int) (R RG:Hl),xs=[.pointer (some ⟨a,0,none⟩),u]->Hs=[wH a (s8 v) 285]->Rs=[R,RG]->fC R u bs->Hs'=[wH a (s8 (oU v bs)) 285]
def Rv:Nd:=(fun f o n d k p q=>(fun a b c=>(fun g h i j l m=>(.and (.pre d) (.ext d (.ext (.alloc 84) (.ext (.alloc 85) (.ext (.LU 86 (.bd 84 (ak 20 (List.replicate 64 (Ck.int .u32))) 172)) (.and (.inv 0 (([⟨110,0,.int .i64 (.lit 0)⟩]:List As)++(WW 87 (ak 120 k) (ak 10 k))) [(111,some 86)]) (.havoc 0 0 87 (.and (.imp (.lt f (.lit 64)) (.and (.pre l) (.ext l (.and (.pre g) (.ext g (.and (.pre h) (.ext h (.and (.e (.le (.lit 0) f)) (.and (.e (.his 6 (.lit 5) f 0 (.int .u32))) (.and (.e (.le (.lit 0) (.var 84))) (.and (.e (.his 111 (.var 84) f 0 (.int .u32))) (.and (.pre m) (.ext m (.and (.pre i) (.ext i (.and (.pre j) (.ext j (.back 0 0 (([⟨110,0,.int .i64 (.wrap .i64 (.add f (.lit 1)))⟩]:List As)++(WW 87 (ak 120 k) [.int .u32 (.wrap .u32 (.add a (.wrap .u32 (.add (.bits .xor .u32 (.bits .xor .u32 (.var 203) (.var 204)) (.var 205)) (.bits .xor .u32 (.bits .xor .u32 (.bits .and .u32 n p) (.bits .and .u32 n q)) (.bits .and .u32 p q)))))),.int .u32 n,.int .u32 p,.int .u32 q,.int .u32 (.wrap .u32 (.add (.var 123) a)),.int .u32 o,.int .u32 (.var 125),.int .u32 (.var 126)])) [(111,some 111)])))))))))))))))))) (.imp (.not (.lt f (.lit 64))) (.post [.bd 0 [.int .u32 (.wrap .u32 (.add (.var 10) n)),.int .u32 (.wrap .u32 (.add (.var 11) p)),.int .u32 (.wrap .u32 (.add (.var 12) q)),.int .u32 (.wrap .u32 (.add (.var 13) (.var 123))),.int .u32 (.wrap .u32 (.add (.var 14) o)),.int .u32 (.wrap .u32 (.add (.var 15) (.var 125))),.int .u32 (.wrap .u32 (.add (.var 16) (.var 126))),.int .u32 (.wrap .u32 (.add (.var 17) (.var 127)))] 285,.ro 5 [.var 1] true,.ro 6 [.lit 5] false,.hp 111 [] [.var 84] [],.dead] (.tup [])))))))))):Nd)) (.call 0 201 [.sv b,.sv (.one (.int .i64 (.lit (-11))))] [] []) (.call 0 202 [.sv b,.sv (.one (.int .i64 (.lit (-25))))] [] []) (.call 0 204 [.sv c,.sv (.one (.int .i64 (.lit (-13))))] [] []) (.call 0 205 [.sv c,.sv (.one (.int .i64 (.lit (-22))))] [] []) (.call 0 200 [.sv b,.sv (.one (.int .i64 (.lit (-6))))] [] []) (.call 0 203 [.sv c,.sv (.one (.int .i64 (.lit (-2))))] [] [])) (.wrap .u32 (.add (.wrap .u32 (.add (.wrap .u32 (.add (.wrap .u32 (.add (.var 127) (.bits .xor .u32 (.bits .xor .u32 (.var 200) (.var 201)) (.var 202)))) (.bits .xor .u32 (.bits .and .u32 o (.var 125)) (.bits .and .u32 (.bits .xor .u32 (.lit 4294967295) o) (.var 126))))) (.hI 6 (.lit 5) f 0))) (.hI 111 (.var 84) f 0))) (.one (.int .u32 o)) (.one (.int .u32 n))) (.var 110) (.var 124) (.var 120) (.call 1 20 [.sv (.one (.sl (.var 1) (.var 2) (.var 3) (.var 4)))] [] [.ro 5 [.var 1] true]) (List.replicate 8 (Ck.int .u32)) (.var 121) (.var 122)
def WY:List Sx.Spec:=[On,xx]
def To:∀ t∈WY,t.OK Tryz.prog:=av Jw <| av HU <| bN
def Nv:aF Tryz.prog WY Qd.fn where
 Λ:=fun p=>if LR p [197,1,1,0,1,0]then some ⟨0,[(17,TI .i64 (.var 110))],[(3,.hp 111 [] [.var 84] []),(4,.bd 85 (ak 120 (List.replicate 8 vB)) 285)],200⟩else none
 args:=[TP (.var 0) (.lit 0),.sv (.one (.sl (.var 1) (.var 2) (.var 3) (.var 4)))]
 mem:=[.bd 0 (ak 10 (List.replicate 8 vB)) 285,.ro 5 [.var 1] true,.ro 6 [.lit 5] false]
 nv:=20
def Yk:xx.res=[.agg (List.replicate 64 vB)]:=rfl
def Ih (q:Env) (n:Nat) (v:Wd):Prop:=∀ j,j<8->q.i (n+j)=v j
def Lw (h:Ih q n v):(ak n (List.replicate 8 vB)).map (CV.ev q)=Ie (s8 v):=by
 show [Value.int .u32 (q.i n),Value.int .u32 (q.i (n+1)),Value.int .u32 (q.i (n+1+1)),Value.int .u32 (q.i (n+1+1+1)),Value.int .u32 (q.i (n+1+1+1+1)),Value.int .u32 (q.i (n+1+1+1+1+1)),Value.int .u32 (q.i (n+1+1+1+1+1+1)),Value.int .u32 (q.i (n+1+1+1+1+1+1+1))]=[Value.int .u32 (v 0),Value.int .u32 (v 1),Value.int .u32 (v 2),Value.int .u32 (v 3),Value.int .u32 (v 4),Value.int .u32 (v 5),Value.int .u32 (v 6),Value.int .u32 (v 7)];rw[show q.i n=v 0 from h 0 ah,show q.i (n+1)=v 1 from h 1 ah,show q.i (n+1+1)=v 2 from h 2 ah,show q.i (n+1+1+1)=v 3 from h 3 ah,show q.i (n+1+1+1+1)=v 4 from h 4 ah,show q.i (n+1+1+1+1+1)=v 5 from h 5 ah,show q.i (n+1+1+1+1+1+1)=v 6 from h 6 ah,show q.i (n+1+1+1+1+1+1+1)=v 7 from h 7 ah]
def Ih.mono (h:Ih q n v) (g:ai m q q') (hm:n+8<=m):Ih q' n v:=fun j hj=>by rw[g.i _ ah];exact h j hj
def Qe:Qd.OK Tryz.prog:=by
 refine Spec.aV (Γ:=WY) To ?_;rintro xs Hs Rs hl1 hl2 ⟨a,v,x,y,c,bs,R,RG,rfl,rfl,rfl,hv,hR,hlen,hc,hb,hy,hx,hK⟩;refine⟨Nv,aQ [a,x,y,64,c,0,0,0,0,0,v 0,v 1,v 2,v 3,v 4,v 5,v 6,v 7] false [Hl.none,Hl.none,Hl.none,Hl.none,Hl.none,R,RG],
  fun _ q=>∃ k:Nat,q.i 110=k/\k<=64/\Ih q 120 (cR v (aP bs 64) k)/\q.h 111=wH (q.i 84).toNat (aP bs 64) 172,
  fun _ q=>(64-q.i 110).toNat,?_,⟨?_,?_,?_,?_⟩,(fun _ h=>nomatch h),?_⟩
 .show [Value.pointer (ar (a:Int) 0),Value.slice (ar x y) (Int.toNat 64) ((c:Int)).toNat]=_;rw[aaa,js];rfl
 .intro r hr ho;simp [Nv]at hr;rcases hr with rfl | rfl | rfl
  .exact⟨wH a (s8 v) _,aam.2 rfl,Hl.le_refl (wH a (s8 v) 285)⟩
  .cases ho
  .cases ho
 .intro r hr ho;simp [Nv]at hr;rcases hr with rfl | rfl | rfl
  .cases ho
  .exact⟨R,aC,Hl.le_refl _⟩
  .exact⟨RG,aC,Hl.le_refl _⟩
 .simp [Nv,bm.own]
 .intro r hr;simp [Nv]at hr;rcases hr with rfl | rfl | rfl
  .show(0:Int)<=a;omega
  .trivial
  .trivial
 .refine aF.lit (x:=Rv) ?_;generalize hρ:aQ [a,x,y,64,c,0,0,0,0,0,v 0,v 1,v 2,v 3,v 4,v 5,v 6,v 7] false [Hl.none,Hl.none,Hl.none,Hl.none,Hl.none,R,RG]=J;have V:∀ q:Env,ai 20 J q->q.i 0=a/\q.i 1=x/\q.i 2=y/\q.i 3=64/\q.i 4=c/\q.h 5=R/\q.h 6=RG/\Ih q 10 v:=fun q hg=>by
   rw[hg.i 0,hg.i 1,hg.i 2,hg.i 3,hg.i 4,hg.h 5,hg.h 6];have h8:Ih J 10 v:=fun j hj=>by
    rw[<-hρ]
    match j with
    | 0=>rfl
    | 1=>rfl
    | 2=>rfl
    | 3=>rfl
    | 4=>rfl
    | 5=>rfl
    | 6=>rfl
    | 7=>rfl
   refine⟨?_,?_,?_,?_,?_,?_,?_,h8.mono hg ah⟩<;>rw[<-hρ]<;>rfl
  clear hρ;unfold Rv;simp only[go_sem,Nat.reduceAdd,WY,Wo,Yk];obtain⟨v0,v1,v2,v3,v4,w5,w6,h8⟩:=V J (ai.refl _ _);rw[v1,v2,v3,v4,w5,aaa];refine⟨⟨x,y,c,bs,R,rfl,rfl,hR,hlen,hc,hb,hy,hx⟩,fun q1 g1 ⟨_,p1,_,_⟩ q2 g2 p84 q3 g3 _ q4 g4 h86=>?_⟩;have p1:=p1 _ bs R rfl rfl hR;simp only[Value.agg.injEq,aaO,aaH]at p1;have G4:ai 20 J q4:=g1.trans (g2.mono.trans (g3.mono.tr g4));have A3:ai 84 q1 q3:=g2.tr g3;obtain⟨S,hS⟩:∃ S,S=aP bs 64:=⟨_,rfl⟩;rw[<-hS]at p1 ⊢;have h84:q4.h 86=wH (q4.i 84).toNat S 172:=by
   rw[h86,g4.i 84];unfold wH;rw[<-p1];have ag:(ak 20 (List.replicate 64 vB)).map (CV.ev q3)=(ak 20 (List.replicate 64 vB)).map (CV.ev q1):=by
    have h:Value.agg ((ak 20 (List.replicate 64 vB)).map (CV.ev q3)).toArray=Value.agg ((ak 20 (List.replicate 64 vB)).map (CV.ev q1)).toArray:=fS (n:=20) (ks:=List.replicate 64 vB) A3 aA;rw[Value.agg.injEq]at h;exact aaQ Array.toList h
   rw[<-ag]
  obtain⟨_,_,_,_,_,_,_,h10⟩:=V q4 G4;have p84:0<=q4.i 84:=by rw[g4.i 84,g3.i 84];exact p84
  refine⟨⟨0,rfl,ah,fun j hj=>?_,h84⟩,fun q5 g5 ⟨k,e110,hk,h8k,h111⟩=>?_⟩
  .show _=v j;rw[<-h10 j hj]
   match j,hj with
   | 0,_=>rfl
   | 1,_=>rfl
   | 2,_=>rfl
   | 3,_=>rfl
   | 4,_=>rfl
   | 5,_=>rfl
   | 6,_=>rfl
   | 7,_=>rfl
  have G5:ai 20 J q5:=G4.tr g5;have p84':0<=q5.i 84:=by rw[g5.i 84];exact p84
  obtain⟨r,hr⟩:∃ r,r=cR v S k:=⟨_,rfl⟩;rw[<-hr]at h8k;have okr:∀ j,j<8->okW (r j):=by rw[hr];exact sd hv S k
  refine⟨fun hlt=>?_,fun hge=>?_⟩
  .have hk64:k<64:=ah;have r4:∀ {q:Env},ai 200 q5 q->q.i 124=r 4:=fun hg=>(h8k.mono hg ah) 4 ah;have r0:∀ {q:Env},ai 200 q5 q->q.i 120=r 0:=fun hg=>(h8k.mono hg ah) 0 ah;rw[r4 (ai.refl _ _)];refine⟨jE (okr 4 ah) aA,fun q6 g6 ⟨_,p6,_,_⟩=>?_⟩;rw[r4 g6];refine⟨jE (okr 4 ah) aA,fun q7 g7 ⟨_,p7,_,_⟩=>?_⟩;have G7:ai 200 q5 q7:=g6.tr g7;rw[r4 G7];refine⟨jE (okr 4 ah) aA,fun q8 g8 ⟨_,p8,_,_⟩=>?_⟩;have G8:ai 200 q5 q8:=G7.tr g8;have cK:∀ {q:Env},ai 200 q5 q->(q.h 6).cell 5 (q.i 110).toNat=some (.int .u32 (CT.getD k 0)):=fun {q} hg=>by
    rw[hg.i 110,hg.h 6,(V q5 G5).2.2.2.2.2.2.1,e110,aaa];exact hK k hk64
   have cS:∀ {q:Env},ai 200 q5 q->(q.h 111).cell (q.i 84).toNat (q.i 110).toNat=some (.int .u32 (S.getD k 0)):=fun {q} hg=>by
    rw[hg.i 110,hg.i 84,hg.h 111,h111,e110,aaa];refine BB ?_;rw[aap,aab (by rw[hS,cV];exact hk64)];rfl
   have e8:q8.i 110=k:=by rw[G8.i 110,e110]
   have j84:q8.i 84=q5.i 84:=G8.i 84;have cK8:=cK G8;have cK8:(q8.h 6).cell (Int.toNat 5) (q8.i 110).toNat=some (.int .u32 (CT.getD k 0)):=cK8;rw[cK8,cS G8,r0 G8];refine⟨ah,rfl,ah,rfl,jE (okr 0 ah) aA,fun q9 g9 ⟨_,p9,_,_⟩=>?_⟩;have G9:ai 200 q5 q9:=G8.tr g9;rw[r0 G9];refine⟨jE (okr 0 ah) aA,fun q10 g10 ⟨_,p10,_,_⟩=>?_⟩;have G10:ai 200 q5 q10:=G9.tr g10;rw[r0 G10];refine⟨jE (okr 0 ah) aA,fun q11 g11 ⟨_,p11,_,_⟩=>?_⟩;have G11:ai 200 q5 q11:=G10.tr g11;have tn:∀ {q:Env} {n m:Nat} {x:Int},We [Value.int .u32 x,.int .i64 (-(m:Int))]=Value.int .u32 (q.i n)->q.i n=bE m x:=fun {q n m x} h=>by
    have h:Value.int .u32 (bE (-(-(m:Int))).toNat x)=Value.int .u32 (q.i n):=h;rw[show(-(-(m:Int))).toNat=m by omega]at h;simpa using h.symm
   have e200:q11.i 200=bE 6 (r 4):=by rw[g11.i 200,g10.i 200,g9.i 200,g8.i 200,g7.i 200];exact tn (m:=6) p6.symm
   have e201:q11.i 201=bE 11 (r 4):=by rw[g11.i 201,g10.i 201,g9.i 201,g8.i 201];exact tn (m:=11) p7.symm
   have e202:q11.i 202=bE 25 (r 4):=by rw[g11.i 202,g10.i 202,g9.i 202];exact tn (m:=25) p8.symm
   have e203:q11.i 203=bE 2 (r 0):=by rw[g11.i 203,g10.i 203];exact tn (m:=2) p9.symm
   have e204:q11.i 204=bE 13 (r 0):=by rw[g11.i 204];exact tn (m:=13) p10.symm
   have e205:q11.i 205=bE 22 (r 0):=tn (m:=22) p11.symm;have s11:Ih q11 120 r:=h8k.mono G11 ah;have eT:dg (dg (dg (dg (q11.i 127+kI (q11.i 200) (q11.i 201) (q11.i 202))+cn .xor .u32 (iQ (q11.i 124) (q11.i 125)) (iQ (cn .xor .u32 4294967295 (q11.i 124)) (q11.i 126)))+bV ((q11.h 6).cell 5 (q11.i 110).toNat))+bV ((q11.h 111).cell (q11.i 84).toNat (q11.i 110).toNat))=HO r (CT.getD k 0) (S.getD k 0):=by
    rw[cK G11,cS G11,e200,e201,e202,show q11.i 127=r 7 from s11 7 ah,show q11.i 124=r 4 from s11 4 ah,show q11.i 125=r 5 from s11 5 ah,show q11.i 126=r 6 from s11 6 ah,xor_not (okr 4 ah)];rfl
   have eU:dg (kI (q11.i 203) (q11.i 204) (q11.i 205)+cn .xor .u32 (cn .xor .u32 (iQ (q11.i 120) (q11.i 121)) (iQ (q11.i 120) (q11.i 122))) (iQ (q11.i 121) (q11.i 122)))=O9 r:=by
    rw[e203,e204,e205,show q11.i 120=r 0 from s11 0 ah,show q11.i 121=r 1 from s11 1 ah,show q11.i 122=r 2 from s11 2 ah];rfl
   have ew:IntKind.i64.wrap (q11.i 110+1)=((k+1:Nat):Int):=by rw[G11.i 110,e110,wrap_i64 ah ah];rfl
   refine⟨⟨k+1,ew,ah,fun j hj=>?_,?_⟩,?_⟩
   .show _=tP (cR v S k) (CT.getD k 0) (S.getD k 0) j;rw[<-hr]
    match j,hj with
    | 0,_ =>
     show dg (dg (dg (dg (dg (q11.i 127+kI (q11.i 200) (q11.i 201) (q11.i 202))+cn .xor .u32 (iQ (q11.i 124) (q11.i 125)) (iQ (cn .xor .u32 4294967295 (q11.i 124)) (q11.i 126)))+bV ((q11.h 6).cell 5 (q11.i 110).toNat))+bV ((q11.h 111).cell (q11.i 84).toNat (q11.i 110).toNat))+dg (kI (q11.i 203) (q11.i 204) (q11.i 205)+cn .xor .u32 (cn .xor .u32 (iQ (q11.i 120) (q11.i 121)) (iQ (q11.i 120) (q11.i 122))) (iQ (q11.i 121) (q11.i 122))))=dg (HO r _ _+O9 r);rw[eT,eU]
    | 4,_ =>
     show dg (q11.i 123+dg (dg (dg (dg (q11.i 127+kI (q11.i 200) (q11.i 201) (q11.i 202))+cn .xor .u32 (iQ (q11.i 124) (q11.i 125)) (iQ (cn .xor .u32 4294967295 (q11.i 124)) (q11.i 126)))+bV ((q11.h 6).cell 5 (q11.i 110).toNat))+bV ((q11.h 111).cell (q11.i 84).toNat (q11.i 110).toNat)))=dg (r 3+HO r _ _);rw[eT,show q11.i 123=r 3 from s11 3 ah]
    | 1,_=>exact s11 0 ah
    | 2,_=>exact s11 1 ah
    | 3,_=>exact s11 2 ah
    | 5,_=>exact s11 4 ah
    | 6,_=>exact s11 5 ah
    | 7,_=>exact s11 6 ah
   .show q11.h 111=wH (q11.i 84).toNat S _;rw[G11.h 111,h111,G11.i 84]
   .show(64-IntKind.i64.wrap (q11.i 110+1)).toNat<(64-q5.i 110).toNat;rw[ew,e110];omega
  .have ek:k=64:=ah;subst ek;obtain⟨v0,_,_,_,_,_,_,h10⟩:=V q5 G5;refine fun _=>⟨[[0]],[],rfl,rfl,⟨(bh fun _=>0),rfl,zzT⟩,fun a' u v' bs' R' RG' e1 e2 e3 h'=>?_⟩;simp only[aag,Value.pointer.injEq,aak,Addr.mk.injEq,aau]at e1 e2 e3;obtain⟨rfl,rfl⟩:=e1;obtain⟨rfl,rfl⟩:=e3;obtain rfl:=h'.uniq hR;have ev:=T5 (Uh e2);rw[<-OA (GW ev bs')];have hr':∀ j,j<8->oU v bs' j=dg (v j+r j):=fun j hj=>by unfold oU;rw[<-hS,<-hr]
   have e8:[Value.int .u32 (dg (q5.i 10+q5.i 120)),Value.int .u32 (dg (q5.i 11+q5.i 121)),Value.int .u32 (dg (q5.i 12+q5.i 122)),Value.int .u32 (dg (q5.i 13+q5.i 123)),Value.int .u32 (dg (q5.i 14+q5.i 124)),Value.int .u32 (dg (q5.i 15+q5.i 125)),Value.int .u32 (dg (q5.i 16+q5.i 126)),Value.int .u32 (dg (q5.i 17+q5.i 127))]=Ie (s8 (oU v bs')):=by
    show _=[Value.int .u32 (oU v bs' 0),Value.int .u32 (oU v bs' 1),Value.int .u32 (oU v bs' 2),Value.int .u32 (oU v bs' 3),Value.int .u32 (oU v bs' 4),Value.int .u32 (oU v bs' 5),Value.int .u32 (oU v bs' 6),Value.int .u32 (oU v bs' 7)];have k10:∀ j,j<8->q5.i (10+j)=v j:=h10;have k12:∀ j,j<8->q5.i (120+j)=r j:=h8k;rw[show q5.i 10=v 0 from k10 0 ah,show q5.i 120=r 0 from k12 0 ah,show q5.i 11=v 1 from k10 1 ah,show q5.i 121=r 1 from k12 1 ah,show q5.i 12=v 2 from k10 2 ah,show q5.i 122=r 2 from k12 2 ah,show q5.i 13=v 3 from k10 3 ah,show q5.i 123=r 3 from k12 3 ah,show q5.i 14=v 4 from k10 4 ah,show q5.i 124=r 4 from k12 4 ah,show q5.i 15=v 5 from k10 5 ah,show q5.i 125=r 5 from k12 5 ah,show q5.i 16=v 6 from k10 6 ah,show q5.i 126=r 6 from k12 6 ah,show q5.i 17=v 7 from k10 7 ah,show q5.i 127=r 7 from k12 7 ah];rw[hr' 0 ah,hr' 1 ah,hr' 2 ah,hr' 3 ah,hr' 4 ah,hr' 5 ah,hr' 6 ah,hr' 7 ah]
   refine aaQ (fun x=>[x]) ((Hl.jg _).trans ?_);show Hl.one (q5.i 0).toNat (.cells [Value.int .u32 (dg (q5.i 10+q5.i 120)),Value.int .u32 (dg (q5.i 11+q5.i 121)),Value.int .u32 (dg (q5.i 12+q5.i 122)),Value.int .u32 (dg (q5.i 13+q5.i 123)),Value.int .u32 (dg (q5.i 14+q5.i 124)),Value.int .u32 (dg (q5.i 15+q5.i 125)),Value.int .u32 (dg (q5.i 16+q5.i 126)),Value.int .u32 (dg (q5.i 17+q5.i 127))].toArray _ (0,0))=_;rw[e8,v0,aaa];rfl
def NP {v:Value} (h:bM F e v bs) (hl:L=bs.length) (hr:∀ xs,aK F e 1 v L xs->aK F' e 1 (.slice (ar x' 0) (L+1) c'.toNat) (L+1) (xs++[Value.int .u8 z])):bM F' e (.slice (ar x' 0) (L+1) c'.toNat) (bs++[z]):=by
 unfold bM at h ⊢;subst hl;have:=hr _ h;rw[aac,aaB];unfold aS at this ⊢;rw[aaK];exact this
def Ob (q:Env) (h a c:Nat) (L:Int) (bs:List Int):Prop:=bM (q.h h) 5 (.slice (ar (q.i a) 0) L.toNat (q.i c).toNat) bs/\L=bs.length/\ -1<=q.i a/\0<=q.i c
section
variable {q q':Env} {h a c n:Nat} {L L':Int} {bs:List Int}
def Ob.mono (o:Ob q h a c L bs) (g:ai n q q') (h1:h<n) (h2:a<n) (h3:c<n):Ob q' h a c L bs:=by
 unfold Ob;rw[g.h h h1,g.i a h2,g.i c h3];exact o
def Ob.cast (o:Ob q h a c L bs) (e:L=L'):Ob q h a c L' bs:=e▸o
def Ob.pre (o:Ob q h a c L bs) (hl:bs.length<=2000000):(∃ xs,aK (q.h h) 5 1 (.slice (ar (q.i a) 0) L.toNat (q.i c).toNat) L.toNat xs)/\0<=L/\L.toNat+1<=maxLen/\L.toNat+1<=140737488355328:=by
 obtain⟨o1,o2,_,_⟩:=o;have e:L.toNat=bs.length:=ah;refine⟨⟨aS bs,?_⟩,ah,by unfold maxLen;omega,ah⟩;unfold bM at o1;rw[e]at o1 ⊢;exact o1
def Ob.app (o:Ob q h a c L bs) (r:-1<=q'.i n/\0<=q'.i (n+1)/\(∀ xs,aK (q.h h) 5 1 (.slice (ar (q.i a) 0) L.toNat (q.i c).toNat) L.toNat xs->aK (q'.h n) 5 1 (.slice (ar (q'.i n) 0) (L.toNat+1) (q'.i (n+1)).toNat) (L.toNat+1) (xs++[Value.int .u8 z]))) (e:L'=L+1):Ob q' n n (n+1) L' (bs++[z]):=by
 subst e;obtain⟨r1,r2,r3⟩:=r;obtain⟨o1,o2,_,_⟩:=o;have hs:=NP o1 ah r3;refine⟨?_,by rw[aac,aaB];omega,r1,r2⟩;rw[show(L+1).toNat=L.toNat+1 by omega];exact hs
end
def SU (n:Nat):(aT n [Cp.one .sl]≠[])=True:=by simp [aT,Cp.roots,Ck.root]
def D7 {v:Value} (h:fC R u bs) (hp:fU.post [u] [] [R] v K F):bM F 5 v bs:=by
 obtain⟨u',bs',R',e1,e2,h',ho⟩:=hp;simp only[aag,aau]at e1 e2;subst e1 e2;rw[h.uniq h'];exact ho
def BL (hn:n<18446744073709551616) (hs:s=(k:Int)) (hk:k<=63) (hx:x=(n:Int)):IntKind.u8.wrap (x.fdiv (2 ^ (min s.toNat IntKind.u64.bits)))=((n/2 ^ k%256:Nat):Int):=by
 subst hs hx;have e:min ((k:Nat):Int).toNat IntKind.u64.bits=k:=by show min _ 64=_;omega
 have e2:((2:Int) ^ k)=((2 ^ k:Nat):Int):=by push_cast;rfl
 rw[e,e2,abt _ (abR _)];exact RU _
def vu (hw:IntKind.u64.wrap (8*IntKind.u64.wrap (q.i 2))=(n:Int)) (hn:n<18446744073709551616) (hs:s=(k:Int)) (hk:k<=63):IntKind.u8.wrap (az q (E.shr .u64 (E.wrap .u64 ((E.lit 8).mul (E.wrap .u64 (E.var 2)))) (E.lit s)))=((n/2 ^ k%256:Nat):Int):=BL hn hs hk hw
def EP:Sx.Spec where
 fn:=195
 own:=[]
 rd:=[0]
 res:=[.one .sl]
 pre:=fun xs Hs Rs=>∃ u bs R,xs=[u]/\Rs=[R]/\fC R u bs/\bs.length<=1000000
 post:=fun xs Hs Rs v Hs' F=>∃ u bs R,xs=[u]/\Rs=[R]/\fC R u bs/\bM F 5 v (gl bs)
def VQ:List Sx.Spec:=[fU]
def Tw:∀ t∈VQ,t.OK Tryz.prog:=fun t ht=>by
 simp only[VQ,aan,aat,aaX]at ht;subst ht;exact kX
def ER:aF Tryz.prog VQ EP.fn where
 Λ:=fun p=>if LR p [195,1,1,0,0]then some ⟨0,[(3,.sv (.one (.sl (.var 50) (.lit 0) (.var 51) (.var 52))))],[(1,.hp 53 [] [.var 50] [])],60⟩else none
 args:=[.sv (.one (.sl (.var 0) (.var 1) (.var 2) (.var 3)))]
 mem:=[.ro 4 [.var 0] true]
 nv:=5
def Ys:fU.res=[.one .sl]:=rfl
def NR:EP.OK Tryz.prog:=by
 refine Spec.aV (Γ:=VQ) Tw ?_;rintro xs Hs Rs hl1 hl2 ⟨u,bs,R,rfl,rfl,hR,hlen⟩;have e0:Hs=[]:=aad.1 hl1;subst e0;obtain⟨x,y,c,rfl,hy,_⟩:=id hR;refine⟨ER,aQ [x,y,bs.length,c] false [Hl.none,Hl.none,Hl.none,Hl.none,R],
  fun _ q=>∃ m:Nat,m<=(119-bs.length%64)%64/\q.i 51=bs.length+1+m/\ -1<=q.i 50/\0<=q.i 52/\bM (q.h 53) 5 (.slice (ar (q.i 50) 0) (q.i 51).toNat (q.i 52).toNat) (bs++[128]++List.replicate m 0),
  fun _ q=>((bs.length:Int)+100-q.i 51).toNat,?_,⟨?_,?_,?_,?_⟩,(fun _ h=>nomatch h),?_⟩
 .show [Value.slice (ar x y) ((bs.length:Int)).toNat ((c:Int)).toNat]=_;simp only[aaa]
 .intro r hr ho;simp [ER]at hr;subst hr;cases ho
 .intro r hr ho;simp [ER]at hr;subst hr;exact⟨R,aC,Hl.le_refl _⟩
 .simp [ER]
 .intro r hr;simp [ER]at hr;subst hr;trivial
 .refine aF.read [] [] [] ?_;generalize hρ:aQ [x,y,bs.length,c] false [Hl.none,Hl.none,Hl.none,Hl.none,R]=J;have V:∀ q:Env,ai 5 J q->q.i 0=x/\q.i 1=y/\q.i 2=bs.length/\q.i 3=c/\q.h 4=R:=fun q hg=>by
   rw[hg.i 0,hg.i 1,hg.i 2,hg.i 3,hg.h 4,<-hρ];exact⟨rfl,rfl,rfl,rfl,rfl⟩
  clear hρ;simp only[go_sem,Nat.reduceAdd,VQ,Ys,SU];obtain⟨v0,v1,v2,v3,w4⟩:=V J (ai.refl _ _);rw[v0,v1,v2,v3,w4,aaa,aaa];refine⟨⟨_,bs,R,rfl,rfl,hR,hlen⟩,fun q1 g1 ⟨F,p1,hF,hn1⟩ q2 g2 _=>?_⟩;have o1:=D7 hR p1;rw[<-hF zzT]at o1;have hn1:-1<=q1.i 5/\0<=q1.i 6/\0<=q1.i 7/\0<=q1.i 8:=hn1.1;have hsh:=bM.shape o1;have hl7:q1.i 7=bs.length:=by
   obtain⟨_,hc⟩:=o1;rcases hc with ⟨e,e0⟩ | ⟨g,cap,cur,e,_⟩
   .simp only[Value.slice.injEq]at e;omega
   .simp only[Value.slice.injEq]at e;omega
  have hy6:ar (q1.i 5) (q1.i 6)=ar (q1.i 5) 0:=by
   rcases hsh with (h | ⟨h1,h2⟩) | h
   .rw[h];rfl
   .rw[show q1.i 6=0 by omega]
   .omega
  rw[hy6]at o1;have b2:Ob q2 5 5 8 (q2.i 7) bs:=by
   have o:Ob q1 5 5 8 (q1.i 7) bs:=⟨o1,hl7,hn1.1,hn1.2.2.2⟩;have:=o.mono g2 ah ah ah;rw[g2.i 7];exact this
  have e6:ar (q2.i 5) (q2.i 6)=ar (q2.i 5) 0:=by rw[g2.i 5,g2.i 6];exact hy6
  rw[e6];refine⟨b2.pre ah,fun q3 g3 ⟨r1,r2,r3,_⟩=>?_⟩;have b3:=b2.app ⟨r1,r2,r3⟩ rfl;have g7:q3.i 7=bs.length:=by rw[g3.i 7,g2.i 7,hl7]
  rw[show q2.i 7=q3.i 7 from (g3.i 7).symm]at b3;obtain⟨b31,b32,b33,b34⟩:=b3;refine⟨⟨0,ah,?_,b33,b34,?_⟩,fun q4 g4 ⟨m,hm,e51,h50,h52,hO⟩=>?_⟩
  .show q3.i 7+1=_;rw[g7];omega
  .rw[ads,abl];exact b31
  have G4:ai 5 J q4:=g1.trans (g2.mono.trans (g3.mono.tr g4));have hml:(bs++[128]++List.replicate m 0).length=bs.length+1+m:=by rw[aac,aac,aba];rfl
  have b4:Ob q4 53 50 52 (q4.i 51) (bs++[128]++List.replicate m 0):=⟨hO,by rw[hml,e51];omega,h50,h52⟩;have tm:(q4.i 51).tmod 64=((bs.length+1+m)%64:Nat):=by rw[e51,abh ah];omega
  refine⟨ah,fun hne=>?_,fun heq=>?_⟩
  .have hne:(q4.i 51).tmod 64≠56:=hne;rw[tm]at hne;intro q5 g5 _;have b5:=b4.mono g5 ah ah ah;rw[show q4.i 51=q5.i 51 from (g5.i 51).symm]at b5;refine⟨b5.pre (by rw[hml];omega),fun q6 g6 ⟨r1,r2,r3,_⟩=>?_⟩;have b6:=b5.app ⟨r1,r2,r3⟩ rfl;obtain⟨b61,b62,b63,b64⟩:=b6;have e6:q6.i 51=bs.length+1+m:=by rw[g6.i 51,g5.i 51,e51]
   rw[show q5.i 51=q6.i 51 from (g6.i 51).symm]at b61;refine⟨⟨m+1,ah,?_,b63,b64,?_⟩,?_⟩
   .show q6.i 51+1=_;rw[e6];omega
   .rw[ado,<-aaF];exact b61
   .show((bs.length:Int)+100-(q6.i 51+1)).toNat<((bs.length:Int)+100-q4.i 51).toNat;rw[e6,e51];omega
  .have heq:(q4.i 51).tmod 64=56:=heq;rw[tm]at heq;have em:m=(119-bs.length%64)%64:=ah;obtain⟨M,hM⟩:∃ M,M=bs++[128]++List.replicate m 0:=⟨_,rfl⟩;rw[<-hM]at b4 hml;have v2':q4.i 2=bs.length:=(V q4 G4).2.2.1;refine⟨by rw[v2'];omega,?_⟩;have wlen:∀ {q:Env},ai 5 J q->IntKind.u64.wrap (8*IntKind.u64.wrap (q.i 2))=((8*bs.length:Nat):Int):=fun {q} hg=>by
    rw[(V q hg).2.2.1,oW (x:=(bs.length:Int)) ah ah,oW ah ah];omega
   intro q5 g5 _;have c0:=b4.mono g5 ah ah ah;rw[show q4.i 51=q5.i 51 from (g5.i 51).symm]at c0;have G5:ai 5 J q5:=G4.tr g5;refine⟨c0.pre ah,fun q6 g6 ⟨r1,r2,r3,_⟩=>?_⟩;have G6:ai 5 J q6:=G5.tr g6;rw[vu (q:=q5) (n:=8*bs.length) (k:=56) (s:=56) (wlen G5) ah rfl ah]at r3;have d0:=c0.app ⟨r1,r2,r3⟩ (L':=q5.i 51+1) rfl;intro q7 g7 _;have J7:q7.i 51=q5.i 51:=by rw[g7.i 51,g6.i 51]
   have c1:=(d0.mono g7 ah ah ah).cast (L':=q7.i 51+1) (by rw[J7]);have G7:ai 5 J q7:=G6.tr g7;refine⟨c1.pre (by simp only[aac,aaB];omega),fun q8 g8 ⟨r1,r2,r3,_⟩=>?_⟩;have G8:ai 5 J q8:=G7.tr g8;rw[vu (q:=q7) (n:=8*bs.length) (k:=48) (s:=48) (wlen G7) ah rfl ah]at r3;have d1:=c1.app ⟨r1,r2,r3⟩ (L':=q5.i 51+2) (by rw[J7];omega);intro q9 g9 _;have J9:q9.i 51=q5.i 51:=by rw[g9.i 51,g8.i 51,J7]
   have c2:=(d1.mono g9 ah ah ah).cast (L':=q9.i 51+2) (by rw[J9]);have G9:ai 5 J q9:=G8.tr g9;refine⟨c2.pre (by simp only[aac,aaB];omega),fun q10 g10 ⟨r1,r2,r3,_⟩=>?_⟩;have G10:ai 5 J q10:=G9.tr g10;rw[vu (q:=q9) (n:=8*bs.length) (k:=40) (s:=40) (wlen G9) ah rfl ah]at r3;have d2:=c2.app ⟨r1,r2,r3⟩ (L':=q5.i 51+3) (by rw[J9];omega);intro q11 g11 _;have J11:q11.i 51=q5.i 51:=by rw[g11.i 51,g10.i 51,J9]
   have c3:=(d2.mono g11 ah ah ah).cast (L':=q11.i 51+3) (by rw[J11]);have G11:ai 5 J q11:=G10.tr g11;refine⟨c3.pre (by simp only[aac,aaB];omega),fun q12 g12 ⟨r1,r2,r3,_⟩=>?_⟩;have G12:ai 5 J q12:=G11.tr g12;rw[vu (q:=q11) (n:=8*bs.length) (k:=32) (s:=32) (wlen G11) ah rfl ah]at r3;have d3:=c3.app ⟨r1,r2,r3⟩ (L':=q5.i 51+4) (by rw[J11];omega);intro q13 g13 _;have J13:q13.i 51=q5.i 51:=by rw[g13.i 51,g12.i 51,J11]
   have c4:=(d3.mono g13 ah ah ah).cast (L':=q13.i 51+4) (by rw[J13]);have G13:ai 5 J q13:=G12.tr g13;refine⟨c4.pre (by simp only[aac,aaB];omega),fun q14 g14 ⟨r1,r2,r3,_⟩=>?_⟩;have G14:ai 5 J q14:=G13.tr g14;rw[vu (q:=q13) (n:=8*bs.length) (k:=24) (s:=24) (wlen G13) ah rfl ah]at r3;have d4:=c4.app ⟨r1,r2,r3⟩ (L':=q5.i 51+5) (by rw[J13];omega);intro q15 g15 _;have J15:q15.i 51=q5.i 51:=by rw[g15.i 51,g14.i 51,J13]
   have c5:=(d4.mono g15 ah ah ah).cast (L':=q15.i 51+5) (by rw[J15]);have G15:ai 5 J q15:=G14.tr g15;refine⟨c5.pre (by simp only[aac,aaB];omega),fun q16 g16 ⟨r1,r2,r3,_⟩=>?_⟩;have G16:ai 5 J q16:=G15.tr g16;rw[vu (q:=q15) (n:=8*bs.length) (k:=16) (s:=16) (wlen G15) ah rfl ah]at r3;have d5:=c5.app ⟨r1,r2,r3⟩ (L':=q5.i 51+6) (by rw[J15];omega);intro q17 g17 _;have J17:q17.i 51=q5.i 51:=by rw[g17.i 51,g16.i 51,J15]
   have c6:=(d5.mono g17 ah ah ah).cast (L':=q17.i 51+6) (by rw[J17]);have G17:ai 5 J q17:=G16.tr g17;refine⟨c6.pre (by simp only[aac,aaB];omega),fun q18 g18 ⟨r1,r2,r3,_⟩=>?_⟩;have G18:ai 5 J q18:=G17.tr g18;rw[vu (q:=q17) (n:=8*bs.length) (k:=8) (s:=8) (wlen G17) ah rfl ah]at r3;have d6:=c6.app ⟨r1,r2,r3⟩ (L':=q5.i 51+7) (by rw[J17];omega);intro q19 g19 _;have J19:q19.i 51=q5.i 51:=by rw[g19.i 51,g18.i 51,J17]
   have c7:=(d6.mono g19 ah ah ah).cast (L':=q19.i 51+7) (by rw[J19]);have G19:ai 5 J q19:=G18.tr g19;refine⟨c7.pre (by simp only[aac,aaB];omega),fun q20 g20 ⟨r1,r2,r3,_⟩=>?_⟩;have G20:ai 5 J q20:=G19.tr g20;rw[vu (q:=q19) (n:=8*bs.length) (k:=0) (s:=0) (wlen G19) ah rfl ah]at r3;have d7:=c7.app ⟨r1,r2,r3⟩ (L':=q5.i 51+8) (by rw[J19];omega);have hp:M++[((8*bs.length/2 ^ 56%256:Nat):Int)]++[((8*bs.length/2 ^ 48%256:Nat):Int)]++[((8*bs.length/2 ^ 40%256:Nat):Int)]++[((8*bs.length/2 ^ 32%256:Nat):Int)]++[((8*bs.length/2 ^ 24%256:Nat):Int)]++[((8*bs.length/2 ^ 16%256:Nat):Int)]++[((8*bs.length/2 ^ 8%256:Nat):Int)]++[((8*bs.length/2 ^ 0%256:Nat):Int)]=gl bs:=by
    unfold gl;rw[<-em,<-hM];simp only[aaF];rfl
   obtain⟨d1,d2,d3,d4⟩:=d7;rw[hp]at d1 d2;have J20:q20.i 51=q5.i 51:=by rw[g20.i 51,J19]
   refine fun _=>⟨[],[1],rfl,rfl,⟨(bh fun k=>[q20.i 82,0,q20.i 51+8,q20.i 83].getD k 0),rfl,⟨d3,aar _,by show 0<=q20.i 51+8;rw[J20];omega,d4⟩,zzT⟩,_,bs,R,rfl,rfl,hR,?_⟩;show bM (cu [q20.h 82]) _ (.slice (ar (q20.i 82) 0) (q20.i 51+8).toNat (q20.i 83).toNat) (gl bs);rw[aL,J20];exact d1
open Go.Proofs.YtomdimlnggpgbaaGreatDoor.D hiding aQ aD ib
def QJ (h:fC R u bs):bo (some u) 2=bs.length/\((0<=bo (some u) 0/\0<=bo (some u) 1/\0<=bo (some u) 2/\∀ j,j<(bo (some u) 2).toNat->∃ v,R.cell (bo (some u) 0).toNat ((bo (some u) 1).toNat+j)=some v/\v.oneCell'=true)\/bo (some u) 2=0)/\bR R (bo (some u) 0).toNat (bo (some u) 1).toNat (bo (some u) 2).toNat=aS bs/\bw (some u) .slice=true:=by
 obtain⟨x,y,c,rfl,hy,h⟩:=h;by_cases hx:0<=x
 .have hs:=se (R:=R) (x:=x) (y:=y) (l:=(bs.length:Int)) rfl hy h;rw[Uv ah,Wn hx hy,T8 ah];exact⟨rfl,hs.1,hs.2,rfl⟩
 .rcases h with rfl | ⟨h,_⟩
  .have e:bo (some (.slice (ar x y) ([]:List Int).length c)) 2=(([]:List Int).length:Nat):=by
    cases ar x y with
    | none=>rfl
    | some a=>obtain⟨b,o,s⟩:=a;cases s<;>rfl
   rw[e];exact⟨rfl,Or.inr rfl,rfl,rfl⟩
  .omega
def du {α:Type} {a b:α} {l m:List α} (h:a=b) (h':l=m):a::l=b::m:=by rw[h,h']
def bk {s:Nat} (hx:okW x) (hc:(q.h 51).cell (q.i 9).toNat (Int.toNat 0+j)=some (.int .u32 x)) (hs:s<=24):(CV.int .u8 (.wrap .u8 (.shr .u64 (.wrap .u64 (.hI 51 (.var 9) (.lit 0) j)) (.lit (s:Int))))).ev q=Value.int .u8 (x/2 ^ s%256):=by
 show Value.int .u8 (IntKind.u8.wrap ((IntKind.u64.wrap (bV ((q.h 51).cell (q.i 9).toNat (Int.toNat 0+j)))).fdiv (2 ^ (min ((s:Int)).toNat IntKind.u64.bits))))=_;rw[hc];unfold okW at hx;obtain⟨n,rfl⟩:∃ n:Nat,x=n:=⟨x.toNat,ah⟩;rw[show bV (some (Value.int .u32 (n:Int)))=(n:Int)from rfl,oW ah ah,BL (n:=n) (k:=s) ah rfl ah rfl];have e2:((2:Int) ^ s)=((2 ^ s:Nat):Int):=by push_cast;rfl
 rw[e2];rfl
def vP:Sx.Spec where
 fn:=176
 own:=[]
 rd:=[0,3000000,2000005]
 res:=[.agg (List.replicate 32 (Ck.int .u8))]
 pre:=fun xs Hs Rs=>∃ (x y:Int) (c:Nat) (R RA RG:Hl) (bs:List Int),xs=[.slice (ar x y) 1 c]/\Rs=[R,RA,RG]/\jG R RA (.slice (ar x y) 1 c) [bs]/\0<=y/\aG bs/\bs.length<=900000/\uf RG 5
 post:=fun xs Hs Rs v Hs' F=>∀ u R RA RG bs,xs=[u]->Rs=[R,RA,RG]->jG R RA u [bs]->v=.agg (aS (gm bs)).toArray
def WS:List Sx.Spec:=[EP,Qd]
def SW:∀ t∈WS,t.OK Tryz.prog:=av NR <| av Qe <| bN
def Rm:aF Tryz.prog WS vP.fn where
 Λ:=fun p=>if LR p [176,1,1,1,0,1,0]then some ⟨0,[(5,TI .i64 (.var 50))],[(5,.hp 51 [] [.var 9] [])],60⟩else none
 args:=[.sv (.one (.sl (.var 0) (.var 1) (.lit 1) (.var 2)))]
 mem:=[.ro 4 [.var 0] false,.ro 5 [] true,.ro 6 [.lit 5] false]
 nv:=7
def X1:EP.res=[.one .sl]:=rfl
def X4:Qd.res=[]:=rfl
def K0 {v:Value} (h:fC R u bs) (hp:EP.post [u] [] [R] v K F):bM F 5 v (gl bs):=by
 obtain⟨u',bs',R',e1,e2,h',ho⟩:=hp;simp only[aag,aau]at e1 e2;subst e1 e2;rw[h.uniq h'];exact ho
def oA:∀ (n:Nat) (bs:List Int),bs.length=n->bf (aS bs) ((List.replicate n (Ck.int .u8)).map j8)
 | 0,[],_=>trivial
 | n+1,z::l,h=>⟨rfl,oA n l (by simpa using h)⟩
def zh (h:aG bs):aG (gl bs):=fun z hz=>by
 unfold gl at hz;rcases aaU.1 hz with hz | hz
 .rcases aaU.1 hz with hz | hz
  .rcases aaU.1 hz with hz | hz
   .exact h z hz
   .rw[aam.1 hz];omega
  .rw[(acg.1 hz).2];omega
 .unfold Sd at hz;obtain⟨i,_,rfl⟩:=aaW.1 hz;omega
def om (all:List Int) (k:Nat):∀ j,j<8->okW (nC c8 all k j):=Qc HN all k
def Qo {l:Int} (h:bM F e (.slice (ar x y) l.toNat c.toNat) bs) (hl:0<=l) (hc:0<=c):l=bs.length/\l<=c:=by
 obtain⟨_,hc'⟩:=h;rcases hc' with ⟨e,e0⟩ | ⟨g,cap,cur,e,_,hle,_⟩
 .simp only[Value.slice.injEq]at e;omega
 .simp only[Value.slice.injEq]at e;omega
def Ed:vP.OK Tryz.prog:=by
 refine Spec.aV (Γ:=WS) SW ?_;rintro xs Hs Rs hl1 hl2 ⟨x,y,c,R,RA,RG,bs,rfl,rfl,hR,hy,hb,hlen,hK⟩;have e0:Hs=[]:=aad.1 hl1;subst e0;refine⟨Rm,aQ [x,y,c] false [Hl.none,Hl.none,Hl.none,Hl.none,R,RA,RG],
  fun _ q=>∃ k:Nat,q.i 50=((64*k:Nat):Int)/\64*k<=(gl bs).length/\q.h 51=wH (q.i 9).toNat (s8 (nC c8 (gl bs) k)) 285,
  fun _ q=>((gl bs).length-q.i 50).toNat,?_,cD (by intro r hr;simp [Rm]at hr;rcases hr with rfl | rfl | rfl<;>exact⟨_,_,_,rfl⟩) rfl,(fun _ h=>nomatch h),?_⟩
 .show [Value.slice (ar x y) (Int.toNat 1) ((c:Int)).toNat]=_;rw[aaa];rfl
 .refine aF.read [] [] [] ?_;generalize hρ:aQ [x,y,c] false [Hl.none,Hl.none,Hl.none,Hl.none,R,RA,RG]=J;have V:∀ q:Env,ai 7 J q->q.i 0=x/\q.i 1=y/\q.h 4=R/\q.h 5=RA/\q.h 6=RG:=fun q hg=>by
   rw[hg.i 0,hg.i 1,hg.h 4,hg.h 5,hg.h 6,<-hρ];exact⟨rfl,rfl,rfl,rfl,rfl⟩
  clear hρ;have t1:Int.toNat 1=1:=rfl;obtain⟨_,aB⟩:=hR.at hy;obtain⟨hx0,u,hcu,hru⟩:=aB 0 bs rfl;simp only[go_sem,Nat.reduceAdd,WS,X1,X4,SU];intro q1 g1 _ q2 g2 _ q3 g3 p9;have G3:ai 7 J q3:=g1.trans (g2.mono.tr g3);obtain⟨v0,v1,w4,w5,w6⟩:=V q3 G3;have hcu:R.cell x.toNat y.toNat=some u:=hcu;obtain⟨u2,useg,uval,uis⟩:=QJ hru;rw[v0,v1,w4,w5,hcu];have t0:Int.toNat 0=0:=rfl;have EL:aK Hl.none 5 1 (.slice (ar (-1) 0) (Int.toNat 0) (Int.toNat 0)) (Int.toNat 0) []:=⟨rfl,Or.inl ⟨rfl,rfl⟩⟩;have ul:(bo (some u) 2).toNat=bs.length:=by rw[u2,aaa]
  refine⟨hx0,hy,uis,⟨⟨[],EL⟩,aar _,useg,by rw[ul,t0];unfold maxLen;omega,by rw[ul,t0];omega⟩,fun q4 g4 ⟨r1,r2,r3,_⟩=>?_⟩;have o4:=r3 [] EL;rw[uval,ul,t0,aaM,abE]at o4;have G4:ai 7 J q4:=G3.tr g4;obtain⟨v0,v1,w4,w5,w6⟩:=V q4 G4;rw[v0,v1,w4,hcu,ul];have o4:bM (q4.h 10) 5 (.slice (ar (q4.i 10) 0) bs.length (q4.i 11).toNat) bs:=o4;have hr4:=o4.rd.w;refine⟨⟨_,bs,_,rfl,rfl,hr4,ah⟩,fun q5 g5 ⟨F5,p5,hF5,hn5⟩ q6 g6 h16=>?_⟩;have oP:=K0 hr4 p5;rw[<-hF5 zzT]at oP;have hn5:-1<=q5.i 12/\0<=q5.i 13/\0<=q5.i 14/\0<=q5.i 15:=hn5.1;obtain⟨P,hP⟩:∃ P,P=gl bs:=⟨_,rfl⟩;have hPb:aG P:=by rw[hP];exact zh hb
  have hPl:=wa bs;rw[<-hP]at oP hPl ⊢;obtain⟨c1,c2⟩:=Qo oP hn5.2.2.1 hn5.2.2.2;have oR:=oP.rd.w;refine⟨⟨0,rfl,abn _,?_⟩,fun q7 g7 ⟨k,e50,hk,h51⟩=>?_⟩
  .show q6.h 16=wH (q6.i 9).toNat (s8 c8) _;rw[h16,g6.i 9];rfl
  have A7:ai 16 q5 q7:=g6.tr g7;have G7:ai 7 J q7:=G4.trans (g5.mono.tr A7);have p9':0<=q7.i 9:=by rw[A7.i 9,g5.i 9,g4.i 9];exact p9
  have e14:q7.i 14=P.length:=by rw[A7.i 14,c1]
  have e15:q7.i 15=q5.i 15:=A7.i 15;rw[e14,e50];refine⟨ah,fun hlt=>?_,fun hge=>?_⟩
  .have bU:64*k+64<=P.length:=ah;have hw:IntKind.i64.wrap (((64*k:Nat):Int)+64)=((64*k:Nat):Int)+64:=wrap_i64 ah ah;rw[hw,e15,A7.i 12,A7.i 13,A7.h 12,(V q7 G7).2.2.2.2,h51];have hsub:=Jr oR hn5.1 hn5.2.1 (o:=64*k) (n:=64) bU (y':=q5.i 13+((64*k:Nat):Int)) (Or.inr rfl) ah (q5.i 15-((64*k:Nat):Int)).toNat;have e64:(((64*k:Nat):Int)+64-((64*k:Nat):Int)).toNat=64:=ah;have hne:¬q5.i 15=((64*k:Nat):Int):=ah;have hbl:((P.drop (64*k)).take 64).length=64:=by rw[aaA,aaV];omega
   rw[aal hne,e64];have hptr:Value.pointer (ar (q7.i 9) 0)=.pointer (some ⟨(q7.i 9).toNat,0,none⟩):=by rw[al p9'];rfl
   refine⟨hn5.1,hn5.2.1,ah,ah,ah,⟨(q7.i 9).toNat,nC c8 P k,q5.i 12,q5.i 13+((64*k:Nat):Int),(q5.i 15-((64*k:Nat):Int)).toNat,_,_,_,by rw[hptr],rfl,rfl,om P k,hsub,hbl,ah,fun z hz=>hPb z (ab3 (abV hz)),ah,hn5.1,hK⟩,fun q8 g8 ⟨_,p8,_,_⟩=>?_⟩;have h60:=p8 _ _ (nC c8 P k) _ _ _ (by rw[hptr]) rfl rfl hsub;have h60:q8.h 60=wH (q7.i 9).toNat (s8 (oU (nC c8 P k) ((P.drop (64*k)).take 64))) 285:=by simpa using h60
   have ew:IntKind.i64.wrap (q8.i 50+64)=((64*(k+1):Nat):Int):=by rw[g8.i 50,e50,hw];omega
   refine⟨⟨k+1,ew,ah,?_⟩,?_⟩
   .show q8.h 60=wH (q8.i 9).toNat (s8 (oU _ _)) _;rw[h60,g8.i 9]
   .show((P.length:Int)-IntKind.i64.wrap (q8.i 50+64)).toNat<_;rw[ew];omega
  .intro q8 g8 _;have ek:k=P.length/64:=ah;have hc:∀ j,j<8->(q8.h 51).cell (q8.i 9).toNat (Int.toNat 0+j)=some (.int .u32 (CU bs j)):=fun j hj=>by
    rw[g8.h 51,g8.i 9,h51,ek,hP];refine BB ?_;rw[show Int.toNat 0+j=j from aaM j];unfold s8;rw[aao,aaJ hj];rfl
   have hok:∀ j,j<8->okW (CU bs j):=fun j hj=>om _ _ j hj;have hres:([.int .u8 (.wrap .u8 (.shr .u64 (.wrap .u64 (.hI 51 (.var 9) (.lit 0) 0)) (.lit 24))),.int .u8 (.wrap .u8 (.shr .u64 (.wrap .u64 (.hI 51 (.var 9) (.lit 0) 0)) (.lit 16))),.int .u8 (.wrap .u8 (.shr .u64 (.wrap .u64 (.hI 51 (.var 9) (.lit 0) 0)) (.lit 8))),.int .u8 (.wrap .u8 (.shr .u64 (.wrap .u64 (.hI 51 (.var 9) (.lit 0) 0)) (.lit 0))),.int .u8 (.wrap .u8 (.shr .u64 (.wrap .u64 (.hI 51 (.var 9) (.lit 0) 1)) (.lit 24))),.int .u8 (.wrap .u8 (.shr .u64 (.wrap .u64 (.hI 51 (.var 9) (.lit 0) 1)) (.lit 16))),.int .u8 (.wrap .u8 (.shr .u64 (.wrap .u64 (.hI 51 (.var 9) (.lit 0) 1)) (.lit 8))),.int .u8 (.wrap .u8 (.shr .u64 (.wrap .u64 (.hI 51 (.var 9) (.lit 0) 1)) (.lit 0))),.int .u8 (.wrap .u8 (.shr .u64 (.wrap .u64 (.hI 51 (.var 9) (.lit 0) 2)) (.lit 24))),.int .u8 (.wrap .u8 (.shr .u64 (.wrap .u64 (.hI 51 (.var 9) (.lit 0) 2)) (.lit 16))),.int .u8 (.wrap .u8 (.shr .u64 (.wrap .u64 (.hI 51 (.var 9) (.lit 0) 2)) (.lit 8))),.int .u8 (.wrap .u8 (.shr .u64 (.wrap .u64 (.hI 51 (.var 9) (.lit 0) 2)) (.lit 0))),.int .u8 (.wrap .u8 (.shr .u64 (.wrap .u64 (.hI 51 (.var 9) (.lit 0) 3)) (.lit 24))),.int .u8 (.wrap .u8 (.shr .u64 (.wrap .u64 (.hI 51 (.var 9) (.lit 0) 3)) (.lit 16))),.int .u8 (.wrap .u8 (.shr .u64 (.wrap .u64 (.hI 51 (.var 9) (.lit 0) 3)) (.lit 8))),.int .u8 (.wrap .u8 (.shr .u64 (.wrap .u64 (.hI 51 (.var 9) (.lit 0) 3)) (.lit 0))),.int .u8 (.wrap .u8 (.shr .u64 (.wrap .u64 (.hI 51 (.var 9) (.lit 0) 4)) (.lit 24))),.int .u8 (.wrap .u8 (.shr .u64 (.wrap .u64 (.hI 51 (.var 9) (.lit 0) 4)) (.lit 16))),.int .u8 (.wrap .u8 (.shr .u64 (.wrap .u64 (.hI 51 (.var 9) (.lit 0) 4)) (.lit 8))),.int .u8 (.wrap .u8 (.shr .u64 (.wrap .u64 (.hI 51 (.var 9) (.lit 0) 4)) (.lit 0))),.int .u8 (.wrap .u8 (.shr .u64 (.wrap .u64 (.hI 51 (.var 9) (.lit 0) 5)) (.lit 24))),.int .u8 (.wrap .u8 (.shr .u64 (.wrap .u64 (.hI 51 (.var 9) (.lit 0) 5)) (.lit 16))),.int .u8 (.wrap .u8 (.shr .u64 (.wrap .u64 (.hI 51 (.var 9) (.lit 0) 5)) (.lit 8))),.int .u8 (.wrap .u8 (.shr .u64 (.wrap .u64 (.hI 51 (.var 9) (.lit 0) 5)) (.lit 0))),.int .u8 (.wrap .u8 (.shr .u64 (.wrap .u64 (.hI 51 (.var 9) (.lit 0) 6)) (.lit 24))),.int .u8 (.wrap .u8 (.shr .u64 (.wrap .u64 (.hI 51 (.var 9) (.lit 0) 6)) (.lit 16))),.int .u8 (.wrap .u8 (.shr .u64 (.wrap .u64 (.hI 51 (.var 9) (.lit 0) 6)) (.lit 8))),.int .u8 (.wrap .u8 (.shr .u64 (.wrap .u64 (.hI 51 (.var 9) (.lit 0) 6)) (.lit 0))),.int .u8 (.wrap .u8 (.shr .u64 (.wrap .u64 (.hI 51 (.var 9) (.lit 0) 7)) (.lit 24))),.int .u8 (.wrap .u8 (.shr .u64 (.wrap .u64 (.hI 51 (.var 9) (.lit 0) 7)) (.lit 16))),.int .u8 (.wrap .u8 (.shr .u64 (.wrap .u64 (.hI 51 (.var 9) (.lit 0) 7)) (.lit 8))),.int .u8 (.wrap .u8 (.shr .u64 (.wrap .u64 (.hI 51 (.var 9) (.lit 0) 7)) (.lit 0)))].map (CV.ev q8))=aS (gm bs):=du (bk (s:=24) (hok 0 ah) (hc 0 ah) ah) (du (bk (s:=16) (hok 0 ah) (hc 0 ah) ah) (du (bk (s:=8) (hok 0 ah) (hc 0 ah) ah) (du (bk (s:=0) (hok 0 ah) (hc 0 ah) ah) (du (bk (s:=24) (hok 1 ah) (hc 1 ah) ah) (du (bk (s:=16) (hok 1 ah) (hc 1 ah) ah) (du (bk (s:=8) (hok 1 ah) (hc 1 ah) ah) (du (bk (s:=0) (hok 1 ah) (hc 1 ah) ah) (du (bk (s:=24) (hok 2 ah) (hc 2 ah) ah) (du (bk (s:=16) (hok 2 ah) (hc 2 ah) ah) (du (bk (s:=8) (hok 2 ah) (hc 2 ah) ah) (du (bk (s:=0) (hok 2 ah) (hc 2 ah) ah) (du (bk (s:=24) (hok 3 ah) (hc 3 ah) ah) (du (bk (s:=16) (hok 3 ah) (hc 3 ah) ah) (du (bk (s:=8) (hok 3 ah) (hc 3 ah) ah) (du (bk (s:=0) (hok 3 ah) (hc 3 ah) ah) (du (bk (s:=24) (hok 4 ah) (hc 4 ah) ah) (du (bk (s:=16) (hok 4 ah) (hc 4 ah) ah) (du (bk (s:=8) (hok 4 ah) (hc 4 ah) ah) (du (bk (s:=0) (hok 4 ah) (hc 4 ah) ah) (du (bk (s:=24) (hok 5 ah) (hc 5 ah) ah) (du (bk (s:=16) (hok 5 ah) (hc 5 ah) ah) (du (bk (s:=8) (hok 5 ah) (hc 5 ah) ah) (du (bk (s:=0) (hok 5 ah) (hc 5 ah) ah) (du (bk (s:=24) (hok 6 ah) (hc 6 ah) ah) (du (bk (s:=16) (hok 6 ah) (hc 6 ah) ah) (du (bk (s:=8) (hok 6 ah) (hc 6 ah) ah) (du (bk (s:=0) (hok 6 ah) (hc 6 ah) ah) (du (bk (s:=24) (hok 7 ah) (hc 7 ah) ah) (du (bk (s:=16) (hok 7 ah) (hc 7 ah) ah) (du (bk (s:=8) (hok 7 ah) (hc 7 ah) ah) (du (bk (s:=0) (hok 7 ah) (hc 7 ah) ah) (rfl))))))))))))))))))))))))))))))));obtain⟨ρ2,_,_,e2⟩:=cU (List.replicate 32 (Ck.int .u8)) 0 (aS (gm bs)) q8 (oA 32 _ (fT bs));refine⟨by rw[g8.i 9];exact p9',by rw[show(q8.h 51).cell (q8.i 9).toNat (Int.toNat 0)=_ from hc 0 ah];rfl,by rw[show(q8.h 51).cell (q8.i 9).toNat (Int.toNat 0+1)=_ from hc 1 ah];rfl,by rw[show(q8.h 51).cell (q8.i 9).toNat (Int.toNat 0+2)=_ from hc 2 ah];rfl,by rw[show(q8.h 51).cell (q8.i 9).toNat (Int.toNat 0+3)=_ from hc 3 ah];rfl,by rw[show(q8.h 51).cell (q8.i 9).toNat (Int.toNat 0+4)=_ from hc 4 ah];rfl,by rw[show(q8.h 51).cell (q8.i 9).toNat (Int.toNat 0+5)=_ from hc 5 ah];rfl,by rw[show(q8.h 51).cell (q8.i 9).toNat (Int.toNat 0+6)=_ from hc 6 ah];rfl,by rw[show(q8.h 51).cell (q8.i 9).toNat (Int.toNat 0+7)=_ from hc 7 ah];rfl,fun _=>⟨[],[],rfl,rfl,⟨ρ2,?_,cC _ _ _ aA,zzT⟩,fun u' R' RA' RG' bs' h1 h2 h'=>?_⟩⟩
   .show Value.agg ([.int .u8 (.wrap .u8 (.shr .u64 (.wrap .u64 (.hI 51 (.var 9) (.lit 0) 0)) (.lit 24))),.int .u8 (.wrap .u8 (.shr .u64 (.wrap .u64 (.hI 51 (.var 9) (.lit 0) 0)) (.lit 16))),.int .u8 (.wrap .u8 (.shr .u64 (.wrap .u64 (.hI 51 (.var 9) (.lit 0) 0)) (.lit 8))),.int .u8 (.wrap .u8 (.shr .u64 (.wrap .u64 (.hI 51 (.var 9) (.lit 0) 0)) (.lit 0))),.int .u8 (.wrap .u8 (.shr .u64 (.wrap .u64 (.hI 51 (.var 9) (.lit 0) 1)) (.lit 24))),.int .u8 (.wrap .u8 (.shr .u64 (.wrap .u64 (.hI 51 (.var 9) (.lit 0) 1)) (.lit 16))),.int .u8 (.wrap .u8 (.shr .u64 (.wrap .u64 (.hI 51 (.var 9) (.lit 0) 1)) (.lit 8))),.int .u8 (.wrap .u8 (.shr .u64 (.wrap .u64 (.hI 51 (.var 9) (.lit 0) 1)) (.lit 0))),.int .u8 (.wrap .u8 (.shr .u64 (.wrap .u64 (.hI 51 (.var 9) (.lit 0) 2)) (.lit 24))),.int .u8 (.wrap .u8 (.shr .u64 (.wrap .u64 (.hI 51 (.var 9) (.lit 0) 2)) (.lit 16))),.int .u8 (.wrap .u8 (.shr .u64 (.wrap .u64 (.hI 51 (.var 9) (.lit 0) 2)) (.lit 8))),.int .u8 (.wrap .u8 (.shr .u64 (.wrap .u64 (.hI 51 (.var 9) (.lit 0) 2)) (.lit 0))),.int .u8 (.wrap .u8 (.shr .u64 (.wrap .u64 (.hI 51 (.var 9) (.lit 0) 3)) (.lit 24))),.int .u8 (.wrap .u8 (.shr .u64 (.wrap .u64 (.hI 51 (.var 9) (.lit 0) 3)) (.lit 16))),.int .u8 (.wrap .u8 (.shr .u64 (.wrap .u64 (.hI 51 (.var 9) (.lit 0) 3)) (.lit 8))),.int .u8 (.wrap .u8 (.shr .u64 (.wrap .u64 (.hI 51 (.var 9) (.lit 0) 3)) (.lit 0))),.int .u8 (.wrap .u8 (.shr .u64 (.wrap .u64 (.hI 51 (.var 9) (.lit 0) 4)) (.lit 24))),.int .u8 (.wrap .u8 (.shr .u64 (.wrap .u64 (.hI 51 (.var 9) (.lit 0) 4)) (.lit 16))),.int .u8 (.wrap .u8 (.shr .u64 (.wrap .u64 (.hI 51 (.var 9) (.lit 0) 4)) (.lit 8))),.int .u8 (.wrap .u8 (.shr .u64 (.wrap .u64 (.hI 51 (.var 9) (.lit 0) 4)) (.lit 0))),.int .u8 (.wrap .u8 (.shr .u64 (.wrap .u64 (.hI 51 (.var 9) (.lit 0) 5)) (.lit 24))),.int .u8 (.wrap .u8 (.shr .u64 (.wrap .u64 (.hI 51 (.var 9) (.lit 0) 5)) (.lit 16))),.int .u8 (.wrap .u8 (.shr .u64 (.wrap .u64 (.hI 51 (.var 9) (.lit 0) 5)) (.lit 8))),.int .u8 (.wrap .u8 (.shr .u64 (.wrap .u64 (.hI 51 (.var 9) (.lit 0) 5)) (.lit 0))),.int .u8 (.wrap .u8 (.shr .u64 (.wrap .u64 (.hI 51 (.var 9) (.lit 0) 6)) (.lit 24))),.int .u8 (.wrap .u8 (.shr .u64 (.wrap .u64 (.hI 51 (.var 9) (.lit 0) 6)) (.lit 16))),.int .u8 (.wrap .u8 (.shr .u64 (.wrap .u64 (.hI 51 (.var 9) (.lit 0) 6)) (.lit 8))),.int .u8 (.wrap .u8 (.shr .u64 (.wrap .u64 (.hI 51 (.var 9) (.lit 0) 6)) (.lit 0))),.int .u8 (.wrap .u8 (.shr .u64 (.wrap .u64 (.hI 51 (.var 9) (.lit 0) 7)) (.lit 24))),.int .u8 (.wrap .u8 (.shr .u64 (.wrap .u64 (.hI 51 (.var 9) (.lit 0) 7)) (.lit 16))),.int .u8 (.wrap .u8 (.shr .u64 (.wrap .u64 (.hI 51 (.var 9) (.lit 0) 7)) (.lit 8))),.int .u8 (.wrap .u8 (.shr .u64 (.wrap .u64 (.hI 51 (.var 9) (.lit 0) 7)) (.lit 0)))].map (CV.ev q8)).toArray=Value.agg ((ak 0 (List.replicate 32 (Ck.int .u8))).map (CV.ev ρ2)).toArray;rw[hres,e2]
   .simp only[aag,aau]at h1 h2;subst h1;obtain⟨rfl,rfl,rfl⟩:=h2;have e:=h'.uniq hR;simp only[aag,aau]at e;subst e;show Value.agg ([.int .u8 (.wrap .u8 (.shr .u64 (.wrap .u64 (.hI 51 (.var 9) (.lit 0) 0)) (.lit 24))),.int .u8 (.wrap .u8 (.shr .u64 (.wrap .u64 (.hI 51 (.var 9) (.lit 0) 0)) (.lit 16))),.int .u8 (.wrap .u8 (.shr .u64 (.wrap .u64 (.hI 51 (.var 9) (.lit 0) 0)) (.lit 8))),.int .u8 (.wrap .u8 (.shr .u64 (.wrap .u64 (.hI 51 (.var 9) (.lit 0) 0)) (.lit 0))),.int .u8 (.wrap .u8 (.shr .u64 (.wrap .u64 (.hI 51 (.var 9) (.lit 0) 1)) (.lit 24))),.int .u8 (.wrap .u8 (.shr .u64 (.wrap .u64 (.hI 51 (.var 9) (.lit 0) 1)) (.lit 16))),.int .u8 (.wrap .u8 (.shr .u64 (.wrap .u64 (.hI 51 (.var 9) (.lit 0) 1)) (.lit 8))),.int .u8 (.wrap .u8 (.shr .u64 (.wrap .u64 (.hI 51 (.var 9) (.lit 0) 1)) (.lit 0))),.int .u8 (.wrap .u8 (.shr .u64 (.wrap .u64 (.hI 51 (.var 9) (.lit 0) 2)) (.lit 24))),.int .u8 (.wrap .u8 (.shr .u64 (.wrap .u64 (.hI 51 (.var 9) (.lit 0) 2)) (.lit 16))),.int .u8 (.wrap .u8 (.shr .u64 (.wrap .u64 (.hI 51 (.var 9) (.lit 0) 2)) (.lit 8))),.int .u8 (.wrap .u8 (.shr .u64 (.wrap .u64 (.hI 51 (.var 9) (.lit 0) 2)) (.lit 0))),.int .u8 (.wrap .u8 (.shr .u64 (.wrap .u64 (.hI 51 (.var 9) (.lit 0) 3)) (.lit 24))),.int .u8 (.wrap .u8 (.shr .u64 (.wrap .u64 (.hI 51 (.var 9) (.lit 0) 3)) (.lit 16))),.int .u8 (.wrap .u8 (.shr .u64 (.wrap .u64 (.hI 51 (.var 9) (.lit 0) 3)) (.lit 8))),.int .u8 (.wrap .u8 (.shr .u64 (.wrap .u64 (.hI 51 (.var 9) (.lit 0) 3)) (.lit 0))),.int .u8 (.wrap .u8 (.shr .u64 (.wrap .u64 (.hI 51 (.var 9) (.lit 0) 4)) (.lit 24))),.int .u8 (.wrap .u8 (.shr .u64 (.wrap .u64 (.hI 51 (.var 9) (.lit 0) 4)) (.lit 16))),.int .u8 (.wrap .u8 (.shr .u64 (.wrap .u64 (.hI 51 (.var 9) (.lit 0) 4)) (.lit 8))),.int .u8 (.wrap .u8 (.shr .u64 (.wrap .u64 (.hI 51 (.var 9) (.lit 0) 4)) (.lit 0))),.int .u8 (.wrap .u8 (.shr .u64 (.wrap .u64 (.hI 51 (.var 9) (.lit 0) 5)) (.lit 24))),.int .u8 (.wrap .u8 (.shr .u64 (.wrap .u64 (.hI 51 (.var 9) (.lit 0) 5)) (.lit 16))),.int .u8 (.wrap .u8 (.shr .u64 (.wrap .u64 (.hI 51 (.var 9) (.lit 0) 5)) (.lit 8))),.int .u8 (.wrap .u8 (.shr .u64 (.wrap .u64 (.hI 51 (.var 9) (.lit 0) 5)) (.lit 0))),.int .u8 (.wrap .u8 (.shr .u64 (.wrap .u64 (.hI 51 (.var 9) (.lit 0) 6)) (.lit 24))),.int .u8 (.wrap .u8 (.shr .u64 (.wrap .u64 (.hI 51 (.var 9) (.lit 0) 6)) (.lit 16))),.int .u8 (.wrap .u8 (.shr .u64 (.wrap .u64 (.hI 51 (.var 9) (.lit 0) 6)) (.lit 8))),.int .u8 (.wrap .u8 (.shr .u64 (.wrap .u64 (.hI 51 (.var 9) (.lit 0) 6)) (.lit 0))),.int .u8 (.wrap .u8 (.shr .u64 (.wrap .u64 (.hI 51 (.var 9) (.lit 0) 7)) (.lit 24))),.int .u8 (.wrap .u8 (.shr .u64 (.wrap .u64 (.hI 51 (.var 9) (.lit 0) 7)) (.lit 16))),.int .u8 (.wrap .u8 (.shr .u64 (.wrap .u64 (.hI 51 (.var 9) (.lit 0) 7)) (.lit 8))),.int .u8 (.wrap .u8 (.shr .u64 (.wrap .u64 (.hI 51 (.var 9) (.lit 0) 7)) (.lit 0)))].map (CV.ev q8)).toArray=_;rw[hres]
def pd (hw:IntKind.u64.wrap (IntKind.u64.wrap (q.i 2)*8)=(n:Int)) (hn:n<18446744073709551616) (hs:s=(k:Int)) (hk:k<=63):IntKind.u8.wrap (az q (E.shr .u64 (E.wrap .u64 ((E.wrap .u64 (E.var 2)).mul (E.lit 8))) (E.lit s)))=((n/2 ^ k%256:Nat):Int):=BL hn hs hk hw
def jS:Sx.Spec where
 fn:=64
 own:=[]
 rd:=[0,2000003]
 res:=[.agg (List.replicate 32 (Ck.int .u8))]
 pre:=fun xs Hs Rs=>∃ u bs R RG,xs=[u]/\Rs=[R,RG]/\fC R u bs/\aG bs/\bs.length<=900000/\uf RG 3
 post:=fun xs Hs Rs v Hs' F=>∀ u bs R RG,xs=[u]->Rs=[R,RG]->fC R u bs->v=.agg (aS (gm bs)).toArray
def JB:Nd:=(fun d m l n o=>(fun a b c=>(fun f g h i j k=>(.and (.imp (.lt d (.lit 64)) (.and (.e (.le (.lit 0) d)) (.and (.e (.his 5 (.lit 3) d 0 (.int .u32))) (.and (.e (.le (.lit 0) (.var 120))) (.and (.e (.his 131 (.var 120) d 0 (.int .u32))) (.and (.pre j) (.ext j (.and (.pre f) (.ext f (.and (.pre g) (.ext g (.and (.pre k) (.ext k (.and (.pre h) (.ext h (.and (.pre i) (.ext i (.back 1 3 [⟨151,0,.int .i64 (.wrap .u32 (.add a (.wrap .u32 (.add (.bits .xor .u32 (.bits .xor .u32 (.var 173) (.var 174)) (.var 175)) (.bits .xor .u32 (.bits .xor .u32 (.bits .and .u32 l n) (.bits .and .u32 l o)) (.bits .and .u32 n o))))))⟩,⟨152,0,.int .i64 l⟩,⟨153,0,.int .i64 n⟩,⟨154,0,.int .i64 o⟩,⟨155,0,.int .i64 (.wrap .u32 (.add (.var 154) a))⟩,⟨156,0,.int .i64 m⟩,⟨157,0,.int .i64 (.var 156)⟩,⟨158,0,.int .i64 (.var 157)⟩,⟨150,0,.int .i64 (.wrap .i64 (.add d (.lit 1)))⟩] [])))))))))))))))))) (.imp (.not (.lt d (.lit 64))) (.back 0 1 (([⟨100,0,.int .i64 (.wrap .i64 (.add (.var 100) (.lit 64)))⟩]:List As)++(WW 85 (ak 110 (List.replicate 8 (Ck.int .u32))) [.int .u32 (.wrap .u32 (.add (.var 110) l)),.int .u32 (.wrap .u32 (.add (.var 111) n)),.int .u32 (.wrap .u32 (.add (.var 112) o)),.int .u32 (.wrap .u32 (.add (.var 113) (.var 154))),.int .u32 (.wrap .u32 (.add (.var 114) m)),.int .u32 (.wrap .u32 (.add (.var 115) (.var 156))),.int .u32 (.wrap .u32 (.add (.var 116) (.var 157))),.int .u32 (.wrap .u32 (.add (.var 117) (.var 158)))])) [])):Nd)) (.call 0 171 [.sv b,.sv (.one (.int .i64 (.lit 11)))] [] []) (.call 0 172 [.sv b,.sv (.one (.int .i64 (.lit 25)))] [] []) (.call 0 174 [.sv c,.sv (.one (.int .i64 (.lit 13)))] [] []) (.call 0 175 [.sv c,.sv (.one (.int .i64 (.lit 22)))] [] []) (.call 0 170 [.sv b,.sv (.one (.int .i64 (.lit 6)))] [] []) (.call 0 173 [.sv c,.sv (.one (.int .i64 (.lit 2)))] [] [])) (.wrap .u32 (.add (.wrap .u32 (.add (.wrap .u32 (.add (.wrap .u32 (.add (.var 158) (.bits .xor .u32 (.bits .xor .u32 (.var 170) (.var 171)) (.var 172)))) (.bits .xor .u32 (.bits .and .u32 m (.var 156)) (.bits .and .u32 (.wrap .u32 (.sub (.lit 4294967295) m)) (.var 157))))) (.hI 5 (.lit 3) d 0))) (.hI 131 (.var 120) d 0))) (.one (.int .u32 m)) (.one (.int .u32 l))) (.var 150) (.var 155) (.var 151) (.var 152) (.var 153)
def CO:Nd:=(fun d i r p q x y=>(fun a h k o j w=>(fun b n m l f g=>(fun c s t u v=>(.and (.imp (.lt d x) (.and (.imp (.lt d (.lit 16)) (.and (.e (.le p r)) (.and (.e (.le p a)) (.and (.e (.lt a q)) (.and (.e (.his 82 r a 0 (.int .u8))) (.and (.e (.le p l)) (.and (.e (.lt l q)) (.and (.e (.his 82 r l 0 (.int .u8))) (.and (.e (.le p m)) (.and (.e (.lt m q)) (.and (.e (.his 82 r m 0 (.int .u8))) (.and (.e (.le p n)) (.and (.e (.lt n q)) (.and (.e (.his 82 r n 0 (.int .u8))) (.and (.e (.le p i)) (.and (.e (.le p d)) (.and (.pre c) (.ext c (.back 1 2 w [(131,some 140)]))))))))))))))))))) (.imp (.not (.lt d (.lit 16))) (.and (.e (.le p i)) (.and (.e (.le p h)) (.and (.e (.lt h x)) (.and (.e (.his 131 i h 0 y)) (.and (.pre v) (.ext v (.and (.pre s) (.ext s (.and (.e (.le p j)) (.and (.e (.lt j x)) (.and (.e (.his 131 i j 0 y)) (.and (.pre t) (.ext t (.and (.pre u) (.ext u (.and (.e (.le p k)) (.and (.e (.lt k x)) (.and (.e (.his 131 i k 0 y)) (.and (.e (.le p o)) (.and (.e (.lt o x)) (.and (.e (.his 131 i o 0 y)) (.and (.pre b) (.ext b (.back 1 2 w [(131,some 144)]))))))))))))))))))))))))))) (.imp (.not (.lt d x)) (.and (.inv 3 [⟨151,0,.int .i64 (.var 110)⟩,⟨152,0,.int .i64 (.var 111)⟩,⟨153,0,.int .i64 (.var 112)⟩,⟨154,0,.int .i64 (.var 113)⟩,⟨155,0,.int .i64 (.var 114)⟩,⟨156,0,.int .i64 (.var 115)⟩,⟨157,0,.int .i64 (.var 116)⟩,⟨158,0,.int .i64 (.var 117)⟩,⟨150,0,.int .i64 p⟩] []) (.havoc 1 3 140 JB))):Nd)) (.put 140 131 i d [.int .u32 (.wrap .u32 (.add (.wrap .u32 (.add (.wrap .u32 (.add (.wrap .u32 (.mul (.wrap .u32 (.hI 82 r a 0)) (.lit 16777216))) (.wrap .u32 (.mul (.wrap .u32 (.hI 82 r l 0)) (.lit 65536))))) (.wrap .u32 (.mul (.wrap .u32 (.hI 82 r m 0)) (.lit 256))))) (.wrap .u32 (.hI 82 r n 0))))]) (.call 0 141 [.sv f,.sv (.one (.int .i64 (.lit 18)))] [] []) (.call 0 142 [.sv g,.sv (.one (.int .i64 (.lit 17)))] [] []) (.call 0 143 [.sv g,.sv (.one (.int .i64 (.lit 19)))] [] []) (.call 0 140 [.sv f,.sv (.one (.int .i64 (.lit 7)))] [] [])) (.put 144 131 i d [.int .u32 (.wrap .u32 (.add (.wrap .u32 (.add (.wrap .u32 (.add (.hI 131 i k 0) (.bits .xor .u32 (.bits .xor .u32 (.var 140) (.var 141)) (.wrap .u32 (.quo (.hI 131 i h 0) (.lit 8)))))) (.hI 131 i o 0))) (.bits .xor .u32 (.bits .xor .u32 (.var 142) (.var 143)) (.wrap .u32 (.quo (.hI 131 i j 0) (.lit 1024))))))]) (.wrap .i64 (.add a (.lit 3))) (.wrap .i64 (.add a (.lit 2))) (.wrap .i64 (.add a (.lit 1))) (.one (.int .u32 (.hI 131 i h 0))) (.one (.int .u32 (.hI 131 i j 0)))) (.wrap .i64 (.add (.var 100) (.wrap .i64 (.mul (.lit 4) d)))) (.wrap .i64 (.sub d (.lit 15))) (.wrap .i64 (.sub d (.lit 16))) (.wrap .i64 (.sub d (.lit 7))) (.wrap .i64 (.sub d (.lit 2))) [⟨130,0,.int .i64 (.wrap .i64 (.add d (.lit 1)))⟩]) (.var 130) (.var 120) (.var 82) (.lit 0) (.add (.var 51) (.lit 8)) (.lit 64) (.int .u32)
def JA:Nd:=(fun d g f=>(fun b c=>(fun a=>(.and (.imp (.lt d (.lit 32)) (.and (.e (.le f (.var 84))) (.and (.e (.le f b)) (.and (.e (.lt b (.lit 8))) (.and (.e (.his 202 (.var 84) b 0 (.int .u32))) (.and (.e (.le f c)) (.and (.e (.le f g)) (.and (.e (.le f d)) (.and (.pre a) (.ext a (.back 0 4 [⟨200,0,.int .i64 (.wrap .i64 (.add d (.lit 1)))⟩] [(202,some 202),(201,some 210)]))))))))))) (.imp (.not (.lt d (.lit 32))) (.and (.e (.le f g)) (.and (.e (.hby 201 g f (.lit 32))) (.post [.ro 4 [.var 0] true,.ro 5 [.lit 3] false,.dead,.hp 82 [79,76,73,70,67,64,61,53] [.var 82,.var 79,.var 76,.var 73,.var 70,.var 67,.var 64,.var 61,.var 50] [],.dead,.dead,.dead,.dead,.dead,.dead,.dead,.dead,.dead,.hp 202 [] [.var 84] [],.hp 201 [] [.var 120] []] (.sv (.agg (aU 201 g f 0 (List.replicate 32 (Kd.int .u8))))))))):Nd)) (.put 210 201 g d [.int .u8 (.wrap .u8 (.shr .u32 (.hI 202 (.var 84) b 0) c))])) (.wrap .i64 (.quo d (.lit 4))) (.wrap .u32 (.wrap .i64 (.sub (.lit 24) (.wrap .i64 (.mul (.lit 8) (.rem d (.lit 4)))))))) (.var 200) (.var 120) (.lit 0)
def Jz:Nd:=(fun a=>(.and (.imp a (.ext (.alloc 120) (.ext (.LU 121 (.bd 120 (List.replicate 64 (CV.int .u32 (.lit 0))) 172)) (.and (.inv 2 [⟨130,0,.int .i64 (.lit 0)⟩] [(131,some 121)]) (.havoc 1 2 122 CO))))) (.imp (.not a) (.ext (.alloc 120) (.ext (.LU 121 (.bd 120 (List.replicate 32 (CV.int .u8 (.lit 0))) 58)) (.ext (.LU 122 (.bd 84 (ak 110 (List.replicate 8 (Ck.int .u32))) 171)) (.and (.inv 4 [⟨200,0,.int .i64 (.lit 0)⟩] [(202,some 122),(201,some 121)]) (.havoc 0 4 123 JA)))))):Nd)) (.lt (.var 100) (.add (.var 51) (.lit 8)))
def Oz:Nd:=(fun p b h=>(fun a r s m o q=>(fun c d f g i j k l n=>(.ext (.alloc 6) (.and (.pre o) (.ext o (.ext (.alloc 9) (.and (.pre m) (.ext m (.and (.inv 0 [⟨50,0,.int .i64 (.var 10)⟩,⟨51,0,.int .i64 (.add p (.lit 1))⟩,⟨52,0,.int .i64 (.var 11)⟩] [(53,some 10)]) (.havoc 0 0 12 (.and (.e (.le h b)) (.and (.imp (.not q) (.ext (.alloc 60) (.and (.pre n) (.ext n (.back 0 0 [⟨50,0,.int .i64 (.var 61)⟩,⟨51,0,.int .i64 r⟩,⟨52,0,.int .i64 (.var 62)⟩] [(53,some 61)]))))) (.imp q (.and (.e (.le h p)) (.ext (.alloc 60) (.and (.pre l) (.ext l (.ext (.alloc 63) (.and (.pre k) (.ext k (.ext (.alloc 66) (.and (.pre j) (.ext j (.ext (.alloc 69) (.and (.pre i) (.ext i (.ext (.alloc 72) (.and (.pre g) (.ext g (.ext (.alloc 75) (.and (.pre f) (.ext f (.ext (.alloc 78) (.and (.pre d) (.ext d (.ext (.alloc 81) (.and (.pre c) (.ext c (.ext (.alloc 84) (.and (.inv 1 (([⟨100,0,.int .i64 h⟩]:List As)++(WW 85 (ak 110 (List.replicate 8 (Ck.int .u32))) [.int .u32 (.lit 1779033703),.int .u32 (.lit 3144134277),.int .u32 (.lit 1013904242),.int .u32 (.lit 2773480762),.int .u32 (.lit 1359893119),.int .u32 (.lit 2600822924),.int .u32 (.lit 528734635),.int .u32 (.lit 1541459225)])) []) (.havoc 0 1 85 Jz)))))))))))))))))))))))))))))))))))))):Nd)) (.app 82 5 1 1 (.sl (.var 79) h (.add b (.lit 7)) (.var 80)) (.add b (.lit 7)) (.hp 79 [76,73,70,67,64,61,53] [.var 79,.var 76,.var 73,.var 70,.var 67,.var 64,.var 61,.var 50] []) (.cvs [.int .u8 (.wrap .u8 (.shr .u64 a h))] 1)) (.app 79 5 1 1 (.sl (.var 76) h (.add b (.lit 6)) (.var 77)) (.add b (.lit 6)) (.hp 76 [73,70,67,64,61,53] [.var 76,.var 73,.var 70,.var 67,.var 64,.var 61,.var 50] []) (.cvs [.int .u8 (.wrap .u8 (.shr .u64 a (.lit 8)))] 1)) (.app 76 5 1 1 (.sl (.var 73) h (.add b (.lit 5)) (.var 74)) (.add b (.lit 5)) (.hp 73 [70,67,64,61,53] [.var 73,.var 70,.var 67,.var 64,.var 61,.var 50] []) (.cvs [.int .u8 (.wrap .u8 (.shr .u64 a (.lit 16)))] 1)) (.app 73 5 1 1 (.sl (.var 70) h (.add b (.lit 4)) (.var 71)) (.add b (.lit 4)) (.hp 70 [67,64,61,53] [.var 70,.var 67,.var 64,.var 61,.var 50] []) (.cvs [.int .u8 (.wrap .u8 (.shr .u64 a (.lit 24)))] 1)) (.app 70 5 1 1 (.sl (.var 67) h (.add b (.lit 3)) (.var 68)) (.add b (.lit 3)) (.hp 67 [64,61,53] [.var 67,.var 64,.var 61,.var 50] []) (.cvs [.int .u8 (.wrap .u8 (.shr .u64 a (.lit 32)))] 1)) (.app 67 5 1 1 (.sl (.var 64) h (.add b (.lit 2)) (.var 65)) (.add b (.lit 2)) (.hp 64 [61,53] [.var 64,.var 61,.var 50] []) (.cvs [.int .u8 (.wrap .u8 (.shr .u64 a (.lit 40)))] 1)) (.app 64 5 1 1 (.sl (.var 61) h r (.var 62)) r (.hp 61 [53] [.var 61,.var 50] []) (.cvs [.int .u8 (.wrap .u8 (.shr .u64 a (.lit 48)))] 1)) (.app 61 5 1 1 s b (.hp 53 [] [.var 50] []) (.cvs [.int .u8 (.wrap .u8 (.shr .u64 a (.lit 56)))] 1)) (.app 61 5 1 1 s b (.hp 53 [] [.var 50] []) (.cvs [.int .u8 h] 1))) (.wrap .u64 (.mul (.wrap .u64 p) (.lit 8))) (.add b (.lit 1)) (.sl (.var 50) h b (.var 52)) (.app 10 5 1 1 (.sl (.var 7) h p (.var 8)) p (.hp 7 [] [.var 7] []) (.cvs [.int .u8 (.lit 128)] 1)) (.app 7 5 1 1 (.sl (.lit (-1)) h h h) h .dead (.seg 4 (.var 0) (.var 1) p)) (.eq (.rem b (.lit 64)) (.lit 56))) (.var 2) (.var 51) (.lit 0)
def JC:List Sx.Spec:=[qj]
def T3:∀ t∈JC,t.OK Tryz.prog:=fun t ht=>by
 simp only[JC,aan,aat,aaX]at ht;subst ht;exact zT
def RM:aF Tryz.prog JC jS.fn where
 Λ:=fun p=>if LR p [64,1,1,1,1,0,0]then some ⟨0,[(3,.sv (.one (.sl (.var 50) (.lit 0) (.var 51) (.var 52))))],[(3,.hp 53 [] [.var 50] [])],60⟩
  else if LR p [64,1,1,1,1,1,1,1,1,0,1,0]then some ⟨1,[(7,TI .i64 (.var 100))],[(13,.bd 84 (ak 110 (List.replicate 8 vB)) 171)],120⟩
  else if LR p [64,1,1,1,1,1,1,1,1,0,1,0,0,1,0,0,1,0,1,0]then some ⟨2,[(9,TI .i64 (.var 130))],[(14,.hp 131 [] [.var 120] [])],140⟩
  else if LR p [64,1,1,1,1,1,1,1,1,0,1,0,0,1,0,0,1,1,1,0,1,0]then some ⟨3,[(21,TI .i64 (.var 150)),(13,.sv (.one (.int .u32 (.var 151)))),(14,.sv (.one (.int .u32 (.var 152)))),(15,.sv (.one (.int .u32 (.var 153)))),(16,.sv (.one (.int .u32 (.var 154)))),(17,.sv (.one (.int .u32 (.var 155)))),(18,.sv (.one (.int .u32 (.var 156)))),(19,.sv (.one (.int .u32 (.var 157)))),(20,.sv (.one (.int .u32 (.var 158))))],[],170⟩
  else if LR p [64,1,1,1,1,1,1,1,1,1,1,0,1,0]then some ⟨4,[(25,TI .i64 (.var 200))],[(14,.hp 201 [] [.var 120] []),(13,.hp 202 [] [.var 84] [])],210⟩else none
 args:=[.sv (.one (.sl (.var 0) (.var 1) (.var 2) (.var 3)))]
 mem:=[.ro 4 [.var 0] true,.ro 5 [.lit 3] false]
 nv:=6
def Oy:qj.res=[.one vB]:=rfl
def Bp (bs:List Int) (j:Nat) (q:Env):Prop:=match j with
 | 0=>∃ m:Nat,m<=(119-bs.length%64)%64/\q.i 51=bs.length+1+m/\ -1<=q.i 50/\0<=q.i 52/\bM (q.h 53) 5 (.slice (ar (q.i 50) 0) (q.i 51).toNat (q.i 52).toNat) (bs++[128]++List.replicate m 0)
 | 1=>∃ k:Nat,q.i 100=((64*k:Nat):Int)/\64*k<=(gl bs).length/\Ih q 110 (nC c8 (gl bs) k)
 | 2=>∃ (k:Nat) (l:List Int),q.i 130=k/\k<=64/\JW (((gl bs).drop (q.i 100).toNat).take 64) k l/\q.h 131=wH (q.i 120).toNat l 172
 | 4=>∃ (k:Nat) (l:List Int),q.i 200=k/\k<=32/\l.length=32/\(∀ j,j<k->l[j]?=some ((gm bs).getD j 0))/\q.h 201=Hl.one (q.i 120).toNat (.cells (aS l).toArray 58 (0,0))/\q.h 202=wH (q.i 84).toNat (s8 (CU bs)) 171
 | _=>∃ k:Nat,q.i 150=k/\k<=64/\Ih q 151 (cR (nC c8 (gl bs) ((q.i 100).toNat/64)) (aP (((gl bs).drop (q.i 100).toNat).take 64) 64) k)
def Lk (bs:List Int) (j:Nat) (q:Env):Nat:=match j with
 | 0=>((bs.length:Int)+100-q.i 51).toNat
 | 1=>((gl bs).length-q.i 100).toNat
 | 2=>(64-q.i 130).toNat
 | 4=>(32-q.i 200).toNat
 | _=>(64-q.i 150).toNat
def Xd (bs:List Int) (xs:List Value) (Rs:List Hl):Ctx:=⟨JC,Bp bs,Lk bs,postOf jS xs [] Rs⟩
end Go.Proofs.YtomdimlnggpgbaaGreatDoor
