/- RelayOpens. -/
import Derived.Test.YtomdimlnggpgbaaGreatDoorTM
set_option linter.all false
set_option maxHeartbeats 4000000
namespace Go.Proofs.YtomdimlnggpgbaaGreatDoor
open Go Go.Sx Go.Pk
def Tg:List Ck->Bool
 | []=>true
 | k::l=>(match k with | .ptr | .sl | .map=>false | _=>true)&&Tg l
theorem Bl {q:Env} : ∀ {ks:List Ck} {n:Nat},Tg ks=true->bz n ks q->bV n ks q
 | [],_,_,_=>trivial
 | k::ks,n,h,hn=>by
  simp only[Tg,aah]at h;refine⟨?_,Bl h.2 hn.2⟩;have:=hn.1;cases k<;>first | exact trivial | exact this | cases h.1
theorem uL {q:Env} : ∀ {a b:List Ck} {n:Nat},bz n (a++b) q->bz n a q/\bz (n+aY a) b q
 | [],b,n,h=>⟨trivial,by simpa [aY] using h⟩
 | k::a,b,n,h=>by
  have:=uL (a:=a) (b:=b) (n:=n+k.len) h.2;rw[show n+k.len+aY a=n+aY (k::a)by simp [aY];omega]at this;exact⟨⟨h.1,this.1⟩,this.2⟩
set_option maxRecDepth 20000 in
theorem Ol (q:Env):((((ar 5 iT).map (CV.ev q)).take 125).drop 34).take 20=(ar 39 ([Ck.int .i64,Ck.bool,Ck.int .u64]++List.replicate 16 (Ck.int .u8)++[Ck.sl])).map (CV.ev q)/\((((ar 5 iT).map (CV.ev q)).take 125).drop 93).take 32=(ar 101 (List.replicate 32 (Ck.int .u8))).map (CV.ev q) /\
 cI (((ar 5 iT).map (CV.ev q)).take 125) 54=q.i 62/\cI (((ar 5 iT).map (CV.ev q)).take 125) 55=q.i 63/\cI (((ar 5 iT).map (CV.ev q)).take 125) 56=q.i 64/\cI (((ar 5 iT).map (CV.ev q)).take 125) 57=q.i 65/\cI (((ar 5 iT).map (CV.ev q)).take 125) 58=q.i 66/\cI (((ar 5 iT).map (CV.ev q)).take 125) 59=q.i 67:=by
 rw[ou];exact⟨rfl,rfl,rfl,rfl,rfl,rfl,rfl,rfl⟩
theorem TO {q:Env} {w:Int} {n:Nat} {lJ sum:List Int} (hw:1<=w/\w<=6) (hn:n<=100000) (h4:q.i 4=w) (h7:q.i 147=n) (ht:(ar 151 (List.replicate 32 (Ck.int .u8))).map (CV.ev q)=aS lJ) (hs:(ar 184 (List.replicate 32 (Ck.int .u8))).map (CV.ev q)=aS sum) :
 zR.map (CV.ev q)=fT (((ar 5 iT).map (CV.ev q)).take 125) w n lJ sum++[.slice (az (q.i 183) 0) 80 80]:=by
 obtain⟨e1,e2,k0,k1,k2,k3,k4,k5⟩:=Ol q;unfold fT kZ pZ L8;rw[e1,e2,k0,k1,k2,k3,k4,k5,<-ht,<-hs];have wi:∀ z:Int,-9<=z->z<=1000000->IntKind.i64.wrap z=z:=fun z h1 h2=>by rw[IntKind.wrap_i64];omega
 have wu:∀ z:Int,0<=z->z<=1000000->IntKind.u64.wrap z=z:=fun z h1 h2=>by rw[IntKind.wrap_u64];omega
 have w1:IntKind.i64.wrap (w-1)=w-1:=wi _ ah ah;have w2:IntKind.u64.wrap (n:Int)=n:=wu _ ah ah;have w3:IntKind.i64.wrap ((n:Int)+1)=(n:Int)+1:=wi _ ah ah;have w4:IntKind.u64.wrap ((n:Int)+1)=(n:Int)+1:=wu _ ah ah;unfold zR;simp only[aaK,aaC,abp,CV.ev,al,aq,bP,bL,dm,dj,gF,h4,h7,w1,w2,w3,w4,aaw,ab0,abu];rfl
set_option maxRecDepth 20000 in
theorem BD:pY.OK Tryz.prog:=by
 refine Spec.aT (Γ:=WT) TQ ?_;rintro xs Hs Rs hl1 hl2 ⟨v,w,row,R,T,RG,rows,hs,p,rfl,rfl,hR,hA,hlen,hw,hx,hK⟩;have e0:Hs=[]:=aad.1 hl1;subst e0;obtain⟨x,y,c,rfl,hy,_⟩:=id hR;obtain⟨q0,ag,hnw,hrow0⟩:=dr iT 5 row (bc fun k=>[x,y,rows.length,c,w].getD k 0) hx.ok;obtain⟨J,hρ⟩:∃ J:Env,J=⟨q0.i,q0.b,q0.s,q0.v,AD [(140,R),(141,T),(142,RG)]⟩:=⟨_,rfl⟩;have v0:J.i 0=x:=by rw[hρ];exact ag.i 0
 have v1:J.i 1=y:=by rw[hρ];exact ag.i 1
 have v2:J.i 2=rows.length:=by rw[hρ];exact ag.i 2
 have v3:J.i 3=c:=by rw[hρ];exact ag.i 3
 have v4:J.i 4=w:=by rw[hρ];exact ag.i 4
 have aD:(ar 5 iT).map (CV.ev J)=row:=by rw[hρ,<-Py (AD [(140,R),(141,T),(142,RG)])];exact hrow0
 have hnw:bz 5 iT J:=by rw[hρ];exact Qg _ _ _ hnw
 have w4:J.h 140=R:=by rw[hρ];rfl
 have w5:J.h 141=T:=by rw[hρ];rfl
 have w6:J.h 142=RG:=by rw[hρ];rfl
 clear hρ;refine⟨Om,J,fun _ _=>True,fun _ _=>0,?_,cQ (by intro r hr;simp [Om]at hr;rcases hr with rfl | rfl | rfl<;>exact⟨_,_,_,rfl⟩) (by show [J.h 140,J.h 141,J.h 142]=_;rw[w4,w5,w6]),(fun _ h=>nomatch h),?_⟩
 .show [Value.slice (az (J.i 0) (J.i 1)) (J.i 2).toNat (J.i 3).toNat,.int .i64 (J.i 4),.agg ((ar 5 iT).map (CV.ev J)).toArray]=_;rw[v0,v1,v2,v3,v4,aD,aaa,aaa]
 refine aG.read [] [] [zR] ?_;have hb0:Value.slice (az (J.i 133) (J.i 134)) (J.i 135).toNat (J.i 136).toNat=row.getD 125 Bk:=by rw[<-aD,tN]
 have hn5:0<=J.i 134/\0<=J.i 135:=by
  obtain⟨_,h⟩:=uL (a:=bU) (b:=[Ck.sl]) hnw;exact⟨h.1.2.1,h.1.2.2.1⟩
 have hlr:rows.length=hs.length:=by have:=hA.1;rwa[aaB]at this
 have V:∀ q:Env,ai 143 J q->(q.i 0=x/\q.i 1=y/\q.i 2=rows.length/\q.i 4=w)/\(q.h 140=R/\q.h 141=T/\q.h 142=RG)/\(ar 5 iT).map (CV.ev q)=row/\(q.i 133=J.i 133/\q.i 134=J.i 134/\q.i 135=J.i 135)/\Value.slice (az (q.i 0) (q.i 1)) (q.i 2).toNat (q.i 3).toNat=.slice (az x y) rows.length c:=fun q g=>by
  refine⟨⟨by rw[g.i 0,v0],by rw[g.i 1,v1],by rw[g.i 2,v2],by rw[g.i 4,v4]⟩,⟨by rw[g.h 140,w4],by rw[g.h 141,w5],by rw[g.h 142,w6]⟩,?_,⟨g.i 133,g.i 134,g.i 135⟩,?_⟩
  .rw[<-aD];exact aaQ Array.toList (Value.agg.inj (ft (ks:=iT) (n:=5) g aB))
  .rw[g.i 0,g.i 1,g.i 2,g.i 3,v0,v1,v2,v3,aaa,aaa]
 have hbB:=C9 rows.length hx.byte;have fin:∀ (U:Hl),R.le U->T.le U->∀ (q:Env) (ce:E),ai 143 J q->q.i 147=rows.length->(ar 151 (List.replicate 32 (Ck.int .u8))).map (CV.ev q)=aS (i7 hs)->(ar 184 (List.replicate 32 (Ck.int .u8))).map (CV.ev q)=aS (gr (fi rows.length p.b))->0<=q.i 183->fi rows.length p.b=List.replicate 80 (aA q ce) ->
  postOf pY [.slice (az x y) rows.length c,.int .i64 w,.agg row.toArray] [] [R,T,RG] q [.ro 140 [.var 0] false,.ro 141 [.var 58] true,.ro 142 [.lit 3] false,.dead,.dead,.hp 145 [] [.var 145] [],.dead,.dead,.bw 183 (List.replicate 80 (CV.int .u8 ce)) 5] (.sv (.agg zR)):=by
  intro U hUR hUT q ce g h7 ht hs2 h183 hce _;obtain⟨⟨_,_,_,k4⟩,_,kr,_⟩:=V q g;have er:=TO hw hlen k4 h7 ht hs2;rw[kr]at er;have hhd:=On hx.hd (w:=w) (n:=rows.length) (lJ:=i7 hs) (sum:=gr (fi rows.length p.b)) hw hlen (qj hs) (fW _) (LP hs) (BL _);have hrl:(fT (row.take 125) w rows.length (i7 hs) (gr (fi rows.length p.b))).length=125:=fU hhd.ok;have hok:bg (zR.map (CV.ev q)) (RB.map jZ):=by
   rw[er];have e:RB.map jZ=dZ++[Kd.slice]:=rfl;rw[e];exact ku hhd.ok rfl
  obtain⟨ρ2,_,hn2,he2⟩:=dr RB 0 _ (bc fun _=>0) hok;have hF:wR q [.ro 140 [.var 0] false,.ro 141 [.var 58] true,.ro 142 [.lit 3] false,.dead,.dead,.hp 145 [] [.var 145] [],.dead,.dead,.bw 183 (List.replicate 80 (CV.int .u8 ce)) 5] [8]=Hl.one (q.i 183).toNat (.cells (List.replicate 80 (.int .u8 (aA q ce))).toArray 5 (0,0)):=by
   show cZ [Hl.one (q.i 183).toNat (.cells ((List.replicate 80 (CV.int .u8 ce)).map (CV.ev q)).toArray 5 (0,0))]=_;rw[aN,acE];rfl
  refine⟨[],[8],rfl,rfl,⟨ρ2,by show Value.agg _=Value.agg _;rw[<-he2],?_,trivial⟩,zR.map (CV.ev q),rfl,fun v' w' row' R' T' RG' rows' hs' p' e1 e2 hR' hA' hx'=>?_⟩
  .obtain⟨m1,m2⟩:=uL (a:=M9) (b:=[Ck.sl]) hn2;refine om (Bl rfl m1) ⟨?_,trivial⟩;have m2:=m2.1;have elast:(CV.sl (.var (0+aY M9)) (.var (0+aY M9+1)) (.var (0+aY M9+2)) (.var (0+aY M9+3))).ev ρ2=.slice (az (q.i 183) 0) 80 80:=by
    have e:ar 0 RB=ar 0 M9++[CV.sl (.var (0+aY M9)) (.var (0+aY M9+1)) (.var (0+aY M9+2)) (.var (0+aY M9+3))]:=rfl;rw[e,aaK,er]at he2;have:=(acu he2 rfl).2;simpa using this
   simp only[CV.ev,al,Value.slice.injEq]at elast;obtain⟨s1,_⟩:=oD h183 (aap 0) m2.2.1 elast.1;exact⟨ah,m2.2.1,m2.2.2.1,m2.2.2.2⟩
  .simp only[aaf,aat,Value.int.injEq,aaV,Value.agg.injEq]at e1 e2;obtain⟨rfl,rfl,e1⟩:=e1;obtain⟨rfl,rfl,rfl⟩:=e2;have e1:=aaI e1;subst e1;obtain rfl:=hR.uniq hR';obtain rfl:=(hA.2 U hUR hUT).uniq (hA'.2 U hUR hUT);obtain rfl:=hx.uniq hx';show fM T (wR q _ [8]) _ _;rw[hF,er];unfold jM;rw[<-hlr];refine⟨ku hhd.ok rfl,?_,?_,hbB.2,by show(fi _ _).length<=_;rw[hbB.1];decide⟩
   .rw[acp hrl];exact hhd
   .have e:(fT (row.take 125) w rows.length (i7 hs) (gr (fi rows.length p.b))++[Value.slice (az (q.i 183) 0) 80 80]).getD 125 Bk=.slice (az (q.i 183) 0) 80 80:=by
     rw[aan,aau ah,hrl];rfl
    rw[e];show cV _ _ (fi rows.length p.b);rw[hce];refine⟨q.i 183,0,80,by rw[aa5],aap _,Or.inr ⟨h183,fun j z hz=>?_⟩⟩;obtain⟨hj,hz⟩:=aai.1 hz;rw[aa5]at hj;rw[adh]at hz;subst hz;unfold Hl.cell;rw[Hl.aX];simp only[abk,acN,aaP];rw[abX,aax hj]
 simp only[go_sem,Nat.reduceAdd,WT,Yi,Yj,Yk,JL];intro q1 g1 _ q2 g2 _;have G2:ai 143 J q2:=g1.tr g2;obtain⟨⟨k0,k1,k2,k4⟩,⟨h0,h1,h2⟩,kr,kb,ksl⟩:=V q2 G2;rw[ksl,h0];refine⟨⟨_,R,rows,rfl,rfl,hR,hlen⟩,fun q3 g3 ⟨F3,hp3,hF3,hn3⟩ q4 g4 _ q5 g5 _=>?_⟩;have hH:=hp3 _ _ _ rfl rfl hR;rw[<-hF3 trivial]at hH;have n3:0<=q3.i 147:=hn3.1.2.2.1;have h147:q3.i 147=rows.length:=by
  obtain⟨x',y',c',e,_⟩:=id hH;simp only[Value.slice.injEq,aaB]at e;omega
 have A5:ai 149 q3 q5:=g4.tr g5;have G5:ai 143 J q5:=G2.trans (g3.mono.tr A5);obtain⟨⟨m0,m1,m2,m4⟩,⟨o0,o1,o2⟩,mr,mb,msl⟩:=V q5 G5;rw[A5.i 145,A5.i 146,A5.i 147,A5.i 148,A5.h 145,o0,o1,o2];refine⟨n3,fun U u=>⟨_,U,U,U,_,hs,rfl,rfl,gL hH (u _ aF),hA.2 U (u R aF) (u T aF),by rw[aaB];exact hlen,hK.mono (u RG aF)⟩,fun q6 g6 ⟨F6,⟨U,u,hp6⟩,_⟩=>?_⟩;have hUR:=u R aF;have hUT:=u T aF;have hp6:=aaI (Value.agg.inj (hp6 _ U U U _ _ rfl rfl (gL hH (u _ aF)) (hA.2 U hUR hUT)));have fin:=fin U hUR hUT;have G6:ai 143 J q6:=G5.tr g6;have h147b:q6.i 147=rows.length:=by rw[g6.i 147,A5.i 147,h147]
 obtain⟨⟨r0,r1,r2,r4⟩,⟨u0,u1,u2⟩,rr,⟨b3,b4,b5⟩,_⟩:=V q6 G6;have o1':=u1;have ww:IntKind.i64.wrap (w-1)=w-1:=by rw[IntKind.wrap_i64];omega
 rw[r4,r2,ww,b3,b4,b5,u1];have hbd:=hx.body;rw[<-hb0]at hbd;obtain⟨x',y',c',e,hy',hbb⟩:=id hbd;simp only[Value.slice.injEq]at e;have tail:∀ (ce:E),fi rows.length p.b=List.replicate 80 (aA q6 ce)->(∀ q,ai 183 q6 q->aA q ce=aA q6 ce)->∀ q7,ai 183 q6 q7->0<=q7.i 183->jC.pre [Value.slice (az (q7.i 183) 0) (Int.toNat 80) (Int.toNat 80)] [] [Hl.one (q7.i 183).toNat (.cells ((List.replicate 80 (CV.int .u8 ce)).map (CV.ev q7)).toArray 5 (0,0)),q7.h 142] /\
  ∀ q8,ai 184 q7 q8->(∃ F,jC.post [Value.slice (az (q7.i 183) 0) (Int.toNat 80) (Int.toNat 80)] [] [Hl.one (q7.i 183).toNat (.cells ((List.replicate 80 (CV.int .u8 ce)).map (CV.ev q7)).toArray 5 (0,0)),q7.h 142] (.agg ((ar 184 (List.replicate 32 (Ck.int .u8))).map (CV.ev q8)).toArray) [] F/\(aJ 0 [Cp.agg (List.replicate 32 (Ck.int .u8))]≠[]->q8.h 184=F)/\dY 184 [Cp.agg (List.replicate 32 (Ck.int .u8))] q8) ->
  postOf pY [.slice (az x y) rows.length c,.int .i64 w,.agg row.toArray] [] [R,T,RG] q8 [.ro 140 [.var 0] false,.ro 141 [.var 58] true,.ro 142 [.lit 3] false,.dead,.dead,.hp 145 [] [.var 145] [],.dead,.dead,.bw 183 (List.replicate 80 (CV.int .u8 ce)) 5] (.sv (.agg zR)):=by
  intro ce hce hst q7 g7 p7;have hRd:cV (Hl.one (q7.i 183).toNat (.cells ((List.replicate 80 (CV.int .u8 ce)).map (CV.ev q7)).toArray 5 (0,0))) (.slice (az (q7.i 183) 0) (Int.toNat 80) (Int.toNat 80)) (fi rows.length p.b):=by
   refine⟨q7.i 183,0,80,by rw[hbB.1];rfl,aap _,Or.inr ⟨p7,fun j z hz=>?_⟩⟩;rw[hce]at hz;obtain⟨hj,hz⟩:=aai.1 hz;rw[aa5]at hj;rw[adh]at hz;unfold Hl.cell;rw[Hl.aX,acE];simp only[abk,acN,aaP];rw[abX,aax hj];show some (Value.int .u8 (aA q7 ce))=_;rw[hst q7 g7,hz]
  rw[show q7.h 142=RG by rw[g7.h 142,u2]];refine⟨⟨_,_,_,RG,rfl,rfl,hRd,hbB.2,by rw[hbB.1];decide,hK⟩,fun q8 g8 ⟨F8,hp8,_⟩=>?_⟩;have hp8:=aaI (Value.agg.inj (hp8 _ _ _ _ rfl rfl hRd));have A8:ai 183 q6 q8:=g7.tr g8;refine fin q8 ce (G6.tr A8) (by rw[A8.i 147,h147b]) ?_ hp8 (by rw[g8.i 183];exact p7) (by rw[hst q8 A8];exact hce);rw[<-hp6];exact aaQ Array.toList (Value.agg.inj (ft (ks:=List.replicate 32 (Ck.int .u8)) (n:=151) (m:=183) A8 aB))
 have hi:0<J.i 135->∃ z r,p.b=z::r/\0<=J.i 133/\T.cell (J.i 133).toNat (J.i 134).toNat=some (.int .u8 z):=fun hp=>by
  cases hb:p.b with
  | nil=>rw[hb]at e;simp at e;omega
  | cons z r =>
   rw[hb]at hbb;rcases hbb with h | ⟨hx0,hc⟩
   .cases h
   obtain⟨s1,s2⟩:=oD hx0 hy' hn5.1 e.1;exact⟨z,r,rfl,ah,by rw[s1,s2];exact hc 0 z rfl⟩
 have hno:¬0<J.i 135->p.b=[]:=fun hn=>aad.1 ah;have mk80:((0:Int)<=80/\((1:Nat):Int)*80<=281474976710656/\(80:Int)<=9223372036854775807):=by decide
 refine⟨ah,ah,⟨ah,ah⟩,ah,hn5.2,fun hp=>?_,fun hn=>⟨mk80,fun q7 g7 ⟨p7,_⟩=>tail _ ?_ (fun q g=>?_) q7 g7 p7⟩⟩
 .obtain⟨z,r,hz,hx0,hc⟩:=hi hp;refine⟨hx0,hn5.1,by rw[hc];rfl,mk80,fun q7 g7 ⟨p7,_⟩=>tail _ ?_ (fun q g=>?_) q7 g7 p7⟩
  .rw[fw,al,al,b3,b4,o1',hz,aa0,hc];rfl
  .rw[fw,fw,al,al,al,al,g.i 133,g.i 134,g.h 141]
 .rw[bP,al,r2,hno hn];rfl
 .rw[bP,bP,al,al,g.i 2]
open Go.Proofs.YtomdimlnggpgbaaGreatDoor.D hiding aM aC fI
theorem Ki {w:Int} {hs:List Hd} {h:Hd} (e:gz w hs h=0):h.Form/\cI h.c 0=w/\cI h.c 1=hs.length+1:=by
 unfold gz at e;split at e
 .cases e
 .rename_i h1;have hF:h.Form:=acL.1 fun g=>h1 (Or.inl g);have hw:cI h.c 0=w:=acL.1 fun g=>h1 (Or.inr g);split at e
  .split at e<;>cases e
  .split at e
   .cases e
   .exact⟨hF,hw,ah⟩
theorem EB {st:Nat->List Pc} {p:Pc} (h:br st p=0):br (cP st p) p=13:=by
 obtain⟨hF,ha,_,_⟩:=nU h;obtain⟨_,hw,hs⟩:=Ki ha;have e:lD (cP st p) (cI p.h.c 0-1).toNat=lD st (cI p.h.c 0-1).toNat++[p.h]:=by
  unfold cP lD;rw[aax h,cM,aaK];rfl
 have ea:gz (cI p.h.c 0) (lD (cP st p) (cI p.h.c 0-1).toNat) p.h=13:=by
  rw[e];unfold gz;rw[aal (fun g=>g.elim (fun x=>x hF) (fun x=>x rfl)),aax (by rw[aac,aay];omega),aax];rw[hs,show(((lD st (cI p.h.c 0-1).toNat).length:Int)+1-1).toNat=(lD st (cI p.h.c 0-1).toNat).length by omega,aau (aav _),adi];rfl
 unfold br;rw[aal (fun x=>x hF),ea,aax aB]
def RS (D:DM) (S:SM) (n m:Nat):Prop:=∃ (g:Int) (K:Nat),Nonempty (SP D S n g K)/\K<=m/\S.recs.length<=m/\S.bA.length<=1100*m
theorem RS.pre {D:DM} {S:SM} {n m:Nat} (h:RS D S n m) (hm:m<=900):S.bA.length<=1048576/\0<=S.LA.serial/\S.recs.length<=1000000000:=by
 obtain⟨g,K,⟨h⟩,hK,hr,hb⟩:=h;refine⟨ah,?_,ah⟩;rw[h.eA];exact ab2 _
theorem RS.new {m:Nat} (h:6<=m/\m<=16384):RS (fH m) (bY (fH m)) (m/2) 0/\(bY (fH m)).recs=[]/\fx (fH m)=0/\ak (kU (fH m))/\ak (gU (fH m)):=by
 obtain⟨⟨hP⟩,hr,hE⟩:=SP.new h;obtain⟨_,_,b1,b2⟩:=hP.open;have hb:(bY (fH m)).bA=[]:=by rw[hP.pk,hr];rfl
 exact⟨⟨0,0,⟨hP⟩,aav _,by rw[hr];exact aav _,by rw[hb];exact aa6 _⟩,hr,hE,b1,b2⟩
theorem BB {R1 R2:Hl} {row:List Value} {p:Pc} (hx:fM R1 R2 row p):ak (fF p):=by
 unfold fF aI;exact iy (iy (lV _) (Mg hx.hd).1) (iy (lV _) hx.byte)
theorem RS.push {D:DM} {S:SM} {n m:Nat} (h:RS D S n m) (hroom:1100*((m:Int)+1)<=64*((n:Int)-2)) (hm:m<=900) {R1 R2:Hl} {row:List Value} {p:Pc} (hx:fM R1 R2 row p) (hb:p.b.length=80) (st:Nat->List Pc) :
 (fh D S st p).e=br st p/\(fh D S st p).st=cP st p/\RS (fh D S st p).D (fh D S st p).S n (m+1):=by
 obtain⟨g,K,⟨hP⟩,hK,hr,hbA⟩:=h;by_cases h0:br st p=0
 .have hl:=(JF hx ah).2;have ht:=jG (b:=fF p) ah;have hpk:(bS [fF p]).length=(aI (fF p)).length:=by unfold bS;simp
  obtain⟨a1,a2,⟨a3⟩⟩:=hP.add (rows:=[fF p]) (fun r hr=>by rw[aam.1 hr];omega) ah (fun r hr=>by rw[aam.1 hr];exact BB hx) ah;have e:fh D S st p=⟨0,(cf D S [fF p]).D,(cf D S [fF p]).S,cP st p⟩:=by
   unfold fh;rw[aal (fun x=>x h0),aal (fun x=>x a1)]
  rw[e];refine⟨h0.symm,rfl,g,K+1,⟨a3⟩,ah,?_,?_⟩
  .show(cf D S [fF p]).S.recs.length<=_;rw[a2,aac,aay];omega
  .show(cf D S [fF p]).S.bA.length<=_;rw[a3.pk,a2,tK,aac,<-hP.pk];omega
 .have e:fh D S st p=⟨br st p,D,S,st⟩:=by unfold fh;rw[aax h0]
  have e2:cP st p=st:=by unfold cP;rw[aal h0]
  rw[e,e2];exact⟨rfl,rfl,g,K,⟨hP⟩,ah,by show S.recs.length<=_;omega,by show S.bA.length<=_;omega⟩
theorem zS {c:List Value} {w:Int} {n:Nat} {lJ sum:List Int} (hA:(kZ c w n lJ).length=54) (hs:sum.length=32):aU (fT c w n lJ sum) 60 32=sum/\cI (fT c w n lJ sum) 92=80:=by
 have key:∀ j,(fT c w n lJ sum)[60+j]?=(aS sum++(.int .i64 80::(c.drop 93).take 32))[j]?:=fun j=>by
  unfold fT;rw[aau ah,hA];unfold pZ;rw[show 60+j-54=j+6 by omega];rfl
 refine⟨?_,?_⟩
 .apply abU (by rw[aK,hs]);intro j h1 h2;have e:(aU (fT c w n lJ sum) 60 32)[j]=cI (fT c w n lJ sum) (60+j):=by simp [aU]
  rw[e];unfold cI;rw[key,aaG (by rw[cj];omega),fL,aab h2];rfl
 .unfold cI;rw[show 92=60+32 from rfl,key,aau (by rw[cj];omega),cj,hs];rfl
def zC:List Value:=[.int .i64 0,.int .u64 0]++List.replicate 32 (.int .u8 0)++[.int .i64 0,.bool false,.int .u64 0]++List.replicate 16 (.int .u8 0)++[.bool false]++List.replicate 6 (.int .u64 0)++List.replicate 32 (.int .u8 0)++[.int .i64 0]++List.replicate 32 (.int .u8 0)
def L0:List Value:=(zC.set 53 (.slice none 0 0))++[.slice none 0 0]
def z0:Pc:=⟨⟨zC,[]⟩,[]⟩
theorem N4 {D:DM} {S:SM} {st:Nat->List Pc} {p:Pc} (h:br st p≠0):fh D S st p=⟨br st p,D,S,st⟩:=by unfold fh;rw[aax h]
theorem qA (st:Nat->List Pc) (p:Pc) (i:Nat):(cP st p i).length<=(st i).length+1:=by
 unfold cP;split
 .unfold vl;split
  .rename_i h;rw[h,aac];exact aav _
  .omega
 .omega
theorem Wk:bg L0 rI:=by
 repeat' (first | exact trivial | refine⟨rfl,?_⟩)
theorem Wm:∀ v∈L0.take 125,wY v:=by
 have e:L0.take 125=zC.set 53 (.slice none 0 0):=rfl;rw[e];have h:∀ v∈zC,wY v:=by
  intro v hv;unfold zC at hv;simp only[aaR,aas,aaA,abc,acF]at hv;rcases hv with ((((((((rfl | rfl) | ⟨_,rfl⟩) | rfl | rfl | rfl) | ⟨_,rfl⟩) | rfl) | ⟨_,rfl⟩) | ⟨_,rfl⟩) | rfl) | ⟨_,rfl⟩<;>first | exact trivial | (show _<=_/\_<_;omega) | (show jT 0;unfold jT;omega)
 intro v hv;rcases ab4 hv with hv | rfl
 .exact h v hv
 .trivial
theorem Wl (T:Hl):fM T T L0 z0 :=
 ⟨Wk,⟨(by have h:=jf (n:=125) Wk;rw[zH]at h;exact h),Wm,rfl,⟨-1,0,0,rfl,ah,Or.inl rfl⟩,⟨aa6 _,fun _ h=>nomatch h⟩⟩,⟨-1,0,0,rfl,ah,Or.inl rfl⟩,(fun z hz=>nomatch hz),aa6 _⟩
noncomputable def Bx:Pc:=jM [] 1 z0
def pC (sum:List Int):List Value:=fT zC 1 0 (List.replicate 32 0) sum
theorem Qr (sum:List Int) (hs:sum.length=32):Hd.Form ⟨pC sum,[]⟩:=by
 have h92:cI (pC sum) 92=80:=(zS rfl hs).2;refine⟨⟨⟨?_,?_⟩,⟨?_,?_⟩,⟨?_,?_⟩,?_,rfl,⟨?_,?_,?_,?_,?_,?_⟩,Or.inr ?_⟩,aa6 _,(fun i hi=>by simp at hi),?_,fun h=>by cases h⟩
 all_goals first
  | (show hZ (cI (pC sum) 92-16);rw[h92];exact Or.inl rfl)
  | (show sG _ 2 32;repeat' (first | rfl | refine⟨rfl,?_⟩))
  | exact(by decide:(1:Int)<=1)
  | exact(by decide:(1:Int)<=6)
  | exact(by decide:(1:Int)<=1048576)
  | exact(by decide:(0:Int)<=0)
  | exact(by decide:(0:Int)<=255)
  | exact(by decide:(0:Int)<=1099511627776)
  | exact(by decide:(0:Int)<=1048576)
open Classical in
theorem NU:br (fun _=>[]) Bx=0:=by
 have hs:(gr (fi 0 [])).length=32:=fW _;have eh:Bx.h=⟨pC (gr (fi 0 [])),[]⟩:=rfl;have eb:Bx.b=fi 0 []:=rfl;have hF:=Qr _ hs;obtain⟨e1,e2⟩:=zS (c:=zC) (w:=1) (n:=0) (lJ:=List.replicate 32 0) rfl hs;have k0:cI (pC (gr (fi 0 []))) 0=1:=rfl;have k1:cI (pC (gr (fi 0 []))) 1=1:=rfl;have kt:aU (pC (gr (fi 0 []))) 2 32=List.replicate 32 0:=rfl;have ha:gz 1 [] ⟨pC (gr (fi 0 [])),[]⟩=0:=by
  unfold gz;rw[aal (fun h=>h.elim (fun x=>x hF) (fun x=>x k0)),k1,aal aB,aal aB,aal (fun x=>x kt)]
 have hw:fk (pC (gr (fi 0 []))) (fi 0 [])=true:=by
  unfold fk;exact decide_eq_true ⟨by rw[show cI (pC (gr (fi 0 []))) 92=80 from e2];rfl,e1.symm⟩
 unfold br;rw[eh,eb];dsimp only;rw[aal (fun x=>x hF),k0,aal (fun x=>x ha),hw,aal aB,aal aB]
def pf:Sx.Spec where
 fn:=25
 own:=[]
 rd:=[2000000,100]
 res:=[.one .bool]
 pre:=fun xs Hs Rs=>∃ RG T g,xs=[]/\Rs=[RG,T]/\(Gl RG g/\uu RG 5/\RG.cell 4 0=some yn)/\uu RG 3
 post:=fun xs Hs Rs v Hs' F=>v=.bool true
def Za:List CV:=([.int .i64 (.lit 0),.int .u64 (.lit 0)]++List.replicate 32 (CV.int .u8 (.lit 0))++[.int .i64 (.lit 0),.bool .ff,.int .u64 (.lit 0)]++List.replicate 16 (CV.int .u8 (.lit 0))++[.sl (.lit (-1)) (.lit 0) (.lit 0) (.lit 0),.int .u64 (.lit 0),.int .u64 (.lit 0),.int .u64 (.lit 0),.int .u64 (.lit 0),.int .u64 (.lit 0),.int .u64 (.lit 0)]++List.replicate 32 (CV.int .u8 (.lit 0))++[.int .i64 (.lit 0)]++List.replicate 32 (CV.int .u8 (.lit 0))++[.sl (.lit (-1)) (.lit 0) (.lit 0) (.lit 0)])
set_option maxRecDepth 20000 in
theorem RX (q:Env):Za.map (CV.ev q)=L0:=rfl
noncomputable def Wr:List Sx.Spec:=[Hg,Da,E8 1001053,pY,qz]
theorem RY:∀ t∈Wr,t.OK Tryz.prog:=au Ji <| au Lu <| au (N5 _) <| au BD <| au yK <| bR
theorem Xj:Hg.res=[.one .ptr]:=rfl
theorem Xk:Da.res=[.one .ptr,.one (.int .i64)]:=rfl
theorem Xl (n:Nat):(E8 n).res=[.one (.int .i64)]:=rfl
theorem Xm:pY.res=[.agg RB]:=rfl
theorem Xn:qz.res=[.one (.int .i64)]:=rfl
noncomputable def Y9:aG Tryz.prog Wr pf.fn where
 Λ:=aC
 args:=[]
 mem:=[.ro 0 [.lit 0,.lit 1,.lit 2,.lit 3,.lit 4,.lit 5] false,.ro 1 [] true]
 nv:=2
set_option maxRecDepth 20000 in
theorem DO:pf.OK Tryz.prog:=by
 refine Spec.aT (Γ:=Wr) RY ?_;rintro xs Hs Rs hl1 hl2 ⟨RG,T,g,rfl,rfl,hG,hK⟩;have e0:Hs=[]:=aad.1 hl1;subst e0;refine⟨Y9,aM [] false [RG,T],fun _ _=>True,fun _ _=>0,rfl,cQ (by intro r hr;simp [Y9]at hr;rcases hr with rfl | rfl<;>exact⟨_,_,_,rfl⟩) rfl,(fun _ h=>nomatch h),?_⟩;refine aG.read [iT] [] [Za] ?_;generalize hρ:aM [] false [RG,T]=J;have V:∀ q:Env,ai 2 J q->q.h 0=RG/\q.h 1=T:=fun q g=>by
  rw[g.h 0,g.h 1,<-hρ];exact⟨rfl,rfl⟩
 clear hρ;simp only[go_sem,Nat.reduceAdd,Wr,Xj,Xk,Xl,Xm,Xn,Vh];refine⟨⟨40,rfl⟩,fun q2 g2 ⟨F2,⟨m,em,hD⟩,hF2,_⟩=>?_⟩;simp only[aaf,Value.int.injEq,aaV,aat]at em;subst em;rw[<-hF2 (by simp [aJ,Cp.roots,Ck.root])]at hD;have hNew:RS (fH 40) (bY (fH 40)) 20 0/\(bY (fH 40)).recs=[]/\fx (fH 40)=0/\ak (kU (fH 40))/\ak (gU (fH 40)):=RS.new (m:=40) ⟨ah,ah⟩;obtain⟨hRS,sI,hE0,hb1,hb2⟩:=hNew;refine⟨⟨_,_,_,rfl,rfl,hD,hb1,hb2,hE0,sI⟩,fun q4 g4 ⟨F4,⟨dp,H',D',H2,pv,e1,e2,d1,e3,d2,ev,hR⟩,hF4,hn4⟩=>?_⟩;simp only[aaf,aat]at e1 e2 e3;subst e1 e2;obtain rfl:=hD.uniq d1;simp only[Value.tuple.injEq,aaJ,aaf,Value.int.injEq,aaV,aat]at ev;obtain⟨epv,e6⟩:=ev;rw[<-epv,<-hF4 (by simp [aJ,Cp.roots,Ck.root])]at hR;rw[<-e3]at d2;have G4:ai 2 J q4:=g2.tr g4;obtain⟨v0,v1⟩:=V q4 G4;rw[v0,v1,RX];have hRd:bj T (.slice (az (-1) 0) (Int.toNat 0) (Int.toNat 0)) rI []:=⟨-1,0,0,rfl,ah,Or.inl rfl⟩;have hAll:Wn T T (([]:List (List Value)).map (List.take 125)) []:=⟨rfl,fun _ _ _=>⟨rfl,fun j r h hr=>by simp at hr⟩⟩;refine⟨⟨_,1,L0,T,T,RG,[],[],z0,rfl,rfl,hRd,hAll,aB,aB,Wl T,hK⟩,fun q7 g7 ⟨F7,⟨row,er,hp7⟩,hF7,_⟩ q8 g8 _=>?_⟩;have hx:=hp7 _ _ _ _ _ _ _ _ _ rfl rfl hRd hAll (Wl T);have er:=aaI (Value.agg.inj er);rw[Jt]at er;rw[<-er,<-hF7 aB]at hx;have A48:ai 7 q4 q8:=g7.tr g8;have G8:ai 2 J q8:=G4.tr A48;have hpr:∀ q,ai 139 q7 q->(ar 7 iT).map (CV.ev q)=(ar 7 iT).map (CV.ev q7):=fun q g=>aaQ Array.toList (Value.agg.inj (ft (ks:=iT) (n:=7) g aB));have hb80:Bx.b.length=80:=aa5;refine⟨fun _=>⟨fun _=>?_,fun hbad=>?_⟩,fun hbad=>absurd (by rw[A48.i 6];exact e6) hbad⟩
 rotate_left
 .exfalso;obtain⟨r,ps,x,HS,HI,hp,_⟩:=hR;rw[A48.i 4]at hbad;rw[hbad]at hp;simp [az]at hp
 obtain⟨x0,x1⟩:=V q8 G8;rw[hpr q8 g8,g8.h 7,x0,x1,A48.i 4,A48.i 5,A48.h 4,A48.h 5];obtain⟨c1,c2,c3⟩:=hRS.pre ah;refine⟨⟨_,_,_,_,_,_,_,g,_,_,_,_,_,rfl,rfl,rfl,hR,d2,hx,by show Bx.b.length<=2100;omega,fun i _=>Nat.zero_lt_succ _,hG,c1,c2,c3⟩,fun q9 g9 ⟨F9,hp9,_⟩=>?_⟩;obtain⟨hR9,hD9,he9⟩:=By (K1:=q9.h 140) (K2:=q9.h 141) hR d2 hx hp9;obtain⟨f1,f2,hRS9⟩:=hRS.push aB ah hx hb80 (fun _=>[]);have a1:br (fun _=>[]) (jM [] 1 z0)=0:=NU;rw[f1,a1]at he9;rw[f2]at hR9;refine⟨fun _=>?_,fun hne=>absurd (by simpa using he9) hne⟩;have A9:ai 139 q7 q9:=g8.tr g9;have A49:ai 7 q4 q9:=A48.tr g9;have G9:ai 2 J q9:=G4.tr A49;obtain⟨y0,y1⟩:=V q9 G9;rw[hpr q9 A9,A9.h 7,y0,y1,A49.i 4,A49.i 5];obtain⟨c1,c2,c3⟩:=hRS9.pre ah;have hS9:mK (cP (fun _=>[]) (jM [] 1 z0)):=fun i _=>by
  have:=qA (fun _=>[]) (jM [] 1 z0) i;simp only[abe]at this;omega
 refine⟨⟨_,_,_,_,_,_,_,g,_,_,_,_,_,rfl,rfl,rfl,hR9,hD9,hx,by show Bx.b.length<=2100;omega,hS9,hG,c1,c2,c3⟩,fun q10 g10 ⟨F10,hp10,_⟩=>?_⟩;obtain⟨hR10,_,he10⟩:=By (K1:=q10.h 143) (K2:=q10.h 144) hR9 hD9 hx hp10;have a2:br (cP (fun _=>[]) (jM [] 1 z0)) (jM [] 1 z0)=13:=EB NU;rw[N4 (by rw[a2];decide)]at hR10 he10;rw[a2]at he10;refine⟨fun _=>?_,fun hne=>absurd (by simpa using he10) hne⟩;obtain⟨r,ps,x,hp,hrb,hIx⟩:=hR10.rd;have n5:0<=q4.i 5:=hn4.1.2;obtain⟨i4,i5⟩:=Qx n5 hp;have A10:ai 7 q4 q10:=A49.tr g10;have cr:(q10.h 143).cell ((r:Int)).toNat (Int.toNat ((0:Int)+1))=some (.pointer (some ⟨x,0,none⟩)):=by
  rw[aaa];unfold Hl.cell;rw[hrb];rfl
 rw[A10.i 4,A10.i 5,i4,i5,cr,iJ];refine⟨ah,ah,rfl,⟨x,_,_,rfl,rfl,hIx⟩,fun q11 g11 ⟨F11,hp11,_⟩=>?_⟩;have h11:q11.i 146=dL (cP (fun _=>[]) (jM [] 1 z0)):=by simpa using hp11 _ _ _ rfl rfl hIx
 obtain⟨hF,_⟩:=nU a1;have hw:=yE hF;have hc:dL (cP (fun _=>[]) (jM [] 1 z0))=1:=by
  unfold cP;rw[aax a1,DU _ _ ah];rfl
 refine tP rfl ?_;have e:bd q11 ((E.var 146).eq (E.lit 1))=true:=by rw[gF,al,aq,h11,hc]
 show Value.bool _=_;rw[e]
end Go.Proofs.YtomdimlnggpgbaaGreatDoor
namespace Go.Proofs.YtomdimlnggpgbaaGreatDoor
open Go Go.Sx Go.Pk
def DF (row:List Value) (k:Nat):Nat:=match row[k]? with
 | some (.slice _ l _)=>l
 | _=>0
def uy:Sx.Spec where
 fn:=26
 own:=[]
 rd:=[0]
 res:=[.one .bool]
 pre:=fun xs Hs Rs=>∃ u n R rows,xs=[u,.int .i64 n]/\Rs=[R]/\bj R u rI rows/\n<=100
 post:=fun xs Hs Rs v Hs' F=>∀ u n R rows,xs=[u,.int .i64 n]->Rs=[R]->bj R u rI rows->∃ z,v=.bool z/\(z=true->(rows.length:Int)<=n/\∀ row∈rows,DF row 53<=20/\DF row 125<=2100)
noncomputable def MN:aG Tryz.prog [] 26 where
 Λ:=fun p=>if lp p then some ⟨0,[(5,TI .i64 (.var 50))],[],60⟩else none
 args:=[.sv (.one (.sl (.var 0) (.var 1) (.var 2) (.var 3))),.sv (.one (.int .i64 (.var 4)))]
 mem:=[.ro 5 [.var 0] false]
 nv:=6
theorem JW {row:List Value} (h:bg row rI) {k:Nat} (hk:k=53\/k=125):∃ u,row[k]?=some u/\bD (some u) .slice=true/\bm (some u) 2=DF row k:=by
 have hl:=fU h;rw[mj]at hl;have qW:k<row.length:=ah;refine⟨row[k],aab qW,?_⟩;have h1:bD row[k]? .slice=true:=by
  obtain⟨q,hq,_,_⟩:=xE (ks:=iT) [] h;rw[hq];rcases hk with rfl | rfl<;>kernel_rfl
 rw[aab qW]at h1;refine⟨h1,?_⟩;unfold DF;rw[aab qW];cases hv:row[k]with
 | slice a l c=>simp [bm]
 | _=>rw[hv]at h1;simp [bD]at h1
theorem Kz:uy.OK Tryz.prog:=by
 refine Spec.aT (Γ:=[]) (fun _ h=>nomatch h) ?_;rintro xs Hs Rs hl1 hl2 ⟨u,n,R,rows,rfl,rfl,hR,hn⟩;have e0:Hs=[]:=aad.1 hl1;subst e0;obtain⟨x,y,c,rfl,hy,hr⟩:=id hR;refine⟨MN,aM [x,y,rows.length,c,n] false [Hl.none,Hl.none,Hl.none,Hl.none,Hl.none,R],fun _ q=>∃ k:Nat,q.i 50=k/\k<=rows.length/\∀ row∈rows.take k,DF row 53<=20/\DF row 125<=2100,fun _ q=>(rows.length-q.i 50).toNat,?_,cQ (by intro r hr;simp [MN]at hr;subst hr;exact⟨_,_,_,rfl⟩) rfl,(fun _ h=>nomatch h),?_⟩
 .show [Value.slice (az x y) ((rows.length:Int)).toNat ((c:Int)).toNat,_]=_;simp only[aaa];rfl
 refine aG.read [] [] [] ?_;generalize hρ:aM [x,y,rows.length,c,n] false [Hl.none,Hl.none,Hl.none,Hl.none,Hl.none,R]=J;have V:∀ q:Env,ai 6 J q->q.i 0=x/\q.i 1=y/\q.i 2=rows.length/\q.i 4=n/\q.h 5=R:=fun q hg=>by
  rw[hg.i 0,hg.i 1,hg.i 2,hg.i 4,hg.h 5,<-hρ];exact⟨rfl,rfl,rfl,rfl,rfl⟩
 clear hρ;have out:∀ {q:Env} {e:E} {mem:Mem},(bd q e=true->(rows.length:Int)<=n/\∀ row∈rows,DF row 53<=20/\DF row 125<=2100)->postOf uy [.slice (az x y) rows.length c,.int .i64 n] [] [R] q mem (.sv (.one (.bool e))):=by
  intro q e mem he;refine tP rfl fun u' n' R' rows' e1 e2 hR'=>?_;simp only[aaf,Value.int.injEq,aaV,aat]at e1 e2;obtain⟨rfl,rfl⟩:=e1;subst e2;obtain rfl:=hR.uniq hR';exact⟨_,rfl,he⟩
 have ff:∀ {q:Env} {mem:Mem},postOf uy [.slice (az x y) rows.length c,.int .i64 n] [] [R] q mem (.sv (.one (.bool .ff))):=out fun e=>by rw[c8]at e;cases e
 simp only[go_sem,Nat.reduceAdd];refine⟨⟨0,rfl,aa6 _,fun row h=>by simp at h⟩,fun q g ⟨k,ek,hk,hall⟩=>?_⟩;obtain⟨v0,v1,v2,v4,w5⟩:=V q g;rw[v0,v1,v2,w5,ek];have fin:∀ {q':Env} {mem:Mem},q'=q->(k=rows.length\/100<=k)->postOf uy [.slice (az x y) rows.length c,.int .i64 n] [] [R] q' mem (.sv (.one (.bool (.le (.var 2) (.var 4))))):=by
  rintro q' mem rfl hkk;refine out fun h=>?_;rw[kC,al,al,v2,v4,aag]at h;have:k=rows.length:=ah;refine⟨h,fun row hr=>hall row ?_⟩;rw[this,abh];exact hr
 refine⟨ah,fun hlt=>⟨fun h100=>?_,fun h100=>fin rfl (Or.inr ah)⟩,fun hge=>fin rfl (Or.inl ah)⟩;have hkr:rows[k]?=some rows[k]:=aab ah;rcases hr with rfl | ⟨hx,hr⟩
 .simp at hlt;omega
 obtain⟨hok,hcell⟩:=hr k _ hkr;rw[mj]at hcell;obtain⟨u1,hu1,s1,s2⟩:=JW hok (Or.inl rfl);obtain⟨u2,hu2,s3,s4⟩:=JW hok (Or.inr rfl);have k1:R.cell x.toNat (y+(k:Int)*126+53).toNat=some u1:=by rw[show(y+(k:Int)*126+53).toNat=y.toNat+k*126+53 by omega];exact hcell 53 _ hu1
 have k2:R.cell x.toNat (y+(k:Int)*126+125).toNat=some u2:=by rw[show(y+(k:Int)*126+125).toNat=y.toNat+k*126+125 by omega];exact hcell 125 _ hu2
 rw[k1,k2,s2,s4];refine⟨hx,hy,ah,s1,ah,fun h20=>⟨s3,ah,fun _=>ff,fun hb=>⟨⟨k+1,?_,ah,fun row aD=>?_⟩,?_⟩⟩,fun _=>ff⟩
 .show IntKind.i64.wrap (q.i 50+1)=_;rw[ek];exact wrap_i64 ah ah
 .rw[abv,hkr,abN]at aD;rcases aaR.1 aD with h | h
  .exact hall row h
  .rw[aam]at h;subst h;exact⟨ah,ah⟩
 .show((rows.length:Int)-IntKind.i64.wrap (q.i 50+1)).toNat<_;rw[ek,wrap_i64 ah ah];omega
end Go.Proofs.YtomdimlnggpgbaaGreatDoor
namespace Go.Sx
open Go
theorem rq:∀ (ns:List Int) (r:ByteArray),(ns.foldl (fun r n=>r.push (UInt8.ofNat n.toNat)) r).data.toList=r.data.toList++ns.map fun n=>UInt8.ofNat n.toNat
 | [],r=>aF
 | n::ns,r=>by
  rw[aci,rq ns];show(r.data.push _).toList++_=_;rw[ade,aaw];rfl
theorem Cm:∀ {a b:List Int},(∀ z∈a,0<=z/\z<256)->(∀ z∈b,0<=z/\z<256)->bytesOf a=bytesOf b->a=b:=by
 have key:∀ (a b:List Int),(∀ z∈a,0<=z/\z<256)->(∀ z∈b,0<=z/\z<256)->(a.map fun n=>UInt8.ofNat n.toNat)=(b.map fun n=>UInt8.ofNat n.toNat)->a=b:=by
  intro a
  induction a with
  | nil=>intro b _ _ h;cases b with
   | nil=>rfl
   | cons y b=>cases h
  | cons x a ih =>
   intro b ha hb h;cases b with
   | nil=>cases h
   | cons y b =>
    rw[aaC,aaC,aaf]at h;have hx:=ha x (aaH ..);have hy:=hb y (aaH ..);have e:=aaQ UInt8.toNat h.1;rw[acG,acG]at e;have:x=y:=ah;subst this;rw[ih b (fun z h=>ha z (aar _ h)) (fun z h=>hb z (aar _ h)) h.2]
 intro a b ha hb h;have:=aaQ (fun x:ByteArray=>x.data.toList) h;unfold bytesOf at this;simp only[rq]at this;exact key a b ha hb (by simpa using this)
end Go.Sx
namespace Go.Proofs.YtomdimlnggpgbaaGreatDoor
open Go Go.Sx Go.Pk
def oK (bs:List Int) (n:Nat) (x p:Int):Prop:=n<=bs.length/\((n<=9/\∃ y:Nat,mg bs=nq (bs.drop n) n y/\x=y/\y<128 ^ n/\p=((128 ^ n:Nat):Int))\/(n=10/\mg bs=none))
theorem oK.start (bs:List Int):oK bs 0 0 1:=⟨aa6 _,Or.inl ⟨aB,0,rfl,rfl,aB,rfl⟩⟩
theorem wrap_u64 {n:Int} (h0:0<=n) (h1:n<18446744073709551616):IntKind.u64.wrap n=n:=acJ h0 h1
theorem Qw {n:Nat} (h:n<=9):128 ^ n<=9223372036854775808:=by
 rw[<-Jv];exact abW aB h
theorem Jw {n:Nat} (h:n<=8):128 ^ n<=72057594037927936:=by
 have:(128:Nat) ^ 8=72057594037927936:=by decide
 rw[<-this];exact abW aB h
def jF (x p c:Int):Int:=IntKind.u64.wrap (x+IntKind.u64.wrap (IntKind.u64.wrap (c.tmod 128)*p))
theorem OV {y n:Nat} {c:Int} (hc:0<=c/\c<256) (hn:n<=8) (hy:y<128 ^ n):jF y ((128 ^ n:Nat):Int) c=((y+c.toNat%128*128 ^ n:Nat):Int)/\y+c.toNat%128*128 ^ n<128 ^ (n+1):=by
 have hp:=Jw hn;have e1:c.tmod 128=((c.toNat%128:Nat):Int):=by rw[abd hc.1];omega
 have hm:c.toNat%128*128 ^ n<=127*128 ^ n:=ab6 _ ah;have hlt:y+c.toNat%128*128 ^ n<128 ^ (n+1):=by rw[ab1];omega
 refine⟨?_,hlt⟩;have e2:((c.toNat%128:Nat):Int)*((128 ^ n:Nat):Int)=((c.toNat%128*128 ^ n:Nat):Int):=by rw[acB]
 have e3:IntKind.u64.wrap ((c.toNat%128:Nat):Int)=((c.toNat%128:Nat):Int):=wrap_u64 ah ah;unfold jF;rw[e1,e3,e2];generalize c.toNat%128*128 ^ n=m at hm hlt;have e4:IntKind.u64.wrap (m:Int)=m:=wrap_u64 ah ah;rw[e4,wrap_u64 ah ah];rfl
theorem EO {l:List Int} {n y:Nat} {c:Int} : nq (c::l) n y=if(n=9/\1<c)\/9<n then none else if c<128 then(if c=0/\0<n then none else some (y+c.toNat*128 ^ n,n+1))else nq l (n+1) (y+(c.toNat%128)*128 ^ n):=rfl
theorem oK.more {bs:List Int} {n:Nat} {x p c:Int} (hb:ak bs) (h:oK bs n x p) (hn:n<10) (hc:bs[n]?=some c) (h128:¬c<128):oK bs (n+1) (jF x p c) (IntKind.u64.wrap (p*128)):=by
 obtain⟨hl,h⟩:=h;have hlt:=(aai.1 hc).1;have hcb:=hb c (aae hc);have hd:bs.drop n=c::bs.drop (n+1):=by
  rw[ab5 hlt];rw[aab hlt]at hc;rw[aaZ hc]
 rcases h with ⟨h9,y,e,rfl,hy,rfl⟩ | ⟨h10,_⟩
 .rw[hd,EO]at e;refine⟨ah,?_⟩;by_cases h8:n<=8
  .rw[aal ah,aal h128]at e;obtain⟨e1,e2⟩:=OV hcb h8 hy;refine Or.inl ⟨ah,_,e,e1,e2,?_⟩;have hp:=Jw h8;rw[wrap_u64 ah ah,ab1,acB];rfl
  .rw[aax ah]at e;exact Or.inr ⟨ah,e⟩
 .omega
theorem oK.last {bs:List Int} {n:Nat} {x p c:Int} (hb:ak bs) (h:oK bs n x p) (hn:n<10) (hc:bs[n]?=some c) (h128:c<128) :
 (aj (jF x p c).toNat=bs.take (n+1)->aO bs=((jF x p c).toNat,n+1))/\(aj (jF x p c).toNat≠bs.take (n+1)->aO bs=(0,0))/\0<=jF x p c/\jF x p c<18446744073709551616:=by
 obtain⟨hl,h⟩:=h;have hlt:=(aai.1 hc).1;have hcb:=hb c (aae hc);have hr:0<=jF x p c/\jF x p c<18446744073709551616:=⟨Int.emod_nonneg _ aB,Int.emod_lt_of_pos _ aB⟩;have hd:bs.drop n=c::bs.drop (n+1):=by
  rw[ab5 hlt];rw[aab hlt]at hc;rw[aaZ hc]
 refine⟨fun he=>?_,fun hne=>?_,hr⟩
 .have hbs:bs=aj (jF x p c).toNat++bs.drop (n+1):=by rw[he,ack]
  have:=np (x:=(jF x p c).toNat) ah (bs.drop (n+1));rw[<-hbs]at this;unfold aO;rw[this,he,aaz];show(_,min (n+1) bs.length)=_;rw[acD ah]
 .have hno:mg bs=none:=by
   cases hA:mg bs with
   | none=>rfl
   | some zm =>
    exfalso;obtain⟨z,m⟩:=zm;obtain⟨d1,d2,d3,d4⟩:=uM hb hA;rcases h with ⟨h9,y,e,rfl,hy,rfl⟩ | ⟨h10,_⟩
    .rw[hd,EO,hA]at e;split at e
     .cases e
     .rename_i hg;split at e
      .cases e
      .simp only[aaj,aaY]at e;obtain⟨rfl,rfl⟩:=e;apply hne;rw[d3]
       congr 1
       have hp:=Qw h9;have e1:c.tmod 128=((c.toNat:Nat):Int):=by rw[abd hcb.1];omega
       have hm:c.toNat*128 ^ n<18446744073709551616:=ah;have e2:((c.toNat:Nat):Int)*((128 ^ n:Nat):Int)=((c.toNat*128 ^ n:Nat):Int):=by rw[acB]
       have e3:IntKind.u64.wrap ((c.toNat:Nat):Int)=((c.toNat:Nat):Int):=wrap_u64 ah ah;unfold jF;rw[e1,e3,e2];generalize c.toNat*128 ^ n=m at hm d4;have e4:IntKind.u64.wrap (m:Int)=m:=wrap_u64 ah ah;rw[e4,wrap_u64 ah ah];omega
    .omega
  unfold aO;rw[hno];rfl
theorem oK.stop {bs:List Int} {n:Nat} {x p:Int} (h:oK bs n x p) (he:n=bs.length\/10<=n):aO bs=(0,0):=by
 obtain⟨hl,h⟩:=h;have:mg bs=Option.none:=by
  rcases h with ⟨h9,y,e,_⟩ | ⟨_,h⟩
  .rw[e,List.drop_of_length_le ah];rfl
  .exact h
 unfold aO;rw[this];rfl
theorem cV.RK {R:Hl} {x y l c:Int} {bs:List Int} [Decidable (x= -1)] (h:cV R (.slice (az x y) l.toNat c.toNat) bs) (hy:0<=y) (hl:0<=l) :
 (x= -1\/l=0\/0<=x/\0<=y/\bx R x.toNat y.toNat l.toNat=true)/\(if x= -1 then(⟨#[]⟩:ByteArray)else bytesOf (fg R x.toNat y.toNat l.toNat))=bytesOf bs:=by
 obtain⟨x',y',c',he,hy',h⟩:=h;simp only[Value.slice.injEq]at he;obtain⟨hp,he,_⟩:=he;rcases h with rfl | ⟨h0,h⟩
 .have e:l=0:=by
   have:=he;simp at this;omega
  subst e;refine⟨Or.inr (Or.inl rfl),?_⟩;split<;>rfl
 .obtain⟨rfl,rfl⟩:=qQ h0 hy' hy hp;refine⟨Or.inr (Or.inr ⟨h0,hy,cO h ah⟩),?_⟩;rw[aal ah,he,kE h]
def FJ:Sx.Spec where
 fn:=109
 own:=[]
 rd:=[0]
 res:=[.one (.int .u64),.one (.int .i64)]
 pre:=fun xs Hs Rs=>∃ (x y:Int) (c:Nat) (bs:List Int) (R:Hl),xs=[.slice (az x y) bs.length c]/\Rs=[R]/\cV R (.slice (az x y) bs.length c) bs/\0<=y/\bs.length<=c/\ak bs/\bs.length<=1000000
 post:=fun xs Hs Rs v Hs' F=>∃ (u:Value) (bs:List Int) (R:Hl),xs=[u]/\Rs=[R]/\cV R u bs/\v=.tuple #[.int .u64 ((aO bs).1:Nat),.int .i64 ((aO bs).2:Nat)]
def OX:List Sx.Spec:=[wx]
theorem Q2:∀ t∈OX,t.OK Tryz.prog:=fun t ht=>by
 simp only[OX,aas,aaA,abc]at ht;rw[ht];exact Fj
def Ae:aG Tryz.prog OX FJ.fn where
 Λ:=fun p=>if L9 p then some ⟨0,[(4,TI .u64 (.var 50)),(5,TI .u64 (.var 51)),(6,TI .i64 (.var 52))],[],60⟩else none
 args:=[.sv (.one (.sl (.var 0) (.var 1) (.var 2) (.var 3)))]
 mem:=[.ro 4 [.var 0] true]
 nv:=5
theorem Wb:wx.res=[.one .sl]:=rfl
theorem Yy (n:Nat):(aJ n [Cp.one .sl]≠[])=True:=by simp [aJ,Cp.roots,Ck.root]
theorem OU:FJ.OK Tryz.prog:=by
 refine Spec.aT (Γ:=OX) Q2 ?_;rintro xs Hs Rs hl1 hl2 ⟨x,y,c,bs,R,rfl,rfl,hRd,hy,hcap,hby,hlen⟩;have e0:Hs=[]:=aad.1 hl1;subst e0;refine⟨Ae,aM [x,y,bs.length,c] false [Hl.none,Hl.none,Hl.none,Hl.none,R],fun _ q=>∃ n:Nat,q.i 52=n/\oK bs n (q.i 50) (q.i 51),fun _ q=>(bs.length-q.i 52).toNat,?_,⟨?_,?_,?_,?_⟩,(fun _ h=>nomatch h),?_⟩
 .show [Value.slice (az x y) ((bs.length:Int)).toNat ((c:Int)).toNat]=_;rw[aaa,aaa]
 .intro r hr ho;simp [Ae]at hr;subst hr;cases ho
 .intro r hr ho;simp [Ae]at hr;subst hr;exact⟨R,aF,Hl.le_refl _⟩
 .simp [Ae]
 .intro r hr;simp [Ae]at hr;subst hr;trivial
 .refine aG.read [] [] [] ?_;generalize hρ:aM [x,y,bs.length,c] false [Hl.none,Hl.none,Hl.none,Hl.none,R]=J;have v0:J.i 0=x:=by rw[<-hρ];rfl
  have v1:J.i 1=y:=by rw[<-hρ];rfl
  have v2:J.i 2=bs.length:=by rw[<-hρ];rfl
  have v3:J.i 3=c:=by rw[<-hρ];rfl
  have w4:J.h 4=R:=by rw[<-hρ];rfl
  clear hρ;have out:∀ {q:Env} {mem:Mem} {e f:E} {a b:Nat},aO bs=(a,b)->aA q e=a->aA q f=b->postOf FJ [.slice (az x y) bs.length c] [] [R] q mem (.tup [.one (.int .u64 e),.one (.int .i64 f)]):=by
   intro q mem e f a b hn he hf _;refine⟨[],[],rfl,rfl,⟨(bc fun j=>[(a:Int),b].getD j 0),?_,trivial,trivial,trivial⟩,_,bs,R,rfl,rfl,hRd,?_⟩
   .show Value.tuple #[.int .u64 (aA q e),.int .i64 (aA q f)]=_;rw[he,hf];rfl
   .show Value.tuple #[.int .u64 (aA q e),.int .i64 (aA q f)]=_;rw[he,hf,hn]
  simp only[go_sem,Nat.reduceAdd,OX,Wb,Yy];refine⟨⟨0,rfl,oK.start bs⟩,fun q g ⟨n,en,hI⟩=>?_⟩;rw[g.i 0,g.i 1,g.i 2,g.i 3,g.h 4,v0,v1,v2,v3,w4,en];refine⟨ah,fun hlt=>⟨fun h10=>?_,fun h10=>out (hI.stop (Or.inr ah)) rfl rfl⟩,fun hge=>out (hI.stop (Or.inl (by have:=hI.1;omega))) rfl rfl⟩;have hnl:n<bs.length:=ah;have hcn:bs[n]?=some bs[n]:=aab hnl;have hx:0<=x/\∀ j z,bs[j]?=some z->R.cell x.toNat (y.toNat+j)=some (.int .u8 z):=by
   obtain⟨x',y',c',he,hy',hcells⟩:=id hRd;rcases hcells with h | ⟨h0,h⟩
   .rw[h]at hnl;cases hnl
   .simp only[Value.slice.injEq]at he;obtain⟨rfl,rfl⟩:=qQ h0 hy' hy he.1;exact⟨h0,h⟩
  obtain⟨hx0,hcell⟩:=hx;have hck:R.cell x.toNat (y+(n:Int)).toNat=some (.int .u8 bs[n]):=by rw[show(y+(n:Int)).toNat=y.toNat+n by omega];exact hcell _ _ hcn
  have wn:IntKind.i64.wrap ((n:Int)+1)=n+1:=IntWalk.i64_in _ ah;have hrem:∀ q':Env,ai 60 q q'->aA q' ((E.hI 4 (.var 0) ((E.var 1).add (.var 52)) 0).rem (.lit 128))=bs[n].tmod 128:=by
   intro q' hg;show(ck ((q'.h 4).cell (q'.i 0).toNat (q'.i 1+q'.i 52).toNat)).tmod 128=_;rw[hg.h 4,hg.i 0,hg.i 1,hg.i 52,g.h 4,g.i 0,g.i 1,v0,v1,w4,en,hck];rfl
  rw[hck,wn,hrem q (ai.refl _ _)];refine⟨hx0,hy,ah,rfl,fun h128=>?_,fun h128=>?_⟩
  .have h128:bs[n]<128:=h128;obtain⟨t1,t2,t3⟩:=hI.last hby ah hcn h128;have hTk:cV R (.slice (az x y) ((n:Int)+1).toNat ((n:Int)+1).toNat) (bs.take (n+1)):=by
    refine⟨x,y,n+1,?_,hy,Or.inr ⟨hx0,fun j z hz=>?_⟩⟩
    .rw[aaz,acD ah,show((n:Int)+1).toNat=n+1 by omega]
    .rw[aaX]at hz;split at hz
     .exact hcell _ _ hz
     .cases hz
   obtain⟨p1,p2⟩:=cV.RK hTk hy ah;refine⟨ah,ah,p1,⟨_,rfl,t3.1,t3.2⟩,fun q2 g2 ⟨F2,⟨z,ez,hO⟩,hF2,hn2⟩=>?_⟩;have ez:jF (q.i 50) (q.i 51) bs[n]=z:=by
    have h:Value.int .u64 (jF (q.i 50) (q.i 51) bs[n])=.int .u64 z:=(List.cons.inj ez).1;simpa using h
   subst ez;rw[<-hF2 trivial]at hO;have hn2:-1<=q2.i 60/\0<=q2.i 61/\0<=q2.i 62/\0<=q2.i 63:=hn2.1;obtain⟨s1,s2⟩:=cV.RK hO.rd.w hn2.2.1 hn2.2.2.1;have e2n:q2.i 52=n:=by rw[g2.i 52,en]
   have a0:q2.i 0=x:=by rw[g2.i 0,g.i 0,v0]
   have a1:q2.i 1=y:=by rw[g2.i 1,g.i 1,v1]
   have a4:q2.h 4=R:=by rw[g2.h 4,g.h 4,w4]
   rw[s2,e2n,wn,a0,a1,a4,p2];have hnb:ak (aj (jF (q.i 50) (q.i 51) bs[n]).toNat):=uN _;have htb:ak (bs.take (n+1)):=fun z hz=>hby z (abC hz);refine⟨s1,fun he=>out (t1 (Cm hnb htb he)) ?_ ?_,fun hne=>out (t2 fun e=>hne (aaQ bytesOf e)) rfl rfl⟩
   .show IntKind.u64.wrap (q2.i 50+IntKind.u64.wrap (IntKind.u64.wrap (aA q2 ((E.hI 4 (.var 0) ((E.var 1).add (.var 52)) 0).rem (.lit 128)))*q2.i 51))=_;rw[hrem q2 g2,g2.i 50,g2.i 51];show jF (q.i 50) (q.i 51) bs[n]=_;omega
   .show IntKind.i64.wrap (q2.i 52+1)=_;rw[e2n,wn];rfl
  .refine⟨⟨n+1,?_,?_⟩,?_⟩
   .show IntKind.i64.wrap (q.i 52+1)=_;rw[en,wn];rfl
   .show oK bs (n+1) (IntKind.u64.wrap (q.i 50+IntKind.u64.wrap (IntKind.u64.wrap (aA q ((E.hI 4 (.var 0) ((E.var 1).add (.var 52)) 0).rem (.lit 128)))*q.i 51))) (IntKind.u64.wrap (q.i 51*128));rw[hrem q (ai.refl _ _)];exact hI.more hby ah hcn h128
   .show((bs.length:Int)-IntKind.i64.wrap (q.i 52+1)).toNat<_;rw[en,wn];omega
theorem vj {bs:List Int} : (tx bs).2.2=true↔((aO bs).2=0\/(4096:Int)<(aO bs).1\/(bs.length:Int)-(aO bs).2<((aO bs).1:Int)):=by
 unfold tx aW;split
 .rename_i h;refine⟨fun _=>?_,fun _=>rfl⟩;simp only[aa2,ady]at h;omega
 .rename_i h;refine⟨fun e=>(by cases e),fun e=>absurd ?_ h⟩;simp only[aa2,ady];omega
theorem Dp {bs:List Int} (h:(tx bs).2.2=false):tx bs=((bs.drop (aO bs).2).take (aO bs).1,bs.drop ((aO bs).2+(aO bs).1),false):=by
 unfold tx aW at h ⊢;split
 .rename_i hc;rw[aax hc]at h;cases h
 .rfl
theorem JD {R:Hl} {x y:Int} {l c:Nat} {bs:List Int} (h:cV R (.slice (az x y) l c) bs) (hy:0<=y) (hne:bs.length≠0):-1<=x:=by
 obtain⟨x1,y1,c1,he,hy1,hc⟩:=h;simp only[Value.slice.injEq]at he;rcases hc with rfl | ⟨h1,hc⟩
 .exact absurd rfl hne
 .rw[(qQ h1 hy1 hy he.1).1];omega
def Bw:Value:=.agg #[.int .u8 1,.int .u64 4096,.slice none 0 0]
def KD:Sx.Spec where
 fn:=72
 own:=[]
 rd:=[3000000]
 res:=[.one (.int .u64),.one .slw,.one (.int .i64)]
 pre:=fun xs Hs Rs=>∃ (x y:Int) (c:Nat) (bs:List Int) (R:Hl),xs=[.slice (az x y) bs.length c,Bw]/\Rs=[R]/\cV R (.slice (az x y) bs.length c) bs/\0<=y/\bs.length<=c/\ak bs/\bs.length<=1000000
 post:=fun xs Hs Rs v Hs' F=>∃ (u:Value) (bs:List Int) (R:Hl) (t:Value) (n:Int),xs=[u,Bw]/\Rs=[R]/\cV R u bs/\v=.tuple #[.int .u64 0,t,.int .i64 n]/\((tx bs).2.2=true->n= -1)/\((tx bs).2.2=false->n=((aO bs).2+(aO bs).1:Nat)/\cV R t (tx bs).1)
def U8:List Sx.Spec:=[FJ]
theorem SJ:∀ t∈U8,t.OK Tryz.prog:=fun t ht=>by
 simp only[U8,aas,aaA,abc]at ht;rw[ht];exact OU
def MV:aG Tryz.prog U8 KD.fn where
 Λ:=aC
 args:=[.sv (.one (.sl (.var 0) (.var 1) (.var 2) (.var 3))),.sv (.agg [.int .u8 (.lit 1),.int .u64 (.lit 4096),.sl (.lit (-1)) (.lit 0) (.lit 0) (.lit 0)])]
 mem:=[.ro 4 [.var 0] true]
 nv:=5
theorem XE:FJ.res=[.one (.int .u64),.one (.int .i64)]:=rfl
theorem PN:KD.OK Tryz.prog:=by
 refine Spec.aT (Γ:=U8) SJ ?_;rintro xs Hs Rs hl1 hl2 ⟨x,y,c,bs,R,rfl,rfl,hRd,hy,hcap,hby,hlen⟩;have e0:Hs=[]:=aad.1 hl1;subst e0;refine⟨MV,aM [x,y,bs.length,c] false [Hl.none,Hl.none,Hl.none,Hl.none,R],fun _ _=>True,fun _ _=>0,?_,⟨?_,?_,?_,?_⟩,(fun _ h=>nomatch h),?_⟩
 .show [Value.slice (az x y) ((bs.length:Int)).toNat ((c:Int)).toNat,Bw]=_;rw[aaa,aaa]
 .intro r hr ho;simp [MV]at hr;subst hr;cases ho
 .intro r hr ho;simp [MV]at hr;subst hr;exact⟨R,aF,Hl.le_refl _⟩
 .simp [MV]
 .intro r hr;simp [MV]at hr;subst hr;trivial
 .refine aG.read [] [] [] ?_;generalize hρ:aM [x,y,bs.length,c] false [Hl.none,Hl.none,Hl.none,Hl.none,R]=J;have v0:J.i 0=x:=by rw[<-hρ];rfl
  have v1:J.i 1=y:=by rw[<-hρ];rfl
  have v2:J.i 2=bs.length:=by rw[<-hρ];rfl
  have v3:J.i 3=c:=by rw[<-hρ];rfl
  have w4:J.h 4=R:=by rw[<-hρ];rfl
  clear hρ;obtain⟨m1,m2⟩:=xx hby;have bad:∀ (q:Env) (mem:Mem),(tx bs).2.2=true->postOf KD [.slice (az x y) bs.length c,Bw] [] [R] q mem (.tup [.one (.int .u64 (.lit 0)),.one (.sl (.lit (-1)) (.lit 0) (.lit 0) (.lit 0)),.one (.int .i64 (.lit (-1)))]):=by
   intro q mem hb _;exact⟨[],[],rfl,rfl,⟨(bc fun j=>[0,-1,0,0,0,-1].getD j 0),rfl,trivial,⟨trivial,aap _,aap _,aap _⟩,trivial,trivial⟩,_,bs,R,.slice none 0 0,-1,rfl,rfl,hRd,rfl,fun _=>rfl,fun h=>by rw[hb]at h;cases h⟩
  simp only[go_sem,Nat.reduceAdd,U8,XE];intro q1 g1 p5;rw[g1.i 0,g1.i 1,g1.i 2,g1.i 3,g1.h 4,v0,v1,v2,v3,w4,aaa,aaa];refine⟨⟨x,y,c,bs,R,rfl,rfl,hRd,hy,hcap,hby,hlen⟩,fun q2 g2 ⟨F2,⟨u',bs',R',e1,e2,hR',hv⟩,_⟩=>?_⟩;simp only[aaf,aat]at e1 e2;subst e1 e2;obtain rfl:=hRd.uniq hR';simp only[Value.tuple.injEq,aaJ,aaf,Value.int.injEq,aaV,aat]at hv;obtain⟨h6,h7⟩:=hv;have G2:ai 5 J q2:=g1.tr g2;rw[h6,h7,G2.i 0,G2.i 1,G2.i 2,G2.i 3,v0,v1,v2,v3];refine⟨fun hn0=>⟨fun h4=>⟨ah,fun hlt=>bad _ _ (vj.2 ?_),fun hge=>?_⟩,fun h4=>bad _ _ (vj.2 (Or.inr (Or.inl h4)))⟩,fun hz=>bad _ _ (vj.2 (Or.inl ah))⟩
  .have e1:IntKind.i64.wrap ((bs.length:Int)-((aO bs).2:Nat))=(bs.length:Int)-((aO bs).2:Nat):=wrap_i64 ah ah;have e2:IntKind.u64.wrap ((bs.length:Int)-((aO bs).2:Nat))=(bs.length:Int)-((aO bs).2:Nat):=wrap_u64 ah ah;rw[e1,e2]at hlt;exact Or.inr (Or.inr hlt)
  .have e1:IntKind.i64.wrap ((bs.length:Int)-((aO bs).2:Nat))=(bs.length:Int)-((aO bs).2:Nat):=wrap_i64 ah ah;have e2:IntKind.u64.wrap ((bs.length:Int)-((aO bs).2:Nat))=(bs.length:Int)-((aO bs).2:Nat):=wrap_u64 ah ah;rw[e1,e2]at hge;have e3:IntKind.i64.wrap (((aO bs).1:Nat):Int)=((aO bs).1:Nat):=wrap_i64 ah ah;have e4:IntKind.i64.wrap ((((aO bs).2:Nat):Int)+((aO bs).1:Nat))=(((aO bs).2:Nat):Int)+((aO bs).1:Nat):=wrap_i64 ah ah;have hgood:(tx bs).2.2=false:=abm.2 fun h=>by
    rcases vj.1 h with h | h | h<;>omega
   rw[e3,e4];have hx:=JD hRd hy ah;refine⟨hx,hy,ah,ah,ah,fun _=>?_⟩;have a0:q2.i 0=x:=by rw[G2.i 0,v0]
   have a1:q2.i 1=y:=by rw[G2.i 1,v1]
   have a3:q2.i 3=c:=by rw[G2.i 3,v3]
   have hw:∀ q:Env,q.i 6=q2.i 6->q.i 7=q2.i 7->aA q (.wrap .i64 (.add (.var 7) (.wrap .i64 (.var 6))))=(((aO bs).2:Nat):Int)+((aO bs).1:Nat):=by
    intro q k6 k7;show IntKind.i64.wrap (q.i 7+IntKind.i64.wrap (q.i 6))=_;rw[k6,k7,h6,h7,e3,e4]
   generalize hy':(if c=(aO bs).2 then y else y+(((aO bs).2:Nat):Int))=y';have hev:(CV.sl (.var 0) (.ite (.eq (.var 3) (.var 7)) (.var 1) (.add (.var 1) (.var 7))) (.sub (.wrap .i64 (.add (.var 7) (.wrap .i64 (.var 6)))) (.var 7)) (.sub (.var 3) (.var 7))).ev q2=.slice (az x y') (aO bs).1 (c-(aO bs).2):=by
    have b1:aA q2 (.ite (.eq (.var 3) (.var 7)) (.var 1) (.add (.var 1) (.var 7)))=y':=by
     rw[dj,rW,al,al,al,bL,al,al,a1,a3,h7,<-hy'];by_cases hc:c=(aO bs).2
     .rw[aax hc,aax (by simp [hc])]
     .rw[aal hc,aal (by simp;omega)]
    have b2:aA q2 (.sub (.wrap .i64 (.add (.var 7) (.wrap .i64 (.var 6)))) (.var 7))=((aO bs).1:Nat):=by
     rw[dm,hw q2 rfl rfl,al,h7];omega
    have b3:aA q2 (.sub (.var 3) (.var 7))=(c:Int)-((aO bs).2:Nat):=by rw[dm,al,al,a3,h7]
    show Value.slice (az (aA q2 (.var 0)) (aA q2 _)) (aA q2 _).toNat (aA q2 _).toNat=_;rw[b1,b2,b3,al,a0,aaa,show((c:Int)-((aO bs).2:Nat)).toNat=c-(aO bs).2 by omega]
   have hy0:0<=y':=by rw[<-hy'];split<;>omega
   have htx:=Dp hgood;have hlen1:((bs.drop (aO bs).2).take (aO bs).1).length=(aO bs).1:=by rw[aaz,aaF];omega
   have hR1:cV R (.slice (az x y') (aO bs).1 (c-(aO bs).2)) (tx bs).1:=by
    rw[htx];refine⟨x,y',c-(aO bs).2,by rw[hlen1],hy0,?_⟩;obtain⟨x2,y2,c2,he,hy2,hcells⟩:=id hRd;rcases abR (aO bs).1 with hz | hpos
    .exact Or.inl (by rw[hz];rfl)
    .rcases hcells with h | ⟨h0,h⟩
     .have hl0:bs.length=0:=by rw[h];rfl
      omega
     .simp only[Value.slice.injEq]at he;obtain⟨rfl,rfl⟩:=qQ h0 hy2 hy he.1;refine Or.inr ⟨h0,fun j z hz=>?_⟩;rw[aaX]at hz;split at hz
      .rw[aaW]at hz;rw[<-hy',aal ah,show(y+(((aO bs).2:Nat):Int)).toNat+j=y.toNat+((aO bs).2+j)by omega];exact h _ _ hz
      .cases hz
   refine⟨[],[],rfl,rfl,⟨(bc fun j=>[0,x,y',(aO bs).1,(c:Int)-(aO bs).2,(((aO bs).2:Nat):Int)+((aO bs).1:Nat)].getD j 0),?_,trivial,⟨trivial,hy0,by show(0:Int)<=((aO bs).1:Nat);omega,by show(0:Int)<=(c:Int)-((aO bs).2:Nat);omega⟩,trivial,trivial⟩,_,bs,R,.slice (az x y') (aO bs).1 (c-(aO bs).2),(((aO bs).2:Nat):Int)+((aO bs).1:Nat),rfl,rfl,hRd,?_,fun h=>(by rw[hgood]at h;cases h),fun _=>⟨ah,hR1⟩⟩
   .show Value.tuple #[.int .u64 0,(CV.sl _ _ _ _).ev q2,.int .i64 (aA q2 _)]=Value.tuple #[.int .u64 0,.slice (az x y') (((aO bs).1:Nat):Int).toNat ((c:Int)-((aO bs).2:Nat)).toNat,.int .i64 _];rw[hev,hw q2 rfl rfl,aaa,show((c:Int)-((aO bs).2:Nat)).toNat=c-(aO bs).2 by omega];rfl
   .show Value.tuple #[.int .u64 0,(CV.sl _ _ _ _).ev q2,.int .i64 (aA q2 _)]=_;rw[hev,hw q2 rfl rfl]
structure PS where
 l:List Int
 bad:Bool
def mG (m:Int) (s:PS):PS:=⟨(nf s.l s.bad m).2.1,(nf s.l s.bad m).2.2⟩
def aQ (m:Int) (s:PS):Int:=(nf s.l s.bad m).1
def qZ (n:Int) (s:PS):PS:=⟨(lZ s.l s.bad n).2.1,(lZ s.l s.bad n).2.2⟩
def cC (n:Int) (s:PS):List Int:=(lZ s.l s.bad n).1
def tJ (s:PS):PS:=⟨(jL s.l s.bad).2.1,(jL s.l s.bad).2.2⟩
def iZ (s:PS):Bool:=(jL s.l s.bad).1
def dv (n:Nat) (l:List Int):List Int:=(List.range n).map fun j=>l.getD j 0
theorem di (n:Nat) (l:List Int):(dv n l).length=n:=by unfold dv;simp
theorem mi {n:Nat} {l:List Int} (h:l.length=n):dv n l=l:=by
 apply aaL;intro j;unfold dv;rw[aao];by_cases hj:j<n
 .rw[aaD hj,aaN,aan,aab ah];rfl
 .rw[aaq (by simp;omega),aaq ah];rfl
section
variable {s:PS}
theorem wW {m:Int} (hb:ak s.l) (h:(mG m s).bad=false):s.bad=false/\s.l=aj (aQ m s).toNat++(mG m s).l/\0<=aQ m s/\aQ m s<=m/\aQ m s<18446744073709551616:=by
 unfold mG aQ nf at *;split at h
 .cases h
 .rename_i hc;rw[aal hc];have h1:s.bad=false:=by
   cases hs:s.bad
   .rfl
   .exact absurd (Or.inl hs) hc
  have h2:(aO s.l).2≠0:=fun e=>hc (Or.inr (Or.inl e));have h3:¬m<((aO s.l).1:Int):=fun e=>hc (Or.inr (Or.inr e));cases hn:mg s.l with
  | none=>unfold aO at h2;rw[hn]at h2;exact absurd rfl h2
  | some r =>
   obtain⟨x,k⟩:=r;obtain⟨_,_,h6,h7⟩:=uM hb hn;have e:aO s.l=(x,k):=by unfold aO;rw[hn];rfl
   rw[e]at h3 ⊢;refine⟨h1,?_,by show(0:Int)<=(x:Int);omega,by show(x:Int)<=m;simp only at h3;omega,by show(x:Int)<_;omega⟩;show s.l=aj ((x:Int)).toNat++s.l.drop k;rw[aaa,<-h6,ack]
theorem Of {n:Int} (h:(qZ n s).bad=false):s.bad=false/\s.l=cC n s++(qZ n s).l/\(cC n s).length=n.toNat:=by
 unfold qZ cC lZ at *;split at h
 .cases h
 .rename_i hc;rw[aal hc];have h1:s.bad=false:=by
   cases hs:s.bad
   .rfl
   .exact absurd (Or.inl hs) hc
  have h2:¬(s.l.length:Int)<n:=fun e=>hc (Or.inr (Or.inr e));exact⟨h1,(ack _ _).symm,by show(s.l.take n.toNat).length=_;rw[aaz];omega⟩
theorem U2 (h:(tJ s).bad=false) (hb:ak s.l):s.bad=false/\s.l=cW (iZ s)++(tJ s).l:=by
 unfold tJ iZ jL at *;split at h
 .cases h
 .rename_i hc;rw[aal hc];have h1:s.bad=false:=by
   cases hs:s.bad
   .rfl
   .exact absurd (Or.inl hs) hc
  have h2:s.l≠[]:=fun e=>hc (Or.inr (Or.inl e));have h3:¬1<s.l.getD 0 0:=fun e=>hc (Or.inr (Or.inr e));refine⟨h1,?_⟩;cases hl:s.l with
  | nil=>exact absurd hl h2
  | cons x t =>
   rw[hl]at h3;have hx:=hb x (by rw[hl];exact aaH ..);have h3:¬1<x:=h3;show x::t=cW (decide (x=1))++t;unfold cW;have:x=0\/x=1:=ah;rcases this with rfl | rfl<;>rfl
theorem VC {m:Int} {z:Nat} {t:List Int} (h1:(z:Int)<=m) (h2:z<18446744073709551616):mG m ⟨aj z++t,false⟩=⟨t,false⟩/\aQ m ⟨aj z++t,false⟩=z:=by
 have e:aO (aj z++t)=(z,(aj z).length):=by unfold aO;rw[np h2];rfl
 have hp:=zk z;have hc:¬((false:Bool)=true\/(aO (aj z++t)).2=0\/m<((aO (aj z++t)).1:Int)):=by
  rw[e];rintro(x | x | x)
  .cases x
  .simp only at x;omega
  .simp only at x;omega
 unfold mG aQ nf;rw[aal hc,e];refine⟨?_,rfl⟩;show PS.mk ((aj z++t).drop (aj z).length) false=_;rw[List.drop_left]
theorem RF {n:Int} {l t:List Int} (h:(l.length:Int)=n):qZ n ⟨l++t,false⟩=⟨t,false⟩/\cC n ⟨l++t,false⟩=l:=by
 have hc:¬((false:Bool)=true\/n<0\/((l++t).length:Int)<n):=by
  rw[aac];rintro(x | x | x)
  .cases x
  .omega
  .omega
 have hn:n.toNat=l.length:=ah;unfold qZ cC lZ;rw[aal hc,hn];refine⟨?_,?_⟩
 .show PS.mk ((l++t).drop l.length) false=_;rw[List.drop_left]
 .show(l++t).take l.length=_;rw[acM]
theorem SE {b:Bool} {t:List Int} : tJ ⟨cW b++t,false⟩=⟨t,false⟩/\iZ ⟨cW b++t,false⟩=b:=by
 cases b
 .exact⟨rfl,rfl⟩
 .exact⟨rfl,rfl⟩
theorem cR {m:Int} (hb:ak s.l):ak (mG m s).l:=by
 unfold mG nf;split
 .exact hb
 .exact gI hb _
theorem ox {n:Int} (hb:ak s.l):ak (qZ n s).l:=by
 unfold qZ lZ;split
 .exact hb
 .exact gI hb _
theorem Cw (hb:ak s.l):ak (tJ s).l:=by
 unfold tJ jL;split
 .exact hb
 .exact gI hb _
theorem qS {m:Int} (hm:0<=m):0<=aQ m s/\aQ m s<=m:=by
 unfold aQ nf;split
 .exact⟨aap _,hm⟩
 .rename_i hc;have h3:¬m<((aO s.l).1:Int):=fun e=>hc (Or.inr (Or.inr e));exact⟨by show(0:Int)<=((aO s.l).1:Int);omega,by show((aO s.l).1:Int)<=m;omega⟩
theorem uo {n:Int} (hb:ak s.l):ak (cC n s):=by
 unfold cC lZ;split
 .exact fun b h=>by cases h
 .exact fun b h=>hb b (abC h)
theorem zD {n:Nat} {l:List Int} (h:ak l):ak (dv n l):=by
 intro b hb;unfold dv at hb;obtain⟨j,_,rfl⟩:=aaS.1 hb;rw[aan];cases hj:l[j]? with
 | none=>exact⟨aap _,aB⟩
 | some z=>exact h z (aae hj)
end
def fu:Nat->PS->List (List Int)×PS
 | 0,s=>([],s)
 | k+1,s=>((fu k s).1++[dv 16 (cC 16 (fu k s).2)],qZ 16 (fu k s).2)
theorem RN:∀ (k:Nat) (s:PS),(fu k s).2.bad=false->s.bad=false/\s.l=(fu k s).1.flatten++(fu k s).2.l
 | 0,s,h=>⟨h,rfl⟩
 | k+1,s,h=>by
  obtain⟨h1,h2,h3⟩:=Of (s:=(fu k s).2) h;obtain⟨h4,h5⟩:=RN k s h1;refine⟨h4,?_⟩;show s.l=((fu k s).1++[dv 16 (cC 16 (fu k s).2)]).flatten++(qZ 16 (fu k s).2).l;rw[mi (n:=16) h3,aca,abo,abP,aa8,aaw,<-h2];exact h5
theorem OY:∀ (T:List (List Int)) (k:Nat),k<=T.length->(∀ t∈T,t.length=16)->∀ t,fu k ⟨T.flatten++t,false⟩=(T.take k,⟨(T.drop k).flatten++t,false⟩)
 | T,0,_,_,t=>rfl
 | T,k+1,hk,hT,t=>by
  have ih:=OY T k ah hT t;have hx:=aab (show k<T.length by omega);have hl:=hT _ (aae hx);have e:(T.drop k).flatten++t=T[k]++((T.drop (k+1)).flatten++t):=by
   rw[ab5 ah,abo,aaw]
  obtain⟨r1,r2⟩:=RF (n:=16) (l:=T[k]) (t:=(T.drop (k+1)).flatten++t) ah;show((fu k _).1++[dv 16 (cC 16 (fu k _).2)],qZ 16 (fu k _).2)=_;rw[ih,e,r1,r2,mi hl,abv,hx];rfl
theorem uh:∀ (k:Nat) (s:PS),(fu k s).1.length=k
 | 0,_=>rfl
 | k+1,s=>by
  show((fu k s).1++[_]).length=_;rw[aac,uh k s];rfl
theorem xH:∀ (k:Nat) (s:PS),ak s.l->(∀ t∈(fu k s).1,t.length=16/\ak t)/\ak (fu k s).2.l
 | 0,s,h=>⟨fun t ht=>(by cases ht),h⟩
 | k+1,s,h=>by
  obtain⟨h1,h2⟩:=xH k s h;refine⟨fun t ht=>?_,ox h2⟩;rcases aaR.1 ht with ht | ht
  .exact h1 t ht
  .rw[aam]at ht;subst ht;exact⟨di _ _,zD (uo h2)⟩
def p0 (b:List Int):PS:=⟨b,false⟩
def p1 (b:List Int):PS:=mG 6 (p0 b)
def p2 (b:List Int):PS:=mG 1048576 (p1 b)
def p3 (b:List Int):PS:=qZ 32 (p2 b)
def p4 (b:List Int):PS:=mG 255 (p3 b)
def p5 (b:List Int):PS:=tJ (p4 b)
def p6 (b:List Int):PS:=mG 1099511627776 (p5 b)
def p7 (b:List Int):PS:=qZ 16 (p6 b)
def p8 (b:List Int):PS:=mG 8 (p7 b)
def hN (b:List Int):Nat:=(aQ 8 (p7 b)).toNat
def hT (b:List Int):List (List Int):=(fu (hN b) (p8 b)).1
def k0 (b:List Int):PS:=(fu (hN b) (p8 b)).2
def k1 (b:List Int):PS:=mG 1048576 (k0 b)
def k2 (b:List Int):PS:=mG 1048576 (k1 b)
def k3 (b:List Int):PS:=mG 1048576 (k2 b)
def k4 (b:List Int):PS:=mG 1048576 (k3 b)
def k5 (b:List Int):PS:=mG 1048576 (k4 b)
def k6 (b:List Int):PS:=mG 1048576 (k5 b)
def uv (b:List Int):PS:=qZ 32 (k6 b)
def uP (b:List Int):PS:=mG 2064 (uv b)
def Lh (b:List Int):PS:=qZ 32 (uP b)
def fV (b:List Int) (u:Value):List Value :=
 [.int .i64 (aQ 6 (p0 b)),.int .u64 (aQ 1048576 (p1 b))]++aS (dv 32 (cC 32 (p2 b)))++[.int .i64 (aQ 255 (p3 b)),.bool (iZ (p4 b)),.int .u64 (aQ 1099511627776 (p5 b))]++aS (dv 16 (cC 16 (p6 b)))++[u] ++
 [.int .u64 (aQ 1048576 (k0 b)),.int .u64 (aQ 1048576 (k1 b)),.int .u64 (aQ 1048576 (k2 b)),.int .u64 (aQ 1048576 (k3 b)),.int .u64 (aQ 1048576 (k4 b)),.int .u64 (aQ 1048576 (k5 b))]++aS (dv 32 (cC 32 (k6 b)))++[.int .i64 (aQ 2064 (uv b))]++aS (dv 32 (cC 32 (uP b)))
theorem nC {A C:List Value} {B:List Int} {a n:Nat} (ha:A.length=a) (hn:B.length=n):aU (A++aS B++C) a n=B:=by
 subst ha hn;apply aaL;intro j;unfold aU;rw[aao];by_cases hj:j<B.length
 .rw[aaD hj,aaN,aab hj];unfold cI aS;rw[aaG (by rw[aac,aaB];omega),aau ah,show A.length+j-A.length=j by omega,aao,aab hj];rfl
 .rw[aaq (by simp;omega),aaq ah];rfl
def lI (b:List Int):Hd:=⟨fV b (.bool false),hT b⟩
section
variable (b:List Int)
theorem Zb:cI (lI b).c 0=aQ 6 (p0 b):=rfl
theorem Zc:cI (lI b).c 1=aQ 1048576 (p1 b):=rfl
theorem Zd:aU (lI b).c 2 32=dv 32 (cC 32 (p2 b)):=by
 have e:(lI b).c=([Value.int .i64 (aQ 6 (p0 b)),.int .u64 (aQ 1048576 (p1 b))])++aS (dv 32 (cC 32 (p2 b)))++([Value.int .i64 (aQ 255 (p3 b)),.bool (iZ (p4 b)),.int .u64 (aQ 1099511627776 (p5 b))]++(aS (dv 16 (cC 16 (p6 b)))++([Value.bool false]++([Value.int .u64 (aQ 1048576 (k0 b)),.int .u64 (aQ 1048576 (k1 b)),.int .u64 (aQ 1048576 (k2 b)),.int .u64 (aQ 1048576 (k3 b)),.int .u64 (aQ 1048576 (k4 b)),.int .u64 (aQ 1048576 (k5 b))]++(aS (dv 32 (cC 32 (k6 b)))++([Value.int .i64 (aQ 2064 (uv b))]++(aS (dv 32 (cC 32 (uP b)))))))))):=by
  show fV b (.bool false)=_;unfold fV;simp only[aaw,aa8]
 rw[e];exact nC (by simp [di,aS]) (di _ _)
theorem Uy:cI (lI b).c 34=aQ 255 (p3 b):=rfl
theorem Uz:cB (lI b).c 35=iZ (p4 b):=rfl
theorem UA:cI (lI b).c 36=aQ 1099511627776 (p5 b):=rfl
theorem UB:aU (lI b).c 37 16=dv 16 (cC 16 (p6 b)):=by
 have e:(lI b).c=([Value.int .i64 (aQ 6 (p0 b)),.int .u64 (aQ 1048576 (p1 b))]++aS (dv 32 (cC 32 (p2 b)))++[Value.int .i64 (aQ 255 (p3 b)),.bool (iZ (p4 b)),.int .u64 (aQ 1099511627776 (p5 b))])++aS (dv 16 (cC 16 (p6 b)))++([Value.bool false]++([Value.int .u64 (aQ 1048576 (k0 b)),.int .u64 (aQ 1048576 (k1 b)),.int .u64 (aQ 1048576 (k2 b)),.int .u64 (aQ 1048576 (k3 b)),.int .u64 (aQ 1048576 (k4 b)),.int .u64 (aQ 1048576 (k5 b))]++(aS (dv 32 (cC 32 (k6 b)))++([Value.int .i64 (aQ 2064 (uv b))]++(aS (dv 32 (cC 32 (uP b)))))))):=by
  show fV b (.bool false)=_;unfold fV;simp only[aaw,aa8]
 rw[e];exact nC (by simp [di,aS]) (di _ _)
theorem UC:cI (lI b).c 54=aQ 1048576 (k0 b):=rfl
theorem UD:cI (lI b).c 55=aQ 1048576 (k1 b):=rfl
theorem UE:cI (lI b).c 56=aQ 1048576 (k2 b):=rfl
theorem UF:cI (lI b).c 57=aQ 1048576 (k3 b):=rfl
theorem UG:cI (lI b).c 58=aQ 1048576 (k4 b):=rfl
theorem UH:cI (lI b).c 59=aQ 1048576 (k5 b):=rfl
theorem Xq:aU (lI b).c 60 32=dv 32 (cC 32 (k6 b)):=by
 have e:(lI b).c=([Value.int .i64 (aQ 6 (p0 b)),.int .u64 (aQ 1048576 (p1 b))]++aS (dv 32 (cC 32 (p2 b)))++[Value.int .i64 (aQ 255 (p3 b)),.bool (iZ (p4 b)),.int .u64 (aQ 1099511627776 (p5 b))]++aS (dv 16 (cC 16 (p6 b)))++[Value.bool false]++[Value.int .u64 (aQ 1048576 (k0 b)),.int .u64 (aQ 1048576 (k1 b)),.int .u64 (aQ 1048576 (k2 b)),.int .u64 (aQ 1048576 (k3 b)),.int .u64 (aQ 1048576 (k4 b)),.int .u64 (aQ 1048576 (k5 b))])++aS (dv 32 (cC 32 (k6 b)))++([Value.int .i64 (aQ 2064 (uv b))]++(aS (dv 32 (cC 32 (uP b))))):=by
  show fV b (.bool false)=_;unfold fV;simp only[aaw,aa8]
 rw[e];exact nC (by simp [di,aS]) (di _ _)
theorem UI:cI (lI b).c 92=aQ 2064 (uv b):=rfl
theorem Xr:aU (lI b).c 93 32=dv 32 (cC 32 (uP b)):=by
 have e:(lI b).c=([Value.int .i64 (aQ 6 (p0 b)),.int .u64 (aQ 1048576 (p1 b))]++aS (dv 32 (cC 32 (p2 b)))++[Value.int .i64 (aQ 255 (p3 b)),.bool (iZ (p4 b)),.int .u64 (aQ 1099511627776 (p5 b))]++aS (dv 16 (cC 16 (p6 b)))++[Value.bool false]++[Value.int .u64 (aQ 1048576 (k0 b)),.int .u64 (aQ 1048576 (k1 b)),.int .u64 (aQ 1048576 (k2 b)),.int .u64 (aQ 1048576 (k3 b)),.int .u64 (aQ 1048576 (k4 b)),.int .u64 (aQ 1048576 (k5 b))]++aS (dv 32 (cC 32 (k6 b)))++[Value.int .i64 (aQ 2064 (uv b))])++aS (dv 32 (cC 32 (uP b)))++([]):=by
  show fV b (.bool false)=_;unfold fV;simp only[aaw,aa8]
 rw[e];exact nC (by simp [di,aS]) (di _ _)
end
theorem nG {z:Int} (h0:0<=z) (h1:z<18446744073709551616):bC z=z.toNat:=by unfold bC;rw[nL h0 h1]
theorem XN {b:List Int} (hb:ak b) (h:(Lh b).bad=false) (hl:(Lh b).l=[]):rD (lI b)=b:=by
 have b0:ak (p0 b).l:=hb;have b1:ak (p1 b).l:=cR b0;have b2:ak (p2 b).l:=cR b1;have b3:ak (p3 b).l:=ox b2;have b4:ak (p4 b).l:=cR b3;have b5:ak (p5 b).l:=Cw b4;have b6:ak (p6 b).l:=cR b5;have b7:ak (p7 b).l:=ox b6;have b8:ak (p8 b).l:=cR b7;have d0:ak (k0 b).l:=(xH _ _ b8).2;have d1:ak (k1 b).l:=cR d0;have d2:ak (k2 b).l:=cR d1;have d3:ak (k3 b).l:=cR d2;have d4:ak (k4 b).l:=cR d3;have d5:ak (k5 b).l:=cR d4;have d6:ak (k6 b).l:=cR d5;have b15:ak (uv b).l:=ox d6;obtain⟨h16,e17,n17⟩:=Of (s:=uP b) (n:=32) h;obtain⟨h15,e16,x16,y16,_⟩:=wW (s:=uv b) (m:=2064) b15 h16;obtain⟨g6,e15,n15⟩:=Of (s:=k6 b) (n:=32) h15;obtain⟨g5,f6,_⟩:=wW (s:=k5 b) (m:=1048576) d5 g6;obtain⟨g4,f5,_⟩:=wW (s:=k4 b) (m:=1048576) d4 g5;obtain⟨g3,f4,_⟩:=wW (s:=k3 b) (m:=1048576) d3 g4;obtain⟨g2,f3,_⟩:=wW (s:=k2 b) (m:=1048576) d2 g3;obtain⟨g1,f2,_⟩:=wW (s:=k1 b) (m:=1048576) d1 g2;obtain⟨g0,f1,_⟩:=wW (s:=k0 b) (m:=1048576) d0 g1;obtain⟨h8,f0⟩:=RN (hN b) (p8 b) g0;obtain⟨h7,e8,x8,y8,_⟩:=wW (s:=p7 b) (m:=8) b7 h8;obtain⟨h6,e7,n7⟩:=Of (s:=p6 b) (n:=16) h7;obtain⟨h5,e6,_⟩:=wW (s:=p5 b) (m:=1099511627776) b5 h6;obtain⟨h4,e5⟩:=U2 (s:=p4 b) h5 b4;obtain⟨h3,e4,x4,y4,_⟩:=wW (s:=p3 b) (m:=255) b3 h4;obtain⟨h2,e3,n3⟩:=Of (s:=p2 b) (n:=32) h3;obtain⟨h1,e2,_⟩:=wW (s:=p1 b) (m:=1048576) b1 h2;obtain⟨_,e1,x1,y1,_⟩:=wW (s:=p0 b) (m:=6) b0 h1;have e17:(uP b).l=cC 32 (uP b):=by rw[e17];show _++(Lh b).l=_;rw[hl,aa8]
 have e1:b=_++(p1 b).l:=e1;have e2:(p1 b).l=_++(p2 b).l:=e2;have e3:(p2 b).l=_++(p3 b).l:=e3;have e4:(p3 b).l=_++(p4 b).l:=e4;have e5:(p4 b).l=_++(p5 b).l:=e5;have e6:(p5 b).l=_++(p6 b).l:=e6;have e7:(p6 b).l=_++(p7 b).l:=e7;have e8:(p7 b).l=aj (hN b)++(p8 b).l:=e8;have f0:(p8 b).l=(hT b).flatten++(k0 b).l:=f0;have f1:(k0 b).l=_++(k1 b).l:=f1;have f2:(k1 b).l=_++(k2 b).l:=f2;have f3:(k2 b).l=_++(k3 b).l:=f3;have f4:(k3 b).l=_++(k4 b).l:=f4;have f5:(k4 b).l=_++(k5 b).l:=f5;have f6:(k5 b).l=_++(k6 b).l:=f6;have e15:(k6 b).l=_++(uv b).l:=e15;have e16:(uv b).l=_++(uP b).l:=e16;have hlen:(hT b).length=hN b:=uh _ _;have key:rD (lI b)=aj (aQ 6 (p0 b)).toNat++(aj (aQ 1048576 (p1 b)).toNat++(cC 32 (p2 b)++(aj (aQ 255 (p3 b)).toNat++(cW (iZ (p4 b))++(aj (aQ 1099511627776 (p5 b)).toNat++(cC 16 (p6 b)++(aj (hN b)++((hT b).flatten++(aj (aQ 1048576 (k0 b)).toNat++(aj (aQ 1048576 (k1 b)).toNat++(aj (aQ 1048576 (k2 b)).toNat++(aj (aQ 1048576 (k3 b)).toNat++(aj (aQ 1048576 (k4 b)).toNat++(aj (aQ 1048576 (k5 b)).toNat++(cC 32 (k6 b)++(aj (aQ 2064 (uv b)).toNat++cC 32 (uP b))))))))))))))))):=by
  unfold rD kH oM bh;show _++aj (hT b).length++(hT b).flatten++_++_++_++_++_++_++_++_++_=_;rw[hlen,Zb,Zc,Zd,Uy,Uz,UA,UB,UC,UD,UE,UF,UG,UH,Xq,UI,Xr,nG x1 ah,nG x4 ah,nG x16 ah,mi (n:=32) n3,mi (n:=16) n7,mi (n:=32) n15,mi (n:=32) n17];simp only[aaw]
 rw[key,<-e17,<-e16,<-e15,<-f6,<-f5,<-f4,<-f3,<-f2,<-f1,<-f0,<-e8,<-e7,<-e6,<-e5,<-e4,<-e3,<-e2,<-e1]
section
variable {s:PS} {t:List Int}
theorem oT {m:Int} {z:Nat} (hs:s=⟨aj z++t,false⟩) (h1:(z:Int)<=m) (h2:z<18446744073709551616):mG m s=⟨t,false⟩/\aQ m s=z:=by
 subst hs;exact VC h1 h2
theorem Jz {n:Int} {l:List Int} (hs:s=⟨l++t,false⟩) (h:(l.length:Int)=n):qZ n s=⟨t,false⟩/\cC n s=l:=by
 subst hs;exact RF h
theorem SG {b:Bool} (hs:s=⟨cW b++t,false⟩):tJ s=⟨t,false⟩/\iZ s=b:=by
 subst hs;exact SE
theorem Uf {T:List (List Int)} (hs:s=⟨T.flatten++t,false⟩) (hT:∀ x∈T,x.length=16):fu T.length s=(T,⟨t,false⟩):=by
 subst hs;rw[OY T T.length (aav _) hT,abh,List.drop_length,abP,abu]
end
theorem Kb {a b:List Value} {i n:Nat} (h:aU a i n=aU b i n):sG (cI a) i n↔sG (cI b) i n:=by
 refine vo fun j hj=>?_;have:=aaQ (fun l=>l[j]?) h;unfold aU at this;simpa [aao,aaD hj] using this
theorem XO {R:Hl} {row:List Value} {h:Hd} (hx:bN R row h) (hF:h.Form):(Lh (rD h)).bad=false/\(Lh (rD h)).l=[]/\(lI (rD h)).Form:=by
 obtain⟨⟨hw,hs,he,ht,hk,hkn,hp⟩,h8,hso,hpd,hct⟩:=id hF;have u:∀ {k:Nat},dZ[k]?=some (.int .u64)->k≠53->0<=cI h.c k:=fun {k} hk h53=>by
  rw[hx.I h53];exact(hx.rng _ (aae (tW hx.ok hk))).1
 have u1:0<=cI h.c 1:=u rfl aB;have u36:0<=cI h.c 36:=u rfl aB;have u54:0<=cI h.c 54:=u rfl aB;have u55:0<=cI h.c 55:=u rfl aB;have u56:0<=cI h.c 56:=u rfl aB;have u57:0<=cI h.c 57:=u rfl aB;have u58:0<=cI h.c 58:=u rfl aB;have u59:0<=cI h.c 59:=u rfl aB;have hsz:80<=cI h.c 92/\cI h.c 92<=2064:=tz hpd;have ht16:∀ t∈h.t,t.length=16:=fun t ht=>(hx.byte.2 t ht).1;generalize hb:rD h=b;have key:b=aj (cI h.c 0).toNat++(aj (cI h.c 1).toNat++(aU h.c 2 32++(aj (cI h.c 34).toNat++(cW (cB h.c 35)++(aj (cI h.c 36).toNat++(aU h.c 37 16++(aj h.t.length++(h.t.flatten++(aj (cI h.c 54).toNat++(aj (cI h.c 55).toNat++(aj (cI h.c 56).toNat++(aj (cI h.c 57).toNat++(aj (cI h.c 58).toNat++(aj (cI h.c 59).toNat++(aU h.c 60 32++(aj (cI h.c 92).toNat++(aU h.c 93 32++([])))))))))))))))))):=by
  rw[<-hb];unfold rD kH oM bh;rw[nG (z:=cI h.c 0) ah ah,nG (z:=cI h.c 34) ah ah,nG (z:=cI h.c 92) ah ah];simp only[aaw,aa8]
 have s0:p0 b=⟨_,false⟩:=aaQ (fun l=>PS.mk l false) key;obtain⟨s1,v1⟩:=oT (m:=6) (z:=(cI h.c 0).toNat) s0 ah ah;have s1:p1 b=⟨_,false⟩:=s1;obtain⟨s2,v2⟩:=oT (m:=1048576) (z:=(cI h.c 1).toNat) s1 ah ah;have s2:p2 b=⟨_,false⟩:=s2;obtain⟨s3,v3⟩:=Jz (n:=32) (l:=aU h.c 2 32) s2 (by rw[aK];rfl);have s3:p3 b=⟨_,false⟩:=s3;obtain⟨s4,v4⟩:=oT (m:=255) (z:=(cI h.c 34).toNat) s3 ah ah;have s4:p4 b=⟨_,false⟩:=s4;obtain⟨s5,v5⟩:=SG s4;have s5:p5 b=⟨_,false⟩:=s5;obtain⟨s6,v6⟩:=oT (m:=1099511627776) (z:=(cI h.c 36).toNat) s5 ah ah;have s6:p6 b=⟨_,false⟩:=s6;obtain⟨s7,v7⟩:=Jz (n:=16) (l:=aU h.c 37 16) s6 (by rw[aK];rfl);have s7:p7 b=⟨_,false⟩:=s7;obtain⟨s8,v8⟩:=oT (m:=8) (z:=h.t.length) s7 ah ah;have s8:p8 b=⟨_,false⟩:=s8;have vN:hN b=h.t.length:=by unfold hN;rw[v8];exact aaa _
 have sT:=Uf s8 ht16;rw[<-vN]at sT;have s9:(fu (hN b) (p8 b)).2=⟨_,false⟩:=aaQ Prod.snd sT;have vT:hT b=h.t:=aaQ Prod.fst sT;have s9:k0 b=⟨_,false⟩:=s9;obtain⟨s10,v10⟩:=oT (m:=1048576) (z:=(cI h.c 54).toNat) s9 ah ah;have s10:k1 b=⟨_,false⟩:=s10;obtain⟨s11,v11⟩:=oT (m:=1048576) (z:=(cI h.c 55).toNat) s10 ah ah;have s11:k2 b=⟨_,false⟩:=s11;obtain⟨s12,v12⟩:=oT (m:=1048576) (z:=(cI h.c 56).toNat) s11 ah ah;have s12:k3 b=⟨_,false⟩:=s12;obtain⟨s13,v13⟩:=oT (m:=1048576) (z:=(cI h.c 57).toNat) s12 ah ah;have s13:k4 b=⟨_,false⟩:=s13;obtain⟨s14,v14⟩:=oT (m:=1048576) (z:=(cI h.c 58).toNat) s13 ah ah;have s14:k5 b=⟨_,false⟩:=s14;obtain⟨s15,v15⟩:=oT (m:=1048576) (z:=(cI h.c 59).toNat) s14 ah ah;have s15:k6 b=⟨_,false⟩:=s15;obtain⟨s16,v16⟩:=Jz (n:=32) (l:=aU h.c 60 32) s15 (by rw[aK];rfl);have s16:uv b=⟨_,false⟩:=s16;obtain⟨s17,v17⟩:=oT (m:=2064) (z:=(cI h.c 92).toNat) s16 ah ah;have s17:uP b=⟨_,false⟩:=s17;obtain⟨s18,v18⟩:=Jz (n:=32) (l:=aU h.c 93 32) s17 (by rw[aK];rfl);have s18:Lh b=⟨_,false⟩:=s18;refine⟨aaQ PS.bad s18,aaQ PS.l s18,?_⟩;have q0:cI (lI b).c 0=cI h.c 0:=(Zb b).trans (v1.trans ah);have q1:cI (lI b).c 1=cI h.c 1:=(Zc b).trans (v2.trans ah);have q34:cI (lI b).c 34=cI h.c 34:=(Uy b).trans (v4.trans ah);have q36:cI (lI b).c 36=cI h.c 36:=(UA b).trans (v6.trans ah);have q54:cI (lI b).c 54=cI h.c 54:=(UC b).trans (v10.trans ah);have q55:cI (lI b).c 55=cI h.c 55:=(UD b).trans (v11.trans ah);have q56:cI (lI b).c 56=cI h.c 56:=(UE b).trans (v12.trans ah);have q57:cI (lI b).c 57=cI h.c 57:=(UF b).trans (v13.trans ah);have q58:cI (lI b).c 58=cI h.c 58:=(UG b).trans (v14.trans ah);have q59:cI (lI b).c 59=cI h.c 59:=(UH b).trans (v15.trans ah);have q92:cI (lI b).c 92=cI h.c 92:=(UI b).trans (v17.trans ah);have q35:cB (lI b).c 35=cB h.c 35:=(Uz b).trans v5;have qz1:sG (cI (lI b).c) 2 32↔sG (cI h.c) 2 32:=Kb ((Zd b).trans (by rw[show cC 32 (p2 b)=_ from v3];exact mi (aK _ _ _)));have qz2:sG (cI (lI b).c) 37 16↔sG (cI h.c) 37 16:=Kb ((UB b).trans (by rw[show cC 16 (p6 b)=_ from v7];exact mi (aK _ _ _)));have qk:cI (lI b).c (54+(cI h.c 0-1).toNat)=cI h.c (54+(cI h.c 0-1).toNat):=by
  have:(cI h.c 0-1).toNat=0\/(cI h.c 0-1).toNat=1\/(cI h.c 0-1).toNat=2\/(cI h.c 0-1).toNat=3\/(cI h.c 0-1).toNat=4\/(cI h.c 0-1).toNat=5:=ah;rcases this with e | e | e | e | e | e<;>rw[e]
  .exact q54
  .exact q55
  .exact q56
  .exact q57
  .exact q58
  .exact q59
 have qt:(lI b).t=h.t:=vT;unfold Hd.Form dq;rw[qt,q35,q0,q1,q34,q36,qk,q54,q55,q56,q57,q58,q59,q92,qz1,qz2];exact⟨⟨hw,hs,he,ht,hk,hkn,hp⟩,h8,hso,hpd,hct⟩
def Ks (a n:Nat) (N:E) (h:Nat) (X Y:E) (old:Nat->E):List CV:=(List.range n).map fun j=>.int .u8 (.ite (.lt (.lit ((a+j:Nat):Int)) (.add (.lit (a:Int)) N)) (.hI h X Y j) (old j))
def Ss (n:Nat) (N:E) (h:Nat) (X Y:E) (old:Nat->E):List CV:=(List.range n).map fun j=>.int .u8 (.ite (.lt (.lit ((j:Nat):Int)) N) (.hI h X Y j) (old j))
def Jq:List CV:=([.int .i64 (.wrap .i64 (.var 9)),.int .u64 (.var 11)]++(Ks 2 32 (.ite (.lt (.var 15) (.lit 32)) (.var 15) (.lit 32)) 14 (.var 13) (.var 14) (fun _=>.lit 0))++[.int .i64 (.wrap .i64 (.var 17)),.bool (.bvar 19),.int .u64 (.var 21)]++(Ks 37 16 (.ite (.lt (.var 25) (.lit 16)) (.var 25) (.lit 16)) 24 (.var 23) (.var 24) (fun _=>.lit 0))++[.sl (.lit (-1)) (.lit 0) (.lit 0) (.lit 0),.int .u64 (.lit 0),.int .u64 (.lit 0),.int .u64 (.lit 0),.int .u64 (.lit 0),.int .u64 (.lit 0),.int .u64 (.lit 0)]++List.replicate 32 (CV.int .u8 (.lit 0))++[.int .i64 (.lit 0)]++List.replicate 32 (CV.int .u8 (.lit 0)))
def Jr:List CV:=(ar 300 ([Ck.int .i64,Ck.int .u64]++List.replicate 32 (Ck.int .u8)++[Ck.int .i64,Ck.bool,Ck.int .u64]++List.replicate 16 (Ck.int .u8))++[.sl (.var 446) (.lit 0) (.add (.var 355) (.lit 1)) (.var 447)]++ar 357 (List.replicate 6 (Ck.int .u64)++List.replicate 32 (Ck.int .u8)++[Ck.int .i64]++List.replicate 32 (Ck.int .u8)))
def CS:List CV:=(ar 300 ([Ck.int .i64,Ck.int .u64]++List.replicate 32 (Ck.int .u8)++[Ck.int .i64,Ck.bool,Ck.int .u64]++List.replicate 16 (Ck.int .u8)++[Ck.sl])++[.int .u64 (.var 440),.int .u64 (.var 442),.int .u64 (.var 444),.int .u64 (.var 446),.int .u64 (.var 448),.int .u64 (.var 450)]++(Ks 60 32 (.ite (.lt (.var 454) (.lit 32)) (.var 454) (.lit 32)) 453 (.var 452) (.var 453) (fun j=>.var (363+j)))++[.int .i64 (.wrap .i64 (.var 456))]++(Ks 93 32 (.ite (.lt (.var 460) (.lit 32)) (.var 460) (.lit 32)) 459 (.var 458) (.var 459) (fun j=>.var (396+j))))
def NY:List CV:=([.int .i64 (.lit 0),.int .u64 (.lit 0)]++List.replicate 32 (CV.int .u8 (.lit 0))++[.int .i64 (.lit 0),.bool .ff,.int .u64 (.lit 0)]++List.replicate 16 (CV.int .u8 (.lit 0))++[.sl (.lit (-1)) (.lit 0) (.lit 0) (.lit 0),.int .u64 (.lit 0),.int .u64 (.lit 0),.int .u64 (.lit 0),.int .u64 (.lit 0),.int .u64 (.lit 0),.int .u64 (.lit 0)]++List.replicate 32 (CV.int .u8 (.lit 0))++[.int .i64 (.lit 0)]++List.replicate 32 (CV.int .u8 (.lit 0)))
def pS:List As:=([⟨430,0,.int .i64 (.lit 0)⟩]:List As)++(Rr 29 (ar 300 bU) Jq)
def pT:List As:=([⟨430,0,.int .i64 (.wrap .u64 (.add (.var 430) (.lit 1)))⟩]:List As)++(Rr 29 (ar 300 bU) Jr)
def MK:Nd:=(fun a d p b1 m h o u a4 a5 a9 b0=>(fun b c k g i j l n q s z a0 a2 a6=>(fun f r t v w x y a1 a3 a7 a8 b2=>(.ext (.alloc 5) (.ext (.alloc 6) (.and (.pre o) (.ext o (.and (.pre s) (.ext s (.and (.pre b2) (.ext b2 (.and (.pre a8) (.ext a8 (.and (.e (.and (.or (.and (.eq (.var 13) a9) (.eq b0 h)) (.and (.le h (.var 13)) (.and (.le h (.var 14)) (.hby 14 (.var 13) (.var 14) (.ite (.lt b0 m) b0 m))))) (.and (.le h b0) (.le (.add (.lit 2) (.ite (.lt b0 m) b0 m)) (.lit 125))))) (.and (.pre q) (.ext q (.and (.pre z) (.ext z (.and (.pre l) (.ext l (.and (.pre x) (.ext x (.and (.e (.and (.or (.and (.eq (.var 23) a9) (.eq (.var 25) h)) (.and (.le h (.var 23)) (.and (.le h (.var 24)) (.hby 24 (.var 23) (.var 24) a0)))) (.and (.le h (.var 25)) (.le (.add (.lit 37) a0) (.lit 125))))) (.and (.pre n) (.ext n (.and (.inv 0 pS [(431,some 27),(432,none)]) (.havoc 0 0 29 (.and (.imp (.lt (.var 430) (.var 27)) (.ext (.alloc 440) (.and (.pre (.call 3 441 i a2 [])) (.ext (.call 3 441 i a2 []) (.and (.e (.and (.or (.and (.eq (.var 441) a9) (.eq (.var 443) h)) (.and (.le h (.var 441)) (.and (.le h (.var 442)) (.hby 442 (.var 441) (.var 442) k)))) (.and (.le h (.var 443)) (.le k b1)))) (.ext (.alloc 445) (.and (.pre f) (.ext f (.back 0 0 pT [(431,some 441),(432,some 446)]))))))))) (.imp (.not (.lt (.var 430) (.var 27))) (.and (.pre (.call 1 440 b a2 [])) (.ext (.call 1 440 b a2 []) (.and (.pre a7) (.ext a7 (.and (.pre a3) (.ext a3 (.and (.pre a1) (.ext a1 (.and (.pre y) (.ext y (.and (.pre v) (.ext v (.and (.pre t) (.ext t (.and (.e (.and (.or (.and (.eq (.var 452) a9) (.eq a4 h)) (.and (.le h (.var 452)) (.and (.le h (.var 453)) (.hby 453 (.var 452) (.var 453) (.ite (.lt a4 m) a4 m))))) (.and (.le h a4) (.le (.add (.lit 60) (.ite (.lt a4 m) a4 m)) (.lit 125))))) (.and (.pre j) (.ext j (.and (.pre r) (.ext r (.and (.e (.and (.or (.and (.eq (.var 458) a9) (.eq a5 h)) (.and (.le h (.var 458)) (.and (.le h (.var 459)) (.hby 459 (.var 458) (.var 459) (.ite (.lt a5 m) a5 m))))) (.and (.le h a5) (.le (.add (.lit 93) (.ite (.lt a5 m) a5 m)) (.lit 125))))) (.and (.pre a6) (.ext a6 (.and (.imp (.bvar 462) (.and (.pre u) (.ext u (.and (.imp (.not (.bvar 463)) w) (.imp (.bvar 463) (.post c (.tup [.agg CS,.one (.int .i64 h)]))))))) (.imp (.not (.bvar 462)) w))))))))))))))))))))))))))))))))))))))))))))))))):Nd)) (.app 446 61 16 16 (.sl (.var 353) (.var 354) (.var 355) (.var 356)) (.var 355) (.hp 432 [] [.var 353] []) (.cvs (Ss 16 k 442 (.var 441) (.var 442) (fun _=>.lit 0)) 1)) (.call 3 458 g [.hp 456 [452,450,448,446,444,442,440,431] d []] []) (.call 3 452 g [.hp 450 [448,446,444,442,440,431] d []] []) (.call 1 450 b [.hp 448 [446,444,442,440,431] d []] []) (.post c (.tup [.agg NY,.one (.int .i64 (.lit 2))])) (.call 3 23 i [.hp 21 [19,17,13,11,9,7] d []] []) (.call 1 448 b [.hp 446 [444,442,440,431] d []] []) (.call 1 446 b [.hp 444 [442,440,431] d []] []) (.call 1 444 b [.hp 442 [440,431] d []] []) (.call 1 442 b [.hp 440 [431] d []] []) (.call 3 13 g [.hp 11 [9,7] d []] []) (.call 1 11 b [.hp 9 [7] d []] [])) [.sv a,.sv (.one (.int .u64 (.lit 1048576)))] [.ro 4 [.var 0] false,.dead,.dead,.hp 458 p d [],.hp 14 [] [.var 13] [],.hp 24 [] [.var 23] [],.hp 432 [] [.var 353] [],.hp 453 [] [.var 452] [],.hp 459 [] [.var 458] []] (.ite (.lt (.var 443) b1) (.var 443) b1) [.sv a,.sv (.one (.int .i64 m))] [.sv a,.sv (.one (.int .i64 b1))] (.call 1 456 [.sv a,.sv (.one (.int .u64 (.lit 2064)))] [.hp 452 [450,448,446,444,442,440,431] d []] []) (.call 1 21 [.sv a,.sv (.one (.int .u64 (.lit 1099511627776)))] [.hp 19 [17,13,11,9,7] d []] []) (.call 1 27 [.sv a,.sv (.one (.int .u64 (.lit 8)))] [.hp 23 [21,19,17,13,11,9,7] d []] []) (.call 1 17 [.sv a,.sv (.one (.int .u64 (.lit 255)))] [.hp 13 [11,9,7] d []] []) (.call 1 9 [.sv a,.sv (.one (.int .u64 (.lit 6)))] [.hp 7 [] d []] []) (.call 2 19 [.sv a] [.hp 17 [13,11,9,7] d []] []) (.ite (.lt (.var 25) b1) (.var 25) b1) [.hp 431 [] d []] (.call 4 462 [.sv a] [] [.hp 458 p d []])) (.one (.hptr (.var 7) (.var 8))) [.var 7] [456,452,450,448,446,444,442,440,431] (.lit 16) (.lit 32) (.lit 0) (.call 0 7 [.sv (.one (.sl (.var 0) (.var 1) (.var 2) (.var 3)))] [] [.ro 4 [.var 0] false]) (.call 5 463 [.sv (.agg CS)] [] [.hp 432 [] [.var 353] []]) (.var 454) (.var 460) (.lit (-1)) (.var 15)
noncomputable def Wz:List Sx.Spec:=[oy,fI,yB,HG,wj,gK 117]
theorem SA:∀ t∈Wz,t.OK Tryz.prog:=au uR <| au Qj <| au MS <| au QJ <| au EY <| au mQ <| bR
noncomputable def D7:aG Tryz.prog Wz 73 where
 Λ:=fun p=>if decide (p.length=14)&&!(p.head?==some 99)then some ⟨0,[(35,TI .u64 (.var 430))],[(2,.bw 6 (ar 300 bU) 65),(3,.hp 431 [] [.var 7] []),(6,.hp 432 [] [.var 353] [])],440⟩else none
 args:=[.sv (.one (.sl (.var 0) (.var 1) (.var 2) (.var 3)))]
 mem:=[.ro 4 [.var 0] false]
 nv:=5
theorem gR:∀ {a b:List Value} {ka kb:List Kd},bg a ka->bg b kb->bg (a++b) (ka++kb)
 | [],_,[],_,_,h=>h
 | _::_,_,_::_,_,h,h'=>⟨h.1,gR h.2 h'⟩
 | [],_,_::_,_,h,_=>False.elim h
 | _::_,_,[],_,h,_=>False.elim h
theorem ny:∀ {l:List Int} {n:Nat},l.length=n->bg (aS l) (List.replicate n (.int .u8))
 | [],0,_=>trivial
 | _::l,n+1,h=>⟨rfl,ny (l:=l) (by simpa using h)⟩
 | [],_+1,h=>by simp at h
 | _::_,0,h=>by simp at h
theorem SL:dZ=[.int .i64,.int .u64]++List.replicate 32 (.int .u8)++[.int .i64,.bool,.int .u64]++List.replicate 16 (.int .u8)++[.slice]++[.int .u64,.int .u64,.int .u64,.int .u64,.int .u64,.int .u64]++List.replicate 32 (.int .u8)++[.int .i64]++List.replicate 32 (.int .u8):=by kernel_rfl
theorem M1 (b:List Int) {u:Value} (hu:bD (some u) .slice=true):bg (fV b u) dZ:=by
 rw[SL];unfold fV;refine gR (gR (gR (gR (gR (gR (gR (gR ⟨rfl,rfl,trivial⟩ (ny (di _ _))) ⟨rfl,rfl,rfl,trivial⟩) (ny (di _ _))) ⟨hu,trivial⟩) ⟨rfl,rfl,rfl,rfl,rfl,rfl,trivial⟩) (ny (di _ _))) ⟨rfl,trivial⟩) (ny (di _ _))
theorem xD {l:List Int} (h:ak l):∀ v∈aS l,wY v:=by
 intro v hv;obtain⟨z,hz,rfl⟩:=aaS.1 hv;exact h z hz
theorem KF {b:List Int} (hb:ak b) {u:Value} (hu:wY u):∀ v∈fV b u,wY v:=by
 have b0:ak (p0 b).l:=hb;have b1:ak (p1 b).l:=cR b0;have b2:ak (p2 b).l:=cR b1;have b3:ak (p3 b).l:=ox b2;have b4:ak (p4 b).l:=cR b3;have b5:ak (p5 b).l:=Cw b4;have b6:ak (p6 b).l:=cR b5;have b7:ak (p7 b).l:=ox b6;have b8:ak (p8 b).l:=cR b7;have d0:ak (k0 b).l:=(xH _ _ b8).2;have d6:ak (k6 b).l:=cR (cR (cR (cR (cR (cR d0)))));have b16:ak (uP b).l:=cR (ox d6);have U:∀ {m:Int} {s:PS},0<=m->m<=1099511627776->wY (.int .u64 (aQ m s)):=fun {m s} h0 h1=>by
  have:=qS (s:=s) h0;exact⟨this.1,ah⟩
 have I:∀ {m:Int} {s:PS},0<=m->m<=1099511627776->wY (.int .i64 (aQ m s)):=fun {m s} h0 h1=>by
  have:=qS (s:=s) h0;exact⟨ah,ah⟩
 have y1:=xD (zD (n:=32) (uo (n:=32) b2));have y2:=xD (zD (n:=16) (uo (n:=16) b6));have y3:=xD (zD (n:=32) (uo (n:=32) d6));have y4:=xD (zD (n:=32) (uo (n:=32) b16));intro v hv;unfold fV at hv;simp only[aaR,aas,aaA,abc]at hv;rcases hv with (((((((hv | hv) | hv) | hv) | hv) | hv) | hv) | hv) | hv
 .rcases hv with rfl | rfl
  .exact I ah ah
  .exact U ah ah
 .exact y1 v hv
 .rcases hv with rfl | rfl | rfl
  .exact I ah ah
  .trivial
  .exact U ah ah
 .exact y2 v hv
 .subst hv;exact hu
 .rcases hv with rfl | rfl | rfl | rfl | rfl | rfl<;>exact U ah ah
 .exact y3 v hv
 .subst hv;exact I ah ah
 .exact y4 v hv
theorem M3 (b:List Int):∃ L B:List Value,L.length=53/\∀ u,fV b u=L++u::B:=by
 refine⟨[Value.int .i64 (aQ 6 (p0 b)),.int .u64 (aQ 1048576 (p1 b))]++aS (dv 32 (cC 32 (p2 b)))++[Value.int .i64 (aQ 255 (p3 b)),.bool (iZ (p4 b)),.int .u64 (aQ 1099511627776 (p5 b))]++aS (dv 16 (cC 16 (p6 b))),[Value.int .u64 (aQ 1048576 (k0 b)),.int .u64 (aQ 1048576 (k1 b)),.int .u64 (aQ 1048576 (k2 b)),.int .u64 (aQ 1048576 (k3 b)),.int .u64 (aQ 1048576 (k4 b)),.int .u64 (aQ 1048576 (k5 b))]++aS (dv 32 (cC 32 (k6 b)))++[.int .i64 (aQ 2064 (uv b))]++aS (dv 32 (cC 32 (uP b))),by simp [aS,di],fun u=>?_⟩;unfold fV;simp only[aaw,ab0,abu]
theorem Vd {b:List Int} (hb:ak b) {R:Hl} {u:Value} (hu:bD (some u) .slice=true) (hr:wY u) (ht:bj R u oY ((hT b).map aS)):bN R (fV b u) (lI b):=by
 obtain⟨L,B,hl,e⟩:=M3 b;have b7:ak (p8 b).l:=cR (ox (cR (Cw (cR (ox (cR (cR (s:=p0 b) hb)))))));refine⟨M1 b hu,KF hb hr,?_,?_,?_,(xH _ _ b7).1⟩
 .show fV b (.bool false)=_;rw[e,e,acV _ _ ah,hl];rfl
 .have:(fV b u).getD 53 (.bool false)=u:=by
   rw[e,aan,aau ah,hl];rfl
  rw[this];exact ht
 .show(fu (hN b) (p8 b)).1.length<=_;rw[uh];have:=qS (s:=p7 b) (m:=8) ah;unfold hN;omega
def Q9:List Value:=[.int .i64 0,.int .u64 0]++List.replicate 32 (.int .u8 0)++[.int .i64 0,.bool false,.int .u64 0]++List.replicate 16 (.int .u8 0)++[.slice none 0 0,.int .u64 0,.int .u64 0,.int .u64 0,.int .u64 0,.int .u64 0,.int .u64 0]++List.replicate 32 (.int .u8 0)++[.int .i64 0]++List.replicate 32 (.int .u8 0)
def zG (b:List Int) (v:Value) (F:Hl):Prop :=
 (∃ row h,v=.tuple #[.agg row.toArray,.int .i64 0]/\bN F row h/\h.Form/\rD h=b)\/(v=.tuple #[.agg Q9.toArray,.int .i64 2]/\∀ R row h,bN R row h->h.Form->rD h≠b)
def ot:Sx.Spec where
 fn:=73
 own:=[]
 rd:=[0]
 res:=[.agg bU,.one (.int .i64)]
 pre:=fun xs Hs Rs=>∃ u bs R,xs=[u]/\Rs=[R]/\cV R u bs/\ak bs/\bs.length<=1000000
 post:=fun xs Hs Rs v Hs' F=>∃ u bs R,xs=[u]/\Rs=[R]/\cV R u bs/\zG bs v F
theorem Z5:oy.res=[.one .ptr]:=rfl
theorem Z6:fI.res=[.one (.int .u64)]:=rfl
theorem Z7:yB.res=[.one .bool]:=rfl
theorem Z8:HG.res=[.one .sl]:=rfl
theorem Z9:wj.res=[.one .bool]:=rfl
theorem pr5 (f:FuncId):(gK f).res=[.one .bool]:=rfl
theorem Z3 (n:Nat):(aJ n [Cp.one .ptr]≠[])=True:=by simp [aJ,Cp.roots,Ck.root]
theorem Z4 (n:Nat):(aJ n [Cp.one (.int .u64)]≠[])=False:=by simp [aJ,Cp.roots,Ck.root]
def vp (H:Hl) (p:Value) (s:PS):Prop:=gC H p s.l s.bad
def fp (b:List Int) (u:Value):List Value :=
 [.int .i64 (aQ 6 (p0 b)),.int .u64 (aQ 1048576 (p1 b))]++aS (dv 32 (cC 32 (p2 b)))++[.int .i64 (aQ 255 (p3 b)),.bool (iZ (p4 b)),.int .u64 (aQ 1099511627776 (p5 b))]++aS (dv 16 (cC 16 (p6 b)))++[u]++List.replicate 6 (.int .u64 0)++List.replicate 32 (.int .u8 0)++[.int .i64 0]++List.replicate 32 (.int .u8 0)
section
variable {q:Env} {n:Nat} {p:Value} {H:Hl} {s:PS} {K:Env->Prop} {A:Env->Hl->Prop}
theorem wV {m:Int} (h:vp H p s) (k:∀ q',ai n q q'->vp (q'.h n) p (mG m s)->q'.i n=aQ m s->K q') :
 fI.pre [p,.int .u64 m] [H] []/\∀ q',ai n q q'->(∃ F,fI.post [p,.int .u64 m] [H] [] (.int .u64 (q'.i n)) [q'.h n] F/\A q' F)->K q':=by
 refine⟨⟨_,m,H,s.l,s.bad,rfl,rfl,h⟩,fun q' g ⟨F,⟨p',m',H1,bs,bad,H',e1,e2,hO,e3,hO',hv⟩,_⟩=>?_⟩;simp only[aaf,Value.int.injEq,aaV,aat]at e1 e2 e3;obtain⟨e1,em⟩:=e1;subst e1 em e2;obtain⟨e4,e5⟩:=h.uniq hO;subst e4 e5;rw[<-e3]at hO';simp only[Value.int.injEq,aaV]at hv;exact k q' g hO' hv
theorem Vi (h:vp H p s) (k:∀ q',ai n q q'->vp (q'.h n) p (tJ s)->q'.b n=iZ s->K q') :
 yB.pre [p] [H] []/\∀ q',ai n q q'->(∃ F,yB.post [p] [H] [] (.bool (bd q' (.bvar n))) [q'.h n] F/\A q' F)->K q':=by
 refine⟨⟨_,H,s.l,s.bad,rfl,rfl,h⟩,fun q' g ⟨F,⟨p',H1,bs,bad,H',e1,e2,hO,e3,hO',hv⟩,_⟩=>?_⟩;simp only[aaf,aat]at e1 e2 e3;subst e1 e2;obtain⟨e4,e5⟩:=h.uniq hO;subst e4 e5;rw[<-e3]at hO';simp only[Value.bool.injEq,bq]at hv;exact k q' g hO' hv
structure pe (F:Hl) (x y l c:Int) (raw:List Int):Prop where
 rx:-1<=x
 ry:0<=y
 len:l=raw.length
 rd:(x= -1/\raw=[])\/(0<=x/\∀ j z,raw[j]?=some z->F.cell x.toNat (y.toNat+j)=some (.int .u8 z))
theorem Nb {m:Int} (h:vp H p s) (k:∀ q',ai n q q'->vp (q'.h n) p (qZ m s)->pe (q'.h (n+1)) (q'.i n) (q'.i (n+1)) (q'.i (n+2)) (q'.i (n+3)) (cC m s)->K q') :
 HG.pre [p,.int .i64 m] [H] []/\∀ q',ai n q q'->(∃ F,HG.post [p,.int .i64 m] [H] [] (.slice (az (q'.i n) (q'.i (n+1))) (q'.i (n+2)).toNat (q'.i (n+3)).toNat) [q'.h n] F/\(True->q'.h (n+1)=F)/\dY n [.one .sl] q')->K q':=by
 refine⟨⟨_,m,H,s.l,s.bad,rfl,rfl,h⟩,fun q' g ⟨F,⟨p',m',H1,bs,bad,H',e1,e2,hO,e3,hO',hv⟩,hF,hn,_⟩=>?_⟩;simp only[aaf,Value.int.injEq,aaV,aat]at e1 e2 e3;obtain⟨e1,em⟩:=e1;subst e1 em e2;obtain⟨e4,e5⟩:=h.uniq hO;subst e4 e5;rw[<-e3]at hO';have hn:-1<=q'.i n/\0<=q'.i (n+1)/\0<=q'.i (n+2)/\0<=q'.i (n+3):=hn;rw[<-hF trivial]at hv;obtain⟨hl,hr⟩:=hv.rd.at hn.1 hn.2.1 hn.2.2.1;exact k q' g hO' ⟨hn.1,hn.2.1,hl,hr⟩
end
theorem pe.NK {F:Hl} {x y l c:Int} {raw:List Int} (h:pe F x y l c raw) {a w:Int} (hw:0<=w) (ha:a+w<=125):((x= -1/\l=0\/0<=x/\0<=y/\bx F x.toNat y.toNat (if l<w then l else w).toNat=true)/\0<=l/\(a+if l<w then l else w)<=125):=by
 have hl:=h.len;refine⟨h.rd.imp (fun⟨h1,h2⟩=>⟨h1,by rw[hl,h2];rfl⟩) fun⟨h1,h2⟩=>⟨h1,h.ry,?_⟩,ah,by split<;>omega⟩;unfold bx;rw[aaE];intro j hj;have hj:j<(if l<w then l else w).toNat:=aaM.1 hj;have hjr:j<raw.length:=by split at hj<;>omega
 rw[h2 j _ (aab hjr)];rfl
theorem pe.cell {F:Hl} {x y l c:Int} {raw:List Int} (h:pe F x y l c raw) {j:Nat} (hj:j<raw.length):ck (F.cell x.toNat (y.toNat+j))=raw.getD j 0:=by
 rcases h.rd with ⟨_,h2⟩ | ⟨_,h2⟩
 .rw[h2]at hj;cases hj
 .rw[h2 j _ (aab hj),aan,aab hj];rfl
theorem xj {w:Int} {q:Env} {a n h m1 m2 m3:Nat} {c:Int} {raw:List Int} {old:Nat->E} (ht:pe (q.h h) (q.i m1) (q.i m2) (q.i m3) c raw) (hw:w=(n:Int)) (ho:∀ j,j<n->aA q (old j)=0) :
 (Ks a n (.ite (.lt (.var m3) (.lit w)) (.var m3) (.lit w)) h (.var m1) (.var m2) old).map (CV.ev q)=aS (dv n raw):=by
 subst hw;unfold Ks aS dv;rw[abA,abA];refine aa7 fun j hj=>?_;have hj:=aaM.1 hj;have hl:=ht.len;show Value.int .u8 (aA q (.ite _ _ _))=.int .u8 _
 congr 1
 simp only[dj,oL,aq,bL,al];by_cases hr:j<raw.length
 .rw[aax (by split<;>omega),fw];exact ht.cell hr
 .rw[aal (by split<;>omega),ho j hj,aan,aaq ah];rfl
theorem Pz {w:Int} {q:Env} {n h m1 m2 m3:Nat} {c:Int} {raw:List Int} {old:Nat->E} (ht:pe (q.h h) (q.i m1) (q.i m2) (q.i m3) c raw) (hw:w=(n:Int)) (ho:∀ j,j<n->aA q (old j)=0) :
 (Ss n (.ite (.lt (.var m3) (.lit w)) (.var m3) (.lit w)) h (.var m1) (.var m2) old).map (CV.ev q)=aS (dv n raw):=by
 subst hw;unfold Ss aS dv;rw[abA,abA];refine aa7 fun j hj=>?_;have hj:=aaM.1 hj;have hl:=ht.len;show Value.int .u8 (aA q (.ite _ _ _))=.int .u8 _
 congr 1
 simp only[dj,oL,aq,al];by_cases hr:j<raw.length
 .rw[aax (by split<;>omega),fw];exact ht.cell hr
 .rw[aal (by split<;>omega),ho j hj,aan,aaq ah];rfl
theorem Nu (b:List Int) (u v:Value):(fp b u).set 53 v=fp b v:=by
 have e:∀ u,fp b u=([Value.int .i64 (aQ 6 (p0 b)),.int .u64 (aQ 1048576 (p1 b))]++aS (dv 32 (cC 32 (p2 b)))++[Value.int .i64 (aQ 255 (p3 b)),.bool (iZ (p4 b)),.int .u64 (aQ 1099511627776 (p5 b))]++aS (dv 16 (cC 16 (p6 b))))++u::(List.replicate 6 (.int .u64 0)++List.replicate 32 (.int .u8 0)++[.int .i64 0]++List.replicate 32 (.int .u8 0)):=by
  intro u;unfold fp;simp only[aaw,ab0,abu]
 have hl:([Value.int .i64 (aQ 6 (p0 b)),.int .u64 (aQ 1048576 (p1 b))]++aS (dv 32 (cC 32 (p2 b)))++[Value.int .i64 (aQ 255 (p3 b)),.bool (iZ (p4 b)),.int .u64 (aQ 1099511627776 (p5 b))]++aS (dv 16 (cC 16 (p6 b)))).length=53:=by simp [aS,di]
 rw[e u,e v,acV _ _ ah,hl];rfl
theorem pe.Vz {F:Hl} {x y l c:Int} {raw:List Int} (h:pe F x y l c raw) {w:Int} (hw:0<=w) (ha:w<=125):((x= -1/\l=0\/0<=x/\0<=y/\bx F x.toNat y.toNat (if l<w then l else w).toNat=true)/\0<=l/\(if l<w then l else w)<=w):=by
 obtain⟨h1,h2,_⟩:=h.NK (a:=0) hw ah;exact⟨h1,h2,by split<;>omega⟩
theorem NX (q:Env):Jr.map (CV.ev q)=(aD q 300).set 53 (.slice (az (q.i 446) 0) (q.i 355+1).toNat (q.i 447).toNat):=by kernel_rfl
theorem QU (q:Env):aU (aD q 300) 60 32=(List.range 32).map fun j=>q.i (363+j):=by kernel_rfl
theorem OL (q:Env):aU (aD q 300) 93 32=(List.range 32).map fun j=>q.i (396+j):=by kernel_rfl
def pL (b:List Int):List Value:=[Value.int .i64 (aQ 6 (p0 b)),.int .u64 (aQ 1048576 (p1 b))]++aS (dv 32 (cC 32 (p2 b)))++[.int .i64 (aQ 255 (p3 b)),.bool (iZ (p4 b)),.int .u64 (aQ 1099511627776 (p5 b))]++aS (dv 16 (cC 16 (p6 b)))
theorem uG (b:List Int):(pL b).length=53:=by unfold pL;simp [aS,di]
theorem Oz {q:Env} {b:List Int} {u:Value} (h:aD q 300=fp b u):∀ j,j<32->q.i (363+j)=0/\q.i (396+j)=0:=by
 have a1:aU (fp b u) 60 32=List.replicate 32 0:=by
  have e:fp b u=(pL b++[u]++List.replicate 6 (.int .u64 0))++aS (List.replicate 32 0)++([.int .i64 0]++List.replicate 32 (.int .u8 0)):=by
   unfold fp pL;simp only[aaw];rfl
  rw[e];exact nC (by simp [uG]) aF
 have a2:aU (fp b u) 93 32=List.replicate 32 0:=by
  have e:fp b u=(pL b++[u]++List.replicate 6 (.int .u64 0)++List.replicate 32 (.int .u8 0)++[.int .i64 0])++aS (List.replicate 32 0)++[]:=by
   unfold fp pL;simp only[aaw];rfl
  rw[e];exact nC (by simp [uG]) aF
 rw[<-h,QU]at a1;rw[<-h,OL]at a2;intro j hj;have c1:=aaQ (fun l=>l[j]?) a1;have c2:=aaQ (fun l=>l[j]?) a2;simp only[aao,aaD hj,aaN,abX,aax hj,aaj]at c1 c2;exact⟨c1,c2⟩
theorem Tv (q:Env):(ar 300 ([Ck.int .i64,Ck.int .u64]++List.replicate 32 (Ck.int .u8)++[Ck.int .i64,Ck.bool,Ck.int .u64]++List.replicate 16 (Ck.int .u8)++[Ck.sl])).map (CV.ev q)=(aD q 300).take 54:=by kernel_rfl
theorem KS (b:List Int) (u:Value):(fp b u).take 54=pL b++[u]:=by
 have e:fp b u=(pL b++[u])++(List.replicate 6 (.int .u64 0)++List.replicate 32 (.int .u8 0)++[.int .i64 0]++List.replicate 32 (.int .u8 0)):=by
  unfold fp pL;simp only[aaw]
 have hl:(pL b++[u]).length=54:=by simp [uG]
 rw[e,<-hl,acM]
theorem Ra (q:Env):NY.map (CV.ev q)=Q9:=by kernel_rfl
theorem pe.ag {q q':Env} {m h m1 m2 m3 m4:Nat} {raw:List Int} (g:ai m q q') (ht:pe (q.h h) (q.i m1) (q.i m2) (q.i m3) (q.i m4) raw) (h0:h<m) (h1:m1<m) (h2:m2<m) (h3:m3<m) (h4:m4<m):pe (q'.h h) (q'.i m1) (q'.i m2) (q'.i m3) (q'.i m4) raw:=by
 rw[g.h h h0,g.i m1 h1,g.i m2 h2,g.i m3 h3,g.i m4 h4];exact ht
theorem Ep {J:Env} (h:-1<=J.i 53/\0<=J.i 54/\0<=J.i 55/\0<=J.i 56):bV 0 bU J:=⟨trivial,trivial,trivial,trivial,trivial,trivial,trivial,trivial,trivial,trivial,trivial,trivial,trivial,trivial,trivial,trivial,trivial,trivial,trivial,trivial,trivial,trivial,trivial,trivial,trivial,trivial,trivial,trivial,trivial,trivial,trivial,trivial,trivial,trivial,trivial,trivial,trivial,trivial,trivial,trivial,trivial,trivial,trivial,trivial,trivial,trivial,trivial,trivial,trivial,trivial,trivial,trivial,trivial,h,trivial,trivial,trivial,trivial,trivial,trivial,trivial,trivial,trivial,trivial,trivial,trivial,trivial,trivial,trivial,trivial,trivial,trivial,trivial,trivial,trivial,trivial,trivial,trivial,trivial,trivial,trivial,trivial,trivial,trivial,trivial,trivial,trivial,trivial,trivial,trivial,trivial,trivial,trivial,trivial,trivial,trivial,trivial,trivial,trivial,trivial,trivial,trivial,trivial,trivial,trivial,trivial,trivial,trivial,trivial,trivial,trivial,trivial,trivial,trivial,trivial,trivial,trivial,trivial,trivial,trivial,trivial,trivial,trivial,trivial,trivial,trivial⟩
theorem Uj {v:Value} (hv:v=.tuple #[.agg Q9.toArray,.int .i64 2]):∃ ρ2,v=(lC 0 ot.res).ev ρ2/\dY 0 ot.res ρ2:=by
 subst hv;exact⟨(bc fun k=>if k=53 then -1 else if k=128 then 2 else 0),by kernel_rfl,Ep ⟨aap _,aap _,aap _,aap _⟩,trivial,trivial⟩
def Ri (b:List Int) (x y l c:Int):Env:=⟨fun k=>if k<53 then cI (fV b (.bool false)) k else if k=53 then x else if k=54 then y else if k=55 then l else if k=56 then c else if k<128 then cI (fV b (.bool false)) (k-3)else 0,fun k=>cB (fV b (.bool false)) k,fun _=>.empty,fun _=>.tuple #[],fun _=>Hl.none⟩
theorem M0 (b:List Int) (x y l c:Int):(ar 0 bU).map (CV.ev (Ri b x y l c))=fV b (.slice (az x y) l.toNat c.toNat):=by kernel_rfl
open Classical in
theorem Bv:ot.OK Tryz.prog:=by
 refine Spec.aT (Γ:=Wz) SA ?_;rintro xs Hs Rs hl1 hl2 ⟨u,b,R,rfl,rfl,hRd,hby,hlen⟩;have e0:Hs=[]:=aad.1 hl1;subst e0;obtain⟨x,y,c,rfl,hy,hR⟩:=id hRd;refine⟨D7,aM [x,y,b.length,c] false [Hl.none,Hl.none,Hl.none,Hl.none,R],fun _ q=>∃ k:Nat,q.i 430=k/\k<=hN b/\vp (q.h 431) (.pointer (az (q.i 7) (q.i 8))) (fu k (p8 b)).2/\aD q 300=fp b (.slice (az (q.i 353) (q.i 354)) (q.i 355).toNat (q.i 356).toNat)/\ -1<=q.i 353/\q.i 354=0/\q.i 355=k/\0<=q.i 356/\sH (q.h 432) 61 oY (.slice (az (q.i 353) 0) (q.i 355).toNat (q.i 356).toNat) ((fu k (p8 b)).1.map aS),fun _ q=>(hN b-q.i 430).toNat,?_,⟨?_,?_,?_,?_⟩,(fun _ h=>nomatch h),?_⟩
 .show [Value.slice (az x y) ((b.length:Int)).toNat ((c:Int)).toNat]=_;rw[aaa,aaa]
 .intro r hr ho;simp [D7]at hr;subst hr;cases ho
 .intro r hr ho;simp [D7]at hr;subst hr;exact⟨R,aF,Hl.le_refl _⟩
 .simp [D7]
 .intro r hr;simp [D7]at hr;subst hr;trivial
 .refine aG.lit (x:=MK) ?_;generalize hρ:aM [x,y,b.length,c] false [Hl.none,Hl.none,Hl.none,Hl.none,R]=J;have v0:J.i 0=x:=by rw[<-hρ];rfl
  have v1:J.i 1=y:=by rw[<-hρ];rfl
  have v2:J.i 2=b.length:=by rw[<-hρ];rfl
  have v3:J.i 3=c:=by rw[<-hρ];rfl
  have w4:J.h 4=R:=by rw[<-hρ];rfl
  clear hρ;unfold MK;simp only[go_sem,Nat.reduceAdd,Wz,Z5,Z6,Z7,Z8,Z9,pr5,Z3,Z4,T3,QK];intro q1 g1 _ q2 g2 _;have G2:ai 5 J q2:=g1.tr g2;rw[G2.i 0,G2.i 1,G2.i 2,G2.i 3,G2.h 4,v0,v1,v2,v3,w4,aaa,aaa];refine⟨⟨_,b,R,rfl,rfl,hRd,hby,hlen⟩,fun q3 g3 ⟨F3,hp3,hF3,_⟩=>?_⟩;have h3:vp (q3.h 7) (.pointer (az (q3.i 7) (q3.i 8))) (p0 b):=by
   obtain⟨u',b',R',e1,e2,hR',hO⟩:=hp3;simp only[aaf,aat]at e1 e2;subst e1 e2;rw[hRd.uniq hR',hF3 trivial];exact hO
  refine wV h3 fun q4 g4 h4 v4'=>?_;have h4:vp (q4.h 9) _ (p1 b):=h4;have v4':q4.i 9=aQ 6 (p0 b):=v4';rw[<-g4.i 7,<-g4.i 8]at h4;refine wV h4 fun q5 g5 h5 v5'=>?_;have h5:vp (q5.h 11) _ (p2 b):=h5;have v5':q5.i 11=aQ 1048576 (p1 b):=v5';rw[<-g5.i 7,<-g5.i 8]at h5;rw[<-g5.i 9]at v4';refine Nb h5 fun q6 g6 h6 t6=>?_;have h6:vp (q6.h 13) _ (p3 b):=h6;have t6:pe (q6.h 14) (q6.i 13) (q6.i 14) (q6.i 15) (q6.i 16) (cC 32 (p2 b)):=t6;rw[<-g6.i 7,<-g6.i 8]at h6;rw[<-g6.i 9]at v4';rw[<-g6.i 11]at v5';refine⟨t6.NK ah ah,?_⟩;refine wV h6 fun q7 g7 h7 v7'=>?_;have h7:vp (q7.h 17) _ (p4 b):=h7;have v7':q7.i 17=aQ 255 (p3 b):=v7';rw[<-g7.i 7,<-g7.i 8]at h7;rw[<-g7.i 9]at v4';rw[<-g7.i 11]at v5';have t6:=t6.ag g7 ah ah ah ah ah;refine Vi h7 fun q8 g8 h8 v8'=>?_;have h8:vp (q8.h 19) _ (p5 b):=h8;have v8':q8.b 19=iZ (p4 b):=v8';rw[<-g8.i 7,<-g8.i 8]at h8;rw[<-g8.i 9]at v4';rw[<-g8.i 11]at v5';have t6:=t6.ag g8 ah ah ah ah ah;rw[<-g8.i 17]at v7';refine wV h8 fun q9 g9 h9 v9'=>?_;have h9:vp (q9.h 21) _ (p6 b):=h9;have v9':q9.i 21=aQ 1099511627776 (p5 b):=v9';rw[<-g9.i 7,<-g9.i 8]at h9;rw[<-g9.i 9]at v4';rw[<-g9.i 11]at v5';have t6:=t6.ag g9 ah ah ah ah ah;rw[<-g9.i 17]at v7';rw[<-g9.b 19]at v8';refine Nb h9 fun q10 g10 h10 t10=>?_;have h10:vp (q10.h 23) _ (p7 b):=h10;have t10:pe (q10.h 24) (q10.i 23) (q10.i 24) (q10.i 25) (q10.i 26) (cC 16 (p6 b)):=t10;rw[<-g10.i 7,<-g10.i 8]at h10;rw[<-g10.i 9]at v4';rw[<-g10.i 11]at v5';have t6:=t6.ag g10 ah ah ah ah ah;rw[<-g10.i 17]at v7';rw[<-g10.b 19]at v8';rw[<-g10.i 21]at v9';refine⟨t10.NK ah ah,?_⟩;refine wV h10 fun q11 g11 h11 v11'=>?_;have h11:vp (q11.h 27) _ (p8 b):=h11;have v11':q11.i 27=aQ 8 (p7 b):=v11';rw[<-g11.i 7,<-g11.i 8]at h11;rw[<-g11.i 9]at v4';rw[<-g11.i 11]at v5';have t6:=t6.ag g11 ah ah ah ah ah;rw[<-g11.i 17]at v7';rw[<-g11.b 19]at v8';rw[<-g11.i 21]at v9';have t10:=t10.ag g11 ah ah ah ah ah;have wi:∀ {m:Int} {s:PS},0<=m->m<=9223372036854775807->IntKind.i64.wrap (aQ m s)=aQ m s:=fun {m s} h0 h1=>by have:=qS (s:=s) h0;exact IntWalk.i64_in _ ah
  have em:Jq.map (CV.ev q11)=fp b (.slice none 0 0):=by
   unfold Jq fp;simp only[aaK];rw[xj (w:=32) (n:=32) (old:=fun _=>.lit 0) t6 rfl (fun _ _=>rfl),xj (w:=16) (n:=16) (old:=fun _=>.lit 0) t10 rfl (fun _ _=>rfl)];have e1:List.map (CV.ev q11) [.int .i64 (.wrap .i64 (.var 9)),.int .u64 (.var 11)]=[Value.int .i64 (aQ 6 (p0 b)),.int .u64 (aQ 1048576 (p1 b))]:=by
    show [Value.int .i64 (IntKind.i64.wrap (q11.i 9)),.int .u64 (q11.i 11)]=_;rw[v4',v5',wi ah ah]
   have e2:List.map (CV.ev q11) [.int .i64 (.wrap .i64 (.var 17)),.bool (.bvar 19),.int .u64 (.var 21)]=[Value.int .i64 (aQ 255 (p3 b)),.bool (iZ (p4 b)),.int .u64 (aQ 1099511627776 (p5 b))]:=by
    show [Value.int .i64 (IntKind.i64.wrap (q11.i 17)),.bool (q11.b 19),.int .u64 (q11.i 21)]=_;rw[v7',v8',v9',wi ah ah]
   rw[e1,e2];rfl
  have hg:AT 29 pS [(431,some 27),(432,none)]=true:=by kernel_rfl
  have ag:=xQ (J:=q11) hg;have est:(SV.agg (ar 300 bU)).ev (assign q11 pS [(431,some 27),(432,none)])=(SV.agg Jq).ev q11:=AL (n0:=29) hg (by kernel_rfl) (fun y hy=>abl _ hy);have x0:(assign q11 pS [(431,some 27),(432,none)]).i 430=0:=by kernel_rfl
  have x1:(assign q11 pS [(431,some 27),(432,none)]).i 353= -1:=by kernel_rfl
  have x2:(assign q11 pS [(431,some 27),(432,none)]).i 354=0:=by kernel_rfl
  have x3:(assign q11 pS [(431,some 27),(432,none)]).i 355=0:=by kernel_rfl
  have x4:(assign q11 pS [(431,some 27),(432,none)]).i 356=0:=by kernel_rfl
  have x5:(assign q11 pS [(431,some 27),(432,none)]).h 431=q11.h 27:=by kernel_rfl
  have x6:(assign q11 pS [(431,some 27),(432,none)]).h 432=Hl.none:=by kernel_rfl
  generalize assign q11 pS [(431,some 27),(432,none)]=qn at ag est x0 x1 x2 x3 x4 x5 x6 ⊢;have est:aD qn 300=fp b (.slice none 0 0):=(aaI (Value.agg.inj est)).trans em;refine⟨⟨0,x0,aa6 _,?_,?_,ah,x2,x3,ah,?_⟩,fun q g ⟨k,ek,hk,hP,hrw,A0,y354,y355,C0,hO⟩=>?_⟩
  .rw[x5,ag.i 7,ag.i 8];exact h11
  .rw[est,x1,x2,x3,x4];rfl
  .rw[x1,x3,x4,x6];exact sH.nil _ _ _
  have hk8:hN b<=8:=by have:=qS (s:=p7 b) (m:=8) ah;unfold hN;omega
  have v11'':q.i 27=hN b:=by rw[g.i 27,v11'];have:=qS (s:=p7 b) (m:=8) ah;unfold hN;omega
  have hrl:(((fu k (p8 b)).1.map aS).length:Int)=k:=by rw[aaB,uh]
  refine⟨fun hlt q20 g20 _=>?_,fun hge=>?_⟩
  .rw[<-g20.i 7,<-g20.i 8,<-g20.h 431]at hP;refine Nb hP fun q21 g21 h21 t21=>?_;have t21:pe (q21.h 442) (q21.i 441) (q21.i 442) (q21.i 443) (q21.i 444) (cC 16 (fu k (p8 b)).2):=t21;refine⟨t21.Vz ah ah,fun q22 g22 _=>?_⟩;have t22:=t21.ag g22 ah ah ah ah ah;have G22:ai 440 q q22:=g20.trans (g21.mono.tr g22);rw[G22.h 432,G22.i 353,G22.i 354,G22.i 355,G22.i 356,y354,Pz (w:=16) (n:=16) (old:=fun _=>.lit 0) t22 rfl (fun _ _=>rfl)];refine⟨⟨⟨_,sH.pre hO ah⟩,ah,by unfold maxLen;omega,ah⟩,fun q23 g23 ⟨A1,C1,happ,_⟩=>?_⟩;have hO2:=sH.app (row:=aS (dv 16 (cC 16 (fu k (p8 b)).2))) hO ah (BF (di _ _)) happ;have G23:ai 440 q q23:=G22.tr g23;have hg:AT 29 pT [(431,some 441),(432,some 446)]=true:=by kernel_rfl
   have ag:=xQ (J:=q23) hg;have est:(SV.agg (ar 300 bU)).ev (assign q23 pT [(431,some 441),(432,some 446)])=(SV.agg Jr).ev q23:=AL (n0:=29) hg (by kernel_rfl) (fun y hy=>abl _ hy);have x0:(assign q23 pT [(431,some 441),(432,some 446)]).i 430=IntKind.u64.wrap (q23.i 430+1):=by kernel_rfl
   have x1:(assign q23 pT [(431,some 441),(432,some 446)]).i 353=q23.i 446:=by kernel_rfl
   have x2:(assign q23 pT [(431,some 441),(432,some 446)]).i 354=0:=by kernel_rfl
   have x3:(assign q23 pT [(431,some 441),(432,some 446)]).i 355=q23.i 355+1:=by kernel_rfl
   have x4:(assign q23 pT [(431,some 441),(432,some 446)]).i 356=q23.i 447:=by kernel_rfl
   have x5:(assign q23 pT [(431,some 441),(432,some 446)]).h 431=q23.h 441:=by kernel_rfl
   have x6:(assign q23 pT [(431,some 441),(432,some 446)]).h 432=q23.h 446:=by kernel_rfl
   generalize assign q23 pT [(431,some 441),(432,some 446)]=qn at ag est x0 x1 x2 x3 x4 x5 x6 ⊢;have est:aD qn 300=Jr.map (CV.ev q23):=aaI (Value.agg.inj est);have hr23:aD q23 300=aD q 300:=aaI (Value.agg.inj (ft (n:=300) (ks:=bU) G23 (ab3 (by kernel_rfl))));rw[NX,hr23,hrw,Nu]at est;have e430:IntKind.u64.wrap (q23.i 430+1)=((k+1:Nat):Int):=by rw[G23.i 430,ek,nL ah ah];omega
   have e355:q23.i 355+1=((k+1:Nat):Int):=by rw[G23.i 355,y355];omega
   rw[x0,x1,x2,x3,x4,x5,x6,e430,e355];refine⟨⟨k+1,rfl,ah,?_,?_,A1,rfl,rfl,C1,?_⟩,ah⟩
   .rw[ag.i 7,ag.i 8,g23.i 7,g23.i 8,g22.i 7,g22.i 8,g23.h 441,g22.h 441,g21.i 7,g21.i 8];exact h21
   .rw[est,e355]
   .show sH _ _ _ _ (((fu k (p8 b)).1++[dv 16 (cC 16 (fu k (p8 b)).2)]).map aS);rw[aaK,<-e355,G23.i 355];exact hO2
  have hkN:k=hN b:=ah;subst hkN;have hP:vp (q.h 431) (.pointer (az (q.i 7) (q.i 8))) (k0 b):=hP;obtain⟨q30,e30⟩:∃ q30,q30=q:=⟨_,rfl⟩;subst e30;have h30:=hP;have Gt30:ai 440 q30 q30:=ai.refl _ _;refine wV h30 fun q31 g31 h31 v31'=>?_;have h31:vp (q31.h 440) _ (k1 b):=h31;have v31':q31.i 440=aQ 1048576 (k0 b):=v31';have Gt31:ai 440 q30 q31:=Gt30.tr g31;rw[<-g31.i 7,<-g31.i 8]at h31;refine wV h31 fun q32 g32 h32 v32'=>?_;have h32:vp (q32.h 442) _ (k2 b):=h32;have v32':q32.i 442=aQ 1048576 (k1 b):=v32';have Gt32:ai 440 q30 q32:=Gt31.tr g32;rw[<-g32.i 7,<-g32.i 8]at h32;rw[<-g32.i 440]at v31';refine wV h32 fun q33 g33 h33 v33'=>?_;have h33:vp (q33.h 444) _ (k3 b):=h33;have v33':q33.i 444=aQ 1048576 (k2 b):=v33';have Gt33:ai 440 q30 q33:=Gt32.tr g33;rw[<-g33.i 7,<-g33.i 8]at h33;rw[<-g33.i 440]at v31';rw[<-g33.i 442]at v32';refine wV h33 fun q34 g34 h34 v34'=>?_;have h34:vp (q34.h 446) _ (k4 b):=h34;have v34':q34.i 446=aQ 1048576 (k3 b):=v34';have Gt34:ai 440 q30 q34:=Gt33.tr g34;rw[<-g34.i 7,<-g34.i 8]at h34;rw[<-g34.i 440]at v31';rw[<-g34.i 442]at v32';rw[<-g34.i 444]at v33';refine wV h34 fun q35 g35 h35 v35'=>?_;have h35:vp (q35.h 448) _ (k5 b):=h35;have v35':q35.i 448=aQ 1048576 (k4 b):=v35';have Gt35:ai 440 q30 q35:=Gt34.tr g35;rw[<-g35.i 7,<-g35.i 8]at h35;rw[<-g35.i 440]at v31';rw[<-g35.i 442]at v32';rw[<-g35.i 444]at v33';rw[<-g35.i 446]at v34';refine wV h35 fun q36 g36 h36 v36'=>?_;have h36:vp (q36.h 450) _ (k6 b):=h36;have v36':q36.i 450=aQ 1048576 (k5 b):=v36';have Gt36:ai 440 q30 q36:=Gt35.tr g36;rw[<-g36.i 7,<-g36.i 8]at h36;rw[<-g36.i 440]at v31';rw[<-g36.i 442]at v32';rw[<-g36.i 444]at v33';rw[<-g36.i 446]at v34';rw[<-g36.i 448]at v35';refine Nb h36 fun q37 g37 h37 t37=>?_;have h37:vp (q37.h 452) _ (uv b):=h37;have t37:pe (q37.h 453) (q37.i 452) (q37.i 453) (q37.i 454) (q37.i 455) (cC 32 (k6 b)):=t37;have Gt37:ai 440 q30 q37:=Gt36.tr g37;rw[<-g37.i 7,<-g37.i 8]at h37;rw[<-g37.i 440]at v31';rw[<-g37.i 442]at v32';rw[<-g37.i 444]at v33';rw[<-g37.i 446]at v34';rw[<-g37.i 448]at v35';rw[<-g37.i 450]at v36';refine⟨t37.NK ah ah,?_⟩;refine wV h37 fun q38 g38 h38 v38'=>?_;have h38:vp (q38.h 456) _ (uP b):=h38;have v38':q38.i 456=aQ 2064 (uv b):=v38';have Gt38:ai 440 q30 q38:=Gt37.tr g38;rw[<-g38.i 7,<-g38.i 8]at h38;rw[<-g38.i 440]at v31';rw[<-g38.i 442]at v32';rw[<-g38.i 444]at v33';rw[<-g38.i 446]at v34';rw[<-g38.i 448]at v35';rw[<-g38.i 450]at v36';have t37:=t37.ag g38 ah ah ah ah ah;refine Nb h38 fun q39 g39 h39 t39=>?_;have h39:vp (q39.h 458) _ (Lh b):=h39;have t39:pe (q39.h 459) (q39.i 458) (q39.i 459) (q39.i 460) (q39.i 461) (cC 32 (uP b)):=t39;have Gt39:ai 440 q30 q39:=Gt38.tr g39;rw[<-g39.i 7,<-g39.i 8]at h39;rw[<-g39.i 440]at v31';rw[<-g39.i 442]at v32';rw[<-g39.i 444]at v33';rw[<-g39.i 446]at v34';rw[<-g39.i 448]at v35';rw[<-g39.i 450]at v36';have t37:=t37.ag g39 ah ah ah ah ah;rw[<-g39.i 456]at v38';refine⟨t39.NK ah ah,?_⟩;refine⟨⟨_,_,(Lh b).l,(Lh b).bad,rfl,rfl,h39⟩,fun q40 g40 ⟨F,hp,_⟩=>?_⟩;have hov:q40.b 462=(!(Lh b).bad&&decide ((Lh b).l=[])):=by
   obtain⟨p',R',bs',bad',e1,e2,hO',hv⟩:=hp;simp only[aaf,aat]at e1 e2;subst e1 e2;obtain⟨e3,e4⟩:=h39.uniq hO';subst e3 e4;simpa [bq] using hv
  have Gt40:ai 440 q30 q40:=Gt39.tr g40;rw[<-g40.i 440]at v31';rw[<-g40.i 442]at v32';rw[<-g40.i 444]at v33';rw[<-g40.i 446]at v34';rw[<-g40.i 448]at v35';rw[<-g40.i 450]at v36';have t37:=t37.ag g40 ah ah ah ah ah;rw[<-g40.i 456]at v38';have t39:=t39.ag g40 ah ah ah ah ah;have hr40:aD q40 300=aD q30 300:=aaI (Value.agg.inj (ft (n:=300) (ks:=bU) Gt40 (ab3 (by kernel_rfl))));rw[<-hr40]at hrw;have hz:=Oz hrw;rw[<-Gt40.i 353,<-Gt40.i 354,<-Gt40.i 355,<-Gt40.i 356]at hrw;rw[<-Gt40.i 353]at A0;rw[<-Gt40.i 354]at y354;rw[<-Gt40.i 355]at y355;rw[<-Gt40.i 356]at C0;rw[<-Gt40.h 432,<-Gt40.i 353,<-Gt40.i 355,<-Gt40.i 356]at hO;have efr:CS.map (CV.ev q40)=fV b (.slice (az (q40.i 353) (q40.i 354)) (q40.i 355).toNat (q40.i 356).toNat):=by
   unfold CS;simp only[aaK];rw[Tv,hrw,KS,xj (w:=32) (n:=32) (old:=fun j=>.var (363+j)) t37 rfl (fun j hj=>(hz j hj).1),xj (w:=32) (n:=32) (old:=fun j=>.var (396+j)) t39 rfl (fun j hj=>(hz j hj).2)];have e1:List.map (CV.ev q40) [.int .u64 (.var 440),.int .u64 (.var 442),.int .u64 (.var 444),.int .u64 (.var 446),.int .u64 (.var 448),.int .u64 (.var 450)]=[Value.int .u64 (aQ 1048576 (k0 b)),.int .u64 (aQ 1048576 (k1 b)),.int .u64 (aQ 1048576 (k2 b)),.int .u64 (aQ 1048576 (k3 b)),.int .u64 (aQ 1048576 (k4 b)),.int .u64 (aQ 1048576 (k5 b))]:=by
    show [Value.int .u64 (q40.i 440),.int .u64 (q40.i 442),.int .u64 (q40.i 444),.int .u64 (q40.i 446),.int .u64 (q40.i 448),.int .u64 (q40.i 450)]=_;rw[v31',v32',v33',v34',v35',v36']
   have e2:List.map (CV.ev q40) [.int .i64 (.wrap .i64 (.var 456))]=[Value.int .i64 (aQ 2064 (uv b))]:=by
    show [Value.int .i64 (IntKind.i64.wrap (q40.i 456))]=_;rw[v38',wi ah ah]
   rw[e1,e2];unfold pL fV;simp only[aaw]
  have his:bN (q40.h 432) (fV b (.slice (az (q40.i 353) (q40.i 354)) (q40.i 355).toNat (q40.i 356).toNat)) (lI b):=by
   refine Vd hby rfl trivial ?_;rw[y354];exact hO.rd
  have zp:∀ {qq:Env} {mem:Mem},(∀ R row h,bN R row h->h.Form->rD h≠b)->postOf ot [.slice (az x y) b.length c] [] [R] qq mem (.tup [.agg NY,.one (.int .i64 (.lit 2))]):=by
   intro qq mem hno _;have ev:(TV.tup [SV.agg NY,SV.one (CV.int IntKind.i64 (E.lit 2))]).ev qq=.tuple #[.agg Q9.toArray,.int .i64 2]:=by
    show Value.tuple #[.agg (NY.map (CV.ev qq)).toArray,.int .i64 2]=_;rw[Ra]
   exact⟨[],[],rfl,rfl,Uj ev,_,b,R,rfl,rfl,hRd,Or.inr ⟨ev,hno⟩⟩
  have no1:¬(q40.b 462=true/\(lI b).Form)->∀ R row h,bN R row h->h.Form->rD h≠b:=by
   rintro hn R' row' h' hx' hf' rfl;obtain⟨l1,l2,l3⟩:=XO hx' hf';exact hn ⟨by rw[hov,l1,l2];rfl,l3⟩
  rw[efr];refine⟨fun hv=>⟨⟨_,_,_,rfl,rfl,his⟩,fun q41 g41 ⟨F4,hp4,_⟩=>?_⟩,fun hv=>zp (no1 fun hh=>hv hh.1)⟩;have hfv:=kJ his hp4;have hfv:q41.b 463=decide (lI b).Form:=by simpa [bq] using hfv
  rw[hfv,aag];refine⟨fun hf=>zp (no1 fun hh=>hf hh.2),fun hf _=>?_⟩;have hbl:rD (lI b)=b:=by
   rw[hov]at hv;simp only[aah,abf,aag]at hv;exact XN hby hv.1 hv.2
  have hag:CS.map (CV.ev q41)=CS.map (CV.ev q40):=CV.gD g41 CS (by kernel_rfl);rw[<-g41.i 353,<-g41.i 354,<-g41.i 355,<-g41.i 356]at efr his;rw[<-g41.h 432]at his;have ev:(TV.tup [SV.agg CS,SV.one (CV.int IntKind.i64 (E.lit 0))]).ev q41=.tuple #[.agg (fV b (.slice (az (q41.i 353) (q41.i 354)) (q41.i 355).toNat (q41.i 356).toNat)).toArray,.int .i64 0]:=by
   show Value.tuple #[.agg (CS.map (CV.ev q41)).toArray,.int .i64 0]=_;rw[hag,efr]
  refine⟨[],[6],rfl,rfl,⟨Ri b (q41.i 353) (q41.i 354) (q41.i 355) (q41.i 356),?_,Ep ⟨by show -1<=q41.i 353;rw[g41.i 353];exact A0,by show 0<=q41.i 354;rw[g41.i 354];omega,by show 0<=q41.i 355;rw[g41.i 355];omega,by show 0<=q41.i 356;rw[g41.i 356];exact C0⟩,trivial,trivial⟩,_,b,R,rfl,rfl,hRd,Or.inl ⟨_,lI b,ev,?_,hf,hbl⟩⟩
  .rw[ev,<-M0];kernel_rfl
  .show bN (cZ [q41.h 432]) _ _;rw[aN];exact his
open Go.Proofs.YtomdimlnggpgbaaGreatDoor.D hiding aM aC fI
def mJ (b:List Int) (c:Pc):Prop:=c.h.Form/\rD c.h=(aW b false 4096).1/\(aW (aW b false 4096).2.1 (aW b false 4096).2.2 4096).2=([],false)/\c.b=(aW (aW b false 4096).2.1 (aW b false 4096).2.2 4096).1/\∃ R R2 row,fM R R2 row c
inductive Ld:List (List Int)->(Nat->List Pc)->Prop
 | nil:Ld [] (fun _=>[])
 | put {l:List (List Int)} {st:Nat->List Pc} {b:List Int} {c:Pc} (h:Ld l st) (hc:mJ b c) (h0:br st c=0):Ld (l++[b]) (cP st c)
theorem mJ.uniq {b:List Int} {c c':Pc} (h:mJ b c) (h':mJ b c'):c=c':=by
 obtain⟨h1,h2,_,h4,R,R2,row,hx⟩:=h;obtain⟨k1,k2,_,k4,R',R3,row',kx⟩:=h';have e:=IY hx.hd kx.hd h1 k1 (h2.trans k2.symm);cases c;cases c';simp only at e h4 k4;rw[e,h4,k4]
theorem Ld.uniq:∀ {l:List (List Int)} {st st':Nat->List Pc},Ld l st->Ld l st'->st=st':=by
 intro l st st' h
 induction h generalizing st' with
 | nil =>
  intro h';generalize e:([]:List (List Int))=l at h';cases h' with
  | nil=>rfl
  | put _ _ _=>simp at e
 | @put l st b c _ hc _ ih =>
  intro h';generalize e:l++[b]=l2 at h';cases h' with
  | nil=>simp at e
  | @put l' st2 b' c' h2 hc' _ =>
   obtain⟨rfl,e2⟩:=acu e rfl;obtain rfl:b=b':=by simpa using e2
   rw[ih h2,hc.uniq hc']
theorem Ld.snoc {l:List (List Int)} {b:List Int} {st:Nat->List Pc} (h:Ld (l++[b]) st):∃ st0 c,Ld l st0/\mJ b c/\br st0 c=0/\st=cP st0 c:=by
 generalize e:l++[b]=l2 at h;cases h with
 | nil=>simp at e
 | @put l' st2 b' c' h2 hc' h0 =>
  obtain⟨rfl,e2⟩:=acu e rfl;obtain rfl:b=b':=by simpa using e2
  exact⟨st2,c',h2,hc',h0,rfl⟩
theorem Ld.init {l:List (List Int)} {k:Nat} {st:Nat->List Pc} (h:Ld l st):∃ st',Ld (l.take k) st':=by
 induction h with
 | nil=>exact⟨_,by simpa using Ld.nil⟩
 | @put l st b c h hc h0 ih =>
  rcases aba k (l.length+1)with hk | hk
  .rw[acd ah];exact ih
  .rw[abI (by simp;omega)];exact⟨_,h.put hc h0⟩
theorem Ld.len {l:List (List Int)} {st:Nat->List Pc} (h:Ld l st):∀ i,(st i).length<=l.length:=by
 induction h with
 | nil=>intro i;exact aav _
 | @put l st b c h hc h0 ih =>
  intro i;have h1:=qA st c i;have h2:=ih i;rw[aac,aay];omega
theorem Lp {u v:Value} {R F:Hl} {bs:List Int} {K:List Hl} (h:cV R u bs) (hp:oy.post [u] [] [R] v K F):gC F v bs false:=by
 obtain⟨u',bs',R',e1,e2,h',hI⟩:=hp;simp only[aaf,aat]at e1 e2;subst e1 e2;rw[h.uniq h'];exact hI
theorem BQ {p v:Value} {H K F:Hl} {bs:List Int} {bad:Bool} {most:Int} (h:gC H p bs bad) (hp:wO.post [p,.int .i64 most] [H] [] v [K] F):gC K p (aW bs bad most).2.1 (aW bs bad most).2.2/\bQ F 5 v (aW bs bad most).1:=by
 obtain⟨p',m',H',bs',bad',K',e1,e2,h',e3,hI,hO⟩:=hp;simp only[aaf,aat,Value.int.injEq,aaV]at e1 e2 e3;obtain⟨rfl,rfl⟩:=e1;subst e2 e3;obtain⟨rfl,rfl⟩:=h.uniq h';exact⟨hI,hO⟩
theorem Lg {p v:Value} {R F:Hl} {bs:List Int} {bad:Bool} {K:List Hl} (h:gC R p bs bad) (hp:wj.post [p] [] [R] v K F):v=.bool (!bad&&decide (bs=[])):=by
 obtain⟨p',R',bs',bad',e1,e2,h',hv⟩:=hp;simp only[aaf,aat]at e1 e2;subst e1 e2;obtain⟨rfl,rfl⟩:=h.uniq h';exact hv
theorem zF {u v:Value} {R F:Hl} {bs:List Int} {K:List Hl} (h:cV R u bs) (hp:ot.post [u] [] [R] v K F):zG bs v F:=by
 obtain⟨u',bs',R',e1,e2,h',hI⟩:=hp;simp only[aaf,aat]at e1 e2;subst e1 e2;rw[h.uniq h'];exact hI
theorem KL {x:Nat} {H K T B RG F:Hl} {row:List Value} {st:Nat->List Pc} {c:Pc} {v:Value} (h:oZ H x st) (hx:fM T B row c) (hp:Ba.post [.pointer (some ⟨x,0,none⟩),.agg row.toArray] [H] [T,B,RG] v [K] F):v=.int .i64 (br st c)/\oZ K x (cP st c):=by
 obtain⟨x',H',st',row',T',B',RG',c',K',e1,e2,e3,i1,i2,e4,hv,hI⟩:=hp;simp only[aaf,aat,Value.pointer.injEq,aaj,Addr.mk.injEq,Value.agg.injEq]at e1 e2 e3 e4;obtain⟨rfl,e1⟩:=e1;obtain⟨rfl,rfl,rfl⟩:=e3;have e1:=aaI e1;subst e1 e2 e4;obtain rfl:=hx.uniq i2;have est:∀ i,i<6->st i=st' i:=fun i hi=>h.rd.st i1.rd hi;exact⟨by rw[nh est c];exact hv,hI.congr fun i hi=>(tA est c hi).symm⟩
theorem ma {bs:List Int} {bad:Bool} {most:Int} (h:ak bs):ak (aW bs bad most).1/\(aW bs bad most).1.length<=bs.length:=by
 unfold aW;split
 .exact⟨fun z hz=>(by cases hz),aa6 _⟩
 .refine⟨fun z hz=>h z (abO (abC hz)),?_⟩;simp only[aaz,aaF];omega
theorem vW (bs:List Int) (bad:Bool) (most:Int):(aW bs bad most).1.length<=4096:=by
 unfold aW;split
 .exact aa6 _
 .rename_i hc;have h4:=Int.not_lt.1 fun x=>hc (Or.inr (Or.inr (Or.inr x)));simp only[aaz];omega
theorem Js {T B:Hl} {row:List Value} {h:Hd} {u:Value} {b:List Int} (hh:bN T row h) (hu:cV B u b) (hb:ak b) (hl:b.length<=1000000):fM T B (row++[u]) ⟨h,b⟩:=by
 have h125:row.length=125:=fU hh.ok;obtain⟨x,y,c,rfl,_⟩:=id hu;refine⟨?_,?_,?_,hb,hl⟩
 .have e:rI=dZ++[Kd.slice]:=rfl;rw[e];exact ku hh.ok rfl
 .rw[acp h125];exact hh
 .rw[aan,aau ah,h125];exact hu
theorem bZ.b {F:Hl} {v:Value} {rows:List (List Int)} (h:bZ F v rows):js F F v rows:=by
 obtain⟨rx,rc,hrx,rfl⟩:=h.rep;obtain⟨us,ho,hr⟩:=id h;have hul:=bZ.len ho;refine⟨us,rx,0,rc,by rw[hul],aap _,hul,fun j u hu=>?_,fun j u r hu hrr=>(hr j u r hu hrr).rd⟩;have hj:j<rows.length:=by have:=(aai.1 hu).1;omega
 have:=aV.cellAt (l:=(rows.length:Int)) (c:=(rc:Int)) (by rw[aaa,aaa];exact ho) hrx hj;exact⟨this.1,by rw[acN,aaP,this.2,hu]⟩
noncomputable def qM:Sx.Spec where
 fn:=27
 own:=[.arg 0]
 rd:=[2000000]
 res:=[.one .ptr,.one (.int .i64)]
 links:=[0]
 pre:=fun xs Hs Rs=>∃ dp H D RG,xs=[dp]/\Hs=[H]/\Rs=[RG]/\aE H dp D/\ak (kU D)/\ak (gU D)/\fx D=0/\(bY D).recs.length<=100000/\(∀ r∈(bY D).recs,r.length<=1000000/\ak r)/\uu RG 5/\RG.cell 4 0=some yn
 post:=fun xs Hs Rs v Hs' F=>∃ dp H D RG H',xs=[dp]/\Hs=[H]/\Rs=[RG]/\aE H dp D/\Hs'=[H']/\aE H' dp D/\((∃ pv st,v=.tuple #[pv,.int .i64 0]/\Ld (bY D).recs st/\fK F pv dp (bY D) st)\/((∀ st,¬Ld (bY D).recs st)/\v=.tuple #[.pointer none,.int .i64 2]))
noncomputable def WQ:List Sx.Spec:=[oF,BN,Ev,oy,wO,wj,ot,Ba,oz]
theorem TL:∀ t∈WQ,t.OK Tryz.prog:=au vc <| au FD <| au Ew <| au uR <| au FK <| au EY <| au Bv <| au Ey <| au uS <| bR
theorem Ye:oy.res=[.one .ptr]:=rfl
theorem Yf:wO.res=[.one .sl]:=rfl
theorem Yg:wj.res=[.one .bool]:=rfl
theorem Yh:ot.res=[.agg bU,.one (.int .i64)]:=rfl
noncomputable def tS:aG Tryz.prog WQ qM.fn where
 Λ:=fun p=>if lp p&&p.head?==some 60 then some ⟨0,[(12,TI .i64 (.var 50))],[(4,.hp 51 [] [.var 10] [])],60⟩else none
 args:=[TP (.var 0) (.lit 0)]
 mem:=[.hp 1 [] [.var 0] [],.ro 2 [.lit 0,.lit 1,.lit 2,.lit 3,.lit 4,.lit 5] false]
 nv:=3
set_option maxRecDepth 20000 in
theorem HN:qM.OK Tryz.prog:=by
 refine Spec.aT (Γ:=WQ) TL ?_;rintro xs Hs Rs hl1 hl2 ⟨dp,H,D,RG,rfl,rfl,rfl,hD,hlo,hhi,hE,hn,hrec,hK,hEt⟩;obtain⟨da,s,m,es,clock,hdp,hDi⟩:=id hD;refine⟨tS,aM [(da:Int)] false [Hl.none,H,RG],
  fun _ q=>∃ (k x:Nat) (st:Nat->List Pc),q.i 50=k/\k<=(bY D).recs.length/\Value.pointer (az (q.i 10) (q.i 11))=.pointer (some ⟨x,0,none⟩)/\Ld ((bY D).recs.take k) st/\oZ (q.h 51) x st,
  fun _ q=>((bY D).recs.length-q.i 50).toNat,?_,⟨?_,?_,?_,?_⟩,(fun _ h=>nomatch h),?_⟩
 .show [Value.pointer (az (da:Int) 0)]=_;rw[gb,hdp]
 .intro r hr ho;simp [tS]at hr;rcases hr with rfl | rfl
  .exact⟨H,aF,Hl.le_refl _⟩
  .cases ho
 .intro r hr ho;simp [tS]at hr;rcases hr with rfl | rfl
  .cases ho
  .exact⟨RG,aF,Hl.le_refl _⟩
 .simp [tS,bE.own]
 .intro r hr;simp [tS]at hr;rcases hr with rfl | rfl<;>trivial
 refine aG.read [bU] [] [] ?_;generalize hρ:aM [(da:Int)] false [Hl.none,H,RG]=J;have V:∀ q:Env,ai 3 J q->q.i 0=da/\q.h 2=RG:=fun q g=>by
  rw[g.i 0,g.h 2,<-hρ];exact⟨rfl,rfl⟩
 have v0:J.i 0=da:=by rw[<-hρ];rfl
 have w1:J.h 1=H:=by rw[<-hρ];rfl
 clear hρ;have ep:Value.pointer (az (da:Int) 0)=dp:=by rw[gb,hdp]
 simp only[go_sem,Nat.reduceAdd,WQ,VS,VT,VU,VW,VX,Ye,Yf,Yg,Yh,JL,OA,Yu];have bad:∀ {k:Nat} {st:Nat->List Pc} {r:List Int},Ld ((bY D).recs.take k) st->(bY D).recs[k]?=some r->(∀ c,mJ r c->br st c≠0)->∀ st',¬Ld (bY D).recs st':=fun {k st r} hL hr hb st' hL'=>by
  obtain⟨st2,h2⟩:=hL'.init (k:=k+1);rw[abv,hr]at h2;obtain⟨st0,c,h0,hc,ha,_⟩:=Ld.snoc h2;rw[h0.uniq hL]at ha;exact hb c hc ha
 have nPre:∀ {R:Hl} {v:Value} {n:Int},pd R v n->oz.pre [v] [] [R,RG]:=fun h=>⟨_,_,RG,_,rfl,rfl,hEt,h⟩;have nRes:∀ {R:Hl} {v w:Value} {n:Int} {K:List Hl} {F:Hl},pd R v n->oz.post [v] [] [R,RG] w K F->w=.int .i64 n:=fun h hp=>by
  obtain⟨e,R',G',e1,e2,hq⟩:=hp;simp only[aaf,aat]at e1 e2;obtain⟨rfl,rfl⟩:=e2;subst e1;exact hq _ h
 have met:∀ {v w:Value} {z n:Int} {s:ByteArray},0<=z->v=.iface 164 (.pointer (az z 0))->w=.iface 222 (.agg #[v])->pd (Hl.one z.toNat (.cells #[.string s,.int .i64 n] 168 (0,0))) w n:=fun hz e1 e2=>Or.inr ⟨_,_,by rw[e2,e1,av hz];rfl,Hl.aX _ _⟩;have vi1:∀ {q:Env} {n:Nat} {T:TypeId} {v:Value},q.v n=.iface T v->aA q (.vint n)=1:=fun h=>by rw[tq,h];rfl
 rw[v0,w1,ep];refine⟨⟨dp,H,D,rfl,rfl,hD,hlo,hhi⟩,fun q1 g1 ⟨F1,hp1,hF1,hn1⟩=>?_⟩;obtain⟨pv,hD1,hv,hS,_⟩:=sz hD hp1;simp only[Value.tuple.injEq,aaJ,aaf,Value.int.injEq,aaV,aat]at hv;obtain⟨rfl,hv⟩:=hv;have h5:q1.i 5=0:=hv.trans hE;have hS:=hS hE;rw[<-hF1 trivial]at hS;have finE:∀ {q:Env} {t:Mem} {n:Nat},q.h 3=q1.h 3->q.i n=2->(∀ st',¬Ld (bY D).recs st')->postOf qM [dp] [H] [RG] q (.hp 3 [1] [.var 0] []::t) (.tup [.one (.hptr (.lit (-1)) (.lit 0)),.one (.int .i64 (.var n))]):=by
  intro q t n h3 h2 hb _;refine⟨[[0]],[],rfl,rfl,⟨(bc fun k=>if k=0 then -1 else if k=1 then 0 else q.i n),rfl,⟨by show(-1:Int)<= -1;omega,aap 0⟩,trivial,trivial⟩,dp,H,D,RG,_,rfl,rfl,rfl,hD,rfl,?_,Or.inr ⟨hb,?_⟩⟩
  .show aE (cZ [q.h 3]) _ _;rw[aN,h3];exact hD1
  .show Value.tuple #[Value.pointer (az (-1) 0),Value.int .i64 (q.i n)]=_;rw[h2];rfl
 refine⟨fun hne=>absurd h5 hne,fun _=>⟨⟨_,_,dp,bY D,rfl,rfl,hS.rd,ah,fun r hr=>(hrec r hr).1⟩,fun q2 g2 ⟨F2,hp2,hF2,hn2⟩=>⟨rfl,fun q3 g3 ⟨F3,⟨x,hx,hI⟩,hF3,hn3⟩=>?_⟩⟩⟩;have hR:=BO hS.rd hp2;rw[<-hF2 trivial]at hR;rw[<-hF3 trivial]at hI;obtain⟨us,rx,ry,rc,hv,hry,hul,hcell,hrd⟩:=hR.b;have nn:0<=q2.i 7/\0<=q2.i 8:=⟨hn2.1.2.1,hn2.1.2.2.1⟩;have h8:q2.i 8=(bY D).recs.length:=by
  simp only[Value.slice.injEq]at hv;have:=hv.2.1;omega
 have e38:q3.i 8=(bY D).recs.length:=by rw[g3.i 8,h8]
 refine⟨ah,⟨0,x,fun _=>[],rfl,aa6 _,hx,by simpa using Ld.nil,hI⟩,fun q4 g4 ⟨k,x',st,ek,hk,hp4,hL,hI4⟩=>?_⟩;have A24:ai 10 q2 q4:=g3.tr g4;have A14:ai 6 q1 q4:=g2.tr A24;have A04:ai 3 J q4:=g1.tr A14;rw[ek,A24.i 8,h8];refine⟨fun hlt=>?_,fun hge=>?_⟩
 .have hkn:k<(bY D).recs.length:=ah;have hkr:(bY D).recs[k]?=some (bY D).recs[k]:=aab hkn;obtain⟨hrl,hrb⟩:=hrec _ (abt hkn);generalize (bY D).recs[k]=r at hkr hrl hrb;have hku:us[k]?=some us[k]:=aab ah;have hru:=hrd k _ _ hku hkr;obtain⟨hrx,hcu⟩:=hcell k _ hku;generalize us[k]=u at hku hru hcu;simp only[Value.slice.injEq]at hv;obtain⟨s1,s2⟩:=oD hrx hry nn.1 hv.1;have hus:∃ a l c,u=Value.slice a l c:=by obtain⟨a,b,c,e,_⟩:=id hru;exact⟨_,_,_,e⟩
  have cu:∀ q:Env,ai 60 q4 q->(q.h 6).cell (q.i 6).toNat (q.i 7+q.i 50).toNat=some u:=fun q g=>by
   rw[g.h 6,g.i 6,g.i 7,g.i 50,ek,A24.h 6,A24.i 6,A24.i 7,s1,s2,show(ry+(k:Int)).toNat=ry.toNat+k by omega];exact hcu
  have i4:=cu q4 (ai.refl _ _);rw[ek]at i4;rw[i4];refine⟨by rw[A24.i 6,s1];exact hrx,by rw[A24.i 7];exact nn.1,ah,by obtain⟨a,l,c,rfl⟩:=hus;rfl,fun q5 g5 _=>?_⟩;rw[cu q5 g5,gh hus];refine⟨⟨u,r,_,rfl,rfl,?_,hrb,hrl⟩,fun q6 g6 ⟨F6,p6,hF6,hn6⟩=>?_⟩
  .rw[g5.h 6,A24.h 6];exact hru
  have I6:=Lp (by rw[g5.h 6,A24.h 6];exact hru) p6;rw[<-hF6 trivial]at I6;refine⟨⟨_,4096,_,r,false,rfl,rfl,I6,aB⟩,fun q7 g7 ⟨F7,p7,hF7,hn7⟩=>?_⟩;obtain⟨I7,O7⟩:=BQ (K:=q7.h 63) I6 p7;rw[<-hF7 trivial]at O7;obtain⟨tb,tl⟩:=ma (bs:=r) (bad:=false) (most:=4096) hrb;refine⟨⟨_,_,_,rfl,rfl,O7.rd.w,tb,ah⟩,fun q8 g8 ⟨F8,p8,hF8,hn8⟩ q9 g9 _=>?_⟩;have P8:=zF O7.rd.w p8;rw[<-hF8 aB]at P8;have A79:ai 67 q7 q9:=g8.tr g9;have A69:ai 63 q6 q9:=g7.tr A79;rw[A69.i 61,A69.i 62,A79.h 63];refine⟨⟨_,4096,_,_,_,rfl,rfl,I7,aB⟩,fun q10 g10 ⟨F10,p10,hF10,hn10⟩=>?_⟩;obtain⟨I10,O10⟩:=BQ (K:=q10.h 197) I7 p10;rw[<-hF10 trivial]at O10;have A810:ai 196 q8 q10:=g9.tr g10;have B10:ai 60 q4 q10:=g5.trans (g6.mono.trans (g7.mono.trans (g8.mono.tr A810)));have W:∀ q:Env,ai 60 q4 q->q.h 3=q1.h 3/\q.h 2=RG/\q.h 51=q4.h 51/\Value.pointer (az (q.i 10) (q.i 11))=.pointer (some ⟨x',0,none⟩):=fun q g=>by
   rw[g.h 3,g.h 2,g.h 51,g.i 10,g.i 11,A14.h 3,(V q4 A04).2];exact⟨rfl,rfl,rfl,hp4⟩
  have p61:∀ q:Env,ai 196 q8 q->Value.pointer (az (q.i 61) (q.i 62))=Value.pointer (az (q6.i 61) (q6.i 62)):=fun q g=>by
   rw[g.i 61,g.i 62,g8.i 61,g8.i 62,g7.i 61,g7.i 62]
  have e195:q10.i 195=q8.i 195:=A810.i 195;refine⟨fun h0=>?_,fun hne=>?_⟩
  .have P:∃ h,bN (q8.h 67) ((ar 67 bU).map (CV.ev q8)) h/\h.Form/\rD h=(aW r false 4096).1:=by
    rcases P8 with ⟨row,h,e,hh,hF,hB⟩ | ⟨e,_⟩
    .simp only[Value.tuple.injEq,aaJ,aaf,Value.agg.injEq,aat]at e;rw[e.1];exact⟨h,hh,hF,hB⟩
    .exfalso;simp only[Value.tuple.injEq,aaJ,aaf,Value.int.injEq,aaV,aat]at e;have e2:q8.i 195=2:=e.2;omega
   obtain⟨h,hh,hF,hB⟩:=P;rw[p61 q10 A810];refine⟨⟨_,_,_,_,rfl,rfl,I10⟩,fun q11 g11 ⟨F11,p11,_⟩=>?_⟩;have o11:q11.b 201=(!(aW (aW r false 4096).2.1 (aW r false 4096).2.2 4096).2.2&&decide ((aW (aW r false 4096).2.1 (aW r false 4096).2.2 4096).2.1=[])):=Value.bool.inj (Lg I10 p11);have B11:ai 60 q4 q11:=B10.tr g11;refine⟨fun hno=>?_,fun hyes=>?_⟩
   .intro q12 g12 n12 q13 g13 p13;refine⟨by rw[vi1 p13];omega,fun q14 g14 p14 q15 g15 _=>?_⟩;have uv:=(g15.v 204).trans p14;have e202:q15.i 202=q12.i 202:=by rw[g15.i 202,g14.i 202,g13.i 202]
    have B15:ai 60 q4 q15:=B11.trans (g12.mono.trans (g13.mono.trans (g14.mono.tr g15)));have hm:=met (s:={data:=#[112,105,101,99,101]}) (n:=2) n12 p13 uv;rw[<-e202]at hm;refine⟨by rw[vi1 uv];omega,fun _=>?_,fun h=>absurd ((vi1 uv).symm.trans h) aB⟩;rw[(W q15 B15).2.1];refine⟨nPre hm,fun q16 g16 ⟨F16,uP,_⟩=>finE (W q16 (B15.tr g16)).1 (by simpa using nRes hm uP) (bad hL hkr fun c hc=>?_)⟩;exfalso;rw[o11,hc.2.2.1]at hno;exact hno rfl
   .have hz:(aW (aW r false 4096).2.1 (aW r false 4096).2.2 4096).2=([],false):=by
     rw[o11]at hyes;simp only[aah,aag,abf]at hyes;exact Prod.ext hyes.2 hyes.1
    have I7b:=I7.byte;obtain⟨ub,ul⟩:=ma (bs:=(aW r false 4096).2.1) (bad:=(aW r false 4096).2.2) (most:=4096) I7b.1;intro q12 g12 n12;have A812:ai 196 q8 q12:=A810.trans (g11.mono.tr g12);have A1012:ai 201 q10 q12:=g11.tr g12;have B12:ai 60 q4 q12:=B11.tr g12;obtain⟨_,y2,y51,yp⟩:=W q12 B12;have aD:List.map (CV.ev q12) (ar 67 bU++[CV.sl (.var 197) (.var 198) (.var 199) (.var 200)])=(ar 67 bU).map (CV.ev q8)++[.slice (az (q10.i 197) (q10.i 198)) (q10.i 199).toNat (q10.i 200).toNat]:=by
     have er:(ar 67 bU).map (CV.ev q12)=(ar 67 bU).map (CV.ev q8):=aaQ Array.toList (Value.agg.inj (ft (ks:=bU) (n:=67) A812 aB));rw[aaK,er];show _++[Value.slice (az (q12.i 197) (q12.i 198)) (q12.i 199).toNat (q12.i 200).toNat]=_;rw[A1012.i 197,A1012.i 198,A1012.i 199,A1012.i 200]
    have hx:=Js hh O10.rd.w ub (by have:=I7b.2;omega);rw[aD,y51,yp,y2,A812.h 67,A1012.h 198];have hSh:mK st:=fun i _=>by
     have h1:=hL.len i;rw[aaz]at h1;omega
    have hul9:(aW (aW r false 4096).2.1 (aW r false 4096).2.2 4096).1.length<=900000:=by
     have:=vW (aW r false 4096).2.1 (aW r false 4096).2.2 4096;omega
    refine⟨⟨x',_,st,_,_,_,RG,_,rfl,rfl,rfl,hI4,hSh,hx,hul9,hK⟩,fun q13 g13 ⟨F13,p13,_⟩=>?_⟩;obtain⟨hv13,hI13⟩:=KL (K:=q13.h 203) hI4 hx p13;have hPc:mJ r ⟨h,(aW (aW r false 4096).2.1 (aW r false 4096).2.2 4096).1⟩:=⟨hF,hB,hz,rfl,_,_,_,hx⟩;have e203:q13.i 203=br st ⟨h,(aW (aW r false 4096).2.1 (aW r false 4096).2.2 4096).1⟩:=by simpa using hv13
    have B13:ai 60 q4 q13:=B12.tr g13;refine⟨fun hne=>?_,fun h0=>?_⟩
    .intro q14 g14 n14 q15 g15 uv;refine⟨by rw[vi1 uv];omega,fun q16 g16 uP=>?_⟩;have e205:q16.i 205=q14.i 205:=by rw[g16.i 205,g15.i 205]
     have B16:ai 60 q4 q16:=B13.trans (g14.mono.trans (g15.mono.tr g16));have hm:=met (s:={data:=#[108,111,97,100]}) (n:=2) n14 uv uP;rw[<-e205]at hm;refine⟨by rw[vi1 uP];omega,fun _=>?_,fun h=>absurd ((vi1 uP).symm.trans h) aB⟩;rw[(W q16 B16).2.1];refine⟨nPre hm,fun q17 g17 ⟨F17,Lh,_⟩=>finE (W q17 (B16.tr g17)).1 (by simpa using nRes hm Lh) (bad hL hkr fun c hc=>?_)⟩;rw[hc.uniq hPc,<-e203];exact hne
    .have e50:aA q13 (E.wrap .i64 ((E.var 50).add (E.lit 1)))=((k+1:Nat):Int):=by
      rw[bP,bL,al,aq,B13.i 50,ek,IntKind.wrap_i64];omega
     refine⟨⟨k+1,x',cP st _,e50,ah,(W q13 B13).2.2.2,?_,hI13⟩,?_⟩
     .rw[abv,hkr];exact hL.put hPc (e203.symm.trans h0)
     .show(((bY D).recs.length:Int)-aA q13 (E.wrap .i64 ((E.var 50).add (E.lit 1)))).toNat<_;rw[e50];omega
  .have P:∀ R row h,bN R row h->h.Form->rD h≠(aW r false 4096).1:=by
    rcases P8 with ⟨row,h,e,_⟩ | ⟨_,h⟩
    .exfalso;simp only[Value.tuple.injEq,aaJ,aaf,Value.int.injEq,aaV,aat]at e;have e2:q8.i 195=0:=e.2;omega
    .exact h
   intro q12 g12 n12 q13 g13 p13;refine⟨by rw[vi1 p13];omega,fun q14 g14 p14 q15 g15 _=>?_⟩;have uv:=(g15.v 203).trans p14;have e201:q15.i 201=q12.i 201:=by rw[g15.i 201,g14.i 201,g13.i 201]
   have B15:ai 60 q4 q15:=B10.trans (g12.mono.trans (g13.mono.trans (g14.mono.tr g15)));have hm:=met (s:={data:=#[112,105,101,99,101]}) (n:=2) n12 p13 uv;rw[<-e201]at hm;refine⟨by rw[vi1 uv];omega,fun _=>?_,fun h=>absurd ((vi1 uv).symm.trans h) aB⟩;rw[(W q15 B15).2.1];refine⟨nPre hm,fun q16 g16 ⟨F16,uP,_⟩=>finE (W q16 (B15.tr g16)).1 (by simpa using nRes hm uP) (bad hL hkr fun c hc=>?_)⟩;obtain⟨c1,c2,_,_,R,R2,row,cx⟩:=hc;exact absurd c2 (P _ _ _ cx.hd c1)
 .have hkn:k=(bY D).recs.length:=ah;rw[hkn,abI (aav _)]at hL;intro q5 g5 p5 hdis;have A15:ai 6 q1 q5:=A14.tr g5;have d1:(Hl.one (q5.i 60).toNat (.cells #[.pointer (az (q5.i 3) (q5.i 4)),.pointer (az (q5.i 10) (q5.i 11))] 125 (0,0))).bT (q5.h 4):=hdis 5 2 _ _ aB rfl rfl rfl;have d2:(Hl.one (q5.i 60).toNat (.cells #[.pointer (az (q5.i 3) (q5.i 4)),.pointer (az (q5.i 10) (q5.i 11))] 125 (0,0))).bT (q5.h 51):=hdis 5 4 _ _ aB rfl rfl rfl;have d3:(q5.h 4).bT (q5.h 51):=hdis 2 4 _ _ aB rfl rfl rfl;have e9:Value.pointer (az (q5.i 10) (q5.i 11))=.pointer (some ⟨x',0,none⟩):=by rw[g5.i 10,g5.i 11];exact hp4
  rw[e9]at d1 d2;refine⟨[[0]],[5,2,4],rfl,rfl,⟨(bc fun k=>if k=0 then q5.i 60 else 0),rfl,⟨by show -1<=q5.i 60;omega,aap 0⟩,trivial,trivial⟩,dp,H,D,RG,_,rfl,rfl,rfl,hD,rfl,?_,Or.inl ⟨_,st,rfl,hL,?_⟩⟩
  .show aE (cZ [q5.h 3]) _ _;rw[aN,A15.h 3];exact hD1
  .refine⟨(q5.i 60).toNat,.pointer (az (q5.i 3) (q5.i 4)),x',q5.h 4,q5.h 51,?_,?_,?_,d1,d2,d3,?_⟩
   .show Value.pointer (az (q5.i 60) 0)=_;rw[av p5];rfl
   .rw[A15.i 3,A15.i 4,A15.h 4];exact hS
   .rw[g5.h 51];exact hI4
   .show cZ [Hl.one (q5.i 60).toNat (.cells #[.pointer (az (q5.i 3) (q5.i 4)),.pointer (az (q5.i 10) (q5.i 11))] 125 (0,0)),q5.h 4,q5.h 51]=_;rw[e9];rfl
def E6:Sx.Spec where
 fn:=36
 own:=[]
 rd:=[100]
 res:=[.agg (bU++[Ck.slw]),.one .bool]
 pre:=fun xs Hs Rs=>∃ (x y:Int) (c:Nat) (bs:List Int) (R:Hl),xs=[.slice (az x y) bs.length c]/\Rs=[R]/\cV R (.slice (az x y) bs.length c) bs/\0<=y/\bs.length<=c/\ak bs/\bs.length<=1000000
 post:=fun xs Hs Rs v Hs' F=>∃ (u:Value) (bs:List Int) (R:Hl),xs=[u]/\Rs=[R]/\cV R u bs/\∃ (row:List Value) (ok:Bool),v=.tuple #[.agg row.toArray,.bool ok]/\(ok=true->∃ c,fM F R row c/\mJ bs c)/\(ok=false->∀ c,¬mJ bs c)
def X8:List CV:=[.int .i64 (.lit 0),.int .u64 (.lit 0)]++List.replicate 32 (CV.int .u8 (.lit 0))++[.int .i64 (.lit 0),.bool .ff,.int .u64 (.lit 0)]++List.replicate 16 (CV.int .u8 (.lit 0))++[.sl (.lit (-1)) (.lit 0) (.lit 0) (.lit 0),.int .u64 (.lit 0),.int .u64 (.lit 0),.int .u64 (.lit 0),.int .u64 (.lit 0),.int .u64 (.lit 0),.int .u64 (.lit 0)]++List.replicate 32 (CV.int .u8 (.lit 0))++[.int .i64 (.lit 0)]++List.replicate 32 (CV.int .u8 (.lit 0))++[.sl (.lit (-1)) (.lit 0) (.lit 0) (.lit 0)]
noncomputable def WN:List Sx.Spec:=[KD,Ik ot [100]]
theorem Tz:∀ t∈WN,t.OK Tryz.prog:=au PN <| au (sF rfl Bv) <| bR
theorem X5:KD.res=[.one (.int .u64),.one .slw,.one (.int .i64)]:=rfl
theorem X7:(Ik ot [100]).res=[.agg bU,.one (.int .i64)]:=rfl
noncomputable def Rz:aG Tryz.prog WN E6.fn where
 Λ:=aC
 args:=[.sv (.one (.sl (.var 0) (.var 1) (.var 2) (.var 3)))]
 mem:=[.ro 4 [.var 0] true]
 nv:=5
theorem Ei {u v:Value} {R F:Hl} {bs:List Int} {K:List Hl} (h:cV R u bs) (hp:KD.post [u,Bw] [] [R] v K F):∃ (t:Value) (n:Int),v=.tuple #[.int .u64 0,t,.int .i64 n]/\((tx bs).2.2=true->n= -1)/\((tx bs).2.2=false->n=((aO bs).2+(aO bs).1:Nat)/\cV R t (tx bs).1):=by
 obtain⟨u',bs',R',t,n,e1,e2,h',r⟩:=hp;simp only[aaf,aat]at e1 e2;subst e1 e2;obtain rfl:=h.uniq h';exact⟨t,n,r⟩
theorem GM (l:List Int) (m:Int):(aW l true m).2.2=true:=by unfold aW;simp
theorem mJ.ok {b:List Int} {c:Pc} (h:mJ b c):(tx b).2.2=false/\(tx (tx b).2.1).2.2=false/\(tx (tx b).2.1).2.1=[]/\rD c.h=(tx b).1/\c.b=(tx (tx b).2.1).1:=by
 obtain⟨_,h1,h2,h3,_⟩:=h;have e:(tx b).2.2=false:=by
  cases hc:(tx b).2.2 with
  | false=>rfl
  | true =>
   have:(aW b false 4096).2.2=true:=hc;rw[this]at h2;have:=GM (aW b false 4096).2.1 4096;rw[h2]at this;cases this
 have e':(aW b false 4096).2.2=false:=e;rw[e']at h2 h3;exact⟨e,aaQ Prod.snd h2,aaQ Prod.fst h2,h1,h3⟩
theorem NN {q:Env} : ∀ {a b:List Ck} {n:Nat},bV n (a++b) q->bV (n+aY a) b q
 | [],b,n,h=>by simpa [aY] using h
 | k::a,b,n,h=>by
  have:=NN (a:=a) (b:=b) (n:=n+k.len) h.2;rw[show n+k.len+aY a=n+aY (k::a)by simp [aY];omega]at this;exact this
set_option maxRecDepth 20000 in
theorem NZ:E6.OK Tryz.prog:=by
 refine Spec.aT (Γ:=WN) Tz ?_;rintro xs Hs Rs hl1 hl2 ⟨x,y,c,bs,R,rfl,rfl,hRd,hy,hcap,hby,hlen⟩;have e0:Hs=[]:=aad.1 hl1;subst e0;refine⟨Rz,aM [x,y,bs.length,c] false [Hl.none,Hl.none,Hl.none,Hl.none,R],fun _ _=>True,fun _ _=>0,?_,cQ (by intro r hr;simp [Rz]at hr;subst hr;exact⟨_,_,_,rfl⟩) rfl,(fun _ h=>nomatch h),?_⟩
 .show [Value.slice (az x y) ((bs.length:Int)).toNat ((c:Int)).toNat]=_;rw[aaa,aaa]
 refine aG.read [bU] [] [X8] ?_;generalize hρ:aM [x,y,bs.length,c] false [Hl.none,Hl.none,Hl.none,Hl.none,R]=J;have V:∀ q:Env,ai 5 J q->q.i 0=x/\q.i 1=y/\q.i 2=bs.length/\q.i 3=c/\q.h 4=R:=fun q g=>by
  rw[g.i 0,g.i 1,g.i 2,g.i 3,g.h 4,<-hρ];exact⟨rfl,rfl,rfl,rfl,rfl⟩
 clear hρ;obtain⟨m1,m2⟩:=xx hby;have bad:∀ (q:Env) (mem:Mem),(∀ c,¬mJ bs c)->postOf E6 [.slice (az x y) bs.length c] [] [R] q mem (.tup [.agg X8,.one (.bool .ff)]):=by
  intro q mem hb _;refine⟨[],[],rfl,rfl,⟨(bc fun k=>if k=53 then -1 else if k=128 then -1 else 0),by kernel_rfl,⟨om (Hj ⟨aap _,aap _,aap _,aap _⟩) ⟨⟨trivial,aap _,aap _,aap _⟩,trivial⟩,trivial,trivial⟩⟩,_,bs,R,rfl,rfl,hRd,X8.map (CV.ev q),false,rfl,(fun h=>by cases h),fun _=>hb⟩
 simp only[go_sem,Nat.reduceAdd,WN,X5,X7];rw[show(Value.agg #[Value.int .u8 1,Value.int .u64 4096,Value.slice (az (-1) 0) (Int.toNat 0) (Int.toNat 0)])=Bw from rfl];intro q1 g1 p1;obtain⟨v0,v1,v2,v3,w4⟩:=V q1 g1;rw[v0,v1,v2,v3,w4,aaa,aaa];refine⟨⟨x,y,c,bs,R,rfl,rfl,hRd,hy,hcap,hby,hlen⟩,fun q2 g2 ⟨F2,hp2,_,hn2⟩=>?_⟩;obtain⟨t1,n1,hv,hbad,hgood⟩:=Ei hRd hp2;simp only[Value.tuple.injEq,aaJ,aaf,Value.int.injEq,aaV,aat]at hv;obtain⟨_,ht1,h11⟩:=hv;have G2:ai 5 J q2:=g1.tr g2;obtain⟨v0,v1,v2,v3,w4⟩:=V q2 G2;refine⟨fun hlt=>bad _ _ fun c hc=>?_,fun hge=>?_⟩
 .have:=(hgood hc.ok.1).1;omega
 have hg:(tx bs).2.2=false:=abm.2 fun h=>by have:=hbad h;omega
 obtain⟨hn1,hR1⟩:=hgood hg;rw[<-ht1]at hR1;have hng:¬((aO bs).2=0\/(4096:Int)<(aO bs).1\/(bs.length:Int)-(aO bs).2<((aO bs).1:Int)):=fun h=>by rw[vj.2 h]at hg;cases hg
 have htx:tx bs=((bs.drop (aO bs).2).take (aO bs).1,bs.drop ((aO bs).2+(aO bs).1),false):=Dp hg;have hrest:(tx bs).2.1=bs.drop ((aO bs).2+(aO bs).1):=by rw[htx]
 generalize hm:(aO bs).2+(aO bs).1=m at *;have hml:m<=bs.length:=ah;have hx:=JD hRd hy ah;rw[hn1]at h11;rw[v0,v1,v2,v3,w4,h11];generalize hyy:(if(c:Int)=(m:Int)then y else y+(m:Int))=y';have hy0:0<=y':=by rw[<-hyy];split<;>omega
 have hRd2:cV R (.slice (az x y') (bs.drop m).length (c-m)) (bs.drop m):=by
  have:=CZ (o:=m) (n:=bs.length-m) (y':=y') hRd hx hy ah (by rw[<-hyy];split<;>omega) hy0 (c-m);rwa[<-aaF,abI (aav _)]at this
 have hby2:ak (bs.drop m):=fun z hz=>hby z (abO hz);have e1:((bs.length:Int)-(m:Int)).toNat=(bs.drop m).length:=by rw[aaF];omega
 rw[e1,show((c:Int)-(m:Int)).toNat=c-m by omega];refine⟨hx,hy,ah,ah,⟨x,y',c-m,bs.drop m,R,rfl,rfl,hRd2,hy0,by rw[aaF];omega,hby2,by rw[aaF];omega⟩,fun q3 g3 ⟨F3,hp3,_,hn3⟩=>?_⟩;obtain⟨t2,n2,hv,hbad2,hgood2⟩:=Ei hRd2 hp3;simp only[Value.tuple.injEq,aaJ,aaf,Value.int.injEq,aaV,aat]at hv;obtain⟨_,ht2,h17⟩:=hv;have G3:ai 5 J q3:=G2.tr g3;rw[g3.i 7,g3.i 8,g3.i 9,g3.i 10,(V q3 G3).2.2.2.2];obtain⟨hb1,hl1⟩:ak (tx bs).1/\(tx bs).1.length<=bs.length:=ma hby;refine⟨fun U hU=>⟨_,(tx bs).1,U,rfl,rfl,ia hR1 (hU R aF),hb1,ah⟩,fun q4 g4 ⟨F4,⟨U,hU,hp4⟩,hF4,hn4⟩ q5 g5 _=>?_⟩;have P4:=zF (ia hR1 (hU R aF)) hp4;rw[<-hF4 aB]at P4;have A35:ai 18 q3 q5:=g4.tr g5;have G5:ai 5 J q5:=G3.tr A35;rw[A35.i 17,A35.i 11,g3.i 11,h11,(V q5 G5).2.2.1,h17,g5.i 146];have no:∀ {c':Pc},mJ bs c'->(tx (bs.drop m)).2.2=false/\(tx (bs.drop m)).2.1=[]/\rD c'.h=(tx bs).1:=fun {c'} h=>by
  obtain⟨_,k1,k2,k3,_⟩:=h.ok;rw[hrest]at k1 k2;exact⟨k1,k2,k3⟩
 have hn2l:(tx (bs.drop m)).2.2=false->(n2:Int)=((aO (bs.drop m)).2+(aO (bs.drop m)).1:Nat)/\(aO (bs.drop m)).2+(aO (bs.drop m)).1<=(bs.drop m).length/\(tx (bs.drop m)).2.1=(bs.drop m).drop ((aO (bs.drop m)).2+(aO (bs.drop m)).1):=fun h=>by
  have hng2:¬((aO (bs.drop m)).2=0\/(4096:Int)<(aO (bs.drop m)).1\/((bs.drop m).length:Int)-(aO (bs.drop m)).2<((aO (bs.drop m)).1:Int)):=fun h'=>by rw[vj.2 h']at h;cases h
  exact⟨(hgood2 h).1,ah,by rw[Dp h]⟩
 have hdl:(bs.drop m).length=bs.length-m:=aaF;refine⟨fun hge2=>⟨ah,fun hsum=>⟨fun hne=>bad _ _ fun c' hc=>?_,fun h0=>?_⟩,fun hsum=>bad _ _ fun c' hc=>?_⟩,fun hlt=>bad _ _ fun c' hc=>?_⟩
 .obtain⟨_,_,k3⟩:=no hc;obtain⟨c1,_,_,_,R',R2',row',cx⟩:=hc;rcases P4 with ⟨row,h,e,_⟩ | ⟨_,h⟩
  .simp only[Value.tuple.injEq,aaJ,aaf,Value.int.injEq,aaV,aat]at e;exact hne e.2
  .exact h _ _ _ cx.hd c1 k3
 .have uB:(tx (bs.drop m)).2.2=false:=abm.2 fun h=>by have:=hbad2 h;omega
  obtain⟨k1,k2,k3⟩:=hn2l uB;have hR2:=(hgood2 uB).2;rw[<-ht2]at hR2;rw[IntKind.wrap_i64]at hsum;have hz:(tx (bs.drop m)).2.1=[]:=by rw[k3];exact acI ah
  rcases P4 with ⟨row,h,e,hh,hF,hB⟩ | ⟨e,_⟩
  rotate_left
  .exfalso;simp only[Value.tuple.injEq,aaJ,aaf,Value.int.injEq,aaV,aat]at e;have e2:q4.i 146=2:=e.2;omega
  simp only[Value.tuple.injEq,aaJ,aaf,Value.agg.injEq,Value.int.injEq,aaV,aat]at e;have er:(ar 18 bU).map (CV.ev q5)=row:=(aaQ Array.toList (Value.agg.inj (ft (ks:=bU) (n:=18) g5 aB))).trans e.1;obtain⟨hb2,hl2⟩:ak (tx (bs.drop m)).1/\(tx (bs.drop m)).1.length<=(bs.drop m).length:=ma hby2;have eu:Value.slice (az (q5.i 13) (q5.i 14)) (q5.i 15).toNat (q5.i 16).toNat=Value.slice (az (q3.i 13) (q3.i 14)) (q3.i 15).toNat (q3.i 16).toNat:=by
   rw[A35.i 13,A35.i 14,A35.i 15,A35.i 16]
  rw[<-eu]at hR2;have hx5:=Js hh hR2 hb2 ah;rw[<-g5.h 18]at hx5;have e2:(aW bs false 4096).2.1=bs.drop m:=hrest;have e3:(aW bs false 4096).2.2=false:=hg;have hPc:mJ bs ⟨h,(tx (bs.drop m)).1⟩:=⟨hF,hB,by rw[e2,e3];exact Prod.ext hz uB,by rw[e2,e3];rfl,_,_,_,hx5⟩;have n5:gJ 71 q5 .sl:=by
   have h1:bV 18 bU q4:=hn4.1;have h2:=rz (ks:=bU) (n:=18) g5 aB h1;have h3:=NN (a:=[Ck.int .i64,Ck.int .u64]++List.replicate 32 (Ck.int .u8)++[Ck.int .i64,Ck.bool,Ck.int .u64]++List.replicate 16 (Ck.int .u8)) (b:=[Ck.sl]++List.replicate 6 (Ck.int .u64)++List.replicate 32 (Ck.int .u8)++[Ck.int .i64]++List.replicate 32 (Ck.int .u8)) (n:=18) (q:=q5) h2;exact h3.1
  have n3:gJ 13 q5 .slw:=by
   have h1:True/\0<=q3.i 14/\0<=q3.i 15/\0<=q3.i 16:=hn3.2.1;refine⟨trivial,?_,?_,?_⟩
   .show 0<=q5.i 14;rw[A35.i 14];exact h1.2.1
   .show 0<=q5.i 15;rw[A35.i 15];exact h1.2.2.1
   .show 0<=q5.i 16;rw[A35.i 16];exact h1.2.2.2
  intro _;refine⟨[],[2],rfl,rfl,⟨⟨fun k=>if k<128 then q5.i (k+18)else if k<132 then q5.i (k-115)else 0,fun k=>if k=132 then true else q5.b (k+18),q5.s,q5.v,q5.h⟩,rfl,⟨om (Hj n5) ⟨n3,trivial⟩,trivial,trivial⟩⟩,_,bs,R,rfl,rfl,hRd,row++[Value.slice (az (q5.i 13) (q5.i 14)) (q5.i 15).toNat (q5.i 16).toNat],true,?_,fun _=>⟨_,?_,hPc⟩,fun h=>by cases h⟩
  .show Value.tuple #[.agg ((ar 18 bU++[CV.sl (.var 13) (.var 14) (.var 15) (.var 16)]).map (CV.ev q5)).toArray,.bool true]=_;rw[aaK,er];rfl
  .show fM (cZ [q5.h 18]) R _ _;rw[aN];exact hx5
 .obtain⟨k1,k2,_⟩:=no hc;obtain⟨h1,h2,h3⟩:=hn2l k1;rw[h3]at k2;have:=List.drop_eq_nil_iff.1 k2;rw[IntKind.wrap_i64]at hsum;omega
 .obtain⟨k1,_,_⟩:=no hc;have:=(hn2l k1).1;omega
end Go.Proofs.YtomdimlnggpgbaaGreatDoor
namespace Go.Proofs.YtomdimlnggpgbaaGreatDoor
open Go Go.Sx Go.Pk
noncomputable def C6:Sx.Spec where
 fn:=35
 own:=[]
 rd:=[1000053,1000125]
 res:=[.one .sl]
 pre:=fun xs Hs Rs=>∃ row T B p,xs=[.agg row.toArray]/\Rs=[T,B]/\fM T B row p/\p.b.length<=4096
 post:=fun xs Hs Rs v Hs' F=>∀ row T B p,xs=[.agg row.toArray]->Rs=[T,B]->fM T B row p->bQ F 5 v (fF p)
noncomputable def WO:List Sx.Spec:=[fv 71]
theorem X9 (f:FuncId):(fv f).res=[.one .sl]:=rfl
noncomputable def Oi:aG Tryz.prog WO C6.fn where
 Λ:=fun p=>if lp p then(if p.length>9 then some ⟨1,[(3,.sv (.one (.sl (.var 170) (.lit 0) (.var 171) (.var 172)))),(6,TI .i64 (.var 173))],[(3,.hp 174 [] [.var 170] [])],180⟩else some ⟨0,[(3,.sv (.one (.sl (.var 150) (.lit 0) (.var 151) (.var 152)))),(4,TI .i64 (.var 153))],[(3,.hp 154 [] [.var 150] [])],160⟩)else none
 args:=(cn 0 [.agg Av]).map .sv
 mem:=[.ro 132 [.var 53] false,.ro 133 [.var 128] true]
 nv:=134
theorem Iu {q:Env} {n:Nat} {A S:Hl} {x y c sx sy:Int} {sc:Nat} {B b2:List Int} {D:Env->Prop} {K:Env->Prop} (h:bQ A 5 (.slice (az x y) ((B.length:Int)).toNat c.toNat) B) (hsy:0<=sy) (h2:cV S (.slice (az sx sy) b2.length sc) b2) (hl:B.length<=900000) (hl2:b2.length<=90000)
 (k:∀ q',ai n q q'-> -1<=q'.i n->0<=q'.i (n+1)->bQ (q'.h n) 5 (.slice (az (q'.i n) 0) (((B++b2).length:Int)).toNat (q'.i (n+1)).toNat) (B++b2)->K q') :
 ((∃ xs,aV A 5 1 (.slice (az x y) ((B.length:Int)).toNat c.toNat) ((B.length:Int)).toNat xs)/\0<=(B.length:Int)/\((0<=sx/\0<=sy/\0<=(b2.length:Int)/\∀ j:Nat,j<((b2.length:Int)).toNat->∃ v,S.cell sx.toNat (sy.toNat+j)=some v/\v.oneCell'=true)\/(b2.length:Int)=0)/\((B.length:Int)).toNat+((b2.length:Int)).toNat<=maxLen/\((B.length:Int)).toNat+((b2.length:Int)).toNat<=140737488355328) /\
 ∀ q',ai n q q'->(-1<=q'.i n/\0<=q'.i (n+1)/\(∀ xs,aV A 5 1 (.slice (az x y) ((B.length:Int)).toNat c.toNat) ((B.length:Int)).toNat xs->aV (q'.h n) 5 1 (.slice (az (q'.i n) 0) (((B.length:Int)).toNat+((b2.length:Int)).toNat) (q'.i (n+1)).toNat) (((B.length:Int)).toNat+((b2.length:Int)).toNat) (xs++bW S sx.toNat sy.toNat ((b2.length:Int)).toNat))/\D q')->K q':=by
 have hr:b2=[]\/0<=sx/\∀ j z,b2[j]?=some z->S.cell sx.toNat (sy.toNat+j)=some (.int .u8 z):=by
  obtain⟨x1,y1,c1,e,hy1,hc⟩:=h2;simp only[Value.slice.injEq]at e;rcases hc with hc | ⟨h1,hc⟩
  .exact Or.inl hc
  .obtain⟨e1,e2⟩:=qQ h1 hy1 hsy e.1;subst e1 e2;exact Or.inr ⟨h1,hc⟩
 obtain⟨hok,hseg⟩:=qd (R:=S) (x:=sx) (y:=sy) (l:=(b2.length:Int)) rfl hsy hr;refine⟨⟨⟨aS B,?_⟩,ah,hok,by rw[aaa,aaa];unfold maxLen;omega,by rw[aaa,aaa];omega⟩,fun q' g ⟨a1,a2,a3,_⟩=>k q' g a1 a2 ?_⟩
 .have:=h;unfold bQ at this;rwa[aaa]at this ⊢
 .rw[hseg]at a3;exact zx h (aaa _) a3
noncomputable def wX (p:Pc) (i:Nat):List Int:=if i=0 then []else if i=1 then aI (bf p.h)else fF p
noncomputable def sk (p:Pc) (i:Nat):List Int:=if i=0 then bf p.h else p.b
theorem Ls (p:Pc) {i:Nat} (h:i<2):wX p i++aI (sk p i)=wX p (i+1):=by
 have:i=0\/i=1:=ah;rcases this with rfl | rfl<;>rfl
def Y8 (p:Pc) (q:Env):Prop:=∃ i:Nat,q.i 153=i/\i<=2/\Ob q 154 150 152 (q.i 151) (wX p i)
def Wp (p:Pc) (q:Env):Prop:=∃ (i n:Nat) (l:List Int),q.i 153=i/\i<2/\q.i 173=n/\n<=4096/\l.length+(aj n).length<=9000/\Ob q 174 170 172 (q.i 171) l/\l++aj n=wX p i++aj (sk p i).length
set_option maxRecDepth 20000 in
theorem Lr:C6.OK Tryz.prog:=by
 refine Spec.aT (Γ:=WO) (fun t ht=>by rw[WO,aam]at ht;subst ht;exact tO) ?_;rintro xs Hs Rs hl1 hl2 ⟨row,T,B,p,rfl,rfl,hx,hlen⟩;have e0:Hs=[]:=aad.1 hl1;subst e0;obtain⟨J,rfl,hnw,hh⟩:=xE (ks:=iT) [(132,T),(133,B)] hx.ok;have w1:J.h 132=T:=hh 132;have w2:J.h 133=B:=hh 133;refine⟨Oi,J,fun j q=>if j=0 then Y8 p q else Wp p q,fun j q=>if j=0 then(2-q.i 153).toNat else(q.i 173).toNat,rfl,cQ (by intro r hr;simp [Oi]at hr;rcases hr with rfl | rfl<;>exact⟨_,_,_,rfl⟩) (by show [J.h 132,J.h 133]=_;rw[w1,w2]),(fun _ h=>nomatch h),?_⟩;refine aG.read [bU] [] [] ?_;simp only[go_sem,Nat.reduceAdd,WO,X9,JL,ac2,abK];generalize hrow0:(ar 0 iT).map (CV.ev J)=row at *;have ht0:(ar 0 bU).map (CV.ev J)=row.take 125:=by rw[<-hrow0,ou]
 have hb0:Value.slice (az (J.i 128) (J.i 129)) (J.i 130).toNat (J.i 131).toNat=row.getD 125 Bk:=by rw[<-hrow0,tN]
 have hnb:=NM bU [Ck.sl] 0 hnw;have n130:0<=J.i 130:=hnb.1.2.2.1;have l130:J.i 130=p.b.length:=by
  obtain⟨x',y',c',e,_⟩:=id hx.body;rw[<-hb0]at e;simp only[Value.slice.injEq]at e;have:=e.2.1;omega
 have n129:0<=J.i 129:=hnb.1.2.1;have hbR:cV B (.slice (az (J.i 128) (J.i 129)) p.b.length (J.i 131).toNat) p.b:=by
  have:=hx.body;rw[<-hb0,l130,aaa]at this;exact this
 have V:∀ q:Env,ai 134 J q->q.h 132=T/\q.h 133=B/\(ar 0 bU).map (CV.ev q)=row.take 125/\q.i 128=J.i 128/\q.i 129=J.i 129/\q.i 130=p.b.length:=fun q g=>by
  refine⟨by rw[g.h 132,w1],by rw[g.h 133,w2],?_,g.i 128,g.i 129,by rw[g.i 130,l130]⟩;rw[<-ht0];exact aaQ Array.toList (Value.agg.inj (ft (ks:=bU) (n:=0) g aB))
 have hb1:=CA hx.hd;have hT:∀ i,(sk p i).length<=4096:=fun i=>by unfold sk;split<;>omega
 have hU:∀ i,(wX p i).length<=8300:=fun i=>by
  have l1:=jG (b:=bf p.h) ah;have l2:=jG (b:=p.b) hlen;unfold wX;split
  .exact aa6 _
  .split
   .omega
   .unfold fF;rw[aac];omega
 intro q1 g1 p1;refine⟨⟨0,rfl,ah,nx _ _,rfl,aap _,aap _⟩,fun q2 g2 ⟨i,ei,hi,hO⟩=>⟨fun hlt=>?_,fun hge=>?_⟩⟩
 .have G2:ai 134 J q2:=g1.tr g2;obtain⟨x2,x3,xr,_⟩:=V q2 G2;rw[xr,x2];refine⟨⟨_,T,p.h,rfl,rfl,hx.hd⟩,fun q3 g3 ⟨F3,hp3,hF3,hn3⟩=>?_⟩;have hB:=lW hx.hd hp3;rw[<-hF3 trivial]at hB;have G3:ai 134 J q3:=G2.tr g3;have n3:-1<=q3.i 160/\0<=q3.i 161/\0<=q3.i 162/\0<=q3.i 163:=hn3.1;have l3:q3.i 162=(bf p.h).length:=(Jo hB n3.2.2.1 n3.2.2.2).1;have ei3:q3.i 153=i:=(g3.i 153).trans ei;have hO3:Ob q3 154 150 152 (q3.i 151) (wX p i):=by rw[g3.i 151];exact hO.mono g3 ah ah ah
  have hi2:i<2:=ah;have ent:∀ {a:Nat},q3.i a=(sk p i).length->Wp p (assign q3 [⟨170,0,.int .i64 (.var 150)⟩,⟨171,0,.int .i64 (.var 151)⟩,⟨172,0,.int .i64 (.var 152)⟩,⟨173,0,.int .i64 (.var a)⟩] [(174,some 154)]):=fun {a} h=>by
   have h1:=hU i;have h2:=EN (n:=(sk p i).length) (by have:=hT i;omega);exact⟨i,(sk p i).length,wX p i,ei3,hi2,h,hT i,ah,hO3,rfl⟩
  have hd:∀ {q4:Env},ai 164 q3 q4->Wp p q4->∃ (n:Nat) (l:List Int),q4.i 173=n/\n<=4096/\l.length+(aj n).length<=9000/\l++aj n=wX p i++aj (sk p i).length/\∀ q,ai 180 q4 q->bQ (q.h 174) 5 (.slice (az (q.i 170) 0) ((l.length:Int)).toNat (q.i 172).toNat) l/\q.i 171=l.length/\q.i 173=n/\q.i 153=i:=fun {q4} g4 ⟨i',n,l,e1,_,e2,hn,hl,ho,hs⟩=>by
   obtain rfl:i'=i:=by have:=g4.i 153;omega
   refine⟨n,l,e2,hn,hl,hs,fun q g=>?_⟩;obtain⟨o1,o2,_,_⟩:=ho.mono g ah ah ah;rw[o2]at o1;exact⟨o1,by rw[g.i 171,o2],by rw[g.i 173,e2],by rw[g.i 153,e1]⟩
  have more:∀ {q q':Env} {n:Nat} {l:List Int},128<=n->n<=4096->l.length+(aj n).length<=9000->l++aj n=wX p i++aj (sk p i).length->q.i 171=l.length->q.i 173=n->q.i 153=i->ai 181 q q'-> -1<=q'.i 181->0<=q'.i 182->bQ (q'.h 181) 5 (.slice (az (q'.i 181) 0) (((l++[((n%128+128:Nat):Int)]).length:Int)).toNat (q'.i 182).toNat) (l++[((n%128+128:Nat):Int)]) ->
   Wp p (assign q' [⟨170,0,.int .i64 (.var 181)⟩,⟨171,0,.int .i64 (.add (.var 171) (.lit 1))⟩,⟨172,0,.int .i64 (.var 182)⟩,⟨173,0,.int .i64 (.wrap .i64 (.quo (.var 173) (.lit 128)))⟩] [(174,some 181)])/\(IntKind.i64.wrap ((q'.i 173).tdiv 128)).toNat<n:=fun {q q' n l} h1 h2 hl hs a b c g p1 p2 o=>by
   have e3:IntKind.i64.wrap ((q'.i 173).tdiv 128)=((n/128:Nat):Int):=by
    rw[g.i 173,b,abH ah,IntKind.wrap_i64];omega
   have e1:q'.i 171+1=((l++[((n%128+128:Nat):Int)]).length:Nat):=by
    rw[g.i 171,a,aac,aay];omega
   rw[iG ah]at hl hs;refine⟨⟨i,n/128,l++[((n%128+128:Nat):Int)],(g.i 153).trans c,hi2,e3,ah,?_,⟨?_,e1,p1,p2⟩,?_⟩,by rw[e3];omega⟩
   .rw[aaO]at hl;rw[aac,aay];omega
   .show bQ (q'.h 181) _ (.slice (az (q'.i 181) 0) (q'.i 171+1).toNat (q'.i 182).toNat) _;rw[e1];exact o
   .rw[aaw];exact hs
  have byt:∀ {q:Env} {n:Nat},q.i 173=n->n<=4096->IntKind.u8.wrap (IntKind.i64.wrap ((q.i 173).tmod 128+128))=((n%128+128:Nat):Int):=fun {q n} h h2=>by
   have e:(n:Int).tmod 128+128=((n%128+128:Nat):Int):=by rw[abd ah];omega
   rw[h,e,wrap_i64 ah ah,O5];omega
  have fin:∀ {q q':Env} {n a:Nat} {l:List Int},n<128->l++aj n=wX p i++aj (sk p i).length->q.i 171=l.length->q.i 153=i->q.i a=(sk p i).length->a<183->ai 183 q q'-> -1<=q'.i 183->0<=q'.i 184->bQ (q'.h 183) 5 (.slice (az (q'.i 183) 0) (((l++[(n:Int)]++sk p i).length:Int)).toNat (q'.i 184).toNat) (l++[(n:Int)]++sk p i) ->
   Y8 p (assign q' [⟨150,0,.int .i64 (.var 183)⟩,⟨151,0,.int .i64 (.add (.add (.var 171) (.lit 1)) (.var a))⟩,⟨152,0,.int .i64 (.var 184)⟩,⟨153,0,.int .i64 (.wrap .i64 (.add (.var 153) (.lit 1)))⟩] [(154,some 183)])/\(2-IntKind.i64.wrap (q'.i 153+1)).toNat<(2-q2.i 153).toNat:=fun {q q' n a l} h1 hs c1 c2 c3 ha g p1 p2 o=>by
   have e3:IntKind.i64.wrap (q'.i 153+1)=((i+1:Nat):Int):=by rw[g.i 153,c2,IntKind.wrap_i64];omega
   have e1:q'.i 171+1+q'.i a=((l++[(n:Int)]++sk p i).length:Nat):=by
    rw[g.i 171,g.i a ha,c1,c3];simp;omega
   have eU:l++[(n:Int)]++sk p i=wX p (i+1):=by
    rw[<-Ls p hi2,<-iR h1,hs];unfold aI;rw[aaw]
   rw[eU]at o e1;refine⟨⟨i+1,e3,ah,⟨?_,e1,p1,p2⟩⟩,by rw[e3,ei];omega⟩;show bQ (q'.h 183) _ (.slice (az (q'.i 183) 0) (q'.i 171+1+q'.i a).toNat (q'.i 184).toNat) _;rw[e1];exact o
  refine⟨fun h1=>?_,fun h1=>?_⟩
  .obtain rfl:i=1:=ah;obtain⟨_,y3,_,y128,y129,y130⟩:=V q3 G3;refine⟨ah,ent y130,fun q4 g4 h4=>?_⟩;obtain⟨n,l,e2,hn,hl,hs,ho⟩:=hd g4 h4;refine⟨fun h128 q5 g5 _=>?_,fun h128 q5 g5 _=>?_⟩
   .obtain⟨o5,l5,n5,i5⟩:=ho q5 g5;rw[l5,e2];exact mq (b2:=[((n%128+128:Nat):Int)]) o5 (by rw[show aA q5 ((E.var 173).rem (E.lit 128))=(q5.i 173).tmod 128 from rfl,byt n5 hn];rfl) rfl ah aF fun q6 g6 a6 b6 o6=>more ah hn hl hs l5 n5 i5 g6 a6 b6 o6
   .obtain⟨o5,l5,n5,i5⟩:=ho q5 g5;have h128:n<128:=ah;rw[l5];refine mq (b2:=[(n:Int)]) o5 (by rw[n5,O5];show [Value.int .u8 _]=[Value.int .u8 _];congr 2;omega) rfl ah aF fun q6 g6 a6 b6 o6=>?_;have A6:ai 164 q3 q6:=g4.trans (g5.mono.tr g6);have e1:q6.i 171+1=((l++[(n:Int)]).length:Nat):=by rw[g6.i 171,l5];simp
    obtain⟨_,z3,_,z128,z129,z130⟩:=V q6 (G3.tr A6);rw[e1,z3,z128,z129,z130];exact Iu o6 n129 hbR (by simp;omega) ah fun q7 g7 a7 b7 o7=>fin (q:=q6) (n:=n) (a:=130) (l:=l) h128 hs (by rw[g6.i 171,l5]) (by rw[g6.i 153,i5]) z130 ah g7 a7 b7 o7
  .obtain rfl:i=0:=ah;refine⟨n3.2.2.1,ent l3,fun q4 g4 h4=>?_⟩;obtain⟨n,l,e2,hn,hl,hs,ho⟩:=hd g4 h4;refine⟨fun h128 q5 g5 _=>?_,fun h128 q5 g5 _=>?_⟩
   .obtain⟨o5,l5,n5,i5⟩:=ho q5 g5;rw[l5,e2];exact mq (b2:=[((n%128+128:Nat):Int)]) o5 (by rw[show aA q5 ((E.var 173).rem (E.lit 128))=(q5.i 173).tmod 128 from rfl,byt n5 hn];rfl) rfl ah aF fun q6 g6 a6 b6 o6=>more ah hn hl hs l5 n5 i5 g6 a6 b6 o6
   .obtain⟨o5,l5,n5,i5⟩:=ho q5 g5;have h128:n<128:=ah;rw[l5];refine mq (b2:=[(n:Int)]) o5 (by rw[n5,O5];show [Value.int .u8 _]=[Value.int .u8 _];congr 2;omega) rfl ah aF fun q6 g6 a6 b6 o6=>?_;have A6:ai 164 q3 q6:=g4.trans (g5.mono.tr g6);have e1:q6.i 171+1=((l++[(n:Int)]).length:Nat):=by rw[g6.i 171,l5];simp
    have z162:q6.i 162=(bf p.h).length:=by rw[A6.i 162,l3]
    rw[e1,z162,A6.i 160,A6.i 161,A6.h 160];exact Iu o6 n3.2.1 (by have:=hB.rd.w;rw[l3,aaa]at this;exact this) (by simp;omega) ah fun q7 g7 a7 b7 o7=>fin (q:=q6) (n:=n) (a:=162) (l:=l) h128 hs (by rw[g6.i 171,l5]) (by rw[g6.i 153,i5]) z162 ah g7 a7 b7 o7
 .obtain rfl:i=2:=ah;intro _;obtain⟨o1,o2,o3,o4⟩:=hO;refine⟨[],[3],rfl,rfl,⟨(bc fun k=>[q2.i 150,0,q2.i 151,q2.i 152].getD k 0),rfl,⟨o3,aap _,by show 0<=q2.i 151;omega,o4⟩,trivial⟩,fun row' T' B' p' e1 e2 hx'=>?_⟩;simp only[aaf,Value.agg.injEq,aat]at e1 e2;have e1:=aaI e1;obtain⟨rfl,rfl⟩:=e2;subst e1;obtain rfl:=hx.uniq hx';show bQ (cZ [q2.h 154]) _ (.slice (az (q2.i 150) 0) (q2.i 151).toNat (q2.i 152).toNat) _;rw[aN];exact o1
open Go.Proofs.YtomdimlnggpgbaaGreatDoor.D hiding aM aC fI
def W7 (T:Hl) (v:Value) (us:List Value) (raws:List (List Int)):Prop:=∃ (x y:Int) (c:Nat),v=.slice (az x y) us.length c/\0<=y/\us.length=raws.length/\(∀ (j:Nat) (u:Value),us[j]?=some u->0<=x/\T.cell x.toNat (y.toNat+j)=some u)/\(∀ (j:Nat) (u:Value) (r:List Int),us[j]?=some u->raws[j]?=some r->cV T u r)/\(∀ u∈us,∃ a l c,u=Value.slice a l c/\l<=c)/\∀ r∈raws,ak r
def JJ:Sx.Spec where
 fn:=6
 own:=[]
 rd:=[0,2000000]
 res:=[.one .bool]
 pre:=fun xs Hs Rs=>∃ v v2 T RG g rows us raws,xs=[v,v2]/\Rs=[T,RG]/\bj T v rI rows/\(∀ row∈rows,DF row 53<=20->DF row 125<=2100->∃ c,fM T T row c)/\W7 T v2 us raws/\(Gl RG g/\uu RG 5/\RG.cell 4 0=some yn)/\uu RG 3
 post:=fun xs Hs Rs v Hs' F=>v=.bool true
def loP (k:Nat):E:=.hP 62 (.var 17) (.lit 0) 0 k
noncomputable def Qp:List Sx.Spec:=[Hg,oF,qM,B8,pY,PD (Fp 100),uy,pf,Ik C6 [1000053,1000125],E6,Ik tX [0,1,100]]
theorem Qq:∀ t∈Qp,t.OK Tryz.prog:=au Ji <| au vc <| au HN <| au Ir <| au BD <| au (PE (OB _)) <| au Kz <| au DO <| au (sF rfl Lr) <| au NZ <| au (sF rfl HQ) <| bR
theorem Tj:Hg.res=[.one .ptr]:=rfl
theorem Tk:oF.res=[.one .ptr,.one (.int .i64)]:=rfl
theorem Tl:qM.res=[.one .ptr,.one (.int .i64)]:=rfl
theorem Tm:B8.res=[.one (.int .i64)]:=rfl
theorem Tn:pY.res=[.agg RB]:=rfl
theorem To:(PD (Fp 100)).res=[.one (.int .i64)]:=rfl
theorem Tp:uy.res=[.one .bool]:=rfl
theorem Tq:pf.res=[.one .bool]:=rfl
theorem Tr (l:List Nat):(Ik C6 l).res=[.one .sl]:=rfl
theorem Ts:E6.res=[.agg (bU++[Ck.slw]),.one .bool]:=rfl
theorem Ql (l:List Nat):(Ik tX l).res=[.one .bool]:=rfl
noncomputable def RH:aG Tryz.prog Qp JJ.fn where
 Λ:=fun p=>if lp p&&p.head?==some 6 then(if p.length>12 then some ⟨1,[(13,.sv (.one (.bool (.bvar 89)))),(14,TI .i64 (.var 88))],[(2,.hp 80 [] [.var 12] []),(3,.hp 81 [] [.var 14] [.var 12]),(4,.hp 82 [] [.var 17,.lit (-7)] [])],100⟩else some ⟨0,[(9,TI .i64 (.var 69))],[(2,.hp 60 [] [.var 12] []),(3,.hp 61 [] [.var 14] [.var 12]),(4,.hp 62 [] [.var 17,.lit (-7)] [])],70⟩)else none
 args:=[.sv (.one (.sl (.var 0) (.var 1) (.var 2) (.var 3))),.sv (.one (.sl (.var 4) (.var 5) (.var 6) (.var 7)))]
 mem:=[.ro 8 [.var 0,.var 4] true,.ro 9 [.lit 0,.lit 1,.lit 2,.lit 3,.lit 4,.lit 5] false]
 nv:=10
end Go.Proofs.YtomdimlnggpgbaaGreatDoor
