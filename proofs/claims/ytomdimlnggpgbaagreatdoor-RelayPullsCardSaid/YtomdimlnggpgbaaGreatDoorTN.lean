/- RelayPulls. -/
import Derived.ProofKit
import Derived.OpenShut
import Derived.Deep.Slices
import Derived.ChangeSame
import Derived.Test.YtomdimlnggpgbaaGreatDoorCards
import Derived.LaidMore
import Derived.LaidHandle
import Derived.Stop.Joined
import Derived.Stop.LaidErr
import Derived.LaidSub
import Derived.Test.YtomdimlnggpgbaaGreatDoorTM
set_option linter.all false
set_option maxHeartbeats 4000000
namespace Go.Proofs.YtomdimlnggpgbaaGreatDoor
open Go Go.Sx Go.Pk
def Tq:List Ck->Bool
 | []=>true
 | k::l=>(match k with | .ptr | .sl | .map=>false | _=>true)&&Tq l
def AT {q:Env} : ∀ {ks:List Ck} {n:Nat},Tq ks=true->bu n ks q->cY n ks q
 | [],_,_,_=>trivial
 | k::ks,n,h,hn=>by
  simp only[Tq,aaj]at h;refine⟨?_,AT h.2 hn.2⟩;have:=hn.1;cases k<;>first | exact zzT | exact this | cases h.1
def uL {q:Env} : ∀ {a b:List Ck} {n:Nat},bu n (a++b) q->bu n a q/\bu (n+bc a) b q
 | [],b,n,h=>⟨zzT,by simpa [bc] using h⟩
 | k::a,b,n,h=>by
  have:=uL (a:=a) (b:=b) (n:=n+k.len) h.2;rw[show n+k.len+bc a=n+bc (k::a)by simp [bc];omega]at this;exact⟨⟨h.1,this.1⟩,this.2⟩
set_option maxRecDepth 20000 in
def Og (q:Env):((((ak 5 gJ).map (CV.ev q)).take 125).drop 34).take 20=(ak 39 ([Ck.int .i64,Ck.bool,Ck.int .u64]++List.replicate 16 (Ck.int .u8)++[Ck.sl])).map (CV.ev q)/\((((ak 5 gJ).map (CV.ev q)).take 125).drop 93).take 32=(ak 101 (List.replicate 32 (Ck.int .u8))).map (CV.ev q) /\
 cI (((ak 5 gJ).map (CV.ev q)).take 125) 54=q.i 62/\cI (((ak 5 gJ).map (CV.ev q)).take 125) 55=q.i 63/\cI (((ak 5 gJ).map (CV.ev q)).take 125) 56=q.i 64/\cI (((ak 5 gJ).map (CV.ev q)).take 125) 57=q.i 65/\cI (((ak 5 gJ).map (CV.ev q)).take 125) 58=q.i 66/\cI (((ak 5 gJ).map (CV.ev q)).take 125) 59=q.i 67:=by
 rw[oy];exact⟨rfl,rfl,rfl,rfl,rfl,rfl,rfl,rfl⟩
def TR {q:Env} {w:Int} {n:Nat} {lS sum:List Int} (hw:1<=w/\w<=6) (hn:n<=100000) (h4:q.i 4=w) (h7:q.i 147=n) (ht:(ak 151 (List.replicate 32 (Ck.int .u8))).map (CV.ev q)=aS lS) (hs:(ak 184 (List.replicate 32 (Ck.int .u8))).map (CV.ev q)=aS sum) :
 zx.map (CV.ev q)=fP (((ak 5 gJ).map (CV.ev q)).take 125) w n lS sum++[.slice (ar (q.i 183) 0) 80 80]:=by
 obtain⟨e1,e2,k0,k1,k2,k3,k4,k5⟩:=Og q;unfold fP lI pV LV;rw[e1,e2,k0,k1,k2,k3,k4,k5,<-ht,<-hs];have wi:∀ z:Int,-9<=z->z<=1000000->IntKind.i64.wrap z=z:=fun z h1 h2=>by rw[IntKind.wrap_i64];omega
 have wu:∀ z:Int,0<=z->z<=1000000->IntKind.u64.wrap z=z:=fun z h1 h2=>by rw[IntKind.wrap_u64];omega
 have w1:IntKind.i64.wrap (w-1)=w-1:=wi _ ah ah;have w2:IntKind.u64.wrap (n:Int)=n:=wu _ ah ah;have w3:IntKind.i64.wrap ((n:Int)+1)=(n:Int)+1:=wi _ ah ah;have w4:IntKind.u64.wrap ((n:Int)+1)=(n:Int)+1:=wu _ ah ah;unfold zx;simp only[aaK,aax,aa8,CV.ev,au,aq,bJ,bQ,dj,fg,ga,h4,h7,w1,w2,w3,w4,aaF,acv,abE];rfl
set_option maxRecDepth 20000 in
def Bi:pU.OK Tryz.prog:=by
 refine Spec.aV (Γ:=W8) TU ?_;rintro xs Hs Rs hl1 hl2 ⟨v,w,row,R,T,RG,rows,hs,p,rfl,rfl,hR,hA,hlen,hw,hx,hK⟩;have e0:Hs=[]:=aad.1 hl1;subst e0;obtain⟨x,y,c,rfl,hy,_⟩:=id hR;obtain⟨q0,ag,hnw,hrow0⟩:=cU gJ 5 row (bh fun k=>[x,y,rows.length,c,w].getD k 0) hx.ok;obtain⟨J,hρ⟩:∃ J:Env,J=⟨q0.i,q0.b,q0.s,q0.v,uD [(140,R),(141,T),(142,RG)]⟩:=⟨_,rfl⟩;have v0:J.i 0=x:=by rw[hρ];exact ag.i 0
 have v1:J.i 1=y:=by rw[hρ];exact ag.i 1
 have v2:J.i 2=rows.length:=by rw[hρ];exact ag.i 2
 have v3:J.i 3=c:=by rw[hρ];exact ag.i 3
 have v4:J.i 4=w:=by rw[hρ];exact ag.i 4
 have aB:(ak 5 gJ).map (CV.ev J)=row:=by rw[hρ,<-Mt (uD [(140,R),(141,T),(142,RG)])];exact hrow0
 have hnw:bu 5 gJ J:=by rw[hρ];exact NG _ _ _ hnw
 have w4:J.h 140=R:=by rw[hρ];rfl
 have w5:J.h 141=T:=by rw[hρ];rfl
 have w6:J.h 142=RG:=by rw[hρ];rfl
 clear hρ;refine⟨Oh,J,fun _ _=>True,fun _ _=>0,?_,cD (by intro r hr;simp [Oh]at hr;rcases hr with rfl | rfl | rfl<;>exact⟨_,_,_,rfl⟩) (by show [J.h 140,J.h 141,J.h 142]=_;rw[w4,w5,w6]),(fun _ h=>nomatch h),?_⟩
 .show [Value.slice (ar (J.i 0) (J.i 1)) (J.i 2).toNat (J.i 3).toNat,.int .i64 (J.i 4),.agg ((ak 5 gJ).map (CV.ev J)).toArray]=_;rw[v0,v1,v2,v3,v4,aB,aaa,aaa]
 refine aF.read [] [] [zx] ?_;have hb0:Value.slice (ar (J.i 133) (J.i 134)) (J.i 135).toNat (J.i 136).toNat=row.getD 125 Ct:=by rw[<-aB,Cz]
 have hn5:0<=J.i 134/\0<=J.i 135:=by
  obtain⟨_,h⟩:=uL (a:=bU) (b:=[Ck.sl]) hnw;exact⟨h.1.2.1,h.1.2.2.1⟩
 have hlr:rows.length=hs.length:=by have:=hA.1;rwa[aaw]at this
 have V:∀ q:Env,ai 143 J q->(q.i 0=x/\q.i 1=y/\q.i 2=rows.length/\q.i 4=w)/\(q.h 140=R/\q.h 141=T/\q.h 142=RG)/\(ak 5 gJ).map (CV.ev q)=row/\(q.i 133=J.i 133/\q.i 134=J.i 134/\q.i 135=J.i 135)/\Value.slice (ar (q.i 0) (q.i 1)) (q.i 2).toNat (q.i 3).toNat=.slice (ar x y) rows.length c:=fun q g=>by
  refine⟨⟨by rw[g.i 0,v0],by rw[g.i 1,v1],by rw[g.i 2,v2],by rw[g.i 4,v4]⟩,⟨by rw[g.h 140,w4],by rw[g.h 141,w5],by rw[g.h 142,w6]⟩,?_,⟨g.i 133,g.i 134,g.i 135⟩,?_⟩
  .rw[<-aB];exact aaQ Array.toList (Value.agg.inj (fS (ks:=gJ) (n:=5) g aA))
  .rw[g.i 0,g.i 1,g.i 2,g.i 3,v0,v1,v2,v3,aaa,aaa]
 have hbB:=CL rows.length hx.byte;have fin:∀ (U:Hl),R.le U->T.le U->∀ (q:Env) (ce:E),ai 143 J q->q.i 147=rows.length->(ak 151 (List.replicate 32 (Ck.int .u8))).map (CV.ev q)=aS (ji hs)->(ak 184 (List.replicate 32 (Ck.int .u8))).map (CV.ev q)=aS (gm (ef rows.length p.b))->0<=q.i 183->ef rows.length p.b=List.replicate 80 (az q ce) ->
  postOf pU [.slice (ar x y) rows.length c,.int .i64 w,.agg row.toArray] [] [R,T,RG] q [.ro 140 [.var 0] false,.ro 141 [.var 58] true,.ro 142 [.lit 3] false,.dead,.dead,.hp 145 [] [.var 145] [],.dead,.dead,.bd 183 (List.replicate 80 (CV.int .u8 ce)) 5] (.sv (.agg zx)):=by
  intro U hUR hUT q ce g h7 ht hs2 h183 hce _;obtain⟨⟨_,_,_,k4⟩,_,kr,_⟩:=V q g;have er:=TR hw hlen k4 h7 ht hs2;rw[kr]at er;have hhd:=Oi hx.hd (w:=w) (n:=rows.length) (lS:=ji hs) (sum:=gm (ef rows.length p.b)) hw hlen (qg hs) (fT _) (LD hs) (Bt _);have hrl:(fP (row.take 125) w rows.length (ji hs) (gm (ef rows.length p.b))).length=125:=fj hhd.ok;have hok:bf (zx.map (CV.ev q)) (RD.map j8):=by
   rw[er];have e:RD.map j8=de++[Kd.slice]:=rfl;rw[e];exact kS hhd.ok rfl
  obtain⟨ρ2,_,hn2,he2⟩:=cU RD 0 _ (bh fun _=>0) hok;have hF:ue q [.ro 140 [.var 0] false,.ro 141 [.var 58] true,.ro 142 [.lit 3] false,.dead,.dead,.hp 145 [] [.var 145] [],.dead,.dead,.bd 183 (List.replicate 80 (CV.int .u8 ce)) 5] [8]=Hl.one (q.i 183).toNat (.cells (List.replicate 80 (.int .u8 (az q ce))).toArray 5 (0,0)):=by
   show cu [Hl.one (q.i 183).toNat (.cells ((List.replicate 80 (CV.int .u8 ce)).map (CV.ev q)).toArray 5 (0,0))]=_;rw[aL,acD];rfl
  refine⟨[],[8],rfl,rfl,⟨ρ2,by show Value.agg _=Value.agg _;rw[<-he2],?_,zzT⟩,zx.map (CV.ev q),rfl,fun v' w' row' R' T' RG' rows' hs' p' e1 e2 hR' hA' hx'=>?_⟩
  .obtain⟨m1,m2⟩:=uL (a:=IS) (b:=[Ck.sl]) hn2;refine tu (AT rfl m1) ⟨?_,zzT⟩;have m2:=m2.1;have elast:(CV.sl (.var (0+bc IS)) (.var (0+bc IS+1)) (.var (0+bc IS+2)) (.var (0+bc IS+3))).ev ρ2=.slice (ar (q.i 183) 0) 80 80:=by
    have e:ak 0 RD=ak 0 IS++[CV.sl (.var (0+bc IS)) (.var (0+bc IS+1)) (.var (0+bc IS+2)) (.var (0+bc IS+3))]:=rfl;rw[e,aaK,er]at he2;have:=(ade he2 rfl).2;simpa using this
   simp only[CV.ev,au,Value.slice.injEq]at elast;obtain⟨s1,_⟩:=km h183 (aar 0) m2.2.1 elast.1;exact⟨ah,m2.2.1,m2.2.2.1,m2.2.2.2⟩
  .simp only[aag,aau,Value.int.injEq,aaZ,Value.agg.injEq]at e1 e2;obtain⟨rfl,rfl,e1⟩:=e1;obtain⟨rfl,rfl,rfl⟩:=e2;have e1:=aaO e1;subst e1;obtain rfl:=hR.uniq hR';obtain rfl:=(hA.2 U hUR hUT).uniq (hA'.2 U hUR hUT);obtain rfl:=hx.uniq hx';show dz T (ue q _ [8]) _ _;rw[hF,er];unfold ke;rw[<-hlr];refine⟨kS hhd.ok rfl,?_,?_,hbB.2,by show(ef _ _).length<=_;rw[hbB.1];decide⟩
   .rw[aco hrl];exact hhd
   .have e:(fP (row.take 125) w rows.length (ji hs) (gm (ef rows.length p.b))++[Value.slice (ar (q.i 183) 0) 80 80]).getD 125 Ct=.slice (ar (q.i 183) 0) 80 80:=by
     rw[aap,aav ah,hrl];rfl
    rw[e];show fC _ _ (ef rows.length p.b);rw[hce];refine⟨q.i 183,0,80,by rw[aba],aar _,Or.inr ⟨h183,fun j z hz=>?_⟩⟩;obtain⟨hj,hz⟩:=aah.1 hz;rw[aba]at hj;rw[adg]at hz;subst hz;unfold Hl.cell;rw[Hl.aN];simp only[abi,acJ,aaM];rw[ab7,aay hj]
 simp only[go_sem,Nat.reduceAdd,W8,Yy,Yz,YA,Jy];intro q1 g1 _ q2 g2 _;have G2:ai 143 J q2:=g1.tr g2;obtain⟨⟨k0,k1,k2,k4⟩,⟨h0,h1,h2⟩,kr,kb,ksl⟩:=V q2 G2;rw[ksl,h0];refine⟨⟨_,R,rows,rfl,rfl,hR,hlen⟩,fun q3 g3 ⟨F3,hp3,hF3,hn3⟩ q4 g4 _ q5 g5 _=>?_⟩;have hH:=hp3 _ _ _ rfl rfl hR;rw[<-hF3 zzT]at hH;have n3:0<=q3.i 147:=hn3.1.2.2.1;have h147:q3.i 147=rows.length:=by
  obtain⟨x',y',c',e,_⟩:=id hH;simp only[Value.slice.injEq,aaw]at e;omega
 have A5:ai 149 q3 q5:=g4.tr g5;have G5:ai 143 J q5:=G2.trans (g3.mono.tr A5);obtain⟨⟨m0,m1,m2,m4⟩,⟨o0,o1,o2⟩,mr,mb,msl⟩:=V q5 G5;rw[A5.i 145,A5.i 146,A5.i 147,A5.i 148,A5.h 145,o0,o1,o2];refine⟨n3,fun U u=>⟨_,U,U,U,_,hs,rfl,rfl,cj hH (u _ aC),hA.2 U (u R aC) (u T aC),by rw[aaw];exact hlen,hK.mono (u RG aC)⟩,fun q6 g6 ⟨F6,⟨U,u,hp6⟩,_⟩=>?_⟩;have hUR:=u R aC;have hUT:=u T aC;have hp6:=aaO (Value.agg.inj (hp6 _ U U U _ _ rfl rfl (cj hH (u _ aC)) (hA.2 U hUR hUT)));have fin:=fin U hUR hUT;have G6:ai 143 J q6:=G5.tr g6;have h147b:q6.i 147=rows.length:=by rw[g6.i 147,A5.i 147,h147]
 obtain⟨⟨r0,r1,r2,r4⟩,⟨u0,u1,u2⟩,rr,⟨b3,b4,b5⟩,_⟩:=V q6 G6;have o1':=u1;have ww:IntKind.i64.wrap (w-1)=w-1:=by rw[IntKind.wrap_i64];omega
 rw[r4,r2,ww,b3,b4,b5,u1];have hbd:=hx.body;rw[<-hb0]at hbd;obtain⟨x',y',c',e,hy',hbb⟩:=id hbd;simp only[Value.slice.injEq]at e;have tail:∀ (ce:E),ef rows.length p.b=List.replicate 80 (az q6 ce)->(∀ q,ai 183 q6 q->az q ce=az q6 ce)->∀ q7,ai 183 q6 q7->0<=q7.i 183->jS.pre [Value.slice (ar (q7.i 183) 0) (Int.toNat 80) (Int.toNat 80)] [] [Hl.one (q7.i 183).toNat (.cells ((List.replicate 80 (CV.int .u8 ce)).map (CV.ev q7)).toArray 5 (0,0)),q7.h 142] /\
  ∀ q8,ai 184 q7 q8->(∃ F,jS.post [Value.slice (ar (q7.i 183) 0) (Int.toNat 80) (Int.toNat 80)] [] [Hl.one (q7.i 183).toNat (.cells ((List.replicate 80 (CV.int .u8 ce)).map (CV.ev q7)).toArray 5 (0,0)),q7.h 142] (.agg ((ak 184 (List.replicate 32 (Ck.int .u8))).map (CV.ev q8)).toArray) [] F/\(aT 0 [Cp.agg (List.replicate 32 (Ck.int .u8))]≠[]->q8.h 184=F)/\fe 184 [Cp.agg (List.replicate 32 (Ck.int .u8))] q8) ->
  postOf pU [.slice (ar x y) rows.length c,.int .i64 w,.agg row.toArray] [] [R,T,RG] q8 [.ro 140 [.var 0] false,.ro 141 [.var 58] true,.ro 142 [.lit 3] false,.dead,.dead,.hp 145 [] [.var 145] [],.dead,.dead,.bd 183 (List.replicate 80 (CV.int .u8 ce)) 5] (.sv (.agg zx)):=by
  intro ce hce hst q7 g7 p7;have hRd:fC (Hl.one (q7.i 183).toNat (.cells ((List.replicate 80 (CV.int .u8 ce)).map (CV.ev q7)).toArray 5 (0,0))) (.slice (ar (q7.i 183) 0) (Int.toNat 80) (Int.toNat 80)) (ef rows.length p.b):=by
   refine⟨q7.i 183,0,80,by rw[hbB.1];rfl,aar _,Or.inr ⟨p7,fun j z hz=>?_⟩⟩;rw[hce]at hz;obtain⟨hj,hz⟩:=aah.1 hz;rw[aba]at hj;rw[adg]at hz;unfold Hl.cell;rw[Hl.aN,acD];simp only[abi,acJ,aaM];rw[ab7,aay hj];show some (Value.int .u8 (az q7 ce))=_;rw[hst q7 g7,hz]
  rw[show q7.h 142=RG by rw[g7.h 142,u2]];refine⟨⟨_,_,_,RG,rfl,rfl,hRd,hbB.2,by rw[hbB.1];decide,hK⟩,fun q8 g8 ⟨F8,hp8,_⟩=>?_⟩;have hp8:=aaO (Value.agg.inj (hp8 _ _ _ _ rfl rfl hRd));have A8:ai 183 q6 q8:=g7.tr g8;refine fin q8 ce (G6.tr A8) (by rw[A8.i 147,h147b]) ?_ hp8 (by rw[g8.i 183];exact p7) (by rw[hst q8 A8];exact hce);rw[<-hp6];exact aaQ Array.toList (Value.agg.inj (fS (ks:=List.replicate 32 (Ck.int .u8)) (n:=151) (m:=183) A8 aA))
 have hi:0<J.i 135->∃ z r,p.b=z::r/\0<=J.i 133/\T.cell (J.i 133).toNat (J.i 134).toNat=some (.int .u8 z):=fun hp=>by
  cases hb:p.b with
  | nil=>rw[hb]at e;simp at e;omega
  | cons z r =>
   rw[hb]at hbb;rcases hbb with h | ⟨hx0,hc⟩
   .cases h
   obtain⟨s1,s2⟩:=km hx0 hy' hn5.1 e.1;exact⟨z,r,rfl,ah,by rw[s1,s2];exact hc 0 z rfl⟩
 have hno:¬0<J.i 135->p.b=[]:=fun hn=>aad.1 ah;have mk80:((0:Int)<=80/\((1:Nat):Int)*80<=281474976710656/\(80:Int)<=9223372036854775807):=by decide
 refine⟨ah,ah,⟨ah,ah⟩,ah,hn5.2,fun hp=>?_,fun hn=>⟨mk80,fun q7 g7 ⟨p7,_⟩=>tail _ ?_ (fun q g=>?_) q7 g7 p7⟩⟩
 .obtain⟨z,r,hz,hx0,hc⟩:=hi hp;refine⟨hx0,hn5.1,by rw[hc];rfl,mk80,fun q7 g7 ⟨p7,_⟩=>tail _ ?_ (fun q g=>?_) q7 g7 p7⟩
  .rw[fL,au,au,b3,b4,o1',hz,aa3,hc];rfl
  .rw[fL,fL,au,au,au,au,g.i 133,g.i 134,g.h 141]
 .rw[bJ,au,r2,hno hn];rfl
 .rw[bJ,bJ,au,au,g.i 2]
open Go.Proofs.YtomdimlnggpgbaaGreatDoor.D hiding aQ aD ib
variable {D:DM}{R1 R2:Hl}{w:Int}{c row:List Value}{m n:Nat}{st:Nat->List Pc}{p:Pc}{S:SM}
def JZ {hs:List Hd} {h:Hd} (e:gu w hs h=0):h.Form/\cI h.c 0=w/\cI h.c 1=hs.length+1:=by
 unfold gu at e;split at e
 .cases e
 .rename_i h1;have hF:h.Form:=acH.1 fun g=>h1 (Or.inl g);have hw:cI h.c 0=w:=acH.1 fun g=>h1 (Or.inr g);split at e
  .split at e<;>cases e
  .split at e
   .cases e
   .exact⟨hF,hw,ah⟩
def Ej (h:bK st p=0):bK (dZ st p) p=13:=by
 obtain⟨hF,ha,_,_⟩:=rU h;obtain⟨_,hw,hs⟩:=JZ ha;have e:nu (dZ st p) (cI p.h.c 0-1).toNat=nu st (cI p.h.c 0-1).toNat++[p.h]:=by
  unfold dZ nu;rw[aay h,cG,aaK];rfl
 have ea:gu (cI p.h.c 0) (nu (dZ st p) (cI p.h.c 0-1).toNat) p.h=13:=by
  rw[e];unfold gu;rw[aal (fun g=>g.elim (fun x=>x hF) (fun x=>x rfl)),aay (by rw[aac,aaB];omega),aay];rw[hs,show(((nu st (cI p.h.c 0-1).toNat).length:Int)+1-1).toNat=(nu st (cI p.h.c 0-1).toNat).length by omega,aav (aaz _),adh];rfl
 unfold bK;rw[aal (fun x=>x hF),ea,aay aA]
def RS (D:DM) (S:SM) (n m:Nat):Prop:=∃ (g:Int) (K:Nat),Nonempty (SP D S n g K)/\K<=m/\S.recs.length<=m/\S.bA.length<=1100*m
def RS.pre (h:RS D S n m) (hm:m<=900):S.bA.length<=1048576/\0<=S.LA.serial/\S.recs.length<=1000000000:=by
 obtain⟨g,K,⟨h⟩,hK,hr,hb⟩:=h;refine⟨ah,?_,ah⟩;rw[h.eA];exact abR _
def RS.new (h:6<=m/\m<=16384):RS (fO m) (ic (fO m)) (m/2) 0/\(ic (fO m)).recs=[]/\fQ (fO m)=0/\aG (nA (fO m))/\aG (iV (fO m)):=by
 obtain⟨⟨hP⟩,hr,hE⟩:=SP.new h;obtain⟨_,_,b1,b2⟩:=hP.open;have hb:(ic (fO m)).bA=[]:=by rw[hP.pk,hr];rfl
 exact⟨⟨0,0,⟨hP⟩,aaz _,by rw[hr];exact aaz _,by rw[hb];exact abn _⟩,hr,hE,b1,b2⟩
def Lb (hx:dz R1 R2 row p):aG (gW p):=by
 unfold gW aO;exact iC (iC (ma _) (L6 hx.hd).1) (iC (ma _) hx.byte)
def RS.push (h:RS D S n m) (hroom:1100*((m:Int)+1)<=64*((n:Int)-2)) (hm:m<=900) (hx:dz R1 R2 row p) (hb:p.b.length=80) (st:Nat->List Pc) :
 (cZ D S st p).e=bK st p/\(cZ D S st p).st=dZ st p/\RS (cZ D S st p).D (cZ D S st p).S n (m+1):=by
 obtain⟨g,K,⟨hP⟩,hK,hr,hbA⟩:=h;by_cases h0:bK st p=0
 .have hl:=(Js hx ah).2;have ht:=qf (b:=gW p) ah;have hpk:(bL [gW p]).length=(aO (gW p)).length:=by unfold bL;simp
  obtain⟨a1,a2,⟨a3⟩⟩:=hP.add (rows:=[gW p]) (fun r hr=>by rw[aam.1 hr];omega) ah (fun r hr=>by rw[aam.1 hr];exact Lb hx) ah;have e:cZ D S st p=⟨0,(db D S [gW p]).D,(db D S [gW p]).S,dZ st p⟩:=by
   unfold cZ;rw[aal (fun x=>x h0),aal (fun x=>x a1)]
  rw[e];refine⟨h0.symm,rfl,g,K+1,⟨a3⟩,ah,?_,?_⟩
  .show(db D S [gW p]).S.recs.length<=_;rw[a2,aac,aaB];omega
  .show(db D S [gW p]).S.bA.length<=_;rw[a3.pk,a2,tE,aac,<-hP.pk];omega
 .have e:cZ D S st p=⟨bK st p,D,S,st⟩:=by unfold cZ;rw[aay h0]
  have e2:dZ st p=st:=by unfold dZ;rw[aal h0]
  rw[e,e2];exact⟨rfl,rfl,g,K,⟨hP⟩,ah,by show S.recs.length<=_;omega,by show S.bA.length<=_;omega⟩
def zy {lS sum:List Int} (hA:(lI c w n lS).length=54) (hs:sum.length=32):ba (fP c w n lS sum) 60 32=sum/\cI (fP c w n lS sum) 92=80:=by
 have key:∀ j,(fP c w n lS sum)[60+j]?=(aS sum++(.int .i64 80::(c.drop 93).take 32))[j]?:=fun j=>by
  unfold fP;rw[aav ah,hA];unfold pV;rw[show 60+j-54=j+6 by omega];rfl
 refine⟨?_,?_⟩
 .apply abO (by rw[aR,hs]);intro j h1 h2;have e:(ba (fP c w n lS sum) 60 32)[j]=cI (fP c w n lS sum) (60+j):=by simp [ba]
  rw[e];unfold cI;rw[key,aaC (by rw[bY];omega),fD,aab h2];rfl
 .unfold cI;rw[show 92=60+32 from rfl,key,aav (by rw[bY];omega),bY,hs];rfl
def zC:List Value:=[.int .i64 0,.int .u64 0]++List.replicate 32 (.int .u8 0)++[.int .i64 0,.bool false,.int .u64 0]++List.replicate 16 (.int .u8 0)++[.bool false]++List.replicate 6 (.int .u64 0)++List.replicate 32 (.int .u8 0)++[.int .i64 0]++List.replicate 32 (.int .u8 0)
def LQ:List Value:=(zC.set 53 (.slice none 0 0))++[.slice none 0 0]
def z0:Pc:=⟨⟨zC,[]⟩,[]⟩
def NY (h:bK st p≠0):cZ D S st p=⟨bK st p,D,S,st⟩:=by unfold cZ;rw[aay h]
def AG (st:Nat->List Pc) (p:Pc) (i:Nat):(dZ st p i).length<=(st i).length+1:=by
 unfold dZ;split
 .unfold vk;split
  .rename_i h;rw[h,aac];exact aaz _
  .omega
 .omega
def WA:bf LQ mP:=by
 repeat' (first | exact zzT | refine⟨rfl,?_⟩)
def WC:∀ v∈LQ.take 125,Lc v:=by
 have e:LQ.take 125=zC.set 53 (.slice none 0 0):=rfl;rw[e];have h:∀ v∈zC,Lc v:=by
  intro v hv;unfold zC at hv;simp only[aaU,aan,aat,aaX,acg]at hv;rcases hv with ((((((((rfl | rfl) | ⟨_,rfl⟩) | rfl | rfl | rfl) | ⟨_,rfl⟩) | rfl) | ⟨_,rfl⟩) | ⟨_,rfl⟩) | rfl) | ⟨_,rfl⟩<;>first | exact zzT | (show _<=_/\_<_;omega) | (show ku 0;unfold ku;omega)
 intro v hv;rcases ab1 hv with hv | rfl
 .exact h v hv
 .trivial
def WB (T:Hl):dz T T LQ z0 :=
 ⟨WA,⟨(by have h:=gF (n:=125) WA;rw[pP]at h;exact h),WC,rfl,⟨-1,0,0,rfl,ah,Or.inl rfl⟩,⟨abn _,fun _ h=>nomatch h⟩⟩,⟨-1,0,0,rfl,ah,Or.inl rfl⟩,(fun z hz=>nomatch hz),abn _⟩
noncomputable def Bd:Pc:=ke [] 1 z0
def pC (sum:List Int):List Value:=fP zC 1 0 (List.replicate 32 0) sum
def Qp (sum:List Int) (hs:sum.length=32):Hd.Form ⟨pC sum,[]⟩:=by
 have h92:cI (pC sum) 92=80:=(zy rfl hs).2;refine⟨⟨⟨?_,?_⟩,⟨?_,?_⟩,⟨?_,?_⟩,?_,rfl,⟨?_,?_,?_,?_,?_,?_⟩,Or.inr ?_⟩,abn _,(fun i hi=>by simp at hi),?_,fun h=>by cases h⟩
 all_goals first
  | (show ia (cI (pC sum) 92-16);rw[h92];exact Or.inl rfl)
  | (show wO _ 2 32;repeat' (first | rfl | refine⟨rfl,?_⟩))
  | exact(by decide:(1:Int)<=1)
  | exact(by decide:(1:Int)<=6)
  | exact(by decide:(1:Int)<=1048576)
  | exact(by decide:(0:Int)<=0)
  | exact(by decide:(0:Int)<=255)
  | exact(by decide:(0:Int)<=1099511627776)
  | exact(by decide:(0:Int)<=1048576)
open Classical in
def NQ:bK (fun _=>[]) Bd=0:=by
 have hs:(gm (ef 0 [])).length=32:=fT _;have eh:Bd.h=⟨pC (gm (ef 0 [])),[]⟩:=rfl;have eb:Bd.b=ef 0 []:=rfl;have hF:=Qp _ hs;obtain⟨e1,e2⟩:=zy (c:=zC) (w:=1) (n:=0) (lS:=List.replicate 32 0) rfl hs;have k0:cI (pC (gm (ef 0 []))) 0=1:=rfl;have k1:cI (pC (gm (ef 0 []))) 1=1:=rfl;have kt:ba (pC (gm (ef 0 []))) 2 32=List.replicate 32 0:=rfl;have ha:gu 1 [] ⟨pC (gm (ef 0 [])),[]⟩=0:=by
  unfold gu;rw[aal (fun h=>h.elim (fun x=>x hF) (fun x=>x k0)),k1,aal aA,aal aA,aal (fun x=>x kt)]
 have hw:fa (pC (gm (ef 0 []))) (ef 0 [])=true:=by
  unfold fa;exact decide_eq_true ⟨by rw[show cI (pC (gm (ef 0 []))) 92=80 from e2];rfl,e1.symm⟩
 unfold bK;rw[eh,eb];dsimp only;rw[aal (fun x=>x hF),k0,aal (fun x=>x ha),hw,aal aA,aal aA]
def oZ:Sx.Spec where
 fn:=25
 own:=[]
 rd:=[2000000,100]
 res:=[.one .bool]
 pre:=fun xs Hs Rs=>∃ RG T g,xs=[]/\Rs=[RG,T]/\(Gl RG g/\uf RG 5/\RG.cell 4 0=some Aw)/\uf RG 3
 post:=fun xs Hs Rs v Hs' F=>v=.bool true
def Zm:List CV:=([.int .i64 (.lit 0),.int .u64 (.lit 0)]++List.replicate 32 (CV.int .u8 (.lit 0))++[.int .i64 (.lit 0),.bool .ff,.int .u64 (.lit 0)]++List.replicate 16 (CV.int .u8 (.lit 0))++[.sl (.lit (-1)) (.lit 0) (.lit 0) (.lit 0),.int .u64 (.lit 0),.int .u64 (.lit 0),.int .u64 (.lit 0),.int .u64 (.lit 0),.int .u64 (.lit 0),.int .u64 (.lit 0)]++List.replicate 32 (CV.int .u8 (.lit 0))++[.int .i64 (.lit 0)]++List.replicate 32 (CV.int .u8 (.lit 0))++[.sl (.lit (-1)) (.lit 0) (.lit 0) (.lit 0)])
set_option maxRecDepth 20000 in
def R4 (q:Env):Zm.map (CV.ev q)=LQ:=rfl
noncomputable def WI:List Sx.Spec:=[Eu,sa,zk 1001053,pU,xg]
def R6:∀ t∈WI,t.OK Tryz.prog:=av Jc <| av Bl <| av (ET _) <| av Bi <| av GG <| bN
def Xy:Eu.res=[.one .ptr]:=rfl
def Xz:sa.res=[.one .ptr,.one (.int .i64)]:=rfl
def XA (n:Nat):(zk n).res=[.one (.int .i64)]:=rfl
def XB:pU.res=[.agg RD]:=rfl
def XC:xg.res=[.one (.int .i64)]:=rfl
noncomputable def Zl:aF Tryz.prog WI oZ.fn where
 Λ:=aD
 args:=[]
 mem:=[.ro 0 [.lit 0,.lit 1,.lit 2,.lit 3,.lit 4,.lit 5] false,.ro 1 [] true]
 nv:=2
set_option maxRecDepth 20000 in
def Dw:oZ.OK Tryz.prog:=by
 refine Spec.aV (Γ:=WI) R6 ?_;rintro xs Hs Rs hl1 hl2 ⟨RG,T,g,rfl,rfl,hG,hK⟩;have e0:Hs=[]:=aad.1 hl1;subst e0;refine⟨Zl,aQ [] false [RG,T],fun _ _=>True,fun _ _=>0,rfl,cD (by intro r hr;simp [Zl]at hr;rcases hr with rfl | rfl<;>exact⟨_,_,_,rfl⟩) rfl,(fun _ h=>nomatch h),?_⟩;refine aF.read [gJ] [] [Zm] ?_;generalize hρ:aQ [] false [RG,T]=J;have V:∀ q:Env,ai 2 J q->q.h 0=RG/\q.h 1=T:=fun q g=>by
  rw[g.h 0,g.h 1,<-hρ];exact⟨rfl,rfl⟩
 clear hρ;simp only[go_sem,Nat.reduceAdd,WI,Xy,Xz,XA,XB,XC,Vo];refine⟨⟨40,rfl⟩,fun q2 g2 ⟨F2,⟨m,em,hD⟩,hF2,_⟩=>?_⟩;simp only[aag,Value.int.injEq,aaZ,aau]at em;subst em;rw[<-hF2 (by simp [aT,Cp.roots,Ck.root])]at hD;have hNew:RS (fO 40) (ic (fO 40)) 20 0/\(ic (fO 40)).recs=[]/\fQ (fO 40)=0/\aG (nA (fO 40))/\aG (iV (fO 40)):=RS.new (m:=40) ⟨ah,ah⟩;obtain⟨hRS,ud,hE0,hb1,hb2⟩:=hNew;refine⟨⟨_,_,_,rfl,rfl,hD,hb1,hb2,hE0,ud⟩,fun q4 g4 ⟨F4,⟨dp,H',D',H2,pv,e1,e2,d1,e3,d2,ev,hR⟩,hF4,hn4⟩=>?_⟩;simp only[aag,aau]at e1 e2 e3;subst e1 e2;obtain rfl:=hD.uniq d1;simp only[Value.tuple.injEq,aaH,aag,Value.int.injEq,aaZ,aau]at ev;obtain⟨epv,e6⟩:=ev;rw[<-epv,<-hF4 (by simp [aT,Cp.roots,Ck.root])]at hR;rw[<-e3]at d2;have G4:ai 2 J q4:=g2.tr g4;obtain⟨v0,v1⟩:=V q4 G4;rw[v0,v1,R4];have hRd:aJ T (.slice (ar (-1) 0) (Int.toNat 0) (Int.toNat 0)) mP []:=⟨-1,0,0,rfl,ah,Or.inl rfl⟩;have hAll:WE T T (([]:List (List Value)).map (List.take 125)) []:=⟨rfl,fun _ _ _=>⟨rfl,fun j r h hr=>by simp at hr⟩⟩;refine⟨⟨_,1,LQ,T,T,RG,[],[],z0,rfl,rfl,hRd,hAll,aA,aA,WB T,hK⟩,fun q7 g7 ⟨F7,⟨row,er,hp7⟩,hF7,_⟩ q8 g8 _=>?_⟩;have hx:=hp7 _ _ _ _ _ _ _ _ _ rfl rfl hRd hAll (WB T);have er:=aaO (Value.agg.inj er);rw[Jj]at er;rw[<-er,<-hF7 aA]at hx;have A48:ai 7 q4 q8:=g7.tr g8;have G8:ai 2 J q8:=G4.tr A48;have hpr:∀ q,ai 139 q7 q->(ak 7 gJ).map (CV.ev q)=(ak 7 gJ).map (CV.ev q7):=fun q g=>aaQ Array.toList (Value.agg.inj (fS (ks:=gJ) (n:=7) g aA));have hb80:Bd.b.length=80:=aba;refine⟨fun _=>⟨fun _=>?_,fun hbad=>?_⟩,fun hbad=>absurd (by rw[A48.i 6];exact e6) hbad⟩
 rotate_left
 .exfalso;obtain⟨r,ps,x,HS,HI,hp,_⟩:=hR;rw[A48.i 4]at hbad;rw[hbad]at hp;simp [ar]at hp
 obtain⟨x0,x1⟩:=V q8 G8;rw[hpr q8 g8,g8.h 7,x0,x1,A48.i 4,A48.i 5,A48.h 4,A48.h 5];obtain⟨c1,c2,c3⟩:=hRS.pre ah;refine⟨⟨_,_,_,_,_,_,_,g,_,_,_,_,_,rfl,rfl,rfl,hR,d2,hx,by show Bd.b.length<=2100;omega,fun i _=>Nat.zero_lt_succ _,hG,c1,c2,c3⟩,fun q9 g9 ⟨F9,hp9,_⟩=>?_⟩;obtain⟨hR9,hD9,he9⟩:=uO (K1:=q9.h 140) (K2:=q9.h 141) hR d2 hx hp9;obtain⟨f1,f2,hRS9⟩:=hRS.push aA ah hx hb80 (fun _=>[]);have a1:bK (fun _=>[]) (ke [] 1 z0)=0:=NQ;rw[f1,a1]at he9;rw[f2]at hR9;refine⟨fun _=>?_,fun hne=>absurd (by simpa using he9) hne⟩;have A9:ai 139 q7 q9:=g8.tr g9;have A49:ai 7 q4 q9:=A48.tr g9;have G9:ai 2 J q9:=G4.tr A49;obtain⟨y0,y1⟩:=V q9 G9;rw[hpr q9 A9,A9.h 7,y0,y1,A49.i 4,A49.i 5];obtain⟨c1,c2,c3⟩:=hRS9.pre ah;have hS9:oJ (dZ (fun _=>[]) (ke [] 1 z0)):=fun i _=>by
  have:=AG (fun _=>[]) (ke [] 1 z0) i;simp only[aa9]at this;omega
 refine⟨⟨_,_,_,_,_,_,_,g,_,_,_,_,_,rfl,rfl,rfl,hR9,hD9,hx,by show Bd.b.length<=2100;omega,hS9,hG,c1,c2,c3⟩,fun q10 g10 ⟨F10,hp10,_⟩=>?_⟩;obtain⟨hR10,_,he10⟩:=uO (K1:=q10.h 143) (K2:=q10.h 144) hR9 hD9 hx hp10;have a2:bK (dZ (fun _=>[]) (ke [] 1 z0)) (ke [] 1 z0)=13:=Ej NQ;rw[NY (by rw[a2];decide)]at hR10 he10;rw[a2]at he10;refine⟨fun _=>?_,fun hne=>absurd (by simpa using he10) hne⟩;obtain⟨r,ps,x,hp,hrb,hIx⟩:=hR10.rd;have n5:0<=q4.i 5:=hn4.1.2;obtain⟨i4,i5⟩:=Jl n5 hp;have A10:ai 7 q4 q10:=A49.tr g10;have cr:(q10.h 143).cell ((r:Int)).toNat (Int.toNat ((0:Int)+1))=some (.pointer (some ⟨x,0,none⟩)):=by
  rw[aaa];unfold Hl.cell;rw[hrb];rfl
 rw[A10.i 4,A10.i 5,i4,i5,cr,kP];refine⟨ah,ah,rfl,⟨x,_,_,rfl,rfl,hIx⟩,fun q11 g11 ⟨F11,hp11,_⟩=>?_⟩;have h11:q11.i 146=fy (dZ (fun _=>[]) (ke [] 1 z0)):=by simpa using hp11 _ _ _ rfl rfl hIx
 obtain⟨hF,_⟩:=rU a1;have hw:=yn hF;have hc:fy (dZ (fun _=>[]) (ke [] 1 z0))=1:=by
  unfold dZ;rw[aay a1,DG _ _ ah];rfl
 refine tH rfl ?_;have e:aY q11 ((E.var 146).eq (E.lit 1))=true:=by rw[ga,au,aq,h11,hc]
 show Value.bool _=_;rw[e]
end Go.Proofs.YtomdimlnggpgbaaGreatDoor
namespace Go.Proofs.YtomdimlnggpgbaaGreatDoor
open Go Go.Sx Go.Pk
def Di (row:List Value) (k:Nat):Nat:=match row[k]? with
 | some (.slice _ l _)=>l
 | _=>0
def uz:Sx.Spec where
 fn:=26
 own:=[]
 rd:=[0]
 res:=[.one .bool]
 pre:=fun xs Hs Rs=>∃ u n R rows,xs=[u,.int .i64 n]/\Rs=[R]/\aJ R u mP rows/\n<=100
 post:=fun xs Hs Rs v Hs' F=>∀ u n R rows,xs=[u,.int .i64 n]->Rs=[R]->aJ R u mP rows->∃ z,v=.bool z/\(z=true->(rows.length:Int)<=n/\∀ row∈rows,Di row 53<=20/\Di row 125<=2100)
noncomputable def MG:aF Tryz.prog [] 26 where
 Λ:=fun p=>if lp p then some ⟨0,[(5,TI .i64 (.var 50))],[],60⟩else none
 args:=[.sv (.one (.sl (.var 0) (.var 1) (.var 2) (.var 3))),.sv (.one (.int .i64 (.var 4)))]
 mem:=[.ro 5 [.var 0] false]
 nv:=6
def JI {row:List Value} (h:bf row mP) {k:Nat} (hk:k=53\/k=125):∃ u,row[k]?=some u/\bw (some u) .slice=true/\bo (some u) 2=Di row k:=by
 have hl:=fj h;rw[fY]at hl;have qv:k<row.length:=ah;refine⟨row[k],aab qv,?_⟩;have h1:bw row[k]? .slice=true:=by
  obtain⟨q,hq,_,_⟩:=CN (ks:=gJ) [] h;rw[hq];rcases hk with rfl | rfl<;>kernel_rfl
 rw[aab qv]at h1;refine⟨h1,?_⟩;unfold Di;rw[aab qv];cases hv:row[k]with
 | slice a l c=>simp [bo]
 | _=>rw[hv]at h1;simp [bw]at h1
def Kn:uz.OK Tryz.prog:=by
 refine Spec.aV (Γ:=[]) (fun _ h=>nomatch h) ?_;rintro xs Hs Rs hl1 hl2 ⟨u,n,R,rows,rfl,rfl,hR,hn⟩;have e0:Hs=[]:=aad.1 hl1;subst e0;obtain⟨x,y,c,rfl,hy,hr⟩:=id hR;refine⟨MG,aQ [x,y,rows.length,c,n] false [Hl.none,Hl.none,Hl.none,Hl.none,Hl.none,R],fun _ q=>∃ k:Nat,q.i 50=k/\k<=rows.length/\∀ row∈rows.take k,Di row 53<=20/\Di row 125<=2100,fun _ q=>(rows.length-q.i 50).toNat,?_,cD (by intro r hr;simp [MG]at hr;subst hr;exact⟨_,_,_,rfl⟩) rfl,(fun _ h=>nomatch h),?_⟩
 .show [Value.slice (ar x y) ((rows.length:Int)).toNat ((c:Int)).toNat,_]=_;simp only[aaa];rfl
 refine aF.read [] [] [] ?_;generalize hρ:aQ [x,y,rows.length,c,n] false [Hl.none,Hl.none,Hl.none,Hl.none,Hl.none,R]=J;have V:∀ q:Env,ai 6 J q->q.i 0=x/\q.i 1=y/\q.i 2=rows.length/\q.i 4=n/\q.h 5=R:=fun q hg=>by
  rw[hg.i 0,hg.i 1,hg.i 2,hg.i 4,hg.h 5,<-hρ];exact⟨rfl,rfl,rfl,rfl,rfl⟩
 clear hρ;have out:∀ {q:Env} {e:E} {mem:Mem},(aY q e=true->(rows.length:Int)<=n/\∀ row∈rows,Di row 53<=20/\Di row 125<=2100)->postOf uz [.slice (ar x y) rows.length c,.int .i64 n] [] [R] q mem (.sv (.one (.bool e))):=by
  intro q e mem he;refine tH rfl fun u' n' R' rows' e1 e2 hR'=>?_;simp only[aag,Value.int.injEq,aaZ,aau]at e1 e2;obtain⟨rfl,rfl⟩:=e1;subst e2;obtain rfl:=hR.uniq hR';exact⟨_,rfl,he⟩
 have ff:∀ {q:Env} {mem:Mem},postOf uz [.slice (ar x y) rows.length c,.int .i64 n] [] [R] q mem (.sv (.one (.bool .ff))):=out fun e=>by rw[cq]at e;cases e
 simp only[go_sem,Nat.reduceAdd];refine⟨⟨0,rfl,abn _,fun row h=>by simp at h⟩,fun q g ⟨k,ek,hk,hall⟩=>?_⟩;obtain⟨v0,v1,v2,v4,w5⟩:=V q g;rw[v0,v1,v2,w5,ek];have fin:∀ {q':Env} {mem:Mem},q'=q->(k=rows.length\/100<=k)->postOf uz [.slice (ar x y) rows.length c,.int .i64 n] [] [R] q' mem (.sv (.one (.bool (.le (.var 2) (.var 4))))):=by
  rintro q' mem rfl hkk;refine out fun h=>?_;rw[kV,au,au,v2,v4,aaf]at h;have:k=rows.length:=ah;refine⟨h,fun row hr=>hall row ?_⟩;rw[this,abg];exact hr
 refine⟨ah,fun hlt=>⟨fun h100=>?_,fun h100=>fin rfl (Or.inr ah)⟩,fun hge=>fin rfl (Or.inl ah)⟩;have hkr:rows[k]?=some rows[k]:=aab ah;rcases hr with rfl | ⟨hx,hr⟩
 .simp at hlt;omega
 obtain⟨hok,hcell⟩:=hr k _ hkr;rw[fY]at hcell;obtain⟨u1,hu1,s1,s2⟩:=JI hok (Or.inl rfl);obtain⟨u2,hu2,s3,s4⟩:=JI hok (Or.inr rfl);have k1:R.cell x.toNat (y+(k:Int)*126+53).toNat=some u1:=by rw[show(y+(k:Int)*126+53).toNat=y.toNat+k*126+53 by omega];exact hcell 53 _ hu1
 have k2:R.cell x.toNat (y+(k:Int)*126+125).toNat=some u2:=by rw[show(y+(k:Int)*126+125).toNat=y.toNat+k*126+125 by omega];exact hcell 125 _ hu2
 rw[k1,k2,s2,s4];refine⟨hx,hy,ah,s1,ah,fun h20=>⟨s3,ah,fun _=>ff,fun hb=>⟨⟨k+1,?_,ah,fun row aB=>?_⟩,?_⟩⟩,fun _=>ff⟩
 .show IntKind.i64.wrap (q.i 50+1)=_;rw[ek];exact wrap_i64 ah ah
 .rw[abJ,hkr,abN]at aB;rcases aaU.1 aB with h | h
  .exact hall row h
  .rw[aam]at h;subst h;exact⟨ah,ah⟩
 .show((rows.length:Int)-IntKind.i64.wrap (q.i 50+1)).toNat<_;rw[ek,wrap_i64 ah ah];omega
open Go.Proofs.YtomdimlnggpgbaaGreatDoor.D hiding aQ aD ib
variable {F H K:Hl}{m x:Nat}{dp v:Value}
def Of (T:Hl) (h:H x=some (.cells #[.slice none 0 0,.slice none 0 0,.slice none 0 0,.slice none 0 0,.slice none 0 0,.slice none 0 0] 57 (0,0))):lP H T x (fun _=>[]) :=
 ⟨fun _=>.slice none 0 0,Hl.none,⟨h,fun i _=>⟨[],sE.nil _ _ _,rfl,fun j row p hr=>by simp at hr⟩,fun b o hb=>(by cases hb)⟩,fun hm=>(by cases hm),fun i b _ hb=>(by cases hb),fun i _ p hp=>(by cases hp)⟩
def MN {st:Nat->List Pc} {p:Pc} (h:Good st) (hb:aG p.b/\p.b.length<=1000000):Good (dZ st p):=by
 unfold dZ;split
 .intro i hi q hq;unfold vk at hq;split at hq
  .rename_i e;rcases aaU.1 hq with h1 | h1
   .exact h _ (e▸hi) q h1
   .rw[aam]at h1;rw[h1];exact hb
  .exact h i hi q hq
 .exact h
def Le {D:DM} (hD:aE H dp D) (h:sa.post [dp] [H] [] v [K] F):aE K dp D/\∃ pv,v=.tuple #[pv,.int .i64 0]/\fc F pv dp (ic D) (fun _=>[]):=by
 obtain⟨dp',H',D',H2,pv,e1,e2,d1,e3,d2,hv,hr⟩:=h;simp only[aag,aau]at e1 e2 e3;subst e1 e2 e3;obtain rfl:=hD.uniq d1;exact⟨d2,pv,hv,hr⟩
def Tp (h:Eu.post [.int .i64 (m:Int)] [] [] v [] F):aE F v (fO (m:Int)):=by
 obtain⟨n,en,hD⟩:=h;simp only[aag,Value.int.injEq,aaZ,aau]at en;subst en;exact hD
def Ow:Sx.Spec where
 fn:=7
 own:=[]
 rd:=[0,2000000]
 res:=[.one .bool]
 pre:=fun xs Hs Rs=>∃ (v v2:Value) (cv:Nat->Int) (all:Bool) (u:Value) (most:Int) (T RG:Hl) (g:Nat->Addr) (rows:List (List Value)) (bs:List Int) (TT:List (List Int)),xs=[v,v2,.agg #[.int .u64 (cv 0),.int .u64 (cv 1),.int .u64 (cv 2),.int .u64 (cv 3),.int .u64 (cv 4),.int .u64 (cv 5),.bool all,u,.int .i64 most]]/\Rs=[T,RG]/\aJ T v mP rows/\(∀ row∈rows,Di row 53<=20->Di row 125<=2100->∃ c,dz T T row c)/\(fC T v2 bs/\∀ b∈bs,0<=b/\b<256)/\(∀ i,i<6->0<=cv i/\cv i<18446744073709551616)/\aJ T u jF (TT.map aS)/\(∀ t∈TT,t.length=16/\aG t)/\(Gl RG g/\uf RG 5/\RG.cell 4 0=some Aw)/\uf RG 3
 post:=fun xs Hs Rs v Hs' F=>v=.bool true
noncomputable def Qv:List Sx.Spec:=[Eu,sa,pU,PB (Fb 100),uz,oZ,zk 1001053,Jm,LH xp [0,100],LH CC [0,1,100,6000005]]
def Qw:∀ t∈Qv,t.OK Tryz.prog:=av Jc <| av Bl <| av Bi <| av (PC (Ov _)) <| av Kn <| av Dw <| av (ET _) <| av NW <| av (vj Hu) <| av (vj K3) <| bN
def VV:Eu.res=[.one .ptr]:=rfl
def VW:sa.res=[.one .ptr,.one (.int .i64)]:=rfl
def VX:pU.res=[.agg RD]:=rfl
def VY:(PB (Fb 100)).res=[.one (.int .i64)]:=rfl
def VZ:uz.res=[.one .bool]:=rfl
def V0:oZ.res=[.one .bool]:=rfl
def V1:(zk 1001053).res=[.one (.int .i64)]:=rfl
def V2:Jm.res=[.one .sl]:=rfl
def V3 (l:List Nat):(LH xp l).res=[.one .sl]:=rfl
def V4 (l:List Nat):(LH CC l).res=[.one .bool]:=rfl
noncomputable def RL:aF Tryz.prog Qv Ow.fn where
 Λ:=fun p=>if lp p&&p.head?==some 7 then some ⟨0,[(10,TI .i64 (.var 60))],[(3,.hp 61 [] [.var 25] []),(4,.hp 62 [] [.var 27] [.var 25]),(5,.hp 63 [] [.var 30,.lit (-7)] [])],80⟩
  else if cutAt p [7,1,1,1,1,1,0,1,0,0,1,0,0,1,0]then some ⟨1,[(11,TI .i64 (.var 90))],[],95⟩else none
 args:=[.sv (.one (.sl (.var 0) (.var 1) (.var 2) (.var 3))),.sv (.one (.sl (.var 4) (.var 5) (.var 6) (.var 7))),.sv (.agg (ak 8 (List.replicate 6 (.int .u64)++[Ck.bool,Ck.sl,Ck.int .i64])))]
 mem:=[.ro 20 [.var 0,.var 4,.var 15] true,.ro 21 [.lit 0,.lit 1,.lit 2,.lit 3,.lit 4,.lit 5] false]
 nv:=22
structure ZL (T:Hl) (dp pr:Value) (z:Nat) (HD HR HX:Hl) (k:Nat) (D:DM) (S:SM) (st:Nat->List Pc):Prop where
 dk:aE HD dp D
 ra:fc HR pr dp S st
 rf:lP HX T z st
 rs:RS D S 1000 k
 ln:∀ i,i<6->(st i).length<=k
 gd:Good st
def Wf (T:Hl) (N:Nat):Nat->Env->Prop
 | 0,q=>∃ (k z:Nat) (D:DM) (S:SM) (st:Nat->List Pc),q.i 60=k/\k<=N/\q.i 30=z/\ZL T (.pointer (ar (q.i 25) (q.i 26))) (.pointer (ar (q.i 27) (q.i 28))) z (q.h 61) (q.h 62) (q.h 63) k D S st
 | _,q=>∃ i:Nat,i<6/\q.i 90=((i+1:Nat):Int)
def Px {q:Env} {cv:Nat->Int} (h:q.i 8=cv 0/\q.i 9=cv 1/\q.i 10=cv 2/\q.i 11=cv 3/\q.i 12=cv 4/\q.i 13=cv 5):Value.agg (List.map (CV.ev q) (ak 8 (List.replicate 6 (Ck.int .u64)))).toArray=Dg cv:=by
 show Value.agg #[.int .u64 (q.i 8),.int .u64 (q.i 9),.int .u64 (q.i 10),.int .u64 (q.i 11),.int .u64 (q.i 12),.int .u64 (q.i 13)]=_;rw[h.1,h.2.1,h.2.2.1,h.2.2.2.1,h.2.2.2.2.1,h.2.2.2.2.2];rfl
set_option maxRecDepth 20000 in
def Ox:Ow.OK Tryz.prog:=by
 refine Spec.aV (Γ:=Qv) Qw ?_;rintro xs Hs Rs hl1 hl2 ⟨v,v2,cv,all,u,most,T,RG,g,rows,bs,TT,rfl,rfl,hR,hP,⟨hB,hb⟩,hcv,hU,htk,hG,hK⟩;have e0:Hs=[]:=aad.1 hl1;subst e0;obtain⟨x,y,c,rfl,hy,hRR⟩:=id hR;obtain⟨x2,y2,c2,rfl,hy2,hBB⟩:=id hB;obtain⟨ux,uy,uc,rfl,huy,_⟩:=id hU;refine⟨RL,aQ [x,y,rows.length,c,x2,y2,bs.length,c2,cv 0,cv 1,cv 2,cv 3,cv 4,cv 5,0,ux,uy,(TT.map aS).length,uc,most] all (List.replicate 20 Hl.none++[T,RG]),
  Wf T rows.length,fun j q=>(rows.length-q.i 60).toNat,?_,cD (by intro r hr;simp [RL]at hr;rcases hr with rfl | rfl<;>exact⟨_,_,_,rfl⟩) rfl,(fun _ h=>nomatch h),?_⟩
 .show [Value.slice (ar x y) ((rows.length:Int)).toNat ((c:Int)).toNat,Value.slice (ar x2 y2) ((bs.length:Int)).toNat ((c2:Int)).toNat,.agg #[.int .u64 (cv 0),.int .u64 (cv 1),.int .u64 (cv 2),.int .u64 (cv 3),.int .u64 (cv 4),.int .u64 (cv 5),.bool all,.slice (ar ux uy) (((TT.map aS).length:Int)).toNat ((uc:Int)).toNat,.int .i64 most]]=_;simp only[aaa]
 refine aF.read [gJ] [mP] [] ?_;generalize hρ:aQ [x,y,rows.length,c,x2,y2,bs.length,c2,cv 0,cv 1,cv 2,cv 3,cv 4,cv 5,0,ux,uy,(TT.map aS).length,uc,most] all (List.replicate 20 Hl.none++[T,RG])=J;have V:∀ q:Env,ai 22 J q->(q.i 0=x/\q.i 1=y/\q.i 2=rows.length/\q.i 3=c)/\(q.i 4=x2/\q.i 5=y2/\q.i 6=bs.length)/\(q.i 8=cv 0/\q.i 9=cv 1/\q.i 10=cv 2/\q.i 11=cv 3/\q.i 12=cv 4/\q.i 13=cv 5)/\(q.i 15=ux/\q.i 16=uy/\q.i 17=(TT.map aS).length/\q.i 18=uc/\q.i 19=most)/\aY q (.bvar 14)=all/\q.h 20=T/\q.h 21=RG:=fun q g=>by
  rw[g.i 0,g.i 1,g.i 2,g.i 3,g.i 4,g.i 5,g.i 6,g.i 8,g.i 9,g.i 10,g.i 11,g.i 12,g.i 13,g.i 15,g.i 16,g.i 17,g.i 18,g.i 19,show aY q (.bvar 14)=J.b 14 from g.b 14,g.h 20,g.h 21,<-hρ];exact⟨⟨rfl,rfl,rfl,rfl⟩,⟨rfl,rfl,rfl⟩,⟨rfl,rfl,rfl,rfl,rfl,rfl⟩,⟨rfl,rfl,rfl,rfl,rfl⟩,rfl,rfl,rfl⟩
 clear hρ;simp only[go_sem,Nat.reduceAdd,Qv,VV,VW,VX,VY,VZ,V0,V1,V2,V3,V4,Jy,QT];have aw:∀ {q:Env},ai 22 J q->oZ.pre [] [] [q.h 21,q.h 20]:=fun hg=>by
  obtain⟨_,_,_,_,_,w1,w2⟩:=V _ hg;exact⟨RG,T,g,rfl,by rw[w1,w2],hG,hK⟩
 have out:∀ {q:Env} {mem:Mem} {e:E},aY q e=true->postOf Ow [.slice (ar x y) rows.length c,.slice (ar x2 y2) bs.length c2,.agg #[.int .u64 (cv 0),.int .u64 (cv 1),.int .u64 (cv 2),.int .u64 (cv 3),.int .u64 (cv 4),.int .u64 (cv 5),.bool all,.slice (ar ux uy) (TT.map aS).length uc,.int .i64 most]] [] [T,RG] q mem (.sv (.one (.bool e))):=fun h=>tH rfl (by show Value.bool _=_;rw[h]);intro q0 g0 _;refine⟨aw g0,fun q1 g1 ⟨_,p1,_,_⟩=>⟨fun _=>?_,fun h=>absurd (Value.bool.inj p1) h⟩⟩;have G1:ai 22 J q1:=g0.tr g1;obtain⟨⟨v0,v1,v2,v3⟩,_,_,_,_,w20,w21⟩:=V q1 G1;rw[v0,v1,v2,v3,w20,aaa,aaa];refine⟨⟨_,25,T,rows,rfl,rfl,hR,aA⟩,fun q2 g2 ⟨_,p2,_,_⟩=>?_⟩;obtain⟨zz,hz,hz2⟩:=p2 _ _ _ _ rfl rfl hR;have hz:q2.b 24=zz:=Value.bool.inj hz;have G2:ai 22 J q2:=G1.tr g2;obtain⟨_,_,_,⟨_,_,v17,_⟩,_⟩:=V q2 G2;refine⟨fun h24=>⟨ah,fun _=>⟨aw G2,fun q3 _ ⟨_,p3,_,_⟩=>out (Value.bool.inj p3)⟩,fun h20=>?_⟩,fun _=>⟨aw G2,fun q3 _ ⟨_,p3,_,_⟩=>out (Value.bool.inj p3)⟩⟩;rw[hz]at h24;obtain⟨hl25,hrows⟩:=hz2 h24;rw[v17,aaw]at h20;have hTT:gI TT:=⟨ah,htk⟩;obtain⟨hRS0,hrec0,hE0,hlo0,hhi0⟩:=RS.new (m:=2000) ah;have newP:∀ {v:Value} {F:Hl},Eu.post [.int .i64 2000] [] [] v [] F->aE F v (fO ((2000:Nat):Int)):=fun {v F} h=>Tp (m:=2000) h;generalize fO ((2000:Nat):Int)=D0 at hRS0 hrec0 hE0 hlo0 hhi0 newP;refine⟨⟨2000,rfl⟩,fun q3 g3 ⟨F3,p3,hF3,_⟩=>?_⟩;have hD3:=newP p3;rw[<-hF3 zzT]at hD3;have G3:ai 22 J q3:=G2.tr g3;refine⟨⟨_,_,D0,rfl,rfl,hD3,hlo0,hhi0,hE0,hrec0⟩,fun q4 g4 ⟨F4,p4,hF4,n4⟩=>?_⟩;obtain⟨hD4,pv,hv4,hR4⟩:=Le hD3 p4;rw[<-hF4 (by simp [aT,Cp.roots,Ck.root])]at hR4;simp only[Value.tuple.injEq,aaH,aag,Value.int.injEq,aaZ,aau]at hv4;obtain⟨rfl,e29⟩:=hv4;refine⟨fun h=>absurd e29 h,fun _ q5 g5 n5 q6 g6 h31=>?_⟩;have A46:ai 30 q4 q6:=g5.tr g6;have G6:ai 22 J q6:=G3.trans (g4.mono.tr A46);have e30:q6.i 30=q5.i 30:=g6.i 30;refine⟨⟨0,(q5.i 30).toNat,D0,ic D0,fun _=>[],rfl,abn _,by show q6.i 30=_;omega,?_,?_,?_,hRS0,fun i _=>aaz _,fun i _ p h=>(by cases h)⟩,fun q7 g7 ⟨k,z,D,S,st,ek,hk,ez,hI⟩=>?_⟩
 .show aE (q6.h 27) (.pointer (ar (q6.i 25) (q6.i 26))) _;rw[A46.h 27,A46.i 25,A46.i 26,g4.i 25,g4.i 26];exact hD4
 .show fc (q6.h 28) (.pointer (ar (q6.i 27) (q6.i 28))) (.pointer (ar (q6.i 25) (q6.i 26))) _ _;rw[A46.h 28,A46.i 25,A46.i 26,A46.i 27,A46.i 28,g4.i 25,g4.i 26];exact hR4
 .show lP (q6.h 31) _ _ _;rw[h31];exact Of T (Hl.aN _ _)
 have G7:ai 22 J q7:=G6.tr g7;obtain⟨⟨v0,v1,v2,v3⟩,⟨v4,v5,v6⟩,vc,⟨v15,v16,v17,v18,v19⟩,vb,w20,w21⟩:=V q7 G7;have W:∀ q,ai 80 q7 q->(q.i 60=k/\q.i 30=z/\q.i 0=x/\q.i 1=y)/\(q.i 25=q7.i 25/\q.i 26=q7.i 26/\q.i 27=q7.i 27/\q.i 28=q7.i 28)/\q.h 20=T/\q.h 21=RG/\q.h 61=q7.h 61/\q.h 62=q7.h 62/\q.h 63=q7.h 63:=fun q g=>by
  rw[g.i 60,g.i 30,g.i 0,g.i 1,g.i 25,g.i 26,g.i 27,g.i 28,g.h 20,g.h 21,g.h 61,g.h 62,g.h 63];exact⟨⟨ek,ez,v0,v1⟩,⟨rfl,rfl,rfl,rfl⟩,w20,w21,rfl,rfl,rfl⟩
 have hk25:k<=25:=ah;have hS:oJ st:=fun i hi=>by have:=hI.ln i hi;omega
 rw[v2,v4,v5,v6,w20,ek];refine⟨ah,fun hlt=>⟨⟨ah,fun hl2=>?_,fun _=>?_⟩,fun q8 g8 ⟨i,hi6,e90⟩=>?_⟩,fun hge=>?_⟩
 .have hkb:k<bs.length:=ah;rcases hBB with e | ⟨hx20,hBB⟩
  .rw[e]at hkb;simp at hkb
  obtain⟨b1,b2⟩:=hb _ (abB hkb);have hcb:T.cell x2.toNat (y2+(k:Int)).toNat=some (.int .u8 bs[k]):=by
   rw[show(y2+(k:Int)).toNat=y2.toNat+k by omega];exact hBB k _ (aab hkb)
  refine⟨hx20,hy2,ah,by rw[hcb];rfl,(bs[k]%6).toNat,ah,?_⟩;show IntKind.i64.wrap (1+IntKind.i64.wrap (Int.tmod (bV ((q7.h 20).cell (q7.i 4).toNat ((q7.i 5+q7.i 60).toNat+0))) 6))=_;rw[w20,v4,v5,ek,aa3,hcb];show IntKind.i64.wrap (1+IntKind.i64.wrap (Int.tmod bs[k] 6))=_;rw[abh b1,wrap_i64 (n:=bs[k]%6) ah ah,wrap_i64 ah ah];omega
 .refine⟨k%2,ah,?_⟩;show IntKind.i64.wrap (1+Int.tmod (q7.i 60) 2)=_;rw[ek,abh ah,wrap_i64 ah ah];omega
 .obtain⟨⟨a60,a30,a0,a1⟩,_,b20,b21,_,_,b63⟩:=W q8 g8;have qv:k<rows.length:=ah;have hrk:rows[k]?=some rows[k]:=aab qv;have hmem:rows[k]∈rows:=abB qv;obtain⟨p,hp⟩:=hP _ hmem (hrows _ hmem).1 (hrows _ hmem).2;generalize rows[k]=row at hrk hp;rcases hRR with h0 | ⟨hx0,hRR⟩
  .rw[h0]at qv;simp at qv
  obtain⟨hok,hcl⟩:=hRR k row hrk;have hc:∀ i u,row[i]?=some u->T.cell x.toNat ((y+(k:Int)*126).toNat+i)=some u:=fun i u hu=>by
   have:=hcl i u hu;rw[fY]at this;rw[show(y+(k:Int)*126).toNat=y.toNat+k*126 by omega];exact this
  have e1:IntKind.i64.wrap (((i+1:Nat):Int)-1)=((i:Nat):Int):=by rw[wrap_i64 ah ah];omega
  obtain⟨sv,KB,hXD⟩:=id hI.rf;obtain⟨cS,csl,cl,cs⟩:=hXD.sl hi6;obtain⟨rws,ho,hrl,hrp⟩:=hXD.row i hi6;have hl0:=hI.ln i hi6;have hAll:WE (q7.h 63) T (rws.map (List.take 125)) (nu st i):=by
   have hlen:(rws.map (List.take 125)).length=(nu st i).length:=by unfold nu;rw[aaw,aaw,hrl]
   refine⟨hlen,fun U a b=>⟨hlen,fun j r h hr hh=>?_⟩⟩;unfold nu at hh;rw[aao]at hr hh;obtain⟨r0,ud,rfl⟩:=aai.1 hr;obtain⟨p0,hp0,rfl⟩:=aai.1 hh;exact((hrp j r0 p0 ud hp0).2 U b fun b' o hb=>a b' o (hXD.kb b' o hb)).hd
  have cS':(q7.h 63).cell ((z:Int)).toNat ((i:Nat):Int).toNat=some (sv i):=by rw[aaa,aaa];exact cS
  have eR:(aU 20 (.var 0) ((E.var 1).add ((E.var 60).mul (.lit 126))) 0 mP).map (CV.ev q8)=row:=dq _ mP 0 hok fun j u hu=>by
   show(q8.h 20).cell (q8.i 0).toNat ((q8.i 1+q8.i 60*126).toNat+(0+j))=some u;rw[b20,a0,a1,a60,aaM];exact hc j u hu
  rw[e90,e1,a30,b63,cS',ij csl,eR,b20,b21,a0,a1,a60];refine⟨ah,ah,ah,cs,hx0,hy,ah,jR _ hok hc,⟨sv i,((i+1:Nat):Int),row,_,T,RG,rws,nu st i,p,rfl,rfl,ho.rd,hAll,ah,ah,hp,hK⟩,fun q9 g9 ⟨F9,⟨row',er,hpo⟩,hF9,_⟩ q10 g10 _=>?_⟩;have hx:=hpo _ _ _ _ _ _ _ _ _ rfl rfl ho.rd hAll hp;have er:=aaO (Value.agg.inj er);rw[Jj]at er;rw[<-hF9 aA]at hx;have hb80:(ke (nu st i) ((i+1:Nat):Int) p).b.length=80:=aba;generalize ke (nu st i) ((i+1:Nat):Int) p=c' at hx hb80;have B10:ai 80 q7 q10:=g8.trans (g9.mono.tr g10);have er10:∀ q,ai 227 q9 q->(ak 95 gJ).map (CV.ev q)=row':=fun q g=>(aaQ Array.toList (Value.agg.inj (fS (ks:=gJ) (n:=95) g aA))).trans er;obtain⟨_,⟨d25,d26,d27,d28⟩,d20,d21,d61,d62,d63⟩:=W q10 B10;rw[er10 q10 g10,d20,d21,d61,d62,d27,d28,g10.h 95];obtain⟨t1,t2,t3⟩:=hI.rs.pre ah;refine⟨⟨_,_,_,_,T,_,RG,g,_,S,D,st,c',rfl,rfl,rfl,hI.ra,hI.dk,hx,ah,hS,hG,t1,t2,t3⟩,fun q11 g11 ⟨F11,p11,_⟩ q12 g12 ⟨h231,hdis⟩=>?_⟩;obtain⟨hR11,hD11,e11⟩:=uO (K1:=q11.h 228) (K2:=q11.h 229) hI.ra hI.dk hx p11;have e11:q11.i 228=(cZ D S st c').e:=by simpa using e11
  obtain⟨u1,u2,u3⟩:=hI.rs.push ah ah hx hb80 st;rw[u1]at e11;rw[u2]at hR11;have A12:ai 227 q9 q12:=g10.trans (g11.mono.tr g12);have B11:ai 80 q7 q11:=B10.tr g11;have B12:ai 80 q7 q12:=B11.tr g12;obtain⟨⟨_,f30,_⟩,_,f20,f21,_⟩:=W q12 B12;rw[(W q11 B11).2.2.2.2.2.2,g11.h 95,g10.h 95]at h231 hdis;rw[er10 q12 A12,h231,f20,f21,f30,show Value.pointer (ar ((z:Nat):Int) 0)=.pointer (some ⟨z,0,none⟩)by rw[al ah];rfl];refine⟨⟨z,_,_,row',T,RG,st,c',rfl,rfl,rfl,hdis,hI.rf,hS,fun i hi=>(by have:=hI.ln i hi;omega),hx.u,ah,hK⟩,fun q13 g13 ⟨F13,p13,_⟩=>?_⟩;obtain⟨e13,hX13,_⟩:=Li (K:=q13.h 232) hdis hI.rf hx.u p13;have e13:q13.i 232=bK st c':=by simpa using e13
  have C13:ai 231 q11 q13:=g12.tr g13;rw[C13.i 228,e11,e13];have B13:ai 80 q7 q13:=B12.tr g13;obtain⟨⟨h60,h30,_⟩,⟨h25,h26,h27,h28⟩,_⟩:=W q13 B13;have ew:IntKind.i64.wrap (q13.i 60+1)=((k+1:Nat):Int):=by rw[h60,wrap_i64 ah ah];omega
  refine⟨fun hne=>absurd rfl hne,fun _=>⟨⟨k+1,z,(cZ D S st c').D,(cZ D S st c').S,dZ st c',ew,ah,h30,?_⟩,?_⟩⟩
  .refine⟨?_,?_,hX13,u3,fun i hi=>(by have:=AG st c' i;have:=hI.ln i hi;omega),MN hI.gd ⟨hx.byte,ah⟩⟩
   .show aE (q13.h 229) (.pointer (ar (q13.i 25) (q13.i 26))) _;rw[C13.h 229,h25,h26];exact hD11
   .show fc (q13.h 228) (.pointer (ar (q13.i 27) (q13.i 28))) (.pointer (ar (q13.i 25) (q13.i 26))) _ _;rw[C13.h 228,h25,h26,h27,h28];exact hR11
  .show((rows.length:Int)-IntKind.i64.wrap (q13.i 60+1)).toNat<((rows.length:Int)-(k:Int)).toNat;rw[ew];omega
 .have n28:0<=q7.i 28:=by rw[g7.i 28,A46.i 28];exact n4.1.2
  have hRR:=hI.ra.rd;obtain⟨r,ps,xi,epr,hrb,_⟩:=id hRR;obtain⟨XT,XU⟩:=Jl n28 epr;have h400:∀ i,i<6->(st i).length<=400:=fun i hi=>by have:=hI.ln i hi;omega
  have hbl:(gC st cv all TT most).length<=100000:=by unfold gC;rw[aaw,aaA];omega
  have eV:∀ q,ai 80 q7 q->Value.agg (List.map (CV.ev q) (ak 8 (List.replicate 6 (Ck.int .u64)))).toArray=Dg cv/\Value.agg #[.bool (aY q (.bvar 14)),.slice (ar (q.i 15) (q.i 16)) (q.i 17).toNat (q.i 18).toNat]=.agg #[.bool all,.slice (ar ux uy) (TT.map aS).length uc]/\q.i 19=most:=fun q g=>by
   obtain⟨_,_,kc,⟨k15,k16,k17,k18,k19⟩,kb,_⟩:=V q (G7.tr g);exact⟨Px kc,by rw[kb,k15,k16,k17,k18,aaa,aaa],k19⟩
  intro q8 f8 _;obtain⟨_,⟨_,_,a27,a28⟩,_,_,_,a62,_⟩:=W q8 f8;have cr:(q7.h 62).cell ((r:Int)).toNat ((0:Int)+1).toNat=some (.pointer (some ⟨xi,0,none⟩)):=by
   rw[aaa];unfold Hl.cell;rw[hrb];rfl
  rw[a27,a28,XT,XU,a62,cr];refine⟨ah,ah,rfl,fun q9 f9 _ q10 f10 _=>?_⟩;have X10:ai 80 q7 q10:=f8.trans (f9.mono.tr f10);obtain⟨_,⟨_,_,b27,b28⟩,b20,_,_,b62,_⟩:=W q10 X10;obtain⟨ea,eb,em⟩:=eV q10 X10;rw[ea,eb,em,b27,b28,b62,b20];refine⟨⟨_,_,T,st,cv,all,_,TT,most,rfl,rfl,hRR,hS,hI.gd,hU,hTT,h400,hcv⟩,fun q11 f11 ⟨F11,p11,hF11,_⟩=>?_⟩;have hA:=p11 _ _ _ _ _ _ _ _ _ rfl rfl hRR hU;rw[<-hF11 zzT]at hA;have X11:ai 80 q7 q11:=X10.tr f11;obtain⟨⟨_,c30,_⟩,_,c20,_,_,_,c63⟩:=W q11 X11;obtain⟨ea,eb,em⟩:=eV q11 X11;rw[ea,eb,em,c30,c20,c63,show Value.pointer (ar ((z:Nat):Int) 0)=.pointer (some ⟨z,0,none⟩)by rw[al ah];rfl];refine⟨fun U u=>⟨z,U,T,st,cv,all,_,TT,most,rfl,rfl,hI.rf.v.mono (u _ aC),u T aC,cj hU (u T aC),hTT,h400,hcv⟩,fun q12 f12 ⟨F12,⟨U,u,p12⟩,hF12,_⟩=>?_⟩;obtain⟨rows',r1,r2,r3⟩:=p12 z U T st cv all _ TT most rfl rfl (q7.h 63) hI.rf.v (u _ aC) (u T aC) (cj hU (u T aC));rw[<-hF12 zzT]at r1;have X12:ai 80 q7 q12:=X11.tr f12;obtain⟨_,_,d20,_,_,_,d63⟩:=W q12 X12;rw[d20,d63,f12.i 83,f12.i 84,f12.i 85,f12.i 86,f12.h 83];refine⟨fun U u=>⟨_,_,U,gC st cv all TT most,rfl,rfl,?_,?_,hbl⟩,fun q13 f13 ⟨F13,⟨U',u',p13⟩,_⟩=>?_⟩
  .obtain⟨rw1,h1,h2,h3⟩:=hA;exact⟨rw1,cj h1 (u _ aC),h2,fun j r p a b=>(h3 j r p a b).mono (u _ aC) (u _ aC)⟩
  .exact⟨rows',cj r1 (u _ aC),r2,fun j r p a b=>r3 j r p a b U (u T aC) (u _ aC)⟩
  refine⟨fun _=>?_,fun hne=>absurd (Value.bool.inj p13) hne⟩;have X13:ai 80 q7 q13:=X12.tr f13;obtain⟨_,⟨_,_,k27,k28⟩,k20,_,_,k62,_⟩:=W q13 X13;rw[k27,k28,k20,k62];have hnil:aJ T (.slice none 0 0) jF (([]:List (List Int)).map aS):=⟨-1,0,0,rfl,aar 0,Or.inl rfl⟩;refine⟨⟨_,_,T,st,fun _=>0,false,_,[],0,rfl,rfl,hRR,hS,hI.gd,hnil,⟨abn _,fun t h=>(nomatch h)⟩,h400,fun i _=>⟨aar 0,(by show(0:Int)<18446744073709551616;omega)⟩⟩,fun q14 f14 ⟨F14,p14,_,n14⟩=>?_⟩;obtain⟨rw1,⟨x1,y1,c1,h1,_⟩,h2,_⟩:=p14 _ _ _ st (fun _=>0) false _ [] 0 rfl rfl hRR hnil;have n94:0<=q14.i 94:=n14.1.2.2.1;have h2:rw1.length=0:=h2;simp only[Value.slice.injEq]at h1;refine⟨n94,out ?_⟩;rw[ga,au,aq];omega
end Go.Proofs.YtomdimlnggpgbaaGreatDoor
namespace Go.Sx
open Go Go.ChangeShapes Go.WideShapes Go.ChangeAt Go.RowKit Go.Deep
variable {n:Int}{ks:List Kd}{cs xs:List Value}{b dp fuel y:Nat}{e t:TypeId}{v:Value}
def Ut (v:Value):Kd->Prop
 | .int k=>∃ n,v=.int k n/\(Lit.int k n).wf=true
 | .bool=>∃ b,v=.bool b
 | _=>False
def oV:List Value->List Kd->Prop
 | [],[]=>True
 | v::l,k::m=>Ut v k/\oV l m
 | _,_=>False
def pL:∀ {l m:List Value} {a b:List Kd},oV l a->oV m b->oV (l++m) (a++b)
 | [],m,[],b,_,h=>h
 | v::l,m,k::a,b,h,h2=>⟨h.1,pL h.2 h2⟩
 | [],_,_::_,_,h,_=>h.elim
 | _::_,_,[],_,h,_=>h.elim
def EF:∀ {l:List Value} {a:List Kd},oV l a->∀ (j:Nat) (k:Kd),a[j]?=some k->∃ v,l[j]?=some v/\Ut v k
 | _::l,_::a,h,0,k,hk=>by simp at hk;subst hk;exact⟨_,rfl,h.1⟩
 | _::l,_::a,h,j+1,k,hk=>by simpa using EF h.2 j k (by simpa using hk)
 | [],[],_,j,k,hk=>by simp at hk
 | [],_::_,h,_,_,_=>h.elim
 | _::_,[],h,_,_,_=>h.elim
def xe (f:TypeId->Option (List Kd)):List Field->Nat->Option (List Kd)
 | [],_=>some []
 | fl::l,o=>if fl.offset=o then match f fl.type with
  | some a=>match xe f l (o+a.length)with
   | some b=>some (a++b)
   | none=>none
  | none=>none
  else none
def QM (a:List Kd):Nat->List Kd
 | 0=>[]
 | n+1=>a++QM a n
def pz (P:Program):Nat->TypeId->Option (List Kd)
 | 0,_=>none
 | d+1,t=>match P.underlying t with
  | some (.int k)=>some [.int k]
  | some .bool=>some [.bool]
  | some (.array n e)=>match pz P d e with
   | some a=>if a.length=P.cellsOf e/\P.cellsOf t=n*a.length then some (QM a n)else none
   | none=>none
  | some (.struct fs)=>match xe (fun u=>(pz P d u).bind fun a=>if a.length=P.cellsOf u then some a else none) fs.toList 0 with
   | some a=>if a.length=P.cellsOf t then some a else none
   | none=>none
  | _=>none
section
variable {H:Type} {enc:TypeId×Value->H} {P:Program} {w:World} {base:Nat} {spare:Nat->Bool} {held:Bool}
def wI {g:TypeId->Option (List Kd)} {cs:List Value} : ∀ (l:List Field) (o:Nat) (ks:List Kd),xe g l o=some ks ->
 (∀ (fl:Field) (a:List Kd),fl∈l->g fl.type=some a->oV ((cs.drop fl.offset).take a.length) a)->oV ((cs.drop o).take ks.length) ks
 | [],o,ks,h,_=>by cases h;simp [oV]
 | fl::l,o,ks,h,hq=>by
  simp only[xe]at h;split at h
  .rename_i ho;subst ho;split at h
   .rename_i a ha;split at h
    .rename_i b hb;cases h;have h1:=hq fl a aC ha;have h2:=wI l (fl.offset+a.length) b hb fun f c hf hc=>hq f c (aaq _ hf) hc;have e:(cs.drop fl.offset).take (a++b).length=(cs.drop fl.offset).take a.length++(cs.drop (fl.offset+a.length)).take b.length:=by
      rw[aac,acX,aca]
     rw[e];exact pL h1 h2
    .cases h
   .cases h
  .cases h
def Bz {cs:List Value} {a:List Kd} : ∀ (n:Nat) (o:Nat),(∀ i,i<n->oV ((cs.drop (o+i*a.length)).take a.length) a)->oV ((cs.drop o).take (n*a.length)) (QM a n)
 | 0,o,_=>by simp [oV,QM]
 | n+1,o,h=>by
  have h0:=h 0 ah;simp only[acO,aa3]at h0;have ih:=Bz n (o+a.length) fun i hi=>by
   have:=h (i+1) ah;rwa[abS,adt,acL (i*a.length),<-abL]at this
  have e:(cs.drop o).take ((n+1)*a.length)=(cs.drop o).take a.length++(cs.drop (o+a.length)).take (n*a.length):=by
   rw[abS,adt,acL (n*a.length),acX,aca]
  rw[e];exact pL h0 ih
def H9:∀ (d:Nat) (t:TypeId) (ks:List Kd) (fuel:Nat) (cs:List Value) (x:DataW H×List MemPlace),pz P d t=some ks->DataW.trod enc P w base spare held fuel t cs=some x->oV cs ks:=by
 intro d
 induction d with
 | zero=>intro t ks fuel cs x h;cases h
 | succ d ih =>
  intro t ks fuel cs x h hx;simp only[pz]at h;split at h
  .rename_i k hu;cases h;obtain⟨n,rfl,_,hw⟩:=DataW.trod_int hu hx;exact⟨⟨n,rfl,hw⟩,zzT⟩
  .rename_i hu;cases h;obtain⟨b,rfl,_⟩:=DataW.trod_bool hu hx;exact⟨⟨b,rfl⟩,zzT⟩
  .rename_i n e hu;split at h
   .rename_i a ha;split at h
    .rename_i hc;cases h;obtain⟨xs,m,_,_,hl,hxl,hxi⟩:=DataW.trod_array hu hx;have key:=Bz (cs:=cs) (a:=a) n 0 fun i hi=>by
      have h1:=hxi i hi;rw[<-hc.1,aab ah]at h1;rw[aaM];exact ih e a m _ _ ha h1
     rw[ac6,<-hc.2,<-hl,abg]at key;exact key
    .cases h
   .cases h
  .rename_i fs hu;split at h
   .rename_i a ha;split at h
    .rename_i hc;cases h;obtain⟨xs,m,_,_,hl,hxl,hxi⟩:=DataW.trod_struct hu hx;have key:=wI (cs:=cs) fs.toList 0 ks ha fun fl b hfl hb=>by
      obtain⟨i,hi⟩:=aaY hfl;have hi':fs[i]?=some fl:=by simpa using hi
      have h1:=hxi i fl hi';cases hk:pz P d fl.type with
      | none=>simp [hk]at hb
      | some b' =>
       simp only[hk,abY]at hb;split at hb
       .rename_i hlen;cases hb;have hlt:i<xs.length:=by rw[hxl];exact(aaG.1 hi').1
        rw[<-hlen,aab hlt]at h1;exact ih fl.type b m _ _ hk h1
       .cases hb
     rw[ac6,hc,<-hl,abg]at key;exact key
    .cases h
   .cases h
  .cases h
def KX {k:Kd} (h:Ut v k):bw (some v) k=true:=by
 cases k with
 | int k=>obtain⟨n,rfl,_⟩:=h;simp [bw]
 | bool=>obtain⟨b,rfl⟩:=h;rfl
 | _=>exact h.elim
def Bb {x:DataW H×List MemPlace} (ht:P.underlying t=some (.slice e)) (hk:pz P dp e=some ks) (hC:P.cellsOf e=ks.length)
 (h:DataW.trod enc P w base spare held fuel t cs=some x) :
 cs=[.slice none 0 0]\/∃ (a:Addr) (len cap:Nat),cs=[.slice (some a) len cap]/\len<=cap/\cap<=maxLen /\
  ∀ i,i<len->∀ (j:Nat) (k:Kd),ks[j]?=some k->∃ v,w.cell? (a.add (i*ks.length+j))=some v/\Ut v k:=by
 rcases open_slice ht h with h0 | ⟨a,len,cap,m,n,D,Pl,hcs,hb,hl,hm,hmm,hx,hi⟩
 .exact Or.inl h0.1
 .refine Or.inr ⟨a,len,cap,hcs,hl,hm,fun i hil j k hj=>?_⟩;have him:i<m:=by rw[hmm];split<;>omega
  obtain⟨cs',hc,ht'⟩:=hi i him;rw[hC]at hc;obtain⟨_,hcl,hat⟩:=World.cells?_some hc;have hok:=H9 dp e ks n cs' _ hk ht';obtain⟨v,hv,hov⟩:=EF hok j k hj;have hjl:j<ks.length:=(aah.1 hj).1;refine⟨v,?_,hov⟩;rw[<-Go.Deep.add_add,hat j hjl,hv]
end
def sC (h:(Lit.int .u64 n).wf=true):0<=n/\n<18446744073709551616:=by
 simp only[Lit.wf,IntKind.min,IntKind.max,IntKind.signed,IntKind.bits,aaj,aaf]at h;simp at h;omega
def OV (h:(Lit.int .u8 n).wf=true):0<=n/\n<256:=by
 simp only[Lit.wf,IntKind.min,IntKind.max,IntKind.signed,IntKind.bits,aaj,aaf]at h;simp at h;omega
def SX (h:(Lit.int .i64 n).wf=true):-9223372036854775808<=n/\n<9223372036854775808:=by
 simp only[Lit.wf,IntKind.min,IntKind.max,IntKind.signed,IntKind.bits,aaj,aaf]at h;simp at h;omega
def Fa:∀ {row:List Value} {ks:List Kd},oV row ks->bf row ks
 | [],[],_=>trivial
 | _::_,_::_,h=>⟨KX h.1,Fa h.2⟩
 | [],_::_,h=>h.elim
 | _::_,[],h=>h.elim
def vX:∀ {ks:List Kd} {row:List Value},row.length=ks.length->(∀ (j:Nat) (k:Kd),ks[j]?=some k->∃ v,row[j]?=some v/\Ut v k)->oV row ks
 | [],[],_,_=>trivial
 | k::ks,v::row,hl,h=>by
  refine⟨?_,vX (by simpa using hl) fun j k' hj=>?_⟩
  .obtain⟨u,hu,ho⟩:=h 0 k rfl;simp at hu;subst hu;exact ho
  .have:=h (j+1) k' (by simpa using hj);simpa using this
 | [],_::_,hl,_=>by simp at hl
 | _::_,[],hl,_=>by simp at hl
section
variable {H:Type} {enc:TypeId×Value->H} {P:Program} {W:World} {base:Nat} {spare:Nat->Bool} {held:Bool} {d:DataW H} {p:List MemPlace}
def mV (h:W.cell? ⟨b,y,none⟩=some v):(Hl.all W).cell b y=some v:=by
 unfold Hl.cell Hl.all;unfold World.cell? at h;split at h
 .rename_i c T fr hb;rw[hb];simpa using h
 .cases h
def uk {a:Addr} (hv:W.cell? a=some v):a.spot=none:=by
 unfold World.cell? at hv;split at hv
 .split at hv
  .cases hv
  .rename_i h;simpa using h
 .cases hv
def K8 (ht:P.underlying t=some (.slice e)) (hk:pz P dp e=some ks) (hC:P.cellsOf e=ks.length) (hks:0<ks.length) (hv:∃ a l c,v=.slice a l c) (h:DataW.Trod enc P W base spare held t v d p) :
 ∃ rows,aJ (Hl.all W) v ks rows/\∀ row∈rows,oV row ks:=by
 obtain⟨a0,len0,cap0,rfl⟩:=hv;obtain⟨fuel,hf⟩:=h;rcases Bb ht hk hC hf with h | ⟨a,len,cap,hcs,hl,hc,hat⟩
 .simp only[Value.cells,aag,Value.slice.injEq,aau]at h;obtain⟨rfl,rfl,rfl⟩:=h;exact⟨[],⟨-1,0,0,rfl,ah,Or.inl rfl⟩,fun _ h=>nomatch h⟩
 .simp only[Value.cells,aag,Value.slice.injEq,aau]at hcs;obtain⟨rfl,rfl,rfl⟩:=hcs;rcases ace len0 with h0 | h0
  .subst h0;obtain⟨x,y,hx,hy,_⟩:=oC (some a);exact⟨[],⟨x,y,cap0,by rw[hx];rfl,hy,Or.inl rfl⟩,fun _ h=>nomatch h⟩
  .have hsp:a.spot=none:=by
    obtain⟨v,hv,_⟩:=hat 0 h0 0 ks[0] (aab hks);simp only[acO,aa3,Addr.add,abK]at hv;exact uk hv
   obtain⟨bd,off,spot⟩:=a;simp only at hsp;subst hsp
   let row:Nat->List Value:=fun i=>(List.range ks.length).map fun j=>(W.cell? ⟨bd,off+(i*ks.length+j),none⟩).getD (.bool false)
   have aB:∀ i,i<len0->oV (row i) ks/\∀ j u,(row i)[j]?=some u->W.cell? ⟨bd,off+(i*ks.length+j),none⟩=some u:=by
    intro i hi;have hg:∀ (j:Nat) (k:Kd),ks[j]?=some k->∃ v,(row i)[j]?=some v/\W.cell? ⟨bd,off+(i*ks.length+j),none⟩=some v/\Ut v k:=by
     intro j k hj;obtain⟨v,hv,ho⟩:=hat i hi j k hj;rw[dJ]at hv;have hjl:j<ks.length:=(aah.1 hj).1;refine⟨v,?_,hv,ho⟩;simp only[row,aao,aaJ hjl,aaT,hv,abw]
    refine⟨vX (by simp [row]) fun j k hj=>?_,fun j u hu=>?_⟩
    .obtain⟨v,h1,_,h2⟩:=hg j k hj;exact⟨v,h1,h2⟩
    .have hjl:j<ks.length:=by have:=(aah.1 hu).1;simpa [row] using this
     obtain⟨v,h1,h2,_⟩:=hg j ks[j] (aab hjl);rw[hu]at h1;cases h1;exact h2
   refine⟨(List.range len0).map row,⟨bd,off,cap0,?_,ah,Or.inr ⟨ah,fun i r hr=>?_⟩⟩,fun r hr=>?_⟩
   .rw[al ah,aaw,abH];rfl
   .have hi:i<len0:=by have:=(aah.1 hr).1;simpa using this
    rw[aao,aaJ hi,aaT,aak]at hr;subst hr;obtain⟨h1,h2⟩:=aB i hi;refine⟨Fa h1,fun j u hu=>?_⟩;rw[aaa,aaa,abL];exact mV (h2 j u hu)
   .obtain⟨i,hi,rfl⟩:=aaW.1 hr;exact(aB i (aaP.1 hi)).1
end
def ON {P:Program} {s:Spec} (h:s.OK P) (ho:s.own=[]) {W:World} (hpre:s.pre xs [] (List.replicate s.rd.length (Hl.all W)))
 (hpost:∀ J F,s.post xs [] (List.replicate s.rd.length (Hl.all W)) ((j7 0 s.res).ev J) [] F->(j7 0 s.res).ev J=.bool true) :
 Calls P s.fn xs.toArray W fun e w'=>e=.returned (.bool true)/\Below W.heap.size W w':=by
 have:=h W xs [] (List.replicate s.rd.length (Hl.all W)) (by rw[ho];rfl) aC (fun _ h=>nomatch h) (fun R hR=>by rw[(acg.1 hR).2];exact Hl.Pg W) (fun p _ H _ _ h=>by simp at h) (fun _ h=>nomatch h) hpre;refine this.mono ?_;rintro e w' ⟨J,Hs',F,rfl,_,ht,hp⟩;have e0:Hs'=[]:=aad.1 ht.len;subst e0;exact⟨by rw[hpost J F hp],⟨ht.os,ht.tape,ht.output,ht.size,fun b hb=>ht.block b hb (fun _ h=>nomatch h)⟩⟩
section
variable {H:Type} {enc:TypeId×Value->H} {P:Program} {W:World} {base:Nat} {spare:Nat->Bool} {held:Bool} {d:DataW H} {p:List MemPlace}
def DB (ht:P.underlying t=some (.slice e)) (hk:pz P dp e=some [.int .u8]) (hC:P.cellsOf e=1) (hv:∃ a l c,v=.slice a l c) (h:DataW.Trod enc P W base spare held t v d p) :
 ∃ bs,fC (Hl.all W) v bs/\∀ b∈bs,0<=b/\b<256:=by
 obtain⟨a0,len0,cap0,rfl⟩:=hv;obtain⟨fuel,hf⟩:=h;rcases Bb ht hk hC hf with h | ⟨a,len,cap,hcs,hl,hc,hat⟩
 .simp only[Value.cells,aag,Value.slice.injEq,aau]at h;obtain⟨rfl,rfl,rfl⟩:=h;exact⟨[],⟨-1,0,0,rfl,ah,Or.inl rfl⟩,fun _ h=>nomatch h⟩
 .simp only[Value.cells,aag,Value.slice.injEq,aau]at hcs;obtain⟨rfl,rfl,rfl⟩:=hcs;rcases ace len0 with h0 | h0
  .subst h0;obtain⟨x,y,hx,hy,_⟩:=oC (some a);exact⟨[],⟨x,y,cap0,by rw[hx];rfl,hy,Or.inl rfl⟩,fun _ h=>nomatch h⟩
  .have hcell:∀ i,i<len0->∃ n,W.cell? (a.add i)=some (.int .u8 n)/\0<=n/\n<256:=by
    intro i hi;obtain⟨v,hv,ho⟩:=hat i hi 0 _ rfl;obtain⟨n,rfl,hw⟩:=ho;refine⟨n,?_,OV hw⟩;rw[show i=i*([Kd.int .u8]:List Kd).length+0 by simp];exact hv
   have hsp:a.spot=none:=by
    obtain⟨n,hn,_⟩:=hcell 0 h0;simp only[Addr.add,abK,aa3]at hn;exact uk hn
   obtain⟨bd,off,spot⟩:=a;simp only at hsp;subst hsp;have hget:∀ j z,((List.range len0).map fun i=>bV (W.cell? ⟨bd,off+i,none⟩))[j]?=some z->W.cell? ⟨bd,off+j,none⟩=some (.int .u8 z)/\0<=z/\z<256:=by
    intro j z hz;have hj:j<len0:=by have:=(aah.1 hz).1;simpa using this
    rw[aao,aaJ hj]at hz;simp only[aaT,aak]at hz;obtain⟨n,hn,hr⟩:=hcell j hj;rw[dJ]at hn;rw[hn]at hz;have hz:n=z:=hz;subst hz;exact⟨hn,hr⟩
   refine⟨(List.range len0).map fun i=>bV (W.cell? ⟨bd,off+i,none⟩),⟨bd,off,cap0,?_,ah,Or.inr ⟨ah,fun j z hz=>?_⟩⟩,fun b hb=>?_⟩
   .rw[al ah,aaw,abH];rfl
   .simp only[aaa];exact mV (hget j z hz).1
   .obtain⟨j,hj⟩:=acM.1 hb;exact(hget j b hj).2
end
section
variable {H:Type} {enc:TypeId×Value->H} {P:Program} {W:World} {base:Nat} {spare:Nat->Bool} {held:Bool} {d:DataW H} {p:List MemPlace}
end
end Go.Sx
namespace Go.Ex
open Go Go.ChangeShapes Go.WideShapes Go.ChangeAt Go.RowKit Go.Deep
inductive Kt | int (k:IntKind) | bool | other (t:TypeId)
def ZC (Φ:Value->TypeId->Prop) (v:Value):Kt->Prop
 | .int k=>∃ n,v=.int k n/\(Lit.int k n).wf=true
 | .bool=>∃ b,v=.bool b
 | .other t=>Φ v t
variable {Φ:Value->TypeId->Prop}
def RX (Φ:Value->TypeId->Prop):Prop:=∀ v t,Φ v t->∃ a len cap,v=.slice a len cap
def j9 (Φ:Value->TypeId->Prop):List Value->List Kt->Prop
 | [],[]=>True
 | v::l,k::m=>ZC Φ v k/\j9 Φ l m
 | _,_=>False
def pM:∀ {l m:List Value} {a b:List Kt},j9 Φ l a->j9 Φ m b->j9 Φ (l++m) (a++b)
 | [],m,[],b,_,h=>h
 | v::l,m,k::a,b,h,h2=>⟨h.1,pM h.2 h2⟩
 | [],_,_::_,_,h,_=>h.elim
 | _::_,_,[],_,h,_=>h.elim
def vY:∀ {l:List Value} {a:List Kt},j9 Φ l a->l.length=a.length
 | [],[],_=>rfl
 | _::l,_::a,h=>by simp [vY h.2]
 | [],_::_,h=>h.elim
 | _::_,[],h=>h.elim
def zc:∀ {l:List Value} {a:List Kt},j9 Φ l a->∀ (j:Nat) (k:Kt),a[j]?=some k->∃ v,l[j]?=some v/\ZC Φ v k
 | _::l,_::a,h,0,k,hk=>by simp at hk;subst hk;exact⟨_,rfl,h.1⟩
 | _::l,_::a,h,j+1,k,hk=>by simpa using zc h.2 j k (by simpa using hk)
 | [],[],_,j,k,hk=>by simp at hk
 | [],_::_,h,_,_,_=>h.elim
 | _::_,[],h,_,_,_=>h.elim
def sZ (f:TypeId->Option (List Kt)):List Field->Nat->Option (List Kt)
 | [],_=>some []
 | fl::l,o=>if fl.offset=o then match f fl.type with
  | some a=>match sZ f l (o+a.length)with
   | some b=>some (a++b)
   | none=>none
  | none=>none
  else none
def Ju (a:List Kt):Nat->List Kt
 | 0=>[]
 | n+1=>a++Ju a n
def mg (P:Program):Nat->TypeId->Option (List Kt)
 | 0,_=>none
 | d+1,t=>match P.underlying t with
  | some (.int k)=>some [.int k]
  | some .bool=>some [.bool]
  | some (.slice _)=>some [.other t]
  | some (.array n e)=>match mg P d e with
   | some a=>if a.length=P.cellsOf e/\P.cellsOf t=n*a.length then some (Ju a n)else none
   | none=>none
  | some (.struct fs)=>match sZ (fun u=>(mg P d u).bind fun a=>if a.length=P.cellsOf u then some a else none) fs.toList 0 with
   | some a=>if a.length=P.cellsOf t then some a else none
   | none=>none
  | _=>none
section
variable {H:Type} {enc:TypeId×Value->H} {P:Program} {w:World} {base:Nat} {spare:Nat->Bool} {held:Bool}
def tV {g:TypeId->Option (List Kt)} {cs:List Value} : ∀ (l:List Field) (o:Nat) (ks:List Kt),sZ g l o=some ks ->
 (∀ (fl:Field) (a:List Kt),fl∈l->g fl.type=some a->j9 Φ ((cs.drop fl.offset).take a.length) a)->j9 Φ ((cs.drop o).take ks.length) ks
 | [],o,ks,h,_=>by cases h;simp [j9]
 | fl::l,o,ks,h,hq=>by
  simp only[sZ]at h;split at h
  .rename_i ho;subst ho;split at h
   .rename_i a ha;split at h
    .rename_i b hb;cases h;have h1:=hq fl a Sx.aC ha;have h2:=tV l (fl.offset+a.length) b hb fun f c hf hc=>hq f c (aaq _ hf) hc;have e:(cs.drop fl.offset).take (a++b).length=(cs.drop fl.offset).take a.length++(cs.drop (fl.offset+a.length)).take b.length:=by
      rw[aac,acX,aca]
     rw[e];exact pM h1 h2
    .cases h
   .cases h
  .cases h
def zS {cs:List Value} {a:List Kt} : ∀ (n:Nat) (o:Nat),(∀ i,i<n->j9 Φ ((cs.drop (o+i*a.length)).take a.length) a)->j9 Φ ((cs.drop o).take (n*a.length)) (Ju a n)
 | 0,o,_=>by simp [j9,Ju]
 | n+1,o,h=>by
  have h0:=h 0 Sx.ah;simp only[acO,aa3]at h0;have ih:=zS n (o+a.length) fun i hi=>by
   have:=h (i+1) Sx.ah;rwa[abS,adt,acL (i*a.length),<-abL]at this
  have e:(cs.drop o).take ((n+1)*a.length)=(cs.drop o).take a.length++(cs.drop (o+a.length)).take (n*a.length):=by
   rw[abS,adt,acL (n*a.length),acX,aca]
  rw[e];exact pM h0 ih
abbrev qi (enc:TypeId×Value->H) (P:Program) (w:World) (base:Nat) (spare:Nat->Bool) (held:Bool) (v:Value) (t:TypeId):Prop:=(∃ e,P.underlying t=some (.slice e))/\∃ m x,DataW.trod enc P w base spare held m t [v]=some x
def nI:RX (qi enc P w base spare held):=by
 rintro v t ⟨⟨e,hu⟩,m,x,hx⟩;rcases open_slice hu hx with h0 | ⟨a,len,cap,m,n,D,Pl,hcs,_⟩
 .have h1:=h0.1;simp only[aag,aau]at h1;exact⟨none,0,0,h1⟩
 .simp only[aag,aau]at hcs;exact⟨some a,len,cap,hcs⟩
def wJ:∀ (d:Nat) (t:TypeId) (ks:List Kt) (fuel:Nat) (cs:List Value) (x:DataW H×List MemPlace),mg P d t=some ks->DataW.trod enc P w base spare held fuel t cs=some x->j9 (qi enc P w base spare held) cs ks:=by
 intro d
 induction d with
 | zero=>intro t ks fuel cs x h;cases h
 | succ d ih =>
  intro t ks fuel cs x h hx;simp only[mg]at h;split at h
  .rename_i k hu;cases h;obtain⟨n,rfl,_,hw⟩:=DataW.trod_int hu hx;exact⟨⟨n,rfl,hw⟩,trivial⟩
  .rename_i hu;cases h;obtain⟨b,rfl,_⟩:=DataW.trod_bool hu hx;exact⟨⟨b,rfl⟩,trivial⟩
  .rename_i e hu;cases h;rcases open_slice hu hx with h0 | ⟨a,len,cap,m,n,D,Pl,hcs,_⟩
   .have h1:=h0.1;subst h1;exact⟨⟨⟨_,hu⟩,fuel,x,hx⟩,trivial⟩
   .subst hcs;exact⟨⟨⟨_,hu⟩,fuel,x,hx⟩,trivial⟩
  .rename_i n e hu;split at h
   .rename_i a ha;split at h
    .rename_i hc;cases h;obtain⟨xs,m,_,_,hl,hxl,hxi⟩:=DataW.trod_array hu hx;have key:=zS (cs:=cs) (a:=a) n 0 fun i hi=>by
      have h1:=hxi i hi;rw[<-hc.1,aab Sx.ah]at h1;rw[aaM];exact ih e a m _ _ ha h1
     rw[ac6,<-hc.2,<-hl,abg]at key;exact key
    .cases h
   .cases h
  .rename_i fs hu;split at h
   .rename_i a ha;split at h
    .rename_i hc;cases h;obtain⟨xs,m,_,_,hl,hxl,hxi⟩:=DataW.trod_struct hu hx;have key:=tV (cs:=cs) fs.toList 0 ks ha fun fl b hfl hb=>by
      obtain⟨i,hi⟩:=aaY hfl;have hi':fs[i]?=some fl:=by simpa using hi
      have h1:=hxi i fl hi';cases hk:mg P d fl.type with
      | none=>simp [hk]at hb
      | some b' =>
       simp only[hk,abY]at hb;split at hb
       .rename_i hlen;cases hb;have hlt:i<xs.length:=by rw[hxl];exact(aaG.1 hi').1
        rw[<-hlen,aab hlt]at h1;exact ih fl.type b m _ _ hk h1
       .cases hb
     rw[ac6,hc,<-hl,abg]at key;exact key
    .cases h
   .cases h
  .cases h
end
end Go.Ex
namespace Go.Sx
open Go Go.ChangeShapes Go.WideShapes Go.ChangeAt Go.RowKit Go.Deep
def Kz:Ex.Kt->Kd
 | .int k=>.int k
 | .bool=>.bool
 | .other _=>.slice
def tM {Φ:Value->TypeId->Prop} (hΦ:Ex.RX Φ):∀ {row:List Value} {ks:List Ex.Kt},Ex.j9 Φ row ks->bf row (ks.map Kz)
 | [],[],_=>trivial
 | v::row,k::ks,h=>by
  refine⟨?_,tM hΦ h.2⟩;have h1:=h.1;cases k with
  | int k=>obtain⟨n,rfl,_⟩:=h1;simp [bw,Kz]
  | bool=>obtain⟨b,rfl⟩:=h1;rfl
  | other t=>obtain⟨a,l,c,rfl⟩:=hΦ v t h1;rfl
 | [],_::_,h=>h.elim
 | _::_,[],h=>h.elim
section
variable {H:Type} {enc:TypeId×Value->H} {P:Program} {W:World} {base:Nat} {spare:Nat->Bool} {held:Bool} {d:DataW H} {p:List MemPlace}
def QH {t e:TypeId} {ks:List Ex.Kt} {dp:Nat} (ht:P.underlying t=some (.slice e)) (hk:Ex.mg P dp e=some ks) (hC:P.cellsOf e=ks.length) (hks:0<ks.length) {v:Value} (hv:∃ a l c,v=.slice a l c) (h:DataW.Trod enc P W base spare held t v d p) :
 ∃ rows,aJ (Hl.all W) v (ks.map Kz) rows/\∀ row∈rows,Ex.j9 (Ex.qi enc P W base spare held) row ks:=by
 obtain⟨a0,len0,cap0,rfl⟩:=hv;obtain⟨fuel,hf⟩:=h;rcases open_slice ht hf with h | ⟨a,len,cap,m,n,D,Pl,hcs,hb,hl,hm,hmm,hx,hi⟩
 .have h:=h.1;simp only[Value.cells,aag,Value.slice.injEq,aau]at h;obtain⟨rfl,rfl,rfl⟩:=h;exact⟨[],⟨-1,0,0,rfl,Sx.ah,Or.inl rfl⟩,fun _ h=>nomatch h⟩
 .simp only[Value.cells,aag,Value.slice.injEq,aau]at hcs;obtain⟨rfl,rfl,rfl⟩:=hcs;have hlm:len0<=m:=by rw[hmm];split<;>omega
  have each:∀ i,i<len0->∃ row,row.length=ks.length/\Ex.j9 (Ex.qi enc P W base spare held) row ks/\∀ j,j<ks.length->W.cell? ((a.add (i*ks.length)).add j)=row[j]?:=by
   intro i hil;obtain⟨cs',hc,ht'⟩:=hi i Sx.ah;rw[hC]at hc;obtain⟨_,hcl,hat⟩:=World.cells?_some hc;exact⟨cs',hcl,Ex.wJ dp e ks n cs' _ hk ht',fun j hj=>hat j hj⟩
  rcases ace len0 with h0 | h0
  .subst h0;obtain⟨x,y,hx,hy,_⟩:=oC (some a);exact⟨[],⟨x,y,cap0,by rw[hx];rfl,hy,Or.inl rfl⟩,fun _ h=>nomatch h⟩
  .have hsp:a.spot=none:=by
    obtain⟨row,hl',_,hc⟩:=each 0 h0;have:=hc 0 hks;simp only[acO,Addr.add,abK]at this;rw[aab Sx.ah]at this;exact uk this
   obtain⟨bd,off,spot⟩:=a;simp only at hsp;subst hsp
   classical
   let row:Nat->List Value:=fun i=>if h:i<len0 then(each i h).choose else []
   have aB:∀ i,i<len0->(row i).length=ks.length/\Ex.j9 (Ex.qi enc P W base spare held) (row i) ks/\∀ j,j<ks.length->W.cell? ⟨bd,off+i*ks.length+j,none⟩=(row i)[j]?:=by
    intro i hil;have:=(each i hil).choose_spec;simp only[row,dif_pos hil];refine⟨this.1,this.2.1,fun j hj=>?_⟩;rw[<-this.2.2 j hj,dJ,dJ]
   refine⟨(List.range len0).map row,⟨bd,off,cap0,?_,Sx.ah,Or.inr ⟨Sx.ah,fun i r hr=>?_⟩⟩,fun r hr=>?_⟩
   .rw[al Sx.ah,aaw,abH];rfl
   .have hil:i<len0:=by have:=(aah.1 hr).1;simpa using this
    rw[aao,aaJ hil,aaT,aak]at hr;subst hr;obtain⟨h1,h2,h3⟩:=aB i hil;refine⟨tM Ex.nI h2,fun j u hu=>?_⟩;rw[aaa,aaa,aaw];have hj:j<ks.length:=by rw[<-h1];exact(aah.1 hu).1
    exact mV (by rw[h3 j hj];exact hu)
   .obtain⟨i,hil,rfl⟩:=aaW.1 hr;exact(aB i (aaP.1 hil)).2.1
end
end Go.Sx
namespace Go.Proofs.YtomdimlnggpgbaaGreatDoor.opP
open Go Go.Sx Go.ChangeShapes Go.WideShapes Go.ChangeAt Go.RowKit Go.Deep
variable {row:List Value}{v:Value}
section
variable {H:Type} {enc:TypeId×Value->H} {W:World} {base b0:Nat} {spare:Nat->Bool} {held:Bool} {r:Reach}
def kh:List Ex.Kt:=[.int .i64,.int .u64]++List.replicate 32 (.int .u8)++[.int .i64,.bool,.int .u64]++List.replicate 16 (.int .u8)++[.other 62]++List.replicate 6 (.int .u64)++List.replicate 32 (.int .u8)++[.int .i64]++List.replicate 32 (.int .u8)
def kp:List Ex.Kt:=kh++[.other 46]
def Vv:Ex.mg Tryz.prog 6 67=some kp:=by kernel_rfl
def RO:∀ {n:Nat} {row:List Value},oV row (List.replicate n (Kd.int .u8))->∃ t:List Int,row=aS t/\t.length=n/\∀ b∈t,0<=b/\b<256
 | 0,[],_=>⟨[],rfl,rfl,fun _ h=>nomatch h⟩
 | n+1,v::row,h=>by
  obtain⟨t,e,hl,hb⟩:=RO (n:=n) h.2;obtain⟨z,rfl,hw⟩:=h.1;refine⟨z::t,by rw[e];rfl,by rw[aaL,hl],fun b hbm=>?_⟩;rcases aan.1 hbm with rfl | hbm
  .exact OV hw
  .exact hb b hbm
def JM:∀ {rows:List (List Value)},(∀ row∈rows,oV row jF)->∃ T:List (List Int),rows=T.map aS/\∀ t∈T,t.length=16/\∀ b∈t,0<=b/\b<256
 | [],_=>⟨[],rfl,fun _ h=>nomatch h⟩
 | row::rows,h=>by
  obtain⟨T,e,hT⟩:=JM (rows:=rows) fun r hr=>h r (aaq _ hr);obtain⟨t,e2,hl,hb⟩:=RO (n:=16) (h row (aaI ..));refine⟨t::T,by rw[e,e2];rfl,fun x hx=>?_⟩;rcases aan.1 hx with rfl | hx
  .exact⟨hl,hb⟩
  .exact hT x hx
def By (ho:Ex.qi enc Tryz.prog W base spare held v 62):∃ (T:List (List Int)) (a:Option Addr) (c:Nat),v=.slice a T.length c/\aJ (Hl.all W) v jF (T.map aS)/\∀ t∈T,t.length=16/\aG t:=by
 obtain⟨a,l,c,rfl⟩:=Ex.nI v _ ho;obtain⟨_,m,x,hx⟩:=ho;obtain⟨rows,hR,hrows⟩:=K8 Tryz.underlying62 (ks:=jF) (dp:=3) (by kernel_rfl) (by kernel_rfl) aA ⟨a,l,c,rfl⟩ (d:=x.1) (p:=x.2) ⟨m,hx⟩;obtain⟨T,e,hT⟩:=JM hrows;subst e;have hl:l=(T.map aS).length:=by
  obtain⟨ax,ay,ac,ae,_⟩:=id hR;simp only[Value.slice.injEq]at ae;exact ae.2.1
 rw[aaw]at hl;subst hl;exact⟨T,a,c,rfl,hR,hT⟩
def Pv (ho:Ex.qi enc Tryz.prog W base spare held v 46):∃ (b:List Int) (a:Option Addr) (c:Nat),v=.slice a b.length c/\fC (Hl.all W) v b/\aG b:=by
 obtain⟨a,l,c,rfl⟩:=Ex.nI v _ ho;obtain⟨_,m,x,hx⟩:=ho;obtain⟨b,hR,hb⟩:=DB Tryz.underlying46 (dp:=1) (by kernel_rfl) (by kernel_rfl) ⟨a,l,c,rfl⟩ (d:=x.1) (p:=x.2) ⟨m,hx⟩;have hl:l=b.length:=by
  obtain⟨ax,ay,ac,ae,_⟩:=id hR;simp only[Value.slice.injEq]at ae;exact ae.2.1
 subst hl;exact⟨b,a,c,rfl,hR,hb⟩
def Oj {Φ:Value->TypeId->Prop} (hΦ:Ex.RX Φ):∀ {row:List Value} {ks:List Ex.Kt},Ex.j9 Φ row ks->∀ v∈row,Lc v
 | [],[],_,_,h=>nomatch h
 | x::row,k::ks,h,v,hv=>by
  rcases aan.1 hv with rfl | hv
  .have h1:=h.1;cases k with
   | int k =>
    obtain⟨n,rfl,hw⟩:=h1;cases k with
    | u8=>exact OV hw
    | u64=>exact sC hw
    | i64=>exact SX hw
    | _=>trivial
   | bool=>obtain⟨b,rfl⟩:=h1;trivial
   | other t=>obtain⟨a,l,c,rfl⟩:=hΦ _ t h1;trivial
  .exact Oj hΦ h.2 v hv
 | [],_::_,h,_,_=>h.elim
 | _::_,[],h,_,_=>h.elim
def AY {Φ:Value->TypeId->Prop} : ∀ {n:Nat} {l:List Value} {ks:List Ex.Kt},Ex.j9 Φ l ks->Ex.j9 Φ (l.take n) (ks.take n)
 | 0,_,_,_=>trivial
 | _+1,[],[],_=>trivial
 | n+1,_::_,_::_,h=>⟨h.1,AY (n:=n) h.2⟩
 | _+1,[],_::_,h=>h.elim
 | _+1,_::_,[],h=>h.elim
def OL {k n c:Nat} {a:Option Addr} (h:row[k]?=some (.slice a n c)):Di row k=n:=by unfold Di;rw[h]
def Vl (ho:Ex.j9 (Ex.qi enc Tryz.prog W base spare held) row kh) (h20:Di row 53<=20):∃ h,bS (Hl.all W) row h/\h.t.length<=20:=by
 have hok:bf row de:=by
  have:=tM Ex.nI ho;rwa[show kh.map Kz=de by kernel_rfl]at this
 obtain⟨v,hv,ho53⟩:=Ex.zc ho 53 (.other 62) rfl;obtain⟨T,a,c,rfl,hR,hT⟩:=By ho53;rw[OL hv]at h20;refine⟨⟨row.set 53 Ct,T⟩,⟨hok,Oj Ex.nI ho,rfl,?_,by show T.length<=_;omega,hT⟩,h20⟩;rw[aap,hv];exact hR
def VS (ho:Ex.j9 (Ex.qi enc Tryz.prog W base spare held) row kp) (h20:Di row 53<=20) (h21:Di row 125<=2100):∃ c,dz (Hl.all W) (Hl.all W) row c/\c.h.t.length<=20/\c.b.length<=2100:=by
 have hok:bf row mP:=by
  have:=tM Ex.nI ho;rwa[show kp.map Kz=mP by kernel_rfl]at this
 have h1:Ex.j9 (Ex.qi enc Tryz.prog W base spare held) (row.take 125) kh:=by
  have:=AY (n:=125) ho;rwa[show kp.take 125=kh by kernel_rfl]at this
 have e53:Di (row.take 125) 53=Di row 53:=by unfold Di;rw[abc ah]
 obtain⟨h,hx,hh⟩:=Vl h1 (by rw[e53];exact h20);obtain⟨v,hv,ho125⟩:=Ex.zc ho 125 (.other 46) rfl;obtain⟨b,a,c,rfl,hR,hb⟩:=Pv ho125;rw[OL hv]at h21;refine⟨⟨h,b⟩,⟨hok,hx,?_,hb,by show b.length<=_;omega⟩,hh,h21⟩;rw[aap,hv];exact hR
end
end Go.Proofs.YtomdimlnggpgbaaGreatDoor.opP
namespace Go.Proofs.YtomdimlnggpgbaaGreatDoor
open Go Go.Sx Go.Pk Go.RowKit
variable {g j:Nat}{W:World}
def Rr:List (String×DataW Unit):=[("jalousie/store.errLost",Rows.laid_jalousie_store_errLost),("jalousie/store.errFull",Rows.laid_jalousie_store_errFull),("jalousie/store.errSpent",Rows.laid_jalousie_store_errSpent)]
def ZZ:Tryz.prog.globalNamed "jalousie/store.errLost"= some 0:=by kernel_rfl
def Z0:Tryz.prog.globalNamed "jalousie/store.errFull"= some 1:=by kernel_rfl
def Z1:Tryz.prog.globalNamed "jalousie/store.errSpent"= some 2:=by kernel_rfl
def Z6:(Tryz.prog.globals[0]?).map (·.type)=some 107:=by kernel_rfl
def Z7:(Tryz.prog.globals[1]?).map (·.type)=some 107:=by kernel_rfl
def Z8:(Tryz.prog.globals[2]?).map (·.type)=some 107:=by kernel_rfl
def Gz:Tryz.prog.cellsOf 319=1:=by kernel_rfl
def Ce:Tryz.prog.cellsOf 9=1:=by kernel_rfl
def Rj : "*"++ "errors.errorString"= "*errors.errorString":=by decide
def SN (u:TypeId) (h:Tryz.prog.typeName? 3 u=some "*errors.errorString"):u=299 :=
 typeName_ptr_named (nm:= "errors.errorString") (by rw[Rj];kernel_rfl) zzK aA u (by rw[Rj];exact h)
set_option maxRecDepth 100000 in
def GA (h:laidMetH Tryz.prog Rr W):∃ a,Gl (Hl.all W) a:=by
 rw[MakeChecks.laidMetH_plain _ _ _ zzK]at h;obtain⟨ps,⟨g0,t0,cs0,f0,p0,q0,MX,ht0,hv0,hd0,⟨g1,t1,cs1,f1,p1,q1,GD,ht1,hv1,hd1,⟨g2,t2,cs2,f2,p2,q2,yu,ht2,hv2,hd2,_,e2⟩,e1⟩,e0⟩,hnd,hrows⟩:=h;obtain rfl:=aa1 (ZZ.symm.trans MX);obtain rfl:=aa1 (Z0.symm.trans GD);obtain rfl:=aa1 (Z1.symm.trans yu);obtain rfl:=aa1 (Z6.symm.trans ht0);obtain rfl:=aa1 (Z7.symm.trans ht1);obtain rfl:=aa1 (Z8.symm.trans ht2);subst e2;subst e1;subst e0;obtain⟨l0⟩:=cs0;obtain⟨l1⟩:=cs1;obtain⟨l2⟩:=cs2;have ok0:∀ u v,l0=[.iface u v]->Value.okWide Tryz.prog W .any 0 u v:=fun u v e=>by
  subst e;exact(hrows 0 0 (by simp [MemPlace.row])).2 u v (by simpa using World.var?_cell MX hv0 0)
 have ok1:∀ u v,l1=[.iface u v]->Value.okWide Tryz.prog W .any 0 u v:=fun u v e=>by
  subst e;exact(hrows 1 0 (by simp [MemPlace.row])).2 u v (by simpa using World.var?_cell GD hv1 0)
 have ok2:∀ u v,l2=[.iface u v]->Value.okWide Tryz.prog W .any 0 u v:=fun u v e=>by
  subst e;exact(hrows 2 0 (by simp [MemPlace.row])).2 u v (by simpa using World.var?_cell yu hv2 0)
 obtain⟨a0,s0,rfl,hc0,hs0,hz0,rfl⟩:=errorString_of_trod Tryz.underlying107 SN Tryz.underlying299 Tryz.underlying319 rfl rfl Tryz.underlying9 Gz Ce hd0 ok0;obtain⟨a1,s1,rfl,hc1,hs1,hz1,rfl⟩:=errorString_of_trod Tryz.underlying107 SN Tryz.underlying299 Tryz.underlying319 rfl rfl Tryz.underlying9 Gz Ce hd1 ok1;obtain⟨a2,s2,rfl,hc2,hs2,hz2,rfl⟩:=errorString_of_trod Tryz.underlying107 SN Tryz.underlying299 Tryz.underlying319 rfl rfl Tryz.underlying9 Gz Ce hd2 ok2;obtain⟨b0,y0,hb0⟩:=(hrows a0.block a0.off (by simp [MemPlace.row])).1;obtain⟨b1,y1,hb1⟩:=(hrows a1.block a1.off (by simp [MemPlace.row])).1;obtain⟨b2,y2,hb2⟩:=(hrows a2.block a2.off (by simp [MemPlace.row])).1;have n01:a0≠a1:=by rintro rfl;simp [MemPlace.row]at hnd
 have n02:a0≠a2:=by rintro rfl;simp [MemPlace.row]at hnd
 have n12:a1≠a2:=by rintro rfl;simp [MemPlace.row]at hnd
 have cell:∀ {g:Nat} {v:Value},W.cell? ⟨g,0,none⟩=some v->(Hl.all W).cell g 0=some v:=by
  intro g v h;unfold World.cell? at h;unfold Hl.cell Hl.all;cases hh:W.heap[g]? with
  | none=>simp [hh]at h
  | some o=>cases o<;>simp_all
 have c0:=cell (World.var?_cell MX hv0 0);have c1:=cell (World.var?_cell GD hv1 0);have c2:=cell (World.var?_cell yu hv2 0);refine⟨fun g=>if g=oM then a0 else if g=nh then a1 else a2,fun g hg=>?_,fun g hg=>?_,fun g h hg hh hne=>?_⟩
 .rcases hg with rfl | rfl | rfl
  .exact c0
  .exact c1
  .exact c2
 .rcases hg with rfl | rfl | rfl
  .exact⟨b0,y0,hb0⟩
  .exact⟨b1,y1,hb1⟩
  .exact⟨b2,y2,hb2⟩
 .rcases hg with rfl | rfl | rfl<;>rcases hh with rfl | rfl | rfl
  .exact absurd rfl hne
  .exact n01
  .exact n02
  .exact fun e=>n01 e.symm
  .exact absurd rfl hne
  .exact n12
  .exact fun e=>n02 e.symm
  .exact fun e=>n12 e.symm
  .exact absurd rfl hne
def oO:List (String×DataW Unit):=[("jalousie/jalousieref01.words",Rows.laid_jalousie_jalousieref01_words),("errors.errorType",Rows.laid_errors_errorType),("jalousie/hash.rounds",Rows.laid_jalousie_hash_rounds),("jalousie/store.errLost",Rows.laid_jalousie_store_errLost),("jalousie/store.errFull",Rows.laid_jalousie_store_errFull),("jalousie/store.errSpent",Rows.laid_jalousie_store_errSpent)]
def mV {v:Value} (h:W.cell? ⟨g,j,none⟩=some v):(Hl.all W).cell g j=some v:=by
 unfold World.cell? at h;unfold Hl.cell Hl.all;cases hh:W.heap[g]? with
 | none=>simp [hh]at h
 | some o=>cases o<;>simp_all
def gl6 (h:laidMetH Tryz.prog oO W):∃ a,Gl (Hl.all W) a:=by
 have h3:=h.filter fun x=>x.1== "jalousie/store.errLost"|| x.1== "jalousie/store.errFull"|| x.1== "jalousie/store.errSpent"
 have e:(oO.filter fun x=>x.1== "jalousie/store.errLost"|| x.1== "jalousie/store.errFull"|| x.1== "jalousie/store.errSpent")=Rr:=by kernel_rfl
 rw[e]at h3;exact GA h3
def Nh {n:String} (hn:Tryz.prog.globalNamed n=some g) (hgt:(Tryz.prog.globals[g]?).map (·.type)=some 172) (h:laidMet Tryz.prog [(n,.agg (CT.map fun z=>.lit (.int .u32 z)))] W):uf (Hl.all W) g:=by
 obtain⟨ps,⟨g',t',cs,fuel,p,q,hg,ht,hv,hd,_,_⟩,_,_⟩:=h;obtain rfl:=aa1 (hn.symm.trans hg);obtain rfl:=aa1 (hgt.symm.trans ht);obtain⟨xs,m,_,ex,_,hl,hel⟩:=DataW.trod_array Tryz.underlying172 hd;have c5:Tryz.prog.cellsOf 170=1:=by kernel_rfl
 have hlen:CT.length=64:=by kernel_rfl
 intro r hr;have hE:=hel r hr;rw[c5,acj,aab ah]at hE;obtain⟨z,e1,e2,_⟩:=DataW.trod_int Tryz.underlying170 hE;have e3:(xs.map (·.1))=CT.map fun n=>.lit (.int .u32 n):=(DataW.agg.inj (Prod.mk.inj ex).1).symm;have e4:(xs.map (·.1))[r]?=(CT.map fun n=>(DataW.lit (.int .u32 n):DataW Unit))[r]?:=by rw[e3]
 rw[aao,aao,aab (by omega:r<xs.length),aab (by omega:r<CT.length),e2]at e4;have hz:z=CT.getD r 0:=by
  simp only[aaT,aak,DataW.lit.injEq,Lit.int.injEq,aaZ]at e4;rw[e4,List.getD,aab (by omega:r<CT.length)];rfl
 refine mV ?_;rw[World.var?_cell hg hv r,<-hz];have:cs.toList[r]?=some (.int .u32 z):=by
  have h0:((cs.toList.drop r).take 1)[0]?=some (.int .u32 z):=by rw[e1];rfl
  simpa using h0
 simpa using this
def Z4:Tryz.prog.globalNamed "jalousie/jalousieref01.words"= some 3:=by kernel_rfl
def Z3:Tryz.prog.globalNamed "jalousie/hash.rounds"= some 5:=by kernel_rfl
def gTw:(Tryz.prog.globals[3]?).map (·.type)=some 172:=by kernel_rfl
def Z9:(Tryz.prog.globals[5]?).map (·.type)=some 172:=by kernel_rfl
def Yf (h:laidMetH Tryz.prog oO W):uf (Hl.all W) 3:=by
 have h3:=h.filter fun x=>x.1== "jalousie/jalousieref01.words";have e:(oO.filter fun x=>x.1== "jalousie/jalousieref01.words")=[("jalousie/jalousieref01.words",.agg (CT.map fun z=>.lit (.int .u32 z)))]:=by kernel_rfl
 rw[e,MakeChecks.laidMetH_plain _ _ _ zzK]at h3;exact Nh Z4 gTw h3
def Ye (h:laidMetH Tryz.prog oO W):uf (Hl.all W) 5:=by
 have h3:=h.filter fun x=>x.1== "jalousie/hash.rounds";have e:(oO.filter fun x=>x.1== "jalousie/hash.rounds")=[("jalousie/hash.rounds",.agg (CT.map fun z=>.lit (.int .u32 z)))]:=by kernel_rfl
 rw[e,MakeChecks.laidMetH_plain _ _ _ zzK]at h3;exact Nh Z3 Z9 h3
def Z2:Tryz.prog.globalNamed "errors.errorType"= some 4:=by kernel_rfl
def Z5:(Tryz.prog.cutTypes.find? (·.1== "internal/reflectlite.rtype")).map (·.2)=some 243:=by kernel_rfl
def XY:((List.range Tryz.prog.types.size).filter fun t=>Tryz.prog.rowNamed t [101,114,114,111,114])=[107]:=by kernel_rfl
def XV (h:laidMetH Tryz.prog oO W):(Hl.all W).cell 4 0=some Aw:=by
 have h3:=(laidMetH_iff.1 h).2;have e:(oO.filter fun x=>x.2.handleName?.isSome)=[("errors.errorType",Rows.laid_errors_errorType)]:=by kernel_rfl
 rw[e]at h3;obtain⟨name,u,ty,e1,e2,e3,e4,e5⟩:=h3 _ (aam.2 rfl);have en:name=[101,114,114,111,114]:=(aa1 e1).symm;subst en;obtain rfl:=aa1 (Z5.symm.trans e2);have hm:ty∈(List.range Tryz.prog.types.size).filter fun t=>Tryz.prog.rowNamed t [101,114,114,111,114]:=abo.2 ⟨aaP.2 e3,e4⟩;rw[XY]at hm;obtain rfl:=aam.1 hm;have hh:typeHandle Tryz.prog 107=.pointer (some ⟨7,107,none⟩):=by kernel_rfl
 rw[hh]at e5;refine mV ?_;unfold Aw;simpa using World.var?_cell Z2 e5 0
def Ki (os:Os) (args:Array Value):laidMetH Tryz.prog oO ((World.doorLaid Tryz.prog 400 os).forCall (fun _ _=>0) ⟨#[],args,[]⟩).memory :=
 laidMetH_of_parts3 (fuel:=8) (laidMet_of_run' 8 zzK zzK) zzK zzK
end Go.Proofs.YtomdimlnggpgbaaGreatDoor
