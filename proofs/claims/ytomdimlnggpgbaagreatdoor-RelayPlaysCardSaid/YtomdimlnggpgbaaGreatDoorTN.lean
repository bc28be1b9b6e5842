/- RelayPlays. -/
import Derived.Shelf.SlIterI.Nil
import Derived.Shelf.SortM.Plain
import Derived.Shelf.SortM.SortNone
import Derived.Ground.GgzProg
import Derived.Ground.SlgmProg
import Derived.Shelf.SlGeneric
import Derived.Test.YtomdimlnggpgbaaGreatDoorTM
set_option linter.all false
set_option maxHeartbeats 4000000
namespace Go.Proofs.YtomdimlnggpgbaaGreatDoor
open Go Go.Sx Go.Pk
def T9:List Ck->Bool
 | []=>true
 | k::l=>(match k with | .ptr | .sl | .map=>false | _=>true)&&T9 l
def BB {q:Env} : ∀ {ks:List Ck} {n:Nat},T9 ks=true->bw n ks q->cD n ks q
 | [],_,_,_=>trivial
 | k::ks,n,h,hn=>by
  simp only[T9,aah]at h;refine⟨?_,BB h.2 hn.2⟩;have:=hn.1;cases k<;>first | exact zzT | exact this | cases h.1
def ve {q:Env} : ∀ {a b:List Ck} {n:Nat},bw n (a++b) q->bw n a q/\bw (n+aW a) b q
 | [],b,n,h=>⟨zzT,by simpa [aW] using h⟩
 | k::a,b,n,h=>by
  have:=ve (a:=a) (b:=b) (n:=n+k.len) h.2;rw[show n+k.len+aW a=n+aW (k::a)by simp [aW];omega]at this;exact⟨⟨h.1,this.1⟩,this.2⟩
set_option maxRecDepth 20000 in
def O2 (q:Env):((((al 5 gR).map (CV.ev q)).take 125).drop 34).take 20=(al 39 ([Ck.int .i64,Ck.bool,Ck.int .u64]++List.replicate 16 (Ck.int .u8)++[Ck.sl])).map (CV.ev q)/\((((al 5 gR).map (CV.ev q)).take 125).drop 93).take 32=(al 101 (List.replicate 32 (Ck.int .u8))).map (CV.ev q) /\
 cI (((al 5 gR).map (CV.ev q)).take 125) 54=q.i 62/\cI (((al 5 gR).map (CV.ev q)).take 125) 55=q.i 63/\cI (((al 5 gR).map (CV.ev q)).take 125) 56=q.i 64/\cI (((al 5 gR).map (CV.ev q)).take 125) 57=q.i 65/\cI (((al 5 gR).map (CV.ev q)).take 125) 58=q.i 66/\cI (((al 5 gR).map (CV.ev q)).take 125) 59=q.i 67:=by
 rw[oH];exact⟨rfl,rfl,rfl,rfl,rfl,rfl,rfl,rfl⟩
def UE {q:Env} {w:Int} {n:Nat} {lY sum:List Int} (hw:1<=w/\w<=6) (hn:n<=100000) (h4:q.i 4=w) (h7:q.i 147=n) (ht:(al 151 (List.replicate 32 (Ck.int .u8))).map (CV.ev q)=aM lY) (hs:(al 184 (List.replicate 32 (Ck.int .u8))).map (CV.ev q)=aM sum) :
 Af.map (CV.ev q)=fW (((al 5 gR).map (CV.ev q)).take 125) w n lY sum++[.slice (az (q.i 183) 0) 80 80]:=by
 obtain⟨e1,e2,k0,k1,k2,k3,k4,k5⟩:=O2 q;unfold fW lI qj MN;rw[e1,e2,k0,k1,k2,k3,k4,k5,<-ht,<-hs];have wi:∀ z:Int,-9<=z->z<=1000000->IntKind.i64.wrap z=z:=fun z h1 h2=>by rw[IntKind.wrap_i64];omega
 have wu:∀ z:Int,0<=z->z<=1000000->IntKind.u64.wrap z=z:=fun z h1 h2=>by rw[IntKind.wrap_u64];omega
 have w1:IntKind.i64.wrap (w-1)=w-1:=wi _ ah ah;have w2:IntKind.u64.wrap (n:Int)=n:=wu _ ah ah;have w3:IntKind.i64.wrap ((n:Int)+1)=(n:Int)+1:=wi _ ah ah;have w4:IntKind.u64.wrap ((n:Int)+1)=(n:Int)+1:=wu _ ah ah;unfold Af;simp only[aaM,aaC,abn,CV.ev,ak,aq,bx,bJ,cQ,cG,gn,h4,h7,w1,w2,w3,w4,aax,abZ,abw];rfl
set_option maxRecDepth 20000 in
def BQ:qi.OK Tryz.prog:=by
 refine Spec.aS (Γ:=XH) UF ?_;rintro xs Hs Rs hl1 hl2 ⟨v,w,row,R,T,RG,rows,hs,p,rfl,rfl,hR,hA,hlen,hw,hx,hK⟩;have e0:Hs=[]:=aad.1 hl1;subst e0;obtain⟨x,y,c,rfl,hy,_⟩:=id hR;obtain⟨q0,ag,hnw,hrow0⟩:=cH gR 5 row (aY fun k=>[x,y,rows.length,c,w].getD k 0) hx.ok;obtain⟨J,hρ⟩:∃ J:Env,J=⟨q0.i,q0.b,q0.s,q0.v,AU [(140,R),(141,T),(142,RG)]⟩:=⟨_,rfl⟩;have v0:J.i 0=x:=by rw[hρ];exact ag.i 0
 have v1:J.i 1=y:=by rw[hρ];exact ag.i 1
 have v2:J.i 2=rows.length:=by rw[hρ];exact ag.i 2
 have v3:J.i 3=c:=by rw[hρ];exact ag.i 3
 have v4:J.i 4=w:=by rw[hρ];exact ag.i 4
 have aC:(al 5 gR).map (CV.ev J)=row:=by rw[hρ,<-Qp (AU [(140,R),(141,T),(142,RG)])];exact hrow0
 have hnw:bw 5 gR J:=by rw[hρ];exact QV _ _ _ hnw
 have w4:J.h 140=R:=by rw[hρ];rfl
 have w5:J.h 141=T:=by rw[hρ];rfl
 have w6:J.h 142=RG:=by rw[hρ];rfl
 clear hρ;refine⟨O3,J,fun _ _=>True,fun _ _=>0,?_,cO (by intro r hr;simp [O3]at hr;rcases hr with rfl | rfl | rfl<;>exact⟨_,_,_,rfl⟩) (by show [J.h 140,J.h 141,J.h 142]=_;rw[w4,w5,w6]),(fun _ h=>nomatch h),?_⟩
 .show [Value.slice (az (J.i 0) (J.i 1)) (J.i 2).toNat (J.i 3).toNat,.int .i64 (J.i 4),.agg ((al 5 gR).map (CV.ev J)).toArray]=_;rw[v0,v1,v2,v3,v4,aC,aaa,aaa]
 refine aG.read [] [] [Af] ?_;have hb0:Value.slice (az (J.i 133) (J.i 134)) (J.i 135).toNat (J.i 136).toNat=row.getD 125 BA:=by rw[<-aC,ue]
 have hn5:0<=J.i 134/\0<=J.i 135:=by
  obtain⟨_,h⟩:=ve (a:=bT) (b:=[Ck.sl]) hnw;exact⟨h.1.2.1,h.1.2.2.1⟩
 have hlr:rows.length=hs.length:=by have:=hA.1;rwa[aaz]at this
 have V:∀ q:Env,ai 143 J q->(q.i 0=x/\q.i 1=y/\q.i 2=rows.length/\q.i 4=w)/\(q.h 140=R/\q.h 141=T/\q.h 142=RG)/\(al 5 gR).map (CV.ev q)=row/\(q.i 133=J.i 133/\q.i 134=J.i 134/\q.i 135=J.i 135)/\Value.slice (az (q.i 0) (q.i 1)) (q.i 2).toNat (q.i 3).toNat=.slice (az x y) rows.length c:=fun q g=>by
  refine⟨⟨by rw[g.i 0,v0],by rw[g.i 1,v1],by rw[g.i 2,v2],by rw[g.i 4,v4]⟩,⟨by rw[g.h 140,w4],by rw[g.h 141,w5],by rw[g.h 142,w6]⟩,?_,⟨g.i 133,g.i 134,g.i 135⟩,?_⟩
  .rw[<-aC];exact aaD Array.toList (Value.agg.inj (fH (ks:=gR) (n:=5) g aA))
  .rw[g.i 0,g.i 1,g.i 2,g.i 3,v0,v1,v2,v3,aaa,aaa]
 have hbB:=Dp rows.length hx.byte;have fin:∀ (U:Hl),R.le U->T.le U->∀ (q:Env) (ce:E),ai 143 J q->q.i 147=rows.length->(al 151 (List.replicate 32 (Ck.int .u8))).map (CV.ev q)=aM (jr hs)->(al 184 (List.replicate 32 (Ck.int .u8))).map (CV.ev q)=aM (gC (fm rows.length p.b))->0<=q.i 183->fm rows.length p.b=List.replicate 80 (aB q ce) ->
  postOf qi [.slice (az x y) rows.length c,.int .i64 w,.agg row.toArray] [] [R,T,RG] q [.ro 140 [.var 0] false,.ro 141 [.var 58] true,.ro 142 [.lit 3] false,.dead,.dead,.hp 145 [] [.var 145] [],.dead,.dead,.bd 183 (List.replicate 80 (CV.int .u8 ce)) 5] (.sv (.agg Af)):=by
  intro U hUR hUT q ce g h7 ht hs2 h183 hce _;obtain⟨⟨_,_,_,k4⟩,_,kr,_⟩:=V q g;have er:=UE hw hlen k4 h7 ht hs2;rw[kr]at er;have hhd:=O4 hx.hd (w:=w) (n:=rows.length) (lY:=jr hs) (sum:=gC (fm rows.length p.b)) hw hlen (qy hs) (fZ _) (Mz hs) (BY _);have hrl:(fW (row.take 125) w rows.length (jr hs) (gC (fm rows.length p.b))).length=125:=fE hhd.ok;have hok:bg (Af.map (CV.ev q)) (Sv.map kc):=by
   rw[er];have e:Sv.map kc=ef++[Kd.slice]:=rfl;rw[e];exact kT hhd.ok rfl
  obtain⟨ρ2,_,hn2,he2⟩:=cH Sv 0 _ (aY fun _=>0) hok;have hF:xg q [.ro 140 [.var 0] false,.ro 141 [.var 58] true,.ro 142 [.lit 3] false,.dead,.dead,.hp 145 [] [.var 145] [],.dead,.dead,.bd 183 (List.replicate 80 (CV.int .u8 ce)) 5] [8]=Hl.one (q.i 183).toNat (.cells (List.replicate 80 (.int .u8 (aB q ce))).toArray 5 (0,0)):=by
   show cP [Hl.one (q.i 183).toNat (.cells ((List.replicate 80 (CV.int .u8 ce)).map (CV.ev q)).toArray 5 (0,0))]=_;rw[aL,acE];rfl
  refine⟨[],[8],rfl,rfl,⟨ρ2,by show Value.agg _=Value.agg _;rw[<-he2],?_,zzT⟩,Af.map (CV.ev q),rfl,fun v' w' row' R' T' RG' rows' hs' p' e1 e2 hR' hA' hx'=>?_⟩
  .obtain⟨m1,m2⟩:=ve (a:=NN) (b:=[Ck.sl]) hn2;refine tS (BB rfl m1) ⟨?_,zzT⟩;have m2:=m2.1;have elast:(CV.sl (.var (0+aW NN)) (.var (0+aW NN+1)) (.var (0+aW NN+2)) (.var (0+aW NN+3))).ev ρ2=.slice (az (q.i 183) 0) 80 80:=by
    have e:al 0 Sv=al 0 NN++[CV.sl (.var (0+aW NN)) (.var (0+aW NN+1)) (.var (0+aW NN+2)) (.var (0+aW NN+3))]:=rfl;rw[e,aaM,er]at he2;have:=(acw he2 rfl).2;simpa using this
   simp only[CV.ev,ak,Value.slice.injEq]at elast;obtain⟨s1,_⟩:=oQ h183 (aap 0) m2.2.1 elast.1;exact⟨ah,m2.2.1,m2.2.2.1,m2.2.2.2⟩
  .simp only[aag,aat,Value.int.injEq,aaY,Value.agg.injEq]at e1 e2;obtain⟨rfl,rfl,e1⟩:=e1;obtain⟨rfl,rfl,rfl⟩:=e2;have e1:=aaG e1;subst e1;obtain rfl:=hR.uniq hR';obtain rfl:=(hA.2 U hUR hUT).uniq (hA'.2 U hUR hUT);obtain rfl:=hx.uniq hx';show fP T (xg q _ [8]) _ _;rw[hF,er];unfold ke;rw[<-hlr];refine⟨kT hhd.ok rfl,?_,?_,hbB.2,by show(fm _ _).length<=_;rw[hbB.1];decide⟩
   .rw[aco hrl];exact hhd
   .have e:(fW (row.take 125) w rows.length (jr hs) (gC (fm rows.length p.b))++[Value.slice (az (q.i 183) 0) 80 80]).getD 125 BA=.slice (az (q.i 183) 0) 80 80:=by
     rw[aak,aau ah,hrl];rfl
    rw[e];show fu _ _ (fm rows.length p.b);rw[hce];refine⟨q.i 183,0,80,by rw[aa8],aap _,Or.inr ⟨h183,fun j z hz=>?_⟩⟩;obtain⟨hj,hz⟩:=aaj.1 hz;rw[aa8]at hj;rw[adj]at hz;subst hz;unfold Hl.cell;rw[Hl.aT];simp only[abl,acv,aaI];rw[abV,aav hj]
 simp only[go_sem,Nat.reduceAdd,XH,Zf,Zg,Zh,Gw];intro q1 g1 _ q2 g2 _;have G2:ai 143 J q2:=g1.tr g2;obtain⟨⟨k0,k1,k2,k4⟩,⟨h0,h1,h2⟩,kr,kb,ksl⟩:=V q2 G2;rw[ksl,h0];refine⟨⟨_,R,rows,rfl,rfl,hR,hlen⟩,fun q3 g3 ⟨F3,hp3,hF3,hn3⟩ q4 g4 _ q5 g5 _=>?_⟩;have hH:=hp3 _ _ _ rfl rfl hR;rw[<-hF3 zzT]at hH;have n3:0<=q3.i 147:=hn3.1.2.2.1;have h147:q3.i 147=rows.length:=by
  obtain⟨x',y',c',e,_⟩:=id hH;simp only[Value.slice.injEq,aaz]at e;omega
 have A5:ai 149 q3 q5:=g4.tr g5;have G5:ai 143 J q5:=G2.trans (g3.mono.tr A5);obtain⟨⟨m0,m1,m2,m4⟩,⟨o0,o1,o2⟩,mr,mb,msl⟩:=V q5 G5;rw[A5.i 145,A5.i 146,A5.i 147,A5.i 148,A5.h 145,o0,o1,o2];refine⟨n3,fun U u=>⟨_,U,U,U,_,hs,rfl,rfl,gN hH (u _ aF),hA.2 U (u R aF) (u T aF),by rw[aaz];exact hlen,hK.mono (u RG aF)⟩,fun q6 g6 ⟨F6,⟨U,u,hp6⟩,_⟩=>?_⟩;have hUR:=u R aF;have hUT:=u T aF;have hp6:=aaG (Value.agg.inj (hp6 _ U U U _ _ rfl rfl (gN hH (u _ aF)) (hA.2 U hUR hUT)));have fin:=fin U hUR hUT;have G6:ai 143 J q6:=G5.tr g6;have h147b:q6.i 147=rows.length:=by rw[g6.i 147,A5.i 147,h147]
 obtain⟨⟨r0,r1,r2,r4⟩,⟨u0,u1,u2⟩,rr,⟨b3,b4,b5⟩,_⟩:=V q6 G6;have o1':=u1;have ww:IntKind.i64.wrap (w-1)=w-1:=by rw[IntKind.wrap_i64];omega
 rw[r4,r2,ww,b3,b4,b5,u1];have hbd:=hx.body;rw[<-hb0]at hbd;obtain⟨x',y',c',e,hy',hbb⟩:=id hbd;simp only[Value.slice.injEq]at e;have tail:∀ (ce:E),fm rows.length p.b=List.replicate 80 (aB q6 ce)->(∀ q,ai 183 q6 q->aB q ce=aB q6 ce)->∀ q7,ai 183 q6 q7->0<=q7.i 183->jT.pre [Value.slice (az (q7.i 183) 0) (Int.toNat 80) (Int.toNat 80)] [] [Hl.one (q7.i 183).toNat (.cells ((List.replicate 80 (CV.int .u8 ce)).map (CV.ev q7)).toArray 5 (0,0)),q7.h 142] /\
  ∀ q8,ai 184 q7 q8->(∃ F,jT.post [Value.slice (az (q7.i 183) 0) (Int.toNat 80) (Int.toNat 80)] [] [Hl.one (q7.i 183).toNat (.cells ((List.replicate 80 (CV.int .u8 ce)).map (CV.ev q7)).toArray 5 (0,0)),q7.h 142] (.agg ((al 184 (List.replicate 32 (Ck.int .u8))).map (CV.ev q8)).toArray) [] F/\(aK 0 [Cp.agg (List.replicate 32 (Ck.int .u8))]≠[]->q8.h 184=F)/\dZ 184 [Cp.agg (List.replicate 32 (Ck.int .u8))] q8) ->
  postOf qi [.slice (az x y) rows.length c,.int .i64 w,.agg row.toArray] [] [R,T,RG] q8 [.ro 140 [.var 0] false,.ro 141 [.var 58] true,.ro 142 [.lit 3] false,.dead,.dead,.hp 145 [] [.var 145] [],.dead,.dead,.bd 183 (List.replicate 80 (CV.int .u8 ce)) 5] (.sv (.agg Af)):=by
  intro ce hce hst q7 g7 p7;have hRd:fu (Hl.one (q7.i 183).toNat (.cells ((List.replicate 80 (CV.int .u8 ce)).map (CV.ev q7)).toArray 5 (0,0))) (.slice (az (q7.i 183) 0) (Int.toNat 80) (Int.toNat 80)) (fm rows.length p.b):=by
   refine⟨q7.i 183,0,80,by rw[hbB.1];rfl,aap _,Or.inr ⟨p7,fun j z hz=>?_⟩⟩;rw[hce]at hz;obtain⟨hj,hz⟩:=aaj.1 hz;rw[aa8]at hj;rw[adj]at hz;unfold Hl.cell;rw[Hl.aT,acE];simp only[abl,acv,aaI];rw[abV,aav hj];show some (Value.int .u8 (aB q7 ce))=_;rw[hst q7 g7,hz]
  rw[show q7.h 142=RG by rw[g7.h 142,u2]];refine⟨⟨_,_,_,RG,rfl,rfl,hRd,hbB.2,by rw[hbB.1];decide,hK⟩,fun q8 g8 ⟨F8,hp8,_⟩=>?_⟩;have hp8:=aaG (Value.agg.inj (hp8 _ _ _ _ rfl rfl hRd));have A8:ai 183 q6 q8:=g7.tr g8;refine fin q8 ce (G6.tr A8) (by rw[A8.i 147,h147b]) ?_ hp8 (by rw[g8.i 183];exact p7) (by rw[hst q8 A8];exact hce);rw[<-hp6];exact aaD Array.toList (Value.agg.inj (fH (ks:=List.replicate 32 (Ck.int .u8)) (n:=151) (m:=183) A8 aA))
 have hi:0<J.i 135->∃ z r,p.b=z::r/\0<=J.i 133/\T.cell (J.i 133).toNat (J.i 134).toNat=some (.int .u8 z):=fun hp=>by
  cases hb:p.b with
  | nil=>rw[hb]at e;simp at e;omega
  | cons z r =>
   rw[hb]at hbb;rcases hbb with h | ⟨hx0,hc⟩
   .cases h
   obtain⟨s1,s2⟩:=oQ hx0 hy' hn5.1 e.1;exact⟨z,r,rfl,ah,by rw[s1,s2];exact hc 0 z rfl⟩
 have hno:¬0<J.i 135->p.b=[]:=fun hn=>aad.1 ah;have mk80:((0:Int)<=80/\((1:Nat):Int)*80<=281474976710656/\(80:Int)<=9223372036854775807):=by decide
 refine⟨ah,ah,⟨ah,ah⟩,ah,hn5.2,fun hp=>?_,fun hn=>⟨mk80,fun q7 g7 ⟨p7,_⟩=>tail _ ?_ (fun q g=>?_) q7 g7 p7⟩⟩
 .obtain⟨z,r,hz,hx0,hc⟩:=hi hp;refine⟨hx0,hn5.1,by rw[hc];rfl,mk80,fun q7 g7 ⟨p7,_⟩=>tail _ ?_ (fun q g=>?_) q7 g7 p7⟩
  .rw[dw,ak,ak,b3,b4,o1',hz,aaW,hc];rfl
  .rw[dw,dw,ak,ak,ak,ak,g.i 133,g.i 134,g.h 141]
 .rw[bx,ak,r2,hno hn];rfl
 .rw[bx,bx,ak,ak,g.i 2]
open Go.Proofs.YtomdimlnggpgbaaGreatDoor.D hiding aO aD fN
variable {D:DM}{R1 R2:Hl}{w:Int}{c row:List Value}{m n:Nat}{st:Nat->List Pc}{p:Pc}{S:SM}
def KN {hs:List Hd} {h:Hd} (e:gG w hs h=0):h.Form/\cI h.c 0=w/\cI h.c 1=hs.length+1:=by
 unfold gG at e;split at e
 .cases e
 .rename_i h1;have hF:h.Form:=acH.1 fun g=>h1 (Or.inl g);have hw:cI h.c 0=w:=acH.1 fun g=>h1 (Or.inr g);split at e
  .split at e<;>cases e
  .split at e
   .cases e
   .exact⟨hF,hw,ah⟩
def E2 (h:bo st p=0):bo (cR st p) p=13:=by
 obtain⟨hF,ha,_,_⟩:=ot h;obtain⟨_,hw,hs⟩:=KN ha;have e:lS (cR st p) (cI p.h.c 0-1).toNat=lS st (cI p.h.c 0-1).toNat++[p.h]:=by
  unfold cR lS;rw[aav h,cU,aaM];rfl
 have ea:gG (cI p.h.c 0) (lS (cR st p) (cI p.h.c 0-1).toNat) p.h=13:=by
  rw[e];unfold gG;rw[aan (fun g=>g.elim (fun x=>x hF) (fun x=>x rfl)),aav (by rw[aac,aay];omega),aav];rw[hs,show(((lS st (cI p.h.c 0-1).toNat).length:Int)+1-1).toNat=(lS st (cI p.h.c 0-1).toNat).length by omega,aau (aaw _),adk];rfl
 unfold bo;rw[aan (fun x=>x hF),ea,aav aA]
def RS (D:DM) (S:SM) (n m:Nat):Prop:=∃ (g:Int) (K:Nat),Nonempty (SP D S n g K)/\K<=m/\S.recs.length<=m/\S.bA.length<=1100*m
def RS.pre (h:RS D S n m) (hm:m<=900):S.bA.length<=1048576/\0<=S.LA.serial/\S.recs.length<=1000000000:=by
 obtain⟨g,K,⟨h⟩,hK,hr,hb⟩:=h;refine⟨ah,?_,ah⟩;rw[h.eA];exact ab1 _
def RS.new (h:6<=m/\m<=16384):RS (fL m) (bY (fL m)) (m/2) 0/\(bY (fL m)).recs=[]/\fz (fL m)=0/\ar (lV (fL m))/\ar (ij (fL m)):=by
 obtain⟨⟨hP⟩,hr,hE⟩:=SP.new h;obtain⟨_,_,b1,b2⟩:=hP.open;have hb:(bY (fL m)).bA=[]:=by rw[hP.pk,hr];rfl
 exact⟨⟨0,0,⟨hP⟩,aaw _,by rw[hr];exact aaw _,by rw[hb];exact abi _⟩,hr,hE,b1,b2⟩
def vn (hx:fP R1 R2 row p):ar (cy p):=by
 unfold cy aI;exact iD (iD (mg _) (MU hx.hd).1) (iD (mg _) hx.byte)
def RS.push (h:RS D S n m) (hroom:1100*((m:Int)+1)<=64*((n:Int)-2)) (hm:m<=900) (hx:fP R1 R2 row p) (hb:p.b.length=80) (st:Nat->List Pc) :
 (bN D S st p).e=bo st p/\(bN D S st p).st=cR st p/\RS (bN D S st p).D (bN D S st p).S n (m+1):=by
 obtain⟨g,K,⟨hP⟩,hK,hr,hbA⟩:=h;by_cases h0:bo st p=0
 .have hl:=(xS hx ah).2;have ht:=lP (b:=cy p) ah;have hpk:(bF [cy p]).length=(aI (cy p)).length:=by unfold bF;simp
  obtain⟨a1,a2,⟨a3⟩⟩:=hP.add (rows:=[cy p]) (fun r hr=>by rw[aal.1 hr];omega) ah (fun r hr=>by rw[aal.1 hr];exact vn hx) ah;have e:bN D S st p=⟨0,(cN D S [cy p]).D,(cN D S [cy p]).S,cR st p⟩:=by
   unfold bN;rw[aan (fun x=>x h0),aan (fun x=>x a1)]
  rw[e];refine⟨h0.symm,rfl,g,K+1,⟨a3⟩,ah,?_,?_⟩
  .show(cN D S [cy p]).S.recs.length<=_;rw[a2,aac,aay];omega
  .show(cN D S [cy p]).S.bA.length<=_;rw[a3.pk,a2,oG,aac,<-hP.pk];omega
 .have e:bN D S st p=⟨bo st p,D,S,st⟩:=by unfold bN;rw[aav h0]
  have e2:cR st p=st:=by unfold cR;rw[aan h0]
  rw[e,e2];exact⟨rfl,rfl,g,K,⟨hP⟩,ah,by show S.recs.length<=_;omega,by show S.bA.length<=_;omega⟩
def Ah {lY sum:List Int} (hA:(lI c w n lY).length=54) (hs:sum.length=32):aV (fW c w n lY sum) 60 32=sum/\cI (fW c w n lY sum) 92=80:=by
 have key:∀ j,(fW c w n lY sum)[60+j]?=(aM sum++(.int .i64 80::(c.drop 93).take 32))[j]?:=fun j=>by
  unfold fW;rw[aau ah,hA];unfold qj;rw[show 60+j-54=j+6 by omega];rfl
 refine⟨?_,?_⟩
 .apply abS (by rw[aJ,hs]);intro j h1 h2;have e:(aV (fW c w n lY sum) 60 32)[j]=cI (fW c w n lY sum) (60+j):=by simp [aV]
  rw[e];unfold cI;rw[key,aaH (by rw[bX];omega),fF,aab h2];rfl
 .unfold cI;rw[show 92=60+32 from rfl,key,aau (by rw[bX];omega),bX,hs];rfl
def zC:List Value:=[.int .i64 0,.int .u64 0]++List.replicate 32 (.int .u8 0)++[.int .i64 0,.bool false,.int .u64 0]++List.replicate 16 (.int .u8 0)++[.bool false]++List.replicate 6 (.int .u64 0)++List.replicate 32 (.int .u8 0)++[.int .i64 0]++List.replicate 32 (.int .u8 0)
def MK:List Value:=(zC.set 53 (.slice none 0 0))++[.slice none 0 0]
def z0:Pc:=⟨⟨zC,[]⟩,[]⟩
def OM (h:bo st p≠0):bN D S st p=⟨bo st p,D,S,st⟩:=by unfold bN;rw[aav h]
def uU (st:Nat->List Pc) (p:Pc) (i:Nat):(cR st p i).length<=(st i).length+1:=by
 unfold cR;split
 .unfold vH;split
  .rename_i h;rw[h,aac];exact aaw _
  .omega
 .omega
def Xd:bg MK pt:=by
 repeat' (first | exact zzT | refine⟨rfl,?_⟩)
def Xf:∀ v∈MK.take 125,xl v:=by
 have e:MK.take 125=zC.set 53 (.slice none 0 0):=rfl;rw[e];have h:∀ v∈zC,xl v:=by
  intro v hv;unfold zC at hv;simp only[aaR,aar,aaB,abe,ach]at hv;rcases hv with ((((((((rfl | rfl) | ⟨_,rfl⟩) | rfl | rfl | rfl) | ⟨_,rfl⟩) | rfl) | ⟨_,rfl⟩) | ⟨_,rfl⟩) | rfl) | ⟨_,rfl⟩<;>first | exact zzT | (show _<=_/\_<_;omega) | (show kq 0;unfold kq;omega)
 intro v hv;rcases ab3 hv with hv | rfl
 .exact h v hv
 .trivial
def Xe (T:Hl):fP T T MK z0 :=
 ⟨Xd,⟨(by have h:=jy (n:=125) Xd;rw[zT]at h;exact h),Xf,rfl,⟨-1,0,0,rfl,ah,Or.inl rfl⟩,⟨abi _,fun _ h=>nomatch h⟩⟩,⟨-1,0,0,rfl,ah,Or.inl rfl⟩,(fun z hz=>nomatch hz),abi _⟩
noncomputable def BM:Pc:=ke [] 1 z0
def pC (sum:List Int):List Value:=fW zC 1 0 (List.replicate 32 0) sum
def Q4 (sum:List Int) (hs:sum.length=32):Hd.Form ⟨pC sum,[]⟩:=by
 have h92:cI (pC sum) 92=80:=(Ah rfl hs).2;refine⟨⟨⟨?_,?_⟩,⟨?_,?_⟩,⟨?_,?_⟩,?_,rfl,⟨?_,?_,?_,?_,?_,?_⟩,Or.inr ?_⟩,abi _,(fun i hi=>by simp at hi),?_,fun h=>by cases h⟩
 all_goals first
  | (show ik (cI (pC sum) 92-16);rw[h92];exact Or.inl rfl)
  | (show sX _ 2 32;repeat' (first | rfl | refine⟨rfl,?_⟩))
  | exact(by decide:(1:Int)<=1)
  | exact(by decide:(1:Int)<=6)
  | exact(by decide:(1:Int)<=1048576)
  | exact(by decide:(0:Int)<=0)
  | exact(by decide:(0:Int)<=255)
  | exact(by decide:(0:Int)<=1099511627776)
  | exact(by decide:(0:Int)<=1048576)
open Classical in
def OD:bo (fun _=>[]) BM=0:=by
 have hs:(gC (fm 0 [])).length=32:=fZ _;have eh:BM.h=⟨pC (gC (fm 0 [])),[]⟩:=rfl;have eb:BM.b=fm 0 []:=rfl;have hF:=Q4 _ hs;obtain⟨e1,e2⟩:=Ah (c:=zC) (w:=1) (n:=0) (lY:=List.replicate 32 0) rfl hs;have k0:cI (pC (gC (fm 0 []))) 0=1:=rfl;have k1:cI (pC (gC (fm 0 []))) 1=1:=rfl;have kt:aV (pC (gC (fm 0 []))) 2 32=List.replicate 32 0:=rfl;have ha:gG 1 [] ⟨pC (gC (fm 0 [])),[]⟩=0:=by
  unfold gG;rw[aan (fun h=>h.elim (fun x=>x hF) (fun x=>x k0)),k1,aan aA,aan aA,aan (fun x=>x kt)]
 have hw:fq (pC (gC (fm 0 []))) (fm 0 [])=true:=by
  unfold fq;exact decide_eq_true ⟨by rw[show cI (pC (gC (fm 0 []))) 92=80 from e2];rfl,e1.symm⟩
 unfold bo;rw[eh,eb];dsimp only;rw[aan (fun x=>x hF),k0,aan (fun x=>x ha),hw,aan aA,aan aA]
def pF:Sx.Spec where
 fn:=25
 own:=[]
 rd:=[2000000,100]
 res:=[.one .bool]
 pre:=fun xs Hs Rs=>∃ RG T g,xs=[]/\Rs=[RG,T]/\(Gl RG g/\uJ RG 5/\RG.cell 4 0=some yG)/\uJ RG 3
 post:=fun xs Hs Rs v Hs' F=>v=.bool true
def Z6:List CV:=([.int .i64 (.lit 0),.int .u64 (.lit 0)]++List.replicate 32 (CV.int .u8 (.lit 0))++[.int .i64 (.lit 0),.bool .ff,.int .u64 (.lit 0)]++List.replicate 16 (CV.int .u8 (.lit 0))++[.sl (.lit (-1)) (.lit 0) (.lit 0) (.lit 0),.int .u64 (.lit 0),.int .u64 (.lit 0),.int .u64 (.lit 0),.int .u64 (.lit 0),.int .u64 (.lit 0),.int .u64 (.lit 0)]++List.replicate 32 (CV.int .u8 (.lit 0))++[.int .i64 (.lit 0)]++List.replicate 32 (CV.int .u8 (.lit 0))++[.sl (.lit (-1)) (.lit 0) (.lit 0) (.lit 0)])
set_option maxRecDepth 20000 in
def SU (q:Env):Z6.map (CV.ev q)=MK:=rfl
noncomputable def Xk:List Sx.Spec:=[HQ,Dq,zV 1001053,qi,qH]
def SW:∀ t∈Xk,t.OK Tryz.prog:=av JN <| av Mb <| av (Fy _) <| av BQ <| av za <| bQ
def Yc:HQ.res=[.one .ptr]:=rfl
def Yd:Dq.res=[.one .ptr,.one (.int .i64)]:=rfl
def Ye (n:Nat):(zV n).res=[.one (.int .i64)]:=rfl
def Yf:qi.res=[.agg Sv]:=rfl
def Yg:qH.res=[.one (.int .i64)]:=rfl
noncomputable def Z5:aG Tryz.prog Xk pF.fn where
 Λ:=aD
 args:=[]
 mem:=[.ro 0 [.lit 0,.lit 1,.lit 2,.lit 3,.lit 4,.lit 5] false,.ro 1 [] true]
 nv:=2
set_option maxRecDepth 20000 in
def Ed:pF.OK Tryz.prog:=by
 refine Spec.aS (Γ:=Xk) SW ?_;rintro xs Hs Rs hl1 hl2 ⟨RG,T,g,rfl,rfl,hG,hK⟩;have e0:Hs=[]:=aad.1 hl1;subst e0;refine⟨Z5,aO [] false [RG,T],fun _ _=>True,fun _ _=>0,rfl,cO (by intro r hr;simp [Z5]at hr;rcases hr with rfl | rfl<;>exact⟨_,_,_,rfl⟩) rfl,(fun _ h=>nomatch h),?_⟩;refine aG.read [gR] [] [Z6] ?_;generalize hρ:aO [] false [RG,T]=J;have V:∀ q:Env,ai 2 J q->q.h 0=RG/\q.h 1=T:=fun q g=>by
  rw[g.h 0,g.h 1,<-hρ];exact⟨rfl,rfl⟩
 clear hρ;simp only[go_sem,Nat.reduceAdd,Xk,Yc,Yd,Ye,Yf,Yg,V5];refine⟨⟨40,rfl⟩,fun q2 g2 ⟨F2,⟨m,em,hD⟩,hF2,_⟩=>?_⟩;simp only[aag,Value.int.injEq,aaY,aat]at em;subst em;rw[<-hF2 (by simp [aK,Cp.roots,Ck.root])]at hD;have hNew:RS (fL 40) (bY (fL 40)) 20 0/\(bY (fL 40)).recs=[]/\fz (fL 40)=0/\ar (lV (fL 40))/\ar (ij (fL 40)):=RS.new (m:=40) ⟨ah,ah⟩;obtain⟨hRS,wj,hE0,hb1,hb2⟩:=hNew;refine⟨⟨_,_,_,rfl,rfl,hD,hb1,hb2,hE0,wj⟩,fun q4 g4 ⟨F4,⟨dp,H',D',H2,pv,e1,e2,d1,e3,d2,ev,hR⟩,hF4,hn4⟩=>?_⟩;simp only[aag,aat]at e1 e2 e3;subst e1 e2;obtain rfl:=hD.uniq d1;simp only[Value.tuple.injEq,aaT,aag,Value.int.injEq,aaY,aat]at ev;obtain⟨epv,e6⟩:=ev;rw[<-epv,<-hF4 (by simp [aK,Cp.roots,Ck.root])]at hR;rw[<-e3]at d2;have G4:ai 2 J q4:=g2.tr g4;obtain⟨v0,v1⟩:=V q4 G4;rw[v0,v1,SU];have hRd:bj T (.slice (az (-1) 0) (Int.toNat 0) (Int.toNat 0)) pt []:=⟨-1,0,0,rfl,ah,Or.inl rfl⟩;have hAll:Xg T T (([]:List (List Value)).map (List.take 125)) []:=⟨rfl,fun _ _ _=>⟨rfl,fun j r h hr=>by simp at hr⟩⟩;refine⟨⟨_,1,MK,T,T,RG,[],[],z0,rfl,rfl,hRd,hAll,aA,aA,Xe T,hK⟩,fun q7 g7 ⟨F7,⟨row,er,hp7⟩,hF7,_⟩ q8 g8 _=>?_⟩;have hx:=hp7 _ _ _ _ _ _ _ _ _ rfl rfl hRd hAll (Xe T);have er:=aaG (Value.agg.inj er);rw[JY]at er;rw[<-er,<-hF7 aA]at hx;have A48:ai 7 q4 q8:=g7.tr g8;have G8:ai 2 J q8:=G4.tr A48;have hpr:∀ q,ai 139 q7 q->(al 7 gR).map (CV.ev q)=(al 7 gR).map (CV.ev q7):=fun q g=>aaD Array.toList (Value.agg.inj (fH (ks:=gR) (n:=7) g aA));have hb80:BM.b.length=80:=aa8;refine⟨fun _=>⟨fun _=>?_,fun hbad=>?_⟩,fun hbad=>absurd (by rw[A48.i 6];exact e6) hbad⟩
 rotate_left
 .exfalso;obtain⟨r,ps,x,HS,HI,hp,_⟩:=hR;rw[A48.i 4]at hbad;rw[hbad]at hp;simp [az]at hp
 obtain⟨x0,x1⟩:=V q8 G8;rw[hpr q8 g8,g8.h 7,x0,x1,A48.i 4,A48.i 5,A48.h 4,A48.h 5];obtain⟨c1,c2,c3⟩:=hRS.pre ah;refine⟨⟨_,_,_,_,_,_,_,g,_,_,_,_,_,rfl,rfl,rfl,hR,d2,hx,by show BM.b.length<=2100;omega,fun i _=>Nat.zero_lt_succ _,hG,c1,c2,c3⟩,fun q9 g9 ⟨F9,hp9,_⟩=>?_⟩;obtain⟨hR9,hD9,he9⟩:=vj (K1:=q9.h 140) (K2:=q9.h 141) hR d2 hx hp9;obtain⟨f1,f2,hRS9⟩:=hRS.push aA ah hx hb80 (fun _=>[]);have a1:bo (fun _=>[]) (ke [] 1 z0)=0:=OD;rw[f1,a1]at he9;rw[f2]at hR9;refine⟨fun _=>?_,fun hne=>absurd (by simpa using he9) hne⟩;have A9:ai 139 q7 q9:=g8.tr g9;have A49:ai 7 q4 q9:=A48.tr g9;have G9:ai 2 J q9:=G4.tr A49;obtain⟨y0,y1⟩:=V q9 G9;rw[hpr q9 A9,A9.h 7,y0,y1,A49.i 4,A49.i 5];obtain⟨c1,c2,c3⟩:=hRS9.pre ah;have hS9:ma (cR (fun _=>[]) (ke [] 1 z0)):=fun i _=>by
  have:=uU (fun _=>[]) (ke [] 1 z0) i;simp only[aa7]at this;omega
 refine⟨⟨_,_,_,_,_,_,_,g,_,_,_,_,_,rfl,rfl,rfl,hR9,hD9,hx,by show BM.b.length<=2100;omega,hS9,hG,c1,c2,c3⟩,fun q10 g10 ⟨F10,hp10,_⟩=>?_⟩;obtain⟨hR10,_,he10⟩:=vj (K1:=q10.h 143) (K2:=q10.h 144) hR9 hD9 hx hp10;have a2:bo (cR (fun _=>[]) (ke [] 1 z0)) (ke [] 1 z0)=13:=E2 OD;rw[OM (by rw[a2];decide)]at hR10 he10;rw[a2]at he10;refine⟨fun _=>?_,fun hne=>absurd (by simpa using he10) hne⟩;obtain⟨r,ps,x,hp,hrb,hIx⟩:=hR10.rd;have n5:0<=q4.i 5:=hn4.1.2;obtain⟨i4,i5⟩:=Rb n5 hp;have A10:ai 7 q4 q10:=A49.tr g10;have cr:(q10.h 143).cell ((r:Int)).toNat (Int.toNat ((0:Int)+1))=some (.pointer (some ⟨x,0,none⟩)):=by
  rw[aaa];unfold Hl.cell;rw[hrb];rfl
 rw[A10.i 4,A10.i 5,i4,i5,cr,iQ];refine⟨ah,ah,rfl,⟨x,_,_,rfl,rfl,hIx⟩,fun q11 g11 ⟨F11,hp11,_⟩=>?_⟩;have h11:q11.i 146=dY (cR (fun _=>[]) (ke [] 1 z0)):=by simpa using hp11 _ _ _ rfl rfl hIx
 obtain⟨hF,_⟩:=ot a1;have hw:=yT hF;have hc:dY (cR (fun _=>[]) (ke [] 1 z0))=1:=by
  unfold cR;rw[aav a1,El _ _ ah];rfl
 refine Ae rfl ?_;have e:ba q11 ((E.var 146).eq (E.lit 1))=true:=by rw[gn,ak,aq,h11,hc]
 show Value.bool _=_;rw[e]
end Go.Proofs.YtomdimlnggpgbaaGreatDoor
namespace Go.Proofs.YtomdimlnggpgbaaGreatDoor
open Go Go.Sx Go.Pk
variable {J q q':Env}{D K:Env->Prop}{F R S:Hl}{c m w x y:Int}{B b2 l raw t:List Int}{A C a row:List Value}{h i j k m1 m2 m3 n sc z:Nat}{old:Nat->E}{u v:Value}
noncomputable def Dm:Sx.Spec where
 fn:=35
 own:=[]
 rd:=[1000053,1000125]
 res:=[.one .sl]
 pre:=fun xs Hs Rs=>∃ row T B p,xs=[.agg row.toArray]/\Rs=[T,B]/\fP T B row p/\p.b.length<=4096
 post:=fun xs Hs Rs v Hs' F=>∀ row T B p,xs=[.agg row.toArray]->Rs=[T,B]->fP T B row p->bO F 5 v (cy p)
noncomputable def XD:List Sx.Spec:=[fx 71]
def Y5 (f:FuncId):(fx f).res=[.one .sl]:=rfl
noncomputable def OX:aG Tryz.prog XD Dm.fn where
 Λ:=fun p=>if lp p then(if p.length>9 then some ⟨1,[(3,.sv (.one (.sl (.var 170) (.lit 0) (.var 171) (.var 172)))),(6,TI .i64 (.var 173))],[(3,.hp 174 [] [.var 170] [])],180⟩else some ⟨0,[(3,.sv (.one (.sl (.var 150) (.lit 0) (.var 151) (.var 152)))),(4,TI .i64 (.var 153))],[(3,.hp 154 [] [.var 150] [])],160⟩)else none
 args:=(bV 0 [.agg yD]).map .sv
 mem:=[.ro 132 [.var 53] false,.ro 133 [.var 128] true]
 nv:=134
def I0 {A:Hl} {sx sy:Int} (h:bO A 5 (.slice (az x y) ((B.length:Int)).toNat c.toNat) B) (hsy:0<=sy) (h2:fu S (.slice (az sx sy) b2.length sc) b2) (hl:B.length<=900000) (hl2:b2.length<=90000)
 (k:∀ q',ai n q q'-> -1<=q'.i n->0<=q'.i (n+1)->bO (q'.h n) 5 (.slice (az (q'.i n) 0) (((B++b2).length:Int)).toNat (q'.i (n+1)).toNat) (B++b2)->K q') :
 ((∃ xs,aN A 5 1 (.slice (az x y) ((B.length:Int)).toNat c.toNat) ((B.length:Int)).toNat xs)/\0<=(B.length:Int)/\((0<=sx/\0<=sy/\0<=(b2.length:Int)/\∀ j:Nat,j<((b2.length:Int)).toNat->∃ v,S.cell sx.toNat (sy.toNat+j)=some v/\v.oneCell'=true)\/(b2.length:Int)=0)/\((B.length:Int)).toNat+((b2.length:Int)).toNat<=maxLen/\((B.length:Int)).toNat+((b2.length:Int)).toNat<=140737488355328) /\
 ∀ q',ai n q q'->(-1<=q'.i n/\0<=q'.i (n+1)/\(∀ xs,aN A 5 1 (.slice (az x y) ((B.length:Int)).toNat c.toNat) ((B.length:Int)).toNat xs->aN (q'.h n) 5 1 (.slice (az (q'.i n) 0) (((B.length:Int)).toNat+((b2.length:Int)).toNat) (q'.i (n+1)).toNat) (((B.length:Int)).toNat+((b2.length:Int)).toNat) (xs++bR S sx.toNat sy.toNat ((b2.length:Int)).toNat))/\D q')->K q':=by
 have hr:b2=[]\/0<=sx/\∀ j z,b2[j]?=some z->S.cell sx.toNat (sy.toNat+j)=some (.int .u8 z):=by
  obtain⟨x1,y1,c1,e,hy1,hc⟩:=h2;simp only[Value.slice.injEq]at e;rcases hc with hc | ⟨h1,hc⟩
  .exact Or.inl hc
  .obtain⟨e1,e2⟩:=Kq h1 hy1 hsy e.1;subst e1 e2;exact Or.inr ⟨h1,hc⟩
 obtain⟨hok,hseg⟩:=qp (R:=S) (x:=sx) (y:=sy) (l:=(b2.length:Int)) rfl hsy hr;refine⟨⟨⟨aM B,?_⟩,ah,hok,by rw[aaa,aaa];unfold maxLen;omega,by rw[aaa,aaa];omega⟩,fun q' g ⟨a1,a2,a3,_⟩=>k q' g a1 a2 ?_⟩
 .have:=h;unfold bO at this;rwa[aaa]at this ⊢
 .rw[hseg]at a3;exact zO h (aaa _) a3
noncomputable def xk (p:Pc) (i:Nat):List Int:=if i=0 then []else if i=1 then aI (bc p.h)else cy p
noncomputable def sH (p:Pc) (i:Nat):List Int:=if i=0 then bc p.h else p.b
def L9 (p:Pc) (h:i<2):xk p i++aI (sH p i)=xk p (i+1):=by
 have:i=0\/i=1:=ah;rcases this with rfl | rfl<;>rfl
def Z4 (p:Pc) (q:Env):Prop:=∃ i:Nat,q.i 153=i/\i<=2/\Ob q 154 150 152 (q.i 151) (xk p i)
def Xi (p:Pc) (q:Env):Prop:=∃ (i n:Nat) (l:List Int),q.i 153=i/\i<2/\q.i 173=n/\n<=4096/\l.length+(aj n).length<=9000/\Ob q 174 170 172 (q.i 171) l/\l++aj n=xk p i++aj (sH p i).length
set_option maxRecDepth 20000 in
def L8:Dm.OK Tryz.prog:=by
 refine Spec.aS (Γ:=XD) (fun t ht=>by rw[XD,aal]at ht;subst ht;exact uf) ?_;rintro xs Hs Rs hl1 hl2 ⟨row,T,B,p,rfl,rfl,hx,hlen⟩;have e0:Hs=[]:=aad.1 hl1;subst e0;obtain⟨J,rfl,hnw,hh⟩:=um (ks:=gR) [(132,T),(133,B)] hx.ok;have w1:J.h 132=T:=hh 132;have w2:J.h 133=B:=hh 133;refine⟨OX,J,fun j q=>if j=0 then Z4 p q else Xi p q,fun j q=>if j=0 then(2-q.i 153).toNat else(q.i 173).toNat,rfl,cO (by intro r hr;simp [OX]at hr;rcases hr with rfl | rfl<;>exact⟨_,_,_,rfl⟩) (by show [J.h 132,J.h 133]=_;rw[w1,w2]),(fun _ h=>nomatch h),?_⟩;refine aG.read [bT] [] [] ?_;simp only[go_sem,Nat.reduceAdd,XD,Y5,Gw,acX,abK];generalize hrow0:(al 0 gR).map (CV.ev J)=row at *;have ht0:(al 0 bT).map (CV.ev J)=row.take 125:=by rw[<-hrow0,oH]
 have hb0:Value.slice (az (J.i 128) (J.i 129)) (J.i 130).toNat (J.i 131).toNat=row.getD 125 BA:=by rw[<-hrow0,ue]
 have hnb:=Ow bT [Ck.sl] 0 hnw;have n130:0<=J.i 130:=hnb.1.2.2.1;have l130:J.i 130=p.b.length:=by
  obtain⟨x',y',c',e,_⟩:=id hx.body;rw[<-hb0]at e;simp only[Value.slice.injEq]at e;have:=e.2.1;omega
 have n129:0<=J.i 129:=hnb.1.2.1;have hbR:fu B (.slice (az (J.i 128) (J.i 129)) p.b.length (J.i 131).toNat) p.b:=by
  have:=hx.body;rw[<-hb0,l130,aaa]at this;exact this
 have V:∀ q:Env,ai 134 J q->q.h 132=T/\q.h 133=B/\(al 0 bT).map (CV.ev q)=row.take 125/\q.i 128=J.i 128/\q.i 129=J.i 129/\q.i 130=p.b.length:=fun q g=>by
  refine⟨by rw[g.h 132,w1],by rw[g.h 133,w2],?_,g.i 128,g.i 129,by rw[g.i 130,l130]⟩;rw[<-ht0];exact aaD Array.toList (Value.agg.inj (fH (ks:=bT) (n:=0) g aA))
 have hb1:=CO hx.hd;have hT:∀ i,(sH p i).length<=4096:=fun i=>by unfold sH;split<;>omega
 have hU:∀ i,(xk p i).length<=8300:=fun i=>by
  have l1:=lP (b:=bc p.h) ah;have l2:=lP (b:=p.b) hlen;unfold xk;split
  .exact abi _
  .split
   .omega
   .unfold cy;rw[aac];omega
 intro q1 g1 p1;refine⟨⟨0,rfl,ah,nJ _ _,rfl,aap _,aap _⟩,fun q2 g2 ⟨i,ei,hi,hO⟩=>⟨fun hlt=>?_,fun hge=>?_⟩⟩
 .have G2:ai 134 J q2:=g1.tr g2;obtain⟨x2,x3,xr,_⟩:=V q2 G2;rw[xr,x2];refine⟨⟨_,T,p.h,rfl,rfl,hx.hd⟩,fun q3 g3 ⟨F3,hp3,hF3,hn3⟩=>?_⟩;have hB:=mh hx.hd hp3;rw[<-hF3 zzT]at hB;have G3:ai 134 J q3:=G2.tr g3;have n3:-1<=q3.i 160/\0<=q3.i 161/\0<=q3.i 162/\0<=q3.i 163:=hn3.1;have l3:q3.i 162=(bc p.h).length:=(JU hB n3.2.2.1 n3.2.2.2).1;have ei3:q3.i 153=i:=(g3.i 153).trans ei;have hO3:Ob q3 154 150 152 (q3.i 151) (xk p i):=by rw[g3.i 151];exact hO.mono g3 ah ah ah
  have hi2:i<2:=ah;have ent:∀ {a:Nat},q3.i a=(sH p i).length->Xi p (assign q3 [⟨170,0,.int .i64 (.var 150)⟩,⟨171,0,.int .i64 (.var 151)⟩,⟨172,0,.int .i64 (.var 152)⟩,⟨173,0,.int .i64 (.var a)⟩] [(174,some 154)]):=fun {a} h=>by
   have h1:=hU i;have h2:=Fe (n:=(sH p i).length) (by have:=hT i;omega);exact⟨i,(sH p i).length,xk p i,ei3,hi2,h,hT i,ah,hO3,rfl⟩
  have hd:∀ {q4:Env},ai 164 q3 q4->Xi p q4->∃ (n:Nat) (l:List Int),q4.i 173=n/\n<=4096/\l.length+(aj n).length<=9000/\l++aj n=xk p i++aj (sH p i).length/\∀ q,ai 180 q4 q->bO (q.h 174) 5 (.slice (az (q.i 170) 0) ((l.length:Int)).toNat (q.i 172).toNat) l/\q.i 171=l.length/\q.i 173=n/\q.i 153=i:=fun {q4} g4 ⟨i',n,l,e1,_,e2,hn,hl,ho,hs⟩=>by
   obtain rfl:i'=i:=by have:=g4.i 153;omega
   refine⟨n,l,e2,hn,hl,hs,fun q g=>?_⟩;obtain⟨o1,o2,_,_⟩:=ho.mono g ah ah ah;rw[o2]at o1;exact⟨o1,by rw[g.i 171,o2],by rw[g.i 173,e2],by rw[g.i 153,e1]⟩
  have more:∀ {q q':Env} {n:Nat} {l:List Int},128<=n->n<=4096->l.length+(aj n).length<=9000->l++aj n=xk p i++aj (sH p i).length->q.i 171=l.length->q.i 173=n->q.i 153=i->ai 181 q q'-> -1<=q'.i 181->0<=q'.i 182->bO (q'.h 181) 5 (.slice (az (q'.i 181) 0) (((l++[((n%128+128:Nat):Int)]).length:Int)).toNat (q'.i 182).toNat) (l++[((n%128+128:Nat):Int)]) ->
   Xi p (assign q' [⟨170,0,.int .i64 (.var 181)⟩,⟨171,0,.int .i64 (.add (.var 171) (.lit 1))⟩,⟨172,0,.int .i64 (.var 182)⟩,⟨173,0,.int .i64 (.wrap .i64 (.quo (.var 173) (.lit 128)))⟩] [(174,some 181)])/\(IntKind.i64.wrap ((q'.i 173).tdiv 128)).toNat<n:=fun {q q' n l} h1 h2 hl hs a b c g p1 p2 o=>by
   have e3:IntKind.i64.wrap ((q'.i 173).tdiv 128)=((n/128:Nat):Int):=by
    rw[g.i 173,b,abA ah,IntKind.wrap_i64];omega
   have e1:q'.i 171+1=((l++[((n%128+128:Nat):Int)]).length:Nat):=by
    rw[g.i 171,a,aac,aay];omega
   rw[iN ah]at hl hs;refine⟨⟨i,n/128,l++[((n%128+128:Nat):Int)],(g.i 153).trans c,hi2,e3,ah,?_,⟨?_,e1,p1,p2⟩,?_⟩,by rw[e3];omega⟩
   .rw[aaN]at hl;rw[aac,aay];omega
   .show bO (q'.h 181) _ (.slice (az (q'.i 181) 0) (q'.i 171+1).toNat (q'.i 182).toNat) _;rw[e1];exact o
   .rw[aax];exact hs
  have byt:∀ {q:Env} {n:Nat},q.i 173=n->n<=4096->IntKind.u8.wrap (IntKind.i64.wrap ((q.i 173).tmod 128+128))=((n%128+128:Nat):Int):=fun {q n} h h2=>by
   have e:(n:Int).tmod 128+128=((n%128+128:Nat):Int):=by rw[abf ah];omega
   rw[h,e,wrap_i64 ah ah,PT];omega
  have fin:∀ {q q':Env} {n a:Nat} {l:List Int},n<128->l++aj n=xk p i++aj (sH p i).length->q.i 171=l.length->q.i 153=i->q.i a=(sH p i).length->a<183->ai 183 q q'-> -1<=q'.i 183->0<=q'.i 184->bO (q'.h 183) 5 (.slice (az (q'.i 183) 0) (((l++[(n:Int)]++sH p i).length:Int)).toNat (q'.i 184).toNat) (l++[(n:Int)]++sH p i) ->
   Z4 p (assign q' [⟨150,0,.int .i64 (.var 183)⟩,⟨151,0,.int .i64 (.add (.add (.var 171) (.lit 1)) (.var a))⟩,⟨152,0,.int .i64 (.var 184)⟩,⟨153,0,.int .i64 (.wrap .i64 (.add (.var 153) (.lit 1)))⟩] [(154,some 183)])/\(2-IntKind.i64.wrap (q'.i 153+1)).toNat<(2-q2.i 153).toNat:=fun {q q' n a l} h1 hs c1 c2 c3 ha g p1 p2 o=>by
   have e3:IntKind.i64.wrap (q'.i 153+1)=((i+1:Nat):Int):=by rw[g.i 153,c2,IntKind.wrap_i64];omega
   have e1:q'.i 171+1+q'.i a=((l++[(n:Int)]++sH p i).length:Nat):=by
    rw[g.i 171,g.i a ha,c1,c3];simp;omega
   have eU:l++[(n:Int)]++sH p i=xk p (i+1):=by
    rw[<-L9 p hi2,<-jd h1,hs];unfold aI;rw[aax]
   rw[eU]at o e1;refine⟨⟨i+1,e3,ah,⟨?_,e1,p1,p2⟩⟩,by rw[e3,ei];omega⟩;show bO (q'.h 183) _ (.slice (az (q'.i 183) 0) (q'.i 171+1+q'.i a).toNat (q'.i 184).toNat) _;rw[e1];exact o
  refine⟨fun h1=>?_,fun h1=>?_⟩
  .obtain rfl:i=1:=ah;obtain⟨_,y3,_,y128,y129,y130⟩:=V q3 G3;refine⟨ah,ent y130,fun q4 g4 h4=>?_⟩;obtain⟨n,l,e2,hn,hl,hs,ho⟩:=hd g4 h4;refine⟨fun h128 q5 g5 _=>?_,fun h128 q5 g5 _=>?_⟩
   .obtain⟨o5,l5,n5,i5⟩:=ho q5 g5;rw[l5,e2];exact mA (b2:=[((n%128+128:Nat):Int)]) o5 (by rw[show aB q5 ((E.var 173).rem (E.lit 128))=(q5.i 173).tmod 128 from rfl,byt n5 hn];rfl) rfl ah aF fun q6 g6 a6 b6 o6=>more ah hn hl hs l5 n5 i5 g6 a6 b6 o6
   .obtain⟨o5,l5,n5,i5⟩:=ho q5 g5;have h128:n<128:=ah;rw[l5];refine mA (b2:=[(n:Int)]) o5 (by rw[n5,PT];show [Value.int .u8 _]=[Value.int .u8 _];congr 2;omega) rfl ah aF fun q6 g6 a6 b6 o6=>?_;have A6:ai 164 q3 q6:=g4.trans (g5.mono.tr g6);have e1:q6.i 171+1=((l++[(n:Int)]).length:Nat):=by rw[g6.i 171,l5];simp
    obtain⟨_,z3,_,z128,z129,z130⟩:=V q6 (G3.tr A6);rw[e1,z3,z128,z129,z130];exact I0 o6 n129 hbR (by simp;omega) ah fun q7 g7 a7 b7 o7=>fin (q:=q6) (n:=n) (a:=130) (l:=l) h128 hs (by rw[g6.i 171,l5]) (by rw[g6.i 153,i5]) z130 ah g7 a7 b7 o7
  .obtain rfl:i=0:=ah;refine⟨n3.2.2.1,ent l3,fun q4 g4 h4=>?_⟩;obtain⟨n,l,e2,hn,hl,hs,ho⟩:=hd g4 h4;refine⟨fun h128 q5 g5 _=>?_,fun h128 q5 g5 _=>?_⟩
   .obtain⟨o5,l5,n5,i5⟩:=ho q5 g5;rw[l5,e2];exact mA (b2:=[((n%128+128:Nat):Int)]) o5 (by rw[show aB q5 ((E.var 173).rem (E.lit 128))=(q5.i 173).tmod 128 from rfl,byt n5 hn];rfl) rfl ah aF fun q6 g6 a6 b6 o6=>more ah hn hl hs l5 n5 i5 g6 a6 b6 o6
   .obtain⟨o5,l5,n5,i5⟩:=ho q5 g5;have h128:n<128:=ah;rw[l5];refine mA (b2:=[(n:Int)]) o5 (by rw[n5,PT];show [Value.int .u8 _]=[Value.int .u8 _];congr 2;omega) rfl ah aF fun q6 g6 a6 b6 o6=>?_;have A6:ai 164 q3 q6:=g4.trans (g5.mono.tr g6);have e1:q6.i 171+1=((l++[(n:Int)]).length:Nat):=by rw[g6.i 171,l5];simp
    have z162:q6.i 162=(bc p.h).length:=by rw[A6.i 162,l3]
    rw[e1,z162,A6.i 160,A6.i 161,A6.h 160];exact I0 o6 n3.2.1 (by have:=hB.rd.w;rw[l3,aaa]at this;exact this) (by simp;omega) ah fun q7 g7 a7 b7 o7=>fin (q:=q6) (n:=n) (a:=162) (l:=l) h128 hs (by rw[g6.i 171,l5]) (by rw[g6.i 153,i5]) z162 ah g7 a7 b7 o7
 .obtain rfl:i=2:=ah;intro _;obtain⟨o1,o2,o3,o4⟩:=hO;refine⟨[],[3],rfl,rfl,⟨(aY fun k=>[q2.i 150,0,q2.i 151,q2.i 152].getD k 0),rfl,⟨o3,aap _,by show 0<=q2.i 151;omega,o4⟩,zzT⟩,fun row' T' B' p' e1 e2 hx'=>?_⟩;simp only[aag,Value.agg.injEq,aat]at e1 e2;have e1:=aaG e1;obtain⟨rfl,rfl⟩:=e2;subst e1;obtain rfl:=hx.uniq hx';show bO (cP [q2.h 154]) _ (.slice (az (q2.i 150) 0) (q2.i 151).toNat (q2.i 152).toNat) _;rw[aL];exact o1
def V6 (z:Int):Env:=(aY fun _=>z)
noncomputable def Dt:Sx.Spec where
 fn:=41
 own:=[]
 rd:=[1000053,1000125]
 res:=[.one (.int .i64)]
 pre:=fun xs Hs Rs=>∃ row T B p,xs=[.agg row.toArray]/\Rs=[T,B]/\fP T B row p/\p.b.length<=4096/\(cy p).length<=9000
 post:=fun xs Hs Rs v Hs' F=>∀ row T B p,xs=[.agg row.toArray]->Rs=[T,B]->fP T B row p->v=.int .i64 (bF [cy p]).length
noncomputable def XQ:List Sx.Spec:=[Dm,wM]
noncomputable def Po:aG Tryz.prog XQ Dt.fn where
 Λ:=aD
 args:=(bV 0 [.agg yD]).map .sv
 mem:=[.ro 132 [.var 53] false,.ro 133 [.var 128] true]
 nv:=134
def ZB:Dm.res=[.one .sl]:=rfl
def ZC:wM.res=[.one .sl]:=rfl
set_option maxRecDepth 20000 in
def Mm:Dt.OK Tryz.prog:=by
 refine Spec.aS (Γ:=XQ) (fun t ht=>by
  simp only[XQ,aar,aaB,abe]at ht;rcases ht with rfl | rfl
  .exact L8
  .exact FI) ?_
 rintro xs Hs Rs hl1 hl2 ⟨row,T,B,p,rfl,rfl,hx,hlen,hr⟩;have e0:Hs=[]:=aad.1 hl1;subst e0;obtain⟨J,rfl,hnw,hh⟩:=um (ks:=gR) [(132,T),(133,B)] hx.ok;have w1:J.h 132=T:=hh 132;have w2:J.h 133=B:=hh 133;refine⟨Po,J,fun _ _=>True,fun _ _=>0,rfl,cO (by intro r hr;simp [Po]at hr;rcases hr with rfl | rfl<;>exact⟨_,_,_,rfl⟩) (by show [J.h 132,J.h 133]=_;rw[w1,w2]),(fun _ h=>nomatch h),?_⟩;refine aG.read [yD] [] [] ?_;simp only[go_sem,Nat.reduceAdd,XQ,ZB,ZC,Gw,acX,abK];have er:∀ q:Env,ai 134 J q->(al 0 yD).map (CV.ev q)=(al 0 gR).map (CV.ev J):=fun q g=>aaD Array.toList (Value.agg.inj (fH (ks:=gR) (n:=0) g aA));intro q1 g1 p1;rw[er q1 g1,g1.h 132,g1.h 133,w1,w2];refine⟨⟨_,T,B,p,rfl,rfl,hx,hlen⟩,fun q2 g2 ⟨F,hp,hF,hn⟩=>?_⟩;have hO:=hp _ T B p rfl rfl hx;have hn:-1<=q2.i 135/\0<=q2.i 136/\0<=q2.i 137/\0<=q2.i 138:=hn.1;have l137:=(hO.rd.at hn.1 hn.2.1 hn.2.2.1).1;have ew:IntKind.u64.wrap (q2.i 137)=((cy p).length:Int):=by rw[l137];exact mY ah ah
 rw[ew];refine⟨ah,⟨_,rfl,ah,ah⟩,fun q3 g3 ⟨F3,⟨z,ez,hO3⟩,hF3,hn3⟩=>?_⟩;have ez:((cy p).length:Int)=z:=by simpa using ez
 subst ez;have hn3:-1<=q3.i 139/\0<=q3.i 140/\0<=q3.i 141/\0<=q3.i 142:=hn3.1;have l141:=(hO3.rd.at hn3.1 hn3.2.1 hn3.2.2.1).1;rw[aaa]at l141;have b1:=zG 2 (cy p).length ah;refine⟨ah,fun _=>⟨[],[],rfl,rfl,⟨V6 (IntKind.i64.wrap (q3.i 141+q3.i 137)),rfl,zzT,zzT⟩,?_⟩⟩;rintro row' T' B' p' e1 e2 hx';simp only[aag,aat]at e2;obtain⟨e2,e3⟩:=e2;subst e2 e3;have l':=((hp row' T B p' e1 rfl hx').rd.at hn.1 hn.2.1 hn.2.2.1).1;have e4:(cy p').length=(cy p).length:=ah;have e5:(bF [cy p']).length=(aj (cy p').length).length+(cy p').length:=by
  show(aI (cy p')++[]).length=_;rw[aa6];unfold aI;rw[aac]
 show Value.int .i64 (IntKind.i64.wrap (q3.i 141+q3.i 137))=_;rw[e5,e4,l141,g3.i 137,l137,wrap_i64 ah ah];rfl
noncomputable def Ds:Sx.Spec where
 fn:=42
 own:=[]
 rd:=[0]
 res:=[.one .bool]
 pre:=fun xs Hs Rs=>∃ p R dp S st,xs=[p]/\Rs=[R]/\bZ R p dp S st
 post:=fun xs Hs Rs v Hs' F=>∀ p R dp S st,xs=[p]->Rs=[R]->bZ R p dp S st->v=.bool S.over
noncomputable def XP:List Sx.Spec:=[DJ]
noncomputable def Pb:aG Tryz.prog XP Ds.fn where
 Λ:=aD
 args:=[TP (.var 0) (.lit 0)]
 mem:=[.ro 1 [.var 0] true]
 nv:=2
def ZA:DJ.res=[.one .bool]:=rfl
def Mc:Ds.OK Tryz.prog:=by
 refine Spec.aS (Γ:=XP) (fun t ht=>by rw[XP,aal]at ht;subst ht;exact Mv) ?_;rintro xs Hs Rs hl1 hl2 ⟨p,R,dp,S,st,rfl,rfl,hx⟩;have e0:Hs=[]:=aad.1 hl1;subst e0;obtain⟨r,ps,x,HS,HI,rfl,hI⟩:=id hx;refine⟨Pb,aO [r] false [Hl.none,R],fun _ _=>True,fun _ _=>0,?_,cO (by intro r hr;simp [Pb]at hr;rcases hr with rfl;exact⟨_,_,_,rfl⟩) rfl,(fun _ h=>nomatch h),?_⟩
 .show [Value.pointer (az (r:Int) 0)]=_;rw[au ah];rfl
 refine aG.read [] [] [] ?_;simp only[go_sem,Nat.reduceAdd,XP,ZA];obtain⟨l1,l2,l3⟩:=pO hI.d1 hI.d2 hI.d3;rw[<-hI.hl]at l1 l2 l3;obtain⟨a,_,_,_,_,_,_,rfl,_⟩:=id hI.so;have hs:=hI.so.rd.mono l2;have c0:((aO [(r:Int)] false [Hl.none,R]).h 1).cell ((aO [(r:Int)] false [Hl.none,R]).i 0).toNat (Int.toNat 0)=some (.pointer (some ⟨a,0,none⟩)):=by
  show R.cell ((r:Int)).toNat 0=_;rw[aaa];simp [Hl.cell,l1 _ _ (Hl.aT _ _)]
 rw[c0];have ep:az (bm (some (Value.pointer (some ⟨a,0,none⟩))) 0) (bm (some (Value.pointer (some ⟨a,0,none⟩))) 1)=some ⟨a,0,none⟩:=by
  show az (a:Int) 0=_;rw[au ah];rfl
 rw[ep];refine⟨by show(0:Int)<=r;omega,rfl,⟨_,R,dp,S,rfl,rfl,hs⟩,fun q g ⟨F,hp,_⟩=>fun _=>⟨[],[],rfl,rfl,⟨⟨fun _=>0,fun _=>q.b 2,fun _=>.empty,fun _=>.tuple #[],fun _=>Hl.none⟩,rfl,zzT,zzT⟩,?_⟩⟩;rintro p' R' dp' S' st' e1 e2 hx';simp only[aag,aat]at e1 e2;subst e1 e2;have:=(hx.uniq hx').2.1;subst this;exact hp _ R dp S rfl rfl hs
def DF (row:List Value) (k:Nat):Nat:=match row[k]? with
 | some (.slice _ l _)=>l
 | _=>0
def uP:Sx.Spec where
 fn:=26
 own:=[]
 rd:=[0]
 res:=[.one .bool]
 pre:=fun xs Hs Rs=>∃ u n R rows,xs=[u,.int .i64 n]/\Rs=[R]/\bj R u pt rows/\n<=100
 post:=fun xs Hs Rs v Hs' F=>∀ u n R rows,xs=[u,.int .i64 n]->Rs=[R]->bj R u pt rows->∃ z,v=.bool z/\(z=true->(rows.length:Int)<=n/\∀ row∈rows,DF row 53<=20/\DF row 125<=2100)
noncomputable def Ns:aG Tryz.prog [] 26 where
 Λ:=fun p=>if lp p then some ⟨0,[(5,TI .i64 (.var 50))],[],60⟩else none
 args:=[.sv (.one (.sl (.var 0) (.var 1) (.var 2) (.var 3))),.sv (.one (.int .i64 (.var 4)))]
 mem:=[.ro 5 [.var 0] false]
 nv:=6
def Kr (h:bg row pt) (hk:k=53\/k=125):∃ u,row[k]?=some u/\bp (some u) .slice=true/\bm (some u) 2=DF row k:=by
 have hl:=fE h;rw[kE]at hl;have rP:k<row.length:=ah;refine⟨row[k],aab rP,?_⟩;have h1:bp row[k]? .slice=true:=by
  obtain⟨q,hq,_,_⟩:=um (ks:=gR) [] h;rw[hq];rcases hk with rfl | rfl<;>kernel_rfl
 rw[aab rP]at h1;refine⟨h1,?_⟩;unfold DF;rw[aab rP];cases hv:row[k]with
 | slice a l c=>simp [bm]
 | _=>rw[hv]at h1;simp [bp]at h1
def La:uP.OK Tryz.prog:=by
 refine Spec.aS (Γ:=[]) (fun _ h=>nomatch h) ?_;rintro xs Hs Rs hl1 hl2 ⟨u,n,R,rows,rfl,rfl,hR,hn⟩;have e0:Hs=[]:=aad.1 hl1;subst e0;obtain⟨x,y,c,rfl,hy,hr⟩:=id hR;refine⟨Ns,aO [x,y,rows.length,c,n] false [Hl.none,Hl.none,Hl.none,Hl.none,Hl.none,R],fun _ q=>∃ k:Nat,q.i 50=k/\k<=rows.length/\∀ row∈rows.take k,DF row 53<=20/\DF row 125<=2100,fun _ q=>(rows.length-q.i 50).toNat,?_,cO (by intro r hr;simp [Ns]at hr;subst hr;exact⟨_,_,_,rfl⟩) rfl,(fun _ h=>nomatch h),?_⟩
 .show [Value.slice (az x y) ((rows.length:Int)).toNat ((c:Int)).toNat,_]=_;simp only[aaa];rfl
 refine aG.read [] [] [] ?_;generalize hρ:aO [x,y,rows.length,c,n] false [Hl.none,Hl.none,Hl.none,Hl.none,Hl.none,R]=J;have V:∀ q:Env,ai 6 J q->q.i 0=x/\q.i 1=y/\q.i 2=rows.length/\q.i 4=n/\q.h 5=R:=fun q hg=>by
  rw[hg.i 0,hg.i 1,hg.i 2,hg.i 4,hg.h 5,<-hρ];exact⟨rfl,rfl,rfl,rfl,rfl⟩
 clear hρ;have out:∀ {q:Env} {e:E} {mem:Mem},(ba q e=true->(rows.length:Int)<=n/\∀ row∈rows,DF row 53<=20/\DF row 125<=2100)->postOf uP [.slice (az x y) rows.length c,.int .i64 n] [] [R] q mem (.sv (.one (.bool e))):=by
  intro q e mem he;refine Ae rfl fun u' n' R' rows' e1 e2 hR'=>?_;simp only[aag,Value.int.injEq,aaY,aat]at e1 e2;obtain⟨rfl,rfl⟩:=e1;subst e2;obtain rfl:=hR.uniq hR';exact⟨_,rfl,he⟩
 have ff:∀ {q:Env} {mem:Mem},postOf uP [.slice (az x y) rows.length c,.int .i64 n] [] [R] q mem (.sv (.one (.bool .ff))):=out fun e=>by rw[de]at e;cases e
 simp only[go_sem,Nat.reduceAdd];refine⟨⟨0,rfl,abi _,fun row h=>by simp at h⟩,fun q g ⟨k,ek,hk,hall⟩=>?_⟩;obtain⟨v0,v1,v2,v4,w5⟩:=V q g;rw[v0,v1,v2,w5,ek];have fin:∀ {q':Env} {mem:Mem},q'=q->(k=rows.length\/100<=k)->postOf uP [.slice (az x y) rows.length c,.int .i64 n] [] [R] q' mem (.sv (.one (.bool (.le (.var 2) (.var 4))))):=by
  rintro q' mem rfl hkk;refine out fun h=>?_;rw[j7,ak,ak,v2,v4,aaf]at h;have:k=rows.length:=ah;refine⟨h,fun row hr=>hall row ?_⟩;rw[this,abk];exact hr
 refine⟨ah,fun hlt=>⟨fun h100=>?_,fun h100=>fin rfl (Or.inr ah)⟩,fun hge=>fin rfl (Or.inl ah)⟩;have hkr:rows[k]?=some rows[k]:=aab ah;rcases hr with rfl | ⟨hx,hr⟩
 .simp at hlt;omega
 obtain⟨hok,hcell⟩:=hr k _ hkr;rw[kE]at hcell;obtain⟨u1,hu1,s1,s2⟩:=Kr hok (Or.inl rfl);obtain⟨u2,hu2,s3,s4⟩:=Kr hok (Or.inr rfl);have k1:R.cell x.toNat (y+(k:Int)*126+53).toNat=some u1:=by rw[show(y+(k:Int)*126+53).toNat=y.toNat+k*126+53 by omega];exact hcell 53 _ hu1
 have k2:R.cell x.toNat (y+(k:Int)*126+125).toNat=some u2:=by rw[show(y+(k:Int)*126+125).toNat=y.toNat+k*126+125 by omega];exact hcell 125 _ hu2
 rw[k1,k2,s2,s4];refine⟨hx,hy,ah,s1,ah,fun h20=>⟨s3,ah,fun _=>ff,fun hb=>⟨⟨k+1,?_,ah,fun row aC=>?_⟩,?_⟩⟩,fun _=>ff⟩
 .show IntKind.i64.wrap (q.i 50+1)=_;rw[ek];exact wrap_i64 ah ah
 .rw[abx,hkr,abN]at aC;rcases aaR.1 aC with h | h
  .exact hall row h
  .rw[aal]at h;subst h;exact⟨ah,ah⟩
 .show((rows.length:Int)-IntKind.i64.wrap (q.i 50+1)).toNat<_;rw[ek,wrap_i64 ah ah];omega
structure PS where
 l:List Int
 bad:Bool
def mW (m:Int) (s:PS):PS:=⟨(nC s.l s.bad m).2.1,(nC s.l s.bad m).2.2⟩
def aQ (m:Int) (s:PS):Int:=(nC s.l s.bad m).1
def rz (n:Int) (s:PS):PS:=⟨(ml s.l s.bad n).2.1,(ml s.l s.bad n).2.2⟩
def cC (n:Int) (s:PS):List Int:=(ml s.l s.bad n).1
def ua (s:PS):PS:=⟨(j9 s.l s.bad).2.1,(j9 s.l s.bad).2.2⟩
def jl (s:PS):Bool:=(j9 s.l s.bad).1
def dy (n:Nat) (l:List Int):List Int:=(List.range n).map fun j=>l.getD j 0
def dr (n:Nat) (l:List Int):(dy n l).length=n:=by unfold dy;simp
def mq (h:l.length=n):dy n l=l:=by
 apply aaL;intro j;unfold dy;rw[aao];by_cases hj:j<n
 .rw[aaE hj,aaP,aak,aab ah];rfl
 .rw[aaq (by simp;omega),aaq ah];rfl
section
variable {s:PS}
def xj (hb:ar s.l) (h:(mW m s).bad=false):s.bad=false/\s.l=aj (aQ m s).toNat++(mW m s).l/\0<=aQ m s/\aQ m s<=m/\aQ m s<18446744073709551616:=by
 unfold mW aQ nC at *;split at h
 .cases h
 .rename_i hc;rw[aan hc];have h1:s.bad=false:=by
   cases hs:s.bad
   .rfl
   .exact absurd (Or.inl hs) hc
  have h2:(c8 s.l).2≠0:=fun e=>hc (Or.inr (Or.inl e));have h3:¬m<((c8 s.l).1:Int):=fun e=>hc (Or.inr (Or.inr e));cases hn:tU s.l with
  | none=>unfold c8 at h2;rw[hn]at h2;exact absurd rfl h2
  | some r =>
   obtain⟨x,k⟩:=r;obtain⟨_,_,h6,h7⟩:=BD hb hn;have e:c8 s.l=(x,k):=by unfold c8;rw[hn];rfl
   rw[e]at h3 ⊢;refine⟨h1,?_,by show(0:Int)<=(x:Int);omega,by show(x:Int)<=m;simp only at h3;omega,by show(x:Int)<_;omega⟩;show s.l=aj ((x:Int)).toNat++s.l.drop k;rw[aaa,<-h6,acK]
def OU {n:Int} (h:(rz n s).bad=false):s.bad=false/\s.l=cC n s++(rz n s).l/\(cC n s).length=n.toNat:=by
 unfold rz cC ml at *;split at h
 .cases h
 .rename_i hc;rw[aan hc];have h1:s.bad=false:=by
   cases hs:s.bad
   .rfl
   .exact absurd (Or.inl hs) hc
  have h2:¬(s.l.length:Int)<n:=fun e=>hc (Or.inr (Or.inr e));exact⟨h1,(acK _ _).symm,by show(s.l.take n.toNat).length=_;rw[aaA];omega⟩
def VT (h:(ua s).bad=false) (hb:ar s.l):s.bad=false/\s.l=cZ (jl s)++(ua s).l:=by
 unfold ua jl j9 at *;split at h
 .cases h
 .rename_i hc;rw[aan hc];have h1:s.bad=false:=by
   cases hs:s.bad
   .rfl
   .exact absurd (Or.inl hs) hc
  have h2:s.l≠[]:=fun e=>hc (Or.inr (Or.inl e));have h3:¬1<s.l.getD 0 0:=fun e=>hc (Or.inr (Or.inr e));refine⟨h1,?_⟩;cases hl:s.l with
  | nil=>exact absurd hl h2
  | cons x t =>
   rw[hl]at h3;have hx:=hb x (by rw[hl];exact aaJ ..);have h3:¬1<x:=h3;show x::t=cZ (decide (x=1))++t;unfold cZ;have:x=0\/x=1:=ah;rcases this with rfl | rfl<;>rfl
def Wt (h1:(z:Int)<=m) (h2:z<18446744073709551616):mW m ⟨aj z++t,false⟩=⟨t,false⟩/\aQ m ⟨aj z++t,false⟩=z:=by
 have e:c8 (aj z++t)=(z,(aj z).length):=by unfold c8;rw[qN h2];rfl
 have hp:=zH z;have hc:¬((false:Bool)=true\/(c8 (aj z++t)).2=0\/m<((c8 (aj z++t)).1:Int)):=by
  rw[e];rintro(x | x | x)
  .cases x
  .simp only at x;omega
  .simp only at x;omega
 unfold mW aQ nC;rw[aan hc,e];refine⟨?_,rfl⟩;show PS.mk ((aj z++t).drop (aj z).length) false=_;rw[List.drop_left]
def SA {n:Int} (h:(l.length:Int)=n):rz n ⟨l++t,false⟩=⟨t,false⟩/\cC n ⟨l++t,false⟩=l:=by
 have hc:¬((false:Bool)=true\/n<0\/((l++t).length:Int)<n):=by
  rw[aac];rintro(x | x | x)
  .cases x
  .omega
  .omega
 have hn:n.toNat=l.length:=ah;unfold rz cC ml;rw[aan hc,hn];refine⟨?_,?_⟩
 .show PS.mk ((l++t).drop l.length) false=_;rw[List.drop_left]
 .show(l++t).take l.length=_;rw[acs]
def Tx {b:Bool} : ua ⟨cZ b++t,false⟩=⟨t,false⟩/\jl ⟨cZ b++t,false⟩=b:=by
 cases b
 .exact⟨rfl,rfl⟩
 .exact⟨rfl,rfl⟩
def cX (hb:ar s.l):ar (mW m s).l:=by
 unfold mW nC;split
 .exact hb
 .exact gL hb _
def oK {n:Int} (hb:ar s.l):ar (rz n s).l:=by
 unfold rz ml;split
 .exact hb
 .exact gL hb _
def CJ (hb:ar s.l):ar (ua s).l:=by
 unfold ua j9;split
 .exact hb
 .exact gL hb _
def ri (hm:0<=m):0<=aQ m s/\aQ m s<=m:=by
 unfold aQ nC;split
 .exact⟨aap _,hm⟩
 .rename_i hc;have h3:¬m<((c8 s.l).1:Int):=fun e=>hc (Or.inr (Or.inr e));exact⟨by show(0:Int)<=((c8 s.l).1:Int);omega,by show((c8 s.l).1:Int)<=m;omega⟩
def uH {n:Int} (hb:ar s.l):ar (cC n s):=by
 unfold cC ml;split
 .exact fun b h=>by cases h
 .exact fun b h=>hb b (abH h)
def zQ (h:ar l):ar (dy n l):=by
 intro b hb;unfold dy at hb;obtain⟨j,_,rfl⟩:=aaQ.1 hb;rw[aak];cases hj:l[j]? with
 | none=>exact⟨aap _,aA⟩
 | some z=>exact h z (aae hj)
end
def fw:Nat->PS->List (List Int)×PS
 | 0,s=>([],s)
 | k+1,s=>((fw k s).1++[dy 16 (cC 16 (fw k s).2)],rz 16 (fw k s).2)
def SH:∀ (k:Nat) (s:PS),(fw k s).2.bad=false->s.bad=false/\s.l=(fw k s).1.flatten++(fw k s).2.l
 | 0,s,h=>⟨h,rfl⟩
 | k+1,s,h=>by
  obtain⟨h1,h2,h3⟩:=OU (s:=(fw k s).2) h;obtain⟨h4,h5⟩:=SH k s h1;refine⟨h4,?_⟩;show s.l=((fw k s).1++[dy 16 (cC 16 (fw k s).2)]).flatten++(rz 16 (fw k s).2).l;rw[mq (n:=16) h3,ab9,abr,abO,aa6,aax,<-h2];exact h5
def PH:∀ (T:List (List Int)) (k:Nat),k<=T.length->(∀ t∈T,t.length=16)->∀ t,fw k ⟨T.flatten++t,false⟩=(T.take k,⟨(T.drop k).flatten++t,false⟩)
 | T,0,_,_,t=>rfl
 | T,k+1,hk,hT,t=>by
  have ih:=PH T k ah hT t;have hx:=aab (show k<T.length by omega);have hl:=hT _ (aae hx);have e:(T.drop k).flatten++t=T[k]++((T.drop (k+1)).flatten++t):=by
   rw[ac8 ah,abr,aax]
  obtain⟨r1,r2⟩:=SA (n:=16) (l:=T[k]) (t:=(T.drop (k+1)).flatten++t) ah;show((fw k _).1++[dy 16 (cC 16 (fw k _).2)],rz 16 (fw k _).2)=_;rw[ih,e,r1,r2,mq hl,abx,hx];rfl
def uA:∀ (k:Nat) (s:PS),(fw k s).1.length=k
 | 0,_=>rfl
 | k+1,s=>by
  show((fw k s).1++[_]).length=_;rw[aac,uA k s];rfl
def xY:∀ (k:Nat) (s:PS),ar s.l->(∀ t∈(fw k s).1,t.length=16/\ar t)/\ar (fw k s).2.l
 | 0,s,h=>⟨fun t ht=>(by cases ht),h⟩
 | k+1,s,h=>by
  obtain⟨h1,h2⟩:=xY k s h;refine⟨fun t ht=>?_,oK h2⟩;rcases aaR.1 ht with ht | ht
  .exact h1 t ht
  .rw[aal]at ht;subst ht;exact⟨dr _ _,zQ (uH h2)⟩
def p0 (b:List Int):PS:=⟨b,false⟩
def p1 (b:List Int):PS:=mW 6 (p0 b)
def p2 (b:List Int):PS:=mW 1048576 (p1 b)
def p3 (b:List Int):PS:=rz 32 (p2 b)
def p4 (b:List Int):PS:=mW 255 (p3 b)
def p5 (b:List Int):PS:=ua (p4 b)
def p6 (b:List Int):PS:=mW 1099511627776 (p5 b)
def p7 (b:List Int):PS:=rz 16 (p6 b)
def p8 (b:List Int):PS:=mW 8 (p7 b)
def hN (b:List Int):Nat:=(aQ 8 (p7 b)).toNat
def hT (b:List Int):List (List Int):=(fw (hN b) (p8 b)).1
def k0 (b:List Int):PS:=(fw (hN b) (p8 b)).2
def k1 (b:List Int):PS:=mW 1048576 (k0 b)
def k2 (b:List Int):PS:=mW 1048576 (k1 b)
def k3 (b:List Int):PS:=mW 1048576 (k2 b)
def k4 (b:List Int):PS:=mW 1048576 (k3 b)
def k5 (b:List Int):PS:=mW 1048576 (k4 b)
def k6 (b:List Int):PS:=mW 1048576 (k5 b)
def rW (b:List Int):PS:=rz 32 (k6 b)
def vg (b:List Int):PS:=mW 2064 (rW b)
def H7 (b:List Int):PS:=rz 32 (vg b)
def fY (b:List Int) (u:Value):List Value :=
 [.int .i64 (aQ 6 (p0 b)),.int .u64 (aQ 1048576 (p1 b))]++aM (dy 32 (cC 32 (p2 b)))++[.int .i64 (aQ 255 (p3 b)),.bool (jl (p4 b)),.int .u64 (aQ 1099511627776 (p5 b))]++aM (dy 16 (cC 16 (p6 b)))++[u] ++
 [.int .u64 (aQ 1048576 (k0 b)),.int .u64 (aQ 1048576 (k1 b)),.int .u64 (aQ 1048576 (k2 b)),.int .u64 (aQ 1048576 (k3 b)),.int .u64 (aQ 1048576 (k4 b)),.int .u64 (aQ 1048576 (k5 b))]++aM (dy 32 (cC 32 (k6 b)))++[.int .i64 (aQ 2064 (rW b))]++aM (dy 32 (cC 32 (vg b)))
def nN {a:Nat} (ha:A.length=a) (hn:B.length=n):aV (A++aM B++C) a n=B:=by
 subst ha hn;apply aaL;intro j;unfold aV;rw[aao];by_cases hj:j<B.length
 .rw[aaE hj,aaP,aab hj];unfold cI aM;rw[aaH (by rw[aac,aaz];omega),aau ah,show A.length+j-A.length=j by omega,aao,aab hj];rfl
 .rw[aaq (by simp;omega),aaq ah];rfl
def lX (b:List Int):Hd:=⟨fY b (.bool false),hT b⟩
section
variable (b:List Int)
def Z7:cI (lX b).c 0=aQ 6 (p0 b):=rfl
def Z8:cI (lX b).c 1=aQ 1048576 (p1 b):=rfl
def Z9:aV (lX b).c 2 32=dy 32 (cC 32 (p2 b)):=by
 have e:(lX b).c=([Value.int .i64 (aQ 6 (p0 b)),.int .u64 (aQ 1048576 (p1 b))])++aM (dy 32 (cC 32 (p2 b)))++([Value.int .i64 (aQ 255 (p3 b)),.bool (jl (p4 b)),.int .u64 (aQ 1099511627776 (p5 b))]++(aM (dy 16 (cC 16 (p6 b)))++([Value.bool false]++([Value.int .u64 (aQ 1048576 (k0 b)),.int .u64 (aQ 1048576 (k1 b)),.int .u64 (aQ 1048576 (k2 b)),.int .u64 (aQ 1048576 (k3 b)),.int .u64 (aQ 1048576 (k4 b)),.int .u64 (aQ 1048576 (k5 b))]++(aM (dy 32 (cC 32 (k6 b)))++([Value.int .i64 (aQ 2064 (rW b))]++(aM (dy 32 (cC 32 (vg b)))))))))):=by
  show fY b (.bool false)=_;unfold fY;simp only[aax,aa6]
 rw[e];exact nN (by simp [dr,aM]) (dr _ _)
def Vo:cI (lX b).c 34=aQ 255 (p3 b):=rfl
def Vp:cB (lX b).c 35=jl (p4 b):=rfl
def Vq:cI (lX b).c 36=aQ 1099511627776 (p5 b):=rfl
def Vr:aV (lX b).c 37 16=dy 16 (cC 16 (p6 b)):=by
 have e:(lX b).c=([Value.int .i64 (aQ 6 (p0 b)),.int .u64 (aQ 1048576 (p1 b))]++aM (dy 32 (cC 32 (p2 b)))++[Value.int .i64 (aQ 255 (p3 b)),.bool (jl (p4 b)),.int .u64 (aQ 1099511627776 (p5 b))])++aM (dy 16 (cC 16 (p6 b)))++([Value.bool false]++([Value.int .u64 (aQ 1048576 (k0 b)),.int .u64 (aQ 1048576 (k1 b)),.int .u64 (aQ 1048576 (k2 b)),.int .u64 (aQ 1048576 (k3 b)),.int .u64 (aQ 1048576 (k4 b)),.int .u64 (aQ 1048576 (k5 b))]++(aM (dy 32 (cC 32 (k6 b)))++([Value.int .i64 (aQ 2064 (rW b))]++(aM (dy 32 (cC 32 (vg b)))))))):=by
  show fY b (.bool false)=_;unfold fY;simp only[aax,aa6]
 rw[e];exact nN (by simp [dr,aM]) (dr _ _)
def Vs:cI (lX b).c 54=aQ 1048576 (k0 b):=rfl
def Vt:cI (lX b).c 55=aQ 1048576 (k1 b):=rfl
def Vu:cI (lX b).c 56=aQ 1048576 (k2 b):=rfl
def Vv:cI (lX b).c 57=aQ 1048576 (k3 b):=rfl
def Vw:cI (lX b).c 58=aQ 1048576 (k4 b):=rfl
def Vx:cI (lX b).c 59=aQ 1048576 (k5 b):=rfl
def Yj:aV (lX b).c 60 32=dy 32 (cC 32 (k6 b)):=by
 have e:(lX b).c=([Value.int .i64 (aQ 6 (p0 b)),.int .u64 (aQ 1048576 (p1 b))]++aM (dy 32 (cC 32 (p2 b)))++[Value.int .i64 (aQ 255 (p3 b)),.bool (jl (p4 b)),.int .u64 (aQ 1099511627776 (p5 b))]++aM (dy 16 (cC 16 (p6 b)))++[Value.bool false]++[Value.int .u64 (aQ 1048576 (k0 b)),.int .u64 (aQ 1048576 (k1 b)),.int .u64 (aQ 1048576 (k2 b)),.int .u64 (aQ 1048576 (k3 b)),.int .u64 (aQ 1048576 (k4 b)),.int .u64 (aQ 1048576 (k5 b))])++aM (dy 32 (cC 32 (k6 b)))++([Value.int .i64 (aQ 2064 (rW b))]++(aM (dy 32 (cC 32 (vg b))))):=by
  show fY b (.bool false)=_;unfold fY;simp only[aax,aa6]
 rw[e];exact nN (by simp [dr,aM]) (dr _ _)
def Vy:cI (lX b).c 92=aQ 2064 (rW b):=rfl
def Yk:aV (lX b).c 93 32=dy 32 (cC 32 (vg b)):=by
 have e:(lX b).c=([Value.int .i64 (aQ 6 (p0 b)),.int .u64 (aQ 1048576 (p1 b))]++aM (dy 32 (cC 32 (p2 b)))++[Value.int .i64 (aQ 255 (p3 b)),.bool (jl (p4 b)),.int .u64 (aQ 1099511627776 (p5 b))]++aM (dy 16 (cC 16 (p6 b)))++[Value.bool false]++[Value.int .u64 (aQ 1048576 (k0 b)),.int .u64 (aQ 1048576 (k1 b)),.int .u64 (aQ 1048576 (k2 b)),.int .u64 (aQ 1048576 (k3 b)),.int .u64 (aQ 1048576 (k4 b)),.int .u64 (aQ 1048576 (k5 b))]++aM (dy 32 (cC 32 (k6 b)))++[Value.int .i64 (aQ 2064 (rW b))])++aM (dy 32 (cC 32 (vg b)))++([]):=by
  show fY b (.bool false)=_;unfold fY;simp only[aax,aa6]
 rw[e];exact nN (by simp [dr,aM]) (dr _ _)
end
def nR {z:Int} (h0:0<=z) (h1:z<18446744073709551616):bz z=z.toNat:=by unfold bz;rw[mY h0 h1]
def YO {b:List Int} (hb:ar b) (h:(H7 b).bad=false) (hl:(H7 b).l=[]):sZ (lX b)=b:=by
 have b0:ar (p0 b).l:=hb;have b1:ar (p1 b).l:=cX b0;have b2:ar (p2 b).l:=cX b1;have b3:ar (p3 b).l:=oK b2;have b4:ar (p4 b).l:=cX b3;have b5:ar (p5 b).l:=CJ b4;have b6:ar (p6 b).l:=cX b5;have b7:ar (p7 b).l:=oK b6;have b8:ar (p8 b).l:=cX b7;have d0:ar (k0 b).l:=(xY _ _ b8).2;have d1:ar (k1 b).l:=cX d0;have d2:ar (k2 b).l:=cX d1;have d3:ar (k3 b).l:=cX d2;have d4:ar (k4 b).l:=cX d3;have d5:ar (k5 b).l:=cX d4;have d6:ar (k6 b).l:=cX d5;have b15:ar (rW b).l:=oK d6;obtain⟨h16,e17,n17⟩:=OU (s:=vg b) (n:=32) h;obtain⟨h15,e16,x16,y16,_⟩:=xj (s:=rW b) (m:=2064) b15 h16;obtain⟨g6,e15,n15⟩:=OU (s:=k6 b) (n:=32) h15;obtain⟨g5,f6,_⟩:=xj (s:=k5 b) (m:=1048576) d5 g6;obtain⟨g4,f5,_⟩:=xj (s:=k4 b) (m:=1048576) d4 g5;obtain⟨g3,f4,_⟩:=xj (s:=k3 b) (m:=1048576) d3 g4;obtain⟨g2,f3,_⟩:=xj (s:=k2 b) (m:=1048576) d2 g3;obtain⟨g1,f2,_⟩:=xj (s:=k1 b) (m:=1048576) d1 g2;obtain⟨g0,f1,_⟩:=xj (s:=k0 b) (m:=1048576) d0 g1;obtain⟨h8,f0⟩:=SH (hN b) (p8 b) g0;obtain⟨h7,e8,x8,y8,_⟩:=xj (s:=p7 b) (m:=8) b7 h8;obtain⟨h6,e7,n7⟩:=OU (s:=p6 b) (n:=16) h7;obtain⟨h5,e6,_⟩:=xj (s:=p5 b) (m:=1099511627776) b5 h6;obtain⟨h4,e5⟩:=VT (s:=p4 b) h5 b4;obtain⟨h3,e4,x4,y4,_⟩:=xj (s:=p3 b) (m:=255) b3 h4;obtain⟨h2,e3,n3⟩:=OU (s:=p2 b) (n:=32) h3;obtain⟨h1,e2,_⟩:=xj (s:=p1 b) (m:=1048576) b1 h2;obtain⟨_,e1,x1,y1,_⟩:=xj (s:=p0 b) (m:=6) b0 h1;have e17:(vg b).l=cC 32 (vg b):=by rw[e17];show _++(H7 b).l=_;rw[hl,aa6]
 have e1:b=_++(p1 b).l:=e1;have e2:(p1 b).l=_++(p2 b).l:=e2;have e3:(p2 b).l=_++(p3 b).l:=e3;have e4:(p3 b).l=_++(p4 b).l:=e4;have e5:(p4 b).l=_++(p5 b).l:=e5;have e6:(p5 b).l=_++(p6 b).l:=e6;have e7:(p6 b).l=_++(p7 b).l:=e7;have e8:(p7 b).l=aj (hN b)++(p8 b).l:=e8;have f0:(p8 b).l=(hT b).flatten++(k0 b).l:=f0;have f1:(k0 b).l=_++(k1 b).l:=f1;have f2:(k1 b).l=_++(k2 b).l:=f2;have f3:(k2 b).l=_++(k3 b).l:=f3;have f4:(k3 b).l=_++(k4 b).l:=f4;have f5:(k4 b).l=_++(k5 b).l:=f5;have f6:(k5 b).l=_++(k6 b).l:=f6;have e15:(k6 b).l=_++(rW b).l:=e15;have e16:(rW b).l=_++(vg b).l:=e16;have hlen:(hT b).length=hN b:=uA _ _;have key:sZ (lX b)=aj (aQ 6 (p0 b)).toNat++(aj (aQ 1048576 (p1 b)).toNat++(cC 32 (p2 b)++(aj (aQ 255 (p3 b)).toNat++(cZ (jl (p4 b))++(aj (aQ 1099511627776 (p5 b)).toNat++(cC 16 (p6 b)++(aj (hN b)++((hT b).flatten++(aj (aQ 1048576 (k0 b)).toNat++(aj (aQ 1048576 (k1 b)).toNat++(aj (aQ 1048576 (k2 b)).toNat++(aj (aQ 1048576 (k3 b)).toNat++(aj (aQ 1048576 (k4 b)).toNat++(aj (aQ 1048576 (k5 b)).toNat++(cC 32 (k6 b)++(aj (aQ 2064 (rW b)).toNat++cC 32 (vg b))))))))))))))))):=by
  unfold sZ kY oX aZ;show _++aj (hT b).length++(hT b).flatten++_++_++_++_++_++_++_++_++_=_;rw[hlen,Z7,Z8,Z9,Vo,Vp,Vq,Vr,Vs,Vt,Vu,Vv,Vw,Vx,Yj,Vy,Yk,nR x1 ah,nR x4 ah,nR x16 ah,mq (n:=32) n3,mq (n:=16) n7,mq (n:=32) n15,mq (n:=32) n17];simp only[aax]
 rw[key,<-e17,<-e16,<-e15,<-f6,<-f5,<-f4,<-f3,<-f2,<-f1,<-f0,<-e8,<-e7,<-e6,<-e5,<-e4,<-e3,<-e2,<-e1]
section
variable {s:PS} {t:List Int}
def pd (hs:s=⟨aj z++t,false⟩) (h1:(z:Int)<=m) (h2:z<18446744073709551616):mW m s=⟨t,false⟩/\aQ m s=z:=by
 subst hs;exact Wt h1 h2
def J2 {n:Int} (hs:s=⟨l++t,false⟩) (h:(l.length:Int)=n):rz n s=⟨t,false⟩/\cC n s=l:=by
 subst hs;exact SA h
def Tz {b:Bool} (hs:s=⟨cZ b++t,false⟩):ua s=⟨t,false⟩/\jl s=b:=by
 subst hs;exact Tx
def U3 {T:List (List Int)} (hs:s=⟨T.flatten++t,false⟩) (hT:∀ x∈T,x.length=16):fw T.length s=(T,⟨t,false⟩):=by
 subst hs;rw[PH T T.length (aaw _) hT,abk,List.drop_length,abO,abw]
end
def KH {b:List Value} (h:aV a i n=aV b i n):sX (cI a) i n↔sX (cI b) i n:=by
 refine vJ fun j hj=>?_;have:=aaD (fun l=>l[j]?) h;unfold aV at this;simpa [aao,aaE hj] using this
def YP {h:Hd} (hx:bM R row h) (hF:h.Form):(H7 (sZ h)).bad=false/\(H7 (sZ h)).l=[]/\(lX (sZ h)).Form:=by
 obtain⟨⟨hw,hs,he,ht,hk,hkn,hp⟩,h8,hso,hpd,hct⟩:=id hF;have u:∀ {k:Nat},ef[k]?=some (.int .u64)->k≠53->0<=cI h.c k:=fun {k} hk h53=>by
  rw[hx.I h53];exact(hx.rng _ (aae (uo hx.ok hk))).1
 have u1:0<=cI h.c 1:=u rfl aA;have u36:0<=cI h.c 36:=u rfl aA;have u54:0<=cI h.c 54:=u rfl aA;have u55:0<=cI h.c 55:=u rfl aA;have u56:0<=cI h.c 56:=u rfl aA;have u57:0<=cI h.c 57:=u rfl aA;have u58:0<=cI h.c 58:=u rfl aA;have u59:0<=cI h.c 59:=u rfl aA;have hsz:80<=cI h.c 92/\cI h.c 92<=2064:=tN hpd;have ht16:∀ t∈h.t,t.length=16:=fun t ht=>(hx.byte.2 t ht).1;generalize hb:sZ h=b;have key:b=aj (cI h.c 0).toNat++(aj (cI h.c 1).toNat++(aV h.c 2 32++(aj (cI h.c 34).toNat++(cZ (cB h.c 35)++(aj (cI h.c 36).toNat++(aV h.c 37 16++(aj h.t.length++(h.t.flatten++(aj (cI h.c 54).toNat++(aj (cI h.c 55).toNat++(aj (cI h.c 56).toNat++(aj (cI h.c 57).toNat++(aj (cI h.c 58).toNat++(aj (cI h.c 59).toNat++(aV h.c 60 32++(aj (cI h.c 92).toNat++(aV h.c 93 32++([])))))))))))))))))):=by
  rw[<-hb];unfold sZ kY oX aZ;rw[nR (z:=cI h.c 0) ah ah,nR (z:=cI h.c 34) ah ah,nR (z:=cI h.c 92) ah ah];simp only[aax,aa6]
 have s0:p0 b=⟨_,false⟩:=aaD (fun l=>PS.mk l false) key;obtain⟨s1,v1⟩:=pd (m:=6) (z:=(cI h.c 0).toNat) s0 ah ah;have s1:p1 b=⟨_,false⟩:=s1;obtain⟨s2,v2⟩:=pd (m:=1048576) (z:=(cI h.c 1).toNat) s1 ah ah;have s2:p2 b=⟨_,false⟩:=s2;obtain⟨s3,v3⟩:=J2 (n:=32) (l:=aV h.c 2 32) s2 (by rw[aJ];rfl);have s3:p3 b=⟨_,false⟩:=s3;obtain⟨s4,v4⟩:=pd (m:=255) (z:=(cI h.c 34).toNat) s3 ah ah;have s4:p4 b=⟨_,false⟩:=s4;obtain⟨s5,v5⟩:=Tz s4;have s5:p5 b=⟨_,false⟩:=s5;obtain⟨s6,v6⟩:=pd (m:=1099511627776) (z:=(cI h.c 36).toNat) s5 ah ah;have s6:p6 b=⟨_,false⟩:=s6;obtain⟨s7,v7⟩:=J2 (n:=16) (l:=aV h.c 37 16) s6 (by rw[aJ];rfl);have s7:p7 b=⟨_,false⟩:=s7;obtain⟨s8,v8⟩:=pd (m:=8) (z:=h.t.length) s7 ah ah;have s8:p8 b=⟨_,false⟩:=s8;have vN:hN b=h.t.length:=by unfold hN;rw[v8];exact aaa _
 have sT:=U3 s8 ht16;rw[<-vN]at sT;have s9:(fw (hN b) (p8 b)).2=⟨_,false⟩:=aaD Prod.snd sT;have vT:hT b=h.t:=aaD Prod.fst sT;have s9:k0 b=⟨_,false⟩:=s9;obtain⟨s10,v10⟩:=pd (m:=1048576) (z:=(cI h.c 54).toNat) s9 ah ah;have s10:k1 b=⟨_,false⟩:=s10;obtain⟨s11,v11⟩:=pd (m:=1048576) (z:=(cI h.c 55).toNat) s10 ah ah;have s11:k2 b=⟨_,false⟩:=s11;obtain⟨s12,v12⟩:=pd (m:=1048576) (z:=(cI h.c 56).toNat) s11 ah ah;have s12:k3 b=⟨_,false⟩:=s12;obtain⟨s13,v13⟩:=pd (m:=1048576) (z:=(cI h.c 57).toNat) s12 ah ah;have s13:k4 b=⟨_,false⟩:=s13;obtain⟨s14,v14⟩:=pd (m:=1048576) (z:=(cI h.c 58).toNat) s13 ah ah;have s14:k5 b=⟨_,false⟩:=s14;obtain⟨s15,v15⟩:=pd (m:=1048576) (z:=(cI h.c 59).toNat) s14 ah ah;have s15:k6 b=⟨_,false⟩:=s15;obtain⟨s16,v16⟩:=J2 (n:=32) (l:=aV h.c 60 32) s15 (by rw[aJ];rfl);have s16:rW b=⟨_,false⟩:=s16;obtain⟨s17,v17⟩:=pd (m:=2064) (z:=(cI h.c 92).toNat) s16 ah ah;have s17:vg b=⟨_,false⟩:=s17;obtain⟨s18,v18⟩:=J2 (n:=32) (l:=aV h.c 93 32) s17 (by rw[aJ];rfl);have s18:H7 b=⟨_,false⟩:=s18;refine⟨aaD PS.bad s18,aaD PS.l s18,?_⟩;have q0:cI (lX b).c 0=cI h.c 0:=(Z7 b).trans (v1.trans ah);have q1:cI (lX b).c 1=cI h.c 1:=(Z8 b).trans (v2.trans ah);have q34:cI (lX b).c 34=cI h.c 34:=(Vo b).trans (v4.trans ah);have q36:cI (lX b).c 36=cI h.c 36:=(Vq b).trans (v6.trans ah);have q54:cI (lX b).c 54=cI h.c 54:=(Vs b).trans (v10.trans ah);have q55:cI (lX b).c 55=cI h.c 55:=(Vt b).trans (v11.trans ah);have q56:cI (lX b).c 56=cI h.c 56:=(Vu b).trans (v12.trans ah);have q57:cI (lX b).c 57=cI h.c 57:=(Vv b).trans (v13.trans ah);have q58:cI (lX b).c 58=cI h.c 58:=(Vw b).trans (v14.trans ah);have q59:cI (lX b).c 59=cI h.c 59:=(Vx b).trans (v15.trans ah);have q92:cI (lX b).c 92=cI h.c 92:=(Vy b).trans (v17.trans ah);have q35:cB (lX b).c 35=cB h.c 35:=(Vp b).trans v5;have qz1:sX (cI (lX b).c) 2 32↔sX (cI h.c) 2 32:=KH ((Z9 b).trans (by rw[show cC 32 (p2 b)=_ from v3];exact mq (aJ _ _ _)));have qz2:sX (cI (lX b).c) 37 16↔sX (cI h.c) 37 16:=KH ((Vr b).trans (by rw[show cC 16 (p6 b)=_ from v7];exact mq (aJ _ _ _)));have qk:cI (lX b).c (54+(cI h.c 0-1).toNat)=cI h.c (54+(cI h.c 0-1).toNat):=by
  have:(cI h.c 0-1).toNat=0\/(cI h.c 0-1).toNat=1\/(cI h.c 0-1).toNat=2\/(cI h.c 0-1).toNat=3\/(cI h.c 0-1).toNat=4\/(cI h.c 0-1).toNat=5:=ah;rcases this with e | e | e | e | e | e<;>rw[e]
  .exact q54
  .exact q55
  .exact q56
  .exact q57
  .exact q58
  .exact q59
 have qt:(lX b).t=h.t:=vT;unfold Hd.Form dt;rw[qt,q35,q0,q1,q34,q36,qk,q54,q55,q56,q57,q58,q59,q92,qz1,qz2];exact⟨⟨hw,hs,he,ht,hk,hkn,hp⟩,h8,hso,hpd,hct⟩
def KZ (a n:Nat) (N:E) (h:Nat) (X Y:E) (old:Nat->E):List CV:=(List.range n).map fun j=>.int .u8 (.ite (.lt (.lit ((a+j:Nat):Int)) (.add (.lit (a:Int)) N)) (.hI h X Y j) (old j))
def Tn (n:Nat) (N:E) (h:Nat) (X Y:E) (old:Nat->E):List CV:=(List.range n).map fun j=>.int .u8 (.ite (.lt (.lit ((j:Nat):Int)) N) (.hI h X Y j) (old j))
def JW:List CV:=([.int .i64 (.wrap .i64 (.var 9)),.int .u64 (.var 11)]++(KZ 2 32 (.ite (.lt (.var 15) (.lit 32)) (.var 15) (.lit 32)) 14 (.var 13) (.var 14) (fun _=>.lit 0))++[.int .i64 (.wrap .i64 (.var 17)),.bool (.bvar 19),.int .u64 (.var 21)]++(KZ 37 16 (.ite (.lt (.var 25) (.lit 16)) (.var 25) (.lit 16)) 24 (.var 23) (.var 24) (fun _=>.lit 0))++[.sl (.lit (-1)) (.lit 0) (.lit 0) (.lit 0),.int .u64 (.lit 0),.int .u64 (.lit 0),.int .u64 (.lit 0),.int .u64 (.lit 0),.int .u64 (.lit 0),.int .u64 (.lit 0)]++List.replicate 32 (CV.int .u8 (.lit 0))++[.int .i64 (.lit 0)]++List.replicate 32 (CV.int .u8 (.lit 0)))
def JX:List CV:=(al 300 ([Ck.int .i64,Ck.int .u64]++List.replicate 32 (Ck.int .u8)++[Ck.int .i64,Ck.bool,Ck.int .u64]++List.replicate 16 (Ck.int .u8))++[.sl (.var 446) (.lit 0) (.add (.var 355) (.lit 1)) (.var 447)]++al 357 (List.replicate 6 (Ck.int .u64)++List.replicate 32 (Ck.int .u8)++[Ck.int .i64]++List.replicate 32 (Ck.int .u8)))
def Dd:List CV:=(al 300 ([Ck.int .i64,Ck.int .u64]++List.replicate 32 (Ck.int .u8)++[Ck.int .i64,Ck.bool,Ck.int .u64]++List.replicate 16 (Ck.int .u8)++[Ck.sl])++[.int .u64 (.var 440),.int .u64 (.var 442),.int .u64 (.var 444),.int .u64 (.var 446),.int .u64 (.var 448),.int .u64 (.var 450)]++(KZ 60 32 (.ite (.lt (.var 454) (.lit 32)) (.var 454) (.lit 32)) 453 (.var 452) (.var 453) (fun j=>.var (363+j)))++[.int .i64 (.wrap .i64 (.var 456))]++(KZ 93 32 (.ite (.lt (.var 460) (.lit 32)) (.var 460) (.lit 32)) 459 (.var 458) (.var 459) (fun j=>.var (396+j))))
def OH:List CV:=([.int .i64 (.lit 0),.int .u64 (.lit 0)]++List.replicate 32 (CV.int .u8 (.lit 0))++[.int .i64 (.lit 0),.bool .ff,.int .u64 (.lit 0)]++List.replicate 16 (CV.int .u8 (.lit 0))++[.sl (.lit (-1)) (.lit 0) (.lit 0) (.lit 0),.int .u64 (.lit 0),.int .u64 (.lit 0),.int .u64 (.lit 0),.int .u64 (.lit 0),.int .u64 (.lit 0),.int .u64 (.lit 0)]++List.replicate 32 (CV.int .u8 (.lit 0))++[.int .i64 (.lit 0)]++List.replicate 32 (CV.int .u8 (.lit 0)))
def qa:List As:=([⟨430,0,.int .i64 (.lit 0)⟩]:List As)++(Sm 29 (al 300 bT) JW)
def qb:List As:=([⟨430,0,.int .i64 (.wrap .u64 (.add (.var 430) (.lit 1)))⟩]:List As)++(Sm 29 (al 300 bT) JX)
def Np:Nd:=(fun a d p b1 m h o u a4 a5 a9 b0=>(fun b c k g i j l n q s z a0 a2 a6=>(fun f r t v w x y a1 a3 a7 a8 b2=>(.ext (.alloc 5) (.ext (.alloc 6) (.and (.pre o) (.ext o (.and (.pre s) (.ext s (.and (.pre b2) (.ext b2 (.and (.pre a8) (.ext a8 (.and (.e (.and (.or (.and (.eq (.var 13) a9) (.eq b0 h)) (.and (.le h (.var 13)) (.and (.le h (.var 14)) (.hby 14 (.var 13) (.var 14) (.ite (.lt b0 m) b0 m))))) (.and (.le h b0) (.le (.add (.lit 2) (.ite (.lt b0 m) b0 m)) (.lit 125))))) (.and (.pre q) (.ext q (.and (.pre z) (.ext z (.and (.pre l) (.ext l (.and (.pre x) (.ext x (.and (.e (.and (.or (.and (.eq (.var 23) a9) (.eq (.var 25) h)) (.and (.le h (.var 23)) (.and (.le h (.var 24)) (.hby 24 (.var 23) (.var 24) a0)))) (.and (.le h (.var 25)) (.le (.add (.lit 37) a0) (.lit 125))))) (.and (.pre n) (.ext n (.and (.inv 0 qa [(431,some 27),(432,none)]) (.havoc 0 0 29 (.and (.imp (.lt (.var 430) (.var 27)) (.ext (.alloc 440) (.and (.pre (.call 3 441 i a2 [])) (.ext (.call 3 441 i a2 []) (.and (.e (.and (.or (.and (.eq (.var 441) a9) (.eq (.var 443) h)) (.and (.le h (.var 441)) (.and (.le h (.var 442)) (.hby 442 (.var 441) (.var 442) k)))) (.and (.le h (.var 443)) (.le k b1)))) (.ext (.alloc 445) (.and (.pre f) (.ext f (.back 0 0 qb [(431,some 441),(432,some 446)]))))))))) (.imp (.not (.lt (.var 430) (.var 27))) (.and (.pre (.call 1 440 b a2 [])) (.ext (.call 1 440 b a2 []) (.and (.pre a7) (.ext a7 (.and (.pre a3) (.ext a3 (.and (.pre a1) (.ext a1 (.and (.pre y) (.ext y (.and (.pre v) (.ext v (.and (.pre t) (.ext t (.and (.e (.and (.or (.and (.eq (.var 452) a9) (.eq a4 h)) (.and (.le h (.var 452)) (.and (.le h (.var 453)) (.hby 453 (.var 452) (.var 453) (.ite (.lt a4 m) a4 m))))) (.and (.le h a4) (.le (.add (.lit 60) (.ite (.lt a4 m) a4 m)) (.lit 125))))) (.and (.pre j) (.ext j (.and (.pre r) (.ext r (.and (.e (.and (.or (.and (.eq (.var 458) a9) (.eq a5 h)) (.and (.le h (.var 458)) (.and (.le h (.var 459)) (.hby 459 (.var 458) (.var 459) (.ite (.lt a5 m) a5 m))))) (.and (.le h a5) (.le (.add (.lit 93) (.ite (.lt a5 m) a5 m)) (.lit 125))))) (.and (.pre a6) (.ext a6 (.and (.imp (.bvar 462) (.and (.pre u) (.ext u (.and (.imp (.not (.bvar 463)) w) (.imp (.bvar 463) (.post c (.tup [.agg Dd,.one (.int .i64 h)]))))))) (.imp (.not (.bvar 462)) w))))))))))))))))))))))))))))))))))))))))))))))))):Nd)) (.app 446 61 16 16 (.sl (.var 353) (.var 354) (.var 355) (.var 356)) (.var 355) (.hp 432 [] [.var 353] []) (.cvs (Tn 16 k 442 (.var 441) (.var 442) (fun _=>.lit 0)) 1)) (.call 3 458 g [.hp 456 [452,450,448,446,444,442,440,431] d []] []) (.call 3 452 g [.hp 450 [448,446,444,442,440,431] d []] []) (.call 1 450 b [.hp 448 [446,444,442,440,431] d []] []) (.post c (.tup [.agg OH,.one (.int .i64 (.lit 2))])) (.call 3 23 i [.hp 21 [19,17,13,11,9,7] d []] []) (.call 1 448 b [.hp 446 [444,442,440,431] d []] []) (.call 1 446 b [.hp 444 [442,440,431] d []] []) (.call 1 444 b [.hp 442 [440,431] d []] []) (.call 1 442 b [.hp 440 [431] d []] []) (.call 3 13 g [.hp 11 [9,7] d []] []) (.call 1 11 b [.hp 9 [7] d []] [])) [.sv a,.sv (.one (.int .u64 (.lit 1048576)))] [.ro 4 [.var 0] false,.dead,.dead,.hp 458 p d [],.hp 14 [] [.var 13] [],.hp 24 [] [.var 23] [],.hp 432 [] [.var 353] [],.hp 453 [] [.var 452] [],.hp 459 [] [.var 458] []] (.ite (.lt (.var 443) b1) (.var 443) b1) [.sv a,.sv (.one (.int .i64 m))] [.sv a,.sv (.one (.int .i64 b1))] (.call 1 456 [.sv a,.sv (.one (.int .u64 (.lit 2064)))] [.hp 452 [450,448,446,444,442,440,431] d []] []) (.call 1 21 [.sv a,.sv (.one (.int .u64 (.lit 1099511627776)))] [.hp 19 [17,13,11,9,7] d []] []) (.call 1 27 [.sv a,.sv (.one (.int .u64 (.lit 8)))] [.hp 23 [21,19,17,13,11,9,7] d []] []) (.call 1 17 [.sv a,.sv (.one (.int .u64 (.lit 255)))] [.hp 13 [11,9,7] d []] []) (.call 1 9 [.sv a,.sv (.one (.int .u64 (.lit 6)))] [.hp 7 [] d []] []) (.call 2 19 [.sv a] [.hp 17 [13,11,9,7] d []] []) (.ite (.lt (.var 25) b1) (.var 25) b1) [.hp 431 [] d []] (.call 4 462 [.sv a] [] [.hp 458 p d []])) (.one (.hptr (.var 7) (.var 8))) [.var 7] [456,452,450,448,446,444,442,440,431] (.lit 16) (.lit 32) (.lit 0) (.call 0 7 [.sv (.one (.sl (.var 0) (.var 1) (.var 2) (.var 3)))] [] [.ro 4 [.var 0] false]) (.call 5 463 [.sv (.agg Dd)] [] [.hp 432 [] [.var 353] []]) (.var 454) (.var 460) (.lit (-1)) (.var 15)
noncomputable def Xr:List Sx.Spec:=[oL,fN,yQ,Ij,wE,gM 117]
def Tu:∀ t∈Xr,t.OK Tryz.prog:=av vl <| av QY <| av Nx <| av Rq <| av Fo <| av nh <| bQ
noncomputable def Ez:aG Tryz.prog Xr 73 where
 Λ:=fun p=>if decide (p.length=14)&&!(p.head?==some 99)then some ⟨0,[(35,TI .u64 (.var 430))],[(2,.bd 6 (al 300 bT) 65),(3,.hp 431 [] [.var 7] []),(6,.hp 432 [] [.var 353] [])],440⟩else none
 args:=[.sv (.one (.sl (.var 0) (.var 1) (.var 2) (.var 3)))]
 mem:=[.ro 4 [.var 0] false]
 nv:=5
def gW:∀ {a b:List Value} {ka kb:List Kd},bg a ka->bg b kb->bg (a++b) (ka++kb)
 | [],_,[],_,_,h=>h
 | _::_,_,_::_,_,h,h'=>⟨h.1,gW h.2 h'⟩
 | [],_,_::_,_,h,_=>False.elim h
 | _::_,_,[],_,h,_=>False.elim h
def nL:∀ {l:List Int} {n:Nat},l.length=n->bg (aM l) (List.replicate n (.int .u8))
 | [],0,_=>trivial
 | _::l,n+1,h=>⟨rfl,nL (l:=l) (by simpa using h)⟩
 | [],_+1,h=>by simp at h
 | _::_,0,h=>by simp at h
def TE:ef=[.int .i64,.int .u64]++List.replicate 32 (.int .u8)++[.int .i64,.bool,.int .u64]++List.replicate 16 (.int .u8)++[.slice]++[.int .u64,.int .u64,.int .u64,.int .u64,.int .u64,.int .u64]++List.replicate 32 (.int .u8)++[.int .i64]++List.replicate 32 (.int .u8):=by kernel_rfl
def NG (b:List Int) (hu:bp (some u) .slice=true):bg (fY b u) ef:=by
 rw[TE];unfold fY;refine gW (gW (gW (gW (gW (gW (gW (gW ⟨rfl,rfl,zzT⟩ (nL (dr _ _))) ⟨rfl,rfl,rfl,zzT⟩) (nL (dr _ _))) ⟨hu,zzT⟩) ⟨rfl,rfl,rfl,rfl,rfl,rfl,zzT⟩) (nL (dr _ _))) ⟨rfl,zzT⟩) (nL (dr _ _))
def xV (h:ar l):∀ v∈aM l,xl v:=by
 intro v hv;obtain⟨z,hz,rfl⟩:=aaQ.1 hv;exact h z hz
def Lf {b:List Int} (hb:ar b) (hu:xl u):∀ v∈fY b u,xl v:=by
 have b0:ar (p0 b).l:=hb;have b1:ar (p1 b).l:=cX b0;have b2:ar (p2 b).l:=cX b1;have b3:ar (p3 b).l:=oK b2;have b4:ar (p4 b).l:=cX b3;have b5:ar (p5 b).l:=CJ b4;have b6:ar (p6 b).l:=cX b5;have b7:ar (p7 b).l:=oK b6;have b8:ar (p8 b).l:=cX b7;have d0:ar (k0 b).l:=(xY _ _ b8).2;have d6:ar (k6 b).l:=cX (cX (cX (cX (cX (cX d0)))));have b16:ar (vg b).l:=cX (oK d6);have U:∀ {m:Int} {s:PS},0<=m->m<=1099511627776->xl (.int .u64 (aQ m s)):=fun {m s} h0 h1=>by
  have:=ri (s:=s) h0;exact⟨this.1,ah⟩
 have I:∀ {m:Int} {s:PS},0<=m->m<=1099511627776->xl (.int .i64 (aQ m s)):=fun {m s} h0 h1=>by
  have:=ri (s:=s) h0;exact⟨ah,ah⟩
 have y1:=xV (zQ (n:=32) (uH (n:=32) b2));have y2:=xV (zQ (n:=16) (uH (n:=16) b6));have y3:=xV (zQ (n:=32) (uH (n:=32) d6));have y4:=xV (zQ (n:=32) (uH (n:=32) b16));intro v hv;unfold fY at hv;simp only[aaR,aar,aaB,abe]at hv;rcases hv with (((((((hv | hv) | hv) | hv) | hv) | hv) | hv) | hv) | hv
 .rcases hv with rfl | rfl
  .exact I ah ah
  .exact U ah ah
 .exact y1 v hv
 .rcases hv with rfl | rfl | rfl
  .exact I ah ah
  .trivial
  .exact U ah ah
 .exact y2 v hv
 .subst hv;exact hu
 .rcases hv with rfl | rfl | rfl | rfl | rfl | rfl<;>exact U ah ah
 .exact y3 v hv
 .subst hv;exact I ah ah
 .exact y4 v hv
def NH (b:List Int):∃ L B:List Value,L.length=53/\∀ u,fY b u=L++u::B:=by
 refine⟨[Value.int .i64 (aQ 6 (p0 b)),.int .u64 (aQ 1048576 (p1 b))]++aM (dy 32 (cC 32 (p2 b)))++[Value.int .i64 (aQ 255 (p3 b)),.bool (jl (p4 b)),.int .u64 (aQ 1099511627776 (p5 b))]++aM (dy 16 (cC 16 (p6 b))),[Value.int .u64 (aQ 1048576 (k0 b)),.int .u64 (aQ 1048576 (k1 b)),.int .u64 (aQ 1048576 (k2 b)),.int .u64 (aQ 1048576 (k3 b)),.int .u64 (aQ 1048576 (k4 b)),.int .u64 (aQ 1048576 (k5 b))]++aM (dy 32 (cC 32 (k6 b)))++[.int .i64 (aQ 2064 (rW b))]++aM (dy 32 (cC 32 (vg b))),by simp [aM,dr],fun u=>?_⟩;unfold fY;simp only[aax,abZ,abw]
def V1 {b:List Int} (hb:ar b) (hu:bp (some u) .slice=true) (hr:xl u) (ht:bj R u pq ((hT b).map aM)):bM R (fY b u) (lX b):=by
 obtain⟨L,B,hl,e⟩:=NH b;have b7:ar (p8 b).l:=cX (oK (cX (CJ (cX (oK (cX (cX (s:=p0 b) hb)))))));refine⟨NG b hu,Lf hb hr,?_,?_,?_,(xY _ _ b7).1⟩
 .show fY b (.bool false)=_;rw[e,e,acQ _ _ ah,hl];rfl
 .have:(fY b u).getD 53 (.bool false)=u:=by
   rw[e,aak,aau ah,hl];rfl
  rw[this];exact ht
 .show(fw (hN b) (p8 b)).1.length<=_;rw[uA];have:=ri (s:=p7 b) (m:=8) ah;unfold hN;omega
def RX:List Value:=[.int .i64 0,.int .u64 0]++List.replicate 32 (.int .u8 0)++[.int .i64 0,.bool false,.int .u64 0]++List.replicate 16 (.int .u8 0)++[.slice none 0 0,.int .u64 0,.int .u64 0,.int .u64 0,.int .u64 0,.int .u64 0,.int .u64 0]++List.replicate 32 (.int .u8 0)++[.int .i64 0]++List.replicate 32 (.int .u8 0)
def zS (b:List Int) (v:Value) (F:Hl):Prop :=
 (∃ row h,v=.tuple #[.agg row.toArray,.int .i64 0]/\bM F row h/\h.Form/\sZ h=b)\/(v=.tuple #[.agg RX.toArray,.int .i64 2]/\∀ R row h,bM R row h->h.Form->sZ h≠b)
def sF:Sx.Spec where
 fn:=73
 own:=[]
 rd:=[0]
 res:=[.agg bT,.one (.int .i64)]
 pre:=fun xs Hs Rs=>∃ u bs R,xs=[u]/\Rs=[R]/\fu R u bs/\ar bs/\bs.length<=1000000
 post:=fun xs Hs Rs v Hs' F=>∃ u bs R,xs=[u]/\Rs=[R]/\fu R u bs/\zS bs v F
def pr0:oL.res=[.one .ptr]:=rfl
def pr1:fN.res=[.one (.int .u64)]:=rfl
def pr2:yQ.res=[.one .bool]:=rfl
def pr3:Ij.res=[.one .sl]:=rfl
def pr4:wE.res=[.one .bool]:=rfl
def pr5 (f:FuncId):(gM f).res=[.one .bool]:=rfl
def pc0 (n:Nat):(aK n [Cp.one .ptr]≠[])=True:=by simp [aK,Cp.roots,Ck.root]
def pc1 (n:Nat):(aK n [Cp.one (.int .u64)]≠[])=False:=by simp [aK,Cp.roots,Ck.root]
def vO (H:Hl) (p:Value) (s:PS):Prop:=gH H p s.l s.bad
def fv (b:List Int) (u:Value):List Value :=
 [.int .i64 (aQ 6 (p0 b)),.int .u64 (aQ 1048576 (p1 b))]++aM (dy 32 (cC 32 (p2 b)))++[.int .i64 (aQ 255 (p3 b)),.bool (jl (p4 b)),.int .u64 (aQ 1099511627776 (p5 b))]++aM (dy 16 (cC 16 (p6 b)))++[u]++List.replicate 6 (.int .u64 0)++List.replicate 32 (.int .u8 0)++[.int .i64 0]++List.replicate 32 (.int .u8 0)
section
variable {q:Env} {n:Nat} {p:Value} {H:Hl} {s:PS} {K:Env->Prop} {A:Env->Hl->Prop}
def xi (h:vO H p s) (k:∀ q',ai n q q'->vO (q'.h n) p (mW m s)->q'.i n=aQ m s->K q') :
 fN.pre [p,.int .u64 m] [H] []/\∀ q',ai n q q'->(∃ F,fN.post [p,.int .u64 m] [H] [] (.int .u64 (q'.i n)) [q'.h n] F/\A q' F)->K q':=by
 refine⟨⟨_,m,H,s.l,s.bad,rfl,rfl,h⟩,fun q' g ⟨F,⟨p',m',H1,bs,bad,H',e1,e2,hO,e3,hO',hv⟩,_⟩=>?_⟩;simp only[aag,Value.int.injEq,aaY,aat]at e1 e2 e3;obtain⟨e1,em⟩:=e1;subst e1 em e2;obtain⟨e4,e5⟩:=h.uniq hO;subst e4 e5;rw[<-e3]at hO';simp only[Value.int.injEq,aaY]at hv;exact k q' g hO' hv
def V7 (h:vO H p s) (k:∀ q',ai n q q'->vO (q'.h n) p (ua s)->q'.b n=jl s->K q') :
 yQ.pre [p] [H] []/\∀ q',ai n q q'->(∃ F,yQ.post [p] [H] [] (.bool (ba q' (.bvar n))) [q'.h n] F/\A q' F)->K q':=by
 refine⟨⟨_,H,s.l,s.bad,rfl,rfl,h⟩,fun q' g ⟨F,⟨p',H1,bs,bad,H',e1,e2,hO,e3,hO',hv⟩,_⟩=>?_⟩;simp only[aag,aat]at e1 e2 e3;subst e1 e2;obtain⟨e4,e5⟩:=h.uniq hO;subst e4 e5;rw[<-e3]at hO';simp only[Value.bool.injEq,br]at hv;exact k q' g hO' hv
structure pE (F:Hl) (x y l c:Int) (raw:List Int):Prop where
 rx:-1<=x
 ry:0<=y
 len:l=raw.length
 rd:(x= -1/\raw=[])\/(0<=x/\∀ j z,raw[j]?=some z->F.cell x.toNat (y.toNat+j)=some (.int .u8 z))
def NP (h:vO H p s) (k:∀ q',ai n q q'->vO (q'.h n) p (rz m s)->pE (q'.h (n+1)) (q'.i n) (q'.i (n+1)) (q'.i (n+2)) (q'.i (n+3)) (cC m s)->K q') :
 Ij.pre [p,.int .i64 m] [H] []/\∀ q',ai n q q'->(∃ F,Ij.post [p,.int .i64 m] [H] [] (.slice (az (q'.i n) (q'.i (n+1))) (q'.i (n+2)).toNat (q'.i (n+3)).toNat) [q'.h n] F/\(True->q'.h (n+1)=F)/\dZ n [.one .sl] q')->K q':=by
 refine⟨⟨_,m,H,s.l,s.bad,rfl,rfl,h⟩,fun q' g ⟨F,⟨p',m',H1,bs,bad,H',e1,e2,hO,e3,hO',hv⟩,hF,hn,_⟩=>?_⟩;simp only[aag,Value.int.injEq,aaY,aat]at e1 e2 e3;obtain⟨e1,em⟩:=e1;subst e1 em e2;obtain⟨e4,e5⟩:=h.uniq hO;subst e4 e5;rw[<-e3]at hO';have hn:-1<=q'.i n/\0<=q'.i (n+1)/\0<=q'.i (n+2)/\0<=q'.i (n+3):=hn;rw[<-hF zzT]at hv;obtain⟨hl,hr⟩:=hv.rd.at hn.1 hn.2.1 hn.2.2.1;exact k q' g hO' ⟨hn.1,hn.2.1,hl,hr⟩
end
def pE.Ou {l:Int} (h:pE F x y l c raw) {a:Int} (hw:0<=w) (ha:a+w<=125):((x= -1/\l=0\/0<=x/\0<=y/\bG F x.toNat y.toNat (if l<w then l else w).toNat=true)/\0<=l/\(a+if l<w then l else w)<=125):=by
 have hl:=h.len;refine⟨h.rd.imp (fun⟨h1,h2⟩=>⟨h1,by rw[hl,h2];rfl⟩) fun⟨h1,h2⟩=>⟨h1,h.ry,?_⟩,ah,by split<;>omega⟩;unfold bG;rw[aaF];intro j hj;have hj:j<(if l<w then l else w).toNat:=aaO.1 hj;have hjr:j<raw.length:=by split at hj<;>omega
 rw[h2 j _ (aab hjr)];rfl
def pE.cell {l:Int} (h:pE F x y l c raw) (hj:j<raw.length):bS (F.cell x.toNat (y.toNat+j))=raw.getD j 0:=by
 rcases h.rd with ⟨_,h2⟩ | ⟨_,h2⟩
 .rw[h2]at hj;cases hj
 .rw[h2 j _ (aab hj),aak,aab hj];rfl
def xC {a:Nat} (ht:pE (q.h h) (q.i m1) (q.i m2) (q.i m3) c raw) (hw:w=(n:Int)) (ho:∀ j,j<n->aB q (old j)=0) :
 (KZ a n (.ite (.lt (.var m3) (.lit w)) (.var m3) (.lit w)) h (.var m1) (.var m2) old).map (CV.ev q)=aM (dy n raw):=by
 subst hw;unfold KZ aM dy;rw[abg,abg];refine aa2 fun j hj=>?_;have hj:=aaO.1 hj;have hl:=ht.len;show Value.int .u8 (aB q (.ite _ _ _))=.int .u8 _
 congr 1
 simp only[cG,mf,aq,bJ,ak];by_cases hr:j<raw.length
 .rw[aav (by split<;>omega),dw];exact ht.cell hr
 .rw[aan (by split<;>omega),ho j hj,aak,aaq ah];rfl
def Qq (ht:pE (q.h h) (q.i m1) (q.i m2) (q.i m3) c raw) (hw:w=(n:Int)) (ho:∀ j,j<n->aB q (old j)=0) :
 (Tn n (.ite (.lt (.var m3) (.lit w)) (.var m3) (.lit w)) h (.var m1) (.var m2) old).map (CV.ev q)=aM (dy n raw):=by
 subst hw;unfold Tn aM dy;rw[abg,abg];refine aa2 fun j hj=>?_;have hj:=aaO.1 hj;have hl:=ht.len;show Value.int .u8 (aB q (.ite _ _ _))=.int .u8 _
 congr 1
 simp only[cG,mf,aq,ak];by_cases hr:j<raw.length
 .rw[aav (by split<;>omega),dw];exact ht.cell hr
 .rw[aan (by split<;>omega),ho j hj,aak,aaq ah];rfl
def N9 (b:List Int) (u v:Value):(fv b u).set 53 v=fv b v:=by
 have e:∀ u,fv b u=([Value.int .i64 (aQ 6 (p0 b)),.int .u64 (aQ 1048576 (p1 b))]++aM (dy 32 (cC 32 (p2 b)))++[Value.int .i64 (aQ 255 (p3 b)),.bool (jl (p4 b)),.int .u64 (aQ 1099511627776 (p5 b))]++aM (dy 16 (cC 16 (p6 b))))++u::(List.replicate 6 (.int .u64 0)++List.replicate 32 (.int .u8 0)++[.int .i64 0]++List.replicate 32 (.int .u8 0)):=by
  intro u;unfold fv;simp only[aax,abZ,abw]
 have hl:([Value.int .i64 (aQ 6 (p0 b)),.int .u64 (aQ 1048576 (p1 b))]++aM (dy 32 (cC 32 (p2 b)))++[Value.int .i64 (aQ 255 (p3 b)),.bool (jl (p4 b)),.int .u64 (aQ 1099511627776 (p5 b))]++aM (dy 16 (cC 16 (p6 b)))).length=53:=by simp [aM,dr]
 rw[e u,e v,acQ _ _ ah,hl];rfl
def pE.Wq {l:Int} (h:pE F x y l c raw) (hw:0<=w) (ha:w<=125):((x= -1/\l=0\/0<=x/\0<=y/\bG F x.toNat y.toNat (if l<w then l else w).toNat=true)/\0<=l/\(if l<w then l else w)<=w):=by
 obtain⟨h1,h2,_⟩:=h.Ou (a:=0) hw ah;exact⟨h1,h2,by split<;>omega⟩
def OG (q:Env):JX.map (CV.ev q)=(aC q 300).set 53 (.slice (az (q.i 446) 0) (q.i 355+1).toNat (q.i 447).toNat):=by kernel_rfl
def RF (q:Env):aV (aC q 300) 60 32=(List.range 32).map fun j=>q.i (363+j):=by kernel_rfl
def Px (q:Env):aV (aC q 300) 93 32=(List.range 32).map fun j=>q.i (396+j):=by kernel_rfl
def pT (b:List Int):List Value:=[Value.int .i64 (aQ 6 (p0 b)),.int .u64 (aQ 1048576 (p1 b))]++aM (dy 32 (cC 32 (p2 b)))++[.int .i64 (aQ 255 (p3 b)),.bool (jl (p4 b)),.int .u64 (aQ 1099511627776 (p5 b))]++aM (dy 16 (cC 16 (p6 b)))
def uV (b:List Int):(pT b).length=53:=by unfold pT;simp [aM,dr]
def Pf {b:List Int} (h:aC q 300=fv b u):∀ j,j<32->q.i (363+j)=0/\q.i (396+j)=0:=by
 have a1:aV (fv b u) 60 32=List.replicate 32 0:=by
  have e:fv b u=(pT b++[u]++List.replicate 6 (.int .u64 0))++aM (List.replicate 32 0)++([.int .i64 0]++List.replicate 32 (.int .u8 0)):=by
   unfold fv pT;simp only[aax];rfl
  rw[e];exact nN (by simp [uV]) aF
 have a2:aV (fv b u) 93 32=List.replicate 32 0:=by
  have e:fv b u=(pT b++[u]++List.replicate 6 (.int .u64 0)++List.replicate 32 (.int .u8 0)++[.int .i64 0])++aM (List.replicate 32 0)++[]:=by
   unfold fv pT;simp only[aax];rfl
  rw[e];exact nN (by simp [uV]) aF
 rw[<-h,RF]at a1;rw[<-h,Px]at a2;intro j hj;have c1:=aaD (fun l=>l[j]?) a1;have c2:=aaD (fun l=>l[j]?) a2;simp only[aao,aaE hj,aaP,abV,aav hj,aai]at c1 c2;exact⟨c1,c2⟩
def Uf (q:Env):(al 300 ([Ck.int .i64,Ck.int .u64]++List.replicate 32 (Ck.int .u8)++[Ck.int .i64,Ck.bool,Ck.int .u64]++List.replicate 16 (Ck.int .u8)++[Ck.sl])).map (CV.ev q)=(aC q 300).take 54:=by kernel_rfl
def Ls (b:List Int) (u:Value):(fv b u).take 54=pT b++[u]:=by
 have e:fv b u=(pT b++[u])++(List.replicate 6 (.int .u64 0)++List.replicate 32 (.int .u8 0)++[.int .i64 0]++List.replicate 32 (.int .u8 0)):=by
  unfold fv pT;simp only[aax]
 have hl:(pT b++[u]).length=54:=by simp [uV]
 rw[e,<-hl,acs]
def RY (q:Env):OH.map (CV.ev q)=RX:=by kernel_rfl
def pE.ag {m m4:Nat} (g:ai m q q') (ht:pE (q.h h) (q.i m1) (q.i m2) (q.i m3) (q.i m4) raw) (h0:h<m) (h1:m1<m) (h2:m2<m) (h3:m3<m) (h4:m4<m):pE (q'.h h) (q'.i m1) (q'.i m2) (q'.i m3) (q'.i m4) raw:=by
 rw[g.h h h0,g.i m1 h1,g.i m2 h2,g.i m3 h3,g.i m4 h4];exact ht
def ER (h:-1<=J.i 53/\0<=J.i 54/\0<=J.i 55/\0<=J.i 56):cD 0 bT J:=⟨zzT,zzT,zzT,zzT,zzT,zzT,zzT,zzT,zzT,zzT,zzT,zzT,zzT,zzT,zzT,zzT,zzT,zzT,zzT,zzT,zzT,zzT,zzT,zzT,zzT,zzT,zzT,zzT,zzT,zzT,zzT,zzT,zzT,zzT,zzT,zzT,zzT,zzT,zzT,zzT,zzT,zzT,zzT,zzT,zzT,zzT,zzT,zzT,zzT,zzT,zzT,zzT,zzT,h,zzT,zzT,zzT,zzT,zzT,zzT,zzT,zzT,zzT,zzT,zzT,zzT,zzT,zzT,zzT,zzT,zzT,zzT,zzT,zzT,zzT,zzT,zzT,zzT,zzT,zzT,zzT,zzT,zzT,zzT,zzT,zzT,zzT,zzT,zzT,zzT,zzT,zzT,zzT,zzT,zzT,zzT,zzT,zzT,zzT,zzT,zzT,zzT,zzT,zzT,zzT,zzT,zzT,zzT,zzT,zzT,zzT,zzT,zzT,zzT,zzT,zzT,zzT,zzT,zzT,zzT,zzT,zzT,zzT,zzT,zzT,zzT⟩
def U9 (hv:v=.tuple #[.agg RX.toArray,.int .i64 2]):∃ ρ2,v=(j8 0 sF.res).ev ρ2/\dZ 0 sF.res ρ2:=by
 subst hv;exact⟨(aY fun k=>if k=53 then -1 else if k=128 then 2 else 0),zzK,ER ⟨aap _,aap _,aap _,aap _⟩,zzT,zzT⟩
def Sd (b:List Int) (x y l c:Int):Env:=⟨fun k=>if k<53 then cI (fY b (.bool false)) k else if k=53 then x else if k=54 then y else if k=55 then l else if k=56 then c else if k<128 then cI (fY b (.bool false)) (k-3)else 0,fun k=>cB (fY b (.bool false)) k,fun _=>.empty,fun _=>.tuple #[],fun _=>Hl.none⟩
def NF (b:List Int) (x y l c:Int):(al 0 bT).map (CV.ev (Sd b x y l c))=fY b (.slice (az x y) l.toNat c.toNat):=by kernel_rfl
open Classical in
def LU:sF.OK Tryz.prog:=by
 refine Spec.aS (Γ:=Xr) Tu ?_;rintro xs Hs Rs hl1 hl2 ⟨u,b,R,rfl,rfl,hRd,hby,hlen⟩;have e0:Hs=[]:=aad.1 hl1;subst e0;obtain⟨x,y,c,rfl,hy,hR⟩:=id hRd;refine⟨Ez,aO [x,y,b.length,c] false [Hl.none,Hl.none,Hl.none,Hl.none,R],fun _ q=>∃ k:Nat,q.i 430=k/\k<=hN b/\vO (q.h 431) (.pointer (az (q.i 7) (q.i 8))) (fw k (p8 b)).2/\aC q 300=fv b (.slice (az (q.i 353) (q.i 354)) (q.i 355).toNat (q.i 356).toNat)/\ -1<=q.i 353/\q.i 354=0/\q.i 355=k/\0<=q.i 356/\sY (q.h 432) 61 pq (.slice (az (q.i 353) 0) (q.i 355).toNat (q.i 356).toNat) ((fw k (p8 b)).1.map aM),fun _ q=>(hN b-q.i 430).toNat,?_,⟨?_,?_,?_,?_⟩,(fun _ h=>nomatch h),?_⟩
 .show [Value.slice (az x y) ((b.length:Int)).toNat ((c:Int)).toNat]=_;rw[aaa,aaa]
 .intro r hr ho;simp [Ez]at hr;subst hr;cases ho
 .intro r hr ho;simp [Ez]at hr;subst hr;exact⟨R,aF,Hl.le_refl _⟩
 .simp [Ez]
 .intro r hr;simp [Ez]at hr;subst hr;trivial
 .refine aG.lit (x:=Np) ?_;generalize hρ:aO [x,y,b.length,c] false [Hl.none,Hl.none,Hl.none,Hl.none,R]=J;have v0:J.i 0=x:=by rw[<-hρ];rfl
  have v1:J.i 1=y:=by rw[<-hρ];rfl
  have v2:J.i 2=b.length:=by rw[<-hρ];rfl
  have v3:J.i 3=c:=by rw[<-hρ];rfl
  have w4:J.h 4=R:=by rw[<-hρ];rfl
  clear hρ;unfold Np;simp only[go_sem,Nat.reduceAdd,Xr,pr0,pr1,pr2,pr3,pr4,pr5,pc0,pc1,UQ,Rr];intro q1 g1 _ q2 g2 _;have G2:ai 5 J q2:=g1.tr g2;rw[G2.i 0,G2.i 1,G2.i 2,G2.i 3,G2.h 4,v0,v1,v2,v3,w4,aaa,aaa];refine⟨⟨_,b,R,rfl,rfl,hRd,hby,hlen⟩,fun q3 g3 ⟨F3,hp3,hF3,_⟩=>?_⟩;have h3:vO (q3.h 7) (.pointer (az (q3.i 7) (q3.i 8))) (p0 b):=by
   obtain⟨u',b',R',e1,e2,hR',hO⟩:=hp3;simp only[aag,aat]at e1 e2;subst e1 e2;rw[hRd.uniq hR',hF3 zzT];exact hO
  refine xi h3 fun q4 g4 h4 v4'=>?_;have h4:vO (q4.h 9) _ (p1 b):=h4;have v4':q4.i 9=aQ 6 (p0 b):=v4';rw[<-g4.i 7,<-g4.i 8]at h4;refine xi h4 fun q5 g5 h5 v5'=>?_;have h5:vO (q5.h 11) _ (p2 b):=h5;have v5':q5.i 11=aQ 1048576 (p1 b):=v5';rw[<-g5.i 7,<-g5.i 8]at h5;rw[<-g5.i 9]at v4';refine NP h5 fun q6 g6 h6 t6=>?_;have h6:vO (q6.h 13) _ (p3 b):=h6;have t6:pE (q6.h 14) (q6.i 13) (q6.i 14) (q6.i 15) (q6.i 16) (cC 32 (p2 b)):=t6;rw[<-g6.i 7,<-g6.i 8]at h6;rw[<-g6.i 9]at v4';rw[<-g6.i 11]at v5';refine⟨t6.Ou ah ah,?_⟩;refine xi h6 fun q7 g7 h7 v7'=>?_;have h7:vO (q7.h 17) _ (p4 b):=h7;have v7':q7.i 17=aQ 255 (p3 b):=v7';rw[<-g7.i 7,<-g7.i 8]at h7;rw[<-g7.i 9]at v4';rw[<-g7.i 11]at v5';have t6:=t6.ag g7 ah ah ah ah ah;refine V7 h7 fun q8 g8 h8 v8'=>?_;have h8:vO (q8.h 19) _ (p5 b):=h8;have v8':q8.b 19=jl (p4 b):=v8';rw[<-g8.i 7,<-g8.i 8]at h8;rw[<-g8.i 9]at v4';rw[<-g8.i 11]at v5';have t6:=t6.ag g8 ah ah ah ah ah;rw[<-g8.i 17]at v7';refine xi h8 fun q9 g9 h9 v9'=>?_;have h9:vO (q9.h 21) _ (p6 b):=h9;have v9':q9.i 21=aQ 1099511627776 (p5 b):=v9';rw[<-g9.i 7,<-g9.i 8]at h9;rw[<-g9.i 9]at v4';rw[<-g9.i 11]at v5';have t6:=t6.ag g9 ah ah ah ah ah;rw[<-g9.i 17]at v7';rw[<-g9.b 19]at v8';refine NP h9 fun q10 g10 h10 t10=>?_;have h10:vO (q10.h 23) _ (p7 b):=h10;have t10:pE (q10.h 24) (q10.i 23) (q10.i 24) (q10.i 25) (q10.i 26) (cC 16 (p6 b)):=t10;rw[<-g10.i 7,<-g10.i 8]at h10;rw[<-g10.i 9]at v4';rw[<-g10.i 11]at v5';have t6:=t6.ag g10 ah ah ah ah ah;rw[<-g10.i 17]at v7';rw[<-g10.b 19]at v8';rw[<-g10.i 21]at v9';refine⟨t10.Ou ah ah,?_⟩;refine xi h10 fun q11 g11 h11 v11'=>?_;have h11:vO (q11.h 27) _ (p8 b):=h11;have v11':q11.i 27=aQ 8 (p7 b):=v11';rw[<-g11.i 7,<-g11.i 8]at h11;rw[<-g11.i 9]at v4';rw[<-g11.i 11]at v5';have t6:=t6.ag g11 ah ah ah ah ah;rw[<-g11.i 17]at v7';rw[<-g11.b 19]at v8';rw[<-g11.i 21]at v9';have t10:=t10.ag g11 ah ah ah ah ah;have wi:∀ {m:Int} {s:PS},0<=m->m<=9223372036854775807->IntKind.i64.wrap (aQ m s)=aQ m s:=fun {m s} h0 h1=>by have:=ri (s:=s) h0;exact IntWalk.i64_in _ ah
  have em:JW.map (CV.ev q11)=fv b (.slice none 0 0):=by
   unfold JW fv;simp only[aaM];rw[xC (w:=32) (n:=32) (old:=fun _=>.lit 0) t6 rfl (fun _ _=>rfl),xC (w:=16) (n:=16) (old:=fun _=>.lit 0) t10 rfl (fun _ _=>rfl)];have e1:List.map (CV.ev q11) [.int .i64 (.wrap .i64 (.var 9)),.int .u64 (.var 11)]=[Value.int .i64 (aQ 6 (p0 b)),.int .u64 (aQ 1048576 (p1 b))]:=by
    show [Value.int .i64 (IntKind.i64.wrap (q11.i 9)),.int .u64 (q11.i 11)]=_;rw[v4',v5',wi ah ah]
   have e2:List.map (CV.ev q11) [.int .i64 (.wrap .i64 (.var 17)),.bool (.bvar 19),.int .u64 (.var 21)]=[Value.int .i64 (aQ 255 (p3 b)),.bool (jl (p4 b)),.int .u64 (aQ 1099511627776 (p5 b))]:=by
    show [Value.int .i64 (IntKind.i64.wrap (q11.i 17)),.bool (q11.b 19),.int .u64 (q11.i 21)]=_;rw[v7',v8',v9',wi ah ah]
   rw[e1,e2];rfl
  have hg:Bg 29 qa [(431,some 27),(432,none)]=true:=by kernel_rfl
  have ag:=se (J:=q11) hg;have est:(SV.agg (al 300 bT)).ev (assign q11 qa [(431,some 27),(432,none)])=(SV.agg JW).ev q11:=qE (n0:=29) hg zzK (fun y hy=>abc _ hy);have x0:(assign q11 qa [(431,some 27),(432,none)]).i 430=0:=by kernel_rfl
  have x1:(assign q11 qa [(431,some 27),(432,none)]).i 353= -1:=by kernel_rfl
  have x2:(assign q11 qa [(431,some 27),(432,none)]).i 354=0:=by kernel_rfl
  have x3:(assign q11 qa [(431,some 27),(432,none)]).i 355=0:=by kernel_rfl
  have x4:(assign q11 qa [(431,some 27),(432,none)]).i 356=0:=by kernel_rfl
  have x5:(assign q11 qa [(431,some 27),(432,none)]).h 431=q11.h 27:=by kernel_rfl
  have x6:(assign q11 qa [(431,some 27),(432,none)]).h 432=Hl.none:=by kernel_rfl
  generalize assign q11 qa [(431,some 27),(432,none)]=qn at ag est x0 x1 x2 x3 x4 x5 x6 ⊢;have est:aC qn 300=fv b (.slice none 0 0):=(aaG (Value.agg.inj est)).trans em;refine⟨⟨0,x0,abi _,?_,?_,ah,x2,x3,ah,?_⟩,fun q g ⟨k,ek,hk,hP,hrw,A0,y354,y355,C0,hO⟩=>?_⟩
  .rw[x5,ag.i 7,ag.i 8];exact h11
  .rw[est,x1,x2,x3,x4];rfl
  .rw[x1,x3,x4,x6];exact sY.nil _ _ _
  have hk8:hN b<=8:=by have:=ri (s:=p7 b) (m:=8) ah;unfold hN;omega
  have v11'':q.i 27=hN b:=by rw[g.i 27,v11'];have:=ri (s:=p7 b) (m:=8) ah;unfold hN;omega
  have hrl:(((fw k (p8 b)).1.map aM).length:Int)=k:=by rw[aaz,uA]
  refine⟨fun hlt q20 g20 _=>?_,fun hge=>?_⟩
  .rw[<-g20.i 7,<-g20.i 8,<-g20.h 431]at hP;refine NP hP fun q21 g21 h21 t21=>?_;have t21:pE (q21.h 442) (q21.i 441) (q21.i 442) (q21.i 443) (q21.i 444) (cC 16 (fw k (p8 b)).2):=t21;refine⟨t21.Wq ah ah,fun q22 g22 _=>?_⟩;have t22:=t21.ag g22 ah ah ah ah ah;have G22:ai 440 q q22:=g20.trans (g21.mono.tr g22);rw[G22.h 432,G22.i 353,G22.i 354,G22.i 355,G22.i 356,y354,Qq (w:=16) (n:=16) (old:=fun _=>.lit 0) t22 rfl (fun _ _=>rfl)];refine⟨⟨⟨_,sY.pre hO ah⟩,ah,by unfold maxLen;omega,ah⟩,fun q23 g23 ⟨A1,C1,happ,_⟩=>?_⟩;have hO2:=sY.app (row:=aM (dy 16 (cC 16 (fw k (p8 b)).2))) hO ah (BS (dr _ _)) happ;have G23:ai 440 q q23:=G22.tr g23;have hg:Bg 29 qb [(431,some 441),(432,some 446)]=true:=by kernel_rfl
   have ag:=se (J:=q23) hg;have est:(SV.agg (al 300 bT)).ev (assign q23 qb [(431,some 441),(432,some 446)])=(SV.agg JX).ev q23:=qE (n0:=29) hg zzK (fun y hy=>abc _ hy);have x0:(assign q23 qb [(431,some 441),(432,some 446)]).i 430=IntKind.u64.wrap (q23.i 430+1):=by kernel_rfl
   have x1:(assign q23 qb [(431,some 441),(432,some 446)]).i 353=q23.i 446:=by kernel_rfl
   have x2:(assign q23 qb [(431,some 441),(432,some 446)]).i 354=0:=by kernel_rfl
   have x3:(assign q23 qb [(431,some 441),(432,some 446)]).i 355=q23.i 355+1:=by kernel_rfl
   have x4:(assign q23 qb [(431,some 441),(432,some 446)]).i 356=q23.i 447:=by kernel_rfl
   have x5:(assign q23 qb [(431,some 441),(432,some 446)]).h 431=q23.h 441:=by kernel_rfl
   have x6:(assign q23 qb [(431,some 441),(432,some 446)]).h 432=q23.h 446:=by kernel_rfl
   generalize assign q23 qb [(431,some 441),(432,some 446)]=qn at ag est x0 x1 x2 x3 x4 x5 x6 ⊢;have est:aC qn 300=JX.map (CV.ev q23):=aaG (Value.agg.inj est);have hr23:aC q23 300=aC q 300:=aaG (Value.agg.inj (fH (n:=300) (ks:=bT) G23 (ab2 zzK)));rw[OG,hr23,hrw,N9]at est;have e430:IntKind.u64.wrap (q23.i 430+1)=((k+1:Nat):Int):=by rw[G23.i 430,ek,mY ah ah];omega
   have e355:q23.i 355+1=((k+1:Nat):Int):=by rw[G23.i 355,y355];omega
   rw[x0,x1,x2,x3,x4,x5,x6,e430,e355];refine⟨⟨k+1,rfl,ah,?_,?_,A1,rfl,rfl,C1,?_⟩,ah⟩
   .rw[ag.i 7,ag.i 8,g23.i 7,g23.i 8,g22.i 7,g22.i 8,g23.h 441,g22.h 441,g21.i 7,g21.i 8];exact h21
   .rw[est,e355]
   .show sY _ _ _ _ (((fw k (p8 b)).1++[dy 16 (cC 16 (fw k (p8 b)).2)]).map aM);rw[aaM,<-e355,G23.i 355];exact hO2
  have hkN:k=hN b:=ah;subst hkN;have hP:vO (q.h 431) (.pointer (az (q.i 7) (q.i 8))) (k0 b):=hP;obtain⟨q30,e30⟩:∃ q30,q30=q:=⟨_,rfl⟩;subst e30;have h30:=hP;have Gt30:ai 440 q30 q30:=ai.refl _ _;refine xi h30 fun q31 g31 h31 v31'=>?_;have h31:vO (q31.h 440) _ (k1 b):=h31;have v31':q31.i 440=aQ 1048576 (k0 b):=v31';have Gt31:ai 440 q30 q31:=Gt30.tr g31;rw[<-g31.i 7,<-g31.i 8]at h31;refine xi h31 fun q32 g32 h32 v32'=>?_;have h32:vO (q32.h 442) _ (k2 b):=h32;have v32':q32.i 442=aQ 1048576 (k1 b):=v32';have Gt32:ai 440 q30 q32:=Gt31.tr g32;rw[<-g32.i 7,<-g32.i 8]at h32;rw[<-g32.i 440]at v31';refine xi h32 fun q33 g33 h33 v33'=>?_;have h33:vO (q33.h 444) _ (k3 b):=h33;have v33':q33.i 444=aQ 1048576 (k2 b):=v33';have Gt33:ai 440 q30 q33:=Gt32.tr g33;rw[<-g33.i 7,<-g33.i 8]at h33;rw[<-g33.i 440]at v31';rw[<-g33.i 442]at v32';refine xi h33 fun q34 g34 h34 v34'=>?_;have h34:vO (q34.h 446) _ (k4 b):=h34;have v34':q34.i 446=aQ 1048576 (k3 b):=v34';have Gt34:ai 440 q30 q34:=Gt33.tr g34;rw[<-g34.i 7,<-g34.i 8]at h34;rw[<-g34.i 440]at v31';rw[<-g34.i 442]at v32';rw[<-g34.i 444]at v33';refine xi h34 fun q35 g35 h35 v35'=>?_;have h35:vO (q35.h 448) _ (k5 b):=h35;have v35':q35.i 448=aQ 1048576 (k4 b):=v35';have Gt35:ai 440 q30 q35:=Gt34.tr g35;rw[<-g35.i 7,<-g35.i 8]at h35;rw[<-g35.i 440]at v31';rw[<-g35.i 442]at v32';rw[<-g35.i 444]at v33';rw[<-g35.i 446]at v34';refine xi h35 fun q36 g36 h36 v36'=>?_;have h36:vO (q36.h 450) _ (k6 b):=h36;have v36':q36.i 450=aQ 1048576 (k5 b):=v36';have Gt36:ai 440 q30 q36:=Gt35.tr g36;rw[<-g36.i 7,<-g36.i 8]at h36;rw[<-g36.i 440]at v31';rw[<-g36.i 442]at v32';rw[<-g36.i 444]at v33';rw[<-g36.i 446]at v34';rw[<-g36.i 448]at v35';refine NP h36 fun q37 g37 h37 t37=>?_;have h37:vO (q37.h 452) _ (rW b):=h37;have t37:pE (q37.h 453) (q37.i 452) (q37.i 453) (q37.i 454) (q37.i 455) (cC 32 (k6 b)):=t37;have Gt37:ai 440 q30 q37:=Gt36.tr g37;rw[<-g37.i 7,<-g37.i 8]at h37;rw[<-g37.i 440]at v31';rw[<-g37.i 442]at v32';rw[<-g37.i 444]at v33';rw[<-g37.i 446]at v34';rw[<-g37.i 448]at v35';rw[<-g37.i 450]at v36';refine⟨t37.Ou ah ah,?_⟩;refine xi h37 fun q38 g38 h38 v38'=>?_;have h38:vO (q38.h 456) _ (vg b):=h38;have v38':q38.i 456=aQ 2064 (rW b):=v38';have Gt38:ai 440 q30 q38:=Gt37.tr g38;rw[<-g38.i 7,<-g38.i 8]at h38;rw[<-g38.i 440]at v31';rw[<-g38.i 442]at v32';rw[<-g38.i 444]at v33';rw[<-g38.i 446]at v34';rw[<-g38.i 448]at v35';rw[<-g38.i 450]at v36';have t37:=t37.ag g38 ah ah ah ah ah;refine NP h38 fun q39 g39 h39 t39=>?_;have h39:vO (q39.h 458) _ (H7 b):=h39;have t39:pE (q39.h 459) (q39.i 458) (q39.i 459) (q39.i 460) (q39.i 461) (cC 32 (vg b)):=t39;have Gt39:ai 440 q30 q39:=Gt38.tr g39;rw[<-g39.i 7,<-g39.i 8]at h39;rw[<-g39.i 440]at v31';rw[<-g39.i 442]at v32';rw[<-g39.i 444]at v33';rw[<-g39.i 446]at v34';rw[<-g39.i 448]at v35';rw[<-g39.i 450]at v36';have t37:=t37.ag g39 ah ah ah ah ah;rw[<-g39.i 456]at v38';refine⟨t39.Ou ah ah,?_⟩;refine⟨⟨_,_,(H7 b).l,(H7 b).bad,rfl,rfl,h39⟩,fun q40 g40 ⟨F,hp,_⟩=>?_⟩;have hov:q40.b 462=(!(H7 b).bad&&decide ((H7 b).l=[])):=by
   obtain⟨p',R',bs',bad',e1,e2,hO',hv⟩:=hp;simp only[aag,aat]at e1 e2;subst e1 e2;obtain⟨e3,e4⟩:=h39.uniq hO';subst e3 e4;simpa [br] using hv
  have Gt40:ai 440 q30 q40:=Gt39.tr g40;rw[<-g40.i 440]at v31';rw[<-g40.i 442]at v32';rw[<-g40.i 444]at v33';rw[<-g40.i 446]at v34';rw[<-g40.i 448]at v35';rw[<-g40.i 450]at v36';have t37:=t37.ag g40 ah ah ah ah ah;rw[<-g40.i 456]at v38';have t39:=t39.ag g40 ah ah ah ah ah;have hr40:aC q40 300=aC q30 300:=aaG (Value.agg.inj (fH (n:=300) (ks:=bT) Gt40 (ab2 zzK)));rw[<-hr40]at hrw;have hz:=Pf hrw;rw[<-Gt40.i 353,<-Gt40.i 354,<-Gt40.i 355,<-Gt40.i 356]at hrw;rw[<-Gt40.i 353]at A0;rw[<-Gt40.i 354]at y354;rw[<-Gt40.i 355]at y355;rw[<-Gt40.i 356]at C0;rw[<-Gt40.h 432,<-Gt40.i 353,<-Gt40.i 355,<-Gt40.i 356]at hO;have efr:Dd.map (CV.ev q40)=fY b (.slice (az (q40.i 353) (q40.i 354)) (q40.i 355).toNat (q40.i 356).toNat):=by
   unfold Dd;simp only[aaM];rw[Uf,hrw,Ls,xC (w:=32) (n:=32) (old:=fun j=>.var (363+j)) t37 rfl (fun j hj=>(hz j hj).1),xC (w:=32) (n:=32) (old:=fun j=>.var (396+j)) t39 rfl (fun j hj=>(hz j hj).2)];have e1:List.map (CV.ev q40) [.int .u64 (.var 440),.int .u64 (.var 442),.int .u64 (.var 444),.int .u64 (.var 446),.int .u64 (.var 448),.int .u64 (.var 450)]=[Value.int .u64 (aQ 1048576 (k0 b)),.int .u64 (aQ 1048576 (k1 b)),.int .u64 (aQ 1048576 (k2 b)),.int .u64 (aQ 1048576 (k3 b)),.int .u64 (aQ 1048576 (k4 b)),.int .u64 (aQ 1048576 (k5 b))]:=by
    show [Value.int .u64 (q40.i 440),.int .u64 (q40.i 442),.int .u64 (q40.i 444),.int .u64 (q40.i 446),.int .u64 (q40.i 448),.int .u64 (q40.i 450)]=_;rw[v31',v32',v33',v34',v35',v36']
   have e2:List.map (CV.ev q40) [.int .i64 (.wrap .i64 (.var 456))]=[Value.int .i64 (aQ 2064 (rW b))]:=by
    show [Value.int .i64 (IntKind.i64.wrap (q40.i 456))]=_;rw[v38',wi ah ah]
   rw[e1,e2];unfold pT fY;simp only[aax]
  have his:bM (q40.h 432) (fY b (.slice (az (q40.i 353) (q40.i 354)) (q40.i 355).toNat (q40.i 356).toNat)) (lX b):=by
   refine V1 hby rfl trivial ?_;rw[y354];exact hO.rd
  have zp:∀ {qq:Env} {mem:Mem},(∀ R row h,bM R row h->h.Form->sZ h≠b)->postOf sF [.slice (az x y) b.length c] [] [R] qq mem (.tup [.agg OH,.one (.int .i64 (.lit 2))]):=by
   intro qq mem hno _;have ev:(TV.tup [SV.agg OH,SV.one (CV.int IntKind.i64 (E.lit 2))]).ev qq=.tuple #[.agg RX.toArray,.int .i64 2]:=by
    show Value.tuple #[.agg (OH.map (CV.ev qq)).toArray,.int .i64 2]=_;rw[RY]
   exact⟨[],[],rfl,rfl,U9 ev,_,b,R,rfl,rfl,hRd,Or.inr ⟨ev,hno⟩⟩
  have no1:¬(q40.b 462=true/\(lX b).Form)->∀ R row h,bM R row h->h.Form->sZ h≠b:=by
   rintro hn R' row' h' hx' hf' rfl;obtain⟨l1,l2,l3⟩:=YP hx' hf';exact hn ⟨by rw[hov,l1,l2];rfl,l3⟩
  rw[efr];refine⟨fun hv=>⟨⟨_,_,_,rfl,rfl,his⟩,fun q41 g41 ⟨F4,hp4,_⟩=>?_⟩,fun hv=>zp (no1 fun hh=>hv hh.1)⟩;have hfv:=lh his hp4;have hfv:q41.b 463=decide (lX b).Form:=by simpa [br] using hfv
  rw[hfv,aaf];refine⟨fun hf=>zp (no1 fun hh=>hf hh.2),fun hf _=>?_⟩;have hbl:sZ (lX b)=b:=by
   rw[hov]at hv;simp only[aah,abh,aaf]at hv;exact YO hby hv.1 hv.2
  have hag:Dd.map (CV.ev q41)=Dd.map (CV.ev q40):=CV.ga g41 Dd zzK;rw[<-g41.i 353,<-g41.i 354,<-g41.i 355,<-g41.i 356]at efr his;rw[<-g41.h 432]at his;have ev:(TV.tup [SV.agg Dd,SV.one (CV.int IntKind.i64 (E.lit 0))]).ev q41=.tuple #[.agg (fY b (.slice (az (q41.i 353) (q41.i 354)) (q41.i 355).toNat (q41.i 356).toNat)).toArray,.int .i64 0]:=by
   show Value.tuple #[.agg (Dd.map (CV.ev q41)).toArray,.int .i64 0]=_;rw[hag,efr]
  refine⟨[],[6],rfl,rfl,⟨Sd b (q41.i 353) (q41.i 354) (q41.i 355) (q41.i 356),?_,ER ⟨by show -1<=q41.i 353;rw[g41.i 353];exact A0,by show 0<=q41.i 354;rw[g41.i 354];omega,by show 0<=q41.i 355;rw[g41.i 355];omega,by show 0<=q41.i 356;rw[g41.i 356];exact C0⟩,zzT,zzT⟩,_,b,R,rfl,rfl,hRd,Or.inl ⟨_,lX b,ev,?_,hf,hbl⟩⟩
  .rw[ev,<-NF];kernel_rfl
  .show bM (cP [q41.h 432]) _ _;rw[aL];exact his
open Go.Proofs.YtomdimlnggpgbaaGreatDoor.D hiding aO aD fN
variable {bad:Bool}{B F H R T:Hl}{most:Int}{l rows:List (List Int)}{K:List Hl}{bs:List Int}{row:List Value}{k x:Nat}{st:Nat->List Pc}{c c':Pc}{p u v:Value}
def D7 (b:List Int) (c:Pc):Prop:=c.h.Form/\sZ c.h=(bf b false 4096).1/\(bf (bf b false 4096).2.1 (bf b false 4096).2.2 4096).2=([],false)/\c.b=(bf (bf b false 4096).2.1 (bf b false 4096).2.2 4096).1/\∃ R R2 row,fP R R2 row c
inductive Ld:List (List Int)->(Nat->List Pc)->Prop
 | nil:Ld [] (fun _=>[])
 | put {l:List (List Int)} {st:Nat->List Pc} {b:List Int} {c:Pc} (h:Ld l st) (hc:D7 b c) (h0:bo st c=0):Ld (l++[b]) (cR st c)
def D7.uniq {b:List Int} (h:D7 b c) (h':D7 b c'):c=c':=by
 obtain⟨h1,h2,_,h4,R,R2,row,hx⟩:=h;obtain⟨k1,k2,_,k4,R',R3,row',kx⟩:=h';have e:=Jv hx.hd kx.hd h1 k1 (h2.trans k2.symm);cases c;cases c';simp only at e h4 k4;rw[e,h4,k4]
def Ld.uniq:∀ {l:List (List Int)} {st st':Nat->List Pc},Ld l st->Ld l st'->st=st':=by
 intro l st st' h
 induction h generalizing st' with
 | nil =>
  intro h';generalize e:([]:List (List Int))=l at h';cases h' with
  | nil=>rfl
  | put _ _ _=>simp at e
 | @put l st b c _ hc _ ih =>
  intro h';generalize e:l++[b]=l2 at h';cases h' with
  | nil=>simp at e
  | @put l' st2 b' c' h2 hc' _ =>
   obtain⟨rfl,e2⟩:=acw e rfl;obtain rfl:b=b':=by simpa using e2
   rw[ih h2,hc.uniq hc']
def Ld.snoc {b:List Int} (h:Ld (l++[b]) st):∃ st0 c,Ld l st0/\D7 b c/\bo st0 c=0/\st=cR st0 c:=by
 generalize e:l++[b]=l2 at h;cases h with
 | nil=>simp at e
 | @put l' st2 b' c' h2 hc' h0 =>
  obtain⟨rfl,e2⟩:=acw e rfl;obtain rfl:b=b':=by simpa using e2
  exact⟨st2,c',h2,hc',h0,rfl⟩
def Ld.init (h:Ld l st):∃ st',Ld (l.take k) st':=by
 induction h with
 | nil=>exact⟨_,by simpa using Ld.nil⟩
 | @put l st b c h hc h0 ih =>
  rcases aa9 k (l.length+1)with hk | hk
  .rw[acb ah];exact ih
  .rw[abP (by simp;omega)];exact⟨_,h.put hc h0⟩
def Ld.len (h:Ld l st):∀ i,(st i).length<=l.length:=by
 induction h with
 | nil=>intro i;exact aaw _
 | @put l st b c h hc h0 ih =>
  intro i;have h1:=uU st c i;have h2:=ih i;rw[aac,aay];omega
def L3 (h:fu R u bs) (hp:oL.post [u] [] [R] v K F):gH F v bs false:=by
 obtain⟨u',bs',R',e1,e2,h',hI⟩:=hp;simp only[aag,aat]at e1 e2;subst e1 e2;rw[h.uniq h'];exact hI
def Cb {K:Hl} (h:gH H p bs bad) (hp:xd.post [p,.int .i64 most] [H] [] v [K] F):gH K p (bf bs bad most).2.1 (bf bs bad most).2.2/\bO F 5 v (bf bs bad most).1:=by
 obtain⟨p',m',H',bs',bad',K',e1,e2,h',e3,hI,hO⟩:=hp;simp only[aag,aat,Value.int.injEq,aaY]at e1 e2 e3;obtain⟨rfl,rfl⟩:=e1;subst e2 e3;obtain⟨rfl,rfl⟩:=h.uniq h';exact⟨hI,hO⟩
def LR (h:gH R p bs bad) (hp:wE.post [p] [] [R] v K F):v=.bool (!bad&&decide (bs=[])):=by
 obtain⟨p',R',bs',bad',e1,e2,h',hv⟩:=hp;simp only[aag,aat]at e1 e2;subst e1 e2;obtain⟨rfl,rfl⟩:=h.uniq h';exact hv
def Ib (h:fu R u bs) (hp:sF.post [u] [] [R] v K F):zS bs v F:=by
 obtain⟨u',bs',R',e1,e2,h',hI⟩:=hp;simp only[aag,aat]at e1 e2;subst e1 e2;rw[h.uniq h'];exact hI
def Ll {K RG:Hl} (h:pw H x st) (hx:fP T B row c) (hp:Bn.post [.pointer (some ⟨x,0,none⟩),.agg row.toArray] [H] [T,B,RG] v [K] F):v=.int .i64 (bo st c)/\pw K x (cR st c):=by
 obtain⟨x',H',st',row',T',B',RG',c',K',e1,e2,e3,i1,i2,e4,hv,hI⟩:=hp;simp only[aag,aat,Value.pointer.injEq,aai,Addr.mk.injEq,Value.agg.injEq]at e1 e2 e3 e4;obtain⟨rfl,e1⟩:=e1;obtain⟨rfl,rfl,rfl⟩:=e3;have e1:=aaG e1;subst e1 e2 e4;obtain rfl:=hx.uniq i2;have est:∀ i,i<6->st i=st' i:=fun i hi=>h.rd.st i1.rd hi;exact⟨by rw[nF est c];exact hv,hI.congr fun i hi=>(tO est c hi).symm⟩
def wo (h:ar bs):ar (bf bs bad most).1/\(bf bs bad most).1.length<=bs.length:=by
 unfold bf;split
 .exact⟨fun z hz=>(by cases hz),abi _⟩
 .refine⟨fun z hz=>h z (abU (abH hz)),?_⟩;simp only[aaA,aaK];omega
def EW (bs:List Int) (bad:Bool) (most:Int):(bf bs bad most).1.length<=4096:=by
 unfold bf;split
 .exact abi _
 .rename_i hc;have h4:=Int.not_lt.1 fun x=>hc (Or.inr (Or.inr (Or.inr x)));simp only[aaA];omega
def Q7 {h:Hd} {b:List Int} (hh:bM T row h) (hu:fu B u b) (hb:ar b) (hl:b.length<=1000000):fP T B (row++[u]) ⟨h,b⟩:=by
 have h125:row.length=125:=fE hh.ok;obtain⟨x,y,c,rfl,_⟩:=id hu;refine⟨?_,?_,?_,hb,hl⟩
 .have e:pt=ef++[Kd.slice]:=rfl;rw[e];exact kT hh.ok rfl
 .rw[aco h125];exact hh
 .rw[aak,aau ah,h125];exact hu
def bU.b (h:bU F v rows):js F F v rows:=by
 obtain⟨rx,rc,hrx,rfl⟩:=h.rep;obtain⟨us,ho,hr⟩:=id h;have hul:=bU.len ho;refine⟨us,rx,0,rc,by rw[hul],aap _,hul,fun j u hu=>?_,fun j u r hu hrr=>(hr j u r hu hrr).rd⟩;have hj:j<rows.length:=by have:=(aaj.1 hu).1;omega
 have:=aN.cellAt (l:=(rows.length:Int)) (c:=(rc:Int)) (by rw[aaa,aaa];exact ho) hrx hj;exact⟨this.1,by rw[acv,aaI,this.2,hu]⟩
noncomputable def mv:Sx.Spec where
 fn:=27
 own:=[.arg 0]
 rd:=[2000000]
 res:=[.one .ptr,.one (.int .i64)]
 links:=[0]
 pre:=fun xs Hs Rs=>∃ dp H D RG,xs=[dp]/\Hs=[H]/\Rs=[RG]/\aE H dp D/\ar (lV D)/\ar (ij D)/\fz D=0/\(bY D).recs.length<=100000/\(∀ r∈(bY D).recs,r.length<=1000000/\ar r)/\uJ RG 5/\RG.cell 4 0=some yG
 post:=fun xs Hs Rs v Hs' F=>∃ dp H D RG H',xs=[dp]/\Hs=[H]/\Rs=[RG]/\aE H dp D/\Hs'=[H']/\aE H' dp D/\((∃ pv st,v=.tuple #[pv,.int .i64 0]/\Ld (bY D).recs st/\bZ F pv dp (bY D) st)\/((∀ st,¬Ld (bY D).recs st)/\v=.tuple #[.pointer none,.int .i64 2]))
noncomputable def XE:List Sx.Spec:=[sM,B8,EX,oL,xd,wE,sF,Bn,oM]
def UB:∀ t∈XE,t.OK Tryz.prog:=av BZ <| av Gd <| av EY <| av vl <| av Gj <| av Fo <| av LU <| av EZ <| av vo <| bQ
def Zb:oL.res=[.one .ptr]:=rfl
def Zc:xd.res=[.one .sl]:=rfl
def Zd:wE.res=[.one .bool]:=rfl
def Ze:sF.res=[.agg bT,.one (.int .i64)]:=rfl
noncomputable def ui:aG Tryz.prog XE mv.fn where
 Λ:=fun p=>if lp p&&p.head?==some 60 then some ⟨0,[(12,TI .i64 (.var 50))],[(4,.hp 51 [] [.var 10] [])],60⟩else none
 args:=[TP (.var 0) (.lit 0)]
 mem:=[.hp 1 [] [.var 0] [],.ro 2 [.lit 0,.lit 1,.lit 2,.lit 3,.lit 4,.lit 5] false]
 nv:=3
set_option maxRecDepth 20000 in
def Ip:mv.OK Tryz.prog:=by
 refine Spec.aS (Γ:=XE) UB ?_;rintro xs Hs Rs hl1 hl2 ⟨dp,H,D,RG,rfl,rfl,rfl,hD,hlo,hhi,hE,hn,hrec,hK,hEt⟩;obtain⟨da,s,m,es,clock,hdp,hDi⟩:=id hD;refine⟨ui,aO [(da:Int)] false [Hl.none,H,RG],
  fun _ q=>∃ (k x:Nat) (st:Nat->List Pc),q.i 50=k/\k<=(bY D).recs.length/\Value.pointer (az (q.i 10) (q.i 11))=.pointer (some ⟨x,0,none⟩)/\Ld ((bY D).recs.take k) st/\pw (q.h 51) x st,
  fun _ q=>((bY D).recs.length-q.i 50).toNat,?_,⟨?_,?_,?_,?_⟩,(fun _ h=>nomatch h),?_⟩
 .show [Value.pointer (az (da:Int) 0)]=_;rw[gz,hdp]
 .intro r hr ho;simp [ui]at hr;rcases hr with rfl | rfl
  .exact⟨H,aF,Hl.le_refl _⟩
  .cases ho
 .intro r hr ho;simp [ui]at hr;rcases hr with rfl | rfl
  .cases ho
  .exact⟨RG,aF,Hl.le_refl _⟩
 .simp [ui,bD.own]
 .intro r hr;simp [ui]at hr;rcases hr with rfl | rfl<;>trivial
 refine aG.read [bT] [] [] ?_;generalize hρ:aO [(da:Int)] false [Hl.none,H,RG]=J;have V:∀ q:Env,ai 3 J q->q.i 0=da/\q.h 2=RG:=fun q g=>by
  rw[g.i 0,g.h 2,<-hρ];exact⟨rfl,rfl⟩
 have v0:J.i 0=da:=by rw[<-hρ];rfl
 have w1:J.h 1=H:=by rw[<-hρ];rfl
 clear hρ;have ep:Value.pointer (az (da:Int) 0)=dp:=by rw[gz,hdp]
 simp only[go_sem,Nat.reduceAdd,XE,WK,WL,WM,WO,WQ,Zb,Zc,Zd,Ze,Gw,Pj,Zr];have bad:∀ {k:Nat} {st:Nat->List Pc} {r:List Int},Ld ((bY D).recs.take k) st->(bY D).recs[k]?=some r->(∀ c,D7 r c->bo st c≠0)->∀ st',¬Ld (bY D).recs st':=fun {k st r} hL hr hb st' hL'=>by
  obtain⟨st2,h2⟩:=hL'.init (k:=k+1);rw[abx,hr]at h2;obtain⟨st0,c,h0,hc,ha,_⟩:=Ld.snoc h2;rw[h0.uniq hL]at ha;exact hb c hc ha
 have nPre:∀ {R:Hl} {v:Value} {n:Int},pz R v n->oM.pre [v] [] [R,RG]:=fun h=>⟨_,_,RG,_,rfl,rfl,hEt,h⟩;have nRes:∀ {R:Hl} {v w:Value} {n:Int} {K:List Hl} {F:Hl},pz R v n->oM.post [v] [] [R,RG] w K F->w=.int .i64 n:=fun h hp=>by
  obtain⟨e,R',G',e1,e2,hq⟩:=hp;simp only[aag,aat]at e1 e2;obtain⟨rfl,rfl⟩:=e2;subst e1;exact hq _ h
 have met:∀ {v w:Value} {z n:Int} {s:ByteArray},0<=z->v=.iface 164 (.pointer (az z 0))->w=.iface 222 (.agg #[v])->pz (Hl.one z.toNat (.cells #[.string s,.int .i64 n] 168 (0,0))) w n:=fun hz e1 e2=>Or.inr ⟨_,_,by rw[e2,e1,au hz];rfl,Hl.aT _ _⟩;have vi1:∀ {q:Env} {n:Nat} {T:TypeId} {v:Value},q.v n=.iface T v->aB q (.vint n)=1:=fun h=>by rw[tI,h];rfl
 rw[v0,w1,ep];refine⟨⟨dp,H,D,rfl,rfl,hD,hlo,hhi⟩,fun q1 g1 ⟨F1,hp1,hF1,hn1⟩=>?_⟩;obtain⟨pv,hD1,hv,hS,_⟩:=Av hD hp1;simp only[Value.tuple.injEq,aaT,aag,Value.int.injEq,aaY,aat]at hv;obtain⟨rfl,hv⟩:=hv;have h5:q1.i 5=0:=hv.trans hE;have hS:=hS hE;rw[<-hF1 zzT]at hS;have finE:∀ {q:Env} {t:Mem} {n:Nat},q.h 3=q1.h 3->q.i n=2->(∀ st',¬Ld (bY D).recs st')->postOf mv [dp] [H] [RG] q (.hp 3 [1] [.var 0] []::t) (.tup [.one (.hptr (.lit (-1)) (.lit 0)),.one (.int .i64 (.var n))]):=by
  intro q t n h3 h2 hb _;refine⟨[[0]],[],rfl,rfl,⟨(aY fun k=>if k=0 then -1 else if k=1 then 0 else q.i n),rfl,⟨by show(-1:Int)<= -1;omega,aap 0⟩,zzT,zzT⟩,dp,H,D,RG,_,rfl,rfl,rfl,hD,rfl,?_,Or.inr ⟨hb,?_⟩⟩
  .show aE (cP [q.h 3]) _ _;rw[aL,h3];exact hD1
  .show Value.tuple #[Value.pointer (az (-1) 0),Value.int .i64 (q.i n)]=_;rw[h2];rfl
 refine⟨fun hne=>absurd h5 hne,fun _=>⟨⟨_,_,dp,bY D,rfl,rfl,hS.rd,ah,fun r hr=>(hrec r hr).1⟩,fun q2 g2 ⟨F2,hp2,hF2,hn2⟩=>⟨rfl,fun q3 g3 ⟨F3,⟨x,hx,hI⟩,hF3,hn3⟩=>?_⟩⟩⟩;have hR:=B9 hS.rd hp2;rw[<-hF2 zzT]at hR;rw[<-hF3 zzT]at hI;obtain⟨us,rx,ry,rc,hv,hry,hul,hcell,hrd⟩:=hR.b;have nn:0<=q2.i 7/\0<=q2.i 8:=⟨hn2.1.2.1,hn2.1.2.2.1⟩;have h8:q2.i 8=(bY D).recs.length:=by
  simp only[Value.slice.injEq]at hv;have:=hv.2.1;omega
 have e38:q3.i 8=(bY D).recs.length:=by rw[g3.i 8,h8]
 refine⟨ah,⟨0,x,fun _=>[],rfl,abi _,hx,by simpa using Ld.nil,hI⟩,fun q4 g4 ⟨k,x',st,ek,hk,hp4,hL,hI4⟩=>?_⟩;have A24:ai 10 q2 q4:=g3.tr g4;have A14:ai 6 q1 q4:=g2.tr A24;have A04:ai 3 J q4:=g1.tr A14;rw[ek,A24.i 8,h8];refine⟨fun hlt=>?_,fun hge=>?_⟩
 .have hkn:k<(bY D).recs.length:=ah;have hkr:(bY D).recs[k]?=some (bY D).recs[k]:=aab hkn;obtain⟨hrl,hrb⟩:=hrec _ (abp hkn);generalize (bY D).recs[k]=r at hkr hrl hrb;have hku:us[k]?=some us[k]:=aab ah;have hru:=hrd k _ _ hku hkr;obtain⟨hrx,hcu⟩:=hcell k _ hku;generalize us[k]=u at hku hru hcu;simp only[Value.slice.injEq]at hv;obtain⟨s1,s2⟩:=oQ hrx hry nn.1 hv.1;have hus:∃ a l c,u=Value.slice a l c:=by obtain⟨a,b,c,e,_⟩:=id hru;exact⟨_,_,_,e⟩
  have cu:∀ q:Env,ai 60 q4 q->(q.h 6).cell (q.i 6).toNat (q.i 7+q.i 50).toNat=some u:=fun q g=>by
   rw[g.h 6,g.i 6,g.i 7,g.i 50,ek,A24.h 6,A24.i 6,A24.i 7,s1,s2,show(ry+(k:Int)).toNat=ry.toNat+k by omega];exact hcu
  have i4:=cu q4 (ai.refl _ _);rw[ek]at i4;rw[i4];refine⟨by rw[A24.i 6,s1];exact hrx,by rw[A24.i 7];exact nn.1,ah,by obtain⟨a,l,c,rfl⟩:=hus;rfl,fun q5 g5 _=>?_⟩;rw[cu q5 g5,iq hus];refine⟨⟨u,r,_,rfl,rfl,?_,hrb,hrl⟩,fun q6 g6 ⟨F6,p6,hF6,hn6⟩=>?_⟩
  .rw[g5.h 6,A24.h 6];exact hru
  have I6:=L3 (by rw[g5.h 6,A24.h 6];exact hru) p6;rw[<-hF6 zzT]at I6;refine⟨⟨_,4096,_,r,false,rfl,rfl,I6,aA⟩,fun q7 g7 ⟨F7,p7,hF7,hn7⟩=>?_⟩;obtain⟨I7,O7⟩:=Cb (K:=q7.h 63) I6 p7;rw[<-hF7 zzT]at O7;obtain⟨tb,tl⟩:=wo (bs:=r) (bad:=false) (most:=4096) hrb;refine⟨⟨_,_,_,rfl,rfl,O7.rd.w,tb,ah⟩,fun q8 g8 ⟨F8,p8,hF8,hn8⟩ q9 g9 _=>?_⟩;have P8:=Ib O7.rd.w p8;rw[<-hF8 aA]at P8;have A79:ai 67 q7 q9:=g8.tr g9;have A69:ai 63 q6 q9:=g7.tr A79;rw[A69.i 61,A69.i 62,A79.h 63];refine⟨⟨_,4096,_,_,_,rfl,rfl,I7,aA⟩,fun q10 g10 ⟨F10,p10,hF10,hn10⟩=>?_⟩;obtain⟨I10,O10⟩:=Cb (K:=q10.h 197) I7 p10;rw[<-hF10 zzT]at O10;have A810:ai 196 q8 q10:=g9.tr g10;have B10:ai 60 q4 q10:=g5.trans (g6.mono.trans (g7.mono.trans (g8.mono.tr A810)));have W:∀ q:Env,ai 60 q4 q->q.h 3=q1.h 3/\q.h 2=RG/\q.h 51=q4.h 51/\Value.pointer (az (q.i 10) (q.i 11))=.pointer (some ⟨x',0,none⟩):=fun q g=>by
   rw[g.h 3,g.h 2,g.h 51,g.i 10,g.i 11,A14.h 3,(V q4 A04).2];exact⟨rfl,rfl,rfl,hp4⟩
  have p61:∀ q:Env,ai 196 q8 q->Value.pointer (az (q.i 61) (q.i 62))=Value.pointer (az (q6.i 61) (q6.i 62)):=fun q g=>by
   rw[g.i 61,g.i 62,g8.i 61,g8.i 62,g7.i 61,g7.i 62]
  have e195:q10.i 195=q8.i 195:=A810.i 195;refine⟨fun h0=>?_,fun hne=>?_⟩
  .have P:∃ h,bM (q8.h 67) ((al 67 bT).map (CV.ev q8)) h/\h.Form/\sZ h=(bf r false 4096).1:=by
    rcases P8 with ⟨row,h,e,hh,hF,hB⟩ | ⟨e,_⟩
    .simp only[Value.tuple.injEq,aaT,aag,Value.agg.injEq,aat]at e;rw[e.1];exact⟨h,hh,hF,hB⟩
    .exfalso;simp only[Value.tuple.injEq,aaT,aag,Value.int.injEq,aaY,aat]at e;have e2:q8.i 195=2:=e.2;omega
   obtain⟨h,hh,hF,hB⟩:=P;rw[p61 q10 A810];refine⟨⟨_,_,_,_,rfl,rfl,I10⟩,fun q11 g11 ⟨F11,p11,_⟩=>?_⟩;have o11:q11.b 201=(!(bf (bf r false 4096).2.1 (bf r false 4096).2.2 4096).2.2&&decide ((bf (bf r false 4096).2.1 (bf r false 4096).2.2 4096).2.1=[])):=Value.bool.inj (LR I10 p11);have B11:ai 60 q4 q11:=B10.tr g11;refine⟨fun hno=>?_,fun hyes=>?_⟩
   .intro q12 g12 n12 q13 g13 p13;refine⟨by rw[vi1 p13];omega,fun q14 g14 p14 q15 g15 _=>?_⟩;have rW:=(g15.v 204).trans p14;have e202:q15.i 202=q12.i 202:=by rw[g15.i 202,g14.i 202,g13.i 202]
    have B15:ai 60 q4 q15:=B11.trans (g12.mono.trans (g13.mono.trans (g14.mono.tr g15)));have hm:=met (s:={data:=#[112,105,101,99,101]}) (n:=2) n12 p13 rW;rw[<-e202]at hm;refine⟨by rw[vi1 rW];omega,fun _=>?_,fun h=>absurd ((vi1 rW).symm.trans h) aA⟩;rw[(W q15 B15).2.1];refine⟨nPre hm,fun q16 g16 ⟨F16,vg,_⟩=>finE (W q16 (B15.tr g16)).1 (by simpa using nRes hm vg) (bad hL hkr fun c hc=>?_)⟩;exfalso;rw[o11,hc.2.2.1]at hno;exact hno rfl
   .have hz:(bf (bf r false 4096).2.1 (bf r false 4096).2.2 4096).2=([],false):=by
     rw[o11]at hyes;simp only[aah,aaf,abh]at hyes;exact Prod.ext hyes.2 hyes.1
    have I7b:=I7.byte;obtain⟨ub,ul⟩:=wo (bs:=(bf r false 4096).2.1) (bad:=(bf r false 4096).2.2) (most:=4096) I7b.1;intro q12 g12 n12;have A812:ai 196 q8 q12:=A810.trans (g11.mono.tr g12);have A1012:ai 201 q10 q12:=g11.tr g12;have B12:ai 60 q4 q12:=B11.tr g12;obtain⟨_,y2,y51,yp⟩:=W q12 B12;have aC:List.map (CV.ev q12) (al 67 bT++[CV.sl (.var 197) (.var 198) (.var 199) (.var 200)])=(al 67 bT).map (CV.ev q8)++[.slice (az (q10.i 197) (q10.i 198)) (q10.i 199).toNat (q10.i 200).toNat]:=by
     have er:(al 67 bT).map (CV.ev q12)=(al 67 bT).map (CV.ev q8):=aaD Array.toList (Value.agg.inj (fH (ks:=bT) (n:=67) A812 aA));rw[aaM,er];show _++[Value.slice (az (q12.i 197) (q12.i 198)) (q12.i 199).toNat (q12.i 200).toNat]=_;rw[A1012.i 197,A1012.i 198,A1012.i 199,A1012.i 200]
    have hx:=Q7 hh O10.rd.w ub (by have:=I7b.2;omega);rw[aC,y51,yp,y2,A812.h 67,A1012.h 198];have hSh:ma st:=fun i _=>by
     have h1:=hL.len i;rw[aaA]at h1;omega
    have hul9:(bf (bf r false 4096).2.1 (bf r false 4096).2.2 4096).1.length<=900000:=by
     have:=EW (bf r false 4096).2.1 (bf r false 4096).2.2 4096;omega
    refine⟨⟨x',_,st,_,_,_,RG,_,rfl,rfl,rfl,hI4,hSh,hx,hul9,hK⟩,fun q13 g13 ⟨F13,p13,_⟩=>?_⟩;obtain⟨hv13,hI13⟩:=Ll (K:=q13.h 203) hI4 hx p13;have hPc:D7 r ⟨h,(bf (bf r false 4096).2.1 (bf r false 4096).2.2 4096).1⟩:=⟨hF,hB,hz,rfl,_,_,_,hx⟩;have e203:q13.i 203=bo st ⟨h,(bf (bf r false 4096).2.1 (bf r false 4096).2.2 4096).1⟩:=by simpa using hv13
    have B13:ai 60 q4 q13:=B12.tr g13;refine⟨fun hne=>?_,fun h0=>?_⟩
    .intro q14 g14 n14 q15 g15 rW;refine⟨by rw[vi1 rW];omega,fun q16 g16 vg=>?_⟩;have e205:q16.i 205=q14.i 205:=by rw[g16.i 205,g15.i 205]
     have B16:ai 60 q4 q16:=B13.trans (g14.mono.trans (g15.mono.tr g16));have hm:=met (s:={data:=#[108,111,97,100]}) (n:=2) n14 rW vg;rw[<-e205]at hm;refine⟨by rw[vi1 vg];omega,fun _=>?_,fun h=>absurd ((vi1 vg).symm.trans h) aA⟩;rw[(W q16 B16).2.1];refine⟨nPre hm,fun q17 g17 ⟨F17,H7,_⟩=>finE (W q17 (B16.tr g17)).1 (by simpa using nRes hm H7) (bad hL hkr fun c hc=>?_)⟩;rw[hc.uniq hPc,<-e203];exact hne
    .have e50:aB q13 (E.wrap .i64 ((E.var 50).add (E.lit 1)))=((k+1:Nat):Int):=by
      rw[bx,bJ,ak,aq,B13.i 50,ek,IntKind.wrap_i64];omega
     refine⟨⟨k+1,x',cR st _,e50,ah,(W q13 B13).2.2.2,?_,hI13⟩,?_⟩
     .rw[abx,hkr];exact hL.put hPc (e203.symm.trans h0)
     .show(((bY D).recs.length:Int)-aB q13 (E.wrap .i64 ((E.var 50).add (E.lit 1)))).toNat<_;rw[e50];omega
  .have P:∀ R row h,bM R row h->h.Form->sZ h≠(bf r false 4096).1:=by
    rcases P8 with ⟨row,h,e,_⟩ | ⟨_,h⟩
    .exfalso;simp only[Value.tuple.injEq,aaT,aag,Value.int.injEq,aaY,aat]at e;have e2:q8.i 195=0:=e.2;omega
    .exact h
   intro q12 g12 n12 q13 g13 p13;refine⟨by rw[vi1 p13];omega,fun q14 g14 p14 q15 g15 _=>?_⟩;have rW:=(g15.v 203).trans p14;have e201:q15.i 201=q12.i 201:=by rw[g15.i 201,g14.i 201,g13.i 201]
   have B15:ai 60 q4 q15:=B10.trans (g12.mono.trans (g13.mono.trans (g14.mono.tr g15)));have hm:=met (s:={data:=#[112,105,101,99,101]}) (n:=2) n12 p13 rW;rw[<-e201]at hm;refine⟨by rw[vi1 rW];omega,fun _=>?_,fun h=>absurd ((vi1 rW).symm.trans h) aA⟩;rw[(W q15 B15).2.1];refine⟨nPre hm,fun q16 g16 ⟨F16,vg,_⟩=>finE (W q16 (B15.tr g16)).1 (by simpa using nRes hm vg) (bad hL hkr fun c hc=>?_)⟩;obtain⟨c1,c2,_,_,R,R2,row,cx⟩:=hc;exact absurd c2 (P _ _ _ cx.hd c1)
 .have hkn:k=(bY D).recs.length:=ah;rw[hkn,abP (aaw _)]at hL;intro q5 g5 p5 hdis;have A15:ai 6 q1 q5:=A14.tr g5;have d1:(Hl.one (q5.i 60).toNat (.cells #[.pointer (az (q5.i 3) (q5.i 4)),.pointer (az (q5.i 10) (q5.i 11))] 125 (0,0))).bP (q5.h 4):=hdis 5 2 _ _ aA rfl rfl rfl;have d2:(Hl.one (q5.i 60).toNat (.cells #[.pointer (az (q5.i 3) (q5.i 4)),.pointer (az (q5.i 10) (q5.i 11))] 125 (0,0))).bP (q5.h 51):=hdis 5 4 _ _ aA rfl rfl rfl;have d3:(q5.h 4).bP (q5.h 51):=hdis 2 4 _ _ aA rfl rfl rfl;have e9:Value.pointer (az (q5.i 10) (q5.i 11))=.pointer (some ⟨x',0,none⟩):=by rw[g5.i 10,g5.i 11];exact hp4
  rw[e9]at d1 d2;refine⟨[[0]],[5,2,4],rfl,rfl,⟨(aY fun k=>if k=0 then q5.i 60 else 0),rfl,⟨by show -1<=q5.i 60;omega,aap 0⟩,zzT,zzT⟩,dp,H,D,RG,_,rfl,rfl,rfl,hD,rfl,?_,Or.inl ⟨_,st,rfl,hL,?_⟩⟩
  .show aE (cP [q5.h 3]) _ _;rw[aL,A15.h 3];exact hD1
  .refine⟨(q5.i 60).toNat,.pointer (az (q5.i 3) (q5.i 4)),x',q5.h 4,q5.h 51,?_,?_,?_,d1,d2,d3,?_⟩
   .show Value.pointer (az (q5.i 60) 0)=_;rw[au p5];rfl
   .rw[A15.i 3,A15.i 4,A15.h 4];exact hS
   .rw[g5.h 51];exact hI4
   .show cP [Hl.one (q5.i 60).toNat (.cells #[.pointer (az (q5.i 3) (q5.i 4)),.pointer (az (q5.i 10) (q5.i 11))] 125 (0,0)),q5.h 4,q5.h 51]=_;rw[e9];rfl
end Go.Proofs.YtomdimlnggpgbaaGreatDoor
namespace Go.Proofs.YtomdimlnggpgbaaGreatDoor.D
open Go Go.Sx
def stays (k:Int) (j:Nat):Bool:=if k<128 then decide ((j:Int)<k)else decide (64-(k-128)<=(j:Int))
def nP (was now:List Int) (k:Int):List Int:=(List.range 64).map fun j=>if stays k j then now.getD j 0 else was.getD j 0
def dq:List Ck:=List.replicate 64 (.int .u8)
def PI (xs:List Value):Value:=match xs with
 | [a,b,.int _ k]=>.agg (aM (nP (fy a) (fy b) k)).toArray
 | _=>.bool false
def W4 (xs:List Value):Prop:=match xs with
 | [_,_,.int _ k]=>0<=k/\k<256
 | _=>False
def Gk:Sx.Spec:=qe 59 [.agg dq,.agg dq,.one (.int .u8)] [.agg dq] W4 PI
def eM:E:=(.ite (.lt (.lit 64) (.wrap .i64 (.rem (.var 128) (.lit 128)))) (.lit 64) (.wrap .i64 (.rem (.var 128) (.lit 128))))
def eD:E:=(.wrap .i64 (.sub (.lit 64) eM))
def eO:E:=(.ite (.eq (.lit 64) eD) (.lit 0) eD)
def SI:List CV:=(List.range 64).map fun(j:Nat)=>.int .u8 (.ite (.lt (.lit (j:Int)) eM) (.var (64+j)) (.var j))
def SJ:List CV:=(List.range 64).map fun(j:Nat)=>.int .u8 (.ite (.and (.le eO (.lit (j:Int))) (.lt (.lit (j:Int)) (.add eO (.sub (.lit 64) eD)))) (.var (64+j)) (.var j))
def PJ:Nd:=(fun a b c=>(.ext (.alloc 129) (.ext (.alloc 130) (.ext (.alloc 131) (.and (.imp c (.and (.e (.le b eM)) (.and (.e (.le eM a)) (.and (.e (.and (.le b eM) (.and (.le b eM) (.le eM a)))) (.post [.dead,.dead,.dead] (.sv (.agg SI))))))) (.imp (.not c) (.and (.e (.le b eD)) (.and (.e (.le eD a)) (.and (.e (.and (.le b eO) (.and (.le b (.sub a eD)) (.and (.le b (.sub a eD)) (.le (.add eO (.sub a eD)) a))))) (.post [.dead,.dead,.dead] (.sv (.agg SJ)))))))))):Nd)) (.lit 64) (.lit 0) (.lt (.var 128) (.lit 128))
def W5:aG Tryz.prog [] 59 where
 Λ:=aD
 args:=(bV 0 [.agg dq,.agg dq,.one (.int .u8)]).map .sv
 mem:=[]
 nv:=129
def uB (a b:List Int) (k:Int):(nP a b k).length=64:=by simp [nP]
set_option maxRecDepth 20000 in
def PK:Gk.OK Tryz.prog:=by
 refine jH (fun t h=>by cases h) W5 rfl rfl rfl (fun q _ _=>?_) (fun q hq hN=>⟨fun _ _=>True,fun _ _=>0,?_⟩)
 .obtain⟨J,_,_,e⟩:=cH dq 0 (aM (nP (fy ((SV.agg (al 0 dq)).ev q)) (fy ((SV.agg (al 64 dq)).ev q)) (q.i 128))) q (gY 64 _ (uB _ _ _));exact⟨J,by show Value.agg _=Value.agg ((al 0 dq).map (CV.ev J)).toArray;rw[e];rfl,cm _ _ _ aA,zzT⟩
 .have hN:0<=q.i 128/\q.i 128<256:=hN;obtain⟨k0,k1⟩:=hN;have eG:PI (tL [.agg dq,.agg dq,.one (.int .u8)] q)=.agg (aM (nP ((List.range 64).map fun j=>q.i j) ((List.range 64).map fun j=>q.i (64+j)) (q.i 128))).toArray:=rfl;simp only[eG];refine aG.lit (x:=PJ) ?_;unfold PJ;simp only[go_sem,Nat.reduceAdd];intro q1 g1 _ q2 g2 _ q3 g3 _;have G:ai 129 q q3:=(g1.tr g2).tr g3;have j128:q3.i 128=q.i 128:=G.i 128;have w0:IntKind.i64.wrap ((q3.i 128).tmod 128)=(q.i 128).tmod 128:=by
   rw[j128];have h1:=adp 128 k0;have h2:=ac5 (q.i 128) (by decide:(0:Int)<128);exact wrap_i64 ah ah
  have m0:0<=(q.i 128).tmod 128:=adp _ k0;have m1:(q.i 128).tmod 128<128:=ac5 _ aA;have m2:(q.i 128).tmod 128=if q.i 128<128 then q.i 128 else q.i 128-128:=by
   rw[abf k0];split<;>omega
  have hM:aB q3 eM=min ((q.i 128).tmod 128) 64:=by
   unfold eM;simp only[cG,bx,tH,ak,aq,od,w0,aaf];split<;>omega
  have hD:aB q3 eD=64-min ((q.i 128).tmod 128) 64:=by
   unfold eD;rw[bx,cQ,aq,hM];exact wrap_i64 ah ah
  have hO:aB q3 eO=if min ((q.i 128).tmod 128) 64=0 then 0 else 64-min ((q.i 128).tmod 128) 64:=by
   unfold eO;simp only[cG,sf,aq,hD,aaf];split<;>split<;>omega
  rw[hM,hD,hO,j128];have out:∀ (l:List CV) (c:Nat->E),l=(List.range 64).map (fun(j:Nat)=>CV.int .u8 (.ite (c j) (.var (64+j)) (.var j)))->(∀ j:Nat,j<64->ba q3 (c j)=stays (q.i 128) j) ->
   (TV.sv (.agg l)).ev q3=.agg (aM (nP ((List.range 64).map fun j=>q.i j) ((List.range 64).map fun j=>q.i (64+j)) (q.i 128))).toArray:=by
   intro l c hl hc;subst hl;show Value.agg (List.map (CV.ev q3) _).toArray=_
   congr 2
   unfold nP aM;rw[abg,abg];refine aa2 fun j hj=>?_;have hj:=aaO.1 hj;show Value.int .u8 (aB q3 (.ite (c j) (.var (64+j)) (.var j)))=Value.int .u8 _;rw[cG,hc j hj,ak,ak,G.i (64+j),G.i j];have e1:((List.range 64).map fun j=>q.i (64+j)).getD j 0=q.i (64+j):=by rw[aak,aao,aaE hj];rfl
   have e2:((List.range 64).map fun j=>q.i j).getD j 0=q.i j:=by rw[aak,aao,aaE hj];rfl
   show _=Value.int .u8 (if stays (q.i 128) j=true then((List.range 64).map fun j=>q.i (64+j)).getD j 0 else((List.range 64).map fun j=>q.i j).getD j 0);rw[e1,e2]
  refine⟨fun hlt=>⟨ah,ah,⟨ah,ah,ah⟩,out SI (fun j=>.lt (.lit (j:Int)) eM) rfl fun j hj=>?_⟩,fun hge=>⟨ah,ah,⟨by split<;>omega,ah,ah,by split<;>omega⟩,out SJ (fun j=>.and (.le eO (.lit (j:Int))) (.lt (.lit (j:Int)) (.add eO (.sub (.lit 64) eD)))) rfl fun j hj=>?_⟩⟩
  .rw[od,aq,hM];unfold stays;rw[aav hlt];rw[aav hlt]at m2
   congr 1
   exact propext ⟨fun h=>ah,fun h=>ah⟩
  .rw[oc,j7,od,aq,bJ,cQ,aq,hD,hO];unfold stays;rw[aan hge];rw[aan hge]at m2;rw[<-Bool.decide_and]
   congr 1
   refine propext ⟨fun h=>?_,fun h=>?_⟩
   .split at h<;>omega
   .split<;>omega
end Go.Proofs.YtomdimlnggpgbaaGreatDoor.D
namespace Go.Proofs.YtomdimlnggpgbaaGreatDoor.D
open Go.Shelf
def Br:Go.Shelf.Ren:=⟨fun | 7=>58 | 10=>95 | n=>n,fun | 23=>91 | 26=>3 | 3=>119 | 28=>116 | 0=>0 | 27=>115 | 33=>160 | 4=>4 | n=>n,fun | n=>n⟩
def Wf:Go.Proofs.SlLaysZI.n7 Tryz.prog Br:={
 mixed:=by kernel_rfl
 f7:=⟨Tryz.f58.name,Sx.aA,Tryz.func58.trans (aaD some (by kernel_rfl))⟩
 f10:=⟨Tryz.f95.name,Sx.aA,Tryz.func95.trans (aaD some (by kernel_rfl))⟩
 t0:=Tryz.underlying0
 a0:=Tryz.isAgg0
 z0:=Tryz.sizeOf0
 v0:=Tryz.zeroValue0
 t4:=Tryz.underlying4
 a4:=Tryz.isAgg4
 z4:=Tryz.sizeOf4
 v4:=Tryz.zeroValue4
 t23:=Tryz.underlying91
 a23:=Tryz.isAgg91
 z23:=Tryz.sizeOf91
 v23:=Tryz.zeroValue91
 t26:=Tryz.underlying3
 a26:=Tryz.isAgg3
 z26:=Tryz.sizeOf3
 v26:=Tryz.zeroValue3
 t27:=Tryz.underlying115
 a27:=Tryz.isAgg115
 z27:=Tryz.sizeOf115
 v27:=Tryz.zeroValue115
 t28:=Tryz.underlying116
 a28:=Tryz.isAgg116
 z28:=Tryz.sizeOf116
 v28:=Tryz.zeroValue116
 t33:=Tryz.underlying160
 a33:=Tryz.isAgg160
 z33:=Tryz.sizeOf160
 v33:=Tryz.zeroValue160}
def wV:Go.Shelf.Ren:=⟨fun | 6=>57 | 8=>93 | 9=>94 | 11=>133 | 13=>135 | 12=>134 | 23=>170 | 24=>171 | 14=>161 | 15=>162 | 16=>163 | 17=>164 | 18=>165 | 19=>166 | 20=>167 | 21=>168 | 22=>169 | 25=>187 | 26=>188 | 27=>189 | 28=>190 | 29=>191 | 30=>192 | 31=>203 | n=>n,fun | 26=>3 | 28=>116 | 24=>113 | 0=>0 | 3=>3 | 37=>201 | 48=>170 | 50=>32 | 4=>4 | 40=>257 | 39=>256 | 45=>35 | 5=>5 | 9=>9 | 51=>280 | 55=>283 | 57=>293 | 58=>294 | 33=>160 | n=>n,fun | n=>n⟩
def RN:Go.Proofs.SlLaysZI.n6 Tryz.prog wV:={
 mixed:=by kernel_rfl
 f6:=⟨Tryz.f57.name,Sx.aA,Tryz.func57.trans (aaD some (by kernel_rfl))⟩
 f8:=⟨Tryz.f93.name,Sx.aA,Tryz.func93.trans (aaD some (by kernel_rfl))⟩
 f11:=⟨Tryz.f133.name,Sx.aA,Tryz.func133.trans (aaD some (by kernel_rfl))⟩
 t0:=Tryz.underlying0
 a0:=Tryz.isAgg0
 z0:=Tryz.sizeOf0
 v0:=Tryz.zeroValue0
 t24:=Tryz.underlying113
 a24:=Tryz.isAgg113
 z24:=Tryz.sizeOf113
 v24:=Tryz.zeroValue113
 t26:=Tryz.underlying3
 a26:=Tryz.isAgg3
 z26:=Tryz.sizeOf3
 v26:=Tryz.zeroValue3
 t28:=Tryz.underlying116
 a28:=Tryz.isAgg116
 z28:=Tryz.sizeOf116
 v28:=Tryz.zeroValue116
 i26:=by kernel_rfl}
def Mu:Go.Shelf.Ren:=⟨fun | 5=>94 | 8=>135 | 7=>134 | 19=>170 | 20=>171 | 10=>161 | 11=>162 | 12=>163 | 13=>164 | 14=>165 | 15=>166 | 16=>167 | 17=>168 | 18=>169 | 30=>187 | 31=>188 | 32=>189 | 33=>190 | 34=>191 | 35=>192 | 40=>203 | n=>n,fun | 23=>113 | 25=>3 | 3=>3 | 32=>201 | 22=>113 | 0=>0 | 44=>170 | 46=>32 | 4=>4 | 36=>257 | 35=>256 | 41=>35 | 5=>5 | 9=>9 | 53=>280 | 57=>283 | 63=>293 | 64=>294 | n=>n,fun | n=>n⟩
def SE:Go.Proofs.SlLaysM.n5 Tryz.prog Mu:={
 mixed:=by kernel_rfl
 f5:=⟨Tryz.f94.name,Sx.aA,Tryz.func94.trans (aaD some (by kernel_rfl))⟩
 f7:=⟨Tryz.f134.name,Sx.aA,Tryz.func134.trans (aaD some (by kernel_rfl))⟩
 f8:=Tryz.func135.trans (aaD some (by kernel_rfl))
 f10:=⟨Tryz.f161.name,Sx.aA,Tryz.func161.trans (aaD some (by kernel_rfl))⟩
 f11:=⟨Tryz.f162.name,Sx.aA,Tryz.func162.trans (aaD some (by kernel_rfl))⟩
 f12:=⟨Tryz.f163.name,Sx.aA,Tryz.func163.trans (aaD some (by kernel_rfl))⟩
 f13:=⟨Tryz.f164.name,Sx.aA,Tryz.func164.trans (aaD some (by kernel_rfl))⟩
 f14:=⟨Tryz.f165.name,Sx.aA,Tryz.func165.trans (aaD some (by kernel_rfl))⟩
 f15:=⟨Tryz.f166.name,Sx.aA,Tryz.func166.trans (aaD some (by kernel_rfl))⟩
 f16:=⟨Tryz.f167.name,Sx.aA,Tryz.func167.trans (aaD some (by kernel_rfl))⟩
 f17:=⟨Tryz.f168.name,Sx.aA,Tryz.func168.trans (aaD some (by kernel_rfl))⟩
 f18:=⟨Tryz.f169.name,Sx.aA,Tryz.func169.trans (aaD some (by kernel_rfl))⟩
 f19:=Tryz.func170.trans (aaD some (by kernel_rfl))
 f20:=Tryz.func171.trans (aaD some (by kernel_rfl))
 f30:=⟨Tryz.f187.name,Sx.aA,Tryz.func187.trans (aaD some (by kernel_rfl))⟩
 f31:=Tryz.func188.trans (aaD some (by kernel_rfl))
 f32:=Tryz.func189.trans (aaD some (by kernel_rfl))
 f33:=⟨Tryz.f190.name,Sx.aA,Tryz.func190.trans (aaD some (by kernel_rfl))⟩
 f34:=⟨Tryz.f191.name,Sx.aA,Tryz.func191.trans (aaD some (by kernel_rfl))⟩
 f35:=⟨Tryz.f192.name,Sx.aA,Tryz.func192.trans (aaD some (by kernel_rfl))⟩
 f40:=⟨Tryz.f203.name,Sx.aA,Tryz.func203.trans (aaD some (by kernel_rfl))⟩
 t0:=Tryz.underlying0
 a0:=Tryz.isAgg0
 z0:=Tryz.sizeOf0
 v0:=Tryz.zeroValue0
 t3:=Tryz.underlying3
 a3:=Tryz.isAgg3
 z3:=Tryz.sizeOf3
 v3:=Tryz.zeroValue3
 t4:=Tryz.underlying4
 a4:=Tryz.isAgg4
 z4:=Tryz.sizeOf4
 v4:=Tryz.zeroValue4
 t5:=Tryz.underlying5
 a5:=Tryz.isAgg5
 z5:=Tryz.sizeOf5
 v5:=Tryz.zeroValue5
 t9:=Tryz.underlying9
 a9:=Tryz.isAgg9
 z9:=Tryz.sizeOf9
 v9:=Tryz.zeroValue9
 t22:=Tryz.underlying113
 a22:=Tryz.isAgg113
 z22:=Tryz.sizeOf113
 v22:=Tryz.zeroValue113
 t23:=Tryz.underlying113
 a23:=Tryz.isAgg113
 z23:=Tryz.sizeOf113
 v23:=Tryz.zeroValue113
 t25:=Tryz.underlying3
 a25:=Tryz.isAgg3
 z25:=Tryz.sizeOf3
 v25:=Tryz.zeroValue3
 t32:=Tryz.underlying201
 a32:=Tryz.isAgg201
 z32:=Tryz.sizeOf201
 v32:=Tryz.zeroValue201
 t35:=Tryz.underlying256
 a35:=Tryz.isAgg256
 z35:=Tryz.sizeOf256
 v35:=Tryz.zeroValue256
 t36:=Tryz.underlying257
 a36:=Tryz.isAgg257
 z36:=Tryz.sizeOf257
 v36:=Tryz.zeroValue257
 t41:=Tryz.underlying35
 a41:=Tryz.isAgg35
 z41:=Tryz.sizeOf35
 v41:=Tryz.zeroValue35
 t44:=Tryz.underlying170
 a44:=Tryz.isAgg170
 z44:=Tryz.sizeOf170
 v44:=Tryz.zeroValue170
 t46:=Tryz.underlying32
 a46:=Tryz.isAgg32
 z46:=Tryz.sizeOf32
 v46:=Tryz.zeroValue32
 t53:=Tryz.underlying280
 a53:=Tryz.isAgg280
 z53:=Tryz.sizeOf280
 v53:=Tryz.zeroValue280
 t57:=Tryz.underlying283
 a57:=Tryz.isAgg283
 z57:=Tryz.sizeOf283
 v57:=Tryz.zeroValue283
 t63:=Tryz.underlying293
 a63:=Tryz.isAgg293
 z63:=Tryz.sizeOf293
 v63:=Tryz.zeroValue293
 t64:=Tryz.underlying294
 a64:=Tryz.isAgg294
 z64:=Tryz.sizeOf294
 v64:=Tryz.zeroValue294}
end Go.Proofs.YtomdimlnggpgbaaGreatDoor.D
namespace Go.Proofs.YtomdimlnggpgbaaGreatDoor.D
open Go Go.Sx Go.RowKit Go.Maps Go.Sort Go.Shelf
variable {es:Array MapEntry}{l:List (Int×Value)}
abbrev Jq:FuncId:=57
abbrev uO:FuncId:=95
def UU (m:Nat):AnyZI.SortsIn Tryz.prog wV Fence.wide m :=
 ⟨fun bd off cap ss W hH hblk hsz=>callsIn_wide.2 (AnyM.slices_Sort_int SE bd off cap ss W hH hblk hsz),
  fun p cap W=>callsIn_wide.2 (AnyM.slices_Sort_int_none SE p cap W)⟩
def pg (l:List Int):List Int:=l.mergeSort (fun x y=>decide (x<=y))
def IC {a b:List Int} (h:a.Perm b):pg a=pg b:=by
 unfold pg;have tr:∀ (a b c:Int),decide (a<=b)=true->decide (b<=c)=true->decide (a<=c)=true:=fun a b c h1 h2=>decide_eq_true (by have:=abm h1;have:=abm h2;omega);have tt:∀ (a b:Int),(decide (a<=b)||decide (b<=a))=true:=fun a b=>by
  rcases Int.le_total a b with h | h<;>simp [h]
 refine List.Perm.eq_of_pairwise (le:=fun a b=>decide (a<=b)=true) (fun a b _ _ h1 h2=>by have:=abm h1;have:=abm h2;omega) (adh tr tt a) (adh tr tt b) ?_;exact((acz a _).trans h).trans (acz b _).symm
def DH (l:List Int):(pg l).length=l.length:=(acz l _).length_eq
def B0 {l:List Int} {x:Int} : x∈pg l↔x∈l:=(acz l _).mem_iff
def AB (_:Value):Option (DataW Unit×List MemPlace):=some (.nil,[])
def TU (hM:ic .i64 es l) (hr:∀ p∈l,-9223372036854775808<=p.1/\p.1<=9223372036854775807):∀ x∈es.toList,∃ n:Int,x.key=.int .i64 n/\WideElems.rd Tryz.prog 3 AB x=some (.int .i64 n,.nil):=by
 intro x hx;have:(x.key,x.val)∈l.map fun p=>(Value.int .i64 p.1,p.2):=by
  rw[<-show es.toList.map (fun e=>(e.key,e.val))=_ from hM];exact aaQ.2 ⟨x,hx,rfl⟩
 obtain⟨q,hq,e⟩:=aaQ.1 this;rw[aaZ]at e;have hb:=hr q hq;refine⟨q.1,e.1.symm,?_⟩;have hw:(Lit.int .i64 q.1).wf=true:=by
  simp only[Lit.wf,IntKind.min,IntKind.max,IntKind.signed,IntKind.bits,aah,aaf];simp;omega
 unfold WideElems.rd keyOf;rw[<-e.1];simp only[Tryz.underlying3];unfold mapKey;simp only[Tryz.underlying3,hw];rfl
def DI (Bm b:Nat) {clock:Nat} (w:World) (hBm:Bm<w.heap.size) (hm:w.cell? ⟨Bm,0,none⟩=some (.map (some b))) (hb:w.heap[b]?=some (.map es clock)) (hM:ic .i64 es l) (hst:MapKept.Stamped es clock)
 (hr:∀ p∈l,-9223372036854775808<=p.1/\p.1<=9223372036854775807) (hsz:l.length<=1000000) :
 Calls Tryz.prog Jq #[.func (.func uO) #[] #[.pointer (some ⟨Bm,0,none⟩)]] w fun e w'=>∃ v,e=.returned v/\w'.ownsRow w.heap.size 3 1 v l.length ((pg (l.map (·.1))).map (Value.int .i64))/\RowKit.Below w.heap.size w w':=by
 have hsize:es.size=l.length:=hM.size;have hrd:=TU hM hr;have hown:w.ownsMap Tryz.prog 3 AB b l.length (.map ((es.toList.map (WideElems.rg Tryz.prog 3 AB)).foldr DataW.insert [])) :=
  ⟨es,clock,hb,⟨by rw[hsize];unfold maxLen;omega,hst,fun x hx=>by obtain⟨n,_,h⟩:=hrd x hx;exact⟨_,h⟩⟩,by rw[hsize];exact aaw _,rfl⟩
 have hms:Maps.size (.map ((es.toList.map (WideElems.rg Tryz.prog 3 AB)).foldr DataW.insert []))=l.length:=by
  show((es.toList.map (WideElems.rg Tryz.prog 3 AB)).foldr DataW.insert []).length=_;rw[DataW.length_sorted,aaz,abF,hsize]
 have hseq:SeqGives Fence.wide 2 Tryz.prog uO #[.pointer (some ⟨Bm,0,none⟩)] encZ (fun ss=>ss.Perm (intKeys (.map ((es.toList.map (WideElems.rg Tryz.prog 3 AB)).foldr DataW.insert [])))) (Maps.size (.map ((es.toList.map (WideElems.rg Tryz.prog 3 AB)).foldr DataW.insert []))) w :=
  AnyZI.keys_gives (ρ:=Br) {Wf with} Fence.wide _ trivial rfl ah Bm b l.length _ w hBm hm hown
 have cS:=AnyZI.sorted_in RN Fence.wide 5 trivial trivial trivial trivial rfl ah (UU _) (enters_of Tryz.func94 zzK rfl) uO #[.pointer (some ⟨Bm,0,none⟩)] trivial (enters_of Tryz.func95 zzK rfl) _ _ (by rw[hms];unfold maxLen;omega) (by rw[hms];omega) _ hseq;have cS:=callsIn_wide.1 cS;refine Calls.mono cS ?_;rintro e w' ⟨v,ss,rfl,hS,aC,_,hbl⟩;have hp:ss.Perm (l.map (·.1)):=by
  refine hS.trans ?_;simp only[intKeys];refine((WideShapes.sorted_perm _).map _).trans (List.Perm.of_eq ?_);have h1:es.toList.map (fun e=>e.key)=l.map fun p=>Value.int .i64 p.1:=by
   have:=aaD (List.map Prod.fst) (show es.toList.map (fun e=>(e.key,e.val))=l.map fun p=>(Value.int .i64 p.1,p.2)from hM);rw[abg,abg]at this;exact this
  have h2:es.toList.map (fun e=>bS (some e.key))=l.map (·.1):=by
   have:=aaD (List.map fun v=>bS (some v)) h1;rw[abg,abg]at this;exact this
  rw[<-h2,abg];refine aa2 fun x hx=>?_;obtain⟨n,hk,hd⟩:=hrd x hx;simp only[Function.comp_apply,WideElems.rg,hd,hk];rfl
 have hl:ss.length=l.length:=by rw[hp.length_eq,aaz]
 have hs:ss.mergeSort (fun x y=>decide (x<=y))=pg (l.map (·.1)):=IC hp;rw[hl,hs]at aC;exact⟨v,rfl,aC,hbl⟩
def qZ:Sx.Spec where
 fn:=Jq
 own:=[]
 rd:=[0,200]
 res:=[.one .sl]
 pre:=fun xs Hs Rs=>∃ (x m:Nat) (es:Array MapEntry) (clock:Nat) (l:List (Int×Value)) (R1 R2:Hl),xs=[.func (.func uO) #[] #[.pointer (some ⟨x,0,none⟩)]]/\Rs=[R1,R2]/\R1.cell x 0=some (.map (some m))/\R2 m=some (.map es clock)/\ic .i64 es l/\MapKept.Stamped es clock/\(∀ p∈l,-9223372036854775808<=p.1/\p.1<=9223372036854775807)/\l.length<=1000000
 post:=fun xs Hs Rs v Hs' F=>∃ (x m:Nat) (es:Array MapEntry) (clock:Nat) (l:List (Int×Value)) (R1 R2:Hl),xs=[.func (.func uO) #[] #[.pointer (some ⟨x,0,none⟩)]]/\Rs=[R1,R2]/\R1.cell x 0=some (.map (some m))/\R2 m=some (.map es clock)/\ic .i64 es l/\aN F 3 1 v l.length ((pg (l.map (·.1))).map (Value.int .i64))
def ID:qZ.OK Tryz.prog:=by
 intro w xs Hs Rs hl1 hl2 hs1 hs2 hd1 hd2 ⟨x,m,es,clock,l,R1,R2,hx,hR,hc,hm,hM,hst,hr,hsz⟩;have e0:Hs=[]:=aad.1 hl1;subst e0;subst hx;subst hR;have s1:R1.sub w:=(hs2 R1 aF);have s2:R2.sub w:=hs2 R2 aF;have hcell:=Hl.gQ s1 hc;have hx:x<w.heap.size:=by
  unfold Hl.cell at hc;split at hc
  .rename_i hb;exact(aaS.1 (s1 _ _ hb)).1
  .cases hc
 refine(DI x m w hx hcell (s2 _ _ hm) hM hst hr hsz).mono ?_;rintro e w' ⟨v,rfl,⟨hlen,aC⟩,hbl⟩;have post:∀ F:Hl,aN F 3 1 v l.length ((pg (l.map (·.1))).map (Value.int .i64))->qZ.post [.func (.func uO) #[] #[.pointer (some ⟨x,0,none⟩)]] [] [R1,R2] v [] F:=fun F hF=>⟨x,m,es,clock,l,R1,R2,rfl,rfl,hc,hm,hM,hF⟩;rcases aC with ⟨rfl,hn⟩ | ⟨g,cap,cur,rfl,hg,hcur,hle,hmx,hcs,ht⟩
 .refine⟨(aY fun k=>[-1,0,0,0].getD k 0),[],Hl.none,rfl,⟨⟨by show(-1:Int)<= -1;omega,aap _,aap _,aap _⟩,zzT⟩,⟨hbl.os,hbl.tape,hbl.output,hbl.size,fun b hl _=>hbl.block b hl,rfl,(fun _ h=>nomatch h),(fun _ _ h=>nomatch h),(fun _ h=>nomatch h),(fun b h=>by simp [Hl.mem,Hl.none]at h),(fun p _ _ _ _ h=>by simp at h),(fun _ h=>nomatch h)⟩,post _ ⟨hlen,Or.inl ⟨rfl,hn⟩⟩⟩
 .refine⟨(aY fun k=>[(g:Int),0,l.length,cap].getD k 0),[],Hl.one g (.cells cur 3 (0,0)),?_,⟨⟨by show(-1:Int)<=(g:Int);omega,aap _,by show(0:Int)<=(l.length:Int);omega,by show(0:Int)<=(cap:Int);omega⟩,zzT⟩,⟨hbl.os,hbl.tape,hbl.output,hbl.size,fun b hl _=>hbl.block b hl,rfl,(fun _ h=>nomatch h),?_,(fun _ h=>nomatch h),?_,(fun p _ _ _ _ h=>by simp at h),(fun _ h=>nomatch h)⟩,?_⟩
  .show _=Ending.returned (Value.slice (az (g:Int) 0) ((l.length:Int)).toNat ((cap:Int)).toNat);rw[au ah,aaa,aaa,aaa];rfl
  .intro b o hb;obtain⟨rfl,rfl⟩:=Hl.mT hb;exact hcur
  .intro b hb;rw[Hl.dj]at hb;subst hb;exact Or.inr hg
  .have e:(j8 0 qZ.res).ev (aY fun k=>[(g:Int),0,l.length,cap].getD k 0)=.slice (some ⟨g,0,none⟩) l.length cap:=by
    show Value.slice (az (g:Int) 0) ((l.length:Int)).toNat ((cap:Int)).toNat=_;rw[au ah,aaa,aaa,aaa];rfl
   rw[e];exact post _ ⟨hlen,Or.inr ⟨g,cap,cur,rfl,Hl.aT _ _,hle,hmx,hcs,ht⟩⟩
end Go.Proofs.YtomdimlnggpgbaaGreatDoor.D
