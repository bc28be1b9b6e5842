/- RelayTwice. -/
import Derived.ProofKit
import Derived.OpenShut
import Derived.Deep.Slices
import Derived.ChangeSame
import Derived.Test.YtomdimlnggpgbaaGreatDoorCards
import Derived.LaidMore
import Derived.LaidHandle
import Derived.Stop.Joined
import Derived.Stop.LaidErr
import Derived.LaidSub
import Derived.Test.YtomdimlnggpgbaaGreatDoorTK
set_option linter.all false
set_option maxHeartbeats 4000000
namespace Go.Proofs.YtomdimlnggpgbaaGreatDoor
open Go Go.Sx Go.Pk
def Q5:List Ck->Bool
 | []=>true
 | k::l=>(match k with | .ptr | .sl | .map=>false | _=>true)&&Q5 l
theorem zf {q:Env} : ∀ {ks:List Ck} {n:Nat},Q5 ks=true->ck n ks q->dd n ks q
 | [],_,_,_=>trivial
 | k::ks,n,h,hn=>by
  simp only[Q5,Zg]at h;refine⟨?_,zf h.2 hn.2⟩;have:=hn.1;cases k<;>first | exact trivial | exact this | cases h.1
theorem sL {q:Env} : ∀ {a b:List Ck} {n:Nat},ck n (a++b) q->ck n a q/\ck (n+bR a) b q
 | [],b,n,h=>⟨trivial,by simpa [bR] using h⟩
 | k::a,b,n,h=>by
  have:=sL (a:=a) (b:=b) (n:=n+k.len) h.2;rw[show n+k.len+bR a=n+bR (k::a)by simp [bR];omega]at this;exact⟨⟨h.1,this.1⟩,this.2⟩
set_option maxRecDepth 20000 in
theorem MC (q:Env):((((al 5 iL).map (CV.ev q)).take 125).drop 34).take 20=(al 39 ([Ck.int .i64,Ck.bool,Ck.int .u64]++List.replicate 16 (Ck.int .u8)++[Ck.sl])).map (CV.ev q)/\((((al 5 iL).map (CV.ev q)).take 125).drop 93).take 32=(al 101 (List.replicate 32 (Ck.int .u8))).map (CV.ev q) /\
 cI (((al 5 iL).map (CV.ev q)).take 125) 54=q.i 62/\cI (((al 5 iL).map (CV.ev q)).take 125) 55=q.i 63/\cI (((al 5 iL).map (CV.ev q)).take 125) 56=q.i 64/\cI (((al 5 iL).map (CV.ev q)).take 125) 57=q.i 65/\cI (((al 5 iL).map (CV.ev q)).take 125) 58=q.i 66/\cI (((al 5 iL).map (CV.ev q)).take 125) 59=q.i 67:=by
 rw[pc];exact⟨rfl,rfl,rfl,rfl,rfl,rfl,rfl,rfl⟩
theorem Rq {q:Env} {w:Int} {n:Nat} {ko sum:List Int} (hw:1<=w/\w<=6) (hn:n<=100000) (h4:q.i 4=w) (h7:q.i 147=n) (ht:(al 151 (List.replicate 32 (Ck.int .u8))).map (CV.ev q)=bK ko) (hs:(al 184 (List.replicate 32 (Ck.int .u8))).map (CV.ev q)=bK sum) :
 tY.map (CV.ev q)=fD (((al 5 iL).map (CV.ev q)).take 125) w n ko sum++[.slice (aA (q.i 183) 0) 80 80]:=by
 obtain⟨e1,e2,k0,k1,k2,k3,k4,k5⟩:=MC q;unfold fD kc oq Ki;rw[e1,e2,k0,k1,k2,k3,k4,k5,<-ht,<-hs];have wi:∀ z:Int,-9<=z->z<=1000000->IntKind.i64.wrap z=z:=fun z h1 h2=>by rw[IntKind.wrap_i64];omega
 have wu:∀ z:Int,0<=z->z<=1000000->IntKind.u64.wrap z=z:=fun z h1 h2=>by rw[IntKind.wrap_u64];omega
 have w1:IntKind.i64.wrap (w-1)=w-1:=wi _ (by omega) (by omega);have w2:IntKind.u64.wrap (n:Int)=n:=wu _ (by omega) (by omega);have w3:IntKind.i64.wrap ((n:Int)+1)=(n:Int)+1:=wi _ (by omega) (by omega);have w4:IntKind.u64.wrap ((n:Int)+1)=(n:Int)+1:=wu _ (by omega) (by omega);unfold tY;simp only[ZP,Zf,Zr,CV.ev,aj,ai,ar,aB,aF,aG,bd,h4,h7,w1,w2,w3,w4,ZK,abg,aax];rfl
set_option maxRecDepth 20000 in
theorem zw:m8.OK Tryz.prog:=by
 refine Spec.bJ (Γ:=Rr) Rt ?_;rintro xs Hs Rs hl1 hl2 ⟨v,w,row,R,T,RG,rows,hs,p,rfl,rfl,hR,hA,hlen,hw,hx,hK⟩;have e0:Hs=[]:=Za.1 hl1;subst e0;obtain⟨x,y,c,rfl,hy,_⟩:=id hR;obtain⟨q0,ag,hnw,hrow0⟩:=dI iL 5 row ⟨fun k=>[x,y,rows.length,c,w].getD k 0,fun _=>false,fun _=>.empty,fun _=>.tuple #[],fun _=>Hl.none⟩ hx.ok;obtain⟨ρ,hρ⟩:∃ ρ:Env,ρ=⟨q0.i,q0.b,q0.s,q0.v,yu [(140,R),(141,T),(142,RG)]⟩:=⟨_,rfl⟩;have v0:ρ.i 0=x:=by rw[hρ];exact ag.i 0
 have v1:ρ.i 1=y:=by rw[hρ];exact ag.i 1
 have v2:ρ.i 2=rows.length:=by rw[hρ];exact ag.i 2
 have v3:ρ.i 3=c:=by rw[hρ];exact ag.i 3
 have v4:ρ.i 4=w:=by rw[hρ];exact ag.i 4
 have aL:(al 5 iL).map (CV.ev ρ)=row:=by rw[hρ,<-NG (yu [(140,R),(141,T),(142,RG)])];exact hrow0
 have hnw:ck 5 iL ρ:=by rw[hρ];exact Of _ _ _ hnw
 have w4:ρ.h 140=R:=by rw[hρ];rfl
 have w5:ρ.h 141=T:=by rw[hρ];rfl
 have w6:ρ.h 142=RG:=by rw[hρ];rfl
 clear hρ;refine⟨MD,ρ,fun _ _=>True,fun _ _=>0,?_,dB (by intro r hr;simp [MD]at hr;rcases hr with rfl | rfl | rfl<;>exact⟨_,_,_,rfl⟩) (by show [ρ.h 140,ρ.h 141,ρ.h 142]=_;rw[w4,w5,w6]),(fun _ h=>nomatch h),?_⟩
 .show [Value.slice (aA (ρ.i 0) (ρ.i 1)) (ρ.i 2).toNat (ρ.i 3).toNat,.int .i64 (ρ.i 4),.agg ((al 5 iL).map (CV.ev ρ)).toArray]=_;rw[v0,v1,v2,v3,v4,aL,Y7,Y7]
 show Nd.holds _ _ _ Br;have hb0:Value.slice (aA (ρ.i 133) (ρ.i 134)) (ρ.i 135).toNat (ρ.i 136).toNat=row.getD 125 ze:=by rw[<-aL,uO]
 have hn5:0<=ρ.i 134/\0<=ρ.i 135:=by
  obtain⟨_,h⟩:=sL (a:=cX) (b:=[Ck.sl]) hnw;exact⟨h.1.2.1,h.1.2.2.1⟩
 have hlr:rows.length=hs.length:=by have:=hA.1;rwa[ZD]at this
 have V:∀ q:Env,ah 143 ρ q->(q.i 0=x/\q.i 1=y/\q.i 2=rows.length/\q.i 4=w)/\(q.h 140=R/\q.h 141=T/\q.h 142=RG)/\(al 5 iL).map (CV.ev q)=row/\(q.i 133=ρ.i 133/\q.i 134=ρ.i 134/\q.i 135=ρ.i 135)/\Value.slice (aA (q.i 0) (q.i 1)) (q.i 2).toNat (q.i 3).toNat=.slice (aA x y) rows.length c:=fun q g=>by
  refine⟨⟨by rw[g.i 0,v0],by rw[g.i 1,v1],by rw[g.i 2,v2],by rw[g.i 4,v4]⟩,⟨by rw[g.h 140,w4],by rw[g.h 141,w5],by rw[g.h 142,w6]⟩,?_,⟨g.i 133,g.i 134,g.i 135⟩,?_⟩
  .rw[<-aL];exact ZW Array.toList (Value.agg.inj (fQ (ks:=iL) (n:=5) g (by decide)))
  .rw[g.i 0,g.i 1,g.i 2,g.i 3,v0,v1,v2,v3,Y7,Y7]
 have hbB:=Bp rows.length hx.byte;have fin:∀ (q:Env) (ce:E),ah 143 ρ q->q.i 147=rows.length->(al 151 (List.replicate 32 (Ck.int .u8))).map (CV.ev q)=bK (iE hs)->(al 184 (List.replicate 32 (Ck.int .u8))).map (CV.ev q)=bK (fP (eJ rows.length p.b))->0<=q.i 183->eJ rows.length p.b=List.replicate 80 (aC q ce) ->
  postOf m8 [.slice (aA x y) rows.length c,.int .i64 w,.agg row.toArray] [] [R,T,RG] q [.ro 140 [.var 0] false,.ro 141 [.var 58] true,.ro 142 [.lit 3] false,.dead,.dead,.hp 145 [] [.var 145] [],.dead,.dead,.bD 183 (List.replicate 80 (CV.int .u8 ce)) 5] (.sv (.agg tY)):=by
  intro q ce g h7 ht hs2 h183 hce _;obtain⟨⟨_,_,_,k4⟩,_,kr,_⟩:=V q g;have er:=Rq hw hlen k4 h7 ht hs2;rw[kr]at er;have hhd:=ME hx.hd (w:=w) (n:=rows.length) (ko:=iE hs) (sum:=fP (eJ rows.length p.b)) hw hlen (oF hs) (fE _) (JZ hs) (zI _);have hrl:(fD (row.take 125) w rows.length (iE hs) (fP (eJ rows.length p.b))).length=125:=fL hhd.ok;have hok:bS (tY.map (CV.ev q)) (Rb.map jA):=by
   rw[er];have e:Rb.map jA=dQ++[Kd.slice]:=rfl;rw[e];exact mf hhd.ok rfl
  obtain⟨ρ2,_,hn2,he2⟩:=dI Rb 0 _ ⟨fun _=>0,fun _=>false,fun _=>.empty,fun _=>.tuple #[],fun _=>Hl.none⟩ hok;have hF:uu q [.ro 140 [.var 0] false,.ro 141 [.var 58] true,.ro 142 [.lit 3] false,.dead,.dead,.hp 145 [] [.var 145] [],.dead,.dead,.bD 183 (List.replicate 80 (CV.int .u8 ce)) 5] [8]=Hl.one (q.i 183).toNat (.cells (List.replicate 80 (.int .u8 (aC q ce))).toArray 5 (0,0)):=by
   show dC [Hl.one (q.i 183).toNat (.cells ((List.replicate 80 (CV.int .u8 ce)).map (CV.ev q)).toArray 5 (0,0))]=_;rw[bz,abp];rfl
  refine⟨[],[8],rfl,rfl,⟨ρ2,by show Value.agg _=Value.agg _;rw[<-he2],?_,trivial⟩,tY.map (CV.ev q),rfl,fun v' w' row' R' T' RG' rows' hs' p' e1 e2 hR' hA' hx'=>?_⟩
  .obtain⟨m1,m2⟩:=sL (a:=Lm) (b:=[Ck.sl]) hn2;refine rC (zf rfl m1) ⟨?_,trivial⟩;have m2:=m2.1;have elast:(CV.sl (.var (0+bR Lm)) (.var (0+bR Lm+1)) (.var (0+bR Lm+2)) (.var (0+bR Lm+3))).ev ρ2=.slice (aA (q.i 183) 0) 80 80:=by
    have e:al 0 Rb=al 0 Lm++[CV.sl (.var (0+bR Lm)) (.var (0+bR Lm+1)) (.var (0+bR Lm+2)) (.var (0+bR Lm+3))]:=rfl;rw[e,ZP,er]at he2;have:=(abY he2 rfl).2;simpa using this
   simp only[CV.ev,aj,Value.slice.injEq]at elast;obtain⟨s1,_⟩:=oA h183 (Zw 0) m2.2.1 elast.1;exact⟨by omega,m2.2.1,m2.2.2.1,m2.2.2.2⟩
  .simp only[Ze,Zm,Value.int.injEq,Zy,Value.agg.injEq]at e1 e2;obtain⟨rfl,rfl,e1⟩:=e1;obtain⟨rfl,rfl,rfl⟩:=e2;have e1:=ZL e1;subst e1;obtain rfl:=hR.uniq hR';obtain rfl:=hA.uniq hA';obtain rfl:=hx.uniq hx';show gm T (uu q _ [8]) _ _;rw[hF,er];unfold jm;rw[<-hlr];refine⟨mf hhd.ok rfl,?_,?_,hbB.2,by show(eJ _ _).length<=_;rw[hbB.1];decide⟩
   .rw[abq hrl];exact hhd
   .have e:(fD (row.take 125) w rows.length (iE hs) (fP (eJ rows.length p.b))++[Value.slice (aA (q.i 183) 0) 80 80]).getD 125 ze=.slice (aA (q.i 183) 0) 80 80:=by
     rw[Zt,Zz (by omega),hrl];rfl
    rw[e];show fp _ _ (eJ rows.length p.b);rw[hce];refine⟨q.i 183,0,80,by rw[Z8],Zw _,Or.inr ⟨h183,fun j z hz=>?_⟩⟩;obtain⟨hj,hz⟩:=Zi.1 hz;rw[Z8]at hj;rw[ab0]at hz;subst hz;unfold Hl.cell;rw[Hl.bF];simp only[aae,abv,ZM];rw[aaX,ZA hj]
 unfold Br;simp only[Nd.holds,X.pre,X.rel,X.n,Src.ok,Src.len,Src.bG,Zy,Zm,ZG,Zx,Zp,Nat.reduceAdd,Zd,Zh,bn,bj,aJ,aU,aR,bm,aZ,bh,bg,bd,aV,ba,bk,aX,aW,aK,aY,ai,aj,aB,aF,aD,ar,aG,aQ,aP,aq,aI,az,aH,av,TV.ev,SV.ev,CV.ev,Zf,Zr,bx.hl,cu,Cp.sv,Ck.cv,bf,Cp.len,Ck.len,aE,aN,aT,VY,VZ,V0,V1,TE,V2,Kk];intro q1 g1 _ q2 g2 _;have G2:ah 143 ρ q2:=g1.tr g2;obtain⟨⟨k0,k1,k2,k4⟩,⟨h0,h1,h2⟩,kr,kb,ksl⟩:=V q2 G2;rw[ksl,h0];refine⟨⟨_,R,rows,rfl,rfl,hR,hlen⟩,fun q3 g3 ⟨F3,hp3,hF3,hn3⟩ q4 g4 _ q5 g5 _=>?_⟩;have hH:=hp3 _ _ _ rfl rfl hR;rw[<-hF3 trivial]at hH;have n3:0<=q3.i 147:=hn3.1.2.2.1;have h147:q3.i 147=rows.length:=by
  obtain⟨x',y',c',e,_⟩:=id hH;simp only[Value.slice.injEq,ZD]at e;omega
 have A5:ah 149 q3 q5:=g4.tr g5;have G5:ah 143 ρ q5:=G2.trans (g3.mono.tr A5);obtain⟨⟨m0,m1,m2,m4⟩,⟨o0,o1,o2⟩,mr,mb,msl⟩:=V q5 G5;rw[A5.i 145,A5.i 146,A5.i 147,A5.i 148,A5.h 145,o1,o2];refine⟨n3,⟨_,_,T,RG,_,hs,rfl,rfl,hH,hA,by rw[ZD];exact hlen,hK⟩,fun q6 g6 ⟨F6,hp6,_⟩=>?_⟩;have hp6:=ZL (Value.agg.inj (hp6 _ _ _ _ _ _ rfl rfl hH hA));have G6:ah 143 ρ q6:=G5.tr g6;have h147b:q6.i 147=rows.length:=by rw[g6.i 147,A5.i 147,h147]
 obtain⟨⟨r0,r1,r2,r4⟩,⟨u0,u1,u2⟩,rr,⟨b3,b4,b5⟩,_⟩:=V q6 G6;have o1':=u1;have ww:IntKind.i64.wrap (w-1)=w-1:=by rw[IntKind.wrap_i64];omega
 rw[r4,r2,ww,b3,b4,b5,u1];have hbd:=hx.body;rw[<-hb0]at hbd;obtain⟨x',y',c',e,hy',hbb⟩:=id hbd;simp only[Value.slice.injEq]at e;have tail:∀ (ce:E),eJ rows.length p.b=List.replicate 80 (aC q6 ce)->(∀ q,ah 183 q6 q->aC q ce=aC q6 ce)->∀ q7,ah 183 q6 q7->0<=q7.i 183->iz.pre [Value.slice (aA (q7.i 183) 0) (Int.toNat 80) (Int.toNat 80)] [] [Hl.one (q7.i 183).toNat (.cells ((List.replicate 80 (CV.int .u8 ce)).map (CV.ev q7)).toArray 5 (0,0)),q7.h 142] /\
  ∀ q8,ah 184 q7 q8->(∃ F,iz.post [Value.slice (aA (q7.i 183) 0) (Int.toNat 80) (Int.toNat 80)] [] [Hl.one (q7.i 183).toNat (.cells ((List.replicate 80 (CV.int .u8 ce)).map (CV.ev q7)).toArray 5 (0,0)),q7.h 142] (.agg ((al 184 (List.replicate 32 (Ck.int .u8))).map (CV.ev q8)).toArray) [] F/\(br 0 [Cp.agg (List.replicate 32 (Ck.int .u8))]≠[]->q8.h 184=F)/\fg 184 [Cp.agg (List.replicate 32 (Ck.int .u8))] q8) ->
  postOf m8 [.slice (aA x y) rows.length c,.int .i64 w,.agg row.toArray] [] [R,T,RG] q8 [.ro 140 [.var 0] false,.ro 141 [.var 58] true,.ro 142 [.lit 3] false,.dead,.dead,.hp 145 [] [.var 145] [],.dead,.dead,.bD 183 (List.replicate 80 (CV.int .u8 ce)) 5] (.sv (.agg tY)):=by
  intro ce hce hst q7 g7 p7;have hRd:fp (Hl.one (q7.i 183).toNat (.cells ((List.replicate 80 (CV.int .u8 ce)).map (CV.ev q7)).toArray 5 (0,0))) (.slice (aA (q7.i 183) 0) (Int.toNat 80) (Int.toNat 80)) (eJ rows.length p.b):=by
   refine⟨q7.i 183,0,80,by rw[hbB.1];rfl,Zw _,Or.inr ⟨p7,fun j z hz=>?_⟩⟩;rw[hce]at hz;obtain⟨hj,hz⟩:=Zi.1 hz;rw[Z8]at hj;rw[ab0]at hz;unfold Hl.cell;rw[Hl.bF,abp];simp only[aae,abv,ZM];rw[aaX,ZA hj];show some (Value.int .u8 (aC q7 ce))=_;rw[hst q7 g7,hz]
  rw[show q7.h 142=RG by rw[g7.h 142,u2]];refine⟨⟨_,_,_,RG,rfl,rfl,hRd,hbB.2,by rw[hbB.1];decide,hK⟩,fun q8 g8 ⟨F8,hp8,_⟩=>?_⟩;have hp8:=ZL (Value.agg.inj (hp8 _ _ _ _ rfl rfl hRd));have A8:ah 183 q6 q8:=g7.tr g8;refine fin q8 ce (G6.tr A8) (by rw[A8.i 147,h147b]) ?_ hp8 (by rw[g8.i 183];exact p7) (by rw[hst q8 A8];exact hce);rw[<-hp6];exact ZW Array.toList (Value.agg.inj (fQ (ks:=List.replicate 32 (Ck.int .u8)) (n:=151) (m:=183) A8 (by decide)))
 have hi:0<ρ.i 135->∃ z r,p.b=z::r/\0<=ρ.i 133/\T.cell (ρ.i 133).toNat (ρ.i 134).toNat=some (.int .u8 z):=fun hp=>by
  cases hb:p.b with
  | nil=>rw[hb]at e;simp at e;omega
  | cons z r =>
   rw[hb]at hbb;rcases hbb with h | ⟨hx0,hc⟩
   .cases h
   obtain⟨s1,s2⟩:=oA hx0 hy' hn5.1 e.1;exact⟨z,r,rfl,by omega,by rw[s1,s2];exact hc 0 z rfl⟩
 have hno:¬0<ρ.i 135->p.b=[]:=fun hn=>Za.1 (by omega);have mk80:((0:Int)<=80/\((1:Nat):Int)*80<=281474976710656/\(80:Int)<=9223372036854775807):=by decide
 refine⟨by omega,by omega,⟨by omega,by omega⟩,by omega,hn5.2,fun hp=>?_,fun hn=>⟨mk80,fun q7 g7 ⟨p7,_⟩=>tail _ ?_ (fun q g=>?_) q7 g7 p7⟩⟩
 .obtain⟨z,r,hz,hx0,hc⟩:=hi hp;refine⟨hx0,hn5.1,by rw[hc];rfl,mk80,fun q7 g7 ⟨p7,_⟩=>tail _ ?_ (fun q g=>?_) q7 g7 p7⟩
  .rw[aQ,aj,aj,b3,b4,o1',hz,Zp,hc];rfl
  .rw[aQ,aQ,aj,aj,aj,aj,g.i 133,g.i 134,g.h 141]
 .rw[ar,aj,r2,hno hn];rfl
 .rw[ar,ar,aj,aj,g.i 2]
open Go.Proofs.YtomdimlnggpgbaaGreatDoor.D hiding bw aM gC
theorem IE {w:Int} {hs:List Hd} {h:Hd} (e:fU w hs h=0):h.Form/\cI h.c 0=w/\cI h.c 1=hs.length+1:=by
 unfold fU at e;split at e
 .cases e
 .rename_i h1;have hF:h.Form:=abu.1 fun g=>h1 (Or.inl g);have hw:cI h.c 0=w:=abu.1 fun g=>h1 (Or.inr g);split at e
  .split at e<;>cases e
  .split at e
   .cases e
   .exact⟨hF,hw,by omega⟩
theorem tH {st:Nat->List Pc} {p:Pc} (h:ct st p=0):ct (dE st p) p=13:=by
 obtain⟨hF,ha,_,_⟩:=qi h;obtain⟨_,hw,hs⟩:=IE ha;have e:kF (dE st p) (cI p.h.c 0-1).toNat=kF st (cI p.h.c 0-1).toNat++[p.h]:=by
  unfold dE kF;rw[ZA h,df,ZP];rfl
 have ea:fU (cI p.h.c 0) (kF (dE st p) (cI p.h.c 0-1).toNat) p.h=13:=by
  rw[e];unfold fU;rw[Zo (fun g=>g.elim (fun x=>x hF) (fun x=>x rfl)),ZA (by rw[Y9,ZC];omega),ZA];rw[hs,show(((kF st (cI p.h.c 0-1).toNat).length:Int)+1-1).toNat=(kF st (cI p.h.c 0-1).toNat).length by omega,Zz (ZB _),ab1];rfl
 unfold ct;rw[Zo (fun x=>x hF),ea,ZA (by decide)]
def RS (D:DM) (S:SM) (n m:Nat):Prop:=∃ (g:Int) (K:Nat),Nonempty (SP D S n g K)/\K<=m/\S.recs.length<=m/\S.bA.length<=1100*m
theorem RS.pre {D:DM} {S:SM} {n m:Nat} (h:RS D S n m) (hm:m<=900):S.bA.length<=1048576/\0<=S.LA.serial/\S.recs.length<=1000000000:=by
 obtain⟨g,K,⟨h⟩,hK,hr,hb⟩:=h;refine⟨by omega,?_,by omega⟩;rw[h.eA];exact aa4 _
theorem RS.new {m:Nat} (h:6<=m/\m<=16384):RS (fb m) (fT (fb m)) (m/2) 0/\(fT (fb m)).recs=[]/\fm (fb m)=0/\aS (kZ (fb m))/\aS (gT (fb m)):=by
 obtain⟨⟨hP⟩,hr,hE⟩:=SP.new h;obtain⟨_,_,b1,b2⟩:=hP.open;have hb:(fT (fb m)).bA=[]:=by rw[hP.pk,hr];rfl
 exact⟨⟨0,0,⟨hP⟩,ZB _,by rw[hr];exact ZB _,by rw[hb];exact aam _⟩,hr,hE,b1,b2⟩
theorem JC {R1 R2:Hl} {row:List Value} {p:Pc} (hx:gm R1 R2 row p):aS (gu p):=by
 unfold gu bq;exact gQ (gQ (kz _) (Kr hx.hd).1) (gQ (kz _) hx.byte)
theorem RS.push {D:DM} {S:SM} {n m:Nat} (h:RS D S n m) (hroom:1100*((m:Int)+1)<=64*((n:Int)-2)) (hm:m<=900) {R1 R2:Hl} {row:List Value} {p:Pc} (hx:gm R1 R2 row p) (hb:p.b.length=80) (st:Nat->List Pc) :
 (eE D S st p).e=ct st p/\(eE D S st p).st=dE st p/\RS (eE D S st p).D (eE D S st p).S n (m+1):=by
 obtain⟨g,K,⟨hP⟩,hK,hr,hbA⟩:=h;by_cases h0:ct st p=0
 .have hl:=(H8 hx (by omega)).2;have ht:=oD (b:=gu p) (by omega);have hpk:(cE [gu p]).length=(bq (gu p)).length:=by unfold cE;simp
  obtain⟨a1,a2,⟨a3⟩⟩:=hP.add (rows:=[gu p]) (fun r hr=>by rw[Zn.1 hr];omega) (by omega) (fun r hr=>by rw[Zn.1 hr];exact JC hx) (by omega);have e:eE D S st p=⟨0,(dM D S [gu p]).D,(dM D S [gu p]).S,dE st p⟩:=by
   unfold eE;rw[Zo (fun x=>x h0),Zo (fun x=>x a1)]
  rw[e];refine⟨h0.symm,rfl,g,K+1,⟨a3⟩,by omega,?_,?_⟩
  .show(dM D S [gu p]).S.recs.length<=_;rw[a2,Y9,ZC];omega
  .show(dM D S [gu p]).S.bA.length<=_;rw[a3.pk,a2,rN,Y9,<-hP.pk];omega
 .have e:eE D S st p=⟨ct st p,D,S,st⟩:=by unfold eE;rw[ZA h0]
  have e2:dE st p=st:=by unfold dE;rw[Zo h0]
  rw[e,e2];exact⟨rfl,rfl,g,K,⟨hP⟩,by omega,by show S.recs.length<=_;omega,by show S.bA.length<=_;omega⟩
theorem xD {c:List Value} {w:Int} {n:Nat} {ko sum:List Int} (hA:(kc c w n ko).length=54) (hs:sum.length=32):bL (fD c w n ko sum) 60 32=sum/\cI (fD c w n ko sum) 92=80:=by
 have key:∀ j,(fD c w n ko sum)[60+j]?=(bK sum++(.int .i64 80::(c.drop 93).take 32))[j]?:=fun j=>by
  unfold fD;rw[Zz (by omega),hA];unfold oq;rw[show 60+j-54=j+6 by omega];rfl
 refine⟨?_,?_⟩
 .apply aaL (by rw[bC,hs]);intro j h1 h2;have e:(bL (fD c w n ko sum) 60 32)[j]=cI (fD c w n ko sum) (60+j):=by simp [bL]
  rw[e];unfold cI;rw[key,ZH (by rw[cP];omega),ft,Y8 h2];rfl
 .unfold cI;rw[show 92=60+32 from rfl,key,Zz (by rw[cP];omega),cP,hs];rfl
def zC:List Value:=[.int .i64 0,.int .u64 0]++List.replicate 32 (.int .u8 0)++[.int .i64 0,.bool false,.int .u64 0]++List.replicate 16 (.int .u8 0)++[.bool false]++List.replicate 6 (.int .u64 0)++List.replicate 32 (.int .u8 0)++[.int .i64 0]++List.replicate 32 (.int .u8 0)
def Ke:List Value:=(zC.set 53 (.slice none 0 0))++[.slice none 0 0]
def z0:Pc:=⟨⟨zC,[]⟩,[]⟩
theorem Dq {D:DM} {S:SM} {st:Nat->List Pc} {p:Pc} (h:ct st p≠0):eE D S st p=⟨ct st p,D,S,st⟩:=by unfold eE;rw[ZA h]
theorem yT (st:Nat->List Pc) (p:Pc) (i:Nat):(dE st p i).length<=(st i).length+1:=by
 unfold dE;split
 .unfold te;split
  .rename_i h;rw[h,Y9];exact ZB _
  .omega
 .omega
theorem T5:bS Ke qo:=by
 repeat' (first | exact trivial | refine⟨rfl,?_⟩)
theorem T7:∀ v∈Ke.take 125,JD v:=by
 have e:Ke.take 125=zC.set 53 (.slice none 0 0):=rfl;rw[e];have h:∀ v∈zC,JD v:=by
  intro v hv;unfold zC at hv;simp only[ZT,Zl,Zq,ZO,abQ]at hv;rcases hv with ((((((((rfl | rfl) | ⟨_,rfl⟩) | rfl | rfl | rfl) | ⟨_,rfl⟩) | rfl) | ⟨_,rfl⟩) | ⟨_,rfl⟩) | rfl) | ⟨_,rfl⟩<;>first | exact trivial | (show _<=_/\_<_;omega) | (show ju 0;unfold ju;omega)
 intro v hv;rcases aaS hv with hv | rfl
 .exact h v hv
 .trivial
theorem T6 (T:Hl):gm T T Ke z0 :=
 ⟨T5,⟨(by have h:=iM (n:=125) T5;rw[xj]at h;exact h),T7,rfl,⟨-1,0,0,rfl,by omega,Or.inl rfl⟩,⟨aam _,fun _ h=>nomatch h⟩⟩,⟨-1,0,0,rfl,by omega,Or.inl rfl⟩,(fun z hz=>nomatch hz),aam _⟩
noncomputable def p1:Pc:=jm [] 1 z0
def pC (sum:List Int):List Value:=fD zC 1 0 (List.replicate 32 0) sum
theorem Oo (sum:List Int) (hs:sum.length=32):Hd.Form ⟨pC sum,[]⟩:=by
 have h92:cI (pC sum) 92=80:=(xD rfl hs).2;refine⟨⟨⟨?_,?_⟩,⟨?_,?_⟩,⟨?_,?_⟩,?_,rfl,⟨?_,?_,?_,?_,?_,?_⟩,Or.inr ?_⟩,aam _,(fun i hi=>by simp at hi),?_,fun h=>by cases h⟩
 all_goals first
  | (show gz (cI (pC sum) 92-16);rw[h92];exact Or.inl rfl)
  | (show uy _ 2 32;repeat' (first | rfl | refine⟨rfl,?_⟩))
  | exact(by decide:(1:Int)<=1)
  | exact(by decide:(1:Int)<=6)
  | exact(by decide:(1:Int)<=1048576)
  | exact(by decide:(0:Int)<=0)
  | exact(by decide:(0:Int)<=255)
  | exact(by decide:(0:Int)<=1099511627776)
  | exact(by decide:(0:Int)<=1048576)
open Classical in
theorem Mj:ct (fun _=>[]) p1=0:=by
 have hs:(fP (eJ 0 [])).length=32:=fE _;have eh:p1.h=⟨pC (fP (eJ 0 [])),[]⟩:=rfl;have eb:p1.b=eJ 0 []:=rfl;have hF:=Oo _ hs;obtain⟨e1,e2⟩:=xD (c:=zC) (w:=1) (n:=0) (ko:=List.replicate 32 0) rfl hs;have k0:cI (pC (fP (eJ 0 []))) 0=1:=rfl;have k1:cI (pC (fP (eJ 0 []))) 1=1:=rfl;have kt:bL (pC (fP (eJ 0 []))) 2 32=List.replicate 32 0:=rfl;have ha:fU 1 [] ⟨pC (fP (eJ 0 [])),[]⟩=0:=by
  unfold fU;rw[Zo (fun h=>h.elim (fun x=>x hF) (fun x=>x k0)),k1,Zo (by decide),Zo (by decide),Zo (fun x=>x kt)]
 have hw:eQ (pC (fP (eJ 0 []))) (eJ 0 [])=true:=by
  unfold eQ;exact decide_eq_true ⟨by rw[show cI (pC (fP (eJ 0 []))) 92=80 from e2];rfl,e1.symm⟩
 unfold ct;rw[eh,eb];dsimp only;rw[Zo (fun x=>x hF),k0,Zo (fun x=>x ha),hw,Zo (by decide),Zo (by decide)]
def ly:Sx.Spec where
 fn:=25
 own:=[]
 rd:=[2000000,100]
 res:=[.one .bool]
 pre:=fun xs Hs Rs=>∃ RG T g,xs=[]/\Rs=[RG,T]/\(Gl RG g/\uz RG 5/\RG.cell 4 0=some yG)/\uz RG 3
 post:=fun xs Hs Rs v Hs' F=>v=.bool true
def XI:List CV:=([.int .i64 (.lit 0),.int .u64 (.lit 0)]++List.replicate 32 (CV.int .u8 (.lit 0))++[.int .i64 (.lit 0),.bool .ff,.int .u64 (.lit 0)]++List.replicate 16 (CV.int .u8 (.lit 0))++[.sl (.lit (-1)) (.lit 0) (.lit 0) (.lit 0),.int .u64 (.lit 0),.int .u64 (.lit 0),.int .u64 (.lit 0),.int .u64 (.lit 0),.int .u64 (.lit 0),.int .u64 (.lit 0)]++List.replicate 32 (CV.int .u8 (.lit 0))++[.int .i64 (.lit 0)]++List.replicate 32 (CV.int .u8 (.lit 0))++[.sl (.lit (-1)) (.lit 0) (.lit 0) (.lit 0)])
set_option maxRecDepth 20000 in
theorem PW (q:Env):XI.map (CV.ev q)=Ke:=rfl
def PV:Nd:=(fun a i s q r o l p n t=>(fun m k d f g h j=>(fun b c=>(.and (.pre n) (.ext n (.and (.pre j) (.ext j (.and (.pre f) (.ext f (.ext (.alloc 139) (.and (.imp (.eq (.var 6) l) (.and (.imp (.not (.eq q (.lit (-1)))) (.and (.pre c) (.ext c (.and (.imp (.eq (.var 140) l) (.and (.pre b) (.ext b (.and (.imp t (.and (.e (.le l q)) (.and (.e (.le l (.var 5))) (.and (.e (.his 143 q o 0 .ptr)) (.and (.pre d) (.ext d (.post h (.sv (.one (.bool (.eq (.var 146) (.lit 1)))))))))))) (.imp (.not t) (.post h p)))))) (.imp (.not (.eq (.var 140) l)) (.post [.ro 0 a false,.ro 1 [] true,.hp 141 [4,2] i [],.hp 140 [5] r i,.hp 7 [] s [],.dead] p)))))) (.imp (.eq q (.lit (-1))) g))) (.imp (.not (.eq (.var 6) l)) g)))))))):Nd)) (.call 2 143 k [.hp 140 [5] r i,.hp 141 [4,2] i []] m) (.call 2 140 k [.hp 5 [] r i,.hp 4 [2] i []] m)) [.ro 1 [] true,.hp 7 [] s [],.ro 0 a false] [.sv (.one (.hptr q (.var 5))),.sv (.agg (al 7 iL))] (.call 4 146 [.sv (.one (.hptr (.hP 143 q o 0 0) (.hP 143 q o 0 1)))] [] [.hp 143 [140,5] r i]) (.call 3 7 [.sv (.one (.sl (.lit (-1)) l l l)),.sv (.one (.int .i64 (.lit 1))),.sv (.agg XI)] [] [.ro 1 [] true,.ro 1 [] true,.ro 0 a false]) (.post [.ro 0 a false,.ro 1 [] true,.hp 4 [2] i [],.hp 5 [] r i,.hp 7 [] s [],.dead] p) [.ro 0 a false,.ro 1 [] true,.hp 144 [141,4,2] i [],.hp 143 [140,5] r i,.hp 7 [] s [],.dead] (.call 1 4 [.sv (.one (.hptr (.var 2) (.var 3)))] [.hp 2 [] i []] [])) [.lit 0,.lit 1,.lit 2,.lit 3,.lit 4,.lit 5] [.var 2] [.var 135] (.var 4) [.var 4] (.add (.var 5) (.lit 1)) (.lit 0) (.sv (.one (.bool .ff))) (.call 0 2 [.sv (.one (.int .i64 (.lit 40)))] [] []) (.eq (.var 143) (.lit 13))
noncomputable def Nv:List Sx.Spec:=[CX,ow,tS 1001053,m8,iS]
theorem PX:∀ t∈Nv,t.OK Tryz.prog:=fun t ht=>by
 simp only[Nv,Zl,Zq,ZO]at ht;rcases ht with rfl | rfl | rfl | rfl | rfl
 .exact HN
 .exact zy
 .exact Ds _
 .exact zw
 .exact qg
theorem UD:Nv[0]?=some CX:=rfl
theorem UE:Nv[1]?=some ow:=rfl
theorem UF:Nv[2]?=some (tS 1001053):=rfl
theorem UG:Nv[3]?=some m8:=rfl
theorem UH:Nv[4]?=some iS:=rfl
theorem Sv:CX.res=[.one .ptr]:=rfl
theorem Sw:ow.res=[.one .ptr,.one (.int .i64)]:=rfl
theorem Sy (n:Nat):(tS n).res=[.one (.int .i64)]:=rfl
theorem Sz:m8.res=[.agg Rb]:=rfl
theorem SA:iS.res=[.one (.int .i64)]:=rfl
noncomputable def XH:bU Tryz.prog Nv ly.fn where
 Λ:=aM
 args:=[]
 mem:=[.ro 0 [.lit 0,.lit 1,.lit 2,.lit 3,.lit 4,.lit 5] false,.ro 1 [] true]
 nv:=2
 nd:=PV
 ok:=by kernel_rfl
set_option maxRecDepth 20000 in
theorem B8:ly.OK Tryz.prog:=by
 refine Spec.bJ (Γ:=Nv) PX ?_;rintro xs Hs Rs hl1 hl2 ⟨RG,T,g,rfl,rfl,hG,hK⟩;have e0:Hs=[]:=Za.1 hl1;subst e0;refine⟨XH,bw [] false [RG,T],fun _ _=>True,fun _ _=>0,rfl,dB (by intro r hr;simp [XH]at hr;rcases hr with rfl | rfl<;>exact⟨_,_,_,rfl⟩) rfl,(fun _ h=>nomatch h),?_⟩;show Nd.holds _ _ _ PV;unfold PV;generalize hρ:bw [] false [RG,T]=ρ;have V:∀ q:Env,ah 2 ρ q->q.h 0=RG/\q.h 1=T:=fun q g=>by
  rw[g.h 0,g.h 1,<-hρ];exact⟨rfl,rfl⟩
 clear hρ;simp only[Nd.holds,X.pre,X.rel,X.n,Src.ok,Src.len,Src.bG,Zy,Zm,ZG,Zx,Zp,Nat.reduceAdd,Zd,Zh,bn,bj,aJ,aU,aR,bm,aZ,bh,bg,bd,aV,ba,bk,aX,aW,aK,aY,ai,aj,aB,aF,aD,ar,aG,aQ,aP,aq,aI,az,aH,av,TV.ev,SV.ev,CV.ev,Zf,Zr,bx.hl,cu,Cp.sv,Ck.cv,bf,Cp.len,Ck.len,aE,aN,aT,UD,UE,UF,UG,UH,Sv,Sw,Sy,Sz,SA,S7];refine⟨⟨40,rfl⟩,fun q2 g2 ⟨F2,⟨m,em,hD⟩,hF2,_⟩=>?_⟩;simp only[Ze,Value.int.injEq,Zy,Zm]at em;subst em;rw[<-hF2 (by simp [br,Cp.roots,Ck.root])]at hD;have hNew:RS (fb 40) (fT (fb 40)) 20 0/\(fT (fb 40)).recs=[]/\fm (fb 40)=0/\aS (kZ (fb 40))/\aS (gT (fb 40)):=RS.new (m:=40) ⟨by omega,by omega⟩;obtain⟨hRS,ri,hE0,hb1,hb2⟩:=hNew;refine⟨⟨_,_,_,rfl,rfl,hD,hb1,hb2,hE0,ri⟩,fun q4 g4 ⟨F4,⟨dp,H',D',H2,pv,e1,e2,d1,e3,d2,ev,hR⟩,hF4,hn4⟩=>?_⟩;simp only[Ze,Zm]at e1 e2 e3;subst e1 e2;obtain rfl:=hD.uniq d1;simp only[Value.tuple.injEq,ZY,Ze,Value.int.injEq,Zy,Zm]at ev;obtain⟨epv,e6⟩:=ev;rw[<-epv,<-hF4 (by simp [br,Cp.roots,Ck.root])]at hR;rw[<-e3]at d2;have G4:ah 2 ρ q4:=g2.tr g4;obtain⟨v0,v1⟩:=V q4 G4;rw[v0,v1,PW];have hRd:bO T (.slice (aA (-1) 0) (Int.toNat 0) (Int.toNat 0)) qo []:=⟨-1,0,0,rfl,by omega,Or.inl rfl⟩;have hAll:fu T (([]:List (List Value)).map (List.take 125)) []:=⟨rfl,fun j r h hr=>by simp at hr⟩;refine⟨⟨_,1,Ke,T,T,RG,[],[],z0,rfl,rfl,hRd,hAll,by decide,by decide,T6 T,hK⟩,fun q7 g7 ⟨F7,⟨row,er,hp7⟩,hF7,_⟩ q8 g8 _=>?_⟩;have hx:=hp7 _ _ _ _ _ _ _ _ _ rfl rfl hRd hAll (T6 T);have er:=ZL (Value.agg.inj er);rw[HW]at er;rw[<-er,<-hF7 (by decide)]at hx;have A48:ah 7 q4 q8:=g7.tr g8;have G8:ah 2 ρ q8:=G4.tr A48;have hpr:∀ q,ah 139 q7 q->(al 7 iL).map (CV.ev q)=(al 7 iL).map (CV.ev q7):=fun q g=>ZW Array.toList (Value.agg.inj (fQ (ks:=iL) (n:=7) g (by decide)));have hb80:p1.b.length=80:=Z8;refine⟨fun _=>⟨fun _=>?_,fun hbad=>?_⟩,fun hbad=>absurd (by rw[A48.i 6];exact e6) hbad⟩
 rotate_left
 .exfalso;obtain⟨r,ps,x,HS,HI,hp,_⟩:=hR;rw[A48.i 4]at hbad;rw[hbad]at hp;simp [aA]at hp
 obtain⟨x0,x1⟩:=V q8 G8;rw[hpr q8 g8,g8.h 7,x0,x1,A48.i 4,A48.i 5,A48.h 4,A48.h 5];obtain⟨c1,c2,c3⟩:=hRS.pre (by omega);refine⟨⟨_,_,_,_,_,_,_,g,_,_,_,_,_,rfl,rfl,rfl,hR,d2,hx,by show p1.b.length<=2100;omega,fun i _=>Nat.zero_lt_succ _,hG,c1,c2,c3⟩,fun q9 g9 ⟨F9,hp9,_⟩=>?_⟩;obtain⟨hR9,hD9,he9⟩:=me (K1:=q9.h 140) (K2:=q9.h 141) hR d2 hx hp9;obtain⟨f1,f2,hRS9⟩:=hRS.push (by decide) (by omega) hx hb80 (fun _=>[]);have a1:ct (fun _=>[]) (jm [] 1 z0)=0:=Mj;rw[f1,a1]at he9;rw[f2]at hR9;refine⟨fun _=>?_,fun hne=>absurd (by simpa using he9) hne⟩;have A9:ah 139 q7 q9:=g8.tr g9;have A49:ah 7 q4 q9:=A48.tr g9;have G9:ah 2 ρ q9:=G4.tr A49;obtain⟨y0,y1⟩:=V q9 G9;rw[hpr q9 A9,A9.h 7,y0,y1,A49.i 4,A49.i 5];obtain⟨c1,c2,c3⟩:=hRS9.pre (by omega);have hS9:lr (dE (fun _=>[]) (jm [] 1 z0)):=fun i _=>by
  have:=yT (fun _=>[]) (jm [] 1 z0) i;simp only[Zh]at this;omega
 refine⟨⟨_,_,_,_,_,_,_,g,_,_,_,_,_,rfl,rfl,rfl,hR9,hD9,hx,by show p1.b.length<=2100;omega,hS9,hG,c1,c2,c3⟩,fun q10 g10 ⟨F10,hp10,_⟩=>?_⟩;obtain⟨hR10,_,he10⟩:=me (K1:=q10.h 143) (K2:=q10.h 144) hR9 hD9 hx hp10;have a2:ct (dE (fun _=>[]) (jm [] 1 z0)) (jm [] 1 z0)=13:=tH Mj;rw[Dq (by rw[a2];decide)]at hR10 he10;rw[a2]at he10;refine⟨fun _=>?_,fun hne=>absurd (by simpa using he10) hne⟩;obtain⟨r,ps,x,hp,hrb,hIx⟩:=hR10.rd;have n5:0<=q4.i 5:=hn4.1.2;obtain⟨i4,i5⟩:=Bc n5 hp;have A10:ah 7 q4 q10:=A49.tr g10;have cr:(q10.h 143).cell ((r:Int)).toNat (Int.toNat ((0:Int)+1))=some (.pointer (some ⟨x,0,none⟩)):=by
  rw[Y7];unfold Hl.cell;rw[hrb];rfl
 rw[A10.i 4,A10.i 5,i4,i5,cr,fK];refine⟨by omega,by omega,rfl,⟨x,_,_,rfl,rfl,hIx⟩,fun q11 g11 ⟨F11,hp11,_⟩=>?_⟩;have h11:q11.i 146=dv (dE (fun _=>[]) (jm [] 1 z0)):=by simpa using hp11 _ _ _ rfl rfl hIx
 obtain⟨hF,_⟩:=qi a1;have hw:=vX hF;have hc:dv (dE (fun _=>[]) (jm [] 1 z0))=1:=by
  unfold dE;rw[ZA a1,Cf _ _ (by omega)];rfl
 refine rQ rfl ?_;have e:bN q11 ((E.var 146).eq (E.lit 1))=true:=by rw[bd,aj,ai,h11,hc]
 show Value.bool _=_;rw[e]
end Go.Proofs.YtomdimlnggpgbaaGreatDoor
namespace Go.Proofs.YtomdimlnggpgbaaGreatDoor
open Go Go.Sx Go.Pk
def BT (row:List Value) (k:Nat):Nat:=match row[k]? with
 | some (.slice _ l _)=>l
 | _=>0
def qb:Sx.Spec where
 fn:=26
 own:=[]
 rd:=[0]
 res:=[.one .bool]
 pre:=fun xs Hs Rs=>∃ u n R rows,xs=[u,.int .i64 n]/\Rs=[R]/\bO R u qo rows/\n<=100
 post:=fun xs Hs Rs v Hs' F=>∀ u n R rows,xs=[u,.int .i64 n]->Rs=[R]->bO R u qo rows->∃ z,v=.bool z/\(z=true->(rows.length:Int)<=n/\∀ row∈rows,BT row 53<=20/\BT row 125<=2100)
def Az:Nd:=(fun g i d f h=>(fun a=>(fun b c=>(.and (.inv 0 [⟨50,0,.int .i64 h⟩] []) (.havoc 0 0 6 (.and (.e (.le h (.var 2))) (.and (.imp (.lt g (.var 2)) (.and (.imp (.lt g (.lit 100)) (.and (.e (.le h i)) (.and (.e (.le h (.var 1))) (.and (.e (.le h g)) (.and (.e (.his 5 i (.add a (.lit 53)) 0 .slice)) (.and (.e (.le h c)) (.and (.imp (.not (.lt (.lit 20) c)) (.and (.e (.his 5 i (.add a (.lit 125)) 0 .slice)) (.and (.e (.le h b)) (.and (.imp (.lt (.lit 2100) b) f) (.imp (.not (.lt (.lit 2100) b)) (.back 0 0 [⟨50,0,.int .i64 (.wrap .i64 (.add g (.lit 1)))⟩] [])))))) (.imp (.lt (.lit 20) c) f)))))))) (.imp (.not (.lt g (.lit 100))) d))) (.imp (.not (.lt g (.var 2))) d)))):Nd)) (.hP 5 i (.add a (.lit 125)) 0 2) (.hP 5 i (.add a (.lit 53)) 0 2)) (.add (.var 1) (.mul g (.lit 126)))) (.var 50) (.var 0) (.post [.ro 5 [.var 0] false] (.sv (.one (.bool (.le (.var 2) (.var 4)))))) (.post [.ro 5 [.var 0] false] (.sv (.one (.bool .ff)))) (.lit 0)
noncomputable def K5:bU Tryz.prog [] 26 where
 Λ:=fun p=>if lp p then some ⟨0,[(5,TI .i64 (.var 50))],[],60⟩else none
 args:=[.sv (.one (.sl (.var 0) (.var 1) (.var 2) (.var 3))),.sv (.one (.int .i64 (.var 4)))]
 mem:=[.ro 5 [.var 0] false]
 nv:=6
 nd:=Az
 ok:=by kernel_rfl
theorem Io {row:List Value} (h:bS row qo) {k:Nat} (hk:k=53\/k=125):∃ u,row[k]?=some u/\bY (some u) .slice=true/\bM (some u) 2=BT row k:=by
 have hl:=fL h;rw[kN]at hl;have qH:k<row.length:=by omega
 refine⟨row[k],Y8 qH,?_⟩;have h1:bY row[k]? .slice=true:=by
  obtain⟨q,hq,_,_⟩:=Bt (ks:=iL) [] h;rw[hq];rcases hk with rfl | rfl<;>kernel_rfl
 rw[Y8 qH]at h1;refine⟨h1,?_⟩;unfold BT;rw[Y8 qH];cases hv:row[k]with
 | slice a l c=>simp [bM]
 | _=>rw[hv]at h1;simp [bY]at h1
theorem IU:qb.OK Tryz.prog:=by
 refine Spec.bJ (Γ:=[]) (fun _ h=>nomatch h) ?_;rintro xs Hs Rs hl1 hl2 ⟨u,n,R,rows,rfl,rfl,hR,hn⟩;have e0:Hs=[]:=Za.1 hl1;subst e0;obtain⟨x,y,c,rfl,hy,hr⟩:=id hR;refine⟨K5,bw [x,y,rows.length,c,n] false [Hl.none,Hl.none,Hl.none,Hl.none,Hl.none,R],fun _ q=>∃ k:Nat,q.i 50=k/\k<=rows.length/\∀ row∈rows.take k,BT row 53<=20/\BT row 125<=2100,fun _ q=>(rows.length-q.i 50).toNat,?_,dB (by intro r hr;simp [K5]at hr;subst hr;exact⟨_,_,_,rfl⟩) rfl,(fun _ h=>nomatch h),?_⟩
 .show [Value.slice (aA x y) ((rows.length:Int)).toNat ((c:Int)).toNat,_]=_;simp only[Y7];rfl
 show Nd.holds _ _ _ Az;generalize hρ:bw [x,y,rows.length,c,n] false [Hl.none,Hl.none,Hl.none,Hl.none,Hl.none,R]=ρ;have V:∀ q:Env,ah 6 ρ q->q.i 0=x/\q.i 1=y/\q.i 2=rows.length/\q.i 4=n/\q.h 5=R:=fun q hg=>by
  rw[hg.i 0,hg.i 1,hg.i 2,hg.i 4,hg.h 5,<-hρ];exact⟨rfl,rfl,rfl,rfl,rfl⟩
 clear hρ;have out:∀ {q:Env} {e:E} {mem:Mem},(bN q e=true->(rows.length:Int)<=n/\∀ row∈rows,BT row 53<=20/\BT row 125<=2100)->postOf qb [.slice (aA x y) rows.length c,.int .i64 n] [] [R] q mem (.sv (.one (.bool e))):=by
  intro q e mem he;refine rQ rfl fun u' n' R' rows' e1 e2 hR'=>?_;simp only[Ze,Value.int.injEq,Zy,Zm]at e1 e2;obtain⟨rfl,rfl⟩:=e1;subst e2;obtain rfl:=hR.uniq hR';exact⟨_,rfl,he⟩
 have ff:∀ {q:Env} {mem:Mem},postOf qb [.slice (aA x y) rows.length c,.int .i64 n] [] [R] q mem (.sv (.one (.bool .ff))):=out fun e=>by rw[dq]at e;cases e
 unfold Az;simp only[Nd.holds,X.pre,X.rel,X.n,Src.ok,Src.len,Src.bG,Zy,Zm,ZG,Zx,Zp,Nat.reduceAdd,Zd,Zh,bn,bj,aJ,aU,aR,bm,aZ,bh,bg,bd,aV,ba,bk,aX,aW,aK,aY,ai,aj,aB,aF,aD,ar,aG,aQ,aP,aq,aI,az,aH,av,TV.ev,SV.ev,CV.ev,Zf,Zr,bx.hl];refine⟨⟨0,rfl,aam _,fun row h=>by simp at h⟩,fun q g ⟨k,ek,hk,hall⟩=>?_⟩;obtain⟨v0,v1,v2,v4,w5⟩:=V q g;rw[v0,v1,v2,w5,ek];have fin:∀ {q':Env} {mem:Mem},q'=q->(k=rows.length\/100<=k)->postOf qb [.slice (aA x y) rows.length c,.int .i64 n] [] [R] q' mem (.sv (.one (.bool (.le (.var 2) (.var 4))))):=by
  rintro q' mem rfl hkk;refine out fun h=>?_;rw[jO,aj,aj,v2,v4,Zc]at h;have:k=rows.length:=by omega
  refine⟨h,fun row hr=>hall row ?_⟩;rw[this,aad];exact hr
 refine⟨by omega,fun hlt=>⟨fun h100=>?_,fun h100=>fin rfl (Or.inr (by omega))⟩,fun hge=>fin rfl (Or.inl (by omega))⟩;have hkr:rows[k]?=some rows[k]:=Y8 (by omega);rcases hr with rfl | ⟨hx,hr⟩
 .simp at hlt;omega
 obtain⟨hok,hcell⟩:=hr k _ hkr;rw[kN]at hcell;obtain⟨u1,hu1,s1,s2⟩:=Io hok (Or.inl rfl);obtain⟨u2,hu2,s3,s4⟩:=Io hok (Or.inr rfl);have k1:R.cell x.toNat (y+(k:Int)*126+53).toNat=some u1:=by rw[show(y+(k:Int)*126+53).toNat=y.toNat+k*126+53 by omega];exact hcell 53 _ hu1
 have k2:R.cell x.toNat (y+(k:Int)*126+125).toNat=some u2:=by rw[show(y+(k:Int)*126+125).toNat=y.toNat+k*126+125 by omega];exact hcell 125 _ hu2
 rw[k1,k2,s2,s4];refine⟨hx,hy,by omega,s1,by omega,fun h20=>⟨s3,by omega,fun _=>ff,fun hb=>⟨⟨k+1,?_,by omega,fun row aL=>?_⟩,?_⟩⟩,fun _=>ff⟩
 .show IntKind.i64.wrap (q.i 50+1)=_;rw[ek];exact wrap_i64 (by omega) (by omega)
 .rw[aaC,hkr,aaE]at aL;rcases ZT.1 aL with h | h
  .exact hall row h
  .rw[Zn]at h;subst h;exact⟨by omega,by omega⟩
 .show((rows.length:Int)-IntKind.i64.wrap (q.i 50+1)).toNat<_;rw[ek,wrap_i64 (by omega) (by omega)];omega
open Go.Proofs.YtomdimlnggpgbaaGreatDoor.D hiding bw aM gC
def GI:Sx.Spec where
 fn:=5
 own:=[]
 rd:=[0,2000000]
 res:=[.one .bool]
 pre:=fun xs Hs Rs=>∃ v T RG g rows,xs=[v]/\Rs=[T,RG]/\bO T v qo rows/\(∀ row∈rows,BT row 53<=20->BT row 125<=2100->∃ c,gm T T row c)/\(Gl RG g/\uz RG 5/\RG.cell 4 0=some yG)/\uz RG 3
 post:=fun xs Hs Rs v Hs' F=>v=.bool true
def Uh:E:=.wrap .i64 (.add (.lit 1) (.rem (.var 69) (.lit 4)))
def O4:E:=.wrap .i64 (.sub Uh (.lit 1))
def PL (k:Nat):E:=.hP 64 (.var 18) O4 0 k
def Uf (k:Nat):E:=.hP 61 (.var 10) (.add (.var 11) (.lit 1)) 0 k
def Ug (k:Nat):E:=.hP 63 (.var 15) (.add (.var 16) (.lit 1)) 0 k
def RU:Nd:=(fun a w m q g a2 x i b3 d b5 b4 b2 j l o u v a7 b0=>(fun b c a9 h k y a4 r t z a0 a1 a3 a8=>(fun f n p s a5 a6 b1=>(.and (.pre (.call 5 6 [] [] k)) (.ext (.call 5 6 [] [] k) (.and (.imp (.bvar 6) (.and (.pre r) (.ext r (.and (.imp (.not (.bvar 7)) (.and (.pre (.call 5 8 [] [] k)) (.ext (.call 5 8 [] [] k) (.post a4 (.sv (.one (.bool (.bvar 8)))))))) (.imp (.bvar 7) (.and (.pre (.call 0 8 u [] [])) (.ext (.call 0 8 u [] []) (.and (.pre a0) (.ext a0 (.and (.pre (.call 0 13 u [] [])) (.ext (.call 0 13 u [] []) (.and (.pre z) (.ext z (.and (.imp (.eq (.var 12) d) (.and (.imp (.not (.eq (.var 17) d)) t) (.imp (.eq (.var 17) d) (.ext (.alloc 18) (.ext (.IX 19 (.bD 18 [.sl a7 d d d,.sl a7 d d d,.sl a7 d d d,.sl a7 d d d,.sl a7 d d d,.sl a7 d d d] 57)) (.and (.inv 0 [⟨69,0,.int .i64 d⟩] [(60,some 10),(61,some 11),(62,some 15),(63,some 16),(64,some 19)]) (.havoc 0 0 20 (.and (.e (.le d (.var 2))) (.and (.imp (.lt b5 (.var 2)) (.and (.e (.le d (.var 18))) (.and (.e (.le d O4)) (.and (.e (.lt O4 (.lit 6))) (.and (.e (.his 64 (.var 18) O4 0 .slice)) (.and (.e (.le d (.var 0))) (.and (.e (.le d (.var 1))) (.and (.e (.le d b5)) (.and (.e (.hks 4 (.var 0) a9 qo)) (.and (.pre f) (.ext f (.ext (.alloc 202) (.ext (.L8 203 (.hp 64 [] w []) (.hp 70 [] [.var 198] [])) (.and (.pre p) (.ext p (.and (.pre a6) (.ext a6 (.and (.imp (.eq (.var 206) b0) (.and (.pre s) (.ext s (.and (.imp (.eq (.var 209) b0) (.and (.imp (.eq b0 d) (.and (.pre a5) (.ext a5 (.and (.imp (.not (.eq (.var 212) (.lit 13))) (.post [.ro 4 x true,.ro 5 a false,.hp 213 [207,60] g [],.hp 212 [206,61] q g,.hp 210 [62] m [],.hp 209 [63] a2 m,.hp 204 b3 i [],.dead,.dead] o)) (.imp (.eq (.var 212) (.lit 13)) (.back 0 0 a3 [(60,some 213),(61,some 212),(62,some 210),(63,some 209),(64,some 204)])))))) (.imp (.not (.eq b0 d)) (.back 0 0 a3 [(60,some 207),(61,some 206),(62,some 210),(63,some 209),(64,some 204)])))) (.imp (.not (.eq (.var 209) b0)) (.post [.ro 4 x true,.ro 5 a false,.hp 207 [60] g [],.hp 206 [61] q g,.hp 210 [62] m [],.hp 209 [63] a2 m,.hp 204 b3 i [],.dead,.dead] o)))))) (.imp (.not (.eq (.var 206) b0)) (.post [.ro 4 x true,.ro 5 a false,.hp 207 [60] g [],.hp 206 [61] q g,.hp 62 [] m [],.hp 63 [] a2 m,.hp 204 b3 i [],.dead,.dead] o)))))))))))))))))))) (.imp (.not (.lt b5 (.var 2))) (.ext (.alloc 70) (.and (.e (.le d (.var 10))) (.and (.e (.le d (.var 11))) (.and (.e (.his 61 (.var 10) (.add (.var 11) (.lit 1)) 0 .ptr)) (.and (.pre (.call 9 71 l [] a1)) (.ext (.call 9 71 l [] a1) (.ext (.alloc 77) (.and (.e (.le d (.var 15))) (.and (.e (.le d (.var 16))) (.and (.e (.his 63 (.var 15) (.add (.var 16) (.lit 1)) 0 .ptr)) (.and (.pre (.call 9 78 v [] a8)) (.ext (.call 9 78 v [] a8) (.and (.imp j (.and (.pre (.call 4 84 l [] a1)) (.ext (.call 4 84 l [] a1) (.and (.pre (.call 4 85 v [] a8)) (.ext (.call 4 85 v [] a8) (.and (.imp (.eq (.var 84) (.var 85)) (.and (.pre (.call 4 86 l [] a1)) (.ext (.call 4 86 l [] a1) (.and (.pre b1) (.ext b1 (.and (.imp (.eq (.var 86) (.var 87)) (.and (.pre n) (.ext n (.post b (.sv (.one (.bool (.bvar 88)))))))) (.imp (.not (.eq (.var 86) (.var 87))) (.post b o)))))))) (.imp (.not (.eq (.var 84) (.var 85))) (.post b o)))))))) (.imp (.not j) (.post b o))))))))))))))))))))))))) (.imp (.not (.eq (.var 12) d)) t))))))))))))))) (.imp (.not (.bvar 6)) (.and (.pre (.call 5 7 [] [] k)) (.ext (.call 5 7 [] [] k) (.post a4 (.sv (.one (.bool (.bvar 7)))))))))):Nd)) (.call 3 70 [.sv (.one (.sl (PL 0) (PL 1) (PL 2) (PL 3))),.sv (.one (.int .i64 Uh)),.sv (.agg (bo 4 (.var 0) a9 0 qo))] [] [.hp 64 [] w [],.ro 4 x true,.ro 5 a false]) (.call 8 88 [.sv b4,.sv y] [] [.hp 61 [] q g,.hp 64 [] w [],.ro 4 x true]) (.call 7 204 [.sv y,.sv b2] [.hp 203 [64,70] i []] a4) (.call 2 209 [.sv (.one (.hptr (.var 15) (.var 16))),.sv b2] [.hp 63 [] a2 m,.hp 62 [] m []] c) (.call 2 212 h [.hp 206 [61] q g,.hp 207 [60] g []] c) (.call 2 206 h [.hp 61 [] q g,.hp 60 [] g []] c) (.call 10 87 [.sv y] [] [.hp 64 [] w []])) [.ro 4 x true,.ro 5 a false,.hp 60 [] g [],.hp 61 [] q g,.hp 62 [] m [],.hp 63 [] a2 m,.hp 64 [] w [],.dead,.dead] [.ro 4 x true,.hp 204 b3 i [],.ro 5 a false] (.add (.var 1) (.mul b5 (.lit 126))) [.sv b4,.sv b2] [.ro 5 a false,.ro 4 x true] (.one (.hptr (.var 18) d)) [.ro 4 x true,.ro 5 a false] (.call 6 7 [.sv (.one (.sl (.var 0) (.var 1) (.var 2) (.var 3))),.sv (.one (.int .i64 (.lit 15)))] [] [.ro 4 x true]) (.post [.ro 4 x true,.ro 5 a false,.hp 10 [8] g [],.hp 11 [] q g,.hp 15 [13] m [],.hp 16 [] a2 m] o) (.call 1 15 [.sv (.one (.hptr (.var 13) (.var 14)))] [.hp 13 [] m []] []) (.call 1 10 [.sv (.one (.hptr (.var 8) (.var 9)))] [.hp 8 [] g []] []) [.hp 61 [] q g] [⟨69,0,.int .i64 (.wrap .i64 (.add b5 (.lit 1)))⟩] [.hp 63 [] a2 m]) [.lit 0,.lit 1,.lit 2,.lit 3,.lit 4,.lit 5] [.var 18,.lit (-7)] [.var 13] [.var 10] [.var 8] [.var 15] [.var 0] [.var 18,.lit (-7),.var 198,.var 198] [203,64,70] (.lit 0) (.var 69) (.one (.hptr (.var 10) (.var 11))) (.agg (al 70 iL)) (.and (.eq (.var 71) (.var 78)) (.and (.eq (.var 72) (.var 79)) (.and (.eq (.var 73) (.var 80)) (.and (.eq (.var 74) (.var 81)) (.and (.eq (.var 75) (.var 82)) (.eq (.var 76) (.var 83))))))) [.sv (.one (.hptr (Uf 0) (Uf 1)))] (.sv (.one (.bool .ff))) [.sv (.one (.int .i64 (.lit 1000)))] [.sv (.one (.hptr (Ug 0) (Ug 1)))] (.lit (-1)) (.var 204)
noncomputable def GJ:List Sx.Spec:=[CX,ow,tS 1001053,m8,iS,ly,qb,zD 1001053,Uk pf [0,1,100],kG,jF]
theorem RV:∀ t∈GJ,t.OK Tryz.prog:=fun t ht=>by
 simp only[GJ,Zl,Zq,ZO]at ht;rcases ht with rfl | rfl | rfl | rfl | rfl | rfl | rfl | rfl | rfl | rfl | rfl
 .exact HN
 .exact zy
 .exact Ds _
 .exact zw
 .exact qg
 .exact B8
 .exact IU
 .exact MM _
 .exact RX rfl rfl Gf
 .exact wv
 .exact xw
theorem Xj:GJ[0]?=some CX:=rfl
theorem Xk:GJ[1]?=some ow:=rfl
theorem Xl:GJ[2]?=some (tS 1001053):=rfl
theorem Xm:GJ[3]?=some m8:=rfl
theorem Xn:GJ[4]?=some iS:=rfl
theorem Xo:GJ[5]?=some ly:=rfl
theorem Xp:GJ[6]?=some qb:=rfl
theorem Xq:GJ[7]?=some (zD 1001053):=rfl
theorem Xr:GJ[8]?=some (Uk pf [0,1,100]):=rfl
theorem Xs:GJ[9]?=some kG:=rfl
theorem T0:GJ[10]?=some jF:=rfl
theorem Xt:ly.res=[.one .bool]:=rfl
theorem Xu:qb.res=[.one .bool]:=rfl
theorem Xv (n:Nat):(zD n).res=[.one (.int .i64)]:=rfl
theorem Xw (l:List Nat):(Uk pf l).res=[.one .bool]:=rfl
theorem Xx:kG.res=[.agg (List.replicate 6 (Ck.int .u64))]:=rfl
theorem T1:jF.res=[.one (.int .i64)]:=rfl
noncomputable def X5:bU Tryz.prog GJ GI.fn where
 Λ:=fun p=>if lp p&&p.head?==some 5 then some ⟨0,[(8,TI .i64 (.var 69))],[(2,.hp 60 [] [.var 8] []),(3,.hp 61 [] [.var 10] [.var 8]),(4,.hp 62 [] [.var 13] []),(5,.hp 63 [] [.var 15] [.var 13]),(6,.hp 64 [] [.var 18,.lit (-7)] [])],70⟩else none
 args:=[.sv (.one (.sl (.var 0) (.var 1) (.var 2) (.var 3)))]
 mem:=[.ro 4 [.var 0] true,.ro 5 [.lit 0,.lit 1,.lit 2,.lit 3,.lit 4,.lit 5] false]
 nv:=6
 nd:=RU
 ok:=by kernel_rfl
def XG (T:Hl) (dpa dpb pa pb:Value) (x:Nat) (HDa HRa HDb HRb HX:Hl) (k:Nat):Prop :=
 ∃ Da Sa Db Sb st,(di HRa pa dpa Sa st/\aO HDa dpa Da/\RS Da Sa 500 k)/\(di HRb pb dpb Sb st/\aO HDb dpb Db/\RS Db Sb 500 k)/\jx HX T x st/\(∀ i,i<6->(st i).length<=k)/\Good st
theorem xH {dp:Value} {H:Hl} {D:DM} (hD:aO H dp D) {v:Value} {K F:Hl} (h:ow.post [dp] [H] [] v [K] F):∃ pv,v=.tuple #[pv,.int .i64 0]/\aO K dp D/\di F pv dp (fT D) (fun _=>[]):=by
 obtain⟨dp',H',D',H2,pv,e1,e2,d1,e3,d2,ev,hR⟩:=h;simp only[Ze,Zm]at e1 e2 e3;subst e1 e2 e3;obtain rfl:=hD.uniq d1;exact⟨pv,ev,d2,hR⟩
theorem Rm (T:Hl) {H:Hl} {x:Nat} (h:H x=some (.cells #[.slice none 0 0,.slice none 0 0,.slice none 0 0,.slice none 0 0,.slice none 0 0,.slice none 0 0] 57 (0,0))):jx H T x (fun _=>[]) :=
 ⟨fun _=>.slice none 0 0,Hl.none,h,fun i _=>⟨[],uw.nil _ _ _,rfl,fun j row p hr=>by simp at hr⟩,fun b o hb=>(by cases hb),fun hm=>(by cases hm),fun i b _ hb=>(by cases hb),fun i _ p hp=>(by cases hp)⟩
theorem sm.mono {R R':Hl} (hl:R.le R') {p:Value} {st:Nat->List Pc} (h:sm R p st):sm R' p st:=by
 obtain⟨r,ps,x,hp,hb,hI⟩:=h;exact⟨r,ps,x,hp,hl _ _ hb,hI.mono hl⟩
theorem Good.put {st:Nat->List Pc} {p:Pc} (h:Good st) (hb:aS p.b/\p.b.length<=1000000):Good (dE st p):=by
 unfold dE;split
 .intro i hi q hq;unfold te at hq;split at hq
  .rename_i e;rcases ZT.1 hq with h1 | h1
   .exact h _ (e▸hi) q h1
   .rw[Zn]at h1;rw[h1];exact hb
  .exact h i hi q hq
 .exact h
theorem Dz {x:Nat} {R T:Hl} {st:Nat->List Pc} (hD:jx R T x st) {v:Value} {K:List Hl} {F:Hl} (h:jF.post [.pointer (some ⟨x,0,none⟩)] [] [R] v K F):v=.int .i64 (dv st):=by
 obtain⟨x',R',T',st',f1,f2,hD',hv⟩:=h;simp only[Ze,Zm,Value.pointer.injEq,Zj,Addr.mk.injEq]at f1 f2;subst f1 f2;obtain⟨sv,KB,hD⟩:=hD;obtain⟨sv',KB',hD'⟩:=hD';have el:∀ i,i<6->(st i).length=(st' i).length:=fun i hi=>by
  obtain⟨a1,_,a2,_⟩:=hD.sl hi;obtain⟨b1,_,b2,_⟩:=hD'.sl hi;rw[a1]at b1;rw[<-Z1 b1,a2]at b2;omega
 rw[hv];unfold dv;rw[el 0 (by omega),el 1 (by omega),el 2 (by omega),el 3 (by omega),el 4 (by omega),el 5 (by omega)]
set_option maxRecDepth 20000 in
theorem J1:GI.OK Tryz.prog:=by
 refine Spec.bJ (Γ:=GJ) RV ?_;rintro xs Hs Rs hl1 hl2 ⟨v,T,RG,g,rows,rfl,rfl,hR,hP,hG,hK⟩;have e0:Hs=[]:=Za.1 hl1;subst e0;obtain⟨x,y,c,rfl,hy,hRR⟩:=id hR;refine⟨X5,bw [x,y,rows.length,c] false [Hl.none,Hl.none,Hl.none,Hl.none,T,RG],
  fun _ q=>∃ (k z:Nat),q.i 69=k/\k<=rows.length/\q.i 18=z/\XG T (.pointer (aA (q.i 8) (q.i 9))) (.pointer (aA (q.i 13) (q.i 14))) (.pointer (aA (q.i 10) (q.i 11))) (.pointer (aA (q.i 15) (q.i 16))) z (q.h 60) (q.h 61) (q.h 62) (q.h 63) (q.h 64) k,
  fun _ q=>(rows.length-q.i 69).toNat,?_,dB (by intro r hr;simp [X5]at hr;rcases hr with rfl | rfl<;>exact⟨_,_,_,rfl⟩) rfl,(fun _ h=>nomatch h),?_⟩
 .show [Value.slice (aA x y) ((rows.length:Int)).toNat ((c:Int)).toNat]=_;simp only[Y7]
 show Nd.holds _ _ _ RU;unfold RU;generalize hρ:bw [x,y,rows.length,c] false [Hl.none,Hl.none,Hl.none,Hl.none,T,RG]=ρ;have V:∀ q:Env,ah 6 ρ q->q.i 0=x/\q.i 1=y/\q.i 2=rows.length/\q.i 3=c/\q.h 4=T/\q.h 5=RG:=fun q g=>by
  rw[g.i 0,g.i 1,g.i 2,g.i 3,g.h 4,g.h 5,<-hρ];exact⟨rfl,rfl,rfl,rfl,rfl,rfl⟩
 clear hρ;simp only[Nd.holds,X.pre,X.rel,X.n,Src.ok,Src.len,Src.bG,Zy,Zm,ZG,Zx,Zp,Nat.reduceAdd,Zd,Zh,bn,bj,aJ,aU,aR,bm,aZ,bh,bg,bd,aV,ba,bk,aX,aW,aK,aY,ai,aj,aB,aF,aD,ar,aG,aQ,aP,aq,aI,az,aH,av,TV.ev,SV.ev,CV.ev,Zf,Zr,bx.hl,cu,Cp.sv,Ck.cv,bf,Cp.len,Ck.len,aE,aN,aT,Xj,Xk,Xl,Xm,Xn,Xo,Xp,Xq,Xr,Xs,T0,Sv,Sw,Sy,Sz,SA,Xt,Xu,Xv,Xw,Xx,T1];have aw:∀ {q:Env},ah 6 ρ q->ly.pre [] [] [q.h 5,q.h 4]:=fun hg=>⟨RG,T,g,rfl,by rw[(V _ hg).2.2.2.2.1,(V _ hg).2.2.2.2.2],hG,hK⟩;have out:∀ {q:Env} {mem:Mem} {e:E},bN q e=true->postOf GI [.slice (aA x y) rows.length c] [] [T,RG] q mem (.sv (.one (.bool e))):=fun h=>rQ rfl (by show Value.bool _=_;rw[h]);refine⟨aw (ah.refl _ _),fun q1 g1 ⟨_,p1,_,_⟩=>⟨fun _=>?_,fun h=>absurd (Value.bool.inj p1) h⟩⟩;obtain⟨v0,v1,v2,v3,w4,w5⟩:=V q1 g1;rw[v0,v1,v2,v3,w4,Y7,Y7];refine⟨⟨_,15,T,rows,rfl,rfl,hR,by decide⟩,fun q2 g2 ⟨_,p2,_,_⟩=>?_⟩;obtain⟨z,hz,hz2⟩:=p2 _ _ _ _ rfl rfl hR;have hz:q2.b 7=z:=Value.bool.inj hz;have G2:ah 6 ρ q2:=g1.tr g2;refine⟨fun _=>⟨aw G2,fun q3 _ ⟨_,p3,_,_⟩=>out (Value.bool.inj p3)⟩,fun h7=>?_⟩;rw[hz]at h7;obtain⟨hl15,hrows⟩:=hz2 h7;have hNew:RS (fb 1000) (fT (fb 1000)) 500 0/\(fT (fb 1000)).recs=[]/\fm (fb 1000)=0/\aS (kZ (fb 1000))/\aS (gT (fb 1000)):=RS.new (m:=1000) ⟨by omega,by omega⟩;have newP:∀ {v:Value} {F:Hl},CX.post [.int .i64 1000] [] [] v [] F->aO F v (fb 1000):=by
  rintro v F ⟨m,em,hD⟩;simp only[Ze,Value.int.injEq,Zy,Zm]at em;subst em;exact hD
 generalize fb 1000=D0 at hNew newP;obtain⟨hRS,ri,hE0,hb1,hb2⟩:=hNew;refine⟨⟨1000,rfl⟩,fun q3 g3 ⟨F3,p3,hF3,_⟩=>?_⟩;have hD3:=newP p3;rw[<-hF3 (by simp [br,Cp.roots,Ck.root])]at hD3;refine⟨⟨_,_,_,rfl,rfl,hD3,hb1,hb2,hE0,ri⟩,fun q4 g4 ⟨F4,p4,hF4,hn4⟩=>?_⟩;obtain⟨pv,hv4,hD4,hR4⟩:=xH (K:=q4.h 10) hD3 p4;simp only[Value.tuple.injEq,ZY,Ze,Value.int.injEq,Zy,Zm]at hv4;obtain⟨rfl,e12⟩:=hv4;rw[<-hF4 (by simp [br,Cp.roots,Ck.root])]at hR4;refine⟨⟨1000,rfl⟩,fun q5 g5 ⟨F5,p5,hF5,_⟩=>?_⟩;have hD5:=newP p5;rw[<-hF5 (by simp [br,Cp.roots,Ck.root])]at hD5;refine⟨⟨_,_,_,rfl,rfl,hD5,hb1,hb2,hE0,ri⟩,fun q6 g6 ⟨F6,p6,hF6,hn6⟩=>?_⟩;obtain⟨pv,hv6,hD6,hR6⟩:=xH (K:=q6.h 15) hD5 p6;simp only[Value.tuple.injEq,ZY,Ze,Value.int.injEq,Zy,Zm]at hv6;obtain⟨rfl,e17⟩:=hv6;rw[<-hF6 (by simp [br,Cp.roots,Ck.root])]at hR6;have A46:ah 13 q4 q6:=g5.tr g6;refine⟨fun _=>⟨fun h=>absurd e17 h,fun _ q7 g7 n7 q8 g8 h19=>?_⟩,fun h=>absurd ((A46.i 12).trans e12) h⟩;have A48:ah 13 q4 q8:=A46.trans (g7.mono.tr g8);have A38:ah 10 q3 q8:=g4.tr A48;have A68:ah 18 q6 q8:=g7.tr g8;have A58:ah 15 q5 q8:=g6.tr A68;have e18:q8.i 18=q7.i 18:=g8.i 18;refine⟨⟨0,(q7.i 18).toNat,rfl,aam _,by show q8.i 18=_;omega,?_⟩,fun q9 g9 ⟨k,z,ek,hk,ez,hI⟩=>?_⟩
 .refine⟨D0,fT D0,D0,fT D0,fun _=>[],⟨?_,?_,hRS⟩,⟨?_,?_,hRS⟩,?_,fun _ _=>aam _,fun _ _ p hp=>by cases hp⟩
  .show di (q8.h 11) (.pointer (aA (q8.i 10) (q8.i 11))) (.pointer (aA (q8.i 8) (q8.i 9))) _ _;rw[A48.h 11,A48.i 10,A48.i 11,A38.i 8,A38.i 9];exact hR4
  .show aO (q8.h 10) (.pointer (aA (q8.i 8) (q8.i 9))) _;rw[A48.h 10,A38.i 8,A38.i 9];exact hD4
  .show di (q8.h 16) (.pointer (aA (q8.i 15) (q8.i 16))) (.pointer (aA (q8.i 13) (q8.i 14))) _ _;rw[A68.h 16,A68.i 15,A68.i 16,A58.i 13,A58.i 14];exact hR6
  .show aO (q8.h 15) (.pointer (aA (q8.i 13) (q8.i 14))) _;rw[A68.h 15,A58.i 13,A58.i 14];exact hD6
  .show jx (q8.h 19) _ _ _;rw[h19];exact Rm T (Hl.bF _ _)
 have G9:ah 6 ρ q9:=G2.trans (g3.mono.trans (g4.mono.trans (g5.mono.trans (g6.mono.trans (g7.mono.trans (g8.mono.tr g9))))));obtain⟨v0,v1,v2,v3,w4,w5⟩:=V q9 G9;obtain⟨Da,Sa,Db,Sb,st,⟨ra,da,sa⟩,⟨rb,db,sb⟩,hX,hlen,hGood⟩:=hI;rw[v2,ek];refine⟨by omega,fun hlt=>?_,fun hge=>?_⟩
 .have qH:k<rows.length:=by omega
  have hmod:((k:Nat):Int).tmod 4=((k%4:Nat):Int):=by rw[aai (by omega)];omega
  have hJ6:k%4<6:=by omega
  generalize k%4=j at hmod hJ6;have hN:∀ q:Env,q.i 69=k->aC q Uh=(j:Int)+1:=fun q h=>by
   show IntKind.i64.wrap (1+(q.i 69).tmod 4)=_;rw[h,hmod,IntKind.wrap_i64];omega
  have hJ:∀ q:Env,q.i 69=k->aC q O4=j:=fun q h=>by
   show IntKind.i64.wrap (aC q Uh-1)=_;rw[hN q h,IntKind.wrap_i64];omega
  obtain⟨sv,KB,hXD⟩:=id hX;obtain⟨cS,csl,cl,cs⟩:=hXD.sl hJ6;obtain⟨rws,ho,hrl,hrp⟩:=hXD.row j hJ6;have hljk:=hlen j hJ6;have hAll:fu T (rws.map (List.take 125)) (kF st j):=by
   refine⟨by unfold kF;rw[ZD,ZD,hrl],fun j r h hr hh=>?_⟩;unfold kF at hh;rw[Zs]at hr hh;obtain⟨r0,ri,rfl⟩:=Zk.1 hr;obtain⟨p0,hp0,rfl⟩:=Zk.1 hh;exact(hrp j r0 p0 ri hp0).hd
  have hrk:rows[k]?=some rows[k]:=Y8 qH;have hmem:rows[k]∈rows:=aay qH;obtain⟨p,hp⟩:=hP _ hmem (hrows _ hmem).1 (hrows _ hmem).2;generalize rows[k]=row at hrk hp;rcases hRR with h0 | ⟨hx0,hRR⟩
  .rw[h0]at qH;simp at qH
  obtain⟨hok,hcell⟩:=hRR k row hrk;have hc:∀ i u,row[i]?=some u->T.cell x.toNat ((y+(k:Int)*126).toNat+i)=some u:=fun i u hu=>by
   have:=hcell i u hu;rw[kN]at this;rw[show(y+(k:Int)*126).toNat=y.toNat+k*126 by omega];exact this
  have eS:Value.slice (aA (aC q9 (PL 0)) (aC q9 (PL 1))) (aC q9 (PL 2)).toNat (aC q9 (PL 3)).toNat=sv j:=by
   show Value.slice (aA (bM ((q9.h 64).cell (q9.i 18).toNat ((aC q9 O4).toNat+0)) 0) (bM ((q9.h 64).cell (q9.i 18).toNat ((aC q9 O4).toNat+0)) 1)) (bM ((q9.h 64).cell (q9.i 18).toNat ((aC q9 O4).toNat+0)) 2).toNat (bM ((q9.h 64).cell (q9.i 18).toNat ((aC q9 O4).toNat+0)) 3).toNat=_;rw[hJ q9 ek,ez,Zp,Y7,Y7,cS,iB csl]
  have eR:(bo 4 (E.var 0) ((E.var 1).add ((E.var 69).mul (E.lit 126))) 0 qo).map (CV.ev q9)=row:=fj row qo 0 hok fun i u hu=>by
   rw[aj,aB,aD,aj,aj,ai,v0,v1,ek,w4,ZM];exact hc i u hu
  rw[eS,eR,hN q9 ek,hJ q9 ek,w4,w5,v0,v1,ez,Y7,Y7];refine⟨by omega,by omega,by omega,by rw[cS];exact cs,hx0,hy,by omega,ke _ hok hc,⟨sv j,_,row,_,T,RG,rws,kF st j,p,rfl,rfl,ho.rd,hAll,by omega,by omega,hp,hK⟩,fun q10 g10 ⟨F10,⟨row',er,hpo⟩,hF10,_⟩ q11 g11 _ q12 g12 ⟨h203,hdis⟩=>?_⟩;have hx:=hpo _ _ _ _ _ _ _ _ _ rfl rfl ho.rd hAll hp;have er:=ZL (Value.agg.inj er);rw[HW]at er;rw[<-hF10 (by decide)]at hx;have hb80:(jm (kF st j) ((j:Int)+1) p).b.length=80:=Z8;generalize jm (kF st j) ((j:Int)+1) p=P at hx hb80;have hpr:∀ q,ah 202 q10 q->(al 70 iL).map (CV.ev q)=row':=fun q g=>(ZW Array.toList (Value.agg.inj (fQ (ks:=iL) (n:=70) g (by decide)))).trans er;have W:∀ q,ah 70 q9 q->(q.i 8=q9.i 8/\q.i 9=q9.i 9/\q.i 10=q9.i 10/\q.i 11=q9.i 11/\q.i 13=q9.i 13/\q.i 14=q9.i 14/\q.i 15=q9.i 15/\q.i 16=q9.i 16/\q.i 18=z/\q.i 69=k)/\q.h 4=T/\q.h 5=RG/\q.h 60=q9.h 60/\q.h 61=q9.h 61/\q.h 62=q9.h 62/\q.h 63=q9.h 63/\q.h 64=q9.h 64:=fun q g=>by
   rw[g.i 8,g.i 9,g.i 10,g.i 11,g.i 13,g.i 14,g.i 15,g.i 16,g.i 18,g.i 69,g.h 4,g.h 5,g.h 60,g.h 61,g.h 62,g.h 63,g.h 64];exact⟨⟨rfl,rfl,rfl,rfl,rfl,rfl,rfl,rfl,ez,ek⟩,w4,w5,rfl,rfl,rfl,rfl,rfl⟩
  have B11:ah 70 q9 q11:=g10.tr g11;have B12:ah 70 q9 q12:=B11.tr g12;have C12:ah 202 q10 q12:=g11.tr g12;rw[(W q11 B11).2.2.2.2.2.2.2,g11.h 70]at h203 hdis;obtain⟨⟨a8,a9,a10,a11,a13,a14,a15,a16,a18,a69⟩,b4,b5,b60,b61,b62,b63,b64⟩:=W q12 B12;rw[hpr q12 C12,h203,b4,b5,a18,gM z];have hS:lr st:=fun i hi=>by have:=hlen i hi;omega
  refine⟨⟨z,_,_,row',T,RG,st,P,rfl,rfl,rfl,hdis,hX,hS,fun i hi=>by have:=hlen i hi;omega,hx,by omega,hK⟩,fun q13 g13 ⟨F13,p13,_⟩=>?_⟩;obtain⟨e13,hX13,hx13⟩:=JI (K:=q13.h 204) hdis hX hx p13;have e13:q13.i 204=ct st P:=by simpa using e13
  have B13:ah 70 q9 q13:=B12.tr g13;have C13:ah 202 q10 q13:=C12.tr g13;obtain⟨⟨a8,a9,a10,a11,a13,a14,a15,a16,a18,a69⟩,b4,b5,b60,b61,b62,b63,b64⟩:=W q13 B13;rw[hpr q13 C13,b4,b5,b60,b61,a10,a11];obtain⟨c1,c2,c3⟩:=sa.pre (by omega);refine⟨⟨_,_,_,row',T,_,RG,g,_,_,_,st,P,rfl,rfl,rfl,ra,da,hx13,by omega,hS,hG,c1,c2,c3⟩,fun q14 g14 ⟨F14,p14,_⟩=>?_⟩;obtain⟨ra1,da1,ea1⟩:=me (K1:=q14.h 206) (K2:=q14.h 207) ra da hx13 p14;obtain⟨fa1,fa2,sa1⟩:=sa.push (by omega) (by omega) hx13 hb80 st;rw[fa1]at ea1;rw[fa2]at ra1;have e14:q14.i 206=ct st P:=by simpa using ea1
  have B14:ah 70 q9 q14:=B13.tr g14;have C14:ah 202 q10 q14:=C13.tr g14;have x14:q14.i 204=ct st P:=(g14.i 204).trans e13;refine⟨fun _=>?_,fun hne=>absurd (e14.trans x14.symm) hne⟩;obtain⟨⟨a8,a9,a10,a11,a13,a14,a15,a16,a18,a69⟩,b4,b5,b60,b61,b62,b63,b64⟩:=W q14 B14;rw[hpr q14 C14,b4,b5,b62,b63,a15,a16,g14.h 204];obtain⟨c1,c2,c3⟩:=sb.pre (by omega);refine⟨⟨_,_,_,row',T,_,RG,g,_,_,_,st,P,rfl,rfl,rfl,rb,db,hx13,by omega,hS,hG,c1,c2,c3⟩,fun q15 g15 ⟨F15,p15,_⟩=>?_⟩;obtain⟨rb1,db1,eb1⟩:=me (K1:=q15.h 209) (K2:=q15.h 210) rb db hx13 p15;obtain⟨fb1,fb2,sb1⟩:=sb.push (by omega) (by omega) hx13 hb80 st;rw[fb1]at eb1;rw[fb2]at rb1;have e15:q15.i 209=ct st P:=by simpa using eb1
  have B15:ah 70 q9 q15:=B14.tr g15;have C15:ah 202 q10 q15:=C14.tr g15;have x15:q15.i 204=ct st P:=(g15.i 204).trans x14;refine⟨fun _=>?_,fun hne=>absurd (e15.trans x15.symm) hne⟩;have A1315:ah 206 q13 q15:=g14.tr g15;rw[<-A1315.h 204]at hX13 hx13;rw[<-g15.h 206]at ra1;rw[<-g15.h 207]at da1;have hG1:Good (dE st P):=hGood.put ⟨hx13.byte,hx13.len⟩;have hl1:∀ i,i<6->(dE st P i).length<=k+1:=fun i hi=>by
   have h1:=yT st P i;have h2:=hlen i hi;omega
  have back:∀ (q:Env) (h60 h61:Nat) (D1:DM) (S1:SM),ah 212 q15 q->di (q.h h61) (.pointer (aA (q9.i 10) (q9.i 11))) (.pointer (aA (q9.i 8) (q9.i 9))) S1 (dE st P)->aO (q.h h60) (.pointer (aA (q9.i 8) (q9.i 9))) D1->RS D1 S1 500 (k+1) ->
   (fun q':Env=>(∃ (k z:Nat),q'.i 69=k/\k<=rows.length/\q'.i 18=z/\XG T (.pointer (aA (q'.i 8) (q'.i 9))) (.pointer (aA (q'.i 13) (q'.i 14))) (.pointer (aA (q'.i 10) (q'.i 11))) (.pointer (aA (q'.i 15) (q'.i 16))) z (q'.h 60) (q'.h 61) (q'.h 62) (q'.h 63) (q'.h 64) k)/\(rows.length-q'.i 69).toNat<(rows.length-(k:Int)).toNat) (assign q [{n:=69,k:=0,c:=CV.int .i64 (E.wrap .i64 ((E.var 69).add (E.lit 1)))}] [(60,some h60),(61,some h61),(62,some 210),(63,some 209),(64,some 204)]):=by
   intro q h60 h61 D1 S1 gq r1 d1 s1;have Bq:ah 70 q9 q:=B15.tr gq;obtain⟨⟨a8,a9,a10,a11,a13,a14,a15,a16,a18,a69⟩,_⟩:=W q Bq;have e69:aC q (E.wrap .i64 ((E.var 69).add (E.lit 1)))=((k+1:Nat):Int):=by
    rw[ar,aB,aj,ai,a69,IntKind.wrap_i64];omega
   refine⟨⟨k+1,z,e69,by omega,a18,D1,S1,_,_,dE st P,⟨?_,?_,s1⟩,⟨?_,?_,sb1⟩,?_,hl1,hG1⟩,?_⟩
   .show di (q.h h61) (.pointer (aA (q.i 10) (q.i 11))) (.pointer (aA (q.i 8) (q.i 9))) _ _;rw[a8,a9,a10,a11];exact r1
   .show aO (q.h h60) (.pointer (aA (q.i 8) (q.i 9))) _;rw[a8,a9];exact d1
   .show di (q.h 209) (.pointer (aA (q.i 15) (q.i 16))) (.pointer (aA (q.i 13) (q.i 14))) _ _;rw[a13,a14,a15,a16,gq.h 209];exact rb1
   .show aO (q.h 210) (.pointer (aA (q.i 13) (q.i 14))) _;rw[a13,a14,gq.h 210];exact db1
   .show jx (q.h 204) _ _ _;rw[gq.h 204];exact hX13
   .show(rows.length-aC q (E.wrap .i64 ((E.var 69).add (E.lit 1)))).toNat<_;rw[e69];omega
  refine⟨fun h0=>?_,fun _=>?_⟩
  rotate_left
  .exact back q15 207 206 _ _ (ah.refl _ _) ra1 da1 sa1
  have a0:ct st P=0:=x15.symm.trans h0;have a13':=tH a0;obtain⟨⟨a8,a9,a10,a11,a13,a14,a15,a16,a18,a69⟩,b4,b5,b60,b61,b62,b63,b64⟩:=W q15 B15;rw[hpr q15 C15,b4,b5,a10,a11];obtain⟨c1,c2,c3⟩:=sa1.pre (by omega);refine⟨⟨_,_,_,row',T,_,RG,g,_,_,_,_,P,rfl,rfl,rfl,ra1,da1,hx13,by omega,fun i hi=>by have:=hl1 i hi;omega,hG,c1,c2,c3⟩,fun q16 g16 ⟨F16,p16,_⟩=>?_⟩;obtain⟨ra2,da2,ea2⟩:=me (K1:=q16.h 212) (K2:=q16.h 213) ra1 da1 hx13 p16;rw[Dq (by rw[a13'];decide)]at ra2 da2 ea2;rw[a13']at ea2;exact⟨fun hne=>absurd (by simpa using ea2) hne,fun _=>back q16 213 212 _ _ g16 ra2 da2 sa1⟩
 .obtain⟨rA,psA,xA,hpA,hbA,hIA⟩:=ra.rd;obtain⟨rB,psB,xB,hpB,hbB,hIB⟩:=rb.rd;have A49:ah 13 q4 q9:=A48.tr g9;have A69:ah 18 q6 q9:=A68.tr g9;have n4:0<=q4.i 11:=hn4.1.2;have n6:0<=q6.i 16:=hn6.1.2;obtain⟨i10,i11⟩:=Bc (by rw[A49.i 11];exact n4) hpA;obtain⟨i15,i16⟩:=Bc (by rw[A69.i 16];exact n6) hpB;have cA:(q9.h 61).cell ((rA:Int)).toNat (Int.toNat ((0:Int)+1))=some (.pointer (some ⟨xA,0,none⟩)):=by
   rw[Y7];unfold Hl.cell;rw[hbA];rfl
  have cB:(q9.h 63).cell ((rB:Int)).toNat (Int.toNat ((0:Int)+1))=some (.pointer (some ⟨xB,0,none⟩)):=by
   rw[Y7];unfold Hl.cell;rw[hbB];rfl
  have W:∀ q,ah 70 q9 q->(q.i 10=rA/\q.i 11=0/\q.i 15=rB/\q.i 16=0/\q.i 18=z)/\q.h 4=T/\q.h 61=q9.h 61/\q.h 63=q9.h 63/\q.h 64=q9.h 64:=fun q g=>by
   rw[g.i 10,g.i 11,g.i 15,g.i 16,g.i 18,g.h 4,g.h 61,g.h 63,g.h 64];exact⟨⟨i10,i11,i15,i16,ez⟩,w4,rfl,rfl,rfl⟩
  have eA:∀ q,ah 70 q9 q->Value.pointer (aA (aC q (Uf 0)) (aC q (Uf 1)))=.pointer (some ⟨xA,0,none⟩):=fun q g=>by
   obtain⟨⟨a,b,_,_,_⟩,_,h1,_,_⟩:=W q g;show Value.pointer (aA (bM ((q.h 61).cell (q.i 10).toNat ((q.i 11+1).toNat+0)) 0) (bM ((q.h 61).cell (q.i 10).toNat ((q.i 11+1).toNat+0)) 1))=_;rw[h1,a,b,Zp,cA,fK]
  have eB:∀ q,ah 70 q9 q->Value.pointer (aA (aC q (Ug 0)) (aC q (Ug 1)))=.pointer (some ⟨xB,0,none⟩):=fun q g=>by
   obtain⟨⟨_,_,a,b,_⟩,_,_,h1,_⟩:=W q g;show Value.pointer (aA (bM ((q.h 63).cell (q.i 15).toNat ((q.i 16+1).toNat+0)) 0) (bM ((q.h 63).cell (q.i 15).toNat ((q.i 16+1).toNat+0)) 1))=_;rw[h1,a,b,Zp,cB,fK]
  have hS:lr st:=fun i hi=>by have:=hlen i hi;omega
  intro q10 g10 _;obtain⟨⟨a10,a11,a15,a16,a18⟩,b4,b61,b63,b64⟩:=W q10 g10;rw[eA q10 g10,a10,a11,b61,cA];refine⟨by omega,by omega,rfl,⟨xA,_,st,rfl,rfl,hIA,hS⟩,fun q11 g11 ⟨F11,p11,_⟩ q12 g12 _=>?_⟩;have hd1:([.int .u64 (q11.i 71),.int .u64 (q11.i 72),.int .u64 (q11.i 73),.int .u64 (q11.i 74),.int .u64 (q11.i 75),.int .u64 (q11.i 76)]:List Value)=wg st:=ZL (Value.agg.inj (p11 _ _ _ rfl rfl hIA hS));have B12:ah 70 q9 q12:=g10.trans (g11.mono.tr g12);obtain⟨⟨a10,a11,a15,a16,a18⟩,b4,b61,b63,b64⟩:=W q12 B12;rw[eB q12 B12,a15,a16,b63,cB];refine⟨by omega,by omega,rfl,⟨xB,_,st,rfl,rfl,hIB,hS⟩,fun q13 g13 ⟨F13,p13,_⟩=>?_⟩;have hd2:([.int .u64 (q13.i 78),.int .u64 (q13.i 79),.int .u64 (q13.i 80),.int .u64 (q13.i 81),.int .u64 (q13.i 82),.int .u64 (q13.i 83)]:List Value)=wg st:=ZL (Value.agg.inj (p13 _ _ _ rfl rfl hIB hS));have A113:ah 77 q11 q13:=g12.tr g13;have hh:q13.i 71=q13.i 78/\q13.i 72=q13.i 79/\q13.i 73=q13.i 80/\q13.i 74=q13.i 81/\q13.i 75=q13.i 82/\q13.i 76=q13.i 83:=by
   have he:=hd1.trans hd2.symm;simp only[Ze,Value.int.injEq,Zy,Zm]at he;obtain⟨m0,m1,m2,m3,m4,m5⟩:=he;rw[A113.i 71,A113.i 72,A113.i 73,A113.i 74,A113.i 75,A113.i 76];exact⟨m0,m1,m2,m3,m4,m5⟩
  refine⟨fun _=>?_,fun hne=>absurd hh hne⟩;have B13:ah 70 q9 q13:=B12.tr g13;rw[eA q13 B13,(W q13 B13).2.2.1];refine⟨⟨xA,_,st,rfl,rfl,hIA⟩,fun q14 g14 ⟨F14,p14,_⟩=>?_⟩;have h14:q14.i 84=dv st:=by simpa using p14 _ _ _ rfl rfl hIA
  have B14:ah 70 q9 q14:=B13.tr g14;rw[eB q14 B14,(W q14 B14).2.2.2.1];refine⟨⟨xB,_,st,rfl,rfl,hIB⟩,fun q15 g15 ⟨F15,p15,_⟩=>?_⟩;have h15:q15.i 85=dv st:=by simpa using p15 _ _ _ rfl rfl hIB
  have B15:ah 70 q9 q15:=B14.tr g15;refine⟨fun _=>?_,fun hne=>absurd (by rw[g15.i 84,h14,h15]) hne⟩;rw[eA q15 B15,(W q15 B15).2.2.1];refine⟨⟨xA,_,st,rfl,rfl,hIA⟩,fun q16 g16 ⟨F16,p16,_⟩=>?_⟩;have h16:q16.i 86=dv st:=by simpa using p16 _ _ _ rfl rfl hIA
  have B16:ah 70 q9 q16:=B15.tr g16;obtain⟨⟨_,_,_,_,a18⟩,_,_,_,b64⟩:=W q16 B16;rw[a18,b64,gM z];refine⟨⟨z,_,T,st,rfl,rfl,hX,hS⟩,fun q17 g17 ⟨F17,p17,_⟩=>?_⟩;have h17:q17.i 87=dv st:=by simpa using Dz hX p17
  have B17:ah 70 q9 q17:=B16.tr g17;refine⟨fun _=>?_,fun hne=>absurd (by rw[g17.i 86,h16,h17]) hne⟩;obtain⟨⟨a10,a11,a15,a16,a18⟩,b4,b61,b63,b64⟩:=W q17 B17;rw[a10,a11,a18,b4,b61,b64,gM z,gM rA];refine⟨fun U hU=>⟨_,z,U,T,st,rfl,rfl,sm.mono (hU _ (by simp)) ⟨rA,psA,xA,rfl,hbA,hIA⟩,hX.mono (hU _ (by simp)),hU _ (by simp),hS,hGood⟩,fun q18 g18 ⟨F18,⟨U,hv⟩,_⟩=>out (Value.bool.inj hv)⟩
end Go.Proofs.YtomdimlnggpgbaaGreatDoor
namespace Go.Sx
open Go Go.ChangeShapes Go.WideShapes Go.ChangeAt Go.RowKit Go.Deep
def Sh (v:Value):Kd->Prop
 | .int k=>∃ n,v=.int k n/\(Lit.int k n).wf=true
 | .bool=>∃ b,v=.bool b
 | _=>False
def nC:List Value->List Kd->Prop
 | [],[]=>True
 | v::l,k::m=>Sh v k/\nC l m
 | _,_=>False
theorem od:∀ {l m:List Value} {a b:List Kd},nC l a->nC m b->nC (l++m) (a++b)
 | [],m,[],b,_,h=>h
 | v::l,m,k::a,b,h,h2=>⟨h.1,od h.2 h2⟩
 | [],_,_::_,_,h,_=>h.elim
 | _::_,_,[],_,h,_=>h.elim
theorem De:∀ {l:List Value} {a:List Kd},nC l a->∀ (j:Nat) (k:Kd),a[j]?=some k->∃ v,l[j]?=some v/\Sh v k
 | _::l,_::a,h,0,k,hk=>by simp at hk;subst hk;exact⟨_,rfl,h.1⟩
 | _::l,_::a,h,j+1,k,hk=>by simpa using De h.2 j k (by simpa using hk)
 | [],[],_,j,k,hk=>by simp at hk
 | [],_::_,h,_,_,_=>h.elim
 | _::_,[],h,_,_,_=>h.elim
def uI (f:TypeId->Option (List Kd)):List Field->Nat->Option (List Kd)
 | [],_=>some []
 | fl::l,o=>if fl.offset=o then match f fl.type with
  | some a=>match uI f l (o+a.length)with
   | some b=>some (a++b)
   | none=>none
  | none=>none
  else none
def OO (a:List Kd):Nat->List Kd
 | 0=>[]
 | n+1=>a++OO a n
def nT (P:Program):Nat->TypeId->Option (List Kd)
 | 0,_=>none
 | d+1,t=>match P.underlying t with
  | some (.int k)=>some [.int k]
  | some .bool=>some [.bool]
  | some (.array n e)=>match nT P d e with
   | some a=>if a.length=P.cellsOf e/\P.cellsOf t=n*a.length then some (OO a n)else none
   | none=>none
  | some (.struct fs)=>match uI (fun u=>(nT P d u).bind fun a=>if a.length=P.cellsOf u then some a else none) fs.toList 0 with
   | some a=>if a.length=P.cellsOf t then some a else none
   | none=>none
  | _=>none
section
variable {H:Type} {enc:TypeId×Value->H} {P:Program} {w:World} {base:Nat} {spare:Nat->Bool} {held:Bool}
theorem uq {g:TypeId->Option (List Kd)} {cs:List Value} : ∀ (l:List Field) (o:Nat) (ks:List Kd),uI g l o=some ks ->
 (∀ (fl:Field) (a:List Kd),fl∈l->g fl.type=some a->nC ((cs.drop fl.offset).take a.length) a)->nC ((cs.drop o).take ks.length) ks
 | [],o,ks,h,_=>by cases h;simp [nC]
 | fl::l,o,ks,h,hq=>by
  simp only[uI]at h;split at h
  .rename_i ho;subst ho;split at h
   .rename_i a ha;split at h
    .rename_i b hb;cases h;have h1:=hq fl a (by simp) ha;have h2:=uq l (fl.offset+a.length) b hb fun f c hf hc=>hq f c (Zu _ hf) hc;have e:(cs.drop fl.offset).take (a++b).length=(cs.drop fl.offset).take a.length++(cs.drop (fl.offset+a.length)).take b.length:=by
      rw[Y9,abJ,aaZ]
     rw[e];exact od h1 h2
    .cases h
   .cases h
  .cases h
theorem zP {cs:List Value} {a:List Kd} : ∀ (n:Nat) (o:Nat),(∀ i,i<n->nC ((cs.drop (o+i*a.length)).take a.length) a)->nC ((cs.drop o).take (n*a.length)) (OO a n)
 | 0,o,_=>by simp [nC,OO]
 | n+1,o,h=>by
  have h0:=h 0 (by omega);simp only[abA,Zp]at h0;have ih:=zP n (o+a.length) fun i hi=>by
   have:=h (i+1) (by omega);rwa[aaJ,acd,abx (i*a.length),<-aaD]at this
  have e:(cs.drop o).take ((n+1)*a.length)=(cs.drop o).take a.length++(cs.drop (o+a.length)).take (n*a.length):=by
   rw[aaJ,acd,abx (n*a.length),abJ,aaZ]
  rw[e];exact od h0 ih
theorem GG:∀ (d:Nat) (t:TypeId) (ks:List Kd) (fuel:Nat) (cs:List Value) (x:DataW H×List MemPlace),nT P d t=some ks->DataW.trod enc P w base spare held fuel t cs=some x->nC cs ks:=by
 intro d
 induction d with
 | zero=>intro t ks fuel cs x h;cases h
 | succ d ih =>
  intro t ks fuel cs x h hx;simp only[nT]at h;split at h
  .rename_i k hu;cases h;obtain⟨n,rfl,_,hw⟩:=DataW.trod_int hu hx;exact⟨⟨n,rfl,hw⟩,trivial⟩
  .rename_i hu;cases h;obtain⟨b,rfl,_⟩:=DataW.trod_bool hu hx;exact⟨⟨b,rfl⟩,trivial⟩
  .rename_i n e hu;split at h
   .rename_i a ha;split at h
    .rename_i hc;cases h;obtain⟨xs,m,_,_,hl,hxl,hxi⟩:=DataW.trod_array hu hx;have key:=zP (cs:=cs) (a:=a) n 0 fun i hi=>by
      have h1:=hxi i hi;rw[<-hc.1,Y8 (by omega)]at h1;rw[ZM];exact ih e a m _ _ ha h1
     rw[abS,<-hc.2,<-hl,aad]at key;exact key
    .cases h
   .cases h
  .rename_i fs hu;split at h
   .rename_i a ha;split at h
    .rename_i hc;cases h;obtain⟨xs,m,_,_,hl,hxl,hxi⟩:=DataW.trod_struct hu hx;have key:=uq (cs:=cs) fs.toList 0 ks ha fun fl b hfl hb=>by
      obtain⟨i,hi⟩:=Z7 hfl;have hi':fs[i]?=some fl:=by simpa using hi
      have h1:=hxi i fl hi';cases hk:nT P d fl.type with
      | none=>simp [hk]at hb
      | some b' =>
       simp only[hk,aaQ]at hb;split at hb
       .rename_i hlen;cases hb;have hlt:i<xs.length:=by rw[hxl];exact(ZU.1 hi').1
        rw[<-hlen,Y8 hlt]at h1;exact ih fl.type b m _ _ hk h1
       .cases hb
     rw[abS,hc,<-hl,aad]at key;exact key
    .cases h
   .cases h
  .cases h
theorem Jq {v:Value} {k:Kd} (h:Sh v k):bY (some v) k=true:=by
 cases k with
 | int k=>obtain⟨n,rfl,_⟩:=h;simp [bY]
 | bool=>obtain⟨b,rfl⟩:=h;rfl
 | _=>exact h.elim
theorem zn {t e:TypeId} {ks:List Kd} {dp:Nat} {fuel:Nat} {cs:List Value} {x:DataW H×List MemPlace} (ht:P.underlying t=some (.slice e)) (hk:nT P dp e=some ks) (hC:P.cellsOf e=ks.length)
 (h:DataW.trod enc P w base spare held fuel t cs=some x) :
 cs=[.slice none 0 0]\/∃ (a:Addr) (len cap:Nat),cs=[.slice (some a) len cap]/\len<=cap/\cap<=maxLen /\
  ∀ i,i<len->∀ (j:Nat) (k:Kd),ks[j]?=some k->∃ v,w.cell? (a.add (i*ks.length+j))=some v/\Sh v k:=by
 rcases open_slice ht h with h0 | ⟨a,len,cap,m,n,D,Pl,hcs,hb,hl,hm,hmm,hx,hi⟩
 .exact Or.inl h0.1
 .refine Or.inr ⟨a,len,cap,hcs,hl,hm,fun i hil j k hj=>?_⟩;have him:i<m:=by rw[hmm];split<;>omega
  obtain⟨cs',hc,ht'⟩:=hi i him;rw[hC]at hc;obtain⟨_,hcl,hat⟩:=World.cells?_some hc;have hok:=GG dp e ks n cs' _ hk ht';obtain⟨v,hv,hov⟩:=De hok j k hj;have hjl:j<ks.length:=(Zi.1 hj).1;refine⟨v,?_,hov⟩;rw[<-Go.Deep.add_add,hat j hjl,hv]
end
theorem RW {n:Int} (h:(Lit.int .u64 n).wf=true):0<=n/\n<18446744073709551616:=by
 simp only[Lit.wf,IntKind.min,IntKind.max,IntKind.signed,IntKind.bits,Zg,Zc]at h;simp at h;omega
theorem M8 {n:Int} (h:(Lit.int .u8 n).wf=true):0<=n/\n<256:=by
 simp only[Lit.wf,IntKind.min,IntKind.max,IntKind.signed,IntKind.bits,Zg,Zc]at h;simp at h;omega
theorem QJ {n:Int} (h:(Lit.int .i64 n).wf=true):-9223372036854775808<=n/\n<9223372036854775808:=by
 simp only[Lit.wf,IntKind.min,IntKind.max,IntKind.signed,IntKind.bits,Zg,Zc]at h;simp at h;omega
theorem DG:∀ {row:List Value} {ks:List Kd},nC row ks->bS row ks
 | [],[],_=>trivial
 | _::_,_::_,h=>⟨Jq h.1,DG h.2⟩
 | [],_::_,h=>h.elim
 | _::_,[],h=>h.elim
theorem tP:∀ {ks:List Kd} {row:List Value},row.length=ks.length->(∀ (j:Nat) (k:Kd),ks[j]?=some k->∃ v,row[j]?=some v/\Sh v k)->nC row ks
 | [],[],_,_=>trivial
 | k::ks,v::row,hl,h=>by
  refine⟨?_,tP (by simpa using hl) fun j k' hj=>?_⟩
  .obtain⟨u,hu,ho⟩:=h 0 k rfl;simp at hu;subst hu;exact ho
  .have:=h (j+1) k' (by simpa using hj);simpa using this
 | [],_::_,hl,_=>by simp at hl
 | _::_,[],hl,_=>by simp at hl
section
variable {H:Type} {enc:TypeId×Value->H} {P:Program} {W:World} {base:Nat} {spare:Nat->Bool} {held:Bool} {d:DataW H} {p:List MemPlace}
theorem lu {b y:Nat} {v:Value} (h:W.cell? ⟨b,y,none⟩=some v):(Hl.all W).cell b y=some v:=by
 unfold Hl.cell Hl.all;unfold World.cell? at h;split at h
 .rename_i c T fr hb;rw[hb];simpa using h
 .cases h
theorem sz {a:Addr} {v:Value} (hv:W.cell? a=some v):a.spot=none:=by
 unfold World.cell? at hv;split at hv
 .split at hv
  .cases hv
  .rename_i h;simpa using h
 .cases hv
theorem Jy {t e:TypeId} {ks:List Kd} {dp:Nat} (ht:P.underlying t=some (.slice e)) (hk:nT P dp e=some ks) (hC:P.cellsOf e=ks.length) (hks:0<ks.length) {v:Value} (hv:∃ a l c,v=.slice a l c) (h:DataW.Trod enc P W base spare held t v d p) :
 ∃ rows,bO (Hl.all W) v ks rows/\∀ row∈rows,nC row ks:=by
 obtain⟨a0,len0,cap0,rfl⟩:=hv;obtain⟨fuel,hf⟩:=h;rcases zn ht hk hC hf with h | ⟨a,len,cap,hcs,hl,hc,hat⟩
 .simp only[Value.cells,Ze,Value.slice.injEq,Zm]at h;obtain⟨rfl,rfl,rfl⟩:=h;exact⟨[],⟨-1,0,0,rfl,by omega,Or.inl rfl⟩,fun _ h=>nomatch h⟩
 .simp only[Value.cells,Ze,Value.slice.injEq,Zm]at hcs;obtain⟨rfl,rfl,rfl⟩:=hcs;rcases aa3 len0 with h0 | h0
  .subst h0;obtain⟨x,y,hx,hy,_⟩:=pn (some a);exact⟨[],⟨x,y,cap0,by rw[hx];rfl,hy,Or.inl rfl⟩,fun _ h=>nomatch h⟩
  .have hsp:a.spot=none:=by
    obtain⟨v,hv,_⟩:=hat 0 h0 0 ks[0] (Y8 hks);simp only[abA,Zp,Addr.add,ZG]at hv;exact sz hv
   obtain⟨bD,off,spot⟩:=a;simp only at hsp;subst hsp
   let row:Nat->List Value:=fun i=>(List.range ks.length).map fun j=>(W.cell? ⟨bD,off+(i*ks.length+j),none⟩).getD (.bool false)
   have aL:∀ i,i<len0->nC (row i) ks/\∀ j u,(row i)[j]?=some u->W.cell? ⟨bD,off+(i*ks.length+j),none⟩=some u:=by
    intro i hi;have hg:∀ (j:Nat) (k:Kd),ks[j]?=some k->∃ v,(row i)[j]?=some v/\W.cell? ⟨bD,off+(i*ks.length+j),none⟩=some v/\Sh v k:=by
     intro j k hj;obtain⟨v,hv,ho⟩:=hat i hi j k hj;rw[ef]at hv;have hjl:j<ks.length:=(Zi.1 hj).1;refine⟨v,?_,hv,ho⟩;simp only[row,Zs,ZI hjl,ZS,hv,aav]
    refine⟨tP (by simp [row]) fun j k hj=>?_,fun j u hu=>?_⟩
    .obtain⟨v,h1,_,h2⟩:=hg j k hj;exact⟨v,h1,h2⟩
    .have hjl:j<ks.length:=by have:=(Zi.1 hu).1;simpa [row] using this
     obtain⟨v,h1,h2,_⟩:=hg j ks[j] (Y8 hjl);rw[hu]at h1;cases h1;exact h2
   refine⟨(List.range len0).map row,⟨bD,off,cap0,?_,by omega,Or.inr ⟨by omega,fun i r hr=>?_⟩⟩,fun r hr=>?_⟩
   .rw[au (by omega),ZD,aaA];rfl
   .have hi:i<len0:=by have:=(Zi.1 hr).1;simpa using this
    rw[Zs,ZI hi,ZS,Zj]at hr;subst hr;obtain⟨h1,h2⟩:=aL i hi;refine⟨DG h1,fun j u hu=>?_⟩;rw[Y7,Y7,aaD];exact lu (h2 j u hu)
   .obtain⟨i,hi,rfl⟩:=ZV.1 hr;exact(aL i (ZQ.1 hi)).1
end
theorem MZ {P:Program} {s:Spec} (h:s.OK P) (ho:s.own=[]) {W:World} {xs:List Value} (hpre:s.pre xs [] (List.replicate s.rd.length (Hl.all W)))
 (hpost:∀ ρ F,s.post xs [] (List.replicate s.rd.length (Hl.all W)) ((cu 0 s.res).ev ρ) [] F->(cu 0 s.res).ev ρ=.bool true) :
 Calls P s.fn xs.toArray W fun e w'=>e=.returned (.bool true)/\Below W.heap.size W w':=by
 have:=h W xs [] (List.replicate s.rd.length (Hl.all W)) (by rw[ho];rfl) (by simp) (fun _ h=>nomatch h) (fun R hR=>by rw[(abQ.1 hR).2];exact Hl.Nt W) (fun p _ H _ _ h=>by simp at h) (fun _ h=>nomatch h) hpre;refine this.mono ?_;rintro e w' ⟨ρ,Hs',F,rfl,_,ht,hp⟩;have e0:Hs'=[]:=Za.1 ht.len;subst e0;exact⟨by rw[hpost ρ F hp],⟨ht.os,ht.tape,ht.output,ht.size,fun b hb=>ht.block b hb (fun _ h=>nomatch h)⟩⟩
section
variable {H:Type} {enc:TypeId×Value->H} {P:Program} {W:World} {base:Nat} {spare:Nat->Bool} {held:Bool} {d:DataW H} {p:List MemPlace}
theorem KH {t e:TypeId} {dp:Nat} (ht:P.underlying t=some (.slice e)) (hk:nT P dp e=some [.int .u8]) (hC:P.cellsOf e=1) {v:Value} (hv:∃ a l c,v=.slice a l c) (h:DataW.Trod enc P W base spare held t v d p) :
 ∃ bs,fp (Hl.all W) v bs/\∀ b∈bs,0<=b/\b<256:=by
 obtain⟨a0,len0,cap0,rfl⟩:=hv;obtain⟨fuel,hf⟩:=h;rcases zn ht hk hC hf with h | ⟨a,len,cap,hcs,hl,hc,hat⟩
 .simp only[Value.cells,Ze,Value.slice.injEq,Zm]at h;obtain⟨rfl,rfl,rfl⟩:=h;exact⟨[],⟨-1,0,0,rfl,by omega,Or.inl rfl⟩,fun _ h=>nomatch h⟩
 .simp only[Value.cells,Ze,Value.slice.injEq,Zm]at hcs;obtain⟨rfl,rfl,rfl⟩:=hcs;rcases aa3 len0 with h0 | h0
  .subst h0;obtain⟨x,y,hx,hy,_⟩:=pn (some a);exact⟨[],⟨x,y,cap0,by rw[hx];rfl,hy,Or.inl rfl⟩,fun _ h=>nomatch h⟩
  .have hcell:∀ i,i<len0->∃ n,W.cell? (a.add i)=some (.int .u8 n)/\0<=n/\n<256:=by
    intro i hi;obtain⟨v,hv,ho⟩:=hat i hi 0 _ rfl;obtain⟨n,rfl,hw⟩:=ho;refine⟨n,?_,M8 hw⟩;rw[show i=i*([Kd.int .u8]:List Kd).length+0 by simp];exact hv
   have hsp:a.spot=none:=by
    obtain⟨n,hn,_⟩:=hcell 0 h0;simp only[Addr.add,ZG,Zp]at hn;exact sz hn
   obtain⟨bD,off,spot⟩:=a;simp only at hsp;subst hsp;have hget:∀ j z,((List.range len0).map fun i=>cW (W.cell? ⟨bD,off+i,none⟩))[j]?=some z->W.cell? ⟨bD,off+j,none⟩=some (.int .u8 z)/\0<=z/\z<256:=by
    intro j z hz;have hj:j<len0:=by have:=(Zi.1 hz).1;simpa using this
    rw[Zs,ZI hj]at hz;simp only[ZS,Zj]at hz;obtain⟨n,hn,hr⟩:=hcell j hj;rw[ef]at hn;rw[hn]at hz;have hz:n=z:=hz;subst hz;exact⟨hn,hr⟩
   refine⟨(List.range len0).map fun i=>cW (W.cell? ⟨bD,off+i,none⟩),⟨bD,off,cap0,?_,by omega,Or.inr ⟨by omega,fun j z hz=>?_⟩⟩,fun b hb=>?_⟩
   .rw[au (by omega),ZD,aaA];rfl
   .simp only[Y7];exact lu (hget j z hz).1
   .obtain⟨j,hj⟩:=aby.1 hb;exact(hget j b hj).2
end
section
variable {H:Type} {enc:TypeId×Value->H} {P:Program} {W:World} {base:Nat} {spare:Nat->Bool} {held:Bool} {d:DataW H} {p:List MemPlace}
end
end Go.Sx
namespace Go.Ex
open Go Go.ChangeShapes Go.WideShapes Go.ChangeAt Go.RowKit Go.Deep
inductive Kt | int (k:IntKind) | bool | other (t:TypeId)
def XU (Φ:Value->TypeId->Prop) (v:Value):Kt->Prop
 | .int k=>∃ n,v=.int k n/\(Lit.int k n).wf=true
 | .bool=>∃ b,v=.bool b
 | .other t=>Φ v t
variable {Φ:Value->TypeId->Prop}
def PR (Φ:Value->TypeId->Prop):Prop:=∀ v t,Φ v t->∃ a len cap,v=.slice a len cap
def kn (Φ:Value->TypeId->Prop):List Value->List Kt->Prop
 | [],[]=>True
 | v::l,k::m=>XU Φ v k/\kn Φ l m
 | _,_=>False
theorem oe:∀ {l m:List Value} {a b:List Kt},kn Φ l a->kn Φ m b->kn Φ (l++m) (a++b)
 | [],m,[],b,_,h=>h
 | v::l,m,k::a,b,h,h2=>⟨h.1,oe h.2 h2⟩
 | [],_,_::_,_,h,_=>h.elim
 | _::_,_,[],_,h,_=>h.elim
theorem xa:∀ {l:List Value} {a:List Kt},kn Φ l a->∀ (j:Nat) (k:Kt),a[j]?=some k->∃ v,l[j]?=some v/\XU Φ v k
 | _::l,_::a,h,0,k,hk=>by simp at hk;subst hk;exact⟨_,rfl,h.1⟩
 | _::l,_::a,h,j+1,k,hk=>by simpa using xa h.2 j k (by simpa using hk)
 | [],[],_,j,k,hk=>by simp at hk
 | [],_::_,h,_,_,_=>h.elim
 | _::_,[],h,_,_,_=>h.elim
def qY (f:TypeId->Option (List Kt)):List Field->Nat->Option (List Kt)
 | [],_=>some []
 | fl::l,o=>if fl.offset=o then match f fl.type with
  | some a=>match qY f l (o+a.length)with
   | some b=>some (a++b)
   | none=>none
  | none=>none
  else none
def Ia (a:List Kt):Nat->List Kt
 | 0=>[]
 | n+1=>a++Ia a n
def mH (P:Program):Nat->TypeId->Option (List Kt)
 | 0,_=>none
 | d+1,t=>match P.underlying t with
  | some (.int k)=>some [.int k]
  | some .bool=>some [.bool]
  | some (.slice _)=>some [.other t]
  | some (.array n e)=>match mH P d e with
   | some a=>if a.length=P.cellsOf e/\P.cellsOf t=n*a.length then some (Ia a n)else none
   | none=>none
  | some (.struct fs)=>match qY (fun u=>(mH P d u).bind fun a=>if a.length=P.cellsOf u then some a else none) fs.toList 0 with
   | some a=>if a.length=P.cellsOf t then some a else none
   | none=>none
  | _=>none
section
variable {H:Type} {enc:TypeId×Value->H} {P:Program} {w:World} {base:Nat} {spare:Nat->Bool} {held:Bool}
theorem sf {g:TypeId->Option (List Kt)} {cs:List Value} : ∀ (l:List Field) (o:Nat) (ks:List Kt),qY g l o=some ks ->
 (∀ (fl:Field) (a:List Kt),fl∈l->g fl.type=some a->kn Φ ((cs.drop fl.offset).take a.length) a)->kn Φ ((cs.drop o).take ks.length) ks
 | [],o,ks,h,_=>by cases h;simp [kn]
 | fl::l,o,ks,h,hq=>by
  simp only[qY]at h;split at h
  .rename_i ho;subst ho;split at h
   .rename_i a ha;split at h
    .rename_i b hb;cases h;have h1:=hq fl a (by simp) ha;have h2:=sf l (fl.offset+a.length) b hb fun f c hf hc=>hq f c (Zu _ hf) hc;have e:(cs.drop fl.offset).take (a++b).length=(cs.drop fl.offset).take a.length++(cs.drop (fl.offset+a.length)).take b.length:=by
      rw[Y9,abJ,aaZ]
     rw[e];exact oe h1 h2
    .cases h
   .cases h
  .cases h
theorem x8 {cs:List Value} {a:List Kt} : ∀ (n:Nat) (o:Nat),(∀ i,i<n->kn Φ ((cs.drop (o+i*a.length)).take a.length) a)->kn Φ ((cs.drop o).take (n*a.length)) (Ia a n)
 | 0,o,_=>by simp [kn,Ia]
 | n+1,o,h=>by
  have h0:=h 0 (by omega);simp only[abA,Zp]at h0;have ih:=x8 n (o+a.length) fun i hi=>by
   have:=h (i+1) (by omega);rwa[aaJ,acd,abx (i*a.length),<-aaD]at this
  have e:(cs.drop o).take ((n+1)*a.length)=(cs.drop o).take a.length++(cs.drop (o+a.length)).take (n*a.length):=by
   rw[aaJ,acd,abx (n*a.length),abJ,aaZ]
  rw[e];exact oe h0 ih
abbrev pW (enc:TypeId×Value->H) (P:Program) (w:World) (base:Nat) (spare:Nat->Bool) (held:Bool) (v:Value) (t:TypeId):Prop:=(∃ e,P.underlying t=some (.slice e))/\∃ m x,DataW.trod enc P w base spare held m t [v]=some x
theorem mi:PR (pW enc P w base spare held):=by
 rintro v t ⟨⟨e,hu⟩,m,x,hx⟩;rcases open_slice hu hx with h0 | ⟨a,len,cap,m,n,D,Pl,hcs,_⟩
 .have h1:=h0.1;simp only[Ze,Zm]at h1;exact⟨none,0,0,h1⟩
 .simp only[Ze,Zm]at hcs;exact⟨some a,len,cap,hcs⟩
theorem D3:∀ (d:Nat) (t:TypeId) (ks:List Kt) (fuel:Nat) (cs:List Value) (x:DataW H×List MemPlace),mH P d t=some ks->DataW.trod enc P w base spare held fuel t cs=some x->kn (pW enc P w base spare held) cs ks:=by
 intro d
 induction d with
 | zero=>intro t ks fuel cs x h;cases h
 | succ d ih =>
  intro t ks fuel cs x h hx;simp only[mH]at h;split at h
  .rename_i k hu;cases h;obtain⟨n,rfl,_,hw⟩:=DataW.trod_int hu hx;exact⟨⟨n,rfl,hw⟩,trivial⟩
  .rename_i hu;cases h;obtain⟨b,rfl,_⟩:=DataW.trod_bool hu hx;exact⟨⟨b,rfl⟩,trivial⟩
  .rename_i e hu;cases h;rcases open_slice hu hx with h0 | ⟨a,len,cap,m,n,D,Pl,hcs,_⟩
   .have h1:=h0.1;subst h1;exact⟨⟨⟨_,hu⟩,fuel,x,hx⟩,trivial⟩
   .subst hcs;exact⟨⟨⟨_,hu⟩,fuel,x,hx⟩,trivial⟩
  .rename_i n e hu;split at h
   .rename_i a ha;split at h
    .rename_i hc;cases h;obtain⟨xs,m,_,_,hl,hxl,hxi⟩:=DataW.trod_array hu hx;have key:=x8 (cs:=cs) (a:=a) n 0 fun i hi=>by
      have h1:=hxi i hi;rw[<-hc.1,Y8 (by omega)]at h1;rw[ZM];exact ih e a m _ _ ha h1
     rw[abS,<-hc.2,<-hl,aad]at key;exact key
    .cases h
   .cases h
  .rename_i fs hu;split at h
   .rename_i a ha;split at h
    .rename_i hc;cases h;obtain⟨xs,m,_,_,hl,hxl,hxi⟩:=DataW.trod_struct hu hx;have key:=sf (cs:=cs) fs.toList 0 ks ha fun fl b hfl hb=>by
      obtain⟨i,hi⟩:=Z7 hfl;have hi':fs[i]?=some fl:=by simpa using hi
      have h1:=hxi i fl hi';cases hk:mH P d fl.type with
      | none=>simp [hk]at hb
      | some b' =>
       simp only[hk,aaQ]at hb;split at hb
       .rename_i hlen;cases hb;have hlt:i<xs.length:=by rw[hxl];exact(ZU.1 hi').1
        rw[<-hlen,Y8 hlt]at h1;exact ih fl.type b m _ _ hk h1
       .cases hb
     rw[abS,hc,<-hl,aad]at key;exact key
    .cases h
   .cases h
  .cases h
end
end Go.Ex
namespace Go.Sx
open Go Go.ChangeShapes Go.WideShapes Go.ChangeAt Go.RowKit Go.Deep
def I4:Ex.Kt->Kd
 | .int k=>.int k
 | .bool=>.bool
 | .other _=>.slice
theorem rV {Φ:Value->TypeId->Prop} (hΦ:Ex.PR Φ):∀ {row:List Value} {ks:List Ex.Kt},Ex.kn Φ row ks->bS row (ks.map I4)
 | [],[],_=>trivial
 | v::row,k::ks,h=>by
  refine⟨?_,rV hΦ h.2⟩;have h1:=h.1;cases k with
  | int k=>obtain⟨n,rfl,_⟩:=h1;simp [bY,I4]
  | bool=>obtain⟨b,rfl⟩:=h1;rfl
  | other t=>obtain⟨a,l,c,rfl⟩:=hΦ v t h1;rfl
 | [],_::_,h=>h.elim
 | _::_,[],h=>h.elim
section
variable {H:Type} {enc:TypeId×Value->H} {P:Program} {W:World} {base:Nat} {spare:Nat->Bool} {held:Bool} {d:DataW H} {p:List MemPlace}
theorem OI {t e:TypeId} {ks:List Ex.Kt} {dp:Nat} (ht:P.underlying t=some (.slice e)) (hk:Ex.mH P dp e=some ks) (hC:P.cellsOf e=ks.length) (hks:0<ks.length) {v:Value} (hv:∃ a l c,v=.slice a l c) (h:DataW.Trod enc P W base spare held t v d p) :
 ∃ rows,bO (Hl.all W) v (ks.map I4) rows/\∀ row∈rows,Ex.kn (Ex.pW enc P W base spare held) row ks:=by
 obtain⟨a0,len0,cap0,rfl⟩:=hv;obtain⟨fuel,hf⟩:=h;rcases open_slice ht hf with h | ⟨a,len,cap,m,n,D,Pl,hcs,hb,hl,hm,hmm,hx,hi⟩
 .have h:=h.1;simp only[Value.cells,Ze,Value.slice.injEq,Zm]at h;obtain⟨rfl,rfl,rfl⟩:=h;exact⟨[],⟨-1,0,0,rfl,by omega,Or.inl rfl⟩,fun _ h=>nomatch h⟩
 .simp only[Value.cells,Ze,Value.slice.injEq,Zm]at hcs;obtain⟨rfl,rfl,rfl⟩:=hcs;have hlm:len0<=m:=by rw[hmm];split<;>omega
  have each:∀ i,i<len0->∃ row,row.length=ks.length/\Ex.kn (Ex.pW enc P W base spare held) row ks/\∀ j,j<ks.length->W.cell? ((a.add (i*ks.length)).add j)=row[j]?:=by
   intro i hil;obtain⟨cs',hc,ht'⟩:=hi i (by omega);rw[hC]at hc;obtain⟨_,hcl,hat⟩:=World.cells?_some hc;exact⟨cs',hcl,Ex.D3 dp e ks n cs' _ hk ht',fun j hj=>hat j hj⟩
  rcases aa3 len0 with h0 | h0
  .subst h0;obtain⟨x,y,hx,hy,_⟩:=pn (some a);exact⟨[],⟨x,y,cap0,by rw[hx];rfl,hy,Or.inl rfl⟩,fun _ h=>nomatch h⟩
  .have hsp:a.spot=none:=by
    obtain⟨row,hl',_,hc⟩:=each 0 h0;have:=hc 0 hks;simp only[abA,Addr.add,ZG]at this;rw[Y8 (by omega)]at this;exact sz this
   obtain⟨bD,off,spot⟩:=a;simp only at hsp;subst hsp
   classical
   let row:Nat->List Value:=fun i=>if h:i<len0 then(each i h).choose else []
   have aL:∀ i,i<len0->(row i).length=ks.length/\Ex.kn (Ex.pW enc P W base spare held) (row i) ks/\∀ j,j<ks.length->W.cell? ⟨bD,off+i*ks.length+j,none⟩=(row i)[j]?:=by
    intro i hil;have:=(each i hil).choose_spec;simp only[row,dif_pos hil];refine⟨this.1,this.2.1,fun j hj=>?_⟩;rw[<-this.2.2 j hj,ef,ef]
   refine⟨(List.range len0).map row,⟨bD,off,cap0,?_,by omega,Or.inr ⟨by omega,fun i r hr=>?_⟩⟩,fun r hr=>?_⟩
   .rw[au (by omega),ZD,aaA];rfl
   .have hil:i<len0:=by have:=(Zi.1 hr).1;simpa using this
    rw[Zs,ZI hil,ZS,Zj]at hr;subst hr;obtain⟨h1,h2,h3⟩:=aL i hil;refine⟨rV Ex.mi h2,fun j u hu=>?_⟩;rw[Y7,Y7,ZD];have hj:j<ks.length:=by rw[<-h1];exact(Zi.1 hu).1
    exact lu (by rw[h3 j hj];exact hu)
   .obtain⟨i,hil,rfl⟩:=ZV.1 hr;exact(aL i (ZQ.1 hil)).2.1
end
end Go.Sx
namespace Go.Proofs.YtomdimlnggpgbaaGreatDoor.opP
open Go Go.Sx Go.ChangeShapes Go.WideShapes Go.ChangeAt Go.RowKit Go.Deep
section
variable {H:Type} {enc:TypeId×Value->H} {W:World} {base b0:Nat} {spare:Nat->Bool} {held:Bool} {r:Reach}
def kh:List Ex.Kt:=[.int .i64,.int .u64]++List.replicate 32 (.int .u8)++[.int .i64,.bool,.int .u64]++List.replicate 16 (.int .u8)++[.other 62]++List.replicate 6 (.int .u64)++List.replicate 32 (.int .u8)++[.int .i64]++List.replicate 32 (.int .u8)
def kp:List Ex.Kt:=kh++[.other 46]
theorem Td:Ex.mH Tryz.prog 6 67=some kp:=by kernel_rfl
theorem PJ:∀ {n:Nat} {row:List Value},nC row (List.replicate n (Kd.int .u8))->∃ t:List Int,row=bK t/\t.length=n/\∀ b∈t,0<=b/\b<256
 | 0,[],_=>⟨[],rfl,rfl,fun _ h=>nomatch h⟩
 | n+1,v::row,h=>by
  obtain⟨t,e,hl,hb⟩:=PJ (n:=n) h.2;obtain⟨z,rfl,hw⟩:=h.1;refine⟨z::t,by rw[e];rfl,by rw[Zd,hl],fun b hbm=>?_⟩;rcases Zl.1 hbm with rfl | hbm
  .exact M8 hw
  .exact hb b hbm
theorem It:∀ {rows:List (List Value)},(∀ row∈rows,nC row oG)->∃ T:List (List Int),rows=T.map bK/\∀ t∈T,t.length=16/\∀ b∈t,0<=b/\b<256
 | [],_=>⟨[],rfl,fun _ h=>nomatch h⟩
 | row::rows,h=>by
  obtain⟨T,e,hT⟩:=It (rows:=rows) fun r hr=>h r (Zu _ hr);obtain⟨t,e2,hl,hb⟩:=PJ (n:=16) (h row (ZJ ..));refine⟨t::T,by rw[e,e2];rfl,fun x hx=>?_⟩;rcases Zl.1 hx with rfl | hx
  .exact⟨hl,hb⟩
  .exact hT x hx
theorem J0 {v:Value} (ho:Ex.pW enc Tryz.prog W base spare held v 62):∃ (T:List (List Int)) (a:Option Addr) (c:Nat),v=.slice a T.length c/\bO (Hl.all W) v oG (T.map bK)/\∀ t∈T,t.length=16/\aS t:=by
 obtain⟨a,l,c,rfl⟩:=Ex.mi v _ ho;obtain⟨_,m,x,hx⟩:=ho;obtain⟨rows,hR,hrows⟩:=Jy Tryz.underlying62 (ks:=oG) (dp:=3) (by kernel_rfl) (by kernel_rfl) (by decide) ⟨a,l,c,rfl⟩ (d:=x.1) (p:=x.2) ⟨m,hx⟩;obtain⟨T,e,hT⟩:=It hrows;subst e;have hl:l=(T.map bK).length:=by
  obtain⟨ax,ay,ac,ae,_⟩:=id hR;simp only[Value.slice.injEq]at ae;exact ae.2.1
 rw[ZD]at hl;subst hl;exact⟨T,a,c,rfl,hR,hT⟩
theorem ND {v:Value} (ho:Ex.pW enc Tryz.prog W base spare held v 46):∃ (b:List Int) (a:Option Addr) (c:Nat),v=.slice a b.length c/\fp (Hl.all W) v b/\aS b:=by
 obtain⟨a,l,c,rfl⟩:=Ex.mi v _ ho;obtain⟨_,m,x,hx⟩:=ho;obtain⟨b,hR,hb⟩:=KH Tryz.underlying46 (dp:=1) (by kernel_rfl) (by kernel_rfl) ⟨a,l,c,rfl⟩ (d:=x.1) (p:=x.2) ⟨m,hx⟩;have hl:l=b.length:=by
  obtain⟨ax,ay,ac,ae,_⟩:=id hR;simp only[Value.slice.injEq]at ae;exact ae.2.1
 subst hl;exact⟨b,a,c,rfl,hR,hb⟩
theorem MF {Φ:Value->TypeId->Prop} (hΦ:Ex.PR Φ):∀ {row:List Value} {ks:List Ex.Kt},Ex.kn Φ row ks->∀ v∈row,JD v
 | [],[],_,_,h=>nomatch h
 | x::row,k::ks,h,v,hv=>by
  rcases Zl.1 hv with rfl | hv
  .have h1:=h.1;cases k with
   | int k =>
    obtain⟨n,rfl,hw⟩:=h1;cases k with
    | u8=>exact M8 hw
    | u64=>exact RW hw
    | i64=>exact QJ hw
    | _=>trivial
   | bool=>obtain⟨b,rfl⟩:=h1;trivial
   | other t=>obtain⟨a,l,c,rfl⟩:=hΦ _ t h1;trivial
  .exact MF hΦ h.2 v hv
 | [],_::_,h,_,_=>h.elim
 | _::_,[],h,_,_=>h.elim
theorem zk {Φ:Value->TypeId->Prop} : ∀ {n:Nat} {l:List Value} {ks:List Ex.Kt},Ex.kn Φ l ks->Ex.kn Φ (l.take n) (ks.take n)
 | 0,_,_,_=>trivial
 | _+1,[],[],_=>trivial
 | n+1,_::_,_::_,h=>⟨h.1,zk (n:=n) h.2⟩
 | _+1,[],_::_,h=>h.elim
 | _+1,_::_,[],h=>h.elim
theorem MX {row:List Value} {k n c:Nat} {a:Option Addr} (h:row[k]?=some (.slice a n c)):BT row k=n:=by unfold BT;rw[h]
theorem S4 {row:List Value} (ho:Ex.kn (Ex.pW enc Tryz.prog W base spare held) row kh) (h20:BT row 53<=20):∃ h,cN (Hl.all W) row h/\h.t.length<=20:=by
 have hok:bS row dQ:=by
  have:=rV Ex.mi ho;rwa[show kh.map I4=dQ by kernel_rfl]at this
 obtain⟨v,hv,ho53⟩:=Ex.xa ho 53 (.other 62) rfl;obtain⟨T,a,c,rfl,hR,hT⟩:=J0 ho53;rw[MX hv]at h20;refine⟨⟨row.set 53 ze,T⟩,⟨hok,MF Ex.mi ho,rfl,?_,by show T.length<=_;omega,hT⟩,h20⟩;rw[Zt,hv];exact hR
theorem Tw {row:List Value} (ho:Ex.kn (Ex.pW enc Tryz.prog W base spare held) row kp) (h20:BT row 53<=20) (h21:BT row 125<=2100):∃ c,gm (Hl.all W) (Hl.all W) row c/\c.h.t.length<=20/\c.b.length<=2100:=by
 have hok:bS row qo:=by
  have:=rV Ex.mi ho;rwa[show kp.map I4=qo by kernel_rfl]at this
 have h1:Ex.kn (Ex.pW enc Tryz.prog W base spare held) (row.take 125) kh:=by
  have:=zk (n:=125) ho;rwa[show kp.take 125=kh by kernel_rfl]at this
 have e53:BT (row.take 125) 53=BT row 53:=by unfold BT;rw[Z9 (by omega)]
 obtain⟨h,hx,hh⟩:=S4 h1 (by rw[e53];exact h20);obtain⟨v,hv,ho125⟩:=Ex.xa ho 125 (.other 46) rfl;obtain⟨b,a,c,rfl,hR,hb⟩:=ND ho125;rw[MX hv]at h21;refine⟨⟨h,b⟩,⟨hok,hx,?_,hb,by show b.length<=_;omega⟩,hh,h21⟩;rw[Zt,hv];exact hR
end
end Go.Proofs.YtomdimlnggpgbaaGreatDoor.opP
namespace Go.Proofs.YtomdimlnggpgbaaGreatDoor
open Go Go.Sx Go.Pk Go.RowKit
def Pu:List (String×DataW Unit):=[("jalousie/store.errLost",Rows.laid_jalousie_store_errLost),("jalousie/store.errFull",Rows.laid_jalousie_store_errFull),("jalousie/store.errSpent",Rows.laid_jalousie_store_errSpent)]
theorem Yy:Tryz.prog.globalNamed "jalousie/store.errLost"= some 0:=by kernel_rfl
theorem Yz:Tryz.prog.globalNamed "jalousie/store.errFull"= some 1:=by kernel_rfl
theorem YA:Tryz.prog.globalNamed "jalousie/store.errSpent"= some 2:=by kernel_rfl
theorem YF:(Tryz.prog.globals[0]?).map (·.type)=some 107:=by kernel_rfl
theorem YG:(Tryz.prog.globals[1]?).map (·.type)=some 107:=by kernel_rfl
theorem YH:(Tryz.prog.globals[2]?).map (·.type)=some 107:=by kernel_rfl
theorem ER:Tryz.prog.cellsOf 319=1:=by kernel_rfl
theorem AE:Tryz.prog.cellsOf 9=1:=by kernel_rfl
theorem Pj : "*"++ "errors.errorString"= "*errors.errorString":=by decide
theorem QD (u:TypeId) (h:Tryz.prog.typeName? 3 u=some "*errors.errorString"):u=299 :=
 typeName_ptr_named (nm:= "errors.errorString") (by rw[Pj];kernel_rfl) (by kernel_rfl) (by decide) u (by rw[Pj];exact h)
set_option maxRecDepth 100000 in
theorem ET {W:World} (h:laidMetH Tryz.prog Pu W):∃ a,Gl (Hl.all W) a:=by
 rw[MakeChecks.laidMetH_plain _ _ _ (by kernel_rfl)]at h;obtain⟨ps,⟨g0,t0,cs0,f0,p0,q0,Ll,ht0,hv0,hd0,⟨g1,t1,cs1,f1,p1,q1,EZ,ht1,hv1,hd1,⟨g2,t2,cs2,f2,p2,q2,wh,ht2,hv2,hd2,_,e2⟩,e1⟩,e0⟩,hnd,hrows⟩:=h;obtain rfl:=Z1 (Yy.symm.trans Ll);obtain rfl:=Z1 (Yz.symm.trans EZ);obtain rfl:=Z1 (YA.symm.trans wh);obtain rfl:=Z1 (YF.symm.trans ht0);obtain rfl:=Z1 (YG.symm.trans ht1);obtain rfl:=Z1 (YH.symm.trans ht2);subst e2;subst e1;subst e0;obtain⟨l0⟩:=cs0;obtain⟨l1⟩:=cs1;obtain⟨l2⟩:=cs2;have ok0:∀ u v,l0=[.iface u v]->Value.okWide Tryz.prog W .any 0 u v:=fun u v e=>by
  subst e;exact(hrows 0 0 (by simp [MemPlace.row])).2 u v (by simpa using World.var?_cell Ll hv0 0)
 have ok1:∀ u v,l1=[.iface u v]->Value.okWide Tryz.prog W .any 0 u v:=fun u v e=>by
  subst e;exact(hrows 1 0 (by simp [MemPlace.row])).2 u v (by simpa using World.var?_cell EZ hv1 0)
 have ok2:∀ u v,l2=[.iface u v]->Value.okWide Tryz.prog W .any 0 u v:=fun u v e=>by
  subst e;exact(hrows 2 0 (by simp [MemPlace.row])).2 u v (by simpa using World.var?_cell wh hv2 0)
 obtain⟨a0,s0,rfl,hc0,hs0,hz0,rfl⟩:=errorString_of_trod Tryz.underlying107 QD Tryz.underlying299 Tryz.underlying319 rfl rfl Tryz.underlying9 ER AE hd0 ok0;obtain⟨a1,s1,rfl,hc1,hs1,hz1,rfl⟩:=errorString_of_trod Tryz.underlying107 QD Tryz.underlying299 Tryz.underlying319 rfl rfl Tryz.underlying9 ER AE hd1 ok1;obtain⟨a2,s2,rfl,hc2,hs2,hz2,rfl⟩:=errorString_of_trod Tryz.underlying107 QD Tryz.underlying299 Tryz.underlying319 rfl rfl Tryz.underlying9 ER AE hd2 ok2;obtain⟨b0,y0,hb0⟩:=(hrows a0.block a0.off (by simp [MemPlace.row])).1;obtain⟨b1,y1,hb1⟩:=(hrows a1.block a1.off (by simp [MemPlace.row])).1;obtain⟨b2,y2,hb2⟩:=(hrows a2.block a2.off (by simp [MemPlace.row])).1;have n01:a0≠a1:=by rintro rfl;simp [MemPlace.row]at hnd
 have n02:a0≠a2:=by rintro rfl;simp [MemPlace.row]at hnd
 have n12:a1≠a2:=by rintro rfl;simp [MemPlace.row]at hnd
 have cell:∀ {g:Nat} {v:Value},W.cell? ⟨g,0,none⟩=some v->(Hl.all W).cell g 0=some v:=by
  intro g v h;unfold World.cell? at h;unfold Hl.cell Hl.all;cases hh:W.heap[g]? with
  | none=>simp [hh]at h
  | some o=>cases o<;>simp_all
 have c0:=cell (World.var?_cell Ll hv0 0);have c1:=cell (World.var?_cell EZ hv1 0);have c2:=cell (World.var?_cell wh hv2 0);refine⟨fun g=>if g=np then a0 else if g=lQ then a1 else a2,fun g hg=>?_,fun g hg=>?_,fun g h hg hh hne=>?_⟩
 .rcases hg with rfl | rfl | rfl
  .exact c0
  .exact c1
  .exact c2
 .rcases hg with rfl | rfl | rfl
  .exact⟨b0,y0,hb0⟩
  .exact⟨b1,y1,hb1⟩
  .exact⟨b2,y2,hb2⟩
 .rcases hg with rfl | rfl | rfl<;>rcases hh with rfl | rfl | rfl
  .exact absurd rfl hne
  .exact n01
  .exact n02
  .exact fun e=>n01 e.symm
  .exact absurd rfl hne
  .exact n12
  .exact fun e=>n02 e.symm
  .exact fun e=>n12 e.symm
  .exact absurd rfl hne
def nq:List (String×DataW Unit):=[("jalousie/jalousieref01.words",Rows.laid_jalousie_jalousieref01_words),("errors.errorType",Rows.laid_errors_errorType),("jalousie/hash.rounds",Rows.laid_jalousie_hash_rounds),("jalousie/store.errLost",Rows.laid_jalousie_store_errLost),("jalousie/store.errFull",Rows.laid_jalousie_store_errFull),("jalousie/store.errSpent",Rows.laid_jalousie_store_errSpent)]
theorem lu {W:World} {g j:Nat} {v:Value} (h:W.cell? ⟨g,j,none⟩=some v):(Hl.all W).cell g j=some v:=by
 unfold World.cell? at h;unfold Hl.cell Hl.all;cases hh:W.heap[g]? with
 | none=>simp [hh]at h
 | some o=>cases o<;>simp_all
theorem YK {W:World} (h:laidMetH Tryz.prog nq W):∃ a,Gl (Hl.all W) a:=by
 have h3:=h.filter fun x=>x.1== "jalousie/store.errLost"|| x.1== "jalousie/store.errFull"|| x.1== "jalousie/store.errSpent"
 have e:(nq.filter fun x=>x.1== "jalousie/store.errLost"|| x.1== "jalousie/store.errFull"|| x.1== "jalousie/store.errSpent")=Pu:=by kernel_rfl
 rw[e]at h3;exact ET h3
theorem LC {W:World} {n:String} {g:Nat} (hn:Tryz.prog.globalNamed n=some g) (hgt:(Tryz.prog.globals[g]?).map (·.type)=some 172) (h:laidMet Tryz.prog [(n,.agg (BA.map fun z=>.lit (.int .u32 z)))] W):uz (Hl.all W) g:=by
 obtain⟨ps,⟨g',t',cs,fuel,p,q,hg,ht,hv,hd,_,_⟩,_,_⟩:=h;obtain rfl:=Z1 (hn.symm.trans hg);obtain rfl:=Z1 (hgt.symm.trans ht);obtain⟨xs,m,_,ex,_,hl,hel⟩:=DataW.trod_array Tryz.underlying172 hd;have c5:Tryz.prog.cellsOf 170=1:=by kernel_rfl
 have hlen:BA.length=64:=by kernel_rfl
 intro r hr;have hE:=hel r hr;rw[c5,Zx,Y8 (by omega)]at hE;obtain⟨z,e1,e2,_⟩:=DataW.trod_int Tryz.underlying170 hE;have e3:(xs.map (·.1))=BA.map fun n=>.lit (.int .u32 n):=(DataW.agg.inj (Prod.mk.inj ex).1).symm;have e4:(xs.map (·.1))[r]?=(BA.map fun n=>(DataW.lit (.int .u32 n):DataW Unit))[r]?:=by rw[e3]
 rw[Zs,Zs,Y8 (by omega:r<xs.length),Y8 (by omega:r<BA.length),e2]at e4;have hz:z=BA.getD r 0:=by
  simp only[ZS,Zj,DataW.lit.injEq,Lit.int.injEq,Zy]at e4;rw[e4,List.getD,Y8 (by omega:r<BA.length)];rfl
 refine lu ?_;rw[World.var?_cell hg hv r,<-hz];have:cs.toList[r]?=some (.int .u32 z):=by
  have h0:((cs.toList.drop r).take 1)[0]?=some (.int .u32 z):=by rw[e1];rfl
  simpa using h0
 simpa using this
theorem YD:Tryz.prog.globalNamed "jalousie/jalousieref01.words"= some 3:=by kernel_rfl
theorem YC:Tryz.prog.globalNamed "jalousie/hash.rounds"= some 5:=by kernel_rfl
theorem YJ:(Tryz.prog.globals[3]?).map (·.type)=some 172:=by kernel_rfl
theorem YI:(Tryz.prog.globals[5]?).map (·.type)=some 172:=by kernel_rfl
theorem Vv {W:World} (h:laidMetH Tryz.prog nq W):uz (Hl.all W) 3:=by
 have h3:=h.filter fun x=>x.1== "jalousie/jalousieref01.words";have e:(nq.filter fun x=>x.1== "jalousie/jalousieref01.words")=[("jalousie/jalousieref01.words",.agg (BA.map fun z=>.lit (.int .u32 z)))]:=by kernel_rfl
 rw[e,MakeChecks.laidMetH_plain _ _ _ (by kernel_rfl)]at h3;exact LC YD YJ h3
theorem Vu {W:World} (h:laidMetH Tryz.prog nq W):uz (Hl.all W) 5:=by
 have h3:=h.filter fun x=>x.1== "jalousie/hash.rounds";have e:(nq.filter fun x=>x.1== "jalousie/hash.rounds")=[("jalousie/hash.rounds",.agg (BA.map fun z=>.lit (.int .u32 z)))]:=by kernel_rfl
 rw[e,MakeChecks.laidMetH_plain _ _ _ (by kernel_rfl)]at h3;exact LC YC YI h3
theorem YB:Tryz.prog.globalNamed "errors.errorType"= some 4:=by kernel_rfl
theorem YE:(Tryz.prog.cutTypes.find? (·.1== "internal/reflectlite.rtype")).map (·.2)=some 243:=by kernel_rfl
theorem U6:((List.range Tryz.prog.types.size).filter fun t=>Tryz.prog.rowNamed t [101,114,114,111,114])=[107]:=by kernel_rfl
theorem U3 {W:World} (h:laidMetH Tryz.prog nq W):(Hl.all W).cell 4 0=some yG:=by
 have h3:=(laidMetH_iff.1 h).2;have e:(nq.filter fun x=>x.2.handleName?.isSome)=[("errors.errorType",Rows.laid_errors_errorType)]:=by kernel_rfl
 rw[e]at h3;obtain⟨name,u,ty,e1,e2,e3,e4,e5⟩:=h3 _ (Zn.2 rfl);have en:name=[101,114,114,111,114]:=(Z1 e1).symm;subst en;obtain rfl:=Z1 (YE.symm.trans e2);have hm:ty∈(List.range Tryz.prog.types.size).filter fun t=>Tryz.prog.rowNamed t [101,114,114,111,114]:=aaj.2 ⟨ZQ.2 e3,e4⟩;rw[U6]at hm;obtain rfl:=Zn.1 hm;have hh:typeHandle Tryz.prog 107=.pointer (some ⟨7,107,none⟩):=by kernel_rfl
 rw[hh]at e5;refine lu ?_;unfold yG;simpa using World.var?_cell YB e5 0
theorem IP (os:Os) (args:Array Value):laidMetH Tryz.prog nq ((World.doorLaid Tryz.prog 400 os).forCall (fun _ _=>0) ⟨#[],args,[]⟩).memory :=
 laidMetH_of_parts3 (fuel:=8) (laidMet_of_run' 8 (by kernel_rfl) (by kernel_rfl)) (by kernel_rfl) (by kernel_rfl)
end Go.Proofs.YtomdimlnggpgbaaGreatDoor
