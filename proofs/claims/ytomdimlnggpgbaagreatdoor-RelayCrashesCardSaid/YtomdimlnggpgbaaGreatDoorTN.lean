/- RelayCrashes. -/
import Derived.Shelf.SlIterI.Nil
import Derived.Shelf.SortM.Plain
import Derived.Shelf.SortM.SortNone
import Derived.Ground.GgzProg
import Derived.Ground.SlgmProg
import Derived.Shelf.SlGeneric
import Derived.Test.YtomdimlnggpgbaaGreatDoorTM
set_option linter.all false
set_option maxHeartbeats 4000000
namespace Go.Proofs.YtomdimlnggpgbaaGreatDoor
open Go Go.Sx Go.Pk
def UJ:List Ck->Bool
 | []=>true
 | k::l=>(match k with | .ptr | .sl | .map=>false | _=>true)&&UJ l
def BT {q:Env} : ∀ {ks:List Ck} {n:Nat},UJ ks=true->bR n ks q->cW n ks q
 | [],_,_,_=>trivial
 | k::ks,n,h,hn=>by
  simp only[UJ,aaE]at h;refine⟨?_,BT h.2 hn.2⟩;have:=hn.1;cases k<;>first | exact zzT | exact this | cases h.1
def vF {q:Env} : ∀ {a b:List Ck} {n:Nat},bR n (a++b) q->bR n a q/\bR (n+bd a) b q
 | [],b,n,h=>⟨zzT,by simpa [bd] using h⟩
 | k::a,b,n,h=>by
  have:=vF (a:=a) (b:=b) (n:=n+k.len) h.2;rw[show n+k.len+bd a=n+bd (k::a)by simp [bd];omega]at this;exact⟨⟨h.1,this.1⟩,this.2⟩
set_option maxRecDepth 20000 in
def PE (q:Env):((((ar 5 jU).map (CV.ev q)).take 125).drop 34).take 20=(ar 39 ([Ck.int .i64,Ck.bool,Ck.int .u64]++List.replicate 16 (Ck.int .u8)++[Ck.sl])).map (CV.ev q)/\((((ar 5 jU).map (CV.ev q)).take 125).drop 93).take 32=(ar 101 (List.replicate 32 (Ck.int .u8))).map (CV.ev q) /\
 cI (((ar 5 jU).map (CV.ev q)).take 125) 54=q.i 62/\cI (((ar 5 jU).map (CV.ev q)).take 125) 55=q.i 63/\cI (((ar 5 jU).map (CV.ev q)).take 125) 56=q.i 64/\cI (((ar 5 jU).map (CV.ev q)).take 125) 57=q.i 65/\cI (((ar 5 jU).map (CV.ev q)).take 125) 58=q.i 66/\cI (((ar 5 jU).map (CV.ev q)).take 125) 59=q.i 67:=by
 rw[rD];exact⟨rfl,rfl,rfl,rfl,rfl,rfl,rfl,rfl⟩
def Vh {q:Env} {w:Int} {n:Nat} {mH sum:List Int} (hw:1<=w/\w<=6) (hn:n<=100000) (b:q.i 4=w) (c:q.i 147=n) (d:(ar 151 (List.replicate 32 (Ck.int .u8))).map (CV.ev q)=aM mH) (hs:(ar 184 (List.replicate 32 (Ck.int .u8))).map (CV.ev q)=aM sum) :
 Ax.map (CV.ev q)=gw (((ar 5 jU).map (CV.ev q)).take 125) w n mH sum++[.slice (az (q.i 183) 0) 80 80]:=by
 obtain⟨e1,e,k0,k1,k2,k3,k4,k5⟩:=PE q;unfold gw mw qI Ni;rw[e1,e,k0,k1,k2,k3,k4,k5,<-d,<-hs];have wi:∀ z:Int,-9<=z->z<=1000000->IntKind.i64.wrap z=z:=fun z h1 h2=>by rw[IntKind.wrap_i64];omega
 have a:∀ z:Int,0<=z->z<=1000000->IntKind.u64.wrap z=z:=fun z h1 h2=>by rw[IntKind.wrap_u64];omega
 have f:IntKind.i64.wrap (w-1)=w-1:=wi _ ah ah;have g:IntKind.u64.wrap (n:Int)=n:=a _ ah ah;have h:IntKind.i64.wrap ((n:Int)+1)=(n:Int)+1:=wi _ ah ah;have j:IntKind.u64.wrap ((n:Int)+1)=(n:Int)+1:=a _ ah ah;unfold Ax;simp only[aba,aaY,abN,CV.ev,al,ak,bP,bQ,dm,cO,gM,b,c,f,g,h,j,aaV,acq,abU];rfl
set_option maxRecDepth 20000 in
def Cg:qH.OK Tryz.prog:=by
 refine Spec.aV (Γ:=Yl) Vi ?_;rintro xs Hs Rs aj aO ⟨v,w,row,R,T,RG,rows,hs,p,rfl,rfl,hR,hA,hlen,hw,hx,hK⟩;have e0:Hs=[]:=aaz.1 aj;subst e0;obtain⟨x,y,c,rfl,hy,_⟩:=id hR;obtain⟨q0,ag,K,L⟩:=cY jU 5 row (bf fun k=>[x,y,rows.length,c,w].getD k 0) hx.ok;obtain⟨J,d⟩:∃ J:Env,J=⟨q0.i,q0.b,q0.s,q0.v,Bk [(140,R),(141,T),(142,RG)]⟩:=⟨_,rfl⟩;have v0:J.i 0=x:=by rw[d];exact ag.i 0
 have v1:J.i 1=y:=by rw[d];exact ag.i 1
 have v2:J.i 2=rows.length:=by rw[d];exact ag.i 2
 have v3:J.i 3=c:=by rw[d];exact ag.i 3
 have v4:J.i 4=w:=by rw[d];exact ag.i 4
 have aE:(ar 5 jU).map (CV.ev J)=row:=by rw[d,<-QT (Bk [(140,R),(141,T),(142,RG)])];exact L
 have K:bR 5 jU J:=by rw[d];exact Ru _ _ _ K
 have w4:J.h 140=R:=by rw[d];rfl
 have w5:J.h 141=T:=by rw[d];rfl
 have w6:J.h 142=RG:=by rw[d];rfl
 clear d;refine⟨PF,J,fun _ _=>True,fun _ _=>0,?_,dw (by intro r hr;simp [PF]at hr;rcases hr with rfl | rfl | rfl<;>exact⟨_,_,_,rfl⟩) (by show [J.h 140,J.h 141,J.h 142]=_;rw[w4,w5,w6]),(fun _ h=>nomatch h),?_⟩
 .show [Value.slice (az (J.i 0) (J.i 1)) (J.i 2).toNat (J.i 3).toNat,.int .i64 (J.i 4),.agg ((ar 5 jU).map (CV.ev J)).toArray]=_;rw[v0,v1,v2,v3,v4,aE,aar,aar]
 refine aG.read [] [] [Ax] ?_;have ak:Value.slice (az (J.i 133) (J.i 134)) (J.i 135).toNat (J.i 136).toNat=row.getD 125 DB:=by rw[<-aE,yg]
 have M:0<=J.i 134/\0<=J.i 135:=by
  obtain⟨_,h⟩:=vF (a:=cy) (b:=[Ck.sl]) K;exact⟨h.1.2.1,h.1.2.2.1⟩
 have an:rows.length=hs.length:=by have:=hA.1;rwa[aaT]at this
 have V:∀ q:Env,ai 143 J q->(q.i 0=x/\q.i 1=y/\q.i 2=rows.length/\q.i 4=w)/\(q.h 140=R/\q.h 141=T/\q.h 142=RG)/\(ar 5 jU).map (CV.ev q)=row/\(q.i 133=J.i 133/\q.i 134=J.i 134/\q.i 135=J.i 135)/\Value.slice (az (q.i 0) (q.i 1)) (q.i 2).toNat (q.i 3).toNat=.slice (az x y) rows.length c:=fun q g=>by
  refine⟨⟨by rw[g.i 0,v0],by rw[g.i 1,v1],by rw[g.i 2,v2],by rw[g.i 4,v4]⟩,⟨by rw[g.h 140,w4],by rw[g.h 141,w5],by rw[g.h 142,w6]⟩,?_,⟨g.i 133,g.i 134,g.i 135⟩,?_⟩
  .rw[<-aE];exact aa1 Array.toList (Value.agg.inj (gn (ks:=jU) (n:=5) g aA))
  .rw[g.i 0,g.i 1,g.i 2,g.i 3,v0,v1,v2,v3,aar,aar]
 have l:=DS rows.length hx.byte;have fin:∀ (U:Hl),R.le U->T.le U->∀ (q:Env) (ce:E),ai 143 J q->q.i 147=rows.length->(ar 151 (List.replicate 32 (Ck.int .u8))).map (CV.ev q)=aM (jM hs)->(ar 184 (List.replicate 32 (Ck.int .u8))).map (CV.ev q)=aM (gU (fH rows.length p.b))->0<=q.i 183->fH rows.length p.b=List.replicate 80 (aB q ce) ->
  postOf qH [.slice (az x y) rows.length c,.int .i64 w,.agg row.toArray] [] [R,T,RG] q [.ro 140 [.var 0] false,.ro 141 [.var 58] true,.ro 142 [.lit 3] false,.dead,.dead,.hp 145 [] [.var 145] [],.dead,.dead,.bj 183 (List.replicate 80 (CV.int .u8 ce)) 5] (.sv (.agg Ax)):=by
  intro U o t q ce g h7 ht ao G B _;obtain⟨⟨_,_,_,k4⟩,_,kr,_⟩:=V q g;have er:=Vh hw hlen k4 h7 ht ao;rw[kr]at er;have C:=PG hx.hd (w:=w) (n:=rows.length) (mH:=jM hs) (sum:=gU (fH rows.length p.b)) hw hlen (qS hs) (gE _) (MW hs) (Cu _);have Y:(gw (row.take 125) w rows.length (jM hs) (gU (fH rows.length p.b))).length=125:=gx C.ok;have hok:bo (Ax.map (CV.ev q)) (Ta.map kU):=by
   rw[er];have e:Ta.map kU=fu++[Kd.slice]:=rfl;rw[e];exact lW C.ok rfl
  obtain⟨Z,_,aq,N⟩:=cY Ta 0 _ (bf fun _=>0) hok;have hF:xA q [.ro 140 [.var 0] false,.ro 141 [.var 58] true,.ro 142 [.lit 3] false,.dead,.dead,.hp 145 [] [.var 145] [],.dead,.dead,.bj 183 (List.replicate 80 (CV.int .u8 ce)) 5] [8]=Hl.one (q.i 183).toNat (.cells (List.replicate 80 (.int .u8 (aB q ce))).toArray 5 (0,0)):=by
   show di [Hl.one (q.i 183).toNat (.cells ((List.replicate 80 (CV.int .u8 ce)).map (CV.ev q)).toArray 5 (0,0))]=_;rw[aN,ac3];rfl
  refine⟨[],[8],rfl,rfl,⟨Z,by show Value.agg _=Value.agg _;rw[<-N],?_,zzT⟩,Ax.map (CV.ev q),rfl,fun v' w' row' R' T' aP au hs' p' e1 e2 av aw ax=>?_⟩
  .obtain⟨m1,m2⟩:=vF (a:=Om) (b:=[Ck.sl]) aq;refine uv (BT rfl m1) ⟨?_,zzT⟩;have m2:=m2.1;have A:(CV.sl (.var (0+bd Om)) (.var (0+bd Om+1)) (.var (0+bd Om+2)) (.var (0+bd Om+3))).ev Z=.slice (az (q.i 183) 0) 80 80:=by
    have e:ar 0 Ta=ar 0 Om++[CV.sl (.var (0+bd Om)) (.var (0+bd Om+1)) (.var (0+bd Om+2)) (.var (0+bd Om+3))]:=rfl;rw[e,aba,er]at N;have:=(acU N rfl).2;simpa using this
   simp only[CV.ev,al,Value.slice.injEq]at A;obtain⟨s1,_⟩:=px G (aaM 0) m2.2.1 A.1;exact⟨ah,m2.2.1,m2.2.2.1,m2.2.2.2⟩
  .simp only[aaC,aaP,Value.int.injEq,abk,Value.agg.injEq]at e1 e2;obtain⟨rfl,rfl,e1⟩:=e1;obtain⟨rfl,rfl,rfl⟩:=e2;have e1:=aa5 e1;subst e1;obtain rfl:=hR.uniq av;obtain rfl:=(hA.2 U o t).uniq (aw.2 U o t);obtain rfl:=hx.uniq ax;show gY T (xA q _ [8]) _ _;rw[hF,er];unfold kX;rw[<-an];refine⟨lW C.ok rfl,?_,?_,l.2,by show(fH _ _).length<=_;rw[l.1];decide⟩
   .rw[aco Y];exact C
   .have e:(gw (row.take 125) w rows.length (jM hs) (gU (fH rows.length p.b))++[Value.slice (az (q.i 183) 0) 80 80]).getD 125 DB=.slice (az (q.i 183) 0) 80 80:=by
     rw[aaD,aaQ ah,Y];rfl
    rw[e];show fL _ _ (fH rows.length p.b);rw[B];refine⟨q.i 183,0,80,by rw[aby],aaM _,Or.inr ⟨G,fun j z f=>?_⟩⟩;obtain⟨hj,f⟩:=aaH.1 f;rw[aby]at hj;rw[adF]at f;subst f;unfold Hl.cell;rw[Hl.aU];simp only[abI,acT,aa6];rw[ack,aaR hj]
 simp only[go_sem,Nat.reduceAdd,Yl,ZM,ZN,ZO,KI];intro q1 g1 _ q2 g2 _;have G2:ai 143 J q2:=g1.tr g2;obtain⟨⟨k0,k1,k2,k4⟩,⟨h0,h1,h2⟩,kr,kb,ay⟩:=V q2 G2;rw[ay,h0];refine⟨⟨_,R,rows,rfl,rfl,hR,hlen⟩,fun q3 g3 ⟨F3,aC,aD,aH⟩ q4 g4 _ q5 g5 _=>?_⟩;have hH:=aC _ _ _ rfl rfl hR;rw[<-aD zzT]at hH;have n3:0<=q3.i 147:=aH.1.2.2.1;have aa:q3.i 147=rows.length:=by
  obtain⟨x',y',c',e,_⟩:=id hH;simp only[Value.slice.injEq,aaT]at e;omega
 have O:ai 149 q3 q5:=g4.tr g5;have G5:ai 143 J q5:=G2.trans (g3.mono.tr O);obtain⟨⟨m0,m1,m2,m4⟩,⟨o0,o1,o2⟩,mr,mb,aQ⟩:=V q5 G5;rw[O.i 145,O.i 146,O.i 147,O.i 148,O.h 145,o0,o1,o2];refine⟨n3,fun U u=>⟨_,U,U,U,_,hs,rfl,rfl,il hH (u _ aF),hA.2 U (u R aF) (u T aF),by rw[aaT];exact hlen,hK.mono (u RG aF)⟩,fun H g6 ⟨F6,⟨U,u,P⟩,_⟩=>?_⟩;have o:=u R aF;have t:=u T aF;have P:=aa5 (Value.agg.inj (P _ U U U _ _ rfl rfl (il hH (u _ aF)) (hA.2 U o t)));have fin:=fin U o t;have G6:ai 143 J H:=G5.tr g6;have Q:H.i 147=rows.length:=by rw[g6.i 147,O.i 147,aa]
 obtain⟨⟨r0,r1,r2,r4⟩,⟨u0,u1,u2⟩,rr,⟨b3,b4,b5⟩,_⟩:=V H G6;have aI:=u1;have ww:IntKind.i64.wrap (w-1)=w-1:=by rw[IntKind.wrap_i64];omega
 rw[r4,r2,ww,b3,b4,b5,u1];have ab:=hx.body;rw[<-ak]at ab;obtain⟨x',y',c',e,aJ,ad⟩:=id ab;simp only[Value.slice.injEq]at e;have tail:∀ (ce:E),fH rows.length p.b=List.replicate 80 (aB H ce)->(∀ q,ai 183 H q->aB q ce=aB H ce)->∀ q7,ai 183 H q7->0<=q7.i 183->kG.pre [Value.slice (az (q7.i 183) 0) (Int.toNat 80) (Int.toNat 80)] [] [Hl.one (q7.i 183).toNat (.cells ((List.replicate 80 (CV.int .u8 ce)).map (CV.ev q7)).toArray 5 (0,0)),q7.h 142] /\
  ∀ D,ai 184 q7 D->(∃ F,kG.post [Value.slice (az (q7.i 183) 0) (Int.toNat 80) (Int.toNat 80)] [] [Hl.one (q7.i 183).toNat (.cells ((List.replicate 80 (CV.int .u8 ce)).map (CV.ev q7)).toArray 5 (0,0)),q7.h 142] (.agg ((ar 184 (List.replicate 32 (Ck.int .u8))).map (CV.ev D)).toArray) [] F/\(aK 0 [Cp.agg (List.replicate 32 (Ck.int .u8))]≠[]->D.h 184=F)/\ft 184 [Cp.agg (List.replicate 32 (Ck.int .u8))] D) ->
  postOf qH [.slice (az x y) rows.length c,.int .i64 w,.agg row.toArray] [] [R,T,RG] D [.ro 140 [.var 0] false,.ro 141 [.var 58] true,.ro 142 [.lit 3] false,.dead,.dead,.hp 145 [] [.var 145] [],.dead,.dead,.bj 183 (List.replicate 80 (CV.int .u8 ce)) 5] (.sv (.agg Ax)):=by
  intro ce B ae q7 S p7;have af:fL (Hl.one (q7.i 183).toNat (.cells ((List.replicate 80 (CV.int .u8 ce)).map (CV.ev q7)).toArray 5 (0,0))) (.slice (az (q7.i 183) 0) (Int.toNat 80) (Int.toNat 80)) (fH rows.length p.b):=by
   refine⟨q7.i 183,0,80,by rw[l.1];rfl,aaM _,Or.inr ⟨p7,fun j z f=>?_⟩⟩;rw[B]at f;obtain⟨hj,f⟩:=aaH.1 f;rw[aby]at hj;rw[adF]at f;unfold Hl.cell;rw[Hl.aU,ac3];simp only[abI,acT,aa6];rw[ack,aaR hj];show some (Value.int .u8 (aB q7 ce))=_;rw[ae q7 S,f]
  rw[show q7.h 142=RG by rw[S.h 142,u2]];refine⟨⟨_,_,_,RG,rfl,rfl,af,l.2,by rw[l.1];decide,hK⟩,fun D g8 ⟨F8,W,_⟩=>?_⟩;have W:=aa5 (Value.agg.inj (W _ _ _ _ rfl rfl af));have A8:ai 183 H D:=S.tr g8;refine fin D ce (G6.tr A8) (by rw[A8.i 147,Q]) ?_ W (by rw[g8.i 183];exact p7) (by rw[ae D A8];exact B);rw[<-P];exact aa1 Array.toList (Value.agg.inj (gn (ks:=List.replicate 32 (Ck.int .u8)) (n:=151) (m:=183) A8 aA))
 have hi:0<J.i 135->∃ z r,p.b=z::r/\0<=J.i 133/\T.cell (J.i 133).toNat (J.i 134).toNat=some (.int .u8 z):=fun hp=>by
  cases hb:p.b with
  | nil=>rw[hb]at e;simp at e;omega
  | cons z r =>
   rw[hb]at ad;rcases ad with h | ⟨X,hc⟩
   .cases h
   obtain⟨s1,s2⟩:=px X aJ M.1 e.1;exact⟨z,r,rfl,ah,by rw[s1,s2];exact hc 0 z rfl⟩
 have aL:¬0<J.i 135->p.b=[]:=fun hn=>aaz.1 ah;have I:((0:Int)<=80/\((1:Nat):Int)*80<=281474976710656/\(80:Int)<=9223372036854775807):=by decide
 refine⟨ah,ah,⟨ah,ah⟩,ah,M.2,fun hp=>?_,fun hn=>⟨I,fun q7 S ⟨p7,_⟩=>tail _ ?_ (fun q g=>?_) q7 S p7⟩⟩
 .obtain⟨z,r,f,X,hc⟩:=hi hp;refine⟨X,M.1,by rw[hc];rfl,I,fun q7 S ⟨p7,_⟩=>tail _ ?_ (fun q g=>?_) q7 S p7⟩
  .rw[fh,al,al,b3,b4,aI,f,abj,hc];rfl
  .rw[fh,fh,al,al,al,al,g.i 133,g.i 134,g.h 141]
 .rw[bP,al,r2,aL hn];rfl
 .rw[bP,bP,al,al,g.i 2]
open Go.Proofs.YtomdimlnggpgbaaGreatDoor.D hiding aL aC fP
variable {D:DM}{R1 R2:Hl}{w:Int}{c row:List Value}{m n:Nat}{st:Nat->List Pc}{p:Pc}{S:SM}
def Lf {hs:List Hd} {h:Hd} (e:gQ w hs h=0):h.Form/\cI h.c 0=w/\cI h.c 1=hs.length+1:=by
 unfold gQ at e;split at e
 .cases e
 .rename_i h1;have a:h.Form:=ac6.1 fun g=>h1 (Or.inl g);have hw:cI h.c 0=w:=ac6.1 fun g=>h1 (Or.inr g);split at e
  .split at e<;>cases e
  .split at e
   .cases e
   .exact⟨a,hw,ah⟩
def Fv (h:bG st p=0):bG (cR st p) p=13:=by
 obtain⟨a,b,_,_⟩:=oW h;obtain⟨_,hw,hs⟩:=Lf b;have e:mE (cR st p) (cI p.h.c 0-1).toNat=mE st (cI p.h.c 0-1).toNat++[p.h]:=by
  unfold cR mE;rw[aaR h,dd,aba];rfl
 have d:gQ (cI p.h.c 0) (mE (cR st p) (cI p.h.c 0-1).toNat) p.h=13:=by
  rw[e];unfold gQ;rw[aaG (fun g=>g.elim (fun x=>x a) (fun x=>x rfl)),aaR (by rw[aay,aaW];omega),aaR];rw[hs,show(((mE st (cI p.h.c 0-1).toNat).length:Int)+1-1).toNat=(mE st (cI p.h.c 0-1).toNat).length by omega,aaQ (aaS _),adG];rfl
 unfold bG;rw[aaG (fun x=>x a),d,aaR aA]
def RS (D:DM) (S:SM) (n m:Nat):Prop:=∃ (g:Int) (K:Nat),Nonempty (SP D S n g K)/\K<=m/\S.recs.length<=m/\S.bA.length<=1100*m
def RS.pre (h:RS D S n m) (hm:m<=900):S.bA.length<=1048576/\0<=S.LA.serial/\S.recs.length<=1000000000:=by
 obtain⟨g,K,⟨h⟩,hK,hr,hb⟩:=h;refine⟨ah,?_,ah⟩;rw[h.eA];exact acr _
def RS.new (h:6<=m/\m<=16384):RS (eJ m) (cm (eJ m)) (m/2) 0/\(cm (eJ m)).recs=[]/\fj (eJ m)=0/\aq (jR (eJ m))/\aq (gD (eJ m)):=by
 obtain⟨⟨hP⟩,hr,a⟩:=SP.new h;obtain⟨_,_,b1,b2⟩:=hP.open;have hb:(cm (eJ m)).bA=[]:=by rw[hP.pk,hr];rfl
 exact⟨⟨0,0,⟨hP⟩,aaS _,by rw[hr];exact aaS _,by rw[hb];exact abJ _⟩,hr,a,b1,b2⟩
def vO (hx:gY R1 R2 row p):aq (fQ p):=by
 unfold fQ aI;exact iY (iY (mP _) (Nr hx.hd).1) (iY (mP _) hx.byte)
def RS.push (h:RS D S n m) (a:1100*((m:Int)+1)<=64*((n:Int)-2)) (hm:m<=900) (hx:gY R1 R2 row p) (hb:p.b.length=80) (st:Nat->List Pc) :
 (cC D S st p).e=bG st p/\(cC D S st p).st=cR st p/\RS (cC D S st p).D (cC D S st p).S n (m+1):=by
 obtain⟨g,K,⟨hP⟩,hK,hr,d⟩:=h;by_cases h0:bG st p=0
 .have hl:=(DQ hx ah).2;have k:=oz (b:=fQ p) ah;have f:(bI [fQ p]).length=(aI (fQ p)).length:=by unfold bI;simp
  obtain⟨i,c,⟨a3⟩⟩:=hP.add (rows:=[fQ p]) (fun r hr=>by rw[aaJ.1 hr];omega) ah (fun r hr=>by rw[aaJ.1 hr];exact vO hx) ah;have e:cC D S st p=⟨0,(cH D S [fQ p]).D,(cH D S [fQ p]).S,cR st p⟩:=by
   unfold cC;rw[aaG (fun x=>x h0),aaG (fun x=>x i)]
  rw[e];refine⟨h0.symm,rfl,g,K+1,⟨a3⟩,ah,?_,?_⟩
  .show(cH D S [fQ p]).S.recs.length<=_;rw[c,aay,aaW];omega
  .show(cH D S [fQ p]).S.bA.length<=_;rw[a3.pk,c,lD,aay,<-hP.pk];omega
 .have e:cC D S st p=⟨bG st p,D,S,st⟩:=by unfold cC;rw[aaR h0]
  have j:cR st p=st:=by unfold cR;rw[aaG h0]
  rw[e,j];exact⟨rfl,rfl,g,K,⟨hP⟩,ah,by show S.recs.length<=_;omega,by show S.bA.length<=_;omega⟩
def Ay {mH sum:List Int} (hA:(mw c w n mH).length=54) (hs:sum.length=32):aW (gw c w n mH sum) 60 32=sum/\cI (gw c w n mH sum) 92=80:=by
 have key:∀ j,(gw c w n mH sum)[60+j]?=(aM sum++(.int .i64 80::(c.drop 93).take 32))[j]?:=fun j=>by
  unfold gw;rw[aaQ ah,hA];unfold qI;rw[show 60+j-54=j+6 by omega];rfl
 refine⟨?_,?_⟩
 .apply aci (by rw[aJ,hs]);intro j h1 h2;have e:(aW (gw c w n mH sum) 60 32)[j]=cI (gw c w n mH sum) (60+j):=by simp [aW]
  rw[e];unfold cI;rw[key,aa0 (by rw[cw];omega),fT,aax h2];rfl
 .unfold cI;rw[show 92=60+32 from rfl,key,aaQ (by rw[cw];omega),cw,hs];rfl
def zC:List Value:=[.int .i64 0,.int .u64 0]++List.replicate 32 (.int .u8 0)++[.int .i64 0,.bool false,.int .u64 0]++List.replicate 16 (.int .u8 0)++[.bool false]++List.replicate 6 (.int .u64 0)++List.replicate 32 (.int .u8 0)++[.int .i64 0]++List.replicate 32 (.int .u8 0)
def Nc:List Value:=(zC.set 53 (.slice none 0 0))++[.slice none 0 0]
def z0:Pc:=⟨⟨zC,[]⟩,[]⟩
def Pn (h:bG st p≠0):cC D S st p=⟨bG st p,D,S,st⟩:=by unfold cC;rw[aaR h]
def vv (st:Nat->List Pc) (p:Pc) (i:Nat):(cR st p i).length<=(st i).length+1:=by
 unfold cR;split
 .unfold vf;split
  .rename_i h;rw[h,aay];exact aaS _
  .omega
 .omega
def XP:bo Nc rE:=by
 repeat' (first | exact zzT | refine⟨rfl,?_⟩)
def XS:∀ v∈Nc.take 125,xH v:=by
 have e:Nc.take 125=zC.set 53 (.slice none 0 0):=rfl;rw[e];have h:∀ v∈zC,xH v:=by
  intro v hv;unfold zC at hv;simp only[aa4,aaN,aaX,abC,acI]at hv;rcases hv with ((((((((rfl | rfl) | ⟨_,rfl⟩) | rfl | rfl | rfl) | ⟨_,rfl⟩) | rfl) | ⟨_,rfl⟩) | ⟨_,rfl⟩) | rfl) | ⟨_,rfl⟩<;>first | exact zzT | (show _<=_/\_<_;omega) | (show lu 0;unfold lu;omega)
 intro v hv;rcases acu hv with hv | rfl
 .exact h v hv
 .trivial
def XQ (T:Hl):gY T T Nc z0 :=
 ⟨XP,⟨(by have h:=jV (n:=125) XP;rw[Aj]at h;exact h),XS,rfl,⟨-1,0,0,rfl,ah,Or.inl rfl⟩,⟨abJ _,fun _ h=>nomatch h⟩⟩,⟨-1,0,0,rfl,ah,Or.inl rfl⟩,(fun z a=>nomatch a),abJ _⟩
noncomputable def Cb:Pc:=kX [] 1 z0
def pC (sum:List Int):List Value:=gw zC 1 0 (List.replicate 32 0) sum
def RI (sum:List Int) (hs:sum.length=32):Hd.Form ⟨pC sum,[]⟩:=by
 have a:cI (pC sum) 92=80:=(Ay rfl hs).2;refine⟨⟨⟨?_,?_⟩,⟨?_,?_⟩,⟨?_,?_⟩,?_,rfl,⟨?_,?_,?_,?_,?_,?_⟩,Or.inr ?_⟩,abJ _,(fun i hi=>by simp at hi),?_,fun h=>by cases h⟩
 all_goals first
  | (show iL (cI (pC sum) 92-16);rw[a];exact Or.inl rfl)
  | (show tC _ 2 32;repeat' (first | rfl | refine⟨rfl,?_⟩))
  | exact(by decide:(1:Int)<=1)
  | exact(by decide:(1:Int)<=6)
  | exact(by decide:(1:Int)<=1048576)
  | exact(by decide:(0:Int)<=0)
  | exact(by decide:(0:Int)<=255)
  | exact(by decide:(0:Int)<=1099511627776)
  | exact(by decide:(0:Int)<=1048576)
open Classical in
def Pb:bG (fun _=>[]) Cb=0:=by
 have hs:(gU (fH 0 [])).length=32:=gE _;have d:Cb.h=⟨pC (gU (fH 0 [])),[]⟩:=rfl;have e:Cb.b=fH 0 []:=rfl;have a:=RI _ hs;obtain⟨e1,f⟩:=Ay (c:=zC) (w:=1) (n:=0) (mH:=List.replicate 32 0) rfl hs;have k0:cI (pC (gU (fH 0 []))) 0=1:=rfl;have k1:cI (pC (gU (fH 0 []))) 1=1:=rfl;have g:aW (pC (gU (fH 0 []))) 2 32=List.replicate 32 0:=rfl;have i:gQ 1 [] ⟨pC (gU (fH 0 [])),[]⟩=0:=by
  unfold gQ;rw[aaG (fun h=>h.elim (fun x=>x a) (fun x=>x k0)),k1,aaG aA,aaG aA,aaG (fun x=>x g)]
 have hw:fJ (pC (gU (fH 0 []))) (fH 0 [])=true:=by
  unfold fJ;exact decide_eq_true ⟨by rw[show cI (pC (gU (fH 0 []))) 92=80 from f];rfl,e1.symm⟩
 unfold bG;rw[d,e];dsimp only;rw[aaG (fun x=>x a),k0,aaG (fun x=>x i),hw,aaG aA,aaG aA]
def pX:Sx.Spec where
 fn:=25
 own:=[]
 rd:=[2000000,100]
 res:=[.one .bool]
 pre:=fun xs Hs Rs=>∃ RG T g,xs=[]/\Rs=[RG,T]/\(Gl RG g/\ve RG 5/\RG.cell 4 0=some yZ)/\ve RG 3
 post:=fun xs Hs Rs v Hs' F=>v=.bool true
def awZ:List CV:=([.int .i64 (.lit 0),.int .u64 (.lit 0)]++List.replicate 32 (CV.int .u8 (.lit 0))++[.int .i64 (.lit 0),.bool .ff,.int .u64 (.lit 0)]++List.replicate 16 (CV.int .u8 (.lit 0))++[.sl (.lit (-1)) (.lit 0) (.lit 0) (.lit 0),.int .u64 (.lit 0),.int .u64 (.lit 0),.int .u64 (.lit 0),.int .u64 (.lit 0),.int .u64 (.lit 0),.int .u64 (.lit 0)]++List.replicate 32 (CV.int .u8 (.lit 0))++[.int .i64 (.lit 0)]++List.replicate 32 (CV.int .u8 (.lit 0))++[.sl (.lit (-1)) (.lit 0) (.lit 0) (.lit 0)])
set_option maxRecDepth 20000 in
def Tw (q:Env):awZ.map (CV.ev q)=Nc:=rfl
noncomputable def XW:List Sx.Spec:=[Iu,DT,Al 1001053,qH,ri]
def Tx:∀ t∈XW,t.OK Tryz.prog:=av Kk <| av My <| av (Ga _) <| av Cg <| av zA <| bW
def YK:Iu.res=[.one .ptr]:=rfl
def YL:DT.res=[.one .ptr,.one (.int .i64)]:=rfl
def YM (n:Nat):(Al n).res=[.one (.int .i64)]:=rfl
def YN:qH.res=[.agg Ta]:=rfl
def YO:ri.res=[.one (.int .i64)]:=rfl
noncomputable def awW:aG Tryz.prog XW pX.fn where
 Λ:=aC
 args:=[]
 mem:=[.ro 0 [.lit 0,.lit 1,.lit 2,.lit 3,.lit 4,.lit 5] false,.ro 1 [] true]
 nv:=2
set_option maxRecDepth 20000 in
def ED:pX.OK Tryz.prog:=by
 refine Spec.aV (Γ:=XW) Tx ?_;rintro xs Hs Rs Q ao ⟨RG,T,g,rfl,rfl,hG,hK⟩;have e0:Hs=[]:=aaz.1 Q;subst e0;refine⟨awW,aL [] false [RG,T],fun _ _=>True,fun _ _=>0,rfl,dw (by intro r hr;simp [awW]at hr;rcases hr with rfl | rfl<;>exact⟨_,_,_,rfl⟩) rfl,(fun _ h=>nomatch h),?_⟩;refine aG.read [jU] [] [awZ] ?_;generalize v:aL [] false [RG,T]=J;have V:∀ q:Env,ai 2 J q->q.h 0=RG/\q.h 1=T:=fun q g=>by
  rw[g.h 0,g.h 1,<-v];exact⟨rfl,rfl⟩
 clear v;simp only[go_sem,Nat.reduceAdd,XW,YK,YL,YM,YN,YO,WK];refine⟨⟨40,rfl⟩,fun q2 g2 ⟨F2,⟨m,em,R⟩,S,_⟩=>?_⟩;simp only[aaC,Value.int.injEq,abk,aaP]at em;subst em;rw[<-S (by simp [aK,Cp.roots,Ck.root])]at R;have w:RS (eJ 40) (cm (eJ 40)) 20 0/\(cm (eJ 40)).recs=[]/\fj (eJ 40)=0/\aq (jR (eJ 40))/\aq (gD (eJ 40)):=RS.new (m:=40) ⟨ah,ah⟩;obtain⟨y,wM,U,W,X⟩:=w;refine⟨⟨_,_,_,rfl,rfl,R,W,X,U,wM⟩,fun u g4 ⟨F4,⟨dp,H',D',H2,pv,e1,e2,d1,e3,d2,ev,M⟩,Y,Z⟩=>?_⟩;simp only[aaC,aaP]at e1 e2 e3;subst e1 e2;obtain rfl:=R.uniq d1;simp only[Value.tuple.injEq,abh,aaC,Value.int.injEq,abk,aaP]at ev;obtain⟨aa,e6⟩:=ev;rw[<-aa,<-Y (by simp [aK,Cp.roots,Ck.root])]at M;rw[<-e3]at d2;have G4:ai 2 J u:=g2.tr g4;obtain⟨v0,v1⟩:=V u G4;rw[v0,v1,Tw];have z:bq T (.slice (az (-1) 0) (Int.toNat 0) (Int.toNat 0)) rE []:=⟨-1,0,0,rfl,ah,Or.inl rfl⟩;have l:XT T T (([]:List (List Value)).map (List.take 125)) []:=⟨rfl,fun _ _ _=>⟨rfl,fun j r h hr=>by simp at hr⟩⟩;refine⟨⟨_,1,Nc,T,T,RG,[],[],z0,rfl,rfl,z,l,aA,aA,XQ T,hK⟩,fun q7 g7 ⟨F7,⟨row,N,ab⟩,ad,_⟩ O P _=>?_⟩;have hx:=ab _ _ _ _ _ _ _ _ _ rfl rfl z l (XQ T);have N:=aa5 (Value.agg.inj N);rw[Ku]at N;rw[<-N,<-ad aA]at hx;have a:ai 7 u O:=g7.tr P;have G8:ai 2 J O:=G4.tr a;have A:∀ q,ai 139 q7 q->(ar 7 jU).map (CV.ev q)=(ar 7 jU).map (CV.ev q7):=fun q g=>aa1 Array.toList (Value.agg.inj (gn (ks:=jU) (n:=7) g aA));have B:Cb.b.length=80:=aby;refine⟨fun _=>⟨fun _=>?_,fun c=>?_⟩,fun c=>absurd (by rw[a.i 6];exact e6) c⟩
 rotate_left
 .exfalso;obtain⟨r,ps,x,HS,HI,hp,_⟩:=M;rw[a.i 4]at c;rw[c]at hp;simp [az]at hp
 obtain⟨x0,x1⟩:=V O G8;rw[A O P,P.h 7,x0,x1,a.i 4,a.i 5,a.h 4,a.h 5];obtain⟨c1,c2,c3⟩:=y.pre ah;refine⟨⟨_,_,_,_,_,_,_,g,_,_,_,_,_,rfl,rfl,rfl,M,d2,hx,by show Cb.b.length<=2100;omega,fun i _=>Nat.zero_lt_succ _,hG,c1,c2,c3⟩,fun p g9 ⟨F9,ae,_⟩=>?_⟩;obtain⟨s,C,D⟩:=vH (K1:=p.h 140) (K2:=p.h 141) M d2 hx ae;obtain⟨f1,f2,F⟩:=y.push aA ah hx B (fun _=>[]);have a1:bG (fun _=>[]) (kX [] 1 z0)=0:=Pb;rw[f1,a1]at D;rw[f2]at s;refine⟨fun _=>?_,fun t=>absurd (by simpa using D) t⟩;have A9:ai 139 q7 p:=P.tr g9;have f:ai 7 u p:=a.tr g9;have G9:ai 2 J p:=G4.tr f;obtain⟨y0,y1⟩:=V p G9;rw[A p A9,A9.h 7,y0,y1,f.i 4,f.i 5];obtain⟨c1,c2,c3⟩:=F.pre ah;have af:mK (cR (fun _=>[]) (kX [] 1 z0)):=fun i _=>by
  have:=vv (fun _=>[]) (kX [] 1 z0) i;simp only[abt]at this;omega
 refine⟨⟨_,_,_,_,_,_,_,g,_,_,_,_,_,rfl,rfl,rfl,s,C,hx,by show Cb.b.length<=2100;omega,af,hG,c1,c2,c3⟩,fun k ag ⟨au,G,_⟩=>?_⟩;obtain⟨o,_,d⟩:=vH (K1:=k.h 143) (K2:=k.h 144) s C hx G;have a2:bG (cR (fun _=>[]) (kX [] 1 z0)) (kX [] 1 z0)=13:=Fv Pb;rw[Pn (by rw[a2];decide)]at o d;rw[a2]at d;refine⟨fun _=>?_,fun t=>absurd (by simpa using d) t⟩;obtain⟨r,ps,x,hp,aj,H⟩:=o.rd;have n5:0<=u.i 5:=Z.1.2;obtain⟨i4,i5⟩:=RP n5 hp;have I:ai 7 u k:=f.tr ag;have cr:(k.h 143).cell ((r:Int)).toNat (Int.toNat ((0:Int)+1))=some (.pointer (some ⟨x,0,none⟩)):=by
  rw[aar];unfold Hl.cell;rw[aj];rfl
 rw[I.i 4,I.i 5,i4,i5,cr,jk];refine⟨ah,ah,rfl,⟨x,_,_,rfl,rfl,H⟩,fun K av ⟨aw,L,_⟩=>?_⟩;have an:K.i 146=fq (cR (fun _=>[]) (kX [] 1 z0)):=by simpa using L _ _ _ rfl rfl H
 obtain⟨hF,_⟩:=oW a1;have hw:=zo hF;have hc:fq (cR (fun _=>[]) (kX [] 1 z0))=1:=by
  unfold cR;rw[aaR a1,EL _ _ ah];rfl
 refine Aw rfl ?_;have e:bh K ((E.var 146).eq (E.lit 1))=true:=by rw[gM,al,ak,an,hc]
 show Value.bool _=_;rw[e]
end Go.Proofs.YtomdimlnggpgbaaGreatDoor
namespace Go.Proofs.YtomdimlnggpgbaaGreatDoor
open Go Go.Sx Go.Pk
variable {J q q':Env}{F R:Hl}{c m n w x y:Int}{B l raw t:List Int}{A C a row:List Value}{h i j k m1 m2 m3 z:Nat}{old:Nat->E}{u v:Value}
noncomputable def DU:Sx.Spec where
 fn:=42
 own:=[]
 rd:=[0]
 res:=[.one .bool]
 pre:=fun xs Hs Rs=>∃ p R dp S st,xs=[p]/\Rs=[R]/\cM R p dp S st
 post:=fun xs Hs Rs v Hs' F=>∀ p R dp S st,xs=[p]->Rs=[R]->cM R p dp S st->v=.bool S.over
noncomputable def Yt:List Sx.Spec:=[Ea]
noncomputable def PN:aG Tryz.prog Yt DU.fn where
 Λ:=aC
 args:=[TP (.var 0) (.lit 0)]
 mem:=[.ro 1 [.var 0] true]
 nv:=2
def Z7:Ea.res=[.one .bool]:=rfl
def Mz:DU.OK Tryz.prog:=by
 refine Spec.aV (Γ:=Yt) (fun t e=>by rw[Yt,aaJ]at e;subst e;exact MS) ?_;rintro xs Hs Rs c l ⟨p,R,dp,S,st,rfl,rfl,hx⟩;have m:Hs=[]:=aaz.1 c;subst m;obtain⟨r,ps,x,HS,HI,rfl,hI⟩:=id hx;refine⟨PN,aL [r] false [Hl.none,R],fun _ _=>True,fun _ _=>0,?_,dw (by intro r hr;simp [PN]at hr;rcases hr with rfl;exact⟨_,_,_,rfl⟩) rfl,(fun _ h=>nomatch h),?_⟩
 .show [Value.pointer (az (r:Int) 0)]=_;rw[au ah];rfl
 refine aG.read [] [] [] ?_;simp only[go_sem,Nat.reduceAdd,Yt,Z7];obtain⟨f,j,n⟩:=qg hI.d1 hI.d2 hI.d3;rw[<-hI.hl]at f j n;obtain⟨a,_,_,_,_,_,_,rfl,_⟩:=id hI.so;have hs:=hI.so.rd.mono j;have o:((aL [(r:Int)] false [Hl.none,R]).h 1).cell ((aL [(r:Int)] false [Hl.none,R]).i 0).toNat (Int.toNat 0)=some (.pointer (some ⟨a,0,none⟩)):=by
  show R.cell ((r:Int)).toNat 0=_;rw[aar];simp [Hl.cell,f _ _ (Hl.aU _ _)]
 rw[o];have s:az (bw (some (Value.pointer (some ⟨a,0,none⟩))) 0) (bw (some (Value.pointer (some ⟨a,0,none⟩))) 1)=some ⟨a,0,none⟩:=by
  show az (a:Int) 0=_;rw[au ah];rfl
 rw[s];refine⟨by show(0:Int)<=r;omega,rfl,⟨_,R,dp,S,rfl,rfl,hs⟩,fun q g ⟨F,hp,_⟩=>fun _=>⟨[],[],rfl,rfl,⟨⟨fun _=>0,fun _=>q.b 2,fun _=>.empty,fun _=>.tuple #[],fun _=>Hl.none⟩,rfl,zzT,zzT⟩,?_⟩⟩;rintro u R' dp' S' st' e1 k d;simp only[aaC,aaP]at e1 k;subst e1 k;have:=(hx.uniq d).2.1;subst this;exact hp _ R dp S rfl rfl hs
def Er (row:List Value) (k:Nat):Nat:=match row[k]? with
 | some (.slice _ l _)=>l
 | _=>0
def vn:Sx.Spec where
 fn:=26
 own:=[]
 rd:=[0]
 res:=[.one .bool]
 pre:=fun xs Hs Rs=>∃ u n R rows,xs=[u,.int .i64 n]/\Rs=[R]/\bq R u rE rows/\n<=100
 post:=fun xs Hs Rs v Hs' F=>∀ u n R rows,xs=[u,.int .i64 n]->Rs=[R]->bq R u rE rows->∃ z,v=.bool z/\(z=true->(rows.length:Int)<=n/\∀ row∈rows,Er row 53<=20/\Er row 125<=2100)
noncomputable def NW:aG Tryz.prog [] 26 where
 Λ:=fun p=>if lp p then some ⟨0,[(5,TI .i64 (.var 50))],[],60⟩else none
 args:=[.sv (.one (.sl (.var 0) (.var 1) (.var 2) (.var 3))),.sv (.one (.int .i64 (.var 4)))]
 mem:=[.ro 5 [.var 0] false]
 nv:=6
def KU (h:bo row rE) (hk:k=53\/k=125):∃ u,row[k]?=some u/\bz (some u) .slice=true/\bw (some u) 2=Er row k:=by
 have hl:=gx h;rw[m8]at hl;have sj:k<row.length:=ah;refine⟨row[k],aax sj,?_⟩;have h1:bz row[k]? .slice=true:=by
  obtain⟨q,b,_,_⟩:=DV (ks:=jU) [] h;rw[b];rcases hk with rfl | rfl<;>kernel_rfl
 rw[aax sj]at h1;refine⟨h1,?_⟩;unfold Er;rw[aax sj];cases hv:row[k]with
 | slice a l c=>simp [bw]
 | _=>rw[hv]at h1;simp [bz]at h1
def Lz:vn.OK Tryz.prog:=by
 refine Spec.aV (Γ:=[]) (fun _ h=>nomatch h) ?_;rintro xs Hs Rs l A ⟨u,n,R,rows,rfl,rfl,w,hn⟩;have B:Hs=[]:=aaz.1 l;subst B;obtain⟨x,y,c,rfl,C,hr⟩:=id w;refine⟨NW,aL [x,y,rows.length,c,n] false [Hl.none,Hl.none,Hl.none,Hl.none,Hl.none,R],fun _ q=>∃ k:Nat,q.i 50=k/\k<=rows.length/\∀ row∈rows.take k,Er row 53<=20/\Er row 125<=2100,fun _ q=>(rows.length-q.i 50).toNat,?_,dw (by intro r hr;simp [NW]at hr;subst hr;exact⟨_,_,_,rfl⟩) rfl,(fun _ h=>nomatch h),?_⟩
 .show [Value.slice (az x y) ((rows.length:Int)).toNat ((c:Int)).toNat,_]=_;simp only[aar];rfl
 refine aG.read [] [] [] ?_;generalize b:aL [x,y,rows.length,c,n] false [Hl.none,Hl.none,Hl.none,Hl.none,Hl.none,R]=J;have V:∀ q:Env,ai 6 J q->q.i 0=x/\q.i 1=y/\q.i 2=rows.length/\q.i 4=n/\q.h 5=R:=fun q d=>by
  rw[d.i 0,d.i 1,d.i 2,d.i 4,d.h 5,<-b];exact⟨rfl,rfl,rfl,rfl,rfl⟩
 clear b;have out:∀ {q:Env} {e:E} {mem:Mem},(bh q e=true->(rows.length:Int)<=n/\∀ row∈rows,Er row 53<=20/\Er row 125<=2100)->postOf vn [.slice (az x y) rows.length c,.int .i64 n] [] [R] q mem (.sv (.one (.bool e))):=by
  intro q e mem he;refine Aw rfl fun N n' R' m e1 z o=>?_;simp only[aaC,Value.int.injEq,abk,aaP]at e1 z;obtain⟨rfl,rfl⟩:=e1;subst z;obtain rfl:=w.uniq o;exact⟨_,rfl,he⟩
 have ff:∀ {q:Env} {mem:Mem},postOf vn [.slice (az x y) rows.length c,.int .i64 n] [] [R] q mem (.sv (.one (.bool .ff))):=out fun e=>by rw[du]at e;cases e
 simp only[go_sem,Nat.reduceAdd];refine⟨⟨0,rfl,abJ _,fun row h=>by simp at h⟩,fun q g ⟨k,p,hk,hall⟩=>?_⟩;obtain⟨v0,v1,v2,v4,D⟩:=V q g;rw[v0,v1,v2,D,p];have fin:∀ {q':Env} {mem:Mem},q'=q->(k=rows.length\/100<=k)->postOf vn [.slice (az x y) rows.length c,.int .i64 n] [] [R] q' mem (.sv (.one (.bool (.le (.var 2) (.var 4))))):=by
  rintro q' mem rfl F;refine out fun h=>?_;rw[kQ,al,al,v2,v4,aaB]at h;have:k=rows.length:=ah;refine⟨h,fun row hr=>hall row ?_⟩;rw[this,abG];exact hr
 refine⟨ah,fun s=>⟨fun f=>?_,fun f=>fin rfl (Or.inr ah)⟩,fun G=>fin rfl (Or.inl ah)⟩;have j:rows[k]?=some rows[k]:=aax ah;rcases hr with rfl | ⟨hx,hr⟩
 .simp at s;omega
 obtain⟨hok,a⟩:=hr k _ j;rw[m8]at a;obtain⟨H,t,s1,s2⟩:=KU hok (Or.inl rfl);obtain⟨I,v,K,L⟩:=KU hok (Or.inr rfl);have k1:R.cell x.toNat (y+(k:Int)*126+53).toNat=some H:=by rw[show(y+(k:Int)*126+53).toNat=y.toNat+k*126+53 by omega];exact a 53 _ t
 have k2:R.cell x.toNat (y+(k:Int)*126+125).toNat=some I:=by rw[show(y+(k:Int)*126+125).toNat=y.toNat+k*126+125 by omega];exact a 125 _ v
 rw[k1,k2,s2,L];refine⟨hx,C,ah,s1,ah,fun M=>⟨K,ah,fun _=>ff,fun hb=>⟨⟨k+1,?_,ah,fun row aE=>?_⟩,?_⟩⟩,fun _=>ff⟩
 .show IntKind.i64.wrap (q.i 50+1)=_;rw[p];exact wrap_i64 ah ah
 .rw[abV,j,ab8]at aE;rcases aa4.1 aE with h | h
  .exact hall row h
  .rw[aaJ]at h;subst h;exact⟨ah,ah⟩
 .show((rows.length:Int)-IntKind.i64.wrap (q.i 50+1)).toNat<_;rw[p,wrap_i64 ah ah];omega
structure PS where
 l:List Int
 bad:Bool
def nL (m:Int) (s:PS):PS:=⟨(oh s.l s.bad m).2.1,(oh s.l s.bad m).2.2⟩
def aQ (m:Int) (s:PS):Int:=(oh s.l s.bad m).1
def rY (n:Int) (s:PS):PS:=⟨(mW s.l s.bad n).2.1,(mW s.l s.bad n).2.2⟩
def cV (n:Int) (s:PS):List Int:=(mW s.l s.bad n).1
def uD (s:PS):PS:=⟨(kT s.l s.bad).2.1,(kT s.l s.bad).2.2⟩
def jH (s:PS):Bool:=(kT s.l s.bad).1
def fi (n:Nat) (l:List Int):List Int:=(List.range n).map fun j=>l.getD j 0
def fa (n:Nat) (l:List Int):(fi n l).length=n:=by unfold fi;simp
def m7 {n:Nat} (h:l.length=n):fi n l=l:=by
 apply aa2;intro j;unfold fi;rw[aaL];by_cases a:j<n
 .rw[aaZ a,abe,aaD,aax ah];rfl
 .rw[aaK (by simp;omega),aaK ah];rfl
section
variable {s:PS}
def xF (hb:aq s.l) (h:(nL m s).bad=false):s.bad=false/\s.l=aj (aQ m s).toNat++(nL m s).l/\0<=aQ m s/\aQ m s<=m/\aQ m s<18446744073709551616:=by
 unfold nL aQ oh at *;split at h
 .cases h
 .rename_i hc;rw[aaG hc];have h1:s.bad=false:=by
   cases hs:s.bad
   .rfl
   .exact absurd (Or.inl hs) hc
  have h2:(dr s.l).2≠0:=fun e=>hc (Or.inr (Or.inl e));have a:¬m<((dr s.l).1:Int):=fun e=>hc (Or.inr (Or.inr e));cases hn:uw s.l with
  | none=>unfold dr at h2;rw[hn]at h2;exact absurd rfl h2
  | some r =>
   obtain⟨x,k⟩:=r;obtain⟨_,_,b,c⟩:=BV hb hn;have e:dr s.l=(x,k):=by unfold dr;rw[hn];rfl
   rw[e]at a ⊢;refine⟨h1,?_,by show(0:Int)<=(x:Int);omega,by show(x:Int)<=m;simp only at a;omega,by show(x:Int)<_;omega⟩;show s.l=aj ((x:Int)).toNat++s.l.drop k;rw[aar,<-b,ac9]
def Pv (h:(rY n s).bad=false):s.bad=false/\s.l=cV n s++(rY n s).l/\(cV n s).length=n.toNat:=by
 unfold rY cV mW at *;split at h
 .cases h
 .rename_i hc;rw[aaG hc];have h1:s.bad=false:=by
   cases hs:s.bad
   .rfl
   .exact absurd (Or.inl hs) hc
  have h2:¬(s.l.length:Int)<n:=fun e=>hc (Or.inr (Or.inr e));exact⟨h1,(ac9 _ _).symm,by show(s.l.take n.toNat).length=_;rw[aaU];omega⟩
def Ww (h:(uD s).bad=false) (hb:aq s.l):s.bad=false/\s.l=dq (jH s)++(uD s).l:=by
 unfold uD jH kT at *;split at h
 .cases h
 .rename_i hc;rw[aaG hc];have h1:s.bad=false:=by
   cases hs:s.bad
   .rfl
   .exact absurd (Or.inl hs) hc
  have h2:s.l≠[]:=fun e=>hc (Or.inr (Or.inl e));have a:¬1<s.l.getD 0 0:=fun e=>hc (Or.inr (Or.inr e));refine⟨h1,?_⟩;cases hl:s.l with
  | nil=>exact absurd hl h2
  | cons x t =>
   rw[hl]at a;have hx:=hb x (by rw[hl];exact aa8 ..);have a:¬1<x:=a;show x::t=dq (decide (x=1))++t;unfold dq;have:x=0\/x=1:=ah;rcases this with rfl | rfl<;>rfl
def W7 (h1:(z:Int)<=m) (h2:z<18446744073709551616):nL m ⟨aj z++t,false⟩=⟨t,false⟩/\aQ m ⟨aj z++t,false⟩=z:=by
 have e:dr (aj z++t)=(z,(aj z).length):=by unfold dr;rw[ru h2];rfl
 have hp:=ux z;have hc:¬((false:Bool)=true\/(dr (aj z++t)).2=0\/m<((dr (aj z++t)).1:Int)):=by
  rw[e];rintro(x | x | x)
  .cases x
  .simp only at x;omega
  .simp only at x;omega
 unfold nL aQ oh;rw[aaG hc,e];refine⟨?_,rfl⟩;show PS.mk ((aj z++t).drop (aj z).length) false=_;rw[List.drop_left]
def Te (h:(l.length:Int)=n):rY n ⟨l++t,false⟩=⟨t,false⟩/\cV n ⟨l++t,false⟩=l:=by
 have hc:¬((false:Bool)=true\/n<0\/((l++t).length:Int)<n):=by
  rw[aay];rintro(x | x | x)
  .cases x
  .omega
  .omega
 have hn:n.toNat=l.length:=ah;unfold rY cV mW;rw[aaG hc,hn];refine⟨?_,?_⟩
 .show PS.mk ((l++t).drop l.length) false=_;rw[List.drop_left]
 .show(l++t).take l.length=_;rw[acQ]
def Uc {b:Bool} : uD ⟨dq b++t,false⟩=⟨t,false⟩/\jH ⟨dq b++t,false⟩=b:=by
 cases b
 .exact⟨rfl,rfl⟩
 .exact⟨rfl,rfl⟩
def dj (hb:aq s.l):aq (nL m s).l:=by
 unfold nL oh;split
 .exact hb
 .exact ic hb _
def pn (hb:aq s.l):aq (rY n s).l:=by
 unfold rY mW;split
 .exact hb
 .exact ic hb _
def Df (hb:aq s.l):aq (uD s).l:=by
 unfold uD kT;split
 .exact hb
 .exact ic hb _
def rU (hm:0<=m):0<=aQ m s/\aQ m s<=m:=by
 unfold aQ oh;split
 .exact⟨aaM _,hm⟩
 .rename_i hc;have a:¬m<((dr s.l).1:Int):=fun e=>hc (Or.inr (Or.inr e));exact⟨by show(0:Int)<=((dr s.l).1:Int);omega,by show((dr s.l).1:Int)<=m;omega⟩
def uZ (hb:aq s.l):aq (cV n s):=by
 unfold cV mW;split
 .exact fun b h=>by cases h
 .exact fun b h=>hb b (abo h)
def Ag {n:Nat} (h:aq l):aq (fi n l):=by
 intro b hb;unfold fi at hb;obtain⟨j,_,rfl⟩:=abb.1 hb;rw[aaD];cases a:l[j]? with
 | none=>exact⟨aaM _,aA⟩
 | some z=>exact h z (aaA a)
end
def fN:Nat->PS->List (List Int)×PS
 | 0,s=>([],s)
 | k+1,s=>((fN k s).1++[fi 16 (cV 16 (fN k s).2)],rY 16 (fN k s).2)
def Tl:∀ (k:Nat) (s:PS),(fN k s).2.bad=false->s.bad=false/\s.l=(fN k s).1.flatten++(fN k s).2.l
 | 0,s,h=>⟨h,rfl⟩
 | k+1,s,h=>by
  obtain⟨h1,h2,a⟩:=Pv (s:=(fN k s).2) h;obtain⟨b,c⟩:=Tl k s h1;refine⟨b,?_⟩;show s.l=((fN k s).1++[fi 16 (cV 16 (fN k s).2)]).flatten++(rY 16 (fN k s).2).l;rw[m7 (n:=16) a,acB,abR,ab9,abA,aaV,<-h2];exact c
def Ql:∀ (T:List (List Int)) (k:Nat),k<=T.length->(∀ t∈T,t.length=16)->∀ t,fN k ⟨T.flatten++t,false⟩=(T.take k,⟨(T.drop k).flatten++t,false⟩)
 | T,0,_,_,t=>rfl
 | T,k+1,hk,hT,t=>by
  have ih:=Ql T k ah hT t;have hx:=aax (show k<T.length by omega);have hl:=hT _ (aaA hx);have e:(T.drop k).flatten++t=T[k]++((T.drop (k+1)).flatten++t):=by
   rw[adw ah,abR,aaV]
  obtain⟨r1,r2⟩:=Te (n:=16) (l:=T[k]) (t:=(T.drop (k+1)).flatten++t) ah;show((fN k _).1++[fi 16 (cV 16 (fN k _).2)],rY 16 (fN k _).2)=_;rw[ih,e,r1,r2,m7 hl,abV,hx];rfl
def uT:∀ (k:Nat) (s:PS),(fN k s).1.length=k
 | 0,_=>rfl
 | k+1,s=>by
  show((fN k s).1++[_]).length=_;rw[aay,uT k s];rfl
def yq:∀ (k:Nat) (s:PS),aq s.l->(∀ t∈(fN k s).1,t.length=16/\aq t)/\aq (fN k s).2.l
 | 0,s,h=>⟨fun t a=>(by cases a),h⟩
 | k+1,s,h=>by
  obtain⟨h1,h2⟩:=yq k s h;refine⟨fun t a=>?_,pn h2⟩;rcases aa4.1 a with a | a
  .exact h1 t a
  .rw[aaJ]at a;subst a;exact⟨fa _ _,Ag (uZ h2)⟩
def p0 (b:List Int):PS:=⟨b,false⟩
def p1 (b:List Int):PS:=nL 6 (p0 b)
def p2 (b:List Int):PS:=nL 1048576 (p1 b)
def p3 (b:List Int):PS:=rY 32 (p2 b)
def p4 (b:List Int):PS:=nL 255 (p3 b)
def p5 (b:List Int):PS:=uD (p4 b)
def p6 (b:List Int):PS:=nL 1099511627776 (p5 b)
def p7 (b:List Int):PS:=rY 16 (p6 b)
def p8 (b:List Int):PS:=nL 8 (p7 b)
def hN (b:List Int):Nat:=(aQ 8 (p7 b)).toNat
def hT (b:List Int):List (List Int):=(fN (hN b) (p8 b)).1
def k0 (b:List Int):PS:=(fN (hN b) (p8 b)).2
def k1 (b:List Int):PS:=nL 1048576 (k0 b)
def k2 (b:List Int):PS:=nL 1048576 (k1 b)
def k3 (b:List Int):PS:=nL 1048576 (k2 b)
def k4 (b:List Int):PS:=nL 1048576 (k3 b)
def k5 (b:List Int):PS:=nL 1048576 (k4 b)
def k6 (b:List Int):PS:=nL 1048576 (k5 b)
def tF (b:List Int):PS:=rY 32 (k6 b)
def xG (b:List Int):PS:=nL 2064 (tF b)
def IE (b:List Int):PS:=rY 32 (xG b)
def gC (b:List Int) (u:Value):List Value :=
 [.int .i64 (aQ 6 (p0 b)),.int .u64 (aQ 1048576 (p1 b))]++aM (fi 32 (cV 32 (p2 b)))++[.int .i64 (aQ 255 (p3 b)),.bool (jH (p4 b)),.int .u64 (aQ 1099511627776 (p5 b))]++aM (fi 16 (cV 16 (p6 b)))++[u] ++
 [.int .u64 (aQ 1048576 (k0 b)),.int .u64 (aQ 1048576 (k1 b)),.int .u64 (aQ 1048576 (k2 b)),.int .u64 (aQ 1048576 (k3 b)),.int .u64 (aQ 1048576 (k4 b)),.int .u64 (aQ 1048576 (k5 b))]++aM (fi 32 (cV 32 (k6 b)))++[.int .i64 (aQ 2064 (tF b))]++aM (fi 32 (cV 32 (xG b)))
def ox {a n:Nat} (c:A.length=a) (hn:B.length=n):aW (A++aM B++C) a n=B:=by
 subst c hn;apply aa2;intro j;unfold aW;rw[aaL];by_cases b:j<B.length
 .rw[aaZ b,abe,aax b];unfold cI aM;rw[aa0 (by rw[aay,aaT];omega),aaQ ah,show A.length+j-A.length=j by omega,aaL,aax b];rfl
 .rw[aaK (by simp;omega),aaK ah];rfl
def mG (b:List Int):Hd:=⟨gC b (.bool false),hT b⟩
section
variable (b:List Int)
def c_0:cI (mG b).c 0=aQ 6 (p0 b):=rfl
def c_1:cI (mG b).c 1=aQ 1048576 (p1 b):=rfl
def c_2:aW (mG b).c 2 32=fi 32 (cV 32 (p2 b)):=by
 have e:(mG b).c=([Value.int .i64 (aQ 6 (p0 b)),.int .u64 (aQ 1048576 (p1 b))])++aM (fi 32 (cV 32 (p2 b)))++([Value.int .i64 (aQ 255 (p3 b)),.bool (jH (p4 b)),.int .u64 (aQ 1099511627776 (p5 b))]++(aM (fi 16 (cV 16 (p6 b)))++([Value.bool false]++([Value.int .u64 (aQ 1048576 (k0 b)),.int .u64 (aQ 1048576 (k1 b)),.int .u64 (aQ 1048576 (k2 b)),.int .u64 (aQ 1048576 (k3 b)),.int .u64 (aQ 1048576 (k4 b)),.int .u64 (aQ 1048576 (k5 b))]++(aM (fi 32 (cV 32 (k6 b)))++([Value.int .i64 (aQ 2064 (tF b))]++(aM (fi 32 (cV 32 (xG b)))))))))):=by
  show gC b (.bool false)=_;unfold gC;simp only[aaV,abA]
 rw[e];exact ox (by simp [fa,aM]) (fa _ _)
def V0:cI (mG b).c 34=aQ 255 (p3 b):=rfl
def V1:cB (mG b).c 35=jH (p4 b):=rfl
def V2:cI (mG b).c 36=aQ 1099511627776 (p5 b):=rfl
def V3:aW (mG b).c 37 16=fi 16 (cV 16 (p6 b)):=by
 have e:(mG b).c=([Value.int .i64 (aQ 6 (p0 b)),.int .u64 (aQ 1048576 (p1 b))]++aM (fi 32 (cV 32 (p2 b)))++[Value.int .i64 (aQ 255 (p3 b)),.bool (jH (p4 b)),.int .u64 (aQ 1099511627776 (p5 b))])++aM (fi 16 (cV 16 (p6 b)))++([Value.bool false]++([Value.int .u64 (aQ 1048576 (k0 b)),.int .u64 (aQ 1048576 (k1 b)),.int .u64 (aQ 1048576 (k2 b)),.int .u64 (aQ 1048576 (k3 b)),.int .u64 (aQ 1048576 (k4 b)),.int .u64 (aQ 1048576 (k5 b))]++(aM (fi 32 (cV 32 (k6 b)))++([Value.int .i64 (aQ 2064 (tF b))]++(aM (fi 32 (cV 32 (xG b)))))))):=by
  show gC b (.bool false)=_;unfold gC;simp only[aaV,abA]
 rw[e];exact ox (by simp [fa,aM]) (fa _ _)
def V4:cI (mG b).c 54=aQ 1048576 (k0 b):=rfl
def V5:cI (mG b).c 55=aQ 1048576 (k1 b):=rfl
def V6:cI (mG b).c 56=aQ 1048576 (k2 b):=rfl
def V7:cI (mG b).c 57=aQ 1048576 (k3 b):=rfl
def V8:cI (mG b).c 58=aQ 1048576 (k4 b):=rfl
def V9:cI (mG b).c 59=aQ 1048576 (k5 b):=rfl
def YR:aW (mG b).c 60 32=fi 32 (cV 32 (k6 b)):=by
 have e:(mG b).c=([Value.int .i64 (aQ 6 (p0 b)),.int .u64 (aQ 1048576 (p1 b))]++aM (fi 32 (cV 32 (p2 b)))++[Value.int .i64 (aQ 255 (p3 b)),.bool (jH (p4 b)),.int .u64 (aQ 1099511627776 (p5 b))]++aM (fi 16 (cV 16 (p6 b)))++[Value.bool false]++[Value.int .u64 (aQ 1048576 (k0 b)),.int .u64 (aQ 1048576 (k1 b)),.int .u64 (aQ 1048576 (k2 b)),.int .u64 (aQ 1048576 (k3 b)),.int .u64 (aQ 1048576 (k4 b)),.int .u64 (aQ 1048576 (k5 b))])++aM (fi 32 (cV 32 (k6 b)))++([Value.int .i64 (aQ 2064 (tF b))]++(aM (fi 32 (cV 32 (xG b))))):=by
  show gC b (.bool false)=_;unfold gC;simp only[aaV,abA]
 rw[e];exact ox (by simp [fa,aM]) (fa _ _)
def Wa:cI (mG b).c 92=aQ 2064 (tF b):=rfl
def YS:aW (mG b).c 93 32=fi 32 (cV 32 (xG b)):=by
 have e:(mG b).c=([Value.int .i64 (aQ 6 (p0 b)),.int .u64 (aQ 1048576 (p1 b))]++aM (fi 32 (cV 32 (p2 b)))++[Value.int .i64 (aQ 255 (p3 b)),.bool (jH (p4 b)),.int .u64 (aQ 1099511627776 (p5 b))]++aM (fi 16 (cV 16 (p6 b)))++[Value.bool false]++[Value.int .u64 (aQ 1048576 (k0 b)),.int .u64 (aQ 1048576 (k1 b)),.int .u64 (aQ 1048576 (k2 b)),.int .u64 (aQ 1048576 (k3 b)),.int .u64 (aQ 1048576 (k4 b)),.int .u64 (aQ 1048576 (k5 b))]++aM (fi 32 (cV 32 (k6 b)))++[Value.int .i64 (aQ 2064 (tF b))])++aM (fi 32 (cV 32 (xG b)))++([]):=by
  show gC b (.bool false)=_;unfold gC;simp only[aaV,abA]
 rw[e];exact ox (by simp [fa,aM]) (fa _ _)
end
def oC {z:Int} (h0:0<=z) (h1:z<18446744073709551616):bJ z=z.toNat:=by unfold bJ;rw[oH h0 h1]
def Zp {b:List Int} (hb:aq b) (h:(IE b).bad=false) (hl:(IE b).l=[]):tE (mG b)=b:=by
 have b0:aq (p0 b).l:=hb;have b1:aq (p1 b).l:=dj b0;have b2:aq (p2 b).l:=dj b1;have u:aq (p3 b).l:=pn b2;have v:aq (p4 b).l:=dj u;have w:aq (p5 b).l:=Df v;have y:aq (p6 b).l:=dj w;have x:aq (p7 b).l:=pn y;have z:aq (p8 b).l:=dj x;have d0:aq (k0 b).l:=(yq _ _ z).2;have d1:aq (k1 b).l:=dj d0;have d2:aq (k2 b).l:=dj d1;have d3:aq (k3 b).l:=dj d2;have d4:aq (k4 b).l:=dj d3;have d5:aq (k5 b).l:=dj d4;have d6:aq (k6 b).l:=dj d5;have e:aq (tF b).l:=pn d6;obtain⟨f,a,n17⟩:=Pv (s:=xG b) (n:=32) h;obtain⟨g,c,i,A,_⟩:=xF (s:=tF b) (m:=2064) e f;obtain⟨B,d,n15⟩:=Pv (s:=k6 b) (n:=32) g;obtain⟨C,f6,_⟩:=xF (s:=k5 b) (m:=1048576) d5 B;obtain⟨D,f5,_⟩:=xF (s:=k4 b) (m:=1048576) d4 C;obtain⟨E,f4,_⟩:=xF (s:=k3 b) (m:=1048576) d3 D;obtain⟨F,f3,_⟩:=xF (s:=k2 b) (m:=1048576) d2 E;obtain⟨G,f2,_⟩:=xF (s:=k1 b) (m:=1048576) d1 F;obtain⟨g0,f1,_⟩:=xF (s:=k0 b) (m:=1048576) d0 G;obtain⟨H,f0⟩:=Tl (hN b) (p8 b) g0;obtain⟨I,j,O,P,_⟩:=xF (s:=p7 b) (m:=8) x H;obtain⟨J,k,n7⟩:=Pv (s:=p6 b) (n:=16) I;obtain⟨K,o,_⟩:=xF (s:=p5 b) (m:=1099511627776) w J;obtain⟨L,p⟩:=Ww (s:=p4 b) K v;obtain⟨M,q,N,Q,_⟩:=xF (s:=p3 b) (m:=255) u L;obtain⟨h2,r,n3⟩:=Pv (s:=p2 b) (n:=32) M;obtain⟨h1,t,_⟩:=xF (s:=p1 b) (m:=1048576) b1 h2;obtain⟨_,e1,x1,R,_⟩:=xF (s:=p0 b) (m:=6) b0 h1;have a:(xG b).l=cV 32 (xG b):=by rw[a];show _++(IE b).l=_;rw[hl,abA]
 have e1:b=_++(p1 b).l:=e1;have t:(p1 b).l=_++(p2 b).l:=t;have r:(p2 b).l=_++(p3 b).l:=r;have q:(p3 b).l=_++(p4 b).l:=q;have p:(p4 b).l=_++(p5 b).l:=p;have o:(p5 b).l=_++(p6 b).l:=o;have k:(p6 b).l=_++(p7 b).l:=k;have j:(p7 b).l=aj (hN b)++(p8 b).l:=j;have f0:(p8 b).l=(hT b).flatten++(k0 b).l:=f0;have f1:(k0 b).l=_++(k1 b).l:=f1;have f2:(k1 b).l=_++(k2 b).l:=f2;have f3:(k2 b).l=_++(k3 b).l:=f3;have f4:(k3 b).l=_++(k4 b).l:=f4;have f5:(k4 b).l=_++(k5 b).l:=f5;have f6:(k5 b).l=_++(k6 b).l:=f6;have d:(k6 b).l=_++(tF b).l:=d;have c:(tF b).l=_++(xG b).l:=c;have hlen:(hT b).length=hN b:=uT _ _;have key:tE (mG b)=aj (aQ 6 (p0 b)).toNat++(aj (aQ 1048576 (p1 b)).toNat++(cV 32 (p2 b)++(aj (aQ 255 (p3 b)).toNat++(dq (jH (p4 b))++(aj (aQ 1099511627776 (p5 b)).toNat++(cV 16 (p6 b)++(aj (hN b)++((hT b).flatten++(aj (aQ 1048576 (k0 b)).toNat++(aj (aQ 1048576 (k1 b)).toNat++(aj (aQ 1048576 (k2 b)).toNat++(aj (aQ 1048576 (k3 b)).toNat++(aj (aQ 1048576 (k4 b)).toNat++(aj (aQ 1048576 (k5 b)).toNat++(cV 32 (k6 b)++(aj (aQ 2064 (tF b)).toNat++cV 32 (xG b))))))))))))))))):=by
  unfold tE me pH bg;show _++aj (hT b).length++(hT b).flatten++_++_++_++_++_++_++_++_++_=_;rw[hlen,c_0,c_1,c_2,V0,V1,V2,V3,V4,V5,V6,V7,V8,V9,YR,Wa,YS,oC x1 ah,oC N ah,oC i ah,m7 (n:=32) n3,m7 (n:=16) n7,m7 (n:=32) n15,m7 (n:=32) n17];simp only[aaV]
 rw[key,<-a,<-c,<-d,<-f6,<-f5,<-f4,<-f3,<-f2,<-f1,<-f0,<-j,<-k,<-o,<-p,<-q,<-r,<-t,<-e1]
section
variable {s:PS} {t:List Int}
def pL (hs:s=⟨aj z++t,false⟩) (h1:(z:Int)<=m) (h2:z<18446744073709551616):nL m s=⟨t,false⟩/\aQ m s=z:=by
 subst hs;exact W7 h1 h2
def Kx (hs:s=⟨l++t,false⟩) (h:(l.length:Int)=n):rY n s=⟨t,false⟩/\cV n s=l:=by
 subst hs;exact Te h
def Ue {b:Bool} (hs:s=⟨dq b++t,false⟩):uD s=⟨t,false⟩/\jH s=b:=by
 subst hs;exact Uc
def VF {T:List (List Int)} (hs:s=⟨T.flatten++t,false⟩) (hT:∀ x∈T,x.length=16):fN T.length s=(T,⟨t,false⟩):=by
 subst hs;rw[Ql T T.length (aaS _) hT,abG,List.drop_length,ab9,abU]
end
def K9 {b:List Value} {n:Nat} (h:aW a i n=aW b i n):tC (cI a) i n↔tC (cI b) i n:=by
 refine wh fun j c=>?_;have:=aa1 (fun l=>l[j]?) h;unfold aW at this;simpa [aaL,aaZ c] using this
def Zq {h:Hd} (hx:bU R row h) (hF:h.Form):(IE (tE h)).bad=false/\(IE (tE h)).l=[]/\(mG (tE h)).Form:=by
 obtain⟨⟨hw,hs,he,C,hk,D,hp⟩,h8,E,r,F⟩:=id hF;have u:∀ {k:Nat},fu[k]?=some (.int .u64)->k≠53->0<=cI h.c k:=fun {k} hk G=>by
  rw[hx.I G];exact(hx.rng _ (aaA (uM hx.ok hk))).1
 have u1:0<=cI h.c 1:=u rfl aA;have ab:0<=cI h.c 36:=u rfl aA;have ad:0<=cI h.c 54:=u rfl aA;have ae:0<=cI h.c 55:=u rfl aA;have af:0<=cI h.c 56:=u rfl aA;have ag:0<=cI h.c 57:=u rfl aA;have ai:0<=cI h.c 58:=u rfl aA;have ak:0<=cI h.c 59:=u rfl aA;have al:80<=cI h.c 92/\cI h.c 92<=2064:=uk r;have s:∀ t∈h.t,t.length=16:=fun t C=>(hx.byte.2 t C).1;generalize hb:tE h=b;have key:b=aj (cI h.c 0).toNat++(aj (cI h.c 1).toNat++(aW h.c 2 32++(aj (cI h.c 34).toNat++(dq (cB h.c 35)++(aj (cI h.c 36).toNat++(aW h.c 37 16++(aj h.t.length++(h.t.flatten++(aj (cI h.c 54).toNat++(aj (cI h.c 55).toNat++(aj (cI h.c 56).toNat++(aj (cI h.c 57).toNat++(aj (cI h.c 58).toNat++(aj (cI h.c 59).toNat++(aW h.c 60 32++(aj (cI h.c 92).toNat++(aW h.c 93 32++([])))))))))))))))))):=by
  rw[<-hb];unfold tE me pH bg;rw[oC (z:=cI h.c 0) ah ah,oC (z:=cI h.c 34) ah ah,oC (z:=cI h.c 92) ah ah];simp only[aaV,abA]
 have s0:p0 b=⟨_,false⟩:=aa1 (fun l=>PS.mk l false) key;obtain⟨s1,v1⟩:=pL (m:=6) (z:=(cI h.c 0).toNat) s0 ah ah;have s1:p1 b=⟨_,false⟩:=s1;obtain⟨s2,v2⟩:=pL (m:=1048576) (z:=(cI h.c 1).toNat) s1 ah ah;have s2:p2 b=⟨_,false⟩:=s2;obtain⟨H,v3⟩:=Kx (n:=32) (l:=aW h.c 2 32) s2 (by rw[aJ];rfl);have H:p3 b=⟨_,false⟩:=H;obtain⟨J,v4⟩:=pL (m:=255) (z:=(cI h.c 34).toNat) H ah ah;have J:p4 b=⟨_,false⟩:=J;obtain⟨K,v5⟩:=Ue J;have K:p5 b=⟨_,false⟩:=K;obtain⟨L,v6⟩:=pL (m:=1099511627776) (z:=(cI h.c 36).toNat) K ah ah;have L:p6 b=⟨_,false⟩:=L;obtain⟨M,v7⟩:=Kx (n:=16) (l:=aW h.c 37 16) L (by rw[aJ];rfl);have M:p7 b=⟨_,false⟩:=M;obtain⟨s8,v8⟩:=pL (m:=8) (z:=h.t.length) M ah ah;have s8:p8 b=⟨_,false⟩:=s8;have vN:hN b=h.t.length:=by unfold hN;rw[v8];exact aar _
 have N:=VF s8 s;rw[<-vN]at N;have O:(fN (hN b) (p8 b)).2=⟨_,false⟩:=aa1 Prod.snd N;have vT:hT b=h.t:=aa1 Prod.fst N;have O:k0 b=⟨_,false⟩:=O;obtain⟨d,v10⟩:=pL (m:=1048576) (z:=(cI h.c 54).toNat) O ah ah;have d:k1 b=⟨_,false⟩:=d;obtain⟨f,v11⟩:=pL (m:=1048576) (z:=(cI h.c 55).toNat) d ah ah;have f:k2 b=⟨_,false⟩:=f;obtain⟨g,P⟩:=pL (m:=1048576) (z:=(cI h.c 56).toNat) f ah ah;have g:k3 b=⟨_,false⟩:=g;obtain⟨i,Q⟩:=pL (m:=1048576) (z:=(cI h.c 57).toNat) g ah ah;have i:k4 b=⟨_,false⟩:=i;obtain⟨j,S⟩:=pL (m:=1048576) (z:=(cI h.c 58).toNat) i ah ah;have j:k5 b=⟨_,false⟩:=j;obtain⟨o,T⟩:=pL (m:=1048576) (z:=(cI h.c 59).toNat) j ah ah;have o:k6 b=⟨_,false⟩:=o;obtain⟨p,an⟩:=Kx (n:=32) (l:=aW h.c 60 32) o (by rw[aJ];rfl);have p:tF b=⟨_,false⟩:=p;obtain⟨q,U⟩:=pL (m:=2064) (z:=(cI h.c 92).toNat) p ah ah;have q:xG b=⟨_,false⟩:=q;obtain⟨a,ao⟩:=Kx (n:=32) (l:=aW h.c 93 32) q (by rw[aJ];rfl);have a:IE b=⟨_,false⟩:=a;refine⟨aa1 PS.bad a,aa1 PS.l a,?_⟩;have q0:cI (mG b).c 0=cI h.c 0:=(c_0 b).trans (v1.trans ah);have q1:cI (mG b).c 1=cI h.c 1:=(c_1 b).trans (v2.trans ah);have V:cI (mG b).c 34=cI h.c 34:=(V0 b).trans (v4.trans ah);have W:cI (mG b).c 36=cI h.c 36:=(V2 b).trans (v6.trans ah);have v:cI (mG b).c 54=cI h.c 54:=(V4 b).trans (v10.trans ah);have w:cI (mG b).c 55=cI h.c 55:=(V5 b).trans (v11.trans ah);have x:cI (mG b).c 56=cI h.c 56:=(V6 b).trans (P.trans ah);have y:cI (mG b).c 57=cI h.c 57:=(V7 b).trans (Q.trans ah);have A:cI (mG b).c 58=cI h.c 58:=(V8 b).trans (S.trans ah);have B:cI (mG b).c 59=cI h.c 59:=(V9 b).trans (T.trans ah);have X:cI (mG b).c 92=cI h.c 92:=(Wa b).trans (U.trans ah);have Y:cB (mG b).c 35=cB h.c 35:=(V1 b).trans v5;have Z:tC (cI (mG b).c) 2 32↔tC (cI h.c) 2 32:=K9 ((c_2 b).trans (by rw[show cV 32 (p2 b)=_ from v3];exact m7 (aJ _ _ _)));have aa:tC (cI (mG b).c) 37 16↔tC (cI h.c) 37 16:=K9 ((V3 b).trans (by rw[show cV 16 (p6 b)=_ from v7];exact m7 (aJ _ _ _)));have qk:cI (mG b).c (54+(cI h.c 0-1).toNat)=cI h.c (54+(cI h.c 0-1).toNat):=by
  have:(cI h.c 0-1).toNat=0\/(cI h.c 0-1).toNat=1\/(cI h.c 0-1).toNat=2\/(cI h.c 0-1).toNat=3\/(cI h.c 0-1).toNat=4\/(cI h.c 0-1).toNat=5:=ah;rcases this with e | e | e | e | e | e<;>rw[e]
  .exact v
  .exact w
  .exact x
  .exact y
  .exact A
  .exact B
 have qt:(mG b).t=h.t:=vT;unfold Hd.Form fb;rw[qt,Y,q0,q1,V,W,qk,v,w,x,y,A,B,X,Z,aa];exact⟨⟨hw,hs,he,C,hk,D,hp⟩,h8,E,r,F⟩
def Lq (a n:Nat) (N:E) (h:Nat) (X Y:E) (old:Nat->E):List CV:=(List.range n).map fun j=>.int .u8 (.ite (.lt (.lit ((a+j:Nat):Int)) (.add (.lit (a:Int)) N)) (.hI h X Y j) (old j))
def T0 (n:Nat) (N:E) (h:Nat) (X Y:E) (old:Nat->E):List CV:=(List.range n).map fun j=>.int .u8 (.ite (.lt (.lit ((j:Nat):Int)) N) (.hI h X Y j) (old j))
def Kr:List CV:=([.int .i64 (.wrap .i64 (.var 9)),.int .u64 (.var 11)]++(Lq 2 32 (.ite (.lt (.var 15) (.lit 32)) (.var 15) (.lit 32)) 14 (.var 13) (.var 14) (fun _=>.lit 0))++[.int .i64 (.wrap .i64 (.var 17)),.bool (.bvar 19),.int .u64 (.var 21)]++(Lq 37 16 (.ite (.lt (.var 25) (.lit 16)) (.var 25) (.lit 16)) 24 (.var 23) (.var 24) (fun _=>.lit 0))++[.sl (.lit (-1)) (.lit 0) (.lit 0) (.lit 0),.int .u64 (.lit 0),.int .u64 (.lit 0),.int .u64 (.lit 0),.int .u64 (.lit 0),.int .u64 (.lit 0),.int .u64 (.lit 0)]++List.replicate 32 (CV.int .u8 (.lit 0))++[.int .i64 (.lit 0)]++List.replicate 32 (CV.int .u8 (.lit 0)))
def Ks:List CV:=(ar 300 ([Ck.int .i64,Ck.int .u64]++List.replicate 32 (Ck.int .u8)++[Ck.int .i64,Ck.bool,Ck.int .u64]++List.replicate 16 (Ck.int .u8))++[.sl (.var 446) (.lit 0) (.add (.var 355) (.lit 1)) (.var 447)]++ar 357 (List.replicate 6 (Ck.int .u64)++List.replicate 32 (Ck.int .u8)++[Ck.int .i64]++List.replicate 32 (Ck.int .u8)))
def DH:List CV:=(ar 300 ([Ck.int .i64,Ck.int .u64]++List.replicate 32 (Ck.int .u8)++[Ck.int .i64,Ck.bool,Ck.int .u64]++List.replicate 16 (Ck.int .u8)++[Ck.sl])++[.int .u64 (.var 440),.int .u64 (.var 442),.int .u64 (.var 444),.int .u64 (.var 446),.int .u64 (.var 448),.int .u64 (.var 450)]++(Lq 60 32 (.ite (.lt (.var 454) (.lit 32)) (.var 454) (.lit 32)) 453 (.var 452) (.var 453) (fun j=>.var (363+j)))++[.int .i64 (.wrap .i64 (.var 456))]++(Lq 93 32 (.ite (.lt (.var 460) (.lit 32)) (.var 460) (.lit 32)) 459 (.var 458) (.var 459) (fun j=>.var (396+j))))
def Pg:List CV:=([.int .i64 (.lit 0),.int .u64 (.lit 0)]++List.replicate 32 (CV.int .u8 (.lit 0))++[.int .i64 (.lit 0),.bool .ff,.int .u64 (.lit 0)]++List.replicate 16 (CV.int .u8 (.lit 0))++[.sl (.lit (-1)) (.lit 0) (.lit 0) (.lit 0),.int .u64 (.lit 0),.int .u64 (.lit 0),.int .u64 (.lit 0),.int .u64 (.lit 0),.int .u64 (.lit 0),.int .u64 (.lit 0)]++List.replicate 32 (CV.int .u8 (.lit 0))++[.int .i64 (.lit 0)]++List.replicate 32 (CV.int .u8 (.lit 0)))
def qz:List As:=([⟨430,0,.int .i64 (.lit 0)⟩]:List As)++(S4 29 (ar 300 cy) Kr)
def qA:List As:=([⟨430,0,.int .i64 (.wrap .u64 (.add (.var 430) (.lit 1)))⟩]:List As)++(S4 29 (ar 300 cy) Ks)
def NT:Nd:=(fun a d p b1 m h o u a4 a5 a9 b0=>(fun b c k g i j l n q s z a0 A B=>(fun f r t v w x y C a3 D E b2=>(.ext (.alloc 5) (.ext (.alloc 6) (.and (.pre o) (.ext o (.and (.pre s) (.ext s (.and (.pre b2) (.ext b2 (.and (.pre E) (.ext E (.and (.e (.and (.or (.and (.eq (.var 13) a9) (.eq b0 h)) (.and (.le h (.var 13)) (.and (.le h (.var 14)) (.hby 14 (.var 13) (.var 14) (.ite (.lt b0 m) b0 m))))) (.and (.le h b0) (.le (.add (.lit 2) (.ite (.lt b0 m) b0 m)) (.lit 125))))) (.and (.pre q) (.ext q (.and (.pre z) (.ext z (.and (.pre l) (.ext l (.and (.pre x) (.ext x (.and (.e (.and (.or (.and (.eq (.var 23) a9) (.eq (.var 25) h)) (.and (.le h (.var 23)) (.and (.le h (.var 24)) (.hby 24 (.var 23) (.var 24) a0)))) (.and (.le h (.var 25)) (.le (.add (.lit 37) a0) (.lit 125))))) (.and (.pre n) (.ext n (.and (.inv 0 qz [(431,some 27),(432,none)]) (.havoc 0 0 29 (.and (.imp (.lt (.var 430) (.var 27)) (.ext (.alloc 440) (.and (.pre (.call 3 441 i A [])) (.ext (.call 3 441 i A []) (.and (.e (.and (.or (.and (.eq (.var 441) a9) (.eq (.var 443) h)) (.and (.le h (.var 441)) (.and (.le h (.var 442)) (.hby 442 (.var 441) (.var 442) k)))) (.and (.le h (.var 443)) (.le k b1)))) (.ext (.alloc 445) (.and (.pre f) (.ext f (.back 0 0 qA [(431,some 441),(432,some 446)]))))))))) (.imp (.not (.lt (.var 430) (.var 27))) (.and (.pre (.call 1 440 b A [])) (.ext (.call 1 440 b A []) (.and (.pre D) (.ext D (.and (.pre a3) (.ext a3 (.and (.pre C) (.ext C (.and (.pre y) (.ext y (.and (.pre v) (.ext v (.and (.pre t) (.ext t (.and (.e (.and (.or (.and (.eq (.var 452) a9) (.eq a4 h)) (.and (.le h (.var 452)) (.and (.le h (.var 453)) (.hby 453 (.var 452) (.var 453) (.ite (.lt a4 m) a4 m))))) (.and (.le h a4) (.le (.add (.lit 60) (.ite (.lt a4 m) a4 m)) (.lit 125))))) (.and (.pre j) (.ext j (.and (.pre r) (.ext r (.and (.e (.and (.or (.and (.eq (.var 458) a9) (.eq a5 h)) (.and (.le h (.var 458)) (.and (.le h (.var 459)) (.hby 459 (.var 458) (.var 459) (.ite (.lt a5 m) a5 m))))) (.and (.le h a5) (.le (.add (.lit 93) (.ite (.lt a5 m) a5 m)) (.lit 125))))) (.and (.pre B) (.ext B (.and (.imp (.bvar 462) (.and (.pre u) (.ext u (.and (.imp (.not (.bvar 463)) w) (.imp (.bvar 463) (.post c (.tup [.agg DH,.one (.int .i64 h)]))))))) (.imp (.not (.bvar 462)) w))))))))))))))))))))))))))))))))))))))))))))))))):Nd)) (.app 446 61 16 16 (.sl (.var 353) (.var 354) (.var 355) (.var 356)) (.var 355) (.hp 432 [] [.var 353] []) (.cvs (T0 16 k 442 (.var 441) (.var 442) (fun _=>.lit 0)) 1)) (.call 3 458 g [.hp 456 [452,450,448,446,444,442,440,431] d []] []) (.call 3 452 g [.hp 450 [448,446,444,442,440,431] d []] []) (.call 1 450 b [.hp 448 [446,444,442,440,431] d []] []) (.post c (.tup [.agg Pg,.one (.int .i64 (.lit 2))])) (.call 3 23 i [.hp 21 [19,17,13,11,9,7] d []] []) (.call 1 448 b [.hp 446 [444,442,440,431] d []] []) (.call 1 446 b [.hp 444 [442,440,431] d []] []) (.call 1 444 b [.hp 442 [440,431] d []] []) (.call 1 442 b [.hp 440 [431] d []] []) (.call 3 13 g [.hp 11 [9,7] d []] []) (.call 1 11 b [.hp 9 [7] d []] [])) [.sv a,.sv (.one (.int .u64 (.lit 1048576)))] [.ro 4 [.var 0] false,.dead,.dead,.hp 458 p d [],.hp 14 [] [.var 13] [],.hp 24 [] [.var 23] [],.hp 432 [] [.var 353] [],.hp 453 [] [.var 452] [],.hp 459 [] [.var 458] []] (.ite (.lt (.var 443) b1) (.var 443) b1) [.sv a,.sv (.one (.int .i64 m))] [.sv a,.sv (.one (.int .i64 b1))] (.call 1 456 [.sv a,.sv (.one (.int .u64 (.lit 2064)))] [.hp 452 [450,448,446,444,442,440,431] d []] []) (.call 1 21 [.sv a,.sv (.one (.int .u64 (.lit 1099511627776)))] [.hp 19 [17,13,11,9,7] d []] []) (.call 1 27 [.sv a,.sv (.one (.int .u64 (.lit 8)))] [.hp 23 [21,19,17,13,11,9,7] d []] []) (.call 1 17 [.sv a,.sv (.one (.int .u64 (.lit 255)))] [.hp 13 [11,9,7] d []] []) (.call 1 9 [.sv a,.sv (.one (.int .u64 (.lit 6)))] [.hp 7 [] d []] []) (.call 2 19 [.sv a] [.hp 17 [13,11,9,7] d []] []) (.ite (.lt (.var 25) b1) (.var 25) b1) [.hp 431 [] d []] (.call 4 462 [.sv a] [] [.hp 458 p d []])) (.one (.hptr (.var 7) (.var 8))) [.var 7] [456,452,450,448,446,444,442,440,431] (.lit 16) (.lit 32) (.lit 0) (.call 0 7 [.sv (.one (.sl (.var 0) (.var 1) (.var 2) (.var 3)))] [] [.ro 4 [.var 0] false]) (.call 5 463 [.sv (.agg DH)] [] [.hp 432 [] [.var 353] []]) (.var 454) (.var 460) (.lit (-1)) (.var 15)
noncomputable def X5:List Sx.Spec:=[po,fP,zl,IQ,xa,ie 117]
def T9:∀ t∈X5,t.OK Tryz.prog:=av vJ <| av Ry <| av N1 <| av R8 <| av FQ <| av nU <| bW
noncomputable def EZ:aG Tryz.prog X5 73 where
 Λ:=fun p=>if decide (p.length=14)&&!(p.head?==some 99)then some ⟨0,[(35,TI .u64 (.var 430))],[(2,.bj 6 (ar 300 cy) 65),(3,.hp 431 [] [.var 7] []),(6,.hp 432 [] [.var 353] [])],440⟩else none
 args:=[.sv (.one (.sl (.var 0) (.var 1) (.var 2) (.var 3)))]
 mem:=[.ro 4 [.var 0] false]
 nv:=5
def iB:∀ {a b:List Value} {c kb:List Kd},bo a c->bo b kb->bo (a++b) (c++kb)
 | [],_,[],_,_,h=>h
 | _::_,_,_::_,_,h,h'=>⟨h.1,iB h.2 h'⟩
 | [],_,_::_,_,h,_=>False.elim h
 | _::_,_,[],_,h,_=>False.elim h
def ow:∀ {l:List Int} {n:Nat},l.length=n->bo (aM l) (List.replicate n (.int .u8))
 | [],0,_=>trivial
 | _::l,n+1,h=>⟨rfl,ow (l:=l) (by simpa using h)⟩
 | [],_+1,h=>by simp at h
 | _::_,0,h=>by simp at h
def Ui:fu=[.int .i64,.int .u64]++List.replicate 32 (.int .u8)++[.int .i64,.bool,.int .u64]++List.replicate 16 (.int .u8)++[.slice]++[.int .u64,.int .u64,.int .u64,.int .u64,.int .u64,.int .u64]++List.replicate 32 (.int .u8)++[.int .i64]++List.replicate 32 (.int .u8):=by kernel_rfl
def Oe (b:List Int) (hu:bz (some u) .slice=true):bo (gC b u) fu:=by
 rw[Ui];unfold gC;refine iB (iB (iB (iB (iB (iB (iB (iB ⟨rfl,rfl,zzT⟩ (ow (fa _ _))) ⟨rfl,rfl,rfl,zzT⟩) (ow (fa _ _))) ⟨hu,zzT⟩) ⟨rfl,rfl,rfl,rfl,rfl,rfl,zzT⟩) (ow (fa _ _))) ⟨rfl,zzT⟩) (ow (fa _ _))
def ym (h:aq l):∀ v∈aM l,xH v:=by
 intro v hv;obtain⟨z,a,rfl⟩:=abb.1 hv;exact h z a
def LH {b:List Int} (hb:aq b) (hu:xH u):∀ v∈gC b u,xH v:=by
 have b0:aq (p0 b).l:=hb;have b1:aq (p1 b).l:=dj b0;have b2:aq (p2 b).l:=dj b1;have d:aq (p3 b).l:=pn b2;have e:aq (p4 b).l:=dj d;have f:aq (p5 b).l:=Df e;have c:aq (p6 b).l:=dj f;have g:aq (p7 b).l:=pn c;have h:aq (p8 b).l:=dj g;have d0:aq (k0 b).l:=(yq _ _ h).2;have d6:aq (k6 b).l:=dj (dj (dj (dj (dj (dj d0)))));have a:aq (xG b).l:=dj (pn d6);have U:∀ {m:Int} {s:PS},0<=m->m<=1099511627776->xH (.int .u64 (aQ m s)):=fun {m s} h0 h1=>by
  have:=rU (s:=s) h0;exact⟨this.1,ah⟩
 have I:∀ {m:Int} {s:PS},0<=m->m<=1099511627776->xH (.int .i64 (aQ m s)):=fun {m s} h0 h1=>by
  have:=rU (s:=s) h0;exact⟨ah,ah⟩
 have i:=ym (Ag (n:=32) (uZ (n:=32) b2));have j:=ym (Ag (n:=16) (uZ (n:=16) c));have k:=ym (Ag (n:=32) (uZ (n:=32) d6));have o:=ym (Ag (n:=32) (uZ (n:=32) a));intro v hv;unfold gC at hv;simp only[aa4,aaN,aaX,abC]at hv;rcases hv with (((((((hv | hv) | hv) | hv) | hv) | hv) | hv) | hv) | hv
 .rcases hv with rfl | rfl
  .exact I ah ah
  .exact U ah ah
 .exact i v hv
 .rcases hv with rfl | rfl | rfl
  .exact I ah ah
  .trivial
  .exact U ah ah
 .exact j v hv
 .subst hv;exact hu
 .rcases hv with rfl | rfl | rfl | rfl | rfl | rfl<;>exact U ah ah
 .exact k v hv
 .subst hv;exact I ah ah
 .exact o v hv
def Of (b:List Int):∃ L B:List Value,L.length=53/\∀ u,gC b u=L++u::B:=by
 refine⟨[Value.int .i64 (aQ 6 (p0 b)),.int .u64 (aQ 1048576 (p1 b))]++aM (fi 32 (cV 32 (p2 b)))++[Value.int .i64 (aQ 255 (p3 b)),.bool (jH (p4 b)),.int .u64 (aQ 1099511627776 (p5 b))]++aM (fi 16 (cV 16 (p6 b))),[Value.int .u64 (aQ 1048576 (k0 b)),.int .u64 (aQ 1048576 (k1 b)),.int .u64 (aQ 1048576 (k2 b)),.int .u64 (aQ 1048576 (k3 b)),.int .u64 (aQ 1048576 (k4 b)),.int .u64 (aQ 1048576 (k5 b))]++aM (fi 32 (cV 32 (k6 b)))++[.int .i64 (aQ 2064 (tF b))]++aM (fi 32 (cV 32 (xG b))),by simp [aM,fa],fun u=>?_⟩;unfold gC;simp only[aaV,acq,abU]
def WG {b:List Int} (hb:aq b) (hu:bz (some u) .slice=true) (hr:xH u) (a:bq R u pQ ((hT b).map aM)):bU R (gC b u) (mG b):=by
 obtain⟨L,B,hl,e⟩:=Of b;have c:aq (p8 b).l:=dj (pn (dj (Df (dj (pn (dj (dj (s:=p0 b) hb)))))));refine⟨Oe b hu,LH hb hr,?_,?_,?_,(yq _ _ c).1⟩
 .show gC b (.bool false)=_;rw[e,e,adg _ _ ah,hl];rfl
 .have:(gC b u).getD 53 (.bool false)=u:=by
   rw[e,aaD,aaQ ah,hl];rfl
  rw[this];exact a
 .show(fN (hN b) (p8 b)).1.length<=_;rw[uT];have:=rU (s:=p7 b) (m:=8) ah;unfold hN;omega
def SD:List Value:=[.int .i64 0,.int .u64 0]++List.replicate 32 (.int .u8 0)++[.int .i64 0,.bool false,.int .u64 0]++List.replicate 16 (.int .u8 0)++[.slice none 0 0,.int .u64 0,.int .u64 0,.int .u64 0,.int .u64 0,.int .u64 0,.int .u64 0]++List.replicate 32 (.int .u8 0)++[.int .i64 0]++List.replicate 32 (.int .u8 0)
def Ai (b:List Int) (v:Value) (F:Hl):Prop :=
 (∃ row h,v=.tuple #[.agg row.toArray,.int .i64 0]/\bU F row h/\h.Form/\tE h=b)\/(v=.tuple #[.agg SD.toArray,.int .i64 2]/\∀ R row h,bU R row h->h.Form->tE h≠b)
def td:Sx.Spec where
 fn:=73
 own:=[]
 rd:=[0]
 res:=[.agg cy,.one (.int .i64)]
 pre:=fun xs Hs Rs=>∃ u bs R,xs=[u]/\Rs=[R]/\fL R u bs/\aq bs/\bs.length<=1000000
 post:=fun xs Hs Rs v Hs' F=>∃ u bs R,xs=[u]/\Rs=[R]/\fL R u bs/\Ai bs v F
def pr0:po.res=[.one .ptr]:=rfl
def pr1:fP.res=[.one (.int .u64)]:=rfl
def pr2:zl.res=[.one .bool]:=rfl
def pr3:IQ.res=[.one .sl]:=rfl
def pr4:xa.res=[.one .bool]:=rfl
def pr5 (f:FuncId):(ie f).res=[.one .bool]:=rfl
def pc0 (n:Nat):(aK n [Cp.one .ptr]≠[])=True:=by simp [aK,Cp.roots,Ck.root]
def pc1 (n:Nat):(aK n [Cp.one (.int .u64)]≠[])=False:=by simp [aK,Cp.roots,Ck.root]
def wj (H:Hl) (p:Value) (s:PS):Prop:=gZ H p s.l s.bad
def fM (b:List Int) (u:Value):List Value :=
 [.int .i64 (aQ 6 (p0 b)),.int .u64 (aQ 1048576 (p1 b))]++aM (fi 32 (cV 32 (p2 b)))++[.int .i64 (aQ 255 (p3 b)),.bool (jH (p4 b)),.int .u64 (aQ 1099511627776 (p5 b))]++aM (fi 16 (cV 16 (p6 b)))++[u]++List.replicate 6 (.int .u64 0)++List.replicate 32 (.int .u8 0)++[.int .i64 0]++List.replicate 32 (.int .u8 0)
section
variable {q:Env} {n:Nat} {p:Value} {H:Hl} {s:PS} {K:Env->Prop} {A:Env->Hl->Prop}
def xE (h:wj H p s) (k:∀ q',ai n q q'->wj (q'.h n) p (nL m s)->q'.i n=aQ m s->K q') :
 fP.pre [p,.int .u64 m] [H] []/\∀ q',ai n q q'->(∃ F,fP.post [p,.int .u64 m] [H] [] (.int .u64 (q'.i n)) [q'.h n] F/\A q' F)->K q':=by
 refine⟨⟨_,m,H,s.l,s.bad,rfl,rfl,h⟩,fun q' g ⟨F,⟨j,o,H1,bs,bad,H',e1,b,d,c,a,hv⟩,_⟩=>?_⟩;simp only[aaC,Value.int.injEq,abk,aaP]at e1 b c;obtain⟨e1,em⟩:=e1;subst e1 em b;obtain⟨e,f⟩:=h.uniq d;subst e f;rw[<-c]at a;simp only[Value.int.injEq,abk]at hv;exact k q' g a hv
def WL (h:wj H p s) (k:∀ q',ai n q q'->wj (q'.h n) p (uD s)->q'.b n=jH s->K q') :
 zl.pre [p] [H] []/\∀ q',ai n q q'->(∃ F,zl.post [p] [H] [] (.bool (bh q' (.bvar n))) [q'.h n] F/\A q' F)->K q':=by
 refine⟨⟨_,H,s.l,s.bad,rfl,rfl,h⟩,fun q' g ⟨F,⟨j,H1,bs,bad,H',e1,c,e,d,a,hv⟩,_⟩=>?_⟩;simp only[aaC,aaP]at e1 c d;subst e1 c;obtain⟨f,i⟩:=h.uniq e;subst f i;rw[<-d]at a;simp only[Value.bool.injEq,bD]at hv;exact k q' g a hv
structure pW (F:Hl) (x y l c:Int) (raw:List Int):Prop where
 rx:-1<=x
 ry:0<=y
 len:l=raw.length
 rd:(x= -1/\raw=[])\/(0<=x/\∀ j z,raw[j]?=some z->F.cell x.toNat (y.toNat+j)=some (.int .u8 z))
def Oo (h:wj H p s) (k:∀ q',ai n q q'->wj (q'.h n) p (rY m s)->pW (q'.h (n+1)) (q'.i n) (q'.i (n+1)) (q'.i (n+2)) (q'.i (n+3)) (cV m s)->K q') :
 IQ.pre [p,.int .i64 m] [H] []/\∀ q',ai n q q'->(∃ F,IQ.post [p,.int .i64 m] [H] [] (.slice (az (q'.i n) (q'.i (n+1))) (q'.i (n+2)).toNat (q'.i (n+3)).toNat) [q'.h n] F/\(True->q'.h (n+1)=F)/\ft n [.one .sl] q')->K q':=by
 refine⟨⟨_,m,H,s.l,s.bad,rfl,rfl,h⟩,fun q' g ⟨F,⟨o,r,H1,bs,bad,H',e1,b,d,c,a,hv⟩,e,hn,_⟩=>?_⟩;simp only[aaC,Value.int.injEq,abk,aaP]at e1 b c;obtain⟨e1,em⟩:=e1;subst e1 em b;obtain⟨f,j⟩:=h.uniq d;subst f j;rw[<-c]at a;have hn:-1<=q'.i n/\0<=q'.i (n+1)/\0<=q'.i (n+2)/\0<=q'.i (n+3):=hn;rw[<-e zzT]at hv;obtain⟨hl,hr⟩:=hv.rd.at hn.1 hn.2.1 hn.2.2.1;exact k q' g a ⟨hn.1,hn.2.1,hl,hr⟩
end
def pW.OZ {l:Int} (h:pW F x y l c raw) {a:Int} (hw:0<=w) (e:a+w<=125):((x= -1/\l=0\/0<=x/\0<=y/\bM F x.toNat y.toNat (if l<w then l else w).toNat=true)/\0<=l/\(a+if l<w then l else w)<=125):=by
 have hl:=h.len;refine⟨h.rd.imp (fun⟨h1,h2⟩=>⟨h1,by rw[hl,h2];rfl⟩) fun⟨h1,h2⟩=>⟨h1,h.ry,?_⟩,ah,by split<;>omega⟩;unfold bM;rw[aa3];intro j b;have b:j<(if l<w then l else w).toNat:=abd.1 b;have d:j<raw.length:=by split at b<;>omega
 rw[h2 j _ (aax d)];rfl
def pW.cell {l:Int} (h:pW F x y l c raw) (a:j<raw.length):cf (F.cell x.toNat (y.toNat+j))=raw.getD j 0:=by
 rcases h.rd with ⟨_,h2⟩ | ⟨_,h2⟩
 .rw[h2]at a;cases a
 .rw[h2 j _ (aax a),aaD,aax a];rfl
def xV {a n:Nat} (d:pW (q.h h) (q.i m1) (q.i m2) (q.i m3) c raw) (hw:w=(n:Int)) (ho:∀ j,j<n->aB q (old j)=0) :
 (Lq a n (.ite (.lt (.var m3) (.lit w)) (.var m3) (.lit w)) h (.var m1) (.var m2) old).map (CV.ev q)=aM (fi n raw):=by
 subst hw;unfold Lq aM fi;rw[abD,abD];refine abr fun j b=>?_;have b:=abd.1 b;have hl:=d.len;show Value.int .u8 (aB q (.ite _ _ _))=.int .u8 _
 congr 1
 simp only[cO,mO,ak,bQ,al];by_cases hr:j<raw.length
 .rw[aaR (by split<;>omega),fh];exact d.cell hr
 .rw[aaG (by split<;>omega),ho j b,aaD,aaK ah];rfl
def QV {n:Nat} (b:pW (q.h h) (q.i m1) (q.i m2) (q.i m3) c raw) (hw:w=(n:Int)) (ho:∀ j,j<n->aB q (old j)=0) :
 (T0 n (.ite (.lt (.var m3) (.lit w)) (.var m3) (.lit w)) h (.var m1) (.var m2) old).map (CV.ev q)=aM (fi n raw):=by
 subst hw;unfold T0 aM fi;rw[abD,abD];refine abr fun j a=>?_;have a:=abd.1 a;have hl:=b.len;show Value.int .u8 (aB q (.ite _ _ _))=.int .u8 _
 congr 1
 simp only[cO,mO,ak,al];by_cases hr:j<raw.length
 .rw[aaR (by split<;>omega),fh];exact b.cell hr
 .rw[aaG (by split<;>omega),ho j a,aaD,aaK ah];rfl
def OI (b:List Int) (u v:Value):(fM b u).set 53 v=fM b v:=by
 have e:∀ u,fM b u=([Value.int .i64 (aQ 6 (p0 b)),.int .u64 (aQ 1048576 (p1 b))]++aM (fi 32 (cV 32 (p2 b)))++[Value.int .i64 (aQ 255 (p3 b)),.bool (jH (p4 b)),.int .u64 (aQ 1099511627776 (p5 b))]++aM (fi 16 (cV 16 (p6 b))))++u::(List.replicate 6 (.int .u64 0)++List.replicate 32 (.int .u8 0)++[.int .i64 0]++List.replicate 32 (.int .u8 0)):=by
  intro u;unfold fM;simp only[aaV,acq,abU]
 have hl:([Value.int .i64 (aQ 6 (p0 b)),.int .u64 (aQ 1048576 (p1 b))]++aM (fi 32 (cV 32 (p2 b)))++[Value.int .i64 (aQ 255 (p3 b)),.bool (jH (p4 b)),.int .u64 (aQ 1099511627776 (p5 b))]++aM (fi 16 (cV 16 (p6 b)))).length=53:=by simp [aM,fa]
 rw[e u,e v,adg _ _ ah,hl];rfl
def pW.W3 {l:Int} (h:pW F x y l c raw) (hw:0<=w) (b:w<=125):((x= -1/\l=0\/0<=x/\0<=y/\bM F x.toNat y.toNat (if l<w then l else w).toNat=true)/\0<=l/\(if l<w then l else w)<=w):=by
 obtain⟨h1,h2,_⟩:=h.OZ (a:=0) hw ah;exact⟨h1,h2,by split<;>omega⟩
def Pf (q:Env):Ks.map (CV.ev q)=(aE q 300).set 53 (.slice (az (q.i 446) 0) (q.i 355+1).toNat (q.i 447).toNat):=by kernel_rfl
def Sl (q:Env):aW (aE q 300) 60 32=(List.range 32).map fun j=>q.i (363+j):=by kernel_rfl
def Qb (q:Env):aW (aE q 300) 93 32=(List.range 32).map fun j=>q.i (396+j):=by kernel_rfl
def qm (b:List Int):List Value:=[Value.int .i64 (aQ 6 (p0 b)),.int .u64 (aQ 1048576 (p1 b))]++aM (fi 32 (cV 32 (p2 b)))++[.int .i64 (aQ 255 (p3 b)),.bool (jH (p4 b)),.int .u64 (aQ 1099511627776 (p5 b))]++aM (fi 16 (cV 16 (p6 b)))
def vw (b:List Int):(qm b).length=53:=by unfold qm;simp [aM,fa]
def PR {b:List Int} (h:aE q 300=fM b u):∀ j,j<32->q.i (363+j)=0/\q.i (396+j)=0:=by
 have a:aW (fM b u) 60 32=List.replicate 32 0:=by
  have e:fM b u=(qm b++[u]++List.replicate 6 (.int .u64 0))++aM (List.replicate 32 0)++([.int .i64 0]++List.replicate 32 (.int .u8 0)):=by
   unfold fM qm;simp only[aaV];rfl
  rw[e];exact ox (by simp [vw]) aF
 have c:aW (fM b u) 93 32=List.replicate 32 0:=by
  have e:fM b u=(qm b++[u]++List.replicate 6 (.int .u64 0)++List.replicate 32 (.int .u8 0)++[.int .i64 0])++aM (List.replicate 32 0)++[]:=by
   unfold fM qm;simp only[aaV];rfl
  rw[e];exact ox (by simp [vw]) aF
 rw[<-h,Sl]at a;rw[<-h,Qb]at c;intro j d;have c1:=aa1 (fun l=>l[j]?) a;have c2:=aa1 (fun l=>l[j]?) c;simp only[aaL,aaZ d,abe,ack,aaR d,aaF]at c1 c2;exact⟨c1,c2⟩
def UQ (q:Env):(ar 300 ([Ck.int .i64,Ck.int .u64]++List.replicate 32 (Ck.int .u8)++[Ck.int .i64,Ck.bool,Ck.int .u64]++List.replicate 16 (Ck.int .u8)++[Ck.sl])).map (CV.ev q)=(aE q 300).take 54:=by kernel_rfl
def LW (b:List Int) (u:Value):(fM b u).take 54=qm b++[u]:=by
 have e:fM b u=(qm b++[u])++(List.replicate 6 (.int .u64 0)++List.replicate 32 (.int .u8 0)++[.int .i64 0]++List.replicate 32 (.int .u8 0)):=by
  unfold fM qm;simp only[aaV]
 have hl:(qm b++[u]).length=54:=by simp [vw]
 rw[e,<-hl,acQ]
def SE (q:Env):Pg.map (CV.ev q)=SD:=by kernel_rfl
def pW.ag {m a:Nat} (g:ai m q q') (b:pW (q.h h) (q.i m1) (q.i m2) (q.i m3) (q.i a) raw) (h0:h<m) (h1:m1<m) (h2:m2<m) (c:m3<m) (d:a<m):pW (q'.h h) (q'.i m1) (q'.i m2) (q'.i m3) (q'.i a) raw:=by
 rw[g.h h h0,g.i m1 h1,g.i m2 h2,g.i m3 c,g.i a d];exact b
def Fi (h:-1<=J.i 53/\0<=J.i 54/\0<=J.i 55/\0<=J.i 56):cW 0 cy J:=⟨zzT,zzT,zzT,zzT,zzT,zzT,zzT,zzT,zzT,zzT,zzT,zzT,zzT,zzT,zzT,zzT,zzT,zzT,zzT,zzT,zzT,zzT,zzT,zzT,zzT,zzT,zzT,zzT,zzT,zzT,zzT,zzT,zzT,zzT,zzT,zzT,zzT,zzT,zzT,zzT,zzT,zzT,zzT,zzT,zzT,zzT,zzT,zzT,zzT,zzT,zzT,zzT,zzT,h,zzT,zzT,zzT,zzT,zzT,zzT,zzT,zzT,zzT,zzT,zzT,zzT,zzT,zzT,zzT,zzT,zzT,zzT,zzT,zzT,zzT,zzT,zzT,zzT,zzT,zzT,zzT,zzT,zzT,zzT,zzT,zzT,zzT,zzT,zzT,zzT,zzT,zzT,zzT,zzT,zzT,zzT,zzT,zzT,zzT,zzT,zzT,zzT,zzT,zzT,zzT,zzT,zzT,zzT,zzT,zzT,zzT,zzT,zzT,zzT,zzT,zzT,zzT,zzT,zzT,zzT,zzT,zzT,zzT,zzT,zzT,zzT⟩
def VJ (hv:v=.tuple #[.agg SD.toArray,.int .i64 2]):∃ a,v=(kS 0 td.res).ev a/\ft 0 td.res a:=by
 subst hv;exact⟨(bf fun k=>if k=53 then -1 else if k=128 then 2 else 0),zzK,Fi ⟨aaM _,aaM _,aaM _,aaM _⟩,zzT,zzT⟩
def SO (b:List Int) (x y l c:Int):Env:=⟨fun k=>if k<53 then cI (gC b (.bool false)) k else if k=53 then x else if k=54 then y else if k=55 then l else if k=56 then c else if k<128 then cI (gC b (.bool false)) (k-3)else 0,fun k=>cB (gC b (.bool false)) k,fun _=>.empty,fun _=>.tuple #[],fun _=>Hl.none⟩
def Od (b:List Int) (x y l c:Int):(ar 0 cy).map (CV.ev (SO b x y l c))=gC b (.slice (az x y) l.toNat c.toNat):=by kernel_rfl
open Classical in
def Mn:td.OK Tryz.prog:=by
 refine Spec.aV (Γ:=X5) T9 ?_;rintro xs Hs Rs bq bK ⟨u,b,R,rfl,rfl,ad,hby,hlen⟩;have e0:Hs=[]:=aaz.1 bq;subst e0;obtain⟨x,y,c,rfl,hy,hR⟩:=id ad;refine⟨EZ,aL [x,y,b.length,c] false [Hl.none,Hl.none,Hl.none,Hl.none,R],fun _ q=>∃ k:Nat,q.i 430=k/\k<=hN b/\wj (q.h 431) (.pointer (az (q.i 7) (q.i 8))) (fN k (p8 b)).2/\aE q 300=fM b (.slice (az (q.i 353) (q.i 354)) (q.i 355).toNat (q.i 356).toNat)/\ -1<=q.i 353/\q.i 354=0/\q.i 355=k/\0<=q.i 356/\tD (q.h 432) 61 pQ (.slice (az (q.i 353) 0) (q.i 355).toNat (q.i 356).toNat) ((fN k (p8 b)).1.map aM),fun _ q=>(hN b-q.i 430).toNat,?_,⟨?_,?_,?_,?_⟩,(fun _ h=>nomatch h),?_⟩
 .show [Value.slice (az x y) ((b.length:Int)).toNat ((c:Int)).toNat]=_;rw[aar,aar]
 .intro r hr ho;simp [EZ]at hr;subst hr;cases ho
 .intro r hr ho;simp [EZ]at hr;subst hr;exact⟨R,aF,Hl.le_refl _⟩
 .simp [EZ]
 .intro r hr;simp [EZ]at hr;subst hr;trivial
 .refine aG.lit (x:=NT) ?_;generalize X:aL [x,y,b.length,c] false [Hl.none,Hl.none,Hl.none,Hl.none,R]=J;have v0:J.i 0=x:=by rw[<-X];rfl
  have v1:J.i 1=y:=by rw[<-X];rfl
  have v2:J.i 2=b.length:=by rw[<-X];rfl
  have v3:J.i 3=c:=by rw[<-X];rfl
  have w4:J.h 4=R:=by rw[<-X];rfl
  clear X;unfold NT;simp only[go_sem,Nat.reduceAdd,X5,pr0,pr1,pr2,pr3,pr4,pr5,pc0,pc1,Vt,Sa];intro q1 g1 _ q2 g2 _;have G2:ai 5 J q2:=g1.tr g2;rw[G2.i 0,G2.i 1,G2.i 2,G2.i 3,G2.h 4,v0,v1,v2,v3,w4,aar,aar];refine⟨⟨_,b,R,rfl,rfl,ad,hby,hlen⟩,fun q3 g3 ⟨F3,br,bs,_⟩=>?_⟩;have h3:wj (q3.h 7) (.pointer (az (q3.i 7) (q3.i 8))) (p0 b):=by
   obtain⟨u',b',R',e1,e2,bt,hO⟩:=br;simp only[aaC,aaP]at e1 e2;subst e1 e2;rw[ad.uniq bt,bs zzT];exact hO
  refine xE h3 fun q4 g4 h4 G=>?_;have h4:wj (q4.h 9) _ (p1 b):=h4;have G:q4.i 9=aQ 6 (p0 b):=G;rw[<-g4.i 7,<-g4.i 8]at h4;refine xE h4 fun q5 g5 h5 M=>?_;have h5:wj (q5.h 11) _ (p2 b):=h5;have M:q5.i 11=aQ 1048576 (p1 b):=M;rw[<-g5.i 7,<-g5.i 8]at h5;rw[<-g5.i 9]at G;refine Oo h5 fun q6 g6 h6 t6=>?_;have h6:wj (q6.h 13) _ (p3 b):=h6;have t6:pW (q6.h 14) (q6.i 13) (q6.i 14) (q6.i 15) (q6.i 16) (cV 32 (p2 b)):=t6;rw[<-g6.i 7,<-g6.i 8]at h6;rw[<-g6.i 9]at G;rw[<-g6.i 11]at M;refine⟨t6.OZ ah ah,?_⟩;refine xE h6 fun q7 g7 h7 T=>?_;have h7:wj (q7.h 17) _ (p4 b):=h7;have T:q7.i 17=aQ 255 (p3 b):=T;rw[<-g7.i 7,<-g7.i 8]at h7;rw[<-g7.i 9]at G;rw[<-g7.i 11]at M;have t6:=t6.ag g7 ah ah ah ah ah;refine WL h7 fun q8 g8 h8 Y=>?_;have h8:wj (q8.h 19) _ (p5 b):=h8;have Y:q8.b 19=jH (p4 b):=Y;rw[<-g8.i 7,<-g8.i 8]at h8;rw[<-g8.i 9]at G;rw[<-g8.i 11]at M;have t6:=t6.ag g8 ah ah ah ah ah;rw[<-g8.i 17]at T;refine xE h8 fun q9 g9 h9 ae=>?_;have h9:wj (q9.h 21) _ (p6 b):=h9;have ae:q9.i 21=aQ 1099511627776 (p5 b):=ae;rw[<-g9.i 7,<-g9.i 8]at h9;rw[<-g9.i 9]at G;rw[<-g9.i 11]at M;have t6:=t6.ag g9 ah ah ah ah ah;rw[<-g9.i 17]at T;rw[<-g9.b 19]at Y;refine Oo h9 fun Z P av t10=>?_;have av:wj (Z.h 23) _ (p7 b):=av;have t10:pW (Z.h 24) (Z.i 23) (Z.i 24) (Z.i 25) (Z.i 26) (cV 16 (p6 b)):=t10;rw[<-P.i 7,<-P.i 8]at av;rw[<-P.i 9]at G;rw[<-P.i 11]at M;have t6:=t6.ag P ah ah ah ah ah;rw[<-P.i 17]at T;rw[<-P.b 19]at Y;rw[<-P.i 21]at ae;refine⟨t10.OZ ah ah,?_⟩;refine xE av fun d N aw af=>?_;have aw:wj (d.h 27) _ (p8 b):=aw;have af:d.i 27=aQ 8 (p7 b):=af;rw[<-N.i 7,<-N.i 8]at aw;rw[<-N.i 9]at G;rw[<-N.i 11]at M;have t6:=t6.ag N ah ah ah ah ah;rw[<-N.i 17]at T;rw[<-N.b 19]at Y;rw[<-N.i 21]at ae;have t10:=t10.ag N ah ah ah ah ah;have wi:∀ {m:Int} {s:PS},0<=m->m<=9223372036854775807->IntKind.i64.wrap (aQ m s)=aQ m s:=fun {m s} h0 h1=>by have:=rU (s:=s) h0;exact IntWalk.i64_in _ ah
  have em:Kr.map (CV.ev d)=fM b (.slice none 0 0):=by
   unfold Kr fM;simp only[aba];rw[xV (w:=32) (n:=32) (old:=fun _=>.lit 0) t6 rfl (fun _ _=>rfl),xV (w:=16) (n:=16) (old:=fun _=>.lit 0) t10 rfl (fun _ _=>rfl)];have e1:List.map (CV.ev d) [.int .i64 (.wrap .i64 (.var 9)),.int .u64 (.var 11)]=[Value.int .i64 (aQ 6 (p0 b)),.int .u64 (aQ 1048576 (p1 b))]:=by
    show [Value.int .i64 (IntKind.i64.wrap (d.i 9)),.int .u64 (d.i 11)]=_;rw[G,M,wi ah ah]
   have e2:List.map (CV.ev d) [.int .i64 (.wrap .i64 (.var 17)),.bool (.bvar 19),.int .u64 (.var 21)]=[Value.int .i64 (aQ 255 (p3 b)),.bool (jH (p4 b)),.int .u64 (aQ 1099511627776 (p5 b))]:=by
    show [Value.int .i64 (IntKind.i64.wrap (d.i 17)),.bool (d.b 19),.int .u64 (d.i 21)]=_;rw[T,Y,ae,wi ah ah]
   rw[e1,e2];rfl
  have hg:BA 29 qz [(431,some 27),(432,none)]=true:=by kernel_rfl
  have ag:=yA (J:=d) hg;have H:(SV.agg (ar 300 cy)).ev (assign d qz [(431,some 27),(432,none)])=(SV.agg Kr).ev d:=Bs (n0:=29) hg zzK (fun y hy=>abO _ hy);have x0:(assign d qz [(431,some 27),(432,none)]).i 430=0:=by kernel_rfl
  have x1:(assign d qz [(431,some 27),(432,none)]).i 353= -1:=by kernel_rfl
  have x2:(assign d qz [(431,some 27),(432,none)]).i 354=0:=by kernel_rfl
  have x3:(assign d qz [(431,some 27),(432,none)]).i 355=0:=by kernel_rfl
  have x4:(assign d qz [(431,some 27),(432,none)]).i 356=0:=by kernel_rfl
  have x5:(assign d qz [(431,some 27),(432,none)]).h 431=d.h 27:=by kernel_rfl
  have x6:(assign d qz [(431,some 27),(432,none)]).h 432=Hl.none:=by kernel_rfl
  generalize assign d qz [(431,some 27),(432,none)]=qn at ag H x0 x1 x2 x3 x4 x5 x6 ⊢;have H:aE qn 300=fM b (.slice none 0 0):=(aa5 (Value.agg.inj H)).trans em;refine⟨⟨0,x0,abJ _,?_,?_,ah,x2,x3,ah,?_⟩,fun q g ⟨k,ek,hk,hP,aj,A0,ak,aR,C0,hO⟩=>?_⟩
  .rw[x5,ag.i 7,ag.i 8];exact aw
  .rw[H,x1,x2,x3,x4];rfl
  .rw[x1,x3,x4,x6];exact tD.nil _ _ _
  have bL:hN b<=8:=by have:=rU (s:=p7 b) (m:=8) ah;unfold hN;omega
  have bu:q.i 27=hN b:=by rw[g.i 27,af];have:=rU (s:=p7 b) (m:=8) ah;unfold hN;omega
  have bM:(((fN k (p8 b)).1.map aM).length:Int)=k:=by rw[aaT,uT]
  refine⟨fun bN bO ax _=>?_,fun bP=>?_⟩
  .rw[<-ax.i 7,<-ax.i 8,<-ax.h 431]at hP;refine Oo hP fun al aS bw t21=>?_;have t21:pW (al.h 442) (al.i 441) (al.i 442) (al.i 443) (al.i 444) (cV 16 (fN k (p8 b)).2):=t21;refine⟨t21.W3 ah ah,fun bx an _=>?_⟩;have t22:=t21.ag an ah ah ah ah ah;have aa:ai 440 q bx:=ax.trans (aS.mono.tr an);rw[aa.h 432,aa.i 353,aa.i 354,aa.i 355,aa.i 356,ak,QV (w:=16) (n:=16) (old:=fun _=>.lit 0) t22 rfl (fun _ _=>rfl)];refine⟨⟨⟨_,tD.pre hO ah⟩,ah,by unfold maxLen;omega,ah⟩,fun e ay ⟨A1,C1,happ,_⟩=>?_⟩;have bz:=tD.app (row:=aM (fi 16 (cV 16 (fN k (p8 b)).2))) hO ah (Cj (fa _ _)) happ;have aA:ai 440 q e:=aa.tr ay;have hg:BA 29 qA [(431,some 441),(432,some 446)]=true:=by kernel_rfl
   have ag:=yA (J:=e) hg;have H:(SV.agg (ar 300 cy)).ev (assign e qA [(431,some 441),(432,some 446)])=(SV.agg Ks).ev e:=Bs (n0:=29) hg zzK (fun y hy=>abO _ hy);have x0:(assign e qA [(431,some 441),(432,some 446)]).i 430=IntKind.u64.wrap (e.i 430+1):=by kernel_rfl
   have x1:(assign e qA [(431,some 441),(432,some 446)]).i 353=e.i 446:=by kernel_rfl
   have x2:(assign e qA [(431,some 441),(432,some 446)]).i 354=0:=by kernel_rfl
   have x3:(assign e qA [(431,some 441),(432,some 446)]).i 355=e.i 355+1:=by kernel_rfl
   have x4:(assign e qA [(431,some 441),(432,some 446)]).i 356=e.i 447:=by kernel_rfl
   have x5:(assign e qA [(431,some 441),(432,some 446)]).h 431=e.h 441:=by kernel_rfl
   have x6:(assign e qA [(431,some 441),(432,some 446)]).h 432=e.h 446:=by kernel_rfl
   generalize assign e qA [(431,some 441),(432,some 446)]=qn at ag H x0 x1 x2 x3 x4 x5 x6 ⊢;have H:aE qn 300=Ks.map (CV.ev e):=aa5 (Value.agg.inj H);have a8:aE e 300=aE q 300:=aa5 (Value.agg.inj (gn (n:=300) (ks:=cy) aA (acs zzK)));rw[Pf,a8,aj,OI]at H;have ba:IntKind.u64.wrap (e.i 430+1)=((k+1:Nat):Int):=by rw[aA.i 430,ek,oH ah ah];omega
   have ao:e.i 355+1=((k+1:Nat):Int):=by rw[aA.i 355,aR];omega
   rw[x0,x1,x2,x3,x4,x5,x6,ba,ao];refine⟨⟨k+1,rfl,ah,?_,?_,A1,rfl,rfl,C1,?_⟩,ah⟩
   .rw[ag.i 7,ag.i 8,ay.i 7,ay.i 8,an.i 7,an.i 8,ay.h 441,an.h 441,aS.i 7,aS.i 8];exact bw
   .rw[H,ao]
   .show tD _ _ _ _ (((fN k (p8 b)).1++[fi 16 (cV 16 (fN k (p8 b)).2)]).map aM);rw[aba,<-ao,aA.i 355];exact bz
  have bA:k=hN b:=ah;subst bA;have hP:wj (q.h 431) (.pointer (az (q.i 7) (q.i 8))) (k0 b):=hP;obtain⟨z,bB⟩:∃ z,z=q:=⟨_,rfl⟩;subst bB;have bC:=hP;have bb:ai 440 z z:=ai.refl _ _;refine xE bC fun aT aU aB o=>?_;have aB:wj (aT.h 440) _ (k1 b):=aB;have o:aT.i 440=aQ 1048576 (k0 b):=o;have bc:ai 440 z aT:=bb.tr aU;rw[<-aU.i 7,<-aU.i 8]at aB;refine xE aB fun aW aC aD p=>?_;have aD:wj (aW.h 442) _ (k2 b):=aD;have p:aW.i 442=aQ 1048576 (k1 b):=p;have bd:ai 440 z aW:=bc.tr aC;rw[<-aC.i 7,<-aC.i 8]at aD;rw[<-aC.i 440]at o;refine xE aD fun aX aq aH v=>?_;have aH:wj (aX.h 444) _ (k3 b):=aH;have v:aX.i 444=aQ 1048576 (k2 b):=v;have bf:ai 440 z aX:=bd.tr aq;rw[<-aq.i 7,<-aq.i 8]at aH;rw[<-aq.i 440]at o;rw[<-aq.i 442]at p;refine xE aH fun aY ab aI A=>?_;have aI:wj (aY.h 446) _ (k4 b):=aI;have A:aY.i 446=aQ 1048576 (k3 b):=A;have bg:ai 440 z aY:=bf.tr ab;rw[<-ab.i 7,<-ab.i 8]at aI;rw[<-ab.i 440]at o;rw[<-ab.i 442]at p;rw[<-ab.i 444]at v;refine xE aI fun aZ U aJ B=>?_;have aJ:wj (aZ.h 448) _ (k5 b):=aJ;have B:aZ.i 448=aQ 1048576 (k4 b):=B;have bh:ai 440 z aZ:=bg.tr U;rw[<-U.i 7,<-U.i 8]at aJ;rw[<-U.i 440]at o;rw[<-U.i 442]at p;rw[<-U.i 444]at v;rw[<-U.i 446]at A;refine xE aJ fun a1 Q aK C=>?_;have aK:wj (a1.h 450) _ (k6 b):=aK;have C:a1.i 450=aQ 1048576 (k5 b):=C;have bj:ai 440 z a1:=bh.tr Q;rw[<-Q.i 7,<-Q.i 8]at aK;rw[<-Q.i 440]at o;rw[<-Q.i 442]at p;rw[<-Q.i 444]at v;rw[<-Q.i 446]at A;rw[<-Q.i 448]at B;refine Oo aK fun V O aO t37=>?_;have aO:wj (V.h 452) _ (tF b):=aO;have t37:pW (V.h 453) (V.i 452) (V.i 453) (V.i 454) (V.i 455) (cV 32 (k6 b)):=t37;have bk:ai 440 z V:=bj.tr O;rw[<-O.i 7,<-O.i 8]at aO;rw[<-O.i 440]at o;rw[<-O.i 442]at p;rw[<-O.i 444]at v;rw[<-O.i 446]at A;rw[<-O.i 448]at B;rw[<-O.i 450]at C;refine⟨t37.OZ ah ah,?_⟩;refine xE aO fun a2 I aP S=>?_;have aP:wj (a2.h 456) _ (xG b):=aP;have S:a2.i 456=aQ 2064 (tF b):=S;have bl:ai 440 z a2:=bk.tr I;rw[<-I.i 7,<-I.i 8]at aP;rw[<-I.i 440]at o;rw[<-I.i 442]at p;rw[<-I.i 444]at v;rw[<-I.i 446]at A;rw[<-I.i 448]at B;rw[<-I.i 450]at C;have t37:=t37.ag I ah ah ah ah ah;refine Oo aP fun W D au t39=>?_;have au:wj (W.h 458) _ (IE b):=au;have t39:pW (W.h 459) (W.i 458) (W.i 459) (W.i 460) (W.i 461) (cV 32 (xG b)):=t39;have bm:ai 440 z W:=bl.tr D;rw[<-D.i 7,<-D.i 8]at au;rw[<-D.i 440]at o;rw[<-D.i 442]at p;rw[<-D.i 444]at v;rw[<-D.i 446]at A;rw[<-D.i 448]at B;rw[<-D.i 450]at C;have t37:=t37.ag D ah ah ah ah ah;rw[<-D.i 456]at S;refine⟨t39.OZ ah ah,?_⟩;refine⟨⟨_,_,(IE b).l,(IE b).bad,rfl,rfl,au⟩,fun a K ⟨F,hp,_⟩=>?_⟩;have bn:a.b 462=(!(IE b).bad&&decide ((IE b).l=[])):=by
   obtain⟨p',R',bs',bad',e1,e2,bE,hv⟩:=hp;simp only[aaC,aaP]at e1 e2;subst e1 e2;obtain⟨e3,e4⟩:=au.uniq bE;subst e3 e4;simpa [bD] using hv
  have f:ai 440 z a:=bm.tr K;rw[<-K.i 440]at o;rw[<-K.i 442]at p;rw[<-K.i 444]at v;rw[<-K.i 446]at A;rw[<-K.i 448]at B;rw[<-K.i 450]at C;have t37:=t37.ag K ah ah ah ah ah;rw[<-K.i 456]at S;have t39:=t39.ag K ah ah ah ah ah;have bo:aE a 300=aE z 300:=aa5 (Value.agg.inj (gn (n:=300) (ks:=cy) f (acs zzK)));rw[<-bo]at aj;have hz:=PR aj;rw[<-f.i 353,<-f.i 354,<-f.i 355,<-f.i 356]at aj;rw[<-f.i 353]at A0;rw[<-f.i 354]at ak;rw[<-f.i 355]at aR;rw[<-f.i 356]at C0;rw[<-f.h 432,<-f.i 353,<-f.i 355,<-f.i 356]at hO;have a6:DH.map (CV.ev a)=gC b (.slice (az (a.i 353) (a.i 354)) (a.i 355).toNat (a.i 356).toNat):=by
   unfold DH;simp only[aba];rw[UQ,aj,LW,xV (w:=32) (n:=32) (old:=fun j=>.var (363+j)) t37 rfl (fun j hj=>(hz j hj).1),xV (w:=32) (n:=32) (old:=fun j=>.var (396+j)) t39 rfl (fun j hj=>(hz j hj).2)];have e1:List.map (CV.ev a) [.int .u64 (.var 440),.int .u64 (.var 442),.int .u64 (.var 444),.int .u64 (.var 446),.int .u64 (.var 448),.int .u64 (.var 450)]=[Value.int .u64 (aQ 1048576 (k0 b)),.int .u64 (aQ 1048576 (k1 b)),.int .u64 (aQ 1048576 (k2 b)),.int .u64 (aQ 1048576 (k3 b)),.int .u64 (aQ 1048576 (k4 b)),.int .u64 (aQ 1048576 (k5 b))]:=by
    show [Value.int .u64 (a.i 440),.int .u64 (a.i 442),.int .u64 (a.i 444),.int .u64 (a.i 446),.int .u64 (a.i 448),.int .u64 (a.i 450)]=_;rw[o,p,v,A,B,C]
   have e2:List.map (CV.ev a) [.int .i64 (.wrap .i64 (.var 456))]=[Value.int .i64 (aQ 2064 (tF b))]:=by
    show [Value.int .i64 (IntKind.i64.wrap (a.i 456))]=_;rw[S,wi ah ah]
   rw[e1,e2];unfold qm gC;simp only[aaV]
  have his:bU (a.h 432) (gC b (.slice (az (a.i 353) (a.i 354)) (a.i 355).toNat (a.i 356).toNat)) (mG b):=by
   refine WG hby rfl trivial ?_;rw[ak];exact hO.rd
  have zp:∀ {qq:Env} {mem:Mem},(∀ R row h,bU R row h->h.Form->tE h≠b)->postOf td [.slice (az x y) b.length c] [] [R] qq mem (.tup [.agg Pg,.one (.int .i64 (.lit 2))]):=by
   intro qq mem bF _;have ev:(TV.tup [SV.agg Pg,SV.one (CV.int IntKind.i64 (E.lit 2))]).ev qq=.tuple #[.agg SD.toArray,.int .i64 2]:=by
    show Value.tuple #[.agg (Pg.map (CV.ev qq)).toArray,.int .i64 2]=_;rw[SE]
   exact⟨[],[],rfl,rfl,VJ ev,_,b,R,rfl,rfl,ad,Or.inr ⟨ev,bF⟩⟩
  have bp:¬(a.b 462=true/\(mG b).Form)->∀ R row h,bU R row h->h.Form->tE h≠b:=by
   rintro hn R' row' h' bG bH rfl;obtain⟨l1,l2,l3⟩:=Zq bG bH;exact hn ⟨by rw[bn,l1,l2];rfl,l3⟩
  rw[a6];refine⟨fun hv=>⟨⟨_,_,_,rfl,rfl,his⟩,fun t L ⟨F4,bI,_⟩=>?_⟩,fun hv=>zp (bp fun hh=>hv hh.1)⟩;have a7:=mg his bI;have a7:t.b 463=decide (mG b).Form:=by simpa [bD] using a7
  rw[a7,aaB];refine⟨fun hf=>zp (bp fun hh=>hf hh.2),fun hf _=>?_⟩;have bJ:tE (mG b)=b:=by
   rw[bn]at hv;simp only[aaE,abE,aaB]at hv;exact Zp hby hv.1 hv.2
  have hag:DH.map (CV.ev t)=DH.map (CV.ev a):=CV.gF L DH zzK;rw[<-L.i 353,<-L.i 354,<-L.i 355,<-L.i 356]at a6 his;rw[<-L.h 432]at his;have ev:(TV.tup [SV.agg DH,SV.one (CV.int IntKind.i64 (E.lit 0))]).ev t=.tuple #[.agg (gC b (.slice (az (t.i 353) (t.i 354)) (t.i 355).toNat (t.i 356).toNat)).toArray,.int .i64 0]:=by
   show Value.tuple #[.agg (DH.map (CV.ev t)).toArray,.int .i64 0]=_;rw[hag,a6]
  refine⟨[],[6],rfl,rfl,⟨SO b (t.i 353) (t.i 354) (t.i 355) (t.i 356),?_,Fi ⟨by show -1<=t.i 353;rw[L.i 353];exact A0,by show 0<=t.i 354;rw[L.i 354];omega,by show 0<=t.i 355;rw[L.i 355];omega,by show 0<=t.i 356;rw[L.i 356];exact C0⟩,zzT,zzT⟩,_,b,R,rfl,rfl,ad,Or.inl ⟨_,mG b,ev,?_,hf,bJ⟩⟩
  .rw[ev,<-Od];kernel_rfl
  .show bU (di [t.h 432]) _ _;rw[aN];exact his
open Go.Proofs.YtomdimlnggpgbaaGreatDoor.D hiding aL aC fP
variable {bad:Bool}{B F H R T:Hl}{most:Int}{l rows:List (List Int)}{K:List Hl}{bs:List Int}{row:List Value}{k x:Nat}{st:Nat->List Pc}{c c':Pc}{p u v:Value}
def Ev (b:List Int) (c:Pc):Prop:=c.h.Form/\tE c.h=(bn b false 4096).1/\(bn (bn b false 4096).2.1 (bn b false 4096).2.2 4096).2=([],false)/\c.b=(bn (bn b false 4096).2.1 (bn b false 4096).2.2 4096).1/\∃ R R2 row,gY R R2 row c
inductive Ld:List (List Int)->(Nat->List Pc)->Prop
 | nil:Ld [] (fun _=>[])
 | put {l:List (List Int)} {st:Nat->List Pc} {b:List Int} {c:Pc} (h:Ld l st) (hc:Ev b c) (h0:bG st c=0):Ld (l++[b]) (cR st c)
def Ev.uniq {b:List Int} (h:Ev b c) (h':Ev b c'):c=c':=by
 obtain⟨h1,h2,_,a,R,R2,row,hx⟩:=h;obtain⟨k1,k2,_,k4,R',f,row',d⟩:=h';have e:=JY hx.hd d.hd h1 k1 (h2.trans k2.symm);cases c;cases c';simp only at e a k4;rw[e,a,k4]
def Ld.uniq:∀ {l:List (List Int)} {st st':Nat->List Pc},Ld l st->Ld l st'->st=st':=by
 intro l st st' h
 induction h generalizing st' with
 | nil =>
  intro h';generalize e:([]:List (List Int))=l at h';cases h' with
  | nil=>rfl
  | put _ _ _=>simp at e
 | @put l st b c _ hc _ ih =>
  intro h';generalize e:l++[b]=f at h';cases h' with
  | nil=>simp at e
  | @put l' st2 b' c' h2 a _ =>
   obtain⟨rfl,d⟩:=acU e rfl;obtain rfl:b=b':=by simpa using d
   rw[ih h2,hc.uniq a]
def Ld.snoc {b:List Int} (h:Ld (l++[b]) st):∃ a c,Ld l a/\Ev b c/\bG a c=0/\st=cR a c:=by
 generalize e:l++[b]=g at h;cases h with
 | nil=>simp at e
 | @put l' st2 b' c' h2 d h0 =>
  obtain⟨rfl,f⟩:=acU e rfl;obtain rfl:b=b':=by simpa using f
  exact⟨st2,c',h2,d,h0,rfl⟩
def Ld.init (h:Ld l st):∃ st',Ld (l.take k) st':=by
 induction h with
 | nil=>exact⟨_,by simpa using Ld.nil⟩
 | @put l st b c h hc h0 ih =>
  rcases abn k (l.length+1)with hk | hk
  .rw[acD ah];exact ih
  .rw[acd (by simp;omega)];exact⟨_,h.put hc h0⟩
def Ld.len (h:Ld l st):∀ i,(st i).length<=l.length:=by
 induction h with
 | nil=>intro i;exact aaS _
 | @put l st b c h hc h0 ih =>
  intro i;have h1:=vv st c i;have h2:=ih i;rw[aay,aaW];omega
def Mu (h:fL R u bs) (hp:po.post [u] [] [R] v K F):gZ F v bs false:=by
 obtain⟨b,bs',R',e1,a,h',hI⟩:=hp;simp only[aaC,aaP]at e1 a;subst e1 a;rw[h.uniq h'];exact hI
def CB {K:Hl} (h:gZ H p bs bad) (hp:xx.post [p,.int .i64 most] [H] [] v [K] F):gZ K p (bn bs bad most).2.1 (bn bs bad most).2.2/\bZ F 5 v (bn bs bad most).1:=by
 obtain⟨d,e,H',bs',bad',K',e1,a,h',b,hI,c⟩:=hp;simp only[aaC,aaP,Value.int.injEq,abk]at e1 a b;obtain⟨rfl,rfl⟩:=e1;subst a b;obtain⟨rfl,rfl⟩:=h.uniq h';exact⟨hI,c⟩
def Ml (h:gZ R p bs bad) (hp:xa.post [p] [] [R] v K F):v=.bool (!bad&&decide (bs=[])):=by
 obtain⟨b,R',bs',bad',e1,a,h',hv⟩:=hp;simp only[aaC,aaP]at e1 a;subst e1 a;obtain⟨rfl,rfl⟩:=h.uniq h';exact hv
def II (h:fL R u bs) (hp:td.post [u] [] [R] v K F):Ai bs v F:=by
 obtain⟨b,bs',R',e1,a,h',hI⟩:=hp;simp only[aaC,aaP]at e1 a;subst e1 a;rw[h.uniq h'];exact hI
def LO {K RG:Hl} (h:pR H x st) (hx:gY T B row c) (hp:BF.post [.pointer (some ⟨x,0,none⟩),.agg row.toArray] [H] [T,B,RG] v [K] F):v=.int .i64 (bG st c)/\pR K x (cR st c):=by
 obtain⟨x',H',st',row',g,j,f,c',K',e1,b,d,i1,i2,e,hv,hI⟩:=hp;simp only[aaC,aaP,Value.pointer.injEq,aaF,Addr.mk.injEq,Value.agg.injEq]at e1 b d e;obtain⟨rfl,e1⟩:=e1;obtain⟨rfl,rfl,rfl⟩:=d;have e1:=aa5 e1;subst e1 b e;obtain rfl:=hx.uniq i2;have a:∀ i,i<6->st i=st' i:=fun i hi=>h.rd.st i1.rd hi;exact⟨by rw[om a c];exact hv,hI.congr fun i hi=>(um a c hi).symm⟩
def wO (h:aq bs):aq (bn bs bad most).1/\(bn bs bad most).1.length<=bs.length:=by
 unfold bn;split
 .exact⟨fun z a=>(by cases a),abJ _⟩
 .refine⟨fun z a=>h z (abH (abo a)),?_⟩;simp only[aaU,aa7];omega
def Fo (bs:List Int) (bad:Bool) (most:Int):(bn bs bad most).1.length<=4096:=by
 unfold bn;split
 .exact abJ _
 .rename_i hc;have a:=Int.not_lt.1 fun x=>hc (Or.inr (Or.inr (Or.inr x)));simp only[aaU];omega
def RL {h:Hd} {b:List Int} (hh:bU T row h) (hu:fL B u b) (hb:aq b) (hl:b.length<=1000000):gY T B (row++[u]) ⟨h,b⟩:=by
 have a:row.length=125:=gx hh.ok;obtain⟨x,y,c,rfl,_⟩:=id hu;refine⟨?_,?_,?_,hb,hl⟩
 .have e:rE=fu++[Kd.slice]:=rfl;rw[e];exact lW hh.ok rfl
 .rw[aco a];exact hh
 .rw[aaD,aaQ ah,a];exact hu
def ck.b (h:ck F v rows):jN F F v rows:=by
 obtain⟨rx,rc,d,rfl⟩:=h.rep;obtain⟨us,ho,hr⟩:=id h;have a:=ck.len ho;refine⟨us,rx,0,rc,by rw[a],aaM _,a,fun j u hu=>?_,fun j u r hu e=>(hr j u r hu e).rd⟩;have f:j<rows.length:=by have:=(aaH.1 hu).1;omega
 have:=aP.cellAt (l:=(rows.length:Int)) (c:=(rc:Int)) (by rw[aar,aar];exact ho) d f;exact⟨this.1,by rw[acT,aa6,this.2,hu]⟩
noncomputable def m9:Sx.Spec where
 fn:=27
 own:=[.arg 0]
 rd:=[2000000]
 res:=[.one .ptr,.one (.int .i64)]
 links:=[0]
 pre:=fun xs Hs Rs=>∃ dp H D RG,xs=[dp]/\Hs=[H]/\Rs=[RG]/\aD H dp D/\aq (jR D)/\aq (gD D)/\fj D=0/\(cm D).recs.length<=100000/\(∀ r∈(cm D).recs,r.length<=1000000/\aq r)/\ve RG 5/\RG.cell 4 0=some yZ
 post:=fun xs Hs Rs v Hs' F=>∃ dp H D RG H',xs=[dp]/\Hs=[H]/\Rs=[RG]/\aD H dp D/\Hs'=[H']/\aD H' dp D/\((∃ a st,v=.tuple #[a,.int .i64 0]/\Ld (cm D).recs st/\cM F a dp (cm D) st)\/((∀ st,¬Ld (cm D).recs st)/\v=.tuple #[.pointer none,.int .i64 2]))
noncomputable def Yi:List Sx.Spec:=[tu,Cx,Fp,po,xx,xa,td,BF,pq]
def Ve:∀ t∈Yi,t.OK Tryz.prog:=av Cv <| av GH <| av Fq <| av vJ <| av GN <| av FQ <| av Mn <| av Fs <| av vP <| bW
def ZI:po.res=[.one .ptr]:=rfl
def ZJ:xx.res=[.one .sl]:=rfl
def ZK:xa.res=[.one .bool]:=rfl
def ZL:td.res=[.agg cy,.one (.int .i64)]:=rfl
noncomputable def uJ:aG Tryz.prog Yi m9.fn where
 Λ:=fun p=>if lp p&&p.head?==some 60 then some ⟨0,[(12,TI .i64 (.var 50))],[(4,.hp 51 [] [.var 10] [])],60⟩else none
 args:=[TP (.var 0) (.lit 0)]
 mem:=[.hp 1 [] [.var 0] [],.ro 2 [.lit 0,.lit 1,.lit 2,.lit 3,.lit 4,.lit 5] false]
 nv:=3
set_option maxRecDepth 20000 in
def IW:m9.OK Tryz.prog:=by
 refine Spec.aV (Γ:=Yi) Ve ?_;rintro xs Hs Rs b1 b2 ⟨dp,H,D,RG,rfl,rfl,rfl,hD,bt,bu,hE,hn,ao,hK,bw⟩;obtain⟨da,s,m,es,clock,aO,b3⟩:=id hD;refine⟨uJ,aL [(da:Int)] false [Hl.none,H,RG],
  fun _ q=>∃ (k x:Nat) (st:Nat->List Pc),q.i 50=k/\k<=(cm D).recs.length/\Value.pointer (az (q.i 10) (q.i 11))=.pointer (some ⟨x,0,none⟩)/\Ld ((cm D).recs.take k) st/\pR (q.h 51) x st,
  fun _ q=>((cm D).recs.length-q.i 50).toNat,?_,⟨?_,?_,?_,?_⟩,(fun _ h=>nomatch h),?_⟩
 .show [Value.pointer (az (da:Int) 0)]=_;rw[gT,aO]
 .intro r hr ho;simp [uJ]at hr;rcases hr with rfl | rfl
  .exact⟨H,aF,Hl.le_refl _⟩
  .cases ho
 .intro r hr ho;simp [uJ]at hr;rcases hr with rfl | rfl
  .cases ho
  .exact⟨RG,aF,Hl.le_refl _⟩
 .simp [uJ,bL.own]
 .intro r hr;simp [uJ]at hr;rcases hr with rfl | rfl<;>trivial
 refine aG.read [cy] [] [] ?_;generalize ae:aL [(da:Int)] false [Hl.none,H,RG]=J;have V:∀ q:Env,ai 3 J q->q.i 0=da/\q.h 2=RG:=fun q g=>by
  rw[g.i 0,g.h 2,<-ae];exact⟨rfl,rfl⟩
 have v0:J.i 0=da:=by rw[<-ae];rfl
 have w1:J.h 1=H:=by rw[<-ae];rfl
 clear ae;have ep:Value.pointer (az (da:Int) 0)=dp:=by rw[gT,aO]
 simp only[go_sem,Nat.reduceAdd,Yi,Xn,Xo,Xp,Xr,Xs,ZI,ZJ,ZK,ZL,KI,PT,ZY];have bad:∀ {k:Nat} {st:Nat->List Pc} {r:List Int},Ld ((cm D).recs.take k) st->(cm D).recs[k]?=some r->(∀ c,Ev r c->bG st c≠0)->∀ st',¬Ld (cm D).recs st':=fun {k st r} hL hr hb st' bx=>by
  obtain⟨st2,h2⟩:=bx.init (k:=k+1);rw[abV,hr]at h2;obtain⟨b4,c,h0,hc,ha,_⟩:=Ld.snoc h2;rw[h0.uniq hL]at ha;exact hb c hc ha
 have Y:∀ {R:Hl} {v:Value} {n:Int},pU R v n->pq.pre [v] [] [R,RG]:=fun h=>⟨_,_,RG,_,rfl,rfl,bw,h⟩;have Z:∀ {R:Hl} {v w:Value} {n:Int} {K:List Hl} {F:Hl},pU R v n->pq.post [v] [] [R,RG] w K F->w=.int .i64 n:=fun h hp=>by
  obtain⟨e,R',G',e1,e2,hq⟩:=hp;simp only[aaC,aaP]at e1 e2;obtain⟨rfl,rfl⟩:=e2;subst e1;exact hq _ h
 have met:∀ {v w:Value} {z n:Int} {s:ByteArray},0<=z->v=.iface 164 (.pointer (az z 0))->w=.iface 222 (.agg #[v])->pU (Hl.one z.toNat (.cells #[.string s,.int .i64 n] 168 (0,0))) w n:=fun hz e1 e2=>Or.inr ⟨_,_,by rw[e2,e1,au hz];rfl,Hl.aU _ _⟩;have y:∀ {q:Env} {n:Nat} {T:TypeId} {v:Value},q.v n=.iface T v->aB q (.vint n)=1:=fun h=>by rw[uf,h];rfl
 rw[v0,w1,ep];refine⟨⟨dp,H,D,rfl,rfl,hD,bt,bu⟩,fun q1 g1 ⟨F1,bz,bA,b5⟩=>?_⟩;obtain⟨pv,aP,hv,hS,_⟩:=AL hD bz;simp only[Value.tuple.injEq,abh,aaC,Value.int.injEq,abk,aaP]at hv;obtain⟨rfl,hv⟩:=hv;have h5:q1.i 5=0:=hv.trans hE;have hS:=hS hE;rw[<-bA zzT]at hS;have aa:∀ {q:Env} {t:Mem} {n:Nat},q.h 3=q1.h 3->q.i n=2->(∀ st',¬Ld (cm D).recs st')->postOf m9 [dp] [H] [RG] q (.hp 3 [1] [.var 0] []::t) (.tup [.one (.hptr (.lit (-1)) (.lit 0)),.one (.int .i64 (.var n))]):=by
  intro q t n h3 h2 hb _;refine⟨[[0]],[],rfl,rfl,⟨(bf fun k=>if k=0 then -1 else if k=1 then 0 else q.i n),rfl,⟨by show(-1:Int)<= -1;omega,aaM 0⟩,zzT,zzT⟩,dp,H,D,RG,_,rfl,rfl,rfl,hD,rfl,?_,Or.inr ⟨hb,?_⟩⟩
  .show aD (di [q.h 3]) _ _;rw[aN,h3];exact aP
  .show Value.tuple #[Value.pointer (az (-1) 0),Value.int .i64 (q.i n)]=_;rw[h2];rfl
 refine⟨fun af=>absurd h5 af,fun _=>⟨⟨_,_,dp,cm D,rfl,rfl,hS.rd,ah,fun r hr=>(ao r hr).1⟩,fun q2 g2 ⟨F2,bB,bC,aQ⟩=>⟨rfl,fun q3 g3 ⟨F3,⟨x,hx,hI⟩,bD,b6⟩=>?_⟩⟩⟩;have hR:=Cy hS.rd bB;rw[<-bC zzT]at hR;rw[<-bD zzT]at hI;obtain⟨us,rx,ry,rc,hv,bE,b7,aw,bF⟩:=hR.b;have nn:0<=q2.i 7/\0<=q2.i 8:=⟨aQ.1.2.1,aQ.1.2.2.1⟩;have h8:q2.i 8=(cm D).recs.length:=by
  simp only[Value.slice.injEq]at hv;have:=hv.2.1;omega
 have b8:q3.i 8=(cm D).recs.length:=by rw[g3.i 8,h8]
 refine⟨ah,⟨0,x,fun _=>[],rfl,abJ _,hx,by simpa using Ld.nil,hI⟩,fun G g4 ⟨k,x',st,ek,hk,aR,hL,ax⟩=>?_⟩;have A:ai 10 q2 G:=g3.tr g4;have ay:ai 6 q1 G:=g2.tr A;have bH:ai 3 J G:=g1.tr ay;rw[ek,A.i 8,h8];refine⟨fun b9=>?_,fun ca=>?_⟩
 .have ag:k<(cm D).recs.length:=ah;have U:(cm D).recs[k]?=some (cm D).recs[k]:=aax ag;obtain⟨aS,aC⟩:=ao _ (abM ag);generalize (cm D).recs[k]=r at U aS aC;have aH:us[k]?=some us[k]:=aax ah;have aj:=bF k _ _ aH U;obtain⟨aT,aW⟩:=aw k _ aH;generalize us[k]=u at aH aj aW;simp only[Value.slice.injEq]at hv;obtain⟨s1,s2⟩:=px aT bE nn.1 hv.1;have aX:∃ a l c,u=Value.slice a l c:=by obtain⟨a,b,c,e,_⟩:=id aj;exact⟨_,_,_,e⟩
  have cu:∀ q:Env,ai 60 G q->(q.h 6).cell (q.i 6).toNat (q.i 7+q.i 50).toNat=some u:=fun q g=>by
   rw[g.h 6,g.i 6,g.i 7,g.i 50,ek,A.h 6,A.i 6,A.i 7,s1,s2,show(ry+(k:Int)).toNat=ry.toNat+k by omega];exact aW
  have i4:=cu G (ai.refl _ _);rw[ek]at i4;rw[i4];refine⟨by rw[A.i 6,s1];exact aT,by rw[A.i 7];exact nn.1,ah,by obtain⟨a,l,c,rfl⟩:=aX;rfl,fun d g5 _=>?_⟩;rw[cu d g5,iN aX];refine⟨⟨u,r,_,rfl,rfl,?_,aC,aS⟩,fun q6 g6 ⟨F6,p6,bI,cb⟩=>?_⟩
  .rw[g5.h 6,A.h 6];exact aj
  have I6:=Mu (by rw[g5.h 6,A.h 6];exact aj) p6;rw[<-bI zzT]at I6;refine⟨⟨_,4096,_,r,false,rfl,rfl,I6,aA⟩,fun q7 g7 ⟨F7,p7,bJ,cc⟩=>?_⟩;obtain⟨I7,O7⟩:=CB (K:=q7.h 63) I6 p7;rw[<-bJ zzT]at O7;obtain⟨tb,tl⟩:=wO (bs:=r) (bad:=false) (most:=4096) aC;refine⟨⟨_,_,_,rfl,rfl,O7.rd.w,tb,ah⟩,fun q8 g8 ⟨F8,p8,bK,cd⟩ q9 g9 _=>?_⟩;have P8:=II O7.rd.w p8;rw[<-bK aA]at P8;have aY:ai 67 q7 q9:=g8.tr g9;have aZ:ai 63 q6 q9:=g7.tr aY;rw[aZ.i 61,aZ.i 62,aY.h 63];refine⟨⟨_,4096,_,_,_,rfl,rfl,I7,aA⟩,fun o bM ⟨cf,bN,a1,bZ⟩=>?_⟩;obtain⟨a2,a6⟩:=CB (K:=o.h 197) I7 bN;rw[<-a1 zzT]at a6;have Q:ai 196 q8 o:=g9.tr bM;have a7:ai 60 G o:=g5.trans (g6.mono.trans (g7.mono.trans (g8.mono.tr Q)));have W:∀ q:Env,ai 60 G q->q.h 3=q1.h 3/\q.h 2=RG/\q.h 51=G.h 51/\Value.pointer (az (q.i 10) (q.i 11))=.pointer (some ⟨x',0,none⟩):=fun q g=>by
   rw[g.h 3,g.h 2,g.h 51,g.i 10,g.i 11,ay.h 3,(V G bH).2];exact⟨rfl,rfl,rfl,aR⟩
  have bO:∀ q:Env,ai 196 q8 q->Value.pointer (az (q.i 61) (q.i 62))=Value.pointer (az (q6.i 61) (q6.i 62)):=fun q g=>by
   rw[g.i 61,g.i 62,g8.i 61,g8.i 62,g7.i 61,g7.i 62]
  have b0:o.i 195=q8.i 195:=Q.i 195;refine⟨fun h0=>?_,fun af=>?_⟩
  .have P:∃ h,bU (q8.h 67) ((ar 67 cy).map (CV.ev q8)) h/\h.Form/\tE h=(bn r false 4096).1:=by
    rcases P8 with ⟨row,h,e,hh,hF,hB⟩ | ⟨e,_⟩
    .simp only[Value.tuple.injEq,abh,aaC,Value.agg.injEq,aaP]at e;rw[e.1];exact⟨h,hh,hF,hB⟩
    .exfalso;simp only[Value.tuple.injEq,abh,aaC,Value.int.injEq,abk,aaP]at e;have e2:q8.i 195=2:=e.2;omega
   obtain⟨h,hh,hF,hB⟩:=P;rw[bO o Q];refine⟨⟨_,_,_,_,rfl,rfl,a2⟩,fun a8 aI ⟨cg,bR,_⟩=>?_⟩;have ba:a8.b 201=(!(bn (bn r false 4096).2.1 (bn r false 4096).2.2 4096).2.2&&decide ((bn (bn r false 4096).2.1 (bn r false 4096).2.2 4096).2.1=[])):=Value.bool.inj (Ml a2 bR);have bb:ai 60 G a8:=a7.tr aI;refine⟨fun bc=>?_,fun S=>?_⟩
   .intro f I n12 B L M;refine⟨by rw[y M];omega,fun aJ N aK C p _=>?_⟩;have tF:=(p.v 204).trans aK;have bd:C.i 202=f.i 202:=by rw[p.i 202,N.i 202,L.i 202]
    have ab:ai 60 G C:=bb.trans (I.mono.trans (L.mono.trans (N.mono.tr p)));have hm:=met (s:={data:=#[112,105,101,99,101]}) (n:=2) n12 M tF;rw[<-bd]at hm;refine⟨by rw[y tF];omega,fun _=>?_,fun h=>absurd ((y tF).symm.trans h) aA⟩;rw[(W C ab).2.1];refine⟨Y hm,fun O X ⟨bS,xG,_⟩=>aa (W O (ab.tr X)).1 (by simpa using Z hm xG) (bad hL U fun c hc=>?_)⟩;exfalso;rw[ba,hc.2.2.1]at bc;exact bc rfl
   .have hz:(bn (bn r false 4096).2.1 (bn r false 4096).2.2 4096).2=([],false):=by
     rw[ba]at S;simp only[aaE,aaB,abE]at S;exact Prod.ext S.2 S.1
    have bg:=I7.byte;obtain⟨ub,ul⟩:=wO (bs:=(bn r false 4096).2.1) (bad:=(bn r false 4096).2.2) (most:=4096) bg.1;intro f I n12;have aq:ai 196 q8 f:=Q.trans (aI.mono.tr I);have j:ai 201 o f:=aI.tr I;have bh:ai 60 G f:=bb.tr I;obtain⟨_,y2,bT,yp⟩:=W f bh;have aE:List.map (CV.ev f) (ar 67 cy++[CV.sl (.var 197) (.var 198) (.var 199) (.var 200)])=(ar 67 cy).map (CV.ev q8)++[.slice (az (o.i 197) (o.i 198)) (o.i 199).toNat (o.i 200).toNat]:=by
     have er:(ar 67 cy).map (CV.ev f)=(ar 67 cy).map (CV.ev q8):=aa1 Array.toList (Value.agg.inj (gn (ks:=cy) (n:=67) aq aA));rw[aba,er];show _++[Value.slice (az (f.i 197) (f.i 198)) (f.i 199).toNat (f.i 200).toNat]=_;rw[j.i 197,j.i 198,j.i 199,j.i 200]
    have hx:=RL hh a6.rd.w ub (by have:=bg.2;omega);rw[aE,bT,yp,y2,aq.h 67,j.h 198];have bW:mK st:=fun i _=>by
     have h1:=hL.len i;rw[aaU]at h1;omega
    have bj:(bn (bn r false 4096).2.1 (bn r false 4096).2.2 4096).1.length<=900000:=by
     have:=Fo (bn r false 4096).2.1 (bn r false 4096).2.2 4096;omega
    refine⟨⟨x',_,st,_,_,_,RG,_,rfl,rfl,rfl,ax,bW,hx,bj,hK⟩,fun B L ⟨ch,M,_⟩=>?_⟩;obtain⟨bk,bl⟩:=LO (K:=B.h 203) ax hx M;have bm:Ev r ⟨h,(bn (bn r false 4096).2.1 (bn r false 4096).2.2 4096).1⟩:=⟨hF,hB,hz,rfl,_,_,_,hx⟩;have av:B.i 203=bG st ⟨h,(bn (bn r false 4096).2.1 (bn r false 4096).2.2 4096).1⟩:=by simpa using bk
    have aM:ai 60 G B:=bh.tr L;refine⟨fun af=>?_,fun h0=>?_⟩
    .intro aJ N n14 C p tF;refine⟨by rw[y tF];omega,fun O X xG=>?_⟩;have bo:O.i 205=aJ.i 205:=by rw[X.i 205,p.i 205]
     have bp:ai 60 G O:=aM.trans (N.mono.trans (p.mono.tr X));have hm:=met (s:={data:=#[108,111,97,100]}) (n:=2) n14 tF xG;rw[<-bo]at hm;refine⟨by rw[y xG];omega,fun _=>?_,fun h=>absurd ((y xG).symm.trans h) aA⟩;rw[(W O bp).2.1];refine⟨Y hm,fun bX bY ⟨cj,IE,_⟩=>aa (W bX (bp.tr bY)).1 (by simpa using Z hm IE) (bad hL U fun c hc=>?_)⟩;rw[hc.uniq bm,<-av];exact af
    .have bq:aB B (E.wrap .i64 ((E.var 50).add (E.lit 1)))=((k+1:Nat):Int):=by
      rw[bP,bQ,al,ak,aM.i 50,ek,IntKind.wrap_i64];omega
     refine⟨⟨k+1,x',cR st _,bq,ah,(W B aM).2.2.2,?_,bl⟩,?_⟩
     .rw[abV,U];exact hL.put bm (av.symm.trans h0)
     .show(((cm D).recs.length:Int)-aB B (E.wrap .i64 ((E.var 50).add (E.lit 1)))).toNat<_;rw[bq];omega
  .have P:∀ R row h,bU R row h->h.Form->tE h≠(bn r false 4096).1:=by
    rcases P8 with ⟨row,h,e,_⟩ | ⟨_,h⟩
    .exfalso;simp only[Value.tuple.injEq,abh,aaC,Value.int.injEq,abk,aaP]at e;have e2:q8.i 195=0:=e.2;omega
    .exact h
   intro f I n12 B L M;refine⟨by rw[y M];omega,fun aJ N aK C p _=>?_⟩;have tF:=(p.v 203).trans aK;have br:C.i 201=f.i 201:=by rw[p.i 201,N.i 201,L.i 201]
   have ab:ai 60 G C:=a7.trans (I.mono.trans (L.mono.trans (N.mono.tr p)));have hm:=met (s:={data:=#[112,105,101,99,101]}) (n:=2) n12 M tF;rw[<-br]at hm;refine⟨by rw[y tF];omega,fun _=>?_,fun h=>absurd ((y tF).symm.trans h) aA⟩;rw[(W C ab).2.1];refine⟨Y hm,fun O X ⟨bS,xG,_⟩=>aa (W O (ab.tr X)).1 (by simpa using Z hm xG) (bad hL U fun c hc=>?_)⟩;obtain⟨c1,c2,_,_,R,R2,row,cx⟩:=hc;exact absurd c2 (P _ _ _ cx.hd c1)
 .have ag:k=(cm D).recs.length:=ah;rw[ag,acd (aaS _)]at hL;intro d g5 p5 ad;have an:ai 6 q1 d:=ay.tr g5;have d1:(Hl.one (d.i 60).toNat (.cells #[.pointer (az (d.i 3) (d.i 4)),.pointer (az (d.i 10) (d.i 11))] 125 (0,0))).bV (d.h 4):=ad 5 2 _ _ aA rfl rfl rfl;have d2:(Hl.one (d.i 60).toNat (.cells #[.pointer (az (d.i 3) (d.i 4)),.pointer (az (d.i 10) (d.i 11))] 125 (0,0))).bV (d.h 51):=ad 5 4 _ _ aA rfl rfl rfl;have d3:(d.h 4).bV (d.h 51):=ad 2 4 _ _ aA rfl rfl rfl;have e9:Value.pointer (az (d.i 10) (d.i 11))=.pointer (some ⟨x',0,none⟩):=by rw[g5.i 10,g5.i 11];exact aR
  rw[e9]at d1 d2;refine⟨[[0]],[5,2,4],rfl,rfl,⟨(bf fun k=>if k=0 then d.i 60 else 0),rfl,⟨by show -1<=d.i 60;omega,aaM 0⟩,zzT,zzT⟩,dp,H,D,RG,_,rfl,rfl,rfl,hD,rfl,?_,Or.inl ⟨_,st,rfl,hL,?_⟩⟩
  .show aD (di [d.h 3]) _ _;rw[aN,an.h 3];exact aP
  .refine⟨(d.i 60).toNat,.pointer (az (d.i 3) (d.i 4)),x',d.h 4,d.h 51,?_,?_,?_,d1,d2,d3,?_⟩
   .show Value.pointer (az (d.i 60) 0)=_;rw[au p5];rfl
   .rw[an.i 3,an.i 4,an.h 4];exact hS
   .rw[g5.h 51];exact ax
   .show di [Hl.one (d.i 60).toNat (.cells #[.pointer (az (d.i 3) (d.i 4)),.pointer (az (d.i 10) (d.i 11))] 125 (0,0)),d.h 4,d.h 51]=_;rw[e9];rfl
end Go.Proofs.YtomdimlnggpgbaaGreatDoor
namespace Go.Proofs.YtomdimlnggpgbaaGreatDoor.D
open Go Go.Sx
def stays (k:Int) (j:Nat):Bool:=if k<128 then decide ((j:Int)<k)else decide (64-(k-128)<=(j:Int))
def cD (was now:List Int) (k:Int):List Int:=(List.range 64).map fun j=>if stays k j then now.getD j 0 else was.getD j 0
def ef:List Ck:=List.replicate 64 (.int .u8)
def Qm (xs:List Value):Value:=match xs with
 | [a,b,.int _ k]=>.agg (aM (cD (fO a) (fO b) k)).toArray
 | _=>.bool false
def XG (xs:List Value):Prop:=match xs with
 | [_,_,.int _ k]=>0<=k/\k<256
 | _=>False
def GO:Sx.Spec:=qD 59 [.agg ef,.agg ef,.one (.int .u8)] [.agg ef] XG Qm
def eM:E:=(.ite (.lt (.lit 64) (.wrap .i64 (.rem (.var 128) (.lit 128)))) (.lit 64) (.wrap .i64 (.rem (.var 128) (.lit 128))))
def eD:E:=(.wrap .i64 (.sub (.lit 64) eM))
def eO:E:=(.ite (.eq (.lit 64) eD) (.lit 0) eD)
def Tm:List CV:=(List.range 64).map fun(j:Nat)=>.int .u8 (.ite (.lt (.lit (j:Int)) eM) (.var (64+j)) (.var j))
def Tn:List CV:=(List.range 64).map fun(j:Nat)=>.int .u8 (.ite (.and (.le eO (.lit (j:Int))) (.lt (.lit (j:Int)) (.add eO (.sub (.lit 64) eD)))) (.var (64+j)) (.var j))
def Qn:Nd:=(fun a b c=>(.ext (.alloc 129) (.ext (.alloc 130) (.ext (.alloc 131) (.and (.imp c (.and (.e (.le b eM)) (.and (.e (.le eM a)) (.and (.e (.and (.le b eM) (.and (.le b eM) (.le eM a)))) (.post [.dead,.dead,.dead] (.sv (.agg Tm))))))) (.imp (.not c) (.and (.e (.le b eD)) (.and (.e (.le eD a)) (.and (.e (.and (.le b eO) (.and (.le b (.sub a eD)) (.and (.le b (.sub a eD)) (.le (.add eO (.sub a eD)) a))))) (.post [.dead,.dead,.dead] (.sv (.agg Tn)))))))))):Nd)) (.lit 64) (.lit 0) (.lt (.var 128) (.lit 128))
def XH:aG Tryz.prog [] 59 where
 Λ:=aC
 args:=(cA 0 [.agg ef,.agg ef,.one (.int .u8)]).map .sv
 mem:=[]
 nv:=129
def cE (a b:List Int) (k:Int):(cD a b k).length=64:=by simp [cD]
set_option maxRecDepth 20000 in
def Qo:GO.OK Tryz.prog:=by
 refine kj (fun t h=>by cases h) XH rfl rfl rfl (fun q _ _=>?_) (fun q v hN=>⟨fun _ _=>True,fun _ _=>0,?_⟩)
 .obtain⟨J,_,_,e⟩:=cY ef 0 (aM (cD (fO ((SV.agg (ar 0 ef)).ev q)) (fO ((SV.agg (ar 64 ef)).ev q)) (q.i 128))) q (iD 64 _ (cE _ _ _));exact⟨J,by show Value.agg _=Value.agg ((ar 0 ef).map (CV.ev J)).toArray;rw[e];rfl,cN _ _ _ aA,zzT⟩
 .have hN:0<=q.i 128/\q.i 128<256:=hN;obtain⟨k0,k1⟩:=hN;have o:Qm (ui [.agg ef,.agg ef,.one (.int .u8)] q)=.agg (aM (cD ((List.range 64).map fun j=>q.i j) ((List.range 64).map fun j=>q.i (64+j)) (q.i 128))).toArray:=rfl;simp only[o];refine aG.lit (x:=Qn) ?_;unfold Qn;simp only[go_sem,Nat.reduceAdd];intro q1 p _ q2 r _ a s _;have G:ai 129 q a:=(p.tr r).tr s;have b:a.i 128=q.i 128:=G.i 128;have w0:IntKind.i64.wrap ((a.i 128).tmod 128)=(q.i 128).tmod 128:=by
   rw[b];have h1:=adL 128 k0;have h2:=adu (q.i 128) (by decide:(0:Int)<128);exact wrap_i64 ah ah
  have w:0<=(q.i 128).tmod 128:=adL _ k0;have m1:(q.i 128).tmod 128<128:=adu _ aA;have m2:(q.i 128).tmod 128=if q.i 128<128 then q.i 128 else q.i 128-128:=by
   rw[abm k0];split<;>omega
  have k:aB a eM=min ((q.i 128).tmod 128) 64:=by
   unfold eM;simp only[cO,bP,ue,al,ak,nz,w0,aaB];split<;>omega
  have m:aB a eD=64-min ((q.i 128).tmod 128) 64:=by
   unfold eD;rw[bP,dm,ak,k];exact wrap_i64 ah ah
  have n:aB a eO=if min ((q.i 128).tmod 128) 64=0 then 0 else 64-min ((q.i 128).tmod 128) 64:=by
   unfold eO;simp only[cO,sJ,ak,m,aaB];split<;>split<;>omega
  rw[k,m,n,b];have out:∀ (l:List CV) (c:Nat->E),l=(List.range 64).map (fun(j:Nat)=>CV.int .u8 (.ite (c j) (.var (64+j)) (.var j)))->(∀ j:Nat,j<64->bh a (c j)=stays (q.i 128) j) ->
   (TV.sv (.agg l)).ev a=.agg (aM (cD ((List.range 64).map fun j=>q.i j) ((List.range 64).map fun j=>q.i (64+j)) (q.i 128))).toArray:=by
   intro l c hl hc;subst hl;show Value.agg (List.map (CV.ev a) _).toArray=_
   congr 2
   unfold cD aM;rw[abD,abD];refine abr fun j d=>?_;have d:=abd.1 d;show Value.int .u8 (aB a (.ite (c j) (.var (64+j)) (.var j)))=Value.int .u8 _;rw[cO,hc j d,al,al,G.i (64+j),G.i j];have e1:((List.range 64).map fun j=>q.i (64+j)).getD j 0=q.i (64+j):=by rw[aaD,aaL,aaZ d];rfl
   have u:((List.range 64).map fun j=>q.i j).getD j 0=q.i j:=by rw[aaD,aaL,aaZ d];rfl
   show _=Value.int .u8 (if stays (q.i 128) j=true then((List.range 64).map fun j=>q.i (64+j)).getD j 0 else((List.range 64).map fun j=>q.i j).getD j 0);rw[e1,u]
  refine⟨fun f=>⟨ah,ah,⟨ah,ah,ah⟩,out Tm (fun j=>.lt (.lit (j:Int)) eM) rfl fun j d=>?_⟩,fun g=>⟨ah,ah,⟨by split<;>omega,ah,ah,by split<;>omega⟩,out Tn (fun j=>.and (.le eO (.lit (j:Int))) (.lt (.lit (j:Int)) (.add eO (.sub (.lit 64) eD)))) rfl fun j d=>?_⟩⟩
  .rw[nz,ak,k];unfold stays;rw[aaR f];rw[aaR f]at m2
   congr 1
   exact propext ⟨fun h=>ah,fun h=>ah⟩
  .rw[oM,kQ,nz,ak,bQ,dm,ak,m,n];unfold stays;rw[aaG g];rw[aaG g]at m2;rw[<-Bool.decide_and]
   congr 1
   refine propext ⟨fun h=>?_,fun h=>?_⟩
   .split at h<;>omega
   .split<;>omega
end Go.Proofs.YtomdimlnggpgbaaGreatDoor.D
namespace Go.Proofs.YtomdimlnggpgbaaGreatDoor.D
open Go.Shelf
def BI:Go.Shelf.Ren:=⟨fun | 7=>58 | 10=>95 | n=>n,fun | 23=>91 | 26=>3 | 3=>119 | 28=>116 | 0=>0 | 27=>115 | 33=>160 | 4=>4 | n=>n,fun | n=>n⟩
def WT:Go.Proofs.SlLaysZI.n7 Tryz.prog BI:={
 mixed:=by kernel_rfl
 f7:=⟨Tryz.f58.name,Sx.aA,Tryz.func58.trans (aa1 some (by kernel_rfl))⟩
 f10:=⟨Tryz.f95.name,Sx.aA,Tryz.func95.trans (aa1 some (by kernel_rfl))⟩
 t0:=Tryz.underlying0
 a0:=Tryz.isAgg0
 z0:=Tryz.sizeOf0
 v0:=Tryz.zeroValue0
 t4:=Tryz.underlying4
 a4:=Tryz.isAgg4
 z4:=Tryz.sizeOf4
 v4:=Tryz.zeroValue4
 t23:=Tryz.underlying91
 a23:=Tryz.isAgg91
 z23:=Tryz.sizeOf91
 v23:=Tryz.zeroValue91
 t26:=Tryz.underlying3
 a26:=Tryz.isAgg3
 z26:=Tryz.sizeOf3
 v26:=Tryz.zeroValue3
 t27:=Tryz.underlying115
 a27:=Tryz.isAgg115
 z27:=Tryz.sizeOf115
 v27:=Tryz.zeroValue115
 t28:=Tryz.underlying116
 a28:=Tryz.isAgg116
 z28:=Tryz.sizeOf116
 v28:=Tryz.zeroValue116
 t33:=Tryz.underlying160
 a33:=Tryz.isAgg160
 z33:=Tryz.sizeOf160
 v33:=Tryz.zeroValue160}
def xo:Go.Shelf.Ren:=⟨fun | 6=>57 | 8=>93 | 9=>94 | 11=>133 | 13=>135 | 12=>134 | 23=>170 | 24=>171 | 14=>161 | 15=>162 | 16=>163 | 17=>164 | 18=>165 | 19=>166 | 20=>167 | 21=>168 | 22=>169 | 25=>187 | 26=>188 | 27=>189 | 28=>190 | 29=>191 | 30=>192 | 31=>203 | n=>n,fun | 26=>3 | 28=>116 | 24=>113 | 0=>0 | 3=>3 | 37=>201 | 48=>170 | 50=>32 | 4=>4 | 40=>257 | 39=>256 | 45=>35 | 5=>5 | 9=>9 | 51=>280 | 55=>283 | 57=>293 | 58=>294 | 33=>160 | n=>n,fun | n=>n⟩
def Sv:Go.Proofs.SlLaysZI.n6 Tryz.prog xo:={
 mixed:=by kernel_rfl
 f6:=⟨Tryz.f57.name,Sx.aA,Tryz.func57.trans (aa1 some (by kernel_rfl))⟩
 f8:=⟨Tryz.f93.name,Sx.aA,Tryz.func93.trans (aa1 some (by kernel_rfl))⟩
 f11:=⟨Tryz.f133.name,Sx.aA,Tryz.func133.trans (aa1 some (by kernel_rfl))⟩
 t0:=Tryz.underlying0
 a0:=Tryz.isAgg0
 z0:=Tryz.sizeOf0
 v0:=Tryz.zeroValue0
 t24:=Tryz.underlying113
 a24:=Tryz.isAgg113
 z24:=Tryz.sizeOf113
 v24:=Tryz.zeroValue113
 t26:=Tryz.underlying3
 a26:=Tryz.isAgg3
 z26:=Tryz.sizeOf3
 v26:=Tryz.zeroValue3
 t28:=Tryz.underlying116
 a28:=Tryz.isAgg116
 z28:=Tryz.sizeOf116
 v28:=Tryz.zeroValue116
 i26:=by kernel_rfl}
def MQ:Go.Shelf.Ren:=⟨fun | 5=>94 | 8=>135 | 7=>134 | 19=>170 | 20=>171 | 10=>161 | 11=>162 | 12=>163 | 13=>164 | 14=>165 | 15=>166 | 16=>167 | 17=>168 | 18=>169 | 30=>187 | 31=>188 | 32=>189 | 33=>190 | 34=>191 | 35=>192 | 40=>203 | n=>n,fun | 23=>113 | 25=>3 | 3=>3 | 32=>201 | 22=>113 | 0=>0 | 44=>170 | 46=>32 | 4=>4 | 36=>257 | 35=>256 | 41=>35 | 5=>5 | 9=>9 | 53=>280 | 57=>283 | 63=>293 | 64=>294 | n=>n,fun | n=>n⟩
def Ti:Go.Proofs.SlLaysM.n5 Tryz.prog MQ:={
 mixed:=by kernel_rfl
 f5:=⟨Tryz.f94.name,Sx.aA,Tryz.func94.trans (aa1 some (by kernel_rfl))⟩
 f7:=⟨Tryz.f134.name,Sx.aA,Tryz.func134.trans (aa1 some (by kernel_rfl))⟩
 f8:=Tryz.func135.trans (aa1 some (by kernel_rfl))
 f10:=⟨Tryz.f161.name,Sx.aA,Tryz.func161.trans (aa1 some (by kernel_rfl))⟩
 f11:=⟨Tryz.f162.name,Sx.aA,Tryz.func162.trans (aa1 some (by kernel_rfl))⟩
 f12:=⟨Tryz.f163.name,Sx.aA,Tryz.func163.trans (aa1 some (by kernel_rfl))⟩
 f13:=⟨Tryz.f164.name,Sx.aA,Tryz.func164.trans (aa1 some (by kernel_rfl))⟩
 f14:=⟨Tryz.f165.name,Sx.aA,Tryz.func165.trans (aa1 some (by kernel_rfl))⟩
 f15:=⟨Tryz.f166.name,Sx.aA,Tryz.func166.trans (aa1 some (by kernel_rfl))⟩
 f16:=⟨Tryz.f167.name,Sx.aA,Tryz.func167.trans (aa1 some (by kernel_rfl))⟩
 f17:=⟨Tryz.f168.name,Sx.aA,Tryz.func168.trans (aa1 some (by kernel_rfl))⟩
 f18:=⟨Tryz.f169.name,Sx.aA,Tryz.func169.trans (aa1 some (by kernel_rfl))⟩
 f19:=Tryz.func170.trans (aa1 some (by kernel_rfl))
 f20:=Tryz.func171.trans (aa1 some (by kernel_rfl))
 f30:=⟨Tryz.f187.name,Sx.aA,Tryz.func187.trans (aa1 some (by kernel_rfl))⟩
 f31:=Tryz.func188.trans (aa1 some (by kernel_rfl))
 f32:=Tryz.func189.trans (aa1 some (by kernel_rfl))
 f33:=⟨Tryz.f190.name,Sx.aA,Tryz.func190.trans (aa1 some (by kernel_rfl))⟩
 f34:=⟨Tryz.f191.name,Sx.aA,Tryz.func191.trans (aa1 some (by kernel_rfl))⟩
 f35:=⟨Tryz.f192.name,Sx.aA,Tryz.func192.trans (aa1 some (by kernel_rfl))⟩
 f40:=⟨Tryz.f203.name,Sx.aA,Tryz.func203.trans (aa1 some (by kernel_rfl))⟩
 t0:=Tryz.underlying0
 a0:=Tryz.isAgg0
 z0:=Tryz.sizeOf0
 v0:=Tryz.zeroValue0
 t3:=Tryz.underlying3
 a3:=Tryz.isAgg3
 z3:=Tryz.sizeOf3
 v3:=Tryz.zeroValue3
 t4:=Tryz.underlying4
 a4:=Tryz.isAgg4
 z4:=Tryz.sizeOf4
 v4:=Tryz.zeroValue4
 t5:=Tryz.underlying5
 a5:=Tryz.isAgg5
 z5:=Tryz.sizeOf5
 v5:=Tryz.zeroValue5
 t9:=Tryz.underlying9
 a9:=Tryz.isAgg9
 z9:=Tryz.sizeOf9
 v9:=Tryz.zeroValue9
 t22:=Tryz.underlying113
 a22:=Tryz.isAgg113
 z22:=Tryz.sizeOf113
 v22:=Tryz.zeroValue113
 t23:=Tryz.underlying113
 a23:=Tryz.isAgg113
 z23:=Tryz.sizeOf113
 v23:=Tryz.zeroValue113
 t25:=Tryz.underlying3
 a25:=Tryz.isAgg3
 z25:=Tryz.sizeOf3
 v25:=Tryz.zeroValue3
 t32:=Tryz.underlying201
 a32:=Tryz.isAgg201
 z32:=Tryz.sizeOf201
 v32:=Tryz.zeroValue201
 t35:=Tryz.underlying256
 a35:=Tryz.isAgg256
 z35:=Tryz.sizeOf256
 v35:=Tryz.zeroValue256
 t36:=Tryz.underlying257
 a36:=Tryz.isAgg257
 z36:=Tryz.sizeOf257
 v36:=Tryz.zeroValue257
 t41:=Tryz.underlying35
 a41:=Tryz.isAgg35
 z41:=Tryz.sizeOf35
 v41:=Tryz.zeroValue35
 t44:=Tryz.underlying170
 a44:=Tryz.isAgg170
 z44:=Tryz.sizeOf170
 v44:=Tryz.zeroValue170
 t46:=Tryz.underlying32
 a46:=Tryz.isAgg32
 z46:=Tryz.sizeOf32
 v46:=Tryz.zeroValue32
 t53:=Tryz.underlying280
 a53:=Tryz.isAgg280
 z53:=Tryz.sizeOf280
 v53:=Tryz.zeroValue280
 t57:=Tryz.underlying283
 a57:=Tryz.isAgg283
 z57:=Tryz.sizeOf283
 v57:=Tryz.zeroValue283
 t63:=Tryz.underlying293
 a63:=Tryz.isAgg293
 z63:=Tryz.sizeOf293
 v63:=Tryz.zeroValue293
 t64:=Tryz.underlying294
 a64:=Tryz.isAgg294
 z64:=Tryz.sizeOf294
 v64:=Tryz.zeroValue294}
end Go.Proofs.YtomdimlnggpgbaaGreatDoor.D
namespace Go.Proofs.YtomdimlnggpgbaaGreatDoor.D
open Go Go.Sx Go.RowKit Go.Maps Go.Sort Go.Shelf
variable {es:Array MapEntry}{l:List (Int×Value)}
abbrev JT:FuncId:=57
abbrev vl:FuncId:=95
def Vx (m:Nat):AnyZI.SortsIn Tryz.prog xo Fence.wide m :=
 ⟨fun bj off cap c W d a b=>callsIn_wide.2 (AnyM.slices_Sort_int Ti bj off cap c W d a b),
  fun p cap W=>callsIn_wide.2 (AnyM.slices_Sort_int_none Ti p cap W)⟩
def fg (l:List Int):List Int:=l.mergeSort (fun x y=>decide (x<=y))
def Ja {a b:List Int} (h:a.Perm b):fg a=fg b:=by
 unfold fg;have tr:∀ (a b c:Int),decide (a<=b)=true->decide (b<=c)=true->decide (a<=c)=true:=fun a b c h1 h2=>decide_eq_true (by have:=abK h1;have:=abK h2;omega);have tt:∀ (a b:Int),(decide (a<=b)||decide (b<=a))=true:=fun a b=>by
  rcases Int.le_total a b with h | h<;>simp [h]
 refine List.Perm.eq_of_pairwise (le:=fun a b=>decide (a<=b)=true) (fun a b _ _ h1 h2=>by have:=abK h1;have:=abK h2;omega) (adD tr tt a) (adD tr tt b) ?_;exact((acX a _).trans h).trans (acX b _).symm
def py (l:List Int):(fg l).length=l.length:=(acX l _).length_eq
def rP {l:List Int} {x:Int} : x∈fg l↔x∈l:=(acX l _).mem_iff
def AT (_:Value):Option (DataW Unit×List MemPlace):=some (.nil,[])
def Uv (a:iI .i64 es l) (hr:∀ p∈l,-9223372036854775808<=p.1/\p.1<=9223372036854775807):∀ x∈es.toList,∃ n:Int,x.key=.int .i64 n/\WideElems.rd Tryz.prog 3 AT x=some (.int .i64 n,.nil):=by
 intro x hx;have:(x.key,x.val)∈l.map fun p=>(Value.int .i64 p.1,p.2):=by
  rw[<-show es.toList.map (fun e=>(e.key,e.val))=_ from a];exact abb.2 ⟨x,hx,rfl⟩
 obtain⟨q,b,e⟩:=abb.1 this;rw[abl]at e;have hb:=hr q b;refine⟨q.1,e.1.symm,?_⟩;have hw:(Lit.int .i64 q.1).wf=true:=by
  simp only[Lit.wf,IntKind.min,IntKind.max,IntKind.signed,IntKind.bits,aaE,aaB];simp;omega
 unfold WideElems.rd keyOf;rw[<-e.1];simp only[Tryz.underlying3];unfold mapKey;simp only[Tryz.underlying3,hw];rfl
def D9 (a b:Nat) {clock:Nat} (w:World) (j:a<w.heap.size) (hm:w.cell? ⟨a,0,none⟩=some (.map (some b))) (hb:w.heap[b]?=some (.map es clock)) (k:iI .i64 es l) (m:MapKept.Stamped es clock)
 (hr:∀ p∈l,-9223372036854775808<=p.1/\p.1<=9223372036854775807) (r:l.length<=1000000) :
 Calls Tryz.prog JT #[.func (.func vl) #[] #[.pointer (some ⟨a,0,none⟩)]] w fun e w'=>∃ v,e=.returned v/\w'.ownsRow w.heap.size 3 1 v l.length ((fg (l.map (·.1))).map (Value.int .i64))/\RowKit.Below w.heap.size w w':=by
 have hsize:es.size=l.length:=k.size;have c:=Uv k hr;have d:w.ownsMap Tryz.prog 3 AT b l.length (.map ((es.toList.map (WideElems.rg Tryz.prog 3 AT)).foldr DataW.insert [])) :=
  ⟨es,clock,hb,⟨by rw[hsize];unfold maxLen;omega,m,fun x hx=>by obtain⟨n,_,h⟩:=c x hx;exact⟨_,h⟩⟩,by rw[hsize];exact aaS _,rfl⟩
 have f:Maps.size (.map ((es.toList.map (WideElems.rg Tryz.prog 3 AT)).foldr DataW.insert []))=l.length:=by
  show((es.toList.map (WideElems.rg Tryz.prog 3 AT)).foldr DataW.insert []).length=_;rw[DataW.length_sorted,aaT,ab2,hsize]
 have g:SeqGives Fence.wide 2 Tryz.prog vl #[.pointer (some ⟨a,0,none⟩)] encZ (fun i=>i.Perm (intKeys (.map ((es.toList.map (WideElems.rg Tryz.prog 3 AT)).foldr DataW.insert [])))) (Maps.size (.map ((es.toList.map (WideElems.rg Tryz.prog 3 AT)).foldr DataW.insert []))) w :=
  AnyZI.keys_gives (ρ:=BI) {WT with} Fence.wide _ trivial rfl ah a b l.length _ w j hm d
 have o:=AnyZI.sorted_in Sv Fence.wide 5 trivial trivial trivial trivial rfl ah (Vx _) (enters_of Tryz.func94 zzK rfl) vl #[.pointer (some ⟨a,0,none⟩)] trivial (enters_of Tryz.func95 zzK rfl) _ _ (by rw[f];unfold maxLen;omega) (by rw[f];omega) _ g;have o:=callsIn_wide.1 o;refine Calls.mono o ?_;rintro e w' ⟨v,i,rfl,hS,aE,_,q⟩;have hp:i.Perm (l.map (·.1)):=by
  refine hS.trans ?_;simp only[intKeys];refine((WideShapes.sorted_perm _).map _).trans (List.Perm.of_eq ?_);have h1:es.toList.map (fun e=>e.key)=l.map fun p=>Value.int .i64 p.1:=by
   have:=aa1 (List.map Prod.fst) (show es.toList.map (fun e=>(e.key,e.val))=l.map fun p=>(Value.int .i64 p.1,p.2)from k);rw[abD,abD]at this;exact this
  have h2:es.toList.map (fun e=>cf (some e.key))=l.map (·.1):=by
   have:=aa1 (List.map fun v=>cf (some v)) h1;rw[abD,abD]at this;exact this
  rw[<-h2,abD];refine abr fun x hx=>?_;obtain⟨n,hk,hd⟩:=c x hx;simp only[Function.comp_apply,WideElems.rg,hd,hk];rfl
 have hl:i.length=l.length:=by rw[hp.length_eq,aaT]
 have hs:i.mergeSort (fun x y=>decide (x<=y))=fg (l.map (·.1)):=Ja hp;rw[hl,hs]at aE;exact⟨v,rfl,aE,q⟩
def rQ:Sx.Spec where
 fn:=JT
 own:=[]
 rd:=[0,200]
 res:=[.one .sl]
 pre:=fun xs Hs Rs=>∃ (x m:Nat) (es:Array MapEntry) (clock:Nat) (l:List (Int×Value)) (R1 R2:Hl),xs=[.func (.func vl) #[] #[.pointer (some ⟨x,0,none⟩)]]/\Rs=[R1,R2]/\R1.cell x 0=some (.map (some m))/\R2 m=some (.map es clock)/\iI .i64 es l/\MapKept.Stamped es clock/\(∀ p∈l,-9223372036854775808<=p.1/\p.1<=9223372036854775807)/\l.length<=1000000
 post:=fun xs Hs Rs v Hs' F=>∃ (x m:Nat) (es:Array MapEntry) (clock:Nat) (l:List (Int×Value)) (R1 R2:Hl),xs=[.func (.func vl) #[] #[.pointer (some ⟨x,0,none⟩)]]/\Rs=[R1,R2]/\R1.cell x 0=some (.map (some m))/\R2 m=some (.map es clock)/\iI .i64 es l/\aP F 3 1 v l.length ((fg (l.map (·.1))).map (Value.int .i64))
def Jb:rQ.OK Tryz.prog:=by
 intro w xs Hs Rs i t u d y z ⟨x,m,es,clock,l,R1,R2,hx,A,hc,hm,s,j,hr,n⟩;have B:Hs=[]:=aaz.1 i;subst B;subst hx;subst A;have s1:R1.sub w:=(d R1 aF);have s2:R2.sub w:=d R2 aF;have c:=Hl.iu s1 hc;have hx:x<w.heap.size:=by
  unfold Hl.cell at hc;split at hc
  .rename_i hb;exact(abg.1 (s1 _ _ hb)).1
  .cases hc
 refine(D9 x m w hx c (s2 _ _ hm) s j hr n).mono ?_;rintro e w' ⟨v,rfl,⟨hlen,aE⟩,a⟩;have post:∀ F:Hl,aP F 3 1 v l.length ((fg (l.map (·.1))).map (Value.int .i64))->rQ.post [.func (.func vl) #[] #[.pointer (some ⟨x,0,none⟩)]] [] [R1,R2] v [] F:=fun F C=>⟨x,m,es,clock,l,R1,R2,rfl,rfl,hc,hm,s,C⟩;rcases aE with ⟨rfl,hn⟩ | ⟨g,cap,cur,rfl,D,f,hle,q,r,E⟩
 .refine⟨(bf fun k=>[-1,0,0,0].getD k 0),[],Hl.none,rfl,⟨⟨by show(-1:Int)<= -1;omega,aaM _,aaM _,aaM _⟩,zzT⟩,⟨a.os,a.tape,a.output,a.size,fun b hl _=>a.block b hl,rfl,(fun _ h=>nomatch h),(fun _ _ h=>nomatch h),(fun _ h=>nomatch h),(fun b h=>by simp [Hl.mem,Hl.none]at h),(fun p _ _ _ _ h=>by simp at h),(fun _ h=>nomatch h)⟩,post _ ⟨hlen,Or.inl ⟨rfl,hn⟩⟩⟩
 .refine⟨(bf fun k=>[(g:Int),0,l.length,cap].getD k 0),[],Hl.one g (.cells cur 3 (0,0)),?_,⟨⟨by show(-1:Int)<=(g:Int);omega,aaM _,by show(0:Int)<=(l.length:Int);omega,by show(0:Int)<=(cap:Int);omega⟩,zzT⟩,⟨a.os,a.tape,a.output,a.size,fun b hl _=>a.block b hl,rfl,(fun _ h=>nomatch h),?_,(fun _ h=>nomatch h),?_,(fun p _ _ _ _ h=>by simp at h),(fun _ h=>nomatch h)⟩,?_⟩
  .show _=Ending.returned (Value.slice (az (g:Int) 0) ((l.length:Int)).toNat ((cap:Int)).toNat);rw[au ah,aar,aar,aar];rfl
  .intro b o hb;obtain⟨rfl,rfl⟩:=Hl.nI hb;exact f
  .intro b hb;rw[Hl.dJ]at hb;subst hb;exact Or.inr D
  .have e:(kS 0 rQ.res).ev (bf fun k=>[(g:Int),0,l.length,cap].getD k 0)=.slice (some ⟨g,0,none⟩) l.length cap:=by
    show Value.slice (az (g:Int) 0) ((l.length:Int)).toNat ((cap:Int)).toNat=_;rw[au ah,aar,aar,aar];rfl
   rw[e];exact post _ ⟨hlen,Or.inr ⟨g,cap,cur,rfl,Hl.aU _ _,hle,q,r,E⟩⟩
end Go.Proofs.YtomdimlnggpgbaaGreatDoor.D
namespace Go.Proofs.YtomdimlnggpgbaaGreatDoor.D
open Go Go.Sx
variable {D:DM}{c k key l x y:Int}{bs ks now was:List Int}{n:Nat}
def bF (fate:List Int) (i:Nat):Int:=if fate=[]then 0 else fate.getD (i%fate.length) 0
def iQ (loose:List (Int×List Int)) (k:Int):List Int:=match loose.find? fun p=>p.1==k with
 | some p=>p.2
 | none=>[]
def jF (now:List Int) (k:Int):List Int:=(now.drop (64*k.toNat)).take 64
def gR (loose:List (Int×List Int)) (fate now ks:List Int):Nat->List Int
 | 0=>now
 | i+1=>br (gR loose fate now ks i) (64*(ks.getD i 0).toNat) (cD (iQ loose (ks.getD i 0)) (jF (gR loose fate now ks i) (ks.getD i 0)) (bF fate i))
def bX (D:DM) (fate:List Int):DM:=⟨D.n,gR D.loose fate D.now (fg (D.loose.map (·.1))) D.loose.length,[],-1,false⟩
def iJ {D:DM} (h:D.ok) (fate ks:List Int) (hk:∀ k∈ks,0<=k/\k<D.n):∀ i,i<=ks.length->(gR D.loose fate D.now ks i).length=64*D.n
 | 0,_=>h.now
 | i+1,hi=>by
  have ih:=iJ h fate ks hk i ah;have hm:ks.getD i 0∈ks:=by
   rw[aaD,aax ah,abL];exact abM _
  have hb:=hk _ hm;unfold gR;rw[sF (by rw[cE,ih];omega),ih]
def Bx (h:D.ok) (fate:List Int):(bX D fate).ok:=by
 refine⟨iJ h fate _ (fun k hk=>?_) _ (by rw[py,aaT];exact aaS _),h.n,by show(-1:Int)<= -1;omega,by show(-1:Int)<=_;omega,fun p hp=>by cases hp⟩;obtain⟨p,hp,rfl⟩:=abb.1 (rP.1 hk);exact(h.loose p hp).2
def RE {F:Hl} {e:TypeId} (h:aP F e 1 (.slice (az x y) l.toNat c.toNat) n (ks.map (Value.int .i64))) (hx:-1<=x) (i:0<=y) (hl:0<=l):l=n/\n=ks.length/\∀ j:Nat,j<n->0<=x/\F.cell x.toNat (y.toNat+j)=some (.int .i64 (ks.getD j 0)):=by
 obtain⟨hlen,h⟩:=h;rw[aaT,acA]at hlen;rcases h with ⟨h,hn⟩ | ⟨g,cap,cur,h,b,hle,hm,hs,d⟩
 .simp only[Value.slice.injEq]at h;exact⟨ah,hlen.symm,fun j f=>ah⟩
 .simp only[Value.slice.injEq]at h;obtain⟨h1,h2,k⟩:=h;refine⟨ah,hlen.symm,fun j f=>?_⟩;have a:0<=x:=by
   rcases abQ x 0 with h | h
   .rw[show x= -1 by omega,fx]at h1;cases h1
   .exact h
  rw[au a]at h1;simp only[aaF,Addr.mk.injEq,aaP]at h1;obtain⟨rfl,h1⟩:=h1;refine⟨a,?_⟩;unfold Hl.cell;rw[b,h1,aa6];have:cur.toList[j]?=some (.int .i64 (ks.getD j 0)):=by
   have e:(ks.map (Value.int .i64))[j]?=some (.int .i64 (ks.getD j 0)):=by
    rw[aaL,aax ah,aaD,aax ah];rfl
   rw[<-d,abf,aaR ah]at e;exact e
  simpa using this
def L6 {loose:List (Int×List Int)} : ∀ (n:Nat),(∃ p∈loose,p.1=k)->∃ j,gX k (lv loose) n=some (j,.agg (aM (iQ loose k)).toArray):=by
 induction loose with
 | nil=>rintro n ⟨p,hp,_⟩;cases hp
 | cons p l ih =>
  rintro n hex;show ∃ j,(if k=p.1 then some (n,Value.agg (aM p.2).toArray)else gX k (lv l) (n+1))=_;by_cases hk:k=p.1
  .subst hk;rw[aaR rfl];exact⟨n,by simp [iQ]⟩
  .rw[aaG hk];obtain⟨q,b,e⟩:=hex;have a:q∈l:=by
    rcases aaN.1 b with rfl | h
    .exact absurd e.symm hk
    .exact h
   obtain⟨j,c⟩:=ih (n+1) ⟨q,a,e⟩;refine⟨j,by rw[c];simp [iQ,show(p.1==k)=false by simpa using fun e=>hk e.symm]⟩
def Ej (h:D.ok) (hex:∃ p∈D.loose,p.1=k):(iQ D.loose k).length=64:=by
 unfold iQ;split
 .rename_i p hp;exact(h.loose p (acR hp)).1
 .rename_i hn;obtain⟨p,hp,e⟩:=hex;have:=ace.1 hn p hp;simp [e]at this
def NO (D:DM) (fate:List Int) (s:Nat) (j:Nat) (q:Env):Prop:=match j with
 | 0=>∃ i:Nat,q.i 30=i/\i<=D.loose.length/\q.h 31=jP s (gR D.loose fate D.now (fg (D.loose.map (·.1))) i)
 | _=>q.i 33=bF fate (q.i 30).toNat
def yP:List Sx.Spec:=[rQ,GO]
def Lt:∀ t∈yP,t.OK Tryz.prog:=by
 intro t a;simp only[yP,aaN,aaX,abC]at a;rcases a with rfl | rfl
 .exact Jb
 .exact Qo
def yO:Sx.Spec where
 fn:=18
 own:=[.arg 0]
 rd:=[1]
 res:=[]
 pre:=fun xs Hs Rs=>∃ p u bs H R D,xs=[p,u]/\Hs=[H]/\Rs=[R]/\aD H p D/\fL R u bs/\(∀ b∈bs,0<=b/\b<256)/\D.loose.length<=1000000
 post:=fun xs Hs Rs v Hs' F=>∃ p u bs H R D H',xs=[p,u]/\Hs=[H]/\Rs=[R]/\aD H p D/\fL R u bs/\Hs'=[H']/\aD H' p (bX D bs)
def T1:aG Tryz.prog yP yO.fn where
 Λ:=fun p=>if lp p then some ⟨0,[(14,TI .i64 (.var 30))],[(1,.hp 31 [] [.var 6] [])],32⟩else
  if cutAt p [18,0,1,0,0,1,1,0,0,1,1,0]then some ⟨1,[(6,TI .u8 (.var 33))],[],34⟩else none
 args:=[TP (.var 0) (.lit 0),.sv (.one (.sl (.var 1) (.var 2) (.var 3) (.var 4)))]
 mem:=tV++[.ro 15 [.var 1] false]
 nv:=16
def Zn:yP[0]?=some rQ:=rfl
def Zo:rQ.res=[.one .sl]:=rfl
def kr1:GO.res=[.agg ef]:=rfl
def Zm:(aK 0 [Cp.one .sl]≠[])=True:=by simp [aK,Cp.roots,Ck.root]
def Qp (h1:was.length=64) (h2:now.length=64) (k0:0<=k/\k<256):GO.pre [.agg (aM was).toArray,.agg (aM now).toArray,.int .u8 k] [] []:=by
 obtain⟨a,_,_,f⟩:=cY ef 0 (aM was) (bf fun _=>0) (iD 64 _ h1);obtain⟨b,g,_,h⟩:=cY ef 64 (aM now) a (iD 64 _ h2);obtain⟨c,gc,_,d⟩:=cY [.int .u8] 128 [.int .u8 k] b ⟨by simp [bz,kU],zzT⟩;have e:ai 64 a c:=g.tr gc;have e1:(ar 0 ef).map (CV.ev c)=aM was:=by rw[CV.gF e _ (cU ef 0)];exact f
 have i:(ar 64 ef).map (CV.ev c)=aM now:=by rw[CV.gF gc _ (cU ef 64)];exact h
 refine⟨⟨c,⟨jz c 64 0,jz c 64 64,zzT,zzT⟩,?_⟩,k0⟩;show [Value.agg (aM was).toArray,Value.agg (aM now).toArray,Value.int .u8 k]=[Value.agg ((ar 0 ef).map (CV.ev c)).toArray,Value.agg ((ar 64 ef).map (CV.ev c)).toArray,CV.ev c (.int .u8 (.var 128))];rw[e1,i];have d:[CV.ev c (.int .u8 (.var 128))]=[Value.int .u8 k]:=d;rw[aaC]at d;rw[d.1]
def Dd (hb:∀ b∈bs,0<=b/\b<256) (i:Nat):0<=bF bs i/\bF bs i<256:=by
 unfold bF;split
 .omega
 .rename_i h;have hl:0<bs.length:=adS.2 h;have hm:=adz i hl;rw[aaD,aax hm,abL];exact hb _ (abM _)
def GA (s:Nat) (key:Int):∀ j z,(jF now key)[j]?=some z->(jP s now).cell s (64*key.toNat+j)=some (.int .u8 z):=by
 intro j z a;unfold jP;rw[Hl.one_cell,abI,fT];unfold jF at a;rw[abf]at a;split at a
 .rw[aa9]at a;rw[a];rfl
 .cases a
def DX (hn:now.length=64*n) (h0:0<=key) (h1:key<n):(jF now key).length=64:=by
 unfold jF;rw[aaU,aa7,hn];omega
set_option maxRecDepth 20000 in
def Lr:yO.OK Tryz.prog:=by
 refine Spec.aV Lt ?_;rintro xs Hs Rs aQ aR ⟨p,u,bs,H,R,D,rfl,rfl,rfl,⟨a,s,m,es,clock,rfl,h⟩,⟨x,y,cp,rfl,hy,hR⟩,hb,hL⟩;refine⟨T1,nT a s m D [x,y,bs.length,cp,0] es clock R,NO D bs s,fun _ q=>(D.loose.length-q.i 30).toNat,?_,JI h _ rfl _ _,(fun _ h=>nomatch h),?_⟩
 .show [Value.pointer (az (a:Int) 0),Value.slice (az x y) ((bs.length:Int)).toNat ((cp:Int)).toNat]=_;rw[ju,aar,aar]
 .refine aG.read [] [] [] ?_;have an:∃ J,J=nT a s m D [x,y,bs.length,cp,0] es clock R:=⟨_,rfl⟩;obtain⟨J,b⟩:=an;rw[<-b];have v0:J.i 0=a:=by rw[b];rfl
  have v1:J.i 1=x:=by rw[b];rfl
  have v2:J.i 2=y:=by rw[b];rfl
  have v3:J.i 3=bs.length:=by rw[b];rfl
  have v6:J.i 6=s:=by rw[b];rfl
  have v7:J.i 7=0:=by rw[b];rfl
  have v8:J.i 8=D.n:=by rw[b];rfl
  have v10:J.i 10=m:=by rw[b];rfl
  have vh:J.h 13=jP s D.now:=by rw[b];rfl
  have vm:J.h 14=Hl.one m (.map es clock):=by rw[b];rfl
  have vr:J.h 15=R:=by rw[b];rfl
  have c:(Hl.one m (.map es clock)) m=some (.map es clock):=Hl.aU _ _;have aH:(lv D.loose).map (·.1)=D.loose.map (·.1):=by unfold lv;rw[abD];rfl
  simp only[go_sem,Nat.reduceAdd,Zn,yP,Zo,kr1,ue];intro q1 g1 ao;have Z:0<=q1.i 16:=by first | exact ao | exact ao.1 | omega
  have aI:q1.i 10=m:=by rw[g1.i 10,v10]
  have aq:q1.h 14=Hl.one m (.map es clock):=by rw[g1.h 14,vm]
  have K:∀ T,(Hl.one (q1.i 16).toNat (Obj.cells #[Value.map (if q1.i 10= -1 then none else some (q1.i 10).toNat)] T)).cell (q1.i 16).toNat 0=some (.map (some m)):=by
   intro T;rw[Hl.one_cell,aI,aaG ah,aar];rfl
  refine⟨⟨(q1.i 16).toNat,m,es,clock,lv D.loose,_,_,by rw[au Z];rfl,rfl,K _,by rw[aq];exact c,h.map,h.st,fun p hp=>?_,by rw[BL];exact hL⟩,fun q2 g2 ⟨F,⟨x',m',es',clock',l',R1,R2,E,aJ,V,ad,aK,hO⟩,hF,hn⟩=>?_⟩
  .unfold lv at hp;obtain⟨r,hr,rfl⟩:=abb.1 hp;have:=(h.ok.loose r hr).2;have:=h.ok.n;exact⟨by show _<=r.1;omega,by show r.1<=_;omega⟩
  cases aJ;rw[au Z]at E;simp only[aaC,Value.func.injEq,aa5,abh,Value.pointer.injEq,aaF,Addr.mk.injEq,aaP,abk]at E;have E:(q1.i 16).toNat=x':=by first | exact E | exact E.1
  subst E;have V:=(K _).symm.trans V;simp only[aaF,Value.map.injEq]at V;subst V;rw[aq,c]at ad;simp only[aaF,Obj.map.injEq]at ad;obtain⟨rfl,rfl⟩:=ad;rw[iI.inj aK h.map,BL,aH]at hO;have hF:q2.h 17=F:=hF (by rw[Zm];trivial);subst hF;have hn:-1<=q2.i 17/\0<=q2.i 18/\0<=q2.i 19/\0<=q2.i 20:=hn.1;obtain⟨n17,n18,n19,n20⟩:=hn;obtain⟨aL,cL,hK⟩:=RE hO n17 n18 n19;obtain⟨ks,hks⟩:∃ ks,ks=fg (D.loose.map (·.1)):=⟨_,rfl⟩;rw[<-hks]at hO cL hK;have L:∀ k∈ks,∃ p∈D.loose,p.1=k:=by
   intro k hk;rw[hks]at hk;obtain⟨p,hp,e⟩:=abb.1 (rP.1 hk);exact⟨p,hp,e⟩
  have av:∀ k∈ks,0<=k/\k<D.n:=by
   intro k hk;obtain⟨p,hp,rfl⟩:=L k hk;exact(h.ok.loose p hp).2
  have G2:ai 16 J q2:=g1.tr g2;refine⟨n19,⟨0,rfl,abJ _,?_⟩,fun f g3 ⟨i,hi,aS,W⟩=>?_⟩
  .show q2.h 13=_;rw[G2.h 13,vh];rfl
  have t:ai 16 J f:=G2.tr g3;have d19:f.i 19=D.loose.length:=by rw[g3.i 19,aL]
  rw[<-hks]at W;refine⟨fun aT=>?_,fun aW=>?_⟩
  .have aw:i<D.loose.length:=ah;obtain⟨aX,M⟩:=hK i aw;obtain⟨key,N⟩:∃ k,k=ks.getD i 0:=⟨_,rfl⟩;rw[<-N]at M;have ae:key∈ks:=by
    rw[N,aaD,aax ah,abL];exact abM _
   obtain⟨k0,k1⟩:=av key ae;have aa:=Ej h.ok (L key ae);have af:(gR D.loose bs D.now ks i).length=64*D.n:=iJ h.ok bs ks av i ah;obtain⟨now,ab⟩:∃ now,now=gR D.loose bs D.now ks i:=⟨_,rfl⟩;rw[<-ab]at af W;have O:=DX af k0 k1;have o:∀ q,ai 21 f q->q.i 30=i->(q.h 17).cell (q.i 17).toNat (q.i 18+q.i 30).toNat=some (.int .i64 key):=by
    intro q g e;rw[g.h 17,g.i 17,g.i 18,g3.h 17,g3.i 17,g3.i 18,e,show(q2.i 18+i).toNat=(q2.i 18).toNat+i by omega];exact M
   have ht:(i:Int).tmod (bs.length:Int)=((i%bs.length:Nat):Int):=rfl;refine⟨by rw[g3.i 17];omega,by rw[g3.i 18];omega,ah,by rw[o f (ai.refl _ _) hi];rfl,⟨by rw[t.i 3,v3];omega,fun h3=>?_,fun h3=>?_⟩,fun d S P=>?_⟩
   .rw[t.i 3,v3]at h3;have X:bs≠[]:=by rintro rfl;simp at h3
    have ax:0<=x/\∀ j z,bs[j]?=some z->R.cell x.toNat (y.toNat+j)=some (.int .u8 z):=by
     rcases hR with h | h
     .exact absurd h X
     .exact h
    have hl:0<bs.length:=ah;have hm:=adz i hl;have ay:(f.h 15).cell (f.i 1).toNat (f.i 2+(f.i 30).tmod (f.i 3)).toNat=some (.int .u8 bs[i%bs.length]):=by
     rw[t.h 15,t.i 1,t.i 2,t.i 3,vr,v1,v2,v3,hi,ht,show(y+((i%bs.length:Nat):Int)).toNat=y.toNat+i%bs.length by omega];exact ax.2 _ _ (aax hm)
    refine⟨by rw[t.i 1,v1];exact ax.1,by rw[t.i 2,v2];exact hy,by rw[hi,t.i 3,v3,ht];omega,by rw[hi,t.i 3,v3,ht];omega,by rw[ay];rfl,?_⟩;show cf ((f.h 15).cell (f.i 1).toNat (f.i 2+(f.i 30).tmod (f.i 3)).toNat)=bF bs (f.i 30).toNat;rw[ay,hi,aar];unfold bF;rw[aaG X,aaD,aax hm];rfl
   .rw[t.i 3,v3]at h3;have X:bs=[]:=aaz.1 ah;show(0:Int)=bF bs (f.i 30).toNat;unfold bF;rw[aaR X]
   .have G4:ai 16 J d:=t.tr S;have G:d.i 30=i:=by rw[S.i 30,hi]
    have ag:d.h 31=jP s now:=by rw[S.h 31,W]
    have P:d.i 33=bF bs i:=by
     have P:d.i 33=bF bs (d.i 30).toNat:=P;rw[P,G,aar]
    have ek:cf ((d.h 17).cell (d.i 17).toNat (d.i 18+d.i 30).toNat)=key:=by rw[o d S.mono G];rfl
    have d6:d.i 6=s:=by rw[G4.i 6,v6]
    have d7:d.i 7=0:=by rw[G4.i 7,v7]
    have d8:d.i 8=D.n:=by rw[G4.i 8,v8]
    have d10:d.i 10=m:=by rw[G4.i 10,v10]
    have d14:d.h 14=Hl.one m (.map es clock):=by rw[G4.h 14,vm]
    have aj:((0:Int)+key*64).toNat=64*key.toNat:=ah;obtain⟨jw,aA⟩:=L6 (k:=key) 0 (L key ae);rw[ek,d6,d7,d8,d10,d14,ag,aj,aar,aar];refine⟨ah,ah,k0,k1,df (GA s key) (by rw[O];decide),⟨ah,es,clock,_,c,je h.map key,fun j v hv=>?_⟩,fun B g5 aN=>?_⟩
    .rw[aA]at hv;cases hv;refine⟨_,rfl,?_⟩;show(aM _).map ma=_;rw[EK,aa]
    obtain⟨C,_⟩:=aN es clock _ c (je h.map key);rw[aA]at C;have C:Value.agg ((ar 34 ef).map (CV.ev B)).toArray=.agg (aM (iQ D.loose key)).toArray:=C;have aZ:cf ((B.h 17).cell (B.i 17).toNat (B.i 18+B.i 30).toNat)=key:=by rw[o B (S.mono.tr g5) (by rw[g5.i 30,G])];rfl
    have aB:∀ q,ai 34 d q->(aY 31 (.var 6) (.add (.var 7) (.mul (.hI 17 (.var 17) (.add (.var 18) (.var 30)) 0) (.lit 64))) 0 (List.replicate 64 (Kd.int .u8))).map (CV.ev q)=aM (jF now key):=by
     intro q g;have e:cf ((q.h 17).cell (q.i 17).toNat (q.i 18+q.i 30).toNat)=key:=by rw[o q (S.mono.tr g) (by rw[g.i 30,G])];rfl
     refine im 64 0 _ O fun j z hz=>?_;simp only[bQ,cG,al,ak,fh,abj];rw[e,g.h 31,g.i 6,g.i 7,ag,d6,d7,aj,aar,aa6];exact GA s key j z hz
    have aO:B.i 33=bF bs i:=by rw[g5.i 33,P]
    have aC:∀ l,l=[Value.agg (aM (iQ D.loose key)).toArray,Value.agg (aM (jF now key)).toArray,Value.int .u8 (bF bs i)]->GO.pre l [] []:=by
     rintro l rfl;exact Qp aa O (Dd hb i)
    have Q:[Value.agg ((ar 34 ef).map (CV.ev B)).toArray,Value.agg ((aY 31 (.var 6) (.add (.var 7) (.mul (.hI 17 (.var 17) (.add (.var 18) (.var 30)) 0) (.lit 64))) 0 (List.replicate 64 (Kd.int .u8))).map (CV.ev B)).toArray,Value.int .u8 (B.i 33)]=[Value.agg (aM (iQ D.loose key)).toArray,Value.agg (aM (jF now key)).toArray,Value.int .u8 (bF bs i)]:=by
     rw[C,aB B g5,aO]
    refine⟨aC _ Q,fun U g6 ⟨_,A,_⟩=>?_⟩;have A:Value.agg ((ar 99 ef).map (CV.ev U)).toArray=.agg (aM (cD (iQ D.loose key) (jF now key) (bF bs i))).toArray:=by
     have A:Value.agg ((ar 99 ef).map (CV.ev U)).toArray=Qm [Value.agg ((ar 34 ef).map (CV.ev B)).toArray,Value.agg ((aY 31 (.var 6) (.add (.var 7) (.mul (.hI 17 (.var 17) (.add (.var 18) (.var 30)) 0) (.lit 64))) 0 (List.replicate 64 (Kd.int .u8))).map (CV.ev B)).toArray,Value.int .u8 (B.i 33)]:=A;rw[A,Q];show Value.agg (aM (cD (fO _) (fO _) _)).toArray=_;rw[sS,sS]
    have A:(ar 99 ef).map (CV.ev U)=aM (cD (iQ D.loose key) (jF now key) (bF bs i)):=by
     simpa using A
    have I:ai 34 d U:=g5.tr g6;have aP:cf ((U.h 17).cell (U.i 17).toNat (U.i 18+U.i 30).toNat)=key:=by rw[o U (S.mono.tr I) (by rw[I.i 30,G])];rfl
    rw[aP,I.i 6,I.i 7,I.h 31,d6,d7,ag,aj,aar];have aD:(ar 99 (List.replicate 64 (Ck.int .u8))).map (CV.ev U)=aM (cD (iQ D.loose key) (jF now key) (bF bs i)):=A;have hlen:(ar 99 (List.replicate 64 (Ck.int .u8))).length=64:=by decide
    refine⟨⟨ah,ah,?_⟩,fun q7 g7 aE=>?_⟩
    .rw[hlen];exact Hl.DD _ _ _ _ _ (by rw[acm,cw,af];omega)
    .rw[aD,EV]at aE;have f30:q7.i 30=i:=by rw[g7.i 30,I.i 30,G]
     have w:IntKind.i64.wrap ((i:Int)+1)=i+1:=wrap_i64 ah ah;have aF:(assign q7 [⟨30,0,.int .i64 (.wrap .i64 (.add (.var 30) (.lit 1)))⟩] [(31,some 163)]).i 30=i+1:=by
      show IntKind.i64.wrap (q7.i 30+1)=_;rw[f30,w]
     refine⟨⟨i+1,by rw[aF];omega,ah,?_⟩,?_⟩
     rotate_left
     .show((D.loose.length:Int)-(assign q7 [⟨30,0,.int .i64 (.wrap .i64 (.add (.var 30) (.lit 1)))⟩] [(31,some 163)]).i 30).toNat<((D.loose.length:Int)-f.i 30).toNat;rw[aF,hi];omega
     show q7.h 163=_;rw[aE,<-hks];show _=jP s (br (gR D.loose bs D.now ks i) (64*(ks.getD i 0).toNat) (cD (iQ D.loose (ks.getD i 0)) (jF (gR D.loose bs D.now ks i) (ks.getD i 0)) (bF bs i)));rw[<-N,<-ab]
  .have hi:i=D.loose.length:=ah;subst hi;rw[t.i 10,v10,t.h 14,vm,aar];refine⟨⟨ah,es,clock,c⟩,fun d S Y _=>?_⟩;have Y:=Y es clock c;rw[Hl.sY]at Y;have G4:ai 15 J d:=(t.tr S).mono ah;rw[b]at G4;refine⟨[[0,1,2]],[],rfl,rfl,⟨(bf fun _=>0),rfl,zzT⟩,_,_,bs,H,R,D,_,rfl,rfl,rfl,⟨a,s,m,es,clock,rfl,h⟩,⟨x,y,cp,rfl,hy,hR⟩,rfl,?_⟩;refine T4 (es':=#[]) (clock':=clock) h G4 (Bx h.ok bs) rfl rfl (MapKept.stamped_empty _) (ak _ _) rfl ?_ Y;rw[S.h 31,W,hks];rfl
end Go.Proofs.YtomdimlnggpgbaaGreatDoor.D
namespace Go.Proofs.YtomdimlnggpgbaaGreatDoor
open Go Go.Sx Go.Pk
open Go.Proofs.YtomdimlnggpgbaaGreatDoor.D hiding aL aC fP
variable {F H K R R' R1 R2 RG T U:Hl}{x:Nat}{st st2:Nat->List Pc}{p:Pc}{dp pr v:Value}
def US {row:List Value} (hx:gY R1 R2 row p) (a:p.h.Form) (hl:p.b.length<=4096):Ev (fQ p) p:=by
 have e:bE p.h=tE p.h:=by unfold bE;rw[aaR a]
 have h1:=HV hx.hd;have e1:bn (fQ p) false 4096=(tE p.h,aI p.b,false):=by
  have:=Ef (r:=bE p.h) (rest:=aI p.b) ah;rw[<-e];exact this
 have c:bn (aI p.b) false 4096=(p.b,[],false):=by
  have:=Ef (r:=p.b) (rest:=[]) hl;rwa[abA]at this
 exact⟨a,by rw[e1],by rw[e1];show(bn (aI p.b) false 4096).2=_;rw[c],by rw[e1];show _=(bn (aI p.b) false 4096).1;rw[c],_,_,_,hx⟩
section
variable {n k:Nat} {D:DM} {S:SM} {st:Nat->List Pc}
def Good.put (h:Good st) (hb:aq p.b/\p.b.length<=1000000):Good (cR st p):=by
 unfold cR;split
 .intro i hi q a;unfold vf at a;split at a
  .rename_i e;rcases aa4.1 a with h1 | h1
   .exact h _ (e▸hi) q h1
   .rw[aaJ]at h1;rw[h1];exact hb
  .exact h i hi q a
 .exact h
end
def Gl.mono {a:Nat->Addr} (h:Gl R a) (hl:R.le R'):Gl R' a :=
 ⟨fun g b=>C3 hl (h.cell g b),fun g b=>by obtain⟨c,t,e⟩:=h.bj g b;exact⟨c,t,hl _ _ e⟩,h.ne⟩
def lY.mono (hl:R.le R') {p:Value} (h:lY R p st):lY R' p st:=by
 obtain⟨r,ps,x,hp,hb,hI⟩:=h;exact⟨r,ps,x,hp,hl _ _ hb,hI.mono hl⟩
def Vd (T:Hl) (h:H x=some (.cells #[.slice none 0 0,.slice none 0 0,.slice none 0 0,.slice none 0 0,.slice none 0 0,.slice none 0 0] 57 (0,0))):jJ H T x (fun _=>[]) :=
 ⟨fun _=>.slice none 0 0,Hl.none,⟨h,fun i _=>⟨[],tD.nil _ _ _,rfl,fun j row p hr=>by simp at hr⟩,fun b o hb=>(by cases hb)⟩,fun hm=>(by cases hm),fun i b _ hb=>(by cases hb),fun i _ p hp=>(by cases hp)⟩
def Gp {D:DM} (d:aD H dp D) (h:m9.post [dp] [H] [RG] v [K] F):aD K dp D/\((∃ a st,v=.tuple #[a,.int .i64 0]/\Ld (cm D).recs st/\cM F a dp (cm D) st)\/((∀ st,¬Ld (cm D).recs st)/\v=.tuple #[.pointer none,.int .i64 2])):=by
 obtain⟨dp',H',D',e,f,e1,b,g,d1,c,d2,h⟩:=h;simp only[aaC,aaP]at e1 b c;subst e1 b c;obtain rfl:=d.uniq d1;exact⟨d2,h⟩
def Cq (h1:lY U pr st) (h2:GZ U T x st2) (a:∀ i,i<6->st i=st2 i\/(st i).length≠(st2 i).length) (hp:rI.post [pr,.pointer (some ⟨x,0,none⟩)] [] [U] v [] F) :
 v=.bool true/\(∀ i,i<6->st i=st2 i)\/v=.bool false/\∃ i,i<6/\(st i).length≠(st2 i).length:=by
 obtain⟨l,x',R',t,s,s2,e1,j,k1,k2,_,hc⟩:=hp;simp only[aaC,aaP,Value.pointer.injEq,aaF,Addr.mk.injEq]at e1 j;obtain⟨rfl,rfl⟩:=e1;subst j;have e:∀ i,i<6->s i=st i:=fun i hi=>by
  obtain⟨r,ps,y,hp,hr,hI⟩:=h1;obtain⟨r',d,y',b,c,f⟩:=k1;rw[hp]at b;obtain rfl:r=r':=by simpa using b
  rw[hr]at c;obtain⟨rfl,rfl⟩:ps=d/\y=y':=by simpa using c
  exact f.st hI hi
 have k:∀ i,i<6->(s2 i).length=(st2 i).length:=fun i hi=>by
  obtain⟨sv,KB,m⟩:=h2;obtain⟨n,o,g⟩:=k2;obtain⟨p,_,q,_⟩:=m.sl hi;obtain⟨b1,_,b2,_⟩:=g.sl hi;rw[p]at b1;rw[<-abp b1,q]at b2;omega
 refine hc.imp (fun⟨hv,h⟩=>⟨hv,fun i hi=>(a i hi).resolve_right fun hn=>hn ?_⟩) (fun⟨hv,i,hi,h⟩=>⟨hv,i,hi,?_⟩)
 .rw[<-e i hi,h i hi,k i hi]
 .rw[<-e i hi,<-k i hi];exact h
def UU:Iu.res=[.one .ptr]:=rfl
def UW:m9.res=[.one .ptr,.one (.int .i64)]:=rfl
def UX:qH.res=[.agg Ta]:=rfl
def UY:(NQ (Cm 100)).res=[.one (.int .i64)]:=rfl
def UZ:vn.res=[.one .bool]:=rfl
def U0:pX.res=[.one .bool]:=rfl
def U1 (l:List Nat):(M4 (Al 1001053) l).res=[.one (.int .i64)]:=rfl
def U2:DU.res=[.one .bool]:=rfl
def U3:yO.res=[]:=rfl
def RM (l:List Nat):(M4 rI l).res=[.one .bool]:=rfl
end Go.Proofs.YtomdimlnggpgbaaGreatDoor
