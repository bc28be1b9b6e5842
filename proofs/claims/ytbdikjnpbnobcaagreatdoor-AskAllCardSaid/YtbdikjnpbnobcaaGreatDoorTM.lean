/- Pull after pull, for all and with bodies, brings every piece laid in a door once, each whole and in its writer's order: a part of the proof. No condition. -/
import Derived.ProofKit
import Derived.OpenShut
import Derived.Deep.Slices
import Derived.ChangeSame
import Derived.Test.YtbdikjnpbnobcaaGreatDoorCards
import Derived.LaidMore
import Derived.LaidHandle
import Derived.Stop.Joined
import Derived.Stop.LaidErr
import Derived.LaidSub
import Derived.Lay
import Derived.Test.YtbdikjnpbnobcaaGreatDoorTL
set_option linter.all false
set_option maxHeartbeats 4000000
namespace Go.Proofs.YtbdikjnpbnobcaaGreatDoor
open Go Go.Sx Go.Pk
def X1:List Ck->Bool
 | []=>true
 | k::l=>(match k with | .ptr | .sl | .map=>false | _=>true)&&X1 l
def C7 {q:Env} : ∀ {ks:List Ck} {n:Nat},X1 ks=true->bk n ks q->bZ n ks q
 | [],_,_,_=>trivial
 | k::ks,n,h,hn=>by
  simp only[X1,aaM]at h;refine⟨?_,C7 h.2 hn.2⟩;have:=hn.1;cases k<;>first | exact zzT | exact this | cases h.1
def xn {q:Env} : ∀ {a b:List Ck} {n:Nat},bk n (a++b) q->bk n a q/\bk (n+aQ a) b q
 | [],b,n,h=>⟨zzT,by simpa [aQ] using h⟩
 | k::a,b,n,h=>by
  have:=xn (a:=a) (b:=b) (n:=n+k.len) h.2;rw[show n+k.len+aQ a=n+aQ (k::a)by simp [aQ];omega]at this;exact⟨⟨h.1,this.1⟩,this.2⟩
set_option maxRecDepth 20000 in
def RL (q:Env):((((aj 5 fI).map (CV.ev q)).take 125).drop 34).take 20=(aj 39 ([Ck.int .i64,Ck.bool,Ck.int .u64]++List.replicate 16 (Ck.int .u8)++[Ck.sl])).map (CV.ev q)/\((((aj 5 fI).map (CV.ev q)).take 125).drop 93).take 32=(aj 101 (List.replicate 32 (Ck.int .u8))).map (CV.ev q) /\
 cI (((aj 5 fI).map (CV.ev q)).take 125) 54=q.i 62/\cI (((aj 5 fI).map (CV.ev q)).take 125) 55=q.i 63/\cI (((aj 5 fI).map (CV.ev q)).take 125) 56=q.i 64/\cI (((aj 5 fI).map (CV.ev q)).take 125) 57=q.i 65/\cI (((aj 5 fI).map (CV.ev q)).take 125) 58=q.i 66/\cI (((aj 5 fI).map (CV.ev q)).take 125) 59=q.i 67:=by
 rw[sN];exact⟨rfl,rfl,rfl,rfl,rfl,rfl,rfl,rfl⟩
def Yz {q:Env} {w:Int} {n:Nat} {qE sum:List Int} (hw:1<=w/\w<=6) (hn:n<=100000) (c:q.i 4=w) (d:q.i 147=n) (e:(aj 151 (List.replicate 32 (Ck.int .u8))).map (CV.ev q)=aS qE) (hs:(aj 184 (List.replicate 32 (Ck.int .u8))).map (CV.ev q)=aS sum) :
 BM.map (CV.ev q)=jZ (((aj 5 fI).map (CV.ev q)).take 125) w n qE sum++[.slice (au (q.i 183) 0) 80 80]:=by
 obtain⟨e1,f,k0,k1,k2,k3,k4,k5⟩:=RL q;unfold jZ om uI OS;rw[e1,f,k0,k1,k2,k3,k4,k5,<-e,<-hs];have a:∀ z:Int,-9<=z->z<=1000000->IntKind.i64.wrap z=z:=fun z h1 g=>by rw[IntKind.wrap_i64];omega
 have b:∀ z:Int,0<=z->z<=1000000->IntKind.u64.wrap z=z:=fun z h1 g=>by rw[IntKind.wrap_u64];omega
 have w1:IntKind.i64.wrap (w-1)=w-1:=a _ ah ah;have w2:IntKind.u64.wrap (n:Int)=n:=b _ ah ah;have h:IntKind.i64.wrap ((n:Int)+1)=(n:Int)+1:=a _ ah ah;have j:IntKind.u64.wrap ((n:Int)+1)=(n:Int)+1:=b _ ah ah;unfold BM;simp only[acm,abW,acI,CV.ev,ar,aq,bL,bP,dZ,dY,ik,c,d,w1,w2,h,j,abS,afg,adk];rfl
set_option maxRecDepth 20000 in
def N6:xu.OK Tryz.prog:=by
 refine Spec.jN (Γ:=riΓ) YB rfl ?_;rintro xs Rs ⟨v,w,row,R,T,RG,rows,hs,p,rfl,rfl,hR,hA,hlen,hw,hx,hK⟩;obtain⟨x,y,c,rfl,hy,_⟩:=id hR;obtain⟨q0,ag,I,K⟩:=cE fI 5 row (ba fun k=>[x,y,rows.length,c,w].getD k 0) hx.ok;obtain⟨J,d⟩:∃ J:Env,J=⟨q0.i,q0.b,q0.s,q0.v,xh [(140,R),(141,T),(142,RG)]⟩:=⟨_,rfl⟩;have v0:J.i 0=x:=by rw[d];exact ag.i 0
 have v1:J.i 1=y:=by rw[d];exact ag.i 1
 have v2:J.i 2=rows.length:=by rw[d];exact ag.i 2
 have v3:J.i 3=c:=by rw[d];exact ag.i 3
 have v4:J.i 4=w:=by rw[d];exact ag.i 4
 have aG:(aj 5 fI).map (CV.ev J)=row:=by rw[d,<-PA (xh [(140,R),(141,T),(142,RG)])];exact K
 have I:bk 5 fI J:=by rw[d];exact QZ _ _ _ I
 have w4:J.h 140=R:=by rw[d];rfl
 have w5:J.h 141=T:=by rw[d];rfl
 have w6:J.h 142=RG:=by rw[d];rfl
 clear d;refine⟨YA,J,fun _ _=>True,fun _ _=>0,?_,aT rfl (by show [J.h 140,J.h 141,J.h 142]=_;rw[w4,w5,w6]),rfl,?_⟩
 .show [Value.slice (au (J.i 0) (J.i 1)) (J.i 2).toNat (J.i 3).toNat,.int .i64 (J.i 4),.agg ((aj 5 fI).map (CV.ev J)).toArray]=_;rw[v0,v1,v2,v3,v4,aG,aac,aac]
 refine aD.read [] [] [BM] ?_;have ak:Value.slice (au (J.i 133) (J.i 134)) (J.i 135).toNat (J.i 136).toNat=row.getD 125 ou:=by rw[<-aG,EI]
 have L:0<=J.i 134/\0<=J.i 135:=by
  obtain⟨_,h⟩:=xn (a:=bJ) (b:=[Ck.sl]) I;exact⟨h.1.2.1,h.1.2.2.1⟩
 have al:rows.length=hs.length:=by have:=hA.1;rwa[aca]at this
 have V:∀ q:Env,ai 143 J q->(q.i 0=x/\q.i 1=y/\q.i 2=rows.length/\q.i 4=w)/\(q.h 140=R/\q.h 141=T/\q.h 142=RG)/\(aj 5 fI).map (CV.ev q)=row/\(q.i 133=J.i 133/\q.i 134=J.i 134/\q.i 135=J.i 135)/\Value.slice (au (q.i 0) (q.i 1)) (q.i 2).toNat (q.i 3).toNat=.slice (au x y) rows.length c:=fun q g=>by
  refine⟨⟨by rw[g.i 0,v0],by rw[g.i 1,v1],by rw[g.i 2,v2],by rw[g.i 4,v4]⟩,⟨by rw[g.h 140,w4],by rw[g.h 141,w5],by rw[g.h 142,w6]⟩,?_,⟨g.i 133,g.i 134,g.i 135⟩,?_⟩
  .rw[<-aG];exact ach Array.toList (Value.agg.inj (fQ (ks:=fI) (n:=5) g az))
  .rw[g.i 0,g.i 1,g.i 2,g.i 3,v0,v1,v2,v3,aac,aac]
 have f:=ES rows.length hx.byte;have fin:∀ (U:Hl),R.le U->T.le U->∀ (q:Env) (ce:E),ai 143 J q->q.i 147=rows.length->(aj 151 (List.replicate 32 (Ck.int .u8))).map (CV.ev q)=aS (jP hs)->(aj 184 (List.replicate 32 (Ck.int .u8))).map (CV.ev q)=aS (jq (jY rows.length p.b))->0<=q.i 183->jY rows.length p.b=List.replicate 80 (aw q ce) ->
  postOf xu [.slice (au x y) rows.length c,.int .i64 w,.agg row.toArray] [] [R,T,RG] q [.ro 140 [.var 0] false,.ro 141 [.var 58] true,.ro 142 [.lit 0] false,.dead,.dead,.hp 145 [] [.var 145] [],.dead,.dead,.bc 183 (List.replicate 80 (CV.int .u8 ce)) 5] (.sv (.agg BM)):=by
  intro U l o q ce g h7 ht an D A _;obtain⟨⟨_,_,_,k4⟩,_,kr,_⟩:=V q g;have er:=Yz hw hlen k4 h7 ht an;rw[kr]at er;have B:=RM hx.hd (w:=w) (n:=rows.length) (qE:=jP hs) (sum:=jq (jY rows.length p.b)) hw hlen (sd hs) (gU _) (OE hs) (Dw _);have X:(jZ (row.take 125) w rows.length (jP hs) (jq (jY rows.length p.b))).length=125:=fV B.ok;have hok:aR (BM.map (CV.ev q)) (X9.map gY):=by
   rw[er];have e:X9.map gY=dz++[Kd.slice]:=rfl;rw[e];exact pf B.ok rfl
  obtain⟨Y,_,ao,M⟩:=cE X9 0 _ (ba fun _=>0) hok;have hF:uY q [.ro 140 [.var 0] false,.ro 141 [.var 58] true,.ro 142 [.lit 0] false,.dead,.dead,.hp 145 [] [.var 145] [],.dead,.dead,.bc 183 (List.replicate 80 (CV.int .u8 ce)) 5] [8]=Hl.one (q.i 183).toNat (.cells (List.replicate 80 (.int .u8 (aw q ce))).toArray 5 (0,0)):=by
   show bY [Hl.one (q.i 183).toNat (.cells ((List.replicate 80 (CV.int .u8 ce)).map (CV.ev q)).toArray 5 (0,0))]=_;rw[aJ,afN];rfl
  refine⟨[],[8],rfl,rfl,⟨Y,by show Value.agg _=Value.agg _;rw[<-M],?_,zzT⟩,BM.map (CV.ev q),rfl,fun v' w' row' R' T' aN aq hs' p' e1 e2 av ax ay=>?_⟩
  .obtain⟨m1,m2⟩:=xn (a:=Lg) (b:=[Ck.sl]) ao;refine vY (C7 rfl m1) ⟨?_,zzT⟩;have m2:=m2.1;have t:(CV.sl (.var (0+aQ Lg)) (.var (0+aQ Lg+1)) (.var (0+aQ Lg+2)) (.var (0+aQ Lg+3))).ev Y=.slice (au (q.i 183) 0) 80 80:=by
    have e:aj 0 X9=aj 0 Lg++[CV.sl (.var (0+aQ Lg)) (.var (0+aQ Lg+1)) (.var (0+aQ Lg+2)) (.var (0+aQ Lg+3))]:=rfl;rw[e,acm,er]at M;have:=(agF M rfl).2;simpa using this
   simp only[CV.ev,ar,Value.slice.injEq]at t;obtain⟨s1,_⟩:=mZ D (aba 0) m2.2.1 t.1;exact⟨ah,m2.2.1,m2.2.2.1,m2.2.2.2⟩
  .simp only[aae,abw,Value.int.injEq,acu,Value.agg.injEq]at e1 e2;obtain⟨rfl,rfl,e1⟩:=e1;obtain⟨rfl,rfl,rfl⟩:=e2;have e1:=ab1 e1;subst e1;obtain rfl:=hR.uniq av;obtain rfl:=(hA.2 U l o).uniq (ax.2 U l o);obtain rfl:=hx.uniq ay;show cH T (uY q _ [8]) _ _;rw[hF,er];unfold ET;rw[<-al];refine⟨pf B.ok rfl,?_,?_,f.2,by show(jY _ _).length<=_;rw[f.1];decide⟩
   .rw[afU X];exact B
   .have e:(jZ (row.take 125) w rows.length (jP hs) (jq (jY rows.length p.b))++[Value.slice (au (q.i 183) 0) 80 80]).getD 125 ou=.slice (au (q.i 183) 0) 80 80:=by
     rw[abv,abO ah,X];rfl
    rw[e];show fE _ _ (jY rows.length p.b);rw[A];refine⟨q.i 183,0,80,by rw[acz],aba _,Or.inr ⟨D,fun j z hz=>?_⟩⟩;obtain⟨Z,hz⟩:=aaG.1 hz;rw[acz]at Z;rw[agH]at hz;subst hz;unfold Hl.cell;rw[Hl.aK];simp only[aec,af7,aco];rw[aem,ab9 Z]
 simp only[go_sem,Nat.reduceAdd,riΓ,aet,aeu,aev,Om];intro q1 g1 _ q2 g2 _;have G2:ai 143 J q2:=g1.tr g2;obtain⟨⟨k0,k1,k2,k4⟩,⟨h0,h1,h2⟩,kr,kb,aA⟩:=V q2 G2;rw[aA,h0];refine⟨⟨_,R,rows,rfl,rfl,hR,hlen⟩,fun q3 g3 ⟨F3,aB,aE,aF⟩ q4 g4 _ q5 g5 _=>?_⟩;have hH:=aB _ _ _ rfl rfl hR;rw[<-aE zzT]at hH;have n3:0<=q3.i 147:=aF.1.2.2.1;have aa:q3.i 147=rows.length:=by
  obtain⟨x',y',c',e,_⟩:=id hH;simp only[Value.slice.injEq,aca]at e;omega
 have N:ai 149 q3 q5:=g4.tr g5;have G5:ai 143 J q5:=G2.trans (g3.mono.tr N);obtain⟨⟨m0,m1,m2,m4⟩,⟨o0,o1,o2⟩,mr,mb,aO⟩:=V q5 G5;rw[N.i 145,N.i 146,N.i 147,N.i 148,N.h 145,o0,o1,o2];refine⟨n3,fun U u=>⟨_,U,U,U,_,hs,rfl,rfl,gb hH (u _ aC),hA.2 U (u R aC) (u T aC),by rw[aca];exact hlen,hK.mono (u RG aC)⟩,fun G g6 ⟨F6,⟨U,u,O⟩,_⟩=>?_⟩;have l:=u R aC;have o:=u T aC;have O:=ab1 (Value.agg.inj (O _ U U U _ _ rfl rfl (gb hH (u _ aC)) (hA.2 U l o)));have fin:=fin U l o;have G6:ai 143 J G:=G5.tr g6;have P:G.i 147=rows.length:=by rw[g6.i 147,N.i 147,aa]
 obtain⟨⟨r0,r1,r2,r4⟩,⟨u0,u1,u2⟩,rr,⟨b3,b4,b5⟩,_⟩:=V G G6;have aH:=u1;have ww:IntKind.i64.wrap (w-1)=w-1:=by rw[IntKind.wrap_i64];omega
 rw[r4,r2,ww,b3,b4,b5,u1];have ab:=hx.body;rw[<-ak]at ab;obtain⟨x',y',c',e,aI,ad⟩:=id ab;simp only[Value.slice.injEq]at e;have tail:∀ (ce:E),jY rows.length p.b=List.replicate 80 (aw G ce)->(∀ q,ai 183 G q->aw q ce=aw G ce)->∀ q7,ai 183 G q7->0<=q7.i 183->kV.pre [Value.slice (au (q7.i 183) 0) (Int.toNat 80) (Int.toNat 80)] [] [Hl.one (q7.i 183).toNat (.cells ((List.replicate 80 (CV.int .u8 ce)).map (CV.ev q7)).toArray 5 (0,0)),q7.h 142] /\
  ∀ C,ai 184 q7 C->(∃ F,kV.post [Value.slice (au (q7.i 183) 0) (Int.toNat 80) (Int.toNat 80)] [] [Hl.one (q7.i 183).toNat (.cells ((List.replicate 80 (CV.int .u8 ce)).map (CV.ev q7)).toArray 5 (0,0)),q7.h 142] (.agg ((aj 184 (List.replicate 32 (Ck.int .u8))).map (CV.ev C)).toArray) [] F/\(aL 0 [Cp.agg (List.replicate 32 (Ck.int .u8))]≠[]->C.h 184=F)/\bR 184 [Cp.agg (List.replicate 32 (Ck.int .u8))] C) ->
  postOf xu [.slice (au x y) rows.length c,.int .i64 w,.agg row.toArray] [] [R,T,RG] C [.ro 140 [.var 0] false,.ro 141 [.var 58] true,.ro 142 [.lit 0] false,.dead,.dead,.hp 145 [] [.var 145] [],.dead,.dead,.bc 183 (List.replicate 80 (CV.int .u8 ce)) 5] (.sv (.agg BM)):=by
  intro ce A ae q7 Q p7;have af:fE (Hl.one (q7.i 183).toNat (.cells ((List.replicate 80 (CV.int .u8 ce)).map (CV.ev q7)).toArray 5 (0,0))) (.slice (au (q7.i 183) 0) (Int.toNat 80) (Int.toNat 80)) (jY rows.length p.b):=by
   refine⟨q7.i 183,0,80,by rw[f.1];rfl,aba _,Or.inr ⟨p7,fun j z hz=>?_⟩⟩;rw[A]at hz;obtain⟨Z,hz⟩:=aaG.1 hz;rw[acz]at Z;rw[agH]at hz;unfold Hl.cell;rw[Hl.aK,afN];simp only[aec,af7,aco];rw[aem,ab9 Z];show some (Value.int .u8 (aw q7 ce))=_;rw[ae q7 Q,hz]
  rw[show q7.h 142=RG by rw[Q.h 142,u2]];refine⟨⟨_,_,_,RG,rfl,rfl,af,f.2,by rw[f.1];decide,hK⟩,fun C g8 ⟨F8,S,_⟩=>?_⟩;have S:=ab1 (Value.agg.inj (S _ _ _ _ rfl rfl af));have A8:ai 183 G C:=Q.tr g8;refine fin C ce (G6.tr A8) (by rw[A8.i 147,P]) ?_ S (by rw[g8.i 183];exact p7) (by rw[ae C A8];exact A);rw[<-O];exact ach Array.toList (Value.agg.inj (fQ (ks:=List.replicate 32 (Ck.int .u8)) (n:=151) (m:=183) A8 az))
 have hi:0<J.i 135->∃ z r,p.b=z::r/\0<=J.i 133/\T.cell (J.i 133).toNat (J.i 134).toNat=some (.int .u8 z):=fun hp=>by
  cases hb:p.b with
  | nil=>rw[hb]at e;simp at e;omega
  | cons z r =>
   rw[hb]at ad;rcases ad with h | ⟨W,hc⟩
   .cases h
   obtain⟨s1,s2⟩:=mZ W aI L.1 e.1;exact⟨z,r,rfl,ah,by rw[s1,s2];exact hc 0 z rfl⟩
 have aM:¬0<J.i 135->p.b=[]:=fun hn=>aa1.1 ah;have H:((0:Int)<=80/\((1:Nat):Int)*80<=281474976710656/\(80:Int)<=9223372036854775807):=by decide
 refine⟨ah,ah,⟨ah,ah⟩,ah,L.2,fun hp=>?_,fun hn=>⟨H,fun q7 Q ⟨p7,_⟩=>tail _ ?_ (fun q g=>?_) q7 Q p7⟩⟩
 .obtain⟨z,r,hz,W,hc⟩:=hi hp;refine⟨W,L.1,by rw[hc];rfl,H,fun q7 Q ⟨p7,_⟩=>tail _ ?_ (fun q g=>?_) q7 Q p7⟩
  .rw[fi,ar,ar,b3,b4,aH,hz,acJ,hc];rfl
  .rw[fi,fi,ar,ar,ar,ar,g.i 133,g.i 134,g.h 141]
 .rw[bL,ar,r2,aM hn];rfl
 .rw[bL,bL,ar,ar,g.i 2]
open Go.Proofs.YtbdikjnpbnobcaaGreatDoor.D hiding aM aA fe
end Go.Proofs.YtbdikjnpbnobcaaGreatDoor
namespace Go.Proofs.YtbdikjnpbnobcaaGreatDoor
open Go Go.Sx Go.Pk
def Fu (row:List Value) (k:Nat):Nat:=match row[k]? with
 | some (.slice _ l _)=>l
 | _=>0
def xd:Sx.Spec where
 fn:=21
 own:=[]
 rd:=[0]
 res:=[.one .bool]
 pre:=fun xs Hs Rs=>∃ u n R rows,xs=[u,.int .i64 n]/\Rs=[R]/\bd R u oj rows/\n<=100
 post:=fun xs Hs Rs v Hs' F=>∀ u n R rows,xs=[u,.int .i64 n]->Rs=[R]->bd R u oj rows->∃ z,v=.bool z/\(z=true->(rows.length:Int)<=n/\∀ row∈rows,Fu row 53<=20/\Fu row 125<=2100)
noncomputable def Xn:aD Tryz.prog [] 21 where
 Λ:=fun p=>if lp p then some ⟨0,[(5,TI .i64 (.var 50))],[],60⟩else none
 args:=[.sv (.one (.sl (.var 0) (.var 1) (.var 2) (.var 3))),.sv (.one (.int .i64 (.var 4)))]
 mem:=[.ro 5 [.var 0] false]
 nv:=6
def Ml {row:List Value} (h:aR row oj) {k:Nat} (hk:k=53\/k=125):∃ u,row[k]?=some u/\bh (some u) .slice=true/\bD (some u) 2=Fu row k:=by
 have hl:=fV h;rw[iO]at hl;have ot:k<row.length:=ah;refine⟨row[k],aad ot,?_⟩;have h1:bh row[k]? .slice=true:=by
  obtain⟨q,b,_,_⟩:=lY (ks:=fI) [] h;rw[b];rcases hk with rfl | rfl<;>kernel_rfl
 rw[aad ot]at h1;refine⟨h1,?_⟩;unfold Fu;rw[aad ot];cases hv:row[k]with
 | slice a l c=>simp [bD]
 | _=>rw[hv]at h1;simp [bh]at h1
def M6:xd.OK Tryz.prog:=by
 refine Spec.jN (Γ:=[]) (fun _ h=>nomatch h) rfl ?_;rintro xs Rs ⟨u,n,R,rows,rfl,rfl,s,hn⟩;obtain⟨x,y,c,rfl,hy,hr⟩:=id s;refine⟨Xn,aM [x,y,rows.length,c,n] false [Hl.none,Hl.none,Hl.none,Hl.none,Hl.none,R],fun _ q=>∃ k:Nat,q.i 50=k/\k<=rows.length/\∀ row∈rows.take k,Fu row 53<=20/\Fu row 125<=2100,fun _ q=>(rows.length-q.i 50).toNat,?_,aT rfl rfl,rfl,?_⟩
 .show [Value.slice (au x y) ((rows.length:Int)).toNat ((c:Int)).toNat,_]=_;simp only[aac];rfl
 refine aD.read [] [] [] ?_;generalize b:aM [x,y,rows.length,c,n] false [Hl.none,Hl.none,Hl.none,Hl.none,Hl.none,R]=J;have V:∀ q:Env,ai 6 J q->q.i 0=x/\q.i 1=y/\q.i 2=rows.length/\q.i 4=n/\q.h 5=R:=fun q hg=>by
  rw[hg.i 0,hg.i 1,hg.i 2,hg.i 4,hg.h 5,<-b];exact⟨rfl,rfl,rfl,rfl,rfl⟩
 clear b;have out:∀ {q:Env} {e:E} {mem:Mem},(aY q e=true->(rows.length:Int)<=n/\∀ row∈rows,Fu row 53<=20/\Fu row 125<=2100)->postOf xd [.slice (au x y) rows.length c,.int .i64 n] [] [R] q mem (.sv (.one (.bool e))):=by
  intro q e mem he;refine kU rfl fun u' n' R' j e1 t l=>?_;simp only[aae,Value.int.injEq,acu,abw]at e1 t;obtain⟨rfl,rfl⟩:=e1;subst t;obtain rfl:=s.uniq l;exact⟨_,rfl,he⟩
 have ff:∀ {q:Env} {mem:Mem},postOf xd [.slice (au x y) rows.length c,.int .i64 n] [] [R] q mem (.sv (.one (.bool .ff))):=out fun e=>by rw[du]at e;cases e
 simp only[go_sem,Nat.reduceAdd];refine⟨⟨0,rfl,acP _,fun row h=>by simp at h⟩,fun q g ⟨k,m,hk,hall⟩=>?_⟩;obtain⟨v0,v1,v2,v4,v⟩:=V q g;rw[v0,v1,v2,v,m];have fin:∀ {q':Env} {mem:Mem},q'=q->(k=rows.length\/100<=k)->postOf xd [.slice (au x y) rows.length c,.int .i64 n] [] [R] q' mem (.sv (.one (.bool (.le (.var 2) (.var 4))))):=by
  rintro q' mem rfl w;refine out fun h=>?_;rw[mA,ar,ar,v2,v4,aas]at h;have:k=rows.length:=ah;refine⟨h,fun row hr=>hall row ?_⟩;rw[this,acS];exact hr
 refine⟨ah,fun o=>⟨fun d=>?_,fun d=>fin rfl (Or.inr ah)⟩,fun z=>fin rfl (Or.inl ah)⟩;have f:rows[k]?=some rows[k]:=aad ah;rcases hr with rfl | ⟨hx,hr⟩
 .simp at o;omega
 obtain⟨hok,a⟩:=hr k _ f;rw[iO]at a;obtain⟨A,p,s1,s2⟩:=Ml hok (Or.inl rfl);obtain⟨B,r,C,D⟩:=Ml hok (Or.inr rfl);have k1:R.cell x.toNat (y+(k:Int)*126+53).toNat=some A:=by rw[show(y+(k:Int)*126+53).toNat=y.toNat+k*126+53 by omega];exact a 53 _ p
 have k2:R.cell x.toNat (y+(k:Int)*126+125).toNat=some B:=by rw[show(y+(k:Int)*126+125).toNat=y.toNat+k*126+125 by omega];exact a 125 _ r
 rw[k1,k2,s2,D];refine⟨hx,hy,ah,s1,ah,fun F=>⟨C,ah,fun _=>ff,fun hb=>⟨⟨k+1,?_,ah,fun row aG=>?_⟩,?_⟩⟩,fun _=>ff⟩
 .show IntKind.i64.wrap (q.i 50+1)=_;rw[m];exact wrap_i64 ah ah
 .rw[adB,f,afk]at aG;rcases acg.1 aG with h | h
  .exact hall row h
  .rw[aaQ]at h;subst h;exact⟨ah,ah⟩
 .show((rows.length:Int)-IntKind.i64.wrap (q.i 50+1)).toNat<_;rw[m,wrap_i64 ah ah];omega
open Go.Proofs.YtbdikjnpbnobcaaGreatDoor.D hiding aM aA fe
variable {H R R1 R2 RA:Hl}{a y z:Int}{row row':List Value}{i j l x:Nat}{st:Nat->List Pc}{c:Nat->Nat}{r r':Rp}
def RJ (T:Hl) (h:H x=some (.cells #[.slice none 0 0,.slice none 0 0,.slice none 0 0,.slice none 0 0,.slice none 0 0,.slice none 0 0] 61 (0,0))):oA H T x (fun _=>[]) :=
 ⟨fun _=>.slice none 0 0,Hl.none,⟨h,fun i _=>⟨[],pF.nil _ _ _,rfl,fun j row p hr=>by simp at hr⟩,fun b o hb=>(by cases hb)⟩,fun hm=>(by cases hm),fun i b _ hb=>(by cases hb),fun i _ p hp=>(by cases hp)⟩
def Qc {p:Pc} (h:Good st) (hb:al p.b/\p.b.length<=1000000):Good (fU st p):=by
 unfold fU;split
 .intro i hi q a;unfold pE at a;split at a
  .rename_i e;rcases acg.1 a with h1 | h1
   .exact h _ (e▸hi) q h1
   .rw[aaQ]at h1;rw[h1];exact hb
  .exact h i hi q a
 .exact h
def alS:Sx.Spec where
 fn:=5
 own:=[]
 rd:=[0,2000003]
 res:=[.one .bool]
 pre:=fun xs Hs Rs=>∃ (v:Value) (most:Int) (T RG:Hl) (g:Nat->Addr) (rows:List (List Value)),xs=[v,.int .u8 most]/\Rs=[T,RG]/\bd T v oj rows/\(∀ row∈rows,Fu row 53<=20->Fu row 125<=2100->∃ c,cH T T row c)/\(0<=most/\most<256)/\(Gl RG g/\yT RG 2/\RG.cell 1 0=some Ga)/\yT RG 0
 post:=fun xs Hs Rs v Hs' F=>v=.bool true
noncomputable def alΓ:List Sx.Spec:=[Wv,NH,BQ,xu,xd,Tx (HK 100),Hh 1001053,LV,LW,AD,LR,rW 99,zK,EV,EW,xP]
def Wq:∀ t∈alΓ,t.OK Tryz.prog:=ak Ta <| ak Ud <| ak Oa <| ak N6 <| ak M6 <| ak (Ty (Sa _)) <| ak (Rn _) <| ak Ro <| ak Rq <| ak AE <| ak Rl <| ak CL <| ak JZ <| ak Oe <| ak Of <| ak DH <| bu
def Zp:Wv.res=[.one .bool]:=rfl
def Zq:NH.res=[.one .ptr]:=rfl
def Zr:BQ.res=[.one .ptr,.one (.int .i64)]:=rfl
def Zs:xu.res=[.agg X9]:=rfl
def Zt:xd.res=[.one .bool]:=rfl
def Zu:(Tx (HK 100)).res=[.one (.int .i64)]:=rfl
def Zv:(Hh 1001053).res=[.one (.int .i64)]:=rfl
def Zw:LV.res=[.one .sl,.one (.int .i64)]:=rfl
def Zx:LW.res=[.agg VZ,.one (.int .i64)]:=rfl
def Zy:AD.res=[.one .bool]:=rfl
def Wk:LR.res=[.one .sl]:=rfl
def Wl (f:FuncId):(rW f).res=[.one (.int .i64)]:=rfl
def Wm:zK.res=[.agg (List.replicate 6 (Ck.int .u64))]:=rfl
def Wn:EV.res=[.one .sl,.one (.int .i64)]:=rfl
def Wo:EW.res=[.agg N7,.one (.int .i64)]:=rfl
def Wp:xP.res=[.one .bool]:=rfl
def l2p:List Nat:=[5,1,1,1,1,1,1,1,0,1,0]
def alD:List (List Nat):=[[10,1,1,0,1,0],[17,1,0,1,0],[17,1,1,1,0,1,0,1,0],[17,1,1,1,0,1,0,1,1,1,1],[51,1,1,0,1,0,0,1,1,0,0,1,1,1,0]]
noncomputable def alW:aD Tryz.prog alΓ alS.fn where
 Λ:=fun p=>if alD.any (PL p)then some ⟨0,[],[],0⟩
  else if Iv p [5,1,1,1,1,1,0,1,0]then some ⟨0,[(8,TI .i64 (.var 60))],[(2,.hp 61 [] [.var 24] []),(3,.hp 62 [] [.var 26] [.var 24]),(4,.hp 63 [] [.var 29,.lit (-7)] [])],80⟩
  else if Iv p [51,1,1,0,1,0]then some ⟨3,[(3,TI .i64 (.var 700)),(8,TI .i64 (.var 701))],[],720⟩
  else if Iv p l2p then some ⟨1,[(12,TI .i64 (.var 300))],[(5,.hp 301 [] [.var 80] [])],320⟩
  else if Iv p (l2p++[0,1,0,0,1,1,1,1,1,1,1,0])then some ⟨2,[(20,TI .i64 (.var 2000))],[(5,.hp 2001 [] [.var 80] [])],2010⟩else none
 args:=[.sv (.one (.sl (.var 0) (.var 1) (.var 2) (.var 3))),.sv (.one (.int .u8 (.var 4)))]
 mem:=[.ro 20 [.var 0] true,.ro 21 [.lit 0,.lit 1,.lit 2,.lit 3,.lit 4,.lit 5] false]
 nv:=22
def Rk:List CV:=plC (.wrap .u64 (.var 300)) (aU 301 (.var 80) (.lit 0) 0 (List.replicate 6 (Kd.int .u64))) Ue (.wrap .i64 ((E.lit 1).add (.wrap .i64 ((E.var 4).rem (.lit 8)))))
def tj (q:Env) (j:Nat):Int:=bO ((q.h 301).cell (q.i 80).toNat (0+j))
def NV (q:Env):Rk.map (CV.ev q)=kS (IntKind.u64.wrap (q.i 300)) [tj q 0,tj q 1,tj q 2,tj q 3,tj q 4,tj q 5] (.slice (au (-1) 0) 0 0) (IntKind.i64.wrap (1+IntKind.i64.wrap (Int.tmod (q.i 4) 8))):=by kernel_rfl
structure AlI (T:Hl) (dp pr:Value) (z:Nat) (HD HR HX:Hl) (k:Nat) (D:DM) (S:SM) (st:Nat->List Pc):Prop where
 dk:aE HD dp D
 ra:fm HR pr dp S st
 rf:oA HX T z st
 rs:RS D S 1000 k
 ln:∀ i,i<6->(st i).length<=k
 tl:xJ (fun i=>(st i).length)<=k
 gd:Good st
 od:Ord st
def yS (H:Hl) (a:Int) (c:Nat->Nat):Prop:=0<=a/\H a.toNat=some (.cells #[.int .u64 (c 0),.int .u64 (c 1),.int .u64 (c 2),.int .u64 (c 3),.int .u64 (c 4),.int .u64 (c 5)] 41 (0,0))
def yS.cell (h:yS H a c) (b:j<6):H.cell a.toNat j=some (.int .u64 (c j)):=by
 unfold Hl.cell;rw[h.2];have:j=0\/j=1\/j=2\/j=3\/j=4\/j=5:=ah;rcases this with rfl | rfl | rfl | rfl | rfl | rfl<;>rfl
structure AlP (HR:Hl) (pr:Value) (HC:Hl) (a:Int) (n:Nat) (st:Nat->List Pc) (c d:Nat->Nat):Prop where
 rr:nL HR pr st
 ln:∀ i,i<6->(st i).length<=20
 gd:Good st
 od:Ord st
 cm:yS HC a c
 le:∀ i,i<6->d i<=(st i).length
 rem:xJ (fun i=>(st i).length)-xJ d<=20-n
def Vv (T:Hl) (N:Nat):Nat->Env->Prop
 | 0,q=>∃ (k z:Nat) (D:DM) (S:SM) (st:Nat->List Pc),q.i 60=k/\k<=N/\q.i 29=z/\AlI T (.pointer (au (q.i 24) (q.i 25))) (.pointer (au (q.i 26) (q.i 27))) z (q.h 61) (q.h 62) (q.h 63) k D S st
 | 1,q=>∃ (n:Nat) (st:Nat->List Pc) (c:Nat->Nat),q.i 300=n/\n<=25/\AlP (q.h 62) (.pointer (au (q.i 26) (q.i 27))) (q.h 301) (q.i 80) n st c c
 | 2,q=>∃ (n j:Nat) (L:List Pc) (st:Nat->List Pc) (c d:Nat->Nat),q.i 300=n/\q.i 2000=j/\j<=L.length/\js (q.h 731) (q.h 731) (.slice (au (q.i 740) (q.i 741)) (q.i 742).toNat (q.i 743).toNat) L/\fD st c (L.drop j) d/\(∀ i,i<6->c i<=(st i).length)/\AlP (q.h 62) (.pointer (au (q.i 26) (q.i 27))) (q.h 2001) (q.i 80) (n+1) st c d
 | _,q=>∃ (k:Nat) (L:List Pc),q.i 701=k/\k<=L.length/\js (q.h 480) (q.h 480) (.slice (au (q.i 480) (q.i 481)) (q.i 482).toNat (q.i 483).toNat) L/\q.i 700=yW (L.take k)
def Wi (N:Nat):Nat->Env->Nat
 | 0,q=>(N-q.i 60).toNat
 | 1,q=>(25-q.i 300).toNat
 | 2,q=>(q.i 742-q.i 2000).toNat
 | _,q=>(q.i 482-q.i 701).toNat
def Zz {id x:Int} {c:Nat} {L:List Pc} (h0:0<=id/\id<18446744073709551616) (hs:∀ i,i<6->(st i).length<=20) (hr:js R R (.slice (au x y) l c) L) (hl:L.length<=8) (hg:∀ c∈L,c.Good) (hn:yW L<=14500):∃ r:Rp,iR R R ([.int .u64 id,.int .i64 2,.int .i64 0]++qR st++[.slice (au x y) l c]) r/\r.p=L/\r.Form:=by
 have s0:=hs 0 ah;have s1:=hs 1 ah;have s2:=hs 2 ah;have a:=hs 3 ah;have b:=hs 4 ah;have d:=hs 5 ah;refine⟨⟨_,L⟩,⟨⟨rfl,rfl,rfl,rfl,rfl,rfl,rfl,rfl,rfl,rfl,zzT⟩,?_,rfl,hr⟩,rfl,?_⟩
 .intro v hv;simp only[qR,afg,adk,aaW,abd,acs]at hv;rcases hv with rfl | rfl | rfl | rfl | rfl | rfl | rfl | rfl | rfl | rfl<;>simp only[uJ,lN]<;>omega
 .refine⟨⟨by show(1:Int)<=2;omega,by show(2:Int)<=3;omega⟩,⟨by show(0:Int)<=0;omega,by show(0:Int)<=14;omega⟩,?_,hl,hg,hn⟩;show((st 0).length:Int)<=1048576/\((st 1).length:Int)<=1048576/\((st 2).length:Int)<=1048576/\((st 3).length:Int)<=1048576/\((st 4).length:Int)<=1048576/\((st 5).length:Int)<=1048576;omega
def S7 {R' a:Hl} (hx:iR R RA row r) (hf:r.Form) (b:iR R' a row' r') (d:r'.Form) (h:de (iW r)=de (iW r')):(cI r'.c 0=cI r.c 0/\cI r'.c 1=cI r.c 1/\cI r'.c 2=cI r.c 2/\aW r'.c 3 6=aW r.c 3 6)/\r'.p=r.p:=by
 have e:=Un h;obtain⟨a0,a1,a2,a3,a4,a5,l,m⟩:=JX hx hf;obtain⟨b0,b1,b2,g,i,k,b6,b7⟩:=JX b d;rw[<-e]at b0 b1 b2 g i k;have hs:(⟨sO r.p,false⟩:PS)=⟨sO r'.p,false⟩:=a5.symm.trans k;refine⟨⟨b0.symm.trans a0,b1.symm.trans a1,b2.symm.trans a2,g.symm.trans a3⟩,?_⟩;refine lJ.same (s:=⟨sO r.p,false⟩) l rfl m b7 (fun j c f=>?_) (i.symm.trans a4);have n:=(aaG.1 f).1;obtain⟨v1,v2⟩:=(LO r'.p b6 j ah).2 c f;rw[hs];exact⟨Or.inl ⟨(b6 c (acU.2 ⟨j,f⟩)).1.1,v1.symm⟩,v2.symm⟩
def KI {b:List Int} (h:al b):al (aB b):=db (gH _) h
def ZF {c:Pc} (hx:cH R1 R2 row c):al (Iw c):=by
 unfold Iw bf;refine db (KI ?_) (KI hx.byte);split
 .exact ZE hx.hd
 .exact fun z hz=>by cases hz
def ade (hx:iR R RA row r):al (de (iW r)):=by
 obtain⟨rows,_,hl,hp⟩:=hx.ps;unfold de iW SX;refine db (db (db (db (db (db (db (gH _) (gH _)) (gH _)) (Pa _)) (gH _)) (O8 fun t b=>?_)) fun z hz=>?_) fun z hz=>?_
 .obtain⟨c,d,rfl⟩:=acw.1 b;obtain⟨j,a⟩:=acU.1 d;have e:=(aaG.1 a).1;exact ZF (hp j _ c (aad ah) a)
 .simp at hz;omega
 .have:=af1 hz;omega
def yS.wr (h:yS H a c) (hi:i<6):H.wr a.toNat i 1=true:=jM (l:=[_,_,_,_,_,_]) h.2 (by show i+1<=6;omega)
def yS.put (h:yS H a c) (hi:i<6) (hz:z=((c i+1:Nat):Int)):yS (H.put a.toNat i [.int .u64 z]) a (pE c i (c i+1)):=by
 subst hz;refine⟨h.1,?_⟩;rw[Hl.rH h.2];have:i=0\/i=1\/i=2\/i=3\/i=4\/i=5:=ah;rcases this with rfl | rfl | rfl | rfl | rfl | rfl<;>rfl
set_option maxRecDepth 20000 in
def Wj:alS.OK Tryz.prog:=by
 refine Spec.jN (Γ:=alΓ) Wq rfl ?_;rintro xs Rs ⟨v,most,T,RG,g,rows,rfl,rfl,hR,hP,bG,hG,hK⟩;obtain⟨x,y,c,rfl,hy,bH⟩:=id hR;refine⟨alW,aM [x,y,rows.length,c,most] false (List.replicate 20 Hl.none++[T,RG]),Vv T rows.length,Wi rows.length,?_,aT rfl rfl,rfl,?_⟩
 .show [Value.slice (au x y) ((rows.length:Int)).toNat ((c:Int)).toNat,Value.int .u8 most]=_;simp only[aac]
 refine aD.read [VZ,fI,N7] [oj] [Rk] ?_;generalize cb:aM [x,y,rows.length,c,most] false (List.replicate 20 Hl.none++[T,RG])=J;have V:∀ q:Env,ai 22 J q->(q.i 0=x/\q.i 1=y/\q.i 2=rows.length/\q.i 3=c/\q.i 4=most)/\q.h 20=T/\q.h 21=RG:=fun q g=>by
  rw[g.i 0,g.i 1,g.i 2,g.i 3,g.i 4,g.h 20,g.h 21,<-cb];exact⟨⟨rfl,rfl,rfl,rfl,rfl⟩,rfl,rfl⟩
 clear cb;simp only[go_sem,Nat.reduceAdd,alΓ,Zp,Zq,Zr,Zs,Zt,Zu,Zv,Zw,Zx,Zy,Wk,Wl,Wm,Wn,Wo,Wp,Om,YJ];have out:∀ {q:Env} {mem:Mem} {e:E},aY q e=true->postOf alS [.slice (au x y) rows.length c,.int .u8 most] [] [T,RG] q mem (.sv (.one (.bool e))):=fun h=>kU rfl (by show Value.bool _=_;rw[h]);refine⟨rfl,fun q1 g1 ⟨_,p1,_,_⟩=>⟨fun _=>?_,fun h=>absurd (Value.bool.inj p1) h⟩⟩;obtain⟨⟨v0,v1,v2,v3,v4⟩,aC,bk⟩:=V q1 g1;rw[v0,v1,v2,v3,aC,aac,aac];refine⟨⟨_,20,T,rows,rfl,rfl,hR,az⟩,fun q2 g2 ⟨_,p2,_,_⟩=>?_⟩;obtain⟨zz,hz,dt⟩:=p2 _ _ _ _ rfl rfl hR;have hz:q2.b 23=zz:=Value.bool.inj hz;have G2:ai 22 J q2:=g1.tr g2;refine⟨fun _=>⟨rfl,fun q3 _ ⟨_,p3,_,_⟩=>out (Value.bool.inj p3)⟩,fun cd=>?_⟩;rw[hz]at cd;obtain⟨eU,aI⟩:=dt cd;obtain⟨bq,aJ,cf,br,bs⟩:=RS.new (m:=2000) ah;have bt:∀ {v:Value} {F:Hl},NH.post [.int .i64 2000] [] [] v [] F->aE F v (gS ((2000:Nat):Int)):=fun {v F} h=>Wr (m:=2000) h;generalize gS ((2000:Nat):Int)=D0 at bq aJ cf br bs bt;refine⟨⟨2000,rfl⟩,fun q3 g3 ⟨F3,p3,du,_⟩=>?_⟩;have bI:=bt p3;rw[<-du zzT]at bI;have G3:ai 22 J q3:=G2.tr g3;refine⟨⟨_,_,D0,rfl,rfl,bI,br,bs,cf,aJ⟩,fun q4 g4 ⟨F4,p4,dv,n4⟩=>?_⟩;obtain⟨dw,pv,cg,ch⟩:=O3 bI p4;rw[<-dv (by simp [aL,Cp.roots,Ck.root])]at ch;simp only[Value.tuple.injEq,acp,aae,Value.int.injEq,acu,abw]at cg;obtain⟨rfl,dx⟩:=cg;refine⟨fun h=>absurd dx h,fun _ q5 g5 n5 q6 g6 dy=>?_⟩;have ab:ai 29 q4 q6:=g5.tr g6;have G6:ai 22 J q6:=G3.trans (g4.mono.tr ab);have fg:q6.i 29=q5.i 29:=g6.i 29;refine⟨⟨0,(q5.i 29).toNat,D0,jI D0,fun _=>[],rfl,acP _,by show q6.i 29=_;omega,?_,?_,?_,bq,fun i _=>ab8 _,ab8 _,fun i _ p h=>(by cases h),fun i _ j p h=>(by simp at h)⟩,fun q7 g7 ⟨k,z,D,S,st,ek,hk,ez,hI⟩=>?_⟩
 .show aE (q6.h 26) (.pointer (au (q6.i 24) (q6.i 25))) _;rw[ab.h 26,ab.i 24,ab.i 25,g4.i 24,g4.i 25];exact dw
 .show fm (q6.h 27) (.pointer (au (q6.i 26) (q6.i 27))) (.pointer (au (q6.i 24) (q6.i 25))) _ _;rw[ab.h 27,ab.i 24,ab.i 25,ab.i 26,ab.i 27,g4.i 24,g4.i 25];exact ch
 .show oA (q6.h 30) _ _ _;rw[dy];exact RJ T (Hl.aK _ _)
 have G7:ai 22 J q7:=G6.tr g7;obtain⟨⟨v0,v1,v2,v3,v4⟩,aC,bk⟩:=V q7 G7;have W:∀ q,ai 80 q7 q->(q.i 60=k/\q.i 29=z/\q.i 0=x/\q.i 1=y)/\(q.i 24=q7.i 24/\q.i 25=q7.i 25/\q.i 26=q7.i 26/\q.i 27=q7.i 27)/\q.h 20=T/\q.h 21=RG/\q.h 61=q7.h 61/\q.h 62=q7.h 62/\q.h 63=q7.h 63:=fun q g=>by
  rw[g.i 60,g.i 29,g.i 0,g.i 1,g.i 24,g.i 25,g.i 26,g.i 27,g.h 20,g.h 21,g.h 61,g.h 62,g.h 63];exact⟨⟨ek,ez,v0,v1⟩,⟨rfl,rfl,rfl,rfl⟩,aC,bk,rfl,rfl,rfl⟩
 have cj:k<=20:=ah;have hS:lL st:=fun i hi=>by have:=hI.ln i hi;omega
 rw[v0,v1,v2,aC,ek];refine⟨ah,fun ck=>?_,fun cn=>?_⟩
 .have ot:k<rows.length:=ah;have cp:rows[k]?=some rows[k]:=aad ot;have aN:rows[k]∈rows:=acK ot;obtain⟨p,hp⟩:=hP _ aN (aI _ aN).1 (aI _ aN).2;generalize rows[k]=row at cp hp;rcases bH with h0 | ⟨ad,bH⟩
  .rw[h0]at ot;simp at ot
  obtain⟨hok,ae⟩:=bH k row cp;have hc:∀ i u,row[i]?=some u->T.cell x.toNat ((y+(k:Int)*126).toNat+i)=some u:=fun i u hu=>by
   have:=ae i u hu;rw[iO]at this;rw[show(y+(k:Int)*126).toNat=y.toNat+k*126 by omega];exact this
  obtain⟨i,hi⟩:∃ i,i=k%3:=⟨_,rfl⟩;have bJ:i<6:=ah;have ew:IntKind.i64.wrap (1+aw q7 ((E.var 60).rem (E.lit 3)))=((i+1:Nat):Int):=by
   show IntKind.i64.wrap (1+Int.tmod (q7.i 60) 3)=_;rw[ek,acT ah,wrap_i64 ah ah];omega
  have e1:IntKind.i64.wrap (((i+1:Nat):Int)-1)=((i:Nat):Int):=by rw[wrap_i64 ah ah];omega
  obtain⟨sv,KB,bK⟩:=id hI.rf;obtain⟨cS,dz,cl,cs⟩:=bK.sl bJ;obtain⟨rws,ho,dA,dB⟩:=bK.row i bJ;have fh:=hI.ln i bJ;have bu:HdU (q7.h 63) T (rws.map (List.take 125)) (pD st i):=by
   have hlen:(rws.map (List.take 125)).length=(pD st i).length:=by unfold pD;rw[aca,aca,dA]
   refine⟨hlen,fun U a b=>⟨hlen,fun j r h hr hh=>?_⟩⟩;unfold pD at hh;rw[abl]at hr hh;obtain⟨r0,AO,rfl⟩:=aaH.1 hr;obtain⟨p0,bL,rfl⟩:=aaH.1 hh;exact((dB j r0 p0 AO bL).2 U b fun b' o hb=>a b' o (bK.kb b' o hb)).hd
  have dC:(q7.h 63).cell ((z:Int)).toNat ((i:Nat):Int).toNat=some (sv i):=by rw[aac,aac];exact cS
  have eR:(aU 20 (.var 0) ((E.var 1).add ((E.var 60).mul (.lit 126))) 0 oj).map (CV.ev q7)=row:=cD _ oj 0 hok fun j u hu=>by
   show(q7.h 20).cell (q7.i 0).toNat ((q7.i 1+q7.i 60*126).toNat+(0+j))=some u;rw[aC,v0,v1,ek,aco];exact hc j u hu
  rw[ew,e1,ez,dC,iH dz,eR,bk];refine⟨ah,ah,ah,cs,ad,hy,ah,jG _ hok hc,⟨sv i,((i+1:Nat):Int),row,_,T,RG,rws,pD st i,p,rfl,rfl,ho.rd,bu,ah,ah,hp,hK⟩,fun q9 g9 ⟨F9,⟨row',er,dD⟩,dE,_⟩ G ak _=>?_⟩;have hx:=dD _ _ _ _ _ _ _ _ _ rfl rfl ho.rd bu hp;have er:=ab1 (Value.agg.inj er);rw[Us]at er;rw[<-dE az]at hx;have aO:(ET (pD st i) ((i+1:Nat):Int) p).b.length=80:=acz;generalize ET (pD st i) ((i+1:Nat):Int) p=c' at hx aO;have cq:ai 80 q7 G:=g9.tr ak;have bw:∀ q,ai 212 q9 q->(aj 80 fI).map (CV.ev q)=row':=fun q g=>(ach Array.toList (Value.agg.inj (fQ (ks:=fI) (n:=80) g az))).trans er;obtain⟨_,⟨d24,d25,d26,d27⟩,d20,d21,d61,d62,d63⟩:=W G cq;rw[bw G ak,d20,d21,d61,d62,d26,d27,ak.h 80];obtain⟨t1,t2,t3⟩:=hI.rs.pre ah;refine⟨⟨_,_,_,_,T,_,RG,g,_,S,D,st,c',rfl,rfl,rfl,hI.ra,hI.dk,hx,ah,hS,hG,t1,t2,t3⟩,fun s al ⟨dF,bM,_⟩ aP aQ ⟨bx,aR⟩=>?_⟩;obtain⟨bz,cr,bl⟩:=NW (K1:=s.h 213) (K2:=s.h 214) hI.ra hI.dk hx bM;have bl:s.i 213=(fb D S st c').e:=by simpa using bl
  obtain⟨u1,u2,u3⟩:=hI.rs.push ah ah hx aO st;rw[u1]at bl;rw[u2]at bz;have dG:ai 212 q9 aP:=ak.trans (al.mono.tr aQ);have ct:ai 80 q7 s:=cq.tr al;have cv:ai 80 q7 aP:=ct.tr aQ;obtain⟨⟨_,f29,_⟩,_,f20,f21,_⟩:=W aP cv;rw[(W s ct).2.2.2.2.2.2,al.h 80,ak.h 80]at bx aR;rw[bw aP dG,bx,f20,f21,f29,show Value.pointer (au ((z:Nat):Int) 0)=.pointer (some ⟨z,0,none⟩)by rw[av ah];rfl];refine⟨⟨z,_,_,row',T,RG,st,c',rfl,rfl,rfl,aR,hI.rf,hS,fun i hi=>(by have:=hI.ln i hi;omega),hx.u,ah,hK⟩,fun A aS ⟨dH,bN,_⟩=>?_⟩;obtain⟨aF,cw,_⟩:=Og (K:=A.h 217) aR hI.rf hx.u bN;have aF:A.i 217=cx st c':=by simpa using aF
  have bP:ai 216 s A:=aQ.tr aS;rw[bP.i 213,bl,aF];have dI:ai 80 q7 A:=cv.tr aS;obtain⟨⟨dK,dL,_⟩,⟨cy,cz,dM,bQ⟩,_⟩:=W A dI;have ew:IntKind.i64.wrap (A.i 60+1)=((k+1:Nat):Int):=by rw[dK,wrap_i64 ah ah];omega
  have cA:xJ (fun i=>(fU st c' i).length)<=k+1:=by
   have:=hI.tl;exact acA (Vk st c') ah
  refine⟨fun dN=>absurd rfl dN,fun _=>⟨⟨k+1,z,(fb D S st c').D,(fb D S st c').S,fU st c',ew,ah,dL,?_⟩,?_⟩⟩
  .refine⟨?_,?_,cw,u3,fun i hi=>(by have:=Nn st c' i;have:=hI.ln i hi;omega),cA,Qc hI.gd ⟨hx.byte,ah⟩,hI.od.put aO⟩
   .show aE (A.h 214) (.pointer (au (A.i 24) (A.i 25))) _;rw[bP.h 214,cy,cz];exact cr
   .show fm (A.h 213) (.pointer (au (A.i 26) (A.i 27))) (.pointer (au (A.i 24) (A.i 25))) _ _;rw[bP.h 213,cy,cz,dM,bQ];exact bz
  .show((rows.length:Int)-IntKind.i64.wrap (A.i 60+1)).toNat<((rows.length:Int)-q7.i 60).toNat;rw[ew,ek];omega
 .intro q8 f8 dO q9 f9 dP;have bR:ai 80 q7 q9:=f8.tr f9;refine⟨⟨0,st,fun _=>0,rfl,ah,⟨?_,fun i hi=>acA (hI.ln i hi) cj,hI.gd,hI.od,?_,fun i _=>acP _,?_⟩⟩,fun G ak ⟨n,st',X,en,hn,hA⟩=>?_⟩
  .show nL (q9.h 62) (.pointer (au (q9.i 26) (q9.i 27))) st;obtain⟨_,⟨_,_,dQ,dR⟩,_,_,_,dS,_⟩:=W q9 bR;rw[dQ,dR,dS];exact hI.ra.rd
  .show yS (q9.h 81) (q9.i 80) _;rw[f9.i 80,dP];exact⟨dO,Hl.aK _ _⟩
  .have:=hI.tl;show xJ _-xJ (fun _=>0)<=20-0;omega
  have dT:ai 22 J G:=G7.trans (bR.mono.tr ak);have cC:0<=G.i 27:=by
   rw[ak.i 27,bR.i 27,g7.i 27,ab.i 27];exact n4.1.2
  have W2:∀ q,ai 320 G q->(q.i 300=n/\q.i 80=G.i 80/\q.i 26=G.i 26/\q.i 27=G.i 27/\q.i 4=most)/\q.h 20=T/\q.h 21=RG/\q.h 62=G.h 62/\q.h 301=G.h 301:=fun q g=>by
   obtain⟨⟨_,_,_,_,k4⟩,dU,dV⟩:=V q (dT.tr g);rw[g.i 300,g.i 80,g.i 26,g.i 27,g.h 62,g.h 301];exact⟨⟨en,rfl,rfl,rfl,k4⟩,dU,dV,rfl,rfl⟩
  have hC:∀ {j:Nat},j<6->(G.h 301).cell (G.i 80).toNat j=some (.int .u64 (X j)):=fun hj=>hA.cm.cell hj;have aV:lL st':=fun i hi=>by have:=hA.ln i hi;omega
  rw[en,hC (j:=Int.toNat 0) ah,hC (j:=Int.toNat 0+1) ah,hC (j:=Int.toNat 0+2) ah,hC (j:=Int.toNat 0+3) ah,hC (j:=Int.toNat 0+4) ah,hC (j:=Int.toNat 0+5) ah];refine⟨fun cE=>⟨hA.cm.1,rfl,rfl,rfl,rfl,rfl,rfl,fun s al _=>?_⟩,fun cE=>?_⟩
  .obtain⟨⟨cF,bS,fi,fj,w4⟩,aC,bk,fk,aX⟩:=W2 s al;have cc:∀ j,j<6->tj s j=X j:=fun j hj=>by
    unfold tj;rw[aX,bS,aco,hC hj];rfl
   have aZ:IntKind.u64.wrap (s.i 300)=n:=by rw[cF];exact wrap_u64 ah ah
   have eM:IntKind.i64.wrap (1+IntKind.i64.wrap (Int.tmod (s.i 4) 8))=1+most%8:=by
    rw[w4,acT bG.1,wrap_i64 (n:=most%8) ah ah,wrap_i64 ah ah]
   have an:∀ j,j<6->X j<=20:=fun j hj=>acA (hA.le j hj) (hA.ln j hj);have hok:Iy [(X 0:Int),X 1,X 2,X 3,X 4,X 5] (1+most%8):=⟨fun v hv=>by
    have a0:=an 0 ah;have a1:=an 1 ah;have a2:=an 2 ah;have a3:=an 3 ah;have a4:=an 4 ah;have a5:=an 5 ah;simp only[aaW,abd,acs]at hv;rcases hv with rfl | rfl | rfl | rfl | rfl | rfl<;>omega,ah,ah⟩
   have hid:0<=(n:Int)/\(n:Int)<18446744073709551616:=ah;rw[NV,aZ,cc 0 ah,cc 1 ah,cc 2 ah,cc 3 ah,cc 4 ah,cc 5 ah,eM];refine⟨⟨_,_,_,_,_,_,_,_,_,_,_,rfl,hok,hid⟩,fun aP aQ ⟨fl,dW,cG,fo⟩=>?_⟩;obtain⟨w,hw,hO⟩:=dW;have hO:=hO _ _ _ _ _ _ _ _ _ rfl;obtain⟨rfl,aA⟩:=Fc hw;simp only[Value.int.injEq,acu]at aA;rw[<-cG (by simp [aL,Cp.roots,Ck.root])]at hO;refine⟨⟨_,_,_,_,_,_,_,_,_,_,rfl,rfl,hO.rd.w,hok,hid⟩,fun A aS ⟨dH,bN,eV,fp⟩ fq cH _=>?_⟩;have aF:=bN _ _ _ rfl rfl hO.rd.w;rw[Rf hid rfl hok]at aF;obtain⟨cJ,a6⟩:=O4 aF;have a6:A.i 474=0:=a6;refine⟨fun h=>h ((cH.i 474).trans a6),fun _ fr dX _ dY dZ _=>?_⟩;have R6:∀ {q:Env},ai 475 A q->(aj 326 VZ).map (CV.ev q)=kS n [(X 0:Int),X 1,X 2,X 3,X 4,X 5] (.slice (au (-1) 0) 0 0) (1+most%8)/\q.i 325=0:=fun g=>⟨(my g (a:=326) (ks:=VZ) az).trans cJ,by rw[g.i 325,aS.i 325];exact aA⟩;have a7:ai 475 A dY:=cH.trans (dX.mono.tr dZ);rw[(R6 a7).1];refine⟨⟨_,_,_,_,_,_,_,_,_,_,_,rfl,hok⟩,fun fs ea ⟨_,JK,_,_⟩=>⟨fun h=>absurd (Value.bool.inj JK) h,fun _ t eb _=>?_⟩⟩;have a8:ai 475 A t:=a7.trans (ea.mono.tr eb);obtain⟨er,aA⟩:=R6 a8;have bA:t.i 327=2:=agV zzK ((ach (cI · 1) er).trans zzK);refine⟨fun h=>ah,fun _=>⟨fun _=>?_,fun h=>absurd bA h⟩⟩;have bT:ai 320 s t:=aQ.mono.trans (aS.mono.tr a8);have a9:ai 320 G t:=al.trans bT;obtain⟨⟨eW,ft,ed,ee,x4⟩,fu,fw,eg,eX⟩:=W2 t a9;have cK:∀ i,i<6->t.i (460+i)=X i:=by
    have e:[t.i 460,t.i 461,t.i 462,t.i 463,t.i 464,t.i 465]=[(X 0:Int),X 1,X 2,X 3,X 4,X 5]:=agV zzK ((ach (aW · 128 6) er).trans zzK);simp only[aae,abw]at e;obtain⟨e0,e1,e2,e3,e4,e5⟩:=e;intro i hi;have:i=0\/i=1\/i=2\/i=3\/i=4\/i=5:=ah;rcases this with rfl | rfl | rfl | rfl | rfl | rfl<;>assumption
   have cL:t.b 466=true:=agV zzK ((ach (cB · 134) er).trans zzK);have cM:t.i 326=n:=agV zzK ((ach (cI · 0) er).trans zzK);have cN:t.i 471=1+most%8:=agV zzK ((ach (cI · 136) er).trans zzK);have ec:Value.agg (List.map (CV.ev t) (aj 460 (List.replicate 6 (Ck.int .u64)))).toArray=KU (fun i:Nat=>t.i (460+i)):=rfl;have bB:∀ i,i<6->(st' i).length<=400:=fun i hi=>by have:=hA.ln i hi;omega
   have eh:∀ i,i<6->0<=(fun i:Nat=>t.i (460+i)) i/\(fun i:Nat=>t.i (460+i)) i<18446744073709551616:=fun i hi=>by
    have:=cK i hi;have:=an i hi;show 0<=t.i (460+i)/\t.i (460+i)<18446744073709551616;omega
   have bU:∀ i,i<6->iS (fun i:Nat=>t.i (460+i)) i=X i:=fun i hi=>by
    have e:=cK i hi;have:=an i hi;unfold iS;simp only[];rw[e];omega
   rw[ec,ed,ee,eg,cN,show aY t (.bvar 466)=true from cL];refine⟨⟨_,_,st',_,_,_,_,_,_,rfl,rfl,hA.rr,aV,hA.gd,bB,eh⟩,fun B cO ⟨fx,ej,cP,ba⟩=>?_⟩;have aG:=ej _ _ _ _ _ _ rfl rfl hA.rr;rw[<-cP zzT]at aG;unfold mz at aG;obtain⟨d,hd,cQ,cR⟩:=NJ (st:=st') (cur:=iS (fun i:Nat=>t.i (460+i))) (min (1+most%8) 8).toNat 401 (fun j hj=>by rw[bU j hj];exact hA.le j hj) (fun j hj=>acA (bB j hj) ah);have hd:=fD.congr bU (fun _ _=>rfl) hd;have cT:((dJ st' (iS (fun i:Nat=>t.i (460+i))) 401).take (min (1+most%8) 8).toNat).length<=8:=by rw[ace];omega
   rw[Kw bU]at cR;generalize (dJ st' (iS (fun i:Nat=>t.i (460+i))) 401).take (min (1+most%8) 8).toNat=L at aG hd cT;have ba:-1<=B.i 480/\0<=B.i 481/\0<=B.i 482/\0<=B.i 483:=ba.1;obtain⟨fy,cU⟩:=aG.at ba.2.1;have aB:B.i 482=L.length:=ah;have bV:∀ p∈L,p.h.Form/\ef p.h.c p.b=true/\p.b.length=80:=fun p hp=>by
    obtain⟨i,hi,j,hj⟩:=hd.mem p hp;obtain⟨o1,_,_,o4,o5⟩:=hA.od i hi j p hj;exact⟨o1,o4,o5⟩
   have cV:∀ p∈L,0<=EG p/\EG p<=1012:=fun p hp=>by
    obtain⟨j,hj⟩:=acU.1 hp;obtain⟨R,eo⟩:=cU j p hj;have h1:=iZ eo.pc.hd;have h2:=(bV p hp).2.2;unfold EG;omega
   have Gs:∀ M:List Pc,(∀ p∈M,p∈L)->0<=yW M/\yW M<=1012*(M.length:Int):=fun M=>by
    induction M with
    | nil=>exact fun _=>⟨aba _,aba _⟩
    | cons a M ih =>
     intro h;have h1:=cV a (h a (acj ..));have h2:=ih fun p hp=>h p (abq _ hp);have e:yW (a::M)=EG a+yW M:=rfl;rw[e,acn];omega
   refine⟨ba.2.2.1,⟨0,L,rfl,acP _,aG,rfl⟩,fun ar H ⟨k',L',bW,fz,bb,es⟩=>?_⟩;have ep:ai 484 B ar:=H;rw[H.i 480,H.i 481,H.i 482,H.i 483,H.h 480]at bb;obtain rfl:=aG.uniq bb;rw[H.i 480,H.i 481,H.i 482,H.h 480,aB,bW];refine⟨fun ck=>?_,fun cn=>?_⟩
   .have ot:k'<L.length:=ah;have bm:L[k']?=some L[k']:=aad ot;obtain⟨R,C⟩:=cU k' _ bm;have ae:∀ i u,R[i]?=some u->(B.h 480).cell (B.i 480).toNat ((B.i 481+(k':Int)*126).toNat+i)=some u:=fun i u hu=>by
     have e:(B.i 481+(k':Int)*126).toNat=(B.i 481).toNat+k'*126:=ah;rw[e];exact C.cell i u hu
    refine⟨C.x0,ba.2.1,ah,jG _ C.pc.ok ae,fun P aH _=>?_⟩;have Y:∀ q,ai 720 ar q->(q.i 480=B.i 480/\q.i 481=B.i 481/\q.i 482=L.length/\q.i 483=B.i 483)/\q.h 480=B.h 480/\q.i 701=k'/\q.i 700=yW (L.take k'):=fun q g=>by
     rw[g.i 480,g.i 481,g.i 482,g.i 483,g.h 480,g.i 701,g.i 700,H.i 480,H.i 481,H.i 482,H.i 483,H.h 480];exact⟨⟨rfl,rfl,aB,rfl⟩,rfl,bW,es⟩
    obtain⟨⟨y0,y1,y2,y3⟩,y4,y5,y6⟩:=Y P aH;have eR:(aU 480 (.var 480) ((E.var 481).add ((E.var 701).mul (.lit 126))) 0 oj).map (CV.ev P)=R:=cD _ oj 0 C.pc.ok fun j u hu=>by
     show(P.h 480).cell (P.i 480).toNat ((P.i 481+P.i 701*126).toNat+(0+j))=some u;rw[y4,y0,y1,y5,aco];exact ae j u hu
    rw[eR,y4];refine⟨⟨_,_,_,_,rfl,rfl,C.pc⟩,fun l bn ⟨et,bX,_⟩=>?_⟩;have cW:l.i 721=EG L[k']:=by simpa using bX _ _ _ _ rfl rfl C.pc
    obtain⟨⟨b0,b1,b2,b3⟩,b4,b5,b6⟩:=Y l (aH.tr bn);have hr1:=cV _ (acK ot);have fA:=Gs (L.take k') fun p hp=>ady hp;have cA:(L.take k').length<=7:=by rw[ace];omega
    have tk:L.take (k'+1)=L.take k'++[L[k']]:=by rw[adB,bm];rfl
    have e5:IntKind.i64.wrap (l.i 700+l.i 721)=yW (L.take k')+EG L[k']:=by rw[b6,cW];exact wrap_i64 ah ah
    have e6:IntKind.i64.wrap (l.i 701+1)=((k'+1:Nat):Int):=by rw[b5,wrap_i64 ah ah];rfl
    have go:Vv T rows.length 3 (assign l [⟨700,0,.int .i64 (.wrap .i64 ((E.var 700).add (.var 721)))⟩,⟨701,0,.int .i64 (.wrap .i64 ((E.var 701).add (.lit 1)))⟩] [])/\Wi rows.length 3 (assign l [⟨700,0,.int .i64 (.wrap .i64 ((E.var 700).add (.var 721)))⟩,⟨701,0,.int .i64 (.wrap .i64 ((E.var 701).add (.lit 1)))⟩] [])<Wi rows.length 3 ar:=by
     refine⟨⟨k'+1,L,e6,ah,?_,?_⟩,?_⟩
     .show js (l.h 480) (l.h 480) (.slice (au (l.i 480) (l.i 481)) (l.i 482).toNat (l.i 483).toNat) L;rw[b0,b1,b2,b3,b4,<-aB];exact aG
     .show IntKind.i64.wrap (l.i 700+l.i 721)=_;rw[e5,tk,Hg]
     .show(l.i 482-IntKind.i64.wrap (l.i 701+1)).toNat<(ar.i 482-ar.i 701).toNat;rw[e6,b2,H.i 482,aB,bW];omega
    refine⟨fun _=>⟨fun h=>by rw[e5]at h;omega,fun _=>go⟩,fun _=>go⟩
   .have bc:ai 320 G ar:=a9.trans (cO.mono.tr H);obtain⟨⟨eY,fB,eu,ey,z4⟩,fC,fE,eA,eZ⟩:=W2 ar bc;rw[eu,ey,eA];refine⟨⟨_,_,_,st',rfl,rfl,hA.rr,aV,cC⟩,fun P aH ⟨fF,eB,_,_⟩=>?_⟩;have eC:=ab1 (Value.agg.inj (eB _ _ st' rfl rfl hA.rr aV));have ax:ai 480 t P:=cO.mono.trans (H.mono.tr aH);have Z:ai 484 B P:=H.tr aH;have cX:List.map (CV.ev P) ([CV.int .u64 (.var 326),CV.int .i64 (.var 327),CV.int .i64 (.lit 0)]++aj 720 (List.replicate 6 (Ck.int .u64))++[CV.sl (.var 480) (.var 481) (.var 482) (.var 483)])=[.int .u64 n,.int .i64 2,.int .i64 0]++qR st'++[.slice (au (B.i 480) (B.i 481)) (B.i 482).toNat (B.i 483).toNat]:=by
     rw[acm,acm,eC];show [Value.int .u64 (P.i 326),.int .i64 (P.i 327),.int .i64 0]++_++[Value.slice (au (P.i 480) (P.i 481)) (P.i 482).toNat (P.i 483).toNat]=_;rw[Z.i 480,Z.i 481,Z.i 482,Z.i 483,ax.i 326,ax.i 327,cM,bA]
    have e7:=Gs L fun p hp=>hp;obtain⟨r0,ad,bL,bo⟩:=Zz (id:=n) ah hA.ln aG cT (fun c hc=>⟨(bV c hc).1,Or.inr (by have h:=(bV c hc).2.1;unfold ef at h;simp at h;exact h.1)⟩) ah;rw[cX,Z.h 480];refine⟨⟨_,_,_,r0,rfl,rfl,ad⟩,fun l bn ⟨et,bX,cY,ao⟩=>?_⟩;obtain⟨u,hu,hO⟩:=bX _ _ _ r0 rfl rfl ad;obtain rfl:=cY (by simp [aL,Cp.roots,Ck.root]);have e1:tV r0=(de (iW r0),0):=by unfold tV;rw[ab9 bo]
    rw[e1]at hu hO;have hu:=ab1 (Value.tuple.inj hu);simp only[aae,Value.int.injEq,acu,abw]at hu;obtain⟨rfl,cZ⟩:=hu;have ao:-1<=l.i 726/\0<=l.i 727/\0<=l.i 728/\0<=l.i 729:=ao.1;have hO:c9 (l.h 726) 5 (.slice (au (l.i 726) (l.i 727)) (l.i 728).toNat (l.i 729).toNat) (de (iW r0)):=hO;obtain⟨c4,_⟩:=hO.rd.at ao.1 ao.2.1 ao.2.2.1;have e8:=LH hO ao.2.2.1 ao.2.2.2;have hlen:(de (iW r0)).length<=1000000:=by
     have h1:=R4 ad bo;have h2:=LK (iW r0) ah;have h3:=FH (((iW r0).length:Int)+1);omega
    have hW:=hO.rd.w;have ev:Value.slice (au (l.i 726) (l.i 727)) (l.i 728).toNat (l.i 729).toNat=.slice (au (l.i 726) (l.i 727)) (de (iW r0)).length (l.i 729).toNat:=by rw[c4,aac]
    refine⟨⟨_,_,_,de (iW r0),_,by rw[ev],rfl,by rw[<-ev];exact hW,ao.2.1,ah,ade ad,hlen⟩,fun ay bY ⟨fG,bZ,c5,eD⟩ O aa e9=>?_⟩;have bZ:=bZ _ _ _ rfl rfl hW;obtain⟨fa,r2,e,b7,eE,c6⟩:=bZ.resolve_right fun h=>h.2 _ _ _ r0 ad bo rfl;obtain⟨c7,eF⟩:=O4 e;have c8:ay.i 744=0:=eF;obtain⟨⟨c0,c1,c2,c3⟩,da⟩:=S7 ad bo b7 eE c6.symm;rw[bL]at da;have bd:ai 320 G O:=bc.trans (aH.mono.trans (bn.mono.trans (bY.mono.tr aa)));have db:O.i 325=0:=by rw[aa.i 325,bY.i 325,bn.i 325,ax.i 325];exact aA
    have dc:O.i 730=0:=by rw[aa.i 730,bY.i 730];exact cZ
    have dd:O.i 744=0:=by rw[aa.i 744];exact c8
    have df:ay.i 731=n:=by
     have h0:cI r0.c 0=n:=by rw[ad.I az];kernel_rfl
     refine agV ?_ (c0.trans h0);rw[b7.I az,<-c7];kernel_rfl
    obtain⟨⟨bC,eG,eH,eI,y4⟩,fH,fJ,eJ,dg⟩:=W2 O bd;have eK:O.i 731=IntKind.u64.wrap (O.i 300):=by rw[aa.i 731,df,bC];exact(wrap_u64 ah ah).symm
    have bf:js (O.h 731) (O.h 731) (.slice (au (O.i 740) (O.i 741)) (O.i 742).toNat (O.i 743).toNat) L:=by
     have h:=b7.ps;rw[<-c5 az,da,<-c7]at h;rw[aa.h 731,aa.i 740,aa.i 741,aa.i 742,aa.i 743];exact h
    refine⟨fun _=>⟨fun _=>⟨fun _=>⟨fun h=>absurd eK h,fun _=>⟨⟨n,0,L,st',X,d,bC,rfl,acP _,bf,hd,hA.le,⟨?_,hA.ln,hA.gd,hA.od,?_,cQ,?_⟩⟩,fun f bg eL=>?_⟩⟩,fun h=>absurd dd h⟩,fun h=>absurd dc h⟩,fun h=>absurd db h⟩
    .show nL (O.h 62) (.pointer (au (O.i 26) (O.i 27))) st';rw[eH,eI,eJ];exact hA.rr
    .show yS (O.h 301) (O.i 80) X;rw[eG,dg];exact hA.cm
    .have fc:=hA.rem;have hm:1<=(min (1+most%8) 8).toNat:=ah;generalize (min (1+most%8) 8).toNat=m8 at cR hm;show xJ (fun i=>(st' i).length)-xJ d<=20-(n+1);omega
    .obtain⟨n',j,L',b8,c2,d2,fe,af,hj,bD,hN,bE,N⟩:=eL;have ag:ai 745 ay f:=aa.tr bg;have aq:-1<=ay.i 740/\0<=ay.i 741/\0<=ay.i 742/\0<=ay.i 743:=eD.1.2.2.2.2.2.2.2.2.2.1;rw[<-ag.i 740,<-ag.i 741,<-ag.i 742,<-ag.i 743]at aq;have aZ:n'=n:=by have:=bg.i 300;omega
     subst aZ;obtain⟨fK,dh⟩:=bD.at aq.2.1;have b9:ai 320 G f:=bd.tr bg;obtain⟨⟨bF,fL,fM,fN,u4⟩,fO,eN,fP,ff⟩:=W2 f b9;have di:∀ {i:Nat},i<6->(f.h 2001).cell (f.i 80).toNat i=some (.int .u64 (c2 i)):=fun hi=>N.cm.cell hi;refine⟨aq.2.2.1,fun ck=>?_,fun cn=>?_⟩
     .have dj:j<L'.length:=ah;have bm:L'[j]?=some L'[j]:=aad dj;rw[afC dj]at hN;obtain⟨i,hi,hp,hN⟩:=hN;obtain⟨o1,o2,o3,o4,o5⟩:=N.od i hi _ _ hp;obtain⟨R,C⟩:=dh j _ bm;have ae:∀ i u,R[i]?=some u->(f.h 731).cell (f.i 740).toNat ((f.i 741+(j:Int)*126).toNat+i)=some u:=fun i u hu=>by
       have e:(f.i 741+(j:Int)*126).toNat=(f.i 741).toNat+j*126:=ah;rw[e];exact C.cell i u hu
      have dm:∀ k,k<53->cI R k=cI L'[j].h.c k:=fun k hk=>by
       rw[C.pc.hd.I ah];unfold cI;rw[ad4 ah]
      obtain⟨w0,dn,eO⟩:=fv C.pc.ok (k:=0) rfl;obtain⟨w1,dp,eP⟩:=fv C.pc.ok (k:=1) rfl;have a0:(f.h 731).cell (f.i 740).toNat (f.i 741+(j:Int)*126).toNat=some w0:=ae 0 w0 dn;have a1:(f.h 731).cell (f.i 740).toNat (f.i 741+(j:Int)*126+1).toNat=some w1:=by
       rw[show(f.i 741+(j:Int)*126+1).toNat=(f.i 741+(j:Int)*126).toNat+1 by omega];exact ae 1 w1 dp
      have z0:bO (some w0)=((i+1:Nat):Int):=by rw[<-dn];exact(dm 0 ah).trans (by rw[o2];rfl)
      have z1:bO (some w1)=((c2 i+1:Nat):Int):=by rw[<-dp];exact(dm 1 ah).trans (by rw[o3];rfl)
      have ei:IntKind.i64.wrap (((i+1:Nat):Int)-1)=((i:Nat):Int):=by rw[wrap_i64 ah ah];omega
      have fR:c2 i<=20:=acA (bE i hi) (N.ln i hi);have ec:IntKind.u64.wrap (((c2 i:Nat):Int)+1)=((c2 i+1:Nat):Int):=by rw[wrap_u64 ah ah];rfl
      have fS:L'.length<=8:=by
       have h:=(bf.at (by rw[<-bg.i 741];exact aq.2.1)).1;rw[<-bg.i 742]at h;omega
      have bh:R=R.take 125++[R.getD 125 ou]:=kOw C.pc.ok;have eR:(aU 731 (.var 740) ((E.var 741).add ((E.var 2000).mul (.lit 126))) 0 oj).map (CV.ev f)=R:=cD _ oj 0 C.pc.ok fun k u hu=>by
       show(f.h 731).cell (f.i 740).toNat ((f.i 741+f.i 2000*126).toNat+(0+k))=some u;rw[af,aco];exact ae k u hu
      rw[eR,eN,af,a0,a1,z0,z1,ei,aac,di hi];refine⟨C.x0,aq.2.1,ah,eO,fun h=>ah,fun _=>⟨fun h=>ah,fun _=>⟨eP,ah,ah,rfl,fun h=>absurd ec.symm h,fun _=>⟨jG _ C.pc.ok ae,⟨R.take 125,R.getD 125 ou,L'[j].b,_,RG,by rw[<-bh],rfl,C.pc.hd.ok,C.pc.body,C.pc.byte,ah,hG.2.1⟩,fun dq dr ⟨fT,ca,_⟩=>?_⟩⟩⟩⟩;have ca:=ca (R.take 125) (R.getD 125 ou) L'[j].b _ RG (by rw[<-bh]) rfl C.pc.body;have eQ:dq.b 2010=true:=(Value.bool.inj ca).trans ((uV C.pc.hd _).trans o4);refine⟨fun h=>absurd eQ h,fun _=>?_⟩;have Y:∀ q,ai 2010 f q->((q.i 740=f.i 740/\q.i 741=f.i 741/\q.i 742=f.i 742/\q.i 743=f.i 743)/\q.i 2000=j/\q.i 300=n'/\q.i 80=f.i 80/\q.i 26=f.i 26/\q.i 27=f.i 27)/\q.h 731=f.h 731/\q.h 2001=f.h 2001/\q.h 62=f.h 62:=fun q g=>by
       rw[g.i 740,g.i 741,g.i 742,g.i 743,g.i 2000,g.i 300,g.i 80,g.i 26,g.i 27,g.h 731,g.h 2001,g.h 62];exact⟨⟨⟨rfl,rfl,rfl,rfl⟩,af,bF,rfl,rfl,rfl⟩,rfl,rfl,rfl⟩
      obtain⟨⟨⟨y0,y1,_,_⟩,y4,_,y6,_,_⟩,y9,ya,_⟩:=Y dq dr;rw[y0,y1,y4,y6,y9,ya,a0,z0,ei,aac,di hi];refine⟨⟨N.cm.1,ah,N.cm.wr hi⟩,fun Q eS bQ=>?_⟩;obtain⟨⟨⟨k0,k1,k2,k3⟩,k4,k5,k6,k7,k8⟩,k9,_,kb⟩:=Y Q (dr.tr eS);have bj:IntKind.i64.wrap (Q.i 2000+1)=((j+1:Nat):Int):=by rw[k4,wrap_i64 ah ah];rfl
      refine⟨⟨n',j+1,L',b8,pE c2 i (c2 i+1),d2,k5,bj,ah,?_,hN,fun m hm=>?_,⟨?_,N.ln,N.gd,N.od,?_,N.le,N.rem⟩⟩,?_⟩
      .show js (Q.h 731) (Q.h 731) (.slice (au (Q.i 740) (Q.i 741)) (Q.i 742).toNat (Q.i 743).toNat) L';rw[k0,k1,k2,k3,k9];exact bD
      .unfold pE;split
       .rename_i e;subst e;have:=(aaG.1 hp).1;omega
       .exact bE m hm
      .show nL (Q.h 62) (.pointer (au (Q.i 26) (Q.i 27))) b8;rw[k7,k8,kb];exact N.rr
      .show yS (Q.h 2011) (Q.i 80) _;rw[k6,bQ];exact N.cm.put hi ec
      .show(Q.i 742-IntKind.i64.wrap (Q.i 2000+1)).toNat<(f.i 742-f.i 2000).toNat;rw[bj,k2,af];omega
     .rw[List.drop_of_length_le ah]at hN;have hN:∀ k,k<6->c2 k=d2 k:=hN;have e1:IntKind.i64.wrap (f.i 300+1)=((n'+1:Nat):Int):=by rw[bF,wrap_i64 ah ah];rfl
      refine⟨⟨n'+1,b8,d2,e1,ah,⟨N.rr,N.ln,N.gd,N.od,?_,N.le,N.rem⟩⟩,?_⟩
      .have h:=N.cm;unfold yS at h;rw[hN 0 ah,hN 1 ah,hN 2 ah,hN 3 ah,hN 4 ah,hN 5 ah]at h;exact h
      .rw[aa8 az,aa8 az];show(25-IntKind.i64.wrap (f.i 300+1)).toNat<(25-G.i 300).toNat;rw[e1,en];omega
  .have ds:=hA.rem;have eT:∀ i,i<6->X i=(st' i).length:=by
    have l0:=hA.le 0 ah;have l1:=hA.le 1 ah;have l2:=hA.le 2 ah;have l3:=hA.le 3 ah;have l4:=hA.le 4 ah;have l5:=hA.le 5 ah;simp only[xJ]at ds;intro i hi;have:i=0\/i=1\/i=2\/i=3\/i=4\/i=5:=ah;rcases this with rfl | rfl | rfl | rfl | rfl | rfl<;>omega
   refine⟨hA.cm.1,rfl,rfl,rfl,rfl,rfl,rfl,⟨_,_,_,st',rfl,rfl,hA.rr,aV,cC⟩,fun s al ⟨dF,bM,_,_⟩=>out ?_⟩;have bp:=ab1 (Value.agg.inj (bM _ _ st' rfl rfl hA.rr aV));have bp:[Value.int .u64 (s.i 320),.int .u64 (s.i 321),.int .u64 (s.i 322),.int .u64 (s.i 323),.int .u64 (s.i 324),.int .u64 (s.i 325)]=qR st':=bp;simp only[qR,aae,Value.int.injEq,acu,abw]at bp;obtain⟨k0,k1,k2,k3,k4,k5⟩:=bp;obtain⟨⟨_,bS,_⟩,_,_,_,aX⟩:=W2 s al;have cc:∀ j,j<6->tj s j=(st' j).length:=fun j hj=>by
    unfold tj;rw[aX,bS,aco,hC hj,<-eT j hj];rfl
   show(decide (tj s 0=s.i 320)&&(decide (tj s 1=s.i 321)&&(decide (tj s 2=s.i 322)&&(decide (tj s 3=s.i 323)&&(decide (tj s 4=s.i 324)&&decide (tj s 5=s.i 325))))))=true;rw[cc 0 ah,cc 1 ah,cc 2 ah,cc 3 ah,cc 4 ah,cc 5 ah,k0,k1,k2,k3,k4,k5];simp
end Go.Proofs.YtbdikjnpbnobcaaGreatDoor
namespace Go.Sx
open Go Go.ChangeShapes Go.WideShapes Go.ChangeAt Go.RowKit Go.Deep
variable {n:Int}{ks:List Kd}{cs xs:List Value}{b dp fuel y:Nat}{e t:TypeId}{v:Value}
def Zj (v:Value):Kd->Prop
 | .int k=>∃ n,v=.int k n/\(Lit.int k n).wf=true
 | .bool=>∃ b,v=.bool b
 | _=>False
def qD:List Value->List Kd->Prop
 | [],[]=>True
 | v::l,k::m=>Zj v k/\qD l m
 | _,_=>False
def rq:∀ {l m:List Value} {a b:List Kd},qD l a->qD m b->qD (l++m) (a++b)
 | [],m,[],b,_,h=>h
 | v::l,m,k::a,b,h,c=>⟨h.1,rq h.2 c⟩
 | [],_,_::_,_,h,_=>h.elim
 | _::_,_,[],_,h,_=>h.elim
def GS:∀ {l:List Value} {a:List Kd},qD l a->∀ (j:Nat) (k:Kd),a[j]?=some k->∃ v,l[j]?=some v/\Zj v k
 | _::l,_::a,h,0,k,hk=>by simp at hk;subst hk;exact⟨_,rfl,h.1⟩
 | _::l,_::a,h,j+1,k,hk=>by simpa using GS h.2 j k (by simpa using hk)
 | [],[],_,j,k,hk=>by simp at hk
 | [],_::_,h,_,_,_=>h.elim
 | _::_,[],h,_,_,_=>h.elim
def zq (f:TypeId->Option (List Kd)):List Field->Nat->Option (List Kd)
 | [],_=>some []
 | fl::l,o=>if fl.offset=o then match f fl.type with
  | some a=>match zq f l (o+a.length)with
   | some b=>some (a++b)
   | none=>none
  | none=>none
  else none
def US (a:List Kd):Nat->List Kd
 | 0=>[]
 | n+1=>a++US a n
def qV (P:Program):Nat->TypeId->Option (List Kd)
 | 0,_=>none
 | d+1,t=>match P.underlying t with
  | some (.int k)=>some [.int k]
  | some .bool=>some [.bool]
  | some (.array n e)=>match qV P d e with
   | some a=>if a.length=P.cellsOf e/\P.cellsOf t=n*a.length then some (US a n)else none
   | none=>none
  | some (.struct fs)=>match zq (fun u=>(qV P d u).bind fun a=>if a.length=P.cellsOf u then some a else none) fs.toList 0 with
   | some a=>if a.length=P.cellsOf t then some a else none
   | none=>none
  | _=>none
section
variable {H:Type} {enc:TypeId×Value->H} {P:Program} {w:World} {base:Nat} {spare:Nat->Bool} {held:Bool}
def yR {g:TypeId->Option (List Kd)} {cs:List Value} : ∀ (l:List Field) (o:Nat) (ks:List Kd),zq g l o=some ks ->
 (∀ (fl:Field) (a:List Kd),fl∈l->g fl.type=some a->qD ((cs.drop fl.offset).take a.length) a)->qD ((cs.drop o).take ks.length) ks
 | [],o,ks,h,_=>by cases h;simp [qD]
 | fl::l,o,ks,h,d=>by
  simp only[zq]at h;split at h
  .rename_i ho;subst ho;split at h
   .rename_i a i;split at h
    .rename_i b hb;cases h;have h1:=d fl a aC i;have j:=yR l (fl.offset+a.length) b hb fun f c hf k=>d f c (abq _ hf) k;have e:(cs.drop fl.offset).take (a++b).length=(cs.drop fl.offset).take a.length++(cs.drop (fl.offset+a.length)).take b.length:=by
      rw[aaA,agl,aft]
     rw[e];exact rq h1 j
    .cases h
   .cases h
  .cases h
def DD {cs:List Value} {a:List Kd} : ∀ (n:Nat) (o:Nat),(∀ i,i<n->qD ((cs.drop (o+i*a.length)).take a.length) a)->qD ((cs.drop o).take (n*a.length)) (US a n)
 | 0,o,_=>by simp [qD,US]
 | n+1,o,h=>by
  have h0:=h 0 ah;simp only[agc,acJ]at h0;have ih:=DD n (o+a.length) fun i hi=>by
   have:=h (i+1) ah;rwa[afu,agS,aga (i*a.length),<-afp]at this
  have e:(cs.drop o).take ((n+1)*a.length)=(cs.drop o).take a.length++(cs.drop (o+a.length)).take (n*a.length):=by
   rw[afu,agS,aga (n*a.length),agl,aft]
  rw[e];exact rq h0 ih
def Kx:∀ (d:Nat) (t:TypeId) (ks:List Kd) (fuel:Nat) (cs:List Value) (x:DataW H×List MemPlace),qV P d t=some ks->DataW.trod enc P w base spare held fuel t cs=some x->qD cs ks:=by
 intro d
 induction d with
 | zero=>intro t ks fuel cs x h;cases h
 | succ d ih =>
  intro t ks fuel cs x h hx;simp only[qV]at h;split at h
  .rename_i k hu;cases h;obtain⟨n,rfl,_,hw⟩:=DataW.trod_int hu hx;exact⟨⟨n,rfl,hw⟩,zzT⟩
  .rename_i hu;cases h;obtain⟨b,rfl,_⟩:=DataW.trod_bool hu hx;exact⟨⟨b,rfl⟩,zzT⟩
  .rename_i n e hu;split at h
   .rename_i a l;split at h
    .rename_i j;cases h;obtain⟨xs,m,_,_,hl,f,c⟩:=DataW.trod_array hu hx;have key:=DD (cs:=cs) (a:=a) n 0 fun i hi=>by
      have h1:=c i hi;rw[<-j.1,aad ah]at h1;rw[aco];exact ih e a m _ _ l h1
     rw[af8,<-j.2,<-hl,acS]at key;exact key
    .cases h
   .cases h
  .rename_i fs hu;split at h
   .rename_i a l;split at h
    .rename_i j;cases h;obtain⟨xs,m,_,_,hl,f,c⟩:=DataW.trod_struct hu hx;have key:=yR (cs:=cs) fs.toList 0 ks l fun fl b o hb=>by
      obtain⟨i,hi⟩:=acG o;have g:fs[i]?=some fl:=by simpa using hi
      have h1:=c i fl g;cases hk:qV P d fl.type with
      | none=>simp [hk]at hb
      | some b' =>
       simp only[hk,afI]at hb;split at hb
       .rename_i hlen;cases hb;have p:i<xs.length:=by rw[f];exact(acq.1 g).1
        rw[<-hlen,aad p]at h1;exact ih fl.type b m _ _ hk h1
       .cases hb
     rw[af8,j,<-hl,acS]at key;exact key
    .cases h
   .cases h
  .cases h
def NP {k:Kd} (h:Zj v k):bh (some v) k=true:=by
 cases k with
 | int k=>obtain⟨n,rfl,_⟩:=h;simp [bh]
 | bool=>obtain⟨b,rfl⟩:=h;rfl
 | _=>exact h.elim
def Df {x:DataW H×List MemPlace} (s:P.underlying t=some (.slice e)) (hk:qV P dp e=some ks) (u:P.cellsOf e=ks.length)
 (h:DataW.trod enc P w base spare held fuel t cs=some x) :
 cs=[.slice none 0 0]\/∃ (a:Addr) (len cap:Nat),cs=[.slice (some a) len cap]/\len<=cap/\cap<=maxLen /\
  ∀ i,i<len->∀ (j:Nat) (k:Kd),ks[j]?=some k->∃ v,w.cell? (a.add (i*ks.length+j))=some v/\Zj v k:=by
 rcases open_slice s h with h0 | ⟨a,len,cap,m,n,D,A,b,hb,hl,hm,c,hx,hi⟩
 .exact Or.inl h0.1
 .refine Or.inr ⟨a,len,cap,b,hl,hm,fun i y j k q=>?_⟩;have d:i<m:=by rw[c];split<;>omega
  obtain⟨f,r,g⟩:=hi i d;rw[u]at r;obtain⟨_,z,l⟩:=World.cells?_some r;have hok:=Kx dp e ks n f _ hk g;obtain⟨v,hv,o⟩:=GS hok j k q;have p:j<ks.length:=(aaG.1 q).1;refine⟨v,?_,o⟩;rw[<-Go.Deep.add_add,l j p,hv]
end
def Y2 (h:(Lit.int .u64 n).wf=true):0<=n/\n<18446744073709551616:=by
 simp only[Lit.wf,IntKind.min,IntKind.max,IntKind.signed,IntKind.bits,aaM,aas]at h;simp at h;omega
def Ms (h:(Lit.int .u8 n).wf=true):0<=n/\n<256:=by
 simp only[Lit.wf,IntKind.min,IntKind.max,IntKind.signed,IntKind.bits,aaM,aas]at h;simp at h;omega
def XB (h:(Lit.int .i64 n).wf=true):-9223372036854775808<=n/\n<9223372036854775808:=by
 simp only[Lit.wf,IntKind.min,IntKind.max,IntKind.signed,IntKind.bits,aaM,aas]at h;simp at h;omega
def HJ:∀ {row:List Value} {ks:List Kd},qD row ks->aR row ks
 | [],[],_=>trivial
 | _::_,_::_,h=>⟨NP h.1,HJ h.2⟩
 | [],_::_,h=>h.elim
 | _::_,[],h=>h.elim
def yt:∀ {ks:List Kd} {row:List Value},row.length=ks.length->(∀ (j:Nat) (k:Kd),ks[j]?=some k->∃ v,row[j]?=some v/\Zj v k)->qD row ks
 | [],[],_,_=>trivial
 | k::ks,v::row,hl,h=>by
  refine⟨?_,yt (by simpa using hl) fun j a b=>?_⟩
  .obtain⟨u,hu,ho⟩:=h 0 k rfl;simp at hu;subst hu;exact ho
  .have:=h (j+1) a (by simpa using b);simpa using this
 | [],_::_,hl,_=>by simp at hl
 | _::_,[],hl,_=>by simp at hl
section
variable {H:Type} {enc:TypeId×Value->H} {P:Program} {W:World} {base:Nat} {spare:Nat->Bool} {held:Bool} {d:DataW H} {p:List MemPlace}
def zT (h:W.cell? ⟨b,y,none⟩=some v):(Hl.all W).cell b y=some v:=by
 unfold Hl.cell Hl.all;unfold World.cell? at h;split at h
 .rename_i c T fr hb;rw[hb];simpa using h
 .cases h
def xa {a:Addr} (hv:W.cell? a=some v):a.spot=none:=by
 unfold World.cell? at hv;split at hv
 .split at hv
  .cases hv
  .rename_i h;simpa using h
 .cases hv
def N2 (w:P.underlying t=some (.slice e)) (hk:qV P dp e=some ks) (z:P.cellsOf e=ks.length) (hks:0<ks.length) (hv:∃ a l c,v=.slice a l c) (h:DataW.Trod enc P W base spare held t v d p) :
 ∃ rows,bd (Hl.all W) v ks rows/\∀ row∈rows,qD row ks:=by
 obtain⟨a0,b,f,rfl⟩:=hv;obtain⟨fuel,hf⟩:=h;rcases Df w hk z hf with h | ⟨a,len,cap,m,hl,A,n⟩
 .simp only[Value.cells,aae,Value.slice.injEq,abw]at h;obtain⟨rfl,rfl,rfl⟩:=h;exact⟨[],⟨-1,0,0,rfl,ah,Or.inl rfl⟩,fun _ h=>nomatch h⟩
 .simp only[Value.cells,aae,Value.slice.injEq,abw]at m;obtain⟨rfl,rfl,rfl⟩:=m;rcases afr b with h0 | h0
  .subst h0;obtain⟨x,y,hx,hy,_⟩:=td (some a);exact⟨[],⟨x,y,f,by rw[hx];rfl,hy,Or.inl rfl⟩,fun _ h=>nomatch h⟩
  .have o:a.spot=none:=by
    obtain⟨v,hv,_⟩:=n 0 h0 0 ks[0] (aad hks);simp only[agc,acJ,Addr.add,afm]at hv;exact xa hv
   obtain⟨bc,off,spot⟩:=a;simp only at o;subst o
   let row:Nat->List Value:=fun i=>(List.range ks.length).map fun j=>(W.cell? ⟨bc,off+(i*ks.length+j),none⟩).getD (.bool false)
   have aG:∀ i,i<b->qD (row i) ks/\∀ j u,(row i)[j]?=some u->W.cell? ⟨bc,off+(i*ks.length+j),none⟩=some u:=by
    intro i hi;have hg:∀ (j:Nat) (k:Kd),ks[j]?=some k->∃ v,(row i)[j]?=some v/\W.cell? ⟨bc,off+(i*ks.length+j),none⟩=some v/\Zj v k:=by
     intro j k s;obtain⟨v,hv,ho⟩:=n i hi j k s;rw[fg]at hv;have g:j<ks.length:=(aaG.1 s).1;refine⟨v,?_,hv,ho⟩;simp only[row,abl,acf g,acr,hv,afb]
    refine⟨yt (by simp [row]) fun j k s=>?_,fun j u hu=>?_⟩
    .obtain⟨v,h1,_,q⟩:=hg j k s;exact⟨v,h1,q⟩
    .have g:j<ks.length:=by have:=(aaG.1 hu).1;simpa [row] using this
     obtain⟨v,h1,q,_⟩:=hg j ks[j] (aad g);rw[hu]at h1;cases h1;exact q
   refine⟨(List.range b).map row,⟨bc,off,f,?_,ah,Or.inr ⟨ah,fun i r hr=>?_⟩⟩,fun r hr=>?_⟩
   .rw[av ah,aca,afh];rfl
   .have hi:i<b:=by have:=(aaG.1 hr).1;simpa using this
    rw[abl,acf hi,acr,aa3]at hr;subst hr;obtain⟨h1,q⟩:=aG i hi;refine⟨HJ h1,fun j u hu=>?_⟩;rw[aac,aac,afp];exact zT (q j u hu)
   .obtain⟨i,hi,rfl⟩:=acw.1 hr;exact(aG i (acv.1 hi)).1
end
def Sv {P:Program} {s:Spec} (h:s.OK P) (ho:s.own=[]) {W:World} (c:s.pre xs [] (List.replicate s.rd.length (Hl.all W)))
 (hpost:∀ J F,s.post xs [] (List.replicate s.rd.length (Hl.all W)) ((jO 0 s.res).ev J) [] F->(jO 0 s.res).ev J=.bool true) :
 Calls P s.fn xs.toArray W fun e w'=>e=.returned (.bool true)/\Below W.heap.size W w':=by
 have:=h W xs [] (List.replicate s.rd.length (Hl.all W)) (by rw[ho];rfl) aC (fun _ h=>nomatch h) (fun R d=>by rw[(afO.1 d).2];exact Hl.S8 W) (fun p _ H _ _ h=>by simp at h) (fun _ h=>nomatch h) c;refine this.mono ?_;rintro e w' ⟨J,Hs',F,rfl,_,a,hp⟩;have e0:Hs'=[]:=aa1.1 a.len;subst e0;exact⟨by rw[hpost J F hp],⟨a.os,a.tape,a.output,a.size,fun b hb=>a.block b hb (fun _ h=>nomatch h)⟩⟩
section
variable {H:Type} {enc:TypeId×Value->H} {P:Program} {W:World} {base:Nat} {spare:Nat->Bool} {held:Bool} {d:DataW H} {p:List MemPlace}
def Ps (u:P.underlying t=some (.slice e)) (hk:qV P dp e=some [.int .u8]) (w:P.cellsOf e=1) (hv:∃ a l c,v=.slice a l c) (h:DataW.Trod enc P W base spare held t v d p) :
 ∃ bs,fE (Hl.all W) v bs/\∀ b∈bs,0<=b/\b<256:=by
 obtain⟨a0,f,k,rfl⟩:=hv;obtain⟨fuel,hf⟩:=h;rcases Df u hk w hf with h | ⟨a,len,cap,o,hl,A,s⟩
 .simp only[Value.cells,aae,Value.slice.injEq,abw]at h;obtain⟨rfl,rfl,rfl⟩:=h;exact⟨[],⟨-1,0,0,rfl,ah,Or.inl rfl⟩,fun _ h=>nomatch h⟩
 .simp only[Value.cells,aae,Value.slice.injEq,abw]at o;obtain⟨rfl,rfl,rfl⟩:=o;rcases afr f with h0 | h0
  .subst h0;obtain⟨x,y,hx,hy,_⟩:=td (some a);exact⟨[],⟨x,y,k,by rw[hx];rfl,hy,Or.inl rfl⟩,fun _ h=>nomatch h⟩
  .have g:∀ i,i<f->∃ n,W.cell? (a.add i)=some (.int .u8 n)/\0<=n/\n<256:=by
    intro i hi;obtain⟨v,hv,ho⟩:=s i hi 0 _ rfl;obtain⟨n,rfl,hw⟩:=ho;refine⟨n,?_,Ms hw⟩;rw[show i=i*([Kd.int .u8]:List Kd).length+0 by simp];exact hv
   have q:a.spot=none:=by
    obtain⟨n,hn,_⟩:=g 0 h0;simp only[Addr.add,afm,acJ]at hn;exact xa hn
   obtain⟨bc,off,spot⟩:=a;simp only at q;subst q;have m:∀ j z,((List.range f).map fun i=>bO (W.cell? ⟨bc,off+i,none⟩))[j]?=some z->W.cell? ⟨bc,off+j,none⟩=some (.int .u8 z)/\0<=z/\z<256:=by
    intro j z hz;have r:j<f:=by have:=(aaG.1 hz).1;simpa using this
    rw[abl,acf r]at hz;simp only[acr,aa3]at hz;obtain⟨n,hn,hr⟩:=g j r;rw[fg]at hn;rw[hn]at hz;have hz:n=z:=hz;subst hz;exact⟨hn,hr⟩
   refine⟨(List.range f).map fun i=>bO (W.cell? ⟨bc,off+i,none⟩),⟨bc,off,k,?_,ah,Or.inr ⟨ah,fun j z hz=>?_⟩⟩,fun b hb=>?_⟩
   .rw[av ah,aca,afh];rfl
   .simp only[aac];exact zT (m j z hz).1
   .obtain⟨j,r⟩:=acU.1 hb;exact(m j b r).2
def ab4 (a:P.underlying t=some (.int .u8)) (h:DataW.Trod enc P W base spare held t (.int .u8 n) d p):0<=n/\n<256:=by
 obtain⟨fuel,hf⟩:=h;obtain⟨m,hn,_,hw⟩:=DataW.trod_int a hf;simp only[Value.cells,aae,Value.int.injEq,acu,abw]at hn;subst hn;exact Ms hw
end
section
variable {H:Type} {enc:TypeId×Value->H} {P:Program} {W:World} {base:Nat} {spare:Nat->Bool} {held:Bool} {d:DataW H} {p:List MemPlace}
end
end Go.Sx
namespace Go.Ex
open Go Go.ChangeShapes Go.WideShapes Go.ChangeAt Go.RowKit Go.Deep
inductive Kt | int (k:IntKind) | bool | other (t:TypeId)
def okK (Φ:Value->TypeId->Prop) (v:Value):Kt->Prop
 | .int k=>∃ n,v=.int k n/\(Lit.int k n).wf=true
 | .bool=>∃ b,v=.bool b
 | .other t=>Φ v t
variable {Φ:Value->TypeId->Prop}
def Wf (Φ:Value->TypeId->Prop):Prop:=∀ v t,Φ v t->∃ a len cap,v=.slice a len cap
def nf (Φ:Value->TypeId->Prop):List Value->List Kt->Prop
 | [],[]=>True
 | v::l,k::m=>okK Φ v k/\nf Φ l m
 | _,_=>False
def ru:∀ {l m:List Value} {a b:List Kt},nf Φ l a->nf Φ m b->nf Φ (l++m) (a++b)
 | [],m,[],b,_,h=>h
 | v::l,m,k::a,b,h,c=>⟨h.1,ru h.2 c⟩
 | [],_,_::_,_,h,_=>h.elim
 | _::_,_,[],_,h,_=>h.elim
def Bw:∀ {l:List Value} {a:List Kt},nf Φ l a->∀ (j:Nat) (k:Kt),a[j]?=some k->∃ v,l[j]?=some v/\okK Φ v k
 | _::l,_::a,h,0,k,hk=>by simp at hk;subst hk;exact⟨_,rfl,h.1⟩
 | _::l,_::a,h,j+1,k,hk=>by simpa using Bw h.2 j k (by simpa using hk)
 | [],[],_,j,k,hk=>by simp at hk
 | [],_::_,h,_,_,_=>h.elim
 | _::_,[],h,_,_,_=>h.elim
def vw (f:TypeId->Option (List Kt)):List Field->Nat->Option (List Kt)
 | [],_=>some []
 | fl::l,o=>if fl.offset=o then match f fl.type with
  | some a=>match vw f l (o+a.length)with
   | some b=>some (a++b)
   | none=>none
  | none=>none
  else none
def L5 (a:List Kt):Nat->List Kt
 | 0=>[]
 | n+1=>a++L5 a n
def pR (P:Program):Nat->TypeId->Option (List Kt)
 | 0,_=>none
 | d+1,t=>match P.underlying t with
  | some (.int k)=>some [.int k]
  | some .bool=>some [.bool]
  | some (.slice _)=>some [.other t]
  | some (.array n e)=>match pR P d e with
   | some a=>if a.length=P.cellsOf e/\P.cellsOf t=n*a.length then some (L5 a n)else none
   | none=>none
  | some (.struct fs)=>match vw (fun u=>(pR P d u).bind fun a=>if a.length=P.cellsOf u then some a else none) fs.toList 0 with
   | some a=>if a.length=P.cellsOf t then some a else none
   | none=>none
  | _=>none
section
variable {H:Type} {enc:TypeId×Value->H} {P:Program} {w:World} {base:Nat} {spare:Nat->Bool} {held:Bool}
def wQ {g:TypeId->Option (List Kt)} {cs:List Value} : ∀ (l:List Field) (o:Nat) (ks:List Kt),vw g l o=some ks ->
 (∀ (fl:Field) (a:List Kt),fl∈l->g fl.type=some a->nf Φ ((cs.drop fl.offset).take a.length) a)->nf Φ ((cs.drop o).take ks.length) ks
 | [],o,ks,h,_=>by cases h;simp [nf]
 | fl::l,o,ks,h,d=>by
  simp only[vw]at h;split at h
  .rename_i ho;subst ho;split at h
   .rename_i a i;split at h
    .rename_i b hb;cases h;have h1:=d fl a Sx.aC i;have j:=wQ l (fl.offset+a.length) b hb fun f c hf k=>d f c (abq _ hf) k;have e:(cs.drop fl.offset).take (a++b).length=(cs.drop fl.offset).take a.length++(cs.drop (fl.offset+a.length)).take b.length:=by
      rw[aaA,agl,aft]
     rw[e];exact ru h1 j
    .cases h
   .cases h
  .cases h
def Cb {cs:List Value} {a:List Kt} : ∀ (n:Nat) (o:Nat),(∀ i,i<n->nf Φ ((cs.drop (o+i*a.length)).take a.length) a)->nf Φ ((cs.drop o).take (n*a.length)) (L5 a n)
 | 0,o,_=>by simp [nf,L5]
 | n+1,o,h=>by
  have h0:=h 0 Sx.ah;simp only[agc,acJ]at h0;have ih:=Cb n (o+a.length) fun i hi=>by
   have:=h (i+1) Sx.ah;rwa[afu,agS,aga (i*a.length),<-afp]at this
  have e:(cs.drop o).take ((n+1)*a.length)=(cs.drop o).take a.length++(cs.drop (o+a.length)).take (n*a.length):=by
   rw[afu,agS,aga (n*a.length),agl,aft]
  rw[e];exact ru h0 ih
abbrev tY (enc:TypeId×Value->H) (P:Program) (w:World) (base:Nat) (spare:Nat->Bool) (held:Bool) (v:Value) (t:TypeId):Prop:=(∃ e,P.underlying t=some (.slice e))/\∃ m x,DataW.trod enc P w base spare held m t [v]=some x
def pt:Wf (tY enc P w base spare held):=by
 rintro v t ⟨⟨e,hu⟩,m,x,hx⟩;rcases open_slice hu hx with h0 | ⟨a,len,cap,m,n,D,c,b,_⟩
 .have h1:=h0.1;simp only[aae,abw]at h1;exact⟨none,0,0,h1⟩
 .simp only[aae,abw]at b;exact⟨some a,len,cap,b⟩
def Ie:∀ (d:Nat) (t:TypeId) (ks:List Kt) (fuel:Nat) (cs:List Value) (x:DataW H×List MemPlace),pR P d t=some ks->DataW.trod enc P w base spare held fuel t cs=some x->nf (tY enc P w base spare held) cs ks:=by
 intro d
 induction d with
 | zero=>intro t ks fuel cs x h;cases h
 | succ d ih =>
  intro t ks fuel cs x h hx;simp only[pR]at h;split at h
  .rename_i k hu;cases h;obtain⟨n,rfl,_,hw⟩:=DataW.trod_int hu hx;exact⟨⟨n,rfl,hw⟩,trivial⟩
  .rename_i hu;cases h;obtain⟨b,rfl,_⟩:=DataW.trod_bool hu hx;exact⟨⟨b,rfl⟩,trivial⟩
  .rename_i e hu;cases h;rcases open_slice hu hx with h0 | ⟨a,len,cap,m,n,D,r,l,_⟩
   .have h1:=h0.1;subst h1;exact⟨⟨⟨_,hu⟩,fuel,x,hx⟩,trivial⟩
   .subst l;exact⟨⟨⟨_,hu⟩,fuel,x,hx⟩,trivial⟩
  .rename_i n e hu;split at h
   .rename_i a o;split at h
    .rename_i j;cases h;obtain⟨xs,m,_,_,hl,f,c⟩:=DataW.trod_array hu hx;have key:=Cb (cs:=cs) (a:=a) n 0 fun i hi=>by
      have h1:=c i hi;rw[<-j.1,aad Sx.ah]at h1;rw[aco];exact ih e a m _ _ o h1
     rw[af8,<-j.2,<-hl,acS]at key;exact key
    .cases h
   .cases h
  .rename_i fs hu;split at h
   .rename_i a o;split at h
    .rename_i j;cases h;obtain⟨xs,m,_,_,hl,f,c⟩:=DataW.trod_struct hu hx;have key:=wQ (cs:=cs) fs.toList 0 ks o fun fl b p hb=>by
      obtain⟨i,hi⟩:=acG p;have g:fs[i]?=some fl:=by simpa using hi
      have h1:=c i fl g;cases hk:pR P d fl.type with
      | none=>simp [hk]at hb
      | some b' =>
       simp only[hk,afI]at hb;split at hb
       .rename_i hlen;cases hb;have q:i<xs.length:=by rw[f];exact(acq.1 g).1
        rw[<-hlen,aad q]at h1;exact ih fl.type b m _ _ hk h1
       .cases hb
     rw[af8,j,<-hl,acS]at key;exact key
    .cases h
   .cases h
  .cases h
end
end Go.Ex
namespace Go.Sx
open Go Go.ChangeShapes Go.WideShapes Go.ChangeAt Go.RowKit Go.Deep
def Np:Ex.Kt->Kd
 | .int k=>.int k
 | .bool=>.bool
 | .other _=>.slice
def wB {Φ:Value->TypeId->Prop} (d:Ex.Wf Φ):∀ {row:List Value} {ks:List Ex.Kt},Ex.nf Φ row ks->aR row (ks.map Np)
 | [],[],_=>trivial
 | v::row,k::ks,h=>by
  refine⟨?_,wB d h.2⟩;have h1:=h.1;cases k with
  | int k=>obtain⟨n,rfl,_⟩:=h1;simp [bh,Np]
  | bool=>obtain⟨b,rfl⟩:=h1;rfl
  | other t=>obtain⟨a,l,c,rfl⟩:=d v t h1;rfl
 | [],_::_,h=>h.elim
 | _::_,[],h=>h.elim
section
variable {H:Type} {enc:TypeId×Value->H} {P:Program} {W:World} {base:Nat} {spare:Nat->Bool} {held:Bool} {d:DataW H} {p:List MemPlace}
def UN {t e:TypeId} {ks:List Ex.Kt} {dp:Nat} (E:P.underlying t=some (.slice e)) (hk:Ex.pR P dp e=some ks) (F:P.cellsOf e=ks.length) (hks:0<ks.length) {v:Value} (hv:∃ a l c,v=.slice a l c) (h:DataW.Trod enc P W base spare held t v d p) :
 ∃ rows,bd (Hl.all W) v (ks.map Np) rows/\∀ row∈rows,Ex.nf (Ex.tY enc P W base spare held) row ks:=by
 obtain⟨a0,b,g,rfl⟩:=hv;obtain⟨fuel,hf⟩:=h;rcases open_slice E hf with h | ⟨a,len,cap,m,n,D,K,k,hb,hl,hm,z,hx,hi⟩
 .have h:=h.1;simp only[Value.cells,aae,Value.slice.injEq,abw]at h;obtain⟨rfl,rfl,rfl⟩:=h;exact⟨[],⟨-1,0,0,rfl,Sx.ah,Or.inl rfl⟩,fun _ h=>nomatch h⟩
 .simp only[Value.cells,aae,Value.slice.injEq,abw]at k;obtain⟨rfl,rfl,rfl⟩:=k;have G:b<=m:=by rw[z];split<;>omega
  have each:∀ i,i<b->∃ row,row.length=ks.length/\Ex.nf (Ex.tY enc P W base spare held) row ks/\∀ j,j<ks.length->W.cell? ((a.add (i*ks.length)).add j)=row[j]?:=by
   intro i f;obtain⟨o,w,A⟩:=hi i Sx.ah;rw[F]at w;obtain⟨_,B,C⟩:=World.cells?_some w;exact⟨o,B,Ex.Ie dp e ks n o _ hk A,fun j q=>C j q⟩
  rcases afr b with h0 | h0
  .subst h0;obtain⟨x,y,hx,hy,_⟩:=td (some a);exact⟨[],⟨x,y,g,by rw[hx];rfl,hy,Or.inl rfl⟩,fun _ h=>nomatch h⟩
  .have s:a.spot=none:=by
    obtain⟨row,H,_,w⟩:=each 0 h0;have:=w 0 hks;simp only[agc,Addr.add,afm]at this;rw[aad Sx.ah]at this;exact xa this
   obtain⟨bc,off,spot⟩:=a;simp only at s;subst s
   classical
   let row:Nat->List Value:=fun i=>if h:i<b then(each i h).choose else []
   have aG:∀ i,i<b->(row i).length=ks.length/\Ex.nf (Ex.tY enc P W base spare held) (row i) ks/\∀ j,j<ks.length->W.cell? ⟨bc,off+i*ks.length+j,none⟩=(row i)[j]?:=by
    intro i f;have:=(each i f).choose_spec;simp only[row,dif_pos f];refine⟨this.1,this.2.1,fun j q=>?_⟩;rw[<-this.2.2 j q,fg,fg]
   refine⟨(List.range b).map row,⟨bc,off,g,?_,Sx.ah,Or.inr ⟨Sx.ah,fun i r hr=>?_⟩⟩,fun r hr=>?_⟩
   .rw[av Sx.ah,aca,afh];rfl
   .have f:i<b:=by have:=(aaG.1 hr).1;simpa using this
    rw[abl,acf f,acr,aa3]at hr;subst hr;obtain⟨h1,I,J⟩:=aG i f;refine⟨wB Ex.pt I,fun j u hu=>?_⟩;rw[aac,aac,aca];have q:j<ks.length:=by rw[<-h1];exact(aaG.1 hu).1
    exact zT (by rw[J j q];exact hu)
   .obtain⟨i,f,rfl⟩:=acw.1 hr;exact(aG i (acv.1 f)).2.1
end
end Go.Sx
namespace Go.Proofs.YtbdikjnpbnobcaaGreatDoor.opP
open Go Go.Sx Go.ChangeShapes Go.WideShapes Go.ChangeAt Go.RowKit Go.Deep
variable {row:List Value}{v:Value}
section
variable {H:Type} {enc:TypeId×Value->H} {W:World} {base b0:Nat} {spare:Nat->Bool} {held:Bool} {r:Reach}
def kh:List Ex.Kt:=[.int .i64,.int .u64]++List.replicate 32 (.int .u8)++[.int .i64,.bool,.int .u64]++List.replicate 16 (.int .u8)++[.other 35]++List.replicate 6 (.int .u64)++List.replicate 32 (.int .u8)++[.int .i64]++List.replicate 32 (.int .u8)
def kp:List Ex.Kt:=kh++[.other 22]
def aaV:Ex.pR Tryz.prog 6 40=some kp:=by kernel_rfl
def V7:∀ {n:Nat} {row:List Value},qD row (List.replicate n (Kd.int .u8))->∃ t:List Int,row=aS t/\t.length=n/\∀ b∈t,0<=b/\b<256
 | 0,[],_=>⟨[],rfl,rfl,fun _ h=>nomatch h⟩
 | n+1,v::row,h=>by
  obtain⟨t,e,hl,hb⟩:=V7 (n:=n) h.2;obtain⟨z,rfl,hw⟩:=h.1;refine⟨z::t,by rw[e];rfl,by rw[acn,hl],fun b a=>?_⟩;rcases aaW.1 a with rfl | a
  .exact Ms hw
  .exact hb b a
def Mp:∀ {rows:List (List Value)},(∀ row∈rows,qD row qm)->∃ T:List (List Int),rows=T.map aS/\∀ t∈T,t.length=16/\∀ b∈t,0<=b/\b<256
 | [],_=>⟨[],rfl,fun _ h=>nomatch h⟩
 | row::rows,h=>by
  obtain⟨T,e,hT⟩:=Mp (rows:=rows) fun r hr=>h r (abq _ hr);obtain⟨t,a,hl,hb⟩:=V7 (n:=16) (h row (acj ..));refine⟨t::T,by rw[e,a];rfl,fun x hx=>?_⟩;rcases aaW.1 hx with rfl | hx
  .exact⟨hl,hb⟩
  .exact hT x hx
def OF (ho:Ex.tY enc Tryz.prog W base spare held v 35):∃ (T:List (List Int)) (a:Option Addr) (c:Nat),v=.slice a T.length c/\bd (Hl.all W) v qm (T.map aS)/\∀ t∈T,t.length=16/\al t:=by
 obtain⟨a,l,c,rfl⟩:=Ex.pt v _ ho;obtain⟨_,m,x,hx⟩:=ho;obtain⟨rows,f,b⟩:=N2 Tryz.underlying35 (ks:=qm) (dp:=3) (by kernel_rfl) (by kernel_rfl) az ⟨a,l,c,rfl⟩ (d:=x.1) (p:=x.2) ⟨m,hx⟩;obtain⟨T,e,hT⟩:=Mp b;subst e;have hl:l=(T.map aS).length:=by
  obtain⟨h,i,ac,g,_⟩:=id f;simp only[Value.slice.injEq]at g;exact g.2.1
 rw[aca]at hl;subst hl;exact⟨T,a,c,rfl,f,hT⟩
def To (ho:Ex.tY enc Tryz.prog W base spare held v 22):∃ (b:List Int) (a:Option Addr) (c:Nat),v=.slice a b.length c/\fE (Hl.all W) v b/\al b:=by
 obtain⟨a,l,c,rfl⟩:=Ex.pt v _ ho;obtain⟨_,m,x,hx⟩:=ho;obtain⟨b,e,hb⟩:=Ps Tryz.underlying22 (dp:=1) (by kernel_rfl) (by kernel_rfl) ⟨a,l,c,rfl⟩ (d:=x.1) (p:=x.2) ⟨m,hx⟩;have hl:l=b.length:=by
  obtain⟨g,h,ac,f,_⟩:=id e;simp only[Value.slice.injEq]at f;exact f.2.1
 subst hl;exact⟨b,a,c,rfl,e,hb⟩
def RN {Φ:Value->TypeId->Prop} (d:Ex.Wf Φ):∀ {row:List Value} {ks:List Ex.Kt},Ex.nf Φ row ks->∀ v∈row,uJ v
 | [],[],_,_,h=>nomatch h
 | x::row,k::ks,h,v,hv=>by
  rcases aaW.1 hv with rfl | hv
  .have h1:=h.1;cases k with
   | int k =>
    obtain⟨n,rfl,hw⟩:=h1;cases k with
    | u8=>exact Ms hw
    | u64=>exact Y2 hw
    | i64=>exact XB hw
    | _=>trivial
   | bool=>obtain⟨b,rfl⟩:=h1;trivial
   | other t=>obtain⟨a,l,c,rfl⟩:=d _ t h1;trivial
  .exact RN d h.2 v hv
 | [],_::_,h,_,_=>h.elim
 | _::_,[],h,_,_=>h.elim
def Dc {Φ:Value->TypeId->Prop} : ∀ {n:Nat} {l:List Value} {ks:List Ex.Kt},Ex.nf Φ l ks->Ex.nf Φ (l.take n) (ks.take n)
 | 0,_,_,_=>trivial
 | _+1,[],[],_=>trivial
 | n+1,_::_,_::_,h=>⟨h.1,Dc (n:=n) h.2⟩
 | _+1,[],_::_,h=>h.elim
 | _+1,_::_,[],h=>h.elim
def Ss {k n c:Nat} {a:Option Addr} (h:row[k]?=some (.slice a n c)):Fu row k=n:=by unfold Fu;rw[h]
def aaD (ho:Ex.nf (Ex.tY enc Tryz.prog W base spare held) row kh) (b:Fu row 53<=20):∃ h,br (Hl.all W) row h/\h.t.length<=20:=by
 have hok:aR row dz:=by
  have:=wB Ex.pt ho;rwa[show kh.map Np=dz by kernel_rfl]at this
 obtain⟨v,hv,d⟩:=Ex.Bw ho 53 (.other 35) rfl;obtain⟨T,a,c,rfl,e,hT⟩:=OF d;rw[Ss hv]at b;refine⟨⟨row.set 53 ou,T⟩,⟨hok,RN Ex.pt ho,rfl,?_,by show T.length<=_;omega,hT⟩,b⟩;rw[abv,hv];exact e
def abo (ho:Ex.nf (Ex.tY enc Tryz.prog W base spare held) row kp) (f:Fu row 53<=20) (e:Fu row 125<=2100):∃ c,cH (Hl.all W) (Hl.all W) row c/\c.h.t.length<=20/\c.b.length<=2100:=by
 have hok:aR row oj:=by
  have:=wB Ex.pt ho;rwa[show kp.map Np=oj by kernel_rfl]at this
 have h1:Ex.nf (Ex.tY enc Tryz.prog W base spare held) (row.take 125) kh:=by
  have:=Dc (n:=125) ho;rwa[show kp.take 125=kh by kernel_rfl]at this
 have g:Fu (row.take 125) 53=Fu row 53:=by unfold Fu;rw[ad4 ah]
 obtain⟨h,hx,hh⟩:=aaD h1 (by rw[g];exact f);obtain⟨v,hv,d⟩:=Ex.Bw ho 125 (.other 22) rfl;obtain⟨b,a,c,rfl,i,hb⟩:=To d;rw[Ss hv]at e;refine⟨⟨h,b⟩,⟨hok,hx,?_,hb,by show b.length<=_;omega⟩,hh,e⟩;rw[abv,hv];exact i
end
end Go.Proofs.YtbdikjnpbnobcaaGreatDoor.opP
namespace Go.Proofs.YtbdikjnpbnobcaaGreatDoor
open Go Go.Sx Go.Pk Go.RowKit
variable {g j:Nat}{W:World}
def VK:List (String×DataW Unit):=[("jalousie/store.errLost",Rows.laid_jalousie_store_errLost),("jalousie/store.errFull",Rows.laid_jalousie_store_errFull),("jalousie/store.errSpent",Rows.laid_jalousie_store_errSpent)]
def gN0:Tryz.prog.globalNamed "jalousie/store.errLost"= some 3:=by kernel_rfl
def gN1:Tryz.prog.globalNamed "jalousie/store.errFull"= some 4:=by kernel_rfl
def gN2:Tryz.prog.globalNamed "jalousie/store.errSpent"= some 5:=by kernel_rfl
def gT0:(Tryz.prog.globals[3]?).map (·.type)=some 82:=by kernel_rfl
def gT1:(Tryz.prog.globals[4]?).map (·.type)=some 82:=by kernel_rfl
def gT2:(Tryz.prog.globals[5]?).map (·.type)=some 82:=by kernel_rfl
def Ja:Tryz.prog.cellsOf 318=1:=by kernel_rfl
def Ek:Tryz.prog.cellsOf 9=1:=by kernel_rfl
def VE : "*"++ "errors.errorString"= "*errors.errorString":=by decide
def Qa (u:TypeId) (h:Tryz.prog.typeName? 3 u=some "*errors.errorString"):u=297 :=
 typeName_ptr_named (nm:= "errors.errorString") (by rw[VE];kernel_rfl) zzK az u (by rw[VE];exact h)
set_option maxRecDepth 100000 in
def Jb (h:laidMetH Tryz.prog VK W):∃ a,Gl (Hl.all W) a:=by
 rw[MakeChecks.laidMetH_plain _ _ _ zzK]at h;obtain⟨ps,⟨g0,t0,q,f0,p0,X,TW,r,j,s,⟨Y,t1,t,f1,p1,q1,c,w,k,x,⟨Z,t2,y,f2,p2,q2,d,z,l,A,_,H⟩,e1⟩,e0⟩,f,b⟩:=h;obtain rfl:=acE (gN0.symm.trans TW);obtain rfl:=acE (gN1.symm.trans c);obtain rfl:=acE (gN2.symm.trans d);obtain rfl:=acE (gT0.symm.trans r);obtain rfl:=acE (gT1.symm.trans w);obtain rfl:=acE (gT2.symm.trans z);subst H;subst e1;subst e0;obtain⟨I⟩:=q;obtain⟨J⟩:=t;obtain⟨K⟩:=y;have B:∀ u v,I=[.iface u v]->Value.okWide Tryz.prog W .any 0 u v:=fun u v e=>by
  subst e;exact(b 3 0 (by simp [MemPlace.row])).2 u v (by simpa using World.var?_cell TW j 0)
 have C:∀ u v,J=[.iface u v]->Value.okWide Tryz.prog W .any 0 u v:=fun u v e=>by
  subst e;exact(b 4 0 (by simp [MemPlace.row])).2 u v (by simpa using World.var?_cell c k 0)
 have D:∀ u v,K=[.iface u v]->Value.okWide Tryz.prog W .any 0 u v:=fun u v e=>by
  subst e;exact(b 5 0 (by simp [MemPlace.row])).2 u v (by simpa using World.var?_cell d l 0)
 obtain⟨a0,s0,rfl,L,hs0,M,rfl⟩:=errorString_of_trod Tryz.underlying82 Qa Tryz.underlying297 Tryz.underlying318 rfl rfl Tryz.underlying9 Ja Ek s B;obtain⟨a1,s1,rfl,N,O,P,rfl⟩:=errorString_of_trod Tryz.underlying82 Qa Tryz.underlying297 Tryz.underlying318 rfl rfl Tryz.underlying9 Ja Ek x C;obtain⟨a2,s2,rfl,Q,R,S,rfl⟩:=errorString_of_trod Tryz.underlying82 Qa Tryz.underlying297 Tryz.underlying318 rfl rfl Tryz.underlying9 Ja Ek A D;obtain⟨b0,T,E⟩:=(b a0.block a0.off (by simp [MemPlace.row])).1;obtain⟨b1,U,F⟩:=(b a1.block a1.off (by simp [MemPlace.row])).1;obtain⟨b2,V,G⟩:=(b a2.block a2.off (by simp [MemPlace.row])).1;have m:a0≠a1:=by rintro rfl;simp [MemPlace.row]at f
 have n:a0≠a2:=by rintro rfl;simp [MemPlace.row]at f
 have p:a1≠a2:=by rintro rfl;simp [MemPlace.row]at f
 have cell:∀ {g:Nat} {v:Value},W.cell? ⟨g,0,none⟩=some v->(Hl.all W).cell g 0=some v:=by
  intro g v h;unfold World.cell? at h;unfold Hl.cell Hl.all;cases hh:W.heap[g]? with
  | none=>simp [hh]at h
  | some o=>cases o<;>simp_all
 have c0:=cell (World.var?_cell TW j 0);have c1:=cell (World.var?_cell c k 0);have c2:=cell (World.var?_cell d l 0);refine⟨fun g=>if g=qx then a0 else if g=oI then a1 else a2,fun g hg=>?_,fun g hg=>?_,fun g h hg hh i=>?_⟩
 .rcases hg with rfl | rfl | rfl
  .exact c0
  .exact c1
  .exact c2
 .rcases hg with rfl | rfl | rfl
  .exact⟨b0,T,E⟩
  .exact⟨b1,U,F⟩
  .exact⟨b2,V,G⟩
 .rcases hg with rfl | rfl | rfl<;>rcases hh with rfl | rfl | rfl
  .exact absurd rfl i
  .exact m
  .exact n
  .exact fun e=>m e.symm
  .exact absurd rfl i
  .exact p
  .exact fun e=>n e.symm
  .exact fun e=>p e.symm
  .exact absurd rfl i
def oT:List (String×DataW Unit):=[("jalousie/jalousieref01.words",Rows.laid_jalousie_jalousieref01_words),("unicode/utf8.acceptRanges",Rows.laid_unicode_utf8_acceptRanges),("errors.errorType",Rows.laid_errors_errorType),("jalousie/hash.rounds",Rows.laid_jalousie_hash_rounds),("jalousie/store.errLost",Rows.laid_jalousie_store_errLost),("jalousie/store.errFull",Rows.laid_jalousie_store_errFull),("jalousie/store.errSpent",Rows.laid_jalousie_store_errSpent),("unicode/utf8.first",Rows.laid_unicode_utf8_first)]
def CB {v:Value} (h:W.cell? ⟨g,j,none⟩=some v):(Hl.all W).cell g j=some v:=by
 unfold World.cell? at h;unfold Hl.cell Hl.all;cases hh:W.heap[g]? with
 | none=>simp [hh]at h
 | some o=>cases o<;>simp_all
def gl7 (h:laidMetH Tryz.prog oT W):∃ a,Gl (Hl.all W) a:=by
 have b:=h.filter fun x=>x.1== "jalousie/store.errLost"|| x.1== "jalousie/store.errFull"|| x.1== "jalousie/store.errSpent"
 have e:(oT.filter fun x=>x.1== "jalousie/store.errLost"|| x.1== "jalousie/store.errFull"|| x.1== "jalousie/store.errSpent")=VK:=by kernel_rfl
 rw[e]at b;exact Jb b
def Lp {n:String} (hn:Tryz.prog.globalNamed n=some g) (a:(Tryz.prog.globals[g]?).map (·.type)=some 175) (h:laidMet Tryz.prog [(n,.agg (E4.map fun z=>.lit (.int .u32 z)))] W):yT (Hl.all W) g:=by
 obtain⟨ps,⟨k,t',cs,fuel,p,q,hg,e,hv,hd,_,_⟩,_,_⟩:=h;obtain rfl:=acE (hn.symm.trans hg);obtain rfl:=acE (a.symm.trans e);obtain⟨xs,m,_,ex,_,hl,b⟩:=DataW.trod_array Tryz.underlying175 hd;have f:Tryz.prog.cellsOf 173=1:=by kernel_rfl
 have hlen:E4.length=64:=by kernel_rfl
 intro r hr;have d:=b r hr;rw[f,afB,aad ah]at d;obtain⟨z,e1,i,_⟩:=DataW.trod_int Tryz.underlying173 d;have j:(xs.map (·.1))=E4.map fun n=>.lit (.int .u32 n):=(DataW.agg.inj (Prod.mk.inj ex).1).symm;have c:(xs.map (·.1))[r]?=(E4.map fun n=>(DataW.lit (.int .u32 n):DataW Unit))[r]?:=by rw[j]
 rw[abl,abl,aad (by omega:r<xs.length),aad (by omega:r<E4.length),i]at c;have hz:z=E4.getD r 0:=by
  simp only[acr,aa3,DataW.lit.injEq,Lit.int.injEq,acu]at c;rw[c,List.getD,aad (by omega:r<E4.length)];rfl
 refine CB ?_;rw[World.var?_cell hg hv r,<-hz];have:cs.toList[r]?=some (.int .u32 z):=by
  have h0:((cs.toList.drop r).take 1)[0]?=some (.int .u32 z):=by rw[e1];rfl
  simpa using h0
 simpa using this
def adI:Tryz.prog.globalNamed "jalousie/hash.rounds"= some 2:=by kernel_rfl
def adL:(Tryz.prog.globals[2]?).map (·.type)=some 175:=by kernel_rfl
def aaT (h:laidMetH Tryz.prog oT W):yT (Hl.all W) 2:=by
 have a:=h.filter fun x=>x.1== "jalousie/hash.rounds";have e:(oT.filter fun x=>x.1== "jalousie/hash.rounds")=[("jalousie/hash.rounds",.agg (E4.map fun z=>.lit (.int .u32 z)))]:=by kernel_rfl
 rw[e,MakeChecks.laidMetH_plain _ _ _ zzK]at a;exact Lp adI adL a
def adJ:Tryz.prog.globalNamed "jalousie/jalousieref01.words"= some 0:=by kernel_rfl
def adM:(Tryz.prog.globals[0]?).map (·.type)=some 175:=by kernel_rfl
def aaU (h:laidMetH Tryz.prog oT W):yT (Hl.all W) 0:=by
 have a:=h.filter fun x=>x.1== "jalousie/jalousieref01.words";have e:(oT.filter fun x=>x.1== "jalousie/jalousieref01.words")=[("jalousie/jalousieref01.words",.agg (E4.map fun z=>.lit (.int .u32 z)))]:=by kernel_rfl
 rw[e,MakeChecks.laidMetH_plain _ _ _ zzK]at a;exact Lp adJ adM a
def adH:Tryz.prog.globalNamed "errors.errorType"= some 1:=by kernel_rfl
def adK:(Tryz.prog.cutTypes.find? (·.1== "internal/reflectlite.rtype")).map (·.2)=some 254:=by kernel_rfl
def aaw:((List.range Tryz.prog.types.size).filter fun t=>Tryz.prog.rowNamed t [101,114,114,111,114])=[82]:=by kernel_rfl
def adA (h:laidMetH Tryz.prog oT W):(Hl.all W).cell 1 0=some Ga:=by
 have a:=(laidMetH_iff.1 h).2;have e:(oT.filter fun x=>x.2.handleName?.isSome)=[("errors.errorType",Rows.laid_errors_errorType)]:=by kernel_rfl
 rw[e]at a;obtain⟨name,u,ty,e1,c,d,f,b⟩:=a _ (aaQ.2 rfl);have g:name=[101,114,114,111,114]:=(acE e1).symm;subst g;obtain rfl:=acE (adK.symm.trans c);have hm:ty∈(List.range Tryz.prog.types.size).filter fun t=>Tryz.prog.rowNamed t [101,114,114,111,114]:=afq.2 ⟨acv.2 d,f⟩;rw[aaw]at hm;obtain rfl:=aaQ.1 hm;have hh:typeHandle Tryz.prog 82=.pointer (some ⟨9,82,none⟩):=by kernel_rfl
 rw[hh]at b;refine CB ?_;unfold Ga;simpa using World.var?_cell adH b 0
def rE:List (String×DataW Unit):=oT.filter fun x=>x.2.handleName?.isNone
noncomputable def E8 (os:Os):World:=(World.doorLaid Tryz.prog 400 os).layVars Tryz.prog rE
def OA (os:Os):(E8 os).os=os:=(World.layVars_os _ _ _).trans rfl
def MZ (os:Os) (args:Array Value):laidMetH Tryz.prog oT ((E8 os).forCall (fun _ _=>0) ⟨#[],args,[]⟩).memory:=by
 have e1:(rE.filter fun x=>(rE.map (·.1)).contains x.1)=rE:=List.filter_eq_self.2 fun x hx=>afy.2 (acw.2 ⟨x,hx,rfl⟩);have a:(rE.filter fun x=>!(rE.map (·.1)).contains x.1)=[]:=List.filter_eq_nil_iff.2 fun x hx=>by rw[afy.2 (acw.2 ⟨x,hx,rfl⟩)];simp
 have h:laidMet Tryz.prog rE (E8 os):=laidMet_layVars (w0:=World.doorLaid Tryz.prog 400 os) (rE.map (·.1)) [] (by rw[e1];rfl) (by rw[e1];kernel_rfl) (by rw[e1];kernel_rfl) (by rw[a];exact LaidIn.none);refine laidMetH_of_parts3 (fuel:=8) (h.of_heap (by simp [World.memory,World.forCall,Input.heap])) zzK zzK
end Go.Proofs.YtbdikjnpbnobcaaGreatDoor
