/- RelayPlays. -/
import Derived.ProofKit
import Derived.OpenShut
import Derived.Deep.Slices
import Derived.ChangeSame
import Derived.Test.YtomdimlnggpgbaaGreatDoorCards
import Derived.LaidMore
import Derived.LaidHandle
import Derived.Stop.Joined
import Derived.Stop.LaidErr
import Derived.LaidSub
import Derived.Test.YtomdimlnggpgbaaGreatDoorTN
set_option linter.all false
set_option maxHeartbeats 4000000
namespace Go.Proofs.YtomdimlnggpgbaaGreatDoor.D
open Go Go.Sx
variable {D:DM}{c k key l x y:Int}{bs ks now was:List Int}{n:Nat}
def gx (fate:List Int) (i:Nat):Int:=if fate=[]then 0 else fate.getD (i%fate.length) 0
def nU (loose:List (Int×List Int)) (k:Int):List Int:=match loose.find? fun p=>p.1==k with
 | some p=>p.2
 | none=>[]
def pf (now:List Int) (k:Int):List Int:=(now.drop (64*k.toNat)).take 64
def mK (loose:List (Int×List Int)) (fate now ks:List Int):Nat->List Int
 | 0=>now
 | i+1=>bE (mK loose fate now ks i) (64*(ks.getD i 0).toNat) (nP (nU loose (ks.getD i 0)) (pf (mK loose fate now ks i) (ks.getD i 0)) (gx fate i))
def uM (D:DM) (fate:List Int):DM:=⟨D.n,mK D.loose fate D.now (pg (D.loose.map (·.1))) D.loose.length,[],-1,false⟩
def mM {D:DM} (h:D.ok) (fate ks:List Int) (hk:∀ k∈ks,0<=k/\k<D.n):∀ i,i<=ks.length->(mK D.loose fate D.now ks i).length=64*D.n
 | 0,_=>h.now
 | i+1,hi=>by
  have ih:=mM h fate ks hk i ah;have hm:ks.getD i 0∈ks:=by
   rw[aak,aab ah,abo];exact abp _
  have hb:=hk _ hm;unfold mK;rw[r8 (by rw[uB,ih];omega),ih]
def K0 (h:D.ok) (fate:List Int):(uM D fate).ok:=by
 refine⟨mM h fate _ (fun k hk=>?_) _ (by rw[DH,aaz];exact aaw _),h.n,by show(-1:Int)<= -1;omega,by show(-1:Int)<=_;omega,fun p hp=>by cases hp⟩;obtain⟨p,hp,rfl⟩:=aaQ.1 (B0.1 hk);exact(h.loose p hp).2
def Q2 {F:Hl} {e:TypeId} (h:aN F e 1 (.slice (az x y) l.toNat c.toNat) n (ks.map (Value.int .i64))) (hx:-1<=x) (hy:0<=y) (hl:0<=l):l=n/\n=ks.length/\∀ j:Nat,j<n->0<=x/\F.cell x.toNat (y.toNat+j)=some (.int .i64 (ks.getD j 0)):=by
 obtain⟨hlen,h⟩:=h;rw[aaz,ab8]at hlen;rcases h with ⟨h,hn⟩ | ⟨g,cap,cur,h,hg,hle,hm,hs,ht⟩
 .simp only[Value.slice.injEq]at h;exact⟨ah,hlen.symm,fun j hj=>ah⟩
 .simp only[Value.slice.injEq]at h;obtain⟨h1,h2,h3⟩:=h;refine⟨ah,hlen.symm,fun j hj=>?_⟩;have hx0:0<=x:=by
   rcases abu x 0 with h | h
   .rw[show x= -1 by omega,fb]at h1;cases h1
   .exact h
  rw[au hx0]at h1;simp only[aai,Addr.mk.injEq,aat]at h1;obtain⟨rfl,h1⟩:=h1;refine⟨hx0,?_⟩;unfold Hl.cell;rw[hg,h1,aaI];have:cur.toList[j]?=some (.int .i64 (ks.getD j 0)):=by
   have e:(ks.map (Value.int .i64))[j]?=some (.int .i64 (ks.getD j 0)):=by
    rw[aao,aab ah,aak,aab ah];rfl
   rw[<-ht,aaX,aav ah]at e;exact e
  simpa using this
def Ly {loose:List (Int×List Int)} : ∀ (n:Nat),(∃ p∈loose,p.1=k)->∃ j,iK k (lv loose) n=some (j,.agg (aM (nU loose k)).toArray):=by
 induction loose with
 | nil=>rintro n ⟨p,hp,_⟩;cases hp
 | cons p l ih =>
  rintro n hex;show ∃ j,(if k=p.1 then some (n,Value.agg (aM p.2).toArray)else iK k (lv l) (n+1))=_;by_cases hk:k=p.1
  .subst hk;rw[aav rfl];exact⟨n,by simp [nU]⟩
  .rw[aan hk];obtain⟨q,hq,e⟩:=hex;have hq':q∈l:=by
    rcases aar.1 hq with rfl | h
    .exact absurd e.symm hk
    .exact h
   obtain⟨j,hj⟩:=ih (n+1) ⟨q,hq',e⟩;refine⟨j,by rw[hj];simp [nU,show(p.1==k)=false by simpa using fun e=>hk e.symm]⟩
def DT (h:D.ok) (hex:∃ p∈D.loose,p.1=k):(nU D.loose k).length=64:=by
 unfold nU;split
 .rename_i p hp;exact(h.loose p (ac6 hp)).1
 .rename_i hn;obtain⟨p,hp,e⟩:=hex;have:=ab0.1 hn p hp;simp [e]at this
def Nj (D:DM) (fate:List Int) (s:Nat) (j:Nat) (q:Env):Prop:=match j with
 | 0=>∃ i:Nat,q.i 30=i/\i<=D.loose.length/\q.h 31=jv s (mK D.loose fate D.now (pg (D.loose.map (·.1))) i)
 | _=>q.i 33=gx fate (q.i 30).toNat
def yv:List Sx.Spec:=[qZ,Gk]
def K4:∀ t∈yv,t.OK Tryz.prog:=by
 intro t ht;simp only[yv,aar,aaB,abe]at ht;rcases ht with rfl | rfl
 .exact ID
 .exact PK
def yu:Sx.Spec where
 fn:=18
 own:=[.arg 0]
 rd:=[1]
 res:=[]
 pre:=fun xs Hs Rs=>∃ p u bs H R D,xs=[p,u]/\Hs=[H]/\Rs=[R]/\aE H p D/\fu R u bs/\(∀ b∈bs,0<=b/\b<256)/\D.loose.length<=1000000
 post:=fun xs Hs Rs v Hs' F=>∃ p u bs H R D H',xs=[p,u]/\Hs=[H]/\Rs=[R]/\aE H p D/\fu R u bs/\Hs'=[H']/\aE H' p (uM D bs)
def To:aG Tryz.prog yv yu.fn where
 Λ:=fun p=>if lp p then some ⟨0,[(14,TI .i64 (.var 30))],[(1,.hp 31 [] [.var 6] [])],32⟩else
  if cutAt p [18,0,1,0,0,1,1,0,0,1,1,0]then some ⟨1,[(6,TI .u8 (.var 33))],[],34⟩else none
 args:=[TP (.var 0) (.lit 0),.sv (.one (.sl (.var 1) (.var 2) (.var 3) (.var 4)))]
 mem:=uN++[.ro 15 [.var 1] false]
 nv:=16
def YM:yv[0]?=some qZ:=rfl
def YN:qZ.res=[.one .sl]:=rfl
def kr1:Gk.res=[.agg dq]:=rfl
def YL:(aK 0 [Cp.one .sl]≠[])=True:=by simp [aK,Cp.roots,Ck.root]
def PL (h1:was.length=64) (h2:now.length=64) (k0:0<=k/\k<256):Gk.pre [.agg (aM was).toArray,.agg (aM now).toArray,.int .u8 k] [] []:=by
 obtain⟨a,_,_,ea⟩:=cH dq 0 (aM was) (aY fun _=>0) (gY 64 _ h1);obtain⟨b,gb,_,eb⟩:=cH dq 64 (aM now) a (gY 64 _ h2);obtain⟨c,gc,_,ec⟩:=cH [.int .u8] 128 [.int .u8 k] b ⟨by simp [bp,kc],zzT⟩;have gac:ai 64 a c:=gb.tr gc;have e1:(al 0 dq).map (CV.ev c)=aM was:=by rw[CV.ga gac _ (cw dq 0)];exact ea
 have e2:(al 64 dq).map (CV.ev c)=aM now:=by rw[CV.ga gc _ (cw dq 64)];exact eb
 refine⟨⟨c,⟨jc c 64 0,jc c 64 64,zzT,zzT⟩,?_⟩,k0⟩;show [Value.agg (aM was).toArray,Value.agg (aM now).toArray,Value.int .u8 k]=[Value.agg ((al 0 dq).map (CV.ev c)).toArray,Value.agg ((al 64 dq).map (CV.ev c)).toArray,CV.ev c (.int .u8 (.var 128))];rw[e1,e2];have ec:[CV.ev c (.int .u8 (.var 128))]=[Value.int .u8 k]:=ec;rw[aag]at ec;rw[ec.1]
def CH (hb:∀ b∈bs,0<=b/\b<256) (i:Nat):0<=gx bs i/\gx bs i<256:=by
 unfold gx;split
 .omega
 .rename_i h;have hl:0<bs.length:=adu.2 h;have hm:=adb i hl;rw[aak,aab hm,abo];exact hb _ (abp _)
def FZ (s:Nat) (key:Int):∀ j z,(pf now key)[j]?=some z->(jv s now).cell s (64*key.toNat+j)=some (.int .u8 z):=by
 intro j z hz;unfold jv;rw[Hl.one_cell,abl,fF];unfold pf at hz;rw[aaX]at hz;split at hz
 .rw[aaV]at hz;rw[hz];rfl
 .cases hz
def Dv (hn:now.length=64*n) (h0:0<=key) (h1:key<n):(pf now key).length=64:=by
 unfold pf;rw[aaA,aaK,hn];omega
set_option maxRecDepth 20000 in
def K3:yu.OK Tryz.prog:=by
 refine Spec.aS K4 ?_;rintro xs Hs Rs hl1 hl2 ⟨p,u,bs,H,R,D,rfl,rfl,rfl,⟨a,s,m,es,clock,rfl,h⟩,⟨x,y,cp,rfl,hy,hR⟩,hb,hL⟩;refine⟨To,oi a s m D [x,y,bs.length,cp,0] es clock R,Nj D bs s,fun _ q=>(D.loose.length-q.i 30).toNat,?_,Jf h _ rfl _ _,(fun _ h=>nomatch h),?_⟩
 .show [Value.pointer (az (a:Int) 0),Value.slice (az x y) ((bs.length:Int)).toNat ((cp:Int)).toNat]=_;rw[jq,aaa,aaa]
 .refine aG.read [] [] [] ?_;have hρ0:∃ J,J=oi a s m D [x,y,bs.length,cp,0] es clock R:=⟨_,rfl⟩;obtain⟨J,hρ⟩:=hρ0;rw[<-hρ];have v0:J.i 0=a:=by rw[hρ];rfl
  have v1:J.i 1=x:=by rw[hρ];rfl
  have v2:J.i 2=y:=by rw[hρ];rfl
  have v3:J.i 3=bs.length:=by rw[hρ];rfl
  have v6:J.i 6=s:=by rw[hρ];rfl
  have v7:J.i 7=0:=by rw[hρ];rfl
  have v8:J.i 8=D.n:=by rw[hρ];rfl
  have v10:J.i 10=m:=by rw[hρ];rfl
  have vh:J.h 13=jv s D.now:=by rw[hρ];rfl
  have vm:J.h 14=Hl.one m (.map es clock):=by rw[hρ];rfl
  have vr:J.h 15=R:=by rw[hρ];rfl
  have hmem:(Hl.one m (.map es clock)) m=some (.map es clock):=Hl.aT _ _;have hlv:(lv D.loose).map (·.1)=D.loose.map (·.1):=by unfold lv;rw[abg];rfl
  simp only[go_sem,Nat.reduceAdd,YM,yv,YN,kr1,tH];intro q1 g1 ha1;have hx16:0<=q1.i 16:=by first | exact ha1 | exact ha1.1 | omega
  have e10:q1.i 10=m:=by rw[g1.i 10,v10]
  have e14:q1.h 14=Hl.one m (.map es clock):=by rw[g1.h 14,vm]
  have ecell:∀ T,(Hl.one (q1.i 16).toNat (Obj.cells #[Value.map (if q1.i 10= -1 then none else some (q1.i 10).toNat)] T)).cell (q1.i 16).toNat 0=some (.map (some m)):=by
   intro T;rw[Hl.one_cell,e10,aan ah,aaa];rfl
  refine⟨⟨(q1.i 16).toNat,m,es,clock,lv D.loose,_,_,by rw[au hx16];rfl,rfl,ecell _,by rw[e14];exact hmem,h.map,h.st,fun p hp=>?_,by rw[Bu];exact hL⟩,fun q2 g2 ⟨F,⟨x',m',es',clock',l',R1,R2,hxx,hRR,hc',hm',hM',hO⟩,hF,hn⟩=>?_⟩
  .unfold lv at hp;obtain⟨r,hr,rfl⟩:=aaQ.1 hp;have:=(h.ok.loose r hr).2;have:=h.ok.n;exact⟨by show _<=r.1;omega,by show r.1<=_;omega⟩
  cases hRR;rw[au hx16]at hxx;simp only[aag,Value.func.injEq,aaG,aaT,Value.pointer.injEq,aai,Addr.mk.injEq,aat,aaY]at hxx;have hxx:(q1.i 16).toNat=x':=by first | exact hxx | exact hxx.1
  subst hxx;have hc':=(ecell _).symm.trans hc';simp only[aai,Value.map.injEq]at hc';subst hc';rw[e14,hmem]at hm';simp only[aai,Obj.map.injEq]at hm';obtain⟨rfl,rfl⟩:=hm';rw[ic.inj hM' h.map,Bu,hlv]at hO;have hF:q2.h 17=F:=hF (by rw[YL];trivial);subst hF;have hn:-1<=q2.i 17/\0<=q2.i 18/\0<=q2.i 19/\0<=q2.i 20:=hn.1;obtain⟨n17,n18,n19,n20⟩:=hn;obtain⟨c19,cL,hK⟩:=Q2 hO n17 n18 n19;obtain⟨ks,hks⟩:∃ ks,ks=pg (D.loose.map (·.1)):=⟨_,rfl⟩;rw[<-hks]at hO cL hK;have hkex:∀ k∈ks,∃ p∈D.loose,p.1=k:=by
   intro k hk;rw[hks]at hk;obtain⟨p,hp,e⟩:=aaQ.1 (B0.1 hk);exact⟨p,hp,e⟩
  have hkb:∀ k∈ks,0<=k/\k<D.n:=by
   intro k hk;obtain⟨p,hp,rfl⟩:=hkex k hk;exact(h.ok.loose p hp).2
  have G2:ai 16 J q2:=g1.tr g2;refine⟨n19,⟨0,rfl,abi _,?_⟩,fun q3 g3 ⟨i,hi,hiL,h31⟩=>?_⟩
  .show q2.h 13=_;rw[G2.h 13,vh];rfl
  have G3:ai 16 J q3:=G2.tr g3;have d19:q3.i 19=D.loose.length:=by rw[g3.i 19,c19]
  rw[<-hks]at h31;refine⟨fun hlt=>?_,fun hge=>?_⟩
  .have hlt':i<D.loose.length:=ah;obtain⟨hx0,hcell⟩:=hK i hlt';obtain⟨key,hkey⟩:∃ k,k=ks.getD i 0:=⟨_,rfl⟩;rw[<-hkey]at hcell;have hmk:key∈ks:=by
    rw[hkey,aak,aab ah,abo];exact abp _
   obtain⟨k0,k1⟩:=hkb key hmk;have hw64:=DT h.ok (hkex key hmk);have hnl:(mK D.loose bs D.now ks i).length=64*D.n:=mM h.ok bs ks hkb i ah;obtain⟨now,hnow⟩:∃ now,now=mK D.loose bs D.now ks i:=⟨_,rfl⟩;rw[<-hnow]at hnl h31;have hs64:=Dv hnl k0 k1;have hc17:∀ q,ai 21 q3 q->q.i 30=i->(q.h 17).cell (q.i 17).toNat (q.i 18+q.i 30).toNat=some (.int .i64 key):=by
    intro q g e;rw[g.h 17,g.i 17,g.i 18,g3.h 17,g3.i 17,g3.i 18,e,show(q2.i 18+i).toNat=(q2.i 18).toNat+i by omega];exact hcell
   have ht:(i:Int).tmod (bs.length:Int)=((i%bs.length:Nat):Int):=rfl;refine⟨by rw[g3.i 17];omega,by rw[g3.i 18];omega,ah,by rw[hc17 q3 (ai.refl _ _) hi];rfl,⟨by rw[G3.i 3,v3];omega,fun h3=>?_,fun h3=>?_⟩,fun q4 g4 h33=>?_⟩
   .rw[G3.i 3,v3]at h3;have hne:bs≠[]:=by rintro rfl;simp at h3
    have hxr:0<=x/\∀ j z,bs[j]?=some z->R.cell x.toNat (y.toNat+j)=some (.int .u8 z):=by
     rcases hR with h | h
     .exact absurd h hne
     .exact h
    have hl:0<bs.length:=ah;have hm:=adb i hl;have hcR:(q3.h 15).cell (q3.i 1).toNat (q3.i 2+(q3.i 30).tmod (q3.i 3)).toNat=some (.int .u8 bs[i%bs.length]):=by
     rw[G3.h 15,G3.i 1,G3.i 2,G3.i 3,vr,v1,v2,v3,hi,ht,show(y+((i%bs.length:Nat):Int)).toNat=y.toNat+i%bs.length by omega];exact hxr.2 _ _ (aab hm)
    refine⟨by rw[G3.i 1,v1];exact hxr.1,by rw[G3.i 2,v2];exact hy,by rw[hi,G3.i 3,v3,ht];omega,by rw[hi,G3.i 3,v3,ht];omega,by rw[hcR];rfl,?_⟩;show bS ((q3.h 15).cell (q3.i 1).toNat (q3.i 2+(q3.i 30).tmod (q3.i 3)).toNat)=gx bs (q3.i 30).toNat;rw[hcR,hi,aaa];unfold gx;rw[aan hne,aak,aab hm];rfl
   .rw[G3.i 3,v3]at h3;have hne:bs=[]:=aad.1 ah;show(0:Int)=gx bs (q3.i 30).toNat;unfold gx;rw[aav hne]
   .have G4:ai 16 J q4:=G3.tr g4;have e30:q4.i 30=i:=by rw[g4.i 30,hi]
    have e31:q4.h 31=jv s now:=by rw[g4.h 31,h31]
    have h33:q4.i 33=gx bs i:=by
     have h33:q4.i 33=gx bs (q4.i 30).toNat:=h33;rw[h33,e30,aaa]
    have ek:bS ((q4.h 17).cell (q4.i 17).toNat (q4.i 18+q4.i 30).toNat)=key:=by rw[hc17 q4 g4.mono e30];rfl
    have d6:q4.i 6=s:=by rw[G4.i 6,v6]
    have d7:q4.i 7=0:=by rw[G4.i 7,v7]
    have d8:q4.i 8=D.n:=by rw[G4.i 8,v8]
    have d10:q4.i 10=m:=by rw[G4.i 10,v10]
    have d14:q4.h 14=Hl.one m (.map es clock):=by rw[G4.h 14,vm]
    have hat:((0:Int)+key*64).toNat=64*key.toNat:=ah;obtain⟨jw,hjw⟩:=Ly (k:=key) 0 (hkex key hmk);rw[ek,d6,d7,d8,d10,d14,e31,hat,aaa,aaa];refine⟨ah,ah,k0,k1,cW (FZ s key) (by rw[hs64];decide),⟨ah,es,clock,_,hmem,iJ h.map key,fun j v hv=>?_⟩,fun q5 g5 hq5=>?_⟩
    .rw[hjw]at hv;cases hv;refine⟨_,rfl,?_⟩;show(aM _).map kW=_;rw[Ek,hw64]
    obtain⟨hval,_⟩:=hq5 es clock _ hmem (iJ h.map key);rw[hjw]at hval;have hval:Value.agg ((al 34 dq).map (CV.ev q5)).toArray=.agg (aM (nU D.loose key)).toArray:=hval;have ek5:bS ((q5.h 17).cell (q5.i 17).toNat (q5.i 18+q5.i 30).toNat)=key:=by rw[hc17 q5 (g4.mono.tr g5) (by rw[g5.i 30,e30])];rfl
    have hsec:∀ q,ai 34 q4 q->(aU 31 (.var 6) (.add (.var 7) (.mul (.hI 17 (.var 17) (.add (.var 18) (.var 30)) 0) (.lit 64))) 0 (List.replicate 64 (Kd.int .u8))).map (CV.ev q)=aM (pf now key):=by
     intro q g;have e:bS ((q.h 17).cell (q.i 17).toNat (q.i 18+q.i 30).toNat)=key:=by rw[hc17 q (g4.mono.tr g) (by rw[g.i 30,e30])];rfl
     refine gO 64 0 _ hs64 fun j z hz=>?_;simp only[bJ,cj,ak,aq,dw,aaW];rw[e,g.h 31,g.i 6,g.i 7,e31,d6,d7,hat,aaa,aaI];exact FZ s key j z hz
    have e33:q5.i 33=gx bs i:=by rw[g5.i 33,h33]
    have hpre:∀ l,l=[Value.agg (aM (nU D.loose key)).toArray,Value.agg (aM (pf now key)).toArray,Value.int .u8 (gx bs i)]->Gk.pre l [] []:=by
     rintro l rfl;exact PL hw64 hs64 (CH hb i)
    have hargs:[Value.agg ((al 34 dq).map (CV.ev q5)).toArray,Value.agg ((aU 31 (.var 6) (.add (.var 7) (.mul (.hI 17 (.var 17) (.add (.var 18) (.var 30)) 0) (.lit 64))) 0 (List.replicate 64 (Kd.int .u8))).map (CV.ev q5)).toArray,Value.int .u8 (q5.i 33)]=[Value.agg (aM (nU D.loose key)).toArray,Value.agg (aM (pf now key)).toArray,Value.int .u8 (gx bs i)]:=by
     rw[hval,hsec q5 g5,e33]
    refine⟨hpre _ hargs,fun q6 g6 ⟨_,hv6,_⟩=>?_⟩;have hv6:Value.agg ((al 99 dq).map (CV.ev q6)).toArray=.agg (aM (nP (nU D.loose key) (pf now key) (gx bs i))).toArray:=by
     have hv6:Value.agg ((al 99 dq).map (CV.ev q6)).toArray=PI [Value.agg ((al 34 dq).map (CV.ev q5)).toArray,Value.agg ((aU 31 (.var 6) (.add (.var 7) (.mul (.hI 17 (.var 17) (.add (.var 18) (.var 30)) 0) (.lit 64))) 0 (List.replicate 64 (Kd.int .u8))).map (CV.ev q5)).toArray,Value.int .u8 (q5.i 33)]:=hv6;rw[hv6,hargs];show Value.agg (aM (nP (fy _) (fy _) _)).toArray=_;rw[sq,sq]
    have hv6:(al 99 dq).map (CV.ev q6)=aM (nP (nU D.loose key) (pf now key) (gx bs i)):=by
     simpa using hv6
    have g46:ai 34 q4 q6:=g5.tr g6;have ek6:bS ((q6.h 17).cell (q6.i 17).toNat (q6.i 18+q6.i 30).toNat)=key:=by rw[hc17 q6 (g4.mono.tr g46) (by rw[g46.i 30,e30])];rfl
    rw[ek6,g46.i 6,g46.i 7,g46.h 31,d6,d7,e31,hat,aaa];have hv6':(al 99 (List.replicate 64 (Ck.int .u8))).map (CV.ev q6)=aM (nP (nU D.loose key) (pf now key) (gx bs i)):=hv6;have hlen:(al 99 (List.replicate 64 (Ck.int .u8))).length=64:=by decide
    refine⟨⟨ah,ah,?_⟩,fun q7 g7 hq7=>?_⟩
    .rw[hlen];exact Hl.C8 _ _ _ _ _ (by rw[abW,bX,hnl];omega)
    .rw[hv6',Eu]at hq7;have f30:q7.i 30=i:=by rw[g7.i 30,g46.i 30,e30]
     have w:IntKind.i64.wrap ((i:Int)+1)=i+1:=wrap_i64 ah ah;have m30:(assign q7 [⟨30,0,.int .i64 (.wrap .i64 (.add (.var 30) (.lit 1)))⟩] [(31,some 163)]).i 30=i+1:=by
      show IntKind.i64.wrap (q7.i 30+1)=_;rw[f30,w]
     refine⟨⟨i+1,by rw[m30];omega,ah,?_⟩,?_⟩
     rotate_left
     .show((D.loose.length:Int)-(assign q7 [⟨30,0,.int .i64 (.wrap .i64 (.add (.var 30) (.lit 1)))⟩] [(31,some 163)]).i 30).toNat<((D.loose.length:Int)-q3.i 30).toNat;rw[m30,hi];omega
     show q7.h 163=_;rw[hq7,<-hks];show _=jv s (bE (mK D.loose bs D.now ks i) (64*(ks.getD i 0).toNat) (nP (nU D.loose (ks.getD i 0)) (pf (mK D.loose bs D.now ks i) (ks.getD i 0)) (gx bs i)));rw[<-hkey,<-hnow]
  .have hi:i=D.loose.length:=ah;subst hi;rw[G3.i 10,v10,G3.h 14,vm,aaa];refine⟨⟨ah,es,clock,hmem⟩,fun q4 g4 hq4 _=>?_⟩;have hq4:=hq4 es clock hmem;rw[Hl.sE]at hq4;have G4:ai 15 J q4:=(G3.tr g4).mono ah;rw[hρ]at G4;refine⟨[[0,1,2]],[],rfl,rfl,⟨(aY fun _=>0),rfl,zzT⟩,_,_,bs,H,R,D,_,rfl,rfl,rfl,⟨a,s,m,es,clock,rfl,h⟩,⟨x,y,cp,rfl,hy,hR⟩,rfl,?_⟩;refine VN (es':=#[]) (clock':=clock) h G4 (K0 h.ok bs) rfl rfl (MapKept.stamped_empty _) (aq _ _) rfl ?_ hq4;rw[g4.h 31,h31,hks];rfl
end Go.Proofs.YtomdimlnggpgbaaGreatDoor.D
namespace Go.Proofs.YtomdimlnggpgbaaGreatDoor
open Go Go.Sx Go.Pk
open Go.Proofs.YtomdimlnggpgbaaGreatDoor.D hiding aO aD fN
variable {D:DM}{F H R R' R1 R2 RG T U:Hl}{g:Int}{row:List Value}{K k m n x:Nat}{st st2:Nat->List Pc}{c p:Pc}{S:SM}{dp pr u v:Value}
def GZ (h:pD D) (hl:D.loose=[]) (fate:List Int):uM D fate=D:=by
 have e:uM D fate=⟨D.n,D.now,[],-1,false⟩:=by unfold uM;rw[hl];rfl
 rw[e];obtain⟨n,now,loose,fuse,gone⟩:=D;have h1:=h.fuse;have h2:=h.gone;simp only at h1 h2 hl;rw[h1,h2,hl]
def SP.Sp (h:SP D S n g K):S.LA.most=64*((n:Int)-2)/\S.LB.most=64*((n:Int)-2)/\(S.bA.length:Int)<=64*((n:Int)-2)/\(S.bB.length:Int)<=64*((n:Int)-2)/\n<=8192:=by
 have h1:=h.hA.len;have h2:=h.hB.len;have h3:=h.hA.sure.ok.n;have h4:=h.hn;exact⟨by rw[h.eA],by rw[h.eB],h1,h2,ah⟩
def SP.Qa (h:SP D S n g K) {rows:List (List Int)} (hk:ib rows) (hf:64*((n:Int)-2)-S.bA.length<(bF rows).length):cN D S rows=⟨4,D,S⟩:=by
 have hm:=h.Sp;have hne:rows≠[]:=fun e=>by
  rw[e]at hf;have:(bF ([]:List (List Int))).length=0:=rfl;omega
 unfold cN;rw[aan (by rw[h.ov];simp),aan (fun h'=>h' hk),aan hne,aav (by rw[hm.1];exact hf)]
def Uh (hx:fP R1 R2 row p) (hF:p.h.Form) (hl:p.b.length<=4096):D7 (cy p) p:=by
 have e:bc p.h=sZ p.h:=by unfold bc;rw[aav hF]
 have h1:=CO hx.hd;have e1:bf (cy p) false 4096=(sZ p.h,aI p.b,false):=by
  have:=DP (r:=bc p.h) (rest:=aI p.b) ah;rw[<-e];exact this
 have e2:bf (aI p.b) false 4096=(p.b,[],false):=by
  have:=DP (r:=p.b) (rest:=[]) hl;rwa[aa6]at this
 exact⟨hF,by rw[e1],by rw[e1];show(bf (aI p.b) false 4096).2=_;rw[e2],by rw[e1];show _=(bf (aI p.b) false 4096).1;rw[e2],_,_,_,hx⟩
structure AN (n k:Nat) (D:DM) (S:SM) (st:Nat->List Pc):Prop where
 sp:∃ K,Nonempty (SP D S n 0 K)/\K<=k
 rl:S.recs.length<=k
 rb:∀ r∈S.recs,r.length<=4096/\ar r
 ln:∀ i,i<6->(st i).length<=k
 gd:Good st
 ld:Ld S.recs st
section
variable {n k:Nat} {D:DM} {S:SM} {st:Nat->List Pc}
def AN.short (h:AN n k D S st) (hk:k<=100):ma st:=fun i hi=>by have:=h.ln i hi;omega
def AN.pre (h:AN n k D S st) (hk:k<=100):S.bA.length<=1048576/\0<=S.LA.serial/\S.recs.length<=1000000000/\S.over=false/\S.bA.length<=64*8192:=by
 obtain⟨K,⟨hP⟩,hK⟩:=h.sp;obtain⟨_,_,h1,_,h2⟩:=hP.Sp;have h3:=h.rl;exact⟨ah,by rw[hP.eA];exact ab1 _,ah,hP.ov,ah⟩
def AN.open (h:AN n k D S st):fz D=0/\bY D=S/\ar (lV D)/\ar (ij D):=by
 obtain⟨K,⟨hP⟩,hK⟩:=h.sp;exact hP.open
def AN.R8 (h:AN n k D S st) (fate:List Int):uM D fate=D/\D.loose.length<=1000000:=by
 obtain⟨K,⟨hP⟩,hK⟩:=h.sp;exact⟨GZ hP.hA.sure hP.loose fate,by rw[hP.loose];exact abi _⟩
def AN.more (h:AN n k D S st):AN n (k+1) D S st:=by
 obtain⟨K,hP,hK⟩:=h.sp;exact⟨⟨K,hP,ah⟩,by have:=h.rl;omega,h.rb,(fun i hi=>by have:=h.ln i hi;omega),h.gd,h.ld⟩
def AN.new (h:6<=m/\m<=16384):AN (m/2) 0 (fL m) (bY (fL m)) (fun _=>[])/\(bY (fL m)).bA.length=0:=by
 obtain⟨⟨hP⟩,hr,hE⟩:=SP.new h;refine⟨⟨⟨0,⟨hP⟩,aaw _⟩,by rw[hr];exact aaw _,(fun r hr'=>by rw[hr]at hr';cases hr'),(fun _ _=>aaw _),(fun _ _ _ h=>by cases h),by rw[hr];exact Ld.nil⟩,?_⟩;rw[hP.pk,hr];rfl
def Good.put (h:Good st) (hb:ar p.b/\p.b.length<=1000000):Good (cR st p):=by
 unfold cR;split
 .intro i hi q hq;unfold vH at hq;split at hq
  .rename_i e;rcases aaR.1 hq with h1 | h1
   .exact h _ (e▸hi) q h1
   .rw[aal]at h1;rw[h1];exact hb
  .exact h i hi q hq
 .exact h
def AN.push (h:AN n k D S st) (hk:k<=100) (hx:fP R1 R2 row c) (hc:c.b.length<=2100) :
 (bo st c≠0->bN D S st c=⟨bo st c,D,S,st⟩) /\
 (bo st c=0->64*((n:Int)-2)-S.bA.length<(bF [cy c]).length->bN D S st c=⟨4,D,S,st⟩) /\
 (bo st c=0->¬64*((n:Int)-2)-S.bA.length<(bF [cy c]).length->(bN D S st c).e=0/\(bN D S st c).st=cR st c/\((bN D S st c).S.bA.length:Int)=S.bA.length+(bF [cy c]).length) /\
 AN n (k+1) (bN D S st c).D (bN D S st c).S (bN D S st c).st:=by
 obtain⟨K,⟨hP⟩,hK⟩:=h.sp;have hrl:=(xS hx hc).1;have hpk:ib [cy c]:=fun r hr=>by rw[aal.1 hr];omega
 have h1:bo st c≠0->bN D S st c=⟨bo st c,D,S,st⟩:=fun e=>by unfold bN;rw[aav e]
 have h2:bo st c=0->64*((n:Int)-2)-S.bA.length<(bF [cy c]).length->bN D S st c=⟨4,D,S,st⟩:=fun e hf=>by
  unfold bN;rw[aan (fun h=>h e),hP.Qa hpk hf];rfl
 refine⟨h1,h2,?_⟩;by_cases e:bo st c=0
 .by_cases hf:64*((n:Int)-2)-S.bA.length<(bF [cy c]).length
  .rw[h2 e hf];exact⟨fun _ h=>absurd hf h,h.more⟩
  .have hb:∀ r∈[cy c],ar r:=fun r hr=>by rw[aal.1 hr];exact vn hx
   obtain⟨a1,a2,⟨a3⟩⟩:=hP.add hpk ah hb ah;have hp:bN D S st c=⟨0,(cN D S [cy c]).D,(cN D S [cy c]).S,cR st c⟩:=by
    unfold bN;rw[aan (fun h=>h e),aan (fun h=>h a1)]
   rw[hp];refine⟨fun _ _=>⟨rfl,rfl,?_⟩,⟨K+1,⟨a3⟩,ah⟩,?_,fun r hr=>?_,fun i hi=>?_,h.gd.put ⟨hx.byte,ah⟩,?_⟩
   .show((cN D S [cy c]).S.bA.length:Int)=_;rw[a3.pk,a2,oG,aac,<-hP.pk];omega
   .show(cN D S [cy c]).S.recs.length<=k+1;rw[a2,aac,aay];have:=h.rl;omega
   .have hr:r∈(cN D S [cy c]).S.recs:=hr;rw[a2]at hr;rcases aaR.1 hr with hr | hr
    .exact h.rb r hr
    .rw[aal.1 hr];exact⟨ah,vn hx⟩
   .have:=h.ln i hi;have:=uU st c i;exact ab7 this ah
   .show Ld (cN D S [cy c]).S.recs (cR st c);rw[a2];exact h.ld.put (Uh hx (ot e).1 ah) e
 .rw[h1 e];exact⟨fun h=>absurd h e,h.more⟩
end
def Gl.mono {a:Nat->Addr} (h:Gl R a) (hl:R.le R'):Gl R' a :=
 ⟨fun g hg=>CA hl (h.cell g hg),fun g hg=>by obtain⟨c,t,e⟩:=h.bd g hg;exact⟨c,t,hl _ _ e⟩,h.ne⟩
def nZ.mono (hl:R.le R') {p:Value} (h:nZ R p st):nZ R' p st:=by
 obtain⟨r,ps,x,hp,hb,hI⟩:=h;exact⟨r,ps,x,hp,hl _ _ hb,hI.mono hl⟩
def UA (T:Hl) (h:H x=some (.cells #[.slice none 0 0,.slice none 0 0,.slice none 0 0,.slice none 0 0,.slice none 0 0,.slice none 0 0] 57 (0,0))):iT H T x (fun _=>[]) :=
 ⟨fun _=>.slice none 0 0,Hl.none,h,fun i _=>⟨[],sY.nil _ _ _,rfl,fun j row p hr=>by simp at hr⟩,fun b o hb=>(by cases hb),fun hm=>(by cases hm),fun i b _ hb=>(by cases hb),fun i _ p hp=>(by cases hp)⟩
def FM (hD:aE H dp D) {K:Hl} (h:mv.post [dp] [H] [RG] v [K] F):aE K dp D/\((∃ pv st,v=.tuple #[pv,.int .i64 0]/\Ld (bY D).recs st/\bZ F pv dp (bY D) st)\/((∀ st,¬Ld (bY D).recs st)/\v=.tuple #[.pointer none,.int .i64 2])):=by
 obtain⟨dp',H',D',RG',H2,e1,e2,e4,d1,e3,d2,h⟩:=h;simp only[aag,aat]at e1 e2 e3;subst e1 e2 e3;obtain rfl:=hD.uniq d1;exact⟨d2,h⟩
def GY (hD:aE H dp D) (h:AN n k D S st) {K:Hl} (hp:yu.post [dp,u] [H] [R] v [K] F):aE K dp D:=by
 obtain⟨p',u',bs,H',R',D',H2,e1,e2,e3,d1,_,e4,d2⟩:=hp;simp only[aag,aat]at e1 e2 e4;obtain⟨rfl,rfl⟩:=e1;subst e2 e4;obtain rfl:=hD.uniq d1;rw[(h.R8 bs).1]at d2;exact d2
def Mq (h1:nZ U pr st) (h2:iT U T x st2) (like:∀ i,i<6->st i=st2 i\/(st i).length≠(st2 i).length) (hp:qV.post [pr,.pointer (some ⟨x,0,none⟩)] [] [U] v [] F) :
 v=.bool true/\(∀ i,i<6->st i=st2 i)\/v=.bool false/\∃ i,i<6/\(st i).length≠(st2 i).length:=by
 obtain⟨pr',x',R',T',s,s2,e1,e2,k1,k2,_,hc⟩:=hp;simp only[aag,aat,Value.pointer.injEq,aai,Addr.mk.injEq]at e1 e2;obtain⟨rfl,rfl⟩:=e1;subst e2;have e:∀ i,i<6->s i=st i:=fun i hi=>by
  obtain⟨r,ps,y,hp,hr,hI⟩:=h1;obtain⟨r',ps',y',hp',hr',hI'⟩:=k1;rw[hp]at hp';obtain rfl:r=r':=by simpa using hp'
  rw[hr]at hr';obtain⟨rfl,rfl⟩:ps=ps'/\y=y':=by simpa using hr'
  exact hI'.st hI hi
 have e':∀ i,i<6->(s2 i).length=(st2 i).length:=fun i hi=>by
  obtain⟨sv,KB,hD⟩:=h2;obtain⟨sv',KB',hD'⟩:=k2;obtain⟨a1,_,a2,_⟩:=hD.sl hi;obtain⟨b1,_,b2,_⟩:=hD'.sl hi;rw[a1]at b1;rw[<-aa0 b1,a2]at b2;omega
 refine hc.imp (fun⟨hv,h⟩=>⟨hv,fun i hi=>(like i hi).resolve_right fun hn=>hn ?_⟩) (fun⟨hv,i,hi,h⟩=>⟨hv,i,hi,?_⟩)
 .rw[<-e i hi,h i hi,e' i hi]
 .rw[<-e i hi,<-e' i hi];exact h
def Pg:Sx.Spec where
 fn:=8
 own:=[]
 rd:=[0,2000000]
 res:=[.one .bool]
 pre:=fun xs Hs Rs=>∃ n v v2 T RG g rows bs,xs=[.int .u8 n,v,v2]/\Rs=[T,RG]/\(0<=n/\n<256)/\bj T v pt rows/\(∀ row∈rows,DF row 53<=20->DF row 125<=2100->∃ c,fP T T row c)/\fu T v2 bs/\(∀ b∈bs,0<=b/\b<256)/\(Gl RG g/\uJ RG 5/\RG.cell 4 0=some yG)/\uJ RG 3
 post:=fun xs Hs Rs v Hs' F=>v=.bool true
noncomputable def Re:List Sx.Spec:=[HQ,mv,qi,Nl (BU 100),uP,pF,IT Dt [6000000,6000004],IT (zV 1001053) [6000000,6000004,2000000],Ds,yu,IT qV [0,1,100]]
def Rf:∀ t∈Re,t.OK Tryz.prog:=av JN <| av Ip <| av BQ <| av (Qt (Pn _)) <| av La <| av Ed <| av (sV Mm) <| av (sV (Fy _)) <| av Mc <| av K3 <| av (sV It) <| bQ
def Uj:HQ.res=[.one .ptr]:=rfl
def Uk:mv.res=[.one .ptr,.one (.int .i64)]:=rfl
def Ul:qi.res=[.agg Sv]:=rfl
def Um:(Nl (BU 100)).res=[.one (.int .i64)]:=rfl
def Un:uP.res=[.one .bool]:=rfl
def Uo:pF.res=[.one .bool]:=rfl
def Up (l:List Nat):(IT Dt l).res=[.one (.int .i64)]:=rfl
def Uq (l:List Nat):(IT (zV 1001053) l).res=[.one (.int .i64)]:=rfl
def Ur:Ds.res=[.one .bool]:=rfl
def Us:yu.res=[]:=rfl
def Q8 (l:List Nat):(IT qV l).res=[.one .bool]:=rfl
noncomputable def SB:aG Tryz.prog Re Pg.fn where
 Λ:=fun p=>if lp p&&p.head?==some 8 then some ⟨0,[(9,.sv (.one (.hptr (.var 70) (.var 71)))),(12,TI .i64 (.var 72)),(13,TI .i64 (.var 73))],[(2,.hp 60 [] [.var 13] []),(3,.hp 61 [] [.var 70] [.var 13]),(4,.hp 62 [] [.var 18,.lit (-7)] [])],80⟩
  else if cutAt p [8,1,1,1,1,1,1,1,1,0,1,0,0,1,0,0,1,0]then some ⟨1,[],[(5,.bd 80 (al 103 gR) 67),(6,.hp 236 [] [.var 231] [])],240⟩
  else if cutAt p [8,1,1,1,1,1,1,1,1,0,1,0,0,1,0,0,1,1,1,1,1,0]then some ⟨2,[(12,TI .i64 (.var 260)),(17,TI .i64 (.var 261))],[(4,.hp 262 [] [.var 18,.lit (-7)] [])],270⟩
  else if cutAt p [8,1,1,1,1,1,1,1,1,0,1,0,0,1,0,0,1,1,1,1,1,1,1,0]then some ⟨3,[(9,.sv (.one (.hptr (.var 290) (.var 291))))],[(2,.hp 292 [] [.var 13] []),(3,.hp 293 [] [.var 290] [.var 13])],300⟩else none
 args:=[TI .u8 (.var 0),.sv (.one (.sl (.var 1) (.var 2) (.var 3) (.var 4))),.sv (.one (.sl (.var 5) (.var 6) (.var 7) (.var 8)))]
 mem:=[.ro 9 [.var 1,.var 5] true,.ro 10 [.lit 0,.lit 1,.lit 2,.lit 3,.lit 4,.lit 5] false]
 nv:=11
structure XY (T:Hl) (dp pr:Value) (z:Nat) (HD HR HX:Hl) (room:Int) (n k:Nat) (D:DM) (S:SM) (st:Nat->List Pc):Prop where
 dk:aE HD dp D
 ra:bZ HR pr dp S st
 rf:iT HX T z st
 pl:AN n k D S st
 rm:room=64*((n:Int)-2)-S.bA.length
def Dc (q:Env):List Value:=(al 103 gR).map (CV.ev q)
def FP (T:Hl) (N n:Nat):Nat->Env->Prop
 | 0,q=>∃ (k z:Nat) (D:DM) (S:SM) (st:Nat->List Pc),q.i 73=k/\k<=N/\q.i 18=z/\XY T (.pointer (az (q.i 13) (q.i 14))) (.pointer (az (q.i 70) (q.i 71))) z (q.h 60) (q.h 61) (q.h 62) (q.i 72) n k D S st
 | 1,q=>∃ c,DZ T (q.h 236) (Dc q) c/\c.b.length<=2100
 | 2,q=>∃ (k z:Nat) (D:DM) (S:SM) (st:Nat->List Pc) (c:Pc),q.i 73=k/\k<N/\q.i 18=z/\(aE (q.h 60) (.pointer (az (q.i 13) (q.i 14))) D/\bZ (q.h 61) (.pointer (az (q.i 70) (q.i 71))) (.pointer (az (q.i 13) (q.i 14))) S st/\AN n k D S st)/\(DZ T (q.h 262) (Dc q) c/\c.b.length<=2100)/\q.i 261=(bN D S st c).e/\iT (q.h 262) T z (bN D S st c).st/\q.i 260=64*((n:Int)-2)-(bN D S st c).S.bA.length
 | _,q=>∃ (k z:Nat) (D:DM) (S:SM) (st:Nat->List Pc),q.i 73=k/\k<N/\q.i 18=z/\XY T (.pointer (az (q.i 13) (q.i 14))) (.pointer (az (q.i 290) (q.i 291))) z (q.h 292) (q.h 293) (q.h 262) (q.i 260) n (k+1) D S st
set_option maxRecDepth 20000 in
def Ph:Pg.OK Tryz.prog:=by
 refine Spec.aS (Γ:=Re) Rf ?_;rintro xs Hs Rs hl1 hl2 ⟨n,v,v2,T,RG,g,rows,bs,rfl,rfl,hn,hR,hP,hB,hb,hG,hK⟩;have e0:Hs=[]:=aad.1 hl1;subst e0;obtain⟨x,y,c,rfl,hy,hRR⟩:=id hR;obtain⟨x2,y2,c2,rfl,hy2,hBB⟩:=id hB;obtain⟨N,hN⟩:∃ N:Nat,n=N:=⟨n.toNat,ah⟩;refine⟨SB,aO [n,x,y,rows.length,c,x2,y2,bs.length,c2] false [Hl.none,Hl.none,Hl.none,Hl.none,Hl.none,Hl.none,Hl.none,Hl.none,Hl.none,T,RG],
  FP T rows.length (10+N),fun j q=>(rows.length-q.i 73).toNat,?_,cO (by intro r hr;simp [SB]at hr;rcases hr with rfl | rfl<;>exact⟨_,_,_,rfl⟩) rfl,(fun _ h=>nomatch h),?_⟩
 .show [Value.int .u8 n,Value.slice (az x y) ((rows.length:Int)).toNat ((c:Int)).toNat,Value.slice (az x2 y2) ((bs.length:Int)).toNat ((c2:Int)).toNat]=_;simp only[aaa]
 refine aG.read [gR] [pt] [] ?_;generalize hρ:aO [n,x,y,rows.length,c,x2,y2,bs.length,c2] false [Hl.none,Hl.none,Hl.none,Hl.none,Hl.none,Hl.none,Hl.none,Hl.none,Hl.none,T,RG]=J;have V:∀ q:Env,ai 11 J q->q.i 0=n/\(q.i 1=x/\q.i 2=y/\q.i 3=rows.length/\q.i 4=c)/\(q.i 5=x2/\q.i 6=y2/\q.i 7=bs.length)/\q.h 9=T/\q.h 10=RG:=fun q g=>by
  rw[g.i 0,g.i 1,g.i 2,g.i 3,g.i 4,g.i 5,g.i 6,g.i 7,g.h 9,g.h 10,<-hρ];exact⟨rfl,⟨rfl,rfl,rfl,rfl⟩,⟨rfl,rfl,rfl⟩,rfl,rfl⟩
 clear hρ;simp only[go_sem,Nat.reduceAdd,Re,Uj,Uk,Ul,Um,Un,Uo,Up,Uq,Ur,Us,Q8,Gw,UL];have aw:∀ {q:Env},ai 11 J q->pF.pre [] [] [q.h 10,q.h 9]:=fun hg=>⟨RG,T,g,rfl,by rw[(V _ hg).2.2.2.1,(V _ hg).2.2.2.2],hG,hK⟩;have out:∀ {q:Env} {mem:Mem} {e:E},ba q e=true->postOf Pg [.int .u8 n,.slice (az x y) rows.length c,.slice (az x2 y2) bs.length c2] [] [T,RG] q mem (.sv (.one (.bool e))):=fun h=>Ae rfl (by show Value.bool _=_;rw[h]);refine⟨aw (ai.refl _ _),fun q1 g1 ⟨_,p1,_,_⟩=>⟨fun _=>?_,fun h=>absurd (Value.bool.inj p1) h⟩⟩;obtain⟨v0,⟨v1,v2,v3,v4⟩,_,w9,w10⟩:=V q1 g1;rw[v1,v2,v3,v4,w9,aaa,aaa];refine⟨⟨_,25,T,rows,rfl,rfl,hR,aA⟩,fun q2 g2 ⟨_,p2,_,_⟩=>?_⟩;obtain⟨zz,hz,hz2⟩:=p2 _ _ _ _ rfl rfl hR;have hz:q2.b 12=zz:=Value.bool.inj hz;have G2:ai 11 J q2:=g1.tr g2;refine⟨fun _=>⟨aw G2,fun q3 _ ⟨_,p3,_,_⟩=>out (Value.bool.inj p3)⟩,fun h12=>?_⟩;rw[hz]at h12;obtain⟨hl25,hrows⟩:=hz2 h12;have hm:6<=20+2*N/\20+2*N<=16384:=ah;obtain⟨hP0,hL0⟩:=AN.new hm;rw[show(20+2*N)/2=10+N by omega]at hP0;have e20:IntKind.i64.wrap (20+IntKind.i64.wrap (2*IntKind.i64.wrap n))=((20+2*N:Nat):Int):=by rw[hN];rw[wrap_i64 (n:=(N:Int)) ah ah,wrap_i64 (n:=2*(N:Int)) ah ah,wrap_i64 ah ah];omega
 rw[(V q2 G2).1,e20];have newP:∀ {v:Value} {F:Hl},HQ.post [.int .i64 ((20+2*N:Nat):Int)] [] [] v [] F->aE F v (fL ((20+2*N:Nat):Int)):=by
  rintro v F ⟨m,em,hD⟩;simp only[aag,Value.int.injEq,aaY,aat]at em;subst em;exact hD
 obtain⟨o1,o2,o3,o4⟩:=hP0.open;generalize fL ((20+2*N:Nat):Int)=D0 at hP0 hL0 newP o1 o2 o3 o4;refine⟨⟨_,rfl⟩,fun q3 g3 ⟨F3,p3,hF3,_⟩=>?_⟩;have hD3:=newP p3;rw[<-hF3 zzT]at hD3;have G3:ai 11 J q3:=G2.tr g3;rw[(V q3 G3).2.2.2.2];have opn:∀ {k:Nat} {D:DM} {S:SM} {st:Nat->List Pc} {H:Hl} {dp:Value},AN (10+N) k D S st->k<=100->aE H dp D->mv.pre [dp] [H] [RG]:=fun {k D S st H dp} h hk hd=>by
  obtain⟨o1,o2,o3,o4⟩:=h.open;refine⟨dp,_,D,RG,rfl,rfl,rfl,hd,o3,o4,o1,by rw[o2];have:=h.rl;omega,fun r hr=>?_,hG.2.1,hG.2.2⟩;rw[o2]at hr;have:=h.rb r hr;exact⟨ah,this.2⟩
 have opd:∀ {k:Nat} {D:DM} {S:SM} {st:Nat->List Pc} {H K F:Hl} {dp:Value} {a b e:Int},AN (10+N) k D S st->aE H dp D->mv.post [dp] [H] [RG] (.tuple #[.pointer (az a b),.int .i64 e]) [K] F->aE K dp D/\e=0/\bZ F (.pointer (az a b)) dp S st:=fun {k D S st H K F dp a b e} h hd hp=>by
  obtain⟨d1,hc⟩:=FM hd hp;rw[h.open.2.1]at hc;rcases hc with ⟨pv,st',hv,hL,hRl⟩ | ⟨hno,_⟩
  rotate_left
  .exact absurd h.ld (hno _)
  obtain rfl:=hL.uniq h.ld;simp only[Value.tuple.injEq,aaT,aag,Value.int.injEq,aaY,aat]at hv;obtain⟨rfl,e0⟩:=hv;exact⟨d1,e0,hRl⟩
 refine⟨opn hP0 ah hD3,fun q4 g4 ⟨F4,p4,hF4,_⟩=>?_⟩;obtain⟨hD4,e17,hR4⟩:=opd hP0 hD3 p4;rw[<-hF4 (by simp [aK,Cp.roots,Ck.root])]at hR4;refine⟨fun h=>absurd e17 h,fun _ q5 g5 n5 q6 g6 h19=>?_⟩;have A46:ai 18 q4 q6:=g5.tr g6;have G6:ai 11 J q6:=G3.trans (g4.mono.tr A46);have e18:q6.i 18=q5.i 18:=g6.i 18;refine⟨⟨0,(q5.i 18).toNat,D0,bY D0,fun _=>[],rfl,abi _,by show q6.i 18=_;omega,?_,?_,?_,hP0,?_⟩,fun q7 g7 ⟨k,z,D,S,st,ek,hk,ez,hI⟩=>?_⟩
 .show aE (q6.h 15) (.pointer (az (q6.i 13) (q6.i 14))) _;rw[A46.h 15,A46.i 13,A46.i 14,g4.i 13,g4.i 14];exact hD4
 .show bZ (q6.h 16) (.pointer (az (q6.i 15) (q6.i 16))) (.pointer (az (q6.i 13) (q6.i 14))) _ _;rw[A46.h 16,A46.i 13,A46.i 14,A46.i 15,A46.i 16,g4.i 13,g4.i 14];exact hR4
 .show iT (q6.h 19) _ _ _;rw[h19];exact UA T (Hl.aT _ _)
 .show IntKind.i64.wrap (64*IntKind.i64.wrap (IntKind.i64.wrap (Int.tdiv (IntKind.i64.wrap (20+IntKind.i64.wrap (2*IntKind.i64.wrap (q6.i 0)))) 2)-2))=_;rw[(V q6 G6).1,e20,hL0,show Int.tdiv ((20+2*N:Nat):Int) 2=((10+N:Nat):Int)by rw[abA ah];omega];rw[wrap_i64 (n:=((10+N:Nat):Int)) ah ah,wrap_i64 (n:=((10+N:Nat):Int)-2) ah ah,wrap_i64 ah ah];omega
 have G7:ai 11 J q7:=G6.tr g7;obtain⟨v0,⟨v1,v2,v3,v4⟩,⟨v5,v6,v7⟩,w9,w10⟩:=V q7 G7;rw[v1,v2,v3,w9,ek];refine⟨ah,fun hlt=>?_,fun hge=>out rfl⟩;have rP:k<rows.length:=ah;have hrk:rows[k]?=some rows[k]:=aab rP;have hmem:rows[k]∈rows:=abp rP;obtain⟨p,hp⟩:=hP _ hmem (hrows _ hmem).1 (hrows _ hmem).2;have hpl:=(hrows _ hmem).2;generalize rows[k]=row at hrk hp hpl;rcases hRR with h0 | ⟨hx0,hRR⟩
 .rw[h0]at rP;simp at rP
 obtain⟨hok,hcl⟩:=hRR k row hrk;have hpl:p.b.length<=2100:=by
  obtain⟨xx,yy,cc,he,_⟩:=hp.body;have hl:=fE hok;rw[kE]at hl;rw[aak,aab ah,abo]at he;unfold DF at hpl;rw[aab ah,he]at hpl;exact hpl
 have hc:∀ i u,row[i]?=some u->T.cell x.toNat ((y+(k:Int)*126).toNat+i)=some u:=fun i u hu=>by
  have:=hcl i u hu;rw[kE]at this;rw[show(y+(k:Int)*126).toNat=y.toNat+k*126 by omega];exact this
 refine⟨ah,hy,ah,lJ _ hok hc,fun q8 g8 n8=>?_⟩;have W:∀ q,ai 80 q7 q->(q.i 73=k/\q.i 18=z/\q.i 1=x/\q.i 2=y/\q.i 5=x2/\q.i 6=y2/\q.i 7=bs.length)/\(q.i 13=q7.i 13/\q.i 14=q7.i 14/\q.i 70=q7.i 70/\q.i 71=q7.i 71/\q.i 72=q7.i 72)/\q.h 9=T/\q.h 10=RG/\q.h 60=q7.h 60/\q.h 61=q7.h 61/\q.h 62=q7.h 62:=fun q g=>by
  rw[g.i 73,g.i 18,g.i 1,g.i 2,g.i 5,g.i 6,g.i 7,g.i 13,g.i 14,g.i 70,g.i 71,g.i 72,g.h 9,g.h 10,g.h 60,g.h 61,g.h 62];exact⟨⟨ek,ez,v1,v2,v5,v6,v7⟩,⟨rfl,rfl,rfl,rfl,rfl⟩,w9,w10,rfl,rfl,rfl⟩
 have cb:∀ {q:Env},ai 80 q7 q->q.i 73<q.i 7->∃ b:Int,0<=b/\b<256/\0<=q.i 5/\0<=q.i 6/\(q.h 9).cell (q.i 5).toNat (q.i 6+q.i 73).toNat=some (.int .u8 b):=fun {q} g hl=>by
  obtain⟨⟨a73,_,_,_,a5,a6,a7⟩,_,b9,_⟩:=W q g;rw[a73,a7]at hl;have hkb:k<bs.length:=ah;rcases hBB with e | ⟨hx20,hBB⟩
  .rw[e]at hkb;simp at hkb
  obtain⟨b1,b2⟩:=hb _ (abp hkb);refine⟨bs[k],b1,b2,by rw[a5];exact hx20,by rw[a6];exact hy2,?_⟩;rw[a5,a6,a73,b9,show(y2+(k:Int)).toNat=y2.toNat+k by omega];exact hBB k _ (aab hkb)
 obtain⟨⟨a73,a18,a1,a2,a5,a6,a7⟩,_,b9,b10,_,_,b62⟩:=W q8 g8;have eR:(aU 9 (E.var 1) ((E.var 2).add ((E.var 73).mul (E.lit 126))) 0 pt).map (CV.ev q8)=row:=fa row pt 0 hok fun i u hu=>by
  rw[ak,bJ,cj,ak,ak,aq,a1,a2,a73,b9,aaI];exact hc i u hu
 have inv0:FP T rows.length (10+N) 1 (assign q8 ([]++(mL 103 (al 103 gR) (aU 9 (E.var 1) ((E.var 2).add ((E.var 73).mul (E.lit 126))) 0 pt)).getD []) [(236,none)]):=by
  have e:=aaD Array.toList (Value.agg.inj (qE (n0:=103) (J:=q8) (A:=[]++(mL 103 (al 103 gR) (aU 9 (E.var 1) ((E.var 2).add ((E.var 73).mul (E.lit 126))) 0 pt)).getD []) (hs:=[(236,none)]) zzK zzK (fun y hy=>abc _ hy)));refine⟨p,?_,hpl⟩;show DZ T Hl.none (List.map (CV.ev _) (al 103 gR)) p;rw[show List.map (CV.ev _) (al 103 gR)=_ from e.trans eR];exact⟨hp.ok,fun U hT _=>hp.mono hT hT⟩
 refine⟨⟨ah,fun hl2=>?_,fun _=>inv0⟩,fun q10 g10 ⟨c,hc10,hcl10⟩=>?_⟩
 .obtain⟨b,hb0,hb1,hx5,hx6,hcb⟩:=cb g8 hl2;have ew:aB q8 ((E.hI 9 (E.var 5) ((E.var 6).add (E.var 73)) 0).rem (E.lit 6))=((b%6).toNat:Nat):=by
   show Int.tmod (bS ((q8.h 9).cell (q8.i 5).toNat ((q8.i 6+q8.i 73).toNat+0))) 6=_;rw[aaW,hcb];show Int.tmod b 6=_;rw[abf hb0];omega
  obtain⟨i,hi⟩:∃ i,(b%6).toNat=i:=⟨_,rfl⟩;have hi6:i<6:=ah;rw[hi]at ew;have e1:IntKind.i64.wrap (1+IntKind.i64.wrap ((i:Nat):Int))=((i+1:Nat):Int):=by rw[wrap_i64 (n:=((i:Nat):Int)) ah ah,wrap_i64 ah ah];omega
  have e2:IntKind.i64.wrap (((i+1:Nat):Int)-1)=((i:Nat):Int):=by rw[wrap_i64 ah ah];omega
  obtain⟨sv,KB,hXD⟩:=id hI.rf;obtain⟨cS,csl,cl,cs⟩:=hXD.sl hi6;obtain⟨rws,ho,hrl,hrp⟩:=hXD.row i hi6;have hl0:=hI.pl.ln i hi6;have hAll:Xg (q7.h 62) T (rws.map (List.take 125)) (lS st i):=by
   have hlen:(rws.map (List.take 125)).length=(lS st i).length:=by unfold lS;rw[aaz,aaz,hrl]
   refine⟨hlen,fun U a b=>⟨hlen,fun j r h hr hh=>?_⟩⟩;unfold lS at hh;rw[aao]at hr hh;obtain⟨r0,wj,rfl⟩:=aam.1 hr;obtain⟨p0,hp0,rfl⟩:=aam.1 hh;exact((hrp j r0 p0 wj hp0).2 U b fun b' o hb=>a b' o (hXD.kb b' o hb)).hd
  have cS':(q7.h 62).cell ((z:Int)).toNat ((i:Nat):Int).toNat=some (sv i):=by rw[aaa,aaa];exact cS
  rw[hcb,ew,e1,e2,a18,b62,cS',iq csl,eR,b9,b10];refine⟨hx5,hx6,rfl,fun _=>⟨ah,ah,ah,cs,⟨sv i,((i+1:Nat):Int),row,_,T,RG,rws,lS st i,p,rfl,rfl,ho.rd,hAll,ah,ah,hp,hK⟩,fun q9 g9 ⟨F9,⟨row',er,hpo⟩,hF9,_⟩=>?_⟩,fun _=>inv0⟩;have hx:=hpo _ _ _ _ _ _ _ _ _ rfl rfl ho.rd hAll hp;have er:=aaG (Value.agg.inj er);rw[JY]at er;rw[<-hF9 aA]at hx;have hb80:(ke (lS st i) ((i+1:Nat):Int) p).b.length=80:=aa8;have e:=aaD Array.toList (Value.agg.inj (qE (n0:=103) (J:=q9) (A:=[]++(mL 103 (al 103 gR) (al 81 gR)).getD []) (hs:=[(236,some 81)]) zzK zzK (fun y hy=>abc _ hy)));refine⟨ke (lS st i) ((i+1:Nat):Int) p,?_,ah⟩;show DZ T (q9.h 81) (List.map (CV.ev _) (al 103 gR)) _;rw[show List.map (CV.ev _) (al 103 gR)=_ from e.trans er];exact hx.u
 have B10:ai 80 q7 q10:=g8.tr g10;obtain⟨⟨a73,a18,a1,a2,a5,a6,a7⟩,_,b9,b10,_,_,b62⟩:=W q10 B10;obtain⟨sv,KB,hXD⟩:=id hI.rf;have sl:∀ j:Nat,j<6->bp ((q10.h 62).cell (q10.i 18).toNat (Int.toNat 0+j)) .slice=true:=fun j hj=>by
  rw[b62,a18,aaa,show Int.toNat 0+j=j from aaI j,(hXD.sl hj).1];exact(hXD.sl hj).2.2.2
 refine⟨ah,sl 0 ah,sl 1 ah,sl 2 ah,sl 3 ah,sl 4 ah,sl 5 ah,fun q11 g11 n11 q12 g12 ⟨h241,hdis⟩=>?_⟩;have A12:ai 240 q10 q12:=g11.tr g12;have B12:ai 80 q7 q12:=B10.tr A12;obtain⟨⟨_,c18,_⟩,_,c9,c10,_,_,c62⟩:=W q12 B12;have aC:∀ q,ai 240 q10 q->(al 103 gR).map (CV.ev q)=Dc q10:=fun q g=>aaD Array.toList (Value.agg.inj (fH (ks:=gR) (n:=103) g aA));rw[g11.h 62,g11.h 236,b62]at h241 hdis;rw[aC q12 A12,h241,c9,c10,c18,gz z];have hS:=hI.pl.short ah;have hln:∀ i,i<6->(st i).length<=100000:=fun i hi=>by have:=hI.pl.ln i hi;omega
 refine⟨⟨z,_,_,Dc q10,T,RG,st,c,rfl,rfl,rfl,hdis,hI.rf,hS,hln,hc10,ah,hK⟩,fun q13 g13 ⟨F13,p13,_⟩=>?_⟩;obtain⟨e13,hX13,hx13⟩:=Mg (K:=q13.h 242) hdis hI.rf hc10 p13;have e13:q13.i 242=bo st c:=by simpa using e13
 have A13:ai 240 q10 q13:=A12.tr g13;have B13:ai 80 q7 q13:=B12.tr g13;rw[aC q13 A13,(W q13 B13).2.2.1];have hU:∀ {U:Hl},T.le U->(q13.h 242).le U->fP U U (Dc q10) c:=fun a b=>hx13.2 _ a b;refine⟨fun U u=>⟨_,U,U,c,rfl,rfl,hU (u T aF) (u _ aF),ah,ab7 (xS (hU (u T aF) (u _ aF)) hcl10).1 ah⟩,fun q14 g14 ⟨F14,⟨U,u,p14⟩,_⟩=>?_⟩;have hUx:=hU (u T aF) (u _ aF);have e14:q14.i 244=(bF [cy c]).length:=by simpa using p14 _ U U c rfl rfl hUx
 obtain⟨hQ1,hQ2,hQ3,hQ4⟩:=hI.pl.push ah hUx hcl10;have mk:∀ (q:Env) (e1 e2:E) (h:Nat),ai 242 q12 q->aB q e1=64*(((10+N:Nat):Int)-2)-(bN D S st c).S.bA.length->aB q e2=(bN D S st c).e->iT (q.h h) T z (bN D S st c).st->DZ T (q.h h) (Dc q10) c->FP T rows.length (10+N) 2 (assign q [⟨260,0,.int .i64 e1⟩,⟨261,0,.int .i64 e2⟩] [(262,some h)]):=by
  intro q e1 e2 h gq h1 h2 h3 h4;have Bq:ai 80 q7 q:=B12.tr gq;obtain⟨⟨d73,d18,_⟩,⟨d13,d14,d70,d71,d72⟩,_,_,d60,d61,_⟩:=W q Bq;have Ag:ai 240 q (assign q [⟨260,0,.int .i64 e1⟩,⟨261,0,.int .i64 e2⟩] [(262,some h)]):=se rfl;refine⟨k,z,D,S,st,c,d73,rP,d18,⟨?_,?_,hI.pl⟩,⟨?_,hcl10⟩,h2,h3,h1⟩
  .show aE (q.h 60) (.pointer (az (q.i 13) (q.i 14))) D;rw[d60,d13,d14];exact hI.dk
  .show bZ (q.h 61) (.pointer (az (q.i 70) (q.i 71))) (.pointer (az (q.i 13) (q.i 14))) S st;rw[d61,d13,d14,d70,d71];exact hI.ra
  .show DZ T (q.h h) (Dc _) c;rw[show Dc _=Dc q10 from aC _ ((A12.tr gq).trans Ag)];exact h4
 have A14:ai 242 q12 q14:=g13.tr g14;have B14:ai 80 q7 q14:=B12.tr A14;obtain⟨⟨d73,d18,_⟩,⟨_,_,_,_,d72⟩,_,_,_,_,d62⟩:=W q14 B14;have f242:q14.i 242=bo st c:=(g14.i 242).trans e13;have k242:q14.h 242=q13.h 242:=g14.h 242;have erm:=hI.rm;rw[f242,e14,d72,erm,k242];refine⟨⟨fun h0=>⟨fun hlt=>⟨⟨ah,aap 0,?_⟩,fun q15 g15 rW=>?_⟩,fun hge=>?_⟩,fun hn0=>?_⟩,fun q15 g15 hi15=>?_⟩
 .obtain⟨sv',KB',hXD'⟩:=hX13;rw[d18,aaa];exact jm hXD'.bd (by show 0+6<=6;omega)
 .have eV:(aU 62 (E.var 18) (E.lit 0) 0 (List.replicate 6 Kd.slice)).map (CV.ev q14)=O0 sv:=fa (O0 sv) _ 0 (by
   have hs:∀ j:Nat,j<6->bp (some (sv j)) .slice=true:=fun j hj=>(hXD.sl hj).2.2.2;exact⟨hs 0 ah,hs 1 ah,hs 2 ah,hs 3 ah,hs 4 ah,hs 5 ah,zzT⟩) fun i u hu=>by
    have hi:i<6:=(aaj.1 hu).1;rw[O1 sv hi]at hu;rw[ak,aq,d18,d62,aaa,aaI,show Int.toNat 0+i=i from aaI i,<-hu];exact(hXD.sl hi).1
  obtain⟨sv',KB',hXD'⟩:=id hX13;rw[eV,d18,aaa]at rW;have hG15:q15.h 245 z=some (.cells (O0 sv).toArray 57 (0,0)):=by
   rw[rW,Hl.qf hXD'.bd];rfl
  obtain⟨f1,f2⟩:=Mf hdis hI.rf hc10 p13 (o:=.cells (O0 sv).toArray 57 (0,0)) (Hl.bh _ _ _ _ hXD.bd) (Or.inl rfl) hG15 (fun b hb _=>by rw[rW];exact Hl.oJ hb);have eP:=hQ2 h0 hlt;refine mk q15 _ _ 245 (A14.tr g15) ?_ ?_ ?_ f2
  .rw[eP,ak,g15.i 72,d72,erm]
  .rw[eP];rfl
  .rw[eP];exact f1
 .obtain⟨a1,a2,a3⟩:=hQ3 h0 hge;have hpre:=hI.pl.pre ah;refine mk q14 _ _ 242 A14 ?_ ?_ ?_ (by rw[k242];exact hx13)
  .rw[bx,cQ,ak,ak,d72,e14,erm,a3,wrap_i64 ah ah];omega
  .rw[ak,f242,a1,h0]
  .rw[k242,a2];exact hX13
 .have eP:=hQ1 hn0;refine mk q14 _ _ 242 A14 ?_ ?_ ?_ (by rw[k242];exact hx13)
  .rw[eP,ak,d72,erm]
  .rw[eP,ak,f242]
  .rw[k242,eP];have e:cR st c=st:=by unfold cR;rw[aan hn0]
   rw[e]at hX13;exact hX13
 have B15:ai 80 q7 q15:=B14.tr g15;clear mk hQ1 hQ2 hQ3 hQ4 hX13 hx13 hU hUx p13 p14 inv0 sl hXD hdis hc10;obtain⟨k',z',D',S',st',c',ek',_,ez',⟨hd',hr',hp'⟩,⟨hc',hcl'⟩,e261,hrf',e260⟩:=hi15;obtain⟨⟨d73,d18,_⟩,_,d9,d10,_⟩:=W q15 B15;obtain rfl:k=k':=ah;obtain rfl:z=z':=ah;clear hI erm hS hln hp;generalize hdp:Value.pointer (az (q15.i 13) (q15.i 14))=dp at hd' hr';obtain⟨t1,t2,t3,t4,t5⟩:=hp'.pre ah;have hS':=hp'.short ah;rw[d9,d10];refine⟨fun U u=>⟨_,_,_,_,U,U,U,g,dp,S',D',st',c',rfl,rfl,rfl,hr',hd',hc'.2 U (u T aF) (u _ aF),hcl',hS',⟨hG.1.mono (u RG aF),hG.2.1.mono (u RG aF),CA (u RG aF) hG.2.2⟩,t1,t2,t3⟩,fun q16 g16 ⟨F16,⟨U,u,vg⟩,_⟩=>?_⟩;have hUx:=hc'.2 U (u T aF) (u _ aF);obtain⟨hR16,hD16,e16⟩:=vj (K1:=q16.h 270) (K2:=q16.h 271) hr' hd' hUx vg;have e16:q16.i 270=(bN D' S' st' c').e:=by simpa using e16
 have hP16:=(hp'.push ah hUx hcl').2.2.2;generalize bN D' S' st' c'=P at e261 hrf' e260 hR16 hD16 e16 hP16;obtain⟨u1,u2,u3,u4,u5⟩:=hP16.pre ah;have B16:ai 80 q7 q16:=B15.tr g16;refine⟨fun _=>?_,fun hne=>absurd (by rw[e16,g16.i 261,e261]) hne⟩;have hR16:bZ (q16.h 270) (.pointer (az (q16.i 70) (q16.i 71))) dp P.S P.st:=by rw[g16.i 70,g16.i 71];exact hR16
 refine⟨⟨_,_,_,_,_,rfl,rfl,hR16⟩,fun q17 g17 ⟨F17,H7,_⟩=>?_⟩;have e17:q17.b 273=P.S.over:=Value.bool.inj (H7 _ _ _ _ _ rfl rfl hR16);rw[u4]at e17;refine⟨fun h=>absurd (h.symm.trans e17) aA,fun _=>?_⟩;have A17:ai 270 q15 q17:=g16.tr g17;have B17:ai 80 q7 q17:=B15.tr A17;have hD17:aE (q17.h 271) (.pointer (az (q17.i 13) (q17.i 14))) P.D:=by
  rw[g17.h 271,A17.i 13,A17.i 14,hdp];exact hD16
 have mk:∀ (q:Env) (a b:E) (h1 h2:Nat),ai 270 q15 q->aE (q.h h1) dp P.D->bZ (q.h h2) (.pointer (az (aB q a) (aB q b))) dp P.S P.st->FP T rows.length (10+N) 3 (assign q [⟨290,0,.int .i64 a⟩,⟨291,0,.int .i64 b⟩] [(292,some h1),(293,some h2)]):=by
  intro q a b h1 h2 gq k1 k2;have Bq:ai 80 q7 q:=B15.tr gq;obtain⟨⟨d73,d18,_⟩,_⟩:=W q Bq;refine⟨k,z,P.D,P.S,P.st,d73,rP,d18,?_,?_,?_,hP16,?_⟩
  .show aE (q.h h1) (.pointer (az (q.i 13) (q.i 14))) _;rw[gq.i 13,gq.i 14,hdp];exact k1
  .show bZ (q.h h2) (.pointer (az (aB q a) (aB q b))) (.pointer (az (q.i 13) (q.i 14))) _ _;rw[gq.i 13,gq.i 14,hdp];exact k2
  .show iT (q.h 262) _ _ _;rw[gq.h 262];exact hrf'
  .show q.i 260=_;rw[gq.i 260];exact e260
 have mk0:FP T rows.length (10+N) 3 (assign q17 [⟨290,0,.int .i64 (.var 70)⟩,⟨291,0,.int .i64 (.var 71)⟩] [(292,some 271),(293,some 270)]):=mk q17 _ _ _ _ A17 (by rw[g17.h 271];exact hD16) (by rw[ak,ak,g17.i 70,g17.i 71,g17.h 270];exact hR16);refine⟨⟨by rw[(W q17 B17).1.2.2.2.2.2.2];omega,fun hl2=>?_,fun _=>mk0⟩,fun q20 g20 ⟨k3,z3,D3,S3,st3,ek3,_,ez3,hI3⟩=>?_⟩
 .obtain⟨b,hb0,hb1,hx5,hx6,hcb⟩:=cb B17 hl2;refine⟨hx5,hx6,by rw[hcb];rfl,fun _=>?_,fun _=>mk0⟩;obtain⟨f1,f2⟩:=hP16.R8 [];refine⟨⟨_,_,[],_,_,P.D,rfl,rfl,rfl,hD17,⟨-1,0,0,rfl,aap 0,Or.inl rfl⟩,fun b hb=>(by cases hb),f2⟩,fun q18 g18 ⟨F18,p18,_⟩=>?_⟩;have hD18:=GY (K:=q18.h 274) hD17 hP16 p18;have B18:ai 80 q7 q18:=B17.tr g18;rw[<-g18.i 13,<-g18.i 14]at hD18;rw[(W q18 B18).2.2.2.1];refine⟨opn hP16 ah hD18,fun q19 g19 ⟨F19,p19,hF19,_⟩=>?_⟩;obtain⟨hD19,e19,hR19⟩:=opd (K:=q19.h 276) hP16 hD18 p19;rw[<-hF19 (by simp [aK,Cp.roots,Ck.root])]at hR19;refine⟨fun hn=>absurd e19 hn,fun _=>mk q19 _ _ _ _ (A17.trans (g18.mono.tr g19)) ?_ ?_⟩
  .rw[g18.i 13,g18.i 14,A17.i 13,A17.i 14,hdp]at hD19;exact hD19
  .rw[g18.i 13,g18.i 14,A17.i 13,A17.i 14,hdp]at hR19;exact hR19
 .have B20:ai 80 q7 q20:=B17.tr g20;obtain⟨⟨d73,d18,_⟩,_,d9,_⟩:=W q20 B20;obtain rfl:k=k3:=ah;obtain rfl:z=z3:=ah;have hS3:=hI3.pl.short ah;rw[d18,gz z,d9];refine⟨fun U u=>⟨_,z,U,T,st3,st3,rfl,rfl,nZ.mono (u _ aF) hI3.ra.rd,hI3.rf.mono (u _ aF),u T aF,⟨hS3,hS3⟩,hI3.pl.gd,fun _ _=>Or.inl rfl⟩,fun q21 g21 ⟨F21,⟨U,u,p21⟩,_⟩=>?_⟩;have e21:q21.b 300=true:=by
   rcases Mq (nZ.mono (u _ aF) hI3.ra.rd) (hI3.rf.mono (u _ aF)) (fun _ _=>Or.inl rfl) p21 with ⟨h,_⟩ | ⟨_,i,_,h⟩
   .exact Value.bool.inj h
   .exact absurd rfl h
  have B21:ai 80 q7 q21:=B20.tr g21;have e73:aB q21 (E.wrap .i64 ((E.var 73).add (E.lit 1)))=((k+1:Nat):Int):=by
   rw[bx,bJ,ak,aq,(W q21 B21).1.1,IntKind.wrap_i64];omega
  refine⟨fun h=>absurd e21 h,fun _=>⟨⟨k+1,z,D3,S3,st3,e73,ah,(W q21 B21).1.2.1,?_⟩,?_⟩⟩
  .show XY T (.pointer (az (q21.i 13) (q21.i 14))) (.pointer (az (q21.i 290) (q21.i 291))) z (q21.h 292) (q21.h 293) (q21.h 262) (q21.i 260) _ _ _ _ _;rw[g21.i 13,g21.i 14,g21.i 290,g21.i 291,g21.h 292,g21.h 293,g21.h 262,g21.i 260];exact hI3
  .show((rows.length:Int)-aB q21 (E.wrap .i64 ((E.var 73).add (E.lit 1)))).toNat<((rows.length:Int)-(k:Int)).toNat;rw[e73];omega
end Go.Proofs.YtomdimlnggpgbaaGreatDoor
namespace Go.Sx
open Go Go.ChangeShapes Go.WideShapes Go.ChangeAt Go.RowKit Go.Deep
variable {n:Int}{ks:List Kd}{cs xs:List Value}{b dp fuel y:Nat}{e t:TypeId}{v:Value}
def Vf (v:Value):Kd->Prop
 | .int k=>∃ n,v=.int k n/\(Lit.int k n).wf=true
 | .bool=>∃ b,v=.bool b
 | _=>False
def po:List Value->List Kd->Prop
 | [],[]=>True
 | v::l,k::m=>Vf v k/\po l m
 | _,_=>False
def pY:∀ {l m:List Value} {a b:List Kd},po l a->po m b->po (l++m) (a++b)
 | [],m,[],b,_,h=>h
 | v::l,m,k::a,b,h,h2=>⟨h.1,pY h.2 h2⟩
 | [],_,_::_,_,h,_=>h.elim
 | _::_,_,[],_,h,_=>h.elim
def Fj:∀ {l:List Value} {a:List Kd},po l a->∀ (j:Nat) (k:Kd),a[j]?=some k->∃ v,l[j]?=some v/\Vf v k
 | _::l,_::a,h,0,k,hk=>by simp at hk;subst hk;exact⟨_,rfl,h.1⟩
 | _::l,_::a,h,j+1,k,hk=>by simpa using Fj h.2 j k (by simpa using hk)
 | [],[],_,j,k,hk=>by simp at hk
 | [],_::_,h,_,_,_=>h.elim
 | _::_,[],h,_,_,_=>h.elim
def xD (f:TypeId->Option (List Kd)):List Field->Nat->Option (List Kd)
 | [],_=>some []
 | fl::l,o=>if fl.offset=o then match f fl.type with
  | some a=>match xD f l (o+a.length)with
   | some b=>some (a++b)
   | none=>none
  | none=>none
  else none
def Ry (a:List Kd):Nat->List Kd
 | 0=>[]
 | n+1=>a++Ry a n
def pQ (P:Program):Nat->TypeId->Option (List Kd)
 | 0,_=>none
 | d+1,t=>match P.underlying t with
  | some (.int k)=>some [.int k]
  | some .bool=>some [.bool]
  | some (.array n e)=>match pQ P d e with
   | some a=>if a.length=P.cellsOf e/\P.cellsOf t=n*a.length then some (Ry a n)else none
   | none=>none
  | some (.struct fs)=>match xD (fun u=>(pQ P d u).bind fun a=>if a.length=P.cellsOf u then some a else none) fs.toList 0 with
   | some a=>if a.length=P.cellsOf t then some a else none
   | none=>none
  | _=>none
section
variable {H:Type} {enc:TypeId×Value->H} {P:Program} {w:World} {base:Nat} {spare:Nat->Bool} {held:Bool}
def xf {g:TypeId->Option (List Kd)} {cs:List Value} : ∀ (l:List Field) (o:Nat) (ks:List Kd),xD g l o=some ks ->
 (∀ (fl:Field) (a:List Kd),fl∈l->g fl.type=some a->po ((cs.drop fl.offset).take a.length) a)->po ((cs.drop o).take ks.length) ks
 | [],o,ks,h,_=>by cases h;simp [po]
 | fl::l,o,ks,h,hq=>by
  simp only[xD]at h;split at h
  .rename_i ho;subst ho;split at h
   .rename_i a ha;split at h
    .rename_i b hb;cases h;have h1:=hq fl a aF ha;have h2:=xf l (fl.offset+a.length) b hb fun f c hf hc=>hq f c (aas _ hf) hc;have e:(cs.drop fl.offset).take (a++b).length=(cs.drop fl.offset).take a.length++(cs.drop (fl.offset+a.length)).take b.length:=by
      rw[aac,acW,acd]
     rw[e];exact pY h1 h2
    .cases h
   .cases h
  .cases h
def Ce {cs:List Value} {a:List Kd} : ∀ (n:Nat) (o:Nat),(∀ i,i<n->po ((cs.drop (o+i*a.length)).take a.length) a)->po ((cs.drop o).take (n*a.length)) (Ry a n)
 | 0,o,_=>by simp [po,Ry]
 | n+1,o,h=>by
  have h0:=h 0 ah;simp only[acO,aaW]at h0;have ih:=Ce n (o+a.length) fun i hi=>by
   have:=h (i+1) ah;rwa[abQ,adw,acL (i*a.length),<-abM]at this
  have e:(cs.drop o).take ((n+1)*a.length)=(cs.drop o).take a.length++(cs.drop (o+a.length)).take (n*a.length):=by
   rw[abQ,adw,acL (n*a.length),acW,acd]
  rw[e];exact pY h0 ih
def IQ:∀ (d:Nat) (t:TypeId) (ks:List Kd) (fuel:Nat) (cs:List Value) (x:DataW H×List MemPlace),pQ P d t=some ks->DataW.trod enc P w base spare held fuel t cs=some x->po cs ks:=by
 intro d
 induction d with
 | zero=>intro t ks fuel cs x h;cases h
 | succ d ih =>
  intro t ks fuel cs x h hx;simp only[pQ]at h;split at h
  .rename_i k hu;cases h;obtain⟨n,rfl,_,hw⟩:=DataW.trod_int hu hx;exact⟨⟨n,rfl,hw⟩,zzT⟩
  .rename_i hu;cases h;obtain⟨b,rfl,_⟩:=DataW.trod_bool hu hx;exact⟨⟨b,rfl⟩,zzT⟩
  .rename_i n e hu;split at h
   .rename_i a ha;split at h
    .rename_i hc;cases h;obtain⟨xs,m,_,_,hl,hxl,hxi⟩:=DataW.trod_array hu hx;have key:=Ce (cs:=cs) (a:=a) n 0 fun i hi=>by
      have h1:=hxi i hi;rw[<-hc.1,aab ah]at h1;rw[aaI];exact ih e a m _ _ ha h1
     rw[acI,<-hc.2,<-hl,abk]at key;exact key
    .cases h
   .cases h
  .rename_i fs hu;split at h
   .rename_i a ha;split at h
    .rename_i hc;cases h;obtain⟨xs,m,_,_,hl,hxl,hxi⟩:=DataW.trod_struct hu hx;have key:=xf (cs:=cs) fs.toList 0 ks ha fun fl b hfl hb=>by
      obtain⟨i,hi⟩:=abb hfl;have hi':fs[i]?=some fl:=by simpa using hi
      have h1:=hxi i fl hi';cases hk:pQ P d fl.type with
      | none=>simp [hk]at hb
      | some b' =>
       simp only[hk,abY]at hb;split at hb
       .rename_i hlen;cases hb;have hlt:i<xs.length:=by rw[hxl];exact(aaS.1 hi').1
        rw[<-hlen,aab hlt]at h1;exact ih fl.type b m _ _ hk h1
       .cases hb
     rw[acI,hc,<-hl,abk]at key;exact key
    .cases h
   .cases h
  .cases h
def LO {k:Kd} (h:Vf v k):bp (some v) k=true:=by
 cases k with
 | int k=>obtain⟨n,rfl,_⟩:=h;simp [bp]
 | bool=>obtain⟨b,rfl⟩:=h;rfl
 | _=>exact h.elim
def BK {x:DataW H×List MemPlace} (ht:P.underlying t=some (.slice e)) (hk:pQ P dp e=some ks) (hC:P.cellsOf e=ks.length)
 (h:DataW.trod enc P w base spare held fuel t cs=some x) :
 cs=[.slice none 0 0]\/∃ (a:Addr) (len cap:Nat),cs=[.slice (some a) len cap]/\len<=cap/\cap<=maxLen /\
  ∀ i,i<len->∀ (j:Nat) (k:Kd),ks[j]?=some k->∃ v,w.cell? (a.add (i*ks.length+j))=some v/\Vf v k:=by
 rcases open_slice ht h with h0 | ⟨a,len,cap,m,n,D,Pl,hcs,hb,hl,hm,hmm,hx,hi⟩
 .exact Or.inl h0.1
 .refine Or.inr ⟨a,len,cap,hcs,hl,hm,fun i hil j k hj=>?_⟩;have him:i<m:=by rw[hmm];split<;>omega
  obtain⟨cs',hc,ht'⟩:=hi i him;rw[hC]at hc;obtain⟨_,hcl,hat⟩:=World.cells?_some hc;have hok:=IQ dp e ks n cs' _ hk ht';obtain⟨v,hv,hov⟩:=Fj hok j k hj;have hjl:j<ks.length:=(aaj.1 hj).1;refine⟨v,?_,hov⟩;rw[<-Go.Deep.add_add,hat j hjl,hv]
end
def U6 (h:(Lit.int .u64 n).wf=true):0<=n/\n<18446744073709551616:=by
 simp only[Lit.wf,IntKind.min,IntKind.max,IntKind.signed,IntKind.bits,aah,aaf]at h;simp at h;omega
def Ky (h:(Lit.int .u8 n).wf=true):0<=n/\n<256:=by
 simp only[Lit.wf,IntKind.min,IntKind.max,IntKind.signed,IntKind.bits,aah,aaf]at h;simp at h;omega
def TJ (h:(Lit.int .i64 n).wf=true):-9223372036854775808<=n/\n<9223372036854775808:=by
 simp only[Lit.wf,IntKind.min,IntKind.max,IntKind.signed,IntKind.bits,aah,aaf]at h;simp at h;omega
def FO:∀ {row:List Value} {ks:List Kd},po row ks->bg row ks
 | [],[],_=>trivial
 | _::_,_::_,h=>⟨LO h.1,FO h.2⟩
 | [],_::_,h=>h.elim
 | _::_,[],h=>h.elim
def wC:∀ {ks:List Kd} {row:List Value},row.length=ks.length->(∀ (j:Nat) (k:Kd),ks[j]?=some k->∃ v,row[j]?=some v/\Vf v k)->po row ks
 | [],[],_,_=>trivial
 | k::ks,v::row,hl,h=>by
  refine⟨?_,wC (by simpa using hl) fun j k' hj=>?_⟩
  .obtain⟨u,hu,ho⟩:=h 0 k rfl;simp at hu;subst hu;exact ho
  .have:=h (j+1) k' (by simpa using hj);simpa using this
 | [],_::_,hl,_=>by simp at hl
 | _::_,[],hl,_=>by simp at hl
section
variable {H:Type} {enc:TypeId×Value->H} {P:Program} {W:World} {base:Nat} {spare:Nat->Bool} {held:Bool} {d:DataW H} {p:List MemPlace}
def mZ (h:W.cell? ⟨b,y,none⟩=some v):(Hl.all W).cell b y=some v:=by
 unfold Hl.cell Hl.all;unfold World.cell? at h;split at h
 .rename_i c T fr hb;rw[hb];simpa using h
 .cases h
def uL {a:Addr} (hv:W.cell? a=some v):a.spot=none:=by
 unfold World.cell? at hv;split at hv
 .split at hv
  .cases hv
  .rename_i h;simpa using h
 .cases hv
def LZ (ht:P.underlying t=some (.slice e)) (hk:pQ P dp e=some ks) (hC:P.cellsOf e=ks.length) (hks:0<ks.length) (hv:∃ a l c,v=.slice a l c) (h:DataW.Trod enc P W base spare held t v d p) :
 ∃ rows,bj (Hl.all W) v ks rows/\∀ row∈rows,po row ks:=by
 obtain⟨a0,len0,cap0,rfl⟩:=hv;obtain⟨fuel,hf⟩:=h;rcases BK ht hk hC hf with h | ⟨a,len,cap,hcs,hl,hc,hat⟩
 .simp only[Value.cells,aag,Value.slice.injEq,aat]at h;obtain⟨rfl,rfl,rfl⟩:=h;exact⟨[],⟨-1,0,0,rfl,ah,Or.inl rfl⟩,fun _ h=>nomatch h⟩
 .simp only[Value.cells,aag,Value.slice.injEq,aat]at hcs;obtain⟨rfl,rfl,rfl⟩:=hcs;rcases acf len0 with h0 | h0
  .subst h0;obtain⟨x,y,hx,hy,_⟩:=qY (some a);exact⟨[],⟨x,y,cap0,by rw[hx];rfl,hy,Or.inl rfl⟩,fun _ h=>nomatch h⟩
  .have hsp:a.spot=none:=by
    obtain⟨v,hv,_⟩:=hat 0 h0 0 ks[0] (aab hks);simp only[acO,aaW,Addr.add,abL]at hv;exact uL hv
   obtain⟨bd,off,spot⟩:=a;simp only at hsp;subst hsp
   let row:Nat->List Value:=fun i=>(List.range ks.length).map fun j=>(W.cell? ⟨bd,off+(i*ks.length+j),none⟩).getD (.bool false)
   have aC:∀ i,i<len0->po (row i) ks/\∀ j u,(row i)[j]?=some u->W.cell? ⟨bd,off+(i*ks.length+j),none⟩=some u:=by
    intro i hi;have hg:∀ (j:Nat) (k:Kd),ks[j]?=some k->∃ v,(row i)[j]?=some v/\W.cell? ⟨bd,off+(i*ks.length+j),none⟩=some v/\Vf v k:=by
     intro j k hj;obtain⟨v,hv,ho⟩:=hat i hi j k hj;rw[fi]at hv;have hjl:j<ks.length:=(aaj.1 hj).1;refine⟨v,?_,hv,ho⟩;simp only[row,aao,aaE hjl,aaP,hv,abo]
    refine⟨wC (by simp [row]) fun j k hj=>?_,fun j u hu=>?_⟩
    .obtain⟨v,h1,_,h2⟩:=hg j k hj;exact⟨v,h1,h2⟩
    .have hjl:j<ks.length:=by have:=(aaj.1 hu).1;simpa [row] using this
     obtain⟨v,h1,h2,_⟩:=hg j ks[j] (aab hjl);rw[hu]at h1;cases h1;exact h2
   refine⟨(List.range len0).map row,⟨bd,off,cap0,?_,ah,Or.inr ⟨ah,fun i r hr=>?_⟩⟩,fun r hr=>?_⟩
   .rw[au ah,aaz,abJ];rfl
   .have hi:i<len0:=by have:=(aaj.1 hr).1;simpa using this
    rw[aao,aaE hi,aaP,aai]at hr;subst hr;obtain⟨h1,h2⟩:=aC i hi;refine⟨FO h1,fun j u hu=>?_⟩;rw[aaa,aaa,abM];exact mZ (h2 j u hu)
   .obtain⟨i,hi,rfl⟩:=aaQ.1 hr;exact(aC i (aaO.1 hi)).1
end
def PD {P:Program} {s:Spec} (h:s.OK P) (ho:s.own=[]) {W:World} (hpre:s.pre xs [] (List.replicate s.rd.length (Hl.all W)))
 (hpost:∀ J F,s.post xs [] (List.replicate s.rd.length (Hl.all W)) ((j8 0 s.res).ev J) [] F->(j8 0 s.res).ev J=.bool true) :
 Calls P s.fn xs.toArray W fun e w'=>e=.returned (.bool true)/\Below W.heap.size W w':=by
 have:=h W xs [] (List.replicate s.rd.length (Hl.all W)) (by rw[ho];rfl) aF (fun _ h=>nomatch h) (fun R hR=>by rw[(ach.1 hR).2];exact Hl.Qd W) (fun p _ H _ _ h=>by simp at h) (fun _ h=>nomatch h) hpre;refine this.mono ?_;rintro e w' ⟨J,Hs',F,rfl,_,ht,hp⟩;have e0:Hs'=[]:=aad.1 ht.len;subst e0;exact⟨by rw[hpost J F hp],⟨ht.os,ht.tape,ht.output,ht.size,fun b hb=>ht.block b hb (fun _ h=>nomatch h)⟩⟩
section
variable {H:Type} {enc:TypeId×Value->H} {P:Program} {W:World} {base:Nat} {spare:Nat->Bool} {held:Bool} {d:DataW H} {p:List MemPlace}
def Ef (ht:P.underlying t=some (.slice e)) (hk:pQ P dp e=some [.int .u8]) (hC:P.cellsOf e=1) (hv:∃ a l c,v=.slice a l c) (h:DataW.Trod enc P W base spare held t v d p) :
 ∃ bs,fu (Hl.all W) v bs/\∀ b∈bs,0<=b/\b<256:=by
 obtain⟨a0,len0,cap0,rfl⟩:=hv;obtain⟨fuel,hf⟩:=h;rcases BK ht hk hC hf with h | ⟨a,len,cap,hcs,hl,hc,hat⟩
 .simp only[Value.cells,aag,Value.slice.injEq,aat]at h;obtain⟨rfl,rfl,rfl⟩:=h;exact⟨[],⟨-1,0,0,rfl,ah,Or.inl rfl⟩,fun _ h=>nomatch h⟩
 .simp only[Value.cells,aag,Value.slice.injEq,aat]at hcs;obtain⟨rfl,rfl,rfl⟩:=hcs;rcases acf len0 with h0 | h0
  .subst h0;obtain⟨x,y,hx,hy,_⟩:=qY (some a);exact⟨[],⟨x,y,cap0,by rw[hx];rfl,hy,Or.inl rfl⟩,fun _ h=>nomatch h⟩
  .have hcell:∀ i,i<len0->∃ n,W.cell? (a.add i)=some (.int .u8 n)/\0<=n/\n<256:=by
    intro i hi;obtain⟨v,hv,ho⟩:=hat i hi 0 _ rfl;obtain⟨n,rfl,hw⟩:=ho;refine⟨n,?_,Ky hw⟩;rw[show i=i*([Kd.int .u8]:List Kd).length+0 by simp];exact hv
   have hsp:a.spot=none:=by
    obtain⟨n,hn,_⟩:=hcell 0 h0;simp only[Addr.add,abL,aaW]at hn;exact uL hn
   obtain⟨bd,off,spot⟩:=a;simp only at hsp;subst hsp;have hget:∀ j z,((List.range len0).map fun i=>bS (W.cell? ⟨bd,off+i,none⟩))[j]?=some z->W.cell? ⟨bd,off+j,none⟩=some (.int .u8 z)/\0<=z/\z<256:=by
    intro j z hz;have hj:j<len0:=by have:=(aaj.1 hz).1;simpa using this
    rw[aao,aaE hj]at hz;simp only[aaP,aai]at hz;obtain⟨n,hn,hr⟩:=hcell j hj;rw[fi]at hn;rw[hn]at hz;have hz:n=z:=hz;subst hz;exact⟨hn,hr⟩
   refine⟨(List.range len0).map fun i=>bS (W.cell? ⟨bd,off+i,none⟩),⟨bd,off,cap0,?_,ah,Or.inr ⟨ah,fun j z hz=>?_⟩⟩,fun b hb=>?_⟩
   .rw[au ah,aaz,abJ];rfl
   .simp only[aaa];exact mZ (hget j z hz).1
   .obtain⟨j,hj⟩:=acM.1 hb;exact(hget j b hj).2
def W9 (ht:P.underlying t=some (.int .u8)) (h:DataW.Trod enc P W base spare held t (.int .u8 n) d p):0<=n/\n<256:=by
 obtain⟨fuel,hf⟩:=h;obtain⟨m,hn,_,hw⟩:=DataW.trod_int ht hf;simp only[Value.cells,aag,Value.int.injEq,aaY,aat]at hn;subst hn;exact Ky hw
end
section
variable {H:Type} {enc:TypeId×Value->H} {P:Program} {W:World} {base:Nat} {spare:Nat->Bool} {held:Bool} {d:DataW H} {p:List MemPlace}
end
end Go.Sx
namespace Go.Ex
open Go Go.ChangeShapes Go.WideShapes Go.ChangeAt Go.RowKit Go.Deep
inductive Kt | int (k:IntKind) | bool | other (t:TypeId)
def okK (Φ:Value->TypeId->Prop) (v:Value):Kt->Prop
 | .int k=>∃ n,v=.int k n/\(Lit.int k n).wf=true
 | .bool=>∃ b,v=.bool b
 | .other t=>Φ v t
variable {Φ:Value->TypeId->Prop}
def SO (Φ:Value->TypeId->Prop):Prop:=∀ v t,Φ v t->∃ a len cap,v=.slice a len cap
def lW (Φ:Value->TypeId->Prop):List Value->List Kt->Prop
 | [],[]=>True
 | v::l,k::m=>okK Φ v k/\lW Φ l m
 | _,_=>False
def pZ:∀ {l m:List Value} {a b:List Kt},lW Φ l a->lW Φ m b->lW Φ (l++m) (a++b)
 | [],m,[],b,_,h=>h
 | v::l,m,k::a,b,h,h2=>⟨h.1,pZ h.2 h2⟩
 | [],_,_::_,_,h,_=>h.elim
 | _::_,_,[],_,h,_=>h.elim
def zL:∀ {l:List Value} {a:List Kt},lW Φ l a->∀ (j:Nat) (k:Kt),a[j]?=some k->∃ v,l[j]?=some v/\okK Φ v k
 | _::l,_::a,h,0,k,hk=>by simp at hk;subst hk;exact⟨_,rfl,h.1⟩
 | _::l,_::a,h,j+1,k,hk=>by simpa using zL h.2 j k (by simpa using hk)
 | [],[],_,j,k,hk=>by simp at hk
 | [],_::_,h,_,_,_=>h.elim
 | _::_,[],h,_,_,_=>h.elim
def tE (f:TypeId->Option (List Kt)):List Field->Nat->Option (List Kt)
 | [],_=>some []
 | fl::l,o=>if fl.offset=o then match f fl.type with
  | some a=>match tE f l (o+a.length)with
   | some b=>some (a++b)
   | none=>none
  | none=>none
  else none
def Ka (a:List Kt):Nat->List Kt
 | 0=>[]
 | n+1=>a++Ka a n
def ou (P:Program):Nat->TypeId->Option (List Kt)
 | 0,_=>none
 | d+1,t=>match P.underlying t with
  | some (.int k)=>some [.int k]
  | some .bool=>some [.bool]
  | some (.slice _)=>some [.other t]
  | some (.array n e)=>match ou P d e with
   | some a=>if a.length=P.cellsOf e/\P.cellsOf t=n*a.length then some (Ka a n)else none
   | none=>none
  | some (.struct fs)=>match tE (fun u=>(ou P d u).bind fun a=>if a.length=P.cellsOf u then some a else none) fs.toList 0 with
   | some a=>if a.length=P.cellsOf t then some a else none
   | none=>none
  | _=>none
section
variable {H:Type} {enc:TypeId×Value->H} {P:Program} {w:World} {base:Nat} {spare:Nat->Bool} {held:Bool}
def uC {g:TypeId->Option (List Kt)} {cs:List Value} : ∀ (l:List Field) (o:Nat) (ks:List Kt),tE g l o=some ks ->
 (∀ (fl:Field) (a:List Kt),fl∈l->g fl.type=some a->lW Φ ((cs.drop fl.offset).take a.length) a)->lW Φ ((cs.drop o).take ks.length) ks
 | [],o,ks,h,_=>by cases h;simp [lW]
 | fl::l,o,ks,h,hq=>by
  simp only[tE]at h;split at h
  .rename_i ho;subst ho;split at h
   .rename_i a ha;split at h
    .rename_i b hb;cases h;have h1:=hq fl a Sx.aF ha;have h2:=uC l (fl.offset+a.length) b hb fun f c hf hc=>hq f c (aas _ hf) hc;have e:(cs.drop fl.offset).take (a++b).length=(cs.drop fl.offset).take a.length++(cs.drop (fl.offset+a.length)).take b.length:=by
      rw[aac,acW,acd]
     rw[e];exact pZ h1 h2
    .cases h
   .cases h
  .cases h
def AD {cs:List Value} {a:List Kt} : ∀ (n:Nat) (o:Nat),(∀ i,i<n->lW Φ ((cs.drop (o+i*a.length)).take a.length) a)->lW Φ ((cs.drop o).take (n*a.length)) (Ka a n)
 | 0,o,_=>by simp [lW,Ka]
 | n+1,o,h=>by
  have h0:=h 0 Sx.ah;simp only[acO,aaW]at h0;have ih:=AD n (o+a.length) fun i hi=>by
   have:=h (i+1) Sx.ah;rwa[abQ,adw,acL (i*a.length),<-abM]at this
  have e:(cs.drop o).take ((n+1)*a.length)=(cs.drop o).take a.length++(cs.drop (o+a.length)).take (n*a.length):=by
   rw[abQ,adw,acL (n*a.length),acW,acd]
  rw[e];exact pZ h0 ih
abbrev r9 (enc:TypeId×Value->H) (P:Program) (w:World) (base:Nat) (spare:Nat->Bool) (held:Bool) (v:Value) (t:TypeId):Prop:=(∃ e,P.underlying t=some (.slice e))/\∃ m x,DataW.trod enc P w base spare held m t [v]=some x
def nQ:SO (r9 enc P w base spare held):=by
 rintro v t ⟨⟨e,hu⟩,m,x,hx⟩;rcases open_slice hu hx with h0 | ⟨a,len,cap,m,n,D,Pl,hcs,_⟩
 .have h1:=h0.1;simp only[aag,aat]at h1;exact⟨none,0,0,h1⟩
 .simp only[aag,aat]at hcs;exact⟨some a,len,cap,hcs⟩
def Gm:∀ (d:Nat) (t:TypeId) (ks:List Kt) (fuel:Nat) (cs:List Value) (x:DataW H×List MemPlace),ou P d t=some ks->DataW.trod enc P w base spare held fuel t cs=some x->lW (r9 enc P w base spare held) cs ks:=by
 intro d
 induction d with
 | zero=>intro t ks fuel cs x h;cases h
 | succ d ih =>
  intro t ks fuel cs x h hx;simp only[ou]at h;split at h
  .rename_i k hu;cases h;obtain⟨n,rfl,_,hw⟩:=DataW.trod_int hu hx;exact⟨⟨n,rfl,hw⟩,trivial⟩
  .rename_i hu;cases h;obtain⟨b,rfl,_⟩:=DataW.trod_bool hu hx;exact⟨⟨b,rfl⟩,trivial⟩
  .rename_i e hu;cases h;rcases open_slice hu hx with h0 | ⟨a,len,cap,m,n,D,Pl,hcs,_⟩
   .have h1:=h0.1;subst h1;exact⟨⟨⟨_,hu⟩,fuel,x,hx⟩,trivial⟩
   .subst hcs;exact⟨⟨⟨_,hu⟩,fuel,x,hx⟩,trivial⟩
  .rename_i n e hu;split at h
   .rename_i a ha;split at h
    .rename_i hc;cases h;obtain⟨xs,m,_,_,hl,hxl,hxi⟩:=DataW.trod_array hu hx;have key:=AD (cs:=cs) (a:=a) n 0 fun i hi=>by
      have h1:=hxi i hi;rw[<-hc.1,aab Sx.ah]at h1;rw[aaI];exact ih e a m _ _ ha h1
     rw[acI,<-hc.2,<-hl,abk]at key;exact key
    .cases h
   .cases h
  .rename_i fs hu;split at h
   .rename_i a ha;split at h
    .rename_i hc;cases h;obtain⟨xs,m,_,_,hl,hxl,hxi⟩:=DataW.trod_struct hu hx;have key:=uC (cs:=cs) fs.toList 0 ks ha fun fl b hfl hb=>by
      obtain⟨i,hi⟩:=abb hfl;have hi':fs[i]?=some fl:=by simpa using hi
      have h1:=hxi i fl hi';cases hk:ou P d fl.type with
      | none=>simp [hk]at hb
      | some b' =>
       simp only[hk,abY]at hb;split at hb
       .rename_i hlen;cases hb;have hlt:i<xs.length:=by rw[hxl];exact(aaS.1 hi').1
        rw[<-hlen,aab hlt]at h1;exact ih fl.type b m _ _ hk h1
       .cases hb
     rw[acI,hc,<-hl,abk]at key;exact key
    .cases h
   .cases h
  .cases h
end
end Go.Ex
namespace Go.Sx
open Go Go.ChangeShapes Go.WideShapes Go.ChangeAt Go.RowKit Go.Deep
def Ln:Ex.Kt->Kd
 | .int k=>.int k
 | .bool=>.bool
 | .other _=>.slice
def uk {Φ:Value->TypeId->Prop} (hΦ:Ex.SO Φ):∀ {row:List Value} {ks:List Ex.Kt},Ex.lW Φ row ks->bg row (ks.map Ln)
 | [],[],_=>trivial
 | v::row,k::ks,h=>by
  refine⟨?_,uk hΦ h.2⟩;have h1:=h.1;cases k with
  | int k=>obtain⟨n,rfl,_⟩:=h1;simp [bp,Ln]
  | bool=>obtain⟨b,rfl⟩:=h1;rfl
  | other t=>obtain⟨a,l,c,rfl⟩:=hΦ v t h1;rfl
 | [],_::_,h=>h.elim
 | _::_,[],h=>h.elim
section
variable {H:Type} {enc:TypeId×Value->H} {P:Program} {W:World} {base:Nat} {spare:Nat->Bool} {held:Bool} {d:DataW H} {p:List MemPlace}
def Rt {t e:TypeId} {ks:List Ex.Kt} {dp:Nat} (ht:P.underlying t=some (.slice e)) (hk:Ex.ou P dp e=some ks) (hC:P.cellsOf e=ks.length) (hks:0<ks.length) {v:Value} (hv:∃ a l c,v=.slice a l c) (h:DataW.Trod enc P W base spare held t v d p) :
 ∃ rows,bj (Hl.all W) v (ks.map Ln) rows/\∀ row∈rows,Ex.lW (Ex.r9 enc P W base spare held) row ks:=by
 obtain⟨a0,len0,cap0,rfl⟩:=hv;obtain⟨fuel,hf⟩:=h;rcases open_slice ht hf with h | ⟨a,len,cap,m,n,D,Pl,hcs,hb,hl,hm,hmm,hx,hi⟩
 .have h:=h.1;simp only[Value.cells,aag,Value.slice.injEq,aat]at h;obtain⟨rfl,rfl,rfl⟩:=h;exact⟨[],⟨-1,0,0,rfl,Sx.ah,Or.inl rfl⟩,fun _ h=>nomatch h⟩
 .simp only[Value.cells,aag,Value.slice.injEq,aat]at hcs;obtain⟨rfl,rfl,rfl⟩:=hcs;have hlm:len0<=m:=by rw[hmm];split<;>omega
  have each:∀ i,i<len0->∃ row,row.length=ks.length/\Ex.lW (Ex.r9 enc P W base spare held) row ks/\∀ j,j<ks.length->W.cell? ((a.add (i*ks.length)).add j)=row[j]?:=by
   intro i hil;obtain⟨cs',hc,ht'⟩:=hi i Sx.ah;rw[hC]at hc;obtain⟨_,hcl,hat⟩:=World.cells?_some hc;exact⟨cs',hcl,Ex.Gm dp e ks n cs' _ hk ht',fun j hj=>hat j hj⟩
  rcases acf len0 with h0 | h0
  .subst h0;obtain⟨x,y,hx,hy,_⟩:=qY (some a);exact⟨[],⟨x,y,cap0,by rw[hx];rfl,hy,Or.inl rfl⟩,fun _ h=>nomatch h⟩
  .have hsp:a.spot=none:=by
    obtain⟨row,hl',_,hc⟩:=each 0 h0;have:=hc 0 hks;simp only[acO,Addr.add,abL]at this;rw[aab Sx.ah]at this;exact uL this
   obtain⟨bd,off,spot⟩:=a;simp only at hsp;subst hsp
   classical
   let row:Nat->List Value:=fun i=>if h:i<len0 then(each i h).choose else []
   have aC:∀ i,i<len0->(row i).length=ks.length/\Ex.lW (Ex.r9 enc P W base spare held) (row i) ks/\∀ j,j<ks.length->W.cell? ⟨bd,off+i*ks.length+j,none⟩=(row i)[j]?:=by
    intro i hil;have:=(each i hil).choose_spec;simp only[row,dif_pos hil];refine⟨this.1,this.2.1,fun j hj=>?_⟩;rw[<-this.2.2 j hj,fi,fi]
   refine⟨(List.range len0).map row,⟨bd,off,cap0,?_,Sx.ah,Or.inr ⟨Sx.ah,fun i r hr=>?_⟩⟩,fun r hr=>?_⟩
   .rw[au Sx.ah,aaz,abJ];rfl
   .have hil:i<len0:=by have:=(aaj.1 hr).1;simpa using this
    rw[aao,aaE hil,aaP,aai]at hr;subst hr;obtain⟨h1,h2,h3⟩:=aC i hil;refine⟨uk Ex.nQ h2,fun j u hu=>?_⟩;rw[aaa,aaa,aaz];have hj:j<ks.length:=by rw[<-h1];exact(aaj.1 hu).1
    exact mZ (by rw[h3 j hj];exact hu)
   .obtain⟨i,hil,rfl⟩:=aaQ.1 hr;exact(aC i (aaO.1 hil)).2.1
end
end Go.Sx
namespace Go.Proofs.YtomdimlnggpgbaaGreatDoor.opP
open Go Go.Sx Go.ChangeShapes Go.WideShapes Go.ChangeAt Go.RowKit Go.Deep
variable {row:List Value}{v:Value}
section
variable {H:Type} {enc:TypeId×Value->H} {W:World} {base b0:Nat} {spare:Nat->Bool} {held:Bool} {r:Reach}
def kh:List Ex.Kt:=[.int .i64,.int .u64]++List.replicate 32 (.int .u8)++[.int .i64,.bool,.int .u64]++List.replicate 16 (.int .u8)++[.other 62]++List.replicate 6 (.int .u64)++List.replicate 32 (.int .u8)++[.int .i64]++List.replicate 32 (.int .u8)
def kp:List Ex.Kt:=kh++[.other 46]
def Wg:Ex.ou Tryz.prog 6 67=some kp:=by kernel_rfl
def SF:∀ {n:Nat} {row:List Value},po row (List.replicate n (Kd.int .u8))->∃ t:List Int,row=aM t/\t.length=n/\∀ b∈t,0<=b/\b<256
 | 0,[],_=>⟨[],rfl,rfl,fun _ h=>nomatch h⟩
 | n+1,v::row,h=>by
  obtain⟨t,e,hl,hb⟩:=SF (n:=n) h.2;obtain⟨z,rfl,hw⟩:=h.1;refine⟨z::t,by rw[e];rfl,by rw[aaN,hl],fun b hbm=>?_⟩;rcases aar.1 hbm with rfl | hbm
  .exact Ky hw
  .exact hb b hbm
def Kw:∀ {rows:List (List Value)},(∀ row∈rows,po row pq)->∃ T:List (List Int),rows=T.map aM/\∀ t∈T,t.length=16/\∀ b∈t,0<=b/\b<256
 | [],_=>⟨[],rfl,fun _ h=>nomatch h⟩
 | row::rows,h=>by
  obtain⟨T,e,hT⟩:=Kw (rows:=rows) fun r hr=>h r (aas _ hr);obtain⟨t,e2,hl,hb⟩:=SF (n:=16) (h row (aaJ ..));refine⟨t::T,by rw[e,e2];rfl,fun x hx=>?_⟩;rcases aar.1 hx with rfl | hx
  .exact⟨hl,hb⟩
  .exact hT x hx
def MB (ho:Ex.r9 enc Tryz.prog W base spare held v 62):∃ (T:List (List Int)) (a:Option Addr) (c:Nat),v=.slice a T.length c/\bj (Hl.all W) v pq (T.map aM)/\∀ t∈T,t.length=16/\ar t:=by
 obtain⟨a,l,c,rfl⟩:=Ex.nQ v _ ho;obtain⟨_,m,x,hx⟩:=ho;obtain⟨rows,hR,hrows⟩:=LZ Tryz.underlying62 (ks:=pq) (dp:=3) (by kernel_rfl) (by kernel_rfl) aA ⟨a,l,c,rfl⟩ (d:=x.1) (p:=x.2) ⟨m,hx⟩;obtain⟨T,e,hT⟩:=Kw hrows;subst e;have hl:l=(T.map aM).length:=by
  obtain⟨ax,ay,ac,ae,_⟩:=id hR;simp only[Value.slice.injEq]at ae;exact ae.2.1
 rw[aaz]at hl;subst hl;exact⟨T,a,c,rfl,hR,hT⟩
def Qn (ho:Ex.r9 enc Tryz.prog W base spare held v 46):∃ (b:List Int) (a:Option Addr) (c:Nat),v=.slice a b.length c/\fu (Hl.all W) v b/\ar b:=by
 obtain⟨a,l,c,rfl⟩:=Ex.nQ v _ ho;obtain⟨_,m,x,hx⟩:=ho;obtain⟨b,hR,hb⟩:=Ef Tryz.underlying46 (dp:=1) (by kernel_rfl) (by kernel_rfl) ⟨a,l,c,rfl⟩ (d:=x.1) (p:=x.2) ⟨m,hx⟩;have hl:l=b.length:=by
  obtain⟨ax,ay,ac,ae,_⟩:=id hR;simp only[Value.slice.injEq]at ae;exact ae.2.1
 subst hl;exact⟨b,a,c,rfl,hR,hb⟩
def O5 {Φ:Value->TypeId->Prop} (hΦ:Ex.SO Φ):∀ {row:List Value} {ks:List Ex.Kt},Ex.lW Φ row ks->∀ v∈row,xl v
 | [],[],_,_,h=>nomatch h
 | x::row,k::ks,h,v,hv=>by
  rcases aar.1 hv with rfl | hv
  .have h1:=h.1;cases k with
   | int k =>
    obtain⟨n,rfl,hw⟩:=h1;cases k with
    | u8=>exact Ky hw
    | u64=>exact U6 hw
    | i64=>exact TJ hw
    | _=>trivial
   | bool=>obtain⟨b,rfl⟩:=h1;trivial
   | other t=>obtain⟨a,l,c,rfl⟩:=hΦ _ t h1;trivial
  .exact O5 hΦ h.2 v hv
 | [],_::_,h,_,_=>h.elim
 | _::_,[],h,_,_=>h.elim
def BH {Φ:Value->TypeId->Prop} : ∀ {n:Nat} {l:List Value} {ks:List Ex.Kt},Ex.lW Φ l ks->Ex.lW Φ (l.take n) (ks.take n)
 | 0,_,_,_=>trivial
 | _+1,[],[],_=>trivial
 | n+1,_::_,_::_,h=>⟨h.1,BH (n:=n) h.2⟩
 | _+1,[],_::_,h=>h.elim
 | _+1,_::_,[],h=>h.elim
def PB {k n c:Nat} {a:Option Addr} (h:row[k]?=some (.slice a n c)):DF row k=n:=by unfold DF;rw[h]
def V2 (ho:Ex.lW (Ex.r9 enc Tryz.prog W base spare held) row kh) (h20:DF row 53<=20):∃ h,bM (Hl.all W) row h/\h.t.length<=20:=by
 have hok:bg row ef:=by
  have:=uk Ex.nQ ho;rwa[show kh.map Ln=ef by kernel_rfl]at this
 obtain⟨v,hv,ho53⟩:=Ex.zL ho 53 (.other 62) rfl;obtain⟨T,a,c,rfl,hR,hT⟩:=MB ho53;rw[PB hv]at h20;refine⟨⟨row.set 53 BA,T⟩,⟨hok,O5 Ex.nQ ho,rfl,?_,by show T.length<=_;omega,hT⟩,h20⟩;rw[aak,hv];exact hR
def WB (ho:Ex.lW (Ex.r9 enc Tryz.prog W base spare held) row kp) (h20:DF row 53<=20) (h21:DF row 125<=2100):∃ c,fP (Hl.all W) (Hl.all W) row c/\c.h.t.length<=20/\c.b.length<=2100:=by
 have hok:bg row pt:=by
  have:=uk Ex.nQ ho;rwa[show kp.map Ln=pt by kernel_rfl]at this
 have h1:Ex.lW (Ex.r9 enc Tryz.prog W base spare held) (row.take 125) kh:=by
  have:=BH (n:=125) ho;rwa[show kp.take 125=kh by kernel_rfl]at this
 have e53:DF (row.take 125) 53=DF row 53:=by unfold DF;rw[abd ah]
 obtain⟨h,hx,hh⟩:=V2 h1 (by rw[e53];exact h20);obtain⟨v,hv,ho125⟩:=Ex.zL ho 125 (.other 46) rfl;obtain⟨b,a,c,rfl,hR,hb⟩:=Qn ho125;rw[PB hv]at h21;refine⟨⟨h,b⟩,⟨hok,hx,?_,hb,by show b.length<=_;omega⟩,hh,h21⟩;rw[aak,hv];exact hR
end
end Go.Proofs.YtomdimlnggpgbaaGreatDoor.opP
namespace Go.Proofs.YtomdimlnggpgbaaGreatDoor
open Go Go.Sx Go.Pk Go.RowKit
variable {g j:Nat}{W:World}
def Sj:List (String×DataW Unit):=[("jalousie/store.errLost",Rows.laid_jalousie_store_errLost),("jalousie/store.errFull",Rows.laid_jalousie_store_errFull),("jalousie/store.errSpent",Rows.laid_jalousie_store_errSpent)]
def gN0:Tryz.prog.globalNamed "jalousie/store.errLost"= some 0:=by kernel_rfl
def gN1:Tryz.prog.globalNamed "jalousie/store.errFull"= some 1:=by kernel_rfl
def gN2:Tryz.prog.globalNamed "jalousie/store.errSpent"= some 2:=by kernel_rfl
def gT0:(Tryz.prog.globals[0]?).map (·.type)=some 107:=by kernel_rfl
def gT1:(Tryz.prog.globals[1]?).map (·.type)=some 107:=by kernel_rfl
def gT2:(Tryz.prog.globals[2]?).map (·.type)=some 107:=by kernel_rfl
def Hi:Tryz.prog.cellsOf 319=1:=by kernel_rfl
def CM:Tryz.prog.cellsOf 9=1:=by kernel_rfl
def Sc : "*"++ "errors.errorString"= "*errors.errorString":=by decide
def TA (u:TypeId) (h:Tryz.prog.typeName? 3 u=some "*errors.errorString"):u=299 :=
 typeName_ptr_named (nm:= "errors.errorString") (by rw[Sc];kernel_rfl) zzK aA u (by rw[Sc];exact h)
set_option maxRecDepth 100000 in
def Hj (h:laidMetH Tryz.prog Sj W):∃ a,Gl (Hl.all W) a:=by
 rw[MakeChecks.laidMetH_plain _ _ _ zzK]at h;obtain⟨ps,⟨g0,t0,cs0,f0,p0,q0,NM,ht0,hv0,hd0,⟨g1,t1,cs1,f1,p1,q1,Ho,ht1,hv1,hd1,⟨g2,t2,cs2,f2,p2,q2,yY,ht2,hv2,hd2,_,e2⟩,e1⟩,e0⟩,hnd,hrows⟩:=h;obtain rfl:=aa0 (gN0.symm.trans NM);obtain rfl:=aa0 (gN1.symm.trans Ho);obtain rfl:=aa0 (gN2.symm.trans yY);obtain rfl:=aa0 (gT0.symm.trans ht0);obtain rfl:=aa0 (gT1.symm.trans ht1);obtain rfl:=aa0 (gT2.symm.trans ht2);subst e2;subst e1;subst e0;obtain⟨l0⟩:=cs0;obtain⟨l1⟩:=cs1;obtain⟨l2⟩:=cs2;have ok0:∀ u v,l0=[.iface u v]->Value.okWide Tryz.prog W .any 0 u v:=fun u v e=>by
  subst e;exact(hrows 0 0 (by simp [MemPlace.row])).2 u v (by simpa using World.var?_cell NM hv0 0)
 have ok1:∀ u v,l1=[.iface u v]->Value.okWide Tryz.prog W .any 0 u v:=fun u v e=>by
  subst e;exact(hrows 1 0 (by simp [MemPlace.row])).2 u v (by simpa using World.var?_cell Ho hv1 0)
 have ok2:∀ u v,l2=[.iface u v]->Value.okWide Tryz.prog W .any 0 u v:=fun u v e=>by
  subst e;exact(hrows 2 0 (by simp [MemPlace.row])).2 u v (by simpa using World.var?_cell yY hv2 0)
 obtain⟨a0,s0,rfl,hc0,hs0,hz0,rfl⟩:=errorString_of_trod Tryz.underlying107 TA Tryz.underlying299 Tryz.underlying319 rfl rfl Tryz.underlying9 Hi CM hd0 ok0;obtain⟨a1,s1,rfl,hc1,hs1,hz1,rfl⟩:=errorString_of_trod Tryz.underlying107 TA Tryz.underlying299 Tryz.underlying319 rfl rfl Tryz.underlying9 Hi CM hd1 ok1;obtain⟨a2,s2,rfl,hc2,hs2,hz2,rfl⟩:=errorString_of_trod Tryz.underlying107 TA Tryz.underlying299 Tryz.underlying319 rfl rfl Tryz.underlying9 Hi CM hd2 ok2;obtain⟨b0,y0,hb0⟩:=(hrows a0.block a0.off (by simp [MemPlace.row])).1;obtain⟨b1,y1,hb1⟩:=(hrows a1.block a1.off (by simp [MemPlace.row])).1;obtain⟨b2,y2,hb2⟩:=(hrows a2.block a2.off (by simp [MemPlace.row])).1;have n01:a0≠a1:=by rintro rfl;simp [MemPlace.row]at hnd
 have n02:a0≠a2:=by rintro rfl;simp [MemPlace.row]at hnd
 have n12:a1≠a2:=by rintro rfl;simp [MemPlace.row]at hnd
 have cell:∀ {g:Nat} {v:Value},W.cell? ⟨g,0,none⟩=some v->(Hl.all W).cell g 0=some v:=by
  intro g v h;unfold World.cell? at h;unfold Hl.cell Hl.all;cases hh:W.heap[g]? with
  | none=>simp [hh]at h
  | some o=>cases o<;>simp_all
 have c0:=cell (World.var?_cell NM hv0 0);have c1:=cell (World.var?_cell Ho hv1 0);have c2:=cell (World.var?_cell yY hv2 0);refine⟨fun g=>if g=oZ then a0 else if g=nj then a1 else a2,fun g hg=>?_,fun g hg=>?_,fun g h hg hh hne=>?_⟩
 .rcases hg with rfl | rfl | rfl
  .exact c0
  .exact c1
  .exact c2
 .rcases hg with rfl | rfl | rfl
  .exact⟨b0,y0,hb0⟩
  .exact⟨b1,y1,hb1⟩
  .exact⟨b2,y2,hb2⟩
 .rcases hg with rfl | rfl | rfl<;>rcases hh with rfl | rfl | rfl
  .exact absurd rfl hne
  .exact n01
  .exact n02
  .exact fun e=>n01 e.symm
  .exact absurd rfl hne
  .exact n12
  .exact fun e=>n02 e.symm
  .exact fun e=>n12 e.symm
  .exact absurd rfl hne
def o9:List (String×DataW Unit):=[("jalousie/jalousieref01.words",Rows.laid_jalousie_jalousieref01_words),("errors.errorType",Rows.laid_errors_errorType),("jalousie/hash.rounds",Rows.laid_jalousie_hash_rounds),("jalousie/store.errLost",Rows.laid_jalousie_store_errLost),("jalousie/store.errFull",Rows.laid_jalousie_store_errFull),("jalousie/store.errSpent",Rows.laid_jalousie_store_errSpent)]
def mZ {v:Value} (h:W.cell? ⟨g,j,none⟩=some v):(Hl.all W).cell g j=some v:=by
 unfold World.cell? at h;unfold Hl.cell Hl.all;cases hh:W.heap[g]? with
 | none=>simp [hh]at h
 | some o=>cases o<;>simp_all
def gl6 (h:laidMetH Tryz.prog o9 W):∃ a,Gl (Hl.all W) a:=by
 have h3:=h.filter fun x=>x.1== "jalousie/store.errLost"|| x.1== "jalousie/store.errFull"|| x.1== "jalousie/store.errSpent"
 have e:(o9.filter fun x=>x.1== "jalousie/store.errLost"|| x.1== "jalousie/store.errFull"|| x.1== "jalousie/store.errSpent")=Sj:=by kernel_rfl
 rw[e]at h3;exact Hj h3
def NY {n:String} (hn:Tryz.prog.globalNamed n=some g) (hgt:(Tryz.prog.globals[g]?).map (·.type)=some 172) (h:laidMet Tryz.prog [(n,.agg (DC.map fun z=>.lit (.int .u32 z)))] W):uJ (Hl.all W) g:=by
 obtain⟨ps,⟨g',t',cs,fuel,p,q,hg,ht,hv,hd,_,_⟩,_,_⟩:=h;obtain rfl:=aa0 (hn.symm.trans hg);obtain rfl:=aa0 (hgt.symm.trans ht);obtain⟨xs,m,_,ex,_,hl,hel⟩:=DataW.trod_array Tryz.underlying172 hd;have c5:Tryz.prog.cellsOf 170=1:=by kernel_rfl
 have hlen:DC.length=64:=by kernel_rfl
 intro r hr;have hE:=hel r hr;rw[c5,ab8,aab ah]at hE;obtain⟨z,e1,e2,_⟩:=DataW.trod_int Tryz.underlying170 hE;have e3:(xs.map (·.1))=DC.map fun n=>.lit (.int .u32 n):=(DataW.agg.inj (Prod.mk.inj ex).1).symm;have e4:(xs.map (·.1))[r]?=(DC.map fun n=>(DataW.lit (.int .u32 n):DataW Unit))[r]?:=by rw[e3]
 rw[aao,aao,aab (by omega:r<xs.length),aab (by omega:r<DC.length),e2]at e4;have hz:z=DC.getD r 0:=by
  simp only[aaP,aai,DataW.lit.injEq,Lit.int.injEq,aaY]at e4;rw[e4,List.getD,aab (by omega:r<DC.length)];rfl
 refine mZ ?_;rw[World.var?_cell hg hv r,<-hz];have:cs.toList[r]?=some (.int .u32 z):=by
  have h0:((cs.toList.drop r).take 1)[0]?=some (.int .u32 z):=by rw[e1];rfl
  simpa using h0
 simpa using this
def gNw:Tryz.prog.globalNamed "jalousie/jalousieref01.words"= some 3:=by kernel_rfl
def gNr:Tryz.prog.globalNamed "jalousie/hash.rounds"= some 5:=by kernel_rfl
def gTw:(Tryz.prog.globals[3]?).map (·.type)=some 172:=by kernel_rfl
def gTr:(Tryz.prog.globals[5]?).map (·.type)=some 172:=by kernel_rfl
def YK (h:laidMetH Tryz.prog o9 W):uJ (Hl.all W) 3:=by
 have h3:=h.filter fun x=>x.1== "jalousie/jalousieref01.words";have e:(o9.filter fun x=>x.1== "jalousie/jalousieref01.words")=[("jalousie/jalousieref01.words",.agg (DC.map fun z=>.lit (.int .u32 z)))]:=by kernel_rfl
 rw[e,MakeChecks.laidMetH_plain _ _ _ zzK]at h3;exact NY gNw gTw h3
def YJ (h:laidMetH Tryz.prog o9 W):uJ (Hl.all W) 5:=by
 have h3:=h.filter fun x=>x.1== "jalousie/hash.rounds";have e:(o9.filter fun x=>x.1== "jalousie/hash.rounds")=[("jalousie/hash.rounds",.agg (DC.map fun z=>.lit (.int .u32 z)))]:=by kernel_rfl
 rw[e,MakeChecks.laidMetH_plain _ _ _ zzK]at h3;exact NY gNr gTr h3
def gNe:Tryz.prog.globalNamed "errors.errorType"= some 4:=by kernel_rfl
def gRt:(Tryz.prog.cutTypes.find? (·.1== "internal/reflectlite.rtype")).map (·.2)=some 243:=by kernel_rfl
def Yx:((List.range Tryz.prog.types.size).filter fun t=>Tryz.prog.rowNamed t [101,114,114,111,114])=[107]:=by kernel_rfl
def Yu (h:laidMetH Tryz.prog o9 W):(Hl.all W).cell 4 0=some yG:=by
 have h3:=(laidMetH_iff.1 h).2;have e:(o9.filter fun x=>x.2.handleName?.isSome)=[("errors.errorType",Rows.laid_errors_errorType)]:=by kernel_rfl
 rw[e]at h3;obtain⟨name,u,ty,e1,e2,e3,e4,e5⟩:=h3 _ (aal.2 rfl);have en:name=[101,114,114,111,114]:=(aa0 e1).symm;subst en;obtain rfl:=aa0 (gRt.symm.trans e2);have hm:ty∈(List.range Tryz.prog.types.size).filter fun t=>Tryz.prog.rowNamed t [101,114,114,111,114]:=abt.2 ⟨aaO.2 e3,e4⟩;rw[Yx]at hm;obtain rfl:=aal.1 hm;have hh:typeHandle Tryz.prog 107=.pointer (some ⟨7,107,none⟩):=by kernel_rfl
 rw[hh]at e5;refine mZ ?_;unfold yG;simpa using World.var?_cell gNe e5 0
def K5 (os:Os) (args:Array Value):laidMetH Tryz.prog o9 ((World.doorLaid Tryz.prog 400 os).forCall (fun _ _=>0) ⟨#[],args,[]⟩).memory :=
 laidMetH_of_parts3 (fuel:=8) (laidMet_of_run' 8 zzK zzK) zzK zzK
end Go.Proofs.YtomdimlnggpgbaaGreatDoor
