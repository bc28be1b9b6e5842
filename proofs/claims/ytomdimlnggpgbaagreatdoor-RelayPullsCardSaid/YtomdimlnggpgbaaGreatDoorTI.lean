/- RelayPlays. -/
import Derived.Lib.Hide
import Derived.WalkSpells
import Derived.WalkLawsBesides
import Derived.Lib.BytesEntry
import Derived.Test.YtomdimlnggpgbaaGreatDoorTH
set_option linter.all false
set_option maxHeartbeats 4000000
namespace Go.Proofs.YtomdimlnggpgbaaGreatDoor
open Go Go.Sx Go.Pk
open Go.Proofs.YtomdimlnggpgbaaGreatDoor.D hiding aQ aD ib
variable {q q':Env}{F R RG:Hl}{x:Int}{l:List Int}{b j m n s y:Nat}{T:TypeId}{u:Value}
def il (h:okW x) {n:Int} (h0:0<=n) (h1:n<=32):qj.pre [.int .u32 x,.int .i64 n] [] []:=⟨⟨(bh fun i=>if i=0 then x else n),⟨zzT,zzT,zzT⟩,rfl⟩,h,h0,h1⟩
def gk {xs:List Value} {Hs Rs K:List Hl} (hx:xs=[.int .u32 x,.int .i64 (m:Int)]) (h:qj.post xs Hs Rs (Value.int .u32 (q.i n)) K F):q.i n=bE m x:=by
 subst hx;have h:Value.int .u32 (q.i n)=Value.int .u32 (bE ((m:Int)).toNat x):=h;rw[aaa]at h;simpa using h
section
variable {bs:List Int} {xs:List Value} {Rs:List Hl} {ms:Nat->Nat} {q:Env} {P B S:List Int} {k:Nat}
structure qS (bs P B:List Int) (k:Nat) (q:Env):Prop where
 p:P=gl bs
 b:B=(P.drop (64*k)).take 64
 k2:64*k+64<=P.length
 le:P.length<=1000000
 bb:aG B
 e100:q.i 100=((64*k:Nat):Int)
 s:Ih q 110 (nC c8 P k)
 p120:0<=q.i 120
 kat:uf (q.h 5) 3
 cell:∀ j z,P[j]?=some z->(q.h 82).cell (q.i 82).toNat j=some (.int .u8 z)
 x82:0<=q.i 82
 e51:q.i 51+8=P.length
def qS.mono (h:qS bs P B k q) (g:ai n q q') (hn:121<=n):qS bs P B k q':=by
 obtain⟨a1,a2,a3,a4,a5,a6,a7,a8,a9,a10,a11,a12⟩:=h;exact⟨a1,a2,a3,a4,a5,by rw[g.i 100];exact a6,a7.mono g ah,by rw[g.i 120];exact a8,by rw[g.h 5];exact a9,by rw[g.h 82,g.i 82];exact a10,by rw[g.i 82];exact a11,by rw[g.i 51];exact a12⟩
def qS.len (h:qS bs P B k q):B.length=64:=by
 have:=h.k2;rw[h.b,aaA,aaV];omega
def qS.get (h:qS bs P B k q) (hj:j<64):B.getD j 0=P.getD (64*k+j) 0:=by
 rw[h.b,aap,abc hj,aa0,<-aap]
def Lm (hB:qS bs P B k q) (hS:S=aP B 64) (h131:q.h 131=wH (q.i 120).toNat S 172) (e150:q.i 150=n) (hn:n<=64) (h8:Ih q 151 (cR (nC c8 P k) S n)) (m0:ms 0=(P.length-q.i 100).toNat) (m1:ms 1=(64-q.i 150).toNat):JB.holds (Xd bs xs Rs) ms q:=by
 show Nd.holds ⟨JC,Bp bs,Lk bs,postOf jS xs [] Rs⟩ ms q JB;have hle:=hB.le;have bU:=hB.k2;unfold JB;simp only[Nd.holds,X.pre,X.rel,X.n,Src.ok,Src.len,Src.iA,aaZ,aau,abK,acj,aa3,Nat.reduceAdd,aaL,aa9,qX,qU,jv,jZ,iR,qW,my,oK,lZ,ga,mo,mz,qV,mv,mq,jw,mw,aq,au,bQ,dj,cx,bJ,fg,fL,fM,fN,je,gb,iv,fR,TV.ev,SV.ev,CV.ev,aax,aa8,bm.hl,j7,Cp.sv,Ck.cv,bW,Cp.len,Ck.len,fX,gO,jc,JC,Oy];obtain⟨r,hr⟩:∃ r,r=cR (nC c8 P k) S n:=⟨_,rfl⟩;rw[<-hr]at h8;have okr:∀ j,j<8->okW (r j):=by rw[hr];exact sd (om P k) S n
 rw[e150];refine⟨fun hlt=>?_,fun hge=>?_⟩
 .have hn64:n<64:=ah;have cK:∀ {q':Env},ai 170 q q'->(q'.h 5).cell 3 (q'.i 150).toNat=some (.int .u32 (CT.getD n 0)):=fun {q'} hg=>by
   rw[hg.i 150,hg.h 5,e150,aaa];exact hB.kat n hn64
  have cS:∀ {q':Env},ai 170 q q'->(q'.h 131).cell (q'.i 120).toNat (q'.i 150).toNat=some (.int .u32 (S.getD n 0)):=fun {q'} hg=>by
   rw[hg.i 150,hg.i 120,hg.h 131,h131,e150,aaa];refine BB ?_;rw[aap,aab (by rw[hS,cV];exact hn64)];rfl
  have r4:∀ {q':Env},ai 170 q q'->q'.i 155=r 4:=fun hg=>(h8.mono hg ah) 4 ah;have r0:∀ {q':Env},ai 170 q q'->q'.i 151=r 0:=fun hg=>(h8.mono hg ah) 0 ah;have cK0:(q.h 5).cell (Int.toNat 3) ((n:Int)).toNat=some (.int .u32 (CT.getD n 0)):=by rw[<-e150];exact cK (ai.refl _ _)
  have cS0:(q.h 131).cell (q.i 120).toNat ((n:Int)).toNat=some (.int .u32 (S.getD n 0)):=by rw[<-e150];exact cS (ai.refl _ _)
  rw[cK0,cS0,r4 (ai.refl _ _)];refine⟨ah,rfl,hB.p120,rfl,il (okr 4 ah) ah ah,fun q6 g6 ⟨_,p6,_,_⟩=>?_⟩;rw[r4 g6];refine⟨il (okr 4 ah) ah ah,fun q7 g7 ⟨_,p7,_,_⟩=>?_⟩;have G7:ai 170 q q7:=g6.tr g7;rw[r4 G7];refine⟨il (okr 4 ah) ah ah,fun q8 g8 ⟨_,p8,_,_⟩=>?_⟩;have G8:ai 170 q q8:=G7.tr g8;rw[r0 G8];refine⟨il (okr 0 ah) ah ah,fun q9 g9 ⟨_,p9,_,_⟩=>?_⟩;have G9:ai 170 q q9:=G8.tr g9;rw[r0 G9];refine⟨il (okr 0 ah) ah ah,fun q10 g10 ⟨_,p10,_,_⟩=>?_⟩;have G10:ai 170 q q10:=G9.tr g10;rw[r0 G10];refine⟨il (okr 0 ah) ah ah,fun q11 g11 ⟨_,p11,_,_⟩=>?_⟩;have G11:ai 170 q q11:=G10.tr g11;have e170:q11.i 170=bE 6 (r 4):=by rw[g11.i 170,g10.i 170,g9.i 170,g8.i 170,g7.i 170];exact gk (m:=6) rfl p6
  have e171:q11.i 171=bE 11 (r 4):=by rw[g11.i 171,g10.i 171,g9.i 171,g8.i 171];exact gk (m:=11) rfl p7
  have e172:q11.i 172=bE 25 (r 4):=by rw[g11.i 172,g10.i 172,g9.i 172];exact gk (m:=25) rfl p8
  have e173:q11.i 173=bE 2 (r 0):=by rw[g11.i 173,g10.i 173];exact gk (m:=2) rfl p9
  have e174:q11.i 174=bE 13 (r 0):=by rw[g11.i 174];exact gk (m:=13) rfl p10
  have e175:q11.i 175=bE 22 (r 0):=gk (m:=22) rfl p11;have s11:Ih q11 151 r:=h8.mono G11 ah;have nE:IntKind.u32.wrap (4294967295-r 4)=4294967295-r 4:=by
   have:=okr 4 ah;unfold okW at this;exact ql ⟨ah,ah⟩
  have eT:dg (dg (dg (dg (q11.i 158+kI (q11.i 170) (q11.i 171) (q11.i 172))+cn .xor .u32 (iQ (q11.i 155) (q11.i 156)) (iQ (IntKind.u32.wrap (4294967295-q11.i 155)) (q11.i 157)))+bV ((q11.h 5).cell 3 (q11.i 150).toNat))+bV ((q11.h 131).cell (q11.i 120).toNat (q11.i 150).toNat))=HO r (CT.getD n 0) (S.getD n 0):=by
   rw[cK G11,cS G11,e170,e171,e172,show q11.i 158=r 7 from s11 7 ah,show q11.i 155=r 4 from s11 4 ah,show q11.i 156=r 5 from s11 5 ah,show q11.i 157=r 6 from s11 6 ah,nE];rfl
  have eU:dg (kI (q11.i 173) (q11.i 174) (q11.i 175)+cn .xor .u32 (cn .xor .u32 (iQ (q11.i 151) (q11.i 152)) (iQ (q11.i 151) (q11.i 153))) (iQ (q11.i 152) (q11.i 153)))=O9 r:=by
   rw[e173,e174,e175,show q11.i 151=r 0 from s11 0 ah,show q11.i 152=r 1 from s11 1 ah,show q11.i 153=r 2 from s11 2 ah];rfl
  have ew:IntKind.i64.wrap (q11.i 150+1)=((n+1:Nat):Int):=by rw[G11.i 150,e150,wrap_i64 ah ah];rfl
  have f100:q11.i 100=((64*k:Nat):Int):=by rw[G11.i 100,hB.e100]
  refine⟨⟨n+1,ew,ah,fun j hj=>?_⟩,?_⟩
  .show _=cR (nC c8 (gl bs) ((q11.i 100).toNat/64)) (aP (((gl bs).drop (q11.i 100).toNat).take 64) 64) (n+1) j;rw[f100,aaa,show 64*k/64=k by omega,<-hB.p,<-hB.b,<-hS];show _=tP (cR (nC c8 P k) S n) (CT.getD n 0) (S.getD n 0) j;rw[<-hr]
   match j,hj with
   | 0,_ =>
    show dg (dg (dg (dg (dg (q11.i 158+kI (q11.i 170) (q11.i 171) (q11.i 172))+cn .xor .u32 (iQ (q11.i 155) (q11.i 156)) (iQ (IntKind.u32.wrap (4294967295-q11.i 155)) (q11.i 157)))+bV ((q11.h 5).cell 3 (q11.i 150).toNat))+bV ((q11.h 131).cell (q11.i 120).toNat (q11.i 150).toNat))+dg (kI (q11.i 173) (q11.i 174) (q11.i 175)+cn .xor .u32 (cn .xor .u32 (iQ (q11.i 151) (q11.i 152)) (iQ (q11.i 151) (q11.i 153))) (iQ (q11.i 152) (q11.i 153))))=dg (HO r _ _+O9 r);rw[eT,eU]
   | 4,_ =>
    show dg (q11.i 154+dg (dg (dg (dg (q11.i 158+kI (q11.i 170) (q11.i 171) (q11.i 172))+cn .xor .u32 (iQ (q11.i 155) (q11.i 156)) (iQ (IntKind.u32.wrap (4294967295-q11.i 155)) (q11.i 157)))+bV ((q11.h 5).cell 3 (q11.i 150).toNat))+bV ((q11.h 131).cell (q11.i 120).toNat (q11.i 150).toNat)))=dg (r 3+HO r _ _);rw[eT,show q11.i 154=r 3 from s11 3 ah]
   | 1,_=>exact s11 0 ah
   | 2,_=>exact s11 1 ah
   | 3,_=>exact s11 2 ah
   | 5,_=>exact s11 4 ah
   | 6,_=>exact s11 5 ah
   | 7,_=>exact s11 6 ah
  .rw[m1,e150];show(64-IntKind.i64.wrap (q11.i 150+1)).toNat<_;rw[ew];omega
 .have en:n=64:=ah;subst en;have ew:IntKind.i64.wrap (q.i 100+64)=((64*(k+1):Nat):Int):=by rw[hB.e100,wrap_i64 ah ah];omega
  refine⟨⟨k+1,ew,by rw[<-hB.p];omega,fun j hj=>?_⟩,?_⟩
  .rw[<-hB.p];show _=dg (nC c8 P k j+cR (nC c8 P k) (aP ((P.drop (64*k)).take 64) 64) 64 j);rw[<-hB.b,<-hS,<-hr,<-hB.s j hj,<-h8 j hj]
   match j,hj with
   | 0,_=>rfl
   | 1,_=>rfl
   | 2,_=>rfl
   | 3,_=>rfl
   | 4,_=>rfl
   | 5,_=>rfl
   | 6,_=>rfl
   | 7,_=>rfl
  .rw[m0];show(((gl bs).length:Int)-IntKind.i64.wrap (q.i 100+64)).toNat<_;rw[ew,<-hB.p,hB.e100];omega
def LL (a b c d:Int) (ha:0<=a/\a<256) (hb:0<=b/\b<256) (hc:0<=c/\c<256) (hd:0<=d/\d<256):dg (dg (dg (dg (dg a*16777216)+dg (dg b*65536))+dg (dg c*256))+dg d)=dg (a*16777216+b*65536+c*256+d):=by
 simp only[tZ];omega
def RF (h:okW x) {n:Int} (hn:0<n):IntKind.u32.wrap (x.tdiv n)=x/n:=by
 unfold okW at h;rw[abQ h.1];refine ql ⟨Int.ediv_nonneg h.1 ah,Int.lt_of_le_of_lt (Int.ediv_le_self _ h.1) h.2⟩
def Ln (hB:qS bs P B k q) (hW:JW B n l) (h131:q.h 131=wH (q.i 120).toNat l 172) (e130:q.i 130=n) (hn:n<=64) (m0:ms 0=(P.length-q.i 100).toNat) (m1:ms 1=(64-q.i 130).toNat):CO.holds (Xd bs xs Rs) ms q:=by
 show Nd.holds ⟨JC,Bp bs,Lk bs,postOf jS xs [] Rs⟩ ms q CO;have hle:=hB.le;have bU:=hB.k2;have hBl:=hB.len;have hl:=hW.1;have f100:=hB.e100;have fold:∀ q':Env,ai 131 q q'->(((gl bs).drop (q'.i 100).toNat).take 64)=B:=fun q' hg=>by
  rw[hg.i 100,f100,aaa,<-hB.p,<-hB.b]
 unfold CO;simp only[Nd.holds,X.pre,X.rel,X.n,Src.ok,Src.len,Src.iA,aaZ,aau,abK,acj,aa3,Nat.reduceAdd,aaL,aa9,qX,qU,jv,jZ,iR,qW,my,oK,lZ,ga,mo,mz,qV,mv,mq,jw,mw,aq,au,bQ,dj,cx,bJ,fg,fL,fM,fN,je,gb,iv,fR,TV.ev,SV.ev,CV.ev,aax,aa8,bm.hl,j7,Cp.sv,Ck.cv,bW,Cp.len,Ck.len,fX,gO,jc,JC,Oy];rw[e130];refine⟨fun hlt2=>⟨fun h16=>?_,fun h16=>?_⟩,fun hge2=>?_⟩
 .have rdB:∀ {d:Nat},d<4->(q.h 82).cell (q.i 82).toNat (((64*k:Nat):Int)+4*(n:Int)+(d:Int)).toNat=some (.int .u8 (B.getD (4*n+d) 0)):=fun {d} hd=>by
   rw[show(((64*k:Nat):Int)+4*(n:Int)+(d:Int)).toNat=64*k+(4*n+d)by omega,hB.get ah];refine hB.cell _ _ ?_;rw[aap,aab ah];rfl
  have w0:IntKind.i64.wrap (q.i 100+IntKind.i64.wrap (4*(n:Int)))=((64*k:Nat):Int)+4*(n:Int):=by rw[f100,wrap_i64 (n:=4*(n:Int)) ah ah,wrap_i64 ah ah]
  have w1:∀ d:Nat,d<4->IntKind.i64.wrap (((64*k:Nat):Int)+4*(n:Int)+(d:Int))=((64*k:Nat):Int)+4*(n:Int)+(d:Int):=fun d hd=>wrap_i64 ah ah;have c0:=rdB (d:=0) ah;rw[show((64*k:Nat):Int)+4*(n:Int)+((0:Nat):Int)=((64*k:Nat):Int)+4*(n:Int)by omega]at c0;have c1:(q.h 82).cell (q.i 82).toNat (((64*k:Nat):Int)+4*(n:Int)+1).toNat=some (.int .u8 (B.getD (4*n+1) 0)):=rdB (d:=1) ah;have c2:(q.h 82).cell (q.i 82).toNat (((64*k:Nat):Int)+4*(n:Int)+2).toNat=some (.int .u8 (B.getD (4*n+2) 0)):=rdB (d:=2) ah;have c3:(q.h 82).cell (q.i 82).toNat (((64*k:Nat):Int)+4*(n:Int)+3).toNat=some (.int .u8 (B.getD (4*n+3) 0)):=rdB (d:=3) ah;have x1:IntKind.i64.wrap (((64*k:Nat):Int)+4*(n:Int)+1)=((64*k:Nat):Int)+4*(n:Int)+1:=w1 1 ah;have x2:IntKind.i64.wrap (((64*k:Nat):Int)+4*(n:Int)+2)=((64*k:Nat):Int)+4*(n:Int)+2:=w1 2 ah;have x3:IntKind.i64.wrap (((64*k:Nat):Int)+4*(n:Int)+3)=((64*k:Nat):Int)+4*(n:Int)+3:=w1 3 ah;have gB:∀ j,j<64->0<=B.getD j 0/\B.getD j 0<256:=fun j hj=>by
   rw[aap,aab ah,abw];exact hB.bb _ (abB _)
  rw[w0,x1,x2,x3,c0,c1,c2,c3,hB.e51];refine⟨hB.x82,ah,ah,rfl,ah,ah,rfl,ah,ah,rfl,ah,ah,rfl,hB.p120,ah,⟨hB.p120,ah,?_⟩,fun q26 g26 h140=>?_⟩
  .rw[h131,aaa];exact JS ah
  have h140:q26.h 140=(wH (q.i 120).toNat l 172).put (q.i 120).toNat n [Value.int .u32 (dg (dg (dg (dg (dg (B.getD (4*n) 0)*16777216)+dg (dg (B.getD (4*n+1) 0)*65536))+dg (dg (B.getD (4*n+2) 0)*256))+dg (B.getD (4*n+3) 0)))]:=by
   rw[h140,h131,aaa];rfl
  rw[LL _ _ _ _ (gB _ ah) (gB _ ah) (gB _ ah) (gB _ ah),C9 ah]at h140;have ew:IntKind.i64.wrap (q26.i 130+1)=((n+1:Nat):Int):=by rw[g26.i 130,e130,wrap_i64 ah ah];rfl
  refine⟨⟨n+1,l.set n (FG B n),ew,ah,?_,?_⟩,?_⟩
  .show JW (((gl bs).drop (q26.i 100).toNat).take 64) _ _;rw[fold q26 g26.mono];exact hW.set ah (by rw[aay ah])
  .show q26.h 140=wH (q26.i 120).toNat _ _;rw[h140,g26.i 120];rfl
  .rw[m1,e130];show(64-IntKind.i64.wrap (q26.i 130+1)).toNat<_;rw[ew];omega
 .have rd:∀ {q':Env},ai 140 q q'->∀ d:Nat,1<=d->d<=16->(q'.h 131).cell (q'.i 120).toNat ((n:Int)-d).toNat=some (.int .u32 ((aP B n).getD (n-d) 0)):=fun {q'} hg d h1 h2=>by
   rw[hg.h 131,hg.i 120,h131,show((n:Int)-d).toNat=n-d by omega];exact BB (hW.get ah ah)
  have ok:∀ d:Nat,1<=d->d<=16->okW ((aP B n).getD (n-d) 0):=fun d h1 h2=>Fk _ _ ah;have wd:∀ {q':Env},ai 140 q q'->∀ d:Nat,1<=d->d<=16->IntKind.i64.wrap (q'.i 130-d)=(n:Int)-d:=fun hg d h1 h2=>by rw[hg.i 130,e130,wrap_i64 ah ah]
  have w15:∀ {q':Env},ai 140 q q'->IntKind.i64.wrap (q'.i 130-15)=(n:Int)-15:=fun hg=>wd hg 15 ah ah;have w2:∀ {q':Env},ai 140 q q'->IntKind.i64.wrap (q'.i 130-2)=(n:Int)-2:=fun hg=>wd hg 2 ah ah;have w16:∀ {q':Env},ai 140 q q'->IntKind.i64.wrap (q'.i 130-16)=(n:Int)-16:=fun hg=>wd hg 16 ah ah;have w7:∀ {q':Env},ai 140 q q'->IntKind.i64.wrap (q'.i 130-7)=(n:Int)-7:=fun hg=>wd hg 7 ah ah;have r15:∀ {q':Env},ai 140 q q'->(q'.h 131).cell (q'.i 120).toNat ((n:Int)-15).toNat=some (.int .u32 ((aP B n).getD (n-15) 0)):=fun hg=>rd hg 15 ah ah;have r2:∀ {q':Env},ai 140 q q'->(q'.h 131).cell (q'.i 120).toNat ((n:Int)-2).toNat=some (.int .u32 ((aP B n).getD (n-2) 0)):=fun hg=>rd hg 2 ah ah;have r16:∀ {q':Env},ai 140 q q'->(q'.h 131).cell (q'.i 120).toNat ((n:Int)-16).toNat=some (.int .u32 ((aP B n).getD (n-16) 0)):=fun hg=>rd hg 16 ah ah;have r7:∀ {q':Env},ai 140 q q'->(q'.h 131).cell (q'.i 120).toNat ((n:Int)-7).toNat=some (.int .u32 ((aP B n).getD (n-7) 0)):=fun hg=>rd hg 7 ah ah;have a15:=w15 (ai.refl 140 q);rw[e130]at a15;rw[a15,r15 (ai.refl _ _)];refine⟨hB.p120,ah,ah,rfl,il (ok 15 ah ah) ah ah,fun q6 g6 ⟨_,p6,_,_⟩=>?_⟩;rw[w15 g6,r15 g6];refine⟨il (ok 15 ah ah) ah ah,fun q7 g7 ⟨_,p7,_,_⟩=>?_⟩;have G7:ai 140 q q7:=g6.tr g7;rw[w2 G7,r2 G7];refine⟨ah,ah,rfl,il (ok 2 ah ah) ah ah,fun q8 g8 ⟨_,p8,_,_⟩=>?_⟩;have G8:ai 140 q q8:=G7.tr g8;rw[w2 G8,r2 G8];refine⟨il (ok 2 ah ah) ah ah,fun q9 g9 ⟨_,p9,_,_⟩=>?_⟩;have G9:ai 140 q q9:=G8.tr g9;have e140:q9.i 140=bE 7 ((aP B n).getD (n-15) 0):=by rw[g9.i 140,g8.i 140,g7.i 140];exact gk (m:=7) rfl p6
  have e141:q9.i 141=bE 18 ((aP B n).getD (n-15) 0):=by rw[g9.i 141,g8.i 141];exact gk (m:=18) rfl p7
  have e142:q9.i 142=bE 17 ((aP B n).getD (n-2) 0):=by rw[g9.i 142];exact gk (m:=17) rfl p8
  have e143:q9.i 143=bE 19 ((aP B n).getD (n-2) 0):=gk (m:=19) rfl p9;have x1:az q9 (E.bits BinOp.xor IntKind.u32 (E.bits BinOp.xor IntKind.u32 (E.var 140) (E.var 141)) (E.wrap IntKind.u32 ((E.hI 131 (E.var 120) (E.wrap IntKind.i64 ((E.var 130).sub (E.lit 15))) 0).quo (E.lit 8))))=ZA ((aP B n).getD (n-15) 0):=by
   show kI (q9.i 140) (q9.i 141) (IntKind.u32.wrap ((bV ((q9.h 131).cell (q9.i 120).toNat ((IntKind.i64.wrap (q9.i 130-15)).toNat))).tdiv 8))=_;rw[w15 G9,r15 G9,show bV (some (Value.int .u32 ((aP B n).getD (n-15) 0)))=(aP B n).getD (n-15) 0 from rfl,RF (ok 15 ah ah) ah,e140,e141];rfl
  have x2:az q9 (E.bits BinOp.xor IntKind.u32 (E.bits BinOp.xor IntKind.u32 (E.var 142) (E.var 143)) (E.wrap IntKind.u32 ((E.hI 131 (E.var 120) (E.wrap IntKind.i64 ((E.var 130).sub (E.lit 2))) 0).quo (E.lit 1024))))=Um ((aP B n).getD (n-2) 0):=by
   show kI (q9.i 142) (q9.i 143) (IntKind.u32.wrap ((bV ((q9.h 131).cell (q9.i 120).toNat ((IntKind.i64.wrap (q9.i 130-2)).toNat))).tdiv 1024))=_;rw[w2 G9,r2 G9,show bV (some (Value.int .u32 ((aP B n).getD (n-2) 0)))=(aP B n).getD (n-2) 0 from rfl,RF (ok 2 ah ah) ah,e142,e143];rfl
  have j130:q9.i 130=n:=by rw[G9.i 130,e130]
  have j120:q9.i 120=q.i 120:=G9.i 120;have hh9:q9.h 131=wH (q.i 120).toNat l 172:=by rw[G9.h 131,h131]
  rw[w16 G9,w7 G9,r16 G9,r7 G9,x1,x2,j130,j120,aaa,hh9];refine⟨ah,ah,rfl,ah,ah,rfl,⟨hB.p120,ah,JS ah⟩,fun q10 g10 h144=>?_⟩;have h144:q10.h 144=(wH (q.i 120).toNat l 172).put (q.i 120).toNat n [Value.int .u32 (BC (aP B n) n)]:=h144;rw[C9 ah]at h144;have ew:IntKind.i64.wrap (q10.i 130+1)=((n+1:Nat):Int):=by rw[g10.i 130,j130,wrap_i64 ah ah];rfl
  have G10:ai 140 q q10:=G9.tr g10;refine⟨⟨n+1,l.set n (BC (aP B n) n),ew,ah,?_,?_⟩,?_⟩
  .show JW (((gl bs).drop (q10.i 100).toNat).take 64) _ _;rw[fold q10 G10.mono];exact hW.set ah (by rw[aal ah])
  .show q10.h 144=wH (q10.i 120).toNat _ _;rw[h144,g10.i 120,j120]
  .rw[m1,e130];show(64-IntKind.i64.wrap (q10.i 130+1)).toNat<_;rw[ew];omega
 .have en:n=64:=ah;subst en;have el:=hW.all;refine⟨⟨0,rfl,ah,fun j hj=>?_⟩,fun q26 g26 ⟨n',e150,hn',s8'⟩=>?_⟩
  .show _=cR (nC c8 (gl bs) ((q.i 100).toNat/64)) (aP (((gl bs).drop (q.i 100).toNat).take 64) 64) 0 j;rw[f100,aaa,show 64*k/64=k by omega,<-hB.p];show _=nC c8 P k j;rw[<-hB.s j hj]
   match j,hj with
   | 0,_=>rfl
   | 1,_=>rfl
   | 2,_=>rfl
   | 3,_=>rfl
   | 4,_=>rfl
   | 5,_=>rfl
   | 6,_=>rfl
   | 7,_=>rfl
  .have hB6:=hB.mono g26 ah;refine Lm hB6 (S:=aP B 64) rfl ?_ e150 hn' ?_ ?_ rfl
   .rw[g26.h 131,h131,g26.i 120,el]
   .rw[hB6.e100,aaa,show 64*k/64=k by omega,<-hB.p,<-hB.b]at s8';exact s8'
   .show ms 0=_;rw[m0,g26.i 100]
def bH (b:Nat) (l:List Int) (T:TypeId):Hl:=Hl.one b (.cells (aS l).toArray T (0,0))
def R8 (h:y<l.length) (z:Int):(bH b l T).put b y [Value.int .u8 z]=bH b (l.set y z) T:=by
 unfold bH aS;rw[Hl.Cv]
 congr 2
 apply aaQ;apply aaN;intro j;rw[Sx.si (by simp;omega),adx];simp only[aaL,aa9,acG,aaw,aao];by_cases h2:j=y
 .subst h2;rw[aay ah,aay rfl,aay h];simp
 .rw[aal ah,aal ah]
def UB (h:y<l.length):(bH b l T).wr b y 1=true:=Hl.Hi _ _ _ _ _ (by simp [aS];omega)
def Pj (b:Nat) (l:List Int) (T:TypeId) (j:Nat):(bH b l T).cell b j=(l[j]?).map (Value.int .u8):=by
 unfold bH aS;rw[Hl.lD,abi,aao]
def OI (bs:List Int) (h:j<32):(gm bs).getD j 0=CU bs (j/4)/2 ^ (24-8*(j%4))%256:=by
 unfold gm;rw[aap,aao,aaJ h];rfl
def OJ (hx:okW x) (hs:s<=24):IntKind.u8.wrap (x.fdiv (2 ^ (min ((s:Int)).toNat IntKind.u32.bits)))=x/2 ^ s%256:=by
 unfold okW at hx;have e:min ((s:Nat):Int).toNat IntKind.u32.bits=s:=by show min _ 32=_;omega
 have e2:(0:Int)<=2 ^ s:=Int.le_of_lt (Int.pow_pos aA);rw[e,abt _ e2];exact RU _
def Ll (hxs:xs=[u]) (hRs:Rs=[R,RG]) (hR:fC R u bs) (p84:0<=q.i 84) (p120:0<=q.i 120) (e200:q.i 200=n) (hn:n<=32) (hl:l.length=32) (hW:∀ j,j<n->l[j]?=some ((gm bs).getD j 0)) (h201:q.h 201=bH (q.i 120).toNat l 58) (h202:q.h 202=wH (q.i 84).toNat (s8 (CU bs)) 171) (m0:ms 0=(32-q.i 200).toNat):JA.holds (Xd bs xs Rs) ms q:=by
 show Nd.holds ⟨JC,Bp bs,Lk bs,postOf jS xs [] Rs⟩ ms q JA;unfold JA;simp only[Nd.holds,X.pre,X.rel,X.n,Src.ok,Src.len,Src.iA,aaZ,aau,abK,acj,aa3,Nat.reduceAdd,aaL,aa9,qX,qU,jv,jZ,iR,qW,my,oK,lZ,ga,mo,mz,qV,mv,mq,jw,mw,aq,au,bQ,dj,cx,bJ,fg,fL,fM,fN,je,gb,iv,fR,TV.ev,SV.ev,CV.ev,aax,aa8,bm.hl,j7,Cp.sv,Ck.cv,bW,Cp.len,Ck.len,fX,gO,jc,JC,Oy];rw[e200];refine⟨fun hlt=>?_,fun hge=>?_⟩
 .have hn32:n<32:=ah;have w4:IntKind.i64.wrap (az q ((E.var 200).quo (E.lit 4)))=((n/4:Nat):Int):=by
   show IntKind.i64.wrap ((q.i 200).tdiv 4)=_;rw[e200,abQ ah,wrap_i64 ah ah];omega
  have wr:az q ((E.var 200).rem (E.lit 4))=((n%4:Nat):Int):=by
   show(q.i 200).tmod 4=_;rw[e200,abh ah];omega
  have ws:IntKind.u32.wrap (IntKind.i64.wrap (24-IntKind.i64.wrap (8*((n%4:Nat):Int))))=((24-8*(n%4):Nat):Int):=by
   rw[wrap_i64 (n:=8*((n%4:Nat):Int)) ah ah,wrap_i64 ah ah];have:=ql (x:=24-8*((n%4:Nat):Int)) ⟨ah,ah⟩;unfold dg at this;rw[this];omega
  have okv:okW (CU bs (n/4)):=om _ _ _ ah;have cv:(q.h 202).cell (q.i 84).toNat (((n/4:Nat):Int)).toNat=some (.int .u32 (CU bs (n/4))):=by
   rw[h202,aaa];refine BB ?_;unfold s8;rw[aao,aaJ ah];rfl
  have xv:IntKind.u8.wrap (az q (E.shr IntKind.u32 (E.hI 202 (E.var 84) (E.wrap IntKind.i64 ((E.var 200).quo (E.lit 4))) 0) (E.wrap IntKind.u32 (E.wrap IntKind.i64 ((E.lit 24).sub (E.wrap IntKind.i64 ((E.lit 8).mul ((E.var 200).rem (E.lit 4)))))))))=(gm bs).getD n 0:=by
   show IntKind.u8.wrap ((bV ((q.h 202).cell (q.i 84).toNat ((IntKind.i64.wrap (az q ((E.var 200).quo (E.lit 4)))).toNat))).fdiv (2 ^ (min (IntKind.u32.wrap (IntKind.i64.wrap (24-IntKind.i64.wrap (8*az q ((E.var 200).rem (E.lit 4)))))).toNat IntKind.u32.bits)))=_;rw[w4,wr,ws,cv,OI bs hn32];exact OJ okv ah
  rw[w4,wr,ws,cv,xv,h201,aaa];refine⟨p84,ah,ah,rfl,ah,p120,ah,⟨p120,ah,UB ah⟩,fun q1 g1 h210=>?_⟩;rw[R8 ah]at h210;have ew:IntKind.i64.wrap (q1.i 200+1)=((n+1:Nat):Int):=by rw[g1.i 200,e200,wrap_i64 ah ah];rfl
  refine⟨⟨n+1,l.set n ((gm bs).getD n 0),ew,ah,by rw[List.length_set];exact hl,fun j hj=>?_,?_,?_⟩,?_⟩
  .rw[acG];by_cases e:n=j
   .subst e;rw[aay rfl,aay ah]
   .rw[aal e];exact hW j ah
  .show q1.h 210=bH (q1.i 120).toNat _ _;rw[h210,g1.i 120]
  .show q1.h 202=wH (q1.i 84).toNat _ _;rw[g1.h 202,g1.i 84,h202]
  .rw[m0,e200];show(32-IntKind.i64.wrap (q1.i 200+1)).toNat<_;rw[ew];omega
 .have en:n=32:=ah;subst en;have hS:=fT bs;have el:l=gm bs:=by
   apply aaN;intro j;by_cases hj:j<32
   .rw[hW j hj,aap,aab ah];rfl
   .rw[aas ah,aas ah]
  have hc:∀ j z,(gm bs)[j]?=some z->(q.h 201).cell (q.i 120).toNat (Int.toNat 0+j)=some (.int .u8 z):=fun j z hz=>by
   rw[h201,el,Pj,show Int.toNat 0+j=j from aaM j,hz];rfl
  have ev:(aU 201 (E.var 120) (E.lit 0) 0 (List.replicate 32 (Kd.int .u8))).map (CV.ev q)=aS (gm bs):=iM 32 0 _ hS fun i z hz=>by
   show(q.h 201).cell (q.i 120).toNat (Int.toNat 0+(0+i))=_;rw[aaM i];exact hc i z hz
  obtain⟨ρ2,_,_,e2⟩:=cU (List.replicate 32 (Ck.int .u8)) 0 (aS (gm bs)) q (oA 32 _ hS);refine⟨p120,cW hc (by rw[hS];decide),fun _=>⟨[],[],rfl,rfl,⟨ρ2,?_,cC _ _ _ aA,zzT⟩,fun u' bs' R' RG' h1 h2 h'=>?_⟩⟩
  .show Value.agg ((aU 201 (E.var 120) (E.lit 0) 0 (List.replicate 32 (Kd.int .u8))).map (CV.ev q)).toArray=Value.agg ((ak 0 (List.replicate 32 (Ck.int .u8))).map (CV.ev ρ2)).toArray;rw[ev,e2]
  .subst hxs hRs;simp only[aag,aau]at h1 h2;subst h1;obtain⟨rfl,rfl⟩:=h2;obtain rfl:=h'.uniq hR;show Value.agg ((aU 201 (E.var 120) (E.lit 0) 0 (List.replicate 32 (Kd.int .u8))).map (CV.ev q)).toArray=_;rw[ev]
def Lj (hxs:xs=[u]) (hRs:Rs=[R,RG]) (hR:fC R u bs) (hP:P=gl bs) (hPm:P.length%64=0) (hle:P.length<=1000000) (hPb:aG P) (p84:0<=q.i 84) (hK:uf (q.h 5) 3) (hc:∀ j z,P[j]?=some z->(q.h 82).cell (q.i 82).toNat j=some (.int .u8 z)) (x82:0<=q.i 82) (e51:q.i 51+8=P.length) (e100:q.i 100=((64*k:Nat):Int)) (hk:64*k<=P.length) (h8:Ih q 110 (nC c8 P k)) (m0:ms 0=(P.length-q.i 100).toNat):Jz.holds (Xd bs xs Rs) ms q:=by
 show Nd.holds ⟨JC,Bp bs,Lk bs,postOf jS xs [] Rs⟩ ms q Jz;unfold Jz;simp only[Nd.holds,X.pre,X.rel,X.n,Src.ok,Src.len,Src.iA,aaZ,aau,abK,acj,aa3,Nat.reduceAdd,aaL,aa9,qX,qU,jv,jZ,iR,qW,my,oK,lZ,ga,mo,mz,qV,mv,mq,jw,mw,aq,au,bQ,dj,cx,bJ,fg,fL,fM,fN,je,gb,iv,fR,TV.ev,SV.ev,CV.ev,aax,aa8,bm.hl,j7,Cp.sv,Ck.cv,bW,Cp.len,Ck.len,fX,gO,jc,JC,Oy];rw[e51,e100];refine⟨fun hlt=>?_,fun hge=>?_⟩
 .have bU:64*k+64<=P.length:=ah;intro q23 g23 p120 q24 g24 h121;have B24:ai 120 q q24:=g23.tr g24;have p120':0<=q24.i 120:=by rw[g24.i 120];exact p120
  have hB:qS bs P ((P.drop (64*k)).take 64) k q24:=⟨hP,rfl,bU,hle,fun z hz=>hPb z (ab3 (abV hz)),by rw[B24.i 100];exact e100,h8.mono B24 ah,p120',by rw[B24.h 5];exact hK,by rw[B24.h 82,B24.i 82];exact hc,by rw[B24.i 82];exact x82,by rw[B24.i 51];exact e51⟩;refine⟨⟨0,List.replicate 64 0,rfl,ah,⟨aC,fun j hj=>ah⟩,?_⟩,fun q25 g25 ⟨n,l,e130,hn,hW,h131⟩=>?_⟩
  .show q24.h 121=wH (q24.i 120).toNat _ _;rw[h121,g24.i 120];rfl
  have hB5:=hB.mono g25 ah;rw[hB5.e100,aaa,<-hP]at hW;refine Ln hB5 hW h131 e130 hn ?_ rfl;show ms 0=_;rw[m0,hB5.e100,e100]
 .intro q23 g23 p120 q24 g24 h121 q25 g25 h122;have B25:ai 120 q q25:=g23.trans (g24.mono.tr g25);have ek:k=P.length/64:=ah;refine⟨⟨0,List.replicate 32 0,rfl,ah,aC,fun j hj=>ah,?_,?_⟩,fun q26 g26 ⟨n,l,e200,hn,hl,hW,h201,h202⟩=>?_⟩
  .show q25.h 121=bH (q25.i 120).toNat _ _;rw[g25.h 121,h121,g25.i 120,g24.i 120];rfl
  .show q25.h 122=wH (q25.i 84).toNat _ _;have e:(ak 110 (List.replicate 8 vB)).map (CV.ev q24)=Ie (s8 (CU bs)):=by
    refine Lw ?_;have:=h8.mono (g23.tr g24) ah;rw[ek,hP]at this;exact this
   rw[h122,g25.i 84];show Hl.one _ (.cells ((ak 110 (List.replicate 8 vB)).map (CV.ev q24)).toArray _ (0,0))=_;rw[e];rfl
  .exact Ll hxs hRs hR (by rw[g26.i 84,B25.i 84];exact p84) (by rw[g26.i 120,g25.i 120,g24.i 120];exact p120) e200 hn hl hW h201 h202 rfl
end
def zD:jS.OK Tryz.prog:=by
 refine Spec.aV (Γ:=JC) T3 ?_;rintro xs Hs Rs hl1 hl2 ⟨u,bs,R,RG,rfl,rfl,hR,hb,hlen,hK⟩;have e0:Hs=[]:=aad.1 hl1;subst e0;obtain⟨x,y,c,rfl,hy,hRc⟩:=id hR;refine⟨RM,aQ [x,y,bs.length,c] false [Hl.none,Hl.none,Hl.none,Hl.none,R,RG],
  Bp bs,Lk bs,?_,cD (by intro r hr;simp [RM]at hr;rcases hr with rfl | rfl<;>exact⟨_,_,_,rfl⟩) rfl,(fun _ h=>nomatch h),?_⟩
 .show [Value.slice (ar x y) ((bs.length:Int)).toNat ((c:Int)).toNat]=_;simp only[aaa]
 .refine aF.lit (x:=Oz) ?_;generalize hρ:aQ [x,y,bs.length,c] false [Hl.none,Hl.none,Hl.none,Hl.none,R,RG]=J;have V:∀ q:Env,ai 6 J q->q.i 0=x/\q.i 1=y/\q.i 2=bs.length/\q.i 3=c/\q.h 4=R/\q.h 5=RG:=fun q hg=>by
   rw[hg.i 0,hg.i 1,hg.i 2,hg.i 3,hg.h 4,hg.h 5,<-hρ];exact⟨rfl,rfl,rfl,rfl,rfl,rfl⟩
  clear hρ;unfold Oz;simp only[go_sem,Nat.reduceAdd,JC,Oy,SU];have t0:Int.toNat 0=0:=rfl;have EL:aK Hl.none 5 1 (.slice (ar (-1) 0) (Int.toNat 0) (Int.toNat 0)) (Int.toNat 0) []:=⟨rfl,Or.inl ⟨rfl,rfl⟩⟩;intro q1 g1 p6;have G1:ai 6 J q1:=g1;obtain⟨v0,v1,v2,v3,w4,w5⟩:=V q1 G1;have hseg:=se (R:=R) (x:=x) (y:=y) (l:=(bs.length:Int)) rfl hy hRc;rw[v0,v1,v2,w4];refine⟨⟨⟨[],EL⟩,aar _,by have:=hseg.1;simpa using this,by rw[t0,aaa];unfold maxLen;omega,by rw[t0,aaa];omega⟩,fun q2 g2 ⟨r1,r2,r3,_⟩ q2' g2' _=>?_⟩;have o2:=r3 [] EL;rw[hseg.2,t0,aaa,aaM,abE]at o2;have b2:Ob q2 7 7 8 (bs.length:Int) bs:=⟨by rw[aaa];exact o2,rfl,r1,r2⟩;have G2':ai 6 J q2':=G1.trans (g2.mono.tr g2');have b2:=b2.mono g2' ah ah ah;have v2':q2'.i 2=bs.length:=(V q2' G2').2.2.1;rw[<-v2']at b2;refine⟨b2.pre ah,fun q3 g3 ⟨r1,r2,r3,_⟩=>?_⟩;have b3:=b2.app ⟨r1,r2,r3⟩ rfl;have G3:ai 6 J q3:=G2'.tr g3;rw[v2',<-(V q3 G3).2.2.1]at b3;obtain⟨b31,b32,b33,b34⟩:=b3;refine⟨⟨0,ah,?_,b33,b34,?_⟩,fun q4 g4 ⟨m,hm,e51,h50,h52,hO⟩=>?_⟩
  .show q3.i 2+1=_;rw[(V q3 G3).2.2.1];omega
  .rw[ads,abl];exact b31
  have G4:ai 6 J q4:=G3.tr g4;have hml:(bs++[128]++List.replicate m 0).length=bs.length+1+m:=by rw[aac,aac,aba];rfl
  have b4:Ob q4 53 50 52 (q4.i 51) (bs++[128]++List.replicate m 0):=⟨hO,by rw[hml,e51];omega,h50,h52⟩;have tm:(q4.i 51).tmod 64=((bs.length+1+m)%64:Nat):=by rw[e51,abh ah];omega
  refine⟨ah,fun hne=>?_,fun heq=>?_⟩
  .have hne:(q4.i 51).tmod 64≠56:=hne;rw[tm]at hne;intro q5 g5 _;have b5:=b4.mono g5 ah ah ah;rw[show q4.i 51=q5.i 51 from (g5.i 51).symm]at b5;refine⟨b5.pre (by rw[hml];omega),fun q6 g6 ⟨r1,r2,r3,_⟩=>?_⟩;have b6:=b5.app ⟨r1,r2,r3⟩ rfl;obtain⟨b61,b62,b63,b64⟩:=b6;have e6:q6.i 51=bs.length+1+m:=by rw[g6.i 51,g5.i 51,e51]
   rw[show q5.i 51=q6.i 51 from (g6.i 51).symm]at b61;refine⟨⟨m+1,ah,?_,b63,b64,?_⟩,?_⟩
   .show q6.i 51+1=_;rw[e6];omega
   .rw[ado,<-aaF];exact b61
   .show((bs.length:Int)+100-(q6.i 51+1)).toNat<((bs.length:Int)+100-q4.i 51).toNat;rw[e6,e51];omega
  .have heq:(q4.i 51).tmod 64=56:=heq;rw[tm]at heq;have em:m=(119-bs.length%64)%64:=ah;obtain⟨M,hM⟩:∃ M,M=bs++[128]++List.replicate m 0:=⟨_,rfl⟩;rw[<-hM]at b4 hml;have v2':q4.i 2=bs.length:=(V q4 G4).2.2.1;refine⟨by rw[v2'];omega,?_⟩;have wlen:∀ {q:Env},ai 6 J q->IntKind.u64.wrap (IntKind.u64.wrap (q.i 2)*8)=((8*bs.length:Nat):Int):=fun {q} hg=>by
    rw[(V q hg).2.2.1,oW (x:=(bs.length:Int)) ah ah,oW ah ah];omega
   intro q5 g5 _;have c0:=b4.mono g5 ah ah ah;rw[show q4.i 51=q5.i 51 from (g5.i 51).symm]at c0;have G5:ai 6 J q5:=G4.tr g5;refine⟨c0.pre ah,fun q6 g6 ⟨r1,r2,r3,_⟩=>?_⟩;have G6:ai 6 J q6:=G5.tr g6;rw[pd (q:=q5) (n:=8*bs.length) (k:=56) (s:=56) (wlen G5) ah rfl ah]at r3;have d0:=c0.app ⟨r1,r2,r3⟩ (L':=q5.i 51+1) rfl;intro q7 g7 _;have J7:q7.i 51=q5.i 51:=by rw[g7.i 51,g6.i 51]
   have c1:=(d0.mono g7 ah ah ah).cast (L':=q7.i 51+1) (by rw[J7]);have G7:ai 6 J q7:=G6.tr g7;refine⟨c1.pre (by simp only[aac,aaB];omega),fun q8 g8 ⟨r1,r2,r3,_⟩=>?_⟩;have G8:ai 6 J q8:=G7.tr g8;rw[pd (q:=q7) (n:=8*bs.length) (k:=48) (s:=48) (wlen G7) ah rfl ah]at r3;have d1:=c1.app ⟨r1,r2,r3⟩ (L':=q5.i 51+2) (by rw[J7];omega);intro q9 g9 _;have J9:q9.i 51=q5.i 51:=by rw[g9.i 51,g8.i 51,J7]
   have c2:=(d1.mono g9 ah ah ah).cast (L':=q9.i 51+2) (by rw[J9]);have G9:ai 6 J q9:=G8.tr g9;refine⟨c2.pre (by simp only[aac,aaB];omega),fun q10 g10 ⟨r1,r2,r3,_⟩=>?_⟩;have G10:ai 6 J q10:=G9.tr g10;rw[pd (q:=q9) (n:=8*bs.length) (k:=40) (s:=40) (wlen G9) ah rfl ah]at r3;have d2:=c2.app ⟨r1,r2,r3⟩ (L':=q5.i 51+3) (by rw[J9];omega);intro q11 g11 _;have J11:q11.i 51=q5.i 51:=by rw[g11.i 51,g10.i 51,J9]
   have c3:=(d2.mono g11 ah ah ah).cast (L':=q11.i 51+3) (by rw[J11]);have G11:ai 6 J q11:=G10.tr g11;refine⟨c3.pre (by simp only[aac,aaB];omega),fun q12 g12 ⟨r1,r2,r3,_⟩=>?_⟩;have G12:ai 6 J q12:=G11.tr g12;rw[pd (q:=q11) (n:=8*bs.length) (k:=32) (s:=32) (wlen G11) ah rfl ah]at r3;have d3:=c3.app ⟨r1,r2,r3⟩ (L':=q5.i 51+4) (by rw[J11];omega);intro q13 g13 _;have J13:q13.i 51=q5.i 51:=by rw[g13.i 51,g12.i 51,J11]
   have c4:=(d3.mono g13 ah ah ah).cast (L':=q13.i 51+4) (by rw[J13]);have G13:ai 6 J q13:=G12.tr g13;refine⟨c4.pre (by simp only[aac,aaB];omega),fun q14 g14 ⟨r1,r2,r3,_⟩=>?_⟩;have G14:ai 6 J q14:=G13.tr g14;rw[pd (q:=q13) (n:=8*bs.length) (k:=24) (s:=24) (wlen G13) ah rfl ah]at r3;have d4:=c4.app ⟨r1,r2,r3⟩ (L':=q5.i 51+5) (by rw[J13];omega);intro q15 g15 _;have J15:q15.i 51=q5.i 51:=by rw[g15.i 51,g14.i 51,J13]
   have c5:=(d4.mono g15 ah ah ah).cast (L':=q15.i 51+5) (by rw[J15]);have G15:ai 6 J q15:=G14.tr g15;refine⟨c5.pre (by simp only[aac,aaB];omega),fun q16 g16 ⟨r1,r2,r3,_⟩=>?_⟩;have G16:ai 6 J q16:=G15.tr g16;rw[pd (q:=q15) (n:=8*bs.length) (k:=16) (s:=16) (wlen G15) ah rfl ah]at r3;have d5:=c5.app ⟨r1,r2,r3⟩ (L':=q5.i 51+6) (by rw[J15];omega);intro q17 g17 _;have J17:q17.i 51=q5.i 51:=by rw[g17.i 51,g16.i 51,J15]
   have c6:=(d5.mono g17 ah ah ah).cast (L':=q17.i 51+6) (by rw[J17]);have G17:ai 6 J q17:=G16.tr g17;refine⟨c6.pre (by simp only[aac,aaB];omega),fun q18 g18 ⟨r1,r2,r3,_⟩=>?_⟩;have G18:ai 6 J q18:=G17.tr g18;rw[pd (q:=q17) (n:=8*bs.length) (k:=8) (s:=8) (wlen G17) ah rfl ah]at r3;have d6:=c6.app ⟨r1,r2,r3⟩ (L':=q5.i 51+7) (by rw[J17];omega);intro q19 g19 _;have J19:q19.i 51=q5.i 51:=by rw[g19.i 51,g18.i 51,J17]
   have c7:=(d6.mono g19 ah ah ah).cast (L':=q19.i 51+7) (by rw[J19]);have G19:ai 6 J q19:=G18.tr g19;refine⟨c7.pre (by simp only[aac,aaB];omega),fun q20 g20 ⟨r1,r2,r3,_⟩=>?_⟩;have G20:ai 6 J q20:=G19.tr g20;rw[pd (q:=q19) (n:=8*bs.length) (k:=0) (s:=0) (wlen G19) ah rfl ah]at r3;have d7:=c7.app ⟨r1,r2,r3⟩ (L':=q5.i 51+8) (by rw[J19];omega);have hp:M++[((8*bs.length/2 ^ 56%256:Nat):Int)]++[((8*bs.length/2 ^ 48%256:Nat):Int)]++[((8*bs.length/2 ^ 40%256:Nat):Int)]++[((8*bs.length/2 ^ 32%256:Nat):Int)]++[((8*bs.length/2 ^ 24%256:Nat):Int)]++[((8*bs.length/2 ^ 16%256:Nat):Int)]++[((8*bs.length/2 ^ 8%256:Nat):Int)]++[((8*bs.length/2 ^ 0%256:Nat):Int)]=gl bs:=by
    unfold gl;rw[<-em,<-hM];simp only[aaF];rfl
   have J20:q20.i 51=q5.i 51:=by rw[g20.i 51,J19]
   obtain⟨P,hP⟩:∃ P,P=gl bs:=⟨_,rfl⟩;have hPb:aG P:=by rw[hP];exact zh hb
   have hPl:=wa bs;rw[hp]at d7;rw[<-hP]at d7 hPl;clear hp hM b4 hml tm;intro q21 g21 p84;have G21:ai 6 J q21:=G20.tr g21;have dP:Ob q21 82 82 83 (q21.i 51+8) P:=(d7.mono g21 ah ah ah).cast (by rw[g21.i 51,J20]);obtain⟨dP1,eL,dx,dc⟩:=dP;have hx0:0<=q21.i 82/\∀ j z,P[j]?=some z->(q21.h 82).cell (q21.i 82).toNat j=some (.int .u8 z):=by
    obtain⟨x1,y1,c1,e,hy1,h⟩:=dP1.rd.w;simp only[Value.slice.injEq]at e;rcases h with h | ⟨h0,hc⟩
    .exfalso;have:=hPl.1;rw[h]at this;simp only[aa9]at this;omega
    .obtain⟨rfl,hyy⟩:=kF dx (aar 0) ah hy1 e.1;obtain rfl:=hyy h0;refine⟨h0,fun j z hz=>?_⟩;have:=hc j z hz;rw[show Int.toNat 0+j=j from aaM j]at this;exact this
   refine⟨⟨0,rfl,abn _,fun j hj=>?_⟩,fun q22 g22 ⟨k,e100,hk,h8⟩=>?_⟩
   .match j,hj with
    | 0,_=>rfl
    | 1,_=>rfl
    | 2,_=>rfl
    | 3,_=>rfl
    | 4,_=>rfl
    | 5,_=>rfl
    | 6,_=>rfl
    | 7,_=>rfl
   have G22:ai 6 J q22:=G21.tr g22;rw[<-hP]at hk h8;exact Lj rfl rfl hR hP hPl.2 ah hPb (by rw[g22.i 84];exact p84) (by rw[(V q22 G22).2.2.2.2.2];exact hK) (by rw[g22.h 82,g22.i 82];exact hx0.2) (by rw[g22.i 82];exact hx0.1) (by rw[g22.i 51];exact eL) e100 hk h8 (by show((gl bs).length-q22.i 100).toNat=_;rw[hP])
end Go.Proofs.YtomdimlnggpgbaaGreatDoor
namespace Go.Proofs.YtomdimlnggpgbaaGreatDoor
open Go Go.Sx Go.Pk Go.RowKit
variable {X e:E}{J q q2:Env}{F R:Hl}{x y:Int}{T:List (List Int)}{Hs K Rs:List Hl}{a b bs l t xs ys:List Int}{b' c c' h i n n' o o':Nat}{P:Program}{u v:Value}{w:World}
def tr8{q:Prop}(h:q):True/\True/\True/\True/\True/\True/\True/\True/\q:=⟨zzT,zzT,zzT,zzT,zzT,zzT,zzT,zzT,h⟩
def lex:List Int->List Int->Int
 | x::xs,y::ys=>if x<y then -1 else if y<x then 1 else lex xs ys
 | _,_=>0
def lX (T:List (List Int)):Prop:=∀ i,i+1<T.length->lex (T.getD i []) (T.getD (i+1) [])<0
def qm (w:World) (b o:Nat) (xs:List Int):Prop:=∀ i x,xs[i]?=some x->w.cell? ⟨b,o+i,none⟩=some (.int .u8 x)
def wq {b:Nat} (h:qm w b o xs) (hn:xs.length=n):(Extern.Bytes.bytesOf (.slice (some ⟨b,o,none⟩) n c)).run P w=.ok ⟨(Lib.bytesOf xs).toArray⟩ w:=by
 have hl:=Lib.run_loadBytesX (P:=P) w xs ⟨b,o,none⟩ .empty (fun j x hj=>by
  have e:(⟨b,o,none⟩:Addr).add j=⟨b,o+j,none⟩:=by unfold Addr.add;split<;>simp_all
  rw[e,h j x hj])
 rw[hn]at hl;simp only[Extern.Bytes.bytesOf,hl]
 congr 1
 apply ByteArray.ext;show(#[]:Array UInt8)++(Lib.bytesOf xs).toArray=(Lib.bytesOf xs).toArray;simp
def Iq (xs ys:List Int):Int:=Lib.compareBytes (Lib.bytesOf xs) (Lib.bytesOf ys)
def An {b:Nat} (h:qm w b o xs) (hn:xs.length=n) (h':qm w b' o' ys) (hn':ys.length=n') :
 (Extern.BytealgCompare.compare #[.slice (some ⟨b,o,none⟩) n c,.slice (some ⟨b',o',none⟩) n' c']).run P w=.ok (.int .i64 (Iq xs ys)) w:=by
 change Sem.run P (do pure (goInt (Extern.BytealgCompare.cmp (<-Extern.Bytes.bytesOf (.slice (some ⟨b,o,none⟩) n c)) (<-Extern.Bytes.bytesOf (.slice (some ⟨b',o',none⟩) n' c'))))) w=_;simp only[Sem.run_bind,wq h hn,wq h' hn',Result.andThen_ok,Sem.run_pure,Lib.cmp_eq];rfl
set_option maxRecDepth 20000 in
def BU {b:Nat} (h:qm w b o xs) (hn:xs.length=n) (h':qm w b' o' ys) (hn':ys.length=n') :
 Calls Tryz.prog 200 #[.slice (some ⟨b,o,none⟩) n c,.slice (some ⟨b',o',none⟩) n' c'] w fun e w'=>e=.returned (.int .i64 (Iq xs ys))/\Below w.heap.size w w':=by
 go_enter Tryz.func200,Tryz.ntmps200
 go_wp2
 rw[run_callFunc_extern Tryz.func208 zzK zzK zzK (e:=Extern.BytealgCompare.compare) zzK,An h hn h' hn'];simp only[Result.andThen];rw[Oper.upon_value]
 go_wp2
 go_ret
 exact⟨rfl,Below.refl _ _⟩
def RQ (hx:0<=x/\x<256) (hy:0<=y/\y<256):(UInt8.ofNat x.toNat<UInt8.ofNat y.toNat)=(x<y):=by
 rw[UInt8.lt_iff_toNat_lt,ac9 (by simp;omega),ac9 (by simp;omega)];exact propext ah
def Ir:∀ (xs ys:List Int),xs.length=ys.length->aG xs->aG ys->Iq xs ys=lex xs ys
 | [],[],_,_,_=>rfl
 | x::xs,y::ys,h,hx,hy=>by
  have ih:=Ir xs ys (by simpa using h) (fun z hz=>hx z (by simp [hz])) (fun z hz=>hy z (by simp [hz]));unfold Iq Lib.bytesOf at ih ⊢;simp only[aax,Lib.compareBytes,lex,RQ (hx x aC) (hy y aC),RQ (hy y aC) (hx x aC),ih]
 | [],_::_,h,_,_=>by simp at h
 | _::_,[],h,_,_=>by simp at h
def oH:Sx.Spec where
 fn:=200
 own:=[]
 rd:=[0,1]
 res:=[.one (.int .i64)]
 pre:=fun xs Hs Rs=>∃ u v a b R1 R2,xs=[u,v]/\Rs=[R1,R2]/\nN R1 u a/\nN R2 v b/\a≠[]/\a.length=b.length/\aG a/\aG b
 post:=fun xs Hs Rs w Hs' F=>∃ u v a b R1 R2,xs=[u,v]/\Rs=[R1,R2]/\nN R1 u a/\nN R2 v b/\w=.int .i64 (lex a b)
def Rb (hs:R.sub w) (h:∀ j z,bs[j]?=some z->R.cell x.toNat (y.toNat+j)=some (.int .u8 z)):qm w x.toNat y.toNat bs:=fun j z hz=>Hl.gH hs (h j z hz)
def zR:oH.OK Tryz.prog:=by
 refine nV rfl fun w xs Rs hs ⟨u,v,a,b,R1,R2,e1,e2,h1,h2,hne,hl,hb1,hb2⟩=>?_;subst e1 e2;obtain⟨x,y,c,rfl,hy,h1'⟩:=id h1;obtain⟨x',y',c',rfl,hy',h2'⟩:=id h2;rcases h1' with ⟨_,h⟩ | ⟨hx,h1'⟩
 .exact absurd h hne
 rcases h2' with ⟨_,h⟩ | ⟨hx',h2'⟩
 .rw[h]at hl;exact absurd (aad.1 hl) hne
 refine⟨.int .i64 (lex a b),⟨(bh fun _=>lex a b),rfl,zzT,zzT⟩,?_,_,_,a,b,R1,R2,rfl,rfl,h1,h2,rfl⟩;rw[al hx,al hx',<-Ir a b hl hb1 hb2];exact BU (Rb (hs R1 aC) h1') rfl (Rb (hs R2 aC) h2') rfl
def tk:List Ck:=List.replicate 16 (.int .u8)
def jF:List Kd:=List.replicate 16 (.int .u8)
def qR (v:Value):List Int:=match v with
 | .agg a=>a.toList.map fun v=>bV (some v)
 | _=>[]
def Wt (xs:List Value):Prop:=∀ v∈xs,aG (qR v)
def Rg (xs:List Value):Value:=match xs with
 | [a,b]=>.int .i64 (lex (qR a) (qR b))
 | _=>.int .i64 0
def Ru (xs:List Value):Value:=match xs with
 | [a,b]=>.bool (decide (lex (qR a) (qR b)<0))
 | _=>.bool false
def It:Sx.Spec:=rA 178 [.agg tk,.agg tk] [.one (.int .i64)] Wt Rg
def I4:Sx.Spec:=rA 143 [.agg tk,.agg tk] [.one .bool] (fun _=>True) Ru
def UT:aF Tryz.prog [oH] 178 where
 Λ:=aD
 args:=(bW 0 [.agg tk,.agg tk]).map .sv
 mem:=[]
 nv:=32
def ko (q:Env) (n:Nat):List Int:=(List.range 16).map fun j=>q.i (n+j)
def H8 (q:Env):uF [.agg tk,.agg tk] q=[.agg ((ko q 0).map (Value.int .u8)).toArray,.agg ((ko q 16).map (Value.int .u8)).toArray]:=rfl
def gh (l:List Int):qR (.agg (l.map (Value.int .u8)).toArray)=l:=by
 show((l.map (Value.int .u8)).toArray.toList).map _=l;rw[abI];exact List.map_id'' (fun _=>rfl) l
def uX (z:Int):qI [.one (.int .i64)] (.int .i64 z):=⟨(bh fun _=>z),rfl,zzT,zzT⟩
def oB (b:Bool):qI [.one .bool] (.bool b):=⟨⟨fun _=>0,fun _=>b,fun _=>.empty,fun _=>.tuple #[],fun _=>Hl.none⟩,rfl,zzT,zzT⟩
def xq {T:TypeId} {a:Nat} (h0:0<=q.i a) {cs:List CV} (hc:∀ j z,l[j]?=some z->(cs.map (CV.ev q))[o+j]?=some (.int .u8 z)) (hn:n=l.length) {c:Int} : nN ((bm.bd a cs T).hl q) (.slice (ar (q.i a) (o:Int)) ((n:Int)).toNat c.toNat) l:=by
 subst hn;refine⟨q.i a,o,c.toNat,by rw[aaa],ah,Or.inr ⟨h0,fun j z hz=>?_⟩⟩;show(Hl.one (q.i a).toNat (.cells (cs.map (CV.ev q)).toArray T (0,0))).cell (q.i a).toNat _=_;unfold Hl.cell;rw[Hl.aN,aaa];show(cs.map (CV.ev q)).toArray[o+j]?=_;rw[abi];exact hc j z hz
def kg0:[oH][0]?=some oH:=rfl
def kr0:oH.res=[.one (.int .i64)]:=rfl
def kc0:(aT 34 [Cp.one (.int .i64)]≠[])=False:=by simp [aT,Cp.roots,Ck.root]
def Bx (g:ai 32 q q2) (hn:n+16<=32):(ak n tk).map (CV.ev q2)=(ko q n).map (Value.int .u8):=by
 show [Value.int .u8 (q2.i n),.int .u8 (q2.i (n+1)),.int .u8 (q2.i (n+2)),.int .u8 (q2.i (n+3)),.int .u8 (q2.i (n+4)),.int .u8 (q2.i (n+5)),.int .u8 (q2.i (n+6)),.int .u8 (q2.i (n+7)),.int .u8 (q2.i (n+8)),.int .u8 (q2.i (n+9)),.int .u8 (q2.i (n+10)),.int .u8 (q2.i (n+11)),.int .u8 (q2.i (n+12)),.int .u8 (q2.i (n+13)),.int .u8 (q2.i (n+14)),.int .u8 (q2.i (n+15))]=_;rw[g.i n,g.i (n+1),g.i (n+2),g.i (n+3),g.i (n+4),g.i (n+5),g.i (n+6),g.i (n+7),g.i (n+8),g.i (n+9),g.i (n+10),g.i (n+11),g.i (n+12),g.i (n+13),g.i (n+14),g.i (n+15)];rfl
def Mv:It.OK Tryz.prog:=by
 refine kE (Γ:=[oH]) (fun t ht=>by rw[aam]at ht;subst ht;exact zR) UT rfl rfl rfl (fun q _ _=>?_) (fun q hq hN=>⟨fun _ _=>True,fun _ _=>0,?_⟩)
 .exact uX _
 .rw[H8]at hN ⊢;have h1:aG (ko q 0):=by
   have:=hN _ (aaI ..);rwa[gh]at this
  have h2:aG (ko q 16):=by
   have:=hN _ (aaq _ (aaI ..));rwa[gh]at this
  have eG:Rg [.agg ((ko q 0).map (Value.int .u8)).toArray,.agg ((ko q 16).map (Value.int .u8)).toArray]=.int .i64 (lex (ko q 0) (ko q 16)):=by
   show Value.int .i64 (lex (qR _) (qR _))=_;rw[gh,gh]
  simp only[eG];refine aF.read [] [] [] ?_;simp only[go_sem,Nat.reduceAdd,kg0,kr0,kc0];intro q1 g1 p1 q2 g2 p2;have g:ai 32 q q2:=g1.tr g2;have c1:∀ j z,(ko q 0)[j]?=some z->((ak 0 tk).map (CV.ev q2))[0+j]?=some (.int .u8 z):=by
   rw[Bx g ah];intro j z hz;rw[aaM,aao,hz];rfl
  have c2:∀ j z,(ko q 16)[j]?=some z->((ak 16 tk).map (CV.ev q2))[0+j]?=some (.int .u8 z):=by
   rw[Bx g ah];intro j z hz;rw[aaM,aao,hz];rfl
  have p1':0<=q2.i 32:=by rw[g2.i 32];exact p1
  have r1:=xq (T:=61) (n:=16) (c:=16) p1' c1 rfl;have r2:=xq (T:=61) (n:=16) (c:=16) p2 c2 rfl;refine⟨⟨_,_,ko q 0,ko q 16,_,_,rfl,rfl,r1,r2,(by simp [ko]),rfl,h1,h2⟩,fun q3 g3 ⟨F,⟨u,v,a,b,R1,R2,hx,hR,ha,hb,hv⟩,_⟩=>?_⟩;simp only[aag,aau]at hx hR;obtain⟨rfl,rfl⟩:=hx;obtain⟨rfl,rfl⟩:=hR;rw[<-ha.uniq r1,<-hb.uniq r2];exact hv
def Vz:aF Tryz.prog [] 143 where
 Λ:=aD
 args:=(bW 0 [.agg tk,.agg tk]).map .sv
 mem:=[]
 nv:=32
def Tc {a b:Int} (h:¬a=b):decide (a<b)=decide (lex (a::xs) (b::ys)<0):=by
 unfold lex;by_cases h1:a<b
 .simp [h1]
 .have h2:b<a:=ah;simp [h1,h2]
def Tb {a b:Int} (h:a=b):lex (a::xs) (b::ys)=lex xs ys:=by
 subst h;show(if a<a then _ else if a<a then _ else _)=_;rw[aal (adv _),aal (adv _)]
def kv {a b:Int} {Y:Prop} (hu:u=.bool (decide (a<b))) (hv:v=.bool (decide (lex (a::xs) (b::ys)<0))) (h:v=.bool (decide (lex xs ys<0))->Y):(¬a=b->u=v)/\(a=b->Y) :=
 ⟨fun hn=>by rw[hu,hv,Tc hn],fun he=>h (by rw[hv,Tb he])⟩
def Bw (q:Env) (n:Nat):ko q n=[q.i n,q.i (n+1),q.i (n+2),q.i (n+3),q.i (n+4),q.i (n+5),q.i (n+6),q.i (n+7),q.i (n+8),q.i (n+9),q.i (n+10),q.i (n+11),q.i (n+12),q.i (n+13),q.i (n+14),q.i (n+15)]:=rfl
def Nl:I4.OK Tryz.prog:=by
 refine kE (Γ:=[]) (fun t ht=>by cases ht) Vz rfl rfl rfl (fun q _ _=>?_) (fun q hq hN=>⟨fun _ _=>True,fun _ _=>0,?_⟩)
 .exact oB _
 .rw[H8];have eG:Ru [.agg ((ko q 0).map (Value.int .u8)).toArray,.agg ((ko q 16).map (Value.int .u8)).toArray]=.bool (decide (lex (ko q 0) (ko q 16)<0)):=by
   show Value.bool (decide (lex (qR _) (qR _)<0))=_;rw[gh,gh]
  simp only[eG];refine aF.read [] [] [] ?_;simp only[go_sem,Nat.reduceAdd];intro q1 g1 p1 q2 g2 p2;have g:ai 32 q q2:=g1.tr g2;have e:∀ n,n+16<=32->ko q n=ko q2 n:=fun n hn=>abf fun j hj=>(g.i (n+j) (by have:=aaP.1 hj;omega)).symm;rw[e 0 ah,e 16 ah,Bw,Bw];generalize hV:Value.bool (decide (lex _ _<0))=V;have hV:=hV.symm;exact kv rfl hV fun h0=>kv rfl h0 fun h1=>kv rfl h1 fun h2=>kv rfl h2 fun h3=>kv rfl h3 fun h4=>kv rfl h4 fun h5=>kv rfl h5 fun h6=>kv rfl h6 fun h7=>kv rfl h7 fun h8=>kv rfl h8 fun h9=>kv rfl h9 fun h10=>kv rfl h10 fun h11=>kv rfl h11 fun h12=>kv rfl h12 fun h13=>kv rfl h13 fun h14=>kv rfl h14 fun h15=>(h15.trans rfl).symm
def gI (T:List (List Int)):Prop:=T.length<=1000000/\∀ t∈T,t.length=16/\aG t
open Classical in
noncomputable def qc (f:FuncId):Sx.Spec where
 fn:=f
 own:=[]
 rd:=[0]
 res:=[.one .bool]
 pre:=fun xs Hs Rs=>∃ u R T,xs=[u]/\Rs=[R]/\aJ R u jF (T.map aS)/\gI T
 post:=fun xs Hs Rs v Hs' F=>∃ u R T,xs=[u]/\Rs=[R]/\aJ R u jF (T.map aS)/\v=.bool (decide (lX T))
def HV:List Sx.Spec:=[oH,It,I4]
def JL:∀ t∈HV,t.OK Tryz.prog:=av zR <| av Mv <| av Nl <| bN
def sr1:It.res=[.one (.int .i64)]:=rfl
def ZJ:I4.res=[.one .bool]:=rfl
def ZI (n:Nat):(aT n [Cp.one (.int .i64)]≠[])=False:=by simp [aT,Cp.roots,Ck.root]
def Uu (n:Nat):(aT n [Cp.one .bool]≠[])=False:=by simp [aT,Cp.roots,Ck.root]
def JK:List TV:=[.sv (.one (.sl (.var 0) (.var 1) (.var 2) (.var 3)))]
def yB:aF Tryz.prog HV 148 where
 Λ:=fun p=>if I9 p then some ⟨0,[(3,TI .i64 (.var 10))],[],12⟩else none
 args:=JK
 mem:=[.ro 4 [.var 0] false]
 nv:=5
def zq:aF Tryz.prog HV 103 where
 Λ:=fun p=>if I9 p then some ⟨0,[(3,TI .i64 (.var 10))],[],12⟩else none
 args:=JK
 mem:=[.ro 4 [.var 0] false]
 nv:=5
def RP (ha:a.length=16) (hb:b.length=16) (h1:aG a) (h2:aG b):(∃ q,kY 0 [.agg tk,.agg tk] q/\[.agg (aS a).toArray,.agg (aS b).toArray]=uF [.agg tk,.agg tk] q)/\Wt [.agg (aS a).toArray,.agg (aS b).toArray]:=by
 refine⟨⟨aQ (a++b) false [],by simp [kY,Iw,tk,bu,jy,cY,iT,List.replicate],?_⟩,?_⟩
 .rw[H8];have e1:ko (aQ (a++b) false []) 0=a:=by
   apply aaN;intro j;unfold ko;rw[aao];by_cases hj:j<16
   .rw[aaJ hj,aab ah];show some ((a++b).getD (0+j) 0)=_;rw[aaM,aap,aaC ah,aab ah];rfl
   .rw[aas (by simp;omega),aas ah];rfl
  have e2:ko (aQ (a++b) false []) 16=b:=by
   apply aaN;intro j;unfold ko;rw[aao];by_cases hj:j<16
   .rw[aaJ hj,aab ah];show some ((a++b).getD (16+j) 0)=_;rw[aap,aav ah,show 16+j-a.length=j by omega,aab ah];rfl
   .rw[aas (by simp;omega),aas ah];rfl
  rw[e1,e2];rfl
 .intro v hv;simp only[aan,aat,aaX]at hv;rcases hv with rfl | rfl
  .show aG (qR (.agg (a.map (Value.int .u8)).toArray));rw[gh];exact h1
  .show aG (qR (.agg (b.map (Value.int .u8)).toArray));rw[gh];exact h2
def Lg (h:t.length=16):bf (aS t) jF:=by
 match t,h with
 | [_,_,_,_,_,_,_,_,_,_,_,_,_,_,_,_],_=>exact⟨rfl,rfl,rfl,rfl,rfl,rfl,rfl,rfl,rfl,rfl,rfl,rfl,rfl,rfl,rfl,rfl,zzT⟩
def sB (hx:0<=x) (hy:0<=y) (hc:∀ (i:Nat) row,(T.map aS)[i]?=some row->bf row jF/\∀ j u,row[j]?=some u->R.cell x.toNat (y.toNat+i*jF.length+j)=some u) (ht:T[i]?=some t) (hl:t.length=16) (hR:J.h h=R) {Y:E} (hX:az J X=x) (hY:az J Y=y+i*16) :
 bC R x.toNat (y+(i:Int)*16).toNat (Int.toNat 16)=true/\(aU h X Y 0 (List.replicate 16 (Kd.int .u8))).map (CV.ev J)=aS t:=by
 have h1:=(hc i (aS t) (by rw[aao,ht];rfl)).2;have hlen:jF.length=16:=rfl;rw[hlen]at h1;have hyi:(y+(i:Int)*16).toNat=y.toNat+i*16:=ah;constructor
 .unfold bC;rw[aaD];intro j hj;have hj:j<16:=aaP.1 hj;rw[hyi,h1 j (.int .u8 (t[j])) (by unfold aS;rw[aao,aab ah];rfl)];rfl
 .refine dq (aS t) _ 0 (Lg hl) fun j u hu=>?_;rw[hR,hX,hY,hyi,aaM];exact h1 j u hu
def Ke (hp:It.post [.agg (aS a).toArray,.agg (aS b).toArray] Hs Rs v K F):v=.int .i64 (lex a b):=by
 have hp:v=.int .i64 (lex (qR (.agg (a.map (Value.int .u8)).toArray)) (qR (.agg (b.map (Value.int .u8)).toArray))):=hp;rw[gh,gh]at hp;exact hp
def KE (hp:I4.post [.agg (aS a).toArray,.agg (aS b).toArray] Hs Rs v K F):v=.bool (decide (lex a b<0)):=by
 have hp:v=.bool (decide (lex (qR (.agg (a.map (Value.int .u8)).toArray)) (qR (.agg (b.map (Value.int .u8)).toArray))<0)):=hp;rw[gh,gh]at hp;exact hp
open Classical in
def tR {f:FuncId} {b:Bool} (h:aJ R (.slice (ar x y) (T.map aS).length c) jF (T.map aS)) (hb:b=true↔lX T) (he:aY q e=b) {mem:Mem} : postOf (qc f) [.slice (ar x y) (T.map aS).length c] [] [R] q mem (.sv (.one (.bool e))):=by
 intro _;refine⟨[],[],rfl,rfl,⟨⟨fun _=>0,fun _=>b,fun _=>.empty,fun _=>.tuple #[],fun _=>Hl.none⟩,by show Value.bool (aY q e)=_;rw[he];rfl,zzT,zzT⟩,_,R,T,rfl,rfl,h,?_⟩;show Value.bool (aY q e)=_;rw[he]
 congr 1
 rw[ab5,aaf];exact hb
def AH:(qc 148).OK Tryz.prog:=by
 refine Spec.aV (Γ:=HV) JL ?_;rintro xs Hs Rs hl1 hl2 ⟨u,R,T,rfl,rfl,hR,hT⟩;have e0:Hs=[]:=aad.1 hl1;subst e0;obtain⟨x,y,c,rfl,hy,hrows⟩:=id hR;refine⟨yB,aQ [x,y,T.length,c] false [Hl.none,Hl.none,Hl.none,Hl.none,R],fun _ q=>∃ i:Nat,q.i 10=i/\1<=i/\i<=T.length+1/\∀ k,k+1<i->k+1<T.length->lex (T.getD k []) (T.getD (k+1) [])<0,fun _ q=>(T.length-q.i 10).toNat,?_,⟨?_,?_,?_,?_⟩,(fun _ h=>nomatch h),?_⟩
 .rw[aaw];show [Value.slice (ar x y) ((T.length:Int)).toNat ((c:Int)).toNat]=_;rw[aaa,aaa]
 .intro r hr ho;simp [yB]at hr;subst hr;cases ho
 .intro r hr ho;simp [yB]at hr;subst hr;exact⟨R,aC,Hl.le_refl _⟩
 .simp [yB]
 .intro r hr;simp [yB]at hr;subst hr;trivial
 .refine aF.read [] [] [] ?_;generalize hρ:aQ [x,y,T.length,c] false [Hl.none,Hl.none,Hl.none,Hl.none,R]=J;have v0:J.i 0=x:=by rw[<-hρ];rfl
  have v1:J.i 1=y:=by rw[<-hρ];rfl
  have v2:J.i 2=T.length:=by rw[<-hρ];rfl
  have w4:J.h 4=R:=by rw[<-hρ];rfl
  clear hρ;simp only[go_sem,Nat.reduceAdd,HV,sr1,ZI];refine⟨⟨1,rfl,aaz _,ah,fun k h=>ah⟩,fun q g ⟨i,ei,hi1,hi2,hlt⟩=>?_⟩;have hTl:=hT.1;rw[g.i 2,v2,ei,g.i 0,v0,g.i 1,v1,g.h 4,w4];have ew:IntKind.i64.wrap ((i:Int)-1)=((i-1:Nat):Int):=by rw[IntWalk.i64_in _ ah];omega
  rw[ew];refine⟨ah,fun h=>?_,fun h=>?_⟩
  .have hiT:i<T.length:=ah;rcases hrows with hn | ⟨hx,hc⟩
   .rw[abv]at hn;rw[hn]at hiT;cases hiT
   have ht1:T[i-1]?=some (T[i-1]):=aab ah;have ht2:T[i]?=some (T[i]):=aab hiT;have m1:=hT.2 _ (aae ht1);have m2:=hT.2 _ (aae ht2);obtain⟨b1,r1⟩:=sB (J:=q) (h:=4) (X:=.var 0) (Y:=(E.var 1).add ((E.wrap IntKind.i64 ((E.var 10).sub (E.lit 1))).mul (E.lit 16))) hx hy hc ht1 m1.1 (by rw[g.h 4,w4]) (by rw[au,g.i 0,v0]) (by
    simp only[bQ,cx,bJ,dj,au,aq];rw[g.i 1,v1,ei,ew])
   obtain⟨b2,r2⟩:=sB (J:=q) (h:=4) (X:=.var 0) (Y:=(E.var 1).add ((E.var 10).mul (E.lit 16))) hx hy hc ht2 m2.1 (by rw[g.h 4,w4]) (by rw[au,g.i 0,v0]) (by
    simp only[bQ,cx,au,aq];rw[g.i 1,v1,ei])
   rw[r1,r2];refine⟨hx,hy,ah,ah,b1,ah,b2,RP m1.1 m2.1 m1.2 m2.2,fun q1 g1 ⟨F,hp,_⟩=>?_⟩;have hv:=Ke hp;have hv:q1.i 12=lex T[i-1] T[i]:=by simpa using hv
   have d1:T.getD (i-1) []=T[i-1]:=by rw[aap,ht1];rfl
   have d2:T.getD (i-1+1) []=T[i]:=by rw[show i-1+1=i by omega,aap,ht2];rfl
   have ew2:IntKind.i64.wrap (q1.i 10+1)=((i+1:Nat):Int):=by rw[g1.i 10,ei,IntWalk.i64_in _ ah];omega
   rw[hv];refine⟨fun hge=>tR (b:=false) hR ⟨aC,fun hS=>?_⟩ rfl,fun hl=>⟨⟨i+1,ew2,ah,ah,fun k hk hkT=>?_⟩,?_⟩⟩
   .have:=hS (i-1) ah;rw[d1,d2]at this;omega
   .rcases aa5 (k+1) i with h1 | h1
    .exact hlt k h1 hkT
    .obtain rfl:k=i-1:=ah;rw[d1,d2];omega
   .show((T.length:Int)-IntKind.i64.wrap (q1.i 10+1)).toNat<_;rw[ew2];omega
  .exact tR (b:=true) hR ⟨fun _ k hk=>hlt k ah hk,fun _=>rfl⟩ rfl
def K5:(qc 103).OK Tryz.prog:=by
 refine Spec.aV (Γ:=HV) JL ?_;rintro xs Hs Rs hl1 hl2 ⟨u,R,T,rfl,rfl,hR,hT⟩;have e0:Hs=[]:=aad.1 hl1;subst e0;obtain⟨x,y,c,rfl,hy,hrows⟩:=id hR;refine⟨zq,aQ [x,y,T.length,c] false [Hl.none,Hl.none,Hl.none,Hl.none,R],fun _ q=>∃ i:Nat,q.i 10=i/\i<=T.length/\∀ k,k<i->k+1<T.length->lex (T.getD k []) (T.getD (k+1) [])<0,fun _ q=>(T.length-q.i 10).toNat,?_,⟨?_,?_,?_,?_⟩,(fun _ h=>nomatch h),?_⟩
 .rw[aaw];show [Value.slice (ar x y) ((T.length:Int)).toNat ((c:Int)).toNat]=_;rw[aaa,aaa]
 .intro r hr ho;simp [zq]at hr;subst hr;cases ho
 .intro r hr ho;simp [zq]at hr;subst hr;exact⟨R,aC,Hl.le_refl _⟩
 .simp [zq]
 .intro r hr;simp [zq]at hr;subst hr;trivial
 .refine aF.read [] [] [] ?_;generalize hρ:aQ [x,y,T.length,c] false [Hl.none,Hl.none,Hl.none,Hl.none,R]=J;have v0:J.i 0=x:=by rw[<-hρ];rfl
  have v1:J.i 1=y:=by rw[<-hρ];rfl
  have v2:J.i 2=T.length:=by rw[<-hρ];rfl
  have w4:J.h 4=R:=by rw[<-hρ];rfl
  clear hρ;simp only[go_sem,Nat.reduceAdd,HV,ZJ,Uu];refine⟨⟨0,rfl,ah,fun k h=>ah⟩,fun q g ⟨i,ei,hi2,hlt⟩=>?_⟩;have hTl:=hT.1;rw[g.i 2,v2,ei,g.i 0,v0,g.i 1,v1,g.h 4,w4];have ew:IntKind.i64.wrap ((i:Int)+1)=((i+1:Nat):Int):=by rw[IntWalk.i64_in _ ah];omega
  rw[ew];refine⟨ah,fun h=>?_,fun h=>?_⟩
  .have hiT:i+1<T.length:=ah;rcases hrows with hn | ⟨hx,hc⟩
   .rw[abv]at hn;rw[hn]at hiT;cases hiT
   have ht1:T[i]?=some (T[i]):=aab ah;have ht2:T[i+1]?=some (T[i+1]):=aab hiT;have m1:=hT.2 _ (aae ht1);have m2:=hT.2 _ (aae ht2);obtain⟨b1,r1⟩:=sB (J:=q) (h:=4) (X:=.var 0) (Y:=(E.var 1).add ((E.var 10).mul (E.lit 16))) hx hy hc ht1 m1.1 (by rw[g.h 4,w4]) (by rw[au,g.i 0,v0]) (by
    simp only[bQ,cx,au,aq];rw[g.i 1,v1,ei])
   obtain⟨b2,r2⟩:=sB (J:=q) (h:=4) (X:=.var 0) (Y:=(E.var 1).add ((E.wrap IntKind.i64 ((E.var 10).add (E.lit 1))).mul (E.lit 16))) hx hy hc ht2 m2.1 (by rw[g.h 4,w4]) (by rw[au,g.i 0,v0]) (by
    simp only[bQ,cx,bJ,au,aq];rw[g.i 1,v1,ei,ew])
   rw[r1,r2];refine⟨hx,hy,ah,ah,b1,ah,b2,⟨(RP m1.1 m2.1 m1.2 m2.2).1,zzT⟩,fun q1 g1 ⟨F,hp,_⟩=>?_⟩;have hv:=KE hp;have hv:q1.b 12=decide (lex T[i] T[i+1]<0):=by simpa [bF] using hv
   have d1:T.getD i []=T[i]:=by rw[aap,ht1];rfl
   have d2:T.getD (i+1) []=T[i+1]:=by rw[aap,ht2];rfl
   have ew2:IntKind.i64.wrap (q1.i 10+1)=((i+1:Nat):Int):=by rw[g1.i 10,ei,ew]
   rw[hv,aaf];refine⟨fun hge=>tR (b:=false) hR ⟨aC,fun hS=>?_⟩ rfl,fun hl=>⟨⟨i+1,ew2,ah,fun k hk hkT=>?_⟩,?_⟩⟩
   .have:=hS i ah;rw[d1,d2]at this;exact absurd this hge
   .rcases aa5 k i with h1 | h1
    .exact hlt k h1 hkT
    .obtain rfl:k=i:=ah;rw[d1,d2];exact hl
   .show((T.length:Int)-IntKind.i64.wrap (q1.i 10+1)).toNat<_;rw[ew2];omega
  .exact tR (b:=true) hR ⟨fun _ k hk=>hlt k ah hk,fun _=>rfl⟩ rfl
end Go.Proofs.YtomdimlnggpgbaaGreatDoor
namespace Go.Proofs.YtomdimlnggpgbaaGreatDoor
open Go Go.Sx Go.Pk
variable {q q1:Env}{f:FuncId}{F R R':Hl}{z:Int}{T:List (List Int)}{ks:List Kd}{row:List Value}{c k n:Nat}{u v:Value}
def i64:Ck:=.int .i64
def bU:List Ck:=[i64,.int .u64]++List.replicate 32 (.int .u8)++[i64,.bool,.int .u64]++List.replicate 16 (.int .u8)++[.sl]++List.replicate 6 (.int .u64)++List.replicate 32 (.int .u8)++[i64]++List.replicate 32 (.int .u8)
def de:List Kd:=bU.map j8
def cI (l:List Value) (k:Nat):Int:=bV l[k]?
def cB (l:List Value) (k:Nat):Bool:=zV l[k]?
def ia (z:Int):Prop:=z=64\/z=128\/z=256\/z=512\/z=1024\/z=2048
instance (z:Int):Decidable (ia z):=by unfold ia;exact inferInstance
def J4 (z:Int):Int:=if z<64 then 64 else if z<128 then 128 else if z<256 then 256 else if z<512 then 512 else if z<1024 then 1024 else if z<2048 then 2048 else 0
def ku (z:Int):Prop:= -9223372036854775808<=z/\z<9223372036854775808
def VP (xs:List Value):Value:=.bool (decide (ia (bV xs[0]?)))
def Tv:Sx.Spec:=rA 149 [.one i64] [.one .bool] (fun xs=>ku (bV xs[0]?)) VP
def Rd (xs:List Value):Value:=.int .i64 (J4 (bV xs[0]?))
def Mj:Sx.Spec:=rA 104 [.one i64] [.one i64] (fun _=>True) Rd
def Yr:aF Tryz.prog [] 149 where
 Λ:=aD
 args:=(bW 0 [.one i64]).map .sv
 mem:=[]
 nv:=1
def UJ:aF Tryz.prog [] 104 where
 Λ:=aD
 args:=(bW 0 [.one i64]).map .sv
 mem:=[]
 nv:=1
def LO (h:ku z):IntKind.i64.wrap (z-1)=z-1\/IntKind.i64.wrap (z-1)=9223372036854775807/\z= -9223372036854775808:=by
 unfold ku at h;by_cases h1:z= -9223372036854775808
 .right;subst h1;exact⟨aA,rfl⟩
 .left;exact IntWalk.i64_in _ ah
def qY {b:Bool} {p:Prop} {_:Decidable p} (h:b=true↔p):Value.bool b=.bool (decide p):=by
 congr 1
 rw[ab5,aaf];exact h
def Qq:Tv.OK Tryz.prog:=by
 refine kE (Γ:=[]) (fun t ht=>by cases ht) Yr rfl rfl rfl (fun q _ _=>oB _) (fun q hq hN=>⟨fun _ _=>True,fun _ _=>0,?_⟩);have hN:ku (q.i 0):=hN;have eG:VP (uF [.one i64] q)=.bool (decide (ia (q.i 0))):=rfl;simp only[eG];refine aF.read [] [] [] ?_;simp only[go_sem,Nat.reduceAdd,bO,cq];have hw:=LO hN;generalize IntKind.i64.wrap (q.i 0-1)=y at hw ⊢;have lf:∀ {m:Int},(m=q.i 0↔ia (q.i 0))->Value.bool (aY q (.eq (.lit m) (.var 0)))=.bool (decide (ia (q.i 0))):=fun {m} h=>qY (by rw[ga,aq,au];exact h);have ff:¬ia (q.i 0)->Value.bool false=.bool (decide (ia (q.i 0))):=fun h=>qY ⟨fun e=>(by cases e),fun e=>absurd e h⟩;unfold ia at lf ff ⊢;exact⟨fun h=>ff ah,fun h0=>⟨fun h=>lf ah,fun h1=>⟨fun h=>lf ah,fun h2=>⟨fun h=>lf ah,fun h3=>⟨fun h=>lf ah,fun h4=>⟨fun h=>lf ah,fun h5=>⟨fun h=>lf ah,fun h6=>ff ah⟩⟩⟩⟩⟩⟩⟩
def Mk:Mj.OK Tryz.prog:=by
 refine kE (Γ:=[]) (fun t ht=>by cases ht) UJ rfl rfl rfl (fun q _ _=>uX _) (fun q hq hN=>⟨fun _ _=>True,fun _ _=>0,?_⟩);have eG:Rd (uF [.one i64] q)=.int .i64 (J4 (q.i 0)):=rfl;simp only[eG];refine aF.read [] [] [] ?_;simp only[go_sem,Nat.reduceAdd];intro q1 g1 _;rw[g1.i 0];unfold J4;exact⟨fun h=>by rw[aay h],fun h0=>⟨fun h=>by rw[aal h0,aay h],fun h1=>⟨fun h=>by rw[aal h0,aal h1,aay h],fun h2=>⟨fun h=>by rw[aal h0,aal h1,aal h2,aay h],fun h3=>⟨fun h=>by rw[aal h0,aal h1,aal h2,aal h3,aay h],fun h4=>⟨fun h=>by rw[aal h0,aal h1,aal h2,aal h3,aal h4,aay h],fun h5=>by rw[aal h0,aal h1,aal h2,aal h3,aal h4,aal h5]⟩⟩⟩⟩⟩⟩
def wO (f:Nat->Int):Nat->Nat->Prop
 | _,0=>True
 | n,1=>f n=0
 | n,k+2=>f n=0/\wO f (n+1) (k+1)
def Df {f:Nat->Int} : ∀ (k n:Nat),wO f n k↔∀ j,j<k->f (n+j)=0
 | 0,n=>⟨fun _ j h=>ah,fun _=>trivial⟩
 | 1,n=>⟨fun h j hj=>(by cases j with
  | zero=>exact h
  | succ j=>omega),fun h=>h 0 ah⟩
 | k+2,n=>by
  show(f n=0/\wO f (n+1) (k+1))↔_;rw[Df (k+1) (n+1)];constructor
  .rintro⟨h0,h⟩ j hj;cases j with
   | zero=>exact h0
   | succ j=>have:=h j ah;rwa[show n+1+j=n+(j+1)by omega]at this
  .exact fun h=>⟨h 0 ah,fun j hj=>by have:=h (j+1) ah;rwa[show n+(j+1)=n+1+j by omega]at this⟩
instance zerDec (f:Nat->Int):∀ (k n:Nat),Decidable (wO f n k)
 | 0,_=>isTrue trivial
 | 1,n=>(inferInstance:Decidable (f n=0))
 | k+2,n=>have:=zerDec f (k+1) (n+1);(inferInstance:Decidable (f n=0/\wO f (n+1) (k+1)))
def dm (l:List Value):Prop:=(1<=cI l 0/\cI l 0<=6)/\(1<=cI l 1/\cI l 1<=1048576)/\(0<=cI l 34/\cI l 34<=255)/\cI l 36<=1099511627776/\cI l (54+(cI l 0-1).toNat)=cI l 1-1/\(cI l 54<=1048576/\cI l 55<=1048576/\cI l 56<=1048576/\cI l 57<=1048576/\cI l 58<=1048576/\cI l 59<=1048576)/\(1<cI l 1\/wO (cI l) 2 32)
instance (l:List Value):Decidable (dm l):=by unfold dm;exact inferInstance
def YL (v:Value):List Value:=match v with
 | .agg a=>a.toList
 | _=>[]
def Jk (xs:List Value):Value:=.bool (decide (dm (YL (xs.getD 0 (.bool false)))))
def CB:Sx.Spec:=rA 147 [.agg bU] [.one .bool] (fun _=>True) Jk
def Qs:aF Tryz.prog [] 147 where
 Λ:=aD
 args:=(bW 0 [.agg bU]).map .sv
 mem:=[]
 nv:=128
def aB (q:Env) (n:Nat):List Value:=(ak n bU).map (CV.ev q)
def El (q:Env) (h:1<=q.i 0/\q.i 0<=6):cI (aB q 0) (54+(q.i 0-1).toNat)=if q.i 0-1=0 then q.i 57 else if q.i 0-1=1 then q.i 58 else if q.i 0-1=2 then q.i 59 else if q.i 0-1=3 then q.i 60 else if q.i 0-1=4 then q.i 61 else q.i 62:=by
 have:q.i 0=1\/q.i 0=2\/q.i 0=3\/q.i 0=4\/q.i 0=5\/q.i 0=6:=ah;rcases this with e | e | e | e | e | e<;>rw[e]<;>rfl
def cw (g:ai 128 q q1):aB q1 0=aB q 0:=by
 have h:=fS (n:=0) (ks:=bU) g (acP zzK);exact aaO (Value.agg.inj h)
def Ho:CB.OK Tryz.prog:=by
 refine kE (Γ:=[]) (fun t ht=>by cases ht) Qs rfl rfl rfl (fun q _ _=>oB _) (fun q hq hN=>⟨fun _ _=>True,fun _ _=>0,?_⟩);have eG:Jk (uF [.agg bU] q)=.bool (decide (dm (aB q 0))):=rfl;simp only[eG];refine aF.read [] [] [] ?_;simp only[go_sem,Nat.reduceAdd,bO,cq];intro q1 g1 _;rw[<-cw g1];clear g1;have eP:dm (aB q1 0)↔((1<=q1.i 0/\q1.i 0<=6)/\(1<=q1.i 1/\q1.i 1<=1048576)/\(0<=q1.i 34/\q1.i 34<=255)/\q1.i 36<=1099511627776/\cI (aB q1 0) (54+(q1.i 0-1).toNat)=q1.i 1-1/\(q1.i 57<=1048576/\q1.i 58<=1048576/\q1.i 59<=1048576/\q1.i 60<=1048576/\q1.i 61<=1048576/\q1.i 62<=1048576)/\(1<q1.i 1\/wO (cI (aB q1 0)) 2 32)):=ada;have eK:=El q1;have eZ:aY q1 (.and (.eq (.var 2) (.lit 0)) (.and (.eq (.var 3) (.lit 0)) (.and (.eq (.var 4) (.lit 0)) (.and (.eq (.var 5) (.lit 0)) (.and (.eq (.var 6) (.lit 0)) (.and (.eq (.var 7) (.lit 0)) (.and (.eq (.var 8) (.lit 0)) (.and (.eq (.var 9) (.lit 0)) (.and (.eq (.var 10) (.lit 0)) (.and (.eq (.var 11) (.lit 0)) (.and (.eq (.var 12) (.lit 0)) (.and (.eq (.var 13) (.lit 0)) (.and (.eq (.var 14) (.lit 0)) (.and (.eq (.var 15) (.lit 0)) (.and (.eq (.var 16) (.lit 0)) (.and (.eq (.var 17) (.lit 0)) (.and (.eq (.var 18) (.lit 0)) (.and (.eq (.var 19) (.lit 0)) (.and (.eq (.var 20) (.lit 0)) (.and (.eq (.var 21) (.lit 0)) (.and (.eq (.var 22) (.lit 0)) (.and (.eq (.var 23) (.lit 0)) (.and (.eq (.var 24) (.lit 0)) (.and (.eq (.var 25) (.lit 0)) (.and (.eq (.var 26) (.lit 0)) (.and (.eq (.var 27) (.lit 0)) (.and (.eq (.var 28) (.lit 0)) (.and (.eq (.var 29) (.lit 0)) (.and (.eq (.var 30) (.lit 0)) (.and (.eq (.var 31) (.lit 0)) (.and (.eq (.var 32) (.lit 0)) (.eq (.var 33) (.lit 0)))))))))))))))))))))))))))))))))=true↔wO (cI (aB q1 0)) 2 32:=by
  simp only[iR,ga,au,aq];exact ada
 have ff:¬dm (aB q1 0)->Value.bool false=.bool (decide (dm (aB q1 0))):=fun h=>qY ⟨fun e=>(by cases e),fun e=>absurd e h⟩;have tt:dm (aB q1 0)->Value.bool true=.bool (decide (dm (aB q1 0))):=fun h=>qY ⟨fun _=>h,fun _=>rfl⟩;have zz:(wO (cI (aB q1 0)) 2 32↔dm (aB q1 0))->Value.bool (aY q1 (.and (.eq (.var 2) (.lit 0)) (.and (.eq (.var 3) (.lit 0)) (.and (.eq (.var 4) (.lit 0)) (.and (.eq (.var 5) (.lit 0)) (.and (.eq (.var 6) (.lit 0)) (.and (.eq (.var 7) (.lit 0)) (.and (.eq (.var 8) (.lit 0)) (.and (.eq (.var 9) (.lit 0)) (.and (.eq (.var 10) (.lit 0)) (.and (.eq (.var 11) (.lit 0)) (.and (.eq (.var 12) (.lit 0)) (.and (.eq (.var 13) (.lit 0)) (.and (.eq (.var 14) (.lit 0)) (.and (.eq (.var 15) (.lit 0)) (.and (.eq (.var 16) (.lit 0)) (.and (.eq (.var 17) (.lit 0)) (.and (.eq (.var 18) (.lit 0)) (.and (.eq (.var 19) (.lit 0)) (.and (.eq (.var 20) (.lit 0)) (.and (.eq (.var 21) (.lit 0)) (.and (.eq (.var 22) (.lit 0)) (.and (.eq (.var 23) (.lit 0)) (.and (.eq (.var 24) (.lit 0)) (.and (.eq (.var 25) (.lit 0)) (.and (.eq (.var 26) (.lit 0)) (.and (.eq (.var 27) (.lit 0)) (.and (.eq (.var 28) (.lit 0)) (.and (.eq (.var 29) (.lit 0)) (.and (.eq (.var 30) (.lit 0)) (.and (.eq (.var 31) (.lit 0)) (.and (.eq (.var 32) (.lit 0)) (.eq (.var 33) (.lit 0))))))))))))))))))))))))))))))))))=.bool (decide (dm (aB q1 0))):=fun h=>qY (eZ.trans h);generalize Value.bool (decide (dm (aB q1 0)))=V at ff tt zz ⊢;rw[eP]at ff tt zz;clear eP eZ;refine⟨fun h=>ff ah,fun h0=>⟨fun h=>ff ah,fun h1=>?_⟩⟩;have eK:=eK ah;have w0:IntKind.i64.wrap (q1.i 0-1)=q1.i 0-1:=IntWalk.i64_in _ ah;rw[w0];rw[<-eK];generalize cI (aB q1 0) (54+(q1.i 0-1).toNat)=K at ff tt zz ⊢;generalize wO (cI (aB q1 0)) 2 32=Z at ff tt zz;refine⟨fun h=>ff ah,fun h2=>⟨fun h=>ff ah,fun h3=>?_⟩⟩;have w1:IntKind.u64.wrap (q1.i 1-1)=q1.i 1-1:=oW ah ah;rw[w1];refine⟨fun h=>ff ah,fun h4=>⟨fun h=>ff ah,fun h5=>⟨fun h=>ff ah,fun h6=>⟨ah,ah,fun h=>ff ah,fun h7=>?_⟩⟩⟩⟩;refine⟨fun h=>ff ah,fun k0=>⟨fun h=>ff ah,fun k1=>⟨fun h=>ff ah,fun k2=>⟨fun h=>ff ah,fun k3=>⟨fun h=>ff ah,fun k4=>⟨fun h=>ff ah,fun k5=>⟨fun h=>zz ⟨fun z=>?_,fun z=>?_⟩,fun h=>tt ?_⟩⟩⟩⟩⟩⟩⟩
 .exact⟨ah,ah,ah,ah,h7,ah,Or.inr z⟩
 .rcases z.2.2.2.2.2.2 with z | z
  .omega
  .exact z
 .exact⟨ah,ah,ah,ah,h7,ah,Or.inl h⟩
def Lc:Value->Prop
 | .int .u8 z=>0<=z/\z<256
 | .int .u64 z=>0<=z/\z<18446744073709551616
 | .int .i64 z=>ku z
 | _=>True
structure Hd where
 c:List Value
 t:List (List Int)
variable {h h':Hd}
def Hd.Form (h:Hd):Prop:=dm h.c/\h.t.length<=8/\lX h.t/\ia (cI h.c 92-16)/\(cB h.c 35=true->h.t=[]/\wO (cI h.c) 37 16)
structure bS (R:Hl) (row:List Value) (h:Hd):Prop where
 ok:bf row de
 rng:∀ v∈row,Lc v
 core:h.c=row.set 53 (.bool false)
 tok:aJ R (row.getD 53 (.bool false)) jF (h.t.map aS)
 byte:gI h.t
def cj {rows:List (List Value)} (h:aJ R v ks rows) (hl:R.le R'):aJ R' v ks rows:=by
 obtain⟨x,y,c,e,hy,h⟩:=h;refine⟨x,y,c,e,hy,h.imp id fun⟨hx,h⟩=>⟨hx,fun i row hr=>⟨(h i row hr).1,fun j u hu=>?_⟩⟩⟩;have hc:=(h i row hr).2 j u hu;unfold Hl.cell at hc ⊢;cases hR:R x.toNat with
 | none=>rw[hR]at hc;cases hc
 | some o=>rw[hl _ _ hR];rw[hR]at hc;exact hc
def bS.mono (x:bS R row h) (hl:R.le R'):bS R' row h:=⟨x.ok,x.rng,x.core,cj x.tok hl,x.byte⟩
def dY:∀ {a b:List (List Int)},a.map aS=b.map aS->a=b
 | [],[],_=>rfl
 | [],_::_,h=>by cases h
 | _::_,[],h=>by cases h
 | u::a,v::b,h=>by
  simp only[aax,aag]at h;rw[jx h.1,dY h.2]
def bS.uniq (x:bS R row h) (y:bS R row h'):h=h':=by
 obtain⟨c,t⟩:=h;obtain⟨c',t'⟩:=h';have e1:c=c':=x.core.trans y.core.symm;have e3:t=t':=dY (x.tok.uniq y.tok);rw[e1,e3]
def SA (h:k≠53):cI (row.set 53 (.bool false)) k=cI row k:=by
 unfold cI;rw[abd ah]
def Sz (h:k≠53):cB (row.set 53 (.bool false)) k=cB row k:=by
 unfold cB;rw[abd ah]
def bS.I (x:bS R row h) (hk:k≠53):cI h.c k=cI row k:=by rw[x.core,SA hk]
def bS.B (x:bS R row h) (hk:k≠53):cB h.c k=cB row k:=by rw[x.core,Sz hk]
def BF {f g:Nat->Int} (h:∀ j,j<k->f (n+j)=g (n+j)):wO f n k↔wO g n k:=by
 rw[Df,Df];exact⟨fun hf j hj=>by rw[<-h j hj];exact hf j hj,fun hg j hj=>by rw[h j hj];exact hg j hj⟩
def bS.form (x:bS R row h):h.Form↔(dm row/\h.t.length<=8/\lX h.t/\ia (cI row 92-16)/\(cB row 35=true->h.t=[]/\wO (cI row) 37 16)):=by
 have e1:dm h.c↔dm row:=by
  unfold dm;have hz:wO (cI h.c) 2 32↔wO (cI row) 2 32:=BF fun j hj=>x.I ah;have hk:cI h.c (54+(cI row 0-1).toNat)=cI row (54+(cI row 0-1).toNat):=x.I ah;rw[x.I (k:=0) aA,x.I (k:=1) aA,x.I (k:=34) aA,x.I (k:=36) aA,x.I (k:=54) aA,x.I (k:=55) aA,x.I (k:=56) aA,x.I (k:=57) aA,x.I (k:=58) aA,x.I (k:=59) aA,hz,hk]
 have e2:wO (cI h.c) 37 16↔wO (cI row) 37 16:=BF fun j hj=>x.I ah;unfold Hd.Form;rw[e1,e2,x.I (k:=92) aA,x.B (k:=35) aA]
def me (h:bf row de):∃ q:Env,row=aB q 0/\q.h 130=R/\bu 0 bU q/\0<=q.i 54/\0<=q.i 55/\0<=q.i 56:=by
 obtain⟨q,_,hn,e⟩:=cU bU 0 row (bh fun _=>0) h;have hs:∀ (a b:List Ck) (n:Nat),bu n (a++b) q->bu (n+bc a) b q:=by
  intro a
  induction a with
  | nil=>intro b n h;simpa [bc] using h
  | cons k a ih =>
   intro b n h;have:=ih b (n+k.len) h.2;rw[show n+k.len+bc a=n+bc (k::a)by simp [bc];omega]at this;exact this
 have hn0:=hn;have hn:bu 0 (bU.take 53++(.sl::bU.drop 54)) q:=hn;have hs:=(hs (bU.take 53) (.sl::bU.drop 54) 0 hn).1;exact⟨⟨q.i,q.b,q.s,q.v,fun k=>if k=130 then R else Hl.none⟩,e.symm,rfl,hn0,hs.2.1,hs.2.2.1,hs.2.2.2⟩
open Classical in
noncomputable def hZ (f:FuncId):Sx.Spec where
 fn:=f
 own:=[]
 rd:=[10053]
 res:=[.one .bool]
 pre:=fun xs Hs Rs=>∃ row R h,xs=[.agg row.toArray]/\Rs=[R]/\bS R row h
 post:=fun xs Hs Rs v Hs' F=>∃ row R h,xs=[.agg row.toArray]/\Rs=[R]/\bS R row h/\v=.bool (decide h.Form)
noncomputable def DY:List Sx.Spec:=[qc 148,qc 103,Tv,Mj,CB]
def IL:∀ t∈DY,t.OK Tryz.prog:=av AH <| av K5 <| av Qq <| av Mk <| av Ho <| bN
def XW:DY[1]?=some (qc 103):=rfl
def Vd (f:FuncId):(qc f).res=[.one .bool]:=rfl
def ZW:Tv.res=[.one .bool]:=rfl
def ZX:Mj.res=[.one (.int .i64)]:=rfl
def ZY:CB.res=[.one .bool]:=rfl
noncomputable def x8:aF Tryz.prog DY 117 where
 Λ:=aD
 args:=(bW 0 [.agg bU]).map .sv
 mem:=[.ro 130 [.var 53] false]
 nv:=131
def qv:0+bc bU<=128:=acP zzK
def CH {p:Option Addr} (h:aJ R (.slice p n c) ks (T.map aS)):n=T.length:=by
 obtain⟨x,y,c',e,_⟩:=h;simp only[Value.slice.injEq,aaw]at e;exact e.2.1
def Q9 (z:Int):ku (IntKind.i64.wrap z):=by
 unfold ku;rw[IntKind.wrap_i64];omega
def NS (h:ku z):ia (IntKind.i64.wrap (z-16))↔ia (z-16):=by
 unfold ku at h;unfold ia;rw[IntKind.wrap_i64];omega
def yz (h:ia (z-16)):80<=z/\z<=2064:=by
 unfold ia at h;omega
def Ml (h1:80<=z) (h2:z<=2064):J4 (IntKind.i64.wrap (z-17))=IntKind.i64.wrap (z-16)↔ia (z-16):=by
 rw[IntWalk.i64_in (z-17) ah,IntWalk.i64_in (z-16) ah];unfold J4 ia
 repeat' split
 all_goals omega
def xD (P:Prop):∃ z:Int,P↔z=1:=by
 by_cases h:P
 .exact⟨1,fun _=>rfl,fun _=>h⟩
 .exact⟨0,fun x=>absurd x h,fun x=>absurd x aA⟩
open Classical in
def nf (hx:bS R row h) {e:E} (hb:aY q e=true↔h.Form) {mem:Mem} : postOf (hZ f) [.agg row.toArray] [] [R] q mem (.sv (.one (.bool e))):=by
 intro _;exact⟨[],[],rfl,rfl,⟨⟨fun _=>0,fun _=>aY q e,fun _=>.empty,fun _=>.tuple #[],fun _=>Hl.none⟩,rfl,zzT,zzT⟩,_,R,h,rfl,rfl,hx,qY hb⟩
open Classical in
def Bu {Hs K:List Hl} (h:aJ R u jF (T.map aS)) (hp:(qc f).post [u] Hs [R] v K F):v=.bool (decide (lX T)):=by
 obtain⟨u',R',T',e1,e2,hR,hv⟩:=hp;simp only[aag,aau]at e1 e2;subst e1 e2;rw[dY (h.uniq hR)];exact hv
open Classical in
def qt:(hZ 117).OK Tryz.prog:=by
 refine Spec.aV (Γ:=DY) IL ?_;rintro xs Hs Rs hl1 hl2 ⟨row,R,h,rfl,rfl,hx⟩;have e0:Hs=[]:=aad.1 hl1;subst e0;obtain⟨J,rfl,w130,hnw,n54,n55,n56⟩:=me (R:=R) hx.ok;refine⟨x8,J,fun _ _=>True,fun _ _=>0,?_,⟨?_,?_,?_,?_⟩,(fun _ h=>nomatch h),?_⟩
 .rfl
 .intro r hr ho;simp [x8]at hr;subst hr;cases ho
 .intro r hr ho;simp [x8]at hr;subst hr;exact⟨R,aC,by show(J.h 130).le R;rw[w130];exact Hl.le_refl _⟩
 .simp [x8]
 .intro r hr;simp [x8]at hr;subst hr;trivial
 .refine aF.read [bU] [] [] ?_;simp only[go_sem,Nat.reduceAdd,DY,Vd,ZW,ZY,Uu];have hF:=hx.form;have hT:=hx.tok;have hT:aJ R (.slice (ar (J.i 53) (J.i 54)) (J.i 55).toNat (J.i 56).toNat) jF (h.t.map aS):=hT;have hlen:(J.i 55).toNat=h.t.length:=CH hT;have h92:cI (aB J 0) 92=J.i 95:=rfl;have h35:cB (aB J 0) 35=J.b 35:=rfl;have h92in:ku (J.i 95):=hx.rng (.int .i64 (J.i 95)) (aae (i:=92) rfl);rw[h92,h35]at hF;intro q1 g1 _;have Vo:aB q1 0=aB J 0:=cw g1.mono;refine⟨⟨⟨q1,⟨kW g1.mono bU 0 qv hnw,zzT⟩,rfl⟩,zzT⟩,fun q2 g2 ⟨F2,hp2,_⟩=>?_⟩;have hp2:Value.bool (q2.b 132)=.bool (decide (dm (aB q1 0))):=hp2;rw[Vo]at hp2;simp only[Value.bool.injEq]at hp2;rw[hp2,aaf];have G2:ai 131 J q2:=g1.tr g2;rw[G2.i 55,G2.i 53,G2.i 54,G2.i 56,G2.h 130,w130];have ff:∀ {q:Env} {mem:Mem},¬h.Form->postOf (hZ 117) [.agg (aB J 0).toArray] [] [R] q mem (.sv (.one (.bool .ff))):=fun hf=>nf hx ⟨fun e=>(by rw[cq]at e;cases e),fun e=>absurd e hf⟩;refine⟨fun hpl=>⟨n55,fun h8=>⟨⟨_,R,h.t,rfl,rfl,hT,hx.byte⟩,fun q3 g3 ⟨F3,hp3,_⟩=>?_⟩,fun h8=>ff fun hf=>?_⟩,fun hpl=>ff fun hf=>hpl (hF.1 hf).1⟩
  .have hs:=Bu hT hp3;have hs:q3.b 133=decide (lX h.t):=by simpa [bF] using hs
   rw[hs,aaf];have G3:ai 131 J q3:=G2.tr g3;rw[G3.i 95];refine⟨fun hso=>⟨⟨⟨aQ [IntKind.i64.wrap (J.i 95-16)] false [],⟨zzT,zzT⟩,rfl⟩,Q9 _⟩,fun q4 g4 ⟨F4,hp4,_⟩=>?_⟩,fun hso=>ff fun hf=>hso (hF.1 hf).2.2.1⟩;have hp4:Value.bool (q4.b 134)=.bool (decide (ia (IntKind.i64.wrap (J.i 95-16)))):=hp4;simp only[Value.bool.injEq]at hp4;rw[hp4,aaf,NS h92in];have G4:ai 131 J q4:=G3.tr g4;rw[G4.b 35,G4.i 55];refine⟨fun hpd=>ff fun hf=>hpd (hF.1 hf).2.2.2.1,fun hpd=>⟨fun hc=>⟨fun hz=>nf hx ?_,fun hz=>ff fun hf=>?_⟩,fun hc=>nf hx ?_⟩⟩
   .have eZ:aY q4 (.and (.eq (.var 37) (.lit 0)) (.and (.eq (.var 38) (.lit 0)) (.and (.eq (.var 39) (.lit 0)) (.and (.eq (.var 40) (.lit 0)) (.and (.eq (.var 41) (.lit 0)) (.and (.eq (.var 42) (.lit 0)) (.and (.eq (.var 43) (.lit 0)) (.and (.eq (.var 44) (.lit 0)) (.and (.eq (.var 45) (.lit 0)) (.and (.eq (.var 46) (.lit 0)) (.and (.eq (.var 47) (.lit 0)) (.and (.eq (.var 48) (.lit 0)) (.and (.eq (.var 49) (.lit 0)) (.and (.eq (.var 50) (.lit 0)) (.and (.eq (.var 51) (.lit 0)) (.eq (.var 52) (.lit 0)))))))))))))))))=true↔wO (cI (aB q4 0)) 37 16:=by
     simp only[iR,ga,au,aq];exact ada
    rw[eZ,cw G4.mono,hF];refine⟨fun hzz=>⟨hpl,ah,hso,hpd,fun _=>⟨aad.1 ah,hzz⟩⟩,fun hf=>(hf.2.2.2.2 hc).2⟩
   .have:=((hF.1 hf).2.2.2.2 hc).1;rw[this]at hlen;exact hz (by simpa using (show J.i 55=0 by simp at hlen;omega))
   .rw[bO,hF];exact⟨fun _=>⟨hpl,ah,hso,hpd,fun h=>absurd h hc⟩,fun _=>rfl⟩
  .have:=(hF.1 hf).2.1;omega
noncomputable def zp:aF Tryz.prog DY 65 where
 Λ:=aD
 args:=(bW 0 [.agg bU]).map .sv
 mem:=[.ro 130 [.var 53] false]
 nv:=131
def Ss (q:Env):(q.i 2=0/\q.i 3=0/\q.i 4=0/\q.i 5=0/\q.i 6=0/\q.i 7=0/\q.i 8=0/\q.i 9=0/\q.i 10=0/\q.i 11=0/\q.i 12=0/\q.i 13=0/\q.i 14=0/\q.i 15=0/\q.i 16=0/\q.i 17=0/\q.i 18=0/\q.i 19=0/\q.i 20=0/\q.i 21=0/\q.i 22=0/\q.i 23=0/\q.i 24=0/\q.i 25=0/\q.i 26=0/\q.i 27=0/\q.i 28=0/\q.i 29=0/\q.i 30=0/\q.i 31=0/\q.i 32=0/\q.i 33=0)↔wO (cI (aB q 0)) 2 32:=ada
def Su (q:Env):(q.i 37=0/\q.i 38=0/\q.i 39=0/\q.i 40=0/\q.i 41=0/\q.i 42=0/\q.i 43=0/\q.i 44=0/\q.i 45=0/\q.i 46=0/\q.i 47=0/\q.i 48=0/\q.i 49=0/\q.i 50=0/\q.i 51=0/\q.i 52=0)↔wO (cI (aB q 0)) 37 16:=ada
open Classical in
def uP:(hZ 65).OK Tryz.prog:=by
 refine Spec.aV (Γ:=DY) IL ?_;rintro xs Hs Rs hl1 hl2 ⟨row,R,h,rfl,rfl,hx⟩;have e0:Hs=[]:=aad.1 hl1;subst e0;obtain⟨J,rfl,w130,hnw,n54,n55,n56⟩:=me (R:=R) hx.ok;refine⟨zp,J,fun _ _=>True,fun _ _=>0,?_,⟨?_,?_,?_,?_⟩,(fun _ h=>nomatch h),?_⟩
 .rfl
 .intro r hr ho;simp [zp]at hr;subst hr;cases ho
 .intro r hr ho;simp [zp]at hr;subst hr;exact⟨R,aC,by show(J.h 130).le R;rw[w130];exact Hl.le_refl _⟩
 .simp [zp]
 .intro r hr;simp [zp]at hr;subst hr;trivial
 .refine aF.read [] [] [] ?_;simp only[go_sem,Nat.reduceAdd,XW,Vd,DY,ZX,ZI,Uu,Ss,Su];have hF:=hx.form;have hT:=hx.tok;have hT:aJ R (.slice (ar (J.i 53) (J.i 54)) (J.i 55).toNat (J.i 56).toNat) jF (h.t.map aS):=hT;have hlen:(J.i 55).toNat=h.t.length:=CH hT;have h92:cI (aB J 0) 92=J.i 95:=rfl;have h35:cB (aB J 0) 35=J.b 35:=rfl;rw[h92,h35]at hF;have eP:dm (aB J 0)↔((1<=J.i 0/\J.i 0<=6)/\(1<=J.i 1/\J.i 1<=1048576)/\(0<=J.i 34/\J.i 34<=255)/\J.i 36<=1099511627776/\cI (aB J 0) (54+(J.i 0-1).toNat)=J.i 1-1/\(J.i 57<=1048576/\J.i 58<=1048576/\J.i 59<=1048576/\J.i 60<=1048576/\J.i 61<=1048576/\J.i 62<=1048576)/\(1<J.i 1\/wO (cI (aB J 0)) 2 32)):=ada;have eK:=El J;have eB:=@Ml (J.i 95);have eI:=@yz (J.i 95);have eN:h.t=[]↔J.i 55=0:=by rw[<-aad];omega
  rw[eP,eN]at hF;clear eP eN;obtain⟨z1,hz1⟩:=xD (wO (cI (aB J 0)) 2 32);obtain⟨z2,hz2⟩:=xD (wO (cI (aB J 0)) 37 16);obtain⟨z3,hz3⟩:=xD (J.b 35=true);obtain⟨z4,hz4⟩:=xD (lX h.t);obtain⟨z5,hz5⟩:=xD (ia (J.i 95-16));rw[hz1,hz2,hz3,hz4,hz5]at hF;rw[hz5]at eB eI;have ff:∀ {q:Env} {mem:Mem},¬h.Form->postOf (hZ 65) [.agg (aB J 0).toArray] [] [R] q mem (.sv (.one (.bool .ff))):=fun hf=>nf hx ⟨fun e=>(by rw[cq]at e;cases e),fun e=>absurd e hf⟩;rw[hF]at ff;intro q1 g1 _;rw[g1.i 0,g1.i 1,g1.i 34,g1.i 36,g1.i 55,g1.i 53,g1.i 54,g1.i 56,g1.h 130,w130];refine⟨fun c0=>⟨fun c1=>⟨fun c2=>⟨fun c3=>⟨fun c4=>⟨fun c5=>⟨fun c6=>⟨n55,fun c7=>⟨⟨_,R,h.t,rfl,rfl,hT,hx.byte⟩,fun q2 g2 ⟨F2,hp2,_⟩=>?_⟩,fun c=>ff ah⟩,fun c=>ff ah⟩,fun c=>ff ah⟩,fun c=>ff ah⟩,fun c=>ff ah⟩,fun c=>ff ah⟩,fun c=>ff ah⟩,fun c=>ff ah⟩;have G2:ai 131 J q2:=g1.tr g2;have hs:=Bu hT hp2;have hs:q2.b 132=decide (lX h.t):=by simpa [bF] using hs
  rw[hs,aaf,hz4];simp only[G2.i 0,G2.i 1,G2.i 34,G2.i 36,G2.i 55,G2.i 57,G2.i 58,G2.i 59,G2.i 60,G2.i 61,G2.i 62,G2.i 95,G2.b 35];refine⟨fun c=>ff ah,fun d0=>⟨fun c=>ff ah,fun d1=>⟨fun c=>ff ah,fun d2=>⟨fun c=>ff ah,fun d3=>⟨fun c=>ff ah,fun d4=>⟨fun c=>ff ah,fun d5=>⟨fun c=>ff ah,fun d6=>⟨fun e0=>⟨fun e1=>⟨⟨⟨aQ [IntKind.i64.wrap (J.i 95-17)] false [],⟨zzT,zzT⟩,rfl⟩,zzT⟩,fun q3 g3 ⟨F3,hp3,_⟩=>?_⟩,fun c=>?_⟩,fun c=>?_⟩⟩⟩⟩⟩⟩⟩⟩
  rotate_left
  .rw[hz3];exact⟨fun f0=>⟨fun f1=>⟨fun f2=>ff ah,fun f2=>ff ah⟩,fun f1=>ff ah⟩,fun f0=>⟨fun f1=>⟨fun f2=>ff ah,fun f2=>ff ah⟩,fun f1=>ff ah⟩⟩
  .rw[hz3];exact⟨fun f0=>⟨fun f1=>⟨fun f2=>ff ah,fun f2=>ff ah⟩,fun f1=>ff ah⟩,fun f0=>⟨fun f1=>⟨fun f2=>ff ah,fun f2=>ff ah⟩,fun f1=>ff ah⟩⟩
  have G3:ai 131 J q3:=G2.tr g3;have hp3:Value.int .i64 (q3.i 133)=.int .i64 (J4 (IntKind.i64.wrap (J.i 95-17))):=hp3;simp only[Value.int.injEq,aaZ]at hp3;have hr3:aB q3 0=aB J 0:=cw G3.mono;have eB:=eB e0 e1;simp only[hp3,hr3,hz1,hz2,eB,G3.i 0,G3.i 1,G3.i 34,G3.i 36,G3.i 55,G3.i 57,G3.i 58,G3.i 59,G3.i 60,G3.i 61,G3.i 62,G3.i 95,G3.b 35];rw[hz3];have w0:IntKind.i64.wrap (J.i 0-1)=J.i 0-1:=IntWalk.i64_in _ ah;have w1:IntKind.u64.wrap (J.i 1-1)=J.i 1-1:=oW ah ah;have kf:∀ {mem:Mem},(cI (aB J 0) (54+(J.i 0-1).toNat)=J.i 1-1↔h.Form)->postOf (hZ 65) [.agg (aB J 0).toArray] [] [R] q3 mem (.sv (.one (.bool (.eq (.ite (.eq (.wrap .i64 (.sub (.var 0) (.lit 1))) (.lit 0)) (.var 57) (.ite (.eq (.wrap .i64 (.sub (.var 0) (.lit 1))) (.lit 1)) (.var 58) (.ite (.eq (.wrap .i64 (.sub (.var 0) (.lit 1))) (.lit 2)) (.var 59) (.ite (.eq (.wrap .i64 (.sub (.var 0) (.lit 1))) (.lit 3)) (.var 60) (.ite (.eq (.wrap .i64 (.sub (.var 0) (.lit 1))) (.lit 4)) (.var 61) (.var 62)))))) (.wrap .u64 (.sub (.var 1) (.lit 1))))))):=fun {mem} hh=>nf hx (by
   rw[<-hh,eK ah];simp only[ga,fg,bJ,dj,au,aq,G3.i 0,G3.i 1,G3.i 57,G3.i 58,G3.i 59,G3.i 60,G3.i 61,G3.i 62,w0,w1])
  rw[hF]at kf;rw[w0];exact⟨fun f0=>⟨fun f1=>⟨fun f2=>⟨fun f3=>⟨fun f4=>⟨fun f5=>⟨ah,ah,kf ah⟩,fun f5=>ff ah⟩,fun f4=>ff ah⟩,fun f3=>ff ah⟩,fun f2=>⟨fun f3=>⟨fun f4=>ff ah,fun f4=>ff ah⟩,fun f3=>ff ah⟩⟩,fun f1=>⟨fun f3=>⟨fun f4=>⟨ah,ah,kf ah⟩,fun f4=>ff ah⟩,fun f3=>ff ah⟩⟩,
   fun f0=>⟨fun f1=>⟨fun f2=>⟨fun f3=>⟨fun f5=>⟨ah,ah,kf ah⟩,fun f5=>ff ah⟩,fun f3=>ff ah⟩,fun f2=>⟨fun f3=>ff ah,fun f3=>ff ah⟩⟩,fun f1=>⟨fun f3=>⟨ah,ah,kf ah⟩,fun f3=>ff ah⟩⟩⟩
end Go.Proofs.YtomdimlnggpgbaaGreatDoor
