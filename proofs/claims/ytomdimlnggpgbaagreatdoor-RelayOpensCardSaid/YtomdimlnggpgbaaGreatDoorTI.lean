/- RelayOpens. -/
import Derived.Lib.Hide
import Derived.WalkSpells
import Derived.WalkLawsBesides
import Derived.Lib.BytesEntry
import Derived.Test.YtomdimlnggpgbaaGreatDoorTH
set_option linter.all false
set_option maxHeartbeats 4000000
namespace Go.Proofs.YtomdimlnggpgbaaGreatDoor
open Go Go.Sx Go.Pk
open Go.Proofs.YtomdimlnggpgbaaGreatDoor.D hiding aM aC fI
theorem zV:jC.OK Tryz.prog:=by
 refine Spec.aT (Γ:=JP) TZ ?_;rintro xs Hs Rs hl1 hl2 ⟨u,bs,R,RG,rfl,rfl,hR,hb,hlen,hK⟩;have e0:Hs=[]:=aad.1 hl1;subst e0;obtain⟨x,y,c,rfl,hy,hRc⟩:=id hR;refine⟨RI,aM [x,y,bs.length,c] false [Hl.none,Hl.none,Hl.none,Hl.none,R,RG],
  BI bs,Ly bs,?_,cQ (by intro r hr;simp [RI]at hr;rcases hr with rfl | rfl<;>exact⟨_,_,_,rfl⟩) rfl,(fun _ h=>nomatch h),?_⟩
 .show [Value.slice (az x y) ((bs.length:Int)).toNat ((c:Int)).toNat]=_;simp only[aaa]
 .refine aG.lit (x:=OD) ?_;generalize hρ:aM [x,y,bs.length,c] false [Hl.none,Hl.none,Hl.none,Hl.none,R,RG]=J;have V:∀ q:Env,ai 6 J q->q.i 0=x/\q.i 1=y/\q.i 2=bs.length/\q.i 3=c/\q.h 4=R/\q.h 5=RG:=fun q hg=>by
   rw[hg.i 0,hg.i 1,hg.i 2,hg.i 3,hg.h 4,hg.h 5,<-hρ];exact⟨rfl,rfl,rfl,rfl,rfl,rfl⟩
  clear hρ;unfold OD;simp only[go_sem,Nat.reduceAdd,JP,OC,SO];have t0:Int.toNat 0=0:=rfl;have E0:aV Hl.none 5 1 (.slice (az (-1) 0) (Int.toNat 0) (Int.toNat 0)) (Int.toNat 0) []:=⟨rfl,Or.inl ⟨rfl,rfl⟩⟩;intro q1 g1 p6;have G1:ai 6 J q1:=g1;obtain⟨v0,v1,v2,v3,w4,w5⟩:=V q1 G1;have hseg:=qd (R:=R) (x:=x) (y:=y) (l:=(bs.length:Int)) rfl hy hRc;rw[v0,v1,v2,w4];refine⟨⟨⟨[],E0⟩,aap _,by have:=hseg.1;simpa using this,by rw[t0,aaa];unfold maxLen;omega,by rw[t0,aaa];omega⟩,fun q2 g2 ⟨r1,r2,r3,_⟩ q2' g2' _=>?_⟩;have o2:=r3 [] E0;rw[hseg.2,t0,aaa,aaP,abu]at o2;have b2:Ob q2 7 7 8 (bs.length:Int) bs:=⟨by rw[aaa];exact o2,rfl,r1,r2⟩;have G2':ai 6 J q2':=G1.trans (g2.mono.tr g2');have b2:=b2.mono g2' ah ah ah;have v2':q2'.i 2=bs.length:=(V q2' G2').2.2.1;rw[<-v2']at b2;refine⟨b2.pre ah,fun q3 g3 ⟨r1,r2,r3,_⟩=>?_⟩;have b3:=b2.app ⟨r1,r2,r3⟩ rfl;have G3:ai 6 J q3:=G2'.tr g3;rw[v2',<-(V q3 G3).2.2.1]at b3;obtain⟨b31,b32,b33,b34⟩:=b3;refine⟨⟨0,ah,?_,b33,b34,?_⟩,fun q4 g4 ⟨m,hm,e51,h50,h52,hO⟩=>?_⟩
  .show q3.i 2+1=_;rw[(V q3 G3).2.2.1];omega
  .rw[adq,aa8];exact b31
  have G4:ai 6 J q4:=G3.tr g4;have hml:(bs++[128]++List.replicate m 0).length=bs.length+1+m:=by rw[aac,aac,aa5];rfl
  have b4:Ob q4 53 50 52 (q4.i 51) (bs++[128]++List.replicate m 0):=⟨hO,by rw[hml,e51];omega,h50,h52⟩;have tm:(q4.i 51).tmod 64=((bs.length+1+m)%64:Nat):=by rw[e51,abd ah];omega
  refine⟨ah,fun hne=>?_,fun heq=>?_⟩
  .have hne:(q4.i 51).tmod 64≠56:=hne;rw[tm]at hne;intro q5 g5 _;have b5:=b4.mono g5 ah ah ah;rw[show q4.i 51=q5.i 51 from (g5.i 51).symm]at b5;refine⟨b5.pre (by rw[hml];omega),fun q6 g6 ⟨r1,r2,r3,_⟩=>?_⟩;have b6:=b5.app ⟨r1,r2,r3⟩ rfl;obtain⟨b61,b62,b63,b64⟩:=b6;have e6:q6.i 51=bs.length+1+m:=by rw[g6.i 51,g5.i 51,e51]
   rw[show q5.i 51=q6.i 51 from (g6.i 51).symm]at b61;refine⟨⟨m+1,ah,?_,b63,b64,?_⟩,?_⟩
   .show q6.i 51+1=_;rw[e6];omega
   .rw[adn,<-aaw];exact b61
   .show((bs.length:Int)+100-(q6.i 51+1)).toNat<((bs.length:Int)+100-q4.i 51).toNat;rw[e6,e51];omega
  .have heq:(q4.i 51).tmod 64=56:=heq;rw[tm]at heq;have em:m=(119-bs.length%64)%64:=ah;obtain⟨M,hM⟩:∃ M,M=bs++[128]++List.replicate m 0:=⟨_,rfl⟩;rw[<-hM]at b4 hml;have v2':q4.i 2=bs.length:=(V q4 G4).2.2.1;refine⟨by rw[v2'];omega,?_⟩;have wlen:∀ {q:Env},ai 6 J q->IntKind.u64.wrap (IntKind.u64.wrap (q.i 2)*8)=((8*bs.length:Nat):Int):=fun {q} hg=>by
    rw[(V q hg).2.2.1,nL (x:=(bs.length:Int)) ah ah,nL ah ah];omega
   intro q5 g5 _;have c0:=b4.mono g5 ah ah ah;rw[show q4.i 51=q5.i 51 from (g5.i 51).symm]at c0;have G5:ai 6 J q5:=G4.tr g5;refine⟨c0.pre ah,fun q6 g6 ⟨r1,r2,r3,_⟩=>?_⟩;have G6:ai 6 J q6:=G5.tr g6;rw[pw (q:=q5) (n:=8*bs.length) (k:=56) (s:=56) (wlen G5) ah rfl ah]at r3;have d0:=c0.app ⟨r1,r2,r3⟩ (L':=q5.i 51+1) rfl;intro q7 g7 _;have J7:q7.i 51=q5.i 51:=by rw[g7.i 51,g6.i 51]
   have c1:=(d0.mono g7 ah ah ah).cast (L':=q7.i 51+1) (by rw[J7]);have G7:ai 6 J q7:=G6.tr g7;refine⟨c1.pre (by simp only[aac,aay];omega),fun q8 g8 ⟨r1,r2,r3,_⟩=>?_⟩;have G8:ai 6 J q8:=G7.tr g8;rw[pw (q:=q7) (n:=8*bs.length) (k:=48) (s:=48) (wlen G7) ah rfl ah]at r3;have d1:=c1.app ⟨r1,r2,r3⟩ (L':=q5.i 51+2) (by rw[J7];omega);intro q9 g9 _;have J9:q9.i 51=q5.i 51:=by rw[g9.i 51,g8.i 51,J7]
   have c2:=(d1.mono g9 ah ah ah).cast (L':=q9.i 51+2) (by rw[J9]);have G9:ai 6 J q9:=G8.tr g9;refine⟨c2.pre (by simp only[aac,aay];omega),fun q10 g10 ⟨r1,r2,r3,_⟩=>?_⟩;have G10:ai 6 J q10:=G9.tr g10;rw[pw (q:=q9) (n:=8*bs.length) (k:=40) (s:=40) (wlen G9) ah rfl ah]at r3;have d2:=c2.app ⟨r1,r2,r3⟩ (L':=q5.i 51+3) (by rw[J9];omega);intro q11 g11 _;have J11:q11.i 51=q5.i 51:=by rw[g11.i 51,g10.i 51,J9]
   have c3:=(d2.mono g11 ah ah ah).cast (L':=q11.i 51+3) (by rw[J11]);have G11:ai 6 J q11:=G10.tr g11;refine⟨c3.pre (by simp only[aac,aay];omega),fun q12 g12 ⟨r1,r2,r3,_⟩=>?_⟩;have G12:ai 6 J q12:=G11.tr g12;rw[pw (q:=q11) (n:=8*bs.length) (k:=32) (s:=32) (wlen G11) ah rfl ah]at r3;have d3:=c3.app ⟨r1,r2,r3⟩ (L':=q5.i 51+4) (by rw[J11];omega);intro q13 g13 _;have J13:q13.i 51=q5.i 51:=by rw[g13.i 51,g12.i 51,J11]
   have c4:=(d3.mono g13 ah ah ah).cast (L':=q13.i 51+4) (by rw[J13]);have G13:ai 6 J q13:=G12.tr g13;refine⟨c4.pre (by simp only[aac,aay];omega),fun q14 g14 ⟨r1,r2,r3,_⟩=>?_⟩;have G14:ai 6 J q14:=G13.tr g14;rw[pw (q:=q13) (n:=8*bs.length) (k:=24) (s:=24) (wlen G13) ah rfl ah]at r3;have d4:=c4.app ⟨r1,r2,r3⟩ (L':=q5.i 51+5) (by rw[J13];omega);intro q15 g15 _;have J15:q15.i 51=q5.i 51:=by rw[g15.i 51,g14.i 51,J13]
   have c5:=(d4.mono g15 ah ah ah).cast (L':=q15.i 51+5) (by rw[J15]);have G15:ai 6 J q15:=G14.tr g15;refine⟨c5.pre (by simp only[aac,aay];omega),fun q16 g16 ⟨r1,r2,r3,_⟩=>?_⟩;have G16:ai 6 J q16:=G15.tr g16;rw[pw (q:=q15) (n:=8*bs.length) (k:=16) (s:=16) (wlen G15) ah rfl ah]at r3;have d5:=c5.app ⟨r1,r2,r3⟩ (L':=q5.i 51+6) (by rw[J15];omega);intro q17 g17 _;have J17:q17.i 51=q5.i 51:=by rw[g17.i 51,g16.i 51,J15]
   have c6:=(d5.mono g17 ah ah ah).cast (L':=q17.i 51+6) (by rw[J17]);have G17:ai 6 J q17:=G16.tr g17;refine⟨c6.pre (by simp only[aac,aay];omega),fun q18 g18 ⟨r1,r2,r3,_⟩=>?_⟩;have G18:ai 6 J q18:=G17.tr g18;rw[pw (q:=q17) (n:=8*bs.length) (k:=8) (s:=8) (wlen G17) ah rfl ah]at r3;have d6:=c6.app ⟨r1,r2,r3⟩ (L':=q5.i 51+7) (by rw[J17];omega);intro q19 g19 _;have J19:q19.i 51=q5.i 51:=by rw[g19.i 51,g18.i 51,J17]
   have c7:=(d6.mono g19 ah ah ah).cast (L':=q19.i 51+7) (by rw[J19]);have G19:ai 6 J q19:=G18.tr g19;refine⟨c7.pre (by simp only[aac,aay];omega),fun q20 g20 ⟨r1,r2,r3,_⟩=>?_⟩;have G20:ai 6 J q20:=G19.tr g20;rw[pw (q:=q19) (n:=8*bs.length) (k:=0) (s:=0) (wlen G19) ah rfl ah]at r3;have d7:=c7.app ⟨r1,r2,r3⟩ (L':=q5.i 51+8) (by rw[J19];omega);have hp:M++[((8*bs.length/2 ^ 56%256:Nat):Int)]++[((8*bs.length/2 ^ 48%256:Nat):Int)]++[((8*bs.length/2 ^ 40%256:Nat):Int)]++[((8*bs.length/2 ^ 32%256:Nat):Int)]++[((8*bs.length/2 ^ 24%256:Nat):Int)]++[((8*bs.length/2 ^ 16%256:Nat):Int)]++[((8*bs.length/2 ^ 8%256:Nat):Int)]++[((8*bs.length/2 ^ 0%256:Nat):Int)]=gn bs:=by
    unfold gn;rw[<-em,<-hM];simp only[aaw];rfl
   have J20:q20.i 51=q5.i 51:=by rw[g20.i 51,J19]
   obtain⟨P,hP⟩:∃ P,P=gn bs:=⟨_,rfl⟩;have hPb:ak P:=by rw[hP];exact zE hb
   have hPl:=wm bs;rw[hp]at d7;rw[<-hP]at d7 hPl;clear hp hM b4 hml tm;intro q21 g21 p84;have G21:ai 6 J q21:=G20.tr g21;have dP:Ob q21 82 82 83 (q21.i 51+8) P:=(d7.mono g21 ah ah ah).cast (by rw[g21.i 51,J20]);obtain⟨dP1,eL,dx,dc⟩:=dP;have hx0:0<=q21.i 82/\∀ j z,P[j]?=some z->(q21.h 82).cell (q21.i 82).toNat j=some (.int .u8 z):=by
    obtain⟨x1,y1,c1,e,hy1,h⟩:=dP1.rd.w;simp only[Value.slice.injEq]at e;rcases h with h | ⟨h0,hc⟩
    .exfalso;have:=hPl.1;rw[h]at this;simp only[abe]at this;omega
    .obtain⟨rfl,hyy⟩:=kc dx (aap 0) ah hy1 e.1;obtain rfl:=hyy h0;refine⟨h0,fun j z hz=>?_⟩;have:=hc j z hz;rw[show Int.toNat 0+j=j from aaP j]at this;exact this
   refine⟨⟨0,rfl,aa6 _,fun j hj=>?_⟩,fun q22 g22 ⟨k,e100,hk,h8⟩=>?_⟩
   .match j,hj with
    | 0,_=>rfl
    | 1,_=>rfl
    | 2,_=>rfl
    | 3,_=>rfl
    | 4,_=>rfl
    | 5,_=>rfl
    | 6,_=>rfl
    | 7,_=>rfl
   have G22:ai 6 J q22:=G21.tr g22;rw[<-hP]at hk h8;exact Lx rfl rfl hR hP hPl.2 ah hPb (by rw[g22.i 84];exact p84) (by rw[(V q22 G22).2.2.2.2.2];exact hK) (by rw[g22.h 82,g22.i 82];exact hx0.2) (by rw[g22.i 82];exact hx0.1) (by rw[g22.i 51];exact eL) e100 hk h8 (by show((gn bs).length-q22.i 100).toNat=_;rw[hP])
end Go.Proofs.YtomdimlnggpgbaaGreatDoor
namespace Go.Proofs.YtomdimlnggpgbaaGreatDoor
theorem tr8{q:Prop}(h:q):True/\True/\True/\True/\True/\True/\True/\True/\q:=⟨trivial,trivial,trivial,trivial,trivial,trivial,trivial,trivial,h⟩
open Go Go.Sx Go.Pk Go.RowKit
def lex:List Int->List Int->Int
 | x::xs,y::ys=>if x<y then -1 else if y<x then 1 else lex xs ys
 | _,_=>0
def lO (T:List (List Int)):Prop:=∀ i,i+1<T.length->lex (T.getD i []) (T.getD (i+1) [])<0
def qp (w:World) (b o:Nat) (xs:List Int):Prop:=∀ i x,xs[i]?=some x->w.cell? ⟨b,o+i,none⟩=some (.int .u8 x)
theorem wC {P:Program} {w:World} {b o n c:Nat} {xs:List Int} (h:qp w b o xs) (hn:xs.length=n):(Extern.Bytes.bytesOf (.slice (some ⟨b,o,none⟩) n c)).run P w=.ok ⟨(Lib.bytesOf xs).toArray⟩ w:=by
 have hl:=Lib.run_loadBytesX (P:=P) w xs ⟨b,o,none⟩ .empty (fun j x hj=>by
  have e:(⟨b,o,none⟩:Addr).add j=⟨b,o+j,none⟩:=by unfold Addr.add;split<;>simp_all
  rw[e,h j x hj])
 rw[hn]at hl;simp only[Extern.Bytes.bytesOf,hl]
 congr 1
 apply ByteArray.ext;show(#[]:Array UInt8)++(Lib.bytesOf xs).toArray=(Lib.bytesOf xs).toArray;simp
def IB (xs ys:List Int):Int:=Lib.compareBytes (Lib.bytesOf xs) (Lib.bytesOf ys)
theorem AG {P:Program} {w:World} {b o n c b' o' n' c':Nat} {xs ys:List Int} (h:qp w b o xs) (hn:xs.length=n) (h':qp w b' o' ys) (hn':ys.length=n') :
 (Extern.BytealgCompare.compare #[.slice (some ⟨b,o,none⟩) n c,.slice (some ⟨b',o',none⟩) n' c']).run P w=.ok (.int .i64 (IB xs ys)) w:=by
 change Sem.run P (do pure (goInt (Extern.BytealgCompare.cmp (<-Extern.Bytes.bytesOf (.slice (some ⟨b,o,none⟩) n c)) (<-Extern.Bytes.bytesOf (.slice (some ⟨b',o',none⟩) n' c'))))) w=_;simp only[Sem.run_bind,wC h hn,wC h' hn',Result.andThen_ok,Sem.run_pure,Lib.cmp_eq];rfl
set_option maxRecDepth 20000 in
theorem Ci {w:World} {b o n c b' o' n' c':Nat} {xs ys:List Int} (h:qp w b o xs) (hn:xs.length=n) (h':qp w b' o' ys) (hn':ys.length=n') :
 Calls Tryz.prog 200 #[.slice (some ⟨b,o,none⟩) n c,.slice (some ⟨b',o',none⟩) n' c'] w fun e w'=>e=.returned (.int .i64 (IB xs ys))/\Below w.heap.size w w':=by
 go_enter Tryz.func200,Tryz.ntmps200
 go_wp2
 rw[run_callFunc_extern Tryz.func208 (by kernel_rfl) (by kernel_rfl) (by kernel_rfl) (e:=Extern.BytealgCompare.compare) (by kernel_rfl),AG h hn h' hn'];simp only[Result.andThen];rw[Oper.upon_value]
 go_wp2
 go_ret
 exact⟨rfl,Below.refl _ _⟩
theorem RO {x y:Int} (hx:0<=x/\x<256) (hy:0<=y/\y<256):(UInt8.ofNat x.toNat<UInt8.ofNat y.toNat)=(x<y):=by
 rw[UInt8.lt_iff_toNat_lt,adf (by simp;omega),adf (by simp;omega)];exact propext ah
theorem IC:∀ (xs ys:List Int),xs.length=ys.length->ak xs->ak ys->IB xs ys=lex xs ys
 | [],[],_,_,_=>rfl
 | x::xs,y::ys,h,hx,hy=>by
  have ih:=IC xs ys (by simpa using h) (fun z hz=>hx z (by simp [hz])) (fun z hz=>hy z (by simp [hz]));unfold IB Lib.bytesOf at ih ⊢;simp only[aaC,Lib.compareBytes,lex,RO (hx x aF) (hy y aF),RO (hy y aF) (hx x aF),ih]
 | [],_::_,h,_,_=>by simp at h
 | _::_,[],h,_,_=>by simp at h
def oI:Sx.Spec where
 fn:=200
 own:=[]
 rd:=[0,1]
 res:=[.one (.int .i64)]
 pre:=fun xs Hs Rs=>∃ u v a b R1 R2,xs=[u,v]/\Rs=[R1,R2]/\nM R1 u a/\nM R2 v b/\a≠[]/\a.length=b.length/\ak a/\ak b
 post:=fun xs Hs Rs w Hs' F=>∃ u v a b R1 R2,xs=[u,v]/\Rs=[R1,R2]/\nM R1 u a/\nM R2 v b/\w=.int .i64 (lex a b)
theorem Rb {R:Hl} {w:World} (hs:R.sub w) {x y:Int} {bs:List Int} (h:∀ j z,bs[j]?=some z->R.cell x.toNat (y.toNat+j)=some (.int .u8 z)):qp w x.toNat y.toNat bs:=fun j z hz=>Hl.ie hs (h j z hz)
theorem Ai:oI.OK Tryz.prog:=by
 refine nP rfl fun w xs Rs hs ⟨u,v,a,b,R1,R2,e1,e2,h1,h2,hne,hl,hb1,hb2⟩=>?_;subst e1 e2;obtain⟨x,y,c,rfl,hy,h1'⟩:=id h1;obtain⟨x',y',c',rfl,hy',h2'⟩:=id h2;rcases h1' with ⟨_,h⟩ | ⟨hx,h1'⟩
 .exact absurd h hne
 rcases h2' with ⟨_,h⟩ | ⟨hx',h2'⟩
 .rw[h]at hl;exact absurd (aad.1 hl) hne
 refine⟨.int .i64 (lex a b),⟨(bc fun _=>lex a b),rfl,trivial,trivial⟩,?_,_,_,a,b,R1,R2,rfl,rfl,h1,h2,rfl⟩;rw[av hx,av hx',<-IC a b hl hb1 hb2];exact Ci (Rb (hs R1 aF) h1') rfl (Rb (hs R2 aF) h2') rfl
def tk:List Ck:=List.replicate 16 (.int .u8)
def oY:List Kd:=List.replicate 16 (.int .u8)
def ri (v:Value):List Int:=match v with
 | .agg a=>a.toList.map fun v=>ck (some v)
 | _=>[]
def Wc (xs:List Value):Prop:=∀ v∈xs,ak (ri v)
def Re (xs:List Value):Value:=match xs with
 | [a,b]=>.int .i64 (lex (ri a) (ri b))
 | _=>.int .i64 0
def Rq (xs:List Value):Value:=match xs with
 | [a,b]=>.bool (decide (lex (ri a) (ri b)<0))
 | _=>.bool false
def ID:Sx.Spec:=rJ 178 [.agg tk,.agg tk] [.one (.int .i64)] Wc Re
def Jb:Sx.Spec:=rJ 143 [.agg tk,.agg tk] [.one .bool] (fun _=>True) Rq
def UR:aG Tryz.prog [oI] 178 where
 Λ:=aC
 args:=(cn 0 [.agg tk,.agg tk]).map .sv
 mem:=[]
 nv:=32
def jR (q:Env) (n:Nat):List Int:=(List.range 16).map fun j=>q.i (n+j)
theorem Ih (q:Env):uD [.agg tk,.agg tk] q=[.agg ((jR q 0).map (Value.int .u8)).toArray,.agg ((jR q 16).map (Value.int .u8)).toArray]:=rfl
theorem gj (l:List Int):ri (.agg (l.map (Value.int .u8)).toArray)=l:=by
 show((l.map (Value.int .u8)).toArray.toList).map _=l;rw[abA];exact List.map_id'' (fun _=>rfl) l
theorem uY (z:Int):qO [.one (.int .i64)] (.int .i64 z):=⟨(bc fun _=>z),rfl,trivial,trivial⟩
theorem oB (b:Bool):qO [.one .bool] (.bool b):=⟨⟨fun _=>0,fun _=>b,fun _=>.empty,fun _=>.tuple #[],fun _=>Hl.none⟩,rfl,trivial,trivial⟩
theorem xA {q:Env} {l:List Int} {T:TypeId} {a o n:Nat} (h0:0<=q.i a) {cs:List CV} (hc:∀ j z,l[j]?=some z->(cs.map (CV.ev q))[o+j]?=some (.int .u8 z)) (hn:n=l.length) {c:Int} : nM ((bE.bw a cs T).hl q) (.slice (az (q.i a) (o:Int)) ((n:Int)).toNat c.toNat) l:=by
 subst hn;refine⟨q.i a,o,c.toNat,by rw[aaa],ah,Or.inr ⟨h0,fun j z hz=>?_⟩⟩;show(Hl.one (q.i a).toNat (.cells (cs.map (CV.ev q)).toArray T (0,0))).cell (q.i a).toNat _=_;unfold Hl.cell;rw[Hl.aX,aaa];show(cs.map (CV.ev q)).toArray[o+j]?=_;rw[abk];exact hc j z hz
theorem Z1:[oI][0]?=some oI:=rfl
theorem Z2:oI.res=[.one (.int .i64)]:=rfl
theorem Z0:(aJ 34 [Cp.one (.int .i64)]≠[])=False:=by simp [aJ,Cp.roots,Ck.root]
theorem BS {q q2:Env} (g:ai 32 q q2) {n:Nat} (hn:n+16<=32):(ar n tk).map (CV.ev q2)=(jR q n).map (Value.int .u8):=by
 show [Value.int .u8 (q2.i n),.int .u8 (q2.i (n+1)),.int .u8 (q2.i (n+2)),.int .u8 (q2.i (n+3)),.int .u8 (q2.i (n+4)),.int .u8 (q2.i (n+5)),.int .u8 (q2.i (n+6)),.int .u8 (q2.i (n+7)),.int .u8 (q2.i (n+8)),.int .u8 (q2.i (n+9)),.int .u8 (q2.i (n+10)),.int .u8 (q2.i (n+11)),.int .u8 (q2.i (n+12)),.int .u8 (q2.i (n+13)),.int .u8 (q2.i (n+14)),.int .u8 (q2.i (n+15))]=_;rw[g.i n,g.i (n+1),g.i (n+2),g.i (n+3),g.i (n+4),g.i (n+5),g.i (n+6),g.i (n+7),g.i (n+8),g.i (n+9),g.i (n+10),g.i (n+11),g.i (n+12),g.i (n+13),g.i (n+14),g.i (n+15)];rfl
theorem Mz:ID.OK Tryz.prog:=by
 refine j9 (Γ:=[oI]) (fun t ht=>by rw[aam]at ht;subst ht;exact Ai) UR rfl rfl rfl (fun q _ _=>?_) (fun q hq hN=>⟨fun _ _=>True,fun _ _=>0,?_⟩)
 .exact uY _
 .rw[Ih]at hN ⊢;have h1:ak (jR q 0):=by
   have:=hN _ (aaH ..);rwa[gj]at this
  have h2:ak (jR q 16):=by
   have:=hN _ (aar _ (aaH ..));rwa[gj]at this
  have eG:Re [.agg ((jR q 0).map (Value.int .u8)).toArray,.agg ((jR q 16).map (Value.int .u8)).toArray]=.int .i64 (lex (jR q 0) (jR q 16)):=by
   show Value.int .i64 (lex (ri _) (ri _))=_;rw[gj,gj]
  simp only[eG];refine aG.read [] [] [] ?_;simp only[go_sem,Nat.reduceAdd,Z1,Z2,Z0];intro q1 g1 p1 q2 g2 p2;have g:ai 32 q q2:=g1.tr g2;have c1:∀ j z,(jR q 0)[j]?=some z->((ar 0 tk).map (CV.ev q2))[0+j]?=some (.int .u8 z):=by
   rw[BS g ah];intro j z hz;rw[aaP,aao,hz];rfl
  have c2:∀ j z,(jR q 16)[j]?=some z->((ar 16 tk).map (CV.ev q2))[0+j]?=some (.int .u8 z):=by
   rw[BS g ah];intro j z hz;rw[aaP,aao,hz];rfl
  have p1':0<=q2.i 32:=by rw[g2.i 32];exact p1
  have r1:=xA (T:=61) (n:=16) (c:=16) p1' c1 rfl;have r2:=xA (T:=61) (n:=16) (c:=16) p2 c2 rfl;refine⟨⟨_,_,jR q 0,jR q 16,_,_,rfl,rfl,r1,r2,(by simp [jR]),rfl,h1,h2⟩,fun q3 g3 ⟨F,⟨u,v,a,b,R1,R2,hx,hR,ha,hb,hv⟩,_⟩=>?_⟩;simp only[aaf,aat]at hx hR;obtain⟨rfl,rfl⟩:=hx;obtain⟨rfl,rfl⟩:=hR;rw[<-ha.uniq r1,<-hb.uniq r2];exact hv
def Vs:aG Tryz.prog [] 143 where
 Λ:=aC
 args:=(cn 0 [.agg tk,.agg tk]).map .sv
 mem:=[]
 nv:=32
theorem S6 {a b:Int} {xs ys:List Int} (h:¬a=b):decide (a<b)=decide (lex (a::xs) (b::ys)<0):=by
 unfold lex;by_cases h1:a<b
 .simp [h1]
 .have h2:b<a:=ah;simp [h1,h2]
theorem S5 {a b:Int} {xs ys:List Int} (h:a=b):lex (a::xs) (b::ys)=lex xs ys:=by
 subst h;show(if a<a then _ else if a<a then _ else _)=_;rw[aal (adt _),aal (adt _)]
theorem jU {a b:Int} {xs ys:List Int} {u v:Value} {Y:Prop} (hu:u=.bool (decide (a<b))) (hv:v=.bool (decide (lex (a::xs) (b::ys)<0))) (h:v=.bool (decide (lex xs ys<0))->Y):(¬a=b->u=v)/\(a=b->Y) :=
 ⟨fun hn=>by rw[hu,hv,S6 hn],fun he=>h (by rw[hv,S5 he])⟩
theorem BR (q:Env) (n:Nat):jR q n=[q.i n,q.i (n+1),q.i (n+2),q.i (n+3),q.i (n+4),q.i (n+5),q.i (n+6),q.i (n+7),q.i (n+8),q.i (n+9),q.i (n+10),q.i (n+11),q.i (n+12),q.i (n+13),q.i (n+14),q.i (n+15)]:=rfl
theorem Nr:Jb.OK Tryz.prog:=by
 refine j9 (Γ:=[]) (fun t ht=>by cases ht) Vs rfl rfl rfl (fun q _ _=>?_) (fun q hq hN=>⟨fun _ _=>True,fun _ _=>0,?_⟩)
 .exact oB _
 .rw[Ih];have eG:Rq [.agg ((jR q 0).map (Value.int .u8)).toArray,.agg ((jR q 16).map (Value.int .u8)).toArray]=.bool (decide (lex (jR q 0) (jR q 16)<0)):=by
   show Value.bool (decide (lex (ri _) (ri _)<0))=_;rw[gj,gj]
  simp only[eG];refine aG.read [] [] [] ?_;simp only[go_sem,Nat.reduceAdd];intro q1 g1 p1 q2 g2 p2;have g:ai 32 q q2:=g1.tr g2;have e:∀ n,n+16<=32->jR q n=jR q2 n:=fun n hn=>aa7 fun j hj=>(g.i (n+j) (by have:=aaM.1 hj;omega)).symm;rw[e 0 ah,e 16 ah,BR,BR];generalize hV:Value.bool (decide (lex _ _<0))=V;have hV:=hV.symm;exact jU rfl hV fun h0=>jU rfl h0 fun h1=>jU rfl h1 fun h2=>jU rfl h2 fun h3=>jU rfl h3 fun h4=>jU rfl h4 fun h5=>jU rfl h5 fun h6=>jU rfl h6 fun h7=>jU rfl h7 fun h8=>jU rfl h8 fun h9=>jU rfl h9 fun h10=>jU rfl h10 fun h11=>jU rfl h11 fun h12=>jU rfl h12 fun h13=>jU rfl h13 fun h14=>jU rfl h14 fun h15=>(h15.trans rfl).symm
def Dn (T:List (List Int)):Prop:=T.length<=1000000/\∀ t∈T,t.length=16/\ak t
open Classical in
noncomputable def qg (f:FuncId):Sx.Spec where
 fn:=f
 own:=[]
 rd:=[0]
 res:=[.one .bool]
 pre:=fun xs Hs Rs=>∃ u R T,xs=[u]/\Rs=[R]/\bj R u oY (T.map aS)/\Dn T
 post:=fun xs Hs Rs v Hs' F=>∃ u R T,xs=[u]/\Rs=[R]/\bj R u oY (T.map aS)/\v=.bool (decide (lO T))
def H8:List Sx.Spec:=[oI,ID,Jb]
theorem JZ:∀ t∈H8,t.OK Tryz.prog:=au Ai <| au Mz <| au Nr <| bR
theorem sr1:ID.res=[.one (.int .i64)]:=rfl
theorem Zv:Jb.res=[.one .bool]:=rfl
theorem Zu (n:Nat):(aJ n [Cp.one (.int .i64)]≠[])=False:=by simp [aJ,Cp.roots,Ck.root]
theorem T3 (n:Nat):(aJ n [Cp.one .bool]≠[])=False:=by simp [aJ,Cp.roots,Ck.root]
def JY:List TV:=[.sv (.one (.sl (.var 0) (.var 1) (.var 2) (.var 3)))]
def yN:aG Tryz.prog H8 148 where
 Λ:=fun p=>if L9 p then some ⟨0,[(3,TI .i64 (.var 10))],[],12⟩else none
 args:=JY
 mem:=[.ro 4 [.var 0] false]
 nv:=5
def zN:aG Tryz.prog H8 103 where
 Λ:=fun p=>if L9 p then some ⟨0,[(3,TI .i64 (.var 10))],[],12⟩else none
 args:=JY
 mem:=[.ro 4 [.var 0] false]
 nv:=5
theorem RM {a b:List Int} (ha:a.length=16) (hb:b.length=16) (h1:ak a) (h2:ak b):(∃ q,kI 0 [.agg tk,.agg tk] q/\[.agg (aS a).toArray,.agg (aS b).toArray]=uD [.agg tk,.agg tk] q)/\Wc [.agg (aS a).toArray,.agg (aS b).toArray]:=by
 refine⟨⟨aM (a++b) false [],by simp [kI,IG,tk,bz,ji,bV,gJ,List.replicate],?_⟩,?_⟩
 .rw[Ih];have e1:jR (aM (a++b) false []) 0=a:=by
   apply aaL;intro j;unfold jR;rw[aao];by_cases hj:j<16
   .rw[aaD hj,aab ah];show some ((a++b).getD (0+j) 0)=_;rw[aaP,aan,aaG ah,aab ah];rfl
   .rw[aaq (by simp;omega),aaq ah];rfl
  have e2:jR (aM (a++b) false []) 16=b:=by
   apply aaL;intro j;unfold jR;rw[aao];by_cases hj:j<16
   .rw[aaD hj,aab ah];show some ((a++b).getD (16+j) 0)=_;rw[aan,aau ah,show 16+j-a.length=j by omega,aab ah];rfl
   .rw[aaq (by simp;omega),aaq ah];rfl
  rw[e1,e2];rfl
 .intro v hv;simp only[aas,aaA,abc]at hv;rcases hv with rfl | rfl
  .show ak (ri (.agg (a.map (Value.int .u8)).toArray));rw[gj];exact h1
  .show ak (ri (.agg (b.map (Value.int .u8)).toArray));rw[gj];exact h2
theorem BF {t:List Int} (h:t.length=16):bg (aS t) oY:=by
 match t,h with
 | [_,_,_,_,_,_,_,_,_,_,_,_,_,_,_,_],_=>exact⟨rfl,rfl,rfl,rfl,rfl,rfl,rfl,rfl,rfl,rfl,rfl,rfl,rfl,rfl,rfl,rfl,trivial⟩
theorem vg {R:Hl} {x y:Int} {T:List (List Int)} (hx:0<=x) (hy:0<=y) (hc:∀ (i:Nat) row,(T.map aS)[i]?=some row->bg row oY/\∀ j u,row[j]?=some u->R.cell x.toNat (y.toNat+i*oY.length+j)=some u) {i:Nat} {t:List Int} (ht:T[i]?=some t) (hl:t.length=16) {J:Env} {h:Nat} (hR:J.h h=R) {X Y:E} (hX:aA J X=x) (hY:aA J Y=y+i*16) :
 bx R x.toNat (y+(i:Int)*16).toNat (Int.toNat 16)=true/\(ba h X Y 0 (List.replicate 16 (Kd.int .u8))).map (CV.ev J)=aS t:=by
 have h1:=(hc i (aS t) (by rw[aao,ht];rfl)).2;have hlen:oY.length=16:=rfl;rw[hlen]at h1;have hyi:(y+(i:Int)*16).toNat=y.toNat+i*16:=ah;constructor
 .unfold bx;rw[aaE];intro j hj;have hj:j<16:=aaM.1 hj;rw[hyi,h1 j (.int .u8 (t[j])) (by unfold aS;rw[aao,aab ah];rfl)];rfl
 .refine fC (aS t) _ 0 (BF hl) fun j u hu=>?_;rw[hR,hX,hY,hyi,aaP];exact h1 j u hu
theorem Kr {a b:List Int} {v:Value} {F:Hl} {Hs Rs K:List Hl} (hp:ID.post [.agg (aS a).toArray,.agg (aS b).toArray] Hs Rs v K F):v=.int .i64 (lex a b):=by
 have hp:v=.int .i64 (lex (ri (.agg (a.map (Value.int .u8)).toArray)) (ri (.agg (b.map (Value.int .u8)).toArray))):=hp;rw[gj,gj]at hp;exact hp
theorem KQ {a b:List Int} {v:Value} {F:Hl} {Hs Rs K:List Hl} (hp:Jb.post [.agg (aS a).toArray,.agg (aS b).toArray] Hs Rs v K F):v=.bool (decide (lex a b<0)):=by
 have hp:v=.bool (decide (lex (ri (.agg (a.map (Value.int .u8)).toArray)) (ri (.agg (b.map (Value.int .u8)).toArray))<0)):=hp;rw[gj,gj]at hp;exact hp
open Classical in
theorem ue {f:FuncId} {x y:Int} {c:Nat} {T:List (List Int)} {R:Hl} {b:Bool} (h:bj R (.slice (az x y) (T.map aS).length c) oY (T.map aS)) (hb:b=true↔lO T) {q:Env} {e:E} (he:bd q e=b) {mem:Mem} : postOf (qg f) [.slice (az x y) (T.map aS).length c] [] [R] q mem (.sv (.one (.bool e))):=by
 intro _;refine⟨[],[],rfl,rfl,⟨⟨fun _=>0,fun _=>b,fun _=>.empty,fun _=>.tuple #[],fun _=>Hl.none⟩,by show Value.bool (bd q e)=_;rw[he];rfl,trivial,trivial⟩,_,R,T,rfl,rfl,h,?_⟩;show Value.bool (bd q e)=_;rw[he]
 congr 1
 rw[ab9,aag];exact hb
theorem Bb:(qg 148).OK Tryz.prog:=by
 refine Spec.aT (Γ:=H8) JZ ?_;rintro xs Hs Rs hl1 hl2 ⟨u,R,T,rfl,rfl,hR,hT⟩;have e0:Hs=[]:=aad.1 hl1;subst e0;obtain⟨x,y,c,rfl,hy,hrows⟩:=id hR;refine⟨yN,aM [x,y,T.length,c] false [Hl.none,Hl.none,Hl.none,Hl.none,R],fun _ q=>∃ i:Nat,q.i 10=i/\1<=i/\i<=T.length+1/\∀ k,k+1<i->k+1<T.length->lex (T.getD k []) (T.getD (k+1) [])<0,fun _ q=>(T.length-q.i 10).toNat,?_,⟨?_,?_,?_,?_⟩,(fun _ h=>nomatch h),?_⟩
 .rw[aaB];show [Value.slice (az x y) ((T.length:Int)).toNat ((c:Int)).toNat]=_;rw[aaa,aaa]
 .intro r hr ho;simp [yN]at hr;subst hr;cases ho
 .intro r hr ho;simp [yN]at hr;subst hr;exact⟨R,aF,Hl.le_refl _⟩
 .simp [yN]
 .intro r hr;simp [yN]at hr;subst hr;trivial
 .refine aG.read [] [] [] ?_;generalize hρ:aM [x,y,T.length,c] false [Hl.none,Hl.none,Hl.none,Hl.none,R]=J;have v0:J.i 0=x:=by rw[<-hρ];rfl
  have v1:J.i 1=y:=by rw[<-hρ];rfl
  have v2:J.i 2=T.length:=by rw[<-hρ];rfl
  have w4:J.h 4=R:=by rw[<-hρ];rfl
  clear hρ;simp only[go_sem,Nat.reduceAdd,H8,sr1,Zu];refine⟨⟨1,rfl,aav _,ah,fun k h=>ah⟩,fun q g ⟨i,ei,hi1,hi2,hlt⟩=>?_⟩;have hTl:=hT.1;rw[g.i 2,v2,ei,g.i 0,v0,g.i 1,v1,g.h 4,w4];have ew:IntKind.i64.wrap ((i:Int)-1)=((i-1:Nat):Int):=by rw[IntWalk.i64_in _ ah];omega
  rw[ew];refine⟨ah,fun h=>?_,fun h=>?_⟩
  .have hiT:i<T.length:=ah;rcases hrows with hn | ⟨hx,hc⟩
   .rw[abJ]at hn;rw[hn]at hiT;cases hiT
   have ht1:T[i-1]?=some (T[i-1]):=aab ah;have ht2:T[i]?=some (T[i]):=aab hiT;have m1:=hT.2 _ (aae ht1);have m2:=hT.2 _ (aae ht2);obtain⟨b1,r1⟩:=vg (J:=q) (h:=4) (X:=.var 0) (Y:=(E.var 1).add ((E.wrap IntKind.i64 ((E.var 10).sub (E.lit 1))).mul (E.lit 16))) hx hy hc ht1 m1.1 (by rw[g.h 4,w4]) (by rw[al,g.i 0,v0]) (by
    simp only[bL,cJ,bP,dm,al,aq];rw[g.i 1,v1,ei,ew])
   obtain⟨b2,r2⟩:=vg (J:=q) (h:=4) (X:=.var 0) (Y:=(E.var 1).add ((E.var 10).mul (E.lit 16))) hx hy hc ht2 m2.1 (by rw[g.h 4,w4]) (by rw[al,g.i 0,v0]) (by
    simp only[bL,cJ,al,aq];rw[g.i 1,v1,ei])
   rw[r1,r2];refine⟨hx,hy,ah,ah,b1,ah,b2,RM m1.1 m2.1 m1.2 m2.2,fun q1 g1 ⟨F,hp,_⟩=>?_⟩;have hv:=Kr hp;have hv:q1.i 12=lex T[i-1] T[i]:=by simpa using hv
   have d1:T.getD (i-1) []=T[i-1]:=by rw[aan,ht1];rfl
   have d2:T.getD (i-1+1) []=T[i]:=by rw[show i-1+1=i by omega,aan,ht2];rfl
   have ew2:IntKind.i64.wrap (q1.i 10+1)=((i+1:Nat):Int):=by rw[g1.i 10,ei,IntWalk.i64_in _ ah];omega
   rw[hv];refine⟨fun hge=>ue (b:=false) hR ⟨aF,fun hS=>?_⟩ rfl,fun hl=>⟨⟨i+1,ew2,ah,ah,fun k hk hkT=>?_⟩,?_⟩⟩
   .have:=hS (i-1) ah;rw[d1,d2]at this;omega
   .rcases aba (k+1) i with h1 | h1
    .exact hlt k h1 hkT
    .obtain rfl:k=i-1:=ah;rw[d1,d2];omega
   .show((T.length:Int)-IntKind.i64.wrap (q1.i 10+1)).toNat<_;rw[ew2];omega
  .exact ue (b:=true) hR ⟨fun _ k hk=>hlt k ah hk,fun _=>rfl⟩ rfl
theorem Lk:(qg 103).OK Tryz.prog:=by
 refine Spec.aT (Γ:=H8) JZ ?_;rintro xs Hs Rs hl1 hl2 ⟨u,R,T,rfl,rfl,hR,hT⟩;have e0:Hs=[]:=aad.1 hl1;subst e0;obtain⟨x,y,c,rfl,hy,hrows⟩:=id hR;refine⟨zN,aM [x,y,T.length,c] false [Hl.none,Hl.none,Hl.none,Hl.none,R],fun _ q=>∃ i:Nat,q.i 10=i/\i<=T.length/\∀ k,k<i->k+1<T.length->lex (T.getD k []) (T.getD (k+1) [])<0,fun _ q=>(T.length-q.i 10).toNat,?_,⟨?_,?_,?_,?_⟩,(fun _ h=>nomatch h),?_⟩
 .rw[aaB];show [Value.slice (az x y) ((T.length:Int)).toNat ((c:Int)).toNat]=_;rw[aaa,aaa]
 .intro r hr ho;simp [zN]at hr;subst hr;cases ho
 .intro r hr ho;simp [zN]at hr;subst hr;exact⟨R,aF,Hl.le_refl _⟩
 .simp [zN]
 .intro r hr;simp [zN]at hr;subst hr;trivial
 .refine aG.read [] [] [] ?_;generalize hρ:aM [x,y,T.length,c] false [Hl.none,Hl.none,Hl.none,Hl.none,R]=J;have v0:J.i 0=x:=by rw[<-hρ];rfl
  have v1:J.i 1=y:=by rw[<-hρ];rfl
  have v2:J.i 2=T.length:=by rw[<-hρ];rfl
  have w4:J.h 4=R:=by rw[<-hρ];rfl
  clear hρ;simp only[go_sem,Nat.reduceAdd,H8,Zv,T3];refine⟨⟨0,rfl,ah,fun k h=>ah⟩,fun q g ⟨i,ei,hi2,hlt⟩=>?_⟩;have hTl:=hT.1;rw[g.i 2,v2,ei,g.i 0,v0,g.i 1,v1,g.h 4,w4];have ew:IntKind.i64.wrap ((i:Int)+1)=((i+1:Nat):Int):=by rw[IntWalk.i64_in _ ah];omega
  rw[ew];refine⟨ah,fun h=>?_,fun h=>?_⟩
  .have hiT:i+1<T.length:=ah;rcases hrows with hn | ⟨hx,hc⟩
   .rw[abJ]at hn;rw[hn]at hiT;cases hiT
   have ht1:T[i]?=some (T[i]):=aab ah;have ht2:T[i+1]?=some (T[i+1]):=aab hiT;have m1:=hT.2 _ (aae ht1);have m2:=hT.2 _ (aae ht2);obtain⟨b1,r1⟩:=vg (J:=q) (h:=4) (X:=.var 0) (Y:=(E.var 1).add ((E.var 10).mul (E.lit 16))) hx hy hc ht1 m1.1 (by rw[g.h 4,w4]) (by rw[al,g.i 0,v0]) (by
    simp only[bL,cJ,al,aq];rw[g.i 1,v1,ei])
   obtain⟨b2,r2⟩:=vg (J:=q) (h:=4) (X:=.var 0) (Y:=(E.var 1).add ((E.wrap IntKind.i64 ((E.var 10).add (E.lit 1))).mul (E.lit 16))) hx hy hc ht2 m2.1 (by rw[g.h 4,w4]) (by rw[al,g.i 0,v0]) (by
    simp only[bL,cJ,bP,al,aq];rw[g.i 1,v1,ei,ew])
   rw[r1,r2];refine⟨hx,hy,ah,ah,b1,ah,b2,⟨(RM m1.1 m2.1 m1.2 m2.2).1,trivial⟩,fun q1 g1 ⟨F,hp,_⟩=>?_⟩;have hv:=KQ hp;have hv:q1.b 12=decide (lex T[i] T[i+1]<0):=by simpa [bq] using hv
   have d1:T.getD i []=T[i]:=by rw[aan,ht1];rfl
   have d2:T.getD (i+1) []=T[i+1]:=by rw[aan,ht2];rfl
   have ew2:IntKind.i64.wrap (q1.i 10+1)=((i+1:Nat):Int):=by rw[g1.i 10,ei,ew]
   rw[hv,aag];refine⟨fun hge=>ue (b:=false) hR ⟨aF,fun hS=>?_⟩ rfl,fun hl=>⟨⟨i+1,ew2,ah,fun k hk hkT=>?_⟩,?_⟩⟩
   .have:=hS i ah;rw[d1,d2]at this;exact absurd this hge
   .rcases aba k i with h1 | h1
    .exact hlt k h1 hkT
    .obtain rfl:k=i:=ah;rw[d1,d2];exact hl
   .show((T.length:Int)-IntKind.i64.wrap (q1.i 10+1)).toNat<_;rw[ew2];omega
  .exact ue (b:=true) hR ⟨fun _ k hk=>hlt k ah hk,fun _=>rfl⟩ rfl
end Go.Proofs.YtomdimlnggpgbaaGreatDoor
namespace Go.Proofs.YtomdimlnggpgbaaGreatDoor
open Go Go.Sx Go.Pk
def i64:Ck:=.int .i64
def bU:List Ck:=[i64,.int .u64]++List.replicate 32 (.int .u8)++[i64,.bool,.int .u64]++List.replicate 16 (.int .u8)++[.sl]++List.replicate 6 (.int .u64)++List.replicate 32 (.int .u8)++[i64]++List.replicate 32 (.int .u8)
def dZ:List Kd:=bU.map jZ
def cI (l:List Value) (k:Nat):Int:=ck l[k]?
def cB (l:List Value) (k:Nat):Bool:=AJ l[k]?
def hZ (z:Int):Prop:=z=64\/z=128\/z=256\/z=512\/z=1024\/z=2048
instance (z:Int):Decidable (hZ z):=by unfold hZ;exact inferInstance
def Kl (z:Int):Int:=if z<64 then 64 else if z<128 then 128 else if z<256 then 256 else if z<512 then 512 else if z<1024 then 1024 else if z<2048 then 2048 else 0
def jT (z:Int):Prop:= -9223372036854775808<=z/\z<9223372036854775808
def VI (xs:List Value):Value:=.bool (decide (hZ (ck xs[0]?)))
def Tu:Sx.Spec:=rJ 149 [.one i64] [.one .bool] (fun xs=>jT (ck xs[0]?)) VI
def Rc (xs:List Value):Value:=.int .i64 (Kl (ck xs[0]?))
def Mp:Sx.Spec:=rJ 104 [.one i64] [.one i64] (fun _=>True) Rc
def XZ:aG Tryz.prog [] 149 where
 Λ:=aC
 args:=(cn 0 [.one i64]).map .sv
 mem:=[]
 nv:=1
def Ux:aG Tryz.prog [] 104 where
 Λ:=aC
 args:=(cn 0 [.one i64]).map .sv
 mem:=[]
 nv:=1
theorem LY {z:Int} (h:jT z):IntKind.i64.wrap (z-1)=z-1\/IntKind.i64.wrap (z-1)=9223372036854775807/\z= -9223372036854775808:=by
 unfold jT at h;by_cases h1:z= -9223372036854775808
 .right;subst h1;exact⟨aB,rfl⟩
 .left;exact IntWalk.i64_in _ ah
theorem vF {b:Bool} {p:Prop} {_:Decidable p} (h:b=true↔p):Value.bool b=.bool (decide p):=by
 congr 1
 rw[ab9,aag];exact h
theorem Qs:Tu.OK Tryz.prog:=by
 refine j9 (Γ:=[]) (fun t ht=>by cases ht) XZ rfl rfl rfl (fun q _ _=>oB _) (fun q hq hN=>⟨fun _ _=>True,fun _ _=>0,?_⟩);have hN:jT (q.i 0):=hN;have eG:VI (uD [.one i64] q)=.bool (decide (hZ (q.i 0))):=rfl;simp only[eG];refine aG.read [] [] [] ?_;simp only[go_sem,Nat.reduceAdd,cE,c8];have hw:=LY hN;generalize IntKind.i64.wrap (q.i 0-1)=y at hw ⊢;have lf:∀ {m:Int},(m=q.i 0↔hZ (q.i 0))->Value.bool (bd q (.eq (.lit m) (.var 0)))=.bool (decide (hZ (q.i 0))):=fun {m} h=>vF (by rw[gF,aq,al];exact h);have ff:¬hZ (q.i 0)->Value.bool false=.bool (decide (hZ (q.i 0))):=fun h=>vF ⟨fun e=>(by cases e),fun e=>absurd e h⟩;unfold hZ at lf ff ⊢;exact⟨fun h=>ff ah,fun h0=>⟨fun h=>lf ah,fun h1=>⟨fun h=>lf ah,fun h2=>⟨fun h=>lf ah,fun h3=>⟨fun h=>lf ah,fun h4=>⟨fun h=>lf ah,fun h5=>⟨fun h=>lf ah,fun h6=>ff ah⟩⟩⟩⟩⟩⟩⟩
theorem Mq:Mp.OK Tryz.prog:=by
 refine j9 (Γ:=[]) (fun t ht=>by cases ht) Ux rfl rfl rfl (fun q _ _=>uY _) (fun q hq hN=>⟨fun _ _=>True,fun _ _=>0,?_⟩);have eG:Rc (uD [.one i64] q)=.int .i64 (Kl (q.i 0)):=rfl;simp only[eG];refine aG.read [] [] [] ?_;simp only[go_sem,Nat.reduceAdd];intro q1 g1 _;rw[g1.i 0];unfold Kl;exact⟨fun h=>by rw[aax h],fun h0=>⟨fun h=>by rw[aal h0,aax h],fun h1=>⟨fun h=>by rw[aal h0,aal h1,aax h],fun h2=>⟨fun h=>by rw[aal h0,aal h1,aal h2,aax h],fun h3=>⟨fun h=>by rw[aal h0,aal h1,aal h2,aal h3,aax h],fun h4=>⟨fun h=>by rw[aal h0,aal h1,aal h2,aal h3,aal h4,aax h],fun h5=>by rw[aal h0,aal h1,aal h2,aal h3,aal h4,aal h5]⟩⟩⟩⟩⟩⟩
def sG (f:Nat->Int):Nat->Nat->Prop
 | _,0=>True
 | n,1=>f n=0
 | n,k+2=>f n=0/\sG f (n+1) (k+1)
theorem DC {f:Nat->Int} : ∀ (k n:Nat),sG f n k↔∀ j,j<k->f (n+j)=0
 | 0,n=>⟨fun _ j h=>ah,fun _=>trivial⟩
 | 1,n=>⟨fun h j hj=>(by cases j with
  | zero=>exact h
  | succ j=>omega),fun h=>h 0 ah⟩
 | k+2,n=>by
  show(f n=0/\sG f (n+1) (k+1))↔_;rw[DC (k+1) (n+1)];constructor
  .rintro⟨h0,h⟩ j hj;cases j with
   | zero=>exact h0
   | succ j=>have:=h j ah;rwa[show n+1+j=n+(j+1)by omega]at this
  .exact fun h=>⟨h 0 ah,fun j hj=>by have:=h (j+1) ah;rwa[show n+(j+1)=n+1+j by omega]at this⟩
instance zerDec (f:Nat->Int):∀ (k n:Nat),Decidable (sG f n k)
 | 0,_=>isTrue trivial
 | 1,n=>(inferInstance:Decidable (f n=0))
 | k+2,n=>have:=zerDec f (k+1) (n+1);(inferInstance:Decidable (f n=0/\sG f (n+1) (k+1)))
def dq (l:List Value):Prop:=(1<=cI l 0/\cI l 0<=6)/\(1<=cI l 1/\cI l 1<=1048576)/\(0<=cI l 34/\cI l 34<=255)/\cI l 36<=1099511627776/\cI l (54+(cI l 0-1).toNat)=cI l 1-1/\(cI l 54<=1048576/\cI l 55<=1048576/\cI l 56<=1048576/\cI l 57<=1048576/\cI l 58<=1048576/\cI l 59<=1048576)/\(1<cI l 1\/sG (cI l) 2 32)
instance (l:List Value):Decidable (dq l):=by unfold dq;exact inferInstance
def Ys (v:Value):List Value:=match v with
 | .agg a=>a.toList
 | _=>[]
def Ju (xs:List Value):Value:=.bool (decide (dq (Ys (xs.getD 0 (.bool false)))))
def CU:Sx.Spec:=rJ 147 [.agg bU] [.one .bool] (fun _=>True) Ju
def Qu:aG Tryz.prog [] 147 where
 Λ:=aC
 args:=(cn 0 [.agg bU]).map .sv
 mem:=[]
 nv:=128
def aD (q:Env) (n:Nat):List Value:=(ar n bU).map (CV.ev q)
theorem EC (q:Env) (h:1<=q.i 0/\q.i 0<=6):cI (aD q 0) (54+(q.i 0-1).toNat)=if q.i 0-1=0 then q.i 57 else if q.i 0-1=1 then q.i 58 else if q.i 0-1=2 then q.i 59 else if q.i 0-1=3 then q.i 60 else if q.i 0-1=4 then q.i 61 else q.i 62:=by
 have:q.i 0=1\/q.i 0=2\/q.i 0=3\/q.i 0=4\/q.i 0=5\/q.i 0=6:=ah;rcases this with e | e | e | e | e | e<;>rw[e]<;>rfl
theorem cD {q q1:Env} (g:ai 128 q q1):aD q1 0=aD q 0:=by
 have h:=ft (n:=0) (ks:=bU) g (ab3 (by kernel_rfl));exact aaI (Value.agg.inj h)
theorem Hy:CU.OK Tryz.prog:=by
 refine j9 (Γ:=[]) (fun t ht=>by cases ht) Qu rfl rfl rfl (fun q _ _=>oB _) (fun q hq hN=>⟨fun _ _=>True,fun _ _=>0,?_⟩);have eG:Ju (uD [.agg bU] q)=.bool (decide (dq (aD q 0))):=rfl;simp only[eG];refine aG.read [] [] [] ?_;simp only[go_sem,Nat.reduceAdd,cE,c8];intro q1 g1 _;rw[<-cD g1];clear g1;have eP:dq (aD q1 0)↔((1<=q1.i 0/\q1.i 0<=6)/\(1<=q1.i 1/\q1.i 1<=1048576)/\(0<=q1.i 34/\q1.i 34<=255)/\q1.i 36<=1099511627776/\cI (aD q1 0) (54+(q1.i 0-1).toNat)=q1.i 1-1/\(q1.i 57<=1048576/\q1.i 58<=1048576/\q1.i 59<=1048576/\q1.i 60<=1048576/\q1.i 61<=1048576/\q1.i 62<=1048576)/\(1<q1.i 1\/sG (cI (aD q1 0)) 2 32)):=adg;have eK:=EC q1;have eZ:bd q1 (.and (.eq (.var 2) (.lit 0)) (.and (.eq (.var 3) (.lit 0)) (.and (.eq (.var 4) (.lit 0)) (.and (.eq (.var 5) (.lit 0)) (.and (.eq (.var 6) (.lit 0)) (.and (.eq (.var 7) (.lit 0)) (.and (.eq (.var 8) (.lit 0)) (.and (.eq (.var 9) (.lit 0)) (.and (.eq (.var 10) (.lit 0)) (.and (.eq (.var 11) (.lit 0)) (.and (.eq (.var 12) (.lit 0)) (.and (.eq (.var 13) (.lit 0)) (.and (.eq (.var 14) (.lit 0)) (.and (.eq (.var 15) (.lit 0)) (.and (.eq (.var 16) (.lit 0)) (.and (.eq (.var 17) (.lit 0)) (.and (.eq (.var 18) (.lit 0)) (.and (.eq (.var 19) (.lit 0)) (.and (.eq (.var 20) (.lit 0)) (.and (.eq (.var 21) (.lit 0)) (.and (.eq (.var 22) (.lit 0)) (.and (.eq (.var 23) (.lit 0)) (.and (.eq (.var 24) (.lit 0)) (.and (.eq (.var 25) (.lit 0)) (.and (.eq (.var 26) (.lit 0)) (.and (.eq (.var 27) (.lit 0)) (.and (.eq (.var 28) (.lit 0)) (.and (.eq (.var 29) (.lit 0)) (.and (.eq (.var 30) (.lit 0)) (.and (.eq (.var 31) (.lit 0)) (.and (.eq (.var 32) (.lit 0)) (.eq (.var 33) (.lit 0)))))))))))))))))))))))))))))))))=true↔sG (cI (aD q1 0)) 2 32:=by
  simp only[jK,gF,al,aq];exact adg
 have ff:¬dq (aD q1 0)->Value.bool false=.bool (decide (dq (aD q1 0))):=fun h=>vF ⟨fun e=>(by cases e),fun e=>absurd e h⟩;have tt:dq (aD q1 0)->Value.bool true=.bool (decide (dq (aD q1 0))):=fun h=>vF ⟨fun _=>h,fun _=>rfl⟩;have zz:(sG (cI (aD q1 0)) 2 32↔dq (aD q1 0))->Value.bool (bd q1 (.and (.eq (.var 2) (.lit 0)) (.and (.eq (.var 3) (.lit 0)) (.and (.eq (.var 4) (.lit 0)) (.and (.eq (.var 5) (.lit 0)) (.and (.eq (.var 6) (.lit 0)) (.and (.eq (.var 7) (.lit 0)) (.and (.eq (.var 8) (.lit 0)) (.and (.eq (.var 9) (.lit 0)) (.and (.eq (.var 10) (.lit 0)) (.and (.eq (.var 11) (.lit 0)) (.and (.eq (.var 12) (.lit 0)) (.and (.eq (.var 13) (.lit 0)) (.and (.eq (.var 14) (.lit 0)) (.and (.eq (.var 15) (.lit 0)) (.and (.eq (.var 16) (.lit 0)) (.and (.eq (.var 17) (.lit 0)) (.and (.eq (.var 18) (.lit 0)) (.and (.eq (.var 19) (.lit 0)) (.and (.eq (.var 20) (.lit 0)) (.and (.eq (.var 21) (.lit 0)) (.and (.eq (.var 22) (.lit 0)) (.and (.eq (.var 23) (.lit 0)) (.and (.eq (.var 24) (.lit 0)) (.and (.eq (.var 25) (.lit 0)) (.and (.eq (.var 26) (.lit 0)) (.and (.eq (.var 27) (.lit 0)) (.and (.eq (.var 28) (.lit 0)) (.and (.eq (.var 29) (.lit 0)) (.and (.eq (.var 30) (.lit 0)) (.and (.eq (.var 31) (.lit 0)) (.and (.eq (.var 32) (.lit 0)) (.eq (.var 33) (.lit 0))))))))))))))))))))))))))))))))))=.bool (decide (dq (aD q1 0))):=fun h=>vF (eZ.trans h);generalize Value.bool (decide (dq (aD q1 0)))=V at ff tt zz ⊢;rw[eP]at ff tt zz;clear eP eZ;refine⟨fun h=>ff ah,fun h0=>⟨fun h=>ff ah,fun h1=>?_⟩⟩;have eK:=eK ah;have w0:IntKind.i64.wrap (q1.i 0-1)=q1.i 0-1:=IntWalk.i64_in _ ah;rw[w0];rw[<-eK];generalize cI (aD q1 0) (54+(q1.i 0-1).toNat)=K at ff tt zz ⊢;generalize sG (cI (aD q1 0)) 2 32=Z at ff tt zz;refine⟨fun h=>ff ah,fun h2=>⟨fun h=>ff ah,fun h3=>?_⟩⟩;have w1:IntKind.u64.wrap (q1.i 1-1)=q1.i 1-1:=nL ah ah;rw[w1];refine⟨fun h=>ff ah,fun h4=>⟨fun h=>ff ah,fun h5=>⟨fun h=>ff ah,fun h6=>⟨ah,ah,fun h=>ff ah,fun h7=>?_⟩⟩⟩⟩;refine⟨fun h=>ff ah,fun k0=>⟨fun h=>ff ah,fun k1=>⟨fun h=>ff ah,fun k2=>⟨fun h=>ff ah,fun k3=>⟨fun h=>ff ah,fun k4=>⟨fun h=>ff ah,fun k5=>⟨fun h=>zz ⟨fun z=>?_,fun z=>?_⟩,fun h=>tt ?_⟩⟩⟩⟩⟩⟩⟩
 .exact⟨ah,ah,ah,ah,h7,ah,Or.inr z⟩
 .rcases z.2.2.2.2.2.2 with z | z
  .omega
  .exact z
 .exact⟨ah,ah,ah,ah,h7,ah,Or.inl h⟩
def wY:Value->Prop
 | .int .u8 z=>0<=z/\z<256
 | .int .u64 z=>0<=z/\z<18446744073709551616
 | .int .i64 z=>jT z
 | _=>True
structure Hd where
 c:List Value
 t:List (List Int)
def Hd.Form (h:Hd):Prop:=dq h.c/\h.t.length<=8/\lO h.t/\hZ (cI h.c 92-16)/\(cB h.c 35=true->h.t=[]/\sG (cI h.c) 37 16)
structure bN (R:Hl) (row:List Value) (h:Hd):Prop where
 ok:bg row dZ
 rng:∀ v∈row,wY v
 core:h.c=row.set 53 (.bool false)
 tok:bj R (row.getD 53 (.bool false)) oY (h.t.map aS)
 byte:Dn h.t
theorem gL {R R':Hl} {v:Value} {ks:List Kd} {rows:List (List Value)} (h:bj R v ks rows) (hl:R.le R'):bj R' v ks rows:=by
 obtain⟨x,y,c,e,hy,h⟩:=h;refine⟨x,y,c,e,hy,h.imp id fun⟨hx,h⟩=>⟨hx,fun i row hr=>⟨(h i row hr).1,fun j u hu=>?_⟩⟩⟩;have hc:=(h i row hr).2 j u hu;unfold Hl.cell at hc ⊢;cases hR:R x.toNat with
 | none=>rw[hR]at hc;cases hc
 | some o=>rw[hl _ _ hR];rw[hR]at hc;exact hc
theorem bN.mono {R R':Hl} {row:List Value} {h:Hd} (x:bN R row h) (hl:R.le R'):bN R' row h:=⟨x.ok,x.rng,x.core,gL x.tok hl,x.byte⟩
theorem jb:∀ {a b:List (List Int)},a.map aS=b.map aS->a=b
 | [],[],_=>rfl
 | [],_::_,h=>by cases h
 | _::_,[],h=>by cases h
 | u::a,v::b,h=>by
  simp only[aaC,aaf]at h;rw[jX h.1,jb h.2]
theorem bN.uniq {R:Hl} {row:List Value} {h h':Hd} (x:bN R row h) (y:bN R row h'):h=h':=by
 obtain⟨c,t⟩:=h;obtain⟨c',t'⟩:=h';have e1:c=c':=x.core.trans y.core.symm;have e3:t=t':=jb (x.tok.uniq y.tok);rw[e1,e3]
theorem Sr {row:List Value} {k:Nat} (h:k≠53):cI (row.set 53 (.bool false)) k=cI row k:=by
 unfold cI;rw[abg ah]
theorem Sq {row:List Value} {k:Nat} (h:k≠53):cB (row.set 53 (.bool false)) k=cB row k:=by
 unfold cB;rw[abg ah]
theorem bN.I {R:Hl} {row:List Value} {h:Hd} (x:bN R row h) {k:Nat} (hk:k≠53):cI h.c k=cI row k:=by rw[x.core,Sr hk]
theorem bN.B {R:Hl} {row:List Value} {h:Hd} (x:bN R row h) {k:Nat} (hk:k≠53):cB h.c k=cB row k:=by rw[x.core,Sq hk]
theorem vo {f g:Nat->Int} {n k:Nat} (h:∀ j,j<k->f (n+j)=g (n+j)):sG f n k↔sG g n k:=by
 rw[DC,DC];exact⟨fun hf j hj=>by rw[<-h j hj];exact hf j hj,fun hg j hj=>by rw[h j hj];exact hg j hj⟩
theorem bN.form {R:Hl} {row:List Value} {h:Hd} (x:bN R row h):h.Form↔(dq row/\h.t.length<=8/\lO h.t/\hZ (cI row 92-16)/\(cB row 35=true->h.t=[]/\sG (cI row) 37 16)):=by
 have e1:dq h.c↔dq row:=by
  unfold dq;have hz:sG (cI h.c) 2 32↔sG (cI row) 2 32:=vo fun j hj=>x.I ah;have hk:cI h.c (54+(cI row 0-1).toNat)=cI row (54+(cI row 0-1).toNat):=x.I ah;rw[x.I (k:=0) aB,x.I (k:=1) aB,x.I (k:=34) aB,x.I (k:=36) aB,x.I (k:=54) aB,x.I (k:=55) aB,x.I (k:=56) aB,x.I (k:=57) aB,x.I (k:=58) aB,x.I (k:=59) aB,hz,hk]
 have e2:sG (cI h.c) 37 16↔sG (cI row) 37 16:=vo fun j hj=>x.I ah;unfold Hd.Form;rw[e1,e2,x.I (k:=92) aB,x.B (k:=35) aB]
theorem lY {R:Hl} {row:List Value} (h:bg row dZ):∃ q:Env,row=aD q 0/\q.h 130=R/\bz 0 bU q/\0<=q.i 54/\0<=q.i 55/\0<=q.i 56:=by
 obtain⟨q,_,hn,e⟩:=dr bU 0 row (bc fun _=>0) h;have hs:∀ (a b:List Ck) (n:Nat),bz n (a++b) q->bz (n+aY a) b q:=by
  intro a
  induction a with
  | nil=>intro b n h;simpa [aY] using h
  | cons k a ih =>
   intro b n h;have:=ih b (n+k.len) h.2;rw[show n+k.len+aY a=n+aY (k::a)by simp [aY];omega]at this;exact this
 have hn0:=hn;have hn:bz 0 (bU.take 53++(.sl::bU.drop 54)) q:=hn;have hs:=(hs (bU.take 53) (.sl::bU.drop 54) 0 hn).1;exact⟨⟨q.i,q.b,q.s,q.v,fun k=>if k=130 then R else Hl.none⟩,e.symm,rfl,hn0,hs.2.1,hs.2.2.1,hs.2.2.2⟩
open Classical in
noncomputable def gK (f:FuncId):Sx.Spec where
 fn:=f
 own:=[]
 rd:=[10053]
 res:=[.one .bool]
 pre:=fun xs Hs Rs=>∃ row R h,xs=[.agg row.toArray]/\Rs=[R]/\bN R row h
 post:=fun xs Hs Rs v Hs' F=>∃ row R h,xs=[.agg row.toArray]/\Rs=[R]/\bN R row h/\v=.bool (decide h.Form)
noncomputable def Ee:List Sx.Spec:=[qg 148,qg 103,Tu,Mp,CU]
theorem IV:∀ t∈Ee,t.OK Tryz.prog:=au Bb <| au Lk <| au Qs <| au Mq <| au Hy <| bR
theorem XA:Ee[1]?=some (qg 103):=rfl
theorem U7 (f:FuncId):(qg f).res=[.one .bool]:=rfl
theorem ZK:Tu.res=[.one .bool]:=rfl
theorem ZL:Mp.res=[.one (.int .i64)]:=rfl
theorem ZM:CU.res=[.one .bool]:=rfl
noncomputable def yk:aG Tryz.prog Ee 117 where
 Λ:=aC
 args:=(cn 0 [.agg bU]).map .sv
 mem:=[.ro 130 [.var 53] false]
 nv:=131
theorem qW:0+aY bU<=128:=ab3 (by kernel_rfl)
theorem C2 {R:Hl} {p:Option Addr} {n c:Nat} {ks:List Kd} {T:List (List Int)} (h:bj R (.slice p n c) ks (T.map aS)):n=T.length:=by
 obtain⟨x,y,c',e,_⟩:=h;simp only[Value.slice.injEq,aaB]at e;exact e.2.1
theorem Q7 (z:Int):jT (IntKind.i64.wrap z):=by
 unfold jT;rw[IntKind.wrap_i64];omega
theorem NW {z:Int} (h:jT z):hZ (IntKind.i64.wrap (z-16))↔hZ (z-16):=by
 unfold jT at h;unfold hZ;rw[IntKind.wrap_i64];omega
theorem tz {z:Int} (h:hZ (z-16)):80<=z/\z<=2064:=by
 unfold hZ at h;omega
theorem Mr {z:Int} (h1:80<=z) (h2:z<=2064):Kl (IntKind.i64.wrap (z-17))=IntKind.i64.wrap (z-16)↔hZ (z-16):=by
 rw[IntWalk.i64_in (z-17) ah,IntWalk.i64_in (z-16) ah];unfold Kl hZ
 repeat' split
 all_goals omega
theorem xP (P:Prop):∃ z:Int,P↔z=1:=by
 by_cases h:P
 .exact⟨1,fun _=>rfl,fun _=>h⟩
 .exact⟨0,fun x=>absurd x h,fun x=>absurd x aB⟩
open Classical in
theorem mT {f:FuncId} {row:List Value} {R:Hl} {h:Hd} (hx:bN R row h) {q:Env} {e:E} (hb:bd q e=true↔h.Form) {mem:Mem} : postOf (gK f) [.agg row.toArray] [] [R] q mem (.sv (.one (.bool e))):=by
 intro _;exact⟨[],[],rfl,rfl,⟨⟨fun _=>0,fun _=>bd q e,fun _=>.empty,fun _=>.tuple #[],fun _=>Hl.none⟩,rfl,trivial,trivial⟩,_,R,h,rfl,rfl,hx,vF hb⟩
open Classical in
theorem BM {f:FuncId} {u v:Value} {R:Hl} {T:List (List Int)} {Hs K:List Hl} {F:Hl} (h:bj R u oY (T.map aS)) (hp:(qg f).post [u] Hs [R] v K F):v=.bool (decide (lO T)):=by
 obtain⟨u',R',T',e1,e2,hR,hv⟩:=hp;simp only[aaf,aat]at e1 e2;subst e1 e2;rw[jb (h.uniq hR)];exact hv
open Classical in
theorem mQ:(gK 117).OK Tryz.prog:=by
 refine Spec.aT (Γ:=Ee) IV ?_;rintro xs Hs Rs hl1 hl2 ⟨row,R,h,rfl,rfl,hx⟩;have e0:Hs=[]:=aad.1 hl1;subst e0;obtain⟨J,rfl,w130,hnw,n54,n55,n56⟩:=lY (R:=R) hx.ok;refine⟨yk,J,fun _ _=>True,fun _ _=>0,?_,⟨?_,?_,?_,?_⟩,(fun _ h=>nomatch h),?_⟩
 .rfl
 .intro r hr ho;simp [yk]at hr;subst hr;cases ho
 .intro r hr ho;simp [yk]at hr;subst hr;exact⟨R,aF,by show(J.h 130).le R;rw[w130];exact Hl.le_refl _⟩
 .simp [yk]
 .intro r hr;simp [yk]at hr;subst hr;trivial
 .refine aG.read [bU] [] [] ?_;simp only[go_sem,Nat.reduceAdd,Ee,U7,ZK,ZM,T3];have hF:=hx.form;have hT:=hx.tok;have hT:bj R (.slice (az (J.i 53) (J.i 54)) (J.i 55).toNat (J.i 56).toNat) oY (h.t.map aS):=hT;have hlen:(J.i 55).toNat=h.t.length:=C2 hT;have h92:cI (aD J 0) 92=J.i 95:=rfl;have h35:cB (aD J 0) 35=J.b 35:=rfl;have h92in:jT (J.i 95):=hx.rng (.int .i64 (J.i 95)) (aae (i:=92) rfl);rw[h92,h35]at hF;intro q1 g1 _;have Vh:aD q1 0=aD J 0:=cD g1.mono;refine⟨⟨⟨q1,⟨kF g1.mono bU 0 qW hnw,trivial⟩,rfl⟩,trivial⟩,fun q2 g2 ⟨F2,hp2,_⟩=>?_⟩;have hp2:Value.bool (q2.b 132)=.bool (decide (dq (aD q1 0))):=hp2;rw[Vh]at hp2;simp only[Value.bool.injEq]at hp2;rw[hp2,aag];have G2:ai 131 J q2:=g1.tr g2;rw[G2.i 55,G2.i 53,G2.i 54,G2.i 56,G2.h 130,w130];have ff:∀ {q:Env} {mem:Mem},¬h.Form->postOf (gK 117) [.agg (aD J 0).toArray] [] [R] q mem (.sv (.one (.bool .ff))):=fun hf=>mT hx ⟨fun e=>(by rw[c8]at e;cases e),fun e=>absurd e hf⟩;refine⟨fun hpl=>⟨n55,fun h8=>⟨⟨_,R,h.t,rfl,rfl,hT,hx.byte⟩,fun q3 g3 ⟨F3,hp3,_⟩=>?_⟩,fun h8=>ff fun hf=>?_⟩,fun hpl=>ff fun hf=>hpl (hF.1 hf).1⟩
  .have hs:=BM hT hp3;have hs:q3.b 133=decide (lO h.t):=by simpa [bq] using hs
   rw[hs,aag];have G3:ai 131 J q3:=G2.tr g3;rw[G3.i 95];refine⟨fun hso=>⟨⟨⟨aM [IntKind.i64.wrap (J.i 95-16)] false [],⟨trivial,trivial⟩,rfl⟩,Q7 _⟩,fun q4 g4 ⟨F4,hp4,_⟩=>?_⟩,fun hso=>ff fun hf=>hso (hF.1 hf).2.2.1⟩;have hp4:Value.bool (q4.b 134)=.bool (decide (hZ (IntKind.i64.wrap (J.i 95-16)))):=hp4;simp only[Value.bool.injEq]at hp4;rw[hp4,aag,NW h92in];have G4:ai 131 J q4:=G3.tr g4;rw[G4.b 35,G4.i 55];refine⟨fun hpd=>ff fun hf=>hpd (hF.1 hf).2.2.2.1,fun hpd=>⟨fun hc=>⟨fun hz=>mT hx ?_,fun hz=>ff fun hf=>?_⟩,fun hc=>mT hx ?_⟩⟩
   .have eZ:bd q4 (.and (.eq (.var 37) (.lit 0)) (.and (.eq (.var 38) (.lit 0)) (.and (.eq (.var 39) (.lit 0)) (.and (.eq (.var 40) (.lit 0)) (.and (.eq (.var 41) (.lit 0)) (.and (.eq (.var 42) (.lit 0)) (.and (.eq (.var 43) (.lit 0)) (.and (.eq (.var 44) (.lit 0)) (.and (.eq (.var 45) (.lit 0)) (.and (.eq (.var 46) (.lit 0)) (.and (.eq (.var 47) (.lit 0)) (.and (.eq (.var 48) (.lit 0)) (.and (.eq (.var 49) (.lit 0)) (.and (.eq (.var 50) (.lit 0)) (.and (.eq (.var 51) (.lit 0)) (.eq (.var 52) (.lit 0)))))))))))))))))=true↔sG (cI (aD q4 0)) 37 16:=by
     simp only[jK,gF,al,aq];exact adg
    rw[eZ,cD G4.mono,hF];refine⟨fun hzz=>⟨hpl,ah,hso,hpd,fun _=>⟨aad.1 ah,hzz⟩⟩,fun hf=>(hf.2.2.2.2 hc).2⟩
   .have:=((hF.1 hf).2.2.2.2 hc).1;rw[this]at hlen;exact hz (by simpa using (show J.i 55=0 by simp at hlen;omega))
   .rw[cE,hF];exact⟨fun _=>⟨hpl,ah,hso,hpd,fun h=>absurd h hc⟩,fun _=>rfl⟩
  .have:=(hF.1 hf).2.1;omega
noncomputable def zM:aG Tryz.prog Ee 65 where
 Λ:=aC
 args:=(cn 0 [.agg bU]).map .sv
 mem:=[.ro 130 [.var 53] false]
 nv:=131
theorem Sl (q:Env):(q.i 2=0/\q.i 3=0/\q.i 4=0/\q.i 5=0/\q.i 6=0/\q.i 7=0/\q.i 8=0/\q.i 9=0/\q.i 10=0/\q.i 11=0/\q.i 12=0/\q.i 13=0/\q.i 14=0/\q.i 15=0/\q.i 16=0/\q.i 17=0/\q.i 18=0/\q.i 19=0/\q.i 20=0/\q.i 21=0/\q.i 22=0/\q.i 23=0/\q.i 24=0/\q.i 25=0/\q.i 26=0/\q.i 27=0/\q.i 28=0/\q.i 29=0/\q.i 30=0/\q.i 31=0/\q.i 32=0/\q.i 33=0)↔sG (cI (aD q 0)) 2 32:=adg
theorem Sm (q:Env):(q.i 37=0/\q.i 38=0/\q.i 39=0/\q.i 40=0/\q.i 41=0/\q.i 42=0/\q.i 43=0/\q.i 44=0/\q.i 45=0/\q.i 46=0/\q.i 47=0/\q.i 48=0/\q.i 49=0/\q.i 50=0/\q.i 51=0/\q.i 52=0)↔sG (cI (aD q 0)) 37 16:=adg
open Classical in
theorem uQ:(gK 65).OK Tryz.prog:=by
 refine Spec.aT (Γ:=Ee) IV ?_;rintro xs Hs Rs hl1 hl2 ⟨row,R,h,rfl,rfl,hx⟩;have e0:Hs=[]:=aad.1 hl1;subst e0;obtain⟨J,rfl,w130,hnw,n54,n55,n56⟩:=lY (R:=R) hx.ok;refine⟨zM,J,fun _ _=>True,fun _ _=>0,?_,⟨?_,?_,?_,?_⟩,(fun _ h=>nomatch h),?_⟩
 .rfl
 .intro r hr ho;simp [zM]at hr;subst hr;cases ho
 .intro r hr ho;simp [zM]at hr;subst hr;exact⟨R,aF,by show(J.h 130).le R;rw[w130];exact Hl.le_refl _⟩
 .simp [zM]
 .intro r hr;simp [zM]at hr;subst hr;trivial
 .refine aG.read [] [] [] ?_;simp only[go_sem,Nat.reduceAdd,XA,U7,Ee,ZL,Zu,T3,Sl,Sm];have hF:=hx.form;have hT:=hx.tok;have hT:bj R (.slice (az (J.i 53) (J.i 54)) (J.i 55).toNat (J.i 56).toNat) oY (h.t.map aS):=hT;have hlen:(J.i 55).toNat=h.t.length:=C2 hT;have h92:cI (aD J 0) 92=J.i 95:=rfl;have h35:cB (aD J 0) 35=J.b 35:=rfl;rw[h92,h35]at hF;have eP:dq (aD J 0)↔((1<=J.i 0/\J.i 0<=6)/\(1<=J.i 1/\J.i 1<=1048576)/\(0<=J.i 34/\J.i 34<=255)/\J.i 36<=1099511627776/\cI (aD J 0) (54+(J.i 0-1).toNat)=J.i 1-1/\(J.i 57<=1048576/\J.i 58<=1048576/\J.i 59<=1048576/\J.i 60<=1048576/\J.i 61<=1048576/\J.i 62<=1048576)/\(1<J.i 1\/sG (cI (aD J 0)) 2 32)):=adg;have eK:=EC J;have eB:=@Mr (J.i 95);have eI:=@tz (J.i 95);have eN:h.t=[]↔J.i 55=0:=by rw[<-aad];omega
  rw[eP,eN]at hF;clear eP eN;obtain⟨z1,hz1⟩:=xP (sG (cI (aD J 0)) 2 32);obtain⟨z2,hz2⟩:=xP (sG (cI (aD J 0)) 37 16);obtain⟨z3,hz3⟩:=xP (J.b 35=true);obtain⟨z4,hz4⟩:=xP (lO h.t);obtain⟨z5,hz5⟩:=xP (hZ (J.i 95-16));rw[hz1,hz2,hz3,hz4,hz5]at hF;rw[hz5]at eB eI;have ff:∀ {q:Env} {mem:Mem},¬h.Form->postOf (gK 65) [.agg (aD J 0).toArray] [] [R] q mem (.sv (.one (.bool .ff))):=fun hf=>mT hx ⟨fun e=>(by rw[c8]at e;cases e),fun e=>absurd e hf⟩;rw[hF]at ff;intro q1 g1 _;rw[g1.i 0,g1.i 1,g1.i 34,g1.i 36,g1.i 55,g1.i 53,g1.i 54,g1.i 56,g1.h 130,w130];refine⟨fun c0=>⟨fun c1=>⟨fun c2=>⟨fun c3=>⟨fun c4=>⟨fun c5=>⟨fun c6=>⟨n55,fun c7=>⟨⟨_,R,h.t,rfl,rfl,hT,hx.byte⟩,fun q2 g2 ⟨F2,hp2,_⟩=>?_⟩,fun c=>ff ah⟩,fun c=>ff ah⟩,fun c=>ff ah⟩,fun c=>ff ah⟩,fun c=>ff ah⟩,fun c=>ff ah⟩,fun c=>ff ah⟩,fun c=>ff ah⟩;have G2:ai 131 J q2:=g1.tr g2;have hs:=BM hT hp2;have hs:q2.b 132=decide (lO h.t):=by simpa [bq] using hs
  rw[hs,aag,hz4];simp only[G2.i 0,G2.i 1,G2.i 34,G2.i 36,G2.i 55,G2.i 57,G2.i 58,G2.i 59,G2.i 60,G2.i 61,G2.i 62,G2.i 95,G2.b 35];refine⟨fun c=>ff ah,fun d0=>⟨fun c=>ff ah,fun d1=>⟨fun c=>ff ah,fun d2=>⟨fun c=>ff ah,fun d3=>⟨fun c=>ff ah,fun d4=>⟨fun c=>ff ah,fun d5=>⟨fun c=>ff ah,fun d6=>⟨fun e0=>⟨fun e1=>⟨⟨⟨aM [IntKind.i64.wrap (J.i 95-17)] false [],⟨trivial,trivial⟩,rfl⟩,trivial⟩,fun q3 g3 ⟨F3,hp3,_⟩=>?_⟩,fun c=>?_⟩,fun c=>?_⟩⟩⟩⟩⟩⟩⟩⟩
  rotate_left
  .rw[hz3];exact⟨fun f0=>⟨fun f1=>⟨fun f2=>ff ah,fun f2=>ff ah⟩,fun f1=>ff ah⟩,fun f0=>⟨fun f1=>⟨fun f2=>ff ah,fun f2=>ff ah⟩,fun f1=>ff ah⟩⟩
  .rw[hz3];exact⟨fun f0=>⟨fun f1=>⟨fun f2=>ff ah,fun f2=>ff ah⟩,fun f1=>ff ah⟩,fun f0=>⟨fun f1=>⟨fun f2=>ff ah,fun f2=>ff ah⟩,fun f1=>ff ah⟩⟩
  have G3:ai 131 J q3:=G2.tr g3;have hp3:Value.int .i64 (q3.i 133)=.int .i64 (Kl (IntKind.i64.wrap (J.i 95-17))):=hp3;simp only[Value.int.injEq,aaV]at hp3;have hr3:aD q3 0=aD J 0:=cD G3.mono;have eB:=eB e0 e1;simp only[hp3,hr3,hz1,hz2,eB,G3.i 0,G3.i 1,G3.i 34,G3.i 36,G3.i 55,G3.i 57,G3.i 58,G3.i 59,G3.i 60,G3.i 61,G3.i 62,G3.i 95,G3.b 35];rw[hz3];have w0:IntKind.i64.wrap (J.i 0-1)=J.i 0-1:=IntWalk.i64_in _ ah;have w1:IntKind.u64.wrap (J.i 1-1)=J.i 1-1:=nL ah ah;have kf:∀ {mem:Mem},(cI (aD J 0) (54+(J.i 0-1).toNat)=J.i 1-1↔h.Form)->postOf (gK 65) [.agg (aD J 0).toArray] [] [R] q3 mem (.sv (.one (.bool (.eq (.ite (.eq (.wrap .i64 (.sub (.var 0) (.lit 1))) (.lit 0)) (.var 57) (.ite (.eq (.wrap .i64 (.sub (.var 0) (.lit 1))) (.lit 1)) (.var 58) (.ite (.eq (.wrap .i64 (.sub (.var 0) (.lit 1))) (.lit 2)) (.var 59) (.ite (.eq (.wrap .i64 (.sub (.var 0) (.lit 1))) (.lit 3)) (.var 60) (.ite (.eq (.wrap .i64 (.sub (.var 0) (.lit 1))) (.lit 4)) (.var 61) (.var 62)))))) (.wrap .u64 (.sub (.var 1) (.lit 1))))))):=fun {mem} hh=>mT hx (by
   rw[<-hh,eK ah];simp only[gF,dj,bP,dm,al,aq,G3.i 0,G3.i 1,G3.i 57,G3.i 58,G3.i 59,G3.i 60,G3.i 61,G3.i 62,w0,w1])
  rw[hF]at kf;rw[w0];exact⟨fun f0=>⟨fun f1=>⟨fun f2=>⟨fun f3=>⟨fun f4=>⟨fun f5=>⟨ah,ah,kf ah⟩,fun f5=>ff ah⟩,fun f4=>ff ah⟩,fun f3=>ff ah⟩,fun f2=>⟨fun f3=>⟨fun f4=>ff ah,fun f4=>ff ah⟩,fun f3=>ff ah⟩⟩,fun f1=>⟨fun f3=>⟨fun f4=>⟨ah,ah,kf ah⟩,fun f4=>ff ah⟩,fun f3=>ff ah⟩⟩,
   fun f0=>⟨fun f1=>⟨fun f2=>⟨fun f3=>⟨fun f5=>⟨ah,ah,kf ah⟩,fun f5=>ff ah⟩,fun f3=>ff ah⟩,fun f2=>⟨fun f3=>ff ah,fun f3=>ff ah⟩⟩,fun f1=>⟨fun f3=>⟨ah,ah,kf ah⟩,fun f3=>ff ah⟩⟩⟩
end Go.Proofs.YtomdimlnggpgbaaGreatDoor
