/- RelayPlays. -/
import Derived.Lib.Hide
import Derived.WalkSpells
import Derived.WalkLawsBesides
import Derived.Lib.BytesEntry
import Derived.Test.YtomdimlnggpgbaaGreatDoorTH
set_option linter.all false
set_option maxHeartbeats 4000000
namespace Go.Proofs.YtomdimlnggpgbaaGreatDoor
open Go Go.Sx Go.Pk
open Go.Proofs.YtomdimlnggpgbaaGreatDoor.D hiding aO aD fN
def Ak:jT.OK Tryz.prog:=by
 refine Spec.aS (Γ:=Kj) UN ?_;rintro xs Hs Rs hl1 hl2 ⟨u,bs,R,RG,rfl,rfl,hR,hb,hlen,hK⟩;have e0:Hs=[]:=aad.1 hl1;subst e0;obtain⟨x,y,c,rfl,hy,hRc⟩:=id hR;refine⟨SC,aO [x,y,bs.length,c] false [Hl.none,Hl.none,Hl.none,Hl.none,R,RG],
  BV bs,Mi bs,?_,cO (by intro r hr;simp [SC]at hr;rcases hr with rfl | rfl<;>exact⟨_,_,_,rfl⟩) rfl,(fun _ h=>nomatch h),?_⟩
 .show [Value.slice (az x y) ((bs.length:Int)).toNat ((c:Int)).toNat]=_;simp only[aaa]
 .refine aG.lit (x:=Pq) ?_;generalize hρ:aO [x,y,bs.length,c] false [Hl.none,Hl.none,Hl.none,Hl.none,R,RG]=J;have V:∀ q:Env,ai 6 J q->q.i 0=x/\q.i 1=y/\q.i 2=bs.length/\q.i 3=c/\q.h 4=R/\q.h 5=RG:=fun q hg=>by
   rw[hg.i 0,hg.i 1,hg.i 2,hg.i 3,hg.h 4,hg.h 5,<-hρ];exact⟨rfl,rfl,rfl,rfl,rfl,rfl⟩
  clear hρ;unfold Pq;simp only[go_sem,Nat.reduceAdd,Kj,Pp,TG];have t0:Int.toNat 0=0:=rfl;have Fq:aN Hl.none 5 1 (.slice (az (-1) 0) (Int.toNat 0) (Int.toNat 0)) (Int.toNat 0) []:=⟨rfl,Or.inl ⟨rfl,rfl⟩⟩;intro q1 g1 p6;have G1:ai 6 J q1:=g1;obtain⟨v0,v1,v2,v3,w4,w5⟩:=V q1 G1;have hseg:=qp (R:=R) (x:=x) (y:=y) (l:=(bs.length:Int)) rfl hy hRc;rw[v0,v1,v2,w4];refine⟨⟨⟨[],Fq⟩,aap _,by have:=hseg.1;simpa using this,by rw[t0,aaa];unfold maxLen;omega,by rw[t0,aaa];omega⟩,fun q2 g2 ⟨r1,r2,r3,_⟩ q2' g2' _=>?_⟩;have o2:=r3 [] Fq;rw[hseg.2,t0,aaa,aaI,abw]at o2;have b2:Ob q2 7 7 8 (bs.length:Int) bs:=⟨by rw[aaa];exact o2,rfl,r1,r2⟩;have G2':ai 6 J q2':=G1.trans (g2.mono.tr g2');have b2:=b2.mono g2' ah ah ah;have v2':q2'.i 2=bs.length:=(V q2' G2').2.2.1;rw[<-v2']at b2;refine⟨b2.pre ah,fun q3 g3 ⟨r1,r2,r3,_⟩=>?_⟩;have b3:=b2.app ⟨r1,r2,r3⟩ rfl;have G3:ai 6 J q3:=G2'.tr g3;rw[v2',<-(V q3 G3).2.2.1]at b3;obtain⟨b31,b32,b33,b34⟩:=b3;refine⟨⟨0,ah,?_,b33,b34,?_⟩,fun q4 g4 ⟨m,hm,e51,h50,h52,hO⟩=>?_⟩
  .show q3.i 2+1=_;rw[(V q3 G3).2.2.1];omega
  .rw[adv,aa6];exact b31
  have G4:ai 6 J q4:=G3.tr g4;have hml:(bs++[128]++List.replicate m 0).length=bs.length+1+m:=by rw[aac,aac,aa8];rfl
  have b4:Ob q4 53 50 52 (q4.i 51) (bs++[128]++List.replicate m 0):=⟨hO,by rw[hml,e51];omega,h50,h52⟩;have tm:(q4.i 51).tmod 64=((bs.length+1+m)%64:Nat):=by rw[e51,abf ah];omega
  refine⟨ah,fun hne=>?_,fun heq=>?_⟩
  .have hne:(q4.i 51).tmod 64≠56:=hne;rw[tm]at hne;intro q5 g5 _;have b5:=b4.mono g5 ah ah ah;rw[show q4.i 51=q5.i 51 from (g5.i 51).symm]at b5;refine⟨b5.pre (by rw[hml];omega),fun q6 g6 ⟨r1,r2,r3,_⟩=>?_⟩;have b6:=b5.app ⟨r1,r2,r3⟩ rfl;obtain⟨b61,b62,b63,b64⟩:=b6;have e6:q6.i 51=bs.length+1+m:=by rw[g6.i 51,g5.i 51,e51]
   rw[show q5.i 51=q6.i 51 from (g6.i 51).symm]at b61;refine⟨⟨m+1,ah,?_,b63,b64,?_⟩,?_⟩
   .show q6.i 51+1=_;rw[e6];omega
   .rw[adr,<-aax];exact b61
   .show((bs.length:Int)+100-(q6.i 51+1)).toNat<((bs.length:Int)+100-q4.i 51).toNat;rw[e6,e51];omega
  .have heq:(q4.i 51).tmod 64=56:=heq;rw[tm]at heq;have em:m=(119-bs.length%64)%64:=ah;obtain⟨M,hM⟩:∃ M,M=bs++[128]++List.replicate m 0:=⟨_,rfl⟩;rw[<-hM]at b4 hml;have v2':q4.i 2=bs.length:=(V q4 G4).2.2.1;refine⟨by rw[v2'];omega,?_⟩;have wlen:∀ {q:Env},ai 6 J q->IntKind.u64.wrap (IntKind.u64.wrap (q.i 2)*8)=((8*bs.length:Nat):Int):=fun {q} hg=>by
    rw[(V q hg).2.2.1,mY (x:=(bs.length:Int)) ah ah,mY ah ah];omega
   intro q5 g5 _;have c0:=b4.mono g5 ah ah ah;rw[show q4.i 51=q5.i 51 from (g5.i 51).symm]at c0;have G5:ai 6 J q5:=G4.tr g5;refine⟨c0.pre ah,fun q6 g6 ⟨r1,r2,r3,_⟩=>?_⟩;have G6:ai 6 J q6:=G5.tr g6;rw[pG (q:=q5) (n:=8*bs.length) (k:=56) (s:=56) (wlen G5) ah rfl ah]at r3;have d0:=c0.app ⟨r1,r2,r3⟩ (L':=q5.i 51+1) rfl;intro q7 g7 _;have J7:q7.i 51=q5.i 51:=by rw[g7.i 51,g6.i 51]
   have c1:=(d0.mono g7 ah ah ah).cast (L':=q7.i 51+1) (by rw[J7]);have G7:ai 6 J q7:=G6.tr g7;refine⟨c1.pre (by simp only[aac,aay];omega),fun q8 g8 ⟨r1,r2,r3,_⟩=>?_⟩;have G8:ai 6 J q8:=G7.tr g8;rw[pG (q:=q7) (n:=8*bs.length) (k:=48) (s:=48) (wlen G7) ah rfl ah]at r3;have d1:=c1.app ⟨r1,r2,r3⟩ (L':=q5.i 51+2) (by rw[J7];omega);intro q9 g9 _;have J9:q9.i 51=q5.i 51:=by rw[g9.i 51,g8.i 51,J7]
   have c2:=(d1.mono g9 ah ah ah).cast (L':=q9.i 51+2) (by rw[J9]);have G9:ai 6 J q9:=G8.tr g9;refine⟨c2.pre (by simp only[aac,aay];omega),fun q10 g10 ⟨r1,r2,r3,_⟩=>?_⟩;have G10:ai 6 J q10:=G9.tr g10;rw[pG (q:=q9) (n:=8*bs.length) (k:=40) (s:=40) (wlen G9) ah rfl ah]at r3;have d2:=c2.app ⟨r1,r2,r3⟩ (L':=q5.i 51+3) (by rw[J9];omega);intro q11 g11 _;have J11:q11.i 51=q5.i 51:=by rw[g11.i 51,g10.i 51,J9]
   have c3:=(d2.mono g11 ah ah ah).cast (L':=q11.i 51+3) (by rw[J11]);have G11:ai 6 J q11:=G10.tr g11;refine⟨c3.pre (by simp only[aac,aay];omega),fun q12 g12 ⟨r1,r2,r3,_⟩=>?_⟩;have G12:ai 6 J q12:=G11.tr g12;rw[pG (q:=q11) (n:=8*bs.length) (k:=32) (s:=32) (wlen G11) ah rfl ah]at r3;have d3:=c3.app ⟨r1,r2,r3⟩ (L':=q5.i 51+4) (by rw[J11];omega);intro q13 g13 _;have J13:q13.i 51=q5.i 51:=by rw[g13.i 51,g12.i 51,J11]
   have c4:=(d3.mono g13 ah ah ah).cast (L':=q13.i 51+4) (by rw[J13]);have G13:ai 6 J q13:=G12.tr g13;refine⟨c4.pre (by simp only[aac,aay];omega),fun q14 g14 ⟨r1,r2,r3,_⟩=>?_⟩;have G14:ai 6 J q14:=G13.tr g14;rw[pG (q:=q13) (n:=8*bs.length) (k:=24) (s:=24) (wlen G13) ah rfl ah]at r3;have d4:=c4.app ⟨r1,r2,r3⟩ (L':=q5.i 51+5) (by rw[J13];omega);intro q15 g15 _;have J15:q15.i 51=q5.i 51:=by rw[g15.i 51,g14.i 51,J13]
   have c5:=(d4.mono g15 ah ah ah).cast (L':=q15.i 51+5) (by rw[J15]);have G15:ai 6 J q15:=G14.tr g15;refine⟨c5.pre (by simp only[aac,aay];omega),fun q16 g16 ⟨r1,r2,r3,_⟩=>?_⟩;have G16:ai 6 J q16:=G15.tr g16;rw[pG (q:=q15) (n:=8*bs.length) (k:=16) (s:=16) (wlen G15) ah rfl ah]at r3;have d5:=c5.app ⟨r1,r2,r3⟩ (L':=q5.i 51+6) (by rw[J15];omega);intro q17 g17 _;have J17:q17.i 51=q5.i 51:=by rw[g17.i 51,g16.i 51,J15]
   have c6:=(d5.mono g17 ah ah ah).cast (L':=q17.i 51+6) (by rw[J17]);have G17:ai 6 J q17:=G16.tr g17;refine⟨c6.pre (by simp only[aac,aay];omega),fun q18 g18 ⟨r1,r2,r3,_⟩=>?_⟩;have G18:ai 6 J q18:=G17.tr g18;rw[pG (q:=q17) (n:=8*bs.length) (k:=8) (s:=8) (wlen G17) ah rfl ah]at r3;have d6:=c6.app ⟨r1,r2,r3⟩ (L':=q5.i 51+7) (by rw[J17];omega);intro q19 g19 _;have J19:q19.i 51=q5.i 51:=by rw[g19.i 51,g18.i 51,J17]
   have c7:=(d6.mono g19 ah ah ah).cast (L':=q19.i 51+7) (by rw[J19]);have G19:ai 6 J q19:=G18.tr g19;refine⟨c7.pre (by simp only[aac,aay];omega),fun q20 g20 ⟨r1,r2,r3,_⟩=>?_⟩;have G20:ai 6 J q20:=G19.tr g20;rw[pG (q:=q19) (n:=8*bs.length) (k:=0) (s:=0) (wlen G19) ah rfl ah]at r3;have d7:=c7.app ⟨r1,r2,r3⟩ (L':=q5.i 51+8) (by rw[J19];omega);have hp:M++[((8*bs.length/2 ^ 56%256:Nat):Int)]++[((8*bs.length/2 ^ 48%256:Nat):Int)]++[((8*bs.length/2 ^ 40%256:Nat):Int)]++[((8*bs.length/2 ^ 32%256:Nat):Int)]++[((8*bs.length/2 ^ 24%256:Nat):Int)]++[((8*bs.length/2 ^ 16%256:Nat):Int)]++[((8*bs.length/2 ^ 8%256:Nat):Int)]++[((8*bs.length/2 ^ 0%256:Nat):Int)]=gy bs:=by
    unfold gy;rw[<-em,<-hM];simp only[aax];rfl
   have J20:q20.i 51=q5.i 51:=by rw[g20.i 51,J19]
   obtain⟨P,hP⟩:∃ P,P=gy bs:=⟨_,rfl⟩;have hPb:ar P:=by rw[hP];exact zR hb
   have hPl:=wF bs;rw[hp]at d7;rw[<-hP]at d7 hPl;clear hp hM b4 hml tm;intro q21 g21 p84;have G21:ai 6 J q21:=G20.tr g21;have dP:Ob q21 82 82 83 (q21.i 51+8) P:=(d7.mono g21 ah ah ah).cast (by rw[g21.i 51,J20]);obtain⟨dP1,eL,dx,dc⟩:=dP;have hx0:0<=q21.i 82/\∀ j z,P[j]?=some z->(q21.h 82).cell (q21.i 82).toNat j=some (.int .u8 z):=by
    obtain⟨x1,y1,c1,e,hy1,h⟩:=dP1.rd.w;simp only[Value.slice.injEq]at e;rcases h with h | ⟨h0,hc⟩
    .exfalso;have:=hPl.1;rw[h]at this;simp only[aa7]at this;omega
    .obtain⟨rfl,hyy⟩:=kG dx (aap 0) ah hy1 e.1;obtain rfl:=hyy h0;refine⟨h0,fun j z hz=>?_⟩;have:=hc j z hz;rw[show Int.toNat 0+j=j from aaI j]at this;exact this
   refine⟨⟨0,rfl,abi _,fun j hj=>?_⟩,fun q22 g22 ⟨k,e100,hk,h8⟩=>?_⟩
   .match j,hj with
    | 0,_=>rfl
    | 1,_=>rfl
    | 2,_=>rfl
    | 3,_=>rfl
    | 4,_=>rfl
    | 5,_=>rfl
    | 6,_=>rfl
    | 7,_=>rfl
   have G22:ai 6 J q22:=G21.tr g22;rw[<-hP]at hk h8;exact Mh rfl rfl hR hP hPl.2 ah hPb (by rw[g22.i 84];exact p84) (by rw[(V q22 G22).2.2.2.2.2];exact hK) (by rw[g22.h 82,g22.i 82];exact hx0.2) (by rw[g22.i 82];exact hx0.1) (by rw[g22.i 51];exact eL) e100 hk h8 (by show((gy bs).length-q22.i 100).toNat=_;rw[hP])
end Go.Proofs.YtomdimlnggpgbaaGreatDoor
namespace Go.Proofs.YtomdimlnggpgbaaGreatDoor
open Go Go.Sx Go.Pk Go.RowKit
variable {X e:E}{J q q2:Env}{F R:Hl}{x y:Int}{T:List (List Int)}{Hs K Rs:List Hl}{a b bs l t xs ys:List Int}{b' c c' h i n n' o o':Nat}{P:Program}{u v:Value}{w:World}
def tr8{q:Prop}(h:q):True/\True/\True/\True/\True/\True/\True/\True/\q:=⟨zzT,zzT,zzT,zzT,zzT,zzT,zzT,zzT,h⟩
def lex:List Int->List Int->Int
 | x::xs,y::ys=>if x<y then -1 else if y<x then 1 else lex xs ys
 | _,_=>0
def mc (T:List (List Int)):Prop:=∀ i,i+1<T.length->lex (T.getD i []) (T.getD (i+1) [])<0
def qC (w:World) (b o:Nat) (xs:List Int):Prop:=∀ i x,xs[i]?=some x->w.cell? ⟨b,o+i,none⟩=some (.int .u8 x)
def wQ {b:Nat} (h:qC w b o xs) (hn:xs.length=n):(Extern.Bytes.bytesOf (.slice (some ⟨b,o,none⟩) n c)).run P w=.ok ⟨(Lib.bytesOf xs).toArray⟩ w:=by
 have hl:=Lib.run_loadBytesX (P:=P) w xs ⟨b,o,none⟩ .empty (fun j x hj=>by
  have e:(⟨b,o,none⟩:Addr).add j=⟨b,o+j,none⟩:=by unfold Addr.add;split<;>simp_all
  rw[e,h j x hj])
 rw[hn]at hl;simp only[Extern.Bytes.bytesOf,hl]
 congr 1
 apply ByteArray.ext;show(#[]:Array UInt8)++(Lib.bytesOf xs).toArray=(Lib.bytesOf xs).toArray;simp
def I8 (xs ys:List Int):Int:=Lib.compareBytes (Lib.bytesOf xs) (Lib.bytesOf ys)
def AX {b:Nat} (h:qC w b o xs) (hn:xs.length=n) (h':qC w b' o' ys) (hn':ys.length=n') :
 (Extern.BytealgCompare.compare #[.slice (some ⟨b,o,none⟩) n c,.slice (some ⟨b',o',none⟩) n' c']).run P w=.ok (.int .i64 (I8 xs ys)) w:=by
 change Sem.run P (do pure (goInt (Extern.BytealgCompare.cmp (<-Extern.Bytes.bytesOf (.slice (some ⟨b,o,none⟩) n c)) (<-Extern.Bytes.bytesOf (.slice (some ⟨b',o',none⟩) n' c'))))) w=_;simp only[Sem.run_bind,wQ h hn,wQ h' hn',Result.andThen_ok,Sem.run_pure,Lib.cmp_eq];rfl
set_option maxRecDepth 20000 in
def Cx {b:Nat} (h:qC w b o xs) (hn:xs.length=n) (h':qC w b' o' ys) (hn':ys.length=n') :
 Calls Tryz.prog 200 #[.slice (some ⟨b,o,none⟩) n c,.slice (some ⟨b',o',none⟩) n' c'] w fun e w'=>e=.returned (.int .i64 (I8 xs ys))/\Below w.heap.size w w':=by
 go_enter Tryz.func200,Tryz.ntmps200
 go_wp2
 rw[run_callFunc_extern Tryz.func208 zzK zzK zzK (e:=Extern.BytealgCompare.compare) zzK,AX h hn h' hn'];simp only[Result.andThen];rw[Oper.upon_value]
 go_wp2
 go_ret
 exact⟨rfl,Below.refl _ _⟩
def SK (hx:0<=x/\x<256) (hy:0<=y/\y<256):(UInt8.ofNat x.toNat<UInt8.ofNat y.toNat)=(x<y):=by
 rw[UInt8.lt_iff_toNat_lt,adf (by simp;omega),adf (by simp;omega)];exact propext ah
def I9:∀ (xs ys:List Int),xs.length=ys.length->ar xs->ar ys->I8 xs ys=lex xs ys
 | [],[],_,_,_=>rfl
 | x::xs,y::ys,h,hx,hy=>by
  have ih:=I9 xs ys (by simpa using h) (fun z hz=>hx z (by simp [hz])) (fun z hz=>hy z (by simp [hz]));unfold I8 Lib.bytesOf at ih ⊢;simp only[aaC,Lib.compareBytes,lex,SK (hx x aF) (hy y aF),SK (hy y aF) (hx x aF),ih]
 | [],_::_,h,_,_=>by simp at h
 | _::_,[],h,_,_=>by simp at h
def oU:Sx.Spec where
 fn:=200
 own:=[]
 rd:=[0,1]
 res:=[.one (.int .i64)]
 pre:=fun xs Hs Rs=>∃ u v a b R1 R2,xs=[u,v]/\Rs=[R1,R2]/\nX R1 u a/\nX R2 v b/\a≠[]/\a.length=b.length/\ar a/\ar b
 post:=fun xs Hs Rs w Hs' F=>∃ u v a b R1 R2,xs=[u,v]/\Rs=[R1,R2]/\nX R1 u a/\nX R2 v b/\w=.int .i64 (lex a b)
def RZ (hs:R.sub w) (h:∀ j z,bs[j]?=some z->R.cell x.toNat (y.toNat+j)=some (.int .u8 z)):qC w x.toNat y.toNat bs:=fun j z hz=>Hl.gQ hs (h j z hz)
def AA:oU.OK Tryz.prog:=by
 refine oe rfl fun w xs Rs hs ⟨u,v,a,b,R1,R2,e1,e2,h1,h2,hne,hl,hb1,hb2⟩=>?_;subst e1 e2;obtain⟨x,y,c,rfl,hy,h1'⟩:=id h1;obtain⟨x',y',c',rfl,hy',h2'⟩:=id h2;rcases h1' with ⟨_,h⟩ | ⟨hx,h1'⟩
 .exact absurd h hne
 rcases h2' with ⟨_,h⟩ | ⟨hx',h2'⟩
 .rw[h]at hl;exact absurd (aad.1 hl) hne
 refine⟨.int .i64 (lex a b),⟨(aY fun _=>lex a b),rfl,zzT,zzT⟩,?_,_,_,a,b,R1,R2,rfl,rfl,h1,h2,rfl⟩;rw[au hx,au hx',<-I9 a b hl hb1 hb2];exact Cx (RZ (hs R1 aF) h1') rfl (RZ (hs R2 aF) h2') rfl
def tk:List Ck:=List.replicate 16 (.int .u8)
def pq:List Kd:=List.replicate 16 (.int .u8)
def rB (v:Value):List Int:=match v with
 | .agg a=>a.toList.map fun v=>bS (some v)
 | _=>[]
def W3 (xs:List Value):Prop:=∀ v∈xs,ar (rB v)
def R6 (xs:List Value):Value:=match xs with
 | [a,b]=>.int .i64 (lex (rB a) (rB b))
 | _=>.int .i64 0
def Sl (xs:List Value):Value:=match xs with
 | [a,b]=>.bool (decide (lex (rB a) (rB b)<0))
 | _=>.bool false
def Ja:Sx.Spec:=qe 178 [.agg tk,.agg tk] [.one (.int .i64)] W3 R6
def JG:Sx.Spec:=qe 143 [.agg tk,.agg tk] [.one .bool] (fun _=>True) Sl
def VI:aG Tryz.prog [oU] 178 where
 Λ:=aD
 args:=(bV 0 [.agg tk,.agg tk]).map .sv
 mem:=[]
 nv:=32
def kn (q:Env) (n:Nat):List Int:=(List.range 16).map fun j=>q.i (n+j)
def IP (q:Env):tL [.agg tk,.agg tk] q=[.agg ((kn q 0).map (Value.int .u8)).toArray,.agg ((kn q 16).map (Value.int .u8)).toArray]:=rfl
def gr (l:List Int):rB (.agg (l.map (Value.int .u8)).toArray)=l:=by
 show((l.map (Value.int .u8)).toArray.toList).map _=l;rw[abg];exact List.map_id'' (fun _=>rfl) l
def vA (z:Int):qW [.one (.int .i64)] (.int .i64 z):=⟨(aY fun _=>z),rfl,zzT,zzT⟩
def oO (b:Bool):qW [.one .bool] (.bool b):=⟨⟨fun _=>0,fun _=>b,fun _=>.empty,fun _=>.tuple #[],fun _=>Hl.none⟩,rfl,zzT,zzT⟩
def xQ {T:TypeId} {a:Nat} (h0:0<=q.i a) {cs:List CV} (hc:∀ j z,l[j]?=some z->(cs.map (CV.ev q))[o+j]?=some (.int .u8 z)) (hn:n=l.length) {c:Int} : nX ((bD.bd a cs T).hl q) (.slice (az (q.i a) (o:Int)) ((n:Int)).toNat c.toNat) l:=by
 subst hn;refine⟨q.i a,o,c.toNat,by rw[aaa],ah,Or.inr ⟨h0,fun j z hz=>?_⟩⟩;show(Hl.one (q.i a).toNat (.cells (cs.map (CV.ev q)).toArray T (0,0))).cell (q.i a).toNat _=_;unfold Hl.cell;rw[Hl.aT,aaa];show(cs.map (CV.ev q)).toArray[o+j]?=_;rw[abl];exact hc j z hz
def YM:[oU][0]?=some oU:=rfl
def YN:oU.res=[.one (.int .i64)]:=rfl
def YL:(aK 34 [Cp.one (.int .i64)]≠[])=False:=by simp [aK,Cp.roots,Ck.root]
def Cd (g:ai 32 q q2) (hn:n+16<=32):(al n tk).map (CV.ev q2)=(kn q n).map (Value.int .u8):=by
 show [Value.int .u8 (q2.i n),.int .u8 (q2.i (n+1)),.int .u8 (q2.i (n+2)),.int .u8 (q2.i (n+3)),.int .u8 (q2.i (n+4)),.int .u8 (q2.i (n+5)),.int .u8 (q2.i (n+6)),.int .u8 (q2.i (n+7)),.int .u8 (q2.i (n+8)),.int .u8 (q2.i (n+9)),.int .u8 (q2.i (n+10)),.int .u8 (q2.i (n+11)),.int .u8 (q2.i (n+12)),.int .u8 (q2.i (n+13)),.int .u8 (q2.i (n+14)),.int .u8 (q2.i (n+15))]=_;rw[g.i n,g.i (n+1),g.i (n+2),g.i (n+3),g.i (n+4),g.i (n+5),g.i (n+6),g.i (n+7),g.i (n+8),g.i (n+9),g.i (n+10),g.i (n+11),g.i (n+12),g.i (n+13),g.i (n+14),g.i (n+15)];rfl
def Nf:Ja.OK Tryz.prog:=by
 refine jH (Γ:=[oU]) (fun t ht=>by rw[aal]at ht;subst ht;exact AA) VI rfl rfl rfl (fun q _ _=>?_) (fun q hq hN=>⟨fun _ _=>True,fun _ _=>0,?_⟩)
 .exact vA _
 .rw[IP]at hN ⊢;have h1:ar (kn q 0):=by
   have:=hN _ (aaJ ..);rwa[gr]at this
  have h2:ar (kn q 16):=by
   have:=hN _ (aas _ (aaJ ..));rwa[gr]at this
  have eG:R6 [.agg ((kn q 0).map (Value.int .u8)).toArray,.agg ((kn q 16).map (Value.int .u8)).toArray]=.int .i64 (lex (kn q 0) (kn q 16)):=by
   show Value.int .i64 (lex (rB _) (rB _))=_;rw[gr,gr]
  simp only[eG];refine aG.read [] [] [] ?_;simp only[go_sem,Nat.reduceAdd,YM,YN,YL];intro q1 g1 p1 q2 g2 p2;have g:ai 32 q q2:=g1.tr g2;have c1:∀ j z,(kn q 0)[j]?=some z->((al 0 tk).map (CV.ev q2))[0+j]?=some (.int .u8 z):=by
   rw[Cd g ah];intro j z hz;rw[aaI,aao,hz];rfl
  have c2:∀ j z,(kn q 16)[j]?=some z->((al 16 tk).map (CV.ev q2))[0+j]?=some (.int .u8 z):=by
   rw[Cd g ah];intro j z hz;rw[aaI,aao,hz];rfl
  have p1':0<=q2.i 32:=by rw[g2.i 32];exact p1
  have r1:=xQ (T:=61) (n:=16) (c:=16) p1' c1 rfl;have r2:=xQ (T:=61) (n:=16) (c:=16) p2 c2 rfl;refine⟨⟨_,_,kn q 0,kn q 16,_,_,rfl,rfl,r1,r2,(by simp [kn]),rfl,h1,h2⟩,fun q3 g3 ⟨F,⟨u,v,a,b,R1,R2,hx,hR,ha,hb,hv⟩,_⟩=>?_⟩;simp only[aag,aat]at hx hR;obtain⟨rfl,rfl⟩:=hx;obtain⟨rfl,rfl⟩:=hR;rw[<-ha.uniq r1,<-hb.uniq r2];exact hv
def Wj:aG Tryz.prog [] 143 where
 Λ:=aD
 args:=(bV 0 [.agg tk,.agg tk]).map .sv
 mem:=[]
 nv:=32
def TY {a b:Int} (h:¬a=b):decide (a<b)=decide (lex (a::xs) (b::ys)<0):=by
 unfold lex;by_cases h1:a<b
 .simp [h1]
 .have h2:b<a:=ah;simp [h1,h2]
def TX {a b:Int} (h:a=b):lex (a::xs) (b::ys)=lex xs ys:=by
 subst h;show(if a<a then _ else if a<a then _ else _)=_;rw[aan (ady _),aan (ady _)]
def ku {a b:Int} {Y:Prop} (hu:u=.bool (decide (a<b))) (hv:v=.bool (decide (lex (a::xs) (b::ys)<0))) (h:v=.bool (decide (lex xs ys<0))->Y):(¬a=b->u=v)/\(a=b->Y) :=
 ⟨fun hn=>by rw[hu,hv,TY hn],fun he=>h (by rw[hv,TX he])⟩
def Cc (q:Env) (n:Nat):kn q n=[q.i n,q.i (n+1),q.i (n+2),q.i (n+3),q.i (n+4),q.i (n+5),q.i (n+6),q.i (n+7),q.i (n+8),q.i (n+9),q.i (n+10),q.i (n+11),q.i (n+12),q.i (n+13),q.i (n+14),q.i (n+15)]:=rfl
def N5:JG.OK Tryz.prog:=by
 refine jH (Γ:=[]) (fun t ht=>by cases ht) Wj rfl rfl rfl (fun q _ _=>?_) (fun q hq hN=>⟨fun _ _=>True,fun _ _=>0,?_⟩)
 .exact oO _
 .rw[IP];have eG:Sl [.agg ((kn q 0).map (Value.int .u8)).toArray,.agg ((kn q 16).map (Value.int .u8)).toArray]=.bool (decide (lex (kn q 0) (kn q 16)<0)):=by
   show Value.bool (decide (lex (rB _) (rB _)<0))=_;rw[gr,gr]
  simp only[eG];refine aG.read [] [] [] ?_;simp only[go_sem,Nat.reduceAdd];intro q1 g1 p1 q2 g2 p2;have g:ai 32 q q2:=g1.tr g2;have e:∀ n,n+16<=32->kn q n=kn q2 n:=fun n hn=>aa2 fun j hj=>(g.i (n+j) (by have:=aaO.1 hj;omega)).symm;rw[e 0 ah,e 16 ah,Cc,Cc];generalize hV:Value.bool (decide (lex _ _<0))=V;have hV:=hV.symm;exact ku rfl hV fun h0=>ku rfl h0 fun h1=>ku rfl h1 fun h2=>ku rfl h2 fun h3=>ku rfl h3 fun h4=>ku rfl h4 fun h5=>ku rfl h5 fun h6=>ku rfl h6 fun h7=>ku rfl h7 fun h8=>ku rfl h8 fun h9=>ku rfl h9 fun h10=>ku rfl h10 fun h11=>ku rfl h11 fun h12=>ku rfl h12 fun h13=>ku rfl h13 fun h14=>ku rfl h14 fun h15=>(h15.trans rfl).symm
def DN (T:List (List Int)):Prop:=T.length<=1000000/\∀ t∈T,t.length=16/\ar t
open Classical in
noncomputable def qv (f:FuncId):Sx.Spec where
 fn:=f
 own:=[]
 rd:=[0]
 res:=[.one .bool]
 pre:=fun xs Hs Rs=>∃ u R T,xs=[u]/\Rs=[R]/\bj R u pq (T.map aM)/\DN T
 post:=fun xs Hs Rs v Hs' F=>∃ u R T,xs=[u]/\Rs=[R]/\bj R u pq (T.map aM)/\v=.bool (decide (mc T))
def IG:List Sx.Spec:=[oU,Ja,JG]
def Kv:∀ t∈IG,t.OK Tryz.prog:=av AA <| av Nf <| av N5 <| bQ
def sr1:Ja.res=[.one (.int .i64)]:=rfl
def sr2:JG.res=[.one .bool]:=rfl
def sc1 (n:Nat):(aK n [Cp.one (.int .i64)]≠[])=False:=by simp [aK,Cp.roots,Ck.root]
def UQ (n:Nat):(aK n [Cp.one .bool]≠[])=False:=by simp [aK,Cp.roots,Ck.root]
def Ku:List TV:=[.sv (.one (.sl (.var 0) (.var 1) (.var 2) (.var 3)))]
def ze:aG Tryz.prog IG 148 where
 Λ:=fun p=>if Oa p then some ⟨0,[(3,TI .i64 (.var 10))],[],12⟩else none
 args:=Ku
 mem:=[.ro 4 [.var 0] false]
 nv:=5
def Aa:aG Tryz.prog IG 103 where
 Λ:=fun p=>if Oa p then some ⟨0,[(3,TI .i64 (.var 10))],[],12⟩else none
 args:=Ku
 mem:=[.ro 4 [.var 0] false]
 nv:=5
def SG (ha:a.length=16) (hb:b.length=16) (h1:ar a) (h2:ar b):(∃ q,kZ 0 [.agg tk,.agg tk] q/\[.agg (aM a).toArray,.agg (aM b).toArray]=tL [.agg tk,.agg tk] q)/\W3 [.agg (aM a).toArray,.agg (aM b).toArray]:=by
 refine⟨⟨aO (a++b) false [],by simp [kZ,Jd,tk,bw,jD,cD,iY,List.replicate],?_⟩,?_⟩
 .rw[IP];have e1:kn (aO (a++b) false []) 0=a:=by
   apply aaL;intro j;unfold kn;rw[aao];by_cases hj:j<16
   .rw[aaE hj,aab ah];show some ((a++b).getD (0+j) 0)=_;rw[aaI,aak,aaH ah,aab ah];rfl
   .rw[aaq (by simp;omega),aaq ah];rfl
  have e2:kn (aO (a++b) false []) 16=b:=by
   apply aaL;intro j;unfold kn;rw[aao];by_cases hj:j<16
   .rw[aaE hj,aab ah];show some ((a++b).getD (16+j) 0)=_;rw[aak,aau ah,show 16+j-a.length=j by omega,aab ah];rfl
   .rw[aaq (by simp;omega),aaq ah];rfl
  rw[e1,e2];rfl
 .intro v hv;simp only[aar,aaB,abe]at hv;rcases hv with rfl | rfl
  .show ar (rB (.agg (a.map (Value.int .u8)).toArray));rw[gr];exact h1
  .show ar (rB (.agg (b.map (Value.int .u8)).toArray));rw[gr];exact h2
def BS (h:t.length=16):bg (aM t) pq:=by
 match t,h with
 | [_,_,_,_,_,_,_,_,_,_,_,_,_,_,_,_],_=>exact⟨rfl,rfl,rfl,rfl,rfl,rfl,rfl,rfl,rfl,rfl,rfl,rfl,rfl,rfl,rfl,rfl,zzT⟩
def vF (hx:0<=x) (hy:0<=y) (hc:∀ (i:Nat) row,(T.map aM)[i]?=some row->bg row pq/\∀ j u,row[j]?=some u->R.cell x.toNat (y.toNat+i*pq.length+j)=some u) (ht:T[i]?=some t) (hl:t.length=16) (hR:J.h h=R) {Y:E} (hX:aB J X=x) (hY:aB J Y=y+i*16) :
 bG R x.toNat (y+(i:Int)*16).toNat (Int.toNat 16)=true/\(aU h X Y 0 (List.replicate 16 (Kd.int .u8))).map (CV.ev J)=aM t:=by
 have h1:=(hc i (aM t) (by rw[aao,ht];rfl)).2;have hlen:pq.length=16:=rfl;rw[hlen]at h1;have hyi:(y+(i:Int)*16).toNat=y.toNat+i*16:=ah;constructor
 .unfold bG;rw[aaF];intro j hj;have hj:j<16:=aaO.1 hj;rw[hyi,h1 j (.int .u8 (t[j])) (by unfold aM;rw[aao,aab ah];rfl)];rfl
 .refine fa (aM t) _ 0 (BS hl) fun j u hu=>?_;rw[hR,hX,hY,hyi,aaI];exact h1 j u hu
def KX (hp:Ja.post [.agg (aM a).toArray,.agg (aM b).toArray] Hs Rs v K F):v=.int .i64 (lex a b):=by
 have hp:v=.int .i64 (lex (rB (.agg (a.map (Value.int .u8)).toArray)) (rB (.agg (b.map (Value.int .u8)).toArray))):=hp;rw[gr,gr]at hp;exact hp
def Lq (hp:JG.post [.agg (aM a).toArray,.agg (aM b).toArray] Hs Rs v K F):v=.bool (decide (lex a b<0)):=by
 have hp:v=.bool (decide (lex (rB (.agg (a.map (Value.int .u8)).toArray)) (rB (.agg (b.map (Value.int .u8)).toArray))<0)):=hp;rw[gr,gr]at hp;exact hp
open Classical in
def ux {f:FuncId} {b:Bool} (h:bj R (.slice (az x y) (T.map aM).length c) pq (T.map aM)) (hb:b=true↔mc T) (he:ba q e=b) {mem:Mem} : postOf (qv f) [.slice (az x y) (T.map aM).length c] [] [R] q mem (.sv (.one (.bool e))):=by
 intro _;refine⟨[],[],rfl,rfl,⟨⟨fun _=>0,fun _=>b,fun _=>.empty,fun _=>.tuple #[],fun _=>Hl.none⟩,by show Value.bool (ba q e)=_;rw[he];rfl,zzT,zzT⟩,_,R,T,rfl,rfl,h,?_⟩;show Value.bool (ba q e)=_;rw[he]
 congr 1
 rw[ab6,aaf];exact hb
def Bo:(qv 148).OK Tryz.prog:=by
 refine Spec.aS (Γ:=IG) Kv ?_;rintro xs Hs Rs hl1 hl2 ⟨u,R,T,rfl,rfl,hR,hT⟩;have e0:Hs=[]:=aad.1 hl1;subst e0;obtain⟨x,y,c,rfl,hy,hrows⟩:=id hR;refine⟨ze,aO [x,y,T.length,c] false [Hl.none,Hl.none,Hl.none,Hl.none,R],fun _ q=>∃ i:Nat,q.i 10=i/\1<=i/\i<=T.length+1/\∀ k,k+1<i->k+1<T.length->lex (T.getD k []) (T.getD (k+1) [])<0,fun _ q=>(T.length-q.i 10).toNat,?_,⟨?_,?_,?_,?_⟩,(fun _ h=>nomatch h),?_⟩
 .rw[aaz];show [Value.slice (az x y) ((T.length:Int)).toNat ((c:Int)).toNat]=_;rw[aaa,aaa]
 .intro r hr ho;simp [ze]at hr;subst hr;cases ho
 .intro r hr ho;simp [ze]at hr;subst hr;exact⟨R,aF,Hl.le_refl _⟩
 .simp [ze]
 .intro r hr;simp [ze]at hr;subst hr;trivial
 .refine aG.read [] [] [] ?_;generalize hρ:aO [x,y,T.length,c] false [Hl.none,Hl.none,Hl.none,Hl.none,R]=J;have v0:J.i 0=x:=by rw[<-hρ];rfl
  have v1:J.i 1=y:=by rw[<-hρ];rfl
  have v2:J.i 2=T.length:=by rw[<-hρ];rfl
  have w4:J.h 4=R:=by rw[<-hρ];rfl
  clear hρ;simp only[go_sem,Nat.reduceAdd,IG,sr1,sc1];refine⟨⟨1,rfl,aaw _,ah,fun k h=>ah⟩,fun q g ⟨i,ei,hi1,hi2,hlt⟩=>?_⟩;have hTl:=hT.1;rw[g.i 2,v2,ei,g.i 0,v0,g.i 1,v1,g.h 4,w4];have ew:IntKind.i64.wrap ((i:Int)-1)=((i-1:Nat):Int):=by rw[IntWalk.i64_in _ ah];omega
  rw[ew];refine⟨ah,fun h=>?_,fun h=>?_⟩
  .have hiT:i<T.length:=ah;rcases hrows with hn | ⟨hx,hc⟩
   .rw[abI]at hn;rw[hn]at hiT;cases hiT
   have ht1:T[i-1]?=some (T[i-1]):=aab ah;have ht2:T[i]?=some (T[i]):=aab hiT;have m1:=hT.2 _ (aae ht1);have m2:=hT.2 _ (aae ht2);obtain⟨b1,r1⟩:=vF (J:=q) (h:=4) (X:=.var 0) (Y:=(E.var 1).add ((E.wrap IntKind.i64 ((E.var 10).sub (E.lit 1))).mul (E.lit 16))) hx hy hc ht1 m1.1 (by rw[g.h 4,w4]) (by rw[ak,g.i 0,v0]) (by
    simp only[bJ,cj,bx,cQ,ak,aq];rw[g.i 1,v1,ei,ew])
   obtain⟨b2,r2⟩:=vF (J:=q) (h:=4) (X:=.var 0) (Y:=(E.var 1).add ((E.var 10).mul (E.lit 16))) hx hy hc ht2 m2.1 (by rw[g.h 4,w4]) (by rw[ak,g.i 0,v0]) (by
    simp only[bJ,cj,ak,aq];rw[g.i 1,v1,ei])
   rw[r1,r2];refine⟨hx,hy,ah,ah,b1,ah,b2,SG m1.1 m2.1 m1.2 m2.2,fun q1 g1 ⟨F,hp,_⟩=>?_⟩;have hv:=KX hp;have hv:q1.i 12=lex T[i-1] T[i]:=by simpa using hv
   have d1:T.getD (i-1) []=T[i-1]:=by rw[aak,ht1];rfl
   have d2:T.getD (i-1+1) []=T[i]:=by rw[show i-1+1=i by omega,aak,ht2];rfl
   have ew2:IntKind.i64.wrap (q1.i 10+1)=((i+1:Nat):Int):=by rw[g1.i 10,ei,IntWalk.i64_in _ ah];omega
   rw[hv];refine⟨fun hge=>ux (b:=false) hR ⟨aF,fun hS=>?_⟩ rfl,fun hl=>⟨⟨i+1,ew2,ah,ah,fun k hk hkT=>?_⟩,?_⟩⟩
   .have:=hS (i-1) ah;rw[d1,d2]at this;omega
   .rcases aa9 (k+1) i with h1 | h1
    .exact hlt k h1 hkT
    .obtain rfl:k=i-1:=ah;rw[d1,d2];omega
   .show((T.length:Int)-IntKind.i64.wrap (q1.i 10+1)).toNat<_;rw[ew2];omega
  .exact ux (b:=true) hR ⟨fun _ k hk=>hlt k ah hk,fun _=>rfl⟩ rfl
def LW:(qv 103).OK Tryz.prog:=by
 refine Spec.aS (Γ:=IG) Kv ?_;rintro xs Hs Rs hl1 hl2 ⟨u,R,T,rfl,rfl,hR,hT⟩;have e0:Hs=[]:=aad.1 hl1;subst e0;obtain⟨x,y,c,rfl,hy,hrows⟩:=id hR;refine⟨Aa,aO [x,y,T.length,c] false [Hl.none,Hl.none,Hl.none,Hl.none,R],fun _ q=>∃ i:Nat,q.i 10=i/\i<=T.length/\∀ k,k<i->k+1<T.length->lex (T.getD k []) (T.getD (k+1) [])<0,fun _ q=>(T.length-q.i 10).toNat,?_,⟨?_,?_,?_,?_⟩,(fun _ h=>nomatch h),?_⟩
 .rw[aaz];show [Value.slice (az x y) ((T.length:Int)).toNat ((c:Int)).toNat]=_;rw[aaa,aaa]
 .intro r hr ho;simp [Aa]at hr;subst hr;cases ho
 .intro r hr ho;simp [Aa]at hr;subst hr;exact⟨R,aF,Hl.le_refl _⟩
 .simp [Aa]
 .intro r hr;simp [Aa]at hr;subst hr;trivial
 .refine aG.read [] [] [] ?_;generalize hρ:aO [x,y,T.length,c] false [Hl.none,Hl.none,Hl.none,Hl.none,R]=J;have v0:J.i 0=x:=by rw[<-hρ];rfl
  have v1:J.i 1=y:=by rw[<-hρ];rfl
  have v2:J.i 2=T.length:=by rw[<-hρ];rfl
  have w4:J.h 4=R:=by rw[<-hρ];rfl
  clear hρ;simp only[go_sem,Nat.reduceAdd,IG,sr2,UQ];refine⟨⟨0,rfl,ah,fun k h=>ah⟩,fun q g ⟨i,ei,hi2,hlt⟩=>?_⟩;have hTl:=hT.1;rw[g.i 2,v2,ei,g.i 0,v0,g.i 1,v1,g.h 4,w4];have ew:IntKind.i64.wrap ((i:Int)+1)=((i+1:Nat):Int):=by rw[IntWalk.i64_in _ ah];omega
  rw[ew];refine⟨ah,fun h=>?_,fun h=>?_⟩
  .have hiT:i+1<T.length:=ah;rcases hrows with hn | ⟨hx,hc⟩
   .rw[abI]at hn;rw[hn]at hiT;cases hiT
   have ht1:T[i]?=some (T[i]):=aab ah;have ht2:T[i+1]?=some (T[i+1]):=aab hiT;have m1:=hT.2 _ (aae ht1);have m2:=hT.2 _ (aae ht2);obtain⟨b1,r1⟩:=vF (J:=q) (h:=4) (X:=.var 0) (Y:=(E.var 1).add ((E.var 10).mul (E.lit 16))) hx hy hc ht1 m1.1 (by rw[g.h 4,w4]) (by rw[ak,g.i 0,v0]) (by
    simp only[bJ,cj,ak,aq];rw[g.i 1,v1,ei])
   obtain⟨b2,r2⟩:=vF (J:=q) (h:=4) (X:=.var 0) (Y:=(E.var 1).add ((E.wrap IntKind.i64 ((E.var 10).add (E.lit 1))).mul (E.lit 16))) hx hy hc ht2 m2.1 (by rw[g.h 4,w4]) (by rw[ak,g.i 0,v0]) (by
    simp only[bJ,cj,bx,ak,aq];rw[g.i 1,v1,ei,ew])
   rw[r1,r2];refine⟨hx,hy,ah,ah,b1,ah,b2,⟨(SG m1.1 m2.1 m1.2 m2.2).1,zzT⟩,fun q1 g1 ⟨F,hp,_⟩=>?_⟩;have hv:=Lq hp;have hv:q1.b 12=decide (lex T[i] T[i+1]<0):=by simpa [br] using hv
   have d1:T.getD i []=T[i]:=by rw[aak,ht1];rfl
   have d2:T.getD (i+1) []=T[i+1]:=by rw[aak,ht2];rfl
   have ew2:IntKind.i64.wrap (q1.i 10+1)=((i+1:Nat):Int):=by rw[g1.i 10,ei,ew]
   rw[hv,aaf];refine⟨fun hge=>ux (b:=false) hR ⟨aF,fun hS=>?_⟩ rfl,fun hl=>⟨⟨i+1,ew2,ah,fun k hk hkT=>?_⟩,?_⟩⟩
   .have:=hS i ah;rw[d1,d2]at this;exact absurd this hge
   .rcases aa9 k i with h1 | h1
    .exact hlt k h1 hkT
    .obtain rfl:k=i:=ah;rw[d1,d2];exact hl
   .show((T.length:Int)-IntKind.i64.wrap (q1.i 10+1)).toNat<_;rw[ew2];omega
  .exact ux (b:=true) hR ⟨fun _ k hk=>hlt k ah hk,fun _=>rfl⟩ rfl
end Go.Proofs.YtomdimlnggpgbaaGreatDoor
namespace Go.Proofs.YtomdimlnggpgbaaGreatDoor
open Go Go.Sx Go.Pk
variable {q q1:Env}{f:FuncId}{F R R':Hl}{z:Int}{T:List (List Int)}{ks:List Kd}{row:List Value}{c k n:Nat}{u v:Value}
def i64:Ck:=.int .i64
def bT:List Ck:=[i64,.int .u64]++List.replicate 32 (.int .u8)++[i64,.bool,.int .u64]++List.replicate 16 (.int .u8)++[.sl]++List.replicate 6 (.int .u64)++List.replicate 32 (.int .u8)++[i64]++List.replicate 32 (.int .u8)
def ef:List Kd:=bT.map kc
def cI (l:List Value) (k:Nat):Int:=bS l[k]?
def cB (l:List Value) (k:Nat):Bool:=xm l[k]?
def ik (z:Int):Prop:=z=64\/z=128\/z=256\/z=512\/z=1024\/z=2048
instance (z:Int):Decidable (ik z):=by unfold ik;exact inferInstance
def KQ (z:Int):Int:=if z<64 then 64 else if z<128 then 128 else if z<256 then 256 else if z<512 then 512 else if z<1024 then 1024 else if z<2048 then 2048 else 0
def kq (z:Int):Prop:= -9223372036854775808<=z/\z<9223372036854775808
def Wz (xs:List Value):Value:=.bool (decide (ik (bS xs[0]?)))
def Ue:Sx.Spec:=qe 149 [.one i64] [.one .bool] (fun xs=>kq (bS xs[0]?)) Wz
def R0 (xs:List Value):Value:=.int .i64 (KQ (bS xs[0]?))
def M4:Sx.Spec:=qe 104 [.one i64] [.one i64] (fun _=>True) R0
def YZ:aG Tryz.prog [] 149 where
 Λ:=aD
 args:=(bV 0 [.one i64]).map .sv
 mem:=[]
 nv:=1
def Vn:aG Tryz.prog [] 104 where
 Λ:=aD
 args:=(bV 0 [.one i64]).map .sv
 mem:=[]
 nv:=1
def MI (h:kq z):IntKind.i64.wrap (z-1)=z-1\/IntKind.i64.wrap (z-1)=9223372036854775807/\z= -9223372036854775808:=by
 unfold kq at h;by_cases h1:z= -9223372036854775808
 .right;subst h1;exact⟨aA,rfl⟩
 .left;exact IntWalk.i64_in _ ah
def vV {b:Bool} {p:Prop} {_:Decidable p} (h:b=true↔p):Value.bool b=.bool (decide p):=by
 congr 1
 rw[ab6,aaf];exact h
def Q5:Ue.OK Tryz.prog:=by
 refine jH (Γ:=[]) (fun t ht=>by cases ht) YZ rfl rfl rfl (fun q _ _=>oO _) (fun q hq hN=>⟨fun _ _=>True,fun _ _=>0,?_⟩);have hN:kq (q.i 0):=hN;have eG:Wz (tL [.one i64] q)=.bool (decide (ik (q.i 0))):=rfl;simp only[eG];refine aG.read [] [] [] ?_;simp only[go_sem,Nat.reduceAdd,cJ,de];have hw:=MI hN;generalize IntKind.i64.wrap (q.i 0-1)=y at hw ⊢;have lf:∀ {m:Int},(m=q.i 0↔ik (q.i 0))->Value.bool (ba q (.eq (.lit m) (.var 0)))=.bool (decide (ik (q.i 0))):=fun {m} h=>vV (by rw[gn,aq,ak];exact h);have ff:¬ik (q.i 0)->Value.bool false=.bool (decide (ik (q.i 0))):=fun h=>vV ⟨fun e=>(by cases e),fun e=>absurd e h⟩;unfold ik at lf ff ⊢;exact⟨fun h=>ff ah,fun h0=>⟨fun h=>lf ah,fun h1=>⟨fun h=>lf ah,fun h2=>⟨fun h=>lf ah,fun h3=>⟨fun h=>lf ah,fun h4=>⟨fun h=>lf ah,fun h5=>⟨fun h=>lf ah,fun h6=>ff ah⟩⟩⟩⟩⟩⟩⟩
def M5:M4.OK Tryz.prog:=by
 refine jH (Γ:=[]) (fun t ht=>by cases ht) Vn rfl rfl rfl (fun q _ _=>vA _) (fun q hq hN=>⟨fun _ _=>True,fun _ _=>0,?_⟩);have eG:R0 (tL [.one i64] q)=.int .i64 (KQ (q.i 0)):=rfl;simp only[eG];refine aG.read [] [] [] ?_;simp only[go_sem,Nat.reduceAdd];intro q1 g1 _;rw[g1.i 0];unfold KQ;exact⟨fun h=>by rw[aav h],fun h0=>⟨fun h=>by rw[aan h0,aav h],fun h1=>⟨fun h=>by rw[aan h0,aan h1,aav h],fun h2=>⟨fun h=>by rw[aan h0,aan h1,aan h2,aav h],fun h3=>⟨fun h=>by rw[aan h0,aan h1,aan h2,aan h3,aav h],fun h4=>⟨fun h=>by rw[aan h0,aan h1,aan h2,aan h3,aan h4,aav h],fun h5=>by rw[aan h0,aan h1,aan h2,aan h3,aan h4,aan h5]⟩⟩⟩⟩⟩⟩
def sX (f:Nat->Int):Nat->Nat->Prop
 | _,0=>True
 | n,1=>f n=0
 | n,k+2=>f n=0/\sX f (n+1) (k+1)
def DY {f:Nat->Int} : ∀ (k n:Nat),sX f n k↔∀ j,j<k->f (n+j)=0
 | 0,n=>⟨fun _ j h=>ah,fun _=>trivial⟩
 | 1,n=>⟨fun h j hj=>(by cases j with
  | zero=>exact h
  | succ j=>omega),fun h=>h 0 ah⟩
 | k+2,n=>by
  show(f n=0/\sX f (n+1) (k+1))↔_;rw[DY (k+1) (n+1)];constructor
  .rintro⟨h0,h⟩ j hj;cases j with
   | zero=>exact h0
   | succ j=>have:=h j ah;rwa[show n+1+j=n+(j+1)by omega]at this
  .exact fun h=>⟨h 0 ah,fun j hj=>by have:=h (j+1) ah;rwa[show n+(j+1)=n+1+j by omega]at this⟩
instance zerDec (f:Nat->Int):∀ (k n:Nat),Decidable (sX f n k)
 | 0,_=>isTrue trivial
 | 1,n=>(inferInstance:Decidable (f n=0))
 | k+2,n=>have:=zerDec f (k+1) (n+1);(inferInstance:Decidable (f n=0/\sX f (n+1) (k+1)))
def dt (l:List Value):Prop:=(1<=cI l 0/\cI l 0<=6)/\(1<=cI l 1/\cI l 1<=1048576)/\(0<=cI l 34/\cI l 34<=255)/\cI l 36<=1099511627776/\cI l (54+(cI l 0-1).toNat)=cI l 1-1/\(cI l 54<=1048576/\cI l 55<=1048576/\cI l 56<=1048576/\cI l 57<=1048576/\cI l 58<=1048576/\cI l 59<=1048576)/\(1<cI l 1\/sX (cI l) 2 32)
instance (l:List Value):Decidable (dt l):=by unfold dt;exact inferInstance
def Zp (v:Value):List Value:=match v with
 | .agg a=>a.toList
 | _=>[]
def JZ (xs:List Value):Value:=.bool (decide (dt (Zp (xs.getD 0 (.bool false)))))
def Df:Sx.Spec:=qe 147 [.agg bT] [.one .bool] (fun _=>True) JZ
def Q9:aG Tryz.prog [] 147 where
 Λ:=aD
 args:=(bV 0 [.agg bT]).map .sv
 mem:=[]
 nv:=128
def aC (q:Env) (n:Nat):List Value:=(al n bT).map (CV.ev q)
def E3 (q:Env) (h:1<=q.i 0/\q.i 0<=6):cI (aC q 0) (54+(q.i 0-1).toNat)=if q.i 0-1=0 then q.i 57 else if q.i 0-1=1 then q.i 58 else if q.i 0-1=2 then q.i 59 else if q.i 0-1=3 then q.i 60 else if q.i 0-1=4 then q.i 61 else q.i 62:=by
 have:q.i 0=1\/q.i 0=2\/q.i 0=3\/q.i 0=4\/q.i 0=5\/q.i 0=6:=ah;rcases this with e | e | e | e | e | e<;>rw[e]<;>rfl
def cE (g:ai 128 q q1):aC q1 0=aC q 0:=by
 have h:=fH (n:=0) (ks:=bT) g (ab2 zzK);exact aaG (Value.agg.inj h)
def Ic:Df.OK Tryz.prog:=by
 refine jH (Γ:=[]) (fun t ht=>by cases ht) Q9 rfl rfl rfl (fun q _ _=>oO _) (fun q hq hN=>⟨fun _ _=>True,fun _ _=>0,?_⟩);have eG:JZ (tL [.agg bT] q)=.bool (decide (dt (aC q 0))):=rfl;simp only[eG];refine aG.read [] [] [] ?_;simp only[go_sem,Nat.reduceAdd,cJ,de];intro q1 g1 _;rw[<-cE g1];clear g1;have eP:dt (aC q1 0)↔((1<=q1.i 0/\q1.i 0<=6)/\(1<=q1.i 1/\q1.i 1<=1048576)/\(0<=q1.i 34/\q1.i 34<=255)/\q1.i 36<=1099511627776/\cI (aC q1 0) (54+(q1.i 0-1).toNat)=q1.i 1-1/\(q1.i 57<=1048576/\q1.i 58<=1048576/\q1.i 59<=1048576/\q1.i 60<=1048576/\q1.i 61<=1048576/\q1.i 62<=1048576)/\(1<q1.i 1\/sX (cI (aC q1 0)) 2 32)):=adg;have eK:=E3 q1;have eZ:ba q1 (.and (.eq (.var 2) (.lit 0)) (.and (.eq (.var 3) (.lit 0)) (.and (.eq (.var 4) (.lit 0)) (.and (.eq (.var 5) (.lit 0)) (.and (.eq (.var 6) (.lit 0)) (.and (.eq (.var 7) (.lit 0)) (.and (.eq (.var 8) (.lit 0)) (.and (.eq (.var 9) (.lit 0)) (.and (.eq (.var 10) (.lit 0)) (.and (.eq (.var 11) (.lit 0)) (.and (.eq (.var 12) (.lit 0)) (.and (.eq (.var 13) (.lit 0)) (.and (.eq (.var 14) (.lit 0)) (.and (.eq (.var 15) (.lit 0)) (.and (.eq (.var 16) (.lit 0)) (.and (.eq (.var 17) (.lit 0)) (.and (.eq (.var 18) (.lit 0)) (.and (.eq (.var 19) (.lit 0)) (.and (.eq (.var 20) (.lit 0)) (.and (.eq (.var 21) (.lit 0)) (.and (.eq (.var 22) (.lit 0)) (.and (.eq (.var 23) (.lit 0)) (.and (.eq (.var 24) (.lit 0)) (.and (.eq (.var 25) (.lit 0)) (.and (.eq (.var 26) (.lit 0)) (.and (.eq (.var 27) (.lit 0)) (.and (.eq (.var 28) (.lit 0)) (.and (.eq (.var 29) (.lit 0)) (.and (.eq (.var 30) (.lit 0)) (.and (.eq (.var 31) (.lit 0)) (.and (.eq (.var 32) (.lit 0)) (.eq (.var 33) (.lit 0)))))))))))))))))))))))))))))))))=true↔sX (cI (aC q1 0)) 2 32:=by
  simp only[iW,gn,ak,aq];exact adg
 have ff:¬dt (aC q1 0)->Value.bool false=.bool (decide (dt (aC q1 0))):=fun h=>vV ⟨fun e=>(by cases e),fun e=>absurd e h⟩;have tt:dt (aC q1 0)->Value.bool true=.bool (decide (dt (aC q1 0))):=fun h=>vV ⟨fun _=>h,fun _=>rfl⟩;have zz:(sX (cI (aC q1 0)) 2 32↔dt (aC q1 0))->Value.bool (ba q1 (.and (.eq (.var 2) (.lit 0)) (.and (.eq (.var 3) (.lit 0)) (.and (.eq (.var 4) (.lit 0)) (.and (.eq (.var 5) (.lit 0)) (.and (.eq (.var 6) (.lit 0)) (.and (.eq (.var 7) (.lit 0)) (.and (.eq (.var 8) (.lit 0)) (.and (.eq (.var 9) (.lit 0)) (.and (.eq (.var 10) (.lit 0)) (.and (.eq (.var 11) (.lit 0)) (.and (.eq (.var 12) (.lit 0)) (.and (.eq (.var 13) (.lit 0)) (.and (.eq (.var 14) (.lit 0)) (.and (.eq (.var 15) (.lit 0)) (.and (.eq (.var 16) (.lit 0)) (.and (.eq (.var 17) (.lit 0)) (.and (.eq (.var 18) (.lit 0)) (.and (.eq (.var 19) (.lit 0)) (.and (.eq (.var 20) (.lit 0)) (.and (.eq (.var 21) (.lit 0)) (.and (.eq (.var 22) (.lit 0)) (.and (.eq (.var 23) (.lit 0)) (.and (.eq (.var 24) (.lit 0)) (.and (.eq (.var 25) (.lit 0)) (.and (.eq (.var 26) (.lit 0)) (.and (.eq (.var 27) (.lit 0)) (.and (.eq (.var 28) (.lit 0)) (.and (.eq (.var 29) (.lit 0)) (.and (.eq (.var 30) (.lit 0)) (.and (.eq (.var 31) (.lit 0)) (.and (.eq (.var 32) (.lit 0)) (.eq (.var 33) (.lit 0))))))))))))))))))))))))))))))))))=.bool (decide (dt (aC q1 0))):=fun h=>vV (eZ.trans h);generalize Value.bool (decide (dt (aC q1 0)))=V at ff tt zz ⊢;rw[eP]at ff tt zz;clear eP eZ;refine⟨fun h=>ff ah,fun h0=>⟨fun h=>ff ah,fun h1=>?_⟩⟩;have eK:=eK ah;have w0:IntKind.i64.wrap (q1.i 0-1)=q1.i 0-1:=IntWalk.i64_in _ ah;rw[w0];rw[<-eK];generalize cI (aC q1 0) (54+(q1.i 0-1).toNat)=K at ff tt zz ⊢;generalize sX (cI (aC q1 0)) 2 32=Z at ff tt zz;refine⟨fun h=>ff ah,fun h2=>⟨fun h=>ff ah,fun h3=>?_⟩⟩;have w1:IntKind.u64.wrap (q1.i 1-1)=q1.i 1-1:=mY ah ah;rw[w1];refine⟨fun h=>ff ah,fun h4=>⟨fun h=>ff ah,fun h5=>⟨fun h=>ff ah,fun h6=>⟨ah,ah,fun h=>ff ah,fun h7=>?_⟩⟩⟩⟩;refine⟨fun h=>ff ah,fun k0=>⟨fun h=>ff ah,fun k1=>⟨fun h=>ff ah,fun k2=>⟨fun h=>ff ah,fun k3=>⟨fun h=>ff ah,fun k4=>⟨fun h=>ff ah,fun k5=>⟨fun h=>zz ⟨fun z=>?_,fun z=>?_⟩,fun h=>tt ?_⟩⟩⟩⟩⟩⟩⟩
 .exact⟨ah,ah,ah,ah,h7,ah,Or.inr z⟩
 .rcases z.2.2.2.2.2.2 with z | z
  .omega
  .exact z
 .exact⟨ah,ah,ah,ah,h7,ah,Or.inl h⟩
def xl:Value->Prop
 | .int .u8 z=>0<=z/\z<256
 | .int .u64 z=>0<=z/\z<18446744073709551616
 | .int .i64 z=>kq z
 | _=>True
structure Hd where
 c:List Value
 t:List (List Int)
variable {h h':Hd}
def Hd.Form (h:Hd):Prop:=dt h.c/\h.t.length<=8/\mc h.t/\ik (cI h.c 92-16)/\(cB h.c 35=true->h.t=[]/\sX (cI h.c) 37 16)
structure bM (R:Hl) (row:List Value) (h:Hd):Prop where
 ok:bg row ef
 rng:∀ v∈row,xl v
 core:h.c=row.set 53 (.bool false)
 tok:bj R (row.getD 53 (.bool false)) pq (h.t.map aM)
 byte:DN h.t
def gN {rows:List (List Value)} (h:bj R v ks rows) (hl:R.le R'):bj R' v ks rows:=by
 obtain⟨x,y,c,e,hy,h⟩:=h;refine⟨x,y,c,e,hy,h.imp id fun⟨hx,h⟩=>⟨hx,fun i row hr=>⟨(h i row hr).1,fun j u hu=>?_⟩⟩⟩;have hc:=(h i row hr).2 j u hu;unfold Hl.cell at hc ⊢;cases hR:R x.toNat with
 | none=>rw[hR]at hc;cases hc
 | some o=>rw[hl _ _ hR];rw[hR]at hc;exact hc
def bM.mono (x:bM R row h) (hl:R.le R'):bM R' row h:=⟨x.ok,x.rng,x.core,gN x.tok hl,x.byte⟩
def ju:∀ {a b:List (List Int)},a.map aM=b.map aM->a=b
 | [],[],_=>rfl
 | [],_::_,h=>by cases h
 | _::_,[],h=>by cases h
 | u::a,v::b,h=>by
  simp only[aaC,aag]at h;rw[ky h.1,ju h.2]
def bM.uniq (x:bM R row h) (y:bM R row h'):h=h':=by
 obtain⟨c,t⟩:=h;obtain⟨c',t'⟩:=h';have e1:c=c':=x.core.trans y.core.symm;have e3:t=t':=ju (x.tok.uniq y.tok);rw[e1,e3]
def Tm (h:k≠53):cI (row.set 53 (.bool false)) k=cI row k:=by
 unfold cI;rw[abj ah]
def Tl (h:k≠53):cB (row.set 53 (.bool false)) k=cB row k:=by
 unfold cB;rw[abj ah]
def bM.I (x:bM R row h) (hk:k≠53):cI h.c k=cI row k:=by rw[x.core,Tm hk]
def bM.B (x:bM R row h) (hk:k≠53):cB h.c k=cB row k:=by rw[x.core,Tl hk]
def vJ {f g:Nat->Int} (h:∀ j,j<k->f (n+j)=g (n+j)):sX f n k↔sX g n k:=by
 rw[DY,DY];exact⟨fun hf j hj=>by rw[<-h j hj];exact hf j hj,fun hg j hj=>by rw[h j hj];exact hg j hj⟩
def bM.form (x:bM R row h):h.Form↔(dt row/\h.t.length<=8/\mc h.t/\ik (cI row 92-16)/\(cB row 35=true->h.t=[]/\sX (cI row) 37 16)):=by
 have e1:dt h.c↔dt row:=by
  unfold dt;have hz:sX (cI h.c) 2 32↔sX (cI row) 2 32:=vJ fun j hj=>x.I ah;have hk:cI h.c (54+(cI row 0-1).toNat)=cI row (54+(cI row 0-1).toNat):=x.I ah;rw[x.I (k:=0) aA,x.I (k:=1) aA,x.I (k:=34) aA,x.I (k:=36) aA,x.I (k:=54) aA,x.I (k:=55) aA,x.I (k:=56) aA,x.I (k:=57) aA,x.I (k:=58) aA,x.I (k:=59) aA,hz,hk]
 have e2:sX (cI h.c) 37 16↔sX (cI row) 37 16:=vJ fun j hj=>x.I ah;unfold Hd.Form;rw[e1,e2,x.I (k:=92) aA,x.B (k:=35) aA]
def mj (h:bg row ef):∃ q:Env,row=aC q 0/\q.h 130=R/\bw 0 bT q/\0<=q.i 54/\0<=q.i 55/\0<=q.i 56:=by
 obtain⟨q,_,hn,e⟩:=cH bT 0 row (aY fun _=>0) h;have hs:∀ (a b:List Ck) (n:Nat),bw n (a++b) q->bw (n+aW a) b q:=by
  intro a
  induction a with
  | nil=>intro b n h;simpa [aW] using h
  | cons k a ih =>
   intro b n h;have:=ih b (n+k.len) h.2;rw[show n+k.len+aW a=n+aW (k::a)by simp [aW];omega]at this;exact this
 have hn0:=hn;have hn:bw 0 (bT.take 53++(.sl::bT.drop 54)) q:=hn;have hs:=(hs (bT.take 53) (.sl::bT.drop 54) 0 hn).1;exact⟨⟨q.i,q.b,q.s,q.v,fun k=>if k=130 then R else Hl.none⟩,e.symm,rfl,hn0,hs.2.1,hs.2.2.1,hs.2.2.2⟩
open Classical in
noncomputable def gM (f:FuncId):Sx.Spec where
 fn:=f
 own:=[]
 rd:=[10053]
 res:=[.one .bool]
 pre:=fun xs Hs Rs=>∃ row R h,xs=[.agg row.toArray]/\Rs=[R]/\bM R row h
 post:=fun xs Hs Rs v Hs' F=>∃ row R h,xs=[.agg row.toArray]/\Rs=[R]/\bM R row h/\v=.bool (decide h.Form)
noncomputable def EG:List Sx.Spec:=[qv 148,qv 103,Ue,M4,Df]
def Js:∀ t∈EG,t.OK Tryz.prog:=av Bo <| av LW <| av Q5 <| av M5 <| av Ic <| bQ
def Yv:EG[1]?=some (qv 103):=rfl
def VW (f:FuncId):(qv f).res=[.one .bool]:=rfl
def fr2:Ue.res=[.one .bool]:=rfl
def fr3:M4.res=[.one (.int .i64)]:=rfl
def fr4:Df.res=[.one .bool]:=rfl
noncomputable def yC:aG Tryz.prog EG 117 where
 Λ:=aD
 args:=(bV 0 [.agg bT]).map .sv
 mem:=[.ro 130 [.var 53] false]
 nv:=131
def rP:0+aW bT<=128:=ab2 zzK
def Dj {p:Option Addr} (h:bj R (.slice p n c) ks (T.map aM)):n=T.length:=by
 obtain⟨x,y,c',e,_⟩:=h;simp only[Value.slice.injEq,aaz]at e;exact e.2.1
def RV (z:Int):kq (IntKind.i64.wrap z):=by
 unfold kq;rw[IntKind.wrap_i64];omega
def OF (h:kq z):ik (IntKind.i64.wrap (z-16))↔ik (z-16):=by
 unfold kq at h;unfold ik;rw[IntKind.wrap_i64];omega
def tN (h:ik (z-16)):80<=z/\z<=2064:=by
 unfold ik at h;omega
def M6 (h1:80<=z) (h2:z<=2064):KQ (IntKind.i64.wrap (z-17))=IntKind.i64.wrap (z-16)↔ik (z-16):=by
 rw[IntWalk.i64_in (z-17) ah,IntWalk.i64_in (z-16) ah];unfold KQ ik
 repeat' split
 all_goals omega
def ye (P:Prop):∃ z:Int,P↔z=1:=by
 by_cases h:P
 .exact⟨1,fun _=>rfl,fun _=>h⟩
 .exact⟨0,fun x=>absurd x h,fun x=>absurd x aA⟩
open Classical in
def ni (hx:bM R row h) {e:E} (hb:ba q e=true↔h.Form) {mem:Mem} : postOf (gM f) [.agg row.toArray] [] [R] q mem (.sv (.one (.bool e))):=by
 intro _;exact⟨[],[],rfl,rfl,⟨⟨fun _=>0,fun _=>ba q e,fun _=>.empty,fun _=>.tuple #[],fun _=>Hl.none⟩,rfl,zzT,zzT⟩,_,R,h,rfl,rfl,hx,vV hb⟩
open Classical in
def B7 {Hs K:List Hl} (h:bj R u pq (T.map aM)) (hp:(qv f).post [u] Hs [R] v K F):v=.bool (decide (mc T)):=by
 obtain⟨u',R',T',e1,e2,hR,hv⟩:=hp;simp only[aag,aat]at e1 e2;subst e1 e2;rw[ju (h.uniq hR)];exact hv
open Classical in
def nh:(gM 117).OK Tryz.prog:=by
 refine Spec.aS (Γ:=EG) Js ?_;rintro xs Hs Rs hl1 hl2 ⟨row,R,h,rfl,rfl,hx⟩;have e0:Hs=[]:=aad.1 hl1;subst e0;obtain⟨J,rfl,w130,hnw,n54,n55,n56⟩:=mj (R:=R) hx.ok;refine⟨yC,J,fun _ _=>True,fun _ _=>0,?_,⟨?_,?_,?_,?_⟩,(fun _ h=>nomatch h),?_⟩
 .rfl
 .intro r hr ho;simp [yC]at hr;subst hr;cases ho
 .intro r hr ho;simp [yC]at hr;subst hr;exact⟨R,aF,by show(J.h 130).le R;rw[w130];exact Hl.le_refl _⟩
 .simp [yC]
 .intro r hr;simp [yC]at hr;subst hr;trivial
 .refine aG.read [bT] [] [] ?_;simp only[go_sem,Nat.reduceAdd,EG,VW,fr2,fr4,UQ];have hF:=hx.form;have hT:=hx.tok;have hT:bj R (.slice (az (J.i 53) (J.i 54)) (J.i 55).toNat (J.i 56).toNat) pq (h.t.map aM):=hT;have hlen:(J.i 55).toNat=h.t.length:=Dj hT;have h92:cI (aC J 0) 92=J.i 95:=rfl;have h35:cB (aC J 0) 35=J.b 35:=rfl;have h92in:kq (J.i 95):=hx.rng (.int .i64 (J.i 95)) (aae (i:=92) rfl);rw[h92,h35]at hF;intro q1 g1 _;have V5:aC q1 0=aC J 0:=cE g1.mono;refine⟨⟨⟨q1,⟨kV g1.mono bT 0 rP hnw,zzT⟩,rfl⟩,zzT⟩,fun q2 g2 ⟨F2,hp2,_⟩=>?_⟩;have hp2:Value.bool (q2.b 132)=.bool (decide (dt (aC q1 0))):=hp2;rw[V5]at hp2;simp only[Value.bool.injEq]at hp2;rw[hp2,aaf];have G2:ai 131 J q2:=g1.tr g2;rw[G2.i 55,G2.i 53,G2.i 54,G2.i 56,G2.h 130,w130];have ff:∀ {q:Env} {mem:Mem},¬h.Form->postOf (gM 117) [.agg (aC J 0).toArray] [] [R] q mem (.sv (.one (.bool .ff))):=fun hf=>ni hx ⟨fun e=>(by rw[de]at e;cases e),fun e=>absurd e hf⟩;refine⟨fun hpl=>⟨n55,fun h8=>⟨⟨_,R,h.t,rfl,rfl,hT,hx.byte⟩,fun q3 g3 ⟨F3,hp3,_⟩=>?_⟩,fun h8=>ff fun hf=>?_⟩,fun hpl=>ff fun hf=>hpl (hF.1 hf).1⟩
  .have hs:=B7 hT hp3;have hs:q3.b 133=decide (mc h.t):=by simpa [br] using hs
   rw[hs,aaf];have G3:ai 131 J q3:=G2.tr g3;rw[G3.i 95];refine⟨fun hso=>⟨⟨⟨aO [IntKind.i64.wrap (J.i 95-16)] false [],⟨zzT,zzT⟩,rfl⟩,RV _⟩,fun q4 g4 ⟨F4,hp4,_⟩=>?_⟩,fun hso=>ff fun hf=>hso (hF.1 hf).2.2.1⟩;have hp4:Value.bool (q4.b 134)=.bool (decide (ik (IntKind.i64.wrap (J.i 95-16)))):=hp4;simp only[Value.bool.injEq]at hp4;rw[hp4,aaf,OF h92in];have G4:ai 131 J q4:=G3.tr g4;rw[G4.b 35,G4.i 55];refine⟨fun hpd=>ff fun hf=>hpd (hF.1 hf).2.2.2.1,fun hpd=>⟨fun hc=>⟨fun hz=>ni hx ?_,fun hz=>ff fun hf=>?_⟩,fun hc=>ni hx ?_⟩⟩
   .have eZ:ba q4 (.and (.eq (.var 37) (.lit 0)) (.and (.eq (.var 38) (.lit 0)) (.and (.eq (.var 39) (.lit 0)) (.and (.eq (.var 40) (.lit 0)) (.and (.eq (.var 41) (.lit 0)) (.and (.eq (.var 42) (.lit 0)) (.and (.eq (.var 43) (.lit 0)) (.and (.eq (.var 44) (.lit 0)) (.and (.eq (.var 45) (.lit 0)) (.and (.eq (.var 46) (.lit 0)) (.and (.eq (.var 47) (.lit 0)) (.and (.eq (.var 48) (.lit 0)) (.and (.eq (.var 49) (.lit 0)) (.and (.eq (.var 50) (.lit 0)) (.and (.eq (.var 51) (.lit 0)) (.eq (.var 52) (.lit 0)))))))))))))))))=true↔sX (cI (aC q4 0)) 37 16:=by
     simp only[iW,gn,ak,aq];exact adg
    rw[eZ,cE G4.mono,hF];refine⟨fun hzz=>⟨hpl,ah,hso,hpd,fun _=>⟨aad.1 ah,hzz⟩⟩,fun hf=>(hf.2.2.2.2 hc).2⟩
   .have:=((hF.1 hf).2.2.2.2 hc).1;rw[this]at hlen;exact hz (by simpa using (show J.i 55=0 by simp at hlen;omega))
   .rw[cJ,hF];exact⟨fun _=>⟨hpl,ah,hso,hpd,fun h=>absurd h hc⟩,fun _=>rfl⟩
  .have:=(hF.1 hf).2.1;omega
noncomputable def zZ:aG Tryz.prog EG 65 where
 Λ:=aD
 args:=(bV 0 [.agg bT]).map .sv
 mem:=[.ro 130 [.var 53] false]
 nv:=131
def Tg (q:Env):(q.i 2=0/\q.i 3=0/\q.i 4=0/\q.i 5=0/\q.i 6=0/\q.i 7=0/\q.i 8=0/\q.i 9=0/\q.i 10=0/\q.i 11=0/\q.i 12=0/\q.i 13=0/\q.i 14=0/\q.i 15=0/\q.i 16=0/\q.i 17=0/\q.i 18=0/\q.i 19=0/\q.i 20=0/\q.i 21=0/\q.i 22=0/\q.i 23=0/\q.i 24=0/\q.i 25=0/\q.i 26=0/\q.i 27=0/\q.i 28=0/\q.i 29=0/\q.i 30=0/\q.i 31=0/\q.i 32=0/\q.i 33=0)↔sX (cI (aC q 0)) 2 32:=adg
def Th (q:Env):(q.i 37=0/\q.i 38=0/\q.i 39=0/\q.i 40=0/\q.i 41=0/\q.i 42=0/\q.i 43=0/\q.i 44=0/\q.i 45=0/\q.i 46=0/\q.i 47=0/\q.i 48=0/\q.i 49=0/\q.i 50=0/\q.i 51=0/\q.i 52=0)↔sX (cI (aC q 0)) 37 16:=adg
open Classical in
def vk:(gM 65).OK Tryz.prog:=by
 refine Spec.aS (Γ:=EG) Js ?_;rintro xs Hs Rs hl1 hl2 ⟨row,R,h,rfl,rfl,hx⟩;have e0:Hs=[]:=aad.1 hl1;subst e0;obtain⟨J,rfl,w130,hnw,n54,n55,n56⟩:=mj (R:=R) hx.ok;refine⟨zZ,J,fun _ _=>True,fun _ _=>0,?_,⟨?_,?_,?_,?_⟩,(fun _ h=>nomatch h),?_⟩
 .rfl
 .intro r hr ho;simp [zZ]at hr;subst hr;cases ho
 .intro r hr ho;simp [zZ]at hr;subst hr;exact⟨R,aF,by show(J.h 130).le R;rw[w130];exact Hl.le_refl _⟩
 .simp [zZ]
 .intro r hr;simp [zZ]at hr;subst hr;trivial
 .refine aG.read [] [] [] ?_;simp only[go_sem,Nat.reduceAdd,Yv,VW,EG,fr3,sc1,UQ,Tg,Th];have hF:=hx.form;have hT:=hx.tok;have hT:bj R (.slice (az (J.i 53) (J.i 54)) (J.i 55).toNat (J.i 56).toNat) pq (h.t.map aM):=hT;have hlen:(J.i 55).toNat=h.t.length:=Dj hT;have h92:cI (aC J 0) 92=J.i 95:=rfl;have h35:cB (aC J 0) 35=J.b 35:=rfl;rw[h92,h35]at hF;have eP:dt (aC J 0)↔((1<=J.i 0/\J.i 0<=6)/\(1<=J.i 1/\J.i 1<=1048576)/\(0<=J.i 34/\J.i 34<=255)/\J.i 36<=1099511627776/\cI (aC J 0) (54+(J.i 0-1).toNat)=J.i 1-1/\(J.i 57<=1048576/\J.i 58<=1048576/\J.i 59<=1048576/\J.i 60<=1048576/\J.i 61<=1048576/\J.i 62<=1048576)/\(1<J.i 1\/sX (cI (aC J 0)) 2 32)):=adg;have eK:=E3 J;have eB:=@M6 (J.i 95);have eI:=@tN (J.i 95);have eN:h.t=[]↔J.i 55=0:=by rw[<-aad];omega
  rw[eP,eN]at hF;clear eP eN;obtain⟨z1,hz1⟩:=ye (sX (cI (aC J 0)) 2 32);obtain⟨z2,hz2⟩:=ye (sX (cI (aC J 0)) 37 16);obtain⟨z3,hz3⟩:=ye (J.b 35=true);obtain⟨z4,hz4⟩:=ye (mc h.t);obtain⟨z5,hz5⟩:=ye (ik (J.i 95-16));rw[hz1,hz2,hz3,hz4,hz5]at hF;rw[hz5]at eB eI;have ff:∀ {q:Env} {mem:Mem},¬h.Form->postOf (gM 65) [.agg (aC J 0).toArray] [] [R] q mem (.sv (.one (.bool .ff))):=fun hf=>ni hx ⟨fun e=>(by rw[de]at e;cases e),fun e=>absurd e hf⟩;rw[hF]at ff;intro q1 g1 _;rw[g1.i 0,g1.i 1,g1.i 34,g1.i 36,g1.i 55,g1.i 53,g1.i 54,g1.i 56,g1.h 130,w130];refine⟨fun c0=>⟨fun c1=>⟨fun c2=>⟨fun c3=>⟨fun c4=>⟨fun c5=>⟨fun c6=>⟨n55,fun c7=>⟨⟨_,R,h.t,rfl,rfl,hT,hx.byte⟩,fun q2 g2 ⟨F2,hp2,_⟩=>?_⟩,fun c=>ff ah⟩,fun c=>ff ah⟩,fun c=>ff ah⟩,fun c=>ff ah⟩,fun c=>ff ah⟩,fun c=>ff ah⟩,fun c=>ff ah⟩,fun c=>ff ah⟩;have G2:ai 131 J q2:=g1.tr g2;have hs:=B7 hT hp2;have hs:q2.b 132=decide (mc h.t):=by simpa [br] using hs
  rw[hs,aaf,hz4];simp only[G2.i 0,G2.i 1,G2.i 34,G2.i 36,G2.i 55,G2.i 57,G2.i 58,G2.i 59,G2.i 60,G2.i 61,G2.i 62,G2.i 95,G2.b 35];refine⟨fun c=>ff ah,fun d0=>⟨fun c=>ff ah,fun d1=>⟨fun c=>ff ah,fun d2=>⟨fun c=>ff ah,fun d3=>⟨fun c=>ff ah,fun d4=>⟨fun c=>ff ah,fun d5=>⟨fun c=>ff ah,fun d6=>⟨fun e0=>⟨fun e1=>⟨⟨⟨aO [IntKind.i64.wrap (J.i 95-17)] false [],⟨zzT,zzT⟩,rfl⟩,zzT⟩,fun q3 g3 ⟨F3,hp3,_⟩=>?_⟩,fun c=>?_⟩,fun c=>?_⟩⟩⟩⟩⟩⟩⟩⟩
  rotate_left
  .rw[hz3];exact⟨fun f0=>⟨fun f1=>⟨fun f2=>ff ah,fun f2=>ff ah⟩,fun f1=>ff ah⟩,fun f0=>⟨fun f1=>⟨fun f2=>ff ah,fun f2=>ff ah⟩,fun f1=>ff ah⟩⟩
  .rw[hz3];exact⟨fun f0=>⟨fun f1=>⟨fun f2=>ff ah,fun f2=>ff ah⟩,fun f1=>ff ah⟩,fun f0=>⟨fun f1=>⟨fun f2=>ff ah,fun f2=>ff ah⟩,fun f1=>ff ah⟩⟩
  have G3:ai 131 J q3:=G2.tr g3;have hp3:Value.int .i64 (q3.i 133)=.int .i64 (KQ (IntKind.i64.wrap (J.i 95-17))):=hp3;simp only[Value.int.injEq,aaY]at hp3;have hr3:aC q3 0=aC J 0:=cE G3.mono;have eB:=eB e0 e1;simp only[hp3,hr3,hz1,hz2,eB,G3.i 0,G3.i 1,G3.i 34,G3.i 36,G3.i 55,G3.i 57,G3.i 58,G3.i 59,G3.i 60,G3.i 61,G3.i 62,G3.i 95,G3.b 35];rw[hz3];have w0:IntKind.i64.wrap (J.i 0-1)=J.i 0-1:=IntWalk.i64_in _ ah;have w1:IntKind.u64.wrap (J.i 1-1)=J.i 1-1:=mY ah ah;have kf:∀ {mem:Mem},(cI (aC J 0) (54+(J.i 0-1).toNat)=J.i 1-1↔h.Form)->postOf (gM 65) [.agg (aC J 0).toArray] [] [R] q3 mem (.sv (.one (.bool (.eq (.ite (.eq (.wrap .i64 (.sub (.var 0) (.lit 1))) (.lit 0)) (.var 57) (.ite (.eq (.wrap .i64 (.sub (.var 0) (.lit 1))) (.lit 1)) (.var 58) (.ite (.eq (.wrap .i64 (.sub (.var 0) (.lit 1))) (.lit 2)) (.var 59) (.ite (.eq (.wrap .i64 (.sub (.var 0) (.lit 1))) (.lit 3)) (.var 60) (.ite (.eq (.wrap .i64 (.sub (.var 0) (.lit 1))) (.lit 4)) (.var 61) (.var 62)))))) (.wrap .u64 (.sub (.var 1) (.lit 1))))))):=fun {mem} hh=>ni hx (by
   rw[<-hh,eK ah];simp only[gn,cG,bx,cQ,ak,aq,G3.i 0,G3.i 1,G3.i 57,G3.i 58,G3.i 59,G3.i 60,G3.i 61,G3.i 62,w0,w1])
  rw[hF]at kf;rw[w0];exact⟨fun f0=>⟨fun f1=>⟨fun f2=>⟨fun f3=>⟨fun f4=>⟨fun f5=>⟨ah,ah,kf ah⟩,fun f5=>ff ah⟩,fun f4=>ff ah⟩,fun f3=>ff ah⟩,fun f2=>⟨fun f3=>⟨fun f4=>ff ah,fun f4=>ff ah⟩,fun f3=>ff ah⟩⟩,fun f1=>⟨fun f3=>⟨fun f4=>⟨ah,ah,kf ah⟩,fun f4=>ff ah⟩,fun f3=>ff ah⟩⟩,
   fun f0=>⟨fun f1=>⟨fun f2=>⟨fun f3=>⟨fun f5=>⟨ah,ah,kf ah⟩,fun f5=>ff ah⟩,fun f3=>ff ah⟩,fun f2=>⟨fun f3=>ff ah,fun f3=>ff ah⟩⟩,fun f1=>⟨fun f3=>⟨ah,ah,kf ah⟩,fun f3=>ff ah⟩⟩⟩
end Go.Proofs.YtomdimlnggpgbaaGreatDoor
