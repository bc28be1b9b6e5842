/- RelayCrashes. -/
import Derived.Lib.Hide
import Derived.WalkSpells
import Derived.WalkLawsBesides
import Derived.Lib.BytesEntry
import Derived.Test.YtomdimlnggpgbaaGreatDoorTH
set_option linter.all false
set_option maxHeartbeats 4000000
namespace Go.Proofs.YtomdimlnggpgbaaGreatDoor
open Go Go.Sx Go.Pk
open Go.Proofs.YtomdimlnggpgbaaGreatDoor.D hiding aL aC fP
def AB:kG.OK Tryz.prog:=by
 refine Spec.aV (Γ:=KM) Vq ?_;rintro xs Hs Rs aB bc ⟨u,bs,R,RG,rfl,rfl,hR,hb,hlen,hK⟩;have e0:Hs=[]:=aaz.1 aB;subst e0;obtain⟨x,y,c,rfl,hy,aC⟩:=id hR;refine⟨Tg,aL [x,y,bs.length,c] false [Hl.none,Hl.none,Hl.none,Hl.none,R,RG],
  Co bs,MF bs,?_,dw (by intro r hr;simp [Tg]at hr;rcases hr with rfl | rfl<;>exact⟨_,_,_,rfl⟩) rfl,(fun _ h=>nomatch h),?_⟩
 .show [Value.slice (az x y) ((bs.length:Int)).toNat ((c:Int)).toNat]=_;simp only[aar]
 .refine aG.lit (x:=PX) ?_;generalize ab:aL [x,y,bs.length,c] false [Hl.none,Hl.none,Hl.none,Hl.none,R,RG]=J;have V:∀ q:Env,ai 6 J q->q.i 0=x/\q.i 1=y/\q.i 2=bs.length/\q.i 3=c/\q.h 4=R/\q.h 5=RG:=fun q E=>by
   rw[E.i 0,E.i 1,E.i 2,E.i 3,E.h 4,E.h 5,<-ab];exact⟨rfl,rfl,rfl,rfl,rfl,rfl⟩
  clear ab;unfold PX;simp only[go_sem,Nat.reduceAdd,KM,PW,Uk];have t0:Int.toNat 0=0:=rfl;have FU:aP Hl.none 5 1 (.slice (az (-1) 0) (Int.toNat 0) (Int.toNat 0)) (Int.toNat 0) []:=⟨rfl,Or.inl ⟨rfl,rfl⟩⟩;intro q1 g1 p6;have G1:ai 6 J q1:=g1;obtain⟨v0,v1,v2,v3,w4,w5⟩:=V q1 G1;have F:=tj (R:=R) (x:=x) (y:=y) (l:=(bs.length:Int)) rfl hy aC;rw[v0,v1,v2,w4];refine⟨⟨⟨[],FU⟩,aaM _,by have:=F.1;simpa using this,by rw[t0,aar];unfold maxLen;omega,by rw[t0,aar];omega⟩,fun q2 g2 ⟨r1,r2,a,_⟩ G ad _=>?_⟩;have o2:=a [] FU;rw[F.2,t0,aar,aa6,abU]at o2;have b2:Ob q2 7 7 8 (bs.length:Int) bs:=⟨by rw[aar];exact o2,rfl,r1,r2⟩;have ae:ai 6 J G:=G1.trans (g2.mono.tr ad);have b2:=b2.mono ad ah ah ah;have p:G.i 2=bs.length:=(V G ae).2.2.1;rw[<-p]at b2;refine⟨b2.pre ah,fun q3 g3 ⟨r1,r2,a,_⟩=>?_⟩;have b3:=b2.app ⟨r1,r2,a⟩ rfl;have G3:ai 6 J q3:=ae.tr g3;rw[p,<-(V q3 G3).2.2.1]at b3;obtain⟨aD,bd,aE,aF⟩:=b3;refine⟨⟨0,ah,?_,aE,aF,?_⟩,fun o g4 ⟨m,hm,e51,aH,aI,hO⟩=>?_⟩
  .show q3.i 2+1=_;rw[(V q3 G3).2.2.1];omega
  .rw[adT,abA];exact aD
  have G4:ai 6 J o:=G3.tr g4;have t:(bs++[128]++List.replicate m 0).length=bs.length+1+m:=by rw[aay,aay,aby];rfl
  have b4:Ob o 53 50 52 (o.i 51) (bs++[128]++List.replicate m 0):=⟨hO,by rw[t,e51];omega,aH,aI⟩;have tm:(o.i 51).tmod 64=((bs.length+1+m)%64:Nat):=by rw[e51,abm ah];omega
  refine⟨ah,fun H=>?_,fun heq=>?_⟩
  .have H:(o.i 51).tmod 64≠56:=H;rw[tm]at H;intro d I _;have b5:=b4.mono I ah ah ah;rw[show o.i 51=d.i 51 from (I.i 51).symm]at b5;refine⟨b5.pre (by rw[t];omega),fun q6 g6 ⟨r1,r2,a,_⟩=>?_⟩;have b6:=b5.app ⟨r1,r2,a⟩ rfl;obtain⟨af,bf,aJ,aK⟩:=b6;have e6:q6.i 51=bs.length+1+m:=by rw[g6.i 51,I.i 51,e51]
   rw[show d.i 51=q6.i 51 from (g6.i 51).symm]at af;refine⟨⟨m+1,ah,?_,aJ,aK,?_⟩,?_⟩
   .show q6.i 51+1=_;rw[e6];omega
   .rw[adN,<-aaV];exact af
   .show((bs.length:Int)+100-(q6.i 51+1)).toNat<((bs.length:Int)+100-o.i 51).toNat;rw[e6,e51];omega
  .have heq:(o.i 51).tmod 64=56:=heq;rw[tm]at heq;have em:m=(119-bs.length%64)%64:=ah;obtain⟨M,hM⟩:∃ M,M=bs++[128]++List.replicate m 0:=⟨_,rfl⟩;rw[<-hM]at b4 t;have p:o.i 2=bs.length:=(V o G4).2.2.1;refine⟨by rw[p];omega,?_⟩;have b:∀ {q:Env},ai 6 J q->IntKind.u64.wrap (IntKind.u64.wrap (q.i 2)*8)=((8*bs.length:Nat):Int):=fun {q} E=>by
    rw[(V q E).2.2.1,oH (x:=(bs.length:Int)) ah ah,oH ah ah];omega
   intro d I _;have c0:=b4.mono I ah ah ah;rw[show o.i 51=d.i 51 from (I.i 51).symm]at c0;have G5:ai 6 J d:=G4.tr I;refine⟨c0.pre ah,fun q6 g6 ⟨r1,r2,a,_⟩=>?_⟩;have G6:ai 6 J q6:=G5.tr g6;rw[pY (q:=d) (n:=8*bs.length) (k:=56) (s:=56) (b G5) ah rfl ah]at a;have d0:=c0.app ⟨r1,r2,a⟩ (L':=d.i 51+1) rfl;intro q7 g7 _;have J7:q7.i 51=d.i 51:=by rw[g7.i 51,g6.i 51]
   have c1:=(d0.mono g7 ah ah ah).cast (L':=q7.i 51+1) (by rw[J7]);have G7:ai 6 J q7:=G6.tr g7;refine⟨c1.pre (by simp only[aay,aaW];omega),fun q8 g8 ⟨r1,r2,a,_⟩=>?_⟩;have G8:ai 6 J q8:=G7.tr g8;rw[pY (q:=q7) (n:=8*bs.length) (k:=48) (s:=48) (b G7) ah rfl ah]at a;have d1:=c1.app ⟨r1,r2,a⟩ (L':=d.i 51+2) (by rw[J7];omega);intro q9 g9 _;have J9:q9.i 51=d.i 51:=by rw[g9.i 51,g8.i 51,J7]
   have c2:=(d1.mono g9 ah ah ah).cast (L':=q9.i 51+2) (by rw[J9]);have G9:ai 6 J q9:=G8.tr g9;refine⟨c2.pre (by simp only[aay,aaW];omega),fun aM ag ⟨r1,r2,a,_⟩=>?_⟩;have aN:ai 6 J aM:=G9.tr ag;rw[pY (q:=q9) (n:=8*bs.length) (k:=40) (s:=40) (b G9) ah rfl ah]at a;have d2:=c2.app ⟨r1,r2,a⟩ (L':=d.i 51+3) (by rw[J9];omega);intro v K _;have L:v.i 51=d.i 51:=by rw[K.i 51,ag.i 51,J9]
   have c3:=(d2.mono K ah ah ah).cast (L':=v.i 51+3) (by rw[L]);have aj:ai 6 J v:=aN.tr K;refine⟨c3.pre (by simp only[aay,aaW];omega),fun aO ak ⟨r1,r2,a,_⟩=>?_⟩;have aQ:ai 6 J aO:=aj.tr ak;rw[pY (q:=v) (n:=8*bs.length) (k:=32) (s:=32) (b aj) ah rfl ah]at a;have d3:=c3.app ⟨r1,r2,a⟩ (L':=d.i 51+4) (by rw[L];omega);intro A N _;have O:A.i 51=d.i 51:=by rw[N.i 51,ak.i 51,L]
   have c4:=(d3.mono N ah ah ah).cast (L':=A.i 51+4) (by rw[O]);have al:ai 6 J A:=aQ.tr N;refine⟨c4.pre (by simp only[aay,aaW];omega),fun aR an ⟨r1,r2,a,_⟩=>?_⟩;have aS:ai 6 J aR:=al.tr an;rw[pY (q:=A) (n:=8*bs.length) (k:=24) (s:=24) (b al) ah rfl ah]at a;have d4:=c4.app ⟨r1,r2,a⟩ (L':=d.i 51+5) (by rw[O];omega);intro B Q _;have S:B.i 51=d.i 51:=by rw[Q.i 51,an.i 51,O]
   have c5:=(d4.mono Q ah ah ah).cast (L':=B.i 51+5) (by rw[S]);have ao:ai 6 J B:=aS.tr Q;refine⟨c5.pre (by simp only[aay,aaW];omega),fun aT ar ⟨r1,r2,a,_⟩=>?_⟩;have aU:ai 6 J aT:=ao.tr ar;rw[pY (q:=B) (n:=8*bs.length) (k:=16) (s:=16) (b ao) ah rfl ah]at a;have d5:=c5.app ⟨r1,r2,a⟩ (L':=d.i 51+6) (by rw[S];omega);intro C T _;have U:C.i 51=d.i 51:=by rw[T.i 51,ar.i 51,S]
   have c6:=(d5.mono T ah ah ah).cast (L':=C.i 51+6) (by rw[U]);have au:ai 6 J C:=aU.tr T;refine⟨c6.pre (by simp only[aay,aaW];omega),fun aW av ⟨r1,r2,a,_⟩=>?_⟩;have aX:ai 6 J aW:=au.tr av;rw[pY (q:=C) (n:=8*bs.length) (k:=8) (s:=8) (b au) ah rfl ah]at a;have d6:=c6.app ⟨r1,r2,a⟩ (L':=d.i 51+7) (by rw[U];omega);intro D W _;have X:D.i 51=d.i 51:=by rw[W.i 51,av.i 51,U]
   have c7:=(d6.mono W ah ah ah).cast (L':=D.i 51+7) (by rw[X]);have aw:ai 6 J D:=aX.tr W;refine⟨c7.pre (by simp only[aay,aaW];omega),fun ax ay ⟨r1,r2,a,_⟩=>?_⟩;have aY:ai 6 J ax:=aw.tr ay;rw[pY (q:=D) (n:=8*bs.length) (k:=0) (s:=0) (b aw) ah rfl ah]at a;have d7:=c7.app ⟨r1,r2,a⟩ (L':=d.i 51+8) (by rw[X];omega);have hp:M++[((8*bs.length/2 ^ 56%256:Nat):Int)]++[((8*bs.length/2 ^ 48%256:Nat):Int)]++[((8*bs.length/2 ^ 40%256:Nat):Int)]++[((8*bs.length/2 ^ 32%256:Nat):Int)]++[((8*bs.length/2 ^ 24%256:Nat):Int)]++[((8*bs.length/2 ^ 16%256:Nat):Int)]++[((8*bs.length/2 ^ 8%256:Nat):Int)]++[((8*bs.length/2 ^ 0%256:Nat):Int)]=gS bs:=by
    unfold gS;rw[<-em,<-hM];simp only[aaV];rfl
   have aZ:ax.i 51=d.i 51:=by rw[ay.i 51,X]
   obtain⟨P,hP⟩:∃ P,P=gS bs:=⟨_,rfl⟩;have a1:aq P:=by rw[hP];exact Ah hb
   have Y:=xd bs;rw[hp]at d7;rw[<-hP]at d7 Y;clear hp hM b4 t tm;intro f Z a2;have a6:ai 6 J f:=aY.tr Z;have dP:Ob f 82 82 83 (f.i 51+8) P:=(d7.mono Z ah ah ah).cast (by rw[Z.i 51,aZ]);obtain⟨a7,eL,dx,dc⟩:=dP;have aA:0<=f.i 82/\∀ j z,P[j]?=some z->(f.h 82).cell (f.i 82).toNat j=some (.int .u8 z):=by
    obtain⟨x1,y1,c1,e,a8,h⟩:=a7.rd.w;simp only[Value.slice.injEq]at e;rcases h with h | ⟨h0,hc⟩
    .exfalso;have:=Y.1;rw[h]at this;simp only[abt]at this;omega
    .obtain⟨rfl,ba⟩:=lI dx (aaM 0) ah a8 e.1;obtain rfl:=ba h0;refine⟨h0,fun j z hz=>?_⟩;have:=hc j z hz;rw[show Int.toNat 0+j=j from aa6 j]at this;exact this
   refine⟨⟨0,rfl,abJ _,fun j hj=>?_⟩,fun aa g ⟨k,e100,hk,h8⟩=>?_⟩
   .match j,hj with
    | 0,_=>rfl
    | 1,_=>rfl
    | 2,_=>rfl
    | 3,_=>rfl
    | 4,_=>rfl
    | 5,_=>rfl
    | 6,_=>rfl
    | 7,_=>rfl
   have bb:ai 6 J aa:=a6.tr g;rw[<-hP]at hk h8;exact ME rfl rfl hR hP Y.2 ah a1 (by rw[g.i 84];exact a2) (by rw[(V aa bb).2.2.2.2.2];exact hK) (by rw[g.h 82,g.i 82];exact aA.2) (by rw[g.i 82];exact aA.1) (by rw[g.i 51];exact eL) e100 hk h8 (by show((gS bs).length-aa.i 100).toNat=_;rw[hP])
end Go.Proofs.YtomdimlnggpgbaaGreatDoor
namespace Go.Proofs.YtomdimlnggpgbaaGreatDoor
open Go Go.Sx Go.Pk Go.RowKit
variable {X e:E}{J q q2:Env}{F R:Hl}{x y:Int}{T:List (List Int)}{Hs K Rs:List Hl}{a b bs l t xs ys:List Int}{b' c c' h i n n' o o':Nat}{P:Program}{u v:Value}{w:World}
def tr8{q:Prop}(h:q):True/\True/\True/\True/\True/\True/\True/\True/\q:=⟨zzT,zzT,zzT,zzT,zzT,zzT,zzT,zzT,h⟩
def lex:List Int->List Int->Int
 | x::xs,y::ys=>if x<y then -1 else if y<x then 1 else lex xs ys
 | _,_=>0
def mM (T:List (List Int)):Prop:=∀ i,i+1<T.length->lex (T.getD i []) (T.getD (i+1) [])<0
def qW (w:World) (b o:Nat) (xs:List Int):Prop:=∀ i x,xs[i]?=some x->w.cell? ⟨b,o+i,none⟩=some (.int .u8 x)
def xl {b:Nat} (h:qW w b o xs) (hn:xs.length=n):(Extern.Bytes.bytesOf (.slice (some ⟨b,o,none⟩) n c)).run P w=.ok ⟨(Lib.bytesOf xs).toArray⟩ w:=by
 have hl:=Lib.run_loadBytesX (P:=P) w xs ⟨b,o,none⟩ .empty (fun j x a=>by
  have e:(⟨b,o,none⟩:Addr).add j=⟨b,o+j,none⟩:=by unfold Addr.add;split<;>simp_all
  rw[e,h j x a])
 rw[hn]at hl;simp only[Extern.Bytes.bytesOf,hl]
 congr 1
 apply ByteArray.ext;show(#[]:Array UInt8)++(Lib.bytesOf xs).toArray=(Lib.bytesOf xs).toArray;simp
def JB (xs ys:List Int):Int:=Lib.compareBytes (Lib.bytesOf xs) (Lib.bytesOf ys)
def Bo {b:Nat} (h:qW w b o xs) (hn:xs.length=n) (h':qW w b' o' ys) (a:ys.length=n') :
 (Extern.BytealgCompare.compare #[.slice (some ⟨b,o,none⟩) n c,.slice (some ⟨b',o',none⟩) n' c']).run P w=.ok (.int .i64 (JB xs ys)) w:=by
 change Sem.run P (do pure (goInt (Extern.BytealgCompare.cmp (<-Extern.Bytes.bytesOf (.slice (some ⟨b,o,none⟩) n c)) (<-Extern.Bytes.bytesOf (.slice (some ⟨b',o',none⟩) n' c'))))) w=_;simp only[Sem.run_bind,xl h hn,xl h' a,Result.andThen_ok,Sem.run_pure,Lib.cmp_eq];rfl
set_option maxRecDepth 20000 in
def CY {b:Nat} (h:qW w b o xs) (hn:xs.length=n) (h':qW w b' o' ys) (a:ys.length=n') :
 Calls Tryz.prog 200 #[.slice (some ⟨b,o,none⟩) n c,.slice (some ⟨b',o',none⟩) n' c'] w fun e w'=>e=.returned (.int .i64 (JB xs ys))/\Below w.heap.size w w':=by
 go_enter Tryz.func200,Tryz.ntmps200
 go_wp2
 rw[run_callFunc_extern Tryz.func208 zzK zzK zzK (e:=Extern.BytealgCompare.compare) zzK,Bo h hn h' a];simp only[Result.andThen];rw[Oper.upon_value]
 go_wp2
 go_ret
 exact⟨rfl,Below.refl _ _⟩
def To (hx:0<=x/\x<256) (a:0<=y/\y<256):(UInt8.ofNat x.toNat<UInt8.ofNat y.toNat)=(x<y):=by
 rw[UInt8.lt_iff_toNat_lt,adB (by simp;omega),adB (by simp;omega)];exact propext ah
def JC:∀ (xs ys:List Int),xs.length=ys.length->aq xs->aq ys->JB xs ys=lex xs ys
 | [],[],_,_,_=>rfl
 | x::xs,y::ys,h,hx,a=>by
  have ih:=JC xs ys (by simpa using h) (fun z b=>hx z (by simp [b])) (fun z b=>a z (by simp [b]));unfold JB Lib.bytesOf at ih ⊢;simp only[aaY,Lib.compareBytes,lex,To (hx x aF) (a y aF),To (a y aF) (hx x aF),ih]
 | [],_::_,h,_,_=>by simp at h
 | _::_,[],h,_,_=>by simp at h
def pE:Sx.Spec where
 fn:=200
 own:=[]
 rd:=[0,1]
 res:=[.one (.int .i64)]
 pre:=fun xs Hs Rs=>∃ u v a b R1 R2,xs=[u,v]/\Rs=[R1,R2]/\oI R1 u a/\oI R2 v b/\a≠[]/\a.length=b.length/\aq a/\aq b
 post:=fun xs Hs Rs w Hs' F=>∃ u v a b R1 R2,xs=[u,v]/\Rs=[R1,R2]/\oI R1 u a/\oI R2 v b/\w=.int .i64 (lex a b)
def SF (hs:R.sub w) (h:∀ j z,bs[j]?=some z->R.cell x.toNat (y.toNat+j)=some (.int .u8 z)):qW w x.toNat y.toNat bs:=fun j z a=>Hl.iu hs (h j z a)
def AS:pE.OK Tryz.prog:=by
 refine oO rfl fun w xs Rs hs ⟨u,v,a,b,R1,R2,e1,k,h1,h2,f,hl,g,i⟩=>?_;subst e1 k;obtain⟨x,y,c,rfl,m,d⟩:=id h1;obtain⟨x',y',c',rfl,l,e⟩:=id h2;rcases d with ⟨_,h⟩ | ⟨hx,d⟩
 .exact absurd h f
 rcases e with ⟨_,h⟩ | ⟨j,e⟩
 .rw[h]at hl;exact absurd (aaz.1 hl) f
 refine⟨.int .i64 (lex a b),⟨(bf fun _=>lex a b),rfl,zzT,zzT⟩,?_,_,_,a,b,R1,R2,rfl,rfl,h1,h2,rfl⟩;rw[au hx,au j,<-JC a b hl g i];exact CY (SF (hs R1 aF) d) rfl (SF (hs R2 aF) e) rfl
def tk:List Ck:=List.replicate 16 (.int .u8)
def pQ:List Kd:=List.replicate 16 (.int .u8)
def rZ (v:Value):List Int:=match v with
 | .agg a=>a.toList.map fun v=>cf (some v)
 | _=>[]
def XF (xs:List Value):Prop:=∀ v∈xs,aq (rZ v)
def SI (xs:List Value):Value:=match xs with
 | [a,b]=>.int .i64 (lex (rZ a) (rZ b))
 | _=>.int .i64 0
def SZ (xs:List Value):Value:=match xs with
 | [a,b]=>.bool (decide (lex (rZ a) (rZ b)<0))
 | _=>.bool false
def JD:Sx.Spec:=qD 178 [.agg tk,.agg tk] [.one (.int .i64)] XF SI
def Kb:Sx.Spec:=qD 143 [.agg tk,.agg tk] [.one .bool] (fun _=>True) SZ
def Wm:aG Tryz.prog [pE] 178 where
 Λ:=aC
 args:=(cA 0 [.agg tk,.agg tk]).map .sv
 mem:=[]
 nv:=32
def ll (q:Env) (n:Nat):List Int:=(List.range 16).map fun j=>q.i (n+j)
def Jl (q:Env):ui [.agg tk,.agg tk] q=[.agg ((ll q 0).map (Value.int .u8)).toArray,.agg ((ll q 16).map (Value.int .u8)).toArray]:=rfl
def gN (l:List Int):rZ (.agg (l.map (Value.int .u8)).toArray)=l:=by
 show((l.map (Value.int .u8)).toArray.toList).map _=l;rw[abD];exact List.map_id'' (fun _=>rfl) l
def vX (z:Int):rJ [.one (.int .i64)] (.int .i64 z):=⟨(bf fun _=>z),rfl,zzT,zzT⟩
def pw (b:Bool):rJ [.one .bool] (.bool b):=⟨⟨fun _=>0,fun _=>b,fun _=>.empty,fun _=>.tuple #[],fun _=>Hl.none⟩,rfl,zzT,zzT⟩
def yk {T:TypeId} {a:Nat} (h0:0<=q.i a) {cs:List CV} (hc:∀ j z,l[j]?=some z->(cs.map (CV.ev q))[o+j]?=some (.int .u8 z)) (hn:n=l.length) {c:Int} : oI ((bL.bj a cs T).hl q) (.slice (az (q.i a) (o:Int)) ((n:Int)).toNat c.toNat) l:=by
 subst hn;refine⟨q.i a,o,c.toNat,by rw[aar],ah,Or.inr ⟨h0,fun j z b=>?_⟩⟩;show(Hl.one (q.i a).toNat (.cells (cs.map (CV.ev q)).toArray T (0,0))).cell (q.i a).toNat _=_;unfold Hl.cell;rw[Hl.aU,aar];show(cs.map (CV.ev q)).toArray[o+j]?=_;rw[abI];exact hc j z b
def Zn:[pE][0]?=some pE:=rfl
def Zo:pE.res=[.one (.int .i64)]:=rfl
def Zm:(aK 34 [Cp.one (.int .i64)]≠[])=False:=by simp [aK,Cp.roots,Ck.root]
def CD (g:ai 32 q q2) (hn:n+16<=32):(ar n tk).map (CV.ev q2)=(ll q n).map (Value.int .u8):=by
 show [Value.int .u8 (q2.i n),.int .u8 (q2.i (n+1)),.int .u8 (q2.i (n+2)),.int .u8 (q2.i (n+3)),.int .u8 (q2.i (n+4)),.int .u8 (q2.i (n+5)),.int .u8 (q2.i (n+6)),.int .u8 (q2.i (n+7)),.int .u8 (q2.i (n+8)),.int .u8 (q2.i (n+9)),.int .u8 (q2.i (n+10)),.int .u8 (q2.i (n+11)),.int .u8 (q2.i (n+12)),.int .u8 (q2.i (n+13)),.int .u8 (q2.i (n+14)),.int .u8 (q2.i (n+15))]=_;rw[g.i n,g.i (n+1),g.i (n+2),g.i (n+3),g.i (n+4),g.i (n+5),g.i (n+6),g.i (n+7),g.i (n+8),g.i (n+9),g.i (n+10),g.i (n+11),g.i (n+12),g.i (n+13),g.i (n+14),g.i (n+15)];rfl
def NK:JD.OK Tryz.prog:=by
 refine kj (Γ:=[pE]) (fun t f=>by rw[aaJ]at f;subst f;exact AS) Wm rfl rfl rfl (fun q _ _=>?_) (fun q p hN=>⟨fun _ _=>True,fun _ _=>0,?_⟩)
 .exact vX _
 .rw[Jl]at hN ⊢;have h1:aq (ll q 0):=by
   have:=hN _ (aa8 ..);rwa[gN]at this
  have h2:aq (ll q 16):=by
   have:=hN _ (aaO _ (aa8 ..));rwa[gN]at this
  have l:SI [.agg ((ll q 0).map (Value.int .u8)).toArray,.agg ((ll q 16).map (Value.int .u8)).toArray]=.int .i64 (lex (ll q 0) (ll q 16)):=by
   show Value.int .i64 (lex (rZ _) (rZ _))=_;rw[gN,gN]
  simp only[l];refine aG.read [] [] [] ?_;simp only[go_sem,Nat.reduceAdd,Zn,Zo,Zm];intro q1 m p1 q2 h p2;have g:ai 32 q q2:=m.tr h;have c1:∀ j z,(ll q 0)[j]?=some z->((ar 0 tk).map (CV.ev q2))[0+j]?=some (.int .u8 z):=by
   rw[CD g ah];intro j z d;rw[aa6,aaL,d];rfl
  have c2:∀ j z,(ll q 16)[j]?=some z->((ar 16 tk).map (CV.ev q2))[0+j]?=some (.int .u8 z):=by
   rw[CD g ah];intro j z d;rw[aa6,aaL,d];rfl
  have e:0<=q2.i 32:=by rw[h.i 32];exact p1
  have r1:=yk (T:=61) (n:=16) (c:=16) e c1 rfl;have r2:=yk (T:=61) (n:=16) (c:=16) p2 c2 rfl;refine⟨⟨_,_,ll q 0,ll q 16,_,_,rfl,rfl,r1,r2,(by simp [ll]),rfl,h1,h2⟩,fun r s ⟨F,⟨u,v,a,b,R1,R2,hx,k,o,hb,hv⟩,_⟩=>?_⟩;simp only[aaC,aaP]at hx k;obtain⟨rfl,rfl⟩:=hx;obtain⟨rfl,rfl⟩:=k;rw[<-o.uniq r1,<-hb.uniq r2];exact hv
def WX:aG Tryz.prog [] 143 where
 Λ:=aC
 args:=(cA 0 [.agg tk,.agg tk]).map .sv
 mem:=[]
 nv:=32
def Uy {a b:Int} (h:¬a=b):decide (a<b)=decide (lex (a::xs) (b::ys)<0):=by
 unfold lex;by_cases h1:a<b
 .simp [h1]
 .have h2:b<a:=ah;simp [h1,h2]
def Ux {a b:Int} (h:a=b):lex (a::xs) (b::ys)=lex xs ys:=by
 subst h;show(if a<a then _ else if a<a then _ else _)=_;rw[aaG (adW _),aaG (adW _)]
def lx {a b:Int} {Y:Prop} (hu:u=.bool (decide (a<b))) (hv:v=.bool (decide (lex (a::xs) (b::ys)<0))) (h:v=.bool (decide (lex xs ys<0))->Y):(¬a=b->u=v)/\(a=b->Y) :=
 ⟨fun hn=>by rw[hu,hv,Uy hn],fun he=>h (by rw[hv,Ux he])⟩
def CC (q:Env) (n:Nat):ll q n=[q.i n,q.i (n+1),q.i (n+2),q.i (n+3),q.i (n+4),q.i (n+5),q.i (n+6),q.i (n+7),q.i (n+8),q.i (n+9),q.i (n+10),q.i (n+11),q.i (n+12),q.i (n+13),q.i (n+14),q.i (n+15)]:=rfl
def OF:Kb.OK Tryz.prog:=by
 refine kj (Γ:=[]) (fun t l=>by cases l) WX rfl rfl rfl (fun q _ _=>?_) (fun q A hN=>⟨fun _ _=>True,fun _ _=>0,?_⟩)
 .exact pw _
 .rw[Jl];have m:SZ [.agg ((ll q 0).map (Value.int .u8)).toArray,.agg ((ll q 16).map (Value.int .u8)).toArray]=.bool (decide (lex (ll q 0) (ll q 16)<0)):=by
   show Value.bool (decide (lex (rZ _) (rZ _)<0))=_;rw[gN,gN]
  simp only[m];refine aG.read [] [] [] ?_;simp only[go_sem,Nat.reduceAdd];intro q1 o p1 q2 p p2;have g:ai 32 q q2:=o.tr p;have e:∀ n,n+16<=32->ll q n=ll q2 n:=fun n hn=>abr fun j r=>(g.i (n+j) (by have:=abd.1 r;omega)).symm;rw[e 0 ah,e 16 ah,CC,CC];generalize a:Value.bool (decide (lex _ _<0))=V;have a:=a.symm;exact lx rfl a fun h0=>lx rfl h0 fun h1=>lx rfl h1 fun h2=>lx rfl h2 fun s=>lx rfl s fun u=>lx rfl u fun v=>lx rfl v fun w=>lx rfl w fun x=>lx rfl x fun y=>lx rfl y fun z=>lx rfl z fun b=>lx rfl b fun c=>lx rfl c fun d=>lx rfl d fun f=>lx rfl f fun h=>lx rfl h fun k=>(k.trans rfl).symm
def Ed (T:List (List Int)):Prop:=T.length<=1000000/\∀ t∈T,t.length=16/\aq t
open Classical in
noncomputable def qO (f:FuncId):Sx.Spec where
 fn:=f
 own:=[]
 rd:=[0]
 res:=[.one .bool]
 pre:=fun xs Hs Rs=>∃ u R T,xs=[u]/\Rs=[R]/\bq R u pQ (T.map aM)/\Ed T
 post:=fun xs Hs Rs v Hs' F=>∃ u R T,xs=[u]/\Rs=[R]/\bq R u pQ (T.map aM)/\v=.bool (decide (mM T))
def Je:List Sx.Spec:=[pE,JD,Kb]
def KX:∀ t∈Je,t.OK Tryz.prog:=av AS <| av NK <| av OF <| bW
def sr1:JD.res=[.one (.int .i64)]:=rfl
def sr2:Kb.res=[.one .bool]:=rfl
def sc1 (n:Nat):(aK n [Cp.one (.int .i64)]≠[])=False:=by simp [aK,Cp.roots,Ck.root]
def Vt (n:Nat):(aK n [Cp.one .bool]≠[])=False:=by simp [aK,Cp.roots,Ck.root]
def KW:List TV:=[.sv (.one (.sl (.var 0) (.var 1) (.var 2) (.var 3)))]
def zE:aG Tryz.prog Je 148 where
 Λ:=fun p=>if OJ p then some ⟨0,[(3,TI .i64 (.var 10))],[],12⟩else none
 args:=KW
 mem:=[.ro 4 [.var 0] false]
 nv:=5
def Aq:aG Tryz.prog Je 103 where
 Λ:=fun p=>if OJ p then some ⟨0,[(3,TI .i64 (.var 10))],[],12⟩else none
 args:=KW
 mem:=[.ro 4 [.var 0] false]
 nv:=5
def Tk (e:a.length=16) (hb:b.length=16) (h1:aq a) (h2:aq b):(∃ q,mf 0 [.agg tk,.agg tk] q/\[.agg (aM a).toArray,.agg (aM b).toArray]=ui [.agg tk,.agg tk] q)/\XF [.agg (aM a).toArray,.agg (aM b).toArray]:=by
 refine⟨⟨aL (a++b) false [],by simp [mf,JG,tk,bR,j9,cW,jt,List.replicate],?_⟩,?_⟩
 .rw[Jl];have e1:ll (aL (a++b) false []) 0=a:=by
   apply aa2;intro j;unfold ll;rw[aaL];by_cases c:j<16
   .rw[aaZ c,aax ah];show some ((a++b).getD (0+j) 0)=_;rw[aa6,aaD,aa0 ah,aax ah];rfl
   .rw[aaK (by simp;omega),aaK ah];rfl
  have d:ll (aL (a++b) false []) 16=b:=by
   apply aa2;intro j;unfold ll;rw[aaL];by_cases c:j<16
   .rw[aaZ c,aax ah];show some ((a++b).getD (16+j) 0)=_;rw[aaD,aaQ ah,show 16+j-a.length=j by omega,aax ah];rfl
   .rw[aaK (by simp;omega),aaK ah];rfl
  rw[e1,d];rfl
 .intro v hv;simp only[aaN,aaX,abC]at hv;rcases hv with rfl | rfl
  .show aq (rZ (.agg (a.map (Value.int .u8)).toArray));rw[gN];exact h1
  .show aq (rZ (.agg (b.map (Value.int .u8)).toArray));rw[gN];exact h2
def Cj (h:t.length=16):bo (aM t) pQ:=by
 match t,h with
 | [_,_,_,_,_,_,_,_,_,_,_,_,_,_,_,_],_=>exact⟨rfl,rfl,rfl,rfl,rfl,rfl,rfl,rfl,rfl,rfl,rfl,rfl,rfl,rfl,rfl,rfl,zzT⟩
def wb (hx:0<=x) (g:0<=y) (hc:∀ (i:Nat) row,(T.map aM)[i]?=some row->bo row pQ/\∀ j u,row[j]?=some u->R.cell x.toNat (y.toNat+i*pQ.length+j)=some u) (c:T[i]?=some t) (hl:t.length=16) (d:J.h h=R) {Y:E} (e:aB J X=x) (f:aB J Y=y+i*16) :
 bM R x.toNat (y+(i:Int)*16).toNat (Int.toNat 16)=true/\(aY h X Y 0 (List.replicate 16 (Kd.int .u8))).map (CV.ev J)=aM t:=by
 have h1:=(hc i (aM t) (by rw[aaL,c];rfl)).2;have hlen:pQ.length=16:=rfl;rw[hlen]at h1;have a:(y+(i:Int)*16).toNat=y.toNat+i*16:=ah;constructor
 .unfold bM;rw[aa3];intro j b;have b:j<16:=abd.1 b;rw[a,h1 j (.int .u8 (t[j])) (by unfold aM;rw[aaL,aax ah];rfl)];rfl
 .refine fw (aM t) _ 0 (Cj hl) fun j u hu=>?_;rw[d,e,f,a,aa6];exact h1 j u hu
def Lo (hp:JD.post [.agg (aM a).toArray,.agg (aM b).toArray] Hs Rs v K F):v=.int .i64 (lex a b):=by
 have hp:v=.int .i64 (lex (rZ (.agg (a.map (Value.int .u8)).toArray)) (rZ (.agg (b.map (Value.int .u8)).toArray))):=hp;rw[gN,gN]at hp;exact hp
def LU (hp:Kb.post [.agg (aM a).toArray,.agg (aM b).toArray] Hs Rs v K F):v=.bool (decide (lex a b<0)):=by
 have hp:v=.bool (decide (lex (rZ (.agg (a.map (Value.int .u8)).toArray)) (rZ (.agg (b.map (Value.int .u8)).toArray))<0)):=hp;rw[gN,gN]at hp;exact hp
open Classical in
def uQ {f:FuncId} {b:Bool} (h:bq R (.slice (az x y) (T.map aM).length c) pQ (T.map aM)) (hb:b=true↔mM T) (he:bh q e=b) {mem:Mem} : postOf (qO f) [.slice (az x y) (T.map aM).length c] [] [R] q mem (.sv (.one (.bool e))):=by
 intro _;refine⟨[],[],rfl,rfl,⟨⟨fun _=>0,fun _=>b,fun _=>.empty,fun _=>.tuple #[],fun _=>Hl.none⟩,by show Value.bool (bh q e)=_;rw[he];rfl,zzT,zzT⟩,_,R,T,rfl,rfl,h,?_⟩;show Value.bool (bh q e)=_;rw[he]
 congr 1
 rw[acx,aaB];exact hb
def BG:(qO 148).OK Tryz.prog:=by
 refine Spec.aV (Γ:=Je) KX ?_;rintro xs Hs Rs o z ⟨u,R,T,rfl,rfl,p,hT⟩;have A:Hs=[]:=aaz.1 o;subst A;obtain⟨x,y,c,rfl,s,d⟩:=id p;refine⟨zE,aL [x,y,T.length,c] false [Hl.none,Hl.none,Hl.none,Hl.none,R],fun _ q=>∃ i:Nat,q.i 10=i/\1<=i/\i<=T.length+1/\∀ k,k+1<i->k+1<T.length->lex (T.getD k []) (T.getD (k+1) [])<0,fun _ q=>(T.length-q.i 10).toNat,?_,⟨?_,?_,?_,?_⟩,(fun _ h=>nomatch h),?_⟩
 .rw[aaT];show [Value.slice (az x y) ((T.length:Int)).toNat ((c:Int)).toNat]=_;rw[aar,aar]
 .intro r hr ho;simp [zE]at hr;subst hr;cases ho
 .intro r hr ho;simp [zE]at hr;subst hr;exact⟨R,aF,Hl.le_refl _⟩
 .simp [zE]
 .intro r hr;simp [zE]at hr;subst hr;trivial
 .refine aG.read [] [] [] ?_;generalize a:aL [x,y,T.length,c] false [Hl.none,Hl.none,Hl.none,Hl.none,R]=J;have v0:J.i 0=x:=by rw[<-a];rfl
  have v1:J.i 1=y:=by rw[<-a];rfl
  have v2:J.i 2=T.length:=by rw[<-a];rfl
  have t:J.h 4=R:=by rw[<-a];rfl
  clear a;simp only[go_sem,Nat.reduceAdd,Je,sr1,sc1];refine⟨⟨1,rfl,aaS _,ah,fun k h=>ah⟩,fun q g ⟨i,n,B,C,l⟩=>?_⟩;have D:=hT.1;rw[g.i 2,v2,n,g.i 0,v0,g.i 1,v1,g.h 4,t];have w:IntKind.i64.wrap ((i:Int)-1)=((i-1:Nat):Int):=by rw[IntWalk.i64_in _ ah];omega
  rw[w];refine⟨ah,fun h=>?_,fun h=>?_⟩
  .have e:i<T.length:=ah;rcases d with hn | ⟨hx,hc⟩
   .rw[ab4]at hn;rw[hn]at e;cases e
   have f:T[i-1]?=some (T[i-1]):=aax ah;have j:T[i]?=some (T[i]):=aax e;have m1:=hT.2 _ (aaA f);have m2:=hT.2 _ (aaA j);obtain⟨b1,r1⟩:=wb (J:=q) (h:=4) (X:=.var 0) (Y:=(E.var 1).add ((E.wrap IntKind.i64 ((E.var 10).sub (E.lit 1))).mul (E.lit 16))) hx s hc f m1.1 (by rw[g.h 4,t]) (by rw[al,g.i 0,v0]) (by
    simp only[bQ,cG,bP,dm,al,ak];rw[g.i 1,v1,n,w])
   obtain⟨b2,r2⟩:=wb (J:=q) (h:=4) (X:=.var 0) (Y:=(E.var 1).add ((E.var 10).mul (E.lit 16))) hx s hc j m2.1 (by rw[g.h 4,t]) (by rw[al,g.i 0,v0]) (by
    simp only[bQ,cG,al,ak];rw[g.i 1,v1,n])
   rw[r1,r2];refine⟨hx,s,ah,ah,b1,ah,b2,Tk m1.1 m2.1 m1.2 m2.2,fun q1 G ⟨F,hp,_⟩=>?_⟩;have hv:=Lo hp;have hv:q1.i 12=lex T[i-1] T[i]:=by simpa using hv
   have d1:T.getD (i-1) []=T[i-1]:=by rw[aaD,f];rfl
   have d2:T.getD (i-1+1) []=T[i]:=by rw[show i-1+1=i by omega,aaD,j];rfl
   have m:IntKind.i64.wrap (q1.i 10+1)=((i+1:Nat):Int):=by rw[G.i 10,n,IntWalk.i64_in _ ah];omega
   rw[hv];refine⟨fun H=>uQ (b:=false) p ⟨aF,fun hS=>?_⟩ rfl,fun hl=>⟨⟨i+1,m,ah,ah,fun k hk v=>?_⟩,?_⟩⟩
   .have:=hS (i-1) ah;rw[d1,d2]at this;omega
   .rcases abn (k+1) i with h1 | h1
    .exact l k h1 v
    .obtain rfl:k=i-1:=ah;rw[d1,d2];omega
   .show((T.length:Int)-IntKind.i64.wrap (q1.i 10+1)).toNat<_;rw[m];omega
  .exact uQ (b:=true) p ⟨fun _ k hk=>l k ah hk,fun _=>rfl⟩ rfl
def Mp:(qO 103).OK Tryz.prog:=by
 refine Spec.aV (Γ:=Je) KX ?_;rintro xs Hs Rs o A ⟨u,R,T,rfl,rfl,p,hT⟩;have B:Hs=[]:=aaz.1 o;subst B;obtain⟨x,y,c,rfl,s,d⟩:=id p;refine⟨Aq,aL [x,y,T.length,c] false [Hl.none,Hl.none,Hl.none,Hl.none,R],fun _ q=>∃ i:Nat,q.i 10=i/\i<=T.length/\∀ k,k<i->k+1<T.length->lex (T.getD k []) (T.getD (k+1) [])<0,fun _ q=>(T.length-q.i 10).toNat,?_,⟨?_,?_,?_,?_⟩,(fun _ h=>nomatch h),?_⟩
 .rw[aaT];show [Value.slice (az x y) ((T.length:Int)).toNat ((c:Int)).toNat]=_;rw[aar,aar]
 .intro r hr ho;simp [Aq]at hr;subst hr;cases ho
 .intro r hr ho;simp [Aq]at hr;subst hr;exact⟨R,aF,Hl.le_refl _⟩
 .simp [Aq]
 .intro r hr;simp [Aq]at hr;subst hr;trivial
 .refine aG.read [] [] [] ?_;generalize a:aL [x,y,T.length,c] false [Hl.none,Hl.none,Hl.none,Hl.none,R]=J;have v0:J.i 0=x:=by rw[<-a];rfl
  have v1:J.i 1=y:=by rw[<-a];rfl
  have v2:J.i 2=T.length:=by rw[<-a];rfl
  have t:J.h 4=R:=by rw[<-a];rfl
  clear a;simp only[go_sem,Nat.reduceAdd,Je,sr2,Vt];refine⟨⟨0,rfl,ah,fun k h=>ah⟩,fun q g ⟨i,n,C,l⟩=>?_⟩;have D:=hT.1;rw[g.i 2,v2,n,g.i 0,v0,g.i 1,v1,g.h 4,t];have v:IntKind.i64.wrap ((i:Int)+1)=((i+1:Nat):Int):=by rw[IntWalk.i64_in _ ah];omega
  rw[v];refine⟨ah,fun h=>?_,fun h=>?_⟩
  .have e:i+1<T.length:=ah;rcases d with hn | ⟨hx,hc⟩
   .rw[ab4]at hn;rw[hn]at e;cases e
   have f:T[i]?=some (T[i]):=aax ah;have j:T[i+1]?=some (T[i+1]):=aax e;have m1:=hT.2 _ (aaA f);have m2:=hT.2 _ (aaA j);obtain⟨b1,r1⟩:=wb (J:=q) (h:=4) (X:=.var 0) (Y:=(E.var 1).add ((E.var 10).mul (E.lit 16))) hx s hc f m1.1 (by rw[g.h 4,t]) (by rw[al,g.i 0,v0]) (by
    simp only[bQ,cG,al,ak];rw[g.i 1,v1,n])
   obtain⟨b2,r2⟩:=wb (J:=q) (h:=4) (X:=.var 0) (Y:=(E.var 1).add ((E.wrap IntKind.i64 ((E.var 10).add (E.lit 1))).mul (E.lit 16))) hx s hc j m2.1 (by rw[g.h 4,t]) (by rw[al,g.i 0,v0]) (by
    simp only[bQ,cG,bP,al,ak];rw[g.i 1,v1,n,v])
   rw[r1,r2];refine⟨hx,s,ah,ah,b1,ah,b2,⟨(Tk m1.1 m2.1 m1.2 m2.2).1,zzT⟩,fun q1 G ⟨F,hp,_⟩=>?_⟩;have hv:=LU hp;have hv:q1.b 12=decide (lex T[i] T[i+1]<0):=by simpa [bD] using hv
   have d1:T.getD i []=T[i]:=by rw[aaD,f];rfl
   have d2:T.getD (i+1) []=T[i+1]:=by rw[aaD,j];rfl
   have m:IntKind.i64.wrap (q1.i 10+1)=((i+1:Nat):Int):=by rw[G.i 10,n,v]
   rw[hv,aaB];refine⟨fun w=>uQ (b:=false) p ⟨aF,fun hS=>?_⟩ rfl,fun hl=>⟨⟨i+1,m,ah,fun k hk z=>?_⟩,?_⟩⟩
   .have:=hS i ah;rw[d1,d2]at this;exact absurd this w
   .rcases abn k i with h1 | h1
    .exact l k h1 z
    .obtain rfl:k=i:=ah;rw[d1,d2];exact hl
   .show((T.length:Int)-IntKind.i64.wrap (q1.i 10+1)).toNat<_;rw[m];omega
  .exact uQ (b:=true) p ⟨fun _ k hk=>l k ah hk,fun _=>rfl⟩ rfl
end Go.Proofs.YtomdimlnggpgbaaGreatDoor
namespace Go.Proofs.YtomdimlnggpgbaaGreatDoor
open Go Go.Sx Go.Pk
variable {q q1:Env}{f:FuncId}{F R R':Hl}{z:Int}{T:List (List Int)}{ks:List Kd}{row:List Value}{c k n:Nat}{u v:Value}
def i64:Ck:=.int .i64
def cy:List Ck:=[i64,.int .u64]++List.replicate 32 (.int .u8)++[i64,.bool,.int .u64]++List.replicate 16 (.int .u8)++[.sl]++List.replicate 6 (.int .u64)++List.replicate 32 (.int .u8)++[i64]++List.replicate 32 (.int .u8)
def fu:List Kd:=cy.map kU
def cI (l:List Value) (k:Nat):Int:=cf l[k]?
def cB (l:List Value) (k:Nat):Bool:=xI l[k]?
def iL (z:Int):Prop:=z=64\/z=128\/z=256\/z=512\/z=1024\/z=2048
instance (z:Int):Decidable (iL z):=by unfold iL;exact inferInstance
def Li (z:Int):Int:=if z<64 then 64 else if z<128 then 128 else if z<256 then 256 else if z<512 then 512 else if z<1024 then 1024 else if z<2048 then 2048 else 0
def lu (z:Int):Prop:= -9223372036854775808<=z/\z<9223372036854775808
def Xd (xs:List Value):Value:=.bool (decide (iL (cf xs[0]?)))
def UP:Sx.Spec:=qD 149 [.one i64] [.one .bool] (fun xs=>lu (cf xs[0]?)) Xd
def SG (xs:List Value):Value:=.int .i64 (Li (cf xs[0]?))
def NA:Sx.Spec:=qD 104 [.one i64] [.one i64] (fun _=>True) SG
def ZA:aG Tryz.prog [] 149 where
 Λ:=aC
 args:=(cA 0 [.one i64]).map .sv
 mem:=[]
 nv:=1
def VZ:aG Tryz.prog [] 104 where
 Λ:=aC
 args:=(cA 0 [.one i64]).map .sv
 mem:=[]
 nv:=1
def Na (h:lu z):IntKind.i64.wrap (z-1)=z-1\/IntKind.i64.wrap (z-1)=9223372036854775807/\z= -9223372036854775808:=by
 unfold lu at h;by_cases h1:z= -9223372036854775808
 .right;subst h1;exact⟨aA,rfl⟩
 .left;exact IntWalk.i64_in _ ah
def wy {b:Bool} {p:Prop} {_:Decidable p} (h:b=true↔p):Value.bool b=.bool (decide p):=by
 congr 1
 rw[acx,aaB];exact h
def RJ:UP.OK Tryz.prog:=by
 refine kj (Γ:=[]) (fun t b=>by cases b) ZA rfl rfl rfl (fun q _ _=>pw _) (fun q d hN=>⟨fun _ _=>True,fun _ _=>0,?_⟩);have hN:lu (q.i 0):=hN;have c:Xd (ui [.one i64] q)=.bool (decide (iL (q.i 0))):=rfl;simp only[c];refine aG.read [] [] [] ?_;simp only[go_sem,Nat.reduceAdd,cZ,du];have hw:=Na hN;generalize IntKind.i64.wrap (q.i 0-1)=y at hw ⊢;have a:∀ {m:Int},(m=q.i 0↔iL (q.i 0))->Value.bool (bh q (.eq (.lit m) (.var 0)))=.bool (decide (iL (q.i 0))):=fun {m} h=>wy (by rw[gM,ak,al];exact h);have ff:¬iL (q.i 0)->Value.bool false=.bool (decide (iL (q.i 0))):=fun h=>wy ⟨fun e=>(by cases e),fun e=>absurd e h⟩;unfold iL at a ff ⊢;exact⟨fun h=>ff ah,fun h0=>⟨fun h=>a ah,fun h1=>⟨fun h=>a ah,fun h2=>⟨fun h=>a ah,fun f=>⟨fun h=>a ah,fun g=>⟨fun h=>a ah,fun j=>⟨fun h=>a ah,fun k=>ff ah⟩⟩⟩⟩⟩⟩⟩
def NB:NA.OK Tryz.prog:=by
 refine kj (Γ:=[]) (fun t c=>by cases c) VZ rfl rfl rfl (fun q _ _=>vX _) (fun q g hN=>⟨fun _ _=>True,fun _ _=>0,?_⟩);have d:SG (ui [.one i64] q)=.int .i64 (Li (q.i 0)):=rfl;simp only[d];refine aG.read [] [] [] ?_;simp only[go_sem,Nat.reduceAdd];intro q1 e _;rw[e.i 0];unfold Li;exact⟨fun h=>by rw[aaR h],fun h0=>⟨fun h=>by rw[aaG h0,aaR h],fun h1=>⟨fun h=>by rw[aaG h0,aaG h1,aaR h],fun h2=>⟨fun h=>by rw[aaG h0,aaG h1,aaG h2,aaR h],fun a=>⟨fun h=>by rw[aaG h0,aaG h1,aaG h2,aaG a,aaR h],fun b=>⟨fun h=>by rw[aaG h0,aaG h1,aaG h2,aaG a,aaG b,aaR h],fun f=>by rw[aaG h0,aaG h1,aaG h2,aaG a,aaG b,aaG f]⟩⟩⟩⟩⟩⟩
def tC (f:Nat->Int):Nat->Nat->Prop
 | _,0=>True
 | n,1=>f n=0
 | n,k+2=>f n=0/\tC f (n+1) (k+1)
def Eo {f:Nat->Int} : ∀ (k n:Nat),tC f n k↔∀ j,j<k->f (n+j)=0
 | 0,n=>⟨fun _ j h=>ah,fun _=>trivial⟩
 | 1,n=>⟨fun h j a=>(by cases j with
  | zero=>exact h
  | succ j=>omega),fun h=>h 0 ah⟩
 | k+2,n=>by
  show(f n=0/\tC f (n+1) (k+1))↔_;rw[Eo (k+1) (n+1)];constructor
  .rintro⟨h0,h⟩ j a;cases j with
   | zero=>exact h0
   | succ j=>have:=h j ah;rwa[show n+1+j=n+(j+1)by omega]at this
  .exact fun h=>⟨h 0 ah,fun j a=>by have:=h (j+1) ah;rwa[show n+(j+1)=n+1+j by omega]at this⟩
instance zerDec (f:Nat->Int):∀ (k n:Nat),Decidable (tC f n k)
 | 0,_=>isTrue trivial
 | 1,n=>(inferInstance:Decidable (f n=0))
 | k+2,n=>have:=zerDec f (k+1) (n+1);(inferInstance:Decidable (f n=0/\tC f (n+1) (k+1)))
def fb (l:List Value):Prop:=(1<=cI l 0/\cI l 0<=6)/\(1<=cI l 1/\cI l 1<=1048576)/\(0<=cI l 34/\cI l 34<=255)/\cI l 36<=1099511627776/\cI l (54+(cI l 0-1).toNat)=cI l 1-1/\(cI l 54<=1048576/\cI l 55<=1048576/\cI l 56<=1048576/\cI l 57<=1048576/\cI l 58<=1048576/\cI l 59<=1048576)/\(1<cI l 1\/tC (cI l) 2 32)
instance (l:List Value):Decidable (fb l):=by unfold fb;exact inferInstance
def ZW (v:Value):List Value:=match v with
 | .agg a=>a.toList
 | _=>[]
def Kv (xs:List Value):Value:=.bool (decide (fb (ZW (xs.getD 0 (.bool false)))))
def DJ:Sx.Spec:=qD 147 [.agg cy] [.one .bool] (fun _=>True) Kv
def RN:aG Tryz.prog [] 147 where
 Λ:=aC
 args:=(cA 0 [.agg cy]).map .sv
 mem:=[]
 nv:=128
def aE (q:Env) (n:Nat):List Value:=(ar n cy).map (CV.ev q)
def Fw (q:Env) (h:1<=q.i 0/\q.i 0<=6):cI (aE q 0) (54+(q.i 0-1).toNat)=if q.i 0-1=0 then q.i 57 else if q.i 0-1=1 then q.i 58 else if q.i 0-1=2 then q.i 59 else if q.i 0-1=3 then q.i 60 else if q.i 0-1=4 then q.i 61 else q.i 62:=by
 have:q.i 0=1\/q.i 0=2\/q.i 0=3\/q.i 0=4\/q.i 0=5\/q.i 0=6:=ah;rcases this with e | e | e | e | e | e<;>rw[e]<;>rfl
def cX (g:ai 128 q q1):aE q1 0=aE q 0:=by
 have h:=gn (n:=0) (ks:=cy) g (acs zzK);exact aa5 (Value.agg.inj h)
def IJ:DJ.OK Tryz.prog:=by
 refine kj (Γ:=[]) (fun t g=>by cases g) RN rfl rfl rfl (fun q _ _=>pw _) (fun q l hN=>⟨fun _ _=>True,fun _ _=>0,?_⟩);have j:Kv (ui [.agg cy] q)=.bool (decide (fb (aE q 0))):=rfl;simp only[j];refine aG.read [] [] [] ?_;simp only[go_sem,Nat.reduceAdd,cZ,du];intro q1 b _;rw[<-cX b];clear b;have c:fb (aE q1 0)↔((1<=q1.i 0/\q1.i 0<=6)/\(1<=q1.i 1/\q1.i 1<=1048576)/\(0<=q1.i 34/\q1.i 34<=255)/\q1.i 36<=1099511627776/\cI (aE q1 0) (54+(q1.i 0-1).toNat)=q1.i 1-1/\(q1.i 57<=1048576/\q1.i 58<=1048576/\q1.i 59<=1048576/\q1.i 60<=1048576/\q1.i 61<=1048576/\q1.i 62<=1048576)/\(1<q1.i 1\/tC (cI (aE q1 0)) 2 32)):=adC;have eK:=Fw q1;have d:bh q1 (.and (.eq (.var 2) (.lit 0)) (.and (.eq (.var 3) (.lit 0)) (.and (.eq (.var 4) (.lit 0)) (.and (.eq (.var 5) (.lit 0)) (.and (.eq (.var 6) (.lit 0)) (.and (.eq (.var 7) (.lit 0)) (.and (.eq (.var 8) (.lit 0)) (.and (.eq (.var 9) (.lit 0)) (.and (.eq (.var 10) (.lit 0)) (.and (.eq (.var 11) (.lit 0)) (.and (.eq (.var 12) (.lit 0)) (.and (.eq (.var 13) (.lit 0)) (.and (.eq (.var 14) (.lit 0)) (.and (.eq (.var 15) (.lit 0)) (.and (.eq (.var 16) (.lit 0)) (.and (.eq (.var 17) (.lit 0)) (.and (.eq (.var 18) (.lit 0)) (.and (.eq (.var 19) (.lit 0)) (.and (.eq (.var 20) (.lit 0)) (.and (.eq (.var 21) (.lit 0)) (.and (.eq (.var 22) (.lit 0)) (.and (.eq (.var 23) (.lit 0)) (.and (.eq (.var 24) (.lit 0)) (.and (.eq (.var 25) (.lit 0)) (.and (.eq (.var 26) (.lit 0)) (.and (.eq (.var 27) (.lit 0)) (.and (.eq (.var 28) (.lit 0)) (.and (.eq (.var 29) (.lit 0)) (.and (.eq (.var 30) (.lit 0)) (.and (.eq (.var 31) (.lit 0)) (.and (.eq (.var 32) (.lit 0)) (.eq (.var 33) (.lit 0)))))))))))))))))))))))))))))))))=true↔tC (cI (aE q1 0)) 2 32:=by
  simp only[jr,gM,al,ak];exact adC
 have ff:¬fb (aE q1 0)->Value.bool false=.bool (decide (fb (aE q1 0))):=fun h=>wy ⟨fun e=>(by cases e),fun e=>absurd e h⟩;have tt:fb (aE q1 0)->Value.bool true=.bool (decide (fb (aE q1 0))):=fun h=>wy ⟨fun _=>h,fun _=>rfl⟩;have a:(tC (cI (aE q1 0)) 2 32↔fb (aE q1 0))->Value.bool (bh q1 (.and (.eq (.var 2) (.lit 0)) (.and (.eq (.var 3) (.lit 0)) (.and (.eq (.var 4) (.lit 0)) (.and (.eq (.var 5) (.lit 0)) (.and (.eq (.var 6) (.lit 0)) (.and (.eq (.var 7) (.lit 0)) (.and (.eq (.var 8) (.lit 0)) (.and (.eq (.var 9) (.lit 0)) (.and (.eq (.var 10) (.lit 0)) (.and (.eq (.var 11) (.lit 0)) (.and (.eq (.var 12) (.lit 0)) (.and (.eq (.var 13) (.lit 0)) (.and (.eq (.var 14) (.lit 0)) (.and (.eq (.var 15) (.lit 0)) (.and (.eq (.var 16) (.lit 0)) (.and (.eq (.var 17) (.lit 0)) (.and (.eq (.var 18) (.lit 0)) (.and (.eq (.var 19) (.lit 0)) (.and (.eq (.var 20) (.lit 0)) (.and (.eq (.var 21) (.lit 0)) (.and (.eq (.var 22) (.lit 0)) (.and (.eq (.var 23) (.lit 0)) (.and (.eq (.var 24) (.lit 0)) (.and (.eq (.var 25) (.lit 0)) (.and (.eq (.var 26) (.lit 0)) (.and (.eq (.var 27) (.lit 0)) (.and (.eq (.var 28) (.lit 0)) (.and (.eq (.var 29) (.lit 0)) (.and (.eq (.var 30) (.lit 0)) (.and (.eq (.var 31) (.lit 0)) (.and (.eq (.var 32) (.lit 0)) (.eq (.var 33) (.lit 0))))))))))))))))))))))))))))))))))=.bool (decide (fb (aE q1 0))):=fun h=>wy (d.trans h);generalize Value.bool (decide (fb (aE q1 0)))=V at ff tt a ⊢;rw[c]at ff tt a;clear c d;refine⟨fun h=>ff ah,fun h0=>⟨fun h=>ff ah,fun h1=>?_⟩⟩;have eK:=eK ah;have w0:IntKind.i64.wrap (q1.i 0-1)=q1.i 0-1:=IntWalk.i64_in _ ah;rw[w0];rw[<-eK];generalize cI (aE q1 0) (54+(q1.i 0-1).toNat)=K at ff tt a ⊢;generalize tC (cI (aE q1 0)) 2 32=Z at ff tt a;refine⟨fun h=>ff ah,fun h2=>⟨fun h=>ff ah,fun m=>?_⟩⟩;have k:IntKind.u64.wrap (q1.i 1-1)=q1.i 1-1:=oH ah ah;rw[k];refine⟨fun h=>ff ah,fun n=>⟨fun h=>ff ah,fun o=>⟨fun h=>ff ah,fun p=>⟨ah,ah,fun h=>ff ah,fun f=>?_⟩⟩⟩⟩;refine⟨fun h=>ff ah,fun k0=>⟨fun h=>ff ah,fun k1=>⟨fun h=>ff ah,fun k2=>⟨fun h=>ff ah,fun k3=>⟨fun h=>ff ah,fun k4=>⟨fun h=>ff ah,fun k5=>⟨fun h=>a ⟨fun z=>?_,fun z=>?_⟩,fun h=>tt ?_⟩⟩⟩⟩⟩⟩⟩
 .exact⟨ah,ah,ah,ah,f,ah,Or.inr z⟩
 .rcases z.2.2.2.2.2.2 with z | z
  .omega
  .exact z
 .exact⟨ah,ah,ah,ah,f,ah,Or.inl h⟩
def xH:Value->Prop
 | .int .u8 z=>0<=z/\z<256
 | .int .u64 z=>0<=z/\z<18446744073709551616
 | .int .i64 z=>lu z
 | _=>True
structure Hd where
 c:List Value
 t:List (List Int)
variable {h h':Hd}
def Hd.Form (h:Hd):Prop:=fb h.c/\h.t.length<=8/\mM h.t/\iL (cI h.c 92-16)/\(cB h.c 35=true->h.t=[]/\tC (cI h.c) 37 16)
structure bU (R:Hl) (row:List Value) (h:Hd):Prop where
 ok:bo row fu
 rng:∀ v∈row,xH v
 core:h.c=row.set 53 (.bool false)
 tok:bq R (row.getD 53 (.bool false)) pQ (h.t.map aM)
 byte:Ed h.t
def il {rows:List (List Value)} (h:bq R v ks rows) (hl:R.le R'):bq R' v ks rows:=by
 obtain⟨x,y,c,e,b,h⟩:=h;refine⟨x,y,c,e,b,h.imp id fun⟨hx,h⟩=>⟨hx,fun i row hr=>⟨(h i row hr).1,fun j u hu=>?_⟩⟩⟩;have hc:=(h i row hr).2 j u hu;unfold Hl.cell at hc ⊢;cases a:R x.toNat with
 | none=>rw[a]at hc;cases hc
 | some o=>rw[hl _ _ a];rw[a]at hc;exact hc
def bU.mono (x:bU R row h) (hl:R.le R'):bU R' row h:=⟨x.ok,x.rng,x.core,il x.tok hl,x.byte⟩
def jO:∀ {a b:List (List Int)},a.map aM=b.map aM->a=b
 | [],[],_=>rfl
 | [],_::_,h=>by cases h
 | _::_,[],h=>by cases h
 | u::a,v::b,h=>by
  simp only[aaY,aaC]at h;rw[ly h.1,jO h.2]
def bU.uniq (x:bU R row h) (y:bU R row h'):h=h':=by
 obtain⟨c,t⟩:=h;obtain⟨c',t'⟩:=h';have e1:c=c':=x.core.trans y.core.symm;have a:t=t':=jO (x.tok.uniq y.tok);rw[e1,a]
def TZ (h:k≠53):cI (row.set 53 (.bool false)) k=cI row k:=by
 unfold cI;rw[abF ah]
def TY (h:k≠53):cB (row.set 53 (.bool false)) k=cB row k:=by
 unfold cB;rw[abF ah]
def bU.I (x:bU R row h) (hk:k≠53):cI h.c k=cI row k:=by rw[x.core,TZ hk]
def bU.B (x:bU R row h) (hk:k≠53):cB h.c k=cB row k:=by rw[x.core,TY hk]
def wh {f g:Nat->Int} (h:∀ j,j<k->f (n+j)=g (n+j)):tC f n k↔tC g n k:=by
 rw[Eo,Eo];exact⟨fun hf j a=>by rw[<-h j a];exact hf j a,fun b j a=>by rw[h j a];exact b j a⟩
def bU.form (x:bU R row h):h.Form↔(fb row/\h.t.length<=8/\mM h.t/\iL (cI row 92-16)/\(cB row 35=true->h.t=[]/\tC (cI row) 37 16)):=by
 have e1:fb h.c↔fb row:=by
  unfold fb;have a:tC (cI h.c) 2 32↔tC (cI row) 2 32:=wh fun j b=>x.I ah;have hk:cI h.c (54+(cI row 0-1).toNat)=cI row (54+(cI row 0-1).toNat):=x.I ah;rw[x.I (k:=0) aA,x.I (k:=1) aA,x.I (k:=34) aA,x.I (k:=36) aA,x.I (k:=54) aA,x.I (k:=55) aA,x.I (k:=56) aA,x.I (k:=57) aA,x.I (k:=58) aA,x.I (k:=59) aA,a,hk]
 have d:tC (cI h.c) 37 16↔tC (cI row) 37 16:=wh fun j b=>x.I ah;unfold Hd.Form;rw[e1,d,x.I (k:=92) aA,x.B (k:=35) aA]
def mV (h:bo row fu):∃ q:Env,row=aE q 0/\q.h 130=R/\bR 0 cy q/\0<=q.i 54/\0<=q.i 55/\0<=q.i 56:=by
 obtain⟨q,_,hn,e⟩:=cY cy 0 row (bf fun _=>0) h;have hs:∀ (a b:List Ck) (n:Nat),bR n (a++b) q->bR (n+bd a) b q:=by
  intro a
  induction a with
  | nil=>intro b n h;simpa [bd] using h
  | cons k a ih =>
   intro b n h;have:=ih b (n+k.len) h.2;rw[show n+k.len+bd a=n+bd (k::a)by simp [bd];omega]at this;exact this
 have c:=hn;have hn:bR 0 (cy.take 53++(.sl::cy.drop 54)) q:=hn;have hs:=(hs (cy.take 53) (.sl::cy.drop 54) 0 hn).1;exact⟨⟨q.i,q.b,q.s,q.v,fun k=>if k=130 then R else Hl.none⟩,e.symm,rfl,c,hs.2.1,hs.2.2.1,hs.2.2.2⟩
open Classical in
noncomputable def ie (f:FuncId):Sx.Spec where
 fn:=f
 own:=[]
 rd:=[10053]
 res:=[.one .bool]
 pre:=fun xs Hs Rs=>∃ row R h,xs=[.agg row.toArray]/\Rs=[R]/\bU R row h
 post:=fun xs Hs Rs v Hs' F=>∃ row R h,xs=[.agg row.toArray]/\Rs=[R]/\bU R row h/\v=.bool (decide h.Form)
noncomputable def E6:List Sx.Spec:=[qO 148,qO 103,UP,NA,DJ]
def JV:∀ t∈E6,t.OK Tryz.prog:=av BG <| av Mp <| av RJ <| av NB <| av IJ <| bW
def Y5:E6[1]?=some (qO 103):=rfl
def Wz (f:FuncId):(qO f).res=[.one .bool]:=rfl
def fr2:UP.res=[.one .bool]:=rfl
def fr3:NA.res=[.one (.int .i64)]:=rfl
def fr4:DJ.res=[.one .bool]:=rfl
noncomputable def yW:aG Tryz.prog E6 117 where
 Λ:=aC
 args:=(cA 0 [.agg cy]).map .sv
 mem:=[.ro 130 [.var 53] false]
 nv:=131
def sj:0+bd cy<=128:=acs zzK
def DO {p:Option Addr} (h:bq R (.slice p n c) ks (T.map aM)):n=T.length:=by
 obtain⟨x,y,c',e,_⟩:=h;simp only[Value.slice.injEq,aaT]at e;exact e.2.1
def SC (z:Int):lu (IntKind.i64.wrap z):=by
 unfold lu;rw[IntKind.wrap_i64];omega
def Pe (h:lu z):iL (IntKind.i64.wrap (z-16))↔iL (z-16):=by
 unfold lu at h;unfold iL;rw[IntKind.wrap_i64];omega
def uk (h:iL (z-16)):80<=z/\z<=2064:=by
 unfold iL at h;omega
def NC (h1:80<=z) (h2:z<=2064):Li (IntKind.i64.wrap (z-17))=IntKind.i64.wrap (z-16)↔iL (z-16):=by
 rw[IntWalk.i64_in (z-17) ah,IntWalk.i64_in (z-16) ah];unfold Li iL
 repeat' split
 all_goals omega
def yz (P:Prop):∃ z:Int,P↔z=1:=by
 by_cases h:P
 .exact⟨1,fun _=>rfl,fun _=>h⟩
 .exact⟨0,fun x=>absurd x h,fun x=>absurd x aA⟩
open Classical in
def nV (hx:bU R row h) {e:E} (hb:bh q e=true↔h.Form) {mem:Mem} : postOf (ie f) [.agg row.toArray] [] [R] q mem (.sv (.one (.bool e))):=by
 intro _;exact⟨[],[],rfl,rfl,⟨⟨fun _=>0,fun _=>bh q e,fun _=>.empty,fun _=>.tuple #[],fun _=>Hl.none⟩,rfl,zzT,zzT⟩,_,R,h,rfl,rfl,hx,wy hb⟩
open Classical in
def Cw {Hs K:List Hl} (h:bq R u pQ (T.map aM)) (hp:(qO f).post [u] Hs [R] v K F):v=.bool (decide (mM T)):=by
 obtain⟨c,R',d,e1,a,b,hv⟩:=hp;simp only[aaC,aaP]at e1 a;subst e1 a;rw[jO (h.uniq b)];exact hv
open Classical in
def nU:(ie 117).OK Tryz.prog:=by
 refine Spec.aV (Γ:=E6) JV ?_;rintro xs Hs Rs o D ⟨row,R,h,rfl,rfl,hx⟩;have E:Hs=[]:=aaz.1 o;subst E;obtain⟨J,rfl,j,p,F,s,G⟩:=mV (R:=R) hx.ok;refine⟨yW,J,fun _ _=>True,fun _ _=>0,?_,⟨?_,?_,?_,?_⟩,(fun _ h=>nomatch h),?_⟩
 .rfl
 .intro r hr ho;simp [yW]at hr;subst hr;cases ho
 .intro r hr ho;simp [yW]at hr;subst hr;exact⟨R,aF,by show(J.h 130).le R;rw[j];exact Hl.le_refl _⟩
 .simp [yW]
 .intro r hr;simp [yW]at hr;subst hr;trivial
 .refine aG.read [cy] [] [] ?_;simp only[go_sem,Nat.reduceAdd,E6,Wz,fr2,fr4,Vt];have k:=hx.form;have hT:=hx.tok;have hT:bq R (.slice (az (J.i 53) (J.i 54)) (J.i 55).toNat (J.i 56).toNat) pQ (h.t.map aM):=hT;have hlen:(J.i 55).toNat=h.t.length:=DO hT;have u:cI (aE J 0) 92=J.i 95:=rfl;have v:cB (aE J 0) 35=J.b 35:=rfl;have l:lu (J.i 95):=hx.rng (.int .i64 (J.i 95)) (aaA (i:=92) rfl);rw[u,v]at k;intro q1 w _;have WK:aE q1 0=aE J 0:=cX w.mono;refine⟨⟨⟨q1,⟨lZ w.mono cy 0 sj p,zzT⟩,rfl⟩,zzT⟩,fun q2 H ⟨N,a,_⟩=>?_⟩;have a:Value.bool (q2.b 132)=.bool (decide (fb (aE q1 0))):=a;rw[WK]at a;simp only[Value.bool.injEq]at a;rw[a,aaB];have m:ai 131 J q2:=w.tr H;rw[m.i 55,m.i 53,m.i 54,m.i 56,m.h 130,j];have ff:∀ {q:Env} {mem:Mem},¬h.Form->postOf (ie 117) [.agg (aE J 0).toArray] [] [R] q mem (.sv (.one (.bool .ff))):=fun hf=>nV hx ⟨fun e=>(by rw[du]at e;cases e),fun e=>absurd e hf⟩;refine⟨fun c=>⟨s,fun I=>⟨⟨_,R,h.t,rfl,rfl,hT,hx.byte⟩,fun A K ⟨O,x,_⟩=>?_⟩,fun I=>ff fun hf=>?_⟩,fun c=>ff fun hf=>c (k.1 hf).1⟩
  .have hs:=Cw hT x;have hs:A.b 133=decide (mM h.t):=by simpa [bD] using hs
   rw[hs,aaB];have B:ai 131 J A:=m.tr K;rw[B.i 95];refine⟨fun d=>⟨⟨⟨aL [IntKind.i64.wrap (J.i 95-16)] false [],⟨zzT,zzT⟩,rfl⟩,SC _⟩,fun n L ⟨P,f,_⟩=>?_⟩,fun d=>ff fun hf=>d (k.1 hf).2.2.1⟩;have f:Value.bool (n.b 134)=.bool (decide (iL (IntKind.i64.wrap (J.i 95-16)))):=f;simp only[Value.bool.injEq]at f;rw[f,aaB,Pe l];have y:ai 131 J n:=B.tr L;rw[y.b 35,y.i 55];refine⟨fun g=>ff fun hf=>g (k.1 hf).2.2.2.1,fun g=>⟨fun hc=>⟨fun C=>nV hx ?_,fun C=>ff fun hf=>?_⟩,fun hc=>nV hx ?_⟩⟩
   .have M:bh n (.and (.eq (.var 37) (.lit 0)) (.and (.eq (.var 38) (.lit 0)) (.and (.eq (.var 39) (.lit 0)) (.and (.eq (.var 40) (.lit 0)) (.and (.eq (.var 41) (.lit 0)) (.and (.eq (.var 42) (.lit 0)) (.and (.eq (.var 43) (.lit 0)) (.and (.eq (.var 44) (.lit 0)) (.and (.eq (.var 45) (.lit 0)) (.and (.eq (.var 46) (.lit 0)) (.and (.eq (.var 47) (.lit 0)) (.and (.eq (.var 48) (.lit 0)) (.and (.eq (.var 49) (.lit 0)) (.and (.eq (.var 50) (.lit 0)) (.and (.eq (.var 51) (.lit 0)) (.eq (.var 52) (.lit 0)))))))))))))))))=true↔tC (cI (aE n 0)) 37 16:=by
     simp only[jr,gM,al,ak];exact adC
    rw[M,cX y.mono,k];refine⟨fun z=>⟨c,ah,d,g,fun _=>⟨aaz.1 ah,z⟩⟩,fun hf=>(hf.2.2.2.2 hc).2⟩
   .have:=((k.1 hf).2.2.2.2 hc).1;rw[this]at hlen;exact C (by simpa using (show J.i 55=0 by simp at hlen;omega))
   .rw[cZ,k];exact⟨fun _=>⟨c,ah,d,g,fun h=>absurd h hc⟩,fun _=>rfl⟩
  .have:=(k.1 hf).2.1;omega
noncomputable def Ap:aG Tryz.prog E6 65 where
 Λ:=aC
 args:=(cA 0 [.agg cy]).map .sv
 mem:=[.ro 130 [.var 53] false]
 nv:=131
def TR (q:Env):(q.i 2=0/\q.i 3=0/\q.i 4=0/\q.i 5=0/\q.i 6=0/\q.i 7=0/\q.i 8=0/\q.i 9=0/\q.i 10=0/\q.i 11=0/\q.i 12=0/\q.i 13=0/\q.i 14=0/\q.i 15=0/\q.i 16=0/\q.i 17=0/\q.i 18=0/\q.i 19=0/\q.i 20=0/\q.i 21=0/\q.i 22=0/\q.i 23=0/\q.i 24=0/\q.i 25=0/\q.i 26=0/\q.i 27=0/\q.i 28=0/\q.i 29=0/\q.i 30=0/\q.i 31=0/\q.i 32=0/\q.i 33=0)↔tC (cI (aE q 0)) 2 32:=adC
def TT (q:Env):(q.i 37=0/\q.i 38=0/\q.i 39=0/\q.i 40=0/\q.i 41=0/\q.i 42=0/\q.i 43=0/\q.i 44=0/\q.i 45=0/\q.i 46=0/\q.i 47=0/\q.i 48=0/\q.i 49=0/\q.i 50=0/\q.i 51=0/\q.i 52=0)↔tC (cI (aE q 0)) 37 16:=adC
open Classical in
def vI:(ie 65).OK Tryz.prog:=by
 refine Spec.aV (Γ:=E6) JV ?_;rintro xs Hs Rs v D ⟨row,R,h,rfl,rfl,hx⟩;have w:Hs=[]:=aaz.1 v;subst w;obtain⟨J,rfl,k,E,F,x,G⟩:=mV (R:=R) hx.ok;refine⟨Ap,J,fun _ _=>True,fun _ _=>0,?_,⟨?_,?_,?_,?_⟩,(fun _ h=>nomatch h),?_⟩
 .rfl
 .intro r hr ho;simp [Ap]at hr;subst hr;cases ho
 .intro r hr ho;simp [Ap]at hr;subst hr;exact⟨R,aF,by show(J.h 130).le R;rw[k];exact Hl.le_refl _⟩
 .simp [Ap]
 .intro r hr;simp [Ap]at hr;subst hr;trivial
 .refine aG.read [] [] [] ?_;simp only[go_sem,Nat.reduceAdd,Y5,Wz,E6,fr3,sc1,Vt,TR,TT];have l:=hx.form;have hT:=hx.tok;have hT:bq R (.slice (az (J.i 53) (J.i 54)) (J.i 55).toNat (J.i 56).toNat) pQ (h.t.map aM):=hT;have hlen:(J.i 55).toNat=h.t.length:=DO hT;have y:cI (aE J 0) 92=J.i 95:=rfl;have z:cB (aE J 0) 35=J.b 35:=rfl;rw[y,z]at l;have C:fb (aE J 0)↔((1<=J.i 0/\J.i 0<=6)/\(1<=J.i 1/\J.i 1<=1048576)/\(0<=J.i 34/\J.i 34<=255)/\J.i 36<=1099511627776/\cI (aE J 0) (54+(J.i 0-1).toNat)=J.i 1-1/\(J.i 57<=1048576/\J.i 58<=1048576/\J.i 59<=1048576/\J.i 60<=1048576/\J.i 61<=1048576/\J.i 62<=1048576)/\(1<J.i 1\/tC (cI (aE J 0)) 2 32)):=adC;have eK:=Fw J;have eB:=@NC (J.i 95);have eI:=@uk (J.i 95);have eN:h.t=[]↔J.i 55=0:=by rw[<-aaz];omega
  rw[C,eN]at l;clear C eN;obtain⟨L,m⟩:=yz (tC (cI (aE J 0)) 2 32);obtain⟨M,n⟩:=yz (tC (cI (aE J 0)) 37 16);obtain⟨z3,g⟩:=yz (J.b 35=true);obtain⟨z4,o⟩:=yz (mM h.t);obtain⟨z5,p⟩:=yz (iL (J.i 95-16));rw[m,n,g,o,p]at l;rw[p]at eB eI;have ff:∀ {q:Env} {mem:Mem},¬h.Form->postOf (ie 65) [.agg (aE J 0).toArray] [] [R] q mem (.sv (.one (.bool .ff))):=fun hf=>nV hx ⟨fun e=>(by rw[du]at e;cases e),fun e=>absurd e hf⟩;rw[l]at ff;intro q1 f _;rw[f.i 0,f.i 1,f.i 34,f.i 36,f.i 55,f.i 53,f.i 54,f.i 56,f.h 130,k];refine⟨fun N=>⟨fun c1=>⟨fun c2=>⟨fun c3=>⟨fun O=>⟨fun P=>⟨fun Q=>⟨x,fun S=>⟨⟨_,R,h.t,rfl,rfl,hT,hx.byte⟩,fun q2 H ⟨T,A,_⟩=>?_⟩,fun c=>ff ah⟩,fun c=>ff ah⟩,fun c=>ff ah⟩,fun c=>ff ah⟩,fun c=>ff ah⟩,fun c=>ff ah⟩,fun c=>ff ah⟩,fun c=>ff ah⟩;have d:ai 131 J q2:=f.tr H;have hs:=Cw hT A;have hs:q2.b 132=decide (mM h.t):=by simpa [bD] using hs
  rw[hs,aaB,o];simp only[d.i 0,d.i 1,d.i 34,d.i 36,d.i 55,d.i 57,d.i 58,d.i 59,d.i 60,d.i 61,d.i 62,d.i 95,d.b 35];refine⟨fun c=>ff ah,fun d0=>⟨fun c=>ff ah,fun d1=>⟨fun c=>ff ah,fun d2=>⟨fun c=>ff ah,fun d3=>⟨fun c=>ff ah,fun d4=>⟨fun c=>ff ah,fun d5=>⟨fun c=>ff ah,fun d6=>⟨fun w=>⟨fun e1=>⟨⟨⟨aL [IntKind.i64.wrap (J.i 95-17)] false [],⟨zzT,zzT⟩,rfl⟩,zzT⟩,fun u I ⟨U,j,_⟩=>?_⟩,fun c=>?_⟩,fun c=>?_⟩⟩⟩⟩⟩⟩⟩⟩
  rotate_left
  .rw[g];exact⟨fun f0=>⟨fun f1=>⟨fun f2=>ff ah,fun f2=>ff ah⟩,fun f1=>ff ah⟩,fun f0=>⟨fun f1=>⟨fun f2=>ff ah,fun f2=>ff ah⟩,fun f1=>ff ah⟩⟩
  .rw[g];exact⟨fun f0=>⟨fun f1=>⟨fun f2=>ff ah,fun f2=>ff ah⟩,fun f1=>ff ah⟩,fun f0=>⟨fun f1=>⟨fun f2=>ff ah,fun f2=>ff ah⟩,fun f1=>ff ah⟩⟩
  have a:ai 131 J u:=d.tr I;have j:Value.int .i64 (u.i 133)=.int .i64 (Li (IntKind.i64.wrap (J.i 95-17))):=j;simp only[Value.int.injEq,abk]at j;have B:aE u 0=aE J 0:=cX a.mono;have eB:=eB w e1;simp only[j,B,m,n,eB,a.i 0,a.i 1,a.i 34,a.i 36,a.i 55,a.i 57,a.i 58,a.i 59,a.i 60,a.i 61,a.i 62,a.i 95,a.b 35];rw[g];have w0:IntKind.i64.wrap (J.i 0-1)=J.i 0-1:=IntWalk.i64_in _ ah;have K:IntKind.u64.wrap (J.i 1-1)=J.i 1-1:=oH ah ah;have s:∀ {mem:Mem},(cI (aE J 0) (54+(J.i 0-1).toNat)=J.i 1-1↔h.Form)->postOf (ie 65) [.agg (aE J 0).toArray] [] [R] u mem (.sv (.one (.bool (.eq (.ite (.eq (.wrap .i64 (.sub (.var 0) (.lit 1))) (.lit 0)) (.var 57) (.ite (.eq (.wrap .i64 (.sub (.var 0) (.lit 1))) (.lit 1)) (.var 58) (.ite (.eq (.wrap .i64 (.sub (.var 0) (.lit 1))) (.lit 2)) (.var 59) (.ite (.eq (.wrap .i64 (.sub (.var 0) (.lit 1))) (.lit 3)) (.var 60) (.ite (.eq (.wrap .i64 (.sub (.var 0) (.lit 1))) (.lit 4)) (.var 61) (.var 62)))))) (.wrap .u64 (.sub (.var 1) (.lit 1))))))):=fun {mem} hh=>nV hx (by
   rw[<-hh,eK ah];simp only[gM,cO,bP,dm,al,ak,a.i 0,a.i 1,a.i 57,a.i 58,a.i 59,a.i 60,a.i 61,a.i 62,w0,K])
  rw[l]at s;rw[w0];exact⟨fun f0=>⟨fun f1=>⟨fun f2=>⟨fun f3=>⟨fun f4=>⟨fun f5=>⟨ah,ah,s ah⟩,fun f5=>ff ah⟩,fun f4=>ff ah⟩,fun f3=>ff ah⟩,fun f2=>⟨fun f3=>⟨fun f4=>ff ah,fun f4=>ff ah⟩,fun f3=>ff ah⟩⟩,fun f1=>⟨fun f3=>⟨fun f4=>⟨ah,ah,s ah⟩,fun f4=>ff ah⟩,fun f3=>ff ah⟩⟩,
   fun f0=>⟨fun f1=>⟨fun f2=>⟨fun f3=>⟨fun f5=>⟨ah,ah,s ah⟩,fun f5=>ff ah⟩,fun f3=>ff ah⟩,fun f2=>⟨fun f3=>ff ah,fun f3=>ff ah⟩⟩,fun f1=>⟨fun f3=>⟨ah,ah,s ah⟩,fun f3=>ff ah⟩⟩⟩
end Go.Proofs.YtomdimlnggpgbaaGreatDoor
