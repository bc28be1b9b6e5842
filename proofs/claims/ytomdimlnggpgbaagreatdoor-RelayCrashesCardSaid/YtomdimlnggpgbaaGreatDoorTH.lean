/- RelayCrashes. -/
import Derived.Test.YtomdimlnggpgbaaGreatDoorTG
set_option linter.all false
set_option maxHeartbeats 4000000
namespace Go.Proofs.YtomdimlnggpgbaaGreatDoor
open Go Go.Sx Go.Pk
open Go.Proofs.YtomdimlnggpgbaaGreatDoor.D hiding aL aC fP
variable {D:DM}{J q:Env}{F H H' R R':Hl}{rows:List (List Int)}{Hs K Rs:List Hl}{bs:List Int}{a b j m n:Nat}{S:SM}{dp p pa pb sl u v:Value}
def ck.rep (h:ck F v rows):∃ (x:Int) (c:Nat),-1<=x/\v=.slice (az x 0) rows.length c:=by
 obtain⟨us,ho,_⟩:=h;rcases ho.2 with ⟨h,hn⟩ | ⟨g,cap,cur,h,_⟩
 .exact⟨-1,0,ah,by rw[fx,hn];exact h⟩
 .exact⟨g,cap,ah,by rw[au ah];simpa using h⟩
structure AdR where
 e:Int
 D:DM
 S:SM
def Ey (D:DM) (S:SM) (rows:List (List Int)) (r:AR):AdR :=
 ⟨pO r.e,r.D,⟨r.L,r.bs,S.LB,S.bB,if pO r.e=0 then S.recs++rows else S.recs,if r.e≠0/\gi r.e=mT then true else S.over⟩⟩
open Classical in
noncomputable def cH (D:DM) (S:SM) (rows:List (List Int)):AdR :=
 if S.over=true then⟨5,D,S⟩
 else if ¬gK rows then⟨3,D,S⟩
 else if rows=[]then⟨0,D,S⟩
 else if S.LA.most-S.bA.length<(bI rows).length then⟨4,D,S⟩
 else Ey D S rows (aT D S.LA S.bA (bI rows) S.LA.note)
noncomputable def G0:Sx.Spec where
 fn:=15
 own:=[.arg 0,.link 0 0]
 rd:=[1,3000001,2000000]
 res:=[.one (.int .i64)]
 pre:=fun xs Hs Rs=>∃ p v H HD R RA RG g dp S D rows,xs=[p,v]/\Hs=[H,HD]/\Rs=[R,RA,RG]/\jm H p dp S/\aD HD dp D/\jN R RA v rows/\Gl RG g/\rows.length<=1000000/\(∀ r∈rows,0<=r.length)/\S.bA.length<=1048576/\0<=S.LA.serial/\S.recs.length<=1000000000
 post:=fun xs Hs Rs w Hs' F=>∃ p v H HD R RA RG dp S D rows H' a,xs=[p,v]/\Hs=[H,HD]/\Rs=[R,RA,RG]/\jm H p dp S/\aD HD dp D/\jN R RA v rows/\Hs'=[H',a]/\aD a dp (cH D S rows).D/\jm H' p dp (cH D S rows).S/\w=.int .i64 (cH D S rows).e
def Si {L:LM} (h:Value.int .i64 (q.i n)=.int .i64 (L.most-bs.length)):q.i n=L.most-bs.length:=by simpa using h
noncomputable def XV:List Sx.Spec:=[Au,xj,ql,qX,Bc,VN,rz,tR]
def Tt:∀ t∈XV,t.OK Tryz.prog:=av Mv <| av Gn <| av BK <| av He <| av GY <| av Ox <| av Iz <| av yL <| bW
noncomputable def Np:aG Tryz.prog XV G0.fn where
 Λ:=fun p=>if OJ p then some ⟨0,[(51,TI .i64 (.var 60))],[(0,.bj 0 [.hptr (.var 5) (.lit 0),.hptr (.var 6) (.lit 0),.sl (.var 61) (.lit 0) (.var 62) (.var 63),.bool (.bvar 65)] 101),(3,.hp 64 [] [.var 61] [])],66⟩else none
 args:=[TP (.var 0) (.lit 0),.sv (.one (.sl (.var 1) (.var 2) (.var 3) (.var 4)))]
 mem:=[.bj 0 [.hptr (.var 5) (.lit 0),.hptr (.var 6) (.lit 0),.sl (.var 7) (.lit 0) (.var 8) (.var 9),.bool (.bvar 10)] 101,.hp 12 [] [.var 5] [.var 11],.hp 13 [] [.var 6] [.var 11],.hp 14 [] [.var 7] [],.hp 15 [] [.var 11] [],.ro 16 [.var 1] false,.ro 17 [] true,.ro 18 [.lit 0,.lit 1,.lit 2] false]
 nv:=19
def YB:Au.res=[.one .sl,.one (.int .i64)]:=rfl
def YC:xj.res=[.one (.int .i64)]:=rfl
def YD:ql.res=[.agg (tG 16)]:=rfl
def YE:qX.res=[.one (.int .i64)]:=rfl
def YF:Bc.res=[.one .any]:=rfl
def YG:VN.res=[.one .bool]:=rfl
def YH:rz.res=[.one (.int .i64)]:=rfl
def VV:tR.res=[.one .sl]:=rfl
set_option maxRecDepth 8000 in
def QG:G0.OK Tryz.prog:=by
 refine kI (Γ:=XV) Tt ?_;rintro xs Hs Rs cD cE ba ⟨p,v,H,HD,R,RA,RG,g,dp,S,D,rows,rfl,rfl,rfl,bb,hD,hB,hG,hlen,aE,bc,bd,bO⟩;obtain⟨a,pa,pb,sl,HA,HB,HR,rfl,hIn⟩:=id bb;obtain⟨us,x,y,c,rfl,hy,ay,aC,bP⟩:=id hB;obtain⟨da,s,m,es,clock,cF,cG⟩:=id hD;obtain⟨rx,rc,bQ,O⟩:=hIn.rows.rep;obtain⟨aa,_,_,bR,_⟩:=id hIn.la;obtain⟨ab,_,_,bS,_⟩:=id hIn.lb;obtain⟨l1,l2,l3,l4⟩:=J1 hIn.d1 hIn.d2 hIn.d3 hIn.d4 hIn.d5 hIn.d6;rw[<-hIn.hl]at l1 l2 l3 l4;have bT:H.bV HD:=ba 0 1 _ _ aA rfl rfl;generalize d:aL [(a:Int),x,y,us.length,c,aa,ab,rx,S.recs.length,rc,0,da] S.over [Hl.none,Hl.none,Hl.none,Hl.none,Hl.none,Hl.none,Hl.none,Hl.none,Hl.none,Hl.none,Hl.none,Hl.none,HA,HB,HR,HD,R,RA,RG]=J;have v0:J.i 0=a:=by rw[<-d];rfl
 have v1:J.i 1=x:=by rw[<-d];rfl
 have v2:J.i 2=y:=by rw[<-d];rfl
 have v3:J.i 3=us.length:=by rw[<-d];rfl
 have v4:J.i 4=c:=by rw[<-d];rfl
 have v5:J.i 5=aa:=by rw[<-d];rfl
 have v6:J.i 6=ab:=by rw[<-d];rfl
 have v7:J.i 7=rx:=by rw[<-d];rfl
 have v8:J.i 8=S.recs.length:=by rw[<-d];rfl
 have v9:J.i 9=rc:=by rw[<-d];rfl
 have v11:J.i 11=da:=by rw[<-d];rfl
 have aH:J.b 10=S.over:=by rw[<-d];rfl
 have af:J.h 12=HA:=by rw[<-d];rfl
 have P:J.h 13=HB:=by rw[<-d];rfl
 have A:J.h 14=HR:=by rw[<-d];rfl
 have I:J.h 15=HD:=by rw[<-d];rfl
 have aI:J.h 16=R:=by rw[<-d];rfl
 have aJ:J.h 17=RA:=by rw[<-d];rfl
 have ag:J.h 18=RG:=by rw[<-d];rfl
 clear d;have ea:Value.pointer (az (aa:Int) 0)=pa:=by rw[gT,bR]
 have eb:Value.pointer (az (ab:Int) 0)=pb:=by rw[gT,bS]
 have au:∀ (q:Env) (cs:CV) (o:E),q.i 0=a->q.i 5=aa->q.i 6=ab->(bL.bj 0 [.hptr (.var 5) (.lit 0),.hptr (.var 6) (.lit 0),cs,.bool o] 101).hl q=MJ a pa pb (cs.ev q) (bh q o):=by
  intro q cs o h0 h5 h6;show Hl.one (q.i 0).toNat (.cells #[Value.pointer (az (q.i 5) 0),Value.pointer (az (q.i 6) 0),cs.ev q,.bool (bh q o)] _ (0,0))=_;rw[h0,h5,h6,ea,eb,aar];rfl
 have e0:(bL.bj 0 [.hptr (.var 5) (.lit 0),.hptr (.var 6) (.lit 0),.sl (.var 7) (.lit 0) (.var 8) (.var 9),.bool (.bvar 10)] 101).hl J=MJ a pa pb sl S.over:=by
  rw[au J _ _ v0 v5 v6,bD,aH]
  congr 1
  show Value.slice (az (J.i 7) 0) (J.i 8).toNat (J.i 9).toNat=_;rw[v7,v8,v9,aar,aar,O]
 refine⟨Np,J,fun _ q=>∃ k:Nat,q.i 60=k/\k<=rows.length/\ -1<=q.i 61/\0<=q.i 62/\0<=q.i 63/\q.b 65=false/\ck (q.h 64) (.slice (az (q.i 61) 0) (q.i 62).toNat (q.i 63).toNat) (S.recs++rows.take k),fun _ q=>(rows.length-q.i 60).toNat,?_,⟨?_,?_,?_,?_⟩,(fun _ h=>nomatch h),?_⟩
 .show [Value.pointer (az (J.i 0) 0),Value.slice (az (J.i 1) (J.i 2)) (J.i 3).toNat (J.i 4).toNat]=_;rw[v0,v1,v2,v3,v4,aar,aar,gT]
 .intro r hr ho;simp only[Np,aaN,aaX,abC]at hr;rcases hr with rfl | rfl | rfl | rfl | rfl | rfl | rfl | rfl
  .exact⟨H,aF,by rw[e0];exact l1⟩
  .exact⟨H,aF,by show(J.h 12).le H;rw[af];exact l2⟩
  .exact⟨H,aF,by show(J.h 13).le H;rw[P];exact l3⟩
  .exact⟨H,aF,by show(J.h 14).le H;rw[A];exact l4⟩
  .exact⟨HD,aF,by show(J.h 15).le HD;rw[I];exact Hl.le_refl _⟩
  .cases ho
  .cases ho
  .cases ho
 .intro r hr ho;simp only[Np,aaN,aaX,abC]at hr;rcases hr with rfl | rfl | rfl | rfl | rfl | rfl | rfl | rfl
  .cases ho
  .cases ho
  .cases ho
  .cases ho
  .cases ho
  .exact⟨R,aF,by show(J.h 16).le R;rw[aI];exact Hl.le_refl _⟩
  .exact⟨RA,aF,by show(J.h 17).le RA;rw[aJ];exact Hl.le_refl _⟩
  .exact⟨RG,aF,by show(J.h 18).le RG;rw[ag];exact Hl.le_refl _⟩
 .have dD:∀ K:Hl,K.le H->K.bV HD:=fun K hK=>Hl.jv (Hl.yR (Hl.jv bT) hK);have bg:Np.mem=[.bj 0 [.hptr (.var 5) (.lit 0),.hptr (.var 6) (.lit 0),.sl (.var 7) (.lit 0) (.var 8) (.var 9),.bool (.bvar 10)] 101,.hp 12 [] [.var 5] [.var 11],.hp 13 [] [.var 6] [.var 11],.hp 14 [] [.var 7] [],.hp 15 [] [.var 11] [],.ro 16 [.var 1] false,.ro 17 [] true,.ro 18 [.lit 0,.lit 1,.lit 2] false]:=rfl;rw[bg];have bU:∀ (l:Mem),(∀ r∈l,r.own=false)->∀ K:bL,∀ r∈l,K.own=true->r.own=true->(K.hl J).bV (r.hl J):=fun l h K r hr _ ho=>by rw[h r hr]at ho;cases ho
  have Q:∀ r∈([.ro 16 [.var 1] false,.ro 17 [] true,.ro 18 [.lit 0,.lit 1,.lit 2] false]:Mem),r.own=false:=by
   intro r hr;simp only[aaN,aaX,abC]at hr;rcases hr with rfl | rfl | rfl<;>rfl
  refine List.Pairwise.cons (fun r hr hk ho=>?_) (List.Pairwise.cons (fun r hr hk ho=>?_) (List.Pairwise.cons (fun r hr hk ho=>?_) (List.Pairwise.cons (fun r hr hk ho=>?_) (List.Pairwise.cons (fun r hr hk ho=>bU _ Q _ r hr hk ho) (List.Pairwise.cons (fun r hr hk ho=>by cases hk) (List.Pairwise.cons (fun r hr hk ho=>by cases hk) (List.Pairwise.cons (fun r hr=>by cases hr) List.Pairwise.nil)))))))
  .rw[e0];rw[aaN,aaN,aaN,aaN]at hr;rcases hr with rfl | rfl | rfl | rfl | hr
   .show(MJ a pa pb sl S.over).bV (J.h 12);rw[af];exact hIn.d1
   .show(MJ a pa pb sl S.over).bV (J.h 13);rw[P];exact hIn.d2
   .show(MJ a pa pb sl S.over).bV (J.h 14);rw[A];exact hIn.d3
   .show(MJ a pa pb sl S.over).bV (J.h 15);rw[I];exact dD _ l1
   .rw[Q r hr]at ho;cases ho
  .rw[aaN,aaN,aaN]at hr;show(J.h 12).bV _;rw[af];rcases hr with rfl | rfl | rfl | hr
   .show HA.bV (J.h 13);rw[P];exact hIn.d4
   .show HA.bV (J.h 14);rw[A];exact hIn.d5
   .show HA.bV (J.h 15);rw[I];exact dD _ l2
   .rw[Q r hr]at ho;cases ho
  .rw[aaN,aaN]at hr;show(J.h 13).bV _;rw[P];rcases hr with rfl | rfl | hr
   .show HB.bV (J.h 14);rw[A];exact hIn.d6
   .show HB.bV (J.h 15);rw[I];exact dD _ l3
   .rw[Q r hr]at ho;cases ho
  .rw[aaN]at hr;show(J.h 14).bV _;rw[A];rcases hr with rfl | hr
   .show HR.bV (J.h 15);rw[I];exact dD _ l4
   .rw[Q r hr]at ho;cases ho
 .intro r hr;simp only[Np,aaN,aaX,abC]at hr;rcases hr with rfl | rfl | rfl | rfl | rfl | rfl | rfl | rfl
  .show(0:Int)<=J.i 0;omega
  all_goals trivial
 .refine aG.read [] [] [] ?_;have fin:∀ (q:Env) (hL hR hK:Nat) (vL vM vR vK:List Nat) (rL rM rR rK kL kM kR kK:List E) (cs:CV) (o rv:E) (t:Mem),ai 19 J q ->
   fy (q.h hL) pa dp (cH D S rows).S.LA (cH D S rows).S.bA->(cH D S rows).S.LB=S.LB/\(cH D S rows).S.bB=S.bB->ck (q.h hR) (cs.ev q) (cH D S rows).S.recs->bh q o=(cH D S rows).S.over->aD (q.h hK) dp (cH D S rows).D->aB q rv=(cH D S rows).e ->
   postOf G0 [.pointer (some ⟨a,0,none⟩),.slice (az x y) us.length c] [H,HD] [R,RA,RG] q (.bj 0 [.hptr (.var 5) (.lit 0),.hptr (.var 6) (.lit 0),cs,.bool o] 101::.hp hL vL rL kL::.hp 13 vM rM kM::.hp hR vR rR kR::.hp hK vK rK kK::t) (.sv (.one (.int .i64 rv))):=by
   intro q hL hR hK vL vM vR vK rL rM rR rK kL kM kR kK cs o rv t u bW bk bX bY b0 heq hd;have g0:q.i 0=a:=by rw[u.i 0,v0]
   have g5:q.i 5=aa:=by rw[u.i 5,v5]
   have g6:q.i 6=ab:=by rw[u.i 6,v6]
   have T:=au q cs o g0 g5 g6;rw[bY]at T;refine⟨[[0,1,2,3],[4]],[],rfl,rfl,⟨(bf fun _=>(cH D S rows).e),?_,zzT,zzT⟩,_,_,H,HD,R,RA,RG,dp,S,D,rows,_,_,rfl,rfl,rfl,bb,hD,hB,rfl,?_,?_,?_⟩
   .show Value.int .i64 (aB q rv)=.int .i64 (cH D S rows).e;rw[heq]
   .show aD (di [q.h hK]) _ _;rw[aN];exact b0
   .refine⟨a,pa,pb,cs.ev q,q.h hL,q.h 13,q.h hR,rfl,bW,?_,bX,?_,?_,?_,hd 1 2 _ _ aA rfl rfl rfl,hd 1 3 _ _ aA rfl rfl rfl,hd 2 3 _ _ aA rfl rfl rfl,?_⟩
    .rw[bk.1,bk.2,u.h 13,P];exact hIn.lb
    .rw[<-T];exact hd 0 1 _ _ aA rfl rfl rfl
    .rw[<-T];exact hd 0 2 _ _ aA rfl rfl rfl
    .rw[<-T];exact hd 0 3 _ _ aA rfl rfl rfl
    .rw[<-T];rfl
   .show Value.int .i64 (aB q rv)=.int .i64 (cH D S rows).e;rw[heq]
  simp only[go_sem,Nat.reduceAdd,XV,YB,YC,YD,YE,YF,YG,YH,VV,KI,Z1];have bl:Value.slice (az (J.i 7) 0) (J.i 8).toNat (J.i 9).toNat=sl:=by rw[v7,v8,v9,aar,aar,O]
  have f:∀ q:Env,ai 19 J q->fy (q.h 12) pa dp S.LA S.bA/\ck (q.h 14) (CV.ev q (.sl (.var 7) (.lit 0) (.var 8) (.var 9))) S.recs/\bh q (.bvar 10)=S.over/\aD (q.h 15) dp D:=by
   intro q u;refine⟨by rw[u.h 12,af];exact hIn.la,?_,by rw[bD,u.b 10,aH],by rw[u.h 15,I];exact hD⟩;show ck (q.h 14) (.slice (az (q.i 7) 0) (q.i 8).toNat (q.i 9).toNat) _;rw[u.h 14,u.i 7,u.i 8,u.i 9,A,bl];exact hIn.rows
  have same:∀ (q:Env) (e:Int) (rv:E) (t:Mem),ai 19 J q->cH D S rows=⟨e,D,S⟩->aB q rv=e->postOf G0 [.pointer (some ⟨a,0,none⟩),.slice (az x y) us.length c] [H,HD] [R,RA,RG] q (.bj 0 [.hptr (.var 5) (.lit 0),.hptr (.var 6) (.lit 0),.sl (.var 7) (.lit 0) (.var 8) (.var 9),.bool (.bvar 10)] 101::.hp 12 [] [.var 5] [.var 11]::.hp 13 [] [.var 6] [.var 11]::.hp 14 [] [.var 7] []::.hp 15 [] [.var 11] []::t) (.sv (.one (.int .i64 rv))):=by
   intro q e rv t u he b1;obtain⟨k1,k2,k3,k4⟩:=f q u;exact fin q 12 14 15 _ _ _ _ _ _ _ _ _ _ _ _ _ _ rv t u (by rw[he];exact k1) (by rw[he];exact⟨rfl,rfl⟩) (by rw[he];exact k2) (by rw[he];exact k3) (by rw[he];exact k4) (by rw[he];exact b1)
  have b2:Value.pointer (az (J.i 0) 0)=.pointer (some ⟨a,0,none⟩):=by rw[v0,gT]
  have b3:Value.slice (az (J.i 1) (J.i 2)) (J.i 3).toNat (J.i 4).toNat=.slice (az x y) us.length c:=by rw[v1,v2,v3,v4,aar,aar]
  have bn:(MJ a pa pb sl S.over).cell a 3=some (.bool S.over):=by unfold MJ;rw[Hl.one_cell];rfl
  have b4:Hl.one (J.i 0).toNat (.cells #[Value.pointer (az (J.i 5) 0),Value.pointer (az (J.i 6) 0),Value.slice (az (J.i 7) 0) (J.i 8).toNat (J.i 9).toNat,Value.bool (bh J (.bvar 10))] 101 (0,0))=MJ a pa pb sl S.over:=e0;rw[b2,b3,b4,aI,aJ];refine⟨⟨_,_,a,S.over,_,R,RA,rows,rfl,rfl,rfl,bn,hB,hlen,aE⟩,fun q1 g1 ⟨F1,b5,b6,b7⟩=>?_⟩;obtain⟨u1,e1,bo,U,b8⟩:=IT bn hB b5;simp only[Value.tuple.injEq,abh,aaC,Value.int.injEq,abk,aaP]at bo;obtain⟨eu,ee⟩:=bo;have V:-1<=q1.i 19/\0<=q1.i 20/\0<=q1.i 21/\0<=q1.i 22:=b7.1;refine⟨fun W=>?_,fun W=>same q1 (q1.i 23) _ _ g1 ?_ (al _ _)⟩
  rotate_left
  .rw[ee]at W ⊢;unfold cH;cases ho:S.over with
   | true=>rw[aaR rfl,U.1 ho]
   | false =>
    rw[aaG aF];by_cases hk:gK rows
    .exact absurd (U.2.1 ho hk) W
    .rw[aaR hk,U.2.2 ho hk]
  have b9:e1=0:=by rw[<-ee];exact W
  have ho:¬S.over=true:=fun h=>by have:=U.1 h;omega
  have aO:S.over=false:=abZ.2 ho;have hk:gK rows:=abT fun h=>by have:=U.2.2 aO h;omega
  have bp:bZ (q1.h 19) 5 (.slice (az (q1.i 19) (q1.i 20)) (q1.i 21).toNat (q1.i 22).toNat) (bI rows):=by rw[b6 trivial,eu];exact b8 b9
  have ca:q1.i 21=(bI rows).length:=(bp.rd.at V.1 V.2.1 V.2.2.1).1;rw[g1.i 3,v3];refine⟨ah,fun hz=>same q1 0 _ _ g1 ?_ W,fun bq=>⟨ah,?_⟩⟩
  .have hz:(us.length:Int)=0:=hz;have cb:rows.length=0:=by rw[<-ay];omega
   have:rows=[]:=aaz.1 cb;unfold cH;rw[aaG ho,aaG (fun h=>h hk),aaR this]
  have br:rows≠[]:=fun h=>by
   have bq:¬(us.length:Int)=0:=bq;rw[h]at ay;have:us.length=0:=ay;omega
  have X:∀ q:Env,ai 19 J q->Value.pointer (az (q.i 5) 0)=pa:=fun q u=>by rw[u.i 5,v5,ea]
  have kA:∀ q:Env,ai 19 J q->fy (q.h 12) pa dp S.LA S.bA:=fun q u=>(f q u).1;rw[X q1 g1];refine⟨PK (kA q1 g1).rd bc,fun q2 g2 ⟨F2,cc,_⟩=>?_⟩;have G2:ai 19 J q2:=g1.tr g2;have bs:q2.i 24=S.LA.most-S.bA.length:=Si (Mx (kA q1 g1).rd cc);have av:q2.i 21=(bI rows).length:=by rw[g2.i 21,ca]
  refine⟨fun aQ=>same q2 4 _ _ G2 ?_ (ak _ _),fun aR=>?_⟩
  .rw[bs,av]at aQ;unfold cH;rw[aaG ho,aaG (fun h=>h hk),aaG br,aaR aQ]
  rw[bs,av]at aR;have hAdd:cH D S rows=Ey D S rows (aT D S.LA S.bA (bI rows) S.LA.note):=by
   unfold cH;rw[aaG ho,aaG (fun h=>h hk),aaG br,aaG aR]
  generalize hr:aT D S.LA S.bA (bI rows) S.LA.note=r at hAdd;rw[X q2 G2];refine⟨LV (kA q2 G2).rd,fun L g3 ⟨F3,cd,_⟩=>?_⟩;have G3:ai 19 J L:=G2.tr g3;have cf:=Ii (kA q2 G2).rd cd;have cg:(ar 25 (List.replicate 16 (Ck.int .u8))).map (CV.ev L)=aM S.LA.note:=aa5 (Value.agg.inj cf);have bt:S.LA.note.length=16:=by obtain⟨_,⟨_,_,ch⟩,_⟩:=hIn.la.rd;exact ch.1.note
  have aw:fL (L.h 19) (.slice (az (L.i 19) (L.i 20)) (L.i 21).toNat (L.i 22).toNat) (bI rows):=by
   have Y:ai 24 q1 L:=g2.tr g3;rw[Y.h 19,Y.i 19,Y.i 20,Y.i 21,Y.i 22];exact bp.rd.w
  have bu:aD (L.h 15) dp D:=(f L G3).2.2.2;rw[X L G3,cg];refine⟨⟨_,_,_,_,_,_,_,dp,_,_,_,rfl,rfl,rfl,kA L G3,bu,aw,bc,bt,bd⟩,fun q4 g4 ⟨F4,cj,_⟩=>?_⟩;obtain⟨bw,bx,hK,aj,an,bz⟩:=EC (kA L G3) bu aw cj;rw[hr]at aj an bz;have Z:q4.h 41=bw/\q4.h 42=bx:=by
   have h1:[q4.h 41,q4.h 42]=[bw,bx]:=hK;simpa using h1
  obtain⟨Z,aS⟩:=Z;have cl:q4.i 41=r.e:=by simpa using bz
  have G4:ai 19 J q4:=G3.tr g4;rw[cl,G4.h 18,ag];refine⟨⟨_,_,RG,g,rfl,rfl,hG⟩,fun q5 g5 ⟨F5,⟨s5,c5,R5,x1,x2,ad⟩,_⟩=>?_⟩;simp only[aaC,Value.string.injEq,Value.int.injEq,abk,aaP]at x1 x2;obtain⟨x1,x3⟩:=x1;subst x1 x2 x3;have ad:mJ g (q5.v 44) r.e:=ad g hG;have G5:ai 19 J q5:=G4.tr g5;have cL:RG.cell (Int.toNat 0) (Int.toNat 0)=some (gv g mT):=hG.cell mT (Or.inl rfl);rw[G5.h 18,ag,cL];refine⟨rfl,⟨_,_,RG,g,r.e,mT,rfl,rfl,hG,ad,Or.inl rfl,rfl⟩,fun q6 g6 ⟨F6,cm,_⟩=>?_⟩;have r6:=Ia hG ad (Or.inl rfl) cm;rw[r6];have G6:ai 19 J q6:=G5.tr g6;have aU:mJ g (q6.v 44) r.e:=by rw[g6.v 44];exact ad
  have num:∀ (q7:Env),ai 46 q6 q7->(∃ F,rz.post [q6.v 44] [] [RG] (.int .i64 (q7.i 46)) [] F/\(aK 0 [Cp.one (Ck.int .i64)]≠[]->q7.h 46=F)/\ft 46 [Cp.one (Ck.int .i64)] q7)->q7.i 46=pO r.e/\ai 19 J q7/\ai 43 q4 q7:=by
   intro q7 g7 ⟨F7,⟨e7,R7,x1,x2,h7⟩,_⟩;simp only[aaC,aaP]at x1 x2;subst x1 x2;have:=h7 g r.e hG aU;exact⟨by simpa using this,G6.tr g7,(g5.trans ((g6.tr g7).mono ah)).mono ah⟩
  rw[G6.h 18,ag];refine⟨fun B=>⟨⟨_,RG,g,r.e,rfl,rfl,hG,aU⟩,fun q7 g7 aV=>?_⟩,fun B=>⟨⟨_,RG,g,r.e,rfl,rfl,hG,aU⟩,fun q7 g7 aV=>?_⟩⟩
  .obtain⟨n,C,G⟩:=num q7 g7 aV;have z:¬pO r.e=0:=by
    unfold pO;rw[aaG B.1,aaG (by rw[B.2];decide),aaG (by rw[B.2];decide)];decide
   refine⟨fun _=>?_,fun h=>absurd (n.symm.trans h) z⟩;refine fin q7 41 14 42 _ _ _ _ _ _ _ _ _ _ _ _ (.sl (.var 7) (.lit 0) (.var 8) (.var 9)) _ _ _ C ?_ ?_ ?_ ?_ ?_ ?_
   .rw[hAdd,G.h 41,Z];exact an
   .rw[hAdd];exact⟨rfl,rfl⟩
   .rw[hAdd];unfold Ey;rw[aaG z];exact(f q7 C).2.1
   .rw[hAdd];show true=(if _ then true else S.over);rw[aaR B]
   .rw[hAdd,G.h 42,aS];exact aj
   .rw[hAdd,al,n];rfl
  .obtain⟨n,C,G⟩:=num q7 g7 aV;refine⟨fun z=>?_,fun bC=>?_⟩
   .refine fin q7 41 14 42 _ _ _ _ _ _ _ _ _ _ _ _ (.sl (.var 7) (.lit 0) (.var 8) (.var 9)) _ _ _ C ?_ ?_ ?_ ?_ ?_ ?_
    .rw[hAdd,G.h 41,Z];exact an
    .rw[hAdd];exact⟨rfl,rfl⟩
    .rw[hAdd];unfold Ey;rw[aaG (fun h=>z (n.trans h))];exact(f q7 C).2.1
    .rw[hAdd,(f q7 C).2.2.1];show S.over=(if _ then true else S.over);rw[aaG B]
    .rw[hAdd,G.h 42,aS];exact aj
    .rw[hAdd,al,n];rfl
   .clear num;refine⟨⟨0,rfl,abJ _,by show -1<=q7.i 7;rw[C.i 7,v7];exact bQ,by show 0<=q7.i 8;rw[C.i 8,v8];omega,by show 0<=q7.i 9;rw[C.i 9,v9];omega,?_,?_⟩,fun M g8 ⟨k,ek,sj,bE,aW,cI,bF,ae⟩=>?_⟩
    .show bh q7 (.bvar 10)=false;rw[bD,C.b 10,aH,aO]
    .show ck (q7.h 14) (.slice (az (q7.i 7) 0) (q7.i 8).toNat (q7.i 9).toNat) _;rw[C.h 14,C.i 7,C.i 8,C.i 9,A,bl,acF,abA];exact hIn.rows
    have G8:ai 19 J M:=C.tr g8;have cJ:M.i 62=S.recs.length+k:=by
     have:=(ae.at bE aW).1;rw[aay,aaU]at this;omega
    rw[G8.i 1,G8.i 2,G8.i 3,G8.h 16,G8.h 17,v1,v2,v3,aI,aJ,ek];refine⟨fun aQ=>?_,fun aR=>?_⟩
    .have cn:k<rows.length:=ah;have bG:rows[k]?=some rows[k]:=aax cn;have hu:us[k]?=some us[k]:=aax ah;obtain⟨cp,hc⟩:=aC k _ hu;have aX:=bP k _ _ hu bG;have O:∃ a l c,us[k]=Value.slice a l c:=(fL.parts aX).1;have cq:R.cell x.toNat (y+(k:Int)).toNat=some us[k]:=by rw[show(y+(k:Int)).toNat=y.toNat+k by omega];exact hc
     rw[cq,iN O];refine⟨cp,hy,ah,by obtain⟨_,_,_,e⟩:=O;rw[e];rfl,⟨_,_,RA,rfl,rfl,aX,acz (hk _ (abM _)) aA⟩,fun q9 g9 ⟨F9,⟨u9,cK,R9,x1,x2,cr,bH⟩,ct,ao⟩ aY aZ _ N bJ ⟨cu,ax⟩=>?_⟩;simp only[aaC,aaP]at x1 x2;subst x1 x2;obtain rfl:=aX.uniq cr;rw[<-ct zzT]at bH;have ao:-1<=q9.i 66/\0<=q9.i 67/\0<=q9.i 68/\0<=q9.i 69:=ao.1;have a6:ai 66 M aY:=g9.tr aZ;have aq:ai 66 M N:=a6.tr bJ;have G9:ai 70 q9 N:=aZ.tr bJ;have cv:oK (aY.h 66) none (.slice (az (N.i 66) (N.i 67)) (N.i 68).toNat (N.i 69).toNat) rows[k]:=by
      rw[aZ.h 66,G9.i 66,G9.i 67,G9.i 68,G9.i 69];exact oK.of bH.rd.w ao.1 ao.2.1
     rw[cu,a6.h 64,aq.i 61,aq.i 62,aq.i 63];rw[a6.h 64]at ax;have bK:∃ xs,aP ((M.h 64).un (aY.h 66)) 46 1 (.slice (az (M.i 61) 0) (M.i 62).toNat (M.i 63).toNat) (M.i 62).toNat xs:=by
      obtain⟨cw,bM,_⟩:=ae;rw[show(M.i 62).toNat=(S.recs++rows.take k).length by rw[aay,aaU];omega]at bM ⊢;exact⟨cw,bM.mono (Hl.bm _ _)⟩
     refine⟨⟨bK,aW,by unfold maxLen;omega,ah⟩,fun j cx ⟨a1,a2,happ,cy,_,cz⟩=>?_⟩;have a7:ai 66 M j:=aq.tr cx;have a8:=vU ae bE aW ax cv a1 happ cy cz;have cA:j.i 62+1=M.i 62+1:=by rw[a7.i 62]
     have cB:j.i 60=k:=by rw[a7.i 60,ek]
     have bN:IntKind.i64.wrap (j.i 60+1)=(k:Int)+1:=by rw[cB];exact wrap_i64 ah ah
     refine⟨⟨k+1,?_,ah,a1,?_,a2,?_,?_⟩,?_⟩
     .show IntKind.i64.wrap (j.i 60+1)=_;rw[bN];rfl
     .show 0<=j.i 62+1;omega
     .show j.b 65=false;rw[a7.b 65];exact bF
     .show ck (j.h 72) (.slice (az (j.i 72) 0) (j.i 62+1).toNat (j.i 73).toNat) _;rw[cA,abV,bG,ab8,<-aaV];exact a8
     .show((rows.length:Int)-IntKind.i64.wrap (j.i 60+1)).toNat<_;rw[bN];omega
    .have cC:k=rows.length:=ah;subst cC;rw[abG]at ae;refine fin M 41 64 42 _ _ _ _ _ _ _ _ _ _ _ _ (.sl (.var 61) (.lit 0) (.var 62) (.var 63)) _ _ _ G8 ?_ ?_ ?_ ?_ ?_ ?_
     .rw[hAdd,g8.h 41,G.h 41,Z];exact an
     .rw[hAdd];exact⟨rfl,rfl⟩
     .rw[hAdd];unfold Ey;rw[aaR (n.symm.trans bC)];exact ae
     .rw[bD,bF,hAdd];show false=(if _ then true else S.over);rw[aaG B];exact aO.symm
     .rw[hAdd,g8.h 42,G.h 42,aS];exact aj
     .rw[hAdd,ak];exact(n.symm.trans bC).symm
def jk : Value.pointer (az (bw (some (Value.pointer (some ⟨a,0,none⟩))) 0) (bw (some (Value.pointer (some ⟨a,0,none⟩))) 1))=.pointer (some ⟨a,0,none⟩):=by
 show Value.pointer (az ((a:Nat):Int) 0)=_;rw[gT]
def CN.cells (h:CN H a dp pa pb sl S):H.cell a 0=some pa/\H.cell a 2=some sl:=by
 unfold Hl.cell;rw[h.bj];exact⟨rfl,rfl⟩
def Cx:Sx.Spec where
 fn:=20
 own:=[]
 rd:=[0]
 res:=[.one .sl]
 pre:=fun xs Hs Rs=>∃ p R dp S,xs=[p]/\Rs=[R]/\kN R p dp S/\S.recs.length<=1000000000/\∀ r∈S.recs,r.length<=1000000
 post:=fun xs Hs Rs v Hs' F=>∃ p R dp S,xs=[p]/\Rs=[R]/\kN R p dp S/\ck F v S.recs
def Cy (h:kN R p dp S) (hp:Cx.post [p] [] [R] v K F):ck F v S.recs:=by
 obtain⟨b,R',dp',S',e1,a,h',hv⟩:=hp;simp only[aaC,aaP]at e1 a;subst e1 a;obtain⟨_,rfl⟩:=h.uniq h';exact hv
def Xw:List Sx.Spec:=[tR]
def Vu:∀ t∈Xw,t.OK Tryz.prog:=fun t a=>by
 simp only[Xw,aaN,aaX,abC]at a;rw[a];exact yL
def GI:aG Tryz.prog Xw Cx.fn where
 Λ:=fun p=>if OJ p then some ⟨0,[(11,TI .i64 (.var 50)),(3,.sv (.one (.sl (.var 53) (.lit 0) (.var 54) (.var 55))))],[(1,.hp 56 [] [.var 53] [])],60⟩else none
 args:=[TP (.var 0) (.lit 0)]
 mem:=[.ro 1 [.var 0] true]
 nv:=2
def GH:Cx.OK Tryz.prog:=by
 refine Spec.aV (Γ:=Xw) Vu ?_;rintro xs Hs Rs P an ⟨p,R,dp,S,rfl,rfl,hS,hlen,aE⟩;have e0:Hs=[]:=aaz.1 P;subst e0;obtain⟨a,pa,pb,sl,rfl,hr⟩:=id hS;have hc:=hr.cells.2;obtain⟨rx,rc,m,rfl⟩:=hr.rows.rep;have Q:=ck.at (l:=(S.recs.length:Int)) (c:=(rc:Int)) (rows:=S.recs) (by rw[aar,aar];exact hr.rows) m ah;refine⟨GI,aL [(a:Int)] false [Hl.none,R],fun _ q=>∃ k:Nat,q.i 50=k/\k<=S.recs.length/\ -1<=q.i 53/\0<=q.i 54/\0<=q.i 55/\ck (q.h 56) (.slice (az (q.i 53) 0) (q.i 54).toNat (q.i 55).toNat) (S.recs.take k),fun _ q=>(S.recs.length-q.i 50).toNat,?_,⟨?_,?_,?_,?_⟩,(fun _ h=>nomatch h),?_⟩
 .show [Value.pointer (az (a:Int) 0)]=_;rw[gT]
 .intro r hr ho;simp [GI]at hr;subst hr;cases ho
 .intro r hr ho;simp [GI]at hr;subst hr;exact⟨R,aF,Hl.le_refl _⟩
 .simp [GI]
 .intro r hr;simp [GI]at hr;subst hr;trivial
 .refine aG.read [] [] [] ?_;generalize v:aL [(a:Int)] false [Hl.none,R]=J;have v0:J.i 0=a:=by rw[<-v];rfl
  have w1:J.h 1=R:=by rw[<-v];rfl
  clear v;have t2:Int.toNat 2=2:=rfl;simp only[go_sem,Nat.reduceAdd,Xw,VV,KI,t2];rw[v0,w1,aar,hc,oF m];refine⟨ah,rfl,ah,⟨0,rfl,abJ _,aaM _,aaM _,aaM _,ck.nil _⟩,fun d g8 ⟨k,ek,sj,x,n,T,g⟩=>?_⟩;have ao:d.i 54=k:=by
   have:=(g.at x n).1;rw[aaU]at this;omega
  rw[g8.i 0,g8.h 1,v0,w1,ek,aar,hc,oF m];refine⟨fun aq=>?_,fun ar=>?_⟩
  .have U:k<S.recs.length:=ah;have D:S.recs[k]?=some S.recs[k]:=aax U;obtain⟨E,u,V,W⟩:=Q.2 k _ D;have y:=W.rd;have F:∃ a l c,u=Value.slice a l c:=(fL.parts y).1;rw[AX m,GU E (aaM _)];have X:R.cell rx.toNat (0+(k:Int)).toNat=some u:=by rw[show(0+(k:Int)).toNat=k by omega];exact V
   rw[X,iN F];refine⟨E,aaM _,ah,by obtain⟨_,_,_,e⟩:=F;rw[e];rfl,⟨_,_,R,rfl,rfl,y,aE _ (abM _)⟩,fun G g9 ⟨F9,⟨u9,au,R9,x1,x2,Y,H⟩,Z,o⟩ z A _ f I ⟨aa,t⟩=>?_⟩;simp only[aaC,aaP]at x1 x2;subst x1 x2;obtain rfl:=y.uniq Y;rw[<-Z zzT]at H;have o:-1<=G.i 60/\0<=G.i 61/\0<=G.i 62/\0<=G.i 63:=o.1;have B:ai 60 d z:=g9.tr A;have s:ai 60 d f:=B.tr I;have O:ai 64 G f:=A.tr I;have ab:oK (z.h 60) none (.slice (az (f.i 60) (f.i 61)) (f.i 62).toNat (f.i 63).toNat) S.recs[k]:=by
    rw[A.h 60,O.i 60,O.i 61,O.i 62,O.i 63];exact oK.of H.rd.w o.1 o.2.1
   rw[aa,B.h 56,s.i 53,s.i 54,s.i 55];rw[B.h 56]at t;have K:∃ xs,aP ((d.h 56).un (z.h 60)) 46 1 (.slice (az (d.i 53) 0) (d.i 54).toNat (d.i 55).toNat) (d.i 54).toNat xs:=by
    obtain⟨ad,L,_⟩:=g;rw[show(d.i 54).toNat=(S.recs.take k).length by rw[aaU];omega]at L ⊢;exact⟨ad,L.mono (Hl.bm _ _)⟩
   refine⟨⟨K,n,by unfold maxLen;omega,ah⟩,fun b ae ⟨a1,a2,happ,af,_,ag⟩=>?_⟩;have M:ai 60 d b:=s.tr ae;have C:=vU g x n t ab a1 happ af ag;have aj:b.i 54+1=d.i 54+1:=by rw[M.i 54]
   have ak:b.i 50=k:=by rw[M.i 50,ek]
   have N:IntKind.i64.wrap (b.i 50+1)=(k:Int)+1:=by rw[ak];exact wrap_i64 ah ah
   refine⟨⟨k+1,?_,ah,a1,?_,a2,?_⟩,?_⟩
   .show IntKind.i64.wrap (b.i 50+1)=_;rw[N];rfl
   .show 0<=b.i 54+1;omega
   .show ck (b.h 66) (.slice (az (b.i 66) 0) (b.i 54+1).toNat (b.i 67).toNat) _;rw[aj,abV,D,ab8];exact C
   .show((S.recs.length:Int)-IntKind.i64.wrap (b.i 50+1)).toNat<_;rw[N];omega
  .have al:k=S.recs.length:=ah;subst al;rw[abG]at g;intro _;refine⟨[],[1],rfl,rfl,⟨(bf fun j=>[d.i 53,0,d.i 54,d.i 55].getD j 0),rfl,⟨x,aaM _,n,T⟩,zzT⟩,_,R,dp,S,rfl,rfl,hS,?_⟩;show ck (di [d.h 56]) _ _;rw[aN];exact g
def aav:Env:=(bf fun _=>0)
def dw {mem:Mem} (h1:∀ r∈mem,∃ k t a,r=.ro k t a) (h2:mem.map (bL.hl J)=Rs):Entry J mem Hs Rs:=by
 refine⟨fun r hr ho=>?_,fun r hr _=>⟨r.hl J,by rw[<-h2];exact abb.2 ⟨r,hr,rfl⟩,Hl.le_refl _⟩,?_,fun r hr=>?_⟩
 .obtain⟨k,t,a,rfl⟩:=h1 r hr;cases ho
 .refine acS.2 fun i j hi b _ ho=>?_;obtain⟨k,t,a,e⟩:=h1 mem[i] (abM hi);rw[e]at ho;cases ho
 .obtain⟨k,t,a,rfl⟩:=h1 r hr;trivial
def Ea:Sx.Spec where
 fn:=23
 own:=[]
 rd:=[0]
 res:=[.one .bool]
 pre:=fun xs Hs Rs=>∃ p R dp S,xs=[p]/\Rs=[R]/\kN R p dp S
 post:=fun xs Hs Rs v Hs' F=>∀ p R dp S,xs=[p]->Rs=[R]->kN R p dp S->v=.bool S.over
def AM:aG Tryz.prog [] Ea.fn where
 Λ:=aC
 args:=[TP (.var 0) (.lit 0)]
 mem:=[.ro 1 [.var 0] true]
 nv:=2
def MS:Ea.OK Tryz.prog:=by
 refine Spec.aV (Γ:=[]) (fun _ h=>by cases h) ?_;rintro xs Hs Rs c f ⟨p,R,dp,S,rfl,rfl,hS⟩;have g:Hs=[]:=aaz.1 c;subst g;obtain⟨a,pa,pb,sl,rfl,hr⟩:=id hS;have hc:R.cell a 3=some (.bool S.over):=by unfold Hl.cell;rw[hr.bj];rfl
 refine⟨AM,aL [(a:Int)] false [Hl.none,R],fun _ _=>True,fun _ _=>0,?_,⟨?_,?_,?_,?_⟩,(fun _ h=>nomatch h),?_⟩
 .show [Value.pointer (az (a:Int) 0)]=_;rw[gT]
 .intro r hr ho;simp [AM]at hr;subst hr;cases ho
 .intro r hr ho;simp [AM]at hr;subst hr;exact⟨R,aF,Hl.le_refl _⟩
 .simp [AM]
 .intro r hr;simp [AM]at hr;subst hr;trivial
 .refine aG.read [] [] [] ?_;generalize b:aL [(a:Int)] false [Hl.none,R]=J;have v0:J.i 0=a:=by rw[<-b];rfl
  have d:J.h 1=R:=by rw[<-b];rfl
  clear b;have t3:Int.toNat 3=3:=rfl;simp only[go_sem,Nat.reduceAdd,t3];rw[v0,d,aar,hc];refine⟨ah,rfl,fun _=>⟨[],[],rfl,rfl,⟨⟨fun _=>0,fun _=>S.over,fun _=>.empty,fun _=>.tuple #[],fun _=>Hl.none⟩,?_,zzT,zzT⟩,fun j R' dp' S' e1 e h'=>?_⟩⟩
  .show Value.bool (bh J (.hB 1 (.var 0) (.lit 3) 0))=.bool S.over;show Value.bool (xI ((J.h 1).cell (J.i 0).toNat (Int.toNat 3)))=_;rw[v0,d,aar,t3,hc];rfl
  .simp only[aaC,aaP]at e1 e;subst e1 e;obtain⟨_,rfl⟩:=hS.uniq h';show Value.bool (xI ((J.h 1).cell (J.i 0).toNat (Int.toNat 3)))=_;rw[v0,d,aar,t3,hc];rfl
def Lk (hl:R.le R') (h:R.cell b j=some v):R'.cell b j=some v:=by
 unfold Hl.cell at h ⊢;cases a:R b with
 | none=>rw[a]at h;cases h
 | some o=>rw[a]at h;rw[hl _ _ a];exact h
def kE (h:fL R v bs) (hl:R.le R'):fL R' v bs:=by
 obtain⟨x,y,c,e,a,h⟩:=h;exact⟨x,y,c,e,a,h.imp id fun⟨hx,h⟩=>⟨hx,fun j z b=>Lk hl (h j z b)⟩⟩
def Nk:List Int:=List.replicate 16 0
def MK (h:6<=m/\m<=16384):fj (eJ m)=0/\cm (eJ m)=UF ⟨0,64*(((m/2:Nat):Int)-2),0,0,Nk,false⟩ [] ⟨((m/2:Nat):Int),64*(((m/2:Nat):Int)-2),0,0,Nk,false⟩ []:=by
 have hs:(eJ m).n=m:=by
  show ga m=m;unfold ga;omega
 have h1:Holds (eJ m) 0 ((m/2:Nat):Int) 0 [] (List.replicate 16 0):=ik ah ah ah;have h2:Holds (eJ m) (m/2) ((m/2:Nat):Int) 0 [] (List.replicate 16 0):=ik ah ah ah;have e1:qo (eJ m)=⟨0,64*(((m/2:Nat):Int)-2),0,0,Nk,false⟩:=by unfold qo;rw[hs];exact h1.bc
 have a:ku (eJ m)=⟨((m/2:Nat):Int),64*(((m/2:Nat):Int)-2),0,0,Nk,false⟩:=by unfold ku;rw[hs];exact h2.bc
 have b:jR (eJ m)=[]:=by unfold jR;rw[hs];exact h1.bk
 have c:gD (eJ m)=[]:=by unfold gD;rw[hs];exact h2.bk
 refine⟨?_,?_⟩
 .unfold fj;rw[hs,aaG ah];rfl
 .unfold cm;rw[e1,a,b,c,aaG (by show ¬dZ _<dZ _;exact adW _)]
def Me:pO 0=0:=rfl
def QF (ho:S.over=false) (hk:gK rows) (a:rows≠[]) (hr:((bI rows).length:Int)<=S.LA.most-S.bA.length) (he:(aT D S.LA S.bA (bI rows) S.LA.note).e=0) :
 (cH D S rows).e=0/\(cH D S rows).D=(aT D S.LA S.bA (bI rows) S.LA.note).D/\(cH D S rows).S=⟨(aT D S.LA S.bA (bI rows) S.LA.note).L,(aT D S.LA S.bA (bI rows) S.LA.note).bs,S.LB,S.bB,S.recs++rows,false⟩:=by
 have e:cH D S rows=Ey D S rows (aT D S.LA S.bA (bI rows) S.LA.note):=by
  unfold cH;rw[aaG (by rw[ho];simp),aaG (fun h=>h hk),aaG a,aaG ah]
 rw[e];unfold Ey;rw[he,Me,aaR rfl,aaG (fun h=>h.1 rfl),ho];exact⟨rfl,rfl,rfl⟩
def AL (f:aD H dp D) (hp:tu.post [dp] [H] [] v [H'] F):∃ a,aD H' dp D/\v=.tuple #[a,.int .i64 (fj D)]/\(fj D=0->jm F a dp (cm D))/\(fj D≠0->a=.pointer none):=by
 obtain⟨dp',g,D',h,a,e1,d,b,e,c,hv,h1,h2⟩:=hp;simp only[aaC,aaP]at e1 d e;subst e1 d e;obtain rfl:=b.uniq f;exact⟨a,c,hv,h1,h2⟩
def Nq {HD a RA RG:Hl} (h1:jm H p dp S) (h2:aD HD dp D) (g:jN R RA u rows) (hp:G0.post [p,u] [H,HD] [R,RA,RG] v [H',a] F) :
 aD a dp (cH D S rows).D/\jm H' p dp (cH D S rows).S/\v=.int .i64 (cH D S rows).e:=by
 obtain⟨r,s,t,h,w,i,j,dp',S',D',b,x,k,e1,c,d,k1,k2,k3,f,k4,k5,hv⟩:=hp;simp only[aaC,aaP]at e1 c d f;obtain⟨l,m⟩:=e1;obtain⟨a3,a4⟩:=c;obtain⟨a5,n,o⟩:=d;obtain⟨q,a9⟩:=f;subst l m a3 a4 a5 n o q a9;obtain⟨rfl,rfl⟩:=h1.rd.uniq k1.rd;obtain rfl:=h2.uniq k2;obtain rfl:=g.uniq k3;exact⟨k4,k5,hv⟩
def yes (fn:FuncId) (pre:List Value->List Hl->Prop) (rd:List Nat):Sx.Spec where
 fn:=fn
 own:=[]
 rd:=rd
 res:=[.one .bool]
 pre:=fun xs Hs Rs=>pre xs Rs
 post:=fun xs Hs Rs v Hs' F=>v=.bool true
end Go.Proofs.YtomdimlnggpgbaaGreatDoor
namespace Go.Proofs.YtomdimlnggpgbaaGreatDoor.D
open Go Go.Sx
variable {D D':DM}{i n:Int}{all b bs nt nt':List Int}{frm j k:Nat}
def Gb (h:D.ok) (hi:D.has i=true) (hb:bs.length=64) (a:¬(64*i.toNat<=j/\j<64*i.toNat+64)):(kW D i bs).now[j]?=D.now[j]?:=by
 rw[mo h hi hb,aaG a]
def HP (frm:Nat) (all:List Int) (B:Nat):∀ (f i:Nat) (D:DM),ni D->all.length+1<=f+i->all.length+64*(frm+2)<=64*D.n->64*(frm+2)+all.length<=64*B ->
 ∀ j,(j<64*frm\/64*B<=j)->(bY frm all f i D).2.now[j]?=D.now[j]?:=by
 intro f
 induction f with
 | zero =>
  intro i D h h1 h2 b j c;show(bT D).2.now[j]?=_;rw[(jY h).2.2.1]
 | succ f ih =>
  intro i D h h1 h2 b j c;have d:(frm:Int)+2+i=((frm+2+i:Nat):Int):=ah;by_cases a:64*i<all.length
  .have hi:D.has ((frm:Int)+2+i)=true:=by unfold DM.has;simp only[aaB];omega
   have hw:=nh h hi (fX all i);have e:bY frm all (f+1) i D=bY frm all f (i+1) (kW D ((frm:Int)+2+i) (jL all i)):=by
    show(if 64*i<all.length then _ else _)=_;rw[aaR a,hw];simp
   rw[e,ih (i+1) _ (rF h hi (fX all i)) ah h2 b j c,Gb h.ok hi (fX all i)];rw[d,aar];omega
  .have e:bY frm all (f+1) i D=bT D:=by
    show(if 64*i<all.length then _ else _)=_;rw[aaG a]
   rw[e,(jY h).2.2.1]
def Holds.out (h:Holds D frm n k all nt) (hb:(all.length:Int)+b.length<=64*(n-2)) (hk:k<1000000) (l:nt'.length=16) :
 (aT D ⟨frm,64*(n-2),k,all.length,nt,false⟩ all b nt').D.n=D.n/\∀ j:Nat,((j:Int)<64*frm\/64*(frm+n)<=(j:Int))->(aT D ⟨frm,64*(n-2),k,all.length,nt,false⟩ all b nt').D.now[j]?=D.now[j]?:=by
 obtain⟨r1,r2⟩:=h.rng;have x:=h.sure.ok.n;have y:(all++b).length=all.length+b.length:=aay;obtain⟨L,e⟩:∃ L:LM,L=⟨frm,64*(n-2),k,all.length,nt,false⟩:=⟨_,rfl⟩;rw[<-e];have f1:L.frm=frm:=by rw[e]
 have f2:L.most=64*(n-2):=by rw[e]
 have f3:L.serial=k:=by rw[e]
 have f4:L.over=false:=by rw[e]
 obtain⟨F,v⟩:∃ F,F=(gr D L.frm (all++b) all.length).2:=⟨_,rfl⟩;obtain⟨w,f,a3,_,_⟩:=wE frm (all++b) ((all++b).length+1) (all.length/64) D h.sure ah ah;have m:=HP frm (all++b) (frm+n.toNat) ((all++b).length+1) (all.length/64) D h.sure ah ah ah;have o:gr D L.frm (all++b) all.length=bY frm (all++b) ((all++b).length+1) (all.length/64) D:=by
  unfold gr;rw[f1,show(((all.length:Nat):Int)/64).toNat=all.length/64 by omega]
 rw[<-o]at w f a3 m;rw[<-v]at f a3 m;obtain⟨N,hN⟩:∃ N,N=kV L (all++b) nt':=⟨_,rfl⟩;have eN:N=((k+1:Nat):Int)::((all++b).length:Int)::nt':=by
  rw[hN];unfold kV;rw[f3];rfl
 have hp:((k+1:Nat):Int).tmod 2=(((k+1)%2:Nat):Int):=by
  rw[abm ah];omega
 obtain⟨p,r⟩:∃ p,p=(k+1)%2:=⟨_,rfl⟩;have z:p<2:=ah;obtain⟨b1,_⟩:=re (a:=((k+1:Nat):Int)) (b:=((all++b).length:Int)) (nt:=nt') ⟨ah,ah⟩ ⟨ah,ah⟩ l;rw[<-eN]at b1;have d:(aZ N++aZ N).length=64:=by rw[aay,b1]
 have A:∀ q:Nat,(frm:Int)+((q:Nat):Int)=((frm+q:Nat):Int):=fun q=>ah;have c:F.has ((frm:Int)+(p:Int))=true:=by unfold DM.has;rw[a3];simp only[aaB];omega
 have hw:=nh f c d;obtain⟨G,i⟩:∃ G,G=kW F ((frm:Int)+(p:Int)) (aZ N++aZ N):=⟨_,rfl⟩;rw[<-i]at hw;have s:ni G:=by rw[i];exact rF f c d
 have t:G.n=D.n:=by rw[i,<-a3];rfl
 obtain⟨s1,s2,B,C⟩:=jY s;have u:db F L.frm N=bT G:=by
  unfold db;have E:N.getD 0 0=((k+1:Nat):Int):=by rw[eN];rfl
  rw[f1,E,hp,<-r,hw];simp
 have g:bN D L (all++b) nt' all.length=(0,(bT G).2):=by
  unfold bN;rw[aaG (by rw[w];simp),<-v,<-hN,u,aaG (by rw[s1];simp)]
 have happ:aT D L all b nt'=⟨0,(bT G).2,nC L (all++b) nt',all++b⟩:=by
  unfold aT;rw[f4,f3,f2,aaG aF,aaG ah,aaG ah,g];rfl
 rw[happ];refine⟨C.trans t,fun j H=>?_⟩;show(bT G).2.now[j]?=_;rw[B,i,Gb f.ok c d (by rw[A p,aar];omega)];exact m j ah
def Holds.fV (h:Holds D frm n k all nt) (hs:ni D') (hn:D'.n=D.n) (hsame:∀ j:Nat,64*(frm:Int)<=j->(j:Int)<64*(frm+n)->D'.now[j]?=D.now[j]?):Holds D' frm n k all nt:=by
 obtain⟨r1,r2⟩:=h.rng;have hl:=h.len;have rd:∀ q:Nat,q<2->aX D' frm (64*(n-2)) (q:Int)=aX D frm (64*(n-2)) (q:Int):=by
  intro q c;refine zL h.sure hs hn (by unfold DM.has;simp only[aaB];omega) (iq fun j h1 h2=>hsame j ?_ ?_)
  .omega
  .omega
 refine⟨hs,⟨r1,by rw[hn];exact r2⟩,hl,h.note,?_,?_,fun t z a=>?_⟩
 .rw[rd _ ah];exact h.cur
 .have e1:aX D' frm (64*(n-2)) 1=aX D frm (64*(n-2)) 1:=rd 1 ah;rw[rd _ ah,e1];exact h.oth
 .have b:=(aaH.1 a).1;rw[hsame _ ah ah];exact h.bytes t z a
end Go.Proofs.YtomdimlnggpgbaaGreatDoor.D
namespace Go.Proofs.YtomdimlnggpgbaaGreatDoor
open Go Go.Sx Go.Pk
open Go.Proofs.YtomdimlnggpgbaaGreatDoor.D hiding aL aC fP
variable {D:DM}{g:Int}{rows:List (List Int)}{K K' m n:Nat}{S:SM}
def Ef {r rest:List Int} (h:r.length<=4096):tx (aI r++rest)=(r,rest,false):=by
 have e:dr (aI r++rest)=(r.length,(aj r.length).length):=by
  unfold dr aI;rw[aaV,ru ah];rfl
 have hp:=ux r.length;unfold tx bn;rw[e,aaG]
 .show(((aI r++rest).drop (aj r.length).length).take r.length,(aI r++rest).drop ((aj r.length).length+r.length),false)=_;unfold aI;rw[aaV,acy rfl,aco rfl,<-acE,acy rfl,acy rfl]
 .show ¬(false=true\/(aj r.length).length=0\/(4096:Int)<0\/min (min 4096 4096) (((aI r++rest).length:Int)-((aj r.length).length:Nat))<((r.length:Nat):Int));have:(aI r++rest).length=(aj r.length).length+r.length+rest.length:=by unfold aI;simp;omega
  rw[this];simp only[abz,false_or];omega
def sZ (r:List Int) (rows:List (List Int)):bI (r::rows)=aI r++bI rows:=rfl
def lD (a b:List (List Int)):bI (a++b)=bI a++bI b:=by unfold bI;rw[aba,acB]
def qR:∀ {rows:List (List Int)},gK rows->jG (bI rows)=rows
 | [],_=>rfl
 | r::rows,h=>by
  have hr:=h r (aa8 ..);have hp:=ux r.length;rw[sZ,CA (by intro e;have:=aa1 List.length e;unfold aI at this;rw[aay,aay]at this;simp only[abt]at this;omega),Ef hr,aaG aF];show r::jG (bI rows)=_;rw[qR fun s hs=>h s (aaO _ hs)]
def xc (h:∀ r∈rows,aq r):aq (bI rows):=by
 intro z a;unfold bI at a;obtain⟨l,hl,a⟩:=adi.1 a;obtain⟨r,hr,rfl⟩:=abb.1 hl;unfold aI at a;rcases aa4.1 a with h1 | h1
 .exact BW _ z h1
 .exact h r hr z h1
structure SP (D:DM) (S:SM) (n:Nat) (g:Int) (K:Nat) where
 fA:Nat
 kA:Nat
 ntA:List Int
 fB:Nat
 kB:Nat
 ntB:List Int
 hn:D.n/2=n
 n3:3<=n
 place:(fA=0/\fB=n/\dZ (ntB.take 8)<=g)\/(fA=n/\fB=0/\dZ (ntB.take 8)<g)
 hA:Holds D fA n kA S.bA ntA
 hB:Holds D fB n kB S.bB ntB
 eA:S.LA=⟨fA,64*((n:Int)-2),kA,S.bA.length,ntA,false⟩
 eB:S.LB=⟨fB,64*((n:Int)-2),kB,S.bB.length,ntB,false⟩
 pk:S.bA=bI S.recs
 ok:gK S.recs
 ov:S.over=false
 gen:dZ (ntA.take 8)=g
 g0:0<=g/\g<=K
 kK:kA<=K/\kB<=K
 loose:D.loose=[]
 b1:aq S.bA
 b2:aq S.bB
def SP.open (h:SP D S n g K):fj D=0/\cm D=S/\aq (jR D)/\aq (gD D):=by
 obtain⟨fA,kA,ntA,fB,kB,ntB,hn,n3,place,hA,hB,eA,eB,pk,ok,ov,gen,g0,kK,loose,b1,b2⟩:=h;have e:fj D=0:=by
  unfold fj;rw[hn,hA.sure.gone,aaG ah];rfl
 have a:S=UF S.LA S.bA S.LB S.bB:=by
  unfold UF;rw[pk,qR ok,<-pk,<-ov]
 have f:ig S.LA=g:=by unfold ig;rw[eA];exact gen
 rcases place with ⟨rfl,rfl,i⟩ | ⟨rfl,rfl,i⟩
 .have e1:qo D=S.LA:=by unfold qo;rw[hn,eA];exact hA.bc
  have d:ku D=S.LB:=by unfold ku;rw[hn,eB];exact hB.bc
  have b:jR D=S.bA:=by unfold jR;rw[hn];exact hA.bk
  have c:gD D=S.bB:=by unfold gD;rw[hn];exact hB.bk
  refine⟨e,?_,by rw[b];exact b1,by rw[c];exact b2⟩;unfold cm;rw[e1,d,b,c,f,aaG (by show ¬g<ig S.LB;unfold ig;rw[eB];show ¬g<dZ (ntB.take 8);omega)];exact a.symm
 .have e1:qo D=S.LB:=by unfold qo;rw[hn,eB];exact hB.bc
  have d:ku D=S.LA:=by unfold ku;rw[hn,eA];exact hA.bc
  have b:jR D=S.bB:=by unfold jR;rw[hn];exact hB.bk
  have c:gD D=S.bA:=by unfold gD;rw[hn];exact hA.bk
  refine⟨e,?_,by rw[b];exact b2,by rw[c];exact b1⟩;unfold cm;rw[e1,d,b,c,f,aaR (by show ig S.LB<g;unfold ig;rw[eB];exact i)];exact a.symm
def SP.more (h:SP D S n g K) (hK:K<=K'):SP D S n g K' :=
 {h with g0:=⟨h.g0.1,by have:=h.g0.2;omega⟩,kK:=⟨by have:=h.kK.1;omega,by have:=h.kK.2;omega⟩}
def SP.apart (h:SP D S n g K):(h.fA:Int)+n<=h.fB\/(h.fB:Int)+n<=h.fA:=by
 rcases h.place with ⟨h1,h2,_⟩ | ⟨h1,h2,_⟩<;>omega
def SP.add (h:SP D S n g K) (hk:gK rows) (hr:((bI rows).length:Int)<=64*((n:Int)-2)-S.bA.length) (hb:∀ r∈rows,aq r) (hK:K<1000000) :
 (cH D S rows).e=0/\(cH D S rows).S.recs=S.recs++rows/\Nonempty (SP (cH D S rows).D (cH D S rows).S n g (K+1)):=by
 by_cases c:rows=[]
 .subst c;have e:cH D S []=⟨0,D,S⟩:=by
   unfold cH;rw[aaG (by rw[h.ov];simp),aaG (fun h'=>h' hk),aaR rfl]
  rw[e];exact⟨rfl,(abA _).symm,⟨h.more ah⟩⟩
 have a:((S.bA.length:Nat):Int)+((bI rows).length:Nat)<=64*((n:Int)-2):=ah;have d:h.kA<1000000:=by have:=h.kK.1;omega
 obtain⟨f,i,a3,a4⟩:=h.hA.append (b:=bI rows) (nt':=h.ntA) a d h.hA.note;obtain⟨k,m⟩:=h.hA.out (b:=bI rows) (nt':=h.ntA) a d h.hA.note;rw[<-h.eA]at f i a3 a4 k m;have eN:S.LA.note=h.ntA:=by rw[h.eA]
 have eM:S.LA.most=64*((n:Int)-2):=by rw[h.eA]
 obtain⟨c1,c2,c3⟩:=QF (D:=D) (S:=S) (rows:=rows) h.ov hk c (by rw[eM];exact hr) (by rw[eN];exact f);rw[eN]at c2 c3;have l:S.bA++bI rows=bI (S.recs++rows):=by rw[h.pk,lD]
 refine⟨c1,by rw[c3],⟨?_⟩⟩;rw[c2,c3,a3,a4];refine⟨h.fA,h.kA+1,h.ntA,h.fB,h.kB,h.ntB,by rw[k];exact h.hn,h.n3,h.place,i,h.hB.fV i.sure k fun j h1 h2=>m j ?_,rfl,h.eB,l,fun r hr=>?_,rfl,h.gen,⟨h.g0.1,by have:=h.g0.2;omega⟩,⟨by have:=h.kK.1;omega,by have:=h.kK.2;omega⟩,CO f,fun z o=>?_,h.b2⟩
 .rcases h.apart with hp | hp<;>omega
 .rcases aa4.1 hr with h1 | h1
  .exact h.ok r h1
  .exact hk r h1
 .rcases aa4.1 o with h1 | h1
  .exact h.b1 z h1
  .exact xc hb z h1
def SP.new (h:6<=m/\m<=16384):Nonempty (SP (eJ m) (cm (eJ m)) (m/2) 0 0)/\(cm (eJ m)).recs=[]/\fj (eJ m)=0:=by
 obtain⟨e1,b⟩:=MK h;rw[b];have hn:(eJ m).n=m:=by show ga m=m;unfold ga;omega
 have hA:Holds (eJ m) 0 ((m/2:Nat):Int) 0 [] Nk:=ik ah ah ah;have hB:Holds (eJ m) (m/2) ((m/2:Nat):Int) 0 [] Nk:=ik ah ah ah;have a:dZ (Nk.take 8)=0:=by decide
 exact⟨⟨⟨0,0,Nk,m/2,0,Nk,by rw[hn],ah,Or.inl ⟨rfl,rfl,by rw[a];exact aaM 0⟩,hA,hB,rfl,rfl,rfl,fun r hr=>(by cases hr),rfl,a,⟨aaM 0,aaM 0⟩,⟨aaS _,aaS _⟩,rfl,fun z a=>(by cases a),fun z a=>(by cases a)⟩⟩,rfl,e1⟩
end Go.Proofs.YtomdimlnggpgbaaGreatDoor
namespace Go.Proofs.YtomdimlnggpgbaaGreatDoor
open Go Go.Sx Go.Pk
open Go.Proofs.YtomdimlnggpgbaaGreatDoor.D (dZ jK nP)
abbrev wz:Ck:=.int .u32
def XJ (xs:List Value):Value:=match xs with
 | [.int _ x,.int _ n]=>.int .u32 (bS n.toNat x)
 | _=>.bool false
def XK (xs:List Value):Prop:=match xs with
 | [.int _ x,.int _ n]=>okW x/\0<=n/\n<=32
 | _=>False
def qT:Sx.Spec:=qD 102 [.one wz,.one (.int .i64)] [.one wz] XK XJ
def AW:aG Tryz.prog [] 102 where
 Λ:=fun p=>if lp p then some ⟨0,[(0,.sv (.one (.int .u32 (.var 10)))),(5,TI .i64 (.var 11))],[],20⟩else none
 args:=(cA 0 [.one wz,.one (.int .i64)]).map .sv
 mem:=[]
 nv:=2
def B0 (z:Int):∃ J:Env,Value.int .u32 z=((kS 0 [.one wz]).ev J)/\ft 0 [.one wz] J:=⟨(bf fun _=>z),rfl,zzT,zzT⟩
def AV:qT.OK Tryz.prog:=by
 refine kj (fun t h=>by cases h) AW rfl rfl rfl (fun q _ hN=>?_) (fun q p hN=>⟨fun _ e=>∃ k:Nat,e.i 11=k/\(k:Int)<=q.i 1/\e.i 10=bS k (q.i 0),fun _ e=>(q.i 1-e.i 11).toNat,?_⟩)
 .obtain⟨J,h1,h2⟩:=B0 (bS (q.i 1).toNat (q.i 0));exact⟨J,h1,h2⟩
 .have hN:okW (q.i 0)/\0<=q.i 1/\q.i 1<=32:=hN;obtain⟨h0,h1,h2⟩:=hN;refine aG.read [] [] [] ?_;simp only[go_sem,Nat.reduceAdd];refine⟨⟨0,rfl,h1,rfl⟩,fun e g ⟨k,j,hk,f⟩=>?_⟩;rw[g.i 1,j];refine⟨fun n=>⟨⟨k+1,?_,ah,?_⟩,?_⟩,fun o=>?_⟩
  .show IntKind.i64.wrap (e.i 11+1)=_;rw[j,wrap_i64 ah ah];rfl
  .show IntKind.u32.wrap (IntKind.u32.wrap ((e.i 10).tdiv 2)+IntKind.u32.wrap ((e.i 10).tmod 2*2147483648))=sH (bS k (q.i 0));have hx:=GQ h0 k ah;have c:=GQ h0 (k+1) ah;rw[f];have c:okW (sH (bS k (q.i 0))):=c;generalize bS k (q.i 0)=x at hx c;unfold okW at hx c;unfold sH at c ⊢;have d:x.tdiv 2=x/2:=acb hx.1;have m:x.tmod 2=x%2:=abm hx.1;rw[d,m];have a:=qV (x:=x/2) ⟨ah,ah⟩;have b:=qV (x:=x%2*2147483648) ⟨ah,ah⟩;unfold fp at a b;rw[a,b];exact qV c
  .show(q.i 1-IntKind.i64.wrap (e.i 11+1)).toNat<(q.i 1-(k:Int)).toNat;rw[j,wrap_i64 ah ah];omega
  .have l:(k:Int)=q.i 1:=ah;show Value.int .u32 (e.i 10)=Value.int .u32 (bS (q.i 1).toNat (q.i 0));rw[f,<-l,aar]
def Xq (xs:List Value):Value:=match xs with
 | [.int _ x,.int _ n]=>.int .u32 (bS (-n).toNat x)
 | _=>.bool false
def ZU (xs:List Value):Prop:=match xs with
 | [.int _ x,.int _ n]=>okW x/\n∈([-2,-6,-7,-11,-13,-17,-18,-19,-22,-25]:List Int)
 | _=>False
def PL:Sx.Spec:=qD 207 [.one wz,.one (.int .i64)] [.one wz] ZU Xq
def ZV:aG Tryz.prog [] 207 where
 Λ:=aC
 args:=(cA 0 [.one wz,.one (.int .i64)]).map .sv
 mem:=[]
 nv:=2
def Vl {n:Nat} (h1:1<=n) (h2:n<=31) {x:Int} (hx:okW x) {s r:Int} (hs:s=((32-n:Nat):Int)) (hr:r=(n:Int)):cQ .or .u32 (IntKind.u32.wrap (x*2 ^ (min s.toNat IntKind.u32.bits))) (x.fdiv (2 ^ (min r.toNat IntKind.u32.bits)))=bS n x:=by
 subst hs hr;have a:min ((32-n:Nat):Int).toNat IntKind.u32.bits=32-n:=by show min _ 32=_;omega
 have b:min ((n:Nat):Int).toNat IntKind.u32.bits=n:=by show min _ 32=_;omega
 rw[a,b];exact PM hx h1 h2
def KG:PL.OK Tryz.prog:=by
 refine kj (fun t h=>by cases h) ZV rfl rfl rfl (fun q _ hN=>?_) (fun q a hN=>⟨fun _ _=>True,fun _ _=>0,?_⟩)
 .obtain⟨J,h1,h2⟩:=B0 (bS (-(q.i 1)).toNat (q.i 0));exact⟨J,h1,h2⟩
 .have hN:okW (q.i 0)/\q.i 1∈([-2,-6,-7,-11,-13,-17,-18,-19,-22,-25]:List Int):=hN;obtain⟨h0,h1⟩:=hN;refine aG.read [] [] [] ?_;simp only[go_sem,Nat.reduceAdd];have key:∀ k:Nat,1<=k->k<=31->q.i 1= -(k:Int)->cQ .and .u64 (IntKind.u64.wrap (-(k:Int))) 31=((32-k:Nat):Int) ->
   0<=cQ .and .u64 (IntKind.u64.wrap (q.i 1)) 31 /\
   Value.int .u32 (cQ .or .u32 (IntKind.u32.wrap (q.i 0*2 ^ (min (cQ .and .u64 (IntKind.u64.wrap (q.i 1)) 31).toNat IntKind.u32.bits))) ((q.i 0).fdiv (2 ^ (min (IntKind.u64.wrap (32-cQ .and .u64 (IntKind.u64.wrap (q.i 1)) 31)).toNat IntKind.u32.bits))))=Value.int .u32 (bS (-(q.i 1)).toNat (q.i 0)):=by
   intro k k1 k2 e hb;rw[e,hb];have hw:IntKind.u64.wrap (32-((32-k:Nat):Int))=k:=by rw[oH ah ah];omega
   rw[hw,Vl k1 k2 h0 rfl rfl];exact⟨ah,by rw[show(-(-(k:Int))).toNat=k by omega]⟩
  simp only[aaN,aaX,abC]at h1;rcases h1 with h | h | h | h | h | h | h | h | h | h
  .exact key 2 aA aA h aA
  .exact key 6 aA aA h aA
  .exact key 7 aA aA h aA
  .exact key 11 aA aA h aA
  .exact key 13 aA aA h aA
  .exact key 17 aA aA h aA
  .exact key 18 aA aA h aA
  .exact key 19 aA aA h aA
  .exact key 22 aA aA h aA
  .exact key 25 aA aA h aA
end Go.Proofs.YtomdimlnggpgbaaGreatDoor
namespace Go.Proofs.YtomdimlnggpgbaaGreatDoor
open Go Go.Sx Go.Pk
open Go.Proofs.YtomdimlnggpgbaaGreatDoor.D (dZ jK nP gk)
variable {F R:Hl}{a d x y' z:Int}{bs l:List Int}{b c j k n o y:Nat}{T:TypeId}
def Fb:Sx.Spec where
 fn:=209
 own:=[]
 rd:=[0]
 res:=[.one (.int .u64)]
 pre:=fun xs Hs Rs=>∃ u bs R,xs=[u]/\Rs=[R]/\fL R u bs/\bs.length<=1000
 post:=fun xs Hs Rs v Hs' F=>∃ u bs R,xs=[u]/\Rs=[R]/\fL R u bs/\v=.int .u64 (dZ bs)
def Fc:aG Tryz.prog [] Fb.fn where
 Λ:=fun p=>if lp p then some ⟨0,[(3,TI .u64 (.var 10)),(8,TI .i64 (.var 11))],[],12⟩else none
 args:=[.sv (.one (.sl (.var 0) (.var 1) (.var 2) (.var 3)))]
 mem:=[.ro 4 [.var 0] true]
 nv:=5
def Ra (bs:List Int) (_:Nat) (q:Env):Prop:=∃ k:Nat,k<=bs.length/\q.i 11=k/\q.i 10=dZ (bs.take k)
def Oa:Fb.OK Tryz.prog:=by
 refine Spec.aV (Γ:=[]) (fun _ h=>by cases h) ?_;rintro xs Hs Rs l p ⟨u,bs,R,rfl,rfl,⟨x,y,cp,rfl,m,n⟩,hlen⟩;have s:Hs=[]:=aaz.1 l;subst s;refine⟨Fc,aL [x,y,bs.length,cp] false [Hl.none,Hl.none,Hl.none,Hl.none,R],Ra bs,fun _ q=>(bs.length-q.i 11).toNat,?_,⟨?_,?_,?_,?_⟩,(fun _ h=>nomatch h),?_⟩
 .show [Value.slice (az x y) ((bs.length:Int)).toNat ((cp:Int)).toNat]=_;rw[aar,aar]
 .intro r hr ho;simp [Fc]at hr;subst hr;cases ho
 .intro r hr ho;simp [Fc]at hr;subst hr;exact⟨R,aF,Hl.le_refl _⟩
 .simp [Fc]
 .intro r hr;simp [Fc]at hr;subst hr;trivial
 .refine aG.read [] [] [] ?_;generalize a:aL [x,y,bs.length,cp] false [Hl.none,Hl.none,Hl.none,Hl.none,R]=J;have v0:J.i 0=x:=by rw[<-a];rfl
  have v1:J.i 1=y:=by rw[<-a];rfl
  have v2:J.i 2=bs.length:=by rw[<-a];rfl
  have o:J.h 4=R:=by rw[<-a];rfl
  simp only[go_sem,Nat.reduceAdd];rw[v2];refine⟨ah,⟨0,ah,rfl,rfl⟩,fun q g ⟨k,hk,b,c⟩=>?_⟩;rw[g.i 0,g.i 1,g.i 2,g.h 4,v0,v1,v2,o,b];refine⟨fun t=>?_,fun v=>?_⟩
  .have d:k<bs.length:=ah;have f:0<=x/\∀ j z,bs[j]?=some z->R.cell x.toNat (y.toNat+j)=some (.int .u8 z):=by
    rcases n with h | h
    .subst h;simp at d
    .exact h
   have hc:R.cell x.toNat (y+k).toNat=some (.int .u8 bs[k]):=by
    rw[show(y+(k:Int)).toNat=y.toNat+k by omega];exact f.2 _ _ (aax d)
   rw[hc];refine⟨f.1,m,ah,rfl,⟨k+1,ah,?_,?_⟩,?_⟩
   .show IntKind.i64.wrap (q.i 11+1)=_;rw[b];exact wrap_i64 ah ah
   .show jK (q.i 10) (cf ((q.h 4).cell (q.i 0).toNat (q.i 1+q.i 11).toNat))=_;rw[c,g.i 0,g.i 1,g.h 4,v0,v1,o,b,hc,nP bs k d];rfl
   .show((bs.length:Int)-IntKind.i64.wrap (q.i 11+1)).toNat<_;rw[b,wrap_i64 ah ah];omega
  .have e:k=bs.length:=ah;subst e;rw[abG]at c;refine fun _=>⟨[],[],rfl,rfl,⟨(bf fun _=>q.i 10),rfl,zzT,zzT⟩,_,bs,R,rfl,rfl,⟨x,y,cp,rfl,m,n⟩,?_⟩;show Value.int .u64 (q.i 10)=_;rw[c]
def YQ {b c:Int} (e:0<=a/\a<256) (hb:0<=b/\b<256) (hc:0<=c/\c<256) (hd:0<=d/\d<256):dZ [a,b,c,d]=a*16777216+b*65536+c*256+d:=by
 show jK (jK (jK (jK 0 a) b) c) d=_;have e1:jK 0 a=a:=by rw[gk ah ah e.1 e.2];omega
 rw[e1,gk (n:=a) (c:=b) e.1 ah hb.1 hb.2];rw[gk (n:=a*256+b) (c:=c) ah ah hc.1 hc.2];rw[gk (n:=(a*256+b)*256+c) (c:=d) ah ah hd.1 hd.2];omega
def Q8 (hl:bs.length=64) (hk:k<16):(bs.drop (4*k)).take 4=[bs.getD (4*k) 0,bs.getD (4*k+1) 0,bs.getD (4*k+2) 0,bs.getD (4*k+3) 0]:=by
 apply aa2;intro j;rw[abf];have key:∀ i,i<4->(bs.drop (4*k))[i]?=some (bs.getD (4*k+i) 0):=fun i hi=>by
  rw[aa9,aaD,aax ah];rfl
 match j with
 | 0=>exact key 0 ah
 | 1=>exact key 1 ah
 | 2=>exact key 2 ah
 | 3=>exact key 3 ah
 | j+4=>rw[aaG ah];rfl
def M8 (hl:bs.length=64) (hb:aq bs) (hk:k<16):IntKind.u32.wrap (dZ ((bs.drop (4*k)).take 4))=GX bs k:=by
 have g:∀ i,i<64->0<=bs.getD i 0/\bs.getD i 0<256:=fun i hi=>by
  rw[aaD,aax ah,abL];exact hb _ (abM _)
 rw[Q8 hl hk,YQ (g _ ah) (g _ ah) (g _ ah) (g _ ah)];rfl
def KA {y:Int} {l:Nat} (h:fL R (.slice (az x y) l c) bs) (hx:-1<=x) (i:0<=y) (hn:o+n<=bs.length) (d:n=0\/y'=y+o) (h0:0<=y') (c':Nat):fL R (.slice (az x y') n c') ((bs.drop o).take n):=by
 have hl:((bs.drop o).take n).length=n:=by rw[aaU,aa7];omega
 obtain⟨x1,p,c1,e,f,h⟩:=h;rcases d with rfl | rfl
 .exact⟨x,y',c',by rw[acF];rfl,h0,Or.inl (acF ..)⟩
 .refine⟨x,y+o,c',by rw[hl],h0,?_⟩;by_cases a:n=0
  .subst a;exact Or.inl (acF ..)
  simp only[Value.slice.injEq]at e;obtain⟨k,el,_⟩:=e;rcases h with rfl | ⟨b,hc⟩
  .simp at hn;omega
  obtain⟨rfl,g⟩:=lI hx i ah f k;obtain rfl:=g b;refine Or.inr ⟨b,fun j z a=>?_⟩;have m:j<n:=by have:=(aaH.1 a).1;omega
  rw[abx m,aa9]at a;have:=hc _ _ a;rw[show(y+(o:Int)).toNat+j=y.toNat+(o+j)by omega];exact this
def Js (l:List Int):List Value:=l.map (Value.int .u32)
def wH (b:Nat) (l:List Int) (T:TypeId):Hl:=Hl.one b (.cells (Js l).toArray T (0,0))
def K5 (b:Nat) (l:List Int) (T:TypeId) (j:Nat):(wH b l T).cell b j=(l[j]?).map (Value.int .u32):=by
 unfold wH Js;rw[Hl.one_cell,abI,aaL]
def CG (h:l[j]?=some z):(wH b l T).cell b j=some (.int .u32 z):=by rw[K5,h];rfl
def Ei (h:y<l.length) (z:Int):(wH b l T).put b y [Value.int .u32 z]=wH b (l.set y z) T:=by
 unfold wH Js;rw[Hl.DC]
 congr 2
 apply aa1;apply aa2;intro j;rw[Sx.jW (by simp;omega),adX];simp only[abc,abt,ac5,aaT,aaL];by_cases h2:j=y
 .subst h2;rw[aaR ah,aaR rfl,aaR h];simp
 .rw[aaG ah,aaG ah]
def K6 (h:y<l.length):(wH b l T).wr b y 1=true:=Hl.DD _ _ _ _ _ (by simp [Js];omega)
def vQ:∀ {n:Nat} (l:List Int),l.length=n->bo (Js l) (List.replicate n (Kd.int .u32))
 | 0,[],_=>trivial
 | n+1,z::l,h=>⟨by simp [bz],vQ l (by simpa using h)⟩
def IX (l:List Int) (h:l.length=n):bo (Js l) ((List.replicate n wz).map kU):=by rw[ac3];exact vQ l h
def Lb (bs:List Int) (k:Nat) (l:List Int):Prop:=l.length=64/\∀ j,j<k->l[j]?=some ((aR bs 64).getD j 0)
def Lb.set (h:Lb bs k l) (hk:k<64) (a:z=if k<16 then GX bs k else CH (aR bs k) k):Lb bs (k+1) (l.set k z):=by
 refine⟨by rw[List.length_set];exact h.1,fun j b=>?_⟩;rw[ac5];by_cases e:k=j
 .subst e;rw[aaR rfl,aaR (by rw[h.1];exact hk),mz bs 64 k hk,a]
 .rw[aaG e];exact h.2 j ah
def Gz (n j:Nat) (h:j<n):okW ((aR bs n).getD j 0):=by
 rw[mz bs n j h];split
 .exact AZ _
 .exact AZ _
def yo:Sx.Spec where
 fn:=206
 own:=[]
 rd:=[0]
 res:=[.agg (List.replicate 64 wz)]
 pre:=fun xs Hs Rs=>∃ x y c bs R,xs=[.slice (az x y) 64 c]/\Rs=[R]/\fL R (.slice (az x y) 64 c) bs/\bs.length=64/\64<=c/\aq bs/\0<=y/\ -1<=x
 post:=fun xs Hs Rs v Hs' F=>∀ u bs R,xs=[u]->Rs=[R]->fL R u bs->v=.agg (Js (aR bs 64)).toArray
def Yw:List Sx.Spec:=[PL,Fb]
def Vz:∀ t∈Yw,t.OK Tryz.prog:=av KG <| av Oa <| bW
def uP:aG Tryz.prog Yw yo.fn where
 Λ:=fun p=>if lp p then(if Ng p [206,1,1,0,1,0]then some ⟨0,[(10,TI .i64 (.var 50))],[(2,.hp 51 [] [.var 6] [])],60⟩else some ⟨1,[(5,TI .i64 (.var 70))],[(2,.hp 71 [] [.var 6] [])],80⟩)else none
 args:=[.sv (.one (.sl (.var 0) (.var 1) (.var 2) (.var 3)))]
 mem:=[.ro 4 [.var 0] true]
 nv:=5
def XA:PL.res=[.one wz]:=rfl
def aal:Fb.res=[.one (.int .u64)]:=rfl
def km (h:okW x) {n:Int} (hn:n∈([-2,-6,-7,-11,-13,-17,-18,-19,-22,-25]:List Int)):PL.pre [.int .u32 x,.int .i64 n] [] []:=⟨⟨(bf fun i=>if i=0 then x else n),⟨zzT,zzT,zzT⟩,rfl⟩,h,hn⟩
def LG {u v:Value} {K:List Hl} (h:fL R u bs) (hp:Fb.post [u] [] [R] v K F):v=.int .u64 (dZ bs):=by
 obtain⟨b,bs',R',e1,a,h',hv⟩:=hp;simp only[aaC,aaP]at e1 a;subst e1 a;rw[hv,h'.uniq h]
def Lb.get (h:Lb bs k l) (a:j<k) (hk:k<=64):l[j]?=some ((aR bs k).getD j 0):=by
 rw[h.2 j a,Gy bs ah a]
def Lb.all (h:Lb bs 64 l):l=aR bs 64:=by
 apply aa2;intro j;by_cases a:j<64
 .rw[h.2 j a,aaD,aax (by rw[dY];exact a)];rfl
 .rw[aaK (by rw[h.1];omega),aaK (by rw[dY];omega)]
def Z8 (h:okW x):x.fdiv (2 ^ (min (Int.toNat 3) IntKind.u32.bits))=x/8:=abX _ aA
def Xy (h:okW x):x.fdiv (2 ^ (min (Int.toNat 10) IntKind.u32.bits))=x/1024:=abX _ aA
def Jd:yo.OK Tryz.prog:=by
 refine Spec.aV (Γ:=Yw) Vz ?_;rintro xs Hs Rs Y aw ⟨x,y,c,bs,R,rfl,rfl,hR,hlen,hc,hb,hy,hx⟩;have e0:Hs=[]:=aaz.1 Y;subst e0;refine⟨uP,aL [x,y,64,c] false [Hl.none,Hl.none,Hl.none,Hl.none,R],
  fun j q=>match j with
   | 0=>∃ (k:Nat) (l:List Int),q.i 50=k/\k<=16/\Lb bs k l/\q.h 51=wH (q.i 6).toNat l 172
   | _=>∃ (k:Nat) (l:List Int),q.i 70=k/\16<=k/\k<=64/\Lb bs k l/\q.h 71=wH (q.i 6).toNat l 172,
  fun j q=>match j with
   | 0=>(16-q.i 50).toNat
   | _=>(64-q.i 70).toNat,?_,⟨?_,?_,?_,?_⟩,(fun _ h=>nomatch h),?_⟩
 .show [Value.slice (az x y) (Int.toNat 64) ((c:Int)).toNat]=_;rw[aar];rfl
 .intro r hr ho;simp [uP]at hr;subst hr;cases ho
 .intro r hr ho;simp [uP]at hr;subst hr;exact⟨R,aF,Hl.le_refl _⟩
 .simp [uP]
 .intro r hr;simp [uP]at hr;subst hr;trivial
 .refine aG.read [] [] [] ?_;generalize C:aL [x,y,64,c] false [Hl.none,Hl.none,Hl.none,Hl.none,R]=J;have V:∀ q:Env,ai 5 J q->q.i 0=x/\q.i 1=y/\q.i 2=64/\q.i 3=c/\q.h 4=R:=fun q e=>by
   rw[e.i 0,e.i 1,e.i 2,e.i 3,e.h 4,<-C];exact⟨rfl,rfl,rfl,rfl,rfl⟩
  clear C;simp only[go_sem,Nat.reduceAdd,Yw,XA,aal];intro q1 g1 _ q2 g2 p6 Z g3 h7;have G3:ai 5 J Z:=g1.trans (g2.mono.tr g3);refine⟨⟨0,List.replicate 64 0,rfl,ah,⟨aF,fun j hj=>ah⟩,?_⟩,fun W g4 ⟨k,l,D,hk,v,hh⟩=>?_⟩
  .show Z.h 7=wH (Z.i 6).toNat _ _;rw[h7,g3.i 6];rfl
  have G4:ai 5 J W:=G3.tr g4;obtain⟨v0,v1,v2,v3,w4⟩:=V W G4;have w:0<=W.i 6:=by rw[g4.i 6,g3.i 6];exact p6
  rw[v0,v1,v3,w4,D];refine⟨fun aa=>?_,fun ab=>?_⟩
  .have ad:IntKind.i64.wrap (4*(k:Int))=4*k:=wrap_i64 ah ah;have ae:IntKind.i64.wrap (4*(k:Int)+4)=4*k+4:=wrap_i64 ah ah;rw[ad,ae];have hsub:=KA hR hx hy (o:=4*k) (n:=4) ah (y':=y+(4*k:Nat)) (Or.inr rfl) ah ((c:Int)-4*k).toNat;have e4:((4:Int)*k+4-4*k).toNat=4:=ah;rw[aaG ah,e4];rw[show y+((4*k:Nat):Int)=y+4*(k:Int)by omega]at hsub;refine⟨ah,hy,ah,ah,ah,⟨_,_,R,rfl,rfl,hsub,by rw[aaU];omega⟩,fun a G ⟨F,p5,_,_⟩=>?_⟩;have af:a.i 60=dZ ((bs.drop (4*k)).take 4):=by
    have:=LG hsub p5;simpa using this
   have H:a.i 50=k:=by rw[G.i 50,D]
   have I:a.i 6=W.i 6:=G.i 6;have hl:=v.1;rw[I,H,G.h 51,hh,aar];refine⟨w,ah,⟨w,ah,K6 ah⟩,fun B K ag=>?_⟩;have L:IntKind.i64.wrap (B.i 50+1)=((k+1:Nat):Int):=by rw[K.i 50,H,wrap_i64 ah ah];rfl
   refine⟨⟨k+1,_,L,ah,v.set (z:=IntKind.u32.wrap (a.i 60)) ah ?_,?_⟩,?_⟩
   .rw[aaR ah,af];exact M8 hlen hb ah
   .show B.h 61=wH (B.i 6).toNat _ _;rw[ag,Ei ah,K.i 6,I]
   .show(16-IntKind.i64.wrap (B.i 50+1)).toNat<_;rw[L];omega
  .refine⟨⟨16,l,rfl,aaS _,ah,?_,hh⟩,fun a G ⟨k,l,p,ax,cy,v,hh⟩=>?_⟩
   .have:k=16:=ah;subst this;exact v
   have f:0<=a.i 6:=by rw[G.i 6];exact w
   have hl:=v.1;refine⟨fun aa=>?_,fun ab=>?_⟩
   .have rd:∀ {q:Env},ai 80 a q->∀ d:Nat,1<=d->d<=16->(q.h 71).cell (q.i 6).toNat (IntKind.i64.wrap (q.i 70-d)).toNat=some (.int .u32 ((aR bs k).getD (k-d) 0)):=fun {q} e d h1 h2=>by
     rw[e.h 71,e.i 6,e.i 70,p,hh,wrap_i64 ah ah,show((k:Int)-d).toNat=k-d by omega];exact CG (v.get ah ah)
    have ok:∀ d:Nat,1<=d->d<=16->okW ((aR bs k).getD (k-d) 0):=fun d h1 h2=>Gz _ _ ah;have wd:∀ d:Nat,1<=d->d<=16->IntKind.i64.wrap (a.i 70-d)=(k:Int)-d:=fun d h1 h2=>by rw[p,wrap_i64 ah ah]
    have M:=fun {q:Env} (e:ai 80 a q)=>rd e 15 ah ah;have r2:=fun {q:Env} (e:ai 80 a q)=>rd e 2 ah ah;have aj:=fun {q:Env} (e:ai 80 a q)=>rd e 16 ah ah;have r7:=fun {q:Env} (e:ai 80 a q)=>rd e 7 ah ah;have N:IntKind.i64.wrap (a.i 70-15)=(k:Int)-15:=wd 15 ah ah;have w2:IntKind.i64.wrap (a.i 70-2)=(k:Int)-2:=wd 2 ah ah;have O:∀ {q:Env},ai 80 a q->cf ((q.h 71).cell (q.i 6).toNat (IntKind.i64.wrap (q.i 70-15)).toNat)=(aR bs k).getD (k-15) 0:=fun e=>by
     have:=M e;rw[show((15:Nat):Int)=15 from rfl]at this;rw[this];rfl
    have v2:∀ {q:Env},ai 80 a q->cf ((q.h 71).cell (q.i 6).toNat (IntKind.i64.wrap (q.i 70-2)).toNat)=(aR bs k).getD (k-2) 0:=fun e=>by
     have:=r2 e;rw[show((2:Nat):Int)=2 from rfl]at this;rw[this];rfl
    have ak:∀ {q:Env},ai 80 a q->(q.h 71).cell (q.i 6).toNat (IntKind.i64.wrap (q.i 70-16)).toNat=some (.int .u32 ((aR bs k).getD (k-16) 0)):=fun e=>aj e;have v7:∀ {q:Env},ai 80 a q->(q.h 71).cell (q.i 6).toNat (IntKind.i64.wrap (q.i 70-7)).toNat=some (.int .u32 ((aR bs k).getD (k-7) 0)):=fun e=>r7 e;have al:(a.h 71).cell (a.i 6).toNat ((k:Int)-15).toNat=some (.int .u32 ((aR bs k).getD (k-15) 0)):=by rw[<-N];exact M (ai.refl _ _)
    have u2:(a.h 71).cell (a.i 6).toNat ((k:Int)-2).toNat=some (.int .u32 ((aR bs k).getD (k-2) 0)):=by rw[<-w2];exact r2 (ai.refl _ _)
    rw[N,w2,al,u2];refine⟨f,ah,ah,rfl,ah,ah,rfl,km (ok 15 ah ah) aA,fun B K ⟨_,p6,_,_⟩=>?_⟩;rw[O K];refine⟨km (ok 15 ah ah) aA,fun q7 g7 ⟨_,p7,_,_⟩=>?_⟩;have G7:ai 80 a q7:=K.tr g7;rw[v2 G7];refine⟨km (ok 2 ah ah) aA,fun q8 g8 ⟨_,p8,_,_⟩=>?_⟩;have G8:ai 80 a q8:=G7.tr g8;rw[v2 G8];refine⟨km (ok 2 ah ah) aA,fun b X ⟨_,p9,_,_⟩=>?_⟩;have A:ai 80 a b:=G8.tr X;have an:b.i 80=bS 7 ((aR bs k).getD (k-15) 0):=by
     rw[X.i 80,g8.i 80,g7.i 80];have h:Value.int .u32 (B.i 80)=.int .u32 (bS 7 (cf (some (Value.int .u32 ((aR bs k).getD (k-15) 0))))):=p6;simpa [cf] using h
    have ao:b.i 81=bS 18 ((aR bs k).getD (k-15) 0):=by
     rw[X.i 81,g8.i 81];have h:Value.int .u32 (q7.i 81)=.int .u32 (bS 18 ((aR bs k).getD (k-15) 0)):=p7;simpa using h
    have aq:b.i 82=bS 17 ((aR bs k).getD (k-2) 0):=by
     rw[X.i 82];have h:Value.int .u32 (q8.i 82)=.int .u32 (bS 17 ((aR bs k).getD (k-2) 0)):=p8;simpa using h
    have au:b.i 83=bS 19 ((aR bs k).getD (k-2) 0):=by
     have h:Value.int .u32 (b.i 83)=.int .u32 (bS 19 ((aR bs k).getD (k-2) 0)):=p9;simpa using h
    have s:b.i 70=k:=by rw[A.i 70,p]
    have I:b.i 6=a.i 6:=A.i 6;have P:IntKind.i64.wrap (b.i 70-16)=(k:Int)-16:=by rw[s,wrap_i64 ah ah]
    have w7:IntKind.i64.wrap (b.i 70-7)=(k:Int)-7:=by rw[s,wrap_i64 ah ah]
    have u16:=ak A;have u7:=v7 A;rw[P]at u16;rw[w7]at u7;have vz:IntKind.u32.wrap (IntKind.u32.wrap (IntKind.u32.wrap ((aR bs k).getD (k-16) 0+lN (b.i 80) (b.i 81) ((aR bs k).getD (k-15) 0/8))+(aR bs k).getD (k-7) 0)+lN (b.i 82) (b.i 83) ((aR bs k).getD (k-2) 0/1024))=CH (aR bs k) k:=by
     rw[an,ao,aq,au];rfl
    have x1:aB b (E.bits BinOp.xor IntKind.u32 (E.bits BinOp.xor IntKind.u32 (E.var 80) (E.var 81)) (E.shr IntKind.u32 (E.hI 71 (E.var 6) (E.wrap IntKind.i64 ((E.var 70).sub (E.lit 15))) 0) (E.lit 3)))=lN (b.i 80) (b.i 81) ((aR bs k).getD (k-15) 0/8):=by
     show lN (b.i 80) (b.i 81) ((cf ((b.h 71).cell (b.i 6).toNat ((IntKind.i64.wrap (b.i 70-15)).toNat))).fdiv (2 ^ (min (Int.toNat 3) IntKind.u32.bits)))=_;rw[O A,Z8 (ok 15 ah ah)]
    have x2:aB b (E.bits BinOp.xor IntKind.u32 (E.bits BinOp.xor IntKind.u32 (E.var 82) (E.var 83)) (E.shr IntKind.u32 (E.hI 71 (E.var 6) (E.wrap IntKind.i64 ((E.var 70).sub (E.lit 2))) 0) (E.lit 10)))=lN (b.i 82) (b.i 83) ((aR bs k).getD (k-2) 0/1024):=by
     show lN (b.i 82) (b.i 83) ((cf ((b.h 71).cell (b.i 6).toNat ((IntKind.i64.wrap (b.i 70-2)).toNat))).fdiv (2 ^ (min (Int.toNat 10) IntKind.u32.bits)))=_;rw[v2 A,Xy (ok 2 ah ah)]
    have av:b.h 71=wH (a.i 6).toNat l 172:=by rw[A.h 71,hh]
    rw[P,w7,u16,u7,x1,x2,I,s,aar,av];refine⟨ah,ah,rfl,ah,ah,rfl,ah,⟨f,ah,K6 ah⟩,fun g Q t=>?_⟩;have t:g.h 84=(wH (a.i 6).toNat l 172).put (a.i 6).toNat k [Value.int .u32 (IntKind.u32.wrap (IntKind.u32.wrap (IntKind.u32.wrap ((aR bs k).getD (k-16) 0+lN (b.i 80) (b.i 81) ((aR bs k).getD (k-15) 0/8))+(aR bs k).getD (k-7) 0)+lN (b.i 82) (b.i 83) ((aR bs k).getD (k-2) 0/1024)))]:=t;rw[vz,Ei ah]at t;have L:IntKind.i64.wrap (g.i 70+1)=((k+1:Nat):Int):=by rw[Q.i 70,s,wrap_i64 ah ah];rfl
    refine⟨⟨k+1,_,L,ah,ah,v.set ah (by rw[aaG ah]),?_⟩,?_⟩
    .show g.h 84=wH (g.i 6).toNat _ _;rw[t,Q.i 6,I]
    .show(64-IntKind.i64.wrap (g.i 70+1)).toNat<(64-a.i 70).toNat;rw[L,p];omega
   .have ek:k=64:=ah;subst ek;obtain⟨S,hS⟩:∃ S,S=aR bs 64:=⟨_,rfl⟩;have T:S.length=64:=by rw[hS];exact dY bs 64
    have el:l=S:=by rw[hS];exact v.all
    have aE:bo (Js S) (List.replicate 64 (Kd.int .u32)):=vQ S T;have m:∀ j u,(Js S)[j]?=some u->(a.h 71).cell (a.i 6).toNat (0+j)=some u:=fun j u hu=>by
     rw[hh,el,K5,aa6,<-aaL];exact hu
    have ev:(aY 71 (E.var 6) (E.lit 0) 0 (List.replicate 64 (Kd.int .u32))).map (CV.ev a)=Js S:=fw _ _ 0 aE fun i u hu=>by
     show(a.h 71).cell (a.i 6).toNat (Int.toNat 0+(0+i))=_;rw[show Int.toNat 0+(0+i)=0+i from aa6 _];exact m i u hu
    obtain⟨U,_,_,e2⟩:=cY (List.replicate 64 wz) 0 (Js S) a (IX S T);refine⟨f,my 0 aE m,fun _=>⟨[],[],rfl,rfl,⟨U,?_,cN _ _ _ aA,zzT⟩,fun u bs' R' h1 h2 h'=>?_⟩⟩
    .show Value.agg ((aY 71 (E.var 6) (E.lit 0) 0 (List.replicate 64 (Kd.int .u32))).map (CV.ev a)).toArray=Value.agg ((ar 0 (List.replicate 64 wz)).map (CV.ev U)).toArray;rw[ev,e2]
    .simp only[aaC,aaP]at h1 h2;subst h1 h2;obtain rfl:=h'.uniq hR;show Value.agg ((aY 71 (E.var 6) (E.lit 0) 0 (List.replicate 64 (Kd.int .u32))).map (CV.ev a)).toArray=_;rw[ev,hS]
end Go.Proofs.YtomdimlnggpgbaaGreatDoor
namespace Go.Proofs.YtomdimlnggpgbaaGreatDoor
open Go Go.Sx Go.Pk
variable {q q':Env}{F F' R:Hl}{c' s x x' z:Int}{bs l l':List Int}{L b k m n:Nat}{T e:TypeId}{v v':Wd}
def s8 (v:Wd):List Int:=(List.range 8).map v
def Vs (h:s8 v=s8 v'):∀ j,j<8->v j=v' j:=fun j a=>by
 have e:=aa1 (fun l=>l[j]?) h;unfold s8 at e;simp only[aaL,aaZ a,abe,aaF]at e;exact e
def PY (h:∀ j,j<8->v j=v' j):s8 v=s8 v':=abr fun j a=>h j (abd.1 a)
def uK {v v':Wd} (h:∀ j,j<8->v j=v' j) (w:List Int):∀ n j,j<8->dL v w n j=dL v' w n j
 | 0,j,a=>h j a
 | n+1,j,a=>by
  have ih:=uK h w n;have eT:∀ k x,I8 (dL v w n) k x=I8 (dL v' w n) k x:=fun k x=>by
   unfold I8;rw[ih 7 ah,ih 4 ah,ih 5 ah,ih 6 ah]
  have eU:QA (dL v w n)=QA (dL v' w n):=by
   unfold QA;rw[ih 0 ah,ih 1 ah,ih 2 ah]
  match j,a with
  | 0,_=>show fp (I8 _ _ _+QA _)=fp (I8 _ _ _+QA _);rw[eT,eU]
  | 4,_=>show fp (dL v w n 3+I8 _ _ _)=fp (dL v' w n 3+I8 _ _ _);rw[eT,ih 3 ah]
  | 1,_=>exact ih 0 ah
  | 2,_=>exact ih 1 ah
  | 3,_=>exact ih 2 ah
  | 5,_=>exact ih 4 ah
  | 6,_=>exact ih 5 ah
  | 7,_=>exact ih 6 ah
def Iq (h:∀ j,j<8->v j=v' j) (m:List Int):∀ j,j<8->pN v m j=pN v' m j:=fun j a=>by
 unfold pN;rw[h j a,uK h _ _ j a]
def VH (h:wH b l T=wH b l' T):l=l':=by
 have e:=congrFun h b;unfold wH at e;rw[Hl.aU,Hl.aU]at e;simp only[aaF,Obj.cells.injEq,aa5,abh,aaP]at e;unfold Js at e;exact(List.map_inj_right fun a b h=>by simpa using h).1 e
def ve (R:Hl) (g:Nat):Prop:=∀ j,j<64->R.cell g j=some (.int .u32 (D5.getD j 0))
def Ro:Sx.Spec where
 fn:=197
 own:=[.arg 0]
 rd:=[1,2000005]
 res:=[]
 pre:=fun xs Hs Rs=>∃ (a:Nat) (v:Wd) (x y:Int) (c:Nat) (bs:List Int) (R RG:Hl),xs=[.pointer (some ⟨a,0,none⟩),.slice (az x y) 64 c]/\Hs=[wH a (s8 v) 285]/\Rs=[R,RG]/\(∀ j,j<8->okW (v j))/\fL R (.slice (az x y) 64 c) bs/\bs.length=64/\64<=c/\aq bs/\0<=y/\ -1<=x/\ve RG 5
 post:=fun xs Hs Rs w Hs' F=>∀ (a:Nat) (u:Value) (v:Wd) (bs:List Int) (R RG:Hl),xs=[.pointer (some ⟨a,0,none⟩),u]->Hs=[wH a (s8 v) 285]->Rs=[R,RG]->fL R u bs->Hs'=[wH a (s8 (pN v bs)) 285]
def S5:Nd:=(fun f o n d k p q=>(fun a b c=>(fun g h i j l m=>(.and (.pre d) (.ext d (.ext (.alloc 84) (.ext (.alloc 85) (.ext (.Nh 86 (.bj 84 (ar 20 (List.replicate 64 (Ck.int .u32))) 172)) (.and (.inv 0 (([⟨110,0,.int .i64 (.lit 0)⟩]:List As)++(S4 87 (ar 120 k) (ar 10 k))) [(111,some 86)]) (.havoc 0 0 87 (.and (.imp (.lt f (.lit 64)) (.and (.pre l) (.ext l (.and (.pre g) (.ext g (.and (.pre h) (.ext h (.and (.e (.le (.lit 0) f)) (.and (.e (.his 6 (.lit 5) f 0 (.int .u32))) (.and (.e (.le (.lit 0) (.var 84))) (.and (.e (.his 111 (.var 84) f 0 (.int .u32))) (.and (.pre m) (.ext m (.and (.pre i) (.ext i (.and (.pre j) (.ext j (.back 0 0 (([⟨110,0,.int .i64 (.wrap .i64 (.add f (.lit 1)))⟩]:List As)++(S4 87 (ar 120 k) [.int .u32 (.wrap .u32 (.add a (.wrap .u32 (.add (.bits .xor .u32 (.bits .xor .u32 (.var 203) (.var 204)) (.var 205)) (.bits .xor .u32 (.bits .xor .u32 (.bits .and .u32 n p) (.bits .and .u32 n q)) (.bits .and .u32 p q)))))),.int .u32 n,.int .u32 p,.int .u32 q,.int .u32 (.wrap .u32 (.add (.var 123) a)),.int .u32 o,.int .u32 (.var 125),.int .u32 (.var 126)])) [(111,some 111)])))))))))))))))))) (.imp (.not (.lt f (.lit 64))) (.post [.bj 0 [.int .u32 (.wrap .u32 (.add (.var 10) n)),.int .u32 (.wrap .u32 (.add (.var 11) p)),.int .u32 (.wrap .u32 (.add (.var 12) q)),.int .u32 (.wrap .u32 (.add (.var 13) (.var 123))),.int .u32 (.wrap .u32 (.add (.var 14) o)),.int .u32 (.wrap .u32 (.add (.var 15) (.var 125))),.int .u32 (.wrap .u32 (.add (.var 16) (.var 126))),.int .u32 (.wrap .u32 (.add (.var 17) (.var 127)))] 285,.ro 5 [.var 1] true,.ro 6 [.lit 5] false,.hp 111 [] [.var 84] [],.dead] (.tup [])))))))))):Nd)) (.call 0 201 [.sv b,.sv (.one (.int .i64 (.lit (-11))))] [] []) (.call 0 202 [.sv b,.sv (.one (.int .i64 (.lit (-25))))] [] []) (.call 0 204 [.sv c,.sv (.one (.int .i64 (.lit (-13))))] [] []) (.call 0 205 [.sv c,.sv (.one (.int .i64 (.lit (-22))))] [] []) (.call 0 200 [.sv b,.sv (.one (.int .i64 (.lit (-6))))] [] []) (.call 0 203 [.sv c,.sv (.one (.int .i64 (.lit (-2))))] [] [])) (.wrap .u32 (.add (.wrap .u32 (.add (.wrap .u32 (.add (.wrap .u32 (.add (.var 127) (.bits .xor .u32 (.bits .xor .u32 (.var 200) (.var 201)) (.var 202)))) (.bits .xor .u32 (.bits .and .u32 o (.var 125)) (.bits .and .u32 (.bits .xor .u32 (.lit 4294967295) o) (.var 126))))) (.hI 6 (.lit 5) f 0))) (.hI 111 (.var 84) f 0))) (.one (.int .u32 o)) (.one (.int .u32 n))) (.var 110) (.var 124) (.var 120) (.call 1 20 [.sv (.one (.sl (.var 1) (.var 2) (.var 3) (.var 4)))] [] [.ro 5 [.var 1] true]) (List.replicate 8 (Ck.int .u32)) (.var 121) (.var 122)
def Yg:List Sx.Spec:=[PL,yo]
def UI:∀ t∈Yg,t.OK Tryz.prog:=av KG <| av Jd <| bW
def OR:aG Tryz.prog Yg Ro.fn where
 Λ:=fun p=>if Ng p [197,1,1,0,1,0]then some ⟨0,[(17,TI .i64 (.var 110))],[(3,.hp 111 [] [.var 84] []),(4,.bj 85 (ar 120 (List.replicate 8 wz)) 285)],200⟩else none
 args:=[TP (.var 0) (.lit 0),.sv (.one (.sl (.var 1) (.var 2) (.var 3) (.var 4)))]
 mem:=[.bj 0 (ar 10 (List.replicate 8 wz)) 285,.ro 5 [.var 1] true,.ro 6 [.lit 5] false]
 nv:=20
def Zt:yo.res=[.agg (List.replicate 64 wz)]:=rfl
def Ju (q:Env) (n:Nat) (v:Wd):Prop:=∀ j,j<8->q.i (n+j)=v j
def MT (h:Ju q n v):(ar n (List.replicate 8 wz)).map (CV.ev q)=Js (s8 v):=by
 show [Value.int .u32 (q.i n),Value.int .u32 (q.i (n+1)),Value.int .u32 (q.i (n+1+1)),Value.int .u32 (q.i (n+1+1+1)),Value.int .u32 (q.i (n+1+1+1+1)),Value.int .u32 (q.i (n+1+1+1+1+1)),Value.int .u32 (q.i (n+1+1+1+1+1+1)),Value.int .u32 (q.i (n+1+1+1+1+1+1+1))]=[Value.int .u32 (v 0),Value.int .u32 (v 1),Value.int .u32 (v 2),Value.int .u32 (v 3),Value.int .u32 (v 4),Value.int .u32 (v 5),Value.int .u32 (v 6),Value.int .u32 (v 7)];rw[show q.i n=v 0 from h 0 ah,show q.i (n+1)=v 1 from h 1 ah,show q.i (n+1+1)=v 2 from h 2 ah,show q.i (n+1+1+1)=v 3 from h 3 ah,show q.i (n+1+1+1+1)=v 4 from h 4 ah,show q.i (n+1+1+1+1+1)=v 5 from h 5 ah,show q.i (n+1+1+1+1+1+1)=v 6 from h 6 ah,show q.i (n+1+1+1+1+1+1+1)=v 7 from h 7 ah]
def Ju.mono (h:Ju q n v) (g:ai m q q') (hm:n+8<=m):Ju q' n v:=fun j a=>by rw[g.i _ ah];exact h j a
def Rp:Ro.OK Tryz.prog:=by
 refine Spec.aV (Γ:=Yg) UI ?_;rintro xs Hs Rs ak al ⟨a,v,x,y,c,bs,R,RG,rfl,rfl,rfl,hv,Y,hlen,hc,hb,hy,hx,hK⟩;refine⟨OR,aL [a,x,y,64,c,0,0,0,0,0,v 0,v 1,v 2,v 3,v 4,v 5,v 6,v 7] false [Hl.none,Hl.none,Hl.none,Hl.none,Hl.none,R,RG],
  fun _ q=>∃ k:Nat,q.i 110=k/\k<=64/\Ju q 120 (dL v (aR bs 64) k)/\q.h 111=wH (q.i 84).toNat (aR bs 64) 172,
  fun _ q=>(64-q.i 110).toNat,?_,⟨?_,?_,?_,?_⟩,(fun _ h=>nomatch h),?_⟩
 .show [Value.pointer (az (a:Int) 0),Value.slice (az x y) (Int.toNat 64) ((c:Int)).toNat]=_;rw[aar,gT];rfl
 .intro r hr ho;simp [OR]at hr;rcases hr with rfl | rfl | rfl
  .exact⟨wH a (s8 v) _,aaJ.2 rfl,Hl.le_refl (wH a (s8 v) 285)⟩
  .cases ho
  .cases ho
 .intro r hr ho;simp [OR]at hr;rcases hr with rfl | rfl | rfl
  .cases ho
  .exact⟨R,aF,Hl.le_refl _⟩
  .exact⟨RG,aF,Hl.le_refl _⟩
 .simp [OR,bL.own]
 .intro r hr;simp [OR]at hr;rcases hr with rfl | rfl | rfl
  .show(0:Int)<=a;omega
  .trivial
  .trivial
 .refine aG.lit (x:=S5) ?_;generalize D:aL [a,x,y,64,c,0,0,0,0,0,v 0,v 1,v 2,v 3,v 4,v 5,v 6,v 7] false [Hl.none,Hl.none,Hl.none,Hl.none,Hl.none,R,RG]=J;have V:∀ q:Env,ai 20 J q->q.i 0=a/\q.i 1=x/\q.i 2=y/\q.i 3=64/\q.i 4=c/\q.h 5=R/\q.h 6=RG/\Ju q 10 v:=fun q f=>by
   rw[f.i 0,f.i 1,f.i 2,f.i 3,f.i 4,f.h 5,f.h 6];have h8:Ju J 10 v:=fun j H=>by
    rw[<-D]
    match j with
    | 0=>rfl
    | 1=>rfl
    | 2=>rfl
    | 3=>rfl
    | 4=>rfl
    | 5=>rfl
    | 6=>rfl
    | 7=>rfl
   refine⟨?_,?_,?_,?_,?_,?_,?_,h8.mono f ah⟩<;>rw[<-D]<;>rfl
  clear D;unfold S5;simp only[go_sem,Nat.reduceAdd,Yg,XA,Zt];obtain⟨v0,v1,v2,v3,v4,w5,w6,h8⟩:=V J (ai.refl _ _);rw[v1,v2,v3,v4,w5,aar];refine⟨⟨x,y,c,bs,R,rfl,rfl,Y,hlen,hc,hb,hy,hx⟩,fun q1 g1 ⟨_,p1,_,_⟩ q2 g2 E Z g3 _ L g4 aa=>?_⟩;have p1:=p1 _ bs R rfl rfl Y;simp only[Value.agg.injEq,aa5,abh]at p1;have G4:ai 20 J L:=g1.trans (g2.mono.trans (g3.mono.tr g4));have A3:ai 84 q1 Z:=g2.tr g3;obtain⟨S,hS⟩:∃ S,S=aR bs 64:=⟨_,rfl⟩;rw[<-hS]at p1 ⊢;have ab:L.h 86=wH (L.i 84).toNat S 172:=by
   rw[aa,g4.i 84];unfold wH;rw[<-p1];have ag:(ar 20 (List.replicate 64 wz)).map (CV.ev Z)=(ar 20 (List.replicate 64 wz)).map (CV.ev q1):=by
    have h:Value.agg ((ar 20 (List.replicate 64 wz)).map (CV.ev Z)).toArray=Value.agg ((ar 20 (List.replicate 64 wz)).map (CV.ev q1)).toArray:=gn (n:=20) (ks:=List.replicate 64 wz) A3 aA;rw[Value.agg.injEq]at h;exact aa1 Array.toList h
   rw[<-ag]
  obtain⟨_,_,_,_,_,_,_,F⟩:=V L G4;have E:0<=L.i 84:=by rw[g4.i 84,g3.i 84];exact E
  refine⟨⟨0,rfl,ah,fun j H=>?_,ab⟩,fun d g5 ⟨k,g,hk,z,B⟩=>?_⟩
  .show _=v j;rw[<-F j H]
   match j,H with
   | 0,_=>rfl
   | 1,_=>rfl
   | 2,_=>rfl
   | 3,_=>rfl
   | 4,_=>rfl
   | 5,_=>rfl
   | 6,_=>rfl
   | 7,_=>rfl
  have G5:ai 20 J d:=G4.tr g5;have aj:0<=d.i 84:=by rw[g5.i 84];exact E
  obtain⟨r,hr⟩:∃ r,r=dL v S k:=⟨_,rfl⟩;rw[<-hr]at z;have s:∀ j,j<8->okW (r j):=by rw[hr];exact th hv S k
  refine⟨fun an=>?_,fun ao=>?_⟩
  .have C:k<64:=ah;have r4:∀ {q:Env},ai 200 d q->q.i 124=r 4:=fun f=>(z.mono f ah) 4 ah;have r0:∀ {q:Env},ai 200 d q->q.i 120=r 0:=fun f=>(z.mono f ah) 0 ah;rw[r4 (ai.refl _ _)];refine⟨km (s 4 ah) aA,fun q6 g6 ⟨_,p6,_,_⟩=>?_⟩;rw[r4 g6];refine⟨km (s 4 ah) aA,fun q7 g7 ⟨_,p7,_,_⟩=>?_⟩;have G7:ai 200 d q7:=g6.tr g7;rw[r4 G7];refine⟨km (s 4 ah) aA,fun M g8 ⟨_,p8,_,_⟩=>?_⟩;have I:ai 200 d M:=G7.tr g8;have cK:∀ {q:Env},ai 200 d q->(q.h 6).cell 5 (q.i 110).toNat=some (.int .u32 (D5.getD k 0)):=fun {q} f=>by
    rw[f.i 110,f.h 6,(V d G5).2.2.2.2.2.2.1,g,aar];exact hK k C
   have cS:∀ {q:Env},ai 200 d q->(q.h 111).cell (q.i 84).toNat (q.i 110).toNat=some (.int .u32 (S.getD k 0)):=fun {q} f=>by
    rw[f.i 110,f.i 84,f.h 111,B,g,aar];refine CG ?_;rw[aaD,aax (by rw[hS,dY];exact C)];rfl
   have e8:M.i 110=k:=by rw[I.i 110,g]
   have aq:M.i 84=d.i 84:=I.i 84;have G:=cK I;have G:(M.h 6).cell (Int.toNat 5) (M.i 110).toNat=some (.int .u32 (D5.getD k 0)):=G;rw[G,cS I,r0 I];refine⟨ah,rfl,ah,rfl,km (s 0 ah) aA,fun q9 X ⟨_,p9,_,_⟩=>?_⟩;have G9:ai 200 d q9:=I.tr X;rw[r0 G9];refine⟨km (s 0 ah) aA,fun ad A ⟨_,ae,_,_⟩=>?_⟩;have N:ai 200 d ad:=G9.tr A;rw[r0 N];refine⟨km (s 0 ah) aA,fun b t ⟨_,af,_,_⟩=>?_⟩;have w:ai 200 d b:=N.tr t;have K:∀ {q:Env} {n m:Nat} {x:Int},Xq [Value.int .u32 x,.int .i64 (-(m:Int))]=Value.int .u32 (q.i n)->q.i n=bS m x:=fun {q n m x} h=>by
    have h:Value.int .u32 (bS (-(-(m:Int))).toNat x)=Value.int .u32 (q.i n):=h;rw[show(-(-(m:Int))).toNat=m by omega]at h;simpa using h.symm
   have O:b.i 200=bS 6 (r 4):=by rw[t.i 200,A.i 200,X.i 200,g8.i 200,g7.i 200];exact K (m:=6) p6.symm
   have P:b.i 201=bS 11 (r 4):=by rw[t.i 201,A.i 201,X.i 201,g8.i 201];exact K (m:=11) p7.symm
   have Q:b.i 202=bS 25 (r 4):=by rw[t.i 202,A.i 202,X.i 202];exact K (m:=25) p8.symm
   have T:b.i 203=bS 2 (r 0):=by rw[t.i 203,A.i 203];exact K (m:=2) p9.symm
   have U:b.i 204=bS 13 (r 0):=by rw[t.i 204];exact K (m:=13) ae.symm
   have W:b.i 205=bS 22 (r 0):=K (m:=22) af.symm;have e:Ju b 120 r:=z.mono w ah;have eT:fp (fp (fp (fp (b.i 127+lN (b.i 200) (b.i 201) (b.i 202))+cQ .xor .u32 (jq (b.i 124) (b.i 125)) (jq (cQ .xor .u32 4294967295 (b.i 124)) (b.i 126)))+cf ((b.h 6).cell 5 (b.i 110).toNat))+cf ((b.h 111).cell (b.i 84).toNat (b.i 110).toNat))=I8 r (D5.getD k 0) (S.getD k 0):=by
    rw[cK w,cS w,O,P,Q,show b.i 127=r 7 from e 7 ah,show b.i 124=r 4 from e 4 ah,show b.i 125=r 5 from e 5 ah,show b.i 126=r 6 from e 6 ah,xor_not (s 4 ah)];rfl
   have eU:fp (lN (b.i 203) (b.i 204) (b.i 205)+cQ .xor .u32 (cQ .xor .u32 (jq (b.i 120) (b.i 121)) (jq (b.i 120) (b.i 122))) (jq (b.i 121) (b.i 122)))=QA r:=by
    rw[T,U,W,show b.i 120=r 0 from e 0 ah,show b.i 121=r 1 from e 1 ah,show b.i 122=r 2 from e 2 ah];rfl
   have ew:IntKind.i64.wrap (b.i 110+1)=((k+1:Nat):Int):=by rw[w.i 110,g,wrap_i64 ah ah];rfl
   refine⟨⟨k+1,ew,ah,fun j H=>?_,?_⟩,?_⟩
   .show _=uO (dL v S k) (D5.getD k 0) (S.getD k 0) j;rw[<-hr]
    match j,H with
    | 0,_ =>
     show fp (fp (fp (fp (fp (b.i 127+lN (b.i 200) (b.i 201) (b.i 202))+cQ .xor .u32 (jq (b.i 124) (b.i 125)) (jq (cQ .xor .u32 4294967295 (b.i 124)) (b.i 126)))+cf ((b.h 6).cell 5 (b.i 110).toNat))+cf ((b.h 111).cell (b.i 84).toNat (b.i 110).toNat))+fp (lN (b.i 203) (b.i 204) (b.i 205)+cQ .xor .u32 (cQ .xor .u32 (jq (b.i 120) (b.i 121)) (jq (b.i 120) (b.i 122))) (jq (b.i 121) (b.i 122))))=fp (I8 r _ _+QA r);rw[eT,eU]
    | 4,_ =>
     show fp (b.i 123+fp (fp (fp (fp (b.i 127+lN (b.i 200) (b.i 201) (b.i 202))+cQ .xor .u32 (jq (b.i 124) (b.i 125)) (jq (cQ .xor .u32 4294967295 (b.i 124)) (b.i 126)))+cf ((b.h 6).cell 5 (b.i 110).toNat))+cf ((b.h 111).cell (b.i 84).toNat (b.i 110).toNat)))=fp (r 3+I8 r _ _);rw[eT,show b.i 123=r 3 from e 3 ah]
    | 1,_=>exact e 0 ah
    | 2,_=>exact e 1 ah
    | 3,_=>exact e 2 ah
    | 5,_=>exact e 4 ah
    | 6,_=>exact e 5 ah
    | 7,_=>exact e 6 ah
   .show b.h 111=wH (b.i 84).toNat S _;rw[w.h 111,B,w.i 84]
   .show(64-IntKind.i64.wrap (b.i 110+1)).toNat<(64-d.i 110).toNat;rw[ew,g];omega
  .have ek:k=64:=ah;subst ek;obtain⟨v0,_,_,_,_,_,_,F⟩:=V d G5;refine fun _=>⟨[[0]],[],rfl,rfl,⟨(bf fun _=>0),rfl,zzT⟩,fun a' u v' bs' R' au e1 e2 e3 h'=>?_⟩;simp only[aaC,Value.pointer.injEq,aaF,Addr.mk.injEq,aaP]at e1 e2 e3;obtain⟨rfl,rfl⟩:=e1;obtain⟨rfl,rfl⟩:=e3;obtain rfl:=h'.uniq Y;have ev:=Vs (VH e2);rw[<-PY (Iq ev bs')];have l:∀ j,j<8->pN v bs' j=fp (v j+r j):=fun j H=>by unfold pN;rw[<-hS,<-hr]
   have e8:[Value.int .u32 (fp (d.i 10+d.i 120)),Value.int .u32 (fp (d.i 11+d.i 121)),Value.int .u32 (fp (d.i 12+d.i 122)),Value.int .u32 (fp (d.i 13+d.i 123)),Value.int .u32 (fp (d.i 14+d.i 124)),Value.int .u32 (fp (d.i 15+d.i 125)),Value.int .u32 (fp (d.i 16+d.i 126)),Value.int .u32 (fp (d.i 17+d.i 127))]=Js (s8 (pN v bs')):=by
    show _=[Value.int .u32 (pN v bs' 0),Value.int .u32 (pN v bs' 1),Value.int .u32 (pN v bs' 2),Value.int .u32 (pN v bs' 3),Value.int .u32 (pN v bs' 4),Value.int .u32 (pN v bs' 5),Value.int .u32 (pN v bs' 6),Value.int .u32 (pN v bs' 7)];have o:∀ j,j<8->d.i (10+j)=v j:=F;have p:∀ j,j<8->d.i (120+j)=r j:=z;rw[show d.i 10=v 0 from o 0 ah,show d.i 120=r 0 from p 0 ah,show d.i 11=v 1 from o 1 ah,show d.i 121=r 1 from p 1 ah,show d.i 12=v 2 from o 2 ah,show d.i 122=r 2 from p 2 ah,show d.i 13=v 3 from o 3 ah,show d.i 123=r 3 from p 3 ah,show d.i 14=v 4 from o 4 ah,show d.i 124=r 4 from p 4 ah,show d.i 15=v 5 from o 5 ah,show d.i 125=r 5 from p 5 ah,show d.i 16=v 6 from o 6 ah,show d.i 126=r 6 from p 6 ah,show d.i 17=v 7 from o 7 ah,show d.i 127=r 7 from p 7 ah];rw[l 0 ah,l 1 ah,l 2 ah,l 3 ah,l 4 ah,l 5 ah,l 6 ah,l 7 ah]
   refine aa1 (fun x=>[x]) ((Hl.ng _).trans ?_);show Hl.one (d.i 0).toNat (.cells [Value.int .u32 (fp (d.i 10+d.i 120)),Value.int .u32 (fp (d.i 11+d.i 121)),Value.int .u32 (fp (d.i 12+d.i 122)),Value.int .u32 (fp (d.i 13+d.i 123)),Value.int .u32 (fp (d.i 14+d.i 124)),Value.int .u32 (fp (d.i 15+d.i 125)),Value.int .u32 (fp (d.i 16+d.i 126)),Value.int .u32 (fp (d.i 17+d.i 127))].toArray _ (0,0))=_;rw[e8,v0,aar];rfl
def Pa {v:Value} (h:bZ F e v bs) (hl:L=bs.length) (hr:∀ xs,aP F e 1 v L xs->aP F' e 1 (.slice (az x' 0) (L+1) c'.toNat) (L+1) (xs++[Value.int .u8 z])):bZ F' e (.slice (az x' 0) (L+1) c'.toNat) (bs++[z]):=by
 unfold bZ at h ⊢;subst hl;have:=hr _ h;rw[aay,aaW];unfold aM at this ⊢;rw[aba];exact this
def Ob (q:Env) (h a c:Nat) (L:Int) (bs:List Int):Prop:=bZ (q.h h) 5 (.slice (az (q.i a) 0) L.toNat (q.i c).toNat) bs/\L=bs.length/\ -1<=q.i a/\0<=q.i c
section
variable {q q':Env} {h a c n:Nat} {L L':Int} {bs:List Int}
def Ob.mono (o:Ob q h a c L bs) (g:ai n q q') (h1:h<n) (h2:a<n) (b:c<n):Ob q' h a c L bs:=by
 unfold Ob;rw[g.h h h1,g.i a h2,g.i c b];exact o
def Ob.cast (o:Ob q h a c L bs) (e:L=L'):Ob q h a c L' bs:=e▸o
def Ob.pre (o:Ob q h a c L bs) (hl:bs.length<=2000000):(∃ xs,aP (q.h h) 5 1 (.slice (az (q.i a) 0) L.toNat (q.i c).toNat) L.toNat xs)/\0<=L/\L.toNat+1<=maxLen/\L.toNat+1<=140737488355328:=by
 obtain⟨b,d,_,_⟩:=o;have e:L.toNat=bs.length:=ah;refine⟨⟨aM bs,?_⟩,ah,by unfold maxLen;omega,ah⟩;unfold bZ at b;rw[e]at b ⊢;exact b
def Ob.app (o:Ob q h a c L bs) (r:-1<=q'.i n/\0<=q'.i (n+1)/\(∀ xs,aP (q.h h) 5 1 (.slice (az (q.i a) 0) L.toNat (q.i c).toNat) L.toNat xs->aP (q'.h n) 5 1 (.slice (az (q'.i n) 0) (L.toNat+1) (q'.i (n+1)).toNat) (L.toNat+1) (xs++[Value.int .u8 z]))) (e:L'=L+1):Ob q' n n (n+1) L' (bs++[z]):=by
 subst e;obtain⟨r1,r2,b⟩:=r;obtain⟨d,f,_,_⟩:=o;have hs:=Pa d ah b;refine⟨?_,by rw[aay,aaW];omega,r1,r2⟩;rw[show(L+1).toNat=L.toNat+1 by omega];exact hs
end
def Uk (n:Nat):(aK n [Cp.one .sl]≠[])=True:=by simp [aK,Cp.roots,Ck.root]
def Fe {u v:Value} {K:List Hl} (h:fL R u bs) (hp:gG.post [u] [] [R] v K F):bZ F 5 v bs:=by
 obtain⟨b,bs',R',e1,a,h',ho⟩:=hp;simp only[aaC,aaP]at e1 a;subst e1 a;rw[h.uniq h'];exact ho
def CQ (hn:n<18446744073709551616) (hs:s=(k:Int)) (hk:k<=63) (hx:x=(n:Int)):IntKind.u8.wrap (x.fdiv (2 ^ (min s.toNat IntKind.u64.bits)))=((n/2 ^ k%256:Nat):Int):=by
 subst hs hx;have e:min ((k:Nat):Int).toNat IntKind.u64.bits=k:=by show min _ 64=_;omega
 have a:((2:Int) ^ k)=((2 ^ k:Nat):Int):=by push_cast;rfl
 rw[e,a,abX _ (acr _)];exact Tq _
def wq (hw:IntKind.u64.wrap (8*IntKind.u64.wrap (q.i 2))=(n:Int)) (hn:n<18446744073709551616) (hs:s=(k:Int)) (hk:k<=63):IntKind.u8.wrap (aB q (E.shr .u64 (E.wrap .u64 ((E.lit 8).mul (E.wrap .u64 (E.var 2)))) (E.lit s)))=((n/2 ^ k%256:Nat):Int):=CQ hn hs hk hw
def FY:Sx.Spec where
 fn:=195
 own:=[]
 rd:=[0]
 res:=[.one .sl]
 pre:=fun xs Hs Rs=>∃ u bs R,xs=[u]/\Rs=[R]/\fL R u bs/\bs.length<=1000000
 post:=fun xs Hs Rs v Hs' F=>∃ u bs R,xs=[u]/\Rs=[R]/\fL R u bs/\bZ F 5 v (gS bs)
def Xe:List Sx.Spec:=[gG]
def UR:∀ t∈Xe,t.OK Tryz.prog:=fun t a=>by
 simp only[Xe,aaN,aaX,abC]at a;subst a;exact mc
def FZ:aG Tryz.prog Xe FY.fn where
 Λ:=fun p=>if Ng p [195,1,1,0,0]then some ⟨0,[(3,.sv (.one (.sl (.var 50) (.lit 0) (.var 51) (.var 52))))],[(1,.hp 53 [] [.var 50] [])],60⟩else none
 args:=[.sv (.one (.sl (.var 0) (.var 1) (.var 2) (.var 3)))]
 mem:=[.ro 4 [.var 0] true]
 nv:=5
def ZB:gG.res=[.one .sl]:=rfl
def Pd:FY.OK Tryz.prog:=by
 refine Spec.aV (Γ:=Xe) UR ?_;rintro xs Hs Rs au aT ⟨u,bs,R,rfl,rfl,hR,hlen⟩;have e0:Hs=[]:=aaz.1 au;subst e0;obtain⟨x,y,c,rfl,hy,_⟩:=id hR;refine⟨FZ,aL [x,y,bs.length,c] false [Hl.none,Hl.none,Hl.none,Hl.none,R],
  fun _ q=>∃ m:Nat,m<=(119-bs.length%64)%64/\q.i 51=bs.length+1+m/\ -1<=q.i 50/\0<=q.i 52/\bZ (q.h 53) 5 (.slice (az (q.i 50) 0) (q.i 51).toNat (q.i 52).toNat) (bs++[128]++List.replicate m 0),
  fun _ q=>((bs.length:Int)+100-q.i 51).toNat,?_,⟨?_,?_,?_,?_⟩,(fun _ h=>nomatch h),?_⟩
 .show [Value.slice (az x y) ((bs.length:Int)).toNat ((c:Int)).toNat]=_;simp only[aar]
 .intro r hr ho;simp [FZ]at hr;subst hr;cases ho
 .intro r hr ho;simp [FZ]at hr;subst hr;exact⟨R,aF,Hl.le_refl _⟩
 .simp [FZ]
 .intro r hr;simp [FZ]at hr;subst hr;trivial
 .refine aG.read [] [] [] ?_;generalize U:aL [x,y,bs.length,c] false [Hl.none,Hl.none,Hl.none,Hl.none,R]=J;have V:∀ q:Env,ai 5 J q->q.i 0=x/\q.i 1=y/\q.i 2=bs.length/\q.i 3=c/\q.h 4=R:=fun q A=>by
   rw[A.i 0,A.i 1,A.i 2,A.i 3,A.h 4,<-U];exact⟨rfl,rfl,rfl,rfl,rfl⟩
  clear U;simp only[go_sem,Nat.reduceAdd,Xe,ZB,Uk];obtain⟨v0,v1,v2,v3,w4⟩:=V J (ai.refl _ _);rw[v0,v1,v2,v3,w4,aar,aar];refine⟨⟨_,bs,R,rfl,rfl,hR,hlen⟩,fun q1 g1 ⟨F,p1,hF,l⟩ q2 S _=>?_⟩;have W:=Fe hR p1;rw[<-hF zzT]at W;have l:-1<=q1.i 5/\0<=q1.i 6/\0<=q1.i 7/\0<=q1.i 8:=l.1;have av:=bZ.shape W;have X:q1.i 7=bs.length:=by
   obtain⟨_,hc⟩:=W;rcases hc with ⟨e,e0⟩ | ⟨g,cap,cur,e,_⟩
   .simp only[Value.slice.injEq]at e;omega
   .simp only[Value.slice.injEq]at e;omega
  have Y:az (q1.i 5) (q1.i 6)=az (q1.i 5) 0:=by
   rcases av with (h | ⟨h1,h2⟩) | h
   .rw[h];rfl
   .rw[show q1.i 6=0 by omega]
   .omega
  rw[Y]at W;have b2:Ob q2 5 5 8 (q2.i 7) bs:=by
   have o:Ob q1 5 5 8 (q1.i 7) bs:=⟨W,X,l.1,l.2.2.2⟩;have:=o.mono S ah ah ah;rw[S.i 7];exact this
  have e6:az (q2.i 5) (q2.i 6)=az (q2.i 5) 0:=by rw[S.i 5,S.i 6];exact Y
  rw[e6];refine⟨b2.pre ah,fun q3 g3 ⟨r1,r2,a,_⟩=>?_⟩;have b3:=b2.app ⟨r1,r2,a⟩ rfl;have Z:q3.i 7=bs.length:=by rw[g3.i 7,S.i 7,X]
  rw[show q2.i 7=q3.i 7 from (g3.i 7).symm]at b3;obtain⟨aw,aU,ax,ay⟩:=b3;refine⟨⟨0,ah,?_,ax,ay,?_⟩,fun j g4 ⟨m,hm,e51,aA,aB,hO⟩=>?_⟩
  .show q3.i 7+1=_;rw[Z];omega
  .rw[adT,abA];exact aw
  have G4:ai 5 J j:=g1.trans (S.mono.trans (g3.mono.tr g4));have B:(bs++[128]++List.replicate m 0).length=bs.length+1+m:=by rw[aay,aay,aby];rfl
  have b4:Ob j 53 50 52 (j.i 51) (bs++[128]++List.replicate m 0):=⟨hO,by rw[B,e51];omega,aA,aB⟩;have tm:(j.i 51).tmod 64=((bs.length+1+m)%64:Nat):=by rw[e51,abm ah];omega
  refine⟨ah,fun C=>?_,fun heq=>?_⟩
  .have C:(j.i 51).tmod 64≠56:=C;rw[tm]at C;intro d D _;have b5:=b4.mono D ah ah ah;rw[show j.i 51=d.i 51 from (D.i 51).symm]at b5;refine⟨b5.pre (by rw[B];omega),fun T g6 ⟨r1,r2,a,_⟩=>?_⟩;have b6:=b5.app ⟨r1,r2,a⟩ rfl;obtain⟨aa,aW,aC,aD⟩:=b6;have e6:T.i 51=bs.length+1+m:=by rw[g6.i 51,D.i 51,e51]
   rw[show d.i 51=T.i 51 from (g6.i 51).symm]at aa;refine⟨⟨m+1,ah,?_,aC,aD,?_⟩,?_⟩
   .show T.i 51+1=_;rw[e6];omega
   .rw[adN,<-aaV];exact aa
   .show((bs.length:Int)+100-(T.i 51+1)).toNat<((bs.length:Int)+100-j.i 51).toNat;rw[e6,e51];omega
  .have heq:(j.i 51).tmod 64=56:=heq;rw[tm]at heq;have em:m=(119-bs.length%64)%64:=ah;obtain⟨M,hM⟩:∃ M,M=bs++[128]++List.replicate m 0:=⟨_,rfl⟩;rw[<-hM]at b4 B;have aE:j.i 2=bs.length:=(V j G4).2.2.1;refine⟨by rw[aE];omega,?_⟩;have b:∀ {q:Env},ai 5 J q->IntKind.u64.wrap (8*IntKind.u64.wrap (q.i 2))=((8*bs.length:Nat):Int):=fun {q} A=>by
    rw[(V q A).2.2.1,oH (x:=(bs.length:Int)) ah ah,oH ah ah];omega
   intro d D _;have c0:=b4.mono D ah ah ah;rw[show j.i 51=d.i 51 from (D.i 51).symm]at c0;have G5:ai 5 J d:=G4.tr D;refine⟨c0.pre ah,fun T g6 ⟨r1,r2,a,_⟩=>?_⟩;have G6:ai 5 J T:=G5.tr g6;rw[wq (q:=d) (n:=8*bs.length) (k:=56) (s:=56) (b G5) ah rfl ah]at a;have d0:=c0.app ⟨r1,r2,a⟩ (L':=d.i 51+1) rfl;intro q7 Z _;have J7:q7.i 51=d.i 51:=by rw[Z.i 51,g6.i 51]
   have c1:=(d0.mono Z ah ah ah).cast (L':=q7.i 51+1) (by rw[J7]);have G7:ai 5 J q7:=G6.tr Z;refine⟨c1.pre (by simp only[aay,aaW];omega),fun q8 g8 ⟨r1,r2,a,_⟩=>?_⟩;have G8:ai 5 J q8:=G7.tr g8;rw[wq (q:=q7) (n:=8*bs.length) (k:=48) (s:=48) (b G7) ah rfl ah]at a;have d1:=c1.app ⟨r1,r2,a⟩ (L':=d.i 51+2) (by rw[J7];omega);intro q9 g9 _;have J9:q9.i 51=d.i 51:=by rw[g9.i 51,g8.i 51,J7]
   have c2:=(d1.mono g9 ah ah ah).cast (L':=q9.i 51+2) (by rw[J9]);have G9:ai 5 J q9:=G8.tr g9;refine⟨c2.pre (by simp only[aay,aaW];omega),fun aH ab ⟨r1,r2,a,_⟩=>?_⟩;have aI:ai 5 J aH:=G9.tr ab;rw[wq (q:=q9) (n:=8*bs.length) (k:=40) (s:=40) (b G9) ah rfl ah]at a;have d2:=c2.app ⟨r1,r2,a⟩ (L':=d.i 51+3) (by rw[J9];omega);intro p E _;have G:p.i 51=d.i 51:=by rw[E.i 51,ab.i 51,J9]
   have c3:=(d2.mono E ah ah ah).cast (L':=p.i 51+3) (by rw[G]);have ad:ai 5 J p:=aI.tr E;refine⟨c3.pre (by simp only[aay,aaW];omega),fun aJ ae ⟨r1,r2,a,_⟩=>?_⟩;have aK:ai 5 J aJ:=ad.tr ae;rw[wq (q:=p) (n:=8*bs.length) (k:=32) (s:=32) (b ad) ah rfl ah]at a;have d3:=c3.app ⟨r1,r2,a⟩ (L':=d.i 51+4) (by rw[G];omega);intro t H _;have I:t.i 51=d.i 51:=by rw[H.i 51,ae.i 51,G]
   have c4:=(d3.mono H ah ah ah).cast (L':=t.i 51+4) (by rw[I]);have af:ai 5 J t:=aK.tr H;refine⟨c4.pre (by simp only[aay,aaW];omega),fun aM ag ⟨r1,r2,a,_⟩=>?_⟩;have aO:ai 5 J aM:=af.tr ag;rw[wq (q:=t) (n:=8*bs.length) (k:=24) (s:=24) (b af) ah rfl ah]at a;have d4:=c4.app ⟨r1,r2,a⟩ (L':=d.i 51+5) (by rw[I];omega);intro v K _;have L:v.i 51=d.i 51:=by rw[K.i 51,ag.i 51,I]
   have c5:=(d4.mono K ah ah ah).cast (L':=v.i 51+5) (by rw[L]);have aj:ai 5 J v:=aO.tr K;refine⟨c5.pre (by simp only[aay,aaW];omega),fun aP ak ⟨r1,r2,a,_⟩=>?_⟩;have aQ:ai 5 J aP:=aj.tr ak;rw[wq (q:=v) (n:=8*bs.length) (k:=16) (s:=16) (b aj) ah rfl ah]at a;have d5:=c5.app ⟨r1,r2,a⟩ (L':=d.i 51+6) (by rw[L];omega);intro w N _;have O:w.i 51=d.i 51:=by rw[N.i 51,ak.i 51,L]
   have c6:=(d5.mono N ah ah ah).cast (L':=w.i 51+6) (by rw[O]);have al:ai 5 J w:=aQ.tr N;refine⟨c6.pre (by simp only[aay,aaW];omega),fun aR an ⟨r1,r2,a,_⟩=>?_⟩;have aS:ai 5 J aR:=al.tr an;rw[wq (q:=w) (n:=8*bs.length) (k:=8) (s:=8) (b al) ah rfl ah]at a;have d6:=c6.app ⟨r1,r2,a⟩ (L':=d.i 51+7) (by rw[O];omega);intro z P _;have Q:z.i 51=d.i 51:=by rw[P.i 51,an.i 51,O]
   have c7:=(d6.mono P ah ah ah).cast (L':=z.i 51+7) (by rw[Q]);have ao:ai 5 J z:=aS.tr P;refine⟨c7.pre (by simp only[aay,aaW];omega),fun f aq ⟨r1,r2,a,_⟩=>?_⟩;have aX:ai 5 J f:=ao.tr aq;rw[wq (q:=z) (n:=8*bs.length) (k:=0) (s:=0) (b ao) ah rfl ah]at a;have d7:=c7.app ⟨r1,r2,a⟩ (L':=d.i 51+8) (by rw[Q];omega);have hp:M++[((8*bs.length/2 ^ 56%256:Nat):Int)]++[((8*bs.length/2 ^ 48%256:Nat):Int)]++[((8*bs.length/2 ^ 40%256:Nat):Int)]++[((8*bs.length/2 ^ 32%256:Nat):Int)]++[((8*bs.length/2 ^ 24%256:Nat):Int)]++[((8*bs.length/2 ^ 16%256:Nat):Int)]++[((8*bs.length/2 ^ 8%256:Nat):Int)]++[((8*bs.length/2 ^ 0%256:Nat):Int)]=gS bs:=by
    unfold gS;rw[<-em,<-hM];simp only[aaV];rfl
   obtain⟨d1,d2,d3,d4⟩:=d7;rw[hp]at d1 d2;have ar:f.i 51=d.i 51:=by rw[aq.i 51,Q]
   refine fun _=>⟨[],[1],rfl,rfl,⟨(bf fun k=>[f.i 82,0,f.i 51+8,f.i 83].getD k 0),rfl,⟨d3,aaM _,by show 0<=f.i 51+8;rw[ar];omega,d4⟩,zzT⟩,_,bs,R,rfl,rfl,hR,?_⟩;show bZ (di [f.h 82]) _ (.slice (az (f.i 82) 0) (f.i 51+8).toNat (f.i 83).toNat) (gS bs);rw[aN,ar];exact d1
open Go.Proofs.YtomdimlnggpgbaaGreatDoor.D hiding aL aC fP
variable {q q':Env}{F R RG:Hl}{c x:Int}{Hs K Rs:List Hl}{bs l:List Int}{b j k m n s y:Nat}{T e:TypeId}{u v:Value}
def Sd (h:fL R u bs):bw (some u) 2=bs.length/\((0<=bw (some u) 0/\0<=bw (some u) 1/\0<=bw (some u) 2/\∀ j,j<(bw (some u) 2).toNat->∃ v,R.cell (bw (some u) 0).toNat ((bw (some u) 1).toNat+j)=some v/\v.oneCell'=true)\/bw (some u) 2=0)/\cn R (bw (some u) 0).toNat (bw (some u) 1).toNat (bw (some u) 2).toNat=aM bs/\bz (some u) .slice=true:=by
 obtain⟨x,y,c,rfl,d,h⟩:=h;by_cases hx:0<=x
 .have hs:=tj (R:=R) (x:=x) (y:=y) (l:=(bs.length:Int)) rfl d h;rw[VR ah,Xz hx d,Ss ah];exact⟨rfl,hs.1,hs.2,rfl⟩
 .rcases h with rfl | ⟨h,_⟩
  .have e:bw (some (.slice (az x y) ([]:List Int).length c)) 2=(([]:List Int).length:Nat):=by
    cases az x y with
    | none=>rfl
    | some a=>obtain⟨b,o,s⟩:=a;cases s<;>rfl
   rw[e];exact⟨rfl,Or.inr rfl,rfl,rfl⟩
  .omega
def fz {α:Type} {a b:α} {l m:List α} (h:a=b) (h':l=m):a::l=b::m:=by rw[h,h']
def bx (hx:okW x) (hc:(q.h 51).cell (q.i 9).toNat (Int.toNat 0+j)=some (.int .u32 x)) (hs:s<=24):(CV.int .u8 (.wrap .u8 (.shr .u64 (.wrap .u64 (.hI 51 (.var 9) (.lit 0) j)) (.lit (s:Int))))).ev q=Value.int .u8 (x/2 ^ s%256):=by
 show Value.int .u8 (IntKind.u8.wrap ((IntKind.u64.wrap (cf ((q.h 51).cell (q.i 9).toNat (Int.toNat 0+j)))).fdiv (2 ^ (min ((s:Int)).toNat IntKind.u64.bits))))=_;rw[hc];unfold okW at hx;obtain⟨n,rfl⟩:∃ n:Nat,x=n:=⟨x.toNat,ah⟩;rw[show cf (some (Value.int .u32 (n:Int)))=(n:Int)from rfl,oH ah ah,CQ (n:=n) (k:=s) ah rfl ah rfl];have a:((2:Int) ^ s)=((2 ^ s:Nat):Int):=by push_cast;rfl
 rw[a];rfl
def wN:Sx.Spec where
 fn:=176
 own:=[]
 rd:=[0,3000000,2000005]
 res:=[.agg (List.replicate 32 (Ck.int .u8))]
 pre:=fun xs Hs Rs=>∃ (x y:Int) (c:Nat) (R RA RG:Hl) (bs:List Int),xs=[.slice (az x y) 1 c]/\Rs=[R,RA,RG]/\jN R RA (.slice (az x y) 1 c) [bs]/\0<=y/\aq bs/\bs.length<=900000/\ve RG 5
 post:=fun xs Hs Rs v Hs' F=>∀ u R RA RG bs,xs=[u]->Rs=[R,RA,RG]->jN R RA u [bs]->v=.agg (aM (gU bs)).toArray
def X8:List Sx.Spec:=[FY,Ro]
def Ul:∀ t∈X8,t.OK Tryz.prog:=av Pd <| av Rp <| bW
def SR:aG Tryz.prog X8 wN.fn where
 Λ:=fun p=>if Ng p [176,1,1,1,0,1,0]then some ⟨0,[(5,TI .i64 (.var 50))],[(5,.hp 51 [] [.var 9] [])],60⟩else none
 args:=[.sv (.one (.sl (.var 0) (.var 1) (.lit 1) (.var 2)))]
 mem:=[.ro 4 [.var 0] false,.ro 5 [] true,.ro 6 [.lit 5] false]
 nv:=7
def Zb:FY.res=[.one .sl]:=rfl
def Zc:Ro.res=[]:=rfl
def Mm (h:fL R u bs) (hp:FY.post [u] [] [R] v K F):bZ F 5 v (gS bs):=by
 obtain⟨b,bs',R',e1,a,h',ho⟩:=hp;simp only[aaC,aaP]at e1 a;subst e1 a;rw[h.uniq h'];exact ho
def pt:∀ (n:Nat) (bs:List Int),bs.length=n->bo (aM bs) ((List.replicate n (Ck.int .u8)).map kU)
 | 0,[],_=>trivial
 | n+1,z::l,h=>⟨rfl,pt n l (by simpa using h)⟩
def Ah (h:aq bs):aq (gS bs):=fun z a=>by
 unfold gS at a;rcases aa4.1 a with a | a
 .rcases aa4.1 a with a | a
  .rcases aa4.1 a with a | a
   .exact h z a
   .rw[aaJ.1 a];omega
  .rw[(acI.1 a).2];omega
 .unfold TC at a;obtain⟨i,_,rfl⟩:=abb.1 a;omega
def pd (all:List Int) (k:Nat):∀ j,j<8->okW (ot fc all k j):=Rn I5 all k
def RF {y l:Int} (h:bZ F e (.slice (az x y) l.toNat c.toNat) bs) (hl:0<=l) (hc:0<=c):l=bs.length/\l<=c:=by
 obtain⟨_,a⟩:=h;rcases a with ⟨e,b⟩ | ⟨g,cap,cur,e,_,hle,_⟩
 .simp only[Value.slice.injEq]at e;omega
 .simp only[Value.slice.injEq]at e;omega
def Fj:wN.OK Tryz.prog:=by
 refine Spec.aV (Γ:=X8) Ul ?_;rintro xs Hs Rs K ab ⟨x,y,c,R,RA,RG,bs,rfl,rfl,hR,hy,hb,hlen,hK⟩;have e0:Hs=[]:=aaz.1 K;subst e0;refine⟨SR,aL [x,y,c] false [Hl.none,Hl.none,Hl.none,Hl.none,R,RA,RG],
  fun _ q=>∃ k:Nat,q.i 50=((64*k:Nat):Int)/\64*k<=(gS bs).length/\q.h 51=wH (q.i 9).toNat (s8 (ot fc (gS bs) k)) 285,
  fun _ q=>((gS bs).length-q.i 50).toNat,?_,dw (by intro r hr;simp [SR]at hr;rcases hr with rfl | rfl | rfl<;>exact⟨_,_,_,rfl⟩) rfl,(fun _ h=>nomatch h),?_⟩
 .show [Value.slice (az x y) (Int.toNat 1) ((c:Int)).toNat]=_;rw[aar];rfl
 .refine aG.read [] [] [] ?_;generalize p:aL [x,y,c] false [Hl.none,Hl.none,Hl.none,Hl.none,R,RA,RG]=J;have V:∀ q:Env,ai 7 J q->q.i 0=x/\q.i 1=y/\q.h 4=R/\q.h 5=RA/\q.h 6=RG:=fun q t=>by
   rw[t.i 0,t.i 1,t.h 4,t.h 5,t.h 6,<-p];exact⟨rfl,rfl,rfl,rfl,rfl⟩
  clear p;have t1:Int.toNat 1=1:=rfl;obtain⟨_,aE⟩:=hR.at hy;obtain⟨L,u,f,M⟩:=aE 0 bs rfl;simp only[go_sem,Nat.reduceAdd,X8,Zb,Zc,Uk];intro q1 g1 _ q2 g2 _ q3 g3 p9;have G3:ai 7 J q3:=g1.trans (g2.mono.tr g3);obtain⟨v0,v1,N,w5,w6⟩:=V q3 G3;have f:R.cell x.toNat y.toNat=some u:=f;obtain⟨u2,v,A,O⟩:=Sd M;rw[v0,v1,N,w5,f];have t0:Int.toNat 0=0:=rfl;have FU:aP Hl.none 5 1 (.slice (az (-1) 0) (Int.toNat 0) (Int.toNat 0)) (Int.toNat 0) []:=⟨rfl,Or.inl ⟨rfl,rfl⟩⟩;have ul:(bw (some u) 2).toNat=bs.length:=by rw[u2,aar]
  refine⟨L,hy,O,⟨⟨[],FU⟩,aaM _,v,by rw[ul,t0];unfold maxLen;omega,by rw[ul,t0];omega⟩,fun B g4 ⟨r1,r2,r3,_⟩=>?_⟩;have H:=r3 [] FU;rw[A,ul,t0,aa6,abU]at H;have G4:ai 7 J B:=G3.tr g4;obtain⟨v0,v1,N,w5,w6⟩:=V B G4;rw[v0,v1,N,f,ul];have H:bZ (B.h 10) 5 (.slice (az (B.i 10) 0) bs.length (B.i 11).toNat) bs:=H;have C:=H.rd.w;refine⟨⟨_,bs,_,rfl,rfl,C,ah⟩,fun d g5 ⟨F5,p5,Q,b⟩ q6 g6 S=>?_⟩;have I:=Mm C p5;rw[<-Q zzT]at I;have b:-1<=d.i 12/\0<=d.i 13/\0<=d.i 14/\0<=d.i 15:=b.1;obtain⟨P,hP⟩:∃ P,P=gS bs:=⟨_,rfl⟩;have T:aq P:=by rw[hP];exact Ah hb
  have U:=xd bs;rw[<-hP]at I U ⊢;obtain⟨c1,c2⟩:=RF I b.2.2.1 b.2.2.2;have oR:=I.rd.w;refine⟨⟨0,rfl,abJ _,?_⟩,fun q7 g7 ⟨k,D,hk,E⟩=>?_⟩
  .show q6.h 16=wH (q6.i 9).toNat (s8 fc) _;rw[S,g6.i 9];rfl
  have g:ai 16 d q7:=g6.tr g7;have G7:ai 7 J q7:=G4.trans (g5.mono.tr g);have F:0<=q7.i 9:=by rw[g.i 9,g5.i 9,g4.i 9];exact p9
  have W:q7.i 14=P.length:=by rw[g.i 14,c1]
  have X:q7.i 15=d.i 15:=g.i 15;rw[W,D];refine⟨ah,fun ad=>?_,fun ae=>?_⟩
  .have cy:64*k+64<=P.length:=ah;have hw:IntKind.i64.wrap (((64*k:Nat):Int)+64)=((64*k:Nat):Int)+64:=wrap_i64 ah ah;rw[hw,X,g.i 12,g.i 13,g.h 12,(V q7 G7).2.2.2.2,E];have hsub:=KA oR b.1 b.2.1 (o:=64*k) (n:=64) cy (y':=d.i 13+((64*k:Nat):Int)) (Or.inr rfl) ah (d.i 15-((64*k:Nat):Int)).toNat;have Y:(((64*k:Nat):Int)+64-((64*k:Nat):Int)).toNat=64:=ah;have Z:¬d.i 15=((64*k:Nat):Int):=ah;have aa:((P.drop (64*k)).take 64).length=64:=by rw[aaU,aa7];omega
   rw[aaG Z,Y];have hptr:Value.pointer (az (q7.i 9) 0)=.pointer (some ⟨(q7.i 9).toNat,0,none⟩):=by rw[au F];rfl
   refine⟨b.1,b.2.1,ah,ah,ah,⟨(q7.i 9).toNat,ot fc P k,d.i 12,d.i 13+((64*k:Nat):Int),(d.i 15-((64*k:Nat):Int)).toNat,_,_,_,by rw[hptr],rfl,rfl,pd P k,hsub,aa,ah,fun z hz=>T z (abH (abo hz)),ah,b.1,hK⟩,fun a m ⟨_,p8,_,_⟩=>?_⟩;have l:=p8 _ _ (ot fc P k) _ _ _ (by rw[hptr]) rfl rfl hsub;have l:a.h 60=wH (q7.i 9).toNat (s8 (pN (ot fc P k) ((P.drop (64*k)).take 64))) 285:=by simpa using l
   have ew:IntKind.i64.wrap (a.i 50+64)=((64*(k+1):Nat):Int):=by rw[m.i 50,D,hw];omega
   refine⟨⟨k+1,ew,ah,?_⟩,?_⟩
   .show a.h 60=wH (a.i 9).toNat (s8 (pN _ _)) _;rw[l,m.i 9]
   .show((P.length:Int)-IntKind.i64.wrap (a.i 50+64)).toNat<_;rw[ew];omega
  .intro a m _;have ek:k=P.length/64:=ah;have hc:∀ j,j<8->(a.h 51).cell (a.i 9).toNat (Int.toNat 0+j)=some (.int .u32 (D6 bs j)):=fun j hj=>by
    rw[m.h 51,m.i 9,E,ek,hP];refine CG ?_;rw[show Int.toNat 0+j=j from aa6 j];unfold s8;rw[aaL,aaZ hj];rfl
   have hok:∀ j,j<8->okW (D6 bs j):=fun j hj=>pd _ _ j hj;have hres:([.int .u8 (.wrap .u8 (.shr .u64 (.wrap .u64 (.hI 51 (.var 9) (.lit 0) 0)) (.lit 24))),.int .u8 (.wrap .u8 (.shr .u64 (.wrap .u64 (.hI 51 (.var 9) (.lit 0) 0)) (.lit 16))),.int .u8 (.wrap .u8 (.shr .u64 (.wrap .u64 (.hI 51 (.var 9) (.lit 0) 0)) (.lit 8))),.int .u8 (.wrap .u8 (.shr .u64 (.wrap .u64 (.hI 51 (.var 9) (.lit 0) 0)) (.lit 0))),.int .u8 (.wrap .u8 (.shr .u64 (.wrap .u64 (.hI 51 (.var 9) (.lit 0) 1)) (.lit 24))),.int .u8 (.wrap .u8 (.shr .u64 (.wrap .u64 (.hI 51 (.var 9) (.lit 0) 1)) (.lit 16))),.int .u8 (.wrap .u8 (.shr .u64 (.wrap .u64 (.hI 51 (.var 9) (.lit 0) 1)) (.lit 8))),.int .u8 (.wrap .u8 (.shr .u64 (.wrap .u64 (.hI 51 (.var 9) (.lit 0) 1)) (.lit 0))),.int .u8 (.wrap .u8 (.shr .u64 (.wrap .u64 (.hI 51 (.var 9) (.lit 0) 2)) (.lit 24))),.int .u8 (.wrap .u8 (.shr .u64 (.wrap .u64 (.hI 51 (.var 9) (.lit 0) 2)) (.lit 16))),.int .u8 (.wrap .u8 (.shr .u64 (.wrap .u64 (.hI 51 (.var 9) (.lit 0) 2)) (.lit 8))),.int .u8 (.wrap .u8 (.shr .u64 (.wrap .u64 (.hI 51 (.var 9) (.lit 0) 2)) (.lit 0))),.int .u8 (.wrap .u8 (.shr .u64 (.wrap .u64 (.hI 51 (.var 9) (.lit 0) 3)) (.lit 24))),.int .u8 (.wrap .u8 (.shr .u64 (.wrap .u64 (.hI 51 (.var 9) (.lit 0) 3)) (.lit 16))),.int .u8 (.wrap .u8 (.shr .u64 (.wrap .u64 (.hI 51 (.var 9) (.lit 0) 3)) (.lit 8))),.int .u8 (.wrap .u8 (.shr .u64 (.wrap .u64 (.hI 51 (.var 9) (.lit 0) 3)) (.lit 0))),.int .u8 (.wrap .u8 (.shr .u64 (.wrap .u64 (.hI 51 (.var 9) (.lit 0) 4)) (.lit 24))),.int .u8 (.wrap .u8 (.shr .u64 (.wrap .u64 (.hI 51 (.var 9) (.lit 0) 4)) (.lit 16))),.int .u8 (.wrap .u8 (.shr .u64 (.wrap .u64 (.hI 51 (.var 9) (.lit 0) 4)) (.lit 8))),.int .u8 (.wrap .u8 (.shr .u64 (.wrap .u64 (.hI 51 (.var 9) (.lit 0) 4)) (.lit 0))),.int .u8 (.wrap .u8 (.shr .u64 (.wrap .u64 (.hI 51 (.var 9) (.lit 0) 5)) (.lit 24))),.int .u8 (.wrap .u8 (.shr .u64 (.wrap .u64 (.hI 51 (.var 9) (.lit 0) 5)) (.lit 16))),.int .u8 (.wrap .u8 (.shr .u64 (.wrap .u64 (.hI 51 (.var 9) (.lit 0) 5)) (.lit 8))),.int .u8 (.wrap .u8 (.shr .u64 (.wrap .u64 (.hI 51 (.var 9) (.lit 0) 5)) (.lit 0))),.int .u8 (.wrap .u8 (.shr .u64 (.wrap .u64 (.hI 51 (.var 9) (.lit 0) 6)) (.lit 24))),.int .u8 (.wrap .u8 (.shr .u64 (.wrap .u64 (.hI 51 (.var 9) (.lit 0) 6)) (.lit 16))),.int .u8 (.wrap .u8 (.shr .u64 (.wrap .u64 (.hI 51 (.var 9) (.lit 0) 6)) (.lit 8))),.int .u8 (.wrap .u8 (.shr .u64 (.wrap .u64 (.hI 51 (.var 9) (.lit 0) 6)) (.lit 0))),.int .u8 (.wrap .u8 (.shr .u64 (.wrap .u64 (.hI 51 (.var 9) (.lit 0) 7)) (.lit 24))),.int .u8 (.wrap .u8 (.shr .u64 (.wrap .u64 (.hI 51 (.var 9) (.lit 0) 7)) (.lit 16))),.int .u8 (.wrap .u8 (.shr .u64 (.wrap .u64 (.hI 51 (.var 9) (.lit 0) 7)) (.lit 8))),.int .u8 (.wrap .u8 (.shr .u64 (.wrap .u64 (.hI 51 (.var 9) (.lit 0) 7)) (.lit 0)))].map (CV.ev a))=aM (gU bs):=fz (bx (s:=24) (hok 0 ah) (hc 0 ah) ah) (fz (bx (s:=16) (hok 0 ah) (hc 0 ah) ah) (fz (bx (s:=8) (hok 0 ah) (hc 0 ah) ah) (fz (bx (s:=0) (hok 0 ah) (hc 0 ah) ah) (fz (bx (s:=24) (hok 1 ah) (hc 1 ah) ah) (fz (bx (s:=16) (hok 1 ah) (hc 1 ah) ah) (fz (bx (s:=8) (hok 1 ah) (hc 1 ah) ah) (fz (bx (s:=0) (hok 1 ah) (hc 1 ah) ah) (fz (bx (s:=24) (hok 2 ah) (hc 2 ah) ah) (fz (bx (s:=16) (hok 2 ah) (hc 2 ah) ah) (fz (bx (s:=8) (hok 2 ah) (hc 2 ah) ah) (fz (bx (s:=0) (hok 2 ah) (hc 2 ah) ah) (fz (bx (s:=24) (hok 3 ah) (hc 3 ah) ah) (fz (bx (s:=16) (hok 3 ah) (hc 3 ah) ah) (fz (bx (s:=8) (hok 3 ah) (hc 3 ah) ah) (fz (bx (s:=0) (hok 3 ah) (hc 3 ah) ah) (fz (bx (s:=24) (hok 4 ah) (hc 4 ah) ah) (fz (bx (s:=16) (hok 4 ah) (hc 4 ah) ah) (fz (bx (s:=8) (hok 4 ah) (hc 4 ah) ah) (fz (bx (s:=0) (hok 4 ah) (hc 4 ah) ah) (fz (bx (s:=24) (hok 5 ah) (hc 5 ah) ah) (fz (bx (s:=16) (hok 5 ah) (hc 5 ah) ah) (fz (bx (s:=8) (hok 5 ah) (hc 5 ah) ah) (fz (bx (s:=0) (hok 5 ah) (hc 5 ah) ah) (fz (bx (s:=24) (hok 6 ah) (hc 6 ah) ah) (fz (bx (s:=16) (hok 6 ah) (hc 6 ah) ah) (fz (bx (s:=8) (hok 6 ah) (hc 6 ah) ah) (fz (bx (s:=0) (hok 6 ah) (hc 6 ah) ah) (fz (bx (s:=24) (hok 7 ah) (hc 7 ah) ah) (fz (bx (s:=16) (hok 7 ah) (hc 7 ah) ah) (fz (bx (s:=8) (hok 7 ah) (hc 7 ah) ah) (fz (bx (s:=0) (hok 7 ah) (hc 7 ah) ah) (rfl))))))))))))))))))))))))))))))));obtain⟨G,_,_,e2⟩:=cY (List.replicate 32 (Ck.int .u8)) 0 (aM (gU bs)) a (pt 32 _ (gE bs));refine⟨by rw[m.i 9];exact F,by rw[show(a.h 51).cell (a.i 9).toNat (Int.toNat 0)=_ from hc 0 ah];rfl,by rw[show(a.h 51).cell (a.i 9).toNat (Int.toNat 0+1)=_ from hc 1 ah];rfl,by rw[show(a.h 51).cell (a.i 9).toNat (Int.toNat 0+2)=_ from hc 2 ah];rfl,by rw[show(a.h 51).cell (a.i 9).toNat (Int.toNat 0+3)=_ from hc 3 ah];rfl,by rw[show(a.h 51).cell (a.i 9).toNat (Int.toNat 0+4)=_ from hc 4 ah];rfl,by rw[show(a.h 51).cell (a.i 9).toNat (Int.toNat 0+5)=_ from hc 5 ah];rfl,by rw[show(a.h 51).cell (a.i 9).toNat (Int.toNat 0+6)=_ from hc 6 ah];rfl,by rw[show(a.h 51).cell (a.i 9).toNat (Int.toNat 0+7)=_ from hc 7 ah];rfl,fun _=>⟨[],[],rfl,rfl,⟨G,?_,cN _ _ _ aA,zzT⟩,fun u' R' af ag bs' h1 h2 h'=>?_⟩⟩
   .show Value.agg ([.int .u8 (.wrap .u8 (.shr .u64 (.wrap .u64 (.hI 51 (.var 9) (.lit 0) 0)) (.lit 24))),.int .u8 (.wrap .u8 (.shr .u64 (.wrap .u64 (.hI 51 (.var 9) (.lit 0) 0)) (.lit 16))),.int .u8 (.wrap .u8 (.shr .u64 (.wrap .u64 (.hI 51 (.var 9) (.lit 0) 0)) (.lit 8))),.int .u8 (.wrap .u8 (.shr .u64 (.wrap .u64 (.hI 51 (.var 9) (.lit 0) 0)) (.lit 0))),.int .u8 (.wrap .u8 (.shr .u64 (.wrap .u64 (.hI 51 (.var 9) (.lit 0) 1)) (.lit 24))),.int .u8 (.wrap .u8 (.shr .u64 (.wrap .u64 (.hI 51 (.var 9) (.lit 0) 1)) (.lit 16))),.int .u8 (.wrap .u8 (.shr .u64 (.wrap .u64 (.hI 51 (.var 9) (.lit 0) 1)) (.lit 8))),.int .u8 (.wrap .u8 (.shr .u64 (.wrap .u64 (.hI 51 (.var 9) (.lit 0) 1)) (.lit 0))),.int .u8 (.wrap .u8 (.shr .u64 (.wrap .u64 (.hI 51 (.var 9) (.lit 0) 2)) (.lit 24))),.int .u8 (.wrap .u8 (.shr .u64 (.wrap .u64 (.hI 51 (.var 9) (.lit 0) 2)) (.lit 16))),.int .u8 (.wrap .u8 (.shr .u64 (.wrap .u64 (.hI 51 (.var 9) (.lit 0) 2)) (.lit 8))),.int .u8 (.wrap .u8 (.shr .u64 (.wrap .u64 (.hI 51 (.var 9) (.lit 0) 2)) (.lit 0))),.int .u8 (.wrap .u8 (.shr .u64 (.wrap .u64 (.hI 51 (.var 9) (.lit 0) 3)) (.lit 24))),.int .u8 (.wrap .u8 (.shr .u64 (.wrap .u64 (.hI 51 (.var 9) (.lit 0) 3)) (.lit 16))),.int .u8 (.wrap .u8 (.shr .u64 (.wrap .u64 (.hI 51 (.var 9) (.lit 0) 3)) (.lit 8))),.int .u8 (.wrap .u8 (.shr .u64 (.wrap .u64 (.hI 51 (.var 9) (.lit 0) 3)) (.lit 0))),.int .u8 (.wrap .u8 (.shr .u64 (.wrap .u64 (.hI 51 (.var 9) (.lit 0) 4)) (.lit 24))),.int .u8 (.wrap .u8 (.shr .u64 (.wrap .u64 (.hI 51 (.var 9) (.lit 0) 4)) (.lit 16))),.int .u8 (.wrap .u8 (.shr .u64 (.wrap .u64 (.hI 51 (.var 9) (.lit 0) 4)) (.lit 8))),.int .u8 (.wrap .u8 (.shr .u64 (.wrap .u64 (.hI 51 (.var 9) (.lit 0) 4)) (.lit 0))),.int .u8 (.wrap .u8 (.shr .u64 (.wrap .u64 (.hI 51 (.var 9) (.lit 0) 5)) (.lit 24))),.int .u8 (.wrap .u8 (.shr .u64 (.wrap .u64 (.hI 51 (.var 9) (.lit 0) 5)) (.lit 16))),.int .u8 (.wrap .u8 (.shr .u64 (.wrap .u64 (.hI 51 (.var 9) (.lit 0) 5)) (.lit 8))),.int .u8 (.wrap .u8 (.shr .u64 (.wrap .u64 (.hI 51 (.var 9) (.lit 0) 5)) (.lit 0))),.int .u8 (.wrap .u8 (.shr .u64 (.wrap .u64 (.hI 51 (.var 9) (.lit 0) 6)) (.lit 24))),.int .u8 (.wrap .u8 (.shr .u64 (.wrap .u64 (.hI 51 (.var 9) (.lit 0) 6)) (.lit 16))),.int .u8 (.wrap .u8 (.shr .u64 (.wrap .u64 (.hI 51 (.var 9) (.lit 0) 6)) (.lit 8))),.int .u8 (.wrap .u8 (.shr .u64 (.wrap .u64 (.hI 51 (.var 9) (.lit 0) 6)) (.lit 0))),.int .u8 (.wrap .u8 (.shr .u64 (.wrap .u64 (.hI 51 (.var 9) (.lit 0) 7)) (.lit 24))),.int .u8 (.wrap .u8 (.shr .u64 (.wrap .u64 (.hI 51 (.var 9) (.lit 0) 7)) (.lit 16))),.int .u8 (.wrap .u8 (.shr .u64 (.wrap .u64 (.hI 51 (.var 9) (.lit 0) 7)) (.lit 8))),.int .u8 (.wrap .u8 (.shr .u64 (.wrap .u64 (.hI 51 (.var 9) (.lit 0) 7)) (.lit 0)))].map (CV.ev a)).toArray=Value.agg ((ar 0 (List.replicate 32 (Ck.int .u8))).map (CV.ev G)).toArray;rw[hres,e2]
   .simp only[aaC,aaP]at h1 h2;subst h1;obtain⟨rfl,rfl,rfl⟩:=h2;have e:=h'.uniq hR;simp only[aaC,aaP]at e;subst e;show Value.agg ([.int .u8 (.wrap .u8 (.shr .u64 (.wrap .u64 (.hI 51 (.var 9) (.lit 0) 0)) (.lit 24))),.int .u8 (.wrap .u8 (.shr .u64 (.wrap .u64 (.hI 51 (.var 9) (.lit 0) 0)) (.lit 16))),.int .u8 (.wrap .u8 (.shr .u64 (.wrap .u64 (.hI 51 (.var 9) (.lit 0) 0)) (.lit 8))),.int .u8 (.wrap .u8 (.shr .u64 (.wrap .u64 (.hI 51 (.var 9) (.lit 0) 0)) (.lit 0))),.int .u8 (.wrap .u8 (.shr .u64 (.wrap .u64 (.hI 51 (.var 9) (.lit 0) 1)) (.lit 24))),.int .u8 (.wrap .u8 (.shr .u64 (.wrap .u64 (.hI 51 (.var 9) (.lit 0) 1)) (.lit 16))),.int .u8 (.wrap .u8 (.shr .u64 (.wrap .u64 (.hI 51 (.var 9) (.lit 0) 1)) (.lit 8))),.int .u8 (.wrap .u8 (.shr .u64 (.wrap .u64 (.hI 51 (.var 9) (.lit 0) 1)) (.lit 0))),.int .u8 (.wrap .u8 (.shr .u64 (.wrap .u64 (.hI 51 (.var 9) (.lit 0) 2)) (.lit 24))),.int .u8 (.wrap .u8 (.shr .u64 (.wrap .u64 (.hI 51 (.var 9) (.lit 0) 2)) (.lit 16))),.int .u8 (.wrap .u8 (.shr .u64 (.wrap .u64 (.hI 51 (.var 9) (.lit 0) 2)) (.lit 8))),.int .u8 (.wrap .u8 (.shr .u64 (.wrap .u64 (.hI 51 (.var 9) (.lit 0) 2)) (.lit 0))),.int .u8 (.wrap .u8 (.shr .u64 (.wrap .u64 (.hI 51 (.var 9) (.lit 0) 3)) (.lit 24))),.int .u8 (.wrap .u8 (.shr .u64 (.wrap .u64 (.hI 51 (.var 9) (.lit 0) 3)) (.lit 16))),.int .u8 (.wrap .u8 (.shr .u64 (.wrap .u64 (.hI 51 (.var 9) (.lit 0) 3)) (.lit 8))),.int .u8 (.wrap .u8 (.shr .u64 (.wrap .u64 (.hI 51 (.var 9) (.lit 0) 3)) (.lit 0))),.int .u8 (.wrap .u8 (.shr .u64 (.wrap .u64 (.hI 51 (.var 9) (.lit 0) 4)) (.lit 24))),.int .u8 (.wrap .u8 (.shr .u64 (.wrap .u64 (.hI 51 (.var 9) (.lit 0) 4)) (.lit 16))),.int .u8 (.wrap .u8 (.shr .u64 (.wrap .u64 (.hI 51 (.var 9) (.lit 0) 4)) (.lit 8))),.int .u8 (.wrap .u8 (.shr .u64 (.wrap .u64 (.hI 51 (.var 9) (.lit 0) 4)) (.lit 0))),.int .u8 (.wrap .u8 (.shr .u64 (.wrap .u64 (.hI 51 (.var 9) (.lit 0) 5)) (.lit 24))),.int .u8 (.wrap .u8 (.shr .u64 (.wrap .u64 (.hI 51 (.var 9) (.lit 0) 5)) (.lit 16))),.int .u8 (.wrap .u8 (.shr .u64 (.wrap .u64 (.hI 51 (.var 9) (.lit 0) 5)) (.lit 8))),.int .u8 (.wrap .u8 (.shr .u64 (.wrap .u64 (.hI 51 (.var 9) (.lit 0) 5)) (.lit 0))),.int .u8 (.wrap .u8 (.shr .u64 (.wrap .u64 (.hI 51 (.var 9) (.lit 0) 6)) (.lit 24))),.int .u8 (.wrap .u8 (.shr .u64 (.wrap .u64 (.hI 51 (.var 9) (.lit 0) 6)) (.lit 16))),.int .u8 (.wrap .u8 (.shr .u64 (.wrap .u64 (.hI 51 (.var 9) (.lit 0) 6)) (.lit 8))),.int .u8 (.wrap .u8 (.shr .u64 (.wrap .u64 (.hI 51 (.var 9) (.lit 0) 6)) (.lit 0))),.int .u8 (.wrap .u8 (.shr .u64 (.wrap .u64 (.hI 51 (.var 9) (.lit 0) 7)) (.lit 24))),.int .u8 (.wrap .u8 (.shr .u64 (.wrap .u64 (.hI 51 (.var 9) (.lit 0) 7)) (.lit 16))),.int .u8 (.wrap .u8 (.shr .u64 (.wrap .u64 (.hI 51 (.var 9) (.lit 0) 7)) (.lit 8))),.int .u8 (.wrap .u8 (.shr .u64 (.wrap .u64 (.hI 51 (.var 9) (.lit 0) 7)) (.lit 0)))].map (CV.ev a)).toArray=_;rw[hres]
def pY {s:Int} (hw:IntKind.u64.wrap (IntKind.u64.wrap (q.i 2)*8)=(n:Int)) (hn:n<18446744073709551616) (hs:s=(k:Int)) (hk:k<=63):IntKind.u8.wrap (aB q (E.shr .u64 (E.wrap .u64 ((E.wrap .u64 (E.var 2)).mul (E.lit 8))) (E.lit s)))=((n/2 ^ k%256:Nat):Int):=CQ hn hs hk hw
def kG:Sx.Spec where
 fn:=64
 own:=[]
 rd:=[0,2000003]
 res:=[.agg (List.replicate 32 (Ck.int .u8))]
 pre:=fun xs Hs Rs=>∃ u bs R RG,xs=[u]/\Rs=[R,RG]/\fL R u bs/\aq bs/\bs.length<=900000/\ve RG 3
 post:=fun xs Hs Rs v Hs' F=>∀ u bs R RG,xs=[u]->Rs=[R,RG]->fL R u bs->v=.agg (aM (gU bs)).toArray
def KL:Nd:=(fun d m l n o=>(fun a b c=>(fun f g h i j k=>(.and (.imp (.lt d (.lit 64)) (.and (.e (.le (.lit 0) d)) (.and (.e (.his 5 (.lit 3) d 0 (.int .u32))) (.and (.e (.le (.lit 0) (.var 120))) (.and (.e (.his 131 (.var 120) d 0 (.int .u32))) (.and (.pre j) (.ext j (.and (.pre f) (.ext f (.and (.pre g) (.ext g (.and (.pre k) (.ext k (.and (.pre h) (.ext h (.and (.pre i) (.ext i (.back 1 3 [⟨151,0,.int .i64 (.wrap .u32 (.add a (.wrap .u32 (.add (.bits .xor .u32 (.bits .xor .u32 (.var 173) (.var 174)) (.var 175)) (.bits .xor .u32 (.bits .xor .u32 (.bits .and .u32 l n) (.bits .and .u32 l o)) (.bits .and .u32 n o))))))⟩,⟨152,0,.int .i64 l⟩,⟨153,0,.int .i64 n⟩,⟨154,0,.int .i64 o⟩,⟨155,0,.int .i64 (.wrap .u32 (.add (.var 154) a))⟩,⟨156,0,.int .i64 m⟩,⟨157,0,.int .i64 (.var 156)⟩,⟨158,0,.int .i64 (.var 157)⟩,⟨150,0,.int .i64 (.wrap .i64 (.add d (.lit 1)))⟩] [])))))))))))))))))) (.imp (.not (.lt d (.lit 64))) (.back 0 1 (([⟨100,0,.int .i64 (.wrap .i64 (.add (.var 100) (.lit 64)))⟩]:List As)++(S4 85 (ar 110 (List.replicate 8 (Ck.int .u32))) [.int .u32 (.wrap .u32 (.add (.var 110) l)),.int .u32 (.wrap .u32 (.add (.var 111) n)),.int .u32 (.wrap .u32 (.add (.var 112) o)),.int .u32 (.wrap .u32 (.add (.var 113) (.var 154))),.int .u32 (.wrap .u32 (.add (.var 114) m)),.int .u32 (.wrap .u32 (.add (.var 115) (.var 156))),.int .u32 (.wrap .u32 (.add (.var 116) (.var 157))),.int .u32 (.wrap .u32 (.add (.var 117) (.var 158)))])) [])):Nd)) (.call 0 171 [.sv b,.sv (.one (.int .i64 (.lit 11)))] [] []) (.call 0 172 [.sv b,.sv (.one (.int .i64 (.lit 25)))] [] []) (.call 0 174 [.sv c,.sv (.one (.int .i64 (.lit 13)))] [] []) (.call 0 175 [.sv c,.sv (.one (.int .i64 (.lit 22)))] [] []) (.call 0 170 [.sv b,.sv (.one (.int .i64 (.lit 6)))] [] []) (.call 0 173 [.sv c,.sv (.one (.int .i64 (.lit 2)))] [] [])) (.wrap .u32 (.add (.wrap .u32 (.add (.wrap .u32 (.add (.wrap .u32 (.add (.var 158) (.bits .xor .u32 (.bits .xor .u32 (.var 170) (.var 171)) (.var 172)))) (.bits .xor .u32 (.bits .and .u32 m (.var 156)) (.bits .and .u32 (.wrap .u32 (.sub (.lit 4294967295) m)) (.var 157))))) (.hI 5 (.lit 3) d 0))) (.hI 131 (.var 120) d 0))) (.one (.int .u32 m)) (.one (.int .u32 l))) (.var 150) (.var 155) (.var 151) (.var 152) (.var 153)
def DW:Nd:=(fun d i r p q x y=>(fun a h k o j w=>(fun b n m l f g=>(fun c s t u v=>(.and (.imp (.lt d x) (.and (.imp (.lt d (.lit 16)) (.and (.e (.le p r)) (.and (.e (.le p a)) (.and (.e (.lt a q)) (.and (.e (.his 82 r a 0 (.int .u8))) (.and (.e (.le p l)) (.and (.e (.lt l q)) (.and (.e (.his 82 r l 0 (.int .u8))) (.and (.e (.le p m)) (.and (.e (.lt m q)) (.and (.e (.his 82 r m 0 (.int .u8))) (.and (.e (.le p n)) (.and (.e (.lt n q)) (.and (.e (.his 82 r n 0 (.int .u8))) (.and (.e (.le p i)) (.and (.e (.le p d)) (.and (.pre c) (.ext c (.back 1 2 w [(131,some 140)]))))))))))))))))))) (.imp (.not (.lt d (.lit 16))) (.and (.e (.le p i)) (.and (.e (.le p h)) (.and (.e (.lt h x)) (.and (.e (.his 131 i h 0 y)) (.and (.pre v) (.ext v (.and (.pre s) (.ext s (.and (.e (.le p j)) (.and (.e (.lt j x)) (.and (.e (.his 131 i j 0 y)) (.and (.pre t) (.ext t (.and (.pre u) (.ext u (.and (.e (.le p k)) (.and (.e (.lt k x)) (.and (.e (.his 131 i k 0 y)) (.and (.e (.le p o)) (.and (.e (.lt o x)) (.and (.e (.his 131 i o 0 y)) (.and (.pre b) (.ext b (.back 1 2 w [(131,some 144)]))))))))))))))))))))))))))) (.imp (.not (.lt d x)) (.and (.inv 3 [⟨151,0,.int .i64 (.var 110)⟩,⟨152,0,.int .i64 (.var 111)⟩,⟨153,0,.int .i64 (.var 112)⟩,⟨154,0,.int .i64 (.var 113)⟩,⟨155,0,.int .i64 (.var 114)⟩,⟨156,0,.int .i64 (.var 115)⟩,⟨157,0,.int .i64 (.var 116)⟩,⟨158,0,.int .i64 (.var 117)⟩,⟨150,0,.int .i64 p⟩] []) (.havoc 1 3 140 KL))):Nd)) (.put 140 131 i d [.int .u32 (.wrap .u32 (.add (.wrap .u32 (.add (.wrap .u32 (.add (.wrap .u32 (.mul (.wrap .u32 (.hI 82 r a 0)) (.lit 16777216))) (.wrap .u32 (.mul (.wrap .u32 (.hI 82 r l 0)) (.lit 65536))))) (.wrap .u32 (.mul (.wrap .u32 (.hI 82 r m 0)) (.lit 256))))) (.wrap .u32 (.hI 82 r n 0))))]) (.call 0 141 [.sv f,.sv (.one (.int .i64 (.lit 18)))] [] []) (.call 0 142 [.sv g,.sv (.one (.int .i64 (.lit 17)))] [] []) (.call 0 143 [.sv g,.sv (.one (.int .i64 (.lit 19)))] [] []) (.call 0 140 [.sv f,.sv (.one (.int .i64 (.lit 7)))] [] [])) (.put 144 131 i d [.int .u32 (.wrap .u32 (.add (.wrap .u32 (.add (.wrap .u32 (.add (.hI 131 i k 0) (.bits .xor .u32 (.bits .xor .u32 (.var 140) (.var 141)) (.wrap .u32 (.quo (.hI 131 i h 0) (.lit 8)))))) (.hI 131 i o 0))) (.bits .xor .u32 (.bits .xor .u32 (.var 142) (.var 143)) (.wrap .u32 (.quo (.hI 131 i j 0) (.lit 1024))))))]) (.wrap .i64 (.add a (.lit 3))) (.wrap .i64 (.add a (.lit 2))) (.wrap .i64 (.add a (.lit 1))) (.one (.int .u32 (.hI 131 i h 0))) (.one (.int .u32 (.hI 131 i j 0)))) (.wrap .i64 (.add (.var 100) (.wrap .i64 (.mul (.lit 4) d)))) (.wrap .i64 (.sub d (.lit 15))) (.wrap .i64 (.sub d (.lit 16))) (.wrap .i64 (.sub d (.lit 7))) (.wrap .i64 (.sub d (.lit 2))) [⟨130,0,.int .i64 (.wrap .i64 (.add d (.lit 1)))⟩]) (.var 130) (.var 120) (.var 82) (.lit 0) (.add (.var 51) (.lit 8)) (.lit 64) (.int .u32)
def KK:Nd:=(fun d g f=>(fun b c=>(fun a=>(.and (.imp (.lt d (.lit 32)) (.and (.e (.le f (.var 84))) (.and (.e (.le f b)) (.and (.e (.lt b (.lit 8))) (.and (.e (.his 202 (.var 84) b 0 (.int .u32))) (.and (.e (.le f c)) (.and (.e (.le f g)) (.and (.e (.le f d)) (.and (.pre a) (.ext a (.back 0 4 [⟨200,0,.int .i64 (.wrap .i64 (.add d (.lit 1)))⟩] [(202,some 202),(201,some 210)]))))))))))) (.imp (.not (.lt d (.lit 32))) (.and (.e (.le f g)) (.and (.e (.hby 201 g f (.lit 32))) (.post [.ro 4 [.var 0] true,.ro 5 [.lit 3] false,.dead,.hp 82 [79,76,73,70,67,64,61,53] [.var 82,.var 79,.var 76,.var 73,.var 70,.var 67,.var 64,.var 61,.var 50] [],.dead,.dead,.dead,.dead,.dead,.dead,.dead,.dead,.dead,.hp 202 [] [.var 84] [],.hp 201 [] [.var 120] []] (.sv (.agg (aY 201 g f 0 (List.replicate 32 (Kd.int .u8))))))))):Nd)) (.put 210 201 g d [.int .u8 (.wrap .u8 (.shr .u32 (.hI 202 (.var 84) b 0) c))])) (.wrap .i64 (.quo d (.lit 4))) (.wrap .u32 (.wrap .i64 (.sub (.lit 24) (.wrap .i64 (.mul (.lit 8) (.rem d (.lit 4)))))))) (.var 200) (.var 120) (.lit 0)
def KJ:Nd:=(fun a=>(.and (.imp a (.ext (.alloc 120) (.ext (.Nh 121 (.bj 120 (List.replicate 64 (CV.int .u32 (.lit 0))) 172)) (.and (.inv 2 [⟨130,0,.int .i64 (.lit 0)⟩] [(131,some 121)]) (.havoc 1 2 122 DW))))) (.imp (.not a) (.ext (.alloc 120) (.ext (.Nh 121 (.bj 120 (List.replicate 32 (CV.int .u8 (.lit 0))) 58)) (.ext (.Nh 122 (.bj 84 (ar 110 (List.replicate 8 (Ck.int .u32))) 171)) (.and (.inv 4 [⟨200,0,.int .i64 (.lit 0)⟩] [(202,some 122),(201,some 121)]) (.havoc 0 4 123 KK)))))):Nd)) (.lt (.var 100) (.add (.var 51) (.lit 8)))
def PX:Nd:=(fun p b h=>(fun a r s m o q=>(fun c d f g i j k l n=>(.ext (.alloc 6) (.and (.pre o) (.ext o (.ext (.alloc 9) (.and (.pre m) (.ext m (.and (.inv 0 [⟨50,0,.int .i64 (.var 10)⟩,⟨51,0,.int .i64 (.add p (.lit 1))⟩,⟨52,0,.int .i64 (.var 11)⟩] [(53,some 10)]) (.havoc 0 0 12 (.and (.e (.le h b)) (.and (.imp (.not q) (.ext (.alloc 60) (.and (.pre n) (.ext n (.back 0 0 [⟨50,0,.int .i64 (.var 61)⟩,⟨51,0,.int .i64 r⟩,⟨52,0,.int .i64 (.var 62)⟩] [(53,some 61)]))))) (.imp q (.and (.e (.le h p)) (.ext (.alloc 60) (.and (.pre l) (.ext l (.ext (.alloc 63) (.and (.pre k) (.ext k (.ext (.alloc 66) (.and (.pre j) (.ext j (.ext (.alloc 69) (.and (.pre i) (.ext i (.ext (.alloc 72) (.and (.pre g) (.ext g (.ext (.alloc 75) (.and (.pre f) (.ext f (.ext (.alloc 78) (.and (.pre d) (.ext d (.ext (.alloc 81) (.and (.pre c) (.ext c (.ext (.alloc 84) (.and (.inv 1 (([⟨100,0,.int .i64 h⟩]:List As)++(S4 85 (ar 110 (List.replicate 8 (Ck.int .u32))) [.int .u32 (.lit 1779033703),.int .u32 (.lit 3144134277),.int .u32 (.lit 1013904242),.int .u32 (.lit 2773480762),.int .u32 (.lit 1359893119),.int .u32 (.lit 2600822924),.int .u32 (.lit 528734635),.int .u32 (.lit 1541459225)])) []) (.havoc 0 1 85 KJ)))))))))))))))))))))))))))))))))))))):Nd)) (.app 82 5 1 1 (.sl (.var 79) h (.add b (.lit 7)) (.var 80)) (.add b (.lit 7)) (.hp 79 [76,73,70,67,64,61,53] [.var 79,.var 76,.var 73,.var 70,.var 67,.var 64,.var 61,.var 50] []) (.cvs [.int .u8 (.wrap .u8 (.shr .u64 a h))] 1)) (.app 79 5 1 1 (.sl (.var 76) h (.add b (.lit 6)) (.var 77)) (.add b (.lit 6)) (.hp 76 [73,70,67,64,61,53] [.var 76,.var 73,.var 70,.var 67,.var 64,.var 61,.var 50] []) (.cvs [.int .u8 (.wrap .u8 (.shr .u64 a (.lit 8)))] 1)) (.app 76 5 1 1 (.sl (.var 73) h (.add b (.lit 5)) (.var 74)) (.add b (.lit 5)) (.hp 73 [70,67,64,61,53] [.var 73,.var 70,.var 67,.var 64,.var 61,.var 50] []) (.cvs [.int .u8 (.wrap .u8 (.shr .u64 a (.lit 16)))] 1)) (.app 73 5 1 1 (.sl (.var 70) h (.add b (.lit 4)) (.var 71)) (.add b (.lit 4)) (.hp 70 [67,64,61,53] [.var 70,.var 67,.var 64,.var 61,.var 50] []) (.cvs [.int .u8 (.wrap .u8 (.shr .u64 a (.lit 24)))] 1)) (.app 70 5 1 1 (.sl (.var 67) h (.add b (.lit 3)) (.var 68)) (.add b (.lit 3)) (.hp 67 [64,61,53] [.var 67,.var 64,.var 61,.var 50] []) (.cvs [.int .u8 (.wrap .u8 (.shr .u64 a (.lit 32)))] 1)) (.app 67 5 1 1 (.sl (.var 64) h (.add b (.lit 2)) (.var 65)) (.add b (.lit 2)) (.hp 64 [61,53] [.var 64,.var 61,.var 50] []) (.cvs [.int .u8 (.wrap .u8 (.shr .u64 a (.lit 40)))] 1)) (.app 64 5 1 1 (.sl (.var 61) h r (.var 62)) r (.hp 61 [53] [.var 61,.var 50] []) (.cvs [.int .u8 (.wrap .u8 (.shr .u64 a (.lit 48)))] 1)) (.app 61 5 1 1 s b (.hp 53 [] [.var 50] []) (.cvs [.int .u8 (.wrap .u8 (.shr .u64 a (.lit 56)))] 1)) (.app 61 5 1 1 s b (.hp 53 [] [.var 50] []) (.cvs [.int .u8 h] 1))) (.wrap .u64 (.mul (.wrap .u64 p) (.lit 8))) (.add b (.lit 1)) (.sl (.var 50) h b (.var 52)) (.app 10 5 1 1 (.sl (.var 7) h p (.var 8)) p (.hp 7 [] [.var 7] []) (.cvs [.int .u8 (.lit 128)] 1)) (.app 7 5 1 1 (.sl (.lit (-1)) h h h) h .dead (.seg 4 (.var 0) (.var 1) p)) (.eq (.rem b (.lit 64)) (.lit 56))) (.var 2) (.var 51) (.lit 0)
def KM:List Sx.Spec:=[qT]
def Vq:∀ t∈KM,t.OK Tryz.prog:=fun t a=>by
 simp only[KM,aaN,aaX,abC]at a;subst a;exact AV
def Tg:aG Tryz.prog KM kG.fn where
 Λ:=fun p=>if Ng p [64,1,1,1,1,0,0]then some ⟨0,[(3,.sv (.one (.sl (.var 50) (.lit 0) (.var 51) (.var 52))))],[(3,.hp 53 [] [.var 50] [])],60⟩
  else if Ng p [64,1,1,1,1,1,1,1,1,0,1,0]then some ⟨1,[(7,TI .i64 (.var 100))],[(13,.bj 84 (ar 110 (List.replicate 8 wz)) 171)],120⟩
  else if Ng p [64,1,1,1,1,1,1,1,1,0,1,0,0,1,0,0,1,0,1,0]then some ⟨2,[(9,TI .i64 (.var 130))],[(14,.hp 131 [] [.var 120] [])],140⟩
  else if Ng p [64,1,1,1,1,1,1,1,1,0,1,0,0,1,0,0,1,1,1,0,1,0]then some ⟨3,[(21,TI .i64 (.var 150)),(13,.sv (.one (.int .u32 (.var 151)))),(14,.sv (.one (.int .u32 (.var 152)))),(15,.sv (.one (.int .u32 (.var 153)))),(16,.sv (.one (.int .u32 (.var 154)))),(17,.sv (.one (.int .u32 (.var 155)))),(18,.sv (.one (.int .u32 (.var 156)))),(19,.sv (.one (.int .u32 (.var 157)))),(20,.sv (.one (.int .u32 (.var 158))))],[],170⟩
  else if Ng p [64,1,1,1,1,1,1,1,1,1,1,0,1,0]then some ⟨4,[(25,TI .i64 (.var 200))],[(14,.hp 201 [] [.var 120] []),(13,.hp 202 [] [.var 84] [])],210⟩else none
 args:=[.sv (.one (.sl (.var 0) (.var 1) (.var 2) (.var 3)))]
 mem:=[.ro 4 [.var 0] true,.ro 5 [.lit 3] false]
 nv:=6
def PW:qT.res=[.one wz]:=rfl
def Co (bs:List Int) (j:Nat) (q:Env):Prop:=match j with
 | 0=>∃ m:Nat,m<=(119-bs.length%64)%64/\q.i 51=bs.length+1+m/\ -1<=q.i 50/\0<=q.i 52/\bZ (q.h 53) 5 (.slice (az (q.i 50) 0) (q.i 51).toNat (q.i 52).toNat) (bs++[128]++List.replicate m 0)
 | 1=>∃ k:Nat,q.i 100=((64*k:Nat):Int)/\64*k<=(gS bs).length/\Ju q 110 (ot fc (gS bs) k)
 | 2=>∃ (k:Nat) (l:List Int),q.i 130=k/\k<=64/\Lb (((gS bs).drop (q.i 100).toNat).take 64) k l/\q.h 131=wH (q.i 120).toNat l 172
 | 4=>∃ (k:Nat) (l:List Int),q.i 200=k/\k<=32/\l.length=32/\(∀ j,j<k->l[j]?=some ((gU bs).getD j 0))/\q.h 201=Hl.one (q.i 120).toNat (.cells (aM l).toArray 58 (0,0))/\q.h 202=wH (q.i 84).toNat (s8 (D6 bs)) 171
 | _=>∃ k:Nat,q.i 150=k/\k<=64/\Ju q 151 (dL (ot fc (gS bs) ((q.i 100).toNat/64)) (aR (((gS bs).drop (q.i 100).toNat).take 64) 64) k)
def MF (bs:List Int) (j:Nat) (q:Env):Nat:=match j with
 | 0=>((bs.length:Int)+100-q.i 51).toNat
 | 1=>((gS bs).length-q.i 100).toNat
 | 2=>(64-q.i 130).toNat
 | 4=>(32-q.i 200).toNat
 | _=>(64-q.i 150).toNat
def Yq (bs:List Int) (xs:List Value) (Rs:List Hl):Ctx:=⟨KM,Co bs,MF bs,postOf kG xs [] Rs⟩
def iO (h:okW x) {n:Int} (h0:0<=n) (h1:n<=32):qT.pre [.int .u32 x,.int .i64 n] [] []:=⟨⟨(bf fun i=>if i=0 then x else n),⟨zzT,zzT,zzT⟩,rfl⟩,h,h0,h1⟩
def gP {xs:List Value} (hx:xs=[.int .u32 x,.int .i64 (m:Int)]) (h:qT.post xs Hs Rs (Value.int .u32 (q.i n)) K F):q.i n=bS m x:=by
 subst hx;have h:Value.int .u32 (q.i n)=Value.int .u32 (bS ((m:Int)).toNat x):=h;rw[aar]at h;simpa using h
section
variable {bs:List Int} {xs:List Value} {Rs:List Hl} {ms:Nat->Nat} {q:Env} {P B S:List Int} {k:Nat}
structure r5 (bs P B:List Int) (k:Nat) (q:Env):Prop where
 p:P=gS bs
 b:B=(P.drop (64*k)).take 64
 k2:64*k+64<=P.length
 le:P.length<=1000000
 bb:aq B
 e100:q.i 100=((64*k:Nat):Int)
 s:Ju q 110 (ot fc P k)
 p120:0<=q.i 120
 kat:ve (q.h 5) 3
 cell:∀ j z,P[j]?=some z->(q.h 82).cell (q.i 82).toNat j=some (.int .u8 z)
 x82:0<=q.i 82
 e51:q.i 51+8=P.length
def r5.mono (h:r5 bs P B k q) (g:ai n q q') (hn:121<=n):r5 bs P B k q':=by
 obtain⟨d,e,a3,a4,a5,f,j,l,a9,a,b,c⟩:=h;exact⟨d,e,a3,a4,a5,by rw[g.i 100];exact f,j.mono g ah,by rw[g.i 120];exact l,by rw[g.h 5];exact a9,by rw[g.h 82,g.i 82];exact a,by rw[g.i 82];exact b,by rw[g.i 51];exact c⟩
def r5.len (h:r5 bs P B k q):B.length=64:=by
 have:=h.k2;rw[h.b,aaU,aa7];omega
def r5.get (h:r5 bs P B k q) (a:j<64):B.getD j 0=P.getD (64*k+j) 0:=by
 rw[h.b,aaD,abx a,aa9,<-aaD]
def MH (hB:r5 bs P B k q) (hS:S=aR B 64) (u:q.h 131=wH (q.i 120).toNat S 172) (d:q.i 150=n) (hn:n<=64) (v:Ju q 151 (dL (ot fc P k) S n)) (Z:ms 0=(P.length-q.i 100).toNat) (m1:ms 1=(64-q.i 150).toNat):KL.holds (Yq bs xs Rs) ms q:=by
 show Nd.holds ⟨KM,Co bs,MF bs,postOf kG xs [] Rs⟩ ms q KL;have hle:=hB.le;have cy:=hB.k2;unfold KL;simp only[Nd.holds,X.pre,X.rel,X.n,Src.ok,Src.len,Src.iW,abk,aaP,ab6,acA,abj,Nat.reduceAdd,abc,abt,se,r9,jZ,kP,jr,sd,nx,mO,pG,gM,nj,ny,sa,nq,np,j7,nu,ak,al,bQ,dm,cG,bP,cO,fh,fG,fS,iT,gy,iE,fY,TV.ev,SV.ev,CV.ev,aaY,abN,bL.hl,kS,Cp.sv,Ck.cv,cA,Cp.len,Ck.len,gI,iz,jD,KM,PW];obtain⟨r,hr⟩:∃ r,r=dL (ot fc P k) S n:=⟨_,rfl⟩;rw[<-hr]at v;have e:∀ j,j<8->okW (r j):=by rw[hr];exact th (pd P k) S n
 rw[d];refine⟨fun aa=>?_,fun ab=>?_⟩
 .have t:n<64:=ah;have Q:∀ {q':Env},ai 170 q q'->(q'.h 5).cell 3 (q'.i 150).toNat=some (.int .u32 (D5.getD n 0)):=fun {q'} o=>by
   rw[o.i 150,o.h 5,d,aar];exact hB.kat n t
  have R:∀ {q':Env},ai 170 q q'->(q'.h 131).cell (q'.i 120).toNat (q'.i 150).toNat=some (.int .u32 (S.getD n 0)):=fun {q'} o=>by
   rw[o.i 150,o.i 120,o.h 131,u,d,aar];refine CG ?_;rw[aaD,aax (by rw[hS,dY];exact t)];rfl
  have H:∀ {q':Env},ai 170 q q'->q'.i 155=r 4:=fun o=>(v.mono o ah) 4 ah;have I:∀ {q':Env},ai 170 q q'->q'.i 151=r 0:=fun o=>(v.mono o ah) 0 ah;have J:(q.h 5).cell (Int.toNat 3) ((n:Int)).toNat=some (.int .u32 (D5.getD n 0)):=by rw[<-d];exact Q (ai.refl _ _)
  have K:(q.h 131).cell (q.i 120).toNat ((n:Int)).toNat=some (.int .u32 (S.getD n 0)):=by rw[<-d];exact R (ai.refl _ _)
  rw[J,K,H (ai.refl _ _)];refine⟨ah,rfl,hB.p120,rfl,iO (e 4 ah) ah ah,fun q6 T ⟨_,p6,_,_⟩=>?_⟩;rw[H T];refine⟨iO (e 4 ah) ah ah,fun q7 U ⟨_,p7,_,_⟩=>?_⟩;have V:ai 170 q q7:=T.tr U;rw[H V];refine⟨iO (e 4 ah) ah ah,fun q8 L ⟨_,p8,_,_⟩=>?_⟩;have W:ai 170 q q8:=V.tr L;rw[I W];refine⟨iO (e 0 ah) ah ah,fun q9 G ⟨_,p9,_,_⟩=>?_⟩;have Y:ai 170 q q9:=W.tr G;rw[I Y];refine⟨iO (e 0 ah) ah ah,fun M g ⟨_,N,_,_⟩=>?_⟩;have w:ai 170 q M:=Y.tr g;rw[I w];refine⟨iO (e 0 ah) ah ah,fun a f ⟨_,O,_,_⟩=>?_⟩;have l:ai 170 q a:=w.tr f;have x:a.i 170=bS 6 (r 4):=by rw[f.i 170,g.i 170,G.i 170,L.i 170,U.i 170];exact gP (m:=6) rfl p6
  have y:a.i 171=bS 11 (r 4):=by rw[f.i 171,g.i 171,G.i 171,L.i 171];exact gP (m:=11) rfl p7
  have z:a.i 172=bS 25 (r 4):=by rw[f.i 172,g.i 172,G.i 172];exact gP (m:=25) rfl p8
  have A:a.i 173=bS 2 (r 0):=by rw[f.i 173,g.i 173];exact gP (m:=2) rfl p9
  have C:a.i 174=bS 13 (r 0):=by rw[f.i 174];exact gP (m:=13) rfl N
  have D:a.i 175=bS 22 (r 0):=gP (m:=22) rfl O;have c:Ju a 151 r:=v.mono l ah;have nE:IntKind.u32.wrap (4294967295-r 4)=4294967295-r 4:=by
   have:=e 4 ah;unfold okW at this;exact qV ⟨ah,ah⟩
  have eT:fp (fp (fp (fp (a.i 158+lN (a.i 170) (a.i 171) (a.i 172))+cQ .xor .u32 (jq (a.i 155) (a.i 156)) (jq (IntKind.u32.wrap (4294967295-a.i 155)) (a.i 157)))+cf ((a.h 5).cell 3 (a.i 150).toNat))+cf ((a.h 131).cell (a.i 120).toNat (a.i 150).toNat))=I8 r (D5.getD n 0) (S.getD n 0):=by
   rw[Q l,R l,x,y,z,show a.i 158=r 7 from c 7 ah,show a.i 155=r 4 from c 4 ah,show a.i 156=r 5 from c 5 ah,show a.i 157=r 6 from c 6 ah,nE];rfl
  have eU:fp (lN (a.i 173) (a.i 174) (a.i 175)+cQ .xor .u32 (cQ .xor .u32 (jq (a.i 151) (a.i 152)) (jq (a.i 151) (a.i 153))) (jq (a.i 152) (a.i 153)))=QA r:=by
   rw[A,C,D,show a.i 151=r 0 from c 0 ah,show a.i 152=r 1 from c 1 ah,show a.i 153=r 2 from c 2 ah];rfl
  have E:IntKind.i64.wrap (a.i 150+1)=((n+1:Nat):Int):=by rw[l.i 150,d,wrap_i64 ah ah];rfl
  have f100:a.i 100=((64*k:Nat):Int):=by rw[l.i 100,hB.e100]
  refine⟨⟨n+1,E,ah,fun j F=>?_⟩,?_⟩
  .show _=dL (ot fc (gS bs) ((a.i 100).toNat/64)) (aR (((gS bs).drop (a.i 100).toNat).take 64) 64) (n+1) j;rw[f100,aar,show 64*k/64=k by omega,<-hB.p,<-hB.b,<-hS];show _=uO (dL (ot fc P k) S n) (D5.getD n 0) (S.getD n 0) j;rw[<-hr]
   match j,F with
   | 0,_ =>
    show fp (fp (fp (fp (fp (a.i 158+lN (a.i 170) (a.i 171) (a.i 172))+cQ .xor .u32 (jq (a.i 155) (a.i 156)) (jq (IntKind.u32.wrap (4294967295-a.i 155)) (a.i 157)))+cf ((a.h 5).cell 3 (a.i 150).toNat))+cf ((a.h 131).cell (a.i 120).toNat (a.i 150).toNat))+fp (lN (a.i 173) (a.i 174) (a.i 175)+cQ .xor .u32 (cQ .xor .u32 (jq (a.i 151) (a.i 152)) (jq (a.i 151) (a.i 153))) (jq (a.i 152) (a.i 153))))=fp (I8 r _ _+QA r);rw[eT,eU]
   | 4,_ =>
    show fp (a.i 154+fp (fp (fp (fp (a.i 158+lN (a.i 170) (a.i 171) (a.i 172))+cQ .xor .u32 (jq (a.i 155) (a.i 156)) (jq (IntKind.u32.wrap (4294967295-a.i 155)) (a.i 157)))+cf ((a.h 5).cell 3 (a.i 150).toNat))+cf ((a.h 131).cell (a.i 120).toNat (a.i 150).toNat)))=fp (r 3+I8 r _ _);rw[eT,show a.i 154=r 3 from c 3 ah]
   | 1,_=>exact c 0 ah
   | 2,_=>exact c 1 ah
   | 3,_=>exact c 2 ah
   | 5,_=>exact c 4 ah
   | 6,_=>exact c 5 ah
   | 7,_=>exact c 6 ah
  .rw[m1,d];show(64-IntKind.i64.wrap (a.i 150+1)).toNat<_;rw[E];omega
 .have en:n=64:=ah;subst en;have E:IntKind.i64.wrap (q.i 100+64)=((64*(k+1):Nat):Int):=by rw[hB.e100,wrap_i64 ah ah];omega
  refine⟨⟨k+1,E,by rw[<-hB.p];omega,fun j F=>?_⟩,?_⟩
  .rw[<-hB.p];show _=fp (ot fc P k j+dL (ot fc P k) (aR ((P.drop (64*k)).take 64) 64) 64 j);rw[<-hB.b,<-hS,<-hr,<-hB.s j F,<-v j F]
   match j,F with
   | 0,_=>rfl
   | 1,_=>rfl
   | 2,_=>rfl
   | 3,_=>rfl
   | 4,_=>rfl
   | 5,_=>rfl
   | 6,_=>rfl
   | 7,_=>rfl
  .rw[Z];show(((gS bs).length:Int)-IntKind.i64.wrap (q.i 100+64)).toNat<_;rw[E,<-hB.p,hB.e100];omega
def M9 (a b c d:Int) (e:0<=a/\a<256) (hb:0<=b/\b<256) (hc:0<=c/\c<256) (hd:0<=d/\d<256):fp (fp (fp (fp (fp a*16777216)+fp (fp b*65536))+fp (fp c*256))+fp d)=fp (a*16777216+b*65536+c*256+d):=by
 simp only[vc];omega
def Tb (h:okW x) {n:Int} (hn:0<n):IntKind.u32.wrap (x.tdiv n)=x/n:=by
 unfold okW at h;rw[acb h.1];refine qV ⟨Int.ediv_nonneg h.1 ah,Int.lt_of_le_of_lt (Int.ediv_le_self _ h.1) h.2⟩
def MI (hB:r5 bs P B k q) (D:Lb B n l) (f:q.h 131=wH (q.i 120).toNat l 172) (a:q.i 130=n) (hn:n<=64) (m0:ms 0=(P.length-q.i 100).toNat) (m1:ms 1=(64-q.i 130).toNat):DW.holds (Yq bs xs Rs) ms q:=by
 show Nd.holds ⟨KM,Co bs,MF bs,postOf kG xs [] Rs⟩ ms q DW;have hle:=hB.le;have cy:=hB.k2;have ag:=hB.len;have hl:=D.1;have f100:=hB.e100;have fold:∀ q':Env,ai 131 q q'->(((gS bs).drop (q'.i 100).toNat).take 64)=B:=fun q' c=>by
  rw[c.i 100,f100,aar,<-hB.p,<-hB.b]
 unfold DW;simp only[Nd.holds,X.pre,X.rel,X.n,Src.ok,Src.len,Src.iW,abk,aaP,ab6,acA,abj,Nat.reduceAdd,abc,abt,se,r9,jZ,kP,jr,sd,nx,mO,pG,gM,nj,ny,sa,nq,np,j7,nu,ak,al,bQ,dm,cG,bP,cO,fh,fG,fS,iT,gy,iE,fY,TV.ev,SV.ev,CV.ev,aaY,abN,bL.hl,kS,Cp.sv,Ck.cv,cA,Cp.len,Ck.len,gI,iz,jD,KM,PW];rw[a];refine⟨fun ae=>⟨fun R=>?_,fun R=>?_⟩,fun af=>?_⟩
 .have w:∀ {d:Nat},d<4->(q.h 82).cell (q.i 82).toNat (((64*k:Nat):Int)+4*(n:Int)+(d:Int)).toNat=some (.int .u8 (B.getD (4*n+d) 0)):=fun {d} hd=>by
   rw[show(((64*k:Nat):Int)+4*(n:Int)+(d:Int)).toNat=64*k+(4*n+d)by omega,hB.get ah];refine hB.cell _ _ ?_;rw[aaD,aax ah];rfl
  have w0:IntKind.i64.wrap (q.i 100+IntKind.i64.wrap (4*(n:Int)))=((64*k:Nat):Int)+4*(n:Int):=by rw[f100,wrap_i64 (n:=4*(n:Int)) ah ah,wrap_i64 ah ah]
  have T:∀ d:Nat,d<4->IntKind.i64.wrap (((64*k:Nat):Int)+4*(n:Int)+(d:Int))=((64*k:Nat):Int)+4*(n:Int)+(d:Int):=fun d hd=>wrap_i64 ah ah;have c0:=w (d:=0) ah;rw[show((64*k:Nat):Int)+4*(n:Int)+((0:Nat):Int)=((64*k:Nat):Int)+4*(n:Int)by omega]at c0;have c1:(q.h 82).cell (q.i 82).toNat (((64*k:Nat):Int)+4*(n:Int)+1).toNat=some (.int .u8 (B.getD (4*n+1) 0)):=w (d:=1) ah;have c2:(q.h 82).cell (q.i 82).toNat (((64*k:Nat):Int)+4*(n:Int)+2).toNat=some (.int .u8 (B.getD (4*n+2) 0)):=w (d:=2) ah;have c3:(q.h 82).cell (q.i 82).toNat (((64*k:Nat):Int)+4*(n:Int)+3).toNat=some (.int .u8 (B.getD (4*n+3) 0)):=w (d:=3) ah;have x1:IntKind.i64.wrap (((64*k:Nat):Int)+4*(n:Int)+1)=((64*k:Nat):Int)+4*(n:Int)+1:=T 1 ah;have U:IntKind.i64.wrap (((64*k:Nat):Int)+4*(n:Int)+2)=((64*k:Nat):Int)+4*(n:Int)+2:=T 2 ah;have x3:IntKind.i64.wrap (((64*k:Nat):Int)+4*(n:Int)+3)=((64*k:Nat):Int)+4*(n:Int)+3:=T 3 ah;have O:∀ j,j<64->0<=B.getD j 0/\B.getD j 0<256:=fun j V=>by
   rw[aaD,aax ah,abL];exact hB.bb _ (abM _)
  rw[w0,x1,U,x3,c0,c1,c2,c3,hB.e51];refine⟨hB.x82,ah,ah,rfl,ah,ah,rfl,ah,ah,rfl,ah,ah,rfl,hB.p120,ah,⟨hB.p120,ah,?_⟩,fun g o t=>?_⟩
  .rw[f,aar];exact K6 ah
  have t:g.h 140=(wH (q.i 120).toNat l 172).put (q.i 120).toNat n [Value.int .u32 (fp (fp (fp (fp (fp (B.getD (4*n) 0)*16777216)+fp (fp (B.getD (4*n+1) 0)*65536))+fp (fp (B.getD (4*n+2) 0)*256))+fp (B.getD (4*n+3) 0)))]:=by
   rw[t,f,aar];rfl
  rw[M9 _ _ _ _ (O _ ah) (O _ ah) (O _ ah) (O _ ah),Ei ah]at t;have F:IntKind.i64.wrap (g.i 130+1)=((n+1:Nat):Int):=by rw[o.i 130,a,wrap_i64 ah ah];rfl
  refine⟨⟨n+1,l.set n (GX B n),F,ah,?_,?_⟩,?_⟩
  .show Lb (((gS bs).drop (g.i 100).toNat).take 64) _ _;rw[fold g o.mono];exact D.set ah (by rw[aaR ah])
  .show g.h 140=wH (g.i 120).toNat _ _;rw[t,o.i 120];rfl
  .rw[m1,a];show(64-IntKind.i64.wrap (g.i 130+1)).toNat<_;rw[F];omega
 .have rd:∀ {q':Env},ai 140 q q'->∀ d:Nat,1<=d->d<=16->(q'.h 131).cell (q'.i 120).toNat ((n:Int)-d).toNat=some (.int .u32 ((aR B n).getD (n-d) 0)):=fun {q'} c d h1 h2=>by
   rw[c.h 131,c.i 120,f,show((n:Int)-d).toNat=n-d by omega];exact CG (D.get ah ah)
  have ok:∀ d:Nat,1<=d->d<=16->okW ((aR B n).getD (n-d) 0):=fun d h1 h2=>Gz _ _ ah;have wd:∀ {q':Env},ai 140 q q'->∀ d:Nat,1<=d->d<=16->IntKind.i64.wrap (q'.i 130-d)=(n:Int)-d:=fun c d h1 h2=>by rw[c.i 130,a,wrap_i64 ah ah]
  have z:∀ {q':Env},ai 140 q q'->IntKind.i64.wrap (q'.i 130-15)=(n:Int)-15:=fun c=>wd c 15 ah ah;have W:∀ {q':Env},ai 140 q q'->IntKind.i64.wrap (q'.i 130-2)=(n:Int)-2:=fun c=>wd c 2 ah ah;have Y:∀ {q':Env},ai 140 q q'->IntKind.i64.wrap (q'.i 130-16)=(n:Int)-16:=fun c=>wd c 16 ah ah;have w7:∀ {q':Env},ai 140 q q'->IntKind.i64.wrap (q'.i 130-7)=(n:Int)-7:=fun c=>wd c 7 ah ah;have A:∀ {q':Env},ai 140 q q'->(q'.h 131).cell (q'.i 120).toNat ((n:Int)-15).toNat=some (.int .u32 ((aR B n).getD (n-15) 0)):=fun c=>rd c 15 ah ah;have r2:∀ {q':Env},ai 140 q q'->(q'.h 131).cell (q'.i 120).toNat ((n:Int)-2).toNat=some (.int .u32 ((aR B n).getD (n-2) 0)):=fun c=>rd c 2 ah ah;have Z:∀ {q':Env},ai 140 q q'->(q'.h 131).cell (q'.i 120).toNat ((n:Int)-16).toNat=some (.int .u32 ((aR B n).getD (n-16) 0)):=fun c=>rd c 16 ah ah;have r7:∀ {q':Env},ai 140 q q'->(q'.h 131).cell (q'.i 120).toNat ((n:Int)-7).toNat=some (.int .u32 ((aR B n).getD (n-7) 0)):=fun c=>rd c 7 ah ah;have G:=z (ai.refl 140 q);rw[a]at G;rw[G,A (ai.refl _ _)];refine⟨hB.p120,ah,ah,rfl,iO (ok 15 ah ah) ah ah,fun q6 g6 ⟨_,p6,_,_⟩=>?_⟩;rw[z g6,A g6];refine⟨iO (ok 15 ah ah) ah ah,fun q7 g7 ⟨_,p7,_,_⟩=>?_⟩;have G7:ai 140 q q7:=g6.tr g7;rw[W G7,r2 G7];refine⟨ah,ah,rfl,iO (ok 2 ah ah) ah ah,fun q8 g8 ⟨_,p8,_,_⟩=>?_⟩;have G8:ai 140 q q8:=G7.tr g8;rw[W G8,r2 G8];refine⟨iO (ok 2 ah ah) ah ah,fun e Q ⟨_,p9,_,_⟩=>?_⟩;have v:ai 140 q e:=G8.tr Q;have H:e.i 140=bS 7 ((aR B n).getD (n-15) 0):=by rw[Q.i 140,g8.i 140,g7.i 140];exact gP (m:=7) rfl p6
  have I:e.i 141=bS 18 ((aR B n).getD (n-15) 0):=by rw[Q.i 141,g8.i 141];exact gP (m:=18) rfl p7
  have J:e.i 142=bS 17 ((aR B n).getD (n-2) 0):=by rw[Q.i 142];exact gP (m:=17) rfl p8
  have K:e.i 143=bS 19 ((aR B n).getD (n-2) 0):=gP (m:=19) rfl p9;have x1:aB e (E.bits BinOp.xor IntKind.u32 (E.bits BinOp.xor IntKind.u32 (E.var 140) (E.var 141)) (E.wrap IntKind.u32 ((E.hI 131 (E.var 120) (E.wrap IntKind.i64 ((E.var 130).sub (E.lit 15))) 0).quo (E.lit 8))))=loS ((aR B n).getD (n-15) 0):=by
   show lN (e.i 140) (e.i 141) (IntKind.u32.wrap ((cf ((e.h 131).cell (e.i 120).toNat ((IntKind.i64.wrap (e.i 130-15)).toNat))).tdiv 8))=_;rw[z v,A v,show cf (some (Value.int .u32 ((aR B n).getD (n-15) 0)))=(aR B n).getD (n-15) 0 from rfl,Tb (ok 15 ah ah) ah,H,I];rfl
  have U:aB e (E.bits BinOp.xor IntKind.u32 (E.bits BinOp.xor IntKind.u32 (E.var 142) (E.var 143)) (E.wrap IntKind.u32 ((E.hI 131 (E.var 120) (E.wrap IntKind.i64 ((E.var 130).sub (E.lit 2))) 0).quo (E.lit 1024))))=VL ((aR B n).getD (n-2) 0):=by
   show lN (e.i 142) (e.i 143) (IntKind.u32.wrap ((cf ((e.h 131).cell (e.i 120).toNat ((IntKind.i64.wrap (e.i 130-2)).toNat))).tdiv 1024))=_;rw[W v,r2 v,show cf (some (Value.int .u32 ((aR B n).getD (n-2) 0)))=(aR B n).getD (n-2) 0 from rfl,Tb (ok 2 ah ah) ah,J,K];rfl
  have x:e.i 130=n:=by rw[v.i 130,a]
  have y:e.i 120=q.i 120:=v.i 120;have aa:e.h 131=wH (q.i 120).toNat l 172:=by rw[v.h 131,f]
  rw[Y v,w7 v,Z v,r7 v,x1,U,x,y,aar,aa];refine⟨ah,ah,rfl,ah,ah,rfl,⟨hB.p120,ah,K6 ah⟩,fun r C u=>?_⟩;have u:r.h 144=(wH (q.i 120).toNat l 172).put (q.i 120).toNat n [Value.int .u32 (CH (aR B n) n)]:=u;rw[Ei ah]at u;have F:IntKind.i64.wrap (r.i 130+1)=((n+1:Nat):Int):=by rw[C.i 130,x,wrap_i64 ah ah];rfl
  have ab:ai 140 q r:=v.tr C;refine⟨⟨n+1,l.set n (CH (aR B n) n),F,ah,?_,?_⟩,?_⟩
  .show Lb (((gS bs).drop (r.i 100).toNat).take 64) _ _;rw[fold r ab.mono];exact D.set ah (by rw[aaG ah])
  .show r.h 144=wH (r.i 120).toNat _ _;rw[u,C.i 120,y]
  .rw[m1,a];show(64-IntKind.i64.wrap (r.i 130+1)).toNat<_;rw[F];omega
 .have en:n=64:=ah;subst en;have el:=D.all;refine⟨⟨0,rfl,ah,fun j V=>?_⟩,fun g o ⟨n',L,ad,M⟩=>?_⟩
  .show _=dL (ot fc (gS bs) ((q.i 100).toNat/64)) (aR (((gS bs).drop (q.i 100).toNat).take 64) 64) 0 j;rw[f100,aar,show 64*k/64=k by omega,<-hB.p];show _=ot fc P k j;rw[<-hB.s j V]
   match j,V with
   | 0,_=>rfl
   | 1,_=>rfl
   | 2,_=>rfl
   | 3,_=>rfl
   | 4,_=>rfl
   | 5,_=>rfl
   | 6,_=>rfl
   | 7,_=>rfl
  .have N:=hB.mono o ah;refine MH N (S:=aR B 64) rfl ?_ L ad ?_ ?_ rfl
   .rw[o.h 131,f,o.i 120,el]
   .rw[N.e100,aar,show 64*k/64=k by omega,<-hB.p,<-hB.b]at M;exact M
   .show ms 0=_;rw[m0,o.i 100]
def bH (b:Nat) (l:List Int) (T:TypeId):Hl:=Hl.one b (.cells (aM l).toArray T (0,0))
def Ty (h:y<l.length) (z:Int):(bH b l T).put b y [Value.int .u8 z]=bH b (l.set y z) T:=by
 unfold bH aM;rw[Hl.DC]
 congr 2
 apply aa1;apply aa2;intro j;rw[Sx.jW (by simp;omega),adX];simp only[abc,abt,ac5,aaT,aaL];by_cases h2:j=y
 .subst h2;rw[aaR ah,aaR rfl,aaR h];simp
 .rw[aaG ah,aaG ah]
def VY (h:y<l.length):(bH b l T).wr b y 1=true:=Hl.DD _ _ _ _ _ (by simp [aM];omega)
def QJ (b:Nat) (l:List Int) (T:TypeId) (j:Nat):(bH b l T).cell b j=(l[j]?).map (Value.int .u8):=by
 unfold bH aM;rw[Hl.one_cell,abI,aaL]
def Qd (bs:List Int) (h:j<32):(gU bs).getD j 0=D6 bs (j/4)/2 ^ (24-8*(j%4))%256:=by
 unfold gU;rw[aaD,aaL,aaZ h];rfl
def Qe (hx:okW x) (hs:s<=24):IntKind.u8.wrap (x.fdiv (2 ^ (min ((s:Int)).toNat IntKind.u32.bits)))=x/2 ^ s%256:=by
 unfold okW at hx;have e:min ((s:Nat):Int).toNat IntKind.u32.bits=s:=by show min _ 32=_;omega
 have a:(0:Int)<=2 ^ s:=Int.le_of_lt (Int.pow_pos aA);rw[e,abX _ a];exact Tq _
def MG (m:xs=[u]) (o:Rs=[R,RG]) (A:fL R u bs) (p:0<=q.i 84) (p120:0<=q.i 120) (a:q.i 200=n) (hn:n<=32) (hl:l.length=32) (t:∀ j,j<n->l[j]?=some ((gU bs).getD j 0)) (b:q.h 201=bH (q.i 120).toNat l 58) (c:q.h 202=wH (q.i 84).toNat (s8 (D6 bs)) 171) (B:ms 0=(32-q.i 200).toNat):KK.holds (Yq bs xs Rs) ms q:=by
 show Nd.holds ⟨KM,Co bs,MF bs,postOf kG xs [] Rs⟩ ms q KK;unfold KK;simp only[Nd.holds,X.pre,X.rel,X.n,Src.ok,Src.len,Src.iW,abk,aaP,ab6,acA,abj,Nat.reduceAdd,abc,abt,se,r9,jZ,kP,jr,sd,nx,mO,pG,gM,nj,ny,sa,nq,np,j7,nu,ak,al,bQ,dm,cG,bP,cO,fh,fG,fS,iT,gy,iE,fY,TV.ev,SV.ev,CV.ev,aaY,abN,bL.hl,kS,Cp.sv,Ck.cv,cA,Cp.len,Ck.len,gI,iz,jD,KM,PW];rw[a];refine⟨fun C=>?_,fun D=>?_⟩
 .have f:n<32:=ah;have v:IntKind.i64.wrap (aB q ((E.var 200).quo (E.lit 4)))=((n/4:Nat):Int):=by
   show IntKind.i64.wrap ((q.i 200).tdiv 4)=_;rw[a,acb ah,wrap_i64 ah ah];omega
  have wr:aB q ((E.var 200).rem (E.lit 4))=((n%4:Nat):Int):=by
   show(q.i 200).tmod 4=_;rw[a,abm ah];omega
  have ws:IntKind.u32.wrap (IntKind.i64.wrap (24-IntKind.i64.wrap (8*((n%4:Nat):Int))))=((24-8*(n%4):Nat):Int):=by
   rw[wrap_i64 (n:=8*((n%4:Nat):Int)) ah ah,wrap_i64 ah ah];have:=qV (x:=24-8*((n%4:Nat):Int)) ⟨ah,ah⟩;unfold fp at this;rw[this];omega
  have r:okW (D6 bs (n/4)):=pd _ _ _ ah;have cv:(q.h 202).cell (q.i 84).toNat (((n/4:Nat):Int)).toNat=some (.int .u32 (D6 bs (n/4))):=by
   rw[c,aar];refine CG ?_;unfold s8;rw[aaL,aaZ ah];rfl
  have F:IntKind.u8.wrap (aB q (E.shr IntKind.u32 (E.hI 202 (E.var 84) (E.wrap IntKind.i64 ((E.var 200).quo (E.lit 4))) 0) (E.wrap IntKind.u32 (E.wrap IntKind.i64 ((E.lit 24).sub (E.wrap IntKind.i64 ((E.lit 8).mul ((E.var 200).rem (E.lit 4)))))))))=(gU bs).getD n 0:=by
   show IntKind.u8.wrap ((cf ((q.h 202).cell (q.i 84).toNat ((IntKind.i64.wrap (aB q ((E.var 200).quo (E.lit 4)))).toNat))).fdiv (2 ^ (min (IntKind.u32.wrap (IntKind.i64.wrap (24-IntKind.i64.wrap (8*aB q ((E.var 200).rem (E.lit 4)))))).toNat IntKind.u32.bits)))=_;rw[v,wr,ws,cv,Qd bs f];exact Qe r ah
  rw[v,wr,ws,cv,F,b,aar];refine⟨p,ah,ah,rfl,ah,p120,ah,⟨p120,ah,VY ah⟩,fun q1 k d=>?_⟩;rw[Ty ah]at d;have w:IntKind.i64.wrap (q1.i 200+1)=((n+1:Nat):Int):=by rw[k.i 200,a,wrap_i64 ah ah];rfl
  refine⟨⟨n+1,l.set n ((gU bs).getD n 0),w,ah,by rw[List.length_set];exact hl,fun j y=>?_,?_,?_⟩,?_⟩
  .rw[ac5];by_cases e:n=j
   .subst e;rw[aaR rfl,aaR ah]
   .rw[aaG e];exact t j ah
  .show q1.h 210=bH (q1.i 120).toNat _ _;rw[d,k.i 120]
  .show q1.h 202=wH (q1.i 84).toNat _ _;rw[k.h 202,k.i 84,c]
  .rw[B,a];show(32-IntKind.i64.wrap (q1.i 200+1)).toNat<_;rw[w];omega
 .have G:n=32:=ah;subst G;have hS:=gE bs;have el:l=gU bs:=by
   apply aa2;intro j;by_cases y:j<32
   .rw[t j y,aaD,aax ah];rfl
   .rw[aaK ah,aaK ah]
  have hc:∀ j z,(gU bs)[j]?=some z->(q.h 201).cell (q.i 120).toNat (Int.toNat 0+j)=some (.int .u8 z):=fun j z s=>by
   rw[b,el,QJ,show Int.toNat 0+j=j from aa6 j,s];rfl
  have ev:(aY 201 (E.var 120) (E.lit 0) 0 (List.replicate 32 (Kd.int .u8))).map (CV.ev q)=aM (gU bs):=im 32 0 _ hS fun i z s=>by
   show(q.h 201).cell (q.i 120).toNat (Int.toNat 0+(0+i))=_;rw[aa6 i];exact hc i z s
  obtain⟨g,_,_,H⟩:=cY (List.replicate 32 (Ck.int .u8)) 0 (aM (gU bs)) q (pt 32 _ hS);refine⟨p120,df hc (by rw[hS];decide),fun _=>⟨[],[],rfl,rfl,⟨g,?_,cN _ _ _ aA,zzT⟩,fun J bs' R' I h1 h2 h'=>?_⟩⟩
  .show Value.agg ((aY 201 (E.var 120) (E.lit 0) 0 (List.replicate 32 (Kd.int .u8))).map (CV.ev q)).toArray=Value.agg ((ar 0 (List.replicate 32 (Ck.int .u8))).map (CV.ev g)).toArray;rw[ev,H]
  .subst m o;simp only[aaC,aaP]at h1 h2;subst h1;obtain⟨rfl,rfl⟩:=h2;obtain rfl:=h'.uniq A;show Value.agg ((aY 201 (E.var 120) (E.lit 0) 0 (List.replicate 32 (Kd.int .u8))).map (CV.ev q)).toArray=_;rw[ev]
def ME (B:xs=[u]) (C:Rs=[R,RG]) (I:fL R u bs) (hP:P=gS bs) (J:P.length%64=0) (hle:P.length<=1000000) (D:aq P) (E:0<=q.i 84) (hK:ve (q.h 5) 3) (hc:∀ j z,P[j]?=some z->(q.h 82).cell (q.i 82).toNat j=some (.int .u8 z)) (x82:0<=q.i 82) (e51:q.i 51+8=P.length) (e100:q.i 100=((64*k:Nat):Int)) (hk:64*k<=P.length) (H:Ju q 110 (ot fc P k)) (K:ms 0=(P.length-q.i 100).toNat):KJ.holds (Yq bs xs Rs) ms q:=by
 show Nd.holds ⟨KM,Co bs,MF bs,postOf kG xs [] Rs⟩ ms q KJ;unfold KJ;simp only[Nd.holds,X.pre,X.rel,X.n,Src.ok,Src.len,Src.iW,abk,aaP,ab6,acA,abj,Nat.reduceAdd,abc,abt,se,r9,jZ,kP,jr,sd,nx,mO,pG,gM,nj,ny,sa,nq,np,j7,nu,ak,al,bQ,dm,cG,bP,cO,fh,fG,fS,iT,gy,iE,fY,TV.ev,SV.ev,CV.ev,aaY,abN,bL.hl,kS,Cp.sv,Ck.cv,cA,Cp.len,Ck.len,gI,iz,jD,KM,PW];rw[e51,e100];refine⟨fun L=>?_,fun M=>?_⟩
 .have cy:64*k+64<=P.length:=ah;intro F m p120 a b g;have c:ai 120 q a:=m.tr b;have o:0<=a.i 120:=by rw[b.i 120];exact p120
  have hB:r5 bs P ((P.drop (64*k)).take 64) k a:=⟨hP,rfl,cy,hle,fun z N=>D z (abH (abo N)),by rw[c.i 100];exact e100,H.mono c ah,o,by rw[c.h 5];exact hK,by rw[c.h 82,c.i 82];exact hc,by rw[c.i 82];exact x82,by rw[c.i 51];exact e51⟩;refine⟨⟨0,List.replicate 64 0,rfl,ah,⟨aF,fun j O=>ah⟩,?_⟩,fun f d ⟨n,l,r,hn,A,s⟩=>?_⟩
  .show a.h 121=wH (a.i 120).toNat _ _;rw[g,b.i 120];rfl
  have p:=hB.mono d ah;rw[p.e100,aar,<-hP]at A;refine MI p A s r hn ?_ rfl;show ms 0=_;rw[K,p.e100,e100]
 .intro F m p120 a b g f d t;have G:ai 120 q f:=m.trans (b.mono.tr d);have Q:k=P.length/64:=ah;refine⟨⟨0,List.replicate 32 0,rfl,ah,aF,fun j O=>ah,?_,?_⟩,fun S v ⟨n,l,w,hn,hl,A,x,y⟩=>?_⟩
  .show f.h 121=bH (f.i 120).toNat _ _;rw[d.h 121,g,d.i 120,b.i 120];rfl
  .show f.h 122=wH (f.i 84).toNat _ _;have e:(ar 110 (List.replicate 8 wz)).map (CV.ev a)=Js (s8 (D6 bs)):=by
    refine MT ?_;have:=H.mono (m.tr b) ah;rw[Q,hP]at this;exact this
   rw[t,d.i 84];show Hl.one _ (.cells ((ar 110 (List.replicate 8 wz)).map (CV.ev a)).toArray _ (0,0))=_;rw[e];rfl
  .exact MG B C I (by rw[v.i 84,G.i 84];exact E) (by rw[v.i 120,d.i 120,b.i 120];exact p120) w hn hl A x y rfl
end
end Go.Proofs.YtomdimlnggpgbaaGreatDoor
