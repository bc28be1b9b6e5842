/- RelayPlays. -/
import Derived.Test.YtomdimlnggpgbaaGreatDoorTG
set_option linter.all false
set_option maxHeartbeats 4000000
namespace Go.Proofs.YtomdimlnggpgbaaGreatDoor
open Go Go.Sx Go.Pk
open Go.Proofs.YtomdimlnggpgbaaGreatDoor.D hiding aO aD fN
variable {D:DM}{J q:Env}{F H H' R R':Hl}{rows:List (List Int)}{Hs K Rs:List Hl}{bs:List Int}{a b j m n:Nat}{S:SM}{dp p pa pb sl u v:Value}
def bU.rep (h:bU F v rows):∃ (x:Int) (c:Nat),-1<=x/\v=.slice (az x 0) rows.length c:=by
 obtain⟨us,ho,_⟩:=h;rcases ho.2 with ⟨h,hn⟩ | ⟨g,cap,cur,h,_⟩
 .exact⟨-1,0,ah,by rw[fb,hn];exact h⟩
 .exact⟨g,cap,ah,by rw[au ah];simpa using h⟩
structure Z2 where
 e:Int
 D:DM
 S:SM
def Gx (D:DM) (S:SM) (rows:List (List Int)) (r:AR):Z2 :=
 ⟨ru r.e,r.D,⟨r.L,r.bs,S.LB,S.bB,if ru r.e=0 then S.recs++rows else S.recs,if r.e≠0/\gi r.e=oZ then true else S.over⟩⟩
open Classical in
noncomputable def cN (D:DM) (S:SM) (rows:List (List Int)):Z2 :=
 if S.over=true then⟨5,D,S⟩
 else if ¬ib rows then⟨3,D,S⟩
 else if rows=[]then⟨0,D,S⟩
 else if S.LA.most-S.bA.length<(bF rows).length then⟨4,D,S⟩
 else Gx D S rows (bu D S.LA S.bA (bF rows) S.LA.note)
noncomputable def Gy:Sx.Spec where
 fn:=15
 own:=[.arg 0,.link 0 0]
 rd:=[1,3000001,2000000]
 res:=[.one (.int .i64)]
 pre:=fun xs Hs Rs=>∃ p v H HD R RA RG g dp S D rows,xs=[p,v]/\Hs=[H,HD]/\Rs=[R,RA,RG]/\iU H p dp S/\aE HD dp D/\js R RA v rows/\Gl RG g/\rows.length<=1000000/\(∀ r∈rows,0<=r.length)/\S.bA.length<=1048576/\0<=S.LA.serial/\S.recs.length<=1000000000
 post:=fun xs Hs Rs w Hs' F=>∃ p v H HD R RA RG dp S D rows H' HD',xs=[p,v]/\Hs=[H,HD]/\Rs=[R,RA,RG]/\iU H p dp S/\aE HD dp D/\js R RA v rows/\Hs'=[H',HD']/\aE HD' dp (cN D S rows).D/\iU H' p dp (cN D S rows).S/\w=.int .i64 (cN D S rows).e
def RC {L:LM} (h:Value.int .i64 (q.i n)=.int .i64 (L.most-bs.length)):q.i n=L.most-bs.length:=by simpa using h
noncomputable def Xj:List Sx.Spec:=[Ac,wO,pS,qD,AL,Vc,qO,tz]
def SQ:∀ t∈Xj,t.OK Tryz.prog:=av L6 <| av FL <| av Bt <| av GC <| av Gv <| av NV <| av HY <| av yo <| bQ
noncomputable def MS:aG Tryz.prog Xj Gy.fn where
 Λ:=fun p=>if Oa p then some ⟨0,[(51,TI .i64 (.var 60))],[(0,.bd 0 [.hptr (.var 5) (.lit 0),.hptr (.var 6) (.lit 0),.sl (.var 61) (.lit 0) (.var 62) (.var 63),.bool (.bvar 65)] 101),(3,.hp 64 [] [.var 61] [])],66⟩else none
 args:=[TP (.var 0) (.lit 0),.sv (.one (.sl (.var 1) (.var 2) (.var 3) (.var 4)))]
 mem:=[.bd 0 [.hptr (.var 5) (.lit 0),.hptr (.var 6) (.lit 0),.sl (.var 7) (.lit 0) (.var 8) (.var 9),.bool (.bvar 10)] 101,.hp 12 [] [.var 5] [.var 11],.hp 13 [] [.var 6] [.var 11],.hp 14 [] [.var 7] [],.hp 15 [] [.var 11] [],.ro 16 [.var 1] false,.ro 17 [] true,.ro 18 [.lit 0,.lit 1,.lit 2] false]
 nv:=19
def X0:Ac.res=[.one .sl,.one (.int .i64)]:=rfl
def X1:wO.res=[.one (.int .i64)]:=rfl
def X4:pS.res=[.agg (td 16)]:=rfl
def X5:qD.res=[.one (.int .i64)]:=rfl
def X7:AL.res=[.one .any]:=rfl
def X8:Vc.res=[.one .bool]:=rfl
def X9:qO.res=[.one (.int .i64)]:=rfl
def Vj:tz.res=[.one .sl]:=rfl
set_option maxRecDepth 8000 in
def Qc:Gy.OK Tryz.prog:=by
 refine jV (Γ:=Xj) SQ ?_;rintro xs Hs Rs hl1 hl2 hdis ⟨p,v,H,HD,R,RA,RG,g,dp,S,D,rows,rfl,rfl,rfl,hAt,hD,hB,hG,hlen,aC,hbA,hser,hrecs⟩;obtain⟨a,pa,pb,sl,HA,HB,HR,rfl,hIn⟩:=id hAt;obtain⟨us,x,y,c,rfl,hy,hul,hcell,hrd⟩:=id hB;obtain⟨da,s,m,es,clock,hdp,hDi⟩:=id hD;obtain⟨rx,rc,hrx,hsl⟩:=hIn.rows.rep;obtain⟨aa,_,_,hpa,_⟩:=id hIn.la;obtain⟨ab,_,_,hpb,_⟩:=id hIn.lb;obtain⟨l1,l2,l3,l4⟩:=Jy hIn.d1 hIn.d2 hIn.d3 hIn.d4 hIn.d5 hIn.d6;rw[<-hIn.hl]at l1 l2 l3 l4;have hHD:H.bP HD:=hdis 0 1 _ _ aA rfl rfl;generalize hρ:aO [(a:Int),x,y,us.length,c,aa,ab,rx,S.recs.length,rc,0,da] S.over [Hl.none,Hl.none,Hl.none,Hl.none,Hl.none,Hl.none,Hl.none,Hl.none,Hl.none,Hl.none,Hl.none,Hl.none,HA,HB,HR,HD,R,RA,RG]=J;have v0:J.i 0=a:=by rw[<-hρ];rfl
 have v1:J.i 1=x:=by rw[<-hρ];rfl
 have v2:J.i 2=y:=by rw[<-hρ];rfl
 have v3:J.i 3=us.length:=by rw[<-hρ];rfl
 have v4:J.i 4=c:=by rw[<-hρ];rfl
 have v5:J.i 5=aa:=by rw[<-hρ];rfl
 have v6:J.i 6=ab:=by rw[<-hρ];rfl
 have v7:J.i 7=rx:=by rw[<-hρ];rfl
 have v8:J.i 8=S.recs.length:=by rw[<-hρ];rfl
 have v9:J.i 9=rc:=by rw[<-hρ];rfl
 have v11:J.i 11=da:=by rw[<-hρ];rfl
 have b10:J.b 10=S.over:=by rw[<-hρ];rfl
 have w12:J.h 12=HA:=by rw[<-hρ];rfl
 have w13:J.h 13=HB:=by rw[<-hρ];rfl
 have w14:J.h 14=HR:=by rw[<-hρ];rfl
 have w15:J.h 15=HD:=by rw[<-hρ];rfl
 have w16:J.h 16=R:=by rw[<-hρ];rfl
 have w17:J.h 17=RA:=by rw[<-hρ];rfl
 have w18:J.h 18=RG:=by rw[<-hρ];rfl
 clear hρ;have ea:Value.pointer (az (aa:Int) 0)=pa:=by rw[gz,hpa]
 have eb:Value.pointer (az (ab:Int) 0)=pb:=by rw[gz,hpb]
 have eBlk:∀ (q:Env) (cs:CV) (o:E),q.i 0=a->q.i 5=aa->q.i 6=ab->(bD.bd 0 [.hptr (.var 5) (.lit 0),.hptr (.var 6) (.lit 0),cs,.bool o] 101).hl q=Mn a pa pb (cs.ev q) (ba q o):=by
  intro q cs o h0 h5 h6;show Hl.one (q.i 0).toNat (.cells #[Value.pointer (az (q.i 5) 0),Value.pointer (az (q.i 6) 0),cs.ev q,.bool (ba q o)] _ (0,0))=_;rw[h0,h5,h6,ea,eb,aaa];rfl
 have e0:(bD.bd 0 [.hptr (.var 5) (.lit 0),.hptr (.var 6) (.lit 0),.sl (.var 7) (.lit 0) (.var 8) (.var 9),.bool (.bvar 10)] 101).hl J=Mn a pa pb sl S.over:=by
  rw[eBlk J _ _ v0 v5 v6,br,b10]
  congr 1
  show Value.slice (az (J.i 7) 0) (J.i 8).toNat (J.i 9).toNat=_;rw[v7,v8,v9,aaa,aaa,hsl]
 refine⟨MS,J,fun _ q=>∃ k:Nat,q.i 60=k/\k<=rows.length/\ -1<=q.i 61/\0<=q.i 62/\0<=q.i 63/\q.b 65=false/\bU (q.h 64) (.slice (az (q.i 61) 0) (q.i 62).toNat (q.i 63).toNat) (S.recs++rows.take k),fun _ q=>(rows.length-q.i 60).toNat,?_,⟨?_,?_,?_,?_⟩,(fun _ h=>nomatch h),?_⟩
 .show [Value.pointer (az (J.i 0) 0),Value.slice (az (J.i 1) (J.i 2)) (J.i 3).toNat (J.i 4).toNat]=_;rw[v0,v1,v2,v3,v4,aaa,aaa,gz]
 .intro r hr ho;simp only[MS,aar,aaB,abe]at hr;rcases hr with rfl | rfl | rfl | rfl | rfl | rfl | rfl | rfl
  .exact⟨H,aF,by rw[e0];exact l1⟩
  .exact⟨H,aF,by show(J.h 12).le H;rw[w12];exact l2⟩
  .exact⟨H,aF,by show(J.h 13).le H;rw[w13];exact l3⟩
  .exact⟨H,aF,by show(J.h 14).le H;rw[w14];exact l4⟩
  .exact⟨HD,aF,by show(J.h 15).le HD;rw[w15];exact Hl.le_refl _⟩
  .cases ho
  .cases ho
  .cases ho
 .intro r hr ho;simp only[MS,aar,aaB,abe]at hr;rcases hr with rfl | rfl | rfl | rfl | rfl | rfl | rfl | rfl
  .cases ho
  .cases ho
  .cases ho
  .cases ho
  .cases ho
  .exact⟨R,aF,by show(J.h 16).le R;rw[w16];exact Hl.le_refl _⟩
  .exact⟨RA,aF,by show(J.h 17).le RA;rw[w17];exact Hl.le_refl _⟩
  .exact⟨RG,aF,by show(J.h 18).le RG;rw[w18];exact Hl.le_refl _⟩
 .have dD:∀ K:Hl,K.le H->K.bP HD:=fun K hK=>Hl.iZ (Hl.yw (Hl.iZ hHD) hK);have mem4:MS.mem=[.bd 0 [.hptr (.var 5) (.lit 0),.hptr (.var 6) (.lit 0),.sl (.var 7) (.lit 0) (.var 8) (.var 9),.bool (.bvar 10)] 101,.hp 12 [] [.var 5] [.var 11],.hp 13 [] [.var 6] [.var 11],.hp 14 [] [.var 7] [],.hp 15 [] [.var 11] [],.ro 16 [.var 1] false,.ro 17 [] true,.ro 18 [.lit 0,.lit 1,.lit 2] false]:=rfl;rw[mem4];have ro3:∀ (l:Mem),(∀ r∈l,r.own=false)->∀ K:bD,∀ r∈l,K.own=true->r.own=true->(K.hl J).bP (r.hl J):=fun l h K r hr _ ho=>by rw[h r hr]at ho;cases ho
  have hro:∀ r∈([.ro 16 [.var 1] false,.ro 17 [] true,.ro 18 [.lit 0,.lit 1,.lit 2] false]:Mem),r.own=false:=by
   intro r hr;simp only[aar,aaB,abe]at hr;rcases hr with rfl | rfl | rfl<;>rfl
  refine List.Pairwise.cons (fun r hr hk ho=>?_) (List.Pairwise.cons (fun r hr hk ho=>?_) (List.Pairwise.cons (fun r hr hk ho=>?_) (List.Pairwise.cons (fun r hr hk ho=>?_) (List.Pairwise.cons (fun r hr hk ho=>ro3 _ hro _ r hr hk ho) (List.Pairwise.cons (fun r hr hk ho=>by cases hk) (List.Pairwise.cons (fun r hr hk ho=>by cases hk) (List.Pairwise.cons (fun r hr=>by cases hr) List.Pairwise.nil)))))))
  .rw[e0];rw[aar,aar,aar,aar]at hr;rcases hr with rfl | rfl | rfl | rfl | hr
   .show(Mn a pa pb sl S.over).bP (J.h 12);rw[w12];exact hIn.d1
   .show(Mn a pa pb sl S.over).bP (J.h 13);rw[w13];exact hIn.d2
   .show(Mn a pa pb sl S.over).bP (J.h 14);rw[w14];exact hIn.d3
   .show(Mn a pa pb sl S.over).bP (J.h 15);rw[w15];exact dD _ l1
   .rw[hro r hr]at ho;cases ho
  .rw[aar,aar,aar]at hr;show(J.h 12).bP _;rw[w12];rcases hr with rfl | rfl | rfl | hr
   .show HA.bP (J.h 13);rw[w13];exact hIn.d4
   .show HA.bP (J.h 14);rw[w14];exact hIn.d5
   .show HA.bP (J.h 15);rw[w15];exact dD _ l2
   .rw[hro r hr]at ho;cases ho
  .rw[aar,aar]at hr;show(J.h 13).bP _;rw[w13];rcases hr with rfl | rfl | hr
   .show HB.bP (J.h 14);rw[w14];exact hIn.d6
   .show HB.bP (J.h 15);rw[w15];exact dD _ l3
   .rw[hro r hr]at ho;cases ho
  .rw[aar]at hr;show(J.h 14).bP _;rw[w14];rcases hr with rfl | hr
   .show HR.bP (J.h 15);rw[w15];exact dD _ l4
   .rw[hro r hr]at ho;cases ho
 .intro r hr;simp only[MS,aar,aaB,abe]at hr;rcases hr with rfl | rfl | rfl | rfl | rfl | rfl | rfl | rfl
  .show(0:Int)<=J.i 0;omega
  all_goals trivial
 .refine aG.read [] [] [] ?_;have fin:∀ (q:Env) (hL hR hK:Nat) (vL vM vR vK:List Nat) (rL rM rR rK kL kM kR kK:List E) (cs:CV) (o rv:E) (t:Mem),ai 19 J q ->
   fc (q.h hL) pa dp (cN D S rows).S.LA (cN D S rows).S.bA->(cN D S rows).S.LB=S.LB/\(cN D S rows).S.bB=S.bB->bU (q.h hR) (cs.ev q) (cN D S rows).S.recs->ba q o=(cN D S rows).S.over->aE (q.h hK) dp (cN D S rows).D->aB q rv=(cN D S rows).e ->
   postOf Gy [.pointer (some ⟨a,0,none⟩),.slice (az x y) us.length c] [H,HD] [R,RA,RG] q (.bd 0 [.hptr (.var 5) (.lit 0),.hptr (.var 6) (.lit 0),cs,.bool o] 101::.hp hL vL rL kL::.hp 13 vM rM kM::.hp hR vR rR kR::.hp hK vK rK kK::t) (.sv (.one (.int .i64 rv))):=by
   intro q hL hR hK vL vM vR vK rL rM rR rK kL kM kR kK cs o rv t hg hLq hSB hRq hoq hDq heq hd;have g0:q.i 0=a:=by rw[hg.i 0,v0]
   have g5:q.i 5=aa:=by rw[hg.i 5,v5]
   have g6:q.i 6=ab:=by rw[hg.i 6,v6]
   have eq0:=eBlk q cs o g0 g5 g6;rw[hoq]at eq0;refine⟨[[0,1,2,3],[4]],[],rfl,rfl,⟨(aY fun _=>(cN D S rows).e),?_,zzT,zzT⟩,_,_,H,HD,R,RA,RG,dp,S,D,rows,_,_,rfl,rfl,rfl,hAt,hD,hB,rfl,?_,?_,?_⟩
   .show Value.int .i64 (aB q rv)=.int .i64 (cN D S rows).e;rw[heq]
   .show aE (cP [q.h hK]) _ _;rw[aL];exact hDq
   .refine⟨a,pa,pb,cs.ev q,q.h hL,q.h 13,q.h hR,rfl,hLq,?_,hRq,?_,?_,?_,hd 1 2 _ _ aA rfl rfl rfl,hd 1 3 _ _ aA rfl rfl rfl,hd 2 3 _ _ aA rfl rfl rfl,?_⟩
    .rw[hSB.1,hSB.2,hg.h 13,w13];exact hIn.lb
    .rw[<-eq0];exact hd 0 1 _ _ aA rfl rfl rfl
    .rw[<-eq0];exact hd 0 2 _ _ aA rfl rfl rfl
    .rw[<-eq0];exact hd 0 3 _ _ aA rfl rfl rfl
    .rw[<-eq0];rfl
   .show Value.int .i64 (aB q rv)=.int .i64 (cN D S rows).e;rw[heq]
  simp only[go_sem,Nat.reduceAdd,Xj,X0,X1,X4,X5,X7,X8,X9,Vj,Gw,Zu];have evs:Value.slice (az (J.i 7) 0) (J.i 8).toNat (J.i 9).toNat=sl:=by rw[v7,v8,v9,aaa,aaa,hsl]
  have keepL:∀ q:Env,ai 19 J q->fc (q.h 12) pa dp S.LA S.bA/\bU (q.h 14) (CV.ev q (.sl (.var 7) (.lit 0) (.var 8) (.var 9))) S.recs/\ba q (.bvar 10)=S.over/\aE (q.h 15) dp D:=by
   intro q hg;refine⟨by rw[hg.h 12,w12];exact hIn.la,?_,by rw[br,hg.b 10,b10],by rw[hg.h 15,w15];exact hD⟩;show bU (q.h 14) (.slice (az (q.i 7) 0) (q.i 8).toNat (q.i 9).toNat) _;rw[hg.h 14,hg.i 7,hg.i 8,hg.i 9,w14,evs];exact hIn.rows
  have same:∀ (q:Env) (e:Int) (rv:E) (t:Mem),ai 19 J q->cN D S rows=⟨e,D,S⟩->aB q rv=e->postOf Gy [.pointer (some ⟨a,0,none⟩),.slice (az x y) us.length c] [H,HD] [R,RA,RG] q (.bd 0 [.hptr (.var 5) (.lit 0),.hptr (.var 6) (.lit 0),.sl (.var 7) (.lit 0) (.var 8) (.var 9),.bool (.bvar 10)] 101::.hp 12 [] [.var 5] [.var 11]::.hp 13 [] [.var 6] [.var 11]::.hp 14 [] [.var 7] []::.hp 15 [] [.var 11] []::t) (.sv (.one (.int .i64 rv))):=by
   intro q e rv t hg he hrv;obtain⟨k1,k2,k3,k4⟩:=keepL q hg;exact fin q 12 14 15 _ _ _ _ _ _ _ _ _ _ _ _ _ _ rv t hg (by rw[he];exact k1) (by rw[he];exact⟨rfl,rfl⟩) (by rw[he];exact k2) (by rw[he];exact k3) (by rw[he];exact k4) (by rw[he];exact hrv)
  have hp0:Value.pointer (az (J.i 0) 0)=.pointer (some ⟨a,0,none⟩):=by rw[v0,gz]
  have hv0:Value.slice (az (J.i 1) (J.i 2)) (J.i 3).toNat (J.i 4).toNat=.slice (az x y) us.length c:=by rw[v1,v2,v3,v4,aaa,aaa]
  have hc3:(Mn a pa pb sl S.over).cell a 3=some (.bool S.over):=by unfold Mn;rw[Hl.one_cell];rfl
  have e0':Hl.one (J.i 0).toNat (.cells #[Value.pointer (az (J.i 5) 0),Value.pointer (az (J.i 6) 0),Value.slice (az (J.i 7) 0) (J.i 8).toNat (J.i 9).toNat,Value.bool (ba J (.bvar 10))] 101 (0,0))=Mn a pa pb sl S.over:=e0;rw[hp0,hv0,e0',w16,w17];refine⟨⟨_,_,a,S.over,_,R,RA,rows,rfl,rfl,rfl,hc3,hB,hlen,aC⟩,fun q1 g1 ⟨F1,hp1,hF1,hn1⟩=>?_⟩;obtain⟨u1,e1,hv1,hE1,hO1⟩:=Il hc3 hB hp1;simp only[Value.tuple.injEq,aaT,aag,Value.int.injEq,aaY,aat]at hv1;obtain⟨eu,ee⟩:=hv1;have hn19:-1<=q1.i 19/\0<=q1.i 20/\0<=q1.i 21/\0<=q1.i 22:=hn1.1;refine⟨fun h23=>?_,fun h23=>same q1 (q1.i 23) _ _ g1 ?_ (ak _ _)⟩
  rotate_left
  .rw[ee]at h23 ⊢;unfold cN;cases ho:S.over with
   | true=>rw[aav rfl,hE1.1 ho]
   | false =>
    rw[aan aF];by_cases hk:ib rows
    .exact absurd (hE1.2.1 ho hk) h23
    .rw[aav hk,hE1.2.2 ho hk]
  have he0:e1=0:=by rw[<-ee];exact h23
  have ho:¬S.over=true:=fun h=>by have:=hE1.1 h;omega
  have hof:S.over=false:=abC.2 ho;have hk:ib rows:=abv fun h=>by have:=hE1.2.2 hof h;omega
  have hOw:bO (q1.h 19) 5 (.slice (az (q1.i 19) (q1.i 20)) (q1.i 21).toNat (q1.i 22).toNat) (bF rows):=by rw[hF1 trivial,eu];exact hO1 he0
  have h21:q1.i 21=(bF rows).length:=(hOw.rd.at hn19.1 hn19.2.1 hn19.2.2.1).1;rw[g1.i 3,v3];refine⟨ah,fun hz=>same q1 0 _ _ g1 ?_ h23,fun hnz=>⟨ah,?_⟩⟩
  .have hz:(us.length:Int)=0:=hz;have hz2:rows.length=0:=by rw[<-hul];omega
   have:rows=[]:=aad.1 hz2;unfold cN;rw[aan ho,aan (fun h=>h hk),aav this]
  have hne:rows≠[]:=fun h=>by
   have hnz:¬(us.length:Int)=0:=hnz;rw[h]at hul;have:us.length=0:=hul;omega
  have hpa':∀ q:Env,ai 19 J q->Value.pointer (az (q.i 5) 0)=pa:=fun q hg=>by rw[hg.i 5,v5,ea]
  have kA:∀ q:Env,ai 19 J q->fc (q.h 12) pa dp S.LA S.bA:=fun q hg=>(keepL q hg).1;rw[hpa' q1 g1];refine⟨O8 (kA q1 g1).rd hbA,fun q2 g2 ⟨F2,hp2,_⟩=>?_⟩;have G2:ai 19 J q2:=g1.tr g2;have h24:q2.i 24=S.LA.most-S.bA.length:=RC (Ma (kA q1 g1).rd hp2);have h21':q2.i 21=(bF rows).length:=by rw[g2.i 21,h21]
  refine⟨fun hlt=>same q2 4 _ _ G2 ?_ (aq _ _),fun hge=>?_⟩
  .rw[h24,h21']at hlt;unfold cN;rw[aan ho,aan (fun h=>h hk),aan hne,aav hlt]
  rw[h24,h21']at hge;have hAdd:cN D S rows=Gx D S rows (bu D S.LA S.bA (bF rows) S.LA.note):=by
   unfold cN;rw[aan ho,aan (fun h=>h hk),aan hne,aan hge]
  generalize hr:bu D S.LA S.bA (bF rows) S.LA.note=r at hAdd;rw[hpa' q2 G2];refine⟨Lr (kA q2 G2).rd,fun q3 g3 ⟨F3,hp3,_⟩=>?_⟩;have G3:ai 19 J q3:=G2.tr g3;have hv3:=HE (kA q2 G2).rd hp3;have ec3:(al 25 (List.replicate 16 (Ck.int .u8))).map (CV.ev q3)=aM S.LA.note:=aaG (Value.agg.inj hv3);have hn16:S.LA.note.length=16:=by obtain⟨_,⟨_,_,hLi⟩,_⟩:=hIn.la.rd;exact hLi.1.note
  have hRd3:fu (q3.h 19) (.slice (az (q3.i 19) (q3.i 20)) (q3.i 21).toNat (q3.i 22).toNat) (bF rows):=by
   have G13:ai 24 q1 q3:=g2.tr g3;rw[G13.h 19,G13.i 19,G13.i 20,G13.i 21,G13.i 22];exact hOw.rd.w
  have kD3:aE (q3.h 15) dp D:=(keepL q3 G3).2.2.2;rw[hpa' q3 G3,ec3];refine⟨⟨_,_,_,_,_,_,_,dp,_,_,_,rfl,rfl,rfl,kA q3 G3,kD3,hRd3,hbA,hn16,hser⟩,fun q4 g4 ⟨F4,hp4,_⟩=>?_⟩;obtain⟨HL4,HD4,hK,hD4,hL4,hv4⟩:=Ec (kA q3 G3) kD3 hRd3 hp4;rw[hr]at hD4 hL4 hv4;have hK1:q4.h 41=HL4/\q4.h 42=HD4:=by
   have h1:[q4.h 41,q4.h 42]=[HL4,HD4]:=hK;simpa using h1
  obtain⟨hK1,hK2⟩:=hK1;have h41:q4.i 41=r.e:=by simpa using hv4
  have G4:ai 19 J q4:=G3.tr g4;rw[h41,G4.h 18,w18];refine⟨⟨_,_,RG,g,rfl,rfl,hG⟩,fun q5 g5 ⟨F5,⟨s5,c5,R5,x1,x2,hE5⟩,_⟩=>?_⟩;simp only[aag,Value.string.injEq,Value.int.injEq,aaY,aat]at x1 x2;obtain⟨x1,x3⟩:=x1;subst x1 x2 x3;have hE5:lZ g (q5.v 44) r.e:=hE5 g hG;have G5:ai 19 J q5:=G4.tr g5;have cL:RG.cell (Int.toNat 0) (Int.toNat 0)=some (gv g oZ):=hG.cell oZ (Or.inl rfl);rw[G5.h 18,w18,cL];refine⟨rfl,⟨_,_,RG,g,r.e,oZ,rfl,rfl,hG,hE5,Or.inl rfl,rfl⟩,fun q6 g6 ⟨F6,hp6,_⟩=>?_⟩;have r6:=Hv hG hE5 (Or.inl rfl) hp6;rw[r6];have G6:ai 19 J q6:=G5.tr g6;have hE6:lZ g (q6.v 44) r.e:=by rw[g6.v 44];exact hE5
  have num:∀ (q7:Env),ai 46 q6 q7->(∃ F,qO.post [q6.v 44] [] [RG] (.int .i64 (q7.i 46)) [] F/\(aK 0 [Cp.one (Ck.int .i64)]≠[]->q7.h 46=F)/\dZ 46 [Cp.one (Ck.int .i64)] q7)->q7.i 46=ru r.e/\ai 19 J q7/\ai 43 q4 q7:=by
   intro q7 g7 ⟨F7,⟨e7,R7,x1,x2,h7⟩,_⟩;simp only[aag,aat]at x1 x2;subst x1 x2;have:=h7 g r.e hG hE6;exact⟨by simpa using this,G6.tr g7,(g5.trans ((g6.tr g7).mono ah)).mono ah⟩
  rw[G6.h 18,w18];refine⟨fun hcl=>⟨⟨_,RG,g,r.e,rfl,rfl,hG,hE6⟩,fun q7 g7 hq7=>?_⟩,fun hcl=>⟨⟨_,RG,g,r.e,rfl,rfl,hG,hE6⟩,fun q7 g7 hq7=>?_⟩⟩
  .obtain⟨hn46,G7,G47⟩:=num q7 g7 hq7;have hnz46:¬ru r.e=0:=by
    unfold ru;rw[aan hcl.1,aan (by rw[hcl.2];decide),aan (by rw[hcl.2];decide)];decide
   refine⟨fun _=>?_,fun h=>absurd (hn46.symm.trans h) hnz46⟩;refine fin q7 41 14 42 _ _ _ _ _ _ _ _ _ _ _ _ (.sl (.var 7) (.lit 0) (.var 8) (.var 9)) _ _ _ G7 ?_ ?_ ?_ ?_ ?_ ?_
   .rw[hAdd,G47.h 41,hK1];exact hL4
   .rw[hAdd];exact⟨rfl,rfl⟩
   .rw[hAdd];unfold Gx;rw[aan hnz46];exact(keepL q7 G7).2.1
   .rw[hAdd];show true=(if _ then true else S.over);rw[aav hcl]
   .rw[hAdd,G47.h 42,hK2];exact hD4
   .rw[hAdd,ak,hn46];rfl
  .obtain⟨hn46,G7,G47⟩:=num q7 g7 hq7;refine⟨fun hnz46=>?_,fun h46=>?_⟩
   .refine fin q7 41 14 42 _ _ _ _ _ _ _ _ _ _ _ _ (.sl (.var 7) (.lit 0) (.var 8) (.var 9)) _ _ _ G7 ?_ ?_ ?_ ?_ ?_ ?_
    .rw[hAdd,G47.h 41,hK1];exact hL4
    .rw[hAdd];exact⟨rfl,rfl⟩
    .rw[hAdd];unfold Gx;rw[aan (fun h=>hnz46 (hn46.trans h))];exact(keepL q7 G7).2.1
    .rw[hAdd,(keepL q7 G7).2.2.1];show S.over=(if _ then true else S.over);rw[aan hcl]
    .rw[hAdd,G47.h 42,hK2];exact hD4
    .rw[hAdd,ak,hn46];rfl
   .clear num;refine⟨⟨0,rfl,abi _,by show -1<=q7.i 7;rw[G7.i 7,v7];exact hrx,by show 0<=q7.i 8;rw[G7.i 8,v8];omega,by show 0<=q7.i 9;rw[G7.i 9,v9];omega,?_,?_⟩,fun q8 g8 ⟨k,ek,rP,x61,x62,x63,b65,hRk⟩=>?_⟩
    .show ba q7 (.bvar 10)=false;rw[br,G7.b 10,b10,hof]
    .show bU (q7.h 14) (.slice (az (q7.i 7) 0) (q7.i 8).toNat (q7.i 9).toNat) _;rw[G7.h 14,G7.i 7,G7.i 8,G7.i 9,w14,evs,ace,aa6];exact hIn.rows
    have G8:ai 19 J q8:=G7.tr g8;have h62:q8.i 62=S.recs.length+k:=by
     have:=(hRk.at x61 x62).1;rw[aac,aaA]at this;omega
    rw[G8.i 1,G8.i 2,G8.i 3,G8.h 16,G8.h 17,v1,v2,v3,w16,w17,ek];refine⟨fun hlt=>?_,fun hge=>?_⟩
    .have hkr:k<rows.length:=ah;have hrk:rows[k]?=some rows[k]:=aab hkr;have hu:us[k]?=some us[k]:=aab ah;obtain⟨hx0,hc⟩:=hcell k _ hu;have hRr:=hrd k _ _ hu hrk;have hsl:∃ a l c,us[k]=Value.slice a l c:=(fu.parts hRr).1;have hck:R.cell x.toNat (y+(k:Int)).toNat=some us[k]:=by rw[show(y+(k:Int)).toNat=y.toNat+k by omega];exact hc
     rw[hck,iq hsl];refine⟨hx0,hy,ah,by obtain⟨_,_,_,e⟩:=hsl;rw[e];rfl,⟨_,_,RA,rfl,rfl,hRr,ab7 (hk _ (abp _)) aA⟩,fun q9 g9 ⟨F9,⟨u9,bs9,R9,x1,x2,hR9,hO9⟩,hF9,hn9⟩ q10 g10 _ q11 g11 ⟨e11,hd11⟩=>?_⟩;simp only[aag,aat]at x1 x2;subst x1 x2;obtain rfl:=hRr.uniq hR9;rw[<-hF9 zzT]at hO9;have hn9:-1<=q9.i 66/\0<=q9.i 67/\0<=q9.i 68/\0<=q9.i 69:=hn9.1;have G10:ai 66 q8 q10:=g9.tr g10;have G11:ai 66 q8 q11:=G10.tr g11;have G9:ai 70 q9 q11:=g10.tr g11;have hu9:oa (q10.h 66) none (.slice (az (q11.i 66) (q11.i 67)) (q11.i 68).toNat (q11.i 69).toNat) rows[k]:=by
      rw[g10.h 66,G9.i 66,G9.i 67,G9.i 68,G9.i 69];exact oa.of hO9.rd.w hn9.1 hn9.2.1
     rw[e11,G10.h 64,G11.i 61,G11.i 62,G11.i 63];rw[G10.h 64]at hd11;have hpre:∃ xs,aN ((q8.h 64).un (q10.h 66)) 46 1 (.slice (az (q8.i 61) 0) (q8.i 62).toNat (q8.i 63).toNat) (q8.i 62).toNat xs:=by
      obtain⟨us',ho',_⟩:=hRk;rw[show(q8.i 62).toNat=(S.recs++rows.take k).length by rw[aac,aaA];omega]at ho' ⊢;exact⟨us',ho'.mono (Hl.bh _ _)⟩
     refine⟨⟨hpre,x62,by unfold maxLen;omega,ah⟩,fun q12 g12 ⟨a1,a2,happ,hkp,_,hnw⟩=>?_⟩;have G12:ai 66 q8 q12:=G11.tr g12;have hrows:=vu hRk x61 x62 hd11 hu9 a1 happ hkp hnw;have e62:q12.i 62+1=q8.i 62+1:=by rw[G12.i 62]
     have e60:q12.i 60=k:=by rw[G12.i 60,ek]
     have w60:IntKind.i64.wrap (q12.i 60+1)=(k:Int)+1:=by rw[e60];exact wrap_i64 ah ah
     refine⟨⟨k+1,?_,ah,a1,?_,a2,?_,?_⟩,?_⟩
     .show IntKind.i64.wrap (q12.i 60+1)=_;rw[w60];rfl
     .show 0<=q12.i 62+1;omega
     .show q12.b 65=false;rw[G12.b 65];exact b65
     .show bU (q12.h 72) (.slice (az (q12.i 72) 0) (q12.i 62+1).toNat (q12.i 73).toNat) _;rw[e62,abx,hrk,abN,<-aax];exact hrows
     .show((rows.length:Int)-IntKind.i64.wrap (q12.i 60+1)).toNat<_;rw[w60];omega
    .have hke:k=rows.length:=ah;subst hke;rw[abk]at hRk;refine fin q8 41 64 42 _ _ _ _ _ _ _ _ _ _ _ _ (.sl (.var 61) (.lit 0) (.var 62) (.var 63)) _ _ _ G8 ?_ ?_ ?_ ?_ ?_ ?_
     .rw[hAdd,g8.h 41,G47.h 41,hK1];exact hL4
     .rw[hAdd];exact⟨rfl,rfl⟩
     .rw[hAdd];unfold Gx;rw[aav (hn46.symm.trans h46)];exact hRk
     .rw[br,b65,hAdd];show false=(if _ then true else S.over);rw[aan hcl];exact hof.symm
     .rw[hAdd,g8.h 42,G47.h 42,hK2];exact hD4
     .rw[hAdd,aq];exact(hn46.symm.trans h46).symm
def iQ : Value.pointer (az (bm (some (Value.pointer (some ⟨a,0,none⟩))) 0) (bm (some (Value.pointer (some ⟨a,0,none⟩))) 1))=.pointer (some ⟨a,0,none⟩):=by
 show Value.pointer (az ((a:Nat):Int) 0)=_;rw[gz]
def Cn.cells (h:Cn H a dp pa pb sl S):H.cell a 0=some pa/\H.cell a 2=some sl:=by
 unfold Hl.cell;rw[h.bd];exact⟨rfl,rfl⟩
def B8:Sx.Spec where
 fn:=20
 own:=[]
 rd:=[0]
 res:=[.one .sl]
 pre:=fun xs Hs Rs=>∃ p R dp S,xs=[p]/\Rs=[R]/\jX R p dp S/\S.recs.length<=1000000000/\∀ r∈S.recs,r.length<=1000000
 post:=fun xs Hs Rs v Hs' F=>∃ p R dp S,xs=[p]/\Rs=[R]/\jX R p dp S/\bU F v S.recs
def B9 (h:jX R p dp S) (hp:B8.post [p] [] [R] v K F):bU F v S.recs:=by
 obtain⟨p',R',dp',S',e1,e2,h',hv⟩:=hp;simp only[aag,aat]at e1 e2;subst e1 e2;obtain⟨_,rfl⟩:=h.uniq h';exact hv
def WU:List Sx.Spec:=[tz]
def UR:∀ t∈WU,t.OK Tryz.prog:=fun t ht=>by
 simp only[WU,aar,aaB,abe]at ht;rw[ht];exact yo
def Ge:aG Tryz.prog WU B8.fn where
 Λ:=fun p=>if Oa p then some ⟨0,[(11,TI .i64 (.var 50)),(3,.sv (.one (.sl (.var 53) (.lit 0) (.var 54) (.var 55))))],[(1,.hp 56 [] [.var 53] [])],60⟩else none
 args:=[TP (.var 0) (.lit 0)]
 mem:=[.ro 1 [.var 0] true]
 nv:=2
def Gd:B8.OK Tryz.prog:=by
 refine Spec.aS (Γ:=WU) UR ?_;rintro xs Hs Rs hl1 hl2 ⟨p,R,dp,S,rfl,rfl,hS,hlen,aC⟩;have e0:Hs=[]:=aad.1 hl1;subst e0;obtain⟨a,pa,pb,sl,rfl,hr⟩:=id hS;have hc:=hr.cells.2;obtain⟨rx,rc,hrx,rfl⟩:=hr.rows.rep;have hat:=bU.at (l:=(S.recs.length:Int)) (c:=(rc:Int)) (rows:=S.recs) (by rw[aaa,aaa];exact hr.rows) hrx ah;refine⟨Ge,aO [(a:Int)] false [Hl.none,R],fun _ q=>∃ k:Nat,q.i 50=k/\k<=S.recs.length/\ -1<=q.i 53/\0<=q.i 54/\0<=q.i 55/\bU (q.h 56) (.slice (az (q.i 53) 0) (q.i 54).toNat (q.i 55).toNat) (S.recs.take k),fun _ q=>(S.recs.length-q.i 50).toNat,?_,⟨?_,?_,?_,?_⟩,(fun _ h=>nomatch h),?_⟩
 .show [Value.pointer (az (a:Int) 0)]=_;rw[gz]
 .intro r hr ho;simp [Ge]at hr;subst hr;cases ho
 .intro r hr ho;simp [Ge]at hr;subst hr;exact⟨R,aF,Hl.le_refl _⟩
 .simp [Ge]
 .intro r hr;simp [Ge]at hr;subst hr;trivial
 .refine aG.read [] [] [] ?_;generalize hρ:aO [(a:Int)] false [Hl.none,R]=J;have v0:J.i 0=a:=by rw[<-hρ];rfl
  have w1:J.h 1=R:=by rw[<-hρ];rfl
  clear hρ;have t2:Int.toNat 2=2:=rfl;simp only[go_sem,Nat.reduceAdd,WU,Vj,Gw,t2];rw[v0,w1,aaa,hc,nT hrx];refine⟨ah,rfl,ah,⟨0,rfl,abi _,aap _,aap _,aap _,bU.nil _⟩,fun q8 g8 ⟨k,ek,rP,x61,x62,x63,hRk⟩=>?_⟩;have h62:q8.i 54=k:=by
   have:=(hRk.at x61 x62).1;rw[aaA]at this;omega
  rw[g8.i 0,g8.h 1,v0,w1,ek,aaa,hc,nT hrx];refine⟨fun hlt=>?_,fun hge=>?_⟩
  .have hkr:k<S.recs.length:=ah;have hrk:S.recs[k]?=some S.recs[k]:=aab hkr;obtain⟨hx0,u,hcu,hRu⟩:=hat.2 k _ hrk;have hRr:=hRu.rd;have hsl:∃ a l c,u=Value.slice a l c:=(fu.parts hRr).1;rw[AG hrx,Gr hx0 (aap _)];have hck:R.cell rx.toNat (0+(k:Int)).toNat=some u:=by rw[show(0+(k:Int)).toNat=k by omega];exact hcu
   rw[hck,iq hsl];refine⟨hx0,aap _,ah,by obtain⟨_,_,_,e⟩:=hsl;rw[e];rfl,⟨_,_,R,rfl,rfl,hRr,aC _ (abp _)⟩,fun q9 g9 ⟨F9,⟨u9,bs9,R9,x1,x2,hR9,hO9⟩,hF9,hn9⟩ q10 g10 _ q11 g11 ⟨e11,hd11⟩=>?_⟩;simp only[aag,aat]at x1 x2;subst x1 x2;obtain rfl:=hRr.uniq hR9;rw[<-hF9 zzT]at hO9;have hn9:-1<=q9.i 60/\0<=q9.i 61/\0<=q9.i 62/\0<=q9.i 63:=hn9.1;have G10:ai 60 q8 q10:=g9.tr g10;have G11:ai 60 q8 q11:=G10.tr g11;have G9:ai 64 q9 q11:=g10.tr g11;have hu9:oa (q10.h 60) none (.slice (az (q11.i 60) (q11.i 61)) (q11.i 62).toNat (q11.i 63).toNat) S.recs[k]:=by
    rw[g10.h 60,G9.i 60,G9.i 61,G9.i 62,G9.i 63];exact oa.of hO9.rd.w hn9.1 hn9.2.1
   rw[e11,G10.h 56,G11.i 53,G11.i 54,G11.i 55];rw[G10.h 56]at hd11;have hpre:∃ xs,aN ((q8.h 56).un (q10.h 60)) 46 1 (.slice (az (q8.i 53) 0) (q8.i 54).toNat (q8.i 55).toNat) (q8.i 54).toNat xs:=by
    obtain⟨us',ho',_⟩:=hRk;rw[show(q8.i 54).toNat=(S.recs.take k).length by rw[aaA];omega]at ho' ⊢;exact⟨us',ho'.mono (Hl.bh _ _)⟩
   refine⟨⟨hpre,x62,by unfold maxLen;omega,ah⟩,fun q12 g12 ⟨a1,a2,happ,hkp,_,hnw⟩=>?_⟩;have G12:ai 60 q8 q12:=G11.tr g12;have hrows:=vu hRk x61 x62 hd11 hu9 a1 happ hkp hnw;have e62:q12.i 54+1=q8.i 54+1:=by rw[G12.i 54]
   have e60:q12.i 50=k:=by rw[G12.i 50,ek]
   have w60:IntKind.i64.wrap (q12.i 50+1)=(k:Int)+1:=by rw[e60];exact wrap_i64 ah ah
   refine⟨⟨k+1,?_,ah,a1,?_,a2,?_⟩,?_⟩
   .show IntKind.i64.wrap (q12.i 50+1)=_;rw[w60];rfl
   .show 0<=q12.i 54+1;omega
   .show bU (q12.h 66) (.slice (az (q12.i 66) 0) (q12.i 54+1).toNat (q12.i 67).toNat) _;rw[e62,abx,hrk,abN];exact hrows
   .show((S.recs.length:Int)-IntKind.i64.wrap (q12.i 50+1)).toNat<_;rw[w60];omega
  .have hke:k=S.recs.length:=ah;subst hke;rw[abk]at hRk;intro _;refine⟨[],[1],rfl,rfl,⟨(aY fun j=>[q8.i 53,0,q8.i 54,q8.i 55].getD j 0),rfl,⟨x61,aap _,x62,x63⟩,zzT⟩,_,R,dp,S,rfl,rfl,hS,?_⟩;show bU (cP [q8.h 56]) _ _;rw[aL];exact hRk
def Z0:Env:=(aY fun _=>0)
def cO {mem:Mem} (h1:∀ r∈mem,∃ k t a,r=.ro k t a) (h2:mem.map (bD.hl J)=Rs):Entry J mem Hs Rs:=by
 refine⟨fun r hr ho=>?_,fun r hr _=>⟨r.hl J,by rw[<-h2];exact aaQ.2 ⟨r,hr,rfl⟩,Hl.le_refl _⟩,?_,fun r hr=>?_⟩
 .obtain⟨k,t,a,rfl⟩:=h1 r hr;cases ho
 .refine acu.2 fun i j hi hj _ ho=>?_;obtain⟨k,t,a,e⟩:=h1 mem[i] (abp hi);rw[e]at ho;cases ho
 .obtain⟨k,t,a,rfl⟩:=h1 r hr;trivial
def DJ:Sx.Spec where
 fn:=23
 own:=[]
 rd:=[0]
 res:=[.one .bool]
 pre:=fun xs Hs Rs=>∃ p R dp S,xs=[p]/\Rs=[R]/\jX R p dp S
 post:=fun xs Hs Rs v Hs' F=>∀ p R dp S,xs=[p]->Rs=[R]->jX R p dp S->v=.bool S.over
def Aw:aG Tryz.prog [] DJ.fn where
 Λ:=aD
 args:=[TP (.var 0) (.lit 0)]
 mem:=[.ro 1 [.var 0] true]
 nv:=2
def Mv:DJ.OK Tryz.prog:=by
 refine Spec.aS (Γ:=[]) (fun _ h=>by cases h) ?_;rintro xs Hs Rs hl1 hl2 ⟨p,R,dp,S,rfl,rfl,hS⟩;have e0:Hs=[]:=aad.1 hl1;subst e0;obtain⟨a,pa,pb,sl,rfl,hr⟩:=id hS;have hc:R.cell a 3=some (.bool S.over):=by unfold Hl.cell;rw[hr.bd];rfl
 refine⟨Aw,aO [(a:Int)] false [Hl.none,R],fun _ _=>True,fun _ _=>0,?_,⟨?_,?_,?_,?_⟩,(fun _ h=>nomatch h),?_⟩
 .show [Value.pointer (az (a:Int) 0)]=_;rw[gz]
 .intro r hr ho;simp [Aw]at hr;subst hr;cases ho
 .intro r hr ho;simp [Aw]at hr;subst hr;exact⟨R,aF,Hl.le_refl _⟩
 .simp [Aw]
 .intro r hr;simp [Aw]at hr;subst hr;trivial
 .refine aG.read [] [] [] ?_;generalize hρ:aO [(a:Int)] false [Hl.none,R]=J;have v0:J.i 0=a:=by rw[<-hρ];rfl
  have w1:J.h 1=R:=by rw[<-hρ];rfl
  clear hρ;have t3:Int.toNat 3=3:=rfl;simp only[go_sem,Nat.reduceAdd,t3];rw[v0,w1,aaa,hc];refine⟨ah,rfl,fun _=>⟨[],[],rfl,rfl,⟨⟨fun _=>0,fun _=>S.over,fun _=>.empty,fun _=>.tuple #[],fun _=>Hl.none⟩,?_,zzT,zzT⟩,fun p' R' dp' S' e1 e2 h'=>?_⟩⟩
  .show Value.bool (ba J (.hB 1 (.var 0) (.lit 3) 0))=.bool S.over;show Value.bool (xm ((J.h 1).cell (J.i 0).toNat (Int.toNat 3)))=_;rw[v0,w1,aaa,t3,hc];rfl
  .simp only[aag,aat]at e1 e2;subst e1 e2;obtain⟨_,rfl⟩:=hS.uniq h';show Value.bool (xm ((J.h 1).cell (J.i 0).toNat (Int.toNat 3)))=_;rw[v0,w1,aaa,t3,hc];rfl
def KS (hl:R.le R') (h:R.cell b j=some v):R'.cell b j=some v:=by
 unfold Hl.cell at h ⊢;cases hR:R b with
 | none=>rw[hR]at h;cases h
 | some o=>rw[hR]at h;rw[hl _ _ hR];exact h
def jR (h:fu R v bs) (hl:R.le R'):fu R' v bs:=by
 obtain⟨x,y,c,e,hy,h⟩:=h;exact⟨x,y,c,e,hy,h.imp id fun⟨hx,h⟩=>⟨hx,fun j z hz=>KS hl (h j z hz)⟩⟩
def RW:List Int:=List.replicate 16 0
def Mo (h:6<=m/\m<=16384):fz (fL m)=0/\bY (fL m)=Wm ⟨0,64*(((m/2:Nat):Int)-2),0,0,RW,false⟩ [] ⟨((m/2:Nat):Int),64*(((m/2:Nat):Int)-2),0,0,RW,false⟩ []:=by
 have hs:(fL m).n=m:=by
  show il m=m;unfold il;omega
 have h1:Holds (fL m) 0 ((m/2:Nat):Int) 0 [] (List.replicate 16 0):=oF ah ah ah;have h2:Holds (fL m) (m/2) ((m/2:Nat):Int) 0 [] (List.replicate 16 0):=oF ah ah ah;have e1:su (fL m)=⟨0,64*(((m/2:Nat):Int)-2),0,0,RW,false⟩:=by unfold su;rw[hs];exact h1.jQ
 have e2:lr (fL m)=⟨((m/2:Nat):Int),64*(((m/2:Nat):Int)-2),0,0,RW,false⟩:=by unfold lr;rw[hs];exact h2.jQ
 have e3:lV (fL m)=[]:=by unfold lV;rw[hs];exact h1.kv
 have e4:ij (fL m)=[]:=by unfold ij;rw[hs];exact h2.kv
 refine⟨?_,?_⟩
 .unfold fz;rw[hs,aan ah];rfl
 .unfold bY;rw[e1,e2,e3,e4,aan (by show ¬fK _<fK _;exact ady _)]
def LJ:ru 0=0:=rfl
def Qb (ho:S.over=false) (hk:ib rows) (hne:rows≠[]) (hr:((bF rows).length:Int)<=S.LA.most-S.bA.length) (he:(bu D S.LA S.bA (bF rows) S.LA.note).e=0) :
 (cN D S rows).e=0/\(cN D S rows).D=(bu D S.LA S.bA (bF rows) S.LA.note).D/\(cN D S rows).S=⟨(bu D S.LA S.bA (bF rows) S.LA.note).L,(bu D S.LA S.bA (bF rows) S.LA.note).bs,S.LB,S.bB,S.recs++rows,false⟩:=by
 have e:cN D S rows=Gx D S rows (bu D S.LA S.bA (bF rows) S.LA.note):=by
  unfold cN;rw[aan (by rw[ho];simp),aan (fun h=>h hk),aan hne,aan ah]
 rw[e];unfold Gx;rw[he,LJ,aav rfl,aan (fun h=>h.1 rfl),ho];exact⟨rfl,rfl,rfl⟩
def Av (hD:aE H dp D) (hp:sM.post [dp] [H] [] v [H'] F):∃ pv,aE H' dp D/\v=.tuple #[pv,.int .i64 (fz D)]/\(fz D=0->iU F pv dp (bY D))/\(fz D≠0->pv=.pointer none):=by
 obtain⟨dp',Hx,D',H2,pv,e1,e2,hD',e3,hD2,hv,h1,h2⟩:=hp;simp only[aag,aat]at e1 e2 e3;subst e1 e2 e3;obtain rfl:=hD'.uniq hD;exact⟨pv,hD2,hv,h1,h2⟩
def MT {HD HD' RA RG:Hl} (h1:iU H p dp S) (h2:aE HD dp D) (h3:js R RA u rows) (hp:Gy.post [p,u] [H,HD] [R,RA,RG] v [H',HD'] F) :
 aE HD' dp (cN D S rows).D/\iU H' p dp (cN D S rows).S/\v=.int .i64 (cN D S rows).e:=by
 obtain⟨p',u',Hx,HDx,Rx,RAx,RGx,dp',S',D',rows',H2,HD2,e1,e2,e3,k1,k2,k3,e4,k4,k5,hv⟩:=hp;simp only[aag,aat]at e1 e2 e3 e4;obtain⟨a1,a2⟩:=e1;obtain⟨a3,a4⟩:=e2;obtain⟨a5,a6,a7⟩:=e3;obtain⟨a8,a9⟩:=e4;subst a1 a2 a3 a4 a5 a6 a7 a8 a9;obtain⟨rfl,rfl⟩:=h1.rd.uniq k1.rd;obtain rfl:=h2.uniq k2;obtain rfl:=h3.uniq k3;exact⟨k4,k5,hv⟩
def yes (fn:FuncId) (pre:List Value->List Hl->Prop) (rd:List Nat):Sx.Spec where
 fn:=fn
 own:=[]
 rd:=rd
 res:=[.one .bool]
 pre:=fun xs Hs Rs=>pre xs Rs
 post:=fun xs Hs Rs v Hs' F=>v=.bool true
end Go.Proofs.YtomdimlnggpgbaaGreatDoor
namespace Go.Proofs.YtomdimlnggpgbaaGreatDoor.D
open Go Go.Sx
variable {D D':DM}{i n:Int}{all b bs nt nt':List Int}{frm j k:Nat}
def Fz (h:D.ok) (hi:D.has i=true) (hb:bs.length=64) (hj:¬(64*i.toNat<=j/\j<64*i.toNat+64)):(rA D i bs).now[j]?=D.now[j]?:=by
 rw[zW h hi hb,aan hj]
def Hg (frm:Nat) (all:List Int) (B:Nat):∀ (f i:Nat) (D:DM),pD D->all.length+1<=f+i->all.length+64*(frm+2)<=64*D.n->64*(frm+2)+all.length<=64*B ->
 ∀ j,(j<64*frm\/64*B<=j)->(gj frm all f i D).2.now[j]?=D.now[j]?:=by
 intro f
 induction f with
 | zero =>
  intro i D h h1 h2 h3 j hj;show(db D).2.now[j]?=_;rw[(jA h).2.2.1]
 | succ f ih =>
  intro i D h h1 h2 h3 j hj;have ec:(frm:Int)+2+i=((frm+2+i:Nat):Int):=ah;by_cases hlt:64*i<all.length
  .have hi:D.has ((frm:Int)+2+i)=true:=by unfold DM.has;simp only[aaf];omega
   have hw:=mz h hi (iS all i);have e:gj frm all (f+1) i D=gj frm all f (i+1) (rA D ((frm:Int)+2+i) (nM all i)):=by
    show(if 64*i<all.length then _ else _)=_;rw[aav hlt,hw];simp
   rw[e,ih (i+1) _ (qS h hi (iS all i)) ah h2 h3 j hj,Fz h.ok hi (iS all i)];rw[ec,aaa];omega
  .have e:gj frm all (f+1) i D=db D:=by
    show(if 64*i<all.length then _ else _)=_;rw[aan hlt]
   rw[e,(jA h).2.2.1]
def Holds.out (h:Holds D frm n k all nt) (hb:(all.length:Int)+b.length<=64*(n-2)) (hk:k<1000000) (hn':nt'.length=16) :
 (bu D ⟨frm,64*(n-2),k,all.length,nt,false⟩ all b nt').D.n=D.n/\∀ j:Nat,((j:Int)<64*frm\/64*(frm+n)<=(j:Int))->(bu D ⟨frm,64*(n-2),k,all.length,nt,false⟩ all b nt').D.now[j]?=D.now[j]?:=by
 obtain⟨r1,r2⟩:=h.rng;have hDn:=h.sure.ok.n;have hal:(all++b).length=all.length+b.length:=aac;obtain⟨L,hL⟩:∃ L:LM,L=⟨frm,64*(n-2),k,all.length,nt,false⟩:=⟨_,rfl⟩;rw[<-hL];have f1:L.frm=frm:=by rw[hL]
 have f2:L.most=64*(n-2):=by rw[hL]
 have f3:L.serial=k:=by rw[hL]
 have f4:L.over=false:=by rw[hL]
 obtain⟨F,hF⟩:∃ F,F=(ig D L.frm (all++b) all.length).2:=⟨_,rfl⟩;obtain⟨a1,a2,a3,_,_⟩:=wb frm (all++b) ((all++b).length+1) (all.length/64) D h.sure ah ah;have ao:=Hg frm (all++b) (frm+n.toNat) ((all++b).length+1) (all.length/64) D h.sure ah ah ah;have efr:ig D L.frm (all++b) all.length=gj frm (all++b) ((all++b).length+1) (all.length/64) D:=by
  unfold ig;rw[f1,show(((all.length:Nat):Int)/64).toNat=all.length/64 by omega]
 rw[<-efr]at a1 a2 a3 ao;rw[<-hF]at a2 a3 ao;obtain⟨N,hN⟩:∃ N,N=tR L (all++b) nt':=⟨_,rfl⟩;have eN:N=((k+1:Nat):Int)::((all++b).length:Int)::nt':=by
  rw[hN];unfold tR;rw[f3];rfl
 have hp:((k+1:Nat):Int).tmod 2=(((k+1)%2:Nat):Int):=by
  rw[abf ah];omega
 obtain⟨p,hpp⟩:∃ p,p=(k+1)%2:=⟨_,rfl⟩;have hp2:p<2:=ah;obtain⟨b1,_⟩:=Bi (a:=((k+1:Nat):Int)) (b:=((all++b).length:Int)) (nt:=nt') ⟨ah,ah⟩ ⟨ah,ah⟩ hn';rw[<-eN]at b1;have hhl:(cA N++cA N).length=64:=by rw[aac,b1]
 have ei:∀ q:Nat,(frm:Int)+((q:Nat):Int)=((frm+q:Nat):Int):=fun q=>ah;have hasF:F.has ((frm:Int)+(p:Int))=true:=by unfold DM.has;rw[a3];simp only[aaf];omega
 have hw:=mz a2 hasF hhl;obtain⟨G,hG⟩:∃ G,G=rA F ((frm:Int)+(p:Int)) (cA N++cA N):=⟨_,rfl⟩;rw[<-hG]at hw;have hGs:pD G:=by rw[hG];exact qS a2 hasF hhl
 have hGn:G.n=D.n:=by rw[hG,<-a3];rfl
 obtain⟨s1,s2,s3,s4⟩:=jA hGs;have htn:jt F L.frm N=db G:=by
  unfold jt;have e0:N.getD 0 0=((k+1:Nat):Int):=by rw[eN];rfl
  rw[f1,e0,hp,<-hpp,hw];simp
 have hbec:cf D L (all++b) nt' all.length=(0,(db G).2):=by
  unfold cf;rw[aan (by rw[a1];simp),<-hF,<-hN,htn,aan (by rw[s1];simp)]
 have happ:bu D L all b nt'=⟨0,(db G).2,pN L (all++b) nt',all++b⟩:=by
  unfold bu;rw[f4,f3,f2,aan aF,aan ah,aan ah,hbec];rfl
 rw[happ];refine⟨s4.trans hGn,fun j hj=>?_⟩;show(db G).2.now[j]?=_;rw[s3,hG,Fz a2.ok hasF hhl (by rw[ei p,aaa];omega)];exact ao j ah
def Holds.fU (h:Holds D frm n k all nt) (hs:pD D') (hn:D'.n=D.n) (hsame:∀ j:Nat,64*(frm:Int)<=j->(j:Int)<64*(frm+n)->D'.now[j]?=D.now[j]?):Holds D' frm n k all nt:=by
 obtain⟨r1,r2⟩:=h.rng;have hl:=h.len;have rd:∀ q:Nat,q<2->bI D' frm (64*(n-2)) (q:Int)=bI D frm (64*(n-2)) (q:Int):=by
  intro q hq;refine zm h.sure hs hn (by unfold DM.has;simp only[aaf];omega) (wT fun j h1 h2=>hsame j ?_ ?_)
  .omega
  .omega
 refine⟨hs,⟨r1,by rw[hn];exact r2⟩,hl,h.note,?_,?_,fun t z ht=>?_⟩
 .rw[rd _ ah];exact h.cur
 .have e1:bI D' frm (64*(n-2)) 1=bI D frm (64*(n-2)) 1:=rd 1 ah;rw[rd _ ah,e1];exact h.oth
 .have hlt:=(aaj.1 ht).1;rw[hsame _ ah ah];exact h.bytes t z ht
end Go.Proofs.YtomdimlnggpgbaaGreatDoor.D
namespace Go.Proofs.YtomdimlnggpgbaaGreatDoor
open Go Go.Sx Go.Pk
open Go.Proofs.YtomdimlnggpgbaaGreatDoor.D hiding aO aD fN
variable {D:DM}{g:Int}{rows:List (List Int)}{K K' m n:Nat}{S:SM}
def DP {r rest:List Int} (h:r.length<=4096):tx (aI r++rest)=(r,rest,false):=by
 have e:c8 (aI r++rest)=(r.length,(aj r.length).length):=by
  unfold c8 aI;rw[aax,qN ah];rfl
 have hp:=zH r.length;unfold tx bf;rw[e,aan]
 .show(((aI r++rest).drop (aj r.length).length).take r.length,(aI r++rest).drop ((aj r.length).length+r.length),false)=_;unfold aI;rw[aax,acn rfl,aco rfl,<-acd,acn rfl,acn rfl]
 .show ¬(false=true\/(aj r.length).length=0\/(4096:Int)<0\/min (min 4096 4096) (((aI r++rest).length:Int)-((aj r.length).length:Nat))<((r.length:Nat):Int));have:(aI r++rest).length=(aj r.length).length+r.length+rest.length:=by unfold aI;simp;omega
  rw[this];simp only[aba,false_or];omega
def H8 (r:List Int) (rows:List (List Int)):bF (r::rows)=aI r++bF rows:=rfl
def oG (a b:List (List Int)):bF (a++b)=bF a++bF b:=by unfold bF;rw[aaM,ab9]
def xc:∀ {rows:List (List Int)},ib rows->jk (bF rows)=rows
 | [],_=>rfl
 | r::rows,h=>by
  have hr:=h r (aaJ ..);have hp:=zH r.length;rw[H8,Ca (by intro e;have:=aaD List.length e;unfold aI at this;rw[aac,aac]at this;simp only[aa7]at this;omega),DP hr,aan aF];show r::jk (bF rows)=_;rw[xc fun s hs=>h s (aas _ hs)]
def Ft (h:∀ r∈rows,ar r):ar (bF rows):=by
 intro z hz;unfold bF at hz;obtain⟨l,hl,hz⟩:=acS.1 hz;obtain⟨r,hr,rfl⟩:=aaQ.1 hl;unfold aI at hz;rcases aaR.1 hz with h1 | h1
 .exact BE _ z h1
 .exact h r hr z h1
structure SP (D:DM) (S:SM) (n:Nat) (g:Int) (K:Nat) where
 fA:Nat
 kA:Nat
 ntA:List Int
 fB:Nat
 kB:Nat
 ntB:List Int
 hn:D.n/2=n
 n3:3<=n
 place:(fA=0/\fB=n/\fK (ntB.take 8)<=g)\/(fA=n/\fB=0/\fK (ntB.take 8)<g)
 hA:Holds D fA n kA S.bA ntA
 hB:Holds D fB n kB S.bB ntB
 eA:S.LA=⟨fA,64*((n:Int)-2),kA,S.bA.length,ntA,false⟩
 eB:S.LB=⟨fB,64*((n:Int)-2),kB,S.bB.length,ntB,false⟩
 pk:S.bA=bF S.recs
 ok:ib S.recs
 ov:S.over=false
 gen:fK (ntA.take 8)=g
 g0:0<=g/\g<=K
 kK:kA<=K/\kB<=K
 loose:D.loose=[]
 b1:ar S.bA
 b2:ar S.bB
def SP.open (h:SP D S n g K):fz D=0/\bY D=S/\ar (lV D)/\ar (ij D):=by
 obtain⟨fA,kA,ntA,fB,kB,ntB,hn,n3,place,hA,hB,eA,eB,pk,ok,ov,gen,g0,kK,loose,b1,b2⟩:=h;have hE:fz D=0:=by
  unfold fz;rw[hn,hA.sure.gone,aan ah];rfl
 have hSx:S=Wm S.LA S.bA S.LB S.bB:=by
  unfold Wm;rw[pk,xc ok,<-pk,<-ov]
 have gA:si S.LA=g:=by unfold si;rw[eA];exact gen
 rcases place with ⟨rfl,rfl,hg⟩ | ⟨rfl,rfl,hg⟩
 .have e1:su D=S.LA:=by unfold su;rw[hn,eA];exact hA.jQ
  have e2:lr D=S.LB:=by unfold lr;rw[hn,eB];exact hB.jQ
  have e3:lV D=S.bA:=by unfold lV;rw[hn];exact hA.kv
  have e4:ij D=S.bB:=by unfold ij;rw[hn];exact hB.kv
  refine⟨hE,?_,by rw[e3];exact b1,by rw[e4];exact b2⟩;unfold bY;rw[e1,e2,e3,e4,gA,aan (by show ¬g<si S.LB;unfold si;rw[eB];show ¬g<fK (ntB.take 8);omega)];exact hSx.symm
 .have e1:su D=S.LB:=by unfold su;rw[hn,eB];exact hB.jQ
  have e2:lr D=S.LA:=by unfold lr;rw[hn,eA];exact hA.jQ
  have e3:lV D=S.bB:=by unfold lV;rw[hn];exact hB.kv
  have e4:ij D=S.bA:=by unfold ij;rw[hn];exact hA.kv
  refine⟨hE,?_,by rw[e3];exact b2,by rw[e4];exact b1⟩;unfold bY;rw[e1,e2,e3,e4,gA,aav (by show si S.LB<g;unfold si;rw[eB];exact hg)];exact hSx.symm
def SP.more (h:SP D S n g K) (hK:K<=K'):SP D S n g K' :=
 {h with g0:=⟨h.g0.1,by have:=h.g0.2;omega⟩,kK:=⟨by have:=h.kK.1;omega,by have:=h.kK.2;omega⟩}
def SP.apart (h:SP D S n g K):(h.fA:Int)+n<=h.fB\/(h.fB:Int)+n<=h.fA:=by
 rcases h.place with ⟨h1,h2,_⟩ | ⟨h1,h2,_⟩<;>omega
def SP.add (h:SP D S n g K) (hk:ib rows) (hr:((bF rows).length:Int)<=64*((n:Int)-2)-S.bA.length) (hb:∀ r∈rows,ar r) (hK:K<1000000) :
 (cN D S rows).e=0/\(cN D S rows).S.recs=S.recs++rows/\Nonempty (SP (cN D S rows).D (cN D S rows).S n g (K+1)):=by
 by_cases hne:rows=[]
 .subst hne;have e:cN D S []=⟨0,D,S⟩:=by
   unfold cN;rw[aan (by rw[h.ov];simp),aan (fun h'=>h' hk),aav rfl]
  rw[e];exact⟨rfl,(aa6 _).symm,⟨h.more ah⟩⟩
 have hcap:((S.bA.length:Nat):Int)+((bF rows).length:Nat)<=64*((n:Int)-2):=ah;have hkA:h.kA<1000000:=by have:=h.kK.1;omega
 obtain⟨a1,a2,a3,a4⟩:=h.hA.append (b:=bF rows) (nt':=h.ntA) hcap hkA h.hA.note;obtain⟨o1,o2⟩:=h.hA.out (b:=bF rows) (nt':=h.ntA) hcap hkA h.hA.note;rw[<-h.eA]at a1 a2 a3 a4 o1 o2;have eN:S.LA.note=h.ntA:=by rw[h.eA]
 have eM:S.LA.most=64*((n:Int)-2):=by rw[h.eA]
 obtain⟨c1,c2,c3⟩:=Qb (D:=D) (S:=S) (rows:=rows) h.ov hk hne (by rw[eM];exact hr) (by rw[eN];exact a1);rw[eN]at c2 c3;have hpb:S.bA++bF rows=bF (S.recs++rows):=by rw[h.pk,oG]
 refine⟨c1,by rw[c3],⟨?_⟩⟩;rw[c2,c3,a3,a4];refine⟨h.fA,h.kA+1,h.ntA,h.fB,h.kB,h.ntB,by rw[o1];exact h.hn,h.n3,h.place,a2,h.hB.fU a2.sure o1 fun j h1 h2=>o2 j ?_,rfl,h.eB,hpb,fun r hr=>?_,rfl,h.gen,⟨h.g0.1,by have:=h.g0.2;omega⟩,⟨by have:=h.kK.1;omega,by have:=h.kK.2;omega⟩,Co a1,fun z hz=>?_,h.b2⟩
 .rcases h.apart with hp | hp<;>omega
 .rcases aaR.1 hr with h1 | h1
  .exact h.ok r h1
  .exact hk r h1
 .rcases aaR.1 hz with h1 | h1
  .exact h.b1 z h1
  .exact Ft hb z h1
def SP.new (h:6<=m/\m<=16384):Nonempty (SP (fL m) (bY (fL m)) (m/2) 0 0)/\(bY (fL m)).recs=[]/\fz (fL m)=0:=by
 obtain⟨e1,e2⟩:=Mo h;rw[e2];have hn:(fL m).n=m:=by show il m=m;unfold il;omega
 have hA:Holds (fL m) 0 ((m/2:Nat):Int) 0 [] RW:=oF ah ah ah;have hB:Holds (fL m) (m/2) ((m/2:Nat):Int) 0 [] RW:=oF ah ah ah;have hz:fK (RW.take 8)=0:=by decide
 exact⟨⟨⟨0,0,RW,m/2,0,RW,by rw[hn],ah,Or.inl ⟨rfl,rfl,by rw[hz];exact aap 0⟩,hA,hB,rfl,rfl,rfl,fun r hr=>(by cases hr),rfl,hz,⟨aap 0,aap 0⟩,⟨aaw _,aaw _⟩,rfl,fun z hz=>(by cases hz),fun z hz=>(by cases hz)⟩⟩,rfl,e1⟩
end Go.Proofs.YtomdimlnggpgbaaGreatDoor
namespace Go.Proofs.YtomdimlnggpgbaaGreatDoor
open Go Go.Sx Go.Pk
open Go.Proofs.YtomdimlnggpgbaaGreatDoor.D (fK jn m8)
abbrev vW:Ck:=.int .u32
def W7 (xs:List Value):Value:=match xs with
 | [.int _ x,.int _ n]=>.int .u32 (bK n.toNat x)
 | _=>.bool false
def W8 (xs:List Value):Prop:=match xs with
 | [.int _ x,.int _ n]=>okW x/\0<=n/\n<=32
 | _=>False
def qz:Sx.Spec:=qe 102 [.one vW,.one (.int .i64)] [.one vW] W8 W7
def AF:aG Tryz.prog [] 102 where
 Λ:=fun p=>if lp p then some ⟨0,[(0,.sv (.one (.int .u32 (.var 10)))),(5,TI .i64 (.var 11))],[],20⟩else none
 args:=(bV 0 [.one vW,.one (.int .i64)]).map .sv
 mem:=[]
 nv:=2
def BI (z:Int):∃ J:Env,Value.int .u32 z=((j8 0 [.one vW]).ev J)/\dZ 0 [.one vW] J:=⟨(aY fun _=>z),rfl,zzT,zzT⟩
def AE:qz.OK Tryz.prog:=by
 refine jH (fun t h=>by cases h) AF rfl rfl rfl (fun q _ hN=>?_) (fun q hq hN=>⟨fun _ e=>∃ k:Nat,e.i 11=k/\(k:Int)<=q.i 1/\e.i 10=bK k (q.i 0),fun _ e=>(q.i 1-e.i 11).toNat,?_⟩)
 .obtain⟨J,h1,h2⟩:=BI (bK (q.i 1).toNat (q.i 0));exact⟨J,h1,h2⟩
 .have hN:okW (q.i 0)/\0<=q.i 1/\q.i 1<=32:=hN;obtain⟨h0,h1,h2⟩:=hN;refine aG.read [] [] [] ?_;simp only[go_sem,Nat.reduceAdd];refine⟨⟨0,rfl,h1,rfl⟩,fun e g ⟨k,ek,hk,e10⟩=>?_⟩;rw[g.i 1,ek];refine⟨fun hlt=>⟨⟨k+1,?_,ah,?_⟩,?_⟩,fun hge=>?_⟩
  .show IntKind.i64.wrap (e.i 11+1)=_;rw[ek,wrap_i64 ah ah];rfl
  .show IntKind.u32.wrap (IntKind.u32.wrap ((e.i 10).tdiv 2)+IntKind.u32.wrap ((e.i 10).tmod 2*2147483648))=sa (bK k (q.i 0));have hx:=Gn h0 k ah;have hy:=Gn h0 (k+1) ah;rw[e10];have hy:okW (sa (bK k (q.i 0))):=hy;generalize bK k (q.i 0)=x at hx hy;unfold okW at hx hy;unfold sa at hy ⊢;have d:x.tdiv 2=x/2:=abA hx.1;have m:x.tmod 2=x%2:=abf hx.1;rw[d,m];have a:=qB (x:=x/2) ⟨ah,ah⟩;have b:=qB (x:=x%2*2147483648) ⟨ah,ah⟩;unfold dL at a b;rw[a,b];exact qB hy
  .show(q.i 1-IntKind.i64.wrap (e.i 11+1)).toNat<(q.i 1-(k:Int)).toNat;rw[ek,wrap_i64 ah ah];omega
  .have hk':(k:Int)=q.i 1:=ah;show Value.int .u32 (e.i 10)=Value.int .u32 (bK (q.i 1).toNat (q.i 0));rw[e10,<-hk',aaa]
def WN (xs:List Value):Value:=match xs with
 | [.int _ x,.int _ n]=>.int .u32 (bK (-n).toNat x)
 | _=>.bool false
def Zn (xs:List Value):Prop:=match xs with
 | [.int _ x,.int _ n]=>okW x/\n∈([-2,-6,-7,-11,-13,-17,-18,-19,-22,-25]:List Int)
 | _=>False
def O9:Sx.Spec:=qe 207 [.one vW,.one (.int .i64)] [.one vW] Zn WN
def Zo:aG Tryz.prog [] 207 where
 Λ:=aD
 args:=(bV 0 [.one vW,.one (.int .i64)]).map .sv
 mem:=[]
 nv:=2
def UI {n:Nat} (h1:1<=n) (h2:n<=31) {x:Int} (hx:okW x) {s r:Int} (hs:s=((32-n:Nat):Int)) (hr:r=(n:Int)):ct .or .u32 (IntKind.u32.wrap (x*2 ^ (min s.toNat IntKind.u32.bits))) (x.fdiv (2 ^ (min r.toNat IntKind.u32.bits)))=bK n x:=by
 subst hs hr;have a:min ((32-n:Nat):Int).toNat IntKind.u32.bits=32-n:=by show min _ 32=_;omega
 have b:min ((n:Nat):Int).toNat IntKind.u32.bits=n:=by show min _ 32=_;omega
 rw[a,b];exact Pa hx h1 h2
def Ke:O9.OK Tryz.prog:=by
 refine jH (fun t h=>by cases h) Zo rfl rfl rfl (fun q _ hN=>?_) (fun q hq hN=>⟨fun _ _=>True,fun _ _=>0,?_⟩)
 .obtain⟨J,h1,h2⟩:=BI (bK (-(q.i 1)).toNat (q.i 0));exact⟨J,h1,h2⟩
 .have hN:okW (q.i 0)/\q.i 1∈([-2,-6,-7,-11,-13,-17,-18,-19,-22,-25]:List Int):=hN;obtain⟨h0,h1⟩:=hN;refine aG.read [] [] [] ?_;simp only[go_sem,Nat.reduceAdd];have key:∀ k:Nat,1<=k->k<=31->q.i 1= -(k:Int)->ct .and .u64 (IntKind.u64.wrap (-(k:Int))) 31=((32-k:Nat):Int) ->
   0<=ct .and .u64 (IntKind.u64.wrap (q.i 1)) 31 /\
   Value.int .u32 (ct .or .u32 (IntKind.u32.wrap (q.i 0*2 ^ (min (ct .and .u64 (IntKind.u64.wrap (q.i 1)) 31).toNat IntKind.u32.bits))) ((q.i 0).fdiv (2 ^ (min (IntKind.u64.wrap (32-ct .and .u64 (IntKind.u64.wrap (q.i 1)) 31)).toNat IntKind.u32.bits))))=Value.int .u32 (bK (-(q.i 1)).toNat (q.i 0)):=by
   intro k k1 k2 e hb;rw[e,hb];have hw:IntKind.u64.wrap (32-((32-k:Nat):Int))=k:=by rw[mY ah ah];omega
   rw[hw,UI k1 k2 h0 rfl rfl];exact⟨ah,by rw[show(-(-(k:Int))).toNat=k by omega]⟩
  simp only[aar,aaB,abe]at h1;rcases h1 with h | h | h | h | h | h | h | h | h | h
  .exact key 2 aA aA h aA
  .exact key 6 aA aA h aA
  .exact key 7 aA aA h aA
  .exact key 11 aA aA h aA
  .exact key 13 aA aA h aA
  .exact key 17 aA aA h aA
  .exact key 18 aA aA h aA
  .exact key 19 aA aA h aA
  .exact key 22 aA aA h aA
  .exact key 25 aA aA h aA
end Go.Proofs.YtomdimlnggpgbaaGreatDoor
namespace Go.Proofs.YtomdimlnggpgbaaGreatDoor
open Go Go.Sx Go.Pk
open Go.Proofs.YtomdimlnggpgbaaGreatDoor.D (fK jn m8 fS)
variable {F R:Hl}{a d x y' z:Int}{bs l:List Int}{b c j k n o y:Nat}{T:TypeId}
def EK:Sx.Spec where
 fn:=209
 own:=[]
 rd:=[0]
 res:=[.one (.int .u64)]
 pre:=fun xs Hs Rs=>∃ u bs R,xs=[u]/\Rs=[R]/\fu R u bs/\bs.length<=1000
 post:=fun xs Hs Rs v Hs' F=>∃ u bs R,xs=[u]/\Rs=[R]/\fu R u bs/\v=.int .u64 (fK bs)
def EL:aG Tryz.prog [] EK.fn where
 Λ:=fun p=>if lp p then some ⟨0,[(3,TI .u64 (.var 10)),(8,TI .i64 (.var 11))],[],12⟩else none
 args:=[.sv (.one (.sl (.var 0) (.var 1) (.var 2) (.var 3)))]
 mem:=[.ro 4 [.var 0] true]
 nv:=5
def QD (bs:List Int) (_:Nat) (q:Env):Prop:=∃ k:Nat,k<=bs.length/\q.i 11=k/\q.i 10=fK (bs.take k)
def NC:EK.OK Tryz.prog:=by
 refine Spec.aS (Γ:=[]) (fun _ h=>by cases h) ?_;rintro xs Hs Rs hl1 hl2 ⟨u,bs,R,rfl,rfl,⟨x,y,cp,rfl,hy,hR⟩,hlen⟩;have e0:Hs=[]:=aad.1 hl1;subst e0;refine⟨EL,aO [x,y,bs.length,cp] false [Hl.none,Hl.none,Hl.none,Hl.none,R],QD bs,fun _ q=>(bs.length-q.i 11).toNat,?_,⟨?_,?_,?_,?_⟩,(fun _ h=>nomatch h),?_⟩
 .show [Value.slice (az x y) ((bs.length:Int)).toNat ((cp:Int)).toNat]=_;rw[aaa,aaa]
 .intro r hr ho;simp [EL]at hr;subst hr;cases ho
 .intro r hr ho;simp [EL]at hr;subst hr;exact⟨R,aF,Hl.le_refl _⟩
 .simp [EL]
 .intro r hr;simp [EL]at hr;subst hr;trivial
 .refine aG.read [] [] [] ?_;generalize hρ:aO [x,y,bs.length,cp] false [Hl.none,Hl.none,Hl.none,Hl.none,R]=J;have v0:J.i 0=x:=by rw[<-hρ];rfl
  have v1:J.i 1=y:=by rw[<-hρ];rfl
  have v2:J.i 2=bs.length:=by rw[<-hρ];rfl
  have w4:J.h 4=R:=by rw[<-hρ];rfl
  simp only[go_sem,Nat.reduceAdd];rw[v2];refine⟨ah,⟨0,ah,rfl,rfl⟩,fun q g ⟨k,hk,h11,h10⟩=>?_⟩;rw[g.i 0,g.i 1,g.i 2,g.h 4,v0,v1,v2,w4,h11];refine⟨fun hlt=>?_,fun hge=>?_⟩
  .have hk':k<bs.length:=ah;have hxr:0<=x/\∀ j z,bs[j]?=some z->R.cell x.toNat (y.toNat+j)=some (.int .u8 z):=by
    rcases hR with h | h
    .subst h;simp at hk'
    .exact h
   have hc:R.cell x.toNat (y+k).toNat=some (.int .u8 bs[k]):=by
    rw[show(y+(k:Int)).toNat=y.toNat+k by omega];exact hxr.2 _ _ (aab hk')
   rw[hc];refine⟨hxr.1,hy,ah,rfl,⟨k+1,ah,?_,?_⟩,?_⟩
   .show IntKind.i64.wrap (q.i 11+1)=_;rw[h11];exact wrap_i64 ah ah
   .show jn (q.i 10) (bS ((q.h 4).cell (q.i 0).toNat (q.i 1+q.i 11).toNat))=_;rw[h10,g.i 0,g.i 1,g.h 4,v0,v1,w4,h11,hc,m8 bs k hk'];rfl
   .show((bs.length:Int)-IntKind.i64.wrap (q.i 11+1)).toNat<_;rw[h11,wrap_i64 ah ah];omega
  .have e:k=bs.length:=ah;subst e;rw[abk]at h10;refine fun _=>⟨[],[],rfl,rfl,⟨(aY fun _=>q.i 10),rfl,zzT,zzT⟩,_,bs,R,rfl,rfl,⟨x,y,cp,rfl,hy,hR⟩,?_⟩;show Value.int .u64 (q.i 10)=_;rw[h10]
def Yi {b c:Int} (ha:0<=a/\a<256) (hb:0<=b/\b<256) (hc:0<=c/\c<256) (hd:0<=d/\d<256):fK [a,b,c,d]=a*16777216+b*65536+c*256+d:=by
 show jn (jn (jn (jn 0 a) b) c) d=_;have e1:jn 0 a=a:=by rw[fS ah ah ha.1 ha.2];omega
 rw[e1,fS (n:=a) (c:=b) ha.1 ah hb.1 hb.2];rw[fS (n:=a*256+b) (c:=c) ah ah hc.1 hc.2];rw[fS (n:=(a*256+b)*256+c) (c:=d) ah ah hd.1 hd.2];omega
def QB (hl:bs.length=64) (hk:k<16):(bs.drop (4*k)).take 4=[bs.getD (4*k) 0,bs.getD (4*k+1) 0,bs.getD (4*k+2) 0,bs.getD (4*k+3) 0]:=by
 apply aaL;intro j;rw[aaX];have key:∀ i,i<4->(bs.drop (4*k))[i]?=some (bs.getD (4*k+i) 0):=fun i hi=>by
  rw[aaV,aak,aab ah];rfl
 match j with
 | 0=>exact key 0 ah
 | 1=>exact key 1 ah
 | 2=>exact key 2 ah
 | 3=>exact key 3 ah
 | j+4=>rw[aan ah];rfl
def MG (hl:bs.length=64) (hb:ar bs) (hk:k<16):IntKind.u32.wrap (fK ((bs.drop (4*k)).take 4))=Gu bs k:=by
 have g:∀ i,i<64->0<=bs.getD i 0/\bs.getD i 0<256:=fun i hi=>by
  rw[aak,aab ah,abo];exact hb _ (abp _)
 rw[QB hl hk,Yi (g _ ah) (g _ ah) (g _ ah) (g _ ah)];rfl
def J5 {y:Int} {l:Nat} (h:fu R (.slice (az x y) l c) bs) (hx:-1<=x) (hy:0<=y) (hn:o+n<=bs.length) (hy':n=0\/y'=y+o) (h0:0<=y') (c':Nat):fu R (.slice (az x y') n c') ((bs.drop o).take n):=by
 have hl:((bs.drop o).take n).length=n:=by rw[aaA,aaK];omega
 obtain⟨x1,y1,c1,e,hy1,h⟩:=h;rcases hy' with rfl | rfl
 .exact⟨x,y',c',by rw[ace];rfl,h0,Or.inl (ace ..)⟩
 .refine⟨x,y+o,c',by rw[hl],h0,?_⟩;by_cases hz:n=0
  .subst hz;exact Or.inl (ace ..)
  simp only[Value.slice.injEq]at e;obtain⟨ep,el,_⟩:=e;rcases h with rfl | ⟨hx1,hc⟩
  .simp at hn;omega
  obtain⟨rfl,hyy⟩:=kG hx hy ah hy1 ep;obtain rfl:=hyy hx1;refine Or.inr ⟨hx1,fun j z hz=>?_⟩;have hj:j<n:=by have:=(aaj.1 hz).1;omega
  rw[abd hj,aaV]at hz;have:=hc _ _ hz;rw[show(y+(o:Int)).toNat+j=y.toNat+(o+j)by omega];exact this
def IW (l:List Int):List Value:=l.map (Value.int .u32)
def wH (b:Nat) (l:List Int) (T:TypeId):Hl:=Hl.one b (.cells (IW l).toArray T (0,0))
def KD (b:Nat) (l:List Int) (T:TypeId) (j:Nat):(wH b l T).cell b j=(l[j]?).map (Value.int .u32):=by
 unfold wH IW;rw[Hl.one_cell,abl,aao]
def Cg (h:l[j]?=some z):(wH b l T).cell b j=some (.int .u32 z):=by rw[KD,h];rfl
def DS (h:y<l.length) (z:Int):(wH b l T).put b y [Value.int .u32 z]=wH b (l.set y z) T:=by
 unfold wH IW;rw[Hl.C6]
 congr 2
 apply aaD;apply aaL;intro j;rw[Sx.sN (by simp;omega),adz];simp only[aaN,aa7,acG,aaz,aao];by_cases h2:j=y
 .subst h2;rw[aav ah,aav rfl,aav h];simp
 .rw[aan ah,aan ah]
def KE (h:y<l.length):(wH b l T).wr b y 1=true:=Hl.C8 _ _ _ _ _ (by simp [IW];omega)
def vp:∀ {n:Nat} (l:List Int),l.length=n->bg (IW l) (List.replicate n (Kd.int .u32))
 | 0,[],_=>trivial
 | n+1,z::l,h=>⟨by simp [bp],vp l (by simpa using h)⟩
def Iq (l:List Int) (h:l.length=n):bg (IW l) ((List.replicate n vW).map kc):=by rw[acE];exact vp l h
def KK (bs:List Int) (k:Nat) (l:List Int):Prop:=l.length=64/\∀ j,j<k->l[j]?=some ((aR bs 64).getD j 0)
def KK.set (h:KK bs k l) (hk:k<64) (hz:z=if k<16 then Gu bs k else Ch (aR bs k) k):KK bs (k+1) (l.set k z):=by
 refine⟨by rw[List.length_set];exact h.1,fun j hj=>?_⟩;rw[acG];by_cases e:k=j
 .subst e;rw[aav rfl,aav (by rw[h.1];exact hk),lL bs 64 k hk,hz]
 .rw[aan e];exact h.2 j ah
def FY (n j:Nat) (h:j<n):okW ((aR bs n).getD j 0):=by
 rw[lL bs n j h];split
 .exact AI _
 .exact AI _
def xX:Sx.Spec where
 fn:=206
 own:=[]
 rd:=[0]
 res:=[.agg (List.replicate 64 vW)]
 pre:=fun xs Hs Rs=>∃ x y c bs R,xs=[.slice (az x y) 64 c]/\Rs=[R]/\fu R (.slice (az x y) 64 c) bs/\bs.length=64/\64<=c/\ar bs/\0<=y/\ -1<=x
 post:=fun xs Hs Rs v Hs' F=>∀ u bs R,xs=[u]->Rs=[R]->fu R u bs->v=.agg (IW (aR bs 64)).toArray
def XU:List Sx.Spec:=[O9,EK]
def UX:∀ t∈XU,t.OK Tryz.prog:=av Ke <| av NC <| bQ
def uw:aG Tryz.prog XU xX.fn where
 Λ:=fun p=>if lp p then(if ML p [206,1,1,0,1,0]then some ⟨0,[(10,TI .i64 (.var 50))],[(2,.hp 51 [] [.var 6] [])],60⟩else some ⟨1,[(5,TI .i64 (.var 70))],[(2,.hp 71 [] [.var 6] [])],80⟩)else none
 args:=[.sv (.one (.sl (.var 0) (.var 1) (.var 2) (.var 3)))]
 mem:=[.ro 4 [.var 0] true]
 nv:=5
def WY:O9.res=[.one vW]:=rfl
def ZQ:EK.res=[.one (.int .u64)]:=rfl
def jJ (h:okW x) {n:Int} (hn:n∈([-2,-6,-7,-11,-13,-17,-18,-19,-22,-25]:List Int)):O9.pre [.int .u32 x,.int .i64 n] [] []:=⟨⟨(aY fun i=>if i=0 then x else n),⟨zzT,zzT,zzT⟩,rfl⟩,h,hn⟩
def Le {u v:Value} {K:List Hl} (h:fu R u bs) (hp:EK.post [u] [] [R] v K F):v=.int .u64 (fK bs):=by
 obtain⟨u',bs',R',e1,e2,h',hv⟩:=hp;simp only[aag,aat]at e1 e2;subst e1 e2;rw[hv,h'.uniq h]
def KK.get (h:KK bs k l) (hj:j<k) (hk:k<=64):l[j]?=some ((aR bs k).getD j 0):=by
 rw[h.2 j hj,FX bs ah hj]
def KK.all (h:KK bs 64 l):l=aR bs 64:=by
 apply aaL;intro j;by_cases hj:j<64
 .rw[h.2 j hj,aak,aab (by rw[dn];exact hj)];rfl
 .rw[aaq (by rw[h.1];omega),aaq (by rw[dn];omega)]
def ZD (h:okW x):x.fdiv (2 ^ (min (Int.toNat 3) IntKind.u32.bits))=x/8:=abz _ aA
def WW (h:okW x):x.fdiv (2 ^ (min (Int.toNat 10) IntKind.u32.bits))=x/1024:=abz _ aA
def IF:xX.OK Tryz.prog:=by
 refine Spec.aS (Γ:=XU) UX ?_;rintro xs Hs Rs hl1 hl2 ⟨x,y,c,bs,R,rfl,rfl,hR,hlen,hc,hb,hy,hx⟩;have e0:Hs=[]:=aad.1 hl1;subst e0;refine⟨uw,aO [x,y,64,c] false [Hl.none,Hl.none,Hl.none,Hl.none,R],
  fun j q=>match j with
   | 0=>∃ (k:Nat) (l:List Int),q.i 50=k/\k<=16/\KK bs k l/\q.h 51=wH (q.i 6).toNat l 172
   | _=>∃ (k:Nat) (l:List Int),q.i 70=k/\16<=k/\k<=64/\KK bs k l/\q.h 71=wH (q.i 6).toNat l 172,
  fun j q=>match j with
   | 0=>(16-q.i 50).toNat
   | _=>(64-q.i 70).toNat,?_,⟨?_,?_,?_,?_⟩,(fun _ h=>nomatch h),?_⟩
 .show [Value.slice (az x y) (Int.toNat 64) ((c:Int)).toNat]=_;rw[aaa];rfl
 .intro r hr ho;simp [uw]at hr;subst hr;cases ho
 .intro r hr ho;simp [uw]at hr;subst hr;exact⟨R,aF,Hl.le_refl _⟩
 .simp [uw]
 .intro r hr;simp [uw]at hr;subst hr;trivial
 .refine aG.read [] [] [] ?_;generalize hρ:aO [x,y,64,c] false [Hl.none,Hl.none,Hl.none,Hl.none,R]=J;have V:∀ q:Env,ai 5 J q->q.i 0=x/\q.i 1=y/\q.i 2=64/\q.i 3=c/\q.h 4=R:=fun q hg=>by
   rw[hg.i 0,hg.i 1,hg.i 2,hg.i 3,hg.h 4,<-hρ];exact⟨rfl,rfl,rfl,rfl,rfl⟩
  clear hρ;simp only[go_sem,Nat.reduceAdd,XU,WY,ZQ];intro q1 g1 _ q2 g2 p6 q3 g3 h7;have G3:ai 5 J q3:=g1.trans (g2.mono.tr g3);refine⟨⟨0,List.replicate 64 0,rfl,ah,⟨aF,fun j hj=>ah⟩,?_⟩,fun q4 g4 ⟨k,l,e50,hk,hW,hh⟩=>?_⟩
  .show q3.h 7=wH (q3.i 6).toNat _ _;rw[h7,g3.i 6];rfl
  have G4:ai 5 J q4:=G3.tr g4;obtain⟨v0,v1,v2,v3,w4⟩:=V q4 G4;have p6':0<=q4.i 6:=by rw[g4.i 6,g3.i 6];exact p6
  rw[v0,v1,v3,w4,e50];refine⟨fun hlt=>?_,fun hge=>?_⟩
  .have hk4:IntKind.i64.wrap (4*(k:Int))=4*k:=wrap_i64 ah ah;have hk5:IntKind.i64.wrap (4*(k:Int)+4)=4*k+4:=wrap_i64 ah ah;rw[hk4,hk5];have hsub:=J5 hR hx hy (o:=4*k) (n:=4) ah (y':=y+(4*k:Nat)) (Or.inr rfl) ah ((c:Int)-4*k).toNat;have e4:((4:Int)*k+4-4*k).toNat=4:=ah;rw[aan ah,e4];rw[show y+((4*k:Nat):Int)=y+4*(k:Int)by omega]at hsub;refine⟨ah,hy,ah,ah,ah,⟨_,_,R,rfl,rfl,hsub,by rw[aaA];omega⟩,fun q5 g5 ⟨F,p5,_,_⟩=>?_⟩;have e60:q5.i 60=fK ((bs.drop (4*k)).take 4):=by
    have:=Le hsub p5;simpa using this
   have j50:q5.i 50=k:=by rw[g5.i 50,e50]
   have j6:q5.i 6=q4.i 6:=g5.i 6;have hl:=hW.1;rw[j6,j50,g5.h 51,hh,aaa];refine⟨p6',ah,⟨p6',ah,KE ah⟩,fun q6 g6 h61=>?_⟩;have ew:IntKind.i64.wrap (q6.i 50+1)=((k+1:Nat):Int):=by rw[g6.i 50,j50,wrap_i64 ah ah];rfl
   refine⟨⟨k+1,_,ew,ah,hW.set (z:=IntKind.u32.wrap (q5.i 60)) ah ?_,?_⟩,?_⟩
   .rw[aav ah,e60];exact MG hlen hb ah
   .show q6.h 61=wH (q6.i 6).toNat _ _;rw[h61,DS ah,g6.i 6,j6]
   .show(16-IntKind.i64.wrap (q6.i 50+1)).toNat<_;rw[ew];omega
  .refine⟨⟨16,l,rfl,aaw _,ah,?_,hh⟩,fun q5 g5 ⟨k,l,e70,hk1,bT,hW,hh⟩=>?_⟩
   .have:k=16:=ah;subst this;exact hW
   have p6'':0<=q5.i 6:=by rw[g5.i 6];exact p6'
   have hl:=hW.1;refine⟨fun hlt=>?_,fun hge=>?_⟩
   .have rd:∀ {q:Env},ai 80 q5 q->∀ d:Nat,1<=d->d<=16->(q.h 71).cell (q.i 6).toNat (IntKind.i64.wrap (q.i 70-d)).toNat=some (.int .u32 ((aR bs k).getD (k-d) 0)):=fun {q} hg d h1 h2=>by
     rw[hg.h 71,hg.i 6,hg.i 70,e70,hh,wrap_i64 ah ah,show((k:Int)-d).toNat=k-d by omega];exact Cg (hW.get ah ah)
    have ok:∀ d:Nat,1<=d->d<=16->okW ((aR bs k).getD (k-d) 0):=fun d h1 h2=>FY _ _ ah;have wd:∀ d:Nat,1<=d->d<=16->IntKind.i64.wrap (q5.i 70-d)=(k:Int)-d:=fun d h1 h2=>by rw[e70,wrap_i64 ah ah]
    have r15:=fun {q:Env} (hg:ai 80 q5 q)=>rd hg 15 ah ah;have r2:=fun {q:Env} (hg:ai 80 q5 q)=>rd hg 2 ah ah;have r16:=fun {q:Env} (hg:ai 80 q5 q)=>rd hg 16 ah ah;have r7:=fun {q:Env} (hg:ai 80 q5 q)=>rd hg 7 ah ah;have w15:IntKind.i64.wrap (q5.i 70-15)=(k:Int)-15:=wd 15 ah ah;have w2:IntKind.i64.wrap (q5.i 70-2)=(k:Int)-2:=wd 2 ah ah;have v15:∀ {q:Env},ai 80 q5 q->bS ((q.h 71).cell (q.i 6).toNat (IntKind.i64.wrap (q.i 70-15)).toNat)=(aR bs k).getD (k-15) 0:=fun hg=>by
     have:=r15 hg;rw[show((15:Nat):Int)=15 from rfl]at this;rw[this];rfl
    have v2:∀ {q:Env},ai 80 q5 q->bS ((q.h 71).cell (q.i 6).toNat (IntKind.i64.wrap (q.i 70-2)).toNat)=(aR bs k).getD (k-2) 0:=fun hg=>by
     have:=r2 hg;rw[show((2:Nat):Int)=2 from rfl]at this;rw[this];rfl
    have v16:∀ {q:Env},ai 80 q5 q->(q.h 71).cell (q.i 6).toNat (IntKind.i64.wrap (q.i 70-16)).toNat=some (.int .u32 ((aR bs k).getD (k-16) 0)):=fun hg=>r16 hg;have v7:∀ {q:Env},ai 80 q5 q->(q.h 71).cell (q.i 6).toNat (IntKind.i64.wrap (q.i 70-7)).toNat=some (.int .u32 ((aR bs k).getD (k-7) 0)):=fun hg=>r7 hg;have u15:(q5.h 71).cell (q5.i 6).toNat ((k:Int)-15).toNat=some (.int .u32 ((aR bs k).getD (k-15) 0)):=by rw[<-w15];exact r15 (ai.refl _ _)
    have u2:(q5.h 71).cell (q5.i 6).toNat ((k:Int)-2).toNat=some (.int .u32 ((aR bs k).getD (k-2) 0)):=by rw[<-w2];exact r2 (ai.refl _ _)
    rw[w15,w2,u15,u2];refine⟨p6'',ah,ah,rfl,ah,ah,rfl,jJ (ok 15 ah ah) aA,fun q6 g6 ⟨_,p6,_,_⟩=>?_⟩;rw[v15 g6];refine⟨jJ (ok 15 ah ah) aA,fun q7 g7 ⟨_,p7,_,_⟩=>?_⟩;have G7:ai 80 q5 q7:=g6.tr g7;rw[v2 G7];refine⟨jJ (ok 2 ah ah) aA,fun q8 g8 ⟨_,p8,_,_⟩=>?_⟩;have G8:ai 80 q5 q8:=G7.tr g8;rw[v2 G8];refine⟨jJ (ok 2 ah ah) aA,fun q9 g9 ⟨_,p9,_,_⟩=>?_⟩;have G9:ai 80 q5 q9:=G8.tr g9;have e80:q9.i 80=bK 7 ((aR bs k).getD (k-15) 0):=by
     rw[g9.i 80,g8.i 80,g7.i 80];have h:Value.int .u32 (q6.i 80)=.int .u32 (bK 7 (bS (some (Value.int .u32 ((aR bs k).getD (k-15) 0))))):=p6;simpa [bS] using h
    have e81:q9.i 81=bK 18 ((aR bs k).getD (k-15) 0):=by
     rw[g9.i 81,g8.i 81];have h:Value.int .u32 (q7.i 81)=.int .u32 (bK 18 ((aR bs k).getD (k-15) 0)):=p7;simpa using h
    have e82:q9.i 82=bK 17 ((aR bs k).getD (k-2) 0):=by
     rw[g9.i 82];have h:Value.int .u32 (q8.i 82)=.int .u32 (bK 17 ((aR bs k).getD (k-2) 0)):=p8;simpa using h
    have e83:q9.i 83=bK 19 ((aR bs k).getD (k-2) 0):=by
     have h:Value.int .u32 (q9.i 83)=.int .u32 (bK 19 ((aR bs k).getD (k-2) 0)):=p9;simpa using h
    have j70:q9.i 70=k:=by rw[G9.i 70,e70]
    have j6:q9.i 6=q5.i 6:=G9.i 6;have w16:IntKind.i64.wrap (q9.i 70-16)=(k:Int)-16:=by rw[j70,wrap_i64 ah ah]
    have w7:IntKind.i64.wrap (q9.i 70-7)=(k:Int)-7:=by rw[j70,wrap_i64 ah ah]
    have u16:=v16 G9;have u7:=v7 G9;rw[w16]at u16;rw[w7]at u7;have vz:IntKind.u32.wrap (IntKind.u32.wrap (IntKind.u32.wrap ((aR bs k).getD (k-16) 0+kJ (q9.i 80) (q9.i 81) ((aR bs k).getD (k-15) 0/8))+(aR bs k).getD (k-7) 0)+kJ (q9.i 82) (q9.i 83) ((aR bs k).getD (k-2) 0/1024))=Ch (aR bs k) k:=by
     rw[e80,e81,e82,e83];rfl
    have x1:aB q9 (E.bits BinOp.xor IntKind.u32 (E.bits BinOp.xor IntKind.u32 (E.var 80) (E.var 81)) (E.shr IntKind.u32 (E.hI 71 (E.var 6) (E.wrap IntKind.i64 ((E.var 70).sub (E.lit 15))) 0) (E.lit 3)))=kJ (q9.i 80) (q9.i 81) ((aR bs k).getD (k-15) 0/8):=by
     show kJ (q9.i 80) (q9.i 81) ((bS ((q9.h 71).cell (q9.i 6).toNat ((IntKind.i64.wrap (q9.i 70-15)).toNat))).fdiv (2 ^ (min (Int.toNat 3) IntKind.u32.bits)))=_;rw[v15 G9,ZD (ok 15 ah ah)]
    have x2:aB q9 (E.bits BinOp.xor IntKind.u32 (E.bits BinOp.xor IntKind.u32 (E.var 82) (E.var 83)) (E.shr IntKind.u32 (E.hI 71 (E.var 6) (E.wrap IntKind.i64 ((E.var 70).sub (E.lit 2))) 0) (E.lit 10)))=kJ (q9.i 82) (q9.i 83) ((aR bs k).getD (k-2) 0/1024):=by
     show kJ (q9.i 82) (q9.i 83) ((bS ((q9.h 71).cell (q9.i 6).toNat ((IntKind.i64.wrap (q9.i 70-2)).toNat))).fdiv (2 ^ (min (Int.toNat 10) IntKind.u32.bits)))=_;rw[v2 G9,WW (ok 2 ah ah)]
    have hh9:q9.h 71=wH (q5.i 6).toNat l 172:=by rw[G9.h 71,hh]
    rw[w16,w7,u16,u7,x1,x2,j6,j70,aaa,hh9];refine⟨ah,ah,rfl,ah,ah,rfl,ah,⟨p6'',ah,KE ah⟩,fun q10 g10 h84=>?_⟩;have h84:q10.h 84=(wH (q5.i 6).toNat l 172).put (q5.i 6).toNat k [Value.int .u32 (IntKind.u32.wrap (IntKind.u32.wrap (IntKind.u32.wrap ((aR bs k).getD (k-16) 0+kJ (q9.i 80) (q9.i 81) ((aR bs k).getD (k-15) 0/8))+(aR bs k).getD (k-7) 0)+kJ (q9.i 82) (q9.i 83) ((aR bs k).getD (k-2) 0/1024)))]:=h84;rw[vz,DS ah]at h84;have ew:IntKind.i64.wrap (q10.i 70+1)=((k+1:Nat):Int):=by rw[g10.i 70,j70,wrap_i64 ah ah];rfl
    refine⟨⟨k+1,_,ew,ah,ah,hW.set ah (by rw[aan ah]),?_⟩,?_⟩
    .show q10.h 84=wH (q10.i 6).toNat _ _;rw[h84,g10.i 6,j6]
    .show(64-IntKind.i64.wrap (q10.i 70+1)).toNat<(64-q5.i 70).toNat;rw[ew,e70];omega
   .have ek:k=64:=ah;subst ek;obtain⟨S,hS⟩:∃ S,S=aR bs 64:=⟨_,rfl⟩;have hSl:S.length=64:=by rw[hS];exact dn bs 64
    have el:l=S:=by rw[hS];exact hW.all
    have aC:bg (IW S) (List.replicate 64 (Kd.int .u32)):=vp S hSl;have hcell:∀ j u,(IW S)[j]?=some u->(q5.h 71).cell (q5.i 6).toNat (0+j)=some u:=fun j u hu=>by
     rw[hh,el,KD,aaI,<-aao];exact hu
    have ev:(aU 71 (E.var 6) (E.lit 0) 0 (List.replicate 64 (Kd.int .u32))).map (CV.ev q5)=IW S:=fa _ _ 0 aC fun i u hu=>by
     show(q5.h 71).cell (q5.i 6).toNat (Int.toNat 0+(0+i))=_;rw[show Int.toNat 0+(0+i)=0+i from aaI _];exact hcell i u hu
    obtain⟨ρ2,_,_,e2⟩:=cH (List.replicate 64 vW) 0 (IW S) q5 (Iq S hSl);refine⟨p6'',lJ 0 aC hcell,fun _=>⟨[],[],rfl,rfl,⟨ρ2,?_,cm _ _ _ aA,zzT⟩,fun u bs' R' h1 h2 h'=>?_⟩⟩
    .show Value.agg ((aU 71 (E.var 6) (E.lit 0) 0 (List.replicate 64 (Kd.int .u32))).map (CV.ev q5)).toArray=Value.agg ((al 0 (List.replicate 64 vW)).map (CV.ev ρ2)).toArray;rw[ev,e2]
    .simp only[aag,aat]at h1 h2;subst h1 h2;obtain rfl:=h'.uniq hR;show Value.agg ((aU 71 (E.var 6) (E.lit 0) 0 (List.replicate 64 (Kd.int .u32))).map (CV.ev q5)).toArray=_;rw[ev,hS]
end Go.Proofs.YtomdimlnggpgbaaGreatDoor
namespace Go.Proofs.YtomdimlnggpgbaaGreatDoor
open Go Go.Sx Go.Pk
variable {q q':Env}{F F' R RG:Hl}{c c' s x x' z:Int}{Hs K Rs:List Hl}{bs l l':List Int}{L b j k m n y:Nat}{T e:TypeId}{u:Value}{v v':Wd}
def s8 (v:Wd):List Int:=(List.range 8).map v
def UP (h:s8 v=s8 v'):∀ j,j<8->v j=v' j:=fun j hj=>by
 have e:=aaD (fun l=>l[j]?) h;unfold s8 at e;simp only[aao,aaE hj,aaP,aai]at e;exact e
def Pr (h:∀ j,j<8->v j=v' j):s8 v=s8 v':=aa2 fun j hj=>h j (aaO.1 hj)
def uj {v v':Wd} (h:∀ j,j<8->v j=v' j) (w:List Int):∀ n j,j<8->dm v w n j=dm v' w n j
 | 0,j,hj=>h j hj
 | n+1,j,hj=>by
  have ih:=uj h w n;have eT:∀ k x,IA (dm v w n) k x=IA (dm v' w n) k x:=fun k x=>by
   unfold IA;rw[ih 7 ah,ih 4 ah,ih 5 ah,ih 6 ah]
  have eU:PX (dm v w n)=PX (dm v' w n):=by
   unfold PX;rw[ih 0 ah,ih 1 ah,ih 2 ah]
  match j,hj with
  | 0,_=>show dL (IA _ _ _+PX _)=dL (IA _ _ _+PX _);rw[eT,eU]
  | 4,_=>show dL (dm v w n 3+IA _ _ _)=dL (dm v' w n 3+IA _ _ _);rw[eT,ih 3 ah]
  | 1,_=>exact ih 0 ah
  | 2,_=>exact ih 1 ah
  | 3,_=>exact ih 2 ah
  | 5,_=>exact ih 4 ah
  | 6,_=>exact ih 5 ah
  | 7,_=>exact ih 6 ah
def HN (h:∀ j,j<8->v j=v' j) (m:List Int):∀ j,j<8->pn v m j=pn v' m j:=fun j hj=>by
 unfold pn;rw[h j hj,uj h _ _ j hj]
def U7 (h:wH b l T=wH b l' T):l=l':=by
 have e:=congrFun h b;unfold wH at e;rw[Hl.aT,Hl.aT]at e;simp only[aai,Obj.cells.injEq,aaG,aaT,aat]at e;unfold IW at e;exact(List.map_inj_right fun a b h=>by simpa using h).1 e
def uJ (R:Hl) (g:Nat):Prop:=∀ j,j<64->R.cell g j=some (.int .u32 (DC.getD j 0))
def QQ:Sx.Spec where
 fn:=197
 own:=[.arg 0]
 rd:=[1,2000005]
 res:=[]
 pre:=fun xs Hs Rs=>∃ (a:Nat) (v:Wd) (x y:Int) (c:Nat) (bs:List Int) (R RG:Hl),xs=[.pointer (some ⟨a,0,none⟩),.slice (az x y) 64 c]/\Hs=[wH a (s8 v) 285]/\Rs=[R,RG]/\(∀ j,j<8->okW (v j))/\fu R (.slice (az x y) 64 c) bs/\bs.length=64/\64<=c/\ar bs/\0<=y/\ -1<=x/\uJ RG 5
 post:=fun xs Hs Rs w Hs' F=>∀ (a:Nat) (u:Value) (v:Wd) (bs:List Int) (R RG:Hl),xs=[.pointer (some ⟨a,0,none⟩),u]->Hs=[wH a (s8 v) 285]->Rs=[R,RG]->fu R u bs->Hs'=[wH a (s8 (pn v bs)) 285]
def Sn:Nd:=(fun f o n d k p q=>(fun a b c=>(fun g h i j l m=>(.and (.pre d) (.ext d (.ext (.alloc 84) (.ext (.alloc 85) (.ext (.MM 86 (.bd 84 (al 20 (List.replicate 64 (Ck.int .u32))) 172)) (.and (.inv 0 (([⟨110,0,.int .i64 (.lit 0)⟩]:List As)++(Sm 87 (al 120 k) (al 10 k))) [(111,some 86)]) (.havoc 0 0 87 (.and (.imp (.lt f (.lit 64)) (.and (.pre l) (.ext l (.and (.pre g) (.ext g (.and (.pre h) (.ext h (.and (.e (.le (.lit 0) f)) (.and (.e (.his 6 (.lit 5) f 0 (.int .u32))) (.and (.e (.le (.lit 0) (.var 84))) (.and (.e (.his 111 (.var 84) f 0 (.int .u32))) (.and (.pre m) (.ext m (.and (.pre i) (.ext i (.and (.pre j) (.ext j (.back 0 0 (([⟨110,0,.int .i64 (.wrap .i64 (.add f (.lit 1)))⟩]:List As)++(Sm 87 (al 120 k) [.int .u32 (.wrap .u32 (.add a (.wrap .u32 (.add (.bits .xor .u32 (.bits .xor .u32 (.var 203) (.var 204)) (.var 205)) (.bits .xor .u32 (.bits .xor .u32 (.bits .and .u32 n p) (.bits .and .u32 n q)) (.bits .and .u32 p q)))))),.int .u32 n,.int .u32 p,.int .u32 q,.int .u32 (.wrap .u32 (.add (.var 123) a)),.int .u32 o,.int .u32 (.var 125),.int .u32 (.var 126)])) [(111,some 111)])))))))))))))))))) (.imp (.not (.lt f (.lit 64))) (.post [.bd 0 [.int .u32 (.wrap .u32 (.add (.var 10) n)),.int .u32 (.wrap .u32 (.add (.var 11) p)),.int .u32 (.wrap .u32 (.add (.var 12) q)),.int .u32 (.wrap .u32 (.add (.var 13) (.var 123))),.int .u32 (.wrap .u32 (.add (.var 14) o)),.int .u32 (.wrap .u32 (.add (.var 15) (.var 125))),.int .u32 (.wrap .u32 (.add (.var 16) (.var 126))),.int .u32 (.wrap .u32 (.add (.var 17) (.var 127)))] 285,.ro 5 [.var 1] true,.ro 6 [.lit 5] false,.hp 111 [] [.var 84] [],.dead] (.tup [])))))))))):Nd)) (.call 0 201 [.sv b,.sv (.one (.int .i64 (.lit (-11))))] [] []) (.call 0 202 [.sv b,.sv (.one (.int .i64 (.lit (-25))))] [] []) (.call 0 204 [.sv c,.sv (.one (.int .i64 (.lit (-13))))] [] []) (.call 0 205 [.sv c,.sv (.one (.int .i64 (.lit (-22))))] [] []) (.call 0 200 [.sv b,.sv (.one (.int .i64 (.lit (-6))))] [] []) (.call 0 203 [.sv c,.sv (.one (.int .i64 (.lit (-2))))] [] [])) (.wrap .u32 (.add (.wrap .u32 (.add (.wrap .u32 (.add (.wrap .u32 (.add (.var 127) (.bits .xor .u32 (.bits .xor .u32 (.var 200) (.var 201)) (.var 202)))) (.bits .xor .u32 (.bits .and .u32 o (.var 125)) (.bits .and .u32 (.bits .xor .u32 (.lit 4294967295) o) (.var 126))))) (.hI 6 (.lit 5) f 0))) (.hI 111 (.var 84) f 0))) (.one (.int .u32 o)) (.one (.int .u32 n))) (.var 110) (.var 124) (.var 120) (.call 1 20 [.sv (.one (.sl (.var 1) (.var 2) (.var 3) (.var 4)))] [] [.ro 5 [.var 1] true]) (List.replicate 8 (Ck.int .u32)) (.var 121) (.var 122)
def XB:List Sx.Spec:=[O9,xX]
def T8:∀ t∈XB,t.OK Tryz.prog:=av Ke <| av IF <| bQ
def Oi:aG Tryz.prog XB QQ.fn where
 Λ:=fun p=>if ML p [197,1,1,0,1,0]then some ⟨0,[(17,TI .i64 (.var 110))],[(3,.hp 111 [] [.var 84] []),(4,.bd 85 (al 120 (List.replicate 8 vW)) 285)],200⟩else none
 args:=[TP (.var 0) (.lit 0),.sv (.one (.sl (.var 1) (.var 2) (.var 3) (.var 4)))]
 mem:=[.bd 0 (al 10 (List.replicate 8 vW)) 285,.ro 5 [.var 1] true,.ro 6 [.lit 5] false]
 nv:=20
def YS:xX.res=[.agg (List.replicate 64 vW)]:=rfl
def IY (q:Env) (n:Nat) (v:Wd):Prop:=∀ j,j<8->q.i (n+j)=v j
def Mw (h:IY q n v):(al n (List.replicate 8 vW)).map (CV.ev q)=IW (s8 v):=by
 show [Value.int .u32 (q.i n),Value.int .u32 (q.i (n+1)),Value.int .u32 (q.i (n+1+1)),Value.int .u32 (q.i (n+1+1+1)),Value.int .u32 (q.i (n+1+1+1+1)),Value.int .u32 (q.i (n+1+1+1+1+1)),Value.int .u32 (q.i (n+1+1+1+1+1+1)),Value.int .u32 (q.i (n+1+1+1+1+1+1+1))]=[Value.int .u32 (v 0),Value.int .u32 (v 1),Value.int .u32 (v 2),Value.int .u32 (v 3),Value.int .u32 (v 4),Value.int .u32 (v 5),Value.int .u32 (v 6),Value.int .u32 (v 7)];rw[show q.i n=v 0 from h 0 ah,show q.i (n+1)=v 1 from h 1 ah,show q.i (n+1+1)=v 2 from h 2 ah,show q.i (n+1+1+1)=v 3 from h 3 ah,show q.i (n+1+1+1+1)=v 4 from h 4 ah,show q.i (n+1+1+1+1+1)=v 5 from h 5 ah,show q.i (n+1+1+1+1+1+1)=v 6 from h 6 ah,show q.i (n+1+1+1+1+1+1+1)=v 7 from h 7 ah]
def IY.mono (h:IY q n v) (g:ai m q q') (hm:n+8<=m):IY q' n v:=fun j hj=>by rw[g.i _ ah];exact h j hj
def QR:QQ.OK Tryz.prog:=by
 refine Spec.aS (Γ:=XB) T8 ?_;rintro xs Hs Rs hl1 hl2 ⟨a,v,x,y,c,bs,R,RG,rfl,rfl,rfl,hv,hR,hlen,hc,hb,hy,hx,hK⟩;refine⟨Oi,aO [a,x,y,64,c,0,0,0,0,0,v 0,v 1,v 2,v 3,v 4,v 5,v 6,v 7] false [Hl.none,Hl.none,Hl.none,Hl.none,Hl.none,R,RG],
  fun _ q=>∃ k:Nat,q.i 110=k/\k<=64/\IY q 120 (dm v (aR bs 64) k)/\q.h 111=wH (q.i 84).toNat (aR bs 64) 172,
  fun _ q=>(64-q.i 110).toNat,?_,⟨?_,?_,?_,?_⟩,(fun _ h=>nomatch h),?_⟩
 .show [Value.pointer (az (a:Int) 0),Value.slice (az x y) (Int.toNat 64) ((c:Int)).toNat]=_;rw[aaa,gz];rfl
 .intro r hr ho;simp [Oi]at hr;rcases hr with rfl | rfl | rfl
  .exact⟨wH a (s8 v) _,aal.2 rfl,Hl.le_refl (wH a (s8 v) 285)⟩
  .cases ho
  .cases ho
 .intro r hr ho;simp [Oi]at hr;rcases hr with rfl | rfl | rfl
  .cases ho
  .exact⟨R,aF,Hl.le_refl _⟩
  .exact⟨RG,aF,Hl.le_refl _⟩
 .simp [Oi,bD.own]
 .intro r hr;simp [Oi]at hr;rcases hr with rfl | rfl | rfl
  .show(0:Int)<=a;omega
  .trivial
  .trivial
 .refine aG.lit (x:=Sn) ?_;generalize hρ:aO [a,x,y,64,c,0,0,0,0,0,v 0,v 1,v 2,v 3,v 4,v 5,v 6,v 7] false [Hl.none,Hl.none,Hl.none,Hl.none,Hl.none,R,RG]=J;have V:∀ q:Env,ai 20 J q->q.i 0=a/\q.i 1=x/\q.i 2=y/\q.i 3=64/\q.i 4=c/\q.h 5=R/\q.h 6=RG/\IY q 10 v:=fun q hg=>by
   rw[hg.i 0,hg.i 1,hg.i 2,hg.i 3,hg.i 4,hg.h 5,hg.h 6];have h8:IY J 10 v:=fun j hj=>by
    rw[<-hρ]
    match j with
    | 0=>rfl
    | 1=>rfl
    | 2=>rfl
    | 3=>rfl
    | 4=>rfl
    | 5=>rfl
    | 6=>rfl
    | 7=>rfl
   refine⟨?_,?_,?_,?_,?_,?_,?_,h8.mono hg ah⟩<;>rw[<-hρ]<;>rfl
  clear hρ;unfold Sn;simp only[go_sem,Nat.reduceAdd,XB,WY,YS];obtain⟨v0,v1,v2,v3,v4,w5,w6,h8⟩:=V J (ai.refl _ _);rw[v1,v2,v3,v4,w5,aaa];refine⟨⟨x,y,c,bs,R,rfl,rfl,hR,hlen,hc,hb,hy,hx⟩,fun q1 g1 ⟨_,p1,_,_⟩ q2 g2 p84 q3 g3 _ q4 g4 h86=>?_⟩;have p1:=p1 _ bs R rfl rfl hR;simp only[Value.agg.injEq,aaG,aaT]at p1;have G4:ai 20 J q4:=g1.trans (g2.mono.trans (g3.mono.tr g4));have A3:ai 84 q1 q3:=g2.tr g3;obtain⟨S,hS⟩:∃ S,S=aR bs 64:=⟨_,rfl⟩;rw[<-hS]at p1 ⊢;have h84:q4.h 86=wH (q4.i 84).toNat S 172:=by
   rw[h86,g4.i 84];unfold wH;rw[<-p1];have ag:(al 20 (List.replicate 64 vW)).map (CV.ev q3)=(al 20 (List.replicate 64 vW)).map (CV.ev q1):=by
    have h:Value.agg ((al 20 (List.replicate 64 vW)).map (CV.ev q3)).toArray=Value.agg ((al 20 (List.replicate 64 vW)).map (CV.ev q1)).toArray:=fH (n:=20) (ks:=List.replicate 64 vW) A3 aA;rw[Value.agg.injEq]at h;exact aaD Array.toList h
   rw[<-ag]
  obtain⟨_,_,_,_,_,_,_,h10⟩:=V q4 G4;have p84:0<=q4.i 84:=by rw[g4.i 84,g3.i 84];exact p84
  refine⟨⟨0,rfl,ah,fun j hj=>?_,h84⟩,fun q5 g5 ⟨k,e110,hk,h8k,h111⟩=>?_⟩
  .show _=v j;rw[<-h10 j hj]
   match j,hj with
   | 0,_=>rfl
   | 1,_=>rfl
   | 2,_=>rfl
   | 3,_=>rfl
   | 4,_=>rfl
   | 5,_=>rfl
   | 6,_=>rfl
   | 7,_=>rfl
  have G5:ai 20 J q5:=G4.tr g5;have p84':0<=q5.i 84:=by rw[g5.i 84];exact p84
  obtain⟨r,hr⟩:∃ r,r=dm v S k:=⟨_,rfl⟩;rw[<-hr]at h8k;have okr:∀ j,j<8->okW (r j):=by rw[hr];exact sJ hv S k
  refine⟨fun hlt=>?_,fun hge=>?_⟩
  .have hk64:k<64:=ah;have r4:∀ {q:Env},ai 200 q5 q->q.i 124=r 4:=fun hg=>(h8k.mono hg ah) 4 ah;have r0:∀ {q:Env},ai 200 q5 q->q.i 120=r 0:=fun hg=>(h8k.mono hg ah) 0 ah;rw[r4 (ai.refl _ _)];refine⟨jJ (okr 4 ah) aA,fun q6 g6 ⟨_,p6,_,_⟩=>?_⟩;rw[r4 g6];refine⟨jJ (okr 4 ah) aA,fun q7 g7 ⟨_,p7,_,_⟩=>?_⟩;have G7:ai 200 q5 q7:=g6.tr g7;rw[r4 G7];refine⟨jJ (okr 4 ah) aA,fun q8 g8 ⟨_,p8,_,_⟩=>?_⟩;have G8:ai 200 q5 q8:=G7.tr g8;have cK:∀ {q:Env},ai 200 q5 q->(q.h 6).cell 5 (q.i 110).toNat=some (.int .u32 (DC.getD k 0)):=fun {q} hg=>by
    rw[hg.i 110,hg.h 6,(V q5 G5).2.2.2.2.2.2.1,e110,aaa];exact hK k hk64
   have cS:∀ {q:Env},ai 200 q5 q->(q.h 111).cell (q.i 84).toNat (q.i 110).toNat=some (.int .u32 (S.getD k 0)):=fun {q} hg=>by
    rw[hg.i 110,hg.i 84,hg.h 111,h111,e110,aaa];refine Cg ?_;rw[aak,aab (by rw[hS,dn];exact hk64)];rfl
   have e8:q8.i 110=k:=by rw[G8.i 110,e110]
   have j84:q8.i 84=q5.i 84:=G8.i 84;have cK8:=cK G8;have cK8:(q8.h 6).cell (Int.toNat 5) (q8.i 110).toNat=some (.int .u32 (DC.getD k 0)):=cK8;rw[cK8,cS G8,r0 G8];refine⟨ah,rfl,ah,rfl,jJ (okr 0 ah) aA,fun q9 g9 ⟨_,p9,_,_⟩=>?_⟩;have G9:ai 200 q5 q9:=G8.tr g9;rw[r0 G9];refine⟨jJ (okr 0 ah) aA,fun q10 g10 ⟨_,p10,_,_⟩=>?_⟩;have G10:ai 200 q5 q10:=G9.tr g10;rw[r0 G10];refine⟨jJ (okr 0 ah) aA,fun q11 g11 ⟨_,p11,_,_⟩=>?_⟩;have G11:ai 200 q5 q11:=G10.tr g11;have tn:∀ {q:Env} {n m:Nat} {x:Int},WN [Value.int .u32 x,.int .i64 (-(m:Int))]=Value.int .u32 (q.i n)->q.i n=bK m x:=fun {q n m x} h=>by
    have h:Value.int .u32 (bK (-(-(m:Int))).toNat x)=Value.int .u32 (q.i n):=h;rw[show(-(-(m:Int))).toNat=m by omega]at h;simpa using h.symm
   have e200:q11.i 200=bK 6 (r 4):=by rw[g11.i 200,g10.i 200,g9.i 200,g8.i 200,g7.i 200];exact tn (m:=6) p6.symm
   have e201:q11.i 201=bK 11 (r 4):=by rw[g11.i 201,g10.i 201,g9.i 201,g8.i 201];exact tn (m:=11) p7.symm
   have e202:q11.i 202=bK 25 (r 4):=by rw[g11.i 202,g10.i 202,g9.i 202];exact tn (m:=25) p8.symm
   have e203:q11.i 203=bK 2 (r 0):=by rw[g11.i 203,g10.i 203];exact tn (m:=2) p9.symm
   have e204:q11.i 204=bK 13 (r 0):=by rw[g11.i 204];exact tn (m:=13) p10.symm
   have e205:q11.i 205=bK 22 (r 0):=tn (m:=22) p11.symm;have s11:IY q11 120 r:=h8k.mono G11 ah;have eT:dL (dL (dL (dL (q11.i 127+kJ (q11.i 200) (q11.i 201) (q11.i 202))+ct .xor .u32 (iV (q11.i 124) (q11.i 125)) (iV (ct .xor .u32 4294967295 (q11.i 124)) (q11.i 126)))+bS ((q11.h 6).cell 5 (q11.i 110).toNat))+bS ((q11.h 111).cell (q11.i 84).toNat (q11.i 110).toNat))=IA r (DC.getD k 0) (S.getD k 0):=by
    rw[cK G11,cS G11,e200,e201,e202,show q11.i 127=r 7 from s11 7 ah,show q11.i 124=r 4 from s11 4 ah,show q11.i 125=r 5 from s11 5 ah,show q11.i 126=r 6 from s11 6 ah,xor_not (okr 4 ah)];rfl
   have eU:dL (kJ (q11.i 203) (q11.i 204) (q11.i 205)+ct .xor .u32 (ct .xor .u32 (iV (q11.i 120) (q11.i 121)) (iV (q11.i 120) (q11.i 122))) (iV (q11.i 121) (q11.i 122)))=PX r:=by
    rw[e203,e204,e205,show q11.i 120=r 0 from s11 0 ah,show q11.i 121=r 1 from s11 1 ah,show q11.i 122=r 2 from s11 2 ah];rfl
   have ew:IntKind.i64.wrap (q11.i 110+1)=((k+1:Nat):Int):=by rw[G11.i 110,e110,wrap_i64 ah ah];rfl
   refine⟨⟨k+1,ew,ah,fun j hj=>?_,?_⟩,?_⟩
   .show _=uv (dm v S k) (DC.getD k 0) (S.getD k 0) j;rw[<-hr]
    match j,hj with
    | 0,_ =>
     show dL (dL (dL (dL (dL (q11.i 127+kJ (q11.i 200) (q11.i 201) (q11.i 202))+ct .xor .u32 (iV (q11.i 124) (q11.i 125)) (iV (ct .xor .u32 4294967295 (q11.i 124)) (q11.i 126)))+bS ((q11.h 6).cell 5 (q11.i 110).toNat))+bS ((q11.h 111).cell (q11.i 84).toNat (q11.i 110).toNat))+dL (kJ (q11.i 203) (q11.i 204) (q11.i 205)+ct .xor .u32 (ct .xor .u32 (iV (q11.i 120) (q11.i 121)) (iV (q11.i 120) (q11.i 122))) (iV (q11.i 121) (q11.i 122))))=dL (IA r _ _+PX r);rw[eT,eU]
    | 4,_ =>
     show dL (q11.i 123+dL (dL (dL (dL (q11.i 127+kJ (q11.i 200) (q11.i 201) (q11.i 202))+ct .xor .u32 (iV (q11.i 124) (q11.i 125)) (iV (ct .xor .u32 4294967295 (q11.i 124)) (q11.i 126)))+bS ((q11.h 6).cell 5 (q11.i 110).toNat))+bS ((q11.h 111).cell (q11.i 84).toNat (q11.i 110).toNat)))=dL (r 3+IA r _ _);rw[eT,show q11.i 123=r 3 from s11 3 ah]
    | 1,_=>exact s11 0 ah
    | 2,_=>exact s11 1 ah
    | 3,_=>exact s11 2 ah
    | 5,_=>exact s11 4 ah
    | 6,_=>exact s11 5 ah
    | 7,_=>exact s11 6 ah
   .show q11.h 111=wH (q11.i 84).toNat S _;rw[G11.h 111,h111,G11.i 84]
   .show(64-IntKind.i64.wrap (q11.i 110+1)).toNat<(64-q5.i 110).toNat;rw[ew,e110];omega
  .have ek:k=64:=ah;subst ek;obtain⟨v0,_,_,_,_,_,_,h10⟩:=V q5 G5;refine fun _=>⟨[[0]],[],rfl,rfl,⟨(aY fun _=>0),rfl,zzT⟩,fun a' u v' bs' R' RG' e1 e2 e3 h'=>?_⟩;simp only[aag,Value.pointer.injEq,aai,Addr.mk.injEq,aat]at e1 e2 e3;obtain⟨rfl,rfl⟩:=e1;obtain⟨rfl,rfl⟩:=e3;obtain rfl:=h'.uniq hR;have ev:=UP (U7 e2);rw[<-Pr (HN ev bs')];have hr':∀ j,j<8->pn v bs' j=dL (v j+r j):=fun j hj=>by unfold pn;rw[<-hS,<-hr]
   have e8:[Value.int .u32 (dL (q5.i 10+q5.i 120)),Value.int .u32 (dL (q5.i 11+q5.i 121)),Value.int .u32 (dL (q5.i 12+q5.i 122)),Value.int .u32 (dL (q5.i 13+q5.i 123)),Value.int .u32 (dL (q5.i 14+q5.i 124)),Value.int .u32 (dL (q5.i 15+q5.i 125)),Value.int .u32 (dL (q5.i 16+q5.i 126)),Value.int .u32 (dL (q5.i 17+q5.i 127))]=IW (s8 (pn v bs')):=by
    show _=[Value.int .u32 (pn v bs' 0),Value.int .u32 (pn v bs' 1),Value.int .u32 (pn v bs' 2),Value.int .u32 (pn v bs' 3),Value.int .u32 (pn v bs' 4),Value.int .u32 (pn v bs' 5),Value.int .u32 (pn v bs' 6),Value.int .u32 (pn v bs' 7)];have k10:∀ j,j<8->q5.i (10+j)=v j:=h10;have k12:∀ j,j<8->q5.i (120+j)=r j:=h8k;rw[show q5.i 10=v 0 from k10 0 ah,show q5.i 120=r 0 from k12 0 ah,show q5.i 11=v 1 from k10 1 ah,show q5.i 121=r 1 from k12 1 ah,show q5.i 12=v 2 from k10 2 ah,show q5.i 122=r 2 from k12 2 ah,show q5.i 13=v 3 from k10 3 ah,show q5.i 123=r 3 from k12 3 ah,show q5.i 14=v 4 from k10 4 ah,show q5.i 124=r 4 from k12 4 ah,show q5.i 15=v 5 from k10 5 ah,show q5.i 125=r 5 from k12 5 ah,show q5.i 16=v 6 from k10 6 ah,show q5.i 126=r 6 from k12 6 ah,show q5.i 17=v 7 from k10 7 ah,show q5.i 127=r 7 from k12 7 ah];rw[hr' 0 ah,hr' 1 ah,hr' 2 ah,hr' 3 ah,hr' 4 ah,hr' 5 ah,hr' 6 ah,hr' 7 ah]
   refine aaD (fun x=>[x]) ((Hl.my _).trans ?_);show Hl.one (q5.i 0).toNat (.cells [Value.int .u32 (dL (q5.i 10+q5.i 120)),Value.int .u32 (dL (q5.i 11+q5.i 121)),Value.int .u32 (dL (q5.i 12+q5.i 122)),Value.int .u32 (dL (q5.i 13+q5.i 123)),Value.int .u32 (dL (q5.i 14+q5.i 124)),Value.int .u32 (dL (q5.i 15+q5.i 125)),Value.int .u32 (dL (q5.i 16+q5.i 126)),Value.int .u32 (dL (q5.i 17+q5.i 127))].toArray _ (0,0))=_;rw[e8,v0,aaa];rfl
def OC {v:Value} (h:bO F e v bs) (hl:L=bs.length) (hr:∀ xs,aN F e 1 v L xs->aN F' e 1 (.slice (az x' 0) (L+1) c'.toNat) (L+1) (xs++[Value.int .u8 z])):bO F' e (.slice (az x' 0) (L+1) c'.toNat) (bs++[z]):=by
 unfold bO at h ⊢;subst hl;have:=hr _ h;rw[aac,aay];unfold aM at this ⊢;rw[aaM];exact this
def Ob (q:Env) (h a c:Nat) (L:Int) (bs:List Int):Prop:=bO (q.h h) 5 (.slice (az (q.i a) 0) L.toNat (q.i c).toNat) bs/\L=bs.length/\ -1<=q.i a/\0<=q.i c
section
variable {q q':Env} {h a c n:Nat} {L L':Int} {bs:List Int}
def Ob.mono (o:Ob q h a c L bs) (g:ai n q q') (h1:h<n) (h2:a<n) (h3:c<n):Ob q' h a c L bs:=by
 unfold Ob;rw[g.h h h1,g.i a h2,g.i c h3];exact o
def Ob.cast (o:Ob q h a c L bs) (e:L=L'):Ob q h a c L' bs:=e▸o
def Ob.pre (o:Ob q h a c L bs) (hl:bs.length<=2000000):(∃ xs,aN (q.h h) 5 1 (.slice (az (q.i a) 0) L.toNat (q.i c).toNat) L.toNat xs)/\0<=L/\L.toNat+1<=maxLen/\L.toNat+1<=140737488355328:=by
 obtain⟨o1,o2,_,_⟩:=o;have e:L.toNat=bs.length:=ah;refine⟨⟨aM bs,?_⟩,ah,by unfold maxLen;omega,ah⟩;unfold bO at o1;rw[e]at o1 ⊢;exact o1
def Ob.app (o:Ob q h a c L bs) (r:-1<=q'.i n/\0<=q'.i (n+1)/\(∀ xs,aN (q.h h) 5 1 (.slice (az (q.i a) 0) L.toNat (q.i c).toNat) L.toNat xs->aN (q'.h n) 5 1 (.slice (az (q'.i n) 0) (L.toNat+1) (q'.i (n+1)).toNat) (L.toNat+1) (xs++[Value.int .u8 z]))) (e:L'=L+1):Ob q' n n (n+1) L' (bs++[z]):=by
 subst e;obtain⟨r1,r2,r3⟩:=r;obtain⟨o1,o2,_,_⟩:=o;have hs:=OC o1 ah r3;refine⟨?_,by rw[aac,aay];omega,r1,r2⟩;rw[show(L+1).toNat=L.toNat+1 by omega];exact hs
end
def TG (n:Nat):(aK n [Cp.one .sl]≠[])=True:=by simp [aK,Cp.roots,Ck.root]
def EM {v:Value} (h:fu R u bs) (hp:gf.post [u] [] [R] v K F):bO F 5 v bs:=by
 obtain⟨u',bs',R',e1,e2,h',ho⟩:=hp;simp only[aag,aat]at e1 e2;subst e1 e2;rw[h.uniq h'];exact ho
def Cq (hn:n<18446744073709551616) (hs:s=(k:Int)) (hk:k<=63) (hx:x=(n:Int)):IntKind.u8.wrap (x.fdiv (2 ^ (min s.toNat IntKind.u64.bits)))=((n/2 ^ k%256:Nat):Int):=by
 subst hs hx;have e:min ((k:Nat):Int).toNat IntKind.u64.bits=k:=by show min _ 64=_;omega
 have e2:((2:Int) ^ k)=((2 ^ k:Nat):Int):=by push_cast;rfl
 rw[e,e2,abz _ (ab1 _)];exact PT _
def vQ (hw:IntKind.u64.wrap (8*IntKind.u64.wrap (q.i 2))=(n:Int)) (hn:n<18446744073709551616) (hs:s=(k:Int)) (hk:k<=63):IntKind.u8.wrap (aB q (E.shr .u64 (E.wrap .u64 ((E.lit 8).mul (E.wrap .u64 (E.var 2)))) (E.lit s)))=((n/2 ^ k%256:Nat):Int):=Cq hn hs hk hw
def Fv:Sx.Spec where
 fn:=195
 own:=[]
 rd:=[0]
 res:=[.one .sl]
 pre:=fun xs Hs Rs=>∃ u bs R,xs=[u]/\Rs=[R]/\fu R u bs/\bs.length<=1000000
 post:=fun xs Hs Rs v Hs' F=>∃ u bs R,xs=[u]/\Rs=[R]/\fu R u bs/\bO F 5 v (gy bs)
def WA:List Sx.Spec:=[gf]
def Ug:∀ t∈WA,t.OK Tryz.prog:=fun t ht=>by
 simp only[WA,aar,aaB,abe]at ht;subst ht;exact kX
def Fw:aG Tryz.prog WA Fv.fn where
 Λ:=fun p=>if ML p [195,1,1,0,0]then some ⟨0,[(3,.sv (.one (.sl (.var 50) (.lit 0) (.var 51) (.var 52))))],[(1,.hp 53 [] [.var 50] [])],60⟩else none
 args:=[.sv (.one (.sl (.var 0) (.var 1) (.var 2) (.var 3)))]
 mem:=[.ro 4 [.var 0] true]
 nv:=5
def Y0:gf.res=[.one .sl]:=rfl
def OE:Fv.OK Tryz.prog:=by
 refine Spec.aS (Γ:=WA) Ug ?_;rintro xs Hs Rs hl1 hl2 ⟨u,bs,R,rfl,rfl,hR,hlen⟩;have e0:Hs=[]:=aad.1 hl1;subst e0;obtain⟨x,y,c,rfl,hy,_⟩:=id hR;refine⟨Fw,aO [x,y,bs.length,c] false [Hl.none,Hl.none,Hl.none,Hl.none,R],
  fun _ q=>∃ m:Nat,m<=(119-bs.length%64)%64/\q.i 51=bs.length+1+m/\ -1<=q.i 50/\0<=q.i 52/\bO (q.h 53) 5 (.slice (az (q.i 50) 0) (q.i 51).toNat (q.i 52).toNat) (bs++[128]++List.replicate m 0),
  fun _ q=>((bs.length:Int)+100-q.i 51).toNat,?_,⟨?_,?_,?_,?_⟩,(fun _ h=>nomatch h),?_⟩
 .show [Value.slice (az x y) ((bs.length:Int)).toNat ((c:Int)).toNat]=_;simp only[aaa]
 .intro r hr ho;simp [Fw]at hr;subst hr;cases ho
 .intro r hr ho;simp [Fw]at hr;subst hr;exact⟨R,aF,Hl.le_refl _⟩
 .simp [Fw]
 .intro r hr;simp [Fw]at hr;subst hr;trivial
 .refine aG.read [] [] [] ?_;generalize hρ:aO [x,y,bs.length,c] false [Hl.none,Hl.none,Hl.none,Hl.none,R]=J;have V:∀ q:Env,ai 5 J q->q.i 0=x/\q.i 1=y/\q.i 2=bs.length/\q.i 3=c/\q.h 4=R:=fun q hg=>by
   rw[hg.i 0,hg.i 1,hg.i 2,hg.i 3,hg.h 4,<-hρ];exact⟨rfl,rfl,rfl,rfl,rfl⟩
  clear hρ;simp only[go_sem,Nat.reduceAdd,WA,Y0,TG];obtain⟨v0,v1,v2,v3,w4⟩:=V J (ai.refl _ _);rw[v0,v1,v2,v3,w4,aaa,aaa];refine⟨⟨_,bs,R,rfl,rfl,hR,hlen⟩,fun q1 g1 ⟨F,p1,hF,hn1⟩ q2 g2 _=>?_⟩;have o1:=EM hR p1;rw[<-hF zzT]at o1;have hn1:-1<=q1.i 5/\0<=q1.i 6/\0<=q1.i 7/\0<=q1.i 8:=hn1.1;have hsh:=bO.shape o1;have hl7:q1.i 7=bs.length:=by
   obtain⟨_,hc⟩:=o1;rcases hc with ⟨e,e0⟩ | ⟨g,cap,cur,e,_⟩
   .simp only[Value.slice.injEq]at e;omega
   .simp only[Value.slice.injEq]at e;omega
  have hy6:az (q1.i 5) (q1.i 6)=az (q1.i 5) 0:=by
   rcases hsh with (h | ⟨h1,h2⟩) | h
   .rw[h];rfl
   .rw[show q1.i 6=0 by omega]
   .omega
  rw[hy6]at o1;have b2:Ob q2 5 5 8 (q2.i 7) bs:=by
   have o:Ob q1 5 5 8 (q1.i 7) bs:=⟨o1,hl7,hn1.1,hn1.2.2.2⟩;have:=o.mono g2 ah ah ah;rw[g2.i 7];exact this
  have e6:az (q2.i 5) (q2.i 6)=az (q2.i 5) 0:=by rw[g2.i 5,g2.i 6];exact hy6
  rw[e6];refine⟨b2.pre ah,fun q3 g3 ⟨r1,r2,r3,_⟩=>?_⟩;have b3:=b2.app ⟨r1,r2,r3⟩ rfl;have g7:q3.i 7=bs.length:=by rw[g3.i 7,g2.i 7,hl7]
  rw[show q2.i 7=q3.i 7 from (g3.i 7).symm]at b3;obtain⟨b31,b32,b33,b34⟩:=b3;refine⟨⟨0,ah,?_,b33,b34,?_⟩,fun q4 g4 ⟨m,hm,e51,h50,h52,hO⟩=>?_⟩
  .show q3.i 7+1=_;rw[g7];omega
  .rw[adv,aa6];exact b31
  have G4:ai 5 J q4:=g1.trans (g2.mono.trans (g3.mono.tr g4));have hml:(bs++[128]++List.replicate m 0).length=bs.length+1+m:=by rw[aac,aac,aa8];rfl
  have b4:Ob q4 53 50 52 (q4.i 51) (bs++[128]++List.replicate m 0):=⟨hO,by rw[hml,e51];omega,h50,h52⟩;have tm:(q4.i 51).tmod 64=((bs.length+1+m)%64:Nat):=by rw[e51,abf ah];omega
  refine⟨ah,fun hne=>?_,fun heq=>?_⟩
  .have hne:(q4.i 51).tmod 64≠56:=hne;rw[tm]at hne;intro q5 g5 _;have b5:=b4.mono g5 ah ah ah;rw[show q4.i 51=q5.i 51 from (g5.i 51).symm]at b5;refine⟨b5.pre (by rw[hml];omega),fun q6 g6 ⟨r1,r2,r3,_⟩=>?_⟩;have b6:=b5.app ⟨r1,r2,r3⟩ rfl;obtain⟨b61,b62,b63,b64⟩:=b6;have e6:q6.i 51=bs.length+1+m:=by rw[g6.i 51,g5.i 51,e51]
   rw[show q5.i 51=q6.i 51 from (g6.i 51).symm]at b61;refine⟨⟨m+1,ah,?_,b63,b64,?_⟩,?_⟩
   .show q6.i 51+1=_;rw[e6];omega
   .rw[adr,<-aax];exact b61
   .show((bs.length:Int)+100-(q6.i 51+1)).toNat<((bs.length:Int)+100-q4.i 51).toNat;rw[e6,e51];omega
  .have heq:(q4.i 51).tmod 64=56:=heq;rw[tm]at heq;have em:m=(119-bs.length%64)%64:=ah;obtain⟨M,hM⟩:∃ M,M=bs++[128]++List.replicate m 0:=⟨_,rfl⟩;rw[<-hM]at b4 hml;have v2':q4.i 2=bs.length:=(V q4 G4).2.2.1;refine⟨by rw[v2'];omega,?_⟩;have wlen:∀ {q:Env},ai 5 J q->IntKind.u64.wrap (8*IntKind.u64.wrap (q.i 2))=((8*bs.length:Nat):Int):=fun {q} hg=>by
    rw[(V q hg).2.2.1,mY (x:=(bs.length:Int)) ah ah,mY ah ah];omega
   intro q5 g5 _;have c0:=b4.mono g5 ah ah ah;rw[show q4.i 51=q5.i 51 from (g5.i 51).symm]at c0;have G5:ai 5 J q5:=G4.tr g5;refine⟨c0.pre ah,fun q6 g6 ⟨r1,r2,r3,_⟩=>?_⟩;have G6:ai 5 J q6:=G5.tr g6;rw[vQ (q:=q5) (n:=8*bs.length) (k:=56) (s:=56) (wlen G5) ah rfl ah]at r3;have d0:=c0.app ⟨r1,r2,r3⟩ (L':=q5.i 51+1) rfl;intro q7 g7 _;have J7:q7.i 51=q5.i 51:=by rw[g7.i 51,g6.i 51]
   have c1:=(d0.mono g7 ah ah ah).cast (L':=q7.i 51+1) (by rw[J7]);have G7:ai 5 J q7:=G6.tr g7;refine⟨c1.pre (by simp only[aac,aay];omega),fun q8 g8 ⟨r1,r2,r3,_⟩=>?_⟩;have G8:ai 5 J q8:=G7.tr g8;rw[vQ (q:=q7) (n:=8*bs.length) (k:=48) (s:=48) (wlen G7) ah rfl ah]at r3;have d1:=c1.app ⟨r1,r2,r3⟩ (L':=q5.i 51+2) (by rw[J7];omega);intro q9 g9 _;have J9:q9.i 51=q5.i 51:=by rw[g9.i 51,g8.i 51,J7]
   have c2:=(d1.mono g9 ah ah ah).cast (L':=q9.i 51+2) (by rw[J9]);have G9:ai 5 J q9:=G8.tr g9;refine⟨c2.pre (by simp only[aac,aay];omega),fun q10 g10 ⟨r1,r2,r3,_⟩=>?_⟩;have G10:ai 5 J q10:=G9.tr g10;rw[vQ (q:=q9) (n:=8*bs.length) (k:=40) (s:=40) (wlen G9) ah rfl ah]at r3;have d2:=c2.app ⟨r1,r2,r3⟩ (L':=q5.i 51+3) (by rw[J9];omega);intro q11 g11 _;have J11:q11.i 51=q5.i 51:=by rw[g11.i 51,g10.i 51,J9]
   have c3:=(d2.mono g11 ah ah ah).cast (L':=q11.i 51+3) (by rw[J11]);have G11:ai 5 J q11:=G10.tr g11;refine⟨c3.pre (by simp only[aac,aay];omega),fun q12 g12 ⟨r1,r2,r3,_⟩=>?_⟩;have G12:ai 5 J q12:=G11.tr g12;rw[vQ (q:=q11) (n:=8*bs.length) (k:=32) (s:=32) (wlen G11) ah rfl ah]at r3;have d3:=c3.app ⟨r1,r2,r3⟩ (L':=q5.i 51+4) (by rw[J11];omega);intro q13 g13 _;have J13:q13.i 51=q5.i 51:=by rw[g13.i 51,g12.i 51,J11]
   have c4:=(d3.mono g13 ah ah ah).cast (L':=q13.i 51+4) (by rw[J13]);have G13:ai 5 J q13:=G12.tr g13;refine⟨c4.pre (by simp only[aac,aay];omega),fun q14 g14 ⟨r1,r2,r3,_⟩=>?_⟩;have G14:ai 5 J q14:=G13.tr g14;rw[vQ (q:=q13) (n:=8*bs.length) (k:=24) (s:=24) (wlen G13) ah rfl ah]at r3;have d4:=c4.app ⟨r1,r2,r3⟩ (L':=q5.i 51+5) (by rw[J13];omega);intro q15 g15 _;have J15:q15.i 51=q5.i 51:=by rw[g15.i 51,g14.i 51,J13]
   have c5:=(d4.mono g15 ah ah ah).cast (L':=q15.i 51+5) (by rw[J15]);have G15:ai 5 J q15:=G14.tr g15;refine⟨c5.pre (by simp only[aac,aay];omega),fun q16 g16 ⟨r1,r2,r3,_⟩=>?_⟩;have G16:ai 5 J q16:=G15.tr g16;rw[vQ (q:=q15) (n:=8*bs.length) (k:=16) (s:=16) (wlen G15) ah rfl ah]at r3;have d5:=c5.app ⟨r1,r2,r3⟩ (L':=q5.i 51+6) (by rw[J15];omega);intro q17 g17 _;have J17:q17.i 51=q5.i 51:=by rw[g17.i 51,g16.i 51,J15]
   have c6:=(d5.mono g17 ah ah ah).cast (L':=q17.i 51+6) (by rw[J17]);have G17:ai 5 J q17:=G16.tr g17;refine⟨c6.pre (by simp only[aac,aay];omega),fun q18 g18 ⟨r1,r2,r3,_⟩=>?_⟩;have G18:ai 5 J q18:=G17.tr g18;rw[vQ (q:=q17) (n:=8*bs.length) (k:=8) (s:=8) (wlen G17) ah rfl ah]at r3;have d6:=c6.app ⟨r1,r2,r3⟩ (L':=q5.i 51+7) (by rw[J17];omega);intro q19 g19 _;have J19:q19.i 51=q5.i 51:=by rw[g19.i 51,g18.i 51,J17]
   have c7:=(d6.mono g19 ah ah ah).cast (L':=q19.i 51+7) (by rw[J19]);have G19:ai 5 J q19:=G18.tr g19;refine⟨c7.pre (by simp only[aac,aay];omega),fun q20 g20 ⟨r1,r2,r3,_⟩=>?_⟩;have G20:ai 5 J q20:=G19.tr g20;rw[vQ (q:=q19) (n:=8*bs.length) (k:=0) (s:=0) (wlen G19) ah rfl ah]at r3;have d7:=c7.app ⟨r1,r2,r3⟩ (L':=q5.i 51+8) (by rw[J19];omega);have hp:M++[((8*bs.length/2 ^ 56%256:Nat):Int)]++[((8*bs.length/2 ^ 48%256:Nat):Int)]++[((8*bs.length/2 ^ 40%256:Nat):Int)]++[((8*bs.length/2 ^ 32%256:Nat):Int)]++[((8*bs.length/2 ^ 24%256:Nat):Int)]++[((8*bs.length/2 ^ 16%256:Nat):Int)]++[((8*bs.length/2 ^ 8%256:Nat):Int)]++[((8*bs.length/2 ^ 0%256:Nat):Int)]=gy bs:=by
    unfold gy;rw[<-em,<-hM];simp only[aax];rfl
   obtain⟨d1,d2,d3,d4⟩:=d7;rw[hp]at d1 d2;have J20:q20.i 51=q5.i 51:=by rw[g20.i 51,J19]
   refine fun _=>⟨[],[1],rfl,rfl,⟨(aY fun k=>[q20.i 82,0,q20.i 51+8,q20.i 83].getD k 0),rfl,⟨d3,aap _,by show 0<=q20.i 51+8;rw[J20];omega,d4⟩,zzT⟩,_,bs,R,rfl,rfl,hR,?_⟩;show bO (cP [q20.h 82]) _ (.slice (az (q20.i 82) 0) (q20.i 51+8).toNat (q20.i 83).toNat) (gy bs);rw[aL,J20];exact d1
open Go.Proofs.YtomdimlnggpgbaaGreatDoor.D hiding aO aD fN
def Rv (h:fu R u bs):bm (some u) 2=bs.length/\((0<=bm (some u) 0/\0<=bm (some u) 1/\0<=bm (some u) 2/\∀ j,j<(bm (some u) 2).toNat->∃ v,R.cell (bm (some u) 0).toNat ((bm (some u) 1).toNat+j)=some v/\v.oneCell'=true)\/bm (some u) 2=0)/\bR R (bm (some u) 0).toNat (bm (some u) 1).toNat (bm (some u) 2).toNat=aM bs/\bp (some u) .slice=true:=by
 obtain⟨x,y,c,rfl,hy,h⟩:=h;by_cases hx:0<=x
 .have hs:=qp (R:=R) (x:=x) (y:=y) (l:=(bs.length:Int)) rfl hy h;rw[Vg ah,WX hx hy,RM ah];exact⟨rfl,hs.1,hs.2,rfl⟩
 .rcases h with rfl | ⟨h,_⟩
  .have e:bm (some (.slice (az x y) ([]:List Int).length c)) 2=(([]:List Int).length:Nat):=by
    cases az x y with
    | none=>rfl
    | some a=>obtain⟨b,o,s⟩:=a;cases s<;>rfl
   rw[e];exact⟨rfl,Or.inr rfl,rfl,rfl⟩
  .omega
def fe {α:Type} {a b:α} {l m:List α} (h:a=b) (h':l=m):a::l=b::m:=by rw[h,h']
def bn {s:Nat} (hx:okW x) (hc:(q.h 51).cell (q.i 9).toNat (Int.toNat 0+j)=some (.int .u32 x)) (hs:s<=24):(CV.int .u8 (.wrap .u8 (.shr .u64 (.wrap .u64 (.hI 51 (.var 9) (.lit 0) j)) (.lit (s:Int))))).ev q=Value.int .u8 (x/2 ^ s%256):=by
 show Value.int .u8 (IntKind.u8.wrap ((IntKind.u64.wrap (bS ((q.h 51).cell (q.i 9).toNat (Int.toNat 0+j)))).fdiv (2 ^ (min ((s:Int)).toNat IntKind.u64.bits))))=_;rw[hc];unfold okW at hx;obtain⟨n,rfl⟩:∃ n:Nat,x=n:=⟨x.toNat,ah⟩;rw[show bS (some (Value.int .u32 (n:Int)))=(n:Int)from rfl,mY ah ah,Cq (n:=n) (k:=s) ah rfl ah rfl];have e2:((2:Int) ^ s)=((2 ^ s:Nat):Int):=by push_cast;rfl
 rw[e2];rfl
def wm:Sx.Spec where
 fn:=176
 own:=[]
 rd:=[0,3000000,2000005]
 res:=[.agg (List.replicate 32 (Ck.int .u8))]
 pre:=fun xs Hs Rs=>∃ (x y:Int) (c:Nat) (R RA RG:Hl) (bs:List Int),xs=[.slice (az x y) 1 c]/\Rs=[R,RA,RG]/\js R RA (.slice (az x y) 1 c) [bs]/\0<=y/\ar bs/\bs.length<=900000/\uJ RG 5
 post:=fun xs Hs Rs v Hs' F=>∀ u R RA RG bs,xs=[u]->Rs=[R,RA,RG]->js R RA u [bs]->v=.agg (aM (gC bs)).toArray
def Xt:List Sx.Spec:=[Fv,QQ]
def TH:∀ t∈Xt,t.OK Tryz.prog:=av OE <| av QR <| bQ
def Sf:aG Tryz.prog Xt wm.fn where
 Λ:=fun p=>if ML p [176,1,1,1,0,1,0]then some ⟨0,[(5,TI .i64 (.var 50))],[(5,.hp 51 [] [.var 9] [])],60⟩else none
 args:=[.sv (.one (.sl (.var 0) (.var 1) (.lit 1) (.var 2)))]
 mem:=[.ro 4 [.var 0] false,.ro 5 [] true,.ro 6 [.lit 5] false]
 nv:=7
def YA:Fv.res=[.one .sl]:=rfl
def YB:QQ.res=[]:=rfl
def LS {v:Value} (h:fu R u bs) (hp:Fv.post [u] [] [R] v K F):bO F 5 v (gy bs):=by
 obtain⟨u',bs',R',e1,e2,h',ho⟩:=hp;simp only[aag,aat]at e1 e2;subst e1 e2;rw[h.uniq h'];exact ho
def oN:∀ (n:Nat) (bs:List Int),bs.length=n->bg (aM bs) ((List.replicate n (Ck.int .u8)).map kc)
 | 0,[],_=>trivial
 | n+1,z::l,h=>⟨rfl,oN n l (by simpa using h)⟩
def zR (h:ar bs):ar (gy bs):=fun z hz=>by
 unfold gy at hz;rcases aaR.1 hz with hz | hz
 .rcases aaR.1 hz with hz | hz
  .rcases aaR.1 hz with hz | hz
   .exact h z hz
   .rw[aal.1 hz];omega
  .rw[(ach.1 hz).2];omega
 .unfold S0 at hz;obtain⟨i,_,rfl⟩:=aaQ.1 hz;omega
def oB (all:List Int) (k:Nat):∀ j,j<8->okW (nH du all k j):=QP Iz all k
def JU {y l:Int} (h:bO F e (.slice (az x y) l.toNat c.toNat) bs) (hl:0<=l) (hc:0<=c):l=bs.length/\l<=c:=by
 obtain⟨_,hc'⟩:=h;rcases hc' with ⟨e,e0⟩ | ⟨g,cap,cur,e,_,hle,_⟩
 .simp only[Value.slice.injEq]at e;omega
 .simp only[Value.slice.injEq]at e;omega
def ES:wm.OK Tryz.prog:=by
 refine Spec.aS (Γ:=Xt) TH ?_;rintro xs Hs Rs hl1 hl2 ⟨x,y,c,R,RA,RG,bs,rfl,rfl,hR,hy,hb,hlen,hK⟩;have e0:Hs=[]:=aad.1 hl1;subst e0;refine⟨Sf,aO [x,y,c] false [Hl.none,Hl.none,Hl.none,Hl.none,R,RA,RG],
  fun _ q=>∃ k:Nat,q.i 50=((64*k:Nat):Int)/\64*k<=(gy bs).length/\q.h 51=wH (q.i 9).toNat (s8 (nH du (gy bs) k)) 285,
  fun _ q=>((gy bs).length-q.i 50).toNat,?_,cO (by intro r hr;simp [Sf]at hr;rcases hr with rfl | rfl | rfl<;>exact⟨_,_,_,rfl⟩) rfl,(fun _ h=>nomatch h),?_⟩
 .show [Value.slice (az x y) (Int.toNat 1) ((c:Int)).toNat]=_;rw[aaa];rfl
 .refine aG.read [] [] [] ?_;generalize hρ:aO [x,y,c] false [Hl.none,Hl.none,Hl.none,Hl.none,R,RA,RG]=J;have V:∀ q:Env,ai 7 J q->q.i 0=x/\q.i 1=y/\q.h 4=R/\q.h 5=RA/\q.h 6=RG:=fun q hg=>by
   rw[hg.i 0,hg.i 1,hg.h 4,hg.h 5,hg.h 6,<-hρ];exact⟨rfl,rfl,rfl,rfl,rfl⟩
  clear hρ;have t1:Int.toNat 1=1:=rfl;obtain⟨_,aC⟩:=hR.at hy;obtain⟨hx0,u,hcu,hru⟩:=aC 0 bs rfl;simp only[go_sem,Nat.reduceAdd,Xt,YA,YB,TG];intro q1 g1 _ q2 g2 _ q3 g3 p9;have G3:ai 7 J q3:=g1.trans (g2.mono.tr g3);obtain⟨v0,v1,w4,w5,w6⟩:=V q3 G3;have hcu:R.cell x.toNat y.toNat=some u:=hcu;obtain⟨u2,useg,uval,uis⟩:=Rv hru;rw[v0,v1,w4,w5,hcu];have t0:Int.toNat 0=0:=rfl;have Fq:aN Hl.none 5 1 (.slice (az (-1) 0) (Int.toNat 0) (Int.toNat 0)) (Int.toNat 0) []:=⟨rfl,Or.inl ⟨rfl,rfl⟩⟩;have ul:(bm (some u) 2).toNat=bs.length:=by rw[u2,aaa]
  refine⟨hx0,hy,uis,⟨⟨[],Fq⟩,aap _,useg,by rw[ul,t0];unfold maxLen;omega,by rw[ul,t0];omega⟩,fun q4 g4 ⟨r1,r2,r3,_⟩=>?_⟩;have o4:=r3 [] Fq;rw[uval,ul,t0,aaI,abw]at o4;have G4:ai 7 J q4:=G3.tr g4;obtain⟨v0,v1,w4,w5,w6⟩:=V q4 G4;rw[v0,v1,w4,hcu,ul];have o4:bO (q4.h 10) 5 (.slice (az (q4.i 10) 0) bs.length (q4.i 11).toNat) bs:=o4;have hr4:=o4.rd.w;refine⟨⟨_,bs,_,rfl,rfl,hr4,ah⟩,fun q5 g5 ⟨F5,p5,hF5,hn5⟩ q6 g6 h16=>?_⟩;have oP:=LS hr4 p5;rw[<-hF5 zzT]at oP;have hn5:-1<=q5.i 12/\0<=q5.i 13/\0<=q5.i 14/\0<=q5.i 15:=hn5.1;obtain⟨P,hP⟩:∃ P,P=gy bs:=⟨_,rfl⟩;have hPb:ar P:=by rw[hP];exact zR hb
  have hPl:=wF bs;rw[<-hP]at oP hPl ⊢;obtain⟨c1,c2⟩:=JU oP hn5.2.2.1 hn5.2.2.2;have oR:=oP.rd.w;refine⟨⟨0,rfl,abi _,?_⟩,fun q7 g7 ⟨k,e50,hk,h51⟩=>?_⟩
  .show q6.h 16=wH (q6.i 9).toNat (s8 du) _;rw[h16,g6.i 9];rfl
  have A7:ai 16 q5 q7:=g6.tr g7;have G7:ai 7 J q7:=G4.trans (g5.mono.tr A7);have p9':0<=q7.i 9:=by rw[A7.i 9,g5.i 9,g4.i 9];exact p9
  have e14:q7.i 14=P.length:=by rw[A7.i 14,c1]
  have e15:q7.i 15=q5.i 15:=A7.i 15;rw[e14,e50];refine⟨ah,fun hlt=>?_,fun hge=>?_⟩
  .have bT:64*k+64<=P.length:=ah;have hw:IntKind.i64.wrap (((64*k:Nat):Int)+64)=((64*k:Nat):Int)+64:=wrap_i64 ah ah;rw[hw,e15,A7.i 12,A7.i 13,A7.h 12,(V q7 G7).2.2.2.2,h51];have hsub:=J5 oR hn5.1 hn5.2.1 (o:=64*k) (n:=64) bT (y':=q5.i 13+((64*k:Nat):Int)) (Or.inr rfl) ah (q5.i 15-((64*k:Nat):Int)).toNat;have e64:(((64*k:Nat):Int)+64-((64*k:Nat):Int)).toNat=64:=ah;have hne:¬q5.i 15=((64*k:Nat):Int):=ah;have hbl:((P.drop (64*k)).take 64).length=64:=by rw[aaA,aaK];omega
   rw[aan hne,e64];have hptr:Value.pointer (az (q7.i 9) 0)=.pointer (some ⟨(q7.i 9).toNat,0,none⟩):=by rw[au p9'];rfl
   refine⟨hn5.1,hn5.2.1,ah,ah,ah,⟨(q7.i 9).toNat,nH du P k,q5.i 12,q5.i 13+((64*k:Nat):Int),(q5.i 15-((64*k:Nat):Int)).toNat,_,_,_,by rw[hptr],rfl,rfl,oB P k,hsub,hbl,ah,fun z hz=>hPb z (abU (abH hz)),ah,hn5.1,hK⟩,fun q8 g8 ⟨_,p8,_,_⟩=>?_⟩;have h60:=p8 _ _ (nH du P k) _ _ _ (by rw[hptr]) rfl rfl hsub;have h60:q8.h 60=wH (q7.i 9).toNat (s8 (pn (nH du P k) ((P.drop (64*k)).take 64))) 285:=by simpa using h60
   have ew:IntKind.i64.wrap (q8.i 50+64)=((64*(k+1):Nat):Int):=by rw[g8.i 50,e50,hw];omega
   refine⟨⟨k+1,ew,ah,?_⟩,?_⟩
   .show q8.h 60=wH (q8.i 9).toNat (s8 (pn _ _)) _;rw[h60,g8.i 9]
   .show((P.length:Int)-IntKind.i64.wrap (q8.i 50+64)).toNat<_;rw[ew];omega
  .intro q8 g8 _;have ek:k=P.length/64:=ah;have hc:∀ j,j<8->(q8.h 51).cell (q8.i 9).toNat (Int.toNat 0+j)=some (.int .u32 (DD bs j)):=fun j hj=>by
    rw[g8.h 51,g8.i 9,h51,ek,hP];refine Cg ?_;rw[show Int.toNat 0+j=j from aaI j];unfold s8;rw[aao,aaE hj];rfl
   have hok:∀ j,j<8->okW (DD bs j):=fun j hj=>oB _ _ j hj;have hres:([.int .u8 (.wrap .u8 (.shr .u64 (.wrap .u64 (.hI 51 (.var 9) (.lit 0) 0)) (.lit 24))),.int .u8 (.wrap .u8 (.shr .u64 (.wrap .u64 (.hI 51 (.var 9) (.lit 0) 0)) (.lit 16))),.int .u8 (.wrap .u8 (.shr .u64 (.wrap .u64 (.hI 51 (.var 9) (.lit 0) 0)) (.lit 8))),.int .u8 (.wrap .u8 (.shr .u64 (.wrap .u64 (.hI 51 (.var 9) (.lit 0) 0)) (.lit 0))),.int .u8 (.wrap .u8 (.shr .u64 (.wrap .u64 (.hI 51 (.var 9) (.lit 0) 1)) (.lit 24))),.int .u8 (.wrap .u8 (.shr .u64 (.wrap .u64 (.hI 51 (.var 9) (.lit 0) 1)) (.lit 16))),.int .u8 (.wrap .u8 (.shr .u64 (.wrap .u64 (.hI 51 (.var 9) (.lit 0) 1)) (.lit 8))),.int .u8 (.wrap .u8 (.shr .u64 (.wrap .u64 (.hI 51 (.var 9) (.lit 0) 1)) (.lit 0))),.int .u8 (.wrap .u8 (.shr .u64 (.wrap .u64 (.hI 51 (.var 9) (.lit 0) 2)) (.lit 24))),.int .u8 (.wrap .u8 (.shr .u64 (.wrap .u64 (.hI 51 (.var 9) (.lit 0) 2)) (.lit 16))),.int .u8 (.wrap .u8 (.shr .u64 (.wrap .u64 (.hI 51 (.var 9) (.lit 0) 2)) (.lit 8))),.int .u8 (.wrap .u8 (.shr .u64 (.wrap .u64 (.hI 51 (.var 9) (.lit 0) 2)) (.lit 0))),.int .u8 (.wrap .u8 (.shr .u64 (.wrap .u64 (.hI 51 (.var 9) (.lit 0) 3)) (.lit 24))),.int .u8 (.wrap .u8 (.shr .u64 (.wrap .u64 (.hI 51 (.var 9) (.lit 0) 3)) (.lit 16))),.int .u8 (.wrap .u8 (.shr .u64 (.wrap .u64 (.hI 51 (.var 9) (.lit 0) 3)) (.lit 8))),.int .u8 (.wrap .u8 (.shr .u64 (.wrap .u64 (.hI 51 (.var 9) (.lit 0) 3)) (.lit 0))),.int .u8 (.wrap .u8 (.shr .u64 (.wrap .u64 (.hI 51 (.var 9) (.lit 0) 4)) (.lit 24))),.int .u8 (.wrap .u8 (.shr .u64 (.wrap .u64 (.hI 51 (.var 9) (.lit 0) 4)) (.lit 16))),.int .u8 (.wrap .u8 (.shr .u64 (.wrap .u64 (.hI 51 (.var 9) (.lit 0) 4)) (.lit 8))),.int .u8 (.wrap .u8 (.shr .u64 (.wrap .u64 (.hI 51 (.var 9) (.lit 0) 4)) (.lit 0))),.int .u8 (.wrap .u8 (.shr .u64 (.wrap .u64 (.hI 51 (.var 9) (.lit 0) 5)) (.lit 24))),.int .u8 (.wrap .u8 (.shr .u64 (.wrap .u64 (.hI 51 (.var 9) (.lit 0) 5)) (.lit 16))),.int .u8 (.wrap .u8 (.shr .u64 (.wrap .u64 (.hI 51 (.var 9) (.lit 0) 5)) (.lit 8))),.int .u8 (.wrap .u8 (.shr .u64 (.wrap .u64 (.hI 51 (.var 9) (.lit 0) 5)) (.lit 0))),.int .u8 (.wrap .u8 (.shr .u64 (.wrap .u64 (.hI 51 (.var 9) (.lit 0) 6)) (.lit 24))),.int .u8 (.wrap .u8 (.shr .u64 (.wrap .u64 (.hI 51 (.var 9) (.lit 0) 6)) (.lit 16))),.int .u8 (.wrap .u8 (.shr .u64 (.wrap .u64 (.hI 51 (.var 9) (.lit 0) 6)) (.lit 8))),.int .u8 (.wrap .u8 (.shr .u64 (.wrap .u64 (.hI 51 (.var 9) (.lit 0) 6)) (.lit 0))),.int .u8 (.wrap .u8 (.shr .u64 (.wrap .u64 (.hI 51 (.var 9) (.lit 0) 7)) (.lit 24))),.int .u8 (.wrap .u8 (.shr .u64 (.wrap .u64 (.hI 51 (.var 9) (.lit 0) 7)) (.lit 16))),.int .u8 (.wrap .u8 (.shr .u64 (.wrap .u64 (.hI 51 (.var 9) (.lit 0) 7)) (.lit 8))),.int .u8 (.wrap .u8 (.shr .u64 (.wrap .u64 (.hI 51 (.var 9) (.lit 0) 7)) (.lit 0)))].map (CV.ev q8))=aM (gC bs):=fe (bn (s:=24) (hok 0 ah) (hc 0 ah) ah) (fe (bn (s:=16) (hok 0 ah) (hc 0 ah) ah) (fe (bn (s:=8) (hok 0 ah) (hc 0 ah) ah) (fe (bn (s:=0) (hok 0 ah) (hc 0 ah) ah) (fe (bn (s:=24) (hok 1 ah) (hc 1 ah) ah) (fe (bn (s:=16) (hok 1 ah) (hc 1 ah) ah) (fe (bn (s:=8) (hok 1 ah) (hc 1 ah) ah) (fe (bn (s:=0) (hok 1 ah) (hc 1 ah) ah) (fe (bn (s:=24) (hok 2 ah) (hc 2 ah) ah) (fe (bn (s:=16) (hok 2 ah) (hc 2 ah) ah) (fe (bn (s:=8) (hok 2 ah) (hc 2 ah) ah) (fe (bn (s:=0) (hok 2 ah) (hc 2 ah) ah) (fe (bn (s:=24) (hok 3 ah) (hc 3 ah) ah) (fe (bn (s:=16) (hok 3 ah) (hc 3 ah) ah) (fe (bn (s:=8) (hok 3 ah) (hc 3 ah) ah) (fe (bn (s:=0) (hok 3 ah) (hc 3 ah) ah) (fe (bn (s:=24) (hok 4 ah) (hc 4 ah) ah) (fe (bn (s:=16) (hok 4 ah) (hc 4 ah) ah) (fe (bn (s:=8) (hok 4 ah) (hc 4 ah) ah) (fe (bn (s:=0) (hok 4 ah) (hc 4 ah) ah) (fe (bn (s:=24) (hok 5 ah) (hc 5 ah) ah) (fe (bn (s:=16) (hok 5 ah) (hc 5 ah) ah) (fe (bn (s:=8) (hok 5 ah) (hc 5 ah) ah) (fe (bn (s:=0) (hok 5 ah) (hc 5 ah) ah) (fe (bn (s:=24) (hok 6 ah) (hc 6 ah) ah) (fe (bn (s:=16) (hok 6 ah) (hc 6 ah) ah) (fe (bn (s:=8) (hok 6 ah) (hc 6 ah) ah) (fe (bn (s:=0) (hok 6 ah) (hc 6 ah) ah) (fe (bn (s:=24) (hok 7 ah) (hc 7 ah) ah) (fe (bn (s:=16) (hok 7 ah) (hc 7 ah) ah) (fe (bn (s:=8) (hok 7 ah) (hc 7 ah) ah) (fe (bn (s:=0) (hok 7 ah) (hc 7 ah) ah) (rfl))))))))))))))))))))))))))))))));obtain⟨ρ2,_,_,e2⟩:=cH (List.replicate 32 (Ck.int .u8)) 0 (aM (gC bs)) q8 (oN 32 _ (fZ bs));refine⟨by rw[g8.i 9];exact p9',by rw[show(q8.h 51).cell (q8.i 9).toNat (Int.toNat 0)=_ from hc 0 ah];rfl,by rw[show(q8.h 51).cell (q8.i 9).toNat (Int.toNat 0+1)=_ from hc 1 ah];rfl,by rw[show(q8.h 51).cell (q8.i 9).toNat (Int.toNat 0+2)=_ from hc 2 ah];rfl,by rw[show(q8.h 51).cell (q8.i 9).toNat (Int.toNat 0+3)=_ from hc 3 ah];rfl,by rw[show(q8.h 51).cell (q8.i 9).toNat (Int.toNat 0+4)=_ from hc 4 ah];rfl,by rw[show(q8.h 51).cell (q8.i 9).toNat (Int.toNat 0+5)=_ from hc 5 ah];rfl,by rw[show(q8.h 51).cell (q8.i 9).toNat (Int.toNat 0+6)=_ from hc 6 ah];rfl,by rw[show(q8.h 51).cell (q8.i 9).toNat (Int.toNat 0+7)=_ from hc 7 ah];rfl,fun _=>⟨[],[],rfl,rfl,⟨ρ2,?_,cm _ _ _ aA,zzT⟩,fun u' R' RA' RG' bs' h1 h2 h'=>?_⟩⟩
   .show Value.agg ([.int .u8 (.wrap .u8 (.shr .u64 (.wrap .u64 (.hI 51 (.var 9) (.lit 0) 0)) (.lit 24))),.int .u8 (.wrap .u8 (.shr .u64 (.wrap .u64 (.hI 51 (.var 9) (.lit 0) 0)) (.lit 16))),.int .u8 (.wrap .u8 (.shr .u64 (.wrap .u64 (.hI 51 (.var 9) (.lit 0) 0)) (.lit 8))),.int .u8 (.wrap .u8 (.shr .u64 (.wrap .u64 (.hI 51 (.var 9) (.lit 0) 0)) (.lit 0))),.int .u8 (.wrap .u8 (.shr .u64 (.wrap .u64 (.hI 51 (.var 9) (.lit 0) 1)) (.lit 24))),.int .u8 (.wrap .u8 (.shr .u64 (.wrap .u64 (.hI 51 (.var 9) (.lit 0) 1)) (.lit 16))),.int .u8 (.wrap .u8 (.shr .u64 (.wrap .u64 (.hI 51 (.var 9) (.lit 0) 1)) (.lit 8))),.int .u8 (.wrap .u8 (.shr .u64 (.wrap .u64 (.hI 51 (.var 9) (.lit 0) 1)) (.lit 0))),.int .u8 (.wrap .u8 (.shr .u64 (.wrap .u64 (.hI 51 (.var 9) (.lit 0) 2)) (.lit 24))),.int .u8 (.wrap .u8 (.shr .u64 (.wrap .u64 (.hI 51 (.var 9) (.lit 0) 2)) (.lit 16))),.int .u8 (.wrap .u8 (.shr .u64 (.wrap .u64 (.hI 51 (.var 9) (.lit 0) 2)) (.lit 8))),.int .u8 (.wrap .u8 (.shr .u64 (.wrap .u64 (.hI 51 (.var 9) (.lit 0) 2)) (.lit 0))),.int .u8 (.wrap .u8 (.shr .u64 (.wrap .u64 (.hI 51 (.var 9) (.lit 0) 3)) (.lit 24))),.int .u8 (.wrap .u8 (.shr .u64 (.wrap .u64 (.hI 51 (.var 9) (.lit 0) 3)) (.lit 16))),.int .u8 (.wrap .u8 (.shr .u64 (.wrap .u64 (.hI 51 (.var 9) (.lit 0) 3)) (.lit 8))),.int .u8 (.wrap .u8 (.shr .u64 (.wrap .u64 (.hI 51 (.var 9) (.lit 0) 3)) (.lit 0))),.int .u8 (.wrap .u8 (.shr .u64 (.wrap .u64 (.hI 51 (.var 9) (.lit 0) 4)) (.lit 24))),.int .u8 (.wrap .u8 (.shr .u64 (.wrap .u64 (.hI 51 (.var 9) (.lit 0) 4)) (.lit 16))),.int .u8 (.wrap .u8 (.shr .u64 (.wrap .u64 (.hI 51 (.var 9) (.lit 0) 4)) (.lit 8))),.int .u8 (.wrap .u8 (.shr .u64 (.wrap .u64 (.hI 51 (.var 9) (.lit 0) 4)) (.lit 0))),.int .u8 (.wrap .u8 (.shr .u64 (.wrap .u64 (.hI 51 (.var 9) (.lit 0) 5)) (.lit 24))),.int .u8 (.wrap .u8 (.shr .u64 (.wrap .u64 (.hI 51 (.var 9) (.lit 0) 5)) (.lit 16))),.int .u8 (.wrap .u8 (.shr .u64 (.wrap .u64 (.hI 51 (.var 9) (.lit 0) 5)) (.lit 8))),.int .u8 (.wrap .u8 (.shr .u64 (.wrap .u64 (.hI 51 (.var 9) (.lit 0) 5)) (.lit 0))),.int .u8 (.wrap .u8 (.shr .u64 (.wrap .u64 (.hI 51 (.var 9) (.lit 0) 6)) (.lit 24))),.int .u8 (.wrap .u8 (.shr .u64 (.wrap .u64 (.hI 51 (.var 9) (.lit 0) 6)) (.lit 16))),.int .u8 (.wrap .u8 (.shr .u64 (.wrap .u64 (.hI 51 (.var 9) (.lit 0) 6)) (.lit 8))),.int .u8 (.wrap .u8 (.shr .u64 (.wrap .u64 (.hI 51 (.var 9) (.lit 0) 6)) (.lit 0))),.int .u8 (.wrap .u8 (.shr .u64 (.wrap .u64 (.hI 51 (.var 9) (.lit 0) 7)) (.lit 24))),.int .u8 (.wrap .u8 (.shr .u64 (.wrap .u64 (.hI 51 (.var 9) (.lit 0) 7)) (.lit 16))),.int .u8 (.wrap .u8 (.shr .u64 (.wrap .u64 (.hI 51 (.var 9) (.lit 0) 7)) (.lit 8))),.int .u8 (.wrap .u8 (.shr .u64 (.wrap .u64 (.hI 51 (.var 9) (.lit 0) 7)) (.lit 0)))].map (CV.ev q8)).toArray=Value.agg ((al 0 (List.replicate 32 (Ck.int .u8))).map (CV.ev ρ2)).toArray;rw[hres,e2]
   .simp only[aag,aat]at h1 h2;subst h1;obtain⟨rfl,rfl,rfl⟩:=h2;have e:=h'.uniq hR;simp only[aag,aat]at e;subst e;show Value.agg ([.int .u8 (.wrap .u8 (.shr .u64 (.wrap .u64 (.hI 51 (.var 9) (.lit 0) 0)) (.lit 24))),.int .u8 (.wrap .u8 (.shr .u64 (.wrap .u64 (.hI 51 (.var 9) (.lit 0) 0)) (.lit 16))),.int .u8 (.wrap .u8 (.shr .u64 (.wrap .u64 (.hI 51 (.var 9) (.lit 0) 0)) (.lit 8))),.int .u8 (.wrap .u8 (.shr .u64 (.wrap .u64 (.hI 51 (.var 9) (.lit 0) 0)) (.lit 0))),.int .u8 (.wrap .u8 (.shr .u64 (.wrap .u64 (.hI 51 (.var 9) (.lit 0) 1)) (.lit 24))),.int .u8 (.wrap .u8 (.shr .u64 (.wrap .u64 (.hI 51 (.var 9) (.lit 0) 1)) (.lit 16))),.int .u8 (.wrap .u8 (.shr .u64 (.wrap .u64 (.hI 51 (.var 9) (.lit 0) 1)) (.lit 8))),.int .u8 (.wrap .u8 (.shr .u64 (.wrap .u64 (.hI 51 (.var 9) (.lit 0) 1)) (.lit 0))),.int .u8 (.wrap .u8 (.shr .u64 (.wrap .u64 (.hI 51 (.var 9) (.lit 0) 2)) (.lit 24))),.int .u8 (.wrap .u8 (.shr .u64 (.wrap .u64 (.hI 51 (.var 9) (.lit 0) 2)) (.lit 16))),.int .u8 (.wrap .u8 (.shr .u64 (.wrap .u64 (.hI 51 (.var 9) (.lit 0) 2)) (.lit 8))),.int .u8 (.wrap .u8 (.shr .u64 (.wrap .u64 (.hI 51 (.var 9) (.lit 0) 2)) (.lit 0))),.int .u8 (.wrap .u8 (.shr .u64 (.wrap .u64 (.hI 51 (.var 9) (.lit 0) 3)) (.lit 24))),.int .u8 (.wrap .u8 (.shr .u64 (.wrap .u64 (.hI 51 (.var 9) (.lit 0) 3)) (.lit 16))),.int .u8 (.wrap .u8 (.shr .u64 (.wrap .u64 (.hI 51 (.var 9) (.lit 0) 3)) (.lit 8))),.int .u8 (.wrap .u8 (.shr .u64 (.wrap .u64 (.hI 51 (.var 9) (.lit 0) 3)) (.lit 0))),.int .u8 (.wrap .u8 (.shr .u64 (.wrap .u64 (.hI 51 (.var 9) (.lit 0) 4)) (.lit 24))),.int .u8 (.wrap .u8 (.shr .u64 (.wrap .u64 (.hI 51 (.var 9) (.lit 0) 4)) (.lit 16))),.int .u8 (.wrap .u8 (.shr .u64 (.wrap .u64 (.hI 51 (.var 9) (.lit 0) 4)) (.lit 8))),.int .u8 (.wrap .u8 (.shr .u64 (.wrap .u64 (.hI 51 (.var 9) (.lit 0) 4)) (.lit 0))),.int .u8 (.wrap .u8 (.shr .u64 (.wrap .u64 (.hI 51 (.var 9) (.lit 0) 5)) (.lit 24))),.int .u8 (.wrap .u8 (.shr .u64 (.wrap .u64 (.hI 51 (.var 9) (.lit 0) 5)) (.lit 16))),.int .u8 (.wrap .u8 (.shr .u64 (.wrap .u64 (.hI 51 (.var 9) (.lit 0) 5)) (.lit 8))),.int .u8 (.wrap .u8 (.shr .u64 (.wrap .u64 (.hI 51 (.var 9) (.lit 0) 5)) (.lit 0))),.int .u8 (.wrap .u8 (.shr .u64 (.wrap .u64 (.hI 51 (.var 9) (.lit 0) 6)) (.lit 24))),.int .u8 (.wrap .u8 (.shr .u64 (.wrap .u64 (.hI 51 (.var 9) (.lit 0) 6)) (.lit 16))),.int .u8 (.wrap .u8 (.shr .u64 (.wrap .u64 (.hI 51 (.var 9) (.lit 0) 6)) (.lit 8))),.int .u8 (.wrap .u8 (.shr .u64 (.wrap .u64 (.hI 51 (.var 9) (.lit 0) 6)) (.lit 0))),.int .u8 (.wrap .u8 (.shr .u64 (.wrap .u64 (.hI 51 (.var 9) (.lit 0) 7)) (.lit 24))),.int .u8 (.wrap .u8 (.shr .u64 (.wrap .u64 (.hI 51 (.var 9) (.lit 0) 7)) (.lit 16))),.int .u8 (.wrap .u8 (.shr .u64 (.wrap .u64 (.hI 51 (.var 9) (.lit 0) 7)) (.lit 8))),.int .u8 (.wrap .u8 (.shr .u64 (.wrap .u64 (.hI 51 (.var 9) (.lit 0) 7)) (.lit 0)))].map (CV.ev q8)).toArray=_;rw[hres]
def pG (hw:IntKind.u64.wrap (IntKind.u64.wrap (q.i 2)*8)=(n:Int)) (hn:n<18446744073709551616) (hs:s=(k:Int)) (hk:k<=63):IntKind.u8.wrap (aB q (E.shr .u64 (E.wrap .u64 ((E.wrap .u64 (E.var 2)).mul (E.lit 8))) (E.lit s)))=((n/2 ^ k%256:Nat):Int):=Cq hn hs hk hw
def jT:Sx.Spec where
 fn:=64
 own:=[]
 rd:=[0,2000003]
 res:=[.agg (List.replicate 32 (Ck.int .u8))]
 pre:=fun xs Hs Rs=>∃ u bs R RG,xs=[u]/\Rs=[R,RG]/\fu R u bs/\ar bs/\bs.length<=900000/\uJ RG 3
 post:=fun xs Hs Rs v Hs' F=>∀ u bs R RG,xs=[u]->Rs=[R,RG]->fu R u bs->v=.agg (aM (gC bs)).toArray
def Ki:Nd:=(fun d m l n o=>(fun a b c=>(fun f g h i j k=>(.and (.imp (.lt d (.lit 64)) (.and (.e (.le (.lit 0) d)) (.and (.e (.his 5 (.lit 3) d 0 (.int .u32))) (.and (.e (.le (.lit 0) (.var 120))) (.and (.e (.his 131 (.var 120) d 0 (.int .u32))) (.and (.pre j) (.ext j (.and (.pre f) (.ext f (.and (.pre g) (.ext g (.and (.pre k) (.ext k (.and (.pre h) (.ext h (.and (.pre i) (.ext i (.back 1 3 [⟨151,0,.int .i64 (.wrap .u32 (.add a (.wrap .u32 (.add (.bits .xor .u32 (.bits .xor .u32 (.var 173) (.var 174)) (.var 175)) (.bits .xor .u32 (.bits .xor .u32 (.bits .and .u32 l n) (.bits .and .u32 l o)) (.bits .and .u32 n o))))))⟩,⟨152,0,.int .i64 l⟩,⟨153,0,.int .i64 n⟩,⟨154,0,.int .i64 o⟩,⟨155,0,.int .i64 (.wrap .u32 (.add (.var 154) a))⟩,⟨156,0,.int .i64 m⟩,⟨157,0,.int .i64 (.var 156)⟩,⟨158,0,.int .i64 (.var 157)⟩,⟨150,0,.int .i64 (.wrap .i64 (.add d (.lit 1)))⟩] [])))))))))))))))))) (.imp (.not (.lt d (.lit 64))) (.back 0 1 (([⟨100,0,.int .i64 (.wrap .i64 (.add (.var 100) (.lit 64)))⟩]:List As)++(Sm 85 (al 110 (List.replicate 8 (Ck.int .u32))) [.int .u32 (.wrap .u32 (.add (.var 110) l)),.int .u32 (.wrap .u32 (.add (.var 111) n)),.int .u32 (.wrap .u32 (.add (.var 112) o)),.int .u32 (.wrap .u32 (.add (.var 113) (.var 154))),.int .u32 (.wrap .u32 (.add (.var 114) m)),.int .u32 (.wrap .u32 (.add (.var 115) (.var 156))),.int .u32 (.wrap .u32 (.add (.var 116) (.var 157))),.int .u32 (.wrap .u32 (.add (.var 117) (.var 158)))])) [])):Nd)) (.call 0 171 [.sv b,.sv (.one (.int .i64 (.lit 11)))] [] []) (.call 0 172 [.sv b,.sv (.one (.int .i64 (.lit 25)))] [] []) (.call 0 174 [.sv c,.sv (.one (.int .i64 (.lit 13)))] [] []) (.call 0 175 [.sv c,.sv (.one (.int .i64 (.lit 22)))] [] []) (.call 0 170 [.sv b,.sv (.one (.int .i64 (.lit 6)))] [] []) (.call 0 173 [.sv c,.sv (.one (.int .i64 (.lit 2)))] [] [])) (.wrap .u32 (.add (.wrap .u32 (.add (.wrap .u32 (.add (.wrap .u32 (.add (.var 158) (.bits .xor .u32 (.bits .xor .u32 (.var 170) (.var 171)) (.var 172)))) (.bits .xor .u32 (.bits .and .u32 m (.var 156)) (.bits .and .u32 (.wrap .u32 (.sub (.lit 4294967295) m)) (.var 157))))) (.hI 5 (.lit 3) d 0))) (.hI 131 (.var 120) d 0))) (.one (.int .u32 m)) (.one (.int .u32 l))) (.var 150) (.var 155) (.var 151) (.var 152) (.var 153)
def Du:Nd:=(fun d i r p q x y=>(fun a h k o j w=>(fun b n m l f g=>(fun c s t u v=>(.and (.imp (.lt d x) (.and (.imp (.lt d (.lit 16)) (.and (.e (.le p r)) (.and (.e (.le p a)) (.and (.e (.lt a q)) (.and (.e (.his 82 r a 0 (.int .u8))) (.and (.e (.le p l)) (.and (.e (.lt l q)) (.and (.e (.his 82 r l 0 (.int .u8))) (.and (.e (.le p m)) (.and (.e (.lt m q)) (.and (.e (.his 82 r m 0 (.int .u8))) (.and (.e (.le p n)) (.and (.e (.lt n q)) (.and (.e (.his 82 r n 0 (.int .u8))) (.and (.e (.le p i)) (.and (.e (.le p d)) (.and (.pre c) (.ext c (.back 1 2 w [(131,some 140)]))))))))))))))))))) (.imp (.not (.lt d (.lit 16))) (.and (.e (.le p i)) (.and (.e (.le p h)) (.and (.e (.lt h x)) (.and (.e (.his 131 i h 0 y)) (.and (.pre v) (.ext v (.and (.pre s) (.ext s (.and (.e (.le p j)) (.and (.e (.lt j x)) (.and (.e (.his 131 i j 0 y)) (.and (.pre t) (.ext t (.and (.pre u) (.ext u (.and (.e (.le p k)) (.and (.e (.lt k x)) (.and (.e (.his 131 i k 0 y)) (.and (.e (.le p o)) (.and (.e (.lt o x)) (.and (.e (.his 131 i o 0 y)) (.and (.pre b) (.ext b (.back 1 2 w [(131,some 144)]))))))))))))))))))))))))))) (.imp (.not (.lt d x)) (.and (.inv 3 [⟨151,0,.int .i64 (.var 110)⟩,⟨152,0,.int .i64 (.var 111)⟩,⟨153,0,.int .i64 (.var 112)⟩,⟨154,0,.int .i64 (.var 113)⟩,⟨155,0,.int .i64 (.var 114)⟩,⟨156,0,.int .i64 (.var 115)⟩,⟨157,0,.int .i64 (.var 116)⟩,⟨158,0,.int .i64 (.var 117)⟩,⟨150,0,.int .i64 p⟩] []) (.havoc 1 3 140 Ki))):Nd)) (.put 140 131 i d [.int .u32 (.wrap .u32 (.add (.wrap .u32 (.add (.wrap .u32 (.add (.wrap .u32 (.mul (.wrap .u32 (.hI 82 r a 0)) (.lit 16777216))) (.wrap .u32 (.mul (.wrap .u32 (.hI 82 r l 0)) (.lit 65536))))) (.wrap .u32 (.mul (.wrap .u32 (.hI 82 r m 0)) (.lit 256))))) (.wrap .u32 (.hI 82 r n 0))))]) (.call 0 141 [.sv f,.sv (.one (.int .i64 (.lit 18)))] [] []) (.call 0 142 [.sv g,.sv (.one (.int .i64 (.lit 17)))] [] []) (.call 0 143 [.sv g,.sv (.one (.int .i64 (.lit 19)))] [] []) (.call 0 140 [.sv f,.sv (.one (.int .i64 (.lit 7)))] [] [])) (.put 144 131 i d [.int .u32 (.wrap .u32 (.add (.wrap .u32 (.add (.wrap .u32 (.add (.hI 131 i k 0) (.bits .xor .u32 (.bits .xor .u32 (.var 140) (.var 141)) (.wrap .u32 (.quo (.hI 131 i h 0) (.lit 8)))))) (.hI 131 i o 0))) (.bits .xor .u32 (.bits .xor .u32 (.var 142) (.var 143)) (.wrap .u32 (.quo (.hI 131 i j 0) (.lit 1024))))))]) (.wrap .i64 (.add a (.lit 3))) (.wrap .i64 (.add a (.lit 2))) (.wrap .i64 (.add a (.lit 1))) (.one (.int .u32 (.hI 131 i h 0))) (.one (.int .u32 (.hI 131 i j 0)))) (.wrap .i64 (.add (.var 100) (.wrap .i64 (.mul (.lit 4) d)))) (.wrap .i64 (.sub d (.lit 15))) (.wrap .i64 (.sub d (.lit 16))) (.wrap .i64 (.sub d (.lit 7))) (.wrap .i64 (.sub d (.lit 2))) [⟨130,0,.int .i64 (.wrap .i64 (.add d (.lit 1)))⟩]) (.var 130) (.var 120) (.var 82) (.lit 0) (.add (.var 51) (.lit 8)) (.lit 64) (.int .u32)
def Kh:Nd:=(fun d g f=>(fun b c=>(fun a=>(.and (.imp (.lt d (.lit 32)) (.and (.e (.le f (.var 84))) (.and (.e (.le f b)) (.and (.e (.lt b (.lit 8))) (.and (.e (.his 202 (.var 84) b 0 (.int .u32))) (.and (.e (.le f c)) (.and (.e (.le f g)) (.and (.e (.le f d)) (.and (.pre a) (.ext a (.back 0 4 [⟨200,0,.int .i64 (.wrap .i64 (.add d (.lit 1)))⟩] [(202,some 202),(201,some 210)]))))))))))) (.imp (.not (.lt d (.lit 32))) (.and (.e (.le f g)) (.and (.e (.hby 201 g f (.lit 32))) (.post [.ro 4 [.var 0] true,.ro 5 [.lit 3] false,.dead,.hp 82 [79,76,73,70,67,64,61,53] [.var 82,.var 79,.var 76,.var 73,.var 70,.var 67,.var 64,.var 61,.var 50] [],.dead,.dead,.dead,.dead,.dead,.dead,.dead,.dead,.dead,.hp 202 [] [.var 84] [],.hp 201 [] [.var 120] []] (.sv (.agg (aU 201 g f 0 (List.replicate 32 (Kd.int .u8))))))))):Nd)) (.put 210 201 g d [.int .u8 (.wrap .u8 (.shr .u32 (.hI 202 (.var 84) b 0) c))])) (.wrap .i64 (.quo d (.lit 4))) (.wrap .u32 (.wrap .i64 (.sub (.lit 24) (.wrap .i64 (.mul (.lit 8) (.rem d (.lit 4)))))))) (.var 200) (.var 120) (.lit 0)
def Kg:Nd:=(fun a=>(.and (.imp a (.ext (.alloc 120) (.ext (.MM 121 (.bd 120 (List.replicate 64 (CV.int .u32 (.lit 0))) 172)) (.and (.inv 2 [⟨130,0,.int .i64 (.lit 0)⟩] [(131,some 121)]) (.havoc 1 2 122 Du))))) (.imp (.not a) (.ext (.alloc 120) (.ext (.MM 121 (.bd 120 (List.replicate 32 (CV.int .u8 (.lit 0))) 58)) (.ext (.MM 122 (.bd 84 (al 110 (List.replicate 8 (Ck.int .u32))) 171)) (.and (.inv 4 [⟨200,0,.int .i64 (.lit 0)⟩] [(202,some 122),(201,some 121)]) (.havoc 0 4 123 Kh)))))):Nd)) (.lt (.var 100) (.add (.var 51) (.lit 8)))
def Pq:Nd:=(fun p b h=>(fun a r s m o q=>(fun c d f g i j k l n=>(.ext (.alloc 6) (.and (.pre o) (.ext o (.ext (.alloc 9) (.and (.pre m) (.ext m (.and (.inv 0 [⟨50,0,.int .i64 (.var 10)⟩,⟨51,0,.int .i64 (.add p (.lit 1))⟩,⟨52,0,.int .i64 (.var 11)⟩] [(53,some 10)]) (.havoc 0 0 12 (.and (.e (.le h b)) (.and (.imp (.not q) (.ext (.alloc 60) (.and (.pre n) (.ext n (.back 0 0 [⟨50,0,.int .i64 (.var 61)⟩,⟨51,0,.int .i64 r⟩,⟨52,0,.int .i64 (.var 62)⟩] [(53,some 61)]))))) (.imp q (.and (.e (.le h p)) (.ext (.alloc 60) (.and (.pre l) (.ext l (.ext (.alloc 63) (.and (.pre k) (.ext k (.ext (.alloc 66) (.and (.pre j) (.ext j (.ext (.alloc 69) (.and (.pre i) (.ext i (.ext (.alloc 72) (.and (.pre g) (.ext g (.ext (.alloc 75) (.and (.pre f) (.ext f (.ext (.alloc 78) (.and (.pre d) (.ext d (.ext (.alloc 81) (.and (.pre c) (.ext c (.ext (.alloc 84) (.and (.inv 1 (([⟨100,0,.int .i64 h⟩]:List As)++(Sm 85 (al 110 (List.replicate 8 (Ck.int .u32))) [.int .u32 (.lit 1779033703),.int .u32 (.lit 3144134277),.int .u32 (.lit 1013904242),.int .u32 (.lit 2773480762),.int .u32 (.lit 1359893119),.int .u32 (.lit 2600822924),.int .u32 (.lit 528734635),.int .u32 (.lit 1541459225)])) []) (.havoc 0 1 85 Kg)))))))))))))))))))))))))))))))))))))):Nd)) (.app 82 5 1 1 (.sl (.var 79) h (.add b (.lit 7)) (.var 80)) (.add b (.lit 7)) (.hp 79 [76,73,70,67,64,61,53] [.var 79,.var 76,.var 73,.var 70,.var 67,.var 64,.var 61,.var 50] []) (.cvs [.int .u8 (.wrap .u8 (.shr .u64 a h))] 1)) (.app 79 5 1 1 (.sl (.var 76) h (.add b (.lit 6)) (.var 77)) (.add b (.lit 6)) (.hp 76 [73,70,67,64,61,53] [.var 76,.var 73,.var 70,.var 67,.var 64,.var 61,.var 50] []) (.cvs [.int .u8 (.wrap .u8 (.shr .u64 a (.lit 8)))] 1)) (.app 76 5 1 1 (.sl (.var 73) h (.add b (.lit 5)) (.var 74)) (.add b (.lit 5)) (.hp 73 [70,67,64,61,53] [.var 73,.var 70,.var 67,.var 64,.var 61,.var 50] []) (.cvs [.int .u8 (.wrap .u8 (.shr .u64 a (.lit 16)))] 1)) (.app 73 5 1 1 (.sl (.var 70) h (.add b (.lit 4)) (.var 71)) (.add b (.lit 4)) (.hp 70 [67,64,61,53] [.var 70,.var 67,.var 64,.var 61,.var 50] []) (.cvs [.int .u8 (.wrap .u8 (.shr .u64 a (.lit 24)))] 1)) (.app 70 5 1 1 (.sl (.var 67) h (.add b (.lit 3)) (.var 68)) (.add b (.lit 3)) (.hp 67 [64,61,53] [.var 67,.var 64,.var 61,.var 50] []) (.cvs [.int .u8 (.wrap .u8 (.shr .u64 a (.lit 32)))] 1)) (.app 67 5 1 1 (.sl (.var 64) h (.add b (.lit 2)) (.var 65)) (.add b (.lit 2)) (.hp 64 [61,53] [.var 64,.var 61,.var 50] []) (.cvs [.int .u8 (.wrap .u8 (.shr .u64 a (.lit 40)))] 1)) (.app 64 5 1 1 (.sl (.var 61) h r (.var 62)) r (.hp 61 [53] [.var 61,.var 50] []) (.cvs [.int .u8 (.wrap .u8 (.shr .u64 a (.lit 48)))] 1)) (.app 61 5 1 1 s b (.hp 53 [] [.var 50] []) (.cvs [.int .u8 (.wrap .u8 (.shr .u64 a (.lit 56)))] 1)) (.app 61 5 1 1 s b (.hp 53 [] [.var 50] []) (.cvs [.int .u8 h] 1))) (.wrap .u64 (.mul (.wrap .u64 p) (.lit 8))) (.add b (.lit 1)) (.sl (.var 50) h b (.var 52)) (.app 10 5 1 1 (.sl (.var 7) h p (.var 8)) p (.hp 7 [] [.var 7] []) (.cvs [.int .u8 (.lit 128)] 1)) (.app 7 5 1 1 (.sl (.lit (-1)) h h h) h .dead (.seg 4 (.var 0) (.var 1) p)) (.eq (.rem b (.lit 64)) (.lit 56))) (.var 2) (.var 51) (.lit 0)
def Kj:List Sx.Spec:=[qz]
def UN:∀ t∈Kj,t.OK Tryz.prog:=fun t ht=>by
 simp only[Kj,aar,aaB,abe]at ht;subst ht;exact AE
def SC:aG Tryz.prog Kj jT.fn where
 Λ:=fun p=>if ML p [64,1,1,1,1,0,0]then some ⟨0,[(3,.sv (.one (.sl (.var 50) (.lit 0) (.var 51) (.var 52))))],[(3,.hp 53 [] [.var 50] [])],60⟩
  else if ML p [64,1,1,1,1,1,1,1,1,0,1,0]then some ⟨1,[(7,TI .i64 (.var 100))],[(13,.bd 84 (al 110 (List.replicate 8 vW)) 171)],120⟩
  else if ML p [64,1,1,1,1,1,1,1,1,0,1,0,0,1,0,0,1,0,1,0]then some ⟨2,[(9,TI .i64 (.var 130))],[(14,.hp 131 [] [.var 120] [])],140⟩
  else if ML p [64,1,1,1,1,1,1,1,1,0,1,0,0,1,0,0,1,1,1,0,1,0]then some ⟨3,[(21,TI .i64 (.var 150)),(13,.sv (.one (.int .u32 (.var 151)))),(14,.sv (.one (.int .u32 (.var 152)))),(15,.sv (.one (.int .u32 (.var 153)))),(16,.sv (.one (.int .u32 (.var 154)))),(17,.sv (.one (.int .u32 (.var 155)))),(18,.sv (.one (.int .u32 (.var 156)))),(19,.sv (.one (.int .u32 (.var 157)))),(20,.sv (.one (.int .u32 (.var 158))))],[],170⟩
  else if ML p [64,1,1,1,1,1,1,1,1,1,1,0,1,0]then some ⟨4,[(25,TI .i64 (.var 200))],[(14,.hp 201 [] [.var 120] []),(13,.hp 202 [] [.var 84] [])],210⟩else none
 args:=[.sv (.one (.sl (.var 0) (.var 1) (.var 2) (.var 3)))]
 mem:=[.ro 4 [.var 0] true,.ro 5 [.lit 3] false]
 nv:=6
def Pp:qz.res=[.one vW]:=rfl
def BV (bs:List Int) (j:Nat) (q:Env):Prop:=match j with
 | 0=>∃ m:Nat,m<=(119-bs.length%64)%64/\q.i 51=bs.length+1+m/\ -1<=q.i 50/\0<=q.i 52/\bO (q.h 53) 5 (.slice (az (q.i 50) 0) (q.i 51).toNat (q.i 52).toNat) (bs++[128]++List.replicate m 0)
 | 1=>∃ k:Nat,q.i 100=((64*k:Nat):Int)/\64*k<=(gy bs).length/\IY q 110 (nH du (gy bs) k)
 | 2=>∃ (k:Nat) (l:List Int),q.i 130=k/\k<=64/\KK (((gy bs).drop (q.i 100).toNat).take 64) k l/\q.h 131=wH (q.i 120).toNat l 172
 | 4=>∃ (k:Nat) (l:List Int),q.i 200=k/\k<=32/\l.length=32/\(∀ j,j<k->l[j]?=some ((gC bs).getD j 0))/\q.h 201=Hl.one (q.i 120).toNat (.cells (aM l).toArray 58 (0,0))/\q.h 202=wH (q.i 84).toNat (s8 (DD bs)) 171
 | _=>∃ k:Nat,q.i 150=k/\k<=64/\IY q 151 (dm (nH du (gy bs) ((q.i 100).toNat/64)) (aR (((gy bs).drop (q.i 100).toNat).take 64) 64) k)
def Mi (bs:List Int) (j:Nat) (q:Env):Nat:=match j with
 | 0=>((bs.length:Int)+100-q.i 51).toNat
 | 1=>((gy bs).length-q.i 100).toNat
 | 2=>(64-q.i 130).toNat
 | 4=>(32-q.i 200).toNat
 | _=>(64-q.i 150).toNat
def XM (bs:List Int) (xs:List Value) (Rs:List Hl):Ctx:=⟨Kj,BV bs,Mi bs,postOf jT xs [] Rs⟩
def ir (h:okW x) {n:Int} (h0:0<=n) (h1:n<=32):qz.pre [.int .u32 x,.int .i64 n] [] []:=⟨⟨(aY fun i=>if i=0 then x else n),⟨zzT,zzT,zzT⟩,rfl⟩,h,h0,h1⟩
def gw {xs:List Value} (hx:xs=[.int .u32 x,.int .i64 (m:Int)]) (h:qz.post xs Hs Rs (Value.int .u32 (q.i n)) K F):q.i n=bK m x:=by
 subst hx;have h:Value.int .u32 (q.i n)=Value.int .u32 (bK ((m:Int)).toNat x):=h;rw[aaa]at h;simpa using h
section
variable {bs:List Int} {xs:List Value} {Rs:List Hl} {ms:Nat->Nat} {q:Env} {P B S:List Int} {k:Nat}
structure rC (bs P B:List Int) (k:Nat) (q:Env):Prop where
 p:P=gy bs
 b:B=(P.drop (64*k)).take 64
 k2:64*k+64<=P.length
 le:P.length<=1000000
 bb:ar B
 e100:q.i 100=((64*k:Nat):Int)
 s:IY q 110 (nH du P k)
 p120:0<=q.i 120
 kat:uJ (q.h 5) 3
 cell:∀ j z,P[j]?=some z->(q.h 82).cell (q.i 82).toNat j=some (.int .u8 z)
 x82:0<=q.i 82
 e51:q.i 51+8=P.length
def rC.mono (h:rC bs P B k q) (g:ai n q q') (hn:121<=n):rC bs P B k q':=by
 obtain⟨a1,a2,a3,a4,a5,a6,a7,a8,a9,a10,a11,a12⟩:=h;exact⟨a1,a2,a3,a4,a5,by rw[g.i 100];exact a6,a7.mono g ah,by rw[g.i 120];exact a8,by rw[g.h 5];exact a9,by rw[g.h 82,g.i 82];exact a10,by rw[g.i 82];exact a11,by rw[g.i 51];exact a12⟩
def rC.len (h:rC bs P B k q):B.length=64:=by
 have:=h.k2;rw[h.b,aaA,aaK];omega
def rC.get (h:rC bs P B k q) (hj:j<64):B.getD j 0=P.getD (64*k+j) 0:=by
 rw[h.b,aak,abd hj,aaV,<-aak]
def Mk (hB:rC bs P B k q) (hS:S=aR B 64) (h131:q.h 131=wH (q.i 120).toNat S 172) (e150:q.i 150=n) (hn:n<=64) (h8:IY q 151 (dm (nH du P k) S n)) (m0:ms 0=(P.length-q.i 100).toNat) (m1:ms 1=(64-q.i 150).toNat):Ki.holds (XM bs xs Rs) ms q:=by
 show Nd.holds ⟨Kj,BV bs,Mi bs,postOf jT xs [] Rs⟩ ms q Ki;have hle:=hB.le;have bT:=hB.k2;unfold Ki;simp only[Nd.holds,X.pre,X.rel,X.n,Src.ok,Src.len,Src.iB,aaY,aat,abL,ab8,aaW,Nat.reduceAdd,aaN,aa7,rH,rE,jB,jZ,iW,rG,mG,mf,oW,gn,mC,mH,rF,mE,mD,jC,mF,aq,ak,bJ,cQ,cj,bx,cG,dw,fk,fD,iy,fX,gZ,fJ,TV.ev,SV.ev,CV.ev,aaC,abn,bD.hl,j8,Cp.sv,Ck.cv,bV,Cp.len,Ck.len,gk,gV,jh,Kj,Pp];obtain⟨r,hr⟩:∃ r,r=dm (nH du P k) S n:=⟨_,rfl⟩;rw[<-hr]at h8;have okr:∀ j,j<8->okW (r j):=by rw[hr];exact sJ (oB P k) S n
 rw[e150];refine⟨fun hlt=>?_,fun hge=>?_⟩
 .have hn64:n<64:=ah;have cK:∀ {q':Env},ai 170 q q'->(q'.h 5).cell 3 (q'.i 150).toNat=some (.int .u32 (DC.getD n 0)):=fun {q'} hg=>by
   rw[hg.i 150,hg.h 5,e150,aaa];exact hB.kat n hn64
  have cS:∀ {q':Env},ai 170 q q'->(q'.h 131).cell (q'.i 120).toNat (q'.i 150).toNat=some (.int .u32 (S.getD n 0)):=fun {q'} hg=>by
   rw[hg.i 150,hg.i 120,hg.h 131,h131,e150,aaa];refine Cg ?_;rw[aak,aab (by rw[hS,dn];exact hn64)];rfl
  have r4:∀ {q':Env},ai 170 q q'->q'.i 155=r 4:=fun hg=>(h8.mono hg ah) 4 ah;have r0:∀ {q':Env},ai 170 q q'->q'.i 151=r 0:=fun hg=>(h8.mono hg ah) 0 ah;have cK0:(q.h 5).cell (Int.toNat 3) ((n:Int)).toNat=some (.int .u32 (DC.getD n 0)):=by rw[<-e150];exact cK (ai.refl _ _)
  have cS0:(q.h 131).cell (q.i 120).toNat ((n:Int)).toNat=some (.int .u32 (S.getD n 0)):=by rw[<-e150];exact cS (ai.refl _ _)
  rw[cK0,cS0,r4 (ai.refl _ _)];refine⟨ah,rfl,hB.p120,rfl,ir (okr 4 ah) ah ah,fun q6 g6 ⟨_,p6,_,_⟩=>?_⟩;rw[r4 g6];refine⟨ir (okr 4 ah) ah ah,fun q7 g7 ⟨_,p7,_,_⟩=>?_⟩;have G7:ai 170 q q7:=g6.tr g7;rw[r4 G7];refine⟨ir (okr 4 ah) ah ah,fun q8 g8 ⟨_,p8,_,_⟩=>?_⟩;have G8:ai 170 q q8:=G7.tr g8;rw[r0 G8];refine⟨ir (okr 0 ah) ah ah,fun q9 g9 ⟨_,p9,_,_⟩=>?_⟩;have G9:ai 170 q q9:=G8.tr g9;rw[r0 G9];refine⟨ir (okr 0 ah) ah ah,fun q10 g10 ⟨_,p10,_,_⟩=>?_⟩;have G10:ai 170 q q10:=G9.tr g10;rw[r0 G10];refine⟨ir (okr 0 ah) ah ah,fun q11 g11 ⟨_,p11,_,_⟩=>?_⟩;have G11:ai 170 q q11:=G10.tr g11;have e170:q11.i 170=bK 6 (r 4):=by rw[g11.i 170,g10.i 170,g9.i 170,g8.i 170,g7.i 170];exact gw (m:=6) rfl p6
  have e171:q11.i 171=bK 11 (r 4):=by rw[g11.i 171,g10.i 171,g9.i 171,g8.i 171];exact gw (m:=11) rfl p7
  have e172:q11.i 172=bK 25 (r 4):=by rw[g11.i 172,g10.i 172,g9.i 172];exact gw (m:=25) rfl p8
  have e173:q11.i 173=bK 2 (r 0):=by rw[g11.i 173,g10.i 173];exact gw (m:=2) rfl p9
  have e174:q11.i 174=bK 13 (r 0):=by rw[g11.i 174];exact gw (m:=13) rfl p10
  have e175:q11.i 175=bK 22 (r 0):=gw (m:=22) rfl p11;have s11:IY q11 151 r:=h8.mono G11 ah;have nE:IntKind.u32.wrap (4294967295-r 4)=4294967295-r 4:=by
   have:=okr 4 ah;unfold okW at this;exact qB ⟨ah,ah⟩
  have eT:dL (dL (dL (dL (q11.i 158+kJ (q11.i 170) (q11.i 171) (q11.i 172))+ct .xor .u32 (iV (q11.i 155) (q11.i 156)) (iV (IntKind.u32.wrap (4294967295-q11.i 155)) (q11.i 157)))+bS ((q11.h 5).cell 3 (q11.i 150).toNat))+bS ((q11.h 131).cell (q11.i 120).toNat (q11.i 150).toNat))=IA r (DC.getD n 0) (S.getD n 0):=by
   rw[cK G11,cS G11,e170,e171,e172,show q11.i 158=r 7 from s11 7 ah,show q11.i 155=r 4 from s11 4 ah,show q11.i 156=r 5 from s11 5 ah,show q11.i 157=r 6 from s11 6 ah,nE];rfl
  have eU:dL (kJ (q11.i 173) (q11.i 174) (q11.i 175)+ct .xor .u32 (ct .xor .u32 (iV (q11.i 151) (q11.i 152)) (iV (q11.i 151) (q11.i 153))) (iV (q11.i 152) (q11.i 153)))=PX r:=by
   rw[e173,e174,e175,show q11.i 151=r 0 from s11 0 ah,show q11.i 152=r 1 from s11 1 ah,show q11.i 153=r 2 from s11 2 ah];rfl
  have ew:IntKind.i64.wrap (q11.i 150+1)=((n+1:Nat):Int):=by rw[G11.i 150,e150,wrap_i64 ah ah];rfl
  have f100:q11.i 100=((64*k:Nat):Int):=by rw[G11.i 100,hB.e100]
  refine⟨⟨n+1,ew,ah,fun j hj=>?_⟩,?_⟩
  .show _=dm (nH du (gy bs) ((q11.i 100).toNat/64)) (aR (((gy bs).drop (q11.i 100).toNat).take 64) 64) (n+1) j;rw[f100,aaa,show 64*k/64=k by omega,<-hB.p,<-hB.b,<-hS];show _=uv (dm (nH du P k) S n) (DC.getD n 0) (S.getD n 0) j;rw[<-hr]
   match j,hj with
   | 0,_ =>
    show dL (dL (dL (dL (dL (q11.i 158+kJ (q11.i 170) (q11.i 171) (q11.i 172))+ct .xor .u32 (iV (q11.i 155) (q11.i 156)) (iV (IntKind.u32.wrap (4294967295-q11.i 155)) (q11.i 157)))+bS ((q11.h 5).cell 3 (q11.i 150).toNat))+bS ((q11.h 131).cell (q11.i 120).toNat (q11.i 150).toNat))+dL (kJ (q11.i 173) (q11.i 174) (q11.i 175)+ct .xor .u32 (ct .xor .u32 (iV (q11.i 151) (q11.i 152)) (iV (q11.i 151) (q11.i 153))) (iV (q11.i 152) (q11.i 153))))=dL (IA r _ _+PX r);rw[eT,eU]
   | 4,_ =>
    show dL (q11.i 154+dL (dL (dL (dL (q11.i 158+kJ (q11.i 170) (q11.i 171) (q11.i 172))+ct .xor .u32 (iV (q11.i 155) (q11.i 156)) (iV (IntKind.u32.wrap (4294967295-q11.i 155)) (q11.i 157)))+bS ((q11.h 5).cell 3 (q11.i 150).toNat))+bS ((q11.h 131).cell (q11.i 120).toNat (q11.i 150).toNat)))=dL (r 3+IA r _ _);rw[eT,show q11.i 154=r 3 from s11 3 ah]
   | 1,_=>exact s11 0 ah
   | 2,_=>exact s11 1 ah
   | 3,_=>exact s11 2 ah
   | 5,_=>exact s11 4 ah
   | 6,_=>exact s11 5 ah
   | 7,_=>exact s11 6 ah
  .rw[m1,e150];show(64-IntKind.i64.wrap (q11.i 150+1)).toNat<_;rw[ew];omega
 .have en:n=64:=ah;subst en;have ew:IntKind.i64.wrap (q.i 100+64)=((64*(k+1):Nat):Int):=by rw[hB.e100,wrap_i64 ah ah];omega
  refine⟨⟨k+1,ew,by rw[<-hB.p];omega,fun j hj=>?_⟩,?_⟩
  .rw[<-hB.p];show _=dL (nH du P k j+dm (nH du P k) (aR ((P.drop (64*k)).take 64) 64) 64 j);rw[<-hB.b,<-hS,<-hr,<-hB.s j hj,<-h8 j hj]
   match j,hj with
   | 0,_=>rfl
   | 1,_=>rfl
   | 2,_=>rfl
   | 3,_=>rfl
   | 4,_=>rfl
   | 5,_=>rfl
   | 6,_=>rfl
   | 7,_=>rfl
  .rw[m0];show(((gy bs).length:Int)-IntKind.i64.wrap (q.i 100+64)).toNat<_;rw[ew,<-hB.p,hB.e100];omega
def MH (a b c d:Int) (ha:0<=a/\a<256) (hb:0<=b/\b<256) (hc:0<=c/\c<256) (hd:0<=d/\d<256):dL (dL (dL (dL (dL a*16777216)+dL (dL b*65536))+dL (dL c*256))+dL d)=dL (a*16777216+b*65536+c*256+d):=by
 simp only[uI];omega
def Sw (h:okW x) {n:Int} (hn:0<n):IntKind.u32.wrap (x.tdiv n)=x/n:=by
 unfold okW at h;rw[abA h.1];refine qB ⟨Int.ediv_nonneg h.1 ah,Int.lt_of_le_of_lt (Int.ediv_le_self _ h.1) h.2⟩
def Ml (hB:rC bs P B k q) (hW:KK B n l) (h131:q.h 131=wH (q.i 120).toNat l 172) (e130:q.i 130=n) (hn:n<=64) (m0:ms 0=(P.length-q.i 100).toNat) (m1:ms 1=(64-q.i 130).toNat):Du.holds (XM bs xs Rs) ms q:=by
 show Nd.holds ⟨Kj,BV bs,Mi bs,postOf jT xs [] Rs⟩ ms q Du;have hle:=hB.le;have bT:=hB.k2;have hBl:=hB.len;have hl:=hW.1;have f100:=hB.e100;have fold:∀ q':Env,ai 131 q q'->(((gy bs).drop (q'.i 100).toNat).take 64)=B:=fun q' hg=>by
  rw[hg.i 100,f100,aaa,<-hB.p,<-hB.b]
 unfold Du;simp only[Nd.holds,X.pre,X.rel,X.n,Src.ok,Src.len,Src.iB,aaY,aat,abL,ab8,aaW,Nat.reduceAdd,aaN,aa7,rH,rE,jB,jZ,iW,rG,mG,mf,oW,gn,mC,mH,rF,mE,mD,jC,mF,aq,ak,bJ,cQ,cj,bx,cG,dw,fk,fD,iy,fX,gZ,fJ,TV.ev,SV.ev,CV.ev,aaC,abn,bD.hl,j8,Cp.sv,Ck.cv,bV,Cp.len,Ck.len,gk,gV,jh,Kj,Pp];rw[e130];refine⟨fun hlt2=>⟨fun h16=>?_,fun h16=>?_⟩,fun hge2=>?_⟩
 .have rdB:∀ {d:Nat},d<4->(q.h 82).cell (q.i 82).toNat (((64*k:Nat):Int)+4*(n:Int)+(d:Int)).toNat=some (.int .u8 (B.getD (4*n+d) 0)):=fun {d} hd=>by
   rw[show(((64*k:Nat):Int)+4*(n:Int)+(d:Int)).toNat=64*k+(4*n+d)by omega,hB.get ah];refine hB.cell _ _ ?_;rw[aak,aab ah];rfl
  have w0:IntKind.i64.wrap (q.i 100+IntKind.i64.wrap (4*(n:Int)))=((64*k:Nat):Int)+4*(n:Int):=by rw[f100,wrap_i64 (n:=4*(n:Int)) ah ah,wrap_i64 ah ah]
  have w1:∀ d:Nat,d<4->IntKind.i64.wrap (((64*k:Nat):Int)+4*(n:Int)+(d:Int))=((64*k:Nat):Int)+4*(n:Int)+(d:Int):=fun d hd=>wrap_i64 ah ah;have c0:=rdB (d:=0) ah;rw[show((64*k:Nat):Int)+4*(n:Int)+((0:Nat):Int)=((64*k:Nat):Int)+4*(n:Int)by omega]at c0;have c1:(q.h 82).cell (q.i 82).toNat (((64*k:Nat):Int)+4*(n:Int)+1).toNat=some (.int .u8 (B.getD (4*n+1) 0)):=rdB (d:=1) ah;have c2:(q.h 82).cell (q.i 82).toNat (((64*k:Nat):Int)+4*(n:Int)+2).toNat=some (.int .u8 (B.getD (4*n+2) 0)):=rdB (d:=2) ah;have c3:(q.h 82).cell (q.i 82).toNat (((64*k:Nat):Int)+4*(n:Int)+3).toNat=some (.int .u8 (B.getD (4*n+3) 0)):=rdB (d:=3) ah;have x1:IntKind.i64.wrap (((64*k:Nat):Int)+4*(n:Int)+1)=((64*k:Nat):Int)+4*(n:Int)+1:=w1 1 ah;have x2:IntKind.i64.wrap (((64*k:Nat):Int)+4*(n:Int)+2)=((64*k:Nat):Int)+4*(n:Int)+2:=w1 2 ah;have x3:IntKind.i64.wrap (((64*k:Nat):Int)+4*(n:Int)+3)=((64*k:Nat):Int)+4*(n:Int)+3:=w1 3 ah;have gB:∀ j,j<64->0<=B.getD j 0/\B.getD j 0<256:=fun j hj=>by
   rw[aak,aab ah,abo];exact hB.bb _ (abp _)
  rw[w0,x1,x2,x3,c0,c1,c2,c3,hB.e51];refine⟨hB.x82,ah,ah,rfl,ah,ah,rfl,ah,ah,rfl,ah,ah,rfl,hB.p120,ah,⟨hB.p120,ah,?_⟩,fun q26 g26 h140=>?_⟩
  .rw[h131,aaa];exact KE ah
  have h140:q26.h 140=(wH (q.i 120).toNat l 172).put (q.i 120).toNat n [Value.int .u32 (dL (dL (dL (dL (dL (B.getD (4*n) 0)*16777216)+dL (dL (B.getD (4*n+1) 0)*65536))+dL (dL (B.getD (4*n+2) 0)*256))+dL (B.getD (4*n+3) 0)))]:=by
   rw[h140,h131,aaa];rfl
  rw[MH _ _ _ _ (gB _ ah) (gB _ ah) (gB _ ah) (gB _ ah),DS ah]at h140;have ew:IntKind.i64.wrap (q26.i 130+1)=((n+1:Nat):Int):=by rw[g26.i 130,e130,wrap_i64 ah ah];rfl
  refine⟨⟨n+1,l.set n (Gu B n),ew,ah,?_,?_⟩,?_⟩
  .show KK (((gy bs).drop (q26.i 100).toNat).take 64) _ _;rw[fold q26 g26.mono];exact hW.set ah (by rw[aav ah])
  .show q26.h 140=wH (q26.i 120).toNat _ _;rw[h140,g26.i 120];rfl
  .rw[m1,e130];show(64-IntKind.i64.wrap (q26.i 130+1)).toNat<_;rw[ew];omega
 .have rd:∀ {q':Env},ai 140 q q'->∀ d:Nat,1<=d->d<=16->(q'.h 131).cell (q'.i 120).toNat ((n:Int)-d).toNat=some (.int .u32 ((aR B n).getD (n-d) 0)):=fun {q'} hg d h1 h2=>by
   rw[hg.h 131,hg.i 120,h131,show((n:Int)-d).toNat=n-d by omega];exact Cg (hW.get ah ah)
  have ok:∀ d:Nat,1<=d->d<=16->okW ((aR B n).getD (n-d) 0):=fun d h1 h2=>FY _ _ ah;have wd:∀ {q':Env},ai 140 q q'->∀ d:Nat,1<=d->d<=16->IntKind.i64.wrap (q'.i 130-d)=(n:Int)-d:=fun hg d h1 h2=>by rw[hg.i 130,e130,wrap_i64 ah ah]
  have w15:∀ {q':Env},ai 140 q q'->IntKind.i64.wrap (q'.i 130-15)=(n:Int)-15:=fun hg=>wd hg 15 ah ah;have w2:∀ {q':Env},ai 140 q q'->IntKind.i64.wrap (q'.i 130-2)=(n:Int)-2:=fun hg=>wd hg 2 ah ah;have w16:∀ {q':Env},ai 140 q q'->IntKind.i64.wrap (q'.i 130-16)=(n:Int)-16:=fun hg=>wd hg 16 ah ah;have w7:∀ {q':Env},ai 140 q q'->IntKind.i64.wrap (q'.i 130-7)=(n:Int)-7:=fun hg=>wd hg 7 ah ah;have r15:∀ {q':Env},ai 140 q q'->(q'.h 131).cell (q'.i 120).toNat ((n:Int)-15).toNat=some (.int .u32 ((aR B n).getD (n-15) 0)):=fun hg=>rd hg 15 ah ah;have r2:∀ {q':Env},ai 140 q q'->(q'.h 131).cell (q'.i 120).toNat ((n:Int)-2).toNat=some (.int .u32 ((aR B n).getD (n-2) 0)):=fun hg=>rd hg 2 ah ah;have r16:∀ {q':Env},ai 140 q q'->(q'.h 131).cell (q'.i 120).toNat ((n:Int)-16).toNat=some (.int .u32 ((aR B n).getD (n-16) 0)):=fun hg=>rd hg 16 ah ah;have r7:∀ {q':Env},ai 140 q q'->(q'.h 131).cell (q'.i 120).toNat ((n:Int)-7).toNat=some (.int .u32 ((aR B n).getD (n-7) 0)):=fun hg=>rd hg 7 ah ah;have a15:=w15 (ai.refl 140 q);rw[e130]at a15;rw[a15,r15 (ai.refl _ _)];refine⟨hB.p120,ah,ah,rfl,ir (ok 15 ah ah) ah ah,fun q6 g6 ⟨_,p6,_,_⟩=>?_⟩;rw[w15 g6,r15 g6];refine⟨ir (ok 15 ah ah) ah ah,fun q7 g7 ⟨_,p7,_,_⟩=>?_⟩;have G7:ai 140 q q7:=g6.tr g7;rw[w2 G7,r2 G7];refine⟨ah,ah,rfl,ir (ok 2 ah ah) ah ah,fun q8 g8 ⟨_,p8,_,_⟩=>?_⟩;have G8:ai 140 q q8:=G7.tr g8;rw[w2 G8,r2 G8];refine⟨ir (ok 2 ah ah) ah ah,fun q9 g9 ⟨_,p9,_,_⟩=>?_⟩;have G9:ai 140 q q9:=G8.tr g9;have e140:q9.i 140=bK 7 ((aR B n).getD (n-15) 0):=by rw[g9.i 140,g8.i 140,g7.i 140];exact gw (m:=7) rfl p6
  have e141:q9.i 141=bK 18 ((aR B n).getD (n-15) 0):=by rw[g9.i 141,g8.i 141];exact gw (m:=18) rfl p7
  have e142:q9.i 142=bK 17 ((aR B n).getD (n-2) 0):=by rw[g9.i 142];exact gw (m:=17) rfl p8
  have e143:q9.i 143=bK 19 ((aR B n).getD (n-2) 0):=gw (m:=19) rfl p9;have x1:aB q9 (E.bits BinOp.xor IntKind.u32 (E.bits BinOp.xor IntKind.u32 (E.var 140) (E.var 141)) (E.wrap IntKind.u32 ((E.hI 131 (E.var 120) (E.wrap IntKind.i64 ((E.var 130).sub (E.lit 15))) 0).quo (E.lit 8))))=loS ((aR B n).getD (n-15) 0):=by
   show kJ (q9.i 140) (q9.i 141) (IntKind.u32.wrap ((bS ((q9.h 131).cell (q9.i 120).toNat ((IntKind.i64.wrap (q9.i 130-15)).toNat))).tdiv 8))=_;rw[w15 G9,r15 G9,show bS (some (Value.int .u32 ((aR B n).getD (n-15) 0)))=(aR B n).getD (n-15) 0 from rfl,Sw (ok 15 ah ah) ah,e140,e141];rfl
  have x2:aB q9 (E.bits BinOp.xor IntKind.u32 (E.bits BinOp.xor IntKind.u32 (E.var 142) (E.var 143)) (E.wrap IntKind.u32 ((E.hI 131 (E.var 120) (E.wrap IntKind.i64 ((E.var 130).sub (E.lit 2))) 0).quo (E.lit 1024))))=Va ((aR B n).getD (n-2) 0):=by
   show kJ (q9.i 142) (q9.i 143) (IntKind.u32.wrap ((bS ((q9.h 131).cell (q9.i 120).toNat ((IntKind.i64.wrap (q9.i 130-2)).toNat))).tdiv 1024))=_;rw[w2 G9,r2 G9,show bS (some (Value.int .u32 ((aR B n).getD (n-2) 0)))=(aR B n).getD (n-2) 0 from rfl,Sw (ok 2 ah ah) ah,e142,e143];rfl
  have j130:q9.i 130=n:=by rw[G9.i 130,e130]
  have j120:q9.i 120=q.i 120:=G9.i 120;have hh9:q9.h 131=wH (q.i 120).toNat l 172:=by rw[G9.h 131,h131]
  rw[w16 G9,w7 G9,r16 G9,r7 G9,x1,x2,j130,j120,aaa,hh9];refine⟨ah,ah,rfl,ah,ah,rfl,⟨hB.p120,ah,KE ah⟩,fun q10 g10 h144=>?_⟩;have h144:q10.h 144=(wH (q.i 120).toNat l 172).put (q.i 120).toNat n [Value.int .u32 (Ch (aR B n) n)]:=h144;rw[DS ah]at h144;have ew:IntKind.i64.wrap (q10.i 130+1)=((n+1:Nat):Int):=by rw[g10.i 130,j130,wrap_i64 ah ah];rfl
  have G10:ai 140 q q10:=G9.tr g10;refine⟨⟨n+1,l.set n (Ch (aR B n) n),ew,ah,?_,?_⟩,?_⟩
  .show KK (((gy bs).drop (q10.i 100).toNat).take 64) _ _;rw[fold q10 G10.mono];exact hW.set ah (by rw[aan ah])
  .show q10.h 144=wH (q10.i 120).toNat _ _;rw[h144,g10.i 120,j120]
  .rw[m1,e130];show(64-IntKind.i64.wrap (q10.i 130+1)).toNat<_;rw[ew];omega
 .have en:n=64:=ah;subst en;have el:=hW.all;refine⟨⟨0,rfl,ah,fun j hj=>?_⟩,fun q26 g26 ⟨n',e150,hn',s8'⟩=>?_⟩
  .show _=dm (nH du (gy bs) ((q.i 100).toNat/64)) (aR (((gy bs).drop (q.i 100).toNat).take 64) 64) 0 j;rw[f100,aaa,show 64*k/64=k by omega,<-hB.p];show _=nH du P k j;rw[<-hB.s j hj]
   match j,hj with
   | 0,_=>rfl
   | 1,_=>rfl
   | 2,_=>rfl
   | 3,_=>rfl
   | 4,_=>rfl
   | 5,_=>rfl
   | 6,_=>rfl
   | 7,_=>rfl
  .have hB6:=hB.mono g26 ah;refine Mk hB6 (S:=aR B 64) rfl ?_ e150 hn' ?_ ?_ rfl
   .rw[g26.h 131,h131,g26.i 120,el]
   .rw[hB6.e100,aaa,show 64*k/64=k by omega,<-hB.p,<-hB.b]at s8';exact s8'
   .show ms 0=_;rw[m0,g26.i 100]
def bH (b:Nat) (l:List Int) (T:TypeId):Hl:=Hl.one b (.cells (aM l).toArray T (0,0))
def SX (h:y<l.length) (z:Int):(bH b l T).put b y [Value.int .u8 z]=bH b (l.set y z) T:=by
 unfold bH aM;rw[Hl.C6]
 congr 2
 apply aaD;apply aaL;intro j;rw[Sx.sN (by simp;omega),adz];simp only[aaN,aa7,acG,aaz,aao];by_cases h2:j=y
 .subst h2;rw[aav ah,aav rfl,aav h];simp
 .rw[aan ah,aan ah]
def Vm (h:y<l.length):(bH b l T).wr b y 1=true:=Hl.C8 _ _ _ _ _ (by simp [aM];omega)
def Qf (b:Nat) (l:List Int) (T:TypeId) (j:Nat):(bH b l T).cell b j=(l[j]?).map (Value.int .u8):=by
 unfold bH aM;rw[Hl.one_cell,abl,aao]
def Pz (bs:List Int) (h:j<32):(gC bs).getD j 0=DD bs (j/4)/2 ^ (24-8*(j%4))%256:=by
 unfold gC;rw[aak,aao,aaE h];rfl
def PA (hx:okW x) {s:Nat} (hs:s<=24):IntKind.u8.wrap (x.fdiv (2 ^ (min ((s:Int)).toNat IntKind.u32.bits)))=x/2 ^ s%256:=by
 unfold okW at hx;have e:min ((s:Nat):Int).toNat IntKind.u32.bits=s:=by show min _ 32=_;omega
 have e2:(0:Int)<=2 ^ s:=Int.le_of_lt (Int.pow_pos aA);rw[e,abz _ e2];exact PT _
def Mj (hxs:xs=[u]) (hRs:Rs=[R,RG]) (hR:fu R u bs) (p84:0<=q.i 84) (p120:0<=q.i 120) (e200:q.i 200=n) (hn:n<=32) (hl:l.length=32) (hW:∀ j,j<n->l[j]?=some ((gC bs).getD j 0)) (h201:q.h 201=bH (q.i 120).toNat l 58) (h202:q.h 202=wH (q.i 84).toNat (s8 (DD bs)) 171) (m0:ms 0=(32-q.i 200).toNat):Kh.holds (XM bs xs Rs) ms q:=by
 show Nd.holds ⟨Kj,BV bs,Mi bs,postOf jT xs [] Rs⟩ ms q Kh;unfold Kh;simp only[Nd.holds,X.pre,X.rel,X.n,Src.ok,Src.len,Src.iB,aaY,aat,abL,ab8,aaW,Nat.reduceAdd,aaN,aa7,rH,rE,jB,jZ,iW,rG,mG,mf,oW,gn,mC,mH,rF,mE,mD,jC,mF,aq,ak,bJ,cQ,cj,bx,cG,dw,fk,fD,iy,fX,gZ,fJ,TV.ev,SV.ev,CV.ev,aaC,abn,bD.hl,j8,Cp.sv,Ck.cv,bV,Cp.len,Ck.len,gk,gV,jh,Kj,Pp];rw[e200];refine⟨fun hlt=>?_,fun hge=>?_⟩
 .have hn32:n<32:=ah;have w4:IntKind.i64.wrap (aB q ((E.var 200).quo (E.lit 4)))=((n/4:Nat):Int):=by
   show IntKind.i64.wrap ((q.i 200).tdiv 4)=_;rw[e200,abA ah,wrap_i64 ah ah];omega
  have wr:aB q ((E.var 200).rem (E.lit 4))=((n%4:Nat):Int):=by
   show(q.i 200).tmod 4=_;rw[e200,abf ah];omega
  have ws:IntKind.u32.wrap (IntKind.i64.wrap (24-IntKind.i64.wrap (8*((n%4:Nat):Int))))=((24-8*(n%4):Nat):Int):=by
   rw[wrap_i64 (n:=8*((n%4:Nat):Int)) ah ah,wrap_i64 ah ah];have:=qB (x:=24-8*((n%4:Nat):Int)) ⟨ah,ah⟩;unfold dL at this;rw[this];omega
  have okv:okW (DD bs (n/4)):=oB _ _ _ ah;have cv:(q.h 202).cell (q.i 84).toNat (((n/4:Nat):Int)).toNat=some (.int .u32 (DD bs (n/4))):=by
   rw[h202,aaa];refine Cg ?_;unfold s8;rw[aao,aaE ah];rfl
  have xv:IntKind.u8.wrap (aB q (E.shr IntKind.u32 (E.hI 202 (E.var 84) (E.wrap IntKind.i64 ((E.var 200).quo (E.lit 4))) 0) (E.wrap IntKind.u32 (E.wrap IntKind.i64 ((E.lit 24).sub (E.wrap IntKind.i64 ((E.lit 8).mul ((E.var 200).rem (E.lit 4)))))))))=(gC bs).getD n 0:=by
   show IntKind.u8.wrap ((bS ((q.h 202).cell (q.i 84).toNat ((IntKind.i64.wrap (aB q ((E.var 200).quo (E.lit 4)))).toNat))).fdiv (2 ^ (min (IntKind.u32.wrap (IntKind.i64.wrap (24-IntKind.i64.wrap (8*aB q ((E.var 200).rem (E.lit 4)))))).toNat IntKind.u32.bits)))=_;rw[w4,wr,ws,cv,Pz bs hn32];exact PA okv ah
  rw[w4,wr,ws,cv,xv,h201,aaa];refine⟨p84,ah,ah,rfl,ah,p120,ah,⟨p120,ah,Vm ah⟩,fun q1 g1 h210=>?_⟩;rw[SX ah]at h210;have ew:IntKind.i64.wrap (q1.i 200+1)=((n+1:Nat):Int):=by rw[g1.i 200,e200,wrap_i64 ah ah];rfl
  refine⟨⟨n+1,l.set n ((gC bs).getD n 0),ew,ah,by rw[List.length_set];exact hl,fun j hj=>?_,?_,?_⟩,?_⟩
  .rw[acG];by_cases e:n=j
   .subst e;rw[aav rfl,aav ah]
   .rw[aan e];exact hW j ah
  .show q1.h 210=bH (q1.i 120).toNat _ _;rw[h210,g1.i 120]
  .show q1.h 202=wH (q1.i 84).toNat _ _;rw[g1.h 202,g1.i 84,h202]
  .rw[m0,e200];show(32-IntKind.i64.wrap (q1.i 200+1)).toNat<_;rw[ew];omega
 .have en:n=32:=ah;subst en;have hS:=fZ bs;have el:l=gC bs:=by
   apply aaL;intro j;by_cases hj:j<32
   .rw[hW j hj,aak,aab ah];rfl
   .rw[aaq ah,aaq ah]
  have hc:∀ j z,(gC bs)[j]?=some z->(q.h 201).cell (q.i 120).toNat (Int.toNat 0+j)=some (.int .u8 z):=fun j z hz=>by
   rw[h201,el,Qf,show Int.toNat 0+j=j from aaI j,hz];rfl
  have ev:(aU 201 (E.var 120) (E.lit 0) 0 (List.replicate 32 (Kd.int .u8))).map (CV.ev q)=aM (gC bs):=gO 32 0 _ hS fun i z hz=>by
   show(q.h 201).cell (q.i 120).toNat (Int.toNat 0+(0+i))=_;rw[aaI i];exact hc i z hz
  obtain⟨ρ2,_,_,e2⟩:=cH (List.replicate 32 (Ck.int .u8)) 0 (aM (gC bs)) q (oN 32 _ hS);refine⟨p120,cW hc (by rw[hS];decide),fun _=>⟨[],[],rfl,rfl,⟨ρ2,?_,cm _ _ _ aA,zzT⟩,fun u' bs' R' RG' h1 h2 h'=>?_⟩⟩
  .show Value.agg ((aU 201 (E.var 120) (E.lit 0) 0 (List.replicate 32 (Kd.int .u8))).map (CV.ev q)).toArray=Value.agg ((al 0 (List.replicate 32 (Ck.int .u8))).map (CV.ev ρ2)).toArray;rw[ev,e2]
  .subst hxs hRs;simp only[aag,aat]at h1 h2;subst h1;obtain⟨rfl,rfl⟩:=h2;obtain rfl:=h'.uniq hR;show Value.agg ((aU 201 (E.var 120) (E.lit 0) 0 (List.replicate 32 (Kd.int .u8))).map (CV.ev q)).toArray=_;rw[ev]
def Mh (hxs:xs=[u]) (hRs:Rs=[R,RG]) (hR:fu R u bs) (hP:P=gy bs) (hPm:P.length%64=0) (hle:P.length<=1000000) (hPb:ar P) (p84:0<=q.i 84) (hK:uJ (q.h 5) 3) (hc:∀ j z,P[j]?=some z->(q.h 82).cell (q.i 82).toNat j=some (.int .u8 z)) (x82:0<=q.i 82) (e51:q.i 51+8=P.length) (e100:q.i 100=((64*k:Nat):Int)) (hk:64*k<=P.length) (h8:IY q 110 (nH du P k)) (m0:ms 0=(P.length-q.i 100).toNat):Kg.holds (XM bs xs Rs) ms q:=by
 show Nd.holds ⟨Kj,BV bs,Mi bs,postOf jT xs [] Rs⟩ ms q Kg;unfold Kg;simp only[Nd.holds,X.pre,X.rel,X.n,Src.ok,Src.len,Src.iB,aaY,aat,abL,ab8,aaW,Nat.reduceAdd,aaN,aa7,rH,rE,jB,jZ,iW,rG,mG,mf,oW,gn,mC,mH,rF,mE,mD,jC,mF,aq,ak,bJ,cQ,cj,bx,cG,dw,fk,fD,iy,fX,gZ,fJ,TV.ev,SV.ev,CV.ev,aaC,abn,bD.hl,j8,Cp.sv,Ck.cv,bV,Cp.len,Ck.len,gk,gV,jh,Kj,Pp];rw[e51,e100];refine⟨fun hlt=>?_,fun hge=>?_⟩
 .have bT:64*k+64<=P.length:=ah;intro q23 g23 p120 q24 g24 h121;have B24:ai 120 q q24:=g23.tr g24;have p120':0<=q24.i 120:=by rw[g24.i 120];exact p120
  have hB:rC bs P ((P.drop (64*k)).take 64) k q24:=⟨hP,rfl,bT,hle,fun z hz=>hPb z (abU (abH hz)),by rw[B24.i 100];exact e100,h8.mono B24 ah,p120',by rw[B24.h 5];exact hK,by rw[B24.h 82,B24.i 82];exact hc,by rw[B24.i 82];exact x82,by rw[B24.i 51];exact e51⟩;refine⟨⟨0,List.replicate 64 0,rfl,ah,⟨aF,fun j hj=>ah⟩,?_⟩,fun q25 g25 ⟨n,l,e130,hn,hW,h131⟩=>?_⟩
  .show q24.h 121=wH (q24.i 120).toNat _ _;rw[h121,g24.i 120];rfl
  have hB5:=hB.mono g25 ah;rw[hB5.e100,aaa,<-hP]at hW;refine Ml hB5 hW h131 e130 hn ?_ rfl;show ms 0=_;rw[m0,hB5.e100,e100]
 .intro q23 g23 p120 q24 g24 h121 q25 g25 h122;have B25:ai 120 q q25:=g23.trans (g24.mono.tr g25);have ek:k=P.length/64:=ah;refine⟨⟨0,List.replicate 32 0,rfl,ah,aF,fun j hj=>ah,?_,?_⟩,fun q26 g26 ⟨n,l,e200,hn,hl,hW,h201,h202⟩=>?_⟩
  .show q25.h 121=bH (q25.i 120).toNat _ _;rw[g25.h 121,h121,g25.i 120,g24.i 120];rfl
  .show q25.h 122=wH (q25.i 84).toNat _ _;have e:(al 110 (List.replicate 8 vW)).map (CV.ev q24)=IW (s8 (DD bs)):=by
    refine Mw ?_;have:=h8.mono (g23.tr g24) ah;rw[ek,hP]at this;exact this
   rw[h122,g25.i 84];show Hl.one _ (.cells ((al 110 (List.replicate 8 vW)).map (CV.ev q24)).toArray _ (0,0))=_;rw[e];rfl
  .exact Mj hxs hRs hR (by rw[g26.i 84,B25.i 84];exact p84) (by rw[g26.i 120,g25.i 120,g24.i 120];exact p120) e200 hn hl hW h201 h202 rfl
end
end Go.Proofs.YtomdimlnggpgbaaGreatDoor
