/- Bytes that are no request are told nothing and change nothing: a part of the proof. No condition. -/
import Derived.Lib.Hide
import Derived.WalkSpells
import Derived.WalkLawsBesides
import Derived.Lib.BytesEntry
import Derived.Test.YtbdikjnpbnobcaaGreatDoorTG
set_option linter.all false
set_option maxHeartbeats 4000000
namespace Go.Proofs.YtbdikjnpbnobcaaGreatDoor
open Go Go.Sx Go.Pk
open Go.Proofs.YtbdikjnpbnobcaaGreatDoor.D hiding envI noLoops numS
variable {D:DM}{J q:Env}{F H H' R R':Hl}{rows:List (List Int)}{Hs K Rs:List Hl}{bs:List Int}{a b j m n:Nat}{S:SM}{dp p pa pb sl u v:Value}
def aM.rep (h:aM F v rows):∃ (x:Int) (c:Nat),-1<=x/\v=.slice (slP x 0) rows.length c:=by
 obtain⟨us,ho,_⟩:=h;rcases ho.2 with ⟨h,hn⟩ | ⟨g,cap,cur,h,_⟩
 .exact⟨-1,0,ae,by rw[slP_nil,hn];exact h⟩
 .exact⟨g,cap,ae,by rw[slP_pos ae];simpa using h⟩
structure LR where
 e:Int
 D:DM
 S:SM
def tj (D:DM) (S:SM) (rows:List (List Int)) (r:AR):LR :=
 ⟨jb r.e,r.D,⟨r.L,r.bs,S.LB,S.bB,if jb r.e=0 then S.recs++rows else S.recs,if r.e≠0/\gi r.e=gQ then true else S.over⟩⟩
open Classical in
noncomputable def bc (D:DM) (S:SM) (rows:List (List Int)):LR :=
 if S.over=true then⟨5,D,S⟩
 else if ¬c9 rows then⟨3,D,S⟩
 else if rows=[]then⟨0,D,S⟩
 else if S.LA.most-S.bA.length<(aH rows).length then⟨4,D,S⟩
 else tj D S rows (appendR D S.LA S.bA (aH rows) S.LA.note)
noncomputable def tl:Sx.Spec where
 fn:=113
 own:=[.arg 0,.link 0 0]
 rd:=[1,3000001,2000003]
 res:=[.one (.int .i64)]
 pre:=fun xs Hs Rs=>∃ p v H a R RA RG g dp S D rows,xs=[p,v]/\Hs=[H,a]/\Rs=[R,RA,RG]/\cW H p dp S/\DiskAt a dp D/\dz R RA v rows/\Gl RG g/\rows.length<=1000000/\(∀ r∈rows,0<=r.length)/\S.bA.length<=1048576/\0<=S.LA.serial/\S.recs.length<=1000000000
 post:=fun xs Hs Rs w Hs' F=>∃ p v H a R RA RG dp S D rows H' b,xs=[p,v]/\Hs=[H,a]/\Rs=[R,RA,RG]/\cW H p dp S/\DiskAt a dp D/\dz R RA v rows/\Hs'=[H',b]/\DiskAt b dp (bc D S rows).D/\cW H' p dp (bc D S rows).S/\w=.int .i64 (bc D S rows).e
def CY {L:LM} (h:Value.int .i64 (q.i n)=.int .i64 (L.most-bs.length)):q.i n=L.most-bs.length:=by simpa using h
noncomputable def I8:List Sx.Spec:=[nQ,roomS,lnoteS,appendS,oA,GA,iO,jG]
def Ea:∀ t∈I8,t.OK Tryz.prog:=ai x7 <| ai roomS_ok <| ai lnoteS_ok <| ai appendS_ok <| ai sZ <| ai zS <| ai tU <| ai mP <| aD
noncomputable def yH:Walk Tryz.prog I8 tl.fn where
 Λ:=fun p=>if xF p then some ⟨0,[(51,TI .i64 (.var 60))],[(0,.blk 0 [.hptr (.var 5) (.lit 0),.hptr (.var 6) (.lit 0),.sl (.var 61) (.lit 0) (.var 62) (.var 63),.bool (.bvar 65)] 140),(3,.hp 64 [] [.var 61] [])],66⟩else none
 args:=[TP (.var 0) (.lit 0),.sv (.one (.sl (.var 1) (.var 2) (.var 3) (.var 4)))]
 mem:=[.blk 0 [.hptr (.var 5) (.lit 0),.hptr (.var 6) (.lit 0),.sl (.var 7) (.lit 0) (.var 8) (.var 9),.bool (.bvar 10)] 140,.hp 12 [] [.var 5] [.var 11],.hp 13 [] [.var 6] [.var 11],.hp 14 [] [.var 7] [],.hp 15 [] [.var 11] [],.ro 16 [.var 1] false,.ro 17 [] true,.ro 18 [.lit 3,.lit 4,.lit 5] false]
 nv:=19
def JN:nQ.res=[.one .sl,.one (.int .i64)]:=rfl
def JO:roomS.res=[.one (.int .i64)]:=rfl
def JP:lnoteS.res=[.agg (u8s 16)]:=rfl
def JQ:appendS.res=[.one (.int .i64)]:=rfl
def JR:oA.res=[.one .any]:=rfl
def JS:GA.res=[.one .bool]:=rfl
def JT:iO.res=[.one (.int .i64)]:=rfl
def GC:jG.res=[.one .sl]:=rfl
set_option maxRecDepth 8000 in
def BJ:tl.OK Tryz.prog:=by
 refine spec_of_fn2 (Γ:=I8) Ea ?_;rintro xs Hs Rs ca cb aQ ⟨p,v,H,HD,R,RA,RG,g,dp,S,D,rows,rfl,rfl,rfl,aR,hD,hB,hG,hlen,av,aS,aT,bn⟩;obtain⟨a,pa,pb,sl,HA,HB,HR,rfl,hIn⟩:=id aR;obtain⟨us,x,y,c,rfl,hy,aw,ax,bo⟩:=id hB;obtain⟨da,s,m,es,clock,cc,cd⟩:=id hD;obtain⟨rx,rc,bp,N⟩:=hIn.rows.rep;obtain⟨aa,_,_,bq,_⟩:=id hIn.la;obtain⟨ab,_,_,br,_⟩:=id hIn.lb;obtain⟨l1,l2,l3,l4⟩:=vw hIn.d1 hIn.d2 hIn.d3 hIn.d4 hIn.d5 hIn.d6;rw[<-hIn.hl]at l1 l2 l3 l4;have bt:H.dis HD:=aQ 0 1 _ _ aj rfl rfl;generalize d:envI [(a:Int),x,y,us.length,c,aa,ab,rx,S.recs.length,rc,0,da] S.over [Hl.none,Hl.none,Hl.none,Hl.none,Hl.none,Hl.none,Hl.none,Hl.none,Hl.none,Hl.none,Hl.none,Hl.none,HA,HB,HR,HD,R,RA,RG]=J;have v0:J.i 0=a:=by rw[<-d];rfl
 have v1:J.i 1=x:=by rw[<-d];rfl
 have v2:J.i 2=y:=by rw[<-d];rfl
 have v3:J.i 3=us.length:=by rw[<-d];rfl
 have v4:J.i 4=c:=by rw[<-d];rfl
 have v5:J.i 5=aa:=by rw[<-d];rfl
 have v6:J.i 6=ab:=by rw[<-d];rfl
 have v7:J.i 7=rx:=by rw[<-d];rfl
 have v8:J.i 8=S.recs.length:=by rw[<-d];rfl
 have v9:J.i 9=rc:=by rw[<-d];rfl
 have v11:J.i 11=da:=by rw[<-d];rfl
 have b10:J.b 10=S.over:=by rw[<-d];rfl
 have af:J.h 12=HA:=by rw[<-d];rfl
 have O:J.h 13=HB:=by rw[<-d];rfl
 have z:J.h 14=HR:=by rw[<-d];rfl
 have G:J.h 15=HD:=by rw[<-d];rfl
 have az:J.h 16=R:=by rw[<-d];rfl
 have aA:J.h 17=RA:=by rw[<-d];rfl
 have ag:J.h 18=RG:=by rw[<-d];rfl
 clear d;have ea:Value.pointer (slP (aa:Int) 0)=pa:=by rw[aY,bq]
 have eb:Value.pointer (slP (ab:Int) 0)=pb:=by rw[aY,br]
 have an:∀ (q:Env) (cs:CV) (o:E),q.i 0=a->q.i 5=aa->q.i 6=ab->(Res.blk 0 [.hptr (.var 5) (.lit 0),.hptr (.var 6) (.lit 0),cs,.bool o] 140).hl q=yk a pa pb (cs.ev q) (bev q o):=by
  intro q cs o h0 h5 h6;show Hl.one (q.i 0).toNat (.cells #[Value.pointer (slP (q.i 5) 0),Value.pointer (slP (q.i 6) 0),cs.ev q,.bool (bev q o)] _ (0,0))=_;rw[h0,h5,h6,ea,eb,MD];rfl
 have e0:(Res.blk 0 [.hptr (.var 5) (.lit 0),.hptr (.var 6) (.lit 0),.sl (.var 7) (.lit 0) (.var 8) (.var 9),.bool (.bvar 10)] 140).hl J=yk a pa pb sl S.over:=by
  rw[an J _ _ v0 v5 v6,bev_bvar,b10]
  congr 1
  show Value.slice (slP (J.i 7) 0) (J.i 8).toNat (J.i 9).toNat=_;rw[v7,v8,v9,MD,MD,N]
 refine⟨yH,J,fun _ q=>∃ k:Nat,q.i 60=k/\k<=rows.length/\ -1<=q.i 61/\0<=q.i 62/\0<=q.i 63/\q.b 65=false/\aM (q.h 64) (.slice (slP (q.i 61) 0) (q.i 62).toNat (q.i 63).toNat) (S.recs++rows.take k),fun _ q=>(rows.length-q.i 60).toNat,?_,⟨?_,?_,?_,?_⟩,(fun _ h=>nomatch h),?_⟩
 .show [Value.pointer (slP (J.i 0) 0),Value.slice (slP (J.i 1) (J.i 2)) (J.i 3).toNat (J.i 4).toNat]=_;rw[v0,v1,v2,v3,v4,MD,MD,aY]
 .intro r hr ho;simp only[yH,MQ,MV,Nt]at hr;rcases hr with rfl | rfl | rfl | rfl | rfl | rfl | rfl | rfl
  .exact⟨H,ar,by rw[e0];exact l1⟩
  .exact⟨H,ar,by show(J.h 12).le H;rw[af];exact l2⟩
  .exact⟨H,ar,by show(J.h 13).le H;rw[O];exact l3⟩
  .exact⟨H,ar,by show(J.h 14).le H;rw[z];exact l4⟩
  .exact⟨HD,ar,by show(J.h 15).le HD;rw[G];exact Hl.le_refl _⟩
  .cases ho
  .cases ho
  .cases ho
 .intro r hr ho;simp only[yH,MQ,MV,Nt]at hr;rcases hr with rfl | rfl | rfl | rfl | rfl | rfl | rfl | rfl
  .cases ho
  .cases ho
  .cases ho
  .cases ho
  .cases ho
  .exact⟨R,ar,by show(J.h 16).le R;rw[az];exact Hl.le_refl _⟩
  .exact⟨RA,ar,by show(J.h 17).le RA;rw[aA];exact Hl.le_refl _⟩
  .exact⟨RG,ar,by show(J.h 18).le RG;rw[ag];exact Hl.le_refl _⟩
 .have dD:∀ K:Hl,K.le H->K.dis HD:=fun K hK=>Hl.dis_symm (Hl.dis_le (Hl.dis_symm bt) hK);have aU:yH.mem=[.blk 0 [.hptr (.var 5) (.lit 0),.hptr (.var 6) (.lit 0),.sl (.var 7) (.lit 0) (.var 8) (.var 9),.bool (.bvar 10)] 140,.hp 12 [] [.var 5] [.var 11],.hp 13 [] [.var 6] [.var 11],.hp 14 [] [.var 7] [],.hp 15 [] [.var 11] [],.ro 16 [.var 1] false,.ro 17 [] true,.ro 18 [.lit 3,.lit 4,.lit 5] false]:=rfl;rw[aU];have bu:∀ (l:Mem),(∀ r∈l,r.own=false)->∀ K:Res,∀ r∈l,K.own=true->r.own=true->(K.hl J).dis (r.hl J):=fun l h K r hr _ ho=>by rw[h r hr]at ho;cases ho
  have P:∀ r∈([.ro 16 [.var 1] false,.ro 17 [] true,.ro 18 [.lit 3,.lit 4,.lit 5] false]:Mem),r.own=false:=by
   intro r hr;simp only[MQ,MV,Nt]at hr;rcases hr with rfl | rfl | rfl<;>rfl
  refine List.Pairwise.cons (fun r hr hk ho=>?_) (List.Pairwise.cons (fun r hr hk ho=>?_) (List.Pairwise.cons (fun r hr hk ho=>?_) (List.Pairwise.cons (fun r hr hk ho=>?_) (List.Pairwise.cons (fun r hr hk ho=>bu _ P _ r hr hk ho) (List.Pairwise.cons (fun r hr hk ho=>by cases hk) (List.Pairwise.cons (fun r hr hk ho=>by cases hk) (List.Pairwise.cons (fun r hr=>by cases hr) List.Pairwise.nil)))))))
  .rw[e0];rw[MQ,MQ,MQ,MQ]at hr;rcases hr with rfl | rfl | rfl | rfl | hr
   .show(yk a pa pb sl S.over).dis (J.h 12);rw[af];exact hIn.d1
   .show(yk a pa pb sl S.over).dis (J.h 13);rw[O];exact hIn.d2
   .show(yk a pa pb sl S.over).dis (J.h 14);rw[z];exact hIn.d3
   .show(yk a pa pb sl S.over).dis (J.h 15);rw[G];exact dD _ l1
   .rw[P r hr]at ho;cases ho
  .rw[MQ,MQ,MQ]at hr;show(J.h 12).dis _;rw[af];rcases hr with rfl | rfl | rfl | hr
   .show HA.dis (J.h 13);rw[O];exact hIn.d4
   .show HA.dis (J.h 14);rw[z];exact hIn.d5
   .show HA.dis (J.h 15);rw[G];exact dD _ l2
   .rw[P r hr]at ho;cases ho
  .rw[MQ,MQ]at hr;show(J.h 13).dis _;rw[O];rcases hr with rfl | rfl | hr
   .show HB.dis (J.h 14);rw[z];exact hIn.d6
   .show HB.dis (J.h 15);rw[G];exact dD _ l3
   .rw[P r hr]at ho;cases ho
  .rw[MQ]at hr;show(J.h 14).dis _;rw[z];rcases hr with rfl | hr
   .show HR.dis (J.h 15);rw[G];exact dD _ l4
   .rw[P r hr]at ho;cases ho
 .intro r hr;simp only[yH,MQ,MV,Nt]at hr;rcases hr with rfl | rfl | rfl | rfl | rfl | rfl | rfl | rfl
  .show(0:Int)<=J.i 0;omega
  all_goals trivial
 .refine Walk.read [] [] [] ?_;have fin:∀ (q:Env) (hL hR hK:Nat) (vL vM vR vK:List Nat) (rL rM rR rK kL kM kR kK:List E) (cs:CV) (o rv:E) (t:Mem),Agree 19 J q ->
   LogAt (q.h hL) pa dp (bc D S rows).S.LA (bc D S rows).S.bA->(bc D S rows).S.LB=S.LB/\(bc D S rows).S.bB=S.bB->aM (q.h hR) (cs.ev q) (bc D S rows).S.recs->bev q o=(bc D S rows).S.over->DiskAt (q.h hK) dp (bc D S rows).D->iev q rv=(bc D S rows).e ->
   postOf tl [.pointer (some ⟨a,0,none⟩),.slice (slP x y) us.length c] [H,HD] [R,RA,RG] q (.blk 0 [.hptr (.var 5) (.lit 0),.hptr (.var 6) (.lit 0),cs,.bool o] 140::.hp hL vL rL kL::.hp 13 vM rM kM::.hp hR vR rR kR::.hp hK vK rK kK::t) (.sv (.one (.int .i64 rv))):=by
   intro q hL hR hK vL vM vR vK rL rM rR rK kL kM kR kK cs o rv t hg bw aV bx bz bC heq hd;have g0:q.i 0=a:=by rw[hg.i 0,v0]
   have g5:q.i 5=aa:=by rw[hg.i 5,v5]
   have g6:q.i 6=ab:=by rw[hg.i 6,v6]
   have Q:=an q cs o g0 g5 g6;rw[bz]at Q;refine⟨[[0,1,2,3],[4]],[],rfl,rfl,⟨(ay fun _=>(bc D S rows).e),?_,zzT,zzT⟩,_,_,H,HD,R,RA,RG,dp,S,D,rows,_,_,rfl,rfl,rfl,aR,hD,hB,rfl,?_,?_,?_⟩
   .show Value.int .i64 (iev q rv)=.int .i64 (bc D S rows).e;rw[heq]
   .show DiskAt (hls [q.h hK]) _ _;rw[hls_one];exact bC
   .refine⟨a,pa,pb,cs.ev q,q.h hL,q.h 13,q.h hR,rfl,bw,?_,bx,?_,?_,?_,hd 1 2 _ _ aj rfl rfl rfl,hd 1 3 _ _ aj rfl rfl rfl,hd 2 3 _ _ aj rfl rfl rfl,?_⟩
    .rw[aV.1,aV.2,hg.h 13,O];exact hIn.lb
    .rw[<-Q];exact hd 0 1 _ _ aj rfl rfl rfl
    .rw[<-Q];exact hd 0 2 _ _ aj rfl rfl rfl
    .rw[<-Q];exact hd 0 3 _ _ aj rfl rfl rfl
    .rw[<-Q];rfl
   .show Value.int .i64 (iev q rv)=.int .i64 (bc D S rows).e;rw[heq]
  simp only[go_sem,Nat.reduceAdd,I8,JN,JO,JP,JQ,JR,JS,JT,GC,BB,Lq];have aW:Value.slice (slP (J.i 7) 0) (J.i 8).toNat (J.i 9).toNat=sl:=by rw[v7,v8,v9,MD,MD,N]
  have f:∀ q:Env,Agree 19 J q->LogAt (q.h 12) pa dp S.LA S.bA/\aM (q.h 14) (CV.ev q (.sl (.var 7) (.lit 0) (.var 8) (.var 9))) S.recs/\bev q (.bvar 10)=S.over/\DiskAt (q.h 15) dp D:=by
   intro q hg;refine⟨by rw[hg.h 12,af];exact hIn.la,?_,by rw[bev_bvar,hg.b 10,b10],by rw[hg.h 15,G];exact hD⟩;show aM (q.h 14) (.slice (slP (q.i 7) 0) (q.i 8).toNat (q.i 9).toNat) _;rw[hg.h 14,hg.i 7,hg.i 8,hg.i 9,z,aW];exact hIn.rows
  have same:∀ (q:Env) (e:Int) (rv:E) (t:Mem),Agree 19 J q->bc D S rows=⟨e,D,S⟩->iev q rv=e->postOf tl [.pointer (some ⟨a,0,none⟩),.slice (slP x y) us.length c] [H,HD] [R,RA,RG] q (.blk 0 [.hptr (.var 5) (.lit 0),.hptr (.var 6) (.lit 0),.sl (.var 7) (.lit 0) (.var 8) (.var 9),.bool (.bvar 10)] 140::.hp 12 [] [.var 5] [.var 11]::.hp 13 [] [.var 6] [.var 11]::.hp 14 [] [.var 7] []::.hp 15 [] [.var 11] []::t) (.sv (.one (.int .i64 rv))):=by
   intro q e rv t hg he bD;obtain⟨k1,k2,k3,k4⟩:=f q hg;exact fin q 12 14 15 _ _ _ _ _ _ _ _ _ _ _ _ _ _ rv t hg (by rw[he];exact k1) (by rw[he];exact⟨rfl,rfl⟩) (by rw[he];exact k2) (by rw[he];exact k3) (by rw[he];exact k4) (by rw[he];exact bD)
  have bE:Value.pointer (slP (J.i 0) 0)=.pointer (some ⟨a,0,none⟩):=by rw[v0,aY]
  have bF:Value.slice (slP (J.i 1) (J.i 2)) (J.i 3).toNat (J.i 4).toNat=.slice (slP x y) us.length c:=by rw[v1,v2,v3,v4,MD,MD]
  have aX:(yk a pa pb sl S.over).cell a 3=some (.bool S.over):=by unfold yk;rw[Hl.one_cell];rfl
  have bG:Hl.one (J.i 0).toNat (.cells #[Value.pointer (slP (J.i 5) 0),Value.pointer (slP (J.i 6) 0),Value.slice (slP (J.i 7) 0) (J.i 8).toNat (J.i 9).toNat,Value.bool (bev J (.bvar 10))] 140 (0,0))=yk a pa pb sl S.over:=e0;rw[bE,bF,bG,az,aA];refine⟨⟨_,_,a,S.over,_,R,RA,rows,rfl,rfl,rfl,aX,hB,hlen,av⟩,fun q1 g1 ⟨F1,bH,bI,bJ⟩=>?_⟩;obtain⟨u1,e1,aZ,T,bK⟩:=uu aX hB bH;simp only[Value.tuple.injEq,Nc,MH,Value.int.injEq,Nz,MZ]at aZ;obtain⟨eu,ee⟩:=aZ;have U:-1<=q1.i 19/\0<=q1.i 20/\0<=q1.i 21/\0<=q1.i 22:=bJ.1;refine⟨fun V=>?_,fun V=>same q1 (q1.i 23) _ _ g1 ?_ (iev_var _ _)⟩
  rotate_left
  .rw[ee]at V ⊢;unfold bc;cases ho:S.over with
   | true=>rw[M0 rfl,T.1 ho]
   | false =>
    rw[MM ar];by_cases hk:c9 rows
    .exact absurd (T.2.1 ho hk) V
    .rw[M0 hk,T.2.2 ho hk]
  have bL:e1=0:=by rw[<-ee];exact V
  have ho:¬S.over=true:=fun h=>by have:=T.1 h;omega
  have aB:S.over=false:=N4.2 ho;have hk:c9 rows:=NR fun h=>by have:=T.2.2 aB h;omega
  have a0:OwB (q1.h 19) 5 (.slice (slP (q1.i 19) (q1.i 20)) (q1.i 21).toNat (q1.i 22).toNat) (aH rows):=by rw[bI trivial,eu];exact bK bL
  have bM:q1.i 21=(aH rows).length:=(a0.rd.at U.1 U.2.1 U.2.2.1).1;rw[g1.i 3,v3];refine⟨ae,fun hz=>same q1 0 _ _ g1 ?_ V,fun a3=>⟨ae,?_⟩⟩
  .have hz:(us.length:Int)=0:=hz;have bN:rows.length=0:=by rw[<-aw];omega
   have:rows=[]:=MF.1 bN;unfold bc;rw[MM ho,MM (fun h=>h hk),M0 this]
  have a4:rows≠[]:=fun h=>by
   have a3:¬(us.length:Int)=0:=a3;rw[h]at aw;have:us.length=0:=aw;omega
  have W:∀ q:Env,Agree 19 J q->Value.pointer (slP (q.i 5) 0)=pa:=fun q hg=>by rw[hg.i 5,v5,ea]
  have kA:∀ q:Env,Agree 19 J q->LogAt (q.h 12) pa dp S.LA S.bA:=fun q hg=>(f q hg).1;rw[W q1 g1];refine⟨AM (kA q1 g1).rd aS,fun q2 g2 ⟨F2,bO,_⟩=>?_⟩;have G2:Agree 19 J q2:=g1.tr g2;have a5:q2.i 24=S.LA.most-S.bA.length:=CY (yc (kA q1 g1).rd bO);have ao:q2.i 21=(aH rows).length:=by rw[g2.i 21,bM]
  refine⟨fun aC=>same q2 4 _ _ G2 ?_ (iev_lit _ _),fun aD=>?_⟩
  .rw[a5,ao]at aC;unfold bc;rw[MM ho,MM (fun h=>h hk),MM a4,M0 aC]
  rw[a5,ao]at aD;have hAdd:bc D S rows=tj D S rows (appendR D S.LA S.bA (aH rows) S.LA.note):=by
   unfold bc;rw[MM ho,MM (fun h=>h hk),MM a4,MM aD]
  generalize hr:appendR D S.LA S.bA (aH rows) S.LA.note=r at hAdd;rw[W q2 G2];refine⟨xD (kA q2 G2).rd,fun I g3 ⟨F3,bP,_⟩=>?_⟩;have G3:Agree 19 J I:=G2.tr g3;have bQ:=tP (kA q2 G2).rd bP;have bR:(ckCVs 25 (List.replicate 16 (Ck.int .u8))).map (CV.ev I)=bys S.LA.note:=M4 (Value.agg.inj bQ);have a6:S.LA.note.length=16:=by obtain⟨_,⟨_,_,bS⟩,_⟩:=hIn.la.rd;exact bS.1.note
  have aq:RdW (I.h 19) (.slice (slP (I.i 19) (I.i 20)) (I.i 21).toNat (I.i 22).toNat) (aH rows):=by
   have X:Agree 24 q1 I:=g2.tr g3;rw[X.h 19,X.i 19,X.i 20,X.i 21,X.i 22];exact a0.rd.w
  have a7:DiskAt (I.h 15) dp D:=(f I G3).2.2.2;rw[W I G3,bR];refine⟨⟨_,_,_,_,_,_,_,dp,_,_,_,rfl,rfl,rfl,kA I G3,a7,aq,aS,a6,aT⟩,fun q4 g4 ⟨F4,bT,_⟩=>?_⟩;obtain⟨a8,a9,hK,ah,ai,ba⟩:=qX (kA I G3) a7 aq bT;rw[hr]at ah ai ba;have Y:q4.h 41=a8/\q4.h 42=a9:=by
   have h1:[q4.h 41,q4.h 42]=[a8,a9]:=hK;simpa using h1
  obtain⟨Y,aE⟩:=Y;have bU:q4.i 41=r.e:=by simpa using ba
  have G4:Agree 19 J q4:=G3.tr g4;rw[bU,G4.h 18,ag];refine⟨⟨_,_,RG,g,rfl,rfl,hG⟩,fun q5 g5 ⟨F5,⟨s5,c5,R5,x1,x2,Z⟩,_⟩=>?_⟩;simp only[MH,Value.string.injEq,Value.int.injEq,Nz,MZ]at x1 x2;obtain⟨x1,x3⟩:=x1;subst x1 x2 x3;have Z:fH g (q5.v 44) r.e:=Z g hG;have G5:Agree 19 J q5:=G4.tr g5;have cL:RG.cell (Int.toNat 3) (Int.toNat 0)=some (gv g gQ):=hG.cell gQ (Or.inl rfl);rw[G5.h 18,ag,cL];refine⟨rfl,⟨_,_,RG,g,r.e,gQ,rfl,rfl,hG,Z,Or.inl rfl,rfl⟩,fun q6 g6 ⟨F6,bV,_⟩=>?_⟩;have r6:=tN hG Z (Or.inl rfl) bV;rw[r6];have G6:Agree 19 J q6:=G5.tr g6;have aF:fH g (q6.v 44) r.e:=by rw[g6.v 44];exact Z
  have num:∀ (q7:Env),Agree 46 q6 q7->(∃ F,iO.post [q6.v 44] [] [RG] (.int .i64 (q7.i 46)) [] F/\(cpRoots 0 [Cp.one (Ck.int .i64)]≠[]->q7.h 46=F)/\cpNorms 46 [Cp.one (Ck.int .i64)] q7)->q7.i 46=jb r.e/\Agree 19 J q7/\Agree 43 q4 q7:=by
   intro q7 g7 ⟨F7,⟨e7,R7,x1,x2,h7⟩,_⟩;simp only[MH,MZ]at x1 x2;subst x1 x2;have:=h7 g r.e hG aF;exact⟨by simpa using this,G6.tr g7,(g5.trans ((g6.tr g7).mono ae)).mono ae⟩
  rw[G6.h 18,ag];refine⟨fun A=>⟨⟨_,RG,g,r.e,rfl,rfl,hG,aF⟩,fun q7 g7 aG=>?_⟩,fun A=>⟨⟨_,RG,g,r.e,rfl,rfl,hG,aF⟩,fun q7 g7 aG=>?_⟩⟩
  .obtain⟨n,B,C⟩:=num q7 g7 aG;have u:¬jb r.e=0:=by
    unfold jb;rw[MM A.1,MM (by rw[A.2];decide),MM (by rw[A.2];decide)];decide
   refine⟨fun _=>?_,fun h=>absurd (n.symm.trans h) u⟩;refine fin q7 41 14 42 _ _ _ _ _ _ _ _ _ _ _ _ (.sl (.var 7) (.lit 0) (.var 8) (.var 9)) _ _ _ B ?_ ?_ ?_ ?_ ?_ ?_
   .rw[hAdd,C.h 41,Y];exact ai
   .rw[hAdd];exact⟨rfl,rfl⟩
   .rw[hAdd];unfold tj;rw[MM u];exact(f q7 B).2.1
   .rw[hAdd];show true=(if _ then true else S.over);rw[M0 A]
   .rw[hAdd,C.h 42,aE];exact ah
   .rw[hAdd,iev_var,n];rfl
  .obtain⟨n,B,C⟩:=num q7 g7 aG;refine⟨fun u=>?_,fun bb=>?_⟩
   .refine fin q7 41 14 42 _ _ _ _ _ _ _ _ _ _ _ _ (.sl (.var 7) (.lit 0) (.var 8) (.var 9)) _ _ _ B ?_ ?_ ?_ ?_ ?_ ?_
    .rw[hAdd,C.h 41,Y];exact ai
    .rw[hAdd];exact⟨rfl,rfl⟩
    .rw[hAdd];unfold tj;rw[MM (fun h=>u (n.trans h))];exact(f q7 B).2.1
    .rw[hAdd,(f q7 B).2.2.1];show S.over=(if _ then true else S.over);rw[MM A]
    .rw[hAdd,C.h 42,aE];exact ah
    .rw[hAdd,iev_var,n];rfl
   .clear num;refine⟨⟨0,rfl,NO _,by show -1<=q7.i 7;rw[B.i 7,v7];exact bp,by show 0<=q7.i 8;rw[B.i 8,v8];omega,by show 0<=q7.i 9;rw[B.i 9,v9];omega,?_,?_⟩,fun L g8 ⟨k,ek,kD,bd,aI,cf,bf,ad⟩=>?_⟩
    .show bev q7 (.bvar 10)=false;rw[bev_bvar,B.b 10,b10,aB]
    .show aM (q7.h 14) (.slice (slP (q7.i 7) 0) (q7.i 8).toNat (q7.i 9).toNat) _;rw[B.h 14,B.i 7,B.i 8,B.i 9,z,aW,OH,Nu];exact hIn.rows
    have G8:Agree 19 J L:=B.tr g8;have cg:L.i 62=S.recs.length+k:=by
     have:=(ad.at bd aI).1;rw[MJ,M3]at this;omega
    rw[G8.i 1,G8.i 2,G8.i 3,G8.h 16,G8.h 17,v1,v2,v3,az,aA,ek];refine⟨fun aC=>?_,fun aD=>?_⟩
    .have bW:k<rows.length:=ae;have bg:rows[k]?=some rows[k]:=ME bW;have hu:us[k]?=some us[k]:=ME ae;obtain⟨bX,hc⟩:=ax k _ hu;have aJ:=bo k _ _ hu bg;have N:∃ a l c,us[k]=Value.slice a l c:=(RdW.parts aJ).1;have bY:R.cell x.toNat (y+(k:Int)).toNat=some us[k]:=by rw[show(y+(k:Int)).toNat=y.toNat+k by omega];exact hc
     rw[bY,fC N];refine⟨bX,hy,ae,by obtain⟨_,_,_,e⟩:=N;rw[e];rfl,⟨_,_,RA,rfl,rfl,aJ,NT (hk _ (NM _)) aj⟩,fun q9 g9 ⟨F9,⟨u9,ch,R9,x1,x2,bZ,bh⟩,b0,ak⟩ aK aL _ M bj ⟨b1,au⟩=>?_⟩;simp only[MH,MZ]at x1 x2;subst x1 x2;obtain rfl:=aJ.uniq bZ;rw[<-b0 zzT]at bh;have ak:-1<=q9.i 66/\0<=q9.i 67/\0<=q9.i 68/\0<=q9.i 69:=ak.1;have aN:Agree 66 L aK:=g9.tr aL;have al:Agree 66 L M:=aN.tr bj;have G9:Agree 70 q9 M:=aL.tr bj;have b2:gz (aK.h 66) none (.slice (slP (M.i 66) (M.i 67)) (M.i 68).toNat (M.i 69).toNat) rows[k]:=by
      rw[aL.h 66,G9.i 66,G9.i 67,G9.i 68,G9.i 69];exact gz.of bh.rd.w ak.1 ak.2.1
     rw[b1,aN.h 64,al.i 61,al.i 62,al.i 63];rw[aN.h 64]at au;have bk:∃ xs,OwnsH ((L.h 64).un (aK.h 66)) 22 1 (.slice (slP (L.i 61) 0) (L.i 62).toNat (L.i 63).toNat) (L.i 62).toNat xs:=by
      obtain⟨b3,bl,_⟩:=ad;rw[show(L.i 62).toNat=(S.recs++rows.take k).length by rw[MJ,M3];omega]at bl ⊢;exact⟨b3,bl.mono (Hl.un_left _ _)⟩
     refine⟨⟨bk,aI,by unfold maxLen;omega,ae⟩,fun j b4 ⟨a1,a2,happ,b5,_,b6⟩=>?_⟩;have aO:Agree 66 L j:=al.tr b4;have aP:=kX ad bd aI au b2 a1 happ b5 b6;have b7:j.i 62+1=L.i 62+1:=by rw[aO.i 62]
     have b8:j.i 60=k:=by rw[aO.i 60,ek]
     have bm:IntKind.i64.wrap (j.i 60+1)=(k:Int)+1:=by rw[b8];exact wrap_i64 ae ae
     refine⟨⟨k+1,?_,ae,a1,?_,a2,?_,?_⟩,?_⟩
     .show IntKind.i64.wrap (j.i 60+1)=_;rw[bm];rfl
     .show 0<=j.i 62+1;omega
     .show j.b 65=false;rw[aO.b 65];exact bf
     .show aM (j.h 72) (.slice (slP (j.i 72) 0) (j.i 62+1).toNat (j.i 73).toNat) _;rw[b7,Oh,bg,OT,<-MY];exact aP
     .show((rows.length:Int)-IntKind.i64.wrap (j.i 60+1)).toNat<_;rw[bm];omega
    .have b9:k=rows.length:=ae;subst b9;rw[NZ]at ad;refine fin L 41 64 42 _ _ _ _ _ _ _ _ _ _ _ _ (.sl (.var 61) (.lit 0) (.var 62) (.var 63)) _ _ _ G8 ?_ ?_ ?_ ?_ ?_ ?_
     .rw[hAdd,g8.h 41,C.h 41,Y];exact ai
     .rw[hAdd];exact⟨rfl,rfl⟩
     .rw[hAdd];unfold tj;rw[M0 (n.symm.trans bb)];exact ad
     .rw[bev_bvar,bf,hAdd];show false=(if _ then true else S.over);rw[MM A];exact aB.symm
     .rw[hAdd,g8.h 42,C.h 42,aE];exact ah
     .rw[hAdd,iev_lit];exact(n.symm.trans bb).symm
def cl : Value.pointer (slP (valP (some (Value.pointer (some ⟨a,0,none⟩))) 0) (valP (some (Value.pointer (some ⟨a,0,none⟩))) 1))=.pointer (some ⟨a,0,none⟩):=by
 show Value.pointer (slP ((a:Nat):Int) 0)=_;rw[aY]
def pQ.cells (h:pQ H a dp pa pb sl S):H.cell a 0=some pa/\H.cell a 2=some sl:=by
 unfold Hl.cell;rw[h.blk];exact⟨rfl,rfl⟩
def sQ:Sx.Spec where
 fn:=29
 own:=[]
 rd:=[0]
 res:=[.one .sl]
 pre:=fun xs Hs Rs=>∃ p R dp S,xs=[p]/\Rs=[R]/\fP R p dp S/\S.recs.length<=1000000000/\∀ r∈S.recs,r.length<=1000000
 post:=fun xs Hs Rs v Hs' F=>∃ p R dp S,xs=[p]/\Rs=[R]/\fP R p dp S/\aM F v S.recs
def yo (h:fP R p dp S) (hp:sQ.post [p] [] [R] v K F):aM F v S.recs:=by
 obtain⟨b,R',dp',S',e1,a,h',hv⟩:=hp;simp only[MH,MZ]at e1 a;subst e1 a;obtain⟨_,rfl⟩:=h.uniq h';exact hv
def IN:List Sx.Spec:=[jG]
def Gi:∀ t∈IN,t.OK Tryz.prog:=fun t a=>by
 simp only[IN,MQ,MV,Nt]at a;rw[a];exact mP
def sS:Walk Tryz.prog IN sQ.fn where
 Λ:=fun p=>if xF p then some ⟨0,[(11,TI .i64 (.var 50)),(3,.sv (.one (.sl (.var 53) (.lit 0) (.var 54) (.var 55))))],[(1,.hp 56 [] [.var 53] [])],60⟩else none
 args:=[TP (.var 0) (.lit 0)]
 mem:=[.ro 1 [.var 0] true]
 nv:=2
def Bi:sQ.OK Tryz.prog:=by
 refine Spec.of_fn (Γ:=IN) Gi ?_;rintro xs Hs Rs P al ⟨p,R,dp,S,rfl,rfl,hS,hlen,av⟩;have e0:Hs=[]:=MF.1 P;subst e0;obtain⟨a,pa,pb,sl,rfl,hr⟩:=id hS;have hc:=hr.cells.2;obtain⟨rx,rc,m,rfl⟩:=hr.rows.rep;have Q:=aM.at (l:=(S.recs.length:Int)) (c:=(rc:Int)) (rows:=S.recs) (by rw[MD,MD];exact hr.rows) m ae;refine⟨sS,envI [(a:Int)] false [Hl.none,R],fun _ q=>∃ k:Nat,q.i 50=k/\k<=S.recs.length/\ -1<=q.i 53/\0<=q.i 54/\0<=q.i 55/\aM (q.h 56) (.slice (slP (q.i 53) 0) (q.i 54).toNat (q.i 55).toNat) (S.recs.take k),fun _ q=>(S.recs.length-q.i 50).toNat,?_,⟨?_,?_,?_,?_⟩,(fun _ h=>nomatch h),?_⟩
 .show [Value.pointer (slP (a:Int) 0)]=_;rw[aY]
 .intro r hr ho;simp [sS]at hr;subst hr;cases ho
 .intro r hr ho;simp [sS]at hr;subst hr;exact⟨R,ar,Hl.le_refl _⟩
 .simp [sS]
 .intro r hr;simp [sS]at hr;subst hr;trivial
 .refine Walk.read [] [] [] ?_;generalize v:envI [(a:Int)] false [Hl.none,R]=J;have v0:J.i 0=a:=by rw[<-v];rfl
  have w1:J.h 1=R:=by rw[<-v];rfl
  clear v;have t2:Int.toNat 2=2:=rfl;simp only[go_sem,Nat.reduceAdd,IN,GC,BB,t2];rw[v0,w1,MD,hc,valP_sl2 m];refine⟨ae,rfl,ae,⟨0,rfl,NO _,MT _,MT _,MT _,aM.nil _⟩,fun d g8 ⟨k,ek,kD,x,n,T,g⟩=>?_⟩;have an:d.i 54=k:=by
   have:=(g.at x n).1;rw[M3]at this;omega
  rw[g8.i 0,g8.h 1,v0,w1,ek,MD,hc,valP_sl2 m];refine⟨fun ao=>?_,fun aq=>?_⟩
  .have U:k<S.recs.length:=ae;have D:S.recs[k]?=some S.recs[k]:=ME U;obtain⟨E,u,V,W⟩:=Q.2 k _ D;have y:=W.rd;have F:∃ a l c,u=Value.slice a l c:=(RdW.parts y).1;rw[valP_sl0 m,valP_sl1 E (MT _)];have X:R.cell rx.toNat (0+(k:Int)).toNat=some u:=by rw[show(0+(k:Int)).toNat=k by omega];exact V
   rw[X,fC F];refine⟨E,MT _,ae,by obtain⟨_,_,_,e⟩:=F;rw[e];rfl,⟨_,_,R,rfl,rfl,y,av _ (NM _)⟩,fun G g9 ⟨F9,⟨u9,au,R9,x1,x2,Y,H⟩,Z,o⟩ z A _ f I ⟨aa,t⟩=>?_⟩;simp only[MH,MZ]at x1 x2;subst x1 x2;obtain rfl:=y.uniq Y;rw[<-Z zzT]at H;have o:-1<=G.i 60/\0<=G.i 61/\0<=G.i 62/\0<=G.i 63:=o.1;have B:Agree 60 d z:=g9.tr A;have s:Agree 60 d f:=B.tr I;have O:Agree 64 G f:=A.tr I;have ab:gz (z.h 60) none (.slice (slP (f.i 60) (f.i 61)) (f.i 62).toNat (f.i 63).toNat) S.recs[k]:=by
    rw[A.h 60,O.i 60,O.i 61,O.i 62,O.i 63];exact gz.of H.rd.w o.1 o.2.1
   rw[aa,B.h 56,s.i 53,s.i 54,s.i 55];rw[B.h 56]at t;have K:∃ xs,OwnsH ((d.h 56).un (z.h 60)) 22 1 (.slice (slP (d.i 53) 0) (d.i 54).toNat (d.i 55).toNat) (d.i 54).toNat xs:=by
    obtain⟨ad,L,_⟩:=g;rw[show(d.i 54).toNat=(S.recs.take k).length by rw[M3];omega]at L ⊢;exact⟨ad,L.mono (Hl.un_left _ _)⟩
   refine⟨⟨K,n,by unfold maxLen;omega,ae⟩,fun b af ⟨a1,a2,happ,ag,_,ah⟩=>?_⟩;have M:Agree 60 d b:=s.tr af;have C:=kX g x n t ab a1 happ ag ah;have ai:b.i 54+1=d.i 54+1:=by rw[M.i 54]
   have aj:b.i 50=k:=by rw[M.i 50,ek]
   have N:IntKind.i64.wrap (b.i 50+1)=(k:Int)+1:=by rw[aj];exact wrap_i64 ae ae
   refine⟨⟨k+1,?_,ae,a1,?_,a2,?_⟩,?_⟩
   .show IntKind.i64.wrap (b.i 50+1)=_;rw[N];rfl
   .show 0<=b.i 54+1;omega
   .show aM (b.h 66) (.slice (slP (b.i 66) 0) (b.i 54+1).toNat (b.i 67).toNat) _;rw[ai,Oh,D,OT];exact C
   .show((S.recs.length:Int)-IntKind.i64.wrap (b.i 50+1)).toNat<_;rw[N];omega
  .have ak:k=S.recs.length:=ae;subst ak;rw[NZ]at g;intro _;refine⟨[],[1],rfl,rfl,⟨(ay fun j=>[d.i 53,0,d.i 54,d.i 55].getD j 0),rfl,⟨x,MT _,n,T⟩,zzT⟩,_,R,dp,S,rfl,rfl,hS,?_⟩;show aM (hls [d.h 56]) _ _;rw[hls_one];exact g
def oN:Env:=(ay fun _=>0)
def nS:Mem->Bool
 | []=>true
 | .ro _ _ _::l=>nS l
 | _=>false
def bM {mem:Mem} (h1:∀ r∈mem,∃ k t a,r=.ro k t a) (h2:mem.map (Res.hl J)=Rs):Entry J mem Hs Rs:=by
 refine⟨fun r hr ho=>?_,fun r hr _=>⟨r.hl J,by rw[<-h2];exact Np.2 ⟨r,hr,rfl⟩,Hl.le_refl _⟩,?_,fun r hr=>?_⟩
 .obtain⟨k,t,a,rfl⟩:=h1 r hr;cases ho
 .refine OF.2 fun i j hi b _ ho=>?_;obtain⟨k,t,a,e⟩:=h1 mem[i] (NM hi);rw[e]at ho;cases ho
 .obtain⟨k,t,a,rfl⟩:=h1 r hr;trivial
def xa (hl:R.le R') (h:R.cell b j=some v):R'.cell b j=some v:=by
 unfold Hl.cell at h ⊢;cases a:R b with
 | none=>rw[a]at h;cases h
 | some o=>rw[a]at h;rw[hl _ _ a];exact h
def cD (h:RdW R v bs) (hl:R.le R'):RdW R' v bs:=by
 obtain⟨x,y,c,e,hy,h⟩:=h;exact⟨x,y,c,e,hy,h.imp id fun⟨hx,h⟩=>⟨hx,fun j z hz=>xa hl (h j z hz)⟩⟩
def Dh:List Int:=List.replicate 16 0
def yl (h:6<=m/\m<=16384):bN (newD m)=0/\cU (newD m)=Ie ⟨0,64*(((m/2:Nat):Int)-2),0,0,Dh,false⟩ [] ⟨((m/2:Nat):Int),64*(((m/2:Nat):Int)-2),0,0,Dh,false⟩ []:=by
 have hs:(newD m).n=m:=by
  show sects m=m;unfold sects;omega
 have h1:Holds (newD m) 0 ((m/2:Nat):Int) 0 [] (List.replicate 16 0):=newD_holds ae ae ae;have h2:Holds (newD m) (m/2) ((m/2:Nat):Int) 0 [] (List.replicate 16 0):=newD_holds ae ae ae;have e1:ju (newD m)=⟨0,64*(((m/2:Nat):Int)-2),0,0,Dh,false⟩:=by unfold ju;rw[hs];exact h1.openL
 have a:fp (newD m)=⟨((m/2:Nat):Int),64*(((m/2:Nat):Int)-2),0,0,Dh,false⟩:=by unfold fp;rw[hs];exact h2.openL
 have b:gF (newD m)=[]:=by unfold gF;rw[hs];exact h1.openB
 have c:dj (newD m)=[]:=by unfold dj;rw[hs];exact h2.openB
 refine⟨?_,?_⟩
 .unfold bN;rw[hs,MM ae];rfl
 .unfold cU;rw[e1,a,b,c,MM (by show ¬bigI _<bigI _;exact Qf _)]
def xH:jb 0=0:=rfl
def BI (ho:S.over=false) (hk:c9 rows) (a:rows≠[]) (hr:((aH rows).length:Int)<=S.LA.most-S.bA.length) (he:(appendR D S.LA S.bA (aH rows) S.LA.note).e=0) :
 (bc D S rows).e=0/\(bc D S rows).D=(appendR D S.LA S.bA (aH rows) S.LA.note).D/\(bc D S rows).S=⟨(appendR D S.LA S.bA (aH rows) S.LA.note).L,(appendR D S.LA S.bA (aH rows) S.LA.note).bs,S.LB,S.bB,S.recs++rows,false⟩:=by
 have e:bc D S rows=tj D S rows (appendR D S.LA S.bA (aH rows) S.LA.note):=by
  unfold bc;rw[MM (by rw[ho];simp),MM (fun h=>h hk),MM a,MM ae]
 rw[e];unfold tj;rw[he,xH,M0 rfl,MM (fun h=>h.1 rfl),ho];exact⟨rfl,rfl,rfl⟩
def uJ (f:DiskAt H dp D) (hp:kY.post [dp] [H] [] v [H'] F):∃ a,DiskAt H' dp D/\v=.tuple #[a,.int .i64 (bN D)]/\(bN D=0->cW F a dp (cU D))/\(bN D≠0->a=.pointer none):=by
 obtain⟨dp',g,D',h,a,e1,d,b,e,c,hv,h1,h2⟩:=hp;simp only[MH,MZ]at e1 d e;subst e1 d e;obtain rfl:=b.uniq f;exact⟨a,c,hv,h1,h2⟩
def yI {c a RA RG:Hl} (h1:cW H p dp S) (h2:DiskAt c dp D) (h:dz R RA u rows) (hp:tl.post [p,u] [H,c] [R,RA,RG] v [H',a] F) :
 DiskAt a dp (bc D S rows).D/\cW H' p dp (bc D S rows).S/\v=.int .i64 (bc D S rows).e:=by
 obtain⟨w,x,y,i,z,j,k,dp',S',D',b,A,l,e1,d,f,k1,k2,k3,g,k4,k5,hv⟩:=hp;simp only[MH,MZ]at e1 d f g;obtain⟨a1,a2⟩:=e1;obtain⟨m,n⟩:=d;obtain⟨o,q,r⟩:=f;obtain⟨s,t⟩:=g;subst a1 a2 m n o q r s t;obtain⟨rfl,rfl⟩:=h1.rd.uniq k1.rd;obtain rfl:=h2.uniq k2;obtain rfl:=h.uniq k3;exact⟨k4,k5,hv⟩
def yes (fn:FuncId) (pre:List Value->List Hl->Prop) (rd:List Nat):Sx.Spec where
 fn:=fn
 own:=[]
 rd:=rd
 res:=[.one .bool]
 pre:=fun xs Hs Rs=>pre xs Rs
 post:=fun xs Hs Rs v Hs' F=>v=.bool true
end Go.Proofs.YtbdikjnpbnobcaaGreatDoor
namespace Go.Proofs.YtbdikjnpbnobcaaGreatDoor.D
open Go Go.Sx
variable {D D':DM}{i n:Int}{all b bs nt nt':List Int}{frm j k:Nat}
def sB (h:D.ok) (hi:D.has i=true) (hb:bs.length=64) (a:¬(64*i.toNat<=j/\j<64*i.toNat+64)):(putD D i bs).now[j]?=D.now[j]?:=by
 rw[putD_get h hi hb,MM a]
def tD (frm:Nat) (all:List Int) (B:Nat):∀ (f i:Nat) (D:DM),Sure D->all.length+1<=f+i->all.length+64*(frm+2)<=64*D.n->64*(frm+2)+all.length<=64*B ->
 ∀ j,(j<64*frm\/64*B<=j)->(fillGo frm all f i D).2.now[j]?=D.now[j]?:=by
 intro f
 induction f with
 | zero =>
  intro i D h h1 h2 b j c;show(syncR D).2.now[j]?=_;rw[(syncR_sure h).2.2.1]
 | succ f ih =>
  intro i D h h1 h2 b j c;have d:(frm:Int)+2+i=((frm+2+i:Nat):Int):=ae;by_cases a:64*i<all.length
  .have hi:D.has ((frm:Int)+2+i)=true:=by unfold DM.has;simp only[MI];omega
   have hw:=writeR_sure h hi (secA_length all i);have e:fillGo frm all (f+1) i D=fillGo frm all f (i+1) (putD D ((frm:Int)+2+i) (secA all i)):=by
    show(if 64*i<all.length then _ else _)=_;rw[M0 a,hw];simp
   rw[e,ih (i+1) _ (putD_sure h hi (secA_length all i)) ae h2 b j c,sB h.ok hi (secA_length all i)];rw[d,MD];omega
  .have e:fillGo frm all (f+1) i D=syncR D:=by
    show(if 64*i<all.length then _ else _)=_;rw[MM a]
   rw[e,(syncR_sure h).2.2.1]
def Holds.out (h:Holds D frm n k all nt) (hb:(all.length:Int)+b.length<=64*(n-2)) (hk:k<1000000) (l:nt'.length=16) :
 (appendR D ⟨frm,64*(n-2),k,all.length,nt,false⟩ all b nt').D.n=D.n/\∀ j:Nat,((j:Int)<64*frm\/64*(frm+n)<=(j:Int))->(appendR D ⟨frm,64*(n-2),k,all.length,nt,false⟩ all b nt').D.now[j]?=D.now[j]?:=by
 obtain⟨r1,r2⟩:=h.rng;have w:=h.sure.ok.n;have x:(all++b).length=all.length+b.length:=MJ;obtain⟨L,e⟩:∃ L:LM,L=⟨frm,64*(n-2),k,all.length,nt,false⟩:=⟨_,rfl⟩;rw[<-e];have f1:L.frm=frm:=by rw[e]
 have f2:L.most=64*(n-2):=by rw[e]
 have f3:L.serial=k:=by rw[e]
 have f4:L.over=false:=by rw[e]
 obtain⟨F,v⟩:∃ F,F=(fillR D L.frm (all++b) all.length).2:=⟨_,rfl⟩;obtain⟨a1,a2,g,_,_⟩:=fillGo_sure frm (all++b) ((all++b).length+1) (all.length/64) D h.sure ae ae;have m:=tD frm (all++b) (frm+n.toNat) ((all++b).length+1) (all.length/64) D h.sure ae ae ae;have o:fillR D L.frm (all++b) all.length=fillGo frm (all++b) ((all++b).length+1) (all.length/64) D:=by
  unfold fillR;rw[f1,show(((all.length:Nat):Int)/64).toNat=all.length/64 by omega]
 rw[<-o]at a1 a2 g m;rw[<-v]at a2 g m;obtain⟨N,hN⟩:∃ N,N=newH L (all++b) nt':=⟨_,rfl⟩;have eN:N=((k+1:Nat):Int)::((all++b).length:Int)::nt':=by
  rw[hN];unfold newH;rw[f3];rfl
 have hp:((k+1:Nat):Int).tmod 2=(((k+1)%2:Nat):Int):=by
  rw[OC ae];omega
 obtain⟨p,r⟩:∃ p,p=(k+1)%2:=⟨_,rfl⟩;have y:p<2:=ae;obtain⟨b1,_⟩:=half_head (a:=((k+1:Nat):Int)) (b:=((all++b).length:Int)) (nt:=nt') ⟨ae,ae⟩ ⟨ae,ae⟩ l;rw[<-eN]at b1;have d:(halfL N++halfL N).length=64:=by rw[MJ,b1]
 have z:∀ q:Nat,(frm:Int)+((q:Nat):Int)=((frm+q:Nat):Int):=fun q=>ae;have c:F.has ((frm:Int)+(p:Int))=true:=by unfold DM.has;rw[g];simp only[MI];omega
 have hw:=writeR_sure a2 c d;obtain⟨G,i⟩:∃ G,G=putD F ((frm:Int)+(p:Int)) (halfL N++halfL N):=⟨_,rfl⟩;rw[<-i]at hw;have s:Sure G:=by rw[i];exact putD_sure a2 c d
 have t:G.n=D.n:=by rw[i,<-g];rfl
 obtain⟨s1,s2,A,B⟩:=syncR_sure s;have u:turnR F L.frm N=syncR G:=by
  unfold turnR;have e0:N.getD 0 0=((k+1:Nat):Int):=by rw[eN];rfl
  rw[f1,e0,hp,<-r,hw];simp
 have f:becomeR D L (all++b) nt' all.length=(0,(syncR G).2):=by
  unfold becomeR;rw[MM (by rw[a1];simp),<-v,<-hN,u,MM (by rw[s1];simp)]
 have happ:appendR D L all b nt'=⟨0,(syncR G).2,grownL L (all++b) nt',all++b⟩:=by
  unfold appendR;rw[f4,f3,f2,MM ar,MM ae,MM ae,f];rfl
 rw[happ];refine⟨B.trans t,fun j C=>?_⟩;show(syncR G).2.now[j]?=_;rw[A,i,sB a2.ok c d (by rw[z p,MD];omega)];exact m j ae
def Holds.keep (h:Holds D frm n k all nt) (hs:Sure D') (hn:D'.n=D.n) (a:∀ j:Nat,64*(frm:Int)<=j->(j:Int)<64*(frm+n)->D'.now[j]?=D.now[j]?):Holds D' frm n k all nt:=by
 obtain⟨r1,r2⟩:=h.rng;have hl:=h.len;have rd:∀ q:Nat,q<2->lreadR D' frm (64*(n-2)) (q:Int)=lreadR D frm (64*(n-2)) (q:Int):=by
  intro q d;refine lread_same h.sure hs hn (by unfold DM.has;simp only[MI];omega) (sector_same fun j h1 h2=>a j ?_ ?_)
  .omega
  .omega
 refine⟨hs,⟨r1,by rw[hn];exact r2⟩,hl,h.note,?_,?_,fun t z b=>?_⟩
 .rw[rd _ ae];exact h.cur
 .have e1:lreadR D' frm (64*(n-2)) 1=lreadR D frm (64*(n-2)) 1:=rd 1 ae;rw[rd _ ae,e1];exact h.oth
 .have c:=(MK.1 b).1;rw[a _ ae ae];exact h.bytes t z b
end Go.Proofs.YtbdikjnpbnobcaaGreatDoor.D
namespace Go.Proofs.YtbdikjnpbnobcaaGreatDoor
open Go Go.Sx Go.Pk
open Go.Proofs.YtbdikjnpbnobcaaGreatDoor.D hiding envI noLoops numS
variable {D:DM}{g:Int}{rows:List (List Int)}{K K' m n:Nat}{S:SM}
def Df {r rest:List Int} (h:r.length<=4096):tx (ak r++rest)=(r,rest,false):=by
 have e:aJ (ak r++rest)=(r.length,(aq r.length).length):=by
  unfold aJ ak;rw[MY,kJ ae];rfl
 have hp:=jX r.length;unfold tx bW;rw[e,MM]
 .show(((ak r++rest).drop (aq r.length).length).take r.length,(ak r++rest).drop ((aq r.length).length+r.length),false)=_;unfold ak;rw[MY,OY rfl,OZ rfl,<-OO,OY rfl,OY rfl]
 .show ¬(false=true\/(aq r.length).length=0\/(4096:Int)<0\/min (min 4096 4096) (((ak r++rest).length:Int)-((aq r.length).length:Nat))<((r.length:Nat):Int));have:(ak r++rest).length=(aq r.length).length+r.length+rest.length:=by unfold ak;simp;omega
  rw[this];simp only[NI,false_or];omega
def ua (r:List Int) (rows:List (List Int)):aH (r::rows)=ak r++aH rows:=rfl
def qu (a b:List (List Int)):aH (a++b)=aH a++aH b:=by unfold aH;rw[M9,O8]
def lT:∀ {rows:List (List Int)},c9 rows->db (aH rows)=rows
 | [],_=>rfl
 | r::rows,h=>by
  have hr:=h r (Nh ..);have hp:=jX r.length;rw[ua,pI (by intro e;have:=Ns List.length e;unfold ak at this;rw[MJ,MJ]at this;simp only[N0]at this;omega),Df hr,MM ar];show r::db (aH rows)=_;rw[lT fun s hs=>h s (MW _ hs)]
def se (h:∀ r∈rows,ah r):ah (aH rows):=by
 intro z hz;unfold aH at hz;obtain⟨l,hl,hz⟩:=Pn.1 hz;obtain⟨r,hr,rfl⟩:=Np.1 hl;unfold ak at hz;rcases Nb.1 hz with h1 | h1
 .exact po _ z h1
 .exact h r hr z h1
structure SP (D:DM) (S:SM) (n:Nat) (g:Int) (K:Nat) where
 fA:Nat
 kA:Nat
 ntA:List Int
 fB:Nat
 kB:Nat
 ntB:List Int
 hn:D.n/2=n
 n3:3<=n
 place:(fA=0/\fB=n/\bigI (ntB.take 8)<=g)\/(fA=n/\fB=0/\bigI (ntB.take 8)<g)
 hA:Holds D fA n kA S.bA ntA
 hB:Holds D fB n kB S.bB ntB
 eA:S.LA=⟨fA,64*((n:Int)-2),kA,S.bA.length,ntA,false⟩
 eB:S.LB=⟨fB,64*((n:Int)-2),kB,S.bB.length,ntB,false⟩
 pk:S.bA=aH S.recs
 ok:c9 S.recs
 ov:S.over=false
 gen:bigI (ntA.take 8)=g
 g0:0<=g/\g<=K
 kK:kA<=K/\kB<=K
 loose:D.loose=[]
 b1:ah S.bA
 b2:ah S.bB
def SP.open (h:SP D S n g K):bN D=0/\cU D=S/\ah (gF D)/\ah (dj D):=by
 obtain⟨fA,kA,ntA,fB,kB,ntB,hn,n3,place,hA,hB,eA,eB,pk,ok,ov,gen,g0,kK,loose,b1,b2⟩:=h;have e:bN D=0:=by
  unfold bN;rw[hn,hA.sure.gone,MM ae];rfl
 have a:S=Ie S.LA S.bA S.LB S.bB:=by
  unfold Ie;rw[pk,lT ok,<-pk,<-ov]
 have f:js S.LA=g:=by unfold js;rw[eA];exact gen
 rcases place with ⟨rfl,rfl,hg⟩ | ⟨rfl,rfl,hg⟩
 .have e1:ju D=S.LA:=by unfold ju;rw[hn,eA];exact hA.openL
  have d:fp D=S.LB:=by unfold fp;rw[hn,eB];exact hB.openL
  have b:gF D=S.bA:=by unfold gF;rw[hn];exact hA.openB
  have c:dj D=S.bB:=by unfold dj;rw[hn];exact hB.openB
  refine⟨e,?_,by rw[b];exact b1,by rw[c];exact b2⟩;unfold cU;rw[e1,d,b,c,f,MM (by show ¬g<js S.LB;unfold js;rw[eB];show ¬g<bigI (ntB.take 8);omega)];exact a.symm
 .have e1:ju D=S.LB:=by unfold ju;rw[hn,eB];exact hB.openL
  have d:fp D=S.LA:=by unfold fp;rw[hn,eA];exact hA.openL
  have b:gF D=S.bB:=by unfold gF;rw[hn];exact hB.openB
  have c:dj D=S.bA:=by unfold dj;rw[hn];exact hA.openB
  refine⟨e,?_,by rw[b];exact b2,by rw[c];exact b1⟩;unfold cU;rw[e1,d,b,c,f,M0 (by show js S.LB<g;unfold js;rw[eB];exact hg)];exact a.symm
def SP.more (h:SP D S n g K) (hK:K<=K'):SP D S n g K' :=
 {h with g0:=⟨h.g0.1,by have:=h.g0.2;omega⟩,kK:=⟨by have:=h.kK.1;omega,by have:=h.kK.2;omega⟩}
def SP.apart (h:SP D S n g K):(h.fA:Int)+n<=h.fB\/(h.fB:Int)+n<=h.fA:=by
 rcases h.place with ⟨h1,h2,_⟩ | ⟨h1,h2,_⟩<;>omega
def SP.add (h:SP D S n g K) (hk:c9 rows) (hr:((aH rows).length:Int)<=64*((n:Int)-2)-S.bA.length) (hb:∀ r∈rows,ah r) (hK:K<1000000) :
 (bc D S rows).e=0/\(bc D S rows).S.recs=S.recs++rows/\Nonempty (SP (bc D S rows).D (bc D S rows).S n g (K+1)):=by
 by_cases c:rows=[]
 .subst c;have e:bc D S []=⟨0,D,S⟩:=by
   unfold bc;rw[MM (by rw[h.ov];simp),MM (fun h'=>h' hk),M0 rfl]
  rw[e];exact⟨rfl,(Nu _).symm,⟨h.more ae⟩⟩
 have a:((S.bA.length:Nat):Int)+((aH rows).length:Nat)<=64*((n:Int)-2):=ae;have d:h.kA<1000000:=by have:=h.kK.1;omega
 obtain⟨a1,a2,i,k⟩:=h.hA.append (b:=aH rows) (nt':=h.ntA) a d h.hA.note;obtain⟨o1,o2⟩:=h.hA.out (b:=aH rows) (nt':=h.ntA) a d h.hA.note;rw[<-h.eA]at a1 a2 i k o1 o2;have eN:S.LA.note=h.ntA:=by rw[h.eA]
 have eM:S.LA.most=64*((n:Int)-2):=by rw[h.eA]
 obtain⟨c1,c2,c3⟩:=BI (D:=D) (S:=S) (rows:=rows) h.ov hk c (by rw[eM];exact hr) (by rw[eN];exact a1);rw[eN]at c2 c3;have f:S.bA++aH rows=aH (S.recs++rows):=by rw[h.pk,qu]
 refine⟨c1,by rw[c3],⟨?_⟩⟩;rw[c2,c3,i,k];refine⟨h.fA,h.kA+1,h.ntA,h.fB,h.kB,h.ntB,by rw[o1];exact h.hn,h.n3,h.place,a2,h.hB.keep a2.sure o1 fun j h1 h2=>o2 j ?_,rfl,h.eB,f,fun r hr=>?_,rfl,h.gen,⟨h.g0.1,by have:=h.g0.2;omega⟩,⟨by have:=h.kK.1;omega,by have:=h.kK.2;omega⟩,pR a1,fun z hz=>?_,h.b2⟩
 .rcases h.apart with hp | hp<;>omega
 .rcases Nb.1 hr with h1 | h1
  .exact h.ok r h1
  .exact hk r h1
 .rcases Nb.1 hz with h1 | h1
  .exact h.b1 z h1
  .exact se hb z h1
def SP.new (h:6<=m/\m<=16384):Nonempty (SP (newD m) (cU (newD m)) (m/2) 0 0)/\(cU (newD m)).recs=[]/\bN (newD m)=0:=by
 obtain⟨e1,a⟩:=yl h;rw[a];have hn:(newD m).n=m:=by show sects m=m;unfold sects;omega
 have hA:Holds (newD m) 0 ((m/2:Nat):Int) 0 [] Dh:=newD_holds ae ae ae;have hB:Holds (newD m) (m/2) ((m/2:Nat):Int) 0 [] Dh:=newD_holds ae ae ae;have hz:bigI (Dh.take 8)=0:=by decide
 exact⟨⟨⟨0,0,Dh,m/2,0,Dh,by rw[hn],ae,Or.inl ⟨rfl,rfl,by rw[hz];exact MT 0⟩,hA,hB,rfl,rfl,rfl,fun r hr=>(by cases hr),rfl,hz,⟨MT 0,MT 0⟩,⟨M1 _,M1 _⟩,rfl,fun z hz=>(by cases hz),fun z hz=>(by cases hz)⟩⟩,rfl,e1⟩
end Go.Proofs.YtbdikjnpbnobcaaGreatDoor
namespace Go.Proofs.YtbdikjnpbnobcaaGreatDoor
open Go Go.Sx Go.Pk
open Go.Proofs.YtbdikjnpbnobcaaGreatDoor.D (bigI bigB bigI_take)
abbrev oH:Ck:=.int .u32
def IY (xs:List Value):Value:=match xs with
 | [.int _ x,.int _ n]=>.int .u32 (aN n.toNat x)
 | _=>.bool false
def IZ (xs:List Value):Prop:=match xs with
 | [.int _ x,.int _ n]=>okW x/\0<=n/\n<=32
 | _=>False
def turnS:Sx.Spec:=pureS 101 [.one oH,.one (.int .i64)] [.one oH] IZ IY
def turnW:Walk Tryz.prog [] 101 where
 Λ:=fun p=>if lp p then some ⟨0,[(0,.sv (.one (.int .u32 (.var 10)))),(5,TI .i64 (.var 11))],[],20⟩else none
 args:=(cpSVs 0 [.one oH,.one (.int .i64)]).map .sv
 mem:=[]
 nv:=2
def pt (z:Int):∃ J:Env,Value.int .u32 z=((cpTV 0 [.one oH]).ev J)/\cpNorms 0 [.one oH] J:=⟨(ay fun _=>z),rfl,zzT,zzT⟩
def turnS_ok:turnS.OK Tryz.prog:=by
 refine pure_of (fun t h=>by cases h) turnW rfl rfl rfl (fun q _ hN=>?_) (fun q o hN=>⟨fun _ e=>∃ k:Nat,e.i 11=k/\(k:Int)<=q.i 1/\e.i 10=aN k (q.i 0),fun _ e=>(q.i 1-e.i 11).toNat,?_⟩)
 .obtain⟨J,h1,h2⟩:=pt (aN (q.i 1).toNat (q.i 0));exact⟨J,h1,h2⟩
 .have hN:okW (q.i 0)/\0<=q.i 1/\q.i 1<=32:=hN;obtain⟨h0,h1,h2⟩:=hN;refine Walk.read [] [] [] ?_;simp only[go_sem,Nat.reduceAdd];refine⟨⟨0,rfl,h1,rfl⟩,fun e g ⟨k,f,hk,c⟩=>?_⟩;rw[g.i 1,f];refine⟨fun l=>⟨⟨k+1,?_,ae,?_⟩,?_⟩,fun n=>?_⟩
  .show IntKind.i64.wrap (e.i 11+1)=_;rw[f,wrap_i64 ae ae];rfl
  .show IntKind.u32.wrap (IntKind.u32.wrap ((e.i 10).tdiv 2)+IntKind.u32.wrap ((e.i 10).tmod 2*2147483648))=jl (aN k (q.i 0));have hx:=sX h0 k ae;have hy:=sX h0 (k+1) ae;rw[c];have hy:okW (jl (aN k (q.i 0))):=hy;generalize aN k (q.i 0)=x at hx hy;unfold okW at hx hy;unfold jl at hy ⊢;have d:x.tdiv 2=x/2:=PC hx.1;have m:x.tmod 2=x%2:=OC hx.1;rw[d,m];have a:=oy (x:=x/2) ⟨ae,ae⟩;have b:=oy (x:=x%2*2147483648) ⟨ae,ae⟩;unfold dd at a b;rw[a,b];exact oy hy
  .show(q.i 1-IntKind.i64.wrap (e.i 11+1)).toNat<(q.i 1-(k:Int)).toNat;rw[f,wrap_i64 ae ae];omega
  .have j:(k:Int)=q.i 1:=ae;show Value.int .u32 (e.i 10)=Value.int .u32 (aN (q.i 1).toNat (q.i 0));rw[c,<-j,MD]
def IF (xs:List Value):Value:=match xs with
 | [.int _ x,.int _ n]=>.int .u32 (aN (-n).toNat x)
 | _=>.bool false
def Lh (xs:List Value):Prop:=match xs with
 | [.int _ x,.int _ n]=>okW x/\n∈([-2,-6,-7,-11,-13,-17,-18,-19,-22,-25]:List Int)
 | _=>False
def AS:Sx.Spec:=pureS 165 [.one oH,.one (.int .i64)] [.one oH] Lh IF
def Li:Walk Tryz.prog [] 165 where
 Λ:=noLoops
 args:=(cpSVs 0 [.one oH,.one (.int .i64)]).map .sv
 mem:=[]
 nv:=2
def FZ {n:Nat} (h1:1<=n) (h2:n<=31) {x:Int} (hx:okW x) {s r:Int} (hs:s=((32-n:Nat):Int)) (hr:r=(n:Int)):bitsI .or .u32 (IntKind.u32.wrap (x*2 ^ (min s.toNat IntKind.u32.bits))) (x.fdiv (2 ^ (min r.toNat IntKind.u32.bits)))=aN n x:=by
 subst hs hr;have a:min ((32-n:Nat):Int).toNat IntKind.u32.bits=32-n:=by show min _ 32=_;omega
 have b:min ((n:Nat):Int).toNat IntKind.u32.bits=n:=by show min _ 32=_;omega
 rw[a,b];exact AT hx h1 h2
def wz:AS.OK Tryz.prog:=by
 refine pure_of (fun t h=>by cases h) Li rfl rfl rfl (fun q _ hN=>?_) (fun q a hN=>⟨fun _ _=>True,fun _ _=>0,?_⟩)
 .obtain⟨J,h1,h2⟩:=pt (aN (-(q.i 1)).toNat (q.i 0));exact⟨J,h1,h2⟩
 .have hN:okW (q.i 0)/\q.i 1∈([-2,-6,-7,-11,-13,-17,-18,-19,-22,-25]:List Int):=hN;obtain⟨h0,h1⟩:=hN;refine Walk.read [] [] [] ?_;simp only[go_sem,Nat.reduceAdd];have key:∀ k:Nat,1<=k->k<=31->q.i 1= -(k:Int)->bitsI .and .u64 (IntKind.u64.wrap (-(k:Int))) 31=((32-k:Nat):Int) ->
   0<=bitsI .and .u64 (IntKind.u64.wrap (q.i 1)) 31 /\
   Value.int .u32 (bitsI .or .u32 (IntKind.u32.wrap (q.i 0*2 ^ (min (bitsI .and .u64 (IntKind.u64.wrap (q.i 1)) 31).toNat IntKind.u32.bits))) ((q.i 0).fdiv (2 ^ (min (IntKind.u64.wrap (32-bitsI .and .u64 (IntKind.u64.wrap (q.i 1)) 31)).toNat IntKind.u32.bits))))=Value.int .u32 (aN (-(q.i 1)).toNat (q.i 0)):=by
   intro k k1 k2 e hb;rw[e,hb];have hw:IntKind.u64.wrap (32-((32-k:Nat):Int))=k:=by rw[iG ae ae];omega
   rw[hw,FZ k1 k2 h0 rfl rfl];exact⟨ae,by rw[show(-(-(k:Int))).toNat=k by omega]⟩
  simp only[MQ,MV,Nt]at h1;rcases h1 with h | h | h | h | h | h | h | h | h | h
  .exact key 2 aj aj h aj
  .exact key 6 aj aj h aj
  .exact key 7 aj aj h aj
  .exact key 11 aj aj h aj
  .exact key 13 aj aj h aj
  .exact key 17 aj aj h aj
  .exact key 18 aj aj h aj
  .exact key 19 aj aj h aj
  .exact key 22 aj aj h aj
  .exact key 25 aj aj h aj
end Go.Proofs.YtbdikjnpbnobcaaGreatDoor
namespace Go.Proofs.YtbdikjnpbnobcaaGreatDoor
open Go Go.Sx Go.Pk
open Go.Proofs.YtbdikjnpbnobcaaGreatDoor.D (bigI bigB bigI_take bigB_add)
variable {F R:Hl}{a d x y' z:Int}{bs l:List Int}{b c j k n o y:Nat}{T:TypeId}
def rC:Sx.Spec where
 fn:=187
 own:=[]
 rd:=[0]
 res:=[.one (.int .u64)]
 pre:=fun xs Hs Rs=>∃ u bs R,xs=[u]/\Rs=[R]/\RdW R u bs/\bs.length<=1000
 post:=fun xs Hs Rs v Hs' F=>∃ u bs R,xs=[u]/\Rs=[R]/\RdW R u bs/\v=.int .u64 (bigI bs)
def rD:Walk Tryz.prog [] rC.fn where
 Λ:=fun p=>if lp p then some ⟨0,[(3,TI .u64 (.var 10)),(8,TI .i64 (.var 11))],[],12⟩else none
 args:=[.sv (.one (.sl (.var 0) (.var 1) (.var 2) (.var 3)))]
 mem:=[.ro 4 [.var 0] true]
 nv:=5
def Ce (bs:List Int) (_:Nat) (q:Env):Prop:=∃ k:Nat,k<=bs.length/\q.i 11=k/\q.i 10=bigI (bs.take k)
def zB:rC.OK Tryz.prog:=by
 refine Spec.of_fn (Γ:=[]) (fun _ h=>by cases h) ?_;rintro xs Hs Rs m s ⟨u,bs,R,rfl,rfl,⟨x,y,l,rfl,hy,n⟩,hlen⟩;have e0:Hs=[]:=MF.1 m;subst e0;refine⟨rD,envI [x,y,bs.length,l] false [Hl.none,Hl.none,Hl.none,Hl.none,R],Ce bs,fun _ q=>(bs.length-q.i 11).toNat,?_,⟨?_,?_,?_,?_⟩,(fun _ h=>nomatch h),?_⟩
 .show [Value.slice (slP x y) ((bs.length:Int)).toNat ((l:Int)).toNat]=_;rw[MD,MD]
 .intro r hr ho;simp [rD]at hr;subst hr;cases ho
 .intro r hr ho;simp [rD]at hr;subst hr;exact⟨R,ar,Hl.le_refl _⟩
 .simp [rD]
 .intro r hr;simp [rD]at hr;subst hr;trivial
 .refine Walk.read [] [] [] ?_;generalize a:envI [x,y,bs.length,l] false [Hl.none,Hl.none,Hl.none,Hl.none,R]=J;have v0:J.i 0=x:=by rw[<-a];rfl
  have v1:J.i 1=y:=by rw[<-a];rfl
  have v2:J.i 2=bs.length:=by rw[<-a];rfl
  have o:J.h 4=R:=by rw[<-a];rfl
  simp only[go_sem,Nat.reduceAdd];rw[v2];refine⟨ae,⟨0,ae,rfl,rfl⟩,fun q g ⟨k,hk,b,c⟩=>?_⟩;rw[g.i 0,g.i 1,g.i 2,g.h 4,v0,v1,v2,o,b];refine⟨fun t=>?_,fun v=>?_⟩
  .have d:k<bs.length:=ae;have f:0<=x/\∀ j z,bs[j]?=some z->R.cell x.toNat (y.toNat+j)=some (.int .u8 z):=by
    rcases n with h | h
    .subst h;simp at d
    .exact h
   have p:R.cell x.toNat (y+k).toNat=some (.int .u8 bs[k]):=by
    rw[show(y+(k:Int)).toNat=y.toNat+k by omega];exact f.2 _ _ (ME d)
   rw[p];refine⟨f.1,hy,ae,rfl,⟨k+1,ae,?_,?_⟩,?_⟩
   .show IntKind.i64.wrap (q.i 11+1)=_;rw[b];exact wrap_i64 ae ae
   .show bigB (q.i 10) (valI ((q.h 4).cell (q.i 0).toNat (q.i 1+q.i 11).toNat))=_;rw[c,g.i 0,g.i 1,g.h 4,v0,v1,o,b,p,bigI_take bs k d];rfl
   .show((bs.length:Int)-IntKind.i64.wrap (q.i 11+1)).toNat<_;rw[b,wrap_i64 ae ae];omega
  .have e:k=bs.length:=ae;subst e;rw[NZ]at c;refine fun _=>⟨[],[],rfl,rfl,⟨(ay fun _=>q.i 10),rfl,zzT,zzT⟩,_,bs,R,rfl,rfl,⟨x,y,l,rfl,hy,n⟩,?_⟩;show Value.int .u64 (q.i 10)=_;rw[c]
def J3 {b c:Int} (e:0<=a/\a<256) (hb:0<=b/\b<256) (f:0<=c/\c<256) (hd:0<=d/\d<256):bigI [a,b,c,d]=a*16777216+b*65536+c*256+d:=by
 show bigB (bigB (bigB (bigB 0 a) b) c) d=_;have e1:bigB 0 a=a:=by rw[bigB_add ae ae e.1 e.2];omega
 rw[e1,bigB_add (n:=a) (c:=b) e.1 ae hb.1 hb.2];rw[bigB_add (n:=a*256+b) (c:=c) ae ae f.1 f.2];rw[bigB_add (n:=(a*256+b)*256+c) (c:=d) ae ae hd.1 hd.2];omega
def B9 (hl:bs.length=64) (hk:k<16):(bs.drop (4*k)).take 4=[bs.getD (4*k) 0,bs.getD (4*k+1) 0,bs.getD (4*k+2) 0,bs.getD (4*k+3) 0]:=by
 apply Ni;intro j;rw[NB];have key:∀ i,i<4->(bs.drop (4*k))[i]?=some (bs.getD (4*k+i) 0):=fun i hi=>by
  rw[Nm,MR,ME ae];rfl
 match j with
 | 0=>exact key 0 ae
 | 1=>exact key 1 ae
 | 2=>exact key 2 ae
 | 3=>exact key 3 ae
 | j+4=>rw[MM ae];rfl
def yx (hl:bs.length=64) (hb:ah bs) (hk:k<16):IntKind.u32.wrap (bigI ((bs.drop (4*k)).take 4))=wR bs k:=by
 have g:∀ i,i<64->0<=bs.getD i 0/\bs.getD i 0<256:=fun i hi=>by
  rw[MR,ME ae,Oe];exact hb _ (NM _)
 rw[B9 hl hk,J3 (g _ ae) (g _ ae) (g _ ae) (g _ ae)];rfl
def wo {y:Int} {l:Nat} (h:RdW R (.slice (slP x y) l c) bs) (hx:-1<=x) (hy:0<=y) (hn:o+n<=bs.length) (b:n=0\/y'=y+o) (h0:0<=y') (c':Nat):RdW R (.slice (slP x y') n c') ((bs.drop o).take n):=by
 have hl:((bs.drop o).take n).length=n:=by rw[M3,Nj];omega
 obtain⟨x1,m,c1,e,d,h⟩:=h;rcases b with rfl | rfl
 .exact⟨x,y',c',by rw[OH];rfl,h0,Or.inl (OH ..)⟩
 .refine⟨x,y+o,c',by rw[hl],h0,?_⟩;by_cases hz:n=0
  .subst hz;exact Or.inl (OH ..)
  simp only[Value.slice.injEq]at e;obtain⟨g,el,_⟩:=e;rcases h with rfl | ⟨a,i⟩
  .simp at hn;omega
  obtain⟨rfl,f⟩:=slP_inj hx hy ae d g;obtain rfl:=f a;refine Or.inr ⟨a,fun j z hz=>?_⟩;have k:j<n:=by have:=(MK.1 hz).1;omega
  rw[Nv k,Nm]at hz;have:=i _ _ hz;rw[show(y+(o:Int)).toNat+j=y.toNat+(o+j)by omega];exact this
def yv (l:List Int):List Value:=l.map (Value.int .u32)
def wH (b:Nat) (l:List Int) (T:TypeId):Hl:=Hl.one b (.cells (yv l).toArray T (0,0))
def wP (b:Nat) (l:List Int) (T:TypeId) (j:Nat):(wH b l T).cell b j=(l[j]?).map (Value.int .u32):=by
 unfold wH yv;rw[Hl.one_cell,N7,MU]
def Br (h:l[j]?=some z):(wH b l T).cell b j=some (.int .u32 z):=by rw[wP,h];rfl
def Bs (h:y<l.length) (z:Int):(wH b l T).put b y [Value.int .u32 z]=wH b (l.set y z) T:=by
 unfold wH yv;rw[Hl.one_put]
 congr 2
 apply Ns;apply Ni;intro j;rw[Sx.splice_get (by simp;omega),List.map_set];simp only[Nk,N0,List.getElem?_set,M7,MU];by_cases h2:j=y
 .subst h2;rw[M0 ae,M0 rfl,M0 h];simp
 .rw[MM ae,MM ae]
def D6 (h:y<l.length):(wH b l T).wr b y 1=true:=Hl.one_wr _ _ _ _ _ (by simp [yv];omega)
def kV:∀ {n:Nat} (l:List Int),l.length=n->rowOK (yv l) (List.replicate n (Kd.int .u32))
 | 0,[],_=>trivial
 | n+1,z::l,h=>⟨by simp [valIs],kV l (by simpa using h)⟩
def uC (l:List Int) (h:l.length=n):rowOK (yv l) ((List.replicate n oH).map kdOf):=by rw[PE];exact kV l h
def BH (bs:List Int) (k:Nat) (l:List Int):Prop:=l.length=64/\∀ j,j<k->l[j]?=some ((aA bs 64).getD j 0)
def BH.set (h:BH bs k l) (hk:k<64) (hz:z=if k<16 then wR bs k else wQ (aA bs k) k):BH bs (k+1) (l.set k z):=by
 refine⟨by rw[List.length_set];exact h.1,fun j a=>?_⟩;rw[List.getElem?_set];by_cases e:k=j
 .subst e;rw[M0 rfl,M0 (by rw[h.1];exact hk),fz bs 64 k hk,hz]
 .rw[MM e];exact h.2 j ae
def Ba (n j:Nat) (h:j<n):okW ((aA bs n).getD j 0):=by
 rw[fz bs n j h];split
 .exact oz _
 .exact oz _
def mG:Sx.Spec where
 fn:=164
 own:=[]
 rd:=[0]
 res:=[.agg (List.replicate 64 oH)]
 pre:=fun xs Hs Rs=>∃ x y c bs R,xs=[.slice (slP x y) 64 c]/\Rs=[R]/\RdW R (.slice (slP x y) 64 c) bs/\bs.length=64/\64<=c/\ah bs/\0<=y/\ -1<=x
 post:=fun xs Hs Rs v Hs' F=>∀ u bs R,xs=[u]->Rs=[R]->RdW R u bs->v=.agg (yv (aA bs 64)).toArray
def JF:List Sx.Spec:=[AS,rC]
def Gn:∀ t∈JF,t.OK Tryz.prog:=ai wz <| ai zB <| aD
def kq:Walk Tryz.prog JF mG.fn where
 Λ:=fun p=>if lp p then(if eqN p [164,1,1,0,1,0]then some ⟨0,[(10,TI .i64 (.var 50))],[(2,.hp 51 [] [.var 6] [])],60⟩else some ⟨1,[(5,TI .i64 (.var 70))],[(2,.hp 71 [] [.var 6] [])],80⟩)else none
 args:=[.sv (.one (.sl (.var 0) (.var 1) (.var 2) (.var 3)))]
 mem:=[.ro 4 [.var 0] true]
 nv:=5
def IU:AS.res=[.one oH]:=rfl
def LC:rC.res=[.one (.int .u64)]:=rfl
def dx (h:okW x) {n:Int} (hn:n∈([-2,-6,-7,-11,-13,-17,-18,-19,-22,-25]:List Int)):AS.pre [.int .u32 x,.int .i64 n] [] []:=⟨⟨(ay fun i=>if i=0 then x else n),⟨zzT,zzT,zzT⟩,rfl⟩,h,hn⟩
def xu {u v:Value} {K:List Hl} (h:RdW R u bs) (hp:rC.post [u] [] [R] v K F):v=.int .u64 (bigI bs):=by
 obtain⟨b,bs',R',e1,a,h',hv⟩:=hp;simp only[MH,MZ]at e1 a;subst e1 a;rw[hv,h'.uniq h]
def BH.get (h:BH bs k l) (a:j<k) (hk:k<=64):l[j]?=some ((aA bs k).getD j 0):=by
 rw[h.2 j a,sN bs ae a]
def BH.all (h:BH bs 64 l):l=aA bs 64:=by
 apply Ni;intro j;by_cases a:j<64
 .rw[h.2 j a,MR,ME (by rw[bj];exact a)];rfl
 .rw[MS (by rw[h.1];omega),MS (by rw[bj];omega)]
def Ls (h:okW x):x.fdiv (2 ^ (min (Int.toNat 3) IntKind.u32.bits))=x/8:=Oc _ aj
def IS (h:okW x):x.fdiv (2 ^ (min (Int.toNat 10) IntKind.u32.bits))=x/1024:=Oc _ aj
def uK:mG.OK Tryz.prog:=by
 refine Spec.of_fn (Γ:=JF) Gn ?_;rintro xs Hs Rs X aw ⟨x,y,c,bs,R,rfl,rfl,hR,hlen,hc,hb,hy,hx⟩;have e0:Hs=[]:=MF.1 X;subst e0;refine⟨kq,envI [x,y,64,c] false [Hl.none,Hl.none,Hl.none,Hl.none,R],
  fun j q=>match j with
   | 0=>∃ (k:Nat) (l:List Int),q.i 50=k/\k<=16/\BH bs k l/\q.h 51=wH (q.i 6).toNat l 175
   | _=>∃ (k:Nat) (l:List Int),q.i 70=k/\16<=k/\k<=64/\BH bs k l/\q.h 71=wH (q.i 6).toNat l 175,
  fun j q=>match j with
   | 0=>(16-q.i 50).toNat
   | _=>(64-q.i 70).toNat,?_,⟨?_,?_,?_,?_⟩,(fun _ h=>nomatch h),?_⟩
 .show [Value.slice (slP x y) (Int.toNat 64) ((c:Int)).toNat]=_;rw[MD];rfl
 .intro r hr ho;simp [kq]at hr;subst hr;cases ho
 .intro r hr ho;simp [kq]at hr;subst hr;exact⟨R,ar,Hl.le_refl _⟩
 .simp [kq]
 .intro r hr;simp [kq]at hr;subst hr;trivial
 .refine Walk.read [] [] [] ?_;generalize B:envI [x,y,64,c] false [Hl.none,Hl.none,Hl.none,Hl.none,R]=J;have V:∀ q:Env,Agree 5 J q->q.i 0=x/\q.i 1=y/\q.i 2=64/\q.i 3=c/\q.h 4=R:=fun q hg=>by
   rw[hg.i 0,hg.i 1,hg.i 2,hg.i 3,hg.h 4,<-B];exact⟨rfl,rfl,rfl,rfl,rfl⟩
  clear B;simp only[go_sem,Nat.reduceAdd,JF,IU,LC];intro q1 g1 _ q2 g2 p6 Y g3 h7;have G3:Agree 5 J Y:=g1.trans (g2.mono.tr g3);refine⟨⟨0,List.replicate 64 0,rfl,ae,⟨ar,fun j hj=>ae⟩,?_⟩,fun U g4 ⟨k,l,C,hk,t,hh⟩=>?_⟩
  .show Y.h 7=wH (Y.i 6).toNat _ _;rw[h7,g3.i 6];rfl
  have G4:Agree 5 J U:=G3.tr g4;obtain⟨v0,v1,v2,v3,w4⟩:=V U G4;have v:0<=U.i 6:=by rw[g4.i 6,g3.i 6];exact p6
  rw[v0,v1,v3,w4,C];refine⟨fun Z=>?_,fun aa=>?_⟩
  .have ab:IntKind.i64.wrap (4*(k:Int))=4*k:=wrap_i64 ae ae;have ad:IntKind.i64.wrap (4*(k:Int)+4)=4*k+4:=wrap_i64 ae ae;rw[ab,ad];have hsub:=wo hR hx hy (o:=4*k) (n:=4) ae (y':=y+(4*k:Nat)) (Or.inr rfl) ae ((c:Int)-4*k).toNat;have e4:((4:Int)*k+4-4*k).toNat=4:=ae;rw[MM ae,e4];rw[show y+((4*k:Nat):Int)=y+4*(k:Int)by omega]at hsub;refine⟨ae,hy,ae,ae,ae,⟨_,_,R,rfl,rfl,hsub,by rw[M3];omega⟩,fun a D ⟨F,p5,_,_⟩=>?_⟩;have af:a.i 60=bigI ((bs.drop (4*k)).take 4):=by
    have:=xu hsub p5;simpa using this
   have G:a.i 50=k:=by rw[D.i 50,C]
   have H:a.i 6=U.i 6:=D.i 6;have hl:=t.1;rw[H,G,D.h 51,hh,MD];refine⟨v,ae,⟨v,ae,D6 ae⟩,fun A I ag=>?_⟩;have K:IntKind.i64.wrap (A.i 50+1)=((k+1:Nat):Int):=by rw[I.i 50,G,wrap_i64 ae ae];rfl
   refine⟨⟨k+1,_,K,ae,t.set (z:=IntKind.u32.wrap (a.i 60)) ae ?_,?_⟩,?_⟩
   .rw[M0 ae,af];exact yx hlen hb ae
   .show A.h 61=wH (A.i 6).toNat _ _;rw[ag,Bs ae,I.i 6,H]
   .show(16-IntKind.i64.wrap (A.i 50+1)).toNat<_;rw[K];omega
  .refine⟨⟨16,l,rfl,M1 _,ae,?_,hh⟩,fun a D ⟨k,l,m,ax,aI,t,hh⟩=>?_⟩
   .have:k=16:=ae;subst this;exact t
   have e:0<=a.i 6:=by rw[D.i 6];exact v
   have hl:=t.1;refine⟨fun Z=>?_,fun aa=>?_⟩
   .have rd:∀ {q:Env},Agree 80 a q->∀ d:Nat,1<=d->d<=16->(q.h 71).cell (q.i 6).toNat (IntKind.i64.wrap (q.i 70-d)).toNat=some (.int .u32 ((aA bs k).getD (k-d) 0)):=fun {q} hg d h1 h2=>by
     rw[hg.h 71,hg.i 6,hg.i 70,m,hh,wrap_i64 ae ae,show((k:Int)-d).toNat=k-d by omega];exact Br (t.get ae ae)
    have ok:∀ d:Nat,1<=d->d<=16->okW ((aA bs k).getD (k-d) 0):=fun d h1 h2=>Ba _ _ ae;have wd:∀ d:Nat,1<=d->d<=16->IntKind.i64.wrap (a.i 70-d)=(k:Int)-d:=fun d h1 h2=>by rw[m,wrap_i64 ae ae]
    have L:=fun {q:Env} (hg:Agree 80 a q)=>rd hg 15 ae ae;have r2:=fun {q:Env} (hg:Agree 80 a q)=>rd hg 2 ae ae;have ah:=fun {q:Env} (hg:Agree 80 a q)=>rd hg 16 ae ae;have r7:=fun {q:Env} (hg:Agree 80 a q)=>rd hg 7 ae ae;have M:IntKind.i64.wrap (a.i 70-15)=(k:Int)-15:=wd 15 ae ae;have w2:IntKind.i64.wrap (a.i 70-2)=(k:Int)-2:=wd 2 ae ae;have N:∀ {q:Env},Agree 80 a q->valI ((q.h 71).cell (q.i 6).toNat (IntKind.i64.wrap (q.i 70-15)).toNat)=(aA bs k).getD (k-15) 0:=fun hg=>by
     have:=L hg;rw[show((15:Nat):Int)=15 from rfl]at this;rw[this];rfl
    have v2:∀ {q:Env},Agree 80 a q->valI ((q.h 71).cell (q.i 6).toNat (IntKind.i64.wrap (q.i 70-2)).toNat)=(aA bs k).getD (k-2) 0:=fun hg=>by
     have:=r2 hg;rw[show((2:Nat):Int)=2 from rfl]at this;rw[this];rfl
    have ai:∀ {q:Env},Agree 80 a q->(q.h 71).cell (q.i 6).toNat (IntKind.i64.wrap (q.i 70-16)).toNat=some (.int .u32 ((aA bs k).getD (k-16) 0)):=fun hg=>ah hg;have v7:∀ {q:Env},Agree 80 a q->(q.h 71).cell (q.i 6).toNat (IntKind.i64.wrap (q.i 70-7)).toNat=some (.int .u32 ((aA bs k).getD (k-7) 0)):=fun hg=>r7 hg;have ak:(a.h 71).cell (a.i 6).toNat ((k:Int)-15).toNat=some (.int .u32 ((aA bs k).getD (k-15) 0)):=by rw[<-M];exact L (Agree.refl _ _)
    have u2:(a.h 71).cell (a.i 6).toNat ((k:Int)-2).toNat=some (.int .u32 ((aA bs k).getD (k-2) 0)):=by rw[<-w2];exact r2 (Agree.refl _ _)
    rw[M,w2,ak,u2];refine⟨e,ae,ae,rfl,ae,ae,rfl,dx (ok 15 ae ae) aj,fun A I ⟨_,p6,_,_⟩=>?_⟩;rw[N I];refine⟨dx (ok 15 ae ae) aj,fun q7 g7 ⟨_,p7,_,_⟩=>?_⟩;have G7:Agree 80 a q7:=I.tr g7;rw[v2 G7];refine⟨dx (ok 2 ae ae) aj,fun q8 g8 ⟨_,p8,_,_⟩=>?_⟩;have G8:Agree 80 a q8:=G7.tr g8;rw[v2 G8];refine⟨dx (ok 2 ae ae) aj,fun b W ⟨_,p9,_,_⟩=>?_⟩;have w:Agree 80 a b:=G8.tr W;have al:b.i 80=aN 7 ((aA bs k).getD (k-15) 0):=by
     rw[W.i 80,g8.i 80,g7.i 80];have h:Value.int .u32 (A.i 80)=.int .u32 (aN 7 (valI (some (Value.int .u32 ((aA bs k).getD (k-15) 0))))):=p6;simpa [valI] using h
    have an:b.i 81=aN 18 ((aA bs k).getD (k-15) 0):=by
     rw[W.i 81,g8.i 81];have h:Value.int .u32 (q7.i 81)=.int .u32 (aN 18 ((aA bs k).getD (k-15) 0)):=p7;simpa using h
    have ao:b.i 82=aN 17 ((aA bs k).getD (k-2) 0):=by
     rw[W.i 82];have h:Value.int .u32 (q8.i 82)=.int .u32 (aN 17 ((aA bs k).getD (k-2) 0)):=p8;simpa using h
    have aq:b.i 83=aN 19 ((aA bs k).getD (k-2) 0):=by
     have h:Value.int .u32 (b.i 83)=.int .u32 (aN 19 ((aA bs k).getD (k-2) 0)):=p9;simpa using h
    have p:b.i 70=k:=by rw[w.i 70,m]
    have H:b.i 6=a.i 6:=w.i 6;have O:IntKind.i64.wrap (b.i 70-16)=(k:Int)-16:=by rw[p,wrap_i64 ae ae]
    have w7:IntKind.i64.wrap (b.i 70-7)=(k:Int)-7:=by rw[p,wrap_i64 ae ae]
    have u16:=ai w;have u7:=v7 w;rw[O]at u16;rw[w7]at u7;have vz:IntKind.u32.wrap (IntKind.u32.wrap (IntKind.u32.wrap ((aA bs k).getD (k-16) 0+iH (b.i 80) (b.i 81) ((aA bs k).getD (k-15) 0/8))+(aA bs k).getD (k-7) 0)+iH (b.i 82) (b.i 83) ((aA bs k).getD (k-2) 0/1024))=wQ (aA bs k) k:=by
     rw[al,an,ao,aq];rfl
    have x1:iev b (E.bits BinOp.xor IntKind.u32 (E.bits BinOp.xor IntKind.u32 (E.var 80) (E.var 81)) (E.shr IntKind.u32 (E.hI 71 (E.var 6) (E.wrap IntKind.i64 ((E.var 70).sub (E.lit 15))) 0) (E.lit 3)))=iH (b.i 80) (b.i 81) ((aA bs k).getD (k-15) 0/8):=by
     show iH (b.i 80) (b.i 81) ((valI ((b.h 71).cell (b.i 6).toNat ((IntKind.i64.wrap (b.i 70-15)).toNat))).fdiv (2 ^ (min (Int.toNat 3) IntKind.u32.bits)))=_;rw[N w,Ls (ok 15 ae ae)]
    have x2:iev b (E.bits BinOp.xor IntKind.u32 (E.bits BinOp.xor IntKind.u32 (E.var 82) (E.var 83)) (E.shr IntKind.u32 (E.hI 71 (E.var 6) (E.wrap IntKind.i64 ((E.var 70).sub (E.lit 2))) 0) (E.lit 10)))=iH (b.i 82) (b.i 83) ((aA bs k).getD (k-2) 0/1024):=by
     show iH (b.i 82) (b.i 83) ((valI ((b.h 71).cell (b.i 6).toNat ((IntKind.i64.wrap (b.i 70-2)).toNat))).fdiv (2 ^ (min (Int.toNat 10) IntKind.u32.bits)))=_;rw[v2 w,IS (ok 2 ae ae)]
    have au:b.h 71=wH (a.i 6).toNat l 175:=by rw[w.h 71,hh]
    rw[O,w7,u16,u7,x1,x2,H,p,MD,au];refine⟨ae,ae,rfl,ae,ae,rfl,ae,⟨e,ae,D6 ae⟩,fun f P s=>?_⟩;have s:f.h 84=(wH (a.i 6).toNat l 175).put (a.i 6).toNat k [Value.int .u32 (IntKind.u32.wrap (IntKind.u32.wrap (IntKind.u32.wrap ((aA bs k).getD (k-16) 0+iH (b.i 80) (b.i 81) ((aA bs k).getD (k-15) 0/8))+(aA bs k).getD (k-7) 0)+iH (b.i 82) (b.i 83) ((aA bs k).getD (k-2) 0/1024)))]:=s;rw[vz,Bs ae]at s;have K:IntKind.i64.wrap (f.i 70+1)=((k+1:Nat):Int):=by rw[P.i 70,p,wrap_i64 ae ae];rfl
    refine⟨⟨k+1,_,K,ae,ae,t.set ae (by rw[MM ae]),?_⟩,?_⟩
    .show f.h 84=wH (f.i 6).toNat _ _;rw[s,P.i 6,H]
    .show(64-IntKind.i64.wrap (f.i 70+1)).toNat<(64-a.i 70).toNat;rw[K,m];omega
   .have ek:k=64:=ae;subst ek;obtain⟨S,hS⟩:∃ S,S=aA bs 64:=⟨_,rfl⟩;have Q:S.length=64:=by rw[hS];exact bj bs 64
    have el:l=S:=by rw[hS];exact t.all
    have av:rowOK (yv S) (List.replicate 64 (Kd.int .u32)):=kV S Q;have g:∀ j u,(yv S)[j]?=some u->(a.h 71).cell (a.i 6).toNat (0+j)=some u:=fun j u hu=>by
     rw[hh,el,wP,Nw,<-MU];exact hu
    have ev:(romCells 71 (E.var 6) (E.lit 0) 0 (List.replicate 64 (Kd.int .u32))).map (CV.ev a)=yv S:=romCells_row _ _ 0 av fun i u hu=>by
     show(a.h 71).cell (a.i 6).toNat (Int.toNat 0+(0+i))=_;rw[show Int.toNat 0+(0+i)=0+i from Nw _];exact g i u hu
    obtain⟨T,_,_,e2⟩:=row_rep (List.replicate 64 oH) 0 (yv S) a (uC S Q);refine⟨e,rowIs_of 0 av g,fun _=>⟨[],[],rfl,rfl,⟨T,?_,ckNorms_pure _ _ _ aj,zzT⟩,fun u bs' R' h1 h2 h'=>?_⟩⟩
    .show Value.agg ((romCells 71 (E.var 6) (E.lit 0) 0 (List.replicate 64 (Kd.int .u32))).map (CV.ev a)).toArray=Value.agg ((ckCVs 0 (List.replicate 64 oH)).map (CV.ev T)).toArray;rw[ev,e2]
    .simp only[MH,MZ]at h1 h2;subst h1 h2;obtain rfl:=h'.uniq hR;show Value.agg ((romCells 71 (E.var 6) (E.lit 0) 0 (List.replicate 64 (Kd.int .u32))).map (CV.ev a)).toArray=_;rw[ev,hS]
end Go.Proofs.YtbdikjnpbnobcaaGreatDoor
namespace Go.Proofs.YtbdikjnpbnobcaaGreatDoor
open Go Go.Sx Go.Pk
variable {F F' R:Hl}{c' s x x' z:Int}{b m:Nat}{T e:TypeId}{v v':Wd}
def s8 (v:Wd):List Int:=(List.range 8).map v
def Gh (h:s8 v=s8 v'):∀ j,j<8->v j=v' j:=fun j a=>by
 have e:=Ns (fun l=>l[j]?) h;unfold s8 at e;simp only[MU,Nf a,Nl,MP]at e;exact e
def AZ (h:∀ j,j<8->v j=v' j):s8 v=s8 v':=NL fun j a=>h j (Nn.1 a)
def kl {v v':Wd} (h:∀ j,j<8->v j=v' j) (w:List Int):∀ n j,j<8->bV v w n j=bV v' w n j
 | 0,j,a=>h j a
 | n+1,j,a=>by
  have ih:=kl h w n;have eT:∀ k x,yC (bV v w n) k x=yC (bV v' w n) k x:=fun k x=>by
   unfold yC;rw[ih 7 ae,ih 4 ae,ih 5 ae,ih 6 ae]
  have eU:DX (bV v w n)=DX (bV v' w n):=by
   unfold DX;rw[ih 0 ae,ih 1 ae,ih 2 ae]
  match j,a with
  | 0,_=>show dd (yC _ _ _+DX _)=dd (yC _ _ _+DX _);rw[eT,eU]
  | 4,_=>show dd (bV v w n 3+yC _ _ _)=dd (bV v' w n 3+yC _ _ _);rw[eT,ih 3 ae]
  | 1,_=>exact ih 0 ae
  | 2,_=>exact ih 1 ae
  | 3,_=>exact ih 2 ae
  | 5,_=>exact ih 4 ae
  | 6,_=>exact ih 5 ae
  | 7,_=>exact ih 6 ae
def tQ (h:∀ j,j<8->v j=v' j) (m:List Int):∀ j,j<8->gU v m j=gU v' m j:=fun j a=>by
 unfold gU;rw[h j a,kl h _ _ j a]
def Gt {l l':List Int} (h:wH b l T=wH b l' T):l=l':=by
 have e:=congrFun h b;unfold wH at e;rw[Hl.one_self,Hl.one_self]at e;simp only[MP,Obj.cells.injEq,M4,Nc,MZ]at e;unfold yv at e;exact(List.map_inj_right fun a b h=>by simpa using h).1 e
def yE (R:Hl) (g:Nat):Prop:=∀ j,j<64->R.cell g j=some (.int .u32 (wF.getD j 0))
def Cl:Sx.Spec where
 fn:=120
 own:=[.arg 0]
 rd:=[1,2000002]
 res:=[]
 pre:=fun xs Hs Rs=>∃ (a:Nat) (v:Wd) (x y:Int) (c:Nat) (bs:List Int) (R RG:Hl),xs=[.pointer (some ⟨a,0,none⟩),.slice (slP x y) 64 c]/\Hs=[wH a (s8 v) 188]/\Rs=[R,RG]/\(∀ j,j<8->okW (v j))/\RdW R (.slice (slP x y) 64 c) bs/\bs.length=64/\64<=c/\ah bs/\0<=y/\ -1<=x/\yE RG 2
 post:=fun xs Hs Rs w Hs' F=>∀ (a:Nat) (u:Value) (v:Wd) (bs:List Int) (R RG:Hl),xs=[.pointer (some ⟨a,0,none⟩),u]->Hs=[wH a (s8 v) 188]->Rs=[R,RG]->RdW R u bs->Hs'=[wH a (s8 (gU v bs)) 188]
def DJ:Nd:=(fun f o n d k p q=>(fun a b c=>(fun g h i j l m=>(.and (.pre d) (.ext d (.ext (.alloc 84) (.ext (.alloc 85) (.ext (.hpf 86 (.blk 84 (ckCVs 20 (List.replicate 64 (Ck.int .u32))) 175)) (.and (.inv 0 (([⟨110,0,.int .i64 (.lit 0)⟩]:List As)++(mLd 87 (ckCVs 120 k) (ckCVs 10 k))) [(111,some 86)]) (.havoc 0 0 87 (.and (.imp (.lt f (.lit 64)) (.and (.pre l) (.ext l (.and (.pre g) (.ext g (.and (.pre h) (.ext h (.and (.e (.le (.lit 0) f)) (.and (.e (.his 6 (.lit 2) f 0 (.int .u32))) (.and (.e (.le (.lit 0) (.var 84))) (.and (.e (.his 111 (.var 84) f 0 (.int .u32))) (.and (.pre m) (.ext m (.and (.pre i) (.ext i (.and (.pre j) (.ext j (.back 0 0 (([⟨110,0,.int .i64 (.wrap .i64 (.add f (.lit 1)))⟩]:List As)++(mLd 87 (ckCVs 120 k) [.int .u32 (.wrap .u32 (.add a (.wrap .u32 (.add (.bits .xor .u32 (.bits .xor .u32 (.var 203) (.var 204)) (.var 205)) (.bits .xor .u32 (.bits .xor .u32 (.bits .and .u32 n p) (.bits .and .u32 n q)) (.bits .and .u32 p q)))))),.int .u32 n,.int .u32 p,.int .u32 q,.int .u32 (.wrap .u32 (.add (.var 123) a)),.int .u32 o,.int .u32 (.var 125),.int .u32 (.var 126)])) [(111,some 111)])))))))))))))))))) (.imp (.not (.lt f (.lit 64))) (.post [.blk 0 [.int .u32 (.wrap .u32 (.add (.var 10) n)),.int .u32 (.wrap .u32 (.add (.var 11) p)),.int .u32 (.wrap .u32 (.add (.var 12) q)),.int .u32 (.wrap .u32 (.add (.var 13) (.var 123))),.int .u32 (.wrap .u32 (.add (.var 14) o)),.int .u32 (.wrap .u32 (.add (.var 15) (.var 125))),.int .u32 (.wrap .u32 (.add (.var 16) (.var 126))),.int .u32 (.wrap .u32 (.add (.var 17) (.var 127)))] 188,.ro 5 [.var 1] true,.ro 6 [.lit 2] false,.hp 111 [] [.var 84] [],.dead] (.tup [])))))))))):Nd)) (.call 0 201 [.sv b,.sv (.one (.int .i64 (.lit (-11))))] [] []) (.call 0 202 [.sv b,.sv (.one (.int .i64 (.lit (-25))))] [] []) (.call 0 204 [.sv c,.sv (.one (.int .i64 (.lit (-13))))] [] []) (.call 0 205 [.sv c,.sv (.one (.int .i64 (.lit (-22))))] [] []) (.call 0 200 [.sv b,.sv (.one (.int .i64 (.lit (-6))))] [] []) (.call 0 203 [.sv c,.sv (.one (.int .i64 (.lit (-2))))] [] [])) (.wrap .u32 (.add (.wrap .u32 (.add (.wrap .u32 (.add (.wrap .u32 (.add (.var 127) (.bits .xor .u32 (.bits .xor .u32 (.var 200) (.var 201)) (.var 202)))) (.bits .xor .u32 (.bits .and .u32 o (.var 125)) (.bits .and .u32 (.bits .xor .u32 (.lit 4294967295) o) (.var 126))))) (.hI 6 (.lit 2) f 0))) (.hI 111 (.var 84) f 0))) (.one (.int .u32 o)) (.one (.int .u32 n))) (.var 110) (.var 124) (.var 120) (.call 1 20 [.sv (.one (.sl (.var 1) (.var 2) (.var 3) (.var 4)))] [] [.ro 5 [.var 1] true]) (List.replicate 8 (Ck.int .u32)) (.var 121) (.var 122)
def Jt:List Sx.Spec:=[AS,mG]
def Fs:∀ t∈Jt,t.OK Tryz.prog:=ai wz <| ai uK <| aD
def Aa:Walk Tryz.prog Jt Cl.fn where
 Λ:=fun p=>if eqN p [120,1,1,0,1,0]then some ⟨0,[(17,TI .i64 (.var 110))],[(3,.hp 111 [] [.var 84] []),(4,.blk 85 (ckCVs 120 (List.replicate 8 oH)) 188)],200⟩else none
 args:=[TP (.var 0) (.lit 0),.sv (.one (.sl (.var 1) (.var 2) (.var 3) (.var 4)))]
 mem:=[.blk 0 (ckCVs 10 (List.replicate 8 oH)) 188,.ro 5 [.var 1] true,.ro 6 [.lit 2] false]
 nv:=20
def KN:mG.res=[.agg (List.replicate 64 oH)]:=rfl
def D9 (q:Env) (n:Nat) (v:Wd):Prop:=∀ j,j<8->q.i (n+j)=v j
def D9.mono {q q':Env} {n:Nat} (h:D9 q n v) (g:Agree m q q') (hm:n+8<=m):D9 q' n v:=fun j a=>by rw[g.i _ ae];exact h j a
def Cm:Cl.OK Tryz.prog:=by
 refine Spec.of_fn (Γ:=Jt) Fs ?_;rintro xs Hs Rs ai ak ⟨a,v,x,y,c,bs,R,RG,rfl,rfl,rfl,hv,X,hlen,hc,hb,hy,hx,hK⟩;refine⟨Aa,envI [a,x,y,64,c,0,0,0,0,0,v 0,v 1,v 2,v 3,v 4,v 5,v 6,v 7] false [Hl.none,Hl.none,Hl.none,Hl.none,Hl.none,R,RG],
  fun _ q=>∃ k:Nat,q.i 110=k/\k<=64/\D9 q 120 (bV v (aA bs 64) k)/\q.h 111=wH (q.i 84).toNat (aA bs 64) 175,
  fun _ q=>(64-q.i 110).toNat,?_,⟨?_,?_,?_,?_⟩,(fun _ h=>nomatch h),?_⟩
 .show [Value.pointer (slP (a:Int) 0),Value.slice (slP x y) (Int.toNat 64) ((c:Int)).toNat]=_;rw[MD,aY];rfl
 .intro r hr ho;simp [Aa]at hr;rcases hr with rfl | rfl | rfl
  .exact⟨wH a (s8 v) _,MO.2 rfl,Hl.le_refl (wH a (s8 v) 188)⟩
  .cases ho
  .cases ho
 .intro r hr ho;simp [Aa]at hr;rcases hr with rfl | rfl | rfl
  .cases ho
  .exact⟨R,ar,Hl.le_refl _⟩
  .exact⟨RG,ar,Hl.le_refl _⟩
 .simp [Aa,Res.own]
 .intro r hr;simp [Aa]at hr;rcases hr with rfl | rfl | rfl
  .show(0:Int)<=a;omega
  .trivial
  .trivial
 .refine Walk.lit (x:=DJ) ?_;generalize C:envI [a,x,y,64,c,0,0,0,0,0,v 0,v 1,v 2,v 3,v 4,v 5,v 6,v 7] false [Hl.none,Hl.none,Hl.none,Hl.none,Hl.none,R,RG]=J;have V:∀ q:Env,Agree 20 J q->q.i 0=a/\q.i 1=x/\q.i 2=y/\q.i 3=64/\q.i 4=c/\q.h 5=R/\q.h 6=RG/\D9 q 10 v:=fun q hg=>by
   rw[hg.i 0,hg.i 1,hg.i 2,hg.i 3,hg.i 4,hg.h 5,hg.h 6];have h8:D9 J 10 v:=fun j G=>by
    rw[<-C]
    match j with
    | 0=>rfl
    | 1=>rfl
    | 2=>rfl
    | 3=>rfl
    | 4=>rfl
    | 5=>rfl
    | 6=>rfl
    | 7=>rfl
   refine⟨?_,?_,?_,?_,?_,?_,?_,h8.mono hg ae⟩<;>rw[<-C]<;>rfl
  clear C;unfold DJ;simp only[go_sem,Nat.reduceAdd,Jt,IU,KN];obtain⟨v0,v1,v2,v3,v4,w5,w6,h8⟩:=V J (Agree.refl _ _);rw[v1,v2,v3,v4,w5,MD];refine⟨⟨x,y,c,bs,R,rfl,rfl,X,hlen,hc,hb,hy,hx⟩,fun q1 g1 ⟨_,p1,_,_⟩ q2 g2 D Y g3 _ K g4 Z=>?_⟩;have p1:=p1 _ bs R rfl rfl X;simp only[Value.agg.injEq,M4,Nc]at p1;have G4:Agree 20 J K:=g1.trans (g2.mono.trans (g3.mono.tr g4));have A3:Agree 84 q1 Y:=g2.tr g3;obtain⟨S,hS⟩:∃ S,S=aA bs 64:=⟨_,rfl⟩;rw[<-hS]at p1 ⊢;have aa:K.h 86=wH (K.i 84).toNat S 175:=by
   rw[Z,g4.i 84];unfold wH;rw[<-p1];have ag:(ckCVs 20 (List.replicate 64 oH)).map (CV.ev Y)=(ckCVs 20 (List.replicate 64 oH)).map (CV.ev q1):=by
    have h:Value.agg ((ckCVs 20 (List.replicate 64 oH)).map (CV.ev Y)).toArray=Value.agg ((ckCVs 20 (List.replicate 64 oH)).map (CV.ev q1)).toArray:=ev_ag (n:=20) (ks:=List.replicate 64 oH) A3 aj;rw[Value.agg.injEq]at h;exact Ns Array.toList h
   rw[<-ag]
  obtain⟨_,_,_,_,_,_,_,E⟩:=V K G4;have D:0<=K.i 84:=by rw[g4.i 84,g3.i 84];exact D
  refine⟨⟨0,rfl,ae,fun j G=>?_,aa⟩,fun d g5 ⟨k,f,hk,w,A⟩=>?_⟩
  .show _=v j;rw[<-E j G]
   match j,G with
   | 0,_=>rfl
   | 1,_=>rfl
   | 2,_=>rfl
   | 3,_=>rfl
   | 4,_=>rfl
   | 5,_=>rfl
   | 6,_=>rfl
   | 7,_=>rfl
  have G5:Agree 20 J d:=G4.tr g5;have ah:0<=d.i 84:=by rw[g5.i 84];exact D
  obtain⟨r,hr⟩:∃ r,r=bV v S k:=⟨_,rfl⟩;rw[<-hr]at w;have p:∀ j,j<8->okW (r j):=by rw[hr];exact nX hv S k
  refine⟨fun al=>?_,fun an=>?_⟩
  .have B:k<64:=ae;have r4:∀ {q:Env},Agree 200 d q->q.i 124=r 4:=fun hg=>(w.mono hg ae) 4 ae;have r0:∀ {q:Env},Agree 200 d q->q.i 120=r 0:=fun hg=>(w.mono hg ae) 0 ae;rw[r4 (Agree.refl _ _)];refine⟨dx (p 4 ae) aj,fun q6 g6 ⟨_,p6,_,_⟩=>?_⟩;rw[r4 g6];refine⟨dx (p 4 ae) aj,fun q7 g7 ⟨_,p7,_,_⟩=>?_⟩;have G7:Agree 200 d q7:=g6.tr g7;rw[r4 G7];refine⟨dx (p 4 ae) aj,fun L g8 ⟨_,p8,_,_⟩=>?_⟩;have H:Agree 200 d L:=G7.tr g8;have cK:∀ {q:Env},Agree 200 d q->(q.h 6).cell 2 (q.i 110).toNat=some (.int .u32 (wF.getD k 0)):=fun {q} hg=>by
    rw[hg.i 110,hg.h 6,(V d G5).2.2.2.2.2.2.1,f,MD];exact hK k B
   have cS:∀ {q:Env},Agree 200 d q->(q.h 111).cell (q.i 84).toNat (q.i 110).toNat=some (.int .u32 (S.getD k 0)):=fun {q} hg=>by
    rw[hg.i 110,hg.i 84,hg.h 111,A,f,MD];refine Br ?_;rw[MR,ME (by rw[hS,bj];exact B)];rfl
   have e8:L.i 110=k:=by rw[H.i 110,f]
   have ao:L.i 84=d.i 84:=H.i 84;have F:=cK H;have F:(L.h 6).cell (Int.toNat 2) (L.i 110).toNat=some (.int .u32 (wF.getD k 0)):=F;rw[F,cS H,r0 H];refine⟨ae,rfl,ae,rfl,dx (p 0 ae) aj,fun q9 W ⟨_,p9,_,_⟩=>?_⟩;have G9:Agree 200 d q9:=H.tr W;rw[r0 G9];refine⟨dx (p 0 ae) aj,fun ab z ⟨_,ad,_,_⟩=>?_⟩;have M:Agree 200 d ab:=G9.tr z;rw[r0 M];refine⟨dx (p 0 ae) aj,fun b s ⟨_,af,_,_⟩=>?_⟩;have t:Agree 200 d b:=M.tr s;have I:∀ {q:Env} {n m:Nat} {x:Int},IF [Value.int .u32 x,.int .i64 (-(m:Int))]=Value.int .u32 (q.i n)->q.i n=aN m x:=fun {q n m x} h=>by
    have h:Value.int .u32 (aN (-(-(m:Int))).toNat x)=Value.int .u32 (q.i n):=h;rw[show(-(-(m:Int))).toNat=m by omega]at h;simpa using h.symm
   have N:b.i 200=aN 6 (r 4):=by rw[s.i 200,z.i 200,W.i 200,g8.i 200,g7.i 200];exact I (m:=6) p6.symm
   have O:b.i 201=aN 11 (r 4):=by rw[s.i 201,z.i 201,W.i 201,g8.i 201];exact I (m:=11) p7.symm
   have P:b.i 202=aN 25 (r 4):=by rw[s.i 202,z.i 202,W.i 202];exact I (m:=25) p8.symm
   have Q:b.i 203=aN 2 (r 0):=by rw[s.i 203,z.i 203];exact I (m:=2) p9.symm
   have T:b.i 204=aN 13 (r 0):=by rw[s.i 204];exact I (m:=13) ad.symm
   have U:b.i 205=aN 22 (r 0):=I (m:=22) af.symm;have e:D9 b 120 r:=w.mono t ae;have eT:dd (dd (dd (dd (b.i 127+iH (b.i 200) (b.i 201) (b.i 202))+bitsI .xor .u32 (gY (b.i 124) (b.i 125)) (gY (bitsI .xor .u32 4294967295 (b.i 124)) (b.i 126)))+valI ((b.h 6).cell 2 (b.i 110).toNat))+valI ((b.h 111).cell (b.i 84).toNat (b.i 110).toNat))=yC r (wF.getD k 0) (S.getD k 0):=by
    rw[cK t,cS t,N,O,P,show b.i 127=r 7 from e 7 ae,show b.i 124=r 4 from e 4 ae,show b.i 125=r 5 from e 5 ae,show b.i 126=r 6 from e 6 ae,xor_not (p 4 ae)];rfl
   have eU:dd (iH (b.i 203) (b.i 204) (b.i 205)+bitsI .xor .u32 (bitsI .xor .u32 (gY (b.i 120) (b.i 121)) (gY (b.i 120) (b.i 122))) (gY (b.i 121) (b.i 122)))=DX r:=by
    rw[Q,T,U,show b.i 120=r 0 from e 0 ae,show b.i 121=r 1 from e 1 ae,show b.i 122=r 2 from e 2 ae];rfl
   have ew:IntKind.i64.wrap (b.i 110+1)=((k+1:Nat):Int):=by rw[t.i 110,f,wrap_i64 ae ae];rfl
   refine⟨⟨k+1,ew,ae,fun j G=>?_,?_⟩,?_⟩
   .show _=mF (bV v S k) (wF.getD k 0) (S.getD k 0) j;rw[<-hr]
    match j,G with
    | 0,_ =>
     show dd (dd (dd (dd (dd (b.i 127+iH (b.i 200) (b.i 201) (b.i 202))+bitsI .xor .u32 (gY (b.i 124) (b.i 125)) (gY (bitsI .xor .u32 4294967295 (b.i 124)) (b.i 126)))+valI ((b.h 6).cell 2 (b.i 110).toNat))+valI ((b.h 111).cell (b.i 84).toNat (b.i 110).toNat))+dd (iH (b.i 203) (b.i 204) (b.i 205)+bitsI .xor .u32 (bitsI .xor .u32 (gY (b.i 120) (b.i 121)) (gY (b.i 120) (b.i 122))) (gY (b.i 121) (b.i 122))))=dd (yC r _ _+DX r);rw[eT,eU]
    | 4,_ =>
     show dd (b.i 123+dd (dd (dd (dd (b.i 127+iH (b.i 200) (b.i 201) (b.i 202))+bitsI .xor .u32 (gY (b.i 124) (b.i 125)) (gY (bitsI .xor .u32 4294967295 (b.i 124)) (b.i 126)))+valI ((b.h 6).cell 2 (b.i 110).toNat))+valI ((b.h 111).cell (b.i 84).toNat (b.i 110).toNat)))=dd (r 3+yC r _ _);rw[eT,show b.i 123=r 3 from e 3 ae]
    | 1,_=>exact e 0 ae
    | 2,_=>exact e 1 ae
    | 3,_=>exact e 2 ae
    | 5,_=>exact e 4 ae
    | 6,_=>exact e 5 ae
    | 7,_=>exact e 6 ae
   .show b.h 111=wH (b.i 84).toNat S _;rw[t.h 111,A,t.i 84]
   .show(64-IntKind.i64.wrap (b.i 110+1)).toNat<(64-d.i 110).toNat;rw[ew,f];omega
  .have ek:k=64:=ae;subst ek;obtain⟨v0,_,_,_,_,_,_,E⟩:=V d G5;refine fun _=>⟨[[0]],[],rfl,rfl,⟨(ay fun _=>0),rfl,zzT⟩,fun a' u v' bs' R' aq e1 e2 e3 h'=>?_⟩;simp only[MH,Value.pointer.injEq,MP,Addr.mk.injEq,MZ]at e1 e2 e3;obtain⟨rfl,rfl⟩:=e1;obtain⟨rfl,rfl⟩:=e3;obtain rfl:=h'.uniq X;have ev:=Gh (Gt e2);rw[<-AZ (tQ ev bs')];have g:∀ j,j<8->gU v bs' j=dd (v j+r j):=fun j G=>by unfold gU;rw[<-hS,<-hr]
   have e8:[Value.int .u32 (dd (d.i 10+d.i 120)),Value.int .u32 (dd (d.i 11+d.i 121)),Value.int .u32 (dd (d.i 12+d.i 122)),Value.int .u32 (dd (d.i 13+d.i 123)),Value.int .u32 (dd (d.i 14+d.i 124)),Value.int .u32 (dd (d.i 15+d.i 125)),Value.int .u32 (dd (d.i 16+d.i 126)),Value.int .u32 (dd (d.i 17+d.i 127))]=yv (s8 (gU v bs')):=by
    show _=[Value.int .u32 (gU v bs' 0),Value.int .u32 (gU v bs' 1),Value.int .u32 (gU v bs' 2),Value.int .u32 (gU v bs' 3),Value.int .u32 (gU v bs' 4),Value.int .u32 (gU v bs' 5),Value.int .u32 (gU v bs' 6),Value.int .u32 (gU v bs' 7)];have l:∀ j,j<8->d.i (10+j)=v j:=E;have o:∀ j,j<8->d.i (120+j)=r j:=w;rw[show d.i 10=v 0 from l 0 ae,show d.i 120=r 0 from o 0 ae,show d.i 11=v 1 from l 1 ae,show d.i 121=r 1 from o 1 ae,show d.i 12=v 2 from l 2 ae,show d.i 122=r 2 from o 2 ae,show d.i 13=v 3 from l 3 ae,show d.i 123=r 3 from o 3 ae,show d.i 14=v 4 from l 4 ae,show d.i 124=r 4 from o 4 ae,show d.i 15=v 5 from l 5 ae,show d.i 125=r 5 from o 5 ae,show d.i 16=v 6 from l 6 ae,show d.i 126=r 6 from o 6 ae,show d.i 17=v 7 from l 7 ae,show d.i 127=r 7 from o 7 ae];rw[g 0 ae,g 1 ae,g 2 ae,g 3 ae,g 4 ae,g 5 ae,g 6 ae,g 7 ae]
   refine Ns (fun x=>[x]) ((Hl.un_none _).trans ?_);show Hl.one (d.i 0).toNat (.cells [Value.int .u32 (dd (d.i 10+d.i 120)),Value.int .u32 (dd (d.i 11+d.i 121)),Value.int .u32 (dd (d.i 12+d.i 122)),Value.int .u32 (dd (d.i 13+d.i 123)),Value.int .u32 (dd (d.i 14+d.i 124)),Value.int .u32 (dd (d.i 15+d.i 125)),Value.int .u32 (dd (d.i 16+d.i 126)),Value.int .u32 (dd (d.i 17+d.i 127))].toArray _ (0,0))=_;rw[e8,v0,MD];rfl
def Am {v:Value} {L:Nat} {bs:List Int} (h:OwB F e v bs) (hl:L=bs.length) (hr:∀ xs,OwnsH F e 1 v L xs->OwnsH F' e 1 (.slice (slP x' 0) (L+1) c'.toNat) (L+1) (xs++[Value.int .u8 z])):OwB F' e (.slice (slP x' 0) (L+1) c'.toNat) (bs++[z]):=by
 unfold OwB at h ⊢;subst hl;have:=hr _ h;rw[MJ,Nq];unfold bys at this ⊢;rw[M9];exact this
def Ob (q:Env) (h a c:Nat) (L:Int) (bs:List Int):Prop:=OwB (q.h h) 5 (.slice (slP (q.i a) 0) L.toNat (q.i c).toNat) bs/\L=bs.length/\ -1<=q.i a/\0<=q.i c
section
variable {q q':Env} {h a c n:Nat} {L L':Int} {bs:List Int}
def Ob.mono (o:Ob q h a c L bs) (g:Agree n q q') (h1:h<n) (h2:a<n) (b:c<n):Ob q' h a c L bs:=by
 unfold Ob;rw[g.h h h1,g.i a h2,g.i c b];exact o
def Ob.cast (o:Ob q h a c L bs) (e:L=L'):Ob q h a c L' bs:=e▸o
def Ob.pre (o:Ob q h a c L bs) (hl:bs.length<=2000000):(∃ xs,OwnsH (q.h h) 5 1 (.slice (slP (q.i a) 0) L.toNat (q.i c).toNat) L.toNat xs)/\0<=L/\L.toNat+1<=maxLen/\L.toNat+1<=140737488355328:=by
 obtain⟨o1,o2,_,_⟩:=o;have e:L.toNat=bs.length:=ae;refine⟨⟨bys bs,?_⟩,ae,by unfold maxLen;omega,ae⟩;unfold OwB at o1;rw[e]at o1 ⊢;exact o1
def Ob.app (o:Ob q h a c L bs) (r:-1<=q'.i n/\0<=q'.i (n+1)/\(∀ xs,OwnsH (q.h h) 5 1 (.slice (slP (q.i a) 0) L.toNat (q.i c).toNat) L.toNat xs->OwnsH (q'.h n) 5 1 (.slice (slP (q'.i n) 0) (L.toNat+1) (q'.i (n+1)).toNat) (L.toNat+1) (xs++[Value.int .u8 z]))) (e:L'=L+1):Ob q' n n (n+1) L' (bs++[z]):=by
 subst e;obtain⟨r1,r2,b⟩:=r;obtain⟨o1,o2,_,_⟩:=o;have hs:=Am o1 ae b;refine⟨?_,by rw[MJ,Nq];omega,r1,r2⟩;rw[show(L+1).toNat=L.toNat+1 by omega];exact hs
end
def HT (n:Nat):(cpRoots n [Cp.one .sl]≠[])=True:=by simp [cpRoots,Cp.roots,Ck.root]
def rE {u v:Value} {bs:List Int} {K:List Hl} (h:RdW R u bs) (hp:bK.post [u] [] [R] v K F):OwB F 5 v bs:=by
 obtain⟨b,bs',R',e1,a,h',ho⟩:=hp;simp only[MH,MZ]at e1 a;subst e1 a;rw[h.uniq h'];exact ho
def uY {n k:Nat} (hn:n<18446744073709551616) (hs:s=(k:Int)) (hk:k<=63) (hx:x=(n:Int)):IntKind.u8.wrap (x.fdiv (2 ^ (min s.toNat IntKind.u64.bits)))=((n/2 ^ k%256:Nat):Int):=by
 subst hs hx;have e:min ((k:Nat):Int).toNat IntKind.u64.bits=k:=by show min _ 64=_;omega
 have a:((2:Int) ^ k)=((2 ^ k:Nat):Int):=by push_cast;rfl
 rw[e,a,Oc _ (Ok _)];exact I4 _
def lx {q:Env} {n k:Nat} (hw:IntKind.u64.wrap (8*IntKind.u64.wrap (q.i 2))=(n:Int)) (hn:n<18446744073709551616) (hs:s=(k:Int)) (hk:k<=63):IntKind.u8.wrap (iev q (E.shr .u64 (E.wrap .u64 ((E.lit 8).mul (E.wrap .u64 (E.var 2)))) (E.lit s)))=((n/2 ^ k%256:Nat):Int):=uY hn hs hk hw
def si:Sx.Spec where
 fn:=118
 own:=[]
 rd:=[0]
 res:=[.one .sl]
 pre:=fun xs Hs Rs=>∃ u bs R,xs=[u]/\Rs=[R]/\RdW R u bs/\bs.length<=1000000
 post:=fun xs Hs Rs v Hs' F=>∃ u bs R,xs=[u]/\Rs=[R]/\RdW R u bs/\OwB F 5 v (iu bs)
def It:List Sx.Spec:=[bK]
def Fy:∀ t∈It,t.OK Tryz.prog:=fun t a=>by
 simp only[It,MQ,MV,Nt]at a;subst a;exact fi
def sj:Walk Tryz.prog It si.fn where
 Λ:=fun p=>if eqN p [118,1,1,0,0]then some ⟨0,[(3,.sv (.one (.sl (.var 50) (.lit 0) (.var 51) (.var 52))))],[(1,.hp 53 [] [.var 50] [])],60⟩else none
 args:=[.sv (.one (.sl (.var 0) (.var 1) (.var 2) (.var 3)))]
 mem:=[.ro 4 [.var 0] true]
 nv:=5
def KR:bK.res=[.one .sl]:=rfl
def An:si.OK Tryz.prog:=by
 refine Spec.of_fn (Γ:=It) Fy ?_;rintro xs Hs Rs au aP ⟨u,bs,R,rfl,rfl,hR,hlen⟩;have e0:Hs=[]:=MF.1 au;subst e0;obtain⟨x,y,c,rfl,hy,_⟩:=id hR;refine⟨sj,envI [x,y,bs.length,c] false [Hl.none,Hl.none,Hl.none,Hl.none,R],
  fun _ q=>∃ m:Nat,m<=(119-bs.length%64)%64/\q.i 51=bs.length+1+m/\ -1<=q.i 50/\0<=q.i 52/\OwB (q.h 53) 5 (.slice (slP (q.i 50) 0) (q.i 51).toNat (q.i 52).toNat) (bs++[128]++List.replicate m 0),
  fun _ q=>((bs.length:Int)+100-q.i 51).toNat,?_,⟨?_,?_,?_,?_⟩,(fun _ h=>nomatch h),?_⟩
 .show [Value.slice (slP x y) ((bs.length:Int)).toNat ((c:Int)).toNat]=_;simp only[MD]
 .intro r hr ho;simp [sj]at hr;subst hr;cases ho
 .intro r hr ho;simp [sj]at hr;subst hr;exact⟨R,ar,Hl.le_refl _⟩
 .simp [sj]
 .intro r hr;simp [sj]at hr;subst hr;trivial
 .refine Walk.read [] [] [] ?_;generalize U:envI [x,y,bs.length,c] false [Hl.none,Hl.none,Hl.none,Hl.none,R]=J;have V:∀ q:Env,Agree 5 J q->q.i 0=x/\q.i 1=y/\q.i 2=bs.length/\q.i 3=c/\q.h 4=R:=fun q hg=>by
   rw[hg.i 0,hg.i 1,hg.i 2,hg.i 3,hg.h 4,<-U];exact⟨rfl,rfl,rfl,rfl,rfl⟩
  clear U;simp only[go_sem,Nat.reduceAdd,It,KR,HT];obtain⟨v0,v1,v2,v3,w4⟩:=V J (Agree.refl _ _);rw[v0,v1,v2,v3,w4,MD,MD];refine⟨⟨_,bs,R,rfl,rfl,hR,hlen⟩,fun q1 g1 ⟨F,p1,hF,l⟩ q2 S _=>?_⟩;have o1:=rE hR p1;rw[<-hF zzT]at o1;have l:-1<=q1.i 5/\0<=q1.i 6/\0<=q1.i 7/\0<=q1.i 8:=l.1;have av:=OwB.shape o1;have W:q1.i 7=bs.length:=by
   obtain⟨_,hc⟩:=o1;rcases hc with ⟨e,e0⟩ | ⟨g,cap,cur,e,_⟩
   .simp only[Value.slice.injEq]at e;omega
   .simp only[Value.slice.injEq]at e;omega
  have X:slP (q1.i 5) (q1.i 6)=slP (q1.i 5) 0:=by
   rcases av with (h | ⟨h1,h2⟩) | h
   .rw[h];rfl
   .rw[show q1.i 6=0 by omega]
   .omega
  rw[X]at o1;have b2:Ob q2 5 5 8 (q2.i 7) bs:=by
   have o:Ob q1 5 5 8 (q1.i 7) bs:=⟨o1,W,l.1,l.2.2.2⟩;have:=o.mono S ae ae ae;rw[S.i 7];exact this
  have e6:slP (q2.i 5) (q2.i 6)=slP (q2.i 5) 0:=by rw[S.i 5,S.i 6];exact X
  rw[e6];refine⟨b2.pre ae,fun q3 g3 ⟨r1,r2,a,_⟩=>?_⟩;have b3:=b2.app ⟨r1,r2,a⟩ rfl;have Y:q3.i 7=bs.length:=by rw[g3.i 7,S.i 7,W]
  rw[show q2.i 7=q3.i 7 from (g3.i 7).symm]at b3;obtain⟨aw,aQ,ax,az⟩:=b3;refine⟨⟨0,ae,?_,ax,az,?_⟩,fun j g4 ⟨m,hm,p,aA,aB,hO⟩=>?_⟩
  .show q3.i 7+1=_;rw[Y];omega
  .rw[List.replicate_zero,Nu];exact aw
  have G4:Agree 5 J j:=g1.trans (S.mono.trans (g3.mono.tr g4));have B:(bs++[128]++List.replicate m 0).length=bs.length+1+m:=by rw[MJ,MJ,Og];rfl
  have b4:Ob j 53 50 52 (j.i 51) (bs++[128]++List.replicate m 0):=⟨hO,by rw[B,p];omega,aA,aB⟩;have tm:(j.i 51).tmod 64=((bs.length+1+m)%64:Nat):=by rw[p,OC ae];omega
  refine⟨ae,fun C=>?_,fun heq=>?_⟩
  .have C:(j.i 51).tmod 64≠56:=C;rw[tm]at C;intro d D _;have b5:=b4.mono D ae ae ae;rw[show j.i 51=d.i 51 from (D.i 51).symm]at b5;refine⟨b5.pre (by rw[B];omega),fun T Z ⟨r1,r2,a,_⟩=>?_⟩;have b6:=b5.app ⟨r1,r2,a⟩ rfl;obtain⟨aa,aR,aC,aD⟩:=b6;have e6:T.i 51=bs.length+1+m:=by rw[Z.i 51,D.i 51,p]
   rw[show d.i 51=T.i 51 from (Z.i 51).symm]at aa;refine⟨⟨m+1,ae,?_,aC,aD,?_⟩,?_⟩
   .show T.i 51+1=_;rw[e6];omega
   .rw[List.replicate_succ',<-MY];exact aa
   .show((bs.length:Int)+100-(T.i 51+1)).toNat<((bs.length:Int)+100-j.i 51).toNat;rw[e6,p];omega
  .have heq:(j.i 51).tmod 64=56:=heq;rw[tm]at heq;have em:m=(119-bs.length%64)%64:=ae;obtain⟨M,hM⟩:∃ M,M=bs++[128]++List.replicate m 0:=⟨_,rfl⟩;rw[<-hM]at b4 B;have aE:j.i 2=bs.length:=(V j G4).2.2.1;refine⟨by rw[aE];omega,?_⟩;have b:∀ {q:Env},Agree 5 J q->IntKind.u64.wrap (8*IntKind.u64.wrap (q.i 2))=((8*bs.length:Nat):Int):=fun {q} hg=>by
    rw[(V q hg).2.2.1,iG (x:=(bs.length:Int)) ae ae,iG ae ae];omega
   intro d D _;have c0:=b4.mono D ae ae ae;rw[show j.i 51=d.i 51 from (D.i 51).symm]at c0;have G5:Agree 5 J d:=G4.tr D;refine⟨c0.pre ae,fun T Z ⟨r1,r2,a,_⟩=>?_⟩;have G6:Agree 5 J T:=G5.tr Z;rw[lx (q:=d) (n:=8*bs.length) (k:=56) (s:=56) (b G5) ae rfl ae]at a;have d0:=c0.app ⟨r1,r2,a⟩ (L':=d.i 51+1) rfl;intro q7 Y _;have J7:q7.i 51=d.i 51:=by rw[Y.i 51,Z.i 51]
   have c1:=(d0.mono Y ae ae ae).cast (L':=q7.i 51+1) (by rw[J7]);have G7:Agree 5 J q7:=G6.tr Y;refine⟨c1.pre (by simp only[MJ,Nq];omega),fun q8 g8 ⟨r1,r2,a,_⟩=>?_⟩;have G8:Agree 5 J q8:=G7.tr g8;rw[lx (q:=q7) (n:=8*bs.length) (k:=48) (s:=48) (b G7) ae rfl ae]at a;have d1:=c1.app ⟨r1,r2,a⟩ (L':=d.i 51+2) (by rw[J7];omega);intro q9 g9 _;have J9:q9.i 51=d.i 51:=by rw[g9.i 51,g8.i 51,J7]
   have c2:=(d1.mono g9 ae ae ae).cast (L':=q9.i 51+2) (by rw[J9]);have G9:Agree 5 J q9:=G8.tr g9;refine⟨c2.pre (by simp only[MJ,Nq];omega),fun aF ab ⟨r1,r2,a,_⟩=>?_⟩;have aG:Agree 5 J aF:=G9.tr ab;rw[lx (q:=q9) (n:=8*bs.length) (k:=40) (s:=40) (b G9) ae rfl ae]at a;have d2:=c2.app ⟨r1,r2,a⟩ (L':=d.i 51+3) (by rw[J9];omega);intro t E _;have G:t.i 51=d.i 51:=by rw[E.i 51,ab.i 51,J9]
   have c3:=(d2.mono E ae ae ae).cast (L':=t.i 51+3) (by rw[G]);have ad:Agree 5 J t:=aG.tr E;refine⟨c3.pre (by simp only[MJ,Nq];omega),fun aH af ⟨r1,r2,a,_⟩=>?_⟩;have aI:Agree 5 J aH:=ad.tr af;rw[lx (q:=t) (n:=8*bs.length) (k:=32) (s:=32) (b ad) ae rfl ae]at a;have d3:=c3.app ⟨r1,r2,a⟩ (L':=d.i 51+4) (by rw[G];omega);intro v H _;have I:v.i 51=d.i 51:=by rw[H.i 51,af.i 51,G]
   have c4:=(d3.mono H ae ae ae).cast (L':=v.i 51+4) (by rw[I]);have ag:Agree 5 J v:=aI.tr H;refine⟨c4.pre (by simp only[MJ,Nq];omega),fun aJ ah ⟨r1,r2,a,_⟩=>?_⟩;have aK:Agree 5 J aJ:=ag.tr ah;rw[lx (q:=v) (n:=8*bs.length) (k:=24) (s:=24) (b ag) ae rfl ae]at a;have d4:=c4.app ⟨r1,r2,a⟩ (L':=d.i 51+5) (by rw[I];omega);intro w K _;have L:w.i 51=d.i 51:=by rw[K.i 51,ah.i 51,I]
   have c5:=(d4.mono K ae ae ae).cast (L':=w.i 51+5) (by rw[L]);have ai:Agree 5 J w:=aK.tr K;refine⟨c5.pre (by simp only[MJ,Nq];omega),fun aL aj ⟨r1,r2,a,_⟩=>?_⟩;have aM:Agree 5 J aL:=ai.tr aj;rw[lx (q:=w) (n:=8*bs.length) (k:=16) (s:=16) (b ai) ae rfl ae]at a;have d5:=c5.app ⟨r1,r2,a⟩ (L':=d.i 51+6) (by rw[L];omega);intro z N _;have O:z.i 51=d.i 51:=by rw[N.i 51,aj.i 51,L]
   have c6:=(d5.mono N ae ae ae).cast (L':=z.i 51+6) (by rw[O]);have ak:Agree 5 J z:=aM.tr N;refine⟨c6.pre (by simp only[MJ,Nq];omega),fun aN al ⟨r1,r2,a,_⟩=>?_⟩;have aO:Agree 5 J aN:=ak.tr al;rw[lx (q:=z) (n:=8*bs.length) (k:=8) (s:=8) (b ak) ae rfl ae]at a;have d6:=c6.app ⟨r1,r2,a⟩ (L':=d.i 51+7) (by rw[O];omega);intro A P _;have Q:A.i 51=d.i 51:=by rw[P.i 51,al.i 51,O]
   have c7:=(d6.mono P ae ae ae).cast (L':=A.i 51+7) (by rw[Q]);have an:Agree 5 J A:=aO.tr P;refine⟨c7.pre (by simp only[MJ,Nq];omega),fun f ao ⟨r1,r2,a,_⟩=>?_⟩;have aS:Agree 5 J f:=an.tr ao;rw[lx (q:=A) (n:=8*bs.length) (k:=0) (s:=0) (b an) ae rfl ae]at a;have d7:=c7.app ⟨r1,r2,a⟩ (L':=d.i 51+8) (by rw[Q];omega);have hp:M++[((8*bs.length/2 ^ 56%256:Nat):Int)]++[((8*bs.length/2 ^ 48%256:Nat):Int)]++[((8*bs.length/2 ^ 40%256:Nat):Int)]++[((8*bs.length/2 ^ 32%256:Nat):Int)]++[((8*bs.length/2 ^ 24%256:Nat):Int)]++[((8*bs.length/2 ^ 16%256:Nat):Int)]++[((8*bs.length/2 ^ 8%256:Nat):Int)]++[((8*bs.length/2 ^ 0%256:Nat):Int)]=iu bs:=by
    unfold iu;rw[<-em,<-hM];simp only[MY];rfl
   obtain⟨d1,d2,d3,d4⟩:=d7;rw[hp]at d1 d2;have aq:f.i 51=d.i 51:=by rw[ao.i 51,Q]
   refine fun _=>⟨[],[1],rfl,rfl,⟨(ay fun k=>[f.i 82,0,f.i 51+8,f.i 83].getD k 0),rfl,⟨d3,MT _,by show 0<=f.i 51+8;rw[aq];omega,d4⟩,zzT⟩,_,bs,R,rfl,rfl,hR,?_⟩;show OwB (hls [f.h 82]) _ (.slice (slP (f.i 82) 0) (f.i 51+8).toNat (f.i 83).toNat) (iu bs);rw[hls_one,aq];exact d1
open Go.Proofs.YtbdikjnpbnobcaaGreatDoor.D hiding envI noLoops numS
variable {F R:Hl}{l x y:Int}{u v:Value}
def CT {bs:List Int} (h:RdW R u bs):valP (some u) 2=bs.length/\((0<=valP (some u) 0/\0<=valP (some u) 1/\0<=valP (some u) 2/\∀ j,j<(valP (some u) 2).toNat->∃ v,R.cell (valP (some u) 0).toNat ((valP (some u) 1).toNat+j)=some v/\v.oneCell'=true)\/valP (some u) 2=0)/\segVals R (valP (some u) 0).toNat (valP (some u) 1).toNat (valP (some u) 2).toNat=bys bs/\valIs (some u) .slice=true:=by
 obtain⟨x,y,c,rfl,hy,h⟩:=h;by_cases hx:0<=x
 .have hs:=oa (R:=R) (x:=x) (y:=y) (l:=(bs.length:Int)) rfl hy h;rw[IT ae,JD hx hy,Db ae];exact⟨rfl,hs.1,hs.2,rfl⟩
 .rcases h with rfl | ⟨h,_⟩
  .have e:valP (some (.slice (slP x y) ([]:List Int).length c)) 2=(([]:List Int).length:Nat):=by
    cases slP x y with
    | none=>rfl
    | some a=>obtain⟨b,o,s⟩:=a;cases s<;>rfl
   rw[e];exact⟨rfl,Or.inr rfl,rfl,rfl⟩
  .omega
def bh {α:Type} {a b:α} {l m:List α} (h:a=b) (h':l=m):a::l=b::m:=by rw[h,h']
def az {q:Env} {j s:Nat} (hx:okW x) (a:(q.h 51).cell (q.i 9).toNat (Int.toNat 0+j)=some (.int .u32 x)) (hs:s<=24):(CV.int .u8 (.wrap .u8 (.shr .u64 (.wrap .u64 (.hI 51 (.var 9) (.lit 0) j)) (.lit (s:Int))))).ev q=Value.int .u8 (x/2 ^ s%256):=by
 show Value.int .u8 (IntKind.u8.wrap ((IntKind.u64.wrap (valI ((q.h 51).cell (q.i 9).toNat (Int.toNat 0+j)))).fdiv (2 ^ (min ((s:Int)).toNat IntKind.u64.bits))))=_;rw[a];unfold okW at hx;obtain⟨n,rfl⟩:∃ n:Nat,x=n:=⟨x.toNat,ae⟩;rw[show valI (some (Value.int .u32 (n:Int)))=(n:Int)from rfl,iG ae ae,uY (n:=n) (k:=s) ae rfl ae rfl];have b:((2:Int) ^ s)=((2 ^ s:Nat):Int):=by push_cast;rfl
 rw[b];rfl
def lD:Sx.Spec where
 fn:=69
 own:=[]
 rd:=[0,3000000,2000002]
 res:=[.agg (List.replicate 32 (Ck.int .u8))]
 pre:=fun xs Hs Rs=>∃ (x y:Int) (c:Nat) (R RA RG:Hl) (bs:List Int),xs=[.slice (slP x y) 1 c]/\Rs=[R,RA,RG]/\dz R RA (.slice (slP x y) 1 c) [bs]/\0<=y/\ah bs/\bs.length<=900000/\yE RG 2
 post:=fun xs Hs Rs v Hs' F=>∀ u R RA RG bs,xs=[u]->Rs=[R,RA,RG]->dz R RA u [bs]->v=.agg (bys (qI bs)).toArray
def Jk:List Sx.Spec:=[si,Cl]
def E9:∀ t∈Jk,t.OK Tryz.prog:=ai An <| ai Cm <| aD
def DB:Walk Tryz.prog Jk lD.fn where
 Λ:=fun p=>if eqN p [69,1,1,1,0,1,0]then some ⟨0,[(5,TI .i64 (.var 50))],[(5,.hp 51 [] [.var 9] [])],60⟩else none
 args:=[.sv (.one (.sl (.var 0) (.var 1) (.lit 1) (.var 2)))]
 mem:=[.ro 4 [.var 0] false,.ro 5 [] true,.ro 6 [.lit 2] false]
 nv:=7
def Kw:si.res=[.one .sl]:=rfl
def Kx:Cl.res=[]:=rfl
def xP {bs:List Int} {K:List Hl} (h:RdW R u bs) (hp:si.post [u] [] [R] v K F):OwB F 5 v (iu bs):=by
 obtain⟨b,bs',R',e1,a,h',ho⟩:=hp;simp only[MH,MZ]at e1 a;subst e1 a;rw[h.uniq h'];exact ho
def jx:∀ (n:Nat) (bs:List Int),bs.length=n->rowOK (bys bs) ((List.replicate n (Ck.int .u8)).map kdOf)
 | 0,[],_=>trivial
 | n+1,z::l,h=>⟨rfl,jx n l (by simpa using h)⟩
def uf {bs:List Int} (h:ah bs):ah (iu bs):=fun z hz=>by
 unfold iu at hz;rcases Nb.1 hz with hz | hz
 .rcases Nb.1 hz with hz | hz
  .rcases Nb.1 hz with hz | hz
   .exact h z hz
   .rw[MO.1 hz];omega
  .rw[(PG.1 hz).2];omega
 .unfold Es at hz;obtain⟨i,_,rfl⟩:=Np.1 hz;omega
def ny (all:List Int) (k:Nat):∀ j,j<8->okW (rV fN all k j):=Cj uH all k
def Ct {e:TypeId} {c:Int} {bs:List Int} (h:OwB F e (.slice (slP x y) l.toNat c.toNat) bs) (hl:0<=l) (b:0<=c):l=bs.length/\l<=c:=by
 obtain⟨_,a⟩:=h;rcases a with ⟨e,e0⟩ | ⟨g,cap,cur,e,_,hle,_⟩
 .simp only[Value.slice.injEq]at e;omega
 .simp only[Value.slice.injEq]at e;omega
def rH:lD.OK Tryz.prog:=by
 refine Spec.of_fn (Γ:=Jk) E9 ?_;rintro xs Hs Rs K ab ⟨x,y,c,R,RA,RG,bs,rfl,rfl,hR,hy,hb,hlen,hK⟩;have e0:Hs=[]:=MF.1 K;subst e0;refine⟨DB,envI [x,y,c] false [Hl.none,Hl.none,Hl.none,Hl.none,R,RA,RG],
  fun _ q=>∃ k:Nat,q.i 50=((64*k:Nat):Int)/\64*k<=(iu bs).length/\q.h 51=wH (q.i 9).toNat (s8 (rV fN (iu bs) k)) 188,
  fun _ q=>((iu bs).length-q.i 50).toNat,?_,bM (by intro r hr;simp [DB]at hr;rcases hr with rfl | rfl | rfl<;>exact⟨_,_,_,rfl⟩) rfl,(fun _ h=>nomatch h),?_⟩
 .show [Value.slice (slP x y) (Int.toNat 1) ((c:Int)).toNat]=_;rw[MD];rfl
 .refine Walk.read [] [] [] ?_;generalize t:envI [x,y,c] false [Hl.none,Hl.none,Hl.none,Hl.none,R,RA,RG]=J;have V:∀ q:Env,Agree 7 J q->q.i 0=x/\q.i 1=y/\q.h 4=R/\q.h 5=RA/\q.h 6=RG:=fun q hg=>by
   rw[hg.i 0,hg.i 1,hg.h 4,hg.h 5,hg.h 6,<-t];exact⟨rfl,rfl,rfl,rfl,rfl⟩
  clear t;have t1:Int.toNat 1=1:=rfl;obtain⟨_,av⟩:=hR.at hy;obtain⟨L,u,g,M⟩:=av 0 bs rfl;simp only[go_sem,Nat.reduceAdd,Jk,Kw,Kx,HT];intro q1 g1 _ q2 g2 _ q3 g3 p9;have G3:Agree 7 J q3:=g1.trans (g2.mono.tr g3);obtain⟨v0,v1,N,w5,w6⟩:=V q3 G3;have g:R.cell x.toNat y.toNat=some u:=g;obtain⟨u2,v,A,O⟩:=CT M;rw[v0,v1,N,w5,g];have t0:Int.toNat 0=0:=rfl;have Al:OwnsH Hl.none 5 1 (.slice (slP (-1) 0) (Int.toNat 0) (Int.toNat 0)) (Int.toNat 0) []:=⟨rfl,Or.inl ⟨rfl,rfl⟩⟩;have ul:(valP (some u) 2).toNat=bs.length:=by rw[u2,MD]
  refine⟨L,hy,O,⟨⟨[],Al⟩,MT _,v,by rw[ul,t0];unfold maxLen;omega,by rw[ul,t0];omega⟩,fun B g4 ⟨r1,r2,r3,_⟩=>?_⟩;have H:=r3 [] Al;rw[A,ul,t0,Nw,N1]at H;have G4:Agree 7 J B:=G3.tr g4;obtain⟨v0,v1,N,w5,w6⟩:=V B G4;rw[v0,v1,N,g,ul];have H:OwB (B.h 10) 5 (.slice (slP (B.i 10) 0) bs.length (B.i 11).toNat) bs:=H;have C:=H.rd.w;refine⟨⟨_,bs,_,rfl,rfl,C,ae⟩,fun f g5 ⟨F5,p5,Q,d⟩ q6 g6 S=>?_⟩;have I:=xP C p5;rw[<-Q zzT]at I;have d:-1<=f.i 12/\0<=f.i 13/\0<=f.i 14/\0<=f.i 15:=d.1;obtain⟨P,hP⟩:∃ P,P=iu bs:=⟨_,rfl⟩;have T:ah P:=by rw[hP];exact uf hb
  have U:=sg bs;rw[<-hP]at I U ⊢;obtain⟨c1,c2⟩:=Ct I d.2.2.1 d.2.2.2;have oR:=I.rd.w;refine⟨⟨0,rfl,NO _,?_⟩,fun q7 g7 ⟨k,D,hk,E⟩=>?_⟩
  .show q6.h 16=wH (q6.i 9).toNat (s8 fN) _;rw[S,g6.i 9];rfl
  have l:Agree 16 f q7:=g6.tr g7;have G7:Agree 7 J q7:=G4.trans (g5.mono.tr l);have F:0<=q7.i 9:=by rw[l.i 9,g5.i 9,g4.i 9];exact p9
  have W:q7.i 14=P.length:=by rw[l.i 14,c1]
  have X:q7.i 15=f.i 15:=l.i 15;rw[W,D];refine⟨ae,fun ad=>?_,fun af=>?_⟩
  .have aI:64*k+64<=P.length:=ae;have hw:IntKind.i64.wrap (((64*k:Nat):Int)+64)=((64*k:Nat):Int)+64:=wrap_i64 ae ae;rw[hw,X,l.i 12,l.i 13,l.h 12,(V q7 G7).2.2.2.2,E];have hsub:=wo oR d.1 d.2.1 (o:=64*k) (n:=64) aI (y':=f.i 13+((64*k:Nat):Int)) (Or.inr rfl) ae (f.i 15-((64*k:Nat):Int)).toNat;have Y:(((64*k:Nat):Int)+64-((64*k:Nat):Int)).toNat=64:=ae;have Z:¬f.i 15=((64*k:Nat):Int):=ae;have aa:((P.drop (64*k)).take 64).length=64:=by rw[M3,Nj];omega
   rw[MM Z,Y];have hptr:Value.pointer (slP (q7.i 9) 0)=.pointer (some ⟨(q7.i 9).toNat,0,none⟩):=by rw[slP_pos F];rfl
   refine⟨d.1,d.2.1,ae,ae,ae,⟨(q7.i 9).toNat,rV fN P k,f.i 12,f.i 13+((64*k:Nat):Int),(f.i 15-((64*k:Nat):Int)).toNat,_,_,_,by rw[hptr],rfl,rfl,ny P k,hsub,aa,ae,fun z hz=>T z (Ps (Ov hz)),ae,d.1,hK⟩,fun b p ⟨_,p8,_,_⟩=>?_⟩;have m:=p8 _ _ (rV fN P k) _ _ _ (by rw[hptr]) rfl rfl hsub;have m:b.h 60=wH (q7.i 9).toNat (s8 (gU (rV fN P k) ((P.drop (64*k)).take 64))) 188:=by simpa using m
   have ew:IntKind.i64.wrap (b.i 50+64)=((64*(k+1):Nat):Int):=by rw[p.i 50,D,hw];omega
   refine⟨⟨k+1,ew,ae,?_⟩,?_⟩
   .show b.h 60=wH (b.i 9).toNat (s8 (gU _ _)) _;rw[m,p.i 9]
   .show((P.length:Int)-IntKind.i64.wrap (b.i 50+64)).toNat<_;rw[ew];omega
  .intro b p _;have ek:k=P.length/64:=ae;have a:∀ j,j<8->(b.h 51).cell (b.i 9).toNat (Int.toNat 0+j)=some (.int .u32 (Gk bs j)):=fun j hj=>by
    rw[p.h 51,p.i 9,E,ek,hP];refine Br ?_;rw[show Int.toNat 0+j=j from Nw j];unfold s8;rw[MU,Nf hj];rfl
   have hok:∀ j,j<8->okW (Gk bs j):=fun j hj=>ny _ _ j hj;have hres:([.int .u8 (.wrap .u8 (.shr .u64 (.wrap .u64 (.hI 51 (.var 9) (.lit 0) 0)) (.lit 24))),.int .u8 (.wrap .u8 (.shr .u64 (.wrap .u64 (.hI 51 (.var 9) (.lit 0) 0)) (.lit 16))),.int .u8 (.wrap .u8 (.shr .u64 (.wrap .u64 (.hI 51 (.var 9) (.lit 0) 0)) (.lit 8))),.int .u8 (.wrap .u8 (.shr .u64 (.wrap .u64 (.hI 51 (.var 9) (.lit 0) 0)) (.lit 0))),.int .u8 (.wrap .u8 (.shr .u64 (.wrap .u64 (.hI 51 (.var 9) (.lit 0) 1)) (.lit 24))),.int .u8 (.wrap .u8 (.shr .u64 (.wrap .u64 (.hI 51 (.var 9) (.lit 0) 1)) (.lit 16))),.int .u8 (.wrap .u8 (.shr .u64 (.wrap .u64 (.hI 51 (.var 9) (.lit 0) 1)) (.lit 8))),.int .u8 (.wrap .u8 (.shr .u64 (.wrap .u64 (.hI 51 (.var 9) (.lit 0) 1)) (.lit 0))),.int .u8 (.wrap .u8 (.shr .u64 (.wrap .u64 (.hI 51 (.var 9) (.lit 0) 2)) (.lit 24))),.int .u8 (.wrap .u8 (.shr .u64 (.wrap .u64 (.hI 51 (.var 9) (.lit 0) 2)) (.lit 16))),.int .u8 (.wrap .u8 (.shr .u64 (.wrap .u64 (.hI 51 (.var 9) (.lit 0) 2)) (.lit 8))),.int .u8 (.wrap .u8 (.shr .u64 (.wrap .u64 (.hI 51 (.var 9) (.lit 0) 2)) (.lit 0))),.int .u8 (.wrap .u8 (.shr .u64 (.wrap .u64 (.hI 51 (.var 9) (.lit 0) 3)) (.lit 24))),.int .u8 (.wrap .u8 (.shr .u64 (.wrap .u64 (.hI 51 (.var 9) (.lit 0) 3)) (.lit 16))),.int .u8 (.wrap .u8 (.shr .u64 (.wrap .u64 (.hI 51 (.var 9) (.lit 0) 3)) (.lit 8))),.int .u8 (.wrap .u8 (.shr .u64 (.wrap .u64 (.hI 51 (.var 9) (.lit 0) 3)) (.lit 0))),.int .u8 (.wrap .u8 (.shr .u64 (.wrap .u64 (.hI 51 (.var 9) (.lit 0) 4)) (.lit 24))),.int .u8 (.wrap .u8 (.shr .u64 (.wrap .u64 (.hI 51 (.var 9) (.lit 0) 4)) (.lit 16))),.int .u8 (.wrap .u8 (.shr .u64 (.wrap .u64 (.hI 51 (.var 9) (.lit 0) 4)) (.lit 8))),.int .u8 (.wrap .u8 (.shr .u64 (.wrap .u64 (.hI 51 (.var 9) (.lit 0) 4)) (.lit 0))),.int .u8 (.wrap .u8 (.shr .u64 (.wrap .u64 (.hI 51 (.var 9) (.lit 0) 5)) (.lit 24))),.int .u8 (.wrap .u8 (.shr .u64 (.wrap .u64 (.hI 51 (.var 9) (.lit 0) 5)) (.lit 16))),.int .u8 (.wrap .u8 (.shr .u64 (.wrap .u64 (.hI 51 (.var 9) (.lit 0) 5)) (.lit 8))),.int .u8 (.wrap .u8 (.shr .u64 (.wrap .u64 (.hI 51 (.var 9) (.lit 0) 5)) (.lit 0))),.int .u8 (.wrap .u8 (.shr .u64 (.wrap .u64 (.hI 51 (.var 9) (.lit 0) 6)) (.lit 24))),.int .u8 (.wrap .u8 (.shr .u64 (.wrap .u64 (.hI 51 (.var 9) (.lit 0) 6)) (.lit 16))),.int .u8 (.wrap .u8 (.shr .u64 (.wrap .u64 (.hI 51 (.var 9) (.lit 0) 6)) (.lit 8))),.int .u8 (.wrap .u8 (.shr .u64 (.wrap .u64 (.hI 51 (.var 9) (.lit 0) 6)) (.lit 0))),.int .u8 (.wrap .u8 (.shr .u64 (.wrap .u64 (.hI 51 (.var 9) (.lit 0) 7)) (.lit 24))),.int .u8 (.wrap .u8 (.shr .u64 (.wrap .u64 (.hI 51 (.var 9) (.lit 0) 7)) (.lit 16))),.int .u8 (.wrap .u8 (.shr .u64 (.wrap .u64 (.hI 51 (.var 9) (.lit 0) 7)) (.lit 8))),.int .u8 (.wrap .u8 (.shr .u64 (.wrap .u64 (.hI 51 (.var 9) (.lit 0) 7)) (.lit 0)))].map (CV.ev b))=bys (qI bs):=bh (az (s:=24) (hok 0 ae) (a 0 ae) ae) (bh (az (s:=16) (hok 0 ae) (a 0 ae) ae) (bh (az (s:=8) (hok 0 ae) (a 0 ae) ae) (bh (az (s:=0) (hok 0 ae) (a 0 ae) ae) (bh (az (s:=24) (hok 1 ae) (a 1 ae) ae) (bh (az (s:=16) (hok 1 ae) (a 1 ae) ae) (bh (az (s:=8) (hok 1 ae) (a 1 ae) ae) (bh (az (s:=0) (hok 1 ae) (a 1 ae) ae) (bh (az (s:=24) (hok 2 ae) (a 2 ae) ae) (bh (az (s:=16) (hok 2 ae) (a 2 ae) ae) (bh (az (s:=8) (hok 2 ae) (a 2 ae) ae) (bh (az (s:=0) (hok 2 ae) (a 2 ae) ae) (bh (az (s:=24) (hok 3 ae) (a 3 ae) ae) (bh (az (s:=16) (hok 3 ae) (a 3 ae) ae) (bh (az (s:=8) (hok 3 ae) (a 3 ae) ae) (bh (az (s:=0) (hok 3 ae) (a 3 ae) ae) (bh (az (s:=24) (hok 4 ae) (a 4 ae) ae) (bh (az (s:=16) (hok 4 ae) (a 4 ae) ae) (bh (az (s:=8) (hok 4 ae) (a 4 ae) ae) (bh (az (s:=0) (hok 4 ae) (a 4 ae) ae) (bh (az (s:=24) (hok 5 ae) (a 5 ae) ae) (bh (az (s:=16) (hok 5 ae) (a 5 ae) ae) (bh (az (s:=8) (hok 5 ae) (a 5 ae) ae) (bh (az (s:=0) (hok 5 ae) (a 5 ae) ae) (bh (az (s:=24) (hok 6 ae) (a 6 ae) ae) (bh (az (s:=16) (hok 6 ae) (a 6 ae) ae) (bh (az (s:=8) (hok 6 ae) (a 6 ae) ae) (bh (az (s:=0) (hok 6 ae) (a 6 ae) ae) (bh (az (s:=24) (hok 7 ae) (a 7 ae) ae) (bh (az (s:=16) (hok 7 ae) (a 7 ae) ae) (bh (az (s:=8) (hok 7 ae) (a 7 ae) ae) (bh (az (s:=0) (hok 7 ae) (a 7 ae) ae) (rfl))))))))))))))))))))))))))))))));obtain⟨G,_,_,e2⟩:=row_rep (List.replicate 32 (Ck.int .u8)) 0 (bys (qI bs)) b (jx 32 _ (fO bs));refine⟨by rw[p.i 9];exact F,by rw[show(b.h 51).cell (b.i 9).toNat (Int.toNat 0)=_ from a 0 ae];rfl,by rw[show(b.h 51).cell (b.i 9).toNat (Int.toNat 0+1)=_ from a 1 ae];rfl,by rw[show(b.h 51).cell (b.i 9).toNat (Int.toNat 0+2)=_ from a 2 ae];rfl,by rw[show(b.h 51).cell (b.i 9).toNat (Int.toNat 0+3)=_ from a 3 ae];rfl,by rw[show(b.h 51).cell (b.i 9).toNat (Int.toNat 0+4)=_ from a 4 ae];rfl,by rw[show(b.h 51).cell (b.i 9).toNat (Int.toNat 0+5)=_ from a 5 ae];rfl,by rw[show(b.h 51).cell (b.i 9).toNat (Int.toNat 0+6)=_ from a 6 ae];rfl,by rw[show(b.h 51).cell (b.i 9).toNat (Int.toNat 0+7)=_ from a 7 ae];rfl,fun _=>⟨[],[],rfl,rfl,⟨G,?_,ckNorms_pure _ _ _ aj,zzT⟩,fun u' R' ag ai bs' h1 h2 h'=>?_⟩⟩
   .show Value.agg ([.int .u8 (.wrap .u8 (.shr .u64 (.wrap .u64 (.hI 51 (.var 9) (.lit 0) 0)) (.lit 24))),.int .u8 (.wrap .u8 (.shr .u64 (.wrap .u64 (.hI 51 (.var 9) (.lit 0) 0)) (.lit 16))),.int .u8 (.wrap .u8 (.shr .u64 (.wrap .u64 (.hI 51 (.var 9) (.lit 0) 0)) (.lit 8))),.int .u8 (.wrap .u8 (.shr .u64 (.wrap .u64 (.hI 51 (.var 9) (.lit 0) 0)) (.lit 0))),.int .u8 (.wrap .u8 (.shr .u64 (.wrap .u64 (.hI 51 (.var 9) (.lit 0) 1)) (.lit 24))),.int .u8 (.wrap .u8 (.shr .u64 (.wrap .u64 (.hI 51 (.var 9) (.lit 0) 1)) (.lit 16))),.int .u8 (.wrap .u8 (.shr .u64 (.wrap .u64 (.hI 51 (.var 9) (.lit 0) 1)) (.lit 8))),.int .u8 (.wrap .u8 (.shr .u64 (.wrap .u64 (.hI 51 (.var 9) (.lit 0) 1)) (.lit 0))),.int .u8 (.wrap .u8 (.shr .u64 (.wrap .u64 (.hI 51 (.var 9) (.lit 0) 2)) (.lit 24))),.int .u8 (.wrap .u8 (.shr .u64 (.wrap .u64 (.hI 51 (.var 9) (.lit 0) 2)) (.lit 16))),.int .u8 (.wrap .u8 (.shr .u64 (.wrap .u64 (.hI 51 (.var 9) (.lit 0) 2)) (.lit 8))),.int .u8 (.wrap .u8 (.shr .u64 (.wrap .u64 (.hI 51 (.var 9) (.lit 0) 2)) (.lit 0))),.int .u8 (.wrap .u8 (.shr .u64 (.wrap .u64 (.hI 51 (.var 9) (.lit 0) 3)) (.lit 24))),.int .u8 (.wrap .u8 (.shr .u64 (.wrap .u64 (.hI 51 (.var 9) (.lit 0) 3)) (.lit 16))),.int .u8 (.wrap .u8 (.shr .u64 (.wrap .u64 (.hI 51 (.var 9) (.lit 0) 3)) (.lit 8))),.int .u8 (.wrap .u8 (.shr .u64 (.wrap .u64 (.hI 51 (.var 9) (.lit 0) 3)) (.lit 0))),.int .u8 (.wrap .u8 (.shr .u64 (.wrap .u64 (.hI 51 (.var 9) (.lit 0) 4)) (.lit 24))),.int .u8 (.wrap .u8 (.shr .u64 (.wrap .u64 (.hI 51 (.var 9) (.lit 0) 4)) (.lit 16))),.int .u8 (.wrap .u8 (.shr .u64 (.wrap .u64 (.hI 51 (.var 9) (.lit 0) 4)) (.lit 8))),.int .u8 (.wrap .u8 (.shr .u64 (.wrap .u64 (.hI 51 (.var 9) (.lit 0) 4)) (.lit 0))),.int .u8 (.wrap .u8 (.shr .u64 (.wrap .u64 (.hI 51 (.var 9) (.lit 0) 5)) (.lit 24))),.int .u8 (.wrap .u8 (.shr .u64 (.wrap .u64 (.hI 51 (.var 9) (.lit 0) 5)) (.lit 16))),.int .u8 (.wrap .u8 (.shr .u64 (.wrap .u64 (.hI 51 (.var 9) (.lit 0) 5)) (.lit 8))),.int .u8 (.wrap .u8 (.shr .u64 (.wrap .u64 (.hI 51 (.var 9) (.lit 0) 5)) (.lit 0))),.int .u8 (.wrap .u8 (.shr .u64 (.wrap .u64 (.hI 51 (.var 9) (.lit 0) 6)) (.lit 24))),.int .u8 (.wrap .u8 (.shr .u64 (.wrap .u64 (.hI 51 (.var 9) (.lit 0) 6)) (.lit 16))),.int .u8 (.wrap .u8 (.shr .u64 (.wrap .u64 (.hI 51 (.var 9) (.lit 0) 6)) (.lit 8))),.int .u8 (.wrap .u8 (.shr .u64 (.wrap .u64 (.hI 51 (.var 9) (.lit 0) 6)) (.lit 0))),.int .u8 (.wrap .u8 (.shr .u64 (.wrap .u64 (.hI 51 (.var 9) (.lit 0) 7)) (.lit 24))),.int .u8 (.wrap .u8 (.shr .u64 (.wrap .u64 (.hI 51 (.var 9) (.lit 0) 7)) (.lit 16))),.int .u8 (.wrap .u8 (.shr .u64 (.wrap .u64 (.hI 51 (.var 9) (.lit 0) 7)) (.lit 8))),.int .u8 (.wrap .u8 (.shr .u64 (.wrap .u64 (.hI 51 (.var 9) (.lit 0) 7)) (.lit 0)))].map (CV.ev b)).toArray=Value.agg ((ckCVs 0 (List.replicate 32 (Ck.int .u8))).map (CV.ev G)).toArray;rw[hres,e2]
   .simp only[MH,MZ]at h1 h2;subst h1;obtain⟨rfl,rfl,rfl⟩:=h2;have e:=h'.uniq hR;simp only[MH,MZ]at e;subst e;show Value.agg ([.int .u8 (.wrap .u8 (.shr .u64 (.wrap .u64 (.hI 51 (.var 9) (.lit 0) 0)) (.lit 24))),.int .u8 (.wrap .u8 (.shr .u64 (.wrap .u64 (.hI 51 (.var 9) (.lit 0) 0)) (.lit 16))),.int .u8 (.wrap .u8 (.shr .u64 (.wrap .u64 (.hI 51 (.var 9) (.lit 0) 0)) (.lit 8))),.int .u8 (.wrap .u8 (.shr .u64 (.wrap .u64 (.hI 51 (.var 9) (.lit 0) 0)) (.lit 0))),.int .u8 (.wrap .u8 (.shr .u64 (.wrap .u64 (.hI 51 (.var 9) (.lit 0) 1)) (.lit 24))),.int .u8 (.wrap .u8 (.shr .u64 (.wrap .u64 (.hI 51 (.var 9) (.lit 0) 1)) (.lit 16))),.int .u8 (.wrap .u8 (.shr .u64 (.wrap .u64 (.hI 51 (.var 9) (.lit 0) 1)) (.lit 8))),.int .u8 (.wrap .u8 (.shr .u64 (.wrap .u64 (.hI 51 (.var 9) (.lit 0) 1)) (.lit 0))),.int .u8 (.wrap .u8 (.shr .u64 (.wrap .u64 (.hI 51 (.var 9) (.lit 0) 2)) (.lit 24))),.int .u8 (.wrap .u8 (.shr .u64 (.wrap .u64 (.hI 51 (.var 9) (.lit 0) 2)) (.lit 16))),.int .u8 (.wrap .u8 (.shr .u64 (.wrap .u64 (.hI 51 (.var 9) (.lit 0) 2)) (.lit 8))),.int .u8 (.wrap .u8 (.shr .u64 (.wrap .u64 (.hI 51 (.var 9) (.lit 0) 2)) (.lit 0))),.int .u8 (.wrap .u8 (.shr .u64 (.wrap .u64 (.hI 51 (.var 9) (.lit 0) 3)) (.lit 24))),.int .u8 (.wrap .u8 (.shr .u64 (.wrap .u64 (.hI 51 (.var 9) (.lit 0) 3)) (.lit 16))),.int .u8 (.wrap .u8 (.shr .u64 (.wrap .u64 (.hI 51 (.var 9) (.lit 0) 3)) (.lit 8))),.int .u8 (.wrap .u8 (.shr .u64 (.wrap .u64 (.hI 51 (.var 9) (.lit 0) 3)) (.lit 0))),.int .u8 (.wrap .u8 (.shr .u64 (.wrap .u64 (.hI 51 (.var 9) (.lit 0) 4)) (.lit 24))),.int .u8 (.wrap .u8 (.shr .u64 (.wrap .u64 (.hI 51 (.var 9) (.lit 0) 4)) (.lit 16))),.int .u8 (.wrap .u8 (.shr .u64 (.wrap .u64 (.hI 51 (.var 9) (.lit 0) 4)) (.lit 8))),.int .u8 (.wrap .u8 (.shr .u64 (.wrap .u64 (.hI 51 (.var 9) (.lit 0) 4)) (.lit 0))),.int .u8 (.wrap .u8 (.shr .u64 (.wrap .u64 (.hI 51 (.var 9) (.lit 0) 5)) (.lit 24))),.int .u8 (.wrap .u8 (.shr .u64 (.wrap .u64 (.hI 51 (.var 9) (.lit 0) 5)) (.lit 16))),.int .u8 (.wrap .u8 (.shr .u64 (.wrap .u64 (.hI 51 (.var 9) (.lit 0) 5)) (.lit 8))),.int .u8 (.wrap .u8 (.shr .u64 (.wrap .u64 (.hI 51 (.var 9) (.lit 0) 5)) (.lit 0))),.int .u8 (.wrap .u8 (.shr .u64 (.wrap .u64 (.hI 51 (.var 9) (.lit 0) 6)) (.lit 24))),.int .u8 (.wrap .u8 (.shr .u64 (.wrap .u64 (.hI 51 (.var 9) (.lit 0) 6)) (.lit 16))),.int .u8 (.wrap .u8 (.shr .u64 (.wrap .u64 (.hI 51 (.var 9) (.lit 0) 6)) (.lit 8))),.int .u8 (.wrap .u8 (.shr .u64 (.wrap .u64 (.hI 51 (.var 9) (.lit 0) 6)) (.lit 0))),.int .u8 (.wrap .u8 (.shr .u64 (.wrap .u64 (.hI 51 (.var 9) (.lit 0) 7)) (.lit 24))),.int .u8 (.wrap .u8 (.shr .u64 (.wrap .u64 (.hI 51 (.var 9) (.lit 0) 7)) (.lit 16))),.int .u8 (.wrap .u8 (.shr .u64 (.wrap .u64 (.hI 51 (.var 9) (.lit 0) 7)) (.lit 8))),.int .u8 (.wrap .u8 (.shr .u64 (.wrap .u64 (.hI 51 (.var 9) (.lit 0) 7)) (.lit 0)))].map (CV.ev b)).toArray=_;rw[hres]
section
variable {bs:List Int} {xs:List Value} {Rs:List Hl} {ms:Nat->Nat} {q:Env} {P B S:List Int} {k:Nat}
end
end Go.Proofs.YtbdikjnpbnobcaaGreatDoor
namespace Go.Proofs.YtbdikjnpbnobcaaGreatDoor
open Go Go.Sx Go.Pk Go.RowKit
variable {X e:E}{J q q2:Env}{F R:Hl}{x y:Int}{T:List (List Int)}{Hs K Rs:List Hl}{a b bs l t xs ys:List Int}{b' c c' h i n n' o o':Nat}{P:Program}{u v:Value}{w:World}
def tr8{q:Prop}(h:q):True/\True/\True/\True/\True/\True/\True/\True/\q:=⟨zzT,zzT,zzT,zzT,zzT,zzT,zzT,zzT,h⟩
def lex:List Int->List Int->Int
 | x::xs,y::ys=>if x<y then -1 else if y<x then 1 else lex xs ys
 | _,_=>0
def dv (T:List (List Int)):Prop:=∀ i,i+1<T.length->lex (T.getD i []) (T.getD (i+1) [])<0
def iI (w:World) (b o:Nat) (xs:List Int):Prop:=∀ i x,xs[i]?=some x->w.cell? ⟨b,o+i,none⟩=some (.int .u8 x)
def lJ {b:Nat} (h:iI w b o xs) (hn:xs.length=n):(Extern.Bytes.bytesOf (.slice (some ⟨b,o,none⟩) n c)).run P w=.ok ⟨(Lib.bytesOf xs).toArray⟩ w:=by
 have hl:=Lib.run_loadBytesX (P:=P) w xs ⟨b,o,none⟩ .empty (fun j x a=>by
  have e:(⟨b,o,none⟩:Addr).add j=⟨b,o+j,none⟩:=by unfold Addr.add;split<;>simp_all
  rw[e,h j x a])
 rw[hn]at hl;simp only[Extern.Bytes.bytesOf,hl]
 congr 1
 apply ByteArray.ext;show(#[]:Array UInt8)++(Lib.bytesOf xs).toArray=(Lib.bytesOf xs).toArray;simp
def vc (xs ys:List Int):Int:=Lib.compareBytes (Lib.bytesOf xs) (Lib.bytesOf ys)
def oM {b:Nat} (h:iI w b o xs) (hn:xs.length=n) (h':iI w b' o' ys) (a:ys.length=n') :
 (Extern.BytealgCompare.compare #[.slice (some ⟨b,o,none⟩) n c,.slice (some ⟨b',o',none⟩) n' c']).run P w=.ok (.int .i64 (vc xs ys)) w:=by
 change Sem.run P (do pure (goInt (Extern.BytealgCompare.cmp (<-Extern.Bytes.bytesOf (.slice (some ⟨b,o,none⟩) n c)) (<-Extern.Bytes.bytesOf (.slice (some ⟨b',o',none⟩) n' c'))))) w=_;simp only[Sem.run_bind,lJ h hn,lJ h' a,Result.andThen_ok,Sem.run_pure,Lib.cmp_eq];rfl
set_option maxRecDepth 20000 in
def pW {b:Nat} (h:iI w b o xs) (hn:xs.length=n) (h':iI w b' o' ys) (a:ys.length=n') :
 Calls Tryz.prog 191 #[.slice (some ⟨b,o,none⟩) n c,.slice (some ⟨b',o',none⟩) n' c'] w fun e w'=>e=.returned (.int .i64 (vc xs ys))/\Below w.heap.size w w':=by
 go_enter Tryz.func191,Tryz.ntmps191
 go_wp2
 rw[run_callFunc_extern Tryz.func199 zzK zzK zzK (e:=Extern.BytealgCompare.compare) zzK,oM h hn h' a];simp only[Result.andThen];rw[Oper.upon_value]
 go_wp2
 go_ret
 exact⟨rfl,Below.refl _ _⟩
def D4 (hx:0<=x/\x<256) (hy:0<=y/\y<256):(UInt8.ofNat x.toNat<UInt8.ofNat y.toNat)=(x<y):=by
 rw[UInt8.lt_iff_toNat_lt,PN (by simp;omega),PN (by simp;omega)];exact propext ae
def ve:∀ (xs ys:List Int),xs.length=ys.length->ah xs->ah ys->vc xs ys=lex xs ys
 | [],[],_,_,_=>rfl
 | x::xs,y::ys,h,hx,hy=>by
  have ih:=ve xs ys (by simpa using h) (fun z hz=>hx z (by simp [hz])) (fun z hz=>hy z (by simp [hz]));unfold vc Lib.bytesOf at ih ⊢;simp only[M6,Lib.compareBytes,lex,D4 (hx x ar) (hy y ar),D4 (hy y ar) (hx x ar),ih]
 | [],_::_,h,_,_=>by simp at h
 | _::_,[],h,_,_=>by simp at h
def gM:Sx.Spec where
 fn:=191
 own:=[]
 rd:=[0,1]
 res:=[.one (.int .i64)]
 pre:=fun xs Hs Rs=>∃ u v a b R1 R2,xs=[u,v]/\Rs=[R1,R2]/\RdB R1 u a/\RdB R2 v b/\a≠[]/\a.length=b.length/\ah a/\ah b
 post:=fun xs Hs Rs w Hs' F=>∃ u v a b R1 R2,xs=[u,v]/\Rs=[R1,R2]/\RdB R1 u a/\RdB R2 v b/\w=.int .i64 (lex a b)
def Dm (hs:R.sub w) (h:∀ j z,bs[j]?=some z->R.cell x.toNat (y.toNat+j)=some (.int .u8 z)):iI w x.toNat y.toNat bs:=fun j z hz=>Hl.sub_cell hs (h j z hz)
def ou:gM.OK Tryz.prog:=by
 refine calls_spec rfl fun w xs Rs hs ⟨u,v,a,b,R1,R2,e1,k,h1,h2,f,hl,g,i⟩=>?_;subst e1 k;obtain⟨x,y,c,rfl,hy,d⟩:=id h1;obtain⟨x',y',c',rfl,l,e⟩:=id h2;rcases d with ⟨_,h⟩ | ⟨hx,d⟩
 .exact absurd h f
 rcases e with ⟨_,h⟩ | ⟨j,e⟩
 .rw[h]at hl;exact absurd (MF.1 hl) f
 refine⟨.int .i64 (lex a b),⟨(ay fun _=>lex a b),rfl,zzT,zzT⟩,?_,_,_,a,b,R1,R2,rfl,rfl,h1,h2,rfl⟩;rw[slP_pos hx,slP_pos j,<-ve a b hl g i];exact pW (Dm (hs R1 ar) d) rfl (Dm (hs R2 ar) e) rfl
def tk:List Ck:=List.replicate 16 (.int .u8)
def dg:List Kd:=List.replicate 16 (.int .u8)
def jc (v:Value):List Int:=match v with
 | .agg a=>a.toList.map fun v=>valI (some v)
 | _=>[]
def IX (xs:List Value):Prop:=∀ v∈xs,ah (jc v)
def Du (xs:List Value):Value:=match xs with
 | [a,b]=>.int .i64 (lex (jc a) (jc b))
 | _=>.int .i64 0
def DI (xs:List Value):Value:=match xs with
 | [a,b]=>.bool (decide (lex (jc a) (jc b)<0))
 | _=>.bool false
def vf:Sx.Spec:=pureS 173 [.agg tk,.agg tk] [.one (.int .i64)] IX Du
def vQ:Sx.Spec:=pureS 103 [.agg tk,.agg tk] [.one .bool] (fun _=>True) DI
def Hp:Walk Tryz.prog [gM] 173 where
 Λ:=noLoops
 args:=(cpSVs 0 [.agg tk,.agg tk]).map .sv
 mem:=[]
 nv:=32
def ej (q:Env) (n:Nat):List Int:=(List.range 16).map fun j=>q.i (n+j)
def uQ (q:Env):inVs [.agg tk,.agg tk] q=[.agg ((ej q 0).map (Value.int .u8)).toArray,.agg ((ej q 16).map (Value.int .u8)).toArray]:=rfl
def bP (l:List Int):jc (.agg (l.map (Value.int .u8)).toArray)=l:=by
 show((l.map (Value.int .u8)).toArray.toList).map _=l;rw[NY];exact List.map_id'' (fun _=>rfl) l
def shape_int (z:Int):shapeOK [.one (.int .i64)] (.int .i64 z):=⟨(ay fun _=>z),rfl,zzT,zzT⟩
def shape_bool (b:Bool):shapeOK [.one .bool] (.bool b):=⟨⟨fun _=>0,fun _=>b,fun _=>.empty,fun _=>.tuple #[],fun _=>Hl.none⟩,rfl,zzT,zzT⟩
def mz {T:TypeId} {a:Nat} (h0:0<=q.i a) {cs:List CV} (b:∀ j z,l[j]?=some z->(cs.map (CV.ev q))[o+j]?=some (.int .u8 z)) (hn:n=l.length) {c:Int} : RdB ((Res.blk a cs T).hl q) (.slice (slP (q.i a) (o:Int)) ((n:Int)).toNat c.toNat) l:=by
 subst hn;refine⟨q.i a,o,c.toNat,by rw[MD],ae,Or.inr ⟨h0,fun j z hz=>?_⟩⟩;show(Hl.one (q.i a).toNat (.cells (cs.map (CV.ev q)).toArray T (0,0))).cell (q.i a).toNat _=_;unfold Hl.cell;rw[Hl.one_self,MD];show(cs.map (CV.ev q)).toArray[o+j]?=_;rw[N7];exact b j z hz
def Ml:[gM][0]?=some gM:=rfl
def Mm:gM.res=[.one (.int .i64)]:=rfl
def Mk:(cpRoots 34 [Cp.one (.int .i64)]≠[])=False:=by simp [cpRoots,Cp.roots,Ck.root]
def pK (g:Agree 32 q q2) (hn:n+16<=32):(ckCVs n tk).map (CV.ev q2)=(ej q n).map (Value.int .u8):=by
 show [Value.int .u8 (q2.i n),.int .u8 (q2.i (n+1)),.int .u8 (q2.i (n+2)),.int .u8 (q2.i (n+3)),.int .u8 (q2.i (n+4)),.int .u8 (q2.i (n+5)),.int .u8 (q2.i (n+6)),.int .u8 (q2.i (n+7)),.int .u8 (q2.i (n+8)),.int .u8 (q2.i (n+9)),.int .u8 (q2.i (n+10)),.int .u8 (q2.i (n+11)),.int .u8 (q2.i (n+12)),.int .u8 (q2.i (n+13)),.int .u8 (q2.i (n+14)),.int .u8 (q2.i (n+15))]=_;rw[g.i n,g.i (n+1),g.i (n+2),g.i (n+3),g.i (n+4),g.i (n+5),g.i (n+6),g.i (n+7),g.i (n+8),g.i (n+9),g.i (n+10),g.i (n+11),g.i (n+12),g.i (n+13),g.i (n+14),g.i (n+15)];rfl
def zj:vf.OK Tryz.prog:=by
 refine pure_of (Γ:=[gM]) (fun t e=>by rw[MO]at e;subst e;exact ou) Hp rfl rfl rfl (fun q _ _=>?_) (fun q o hN=>⟨fun _ _=>True,fun _ _=>0,?_⟩)
 .exact shape_int _
 .rw[uQ]at hN ⊢;have h1:ah (ej q 0):=by
   have:=hN _ (Nh ..);rwa[bP]at this
  have h2:ah (ej q 16):=by
   have:=hN _ (MW _ (Nh ..));rwa[bP]at this
  have k:Du [.agg ((ej q 0).map (Value.int .u8)).toArray,.agg ((ej q 16).map (Value.int .u8)).toArray]=.int .i64 (lex (ej q 0) (ej q 16)):=by
   show Value.int .i64 (lex (jc _) (jc _))=_;rw[bP,bP]
  simp only[k];refine Walk.read [] [] [] ?_;simp only[go_sem,Nat.reduceAdd,Ml,Mm,Mk];intro q1 l p1 q2 f p2;have g:Agree 32 q q2:=l.tr f;have c1:∀ j z,(ej q 0)[j]?=some z->((ckCVs 0 tk).map (CV.ev q2))[0+j]?=some (.int .u8 z):=by
   rw[pK g ae];intro j z hz;rw[Nw,MU,hz];rfl
  have c2:∀ j z,(ej q 16)[j]?=some z->((ckCVs 16 tk).map (CV.ev q2))[0+j]?=some (.int .u8 z):=by
   rw[pK g ae];intro j z hz;rw[Nw,MU,hz];rfl
  have d:0<=q2.i 32:=by rw[f.i 32];exact p1
  have r1:=mz (T:=34) (n:=16) (c:=16) d c1 rfl;have r2:=mz (T:=34) (n:=16) (c:=16) p2 c2 rfl;refine⟨⟨_,_,ej q 0,ej q 16,_,_,rfl,rfl,r1,r2,(by simp [ej]),rfl,h1,h2⟩,fun p g3 ⟨F,⟨u,v,a,b,R1,R2,hx,h,m,hb,hv⟩,_⟩=>?_⟩;simp only[MH,MZ]at hx h;obtain⟨rfl,rfl⟩:=hx;obtain⟨rfl,rfl⟩:=h;rw[<-m.uniq r1,<-hb.uniq r2];exact hv
def Ib:Walk Tryz.prog [] 103 where
 Λ:=noLoops
 args:=(cpSVs 0 [.agg tk,.agg tk]).map .sv
 mem:=[]
 nv:=32
def Fl {a b:Int} (h:¬a=b):decide (a<b)=decide (lex (a::xs) (b::ys)<0):=by
 unfold lex;by_cases h1:a<b
 .simp [h1]
 .have h2:b<a:=ae;simp [h1,h2]
def Fk {a b:Int} (h:a=b):lex (a::xs) (b::ys)=lex xs ys:=by
 subst h;show(if a<a then _ else if a<a then _ else _)=_;rw[MM (Qf _),MM (Qf _)]
def eJ {a b:Int} {Y:Prop} (hu:u=.bool (decide (a<b))) (hv:v=.bool (decide (lex (a::xs) (b::ys)<0))) (h:v=.bool (decide (lex xs ys<0))->Y):(¬a=b->u=v)/\(a=b->Y) :=
 ⟨fun hn=>by rw[hu,hv,Fl hn],fun he=>h (by rw[hv,Fk he])⟩
def pJ (q:Env) (n:Nat):ej q n=[q.i n,q.i (n+1),q.i (n+2),q.i (n+3),q.i (n+4),q.i (n+5),q.i (n+6),q.i (n+7),q.i (n+8),q.i (n+9),q.i (n+10),q.i (n+11),q.i (n+12),q.i (n+13),q.i (n+14),q.i (n+15)]:=rfl
def zX:vQ.OK Tryz.prog:=by
 refine pure_of (Γ:=[]) (fun t l=>by cases l) Ib rfl rfl rfl (fun q _ _=>?_) (fun q A hN=>⟨fun _ _=>True,fun _ _=>0,?_⟩)
 .exact shape_bool _
 .rw[uQ];have m:DI [.agg ((ej q 0).map (Value.int .u8)).toArray,.agg ((ej q 16).map (Value.int .u8)).toArray]=.bool (decide (lex (ej q 0) (ej q 16)<0)):=by
   show Value.bool (decide (lex (jc _) (jc _)<0))=_;rw[bP,bP]
  simp only[m];refine Walk.read [] [] [] ?_;simp only[go_sem,Nat.reduceAdd];intro q1 o p1 q2 p p2;have g:Agree 32 q q2:=o.tr p;have e:∀ n,n+16<=32->ej q n=ej q2 n:=fun n hn=>NL fun j r=>(g.i (n+j) (by have:=Nn.1 r;omega)).symm;rw[e 0 ae,e 16 ae,pJ,pJ];generalize a:Value.bool (decide (lex _ _<0))=V;have a:=a.symm;exact eJ rfl a fun h0=>eJ rfl h0 fun h1=>eJ rfl h1 fun h2=>eJ rfl h2 fun s=>eJ rfl s fun u=>eJ rfl u fun v=>eJ rfl v fun w=>eJ rfl w fun x=>eJ rfl x fun y=>eJ rfl y fun z=>eJ rfl z fun b=>eJ rfl b fun c=>eJ rfl c fun d=>eJ rfl d fun f=>eJ rfl f fun h=>eJ rfl h fun k=>(k.trans rfl).symm
def bO (T:List (List Int)):Prop:=T.length<=1000000/\∀ t∈T,t.length=16/\ah t
open Classical in
noncomputable def gr (f:FuncId):Sx.Spec where
 fn:=f
 own:=[]
 rd:=[0]
 res:=[.one .bool]
 pre:=fun xs Hs Rs=>∃ u R T,xs=[u]/\Rs=[R]/\RdRows R u dg (T.map bys)/\bO T
 post:=fun xs Hs Rs v Hs' F=>∃ u R T,xs=[u]/\Rs=[R]/\RdRows R u dg (T.map bys)/\v=.bool (decide (dv T))
def uL:List Sx.Spec:=[gM,vf,vQ]
def wI:∀ t∈uL,t.OK Tryz.prog:=ai ou <| ai zj <| ai zX <| aD
def MB:vf.res=[.one (.int .i64)]:=rfl
def L0:vQ.res=[.one .bool]:=rfl
def Mu (n:Nat):(cpRoots n [Cp.one (.int .i64)]≠[])=False:=by simp [cpRoots,Cp.roots,Ck.root]
def DW (n:Nat):(cpRoots n [Cp.one .bool]≠[])=False:=by simp [cpRoots,Cp.roots,Ck.root]
def wG:List TV:=[.sv (.one (.sl (.var 0) (.var 1) (.var 2) (.var 3)))]
def np:Walk Tryz.prog uL 140 where
 Λ:=fun p=>if xF p then some ⟨0,[(3,TI .i64 (.var 10))],[],12⟩else none
 args:=wG
 mem:=[.ro 4 [.var 0] false]
 nv:=5
def nO:Walk Tryz.prog uL 47 where
 Λ:=fun p=>if xF p then some ⟨0,[(3,TI .i64 (.var 10))],[],12⟩else none
 args:=wG
 mem:=[.ro 4 [.var 0] false]
 nv:=5
def D3 (e:a.length=16) (hb:b.length=16) (h1:ah a) (h2:ah b):(∃ q,cpNormsW 0 [.agg tk,.agg tk] q/\[.agg (bys a).toArray,.agg (bys b).toArray]=inVs [.agg tk,.agg tk] q)/\IX [.agg (bys a).toArray,.agg (bys b).toArray]:=by
 refine⟨⟨envI (a++b) false [],by simp [cpNormsW,cpNormW,tk,ckNormsW,ckNormW,ckNorms,ckNorm,List.replicate],?_⟩,?_⟩
 .rw[uQ];have e1:ej (envI (a++b) false []) 0=a:=by
   apply Ni;intro j;unfold ej;rw[MU];by_cases c:j<16
   .rw[Nf c,ME ae];show some ((a++b).getD (0+j) 0)=_;rw[Nw,MR,M5 ae,ME ae];rfl
   .rw[MS (by simp;omega),MS ae];rfl
  have d:ej (envI (a++b) false []) 16=b:=by
   apply Ni;intro j;unfold ej;rw[MU];by_cases c:j<16
   .rw[Nf c,ME ae];show some ((a++b).getD (16+j) 0)=_;rw[MR,MX ae,show 16+j-a.length=j by omega,ME ae];rfl
   .rw[MS (by simp;omega),MS ae];rfl
  rw[e1,d];rfl
 .intro v hv;simp only[MQ,MV,Nt]at hv;rcases hv with rfl | rfl
  .show ah (jc (.agg (a.map (Value.int .u8)).toArray));rw[bP];exact h1
  .show ah (jc (.agg (b.map (Value.int .u8)).toArray));rw[bP];exact h2
def kU (h:t.length=16):rowOK (bys t) dg:=by
 match t,h with
 | [_,_,_,_,_,_,_,_,_,_,_,_,_,_,_,_],_=>exact⟨rfl,rfl,rfl,rfl,rfl,rfl,rfl,rfl,rfl,rfl,rfl,rfl,rfl,rfl,rfl,rfl,zzT⟩
def jC (hx:0<=x) (hy:0<=y) (c:∀ (i:Nat) row,(T.map bys)[i]?=some row->rowOK row dg/\∀ j u,row[j]?=some u->R.cell x.toNat (y.toNat+i*dg.length+j)=some u) (d:T[i]?=some t) (hl:t.length=16) (e:J.h h=R) {Y:E} (hX:iev J X=x) (hY:iev J Y=y+i*16) :
 cellBytes R x.toNat (y+(i:Int)*16).toNat (Int.toNat 16)=true/\(romCells h X Y 0 (List.replicate 16 (Kd.int .u8))).map (CV.ev J)=bys t:=by
 have h1:=(c i (bys t) (by rw[MU,d];rfl)).2;have hlen:dg.length=16:=rfl;rw[hlen]at h1;have a:(y+(i:Int)*16).toNat=y.toNat+i*16:=ae;constructor
 .unfold cellBytes;rw[M8];intro j b;have b:j<16:=Nn.1 b;rw[a,h1 j (.int .u8 (t[j])) (by unfold bys;rw[MU,ME ae];rfl)];rfl
 .refine romCells_row (bys t) _ 0 (kU hl) fun j u hu=>?_;rw[e,hX,hY,a,Nw];exact h1 j u hu
def xh (hp:vf.post [.agg (bys a).toArray,.agg (bys b).toArray] Hs Rs v K F):v=.int .i64 (lex a b):=by
 have hp:v=.int .i64 (lex (jc (.agg (a.map (Value.int .u8)).toArray)) (jc (.agg (b.map (Value.int .u8)).toArray))):=hp;rw[bP,bP]at hp;exact hp
def xC (hp:vQ.post [.agg (bys a).toArray,.agg (bys b).toArray] Hs Rs v K F):v=.bool (decide (lex a b<0)):=by
 have hp:v=.bool (decide (lex (jc (.agg (a.map (Value.int .u8)).toArray)) (jc (.agg (b.map (Value.int .u8)).toArray))<0)):=hp;rw[bP,bP]at hp;exact hp
open Classical in
def ku {f:FuncId} {b:Bool} (h:RdRows R (.slice (slP x y) (T.map bys).length c) dg (T.map bys)) (hb:b=true↔dv T) (he:bev q e=b) {mem:Mem} : postOf (gr f) [.slice (slP x y) (T.map bys).length c] [] [R] q mem (.sv (.one (.bool e))):=by
 intro _;refine⟨[],[],rfl,rfl,⟨⟨fun _=>0,fun _=>b,fun _=>.empty,fun _=>.tuple #[],fun _=>Hl.none⟩,by show Value.bool (bev q e)=_;rw[he];rfl,zzT,zzT⟩,_,R,T,rfl,rfl,h,?_⟩;show Value.bool (bev q e)=_;rw[he]
 congr 1
 rw[OU,MI];exact hb
def kF:(gr 140).OK Tryz.prog:=by
 refine Spec.of_fn (Γ:=uL) wI ?_;rintro xs Hs Rs o z ⟨u,R,T,rfl,rfl,p,hT⟩;have e0:Hs=[]:=MF.1 o;subst e0;obtain⟨x,y,c,rfl,hy,d⟩:=id p;refine⟨np,envI [x,y,T.length,c] false [Hl.none,Hl.none,Hl.none,Hl.none,R],fun _ q=>∃ i:Nat,q.i 10=i/\1<=i/\i<=T.length+1/\∀ k,k+1<i->k+1<T.length->lex (T.getD k []) (T.getD (k+1) [])<0,fun _ q=>(T.length-q.i 10).toNat,?_,⟨?_,?_,?_,?_⟩,(fun _ h=>nomatch h),?_⟩
 .rw[M7];show [Value.slice (slP x y) ((T.length:Int)).toNat ((c:Int)).toNat]=_;rw[MD,MD]
 .intro r hr ho;simp [np]at hr;subst hr;cases ho
 .intro r hr ho;simp [np]at hr;subst hr;exact⟨R,ar,Hl.le_refl _⟩
 .simp [np]
 .intro r hr;simp [np]at hr;subst hr;trivial
 .refine Walk.read [] [] [] ?_;generalize a:envI [x,y,T.length,c] false [Hl.none,Hl.none,Hl.none,Hl.none,R]=J;have v0:J.i 0=x:=by rw[<-a];rfl
  have v1:J.i 1=y:=by rw[<-a];rfl
  have v2:J.i 2=T.length:=by rw[<-a];rfl
  have s:J.h 4=R:=by rw[<-a];rfl
  clear a;simp only[go_sem,Nat.reduceAdd,uL,MB,Mu];refine⟨⟨1,rfl,M1 _,ae,fun k h=>ae⟩,fun q g ⟨i,n,A,B,l⟩=>?_⟩;have C:=hT.1;rw[g.i 2,v2,n,g.i 0,v0,g.i 1,v1,g.h 4,s];have v:IntKind.i64.wrap ((i:Int)-1)=((i-1:Nat):Int):=by rw[IntWalk.i64_in _ ae];omega
  rw[v];refine⟨ae,fun h=>?_,fun h=>?_⟩
  .have e:i<T.length:=ae;rcases d with hn | ⟨hx,w⟩
   .rw[N9]at hn;rw[hn]at e;cases e
   have f:T[i-1]?=some (T[i-1]):=ME ae;have j:T[i]?=some (T[i]):=ME e;have m1:=hT.2 _ (MG f);have m2:=hT.2 _ (MG j);obtain⟨b1,r1⟩:=jC (J:=q) (h:=4) (X:=.var 0) (Y:=(E.var 1).add ((E.wrap IntKind.i64 ((E.var 10).sub (E.lit 1))).mul (E.lit 16))) hx hy w f m1.1 (by rw[g.h 4,s]) (by rw[iev_var,g.i 0,v0]) (by
    simp only[iev_add,iev_mul,iev_wrap,iev_sub,iev_var,iev_lit];rw[g.i 1,v1,n,v])
   obtain⟨b2,r2⟩:=jC (J:=q) (h:=4) (X:=.var 0) (Y:=(E.var 1).add ((E.var 10).mul (E.lit 16))) hx hy w j m2.1 (by rw[g.h 4,s]) (by rw[iev_var,g.i 0,v0]) (by
    simp only[iev_add,iev_mul,iev_var,iev_lit];rw[g.i 1,v1,n])
   rw[r1,r2];refine⟨hx,hy,ae,ae,b1,ae,b2,D3 m1.1 m2.1 m1.2 m2.2,fun q1 D ⟨F,hp,_⟩=>?_⟩;have hv:=xh hp;have hv:q1.i 12=lex T[i-1] T[i]:=by simpa using hv
   have d1:T.getD (i-1) []=T[i-1]:=by rw[MR,f];rfl
   have d2:T.getD (i-1+1) []=T[i]:=by rw[show i-1+1=i by omega,MR,j];rfl
   have m:IntKind.i64.wrap (q1.i 10+1)=((i+1:Nat):Int):=by rw[D.i 10,n,IntWalk.i64_in _ ae];omega
   rw[hv];refine⟨fun G=>ku (b:=false) p ⟨ar,fun hS=>?_⟩ rfl,fun hl=>⟨⟨i+1,m,ae,ae,fun k hk t=>?_⟩,?_⟩⟩
   .have:=hS (i-1) ae;rw[d1,d2]at this;omega
   .rcases ND (k+1) i with h1 | h1
    .exact l k h1 t
    .obtain rfl:k=i-1:=ae;rw[d1,d2];omega
   .show((T.length:Int)-IntKind.i64.wrap (q1.i 10+1)).toNat<_;rw[m];omega
  .exact ku (b:=true) p ⟨fun _ k hk=>l k ae hk,fun _=>rfl⟩ rfl
def xW:(gr 47).OK Tryz.prog:=by
 refine Spec.of_fn (Γ:=uL) wI ?_;rintro xs Hs Rs o A ⟨u,R,T,rfl,rfl,p,hT⟩;have e0:Hs=[]:=MF.1 o;subst e0;obtain⟨x,y,c,rfl,hy,d⟩:=id p;refine⟨nO,envI [x,y,T.length,c] false [Hl.none,Hl.none,Hl.none,Hl.none,R],fun _ q=>∃ i:Nat,q.i 10=i/\i<=T.length/\∀ k,k<i->k+1<T.length->lex (T.getD k []) (T.getD (k+1) [])<0,fun _ q=>(T.length-q.i 10).toNat,?_,⟨?_,?_,?_,?_⟩,(fun _ h=>nomatch h),?_⟩
 .rw[M7];show [Value.slice (slP x y) ((T.length:Int)).toNat ((c:Int)).toNat]=_;rw[MD,MD]
 .intro r hr ho;simp [nO]at hr;subst hr;cases ho
 .intro r hr ho;simp [nO]at hr;subst hr;exact⟨R,ar,Hl.le_refl _⟩
 .simp [nO]
 .intro r hr;simp [nO]at hr;subst hr;trivial
 .refine Walk.read [] [] [] ?_;generalize a:envI [x,y,T.length,c] false [Hl.none,Hl.none,Hl.none,Hl.none,R]=J;have v0:J.i 0=x:=by rw[<-a];rfl
  have v1:J.i 1=y:=by rw[<-a];rfl
  have v2:J.i 2=T.length:=by rw[<-a];rfl
  have s:J.h 4=R:=by rw[<-a];rfl
  clear a;simp only[go_sem,Nat.reduceAdd,uL,L0,DW];refine⟨⟨0,rfl,ae,fun k h=>ae⟩,fun q g ⟨i,n,B,l⟩=>?_⟩;have C:=hT.1;rw[g.i 2,v2,n,g.i 0,v0,g.i 1,v1,g.h 4,s];have t:IntKind.i64.wrap ((i:Int)+1)=((i+1:Nat):Int):=by rw[IntWalk.i64_in _ ae];omega
  rw[t];refine⟨ae,fun h=>?_,fun h=>?_⟩
  .have e:i+1<T.length:=ae;rcases d with hn | ⟨hx,z⟩
   .rw[N9]at hn;rw[hn]at e;cases e
   have f:T[i]?=some (T[i]):=ME ae;have j:T[i+1]?=some (T[i+1]):=ME e;have m1:=hT.2 _ (MG f);have m2:=hT.2 _ (MG j);obtain⟨b1,r1⟩:=jC (J:=q) (h:=4) (X:=.var 0) (Y:=(E.var 1).add ((E.var 10).mul (E.lit 16))) hx hy z f m1.1 (by rw[g.h 4,s]) (by rw[iev_var,g.i 0,v0]) (by
    simp only[iev_add,iev_mul,iev_var,iev_lit];rw[g.i 1,v1,n])
   obtain⟨b2,r2⟩:=jC (J:=q) (h:=4) (X:=.var 0) (Y:=(E.var 1).add ((E.wrap IntKind.i64 ((E.var 10).add (E.lit 1))).mul (E.lit 16))) hx hy z j m2.1 (by rw[g.h 4,s]) (by rw[iev_var,g.i 0,v0]) (by
    simp only[iev_add,iev_mul,iev_wrap,iev_var,iev_lit];rw[g.i 1,v1,n,t])
   rw[r1,r2];refine⟨hx,hy,ae,ae,b1,ae,b2,⟨(D3 m1.1 m2.1 m1.2 m2.2).1,zzT⟩,fun q1 D ⟨F,hp,_⟩=>?_⟩;have hv:=xC hp;have hv:q1.b 12=decide (lex T[i] T[i+1]<0):=by simpa [bev_bvar] using hv
   have d1:T.getD i []=T[i]:=by rw[MR,f];rfl
   have d2:T.getD (i+1) []=T[i+1]:=by rw[MR,j];rfl
   have m:IntKind.i64.wrap (q1.i 10+1)=((i+1:Nat):Int):=by rw[D.i 10,n,t]
   rw[hv,MI];refine⟨fun v=>ku (b:=false) p ⟨ar,fun hS=>?_⟩ rfl,fun hl=>⟨⟨i+1,m,ae,fun k hk w=>?_⟩,?_⟩⟩
   .have:=hS i ae;rw[d1,d2]at this;exact absurd this v
   .rcases ND k i with h1 | h1
    .exact l k h1 w
    .obtain rfl:k=i:=ae;rw[d1,d2];exact hl
   .show((T.length:Int)-IntKind.i64.wrap (q1.i 10+1)).toNat<_;rw[m];omega
  .exact ku (b:=true) p ⟨fun _ k hk=>l k ae hk,fun _=>rfl⟩ rfl
end Go.Proofs.YtbdikjnpbnobcaaGreatDoor
namespace Go.Proofs.YtbdikjnpbnobcaaGreatDoor
open Go Go.Sx Go.Pk
variable {q q1:Env}{f:FuncId}{F R R':Hl}{z:Int}{T:List (List Int)}{ks:List Kd}{row:List Value}{c k n:Nat}{u v:Value}
def i64:Ck:=.int .i64
def aI:List Ck:=[i64,.int .u64]++List.replicate 32 (.int .u8)++[i64,.bool,.int .u64]++List.replicate 16 (.int .u8)++[.sl]++List.replicate 6 (.int .u64)++List.replicate 32 (.int .u8)++[i64]++List.replicate 32 (.int .u8)
def cj:List Kd:=aI.map kdOf
def cI (l:List Value) (k:Nat):Int:=valI l[k]?
def cB (l:List Value) (k:Nat):Bool:=valB l[k]?
def dm (z:Int):Prop:=z=64\/z=128\/z=256\/z=512\/z=1024\/z=2048
instance (z:Int):Decidable (dm z):=by unfold dm;exact inferInstance
def Ey (z:Int):Int:=if z<64 then 64 else if z<128 then 128 else if z<256 then 256 else if z<512 then 512 else if z<1024 then 1024 else if z<2048 then 2048 else 0
def bS (z:Int):Prop:= -9223372036854775808<=z/\z<9223372036854775808
def Ir (xs:List Value):Value:=.bool (decide (dm (valI xs[0]?)))
def Fw:Sx.Spec:=pureS 141 [.one i64] [.one .bool] (fun xs=>bS (valI xs[0]?)) Ir
def Dq (xs:List Value):Value:=.int .i64 (Ey (valI xs[0]?))
def Ds:Sx.Spec:=pureS 102 [.one i64] [.one i64] (fun _=>True) Dq
def KQ:Walk Tryz.prog [] 141 where
 Λ:=noLoops
 args:=(cpSVs 0 [.one i64]).map .sv
 mem:=[]
 nv:=1
def Hc:Walk Tryz.prog [] 102 where
 Λ:=noLoops
 args:=(cpSVs 0 [.one i64]).map .sv
 mem:=[]
 nv:=1
def yz (h:bS z):IntKind.i64.wrap (z-1)=z-1\/IntKind.i64.wrap (z-1)=9223372036854775807/\z= -9223372036854775808:=by
 unfold bS at h;by_cases h1:z= -9223372036854775808
 .right;subst h1;exact⟨aj,rfl⟩
 .left;exact IntWalk.i64_in _ ae
def gO {b:Bool} {p:Prop} {_:Decidable p} (h:b=true↔p):Value.bool b=.bool (decide p):=by
 congr 1
 rw[OU,MI];exact h
def Cu:Fw.OK Tryz.prog:=by
 refine pure_of (Γ:=[]) (fun t b=>by cases b) KQ rfl rfl rfl (fun q _ _=>shape_bool _) (fun q d hN=>⟨fun _ _=>True,fun _ _=>0,?_⟩);have hN:bS (q.i 0):=hN;have c:Ir (inVs [.one i64] q)=.bool (decide (dm (q.i 0))):=rfl;simp only[c];refine Walk.read [] [] [] ?_;simp only[go_sem,Nat.reduceAdd,bev_tt,bev_ff];have hw:=yz hN;generalize IntKind.i64.wrap (q.i 0-1)=y at hw ⊢;have a:∀ {m:Int},(m=q.i 0↔dm (q.i 0))->Value.bool (bev q (.eq (.lit m) (.var 0)))=.bool (decide (dm (q.i 0))):=fun {m} h=>gO (by rw[bT_eq,iev_lit,iev_var];exact h);have ff:¬dm (q.i 0)->Value.bool false=.bool (decide (dm (q.i 0))):=fun h=>gO ⟨fun e=>(by cases e),fun e=>absurd e h⟩;unfold dm at a ff ⊢;exact⟨fun h=>ff ae,fun h0=>⟨fun h=>a ae,fun h1=>⟨fun h=>a ae,fun h2=>⟨fun h=>a ae,fun f=>⟨fun h=>a ae,fun g=>⟨fun h=>a ae,fun j=>⟨fun h=>a ae,fun k=>ff ae⟩⟩⟩⟩⟩⟩⟩
def yW:Ds.OK Tryz.prog:=by
 refine pure_of (Γ:=[]) (fun t c=>by cases c) Hc rfl rfl rfl (fun q _ _=>shape_int _) (fun q g hN=>⟨fun _ _=>True,fun _ _=>0,?_⟩);have d:Dq (inVs [.one i64] q)=.int .i64 (Ey (q.i 0)):=rfl;simp only[d];refine Walk.read [] [] [] ?_;simp only[go_sem,Nat.reduceAdd];intro q1 e _;rw[e.i 0];unfold Ey;exact⟨fun h=>by rw[M0 h],fun h0=>⟨fun h=>by rw[MM h0,M0 h],fun h1=>⟨fun h=>by rw[MM h0,MM h1,M0 h],fun h2=>⟨fun h=>by rw[MM h0,MM h1,MM h2,M0 h],fun a=>⟨fun h=>by rw[MM h0,MM h1,MM h2,MM a,M0 h],fun b=>⟨fun h=>by rw[MM h0,MM h1,MM h2,MM a,MM b,M0 h],fun f=>by rw[MM h0,MM h1,MM h2,MM a,MM b,MM f]⟩⟩⟩⟩⟩⟩
def gx (f:Nat->Int):Nat->Nat->Prop
 | _,0=>True
 | n,1=>f n=0
 | n,k+2=>f n=0/\gx f (n+1) (k+1)
def ja {f:Nat->Int} : ∀ (k n:Nat),gx f n k↔∀ j,j<k->f (n+j)=0
 | 0,n=>⟨fun _ j h=>ae,fun _=>trivial⟩
 | 1,n=>⟨fun h j a=>(by cases j with
  | zero=>exact h
  | succ j=>omega),fun h=>h 0 ae⟩
 | k+2,n=>by
  show(f n=0/\gx f (n+1) (k+1))↔_;rw[ja (k+1) (n+1)];constructor
  .rintro⟨h0,h⟩ j a;cases j with
   | zero=>exact h0
   | succ j=>have:=h j ae;rwa[show n+1+j=n+(j+1)by omega]at this
  .exact fun h=>⟨h 0 ae,fun j a=>by have:=h (j+1) ae;rwa[show n+(j+1)=n+1+j by omega]at this⟩
instance zerDec (f:Nat->Int):∀ (k n:Nat),Decidable (gx f n k)
 | 0,_=>isTrue trivial
 | 1,n=>(inferInstance:Decidable (f n=0))
 | k+2,n=>have:=zerDec f (k+1) (n+1);(inferInstance:Decidable (f n=0/\gx f (n+1) (k+1)))
def bg (l:List Value):Prop:=(1<=cI l 0/\cI l 0<=6)/\(1<=cI l 1/\cI l 1<=1048576)/\(0<=cI l 34/\cI l 34<=255)/\cI l 36<=1099511627776/\cI l (54+(cI l 0-1).toNat)=cI l 1-1/\(cI l 54<=1048576/\cI l 55<=1048576/\cI l 56<=1048576/\cI l 57<=1048576/\cI l 58<=1048576/\cI l 59<=1048576)/\(1<cI l 1\/gx (cI l) 2 32)
instance (l:List Value):Decidable (bg l):=by unfold bg;exact inferInstance
def Lj (v:Value):List Value:=match v with
 | .agg a=>a.toList
 | _=>[]
def wc (xs:List Value):Value:=.bool (decide (bg (Lj (xs.getD 0 (.bool false)))))
def qy:Sx.Spec:=pureS 139 [.agg aI] [.one .bool] (fun _=>True) wc
def CB:Walk Tryz.prog [] 139 where
 Λ:=noLoops
 args:=(cpSVs 0 [.agg aI]).map .sv
 mem:=[]
 nv:=128
def av (q:Env) (n:Nat):List Value:=(ckCVs n aI).map (CV.ev q)
def zV (q:Env) (h:1<=q.i 0/\q.i 0<=6):cI (av q 0) (54+(q.i 0-1).toNat)=if q.i 0-1=0 then q.i 57 else if q.i 0-1=1 then q.i 58 else if q.i 0-1=2 then q.i 59 else if q.i 0-1=3 then q.i 60 else if q.i 0-1=4 then q.i 61 else q.i 62:=by
 have:q.i 0=1\/q.i 0=2\/q.i 0=3\/q.i 0=4\/q.i 0=5\/q.i 0=6:=ae;rcases this with e | e | e | e | e | e<;>rw[e]<;>rfl
def bf (g:Agree 128 q q1):av q1 0=av q 0:=by
 have h:=ev_ag (n:=0) (ks:=aI) g (NS zzK);exact M4 (Value.agg.inj h)
def uh:qy.OK Tryz.prog:=by
 refine pure_of (Γ:=[]) (fun t g=>by cases g) CB rfl rfl rfl (fun q _ _=>shape_bool _) (fun q k hN=>⟨fun _ _=>True,fun _ _=>0,?_⟩);have j:wc (inVs [.agg aI] q)=.bool (decide (bg (av q 0))):=rfl;simp only[j];refine Walk.read [] [] [] ?_;simp only[go_sem,Nat.reduceAdd,bev_tt,bev_ff];intro q1 b _;rw[<-bf b];clear b;have c:bg (av q1 0)↔((1<=q1.i 0/\q1.i 0<=6)/\(1<=q1.i 1/\q1.i 1<=1048576)/\(0<=q1.i 34/\q1.i 34<=255)/\q1.i 36<=1099511627776/\cI (av q1 0) (54+(q1.i 0-1).toNat)=q1.i 1-1/\(q1.i 57<=1048576/\q1.i 58<=1048576/\q1.i 59<=1048576/\q1.i 60<=1048576/\q1.i 61<=1048576/\q1.i 62<=1048576)/\(1<q1.i 1\/gx (cI (av q1 0)) 2 32)):=Qd;have eK:=zV q1;have d:bev q1 (.and (.eq (.var 2) (.lit 0)) (.and (.eq (.var 3) (.lit 0)) (.and (.eq (.var 4) (.lit 0)) (.and (.eq (.var 5) (.lit 0)) (.and (.eq (.var 6) (.lit 0)) (.and (.eq (.var 7) (.lit 0)) (.and (.eq (.var 8) (.lit 0)) (.and (.eq (.var 9) (.lit 0)) (.and (.eq (.var 10) (.lit 0)) (.and (.eq (.var 11) (.lit 0)) (.and (.eq (.var 12) (.lit 0)) (.and (.eq (.var 13) (.lit 0)) (.and (.eq (.var 14) (.lit 0)) (.and (.eq (.var 15) (.lit 0)) (.and (.eq (.var 16) (.lit 0)) (.and (.eq (.var 17) (.lit 0)) (.and (.eq (.var 18) (.lit 0)) (.and (.eq (.var 19) (.lit 0)) (.and (.eq (.var 20) (.lit 0)) (.and (.eq (.var 21) (.lit 0)) (.and (.eq (.var 22) (.lit 0)) (.and (.eq (.var 23) (.lit 0)) (.and (.eq (.var 24) (.lit 0)) (.and (.eq (.var 25) (.lit 0)) (.and (.eq (.var 26) (.lit 0)) (.and (.eq (.var 27) (.lit 0)) (.and (.eq (.var 28) (.lit 0)) (.and (.eq (.var 29) (.lit 0)) (.and (.eq (.var 30) (.lit 0)) (.and (.eq (.var 31) (.lit 0)) (.and (.eq (.var 32) (.lit 0)) (.eq (.var 33) (.lit 0)))))))))))))))))))))))))))))))))=true↔gx (cI (av q1 0)) 2 32:=by
  simp only[bT_and,bT_eq,iev_var,iev_lit];exact Qd
 have ff:¬bg (av q1 0)->Value.bool false=.bool (decide (bg (av q1 0))):=fun h=>gO ⟨fun e=>(by cases e),fun e=>absurd e h⟩;have tt:bg (av q1 0)->Value.bool true=.bool (decide (bg (av q1 0))):=fun h=>gO ⟨fun _=>h,fun _=>rfl⟩;have a:(gx (cI (av q1 0)) 2 32↔bg (av q1 0))->Value.bool (bev q1 (.and (.eq (.var 2) (.lit 0)) (.and (.eq (.var 3) (.lit 0)) (.and (.eq (.var 4) (.lit 0)) (.and (.eq (.var 5) (.lit 0)) (.and (.eq (.var 6) (.lit 0)) (.and (.eq (.var 7) (.lit 0)) (.and (.eq (.var 8) (.lit 0)) (.and (.eq (.var 9) (.lit 0)) (.and (.eq (.var 10) (.lit 0)) (.and (.eq (.var 11) (.lit 0)) (.and (.eq (.var 12) (.lit 0)) (.and (.eq (.var 13) (.lit 0)) (.and (.eq (.var 14) (.lit 0)) (.and (.eq (.var 15) (.lit 0)) (.and (.eq (.var 16) (.lit 0)) (.and (.eq (.var 17) (.lit 0)) (.and (.eq (.var 18) (.lit 0)) (.and (.eq (.var 19) (.lit 0)) (.and (.eq (.var 20) (.lit 0)) (.and (.eq (.var 21) (.lit 0)) (.and (.eq (.var 22) (.lit 0)) (.and (.eq (.var 23) (.lit 0)) (.and (.eq (.var 24) (.lit 0)) (.and (.eq (.var 25) (.lit 0)) (.and (.eq (.var 26) (.lit 0)) (.and (.eq (.var 27) (.lit 0)) (.and (.eq (.var 28) (.lit 0)) (.and (.eq (.var 29) (.lit 0)) (.and (.eq (.var 30) (.lit 0)) (.and (.eq (.var 31) (.lit 0)) (.and (.eq (.var 32) (.lit 0)) (.eq (.var 33) (.lit 0))))))))))))))))))))))))))))))))))=.bool (decide (bg (av q1 0))):=fun h=>gO (d.trans h);generalize Value.bool (decide (bg (av q1 0)))=V at ff tt a ⊢;rw[c]at ff tt a;clear c d;refine⟨fun h=>ff ae,fun h0=>⟨fun h=>ff ae,fun h1=>?_⟩⟩;have eK:=eK ae;have w0:IntKind.i64.wrap (q1.i 0-1)=q1.i 0-1:=IntWalk.i64_in _ ae;rw[w0];rw[<-eK];generalize cI (av q1 0) (54+(q1.i 0-1).toNat)=K at ff tt a ⊢;generalize gx (cI (av q1 0)) 2 32=Z at ff tt a;refine⟨fun h=>ff ae,fun h2=>⟨fun h=>ff ae,fun l=>?_⟩⟩;have w1:IntKind.u64.wrap (q1.i 1-1)=q1.i 1-1:=iG ae ae;rw[w1];refine⟨fun h=>ff ae,fun m=>⟨fun h=>ff ae,fun n=>⟨fun h=>ff ae,fun o=>⟨ae,ae,fun h=>ff ae,fun f=>?_⟩⟩⟩⟩;refine⟨fun h=>ff ae,fun k0=>⟨fun h=>ff ae,fun k1=>⟨fun h=>ff ae,fun k2=>⟨fun h=>ff ae,fun k3=>⟨fun h=>ff ae,fun k4=>⟨fun h=>ff ae,fun k5=>⟨fun h=>a ⟨fun z=>?_,fun z=>?_⟩,fun h=>tt ?_⟩⟩⟩⟩⟩⟩⟩
 .exact⟨ae,ae,ae,ae,f,ae,Or.inr z⟩
 .rcases z.2.2.2.2.2.2 with z | z
  .omega
  .exact z
 .exact⟨ae,ae,ae,ae,f,ae,Or.inl h⟩
def kT:Value->Prop
 | .int .u8 z=>0<=z/\z<256
 | .int .u64 z=>0<=z/\z<18446744073709551616
 | .int .i64 z=>bS z
 | _=>True
structure Hd where
 c:List Value
 t:List (List Int)
variable {h h':Hd}
def Hd.Form (h:Hd):Prop:=bg h.c/\h.t.length<=8/\dv h.t/\dm (cI h.c 92-16)/\(cB h.c 35=true->h.t=[]/\gx (cI h.c) 37 16)
structure aG (R:Hl) (row:List Value) (h:Hd):Prop where
 ok:rowOK row cj
 rng:∀ v∈row,kT v
 core:h.c=row.set 53 (.bool false)
 tok:RdRows R (row.getD 53 (.bool false)) dg (h.t.map bys)
 byte:bO h.t
def cQ {rows:List (List Value)} (h:RdRows R v ks rows) (hl:R.le R'):RdRows R' v ks rows:=by
 obtain⟨x,y,c,e,hy,h⟩:=h;refine⟨x,y,c,e,hy,h.imp id fun⟨hx,h⟩=>⟨hx,fun i row hr=>⟨(h i row hr).1,fun j u hu=>?_⟩⟩⟩;have a:=(h i row hr).2 j u hu;unfold Hl.cell at a ⊢;cases b:R x.toNat with
 | none=>rw[b]at a;cases a
 | some o=>rw[hl _ _ b];rw[b]at a;exact a
def aG.mono (x:aG R row h) (hl:R.le R'):aG R' row h:=⟨x.ok,x.rng,x.core,cQ x.tok hl,x.byte⟩
def bm:∀ {a b:List (List Int)},a.map bys=b.map bys->a=b
 | [],[],_=>rfl
 | [],_::_,h=>by cases h
 | _::_,[],h=>by cases h
 | u::a,v::b,h=>by
  simp only[M6,MH]at h;rw[bys_inj h.1,bm h.2]
def aG.uniq (x:aG R row h) (y:aG R row h'):h=h':=by
 obtain⟨c,t⟩:=h;obtain⟨c',t'⟩:=h';have e1:c=c':=x.core.trans y.core.symm;have a:t=t':=bm (x.tok.uniq y.tok);rw[e1,a]
def ER (h:k≠53):cI (row.set 53 (.bool false)) k=cI row k:=by
 unfold cI;rw[Ny ae]
def EP (h:k≠53):cB (row.set 53 (.bool false)) k=cB row k:=by
 unfold cB;rw[Ny ae]
def aG.I (x:aG R row h) (hk:k≠53):cI h.c k=cI row k:=by rw[x.core,ER hk]
def aG.B (x:aG R row h) (hk:k≠53):cB h.c k=cB row k:=by rw[x.core,EP hk]
def iZ {f g:Nat->Int} (h:∀ j,j<k->f (n+j)=g (n+j)):gx f n k↔gx g n k:=by
 rw[ja,ja];exact⟨fun hf j a=>by rw[<-h j a];exact hf j a,fun hg j a=>by rw[h j a];exact hg j a⟩
def aG.form (x:aG R row h):h.Form↔(bg row/\h.t.length<=8/\dv h.t/\dm (cI row 92-16)/\(cB row 35=true->h.t=[]/\gx (cI row) 37 16)):=by
 have e1:bg h.c↔bg row:=by
  unfold bg;have hz:gx (cI h.c) 2 32↔gx (cI row) 2 32:=iZ fun j a=>x.I ae;have hk:cI h.c (54+(cI row 0-1).toNat)=cI row (54+(cI row 0-1).toNat):=x.I ae;rw[x.I (k:=0) aj,x.I (k:=1) aj,x.I (k:=34) aj,x.I (k:=36) aj,x.I (k:=54) aj,x.I (k:=55) aj,x.I (k:=56) aj,x.I (k:=57) aj,x.I (k:=58) aj,x.I (k:=59) aj,hz,hk]
 have b:gx (cI h.c) 37 16↔gx (cI row) 37 16:=iZ fun j a=>x.I ae;unfold Hd.Form;rw[e1,b,x.I (k:=92) aj,x.B (k:=35) aj]
def jL (h:rowOK row cj):∃ q:Env,row=av q 0/\q.h 130=R/\ckNormsW 0 aI q/\0<=q.i 54/\0<=q.i 55/\0<=q.i 56:=by
 obtain⟨q,_,hn,e⟩:=row_rep aI 0 row (ay fun _=>0) h;have hs:∀ (a b:List Ck) (n:Nat),ckNormsW n (a++b) q->ckNormsW (n+ckLen a) b q:=by
  intro a
  induction a with
  | nil=>intro b n h;simpa [ckLen] using h
  | cons k a ih =>
   intro b n h;have:=ih b (n+k.len) h.2;rw[show n+k.len+ckLen a=n+ckLen (k::a)by simp [ckLen];omega]at this;exact this
 have c:=hn;have hn:ckNormsW 0 (aI.take 53++(.sl::aI.drop 54)) q:=hn;have hs:=(hs (aI.take 53) (.sl::aI.drop 54) 0 hn).1;exact⟨⟨q.i,q.b,q.s,q.v,fun k=>if k=130 then R else Hl.none⟩,e.symm,rfl,c,hs.2.1,hs.2.2.1,hs.2.2.2⟩
open Classical in
noncomputable def bR (f:FuncId):Sx.Spec where
 fn:=f
 own:=[]
 rd:=[10053]
 res:=[.one .bool]
 pre:=fun xs Hs Rs=>∃ row R h,xs=[.agg row.toArray]/\Rs=[R]/\aG R row h
 post:=fun xs Hs Rs v Hs' F=>∃ row R h,xs=[.agg row.toArray]/\Rs=[R]/\aG R row h/\v=.bool (decide h.Form)
noncomputable def zt:List Sx.Spec:=[gr 140,gr 47,Fw,Ds,qy]
def Cb:∀ t∈zt,t.OK Tryz.prog:=ai kF <| ai xW <| ai Cu <| ai yW <| ai uh <| aD
def fg1:zt[1]?=some (gr 47):=rfl
def fr0 (f:FuncId):(gr f).res=[.one .bool]:=rfl
def L8:Fw.res=[.one .bool]:=rfl
def L9:qy.res=[.one .bool]:=rfl
noncomputable def mV:Walk Tryz.prog zt 91 where
 Λ:=noLoops
 args:=(cpSVs 0 [.agg aI]).map .sv
 mem:=[.ro 130 [.var 53] false]
 nv:=131
def kD:0+ckLen aI<=128:=NS zzK
def um {p:Option Addr} (h:RdRows R (.slice p n c) ks (T.map bys)):n=T.length:=by
 obtain⟨x,y,c',e,_⟩:=h;simp only[Value.slice.injEq,M7]at e;exact e.2.1
def Dg (z:Int):bS (IntKind.i64.wrap z):=by
 unfold bS;rw[IntKind.wrap_i64];omega
def Ao (h:bS z):dm (IntKind.i64.wrap (z-16))↔dm (z-16):=by
 unfold bS at h;unfold dm;rw[IntKind.wrap_i64];omega
def jQ (h:dm (z-16)):80<=z/\z<=2064:=by
 unfold dm at h;omega
def mK (P:Prop):∃ z:Int,P↔z=1:=by
 by_cases h:P
 .exact⟨1,fun _=>rfl,fun _=>h⟩
 .exact⟨0,fun x=>absurd x h,fun x=>absurd x aj⟩
open Classical in
def kC (hx:aG R row h) {e:E} (hb:bev q e=true↔h.Form) {mem:Mem} : postOf (bR f) [.agg row.toArray] [] [R] q mem (.sv (.one (.bool e))):=by
 intro _;exact⟨[],[],rfl,rfl,⟨⟨fun _=>0,fun _=>bev q e,fun _=>.empty,fun _=>.tuple #[],fun _=>Hl.none⟩,rfl,zzT,zzT⟩,_,R,h,rfl,rfl,hx,gO hb⟩
open Classical in
def pH {Hs K:List Hl} (h:RdRows R u dg (T.map bys)) (hp:(gr f).post [u] Hs [R] v K F):v=.bool (decide (dv T)):=by
 obtain⟨c,R',d,e1,a,b,hv⟩:=hp;simp only[MH,MZ]at e1 a;subst e1 a;rw[bm (h.uniq b)];exact hv
open Classical in
def dt:(bR 91).OK Tryz.prog:=by
 refine Spec.of_fn (Γ:=zt) Cb ?_;rintro xs Hs Rs p D ⟨row,R,h,rfl,rfl,hx⟩;have e0:Hs=[]:=MF.1 p;subst e0;obtain⟨J,rfl,j,s,E,u,F⟩:=jL (R:=R) hx.ok;refine⟨mV,J,fun _ _=>True,fun _ _=>0,?_,⟨?_,?_,?_,?_⟩,(fun _ h=>nomatch h),?_⟩
 .rfl
 .intro r hr ho;simp [mV]at hr;subst hr;cases ho
 .intro r hr ho;simp [mV]at hr;subst hr;exact⟨R,ar,by show(J.h 130).le R;rw[j];exact Hl.le_refl _⟩
 .simp [mV]
 .intro r hr;simp [mV]at hr;subst hr;trivial
 .refine Walk.read [aI] [] [] ?_;simp only[go_sem,Nat.reduceAdd,zt,fr0,L8,L9,DW];have k:=hx.form;have hT:=hx.tok;have hT:RdRows R (.slice (slP (J.i 53) (J.i 54)) (J.i 55).toNat (J.i 56).toNat) dg (h.t.map bys):=hT;have hlen:(J.i 55).toNat=h.t.length:=um hT;have v:cI (av J 0) 92=J.i 95:=rfl;have w:cB (av J 0) 35=J.b 35:=rfl;have l:bS (J.i 95):=hx.rng (.int .i64 (J.i 95)) (MG (i:=92) rfl);rw[v,w]at k;intro q1 x _;have Jj:av q1 0=av J 0:=bf x.mono;refine⟨⟨⟨q1,⟨ckNormsW_agree x.mono aI 0 kD s,zzT⟩,rfl⟩,zzT⟩,fun q2 G ⟨K,a,_⟩=>?_⟩;have a:Value.bool (q2.b 132)=.bool (decide (bg (av q1 0))):=a;rw[Jj]at a;simp only[Value.bool.injEq]at a;rw[a,MI];have m:Agree 131 J q2:=x.tr G;rw[m.i 55,m.i 53,m.i 54,m.i 56,m.h 130,j];have ff:∀ {q:Env} {mem:Mem},¬h.Form->postOf (bR 91) [.agg (av J 0).toArray] [] [R] q mem (.sv (.one (.bool .ff))):=fun hf=>kC hx ⟨fun e=>(by rw[bev_ff]at e;cases e),fun e=>absurd e hf⟩;refine⟨fun c=>⟨u,fun H=>⟨⟨_,R,h.t,rfl,rfl,hT,hx.byte⟩,fun B g3 ⟨L,y,_⟩=>?_⟩,fun H=>ff fun hf=>?_⟩,fun c=>ff fun hf=>c (k.1 hf).1⟩
  .have hs:=pH hT y;have hs:B.b 133=decide (dv h.t):=by simpa [bev_bvar] using hs
   rw[hs,MI];have C:Agree 131 J B:=m.tr g3;rw[C.i 95];refine⟨fun d=>⟨⟨⟨envI [IntKind.i64.wrap (J.i 95-16)] false [],⟨zzT,zzT⟩,rfl⟩,Dg _⟩,fun n g4 ⟨M,f,_⟩=>?_⟩,fun d=>ff fun hf=>d (k.1 hf).2.2.1⟩;have f:Value.bool (n.b 134)=.bool (decide (dm (IntKind.i64.wrap (J.i 95-16)))):=f;simp only[Value.bool.injEq]at f;rw[f,MI,Ao l];have z:Agree 131 J n:=C.tr g4;rw[z.b 35,z.i 55];refine⟨fun g=>ff fun hf=>g (k.1 hf).2.2.2.1,fun g=>⟨fun o=>⟨fun hz=>kC hx ?_,fun hz=>ff fun hf=>?_⟩,fun o=>kC hx ?_⟩⟩
   .have I:bev n (.and (.eq (.var 37) (.lit 0)) (.and (.eq (.var 38) (.lit 0)) (.and (.eq (.var 39) (.lit 0)) (.and (.eq (.var 40) (.lit 0)) (.and (.eq (.var 41) (.lit 0)) (.and (.eq (.var 42) (.lit 0)) (.and (.eq (.var 43) (.lit 0)) (.and (.eq (.var 44) (.lit 0)) (.and (.eq (.var 45) (.lit 0)) (.and (.eq (.var 46) (.lit 0)) (.and (.eq (.var 47) (.lit 0)) (.and (.eq (.var 48) (.lit 0)) (.and (.eq (.var 49) (.lit 0)) (.and (.eq (.var 50) (.lit 0)) (.and (.eq (.var 51) (.lit 0)) (.eq (.var 52) (.lit 0)))))))))))))))))=true↔gx (cI (av n 0)) 37 16:=by
     simp only[bT_and,bT_eq,iev_var,iev_lit];exact Qd
    rw[I,bf z.mono,k];refine⟨fun A=>⟨c,ae,d,g,fun _=>⟨MF.1 ae,A⟩⟩,fun hf=>(hf.2.2.2.2 o).2⟩
   .have:=((k.1 hf).2.2.2.2 o).1;rw[this]at hlen;exact hz (by simpa using (show J.i 55=0 by simp at hlen;omega))
   .rw[bev_tt,k];exact⟨fun _=>⟨c,ae,d,g,fun h=>absurd h o⟩,fun _=>rfl⟩
  .have:=(k.1 hf).2.1;omega
end Go.Proofs.YtbdikjnpbnobcaaGreatDoor
