/- RelayPlays. -/
import Derived.Test.YtomdimlnggpgbaaGreatDoorChecked
import Derived.LaidEql
import Derived.Stop.Asserts
import Derived.RowKitTokens
import Derived.Test.YtomdimlnggpgbaaGreatDoorTF
set_option linter.all false
set_option maxHeartbeats 4000000
namespace Go.Proofs.YtomdimlnggpgbaaGreatDoor.D
open Go Go.Sx
variable {D D':DM}{a i m most n place:Int}{L:LM}{all b bs h nt nt':List Int}{frm k:Nat}
def FB {q:Env} : ∀ (m n:Nat) (l:List Int),l.length=m->(∀ k,k<m->q.i (n+k)=l.getD k 0)->(ak n (List.replicate m (Ck.int .u8))).map (CV.ev q)=aS l
 | 0,n,[],_,_=>rfl
 | m+1,n,z::l,hl,h=>by
  rw[ac0];show CV.ev q (.int .u8 (.var n))::(ak (n+1) (List.replicate m (Ck.int .u8))).map (CV.ev q)=Value.int .u8 z::aS l;rw[FB m (n+1) l (by simpa using hl) fun k hk=>by rw[show n+1+k=n+(k+1)by omega,h (k+1) ah];rfl]
  congr 1
  show Value.int .u8 (q.i n)=_;have:=h 0 ah;rw[aa3]at this;rw[this];rfl
 | 0,_,_::_,h,_=>by simp at h
 | _+1,_,[],h,_=>by simp at h
def tq (L:LM) (all nt:List Int):List Int:=(L.serial+1)::(all.length:Int)::nt
def cf (D:DM) (L:LM) (all nt:List Int) (n:Nat):Int×DM :=
 if(hJ D L.frm all n).1≠0 then(5,(hJ D L.frm all n).2)
 else if(jl (hJ D L.frm all n).2 L.frm (tq L all nt)).1≠0 then(5,(jl (hJ D L.frm all n).2 L.frm (tq L all nt)).2)
 else(0,(jl (hJ D L.frm all n).2 L.frm (tq L all nt)).2)
def pt (L:LM) (all nt:List Int):LM:=⟨L.frm,L.most,L.serial+1,all.length,nt,L.over⟩
def Jg (L:LM):LM:={L with over:=true}
def sI:Sx.Spec where
 fn:=89
 own:=[.arg 0,.arg 1,.link 0 0]
 rd:=[]
 res:=[.one (.int .i64)]
 pre:=fun xs Hs Rs=>∃ p a u all nt H HA HD dp sl L n D,xs=[p,u,.agg (aS nt).toArray,.bool true]/\Hs=[H,HA,HD]/\p=.pointer (some ⟨a,0,none⟩)/\kq H a dp sl L/\sg sl n/\n<=1048576/\bM HA 5 u all/\all.length<=1048576/\nt.length=16/\aE HD dp D/\0<=L.serial/\L.serial<4611686018427387904
 post:=fun xs Hs Rs v Hs' F=>∃ p a u all nt H HA HD dp sl L n D H' HA' HD',xs=[p,u,.agg (aS nt).toArray,.bool true]/\Hs=[H,HA,HD]/\p=.pointer (some ⟨a,0,none⟩)/\kq H a dp sl L/\sg sl n/\bM HA 5 u all/\aE HD dp D/\Hs'=[H',HA',HD']/\aE HD' dp (cf D L all nt n).2/\v=.int .i64 (cf D L all nt n).1 /\
  ((cf D L all nt n).1=0->dt H' p dp (pt L all nt) all)/\((cf D L all nt n).1≠0->H'=Hl.one a (jq dp sl (Jg L)))
def wW:List Sx.Spec:=[DU,qj]
def FX:∀ t∈wW,t.OK Tryz.prog:=av MI <| av zT <| bN
def wV:aF Tryz.prog wW sI.fn where
 Λ:=aD
 args:=[TP (.var 0) (.lit 0),.sv (.one (.sl (.var 1) (.var 2) (.var 3) (.var 4))),.sv (.agg (ak 5 (sF 16))),.sv (.one (.bool (.bvar 60)))]
 mem:=[.bd 0 (ak 21 qO++[.sl (.var 43) (.var 44) (.var 45) (.var 46),.bool (.bvar 47)]) 145,.hp 48 [] [.var 1] [],.hp 49 [] [.var 21] []]
 nv:=61
def ZR:DU.res=[.one (.int .i64)]:=rfl
def ZS:qj.res=[.one (.int .i64)]:=rfl
def FU (a:Nat) (x:Int) (n c:Nat) (nt:List Int) (da:Nat) (L:LM) (sx sy:Int) (sn sc:Nat) (HA HD:Hl):Env :=
 ⟨fun k=>if k<5 then [(a:Int),x,0,n,c].getD k 0 else if k<21 then nt.getD (k-5) 0 else if k<43 then(iH da L).getD (k-21) 0 else [sx,sy,(sn:Int),(sc:Int)].getD (k-43) 0,fun k=>if k=60 then true else L.over,fun _=>.empty,fun _=>.tuple #[],fun k=>if k=48 then HA else HD⟩
def FV:sI.OK Tryz.prog:=by
 refine jU (Γ:=wW) FX ?_;rintro xs Hs Rs hl1 hl2 hdis ⟨p,a,u,all,nt,H,HA,HD,dp,sl,L,n,D,rfl,rfl,rfl,hL,hsl,hn,hO,hall,hnt,hD,hs0,hs1⟩;have e1:Rs=[]:=aad.1 hl2;subst e1;obtain⟨da,s,m,es,clock,hdp,hDi⟩:=id hD;obtain⟨x,c,hx,hu,hc,hcell⟩:=bM.rep hO;obtain⟨sx,sy,sc,hsl',hsx,hsy⟩:=id hsl;have eB:∀ (q:Env),ai 61 (FU a x all.length c nt da L sx sy n sc HA HD) q->(bm.bd 0 (ak 21 qO++[.sl (.var 43) (.var 44) (.var 45) (.var 46),.bool (.bvar 47)]) 145).hl q=Hl.one a (jq dp sl L):=by
  intro q g;have h1:∀ k,k<22->q.i (21+k)=(iH da L).getD k 0:=fun k hk=>by
   rw[g.i _ ah];show(if 21+k<5 then _ else if 21+k<21 then _ else if 21+k<43 then(iH da L).getD (21+k-21) 0 else _)=_;rw[aal ah,aal ah,aay ah,show 21+k-21=k by omega]
  show Hl.one (q.i 0).toNat (.cells ((ak 21 qO++[CV.sl (.var 43) (.var 44) (.var 45) (.var 46),.bool (.bvar 47)]).map (CV.ev q)).toArray _ (0,0))=_;rw[aaK,xk hL.1 h1,g.i 0];have e1:CV.ev q (.sl (.var 43) (.var 44) (.var 45) (.var 46))=sl:=by
   simp only[CV.ev,au,g.i 43,g.i 44,g.i 45,g.i 46];rw[hsl'];show Value.slice (ar sx sy) ((n:Int)).toNat ((sc:Int)).toNat=_;rw[aaa,aaa]
  have e2:CV.ev q (.bool (.bvar 47))=.bool L.over:=by
   show Value.bool (q.b 47)=_;rw[g.b 47];rfl
  rw[aax,aax,aa8,e1,e2,aaF,<-hdp];rfl
 refine⟨wV,FU a x all.length c nt da L sx sy n sc HA HD,fun _ _=>True,fun _ _=>0,?_,⟨?_,?_,?_,?_⟩,(fun _ h=>nomatch h),?_⟩
 .show [Value.pointer (ar (a:Int) 0),Value.slice (ar x 0) ((all.length:Int)).toNat ((c:Int)).toNat,Value.agg ((ak 5 (sF 16)).map (CV.ev _)).toArray,Value.bool true]=_;unfold sF;rw[jm,aaa,aaa,<-hu,FB 16 5 nt hnt fun k hk=>?_];show(if 5+k<5 then _ else if 5+k<21 then nt.getD (5+k-5) 0 else _)=_;rw[aal ah,aay ah,show 5+k-5=k by omega]
 .intro r hr ho;simp only[wV,aan,aat,aaX]at hr;rcases hr with rfl | rfl | rfl
  .refine⟨H,aC,?_⟩;rw[eB _ (ai.refl _ _)];intro b o hb;obtain⟨rfl,rfl⟩:=Hl.mK hb;exact hL.2
  .exact⟨HA,aC,Hl.le_refl _⟩
  .exact⟨HD,aC,Hl.le_refl _⟩
 .intro r hr ho;simp only[wV,aan,aat,aaX]at hr;rcases hr with rfl | rfl | rfl<;>cases ho
 .have d1:H.bq HA:=hdis 0 1 _ _ aA rfl rfl;have d2:H.bq HD:=hdis 0 2 _ _ aA rfl rfl;have d3:HA.bq HD:=hdis 1 2 _ _ aA rfl rfl;have hm:H.mem a:=by unfold Hl.mem;rw[hL.2];rfl
  refine List.Pairwise.cons (fun r hr _ _=>?_) (List.Pairwise.cons (fun r hr _ _=>?_) (List.Pairwise.cons (fun r hr=>by cases hr) List.Pairwise.nil))
  .simp only[aan,aat,aaX]at hr;rw[eB _ (ai.refl _ _)];rcases hr with rfl | rfl
   .exact Hl.fE.2 fun h=>d1 a ⟨hm,h⟩
   .exact Hl.fE.2 fun h=>d2 a ⟨hm,h⟩
  .rw[aam]at hr;subst hr;exact d3
 .intro r hr;simp only[wV,aan,aat,aaX]at hr;rcases hr with rfl | rfl | rfl
  .show(0:Int)<=(a:Int);omega
  .trivial
  .trivial
 .refine aF.read [] [] [] ?_;generalize hρ:FU a x all.length c nt da L sx sy n sc HA HD=J at eB ⊢;have v0:J.i 0=a:=by rw[<-hρ];rfl
  have v1:J.i 1=x:=by rw[<-hρ];rfl
  have v2:J.i 2=0:=by rw[<-hρ];rfl
  have v3:J.i 3=all.length:=by rw[<-hρ];rfl
  have v4:J.i 4=c:=by rw[<-hρ];rfl
  have v45:J.i 45=n:=by rw[<-hρ];rfl
  have b60:J.b 60=true:=by rw[<-hρ];rfl
  have w48:J.h 48=HA:=by rw[<-hρ];rfl
  have w49:J.h 49=HD:=by rw[<-hρ];rfl
  have rk:∀ k,k<22->J.i (21+k)=(iH da L).getD k 0:=fun k hk=>by
   rw[<-hρ];show(if 21+k<5 then _ else if 21+k<21 then _ else if 21+k<43 then(iH da L).getD (21+k-21) 0 else _)=_;rw[aal ah,aal ah,aay ah,show 21+k-21=k by omega]
  have rn:∀ k,k<16->J.i (5+k)=nt.getD k 0:=fun k hk=>by
   rw[<-hρ];show(if 5+k<5 then _ else if 5+k<21 then nt.getD (5+k-5) 0 else _)=_;rw[aal ah,aay ah,show 5+k-5=k by omega]
  simp only[go_sem,Nat.reduceAdd,wW,ZR,ZS];intro q1 g1 _;rw[g1.i 3,v3];refine⟨ah,fun q2 g2 _=>?_⟩;have G2:ai 61 J q2:=g1.tr g2;rw[G2.b 60,b60];refine⟨fun _=>?_,fun h=>absurd rfl h⟩;rw[G2.i 0,v0,G2.i 1,v1,G2.i 2,v2,G2.i 3,v3,G2.i 4,v4,G2.i 45,v45,G2.h 48,w48,G2.h 49,w49,jm,aaa,aaa,<-hu];have ls:∀ q:Env,ai 61 J q->CV.ev q (.sl (.var 43) (.var 44) (.var 45) (.var 46))=sl:=by
   intro q g;simp only[CV.ev,au,g.i 43,g.i 44,g.i 45,g.i 46];rw[<-hρ,hsl'];show Value.slice (ar sx sy) ((n:Int)).toNat ((sc:Int)).toNat=_;rw[aaa,aaa]
  have lk:∀ q:Env,ai 61 J q->∀ k,k<22->q.i (21+k)=(iH da L).getD k 0:=fun q g k hk=>by rw[g.i _ ah];exact rk k hk
  have eB2:∀ q:Env,ai 61 J q->Hl.one a (Obj.cells (List.map (CV.ev q) (ak 21 ([Ck.ptr,Ck.int IntKind.i64,Ck.int IntKind.i64,Ck.int IntKind.u64,Ck.int IntKind.u64]++List.replicate 16 (Ck.int IntKind.u8)++[Ck.sl,Ck.bool]))).toArray 145 (0,0))=Hl.one a (jq dp sl L):=by
   intro q g;have h:Hl.one (q.i 0).toNat (Obj.cells (List.map (CV.ev q) (ak 21 ([Ck.ptr,Ck.int IntKind.i64,Ck.int IntKind.i64,Ck.int IntKind.u64,Ck.int IntKind.u64]++List.replicate 16 (Ck.int IntKind.u8)++[Ck.sl,Ck.bool]))).toArray 145 (0,0))=Hl.one a (jq dp sl L):=eB q g;rw[g.i 0,v0,aaa]at h;exact h
  have eT:∀ q:Env,ai 61 J q->(bm.bd 0 (ak 21 ([Ck.ptr,Ck.int IntKind.i64,Ck.int IntKind.i64,Ck.int IntKind.u64,Ck.int IntKind.u64]++List.replicate 16 (Ck.int IntKind.u8)++[Ck.sl])++[CV.bool E.tt]) 145).hl q=Hl.one a (jq dp sl (Jg L)):=by
   intro q g;have h:(bm.bd 0 (ak 21 ([Ck.ptr,Ck.int IntKind.i64,Ck.int IntKind.i64,Ck.int IntKind.u64,Ck.int IntKind.u64]++List.replicate 16 (Ck.int IntKind.u8)++[Ck.sl])++[CV.bool E.tt]) 145).hl q=Hl.one (q.i 0).toNat (.cells ((ak 21 qO++[CV.sl (.var 43) (.var 44) (.var 45) (.var 46),.bool .tt]).map (CV.ev q)).toArray 145 (0,0)):=rfl;rw[h,aaK,xk hL.1 (lk q g),g.i 0,v0,aax,aax,aa8,ls q g,aaF,<-hdp,aaa];rfl
  have eN:∀ q:Env,ai 61 J q->(ak 5 (List.replicate 16 (Ck.int IntKind.u8))).map (CV.ev q)=aS nt:=fun q g=>FB 16 5 nt hnt fun k hk=>by rw[g.i _ ah];exact rn k hk
  have i23:∀ q:Env,ai 61 J q->q.i 21=da/\q.i 22=0/\q.i 23=L.frm/\q.i 24=L.most/\q.i 25=L.serial:=fun q g=>⟨lk q g 0 ah,lk q g 1 ah,lk q g 2 ah,lk q g 3 ah,lk q g 4 ah⟩;have wS:IntKind.u64.wrap (L.serial+1)=L.serial+1:=wrap_u64 ah ah;have wL:IntKind.u64.wrap (all.length:Int)=all.length:=wrap_u64 ah ah;have eH:∀ q:Env,ai 61 J q->List.map (CV.ev q) ([CV.int IntKind.u64 (E.wrap IntKind.u64 ((E.var 25).add (E.lit 1))),CV.int IntKind.u64 (E.wrap IntKind.u64 (E.var 3))]++ak 5 (List.replicate 16 (Ck.int IntKind.u8)))=nY (tq L all nt):=by
   intro q g;rw[aaK,eN q g];show [Value.int .u64 (IntKind.u64.wrap (q.i 25+1)),Value.int .u64 (IntKind.u64.wrap (q.i 3))]++aS nt=_;rw[(i23 q g).2.2.2.2,g.i 3,v3,wS,wL];rfl
  have eG:∀ q:Env,ai 61 J q->(bm.bd 0 ([CV.hptr (E.var 21) (E.var 22),CV.int IntKind.i64 (E.var 23),CV.int IntKind.i64 (E.var 24),CV.int IntKind.u64 (E.wrap IntKind.u64 ((E.var 25).add (E.lit 1))),CV.int IntKind.u64 (E.wrap IntKind.u64 (E.var 3))]++ak 5 (List.replicate 16 (Ck.int IntKind.u8))++[CV.sl (E.var 1) (E.var 2) (E.var 3) (E.var 4),CV.bool (E.bvar 47)]) 145).hl q=Hl.one a (jq dp u (pt L all nt)):=by
   intro q g;show Hl.one (q.i 0).toNat (.cells (List.map (CV.ev q) _).toArray _ (0,0))=_;rw[aaK,aaK,eN q g];obtain⟨j0,j1,j2,j3,j4⟩:=i23 q g;have eb:q.b 47=L.over:=by rw[g.b 47,<-hρ];rfl
   show Hl.one (q.i 0).toNat (.cells ([Value.pointer (ar (q.i 21) (q.i 22)),.int .i64 (q.i 23),.int .i64 (q.i 24),.int .u64 (IntKind.u64.wrap (q.i 25+1)),.int .u64 (IntKind.u64.wrap (q.i 3))]++aS nt++[Value.slice (ar (q.i 1) (q.i 2)) (q.i 3).toNat (q.i 4).toNat,.bool (q.b 47)]).toArray _ (0,0))=_;rw[j0,j1,j2,j3,j4,eb,g.i 0,v0,g.i 1,v1,g.i 2,v2,g.i 3,v3,g.i 4,v4,wS,wL,jm,<-hdp,aaa,aaa,aaa,<-hu,aaF];rfl
  have hRd:fF (Hl.one a (jq dp sl L)) (.pointer (some ⟨a,0,none⟩)) dp sl L:=⟨a,rfl,hL.1,Hl.aN _ _⟩;have bad:∀ (q:Env) (k:Nat) (vs:List Nat) (t:Mem) (r:Int×DM),ai 61 J q->cf D L all nt n=r->r.1=5->aE (q.h k) dp r.2 ->
   postOf sI [.pointer (some ⟨a,0,none⟩),u,.agg (aS nt).toArray,.bool true] [H,HA,HD] [] q (.bd 0 (ak 21 ([Ck.ptr,Ck.int IntKind.i64,Ck.int IntKind.i64,Ck.int IntKind.u64,Ck.int IntKind.u64]++List.replicate 16 (Ck.int IntKind.u8)++[Ck.sl])++[CV.bool E.tt]) 145::.hp 48 [] [.var 1] []::.hp k vs [.var 21] []::t) (.sv (.one (.int .i64 (.lit 5)))):=by
   intro q k vs t r hq hr h5 hd _;refine⟨[[0],[1],[2]],[],rfl,rfl,⟨(bh fun _=>5),rfl,zzT,zzT⟩,_,a,u,all,nt,H,HA,HD,dp,sl,L,n,D,_,_,_,rfl,rfl,rfl,hL,hsl,hO,hD,rfl,?_,?_,fun h=>?_,fun _=>?_⟩
   .show aE (cu [q.h k]) _ _;rw[aL,hr];exact hd
   .rw[hr,h5];rfl
   .rw[hr,h5]at h;cases h
   .show cu [_]=_;rw[aL];exact eT q hq
  rw[aaa,eB2 q2 G2];refine⟨ah,⟨_,u,all,n,HD,_,HA,dp,sl,L,D,rfl,rfl,rfl,hRd,hO,hD,ah,ah,ah⟩,fun q3 g3 ⟨F,⟨p',u',all',fr',Hx,R1,R2,dp',sl',L',Dx,H2,hx,hH,hR,hLx,hOx,hDx,hH2,hD2,hvq⟩,_,_⟩=>?_⟩;have hx:Value.pointer (some ⟨a,0,none⟩)=p'/\u=u'/\(n:Int)=fr':=by simpa using hx
  obtain⟨rfl,rfl,rfl⟩:=hx;have hH:HD=Hx:=by simpa using hH
  subst hH;have hR:Hl.one a (jq dp sl L)=R1/\HA=R2:=by simpa using hR
  obtain⟨rfl,rfl⟩:=hR;obtain⟨rfl,rfl,rfl⟩:=hRd.uniq hLx;have e:=hOx.rd.uniq hO.rd;subst e;have e:=hDx.uniq hD;subst e;have hH2:q3.h 63=H2:=by simpa using hH2
  rw[<-hH2]at hD2;have hvq:q3.i 63=(hJ Dx L.frm all' n).1:=by simpa using hvq
  have G3:ai 61 J q3:=G2.tr g3;rw[G3.i 0,v0,jm,aaa,eB2 q3 G3,eH q3 G3];have hNH:rS (tq L all' nt):=⟨by simp [tq,hnt],⟨by show 0<=L.serial+1;omega,by show L.serial+1<_;omega⟩,by show(0:Int)<=(all'.length:Int);omega,by show(all'.length:Int)<_;omega⟩;refine⟨fun h63=>⟨⟨_,_,_,_,dp,sl,L,_,rfl,rfl,rfl,hRd,hD2,hNH⟩,fun q4 g4 ⟨F,⟨p',h',Hx,R1,dp',sl',L',Dy,H3,hx,hH,hR,hLy,hDy,hh',hH3,hD3,hvt⟩,_,_⟩=>?_⟩,fun h63=>bad q3 63 _ _ (5,(hJ Dx L.frm all' n).2) G3 (by unfold cf;rw[aay (by rw[<-hvq];exact h63)]) rfl hD2⟩;have hx:Value.pointer (some ⟨a,0,none⟩)=p'/\Value.agg (nY (tq L all' nt)).toArray=Value.agg (nY h').toArray:=by simpa using hx
  obtain⟨rfl,hx2⟩:=hx;have e:=PS hNH.1 hh'.1 hx2;subst e;have hH:q3.h 63=Hx:=by simpa using hH
  subst hH;have hR:Hl.one a (jq dp sl L)=R1:=by simpa using hR
  subst hR;obtain⟨rfl,rfl,rfl⟩:=hRd.uniq hLy;have e:=hDy.uniq hD2;subst e;have hH3:q4.h 65=H3:=by simpa using hH3
  rw[<-hH3]at hD3;have hvt:q4.i 65=(jl (hJ Dx L.frm all' n).2 L.frm (tq L all' nt)).1:=by simpa using hvt
  have G4:ai 61 J q4:=G3.tr g4;have hnb:¬(hJ Dx L.frm all' n).1≠0:=by rw[<-hvq,h63];simp
  refine⟨fun h65=>bad q4 65 _ _ (5,(jl (hJ Dx L.frm all' n).2 L.frm (tq L all' nt)).2) G4 (by unfold cf;rw[aal hnb,aay (by rw[<-hvt];exact h65)]) rfl hD3,fun h65 hd=>?_⟩;have hr:cf Dx L all' nt n=(0,(jl (hJ Dx L.frm all' n).2 L.frm (tq L all' nt)).2):=by
   unfold cf;rw[aal hnb,aal (by rw[<-hvt,h65];simp)]
  have hd01:=hd 0 1 _ _ aA rfl rfl rfl;rw[eG q4 G4]at hd01;refine⟨[[0,1],[],[2]],[],rfl,rfl,⟨(bh fun _=>0),rfl,zzT,zzT⟩,_,a,u,all',nt,H,HA,HD,dp,sl,L,n,Dx,_,_,_,rfl,rfl,rfl,hL,hsl,hO,hD,rfl,?_,?_,fun _=>?_,fun h=>?_⟩
  .show aE (cu [q4.h 65]) _ _;rw[aL,hr];exact hD3
  .rw[hr];rfl
  .have e48:q4.h 48=HA:=by rw[G4.h 48,w48]
   have hd01:(Hl.one a (jq dp u (pt L all' nt))).bq (q4.h 48):=hd01;rw[e48]at hd01;refine⟨a,u,HA,rfl,⟨hL.1.frm,hL.1.most,hnt⟩,hO,hd01,?_⟩;rw[<-e48];exact aaQ (fun z=>cu [z,q4.h 48]) (eG q4 G4)
  .rw[hr]at h;exact absurd rfl h
structure AR where
 e:Int
 D:DM
 L:LM
 bs:List Int
def bp (D:DM) (L:LM) (bs b nt:List Int):AR :=
 if L.over then⟨5,D,L,bs⟩
 else if 4611686018427387904<=L.serial then⟨14,D,L,bs⟩
 else if L.most-bs.length<b.length then⟨4,D,L,bs⟩
 else if(cf D L (bs++b) nt bs.length).1=0 then⟨0,(cf D L (bs++b) nt bs.length).2,pt L (bs++b) nt,bs++b⟩
 else⟨5,(cf D L (bs++b) nt bs.length).2,Jg L,bs⟩
def BM (D:DM) (L:LM) (all nt:List Int) (n:Nat):(cf D L all nt n).1=0\/(cf D L all nt n).1=5:=by
 unfold cf;split
 .exact Or.inr rfl
 .split
  .exact Or.inr rfl
  .exact Or.inl rfl
def qn:Sx.Spec where
 fn:=53
 own:=[.arg 0,.link 0 0]
 rd:=[1]
 res:=[.one (.int .i64)]
 pre:=fun xs Hs Rs=>∃ p u b nt H HD R dp L bs D,xs=[p,u,.agg (aS nt).toArray]/\Hs=[H,HD]/\Rs=[R]/\dt H p dp L bs/\aE HD dp D/\fC R u b/\bs.length<=1048576/\nt.length=16/\0<=L.serial
 post:=fun xs Hs Rs v Hs' F=>∃ p u b nt H HD R dp L bs D H' HD',xs=[p,u,.agg (aS nt).toArray]/\Hs=[H,HD]/\Rs=[R]/\dt H p dp L bs/\aE HD dp D/\fC R u b/\Hs'=[H',HD']/\aE HD' dp (bp D L bs b nt).D/\dt H' p dp (bp D L bs b nt).L (bp D L bs b nt).bs/\v=.int .i64 (bp D L bs b nt).e
def wT:List Sx.Spec:=[wm,fJ,sI]
def FQ:∀ t∈wT,t.OK Tryz.prog:=av E8 <| av Ar <| av FV <| bN
def wR:aF Tryz.prog wT qn.fn where
 Λ:=aD
 args:=[TP (.var 0) (.lit 0),.sv (.one (.sl (.var 1) (.var 2) (.var 3) (.var 4))),.sv (.agg (ak 5 (sF 16)))]
 mem:=[.bd 0 (ak 21 qO++[.sl (.var 43) (.var 44) (.var 45) (.var 46),.bool (.bvar 47)]) 145,.hp 48 [] [.var 21] [],.hp 49 [] [.var 43] [],.ro 50 [.var 1] false]
 nv:=51
def ZO:wm.res=[.one (.int .i64)]:=rfl
def ZP:fJ.res=[.one .sl]:=rfl
def ZQ:sI.res=[.one (.int .i64)]:=rfl
def ZM:(aT 0 [Cp.one .sl]≠[])=True:=by simp [aT,Cp.roots,Ck.root]
def R0 (a:Nat) (x y:Int) (n c:Nat) (nt:List Int) (da:Nat) (L:LM) (sx:Int) (sn sc:Nat) (HD HB R:Hl):Env :=
 ⟨fun k=>if k<5 then [(a:Int),x,y,n,c].getD k 0 else if k<21 then nt.getD (k-5) 0 else if k<43 then(iH da L).getD (k-21) 0 else [sx,0,(sn:Int),(sc:Int)].getD (k-43) 0,fun _=>L.over,fun _=>.empty,fun _=>.tuple #[],fun k=>if k=48 then HD else if k=49 then HB else R⟩
def FO:qn.OK Tryz.prog:=by
 refine jU (Γ:=wT) FQ ?_;rintro xs Hs Rs hl1 hl2 hdis ⟨p,u,b,nt,H,HD,R,dp,L,bs,D,rfl,rfl,rfl,hAt,hD,hB,hbs,hnt,hs0⟩;obtain⟨a,sl,HB,rfl,hok,hO,hone,hH⟩:=id hAt;obtain⟨da,s,m,es,clock,hdp,hDi⟩:=id hD;obtain⟨x,y,c,hu,hy,hcell⟩:=id hB;obtain⟨sx,sc,hsx,hsl,hsc,_⟩:=bM.rep hO;generalize hρ:R0 a x y b.length c nt da L sx bs.length sc HD HB R=J;have v0:J.i 0=a:=by rw[<-hρ];rfl
 have v1:J.i 1=x:=by rw[<-hρ];rfl
 have v2:J.i 2=y:=by rw[<-hρ];rfl
 have v3:J.i 3=b.length:=by rw[<-hρ];rfl
 have v4:J.i 4=c:=by rw[<-hρ];rfl
 have w48:J.h 48=HD:=by rw[<-hρ];rfl
 have w49:J.h 49=HB:=by rw[<-hρ];rfl
 have w50:J.h 50=R:=by rw[<-hρ];rfl
 have b47:J.b 47=L.over:=by rw[<-hρ];rfl
 have rk:∀ k,k<22->J.i (21+k)=(iH da L).getD k 0:=fun k hk=>by
  rw[<-hρ];show(if 21+k<5 then _ else if 21+k<21 then _ else if 21+k<43 then(iH da L).getD (21+k-21) 0 else _)=_;rw[aal ah,aal ah,aay ah,show 21+k-21=k by omega]
 have rn:∀ k,k<16->J.i (5+k)=nt.getD k 0:=fun k hk=>by
  rw[<-hρ];show(if 5+k<5 then _ else if 5+k<21 then nt.getD (5+k-5) 0 else _)=_;rw[aal ah,aay ah,show 5+k-5=k by omega]
 have lk:∀ q:Env,ai 51 J q->∀ k,k<22->q.i (21+k)=(iH da L).getD k 0:=fun q g k hk=>by rw[g.i _ ah];exact rk k hk
 have ls:∀ q:Env,ai 51 J q->CV.ev q (.sl (.var 43) (.var 44) (.var 45) (.var 46))=sl:=by
  intro q g;simp only[CV.ev,au,g.i 43,g.i 44,g.i 45,g.i 46];rw[<-hρ,hsl];show Value.slice (ar sx 0) ((bs.length:Int)).toNat ((sc:Int)).toNat=_;rw[aaa,aaa]
 have eB:∀ (q:Env),ai 51 J q->(bm.bd 0 (ak 21 qO++[.sl (.var 43) (.var 44) (.var 45) (.var 46),.bool (.bvar 47)]) 145).hl q=Hl.one a (jq dp sl L):=by
  intro q g;show Hl.one (q.i 0).toNat (.cells ((ak 21 qO++[CV.sl (.var 43) (.var 44) (.var 45) (.var 46),.bool (.bvar 47)]).map (CV.ev q)).toArray _ (0,0))=_;have e2:CV.ev q (.bool (.bvar 47))=.bool L.over:=by
   show Value.bool (q.b 47)=_;rw[g.b 47,b47]
  rw[aaK,xk hok (lk q g),g.i 0,v0,aax,aax,aa8,ls q g,e2,aaF,<-hdp,aaa];rfl
 have hle1:(Hl.one a (jq dp sl L)).le H:=by rw[hH];exact Hl.aX _ _
 have hle2:HB.le H:=by
  rw[hH];show HB.le ((Hl.one a (jq dp sl L)).un (cu [HB]));rw[aL];exact Hl.bj hone
 have hHD:H.bq HD:=hdis 0 1 _ _ aA rfl rfl;refine⟨wR,J,fun _ _=>True,fun _ _=>0,?_,⟨?_,?_,?_,?_⟩,(fun _ h=>nomatch h),?_⟩
 .show [Value.pointer (ar (J.i 0) 0),Value.slice (ar (J.i 1) (J.i 2)) (J.i 3).toNat (J.i 4).toNat,Value.agg ((ak 5 (sF 16)).map (CV.ev J)).toArray]=_;unfold sF;rw[v0,v1,v2,v3,v4,jm,aaa,aaa,<-hu,FB 16 5 nt hnt rn]
 .intro r hr ho;simp only[wR,aan,aat,aaX]at hr;rcases hr with rfl | rfl | rfl | rfl
  .refine⟨H,aC,?_⟩;rw[eB J (ai.refl _ _)];exact hle1
  .refine⟨HD,aC,?_⟩;show(J.h 48).le HD;rw[w48];exact Hl.le_refl _
  .refine⟨H,aC,?_⟩;show(J.h 49).le H;rw[w49];exact hle2
  .cases ho
 .intro r hr ho;simp only[wR,aan,aat,aaX]at hr;rcases hr with rfl | rfl | rfl | rfl
  .cases ho
  .cases ho
  .cases ho
  .refine⟨R,aC,?_⟩;show(J.h 50).le R;rw[w50];exact Hl.le_refl _
 .have d1:HD.bq HB:=fun k ⟨h1,h2⟩=>hHD k ⟨Hl.bZ hle2 h2,h1⟩;refine List.Pairwise.cons (fun r hr _ ho=>?_) (List.Pairwise.cons (fun r hr _ ho=>?_) (List.Pairwise.cons (fun r hr _ ho=>?_) (List.Pairwise.cons (fun r hr=>by cases hr) List.Pairwise.nil)))
  .simp only[aan,aat,aaX]at hr;rw[eB J (ai.refl _ _)];rcases hr with rfl | rfl | rfl
   .show Hl.bq _ (J.h 48);rw[w48];exact fun k ⟨h1,h2⟩=>hHD k ⟨Hl.bZ hle1 h1,h2⟩
   .show Hl.bq _ (J.h 49);rw[w49];exact hone
   .cases ho
  .simp only[aan,aat,aaX]at hr;rcases hr with rfl | rfl
   .show(J.h 48).bq (J.h 49);rw[w48,w49];exact d1
   .cases ho
  .rw[aam]at hr;subst hr;cases ho
 .intro r hr;simp only[wR,aan,aat,aaX]at hr;rcases hr with rfl | rfl | rfl | rfl
  .show(0:Int)<=J.i 0;rw[v0];omega
  .trivial
  .trivial
  .trivial
 .refine aF.read [] [] [] ?_;have eB2:∀ q:Env,ai 51 J q->Hl.one a (Obj.cells (List.map (CV.ev q) (ak 21 ([Ck.ptr,Ck.int IntKind.i64,Ck.int IntKind.i64,Ck.int IntKind.u64,Ck.int IntKind.u64]++List.replicate 16 (Ck.int IntKind.u8)++[Ck.sl,Ck.bool]))).toArray 145 (0,0))=Hl.one a (jq dp sl L):=by
   intro q g;have h:Hl.one (q.i 0).toNat (Obj.cells (List.map (CV.ev q) (ak 21 ([Ck.ptr,Ck.int IntKind.i64,Ck.int IntKind.i64,Ck.int IntKind.u64,Ck.int IntKind.u64]++List.replicate 16 (Ck.int IntKind.u8)++[Ck.sl,Ck.bool]))).toArray 145 (0,0))=Hl.one a (jq dp sl L):=eB q g;rw[g.i 0,v0,aaa]at h;exact h
  have eN:∀ q:Env,ai 51 J q->(ak 5 (List.replicate 16 (Ck.int IntKind.u8))).map (CV.ev q)=aS nt:=fun q g=>FB 16 5 nt hnt fun k hk=>by rw[g.i _ ah];exact rn k hk
  have i25:∀ q:Env,ai 51 J q->q.i 25=L.serial:=fun q g=>lk q g 4 ah;have hIn:kq (Hl.one a (jq dp sl L)) a dp sl L:=⟨hok,Hl.aN _ _⟩;have hRd:fF (Hl.one a (jq dp sl L)) (.pointer (some ⟨a,0,none⟩)) dp sl L:=⟨a,rfl,hIn⟩;have hslO:sg sl bs.length:=bM.sg hO;obtain⟨m0,m1⟩:=hok.most;have out:∀ (q:Env) (t:Mem) (e:Int),ai 51 J q->bp D L bs b nt=⟨e,D,L,bs⟩ ->
   postOf qn [.pointer (some ⟨a,0,none⟩),u,.agg (aS nt).toArray] [H,HD] [R] q (.bd 0 (ak 21 ([Ck.ptr,Ck.int IntKind.i64,Ck.int IntKind.i64,Ck.int IntKind.u64,Ck.int IntKind.u64]++List.replicate 16 (Ck.int IntKind.u8)++[Ck.sl,Ck.bool])) 145::.hp 48 [] [.var 21] []::.hp 49 [] [.var 43] []::t) (.sv (.one (.int .i64 (.lit e)))):=by
   intro q t e hq hr _;refine⟨[[0,2],[1]],[],rfl,rfl,⟨(bh fun _=>e),rfl,zzT,zzT⟩,_,u,b,nt,H,HD,R,dp,L,bs,D,_,_,rfl,rfl,rfl,hAt,hD,hB,rfl,?_,?_,?_⟩
   .show aE (cu [q.h 48]) _ _;rw[aL,hr,hq.h 48,w48];exact hD
   .rw[hr];refine⟨a,sl,HB,rfl,hok,hO,hone,?_⟩;have e49:q.h 49=HB:=by rw[hq.h 49,w49]
    rw[<-e49];exact aaQ (fun z=>cu [z,q.h 49]) (eB q hq)
   .rw[hr];rfl
  simp only[go_sem,Nat.reduceAdd,wT,ZO,ZP,ZQ,ZM];intro q1 g1 _;rw[g1.b 47,b47,i25 q1 g1,g1.i 3,v3,g1.i 0,v0,jm,aaa,eB2 q1 g1];refine⟨fun ho=>out q1 _ 5 g1 ?_,fun ho=>⟨fun hs=>out q1 _ 14 g1 ?_,fun hs=>⟨ah,⟨_,_,dp,sl,L,bs.length,rfl,rfl,hRd,hslO,hbs⟩,fun q2 g2 ⟨F,⟨p',R',dp',sl',L',n',hx,hR,hLx,hsx',hvq⟩,_,_⟩=>?_⟩⟩⟩
  .unfold bp;rw[aay ho]
  .unfold bp;rw[aal ho,aay hs]
  have hx:Value.pointer (some ⟨a,0,none⟩)=p':=by simpa using hx
  subst hx;have hR:Hl.one a (jq dp sl L)=R':=by simpa using hR
  subst hR;obtain⟨rfl,rfl,rfl⟩:=hRd.uniq hLx;have e:=hsx'.uniq hslO;subst e;have hvq:q2.i 52=L.most-bs.length:=by simpa using hvq
  have G2:ai 51 J q2:=g1.tr g2;rw[hvq,G2.i 3,v3];refine⟨fun hlt=>out q2 _ 4 G2 ?_,fun hlt=>?_⟩
  .unfold bp;rw[aal ho,aal hs,aay hlt]
  rw[G2.i 0,v0,jm,aaa,eB2 q2 G2,G2.h 49,w49];refine⟨⟨_,_,_,dp,sl,L,bs,rfl,rfl,hRd,hO.rd,hbs⟩,fun q3 g3 ⟨F,⟨p',R1,R2,dp',sl',L',bs',hx,hR,hLx,hBx,hO3⟩,hF,hn3⟩=>?_⟩;have hx:Value.pointer (some ⟨a,0,none⟩)=p':=by simpa using hx
  subst hx;have hR:Hl.one a (jq dp sl L)=R1/\HB=R2:=by simpa using hR
  obtain⟨rfl,rfl⟩:=hR;obtain⟨rfl,rfl,rfl⟩:=hRd.uniq hLx;have e:=hBx.uniq hO.rd;subst e;have hF:=hF trivial;subst hF;obtain⟨⟨n53,n54,n55,n56⟩,_⟩:=hn3;have n54:0<=q3.i 54:=n54;have n55:0<=q3.i 55:=n55;obtain⟨e55,_⟩:=hO3.rd.at n53 n54 n55;have G3:ai 51 J q3:=G2.tr g3;rw[G3.i 1,v1,G3.i 2,v2,G3.i 3,v3,G3.h 50,w50,e55];rw[e55]at hO3;have hO3':aK (q3.h 53) 5 1 (.slice (ar (q3.i 53) (q3.i 54)) ((bs'.length:Int)).toNat (q3.i 56).toNat) ((bs'.length:Int)).toNat (aS bs'):=by
   unfold bM at hO3;rw[aaa]at hO3 ⊢;exact hO3
  have hsum:(bs'.length:Int)+b.length<=1048576:=ah;refine⟨⟨⟨_,hO3'⟩,ah,?_,by unfold maxLen;omega,ah⟩,fun q4 g4 ⟨a1,a2,a3,_⟩=>?_⟩
  .rcases hcell with hb | ⟨hx0,hcell⟩
   .subst hb;exact Or.inr rfl
   .refine Or.inl ⟨hx0,hy,ah,fun j hj=>?_⟩;have hj:j<b.length:=ah;exact⟨_,hcell j _ (aab hj),rfl⟩
  have hseg:bR R x.toNat y.toNat ((b.length:Int)).toNat=aS b:=by
   rw[aaa];unfold bR;apply aaN;intro j;rw[aao,fD];rcases aa5 j b.length with hj | hj
   .rcases hcell with hb | ⟨hx0,hcell⟩
    .subst hb;cases hj
    .rw[aaJ hj,aaT,hcell j _ (aab hj),aab hj];rfl
   .rw[aas (by simpa using hj),aas ah];rfl
  have hx4:=a3 _ hO3';rw[hseg]at hx4;have G4:ai 51 J q4:=G3.tr g4;have x55:q4.i 55=bs'.length:=by rw[g4.i 55,e55]
  have hO4:bM (q4.h 57) 5 (.slice (ar (q4.i 57) 0) ((bs'.length:Int)+b.length).toNat (q4.i 58).toNat) (bs'++b):=by
   unfold bM;rw[gE,aac];rw[show((bs'.length:Int)+b.length).toNat=bs'.length+b.length by omega];rw[aaa,aaa]at hx4;exact hx4
  rw[G4.i 0,v0,jm,aaa,eB2 q4 G4,eN q4 G4,x55,G4.i 3,v3,G4.h 48,w48];refine⟨⟨_,a,_,bs'++b,nt,_,_,HD,dp,sl,L,bs'.length,D,rfl,rfl,rfl,hIn,hslO,hbs,hO4,by rw[aac];omega,hnt,hD,hs0,ah⟩,fun q5 g5 ⟨F,⟨p',a',u',all',nt',H1,HA,HDx,dp',sl',L',n',D',H',HA',HD',hx,hH,hp,hLx,hsx',hOx,hDx,hHs,hDy,hvb,hok0,hbad⟩,_,_⟩=>?_⟩;have hx:Value.pointer (some ⟨a,0,none⟩)=p'/\Value.slice (ar (q4.i 57) 0) ((bs'.length:Int)+b.length).toNat (q4.i 58).toNat=u'/\aS nt=aS nt'/\aY q4 E.tt=true:=by simpa using hx
  obtain⟨hx1,hx2,hx3,_⟩:=hx;have hx3:=jx hx3;subst hx1 hx2 hx3;have hH:Hl.one a (jq dp sl L)=H1/\q4.h 57=HA/\HD=HDx:=by simpa using hH
  obtain⟨hH1,hH2,hH3⟩:=hH;subst hH1 hH2 hH3;have hp:a=a':=by simpa using hp
  subst hp;obtain⟨rfl,rfl,rfl⟩:=fF.uniq hRd ⟨a,rfl,hLx⟩;have e:=hsx'.uniq hslO;subst e;have e:=hOx.rd.uniq hO4.rd;subst e;have e:=hDx.uniq hD;subst e;have hHs:q5.h 59=H'/\q5.h 60=HA'/\q5.h 61=HD':=by
   have h1:[q5.h 59,q5.h 60,q5.h 61]=[H',HA',HD']:=hHs;simpa using h1
  obtain⟨h59,h60,h61⟩:=hHs;have hvb:q5.i 59=(cf D' L (bs'++b) nt bs'.length).1:=by simpa using hvb
  have G5:ai 51 J q5:=G4.tr g5;have e49:q5.h 49=HB:=by rw[G5.h 49,w49]
  intro hd;by_cases hz:(cf D' L (bs'++b) nt bs'.length).1=0
  .have hr:bp D' L bs' b nt=⟨0,(cf D' L (bs'++b) nt bs'.length).2,pt L (bs'++b) nt,bs'++b⟩:=by
    unfold bp;rw[aal ho,aal hs,aal hlt,aay hz]
   refine⟨[[0],[1]],[],rfl,rfl,⟨(bh fun _=>q5.i 59),rfl,zzT,zzT⟩,_,u,b,nt,H,HD,R,dp,L,bs',D',_,_,rfl,rfl,rfl,hAt,hD,hB,rfl,?_,?_,?_⟩
   .show aE (cu [q5.h 61]) _ _;rw[aL,hr,h61];exact hDy
   .show dt (cu [q5.h 59]) _ _ _ _;rw[aL,hr,h59];exact hok0 hz
   .show Value.int .i64 (q5.i 59)=_;rw[hr,hvb,hz]
  .have h5:=(BM D' L (bs'++b) nt bs'.length).resolve_left hz;have hr:bp D' L bs' b nt=⟨5,(cf D' L (bs'++b) nt bs'.length).2,Jg L,bs'⟩:=by
    unfold bp;rw[aal ho,aal hs,aal hlt,aal hz]
   have hd02:(q5.h 59).bq (q5.h 49):=hd 0 2 _ _ aA rfl rfl rfl;have hH':=hbad hz;rw[h59,hH',e49]at hd02;refine⟨[[0,2],[1]],[],rfl,rfl,⟨(bh fun _=>q5.i 59),rfl,zzT,zzT⟩,_,u,b,nt,H,HD,R,dp,L,bs',D',_,_,rfl,rfl,rfl,hAt,hD,hB,rfl,?_,?_,?_⟩
   .show aE (cu [q5.h 61]) _ _;rw[aL,hr,h61];exact hDy
   .rw[hr];refine⟨a,sl,HB,rfl,⟨hok.frm,hok.most,hok.note⟩,hO,hd02,?_⟩;show cu [q5.h 59,q5.h 49]=_;rw[h59,hH',e49]
   .show Value.int .i64 (q5.i 59)=_;rw[hr,hvb,h5]
structure qM (D:DM):Prop where
 ok:D.ok
 fuse:D.fuse= -1
 gone:D.gone=false
def qF (h:qM D) (hi:D.has i=true) (hb:bs.length=64):qM (qQ D i bs):=⟨Jo h.ok hi hb,by show(if 0<D.fuse then D.fuse-1 else D.fuse)= -1;rw[h.fuse];rfl,rfl⟩
def mm (h:qM D) (hi:D.has i=true) (hb:bs.length=64):dd D i bs=(0,qQ D i bs):=by
 unfold dd;rw[aal (by rw[hi,hb];simp),aal (by rw[h.gone];simp),aal (by rw[h.fuse];decide)]
def ju (h:qM D):(cM D).1=0/\qM (cM D).2/\(cM D).2.now=D.now/\(cM D).2.n=D.n:=by
 have e:cM D=(0,⟨D.n,D.now,[],if 0<D.fuse then D.fuse-1 else D.fuse,D.gone⟩):=by
  unfold cM;rw[aal (by rw[h.gone];simp),aal (by rw[h.fuse];decide)]
 rw[e];refine⟨rfl,⟨⟨h.ok.now,h.ok.n,?_,?_,fun p hp=>by cases hp⟩,?_,h.gone⟩,rfl,rfl⟩
 .show -1<=(if 0<D.fuse then D.fuse-1 else D.fuse);rw[h.fuse];decide
 .show(if 0<D.fuse then D.fuse-1 else D.fuse)<=_;rw[h.fuse];decide
 .show(if 0<D.fuse then D.fuse-1 else D.fuse)= -1;rw[h.fuse];rfl
def zl (h:D.ok) (hi:D.has i=true) (hb:bs.length=64) (j:Nat):(qQ D i bs).now[j]?=if 64*i.toNat<=j/\j<64*i.toNat+64 then bs[j-64*i.toNat]? else D.now[j]?:=by
 have hh:0<=i/\i<D.n:=by unfold DM.has at hi;simpa using hi
 show(bz D.now (64*i.toNat) bs)[j]?=_;rw[Sx.si (by rw[h.now,hb];omega),hb]
def iO (all:List Int) (i:Nat):(nG all i).length=64:=by simp [nG]
def OD (all:List Int) (i j:Nat) (h:j<64) (hj:64*i+j<all.length):(nG all i)[j]?=all[64*i+j]?:=by
 unfold nG;rw[aao,aaJ h,aaT,aab hj,abw]
def vI (frm:Nat) (all:List Int):∀ (f i:Nat) (D:DM),qM D->all.length+1<=f+i->all.length+64*(frm+2)<=64*D.n ->
 (fW frm all f i D).1=0/\qM (fW frm all f i D).2/\(fW frm all f i D).2.n=D.n/\(∀ j,j<64*(frm+2+i)->(fW frm all f i D).2.now[j]?=D.now[j]?)/\(∀ t,64*i<=t->t<all.length->(fW frm all f i D).2.now[64*(frm+2)+t]?=all[t]?):=by
 intro f
 induction f with
 | zero =>
  intro i D h h1 h2;obtain⟨a,b,c,d⟩:=ju h;show(cM D).1=0/\_;refine⟨a,b,d,fun j _=>?_,fun t ht ht'=>ah⟩;show(cM D).2.now[j]?=_;rw[c]
 | succ f ih =>
  intro i D h h1 h2;have ec:(frm:Int)+2+i=((frm+2+i:Nat):Int):=ah;by_cases hlt:64*i<all.length
  .have hi:D.has ((frm:Int)+2+i)=true:=by unfold DM.has;simp only[aaf];omega
   have hw:=mm h hi (iO all i);have e:fW frm all (f+1) i D=fW frm all f (i+1) (qQ D ((frm:Int)+2+i) (nG all i)):=by
    show(if 64*i<all.length then _ else _)=_;rw[aay hlt,hw];simp
   rw[e];have hS:=qF h hi (iO all i);obtain⟨a,b,c,d,g⟩:=ih (i+1) _ hS ah h2;have gp:=zl h.ok hi (iO all i);refine⟨a,b,c,fun j hj=>?_,fun t ht ht'=>?_⟩
   .rw[d j ah,gp,ec,aaa,aal ah]
   .rcases aa5 t (64*(i+1))with h3 | h3
    .rw[d _ ah,gp,ec,aaa,aay ah,OD all i _ ah ah]
     congr 1;omega
    .exact g t h3 ht'
  .have e:fW frm all (f+1) i D=cM D:=by
    show(if 64*i<all.length then _ else _)=_;rw[aal hlt]
   rw[e];obtain⟨a,b,c,d⟩:=ju h;exact⟨a,b,d,fun j _=>by rw[c],fun t ht ht'=>ah⟩
structure gX (D:DM) (frm:Nat) (n:Int) (k:Nat) (all nt:List Int):Prop where
 sure:qM D
 rng:3<=n/\(frm:Int)+n<=D.n
 len:(all.length:Int)<=64*(n-2)
 note:nt.length=16
 cur:bx D frm (64*(n-2)) ((k%2:Nat):Int)=((k:Int)::(all.length:Int)::nt,0)
 oth:(bx D frm (64*(n-2)) (((k+1)%2:Nat):Int)).1.getD 0 0<k\/(k=0/\(bx D frm (64*(n-2)) 1).1.getD 0 0=0)
 bytes:∀ t z,all[t]?=some z->D.now[64*(frm+2)+t]?=some z
def gX.oS (h:gX D frm n k all nt):oS D frm n=(k:Int)::(all.length:Int)::nt:=by
 have hc:=h.cur;have ho:=h.oth;unfold Go.Proofs.YtomdimlnggpgbaaGreatDoor.D.oS;rcases Nat.mod_two_eq_zero_or_one k with e | e
 .have e':(k+1)%2=1:=ah;rw[e]at hc;rw[e']at ho;have hc:bx D frm (64*(n-2)) 0=_:=hc;rw[hc];show(if(k:Int)<_ then _ else _)=_;rw[aal];rcases ho with ho | ⟨hk,ho⟩
  .have ho:(bx D frm (64*(n-2)) 1).1.getD 0 0<k:=ho;omega
  .rw[ho];omega
 .have e':(k+1)%2=0:=ah;rw[e]at hc;rw[e']at ho;have hc:bx D frm (64*(n-2)) 1=_:=hc;rw[hc];show(if _<(k:Int)then _ else _)=_;rw[aay];rcases ho with ho | ⟨hk,ho⟩
  .exact ho
  .omega
def gX.jO (h:gX D frm n k all nt):jO D frm n=⟨frm,64*(n-2),k,all.length,nt,false⟩:=by
 unfold Go.Proofs.YtomdimlnggpgbaaGreatDoor.D.jO yq;rw[h.oS];rfl
def gX.ky (h:gX D frm n k all nt):ky D frm n=all:=by
 obtain⟨h1,h2⟩:=h.rng;have hl:=h.len;unfold Go.Proofs.YtomdimlnggpgbaaGreatDoor.D.ky wZ;rw[h.jO];show(D.now.drop (64*((frm:Int)+2).toNat)).take ((all.length:Int)).toNat=all;rw[show((frm:Int)+2).toNat=frm+2 by omega,aaa];apply aaN;intro j;rw[aa2];split
 .rename_i hj;rw[aa0,h.bytes j _ (aab hj),aab hj]
 .rw[aas ah]
def kz (h:qM D) {frm:Int} (hi:D.has (frm+place)=true):bx D frm most place=if AA (D.bG (frm+place)) most place then(yp ((D.bG (frm+place)).take 32),0)else(gR,0):=by
 unfold bx;rw[E0 hi h.gone];simp
def yL (h:qM D) (h':qM D') (hn:D'.n=D.n) {frm:Int} (hi:D.has (frm+place)=true) (hs:D'.bG (frm+place)=D.bG (frm+place)):bx D' frm most place=bx D frm most place:=by
 have hi':D'.has (frm+place)=true:=by unfold DM.has at hi ⊢;rw[hn];exact hi
 rw[kz h hi,kz h' hi',hs]
def wx (h:∀ j,64*i.toNat<=j->j<64*i.toNat+64->D'.now[j]?=D.now[j]?):D'.bG i=D.bG i:=by
 unfold DM.bG;apply aaN;intro j;rw[aa2,aa2];split
 .rw[aa0,aa0];exact h _ ah ah
 .rfl
def gD (x:Int):(wU x).length=8:=rfl
def AB {b:Int} (ha:0<=a/\a<18446744073709551616) (hb:0<=b/\b<18446744073709551616) (hn:nt.length=16) :
 (ct (a::b::nt)).length=32/\yp (ct (a::b::nt))=a::b::nt/\fu ((ct (a::b::nt)).take 8)=a/\fu (((ct (a::b::nt)).drop 8).take 8)=b:=by
 have e:ct (a::b::nt)=wU a++wU b++nt:=by
  unfold ct;show wU a++wU b++nt.take 16=_;rw[abD ah]
 have h1:((wU a++wU b++nt).take 8)=wU a:=by rw[aaF,ab9 (by rw[gD];omega),abD (by rw[gD];omega)]
 have h2:((wU a++wU b++nt).drop 8)=wU b++nt:=by rw[aaF,acn (gD a)]
 have h3:(((wU a++wU b++nt).drop 8).take 8)=wU b:=by rw[h2,ab9 (by rw[gD];omega),abD (by rw[gD];omega)]
 have h4:((wU a++wU b++nt).drop 16).take 16=nt:=by
  rw[acn (by rw[aac,gD,gD]),abD ah]
 rw[e];refine⟨by simp [gD,hn],?_,?_,?_⟩
 .unfold yp;rw[h1,h3,h4,wY ha.1 ha.2,wY hb.1 hb.2];rfl
 .rw[h1,wY ha.1 ha.2]
 .rw[h3,wY hb.1 hb.2]
def gX.append (h:gX D frm n k all nt) (hb:(all.length:Int)+b.length<=64*(n-2)) (hk:k<1000000) (hn':nt'.length=16) :
 (bp D ⟨frm,64*(n-2),k,all.length,nt,false⟩ all b nt').e=0/\gX (bp D ⟨frm,64*(n-2),k,all.length,nt,false⟩ all b nt').D frm n (k+1) (all++b) nt' /\
 (bp D ⟨frm,64*(n-2),k,all.length,nt,false⟩ all b nt').bs=all++b/\(bp D ⟨frm,64*(n-2),k,all.length,nt,false⟩ all b nt').L=⟨frm,64*(n-2),(k+1:Nat),(all++b).length,nt',false⟩:=by
 obtain⟨r1,r2⟩:=h.rng;have hDn:=h.sure.ok.n;have hal:(all++b).length=all.length+b.length:=aac;obtain⟨L,hL⟩:∃ L:LM,L=⟨frm,64*(n-2),k,all.length,nt,false⟩:=⟨_,rfl⟩;rw[<-hL];have f1:L.frm=frm:=by rw[hL]
 have f2:L.most=64*(n-2):=by rw[hL]
 have f3:L.serial=k:=by rw[hL]
 have f4:L.over=false:=by rw[hL]
 obtain⟨F,hF⟩:∃ F,F=(hJ D L.frm (all++b) all.length).2:=⟨_,rfl⟩;obtain⟨a1,a2,a3,a4,a5⟩:=vI frm (all++b) ((all++b).length+1) (all.length/64) D h.sure ah ah;have efr:hJ D L.frm (all++b) all.length=fW frm (all++b) ((all++b).length+1) (all.length/64) D:=by
  unfold hJ;rw[f1,show(((all.length:Nat):Int)/64).toNat=all.length/64 by omega]
 rw[<-efr]at a1 a2 a3 a4 a5;rw[<-hF]at a2 a3 a4 a5;obtain⟨N,hN⟩:∃ N,N=tq L (all++b) nt':=⟨_,rfl⟩;have eN:N=((k+1:Nat):Int)::((all++b).length:Int)::nt':=by
  rw[hN];unfold tq;rw[f3];rfl
 have hp:((k+1:Nat):Int).tmod 2=(((k+1)%2:Nat):Int):=by
  rw[abh ah];omega
 obtain⟨p,hpp⟩:∃ p,p=(k+1)%2:=⟨_,rfl⟩;have hp2:p<2:=ah;obtain⟨b1,b2,b3,b4⟩:=AB (a:=((k+1:Nat):Int)) (b:=((all++b).length:Int)) (nt:=nt') ⟨ah,ah⟩ ⟨ah,ah⟩ hn';rw[<-eN]at b1 b2 b3 b4;have hhl:(ct N++ct N).length=64:=by rw[aac,b1]
 have ei:∀ q:Nat,(frm:Int)+((q:Nat):Int)=((frm+q:Nat):Int):=fun q=>ah;have hasF:∀ q:Nat,q<2->F.has ((frm:Int)+(q:Int))=true:=fun q hq=>by unfold DM.has;rw[a3];simp only[aaf];omega
 have hasD:∀ q:Nat,q<2->D.has ((frm:Int)+(q:Int))=true:=fun q hq=>by unfold DM.has;simp only[aaf];omega
 have hw:=mm a2 (hasF p hp2) hhl;obtain⟨G,hG⟩:∃ G,G=qQ F ((frm:Int)+(p:Int)) (ct N++ct N):=⟨_,rfl⟩;rw[<-hG]at hw;have hGs:qM G:=by rw[hG];exact qF a2 (hasF p hp2) hhl
 have hGn:G.n=D.n:=by rw[hG,<-a3];rfl
 have hGg:=zl a2.ok (hasF p hp2) hhl;rw[<-hG,ei p,aaa]at hGg;obtain⟨s1,s2,s3,s4⟩:=ju hGs;have htn:jl F L.frm N=cM G:=by
  unfold jl;have e0:N.getD 0 0=((k+1:Nat):Int):=by rw[eN];rfl
  rw[f1,e0,hp,<-hpp,hw];simp
 have hbec:cf D L (all++b) nt' all.length=(0,(cM G).2):=by
  unfold cf;rw[aal (by rw[a1];simp),<-hF,<-hN,htn,aal (by rw[s1];simp)]
 have happ:bp D L all b nt'=⟨0,(cM G).2,pt L (all++b) nt',all++b⟩:=by
  unfold bp;rw[f4,f3,f2,aal aC,aal ah,aal ah,hbec];rfl
 rw[happ];refine⟨rfl,⟨s2,⟨r1,by show(frm:Int)+n<=((cM G).2.n:Int);rw[s4,hGn];exact r2⟩,by rw[hal];omega,hn',?_,Or.inl ?_,?_⟩,rfl,by unfold pt;rw[f1,f2,f3,f4];rfl⟩
 .rw[<-hpp];have hi:(cM G).2.has ((frm:Int)+(p:Int))=true:=by unfold DM.has;rw[s4,hGn];exact hasD p hp2
  have hsec:(cM G).2.bG ((frm:Int)+(p:Int))=ct N++ct N:=by
   unfold DM.bG;rw[s3,ei p,aaa];apply aaN;intro j;rw[aa2];split
   .rename_i hj;rw[aa0,hGg,aay ah]
    congr 1;omega
   .rw[aas ah]
  show bx (cM G).2 frm (64*(n-2)) (p:Int)=_;rw[kz s2 hi,hsec];have ht:(ct N++ct N).take 32=ct N:=by rw[aco b1]
  have Rk:(ct N++ct N).drop 32=ct N:=by rw[acn b1]
  rw[aay,ht,b2,eN];unfold AA;rw[ht,Rk,b3,b4];exact⟨rfl,by rw[hp,hpp],ah⟩
 .have hq:(k+1+1)%2=k%2:=ah;rw[hq];obtain⟨c,hc⟩:∃ c,c=k%2:=⟨_,rfl⟩;have hcur:=h.cur;rw[<-hc]at hcur ⊢;have hc2:c<2:=ah;have hcp:c≠p:=ah;have hsec:(cM G).2.bG ((frm:Int)+(c:Int))=D.bG ((frm:Int)+(c:Int)):=by
   refine wx fun j h1 h2=>?_;rw[ei c,aaa]at h1 h2;rw[s3,hGg,aal ah];exact a4 j ah
  rw[yL h.sure s2 (by rw[s4,hGn]) (hasD c hc2) hsec,hcur];show(k:Int)<((k+1:Nat):Int);omega
 .intro t z ht;have hlt:=(aah.1 ht).1;show(cM G).2.now[64*(frm+2)+t]?=some z;rw[s3,hGg,aal ah];rcases aa5 t (64*(all.length/64))with h1 | h1
  .rw[a4 _ ah];refine h.bytes t z ?_;rw[aaC ah]at ht;exact ht
  .rw[a5 t h1 hlt];exact ht
def KO (n:Int):qM (fO n):=by
 refine⟨⟨?_,?_,?_,?_,fun p hp=>by cases hp⟩,rfl,rfl⟩
 .show(List.replicate (64*ie n) (0:Int)).length=64*ie n;rw[aba]
 .show ie n<=16384;unfold ie;omega
 .exact aar (-1)
 .show(-1:Int)<=_;omega
def ou (hm:0<=m/\m<=16384) (hn:3<=n) (hr:(frm:Int)+n<=m):gX (fO m) frm n 0 [] (List.replicate 16 0):=by
 have hs:ie m=m.toNat:=by unfold ie;omega
 have hnn:(fO m).n=m.toNat:=hs;have hS:=KO m;have hsec:∀ p:Nat,p<2->(fO m).bG ((frm:Int)+(p:Int))=List.replicate 64 0:=by
  intro p hp;unfold DM.bG;show((List.replicate (64*ie m) (0:Int)).drop _).take 64=_;rw[List.drop_replicate,List.take_replicate,hs]
  congr 1;omega
 have hz:fu (List.replicate 8 0)=0:=by decide
 have hrd:∀ p:Nat,p<2->bx (fO m) frm (64*(n-2)) (p:Int)=(gR,0):=by
  intro p hp;have hi:(fO m).has ((frm:Int)+(p:Int))=true:=by unfold DM.has;rw[hnn];simp only[aaf];omega
  rw[kz hS hi,hsec p hp];split
  .rfl
  .rfl
 refine⟨hS,⟨hn,by rw[hnn];omega⟩,by show(0:Int)<=_;omega,rfl,?_,Or.inr ⟨rfl,?_⟩,fun t z h=>by cases h⟩
 .exact hrd 0 ah
 .have:=hrd 1 ah;have this:bx (fO m) frm (64*(n-2)) 1=(gR,0):=this;rw[this];rfl
def H5 (e:(cM D).1=0):(cM D).2.loose=[]:=by
 unfold cM at e ⊢;split at e
 .cases e
 .split at e
  .cases e
  .rename_i h1 h2;rw[aal h1,aal h2]
def Ia {frm:Int} (e:(jl D frm h).1=0):(jl D frm h).2.loose=[]:=by
 unfold jl at e ⊢;split at e
 .rename_i h1;exact absurd e h1
 .rename_i h1;rw[aal h1];exact H5 e
def BN {n:Nat} (e:(cf D L all nt n).1=0):(cf D L all nt n).2.loose=[]:=by
 unfold cf at e ⊢;split at e
 .cases e
 .rename_i h1;rw[aal h1];split at e
  .cases e
  .rename_i h2;rw[aal h2];exact Ia (by simpa using h2)
def BK (e:(bp D L bs b nt).e=0):(bp D L bs b nt).D.loose=[]:=by
 unfold bp at e ⊢;split at e
 .cases e
 .rename_i h1;rw[aal h1];split at e
  .cases e
  .rename_i h2;rw[aal h2];split at e
   .cases e
   .rename_i h3;rw[aal h3];split at e
    .rename_i h4;rw[aay h4];exact BN h4
    .cases e
end Go.Proofs.YtomdimlnggpgbaaGreatDoor.D
namespace Go.Proofs.YtomdimlnggpgbaaGreatDoor
open Go Go.RowKit Go.Extern.Stop Go.Stop Go.Extern
def Ei (v:Value) (w:World):(Extern.ReflectliteType.typeOf #[.iface 299 v]).run Tryz.prog w=.ok (.iface 243 (.agg #[.pointer (some ⟨7,299,none⟩)])) w:=by kernel_rfl
def Gk:Array Value->Sem Value:=Extern.ReflectliteType.method fun t=>do Extern.Rtype.noPackHeld "Comparable" t;pure (.bool (<-typeInfo t).comparable)
def th (w:World):(Gk #[.agg #[.pointer (some ⟨7,299,none⟩)]]).run Tryz.prog w=.ok (.bool true) w:=by kernel_rfl
def lx (v:Value) (w:World):(Go.method 431 243 v "Comparable").run Tryz.prog w=.ok (238,v) w:=by kernel_rfl
def ti (v:Value) (w:World):(Go.method 431 156 v "Unwrap").run Tryz.prog w=.ok (229,v) w:=by kernel_rfl
def Nb:(Tryz.prog.info? 299).map (·.comparable)=some true:=by kernel_rfl
def Nf:(Tryz.prog.info? 319).map (·.size)=some 1:=by kernel_rfl
def Ry (v:Value) (xT:TypeId) (w:World):(Instr.typeAssert (.iface 299 v) xT 245 true).run Tryz.prog w=.ok (.tuple #[.nilIface,.bool false]) w:=run_typeAssert_lacksB Tryz.underlying245 (by kernel_rfl) (by kernel_rfl) v xT w
def AS (v:Value) (xT:TypeId) (w:World):(Instr.typeAssert (.iface 299 v) xT 248 true).run Tryz.prog w=.ok (.tuple #[.nilIface,.bool false]) w:=run_typeAssert_lacksB Tryz.underlying248 (by kernel_rfl) (by kernel_rfl) v xT w
def yW (v:Value) (xT:TypeId) (w:World):(Instr.typeAssert (.iface 299 v) xT 250 true).run Tryz.prog w=.ok (.tuple #[.nilIface,.bool false]) w:=run_typeAssert_lacksB Tryz.underlying250 (by kernel_rfl) (by kernel_rfl) v xT w
def Rz (v:Value) (xT:TypeId) (w:World):(Instr.typeAssert (.iface 156 v) xT 245 true).run Tryz.prog w=.ok (.tuple #[.nilIface,.bool false]) w:=run_typeAssert_lacksB Tryz.underlying245 (by kernel_rfl) (by kernel_rfl) v xT w
def yo (v:Value) (xT:TypeId) (w:World):(Instr.typeAssert (.iface 156 v) xT 248 true).run Tryz.prog w=.ok (.tuple #[.iface 156 v,.bool true]) w:=run_typeAssert_hasB Tryz.underlying248 (by kernel_rfl) v xT w
def S6 (b:Addr) (w:World) :
 Calls Tryz.prog 87 #[.nilIface,.iface 299 (.pointer (some b))] w fun e w'=>e=.returned (.bool false)/\w'=w:=by
 have hn:=run_eql_iface_nil_left (P:=Tryz.prog) w 299 (.pointer (some b)) Tryz.underlying107
 go_enter Tryz.func87,Tryz.ntmps87
 go_wp2
 go_ret
 exact⟨rfl,rfl⟩
set_option maxRecDepth 20000 in
def Cl (s:ByteArray) (b:Addr) (w:World) :
 Calls Tryz.prog 87 #[.iface 156 (.agg #[.string s,.iface 299 (.pointer (some b))]),.iface 299 (.pointer (some b))] w fun e w'=>e=.returned (.bool true)/\Below w.heap.size w w':=by
 obtain⟨i,hi,hcmp⟩:=aai.1 Nb;obtain⟨j,hj,hjs⟩:=aai.1 Nf;have h8:=@run_callFunc_extern Tryz.prog 129 _ Extern.ReflectliteType.typeOf Tryz.func129 (by kernel_rfl) (by kernel_rfl) (by kernel_rfl) (by kernel_rfl);have h32:=@run_callFunc_extern Tryz.prog 238 _ Gk Tryz.func238 (by kernel_rfl) (by kernel_rfl) (by kernel_rfl) (by kernel_rfl);have tT:=Ei;have cT:=th;have mR:=lx;have mU:=ti;have nE:=Ry;have uE:=AS;have vE:=yW;have nW:=Rz;have uW:=yo;have heq:=fun w=>run_eql_iface_ptr_same (P:=Tryz.prog) w b Tryz.underlying107 Tryz.underlying299 hi hcmp hj;have hty:=run_eql_iface_types (P:=Tryz.prog) 156 299 (.agg #[.string s,.iface 299 (.pointer (some b))]) (.pointer (some b)) Tryz.underlying107 Sx.aA w
 go_enter Tryz.func87,Tryz.ntmps87
 go_wp2
 refine wp_loop_rounds 2 ?_;rw[rounds_succ]
 go_wp2
 rw[rounds_succ]
 go_wp2
 go_ret
 exact⟨rfl,(Below.refl _ _).alloc (aaz _) _⟩
set_option maxRecDepth 20000 in
def Al (s:ByteArray) (b a:Addr) (ca cb:Array Value) (ta tb:TypeId) (w:World) (hne:a≠b) (ha:w.heap[a.block]?=some (.cells ca ta (0,0))) (hb:w.heap[b.block]?=some (.cells cb tb (0,0))) :
 Calls Tryz.prog 87 #[.iface 156 (.agg #[.string s,.iface 299 (.pointer (some a))]),.iface 299 (.pointer (some b))] w fun e w'=>e=.returned (.bool false)/\Below w.heap.size w w':=by
 obtain⟨i,hi,hcmp⟩:=aai.1 Nb;obtain⟨j,hj,hjs⟩:=aai.1 Nf;have h8:=@run_callFunc_extern Tryz.prog 129 _ Extern.ReflectliteType.typeOf Tryz.func129 (by kernel_rfl) (by kernel_rfl) (by kernel_rfl) (by kernel_rfl);have h32:=@run_callFunc_extern Tryz.prog 238 _ Gk Tryz.func238 (by kernel_rfl) (by kernel_rfl) (by kernel_rfl) (by kernel_rfl);have tT:=Ei;have cT:=th;have mR:=lx;have mU:=ti;have nE:=Ry;have uE:=AS;have vE:=yW;have nW:=Rz;have uW:=yo;have ha':(w.alloc (.cells #[.string s,.iface 299 (.pointer (some a))] 156)).heap[a.block]?=some (.cells ca ta (0,0)):=(Below.heap_alloc _ _ _ (aaG.1 ha).1).trans ha;have hb':(w.alloc (.cells #[.string s,.iface 299 (.pointer (some a))] 156)).heap[b.block]?=some (.cells cb tb (0,0)):=(Below.heap_alloc _ _ _ (aaG.1 hb).1).trans hb;have heq:=run_eql_iface_ptr_other (P:=Tryz.prog) _ Tryz.underlying107 Tryz.underlying299 hi hcmp hj (by rw[hjs];decide) hne ha' hb';have hty:=run_eql_iface_types (P:=Tryz.prog) 156 299 (.agg #[.string s,.iface 299 (.pointer (some a))]) (.pointer (some b)) Tryz.underlying107 Sx.aA w
 go_enter Tryz.func87,Tryz.ntmps87
 go_wp2
 refine wp_loop_rounds 2 ?_;rw[rounds_succ]
 go_wp2
 rw[rounds_succ]
 go_wp2
 go_ret
 exact⟨rfl,(Below.refl _ _).alloc (aaz _) _⟩
end Go.Proofs.YtomdimlnggpgbaaGreatDoor
namespace Go.Proofs.YtomdimlnggpgbaaGreatDoor
open Go Go.Sx Go.Pk
variable {bad bad' lg lg':Bool}{C N g:E}{q:Env}{A B F G H R R1 R2:Hl}{c c' l x y y' z:Int}{t7:List E}{Hs K Rs:List Hl}{b b2 bs bs' bs2:List Int}{v7:List Nat}{t:Mem}{a k m n:Nat}{p u v:Value}
def I9 (p:List Nat):Bool:=decide (p.length>1)&&!(p.head?==some 99)
def aD:mT:=fun _=>none
def fX (q:Env) (n:Nat):newHs q n 0=[]:=rfl
def gO (q:Env) (n:Nat):newHs q n 1=[q.h n]:=by unfold newHs;rw[List.range_one];rfl
def jc {α:Type} {a:α} {l:List α} : (a::l≠[])=True:=by simp
def js (a:Nat):Value.pointer (ar (a:Int) 0)=.pointer (some ⟨a,0,none⟩):=by rw[al ah];rfl
def aG (bs:List Int):Prop:=∀ b∈bs,0<=b/\b<256
def se (hl:l=bs.length) (hy:0<=y) (h:bs=[]\/0<=x/\∀ j z,bs[j]?=some z->R.cell x.toNat (y.toNat+j)=some (.int .u8 z)) :
 ((0<=x/\0<=y/\0<=l/\∀ j,j<l.toNat->∃ v,R.cell x.toNat (y.toNat+j)=some v/\v.oneCell'=true)\/l=0)/\bR R x.toNat y.toNat l.toNat=aS bs:=by
 subst hl;rw[aaa];constructor
 .rcases h with h | ⟨hx,h⟩
  .subst h;exact Or.inr rfl
  .exact Or.inl ⟨hx,hy,ah,fun j hj=>⟨_,h j _ (aab hj),rfl⟩⟩
 .unfold bR;apply aaN;intro j;rw[aao,fD];rcases aa5 j bs.length with hj | hj
  .rcases h with h | ⟨hx,h⟩
   .subst h;cases hj
   .rw[aaJ hj,aaT,h j _ (aab hj),aab hj];rfl
  .rw[aas (by simpa using hj),aas ah];rfl
def EL (F:Hl) {a:Int} (h:0<=a) (hF:F=Hl.one a.toNat (.cells #[] 5 (0,0))):aK F 5 1 (.slice (ar a 0) (Int.toNat 0) (Int.toNat 0)) (Int.toNat 0) []:=by
 subst hF;exact⟨rfl,Or.inr ⟨a.toNat,0,#[],by rw[al h];rfl,Hl.aN _ _,ah,aA,rfl,rfl⟩⟩
def fU:Sx.Spec where
 fn:=84
 own:=[]
 rd:=[0]
 res:=[.one .sl]
 pre:=fun xs Hs Rs=>∃ u bs R,xs=[u]/\Rs=[R]/\fC R u bs/\bs.length<=1000000
 post:=fun xs Hs Rs v Hs' F=>∃ u bs R,xs=[u]/\Rs=[R]/\fC R u bs/\bM F 5 v bs
def sQ:aF Tryz.prog [] fU.fn where
 Λ:=aD
 args:=[.sv (.one (.sl (.var 0) (.var 1) (.var 2) (.var 3)))]
 mem:=[.ro 4 [.var 0] false]
 nv:=5
def kX:fU.OK Tryz.prog:=by
 refine Spec.aV (Γ:=[]) (fun _ h=>by cases h) ?_;rintro xs Hs Rs hl1 hl2 ⟨u,bs,R,rfl,rfl,hRd,hlen⟩;have e0:Hs=[]:=aad.1 hl1;subst e0;obtain⟨x,y,c,rfl,hy,hR⟩:=id hRd;refine⟨sQ,aQ [x,y,bs.length,c] false [Hl.none,Hl.none,Hl.none,Hl.none,R],fun _ _=>True,fun _ _=>0,?_,⟨?_,?_,?_,?_⟩,(fun _ h=>nomatch h),?_⟩
 .show [Value.slice (ar x y) ((bs.length:Int)).toNat ((c:Int)).toNat]=_;rw[aaa,aaa]
 .intro r hr ho;simp [sQ]at hr;subst hr;cases ho
 .intro r hr ho;simp [sQ]at hr;subst hr;exact⟨R,aC,Hl.le_refl _⟩
 .simp [sQ]
 .intro r hr;simp [sQ]at hr;subst hr;trivial
 .refine aF.read [] [] [] ?_;generalize hρ:aQ [x,y,bs.length,c] false [Hl.none,Hl.none,Hl.none,Hl.none,R]=J;have v0:J.i 0=x:=by rw[<-hρ];rfl
  have v1:J.i 1=y:=by rw[<-hρ];rfl
  have v2:J.i 2=bs.length:=by rw[<-hρ];rfl
  have w4:J.h 4=R:=by rw[<-hρ];rfl
  clear hρ;simp only[go_sem,Nat.reduceAdd];refine⟨fun hx _=>?_,fun hx q1 g1 p5=>?_⟩
  .have hnil:bs=[]:=by
    rcases hR with h | ⟨h,_⟩
    .exact h
    .omega
   refine⟨[],[],rfl,rfl,⟨(bh fun k=>if k=0 then -1 else 0),rfl,⟨aar _,aar _,aar _,aar _⟩,zzT⟩,_,bs,R,rfl,rfl,hRd,?_⟩;rw[hnil];exact⟨rfl,Or.inl ⟨rfl,rfl⟩⟩
  .obtain⟨hok,hseg⟩:=se (R:=R) (x:=x) (y:=y) (l:=(bs.length:Int)) rfl hy hR;have ho0:=EL (Hl.one (q1.i 5).toNat (.cells #[] 5 (0,0))) p5 rfl;rw[g1.i 0,g1.i 1,g1.i 2,g1.h 4,v0,v1,v2,w4];refine⟨⟨⟨_,ho0⟩,aar _,by simpa using hok,by rw[aaa];unfold maxLen;simp;omega,by rw[aaa];simp;omega⟩,fun q2 g2 ⟨a1,a2,a3,_⟩=>fun _=>?_⟩;have hx2:=a3 _ ho0;rw[hseg,abE]at hx2;refine⟨[],[1],rfl,rfl,⟨(bh fun k=>[q2.i 6,0,q2.i 2,q2.i 7].getD k 0),rfl,⟨a1,aar _,?_,a2⟩,zzT⟩,_,bs,R,rfl,rfl,hRd,?_⟩
   .show 0<=q2.i 2;rw[g2.i 2,g1.i 2,v2];omega
   .show bM (cu [q2.h 6]) _ (.slice (ar (q2.i 6) 0) (q2.i 2).toNat (q2.i 7).toNat) bs;rw[aL,g2.i 2,g1.i 2,v2];unfold bM;rw[aaa];simpa using hx2
def gw (bs:List Int):Nat×Nat:=(vW bs).getD (0,0)
def Dm (R1 R2:Hl) (p:Value) (bs:List Int) (bad:Bool):Prop:=∃ (a:Nat) (x y:Int) (c:Nat),p=.pointer (some ⟨a,0,none⟩)/\R1.cell a 0=some (.slice (ar x y) bs.length c)/\R1.cell a 1=some (.bool bad)/\ -1<=x/\0<=y/\nN R2 (.slice (ar x y) bs.length c) bs
def Dm.uniq {a:List Int} {x y:Bool} (h:Dm R1 R2 p a x) (h':Dm R1 R2 p b y):a=b/\x=y:=by
 obtain⟨a1,x1,y1,c1,e1,h1,h2,_,_,h3⟩:=h;obtain⟨a2,x2,y2,c2,e2,k1,k2,_,_,k3⟩:=h';rw[e1]at e2;simp only[Value.pointer.injEq,aak,Addr.mk.injEq,aau]at e2;subst e2;rw[h1]at k1;have k1:=aa1 k1;rw[<-k1]at k3;rw[h2]at k2;simp only[aak,Value.bool.injEq]at k2;exact⟨h3.uniq k3,k2⟩
def mj:Sx.Spec where
 fn:=124
 own:=[]
 rd:=[0,1000]
 res:=[.one (.int .u64),.one (.int .i64)]
 pre:=fun xs Hs Rs=>∃ p R1 R2 bs bad,xs=[p]/\Rs=[R1,R2]/\Dm R1 R2 p bs bad/\aG bs/\bs.length<=1000000
 post:=fun xs Hs Rs v Hs' F=>∃ p R1 R2 bs bad,xs=[p]/\Rs=[R1,R2]/\Dm R1 R2 p bs bad/\v=.tuple #[.int .u64 (gw bs).1,.int .i64 (gw bs).2]
def tv:aF Tryz.prog [] mj.fn where
 Λ:=fun p=>if I9 p then some ⟨0,[(4,TI .u64 (.var 10)),(12,TI .i64 (.var 11))],[],12⟩else none
 args:=[TP (.var 0) (.lit 0)]
 mem:=[.ro 1 [.hP 2 (.var 0) (.lit 0) 0 0] false,.ro 2 [.var 0] false]
 nv:=3
def KV (bs:List Int) (_:Nat) (q:Env):Prop:=∃ k y:Nat,q.i 11=k/\q.i 10=y/\k<=10/\y<128 ^ k/\vW bs=ru (bs.drop k) k y
def Uv (hx:-1<=x) (n c:Nat):bo (some (.slice (ar x y) n c)) 0=x:=by
 rcases abp x 0 with h | h
 .obtain rfl:x= -1:=ah;rfl
 .rw[al h];show((x.toNat:Nat):Int)=x;omega
def Wn (hx:0<=x) (hy:0<=y) (n c:Nat):bo (some (.slice (ar x y) n c)) 1=y:=by
 rw[al hx];show((y.toNat:Nat):Int)=y;omega
def T8 (hx:-1<=x) (n c:Nat):bo (some (.slice (ar x y) n c)) 2=n:=by
 rcases abp x 0 with h | h
 .obtain rfl:x= -1:=ah;rfl
 .rw[al h];rfl
def Hc {y c:Nat} (hc:bs[k]?=some (c:Int)):ru (bs.drop k) k y=if(k=9/\1<c)\/9<k then none else if c<128 then(if c=0/\0<k then none else some (y+c*128 ^ k,k+1))else ru (bs.drop (k+1)) (k+1) (y+(c%128)*128 ^ k):=by
 have hk:=(aah.1 hc).1;have e:bs.drop k=(c:Int)::bs.drop (k+1):=by
  rw[List.drop_eq_getElem_cons hk,(aah.1 hc).2]
 rw[e];show(if(k=9/\1<(c:Int))\/9<k then none else if(c:Int)<128 then(if(c:Int)=0/\0<k then none else some (y+((c:Int)).toNat*128 ^ k,k+1))else ru (bs.drop (k+1)) (k+1) (y+(((c:Int)).toNat%128)*128 ^ k))=_;rw[aaa];have h1:((1:Int)<(c:Int))↔1<c:=ah;have h2:((c:Int)<128)↔c<128:=ah;have h3:((c:Int)=0)↔c=0:=ah;simp only[h1,h2,h3]
def Hf:mj.OK Tryz.prog:=by
 refine Spec.aV (Γ:=[]) (fun _ h=>by cases h) ?_;rintro xs Hs Rs hl1 hl2 ⟨p,R1,R2,bs,bad,rfl,rfl,hIn,hby,hlen⟩;have e0:Hs=[]:=aad.1 hl1;subst e0;obtain⟨a,x,y,c,rfl,hc0,hc1,hx,hy,hR⟩:=id hIn;refine⟨tv,aQ [(a:Int)] false [Hl.none,R2,R1],KV bs,fun _ q=>((bs.length:Int)-q.i 11).toNat,?_,⟨?_,?_,?_,?_⟩,(fun _ h=>nomatch h),?_⟩
 .show [Value.pointer (ar (a:Int) 0)]=_;rw[js]
 .intro r hr ho;simp [tv]at hr;rcases hr with rfl | rfl<;>cases ho
 .intro r hr ho;simp [tv]at hr;rcases hr with rfl | rfl
  .exact⟨R2,aC,Hl.le_refl _⟩
  .exact⟨R1,aC,Hl.le_refl _⟩
 .simp [tv,bm.own]
 .intro r hr;simp [tv]at hr;rcases hr with rfl | rfl<;>trivial
 .refine aF.read [] [] [] ?_;generalize hρ:aQ [(a:Int)] false [Hl.none,R2,R1]=J;have v0:J.i 0=a:=by rw[<-hρ];rfl
  have w1:J.h 1=R2:=by rw[<-hρ];rfl
  have w2:J.h 2=R1:=by rw[<-hρ];rfl
  clear hρ;have out:∀ (q:Env) (mem:Mem) (e1 e2:E),az q e1=(gw bs).1->az q e2=(gw bs).2->postOf mj [.pointer (some ⟨a,0,none⟩)] [] [R1,R2] q mem (.tup [.one (.int .u64 e1),.one (.int .i64 e2)]):=fun q mem e1 e2 h1 h2 _ =>
   ⟨[],[],rfl,rfl,⟨(bh fun k=>if k=0 then(gw bs).1 else(gw bs).2),by show Value.tuple #[.int .u64 (az q e1),.int .i64 (az q e2)]=_;rw[h1,h2];rfl,zzT,zzT,zzT⟩,_,R1,R2,bs,bad,rfl,rfl,hIn,by show Value.tuple #[.int .u64 (az q e1),.int .i64 (az q e2)]=_;rw[h1,h2]⟩
  have none0:∀ (q:Env) (mem:Mem),vW bs=none->postOf mj [.pointer (some ⟨a,0,none⟩)] [] [R1,R2] q mem (.tup [.one (.int .u64 (.lit 0)),.one (.int .i64 (.lit 0))]):=fun q mem h=>out q mem _ _ (by unfold gw;rw[h];rfl) (by unfold gw;rw[h];rfl);have tn0:Int.toNat 0=0:=rfl;simp only[go_sem,Nat.reduceAdd,tn0];rw[v0,w2,aaa,hc0,T8 hx];refine⟨ah,rfl,ah,⟨0,0,rfl,rfl,ah,aA,rfl⟩,fun q g ⟨k,y',e11,e10,hk,hyk,hnum⟩=>?_⟩;rw[g.i 0,v0,g.h 2,w2,g.h 1,w1,aaa,hc0,T8 hx,e11];refine⟨fun hlt=>?_,fun hge=>none0 q _ (by rw[hnum,adf ah];rfl)⟩;obtain⟨z,hz⟩:∃ z,bs[k]?=some z:=⟨_,aab ah⟩;have hzr:=hby z (aae hz);obtain⟨cz,rfl⟩:∃ cz:Nat,z=cz:=⟨z.toNat,ah⟩;obtain⟨hx0,hcells⟩:0<=x/\∀ j z,bs[j]?=some z->R2.cell x.toNat (y.toNat+j)=some (.int .u8 z):=by
   obtain⟨x',y',c',he,hy',h⟩:=hR;simp only[Value.slice.injEq]at he;obtain⟨hp,_,_⟩:=he;rcases h with ⟨_,h⟩ | ⟨h0,h⟩
   .rw[h]at hz;simp at hz
   .obtain⟨e1,e2⟩:=kF hx hy ah hy' hp;have e2:=e2 ah;subst e1 e2;exact⟨h0,h⟩
  have hcell:R2.cell x.toNat (y+(k:Int)).toNat=some (.int .u8 cz):=by
   rw[<-hcells k _ hz];congr 1;omega
  rw[Uv hx,Wn hx0 hy,hcell];have hst:=Hc (y:=y') hz;rw[<-hnum]at hst;have ev:bV (some (Value.int .u8 (cz:Int)))=cz:=rfl;rw[ev];have rest:∀ q':Env,q'=q->k<=9->(k=9->cz<=1)->az q' (.bits .or .u64 (.var 10) (.shl .u64 (.wrap .u64 (.bits .and .u8 (.hI 1 (.hP 2 (.var 0) (.lit 0) 0 0) (.add (.hP 2 (.var 0) (.lit 0) 0 1) (.var 11)) 0) (.lit 127))) (.wrap .i64 (.mul (.lit 7) (.var 11)))))=((y'+cz%128*128 ^ k:Nat):Int):=by
   rintro q' rfl h9 hc9;have hn:=(VI hyk h9 ah hc9).1;rw[te,PW,bJ,bJ,te,fL,fM,bQ,fM,cx];simp only[au,aq];rw[g.i 0,v0,g.h 2,w2,g.h 1,w1,aaa,tn0,aa3,hc0,Uv hx,Wn hx0 hy,aa3,e11,hcell,e10];exact hn
  have hw:0<=IntKind.i64.wrap (7*(k:Int)):=by rw[wrap_i64 ah ah];omega
  have m11:IntKind.i64.wrap (q.i 11+1)=k+1:=by rw[e11,wrap_i64 ah ah]
  have fin:∀ mem,vW bs=some (y'+cz*128 ^ k,k+1)->cz<128->k<=9->(k=9->cz<=1)->postOf mj [.pointer (some ⟨a,0,none⟩)] [] [R1,R2] q mem (.tup [.one (.int .u64 (.bits .or .u64 (.var 10) (.shl .u64 (.wrap .u64 (.bits .and .u8 (.hI 1 (.hP 2 (.var 0) (.lit 0) 0 0) (.add (.hP 2 (.var 0) (.lit 0) 0 1) (.var 11)) 0) (.lit 127))) (.wrap .i64 (.mul (.lit 7) (.var 11)))))),.one (.int .i64 (.wrap .i64 (.add (.var 11) (.lit 1))))]):=by
   intro mem hn h128 h9 hc9;refine out q mem _ _ ?_ ?_
   .rw[rest q rfl h9 hc9,ab8 h128];unfold gw;rw[hn];rfl
   .show IntKind.i64.wrap (q.i 11+1)=_;rw[m11];unfold gw;rw[hn];rfl
  refine⟨hx0,hy,ah,rfl,fun h9=>⟨fun h1=>⟨hw,fun h0=>none0 q _ ?_,fun h0=>fin _ ?_ ah ah ah⟩,fun h1=>none0 q _ ?_⟩,fun h9=>⟨fun hg9=>none0 q _ ?_,fun hg9=>⟨hw,fun h128=>⟨fun h0=>⟨fun hk0=>none0 q _ ?_,fun hk0=>fin _ ?_ ah ah ah⟩,fun h0=>fin _ ?_ ah ah ah⟩,fun h128=>⟨⟨k+1,y'+cz%128*128 ^ k,?_,?_,ah,?_,?_⟩,?_⟩⟩⟩⟩
  .rw[hst,aal ah,aay ah,aay ah]
  .rw[hst,aal ah,aay ah,aal ah]
  .rw[hst,aay ah]
  .rw[hst,aay ah]
  .rw[hst,aal ah,aay ah,aay ah]
  .rw[hst,aal ah,aay ah,aal ah]
  .rw[hst,aal ah,aay ah,aal ah]
  .show IntKind.i64.wrap (q.i 11+1)=_;rw[m11];omega
  .show az q _=_;exact rest q rfl ah ah
  .rw[ack,ach (128 ^ k) 128];have:cz%128*128 ^ k<=127*128 ^ k:=acq _ ah;omega
  .rw[hst,aal ah,aal ah]
  .show((bs.length:Int)-IntKind.i64.wrap (q.i 11+1)).toNat<_;rw[m11];omega
def EB (h:Dm R1 R2 p bs bad) (hp:mj.post [p] Hs [R1,R2] v K F):v=.tuple #[.int .u64 (gw bs).1,.int .i64 (gw bs).2]:=by
 obtain⟨p',S1,S2,bs',bad',hx,hR,hIn,hv⟩:=hp;have hx:p=p':=by simpa using hx
 have hR:R1=S1/\R2=S2:=by simpa using hR
 obtain⟨e1,e2⟩:=hR;subst hx e1 e2;rw[(h.uniq hIn).1];exact hv
def IW (a:Nat) (x y c:Int) (n:Nat) (bad:Bool):Hl:=Hl.one a (.cells #[.slice (ar x y) ((n:Int)).toNat c.toNat,.bool bad] 203 (0,0))
structure Ae (H:Hl) (a:Nat) (x y c:Int) (F:Hl) (bs:List Int) (bad:Bool):Prop where
 rx:-1<=x
 ry:0<=y
 rc:(bs.length:Int)<=c
 byte:aG bs
 len:bs.length<=1000000
 rd:nN F (.slice (ar x y) ((bs.length:Int)).toNat c.toNat) bs
 na:¬F.mem a
 hl:H=cu [IW a x y c bs.length bad,F]
def mQ (H:Hl) (p:Value) (bs:List Int) (bad:Bool):Prop:=∃ a x y c F,p=.pointer (some ⟨a,0,none⟩)/\Ae H a x y c F bs bad
def EZ (h:F.le G) (hr:nN F v bs):nN G v bs:=by
 obtain⟨x,y,c,e,hy,hr⟩:=hr;refine⟨x,y,c,e,hy,hr.imp id fun⟨h0,hc⟩=>⟨h0,fun j z hz=>?_⟩⟩;have:=hc j z hz;unfold Hl.cell at this ⊢;cases hF:F x.toNat with
 | none=>rw[hF]at this;cases this
 | some o=>rw[h _ _ hF];rw[hF]at this;exact this
section
variable {H F:Hl} {a:Nat} {x y c:Int} {bs:List Int} {bad:Bool}
def Ae.le (h:Ae H a x y c F bs bad):(IW a x y c bs.length bad).le H/\F.le H:=by
 have hd:(IW a x y c bs.length bad).bq F:=Hl.fE.2 h.na;rw[h.hl];show(IW a x y c bs.length bad).le ((IW a x y c bs.length bad).un (F.un Hl.none))/\F.le ((IW a x y c bs.length bad).un (F.un Hl.none));rw[Hl.jg];exact⟨Hl.aX _ _,Hl.bj hd⟩
def Ae.split (h:Ae H a x y c F bs bad):Dm (IW a x y c bs.length bad) F (.pointer (some ⟨a,0,none⟩)) bs bad:=by
 have hrd:=h.rd;rw[aaa]at hrd;refine⟨a,x,y,c.toNat,rfl,?_,?_,h.rx,h.ry,hrd⟩
 .unfold IW Hl.cell;rw[Hl.aN,aaa];rfl
 .unfold IW Hl.cell;rw[Hl.aN];rfl
def mQ.whole (h:mQ H p bs bad):Dm H H p bs bad:=by
 obtain⟨a,x,y,c,F,rfl,h⟩:=h;obtain⟨l1,l2⟩:=h.le;obtain⟨a',x',y',c',e,h1,h2,h3,h4,h5⟩:=h.split;simp only[Value.pointer.injEq,aak,Addr.mk.injEq,aau]at e;subst e;have up:∀ j v,(IW a x y c bs.length bad).cell a j=some v->H.cell a j=some v:=by
  intro j v hv;have e:=l1 a _ (Hl.aN _ _);unfold IW Hl.cell at hv;rw[Hl.aN]at hv;unfold Hl.cell;rw[e];exact hv
 exact⟨a,x',y',c',rfl,up 0 _ h1,up 1 _ h2,h3,h4,EZ l2 h5⟩
def mQ.uniq (h:mQ H p bs bad) (h':mQ H p bs' bad'):bs=bs'/\bad=bad':=h.whole.uniq h'.whole
end
def AE:Mem:=[.bd 0 [.sl (.var 1) (.var 2) (.var 3) (.var 4),.bool (.bvar 6)] 203,.hp 7 [] [.var 1] []]
def Eg (a:Nat) (x y c:Int) (bs:List Int) (bad:Bool) (F:Hl) (z:Int):Env:=aQ [(a:Int),x,y,bs.length,c,z] bad [Hl.none,Hl.none,Hl.none,Hl.none,Hl.none,Hl.none,Hl.none,F]
section
variable {H F:Hl} {a:Nat} {x y c:Int} {bs:List Int} {bad:Bool}
def PY (h:Ae H a x y c F bs bad) (z:Int):Entry (Eg a x y c bs bad F z) AE [H] []:=by
 obtain⟨l1,l2⟩:=h.le;have hb:(bm.bd 0 [.sl (.var 1) (.var 2) (.var 3) (.var 4),.bool (.bvar 6)] 203).hl (Eg a x y c bs bad F z)=IW a x y c bs.length bad:=by
  show Hl.one ((a:Int)).toNat (.cells #[.slice (ar x y) ((bs.length:Int)).toNat c.toNat,.bool bad] 203 (0,0))=_;rw[aaa];rfl
 refine⟨fun r hr ho=>⟨H,aC,?_⟩,fun r hr ho=>?_,?_,fun r hr=>?_⟩
 .simp only[AE,aan,aat,aaX]at hr;rcases hr with rfl | rfl
  .rw[hb];exact l1
  .exact l2
 .simp only[AE,aan,aat,aaX]at hr;rcases hr with rfl | rfl<;>cases ho
 .unfold AE;refine List.Pairwise.cons (fun r hr _ _=>?_) (List.Pairwise.cons (fun r hr=>by cases hr) List.Pairwise.nil);rw[aam]at hr;subst hr;rw[hb];exact Hl.fE.2 h.na
 .simp only[AE,aan,aat,aaX]at hr;rcases hr with rfl | rfl
  .show(0:Int)<=(a:Int);omega
  .trivial
def Rp (h:Ae H a x y c F bs bad) (hq:ai 8 (Eg a x y c bs bad F z) q) {Y:E} (hY:az q Y=y') (hN:az q N=bs'.length) (hC:az q C=c') (hg:aY q g=bad') (hy:0<=y') (hc:(bs'.length:Int)<=c') (hb:aG bs') (hl:bs'.length<=bs.length) (hr:nN F (.slice (ar x y') ((bs'.length:Int)).toNat c'.toNat) bs') :
 mQ (ue q (.bd 0 [.sl (.var 1) Y N C,.bool g] 203::.hp 7 v7 t7 []::t) [0,1]) (.pointer (some ⟨a,0,none⟩)) bs' bad':=by
 have hlen:=h.len;refine⟨a,x,y',c',F,rfl,h.rx,hy,hc,hb,ah,hr,h.na,?_⟩;show cu [Hl.one (q.i 0).toNat (.cells #[.slice (ar (q.i 1) (az q Y)) (az q N).toNat (az q C).toNat,.bool (aY q g)] 203 (0,0)),q.h 7]=_;rw[hY,hN,hC,hg,hq.i 0,hq.i 1,hq.h 7];show cu [Hl.one ((a:Int)).toNat _,F]=_;rw[aaa];rfl
def xJ (h:aG bs) (m:Nat):aG (bs.drop m):=fun b hb=>h b (ab3 hb)
def CG (h:Ae H a x y c F bs bad) (hm:m<=bs.length):nN F (.slice (ar x (if c=m then y else y+m)) (((bs.drop m).length:Int)).toNat (c-m).toNat) (bs.drop m):=by
 obtain⟨_,hr⟩:=h.rd.at h.rx h.ry ah;have hy:=h.ry;refine⟨x,if c=m then y else y+m,(c-m).toNat,by rw[aaa],by split<;>omega,?_⟩;rcases hr with ⟨h1,h2⟩ | ⟨h0,hc⟩
 .left;exact⟨h1,by rw[h2];simp⟩
 .right;refine⟨h0,fun j z hz=>?_⟩;rw[aa0]at hz;have hj:=(aah.1 hz).1;have hrc:=h.rc;rw[aal ah,show(y+(m:Int)).toNat+j=y.toNat+(m+j)by omega];exact hc _ z hz
end
def yx (q:Env) (C M Y:E):az q (.ite (.eq C M) Y (.add Y M))=if az q C=az q M then az q Y else az q Y+az q M:=by
 simp only[fg,ga,bQ]
def M4 (bs:List Int) (bad:Bool) (most:Int):Int×List Int×Bool:=if bad=true\/(gw bs).2=0\/most<((gw bs).1:Int)then(0,bs,true)else((gw bs).1,bs.drop (gw bs).2,false)
def mD (bs:List Int) (bad:Bool) (most:Int):List Int×List Int×Bool :=
 if bad=true\/(gw bs).2=0\/most<0\/min (min most 4096) ((bs.length:Int)-(gw bs).2)<((gw bs).1:Int)then([],bs,true)else((bs.drop (gw bs).2).take (gw bs).1,bs.drop ((gw bs).2+(gw bs).1),false)
def Qk (hb:aG bs):(gw bs).2<=bs.length/\(gw bs).1<18446744073709551616:=by
 unfold gw;cases h:vW bs with
 | none=>exact⟨abn _,aA⟩
 | some r =>
  obtain⟨x,m⟩:=r;obtain⟨_,h2,_,h4⟩:=KQ hb h;exact⟨h2,h4⟩
def CJ:Sx.Spec where
 fn:=80
 own:=[]
 rd:=[0]
 res:=[.one .ptr]
 pre:=fun xs Hs Rs=>∃ u bs R,xs=[u]/\Rs=[R]/\fC R u bs/\aG bs/\bs.length<=1000000
 post:=fun xs Hs Rs v Hs' F=>∃ u bs R,xs=[u]/\Rs=[R]/\fC R u bs/\mQ F v bs false
def ib:Sx.Spec where
 fn:=110
 own:=[.arg 0]
 rd:=[]
 res:=[.one (.int .u64)]
 pre:=fun xs Hs Rs=>∃ p most H bs bad,xs=[p,.int .u64 most]/\Hs=[H]/\mQ H p bs bad
 post:=fun xs Hs Rs v Hs' F=>∃ p most H bs bad H',xs=[p,.int .u64 most]/\Hs=[H]/\mQ H p bs bad/\Hs'=[H']/\mQ H' p (M4 bs bad most).2.1 (M4 bs bad most).2.2/\v=.int .u64 (M4 bs bad most).1
def S4:List Sx.Spec:=[mj,fU]
def M8:∀ t∈S4,t.OK Tryz.prog:=av Hf <| av kX <| bN
def Zx:mj.res=[.one (.int .u64),.one (.int .i64)]:=rfl
def Zy:fU.res=[.one .sl]:=rfl
def X5:(aT 0 [Cp.one .sl]≠[])=True:=by simp [aT,Cp.roots,Ck.root]
def M3 (h0:q.i 0=a) (h1:q.i 1=x) (h2:q.i 2=y) (h3:q.i 3=n) (h4:q.i 4=c) (h6:q.b 6=bad) :
 Hl.one (q.i 0).toNat (.cells #[.slice (ar (q.i 1) (q.i 2)) (q.i 3).toNat (q.i 4).toNat,.bool (aY q (.bvar 6))] 203 (0,0))=IW a x y c n bad:=by
 rw[bF,h0,h1,h2,h3,h4,h6,aaa];rfl
def zt:aF Tryz.prog S4 CJ.fn where
 Λ:=aD
 args:=[.sv (.one (.sl (.var 0) (.var 1) (.var 2) (.var 3)))]
 mem:=[.ro 4 [.var 0] false]
 nv:=5
def rI (h:fC R u bs) (hp:fU.post [u] Hs [R] v K F):bM F 5 v bs:=by
 obtain⟨u',bs',R',hx,hR,hB,hO⟩:=hp;have hx:u=u':=by simpa using hx
 have hR:R=R':=by simpa using hR
 subst hx hR;rw[h.uniq hB];exact hO
def Qn {e:TypeId} (h:bM F e (.slice (ar x y) l.toNat c.toNat) bs) (hl:0<=l) (hc:0<=c):l<=c:=by
 obtain⟨_,h⟩:=h;rcases h with ⟨h,_⟩ | ⟨g,cap,cur,h,_,hle,_⟩
 .simp only[Value.slice.injEq]at h;omega
 .simp only[Value.slice.injEq]at h;omega
def K9:CJ.OK Tryz.prog:=by
 refine Spec.aV (Γ:=S4) M8 ?_;rintro xs Hs Rs hl1 hl2 ⟨u,bs,R,rfl,rfl,hRd,hby,hlen⟩;have e0:Hs=[]:=aad.1 hl1;subst e0;obtain⟨x,y,c,rfl,hy,hR⟩:=id hRd;refine⟨zt,aQ [x,y,bs.length,c] false [Hl.none,Hl.none,Hl.none,Hl.none,R],fun _ _=>True,fun _ _=>0,?_,⟨?_,?_,?_,?_⟩,(fun _ h=>nomatch h),?_⟩
 .show [Value.slice (ar x y) ((bs.length:Int)).toNat ((c:Int)).toNat]=_;rw[aaa,aaa]
 .intro r hr ho;simp [zt]at hr;subst hr;cases ho
 .intro r hr ho;simp [zt]at hr;subst hr;exact⟨R,aC,Hl.le_refl _⟩
 .simp [zt]
 .intro r hr;simp [zt]at hr;subst hr;trivial
 .refine aF.read [] [] [] ?_;generalize hρ:aQ [x,y,bs.length,c] false [Hl.none,Hl.none,Hl.none,Hl.none,R]=J;have v0:J.i 0=x:=by rw[<-hρ];rfl
  have v1:J.i 1=y:=by rw[<-hρ];rfl
  have v2:J.i 2=bs.length:=by rw[<-hρ];rfl
  have v3:J.i 3=c:=by rw[<-hρ];rfl
  have w4:J.h 4=R:=by rw[<-hρ];rfl
  clear hρ;simp only[go_sem,Nat.reduceAdd,S4,Zx,Zy,X5];rw[v0,v1,v2,v3,w4,aaa,aaa];refine⟨⟨_,bs,R,rfl,rfl,hRd,hlen⟩,fun q1 g1 ⟨F1,hp,hF,⟨⟨n5,n6,n7,n8⟩,_⟩⟩ q2 g2 p9 hd=>?_⟩;have hO:=rI hRd hp;rw[<-hF zzT]at hO;have n5:-1<=q1.i 5:=n5;have n6:0<=q1.i 6:=n6;have n7:0<=q1.i 7:=n7;have n8:0<=q1.i 8:=n8;have hcap:=Qn hO n7 n8;have hrd:=hO.rd;have hl:=(hrd.at n5 n6 n7).1;rw[hl]at hrd hcap;have h12:=hd 2 1 _ _ aA rfl rfl rfl;have h12:(Hl.one (q2.i 9).toNat _).bq (q2.h 5):=h12;rw[g2.h 5]at h12;refine⟨[],[2,1],rfl,rfl,⟨(bh fun k=>if k=0 then q2.i 9 else 0),rfl,⟨by show -1<=q2.i 9;omega,aar _⟩,zzT⟩,_,bs,R,rfl,rfl,hRd,(q2.i 9).toNat,q1.i 5,q1.i 6,q1.i 8,q1.h 5,?_,⟨n5,n6,hcap,hby,hlen,hrd,Hl.fE.1 h12,?_⟩⟩
  .show Value.pointer (ar (q2.i 9) 0)=_;rw[al p9];rfl
  .show cu [Hl.one (q2.i 9).toNat (.cells #[.slice (ar (q2.i 5) (q2.i 6)) (q2.i 7).toNat (q2.i 8).toNat,.bool false] 203 (0,0)),q2.h 5]=_;rw[g2.i 5,g2.i 6,g2.i 7,g2.i 8,g2.h 5,hl];rfl
def QK (h:Ae H a x y c F bs bad) (hm:m+k<=bs.length) (c':Nat):fC F (.slice (ar x (if c=m then y else y+m)) k c') ((bs.drop m).take k):=by
 obtain⟨x',y',c2,he,hy',hr⟩:=(CG h (m:=m) ah).w;simp only[Value.slice.injEq]at he;refine⟨x',y',c',?_,hy',?_⟩
 .rw[he.1,aaA,aaV,adm ah]
 .rcases hr with h0 | ⟨h0,hc⟩
  .left;rw[h0];simp
  .right;refine⟨h0,fun j z hz=>hc j z ?_⟩;rw[aa2]at hz;split at hz
   .exact hz
   .cases hz
def tD (F:Hl) (e:TypeId):bM F e (.slice none 0 0) []:=⟨rfl,Or.inl ⟨rfl,rfl⟩⟩
def Fz:Sx.Spec where
 fn:=82
 own:=[.arg 0]
 rd:=[]
 res:=[.one .sl]
 pre:=fun xs Hs Rs=>∃ p most H bs bad,xs=[p,.int .i64 most]/\Hs=[H]/\mQ H p bs bad/\most<=1000000
 post:=fun xs Hs Rs v Hs' F=>∃ p most H bs bad H',xs=[p,.int .i64 most]/\Hs=[H]/\mQ H p bs bad/\Hs'=[H']/\mQ H' p (mD bs bad most).2.1 (mD bs bad most).2.2/\bM F 5 v (mD bs bad most).1
def Ws:aF Tryz.prog S4 Fz.fn where
 Λ:=aD
 args:=[TP (.var 0) (.lit 0),TI .i64 (.var 5)]
 mem:=AE
 nv:=8
def PZ {a b:Int} : (if a<b then a else b)=min a b:=by split<;>omega
def OS:Fz.OK Tryz.prog:=by
 refine Spec.aV (Γ:=S4) M8 ?_;rintro xs Hs Rs hl1 hl2 ⟨p,most,H,bs,bad,rfl,rfl,⟨a,x,y,c,F,rfl,h⟩,hmost⟩;have e1:Rs=[]:=aad.1 hl2;subst e1;refine⟨Ws,Eg a x y c bs bad F most,fun _ _=>True,fun _ _=>0,?_,PY h most,(fun _ h=>nomatch h),?_⟩
 .show [Value.pointer (ar (a:Int) 0),Value.int .i64 most]=_;rw[js]
 .refine aF.read [] [] [] ?_;generalize hρ:Eg a x y c bs bad F most=J;have v0:J.i 0=a:=by rw[<-hρ];rfl
  have v1:J.i 1=x:=by rw[<-hρ];rfl
  have v2:J.i 2=y:=by rw[<-hρ];rfl
  have v3:J.i 3=bs.length:=by rw[<-hρ];rfl
  have v4:J.i 4=c:=by rw[<-hρ];rfl
  have v5:J.i 5=most:=by rw[<-hρ];rfl
  have b6:J.b 6=bad:=by rw[<-hρ];rfl
  have w7:J.h 7=F:=by rw[<-hρ];rfl
  obtain⟨hn1,hn2⟩:=Qk h.byte;have hrx:=h.rx;have hry:=h.ry;have hrc:=h.rc;have hlen:=h.len;have fail:∀ (q:Env) (t:Mem),ai 8 J q->bad=true\/(gw bs).2=0\/most<0\/min (min most 4096) ((bs.length:Int)-(gw bs).2)<((gw bs).1:Int)->postOf Fz [.pointer (some ⟨a,0,none⟩),.int .i64 most] [H] [] q (.bd 0 [.sl (.var 1) (.var 2) (.var 3) (.var 4),.bool .tt] 203::.hp 7 [] [.var 1] []::t) (.sv (.one (.sl (.lit (-1)) (.lit 0) (.lit 0) (.lit 0)))):=by
   intro q t hq hf _;have hs:mD bs bad most=([],bs,true):=by unfold mD;rw[aay hf]
   refine⟨[[0,1]],[],rfl,rfl,⟨(bh fun k=>if k=0 then -1 else 0),rfl,⟨aar _,aar _,aar _,aar _⟩,zzT⟩,_,most,H,bs,bad,_,rfl,rfl,⟨a,x,y,c,F,rfl,h⟩,rfl,?_,?_⟩
   .rw[hs];have k2:az q (.var 2)=y:=by rw[au,hq.i 2,v2]
    have k3:az q (.var 3)=bs.length:=by rw[au,hq.i 3,v3]
    have k4:az q (.var 4)=c:=by rw[au,hq.i 4,v4]
    rw[<-hρ]at hq;exact Rp h hq k2 k3 k4 rfl hry hrc h.byte (aaz _) h.rd
   .rw[hs];exact tD _ _
  simp only[go_sem,Nat.reduceAdd,S4,Zx,Zy,X5];rw[M3 v0 v1 v2 v3 v4 b6,v0,js,w7];refine⟨⟨_,_,_,bs,bad,rfl,rfl,h.split,h.byte,h.len⟩,fun q g ⟨F1,hp,_,_⟩=>?_⟩;have hv:=EB h.split hp;have hv:q.i 8=(gw bs).1/\q.i 9=(gw bs).2:=by simpa using hv
  obtain⟨h8,h9⟩:=hv;generalize hm:(gw bs).2=m at *;generalize hk:(gw bs).1=k at *;have j1:q.i 1=x:=by rw[g.i 1,v1]
  have j2:q.i 2=y:=by rw[g.i 2,v2]
  have j3:q.i 3=bs.length:=by rw[g.i 3,v3]
  have j4:q.i 4=c:=by rw[g.i 4,v4]
  have j5:q.i 5=most:=by rw[g.i 5,v5]
  rw[g.b 6,b6,h9,h8,j1,j2,j3,j4,j5];rw[wrap_i64 (n:=(bs.length:Int)-(m:Int)) ah ah];simp only[PZ];have emin:min ((bs.length:Int)-(m:Int)) (min 4096 most)=min (min most 4096) ((bs.length:Int)-(m:Int)):=ah;rw[emin];refine⟨fun hb=>⟨fun hz=>⟨fun hmn=>⟨ah,fun hlt=>?_,fun hge=>?_⟩,fun hmn=>fail q _ g (Or.inr (Or.inr (Or.inl hmn)))⟩,fun hz=>fail q _ g (Or.inr (Or.inl ah))⟩,fun hb=>fail q _ g (Or.inl hb)⟩
  .rw[oW ah ah]at hlt;exact fail q _ g (Or.inr (Or.inr (Or.inr hlt)))
  .rw[oW ah ah]at hge;have hwk:IntKind.i64.wrap (k:Int)=k:=wrap_i64 ah ah;have hY:az q (.ite (.eq (.var 4) (.var 9)) (.var 2) (.add (.var 2) (.var 9)))=if c=(m:Int)then y else y+m:=by
    rw[yx,au,au,au,j4,j2,h9]
   have hYq:∀ q',ai 10 q q'->az q' (.ite (.eq (.var 4) (.var 9)) (.var 2) (.add (.var 2) (.var 9)))=if c=(m:Int)then y else y+m:=by
    intro q' g';rw[yx,au,au,au,g'.i 4,g'.i 2,g'.i 9,j4,j2,h9]
   rw[hwk];refine⟨hrx,hry,ah,ah,hrc,fun _=>⟨ah,fun hlt2=>absurd hlt2 ah,fun _=>?_⟩,fun hneg=>absurd hneg ah⟩;have hs:mD bs bad most=((bs.drop m).take k,bs.drop (m+k),false):=by
    unfold mD;rw[hm,hk];have:¬(bad=true\/m=0\/most<0\/min (min most 4096) ((bs.length:Int)-(m:Int))<(k:Int)):=by
     rintro(e | e | e | e)
     .exact hb e
     .exact hz ah
     .omega
     .exact hge e
    rw[aal this]
   have hmk:m+k<=bs.length:=ah;have ht:=QK h (m:=m) (k:=k) hmk (c-m).toNat;have hd1:=CG h (m:=m) ah;have hdl:((bs.drop m).length:Int)=bs.length-m:=by rw[aaV];omega
   have hY0:0<=(if c=(m:Int)then y else y+m):=by split<;>omega
   have h2:Ae (cu [IW a x (if c=(m:Int)then y else y+m) (c-m) (bs.drop m).length false,F]) a x (if c=(m:Int)then y else y+m) (c-m) F (bs.drop m) false :=
    ⟨hrx,hY0,ah,xJ h.byte m,by rw[aaV];omega,hd1,h.na,rfl⟩
   have hd2:=CG h2 (m:=k) (by rw[aaV];omega);rw[aca]at hd2;rw[g.h 7,w7];refine⟨hY0,ah,⟨_,_,F,rfl,rfl,(by rw[aaa];exact ht),by rw[aaA,aaV];omega⟩,fun q2 g2 ⟨F2,hp2,hF2,hnm⟩=>?_⟩;have hO:=rI (R:=F) (u:=.slice (ar x (if c=(m:Int)then y else y+m)) ((k:Int)).toNat (c-m).toNat) (by rw[aaa];exact ht) hp2;rw[<-hF2 zzT]at hO;have G2:ai 8 J q2:=g.tr g2;rw[g2.i 8,g2.i 9,G2.i 3,G2.i 4,h8,h9,v3,v4,hwk];refine⟨ah,ah,fun _=>?_⟩;have eC:az q2 (.sub (.var 4) (.var 9))=c-m:=by
    show q2.i 4-q2.i 9=_;rw[G2.i 4,g2.i 9,v4,h9]
   have eN:az q2 (.sub (.var 3) (.var 9))=bs.length-m:=by
    show q2.i 3-q2.i 9=_;rw[G2.i 3,g2.i 9,v3,h9]
   have eK:az q2 (.wrap .i64 (.var 8))=k:=by
    show IntKind.i64.wrap (q2.i 8)=_;rw[g2.i 8,h8,hwk]
   have hlast:((bs.drop (m+k)).length:Int)=bs.length-m-k:=by rw[aaV];omega
   have g6:aY q2 (.bvar 6)=false:=by rw[bF,G2.b 6,b6];exact abW.2 hb
   rw[<-hρ]at G2;refine⟨[[0,1]],[2],rfl,rfl,⟨(bh fun k=>q2.i (10+k)),rfl,hnm.1,zzT⟩,_,most,H,bs,bad,_,rfl,rfl,⟨a,x,y,c,F,rfl,h⟩,rfl,?_,?_⟩
   .rw[hs];refine Rp h G2 ?_ ?_ ?_ g6 (y':=if c-(m:Int)=k then(if c=(m:Int)then y else y+m)else(if c=(m:Int)then y else y+m)+k) (by split<;>omega) (c':=c-m-k) (by rw[hlast];omega) (xJ h.byte _) (by rw[aaV];omega) hd2
    .rw[yx,eC,eK,hYq q2 g2]
    .rw[dj,eN,eK,hlast]
    .rw[dj,eC,eK]
   .rw[hs];show bM (cu [q2.h 10]) _ _ _;rw[aL];exact hO
abbrev Lx (x:Int) (n:Nat) (c:Int):Value:=.slice (ar x 0) ((n:Int)).toNat c.toNat
def tB (a:Nat) (x c:Int) (n:Nat) (lg:Bool):Hl:=Hl.one a (.cells #[Lx x n c,.bool lg] 208 (0,0))
structure Aq (H:Hl) (a:Nat) (x c:Int) (F:Hl) (bs:List Int) (lg:Bool):Prop where
 rx:-1<=x
 rc:0<=c
 own:bM F 5 (Lx x bs.length c) bs
 na:¬F.mem a
 hl:H=cu [tB a x c bs.length lg,F]
def bn (H:Hl) (p:Value) (bs:List Int) (lg:Bool):Prop:=∃ a x c F,p=.pointer (some ⟨a,0,none⟩)/\Aq H a x c F bs lg
section
variable {H F:Hl} {a:Nat} {x c:Int} {bs:List Int} {lg:Bool}
def Aq.le (h:Aq H a x c F bs lg):(tB a x c bs.length lg).le H/\F.le H:=by
 have hd:(tB a x c bs.length lg).bq F:=Hl.fE.2 h.na;rw[h.hl];show(tB a x c bs.length lg).le ((tB a x c bs.length lg).un (F.un Hl.none))/\F.le ((tB a x c bs.length lg).un (F.un Hl.none));rw[Hl.jg];exact⟨Hl.aX _ _,Hl.bj hd⟩
def bn.whole (h:bn H p bs lg):∃ (a:Nat) (x c:Int),p=.pointer (some ⟨a,0,none⟩)/\ -1<=x/\0<=c/\H.cell a 0=some (Lx x bs.length c)/\H.cell a 1=some (.bool lg)/\nN H (Lx x bs.length c) bs:=by
 obtain⟨a,x,c,F,rfl,h⟩:=h;obtain⟨l1,l2⟩:=h.le;have e:=l1 a _ (Hl.aN _ _);exact⟨a,x,c,rfl,h.rx,h.rc,by unfold Hl.cell;rw[e];rfl,by unfold Hl.cell;rw[e];rfl,EZ l2 h.own.rd⟩
def bn.uniq (h:bn H p bs lg) (h':bn H p bs' lg'):bs=bs'/\lg=lg':=by
 obtain⟨a,x,c,rfl,_,_,h0,h1,hr⟩:=h.whole;obtain⟨a',x',c',e,_,_,k0,k1,kr⟩:=h'.whole;simp only[Value.pointer.injEq,aak,Addr.mk.injEq,aau]at e;subst e;rw[h0]at k0;rw[h1]at k1;simp only[aak,Value.bool.injEq]at k0 k1;rw[<-k0]at kr;exact⟨hr.uniq kr,k1⟩
end
def bn.new (a:Nat):bn (Hl.one a (.cells #[.slice none 0 0,.bool false] 208 (0,0))) (.pointer (some ⟨a,0,none⟩)) [] false:=by
 refine⟨a,-1,0,Hl.none,rfl,⟨aar _,aar _,⟨rfl,Or.inl ⟨rfl,rfl⟩⟩,fun h=>(by simp [Hl.mem,Hl.none]at h),?_⟩⟩;show _=(tB a (-1) 0 0 false).un (Hl.none.un Hl.none);rw[Hl.jg,Hl.jg];rfl
def iX:Mem:=[.bd 0 [.sl (.var 1) (.lit 0) (.var 2) (.var 3),.bool (.bvar 6)] 208,.hp 7 [] [.var 1] []]
def mM (a:Nat) (x c:Int) (n:Nat) (lg:Bool) (F:Hl) (z:Int) (l:List Int) (R:Hl):Env:=aQ ([(a:Int),x,n,c,0,z,0,0]++l) lg [Hl.none,Hl.none,Hl.none,Hl.none,Hl.none,Hl.none,Hl.none,F,Hl.none,Hl.none,Hl.none,Hl.none,R]
section
variable {H F:Hl} {a:Nat} {x c:Int} {bs:List Int} {lg:Bool}
def zf (h:Aq H a x c F bs lg) (z:Int) (l:List Int) (R:Hl):Entry (mM a x c bs.length lg F z l R) iX [H] []:=by
 obtain⟨l1,l2⟩:=h.le;have hb:(bm.bd 0 [.sl (.var 1) (.lit 0) (.var 2) (.var 3),.bool (.bvar 6)] 208).hl (mM a x c bs.length lg F z l R)=tB a x c bs.length lg:=by
  show Hl.one ((a:Int)).toNat (.cells #[Lx x bs.length c,.bool lg] 208 (0,0))=_;rw[aaa];rfl
 refine⟨fun r hr ho=>⟨H,aC,?_⟩,fun r hr ho=>?_,?_,fun r hr=>?_⟩
 .simp only[iX,aan,aat,aaX]at hr;rcases hr with rfl | rfl
  .rw[hb];exact l1
  .exact l2
 .simp only[iX,aan,aat,aaX]at hr;rcases hr with rfl | rfl<;>cases ho
 .unfold iX;refine List.Pairwise.cons (fun r hr _ _=>?_) (List.Pairwise.cons (fun r hr=>by cases hr) List.Pairwise.nil);rw[aam]at hr;subst hr;rw[hb];exact Hl.fE.2 h.na
 .simp only[iX,aan,aat,aaX]at hr;rcases hr with rfl | rfl
  .show(0:Int)<=(a:Int);omega
  .trivial
def KY (h:Aq H a x c F bs lg) (z:Int) (l:List Int) (R:Hl) (t:List E):Entry (mM a x c bs.length lg F z l R) (iX++[.ro 12 t false]) [H] [R]:=by
 obtain⟨h1,h2,h3,h4⟩:=zf h z l R;refine⟨fun r hr ho=>?_,fun r hr ho=>?_,?_,fun r hr=>?_⟩
 .rcases aaU.1 hr with hr | hr
  .exact h1 r hr ho
  .rw[aam]at hr;subst hr;cases ho
 .rcases aaU.1 hr with hr | hr
  .obtain⟨R,hR,_⟩:=h2 r hr ho;cases hR
  .rw[aam]at hr;subst hr;exact⟨R,aC,Hl.le_refl _⟩
 .rw[adn];refine⟨h3,aC,fun r _ s hs _ ho=>?_⟩;rw[aam]at hs;subst hs;cases ho
 .rcases aaU.1 hr with hr | hr
  .exact h4 r hr
  .rw[aam]at hr;subst hr;trivial
end
def Hj {X:E} (h0:q.i 0=a) (hX:-1<=az q X) (hN:az q N=bs.length) (hC:0<=az q C) (hg:aY q g=lg) (ho:bM (q.h k) 5 (Lx (az q X) bs.length (az q C)) bs)
 (hd:∀ (p s:Nat) r u,p≠s->(.bd 0 [.sl X (.lit 0) N C,.bool g] 208::.hp k v7 t7 []::t:Mem)[p]?=some r->(.bd 0 [.sl X (.lit 0) N C,.bool g] 208::.hp k v7 t7 []::t:Mem)[s]?=some u->r.own=true->(r.hl q).bq (u.hl q)) :
 bn (ue q (.bd 0 [.sl X (.lit 0) N C,.bool g] 208::.hp k v7 t7 []::t) [0,1]) (.pointer (some ⟨a,0,none⟩)) bs lg:=by
 have hb:(bm.bd 0 [.sl X (.lit 0) N C,.bool g] 208).hl q=tB a (az q X) (az q C) bs.length lg:=by
  show Hl.one (q.i 0).toNat (.cells #[.slice (ar (az q X) 0) (az q N).toNat (az q C).toNat,.bool (aY q g)] 208 (0,0))=_;rw[h0,hN,hg,aaa];rfl
 have d01:=hd 0 1 _ _ aA rfl rfl rfl;rw[hb]at d01;refine⟨a,az q X,az q C,q.h k,rfl,hX,hC,ho,Hl.fE.1 d01,?_⟩;show cu [(bm.bd 0 [.sl X (.lit 0) N C,.bool g] 208).hl q,q.h k]=_;rw[hb]
def qC {x1 c1:Int} (ho:bM A 5 (.slice (ar x 0) l.toNat c.toNat) bs) (hl:l=bs.length) (hm:m=bs2.length)
 (happ:∀ xs,aK A 5 1 (.slice (ar x 0) l.toNat c.toNat) l.toNat xs->aK B 5 1 (.slice (ar x1 0) (l.toNat+m) c1.toNat) (l.toNat+m) (xs++aS bs2)):bM B 5 (Lx x1 (bs++bs2).length c1) (bs++bs2):=by
 have hn:l.toNat=bs.length:=ah;have h1:aK A 5 1 (.slice (ar x 0) l.toNat c.toNat) l.toNat (aS bs):=by rw[hn]at ho ⊢;exact ho
 have h2:=happ _ h1;unfold bM Lx;rw[aaa,aac,gE,<-hm,<-hn];exact h2
def qD (ho:bM A 5 (.slice (ar x 0) l.toNat c.toNat) bs) (hl:l=bs.length):aK A 5 1 (.slice (ar x 0) l.toNat c.toNat) l.toNat (aS bs):=by
 have hn:l.toNat=bs.length:=ah;rw[hn]at ho ⊢;exact ho
def NN (f:FuncId) (ok:List Value->List Int->Prop) (act:List Value->List Int->List Int):Sx.Spec where
 fn:=f
 own:=[.arg 0]
 rd:=[]
 res:=[]
 pre:=fun xs Hs Rs=>∃ p z H bs lg,xs=[p,z]/\Hs=[H]/\bn H p bs lg/\ok [z] bs/\bs.length<=900000
 post:=fun xs Hs Rs v Hs' F=>∃ p z H bs lg H',xs=[p,z]/\Hs=[H]/\bn H p bs lg/\Hs'=[H']/\bn H' p (act [z] bs) lg
def Hb (l:List Value) (bs:List Int):List Int:=bs++aj (bV l[0]?).toNat
def VJ (l:List Value) (_:List Int):Prop:=∃ z:Int,l=[.int .u64 z]/\0<=z/\z<18446744073709551616
def yZ:Sx.Spec:=NN 156 VJ Hb
def VL:aF Tryz.prog [] 156 where
 Λ:=fun p=>if I9 p then some ⟨0,[(1,TI .u64 (.var 24))],[(0,.bd 0 [.sl (.var 20) (.lit 0) (.var 22) (.var 23),.bool (.bvar 6)] 208),(1,.hp 25 [] [.var 20] [])],30⟩else none
 args:=[TP (.var 0) (.lit 0),TI .u64 (.var 5)]
 mem:=iX
 nv:=8
def Jf (all:List Int) (m:Nat) (_:Nat) (q:Env):Prop:=∃ (y:Nat) (done:List Int),q.i 24=y/\done++aj y=all/\done.length<=m/\q.i 22=done.length/\ -1<=q.i 20/\0<=q.i 23/\bM (q.h 25) 5 (.slice (ar (q.i 20) 0) (q.i 22).toNat (q.i 23).toNat) done
def nD {z:Nat} (h:z<18446744073709551616):(aj z).length<=10:=by
 refine Ey 9 z (abM h aA)
def ED:yZ.OK Tryz.prog:=by
 refine Spec.aV (Γ:=[]) (fun _ h=>by cases h) ?_;rintro xs Hs Rs hl1 hl2 ⟨p,zv,H,bs,lg,rfl,rfl,⟨a,x,c,F,rfl,h⟩,⟨z,hz,hz0,hz1⟩,hlen⟩;have hz:zv=.int .u64 z:=by simpa using hz
 subst hz;have e1:Rs=[]:=aad.1 hl2;subst e1;have hnb:=nD (z:=z.toNat) ah;refine⟨VL,mM a x c bs.length lg F z [] Hl.none,Jf (bs++aj z.toNat) (bs.length+10),fun _ q=>(q.i 24).toNat,?_,zf h z [] _,(fun _ h=>nomatch h),?_⟩
 .show [Value.pointer (ar (a:Int) 0),Value.int .u64 z]=_;rw[js]
 .refine aF.read [] [] [] ?_;generalize hρ:mM a x c bs.length lg F z [] Hl.none=J;have v0:J.i 0=a:=by rw[<-hρ];rfl
  have v1:J.i 1=x:=by rw[<-hρ];rfl
  have v2:J.i 2=bs.length:=by rw[<-hρ];rfl
  have v3:J.i 3=c:=by rw[<-hρ];rfl
  have v5:J.i 5=z:=by rw[<-hρ];rfl
  have b6:J.b 6=lg:=by rw[<-hρ];rfl
  have w7:J.h 7=F:=by rw[<-hρ];rfl
  clear hρ;simp only[go_sem,Nat.reduceAdd];refine⟨⟨z.toNat,bs,?_,rfl,ah,?_,?_,?_,?_⟩,fun q g ⟨y,done,e24,hall,hdl,e22,r20,r23,hO⟩=>?_⟩
  .show J.i 5=_;rw[v5];omega
  .show J.i 2=_;exact v2
  .show -1<=J.i 1;rw[v1];exact h.rx
  .show 0<=J.i 3;rw[v3];exact h.rc
  .show bM (J.h 7) _ (.slice (ar (J.i 1) 0) (J.i 2).toNat (J.i 3).toNat) bs;rw[w7,v1,v2,v3];exact h.own
  have hal:=aaQ List.length hall;rw[aac,aac]at hal;refine⟨fun hge q1 g1 _=>?_,fun hlt q1 g1 _=>?_⟩
  .rw[g1.h 25,g1.i 20,g1.i 22,g1.i 23];refine⟨⟨⟨_,qD hO e22⟩,ah,by unfold maxLen;omega,ah⟩,fun q2 g2 ⟨a1,a2,a3,_⟩=>?_⟩;rw[e24]at hge;have hyh:aj y=((y%128+128:Nat):Int)::aj (y/128):=jr ah;have eb:az q1 (.bits .or .u8 (.wrap .u8 (.var 24)) (.lit 128))=((y%128+128:Nat):Int):=by
    show cn .or .u8 (IntKind.u8.wrap (q1.i 24)) 128=_;rw[g1.i 24,e24];exact VE
   rw[eb]at a3;have hO2:=qC (bs2:=[((y%128+128:Nat):Int)]) (m:=1) hO e22 rfl a3;have e24':az q2 (.shr .u64 (.var 24) (.lit 7))=((y/128:Nat):Int):=by
    show(q2.i 24).fdiv (2 ^ (7:Int).toNat)=_;rw[g2.i 24,g1.i 24,e24];exact YY
   refine⟨⟨y/128,done++[((y%128+128:Nat):Int)],e24',?_,?_,?_,a1,a2,?_⟩,?_⟩
   .rw[aaF,<-hall,hyh];rfl
   .rw[aac,aaB];rw[hyh,aaL]at hal;omega
   .show q2.i 22+1=_;rw[g2.i 22,g1.i 22,e22,aac,aaB];omega
   .show bM (q2.h 31) _ (.slice (ar (q2.i 31) 0) (q2.i 22+1).toNat (q2.i 32).toNat) _;rw[g2.i 22,g1.i 22,e22];have:=hO2;unfold Lx at this;rw[aac,aaB]at this;exact this
   .show(az q2 (.shr .u64 (.var 24) (.lit 7))).toNat<(q.i 24).toNat;rw[e24',e24];omega
  .rw[g1.h 25,g1.i 20,g1.i 22,g1.i 23];refine⟨⟨⟨_,qD hO e22⟩,ah,by unfold maxLen;omega,ah⟩,fun q2 g2 ⟨a1,a2,a3,_⟩ hd=>?_⟩;rw[e24]at hlt;have hyl:aj y=[(y:Int)]:=jM ah;have eb:IntKind.u8.wrap (q1.i 24)=(y:Int):=by
    rw[g1.i 24,e24,RU];omega
   rw[eb]at a3;have hO2:=qC (bs2:=[(y:Int)]) (m:=1) hO e22 rfl a3;rw[<-hyl,hall]at hO2;have G:ai 8 J q2:=g.trans (g1.mono.tr g2);refine⟨[[0,1]],[],rfl,rfl,⟨(bh fun _=>0),rfl,zzT⟩,_,_,H,bs,lg,_,rfl,rfl,⟨a,x,c,F,rfl,h⟩,rfl,Hj (by rw[G.i 0,v0]) a1 ?_ a2 (by rw[bF,G.b 6,b6]) hO2 hd⟩;show q2.i 22+1=((bs++aj z.toNat).length:Int);rw[g2.i 22,g1.i 22,e22,aac];rw[hyl,aaB]at hal;omega
def tw:Sx.Spec where
 fn:=157
 own:=[.arg 0]
 rd:=[1]
 res:=[]
 pre:=fun xs Hs Rs=>∃ p u H R bs lg b2,xs=[p,u]/\Hs=[H]/\Rs=[R]/\bn H p bs lg/\fC R u b2/\bs.length<=900000/\b2.length<=90000
 post:=fun xs Hs Rs v Hs' F=>∃ p u H R bs lg b2 H',xs=[p,u]/\Hs=[H]/\Rs=[R]/\bn H p bs lg/\fC R u b2/\Hs'=[H']/\bn H' p (bs++b2) lg
def VM:aF Tryz.prog [] tw.fn where
 Λ:=aD
 args:=[TP (.var 0) (.lit 0),.sv (.one (.sl (.var 8) (.var 9) (.var 10) (.var 11)))]
 mem:=iX++[.ro 12 [.var 8] false]
 nv:=13
def EE:tw.OK Tryz.prog:=by
 refine Spec.aV (Γ:=[]) (fun _ h=>by cases h) ?_;rintro xs Hs Rs hl1 hl2 ⟨p,u,H,R,bs,lg,b2,rfl,rfl,rfl,⟨a,x,c,F,rfl,h⟩,hRd,hlen,hl2'⟩;obtain⟨x2,y2,c2,rfl,hy2,hR⟩:=id hRd;refine⟨VM,mM a x c bs.length lg F 0 [x2,y2,b2.length,c2] R,fun _ _=>True,fun _ _=>0,?_,KY h 0 _ R _,(fun _ h=>nomatch h),?_⟩
 .show [Value.pointer (ar (a:Int) 0),Value.slice (ar x2 y2) ((b2.length:Int)).toNat ((c2:Int)).toNat]=_;rw[js,aaa,aaa]
 .refine aF.read [] [] [] ?_;generalize hρ:mM a x c bs.length lg F 0 [x2,y2,b2.length,c2] R=J;have v0:J.i 0=a:=by rw[<-hρ];rfl
  have v1:J.i 1=x:=by rw[<-hρ];rfl
  have v2:J.i 2=bs.length:=by rw[<-hρ];rfl
  have v3:J.i 3=c:=by rw[<-hρ];rfl
  have v8:J.i 8=x2:=by rw[<-hρ];rfl
  have v9:J.i 9=y2:=by rw[<-hρ];rfl
  have v10:J.i 10=b2.length:=by rw[<-hρ];rfl
  have b6:J.b 6=lg:=by rw[<-hρ];rfl
  have w7:J.h 7=F:=by rw[<-hρ];rfl
  have w12:J.h 12=R:=by rw[<-hρ];rfl
  clear hρ;simp only[go_sem,Nat.reduceAdd];rw[v1,v2,v3,v8,v9,v10,w7,w12];obtain⟨hok,hseg⟩:=se (R:=R) (x:=x2) (y:=y2) (l:=(b2.length:Int)) rfl hy2 hR;have hO:bM F 5 (.slice (ar x 0) ((bs.length:Int)).toNat c.toNat) bs:=h.own;refine⟨⟨⟨_,qD hO rfl⟩,ah,by simpa using hok,by rw[aaa,aaa];unfold maxLen;omega,by rw[aaa,aaa];omega⟩,fun q2 g2 ⟨a1,a2,a3,_⟩ hd=>?_⟩;rw[hseg]at a3;have hO2:=qC (bs2:=b2) (m:=((b2.length:Int)).toNat) hO rfl (aaa _) a3;refine⟨[[0,1]],[],rfl,rfl,⟨(bh fun _=>0),rfl,zzT⟩,_,_,H,R,bs,lg,b2,_,rfl,rfl,rfl,⟨a,x,c,F,rfl,h⟩,hRd,rfl,Hj (by rw[g2.i 0,v0]) a1 ?_ a2 (by rw[bF,g2.b 6,b6]) hO2 hd⟩;show q2.i 2+q2.i 10=((bs++b2).length:Int);rw[g2.i 2,g2.i 10,v2,v10,aac];omega
def IK (l:List Value) (bs:List Int):List Int:=bs++[if zV l[0]?=true then 1 else 0]
def SL (l:List Value) (_:List Int):Prop:=∃ b:Bool,l=[.bool b]
def uN:Sx.Spec:=NN 199 SL IK
def Tt:aF Tryz.prog [] 199 where
 Λ:=aD
 args:=[TP (.var 0) (.lit 0),.sv (.one (.bool (.bvar 5)))]
 mem:=iX
 nv:=8
def KZ (h:Aq H a x c F bs lg) (b5:Bool):Entry {mM a x c bs.length lg F 0 [] Hl.none with b:=fun k=>if k=5 then b5 else lg} iX [H] []:=by
 obtain⟨h1,h2,h3,h4⟩:=zf h 0 [] Hl.none;refine⟨fun r hr ho=>?_,fun r hr ho=>?_,?_,fun r hr=>?_⟩
 .obtain⟨K,hK,hle⟩:=h1 r hr ho;refine⟨K,hK,?_⟩;simp only[iX,aan,aat,aaX]at hr;rcases hr with rfl | rfl<;>exact hle
 .simp only[iX,aan,aat,aaX]at hr;rcases hr with rfl | rfl<;>cases ho
 .exact h3.imp (fun {r s} hrs=>hrs) |>fun _=>by
   unfold iX at h3 ⊢;refine List.Pairwise.cons (fun r hr _ _=>?_) (List.Pairwise.cons (fun r hr=>by cases hr) List.Pairwise.nil);rw[aam]at hr;subst hr;exact(ac4.1 h3).1 _ (aam.2 rfl) rfl rfl
 .simp only[iX,aan,aat,aaX]at hr;rcases hr with rfl | rfl
  .show(0:Int)<=(a:Int);omega
  .trivial
def KW:uN.OK Tryz.prog:=by
 refine Spec.aV (Γ:=[]) (fun _ h=>by cases h) ?_;rintro xs Hs Rs hl1 hl2 ⟨p,zv,H,bs,lg,rfl,rfl,⟨a,x,c,F,rfl,h⟩,⟨b,hb⟩,hlen⟩;have hb:zv=.bool b:=by simpa using hb
 subst hb;have e1:Rs=[]:=aad.1 hl2;subst e1;refine⟨Tt,{mM a x c bs.length lg F 0 [] Hl.none with b:=fun k=>if k=5 then b else lg},fun _ _=>True,fun _ _=>0,?_,KZ h b,(fun _ h=>nomatch h),?_⟩
 .show [Value.pointer (ar (a:Int) 0),Value.bool b]=_;rw[js]
 .refine aF.read [] [] [] ?_;generalize hρ:({mM a x c bs.length lg F 0 [] Hl.none with b:=fun k=>if k=5 then b else lg} : Env)=J;have v0:J.i 0=a:=by rw[<-hρ];rfl
  have v1:J.i 1=x:=by rw[<-hρ];rfl
  have v2:J.i 2=bs.length:=by rw[<-hρ];rfl
  have v3:J.i 3=c:=by rw[<-hρ];rfl
  have b5:J.b 5=b:=by rw[<-hρ];rfl
  have b6:J.b 6=lg:=by rw[<-hρ];rfl
  have w7:J.h 7=F:=by rw[<-hρ];rfl
  clear hρ;have hO:bM F 5 (.slice (ar x 0) ((bs.length:Int)).toNat c.toNat) bs:=h.own;have fin:∀ (q2:Env) (z:Int) (t:Mem),ai 8 J q2-> -1<=q2.i 9->0<=q2.i 10->(if b=true then(1:Int)else 0)=z->(∀ xs,aK F 5 1 (.slice (ar x 0) ((bs.length:Int)).toNat c.toNat) ((bs.length:Int)).toNat xs->aK (q2.h 9) 5 1 (.slice (ar (q2.i 9) 0) (((bs.length:Int)).toNat+1) (q2.i 10).toNat) (((bs.length:Int)).toNat+1) (xs++aS [z])) ->
   postOf uN [.pointer (some ⟨a,0,none⟩),.bool b] [H] [] q2 (.bd 0 [.sl (.var 9) (.lit 0) (.add (.var 2) (.lit 1)) (.var 10),.bool (.bvar 6)] 208::.hp 9 [7] [.var 9,.var 1] []::t) (.tup []):=by
   intro q2 z t G a1 a2 hz a3 hd;have hO2:=qC (bs2:=[z]) (m:=1) hO rfl rfl a3;refine⟨[[0,1]],[],rfl,rfl,⟨(bh fun _=>0),rfl,zzT⟩,_,_,H,bs,lg,_,rfl,rfl,⟨a,x,c,F,rfl,h⟩,rfl,?_⟩;have ea:IK [Value.bool b] bs=bs++[z]:=by rw[<-hz];rfl
   rw[ea];refine Hj (by rw[G.i 0,v0]) a1 ?_ a2 (by rw[bF,G.b 6,b6]) hO2 hd;show q2.i 2+1=((bs++[z]).length:Int);rw[G.i 2,v2,aac,aaB];omega
  simp only[go_sem,Nat.reduceAdd];rw[b5];refine⟨fun hb q1 g1 _=>?_,fun hb q1 g1 _=>?_⟩
  all_goals
   rw[g1.i 1,g1.i 2,g1.i 3,g1.h 7,v1,v2,v3,w7];refine⟨⟨⟨_,qD hO rfl⟩,ah,by rw[aaa];unfold maxLen;omega,by rw[aaa];omega⟩,fun q2 g2 ⟨a1,a2,a3,_⟩=>?_⟩
  .exact fin q2 1 _ (g1.tr g2) a1 a2 (aay hb) a3
  .exact fin q2 0 _ (g1.tr g2) a1 a2 (aal hb) a3
def aO (b:List Int):List Int:=aj b.length++b
def jC (bs:List Int) (lg:Bool) (b2:List Int):List Int×Bool:=if 4096<b2.length then(bs,true)else(bs++aO b2,lg)
def rZ:Sx.Spec where
 fn:=127
 own:=[.arg 0]
 rd:=[1]
 res:=[]
 pre:=fun xs Hs Rs=>∃ p u H R bs lg b2,xs=[p,u]/\Hs=[H]/\Rs=[R]/\bn H p bs lg/\fC R u b2/\bs.length<=800000/\0<=b2.length
 post:=fun xs Hs Rs v Hs' F=>∃ p u H R bs lg b2 H',xs=[p,u]/\Hs=[H]/\Rs=[R]/\bn H p bs lg/\fC R u b2/\Hs'=[H']/\bn H' p (jC bs lg b2).1 (jC bs lg b2).2
def oΓ:List Sx.Spec:=[yZ,tw,fU]
def RB:∀ t∈oΓ,t.OK Tryz.prog:=av ED <| av EE <| av kX <| bN
def Yn:oΓ[2]?=some fU:=rfl
def Yo:yZ.res=[]:=rfl
def Yp:tw.res=[]:=rfl
def za:aF Tryz.prog oΓ rZ.fn where
 Λ:=aD
 args:=[TP (.var 0) (.lit 0),.sv (.one (.sl (.var 8) (.var 9) (.var 10) (.var 11)))]
 mem:=[.hp 1 [] [.var 0] [],.ro 12 [.var 8] false]
 nv:=13
def bn.QY (h:bn H (.pointer (some ⟨a,0,none⟩)) bs lg):H.wr a 1 1=true/\bn (H.put a 1 [.bool true]) (.pointer (some ⟨a,0,none⟩)) bs true:=by
 obtain⟨a',x,c,F,e,h⟩:=h;simp only[Value.pointer.injEq,aak,Addr.mk.injEq,aau]at e;subst e;obtain⟨l1,_⟩:=h.le;have e:=l1 a _ (Hl.aN _ _);refine⟨by unfold Hl.wr;rw[e];rfl,a,x,c,F,rfl,h.rx,h.rc,h.own,h.na,?_⟩;rw[h.hl]
 funext k
 unfold Hl.put;by_cases hk:k=a
 .subst hk;rw[aay rfl];have e2:cu [tB k x c bs.length lg,F] k=some (.cells #[Lx x bs.length c,.bool lg] 208 (0,0)):=by rw[<-h.hl];exact e
  have e3:cu [tB k x c bs.length true,F] k=some (.cells #[Lx x bs.length c,.bool true] 208 (0,0)):=Hl.sD (Hl.aN _ _);rw[e2];exact e3.symm
 .rw[aal hk];have n1:∀ g:Bool,¬(tB a x c bs.length g).mem k:=fun g hm=>hk (Hl.cm.1 hm);show((tB a x c bs.length lg).un _) k=((tB a x c bs.length true).un _) k;rw[Hl.qk (n1 _),Hl.qk (n1 _)]
def Cw {f:FuncId} {ok:List Value->List Int->Prop} {act:List Value->List Int->List Int} {z:Value} (h:bn H p bs lg) (hp:(NN f ok act).post [p,z] [H] Rs v K F):∃ H',K=[H']/\bn H' p (act [z] bs) lg:=by
 obtain⟨p',z',Hx,bs',lg',H',hx,hH,hO,hK,hO'⟩:=hp;have hx:p=p'/\z=z':=by simpa using hx
 obtain⟨e1,e2⟩:=hx;have hH:H=Hx:=by simpa using hH
 subst e1 e2 hH;obtain⟨e1,e2⟩:=h.uniq hO;subst e1 e2;exact⟨H',hK,hO'⟩
def EY (h:bn H p bs lg) (h2:fC R u b2) (hp:tw.post [p,u] [H] [R] v K F):∃ H',K=[H']/\bn H' p (bs++b2) lg:=by
 obtain⟨p',z',Hx,Rx,bs',lg',b2',H',hx,hH,hR,hO,hB,hK,hO'⟩:=hp;have hx:p=p'/\u=z':=by simpa using hx
 obtain⟨e1,e2⟩:=hx;have hH:H=Hx:=by simpa using hH
 have hR:R=Rx:=by simpa using hR
 subst e1 e2 hH hR;obtain⟨e1,e2⟩:=h.uniq hO;subst e1 e2;have e:=h2.uniq hB;subst e;exact⟨H',hK,hO'⟩
def AX:rZ.OK Tryz.prog:=by
 refine Spec.aV (Γ:=oΓ) RB ?_;rintro xs Hs Rs hl1 hl2 ⟨p,u,H,R,bs,lg,b2,rfl,rfl,rfl,h,hRd,hlen,hl2'⟩;obtain⟨a,_,_,rfl,_⟩:=h.whole;obtain⟨x2,y2,c2,rfl,hy2,hR⟩:=id hRd;refine⟨za,aQ [(a:Int),0,0,0,0,0,0,0,x2,y2,b2.length,c2] false [Hl.none,H,Hl.none,Hl.none,Hl.none,Hl.none,Hl.none,Hl.none,Hl.none,Hl.none,Hl.none,Hl.none,R],fun _ _=>True,fun _ _=>0,?_,⟨?_,?_,?_,?_⟩,(fun _ h=>nomatch h),?_⟩
 .show [Value.pointer (ar (a:Int) 0),Value.slice (ar x2 y2) ((b2.length:Int)).toNat ((c2:Int)).toNat]=_;rw[js,aaa,aaa]
 .intro r hr ho;simp [za]at hr;rcases hr with rfl | rfl
  .exact⟨H,aC,Hl.le_refl _⟩
  .cases ho
 .intro r hr ho;simp [za]at hr;rcases hr with rfl | rfl
  .cases ho
  .exact⟨R,aC,Hl.le_refl _⟩
 .simp [za,bm.own]
 .intro r hr;simp [za]at hr;rcases hr with rfl | rfl<;>trivial
 .refine aF.read [] [] [] ?_;generalize hρ:aQ [(a:Int),0,0,0,0,0,0,0,x2,y2,b2.length,c2] false [Hl.none,H,Hl.none,Hl.none,Hl.none,Hl.none,Hl.none,Hl.none,Hl.none,Hl.none,Hl.none,Hl.none,R]=J;have v0:J.i 0=a:=by rw[<-hρ];rfl
  have v8:J.i 8=x2:=by rw[<-hρ];rfl
  have v9:J.i 9=y2:=by rw[<-hρ];rfl
  have v10:J.i 10=b2.length:=by rw[<-hρ];rfl
  have v11:J.i 11=c2:=by rw[<-hρ];rfl
  have w1:J.h 1=H:=by rw[<-hρ];rfl
  have w12:J.h 12=R:=by rw[<-hρ];rfl
  clear hρ;have out:∀ (q:Env) (k:Nat) (vs:List Nat) (t:Mem) (r:List Int×Bool),jC bs lg b2=r->bn (q.h k) (.pointer (some ⟨a,0,none⟩)) r.1 r.2->postOf rZ [.pointer (some ⟨a,0,none⟩),.slice (ar x2 y2) b2.length c2] [H] [R] q (.hp k vs [.var 0] []::t) (.tup []):=by
   intro q k vs t r hr ho _;refine⟨[[0]],[],rfl,rfl,⟨(bh fun _=>0),rfl,zzT⟩,_,_,H,R,bs,lg,b2,_,rfl,rfl,rfl,h,hRd,rfl,?_⟩;rw[hr];show bn (cu [q.h k]) _ _ _;rw[aL];exact ho
  have tn1:Int.toNat 1=1:=rfl;simp only[go_sem,Nat.reduceAdd,oΓ,Yo,Yp,tn1];rw[v10,v0,w1,aaa];obtain⟨hw,hset⟩:=h.QY;refine⟨ah,fun hgt=>⟨ah,⟨ah,ah,hw⟩,fun q g h13=>?_⟩,fun hle=>?_⟩
  .refine out q 13 _ _ (bs,true) (by unfold jC;rw[aay ah]) ?_;rw[h13];exact hset
  .have hu:IntKind.u64.wrap ((b2.length:Nat):Int)=b2.length:=oW ah ah;rw[hu,js];refine⟨⟨_,_,H,bs,lg,rfl,rfl,h,⟨_,rfl,ah,ah⟩,ah⟩,fun q g ⟨F1,hp,_,_⟩=>?_⟩;obtain⟨H1,hK1,hO1⟩:=Cw h hp;have hK1:q.h 13=H1:=by simpa using hK1
   rw[<-hK1]at hO1;have eN:Hb [Value.int .u64 ((b2.length:Nat):Int)] bs=bs++aj b2.length:=by
    unfold Hb;show bs++aj (((b2.length:Nat):Int)).toNat=_;rw[aaa]
   rw[eN]at hO1;have hnb:=nD (z:=b2.length) ah;rw[g.i 0,v0,g.i 8,v8,g.i 9,v9,g.i 10,v10,g.i 11,v11,g.h 12,w12,js,aaa,aaa];refine⟨⟨_,_,_,R,_,lg,b2,rfl,rfl,rfl,hO1,hRd,by rw[aac];omega,ah⟩,fun q2 g2 ⟨F2,hp2,_,_⟩=>?_⟩;obtain⟨H2,hK2,hO2⟩:=EY hO1 hRd hp2;have hK2:q2.h 15=H2:=by simpa using hK2
   refine out q2 15 _ _ (bs++aO b2,lg) (by unfold jC;rw[aal ah]) ?_;rw[hK2];unfold aO;rw[<-aaF];exact hO2
def qN (bs:List Int) (lg:Bool):List Int×Int:=if lg=true\/16384<bs.length then([],3)else(bs,0)
def rz:Sx.Spec where
 fn:=128
 own:=[]
 rd:=[0]
 res:=[.one .sl,.one (.int .i64)]
 pre:=fun xs Hs Rs=>∃ p R bs lg,xs=[p]/\Rs=[R]/\bn R p bs lg/\bs.length<=1000000
 post:=fun xs Hs Rs v Hs' F=>∃ p R bs lg u,xs=[p]/\Rs=[R]/\bn R p bs lg/\v=.tuple #[u,.int .i64 (qN bs lg).2]/\bM F 5 u (qN bs lg).1
def EC:aF Tryz.prog oΓ rz.fn where
 Λ:=aD
 args:=[TP (.var 0) (.lit 0)]
 mem:=[.ro 1 [.hP 2 (.var 0) (.lit 0) 0 0] false,.ro 2 [.var 0] false]
 nv:=3
def Yq:fU.res=[.one .sl]:=rfl
def sl3 (hx:-1<=x) (n c:Nat):bo (some (.slice (ar x y) n c)) 3=c:=by
 rcases abp x 0 with h | h
 .obtain rfl:x= -1:=ah;rfl
 .rw[al h];rfl
def YZ (hx:-1<=x) (n c:Nat):bo (some (.slice (ar x 0) n c)) 1=0:=by
 rcases abp x 0 with h | h
 .obtain rfl:x= -1:=ah;rfl
 .rw[al h];rfl
def yY:rz.OK Tryz.prog:=by
 refine Spec.aV (Γ:=oΓ) RB ?_;rintro xs Hs Rs hl1 hl2 ⟨p,R,bs,lg,rfl,rfl,h,hlen⟩;have e0:Hs=[]:=aad.1 hl1;subst e0;obtain⟨a,x,c,rfl,hx,hc,hc0,hc1,hR⟩:=h.whole;unfold Lx at hc0 hR;rw[aaa]at hc0 hR;refine⟨EC,aQ [(a:Int)] false [Hl.none,R,R],fun _ _=>True,fun _ _=>0,?_,⟨?_,?_,?_,?_⟩,(fun _ h=>nomatch h),?_⟩
 .show [Value.pointer (ar (a:Int) 0)]=_;rw[js]
 .intro r hr ho;simp [EC]at hr;rcases hr with rfl | rfl<;>cases ho
 .intro r hr ho;simp [EC]at hr;rcases hr with rfl | rfl<;>exact⟨R,aC,Hl.le_refl _⟩
 .simp [EC,bm.own]
 .intro r hr;simp [EC]at hr;rcases hr with rfl | rfl<;>trivial
 .refine aF.read [] [] [] ?_;generalize hρ:aQ [(a:Int)] false [Hl.none,R,R]=J;have v0:J.i 0=a:=by rw[<-hρ];rfl
  have w1:J.h 1=R:=by rw[<-hρ];rfl
  have w2:J.h 2=R:=by rw[<-hρ];rfl
  clear hρ;have fail:∀ (mem:Mem),lg=true\/16384<bs.length->postOf rz [.pointer (some ⟨a,0,none⟩)] [] [R] J mem (.tup [.one (.sl (.lit (-1)) (.lit 0) (.lit 0) (.lit 0)),.one (.int .i64 (.lit 3))]):=by
   intro mem hf _;have hs:qN bs lg=([],3):=by unfold qN;rw[aay hf]
   refine⟨[],[],rfl,rfl,⟨(bh fun k=>if k=0 then -1 else if k=4 then 3 else 0),rfl,⟨aar _,aar _,aar _,aar _⟩,zzT,zzT⟩,_,R,bs,lg,.slice none 0 0,rfl,rfl,h,?_,?_⟩
   .rw[hs];rfl
   .rw[hs];exact tD _ _
  have tn0:Int.toNat 0=0:=rfl;have tn1:Int.toNat 1=1:=rfl;simp only[go_sem,Nat.reduceAdd,Yn,Yq,X5,tn0,tn1];rw[v0,w2,w1,aaa,hc0,hc1,T8 hx,Uv hx,YZ hx,sl3 hx];refine⟨ah,rfl,fun hb=>⟨rfl,ah,fun hlt=>fail _ (Or.inr ah),fun hge=>?_⟩,fun hb=>fail _ (Or.inl hb)⟩;have hb:lg=false:=abW.2 hb;rw[aaa,aaa];have hW:=hR.w;refine⟨⟨_,bs,R,rfl,rfl,hW,hlen⟩,fun q g ⟨F1,hp,hF,hnm⟩ _=>?_⟩;have hO:=rI hW hp;rw[<-hF zzT]at hO;have hs:qN bs lg=(bs,0):=by
   unfold qN;have:¬(lg=true\/16384<bs.length):=by
    rintro(e | e)
    .rw[hb]at e;cases e
    .omega
   rw[aal this]
  refine⟨[],[2],rfl,rfl,⟨(bh fun k=>if k=4 then 0 else q.i (3+k)),rfl,hnm.1,zzT,zzT⟩,_,R,bs,lg,_,rfl,rfl,h,by rw[hs];rfl,?_⟩;rw[hs];show bM (cu [q.h 3]) _ _ _;rw[aL];exact hO
def Bk:Sx.Spec where
 fn:=85
 own:=[]
 rd:=[]
 res:=[.one .sl]
 pre:=fun xs Hs Rs=>∃ z:Int,xs=[.int .u64 z]/\0<=z/\z<18446744073709551616
 post:=fun xs Hs Rs v Hs' F=>∃ z:Int,xs=[.int .u64 z]/\bM F 5 v (aj z.toNat)
def Wb:aF Tryz.prog [] Bk.fn where
 Λ:=fun p=>if I9 p then some ⟨0,[(3,.sv (.one (.sl (.var 20) (.lit 0) (.var 22) (.var 23)))),(0,TI .u64 (.var 24))],[(0,.hp 25 [] [.var 20] [])],30⟩else none
 args:=[TI .u64 (.var 0)]
 mem:=[]
 nv:=1
def NZ (y:Nat) (h:y<18446744073709551616):IntKind.u64.wrap ((y:Int).tdiv 128)=((y/128:Nat):Int):=by
 rw[abQ ah,oW ah ah];omega
def TL (y:Nat):IntKind.u8.wrap (IntKind.u64.wrap ((y:Int).tmod 128+128))=((y%128+128:Nat):Int):=by
 rw[abh ah,oW ah ah,RU];omega
def QP (all:List Int) (k:Nat) (q:Env):Prop:=Jf all 10 k q/\q.i 24<18446744073709551616
def Ok:Bk.OK Tryz.prog:=by
 refine Spec.aV (Γ:=[]) (fun _ h=>by cases h) ?_;rintro xs Hs Rs hl1 hl2 ⟨z,rfl,hz0,hz1⟩;have e0:Hs=[]:=aad.1 hl1;have e1:Rs=[]:=aad.1 hl2;subst e0 e1;have hnb:=nD (z:=z.toNat) ah;refine⟨Wb,aQ [z] false [],QP (aj z.toNat),fun _ q=>(q.i 24).toNat,rfl,⟨fun r hr=>(by cases hr),fun r hr=>(by cases hr),List.Pairwise.nil,fun r hr=>(by cases hr)⟩,(fun _ h=>nomatch h),?_⟩;refine aF.read [] [] [] ?_;generalize hρ:aQ [z] false []=J;have v0:J.i 0=z:=by rw[<-hρ];rfl
 clear hρ;simp only[go_sem,Nat.reduceAdd,IV,Ch];refine⟨⟨⟨z.toNat,[],?_,rfl,abn _,rfl,aar _,aar _,⟨rfl,Or.inl ⟨rfl,rfl⟩⟩⟩,?_⟩,fun q g ⟨⟨y,done,e24,hall,hdl,e22,r20,r23,hO⟩,hlt24⟩=>?_⟩
 .show J.i 0=_;rw[v0];omega
 .show J.i 0<_;rw[v0];exact hz1
 have hal:=aaQ List.length hall;rw[aac]at hal;have hy64:y<18446744073709551616:=ah;rw[e24,NZ y hy64];refine⟨fun hge q1 g1 _=>?_,fun hlt q1 g1 _=>?_⟩
 .rw[g1.h 25,g1.i 20,g1.i 22,g1.i 23,g1.i 24,e24,TL];refine⟨⟨⟨_,qD hO e22⟩,ah,by unfold maxLen;omega,ah⟩,fun q2 g2 ⟨a1,a2,a3,_⟩=>?_⟩;have hyh:aj y=((y%128+128:Nat):Int)::aj (y/128):=jr ah;have hO2:=qC (bs2:=[((y%128+128:Nat):Int)]) (m:=1) hO e22 rfl a3;have e24':IntKind.u64.wrap ((q2.i 24).tdiv 128)=((y/128:Nat):Int):=by
   rw[g2.i 24,g1.i 24,e24];exact NZ y hy64
  refine⟨⟨⟨y/128,done++[((y%128+128:Nat):Int)],e24',?_,?_,?_,a1,a2,?_⟩,?_⟩,?_⟩
  .rw[aaF,<-hall,hyh];rfl
  .rw[aac,aaB];rw[hyh,aaL]at hal;omega
  .show q2.i 22+1=_;rw[g2.i 22,g1.i 22,e22,aac,aaB];omega
  .show bM (q2.h 31) _ (.slice (ar (q2.i 31) 0) (q2.i 22+1).toNat (q2.i 32).toNat) _;rw[g2.i 22,g1.i 22,e22];have:=hO2;unfold Lx at this;rw[aac,aaB]at this;exact this
  .show IntKind.u64.wrap ((q2.i 24).tdiv 128)<_;rw[e24'];omega
  .show(IntKind.u64.wrap ((q2.i 24).tdiv 128)).toNat<_;rw[e24'];omega
 .rw[g1.h 25,g1.i 20,g1.i 22,g1.i 23];refine⟨⟨⟨_,qD hO e22⟩,ah,by unfold maxLen;omega,ah⟩,fun q2 g2 ⟨a1,a2,a3,_⟩ hd=>?_⟩;have hyl:aj y=[(y:Int)]:=jM ah;have eb:IntKind.u8.wrap (q1.i 24)=(y:Int):=by
   rw[g1.i 24,e24,RU];omega
  rw[eb]at a3;have hO2:=qC (bs2:=[(y:Int)]) (m:=1) hO e22 rfl a3;rw[<-hyl,hall]at hO2;have e22':q2.i 22+1=((aj z.toNat).length:Int):=by
   rw[g2.i 22,g1.i 22,e22];rw[hyl,aaB]at hal;omega
  refine⟨[],[0],rfl,rfl,⟨(bh fun k=>[q2.i 31,0,q2.i 22+1,q2.i 32].getD k 0),rfl,⟨a1,aar _,by show 0<=q2.i 22+1;omega,a2⟩,zzT⟩,z,rfl,?_⟩;show bM (cu [q2.h 31]) _ (.slice (ar (q2.i 31) 0) (q2.i 22+1).toNat (q2.i 32).toNat) _;rw[aL,e22'];exact hO2
open Go.Proofs.YtomdimlnggpgbaaGreatDoor.D hiding aQ aD ib
def sS:Sx.Spec where
 fn:=55
 own:=[]
 rd:=[0]
 res:=[.one .sl]
 pre:=fun xs Hs Rs=>∃ u bs R,xs=[u]/\Rs=[R]/\fC R u bs/\bs.length<=1000000
 post:=fun xs Hs Rs v Hs' F=>∃ u bs R,xs=[u]/\Rs=[R]/\fC R u bs/\bM F 5 v bs
def sV:aF Tryz.prog [] sS.fn where
 Λ:=aD
 args:=[.sv (.one (.sl (.var 0) (.var 1) (.var 2) (.var 3)))]
 mem:=[.ro 4 [.var 0] false]
 nv:=5
def xQ:sS.OK Tryz.prog:=by
 refine Spec.aV (Γ:=[]) (fun _ h=>by cases h) ?_;rintro xs Hs Rs hl1 hl2 ⟨u,bs,R,rfl,rfl,hRd,hlen⟩;have e0:Hs=[]:=aad.1 hl1;subst e0;obtain⟨x,y,c,rfl,hy,hR⟩:=id hRd;refine⟨sV,aQ [x,y,bs.length,c] false [Hl.none,Hl.none,Hl.none,Hl.none,R],fun _ _=>True,fun _ _=>0,?_,⟨?_,?_,?_,?_⟩,(fun _ h=>nomatch h),?_⟩
 .show [Value.slice (ar x y) ((bs.length:Int)).toNat ((c:Int)).toNat]=_;rw[aaa,aaa]
 .intro r hr ho;simp [sV]at hr;subst hr;cases ho
 .intro r hr ho;simp [sV]at hr;subst hr;exact⟨R,aC,Hl.le_refl _⟩
 .simp [sV]
 .intro r hr;simp [sV]at hr;subst hr;trivial
 .refine aF.read [] [] [] ?_;generalize hρ:aQ [x,y,bs.length,c] false [Hl.none,Hl.none,Hl.none,Hl.none,R]=J;have v0:J.i 0=x:=by rw[<-hρ];rfl
  have v1:J.i 1=y:=by rw[<-hρ];rfl
  have v2:J.i 2=bs.length:=by rw[<-hρ];rfl
  have w4:J.h 4=R:=by rw[<-hρ];rfl
  clear hρ;simp only[go_sem,Nat.reduceAdd];refine⟨fun hx _=>?_,fun hx q1 g1 p5=>?_⟩
  .have hnil:bs=[]:=by
    rcases hR with h | ⟨h,_⟩
    .exact h
    .omega
   refine⟨[],[],rfl,rfl,⟨(bh fun k=>if k=0 then -1 else 0),rfl,⟨aar _,aar _,aar _,aar _⟩,zzT⟩,_,bs,R,rfl,rfl,hRd,?_⟩;rw[hnil];exact⟨rfl,Or.inl ⟨rfl,rfl⟩⟩
  .obtain⟨hok,hseg⟩:=se (R:=R) (x:=x) (y:=y) (l:=(bs.length:Int)) rfl hy hR;have ho0:=EL (Hl.one (q1.i 5).toNat (.cells #[] 5 (0,0))) p5 rfl;rw[g1.i 0,g1.i 1,g1.i 2,g1.h 4,v0,v1,v2,w4];refine⟨⟨⟨_,ho0⟩,aar _,by simpa using hok,by rw[aaa];unfold maxLen;simp;omega,by rw[aaa];simp;omega⟩,fun q2 g2 ⟨a1,a2,a3,_⟩=>fun _=>?_⟩;have hx2:=a3 _ ho0;rw[hseg,abE]at hx2;refine⟨[],[1],rfl,rfl,⟨(bh fun k=>[q2.i 6,0,q2.i 2,q2.i 7].getD k 0),rfl,⟨a1,aar _,?_,a2⟩,zzT⟩,_,bs,R,rfl,rfl,hRd,?_⟩
   .show 0<=q2.i 2;rw[g2.i 2,g1.i 2,v2];omega
   .show bM (cu [q2.h 6]) _ (.slice (ar (q2.i 6) 0) (q2.i 2).toNat (q2.i 7).toNat) bs;rw[aL,g2.i 2,g1.i 2,v2];unfold bM;rw[aaa];simpa using hx2
def JE:Sx.Spec where
 fn:=79
 own:=[]
 rd:=[0]
 res:=[.one (.int .u64)]
 pre:=fun xs Hs Rs=>∃ u bs R,xs=[u]/\Rs=[R]/\fC R u bs/\bs.length<=1000
 post:=fun xs Hs Rs v Hs' F=>∃ u bs R,xs=[u]/\Rs=[R]/\fC R u bs/\v=.int .u64 (fu bs)
def Fi:aF Tryz.prog [] JE.fn where
 Λ:=fun p=>if lp p then some ⟨0,[(3,TI .u64 (.var 10)),(8,TI .i64 (.var 11))],[],12⟩else none
 args:=[.sv (.one (.sl (.var 0) (.var 1) (.var 2) (.var 3)))]
 mem:=[.ro 4 [.var 0] false]
 nv:=5
def OC:JE.OK Tryz.prog:=by
 refine Spec.aV (Γ:=[]) (fun _ h=>by cases h) ?_;rintro xs Hs Rs hl1 hl2 ⟨u,bs,R,rfl,rfl,⟨x,y,cp,rfl,hy,hR⟩,hlen⟩;have e0:Hs=[]:=aad.1 hl1;subst e0;refine⟨Fi,aQ [x,y,bs.length,cp] false [Hl.none,Hl.none,Hl.none,Hl.none,R],Me bs,fun _ q=>(bs.length-q.i 11).toNat,?_,⟨?_,?_,?_,?_⟩,(fun _ h=>nomatch h),?_⟩
 .show [Value.slice (ar x y) ((bs.length:Int)).toNat ((cp:Int)).toNat]=_;rw[aaa,aaa]
 .intro r hr ho;simp [Fi]at hr;subst hr;cases ho
 .intro r hr ho;simp [Fi]at hr;subst hr;exact⟨R,aC,Hl.le_refl _⟩
 .simp [Fi]
 .intro r hr;simp [Fi]at hr;subst hr;trivial
 .refine aF.read [] [] [] ?_;generalize hρ:aQ [x,y,bs.length,cp] false [Hl.none,Hl.none,Hl.none,Hl.none,R]=J;have v0:J.i 0=x:=by rw[<-hρ];rfl
  have v1:J.i 1=y:=by rw[<-hρ];rfl
  have v2:J.i 2=bs.length:=by rw[<-hρ];rfl
  have w4:J.h 4=R:=by rw[<-hρ];rfl
  simp only[go_sem,Nat.reduceAdd];rw[v2];refine⟨ah,⟨0,ah,rfl,rfl⟩,fun q g ⟨k,hk,h11,h10⟩=>?_⟩;rw[g.i 0,g.i 1,g.i 2,g.h 4,v0,v1,v2,w4,h11];refine⟨fun hlt=>?_,fun hge=>?_⟩
  .have hk':k<bs.length:=ah;have hxr:0<=x/\∀ j z,bs[j]?=some z->R.cell x.toNat (y.toNat+j)=some (.int .u8 z):=by
    rcases hR with h | h
    .subst h;simp at hk'
    .exact h
   have hc:R.cell x.toNat (y+k).toNat=some (.int .u8 bs[k]):=by
    rw[show(y+(k:Int)).toNat=y.toNat+k by omega];exact hxr.2 _ _ (aab hk')
   rw[hc];refine⟨hxr.1,hy,ah,rfl,⟨k+1,ah,?_,?_⟩,?_⟩
   .show IntKind.i64.wrap (q.i 11+1)=_;rw[h11];exact wrap_i64 ah ah
   .show jh (q.i 10) (bV ((q.h 4).cell (q.i 0).toNat (q.i 1+q.i 11).toNat))=_;rw[h10,g.i 0,g.i 1,g.h 4,v0,v1,w4,h11,hc,mX bs k hk'];rfl
   .show((bs.length:Int)-IntKind.i64.wrap (q.i 11+1)).toNat<_;rw[h11,wrap_i64 ah ah];omega
  .have e:k=bs.length:=ah;subst e;rw[abg]at h10;refine fun _=>⟨[],[],rfl,rfl,⟨(bh fun _=>q.i 10),rfl,zzT,zzT⟩,_,bs,R,rfl,rfl,⟨x,y,cp,rfl,hy,hR⟩,?_⟩;show Value.int .u64 (q.i 10)=_;rw[h10]
def I3:Sx.Spec where
 fn:=81
 own:=[]
 rd:=[0]
 res:=[.one (.int .i64)]
 pre:=fun xs Hs Rs=>∃ p R bs bad,xs=[p]/\Rs=[R]/\mQ R p bs bad
 post:=fun xs Hs Rs v Hs' F=>∃ p R bs bad,xs=[p]/\Rs=[R]/\mQ R p bs bad/\v=.int .i64 bs.length
def Pn:Sx.Spec where
 fn:=83
 own:=[]
 rd:=[0]
 res:=[.one .bool]
 pre:=fun xs Hs Rs=>∃ p R bs bad,xs=[p]/\Rs=[R]/\mQ R p bs bad
 post:=fun xs Hs Rs v Hs' F=>∃ p R bs bad,xs=[p]/\Rs=[R]/\mQ R p bs bad/\v=.bool bad
def Em:aF Tryz.prog [] I3.fn where
 Λ:=aD
 args:=[TP (.var 0) (.lit 0)]
 mem:=[.ro 1 [.var 0] false]
 nv:=2
def Ma:aF Tryz.prog [] Pn.fn where
 Λ:=aD
 args:=[TP (.var 0) (.lit 0)]
 mem:=[.ro 1 [.var 0] false]
 nv:=2
def Nk:I3.OK Tryz.prog:=by
 refine Spec.aV (Γ:=[]) (fun _ h=>by cases h) ?_;rintro xs Hs Rs hl1 hl2 ⟨p,R,bs,bad,rfl,rfl,hIn⟩;have e0:Hs=[]:=aad.1 hl1;subst e0;obtain⟨a,x,y,c,rfl,hc0,hc1,hx,hy,hR⟩:=hIn.whole;refine⟨Em,aQ [(a:Int)] false [Hl.none,R],fun _ _=>True,fun _ _=>0,?_,⟨?_,?_,?_,?_⟩,(fun _ h=>nomatch h),?_⟩
 .show [Value.pointer (ar (a:Int) 0)]=_;rw[js]
 .intro r hr ho;simp [Em]at hr;subst hr;cases ho
 .intro r hr ho;simp [Em]at hr;subst hr;exact⟨R,aC,Hl.le_refl _⟩
 .simp [Em]
 .intro r hr;simp [Em]at hr;subst hr;trivial
 .refine aF.read [] [] [] ?_;generalize hρ:aQ [(a:Int)] false [Hl.none,R]=J;have v0:J.i 0=a:=by rw[<-hρ];rfl
  have w1:J.h 1=R:=by rw[<-hρ];rfl
  clear hρ;have tn0:Int.toNat 0=0:=rfl;simp only[go_sem,Nat.reduceAdd,tn0];rw[v0,w1,aaa,hc0,T8 hx];refine⟨ah,rfl,ah,fun _=>⟨[],[],rfl,rfl,⟨(bh fun _=>bs.length),?_,zzT,zzT⟩,_,R,bs,bad,rfl,rfl,hIn,?_⟩⟩
  all_goals
   show Value.int .i64 (bo (((J.h 1).cell (J.i 0).toNat (Int.toNat 0+0))) 2)=_;rw[v0,w1,aaa,tn0,aa3,hc0,T8 hx]
   try rfl
def Po:Pn.OK Tryz.prog:=by
 refine Spec.aV (Γ:=[]) (fun _ h=>by cases h) ?_;rintro xs Hs Rs hl1 hl2 ⟨p,R,bs,bad,rfl,rfl,hIn⟩;have e0:Hs=[]:=aad.1 hl1;subst e0;obtain⟨a,x,y,c,rfl,hc0,hc1,hx,hy,hR⟩:=hIn.whole;refine⟨Ma,aQ [(a:Int)] false [Hl.none,R],fun _ _=>True,fun _ _=>0,?_,⟨?_,?_,?_,?_⟩,(fun _ h=>nomatch h),?_⟩
 .show [Value.pointer (ar (a:Int) 0)]=_;rw[js]
 .intro r hr ho;simp [Ma]at hr;subst hr;cases ho
 .intro r hr ho;simp [Ma]at hr;subst hr;exact⟨R,aC,Hl.le_refl _⟩
 .simp [Ma]
 .intro r hr;simp [Ma]at hr;subst hr;trivial
 .refine aF.read [] [] [] ?_;generalize hρ:aQ [(a:Int)] false [Hl.none,R]=J;have v0:J.i 0=a:=by rw[<-hρ];rfl
  have w1:J.h 1=R:=by rw[<-hρ];rfl
  clear hρ;have tn1:Int.toNat 1=1:=rfl;simp only[go_sem,Nat.reduceAdd,tn1];rw[v0,w1,aaa,hc1];refine⟨ah,rfl,fun _=>⟨[],[],rfl,rfl,⟨⟨fun _=>0,fun _=>bad,fun _=>.empty,fun _=>.tuple #[],fun _=>Hl.none⟩,?_,zzT,zzT⟩,_,R,bs,bad,rfl,rfl,hIn,?_⟩⟩
  all_goals
   show Value.bool (zV (((J.h 1).cell (J.i 0).toNat (Int.toNat 1+0))))=_;rw[v0,w1,aaa,tn1,hc1]
   try rfl
def rP (L:LM):Int:=fu (L.note.take 8)
def Kp:Sx.Spec where
 fn:=45
 own:=[]
 rd:=[0]
 res:=[.one (.int .u64)]
 pre:=fun xs Hs Rs=>∃ p R dp sl L,xs=[p]/\Rs=[R]/\fF R p dp sl L
 post:=fun xs Hs Rs v Hs' F=>∃ p R dp sl L,xs=[p]/\Rs=[R]/\fF R p dp sl L/\v=.int .u64 (rP L)
def WR:List Sx.Spec:=[JE,pE]
def SO:∀ t∈WR,t.OK Tryz.prog:=av OC <| av AK <| bN
def MM:aF Tryz.prog WR Kp.fn where
 Λ:=aD
 args:=[TP (.var 0) (.lit 0)]
 mem:=[.ro 1 [.var 0] false]
 nv:=2
def XZ:JE.res=[.one (.int .u64)]:=rfl
def X0:pE.res=[.agg (sF 16)]:=rfl
def PN:Kp.OK Tryz.prog:=by
 refine Spec.aV (Γ:=WR) SO ?_;rintro xs Hs Rs hl1 hl2 ⟨p,R,dp,sl,L,rfl,rfl,hL⟩;have e0:Hs=[]:=aad.1 hl1;subst e0;obtain⟨a,rfl,hLi⟩:=id hL;refine⟨MM,aQ [(a:Int)] false [Hl.none,R],fun _ _=>True,fun _ _=>0,?_,⟨?_,?_,?_,?_⟩,(fun _ h=>nomatch h),?_⟩
 .show [Value.pointer (ar (a:Int) 0)]=_;rw[js]
 .intro r hr ho;simp [MM]at hr;subst hr;cases ho
 .intro r hr ho;simp [MM]at hr;subst hr;exact⟨R,aC,Hl.le_refl _⟩
 .simp [MM]
 .intro r hr;simp [MM]at hr;subst hr;trivial
 .refine aF.read [] [] [] ?_;generalize hρ:aQ [(a:Int)] false [Hl.none,R]=J;have v0:J.i 0=a:=by rw[<-hρ];rfl
  have w1:J.h 1=R:=by rw[<-hρ];rfl
  clear hρ;simp only[go_sem,Nat.reduceAdd,WR,XZ,X0];rw[v0,w1,js];refine⟨⟨_,R,dp,sl,L,rfl,rfl,hL⟩,fun q1 g1 ⟨F1,⟨p',R',dp',sl',L',e1,e2,hL',hv⟩,_⟩ q2 g2 p2=>?_⟩;simp only[aag,aau]at e1 e2;subst e1 e2;obtain⟨_,_,rfl⟩:=hL.uniq hL';have ec:(ak 2 (List.replicate 16 (Ck.int .u8))).map (CV.ev q1)=aS L.note:=aaO (Value.agg.inj hv);have ec2:(ak 2 (List.replicate 16 (Ck.int .u8))).map (CV.ev q2)=aS L.note:=(CV.gU g2 _ aA).trans ec;have hn16:=hLi.1.note;have hRd:fC (Hl.one (q2.i 18).toNat (.cells (aS L.note).toArray 60 (0,0))) (.slice (ar (q2.i 18) 0) (Int.toNat 8) (Int.toNat 16)) (L.note.take 8):=by
   refine⟨q2.i 18,0,16,?_,aar _,Or.inr ⟨p2,fun j z hj=>?_⟩⟩
   .rw[aaA,hn16];rfl
   .have hj8:j<8:=by have:=(aah.1 hj).1;rw[aaA]at this;omega
    rw[abc hj8]at hj;rw[Hl.lD,abi,fD,acJ,aaM,hj];rfl
  rw[ec2];refine⟨⟨_,_,_,rfl,rfl,hRd,by rw[aaA];omega⟩,fun q3 g3 ⟨F3,⟨u',bs',R3,e1,e2,hR3,hv3⟩,_⟩ _=>?_⟩;simp only[aag,aau]at e1 e2;subst e1 e2;rw[<-hRd.uniq hR3]at hv3;have hv3:Value.int .u64 (q3.i 19)=.int .u64 (rP L):=hv3;exact⟨[],[],rfl,rfl,⟨(bh fun _=>rP L),hv3,zzT,zzT⟩,_,R,dp,sl,L,rfl,rfl,hL,hv3⟩
end Go.Proofs.YtomdimlnggpgbaaGreatDoor
namespace Go.Sx
open Go
variable {F G:Hl}{us ws:List Value}{b i k m n:Nat}{e:TypeId}{v:Value}
def aK.Jh (h:aK F e k v n us) (hb:v.ownBlock=some b):F.mem b:=by
 rcases h.2 with ⟨h,_⟩ | ⟨gg,cap,cur,h,hg,_⟩
 .rw[h]at hb;cases hb
 .rw[h]at hb;have:gg=b:=by simpa [Value.ownBlock] using hb
  subst this;unfold Hl.mem;rw[hg];rfl
def aK.mono (hl:F.le G) (h:aK F e k v m us):aK G e k v m us:=by
 refine⟨h.1,h.2.imp id fun⟨g,cap,cur,hv,hg,r⟩=>⟨g,cap,cur,hv,hl _ _ hg,r⟩⟩
def aK.inj (h1:aK F e k v n us) (h2:aK F e k v m ws):n=m/\us=ws:=by
 obtain⟨l1,h1⟩:=h1;obtain⟨l2,h2⟩:=h2;rcases h1 with ⟨h1,hn⟩ | ⟨g,cap,cur,h1,hg,_,_,_,ht⟩<;>rcases h2 with ⟨h2,hm⟩ | ⟨g',cap',cur',h2,hg',_,_,_,ht'⟩
 .subst hn;subst hm;refine⟨rfl,?_⟩;rw[acO]at l1 l2;rw[aad.1 l1,aad.1 l2]
 .rw[h1]at h2;cases h2
 .rw[h1]at h2;cases h2
 .rw[h1]at h2;simp only[Value.slice.injEq,aak,Addr.mk.injEq,aau]at h2;obtain⟨eg,en,_⟩:=h2;subst eg;subst en;rw[hg]at hg';simp only[aak,Obj.cells.injEq,aau]at hg';rw[<-ht,<-ht',hg'];exact⟨rfl,rfl⟩
def aK.cellAt {x l c:Int} (h:aK F e 1 (.slice (ar x 0) l.toNat c.toNat) n us) (hx:-1<=x) (hi:i<n):0<=x/\F.cell x.toNat i=us[i]?:=by
 obtain⟨hl,h⟩:=h;rcases h with ⟨_,hn⟩ | ⟨g,cap,cur,hv,hg,hle,hm,hs,ht⟩
 .omega
 .simp only[Value.slice.injEq]at hv;obtain⟨hp,_,_⟩:=hv;have h0:0<=x:=by
   rcases abp x 0 with hlt | h0
   .rw[show x= -1 by omega,dr]at hp;cases hp
   .exact h0
  rw[al h0]at hp;simp only[aak,Addr.mk.injEq,aau]at hp;refine⟨h0,?_⟩;rw[hp.1,<-ht];unfold Hl.cell;rw[hg,abc ah,aci]
end Go.Sx
namespace Go.Proofs.YtomdimlnggpgbaaGreatDoor
open Go Go.Sx Go.Pk
variable {B F G H R RA:Hl}{x x' y:Int}{a b rows:List (List Int)}{bs r:List Int}{c j k l:Nat}{o o':Option Nat}{u v v':Value}
def Q1 {a b:Int} (hx:0<=x) (hy:0<=y) (hb:0<=b) (h:ar a b=ar x y):a=x/\b=y:=by
 rcases abp a 0 with ha | ha
 .exfalso;rw[al hx]at h;unfold ar at h;rw[aal ah]at h;split at h
  .cases h
  .simp only[aak,Addr.mk.injEq]at h;obtain⟨_,_,h⟩:=h;cases h
 .rw[al ha,al hx]at h;simp only[aak,Addr.mk.injEq]at h;omega
def Ji {a:Int} (h:0<=a):(Value.slice (ar a y) l c).ownBlock=some a.toNat:=by
 rw[al h];rfl
def Ph {l' c':Nat} (hx:-1<=x') (h:some x'.toNat=(Value.slice (ar x 0) l c).ownBlock\/¬H.mem x'.toNat\/x'= -1):∀ b,H.mem b->some b≠(Value.slice (ar x 0) l c).ownBlock->some b≠(Value.slice (ar x' 0) l' c').ownBlock:=by
 intro b hb hne he;rcases abp x' 0 with hn | hn
 .rw[show x'= -1 by omega,dr]at he;cases he
 .rw[Ji hn]at he;have he:b=x'.toNat:=by simpa using he
  rcases h with h | h | h
  .exact hne (by rw[he];exact h)
  .rw[<-he]at h;exact h hb
  .omega
def nQ (F:Hl) (o:Option Nat) (u:Value) (r:List Int):Prop:=∃ (x y:Int) (c:Nat),u=.slice (ar x y) r.length c/\ -1<=x/\0<=y/\(r=[]\/(0<=x/\some x.toNat≠o/\∀ j z,r[j]?=some z->F.cell x.toNat (y.toNat+j)=some (.int .u8 z)))
def Mp {b:Nat} (h:F.cell b j=some v):F.mem b:=by
 unfold Hl.cell at h;unfold Hl.mem;cases hF:F b with
 | none=>rw[hF]at h;cases h
 | some o=>rfl
def cell_of {b:Nat} (h:F.cell b j=some v) (e:G b=F b):G.cell b j=some v:=by
 unfold Hl.cell at h ⊢;rw[e];exact h
def nQ.cH (h:nQ F o u r) (hk:∀ b,F.mem b->some b≠o->G b=F b) (hn:∀ b,F.mem b->some b≠o->some b≠o'):nQ G o' u r:=by
 obtain⟨x,y,c,hu,hx,hy,h⟩:=h;refine⟨x,y,c,hu,hx,hy,?_⟩;cases r with
 | nil=>exact Or.inl rfl
 | cons z r =>
  rcases h with h | ⟨h0,hne,hc⟩
  .cases h
  .have hm:F.mem x.toNat:=Mp (hc 0 z rfl);exact Or.inr ⟨h0,hn _ hm hne,fun j w hj=>cell_of (hc j w hj) (hk _ hm hne)⟩
def nQ.rd (h:nQ F o u r):fC F u r:=by
 obtain⟨x,y,c,hu,_,hy,h⟩:=h;exact⟨x,y,c,hu,hy,h.imp id fun h=>⟨h.1,h.2.2⟩⟩
def nQ.of {l c:Int} (h:fC F (.slice (ar x y) l.toNat c.toNat) r) (hx:-1<=x) (hy:0<=y):nQ F none (.slice (ar x y) l.toNat c.toNat) r:=by
 obtain⟨x',y',c',hu,hy',h⟩:=h;simp only[Value.slice.injEq]at hu;obtain⟨h1,h2,h3⟩:=hu;refine⟨x,y,c.toNat,by rw[h2],hx,hy,h.imp id fun⟨h0,h⟩=>?_⟩;obtain⟨e1,e2⟩:=kF hx hy ah hy' h1;subst e1;have e2:=e2 h0;subst e2;exact⟨h0,aC,h⟩
def bX (F:Hl) (v:Value) (rows:List (List Int)):Prop:=∃ us:List Value,aK F 46 1 v rows.length us /\
 ∀ (j:Nat) (u:Value) (r:List Int),us[j]?=some u->rows[j]?=some r->nQ F v.ownBlock u r
def bX.nil (F:Hl):bX F (.slice none 0 0) []:=⟨[],⟨rfl,Or.inl ⟨rfl,rfl⟩⟩,(fun j u r h=>by simp at h)⟩
def bX.len {us:List Value} (h:aK F 46 1 v rows.length us):us.length=rows.length:=by
 have:=h.1;omega
def bX.mono (hl:F.le G) (h:bX F v rows):bX G v rows:=by
 obtain⟨us,ho,hr⟩:=h;refine⟨us,aK.mono hl ho,fun j u r hu hrr=>(hr j u r hu hrr).cH (fun b hm _=>?_) (fun _ _ h=>h)⟩;obtain⟨o,ho⟩:=abe.1 hm;rw[hl _ _ ho,ho]
def bX.snoc (h:bX F v rows) (hd:F.bq B) (hu:nQ B none u r)
 (happ:∀ xs,aK (F.un B) 46 1 v rows.length xs->aK G 46 1 v' (rows.length+1) (xs++[u]))
 (hk:∀ b,(F.un B).mem b->some b≠v.ownBlock->G b=(F.un B) b) (hn:∀ b,(F.un B).mem b->some b≠v.ownBlock->some b≠v'.ownBlock):bX G v' (rows++[r]):=by
 obtain⟨us,ho,hr⟩:=h;have hul:=bX.len ho;have hold:∀ (j:Nat) (w:Value) (s:List Int),us[j]?=some w->rows[j]?=some s->nQ (F.un B) v.ownBlock w s:=fun j w s hj hs =>
  (hr j w s hj hs).cH (fun b hm _=>by obtain⟨o,ho⟩:=abe.1 hm;rw[Hl.sD ho,ho]) (fun b _ h=>h)
 have hun:nQ (F.un B) v.ownBlock u r:=hu.cH (fun b hm _=>by rw[Hl.qk fun h2=>hd b ⟨h2,hm⟩]) fun b hm _ e=>hd b ⟨ho.Jh e.symm,hm⟩;refine⟨us++[u],?_,fun j w s hj hs=>?_⟩
 .rw[aac,aaB];exact happ us (ho.mono (Hl.aX _ _))
 .rcases aa5 j us.length with hl | hl
  .rw[aaC hl]at hj;rw[aaC ah]at hs;exact(hold j w s hj hs).cH hk hn
  .rw[aav hl]at hj;rw[aav ah]at hs;have hj:=aae hj;have hs:=aae hs;rw[aam]at hj hs;subst hj;subst hs;exact hun.cH hk hn
def bX.at {l c:Int} (h:bX F (.slice (ar x 0) l.toNat c.toNat) rows) (hx:-1<=x) (hl:0<=l):l=rows.length/\∀ (i:Nat) r,rows[i]?=some r->0<=x/\∃ u,F.cell x.toNat i=some u/\nQ F (some x.toNat) u r:=by
 obtain⟨us,ho,hr⟩:=h;have hul:=bX.len ho;refine⟨?_,fun i r hi=>?_⟩
 .rcases ho.2 with ⟨h,hn⟩ | ⟨g,cap,cur,h,_⟩
  .simp only[Value.slice.injEq]at h;omega
  .simp only[Value.slice.injEq]at h;omega
 .have hi':=(aah.1 hi).1;obtain⟨h0,hc⟩:=ho.cellAt hx hi';have hu:us[i]?=some us[i]:=aab ah;have:=hr i _ r hu hi;rw[Ji h0]at this;exact⟨h0,_,by rw[hc,hu],this⟩
def bX.uniq (h1:bX F v a) (h2:bX F v b):a=b:=by
 obtain⟨us,ho,hr⟩:=h1;obtain⟨ws,ho',hr'⟩:=h2;obtain⟨el,e⟩:=ho.inj ho';subst e;have hul:=bX.len ho;apply abO el;intro j hj hj';have hu:us[j]?=some us[j]:=aab ah;exact(hr j _ _ hu (aab hj)).rd.uniq (hr' j _ _ hu (aab hj')).rd
def uT {l c c':Int} (h:bX F (.slice (ar x 0) l.toNat c.toNat) rows) (hx:-1<=x) (hl:0<=l) (hd:F.bq B) (hu:nQ B none u r) (hx':-1<=x')
 (happ:∀ xs,aK (F.un B) 46 1 (.slice (ar x 0) l.toNat c.toNat) l.toNat xs->aK G 46 1 (.slice (ar x' 0) (l.toNat+1) c'.toNat) (l.toNat+1) (xs++[u]))
 (hkeep:∀ b,(F.un B).mem b->some b≠(Value.slice (ar x 0) l.toNat c.toNat).ownBlock->G b=(F.un B) b) (hnew:some x'.toNat=(Value.slice (ar x 0) l.toNat c.toNat).ownBlock\/¬(F.un B).mem x'.toNat\/x'= -1):bX G (.slice (ar x' 0) (l+1).toNat c'.toNat) (rows++[r]):=by
 have hlr:l=rows.length:=(h.at hx hl).1;have e1:(l+1).toNat=rows.length+1:=ah;have e2:l.toNat=rows.length:=ah;rw[e2]at happ;rw[e1];rw[e2]at h hkeep hnew;exact bX.snoc h hd hu happ hkeep (Ph hx' hnew)
def tx (bs:List Int):List Int×List Int×Bool:=mD bs false 4096
def qe:Nat->List Int->List (List Int)
 | 0,_=>[]
 | n+1,bs=>if bs=[]then []else if(tx bs).2.2=true then []else(tx bs).1::qe n (tx bs).2.1
def jf (bs:List Int):List (List Int):=qe bs.length bs
def C3 (h0:bs≠[]) (h:(tx bs).2.2=false):(tx bs).2.1.length<bs.length:=by
 have hl:0<bs.length:=List.length_pos_iff.2 h0;unfold tx mD at h ⊢;split at h
 .cases h
 .rename_i hc;rw[aal hc];have h2:(gw bs).2≠0:=fun e=>hc (Or.inr (Or.inl e));show(bs.drop _).length<_;rw[aaV];omega
def oD:∀ n,qe n []=[]
 | 0=>rfl
 | _+1=>rfl
def wF:∀ (n m:Nat) (bs:List Int),bs.length<=n->bs.length<=m->qe n bs=qe m bs
 | 0,m,bs,h,_=>by
  have:bs=[]:=aad.1 ah;rw[this,oD,oD]
 | n+1,0,bs,_,h=>by
  have:bs=[]:=aad.1 ah;rw[this,oD,oD]
 | n+1,m+1,bs,h1,h2=>by
  unfold qe;by_cases h0:bs=[]
  .rw[aay h0,aay h0]
  .rw[aal h0,aal h0];by_cases hb:(tx bs).2.2=true
   .rw[aay hb,aay hb]
   .rw[aal hb,aal hb];have:=C3 h0 (abW.2 hb);rw[wF n m _ ah ah]
def wE (n:Nat) (bs:List Int) (h:bs.length<=n):qe n bs=jf bs:=wF n bs.length bs h (aaz _)
def Bv (h:bs≠[]):jf bs=if(tx bs).2.2=true then []else(tx bs).1::jf (tx bs).2.1:=by
 rw[<-wE (bs.length+1) bs ah];show(if bs=[]then []else if(tx bs).2.2=true then []else(tx bs).1::qe bs.length (tx bs).2.1)=_;rw[aal h];cases hb:(tx bs).2.2 with
 | true=>rfl
 | false=>rw[aal aC,aal aC,wE _ _ (by have:=C3 h hb;omega)]
def vf:Sx.Spec where
 fn:=46
 own:=[]
 rd:=[0]
 res:=[.one .sl]
 pre:=fun xs Hs Rs=>∃ u bs R,xs=[u]/\Rs=[R]/\fC R u bs/\aG bs/\bs.length<=1000000
 post:=fun xs Hs Rs v Hs' F=>∃ u bs R,xs=[u]/\Rs=[R]/\fC R u bs/\bX F v (jf bs)
def Xi:List Sx.Spec:=[CJ,I3,Fz,Pn]
def Ug:∀ t∈Xi,t.OK Tryz.prog:=av K9 <| av Nk <| av OS <| av Po <| bN
def zN:aF Tryz.prog Xi vf.fn where
 Λ:=fun p=>if I9 p then some ⟨0,[(3,.sv (.one (.sl (.var 53) (.lit 0) (.var 54) (.var 55))))],[(1,.hp 51 [] [.var 5] []),(2,.hp 56 [] [.var 53] [])],60⟩else none
 args:=[.sv (.one (.sl (.var 0) (.var 1) (.var 2) (.var 3)))]
 mem:=[.ro 4 [.var 0] false]
 nv:=5
def Za:CJ.res=[.one .ptr]:=rfl
def Zb:I3.res=[.one (.int .i64)]:=rfl
def Zc:Fz.res=[.one .sl]:=rfl
def Zd:Pn.res=[.one .bool]:=rfl
def Jy (n:Nat):(aT n [Cp.one .sl]≠[])=True:=by simp [aT,Cp.roots,Ck.root]
def QT (n:Nat):(aT n [Cp.one .ptr]≠[])=True:=by simp [aT,Cp.roots,Ck.root]
def LC:vf.OK Tryz.prog:=by
 refine Spec.aV (Γ:=Xi) Ug ?_;rintro xs Hs Rs hl1 hl2 ⟨u,bs,R,rfl,rfl,hRd,hby,hlen⟩;have e0:Hs=[]:=aad.1 hl1;subst e0;obtain⟨x,y,c,rfl,hy,hR⟩:=id hRd;refine⟨zN,aQ [x,y,bs.length,c] false [Hl.none,Hl.none,Hl.none,Hl.none,R],fun _ q=>∃ rest rows,mQ (q.h 51) (.pointer (ar (q.i 5) (q.i 6))) rest false/\ -1<=q.i 53/\0<=q.i 54/\0<=q.i 55/\bX (q.h 56) (.slice (ar (q.i 53) 0) (q.i 54).toNat (q.i 55).toNat) rows/\rows++jf rest=jf bs/\rows.length+rest.length<=bs.length,fun _ q=>(bs.length-q.i 54).toNat,?_,⟨?_,?_,?_,?_⟩,(fun _ h=>nomatch h),?_⟩
 .show [Value.slice (ar x y) ((bs.length:Int)).toNat ((c:Int)).toNat]=_;rw[aaa,aaa]
 .intro r hr ho;simp [zN]at hr;subst hr;cases ho
 .intro r hr ho;simp [zN]at hr;subst hr;exact⟨R,aC,Hl.le_refl _⟩
 .simp [zN]
 .intro r hr;simp [zN]at hr;subst hr;trivial
 .refine aF.read [] [] [] ?_;generalize hρ:aQ [x,y,bs.length,c] false [Hl.none,Hl.none,Hl.none,Hl.none,R]=J;have v0:J.i 0=x:=by rw[<-hρ];rfl
  have v1:J.i 1=y:=by rw[<-hρ];rfl
  have v2:J.i 2=bs.length:=by rw[<-hρ];rfl
  have v3:J.i 3=c:=by rw[<-hρ];rfl
  have w4:J.h 4=R:=by rw[<-hρ];rfl
  clear hρ;have out:∀ {q:Env} {rows:List (List Int)} {mem:Mem},EG mem [] [2]=true->(ue q mem [2])=q.h 56-> -1<=q.i 53->0<=q.i 54->0<=q.i 55->bX (q.h 56) (.slice (ar (q.i 53) 0) (q.i 54).toNat (q.i 55).toNat) rows->rows=jf bs->postOf vf [.slice (ar x y) bs.length c] [] [R] q mem (.sv (.one (.sl (.var 53) (.lit 0) (.var 54) (.var 55)))):=by
   intro q rows mem hok hu h1 h2 h3 hr he _;subst he;exact⟨[],[2],rfl,hok,⟨(bh fun k=>[q.i 53,0,q.i 54,q.i 55].getD k 0),rfl,⟨h1,aar _,h2,h3⟩,zzT⟩,_,bs,R,rfl,rfl,hRd,by rw[hu];exact hr⟩
  simp only[go_sem,Nat.reduceAdd,Xi,Za,Zb,Zc,Zd,Jy,QT];rw[v0,v1,v2,v3,w4,aaa,aaa];refine⟨⟨_,bs,R,rfl,rfl,hRd,hby,hlen⟩,fun q1 g1 ⟨F1,⟨u',bs',R',e1,e2,hR',hIn⟩,hF1,_⟩=>?_⟩;simp only[aag,aau]at e1 e2;subst e1 e2;obtain rfl:=hRd.uniq hR';rw[<-hF1 zzT]at hIn;refine⟨⟨bs,[],hIn,aar _,aar _,aar _,bX.nil _,rfl,aC⟩,fun q2 g2 ⟨rest,rows,hI,x53,x54,x55,hO,hsum,hle⟩=>?_⟩;have hlr:=(hO.at x53 x54).1;refine⟨⟨_,_,rest,false,rfl,rfl,hI⟩,fun q3 g3 ⟨F3,⟨p3,R3,bs3,bad3,e1,e2,hI3,hv3⟩,_⟩=>?_⟩;simp only[aag,aau]at e1 e2;subst e1 e2;obtain⟨e3,_⟩:=hI.uniq hI3;subst e3;have hv3:q3.i 60=rest.length:=by simpa using hv3
  rw[hv3];have hend:rest.length=0->rows=jf bs:=fun h=>by
   have:rest=[]:=aad.1 h;subst this;rw[<-hsum];exact(abl _).symm
  refine⟨fun hpos=>?_,fun hneg=>out rfl (aL _) (by rw[g3.i 53];exact x53) (by rw[g3.i 54];exact x54) (by rw[g3.i 55];exact x55) (by rw[g3.i 53,g3.i 54,g3.i 55,g3.h 56];exact hO) (hend ah)⟩;have hne:rest≠[]:=by rintro rfl;simp at hpos
  rw[g3.i 5,g3.i 6,g3.h 51];refine⟨⟨_,4096,_,rest,false,rfl,rfl,hI,ah⟩,fun q4 g4 ⟨F4,⟨p4,m4,H4,bs4,bad4,H4',e1,e2,hI4,e3,hI4',hv4⟩,hF4,hn4⟩=>?_⟩;simp only[aag,Value.int.injEq,aaZ,aau]at e1 e2 e3;obtain⟨e1,em⟩:=e1;subst e1 em e2;obtain⟨e4,e5⟩:=hI.uniq hI4;subst e4 e5;rw[<-e3]at hI4';rw[<-hF4 zzT]at hv4;have hI4':mQ (q4.h 61) (.pointer (ar (q2.i 5) (q2.i 6))) (tx rest).2.1 (tx rest).2.2:=hI4';have hv4:bM (q4.h 62) 5 (.slice (ar (q4.i 61) (q4.i 62)) (q4.i 63).toNat (q4.i 64).toNat) (tx rest).1:=hv4;have hn4:-1<=q4.i 61/\0<=q4.i 62/\0<=q4.i 63/\0<=q4.i 64:=hn4.1;rw[g4.i 5,g4.i 6,g3.i 5,g3.i 6];refine⟨⟨_,_,_,_,rfl,rfl,hI4'⟩,fun q5 g5 ⟨F5,⟨p5,R5,bs5,bad5,e1,e2,hI5,hv5⟩,_⟩=>?_⟩;simp only[aag,aau]at e1 e2;subst e1 e2;obtain⟨_,e5⟩:=hI4'.uniq hI5;subst e5;have hv5:q5.b 65=(tx rest).2.2:=by simpa [bF] using hv5
  have hat:=Bv hne;have G:ai 60 q2 q5:=g3.trans ((g4.tr g5).mono ah);have G4:ai 65 q4 q5:=g5;rw[hv5];refine⟨fun hb=>out rfl (aL _) (by rw[G.i 53];exact x53) (by rw[G.i 54];exact x54) (by rw[G.i 55];exact x55) (by rw[G.i 53,G.i 54,G.i 55,G.h 56];exact hO) (by rw[<-hsum,hat,aay hb,abl]),fun hb q6 g6 _ q7 g7 ⟨e7,hd7⟩=>?_⟩;have hb:(tx rest).2.2=false:=abW.2 hb;have G7:ai 60 q2 q7:=G.trans ((g6.tr g7).mono ah);have G47:ai 65 q4 q7:=G4.trans ((g6.tr g7).mono ah);have G46:ai 65 q4 q6:=G4.tr g6;have G6:ai 60 q2 q6:=G.tr g6;have hu:nQ (q6.h 62) none (.slice (ar (q7.i 61) (q7.i 62)) (q7.i 63).toNat (q7.i 64).toNat) (tx rest).1:=by
   rw[G46.h 62,G47.i 61,G47.i 62,G47.i 63,G47.i 64];exact nQ.of hv4.rd.w hn4.1 hn4.2.1
  rw[e7,G6.h 56,G7.i 53,G7.i 54,G7.i 55];rw[G6.h 56]at hd7;have hpre:∃ xs,aK ((q2.h 56).un (q6.h 62)) 46 1 (.slice (ar (q2.i 53) 0) (q2.i 54).toNat (q2.i 55).toNat) (q2.i 54).toNat xs:=by
   obtain⟨us,ho,_⟩:=hO;rw[show(q2.i 54).toNat=rows.length by omega]at ho ⊢;exact⟨us,ho.mono (Hl.aX _ _)⟩
  refine⟨⟨hpre,x54,by unfold maxLen;omega,ah⟩,fun q8 g8 ⟨a1,a2,happ,hk,_,hn⟩=>?_⟩;have G8:ai 60 q2 q8:=G7.tr g8;have G48:ai 65 q4 q8:=G47.tr g8;have hrows:=uT hO x53 x54 hd7 hu a1 happ hk hn;have e54:q8.i 54+1=q2.i 54+1:=by rw[G8.i 54]
  have hless:=C3 hne hb;refine⟨⟨(tx rest).2.1,rows++[(tx rest).1],?_,a1,?_,a2,?_,?_,?_⟩,?_⟩
  .show mQ (q8.h 61) (.pointer (ar (q8.i 5) (q8.i 6))) _ _;rw[G48.h 61,G8.i 5,G8.i 6,<-hb];exact hI4'
  .show 0<=q8.i 54+1;omega
  .show bX (q8.h 68) (.slice (ar (q8.i 68) 0) (q8.i 54+1).toNat (q8.i 69).toNat) _;rw[e54];exact hrows
  .rw[aaF,<-hsum,hat,aal (by rw[hb];simp)];rfl
  .rw[aac,aaB];omega
  .show((bs.length:Int)-(q8.i 54+1)).toNat<_;omega
def ij (h:∃ a l c,u=.slice a l c):Value.slice (ar (bo (some u) 0) (bo (some u) 1)) (bo (some u) 2).toNat (bo (some u) 3).toNat=u:=by
 obtain⟨a,n,c,rfl⟩:=h;cases a with
 | none=>simp [bo,ar]
 | some a =>
  obtain⟨b,o,s⟩:=a;cases s with
  | none=>simp [bo,ar]
  | some s =>
   simp only[bo,aaa];unfold ar;rw[aal ah,aal ah,aaa,FC,show(-(-(b:Int)-2)-2).toNat=b by omega]
def fC.parts (h:fC R u r):(∃ a l c,u=.slice a l c)/\bo (some u) 2=r.length /\
 (bo (some u) 0= -1\/bo (some u) 2=0\/0<=bo (some u) 0/\0<=bo (some u) 1/\bC R (bo (some u) 0).toNat (bo (some u) 1).toNat (bo (some u) 2).toNat=true) /\
 (if bo (some u) 0= -1 then ByteArray.empty else bytesOf (fk R (bo (some u) 0).toNat (bo (some u) 1).toNat (bo (some u) 2).toNat))=bytesOf r:=by
 obtain⟨x,y,c,rfl,hy,h⟩:=h;have h2:bo (some (.slice (ar x y) r.length c)) 2=r.length:=by
  cases hs:ar x y with
  | none=>rfl
  | some a=>obtain⟨b,o,s⟩:=a;cases s<;>rfl
 refine⟨⟨_,_,_,rfl⟩,h2,?_⟩;rw[h2];rcases h with h | ⟨hx,hc⟩
 .subst h;refine⟨Or.inr (Or.inl rfl),?_⟩;show(if _ then ByteArray.empty else bytesOf (fk R _ _ 0))=ByteArray.empty;split<;>rfl
 .rw[Uv ah,Wn hx hy,aaa];refine⟨Or.inr (Or.inr ⟨hx,hy,cW hc (aaz _)⟩),?_⟩;rw[aal ah,nX hc]
def jG (R RA:Hl) (v:Value) (rows:List (List Int)):Prop:=∃ (us:List Value) (x y:Int) (c:Nat),v=.slice (ar x y) us.length c/\0<=y/\us.length=rows.length/\(∀ (j:Nat) (u:Value),us[j]?=some u->0<=x/\R.cell x.toNat (y.toNat+j)=some u)/\(∀ (j:Nat) (u:Value) (r:List Int),us[j]?=some u->rows[j]?=some r->fC RA u r)
def jG.uniq (h1:jG R RA v a) (h2:jG R RA v b):a=b:=by
 obtain⟨us,x,y,c,hv,hy,hl,hc,hr⟩:=h1;obtain⟨us',x',y',c',hv',hy',hl',hc',hr'⟩:=h2;rw[hv]at hv';simp only[Value.slice.injEq]at hv';obtain⟨ep,el,_⟩:=hv';apply abO ah;intro j hj hj';have hu:us[j]?=some us[j]:=aab ah;have hu':us'[j]?=some us'[j]:=aab ah;obtain⟨hx,e1⟩:=hc j _ hu;obtain⟨hx',e2⟩:=hc' j _ hu';obtain⟨exx,eyy⟩:=kF ah hy ah hy' ep;have eyy:=eyy hx;subst exx;subst eyy;rw[e1]at e2;have e2:us[j]=us'[j]:=by simpa using e2
 have h1:=hr j _ _ hu (aab hj);have h2:=hr' j _ _ hu' (aab hj');rw[e2]at h1;exact h1.uniq h2
def jG.at (h:jG R RA (.slice (ar x y) l c) rows) (hy:0<=y):l=rows.length/\∀ (i:Nat) r,rows[i]?=some r->0<=x/\∃ u,R.cell x.toNat (y.toNat+i)=some u/\fC RA u r:=by
 obtain⟨us,x',y',c',hv,hy',hl,hc,hr⟩:=h;simp only[Value.slice.injEq]at hv;obtain⟨ep,el,_⟩:=hv;refine⟨ah,fun i r hi=>?_⟩;have hi':=(aah.1 hi).1;have hu:us[i]?=some us[i]:=aab ah;obtain⟨hx,e⟩:=hc i _ hu;obtain⟨rfl,rfl⟩:=Q1 hx hy' hy ep;exact⟨hx,_,e,hr i _ r hu hi⟩
def bL (rows:List (List Int)):List Int:=(rows.map aO).flatten
def iZ (rows:List (List Int)):Prop:=∀ r∈rows,r.length<=4096
def Hm (h:rows[k]?=some r):bL (rows.take (k+1))=bL (rows.take k)++aO r:=by
 unfold bL;rw[abJ,h,abN,aaK,acx];simp
def tF:Sx.Spec where
 fn:=86
 own:=[]
 rd:=[0,3000000]
 res:=[.one .sl,.one (.int .i64)]
 pre:=fun xs Hs Rs=>∃ v R RA rows,xs=[v]/\Rs=[R,RA]/\jG R RA v rows/\rows.length<=1000000/\∀ r∈rows,0<=r.length
 post:=fun xs Hs Rs w Hs' F=>∃ v R RA rows u e,xs=[v]/\Rs=[R,RA]/\jG R RA v rows/\w=.tuple #[u,.int .i64 e]/\(iZ rows->e=0/\bM F 5 u (bL rows))/\(¬iZ rows->e=3)
def WZ:List Sx.Spec:=[rZ,rz]
def Tx:∀ t∈WZ,t.OK Tryz.prog:=av AX <| av yY <| bN
def tG:aF Tryz.prog WZ tF.fn where
 Λ:=fun p=>if I9 p then some ⟨0,[(4,.sv (.one (.sl (.var 53) (.lit 0) (.var 54) (.var 55)))),(12,TI .i64 (.var 50))],[(2,.hp 56 [] [.var 53] [])],60⟩else none
 args:=[.sv (.one (.sl (.var 0) (.var 1) (.var 2) (.var 3)))]
 mem:=[.ro 4 [.var 0] false,.ro 5 [] true]
 nv:=6
def Yt:rZ.res=[]:=rfl
def Yu:rz.res=[.one .sl,.one (.int .i64)]:=rfl
def YR (n:Nat):(aT n [Cp.one .sl,Cp.one (.int .i64)]≠[])=True:=by simp [aT,Cp.roots,Ck.root]
def Hn:tF.OK Tryz.prog:=by
 refine Spec.aV (Γ:=WZ) Tx ?_;rintro xs Hs Rs hl1 hl2 ⟨v,R,RA,rows,rfl,rfl,hB,hlen,aB⟩;have e0:Hs=[]:=aad.1 hl1;subst e0;obtain⟨us,x,y,c,rfl,hy,hul,hcell,hrd⟩:=id hB;refine⟨tG,aQ [x,y,us.length,c] false [Hl.none,Hl.none,Hl.none,Hl.none,R,RA],fun _ q=>∃ k:Nat,q.i 50=k/\k<=rows.length/\(∀ r∈rows.take k,r.length<=4096)/\ -1<=q.i 53/\q.i 54=(bL (rows.take k)).length/\0<=q.i 55/\bM (q.h 56) 5 (.slice (ar (q.i 53) 0) (q.i 54).toNat (q.i 55).toNat) (bL (rows.take k))/\(bL (rows.take k)).length<=4106*k,fun _ q=>(rows.length-q.i 50).toNat,?_,⟨?_,?_,?_,?_⟩,(fun _ h=>nomatch h),?_⟩
 .show [Value.slice (ar x y) ((us.length:Int)).toNat ((c:Int)).toNat]=_;rw[aaa,aaa]
 .intro r hr ho;simp [tG]at hr;rcases hr with rfl | rfl<;>cases ho
 .intro r hr ho;simp [tG]at hr;rcases hr with rfl | rfl
  .exact⟨R,aC,Hl.le_refl _⟩
  .exact⟨RA,aC,Hl.le_refl _⟩
 .simp [tG,bm.own]
 .intro r hr;simp [tG]at hr;rcases hr with rfl | rfl<;>trivial
 .refine aF.read [] [] [] ?_;generalize hρ:aQ [x,y,us.length,c] false [Hl.none,Hl.none,Hl.none,Hl.none,R,RA]=J;have v0:J.i 0=x:=by rw[<-hρ];rfl
  have v1:J.i 1=y:=by rw[<-hρ];rfl
  have v2:J.i 2=us.length:=by rw[<-hρ];rfl
  have v3:J.i 3=c:=by rw[<-hρ];rfl
  have w4:J.h 4=R:=by rw[<-hρ];rfl
  have w5:J.h 5=RA:=by rw[<-hρ];rfl
  clear hρ;simp only[go_sem,Nat.reduceAdd,WZ,Yt,Yu,YR];rw[v2];refine⟨ah,⟨0,rfl,abn _,aC,aar _,rfl,aar _,⟨rfl,Or.inl ⟨rfl,rfl⟩⟩,by simp [bL]⟩,fun q g ⟨k,ek,hk,h4k,x53,y54,x55,hO,hle⟩=>?_⟩;rw[g.i 0,g.i 1,g.i 2,g.h 4,v0,v1,v2,w4,ek];refine⟨fun hlt=>?_,fun hge=>?_⟩
  .have hkr:k<rows.length:=ah;have hr:rows[k]?=some rows[k]:=aab hkr;have hu:us[k]?=some us[k]:=aab ah;obtain⟨hx0,hc⟩:=hcell k _ hu;have hRr:=hrd k _ _ hu hr;have hsl:∃ a l c,us[k]=Value.slice a l c:=(fC.parts hRr).1;have hck:R.cell x.toNat (y+(k:Int)).toNat=some us[k]:=by rw[show(y+(k:Int)).toNat=y.toNat+k by omega];exact hc
   refine⟨hx0,hy,ah,by rw[hck];obtain⟨_,_,_,e⟩:=hsl;rw[e];rfl,fun q1 g1 p60=>?_⟩;have G1:ai 6 J q1:=g.tr g1;rw[G1.h 4,G1.h 5,G1.i 0,G1.i 1,g1.i 50,v0,v1,w4,w5,ek,hck,ij hsl,al p60];refine⟨⟨_,_,_,RA,[],false,rows[k],rfl,rfl,rfl,bn.new _,hRr,aC,aB _ (abB _)⟩,fun q2 g2 ⟨F2,⟨p2,u2,H2,R2,bs2,lg2,b2,H2',e1,e2,e3,hO2,hR2,e4,hO2'⟩,_⟩=>?_⟩;simp only[aag,aau]at e1 e2 e3 e4;obtain⟨e1,e1'⟩:=e1;subst e1 e1' e2 e3;obtain⟨eb,el⟩:=(bn.new _).uniq hO2;subst eb el;obtain rfl:=hRr.uniq hR2;rw[<-e4]at hO2';have hOT:jC [] false rows[k]=if 4096<rows[k].length then([],true)else(aO rows[k],false):=rfl
   rw[hOT]at hO2';have htl:rows[k].length<=4096->(aO rows[k]).length<=4106:=fun h=>by
    unfold aO;have:=nD (z:=rows[k].length) ah;rw[aac];omega
   have hbnd:(if 4096<rows[k].length then(([]:List Int),true)else(aO rows[k],false)).1.length<=1000000:=by
    split
    .simp
    .have:=htl ah;show(aO rows[k]).length<=_;omega
   rw[g2.i 60,al p60];refine⟨⟨_,_,_,_,rfl,rfl,hO2',hbnd⟩,fun q3 g3 ⟨F3,⟨p3,R3,bs3,lg3,u3,e1,e2,hO3,hv3,hw3⟩,hF3,hn3⟩=>?_⟩;simp only[aag,aau]at e1 e2;subst e1 e2;obtain⟨eb,el⟩:=hO2'.uniq hO3;subst eb el;simp only[Value.tuple.injEq,aaH,aag,Value.int.injEq,aaZ,aau]at hv3;obtain⟨eu,e67⟩:=hv3;rw[<-eu,<-hF3 zzT]at hw3;have G3:ai 60 q q3:=g1.trans ((g2.tr g3).mono ah);have hn3:-1<=q3.i 63/\0<=q3.i 64/\0<=q3.i 65/\0<=q3.i 66:=hn3.1;by_cases hbig:4096<rows[k].length
   .rw[aay hbig]at e67;have e67:q3.i 67=3:=e67;refine⟨fun _ _=>?_,fun h0=>ah⟩;refine⟨[],[],rfl,rfl,⟨(bh fun j=>[-1,0,0,0,3].getD j 0),?_,⟨aar _,aar _,aar _,aar _⟩,zzT,zzT⟩,_,R,RA,rows,.slice none 0 0,3,rfl,rfl,hB,?_,fun hok=>?_,fun _=>rfl⟩
    .show Value.tuple #[.slice (ar (-1) 0) 0 0,.int .i64 (q3.i 67)]=_;rw[e67];rfl
    .show Value.tuple #[.slice (ar (-1) 0) 0 0,.int .i64 (q3.i 67)]=_;rw[e67];rfl
    .have:=hok _ (abB hkr);omega
   .rw[aal hbig]at e67 hw3;have hl4:=htl ah;have hE:qN (aO rows[k]) false=(aO rows[k],0):=by unfold qN;rw[aal (by simp;omega)]
    have e67:q3.i 67=(qN (aO rows[k]) false).2:=e67;have hw3:bM (q3.h 63) 5 (.slice (ar (q3.i 63) (q3.i 64)) (q3.i 65).toNat (q3.i 66).toNat) (qN (aO rows[k]) false).1:=hw3;rw[hE]at e67 hw3;refine⟨fun h=>absurd e67 h,fun _=>?_⟩;have hat:=hw3.rd.at hn3.1 hn3.2.1 hn3.2.2.1;have h65:q3.i 65=(aO rows[k]).length:=hat.1;obtain⟨hok,hseg⟩:=se (R:=q3.h 63) (x:=q3.i 63) (y:=q3.i 64) (l:=q3.i 65) (bs:=aO rows[k]) h65 hn3.2.1 (hat.2.imp (·.2) id);rw[G3.i 53,G3.i 54,G3.i 55,G3.h 56];have hOw:aK (q.h 56) 5 1 (.slice (ar (q.i 53) 0) (q.i 54).toNat (q.i 55).toNat) (q.i 54).toNat (aS (bL (rows.take k))):=by
     have:=hO;unfold bM at this;rw[show(q.i 54).toNat=(bL (rows.take k)).length by omega]at this ⊢;exact this
    refine⟨⟨⟨_,hOw⟩,ah,hok,by unfold maxLen;omega,ah⟩,fun q4 g4 ⟨a1,a2,happ,_⟩=>?_⟩;have h2:=happ _ hOw;rw[hseg]at h2;have e65:q4.i 65=q3.i 65:=g4.i 65;have e54:q4.i 54=q.i 54:=by rw[g4.i 54,G3.i 54]
    have e50:q4.i 50=k:=by rw[g4.i 50,G3.i 50,ek]
    have hpk:=Hm hr;have hpl:(bL (rows.take (k+1))).length=(bL (rows.take k)).length+(aO rows[k]).length:=by rw[hpk,aac]
    refine⟨⟨k+1,?_,ah,fun r hrm=>?_,a1,?_,a2,?_,ah⟩,?_⟩
    .show IntKind.i64.wrap (q4.i 50+1)=_;rw[e50,IntWalk.i64_in _ ah];omega
    .rw[abJ,hr,abN]at hrm;rcases aaU.1 hrm with h | h
     .exact h4k r h
     .rw[aam]at h;subst h;omega
    .show q4.i 54+q4.i 65=_;rw[e54,e65];omega
    .show bM (q4.h 68) _ (.slice (ar (q4.i 68) 0) (q4.i 54+q4.i 65).toNat (q4.i 69).toNat) _;unfold bM;rw[e54,e65,hpk,gE,aac];have ea:(q.i 54).toNat+(q3.i 65).toNat=(bL (rows.take k)).length+(aO rows[k]).length:=ah;have eb:(q.i 54+q3.i 65).toNat=(bL (rows.take k)).length+(aO rows[k]).length:=ah;rw[ea]at h2;rw[eb];exact h2
    .show((rows.length:Int)-IntKind.i64.wrap (q4.i 50+1)).toNat<_;rw[e50,IntWalk.i64_in _ ah];omega
  .have hke:k=rows.length:=ah;subst hke;rw[abg]at h4k y54 hO;intro _;refine⟨[],[2],rfl,rfl,⟨(bh fun j=>[q.i 53,0,q.i 54,q.i 55,0].getD j 0),rfl,⟨x53,aar _,by show 0<=q.i 54;omega,x55⟩,zzT,zzT⟩,_,R,RA,rows,.slice (ar (q.i 53) 0) (q.i 54).toNat (q.i 55).toNat,0,rfl,rfl,hB,rfl,fun _=>⟨rfl,?_⟩,fun hno=>absurd h4k hno⟩;show bM (cu [q.h 56]) _ _ _;rw[aL];exact hO
end Go.Proofs.YtomdimlnggpgbaaGreatDoor
namespace Go.Proofs.YtomdimlnggpgbaaGreatDoor
open Go Go.Sx Go.Pk Go.RowKit
variable {F R:Hl}{c d:Int}{g n:Nat}{a b:Nat->Addr}{e v:Value}
def oM:Nat:=0
def nh:Nat:=1
def lh:Nat:=2
def O8 (g:Nat):Prop:=g=oM\/g=nh\/g=lh
def gv (a:Nat->Addr) (g:Nat):Value:=.iface 299 (.pointer (some (a g)))
structure Gl (R:Hl) (a:Nat->Addr):Prop where
 cell:∀ g,O8 g->R.cell g 0=some (gv a g)
 bd:∀ g,O8 g->∃ c t,R (a g).block=some (.cells c t (0,0))
 ne:∀ g h,O8 g->O8 h->g≠h->a g≠a h
def Gl.same (h:Gl R a) (k:Gl R b) (hg:O8 g):a g=b g:=by
 have:=(h.cell g hg).symm.trans (k.cell g hg);simpa [gv] using this
def gi (c:Int):Nat:=if c=4 then nh else if c=14 then lh else oM
def D4 (c:Int):O8 (gi c):=by
 unfold gi O8;split
 .exact Or.inr (Or.inl rfl)
 .split
  .exact Or.inr (Or.inr rfl)
  .exact Or.inl rfl
def lV (a:Nat->Addr) (v:Value) (c:Int):Prop:=(c=0/\v=.nilIface)\/(c≠0/\∃ s:ByteArray,v=.iface 156 (.agg #[.string s,gv a (gi c)]))
def lV.same (h:Gl R a) (k:Gl R b) (hc:lV a v c) (hd:lV b v d):(c=0↔d=0)/\(c≠0->gi c=gi d):=by
 rcases hc with ⟨hc,e⟩ | ⟨hc,s,e⟩<;>rcases hd with ⟨hd,e'⟩ | ⟨hd,s',e'⟩<;>rw[e]at e'
 .exact⟨⟨fun _=>hd,fun _=>hc⟩,fun h=>absurd hc h⟩
 .cases e'
 .cases e'
 .refine⟨⟨fun h=>absurd h hc,fun h=>absurd h hd⟩,fun _=>?_⟩;simp only[Value.iface.injEq,Value.agg.injEq,aaH,aag,Value.string.injEq,gv,Value.pointer.injEq,aak,aaZ,aau]at e';rw[<-h.same k (D4 d)]at e';exact abj fun hne=>h.ne _ _ (D4 c) (D4 d) hne e'.2
open Classical in
noncomputable def Uo:Sx.Spec where
 fn:=87
 own:=[]
 rd:=[2000000]
 res:=[.one .bool]
 pre:=fun xs Hs Rs=>∃ e t R a c g,xs=[e,t]/\Rs=[R]/\Gl R a/\lV a e c/\O8 g/\t=gv a g
 post:=fun xs Hs Rs v Hs' F=>∃ e t R,xs=[e,t]/\Rs=[R]/\∀ a c g,Gl R a->lV a e c->O8 g->t=gv a g->v=.bool (decide (c≠0/\gi c=g))
def Nc:Uo.OK Tryz.prog:=by
 refine nV rfl fun w xs Rs hs ⟨e,t,R,a,c,g,e1,e2,hG,hE,hg,ht⟩=>?_;subst e1 e2 ht;refine⟨.bool (decide (c≠0/\gi c=g)),⟨⟨fun _=>0,fun _=>decide (c≠0/\gi c=g),fun _=>.empty,fun _=>.tuple #[],fun _=>Hl.none⟩,rfl,zzT,zzT⟩,?_,_,_,R,rfl,rfl,fun a' c' g' hG' hE' hg' ht'=>?_⟩
 .have hR:=hs R aC;obtain⟨cg,tg,hbg⟩:=hG.bd g hg;rcases hE with ⟨rfl,rfl⟩ | ⟨hc,s,rfl⟩
  .refine(S6 (a g) w).mono fun e w' ⟨h1,h2⟩=>⟨(by rw[h1];simp),(by rw[h2];exact Below.refl _ _)⟩
  .by_cases hgc:gi c=g
   .subst hgc;refine(Cl s (a (gi c)) w).mono fun e w' ⟨h1,h2⟩=>⟨(by rw[h1];simp [hc]),h2⟩
   .obtain⟨cc,tc,hbc⟩:=hG.bd (gi c) (D4 c);refine(Al s (a g) (a (gi c)) cc cg tc tg w (hG.ne _ _ (D4 c) hg hgc) (hR _ _ hbc) (hR _ _ hbg)).mono fun e w' ⟨h1,h2⟩=>⟨(by rw[h1];simp [hgc]),h2⟩
 .obtain⟨s1,s2⟩:=hE.same hG hG' hE';have hgg:g=g':=by
   have:a g=a' g':=by simpa [gv] using ht'
   rw[<-hG.same hG' hg']at this;exact abj fun hne=>hG.ne _ _ hg hg' hne this
  subst hgg
  congr 1
  by_cases h0:c=0
  .have:=s1.1 h0;simp [h0,this]
  .have h0':c'≠0:=fun h=>h0 (s1.2 h);rw[<-s2 h0];simp [h0,h0']
def Ab:Sx.Spec where
 fn:=52
 own:=[]
 rd:=[2000000]
 res:=[.one .any]
 pre:=fun xs Hs Rs=>∃ (s:ByteArray) (c:Int) (R:Hl) (a:Nat->Addr),xs=[.string s,.int .i64 c]/\Rs=[R]/\Gl R a
 post:=fun xs Hs Rs v Hs' F=>∃ (s:ByteArray) (c:Int) (R:Hl),xs=[.string s,.int .i64 c]/\Rs=[R]/\∀ a,Gl R a->lV a v c
set_option maxRecDepth 20000 in
def Dc (s:ByteArray) (c:Int) (a:Nat->Addr) (w:World) (h0:w.cell? ⟨oM,0,none⟩=some (gv a oM)) (h1:w.cell? ⟨nh,0,none⟩=some (gv a nh)) (h2:w.cell? ⟨lh,0,none⟩=some (gv a lh)) :
 Calls Tryz.prog 52 #[.string s,.int .i64 c] w fun e w'=>e=.returned (if c=0 then .nilIface else .iface 156 (.agg #[.string s,if c=4 then gv a nh else if c=14 then gv a lh else gv a oM]))/\w'=w:=by
 unfold gv oM at h0;unfold gv nh at h1;unfold gv lh at h2;by_cases c0:c=0
 .subst c0
  go_enter Tryz.func52,Tryz.ntmps52
  go_wp2
  go_ret
  exact⟨rfl,rfl⟩
 .rw[aal c0];by_cases c4:c=4
  .subst c4
   go_enter Tryz.func52,Tryz.ntmps52
   go_wp2
   go_ret
   exact⟨rfl,rfl⟩
  .rw[aal c4];by_cases c14:c=14
   .subst c14
    go_enter Tryz.func52,Tryz.ntmps52
    go_wp2
    go_ret
    exact⟨rfl,rfl⟩
   .rw[aal c14]
    go_enter Tryz.func52,Tryz.ntmps52
    go_wp2
    go_ret
    exact⟨rfl,rfl⟩
def O0 (a:Nat->Addr) (s:ByteArray) (c:Int):Value:=if c=0 then .nilIface else .iface 156 (.agg #[.string s,if c=4 then gv a nh else if c=14 then gv a lh else gv a oM])
def FH:Ab.OK Tryz.prog:=by
 refine nV rfl fun w xs Rs hs ⟨s,c,R,a,e1,e2,hG⟩=>?_;subst e1 e2;have hR:=hs R aC;have hv:=Dc s c a w (Hl.gH hR (hG.cell _ (Or.inl rfl))) (Hl.gH hR (hG.cell _ (Or.inr (Or.inl rfl)))) (Hl.gH hR (hG.cell _ (Or.inr (Or.inr rfl))));refine⟨O0 a s c,⟨⟨fun _=>0,fun _=>false,fun _=>.empty,fun _=>O0 a s c,fun _=>Hl.none⟩,rfl,zzT,zzT⟩,hv.mono fun e w' ⟨h1,h2⟩=>⟨h1,(by rw[h2];exact Below.refl _ _)⟩,s,c,R,rfl,rfl,fun a' hG'=>?_⟩;unfold O0;by_cases c0:c=0
 .rw[aay c0];exact Or.inl ⟨c0,rfl⟩
 .rw[aal c0];refine Or.inr ⟨c0,s,?_⟩
  congr 3
  unfold gi;split
  .unfold gv;rw[hG.same hG' (Or.inr (Or.inl rfl))]
  .split
   .unfold gv;rw[hG.same hG' (Or.inr (Or.inr rfl))]
   .unfold gv;rw[hG.same hG' (Or.inl rfl)]
def qP (c:Int):Int:=if c=0 then 0 else if gi c=nh then 4 else if gi c=lh then 14 else 5
def qB:Sx.Spec where
 fn:=88
 own:=[]
 rd:=[2000000]
 res:=[.one (.int .i64)]
 pre:=fun xs Hs Rs=>∃ e R a c,xs=[e]/\Rs=[R]/\Gl R a/\lV a e c
 post:=fun xs Hs Rs v Hs' F=>∃ e R,xs=[e]/\Rs=[R]/\∀ a c,Gl R a->lV a e c->v=.int .i64 (qP c)
noncomputable def VK:List Sx.Spec:=[Uo]
def Ts:∀ t∈VK,t.OK Tryz.prog:=fun t ht=>by
 simp only[VK,aan,aat,aaX]at ht;rw[ht];exact Nc
noncomputable def EA:aF Tryz.prog VK qB.fn where
 Λ:=aD
 args:=[.sv (.one (.vr 0))]
 mem:=[.ro 1 [.lit 0,.lit 1,.lit 2] false]
 nv:=2
def Yl:Uo.res=[.one .bool]:=rfl
def KR (h:Gl R a) (k:Gl R b) (hc:lV a v c) (hd:lV b v d):qP c=qP d:=by
 obtain⟨s1,s2⟩:=hc.same h k hd;unfold qP;by_cases h0:c=0
 .rw[aay h0,aay (s1.1 h0)]
 .rw[aal h0,aal (fun h=>h0 (s1.2 h)),s2 h0]
def PH (h:lV a v c):oT v<=1/\(oT v=0↔c=0):=by
 rcases h with ⟨hc,rfl⟩ | ⟨hc,s,rfl⟩
 .exact⟨aA,fun _=>hc,fun _=>rfl⟩
 .exact⟨aar 1,fun h=>absurd (show(1:Int)=0 from h) ah,fun h=>absurd h hc⟩
open Classical in
def GK {q:Env} {K Hs:List Hl} (hG:Gl R a) (hE:lV a e c) (hg:O8 g) (hp:Uo.post [e,gv a g] Hs [R] (.bool (aY q (.bvar n))) K F):(q.b n=true)=(c≠0/\gi c=g):=by
 obtain⟨e',t',R',e1,e2,h⟩:=hp;simp only[aag,aau]at e1 e2;obtain⟨rfl,rfl⟩:=e1;subst e2;have:=h a c g hG hE hg rfl;rw[bF]at this;simp only[Value.bool.injEq]at this;rw[this];simp
def He:qB.OK Tryz.prog:=by
 refine Spec.aV (Γ:=VK) Ts ?_;rintro xs Hs Rs hl1 hl2 ⟨e,R,a,c,rfl,rfl,hG,hE⟩;have e0:Hs=[]:=aad.1 hl1;subst e0;refine⟨EA,⟨fun _=>0,fun _=>false,fun _=>.empty,fun _=>e,fun _=>R⟩,fun _ _=>True,fun _ _=>0,rfl,⟨?_,?_,?_,?_⟩,(fun _ h=>nomatch h),?_⟩
 .intro r hr ho;simp [EA]at hr;subst hr;cases ho
 .intro r hr ho;simp [EA]at hr;subst hr;exact⟨R,aC,Hl.le_refl _⟩
 .simp [EA]
 .intro r hr;simp [EA]at hr;subst hr;trivial
 .refine aF.read [] [] [] ?_;generalize hρ:(⟨fun _=>0,fun _=>false,fun _=>.empty,fun _=>e,fun _=>R⟩:Env)=J;have v0:J.v 0=e:=by rw[<-hρ]
  have w1:J.h 1=R:=by rw[<-hρ]
  clear hρ;have out:∀ {q:Env} {z:Int} {mem:Mem},z=qP c->postOf qB [e] [] [R] q mem (.sv (.one (.int .i64 (.lit z)))):=by
   rintro q z mem rfl _;exact⟨[],[],rfl,rfl,⟨(bh fun _=>qP c),rfl,zzT,zzT⟩,e,R,rfl,rfl,fun a' c' hG' hE'=>by
    rw[<-KR hG hG' hE hE'];rfl⟩
  have hcode:=PH hE;simp only[go_sem,Nat.reduceAdd,VK,Yl,yy];rw[v0,w1];have cF:R.cell (Int.toNat 1) (Int.toNat 0)=some (gv a nh):=hG.cell nh (Or.inr (Or.inl rfl));have cS:R.cell (Int.toNat 2) (Int.toNat 0)=some (gv a lh):=hG.cell lh (Or.inr (Or.inr rfl));rw[cF];refine⟨hcode.1,fun h0=>out (by unfold qP;rw[aay (hcode.2.1 h0)]),fun h0=>⟨rfl,⟨e,_,R,a,c,nh,rfl,rfl,hG,hE,Or.inr (Or.inl rfl),rfl⟩,fun q1 g1 ⟨F1,hp1,_⟩=>?_⟩⟩;have hc0:c≠0:=fun h=>h0 (hcode.2.2 h);have r1:=GK hG hE (Or.inr (Or.inl rfl)) hp1;rw[r1,g1.h 1,g1.v 0,v0,w1,cS];refine⟨fun h=>out (by unfold qP;rw[aal hc0,aay h.2]),fun h=>⟨rfl,⟨e,_,R,a,c,lh,rfl,rfl,hG,hE,Or.inr (Or.inr rfl),rfl⟩,fun q2 g2 ⟨F2,hp2,_⟩=>?_⟩⟩;have hn1:gi c≠nh:=fun e=>h ⟨hc0,e⟩;have r2:=GK hG hE (Or.inr (Or.inr rfl)) hp2;rw[r2];exact⟨fun h=>out (by unfold qP;rw[aal hc0,aal hn1,aay h.2]),fun h=>out (by unfold qP;rw[aal hc0,aal hn1,aal fun e=>h ⟨hc0,e⟩])⟩
end Go.Proofs.YtomdimlnggpgbaaGreatDoor
