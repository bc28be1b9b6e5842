/- RelayPlays. -/
import Derived.Test.YtomdimlnggpgbaaGreatDoorTK
set_option linter.all false
set_option maxHeartbeats 4000000
namespace Go.Proofs.YtomdimlnggpgbaaGreatDoor
open Go Go.Sx Go.Pk
open Go.Proofs.YtomdimlnggpgbaaGreatDoor.D hiding aO aD fN
variable {D:DM}{B F H K RG T U:Hl}{row:List Value}{r rt x:Nat}{st st':Nat->List Pc}{S S':SM}{dp dp' p v:Value}
def qV:Sx.Spec where
 fn:=34
 own:=[]
 rd:=[0]
 res:=[.one .bool]
 pre:=fun xs Hs Rs=>∃ pr x R T st st2,xs=[pr,.pointer (some ⟨x,0,none⟩)]/\Rs=[R]/\nZ R pr st/\iT R T x st2/\T.le R/\(ma st/\ma st2)/\Good st/\∀ i,i<6->st i=st2 i\/(st i).length≠(st2 i).length
 post:=fun xs Hs Rs v Hs' F=>∃ pr x R T st st2,xs=[pr,.pointer (some ⟨x,0,none⟩)]/\Rs=[R]/\nZ R pr st/\iT R T x st2/\T.le R/\(v=.bool true/\(∀ i,i<6->st i=st2 i)\/v=.bool false/\∃ i,i<6/\(st i).length≠(st2 i).length)
def sP (k:Nat):E:=.hP 2 (.var 1) (.var 50) 0 k
def sO:E:=.ite (.eq (sP 3) (.var 70)) (sP 1) (.add (sP 1) (.mul (.var 70) (.lit 126)))
def sQ (k:Nat):E:=.hP 2 (sP 0) (.add sO (.lit 125)) 0 k
noncomputable def XS:List Sx.Spec:=[xG,qH,xP,EU,fx 71]
def UT:∀ t∈XS,t.OK Tryz.prog:=av Hq <| av za <| av Ik <| av NR <| av uf <| bQ
def ZH:xG.res=[.agg (List.replicate 6 (Ck.int .u64))]:=rfl
def ZI:qH.res=[.one (.int .i64)]:=rfl
def ZJ:xP.res=[.one (.int .i64)]:=rfl
def ZK:EU.res=[.agg gR,.one (.int .i64)]:=rfl
set_option maxRecDepth 20000 in
def ZG:(aK 0 [Cp.agg gR,Cp.one (.int .i64)]≠[])=True:=eq_true aA
noncomputable def Kl:aG Tryz.prog XS qV.fn where
 Λ:=fun p=>if lp p&&p.head?==some 34 then(if p.length>12 then some ⟨1,[(7,TI .i64 (.var 70))],[],80⟩else some ⟨0,[(6,TI .i64 (.var 50))],[],60⟩)else none
 args:=[TP (.var 0) (.lit 0),TP (.var 1) (.lit 0)]
 mem:=[.ro 2 [] true]
 nv:=3
set_option maxRecDepth 20000 in
def It:qV.OK Tryz.prog:=by
 refine Spec.aS (Γ:=XS) UT ?_;rintro xs Hs Rs hl1 hl2 ⟨pr,x,R,T,st,st2,rfl,rfl,hRel,hRf,hTR,⟨hS,hS2⟩,hG,hLike⟩;have e0:Hs=[]:=aad.1 hl1;subst e0;obtain⟨r,ps,y,rfl,hrb,hIx⟩:=id hRel;obtain⟨sv,KB,hD⟩:=id hRf;refine⟨Kl,aO [(r:Int),x] false [Hl.none,Hl.none,R],fun j q=>if j=0 then ∃ k:Nat,q.i 50=k/\k<=6/\∀ i,i<k->st i=st2 i else ∃ k:Nat,q.i 70=k,fun j q=>if j=0 then(6-q.i 50).toNat else(1000000-q.i 70).toNat,?_,cO (by intro r hr;simp [Kl]at hr;subst hr;exact⟨_,_,_,rfl⟩) rfl,(fun _ h=>nomatch h),?_⟩
 .show [Value.pointer (az (r:Int) 0),.pointer (az (x:Int) 0)]=_;rw[au ah,au ah];rfl
 refine aG.read [bT] [ef] [] ?_;generalize hρ:aO [(r:Int),x] false [Hl.none,Hl.none,R]=J;have V:∀ q:Env,ai 3 J q->q.i 0=r/\q.i 1=x/\q.h 2=R:=fun q g=>by
  rw[g.i 0,g.i 1,g.h 2,<-hρ];exact⟨rfl,rfl,rfl⟩
 clear hρ;have cr:R.cell ((r:Int)).toNat (Int.toNat 1)=some (.pointer (some ⟨y,0,none⟩)):=by
  rw[aaa];unfold Hl.cell;rw[hrb];rfl
 have rt:∀ {q:Env} {mem:Mem} {e:E},(ba q e=true/\(∀ i,i<6->st i=st2 i)\/ba q e=false/\∃ i,i<6/\(st i).length≠(st2 i).length)->postOf qV [.pointer (some ⟨r,0,none⟩),.pointer (some ⟨x,0,none⟩)] [] [R] q mem (.sv (.one (.bool e))):=fun h=>m9 rfl rfl fun F=>⟨_,x,R,T,st,st2,rfl,rfl,hRel,hRf,hTR,h.imp (fun h=>⟨aaD Value.bool h.1,h.2⟩) (fun h=>⟨aaD Value.bool h.1,h.2⟩)⟩;simp only[go_sem,Nat.reduceAdd,XS,ZH,ZI,ZJ,ZK,hr5,ZG,Gw,sP,sO,sQ,abL,acX,abK];intro q1 g1 _;obtain⟨v0,v1,w2⟩:=V q1 g1;rw[v0,w2,cr,iQ];refine⟨ah,rfl,⟨y,R,st,rfl,rfl,hIx,hS⟩,fun q2 g2 ⟨F2,hp2,_⟩ q3 g3 _=>⟨⟨0,rfl,ah,fun i hi=>ah⟩,fun q4 g4 ⟨k,ek,hk,hal⟩=>?_⟩⟩;have A24:ai 10 q2 q4:=ai.trans (n:=10) g3 g4.mono;have A4:ai 3 J q4:=g1.trans (g2.mono.tr A24);have hp2:=aaG (Value.agg.inj (hp2 _ _ _ rfl rfl hIx hS));have hh:∀ i:Nat,i<6->(if((i:Nat):Int)=0 then q4.i 4 else if((i:Nat):Int)=1 then q4.i 5 else if((i:Nat):Int)=2 then q4.i 6 else if((i:Nat):Int)=3 then q4.i 7 else if((i:Nat):Int)=4 then q4.i 8 else q4.i 9)=(st i).length:=by
  have A:=A24;have hp2:([.int .u64 (q2.i 4),.int .u64 (q2.i 5),.int .u64 (q2.i 6),.int .u64 (q2.i 7),.int .u64 (q2.i 8),.int .u64 (q2.i 9)]:List Value)=Hn st:=hp2;simp only[Hn,aag,Value.int.injEq,aaY,aat]at hp2;obtain⟨m0,m1,m2,m3,m4,m5⟩:=hp2;rw[A.i 4,A.i 5,A.i 6,A.i 7,A.i 8,A.i 9,m0,m1,m2,m3,m4,m5];intro i hi;have:i=0\/i=1\/i=2\/i=3\/i=4\/i=5:=ah;rcases this with rfl | rfl | rfl | rfl | rfl | rfl<;>rfl
 refine⟨fun hlt=>?_,fun hge=>?_⟩
 .have hk6:k<6:=ah;obtain⟨c1,csl,cl,cs⟩:=hD.sl hk6;have c:R.cell ((x:Int)).toNat ((k:Int)).toNat=some (sv k):=by rw[aaa,aaa];exact c1
  have cq:∀ q:Env,ai 3 J q->q.i 50=k->(q.h 2).cell (q.i 1).toNat (q.i 50).toNat=some (sv k):=fun q g h=>by
   obtain⟨_,e1,e2⟩:=V q g;rw[e1,e2,h];exact c
  have hsk:=hS k hk6;have hsk2:=hS2 k hk6;rw[cq q4 A4 ek,cl,ek,hh k hk6];have wl:IntKind.u64.wrap ((st2 k).length:Int)=(st2 k).length:=by rw[IntKind.wrap_u64];omega
  rw[wl];refine⟨ah,by rw[(V q4 A4).2.1];omega,cs,ah,fun hne=>rt (Or.inr ⟨rfl,k,hk6,fun e=>hne (aaD _ e)⟩),fun heq=>?_⟩;have eK:st k=st2 k:=(hLike k hk6).resolve_right fun h=>h (Int.ofNat.inj heq);rw[<-eK]at cl;refine⟨⟨0,rfl⟩,fun q5 g5 ⟨j,ej⟩=>⟨fun hj=>?_,fun hj=>?_⟩⟩
  rotate_left
  .refine⟨⟨k+1,?_,ah,fun i hi=>(aa9 i k).elim (hal i) fun h=>by rw[show i=k by omega];exact eK⟩,?_⟩
   .show IntKind.i64.wrap (q5.i 50+1)=_;rw[g5.i 50,ek,IntKind.wrap_i64];omega
   .show(6-IntKind.i64.wrap (q5.i 50+1)).toNat<(6-(k:Int)).toNat;have w1:IntKind.i64.wrap ((k:Int)+1)=((k+1:Nat):Int):=by rw[IntKind.wrap_i64];omega
    rw[g5.i 50,ek,w1];omega
  have A5:ai 3 J q5:=A4.tr g5;have ek5:q5.i 50=k:=by rw[g5.i 50,ek]
  rw[cq q5 A5 ek5,cl,ej]at hj;have hjl:j<(st k).length:=ah;intro q6 g6 p6;have A6:ai 3 J q6:=A5.tr g6;have ek6:q6.i 50=k:=by rw[g6.i 50,ek5]
  have ej6:q6.i 70=j:=by rw[g6.i 70,ej]
  obtain⟨u0,u1,u2⟩:=V q6 A6;have w1:IntKind.i64.wrap ((k:Int)+1)=((k+1:Nat):Int):=by rw[IntKind.wrap_i64];omega
  have w2':IntKind.i64.wrap ((j:Int)+1)=((j+1:Nat):Int):=by rw[IntKind.wrap_i64];omega
  have w3:IntKind.u64.wrap (((j+1:Nat):Int))=((j+1:Nat):Int):=by rw[IntKind.wrap_u64];omega
  rw[u0,u2,cr,iQ,ek6,ej6,w1,w2',w3];refine⟨⟨y,R,st,_,_,rfl,rfl,hIx,hS,hG,ah,ah⟩,fun q7 g7 ⟨F7,⟨x',R',st',n',s',f1,f2,h',hcase⟩,hF7,hn7⟩ q8 g8 p8=>?_⟩;simp only[aag,aat,Value.pointer.injEq,aai,Addr.mk.injEq,Value.int.injEq,aaY]at f1 f2;obtain⟨rfl,rfl,rfl⟩:=f1;subst f2;have ek1:(((k+1:Nat):Int)-1).toNat=k:=ah;have ej1:(((j+1:Nat):Int)-1).toNat=j:=ah;rw[ek1,ej1,<-hIx.st h' hk6]at hcase;rcases hcase with ⟨_,_,row',p',hp',ev,hP'⟩ | ⟨hno,_⟩
  rotate_left
  .exact absurd ⟨⟨ah,ah⟩,ah,ah⟩ hno
  simp only[Value.tuple.injEq,aaT,aag,Value.int.injEq,Value.agg.injEq,aaY,aat]at ev;obtain⟨er,ev⟩:=ev;have h213:q8.i 213=0:=(g8.i 213).trans ev;rw[<-hF7 zzT]at hP';refine⟨fun hne=>absurd h213 hne,fun _=>?_⟩;obtain⟨rows,ho,hrl,hrp⟩:=hD.row k hk6;rw[<-eK]at hrl;obtain⟨row,hr⟩:∃ row,rows[j]?=some row:=⟨_,aab ah⟩;have hP:=(hrp j row p' hr (eK▸hp')).2 R hTR hD.kb;obtain⟨g,cap,cur,hv,hg,hle,_,_,_⟩:∃ g cap cur,sv k=.slice (some ⟨g,0,none⟩) rows.length cap/\R g=some (.cells cur 67 (0,0))/\rows.length<=cap/\cap<=maxLen/\cur.size=cap*pt.length/\cur.toList.take (rows.length*pt.length)=rows.flatten:=by
   rcases ho.2.2 with ⟨_,hn⟩ | h
   .omega
   .exact h
  have hcell:∀ jj u,row[jj]?=some u->R.cell g (j*126+jj)=some u:=by
   obtain⟨x1,y1,c1',he,hy1,hrr⟩:=ho.rd;rw[hv]at he;rcases hrr with h | ⟨hx1,hrr⟩
   .rw[h]at hrl;simp at hrl;omega
   .have hh:=(hrr j row hr).2;simp only[Value.slice.injEq]at he;have e1:=he.1;rw[au hx1]at e1;simp only[aai,Addr.mk.injEq,aat]at e1;obtain⟨e1,e2⟩:=e1;intro jj u hu;have:=hh jj u hu;rw[kE,<-e1,<-e2,aaI]at this;exact this
  have k0:bm (some (sv k)) 0=(g:Int):=by rw[hv];rfl
  have k1:bm (some (sv k)) 1=0:=by rw[hv];rfl
  have k3:bm (some (sv k)) 3=(cap:Int):=by rw[hv];rfl
  have A8:ai 3 J q8:=A6.trans (g7.mono.tr g8);have ek8:q8.i 50=k:=by rw[g8.i 50,g7.i 50,ek6]
  have ej8:q8.i 70=j:=by rw[g8.i 70,g7.i 70,ej6]
  rw[cq q8 A8 ek8,k0,k1,k3,ej8,w2'];refine⟨ah,ah,ah,ah,ah,fun q9 g9 p9=>?_⟩;have A9:ai 3 J q9:=A8.tr g9;have ek9:q9.i 50=k:=by rw[g9.i 50,ek8]
  have ej9:q9.i 70=j:=by rw[g9.i 70,ej8]
  have nc:¬((cap:Nat):Int)=j:=ah;have hl126:=fE hP.ok;rw[kE]at hl126;have hr125:row[125]?=some row[125]:=aab ah;have hbody:fu R (row[125]) p'.b:=by
   have:=hP.body;rw[aak,hr125]at this;exact this
  have hc125:R.cell ((g:Int)).toNat (0+(j:Int)*126+125).toNat=some row[125]:=by
   rw[aaa,show(0+(j:Int)*126+125).toNat=j*126+125 by omega];exact hcell 125 _ hr125
  obtain⟨t1,t2,t3,t4⟩:=L0 hbody;have eb:row'.getD 125 BA=.slice (az (q7.i 209) (q7.i 210)) (q7.i 211).toNat (q7.i 212).toNat:=by
   rw[<-er,ue]
  have hb':=hP'.body;rw[eb]at hb';have n7:0<=q7.i 210/\0<=q7.i 211:=by
   obtain⟨x1,y1,c1',he,_⟩:=id hb';have hh:cD 81 gR q7:=hn7.1;have e:gR=bT++([Ck.sl]:List Ck):=rfl;have sp:∀ (a b:List Ck) (n:Nat),cD n (a++b) q7->cD (n+aW a) b q7:=by
    intro a
    induction a with
    | nil=>intro b n h;simpa [aW] using h
    | cons k a ih=>intro b n h;have:=ih b _ h.2;rw[show n+k.len+aW a=n+aW (k::a)by simp [aW];omega]at this;exact this
   rw[e]at hh;obtain⟨_,n2,n3,_⟩:=(sp _ _ _ hh).1;exact⟨n2,n3⟩
  have A79:ai 214 q7 q9:=g8.tr g9;have hb9:fu (q9.h 81) (.slice (az (q9.i 209) (q9.i 210)) (q9.i 211).toNat (q9.i 212).toNat) p'.b:=by
   rw[A79.h 81,A79.i 209,A79.i 210,A79.i 211,A79.i 212];exact hb'
  have x9:=lD hb9 (by rw[A79.i 210];exact n7.1) (by rw[A79.i 211];exact n7.2);obtain⟨_,_,o2⟩:=V q9 A9;rw[cq q9 A9 ek9,k0,k1,k3,ej9,w2',aan nc,o2,hc125,x9.2,t4];refine⟨ah,fun hne=>absurd ah hne,fun _=>⟨x9.1,ah,ah,ah,t1,t3,fun hne=>absurd rfl hne,fun _=>?_⟩⟩;have ho125:=jy (n:=125) hP.ok;rw[zT]at ho125;have hc0:∀ i u,(row.take 125)[i]?=some u->R.cell ((g:Int)).toNat ((0+(j:Int)*126).toNat+i)=some u:=fun i u hu=>by
   rw[aaX]at hu;split at hu
   .rw[aaa,show(0+(j:Int)*126).toNat=j*126 by omega];exact hcell i u hu
   .cases hu
  have ra:(al 81 bT).map (CV.ev q9)=row'.take 125:=by
   rw[<-er,oH];exact aaD Array.toList (Value.agg.inj (fH (ks:=bT) (n:=81) (m:=214) A79 aA))
  rw[ra,A79.h 81];refine⟨lJ _ ho125 hc0,⟨_,q7.h 81,p'.h,rfl,rfl,hP'.hd⟩,fun q10 g10 ⟨F10,hp10,hF10,hn10⟩=>?_⟩;have B1:=mh hP'.hd hp10;rw[<-hF10 zzT]at B1;have n10:-1<=q10.i 216/\0<=q10.i 217/\0<=q10.i 218/\0<=q10.i 219:=hn10.1;have A10:ai 3 J q10:=A9.tr g10;have ek10:q10.i 50=k:=by rw[g10.i 50,ek9]
  have ej10:q10.i 70=j:=by rw[g10.i 70,ej9]
  obtain⟨_,_,o10⟩:=V q10 A10;have rb:(aU 2 (.hP 2 (.var 1) (.var 50) 0 0) (.ite (.eq (.hP 2 (.var 1) (.var 50) 0 3) (.var 70)) (.hP 2 (.var 1) (.var 50) 0 1) (.add (.hP 2 (.var 1) (.var 50) 0 1) (.mul (.var 70) (.lit 126)))) 0 ef).map (CV.ev q10)=row.take 125:=fa _ ef 0 ho125 fun i u hu=>by
   simp only[fk,cG,bJ,cj,ak,aq,gn,aaI,aaW];rw[cq q10 A10 ek10,k0,k1,k3,ej10,o10,aan nc];exact hc0 i u hu
  rw[rb,o10];refine⟨(lD B1.rd.w n10.2.1 n10.2.2.1).1,⟨_,R,p'.h,rfl,rfl,hP.hd⟩,fun q11 g11 ⟨F11,hp11,hF11,hn11⟩=>?_⟩;have B2:=mh (hP.hd) hp11;rw[<-hF11 zzT]at B2;have n11:-1<=q11.i 220/\0<=q11.i 221/\0<=q11.i 222/\0<=q11.i 223:=hn11.1;have B1':bO (q11.h 216) 5 (.slice (az (q11.i 216) (q11.i 217)) (q11.i 218).toNat (q11.i 219).toNat) (bc p'.h):=by
   rw[g11.h 216,g11.i 216,g11.i 217,g11.i 218,g11.i 219];exact B1
  have y1:=lD B1'.rd.w (by rw[g11.i 217];exact n10.2.1) (by rw[g11.i 218];exact n10.2.2.1);have y2:=lD B2.rd.w n11.2.1 n11.2.2.1;rw[y1.2,y2.2];refine⟨y2.1,fun hne=>absurd rfl hne,fun _=>⟨⟨j+1,?_⟩,?_⟩⟩
  .show IntKind.i64.wrap (q11.i 70+1)=_;rw[g11.i 70,ej10,w2']
  .show(1000000-IntKind.i64.wrap (q11.i 70+1)).toNat<(1000000-q5.i 70).toNat;rw[g11.i 70,ej10,w2',ej];have key:∀ N:Int,((j+1:Nat):Int)<=N->(N-((j+1:Nat):Int)).toNat<(N-(j:Int)).toNat:=fun N h=>ah;exact key 1000000 ah
 .obtain⟨u0,u1,u2⟩:=V q4 A4;rw[u0,u2,cr,iQ];refine⟨⟨y,R,st,rfl,rfl,hIx⟩,fun q5 g5 ⟨F5,hp5,_⟩=>?_⟩;have h5:q5.i 60=dY st:=by simpa using hp5 _ _ _ rfl rfl hIx
  have A5:ai 3 J q5:=A4.tr g5;obtain⟨m0,m1,m2⟩:=V q5 A5;have ep:Value.pointer (az (x:Int) 0)=.pointer (some ⟨x,0,none⟩):=by rw[au ah];rfl
  rw[m1,m2,ep];refine⟨⟨x,R,T,st2,rfl,rfl,hRf,hS2⟩,fun q6 g6 ⟨F6,⟨x',R',T',st',f1,f2,h',hv⟩,_⟩=>?_⟩;simp only[aag,aat,Value.pointer.injEq,aai,Addr.mk.injEq]at f1 f2;subst f1 f2;obtain⟨sv',KB',hD'⟩:=h';have hall:∀ i,i<6->st i=st2 i:=fun i hi=>hal i ah;have el:∀ i,i<6->(st i).length=(st' i).length:=fun i hi=>by
   obtain⟨a1,_,a2,_⟩:=hD.sl hi;obtain⟨b1,_,b2,_⟩:=hD'.sl hi;rw[a1]at b1;rw[<-aa0 b1,a2,<-hall i hi]at b2;omega
  have ec:dY st'=dY st:=by
   unfold dY;rw[el 0 ah,el 1 ah,el 2 ah,el 3 ah,el 4 ah,el 5 ah]
  have h6:q6.i 61=dY st:=by rw[<-ec];simpa using hv
  refine rt (Or.inl ⟨?_,hall⟩);rw[gn,ak,ak,g6.i 60,h5,h6]
def Rb {a b:Int} (hb:0<=b) (h:Value.pointer (az a b)=.pointer (some ⟨r,0,none⟩)):a=r/\b=0 :=
 oQ (x:=(r:Int)) (y:=0) ah (aap 0) hb ((Value.pointer.inj h).trans (by rw[au ah];rfl))
def bZ.uniq (h:bZ H p dp S st) (h':bZ H p dp' S' st'):dp=dp'/\S=S'/\∀ i,i<6->st i=st' i:=by
 obtain⟨r,ps,x,HS,HI,hp,h⟩:=h;obtain⟨r',ps',x',HS',HI',hp',h'⟩:=h';obtain⟨l1,l2,l3⟩:=pO h.d1 h.d2 h.d3;rw[<-h.hl]at l1 l2 l3;obtain⟨m1,m2,m3⟩:=pO h'.d1 h'.d2 h'.d3;rw[<-h'.hl]at m1 m2 m3;rw[hp]at hp';obtain rfl:r=r':=by simpa using hp'
 have e1:=l1 _ _ (Hl.aT _ _);have e2:=m1 _ _ (Hl.aT _ _);rw[e1]at e2;obtain⟨rfl,rfl⟩:ps=ps'/\x=x':=by simpa using e2
 obtain⟨a,b⟩:=(h.so.rd.mono l2).uniq (h'.so.rd.mono m2);exact⟨a,b,fun i hi=>(h.ix.rd.mono l3).st (h'.ix.rd.mono m3) hi⟩
def bZ.congr (h:bZ H p dp S st) (e:∀ i,i<6->st i=st' i):bZ H p dp S st':=by
 obtain⟨r,ps,x,HS,HI,hp,h⟩:=h;exact⟨r,ps,x,HS,HI,hp,h.so,h.ix.congr e,h.d1,h.d2,h.d3,h.hl⟩
def OL (e:∀ i,i<6->st i=st' i) (c:Pc):(bN D S st c).e=(bN D S st' c).e/\(bN D S st c).D=(bN D S st' c).D/\(bN D S st c).S=(bN D S st' c).S/\∀ i,i<6->(bN D S st c).st i=(bN D S st' c).st i:=by
 unfold bN;rw[nF e c];split
 .exact⟨rfl,rfl,rfl,e⟩
 .split
  .exact⟨rfl,rfl,rfl,e⟩
  .exact⟨rfl,rfl,rfl,fun i hi=>tO e c hi⟩
def vj {HD:Hl} {c:Pc} (hR:bZ H p dp S st) (hD:aE HD dp D) (hx:fP T B row c) {K1 K2:Hl} (h:(zV rt).post [p,.agg row.toArray] [H,HD] [T,B,RG] v [K1,K2] F) :
 bZ K1 p dp (bN D S st c).S (bN D S st c).st/\aE K2 dp (bN D S st c).D/\v=.int .i64 (bN D S st c).e:=by
 obtain⟨p',H',HD',row',T',B',RG',dp',S',D',st',c',L1,L2,e1,e2,e3,r1,d1,x1,e4,r2,d2,hv⟩:=h;simp only[aag,aat,Value.agg.injEq]at e1 e2 e3 e4;obtain⟨rfl,e1⟩:=e1;obtain⟨rfl,rfl⟩:=e2;obtain⟨rfl,rfl,rfl⟩:=e3;obtain⟨rfl,rfl⟩:=e4;have e1:=aaG e1;subst e1;obtain rfl:=hx.uniq x1;obtain⟨rfl,rfl,est⟩:=hR.uniq r1;obtain rfl:=hD.uniq d1;obtain⟨f1,f2,f3,f4⟩:=OL (D:=D) (S:=S) est c;rw[f1,f2,f3];exact⟨r2.congr fun i hi=>(f4 i hi).symm,d2,hv⟩
def iT.uniq (hd:U.bP T) (h:iT U T x st) (h':iT U T x st'):∀ i,i<6->st i=st' i:=by
 obtain⟨sv,KB,h⟩:=h;obtain⟨sv',KB',h'⟩:=h';have lU:U.le (T.un U):=Hl.bC (Hl.iZ hd);intro i hi;have e:=(h.sl hi).1;rw[(h'.sl hi).1]at e;have e:=aa0 e;obtain⟨rows,h1,h2,h3⟩:=h.row i hi;obtain⟨rows',h1',h2',h3'⟩:=h'.row i hi;rw[e]at h1';obtain rfl:=h1.rd.uniq h1'.rd;apply abS ah;intro j j1 j2;have hr:rows[j]?=some rows[j]:=aab ah;exact((h3 j _ _ hr (aab j1)).2 (T.un U) (Hl.bh _ _) fun b o hb=>lU b o (h.kb b o hb)).uniq ((h3' j _ _ hr (aab j2)).2 (T.un U) (Hl.bh _ _) fun b o hb=>lU b o (h'.kb b o hb))
def iT.congr (h:iT U T x st) (e:∀ i,i<6->st i=st' i):iT U T x st':=by
 obtain⟨sv,KB,h⟩:=h;exact⟨sv,KB,h.bd,fun i hi=>by rw[<-e i hi];exact h.row i hi,h.kb,h.kbx,h.own,fun i hi=>by rw[<-e i hi];exact h.form i hi⟩
def iT.mono {H':Hl} (hl:H.le H') (h:iT H T x st):iT H' T x st:=by
 obtain⟨sv,KB,h⟩:=h;exact⟨sv,KB,h.mono hl⟩
def Mg {p:Pc} (hd:H.bP B) (hI:iT H T x st) (hx:DZ T B row p) (h:(Nl (BU rt)).post [.pointer (some ⟨x,0,none⟩),.agg row.toArray] [H.un B] [T,RG] v [K] F) :
 v=.int .i64 (bo st p)/\iT K T x (cR st p)/\DZ T K row p:=by
 obtain⟨⟨x',H',B',row',T',RG',st',p',K',e1,e2,e3,d1,i1,x1,e4,hv,i2,hl⟩,hdis⟩:=h;simp only[aag,aat,Value.pointer.injEq,aai,Addr.mk.injEq,Value.agg.injEq]at e1 e2 e3 e4;obtain⟨rfl,e1⟩:=e1;obtain⟨rfl,rfl⟩:=e3;have e1:=aaG e1;subst e1 e4;have hd2:(H.un B).bP T:=hdis _ aF _ aF;have u1:=i1.mono (Hl.bh H' B');rw[<-e2]at u1;have est:=(hI.mono (Hl.bh H B)).uniq hd2 u1;have lU:(H.un B).le (T.un (H.un B)):=Hl.bC (Hl.iZ hd2);have y1:=(x1.mono (Hl.bC d1)).2 (T.un (H.un B)) (Hl.bh _ _) (by rw[<-e2];exact lU);obtain rfl:=((hx.mono (Hl.bC hd)).2 (T.un (H.un B)) (Hl.bh _ _) lU).uniq y1;refine⟨by rw[nF est p];exact hv,i2.congr fun i hi=>(tO est p hi).symm,x1.mono hl.1⟩
def Mf {p:Pc} (hd:H.bP B) (hI:iT H T x st) (hx:DZ T B row p) (h:(Nl (BU rt)).post [.pointer (some ⟨x,0,none⟩),.agg row.toArray] [H.un B] [T,RG] v [K] F)
 {o:Obj} (ho:(H.un B) x=some o) {y:Nat} (hy:y=x\/¬K.mem y) {G:Hl} (h1:G y=some o) (h2:∀ b,b≠x->K.mem b->G b=K b):iT G T y st/\DZ T G row p:=by
 obtain⟨⟨x',H',B',row',T',RG',st',p',K',e1,e2,e3,d1,i1,x1,e4,hv,i2,hl,hb⟩,hdis⟩:=h;simp only[aag,aat,Value.pointer.injEq,aai,Addr.mk.injEq,Value.agg.injEq]at e1 e2 e3 e4;obtain⟨rfl,e1⟩:=e1;obtain⟨rfl,rfl⟩:=e3;have e1:=aaG e1;subst e1 e4;have hd2:(H.un B).bP T:=hdis _ aF _ aF;have u1:=i1.mono (Hl.bh H' B');rw[<-e2]at u1;have est:=(hI.mono (Hl.bh H B)).uniq hd2 u1;have lU:(H.un B).le (T.un (H.un B)):=Hl.bC (Hl.iZ hd2);have y1:=(x1.mono (Hl.bC d1)).2 (T.un (H.un B)) (Hl.bh _ _) (by rw[<-e2];exact lU);obtain rfl:=((hx.mono (Hl.bC hd)).2 (T.un (H.un B)) (Hl.bh _ _) lU).uniq y1;obtain⟨sv,KB,hD⟩:=id i1;have ho':H' x=some o:=by
  have:=Hl.bh H' B' _ _ hD.bd;rw[<-e2,ho]at this;rw[hD.bd,this]
 refine⟨(hb o y ho' hy G h1 h2).congr fun i hi=>(est i hi).symm,x1.mono fun b c hc=>?_⟩;rw[h2 b (fun e=>d1 b ⟨by rw[e];exact Hl.mem_of hD.bd,Hl.mem_of hc⟩) (Hl.mem_of (hl b c hc))];exact hl b c hc
end Go.Proofs.YtomdimlnggpgbaaGreatDoor
namespace Go.Proofs.YtomdimlnggpgbaaGreatDoor
open Go Go.Sx Go.Pk
variable {h:Hd}{R:Hl}{w:Int}{b l lY sum:List Int}{row:List Value}{n:Nat}
def MN (c:List Value) (w:Int) (n k:Nat):Value:=.int .u64 (if w-1=k then(n:Int)else cI c (54+k))
def lI (c:List Value) (w:Int) (n:Nat) (lY:List Int):List Value:=([.int .i64 w,.int .u64 ((n:Int)+1)]++aM lY)++(c.drop 34).take 20
def qj (c:List Value) (w:Int) (n:Nat) (sum:List Int):List Value:=[MN c w n 0,MN c w n 1,MN c w n 2,MN c w n 3,MN c w n 4,MN c w n 5]++(aM sum++(.int .i64 80::(c.drop 93).take 32))
def fW (c:List Value) (w:Int) (n:Nat) (lY sum:List Int):List Value:=lI c w n lY++qj c w n sum
def fm (n:Nat) (b:List Int):List Int:=List.replicate 80 (match b with | []=>((n%256:Nat):Int) | z::_=>z)
noncomputable def ke (hs:List Hd) (w:Int) (p:Pc):Pc:=⟨⟨fW p.h.c w hs.length (jr hs) (gC (fm hs.length p.b)),p.h.t⟩,fm hs.length p.b⟩
def gX:∀ {a b:List Value} {ka kb:List Kd},bg a ka->bg b kb->bg (a++b) (ka++kb)
 | [],b,[],kb,_,h=>h
 | v::a,b,k::ka,kb,h,h2=>⟨h.1,gX h.2 h2⟩
def qo:∀ {n:Nat} {l:List Value} {ks:List Kd},bg l ks->bg (l.drop n) (ks.drop n)
 | 0,_,_,h=>h
 | n+1,[],[],h=>h
 | n+1,v::l,k::ks,h=>qo (n:=n) h.2
def Mz (hs:List Hd):∀ z∈jr hs,0<=z/\z<256:=by
 unfold jr;split
 .intro z hz;rw[acA hz];omega
 .exact BY _
def Kb (h:∀ z∈l,0<=z/\z<256):∀ v∈aM l,xl v:=by
 intro v hv;obtain⟨z,hz,rfl⟩:=aaQ.1 hv;exact h z hz
def Io (hx:bM R row h) (ht:lY.length=32):([.int .i64 w,.int .u64 ((n:Int)+1)]++aM lY:List Value).length=34/\(lI row w n lY).length=54:=by
 have hl:row.length=125:=fE hx.ok;have h1:([.int .i64 w,.int .u64 ((n:Int)+1)]++aM lY:List Value).length=34:=by rw[aac,bX,ht];rfl
 refine⟨h1,?_⟩;unfold lI;rw[aac,h1,aaA,aaK];omega
def O4 (hx:bM R row h) (hw:1<=w/\w<=6) (hn:n<=100000) (ht:lY.length=32) (hs:sum.length=32) (bt:∀ z∈lY,0<=z/\z<256) (bs:∀ z∈sum,0<=z/\z<256) :
 bM R (fW row w n lY sum) ⟨fW h.c w n lY sum,h.t⟩:=by
 have hl:row.length=125:=fE hx.ok;obtain⟨l34,l54⟩:=Io hx (w:=w) (n:=n) ht;have hk:∀ k:Nat,k<6->MN h.c w n k=MN row w n k:=fun k hk=>by
  unfold MN;rw[hx.I ah]
 have hz:qj h.c w n sum=qj row w n sum:=by
  unfold qj;rw[hk 0 ah,hk 1 ah,hk 2 ah,hk 3 ah,hk 4 ah,hk 5 ah,hx.core,List.drop_set_of_lt ah]
 have ha:lI h.c w n lY=(lI row w n lY).set 53 (.bool false):=by
  unfold lI;rw[acQ _ _ (by rw[l34];omega),l34,hx.core,List.drop_set,aan ah,<-List.take_set]
 have hg53:(fW row w n lY sum).getD 53 (.bool false)=row.getD 53 (.bool false):=by
  unfold fW;rw[aak,aak,aaH ah];unfold lI;rw[aau (by rw[l34];omega),l34,aaX,aav ah,aaV]
 refine⟨?_,?_,?_,?_,hx.byte⟩
 .have e:ef=(([Kd.int .i64,.int .u64]++List.replicate 32 (.int .u8))++(ef.drop 34).take 20)++(List.replicate 6 (.int .u64)++(List.replicate 32 (.int .u8)++(.int .i64::(ef.drop 93).take 32))):=rfl;rw[e];unfold fW lI qj;exact gX (gX (gX ⟨rfl,rfl,zzT⟩ (DL 32 lY ht)) (jy (qo hx.ok))) (gX ⟨rfl,rfl,rfl,rfl,rfl,rfl,zzT⟩ (gX (DL 32 sum hs) ⟨rfl,jy (qo hx.ok)⟩))
 .intro v hv;have hk:∀ k:Nat,k<6->xl (MN row w n k):=fun k hk=>by
   unfold MN;split
   .exact⟨ah,ah⟩
   .have hkk:ef[54+k]?=some (.int .u64):=by
     have:k=0\/k=1\/k=2\/k=3\/k=4\/k=5:=ah;rcases this with rfl | rfl | rfl | rfl | rfl | rfl<;>rfl
    exact hx.rng _ (aae (uo hx.ok hkk))
  unfold fW lI qj at hv;simp only[aaR,aar,aaB,abe]at hv;rcases hv with (((rfl | rfl) | hv) | hv) | ((rfl | rfl | rfl | rfl | rfl | rfl) | hv | rfl | hv)
  .show kq w;unfold kq;omega
  .exact⟨ah,ah⟩
  .exact Kb bt v hv
  .exact hx.rng v (abU (abH hv))
  .exact hk 0 ah
  .exact hk 1 ah
  .exact hk 2 ah
  .exact hk 3 ah
  .exact hk 4 ah
  .exact hk 5 ah
  .exact Kb bs v hv
  .show kq 80;unfold kq;omega
  .exact hx.rng v (abU (abH hv))
 .show fW h.c w n lY sum=_;unfold fW;rw[List.set_append_left _ _ ah,ha,hz]
 .rw[hg53];exact hx.tok
def Dp (n:Nat) (hb:ar b):(fm n b).length=80/\ar (fm n b):=by
 refine⟨aa8,fun z hz=>?_⟩;have:=acA hz;cases b with
 | nil=>simp at this;omega
 | cons y b=>simp at this;rw[this];exact hb y (aaJ ..)
end Go.Proofs.YtomdimlnggpgbaaGreatDoor
