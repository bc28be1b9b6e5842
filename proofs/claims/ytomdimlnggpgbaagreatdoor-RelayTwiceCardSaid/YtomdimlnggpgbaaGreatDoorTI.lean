/- RelayTwice. -/
import Derived.Test.YtomdimlnggpgbaaGreatDoorTH
set_option linter.all false
set_option maxHeartbeats 4000000
namespace Go.Sx
open Go
theorem Hl.mem_of {H:Hl} {b:Nat} {o:Obj} (h:H b=some o):H.mem b:=by unfold Hl.mem;rw[h];rfl
theorem Hl.qs {H:Hl} {x y b:Nat} {vs:List Value} (h:b≠x):H.put x y vs b=H b:=by
 unfold Hl.put;rw[Zo h]
theorem Hl.qq {H:Hl} {x y:Nat} {vs:List Value} {c:Array Value} {T:TypeId} {fr:Nat×Nat} (h:H x=some (.cells c T fr)):H.put x y vs x=some (.cells (cf c.toList y vs).toArray T fr):=by
 unfold Hl.put;rw[ZA rfl,h]
theorem Hl.wC {A H:Hl} {x y:Nat} {vs:List Value} (h:A.le H) (hx:¬A.mem x):A.le (H.put x y vs):=fun b o hb=>by
 rw[Hl.qs fun e=>hx (by rw[<-e];exact Hl.mem_of hb)];exact h b o hb
theorem bE.at {F G:Hl} {e:TypeId} {k:Nat} {v:Value} {n:Nat} {us:List Value} (h:bE F e k v n us) (hk:∀ b,v.ownBlock=some b->G b=F b):bE G e k v n us:=by
 refine⟨h.1,h.2.imp id fun⟨g,cap,cur,hv,hg,r⟩=>⟨g,cap,cur,hv,?_,r⟩⟩;rw[hk g (by rw[hv];rfl)];exact hg
theorem bE.type {F:Hl} {e:TypeId} {k:Nat} {v:Value} {n:Nat} {us:List Value} (h:bE F e k v n us) {b:Nat} (hb:v.ownBlock=some b):∃ c,F b=some (.cells c e (0,0)):=by
 rcases h.2 with ⟨h,_⟩ | ⟨g,cap,cur,h,hg,_⟩
 .rw[h]at hb;cases hb
 .rw[h]at hb;have:g=b:=by simpa [Value.ownBlock] using hb
  subst this;exact⟨_,hg⟩
theorem AI (A B:Hl):dC [A,B]=A.un B:=by
 show A.un (B.un Hl.none)=_;rw[Hl.kP]
theorem Ba {x:Int} {n c b:Nat} (h:(Value.slice (aA x 0) n c).ownBlock=some b) (hx:-1<=x):x=b:=by
 rcases aal x 0 with hlt | h0
 .rw[show x= -1 by omega,fa]at h;cases h
 .rw[au h0]at h;have:x.toNat=b:=by simpa [Value.ownBlock] using h
  omega
end Go.Sx
namespace Go.Proofs.YtomdimlnggpgbaaGreatDoor
open Go Go.Sx Go.Pk
def IK (w:Int) (v:Value) (ko:List Int):List Value:=[.int .i64 w,v]++bK ko
theorem NF (w:Int) (v u:Value) (ko t:List Int) (h1:ko.length=32) (h2:t.length=32):cf (cf (IK w v ko) 1 [u]) 2 (bK t)=IK w u t:=by
 have e:cf (IK w v ko) 1 [u]=.int .i64 w::u::bK ko:=by simp [cf,IK]
 rw[e];unfold cf IK;rw[cP,h2];simp [abZ,cP,h1]
theorem vn {K G:Hl} {a:Nat} {w x:Int} {c:Nat} {hs:List Hd} {rows:List (List Value)} {ko:List Int}
 (hK:K a=some (.cells (IK w (.slice (aA x 0) hs.length c) ko).toArray 237 (0,0))) (hO:uw K 65 dQ (.slice (aA x 0) hs.length c) rows)
 (hk:∀ b,K.mem b->some b≠(Value.slice (aA x 0) hs.length c).ownBlock->G b=K b):G a=some (.cells (IK w (.slice (aA x 0) hs.length c) ko).toArray 237 (0,0)):=by
 have ea:some a≠(Value.slice (aA x 0) hs.length c).ownBlock:=fun e=>by
  obtain⟨cc,hc⟩:=hO.2.type e.symm;rw[hK]at hc;simp at hc
 rw[hk a (Hl.mem_of hK) ea,hK]
theorem jk {H:Hl} {a y n:Nat} {l:List Value} {T:TypeId} (h:H a=some (.cells l.toArray T (0,0))) (hl:y+n<=l.length):H.wr a y n=true:=by
 unfold Hl.wr;rw[h];simp [hl]
theorem IL {K B G:Hl} {a:Nat} {w x x1:Int} {c n1 c1:Nat} {hs:List Hd} {rows:List (List Value)} {KT:Hl} {row:List Value} {h:Hd} {ko:List Int}
 (hK:K a=some (.cells (IK w (.slice (aA x 0) hs.length c) ko).toArray 237 (0,0))) (hO:uw K 65 dQ (.slice (aA x 0) hs.length c) rows)
 (hT:KT.le K) (hA:fu KT rows hs) (hna:¬KT.mem a) (hnx:∀ b:Nat,x=b->¬KT.mem b) (hx:-1<=x) (htip:ko.length=32) (hI:cN B row h) (hx1:-1<=x1)
 (happ:∀ xs,bE K 65 dQ.length (.slice (aA x 0) hs.length c) hs.length xs->bE G 65 dQ.length (.slice (aA x1 0) n1 c1) (hs.length+1) (xs++row)) (hn1:n1=hs.length+1)
 (hk:∀ b,K.mem b->some b≠(Value.slice (aA x 0) hs.length c).ownBlock->G b=K b)
 (hnew:some x1.toNat=(Value.slice (aA x 0) hs.length c).ownBlock\/¬K.mem x1.toNat\/x1= -1)
 (hGB:(((G.put a 1 [.slice (aA x1 0) n1 c1]).put a 2 (bK (lU h)))).cG B) :
 gJ (((G.put a 1 [.slice (aA x1 0) n1 c1]).put a 2 (bK (lU h))).un B) a w (hs++[h]):=by
 subst hn1;have hG:=vn hK hO hk;have hl:rows.length=hs.length:=hA.1;have hOG:=happ rows.flatten (by have:=hO.2;rw[hl]at this;exact this);have ha1:∀ b,(Value.slice (aA x1 0) (hs.length+1) c1).ownBlock=some b->b≠a:=fun b hb e=>by
  subst e;obtain⟨cc,hc⟩:=hOG.type hb;rw[hG]at hc;simp at hc
 have hOF:uw ((G.put a 1 [.slice (aA x1 0) (hs.length+1) c1]).put a 2 (bK (lU h))) 65 dQ (.slice (aA x1 0) (hs.length+1) c1) (rows++[row]):=by
  have:=uw.snoc (rows:=rows) hO.1 hI.ok hOG (by rw[hl]) rfl;refine⟨this.1,this.2.at fun b hb=>?_⟩;rw[Hl.qs (ha1 b hb),Hl.qs (ha1 b hb)]
 have hKT:KT.le ((G.put a 1 [.slice (aA x1 0) (hs.length+1) c1]).put a 2 (bK (lU h))):=by
  refine Hl.wC (Hl.wC (fun b o hb=>?_) hna) hna;rw[hk b (Hl.dU hT (Hl.mem_of hb)) fun e=>hnx b (Ba e.symm hx) (Hl.mem_of hb)];exact hT b o hb
 have hF:((G.put a 1 [.slice (aA x1 0) (hs.length+1) c1]).put a 2 (bK (lU h))) a=some (.cells (IK w (.slice (aA x1 0) (hs.length+1) c1) (lU h)).toArray 237 (0,0)):=by
  rw[Hl.qq (Hl.qq hG)];simp only[abj];rw[NF _ _ _ _ _ htip (show(lU h).length=32 from fE _)]
 generalize (G.put a 1 [.slice (aA x1 0) (hs.length+1) c1]).put a 2 (bK (lU h))=G2 at *;have hAll:fu (KT.un B) (rows++[row]) (hs++[h]):=(hA.mono (Hl.cC _ _)).snoc (hI.mono (Hl.cD fun b ⟨y,z⟩=>hGB b ⟨Hl.dU hKT y,z⟩));have hle:(KT.un B).le (G2.un B):=fun b o hb=>by
  unfold Hl.un at hb ⊢;cases hq:KT b with
  | some o'=>rw[hq]at hb;cases hb;rw[hKT _ _ hq];rfl
  | none =>
   rw[hq]at hb;have hb:B b=some o:=hb;cases hg:G2 b with
   | none=>exact hb
   | some o2=>exact absurd ⟨Hl.mem_of hg,Hl.mem_of hb⟩ (hGB b)
 refine⟨x1,c1,rows++[row],?_,?_,hAll.mono hle,hx1,KT.un B,hle,hAll,fun hm=>?_,fun b hb hm=>?_⟩
 .rw[Hl.cC G2 B _ _ hF,Y9];have:iE (hs++[h])=lU h:=by unfold iE;rw[List.getLast?_append];rfl
  rw[this];rfl
 .rw[Y9];exact⟨hOF.1,bE.mono (Hl.cC _ _) hOF.2⟩
 .rcases Hl.dN.1 hm with h1 | h1
  .exact hna h1
  .exact hGB a ⟨Hl.mem_of hF,h1⟩
 .have hob:(Value.slice (aA x1 0) (hs.length+1) c1).ownBlock=some b:=by
   rw[au (by omega)];show some x1.toNat=_;rw[hb,Y7]
  rcases Hl.dN.1 hm with h1 | h1
  .have hkm:=Hl.dU hT h1;rcases hnew with h2 | h2 | h2
   .rw[hb,Y7]at h2;exact hnx b (Ba h2.symm hx) h1
   .rw[hb,Y7]at h2;exact h2 hkm
   .omega
  .obtain⟨cc,hc⟩:=hOF.2.type hob;exact hGB b ⟨Hl.mem_of hc,h1⟩
noncomputable def Ca:Sx.Spec where
 fn:=137
 own:=[.arg 0]
 rd:=[10153,2000005]
 res:=[.one (.int .i64)]
 pre:=fun xs Hs Rs=>∃ a K w hs row T RG h,xs=[.pointer (some ⟨a,0,none⟩),.agg row.toArray]/\Hs=[K]/\Rs=[T,RG]/\gJ K a w hs/\hs.length<1000000/\cN T row h/\uz RG 5
 post:=fun xs Hs Rs v Hs' F=>∃ a K w hs row T RG h K',xs=[.pointer (some ⟨a,0,none⟩),.agg row.toArray]/\Hs=[K]/\Rs=[T,RG]/\gJ K a w hs/\cN T row h/\Hs'=[K']/\v=.int .i64 (fU w hs h)/\(fU w hs h=0->gJ K' a w (hs++[h]))/\(fU w hs h≠0->gJ K' a w hs)
def Ew:Nd:=(fun i f l k j=>(fun m b d g h=>(fun a c=>(.ext (.alloc 132) (.and (.pre b) (.ext b (.and (.imp (.not (.eq (.var 133) k)) (.post [.hp 129 [] [.var 0] [],.ro 130 l true,.ro 131 [.lit 5] false,.dead] (.sv (.one (.int .i64 (.var 133)))))) (.imp (.eq (.var 133) k) (.and (.e (.le k f)) (.and (.e (.his 129 f i 0 .slice)) (.and (.pre h) (.ext h (.ext (.alloc 262) (.and (.pre a) (.ext a (.and (.pre c) (.ext c (.and (.pre d) (.ext d (.and (.pre g) (.ext g (.post [.hp 298 [265,263,129] [.var 263,.var 0] [],.ro 130 l true,.ro 131 [.lit 5] false,.dead,.hp 134 [] [.var 187] [],.dead] (.sv (.one (.int .i64 k))))))))))))))))))))):Nd)) (.app 263 65 125 232 (.sl (.hP 129 f i 0 0) (.hP 129 f i 0 1) m (.hP 129 f i 0 3)) m (.hp 129 [] [.var 0] []) (.cvs (al 134 cX) 1)) (.put 265 263 f i [.sl (.var 263) k (.add m i) (.var 264)])) (.hP 129 f i 0 2) (.call 0 133 [.sv (.one (.hptr f k)),.sv j] [] [.hp 129 [] [.var 0] [],.ro 130 l true]) (.call 2 266 [.sv j] [] [.ro 130 l true,.ro 131 [.lit 5] false]) (.put 298 265 f (.lit 2) (al 266 (List.replicate 32 (Ck.int .u8)))) (.call 1 134 [.sv j] [] [.ro 130 l true])) (.lit 1) (.var 0) [.var 54] (.lit 0) (.agg (al 1 cX))
noncomputable def Qk:List Sx.Spec:=[qO,ED,SN]
theorem Ql:∀ t∈Qk,t.OK Tryz.prog:=fun t ht=>by
 simp only[Qk,Zl,Zq,ZO]at ht;rcases ht with rfl | rfl | rfl
 .exact Cd
 .exact G0
 .exact Qw
theorem UM:Qk[0]?=some qO:=rfl
theorem UN:Qk[1]?=some ED:=rfl
theorem UO:Qk[2]?=some SN:=rfl
theorem UP:qO.res=[.one (.int .i64)]:=rfl
theorem UQ:SN.res=[.agg (List.replicate 32 (Ck.int .u8))]:=rfl
noncomputable def Cb:bU Tryz.prog Qk Ca.fn where
 Λ:=aM
 args:=TP (.var 0) (.lit 0)::(bf 1 [.agg cX]).map .sv
 mem:=[.hp 129 [] [.var 0] [],.ro 130 [.var 54] true,.ro 131 [.lit 5] false]
 nv:=132
 nd:=Ew
 ok:=by kernel_rfl
theorem Lh {A B C:Hl} {a:Int} {row:List Value} (h:bS row dQ):∃ q:Env,q.i 0=a/\row=lV q 1/\q.h 129=A/\q.h 130=B/\q.h 131=C:=by
 obtain⟨q,g,hn,e⟩:=dI cX 1 row ⟨fun _=>a,fun _=>false,fun _=>.empty,fun _=>.tuple #[],fun _=>Hl.none⟩ h;exact⟨⟨q.i,q.b,q.s,q.v,fun k=>if k=129 then A else if k=130 then B else if k=131 then C else Hl.none⟩,g.i 0,e.symm,rfl,rfl,rfl⟩
set_option maxRecDepth 20000 in
theorem KI:Ca.OK Tryz.prog:=by
 refine Spec.bJ (Γ:=Qk) Ql ?_;rintro xs Hs Rs hl1 hl2 ⟨a,K,w,hs,row,T,RG,h,rfl,rfl,rfl,hc,hlen,hx,hKat⟩;obtain⟨ρ,va,rfl,w1,w2,w3⟩:=Lh (A:=K) (B:=T) (C:=RG) (a:=(a:Int)) hx.ok;refine⟨Cb,ρ,fun _ _=>True,fun _ _=>0,?_,⟨?_,?_,?_,?_⟩,(fun _ h=>nomatch h),?_⟩
 .show [Value.pointer (aA (ρ.i 0) 0),.agg (lV ρ 1).toArray]=_;rw[va,au (by omega)];rfl
 .intro r hr ho;simp [Cb]at hr;rcases hr with rfl | rfl | rfl
  .exact⟨K,by simp,by show(ρ.h 129).le K;rw[w1];exact Hl.le_refl _⟩
  .cases ho
  .cases ho
 .intro r hr ho;simp [Cb]at hr;rcases hr with rfl | rfl | rfl
  .cases ho
  .exact⟨T,by simp,by show(ρ.h 130).le T;rw[w2];exact Hl.le_refl _⟩
  .exact⟨RG,by simp,by show(ρ.h 131).le RG;rw[w3];exact Hl.le_refl _⟩
 .simp [Cb,bx.own]
 .intro r hr;simp [Cb]at hr;rcases hr with rfl | rfl | rfl<;>trivial
 .show Nd.holds _ _ _ Ew;unfold Ew;simp only[Nd.holds,X.pre,X.rel,X.n,Src.ok,Src.len,Src.bG,Zy,Zm,ZG,Zx,Zp,Nat.reduceAdd,Zd,Zh,bn,bj,aJ,aU,aR,bm,aZ,bh,bg,bd,aV,ba,bk,aX,aW,aK,aY,ai,aj,aB,aF,aD,ar,aG,aQ,aP,aq,aI,az,aH,av,TV.ev,SV.ev,CV.ev,Zf,Zr,bx.hl,cu,Cp.sv,Ck.cv,bf,Cp.len,Ck.len,aE,aN,aT,UM,UN,UO,UP,SF,UQ,SE];obtain⟨x,c,rows,hK,hO,hA,hx',KT,hT,hAT,hna,hnx⟩:=id hc;have hK:K a=some (.cells (IK w (.slice (aA x 0) hs.length c) (iE hs)).toArray 237 (0,0)):=hK;have hlr:rows.length=hs.length:=hA.1;have c1:K.cell ((a:Int)).toNat (Int.toNat 1)=some (.slice (aA x 0) hs.length c):=by rw[Y7];simp [Hl.cell,hK,IK]
  have V:∀ q:Env,ah 132 ρ q->q.i 0=a/\q.h 129=K/\q.h 130=T/\q.h 131=RG/\(al 1 cX).map (CV.ev q)=lV ρ 1:=fun q g =>
   ⟨by rw[g.i 0,va],by rw[g.h 129,w1],by rw[g.h 130,w2],by rw[g.h 131,w3],ZW Array.toList (Value.agg.inj (fQ (ks:=cX) (n:=1) g (by decide)))⟩
  have ep:Value.pointer (aA (a:Int) 0)=.pointer (some ⟨a,0,none⟩):=by rw[au (by omega)];rfl
  have esl:Value.slice (aA (bM (some (Value.slice (aA x 0) hs.length c)) 0) (bM (some (Value.slice (aA x 0) hs.length c)) 1)) (bM (some (Value.slice (aA x 0) hs.length c)) 2).toNat (bM (some (Value.slice (aA x 0) hs.length c)) 3).toNat=.slice (aA x 0) hs.length c:=iB ⟨_,_,_,rfl⟩;have e2:bM (some (Value.slice (aA x 0) hs.length c)) 2=hs.length:=RJ hx' _ _;intro q1 g1 p1;obtain⟨v0,x1,x2,x3,xr⟩:=V q1 g1;rw[v0,x1,x2,xr,ep];refine⟨⟨a,K,w,hs,_,T,h,rfl,rfl,⟨K,Hl.le_refl _,hc⟩,hlen,hx⟩,fun q2 g2 ⟨F2,⟨a',R',w',hs',row',T',h',f1,f2,c2,i2,hv⟩,_⟩=>?_⟩;simp only[Ze,Zm,Value.pointer.injEq,Zj,Addr.mk.injEq,Value.agg.injEq]at f1 f2;obtain⟨rfl,f1⟩:=f1;obtain⟨rfl,rfl⟩:=f2;have f1:=ZL f1;subst f1;obtain⟨rfl,rfl⟩:=c9.uniq ⟨K,Hl.le_refl _,hc⟩ c2;obtain rfl:=hx.uniq i2;have hask:q2.i 133=fU w hs h:=by simpa using hv
  have G2:ah 132 ρ q2:=g1.tr g2;obtain⟨y0,y1,y2,y3,yr⟩:=V q2 G2;refine⟨fun hne _=>?_,fun heq=>?_⟩
  .refine⟨[[0]],[],rfl,rfl,⟨⟨fun _=>q2.i 133,fun _=>false,fun _=>.empty,fun _=>.tuple #[],fun _=>Hl.none⟩,rfl,trivial,trivial⟩,a,K,w,hs,_,T,RG,h,_,rfl,rfl,rfl,hc,hx,rfl,by rw[<-hask];rfl,fun h0=>absurd (hask.trans h0) hne,fun _=>?_⟩;show gJ (dC [q2.h 129]) _ _ _;rw[bz,y1];exact hc
  have h0:fU w hs h=0:=hask.symm.trans heq;rw[y0,y1,y2,yr,c1];refine⟨by omega,rfl,⟨_,T,h,rfl,rfl,hx⟩,fun q3 g3 ⟨F3,hp3,hF3,hn3⟩ q4 g4 p4=>?_⟩;obtain⟨row',er,hI⟩:=hp3 _ _ _ rfl rfl hx;have er:=ZL (Value.agg.inj er);rw[<-hF3 trivial]at hI;have G4:ah 132 ρ q4:=G2.trans (g3.mono.tr g4);obtain⟨z0,z1,z2,z3,zr⟩:=V q4 G4;have rowB:(al 134 cX).map (CV.ev q4)=row':=(ZW Array.toList (Value.agg.inj (fQ (ks:=cX) (n:=134) g4 (by decide)))).trans er;rw[z0,z1,c1,esl,e2,rowB,Y7];refine⟨⟨⟨rows.flatten,by have:=hO.2;rw[hlr]at this;exact this⟩,by omega,by unfold maxLen;omega,by omega⟩,fun q5 g5 ⟨a1,a2,happ,hkp,_,hnw⟩=>?_⟩;have G5:ah 132 ρ q5:=G4.tr g5;obtain⟨u0,u1,u2,u3,ur⟩:=V q5 G5;have hG5:=vn hK hO hkp;have el1:((hs.length:Int)+1).toNat=hs.length+1:=by omega
  rw[u0,u1,c1,e2,el1,show((a:Int)).toNat=a from Y7 a];refine⟨⟨by omega,by omega,jk hG5 (by simp [IK])⟩,fun q6 g6 p6=>?_⟩;have G6:ah 132 ρ q6:=G5.tr g6;obtain⟨s0,s1,s2,s3,sr⟩:=V q6 G6;rw[s2,s3,sr];refine⟨⟨_,T,RG,h,rfl,rfl,hx,hKat⟩,fun q7 g7 ⟨F7,hp7,_⟩=>?_⟩;have hp7:=hp7 _ _ _ _ rfl rfl hx;have hp7:=ZL (Value.agg.inj hp7);have G7:ah 132 ρ q7:=G6.tr g7;obtain⟨k0,_⟩:=V q7 G7;rw[k0,hp7,g7.h 265,p6,show((a:Int)).toNat=a from Y7 a];refine⟨⟨by omega,by omega,jk (Hl.qq hG5) ?_⟩,fun q8 g8 p8=>?_⟩
  .show 2+32<=_;simp [IK,cf,cP,oF]
  intro hdis;have hGB:=hdis 0 4 _ _ (by decide) rfl rfl rfl;have h134:q8.h 134=q3.h 134:=by rw[g8.h 134,g7.h 134,g6.h 134,g5.h 134,g4.h 134]
  have hGB:(q8.h 298).cG (q8.h 134):=hGB;rw[p8,h134]at hGB;have key:=IL hK hO hT hAT hna hnx hx' (oF hs) hI a1 happ rfl hkp hnw hGB;refine⟨[[0,4]],[],rfl,rfl,⟨⟨fun _=>0,fun _=>false,fun _=>.empty,fun _=>.tuple #[],fun _=>Hl.none⟩,rfl,trivial,trivial⟩,a,K,w,hs,_,T,RG,h,_,rfl,rfl,rfl,hc,hx,rfl,by rw[h0];rfl,fun _=>?_,fun hne=>absurd h0 hne⟩;show gJ (dC [q8.h 298,q8.h 134]) _ _ _;rw[AI,p8,h134];exact key
theorem CZ {x y:Nat} (hx:x<18446744073709551616) (hy:y<18446744073709551616) {s t:List Int} (h:ak x++s=ak y++t):x=y/\s=t:=by
 have e1:=sM hx s;rw[h,sM hy t]at e1;simp only[Zj,Z0]at e1;obtain⟨e1,_⟩:=e1;subst e1;exact⟨rfl,List.append_cancel_left h⟩
theorem rX {a b:List Value} {i n:Nat} (h:bL a i n=bL b i n) {j:Nat} (hj:j<n):cI a (i+j)=cI b (i+j):=by
 have:=ZW (fun l=>l[j]?) h;unfold bL at this;simpa [Zs,ZI hj] using this
def E8:Option Kd->Bool
 | some (.int _)=>true
 | _=>false
theorem NZ:((List.range 125).all fun k=>k==53||k==35||E8 dQ[k]?)=true:=by kernel_rfl
theorem Lt {v:Value} {kd:IntKind} (h:bY (some v) (.int kd)=true):∃ z,v=.int kd z:=by
 cases v<;>simp [bY]at h
 subst h;exact⟨_,rfl⟩
theorem po {z:Int} (h0:0<=z) (h1:z<18446744073709551616):bX z=z.toNat:=by unfold bX;rw[IntKind.wrap_u64];omega
theorem SD {R R':Hl} {row row':List Value} {h h':Hd} (x:cN R row h) (y:cN R' row' h') (e:∀ k,k<125->k≠53->k≠35->cI h.c k=cI h'.c k) (e35:cB h.c 35=cB h'.c 35):h.c=h'.c:=by
 have l1:=fL x.ok;have l2:=fL y.ok;have hl:dQ.length=125:=rfl;rw[x.core,y.core];apply ZN;intro k;by_cases h53:k=53
 .subst h53;rw[aag (by omega),aag (by omega)]
 rw[aab (by omega),aab (by omega)];by_cases hk:k<125
 .by_cases h35:k=35
  .subst h35;obtain⟨v,hv,hi⟩:=ic x.ok (k:=35) (kd:=.bool) rfl;obtain⟨v',hv',hi'⟩:=ic y.ok (k:=35) (kd:=.bool) rfl;rw[x.B (by decide),y.B (by decide)]at e35;unfold cB at e35;rw[hv,hv']at e35 ⊢;cases v<;>simp [bY]at hi
   cases v'<;>simp [bY]at hi'
   simp only[yA]at e35;rw[e35]
  .have:=ZF.1 NZ k (ZQ.2 hk);simp only[h53,h35,abT,aat,false_or,decide_false]at this;have hkk:∃ kd,dQ[k]?=some (.int kd):=by
    cases hq:dQ[k]? with
    | none=>rw[hq]at this;simp [E8]at this
    | some d=>rw[hq]at this;cases d<;>simp [E8]at this;exact⟨_,rfl⟩
   obtain⟨kd,hkd'⟩:=hkk;obtain⟨v,hv,hi⟩:=ic x.ok hkd';obtain⟨v',hv',hi'⟩:=ic y.ok hkd';obtain⟨z,rfl⟩:=Lt hi;obtain⟨z',rfl⟩:=Lt hi';have ee:=e k hk h53 h35;rw[x.I h53,y.I h53]at ee;unfold cI at ee;rw[hv,hv']at ee ⊢;simp only[cW]at ee;rw[ee]
 .rw[Zv (by omega),Zv (by omega)]
theorem NV {R R':Hl} {row row':List Value} {h h':Hd} (x:cN R row h) (y:cN R' row' h') (hF:h.Form) (hF':h'.Form) (e:Kh h=Kh h'):h=h':=by
 obtain⟨⟨hw,hs,he,ht,hk,hkn,hp⟩,h8,hso,hpd,hct⟩:=id hF;obtain⟨⟨hw',hs',he',ht',hk',hkn',hp'⟩,h8',hso',hpd',hct'⟩:=id hF';have u:∀ {R:Hl} {row:List Value} {h:Hd} (hx:cN R row h) {k:Nat},dQ[k]?=some (.int .u64)->k≠53->0<=cI h.c k/\cI h.c k<18446744073709551616:=by
  intro R row h hx k hk h53;rw[hx.I h53];exact hx.rng _ (Zb (uS hx.ok hk))
 have hsz:=wx hpd;have hsz':=wx hpd';unfold Kh lI pI bP at e;rw[po (z:=cI h.c 0) (by omega) (by omega),po (z:=cI h.c 34) (by omega) (by omega),po (z:=cI h.c 92) (by omega) (by omega),
  po (z:=cI h'.c 0) (by omega) (by omega),po (z:=cI h'.c 34) (by omega) (by omega),po (z:=cI h'.c 92) (by omega) (by omega)]at e
 simp only[ZK]at e;have N:∀ {k:Nat},0<=cI h.c k/\cI h.c k<18446744073709551616->0<=cI h'.c k/\cI h'.c k<18446744073709551616->∀ {s t:List Int},ak (cI h.c k).toNat++s=ak (cI h'.c k).toNat++t->cI h.c k=cI h'.c k/\s=t:=by
  intro k a b s t e;obtain⟨e1,e2⟩:=CZ (by omega) (by omega) e;exact⟨by omega,e2⟩
 have S:∀ {a n:Nat} {s t:List Int},bL h.c a n++s=bL h'.c a n++t->bL h.c a n=bL h'.c a n/\s=t:=by
  intro a n s t e;exact aa9 e (by rw[bC,bC])
 obtain⟨e0,e⟩:=N (k:=0) (by omega) (by omega) e;obtain⟨e1,e⟩:=N (k:=1) (by omega) (by omega) e;obtain⟨e2,e⟩:=S e;obtain⟨e34,e⟩:=N (k:=34) (by omega) (by omega) e;obtain⟨e35,e⟩:=aa9 e rfl;obtain⟨e36,e⟩:=N (k:=36) (u x rfl (by decide)) (u y rfl (by decide)) e;obtain⟨e37,e⟩:=S e;obtain⟨eT,e⟩:=CZ (by omega) (by omega) e;have lT:∀ {T:List (List Int)},(∀ t∈T,t.length=16)->T.flatten.length=16*T.length:=by
  intro T
  induction T with
  | nil=>intro _;rfl
  | cons t T ih =>
   intro h;rw[aar,Y9,h t (ZJ ..),ih fun t ht=>h t (Zu _ ht),Zd];omega
 have l1:∀ t∈h.t,t.length=16:=fun t ht=>(x.byte.2 t ht).1;have l2:∀ t∈h'.t,t.length=16:=fun t ht=>(y.byte.2 t ht).1;obtain⟨et,e⟩:=aa9 e (by rw[lT l1,lT l2,eT]);obtain⟨e54,e⟩:=N (k:=54) (u x rfl (by decide)) (u y rfl (by decide)) e;obtain⟨e55,e⟩:=N (k:=55) (u x rfl (by decide)) (u y rfl (by decide)) e;obtain⟨e56,e⟩:=N (k:=56) (u x rfl (by decide)) (u y rfl (by decide)) e;obtain⟨e57,e⟩:=N (k:=57) (u x rfl (by decide)) (u y rfl (by decide)) e;obtain⟨e58,e⟩:=N (k:=58) (u x rfl (by decide)) (u y rfl (by decide)) e;obtain⟨e59,e⟩:=N (k:=59) (u x rfl (by decide)) (u y rfl (by decide)) e;obtain⟨e60,e⟩:=S e;obtain⟨e92,e⟩:=N (k:=92) (by omega) (by omega) e;have e93:=e;have hT:∀ {T T':List (List Int)},(∀ t∈T,t.length=16)->(∀ t∈T',t.length=16)->T.flatten=T'.flatten->T=T':=by
  intro T
  induction T with
  | nil =>
   intro T' _ h2 e;cases T' with
   | nil=>rfl
   | cons t T' =>
    have:=ZW List.length e;rw[aaR,aar,Y9,h2 t (ZJ ..),Zh]at this;omega
  | cons t T ih =>
   intro T' h1 h2 e;cases T' with
   | nil =>
    have:=ZW List.length e;rw[aaR,aar,Y9,h1 t (ZJ ..),Zh]at this;omega
   | cons t' T' =>
    rw[aar,aar]at e;obtain⟨a,b⟩:=aa9 e (by rw[h1 t (ZJ ..),h2 t' (ZJ ..)]);rw[a,ih (fun t ht=>h1 t (Zu _ ht)) (fun t ht=>h2 t (Zu _ ht)) b]
 have ec:=SD x y (fun k hk h53 h35=>by
  by_cases k1:k<2
  .have:k=0\/k=1:=by omega
   rcases this with rfl | rfl
   .exact e0
   .exact e1
  by_cases k2:k<34
  .have:=rX e2 (j:=k-2) (by omega);rwa[show 2+(k-2)=k by omega]at this
  by_cases k3:k<37
  .have:k=34\/k=36:=by omega
   rcases this with rfl | rfl
   .exact e34
   .exact e36
  by_cases k4:k<53
  .have:=rX e37 (j:=k-37) (by omega);rwa[show 37+(k-37)=k by omega]at this
  by_cases k5:k<60
  .have:k=54\/k=55\/k=56\/k=57\/k=58\/k=59:=by omega
   rcases this with rfl | rfl | rfl | rfl | rfl | rfl<;>assumption
  by_cases k6:k<92
  .have:=rX e60 (j:=k-60) (by omega);rwa[show 60+(k-60)=k by omega]at this
  by_cases k7:k=92
  .subst k7;exact e92
  .have:=rX e93 (j:=k-93) (by omega);rwa[show 93+(k-93)=k by omega]at this) (by
  unfold fh at e35;simp only[Ze,Zm]at e35;cases h1:cB h.c 35<;>cases h2:cB h'.c 35<;>simp [h1,h2]at e35 ⊢)
 have et':=hT l1 l2 et;cases h;cases h';exact congr (ZW Hd.mk ec) et'
theorem Al {R R':Hl} {row row':List Value} {h h':Hd} (x:cN R row h) (y:cN R' row' h') (hF:h.Form) (hF':h'.Form):cj h=cj h'↔h=h':=by
 refine⟨fun e=>?_,fun e=>by rw[e]⟩;unfold cj at e;rw[ZA hF,ZA hF']at e;exact NV x y hF hF' e
end Go.Proofs.YtomdimlnggpgbaaGreatDoor
namespace Go.Sx
open Go
end Go.Sx
namespace Go.Proofs.YtomdimlnggpgbaaGreatDoor
open Go Go.Sx Go.Pk
def iL:List Ck:=cX++[.sl]
def qo:List Kd:=iL.map jA
def ze:Value:=.bool false
structure Pc where
 h:Hd
 b:List Int
structure gm (R1 R2:Hl) (row:List Value) (p:Pc):Prop where
 ok:bS row qo
 hd:cN R1 (row.take 125) p.h
 body:fp R2 (row.getD 125 ze) p.b
 byte:aS p.b
 len:p.b.length<=1000000
theorem gm.mono {R1 R2 R1' R2':Hl} {row:List Value} {p:Pc} (x:gm R1 R2 row p) (h1:R1.le R1') (h2:R2.le R2'):gm R1' R2' row p:=⟨x.ok,x.hd.mono h1,gD x.body h2,x.byte,x.len⟩
theorem gm.uniq {R1 R2:Hl} {row:List Value} {p p':Pc} (x:gm R1 R2 row p) (y:gm R1 R2 row p'):p=p':=by
 obtain⟨h,b⟩:=p;obtain⟨h',b'⟩:=p';have e1:h=h':=x.hd.uniq y.hd;have e2:b=b':=x.body.uniq y.body;rw[e1,e2]
theorem NG {q:Env} (g:Nat->Hl):∀ (ks:List Ck) (n:Nat),(al n ks).map (CV.ev q)=(al n ks).map (CV.ev ⟨q.i,q.b,q.s,q.v,g⟩)
 | [],_=>rfl
 | k::ks,n=>by
  show(k.cv n).ev q::_=(k.cv n).ev _::_;rw[NG g ks]
  congr 1
  cases k<;>rfl
theorem Of {q:Env} (g:Nat->Hl):∀ (ks:List Ck) (n:Nat),ck n ks q->ck n ks ⟨q.i,q.b,q.s,q.v,g⟩
 | [],_,_=>trivial
 | k::ks,n,h=>⟨(by have h1:=h.1;cases k<;>exact h1),Of g ks _ h.2⟩
def yu (hs:List (Nat×Hl)) (k:Nat):Hl:=match hs.find? (fun p=>p.1==k)with
 | some p=>p.2
 | none=>Hl.none
theorem Bt {ks:List Ck} {row:List Value} (hs:List (Nat×Hl)) (h:bS row (ks.map jA)):∃ q:Env,row=(al 0 ks).map (CV.ev q)/\ck 0 ks q/\∀ k,q.h k=yu hs k:=by
 obtain⟨q,_,hn,e⟩:=dI ks 0 row ⟨fun _=>0,fun _=>false,fun _=>.empty,fun _=>.tuple #[],fun _=>Hl.none⟩ h;exact⟨⟨q.i,q.b,q.s,q.v,yu hs⟩,by rw[<-NG (yu hs)];exact e.symm,Of _ _ _ hn,fun _=>rfl⟩
theorem iM:∀ {n:Nat} {l:List Value} {ks:List Kd},bS l ks->bS (l.take n) (ks.take n)
 | 0,_,_,_=>trivial
 | _+1,[],[],_=>trivial
 | n+1,_::_,_::_,h=>⟨h.1,iM (n:=n) h.2⟩
 | _+1,[],_::_,h=>False.elim h
 | _+1,_::_,[],h=>False.elim h
theorem kN:qo.length=126:=by kernel_rfl
theorem xj:qo.take 125=dQ:=by kernel_rfl
theorem OJ {R:Hl} {u:Value} {b:List Int} (h:fp R u b):bM (some u) 2=b.length:=by
 obtain⟨x,y,c,rfl,_⟩:=h;simp [bM]
end Go.Proofs.YtomdimlnggpgbaaGreatDoor
namespace Go.Sx
open Go
section
variable {P:Program}
theorem Spec.Oj {s:Spec} (h:∀ xs Hs Rs,s.pre xs Hs Rs->({s with pre:=fun a b c=>a=xs/\b=Hs/\c=Rs} : Spec).OK P):s.OK P :=
 fun w xs Hs Rs l1 l2 s1 s2 d1 d2 hp=>h xs Hs Rs hp w xs Hs Rs l1 l2 s1 s2 d1 d2 ⟨rfl,rfl,rfl⟩
def AD (s:Spec) (K R:Hl):Spec where
 fn:=s.fn
 own:=s.own
 rd:=s.rd
 res:=s.res
 pre:=fun xs Hs Rs=>Hs=[K.un R]/\K.cG R/\s.pre xs [K] Rs
 post:=fun xs Hs Rs v Hs' F=>∃ K',Hs'=[K'.un R]/\K'.cG R/\F.cG R/\s.post xs [K] Rs v [K'] F
theorem IV {s:Spec} (h1:s.own.length=1) (hs:s.OK P) (K R:Hl):(AD s K R).OK P:=by
 intro w xs Hs Rs l1 l2 hsub hrs hd hdr ⟨e,hKR,hp⟩;subst e;have hH:=hsub _ (Zn.2 rfl);have kw:K.sub w:=fun b o hb=>hH b o (Hl.cC K R b o hb);have rw':R.sub w:=fun b o hb=>hH b o (Hl.cD hKR b o hb);have hc:=hs w xs [K] Rs (by rw[h1];rfl) l2 (fun H hH=>by rw[Zn.1 hH];exact kw) hrs
  (fun p q H H2 hpq a b=>by
   cases p with
   | zero=>cases q with
    | zero=>exact absurd rfl hpq
    | succ q=>simp at b
   | succ p=>simp at a)
  (fun H hH R1 hR=>by
   rw[Zn.1 hH];intro b ⟨x,y⟩;exact hdr _ (Zn.2 rfl) R1 hR b ⟨Hl.dN.2 (Or.inl x),y⟩) hp
 refine hc.mono fun e w' ⟨ρ,Hs',F,he,hn,ht,hpost⟩=>?_;obtain⟨K',rfl⟩:∃ K',Hs'=[K']:=List.length_eq_one_iff.1 (by rw[ht.len];rfl);have rlt:∀ b,R.mem b->b<w.heap.size:=fun b hb=>by
  obtain⟨o,ho⟩:=aah.1 hb;exact(ZU.1 (rw' b o ho)).1
 have far:∀ (X:Hl),(∀ b,X.mem b->(∃ H∈[K],H.mem b)\/w.heap.size<=b)->X.cG R:=fun X hX b ⟨x,y⟩=>by
  rcases hX b x with ⟨H,hH,hb⟩ | hb
  .rw[Zn.1 hH]at hb;exact hKR b ⟨hb,y⟩
  .have:=rlt b y;omega
 have dK:K'.cG R:=far K' (ht.dom K' (Zn.2 rfl));have dF:F.cG R:=far F ht.fdom;have rw2:R.sub w':=fun b o hb=>by
  have hm:R.mem b:=by unfold Hl.mem;rw[hb];rfl
  rw[ht.block b (rlt b hm) (fun H hH=>by rw[Zn.1 hH];exact fun hk=>hKR b ⟨hk,hm⟩)];exact rw' b o hb
 have wide:∀ b,(∃ H∈[K],H.mem b)\/w.heap.size<=b->(∃ H∈[K.un R],H.mem b)\/w.heap.size<=b:=fun b h=>by
  rcases h with ⟨H,hH,hb⟩ | hb
  .rw[Zn.1 hH]at hb;exact Or.inl ⟨_,Zn.2 rfl,Hl.dN.2 (Or.inl hb)⟩
  .exact Or.inr hb
 refine⟨ρ,[K'.un R],F,he,hn,⟨ht.os,ht.tape,ht.output,ht.size,fun b hb hno=>?_,rfl,fun H hH=>?_,ht.fsub,fun H hH b hb=>?_,fun b hb=>wide b (ht.fdom b hb),fun p q H H2 hpq a b=>?_,fun H hH=>?_⟩,K',rfl,dK,dF,hpost⟩
 .exact ht.block b hb fun H hH=>by rw[Zn.1 hH];exact fun hk=>hno _ (Zn.2 rfl) (Hl.dN.2 (Or.inl hk))
 .rw[Zn.1 hH];exact Hl.GK (ht.sub K' (Zn.2 rfl)) rw2
 .rw[Zn.1 hH]at hb;rcases Hl.dN.1 hb with hb | hb
  .exact wide b (ht.dom K' (Zn.2 rfl) b hb)
  .exact Or.inl ⟨_,Zn.2 rfl,Hl.dN.2 (Or.inr hb)⟩
 .cases p with
  | zero=>cases q with
   | zero=>exact absurd rfl hpq
   | succ q=>simp at b
  | succ p=>simp at a
 .rw[Zn.1 hH];intro b ⟨x,y⟩;rcases Hl.dN.1 x with x | x
  .exact ht.fdis K' (Zn.2 rfl) b ⟨x,y⟩
  .exact dF b ⟨y,x⟩
end
def Hl.minus (H K:Hl):Hl:=fun b=>if(K b).isSome then Option.none else H b
theorem Hl.wR (H K:Hl):(H.minus K).le H:=fun b o h=>by
 unfold Hl.minus at h;split at h
 .cases h
 .exact h
theorem Hl.Jg (H K:Hl):K.cG (H.minus K):=fun b ⟨x,y⟩=>by
 unfold Hl.mem at x y;unfold Hl.minus at y;rw[ZA x]at y;cases y
theorem Hl.wB {A H K:Hl} (h:A.le H) (d:A.cG K):A.le (H.minus K):=fun b o hb=>by
 unfold Hl.minus;have hm:A.mem b:=by unfold Hl.mem;rw[hb];rfl
 have hn:¬(K b).isSome=true:=fun hk=>d b ⟨hm,hk⟩;rw[Zo hn];exact h b o hb
theorem Hl.LS {H K:Hl} (h:K.le H):K.un (H.minus K)=H:=by
 funext b
 unfold Hl.un Hl.minus;cases hb:K b with
 | none=>simp
 | some o=>simp;exact(h b o hb).symm
theorem Hl.qW {a b:Hl} (h:a.cG b):b.cG a:=fun k ⟨x,y⟩=>h k ⟨y,x⟩
end Go.Sx
namespace Go.Proofs.YtomdimlnggpgbaaGreatDoor
open Go Go.Sx Go.Pk
def dv (st:Nat->List Pc):Int:=(((st 0).length+(st 1).length+(st 2).length+(st 3).length+(st 4).length+(st 5).length:Nat):Int)
def BS (a:Nat->Nat) (sv:Nat->Value) (n:Int):List Value:=[.pointer (some ⟨a 0,0,none⟩),.pointer (some ⟨a 1,0,none⟩),.pointer (some ⟨a 2,0,none⟩),.pointer (some ⟨a 3,0,none⟩),.pointer (some ⟨a 4,0,none⟩),.pointer (some ⟨a 5,0,none⟩),sv 0,sv 1,sv 2,sv 3,sv 4,sv 5,.int .i64 n]
theorem HF (a:Nat->Nat) (sv:Nat->Value) (n:Int) {i:Nat} (h:i<6):(BS a sv n)[i]?=some (.pointer (some ⟨a i,0,none⟩))/\(BS a sv n)[6+i]?=some (sv i):=by
 have:i=0\/i=1\/i=2\/i=3\/i=4\/i=5:=by omega
 rcases this with rfl | rfl | rfl | rfl | rfl | rfl<;>exact⟨rfl,rfl⟩
def te {α:Type} (f:Nat->α) (i:Nat) (x:α):Nat->α:=fun k=>if k=i then x else f k
theorem df {α:Type} (f:Nat->α) (i:Nat) (x:α):te f i x i=x:=by simp [te]
theorem fc {α:Type} (f:Nat->α) {i k:Nat} (x:α) (h:k≠i):te f i x k=f k:=by simp [te,h]
theorem Lz (a:Nat->Nat) (sv:Nat->Value) (n:Int) (v:Value) {i:Nat} (h:i<6):cf (BS a sv n) (6+i) [v]=BS a (te sv i v) n:=by
 have:i=0\/i=1\/i=2\/i=3\/i=4\/i=5:=by omega
 rcases this with rfl | rfl | rfl | rfl | rfl | rfl<;>rfl
theorem Tb (a:Nat->Nat) (sv:Nat->Value) (n m:Int):cf (BS a sv n) 12 [.int .i64 m]=BS a sv m:=rfl
theorem Cf (st:Nat->List Pc) (p:Pc) {i:Nat} (h:i<6):dv (te st i (st i++[p]))=dv st+1:=by
 have:i=0\/i=1\/i=2\/i=3\/i=4\/i=5:=by omega
 rcases this with rfl | rfl | rfl | rfl | rfl | rfl<;>(unfold dv te;simp;omega)
def kF (st:Nat->List Pc) (i:Nat):List Hd:=(st i).map Pc.h
structure T8 (H:Hl) (x:Nat) (st:Nat->List Pc) (a:Nat->Nat) (sv:Nat->Value) (Kc:Nat->Hl) (KB:Hl):Prop where
 bD:H x=some (.cells (BS a sv (dv st)).toArray 182 (0,0))
 ch:∀ i,i<6->gJ (Kc i) (a i) (i+1:Nat) (kF st i)
 le:∀ i,i<6->(Kc i).le H
 cG:∀ i j,i<6->j<6->i≠j->(Kc i).cG (Kc j)
 nox:∀ i,i<6->¬(Kc i).mem x
 row:∀ i,i<6->∃ us,bE H 46 1 (sv i) (st i).length us/\∀ (j:Nat) u p,us[j]?=some u->(st i)[j]?=some p->fp KB u p.b
 kb:KB.le H
 kbx:¬KB.mem x
 kbc:∀ i,i<6->KB.cG (Kc i)
 own:∀ i b,i<6->(sv i).ownBlock=some b->¬KB.mem b/\∀ j,j<6->¬(Kc j).mem b/\(j≠i->(sv j).ownBlock≠some b)
def qJ (H:Hl) (x:Nat) (st:Nat->List Pc):Prop:=∃ a sv Kc KB,T8 H x st a sv Kc KB
structure PQ (R:Hl) (x:Nat) (st:Nat->List Pc) (a:Nat->Nat) (sv:Nat->Value):Prop where
 bD:R x=some (.cells (BS a sv (dv st)).toArray 182 (0,0))
 ch:∀ i,i<6->c9 R (a i) (i+1:Nat) (kF st i)
 row:∀ i,i<6->∃ us,bE R 46 1 (sv i) (st i).length us/\∀ (j:Nat) u p,us[j]?=some u->(st i)[j]?=some p->fp R u p.b
def nF (R:Hl) (x:Nat) (st:Nat->List Pc):Prop:=∃ a sv,PQ R x st a sv
theorem qJ.rd {H:Hl} {x:Nat} {st:Nat->List Pc} (h:qJ H x st):nF H x st:=by
 obtain⟨a,sv,Kc,KB,h⟩:=h;refine⟨a,sv,h.bD,fun i hi=>⟨Kc i,h.le i hi,h.ch i hi⟩,fun i hi=>?_⟩;obtain⟨us,h1,h2⟩:=h.row i hi;exact⟨us,h1,fun j u p hu hp=>gD (h2 j u p hu hp) h.kb⟩
theorem c9.mono {R R':Hl} (hl:R.le R') {a:Nat} {w:Int} {hs:List Hd} (h:c9 R a w hs):c9 R' a w hs:=by
 obtain⟨K,h1,h2⟩:=h;exact⟨K,fun b o hb=>hl b o (h1 b o hb),h2⟩
theorem nF.mono {R R':Hl} (hl:R.le R') {x:Nat} {st:Nat->List Pc} (h:nF R x st):nF R' x st:=by
 obtain⟨a,sv,h⟩:=h;refine⟨a,sv,hl _ _ h.bD,fun i hi=>(h.ch i hi).mono hl,fun i hi=>?_⟩;obtain⟨us,h1,h2⟩:=h.row i hi;exact⟨us,h1.mono hl,fun j u p hu hp=>gD (h2 j u p hu hp) hl⟩
theorem PQ.cells {R:Hl} {x:Nat} {st:Nat->List Pc} {a:Nat->Nat} {sv:Nat->Value} (h:PQ R x st a sv) {i:Nat} (hi:i<6):R.cell x i=some (.pointer (some ⟨a i,0,none⟩))/\R.cell x (6+i)=some (sv i)/\R.cell x 12=some (.int .i64 (dv st)):=by
 obtain⟨e1,e2⟩:=HF a sv (dv st) hi;refine⟨?_,?_,?_⟩
 .unfold Hl.cell;rw[h.bD];simpa using e1
 .unfold Hl.cell;rw[h.bD];simpa using e2
 .unfold Hl.cell;rw[h.bD];rfl
theorem T8.put {H:Hl} {x:Nat} {st:Nat->List Pc} {a:Nat->Nat} {sv:Nat->Value} {Kc:Nat->Hl} {KB:Hl} (h:T8 H x st a sv Kc KB) {i:Nat} (hi:i<6) {K' B G:Hl} {p:Pc} {u:Value} {x1:Int} {n1 c1:Nat}
 (hd:K'.cG (H.minus (Kc i))) (hc:gJ K' (a i) (i+1:Nat) (kF st i++[p.h])) (hb:fp B u p.b) (hx1:-1<=x1)
 (happ:∀ xs,bE (K'.un (H.minus (Kc i))) 46 1 (sv i) (st i).length xs->bE G 46 1 (.slice (aA x1 0) n1 c1) ((st i).length+1) (xs++[u]))
 (hk:∀ b,(K'.un (H.minus (Kc i))).mem b->some b≠(sv i).ownBlock->G b=(K'.un (H.minus (Kc i))) b)
 (hnew:some x1.toNat=(sv i).ownBlock\/¬(K'.un (H.minus (Kc i))).mem x1.toNat\/x1= -1)
 (hB:((G.put x (6+i) [.slice (aA x1 0) n1 c1]).put x 12 [.int .i64 (dv st+1)]).cG B) :
 T8 (((G.put x (6+i) [.slice (aA x1 0) n1 c1]).put x 12 [.int .i64 (dv st+1)]).un B) x (te st i (st i++[p])) a (te sv i (.slice (aA x1 0) n1 c1)) (te Kc i K') (KB.un B):=by
 generalize hH2:K'.un (H.minus (Kc i))=H2 at *;have lM:(H.minus (Kc i)).le H2:=by
  rw[<-hH2];exact Hl.cD hd
 have lK:K'.le H2:=by
  rw[<-hH2];exact Hl.cC _ _
 have xM:(H.minus (Kc i)).mem x:=Hl.dU (Hl.wB (A:=Hl.one x (.cells (BS a sv (dv st)).toArray 182 (0,0))) (fun b o hb=>by
  unfold Hl.one at hb;split at hb
  .rename_i e;subst e;cases hb;exact h.bD
  .cases hb) (Hl.fH.2 (h.nox i hi))) (Hl.mem_of (Hl.bF _ _))
 have hxM:(H.minus (Kc i)) x=some (.cells (BS a sv (dv st)).toArray 182 (0,0)):=by
  obtain⟨o,ho⟩:=aah.1 xM;have:=Hl.wR H (Kc i) x o ho;rw[h.bD]at this;cases this;exact ho
 have lKc:∀ j,j<6->j≠i->(Kc j).le (H.minus (Kc i)):=fun j hj hne=>Hl.wB (h.le j hj) (h.cG j i hj hi hne);have lKB:KB.le (H.minus (Kc i)):=Hl.wB h.kb (h.kbc i hi);have ownM:∀ j b,j<6->(sv j).ownBlock=some b->∃ c,(H.minus (Kc i)) b=some (.cells c 46 (0,0)):=fun j b hj hb=>by
  obtain⟨us,h1,_⟩:=h.row j hj;obtain⟨c,hcb⟩:=h1.type hb;refine⟨c,?_⟩;unfold Hl.minus;have:=((h.own j b hj hb).2 i hi).1;unfold Hl.mem at this;rw[Zo this];exact hcb
 have ownx:∀ j b,j<6->(sv j).ownBlock=some b->b≠x:=fun j b hj hb e=>by
  subst e;obtain⟨c,hcb⟩:=ownM j _ hj hb;rw[hxM]at hcb;simp at hcb
 have xne:some x≠(sv i).ownBlock:=fun e=>ownx i x hi e.symm rfl;have keepx:G x=some (.cells (BS a sv (dv st)).toArray 182 (0,0)):=by
  rw[hk x (Hl.dU lM xM) xne];exact lM _ _ hxM
 have lG:∀ {A:Hl},A.le H2->(∀ b,(sv i).ownBlock=some b->¬A.mem b)->A.le G:=fun {A} hA hn b o hb=>by
  rw[hk b (Hl.dU hA (Hl.mem_of hb)) fun e=>hn b e.symm (Hl.mem_of hb)];exact hA b o hb
 have nK:∀ b,(sv i).ownBlock=some b->¬K'.mem b:=fun b hb hm=>by
  obtain⟨c,hcb⟩:=ownM i b hi hb;exact hd b ⟨hm,Hl.mem_of hcb⟩
 have xK:¬K'.mem x:=fun hm=>hd x ⟨hm,xM⟩;have xGB:((G.put x (6+i) [.slice (aA x1 0) n1 c1]).put x 12 [.int .i64 (dv st+1)]) x=some (.cells (BS a (te sv i (.slice (aA x1 0) n1 c1)) (dv st+1)).toArray 182 (0,0)):=by
  rw[Hl.qq (Hl.qq keepx)];simp only[abj];rw[Lz _ _ _ _ hi,Tb]
 have dG:∀ b,G.mem b->¬B.mem b:=fun b h1 h2=>hB b ⟨Hl.gL.2 (Hl.gL.2 h1),h2⟩;have put2:∀ b o,b≠x->G b=some o->(((G.put x (6+i) [.slice (aA x1 0) n1 c1]).put x 12 [.int .i64 (dv st+1)]).un B) b=some o:=fun b o hb hg=>Hl.cC _ _ b o (by rw[Hl.qs hb,Hl.qs hb];exact hg);have leF:∀ {A:Hl},A.le G->¬A.mem x->A.le (((G.put x (6+i) [.slice (aA x1 0) n1 c1]).put x 12 [.int .i64 (dv st+1)]).un B):=fun hA hx b o hb=>Hl.cC _ _ b o (Hl.wC (Hl.wC hA hx) hx b o hb);have lKG:K'.le G:=lG lK nK;have lBG:KB.le G:=lG (fun b o hb=>lM _ _ (lKB b o hb)) fun b hb=>(h.own i b hi hb).1;have lCG:∀ j,j<6->j≠i->(Kc j).le G:=fun j hj e=>lG (fun b o hb=>lM _ _ (lKc j hj e b o hb)) fun b hb=>((h.own i b hi hb).2 j hj).1;have xB:¬B.mem x:=dG x (Hl.mem_of keepx);have xKBB:¬(KB.un B).mem x:=fun hm=>(Hl.dN.1 hm).elim h.kbx xB;have lKBB:(KB.un B).le (((G.put x (6+i) [.slice (aA x1 0) n1 c1]).put x 12 [.int .i64 (dv st+1)]).un B):=fun b o hb=>by
  unfold Hl.un at hb;cases hq:KB b with
  | some o'=>rw[hq]at hb;cases hb;exact leF lBG h.kbx _ _ hq
  | none=>rw[hq]at hb;exact Hl.cD hB b o hb
 obtain⟨us,ho,hus⟩:=h.row i hi;have hoM:bE H2 46 1 (sv i) (st i).length us:=ho.at fun b hb=>by
  obtain⟨c,hcb⟩:=ownM i b hi hb;rw[lM _ _ hcb];exact(Hl.wR H (Kc i) _ _ hcb).symm
 have hoG:=happ us hoM;have newx:∀ b,(Value.slice (aA x1 0) n1 c1).ownBlock=some b->b=x1.toNat/\x1≠ -1:=fun b hb=>by
  rcases aal x1 0 with hlt | h0
  .rw[show x1= -1 by omega,fa]at hb;cases hb
  .rw[au h0]at hb;have:x1.toNat=b:=by simpa [Value.ownBlock] using hb
   exact⟨this.symm,by omega⟩
 have newn:∀ {A:Hl},A.le H2->(∀ b,(sv i).ownBlock=some b->¬A.mem b)->∀ b,(Value.slice (aA x1 0) n1 c1).ownBlock=some b->¬A.mem b:=fun {A} hA hn b hb hm=>by
  obtain⟨rfl,hne⟩:=newx b hb;rcases hnew with h1 | h1 | h1
  .exact hn _ h1.symm hm
  .exact h1 (Hl.dU hA hm)
  .exact hne h1
 have newo:∀ j b,j<6->j≠i->(Value.slice (aA x1 0) n1 c1).ownBlock=some b->(sv j).ownBlock≠some b:=fun j b hj hji hb e=>by
  obtain⟨rfl,hne⟩:=newx b hb;rcases hnew with h1 | h1 | h1
  .exact((h.own i _ hi h1.symm).2 j hj).2 hji e
  .obtain⟨c,hcb⟩:=ownM j _ hj e;exact h1 (Hl.dU lM (Hl.mem_of hcb))
  .exact hne h1
 have newxx:∀ b,(Value.slice (aA x1 0) n1 c1).ownBlock=some b->b≠x:=fun b hb e=>by
  subst e;obtain⟨c,hcb⟩:=hoG.type hb;rw[keepx]at hcb;simp at hcb
 refine⟨?_,fun j hj=>?_,fun j hj=>?_,fun j k hj hk' hjk=>?_,fun j hj=>?_,fun j hj=>?_,lKBB,xKBB,fun j hj=>?_,fun j b hj hb=>?_⟩
 .rw[Cf _ _ hi];exact Hl.cC _ _ _ _ xGB
 .by_cases e:j=i
  .subst e;rw[df];unfold kF;rw[df,ZP];exact hc
  .rw[fc _ _ e];unfold kF;rw[fc _ _ e];exact h.ch j hj
 .by_cases e:j=i
  .subst e;rw[df];exact leF lKG xK
  .rw[fc _ _ e];exact leF (lCG j hj e) (h.nox j hj)
 .by_cases e:j=i
  .subst e;rw[df,fc _ _ (Ne.symm hjk)];exact Hl.vA hd (lKc k hk' (Ne.symm hjk))
  .by_cases e2:k=i
   .subst e2;rw[df,fc _ _ e];exact Hl.qW (Hl.vA hd (lKc j hj e))
   .rw[fc _ _ e,fc _ _ e2];exact h.cG j k hj hk' hjk
 .by_cases e:j=i
  .subst e;rw[df];exact xK
  .rw[fc _ _ e];exact h.nox j hj
 .by_cases e:j=i
  .subst e;rw[df,df,Y9];refine⟨us++[u],hoG.at fun b hb=>(by obtain⟨cc,hcc⟩:=hoG.type hb;rw[hcc];exact put2 b _ (newxx b hb) hcc),fun k v q hv hq=>?_⟩;have hl:us.length=(st j).length:=by have:=ho.1;omega
   rcases aaa k us.length with qH | qH
   .rw[ZH qH]at hv;rw[ZH (by omega)]at hq;exact gD (hus k v q hv hq) (Hl.cC _ _)
   .rw[Zz qH]at hv;rw[Zz (by omega)]at hq;have hv:=Zb hv;have hq:=Zb hq;rw[Zn]at hv hq;subst hv;subst hq;exact gD hb (Hl.cD fun b ⟨y,z⟩=>dG b (Hl.dU lBG y) z)
  .rw[fc _ _ e,fc _ _ e];obtain⟨vs,h1,h2⟩:=h.row j hj;refine⟨vs,h1.at fun b hb=>?_,fun k v q hv hq=>gD (h2 k v q hv hq) (Hl.cC _ _)⟩;obtain⟨c,hcb⟩:=ownM j b hj hb;rw[Hl.wR H (Kc i) _ _ hcb];refine put2 b _ (ownx j b hj hb) ?_;rw[hk b (Hl.dU lM (Hl.mem_of hcb)) fun e'=>((h.own i b hi e'.symm).2 j hj).2 e hb,lM _ _ hcb]
 .by_cases e:j=i
  .subst e;rw[df];exact fun b ⟨y,z⟩=>(Hl.dN.1 y).elim (fun y=>hd b ⟨z,Hl.dU lKB y⟩) (fun y=>dG b (Hl.dU lKG z) y)
  .rw[fc _ _ e];exact fun b ⟨y,z⟩=>(Hl.dN.1 y).elim (fun y=>h.kbc j hj b ⟨y,z⟩) (fun y=>dG b (Hl.dU (lCG j hj e) z) y)
 .by_cases e:j=i
  .subst e;rw[df]at hb;refine⟨fun hm=>(Hl.dN.1 hm).elim (newn (fun b o hb=>lM _ _ (lKB b o hb)) (fun b hb=>(h.own j b hi hb).1) b hb) (fun y=>by obtain⟨cc,hcc⟩:=hoG.type hb;exact dG b (Hl.mem_of hcc) y),fun k hk'=>?_⟩;by_cases e2:k=j
   .subst e2;rw[df];exact⟨newn lK nK b hb,fun h=>absurd rfl h⟩
   .rw[fc _ _ e2,fc _ _ e2];exact⟨newn (fun b o hb=>lM _ _ (lKc k hk' e2 b o hb)) (fun b hb=>((h.own j b hi hb).2 k hk').1) b hb,fun _=>newo k b hk' e2 hb⟩
  .rw[fc _ _ e]at hb;obtain⟨c,hcb⟩:=ownM j b hj hb;refine⟨fun hm=>(Hl.dN.1 hm).elim (h.own j b hj hb).1 (fun y=>dG b (by
    have e1:G b=some (.cells c 46 (0,0)):=by rw[hk b (Hl.dU lM (Hl.mem_of hcb)) fun e'=>((h.own i b hi e'.symm).2 j hj).2 e hb,lM _ _ hcb]
    exact Hl.mem_of e1) y),fun k hk'=>?_⟩
   by_cases e2:k=i
   .subst e2;rw[df,df];exact⟨fun hm=>hd b ⟨hm,Hl.mem_of hcb⟩,fun _ e3=>newo j b hj e e3 hb⟩
   .rw[fc _ _ e2,fc _ _ e2];exact(h.own j b hj hb).2 k hk'
end Go.Proofs.YtomdimlnggpgbaaGreatDoor
namespace Go.Sx
open Go
theorem jV:∀ {l:List Hl} (_:∀ (p q:Nat) A B,p≠q->l[p]?=some A->l[q]?=some B->A.cG B) {i:Nat} {A:Hl},l[i]?=some A->A.le (dC l)
 | [],_,_,_,h=>by simp at h
 | B::l,hd,0,A,h=>by
  simp only[Z6,Zj]at h;subst h;exact Hl.cC _ _
 | B::l,hd,i+1,A,h=>by
  have ih:=jV (l:=l) (fun p q A B hpq ha hb=>hd (p+1) (q+1) A B (by omega) (by simpa using ha) (by simpa using hb)) (i:=i) (A:=A) (by simpa using h);have hB:B.cG (dC l):=fun b ⟨x,y⟩=>by
   obtain⟨C,hC,hb⟩:=AH.1 y;obtain⟨j,hj⟩:=Z7 hC;exact hd 0 (j+1) B C (by omega) rfl (by simpa using hj) b ⟨x,hb⟩
  exact fun b o hb=>Hl.cD hB b o (ih b o hb)
end Go.Sx
namespace Go.Proofs.YtomdimlnggpgbaaGreatDoor
open Go Go.Sx Go.Pk
def CI:Sx.Spec where
 fn:=96
 own:=[]
 rd:=[]
 res:=[.one .ptr]
 pre:=fun xs Hs Rs=>xs=[]
 post:=fun xs Hs Rs v Hs' F=>∃ x:Nat,v=.pointer (some ⟨x,0,none⟩)/\qJ F x (fun _=>[])
def E5:Nd:=(fun a b c d e f g h=>(.ext (.alloc 0) (.and (.pre c) (.ext c (.and (.pre d) (.ext d (.and (.pre e) (.ext e (.and (.pre f) (.ext f (.and (.pre g) (.ext g (.and (.pre b) (.ext b (.post [.bD 0 (al 1 (List.replicate 6 (Ck.ptr))++[.sl h a a a,.sl h a a a,.sl h a a a,.sl h a a a,.sl h a a a,.sl h a a a,.int .i64 a]) 182,.hp 1 [] [.var 1] [],.hp 3 [] [.var 3] [],.hp 5 [] [.var 5] [],.hp 7 [] [.var 7] [],.hp 9 [] [.var 9] [],.hp 11 [] [.var 11] []] (.sv (.one (.hptr (.var 0) a)))))))))))))))):Nd)) (.lit 0) (.call 0 11 [.sv (.one (.int .i64 (.lit 6)))] [] []) (.call 0 1 [.sv (.one (.int .i64 (.lit 1)))] [] []) (.call 0 3 [.sv (.one (.int .i64 (.lit 2)))] [] []) (.call 0 5 [.sv (.one (.int .i64 (.lit 3)))] [] []) (.call 0 7 [.sv (.one (.int .i64 (.lit 4)))] [] []) (.call 0 9 [.sv (.one (.int .i64 (.lit 5)))] [] []) (.lit (-1))
def Ta:List Sx.Spec:=[zU]
theorem QQ:∀ t∈Ta,t.OK Tryz.prog:=fun t ht=>by
 rw[Ta,Zn]at ht;subst ht;exact Nb
theorem Vo:Ta[0]?=some zU:=rfl
theorem Vp:zU.res=[.one .ptr]:=rfl
theorem PE (n:Nat):(br n [Cp.one .ptr]≠[])=True:=by simp [br,Cp.roots,Ck.root]
def Pr:bU Tryz.prog Ta CI.fn where
 Λ:=aM
 args:=[]
 mem:=[]
 nv:=0
 nd:=E5
 ok:=by kernel_rfl
theorem mn {w:Int} {x y:Int} {F:Hl} {K:List Hl} (hp:zU.post [.int .i64 w] [] [] (.pointer (aA x y)) K F) (hx:-1<=x) (hy:0<=y):0<=x/\aA x y=some ⟨x.toNat,0,none⟩/\gJ F x.toNat w []:=by
 obtain⟨b,e,h⟩:=hp w rfl;rcases aal x 0 with hlt | h0
 .rw[show x= -1 by omega,fa]at e;cases e
 .rw[au h0]at e ⊢;simp only[Value.pointer.injEq,Zj,Addr.mk.injEq,Zm]at e;obtain⟨e1,e2⟩:=e;rw[<-e1]at h;refine⟨h0,?_,h⟩;rw[e2]
theorem Ls:CI.OK Tryz.prog:=by
 refine Spec.bJ (Γ:=Ta) QQ ?_;rintro xs Hs Rs hl1 hl2 rfl;have e0:Hs=[]:=Za.1 hl1;have e1:Rs=[]:=Za.1 hl2;subst e0 e1;refine⟨Pr,bw [] false [],fun _ _=>True,fun _ _=>0,rfl,dB (by intro r hr;simp [Pr]at hr) rfl,(fun _ h=>nomatch h),?_⟩;show Nd.holds _ _ _ E5;unfold E5;generalize bw [] false []=ρ;simp only[Nd.holds,X.pre,X.rel,X.n,Src.ok,Src.len,Src.bG,Zy,Zm,ZG,Zx,Zp,Nat.reduceAdd,Zd,Zh,bn,bj,aJ,aU,aR,bm,aZ,bh,bg,bd,aV,ba,bk,aX,aW,aK,aY,ai,aj,aB,aF,aD,ar,aG,aQ,aP,aq,aI,az,aH,av,TV.ev,SV.ev,CV.ev,Zf,Zr,bx.hl,cu,Cp.sv,Ck.cv,bf,Cp.len,Ck.len,aE,aN,aT,Vo,Vp,PE];intro q0 g0 p0;refine⟨⟨1,rfl⟩,fun q1 g1 ⟨F1,a1,b1,n1⟩=>⟨⟨2,rfl⟩,fun q2 g2 ⟨F2,a2,b2,n2⟩=>⟨⟨3,rfl⟩,fun q3 g3 ⟨F3,a3,b3,n3⟩=>⟨⟨4,rfl⟩,fun q4 g4 ⟨F4,a4,b4,n4⟩=>⟨⟨5,rfl⟩,fun q5 g5 ⟨F5,a5,b5,n5⟩=>⟨⟨6,rfl⟩,fun q6 g6 ⟨F6,a6,b6,n6⟩=>?_⟩⟩⟩⟩⟩⟩;obtain⟨m1,c1,d1⟩:=mn a1 n1.1.1 n1.1.2;obtain⟨m2,c2,d2⟩:=mn a2 n2.1.1 n2.1.2;obtain⟨m3,c3,d3⟩:=mn a3 n3.1.1 n3.1.2;obtain⟨m4,c4,d4⟩:=mn a4 n4.1.1 n4.1.2;obtain⟨m5,c5,d5⟩:=mn a5 n5.1.1 n5.1.2;obtain⟨m6,c6,d6⟩:=mn a6 n6.1.1 n6.1.2;have b1:=b1 trivial;have b2:=b2 trivial;have b3:=b3 trivial;have b4:=b4 trivial;have b5:=b5 trivial;have b6:=b6 trivial;have A5:ah 11 q5 q6:=g6;have A4:ah 9 q4 q6:=g5.tr A5;have A3:ah 7 q3 q6:=g4.tr A4;have A2:ah 5 q2 q6:=g3.tr A3;have A1:ah 3 q1 q6:=g2.tr A2;rw[<-b1,<-A1.i 1,<-A1.h 1]at d1;rw[<-b2,<-A2.i 3,<-A2.h 3]at d2;rw[<-b3,<-A3.i 5,<-A3.h 5]at d3;rw[<-b4,<-A4.i 7,<-A4.h 7]at d4;rw[<-b5,<-A5.i 9,<-A5.h 9]at d5;rw[<-b6]at d6;rw[<-A1.i 1,<-A1.i 2]at c1;rw[<-A2.i 3,<-A2.i 4]at c2;rw[<-A3.i 5,<-A3.i 6]at c3;rw[<-A4.i 7,<-A4.i 8]at c4;rw[<-A5.i 9,<-A5.i 10]at c5;have p0:0<=q6.i 0:=by rw[A1.i 0,g1.i 0];exact p0
 intro hdis;generalize hm:([bx.bD 0 (al 1 (List.replicate 6 Ck.ptr)++[.sl (.lit (-1)) (.lit 0) (.lit 0) (.lit 0),.sl (.lit (-1)) (.lit 0) (.lit 0) (.lit 0),.sl (.lit (-1)) (.lit 0) (.lit 0) (.lit 0),.sl (.lit (-1)) (.lit 0) (.lit 0) (.lit 0),.sl (.lit (-1)) (.lit 0) (.lit 0) (.lit 0),.sl (.lit (-1)) (.lit 0) (.lit 0) (.lit 0),.int .i64 (.lit 0)]) 182,.hp 1 [] [.var 1] [],.hp 3 [] [.var 3] [],.hp 5 [] [.var 5] [],.hp 7 [] [.var 7] [],.hp 9 [] [.var 9] [],.hp 11 [] [.var 11] []]:Mem)=mem at *;have hown:∀ r∈mem,r.own=true:=by rw[<-hm];intro r hr;simp at hr;rcases hr with rfl | rfl | rfl | rfl | rfl | rfl | rfl<;>rfl
 have hl:mem.map (bx.hl q6)=[Hl.one (q6.i 0).toNat (.cells (BS (fun i=>([q6.i 1,q6.i 3,q6.i 5,q6.i 7,q6.i 9,q6.i 11].getD i 0).toNat) (fun _=>.slice none 0 0) 0).toArray 182 (0,0)),q6.h 1,q6.h 3,q6.h 5,q6.h 7,q6.h 9,q6.h 11]:=by
  rw[<-hm];have:Hl.one (q6.i 0).toNat (.cells #[.pointer (aA (q6.i 1) (q6.i 2)),.pointer (aA (q6.i 3) (q6.i 4)),.pointer (aA (q6.i 5) (q6.i 6)),.pointer (aA (q6.i 7) (q6.i 8)),.pointer (aA (q6.i 9) (q6.i 10)),.pointer (aA (q6.i 11) (q6.i 12)),.slice none 0 0,.slice none 0 0,.slice none 0 0,.slice none 0 0,.slice none 0 0,.slice none 0 0,.int .i64 0] 182 (0,0))=Hl.one (q6.i 0).toNat (.cells (BS (fun i=>([q6.i 1,q6.i 3,q6.i 5,q6.i 7,q6.i 9,q6.i 11].getD i 0).toNat) (fun _=>.slice none 0 0) 0).toArray 182 (0,0)):=by
   rw[c1,c2,c3,c4,c5,c6];rfl
  rw[<-this];rfl
 have hdl:∀ (p q:Nat) A B,p≠q->(mem.map (bx.hl q6))[p]?=some A->(mem.map (bx.hl q6))[q]?=some B->A.cG B:=by
  intro p q A B hpq ha hb;rw[Zs]at ha hb;obtain⟨r,hr,rfl⟩:=Zk.1 ha;obtain⟨s,hs,rfl⟩:=Zk.1 hb;exact hdis p q r s hpq hr hs (hown r (Zb hr))
 rw[hl]at hdl;have hK:∀ i,i<6->([Hl.one (q6.i 0).toNat (.cells (BS (fun i=>([q6.i 1,q6.i 3,q6.i 5,q6.i 7,q6.i 9,q6.i 11].getD i 0).toNat) (fun _=>.slice none 0 0) 0).toArray 182 (0,0)),q6.h 1,q6.h 3,q6.h 5,q6.h 7,q6.h 9,q6.h 11])[i+1]?=some ([q6.h 1,q6.h 3,q6.h 5,q6.h 7,q6.h 9,q6.h 11].getD i Hl.none):=fun i hi=>by
  have:i=0\/i=1\/i=2\/i=3\/i=4\/i=5:=by omega
  rcases this with rfl | rfl | rfl | rfl | rfl | rfl<;>rfl
 have hF:uu q6 mem [0,1,2,3,4,5,6]=dC (mem.map (bx.hl q6)):=by rw[<-hm];rfl
 refine⟨[],[0,1,2,3,4,5,6],rfl,by rw[<-hm];rfl,⟨⟨fun k=>if k=0 then q6.i 0 else 0,fun _=>false,fun _=>.empty,fun _=>.tuple #[],fun _=>Hl.none⟩,rfl,⟨by show -1<=q6.i 0;omega,Zw 0⟩,trivial⟩,(q6.i 0).toNat,?_,?_⟩
 .show Value.pointer (aA (q6.i 0) 0)=_;rw[au p0];rfl
 rw[hF,hl];refine⟨_,_,fun i=>[q6.h 1,q6.h 3,q6.h 5,q6.h 7,q6.h 9,q6.h 11].getD i Hl.none,Hl.none,Hl.cC _ _ _ _ (Hl.bF _ _),fun i hi=>?_,fun i hi=>jV hdl (hK i hi),fun i j hi hj hij=>hdl (i+1) (j+1) _ _ (by omega) (hK i hi) (hK j hj),fun i hi=>Hl.fH.1 (hdl 0 (i+1) _ _ (by omega) rfl (hK i hi)),fun i hi=>⟨[],⟨rfl,Or.inl ⟨rfl,rfl⟩⟩,fun j u p h=>by simp at h⟩,(fun _ _ h=>by cases h),(fun h=>by cases h),(fun i hi b ⟨h,_⟩=>by cases h),(fun i b _ h=>by cases h)⟩;have:i=0\/i=1\/i=2\/i=3\/i=4\/i=5:=by omega
 rcases this with rfl | rfl | rfl | rfl | rfl | rfl
 .exact d1
 .exact d2
 .exact d3
 .exact d4
 .exact d5
 .exact d6
theorem XS {row:List Value} (h:bS row qo):row=row.take 125++[row.getD 125 ze]:=by
 have hl:=fL h;rw[kN]at hl;apply ZN;intro k;rcases aaa k 125 with hk | hk
 .rw[ZH (by rw[ZE];omega),Z2,ZA hk]
 .rw[Zz (by rw[ZE];omega),ZE,hl];rcases aaa k 126 with cX | cX
  .have:k=125:=by omega
   subst this;show _=some (row.getD 125 ze);rw[Zt,Y8 (by omega)];rfl
  .rw[Zv (by omega),Zv (by simp;omega)]
theorem Bb {a:Int} {row:List Value} (hs:List (Nat×Hl)) (h:bS row qo):∃ q:Env,q.i 0=a/\row=(al 1 iL).map (CV.ev q)/\(∀ k,q.h k=yu hs k)/\ck 1 iL q:=by
 obtain⟨q,g,hn,e⟩:=dI iL 1 row ⟨fun _=>a,fun _=>false,fun _=>.empty,fun _=>.tuple #[],fun _=>Hl.none⟩ h;exact⟨⟨q.i,q.b,q.s,q.v,yu hs⟩,g.i 0,by rw[<-NG (yu hs)];exact e.symm,fun _=>rfl,Of _ _ _ hn⟩
set_option maxRecDepth 20000 in
theorem Mn (n:Nat):al n iL=al n cX++[.sl (.var (n+128)) (.var (n+128+1)) (.var (n+128+2)) (.var (n+128+3))]:=by
 have:∀ (a b:List Ck) (n:Nat),al n (a++b)=al n a++al (n+bR a) b:=by
  intro a
  induction a with
  | nil=>intro b n;simp [al,bR]
  | cons k a ih=>intro b n;rw[abg,al,al,ih,abg];simp [bR,aaD]
 rw[iL,this];rfl
set_option maxRecDepth 20000 in
theorem pc (q:Env) (n:Nat):((al n iL).map (CV.ev q)).take 125=(al n cX).map (CV.ev q):=by
 rw[Mn,ZP];exact abq (by rw[ZD];rfl)
set_option maxRecDepth 20000 in
theorem uO (q:Env) (n:Nat):((al n iL).map (CV.ev q)).getD 125 ze=.slice (aA (q.i (n+128)) (q.i (n+128+1))) (q.i (n+128+2)).toNat (q.i (n+128+3)).toNat:=by
 have hl:((al n cX).map (CV.ev q)).length=125:=by rw[ZD];rfl
 rw[Mn,ZP,Zt,Zz (by omega),hl];rfl
theorem yk {R:Hl} {row:List Value} {h:Hd} (hx:cN R row h) (bs:List Int):eQ row bs=eQ h.c bs:=by
 unfold eQ;rw[hx.I (k:=92) (by decide)];have:bL h.c 60 32=bL row 60 32:=by
  unfold bL;refine aac fun j hj=>hx.I ?_;have:=ZQ.1 hj;omega
 rw[this]
open Classical in
noncomputable def ct (st:Nat->List Pc) (p:Pc):Int :=
 if ¬p.h.Form then 1
 else if fU (cI p.h.c 0) (kF st (cI p.h.c 0-1).toNat) p.h≠0 then fU (cI p.h.c 0) (kF st (cI p.h.c 0-1).toNat) p.h
 else if eQ p.h.c p.b=false then 2 else if 400<=dv st then 4 else 0
theorem PQ.Xa {R:Hl} {x:Nat} {st st':Nat->List Pc} {a a':Nat->Nat} {sv sv':Nat->Value} (h:PQ R x st a sv) (h':PQ R x st' a' sv') {i:Nat} (hi:i<6):st i=st' i:=by
 obtain⟨e1,e2,_⟩:=h.cells hi;obtain⟨f1,f2,_⟩:=h'.cells hi;rw[e1]at f1;rw[e2]at f2;simp only[Zj,Value.pointer.injEq,Addr.mk.injEq,Zm]at f1 f2;have c1:=h.ch i hi;have c2:=h'.ch i hi;rw[f1]at c1;have eh:=(c1.uniq c2).2;obtain⟨us,o1,b1⟩:=h.row i hi;obtain⟨vs,o2,b2⟩:=h'.row i hi;rw[f2]at o1;obtain⟨el,eu⟩:=o1.inj o2;subst eu;apply aaL el;intro j h1 h2;have hul:j<us.length:=by have:=o1.1;omega
 have hu:us[j]?=some us[j]:=Y8 hul;have p1:=b1 j _ _ hu (Y8 h1);have p2:=b2 j _ _ hu (Y8 h2);have eb:=p1.uniq p2;have ehh:(st i)[j].h=(st' i)[j].h:=by
  have:=ZW (fun l=>l[j]?) eh;simpa [kF,Zs,h1,h2] using this
 generalize (st i)[j]=x at *;generalize (st' i)[j]=y at *;cases x;cases y;simp only at eb ehh;rw[eb,ehh]
theorem nF.st {R:Hl} {x:Nat} {st st':Nat->List Pc} (h:nF R x st) (h':nF R x st') {i:Nat} (hi:i<6):st i=st' i:=by
 obtain⟨a,sv,h⟩:=h;obtain⟨a',sv',h'⟩:=h';exact h.Xa h' hi
theorem EB {st st':Nat->List Pc} (h:∀ i,i<6->st i=st' i):dv st=dv st':=by
 unfold dv;rw[h 0 (by omega),h 1 (by omega),h 2 (by omega),h 3 (by omega),h 4 (by omega),h 5 (by omega)]
theorem vX {h:Hd} (hF:h.Form):1<=cI h.c 0/\cI h.c 0<=6:=hF.1.1
theorem nS {st st':Nat->List Pc} (h:∀ i,i<6->st i=st' i) (p:Pc):ct st p=ct st' p:=by
 unfold ct;rw[EB h];by_cases hF:p.h.Form
 .have:=vX hF;unfold kF;rw[h (cI p.h.c 0-1).toNat (by omega)]
 .rw[ZA hF,ZA hF]
def iS:Sx.Spec where
 fn:=70
 own:=[]
 rd:=[0]
 res:=[.one (.int .i64)]
 pre:=fun xs Hs Rs=>∃ x R st,xs=[.pointer (some ⟨x,0,none⟩)]/\Rs=[R]/\nF R x st
 post:=fun xs Hs Rs v Hs' F=>∀ x R st,xs=[.pointer (some ⟨x,0,none⟩)]->Rs=[R]->nF R x st->v=.int .i64 (dv st)
def wj:Nd:=.and (.e (.le (.lit 0) (.var 0))) (.and (.e (.his 1 (.var 0) (.lit 12) 0 (.int .i64))) (.post [.ro 1 [.var 0] true] (.sv (.one (.int .i64 (.hI 1 (.var 0) (.lit 12) 0))))))
def Hv:bU Tryz.prog [] iS.fn where
 Λ:=aM
 args:=[TP (.var 0) (.lit 0)]
 mem:=[.ro 1 [.var 0] true]
 nv:=2
 nd:=wj
 ok:=by kernel_rfl
theorem qg:iS.OK Tryz.prog:=by
 refine Spec.bJ (Γ:=[]) (fun _ h=>by cases h) ?_;rintro xs Hs Rs hl1 hl2 ⟨x,R,st,rfl,rfl,hI⟩;have e0:Hs=[]:=Za.1 hl1;subst e0;refine⟨Hv,bw [x] false [Hl.none,R],fun _ _=>True,fun _ _=>0,?_,dB (by intro r hr;simp [Hv]at hr;subst hr;exact⟨_,_,_,rfl⟩) rfl,(fun _ h=>nomatch h),?_⟩
 .show [Value.pointer (aA (x:Int) 0)]=_;rw[au (by omega)];rfl
 .show Nd.holds _ _ _ wj;unfold wj;generalize hρ:bw [(x:Int)] false [Hl.none,R]=ρ;have v0:ρ.i 0=x:=by rw[<-hρ];rfl
  have w1:ρ.h 1=R:=by rw[<-hρ];rfl
  simp only[Nd.holds,X.pre,X.rel,X.n,Src.ok,Src.len,Src.bG,Zy,Zm,ZG,Zx,Zp,Nat.reduceAdd,Zd,Zh,bn,bj,aJ,aU,aR,bm,aZ,bh,bg,bd,aV,ba,bk,aX,aW,aK,aY,ai,aj,aB,aF,aD,ar,aG,aQ,aP,aq,aI,az,aH,av,TV.ev,SV.ev,CV.ev,Zf,Zr,bx.hl];rw[v0,w1];obtain⟨a,sv,hR⟩:=id hI;obtain⟨_,_,e12⟩:=hR.cells (i:=0) (by omega);have e12:R.cell ((x:Int)).toNat (Int.toNat 12)=some (.int .i64 (dv st)):=by rw[Y7];exact e12
  rw[e12];refine⟨by omega,rfl,lY rfl (z:=dv st) ?_ fun F x' R' st' h1 h2 h'=>?_⟩
  .show cW ((ρ.h 1).cell (ρ.i 0).toNat (Int.toNat 12+0))=_;rw[v0,w1,Zp,e12];rfl
  .simp only[Ze,Zm,Value.pointer.injEq,Zj,Addr.mk.injEq]at h1 h2;subst h1 h2;rw[EB fun i hi=>hI.st h' hi]
def wg (st:Nat->List Pc):List Value:=[.int .u64 (st 0).length,.int .u64 (st 1).length,.int .u64 (st 2).length,.int .u64 (st 3).length,.int .u64 (st 4).length,.int .u64 (st 5).length]
def lr (st:Nat->List Pc):Prop:=∀ i,i<6->(st i).length<1000000
def kG:Sx.Spec where
 fn:=69
 own:=[]
 rd:=[0]
 res:=[.agg (List.replicate 6 (Ck.int .u64))]
 pre:=fun xs Hs Rs=>∃ x R st,xs=[.pointer (some ⟨x,0,none⟩)]/\Rs=[R]/\nF R x st/\lr st
 post:=fun xs Hs Rs v Hs' F=>∀ x R st,xs=[.pointer (some ⟨x,0,none⟩)]->Rs=[R]->nF R x st->lr st->v=.agg (wg st).toArray
def wq:Nd:=(fun a b c=>(fun d f g h i j=>(.ext (.alloc 2) (.ext (.alloc 3) (.and (.e (.le b c)) (.and (.e (.his 1 c b 0 .ptr)) (.and (.e (.his 1 c b 1 .ptr)) (.and (.e (.his 1 c b 2 .ptr)) (.and (.e (.his 1 c b 3 .ptr)) (.and (.e (.his 1 c b 4 .ptr)) (.and (.e (.his 1 c b 5 .ptr)) (.and (.pre d) (.ext d (.and (.pre f) (.ext f (.and (.pre g) (.ext g (.and (.pre h) (.ext h (.and (.pre i) (.ext i (.and (.pre j) (.ext j (.post [.ro 1 [.var 0] true,.dead,.dead] (.sv (.agg (al 4 (List.replicate 6 (Ck.int .u64)))))))))))))))))))))))))):Nd)) (.call 0 4 [.sv (.one (.hptr (.hP 1 c b 0 0) (.hP 1 c b 0 1)))] [] a) (.call 0 5 [.sv (.one (.hptr (.hP 1 c b 1 0) (.hP 1 c b 1 1)))] [] a) (.call 0 6 [.sv (.one (.hptr (.hP 1 c b 2 0) (.hP 1 c b 2 1)))] [] a) (.call 0 7 [.sv (.one (.hptr (.hP 1 c b 3 0) (.hP 1 c b 3 1)))] [] a) (.call 0 8 [.sv (.one (.hptr (.hP 1 c b 4 0) (.hP 1 c b 4 1)))] [] a) (.call 0 9 [.sv (.one (.hptr (.hP 1 c b 5 0) (.hP 1 c b 5 1)))] [] a)) [.ro 1 [.var 0] true] (.lit 0) (.var 0)
def T9:List Sx.Spec:=[pL]
theorem Vi:T9[0]?=some pL:=rfl
def Hz:bU Tryz.prog T9 kG.fn where
 Λ:=aM
 args:=[TP (.var 0) (.lit 0)]
 mem:=[.ro 1 [.var 0] true]
 nv:=2
 nd:=wq
 ok:=by kernel_rfl
theorem wv:kG.OK Tryz.prog:=by
 refine Spec.bJ (Γ:=T9) (fun t ht=>by rw[T9,Zn]at ht;subst ht;exact we) ?_;rintro xs Hs Rs hl1 hl2 ⟨x,R,st,rfl,rfl,hI,hS⟩;have e0:Hs=[]:=Za.1 hl1;subst e0;refine⟨Hz,bw [x] false [Hl.none,R],fun _ _=>True,fun _ _=>0,?_,dB (by intro r hr;simp [Hz]at hr;subst hr;exact⟨_,_,_,rfl⟩) rfl,(fun _ h=>nomatch h),?_⟩
 .show [Value.pointer (aA (x:Int) 0)]=_;rw[au (by omega)];rfl
 .show Nd.holds _ _ _ wq;unfold wq;generalize hρ:bw [(x:Int)] false [Hl.none,R]=ρ;have v0:ρ.i 0=x:=by rw[<-hρ];rfl
  have w1:ρ.h 1=R:=by rw[<-hρ];rfl
  clear hρ;obtain⟨a,sv,hR⟩:=id hI;have hc:∀ q:Env,ah 2 ρ q->∀ i,i<6->(q.h 1).cell (q.i 0).toNat (Int.toNat 0+i)=some (.pointer (some ⟨a i,0,none⟩))/\q.h 1=R:=fun q g i hi=>by
   rw[g.i 0,g.h 1,v0,w1,Y7];refine⟨?_,rfl⟩;have:=(hR.cells hi).1;rw[show Int.toNat 0+i=i from ZM i];exact this
  simp only[Nd.holds,X.pre,X.rel,X.n,Src.ok,Src.len,Src.bG,Zy,Zm,ZG,Zx,Zp,Nat.reduceAdd,Zd,Zh,bn,bj,aJ,aU,aR,bm,aZ,bh,bg,bd,aV,ba,bk,aX,aW,aK,aY,ai,aj,aB,aF,aD,ar,aG,aQ,aP,aq,aI,az,aH,av,TV.ev,SV.ev,CV.ev,Zf,Zr,bx.hl,cu,Cp.sv,Ck.cv,bf,Cp.len,Ck.len,aE,aN,aT,Vi,Qh];have hp:∀ q:Env,ah 2 ρ q->∀ i,i<6->Value.pointer (aA (bM ((q.h 1).cell (q.i 0).toNat (Int.toNat 0+i)) 0) (bM ((q.h 1).cell (q.i 0).toNat (Int.toNat 0+i)) 1))=.pointer (some ⟨a i,0,none⟩)/\q.h 1=R/\bY ((q.h 1).cell (q.i 0).toNat (Int.toNat 0+i)) .ptr=true:=fun q g i hi=>by
   obtain⟨e1,e2⟩:=hc q g i hi;rw[e1];exact⟨fK,e2,rfl⟩
  have hl:∀ i,i<6->(kF st i).length<1000000:=fun i hi=>by unfold kF;rw[ZD];exact hS i hi
  intro q0 g0 _ q1 g1 _;have G1:ah 2 ρ q1:=g0.tr g1;obtain⟨f1,f2,f3⟩:=hp q1 G1 0 (by omega);refine⟨by rw[G1.i 0,v0];omega,f3,(hp q1 G1 1 (by omega)).2.2,(hp q1 G1 2 (by omega)).2.2,(hp q1 G1 3 (by omega)).2.2,(hp q1 G1 4 (by omega)).2.2,(hp q1 G1 5 (by omega)).2.2,?_⟩;have f1:Value.pointer (aA (bM ((q1.h 1).cell (q1.i 0).toNat (Int.toNat 0)) 0) (bM ((q1.h 1).cell (q1.i 0).toNat (Int.toNat 0)) 1))=.pointer (some ⟨a 0,0,none⟩):=f1;rw[f1,f2];refine⟨⟨_,R,_,_,rfl,rfl,hR.ch 0 (by omega)⟩,fun q2 g2 ⟨F2,h2,_⟩=>?_⟩;have h2:=iZ (hR.ch 0 (by omega)) (hl 0 (by omega)) h2;have G2:ah 2 ρ q2:=G1.tr g2;rw[(hp q2 G2 1 (by omega)).1,(hp q2 G2 1 (by omega)).2.1];refine⟨⟨_,R,_,_,rfl,rfl,hR.ch 1 (by omega)⟩,fun q3 g3 ⟨F3,h3,_⟩=>?_⟩;have h3:=iZ (hR.ch 1 (by omega)) (hl 1 (by omega)) h3;have G3:ah 2 ρ q3:=G2.tr g3;rw[(hp q3 G3 2 (by omega)).1,(hp q3 G3 2 (by omega)).2.1];refine⟨⟨_,R,_,_,rfl,rfl,hR.ch 2 (by omega)⟩,fun q4 g4 ⟨F4,h4,_⟩=>?_⟩;have h4:=iZ (hR.ch 2 (by omega)) (hl 2 (by omega)) h4;have G4:ah 2 ρ q4:=G3.tr g4;rw[(hp q4 G4 3 (by omega)).1,(hp q4 G4 3 (by omega)).2.1];refine⟨⟨_,R,_,_,rfl,rfl,hR.ch 3 (by omega)⟩,fun q5 g5 ⟨F5,h5,_⟩=>?_⟩;have h5:=iZ (hR.ch 3 (by omega)) (hl 3 (by omega)) h5;have G5:ah 2 ρ q5:=G4.tr g5;rw[(hp q5 G5 4 (by omega)).1,(hp q5 G5 4 (by omega)).2.1];refine⟨⟨_,R,_,_,rfl,rfl,hR.ch 4 (by omega)⟩,fun q6 g6 ⟨F6,h6,_⟩=>?_⟩;have h6:=iZ (hR.ch 4 (by omega)) (hl 4 (by omega)) h6;have G6:ah 2 ρ q6:=G5.tr g6;rw[(hp q6 G6 5 (by omega)).1,(hp q6 G6 5 (by omega)).2.1];refine⟨⟨_,R,_,_,rfl,rfl,hR.ch 5 (by omega)⟩,fun q7 g7 ⟨F7,h7,_⟩=>?_⟩;have h7:=iZ (hR.ch 5 (by omega)) (hl 5 (by omega)) h7;intro _;refine⟨[],[],rfl,rfl,⟨⟨fun k=>q7.i (k+4),fun _=>false,fun _=>.empty,fun _=>.tuple #[],fun _=>Hl.none⟩,rfl,⟨trivial,trivial,trivial,trivial,trivial,trivial,trivial⟩,trivial⟩,fun x' R' st' e1 e2 h' hS'=>?_⟩;simp only[Ze,Zm,Value.pointer.injEq,Zj,Addr.mk.injEq]at e1 e2;subst e1 e2;have es:∀ i,i<6->((kF st i).length:Int)=(st' i).length:=fun i hi=>by unfold kF;rw[ZD,hI.st h' hi]
  show Value.agg #[.int .u64 (q7.i 4),.int .u64 (q7.i 5),.int .u64 (q7.i 6),.int .u64 (q7.i 7),.int .u64 (q7.i 8),.int .u64 (q7.i 9)]=_;have B6:ah 9 q6 q7:=g7;have B5:ah 8 q5 q7:=g6.tr B6;have B4:ah 7 q4 q7:=g5.tr B5;have B3:ah 6 q3 q7:=g4.tr B4;have B2:ah 5 q2 q7:=g3.tr B3;rw[B2.i 4,B3.i 5,B4.i 6,B5.i 7,B6.i 8];have h2:q2.i 4=_:=h2;have h3:q3.i 5=_:=h3;have h4:q4.i 6=_:=h4;have h5:q5.i 7=_:=h5;have h6:q6.i 8=_:=h6;have h7:q7.i 9=_:=h7;rw[h2,h3,h4,h5,h6,h7,es 0 (by omega),es 1 (by omega),es 2 (by omega),es 3 (by omega),es 4 (by omega),es 5 (by omega)];rfl
noncomputable def tG:Sx.Spec where
 fn:=105
 own:=[]
 rd:=[0,1001053,1001125,2000005]
 res:=[.one (.int .i64)]
 pre:=fun xs Hs Rs=>∃ x R st row T B RG p,xs=[.pointer (some ⟨x,0,none⟩),.agg row.toArray]/\Rs=[R,T,B,RG]/\nF R x st/\lr st/\gm T B row p/\p.b.length<=900000/\uz RG 5
 post:=fun xs Hs Rs v Hs' F=>∀ x R st row T B RG p,xs=[.pointer (some ⟨x,0,none⟩),.agg row.toArray]->Rs=[R,T,B,RG]->nF R x st->gm T B row p->v=.int .i64 (ct st p)
def E2:Nd:=(fun a h c d f i=>(fun b g=>(.ext (.alloc 137) (.and (.pre f) (.ext f (.and (.imp (.not (.bvar 138)) (.post a (.sv (.one (.int .i64 (.lit 1)))))) (.imp (.bvar 138) (.and (.e (.le i h)) (.and (.e (.le i c)) (.and (.e (.lt c (.lit 6))) (.and (.e (.his 133 h c 0 .ptr)) (.and (.pre b) (.ext b (.and (.imp (.not (.eq (.var 139) i)) (.post a (.sv (.one (.int .i64 (.var 139)))))) (.imp (.eq (.var 139) i) (.and (.pre d) (.ext d (.and (.imp (.not (.bvar 140)) (.post a (.sv (.one (.int .i64 (.lit 2)))))) (.imp (.bvar 140) (.and (.e (.his 133 h (.lit 12) 0 (.int .i64))) (.and (.imp g (.post a (.sv (.one (.int .i64 (.lit 4)))))) (.imp (.not g) (.post a (.sv (.one (.int .i64 i))))))))))))))))))))))):Nd)) (.call 1 139 [.sv (.one (.hptr (.hP 133 h c 0 0) (.hP 133 h c 0 1))),.sv (.agg (al 1 cX))] [] [.ro 133 [.var 0] true,.ro 134 [.var 54] false]) (.le (.lit 400) (.hI 133 h (.lit 12) 0))) [.ro 133 [.var 0] true,.ro 134 [.var 54] false,.ro 135 [.var 129] false,.ro 136 [.lit 5] false,.dead] (.var 0) (.wrap .i64 (.sub (.var 1) (.lit 1))) (.call 2 140 [.sv (.agg (al 1 Av))] [] [.ro 135 [.var 129] false,.ro 136 [.lit 5] false]) (.call 0 138 [.sv (.agg (al 1 cX))] [] [.ro 134 [.var 54] false]) (.lit 0)
noncomputable def QL:List Sx.Spec:=[fR 117,qO,yj]
theorem QM:∀ t∈QL,t.OK Tryz.prog:=fun t ht=>by
 simp only[QL,Zl,Zq,ZO]at ht;rcases ht with rfl | rfl | rfl
 .exact oQ
 .exact Cd
 .exact J5
theorem Vj:QL[0]?=some (fR 117):=rfl
theorem Vk:QL[1]?=some qO:=rfl
theorem Vl:QL[2]?=some yj:=rfl
theorem Vm:qO.res=[.one (.int .i64)]:=rfl
theorem Vn:yj.res=[.one .bool]:=rfl
noncomputable def Po:bU Tryz.prog QL tG.fn where
 Λ:=aM
 args:=TP (.var 0) (.lit 0)::(bf 1 [.agg Av]).map .sv
 mem:=[.ro 133 [.var 0] true,.ro 134 [.var 54] false,.ro 135 [.var 129] false,.ro 136 [.lit 5] false]
 nv:=137
 nd:=E2
 ok:=by kernel_rfl
open Classical in
set_option maxRecDepth 20000 in
theorem CG:tG.OK Tryz.prog:=by
 refine Spec.bJ (Γ:=QL) QM ?_;rintro xs Hs Rs hl1 hl2 ⟨x,R,st,row,T,B,RG,p,rfl,rfl,hI,hS,hx,hlen,hKat⟩;have e0:Hs=[]:=Za.1 hl1;subst e0;obtain⟨ρ,va,rfl,hh,hnw⟩:=Bb (a:=(x:Int)) [(133,R),(134,T),(135,B),(136,RG)] hx.ok;have w1:ρ.h 133=R:=hh 133;have w2:ρ.h 134=T:=hh 134;have w3:ρ.h 135=B:=hh 135;have w4:ρ.h 136=RG:=hh 136;refine⟨Po,ρ,fun _ _=>True,fun _ _=>0,?_,dB (by intro r hr;simp [Po]at hr;rcases hr with rfl | rfl | rfl | rfl<;>exact⟨_,_,_,rfl⟩) (by show [ρ.h 133,ρ.h 134,ρ.h 135,ρ.h 136]=_;rw[w1,w2,w3,w4]),(fun _ h=>nomatch h),?_⟩
 .show [Value.pointer (aA (ρ.i 0) 0),.agg ((al 1 iL).map (CV.ev ρ)).toArray]=_;rw[va,au (by omega)];rfl
 show Nd.holds _ _ _ E2;unfold E2;simp only[Nd.holds,X.pre,X.rel,X.n,Src.ok,Src.len,Src.bG,Zy,Zm,ZG,Zx,Zp,Nat.reduceAdd,Zd,Zh,bn,bj,aJ,aU,aR,bm,aZ,bh,bg,bd,aV,ba,bk,aX,aW,aK,aY,ai,aj,aB,aF,aD,ar,aG,aQ,aP,aq,aI,az,aH,av,TV.ev,SV.ev,CV.ev,Zf,Zr,bx.hl,cu,Cp.sv,Ck.cv,bf,Cp.len,Ck.len,aE,aN,aT,Vj,Vk,Vl,NH,Vm,Vn];generalize hrow0:(al 1 iL).map (CV.ev ρ)=row at *;have ht0:(al 1 cX).map (CV.ev ρ)=row.take 125:=by rw[<-hrow0,pc]
 have V:∀ q:Env,ah 137 ρ q->q.i 0=x/\q.h 133=R/\q.h 134=T/\q.h 135=B/\q.h 136=RG/\(al 1 cX).map (CV.ev q)=row.take 125/\(al 1 Av).map (CV.ev q)=row/\q.i 1=ρ.i 1:=fun q g=>by
  refine⟨by rw[g.i 0,va],by rw[g.h 133,w1],by rw[g.h 134,w2],by rw[g.h 135,w3],by rw[g.h 136,w4],?_,?_,g.i 1⟩
  .rw[<-ht0];exact ZW Array.toList (Value.agg.inj (fQ (ks:=cX) (n:=1) g (by decide)))
  .rw[<-hrow0];exact ZW Array.toList (Value.agg.inj (fQ (ks:=iL) (n:=1) g (by decide)))
 obtain⟨a,sv,hR⟩:=id hI;have hbody:row=row.take 125++[row.getD 125 ze]:=XS hx.ok;have hd:=hx.hd;have hw1:cI p.h.c 0=ρ.i 1:=by
  have e1:cI p.h.c 0=cI (row.take 125) 0:=hd.I (by decide);rw[e1,<-ht0];rfl
 have out:∀ {q:Env} {mem:Mem} {e:E},aC q e=ct st p->postOf tG [.pointer (some ⟨x,0,none⟩),.agg row.toArray] [] [R,T,B,RG] q mem (.sv (.one (.int .i64 e))):=fun {q mem e} he =>
  lY rfl he fun F x' R' st' row' T' B' RG' p' e1 e2 h' hx'=>by
   simp only[Ze,Zm,Value.pointer.injEq,Zj,Addr.mk.injEq,Value.agg.injEq]at e1 e2;obtain⟨rfl,e1⟩:=e1;obtain⟨rfl,rfl,rfl,rfl⟩:=e2;have e1:=ZL e1;subst e1;obtain rfl:=hx.uniq hx';rw[nS (fun i hi=>hI.st h' hi) p]
 intro q1 g1 p1;obtain⟨v0,x1,x2,x3,x4,xr,xr2,_⟩:=V q1 g1;rw[xr,x2];refine⟨⟨_,T,p.h,rfl,rfl,hd⟩,fun q2 g2 ⟨F2,hp2,_⟩=>?_⟩;have G2:ah 137 ρ q2:=g1.tr g2;have hb2:q2.b 138=decide p.h.Form:=Value.bool.inj (lP hd hp2);obtain⟨y0,y1,y2,y3,y4,yr,yr2,y5⟩:=V q2 G2;refine⟨fun hb=>out ?_,fun hb=>?_⟩
 .have hF:¬p.h.Form:=by rw[hb2]at hb;simpa using hb
  unfold ct;rw[ZA hF];rfl
 have hF:p.h.Form:=by rw[hb2]at hb;simpa using hb
 have hFn:¬¬p.h.Form:=fun g=>g hF;have hw:=vX hF;have hw2:IntKind.i64.wrap (ρ.i 1-1)=((cI p.h.c 0-1).toNat:Nat):=by rw[hw1,IntKind.wrap_i64];rw[hw1]at hw;omega
 generalize hi:(cI p.h.c 0-1).toNat=i at *;have hi6:i<6:=by omega
 have hwi:cI p.h.c 0=((i+1:Nat):Int):=by omega
 obtain⟨c1,c2,c3⟩:=hR.cells hi6;have c1':R.cell ((x:Int)).toNat (Int.toNat ((i:Nat):Int))=some (.pointer (some ⟨a i,0,none⟩)):=by rw[Y7,Y7];exact c1
 have c3':R.cell ((x:Int)).toNat (Int.toNat 12)=some (.int .i64 (dv st)):=by rw[Y7];exact c3
 have hlen2:(kF st i).length<1000000:=by unfold kF;rw[ZD];exact hS i hi6
 rw[y0,y1,y2,y5,yr,hw2,c1',fK];refine⟨by omega,by omega,by omega,rfl,⟨a i,R,_,_,_,T,p.h,rfl,rfl,hR.ch i hi6,hlen2,hd⟩,fun q3 g3 ⟨F3,⟨a',R',w',hs',row',T',h',f1,f2,d2,i2,hv⟩,_⟩=>?_⟩;simp only[Ze,Zm,Value.pointer.injEq,Zj,Addr.mk.injEq,Value.agg.injEq]at f1 f2;obtain⟨rfl,f1⟩:=f1;obtain⟨rfl,rfl⟩:=f2;have f1:=ZL f1;subst f1;obtain⟨rfl,rfl⟩:=(hR.ch i hi6).uniq d2;obtain rfl:=hd.uniq i2;have hask:q3.i 139=fU (cI p.h.c 0) (kF st i) p.h:=by rw[hwi];simpa using hv
 have G3:ah 137 ρ q3:=G2.tr g3;obtain⟨z0,z1,z2,z3,z4,zr,zr2,z5⟩:=V q3 G3;refine⟨fun hne=>out ?_,fun heq=>?_⟩
 .unfold ct;rw[Zo hFn,hi,ZA (by rw[<-hask];exact hne)];exact hask
 have h0:¬fU (cI p.h.c 0) (kF st i) p.h≠0:=fun g=>g (hask.symm.trans heq);rw[zr2,z3,z4];have hrk:bS (row.take 125) dQ:=hd.ok;refine⟨⟨row.take 125,row.getD 125 ze,p.b,B,RG,by rw[<-hbody],rfl,hrk,hx.body,hx.byte,hlen,hKat⟩,fun q4 g4 ⟨F4,hp4,_⟩=>?_⟩;have hp4:=hp4 (row.take 125) (row.getD 125 ze) p.b B RG (by rw[<-hbody]) rfl hx.body;have hb4:q4.b 140=eQ p.h.c p.b:=by rw[<-yk hd];exact Value.bool.inj hp4
 have G4:ah 137 ρ q4:=G3.tr g4;obtain⟨u0,u1,_⟩:=V q4 G4;refine⟨fun hb=>out ?_,fun hb=>?_⟩
 .unfold ct;rw[Zo hFn,hi,Zo h0,ZA (by rw[<-hb4];simpa using hb)];rfl
 have hwb:¬eQ p.h.c p.b=false:=by rw[<-hb4,hb];decide
 rw[u0,u1,c3'];refine⟨rfl,fun h4=>out ?_,fun h4=>out ?_⟩
 .have h4:400<=dv st:=h4;unfold ct;rw[Zo hFn,hi,Zo h0,Zo hwb,ZA h4];rfl
 .have h4:¬400<=dv st:=h4;unfold ct;rw[Zo hFn,hi,Zo h0,Zo hwb,Zo h4];rfl
open Classical in
noncomputable def dE (st:Nat->List Pc) (p:Pc):Nat->List Pc:=if ct st p=0 then te st (cI p.h.c 0-1).toNat (st (cI p.h.c 0-1).toNat++[p])else st
noncomputable def CJ:Sx.Spec where
 fn:=98
 own:=[.arg 0]
 rd:=[1001053,1001125,2000005]
 res:=[.one (.int .i64)]
 pre:=fun xs Hs Rs=>∃ x H st row T B RG p,xs=[.pointer (some ⟨x,0,none⟩),.agg row.toArray]/\Hs=[H]/\Rs=[T,B,RG]/\qJ H x st/\lr st/\gm T B row p/\p.b.length<=900000/\uz RG 5
 post:=fun xs Hs Rs v Hs' F=>∃ x H st row T B RG p H',xs=[.pointer (some ⟨x,0,none⟩),.agg row.toArray]/\Hs=[H]/\Rs=[T,B,RG]/\qJ H x st/\gm T B row p/\Hs'=[H']/\v=.int .i64 (ct st p)/\qJ H' x (dE st p)
def E7:Nd:=(fun a g o m p l k=>(fun f c d h i=>(fun n=>(fun b j=>(.ext (.alloc 137) (.and (.pre d) (.ext d (.and (.imp (.not (.eq (.var 138) k)) (.post [.hp 133 [] o [],.ro 134 m false,.ro 135 l true,.ro 136 p false,.dead] (.sv (.one (.int .i64 (.var 138)))))) (.imp (.eq (.var 138) k) (.and (.e (.le k g)) (.and (.e (.le k a)) (.and (.e (.lt a (.lit 6))) (.and (.e (.his 133 g a 0 .ptr)) (.and (.pre c) (.ext c (.and (.imp (.not (.eq (.var 139) k)) (.post [.hp 139 [133] o [],.ro 134 m false,.ro 135 l true,.ro 136 p false,.dead] (.sv (.one (.int .i64 (.var 139)))))) (.imp (.eq (.var 139) k) (.and (.e (.his 139 g f 0 .slice)) (.and (.pre h) (.ext h (.ext (.alloc 145) (.and (.pre b) (.ext b (.and (.pre j) (.ext j (.and (.e (.his 148 g (.lit 12) 0 (.int .i64))) (.and (.pre i) (.ext i (.post [.hp 149 [148,146,139,133] [.var 146,.var 0] [],.ro 134 m false,.ro 135 l true,.ro 136 p false,.dead,.hp 141 [] [.var 141] [],.dead] (.sv (.one (.int .i64 k))))))))))))))))))))))))))):Nd)) (.app 146 46 1 24 (.sl (.hP 139 g f 0 0) (.hP 139 g f 0 1) n (.hP 139 g f 0 3)) n (.hp 139 [133] o []) (.cvs [.sl (.var 141) (.var 142) (.var 143) (.var 144)] 1)) (.put 148 146 g f [.sl (.var 146) k (.add n (.lit 1)) (.var 147)])) (.hP 139 g f 0 2)) (.add (.lit 6) a) (.call 1 139 [.sv (.one (.hptr (.hP 133 g a 0 0) (.hP 133 g a 0 1))),.sv (.agg (al 1 cX))] [.hp 133 [] o []] [.ro 134 m false,.ro 136 p false]) (.call 0 138 [.sv (.one (.hptr g k)),.sv (.agg (al 1 Av))] [] [.hp 133 [] o [],.ro 134 m false,.ro 135 l true,.ro 136 p false]) (.call 2 141 [.sv (.one (.sl (.var 129) (.var 130) (.var 131) (.var 132)))] [] [.ro 135 l true]) (.put 149 148 g (.lit 12) [.int .i64 (.wrap .i64 (.add (.hI 148 g (.lit 12) 0) (.lit 1)))])) (.wrap .i64 (.sub (.var 1) (.lit 1))) (.var 0) [.var 0] [.var 54] [.lit 5] [.var 129] (.lit 0)
noncomputable def QN (K R:Hl):List Sx.Spec:=[tG,AD Ca K R,eX]
theorem QO (K R:Hl):∀ t∈QN K R,t.OK Tryz.prog:=fun t ht=>by
 simp only[QN,Zl,Zq,ZO]at ht;rcases ht with rfl | rfl | rfl
 .exact CG
 .exact IV rfl KI K R
 .exact jQ
theorem Vq (K R:Hl):(QN K R)[0]?=some tG:=rfl
theorem Vr (K R:Hl):(QN K R)[1]?=some (AD Ca K R):=rfl
theorem Vs (K R:Hl):(QN K R)[2]?=some eX:=rfl
theorem S8:tG.res=[.one (.int .i64)]:=rfl
theorem Vt (K R:Hl):(AD Ca K R).res=[.one (.int .i64)]:=rfl
theorem S9:eX.res=[.one .sl]:=rfl
theorem qi {st:Nat->List Pc} {p:Pc} (h:ct st p=0):p.h.Form/\fU (cI p.h.c 0) (kF st (cI p.h.c 0-1).toNat) p.h=0/\eQ p.h.c p.b=true/\dv st<400:=by
 unfold ct at h;split at h
 .cases h
 .rename_i hF;split at h
  .rename_i hn;exact absurd h hn
  .rename_i ha;split at h
   .cases h
   .rename_i hw;split at h
    .cases h
    .rename_i hc;exact⟨abu.1 hF,abu.1 ha,by simpa using hw,by omega⟩
noncomputable def CK (K R:Hl):bU Tryz.prog (QN K R) CJ.fn where
 Λ:=aM
 args:=TP (.var 0) (.lit 0)::(bf 1 [.agg Av]).map .sv
 mem:=[.hp 133 [] [.var 0] [],.ro 134 [.var 54] false,.ro 135 [.var 129] true,.ro 136 [.lit 5] false]
 nv:=137
 nd:=E7
 ok:=by kernel_rfl
set_option maxRecDepth 20000 in
theorem Lv:CJ.OK Tryz.prog:=by
 refine Spec.Oj fun xs Hs Rs ⟨x,H,st,row,T,B,RG,p,ex,eH,eR,hI,hS,hx,hlen,hKat⟩=>?_;obtain⟨a,sv,Kc,KB,hD⟩:=id hI;generalize hi:(cI p.h.c 0-1).toNat=i;refine Spec.bJ (Γ:=QN (Kc i) (H.minus (Kc i))) (QO _ _) ?_;rintro xs' Hs' Rs' hl1 hl2 ⟨e1,e2,e3⟩;subst e1 e2 e3 ex eH eR;obtain⟨ρ,va,rfl,hh,hnw⟩:=Bb (a:=(x:Int)) [(133,H),(134,T),(135,B),(136,RG)] hx.ok;have w1:ρ.h 133=H:=hh 133;have w2:ρ.h 134=T:=hh 134;have w3:ρ.h 135=B:=hh 135;have w4:ρ.h 136=RG:=hh 136;refine⟨CK _ _,ρ,fun _ _=>True,fun _ _=>0,?_,⟨?_,?_,?_,?_⟩,(fun _ h=>nomatch h),?_⟩
 .show [Value.pointer (aA (ρ.i 0) 0),.agg ((al 1 iL).map (CV.ev ρ)).toArray]=_;rw[va,au (by omega)];rfl
 .intro r hr ho;simp [CK]at hr;rcases hr with rfl | rfl | rfl | rfl
  .exact⟨H,by simp,by show(ρ.h 133).le H;rw[w1];exact Hl.le_refl _⟩
  all_goals cases ho
 .intro r hr ho;simp [CK]at hr;rcases hr with rfl | rfl | rfl | rfl
  .cases ho
  .exact⟨T,by simp,by show(ρ.h 134).le T;rw[w2];exact Hl.le_refl _⟩
  .exact⟨B,by simp,by show(ρ.h 135).le B;rw[w3];exact Hl.le_refl _⟩
  .exact⟨RG,by simp,by show(ρ.h 136).le RG;rw[w4];exact Hl.le_refl _⟩
 .simp [CK,bx.own]
 .intro r hr;simp [CK]at hr;rcases hr with rfl | rfl | rfl | rfl<;>trivial
 show Nd.holds _ _ _ E7;unfold E7;simp only[Nd.holds,X.pre,X.rel,X.n,Src.ok,Src.len,Src.bG,Zy,Zm,ZG,Zx,Zp,Nat.reduceAdd,Zd,Zh,bn,bj,aJ,aU,aR,bm,aZ,bh,bg,bd,aV,ba,bk,aX,aW,aK,aY,ai,aj,aB,aF,aD,ar,aG,aQ,aP,aq,aI,az,aH,av,TV.ev,SV.ev,CV.ev,Zf,Zr,bx.hl,cu,Cp.sv,Ck.cv,bf,Cp.len,Ck.len,aE,aN,aT,Vq,Vr,Vs,S8,Vt,S9,Kk];generalize hrow0:(al 1 iL).map (CV.ev ρ)=row at *;have ht0:(al 1 cX).map (CV.ev ρ)=row.take 125:=by rw[<-hrow0,pc]
 have hb0:Value.slice (aA (ρ.i 129) (ρ.i 130)) (ρ.i 131).toNat (ρ.i 132).toNat=row.getD 125 ze:=by rw[<-hrow0,uO]
 have V:∀ q:Env,ah 137 ρ q->q.i 0=x/\q.h 133=H/\q.h 134=T/\q.h 135=B/\q.h 136=RG/\(al 1 cX).map (CV.ev q)=row.take 125/\(al 1 Av).map (CV.ev q)=row/\q.i 1=ρ.i 1/\Value.slice (aA (q.i 129) (q.i 130)) (q.i 131).toNat (q.i 132).toNat=row.getD 125 ze:=fun q g=>by
  refine⟨by rw[g.i 0,va],by rw[g.h 133,w1],by rw[g.h 134,w2],by rw[g.h 135,w3],by rw[g.h 136,w4],?_,?_,g.i 1,?_⟩
  .rw[<-ht0];exact ZW Array.toList (Value.agg.inj (fQ (ks:=cX) (n:=1) g (by decide)))
  .rw[<-hrow0];exact ZW Array.toList (Value.agg.inj (fQ (ks:=iL) (n:=1) g (by decide)))
  .rw[g.i 129,g.i 130,g.i 131,g.i 132];exact hb0
 have hd:=hx.hd;have hw1:cI p.h.c 0=ρ.i 1:=by
  have e1:cI p.h.c 0=cI (row.take 125) 0:=hd.I (by decide);rw[e1,<-ht0];rfl
 have ep:Value.pointer (aA (x:Int) 0)=.pointer (some ⟨x,0,none⟩):=by rw[au (by omega)];rfl
 intro q1 g1 p1;obtain⟨v0,x1,x2,x3,x4,xr,xr2,_,_⟩:=V q1 g1;rw[v0,ep,xr2,x1,x2,x3,x4];refine⟨⟨x,H,st,_,T,B,RG,p,rfl,rfl,hI.rd,hS,hx,hlen,hKat⟩,fun q2 g2 ⟨F2,hp2,_⟩=>?_⟩;have hask:q2.i 138=ct st p:=by simpa using hp2 _ _ _ _ _ _ _ _ rfl rfl hI.rd hx
 have G2:ah 137 ρ q2:=g1.tr g2;obtain⟨y0,y1,y2,y3,y4,yr,yr2,y5,_⟩:=V q2 G2;refine⟨fun hne _=>?_,fun heq=>?_⟩
 .refine⟨[[0]],[],rfl,rfl,⟨⟨fun _=>q2.i 138,fun _=>false,fun _=>.empty,fun _=>.tuple #[],fun _=>Hl.none⟩,rfl,trivial,trivial⟩,x,H,st,_,T,B,RG,p,_,rfl,rfl,rfl,hI,hx,rfl,by rw[<-hask];rfl,?_⟩;unfold dE;rw[Zo (by rw[<-hask];exact hne)];show qJ (dC [q2.h 133]) _ _;rw[bz,y1];exact hI
 obtain⟨hF,ha0,_,hcnt⟩:=qi (hask.symm.trans heq);have hw:=vX hF;rw[hi]at ha0;have hw2:IntKind.i64.wrap (ρ.i 1-1)=((i:Nat):Int):=by rw[IntKind.wrap_i64];rw[hw1]at hw hi;omega
 have hi6:i<6:=by omega
 have hwi:cI p.h.c 0=((i+1:Nat):Int):=by omega
 rw[hwi]at ha0;have hxK:=hD.nox i hi6;obtain⟨c1,c2,c3⟩:=(show PQ H x st a sv from ⟨hD.bD,fun j hj=>⟨Kc j,hD.le j hj,hD.ch j hj⟩,fun j hj=>by
  obtain⟨us,h1,h2⟩:=hD.row j hj;exact⟨us,h1,fun k u q hu hq=>gD (h2 k u q hu hq) hD.kb⟩⟩).cells hi6
 have c1':H.cell ((x:Int)).toNat (Int.toNat ((i:Nat):Int))=some (.pointer (some ⟨a i,0,none⟩)):=by rw[Y7,Y7];exact c1
 have hlen2:(kF st i).length<1000000:=by unfold kF;rw[ZD];exact hS i hi6
 rw[y0,y1,y2,y4,y5,yr,hw2,c1',fK];refine⟨by omega,by omega,by omega,rfl,⟨by rw[Hl.LS (hD.le i hi6)],Hl.Jg _ _,a i,Kc i,_,_,_,T,RG,p.h,rfl,rfl,rfl,hD.ch i hi6,hlen2,hd,hKat⟩,fun q3 g3 ⟨F3,⟨K',k1,k2,k3,a',K2,w',hs',row',T',RG',h',K'',f1,f2,f3,d2,i2,f4,hv,hok,hno⟩,_⟩=>?_⟩;simp only[Ze,Zm,Value.pointer.injEq,Zj,Addr.mk.injEq,Value.agg.injEq]at f1 f2 f3 f4 k1;obtain⟨rfl,f1⟩:=f1;obtain⟨rfl,rfl⟩:=f3;have f1:=ZL f1;subst f1 f2 f4;obtain⟨rfl,rfl⟩:=c9.uniq ⟨Kc i,Hl.le_refl _,hD.ch i hi6⟩ ⟨_,Hl.le_refl _,d2⟩;obtain rfl:=hd.uniq i2;have hask3:q3.i 139=0:=by rw[<-ha0];simpa using hv
 have hch:=hok ha0;have G3:ah 137 ρ q3:=G2.tr g3;obtain⟨z0,z1,z2,z3,z4,zr,zr2,z5,zb⟩:=V q3 G3;refine⟨fun hne=>absurd hask3 hne,fun _=>?_⟩;have lR:(H.minus (Kc i)).le (q3.h 139):=by rw[k1];exact Hl.cD k2
 have xR:(H.minus (Kc i)) x=some (.cells (BS a sv (dv st)).toArray 182 (0,0)):=by
  unfold Hl.minus;have hxK:¬((Kc i) x).isSome=true:=hxK;rw[Zo hxK];exact hD.bD
 have c2q:∀ q:Env,q.i 0=x->q.i 1=ρ.i 1->q.h 139=q3.h 139->(q.h 139).cell (q.i 0).toNat (6+IntKind.i64.wrap (q.i 1-1)).toNat=some (sv i):=fun q h1 h2 h3=>by
  rw[h1,h2,h3,hw2,Y7,show(6+((i:Nat):Int)).toNat=6+i by omega];have:=(HF a sv (dv st) hi6).2;unfold Hl.cell;rw[lR _ _ xR];simpa using this
 obtain⟨us,ho,hus⟩:=hD.row i hi6;have hsl:∃ p l c,sv i=Value.slice p l c:=by
  rcases ho.2 with ⟨h,_⟩ | ⟨_,_,_,h,_⟩<;>exact⟨_,_,_,h⟩
 have hsl2:bM (some (sv i)) 2=(st i).length:=by
  rcases ho.2 with ⟨h,hn⟩ | ⟨_,_,_,h,_⟩
  .rw[h,hn];rfl
  .rw[h];rfl
 have hsv:bY (some (sv i)) .slice=true:=by obtain⟨_,_,_,e⟩:=hsl;rw[e];rfl
 rw[c2q q3 z0 z5 rfl,zb,z3];refine⟨hsv,⟨_,p.b,B,rfl,rfl,hx.body,by omega⟩,fun q4 g4 ⟨F4,⟨u',bs',R',m1,m2,m3,m4⟩,hF4,hn4⟩ q5 g5 p5=>?_⟩;simp only[Ze,Zm]at m1 m2;subst m1 m2;obtain rfl:=hx.body.uniq m3;rw[<-hF4 trivial]at m4;have G5:ah 139 q3 q5:=g4.mono.tr g5;have G5':ah 137 ρ q5:=G3.tr G5;obtain⟨s0,s1,s2,s3,s4,sr,X1,s5,sb⟩:=V q5 G5';have h139:q5.h 139=q3.h 139:=by rw[g5.h 139,g4.h 139]
 rw[c2q q5 s0 s5 h139,iB hsl,hsl2,h139,k1,Y7];have hoM:bE (K'.un (H.minus (Kc i))) 46 1 (sv i) (st i).length us:=ho.at fun b hb=>by
  obtain⟨c,hc⟩:=ho.type hb;have hnk:=((hD.own i b hi6 hb).2 i hi6).1;have:(H.minus (Kc i)) b=H b:=by
   unfold Hl.minus;have hnk:¬((Kc i) b).isSome=true:=hnk;rw[Zo hnk]
  rw[Hl.cD k2 b _ (this.trans hc),hc]
 have hst:=hS i hi6;refine⟨⟨⟨us,hoM⟩,by omega,by unfold maxLen;omega,by omega⟩,fun q6 g6 ⟨a1,a2,happ,hkp,_,hnw⟩=>?_⟩;have G6:ah 139 q3 q6:=G5.tr g6;obtain⟨t0,t1,t2,t3,t4,tr,X4,t5,tb⟩:=V q6 (G3.tr G6);have h139b:q6.h 139=q3.h 139:=by rw[g6.h 139,h139]
 have ex6:(q6.h 146) x=some (.cells (BS a sv (dv st)).toArray 182 (0,0)):=by
  have e1:=Hl.cD k2 x _ xR;rw[hkp x (Hl.mem_of e1) fun e=>?_,e1];obtain⟨c,hc⟩:=ho.type e.symm;rw[hD.bD]at hc;simp at hc
 have en:(((st i).length:Int)+1).toNat=(st i).length+1:=by omega
 have e6i:(6+((i:Nat):Int)).toNat=6+i:=by omega
 rw[c2q q6 t0 t5 h139b,hsl2,en,t0,t5,hw2,e6i,Y7];refine⟨⟨by omega,by omega,jk ex6 (by show 6+i+1<=13;omega)⟩,fun q7 g7 p7=>?_⟩;have G7:ah 139 q3 q7:=G6.tr g7;obtain⟨r0,_⟩:=V q7 (G3.tr G7);have ex7:(q7.h 148) x=some (.cells (BS a (te sv i (.slice (aA (q6.i 146) 0) ((st i).length+1) (q6.i 147).toNat)) (dv st)).toArray 182 (0,0)):=by
  rw[p7,Hl.qq ex6];simp only[abj];rw[Lz _ _ _ _ hi6]
 have c12:(q7.h 148).cell ((x:Int)).toNat (Int.toNat 12)=some (.int .i64 (dv st)):=by
  rw[Y7];unfold Hl.cell;rw[ex7];rfl
 rw[r0,c12];have hc0:0<=dv st:=aa4 _;have hwc:IntKind.i64.wrap (cW (some (Value.int .i64 (dv st)))+1)=dv st+1:=by
  show IntKind.i64.wrap (dv st+1)=_;rw[IntKind.wrap_i64];omega
 rw[hwc,Y7];refine⟨rfl,⟨by omega,by omega,jk ex7 (by show 12+1<=13;omega)⟩,fun q8 g8 p8=>?_⟩;intro hdis;have hGB:(q8.h 149).cG (q8.h 141):=hdis 0 5 _ _ (by decide) rfl rfl rfl;have h141:q8.h 141=q4.h 141:=by rw[g8.h 141,g7.h 141,g6.h 141,g5.h 141]
 have e8:q8.h 149=((q6.h 146).put x (6+i) [.slice (aA (q6.i 146) 0) ((st i).length+1) (q6.i 147).toNat]).put x 12 [.int .i64 (dv st+1)]:=by rw[p8,p7];rfl
 rw[e8,h141]at hGB;have m4':fp (q4.h 141) (.slice (aA (q5.i 141) (q5.i 142)) (q5.i 143).toNat (q5.i 144).toNat) p.b:=by
  rw[g5.i 141,g5.i 142,g5.i 143,g5.i 144];exact m4.rd.w
 have key:=hD.put hi6 k2 hch m4' a1 happ hkp hnw hGB;have e0:ct st p=0:=hask.symm.trans heq;refine⟨[[0,5]],[],rfl,rfl,⟨⟨fun _=>0,fun _=>false,fun _=>.empty,fun _=>.tuple #[],fun _=>Hl.none⟩,rfl,trivial,trivial⟩,x,H,st,_,T,B,RG,p,_,rfl,rfl,rfl,hI,hx,rfl,by rw[e0];rfl,?_⟩;unfold dE;rw[ZA e0,hi];show qJ (dC [q8.h 149,q8.h 141]) _ _;rw[AI,e8,h141];exact⟨_,_,_,_,key⟩
theorem rC {q:Env} : ∀ {a b:List Ck} {n:Nat},dd n a q->dd (n+bR a) b q->dd n (a++b) q
 | [],b,n,_,h=>by simpa [bR] using h
 | k::a,b,n,h,h2=>⟨h.1,rC h.2 (by rw[show n+k.len+bR a=n+bR (k::a)by simp [bR];omega];exact h2)⟩
theorem Q6 {q:Env} {n:Nat} (h:il (n+53) q .sl):dd n cX q:=by
 have e:cX=([i64,.int .u64]++List.replicate 32 (.int .u8)++[i64,.bool,.int .u64]++List.replicate 16 (.int .u8))++([.sl]++(List.replicate 6 (.int .u64)++List.replicate 32 (.int .u8)++[i64]++List.replicate 32 (.int .u8))):=rfl;rw[e];exact rC (de _ _ _ rfl) (rC ⟨h,trivial⟩ (de _ _ _ rfl))
set_option maxRecDepth 20000 in
theorem Mc {q:Env} {n:Nat} (h:il (n+53) q .sl) (h2:il (n+128) q .sl):dd n iL q:=rC (Q6 h) ⟨h2,trivial⟩
def Good (st:Nat->List Pc):Prop:=∀ i,i<6->∀ p∈st i,aS p.b/\p.b.length<=1000000
def yQ:Sx.Spec where
 fn:=74
 own:=[]
 rd:=[0]
 res:=[.agg iL,.one (.int .i64)]
 pre:=fun xs Hs Rs=>∃ x R st n s,xs=[.pointer (some ⟨x,0,none⟩),.int .i64 n,.int .u64 s]/\Rs=[R]/\nF R x st/\lr st/\Good st/\(0<=s/\s<18446744073709551616)
 post:=fun xs Hs Rs v Hs' F=>∃ x R st n s,xs=[.pointer (some ⟨x,0,none⟩),.int .i64 n,.int .u64 s]/\Rs=[R]/\nF R x st /\
  (((1<=n/\n<=6)/\(1<=s/\s<=(st (n-1).toNat).length)/\∃ row p,(st (n-1).toNat)[(s-1).toNat]?=some p/\v=.tuple #[.agg row.toArray,.int .i64 0]/\gm F F row p)\/(¬((1<=n/\n<=6)/\1<=s/\s<=(st (n-1).toNat).length)/\∃ u,v=.tuple #[u,.int .i64 11]))
def XD:List CV:=[.int .i64 (.lit 0),.int .u64 (.lit 0)]++List.replicate 32 (CV.int .u8 (.lit 0))++[.int .i64 (.lit 0),.bool .ff,.int .u64 (.lit 0)]++List.replicate 16 (CV.int .u8 (.lit 0))++[.sl (.lit (-1)) (.lit 0) (.lit 0) (.lit 0),.int .u64 (.lit 0),.int .u64 (.lit 0),.int .u64 (.lit 0),.int .u64 (.lit 0),.int .u64 (.lit 0),.int .u64 (.lit 0)]++List.replicate 32 (CV.int .u8 (.lit 0))++[.int .i64 (.lit 0)]++List.replicate 32 (CV.int .u8 (.lit 0))++[.sl (.lit (-1)) (.lit 0) (.lit 0) (.lit 0)]
def E3:Nd:=(fun g n k j o=>(fun l d=>(fun a b h=>(fun c i m=>(fun f=>(.ext (.alloc 4) (.and (.imp (.not (.lt n (.lit 1))) (.and (.imp (.lt (.lit 6) n) m) (.imp (.not (.lt (.lit 6) n)) (.and (.e (.le g k)) (.and (.e (.le g d)) (.and (.e (.lt d (.lit 6))) (.and (.e (.his 3 k d 0 .ptr)) (.and (.pre h) (.ext h (.ext (.alloc 134) (.and (.imp (.not (.bvar 133)) (.post [.ro 3 o true,.dead,.hp 5 [] [.var 58] [],.dead] a)) (.imp (.bvar 133) (.and (.e (.his 3 k b 0 .slice)) (.and (.e (.le g i)) (.and (.e (.le g (.hP 3 k b 0 1))) (.and (.e (.le g j)) (.and (.e (.lt j (.hP 3 k b 0 2))) (.and (.e (.his 3 i c 0 .slice)) (.and (.pre f) (.ext f (.post [.ro 3 o true,.dead,.hp 5 [] [.var 58] [],.dead,.hp 135 [] [.var 135] []] (.tup [.agg (al 5 cX++[.sl (.var 135) (.var 136) (.var 137) (.var 138)]),.one (.int .i64 g)])))))))))))))))))))))) (.imp (.lt n (.lit 1)) m)):Nd)) (.call 1 135 [.sv (.one (.sl (.hP 3 i c 0 0) (.hP 3 i c 0 1) (.hP 3 i c 0 2) (.hP 3 i c 0 3)))] [] [.ro 3 o true])) (.add (.hP 3 k b 0 1) j) (.hP 3 k b 0 0) (.post [.ro 3 o true,.dead] a)) (.tup [.agg ([.int .i64 g,.int .u64 g]++List.replicate 32 l++[.int .i64 g,.bool .ff,.int .u64 g]++List.replicate 16 l++[.sl (.lit (-1)) g g g,.int .u64 g,.int .u64 g,.int .u64 g,.int .u64 g,.int .u64 g,.int .u64 g]++List.replicate 32 l++[.int .i64 g]++List.replicate 32 l++[.sl (.lit (-1)) g g g]),.one (.int .i64 (.lit 11))]) (.add (.lit 6) d) (.call 0 5 [.sv (.one (.hptr (.hP 3 k d 0 0) (.hP 3 k d 0 1))),.sv (.one (.int .u64 (.var 2)))] [] [.ro 3 o true])) (CV.int .u8 g) (.wrap .i64 (.sub n (.lit 1)))) (.lit 0) (.var 1) (.var 0) (.wrap .u64 (.sub (.var 2) (.lit 1))) [.var 0]
def Sd:List Sx.Spec:=[Ce,eX]
theorem QK:∀ t∈Sd,t.OK Tryz.prog:=fun t ht=>by
 simp only[Sd,Zl,Zq,ZO]at ht;rcases ht with rfl | rfl
 .exact GU
 .exact jQ
theorem Vg:Sd[0]?=some Ce:=rfl
theorem Vh:Sd[1]?=some eX:=rfl
def Pp:bU Tryz.prog Sd yQ.fn where
 Λ:=aM
 args:=[TP (.var 0) (.lit 0),TI .i64 (.var 1),.sv (.one (.int .u64 (.var 2)))]
 mem:=[.ro 3 [.var 0] true]
 nv:=4
 nd:=E3
 ok:=by kernel_rfl
set_option maxRecDepth 20000 in
theorem AK {x:Nat} {n s:Int} {R:Hl} {st:Nat->List Pc} (hI:nF R x st) (hno:¬((1<=n/\n<=6)/\1<=s/\s<=(st (n-1).toNat).length)) {q:Env} {mem:Mem} : postOf yQ [.pointer (some ⟨x,0,none⟩),.int .i64 n,.int .u64 s] [] [R] q mem (.tup [.agg XD,.one (.int .i64 (.lit 11))]):=by
 intro _;exact⟨[],[],rfl,rfl,⟨⟨fun k=>if k=53 then -1 else if k=128 then -1 else if k=132 then 11 else 0,fun _=>false,fun _=>.empty,fun _=>.tuple #[],fun _=>Hl.none⟩,rfl,⟨Mc ⟨by decide,by decide,by decide,by decide⟩ ⟨by decide,by decide,by decide,by decide⟩,trivial,trivial⟩⟩,x,R,st,n,s,rfl,rfl,hI,Or.inr ⟨hno,_,rfl⟩⟩
set_option maxRecDepth 20000 in
theorem Lp:yQ.OK Tryz.prog:=by
 refine Spec.bJ (Γ:=Sd) QK ?_;rintro xs Hs Rs hl1 hl2 ⟨x,R,st,n,s,rfl,rfl,hI,hS,hG,hs⟩;have e0:Hs=[]:=Za.1 hl1;subst e0;refine⟨Pp,bw [x,n,s] false [Hl.none,Hl.none,Hl.none,R],fun _ _=>True,fun _ _=>0,?_,dB (by intro r hr;simp [Pp]at hr;subst hr;exact⟨_,_,_,rfl⟩) rfl,(fun _ h=>nomatch h),?_⟩
 .show [Value.pointer (aA (x:Int) 0),.int .i64 n,.int .u64 s]=_;rw[au (by omega)];rfl
 show Nd.holds _ _ _ E3;unfold E3;generalize hρ:bw [(x:Int),n,s] false [Hl.none,Hl.none,Hl.none,R]=ρ;have V:∀ q:Env,ah 4 ρ q->q.i 0=x/\q.i 1=n/\q.i 2=s/\q.h 3=R:=fun q g=>by
  rw[g.i 0,g.i 1,g.i 2,g.h 3,<-hρ];exact⟨rfl,rfl,rfl,rfl⟩
 clear hρ;simp only[Nd.holds,X.pre,X.rel,X.n,Src.ok,Src.len,Src.bG,Zy,Zm,ZG,Zx,Zp,Nat.reduceAdd,Zd,Zh,bn,bj,aJ,aU,aR,bm,aZ,bh,bg,bd,aV,ba,bk,aX,aW,aK,aY,ai,aj,aB,aF,aD,ar,aG,aQ,aP,aq,aI,az,aH,av,TV.ev,SV.ev,CV.ev,Zf,Zr,bx.hl,cu,Cp.sv,Ck.cv,bf,Cp.len,Ck.len,aE,aN,aT,Vg,Vh,SI,SH,S9,Kk];obtain⟨a,sv,hR⟩:=id hI;intro q1 g1 p1;obtain⟨v0,v1,v2,w3⟩:=V q1 g1;rw[v0,v1,v2,w3];refine⟨fun h1=>⟨fun h6=>AK hI (by omega),fun h6=>?_⟩,fun h1=>AK hI (by omega)⟩;obtain⟨i,hi⟩:∃ i:Nat,n-1=i:=⟨(n-1).toNat,by omega⟩;have hi6:i<6:=by omega
 have hni:(n-1).toNat=i:=by omega
 have hw:IntKind.i64.wrap (n-1)=((i:Nat):Int):=by rw[IntKind.wrap_i64];omega
 obtain⟨c1,c2,_⟩:=hR.cells hi6;have c1':R.cell ((x:Int)).toNat (Int.toNat ((i:Nat):Int))=some (.pointer (some ⟨a i,0,none⟩)):=by rw[Y7,Y7];exact c1
 have hlen:(kF st i).length<1000000:=by unfold kF;rw[ZD];exact hS i hi6
 rw[hw,c1',fK];refine⟨by omega,by omega,by omega,rfl,⟨a i,R,_,_,s,rfl,rfl,hR.ch i hi6,hs,hlen⟩,fun q2 g2 ⟨F2,⟨a',R',w',hs',s',f1,f2,d2,hcase⟩,hF2,hn2⟩ q3 g3 p3=>?_⟩;simp only[Ze,Zm,Value.pointer.injEq,Zj,Addr.mk.injEq,Value.int.injEq,Zy]at f1 f2;obtain⟨rfl,rfl⟩:=f1;subst f2;obtain⟨rfl,rfl⟩:=(hR.ch i hi6).uniq d2;have hl:(kF st i).length=(st i).length:=by unfold kF;rw[ZD]
 have hb3:q3.b 133=q2.b 133:=g3.b 133;rw[hb3];refine⟨fun hb=>?_,fun hb=>?_⟩
 .rcases hcase with ⟨m1,m2,row',h',hh',ev,hI'⟩ | ⟨hno,u,ev⟩
  .simp only[Value.tuple.injEq,ZY,Ze,Value.bool.injEq,Zm]at ev;exact absurd ev.2 hb
  .exact AK hI (by rw[hni];rw[hl]at hno;exact fun g=>hno g.2)
 rcases hcase with ⟨m1,m2,row',h',hh',ev,hI'⟩ | ⟨hno,u,ev⟩
 rotate_left
 .simp only[Value.tuple.injEq,ZY,Ze,Value.bool.injEq,Zm]at ev;exact absurd (ev.2.symm.trans hb) (by decide)
 simp only[Value.tuple.injEq,ZY,Ze,Value.bool.injEq,Zm,Value.agg.injEq]at ev;have er:=ev.1;rw[<-hF2 trivial]at hI';rw[hl]at m2;obtain⟨us,ho,hus⟩:=hR.row i hi6;have hjl:(s-1).toNat<(st i).length:=by omega
 have hp:(st i)[(s-1).toNat]?=some (st i)[(s-1).toNat]:=Y8 hjl;have hul:(s-1).toNat<us.length:=by have:=ho.1;omega
 have hu:us[(s-1).toNat]?=some us[(s-1).toNat]:=Y8 hul;have hbody:=hus _ _ _ hu hp;obtain⟨g,cap,cur,hv,hg,hle,hmx,hsz,ht⟩:∃ g cap cur,sv i=.slice (some ⟨g,0,none⟩) (st i).length cap/\R g=some (.cells cur 46 (0,0))/\(st i).length<=cap/\cap<=maxLen/\cur.size=cap*1/\cur.toList.take ((st i).length*1)=us:=by
  rcases ho.2 with ⟨_,hn⟩ | h
  .omega
  .exact h
 have hce:R.cell ((g:Int)).toNat (0+(s-1)).toNat=some us[(s-1).toNat]:=by
  rw[Y7,Int.zero_add];unfold Hl.cell;rw[hg];rw[<-hu,<-ht,Z2,ZA (by omega),aa7]
 obtain⟨y0,y1,y2,y3⟩:=V q3 (g1.trans (g2.mono.tr g3));have c2':R.cell ((x:Int)).toNat (6+((i:Nat):Int)).toNat=some (.slice (some ⟨g,0,none⟩) (st i).length cap):=by
  rw[Y7,show(6+((i:Nat):Int)).toNat=6+i by omega,c2,hv]
 have hw2:IntKind.u64.wrap (s-1)=s-1:=by rw[IntKind.wrap_u64];omega
 have k0:bM (some (Value.slice (some ⟨g,0,none⟩) (st i).length cap)) 0=(g:Int):=rfl;have k1:bM (some (Value.slice (some ⟨g,0,none⟩) (st i).length cap)) 1=0:=rfl;have k2:bM (some (Value.slice (some ⟨g,0,none⟩) (st i).length cap)) 2=(st i).length:=rfl;obtain⟨x5,y5,cc5,e5,_⟩:=id hbody;have hsl5:∃ p l c,us[(s-1).toNat]=Value.slice p l c:=⟨_,_,_,e5⟩;rw[y0,y1,y2,y3,hw,c2',hw2,k0,k1,k2,hce,iB hsl5];have hGp:=hG i hi6 _ (Zb hp);refine⟨rfl,by omega,by omega,by omega,by omega,by rw[e5];rfl,⟨_,_,R,rfl,rfl,hbody,hGp.2⟩,fun q4 g4 ⟨F4,⟨u',bs',R',z1,z2,z3,z4⟩,hF4,hn4⟩ hdis=>?_⟩;simp only[Ze,Zm]at z1 z2;subst z1 z2;obtain rfl:=hbody.uniq z3;rw[<-hF4 trivial]at z4;have hGB:(q4.h 5).cG (q4.h 135):=hdis 2 4 _ _ (by decide) rfl rfl rfl;have A4:ah 134 q2 q4:=g3.mono.tr g4;have rowB:(al 5 cX).map (CV.ev q4)=row':=(ZW Array.toList (Value.agg.inj (fQ (ks:=cX) (n:=5) (m:=134) A4 (by decide)))).trans er;have hbl:∃ sl,sl=Value.slice (aA (q4.i 135) (q4.i 136)) (q4.i 137).toNat (q4.i 138).toNat:=⟨_,rfl⟩;obtain⟨sl,hsl⟩:=hbl;rw[<-hsl]at z4;have aL:bS (row'++[sl]) qo:=by
  have:qo=dQ++[Kd.slice]:=rfl;rw[this];exact mf hI'.ok (by rw[hsl];rfl)
 have hl125:row'.length=125:=fL hI'.ok;have h5:q4.h 5=q2.h 5:=A4.h 5;have hn2':il 58 q4 .sl:=by
  have hh:=hn2.1;have e:cX=(([i64,.int .u64]:List Ck)++List.replicate 32 (.int .u8)++[i64,.bool,.int .u64]++List.replicate 16 (.int .u8))++([Ck.sl]++(List.replicate 6 (.int .u64)++List.replicate 32 (.int .u8)++[i64]++List.replicate 32 (.int .u8))):=rfl;have sp:∀ (a b:List Ck) (n:Nat),dd n (a++b) q2->dd (n+bR a) b q2:=by
   intro a
   induction a with
   | nil=>intro b n h;simpa [bR] using h
   | cons k a ih=>intro b n h;have:=ih b _ h.2;rw[show n+k.len+bR a=n+bR (k::a)by simp [bR];omega]at this;exact this
  have hh:dd 5 cX q2:=hh;rw[e]at hh;obtain⟨n1,n2,n3,n4⟩:=(sp _ _ _ hh).1;have n1:-1<=q2.i 58:=n1;have n2:0<=q2.i 59:=n2;have n3:0<=q2.i 60:=n3;have n4:0<=q2.i 61:=n4;exact⟨by rw[A4.i 58];exact n1,by rw[A4.i 59];exact n2,by rw[A4.i 60];exact n3,by rw[A4.i 61];exact n4⟩
 have hn4':il 135 q4 .sl:=hn4.1;have ph:(st i)[(s-1).toNat].h=h':=by
  unfold kF at hh';rw[Zs,hp]at hh';simpa using hh'
 refine⟨[],[2,4],rfl,rfl,⟨⟨fun k=>if k<128 then q4.i (k+5)else if k<132 then q4.i (k+7)else 0,fun k=>q4.b (k+5),q4.s,q4.v,q4.h⟩,rfl,⟨Mc hn2' hn4',trivial,trivial⟩⟩,x,R,st,n,s,rfl,rfl,hI,Or.inl ⟨⟨by omega,by omega⟩,⟨by omega,by rw[hni];omega⟩,row'++[sl],(st i)[(s-1).toNat],by rw[hni];exact hp,?_,?_⟩⟩
 .show Value.tuple #[.agg ((al 5 cX++[CV.sl (.var 135) (.var 136) (.var 137) (.var 138)]).map (CV.ev q4)).toArray,.int .i64 0]=_;rw[ZP,rowB,hsl];rfl
 .show gm (dC [q4.h 5,q4.h 135]) (dC [q4.h 5,q4.h 135]) _ _;rw[AI];refine⟨aL,?_,?_,hGp.1,hGp.2⟩
  .rw[abq hl125,ph];rw[<-h5]at hI';exact hI'.mono (Hl.cC _ _)
  .have:(row'++[sl]).getD 125 ze=sl:=by rw[Zt,Zz (by omega),hl125];rfl
   rw[this];exact gD z4.rd.w (Hl.cD hGB)
end Go.Proofs.YtomdimlnggpgbaaGreatDoor
namespace Go.Proofs.YtomdimlnggpgbaaGreatDoor
open Go Go.RowKit Go.Extern.Stop Go.Stop Go.Extern
theorem FR (t:Addr) (w:World):(ReflectliteValue.unpack (.iface 166 (.pointer (some t)))).run Tryz.prog w=.ok (.agg #[.pointer (some ⟨7,166,none⟩),.pointer (some ⟨w.heap.size,0,none⟩),.int .u64 150]) (w.alloc (.cells #[.pointer (some t)] 166)):=by kernel_rfl
theorem OH (a:Addr) (w:World):(ReflectliteValue.methodAny (ReflectliteValue.valueError "reflectlite.Value.Type" 0) (fun t _ _ _=>ReflectliteType.toType t) #[.agg #[.pointer (some ⟨7,166,none⟩),.pointer (some a),.int .u64 150]]).run Tryz.prog w=.ok (.iface 243 (.agg #[.pointer (some ⟨7,166,none⟩)])) w:=by kernel_rfl
theorem OE (h:Value) (w:World):(Go.method 431 243 (.agg #[h]) "Kind").run Tryz.prog w=.ok (224,h) w:=by kernel_rfl
theorem OB (w:World):((ReflectliteType.abiMethod fun t=>(fun a:Nat=>Value.int IntKind.u8 (a:Int)) <$>Rtype.kind t) #[.pointer (some ⟨7,166,none⟩)]).run Tryz.prog w=.ok (.int .u8 22) w:=by kernel_rfl
theorem OA (w:World):((ReflectliteType.abiMethod fun t=>(fun a:Nat=>Value.int IntKind.u8 (a:Int)) <$>Rtype.kind t) #[.pointer (some ⟨7,164,none⟩)]).run Tryz.prog w=.ok (.int .u8 22) w:=by kernel_rfl
theorem PC (z:Sem Value) (f:TypeId->Addr->Nat->Nat->Sem Value) (v:Value):ReflectliteValue.method z f #[v]=(do match<-ReflectliteValue.parts v with | none=>z | some (t,a,fl)=>f t a fl (fl%32)):=rfl
theorem Dv (a:Addr) (w:World):(ReflectliteValue.parts (.agg #[.pointer (some ⟨7,166,none⟩),.pointer (some a),.int .u64 150])).run Tryz.prog w=.ok (some (166,a,150)) w:=by kernel_rfl
theorem Mt (a p:Addr) (W:World) (ha:W.cell? a=some (.pointer (some p))):(ReflectliteValue.method (ReflectliteValue.valueError "reflectlite.Value.IsNil" 0) ReflectliteValue.isNil #[.agg #[.pointer (some ⟨7,166,none⟩),.pointer (some a),.int .u64 150]]).run Tryz.prog W=.ok (.bool false) W:=by
 rw[PC];simp only[Sem.run_bind,Dv,Result.andThen];simp [ReflectliteValue.isNil,loadVar,isAgg,underlying,Tryz.underlying166,ha,Result.andThen]
theorem OC (h:Value) (w:World):(Go.method 431 243 (.agg #[h]) "Elem").run Tryz.prog w=.ok (239,.agg #[h]) w:=by kernel_rfl
theorem OD (h:Value) (w:World):(Go.method 431 243 (.agg #[h]) "Implements").run Tryz.prog w=.ok (240,.agg #[h]) w:=by kernel_rfl
theorem Rg (h:Value) (w:World):(Go.method 431 243 (.agg #[h]) "AssignableTo").run Tryz.prog w=.ok (237,.agg #[h]) w:=by kernel_rfl
theorem Oy (w:World):(ReflectliteType.method ReflectliteType.elem #[.agg #[.pointer (some ⟨7,166,none⟩)]]).run Tryz.prog w=.ok (.iface 243 (.agg #[.pointer (some ⟨7,164,none⟩)])) w:=by kernel_rfl
theorem Rf (w:World):(ReflectliteType.relation "Implements" ReflectliteType.implements_ #[.agg #[.pointer (some ⟨7,164,none⟩)],.iface 243 (.agg #[.pointer (some ⟨7,107,none⟩)])]).run Tryz.prog w=.ok (.bool true) w:=by kernel_rfl
theorem OF (v:Value) (w:World):(ReflectliteType.typeOf #[.iface 164 v]).run Tryz.prog w=.ok (.iface 243 (.agg #[.pointer (some ⟨7,164,none⟩)])) w:=by kernel_rfl
theorem OG (v:Value) (w:World):(ReflectliteType.typeOf #[.iface 222 v]).run Tryz.prog w=.ok (.iface 243 (.agg #[.pointer (some ⟨7,222,none⟩)])) w:=by kernel_rfl
theorem Rd (w:World):(ReflectliteType.relation "AssignableTo" ReflectliteType.assignableTo #[.agg #[.pointer (some ⟨7,164,none⟩)],.iface 243 (.agg #[.pointer (some ⟨7,164,none⟩)])]).run Tryz.prog w=.ok (.bool true) w:=by kernel_rfl
theorem Re (w:World):(ReflectliteType.relation "AssignableTo" ReflectliteType.assignableTo #[.agg #[.pointer (some ⟨7,222,none⟩)],.iface 243 (.agg #[.pointer (some ⟨7,164,none⟩)])]).run Tryz.prog w=.ok (.bool false) w:=by kernel_rfl
theorem FQ (e:Addr) (w:World):(ReflectliteValue.unpack (.iface 164 (.pointer (some e)))).run Tryz.prog w=.ok (.agg #[.pointer (some ⟨7,164,none⟩),.pointer (some ⟨w.heap.size,0,none⟩),.int .u64 150]) (w.alloc (.cells #[.pointer (some e)] 164)):=by kernel_rfl
theorem Ms (w:World):(Rtype.elem? 166).run Tryz.prog w=.ok (some 164) w:=by kernel_rfl
theorem VR (p:Addr) (w:World):(ReflectliteValue.mk 164 p ReflectliteValue.flagAddr).run Tryz.prog w=.ok (.agg #[.pointer (some ⟨7,164,none⟩),.pointer (some p),.int .u64 406]) w:=by kernel_rfl
theorem Oz (a p:Addr) (W:World) (ha:W.cell? a=some (.pointer (some p))):(ReflectliteValue.method (ReflectliteValue.valueError "reflectlite.Value.Elem" 0) ReflectliteValue.elem #[.agg #[.pointer (some ⟨7,166,none⟩),.pointer (some a),.int .u64 150]]).run Tryz.prog W=.ok (.agg #[.pointer (some ⟨7,164,none⟩),.pointer (some p),.int .u64 406]) W:=by
 rw[PC];simp only[Sem.run_bind,Dv,Result.andThen];simp [ReflectliteValue.elem,loadVar,isAgg,underlying,Tryz.underlying166,ha,Result.andThen,Ms,VR]
theorem Ty (v x:Value):ReflectliteValue.set #[v,x]=(do
 let (some (dst,a,fl),some (src,b,_)):=(<-ReflectliteValue.parts v,<-ReflectliteValue.parts x)
  | unsupported (.noEntry "extern/(internal/reflectlite.Value).Set.zeroValue")
 if fl/ReflectliteValue.flagAddr%2==0 then unsupported (.noEntry "extern/(internal/reflectlite.Value).Set.unaddressable")
 let val<-loadVar src b
 if<-Rtype.directlyAssignable dst src then storeVar dst a val
 else if<-Rtype.implements dst src then
  if(<-Rtype.kind src)==20 then
   match val with
   | .nilIface=>unsupported (.noEntry "extern/reflectlite: a nil value of one interface type handed on as a value of another")
   | _=>storeVar dst a val
  else storeVar dst a (.iface src val)
 else panicString ("reflectlite.Set: value of type "++(<-Rtype.spelt src)++ " is not assignable to type "++(<-Rtype.spelt dst))
 pure (.tuple #[])):=rfl
theorem Jx (a:Addr) (w:World):(ReflectliteValue.parts (.agg #[.pointer (some ⟨7,164,none⟩),.pointer (some a),.int .u64 406])).run Tryz.prog w=.ok (some (164,a,406)) w:=by kernel_rfl
theorem Mu (a:Addr) (w:World):(ReflectliteValue.parts (.agg #[.pointer (some ⟨7,164,none⟩),.pointer (some a),.int .u64 150])).run Tryz.prog w=.ok (some (164,a,150)) w:=by kernel_rfl
theorem Mr (w:World):(Rtype.directlyAssignable 164 164).run Tryz.prog w=.ok true w:=by kernel_rfl
theorem Tz (ta b e:Addr) (old:Value) (W:World) (hb:W.cell? b=some (.pointer (some e))) (ht:W.cell? ta=some old) (hf:W.frozen? ta=false) :
 (ReflectliteValue.set #[.agg #[.pointer (some ⟨7,164,none⟩),.pointer (some ta),.int .u64 406],.agg #[.pointer (some ⟨7,164,none⟩),.pointer (some b),.int .u64 150]]).run Tryz.prog W=.ok (.tuple #[]) (W.setCell ta (.pointer (some e))):=by
 rw[Ty];simp only[Sem.run_bind,Jx,Mu,Result.andThen];simp [ReflectliteValue.flagAddr,loadVar,isAgg,underlying,Tryz.underlying164,hb,Result.andThen,Mr,storeVar,Value.cells,storeCells,Addr.add];rw[run_store Tryz.prog W ta _ _ (by rfl)];simp [ht,hf]
theorem Rh (v:Value) (xT:TypeId) (w:World):(Instr.typeAssert (.iface 222 v) xT 267 true).run Tryz.prog w=.ok (.tuple #[.nilIface,.bool false]) w:=run_typeAssert_lacksB Tryz.underlying267 (by kernel_rfl) (by kernel_rfl) v xT w
theorem Mv (v:Value) (xT:TypeId) (w:World):(Instr.typeAssert (.iface 222 v) xT 248 true).run Tryz.prog w=.ok (.tuple #[.iface 222 v,.bool true]) w:=run_typeAssert_hasB Tryz.underlying248 (by kernel_rfl) v xT w
theorem Jw (v:Value) (w:World):(Go.method 431 222 v "Unwrap").run Tryz.prog w=.ok (232,v) w:=by kernel_rfl
theorem FB (w:World):Calls Tryz.prog 61 #[.nilIface] w fun e w'=>e=.returned (.int .i64 0)/\Below w.heap.size w w':=by
 go_enter Tryz.func61,Tryz.ntmps61
 go_wp2
 go_ret
 exact⟨rfl,(Below.refl _ _).alloc (ZB _) _⟩
set_option maxRecDepth 20000 in
theorem FA (e:Nat) (s:ByteArray) (c:Int) (w:World) (hg:w.cell? ⟨4,0,none⟩=some (.iface 243 (.agg #[.pointer (some ⟨7,107,none⟩)])))
 (he:w.heap[e]?=some (.cells #[.string s,.int .i64 c] 168 (0,0))) :
 Calls Tryz.prog 61 #[.iface 222 (.agg #[.iface 164 (.pointer (some ⟨e,0,none⟩))])] w fun ev w'=>ev=.returned (.int .i64 c)/\Below w.heap.size w w':=by
 have h1:=@run_callFunc_extern Tryz.prog 138 _ (fun args=>ReflectliteValue.unpack (args.getD 0 (.tuple #[]))) Tryz.func138 (by kernel_rfl) (by kernel_rfl) (by kernel_rfl) (by kernel_rfl);have h2:=@run_callFunc_extern Tryz.prog 139 _ (ReflectliteValue.methodAny (ReflectliteValue.valueError "reflectlite.Value.Type" 0) (fun t _ _ _=>ReflectliteType.toType t)) Tryz.func139 (by kernel_rfl) (by kernel_rfl) (by kernel_rfl) (by kernel_rfl);have h3:=@run_callFunc_extern Tryz.prog 140 _ (ReflectliteValue.method (ReflectliteValue.valueError "reflectlite.Value.IsNil" 0) ReflectliteValue.isNil) Tryz.func140 (by kernel_rfl) (by kernel_rfl) (by kernel_rfl) (by kernel_rfl);have h4:=@run_callFunc_extern Tryz.prog 224 _ (ReflectliteType.abiMethod fun t=>do pure (.int .u8 (<-Rtype.kind t))) Tryz.func224 (by kernel_rfl) (by kernel_rfl) (by kernel_rfl) (by kernel_rfl);have h5:=@run_callFunc_extern Tryz.prog 239 _ (ReflectliteType.method ReflectliteType.elem) Tryz.func239 (by kernel_rfl) (by kernel_rfl) (by kernel_rfl) (by kernel_rfl);have h6:=@run_callFunc_extern Tryz.prog 240 _ (ReflectliteType.relation "Implements" ReflectliteType.implements_) Tryz.func240 (by kernel_rfl) (by kernel_rfl) (by kernel_rfl) (by kernel_rfl);have h7:=@run_callFunc_extern Tryz.prog 129 _ (ReflectliteType.typeOf) Tryz.func129 (by kernel_rfl) (by kernel_rfl) (by kernel_rfl) (by kernel_rfl);have h8:=@run_callFunc_extern Tryz.prog 237 _ (ReflectliteType.relation "AssignableTo" ReflectliteType.assignableTo) Tryz.func237 (by kernel_rfl) (by kernel_rfl) (by kernel_rfl) (by kernel_rfl);have h9:=@run_callFunc_extern Tryz.prog 173 _ (ReflectliteValue.method (ReflectliteValue.valueError "reflectlite.Value.Elem" 0) ReflectliteValue.elem) Tryz.func173 (by kernel_rfl) (by kernel_rfl) (by kernel_rfl) (by kernel_rfl);have h10:=@run_callFunc_extern Tryz.prog 174 _ (ReflectliteValue.set) Tryz.func174 (by kernel_rfl) (by kernel_rfl) (by kernel_rfl) (by kernel_rfl);have k0:=FR;have k1:=OH;have k2:=OE;have k3:=OB;have k4:=OA;have k5:=OC;have k6:=OD;have k7:=Rg;have k8:=Oy;have k9:=Rf;have k10:=OF;have k11:=OG;have k12:=Rd;have k13:=Re;have k14:=FQ;have k15:=Rh;have k16:=Mv;have k17:=Jw;have hlt:4<w.heap.size:=by
  rcases aaa 4 w.heap.size with h | h
  .exact h
  .simp [World.cell?,abr h]at hg
 have hel:e<w.heap.size:=(ZU.1 he).1;have QF:(((w.alloc (.cells #[.pointer none] 164)).alloc (.cells #[.pointer (some ⟨w.heap.size,0,none⟩)] 166)).alloc (.cells #[.pointer (some ⟨7,166,none⟩),.pointer (some ⟨w.heap.size+1,0,none⟩),.int .u64 150] 226)).cell? ⟨4,0,none⟩=some (.iface 243 (.agg #[.pointer (some ⟨7,107,none⟩)])):=by
  rw[World.cell?_alloc_lt _ _ ⟨4,0,none⟩ (by first | (simp;done) | (simp;omega)),World.cell?_alloc_lt _ _ ⟨4,0,none⟩ (by first | (simp;done) | (simp;omega)),World.cell?_alloc_lt _ _ ⟨4,0,none⟩ hlt];exact hg
 have n3:=Mt ⟨w.heap.size+1,0,none⟩ ⟨w.heap.size,0,none⟩ (((w.alloc (.cells #[.pointer none] 164)).alloc (.cells #[.pointer (some ⟨w.heap.size,0,none⟩)] 166)).alloc (.cells #[.pointer (some ⟨7,166,none⟩),.pointer (some ⟨w.heap.size+1,0,none⟩),.int .u64 150] 226)) (by rw[World.cell?_alloc_lt _ _ ⟨w.heap.size+1,0,none⟩ (by first | (simp;done) | (simp;omega)),World.cell?_alloc_at _ _ _ _ (by simp)];rfl);have ht5:(((((w.alloc (.cells #[.pointer none] 164)).alloc (.cells #[.pointer (some ⟨w.heap.size,0,none⟩)] 166)).alloc (.cells #[.pointer (some ⟨7,166,none⟩),.pointer (some ⟨w.heap.size+1,0,none⟩),.int .u64 150] 226)).alloc (.cells #[.pointer (some ⟨7,166,none⟩),.pointer (some ⟨w.heap.size+1,0,none⟩),.int .u64 150] 226)).alloc (.cells #[.iface 164 (.pointer (some ⟨e,0,none⟩))] 222)).cell? ⟨w.heap.size,0,none⟩=some (.pointer none):=by
  rw[World.cell?_alloc_lt _ _ ⟨w.heap.size,0,none⟩ (by first | (simp;done) | (simp;omega)),World.cell?_alloc_lt _ _ ⟨w.heap.size,0,none⟩ (by first | (simp;done) | (simp;omega)),World.cell?_alloc_lt _ _ ⟨w.heap.size,0,none⟩ (by first | (simp;done) | (simp;omega)),World.cell?_alloc_lt _ _ ⟨w.heap.size,0,none⟩ (by first | (simp;done) | (simp;omega)),World.cell?_alloc_at _ _ _ _ (by simp)];rfl
 have el:=Oz ⟨w.heap.size+1,0,none⟩ ⟨w.heap.size,0,none⟩ (((((w.alloc (.cells #[.pointer none] 164)).alloc (.cells #[.pointer (some ⟨w.heap.size,0,none⟩)] 166)).alloc (.cells #[.pointer (some ⟨7,166,none⟩),.pointer (some ⟨w.heap.size+1,0,none⟩),.int .u64 150] 226)).alloc (.cells #[.pointer (some ⟨7,166,none⟩),.pointer (some ⟨w.heap.size+1,0,none⟩),.int .u64 150] 226)).alloc (.cells #[.iface 164 (.pointer (some ⟨e,0,none⟩))] 222)) (by
  rw[World.cell?_alloc_lt _ _ ⟨w.heap.size+1,0,none⟩ (by first | (simp;done) | (simp;omega)),World.cell?_alloc_lt _ _ ⟨w.heap.size+1,0,none⟩ (by first | (simp;done) | (simp;omega)),World.cell?_alloc_lt _ _ ⟨w.heap.size+1,0,none⟩ (by first | (simp;done) | (simp;omega)),World.cell?_alloc_at _ _ _ _ (by simp)];rfl)
 have st:=Tz ⟨w.heap.size,0,none⟩ ⟨w.heap.size+1+1+1+1+1,0,none⟩ ⟨e,0,none⟩ (.pointer none) ((((((w.alloc (.cells #[.pointer none] 164)).alloc (.cells #[.pointer (some ⟨w.heap.size,0,none⟩)] 166)).alloc (.cells #[.pointer (some ⟨7,166,none⟩),.pointer (some ⟨w.heap.size+1,0,none⟩),.int .u64 150] 226)).alloc (.cells #[.pointer (some ⟨7,166,none⟩),.pointer (some ⟨w.heap.size+1,0,none⟩),.int .u64 150] 226)).alloc (.cells #[.iface 164 (.pointer (some ⟨e,0,none⟩))] 222)).alloc (.cells #[.pointer (some ⟨e,0,none⟩)] 164))
  (by rw[World.cell?_alloc_at _ _ _ _ (by simp)];rfl)
  (by rw[World.cell?_alloc_lt _ _ ⟨w.heap.size,0,none⟩ (by first | (simp;done) | (simp;omega))];exact ht5)
  (by rw[World.frozen?_alloc_old _ _ ⟨w.heap.size,0,none⟩ (by first | (simp;done) | (simp;omega)),World.frozen?_alloc_old _ _ ⟨w.heap.size,0,none⟩ (by first | (simp;done) | (simp;omega)),World.frozen?_alloc_old _ _ ⟨w.heap.size,0,none⟩ (by first | (simp;done) | (simp;omega)),World.frozen?_alloc_old _ _ ⟨w.heap.size,0,none⟩ (by first | (simp;done) | (simp;omega)),World.frozen?_alloc_old _ _ ⟨w.heap.size,0,none⟩ (by simp)];simp)
 have bl:Below w.heap.size w ((((((w.alloc (.cells #[.pointer (some ⟨e,0,none⟩)] 164)).alloc (.cells #[.pointer (some ⟨w.heap.size,0,none⟩)] 166)).alloc (.cells #[.pointer (some ⟨7,166,none⟩),.pointer (some ⟨w.heap.size+1,0,none⟩),.int .u64 150] 226)).alloc (.cells #[.pointer (some ⟨7,166,none⟩),.pointer (some ⟨w.heap.size+1,0,none⟩),.int .u64 150] 226)).alloc (.cells #[.iface 164 (.pointer (some ⟨e,0,none⟩))] 222)).alloc (.cells #[.pointer (some ⟨e,0,none⟩)] 164)):=((((((Below.refl _ _).alloc (ZB _) _).alloc (by simp) _).alloc (by first | (simp;done) | (simp;omega)) _).alloc (by first | (simp;done) | (simp;omega)) _).alloc (by first | (simp;done) | (simp;omega)) _).alloc (by first | (simp;done) | (simp;omega)) _;have hc:((((((w.alloc (.cells #[.pointer (some ⟨e,0,none⟩)] 164)).alloc (.cells #[.pointer (some ⟨w.heap.size,0,none⟩)] 166)).alloc (.cells #[.pointer (some ⟨7,166,none⟩),.pointer (some ⟨w.heap.size+1,0,none⟩),.int .u64 150] 226)).alloc (.cells #[.pointer (some ⟨7,166,none⟩),.pointer (some ⟨w.heap.size+1,0,none⟩),.int .u64 150] 226)).alloc (.cells #[.iface 164 (.pointer (some ⟨e,0,none⟩))] 222)).alloc (.cells #[.pointer (some ⟨e,0,none⟩)] 164)).cell? ⟨e,1,none⟩=some (.int .i64 c):=by
  rw[bl.cell hel];simp [World.cell?,he]
 go_enter Tryz.func61,Tryz.ntmps61
 go_wp2
 refine wp_loop_rounds 2 ?_;rw[rounds_succ]
 go_wp2
 rw[rounds_succ]
 go_wp2
 go_ret
 exact⟨rfl,bl⟩
end Go.Proofs.YtomdimlnggpgbaaGreatDoor
namespace Go.Proofs.YtomdimlnggpgbaaGreatDoor
open Go Go.Sx Go.RowKit
def yG:Value:=.iface 243 (.agg #[.pointer (some ⟨7,107,none⟩)])
def Ti (b:Nat):Value:=.iface 222 (.agg #[.iface 164 (.pointer (some ⟨b,0,none⟩))])
def ti (R:Hl) (v:Value) (c:Int):Prop:=(c=0/\v=.nilIface)\/∃ (b:Nat) (s:ByteArray),v=Ti b/\R b=some (.cells #[.string s,.int .i64 c] 168 (0,0))
theorem ti.Yj {R:Hl} {v:Value} {c d:Int} (h:ti R v c) (k:ti R v d):c=d:=by
 rcases h with ⟨rfl,rfl⟩ | ⟨b,s,rfl,hb⟩<;>rcases k with ⟨rfl,e⟩ | ⟨b',s',e,hb'⟩
 .rfl
 .cases e
 .cases e
 .simp only[Ti,Value.iface.injEq,Zy,Value.agg.injEq,ZY,Ze,Zm,Value.pointer.injEq,Zj,Addr.mk.injEq]at e;subst e;rw[hb]at hb';simp at hb';exact hb'.2
def qu:Sx.Spec where
 fn:=61
 own:=[]
 rd:=[7000168,2000004]
 res:=[.one (.int .i64)]
 pre:=fun xs Hs Rs=>∃ e R G c,xs=[e]/\Rs=[R,G]/\G.cell 4 0=some yG/\ti R e c
 post:=fun xs Hs Rs v Hs' F=>∃ e R G,xs=[e]/\Rs=[R,G]/\∀ c,ti R e c->v=.int .i64 c
theorem Hl.KN {R:Hl} {w:World} (h:R.sub w) {b y:Nat} {v:Value} (hc:R.cell b y=some v):w.cell? ⟨b,y,none⟩=some v:=by
 unfold Hl.cell at hc;cases hb:R b with
 | none=>rw[hb]at hc;cases hc
 | some o =>
  have hw:=h _ _ hb;rw[hb]at hc;cases o with
  | cells c t f=>simp only[World.cell?,hw];exact hc
  | _=>simp at hc
theorem zx:qu.OK Tryz.prog:=by
 refine mA rfl fun w xs Rs hs ⟨e,R,G,c,e1,e2,hG,hN⟩=>?_;subst e1 e2;refine⟨.int .i64 c,⟨⟨fun _=>c,fun _=>true,fun _=>.empty,fun _=>.tuple #[],fun _=>Hl.none⟩,rfl,trivial,trivial⟩,?_,_,_,_,rfl,rfl,fun d hd=>by rw[hN.Yj hd]⟩;have hR:=hs R (by simp);have hg:=Hl.KN (hs G (by simp)) hG;rcases hN with ⟨rfl,rfl⟩ | ⟨b,s,rfl,hb⟩
 .exact FB w
 .exact FA b s c w hg (hR _ _ hb)
end Go.Proofs.YtomdimlnggpgbaaGreatDoor
namespace Go.Proofs.YtomdimlnggpgbaaGreatDoor
open Go Go.Sx Go.Pk
noncomputable def gu (p:Pc):List Int:=bq (cj p.h)++bq p.b
theorem Le {R:Hl} {row:List Value} {h:Hd} (hx:cN R row h):(cj h).length<=932:=by
 unfold cj;split
 .rename_i hf;have:=qV hx hf.2.1;unfold Kh;rw[Y9,bC];omega
 .exact aam _
theorem Md {n:Nat} (h:n<16384):(ak n).length<=2:=by
 unfold ak;split
 .simp
 .rw[Zd];unfold ak;rw[ZA (by omega)];simp
theorem oD {b:List Int} (h:b.length<=4096):(bq b).length<=b.length+2:=by
 unfold bq;rw[Y9];have:=Md (n:=b.length) (by omega);omega
theorem H8 {R1 R2:Hl} {row:List Value} {p:Pc} (hx:gm R1 R2 row p) (hb:p.b.length<=2100):(gu p).length<=3036/\(gu p).length<=936+p.b.length:=by
 have h1:=Le hx.hd;have h2:=oD (b:=cj p.h) (by omega);have h3:=oD (b:=p.b) (by omega);unfold gu;rw[Y9];omega
noncomputable def rP:Sx.Spec where
 fn:=106
 own:=[]
 rd:=[1000053,1000125]
 res:=[.one .sl,.one .any]
 pre:=fun xs Hs Rs=>∃ row T B p,xs=[.agg row.toArray]/\Rs=[T,B]/\gm T B row p/\p.b.length<=2100
 post:=fun xs Hs Rs v Hs' F=>∃ u,v=.tuple #[u,.nilIface]/\∀ row T B p,xs=[.agg row.toArray]->Rs=[T,B]->gm T B row p->fp F u (gu p)
def xC:Nd:=(fun h i d g=>(fun c=>(fun a b f=>(.ext (.alloc 134) (.ext (.alloc 135) (.and (.pre d) (.ext d (.and (.pre a) (.ext a (.and (.pre b) (.ext b (.and (.pre f) (.ext f (.and (.imp (.eq (.var 148) h) (.post [.ro 132 [.var 53] false,.ro 133 [.var 128] true,.dead,.hp 142 [140] i [],.hp 136 [] [.var 136] [],.hp 144 [] [.var 144] []] (.tup [.one g,.one (.val .nilIface)]))) (.imp (.not (.eq (.var 148) h)) (.ext (.alloc 149) (.ext (.mki 150 164 (.one (.hptr (.var 149) h))) (.and (.e (.le (.vint 150) (.lit 1))) (.ext (.mki 151 222 (.agg [.vr 150])) (.post [.ro 132 [.var 53] false,.ro 133 [.var 128] true,.dead,.hp 142 [140] i [],.hp 136 [] [.var 136] [],.hp 144 [] [.var 144] [],.dead] (.tup [.one g,.one (.vr 151)]))))))))))))))))):Nd)) (.call 1 140 [.sv c,.sv (.one (.sl (.var 136) (.var 137) (.var 138) (.var 139)))] [.bD 135 [.sl (.lit (-1)) h h h,.bool .ff] 208] [.hp 136 [] [.var 136] []]) (.call 1 142 [.sv c,.sv (.one (.sl (.var 128) (.var 129) (.var 130) (.var 131)))] [.hp 140 [] i []] [.ro 133 [.var 128] true]) (.call 2 144 [.sv c] [] [.hp 142 [140] i []])) (.one (.hptr (.var 135) h))) (.lit 0) [.var 135] (.call 0 136 [.sv (.agg (al 0 cX))] [] [.ro 132 [.var 53] false]) (.sl (.var 144) (.var 145) (.var 146) (.var 147))
noncomputable def Ru:List Sx.Spec:=[dt 146,mY,mc]
theorem Rv:∀ t∈Ru,t.OK Tryz.prog:=fun t ht=>by
 simp only[Ru,Zl,Zq,ZO]at ht;rcases ht with rfl | rfl | rfl
 .exact Cq
 .exact zj
 .exact wY
theorem V7:Ru[0]?=some (dt 146):=rfl
theorem V8:Ru[1]?=some mY:=rfl
theorem V9:Ru[2]?=some mc:=rfl
theorem Wa (f:FuncId):(dt f).res=[.one .sl]:=rfl
theorem Wb:mY.res=[]:=rfl
theorem Wc:mc.res=[.one .sl,.one (.int .i64)]:=rfl
theorem V6 (n:Nat):(br n [Cp.one .sl,Cp.one (.int .i64)]≠[])=True:=by simp [br,Cp.roots,Ck.root]
noncomputable def H9:bU Tryz.prog Ru rP.fn where
 Λ:=aM
 args:=(bf 0 [.agg Av]).map .sv
 mem:=[.ro 132 [.var 53] false,.ro 133 [.var 128] true]
 nv:=134
 nd:=xC
 ok:=by kernel_rfl
set_option maxRecDepth 20000 in
theorem FW:rP.OK Tryz.prog:=by
 refine Spec.bJ (Γ:=Ru) Rv ?_;rintro xs Hs Rs hl1 hl2 ⟨row,T,B,p,rfl,rfl,hx,hlen⟩;have e0:Hs=[]:=Za.1 hl1;subst e0;obtain⟨ρ,rfl,hnw,hh⟩:=Bt (ks:=iL) [(132,T),(133,B)] hx.ok;have w1:ρ.h 132=T:=hh 132;have w2:ρ.h 133=B:=hh 133;refine⟨H9,ρ,fun _ _=>True,fun _ _=>0,rfl,dB (by intro r hr;simp [H9]at hr;rcases hr with rfl | rfl<;>exact⟨_,_,_,rfl⟩) (by show [ρ.h 132,ρ.h 133]=_;rw[w1,w2]),(fun _ h=>nomatch h),?_⟩;show Nd.holds _ _ _ xC;unfold xC;simp only[Nd.holds,X.pre,X.rel,X.n,Src.ok,Src.len,Src.bG,Zy,Zm,ZG,Zx,Zp,Nat.reduceAdd,Zd,Zh,bn,bj,aJ,aU,aR,bm,aZ,bh,bg,bd,aV,ba,bk,aX,aW,aK,aY,ai,aj,aB,aF,aD,ar,aG,aQ,aP,aq,aI,az,aH,av,TV.ev,SV.ev,CV.ev,Zf,Zr,bx.hl,cu,Cp.sv,Ck.cv,bf,Cp.len,Ck.len,aE,aN,aT,V7,V8,V9,Wa,Wb,Wc,V6,Kk];generalize hrow0:(al 0 iL).map (CV.ev ρ)=row at *;have ht0:(al 0 cX).map (CV.ev ρ)=row.take 125:=by rw[<-hrow0,pc]
 have hb0:Value.slice (aA (ρ.i 128) (ρ.i 129)) (ρ.i 130).toNat (ρ.i 131).toNat=row.getD 125 ze:=by rw[<-hrow0,uO]
 have V:∀ q:Env,ah 134 ρ q->q.h 132=T/\q.h 133=B/\(al 0 cX).map (CV.ev q)=row.take 125/\Value.slice (aA (q.i 128) (q.i 129)) (q.i 130).toNat (q.i 131).toNat=row.getD 125 ze:=fun q g=>by
  refine⟨by rw[g.h 132,w1],by rw[g.h 133,w2],?_,?_⟩
  .rw[<-ht0];exact ZW Array.toList (Value.agg.inj (fQ (ks:=cX) (n:=0) g (by decide)))
  .rw[g.i 128,g.i 129,g.i 130,g.i 131];exact hb0
 intro q1 g1 p1 q2 g2 p2;have G2:ah 134 ρ q2:=g1.tr g2;obtain⟨x2,x3,xr,xb⟩:=V q2 G2;rw[xr,x2];refine⟨⟨_,T,p.h,rfl,rfl,hx.hd⟩,fun q3 g3 ⟨F3,hp3,hF3,hn3⟩=>?_⟩;have hB:=mz hx.hd hp3;rw[<-hF3 trivial]at hB;have p3:0<=q3.i 135:=by rw[g3.i 135];exact p2
 have e3:Hl.one (q3.i 135).toNat (Obj.cells #[Value.slice (aA (-1) 0) (Int.toNat 0) (Int.toNat 0),Value.bool (bN q3 E.ff)] 208 (0,0))=Hl.one (q3.i 135).toNat (.cells #[.slice none 0 0,.bool false] 208 (0,0)):=rfl;have ep:∀ q:Env,q.i 135=q3.i 135->Value.pointer (aA (q.i 135) 0)=.pointer (some ⟨(q3.i 135).toNat,0,none⟩):=fun q h=>by rw[h,au p3];rfl
 rw[e3,ep q3 rfl];have h1:=Le hx.hd;refine⟨⟨_,_,_,_,[],false,_,rfl,rfl,rfl,bV.new _,hB.rd.w,by simp,by omega⟩,fun q4 g4 ⟨F4,⟨p',u',H',R',bs,lg,b2,H'',f1,f2,f3,f4,f5,f6,f7⟩,_⟩=>?_⟩;simp only[Ze,Zm]at f1 f2 f3 f6;obtain⟨rfl,rfl⟩:=f1;subst f2 f3 f6;obtain⟨rfl,rfl⟩:=(bV.new _).uniq f4;obtain rfl:=hB.rd.w.uniq f5;have t4:iT [] false (cj p.h)=(bq (cj p.h),false):=by unfold iT;rw[Zo (by omega)];rfl
 rw[t4]at f7;have f7:bV _ _ (bq (cj p.h)) false:=f7;have G4:ah 134 ρ q4:=G2.trans (g3.mono.tr g4);obtain⟨y2,y3,yr,yb⟩:=V q4 G4;rw[ep q4 (g4.i 135),yb,y3];have hl1:=oD (b:=cj p.h) (by omega);have hl2:=oD (b:=p.b) (by omega);refine⟨⟨_,_,_,_,_,false,p.b,rfl,rfl,rfl,f7,hx.body,by omega,by omega⟩,fun q5 g5 ⟨F5,⟨p',u',H',R',bs,lg,b2,H'',k1,k2,k3,k4,k5,k6,k7⟩,_⟩=>?_⟩;simp only[Ze,Zm]at k1 k2 k3 k6;obtain⟨rfl,rfl⟩:=k1;subst k2 k3 k6;obtain⟨rfl,rfl⟩:=f7.uniq k4;obtain rfl:=hx.body.uniq k5;have t5:iT (bq (cj p.h)) false p.b=(gu p,false):=by unfold iT;rw[Zo (by omega)];rfl
 rw[t5]at k7;have k7:bV _ _ (gu p) false:=k7;rw[ep q5 (by rw[g5.i 135,g4.i 135])];have hl3:(gu p).length<=16384:=by unfold gu;rw[Y9];omega
 refine⟨⟨_,_,_,false,rfl,rfl,k7,by omega⟩,fun q6 g6 ⟨F6,⟨p',R',bs,lg,u,m1,m2,m3,m4,m5⟩,hF6,hn6⟩=>?_⟩;simp only[Ze,Zm]at m1 m2;subst m1 m2;obtain⟨rfl,rfl⟩:=k7.uniq m3;have t6:pw (gu p) false=(gu p,0):=by unfold pw;rw[Zo (by simp;omega)]
 rw[t6]at m4 m5;simp only[Value.tuple.injEq,ZY,Ze,Value.int.injEq,Zy,Zm]at m4;rw[<-m4.1,<-hF6 trivial]at m5;refine⟨fun _ _=>?_,fun hne=>absurd m4.2 hne⟩;have hn6:=hn6.1;refine⟨[],[5],rfl,rfl,⟨⟨fun k=>q6.i (k+144),fun _=>false,fun _=>.empty,fun _=>.nilIface,fun _=>Hl.none⟩,rfl,⟨hn6.1,hn6.2.1,hn6.2.2.1,hn6.2.2.2⟩,trivial,trivial⟩,_,rfl,fun row' T' B' p' e1 e2 hx'=>?_⟩;simp only[Ze,Zm,Value.agg.injEq]at e1 e2;have e1:=ZL e1;obtain⟨rfl,rfl⟩:=e2;subst e1;obtain rfl:=hx.uniq hx';show fp (dC [q6.h 144]) _ _;rw[bz];exact m5.rd.w
open Go.Proofs.YtomdimlnggpgbaaGreatDoor.D hiding bw aM gC
def Tx (r:Nat) (ps:Value) (x:Nat):Hl:=Hl.one r (.cells #[ps,.pointer (some ⟨x,0,none⟩)] 125 (0,0))
structure Np (H:Hl) (r:Nat) (dp ps:Value) (x:Nat) (HS HI:Hl) (S:SM) (st:Nat->List Pc):Prop where
 so:ig HS ps dp S
 ix:qJ HI x st
 d1:(Tx r ps x).cG HS
 d2:(Tx r ps x).cG HI
 d3:HS.cG HI
 hl:H=dC [Tx r ps x,HS,HI]
def di (H:Hl) (p dp:Value) (S:SM) (st:Nat->List Pc):Prop:=∃ (r:Nat) (ps:Value) (x:Nat) (HS HI:Hl),p=.pointer (some ⟨r,0,none⟩)/\Np H r dp ps x HS HI S st
def sm (R:Hl) (p:Value) (st:Nat->List Pc):Prop:=∃ (r:Nat) (ps:Value) (x:Nat),p=.pointer (some ⟨r,0,none⟩)/\R r=some (.cells #[ps,.pointer (some ⟨x,0,none⟩)] 125 (0,0))/\nF R x st
theorem rf {A B C:Hl} (h1:A.cG B) (h2:A.cG C) (h3:B.cG C):A.le (dC [A,B,C])/\B.le (dC [A,B,C])/\C.le (dC [A,B,C]):=by
 have hd:∀ (p q:Nat) X Y,p≠q->([A,B,C])[p]?=some X->([A,B,C])[q]?=some Y->X.cG Y:=by
  intro p q X Y hpq hX hY
  match p,q,hX,hY with
  | 0,0,_,_=>exact absurd rfl hpq
  | 0,1,hX,hY=>cases hX;cases hY;exact h1
  | 0,2,hX,hY=>cases hX;cases hY;exact h2
  | 1,0,hX,hY=>cases hX;cases hY;exact Hl.qW h1
  | 1,1,_,_=>exact absurd rfl hpq
  | 1,2,hX,hY=>cases hX;cases hY;exact h3
  | 2,0,hX,hY=>cases hX;cases hY;exact Hl.qW h2
  | 2,1,hX,hY=>cases hX;cases hY;exact Hl.qW h3
  | 2,2,_,_=>exact absurd rfl hpq
  | p+3,_,hX,_=>simp at hX
  | 0,q+3,_,hY=>simp at hY
  | 1,q+3,_,hY=>simp at hY
  | 2,q+3,_,hY=>simp at hY
 exact⟨jV hd (i:=0) rfl,jV hd (i:=1) rfl,jV hd (i:=2) rfl⟩
theorem di.rd {H:Hl} {p dp:Value} {S:SM} {st:Nat->List Pc} (h:di H p dp S st):sm H p st:=by
 obtain⟨r,ps,x,HS,HI,hp,h⟩:=h;obtain⟨l1,l2,l3⟩:=rf h.d1 h.d2 h.d3;rw[<-h.hl]at l1 l2 l3;exact⟨r,ps,x,hp,l1 _ _ (Hl.bF _ _),h.ix.rd.mono l3⟩
def ow:Sx.Spec where
 fn:=27
 own:=[.arg 0]
 rd:=[]
 res:=[.one .ptr,.one (.int .i64)]
 links:=[0]
 pre:=fun xs Hs Rs=>∃ dp H D,xs=[dp]/\Hs=[H]/\aO H dp D/\aS (kZ D)/\aS (gT D)/\fm D=0/\(fT D).recs=[]
 post:=fun xs Hs Rs v Hs' F=>∃ dp H D H' pv,xs=[dp]/\Hs=[H]/\aO H dp D/\Hs'=[H']/\aO H' dp D/\v=.tuple #[pv,.int .i64 0]/\di F pv dp (fT D) (fun _=>[])
def Bs:Nd:=(fun d c=>(fun a b=>(.and (.pre b) (.ext b (.and (.imp (.not (.eq (.var 4) c)) (.post [.hp 2 [1] d [],.hp 3 [] [.var 2] d] (.tup [.one (.hptr (.lit (-1)) c),.one (.int .i64 (.var 4))]))) (.imp (.eq (.var 4) c) (.and (.pre a) (.ext a (.and (.pre (.call 2 9 [] [] [])) (.ext (.call 2 9 [] [] []) (.and (.e (.le c (.var 7))) (.and (.imp (.lt c (.var 7)) (.e .ff)) (.imp (.not (.lt c (.var 7))) (.ext (.alloc 11) (.post [.hp 2 [1] d [],.hp 3 [] [.var 2] d,.hp 5 [] [.var 5] [],.hp 9 [] [.var 9] [],.bD 11 [.hptr (.var 2) (.var 3),.hptr (.var 9) (.var 10)] 125] (.tup [.one (.hptr (.var 11) c),.one (.int .i64 c)]))))))))))))):Nd)) (.call 1 5 [.sv (.one (.hptr (.var 2) (.var 3)))] [] [.hp 3 [] [.var 2] d]) (.call 0 2 [.sv (.one (.hptr (.var 0) c))] [.hp 1 [] d []] [])) [.var 0] (.lit 0)
def Rz:List Sx.Spec:=[qA,zK,CI,qu]
theorem RB:∀ t∈Rz,t.OK Tryz.prog:=fun t ht=>by
 simp only[Rz,Zl,Zq,ZO]at ht;rcases ht with rfl | rfl | rfl | rfl
 .exact JU
 .exact M0
 .exact Ls
 .exact zx
theorem We:Rz[0]?=some qA:=rfl
theorem Wf:Rz[1]?=some zK:=rfl
theorem Wg:Rz[2]?=some CI:=rfl
theorem Wh:qA.res=[.one .ptr,.one (.int .i64)]:=rfl
theorem Wi:zK.res=[.one .sl]:=rfl
theorem Wj:CI.res=[.one .ptr]:=rfl
def xG:bU Tryz.prog Rz ow.fn where
 Λ:=fun p=>if Qu p [60,1,1,0,1,0,0,1,1]then some ⟨0,[],[],0⟩else none
 args:=[TP (.var 0) (.lit 0)]
 mem:=[.hp 1 [] [.var 0] []]
 nv:=2
 nd:=Bs
 ok:=by kernel_rfl
set_option maxRecDepth 4000 in
theorem zy:ow.OK Tryz.prog:=by
 refine Spec.bJ (Γ:=Rz) RB ?_;rintro xs Hs Rs hl1 hl2 ⟨dp,H,D,rfl,rfl,hD,hlo,hhi,hE,hrec⟩;have e1:Rs=[]:=Za.1 hl2;subst e1;obtain⟨da,s,m,es,clock,hdp,hDi⟩:=id hD;refine⟨xG,bw [(da:Int)] false [Hl.none,H],fun _ _=>True,fun _ _=>0,?_,⟨?_,?_,?_,?_⟩,(fun _ h=>nomatch h),?_⟩
 .show [Value.pointer (aA (da:Int) 0)]=_;rw[gM,hdp]
 .intro r hr ho;simp [xG]at hr;subst hr;exact⟨H,by simp,Hl.le_refl _⟩
 .intro r hr ho;simp [xG]at hr;subst hr;cases ho
 .simp [xG]
 .intro r hr;simp [xG]at hr;subst hr;trivial
 show Nd.holds _ _ _ Bs;generalize hρ:bw [(da:Int)] false [Hl.none,H]=ρ;have v0:ρ.i 0=da:=by rw[<-hρ];rfl
 have w1:ρ.h 1=H:=by rw[<-hρ];rfl
 clear hρ;have ep:Value.pointer (aA (da:Int) 0)=dp:=by rw[gM,hdp]
 unfold Bs;simp only[Nd.holds,X.pre,X.rel,X.n,Src.ok,Src.len,Src.bG,Zy,Zm,ZG,Zx,Zp,Nat.reduceAdd,Zd,Zh,bn,bj,aJ,aU,aR,bm,aZ,bh,bg,bd,aV,ba,bk,aX,aW,aK,aY,ai,aj,aB,aF,aD,ar,aG,aQ,aP,aq,aI,az,aH,av,TV.ev,SV.ev,CV.ev,Zf,Zr,bx.hl,cu,Cp.sv,Ck.cv,bf,Cp.len,Ck.len,aE,aN,aT,We,Wf,Wg,Wh,Wi,Wj,Kk,PE,XY];rw[v0,w1,ep];refine⟨⟨dp,H,D,rfl,rfl,hD,hlo,hhi⟩,fun q1 g1 ⟨F1,hp1,hF1,hn1⟩=>?_⟩;obtain⟨pv,hD1,hv,hS,_⟩:=Gs hD hp1;simp only[Value.tuple.injEq,ZY,Ze,Value.int.injEq,Zy,Zm]at hv;obtain⟨rfl,hv⟩:=hv;have h4:q1.i 4=0:=hv.trans hE;have hS:=hS hE;rw[<-hF1 trivial]at hS;refine⟨fun hne=>absurd h4 hne,fun _=>⟨⟨_,_,dp,fT D,rfl,rfl,hS.rd,by rw[hrec];simp,fun r hr=>by rw[hrec]at hr;cases hr⟩,fun q2 g2 ⟨F2,hp2,hF2,hn2⟩=>⟨rfl,fun q3 g3 ⟨F3,⟨x,hx,hI⟩,hF3,hn3⟩=>?_⟩⟩⟩;have hR:=JV hS.rd hp2;rw[hrec]at hR;have h7:q2.i 7=0:=by
  obtain⟨us,ho,_⟩:=hR;have hn:0<=q2.i 7:=hn2.1.2.2.1;rcases ho.2 with ⟨h,_⟩ | ⟨_,_,_,h,_⟩<;>(simp only[Value.slice.injEq]at h;have:=h.2.1;simp at this;omega)
 have h7':q3.i 7=0:=by rw[g3.i 7,h7]
 rw[<-hF3 trivial]at hI;refine⟨by omega,fun h=>by omega,fun _ q4 g4 p4 hdis=>?_⟩;have A:ah 9 q2 q4:=g3.tr g4;have A1:ah 5 q1 q4:=g2.tr A;have d1:(Hl.one (q4.i 11).toNat (.cells #[.pointer (aA (q4.i 2) (q4.i 3)),.pointer (aA (q4.i 9) (q4.i 10))] 125 (0,0))).cG (q4.h 3):=hdis 4 1 _ _ (by decide) rfl rfl rfl;have d2:(Hl.one (q4.i 11).toNat (.cells #[.pointer (aA (q4.i 2) (q4.i 3)),.pointer (aA (q4.i 9) (q4.i 10))] 125 (0,0))).cG (q4.h 9):=hdis 4 3 _ _ (by decide) rfl rfl rfl;have d3:(q4.h 3).cG (q4.h 9):=hdis 1 3 _ _ (by decide) rfl rfl rfl;have e9:Value.pointer (aA (q4.i 9) (q4.i 10))=.pointer (some ⟨x,0,none⟩):=by rw[g4.i 9,g4.i 10];exact hx
 rw[e9]at d1 d2;refine⟨[[0]],[4,1,3],rfl,rfl,⟨⟨fun k=>if k=0 then q4.i 11 else 0,fun _=>false,fun _=>.empty,fun _=>.tuple #[],fun _=>Hl.none⟩,rfl,⟨by show -1<=q4.i 11;omega,Zw 0⟩,trivial,trivial⟩,dp,H,D,_,_,rfl,rfl,hD,rfl,?_,rfl,?_⟩
 .show aO (dC [q4.h 2]) _ _;rw[bz,A1.h 2];exact hD1
 .refine⟨(q4.i 11).toNat,.pointer (aA (q4.i 2) (q4.i 3)),x,q4.h 3,q4.h 9,?_,?_,?_,d1,d2,d3,?_⟩
  .show Value.pointer (aA (q4.i 11) 0)=_;rw[au p4];rfl
  .rw[A1.i 2,A1.i 3,A1.h 3];exact hS
  .rw[g4.h 9];exact hI
  .show dC [Hl.one (q4.i 11).toNat (.cells #[.pointer (aA (q4.i 2) (q4.i 3)),.pointer (aA (q4.i 9) (q4.i 10))] 125 (0,0)),q4.h 3,q4.h 9]=_;rw[e9];rfl
structure XF where
 e:Int
 D:DM
 S:SM
 st:Nat->List Pc
open Classical in
noncomputable def eE (D:DM) (S:SM) (st:Nat->List Pc) (c:Pc):XF :=
 if ct st c≠0 then⟨ct st c,D,S,st⟩
 else if(dM D S [gu c]).e≠0 then⟨(dM D S [gu c]).e,(dM D S [gu c]).D,(dM D S [gu c]).S,st⟩
 else⟨0,(dM D S [gu c]).D,(dM D S [gu c]).S,dE st c⟩
set_option maxRecDepth 20000 in
theorem Ou {a:Int} {row:List Value} (f:Nat->Int) (hs:List (Nat×Hl)) (h:bS row qo):∃ q:Env,q.i 0=a/\row=(al 1 iL).map (CV.ev q)/\(∀ k,q.h k=yu hs k)/\(∀ k,133<=k->q.i k=f k):=by
 obtain⟨q,h0,hr,hh,_⟩:=Bb (a:=a) hs h;refine⟨⟨fun k=>if 133<=k then f k else q.i k,q.b,q.s,q.v,q.h⟩,h0,?_,hh,fun k hk=>ZA hk⟩;rw[hr];have g:ah 133 q ⟨fun k=>if 133<=k then f k else q.i k,q.b,q.s,q.v,q.h⟩:=⟨fun k hk=>Zo (by omega),fun _ _=>rfl,fun _ _=>rfl,fun _ _=>rfl,fun _ _=>rfl⟩;exact(ZW Array.toList (Value.agg.inj (fQ (ks:=iL) (n:=1) g (by decide)))).symm
theorem qJ.congr {H:Hl} {x:Nat} {st st':Nat->List Pc} (h:qJ H x st) (e:∀ i,i<6->st i=st' i):qJ H x st':=by
 obtain⟨a,sv,Kc,KB,h⟩:=h;refine⟨a,sv,Kc,KB,by rw[<-EB e];exact h.bD,fun i hi=>?_,h.le,h.cG,h.nox,fun i hi=>by rw[<-e i hi];exact h.row i hi,h.kb,h.kbx,h.kbc,h.own⟩;have:=h.ch i hi;unfold kF at this ⊢;rw[<-e i hi];exact this
theorem wy {st st':Nat->List Pc} (e:∀ i,i<6->st i=st' i) (p:Pc) {i:Nat} (hi:i<6):dE st p i=dE st' p i:=by
 unfold dE;rw[nS e p];split
 .unfold te;split
  .rename_i h;subst h;rw[e _ hi]
  .exact e i hi
 .exact e i hi
noncomputable def tS (rt:Nat):Sx.Spec where
 fn:=30
 own:=[.arg 0,.link 0 0]
 rd:=[rt,1001125,2000000]
 res:=[.one (.int .i64)]
 pre:=fun xs Hs Rs=>∃ p H HD row T B RG g dp S D st c,xs=[p,.agg row.toArray]/\Hs=[H,HD]/\Rs=[T,B,RG]/\di H p dp S st/\aO HD dp D/\gm T B row c/\c.b.length<=2100/\lr st/\(Gl RG g/\uz RG 5/\RG.cell 4 0=some yG)/\S.bA.length<=1048576/\0<=S.LA.serial/\S.recs.length<=1000000000
 post:=fun xs Hs Rs v Hs' F=>∃ p H HD row T B RG dp S D st c H' HD',xs=[p,.agg row.toArray]/\Hs=[H,HD]/\Rs=[T,B,RG]/\di H p dp S st/\aO HD dp D/\gm T B row c/\Hs'=[H',HD']/\di H' p dp (eE D S st c).S (eE D S st c).st/\aO HD' dp (eE D S st c).D/\v=.int .i64 (eE D S st c).e
def Bu:Nd:=(fun a i y q p a6 a2 h b6 a5 t v a4 a7 n o a0 a1 b5=>(fun b c d f g j k b4 r s u w z a8=>(fun l m x a3 a9 b0 b1 b2 b3=>(.ext (.alloc 142) (.ext (.alloc 143) (.and (.pre x) (.ext x (.and (.imp (.eq (.var 144) i) (.and (.pre (.call 1 145 [.sv y] [] w)) (.ext (.call 1 145 [.sv y] [] w) (.and (.e (.le (.vint 149) v)) (.and (.imp (.not (.eq (.vint 149) i)) (.and (.pre a9) (.ext a9 (.post [.bD 0 b 125,.hp 135 [] t h,.hp 136 [] n [],.hp 138 [] h [],.ro 139 q false,.ro 140 p true,.ro 141 a false,.dead,.dead,.hp 145 [] a4 []] (.sv (.one (.int .i64 (.var 150)))))))) (.imp (.eq (.vint 149) i) (.ext (.alloc 150) (.and (.pre l) (.ext l (.and (.imp (.eq (.var 151) i) (.and (.pre (.call 3 154 c u d)) (.ext (.call 3 154 c u d) (.and (.imp (.eq a5 i) (.and (.pre (.call 4 156 o [] z)) (.ext (.call 4 156 o [] z) (.post [.bD 0 b 125,.hp 151 [135] t h,.hp 154 [136] n [],.hp 152 [138] h [],.ro 139 q false,.ro 140 p true,.ro 141 a false,.dead,.dead,.hp 145 [] a4 [],.dead] (.sv (.one (.int .i64 (.var 156)))))))) (.imp (.not (.eq a5 i)) (.ext (.alloc 156) (.ext (.mki 157 164 (.one (.hptr (.var 156) i))) (.and (.e (.le (.vint 157) v)) (.ext (.mki 158 222 (.agg [.vr 157])) (.and (.pre r) (.ext r (.post [.bD 0 b 125,.hp 151 [135] t h,.hp 154 [136] n [],.hp 152 [138] h [],.ro 139 q false,.ro 140 p true,.ro 141 a false,.dead,.dead,.hp 145 [] a4 [],.dead,.dead] a0)))))))))))) (.imp (.not (.eq (.var 151) i)) (.ext (.alloc 154) (.ext (.mki 155 164 (.one (.hptr a5 i))) (.and (.e (.le (.vint 155) v)) (.ext (.mki 156 222 (.agg [.vr 155])) (.and (.e (.le (.vint 156) v)) (.and (.imp (.not (.eq (.vint 156) i)) (.and (.pre b0) (.ext b0 (.post [.bD 0 b 125,.hp 151 [135] t h,.hp 136 [] n [],.hp 152 [138] h [],.ro 139 q false,.ro 140 p true,.ro 141 a false,.dead,.dead,.hp 145 [] a4 [],.dead,.dead] (.sv (.one (.int .i64 a6))))))) (.imp (.eq (.vint 156) i) (.and (.pre a3) (.ext a3 (.and (.imp (.eq a6 i) (.and (.pre (.call 4 159 o [] j)) (.ext (.call 4 159 o [] j) (.post [.bD 0 b 125,.hp 151 [135] t h,.hp 157 [136] n [],.hp 152 [138] h [],.ro 139 q false,.ro 140 p true,.ro 141 a false,.dead,.dead,.hp 145 [] a4 [],.dead,.dead] a0)))) (.imp (.not (.eq a6 i)) (.ext (.alloc 159) (.ext a8 (.and (.e (.le (.vint 160) v)) (.ext b5 (.and (.pre g) (.ext g (.post [.bD 0 b 125,.hp 151 [135] t h,.hp 157 [136] n [],.hp 152 [138] h [],.ro 139 q false,.ro 140 p true,.ro 141 a false,.dead,.dead,.hp 145 [] a4 [],.dead,.dead,.dead] a1))))))))))))))))))))))))))))) (.imp (.not (.eq (.var 144) i)) (.ext (.alloc 145) (.ext (.mki 146 164 (.one (.hptr (.var 145) i))) (.and (.e (.le (.vint 146) v)) (.ext (.mki 147 222 (.agg [.vr 146])) (.and (.e (.le (.vint 147) v)) (.and (.imp (.not (.eq (.vint 147) i)) (.and (.pre b1) (.ext b1 (.post [.bD 0 b 125,.hp 135 [] t h,.hp 136 [] n [],.hp 138 [] h [],.ro 139 q false,.ro 140 p true,.ro 141 a false,.dead,.dead,.dead] (.sv (.one (.int .i64 (.var 148)))))))) (.imp (.eq (.vint 147) i) (.and (.pre (.call 1 148 [.sv y] [] w)) (.ext (.call 1 148 [.sv y] [] w) (.and (.e (.le (.vint 152) v)) (.and (.imp (.not (.eq (.vint 152) i)) (.and (.pre b2) (.ext b2 (.post [.bD 0 b 125,.hp 135 [] t h,.hp 136 [] n [],.hp 138 [] h [],.ro 139 q false,.ro 140 p true,.ro 141 a false,.dead,.dead,.dead,.hp 148 [] a7 []] (.sv (.one (.int .i64 (.var 153)))))))) (.imp (.eq (.vint 152) i) (.ext (.alloc 153) (.and (.pre m) (.ext m (.and (.imp (.eq a5 i) (.and (.pre a3) (.ext a3 (.and (.imp (.eq a6 i) (.and (.pre (.call 4 159 o [] f)) (.ext (.call 4 159 o [] f) (.post [.bD 0 b 125,.hp 154 [135] t h,.hp 157 [136] n [],.hp 155 [138] h [],.ro 139 q false,.ro 140 p true,.ro 141 a false,.dead,.dead,.dead,.hp 148 [] a7 [],.dead] a0)))) (.imp (.not (.eq a6 i)) (.ext (.alloc 159) (.ext a8 (.and (.e (.le (.vint 160) v)) (.ext b5 (.and (.pre g) (.ext g (.post [.bD 0 b 125,.hp 154 [135] t h,.hp 157 [136] n [],.hp 155 [138] h [],.ro 139 q false,.ro 140 p true,.ro 141 a false,.dead,.dead,.dead,.hp 148 [] a7 [],.dead,.dead] a1)))))))))))) (.imp (.not (.eq a5 i)) (.ext (.alloc 157) (.ext (.mki 158 164 (.one (.hptr a6 i))) (.and (.e (.le (.vint 158) v)) (.ext (.mki 159 222 (.agg [.vr 158])) (.and (.e (.le (.vint 159) v)) (.and (.imp (.not (.eq (.vint 159) i)) (.and (.pre b3) (.ext b3 (.post [.bD 0 b 125,.hp 154 [135] t h,.hp 136 [] n [],.hp 155 [138] h [],.ro 139 q false,.ro 140 p true,.ro 141 a false,.dead,.dead,.dead,.hp 148 [] a7 [],.dead,.dead] (.sv (.one (.int .i64 (.var 160)))))))) (.imp (.eq (.vint 159) i) (.and (.pre (.call 3 160 c u d)) (.ext (.call 3 160 c u d) (.and (.imp (.eq (.var 160) i) (.and (.pre (.call 4 162 o [] k)) (.ext (.call 4 162 o [] k) (.post [.bD 0 b 125,.hp 154 [135] t h,.hp 160 [136] n [],.hp 155 [138] h [],.ro 139 q false,.ro 140 p true,.ro 141 a false,.dead,.dead,.dead,.hp 148 [] a7 [],.dead,.dead] a1)))) (.imp (.not (.eq (.var 160) i)) (.ext (.alloc 162) (.ext (.mki 163 164 (.one (.hptr (.var 162) i))) (.and (.e (.le (.vint 163) v)) (.ext (.mki 164 222 (.agg [.vr 163])) (.and (.pre s) (.ext s (.post [.bD 0 b 125,.hp 154 [135] t h,.hp 160 [136] n [],.hp 155 [138] h [],.ro 139 q false,.ro 140 p true,.ro 141 a false,.dead,.dead,.dead,.hp 148 [] a7 [],.dead,.dead,.dead] (.sv (.one (.int .i64 (.var 165)))))))))))))))))))))))))))))))))))))))))))):Nd)) (.call 2 151 [.sv (.one (.hptr (.var 133) i)),.sv (.one (.sl (.var 150) i v v))] b4 [.bD 150 [.sl (.var 145) (.var 146) (.var 147) (.var 148)] 46,.hp 145 [] a4 [],.ro 141 a false]) (.call 2 154 [.sv (.one (.hptr (.var 133) i)),.sv (.one (.sl (.var 153) i v v))] b4 [.bD 153 [.sl (.var 148) (.var 149) (.var 150) (.var 151)] 46,.hp 148 [] a7 [],.ro 141 a false]) (.call 0 144 c [] [.hp 136 [] n [],.ro 139 q false,.ro 140 p true,.ro 141 a false]) (.call 3 157 c u d) (.call 4 150 [.sv (.one (.vr 149))] [] z) (.call 4 157 [.sv (.one (.vr 156))] [] j) (.call 4 148 [.sv (.one (.vr 147))] [] f) (.call 4 153 [.sv (.one (.vr 152))] [] f) (.call 4 160 [.sv (.one (.vr 159))] [] k)) [.hptr (.var 133) i,.hptr (.var 134) i] [.sv (.one (.hptr (.var 134) i)),.sv y] [.ro 139 q false,.ro 140 p true,.ro 141 a false] [.bD 145 [.str (.slit ⟨#[97,115,107]⟩),.int .i64 (.var 144)] 168,.ro 141 a false] (.call 4 162 [.sv (.one (.vr 161))] [] [.bD 159 [.str a2,.int .i64 a6] 168,.ro 141 a false]) [.bD 154 [.str b6,.int .i64 (.var 151)] 168,.ro 141 a false] [.bD 157 [.str b6,.int .i64 a5] 168,.ro 141 a false] [.hp 135 [] t h,.hp 138 [] h []] (.call 4 159 [.sv (.one (.vr 158))] [] [.bD 156 [.str a2,.int .i64 a5] 168,.ro 141 a false]) (.call 4 165 [.sv (.one (.vr 164))] [] [.bD 162 [.str a2,.int .i64 (.var 160)] 168,.ro 141 a false]) [.hp 136 [] n []] [.ro 139 q false,.ro 140 p true] [.dead,.ro 141 a false] (.mki 160 164 (.one (.hptr (.var 159) i)))) [.lit 0,.lit 1,.lit 2,.lit 3,.lit 4,.lit 5] (.lit 0) (.agg (al 1 Av)) [.var 54] [.var 129] (.var 157) (.slit ⟨#[112,117,116]⟩) [.var 137] (.slit ⟨#[97,100,100]⟩) (.var 154) [.var 133] (.lit 1) [.var 145] [.var 148] [.var 134] [.sv (.one (.val .nilIface))] (.sv (.one (.int .i64 (.var 159)))) (.sv (.one (.int .i64 (.var 162)))) (.mki 161 222 (.agg [.vr 160]))
noncomputable def OT:List Sx.Spec:=[tG,rP,BX,CJ,qu]
theorem RC:∀ t∈OT,t.OK Tryz.prog:=fun t ht=>by
 simp only[OT,Zl,Zq,ZO]at ht;rcases ht with rfl | rfl | rfl | rfl | rfl
 .exact CG
 .exact FW
 .exact Ns
 .exact Lv
 .exact zx
theorem Wo:OT[0]?=some tG:=rfl
theorem Wp:OT[1]?=some rP:=rfl
theorem Wq:OT[2]?=some BX:=rfl
theorem Wr:OT[3]?=some CJ:=rfl
theorem Ws:OT[4]?=some qu:=rfl
theorem Wt:rP.res=[.one .sl,.one .any]:=rfl
theorem Wu:BX.res=[.one (.int .i64)]:=rfl
theorem Wv:CJ.res=[.one (.int .i64)]:=rfl
theorem Ww:qu.res=[.one (.int .i64)]:=rfl
theorem Wn (n:Nat):(br n [Cp.one .sl,Cp.one .any]≠[])=True:=by simp [br,Cp.roots,Ck.root]
def zB:Mem:=[.bD 0 [.hptr (.var 133) (.lit 0),.hptr (.var 134) (.lit 0)] 125,.hp 135 [] [.var 133] [.var 137],.hp 136 [] [.var 134] [],.hp 138 [] [.var 137] [],.ro 139 [.var 54] false,.ro 140 [.var 129] true,.ro 141 [.lit 0,.lit 1,.lit 2,.lit 3,.lit 4,.lit 5] false]
noncomputable def HZ:bU Tryz.prog OT 30 where
 Λ:=aM
 args:=TP (.var 0) (.lit 0)::(bf 1 [.agg Av]).map .sv
 mem:=zB
 nv:=142
 nd:=Bu
 ok:=by kernel_rfl
set_option maxRecDepth 20000 in
theorem Ds (rt:Nat):(tS rt).OK Tryz.prog:=by
 refine jh (Γ:=OT) RC ?_;rintro xs Hs Rs hl1 hl2 hdis ⟨p,H,HD,row,T,B,RG,g,dp,S,D,st,c,rfl,rfl,rfl,hR,hD,hx,hlen,hSh,⟨hGl,hK,hEt⟩,hb1,hb2,hb3⟩;obtain⟨r,ps,x,HS,HI,rfl,hIn⟩:=id hR;obtain⟨a,pa,pb,sl,HA,HB,HR,rfl,_⟩:=id hIn.so;obtain⟨da,s,m,es,clock,hdp,_⟩:=id hD;obtain⟨ρ,va,rfl,hh,hv⟩:=Ou (a:=(r:Int)) (fun k=>if k=133 then(a:Int)else if k=134 then(x:Int)else da) [(135,HS),(136,HI),(138,HD),(139,T),(140,B),(141,RG)] hx.ok;have v3:ρ.i 133=a:=hv 133 (by omega);have v4:ρ.i 134=x:=hv 134 (by omega);have v7:ρ.i 137=da:=hv 137 (by omega);have w5:ρ.h 135=HS:=hh 135;have w6:ρ.h 136=HI:=hh 136;have w8:ρ.h 138=HD:=hh 138;have w9:ρ.h 139=T:=hh 139;have w0:ρ.h 140=B:=hh 140;have w1:ρ.h 141=RG:=hh 141;have eb:Hl.one (ρ.i 0).toNat (.cells #[.pointer (aA (ρ.i 133) 0),.pointer (aA (ρ.i 134) 0)] 125 (0,0))=Tx r (.pointer (some ⟨a,0,none⟩)) x:=by
  rw[va,v3,v4,au (by omega),au (by omega)];rfl
 obtain⟨l1,l2,l3⟩:=rf hIn.d1 hIn.d2 hIn.d3;rw[<-hIn.hl]at l1 l2 l3;refine⟨HZ,ρ,fun _ _=>True,fun _ _=>0,?_,⟨?_,?_,?_,?_⟩,(fun _ h=>nomatch h),?_⟩
 .show [Value.pointer (aA (ρ.i 0) 0),.agg ((al 1 iL).map (CV.ev ρ)).toArray]=_;rw[va,au (by omega)];rfl
 .intro q hq ho;simp [HZ,zB]at hq;rcases hq with rfl | rfl | rfl | rfl | rfl | rfl | rfl
  .exact⟨H,by simp,by show(Hl.one (ρ.i 0).toNat (.cells #[.pointer (aA (ρ.i 133) 0),.pointer (aA (ρ.i 134) 0)] 125 (0,0))).le H;rw[eb];exact l1⟩
  .exact⟨H,by simp,by show(ρ.h 135).le H;rw[w5];exact l2⟩
  .exact⟨H,by simp,by show(ρ.h 136).le H;rw[w6];exact l3⟩
  .exact⟨HD,by simp,by show(ρ.h 138).le HD;rw[w8];exact Hl.le_refl _⟩
  all_goals cases ho
 .intro q hq ho;simp [HZ,zB]at hq;rcases hq with rfl | rfl | rfl | rfl | rfl | rfl | rfl
  .cases ho
  .cases ho
  .cases ho
  .cases ho
  .exact⟨T,by simp,by show(ρ.h 139).le T;rw[w9];exact Hl.le_refl _⟩
  .exact⟨B,by simp,by show(ρ.h 140).le B;rw[w0];exact Hl.le_refl _⟩
  .exact⟨RG,by simp,by show(ρ.h 141).le RG;rw[w1];exact Hl.le_refl _⟩
 .have hHD:H.cG HD:=hdis 0 1 _ _ (by decide) rfl rfl;have dle:∀ {A:Hl},A.le H->A.cG HD:=fun h b ⟨y,z⟩=>hHD b ⟨Hl.dU h y,z⟩;show List.Pairwise _ zB;simp only[zB,List.pairwise_cons,Zl,Zq,ZO,forall_eq_or_imp,forall_eq,bx.own,bx.hl,List.Pairwise.nil,Zm,Z5,false_imp_iff,imp_true_iff,forall_const,Zf,Zr,CV.ev,aj,ai,false_implies,implies_true];rw[eb,w5,w6,w8];exact⟨⟨hIn.d1,hIn.d2,dle l1⟩,⟨hIn.d3,dle l2⟩,dle l3⟩
 .intro q hq;simp [HZ,zB]at hq;rcases hq with rfl | rfl | rfl | rfl | rfl | rfl | rfl
  .show 0<=ρ.i 0;rw[va];omega
  all_goals trivial
 show Nd.holds _ _ _ Bu;unfold Bu;simp only[Nd.holds,X.pre,X.rel,X.n,Src.ok,Src.len,Src.bG,Zy,Zm,ZG,Zx,Zp,Nat.reduceAdd,Zd,Zh,bn,bj,aJ,aU,aR,bm,aZ,bh,bg,bd,aV,ba,bk,aX,aW,aK,aY,ai,aj,aB,aF,aD,ar,aG,aQ,aP,aq,aI,az,aH,av,TV.ev,SV.ev,CV.ev,Zf,Zr,bx.hl,cu,Cp.sv,Ck.cv,bf,Cp.len,Ck.len,aE,aN,aT,Wo,Wp,Wq,Wr,Ws,S8,Wt,Wu,Wv,Ww,Wn];generalize hrow0:(al 1 iL).map (CV.ev ρ)=row at *;have V:∀ q:Env,ah 142 ρ q->(q.i 0=r/\q.i 133=a/\q.i 134=x/\q.i 137=da)/\(q.h 135=HS/\q.h 136=HI/\q.h 138=HD/\q.h 139=T/\q.h 140=B/\q.h 141=RG)/\(al 1 Av).map (CV.ev q)=row:=fun q g=>by
  refine⟨⟨by rw[g.i 0,va],by rw[g.i 133,v3],by rw[g.i 134,v4],by rw[g.i 137,v7]⟩,⟨by rw[g.h 135,w5],by rw[g.h 136,w6],by rw[g.h 138,w8],by rw[g.h 139,w9],by rw[g.h 140,w0],by rw[g.h 141,w1]⟩,?_⟩;rw[<-hrow0];exact ZW Array.toList (Value.agg.inj (fQ (ks:=iL) (n:=1) g (by decide)))
 have eP:∀ n:Nat,Value.pointer (aA (n:Int) 0)=.pointer (some ⟨n,0,none⟩):=fun n=>gM n;have fin:∀ (q:Env) (ks ki kd:Nat) (vs vi vd:List Nat) (t:Mem) (e:E) (R:XF),eE D S st c=R->ah 142 ρ q->ig (q.h ks) (.pointer (some ⟨a,0,none⟩)) dp R.S->qJ (q.h ki) x R.st->aO (q.h kd) dp R.D->aC q e=R.e ->
  postOf (tS rt) [.pointer (some ⟨r,0,none⟩),.agg row.toArray] [H,HD] [T,B,RG] q (.bD 0 [.hptr (.var 133) (.lit 0),.hptr (.var 134) (.lit 0)] 125::.hp ks vs [.var 133] [.var 137]::.hp ki vi [.var 134] []::.hp kd vd [.var 137] []::t) (.sv (.one (.int .i64 e))):=by
  intro q ks ki kd vs vi vd t e R hR' g h1 h2 h3 h4 hdis;obtain⟨⟨k0,k1,k2,_⟩,_⟩:=V q g;have eb':Hl.one (q.i 0).toNat (.cells #[.pointer (aA (q.i 133) 0),.pointer (aA (q.i 134) 0)] 125 (0,0))=Tx r (.pointer (some ⟨a,0,none⟩)) x:=by
   rw[k0,k1,k2,eP,eP];rfl
  have d1:(Hl.one (q.i 0).toNat (.cells #[.pointer (aA (q.i 133) 0),.pointer (aA (q.i 134) 0)] 125 (0,0))).cG (q.h ks):=hdis 0 1 _ _ (by decide) rfl rfl rfl;have d2:(Hl.one (q.i 0).toNat (.cells #[.pointer (aA (q.i 133) 0),.pointer (aA (q.i 134) 0)] 125 (0,0))).cG (q.h ki):=hdis 0 2 _ _ (by decide) rfl rfl rfl;have d3:(q.h ks).cG (q.h ki):=hdis 1 2 _ _ (by decide) rfl rfl rfl;rw[eb']at d1 d2;subst hR';refine⟨[[0,1,2],[3]],[],rfl,rfl,⟨⟨fun _=>aC q e,fun _=>false,fun _=>.empty,fun _=>.tuple #[],fun _=>Hl.none⟩,rfl,trivial,trivial⟩,_,H,HD,row,T,B,RG,dp,S,D,st,c,_,_,rfl,rfl,rfl,hR,hD,hx,rfl,⟨r,_,x,q.h ks,q.h ki,rfl,h1,h2,d1,d2,d3,?_⟩,?_,by rw[<-h4];rfl⟩
  .rw[<-eb'];rfl
  .show aO (dC [q.h kd]) _ _;rw[bz];exact h3
 have nPre:∀ {R:Hl} {v:Value} {n:Int},ti R v n->qu.pre [v] [] [R,RG]:=fun h=>⟨_,_,RG,_,rfl,rfl,hEt,h⟩;have nRes:∀ {R:Hl} {v w:Value} {n:Int} {K:List Hl} {F:Hl},ti R v n->qu.post [v] [] [R,RG] w K F->w=.int .i64 n:=fun h hp=>by
  obtain⟨e,R',G',e1,e2,hq⟩:=hp;simp only[Ze,Zm]at e1 e2;obtain⟨rfl,rfl⟩:=e2;subst e1;exact hq _ h
 have met:∀ {v w:Value} {z n:Int} {s:ByteArray},0<=z->v=.iface 164 (.pointer (aA z 0))->w=.iface 222 (.agg #[v])->ti (Hl.one z.toNat (.cells #[.string s,.int .i64 n] 168 (0,0))) w n:=fun hz e1 e2=>Or.inr ⟨_,_,by rw[e2,e1,au hz];rfl,Hl.bF _ _⟩;have vi1:∀ {q:Env} {n:Nat} {T:TypeId} {v:Value},q.v n=.iface T v->aC q (.vint n)=1:=fun h=>by rw[wo,h];rfl
 intro q0 g0 p0 q1 g1 p1;have G1:ah 142 ρ q1:=g0.tr g1;obtain⟨⟨k0,k1,k2,k3⟩,⟨u5,u6,u8,u9,u0,u1⟩,kr⟩:=V q1 G1;rw[k2,eP,kr,u6,u9,u0,u1];refine⟨⟨x,HI,st,_,T,B,RG,c,rfl,rfl,hIn.ix.rd,hSh,hx,by omega,hK⟩,fun q2 g2 ⟨F2,hp2,_⟩=>?_⟩;have hask:q2.i 144=ct st c:=by simpa using hp2 _ _ _ _ _ _ _ _ rfl rfl hIn.ix.rd hx
 have G2:ah 142 ρ q2:=G1.tr g2;obtain⟨⟨m0,m1,m2,m3⟩,⟨n5,n6,n8,n9,n0,n1⟩,mr⟩:=V q2 G2;refine⟨fun heq=>?_,fun hne=>?_⟩
 .have h0:ct st c=0:=hask.symm.trans heq;rw[mr,n9,n0];refine⟨⟨_,T,B,c,rfl,rfl,hx,hlen⟩,fun q3 g3 ⟨F3,⟨u,hu,hrec⟩,hF3,hn3⟩=>?_⟩;simp only[Value.tuple.injEq,ZY,Ze,Zm]at hu;obtain⟨rfl,hu⟩:=hu;have hrec:=hrec _ _ _ _ rfl rfl hx;rw[<-hF3 trivial]at hrec;have hv0:aC q3 (.vint 149)=0:=by rw[wo,hu];rfl
  refine⟨by omega,fun hne=>absurd hv0 hne,fun _ q4 g4 p4=>?_⟩;have G3:ah 142 ρ q3:=G2.tr g3;have G4:ah 142 ρ q4:=G3.tr g4;obtain⟨⟨y0,y1,y2,y3⟩,⟨z5,z6,z8,z9,z0,z1⟩,yr⟩:=V q4 G4;rw[y1,eP,z5,z8,z1,g4.i 145,g4.i 146,g4.i 147,g4.i 148,g4.h 145];have hrows:=sU (T:=46) p4 hrec;have hrl:=H8 hx hlen;refine⟨⟨_,_,HS,HD,_,_,RG,g,dp,S,D,_,rfl,rfl,rfl,hIn.so,hD,hrows,hGl,by simp,fun r hr=>by rw[Zn.1 hr];omega,hb1,hb2,hb3⟩,fun q5 g5 ⟨F5,hp5,_⟩=>?_⟩;obtain⟨hD5,hS5,he⟩:=Kq hIn.so hD hrows hp5;have he:q5.i 151=(dM D S [gu c]).e:=by simpa using he
  have G5:ah 142 ρ q5:=G4.tr g5;obtain⟨⟨s0,s1,s2,s3⟩,⟨t5,t6,t8,t9,t0,t1⟩,sr⟩:=V q5 G5;refine⟨fun h5=>?_,fun h5=>?_⟩
  .rw[s2,eP,sr,t6,t9,t0,t1];refine⟨⟨x,HI,st,_,T,B,RG,c,rfl,rfl,rfl,hIn.ix,hSh,hx,by omega,hK⟩,fun q6 g6 ⟨F6,⟨x',H',st',row',T',B',RG',c',K',e1,e2,e3,i1,i2,e4,hv,hI6⟩,_⟩=>?_⟩;simp only[Ze,Zm,Value.pointer.injEq,Zj,Addr.mk.injEq,Value.agg.injEq]at e1 e2 e3 e4;obtain⟨rfl,e1⟩:=e1;obtain⟨rfl,rfl,rfl⟩:=e3;have e1:=ZL e1;subst e1 e2 e4;obtain rfl:=hx.uniq i2;have est:∀ i,i<6->st i=st' i:=fun i hi=>hIn.ix.rd.st i1.rd hi;have hI6:qJ (q6.h 154) x (dE st' c):=hI6;have h6:q6.i 154=0:=by
    have:q6.i 154=ct st' c:=by simpa using hv
    rw[this,<-nS est c,h0]
   have G6:ah 142 ρ q6:=G5.tr g6;obtain⟨_,⟨_,_,_,_,_,r1⟩,_⟩:=V q6 G6;rw[r1];refine⟨fun _=>⟨nPre (Or.inl ⟨rfl,rfl⟩),fun q7 g7 ⟨F7,hp7,_⟩=>?_⟩,fun hne=>absurd h6 hne⟩;have h7:q7.i 156=0:=by simpa using nRes (Or.inl ⟨rfl,rfl⟩) hp7
   refine fin q7 151 154 152 _ _ _ _ _ ⟨0,(dM D S [gu c]).D,(dM D S [gu c]).S,dE st c⟩ ?_ (G6.tr g7) ?_ ?_ ?_ h7
   .unfold eE;rw[Zo (fun h=>h h0),Zo (fun h=>h (he.symm.trans h5))]
   .rw[g7.h 151,g6.h 151];exact hS5
   .rw[g7.h 154];exact hI6.congr fun i hi=>(wy est c hi).symm
   .rw[g7.h 152,g6.h 152];exact hD5
  .intro q6 g6 p6 q7 g7 p7;refine⟨by rw[vi1 p7];omega,fun q8 g8 p8=>⟨by rw[vi1 p8];omega,fun _=>?_,fun h=>absurd ((vi1 p8).symm.trans h) (by decide)⟩⟩;have G8:ah 142 ρ q8:=G5.trans (g6.mono.trans (g7.mono.tr g8));obtain⟨_,⟨_,_,_,_,_,r1⟩,_⟩:=V q8 G8;have hm:=met (s:={data:=#[97,100,100]}) (n:=q8.i 151) p6 p7 p8;have e154:q6.i 154=q8.i 154:=by rw[g8.i 154,g7.i 154]
   rw[e154]at hm;have e151:q7.i 151=q8.i 151:=(g8.i 151).symm;rw[r1];refine⟨nPre hm,fun q9 g9 ⟨F9,hp9,_⟩=>?_⟩;have h9:q9.i 157=q8.i 151:=by simpa using nRes hm hp9
   have hn5:(dM D S [gu c]).e≠0:=fun h=>h5 (he.trans h);have G9:ah 142 ρ q9:=G8.tr g9;have A9:ah 154 q5 q9:=g6.trans (g7.mono.trans (g8.mono.tr g9));refine fin q9 151 136 152 _ _ _ _ _ ⟨(dM D S [gu c]).e,(dM D S [gu c]).D,(dM D S [gu c]).S,st⟩ ?_ G9 ?_ ?_ ?_ ?_
   .unfold eE;rw[Zo (fun h=>h h0),ZA hn5]
   .rw[A9.h 151];exact hS5
   .rw[(V q9 G9).2.1.2.1];exact hIn.ix
   .rw[A9.h 152];exact hD5
   .exact h9.trans (e151.symm.trans ((by rw[g7.i 151,g6.i 151]:q7.i 151=q5.i 151).trans he))
 .have hn0:ct st c≠0:=fun h=>hne (hask.trans h);intro q3 g3 p3 q4 g4 p4;refine⟨by rw[vi1 p4];omega,fun q5 g5 p5=>⟨by rw[vi1 p5];omega,fun _=>?_,fun h=>absurd ((vi1 p5).symm.trans h) (by decide)⟩⟩;have G5:ah 142 ρ q5:=G2.trans (g3.mono.trans (g4.mono.tr g5));obtain⟨_,⟨_,_,_,_,_,r1⟩,_⟩:=V q5 G5;have hm:=met (s:={data:=#[97,115,107]}) (n:=q5.i 144) p3 p4 p5;have e145:q3.i 145=q5.i 145:=by rw[g5.i 145,g4.i 145]
  rw[e145]at hm;rw[r1];refine⟨nPre hm,fun q6 g6 ⟨F6,hp6,_⟩=>?_⟩;have h6:q6.i 148=q5.i 144:=by simpa using nRes hm hp6
  have G6:ah 142 ρ q6:=G5.tr g6;obtain⟨_,⟨o5,o6,o8,_,_,_⟩,_⟩:=V q6 G6;refine fin q6 135 136 138 _ _ _ _ _ ⟨ct st c,D,S,st⟩ ?_ G6 (by rw[o5];exact hIn.so) (by rw[o6];exact hIn.ix) (by rw[o8];exact hD) ?_
  .unfold eE;rw[ZA hn0]
  .exact h6.trans ((by rw[g5.i 144,g4.i 144,g3.i 144]:q5.i 144=q2.i 144).trans hask)
end Go.Proofs.YtomdimlnggpgbaaGreatDoor
namespace Go.Proofs.YtomdimlnggpgbaaGreatDoor
open Go Go.Sx Go.Pk
section
variable {s:Sx.Spec} {xs:List Value} {Rs:List Hl} {q:Env} {mem:Mem}
theorem rQ {e:E} (hr:s.res=[.one .bool]) (h:s.post xs [] Rs (.bool (bN q e)) [] Hl.none):postOf s xs [] Rs q mem (.sv (.one (.bool e))):=fun _ =>
 ⟨[],[],rfl,rfl,⟨{XC with b:=fun _=>bN q e},by rw[hr];rfl,by rw[hr];exact⟨trivial,trivial⟩⟩,h⟩
theorem XM (f:FuncId):(dt f).res=[.one .sl]:=rfl
end
theorem Jz {R:Hl} {u:Value} {r:List Int} (h:fp R u r):bY (some u) .slice=true/\bM (some u) 2=r.length /\
 (bM (some u) 0= -1\/bM (some u) 2=0\/0<=bM (some u) 0/\0<=bM (some u) 1/\cy R (bM (some u) 0).toNat (bM (some u) 1).toNat (bM (some u) 2).toNat=true) /\
 ∀ [Decidable (bM (some u) 0= -1)],(if bM (some u) 0= -1 then(⟨#[]⟩:ByteArray)else bytesOf (fe R (bM (some u) 0).toNat (bM (some u) 1).toNat (bM (some u) 2).toNat))=bytesOf r:=by
 have h2:=OJ h;obtain⟨x,y,c,rfl,hy,h⟩:=h;refine⟨rfl,h2,?_⟩;rw[h2];rcases h with h | ⟨hx,hc⟩
 .subst h;refine⟨Or.inr (Or.inl rfl),?_⟩;intro _;show(if _ then(⟨#[]⟩:ByteArray)else bytesOf (fe R _ _ 0))=ByteArray.empty;split<;>rfl
 .rw[Sn (by omega),TN hx hy,Y7];refine⟨Or.inr (Or.inr ⟨hx,hy,dA hc (ZB _)⟩),?_⟩;intro _;rw[Zo (by omega),mC hc]
theorem j8 {R:Hl} {x y l c:Int} {bs:List Int} [Decidable (x= -1)] (h:fp R (.slice (aA x y) l.toNat c.toNat) bs) (hy:0<=y) (hl:0<=l) :
 (x= -1\/l=0\/0<=x/\0<=y/\cy R x.toNat y.toNat l.toNat=true)/\(if x= -1 then(⟨#[]⟩:ByteArray)else bytesOf (fe R x.toNat y.toNat l.toNat))=bytesOf bs:=by
 obtain⟨x',y',c',he,hy',h⟩:=h;simp only[Value.slice.injEq]at he;obtain⟨hp,he,_⟩:=he;rcases h with rfl | ⟨h0,h⟩
 .have e:l=0:=by
   have:=he;simp at this;omega
  subst e;refine⟨Or.inr (Or.inl rfl),?_⟩;split<;>rfl
 .obtain⟨rfl,rfl⟩:=oA h0 hy' hy hp;refine⟨Or.inr (Or.inr ⟨h0,hy,dA h (by omega)⟩),?_⟩;rw[Zo (by omega),he,mC h]
def ia:Sx.Spec where
 fn:=63
 own:=[]
 rd:=[0]
 res:=[.one .sl]
 pre:=fun xs Hs Rs=>∃ v R rows,xs=[v]/\Rs=[R]/\bO R v qo rows/\rows.length<=100000
 post:=fun xs Hs Rs v' Hs' F=>∀ v R rows,xs=[v]->Rs=[R]->bO R v qo rows->bO F v' dQ (rows.map (List.take 125))
def qt:Nd:=(fun f b=>(fun c d=>(fun a=>(.and (.inv 0 [⟨51,0,.int .i64 (.lit (-1))⟩,⟨52,0,.int .i64 b⟩,⟨53,0,.int .i64 b⟩,⟨50,0,.int .i64 b⟩] [(54,none)]) (.havoc 0 0 5 (.and (.e (.le b (.var 2))) (.and (.imp (.lt f (.var 2)) (.and (.e (.le b (.var 0))) (.and (.e (.le b (.var 1))) (.and (.e (.le b f)) (.and (.e (.hks 4 (.var 0) c dQ)) (.ext (.alloc 60) (.and (.pre a) (.ext a (.back 0 0 [⟨51,0,.int .i64 (.var 61)⟩,⟨52,0,.int .i64 (.add (.var 52) (.lit 1))⟩,⟨53,0,.int .i64 (.var 62)⟩,⟨50,0,.int .i64 (.wrap .i64 (.add f (.lit 1)))⟩] [(54,some 61)]))))))))) (.imp (.not (.lt f (.var 2))) (.post [.ro 4 [.var 0] true,.hp 54 [] [.var 51] []] (.sv (.one d))))))):Nd)) (.app 61 65 125 232 d (.var 52) (.hp 54 [] [.var 51] []) (.cvs (bo 4 (.var 0) c 0 dQ) 1))) (.add (.var 1) (.mul f (.lit 126))) (.sl (.var 51) b (.var 52) (.var 53))) (.var 50) (.lit 0)
def zu:bU Tryz.prog [] ia.fn where
 Λ:=fun p=>if LL p then some ⟨0,[(4,TI .i64 (.var 50)),(3,.sv (.one (.sl (.var 51) (.lit 0) (.var 52) (.var 53))))],[(1,.hp 54 [] [.var 51] [])],60⟩else none
 args:=[.sv (.one (.sl (.var 0) (.var 1) (.var 2) (.var 3)))]
 mem:=[.ro 4 [.var 0] true]
 nv:=5
 nd:=qt
 ok:=by kernel_rfl
theorem rS:ia.OK Tryz.prog:=by
 refine Spec.bJ (Γ:=[]) (fun _ h=>by cases h) ?_;rintro xs Hs Rs hl1 hl2 ⟨v,R,rows,rfl,rfl,hR,hlen⟩;have e0:Hs=[]:=Za.1 hl1;subst e0;obtain⟨x,y,c,rfl,hy,_⟩:=id hR;refine⟨zu,bw [x,y,rows.length,c] false [Hl.none,Hl.none,Hl.none,Hl.none,R],fun _ q=>∃ k:Nat,q.i 50=k/\k<=rows.length/\ -1<=q.i 51/\q.i 52=k/\0<=q.i 53/\uw (q.h 54) 65 dQ (.slice (aA (q.i 51) 0) (q.i 52).toNat (q.i 53).toNat) ((rows.take k).map (List.take 125)),fun _ q=>(rows.length-q.i 50).toNat,?_,dB (by intro r hr;simp [zu]at hr;subst hr;exact⟨_,_,_,rfl⟩) rfl,(fun _ h=>nomatch h),?_⟩
 .show [Value.slice (aA x y) ((rows.length:Int)).toNat ((c:Int)).toNat]=_;rw[Y7,Y7]
 show Nd.holds _ _ _ qt;unfold qt;generalize hρ:bw [x,y,rows.length,c] false [Hl.none,Hl.none,Hl.none,Hl.none,R]=ρ;have V:∀ q:Env,ah 5 ρ q->q.i 0=x/\q.i 1=y/\q.i 2=rows.length/\q.h 4=R:=fun q hg=>by
  rw[hg.i 0,hg.i 1,hg.i 2,hg.h 4,<-hρ];exact⟨rfl,rfl,rfl,rfl⟩
 clear hρ;simp only[Nd.holds,X.pre,X.rel,X.n,Src.ok,Src.len,Src.bG,Zy,Zm,ZG,Zx,Zp,Nat.reduceAdd,Zd,Zh,bn,bj,aJ,aU,aR,bm,aZ,bh,bg,bd,aV,ba,bk,aX,aW,aK,aY,ai,aj,aB,aF,aD,ar,aG,aQ,aP,aq,aI,az,aH,av,TV.ev,SV.ev,CV.ev,Zf,Zr,bx.hl];refine⟨⟨0,rfl,aam _,Zw _,rfl,Zw _,uw.nil _ _ _⟩,fun q g ⟨k,ek,hk,x51,e52,x53,ho⟩=>?_⟩;obtain⟨v0,v1,v2,w4⟩:=V q g;rw[v0,v1,v2,w4,ek];refine⟨by omega,fun hlt=>?_,fun hge=>?_⟩
 .have hx0:0<=x:=by
   obtain⟨x',y',c',he,hy',hh⟩:=id hR;rcases hh with h | ⟨h,_⟩
   .rw[h]at hlt;simp at hlt;omega
   .simp only[Value.slice.injEq]at he;obtain⟨e1,_⟩:=oA h hy' hy he.1;omega
  have hR':bO R (.slice (aA x y) ((rows.length:Int)).toNat ((c:Int)).toNat) qo rows:=by rw[Y7,Y7];exact hR
  obtain⟨_,hat⟩:=hR'.at (by omega) hy (by omega);have hr:rows[k]?=some rows[k]:=Y8 (by omega);obtain⟨_,rok,cells⟩:=hat k _ hr;have ho':=iM (n:=125) rok;rw[xj]at ho';have hc:∀ i u,(rows[k].take 125)[i]?=some u->R.cell x.toNat ((y+(k:Int)*126).toNat+i)=some u:=fun i u hu=>by
   rw[Z2]at hu;split at hu
   .have:=cells i u hu;rw[kN]at this;rw[show(y+(k:Int)*126).toNat=y.toNat+k*126 by omega];exact this
   .cases hu
  have hc':∀ i u,rows[k][i]?=some u->R.cell x.toNat ((y+(k:Int)*126).toNat+i)=some u:=fun i u hu=>by
   have:=cells i u hu;rw[kN]at this;rw[show(y+(k:Int)*126).toNat=y.toNat+k*126 by omega];exact this
  refine⟨hx0,hy,by omega,ke _ ho' hc,fun q1 g1 _=>?_⟩;have G1:ah 5 ρ q1:=g.tr g1;obtain⟨u0,u1,u2,z4⟩:=V q1 G1;have er:List.map (CV.ev q1) (bo 4 (.var 0) (.add (.var 1) (.mul (.var 50) (.lit 126))) 0 dQ)=rows[k].take 125:=fj _ dQ 0 ho' fun i u hu=>by
   show(q1.h 4).cell (q1.i 0).toNat ((q1.i 1+q1.i 50*126).toNat+(0+i))=some u;rw[u0,u1,z4,g1.i 50,ek,ZM];exact hc i u hu
  rw[er,g1.i 51,g1.i 52,g1.i 53,g1.h 54];have hl52:q.i 52=((rows.take k).map (List.take 125)).length:=by rw[ZD,ZE,e52];omega
  refine⟨⟨⟨_,ho.pre hl52⟩,by omega,by unfold maxLen;omega,by omega⟩,fun q2 g2 ⟨a1,a2,happ,_⟩=>?_⟩;have ha:=ho.app hl52 ho' happ;refine⟨⟨k+1,?_,by omega,a1,?_,a2,?_⟩,?_⟩
  .show IntKind.i64.wrap (q2.i 50+1)=_;rw[g2.i 50,g1.i 50,ek];exact wrap_i64 (by omega) (by omega)
  .show q2.i 52+1=_;rw[g2.i 52,g1.i 52,e52];rfl
  .show uw (q2.h 61) _ dQ (.slice (aA (q2.i 61) 0) (q2.i 52+1).toNat (q2.i 62).toNat) _;rw[g2.i 52,g1.i 52,aaC,hr,aaE,ZP];exact ha
  .show((rows.length:Int)-IntKind.i64.wrap (q2.i 50+1)).toNat<_;rw[g2.i 50,g1.i 50,ek,wrap_i64 (by omega) (by omega)];omega
 .have:k=rows.length:=by omega
  subst this;rw[aad]at ho;intro _;refine⟨[],[1],rfl,rfl,⟨⟨fun j=>[q.i 51,0,q.i 52,q.i 53].getD j 0,fun _=>false,fun _=>.empty,fun _=>.tuple #[],fun _=>Hl.none⟩,rfl,⟨x51,Zw _,by show 0<=q.i 52;omega,x53⟩,trivial⟩,fun v' R' rows' e1 e2 hR'=>?_⟩;simp only[Ze,Zm]at e1 e2;subst e1 e2;obtain rfl:=hR.uniq hR';show bO (dC [q.h 54]) _ _ _;rw[bz];exact ho.rd
end Go.Proofs.YtomdimlnggpgbaaGreatDoor
