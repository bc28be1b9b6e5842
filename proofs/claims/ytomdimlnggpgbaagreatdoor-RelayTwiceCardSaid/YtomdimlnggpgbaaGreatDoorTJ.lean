/- RelayTwice. -/
import Derived.Test.YtomdimlnggpgbaaGreatDoorTI
set_option linter.all false
set_option maxHeartbeats 4000000
namespace Go.Sx
open Go
theorem qM:∀ (ns:List Int) (r:ByteArray),(ns.foldl (fun r n=>r.push (UInt8.ofNat n.toNat)) r).data.toList=r.data.toList++ns.map fun n=>UInt8.ofNat n.toNat
 | [],r=>by simp
 | n::ns,r=>by
  rw[abo,qM ns];show(r.data.push _).toList++_=_;rw[Array.toList_push,ZK];rfl
theorem B9:∀ {a b:List Int},(∀ z∈a,0<=z/\z<256)->(∀ z∈b,0<=z/\z<256)->bytesOf a=bytesOf b->a=b:=by
 have key:∀ (a b:List Int),(∀ z∈a,0<=z/\z<256)->(∀ z∈b,0<=z/\z<256)->(a.map fun n=>UInt8.ofNat n.toNat)=(b.map fun n=>UInt8.ofNat n.toNat)->a=b:=by
  intro a
  induction a with
  | nil=>intro b _ _ h;cases b with
   | nil=>rfl
   | cons y b=>cases h
  | cons x a ih =>
   intro b ha hb h;cases b with
   | nil=>cases h
   | cons y b =>
    rw[Zf,Zf,Ze]at h;have hx:=ha x (ZJ ..);have hy:=hb y (ZJ ..);have e:=ZW UInt8.toNat h.1;rw[UInt8.toNat_ofNat',UInt8.toNat_ofNat']at e;have:x=y:=by omega
    subst this;rw[ih b (fun z h=>ha z (Zu _ h)) (fun z h=>hb z (Zu _ h)) h.2]
 intro a b ha hb h;have:=ZW (fun x:ByteArray=>x.data.toList) h;unfold bytesOf at this;simp only[qM]at this;exact key a b ha hb (by simpa using this)
end Go.Sx
namespace Go.Proofs.YtomdimlnggpgbaaGreatDoor
open Go Go.Sx Go.Pk
theorem MK {R:Hl} {x y:Int} {n c:Nat} {rows:List (List Value)} (h:bO R (.slice (aA x y) n c) dQ rows) (hy:0<=y) {k:Nat} {row:List Value} (hk:rows[k]?=some row) :
 0<=x/\ua R x.toNat (y+(k:Int)*125).toNat dQ=true/\∀ {q:Env} {g:Nat} {a b:E},q.h g=R->aC q a=x->aC q b=y+(k:Int)*125->(bo g a b 0 dQ).map (CV.ev q)=row:=by
 obtain⟨x1,y1,c1,he,hy1,hr⟩:=h;simp only[Value.slice.injEq]at he;rcases hr with rfl | ⟨hx1,hr⟩
 .simp at hk
 obtain⟨e1,e2⟩:=oA hx1 hy1 hy he.1;subst e1 e2;obtain⟨ro,h2⟩:=hr k _ hk;have e:(y+(k:Int)*125).toNat=y.toNat+k*dQ.length:=by rw[show dQ.length=125 from rfl];omega
 have hc:∀ i u,row[i]?=some u->R.cell x.toNat ((y+(k:Int)*125).toNat+i)=some u:=fun i u hu=>by rw[e];exact h2 i u hu
 refine⟨hx1,ke _ ro hc,fun {q g a b} hg ha hb=>fj row dQ 0 ro fun i u hu=>?_⟩;rw[hg,ha,hb,ZM];exact hc i u hu
def uc:Sx.Spec where
 fn:=101
 own:=[]
 rd:=[0,100,2000003]
 res:=[.agg (List.replicate 32 (Ck.int .u8))]
 pre:=fun xs Hs Rs=>∃ v R T RG rows hs,xs=[v]/\Rs=[R,T,RG]/\bO R v dQ rows/\fu T rows hs/\rows.length<=100000/\uz RG 3
 post:=fun xs Hs Rs v' Hs' F=>∀ v R T RG rows hs,xs=[v]->Rs=[R,T,RG]->bO R v dQ rows->fu T rows hs->v'=.agg (bK (iE hs)).toArray
def Gd:Nd:=(fun g c d=>(fun b=>(fun f=>(fun a=>(.ext (.alloc 7) (.and (.e (.le d g)) (.and (.imp (.eq g d) (.post c (.sv (.agg (List.replicate 32 (CV.int .u8 d)))))) (.imp (.not (.eq g d)) (.and (.e (.le d (.var 0))) (.and (.e (.le d (.var 1))) (.and (.e (.le d b)) (.and (.e (.lt b g)) (.and (.e (.hks 4 (.var 0) f dQ)) (.and (.pre a) (.ext a (.post c (.sv (.agg (al 8 (List.replicate 32 (Ck.int .u8)))))))))))))))):Nd)) (.call 0 8 [.sv (.agg (bo 4 (.var 0) f 0 dQ))] [] [.ro 5 [] true,.ro 6 [.lit 3] false])) (.add (.var 1) (.mul b (.lit 125)))) (.wrap .i64 (.sub g (.lit 1)))) (.var 2) [.ro 4 [.var 0] false,.ro 5 [] true,.ro 6 [.lit 3] false,.dead] (.lit 0)
noncomputable def Ue:List Sx.Spec:=[TD]
theorem Wy:Ue[0]?=some TD:=rfl
theorem Wz:TD.res=[.agg (List.replicate 32 (Ck.int .u8))]:=rfl
noncomputable def PG:bU Tryz.prog Ue uc.fn where
 Λ:=aM
 args:=[.sv (.one (.sl (.var 0) (.var 1) (.var 2) (.var 3)))]
 mem:=[.ro 4 [.var 0] false,.ro 5 [] true,.ro 6 [.lit 3] false]
 nv:=7
 nd:=Gd
 ok:=by kernel_rfl
theorem zg {q:Env} {n:Nat} {ks:List Ck} (h:Og ks=true):fg n [.agg ks] q:=⟨de _ _ _ h,trivial⟩
theorem DI:uc.OK Tryz.prog:=by
 refine Spec.bJ (Γ:=Ue) (fun t ht=>by rw[Ue,Zn]at ht;subst ht;exact Ro) ?_;rintro xs Hs Rs hl1 hl2 ⟨v,R,T,RG,rows,hs,rfl,rfl,hR,hA,hlen,hK⟩;have e0:Hs=[]:=Za.1 hl1;subst e0;obtain⟨x,y,c,rfl,hy,_⟩:=id hR;refine⟨PG,bw [x,y,rows.length,c] false [Hl.none,Hl.none,Hl.none,Hl.none,R,T,RG],fun _ _=>True,fun _ _=>0,?_,dB (by intro r hr;simp [PG]at hr;rcases hr with rfl | rfl | rfl<;>exact⟨_,_,_,rfl⟩) rfl,(fun _ h=>nomatch h),?_⟩
 .show [Value.slice (aA x y) ((rows.length:Int)).toNat ((c:Int)).toNat]=_;rw[Y7,Y7]
 show Nd.holds _ _ _ Gd;unfold Gd;generalize hρ:bw [x,y,rows.length,c] false [Hl.none,Hl.none,Hl.none,Hl.none,R,T,RG]=ρ;have V:∀ q:Env,ah 7 ρ q->q.i 0=x/\q.i 1=y/\q.i 2=rows.length/\q.h 4=R/\q.h 5=T/\q.h 6=RG:=fun q hg=>by
  rw[hg.i 0,hg.i 1,hg.i 2,hg.h 4,hg.h 5,hg.h 6,<-hρ];exact⟨rfl,rfl,rfl,rfl,rfl,rfl⟩
 clear hρ;have out:∀ {v'},v'=Value.agg (bK (iE hs)).toArray->∀ F,uc.post [.slice (aA x y) rows.length c] [] [R,T,RG] v' [] F:=fun {v'} hv F v2 R' T' RG' rows' hs' e1 e2 h1 h2=>by
  simp only[Ze,Zm]at e1 e2;obtain⟨rfl,rfl,rfl⟩:=e2;subst e1;obtain rfl:=hR.uniq h1;rw[hA.uniq h2]at hv;exact hv
 simp only[Nd.holds,X.pre,X.rel,X.n,Src.ok,Src.len,Src.bG,Zy,Zm,ZG,Zx,Zp,Nat.reduceAdd,Zd,Zh,bn,bj,aJ,aU,aR,bm,aZ,bh,bg,bd,aV,ba,bk,aX,aW,aK,aY,ai,aj,aB,aF,aD,ar,aG,aQ,aP,aq,aI,az,aH,av,TV.ev,SV.ev,CV.ev,Zf,Zr,bx.hl,cu,Cp.sv,Ck.cv,bf,Cp.len,Ck.len,aE,aN,aT,Wy,Wz];intro q1 g1 _;obtain⟨v0,v1,v2,w4,w5,w6⟩:=V q1 g1;rw[v0,v1,v2,w4,w5,w6];refine⟨by omega,fun h0 _=>?_,fun hne=>?_⟩
 .have:hs=[]:=Za.1 (by have:=hA.1;omega);refine⟨[],[],rfl,rfl,⟨⟨fun _=>0,fun _=>false,fun _=>.empty,fun _=>.tuple #[],fun _=>Hl.none⟩,rfl,zg rfl⟩,out ?_ _⟩;subst this;rfl
 .have hw:IntKind.i64.wrap ((rows.length:Int)-1)=((rows.length-1:Nat):Int):=by rw[IntKind.wrap_i64];omega
  obtain⟨row,hr⟩:∃ row,rows[rows.length-1]?=some row:=⟨_,Y8 (by omega)⟩;obtain⟨h,hh⟩:∃ h,hs[rows.length-1]?=some h:=⟨_,Y8 (by have:=hA.1;omega)⟩;obtain⟨hx0,hri,hrc⟩:=MK hR hy hr;have hI:=hA.2 _ _ _ hr hh;have er:=hrc (q:=q1) (g:=4) (a:=.var 0) (b:=(E.var 1).add ((E.wrap .i64 ((E.var 2).sub (.lit 1))).mul (.lit 125))) w4 v0 (by
   show q1.i 1+IntKind.i64.wrap (q1.i 2-1)*125=_;rw[v1,v2,hw])
  rw[er,hw];refine⟨hx0,hy,by omega,by omega,hri,⟨_,T,RG,h,rfl,rfl,hI,hK⟩,fun q2 g2 ⟨F,hp,_⟩ _=>?_⟩;have hp:=hp _ _ _ _ rfl rfl hI;have et:iE hs=lU h:=by
   unfold iE;have:hs.getLast?=some h:=by rw[List.getLast?_eq_getElem?,<-hA.1];exact hh
   rw[this]
  rw[<-et]at hp;refine⟨[],[],rfl,rfl,⟨⟨fun k=>q2.i (k+8),fun _=>false,fun _=>.empty,fun _=>.tuple #[],fun _=>Hl.none⟩,rfl,zg rfl⟩,out hp _⟩
theorem ML {ks:List Ck} {row:List Value} (f:Nat->Int) (hs:List (Nat×Hl)) (h:bS row (ks.map jA)):∃ q:Env,row=(al 0 ks).map (CV.ev q)/\(∀ k,q.h k=yu hs k)/\(∀ k,bR ks<=k->q.i k=f k):=by
 obtain⟨q,hr,_,hh⟩:=Bt (ks:=ks) hs h;refine⟨⟨fun k=>if bR ks<=k then f k else q.i k,q.b,q.s,q.v,q.h⟩,?_,hh,fun k hk=>ZA hk⟩;rw[hr];have g:ah (bR ks) q ⟨fun k=>if bR ks<=k then f k else q.i k,q.b,q.s,q.v,q.h⟩:=⟨fun k hk=>Zo (by omega),fun _ _=>rfl,fun _ _=>rfl,fun _ _=>rfl,fun _ _=>rfl⟩;exact(ZW Array.toList (Value.agg.inj (fQ (ks:=ks) (n:=0) g (by omega)))).symm
noncomputable def zq:Sx.Spec where
 fn:=66
 own:=[]
 rd:=[1,100,10253,2000003]
 res:=[.one (.int .i64)]
 pre:=fun xs Hs Rs=>∃ w v row R T T2 RG rows hs h,xs=[.int .i64 w,v,.agg row.toArray]/\Rs=[R,T,T2,RG]/\bO R v dQ rows/\fu T rows hs/\(∀ g∈hs,g.Form)/\cN T2 row h/\rows.length<=100000/\uz RG 3
 post:=fun xs Hs Rs v' Hs' F=>∀ w v row R T T2 RG rows hs h,xs=[.int .i64 w,v,.agg row.toArray]->Rs=[R,T,T2,RG]->bO R v dQ rows->fu T rows hs->cN T2 row h->v'=.int .i64 (fU w hs h)
def FT:Nd:=(fun n m u v b r t h f s i j k=>(fun a c q g l p=>(fun d o=>(.ext (.alloc 138) (.and (.pre (.call 0 139 i [] j)) (.ext (.call 0 139 i [] j) (.and (.imp (.bvar 139) (.and (.imp (.not (.eq (.var 0) (.var 129))) p) (.imp (.eq (.var 0) (.var 129)) (.and (.e (.le k s)) (.and (.imp (.le (.var 1) l) (.and (.e (.le k t)) (.and (.e (.le k (.var 131))) (.and (.e (.le k h)) (.and (.e (.lt h s)) (.and (.e (.hks 134 t q dQ)) (.and (.pre d) (.ext d (.and (.e (.or (.eq m r) (.or (.eq u k) (.and (.le k m) (.and (.le k v) (.hby 140 m v u)))))) (.and (.pre (.call 2 144 i [] j)) (.ext (.call 2 144 i [] j) (.and (.e (.or (.eq n r) (.or (.eq (.var 146) k) (.and (.le k n) (.and (.le k (.var 145)) (.hby 144 n (.var 145) (.var 146))))))) (.and (.imp c (.post f (.sv (.one (.int .i64 (.lit 13)))))) (.imp (.not c) (.post f (.sv (.one (.int .i64 (.lit 8))))))))))))))))))) (.imp (.not (.le (.var 1) l)) (.and (.imp o (.post b (.sv (.one (.int .i64 (.lit 12)))))) (.imp (.not o) (.and (.pre g) (.ext g (.and (.imp (.not a) (.post b (.sv (.one (.int .i64 (.lit 7)))))) (.imp a (.post b (.sv (.one (.int .i64 k)))))))))))))))) (.imp (.not (.bvar 139)) p)))):Nd)) (.call 2 140 [.sv (.agg (bo 134 t q 0 dQ))] [] [.ro 135 [] true]) (.lt (.wrap .u64 (.add l (.lit 1))) (.var 1))) (.and (.eq (.var 2) m) (.and (.eq (.var 3) v) (.and (.eq (.var 4) u) (.and (.eq (.var 5) (.var 143)) (.and (.eq (.var 6) n) (.and (.eq (.var 7) (.var 145)) (.and (.eq (.var 8) (.var 146)) (.and (.eq (.var 9) (.var 147)) (.and (.eq (.var 10) (.var 148)) (.and (.eq (.var 11) (.var 149)) (.and (.eq (.var 12) (.var 150)) (.and (.eq (.var 13) (.var 151)) (.and (.eq (.var 14) (.var 152)) (.and (.eq (.var 15) (.var 153)) (.and (.eq (.var 16) (.var 154)) (.and (.eq (.var 17) (.var 155)) (.and (.eq (.var 18) (.var 156)) (.and (.eq (.var 19) (.var 157)) (.and (.eq (.var 20) (.var 158)) (.and (.eq (.var 21) (.var 159)) (.and (.eq (.var 22) (.var 160)) (.and (.eq (.var 23) (.var 161)) (.and (.eq (.var 24) (.var 162)) (.and (.eq (.var 25) (.var 163)) (.and (.eq (.var 26) (.var 164)) (.and (.eq (.var 27) (.var 165)) (.and (.eq (.var 28) (.var 166)) (.and (.eq (.var 29) (.var 167)) (.and (.eq (.var 30) (.var 168)) (.and (.eq (.var 31) (.var 169)) (.and (.eq (.var 32) (.var 170)) (.eq (.var 33) (.var 171))))))))))))))))))))))))))))))))) (.seq (.ite (.eq m r) (.slit ⟨#[]⟩) (.sof 140 m v u)) (.ite (.eq n r) (.slit ⟨#[]⟩) (.sof 144 n (.var 145) (.var 146)))) (.add (.var 131) (.mul h (.lit 125))) (.call 1 140 [.sv (.one (.sl t (.var 131) s (.var 133)))] [] [.ro 134 [.var 130] false,.ro 135 [] true,.ro 137 [.lit 3] false]) (.wrap .u64 s) (.post b (.sv (.one (.int .i64 (.lit 1)))))) (.var 144) (.var 140) (.var 142) (.var 141) [.ro 134 [.var 130] false,.ro 135 [] true,.ro 136 [.var 53] false,.ro 137 [.lit 3] false,.dead] (.lit (-1)) (.var 130) (.wrap .u64 (.sub (.var 1) (.lit 1))) [.ro 134 [.var 130] false,.ro 135 [] true,.ro 136 [.var 53] false,.ro 137 [.lit 3] false,.dead,.hp 140 [] [.var 140] [],.hp 144 [] [.var 144] []] (.var 132) [.sv (.agg (al 0 cX))] [.ro 136 [.var 53] false] (.lit 0)
noncomputable def Sl:List Sx.Spec:=[fR 65,uc,dt 71]
theorem V3:Sl[0]?=some (fR 65):=rfl
theorem V4:Sl[1]?=some uc:=rfl
theorem V5:Sl[2]?=some (dt 71):=rfl
theorem TE:uc.res=[.agg (List.replicate 32 (Ck.int .u8))]:=rfl
noncomputable def PD:bU Tryz.prog Sl zq.fn where
 Λ:=aM
 args:=TI .i64 (.var 129)::.sv (.one (.sl (.var 130) (.var 131) (.var 132) (.var 133)))::(bf 0 [.agg cX]).map .sv
 mem:=[.ro 134 [.var 130] false,.ro 135 [] true,.ro 136 [.var 53] false,.ro 137 [.lit 3] false]
 nv:=138
 nd:=FT
 ok:=by kernel_rfl
open Classical in
set_option maxRecDepth 20000 in
theorem Mw:zq.OK Tryz.prog:=by
 refine Spec.bJ (Γ:=Sl) (fun t ht=>?_) ?_
 .simp only[Sl,Zl,Zq,ZO]at ht;rcases ht with rfl | rfl | rfl
  .exact sN
  .exact DI
  .exact xo
 rintro xs Hs Rs hl1 hl2 ⟨w,v,row,R,T,T2,RG,rows,hs,h,rfl,rfl,hR,hA,hFs,hx,hlen,hK⟩;have e0:Hs=[]:=Za.1 hl1;subst e0;obtain⟨x,y,c,rfl,hy,_⟩:=id hR;obtain⟨ρ,hrow0,hh,hv⟩:=ML (ks:=cX) (fun k=>[w,x,y,rows.length,c].getD (k-129) 0) [(134,R),(135,T),(136,T2),(137,RG)] hx.ok;have hc2:bR cX<=129:=by decide
 have v9:ρ.i 129=w:=hv 129 (by omega);have v0:ρ.i 130=x:=hv 130 (by omega);have v1:ρ.i 131=y:=hv 131 (by omega);have v2:ρ.i 132=rows.length:=hv 132 (by omega);have v3:ρ.i 133=c:=hv 133 (by omega);have w4:ρ.h 134=R:=hh 134;have w5:ρ.h 135=T:=hh 135;have w6:ρ.h 136=T2:=hh 136;have w7:ρ.h 137=RG:=hh 137;refine⟨PD,ρ,fun _ _=>True,fun _ _=>0,?_,dB (by intro r hr;simp [PD]at hr;rcases hr with rfl | rfl | rfl | rfl<;>exact⟨_,_,_,rfl⟩) (by show [ρ.h 134,ρ.h 135,ρ.h 136,ρ.h 137]=_;rw[w4,w5,w6,w7]),(fun _ h=>nomatch h),?_⟩
 .show [Value.int .i64 (ρ.i 129),.slice (aA (ρ.i 130) (ρ.i 131)) (ρ.i 132).toNat (ρ.i 133).toNat,.agg ((al 0 cX).map (CV.ev ρ)).toArray]=_;rw[v9,v0,v1,v2,v3,<-hrow0,Y7,Y7]
 show Nd.holds _ _ _ FT;unfold FT;simp only[Nd.holds,X.pre,X.rel,X.n,Src.ok,Src.len,Src.bG,Zy,Zm,ZG,Zx,Zp,Nat.reduceAdd,Zd,Zh,bn,bj,aJ,aU,aR,bm,aZ,bh,bg,bd,aV,ba,bk,aX,aW,aK,aY,ai,aj,aB,aF,aD,ar,aG,aQ,aP,aq,aI,az,aH,av,TV.ev,SV.ev,CV.ev,Zf,Zr,bx.hl,cu,Cp.sv,Ck.cv,bf,Cp.len,Ck.len,aE,aN,aT,V3,V4,V5,NH,TE,XM,Kk];have V:∀ q:Env,ah 138 ρ q->(q.i 129=w/\q.i 130=x/\q.i 131=y/\q.i 132=rows.length)/\(q.h 134=R/\q.h 135=T/\q.h 136=T2/\q.h 137=RG)/\(al 0 cX).map (CV.ev q)=row/\q.i 0=ρ.i 0/\q.i 1=ρ.i 1/\gF q 2=gF ρ 2/\Value.slice (aA (q.i 130) (q.i 131)) (q.i 132).toNat (q.i 133).toNat=.slice (aA x y) rows.length c:=fun q g=>by
  refine⟨⟨by rw[g.i 129,v9],by rw[g.i 130,v0],by rw[g.i 131,v1],by rw[g.i 132,v2]⟩,⟨by rw[g.h 134,w4],by rw[g.h 135,w5],by rw[g.h 136,w6],by rw[g.h 137,w7]⟩,?_,g.i 0,g.i 1,Bx g (by omega),?_⟩
  .rw[hrow0];exact ZW Array.toList (Value.agg.inj (fQ (ks:=cX) (n:=0) g (by decide)))
  .rw[g.i 130,g.i 131,g.i 132,g.i 133,v0,v1,v2,v3,Y7,Y7]
 have out:∀ {q:Env} {mem:Mem} {e:E},aC q e=fU w hs h->postOf zq [.int .i64 w,.slice (aA x y) rows.length c,.agg row.toArray] [] [R,T,T2,RG] q mem (.sv (.one (.int .i64 e))):=fun {q mem e} he =>
  lY rfl he fun F w' v' row' R' T' T2' RG' rows' hs' h' e1 e2 hR' hA' hx'=>by
   simp only[Ze,Zm,Value.int.injEq,Zy,Value.agg.injEq]at e1 e2;obtain⟨rfl,rfl,e1⟩:=e1;obtain⟨rfl,rfl,rfl,rfl⟩:=e2;have e1:=ZL e1;subst e1;obtain rfl:=hR.uniq hR';obtain rfl:=hA.uniq hA';rw[hx.uniq hx']
 have h0:cI h.c 0=ρ.i 0:=by
  have e1:cI h.c 0=cI row 0:=hx.I (by decide);rw[e1,hrow0];rfl
 have h1:cI h.c 1=ρ.i 1:=by
  have e1:cI h.c 1=cI row 1:=hx.I (by decide);rw[e1,hrow0];rfl
 have h2:bL h.c 2 32=gF ρ 2:=by
  have:bL h.c 2 32=bL row 2 32:=by
   unfold bL;refine aac fun j hj=>hx.I ?_;have:=ZQ.1 hj;omega
  rw[this,hrow0];rfl
 have hlr:rows.length=hs.length:=hA.1;intro q1 g1 p1;obtain⟨_,⟨_,_,x6,_⟩,xr,_⟩:=V q1 g1;rw[xr,x6];refine⟨⟨_,T2,h,rfl,rfl,hx⟩,fun q2 g2 ⟨F2,hp2,_⟩=>?_⟩;have G2:ah 138 ρ q2:=g1.tr g2;have hb2:q2.b 139=decide h.Form:=Value.bool.inj (lP hx hp2);obtain⟨⟨y9,y0,y1,y2⟩,⟨y4,y5,y6,y7⟩,yr,yi0,yi1,ys,ysl⟩:=V q2 G2;refine⟨fun hb=>?_,fun hb=>out ?_⟩
 rotate_left
 .have hF:¬h.Form:=by rw[hb2]at hb;simpa using hb
  unfold fU;rw[ZA (Or.inl hF)];rfl
 have hF:h.Form:=by rw[hb2]at hb;simpa using hb
 have hseq:1<=cI h.c 1/\cI h.c 1<=1048576:=hF.1.2.1;rw[h1]at hseq;rw[ysl,yi0,yi1,y9,y0,y1,y2,y4,y5];have wl:IntKind.u64.wrap (rows.length:Int)=rows.length:=by rw[IntKind.wrap_u64];omega
 have ws:IntKind.u64.wrap (ρ.i 1-1)=(((ρ.i 1-1).toNat:Nat):Int):=by rw[IntKind.wrap_u64];omega
 refine⟨fun hne=>out ?_,fun heq=>⟨by omega,fun hle=>?_,fun hgt=>?_⟩⟩
 .unfold fU;rw[ZA (Or.inr (by rw[h0];exact hne))];rfl
 .have hn1:¬(¬h.Form\/cI h.c 0≠w):=by rw[h0];exact fun hh=>hh.elim (fun g=>g hF) (fun g=>g heq)
  rw[wl]at hle;have hk:(ρ.i 1-1).toNat<rows.length:=by omega
  obtain⟨row',hr⟩:∃ row',rows[(ρ.i 1-1).toNat]?=some row':=⟨_,Y8 hk⟩;obtain⟨h',hh'⟩:∃ h',hs[(ρ.i 1-1).toNat]?=some h':=⟨_,Y8 (by omega)⟩;obtain⟨hx0,hri,hrc⟩:=MK hR hy hr;have hI:=hA.2 _ _ _ hr hh';have er:=hrc (q:=q2) (g:=134) (a:=.var 130) (b:=(E.var 131).add ((E.wrap .u64 ((E.var 1).sub (.lit 1))).mul (.lit 125))) y4 y0 (by
   show q2.i 131+IntKind.u64.wrap (q2.i 1-1)*125=_;rw[y1,yi1,ws])
  rw[er,ws];refine⟨hx0,hy,by omega,by omega,hri,⟨_,T,h',rfl,rfl,hI⟩,fun q3 g3 ⟨F3,hp3,hF3,hn3⟩=>?_⟩;have B3:=mz hI hp3;rw[<-hF3 trivial]at B3;have n3:-1<=q3.i 140/\0<=q3.i 141/\0<=q3.i 142/\0<=q3.i 143:=hn3.1;have G3:ah 138 ρ q3:=G2.tr g3;obtain⟨_,⟨_,_,z6,_⟩,zr,_⟩:=V q3 G3;rw[zr,z6];refine⟨(j8 B3.rd.w n3.2.1 n3.2.2.1).1,⟨_,T2,h,rfl,rfl,hx⟩,fun q4 g4 ⟨F4,hp4,hF4,hn4⟩=>?_⟩;have B4:=mz hx hp4;rw[<-hF4 trivial]at B4;have n4:-1<=q4.i 144/\0<=q4.i 145/\0<=q4.i 146/\0<=q4.i 147:=hn4.1;have B3':cH (q4.h 140) 5 (.slice (aA (q4.i 140) (q4.i 141)) (q4.i 142).toNat (q4.i 143).toNat) (cj h'):=by
   rw[g4.h 140,g4.i 140,g4.i 141,g4.i 142,g4.i 143];exact B3
  have t3:=j8 B3'.rd.w (by rw[g4.i 141];exact n3.2.1) (by rw[g4.i 142];exact n3.2.2.1);have t4:=j8 B4.rd.w n4.2.1 n4.2.2.1;rw[t3.2,t4.2];have key:(hs[(cI h.c 1-1).toNat]?=some h)↔bytesOf (cj h')=bytesOf (cj h):=by
   rw[h1,hh',Zj];refine⟨fun e=>by rw[e],fun e=>?_⟩;have e:=B9 (Kr hI).1 (Kr hx).1 e;exact(Al hI hx (hFs _ (Zb hh')) hF).1 e
  refine⟨t4.1,fun he=>out ?_,fun he=>out ?_⟩
  .unfold fU;rw[Zo hn1,ZA (by rw[h1];omega),ZA (key.2 he)];rfl
  .unfold fU;rw[Zo hn1,ZA (by rw[h1];omega),Zo (fun g=>he (key.1 g))];rfl
 .have hn1:¬(¬h.Form\/cI h.c 0≠w):=by rw[h0];exact fun hh=>hh.elim (fun g=>g hF) (fun g=>g heq)
  rw[wl]at hgt ⊢;have wl2:IntKind.u64.wrap ((rows.length:Int)+1)=(rows.length:Int)+1:=by rw[IntKind.wrap_u64];omega
  have EZ:¬cI h.c 1<=hs.length:=by rw[h1];omega
  rw[wl2,y7];refine⟨fun hlt=>out ?_,fun hge=>⟨⟨_,R,T,RG,rows,hs,rfl,rfl,hR,hA,hlen,hK⟩,fun q3 g3 ⟨F3,hp3,_⟩=>?_⟩⟩
  .unfold fU;rw[Zo hn1,Zo EZ,ZA (by rw[h1];omega)];rfl
  have hp3:=hp3 _ _ _ _ _ _ rfl rfl hR hA;have hp3:gF q3 140=iE hs:=by
   have hp:Value.agg (bK (gF q3 140)).toArray=.agg (bK (iE hs)).toArray:=hp3;exact jy (ZW Array.toList (Value.agg.inj hp))
  have G3:ah 138 ρ q3:=G2.tr g3;obtain⟨_,_,_,_,_,zs,_⟩:=V q3 G3;have hge':¬((hs.length:Int)+1<cI h.c 1):=by rw[h1];omega
  have key:=Gj q3 q3 2 140;rw[hp3,zs,<-h2]at key;refine⟨fun hne=>out ?_,fun heq=>out ?_⟩
  .have hne:¬bL h.c 2 32=iE hs:=fun g=>hne (key.1 g);unfold fU;rw[Zo hn1,Zo EZ,Zo hge',ZA hne];rfl
  .have heq:bL h.c 2 32=iE hs:=key.2 heq;unfold fU;rw[Zo hn1,Zo EZ,Zo hge',Zo (fun g=>g heq)];rfl
def Sj (sv:Nat->Value):List Value:=[sv 0,sv 1,sv 2,sv 3,sv 4,sv 5]
theorem Rl (sv:Nat->Value) {i:Nat} (h:i<6):(Sj sv)[i]?=some (sv i):=by
 have:i=0\/i=1\/i=2\/i=3\/i=4\/i=5:=by omega
 rcases this with rfl | rfl | rfl | rfl | rfl | rfl<;>rfl
theorem OP (sv:Nat->Value) (v:Value) {i:Nat} (h:i<6):cf (Sj sv) i [v]=Sj (te sv i v):=by
 have:i=0\/i=1\/i=2\/i=3\/i=4\/i=5:=by omega
 rcases this with rfl | rfl | rfl | rfl | rfl | rfl<;>rfl
structure Ng (H T:Hl) (x:Nat) (st:Nat->List Pc) (sv:Nat->Value) (KB:Hl):Prop where
 bD:H x=some (.cells (Sj sv).toArray 57 (0,0))
 row:∀ i,i<6->∃ rows,uw H 67 qo (sv i) rows/\rows.length=(st i).length/\∀ (j:Nat) row p,rows[j]?=some row->(st i)[j]?=some p->gm T KB row p
 kb:KB.le H
 kbx:¬KB.mem x
 own:∀ i b,i<6->(sv i).ownBlock=some b->¬KB.mem b/\∀ j,j<6->j≠i->(sv j).ownBlock≠some b
 form:∀ i,i<6->∀ p∈st i,p.h.Form
def jx (H T:Hl) (x:Nat) (st:Nat->List Pc):Prop:=∃ sv KB,Ng H T x st sv KB
theorem Ng.mono {H H' T:Hl} (hl:H.le H') {x:Nat} {st:Nat->List Pc} {sv:Nat->Value} {KB:Hl} (h:Ng H T x st sv KB):Ng H' T x st sv KB:=by
 refine⟨hl _ _ h.bD,fun i hi=>?_,fun b o hb=>hl b o (h.kb b o hb),h.kbx,h.own,h.form⟩;obtain⟨rows,h1,h2,h3⟩:=h.row i hi;exact⟨rows,⟨h1.1,h1.2.mono hl⟩,h2,h3⟩
theorem Ng.sl {H T:Hl} {x:Nat} {st:Nat->List Pc} {sv:Nat->Value} {KB:Hl} (h:Ng H T x st sv KB) {i:Nat} (hi:i<6):H.cell x i=some (sv i)/\(∃ p l c,sv i=.slice p l c)/\bM (some (sv i)) 2=(st i).length/\bY (some (sv i)) .slice=true:=by
 obtain⟨rows,h1,h2,_⟩:=h.row i hi;refine⟨?_,?_⟩
 .unfold Hl.cell;rw[h.bD];simpa using Rl sv hi
 .have ho:=h1.2;rw[h2]at ho;rcases ho.2 with ⟨e,hn⟩ | ⟨_,_,_,e,_⟩
  .rw[e,hn];exact⟨⟨_,_,_,rfl⟩,rfl,rfl⟩
  .rw[e];exact⟨⟨_,_,_,rfl⟩,rfl,rfl⟩
theorem Ng.put {H T:Hl} {x:Nat} {st:Nat->List Pc} {sv:Nat->Value} {KB:Hl} (h:Ng H T x st sv KB) {i:Nat} (hi:i<6) {B G:Hl} {p:Pc} {row:List Value} {x1:Int} {n1 c1:Nat}
 (hd:H.cG B) (hp:gm T B row p) (hF:p.h.Form) (hx1:-1<=x1) (hn1:n1=(st i).length+1)
 (happ:∀ xs,bE (H.un B) 67 qo.length (sv i) (st i).length xs->bE G 67 qo.length (.slice (aA x1 0) n1 c1) ((st i).length+1) (xs++row))
 (hk:∀ b,(H.un B).mem b->some b≠(sv i).ownBlock->G b=(H.un B) b)
 (hnew:some x1.toNat=(sv i).ownBlock\/¬(H.un B).mem x1.toNat\/x1= -1) :
 G x=some (.cells (Sj sv).toArray 57 (0,0))/\Ng (G.put x i [.slice (aA x1 0) n1 c1]) T x (te st i (st i++[p])) (te sv i (.slice (aA x1 0) n1 c1)) (KB.un B):=by
 subst hn1;have lH:H.le (H.un B):=Hl.cC _ _;have lB:B.le (H.un B):=Hl.cD hd;have ownH:∀ j b,j<6->(sv j).ownBlock=some b->∃ c,H b=some (.cells c 67 (0,0)):=fun j b hj hb=>by
  obtain⟨rows,h1,_⟩:=h.row j hj;exact h1.2.type hb
 have ownx:∀ j b,j<6->(sv j).ownBlock=some b->b≠x:=fun j b hj hb e=>by
  subst e;obtain⟨c,hc⟩:=ownH j _ hj hb;rw[h.bD]at hc;simp at hc
 have hG:G x=some (.cells (Sj sv).toArray 57 (0,0)):=by
  rw[hk x (Hl.dU lH (Hl.mem_of h.bD)) fun e=>ownx i x hi e.symm rfl];exact lH _ _ h.bD
 refine⟨hG,?_⟩;obtain⟨rows,ho,hrl,hrp⟩:=h.row i hi;have hOG:=happ rows.flatten (by have:=ho.2;rw[hrl]at this;exact bE.mono lH this);have nB:∀ j b,j<6->(sv j).ownBlock=some b->¬B.mem b:=fun j b hj hb hm=>by
  obtain⟨c,hc⟩:=ownH j b hj hb;exact hd b ⟨Hl.mem_of hc,hm⟩
 have lKB:(KB.un B).le G:=fun b o hb=>by
  have e:(H.un B) b=some o:=by
   unfold Hl.un at hb;cases hq:KB b with
   | some o'=>rw[hq]at hb;cases hb;exact lH _ _ (h.kb _ _ hq)
   | none=>rw[hq]at hb;exact lB _ _ hb
  rw[hk b (Hl.mem_of e) fun e'=>?_,e];rcases Hl.dN.1 (Hl.mem_of hb)with h1 | h1
  .exact(h.own i b hi e'.symm).1 h1
  .exact nB i b hi e'.symm h1
 have xB:¬B.mem x:=fun hm=>hd x ⟨Hl.mem_of h.bD,hm⟩;have xKB:¬(KB.un B).mem x:=fun hm=>(Hl.dN.1 hm).elim h.kbx xB;have newx:∀ b,(Value.slice (aA x1 0) ((st i).length+1) c1).ownBlock=some b->x1=b:=fun b hb=>Ba hb hx1;have newxx:∀ b,(Value.slice (aA x1 0) ((st i).length+1) c1).ownBlock=some b->b≠x:=fun b hb e=>by
  subst e;obtain⟨c,hc⟩:=hOG.type hb;rw[hG]at hc;simp at hc
 have newn:∀ b,(Value.slice (aA x1 0) ((st i).length+1) c1).ownBlock=some b->¬(KB.un B).mem b:=fun b hb hm=>by
  have e:=newx b hb;have hm2:(H.un B).mem b:=(Hl.dN.1 hm).elim (fun y=>Hl.dN.2 (Or.inl (Hl.dU h.kb y))) (fun y=>Hl.dN.2 (Or.inr y));rcases hnew with h1 | h1 | h1
  .rw[e,Y7]at h1;exact(Hl.dN.1 hm).elim (h.own i b hi h1.symm).1 (nB i b hi h1.symm)
  .rw[e,Y7]at h1;exact h1 hm2
  .omega
 have newo:∀ j b,j<6->j≠i->(Value.slice (aA x1 0) ((st i).length+1) c1).ownBlock=some b->(sv j).ownBlock≠some b:=fun j b hj hji hb e3=>by
  have e:=newx b hb;rcases hnew with h1 | h1 | h1
  .rw[e,Y7]at h1;exact(h.own i b hi h1.symm).2 j hj hji e3
  .rw[e,Y7]at h1;obtain⟨c,hc⟩:=ownH j b hj e3;exact h1 (Hl.dN.2 (Or.inl (Hl.mem_of hc)))
  .omega
 refine⟨?_,fun j hj=>?_,Hl.wC lKB xKB,xKB,fun j b hj hb=>?_,fun j hj q hq=>?_⟩
 .rw[Hl.qq hG];simp only[abj];rw[OP _ _ hi]
 .by_cases e:j=i
  .subst e;rw[df,df];refine⟨rows++[row],?_,by simp [hrl],fun k r q hr hq=>?_⟩
   .have:=uw.snoc (rows:=rows) ho.1 hp.ok hOG (by rw[hrl]) rfl;exact⟨this.1,this.2.at fun b hb=>Hl.qs (newxx b hb)⟩
   .rcases aaa k rows.length with qH | qH
    .rw[ZH qH]at hr;rw[ZH (by omega)]at hq;exact(hrp k r q hr hq).mono (Hl.le_refl _) (Hl.cC _ _)
    .rw[Zz qH]at hr;rw[Zz (by omega)]at hq;have hr:=Zb hr;have hq:=Zb hq;rw[Zn]at hr hq;subst hr;subst hq;exact hp.mono (Hl.le_refl _) (Hl.cD fun b ⟨y,z⟩=>hd b ⟨Hl.dU h.kb y,z⟩)
  .rw[fc _ _ e,fc _ _ e];obtain⟨rs,h1,h2,h3⟩:=h.row j hj;refine⟨rs,⟨h1.1,h1.2.at fun b hb=>?_⟩,h2,fun k r q hr hq=>(h3 k r q hr hq).mono (Hl.le_refl _) (Hl.cC _ _)⟩;obtain⟨c,hc⟩:=ownH j b hj hb;rw[Hl.qs (ownx j b hj hb),hk b (Hl.dU lH (Hl.mem_of hc)) fun e'=>(h.own j b hj hb).2 i hi (Ne.symm e) e'.symm,lH _ _ hc,hc]
 .by_cases e:j=i
  .subst e;rw[df]at hb;refine⟨newn b hb,fun k hk' e2=>?_⟩;rw[fc _ _ e2];exact newo k b hk' e2 hb
  .rw[fc _ _ e]at hb;refine⟨fun hm=>(Hl.dN.1 hm).elim (h.own j b hj hb).1 (nB j b hj hb),fun k hk' e2=>?_⟩;by_cases e3:k=i
   .subst e3;rw[df];exact fun e4=>newo j b hj e e4 hb
   .rw[fc _ _ e3];exact(h.own j b hj hb).2 k hk' e2
 .by_cases e:j=i
  .subst e;rw[df]at hq;rcases ZT.1 hq with h1 | h1
   .exact h.form j hj q h1
   .rw[Zn]at h1;subst h1;exact hF
  .rw[fc _ _ e]at hq;exact h.form j hj q hq
def jF:Sx.Spec where
 fn:=33
 own:=[]
 rd:=[0]
 res:=[.one (.int .i64)]
 pre:=fun xs Hs Rs=>∃ x R T st,xs=[.pointer (some ⟨x,0,none⟩)]/\Rs=[R]/\jx R T x st/\lr st
 post:=fun xs Hs Rs v Hs' F=>∃ x R T st,xs=[.pointer (some ⟨x,0,none⟩)]/\Rs=[R]/\jx R T x st/\v=.int .i64 (dv st)
def xu:Nd:=(fun a b=>(.and (.e (.le b a)) (.and (.e (.his 1 a b 0 .slice)) (.and (.e (.le b (.hP 1 a b 0 2))) (.and (.e (.his 1 a (.lit 1) 0 .slice)) (.and (.e (.le b (.hP 1 a (.lit 1) 0 2))) (.and (.e (.his 1 a (.lit 2) 0 .slice)) (.and (.e (.le b (.hP 1 a (.lit 2) 0 2))) (.and (.e (.his 1 a (.lit 3) 0 .slice)) (.and (.e (.le b (.hP 1 a (.lit 3) 0 2))) (.and (.e (.his 1 a (.lit 4) 0 .slice)) (.and (.e (.le b (.hP 1 a (.lit 4) 0 2))) (.and (.e (.his 1 a (.lit 5) 0 .slice)) (.and (.e (.le b (.hP 1 a (.lit 5) 0 2))) (.post [.ro 1 [.var 0] true] (.sv (.one (.int .i64 (.wrap .i64 (.add (.wrap .i64 (.add (.wrap .i64 (.add (.wrap .i64 (.add (.wrap .i64 (.add (.wrap .i64 (.hP 1 a b 0 2)) (.hP 1 a (.lit 1) 0 2))) (.hP 1 a (.lit 2) 0 2))) (.hP 1 a (.lit 3) 0 2))) (.hP 1 a (.lit 4) 0 2))) (.hP 1 a (.lit 5) 0 2))))))))))))))))))):Nd)) (.var 0) (.lit 0)
def H5:bU Tryz.prog [] jF.fn where
 Λ:=aM
 args:=[TP (.var 0) (.lit 0)]
 mem:=[.ro 1 [.var 0] true]
 nv:=2
 nd:=xu
 ok:=by kernel_rfl
theorem Cg {st:Nat->List Pc} (hS:lr st):IntKind.i64.wrap (IntKind.i64.wrap (IntKind.i64.wrap (IntKind.i64.wrap (IntKind.i64.wrap (IntKind.i64.wrap ((st 0).length:Int)+(st 1).length)+(st 2).length)+(st 3).length)+(st 4).length)+(st 5).length)=dv st:=by
 have h0:=hS 0 (by omega);have h1:=hS 1 (by omega);have h2:=hS 2 (by omega);have h3:=hS 3 (by omega);have h4:=hS 4 (by omega);have h5:=hS 5 (by omega);rw[wrap_i64 (n:=((st 0).length:Int)) (by omega) (by omega),wrap_i64 (n:=((st 0).length:Int)+_) (by omega) (by omega),wrap_i64 (n:=((st 0).length:Int)+_+_) (by omega) (by omega),wrap_i64 (n:=((st 0).length:Int)+_+_+_) (by omega) (by omega),wrap_i64 (n:=((st 0).length:Int)+_+_+_+_) (by omega) (by omega),wrap_i64 (n:=((st 0).length:Int)+_+_+_+_+_) (by omega) (by omega)];unfold dv;omega
theorem xw:jF.OK Tryz.prog:=by
 refine Spec.bJ (Γ:=[]) (fun _ h=>by cases h) ?_;rintro xs Hs Rs hl1 hl2 ⟨x,R,T,st,rfl,rfl,hI,hS⟩;have e0:Hs=[]:=Za.1 hl1;subst e0;refine⟨H5,bw [x] false [Hl.none,R],fun _ _=>True,fun _ _=>0,?_,dB (by intro r hr;simp [H5]at hr;subst hr;exact⟨_,_,_,rfl⟩) rfl,(fun _ h=>nomatch h),?_⟩
 .show [Value.pointer (aA (x:Int) 0)]=_;rw[au (by omega)];rfl
 show Nd.holds _ _ _ xu;unfold xu;generalize hρ:bw [(x:Int)] false [Hl.none,R]=ρ;have v0:ρ.i 0=x:=by rw[<-hρ];rfl
 have w1:ρ.h 1=R:=by rw[<-hρ];rfl
 clear hρ;simp only[Nd.holds,X.pre,X.rel,X.n,Src.ok,Src.len,Src.bG,Zy,Zm,ZG,Zx,Zp,Nat.reduceAdd,Zd,Zh,bn,bj,aJ,aU,aR,bm,aZ,bh,bg,bd,aV,ba,bk,aX,aW,aK,aY,ai,aj,aB,aF,aD,ar,aG,aQ,aP,aq,aI,az,aH,av,TV.ev,SV.ev,CV.ev,Zf,Zr,bx.hl];obtain⟨sv,KB,hD⟩:=id hI;have c:∀ i:Nat,i<6->R.cell ((x:Int)).toNat (Int.toNat ((i:Nat):Int))=some (sv i):=fun i hi=>by rw[Y7,Y7];exact(hD.sl hi).1
 have c0:=c 0 (by omega);have c1:=c 1 (by omega);have c2:=c 2 (by omega);have c3:=c 3 (by omega);have c4:=c 4 (by omega);have c5:=c 5 (by omega);obtain⟨_,_,l0,s0⟩:=hD.sl (i:=0) (by omega);obtain⟨_,_,l1,s1⟩:=hD.sl (i:=1) (by omega);obtain⟨_,_,l2,s2⟩:=hD.sl (i:=2) (by omega);obtain⟨_,_,l3,s3⟩:=hD.sl (i:=3) (by omega);obtain⟨_,_,l4,s4⟩:=hD.sl (i:=4) (by omega);obtain⟨_,_,l5,s5⟩:=hD.sl (i:=5) (by omega);rw[v0,w1];have c0:R.cell ((x:Int)).toNat (Int.toNat 0)=some (sv 0):=c0;have c1:R.cell ((x:Int)).toNat (Int.toNat 1)=some (sv 1):=c1;have c2:R.cell ((x:Int)).toNat (Int.toNat 2)=some (sv 2):=c2;have c3:R.cell ((x:Int)).toNat (Int.toNat 3)=some (sv 3):=c3;have c4:R.cell ((x:Int)).toNat (Int.toNat 4)=some (sv 4):=c4;have c5:R.cell ((x:Int)).toNat (Int.toNat 5)=some (sv 5):=c5;rw[c0,c1,c2,c3,c4,c5,l0,l1,l2,l3,l4,l5];refine⟨by omega,s0,by omega,s1,by omega,s2,by omega,s3,by omega,s4,by omega,s5,by omega,lY rfl (z:=dv st) ?_ fun F=>⟨x,R,T,st,rfl,rfl,hI,rfl⟩⟩;simp only[ai,aj,aB,aF,aD,ar,aG,aQ,aP,aq,aI,az,aH,av,Zp];rw[v0,w1,c0,c1,c2,c3,c4,c5,l0,l1,l2,l3,l4,l5];exact Cg hS
noncomputable def zD (rt:Nat):Sx.Spec where
 fn:=29
 own:=[.arg 0]
 rd:=[rt,2000003]
 res:=[.one (.int .i64)]
 pre:=fun xs Hs Rs=>∃ x H B row T RG st p,xs=[.pointer (some ⟨x,0,none⟩),.agg row.toArray]/\Hs=[H.un B]/\Rs=[T,RG]/\H.cG B/\jx H T x st/\lr st/\(∀ i,i<6->(st i).length<=100000)/\gm T B row p/\p.b.length<=900000/\uz RG 3
 post:=fun xs Hs Rs v Hs' F=>∃ x H B row T RG st p H',xs=[.pointer (some ⟨x,0,none⟩),.agg row.toArray]/\Hs=[H.un B]/\Rs=[T,RG]/\H.cG B/\jx H T x st/\gm T B row p/\Hs'=[H']/\v=.int .i64 (ct st p)/\jx H' T x (dE st p)/\B.le H'
def Gb:Nd:=(fun p b i o r h=>(fun a c d g j m=>(fun q=>(fun f l=>(fun k n=>(.ext (.alloc 136) (.and (.pre m) (.ext m (.and (.imp (.not (.bvar 137)) (.post [.hp 133 [] h [],.ro 134 o true,.ro 135 r false,.dead] (.sv (.one (.int .i64 p))))) (.imp (.bvar 137) (.and (.e (.le i b)) (.and (.e (.le i a)) (.and (.e (.lt a (.lit 6))) (.and (.e (.his 133 b a 0 .slice)) (.and (.pre n) (.ext n (.and (.pre d) (.ext d (.and (.imp (.not (.eq (.var 142) i)) (.post g (.sv (.one (.int .i64 (.var 142)))))) (.imp (.eq (.var 142) i) (.and (.pre j) (.ext j (.and (.imp (.not (.bvar 143)) (.post g (.sv (.one (.int .i64 (.lit 2)))))) (.imp (.bvar 143) (.and (.e (.his 133 b i 0 .slice)) (.and (.e (.le i (.hP 133 b i 0 2))) (.and (.e (.his 133 b p 0 .slice)) (.and (.e (.le i (.hP 133 b p 0 2))) (.and (.e (.his 133 b (.lit 2) 0 .slice)) (.and (.e (.le i (.hP 133 b (.lit 2) 0 2))) (.and (.e (.his 133 b (.lit 3) 0 .slice)) (.and (.e (.le i (.hP 133 b (.lit 3) 0 2))) (.and (.e (.his 133 b (.lit 4) 0 .slice)) (.and (.e (.le i (.hP 133 b (.lit 4) 0 2))) (.and (.e (.his 133 b (.lit 5) 0 .slice)) (.and (.e (.le i (.hP 133 b (.lit 5) 0 2))) (.and (.imp c (.post g (.sv (.one (.int .i64 (.lit 4)))))) (.imp (.not c) (.ext (.alloc 144) (.and (.pre k) (.ext k (.and (.pre l) (.ext l (.post [.hp 147 [145,133] [.var 145,.var 0,.var 129] [],.ro 134 o true,.ro 135 r false,.dead,.hp 138 [] [.var 138] [],.dead] (.sv (.one (.int .i64 i))))))))))))))))))))))))))))))))))))))))):Nd)) (.app 145 67 126 256 f q (.hp 133 [] h []) (.cvs (al 1 Av) 1)) (.call 1 138 [.sv (.one f)] [] [.hp 133 [] h []])) (.sl (.hP 133 b a 0 0) (.hP 133 b a 0 1) q (.hP 133 b a 0 3)) (.put 147 145 b a [.sl (.var 145) i (.add q p) (.var 146)])) (.hP 133 b a 0 2)) (.wrap .i64 (.sub (.var 1) p)) (.le (.lit 400) (.wrap .i64 (.add (.wrap .i64 (.add (.wrap .i64 (.add (.wrap .i64 (.add (.wrap .i64 (.add (.wrap .i64 (.hP 133 b i 0 2)) (.hP 133 b p 0 2))) (.hP 133 b (.lit 2) 0 2))) (.hP 133 b (.lit 3) 0 2))) (.hP 133 b (.lit 4) 0 2))) (.hP 133 b (.lit 5) 0 2)))) (.call 2 142 [.sv (.one (.int .i64 (.var 1))),.sv (.one (.sl (.var 138) (.var 139) (.var 140) (.var 141))),.sv (.agg (al 1 cX))] [] [.hp 138 [] [.var 138] [],.ro 134 o true,.ro 134 o true,.ro 135 r false]) [.hp 133 [] h [],.ro 134 o true,.ro 135 r false,.dead,.hp 138 [] [.var 138] []] (.call 3 143 [.sv (.agg (al 1 Av))] [] [.hp 133 [] h [],.ro 135 r false]) (.call 0 137 [.sv (.agg (al 1 cX))] [] [.ro 134 o true])) (.lit 1) (.var 0) (.lit 0) [.var 54] [.lit 3] [.var 0,.var 129]
noncomputable def PH:List Sx.Spec:=[fR 65,ia,zq,rW]
theorem RE:∀ t∈PH,t.OK Tryz.prog:=fun t ht=>by
 simp only[PH,Zl,Zq,ZO]at ht;rcases ht with rfl | rfl | rfl | rfl
 .exact sN
 .exact rS
 .exact Mw
 .exact Ge
theorem WA:PH[0]?=some (fR 65):=rfl
theorem WB:PH[1]?=some ia:=rfl
theorem WC:PH[2]?=some zq:=rfl
theorem WD:PH[3]?=some rW:=rfl
theorem WE:ia.res=[.one .sl]:=rfl
theorem WG:zq.res=[.one (.int .i64)]:=rfl
theorem WH:rW.res=[.one .bool]:=rfl
noncomputable def DH:bU Tryz.prog PH 29 where
 Λ:=aM
 args:=TP (.var 0) (.lit 0)::(bf 1 [.agg Av]).map .sv
 mem:=[.hp 133 [] [.var 0,.var 129] [],.ro 134 [.var 54] true,.ro 135 [.lit 3] false]
 nv:=136
 nd:=Gb
 ok:=by kernel_rfl
open Classical in
set_option maxRecDepth 20000 in
theorem MM (rt:Nat):(zD rt).OK Tryz.prog:=by
 refine Spec.bJ (Γ:=PH) RE ?_;rintro xs Hs Rs hl1 hl2 ⟨x,H,B,row,T,RG,st,p,rfl,rfl,rfl,hHB,hI,hS,hS2,hx,hlen,hKat⟩;obtain⟨ρ,va,rfl,hh,hnw⟩:=Bb (a:=(x:Int)) [(133,H.un B),(134,T),(135,RG)] hx.ok;have w1:ρ.h 133=H.un B:=hh 133;have w2:ρ.h 134=T:=hh 134;have w3:ρ.h 135=RG:=hh 135;refine⟨DH,ρ,fun _ _=>True,fun _ _=>0,?_,⟨?_,?_,?_,?_⟩,(fun _ h=>nomatch h),?_⟩
 .show [Value.pointer (aA (ρ.i 0) 0),.agg ((al 1 iL).map (CV.ev ρ)).toArray]=_;rw[va,au (by omega)];rfl
 .intro r hr ho;simp [DH]at hr;rcases hr with rfl | rfl | rfl
  .exact⟨H.un B,by simp,by show(ρ.h 133).le _;rw[w1];exact Hl.le_refl _⟩
  all_goals cases ho
 .intro r hr ho;simp [DH]at hr;rcases hr with rfl | rfl | rfl
  .cases ho
  .exact⟨T,by simp,by show(ρ.h 134).le T;rw[w2];exact Hl.le_refl _⟩
  .exact⟨RG,by simp,by show(ρ.h 135).le RG;rw[w3];exact Hl.le_refl _⟩
 .simp [DH,bx.own]
 .intro r hr;simp [DH]at hr;rcases hr with rfl | rfl | rfl<;>trivial
 show Nd.holds _ _ _ Gb;unfold Gb;simp only[Nd.holds,X.pre,X.rel,X.n,Src.ok,Src.len,Src.bG,Zy,Zm,ZG,Zx,Zp,Nat.reduceAdd,Zd,Zh,bn,bj,aJ,aU,aR,bm,aZ,bh,bg,bd,aV,ba,bk,aX,aW,aK,aY,ai,aj,aB,aF,aD,ar,aG,aQ,aP,aq,aI,az,aH,av,TV.ev,SV.ev,CV.ev,Zf,Zr,bx.hl,cu,Cp.sv,Ck.cv,bf,Cp.len,Ck.len,aE,aN,aT,WA,WB,WC,WD,NH,WE,WG,WH,Kk];generalize hrow0:(al 1 iL).map (CV.ev ρ)=row at *;have ht0:(al 1 cX).map (CV.ev ρ)=row.take 125:=by rw[<-hrow0,pc]
 have V:∀ q:Env,ah 136 ρ q->q.i 0=x/\q.h 133=H.un B/\q.h 134=T/\q.h 135=RG/\(al 1 cX).map (CV.ev q)=row.take 125/\(al 1 Av).map (CV.ev q)=row/\q.i 1=ρ.i 1:=fun q g=>by
  refine⟨by rw[g.i 0,va],by rw[g.h 133,w1],by rw[g.h 134,w2],by rw[g.h 135,w3],?_,?_,g.i 1⟩
  .rw[<-ht0];exact ZW Array.toList (Value.agg.inj (fQ (ks:=cX) (n:=1) g (by decide)))
  .rw[<-hrow0];exact ZW Array.toList (Value.agg.inj (fQ (ks:=iL) (n:=1) g (by decide)))
 have hd:=hx.hd;have hw1:cI p.h.c 0=ρ.i 1:=by
  have e1:cI p.h.c 0=cI (row.take 125) 0:=hd.I (by decide);rw[e1,<-ht0];rfl
 have hbody:row=row.take 125++[row.getD 125 ze]:=XS hx.ok;obtain⟨sv,KB,hD⟩:=id hI;have hDu:Ng (H.un B) T x st sv KB:=hD.mono (Hl.cC _ _);have hbB:fp (H.un B) (row.getD 125 ze) p.b:=gD hx.body (Hl.cD hHB);have outE:∀ {q:Env} {t:Mem} {e:E},q.h 133=H.un B->aC q e=ct st p->ct st p≠0->postOf (zD rt) [.pointer (some ⟨x,0,none⟩),.agg row.toArray] [H.un B] [T,RG] q (.hp 133 [] [.var 0,.var 129] []::t) (.sv (.one (.int .i64 e))):=by
  intro q t e h1 h2 h3 _;refine⟨[[0]],[],rfl,rfl,⟨⟨fun _=>aC q e,fun _=>false,fun _=>.empty,fun _=>.tuple #[],fun _=>Hl.none⟩,rfl,trivial,trivial⟩,x,H,B,_,T,RG,st,p,_,rfl,rfl,rfl,hHB,hI,hx,rfl,by rw[<-h2];rfl,?_,?_⟩
  .unfold dE;rw[Zo h3];show jx (dC [q.h 133]) _ _ _;rw[bz,h1];exact⟨sv,KB,hDu⟩
  .show B.le (dC [q.h 133]);rw[bz,h1];exact Hl.cD hHB
 intro q1 g1 p1;obtain⟨v0,x1,x2,x3,xr,xr2,_⟩:=V q1 g1;rw[xr,x2];refine⟨⟨_,T,p.h,rfl,rfl,hd⟩,fun q2 g2 ⟨F2,hp2,_⟩=>?_⟩;have G2:ah 136 ρ q2:=g1.tr g2;have hb2:q2.b 137=decide p.h.Form:=Value.bool.inj (lP hd hp2);obtain⟨y0,y1,y2,y3,yr,yr2,y5⟩:=V q2 G2;refine⟨fun hb=>?_,fun hb=>?_⟩
 .have hF:¬p.h.Form:=by rw[hb2]at hb;simpa using hb
  have e:ct st p=1:=by unfold ct;rw[ZA hF]
  exact outE y1 e.symm (by rw[e];decide)
 have hF:p.h.Form:=by rw[hb2]at hb;simpa using hb
 have hFn:¬¬p.h.Form:=fun g=>g hF;have hw:=vX hF;have hw2:IntKind.i64.wrap (ρ.i 1-1)=((cI p.h.c 0-1).toNat:Nat):=by rw[hw1,IntKind.wrap_i64];rw[hw1]at hw;omega
 generalize hi:(cI p.h.c 0-1).toNat=i at *;have hi6:i<6:=by omega
 have hwi:ρ.i 1=cI p.h.c 0:=hw1.symm;obtain⟨c1,csl,cl,cs⟩:=hDu.sl hi6;have c1':(H.un B).cell ((x:Int)).toNat (Int.toNat ((i:Nat):Int))=some (sv i):=by rw[Y7,Y7];exact c1
 obtain⟨rows,ho,hrl,hrp⟩:=hDu.row i hi6;have hr2:=hS2 i hi6;rw[y0,y1,y5,hw2,c1',iB csl];refine⟨by omega,by omega,by omega,cs,⟨_,_,rows,rfl,rfl,ho.rd,by omega⟩,fun q3 g3 ⟨F3,hp3,hF3,hn3⟩=>?_⟩;have hH3:=hp3 _ _ _ rfl rfl ho.rd;rw[<-hF3 trivial]at hH3;have hAll:fu T (rows.map (List.take 125)) (kF st i):=by
  refine⟨by unfold kF;rw[ZD,ZD,hrl],fun j r h hr hh=>?_⟩;unfold kF at hh;rw[Zs]at hr hh;obtain⟨r0,ri,rfl⟩:=Zk.1 hr;obtain⟨p0,hp0,rfl⟩:=Zk.1 hh;exact(hrp j r0 p0 ri hp0).hd
 have hFs:∀ g∈kF st i,g.Form:=fun g hg=>by
  obtain⟨p0,hp0,rfl⟩:=ZV.1 hg;exact hD.form i hi6 p0 hp0
 have G3:ah 136 ρ q3:=G2.tr g3;obtain⟨z0,z1,z2,z3,zr,zr2,z5⟩:=V q3 G3;rw[zr,z2,z3,z5];have hln:(rows.map (List.take 125)).length<=100000:=by rw[ZD];omega
 refine⟨⟨_,_,_,_,T,T,RG,_,_,p.h,rfl,rfl,hH3,hAll,hFs,hd,hln,hKat⟩,fun q4 g4 ⟨F4,hp4,_⟩=>?_⟩;have hask:q4.i 142=fU (cI p.h.c 0) (kF st i) p.h:=by
  have:=hp4 _ _ _ _ _ _ _ _ _ _ rfl rfl hH3 hAll hd;rw[hwi]at this;simpa using this
 have G4:ah 136 ρ q4:=G3.tr g4;obtain⟨u0,u1,u2,u3,ur,ur2,u5⟩:=V q4 G4;refine⟨fun hne=>?_,fun heq=>?_⟩
 .have e:ct st p=q4.i 142:=by unfold ct;rw[Zo hFn,hi,ZA (by rw[<-hask];exact hne)];exact hask.symm
  exact outE u1 e.symm (by rw[e];exact hne)
 have h0:¬fU (cI p.h.c 0) (kF st i) p.h≠0:=fun g=>g (hask.symm.trans heq);rw[ur2,u1,u3];refine⟨⟨row.take 125,row.getD 125 ze,p.b,_,RG,by rw[<-hbody],rfl,hd.ok,hbB,hx.byte,hlen,hKat⟩,fun q5 g5 ⟨F5,hp5,_⟩=>?_⟩;have hp5:=hp5 (row.take 125) (row.getD 125 ze) p.b _ RG (by rw[<-hbody]) rfl hbB;have hb5:q5.b 143=eQ p.h.c p.b:=by rw[<-yk hd];exact Value.bool.inj hp5
 have G5:ah 136 ρ q5:=G4.tr g5;obtain⟨k0,k1,k2,k3,kr,kr2,k5⟩:=V q5 G5;refine⟨fun hb=>?_,fun hb=>?_⟩
 .have e:ct st p=2:=by unfold ct;rw[Zo hFn,hi,Zo h0,ZA (by rw[<-hb5];simpa using hb)]
  exact outE k1 e.symm (by rw[e];decide)
 have hwb:¬eQ p.h.c p.b=false:=by rw[<-hb5,hb];decide
 have c:∀ j:Nat,j<6->(H.un B).cell ((x:Int)).toNat (Int.toNat ((j:Nat):Int))=some (sv j):=fun j hj=>by rw[Y7,Y7];exact(hDu.sl hj).1
 have a0:(H.un B).cell ((x:Int)).toNat (Int.toNat 0)=some (sv 0):=c 0 (by omega);have a1:(H.un B).cell ((x:Int)).toNat (Int.toNat 1)=some (sv 1):=c 1 (by omega);have a2:(H.un B).cell ((x:Int)).toNat (Int.toNat 2)=some (sv 2):=c 2 (by omega);have a3:(H.un B).cell ((x:Int)).toNat (Int.toNat 3)=some (sv 3):=c 3 (by omega);have a4:(H.un B).cell ((x:Int)).toNat (Int.toNat 4)=some (sv 4):=c 4 (by omega);have a5:(H.un B).cell ((x:Int)).toNat (Int.toNat 5)=some (sv 5):=c 5 (by omega);obtain⟨_,_,l0,s0⟩:=hDu.sl (i:=0) (by omega);obtain⟨_,_,l1,s1⟩:=hDu.sl (i:=1) (by omega);obtain⟨_,_,l2,s2⟩:=hDu.sl (i:=2) (by omega);obtain⟨_,_,l3,s3⟩:=hDu.sl (i:=3) (by omega);obtain⟨_,_,l4,s4⟩:=hDu.sl (i:=4) (by omega);obtain⟨_,_,l5,s5⟩:=hDu.sl (i:=5) (by omega);rw[k0,k1,a0,a1,a2,a3,a4,a5,l0,l1,l2,l3,l4,l5,Cg hS];refine⟨s0,by omega,s1,by omega,s2,by omega,s3,by omega,s4,by omega,s5,by omega,fun h4=>?_,fun h4=>?_⟩
 .have e:ct st p=4:=by unfold ct;rw[Zo hFn,hi,Zo h0,Zo hwb,ZA h4]
  exact outE k1 e.symm (by rw[e];decide)
 have e0:ct st p=0:=by unfold ct;rw[Zo hFn,hi,Zo h0,Zo hwb,Zo h4]
 intro q6 g6 p6;have G6:ah 136 ρ q6:=G5.tr g6;obtain⟨m0,m1,m2,m3,mr,mr2,m5⟩:=V q6 G6;have hst:=hS i hi6;rw[m0,m1,m5,hw2,c1',iB csl,cl,mr2,Y7];refine⟨⟨⟨rows.flatten,by have:=ho.2;rw[hrl]at this;exact this⟩,by omega,by unfold maxLen;omega,by omega⟩,fun q7 g7 ⟨b1,b2,happ,hkp,_,hnw⟩=>?_⟩;have G7:ah 136 ρ q7:=G6.tr g7;obtain⟨n0,n1,n2,n3,nr,nr2,n5⟩:=V q7 G7;obtain⟨kx,kD⟩:=hD.put hi6 hHB hx hF b1 rfl happ hkp hnw;have en:(((st i).length:Int)+1).toNat=(st i).length+1:=by omega
 rw[n0,n1,n5,hw2,c1',cl,en,Y7,Y7];refine⟨⟨by omega,by omega,jk kx (by show i+1<=6;omega)⟩,fun q8 g8 p8 _=>?_⟩;refine⟨[[0]],[],rfl,rfl,⟨⟨fun _=>0,fun _=>false,fun _=>.empty,fun _=>.tuple #[],fun _=>Hl.none⟩,rfl,trivial,trivial⟩,x,H,B,_,T,RG,st,p,_,rfl,rfl,rfl,hHB,hI,hx,rfl,by rw[e0];rfl,?_,?_⟩
 .unfold dE;rw[ZA e0,hi];show jx (dC [q8.h 147]) _ _ _;rw[bz,p8];exact⟨_,_,kD⟩
 .show B.le (dC [q8.h 147]);rw[bz,p8];exact fun b o hb=>kD.kb b o (Hl.cD (fun b ⟨y,z⟩=>hHB b ⟨Hl.dU hD.kb y,z⟩) b o hb)
open Go.Proofs.YtomdimlnggpgbaaGreatDoor.D hiding bw aM gC
def Uk (s:Sx.Spec) (rd:List Nat):Sx.Spec:={s with rd:=rd,pre:=fun xs Hs Rs=>∀ U:Hl,(∀ R∈Rs,R.le U)->s.pre xs Hs [U],post:=fun xs Hs Rs v Hs' F=>∃ U:Hl,s.post xs Hs [U] v Hs' F}
theorem yP {w:World} : ∀ {l:List Hl} (_:∀ R∈l,R.sub w) {R:Hl},R∈l->R.le (dC l)
 | A::l,h,R,hR=>by
  have hs:(dC l).sub w:=uJ fun X hX=>h X (Zu _ hX);intro b o hb;show(A.un (dC l)) b=some o;rcases Zl.1 hR with rfl | hR
  .exact Hl.cC _ _ b o hb
  .have e:=yP (fun X hX=>h X (Zu _ hX)) hR b o hb;unfold Hl.un;cases hA:A b with
   | none=>exact e
   | some o' =>
    have h1:=h A (ZJ ..) b o' hA;rw[hs b o e]at h1;cases h1;rfl
theorem RX {P:Program} {s:Sx.Spec} {rd:List Nat} (h1:s.rd.length=1) (h0:s.own=[]) (h:s.OK P):(Uk s rd).OK P:=by
 intro w xs Hs Rs l1 l2 s1 s2 d1 d2 hp;have hn:Hs=[]:=Za.1 (by rw[l1];show s.own.length=0;rw[h0];rfl);subst hn;have hU:(dC Rs).sub w:=uJ s2;refine(h w xs [] [dC Rs] (by rw[h0];rfl) (by rw[h1];rfl) (fun _ hx=>(by cases hx)) (fun R hR=>by rw[Zn]at hR;subst hR;exact hU) (fun p q H K _ hx=>(by simp at hx)) (fun _ hx=>(by cases hx)) (hp _ fun R hR=>yP s2 hR)).mono ?_;rintro e w' ⟨ρ,Hs',F,he,hn,ht,hpost⟩;exact⟨ρ,Hs',F,he,hn,ht,_,hpost⟩
def pf:Sx.Spec where
 fn:=34
 own:=[]
 rd:=[0]
 res:=[.one .bool]
 pre:=fun xs Hs Rs=>∃ pr x R T st,xs=[pr,.pointer (some ⟨x,0,none⟩)]/\Rs=[R]/\sm R pr st/\jx R T x st/\T.le R/\lr st/\Good st
 post:=fun xs Hs Rs v Hs' F=>v=.bool true
def sP (k:Nat):E:=.hP 2 (.var 1) (.var 50) 0 k
def sO:E:=.ite (.eq (sP 3) (.var 70)) (sP 1) (.add (sP 1) (.mul (.var 70) (.lit 126)))
def sQ (k:Nat):E:=.hP 2 (sP 0) (.add sO (.lit 125)) 0 k
def xL:Nd:=(fun r o k f w l t v u j n q x=>(fun a b c d g i m p s=>(fun h=>(.ext (.alloc 3) (.and (.e (.le f (.var 0))) (.and (.e (.his 2 (.var 0) r 0 .ptr)) (.and (.pre (.call 0 4 [.sv a] [] j)) (.ext (.call 0 4 [.sv a] [] j) (.ext (.alloc 10) (.and (.inv 0 [⟨50,0,.int .i64 f⟩] []) (.havoc 0 0 11 (.and (.imp (.lt k (.lit 6)) (.and (.e (.le f k)) (.and (.e (.le f (.var 1))) (.and (.e (.his 2 (.var 1) k 0 .slice)) (.and (.e (.le f (sP 2))) (.and (.imp (.not c) (.post x n)) (.imp c (.and (.inv 1 [⟨70,0,.int .i64 f⟩] []) (.havoc 1 1 60 (.and (.imp (.lt o (sP 2)) (.ext (.alloc 80) (.and (.pre h) (.ext h (.ext (.alloc 214) (.and (.imp (.not (.eq (.var 213) f)) (.post [.ro 2 [] true,.dead,.dead,.dead,.hp 81 [] q [],.dead] n)) (.imp (.eq (.var 213) f) (.and (.e (.le l (sP 0))) (.and (.e (.le f (sP 1))) (.and (.e (.le f o)) (.and (.e (.le o b)) (.and (.e (.le b (sP 3))) (.ext (.alloc 215) (.and (.e (.le f (.sub b o))) (.and (.imp (.not (.eq r (.sub b o))) i) (.imp (.eq r (.sub b o)) (.and (.e (.or (.eq u l) (.or (.eq (.var 211) f) (.and (.le f u) (.and (.le f (.var 210)) (.hby 81 u (.var 210) (.var 211))))))) (.and (.e (.le f (sP 0))) (.and (.e (.le f sO)) (.and (.e (.lt f (.sub b o))) (.and (.e (.his 2 (sP 0) (.add sO (.lit 125)) 0 .slice)) (.and (.e (.or (.eq (sQ 0) l) (.or (.eq (sQ 2) f) (.and (.le f (sQ 0)) (.and (.le f (sQ 1)) (.hby 2 (sQ 0) (sQ 1) (sQ 2))))))) (.and (.imp (.not g) i) (.imp g (.and (.e (.hks 2 (sP 0) sO dQ)) (.and (.pre m) (.ext m (.and (.e (.or (.eq v l) (.or (.eq (.var 218) f) (.and (.le f v) (.and (.le f (.var 217)) (.hby 216 v (.var 217) (.var 218))))))) (.and (.pre p) (.ext p (.and (.e (.or (.eq w l) (.or (.eq (.var 222) f) (.and (.le f w) (.and (.le f (.var 221)) (.hby 220 w (.var 221) (.var 222))))))) (.and (.imp (.not d) (.post [.ro 2 [] true,.dead,.dead,.dead,.hp 81 [] q [],.dead,.dead,.hp 216 [] [.var 216] [],.hp 220 [] [.var 220] []] n)) (.imp d (.back 1 1 [⟨70,0,.int .i64 b⟩] [])))))))))))))))))))))))))))))))))) (.imp (.not (.lt o (sP 2))) (.back 0 0 [⟨50,0,.int .i64 (.wrap .i64 (.add k r))⟩] [])))))))))))) (.imp (.not (.lt k (.lit 6))) (.and (.pre (.call 1 60 [.sv a] [] j)) (.ext (.call 1 60 [.sv a] [] j) (.and (.pre s) (.ext s (.post x (.sv (.one (.bool (.eq (.var 60) (.var 61))))))))))))))))))):Nd)) (.call 3 81 [.sv a,.sv (.one (.int .i64 (.wrap .i64 (.add k r)))),.sv (.one (.int .u64 (.wrap .u64 b)))] [] j)) (.one (.hptr (.hP 2 (.var 0) r 0 0) (.hP 2 (.var 0) r 0 1))) (.wrap .i64 (.add o r)) (.eq (.ite (.eq k f) (.var 4) (.ite (.eq k r) (.var 5) (.ite (.eq k (.lit 2)) (.var 6) (.ite (.eq k (.lit 3)) (.var 7) (.ite (.eq k (.lit 4)) (.var 8) (.var 9)))))) (.wrap .u64 (sP 2))) (.seq (.ite (.eq v l) t (.sof 216 v (.var 217) (.var 218))) (.ite (.eq w l) t (.sof 220 w (.var 221) (.var 222)))) (.seq (.ite (.eq u l) t (.sof 81 u (.var 210) (.var 211))) (.ite (.eq (sQ 0) l) t (.sof 2 (sQ 0) (sQ 1) (sQ 2)))) (.post [.ro 2 [] true,.dead,.dead,.dead,.hp 81 [] q [],.dead,.dead] n) (.call 4 216 [.sv (.agg (al 81 cX))] [] [.hp 81 [] q []]) (.call 4 220 [.sv (.agg (bo 2 (sP 0) sO 0 dQ))] [] j) (.call 2 61 [.sv (.one (.hptr (.var 1) f))] [] j)) (.lit 1) (.var 70) (.var 50) (.lit 0) (.var 220) (.lit (-1)) (.slit ⟨#[]⟩) (.var 216) (.var 209) [.ro 2 [] true] (.sv (.one (.bool .ff))) [.var 134,.var 209] [.ro 2 [] true,.dead,.dead]
noncomputable def O0:List Sx.Spec:=[kG,iS,jF,yQ,dt 71]
theorem RK:∀ t∈O0,t.OK Tryz.prog:=fun t ht=>by
 simp only[O0,Zl,Zq,ZO]at ht;rcases ht with rfl | rfl | rfl | rfl | rfl
 .exact wv
 .exact qg
 .exact xw
 .exact Lp
 .exact xo
theorem WN:O0[0]?=some kG:=rfl
theorem WO:O0[1]?=some iS:=rfl
theorem WQ:O0[2]?=some jF:=rfl
theorem WR:O0[3]?=some yQ:=rfl
theorem WS:O0[4]?=some (dt 71):=rfl
theorem WT:kG.res=[.agg (List.replicate 6 (Ck.int .u64))]:=rfl
theorem WU:iS.res=[.one (.int .i64)]:=rfl
theorem WV:jF.res=[.one (.int .i64)]:=rfl
theorem WW:yQ.res=[.agg iL,.one (.int .i64)]:=rfl
set_option maxRecDepth 20000 in
theorem WM:(br 0 [Cp.agg iL,Cp.one (.int .i64)]≠[])=True:=eq_true (by decide)
noncomputable def Ij:bU Tryz.prog O0 pf.fn where
 Λ:=fun p=>if lp p&&p.head?==some 34 then(if p.length>12 then some ⟨1,[(7,TI .i64 (.var 70))],[],80⟩else some ⟨0,[(6,TI .i64 (.var 50))],[],60⟩)else none
 args:=[TP (.var 0) (.lit 0),TP (.var 1) (.lit 0)]
 mem:=[.ro 2 [] true]
 nv:=3
 nd:=xL
 ok:=by kernel_rfl
set_option maxRecDepth 20000 in
theorem Gf:pf.OK Tryz.prog:=by
 refine Spec.bJ (Γ:=O0) RK ?_;rintro xs Hs Rs hl1 hl2 ⟨pr,x,R,T,st,rfl,rfl,hRel,hRf,hTR,hS,hG⟩;have e0:Hs=[]:=Za.1 hl1;subst e0;obtain⟨r,ps,y,rfl,hrb,hIx⟩:=id hRel;obtain⟨sv,KB,hD⟩:=id hRf;refine⟨Ij,bw [(r:Int),x] false [Hl.none,Hl.none,R],fun j q=>if j=0 then ∃ k:Nat,q.i 50=k/\k<=6 else ∃ k:Nat,q.i 70=k,fun j q=>if j=0 then(6-q.i 50).toNat else(1000000-q.i 70).toNat,?_,dB (by intro r hr;simp [Ij]at hr;subst hr;exact⟨_,_,_,rfl⟩) rfl,(fun _ h=>nomatch h),?_⟩
 .show [Value.pointer (aA (r:Int) 0),.pointer (aA (x:Int) 0)]=_;rw[au (by omega),au (by omega)];rfl
 show Nd.holds _ _ _ xL;unfold xL;generalize hρ:bw [(r:Int),x] false [Hl.none,Hl.none,R]=ρ;have V:∀ q:Env,ah 3 ρ q->q.i 0=r/\q.i 1=x/\q.h 2=R:=fun q g=>by
  rw[g.i 0,g.i 1,g.h 2,<-hρ];exact⟨rfl,rfl,rfl⟩
 clear hρ;have cr:R.cell ((r:Int)).toNat (Int.toNat 1)=some (.pointer (some ⟨y,0,none⟩)):=by
  rw[Y7];unfold Hl.cell;rw[hrb];rfl
 have tt:∀ {q:Env} {mem:Mem} {e:E},bN q e=true->postOf pf [.pointer (some ⟨r,0,none⟩),.pointer (some ⟨x,0,none⟩)] [] [R] q mem (.sv (.one (.bool e))):=fun h=>rQ rfl (by show Value.bool _=_;rw[h]);simp only[Nd.holds,X.pre,X.rel,X.n,Src.ok,Src.len,Src.bG,Zy,Zm,ZG,Zx,Zp,Nat.reduceAdd,Zd,Zh,bn,bj,aJ,aU,aR,bm,aZ,bh,bg,bd,aV,ba,bk,aX,aW,aK,aY,ai,aj,aB,aF,aD,ar,aG,aQ,aP,aq,aI,az,aH,av,TV.ev,SV.ev,CV.ev,Zf,Zr,bx.hl,cu,Cp.sv,Ck.cv,bf,Cp.len,Ck.len,aE,aN,aT,WN,WO,WQ,WR,WS,WT,WU,WV,WW,XM,WM,Kk,sP,sO,sQ,ZG,Nat.one_ne_zero,aaG];intro q1 g1 _;obtain⟨v0,v1,w2⟩:=V q1 g1;rw[v0,w2,cr,fK];refine⟨by omega,rfl,⟨y,R,st,rfl,rfl,hIx,hS⟩,fun q2 g2 ⟨F2,hp2,_⟩ q3 g3 _=>⟨⟨0,rfl,by omega⟩,fun q4 g4 ⟨k,ek,hk⟩=>?_⟩⟩;have A24:ah 10 q2 q4:=ah.trans (n:=10) g3 g4.mono;have A4:ah 3 ρ q4:=g1.trans (g2.mono.tr A24);have hp2:=ZL (Value.agg.inj (hp2 _ _ _ rfl rfl hIx hS));have hh:∀ i:Nat,i<6->(if((i:Nat):Int)=0 then q4.i 4 else if((i:Nat):Int)=1 then q4.i 5 else if((i:Nat):Int)=2 then q4.i 6 else if((i:Nat):Int)=3 then q4.i 7 else if((i:Nat):Int)=4 then q4.i 8 else q4.i 9)=(st i).length:=by
  have A:=A24;have hp2:([.int .u64 (q2.i 4),.int .u64 (q2.i 5),.int .u64 (q2.i 6),.int .u64 (q2.i 7),.int .u64 (q2.i 8),.int .u64 (q2.i 9)]:List Value)=wg st:=hp2;simp only[wg,Ze,Value.int.injEq,Zy,Zm]at hp2;obtain⟨m0,m1,m2,m3,m4,m5⟩:=hp2;rw[A.i 4,A.i 5,A.i 6,A.i 7,A.i 8,A.i 9,m0,m1,m2,m3,m4,m5];intro i hi;have:i=0\/i=1\/i=2\/i=3\/i=4\/i=5:=by omega
  rcases this with rfl | rfl | rfl | rfl | rfl | rfl<;>rfl
 refine⟨fun hlt=>?_,fun hge=>?_⟩
 .have hk6:k<6:=by omega
  obtain⟨c1,csl,cl,cs⟩:=hD.sl hk6;have c:R.cell ((x:Int)).toNat ((k:Int)).toNat=some (sv k):=by rw[Y7,Y7];exact c1
  have cq:∀ q:Env,ah 3 ρ q->q.i 50=k->(q.h 2).cell (q.i 1).toNat (q.i 50).toNat=some (sv k):=fun q g h=>by
   obtain⟨_,e1,e2⟩:=V q g;rw[e1,e2,h];exact c
  have hsk:=hS k hk6;rw[cq q4 A4 ek,cl,ek,hh k hk6];have wl:IntKind.u64.wrap ((st k).length:Int)=(st k).length:=by rw[IntKind.wrap_u64];omega
  rw[wl];refine⟨by omega,by rw[(V q4 A4).2.1];omega,cs,by omega,fun hne=>absurd rfl hne,fun _=>⟨⟨0,rfl⟩,fun q5 g5 ⟨j,ej⟩=>⟨fun hj=>?_,fun hj=>?_⟩⟩⟩
  rotate_left
  .refine⟨⟨k+1,?_,by omega⟩,?_⟩
   .show IntKind.i64.wrap (q5.i 50+1)=_;rw[g5.i 50,ek,IntKind.wrap_i64];omega
   .show(6-IntKind.i64.wrap (q5.i 50+1)).toNat<(6-(k:Int)).toNat;have w1:IntKind.i64.wrap ((k:Int)+1)=((k+1:Nat):Int):=by rw[IntKind.wrap_i64];omega
    rw[g5.i 50,ek,w1];omega
  have A5:ah 3 ρ q5:=A4.tr g5;have ek5:q5.i 50=k:=by rw[g5.i 50,ek]
  rw[cq q5 A5 ek5,cl,ej]at hj;have hjl:j<(st k).length:=by omega
  intro q6 g6 p6;have A6:ah 3 ρ q6:=A5.tr g6;have ek6:q6.i 50=k:=by rw[g6.i 50,ek5]
  have ej6:q6.i 70=j:=by rw[g6.i 70,ej]
  obtain⟨u0,u1,u2⟩:=V q6 A6;have w1:IntKind.i64.wrap ((k:Int)+1)=((k+1:Nat):Int):=by rw[IntKind.wrap_i64];omega
  have w2':IntKind.i64.wrap ((j:Int)+1)=((j+1:Nat):Int):=by rw[IntKind.wrap_i64];omega
  have w3:IntKind.u64.wrap (((j+1:Nat):Int))=((j+1:Nat):Int):=by rw[IntKind.wrap_u64];omega
  rw[u0,u2,cr,fK,ek6,ej6,w1,w2',w3];refine⟨⟨y,R,st,_,_,rfl,rfl,hIx,hS,hG,by omega,by omega⟩,fun q7 g7 ⟨F7,⟨x',R',st',n',s',f1,f2,h',hcase⟩,hF7,hn7⟩ q8 g8 p8=>?_⟩;simp only[Ze,Zm,Value.pointer.injEq,Zj,Addr.mk.injEq,Value.int.injEq,Zy]at f1 f2;obtain⟨rfl,rfl,rfl⟩:=f1;subst f2;have ek1:(((k+1:Nat):Int)-1).toNat=k:=by omega
  have ej1:(((j+1:Nat):Int)-1).toNat=j:=by omega
  rw[ek1,ej1,<-hIx.st h' hk6]at hcase;rcases hcase with ⟨_,_,row',p',hp',ev,hP'⟩ | ⟨hno,_⟩
  rotate_left
  .exact absurd ⟨⟨by omega,by omega⟩,by omega,by omega⟩ hno
  simp only[Value.tuple.injEq,ZY,Ze,Value.int.injEq,Value.agg.injEq,Zy,Zm]at ev;obtain⟨er,ev⟩:=ev;have h213:q8.i 213=0:=(g8.i 213).trans ev;rw[<-hF7 trivial]at hP';refine⟨fun hne=>absurd h213 hne,fun _=>?_⟩;obtain⟨rows,ho,hrl,hrp⟩:=hD.row k hk6;obtain⟨row,hr⟩:∃ row,rows[j]?=some row:=⟨_,Y8 (by omega)⟩;have hP:=hrp j row p' hr hp';obtain⟨g,cap,cur,hv,hg,hle,_,_,_⟩:∃ g cap cur,sv k=.slice (some ⟨g,0,none⟩) rows.length cap/\R g=some (.cells cur 67 (0,0))/\rows.length<=cap/\cap<=maxLen/\cur.size=cap*qo.length/\cur.toList.take (rows.length*qo.length)=rows.flatten:=by
   rcases ho.2.2 with ⟨_,hn⟩ | h
   .omega
   .exact h
  have hcell:∀ jj u,row[jj]?=some u->R.cell g (j*126+jj)=some u:=by
   obtain⟨x1,y1,c1',he,hy1,hrr⟩:=ho.rd;rw[hv]at he;rcases hrr with h | ⟨hx1,hrr⟩
   .rw[h]at hrl;simp at hrl;omega
   .have hh:=(hrr j row hr).2;simp only[Value.slice.injEq]at he;have e1:=he.1;rw[au hx1]at e1;simp only[Zj,Addr.mk.injEq,Zm]at e1;obtain⟨e1,e2⟩:=e1;intro jj u hu;have:=hh jj u hu;rw[kN,<-e1,<-e2,ZM]at this;exact this
  have k0:bM (some (sv k)) 0=(g:Int):=by rw[hv];rfl
  have k1:bM (some (sv k)) 1=0:=by rw[hv];rfl
  have k3:bM (some (sv k)) 3=(cap:Int):=by rw[hv];rfl
  have A8:ah 3 ρ q8:=A6.trans (g7.mono.tr g8);have ek8:q8.i 50=k:=by rw[g8.i 50,g7.i 50,ek6]
  have ej8:q8.i 70=j:=by rw[g8.i 70,g7.i 70,ej6]
  rw[cq q8 A8 ek8,k0,k1,k3,ej8,w2'];refine⟨by omega,by omega,by omega,by omega,by omega,fun q9 g9 p9=>?_⟩;have A9:ah 3 ρ q9:=A8.tr g9;have ek9:q9.i 50=k:=by rw[g9.i 50,ek8]
  have ej9:q9.i 70=j:=by rw[g9.i 70,ej8]
  have nc:¬((cap:Nat):Int)=j:=by omega
  have hl126:=fL hP.ok;rw[kN]at hl126;have hr125:row[125]?=some row[125]:=Y8 (by omega);have hbody:fp R (row[125]) p'.b:=by
   have:=hP.body;rw[Zt,hr125]at this;exact gD this hD.kb
  have hc125:R.cell ((g:Int)).toNat (0+(j:Int)*126+125).toNat=some row[125]:=by
   rw[Y7,show(0+(j:Int)*126+125).toNat=j*126+125 by omega];exact hcell 125 _ hr125
  obtain⟨t1,t2,t3,t4⟩:=Jz hbody;have eb:row'.getD 125 ze=.slice (aA (q7.i 209) (q7.i 210)) (q7.i 211).toNat (q7.i 212).toNat:=by
   rw[<-er,uO]
  have hb':=hP'.body;rw[eb]at hb';have n7:0<=q7.i 210/\0<=q7.i 211:=by
   obtain⟨x1,y1,c1',he,_⟩:=id hb';have hh:dd 81 iL q7:=hn7.1;have e:iL=cX++([Ck.sl]:List Ck):=rfl;have sp:∀ (a b:List Ck) (n:Nat),dd n (a++b) q7->dd (n+bR a) b q7:=by
    intro a
    induction a with
    | nil=>intro b n h;simpa [bR] using h
    | cons k a ih=>intro b n h;have:=ih b _ h.2;rw[show n+k.len+bR a=n+bR (k::a)by simp [bR];omega]at this;exact this
   rw[e]at hh;obtain⟨_,n2,n3,_⟩:=(sp _ _ _ hh).1;exact⟨n2,n3⟩
  have A79:ah 214 q7 q9:=g8.tr g9;have hb9:fp (q9.h 81) (.slice (aA (q9.i 209) (q9.i 210)) (q9.i 211).toNat (q9.i 212).toNat) p'.b:=by
   rw[A79.h 81,A79.i 209,A79.i 210,A79.i 211,A79.i 212];exact hb'
  have x9:=j8 hb9 (by rw[A79.i 210];exact n7.1) (by rw[A79.i 211];exact n7.2);obtain⟨_,_,o2⟩:=V q9 A9;rw[cq q9 A9 ek9,k0,k1,k3,ej9,w2',Zo nc,o2,hc125,x9.2,t4];refine⟨by omega,fun hne=>absurd (by omega) hne,fun _=>⟨x9.1,by omega,by omega,by omega,t1,t3,fun hne=>absurd rfl hne,fun _=>?_⟩⟩;have ho125:=iM (n:=125) hP.ok;rw[xj]at ho125;have hc0:∀ i u,(row.take 125)[i]?=some u->R.cell ((g:Int)).toNat ((0+(j:Int)*126).toNat+i)=some u:=fun i u hu=>by
   rw[Z2]at hu;split at hu
   .rw[Y7,show(0+(j:Int)*126).toNat=j*126 by omega];exact hcell i u hu
   .cases hu
  have ra:(al 81 cX).map (CV.ev q9)=row'.take 125:=by
   rw[<-er,pc];exact ZW Array.toList (Value.agg.inj (fQ (ks:=cX) (n:=81) (m:=214) A79 (by decide)))
  rw[ra,A79.h 81];refine⟨ke _ ho125 hc0,⟨_,q7.h 81,p'.h,rfl,rfl,hP'.hd⟩,fun q10 g10 ⟨F10,hp10,hF10,hn10⟩=>?_⟩;have B1:=mz hP'.hd hp10;rw[<-hF10 trivial]at B1;have n10:-1<=q10.i 216/\0<=q10.i 217/\0<=q10.i 218/\0<=q10.i 219:=hn10.1;have A10:ah 3 ρ q10:=A9.tr g10;have ek10:q10.i 50=k:=by rw[g10.i 50,ek9]
  have ej10:q10.i 70=j:=by rw[g10.i 70,ej9]
  obtain⟨_,_,o10⟩:=V q10 A10;have rb:(bo 2 (.hP 2 (.var 1) (.var 50) 0 0) (.ite (.eq (.hP 2 (.var 1) (.var 50) 0 3) (.var 70)) (.hP 2 (.var 1) (.var 50) 0 1) (.add (.hP 2 (.var 1) (.var 50) 0 1) (.mul (.var 70) (.lit 126)))) 0 dQ).map (CV.ev q10)=row.take 125:=fj _ dQ 0 ho125 fun i u hu=>by
   simp only[aP,aG,aB,aD,aj,ai,bd,ZM,Zp];rw[cq q10 A10 ek10,k0,k1,k3,ej10,o10,Zo nc];exact hc0 i u hu
  rw[rb,o10];refine⟨(j8 B1.rd.w n10.2.1 n10.2.2.1).1,⟨_,R,p'.h,rfl,rfl,hP.hd.mono hTR⟩,fun q11 g11 ⟨F11,hp11,hF11,hn11⟩=>?_⟩;have B2:=mz (hP.hd.mono hTR) hp11;rw[<-hF11 trivial]at B2;have n11:-1<=q11.i 220/\0<=q11.i 221/\0<=q11.i 222/\0<=q11.i 223:=hn11.1;have B1':cH (q11.h 216) 5 (.slice (aA (q11.i 216) (q11.i 217)) (q11.i 218).toNat (q11.i 219).toNat) (cj p'.h):=by
   rw[g11.h 216,g11.i 216,g11.i 217,g11.i 218,g11.i 219];exact B1
  have y1:=j8 B1'.rd.w (by rw[g11.i 217];exact n10.2.1) (by rw[g11.i 218];exact n10.2.2.1);have y2:=j8 B2.rd.w n11.2.1 n11.2.2.1;rw[y1.2,y2.2];refine⟨y2.1,fun hne=>absurd rfl hne,fun _=>⟨⟨j+1,?_⟩,?_⟩⟩
  .show IntKind.i64.wrap (q11.i 70+1)=_;rw[g11.i 70,ej10,w2']
  .show(1000000-IntKind.i64.wrap (q11.i 70+1)).toNat<(1000000-q5.i 70).toNat;rw[g11.i 70,ej10,w2',ej];have key:∀ N:Int,((j+1:Nat):Int)<=N->(N-((j+1:Nat):Int)).toNat<(N-(j:Int)).toNat:=fun N h=>by omega
   exact key 1000000 (by omega)
 .obtain⟨u0,u1,u2⟩:=V q4 A4;rw[u0,u2,cr,fK];refine⟨⟨y,R,st,rfl,rfl,hIx⟩,fun q5 g5 ⟨F5,hp5,_⟩=>?_⟩;have h5:q5.i 60=dv st:=by simpa using hp5 _ _ _ rfl rfl hIx
  have A5:ah 3 ρ q5:=A4.tr g5;obtain⟨m0,m1,m2⟩:=V q5 A5;have ep:Value.pointer (aA (x:Int) 0)=.pointer (some ⟨x,0,none⟩):=by rw[au (by omega)];rfl
  rw[m1,m2,ep];refine⟨⟨x,R,T,st,rfl,rfl,hRf,hS⟩,fun q6 g6 ⟨F6,⟨x',R',T',st',f1,f2,h',hv⟩,_⟩=>?_⟩;simp only[Ze,Zm,Value.pointer.injEq,Zj,Addr.mk.injEq]at f1 f2;subst f1 f2;obtain⟨sv',KB',hD'⟩:=h';have el:∀ i,i<6->(st i).length=(st' i).length:=fun i hi=>by
   obtain⟨a1,_,a2,_⟩:=hD.sl hi;obtain⟨b1,_,b2,_⟩:=hD'.sl hi;rw[a1]at b1;rw[<-Z1 b1,a2]at b2;omega
  have ec:dv st'=dv st:=by
   unfold dv;rw[el 0 (by omega),el 1 (by omega),el 2 (by omega),el 3 (by omega),el 4 (by omega),el 5 (by omega)]
  have h6:q6.i 61=dv st:=by rw[<-ec];simpa using hv
  refine tt ?_;rw[bd,aj,aj,g6.i 60,h5,h6]
theorem Bc {a b:Int} {r:Nat} (hb:0<=b) (h:Value.pointer (aA a b)=.pointer (some ⟨r,0,none⟩)):a=r/\b=0 :=
 oA (x:=(r:Int)) (y:=0) (by omega) (Zw 0) hb ((Value.pointer.inj h).trans (by rw[au (by omega)];rfl))
theorem di.uniq {H:Hl} {p dp dp':Value} {S S':SM} {st st':Nat->List Pc} (h:di H p dp S st) (h':di H p dp' S' st'):dp=dp'/\S=S'/\∀ i,i<6->st i=st' i:=by
 obtain⟨r,ps,x,HS,HI,hp,h⟩:=h;obtain⟨r',ps',x',HS',HI',hp',h'⟩:=h';obtain⟨l1,l2,l3⟩:=rf h.d1 h.d2 h.d3;rw[<-h.hl]at l1 l2 l3;obtain⟨m1,m2,m3⟩:=rf h'.d1 h'.d2 h'.d3;rw[<-h'.hl]at m1 m2 m3;rw[hp]at hp';obtain rfl:r=r':=by simpa using hp'
 have e1:=l1 _ _ (Hl.bF _ _);have e2:=m1 _ _ (Hl.bF _ _);rw[e1]at e2;obtain⟨rfl,rfl⟩:ps=ps'/\x=x':=by simpa using e2
 obtain⟨a,b⟩:=(h.so.rd.mono l2).uniq (h'.so.rd.mono m2);exact⟨a,b,fun i hi=>(h.ix.rd.mono l3).st (h'.ix.rd.mono m3) hi⟩
theorem di.congr {H:Hl} {p dp:Value} {S:SM} {st st':Nat->List Pc} (h:di H p dp S st) (e:∀ i,i<6->st i=st' i):di H p dp S st':=by
 obtain⟨r,ps,x,HS,HI,hp,h⟩:=h;exact⟨r,ps,x,HS,HI,hp,h.so,h.ix.congr e,h.d1,h.d2,h.d3,h.hl⟩
theorem Mp {D:DM} {S:SM} {st st':Nat->List Pc} (e:∀ i,i<6->st i=st' i) (c:Pc):(eE D S st c).e=(eE D S st' c).e/\(eE D S st c).D=(eE D S st' c).D/\(eE D S st c).S=(eE D S st' c).S/\∀ i,i<6->(eE D S st c).st i=(eE D S st' c).st i:=by
 unfold eE;rw[nS e c];split
 .exact⟨rfl,rfl,rfl,e⟩
 .split
  .exact⟨rfl,rfl,rfl,e⟩
  .exact⟨rfl,rfl,rfl,fun i hi=>wy e c hi⟩
theorem me {rt:Nat} {p:Value} {H HD T B RG:Hl} {row:List Value} {dp:Value} {S:SM} {D:DM} {st:Nat->List Pc} {c:Pc} (hR:di H p dp S st) (hD:aO HD dp D) (hx:gm T B row c) {v:Value} {F K1 K2:Hl} (h:(tS rt).post [p,.agg row.toArray] [H,HD] [T,B,RG] v [K1,K2] F) :
 di K1 p dp (eE D S st c).S (eE D S st c).st/\aO K2 dp (eE D S st c).D/\v=.int .i64 (eE D S st c).e:=by
 obtain⟨p',H',HD',row',T',B',RG',dp',S',D',st',c',L1,L2,e1,e2,e3,r1,d1,x1,e4,r2,d2,hv⟩:=h;simp only[Ze,Zm,Value.agg.injEq]at e1 e2 e3 e4;obtain⟨rfl,e1⟩:=e1;obtain⟨rfl,rfl⟩:=e2;obtain⟨rfl,rfl,rfl⟩:=e3;obtain⟨rfl,rfl⟩:=e4;have e1:=ZL e1;subst e1;obtain rfl:=hx.uniq x1;obtain⟨rfl,rfl,est⟩:=hR.uniq r1;obtain rfl:=hD.uniq d1;obtain⟨f1,f2,f3,f4⟩:=Mp (D:=D) (S:=S) est c;rw[f1,f2,f3];exact⟨r2.congr fun i hi=>(f4 i hi).symm,d2,hv⟩
theorem jx.uniq {U T:Hl} {x:Nat} {st st':Nat->List Pc} (h:jx U T x st) (h':jx U T x st'):∀ i,i<6->st i=st' i:=by
 obtain⟨sv,KB,h⟩:=h;obtain⟨sv',KB',h'⟩:=h';intro i hi;have e:=(h.sl hi).1;rw[(h'.sl hi).1]at e;have e:=Z1 e;obtain⟨rows,h1,h2,h3⟩:=h.row i hi;obtain⟨rows',h1',h2',h3'⟩:=h'.row i hi;rw[e]at h1';obtain rfl:=h1.rd.uniq h1'.rd;apply aaL (by omega);intro j j1 j2;have hr:rows[j]?=some rows[j]:=Y8 (by omega);exact((h3 j _ _ hr (Y8 j1)).mono (Hl.le_refl _) h.kb).uniq ((h3' j _ _ hr (Y8 j2)).mono (Hl.le_refl _) h'.kb)
theorem jx.congr {U T:Hl} {x:Nat} {st st':Nat->List Pc} (h:jx U T x st) (e:∀ i,i<6->st i=st' i):jx U T x st':=by
 obtain⟨sv,KB,h⟩:=h;exact⟨sv,KB,h.bD,fun i hi=>by rw[<-e i hi];exact h.row i hi,h.kb,h.kbx,h.own,fun i hi=>by rw[<-e i hi];exact h.form i hi⟩
theorem jx.mono {H H' T:Hl} (hl:H.le H') {x:Nat} {st:Nat->List Pc} (h:jx H T x st):jx H' T x st:=by
 obtain⟨sv,KB,h⟩:=h;exact⟨sv,KB,h.mono hl⟩
theorem JI {rt x:Nat} {H B T RG:Hl} {row:List Value} {st:Nat->List Pc} {p:Pc} (hd:H.cG B) (hI:jx H T x st) (hx:gm T B row p) {v:Value} {F K:Hl} (h:(zD rt).post [.pointer (some ⟨x,0,none⟩),.agg row.toArray] [H.un B] [T,RG] v [K] F) :
 v=.int .i64 (ct st p)/\jx K T x (dE st p)/\gm T K row p:=by
 obtain⟨x',H',B',row',T',RG',st',p',K',e1,e2,e3,d1,i1,x1,e4,hv,i2,hl⟩:=h;simp only[Ze,Zm,Value.pointer.injEq,Zj,Addr.mk.injEq,Value.agg.injEq]at e1 e2 e3 e4;obtain⟨rfl,e1⟩:=e1;obtain⟨rfl,rfl⟩:=e3;have e1:=ZL e1;subst e1 e4;have u1:=i1.mono (Hl.cC H' B');rw[<-e2]at u1;have est:=(hI.mono (Hl.cC H B)).uniq u1;have y1:=x1.mono (Hl.le_refl T) (Hl.cD d1);rw[<-e2]at y1;obtain rfl:=(hx.mono (Hl.le_refl T) (Hl.cD hd)).uniq y1;exact⟨by rw[nS est p];exact hv,i2.congr fun i hi=>(wy est p hi).symm,x1.mono (Hl.le_refl _) hl⟩
end Go.Proofs.YtomdimlnggpgbaaGreatDoor
namespace Go.Proofs.YtomdimlnggpgbaaGreatDoor
open Go Go.Sx Go.Pk
def Ki (c:List Value) (w:Int) (n k:Nat):Value:=.int .u64 (if w-1=k then(n:Int)else cI c (54+k))
def kc (c:List Value) (w:Int) (n:Nat) (ko:List Int):List Value:=([.int .i64 w,.int .u64 ((n:Int)+1)]++bK ko)++(c.drop 34).take 20
def oq (c:List Value) (w:Int) (n:Nat) (sum:List Int):List Value:=[Ki c w n 0,Ki c w n 1,Ki c w n 2,Ki c w n 3,Ki c w n 4,Ki c w n 5]++(bK sum++(.int .i64 80::(c.drop 93).take 32))
def fD (c:List Value) (w:Int) (n:Nat) (ko sum:List Int):List Value:=kc c w n ko++oq c w n sum
def eJ (n:Nat) (b:List Int):List Int:=List.replicate 80 (match b with | []=>((n%256:Nat):Int) | z::_=>z)
noncomputable def jm (hs:List Hd) (w:Int) (p:Pc):Pc:=⟨⟨fD p.h.c w hs.length (iE hs) (fP (eJ hs.length p.b)),p.h.t⟩,eJ hs.length p.b⟩
theorem gh:∀ {a b:List Value} {ka kb:List Kd},bS a ka->bS b kb->bS (a++b) (ka++kb)
 | [],b,[],kb,_,h=>h
 | v::a,b,k::ka,kb,h,h2=>⟨h.1,gh h.2 h2⟩
theorem ox:∀ {n:Nat} {l:List Value} {ks:List Kd},bS l ks->bS (l.drop n) (ks.drop n)
 | 0,_,_,h=>h
 | n+1,[],[],h=>h
 | n+1,v::l,k::ks,h=>ox (n:=n) h.2
theorem JZ (hs:List Hd):∀ z∈iE hs,0<=z/\z<256:=by
 unfold iE;split
 .intro z hz;rw[abl hz];omega
 .exact zI _
theorem Ib {l:List Int} (h:∀ z∈l,0<=z/\z<256):∀ v∈bK l,JD v:=by
 intro v hv;obtain⟨z,hz,rfl⟩:=ZV.1 hv;exact h z hz
theorem FX {R:Hl} {row:List Value} {h:Hd} (hx:cN R row h) {w:Int} {n:Nat} {ko:List Int} (ht:ko.length=32):([.int .i64 w,.int .u64 ((n:Int)+1)]++bK ko:List Value).length=34/\(kc row w n ko).length=54:=by
 have hl:row.length=125:=fL hx.ok;have h1:([.int .i64 w,.int .u64 ((n:Int)+1)]++bK ko:List Value).length=34:=by rw[Y9,cP,ht];rfl
 refine⟨h1,?_⟩;unfold kc;rw[Y9,h1,ZE,ZX];omega
theorem ME {R:Hl} {row:List Value} {h:Hd} (hx:cN R row h) {w:Int} {n:Nat} {ko sum:List Int} (hw:1<=w/\w<=6) (hn:n<=100000) (ht:ko.length=32) (hs:sum.length=32) (bt:∀ z∈ko,0<=z/\z<256) (bs:∀ z∈sum,0<=z/\z<256) :
 cN R (fD row w n ko sum) ⟨fD h.c w n ko sum,h.t⟩:=by
 have hl:row.length=125:=fL hx.ok;obtain⟨l34,l54⟩:=FX hx (w:=w) (n:=n) ht;have hk:∀ k:Nat,k<6->Ki h.c w n k=Ki row w n k:=fun k hk=>by
  unfold Ki;rw[hx.I (by omega)]
 have hz:oq h.c w n sum=oq row w n sum:=by
  unfold oq;rw[hk 0 (by omega),hk 1 (by omega),hk 2 (by omega),hk 3 (by omega),hk 4 (by omega),hk 5 (by omega),hx.core,List.drop_set_of_lt (by omega)]
 have ha:kc h.c w n ko=(kc row w n ko).set 53 (.bool false):=by
  unfold kc;rw[List.set_append_right _ _ (by rw[l34];omega),l34,hx.core,List.drop_set,Zo (by omega),<-List.take_set]
 have hg53:(fD row w n ko sum).getD 53 (.bool false)=row.getD 53 (.bool false):=by
  unfold fD;rw[Zt,Zt,ZH (by omega)];unfold kc;rw[Zz (by rw[l34];omega),l34,Z2,ZA (by omega),ZZ]
 refine⟨?_,?_,?_,?_,hx.byte⟩
 .have e:dQ=(([Kd.int .i64,.int .u64]++List.replicate 32 (.int .u8))++(dQ.drop 34).take 20)++(List.replicate 6 (.int .u64)++(List.replicate 32 (.int .u8)++(.int .i64::(dQ.drop 93).take 32))):=rfl;rw[e];unfold fD kc oq;exact gh (gh (gh ⟨rfl,rfl,trivial⟩ (BH 32 ko ht)) (iM (ox hx.ok))) (gh ⟨rfl,rfl,rfl,rfl,rfl,rfl,trivial⟩ (gh (BH 32 sum hs) ⟨rfl,iM (ox hx.ok)⟩))
 .intro v hv;have hk:∀ k:Nat,k<6->JD (Ki row w n k):=fun k hk=>by
   unfold Ki;split
   .exact⟨by omega,by omega⟩
   .have hkk:dQ[54+k]?=some (.int .u64):=by
     have:k=0\/k=1\/k=2\/k=3\/k=4\/k=5:=by omega
     rcases this with rfl | rfl | rfl | rfl | rfl | rfl<;>rfl
    exact hx.rng _ (Zb (uS hx.ok hkk))
  unfold fD kc oq at hv;simp only[ZT,Zl,Zq,ZO]at hv;rcases hv with (((rfl | rfl) | hv) | hv) | ((rfl | rfl | rfl | rfl | rfl | rfl) | hv | rfl | hv)
  .show ju w;unfold ju;omega
  .exact⟨by omega,by omega⟩
  .exact Ib bt v hv
  .exact hx.rng v (aaU (aaN hv))
  .exact hk 0 (by omega)
  .exact hk 1 (by omega)
  .exact hk 2 (by omega)
  .exact hk 3 (by omega)
  .exact hk 4 (by omega)
  .exact hk 5 (by omega)
  .exact Ib bs v hv
  .show ju 80;unfold ju;omega
  .exact hx.rng v (aaU (aaN hv))
 .show fD h.c w n ko sum=_;unfold fD;rw[List.set_append_left _ _ (by omega),ha,hz]
 .rw[hg53];exact hx.tok
theorem Bp (n:Nat) {b:List Int} (hb:aS b):(eJ n b).length=80/\aS (eJ n b):=by
 refine⟨Z8,fun z hz=>?_⟩;have:=abl hz;cases b with
 | nil=>simp at this;omega
 | cons y b=>simp at this;rw[this];exact hb y (ZJ ..)
end Go.Proofs.YtomdimlnggpgbaaGreatDoor
