/- RelayTwice. -/
import Derived.Test.YtomdimlnggpgbaaGreatDoorTD
set_option linter.all false
namespace Go.Proofs.YtomdimlnggpgbaaGreatDoor
open Go Go.Sx Go.Pk
def HC (a:Nat) (x y c:Int) (n:Nat) (bad:Bool):Hl:=Hl.one a (.cells #[.slice (aA x y) ((n:Int)).toNat c.toNat,.bool bad] 203 (0,0))
structure yn (H:Hl) (a:Nat) (x y c:Int) (F:Hl) (bs:List Int) (bad:Bool):Prop where
 rx:-1<=x
 ry:0<=y
 rc:(bs.length:Int)<=c
 byte:aS bs
 len:bs.length<=1000000
 rd:mo F (.slice (aA x y) ((bs.length:Int)).toNat c.toNat) bs
 na:¬F.mem a
 hl:H=dC [HC a x y c bs.length bad,F]
def ln (H:Hl) (p:Value) (bs:List Int) (bad:Bool):Prop:=∃ a x y c F,p=.pointer (some ⟨a,0,none⟩)/\yn H a x y c F bs bad
theorem DA {F G:Hl} (h:F.le G) {v:Value} {bs:List Int} (hr:mo F v bs):mo G v bs:=by
 obtain⟨x,y,c,e,hy,hr⟩:=hr;refine⟨x,y,c,e,hy,hr.imp id fun⟨h0,hc⟩=>⟨h0,fun j z hz=>?_⟩⟩;have:=hc j z hz;unfold Hl.cell at this ⊢;cases hF:F x.toNat with
 | none=>rw[hF]at this;cases this
 | some o=>rw[h _ _ hF];rw[hF]at this;exact this
section
variable {H F:Hl} {a:Nat} {x y c:Int} {bs:List Int} {bad:Bool}
theorem yn.le (h:yn H a x y c F bs bad):(HC a x y c bs.length bad).le H/\F.le H:=by
 have hd:(HC a x y c bs.length bad).cG F:=Hl.fH.2 h.na;rw[h.hl];show(HC a x y c bs.length bad).le ((HC a x y c bs.length bad).un (F.un Hl.none))/\F.le ((HC a x y c bs.length bad).un (F.un Hl.none));rw[Hl.kP];exact⟨Hl.cC _ _,Hl.cD hd⟩
theorem yn.split (h:yn H a x y c F bs bad):BU (HC a x y c bs.length bad) F (.pointer (some ⟨a,0,none⟩)) bs bad:=by
 have hrd:=h.rd;rw[Y7]at hrd;refine⟨a,x,y,c.toNat,rfl,?_,?_,h.rx,h.ry,hrd⟩
 .unfold HC Hl.cell;rw[Hl.bF,Y7];rfl
 .unfold HC Hl.cell;rw[Hl.bF];rfl
theorem ln.whole {p:Value} (h:ln H p bs bad):BU H H p bs bad:=by
 obtain⟨a,x,y,c,F,rfl,h⟩:=h;obtain⟨l1,l2⟩:=h.le;obtain⟨a',x',y',c',e,h1,h2,h3,h4,h5⟩:=h.split;simp only[Value.pointer.injEq,Zj,Addr.mk.injEq,Zm]at e;subst e;have up:∀ j v,(HC a x y c bs.length bad).cell a j=some v->H.cell a j=some v:=by
  intro j v hv;have e:=l1 a _ (Hl.bF _ _);unfold HC Hl.cell at hv;rw[Hl.bF]at hv;unfold Hl.cell;rw[e];exact hv
 exact⟨a,x',y',c',rfl,up 0 _ h1,up 1 _ h2,h3,h4,DA l2 h5⟩
theorem ln.uniq {p:Value} {bs':List Int} {bad':Bool} (h:ln H p bs bad) (h':ln H p bs' bad'):bs=bs'/\bad=bad':=h.whole.uniq h'.whole
end
def yR:Mem:=[.bD 0 [.sl (.var 1) (.var 2) (.var 3) (.var 4),.bool (.bvar 6)] 203,.hp 7 [] [.var 1] []]
def CH (a:Nat) (x y c:Int) (bs:List Int) (bad:Bool) (F:Hl) (z:Int):Env:=bw [(a:Int),x,y,bs.length,c,z] bad [Hl.none,Hl.none,Hl.none,Hl.none,Hl.none,Hl.none,Hl.none,F]
section
variable {H F:Hl} {a:Nat} {x y c:Int} {bs:List Int} {bad:Bool}
theorem N4 (h:yn H a x y c F bs bad) (z:Int):Entry (CH a x y c bs bad F z) yR [H] []:=by
 obtain⟨l1,l2⟩:=h.le;have hb:(bx.bD 0 [.sl (.var 1) (.var 2) (.var 3) (.var 4),.bool (.bvar 6)] 203).hl (CH a x y c bs bad F z)=HC a x y c bs.length bad:=by
  show Hl.one ((a:Int)).toNat (.cells #[.slice (aA x y) ((bs.length:Int)).toNat c.toNat,.bool bad] 203 (0,0))=_;rw[Y7];rfl
 refine⟨fun r hr ho=>⟨H,by simp,?_⟩,fun r hr ho=>?_,?_,fun r hr=>?_⟩
 .simp only[yR,Zl,Zq,ZO]at hr;rcases hr with rfl | rfl
  .rw[hb];exact l1
  .exact l2
 .simp only[yR,Zl,Zq,ZO]at hr;rcases hr with rfl | rfl<;>cases ho
 .unfold yR;refine List.Pairwise.cons (fun r hr _ _=>?_) (List.Pairwise.cons (fun r hr=>by cases hr) List.Pairwise.nil);rw[Zn]at hr;subst hr;rw[hb];exact Hl.fH.2 h.na
 .simp only[yR,Zl,Zq,ZO]at hr;rcases hr with rfl | rfl
  .show(0:Int)<=(a:Int);omega
  .trivial
theorem Pq (h:yn H a x y c F bs bad) {z:Int} {q:Env} (hq:ah 8 (CH a x y c bs bad F z) q) {Y N C g:E} {y' c':Int} {bs':List Int} {bad':Bool} {v7:List Nat} {t7:List E} {t:Mem} (hY:aC q Y=y') (hN:aC q N=bs'.length) (hC:aC q C=c') (hg:bN q g=bad') (hy:0<=y') (hc:(bs'.length:Int)<=c') (hb:aS bs') (hl:bs'.length<=bs.length) (hr:mo F (.slice (aA x y') ((bs'.length:Int)).toNat c'.toNat) bs') :
 ln (uu q (.bD 0 [.sl (.var 1) Y N C,.bool g] 203::.hp 7 v7 t7 []::t) [0,1]) (.pointer (some ⟨a,0,none⟩)) bs' bad':=by
 have hlen:=h.len;refine⟨a,x,y',c',F,rfl,h.rx,hy,hc,hb,by omega,hr,h.na,?_⟩;show dC [Hl.one (q.i 0).toNat (.cells #[.slice (aA (q.i 1) (aC q Y)) (aC q N).toNat (aC q C).toNat,.bool (bN q g)] 203 (0,0)),q.h 7]=_;rw[hY,hN,hC,hg,hq.i 0,hq.i 1,hq.h 7];show dC [Hl.one ((a:Int)).toNat _,F]=_;rw[Y7];rfl
theorem vk (h:aS bs) (m:Nat):aS (bs.drop m):=fun b hb=>h b (aaU hb)
theorem Bj (h:yn H a x y c F bs bad) {m:Nat} (hm:m<=bs.length):mo F (.slice (aA x (if c=m then y else y+m)) (((bs.drop m).length:Int)).toNat (c-m).toNat) (bs.drop m):=by
 obtain⟨_,hr⟩:=h.rd.at h.rx h.ry (by omega);have hy:=h.ry;refine⟨x,if c=m then y else y+m,(c-m).toNat,by rw[Y7],by split<;>omega,?_⟩;rcases hr with ⟨h1,h2⟩ | ⟨h0,hc⟩
 .left;exact⟨h1,by rw[h2];simp⟩
 .right;refine⟨h0,fun j z hz=>?_⟩;rw[ZZ]at hz;have hj:=(Zi.1 hz).1;have hrc:=h.rc;rw[Zo (by omega),show(y+(m:Int)).toNat+j=y.toNat+(m+j)by omega];exact hc _ z hz
end
theorem wm (q:Env) (C M Y:E):aC q (.ite (.eq C M) Y (.add Y M))=if aC q C=aC q M then aC q Y else aC q Y+aC q M:=by
 simp only[aG,bd,aB]
def Lr (bs:List Int) (bad:Bool) (most:Int):Int×List Int×Bool:=if bad=true\/(fV bs).2=0\/most<((fV bs).1:Int)then(0,bs,true)else((fV bs).1,bs.drop (fV bs).2,false)
def kV (bs:List Int) (bad:Bool) (most:Int):List Int×List Int×Bool :=
 if bad=true\/(fV bs).2=0\/most<0\/min (min most 4096) ((bs.length:Int)-(fV bs).2)<((fV bs).1:Int)then([],bs,true)else((bs.drop (fV bs).2).take (fV bs).1,bs.drop ((fV bs).2+(fV bs).1),false)
theorem Oi {bs:List Int} (hb:aS bs):(fV bs).2<=bs.length/\(fV bs).1<18446744073709551616:=by
 unfold fV;cases h:tO bs with
 | none=>exact⟨aam _,by decide⟩
 | some r =>
  obtain⟨x,m⟩:=r;obtain⟨_,h2,_,h4⟩:=Jk hb h;exact⟨h2,h4⟩
def xx:Sx.Spec where
 fn:=80
 own:=[]
 rd:=[0]
 res:=[.one .ptr]
 pre:=fun xs Hs Rs=>∃ u bs R,xs=[u]/\Rs=[R]/\fp R u bs/\aS bs/\bs.length<=1000000
 post:=fun xs Hs Rs v Hs' F=>∃ u bs R,xs=[u]/\Rs=[R]/\fp R u bs/\ln F v bs false
def gC:Sx.Spec where
 fn:=110
 own:=[.arg 0]
 rd:=[]
 res:=[.one (.int .u64)]
 pre:=fun xs Hs Rs=>∃ p most H bs bad,xs=[p,.int .u64 most]/\Hs=[H]/\ln H p bs bad
 post:=fun xs Hs Rs v Hs' F=>∃ p most H bs bad H',xs=[p,.int .u64 most]/\Hs=[H]/\ln H p bs bad/\Hs'=[H']/\ln H' p (Lr bs bad most).2.1 (Lr bs bad most).2.2/\v=.int .u64 (Lr bs bad most).1
def Ps:List Sx.Spec:=[jC,eX]
theorem Lu:∀ t∈Ps,t.OK Tryz.prog:=fun t ht=>by
 simp only[Ps,Zl,Zq,ZO]at ht;rcases ht with rfl | rfl
 .exact Fz
 .exact jQ
theorem XN:Ps[0]?=some jC:=rfl
theorem XO:Ps[1]?=some eX:=rfl
theorem XP:jC.res=[.one (.int .u64),.one (.int .i64)]:=rfl
theorem XQ:eX.res=[.one .sl]:=rfl
theorem Vf:(br 0 [Cp.one .sl]≠[])=True:=by simp [br,Cp.roots,Ck.root]
theorem Lq {q:Env} {a:Nat} {x y c:Int} {n:Nat} {bad:Bool} (h0:q.i 0=a) (h1:q.i 1=x) (h2:q.i 2=y) (h3:q.i 3=n) (h4:q.i 4=c) (h6:q.b 6=bad) :
 Hl.one (q.i 0).toNat (.cells #[.slice (aA (q.i 1) (q.i 2)) (q.i 3).toNat (q.i 4).toNat,.bool (bN q (.bvar 6))] 203 (0,0))=HC a x y c n bad:=by
 rw[cn,h0,h1,h2,h3,h4,h6,Y7];rfl
def Bm:Nd:=(fun a=>(.and (.pre a) (.ext a (.ext (.alloc 9) (.post [.ro 4 [.var 0] false,.hp 5 [] [.var 5] [],.bD 9 [.sl (.var 5) (.var 6) (.var 7) (.var 8),.bool .ff] 203] (.sv (.one (.hptr (.var 9) (.lit 0))))))):Nd)) (.call 1 5 [.sv (.one (.sl (.var 0) (.var 1) (.var 2) (.var 3)))] [] [.ro 4 [.var 0] false])
def xy:bU Tryz.prog Ps xx.fn where
 Λ:=aM
 args:=[.sv (.one (.sl (.var 0) (.var 1) (.var 2) (.var 3)))]
 mem:=[.ro 4 [.var 0] false]
 nv:=5
 nd:=Bm
 ok:=by kernel_rfl
theorem pZ {u v:Value} {bs:List Int} {R F:Hl} {Hs K:List Hl} (h:fp R u bs) (hp:eX.post [u] Hs [R] v K F):cH F 5 v bs:=by
 obtain⟨u',bs',R',hx,hR,hB,hO⟩:=hp;have hx:u=u':=by simpa using hx
 have hR:R=R':=by simpa using hR
 subst hx hR;rw[h.uniq hB];exact hO
theorem Ol {F:Hl} {e:TypeId} {x y l c:Int} {bs:List Int} (h:cH F e (.slice (aA x y) l.toNat c.toNat) bs) (hl:0<=l) (hc:0<=c):l<=c:=by
 obtain⟨_,h⟩:=h;rcases h with ⟨h,_⟩ | ⟨g,cap,cur,h,_,hle,_⟩
 .simp only[Value.slice.injEq]at h;omega
 .simp only[Value.slice.injEq]at h;omega
theorem JA:xx.OK Tryz.prog:=by
 refine Spec.bJ (Γ:=Ps) Lu ?_;rintro xs Hs Rs hl1 hl2 ⟨u,bs,R,rfl,rfl,hRd,hby,hlen⟩;have e0:Hs=[]:=Za.1 hl1;subst e0;obtain⟨x,y,c,rfl,hy,hR⟩:=id hRd;refine⟨xy,bw [x,y,bs.length,c] false [Hl.none,Hl.none,Hl.none,Hl.none,R],fun _ _=>True,fun _ _=>0,?_,⟨?_,?_,?_,?_⟩,(fun _ h=>nomatch h),?_⟩
 .show [Value.slice (aA x y) ((bs.length:Int)).toNat ((c:Int)).toNat]=_;rw[Y7,Y7]
 .intro r hr ho;simp [xy]at hr;subst hr;cases ho
 .intro r hr ho;simp [xy]at hr;subst hr;exact⟨R,by simp,Hl.le_refl _⟩
 .simp [xy]
 .intro r hr;simp [xy]at hr;subst hr;trivial
 .show Nd.holds _ _ _ Bm;generalize hρ:bw [x,y,bs.length,c] false [Hl.none,Hl.none,Hl.none,Hl.none,R]=ρ;have v0:ρ.i 0=x:=by rw[<-hρ];rfl
  have v1:ρ.i 1=y:=by rw[<-hρ];rfl
  have v2:ρ.i 2=bs.length:=by rw[<-hρ];rfl
  have v3:ρ.i 3=c:=by rw[<-hρ];rfl
  have w4:ρ.h 4=R:=by rw[<-hρ];rfl
  clear hρ;unfold Bm;simp only[Nd.holds,X.pre,X.rel,X.n,Src.ok,Src.len,Src.bG,Zy,Zm,ZG,Zx,Zp,Nat.reduceAdd,Zd,Zh,bn,bj,aJ,aU,aR,bm,aZ,bh,bg,bd,aV,ba,bk,aX,aW,aK,aY,ai,aj,aB,aF,aD,ar,aG,aQ,aP,aq,aI,az,aH,av,TV.ev,SV.ev,CV.ev,Zf,Zr,bx.hl,cu,Cp.sv,Ck.cv,bf,Cp.len,Ck.len,aE,aN,aT,XN,XO,XP,XQ,Vf];rw[v0,v1,v2,v3,w4,Y7,Y7];refine⟨⟨_,bs,R,rfl,rfl,hRd,hlen⟩,fun q1 g1 ⟨F1,hp,hF,⟨⟨n5,n6,n7,n8⟩,_⟩⟩ q2 g2 p9 hd=>?_⟩;have hO:=pZ hRd hp;rw[<-hF trivial]at hO;have n5:-1<=q1.i 5:=n5;have n6:0<=q1.i 6:=n6;have n7:0<=q1.i 7:=n7;have n8:0<=q1.i 8:=n8;have hcap:=Ol hO n7 n8;have hrd:=hO.rd;have hl:=(hrd.at n5 n6 n7).1;rw[hl]at hrd hcap;have h12:=hd 2 1 _ _ (by decide) rfl rfl rfl;have h12:(Hl.one (q2.i 9).toNat _).cG (q2.h 5):=h12;rw[g2.h 5]at h12;refine⟨[],[2,1],rfl,rfl,⟨⟨fun k=>if k=0 then q2.i 9 else 0,fun _=>false,fun _=>.empty,fun _=>.tuple #[],fun _=>Hl.none⟩,rfl,⟨by show -1<=q2.i 9;omega,Zw _⟩,trivial⟩,_,bs,R,rfl,rfl,hRd,(q2.i 9).toNat,q1.i 5,q1.i 6,q1.i 8,q1.h 5,?_,⟨n5,n6,hcap,hby,hlen,hrd,Hl.fH.1 h12,?_⟩⟩
  .show Value.pointer (aA (q2.i 9) 0)=_;rw[au p9];rfl
  .show dC [Hl.one (q2.i 9).toNat (.cells #[.slice (aA (q2.i 5) (q2.i 6)) (q2.i 7).toNat (q2.i 8).toNat,.bool false] 203 (0,0)),q2.h 5]=_;rw[g2.i 5,g2.i 6,g2.i 7,g2.i 8,g2.h 5,hl];rfl
theorem OM {H F:Hl} {a:Nat} {x y c:Int} {bs:List Int} {bad:Bool} (h:yn H a x y c F bs bad) {m k:Nat} (hm:m+k<=bs.length) (c':Nat):fp F (.slice (aA x (if c=m then y else y+m)) k c') ((bs.drop m).take k):=by
 obtain⟨x',y',c2,he,hy',hr⟩:=(Bj h (m:=m) (by omega)).w;simp only[Value.slice.injEq]at he;refine⟨x',y',c',?_,hy',?_⟩
 .rw[he.1,ZE,ZX,ab5 (by omega)]
 .rcases hr with h0 | ⟨h0,hc⟩
  .left;rw[h0];simp
  .right;refine⟨h0,fun j z hz=>hc j z ?_⟩;rw[Z2]at hz;split at hz
   .exact hz
   .cases hz
theorem rJ (F:Hl) (e:TypeId):cH F e (.slice none 0 0) []:=⟨rfl,Or.inl ⟨rfl,rfl⟩⟩
def zM:Sx.Spec where
 fn:=82
 own:=[.arg 0]
 rd:=[]
 res:=[.one .sl]
 pre:=fun xs Hs Rs=>∃ p most H bs bad,xs=[p,.int .i64 most]/\Hs=[H]/\ln H p bs bad/\most<=1000000
 post:=fun xs Hs Rs v Hs' F=>∃ p most H bs bad H',xs=[p,.int .i64 most]/\Hs=[H]/\ln H p bs bad/\Hs'=[H']/\ln H' p (kV bs bad most).2.1 (kV bs bad most).2.2/\cH F 5 v (kV bs bad most).1
def GD:Nd:=(fun n q o r h s m d l=>(fun p b c g i=>(fun a f j k=>(.and (.pre i) (.ext i (.and (.imp (.not (.bvar 6)) (.and (.imp (.not (.eq m h)) (.and (.imp (.not (.lt (.var 5) h)) (.and (.e (.le h n)) (.and (.imp f a) (.imp (.not f) (.and (.e (.le (.lit (-1)) o)) (.and (.e (.le h q)) (.and (.e (.le h m)) (.and (.e (.le m n)) (.and (.e (.le n r)) (.and (.imp (.not (.lt d h)) (.and (.e (.le h c)) (.and (.imp (.lt c d) j) (.imp (.not (.lt c d)) (.and (.e (.le h b)) (.and (.e (.le d g)) (.and (.pre k) (.ext k (.and (.e (.le d c)) (.and (.e (.le c g)) (.post [.bD 0 [.sl o (.ite (.eq g d) b (.add b d)) (.sub c d) (.sub g d),.bool (.bvar 6)] 203,.hp 7 [] s [],.hp 10 [] [.var 10] []] (.sv (.one (.sl (.var 10) (.var 11) (.var 12) (.var 13))))))))))))))) (.imp (.lt d h) j))))))))))) (.imp (.lt (.var 5) h) a))) (.imp (.eq m h) a))) (.imp (.bvar 6) a))):Nd)) (.post [.bD 0 [.sl o q n r,.bool .tt] 203,.hp 7 [] s []] p) (.lt (.wrap .u64 (.ite (.lt (.wrap .i64 c) l) (.wrap .i64 c) l)) (.var 8)) (.post [.bD 0 [.sl o b c g,.bool .tt] 203,.hp 7 [] s []] p) (.call 1 10 [.sv (.one (.sl o b d g))] [] [.hp 7 [] s []])) (.sv (.one (.sl (.lit (-1)) h h h))) (.ite (.eq r m) q (.add q m)) (.sub n m) (.sub r m) (.call 0 8 [.sv (.one (.hptr (.var 0) h))] [] [.bD 0 [.sl o q n r,.bool (.bvar 6)] 203,.hp 7 [] s []])) (.var 3) (.var 2) (.var 1) (.var 4) (.lit 0) [.var 1] (.var 9) (.wrap .i64 (.var 8)) (.ite (.lt (.lit 4096) (.var 5)) (.lit 4096) (.var 5))
def TU:bU Tryz.prog Ps zM.fn where
 Λ:=aM
 args:=[TP (.var 0) (.lit 0),TI .i64 (.var 5)]
 mem:=yR
 nv:=8
 nd:=GD
 ok:=by kernel_rfl
theorem N5 {a b:Int} : (if a<b then a else b)=min a b:=by split<;>omega
theorem M6:zM.OK Tryz.prog:=by
 refine Spec.bJ (Γ:=Ps) Lu ?_;rintro xs Hs Rs hl1 hl2 ⟨p,most,H,bs,bad,rfl,rfl,⟨a,x,y,c,F,rfl,h⟩,hmost⟩;have e1:Rs=[]:=Za.1 hl2;subst e1;refine⟨TU,CH a x y c bs bad F most,fun _ _=>True,fun _ _=>0,?_,N4 h most,(fun _ h=>nomatch h),?_⟩
 .show [Value.pointer (aA (a:Int) 0),Value.int .i64 most]=_;rw[gM]
 .show Nd.holds _ _ _ GD;generalize hρ:CH a x y c bs bad F most=ρ;have v0:ρ.i 0=a:=by rw[<-hρ];rfl
  have v1:ρ.i 1=x:=by rw[<-hρ];rfl
  have v2:ρ.i 2=y:=by rw[<-hρ];rfl
  have v3:ρ.i 3=bs.length:=by rw[<-hρ];rfl
  have v4:ρ.i 4=c:=by rw[<-hρ];rfl
  have v5:ρ.i 5=most:=by rw[<-hρ];rfl
  have b6:ρ.b 6=bad:=by rw[<-hρ];rfl
  have w7:ρ.h 7=F:=by rw[<-hρ];rfl
  obtain⟨hn1,hn2⟩:=Oi h.byte;have hrx:=h.rx;have hry:=h.ry;have hrc:=h.rc;have hlen:=h.len;have fail:∀ (q:Env) (t:Mem),ah 8 ρ q->bad=true\/(fV bs).2=0\/most<0\/min (min most 4096) ((bs.length:Int)-(fV bs).2)<((fV bs).1:Int)->postOf zM [.pointer (some ⟨a,0,none⟩),.int .i64 most] [H] [] q (.bD 0 [.sl (.var 1) (.var 2) (.var 3) (.var 4),.bool .tt] 203::.hp 7 [] [.var 1] []::t) (.sv (.one (.sl (.lit (-1)) (.lit 0) (.lit 0) (.lit 0)))):=by
   intro q t hq hf _;have hs:kV bs bad most=([],bs,true):=by unfold kV;rw[ZA hf]
   refine⟨[[0,1]],[],rfl,rfl,⟨⟨fun k=>if k=0 then -1 else 0,fun _=>false,fun _=>.empty,fun _=>.tuple #[],fun _=>Hl.none⟩,rfl,⟨Zw _,Zw _,Zw _,Zw _⟩,trivial⟩,_,most,H,bs,bad,_,rfl,rfl,⟨a,x,y,c,F,rfl,h⟩,rfl,?_,?_⟩
   .rw[hs];have k2:aC q (.var 2)=y:=by rw[aj,hq.i 2,v2]
    have k3:aC q (.var 3)=bs.length:=by rw[aj,hq.i 3,v3]
    have k4:aC q (.var 4)=c:=by rw[aj,hq.i 4,v4]
    rw[<-hρ]at hq;exact Pq h hq k2 k3 k4 rfl hry hrc h.byte (ZB _) h.rd
   .rw[hs];exact rJ _ _
  unfold GD;simp only[Nd.holds,X.pre,X.rel,X.n,Src.ok,Src.len,Src.bG,Zy,Zm,ZG,Zx,Zp,Nat.reduceAdd,Zd,Zh,bn,bj,aJ,aU,aR,bm,aZ,bh,bg,bd,aV,ba,bk,aX,aW,aK,aY,ai,aj,aB,aF,aD,ar,aG,aQ,aP,aq,aI,az,aH,av,TV.ev,SV.ev,CV.ev,Zf,Zr,bx.hl,cu,Cp.sv,Ck.cv,bf,Cp.len,Ck.len,aE,aN,aT,XN,XO,XP,XQ,Vf];rw[Lq v0 v1 v2 v3 v4 b6,v0,gM,w7];refine⟨⟨_,_,_,bs,bad,rfl,rfl,h.split,h.byte,h.len⟩,fun q g ⟨F1,hp,_,_⟩=>?_⟩;have hv:=C8 h.split hp;have hv:q.i 8=(fV bs).1/\q.i 9=(fV bs).2:=by simpa using hv
  obtain⟨h8,h9⟩:=hv;generalize hm:(fV bs).2=m at *;generalize hk:(fV bs).1=k at *;have j1:q.i 1=x:=by rw[g.i 1,v1]
  have j2:q.i 2=y:=by rw[g.i 2,v2]
  have j3:q.i 3=bs.length:=by rw[g.i 3,v3]
  have j4:q.i 4=c:=by rw[g.i 4,v4]
  have j5:q.i 5=most:=by rw[g.i 5,v5]
  rw[g.b 6,b6,h9,h8,j1,j2,j3,j4,j5];rw[wrap_i64 (n:=(bs.length:Int)-(m:Int)) (by omega) (by omega)];simp only[N5];have emin:min ((bs.length:Int)-(m:Int)) (min 4096 most)=min (min most 4096) ((bs.length:Int)-(m:Int)):=by omega
  rw[emin];refine⟨fun hb=>⟨fun hz=>⟨fun hmn=>⟨by omega,fun hlt=>?_,fun hge=>?_⟩,fun hmn=>fail q _ g (Or.inr (Or.inr (Or.inl hmn)))⟩,fun hz=>fail q _ g (Or.inr (Or.inl (by omega)))⟩,fun hb=>fail q _ g (Or.inl hb)⟩
  .rw[nD (by omega) (by omega)]at hlt;exact fail q _ g (Or.inr (Or.inr (Or.inr hlt)))
  .rw[nD (by omega) (by omega)]at hge;have hwk:IntKind.i64.wrap (k:Int)=k:=wrap_i64 (by omega) (by omega);have hY:aC q (.ite (.eq (.var 4) (.var 9)) (.var 2) (.add (.var 2) (.var 9)))=if c=(m:Int)then y else y+m:=by
    rw[wm,aj,aj,aj,j4,j2,h9]
   have hYq:∀ q',ah 10 q q'->aC q' (.ite (.eq (.var 4) (.var 9)) (.var 2) (.add (.var 2) (.var 9)))=if c=(m:Int)then y else y+m:=by
    intro q' g';rw[wm,aj,aj,aj,g'.i 4,g'.i 2,g'.i 9,j4,j2,h9]
   rw[hwk];refine⟨hrx,hry,by omega,by omega,hrc,fun _=>⟨by omega,fun hlt2=>absurd hlt2 (by omega),fun _=>?_⟩,fun hneg=>absurd hneg (by omega)⟩;have hs:kV bs bad most=((bs.drop m).take k,bs.drop (m+k),false):=by
    unfold kV;rw[hm,hk];have:¬(bad=true\/m=0\/most<0\/min (min most 4096) ((bs.length:Int)-(m:Int))<(k:Int)):=by
     rintro(e | e | e | e)
     .exact hb e
     .exact hz (by omega)
     .omega
     .exact hge e
    rw[Zo this]
   have hmk:m+k<=bs.length:=by omega
   have ht:=OM h (m:=m) (k:=k) hmk (c-m).toNat;have hd1:=Bj h (m:=m) (by omega);have hdl:((bs.drop m).length:Int)=bs.length-m:=by rw[ZX];omega
   have hY0:0<=(if c=(m:Int)then y else y+m):=by split<;>omega
   have h2:yn (dC [HC a x (if c=(m:Int)then y else y+m) (c-m) (bs.drop m).length false,F]) a x (if c=(m:Int)then y else y+m) (c-m) F (bs.drop m) false :=
    ⟨hrx,hY0,by omega,vk h.byte m,by rw[ZX];omega,hd1,h.na,rfl⟩
   have hd2:=Bj h2 (m:=k) (by rw[ZX];omega);rw[aaZ]at hd2;rw[g.h 7,w7];refine⟨hY0,by omega,⟨_,_,F,rfl,rfl,(by rw[Y7];exact ht),by rw[ZE,ZX];omega⟩,fun q2 g2 ⟨F2,hp2,hF2,hnm⟩=>?_⟩;have hO:=pZ (R:=F) (u:=.slice (aA x (if c=(m:Int)then y else y+m)) ((k:Int)).toNat (c-m).toNat) (by rw[Y7];exact ht) hp2;rw[<-hF2 trivial]at hO;have G2:ah 8 ρ q2:=g.tr g2;rw[g2.i 8,g2.i 9,G2.i 3,G2.i 4,h8,h9,v3,v4,hwk];refine⟨by omega,by omega,fun _=>?_⟩;have eC:aC q2 (.sub (.var 4) (.var 9))=c-m:=by
    show q2.i 4-q2.i 9=_;rw[G2.i 4,g2.i 9,v4,h9]
   have eN:aC q2 (.sub (.var 3) (.var 9))=bs.length-m:=by
    show q2.i 3-q2.i 9=_;rw[G2.i 3,g2.i 9,v3,h9]
   have eK:aC q2 (.wrap .i64 (.var 8))=k:=by
    show IntKind.i64.wrap (q2.i 8)=_;rw[g2.i 8,h8,hwk]
   have hlast:((bs.drop (m+k)).length:Int)=bs.length-m-k:=by rw[ZX];omega
   have g6:bN q2 (.bvar 6)=false:=by rw[cn,G2.b 6,b6];exact aaO.2 hb
   rw[<-hρ]at G2;refine⟨[[0,1]],[2],rfl,rfl,⟨⟨fun k=>q2.i (10+k),fun _=>false,fun _=>.empty,fun _=>.tuple #[],fun _=>Hl.none⟩,rfl,hnm.1,trivial⟩,_,most,H,bs,bad,_,rfl,rfl,⟨a,x,y,c,F,rfl,h⟩,rfl,?_,?_⟩
   .rw[hs];refine Pq h G2 ?_ ?_ ?_ g6 (y':=if c-(m:Int)=k then(if c=(m:Int)then y else y+m)else(if c=(m:Int)then y else y+m)+k) (by split<;>omega) (c':=c-m-k) (by rw[hlast];omega) (vk h.byte _) (by rw[ZX];omega) hd2
    .rw[wm,eC,eK,hYq q2 g2]
    .rw[aF,eN,eK,hlast]
    .rw[aF,eC,eK]
   .rw[hs];show cH (dC [q2.h 10]) _ _ _;rw[bz];exact hO
abbrev JX (x:Int) (n:Nat) (c:Int):Value:=.slice (aA x 0) ((n:Int)).toNat c.toNat
def rI (a:Nat) (x c:Int) (n:Nat) (lg:Bool):Hl:=Hl.one a (.cells #[JX x n c,.bool lg] 208 (0,0))
structure yB (H:Hl) (a:Nat) (x c:Int) (F:Hl) (bs:List Int) (lg:Bool):Prop where
 rx:-1<=x
 rc:0<=c
 own:cH F 5 (JX x bs.length c) bs
 na:¬F.mem a
 hl:H=dC [rI a x c bs.length lg,F]
def bV (H:Hl) (p:Value) (bs:List Int) (lg:Bool):Prop:=∃ a x c F,p=.pointer (some ⟨a,0,none⟩)/\yB H a x c F bs lg
section
variable {H F:Hl} {a:Nat} {x c:Int} {bs:List Int} {lg:Bool}
theorem yB.le (h:yB H a x c F bs lg):(rI a x c bs.length lg).le H/\F.le H:=by
 have hd:(rI a x c bs.length lg).cG F:=Hl.fH.2 h.na;rw[h.hl];show(rI a x c bs.length lg).le ((rI a x c bs.length lg).un (F.un Hl.none))/\F.le ((rI a x c bs.length lg).un (F.un Hl.none));rw[Hl.kP];exact⟨Hl.cC _ _,Hl.cD hd⟩
theorem bV.whole {p:Value} (h:bV H p bs lg):∃ (a:Nat) (x c:Int),p=.pointer (some ⟨a,0,none⟩)/\ -1<=x/\0<=c/\H.cell a 0=some (JX x bs.length c)/\H.cell a 1=some (.bool lg)/\mo H (JX x bs.length c) bs:=by
 obtain⟨a,x,c,F,rfl,h⟩:=h;obtain⟨l1,l2⟩:=h.le;have e:=l1 a _ (Hl.bF _ _);exact⟨a,x,c,rfl,h.rx,h.rc,by unfold Hl.cell;rw[e];rfl,by unfold Hl.cell;rw[e];rfl,DA l2 h.own.rd⟩
theorem bV.uniq {p:Value} {bs':List Int} {lg':Bool} (h:bV H p bs lg) (h':bV H p bs' lg'):bs=bs'/\lg=lg':=by
 obtain⟨a,x,c,rfl,_,_,h0,h1,hr⟩:=h.whole;obtain⟨a',x',c',e,_,_,k0,k1,kr⟩:=h'.whole;simp only[Value.pointer.injEq,Zj,Addr.mk.injEq,Zm]at e;subst e;rw[h0]at k0;rw[h1]at k1;simp only[Zj,Value.bool.injEq]at k0 k1;rw[<-k0]at kr;exact⟨hr.uniq kr,k1⟩
end
theorem bV.new (a:Nat):bV (Hl.one a (.cells #[.slice none 0 0,.bool false] 208 (0,0))) (.pointer (some ⟨a,0,none⟩)) [] false:=by
 refine⟨a,-1,0,Hl.none,rfl,⟨Zw _,Zw _,⟨rfl,Or.inl ⟨rfl,rfl⟩⟩,fun h=>(by simp [Hl.mem,Hl.none]at h),?_⟩⟩;show _=(rI a (-1) 0 0 false).un (Hl.none.un Hl.none);rw[Hl.kP,Hl.kP];rfl
def ir:Mem:=[.bD 0 [.sl (.var 1) (.lit 0) (.var 2) (.var 3),.bool (.bvar 6)] 208,.hp 7 [] [.var 1] []]
def lj (a:Nat) (x c:Int) (n:Nat) (lg:Bool) (F:Hl) (z:Int) (l:List Int) (R:Hl):Env:=bw ([(a:Int),x,n,c,0,z,0,0]++l) lg [Hl.none,Hl.none,Hl.none,Hl.none,Hl.none,Hl.none,Hl.none,F,Hl.none,Hl.none,Hl.none,Hl.none,R]
section
variable {H F:Hl} {a:Nat} {x c:Int} {bs:List Int} {lg:Bool}
theorem xf (h:yB H a x c F bs lg) (z:Int) (l:List Int) (R:Hl):Entry (lj a x c bs.length lg F z l R) ir [H] []:=by
 obtain⟨l1,l2⟩:=h.le;have hb:(bx.bD 0 [.sl (.var 1) (.lit 0) (.var 2) (.var 3),.bool (.bvar 6)] 208).hl (lj a x c bs.length lg F z l R)=rI a x c bs.length lg:=by
  show Hl.one ((a:Int)).toNat (.cells #[JX x bs.length c,.bool lg] 208 (0,0))=_;rw[Y7];rfl
 refine⟨fun r hr ho=>⟨H,by simp,?_⟩,fun r hr ho=>?_,?_,fun r hr=>?_⟩
 .simp only[ir,Zl,Zq,ZO]at hr;rcases hr with rfl | rfl
  .rw[hb];exact l1
  .exact l2
 .simp only[ir,Zl,Zq,ZO]at hr;rcases hr with rfl | rfl<;>cases ho
 .unfold ir;refine List.Pairwise.cons (fun r hr _ _=>?_) (List.Pairwise.cons (fun r hr=>by cases hr) List.Pairwise.nil);rw[Zn]at hr;subst hr;rw[hb];exact Hl.fH.2 h.na
 .simp only[ir,Zl,Zq,ZO]at hr;rcases hr with rfl | rfl
  .show(0:Int)<=(a:Int);omega
  .trivial
theorem Jr (h:yB H a x c F bs lg) (z:Int) (l:List Int) (R:Hl) (t:List E):Entry (lj a x c bs.length lg F z l R) (ir++[.ro 12 t false]) [H] [R]:=by
 obtain⟨h1,h2,h3,h4⟩:=xf h z l R;refine⟨fun r hr ho=>?_,fun r hr ho=>?_,?_,fun r hr=>?_⟩
 .rcases ZT.1 hr with hr | hr
  .exact h1 r hr ho
  .rw[Zn]at hr;subst hr;cases ho
 .rcases ZT.1 hr with hr | hr
  .obtain⟨R,hR,_⟩:=h2 r hr ho;cases hR
  .rw[Zn]at hr;subst hr;exact⟨R,by simp,Hl.le_refl _⟩
 .rw[ab6];refine⟨h3,by simp,fun r _ s hs _ ho=>?_⟩;rw[Zn]at hs;subst hs;cases ho
 .rcases ZT.1 hr with hr | hr
  .exact h4 r hr
  .rw[Zn]at hr;subst hr;trivial
end
theorem FH {q:Env} {a:Nat} {X N C g:E} {k:Nat} {v7:List Nat} {t7:List E} {t:Mem} {bs:List Int} {lg:Bool} (h0:q.i 0=a) (hX:-1<=aC q X) (hN:aC q N=bs.length) (hC:0<=aC q C) (hg:bN q g=lg) (ho:cH (q.h k) 5 (JX (aC q X) bs.length (aC q C)) bs)
 (hd:∀ (p s:Nat) r u,p≠s->(.bD 0 [.sl X (.lit 0) N C,.bool g] 208::.hp k v7 t7 []::t:Mem)[p]?=some r->(.bD 0 [.sl X (.lit 0) N C,.bool g] 208::.hp k v7 t7 []::t:Mem)[s]?=some u->r.own=true->(r.hl q).cG (u.hl q)) :
 bV (uu q (.bD 0 [.sl X (.lit 0) N C,.bool g] 208::.hp k v7 t7 []::t) [0,1]) (.pointer (some ⟨a,0,none⟩)) bs lg:=by
 have hb:(bx.bD 0 [.sl X (.lit 0) N C,.bool g] 208).hl q=rI a (aC q X) (aC q C) bs.length lg:=by
  show Hl.one (q.i 0).toNat (.cells #[.slice (aA (aC q X) 0) (aC q N).toNat (aC q C).toNat,.bool (bN q g)] 208 (0,0))=_;rw[h0,hN,hg,Y7];rfl
 have d01:=hd 0 1 _ _ (by decide) rfl rfl rfl;rw[hb]at d01;refine⟨a,aC q X,aC q C,q.h k,rfl,hX,hC,ho,Hl.fH.1 d01,?_⟩;show dC [(bx.bD 0 [.sl X (.lit 0) N C,.bool g] 208).hl q,q.h k]=_;rw[hb]
theorem oY {A B:Hl} {x l c x1 c1:Int} {bs bs2:List Int} (ho:cH A 5 (.slice (aA x 0) l.toNat c.toNat) bs) (hl:l=bs.length) {m:Nat} (hm:m=bs2.length)
 (happ:∀ xs,bE A 5 1 (.slice (aA x 0) l.toNat c.toNat) l.toNat xs->bE B 5 1 (.slice (aA x1 0) (l.toNat+m) c1.toNat) (l.toNat+m) (xs++bK bs2)):cH B 5 (JX x1 (bs++bs2).length c1) (bs++bs2):=by
 have hn:l.toNat=bs.length:=by omega
 have h1:bE A 5 1 (.slice (aA x 0) l.toNat c.toNat) l.toNat (bK bs):=by rw[hn]at ho ⊢;exact ho
 have h2:=happ _ h1;unfold cH JX;rw[Y7,Y9,fY,<-hm,<-hn];exact h2
theorem oZ {A:Hl} {x l c:Int} {bs:List Int} (ho:cH A 5 (.slice (aA x 0) l.toNat c.toNat) bs) (hl:l=bs.length):bE A 5 1 (.slice (aA x 0) l.toNat c.toNat) l.toNat (bK bs):=by
 have hn:l.toNat=bs.length:=by omega
 rw[hn]at ho ⊢;exact ho
def Mh (f:FuncId) (ok:List Value->List Int->Prop) (act:List Value->List Int->List Int):Sx.Spec where
 fn:=f
 own:=[.arg 0]
 rd:=[]
 res:=[]
 pre:=fun xs Hs Rs=>∃ p z H bs lg,xs=[p,z]/\Hs=[H]/\bV H p bs lg/\ok [z] bs/\bs.length<=900000
 post:=fun xs Hs Rs v Hs' F=>∃ p z H bs lg H',xs=[p,z]/\Hs=[H]/\bV H p bs lg/\Hs'=[H']/\bV H' p (act [z] bs) lg
def Fv (l:List Value) (bs:List Int):List Int:=bs++ak (cW l[0]?).toNat
def Tp (l:List Value) (_:List Int):Prop:=∃ z:Int,l=[.int .u64 z]/\0<=z/\z<18446744073709551616
def rE:Sx.Spec:=Mh 156 Tp Fv
def FD:Nd:=(fun e d=>(fun c=>(fun a b=>(.and (.inv 0 [⟨24,0,.int .i64 (.var 5)⟩,⟨20,0,.int .i64 (.var 1)⟩,⟨22,0,.int .i64 (.var 2)⟩,⟨23,0,.int .i64 (.var 3)⟩] [(25,some 7)]) (.havoc 0 0 8 (.and (.imp (.le (.lit 128) d) (.ext (.alloc 30) (.and (.pre a) (.ext a (.back 0 0 [⟨24,0,.int .i64 (.shr .u64 d (.lit 7))⟩,⟨20,0,.int .i64 (.var 31)⟩,⟨22,0,.int .i64 (.add e (.lit 1))⟩,⟨23,0,.int .i64 (.var 32)⟩] [(25,some 31)]))))) (.imp (.not (.le (.lit 128) d)) (.ext (.alloc 30) (.and (.pre b) (.ext b (.post [.bD 0 [.sl (.var 31) (.lit 0) (.add e (.lit 1)) (.var 32),.bool (.bvar 6)] 208,.hp 31 [25] [.var 31,.var 20] [],.dead] (.tup [])))))))):Nd)) (.app 31 5 1 1 c e (.hp 25 [] [.var 20] []) (.cvs [.int .u8 (.bits .or .u8 (.wrap .u8 d) (.lit 128))] 1)) (.app 31 5 1 1 c e (.hp 25 [] [.var 20] []) (.cvs [.int .u8 (.wrap .u8 d)] 1))) (.sl (.var 20) (.lit 0) e (.var 23))) (.var 22) (.var 24)
def Tr:bU Tryz.prog [] 156 where
 Λ:=fun p=>if LL p then some ⟨0,[(1,TI .u64 (.var 24))],[(0,.bD 0 [.sl (.var 20) (.lit 0) (.var 22) (.var 23),.bool (.bvar 6)] 208),(1,.hp 25 [] [.var 20] [])],30⟩else none
 args:=[TP (.var 0) (.lit 0),TI .u64 (.var 5)]
 mem:=ir
 nv:=8
 nd:=FD
 ok:=by kernel_rfl
def HQ (all:List Int) (m:Nat) (_:Nat) (q:Env):Prop:=∃ (y:Nat) (done:List Int),q.i 24=y/\done++ak y=all/\done.length<=m/\q.i 22=done.length/\ -1<=q.i 20/\0<=q.i 23/\cH (q.h 25) 5 (.slice (aA (q.i 20) 0) (q.i 22).toNat (q.i 23).toNat) done
theorem ma {z:Nat} (h:z<18446744073709551616):(ak z).length<=10:=by
 refine C2 9 z (abP h (by decide))
theorem Dc:rE.OK Tryz.prog:=by
 refine Spec.bJ (Γ:=[]) (fun _ h=>by cases h) ?_;rintro xs Hs Rs hl1 hl2 ⟨p,zv,H,bs,lg,rfl,rfl,⟨a,x,c,F,rfl,h⟩,⟨z,hz,hz0,hz1⟩,hlen⟩;have hz:zv=.int .u64 z:=by simpa using hz
 subst hz;have e1:Rs=[]:=Za.1 hl2;subst e1;have hnb:=ma (z:=z.toNat) (by omega);refine⟨Tr,lj a x c bs.length lg F z [] Hl.none,HQ (bs++ak z.toNat) (bs.length+10),fun _ q=>(q.i 24).toNat,?_,xf h z [] _,(fun _ h=>nomatch h),?_⟩
 .show [Value.pointer (aA (a:Int) 0),Value.int .u64 z]=_;rw[gM]
 .show Nd.holds _ _ _ FD;generalize hρ:lj a x c bs.length lg F z [] Hl.none=ρ;have v0:ρ.i 0=a:=by rw[<-hρ];rfl
  have v1:ρ.i 1=x:=by rw[<-hρ];rfl
  have v2:ρ.i 2=bs.length:=by rw[<-hρ];rfl
  have v3:ρ.i 3=c:=by rw[<-hρ];rfl
  have v5:ρ.i 5=z:=by rw[<-hρ];rfl
  have b6:ρ.b 6=lg:=by rw[<-hρ];rfl
  have w7:ρ.h 7=F:=by rw[<-hρ];rfl
  clear hρ;unfold FD;simp only[Nd.holds,X.pre,X.rel,X.n,Src.ok,Src.len,Src.bG,Zy,Zm,ZG,Zx,Zp,Nat.reduceAdd,Zd,Zh,bn,bj,aJ,aU,aR,bm,aZ,bh,bg,bd,aV,ba,bk,aX,aW,aK,aY,ai,aj,aB,aF,aD,ar,aG,aQ,aP,aq,aI,az,aH,av,TV.ev,SV.ev,CV.ev,Zf,Zr,bx.hl];refine⟨⟨z.toNat,bs,?_,rfl,by omega,?_,?_,?_,?_⟩,fun q g ⟨y,done,e24,hall,hdl,e22,r20,r23,hO⟩=>?_⟩
  .show ρ.i 5=_;rw[v5];omega
  .show ρ.i 2=_;exact v2
  .show -1<=ρ.i 1;rw[v1];exact h.rx
  .show 0<=ρ.i 3;rw[v3];exact h.rc
  .show cH (ρ.h 7) _ (.slice (aA (ρ.i 1) 0) (ρ.i 2).toNat (ρ.i 3).toNat) bs;rw[w7,v1,v2,v3];exact h.own
  have hal:=ZW List.length hall;rw[Y9,Y9]at hal;refine⟨fun hge q1 g1 _=>?_,fun hlt q1 g1 _=>?_⟩
  .rw[g1.h 25,g1.i 20,g1.i 22,g1.i 23];refine⟨⟨⟨_,oZ hO e22⟩,by omega,by unfold maxLen;omega,by omega⟩,fun q2 g2 ⟨a1,a2,a3,_⟩=>?_⟩;rw[e24]at hge;have hyh:ak y=((y%128+128:Nat):Int)::ak (y/128):=iK (by omega);have eb:aC q1 (.bits .or .u8 (.wrap .u8 (.var 24)) (.lit 128))=((y%128+128:Nat):Int):=by
    show cU .or .u8 (IntKind.u8.wrap (q1.i 24)) 128=_;rw[g1.i 24,e24];exact Tl
   rw[eb]at a3;have hO2:=oY (bs2:=[((y%128+128:Nat):Int)]) (m:=1) hO e22 rfl a3;have e24':aC q2 (.shr .u64 (.var 24) (.lit 7))=((y/128:Nat):Int):=by
    show(q2.i 24).fdiv (2 ^ (7:Int).toNat)=_;rw[g2.i 24,g1.i 24,e24];exact WK
   refine⟨⟨y/128,done++[((y%128+128:Nat):Int)],e24',?_,?_,?_,a1,a2,?_⟩,?_⟩
   .rw[ZK,<-hall,hyh];rfl
   .rw[Y9,ZC];rw[hyh,Zd]at hal;omega
   .show q2.i 22+1=_;rw[g2.i 22,g1.i 22,e22,Y9,ZC];omega
   .show cH (q2.h 31) _ (.slice (aA (q2.i 31) 0) (q2.i 22+1).toNat (q2.i 32).toNat) _;rw[g2.i 22,g1.i 22,e22];have:=hO2;unfold JX at this;rw[Y9,ZC]at this;exact this
   .show(aC q2 (.shr .u64 (.var 24) (.lit 7))).toNat<(q.i 24).toNat;rw[e24',e24];omega
  .rw[g1.h 25,g1.i 20,g1.i 22,g1.i 23];refine⟨⟨⟨_,oZ hO e22⟩,by omega,by unfold maxLen;omega,by omega⟩,fun q2 g2 ⟨a1,a2,a3,_⟩ hd=>?_⟩;rw[e24]at hlt;have hyl:ak y=[(y:Int)]:=jc (by omega);have eb:IntKind.u8.wrap (q1.i 24)=(y:Int):=by
    rw[g1.i 24,e24,PO];omega
   rw[eb]at a3;have hO2:=oY (bs2:=[(y:Int)]) (m:=1) hO e22 rfl a3;rw[<-hyl,hall]at hO2;have G:ah 8 ρ q2:=g.trans (g1.mono.tr g2);refine⟨[[0,1]],[],rfl,rfl,⟨⟨fun _=>0,fun _=>false,fun _=>.empty,fun _=>.tuple #[],fun _=>Hl.none⟩,rfl,trivial⟩,_,_,H,bs,lg,_,rfl,rfl,⟨a,x,c,F,rfl,h⟩,rfl,FH (by rw[G.i 0,v0]) a1 ?_ a2 (by rw[cn,G.b 6,b6]) hO2 hd⟩;show q2.i 22+1=((bs++ak z.toNat).length:Int);rw[g2.i 22,g1.i 22,e22,Y9];rw[hyl,ZC]at hal;omega
def oc:Sx.Spec where
 fn:=157
 own:=[.arg 0]
 rd:=[1]
 res:=[]
 pre:=fun xs Hs Rs=>∃ p u H R bs lg b2,xs=[p,u]/\Hs=[H]/\Rs=[R]/\bV H p bs lg/\fp R u b2/\bs.length<=900000/\b2.length<=90000
 post:=fun xs Hs Rs v Hs' F=>∃ p u H R bs lg b2 H',xs=[p,u]/\Hs=[H]/\Rs=[R]/\bV H p bs lg/\fp R u b2/\Hs'=[H']/\bV H' p (bs++b2) lg
def FE:Nd:=(fun a=>(.and (.pre a) (.ext a (.post [.bD 0 [.sl (.var 13) (.lit 0) (.add (.var 2) (.var 10)) (.var 14),.bool (.bvar 6)] 208,.hp 13 [7] [.var 13,.var 1] [],.ro 12 [.var 8] false] (.tup []))):Nd)) (.app 13 5 1 1 (.sl (.var 1) (.lit 0) (.var 2) (.var 3)) (.var 2) (.hp 7 [] [.var 1] []) (.seg 12 (.var 8) (.var 9) (.var 10)))
def Ts:bU Tryz.prog [] oc.fn where
 Λ:=aM
 args:=[TP (.var 0) (.lit 0),.sv (.one (.sl (.var 8) (.var 9) (.var 10) (.var 11)))]
 mem:=ir++[.ro 12 [.var 8] false]
 nv:=13
 nd:=FE
 ok:=by kernel_rfl
theorem Dd:oc.OK Tryz.prog:=by
 refine Spec.bJ (Γ:=[]) (fun _ h=>by cases h) ?_;rintro xs Hs Rs hl1 hl2 ⟨p,u,H,R,bs,lg,b2,rfl,rfl,rfl,⟨a,x,c,F,rfl,h⟩,hRd,hlen,hl2'⟩;obtain⟨x2,y2,c2,rfl,hy2,hR⟩:=id hRd;refine⟨Ts,lj a x c bs.length lg F 0 [x2,y2,b2.length,c2] R,fun _ _=>True,fun _ _=>0,?_,Jr h 0 _ R _,(fun _ h=>nomatch h),?_⟩
 .show [Value.pointer (aA (a:Int) 0),Value.slice (aA x2 y2) ((b2.length:Int)).toNat ((c2:Int)).toNat]=_;rw[gM,Y7,Y7]
 .show Nd.holds _ _ _ FE;generalize hρ:lj a x c bs.length lg F 0 [x2,y2,b2.length,c2] R=ρ;have v0:ρ.i 0=a:=by rw[<-hρ];rfl
  have v1:ρ.i 1=x:=by rw[<-hρ];rfl
  have v2:ρ.i 2=bs.length:=by rw[<-hρ];rfl
  have v3:ρ.i 3=c:=by rw[<-hρ];rfl
  have v8:ρ.i 8=x2:=by rw[<-hρ];rfl
  have v9:ρ.i 9=y2:=by rw[<-hρ];rfl
  have v10:ρ.i 10=b2.length:=by rw[<-hρ];rfl
  have b6:ρ.b 6=lg:=by rw[<-hρ];rfl
  have w7:ρ.h 7=F:=by rw[<-hρ];rfl
  have w12:ρ.h 12=R:=by rw[<-hρ];rfl
  clear hρ;unfold FE;simp only[Nd.holds,X.pre,X.rel,X.n,Src.ok,Src.len,Src.bG,Zy,Zm,ZG,Zx,Zp,Nat.reduceAdd,Zd,Zh,bn,bj,aJ,aU,aR,bm,aZ,bh,bg,bd,aV,ba,bk,aX,aW,aK,aY,ai,aj,aB,aF,aD,ar,aG,aQ,aP,aq,aI,az,aH,av,TV.ev,SV.ev,CV.ev,Zf,Zr,bx.hl];rw[v1,v2,v3,v8,v9,v10,w7,w12];obtain⟨hok,hseg⟩:=qx (R:=R) (x:=x2) (y:=y2) (l:=(b2.length:Int)) rfl hy2 hR;have hO:cH F 5 (.slice (aA x 0) ((bs.length:Int)).toNat c.toNat) bs:=h.own;refine⟨⟨⟨_,oZ hO rfl⟩,by omega,by simpa using hok,by rw[Y7,Y7];unfold maxLen;omega,by rw[Y7,Y7];omega⟩,fun q2 g2 ⟨a1,a2,a3,_⟩ hd=>?_⟩;rw[hseg]at a3;have hO2:=oY (bs2:=b2) (m:=((b2.length:Int)).toNat) hO rfl (Y7 _) a3;refine⟨[[0,1]],[],rfl,rfl,⟨⟨fun _=>0,fun _=>false,fun _=>.empty,fun _=>.tuple #[],fun _=>Hl.none⟩,rfl,trivial⟩,_,_,H,R,bs,lg,b2,_,rfl,rfl,rfl,⟨a,x,c,F,rfl,h⟩,hRd,rfl,FH (by rw[g2.i 0,v0]) a1 ?_ a2 (by rw[cn,g2.b 6,b6]) hO2 hd⟩;show q2.i 2+q2.i 10=((bs++b2).length:Int);rw[g2.i 2,g2.i 10,v2,v10,Y9];omega
def Ho (l:List Value) (bs:List Int):List Int:=bs++[if yA l[0]?=true then 1 else 0]
def QC (l:List Value) (_:List Int):Prop:=∃ b:Bool,l=[.bool b]
def qn:Sx.Spec:=Mh 199 QC Ho
def AW:Nd:=(fun a b=>(fun c d=>(.and (.imp (.bvar 5) (.ext (.alloc 8) (.and (.pre c) (.ext c a)))) (.imp (.not (.bvar 5)) (.ext (.alloc 8) (.and (.pre d) (.ext d a)))):Nd)) (.app 9 5 1 1 b (.var 2) (.hp 7 [] [.var 1] []) (.cvs [.int .u8 (.lit 1)] 1)) (.app 9 5 1 1 b (.var 2) (.hp 7 [] [.var 1] []) (.cvs [.int .u8 (.lit 0)] 1))) (.post [.bD 0 [.sl (.var 9) (.lit 0) (.add (.var 2) (.lit 1)) (.var 10),.bool (.bvar 6)] 208,.hp 9 [7] [.var 9,.var 1] [],.dead] (.tup [])) (.sl (.var 1) (.lit 0) (.var 2) (.var 3))
def Q8:bU Tryz.prog [] 199 where
 Λ:=aM
 args:=[TP (.var 0) (.lit 0),.sv (.one (.bool (.bvar 5)))]
 mem:=ir
 nv:=8
 nd:=AW
 ok:=by kernel_rfl
theorem Js {H F:Hl} {a:Nat} {x c:Int} {bs:List Int} {lg:Bool} (h:yB H a x c F bs lg) (b5:Bool):Entry {lj a x c bs.length lg F 0 [] Hl.none with b:=fun k=>if k=5 then b5 else lg} ir [H] []:=by
 obtain⟨h1,h2,h3,h4⟩:=xf h 0 [] Hl.none;refine⟨fun r hr ho=>?_,fun r hr ho=>?_,?_,fun r hr=>?_⟩
 .obtain⟨K,hK,hle⟩:=h1 r hr ho;refine⟨K,hK,?_⟩;simp only[ir,Zl,Zq,ZO]at hr;rcases hr with rfl | rfl<;>exact hle
 .simp only[ir,Zl,Zq,ZO]at hr;rcases hr with rfl | rfl<;>cases ho
 .exact h3.imp (fun {r s} hrs=>hrs) |>fun _=>by
   unfold ir at h3 ⊢;refine List.Pairwise.cons (fun r hr _ _=>?_) (List.Pairwise.cons (fun r hr=>by cases hr) List.Pairwise.nil);rw[Zn]at hr;subst hr;exact(List.pairwise_cons.1 h3).1 _ (Zn.2 rfl) rfl rfl
 .simp only[ir,Zl,Zq,ZO]at hr;rcases hr with rfl | rfl
  .show(0:Int)<=(a:Int);omega
  .trivial
theorem Jp:qn.OK Tryz.prog:=by
 refine Spec.bJ (Γ:=[]) (fun _ h=>by cases h) ?_;rintro xs Hs Rs hl1 hl2 ⟨p,zv,H,bs,lg,rfl,rfl,⟨a,x,c,F,rfl,h⟩,⟨b,hb⟩,hlen⟩;have hb:zv=.bool b:=by simpa using hb
 subst hb;have e1:Rs=[]:=Za.1 hl2;subst e1;refine⟨Q8,{lj a x c bs.length lg F 0 [] Hl.none with b:=fun k=>if k=5 then b else lg},fun _ _=>True,fun _ _=>0,?_,Js h b,(fun _ h=>nomatch h),?_⟩
 .show [Value.pointer (aA (a:Int) 0),Value.bool b]=_;rw[gM]
 .show Nd.holds _ _ _ AW;generalize hρ:({lj a x c bs.length lg F 0 [] Hl.none with b:=fun k=>if k=5 then b else lg} : Env)=ρ;have v0:ρ.i 0=a:=by rw[<-hρ];rfl
  have v1:ρ.i 1=x:=by rw[<-hρ];rfl
  have v2:ρ.i 2=bs.length:=by rw[<-hρ];rfl
  have v3:ρ.i 3=c:=by rw[<-hρ];rfl
  have b5:ρ.b 5=b:=by rw[<-hρ];rfl
  have b6:ρ.b 6=lg:=by rw[<-hρ];rfl
  have w7:ρ.h 7=F:=by rw[<-hρ];rfl
  clear hρ;have hO:cH F 5 (.slice (aA x 0) ((bs.length:Int)).toNat c.toNat) bs:=h.own;have fin:∀ (q2:Env) (z:Int) (t:Mem),ah 8 ρ q2-> -1<=q2.i 9->0<=q2.i 10->(if b=true then(1:Int)else 0)=z->(∀ xs,bE F 5 1 (.slice (aA x 0) ((bs.length:Int)).toNat c.toNat) ((bs.length:Int)).toNat xs->bE (q2.h 9) 5 1 (.slice (aA (q2.i 9) 0) (((bs.length:Int)).toNat+1) (q2.i 10).toNat) (((bs.length:Int)).toNat+1) (xs++bK [z])) ->
   postOf qn [.pointer (some ⟨a,0,none⟩),.bool b] [H] [] q2 (.bD 0 [.sl (.var 9) (.lit 0) (.add (.var 2) (.lit 1)) (.var 10),.bool (.bvar 6)] 208::.hp 9 [7] [.var 9,.var 1] []::t) (.tup []):=by
   intro q2 z t G a1 a2 hz a3 hd;have hO2:=oY (bs2:=[z]) (m:=1) hO rfl rfl a3;refine⟨[[0,1]],[],rfl,rfl,⟨⟨fun _=>0,fun _=>false,fun _=>.empty,fun _=>.tuple #[],fun _=>Hl.none⟩,rfl,trivial⟩,_,_,H,bs,lg,_,rfl,rfl,⟨a,x,c,F,rfl,h⟩,rfl,?_⟩;have ea:Ho [Value.bool b] bs=bs++[z]:=by rw[<-hz];rfl
   rw[ea];refine FH (by rw[G.i 0,v0]) a1 ?_ a2 (by rw[cn,G.b 6,b6]) hO2 hd;show q2.i 2+1=((bs++[z]).length:Int);rw[G.i 2,v2,Y9,ZC];omega
  unfold AW;simp only[Nd.holds,X.pre,X.rel,X.n,Src.ok,Src.len,Src.bG,Zy,Zm,ZG,Zx,Zp,Nat.reduceAdd,Zd,Zh,bn,bj,aJ,aU,aR,bm,aZ,bh,bg,bd,aV,ba,bk,aX,aW,aK,aY,ai,aj,aB,aF,aD,ar,aG,aQ,aP,aq,aI,az,aH,av,TV.ev,SV.ev,CV.ev,Zf,Zr,bx.hl];rw[b5];refine⟨fun hb q1 g1 _=>?_,fun hb q1 g1 _=>?_⟩
  all_goals
   rw[g1.i 1,g1.i 2,g1.i 3,g1.h 7,v1,v2,v3,w7];refine⟨⟨⟨_,oZ hO rfl⟩,by omega,by rw[Y7];unfold maxLen;omega,by rw[Y7];omega⟩,fun q2 g2 ⟨a1,a2,a3,_⟩=>?_⟩
  .exact fin q2 1 _ (g1.tr g2) a1 a2 (ZA hb) a3
  .exact fin q2 0 _ (g1.tr g2) a1 a2 (Zo hb) a3
def bq (b:List Int):List Int:=ak b.length++b
def iT (bs:List Int) (lg:Bool) (b2:List Int):List Int×Bool:=if 4096<b2.length then(bs,true)else(bs++bq b2,lg)
def mY:Sx.Spec where
 fn:=127
 own:=[.arg 0]
 rd:=[1]
 res:=[]
 pre:=fun xs Hs Rs=>∃ p u H R bs lg b2,xs=[p,u]/\Hs=[H]/\Rs=[R]/\bV H p bs lg/\fp R u b2/\bs.length<=800000/\0<=b2.length
 post:=fun xs Hs Rs v Hs' F=>∃ p u H R bs lg b2 H',xs=[p,u]/\Hs=[H]/\Rs=[R]/\bV H p bs lg/\fp R u b2/\Hs'=[H']/\bV H' p (iT bs lg b2).1 (iT bs lg b2).2
def AX:Nd:=(fun d f c=>(fun a b=>(.and (.e (.le (.lit 0) d)) (.and (.imp (.lt (.lit 4096) d) (.and (.e (.le (.lit 0) (.var 0))) (.and (.pre c) (.ext c (.post [.hp 13 [1] [.var 0] [],.ro 12 [.var 8] false] (.tup [])))))) (.imp (.not (.lt (.lit 4096) d)) (.and (.pre b) (.ext b (.and (.pre a) (.ext a (.post [.hp 15 [13,1] [.var 0] [],.ro 12 [.var 8] false] (.tup [])))))))):Nd)) (.call 1 15 [.sv f,.sv (.one (.sl (.var 8) (.var 9) d (.var 11)))] [.hp 13 [1] [.var 0] []] [.ro 12 [.var 8] false]) (.call 0 13 [.sv f,.sv (.one (.int .u64 (.wrap .u64 d)))] [.hp 1 [] [.var 0] []] [])) (.var 10) (.one (.hptr (.var 0) (.lit 0))) (.put 13 1 (.var 0) (.lit 1) [.bool .tt])
def oΓ:List Sx.Spec:=[rE,oc,eX]
theorem Pz:∀ t∈oΓ,t.OK Tryz.prog:=fun t ht=>by
 simp only[oΓ,Zl,Zq,ZO]at ht;rcases ht with rfl | rfl | rfl
 .exact Dc
 .exact Dd
 .exact jQ
theorem VE:oΓ[0]?=some rE:=rfl
theorem VF:oΓ[1]?=some oc:=rfl
theorem VG:oΓ[2]?=some eX:=rfl
theorem VH:rE.res=[]:=rfl
theorem VI:oc.res=[]:=rfl
def wZ:bU Tryz.prog oΓ mY.fn where
 Λ:=aM
 args:=[TP (.var 0) (.lit 0),.sv (.one (.sl (.var 8) (.var 9) (.var 10) (.var 11)))]
 mem:=[.hp 1 [] [.var 0] [],.ro 12 [.var 8] false]
 nv:=13
 nd:=AX
 ok:=by kernel_rfl
theorem bV.OW {H:Hl} {a:Nat} {bs:List Int} {lg:Bool} (h:bV H (.pointer (some ⟨a,0,none⟩)) bs lg):H.wr a 1 1=true/\bV (H.put a 1 [.bool true]) (.pointer (some ⟨a,0,none⟩)) bs true:=by
 obtain⟨a',x,c,F,e,h⟩:=h;simp only[Value.pointer.injEq,Zj,Addr.mk.injEq,Zm]at e;subst e;obtain⟨l1,_⟩:=h.le;have e:=l1 a _ (Hl.bF _ _);refine⟨by unfold Hl.wr;rw[e];rfl,a,x,c,F,rfl,h.rx,h.rc,h.own,h.na,?_⟩;rw[h.hl]
 funext k
 unfold Hl.put;by_cases hk:k=a
 .subst hk;rw[ZA rfl];have e2:dC [rI k x c bs.length lg,F] k=some (.cells #[JX x bs.length c,.bool lg] 208 (0,0)):=by rw[<-h.hl];exact e
  have e3:dC [rI k x c bs.length true,F] k=some (.cells #[JX x bs.length c,.bool true] 208 (0,0)):=Hl.yf (Hl.bF _ _);rw[e2];exact e3.symm
 .rw[Zo hk];have n1:∀ g:Bool,¬(rI a x c bs.length g).mem k:=fun g hm=>hk (Hl.dH.1 hm);show((rI a x c bs.length lg).un _) k=((rI a x c bs.length true).un _) k;rw[Hl.oH (n1 _),Hl.oH (n1 _)]
theorem AZ {f:FuncId} {ok:List Value->List Int->Prop} {act:List Value->List Int->List Int} {p z v:Value} {H F:Hl} {K Rs:List Hl} {bs:List Int} {lg:Bool} (h:bV H p bs lg) (hp:(Mh f ok act).post [p,z] [H] Rs v K F):∃ H',K=[H']/\bV H' p (act [z] bs) lg:=by
 obtain⟨p',z',Hx,bs',lg',H',hx,hH,hO,hK,hO'⟩:=hp;have hx:p=p'/\z=z':=by simpa using hx
 obtain⟨e1,e2⟩:=hx;have hH:H=Hx:=by simpa using hH
 subst e1 e2 hH;obtain⟨e1,e2⟩:=h.uniq hO;subst e1 e2;exact⟨H',hK,hO'⟩
theorem Dw {p u v:Value} {H R F:Hl} {K:List Hl} {bs b2:List Int} {lg:Bool} (h:bV H p bs lg) (h2:fp R u b2) (hp:oc.post [p,u] [H] [R] v K F):∃ H',K=[H']/\bV H' p (bs++b2) lg:=by
 obtain⟨p',z',Hx,Rx,bs',lg',b2',H',hx,hH,hR,hO,hB,hK,hO'⟩:=hp;have hx:p=p'/\u=z':=by simpa using hx
 obtain⟨e1,e2⟩:=hx;have hH:H=Hx:=by simpa using hH
 have hR:R=Rx:=by simpa using hR
 subst e1 e2 hH hR;obtain⟨e1,e2⟩:=h.uniq hO;subst e1 e2;have e:=h2.uniq hB;subst e;exact⟨H',hK,hO'⟩
theorem zj:mY.OK Tryz.prog:=by
 refine Spec.bJ (Γ:=oΓ) Pz ?_;rintro xs Hs Rs hl1 hl2 ⟨p,u,H,R,bs,lg,b2,rfl,rfl,rfl,h,hRd,hlen,hl2'⟩;obtain⟨a,_,_,rfl,_⟩:=h.whole;obtain⟨x2,y2,c2,rfl,hy2,hR⟩:=id hRd;refine⟨wZ,bw [(a:Int),0,0,0,0,0,0,0,x2,y2,b2.length,c2] false [Hl.none,H,Hl.none,Hl.none,Hl.none,Hl.none,Hl.none,Hl.none,Hl.none,Hl.none,Hl.none,Hl.none,R],fun _ _=>True,fun _ _=>0,?_,⟨?_,?_,?_,?_⟩,(fun _ h=>nomatch h),?_⟩
 .show [Value.pointer (aA (a:Int) 0),Value.slice (aA x2 y2) ((b2.length:Int)).toNat ((c2:Int)).toNat]=_;rw[gM,Y7,Y7]
 .intro r hr ho;simp [wZ]at hr;rcases hr with rfl | rfl
  .exact⟨H,by simp,Hl.le_refl _⟩
  .cases ho
 .intro r hr ho;simp [wZ]at hr;rcases hr with rfl | rfl
  .cases ho
  .exact⟨R,by simp,Hl.le_refl _⟩
 .simp [wZ,bx.own]
 .intro r hr;simp [wZ]at hr;rcases hr with rfl | rfl<;>trivial
 .show Nd.holds _ _ _ AX;generalize hρ:bw [(a:Int),0,0,0,0,0,0,0,x2,y2,b2.length,c2] false [Hl.none,H,Hl.none,Hl.none,Hl.none,Hl.none,Hl.none,Hl.none,Hl.none,Hl.none,Hl.none,Hl.none,R]=ρ;have v0:ρ.i 0=a:=by rw[<-hρ];rfl
  have v8:ρ.i 8=x2:=by rw[<-hρ];rfl
  have v9:ρ.i 9=y2:=by rw[<-hρ];rfl
  have v10:ρ.i 10=b2.length:=by rw[<-hρ];rfl
  have v11:ρ.i 11=c2:=by rw[<-hρ];rfl
  have w1:ρ.h 1=H:=by rw[<-hρ];rfl
  have w12:ρ.h 12=R:=by rw[<-hρ];rfl
  clear hρ;have out:∀ (q:Env) (k:Nat) (vs:List Nat) (t:Mem) (r:List Int×Bool),iT bs lg b2=r->bV (q.h k) (.pointer (some ⟨a,0,none⟩)) r.1 r.2->postOf mY [.pointer (some ⟨a,0,none⟩),.slice (aA x2 y2) b2.length c2] [H] [R] q (.hp k vs [.var 0] []::t) (.tup []):=by
   intro q k vs t r hr ho _;refine⟨[[0]],[],rfl,rfl,⟨⟨fun _=>0,fun _=>false,fun _=>.empty,fun _=>.tuple #[],fun _=>Hl.none⟩,rfl,trivial⟩,_,_,H,R,bs,lg,b2,_,rfl,rfl,rfl,h,hRd,rfl,?_⟩;rw[hr];show bV (dC [q.h k]) _ _ _;rw[bz];exact ho
  have tn1:Int.toNat 1=1:=rfl;unfold AX;simp only[Nd.holds,X.pre,X.rel,X.n,Src.ok,Src.len,Src.bG,Zy,Zm,ZG,Zx,Zp,Nat.reduceAdd,Zd,Zh,bn,bj,aJ,aU,aR,bm,aZ,bh,bg,bd,aV,ba,bk,aX,aW,aK,aY,ai,aj,aB,aF,aD,ar,aG,aQ,aP,aq,aI,az,aH,av,TV.ev,SV.ev,CV.ev,Zf,Zr,bx.hl,cu,Cp.sv,Ck.cv,bf,Cp.len,Ck.len,aE,aN,aT,VE,VF,VH,VI,tn1];rw[v10,v0,w1,Y7];obtain⟨hw,hset⟩:=h.OW;refine⟨by omega,fun hgt=>⟨by omega,⟨by omega,by omega,hw⟩,fun q g h13=>?_⟩,fun hle=>?_⟩
  .refine out q 13 _ _ (bs,true) (by unfold iT;rw[ZA (by omega)]) ?_;rw[h13];exact hset
  .have hu:IntKind.u64.wrap ((b2.length:Nat):Int)=b2.length:=nD (by omega) (by omega);rw[hu,gM];refine⟨⟨_,_,H,bs,lg,rfl,rfl,h,⟨_,rfl,by omega,by omega⟩,by omega⟩,fun q g ⟨F1,hp,_,_⟩=>?_⟩;obtain⟨H1,hK1,hO1⟩:=AZ h hp;have hK1:q.h 13=H1:=by simpa using hK1
   rw[<-hK1]at hO1;have eN:Fv [Value.int .u64 ((b2.length:Nat):Int)] bs=bs++ak b2.length:=by
    unfold Fv;show bs++ak (((b2.length:Nat):Int)).toNat=_;rw[Y7]
   rw[eN]at hO1;have hnb:=ma (z:=b2.length) (by omega);rw[g.i 0,v0,g.i 8,v8,g.i 9,v9,g.i 10,v10,g.i 11,v11,g.h 12,w12,gM,Y7,Y7];refine⟨⟨_,_,_,R,_,lg,b2,rfl,rfl,rfl,hO1,hRd,by rw[Y9];omega,by omega⟩,fun q2 g2 ⟨F2,hp2,_,_⟩=>?_⟩;obtain⟨H2,hK2,hO2⟩:=Dw hO1 hRd hp2;have hK2:q2.h 15=H2:=by simpa using hK2
   refine out q2 15 _ _ (bs++bq b2,lg) (by unfold iT;rw[Zo (by omega)]) ?_;rw[hK2];unfold bq;rw[<-ZK];exact hO2
def pw (bs:List Int) (lg:Bool):List Int×Int:=if lg=true\/16384<bs.length then([],3)else(bs,0)
def mc:Sx.Spec where
 fn:=128
 own:=[]
 rd:=[0]
 res:=[.one .sl,.one (.int .i64)]
 pre:=fun xs Hs Rs=>∃ p R bs lg,xs=[p]/\Rs=[R]/\bV R p bs lg/\bs.length<=1000000
 post:=fun xs Hs Rs v Hs' F=>∃ p R bs lg u,xs=[p]/\Rs=[R]/\bV R p bs lg/\v=.tuple #[u,.int .i64 (pw bs lg).2]/\cH F 5 u (pw bs lg).1
def FC:Nd:=(fun c d=>(fun g f=>(fun a b=>(.and (.e (.le c d)) (.and (.e (.his 2 d (.lit 1) 0 .bool)) (.and (.imp (.not (.hB 2 d (.lit 1) 0)) (.and (.e (.his 2 d c 0 .slice)) (.and (.e (.le c f)) (.and (.imp (.lt (.lit 16384) f) b) (.imp (.not (.lt (.lit 16384) f)) (.and (.pre a) (.ext a (.post [.ro 1 g false,.ro 2 [.var 0] false,.hp 3 [] [.var 3] []] (.tup [.one (.sl (.var 3) (.var 4) (.var 5) (.var 6)),.one (.int .i64 c)]))))))))) (.imp (.hB 2 d (.lit 1) 0) b))):Nd)) (.call 2 3 [.sv (.one (.sl (.hP 2 d c 0 0) (.hP 2 d c 0 1) f (.hP 2 d c 0 3)))] [] [.ro 1 g false]) (.post [.ro 1 g false,.ro 2 [.var 0] false] (.tup [.one (.sl (.lit (-1)) c c c),.one (.int .i64 (.lit 3))]))) [.hP 2 d c 0 0] (.hP 2 d c 0 2)) (.lit 0) (.var 0)
def C9:bU Tryz.prog oΓ mc.fn where
 Λ:=aM
 args:=[TP (.var 0) (.lit 0)]
 mem:=[.ro 1 [.hP 2 (.var 0) (.lit 0) 0 0] false,.ro 2 [.var 0] false]
 nv:=3
 nd:=FC
 ok:=by kernel_rfl
theorem VJ:eX.res=[.one .sl]:=rfl
theorem YW {x y:Int} (hx:-1<=x) (n c:Nat):bM (some (.slice (aA x y) n c)) 3=c:=by
 rcases aal x 0 with h | h
 .obtain rfl:x= -1:=by omega
  rfl
 .rw[au h];rfl
theorem WL {x:Int} (hx:-1<=x) (n c:Nat):bM (some (.slice (aA x 0) n c)) 1=0:=by
 rcases aal x 0 with h | h
 .obtain rfl:x= -1:=by omega
  rfl
 .rw[au h];rfl
theorem wY:mc.OK Tryz.prog:=by
 refine Spec.bJ (Γ:=oΓ) Pz ?_;rintro xs Hs Rs hl1 hl2 ⟨p,R,bs,lg,rfl,rfl,h,hlen⟩;have e0:Hs=[]:=Za.1 hl1;subst e0;obtain⟨a,x,c,rfl,hx,hc,hc0,hc1,hR⟩:=h.whole;unfold JX at hc0 hR;rw[Y7]at hc0 hR;refine⟨C9,bw [(a:Int)] false [Hl.none,R,R],fun _ _=>True,fun _ _=>0,?_,⟨?_,?_,?_,?_⟩,(fun _ h=>nomatch h),?_⟩
 .show [Value.pointer (aA (a:Int) 0)]=_;rw[gM]
 .intro r hr ho;simp [C9]at hr;rcases hr with rfl | rfl<;>cases ho
 .intro r hr ho;simp [C9]at hr;rcases hr with rfl | rfl<;>exact⟨R,by simp,Hl.le_refl _⟩
 .simp [C9,bx.own]
 .intro r hr;simp [C9]at hr;rcases hr with rfl | rfl<;>trivial
 .show Nd.holds _ _ _ FC;generalize hρ:bw [(a:Int)] false [Hl.none,R,R]=ρ;have v0:ρ.i 0=a:=by rw[<-hρ];rfl
  have w1:ρ.h 1=R:=by rw[<-hρ];rfl
  have w2:ρ.h 2=R:=by rw[<-hρ];rfl
  clear hρ;have fail:∀ (mem:Mem),lg=true\/16384<bs.length->postOf mc [.pointer (some ⟨a,0,none⟩)] [] [R] ρ mem (.tup [.one (.sl (.lit (-1)) (.lit 0) (.lit 0) (.lit 0)),.one (.int .i64 (.lit 3))]):=by
   intro mem hf _;have hs:pw bs lg=([],3):=by unfold pw;rw[ZA hf]
   refine⟨[],[],rfl,rfl,⟨⟨fun k=>if k=0 then -1 else if k=4 then 3 else 0,fun _=>false,fun _=>.empty,fun _=>.tuple #[],fun _=>Hl.none⟩,rfl,⟨Zw _,Zw _,Zw _,Zw _⟩,trivial,trivial⟩,_,R,bs,lg,.slice none 0 0,rfl,rfl,h,?_,?_⟩
   .rw[hs];rfl
   .rw[hs];exact rJ _ _
  have tn0:Int.toNat 0=0:=rfl;have tn1:Int.toNat 1=1:=rfl;unfold FC;simp only[Nd.holds,X.pre,X.rel,X.n,Src.ok,Src.len,Src.bG,Zy,Zm,ZG,Zx,Zp,Nat.reduceAdd,Zd,Zh,bn,bj,aJ,aU,aR,bm,aZ,bh,bg,bd,aV,ba,bk,aX,aW,aK,aY,ai,aj,aB,aF,aD,ar,aG,aQ,aP,aq,aI,az,aH,av,TV.ev,SV.ev,CV.ev,Zf,Zr,bx.hl,cu,Cp.sv,Ck.cv,bf,Cp.len,Ck.len,aE,aN,aT,VG,VJ,Vf,tn0,tn1];rw[v0,w2,w1,Y7,hc0,hc1,RJ hx,Sn hx,WL hx,YW hx];refine⟨by omega,rfl,fun hb=>⟨rfl,by omega,fun hlt=>fail _ (Or.inr (by omega)),fun hge=>?_⟩,fun hb=>fail _ (Or.inl hb)⟩;have hb:lg=false:=aaO.2 hb;rw[Y7,Y7];have hW:=hR.w;refine⟨⟨_,bs,R,rfl,rfl,hW,hlen⟩,fun q g ⟨F1,hp,hF,hnm⟩ _=>?_⟩;have hO:=pZ hW hp;rw[<-hF trivial]at hO;have hs:pw bs lg=(bs,0):=by
   unfold pw;have:¬(lg=true\/16384<bs.length):=by
    rintro(e | e)
    .rw[hb]at e;cases e
    .omega
   rw[Zo this]
  refine⟨[],[2],rfl,rfl,⟨⟨fun k=>if k=4 then 0 else q.i (3+k),fun _=>false,fun _=>.empty,fun _=>.tuple #[],fun _=>Hl.none⟩,rfl,hnm.1,trivial,trivial⟩,_,R,bs,lg,_,rfl,rfl,h,by rw[hs];rfl,?_⟩;rw[hs];show cH (dC [q.h 3]) _ _ _;rw[bz];exact hO
def xE:Sx.Spec where
 fn:=85
 own:=[]
 rd:=[]
 res:=[.one .sl]
 pre:=fun xs Hs Rs=>∃ z:Int,xs=[.int .u64 z]/\0<=z/\z<18446744073709551616
 post:=fun xs Hs Rs v Hs' F=>∃ z:Int,xs=[.int .u64 z]/\cH F 5 v (ak z.toNat)
def FY:Nd:=(fun e f c=>(fun d=>(fun a b=>(.and (.inv 0 [⟨24,0,.int .i64 (.var 0)⟩,⟨20,0,.int .i64 (.lit (-1))⟩,⟨22,0,.int .i64 e⟩,⟨23,0,.int .i64 e⟩] [(25,none)]) (.havoc 0 0 1 (.and (.imp (.lt e c) (.ext (.alloc 30) (.and (.pre a) (.ext a (.back 0 0 [⟨24,0,.int .i64 c⟩,⟨20,0,.int .i64 (.var 31)⟩,⟨22,0,.int .i64 (.add f (.lit 1))⟩,⟨23,0,.int .i64 (.var 32)⟩] [(25,some 31)]))))) (.imp (.not (.lt e c)) (.ext (.alloc 30) (.and (.pre b) (.ext b (.post [.hp 31 [25] [.var 31,.var 20] [],.dead] (.sv (.one (.sl (.var 31) e (.add f (.lit 1)) (.var 32))))))))))):Nd)) (.app 31 5 1 1 d f (.hp 25 [] [.var 20] []) (.cvs [.int .u8 (.wrap .u8 (.wrap .u64 (.add (.rem (.var 24) (.lit 128)) (.lit 128))))] 1)) (.app 31 5 1 1 d f (.hp 25 [] [.var 20] []) (.cvs [.int .u8 (.wrap .u8 (.var 24))] 1))) (.sl (.var 20) e f (.var 23))) (.lit 0) (.var 22) (.wrap .u64 (.quo (.var 24) (.lit 128)))
def TF:bU Tryz.prog [] xE.fn where
 Λ:=fun p=>if LL p then some ⟨0,[(3,.sv (.one (.sl (.var 20) (.lit 0) (.var 22) (.var 23)))),(0,TI .u64 (.var 24))],[(0,.hp 25 [] [.var 20] [])],30⟩else none
 args:=[TI .u64 (.var 0)]
 mem:=[]
 nv:=1
 nd:=FY
 ok:=by kernel_rfl
theorem Mq (y:Nat) (h:y<18446744073709551616):IntKind.u64.wrap ((y:Int).tdiv 128)=((y/128:Nat):Int):=by
 rw[aaH (by omega),nD (by omega) (by omega)];omega
theorem Rk (y:Nat):IntKind.u8.wrap (IntKind.u64.wrap ((y:Int).tmod 128+128))=((y%128+128:Nat):Int):=by
 rw[aai (by omega),nD (by omega) (by omega),PO];omega
def OQ (all:List Int) (k:Nat) (q:Env):Prop:=HQ all 10 k q/\q.i 24<18446744073709551616
theorem MG:xE.OK Tryz.prog:=by
 refine Spec.bJ (Γ:=[]) (fun _ h=>by cases h) ?_;rintro xs Hs Rs hl1 hl2 ⟨z,rfl,hz0,hz1⟩;have e0:Hs=[]:=Za.1 hl1;have e1:Rs=[]:=Za.1 hl2;subst e0 e1;have hnb:=ma (z:=z.toNat) (by omega);refine⟨TF,bw [z] false [],OQ (ak z.toNat),fun _ q=>(q.i 24).toNat,rfl,⟨fun r hr=>(by cases hr),fun r hr=>(by cases hr),List.Pairwise.nil,fun r hr=>(by cases hr)⟩,(fun _ h=>nomatch h),?_⟩;show Nd.holds _ _ _ FY;generalize hρ:bw [z] false []=ρ;have v0:ρ.i 0=z:=by rw[<-hρ];rfl
 clear hρ;unfold FY;simp only[Nd.holds,X.pre,X.rel,X.n,Src.ok,Src.len,Src.bG,Zy,Zm,ZG,Zx,Zp,Nat.reduceAdd,Zd,Zh,bn,bj,aJ,aU,aR,bm,aZ,bh,bg,bd,aV,ba,bk,aX,aW,aK,aY,ai,aj,aB,aF,aD,ar,aG,aQ,aP,aq,aI,az,aH,av,TV.ev,SV.ev,CV.ev,Zf,Zr,bx.hl,Hy,AJ];refine⟨⟨⟨z.toNat,[],?_,rfl,aam _,rfl,Zw _,Zw _,⟨rfl,Or.inl ⟨rfl,rfl⟩⟩⟩,?_⟩,fun q g ⟨⟨y,done,e24,hall,hdl,e22,r20,r23,hO⟩,hlt24⟩=>?_⟩
 .show ρ.i 0=_;rw[v0];omega
 .show ρ.i 0<_;rw[v0];exact hz1
 have hal:=ZW List.length hall;rw[Y9]at hal;have hy64:y<18446744073709551616:=by omega
 rw[e24,Mq y hy64];refine⟨fun hge q1 g1 _=>?_,fun hlt q1 g1 _=>?_⟩
 .rw[g1.h 25,g1.i 20,g1.i 22,g1.i 23,g1.i 24,e24,Rk];refine⟨⟨⟨_,oZ hO e22⟩,by omega,by unfold maxLen;omega,by omega⟩,fun q2 g2 ⟨a1,a2,a3,_⟩=>?_⟩;have hyh:ak y=((y%128+128:Nat):Int)::ak (y/128):=iK (by omega);have hO2:=oY (bs2:=[((y%128+128:Nat):Int)]) (m:=1) hO e22 rfl a3;have e24':IntKind.u64.wrap ((q2.i 24).tdiv 128)=((y/128:Nat):Int):=by
   rw[g2.i 24,g1.i 24,e24];exact Mq y hy64
  refine⟨⟨⟨y/128,done++[((y%128+128:Nat):Int)],e24',?_,?_,?_,a1,a2,?_⟩,?_⟩,?_⟩
  .rw[ZK,<-hall,hyh];rfl
  .rw[Y9,ZC];rw[hyh,Zd]at hal;omega
  .show q2.i 22+1=_;rw[g2.i 22,g1.i 22,e22,Y9,ZC];omega
  .show cH (q2.h 31) _ (.slice (aA (q2.i 31) 0) (q2.i 22+1).toNat (q2.i 32).toNat) _;rw[g2.i 22,g1.i 22,e22];have:=hO2;unfold JX at this;rw[Y9,ZC]at this;exact this
  .show IntKind.u64.wrap ((q2.i 24).tdiv 128)<_;rw[e24'];omega
  .show(IntKind.u64.wrap ((q2.i 24).tdiv 128)).toNat<_;rw[e24'];omega
 .rw[g1.h 25,g1.i 20,g1.i 22,g1.i 23];refine⟨⟨⟨_,oZ hO e22⟩,by omega,by unfold maxLen;omega,by omega⟩,fun q2 g2 ⟨a1,a2,a3,_⟩ hd=>?_⟩;have hyl:ak y=[(y:Int)]:=jc (by omega);have eb:IntKind.u8.wrap (q1.i 24)=(y:Int):=by
   rw[g1.i 24,e24,PO];omega
  rw[eb]at a3;have hO2:=oY (bs2:=[(y:Int)]) (m:=1) hO e22 rfl a3;rw[<-hyl,hall]at hO2;have e22':q2.i 22+1=((ak z.toNat).length:Int):=by
   rw[g2.i 22,g1.i 22,e22];rw[hyl,ZC]at hal;omega
  refine⟨[],[0],rfl,rfl,⟨⟨fun k=>[q2.i 31,0,q2.i 22+1,q2.i 32].getD k 0,fun _=>false,fun _=>.empty,fun _=>.tuple #[],fun _=>Hl.none⟩,rfl,⟨a1,Zw _,by show 0<=q2.i 22+1;omega,a2⟩,trivial⟩,z,rfl,?_⟩;show cH (dC [q2.h 31]) _ (.slice (aA (q2.i 31) 0) (q2.i 22+1).toNat (q2.i 32).toNat) _;rw[bz,e22'];exact hO2
open Go.Proofs.YtomdimlnggpgbaaGreatDoor.D hiding bw aM gC
def mD:Sx.Spec where
 fn:=55
 own:=[]
 rd:=[0]
 res:=[.one .sl]
 pre:=fun xs Hs Rs=>∃ u bs R,xs=[u]/\Rs=[R]/\fp R u bs/\bs.length<=1000000
 post:=fun xs Hs Rs v Hs' F=>∃ u bs R,xs=[u]/\Rs=[R]/\fp R u bs/\cH F 5 v bs
def vq:Nd:=(fun b c=>(fun a=>(.and (.imp c (.post [.ro 4 [.var 0] false] (.sv (.one (.sl (.lit (-1)) b b b))))) (.imp (.not c) (.ext (.alloc 5) (.and (.pre a) (.ext a (.post [.ro 4 [.var 0] false,.hp 6 [] [.var 6,.var 5] []] (.sv (.one (.sl (.var 6) b (.var 2) (.var 7))))))))):Nd)) (.app 6 5 1 1 (.sl (.var 5) b b b) b (.bD 5 [] 5) (.seg 4 (.var 0) (.var 1) (.var 2)))) (.lit 0) (.eq (.var 0) (.lit (-1)))
def qU:bU Tryz.prog [] mD.fn where
 Λ:=aM
 args:=[.sv (.one (.sl (.var 0) (.var 1) (.var 2) (.var 3)))]
 mem:=[.ro 4 [.var 0] false]
 nv:=5
 nd:=vq
 ok:=by kernel_rfl
theorem vu:mD.OK Tryz.prog:=by
 refine Spec.bJ (Γ:=[]) (fun _ h=>by cases h) ?_;rintro xs Hs Rs hl1 hl2 ⟨u,bs,R,rfl,rfl,hRd,hlen⟩;have e0:Hs=[]:=Za.1 hl1;subst e0;obtain⟨x,y,c,rfl,hy,hR⟩:=id hRd;refine⟨qU,bw [x,y,bs.length,c] false [Hl.none,Hl.none,Hl.none,Hl.none,R],fun _ _=>True,fun _ _=>0,?_,⟨?_,?_,?_,?_⟩,(fun _ h=>nomatch h),?_⟩
 .show [Value.slice (aA x y) ((bs.length:Int)).toNat ((c:Int)).toNat]=_;rw[Y7,Y7]
 .intro r hr ho;simp [qU]at hr;subst hr;cases ho
 .intro r hr ho;simp [qU]at hr;subst hr;exact⟨R,by simp,Hl.le_refl _⟩
 .simp [qU]
 .intro r hr;simp [qU]at hr;subst hr;trivial
 .show Nd.holds _ _ _ vq;generalize hρ:bw [x,y,bs.length,c] false [Hl.none,Hl.none,Hl.none,Hl.none,R]=ρ;have v0:ρ.i 0=x:=by rw[<-hρ];rfl
  have v1:ρ.i 1=y:=by rw[<-hρ];rfl
  have v2:ρ.i 2=bs.length:=by rw[<-hρ];rfl
  have w4:ρ.h 4=R:=by rw[<-hρ];rfl
  clear hρ;unfold vq;simp only[Nd.holds,X.pre,X.rel,X.n,Src.ok,Src.len,Src.bG,Zy,Zm,ZG,Zx,Zp,Nat.reduceAdd,Zd,Zh,bn,bj,aJ,aU,aR,bm,aZ,bh,bg,bd,aV,ba,bk,aX,aW,aK,aY,ai,aj,aB,aF,aD,ar,aG,aQ,aP,aq,aI,az,aH,av,TV.ev,SV.ev,CV.ev,Zf,Zr,bx.hl];refine⟨fun hx _=>?_,fun hx q1 g1 p5=>?_⟩
  .have hnil:bs=[]:=by
    rcases hR with h | ⟨h,_⟩
    .exact h
    .omega
   refine⟨[],[],rfl,rfl,⟨⟨fun k=>if k=0 then -1 else 0,fun _=>false,fun _=>.empty,fun _=>.tuple #[],fun _=>Hl.none⟩,rfl,⟨Zw _,Zw _,Zw _,Zw _⟩,trivial⟩,_,bs,R,rfl,rfl,hRd,?_⟩;rw[hnil];exact⟨rfl,Or.inl ⟨rfl,rfl⟩⟩
  .obtain⟨hok,hseg⟩:=qx (R:=R) (x:=x) (y:=y) (l:=(bs.length:Int)) rfl hy hR;have ho0:=Di (Hl.one (q1.i 5).toNat (.cells #[] 5 (0,0))) p5 rfl;rw[g1.i 0,g1.i 1,g1.i 2,g1.h 4,v0,v1,v2,w4];refine⟨⟨⟨_,ho0⟩,Zw _,by simpa using hok,by rw[Y7];unfold maxLen;simp;omega,by rw[Y7];simp;omega⟩,fun q2 g2 ⟨a1,a2,a3,_⟩=>fun _=>?_⟩;have hx2:=a3 _ ho0;rw[hseg,aax]at hx2;refine⟨[],[1],rfl,rfl,⟨⟨fun k=>[q2.i 6,0,q2.i 2,q2.i 7].getD k 0,fun _=>false,fun _=>.empty,fun _=>.tuple #[],fun _=>Hl.none⟩,rfl,⟨a1,Zw _,?_,a2⟩,trivial⟩,_,bs,R,rfl,rfl,hRd,?_⟩
   .show 0<=q2.i 2;rw[g2.i 2,g1.i 2,v2];omega
   .show cH (dC [q2.h 6]) _ (.slice (aA (q2.i 6) 0) (q2.i 2).toNat (q2.i 7).toNat) bs;rw[bz,g2.i 2,g1.i 2,v2];unfold cH;rw[Y7];simpa using hx2
def DL:Sx.Spec where
 fn:=79
 own:=[]
 rd:=[0]
 res:=[.one (.int .u64)]
 pre:=fun xs Hs Rs=>∃ u bs R,xs=[u]/\Rs=[R]/\fp R u bs/\bs.length<=1000
 post:=fun xs Hs Rs v Hs' F=>∃ u bs R,xs=[u]/\Rs=[R]/\fp R u bs/\v=.int .u64 (fk bs)
def Gi:Nd:=(fun a b=>(.and (.e (.le b (.var 2))) (.and (.inv 0 [⟨10,0,.int .i64 b⟩,⟨11,0,.int .i64 b⟩] []) (.havoc 0 0 5 (.and (.imp (.lt a (.var 2)) (.and (.e (.le b (.var 0))) (.and (.e (.le b (.var 1))) (.and (.e (.le b a)) (.and (.e (.his 4 (.var 0) (.add (.var 1) a) 0 (.int .u8))) (.back 0 0 [⟨10,0,.int .i64 (.bits .or .u64 (.shl .u64 (.var 10) (.lit 8)) (.wrap .u64 (.hI 4 (.var 0) (.add (.var 1) a) 0)))⟩,⟨11,0,.int .i64 (.wrap .i64 (.add a (.lit 1)))⟩] [])))))) (.imp (.not (.lt a (.var 2))) (.post [.ro 4 [.var 0] false] (.sv (.one (.int .u64 (.var 10))))))))):Nd)) (.var 11) (.lit 0)
def DN:bU Tryz.prog [] DL.fn where
 Λ:=fun p=>if lp p then some ⟨0,[(3,TI .u64 (.var 10)),(8,TI .i64 (.var 11))],[],12⟩else none
 args:=[.sv (.one (.sl (.var 0) (.var 1) (.var 2) (.var 3)))]
 mem:=[.ro 4 [.var 0] false]
 nv:=5
 nd:=Gi
 ok:=by kernel_rfl
theorem MR:DL.OK Tryz.prog:=by
 refine Spec.bJ (Γ:=[]) (fun _ h=>by cases h) ?_;rintro xs Hs Rs hl1 hl2 ⟨u,bs,R,rfl,rfl,⟨x,y,cp,rfl,hy,hR⟩,hlen⟩;have e0:Hs=[]:=Za.1 hl1;subst e0;refine⟨DN,bw [x,y,bs.length,cp] false [Hl.none,Hl.none,Hl.none,Hl.none,R],Ky bs,fun _ q=>(bs.length-q.i 11).toNat,?_,⟨?_,?_,?_,?_⟩,(fun _ h=>nomatch h),?_⟩
 .show [Value.slice (aA x y) ((bs.length:Int)).toNat ((cp:Int)).toNat]=_;rw[Y7,Y7]
 .intro r hr ho;simp [DN]at hr;subst hr;cases ho
 .intro r hr ho;simp [DN]at hr;subst hr;exact⟨R,by simp,Hl.le_refl _⟩
 .simp [DN]
 .intro r hr;simp [DN]at hr;subst hr;trivial
 .show Nd.holds _ _ _ Gi;generalize hρ:bw [x,y,bs.length,cp] false [Hl.none,Hl.none,Hl.none,Hl.none,R]=ρ;have v0:ρ.i 0=x:=by rw[<-hρ];rfl
  have v1:ρ.i 1=y:=by rw[<-hρ];rfl
  have v2:ρ.i 2=bs.length:=by rw[<-hρ];rfl
  have w4:ρ.h 4=R:=by rw[<-hρ];rfl
  unfold Gi;simp only[Nd.holds,X.pre,X.rel,X.n,Src.ok,Src.len,Src.bG,Zy,Zm,ZG,Zx,Zp,Nat.reduceAdd,Zd,Zh,bn,bj,aJ,aU,aR,bm,aZ,bh,bg,bd,aV,ba,bk,aX,aW,aK,aY,ai,aj,aB,aF,aD,ar,aG,aQ,aP,aq,aI,az,aH,av,TV.ev,SV.ev,CV.ev,Zf,Zr,bx.hl];rw[v2];refine⟨by omega,⟨0,by omega,rfl,rfl⟩,fun q g ⟨k,hk,h11,h10⟩=>?_⟩;rw[g.i 0,g.i 1,g.i 2,g.h 4,v0,v1,v2,w4,h11];refine⟨fun hlt=>?_,fun hge=>?_⟩
  .have hk':k<bs.length:=by omega
   have hxr:0<=x/\∀ j z,bs[j]?=some z->R.cell x.toNat (y.toNat+j)=some (.int .u8 z):=by
    rcases hR with h | h
    .subst h;simp at hk'
    .exact h
   have hc:R.cell x.toNat (y+k).toNat=some (.int .u8 bs[k]):=by
    rw[show(y+(k:Int)).toNat=y.toNat+k by omega];exact hxr.2 _ _ (Y8 hk')
   rw[hc];refine⟨hxr.1,hy,by omega,rfl,⟨k+1,by omega,?_,?_⟩,?_⟩
   .show IntKind.i64.wrap (q.i 11+1)=_;rw[h11];exact wrap_i64 (by omega) (by omega)
   .show iD (q.i 10) (cW ((q.h 4).cell (q.i 0).toNat (q.i 1+q.i 11).toNat))=_;rw[h10,g.i 0,g.i 1,g.h 4,v0,v1,w4,h11,hc,lC bs k hk'];rfl
   .show((bs.length:Int)-IntKind.i64.wrap (q.i 11+1)).toNat<_;rw[h11,wrap_i64 (by omega) (by omega)];omega
  .have e:k=bs.length:=by omega
   subst e;rw[aad]at h10;refine fun _=>⟨[],[],rfl,rfl,⟨⟨fun _=>q.i 10,fun _=>false,fun _=>.empty,fun _=>.tuple #[],fun _=>Hl.none⟩,rfl,trivial,trivial⟩,_,bs,R,rfl,rfl,⟨x,y,cp,rfl,hy,hR⟩,?_⟩;show Value.int .u64 (q.i 10)=_;rw[h10]
def CN:Sx.Spec where
 fn:=81
 own:=[]
 rd:=[0]
 res:=[.one (.int .i64)]
 pre:=fun xs Hs Rs=>∃ p R bs bad,xs=[p]/\Rs=[R]/\ln R p bs bad
 post:=fun xs Hs Rs v Hs' F=>∃ p R bs bad,xs=[p]/\Rs=[R]/\ln R p bs bad/\v=.int .i64 bs.length
def Ku:Sx.Spec where
 fn:=83
 own:=[]
 rd:=[0]
 res:=[.one .bool]
 pre:=fun xs Hs Rs=>∃ p R bs bad,xs=[p]/\Rs=[R]/\ln R p bs bad
 post:=fun xs Hs Rs v Hs' F=>∃ p R bs bad,xs=[p]/\Rs=[R]/\ln R p bs bad/\v=.bool bad
def Fb:Nd:=.and (.e (.le (.lit 0) (.var 0))) (.and (.e (.his 1 (.var 0) (.lit 0) 0 .slice)) (.and (.e (.le (.lit 0) (.hP 1 (.var 0) (.lit 0) 0 2))) (.post [.ro 1 [.var 0] false] (.sv (.one (.int .i64 (.hP 1 (.var 0) (.lit 0) 0 2)))))))
def CO:bU Tryz.prog [] CN.fn where
 Λ:=aM
 args:=[TP (.var 0) (.lit 0)]
 mem:=[.ro 1 [.var 0] false]
 nv:=2
 nd:=Fb
 ok:=by kernel_rfl
def Ks:Nd:=.and (.e (.le (.lit 0) (.var 0))) (.and (.e (.his 1 (.var 0) (.lit 1) 0 .bool)) (.post [.ro 1 [.var 0] false] (.sv (.one (.bool (.hB 1 (.var 0) (.lit 1) 0))))))
def Kv:bU Tryz.prog [] Ku.fn where
 Λ:=aM
 args:=[TP (.var 0) (.lit 0)]
 mem:=[.ro 1 [.var 0] false]
 nv:=2
 nd:=Ks
 ok:=by kernel_rfl
theorem LH:CN.OK Tryz.prog:=by
 refine Spec.bJ (Γ:=[]) (fun _ h=>by cases h) ?_;rintro xs Hs Rs hl1 hl2 ⟨p,R,bs,bad,rfl,rfl,hIn⟩;have e0:Hs=[]:=Za.1 hl1;subst e0;obtain⟨a,x,y,c,rfl,hc0,hc1,hx,hy,hR⟩:=hIn.whole;refine⟨CO,bw [(a:Int)] false [Hl.none,R],fun _ _=>True,fun _ _=>0,?_,⟨?_,?_,?_,?_⟩,(fun _ h=>nomatch h),?_⟩
 .show [Value.pointer (aA (a:Int) 0)]=_;rw[gM]
 .intro r hr ho;simp [CO]at hr;subst hr;cases ho
 .intro r hr ho;simp [CO]at hr;subst hr;exact⟨R,by simp,Hl.le_refl _⟩
 .simp [CO]
 .intro r hr;simp [CO]at hr;subst hr;trivial
 .show Nd.holds _ _ _ Fb;generalize hρ:bw [(a:Int)] false [Hl.none,R]=ρ;have v0:ρ.i 0=a:=by rw[<-hρ];rfl
  have w1:ρ.h 1=R:=by rw[<-hρ];rfl
  clear hρ;have tn0:Int.toNat 0=0:=rfl;unfold Fb;simp only[Nd.holds,X.pre,X.rel,X.n,Src.ok,Src.len,Src.bG,Zy,Zm,ZG,Zx,Zp,Nat.reduceAdd,Zd,Zh,bn,bj,aJ,aU,aR,bm,aZ,bh,bg,bd,aV,ba,bk,aX,aW,aK,aY,ai,aj,aB,aF,aD,ar,aG,aQ,aP,aq,aI,az,aH,av,TV.ev,SV.ev,CV.ev,Zf,Zr,bx.hl,tn0];rw[v0,w1,Y7,hc0,RJ hx];refine⟨by omega,rfl,by omega,fun _=>⟨[],[],rfl,rfl,⟨⟨fun _=>bs.length,fun _=>false,fun _=>.empty,fun _=>.tuple #[],fun _=>Hl.none⟩,?_,trivial,trivial⟩,_,R,bs,bad,rfl,rfl,hIn,?_⟩⟩
  all_goals
   show Value.int .i64 (bM (((ρ.h 1).cell (ρ.i 0).toNat (Int.toNat 0+0))) 2)=_;rw[v0,w1,Y7,tn0,Zp,hc0,RJ hx]
   try rfl
theorem Nx:Ku.OK Tryz.prog:=by
 refine Spec.bJ (Γ:=[]) (fun _ h=>by cases h) ?_;rintro xs Hs Rs hl1 hl2 ⟨p,R,bs,bad,rfl,rfl,hIn⟩;have e0:Hs=[]:=Za.1 hl1;subst e0;obtain⟨a,x,y,c,rfl,hc0,hc1,hx,hy,hR⟩:=hIn.whole;refine⟨Kv,bw [(a:Int)] false [Hl.none,R],fun _ _=>True,fun _ _=>0,?_,⟨?_,?_,?_,?_⟩,(fun _ h=>nomatch h),?_⟩
 .show [Value.pointer (aA (a:Int) 0)]=_;rw[gM]
 .intro r hr ho;simp [Kv]at hr;subst hr;cases ho
 .intro r hr ho;simp [Kv]at hr;subst hr;exact⟨R,by simp,Hl.le_refl _⟩
 .simp [Kv]
 .intro r hr;simp [Kv]at hr;subst hr;trivial
 .show Nd.holds _ _ _ Ks;generalize hρ:bw [(a:Int)] false [Hl.none,R]=ρ;have v0:ρ.i 0=a:=by rw[<-hρ];rfl
  have w1:ρ.h 1=R:=by rw[<-hρ];rfl
  clear hρ;have tn1:Int.toNat 1=1:=rfl;unfold Ks;simp only[Nd.holds,X.pre,X.rel,X.n,Src.ok,Src.len,Src.bG,Zy,Zm,ZG,Zx,Zp,Nat.reduceAdd,Zd,Zh,bn,bj,aJ,aU,aR,bm,aZ,bh,bg,bd,aV,ba,bk,aX,aW,aK,aY,ai,aj,aB,aF,aD,ar,aG,aQ,aP,aq,aI,az,aH,av,TV.ev,SV.ev,CV.ev,Zf,Zr,bx.hl,tn1];rw[v0,w1,Y7,hc1];refine⟨by omega,rfl,fun _=>⟨[],[],rfl,rfl,⟨⟨fun _=>0,fun _=>bad,fun _=>.empty,fun _=>.tuple #[],fun _=>Hl.none⟩,?_,trivial,trivial⟩,_,R,bs,bad,rfl,rfl,hIn,?_⟩⟩
  all_goals
   show Value.bool (yA (((ρ.h 1).cell (ρ.i 0).toNat (Int.toNat 1+0))))=_;rw[v0,w1,Y7,tn1,hc1]
   try rfl
def qd (L:LM):Int:=fk (L.note.take 8)
def ES:Sx.Spec where
 fn:=45
 own:=[]
 rd:=[0]
 res:=[.one (.int .u64)]
 pre:=fun xs Hs Rs=>∃ p R dp sl L,xs=[p]/\Rs=[R]/\fv R p dp sl L
 post:=fun xs Hs Rs v Hs' F=>∃ p R dp sl L,xs=[p]/\Rs=[R]/\fv R p dp sl L/\v=.int .u64 (qd L)
def R6:List Sx.Spec:=[DL,kY]
theorem QE:∀ t∈R6,t.OK Tryz.prog:=fun t ht=>by
 simp only[R6,Zl,Zq,ZO]at ht;rcases ht with rfl | rfl
 .exact MR
 .exact yX
def La:Nd:=(fun a b=>(.and (.pre b) (.ext b (.ext (.alloc 18) (.and (.pre a) (.ext a (.post [.ro 1 [.var 0] false,.dead] (.sv (.one (.int .u64 (.var 19))))))))):Nd)) (.call 0 19 [.sv (.one (.sl (.var 18) (.lit 0) (.lit 8) (.lit 16)))] [] [.bD 18 (al 2 (List.replicate 16 (Ck.int .u8))) 60]) (.call 1 2 [.sv (.one (.hptr (.var 0) (.lit 0)))] [] [.ro 1 [.var 0] false])
def Lb:bU Tryz.prog R6 ES.fn where
 Λ:=aM
 args:=[TP (.var 0) (.lit 0)]
 mem:=[.ro 1 [.var 0] false]
 nv:=2
 nd:=La
 ok:=by kernel_rfl
theorem U7:R6[0]?=some DL:=rfl
theorem U8:R6[1]?=some kY:=rfl
theorem U9:DL.res=[.one (.int .u64)]:=rfl
theorem Va:kY.res=[.agg (qI 16)]:=rfl
theorem NT:ES.OK Tryz.prog:=by
 refine Spec.bJ (Γ:=R6) QE ?_;rintro xs Hs Rs hl1 hl2 ⟨p,R,dp,sl,L,rfl,rfl,hL⟩;have e0:Hs=[]:=Za.1 hl1;subst e0;obtain⟨a,rfl,hLi⟩:=id hL;refine⟨Lb,bw [(a:Int)] false [Hl.none,R],fun _ _=>True,fun _ _=>0,?_,⟨?_,?_,?_,?_⟩,(fun _ h=>nomatch h),?_⟩
 .show [Value.pointer (aA (a:Int) 0)]=_;rw[gM]
 .intro r hr ho;simp [Lb]at hr;subst hr;cases ho
 .intro r hr ho;simp [Lb]at hr;subst hr;exact⟨R,by simp,Hl.le_refl _⟩
 .simp [Lb]
 .intro r hr;simp [Lb]at hr;subst hr;trivial
 .show Nd.holds _ _ _ La;generalize hρ:bw [(a:Int)] false [Hl.none,R]=ρ;have v0:ρ.i 0=a:=by rw[<-hρ];rfl
  have w1:ρ.h 1=R:=by rw[<-hρ];rfl
  clear hρ;unfold La;simp only[Nd.holds,X.pre,X.rel,X.n,Src.ok,Src.len,Src.bG,Zy,Zm,ZG,Zx,Zp,Nat.reduceAdd,Zd,Zh,bn,bj,aJ,aU,aR,bm,aZ,bh,bg,bd,aV,ba,bk,aX,aW,aK,aY,ai,aj,aB,aF,aD,ar,aG,aQ,aP,aq,aI,az,aH,av,TV.ev,SV.ev,CV.ev,Zf,Zr,bx.hl,cu,Cp.sv,Ck.cv,bf,Cp.len,Ck.len,aE,aN,aT,U7,U8,U9,Va];rw[v0,w1,gM];refine⟨⟨_,R,dp,sl,L,rfl,rfl,hL⟩,fun q1 g1 ⟨F1,⟨p',R',dp',sl',L',e1,e2,hL',hv⟩,_⟩ q2 g2 p2=>?_⟩;simp only[Ze,Zm]at e1 e2;subst e1 e2;obtain⟨_,_,rfl⟩:=hL.uniq hL';have ec:(al 2 (List.replicate 16 (Ck.int .u8))).map (CV.ev q1)=bK L.note:=ZL (Value.agg.inj hv);have ec2:(al 2 (List.replicate 16 (Ck.int .u8))).map (CV.ev q2)=bK L.note:=(CV.gn g2 _ (by decide)).trans ec;have hn16:=hLi.1.note;have hRd:fp (Hl.one (q2.i 18).toNat (.cells (bK L.note).toArray 60 (0,0))) (.slice (aA (q2.i 18) 0) (Int.toNat 8) (Int.toNat 16)) (L.note.take 8):=by
   refine⟨q2.i 18,0,16,?_,Zw _,Or.inr ⟨p2,fun j z hj=>?_⟩⟩
   .rw[ZE,hn16];rfl
   .have hj8:j<8:=by have:=(Zi.1 hj).1;rw[ZE]at this;omega
    rw[Z9 hj8]at hj;rw[Hl.j7,aae,ft,abv,ZM,hj];rfl
  rw[ec2];refine⟨⟨_,_,_,rfl,rfl,hRd,by rw[ZE];omega⟩,fun q3 g3 ⟨F3,⟨u',bs',R3,e1,e2,hR3,hv3⟩,_⟩ _=>?_⟩;simp only[Ze,Zm]at e1 e2;subst e1 e2;rw[<-hRd.uniq hR3]at hv3;have hv3:Value.int .u64 (q3.i 19)=.int .u64 (qd L):=hv3;exact⟨[],[],rfl,rfl,⟨⟨fun _=>qd L,fun _=>false,fun _=>.empty,fun _=>.tuple #[],fun _=>Hl.none⟩,hv3,trivial,trivial⟩,_,R,dp,sl,L,rfl,rfl,hL,hv3⟩
end Go.Proofs.YtomdimlnggpgbaaGreatDoor
namespace Go.Sx
open Go
theorem bE.On {F:Hl} {e:TypeId} {k:Nat} {v:Value} {n:Nat} {us:List Value} (h:bE F e k v n us) {b:Nat} (hb:v.ownBlock=some b):F.mem b:=by
 rcases h.2 with ⟨h,_⟩ | ⟨gg,cap,cur,h,hg,_⟩
 .rw[h]at hb;cases hb
 .rw[h]at hb;have:gg=b:=by simpa [Value.ownBlock] using hb
  subst this;unfold Hl.mem;rw[hg];rfl
theorem bE.mono {F G:Hl} (hl:F.le G) {e:TypeId} {k:Nat} {v:Value} {m:Nat} {us:List Value} (h:bE F e k v m us):bE G e k v m us:=by
 refine⟨h.1,h.2.imp id fun⟨g,cap,cur,hv,hg,r⟩=>⟨g,cap,cur,hv,hl _ _ hg,r⟩⟩
theorem bE.inj {F:Hl} {e:TypeId} {k:Nat} {v:Value} {n m:Nat} {us ws:List Value} (h1:bE F e k v n us) (h2:bE F e k v m ws):n=m/\us=ws:=by
 obtain⟨l1,h1⟩:=h1;obtain⟨l2,h2⟩:=h2;rcases h1 with ⟨h1,hn⟩ | ⟨g,cap,cur,h1,hg,_,_,_,ht⟩<;>rcases h2 with ⟨h2,hm⟩ | ⟨g',cap',cur',h2,hg',_,_,_,ht'⟩
 .subst hn;subst hm;refine⟨rfl,?_⟩;rw[abA]at l1 l2;rw[Za.1 l1,Za.1 l2]
 .rw[h1]at h2;cases h2
 .rw[h1]at h2;cases h2
 .rw[h1]at h2;simp only[Value.slice.injEq,Zj,Addr.mk.injEq,Zm]at h2;obtain⟨eg,en,_⟩:=h2;subst eg;subst en;rw[hg]at hg';simp only[Zj,Obj.cells.injEq,Zm]at hg';rw[<-ht,<-ht',hg'];exact⟨rfl,rfl⟩
theorem bE.cellAt {F:Hl} {e:TypeId} {x l c:Int} {n:Nat} {us:List Value} (h:bE F e 1 (.slice (aA x 0) l.toNat c.toNat) n us) (hx:-1<=x) {i:Nat} (hi:i<n):0<=x/\F.cell x.toNat i=us[i]?:=by
 obtain⟨hl,h⟩:=h;rcases h with ⟨_,hn⟩ | ⟨g,cap,cur,hv,hg,hle,hm,hs,ht⟩
 .omega
 .simp only[Value.slice.injEq]at hv;obtain⟨hp,_,_⟩:=hv;have h0:0<=x:=by
   rcases aal x 0 with hlt | h0
   .rw[show x= -1 by omega,fa]at hp;cases hp
   .exact h0
  rw[au h0]at hp;simp only[Zj,Addr.mk.injEq,Zm]at hp;refine⟨h0,?_⟩;rw[hp.1,<-ht];unfold Hl.cell;rw[hg,Z9 (by omega),aa7]
end Go.Sx
namespace Go.Proofs.YtomdimlnggpgbaaGreatDoor
open Go Go.Sx Go.Pk
theorem OZ {a b x y:Int} (hx:0<=x) (hy:0<=y) (hb:0<=b) (h:aA a b=aA x y):a=x/\b=y:=by
 rcases aal a 0 with ha | ha
 .exfalso;rw[au hx]at h;unfold aA at h;rw[Zo (by omega)]at h;split at h
  .cases h
  .simp only[Zj,Addr.mk.injEq]at h;obtain⟨_,_,h⟩:=h;cases h
 .rw[au ha,au hx]at h;simp only[Zj,Addr.mk.injEq]at h;omega
theorem HV {a y:Int} {l c:Nat} (h:0<=a):(Value.slice (aA a y) l c).ownBlock=some a.toNat:=by
 rw[au h];rfl
theorem Nu {H:Hl} {x x':Int} {l c l' c':Nat} (hx:-1<=x') (h:some x'.toNat=(Value.slice (aA x 0) l c).ownBlock\/¬H.mem x'.toNat\/x'= -1):∀ b,H.mem b->some b≠(Value.slice (aA x 0) l c).ownBlock->some b≠(Value.slice (aA x' 0) l' c').ownBlock:=by
 intro b hb hne he;rcases aal x' 0 with hn | hn
 .rw[show x'= -1 by omega,fa]at he;cases he
 .rw[HV hn]at he;have he:b=x'.toNat:=by simpa using he
  rcases h with h | h | h
  .exact hne (by rw[he];exact h)
  .rw[<-he]at h;exact h hb
  .omega
def mv (F:Hl) (o:Option Nat) (u:Value) (r:List Int):Prop:=∃ (x y:Int) (c:Nat),u=.slice (aA x y) r.length c/\ -1<=x/\0<=y/\(r=[]\/(0<=x/\some x.toNat≠o/\∀ j z,r[j]?=some z->F.cell x.toNat (y.toNat+j)=some (.int .u8 z)))
theorem KM {F:Hl} {b j:Nat} {v:Value} (h:F.cell b j=some v):F.mem b:=by
 unfold Hl.cell at h;unfold Hl.mem;cases hF:F b with
 | none=>rw[hF]at h;cases h
 | some o=>rfl
theorem cell_of {F G:Hl} {b j:Nat} {v:Value} (h:F.cell b j=some v) (e:G b=F b):G.cell b j=some v:=by
 unfold Hl.cell at h ⊢;rw[e];exact h
theorem mv.fz {F G:Hl} {o o':Option Nat} {u:Value} {r:List Int} (h:mv F o u r) (hk:∀ b,F.mem b->some b≠o->G b=F b) (hn:∀ b,F.mem b->some b≠o->some b≠o'):mv G o' u r:=by
 obtain⟨x,y,c,hu,hx,hy,h⟩:=h;refine⟨x,y,c,hu,hx,hy,?_⟩;cases r with
 | nil=>exact Or.inl rfl
 | cons z r =>
  rcases h with h | ⟨h0,hne,hc⟩
  .cases h
  .have hm:F.mem x.toNat:=KM (hc 0 z rfl);exact Or.inr ⟨h0,hn _ hm hne,fun j w hj=>cell_of (hc j w hj) (hk _ hm hne)⟩
theorem mv.rd {F:Hl} {o:Option Nat} {u:Value} {r:List Int} (h:mv F o u r):fp F u r:=by
 obtain⟨x,y,c,hu,_,hy,h⟩:=h;exact⟨x,y,c,hu,hy,h.imp id fun h=>⟨h.1,h.2.2⟩⟩
theorem mv.of {F:Hl} {x y l c:Int} {r:List Int} (h:fp F (.slice (aA x y) l.toNat c.toNat) r) (hx:-1<=x) (hy:0<=y):mv F none (.slice (aA x y) l.toNat c.toNat) r:=by
 obtain⟨x',y',c',hu,hy',h⟩:=h;simp only[Value.slice.injEq]at hu;obtain⟨h1,h2,h3⟩:=hu;refine⟨x,y,c.toNat,by rw[h2],hx,hy,h.imp id fun⟨h0,h⟩=>?_⟩;obtain⟨e1,e2⟩:=jG hx hy (by omega) hy' h1;subst e1;have e2:=e2 h0;subst e2;exact⟨h0,by simp,h⟩
def cO (F:Hl) (v:Value) (rows:List (List Int)):Prop:=∃ us:List Value,bE F 46 1 v rows.length us /\
 ∀ (j:Nat) (u:Value) (r:List Int),us[j]?=some u->rows[j]?=some r->mv F v.ownBlock u r
theorem cO.nil (F:Hl):cO F (.slice none 0 0) []:=⟨[],⟨rfl,Or.inl ⟨rfl,rfl⟩⟩,(fun j u r h=>by simp at h)⟩
theorem cO.len {F:Hl} {v:Value} {rows:List (List Int)} {us:List Value} (h:bE F 46 1 v rows.length us):us.length=rows.length:=by
 have:=h.1;omega
theorem cO.mono {F G:Hl} (hl:F.le G) {v:Value} {rows:List (List Int)} (h:cO F v rows):cO G v rows:=by
 obtain⟨us,ho,hr⟩:=h;refine⟨us,bE.mono hl ho,fun j u r hu hrr=>(hr j u r hu hrr).fz (fun b hm _=>?_) (fun _ _ h=>h)⟩;obtain⟨o,ho⟩:=aah.1 hm;rw[hl _ _ ho,ho]
theorem cO.snoc {F B G:Hl} {v v' u:Value} {rows:List (List Int)} {r:List Int} (h:cO F v rows) (hd:F.cG B) (hu:mv B none u r)
 (happ:∀ xs,bE (F.un B) 46 1 v rows.length xs->bE G 46 1 v' (rows.length+1) (xs++[u]))
 (hk:∀ b,(F.un B).mem b->some b≠v.ownBlock->G b=(F.un B) b) (hn:∀ b,(F.un B).mem b->some b≠v.ownBlock->some b≠v'.ownBlock):cO G v' (rows++[r]):=by
 obtain⟨us,ho,hr⟩:=h;have hul:=cO.len ho;have hold:∀ (j:Nat) (w:Value) (s:List Int),us[j]?=some w->rows[j]?=some s->mv (F.un B) v.ownBlock w s:=fun j w s hj hs =>
  (hr j w s hj hs).fz (fun b hm _=>by obtain⟨o,ho⟩:=aah.1 hm;rw[Hl.yf ho,ho]) (fun b _ h=>h)
 have hun:mv (F.un B) v.ownBlock u r:=hu.fz (fun b hm _=>by rw[Hl.oH fun h2=>hd b ⟨h2,hm⟩]) fun b hm _ e=>hd b ⟨ho.On e.symm,hm⟩;refine⟨us++[u],?_,fun j w s hj hs=>?_⟩
 .rw[Y9,ZC];exact happ us (ho.mono (Hl.cC _ _))
 .rcases aaa j us.length with hl | hl
  .rw[ZH hl]at hj;rw[ZH (by omega)]at hs;exact(hold j w s hj hs).fz hk hn
  .rw[Zz hl]at hj;rw[Zz (by omega)]at hs;have hj:=Zb hj;have hs:=Zb hs;rw[Zn]at hj hs;subst hj;subst hs;exact hun.fz hk hn
theorem cO.at {F:Hl} {x l c:Int} {rows:List (List Int)} (h:cO F (.slice (aA x 0) l.toNat c.toNat) rows) (hx:-1<=x) (hl:0<=l):l=rows.length/\∀ (i:Nat) r,rows[i]?=some r->0<=x/\∃ u,F.cell x.toNat i=some u/\mv F (some x.toNat) u r:=by
 obtain⟨us,ho,hr⟩:=h;have hul:=cO.len ho;refine⟨?_,fun i r hi=>?_⟩
 .rcases ho.2 with ⟨h,hn⟩ | ⟨g,cap,cur,h,_⟩
  .simp only[Value.slice.injEq]at h;omega
  .simp only[Value.slice.injEq]at h;omega
 .have hi':=(Zi.1 hi).1;obtain⟨h0,hc⟩:=ho.cellAt hx hi';have hu:us[i]?=some us[i]:=Y8 (by omega);have:=hr i _ r hu hi;rw[HV h0]at this;exact⟨h0,_,by rw[hc,hu],this⟩
theorem cO.uniq {F:Hl} {v:Value} {a b:List (List Int)} (h1:cO F v a) (h2:cO F v b):a=b:=by
 obtain⟨us,ho,hr⟩:=h1;obtain⟨ws,ho',hr'⟩:=h2;obtain⟨el,e⟩:=ho.inj ho';subst e;have hul:=cO.len ho;apply aaL el;intro j hj hj';have hu:us[j]?=some us[j]:=Y8 (by omega);exact(hr j _ _ hu (Y8 hj)).rd.uniq (hr' j _ _ hu (Y8 hj')).rd
theorem sV {G F B:Hl} {x l c x' c':Int} {rows:List (List Int)} {u:Value} {r:List Int} (h:cO F (.slice (aA x 0) l.toNat c.toNat) rows) (hx:-1<=x) (hl:0<=l) (hd:F.cG B) (hu:mv B none u r) (hx':-1<=x')
 (happ:∀ xs,bE (F.un B) 46 1 (.slice (aA x 0) l.toNat c.toNat) l.toNat xs->bE G 46 1 (.slice (aA x' 0) (l.toNat+1) c'.toNat) (l.toNat+1) (xs++[u]))
 (hkeep:∀ b,(F.un B).mem b->some b≠(Value.slice (aA x 0) l.toNat c.toNat).ownBlock->G b=(F.un B) b) (hnew:some x'.toNat=(Value.slice (aA x 0) l.toNat c.toNat).ownBlock\/¬(F.un B).mem x'.toNat\/x'= -1):cO G (.slice (aA x' 0) (l+1).toNat c'.toNat) (rows++[r]):=by
 have hlr:l=rows.length:=(h.at hx hl).1;have e1:(l+1).toNat=rows.length+1:=by omega
 have e2:l.toNat=rows.length:=by omega
 rw[e2]at happ;rw[e1];rw[e2]at h hkeep hnew;exact cO.snoc h hd hu happ hkeep (Nu hx' hnew)
def tx (bs:List Int):List Int×List Int×Bool:=kV bs false 4096
def oC:Nat->List Int->List (List Int)
 | 0,_=>[]
 | n+1,bs=>if bs=[]then []else if(tx bs).2.2=true then []else(tx bs).1::oC n (tx bs).2.1
def iC (bs:List Int):List (List Int):=oC bs.length bs
theorem BJ {bs:List Int} (h0:bs≠[]) (h:(tx bs).2.2=false):(tx bs).2.1.length<bs.length:=by
 have hl:0<bs.length:=List.length_pos_iff.2 h0;unfold tx kV at h ⊢;split at h
 .cases h
 .rename_i hc;rw[Zo hc];have h2:(fV bs).2≠0:=fun e=>hc (Or.inr (Or.inl e));show(bs.drop _).length<_;rw[ZX];omega
theorem ng:∀ n,oC n []=[]
 | 0=>rfl
 | _+1=>rfl
theorem uk:∀ (n m:Nat) (bs:List Int),bs.length<=n->bs.length<=m->oC n bs=oC m bs
 | 0,m,bs,h,_=>by
  have:bs=[]:=Za.1 (by omega);rw[this,ng,ng]
 | n+1,0,bs,_,h=>by
  have:bs=[]:=Za.1 (by omega);rw[this,ng,ng]
 | n+1,m+1,bs,h1,h2=>by
  unfold oC;by_cases h0:bs=[]
  .rw[ZA h0,ZA h0]
  .rw[Zo h0,Zo h0];by_cases hb:(tx bs).2.2=true
   .rw[ZA hb,ZA hb]
   .rw[Zo hb,Zo hb];have:=BJ h0 (aaO.2 hb);rw[uk n m _ (by omega) (by omega)]
theorem uj (n:Nat) (bs:List Int) (h:bs.length<=n):oC n bs=iC bs:=uk n bs.length bs h (ZB _)
theorem zL {bs:List Int} (h:bs≠[]):iC bs=if(tx bs).2.2=true then []else(tx bs).1::iC (tx bs).2.1:=by
 rw[<-uj (bs.length+1) bs (by omega)];show(if bs=[]then []else if(tx bs).2.2=true then []else(tx bs).1::oC bs.length (tx bs).2.1)=_;rw[Zo h];cases hb:(tx bs).2.2 with
 | true=>rfl
 | false=>rw[Zo (by simp),Zo (by simp),uj _ _ (by have:=BJ h hb;omega)]
def qF:Sx.Spec where
 fn:=46
 own:=[]
 rd:=[0]
 res:=[.one .sl]
 pre:=fun xs Hs Rs=>∃ u bs R,xs=[u]/\Rs=[R]/\fp R u bs/\aS bs/\bs.length<=1000000
 post:=fun xs Hs Rs v Hs' F=>∃ u bs R,xs=[u]/\Rs=[R]/\fp R u bs/\cO F v (iC bs)
def PI:List Sx.Spec:=[xx,CN,zM,Ku]
theorem RR:∀ t∈PI,t.OK Tryz.prog:=fun t ht=>by
 simp only[PI,Zl,Zq,ZO]at ht;rcases ht with rfl | rfl | rfl | rfl
 .exact JA
 .exact LH
 .exact M6
 .exact Nx
def BG:Nd:=(fun h b c i=>(fun d e f g=>(fun a=>(.and (.pre c) (.ext c (.and (.inv 0 [⟨53,0,.int .i64 (.lit (-1))⟩,⟨54,0,.int .i64 h⟩,⟨55,0,.int .i64 h⟩] [(51,some 5),(56,none)]) (.havoc 0 0 7 (.and (.pre g) (.ext g (.and (.imp (.lt h (.var 60)) (.and (.pre e) (.ext e (.and (.pre f) (.ext f (.and (.imp (.bvar 65) (.post [.ro 4 [.var 0] false,.hp 61 [51] i [],.hp 56 [] [.var 53] [],.hp 62 [] [.var 61] []] (.sv (.one d)))) (.imp (.not (.bvar 65)) (.ext (.alloc 66) (.ext (.L8 67 (.hp 56 [] [.var 53] []) (.hp 62 [] [.var 61] [])) (.and (.pre a) (.ext a (.back 0 0 [⟨53,0,.int .i64 (.var 68)⟩,⟨54,0,.int .i64 (.add (.var 54) (.lit 1))⟩,⟨55,0,.int .i64 (.var 69)⟩] [(51,some 61),(56,some 68)])))))))))))) (.imp (.not (.lt h (.var 60))) (.post [.ro 4 [.var 0] false,.hp 51 [] i [],.hp 56 [] [.var 53] []] (.sv (.one d)))))))))):Nd)) (.app 68 46 1 24 d (.var 54) (.hp 67 [56,62] [.var 53,.var 61,.var 61] []) (.cvs [.sl (.var 61) (.var 62) (.var 63) (.var 64)] 1))) (.sl (.var 53) h (.var 54) (.var 55)) (.call 2 61 [.sv b,.sv (.one (.int .i64 (.lit 4096)))] [.hp 51 [] i []] []) (.call 3 65 [.sv b] [] [.hp 61 [51] i []]) (.call 1 60 [.sv b] [] [.hp 51 [] i []])) (.lit 0) (.one (.hptr (.var 5) (.var 6))) (.call 0 5 [.sv (.one (.sl (.var 0) (.var 1) (.var 2) (.var 3)))] [] [.ro 4 [.var 0] false]) [.var 5]
def xX:bU Tryz.prog PI qF.fn where
 Λ:=fun p=>if LL p then some ⟨0,[(3,.sv (.one (.sl (.var 53) (.lit 0) (.var 54) (.var 55))))],[(1,.hp 51 [] [.var 5] []),(2,.hp 56 [] [.var 53] [])],60⟩else none
 args:=[.sv (.one (.sl (.var 0) (.var 1) (.var 2) (.var 3)))]
 mem:=[.ro 4 [.var 0] false]
 nv:=5
 nd:=BG
 ok:=by kernel_rfl
theorem Xb:PI[0]?=some xx:=rfl
theorem Xc:PI[1]?=some CN:=rfl
theorem Xd:PI[2]?=some zM:=rfl
theorem Xe:PI[3]?=some Ku:=rfl
theorem Xf:xx.res=[.one .ptr]:=rfl
theorem Xg:CN.res=[.one (.int .i64)]:=rfl
theorem Xh:zM.res=[.one .sl]:=rfl
theorem Xi:Ku.res=[.one .bool]:=rfl
theorem Kk (n:Nat):(br n [Cp.one .sl]≠[])=True:=by simp [br,Cp.roots,Ck.root]
theorem TJ (n:Nat):(br n [Cp.one .ptr]≠[])=True:=by simp [br,Cp.roots,Ck.root]
theorem JY:qF.OK Tryz.prog:=by
 refine Spec.bJ (Γ:=PI) RR ?_;rintro xs Hs Rs hl1 hl2 ⟨u,bs,R,rfl,rfl,hRd,hby,hlen⟩;have e0:Hs=[]:=Za.1 hl1;subst e0;obtain⟨x,y,c,rfl,hy,hR⟩:=id hRd;refine⟨xX,bw [x,y,bs.length,c] false [Hl.none,Hl.none,Hl.none,Hl.none,R],fun _ q=>∃ rest rows,ln (q.h 51) (.pointer (aA (q.i 5) (q.i 6))) rest false/\ -1<=q.i 53/\0<=q.i 54/\0<=q.i 55/\cO (q.h 56) (.slice (aA (q.i 53) 0) (q.i 54).toNat (q.i 55).toNat) rows/\rows++iC rest=iC bs/\rows.length+rest.length<=bs.length,fun _ q=>(bs.length-q.i 54).toNat,?_,⟨?_,?_,?_,?_⟩,(fun _ h=>nomatch h),?_⟩
 .show [Value.slice (aA x y) ((bs.length:Int)).toNat ((c:Int)).toNat]=_;rw[Y7,Y7]
 .intro r hr ho;simp [xX]at hr;subst hr;cases ho
 .intro r hr ho;simp [xX]at hr;subst hr;exact⟨R,by simp,Hl.le_refl _⟩
 .simp [xX]
 .intro r hr;simp [xX]at hr;subst hr;trivial
 .show Nd.holds _ _ _ BG;generalize hρ:bw [x,y,bs.length,c] false [Hl.none,Hl.none,Hl.none,Hl.none,R]=ρ;have v0:ρ.i 0=x:=by rw[<-hρ];rfl
  have v1:ρ.i 1=y:=by rw[<-hρ];rfl
  have v2:ρ.i 2=bs.length:=by rw[<-hρ];rfl
  have v3:ρ.i 3=c:=by rw[<-hρ];rfl
  have w4:ρ.h 4=R:=by rw[<-hρ];rfl
  clear hρ;have out:∀ {q:Env} {rows:List (List Int)} {mem:Mem},HT mem [] [2]=true->(uu q mem [2])=q.h 56-> -1<=q.i 53->0<=q.i 54->0<=q.i 55->cO (q.h 56) (.slice (aA (q.i 53) 0) (q.i 54).toNat (q.i 55).toNat) rows->rows=iC bs->postOf qF [.slice (aA x y) bs.length c] [] [R] q mem (.sv (.one (.sl (.var 53) (.lit 0) (.var 54) (.var 55)))):=by
   intro q rows mem hok hu h1 h2 h3 hr he _;subst he;exact⟨[],[2],rfl,hok,⟨⟨fun k=>[q.i 53,0,q.i 54,q.i 55].getD k 0,fun _=>false,fun _=>.empty,fun _=>.tuple #[],fun _=>Hl.none⟩,rfl,⟨h1,Zw _,h2,h3⟩,trivial⟩,_,bs,R,rfl,rfl,hRd,by rw[hu];exact hr⟩
  unfold BG;simp only[Nd.holds,X.pre,X.rel,X.n,Src.ok,Src.len,Src.bG,Zy,Zm,ZG,Zx,Zp,Nat.reduceAdd,Zd,Zh,bn,bj,aJ,aU,aR,bm,aZ,bh,bg,bd,aV,ba,bk,aX,aW,aK,aY,ai,aj,aB,aF,aD,ar,aG,aQ,aP,aq,aI,az,aH,av,TV.ev,SV.ev,CV.ev,Zf,Zr,bx.hl,cu,Cp.sv,Ck.cv,bf,Cp.len,Ck.len,aE,aN,aT,Xb,Xc,Xd,Xe,Xf,Xg,Xh,Xi,Kk,TJ];rw[v0,v1,v2,v3,w4,Y7,Y7];refine⟨⟨_,bs,R,rfl,rfl,hRd,hby,hlen⟩,fun q1 g1 ⟨F1,⟨u',bs',R',e1,e2,hR',hIn⟩,hF1,_⟩=>?_⟩;simp only[Ze,Zm]at e1 e2;subst e1 e2;obtain rfl:=hRd.uniq hR';rw[<-hF1 trivial]at hIn;refine⟨⟨bs,[],hIn,Zw _,Zw _,Zw _,cO.nil _,rfl,by simp⟩,fun q2 g2 ⟨rest,rows,hI,x53,x54,x55,hO,hsum,hle⟩=>?_⟩;have hlr:=(hO.at x53 x54).1;refine⟨⟨_,_,rest,false,rfl,rfl,hI⟩,fun q3 g3 ⟨F3,⟨p3,R3,bs3,bad3,e1,e2,hI3,hv3⟩,_⟩=>?_⟩;simp only[Ze,Zm]at e1 e2;subst e1 e2;obtain⟨e3,_⟩:=hI.uniq hI3;subst e3;have hv3:q3.i 60=rest.length:=by simpa using hv3
  rw[hv3];have hend:rest.length=0->rows=iC bs:=fun h=>by
   have:rest=[]:=Za.1 h;subst this;rw[<-hsum];exact(aau _).symm
  refine⟨fun hpos=>?_,fun hneg=>out rfl (bz _) (by rw[g3.i 53];exact x53) (by rw[g3.i 54];exact x54) (by rw[g3.i 55];exact x55) (by rw[g3.i 53,g3.i 54,g3.i 55,g3.h 56];exact hO) (hend (by omega))⟩;have hne:rest≠[]:=by rintro rfl;simp at hpos
  rw[g3.i 5,g3.i 6,g3.h 51];refine⟨⟨_,4096,_,rest,false,rfl,rfl,hI,by omega⟩,fun q4 g4 ⟨F4,⟨p4,m4,H4,bs4,bad4,H4',e1,e2,hI4,e3,hI4',hv4⟩,hF4,hn4⟩=>?_⟩;simp only[Ze,Value.int.injEq,Zy,Zm]at e1 e2 e3;obtain⟨e1,em⟩:=e1;subst e1 em e2;obtain⟨e4,e5⟩:=hI.uniq hI4;subst e4 e5;rw[<-e3]at hI4';rw[<-hF4 trivial]at hv4;have hI4':ln (q4.h 61) (.pointer (aA (q2.i 5) (q2.i 6))) (tx rest).2.1 (tx rest).2.2:=hI4';have hv4:cH (q4.h 62) 5 (.slice (aA (q4.i 61) (q4.i 62)) (q4.i 63).toNat (q4.i 64).toNat) (tx rest).1:=hv4;have hn4:-1<=q4.i 61/\0<=q4.i 62/\0<=q4.i 63/\0<=q4.i 64:=hn4.1;rw[g4.i 5,g4.i 6,g3.i 5,g3.i 6];refine⟨⟨_,_,_,_,rfl,rfl,hI4'⟩,fun q5 g5 ⟨F5,⟨p5,R5,bs5,bad5,e1,e2,hI5,hv5⟩,_⟩=>?_⟩;simp only[Ze,Zm]at e1 e2;subst e1 e2;obtain⟨_,e5⟩:=hI4'.uniq hI5;subst e5;have hv5:q5.b 65=(tx rest).2.2:=by simpa [cn] using hv5
  have hat:=zL hne;have G:ah 60 q2 q5:=g3.trans ((g4.tr g5).mono (by omega));have G4:ah 65 q4 q5:=g5;rw[hv5];refine⟨fun hb=>out rfl (bz _) (by rw[G.i 53];exact x53) (by rw[G.i 54];exact x54) (by rw[G.i 55];exact x55) (by rw[G.i 53,G.i 54,G.i 55,G.h 56];exact hO) (by rw[<-hsum,hat,ZA hb,aau]),fun hb q6 g6 _ q7 g7 ⟨e7,hd7⟩=>?_⟩;have hb:(tx rest).2.2=false:=aaO.2 hb;have G7:ah 60 q2 q7:=G.trans ((g6.tr g7).mono (by omega));have G47:ah 65 q4 q7:=G4.trans ((g6.tr g7).mono (by omega));have G46:ah 65 q4 q6:=G4.tr g6;have G6:ah 60 q2 q6:=G.tr g6;have hu:mv (q6.h 62) none (.slice (aA (q7.i 61) (q7.i 62)) (q7.i 63).toNat (q7.i 64).toNat) (tx rest).1:=by
   rw[G46.h 62,G47.i 61,G47.i 62,G47.i 63,G47.i 64];exact mv.of hv4.rd.w hn4.1 hn4.2.1
  rw[e7,G6.h 56,G7.i 53,G7.i 54,G7.i 55];rw[G6.h 56]at hd7;have hpre:∃ xs,bE ((q2.h 56).un (q6.h 62)) 46 1 (.slice (aA (q2.i 53) 0) (q2.i 54).toNat (q2.i 55).toNat) (q2.i 54).toNat xs:=by
   obtain⟨us,ho,_⟩:=hO;rw[show(q2.i 54).toNat=rows.length by omega]at ho ⊢;exact⟨us,ho.mono (Hl.cC _ _)⟩
  refine⟨⟨hpre,x54,by unfold maxLen;omega,by omega⟩,fun q8 g8 ⟨a1,a2,happ,hk,_,hn⟩=>?_⟩;have G8:ah 60 q2 q8:=G7.tr g8;have G48:ah 65 q4 q8:=G47.tr g8;have hrows:=sV hO x53 x54 hd7 hu a1 happ hk hn;have e54:q8.i 54+1=q2.i 54+1:=by rw[G8.i 54]
  have hless:=BJ hne hb;refine⟨⟨(tx rest).2.1,rows++[(tx rest).1],?_,a1,?_,a2,?_,?_,?_⟩,?_⟩
  .show ln (q8.h 61) (.pointer (aA (q8.i 5) (q8.i 6))) _ _;rw[G48.h 61,G8.i 5,G8.i 6,<-hb];exact hI4'
  .show 0<=q8.i 54+1;omega
  .show cO (q8.h 68) (.slice (aA (q8.i 68) 0) (q8.i 54+1).toNat (q8.i 69).toNat) _;rw[e54];exact hrows
  .rw[ZK,<-hsum,hat,Zo (by rw[hb];simp)];rfl
  .rw[Y9,ZC];omega
  .show((bs.length:Int)-(q8.i 54+1)).toNat<_;omega
theorem iB {u:Value} (h:∃ a l c,u=.slice a l c):Value.slice (aA (bM (some u) 0) (bM (some u) 1)) (bM (some u) 2).toNat (bM (some u) 3).toNat=u:=by
 obtain⟨a,n,c,rfl⟩:=h;cases a with
 | none=>simp [bM,aA]
 | some a =>
  obtain⟨b,o,s⟩:=a;cases s with
  | none=>simp [bM,aA]
  | some s =>
   simp only[bM,Y7];unfold aA;rw[Zo (by omega),Zo (by omega),Y7,D6,show(-(-(b:Int)-2)-2).toNat=b by omega]
theorem fp.parts {R:Hl} {u:Value} {r:List Int} (h:fp R u r):(∃ a l c,u=.slice a l c)/\bM (some u) 2=r.length /\
 (bM (some u) 0= -1\/bM (some u) 2=0\/0<=bM (some u) 0/\0<=bM (some u) 1/\cy R (bM (some u) 0).toNat (bM (some u) 1).toNat (bM (some u) 2).toNat=true) /\
 (if bM (some u) 0= -1 then ByteArray.empty else bytesOf (fe R (bM (some u) 0).toNat (bM (some u) 1).toNat (bM (some u) 2).toNat))=bytesOf r:=by
 obtain⟨x,y,c,rfl,hy,h⟩:=h;have h2:bM (some (.slice (aA x y) r.length c)) 2=r.length:=by
  cases hs:aA x y with
  | none=>rfl
  | some a=>obtain⟨b,o,s⟩:=a;cases s<;>rfl
 refine⟨⟨_,_,_,rfl⟩,h2,?_⟩;rw[h2];rcases h with h | ⟨hx,hc⟩
 .subst h;refine⟨Or.inr (Or.inl rfl),?_⟩;show(if _ then ByteArray.empty else bytesOf (fe R _ _ 0))=ByteArray.empty;split<;>rfl
 .rw[Sn (by omega),TN hx hy,Y7];refine⟨Or.inr (Or.inr ⟨hx,hy,dA hc (ZB _)⟩),?_⟩;rw[Zo (by omega),mC hc]
def iW (R RA:Hl) (v:Value) (rows:List (List Int)):Prop:=∃ (us:List Value) (x y:Int) (c:Nat),v=.slice (aA x y) us.length c/\0<=y/\us.length=rows.length/\(∀ (j:Nat) (u:Value),us[j]?=some u->0<=x/\R.cell x.toNat (y.toNat+j)=some u)/\(∀ (j:Nat) (u:Value) (r:List Int),us[j]?=some u->rows[j]?=some r->fp RA u r)
theorem iW.uniq {R RA:Hl} {v:Value} {a b:List (List Int)} (h1:iW R RA v a) (h2:iW R RA v b):a=b:=by
 obtain⟨us,x,y,c,hv,hy,hl,hc,hr⟩:=h1;obtain⟨us',x',y',c',hv',hy',hl',hc',hr'⟩:=h2;rw[hv]at hv';simp only[Value.slice.injEq]at hv';obtain⟨ep,el,_⟩:=hv';apply aaL (by omega);intro j hj hj';have hu:us[j]?=some us[j]:=Y8 (by omega);have hu':us'[j]?=some us'[j]:=Y8 (by omega);obtain⟨hx,e1⟩:=hc j _ hu;obtain⟨hx',e2⟩:=hc' j _ hu';obtain⟨exx,eyy⟩:=jG (by omega) hy (by omega) hy' ep;have eyy:=eyy hx;subst exx;subst eyy;rw[e1]at e2;have e2:us[j]=us'[j]:=by simpa using e2
 have h1:=hr j _ _ hu (Y8 hj);have h2:=hr' j _ _ hu' (Y8 hj');rw[e2]at h1;exact h1.uniq h2
theorem iW.at {R RA:Hl} {x y:Int} {l c:Nat} {rows:List (List Int)} (h:iW R RA (.slice (aA x y) l c) rows) (hy:0<=y):l=rows.length/\∀ (i:Nat) r,rows[i]?=some r->0<=x/\∃ u,R.cell x.toNat (y.toNat+i)=some u/\fp RA u r:=by
 obtain⟨us,x',y',c',hv,hy',hl,hc,hr⟩:=h;simp only[Value.slice.injEq]at hv;obtain⟨ep,el,_⟩:=hv;refine⟨by omega,fun i r hi=>?_⟩;have hi':=(Zi.1 hi).1;have hu:us[i]?=some us[i]:=Y8 (by omega);obtain⟨hx,e⟩:=hc i _ hu;obtain⟨rfl,rfl⟩:=OZ hx hy' hy ep;exact⟨hx,_,e,hr i _ r hu hi⟩
def cE (rows:List (List Int)):List Int:=(rows.map bq).flatten
def iu (rows:List (List Int)):Prop:=∀ r∈rows,r.length<=4096
theorem FJ {rows:List (List Int)} {k:Nat} {r:List Int} (h:rows[k]?=some r):cE (rows.take (k+1))=cE (rows.take k)++bq r:=by
 unfold cE;rw[aaC,h,aaE,ZP,abi];simp
def o7:Sx.Spec where
 fn:=86
 own:=[]
 rd:=[0,3000000]
 res:=[.one .sl,.one (.int .i64)]
 pre:=fun xs Hs Rs=>∃ v R RA rows,xs=[v]/\Rs=[R,RA]/\iW R RA v rows/\rows.length<=1000000/\∀ r∈rows,0<=r.length
 post:=fun xs Hs Rs w Hs' F=>∃ v R RA rows u e,xs=[v]/\Rs=[R,RA]/\iW R RA v rows/\w=.tuple #[u,.int .i64 e]/\(iu rows->e=0/\cH F 5 u (cE rows))/\(¬iu rows->e=3)
def Si:List Sx.Spec:=[mY,mc]
theorem Rc:∀ t∈Si,t.OK Tryz.prog:=fun t ht=>by
 simp only[Si,Zl,Zq,ZO]at ht;rcases ht with rfl | rfl
 .exact zj
 .exact wY
def xh:Nd:=(fun b h i=>(fun d j g=>(fun a c f=>(.and (.e (.le b (.var 2))) (.and (.inv 0 [⟨53,0,.int .i64 (.lit (-1))⟩,⟨54,0,.int .i64 b⟩,⟨55,0,.int .i64 b⟩,⟨50,0,.int .i64 b⟩] [(56,none)]) (.havoc 0 0 6 (.and (.imp (.lt i (.var 2)) (.and (.e (.le b h)) (.and (.e (.le b (.var 1))) (.and (.e (.le b i)) (.and (.e (.his 4 h d 0 .slice)) (.ext (.alloc 60) (.and (.pre a) (.ext a (.and (.pre f) (.ext f (.and (.imp (.not (.eq (.var 67) b)) (.post [.ro 4 [.var 0] false,.ro 5 [] true,.hp 56 [] [.var 53] [],.hp 61 [] [.var 60] [],.hp 63 [] [.var 63] []] (.tup [.one (.sl (.lit (-1)) b b b),.one (.int .i64 (.var 67))]))) (.imp (.eq (.var 67) b) (.and (.pre c) (.ext c (.back 0 0 [⟨53,0,.int .i64 (.var 68)⟩,⟨54,0,.int .i64 (.add (.var 54) (.var 65))⟩,⟨55,0,.int .i64 (.var 69)⟩,⟨50,0,.int .i64 (.wrap .i64 (.add i (.lit 1)))⟩] [(56,some 68)]))))))))))))))) (.imp (.not (.lt i (.var 2))) (.post [.ro 4 [.var 0] false,.ro 5 [] true,.hp 56 [] [.var 53] []] (.tup [.one g,.one (.int .i64 b)])))))):Nd)) (.call 0 61 [.sv j,.sv (.one (.sl (.hP 4 h d 0 0) (.hP 4 h d 0 1) (.hP 4 h d 0 2) (.hP 4 h d 0 3)))] [.bD 60 [.sl (.lit (-1)) b b b,.bool .ff] 208] [.ro 5 [] true]) (.app 68 5 1 1 g (.var 54) (.hp 56 [] [.var 53] []) (.seg 63 (.var 63) (.var 64) (.var 65))) (.call 1 63 [.sv j] [] [.hp 61 [] [.var 60] []])) (.add (.var 1) i) (.one (.hptr (.var 60) b)) (.sl (.var 53) b (.var 54) (.var 55))) (.lit 0) (.var 0) (.var 50)
def rO:bU Tryz.prog Si o7.fn where
 Λ:=fun p=>if LL p then some ⟨0,[(4,.sv (.one (.sl (.var 53) (.lit 0) (.var 54) (.var 55)))),(12,TI .i64 (.var 50))],[(2,.hp 56 [] [.var 53] [])],60⟩else none
 args:=[.sv (.one (.sl (.var 0) (.var 1) (.var 2) (.var 3)))]
 mem:=[.ro 4 [.var 0] false,.ro 5 [] true]
 nv:=6
 nd:=xh
 ok:=by kernel_rfl
theorem VN:Si[0]?=some mY:=rfl
theorem VO:Si[1]?=some mc:=rfl
theorem VP:mY.res=[]:=rfl
theorem VQ:mc.res=[.one .sl,.one (.int .i64)]:=rfl
theorem Wx (n:Nat):(br n [Cp.one .sl,Cp.one (.int .i64)]≠[])=True:=by simp [br,Cp.roots,Ck.root]
theorem FK:o7.OK Tryz.prog:=by
 refine Spec.bJ (Γ:=Si) Rc ?_;rintro xs Hs Rs hl1 hl2 ⟨v,R,RA,rows,rfl,rfl,hB,hlen,aL⟩;have e0:Hs=[]:=Za.1 hl1;subst e0;obtain⟨us,x,y,c,rfl,hy,hul,hcell,hrd⟩:=id hB;refine⟨rO,bw [x,y,us.length,c] false [Hl.none,Hl.none,Hl.none,Hl.none,R,RA],fun _ q=>∃ k:Nat,q.i 50=k/\k<=rows.length/\(∀ r∈rows.take k,r.length<=4096)/\ -1<=q.i 53/\q.i 54=(cE (rows.take k)).length/\0<=q.i 55/\cH (q.h 56) 5 (.slice (aA (q.i 53) 0) (q.i 54).toNat (q.i 55).toNat) (cE (rows.take k))/\(cE (rows.take k)).length<=4106*k,fun _ q=>(rows.length-q.i 50).toNat,?_,⟨?_,?_,?_,?_⟩,(fun _ h=>nomatch h),?_⟩
 .show [Value.slice (aA x y) ((us.length:Int)).toNat ((c:Int)).toNat]=_;rw[Y7,Y7]
 .intro r hr ho;simp [rO]at hr;rcases hr with rfl | rfl<;>cases ho
 .intro r hr ho;simp [rO]at hr;rcases hr with rfl | rfl
  .exact⟨R,by simp,Hl.le_refl _⟩
  .exact⟨RA,by simp,Hl.le_refl _⟩
 .simp [rO,bx.own]
 .intro r hr;simp [rO]at hr;rcases hr with rfl | rfl<;>trivial
 .show Nd.holds _ _ _ xh;generalize hρ:bw [x,y,us.length,c] false [Hl.none,Hl.none,Hl.none,Hl.none,R,RA]=ρ;have v0:ρ.i 0=x:=by rw[<-hρ];rfl
  have v1:ρ.i 1=y:=by rw[<-hρ];rfl
  have v2:ρ.i 2=us.length:=by rw[<-hρ];rfl
  have v3:ρ.i 3=c:=by rw[<-hρ];rfl
  have w4:ρ.h 4=R:=by rw[<-hρ];rfl
  have w5:ρ.h 5=RA:=by rw[<-hρ];rfl
  clear hρ;unfold xh;simp only[Nd.holds,X.pre,X.rel,X.n,Src.ok,Src.len,Src.bG,Zy,Zm,ZG,Zx,Zp,Nat.reduceAdd,Zd,Zh,bn,bj,aJ,aU,aR,bm,aZ,bh,bg,bd,aV,ba,bk,aX,aW,aK,aY,ai,aj,aB,aF,aD,ar,aG,aQ,aP,aq,aI,az,aH,av,TV.ev,SV.ev,CV.ev,Zf,Zr,bx.hl,cu,Cp.sv,Ck.cv,bf,Cp.len,Ck.len,aE,aN,aT,VN,VO,VP,VQ,Wx];rw[v2];refine⟨by omega,⟨0,rfl,aam _,(by simp),Zw _,rfl,Zw _,⟨rfl,Or.inl ⟨rfl,rfl⟩⟩,by simp [cE]⟩,fun q g ⟨k,ek,hk,h4k,x53,y54,x55,hO,hle⟩=>?_⟩;rw[g.i 0,g.i 1,g.i 2,g.h 4,v0,v1,v2,w4,ek];refine⟨fun hlt=>?_,fun hge=>?_⟩
  .have hkr:k<rows.length:=by omega
   have hr:rows[k]?=some rows[k]:=Y8 hkr;have hu:us[k]?=some us[k]:=Y8 (by omega);obtain⟨hx0,hc⟩:=hcell k _ hu;have hRr:=hrd k _ _ hu hr;have hsl:∃ a l c,us[k]=Value.slice a l c:=(fp.parts hRr).1;have hck:R.cell x.toNat (y+(k:Int)).toNat=some us[k]:=by rw[show(y+(k:Int)).toNat=y.toNat+k by omega];exact hc
   refine⟨hx0,hy,by omega,by rw[hck];obtain⟨_,_,_,e⟩:=hsl;rw[e];rfl,fun q1 g1 p60=>?_⟩;have G1:ah 6 ρ q1:=g.tr g1;rw[G1.h 4,G1.h 5,G1.i 0,G1.i 1,g1.i 50,v0,v1,w4,w5,ek,hck,iB hsl,au p60];refine⟨⟨_,_,_,RA,[],false,rows[k],rfl,rfl,rfl,bV.new _,hRr,by simp,aL _ (aay _)⟩,fun q2 g2 ⟨F2,⟨p2,u2,H2,R2,bs2,lg2,b2,H2',e1,e2,e3,hO2,hR2,e4,hO2'⟩,_⟩=>?_⟩;simp only[Ze,Zm]at e1 e2 e3 e4;obtain⟨e1,e1'⟩:=e1;subst e1 e1' e2 e3;obtain⟨eb,el⟩:=(bV.new _).uniq hO2;subst eb el;obtain rfl:=hRr.uniq hR2;rw[<-e4]at hO2';have hOT:iT [] false rows[k]=if 4096<rows[k].length then([],true)else(bq rows[k],false):=rfl
   rw[hOT]at hO2';have htl:rows[k].length<=4096->(bq rows[k]).length<=4106:=fun h=>by
    unfold bq;have:=ma (z:=rows[k].length) (by omega);rw[Y9];omega
   have hbnd:(if 4096<rows[k].length then(([]:List Int),true)else(bq rows[k],false)).1.length<=1000000:=by
    split
    .simp
    .have:=htl (by omega);show(bq rows[k]).length<=_;omega
   rw[g2.i 60,au p60];refine⟨⟨_,_,_,_,rfl,rfl,hO2',hbnd⟩,fun q3 g3 ⟨F3,⟨p3,R3,bs3,lg3,u3,e1,e2,hO3,hv3,hw3⟩,hF3,hn3⟩=>?_⟩;simp only[Ze,Zm]at e1 e2;subst e1 e2;obtain⟨eb,el⟩:=hO2'.uniq hO3;subst eb el;simp only[Value.tuple.injEq,ZY,Ze,Value.int.injEq,Zy,Zm]at hv3;obtain⟨eu,e67⟩:=hv3;rw[<-eu,<-hF3 trivial]at hw3;have G3:ah 60 q q3:=g1.trans ((g2.tr g3).mono (by omega));have hn3:-1<=q3.i 63/\0<=q3.i 64/\0<=q3.i 65/\0<=q3.i 66:=hn3.1;by_cases hbig:4096<rows[k].length
   .rw[ZA hbig]at e67;have e67:q3.i 67=3:=e67;refine⟨fun _ _=>?_,fun h0=>(by omega)⟩;refine⟨[],[],rfl,rfl,⟨⟨fun j=>[-1,0,0,0,3].getD j 0,fun _=>false,fun _=>.empty,fun _=>.tuple #[],fun _=>Hl.none⟩,?_,⟨Zw _,Zw _,Zw _,Zw _⟩,trivial,trivial⟩,_,R,RA,rows,.slice none 0 0,3,rfl,rfl,hB,?_,fun hok=>?_,fun _=>rfl⟩
    .show Value.tuple #[.slice (aA (-1) 0) 0 0,.int .i64 (q3.i 67)]=_;rw[e67];rfl
    .show Value.tuple #[.slice (aA (-1) 0) 0 0,.int .i64 (q3.i 67)]=_;rw[e67];rfl
    .have:=hok _ (aay hkr);omega
   .rw[Zo hbig]at e67 hw3;have hl4:=htl (by omega);have hE:pw (bq rows[k]) false=(bq rows[k],0):=by unfold pw;rw[Zo (by simp;omega)]
    have e67:q3.i 67=(pw (bq rows[k]) false).2:=e67;have hw3:cH (q3.h 63) 5 (.slice (aA (q3.i 63) (q3.i 64)) (q3.i 65).toNat (q3.i 66).toNat) (pw (bq rows[k]) false).1:=hw3;rw[hE]at e67 hw3;refine⟨fun h=>absurd e67 h,fun _=>?_⟩;have hat:=hw3.rd.at hn3.1 hn3.2.1 hn3.2.2.1;have h65:q3.i 65=(bq rows[k]).length:=hat.1;obtain⟨hok,hseg⟩:=qx (R:=q3.h 63) (x:=q3.i 63) (y:=q3.i 64) (l:=q3.i 65) (bs:=bq rows[k]) h65 hn3.2.1 (hat.2.imp (·.2) id);rw[G3.i 53,G3.i 54,G3.i 55,G3.h 56];have hOw:bE (q.h 56) 5 1 (.slice (aA (q.i 53) 0) (q.i 54).toNat (q.i 55).toNat) (q.i 54).toNat (bK (cE (rows.take k))):=by
     have:=hO;unfold cH at this;rw[show(q.i 54).toNat=(cE (rows.take k)).length by omega]at this ⊢;exact this
    refine⟨⟨⟨_,hOw⟩,by omega,hok,by unfold maxLen;omega,by omega⟩,fun q4 g4 ⟨a1,a2,happ,_⟩=>?_⟩;have h2:=happ _ hOw;rw[hseg]at h2;have e65:q4.i 65=q3.i 65:=g4.i 65;have e54:q4.i 54=q.i 54:=by rw[g4.i 54,G3.i 54]
    have e50:q4.i 50=k:=by rw[g4.i 50,G3.i 50,ek]
    have hpk:=FJ hr;have hpl:(cE (rows.take (k+1))).length=(cE (rows.take k)).length+(bq rows[k]).length:=by rw[hpk,Y9]
    refine⟨⟨k+1,?_,by omega,fun r hrm=>?_,a1,?_,a2,?_,by omega⟩,?_⟩
    .show IntKind.i64.wrap (q4.i 50+1)=_;rw[e50,IntWalk.i64_in _ (by omega)];omega
    .rw[aaC,hr,aaE]at hrm;rcases ZT.1 hrm with h | h
     .exact h4k r h
     .rw[Zn]at h;subst h;omega
    .show q4.i 54+q4.i 65=_;rw[e54,e65];omega
    .show cH (q4.h 68) _ (.slice (aA (q4.i 68) 0) (q4.i 54+q4.i 65).toNat (q4.i 69).toNat) _;unfold cH;rw[e54,e65,hpk,fY,Y9];have ea:(q.i 54).toNat+(q3.i 65).toNat=(cE (rows.take k)).length+(bq rows[k]).length:=by omega
     have eb:(q.i 54+q3.i 65).toNat=(cE (rows.take k)).length+(bq rows[k]).length:=by omega
     rw[ea]at h2;rw[eb];exact h2
    .show((rows.length:Int)-IntKind.i64.wrap (q4.i 50+1)).toNat<_;rw[e50,IntWalk.i64_in _ (by omega)];omega
  .have hke:k=rows.length:=by omega
   subst hke;rw[aad]at h4k y54 hO;intro _;refine⟨[],[2],rfl,rfl,⟨⟨fun j=>[q.i 53,0,q.i 54,q.i 55,0].getD j 0,fun _=>false,fun _=>.empty,fun _=>.tuple #[],fun _=>Hl.none⟩,rfl,⟨x53,Zw _,by show 0<=q.i 54;omega,x55⟩,trivial,trivial⟩,_,R,RA,rows,.slice (aA (q.i 53) 0) (q.i 54).toNat (q.i 55).toNat,0,rfl,rfl,hB,rfl,fun _=>⟨rfl,?_⟩,fun hno=>absurd h4k hno⟩;show cH (dC [q.h 56]) _ _ _;rw[bz];exact hO
end Go.Proofs.YtomdimlnggpgbaaGreatDoor
namespace Go.Proofs.YtomdimlnggpgbaaGreatDoor
open Go Go.Sx Go.Pk Go.RowKit
def np:Nat:=0
def lQ:Nat:=1
def jS:Nat:=2
def Nj (g:Nat):Prop:=g=np\/g=lQ\/g=jS
def gv (a:Nat->Addr) (g:Nat):Value:=.iface 299 (.pointer (some (a g)))
structure Gl (R:Hl) (a:Nat->Addr):Prop where
 cell:∀ g,Nj g->R.cell g 0=some (gv a g)
 bD:∀ g,Nj g->∃ c t,R (a g).block=some (.cells c t (0,0))
 ne:∀ g h,Nj g->Nj h->g≠h->a g≠a h
theorem Gl.same {R:Hl} {a b:Nat->Addr} (h:Gl R a) (k:Gl R b) {g:Nat} (hg:Nj g):a g=b g:=by
 have:=(h.cell g hg).symm.trans (k.cell g hg);simpa [gv] using this
def gi (c:Int):Nat:=if c=4 then lQ else if c=14 then jS else np
theorem Cy (c:Int):Nj (gi c):=by
 unfold gi Nj;split
 .exact Or.inr (Or.inl rfl)
 .split
  .exact Or.inr (Or.inr rfl)
  .exact Or.inl rfl
def kq (a:Nat->Addr) (v:Value) (c:Int):Prop:=(c=0/\v=.nilIface)\/(c≠0/\∃ s:ByteArray,v=.iface 156 (.agg #[.string s,gv a (gi c)]))
theorem kq.same {R:Hl} {a b:Nat->Addr} (h:Gl R a) (k:Gl R b) {v:Value} {c d:Int} (hc:kq a v c) (hd:kq b v d):(c=0↔d=0)/\(c≠0->gi c=gi d):=by
 rcases hc with ⟨hc,e⟩ | ⟨hc,s,e⟩<;>rcases hd with ⟨hd,e'⟩ | ⟨hd,s',e'⟩<;>rw[e]at e'
 .exact⟨⟨fun _=>hd,fun _=>hc⟩,fun h=>absurd hc h⟩
 .cases e'
 .cases e'
 .refine⟨⟨fun h=>absurd h hc,fun h=>absurd h hd⟩,fun _=>?_⟩;simp only[Value.iface.injEq,Value.agg.injEq,ZY,Ze,Value.string.injEq,gv,Value.pointer.injEq,Zj,Zy,Zm]at e';rw[<-h.same k (Cy d)]at e';exact aak fun hne=>h.ne _ _ (Cy c) (Cy d) hne e'.2
open Classical in
noncomputable def Pt:Sx.Spec where
 fn:=87
 own:=[]
 rd:=[2000000]
 res:=[.one .bool]
 pre:=fun xs Hs Rs=>∃ e t R a c g,xs=[e,t]/\Rs=[R]/\Gl R a/\kq a e c/\Nj g/\t=gv a g
 post:=fun xs Hs Rs v Hs' F=>∃ e t R,xs=[e,t]/\Rs=[R]/\∀ a c g,Gl R a->kq a e c->Nj g->t=gv a g->v=.bool (decide (c≠0/\gi c=g))
theorem Lx:Pt.OK Tryz.prog:=by
 refine mA rfl fun w xs Rs hs ⟨e,t,R,a,c,g,e1,e2,hG,hE,hg,ht⟩=>?_;subst e1 e2 ht;refine⟨.bool (decide (c≠0/\gi c=g)),⟨⟨fun _=>0,fun _=>decide (c≠0/\gi c=g),fun _=>.empty,fun _=>.tuple #[],fun _=>Hl.none⟩,rfl,trivial,trivial⟩,?_,_,_,R,rfl,rfl,fun a' c' g' hG' hE' hg' ht'=>?_⟩
 .have hR:=hs R (by simp);obtain⟨cg,tg,hbg⟩:=hG.bD g hg;rcases hE with ⟨rfl,rfl⟩ | ⟨hc,s,rfl⟩
  .refine(QP (a g) w).mono fun e w' ⟨h1,h2⟩=>⟨(by rw[h1];simp),(by rw[h2];exact Below.refl _ _)⟩
  .by_cases hgc:gi c=g
   .subst hgc;refine(AM s (a (gi c)) w).mono fun e w' ⟨h1,h2⟩=>⟨(by rw[h1];simp [hc]),h2⟩
   .obtain⟨cc,tc,hbc⟩:=hG.bD (gi c) (Cy c);refine(yv s (a g) (a (gi c)) cc cg tc tg w (hG.ne _ _ (Cy c) hg hgc) (hR _ _ hbc) (hR _ _ hbg)).mono fun e w' ⟨h1,h2⟩=>⟨(by rw[h1];simp [hgc]),h2⟩
 .obtain⟨s1,s2⟩:=hE.same hG hG' hE';have hgg:g=g':=by
   have:a g=a' g':=by simpa [gv] using ht'
   rw[<-hG.same hG' hg']at this;exact aak fun hne=>hG.ne _ _ hg hg' hne this
  subst hgg
  congr 1
  by_cases h0:c=0
  .have:=s1.1 h0;simp [h0,this]
  .have h0':c'≠0:=fun h=>h0 (s1.2 h);rw[<-s2 h0];simp [h0,h0']
def sk:Sx.Spec where
 fn:=52
 own:=[]
 rd:=[2000000]
 res:=[.one .any]
 pre:=fun xs Hs Rs=>∃ (s:ByteArray) (c:Int) (R:Hl) (a:Nat->Addr),xs=[.string s,.int .i64 c]/\Rs=[R]/\Gl R a
 post:=fun xs Hs Rs v Hs' F=>∃ (s:ByteArray) (c:Int) (R:Hl),xs=[.string s,.int .i64 c]/\Rs=[R]/\∀ a,Gl R a->kq a v c
set_option maxRecDepth 20000 in
theorem BP (s:ByteArray) (c:Int) (a:Nat->Addr) (w:World) (h0:w.cell? ⟨np,0,none⟩=some (gv a np)) (h1:w.cell? ⟨lQ,0,none⟩=some (gv a lQ)) (h2:w.cell? ⟨jS,0,none⟩=some (gv a jS)) :
 Calls Tryz.prog 52 #[.string s,.int .i64 c] w fun e w'=>e=.returned (if c=0 then .nilIface else .iface 156 (.agg #[.string s,if c=4 then gv a lQ else if c=14 then gv a jS else gv a np]))/\w'=w:=by
 unfold gv np at h0;unfold gv lQ at h1;unfold gv jS at h2;by_cases c0:c=0
 .subst c0
  go_enter Tryz.func52,Tryz.ntmps52
  go_wp2
  go_ret
  exact⟨rfl,rfl⟩
 .rw[Zo c0];by_cases c4:c=4
  .subst c4
   go_enter Tryz.func52,Tryz.ntmps52
   go_wp2
   go_ret
   exact⟨rfl,rfl⟩
  .rw[Zo c4];by_cases c14:c=14
   .subst c14
    go_enter Tryz.func52,Tryz.ntmps52
    go_wp2
    go_ret
    exact⟨rfl,rfl⟩
   .rw[Zo c14]
    go_enter Tryz.func52,Tryz.ntmps52
    go_wp2
    go_ret
    exact⟨rfl,rfl⟩
def Nc (a:Nat->Addr) (s:ByteArray) (c:Int):Value:=if c=0 then .nilIface else .iface 156 (.agg #[.string s,if c=4 then gv a lQ else if c=14 then gv a jS else gv a np])
theorem Ea:sk.OK Tryz.prog:=by
 refine mA rfl fun w xs Rs hs ⟨s,c,R,a,e1,e2,hG⟩=>?_;subst e1 e2;have hR:=hs R (by simp);have hv:=BP s c a w (Hl.gG hR (hG.cell _ (Or.inl rfl))) (Hl.gG hR (hG.cell _ (Or.inr (Or.inl rfl)))) (Hl.gG hR (hG.cell _ (Or.inr (Or.inr rfl))));refine⟨Nc a s c,⟨⟨fun _=>0,fun _=>false,fun _=>.empty,fun _=>Nc a s c,fun _=>Hl.none⟩,rfl,trivial,trivial⟩,hv.mono fun e w' ⟨h1,h2⟩=>⟨h1,(by rw[h2];exact Below.refl _ _)⟩,s,c,R,rfl,rfl,fun a' hG'=>?_⟩;unfold Nc;by_cases c0:c=0
 .rw[ZA c0];exact Or.inl ⟨c0,rfl⟩
 .rw[Zo c0];refine Or.inr ⟨c0,s,?_⟩
  congr 3
  unfold gi;split
  .unfold gv;rw[hG.same hG' (Or.inr (Or.inl rfl))]
  .split
   .unfold gv;rw[hG.same hG' (Or.inr (Or.inr rfl))]
   .unfold gv;rw[hG.same hG' (Or.inl rfl)]
def py (c:Int):Int:=if c=0 then 0 else if gi c=lQ then 4 else if gi c=jS then 14 else 5
def mX:Sx.Spec where
 fn:=88
 own:=[]
 rd:=[2000000]
 res:=[.one (.int .i64)]
 pre:=fun xs Hs Rs=>∃ e R a c,xs=[e]/\Rs=[R]/\Gl R a/\kq a e c
 post:=fun xs Hs Rs v Hs' F=>∃ e R,xs=[e]/\Rs=[R]/\∀ a c,Gl R a->kq a e c->v=.int .i64 (py c)
noncomputable def Tq:List Sx.Spec:=[Pt]
theorem Q7:∀ t∈Tq,t.OK Tryz.prog:=fun t ht=>by
 simp only[Tq,Zl,Zq,ZO]at ht;rw[ht];exact Lx
def Fx:Nd:=(fun a d=>(fun b c=>(.and (.e (.le (.vint 0) (.lit 1))) (.and (.imp (.eq (.vint 0) d) (.post a (.sv (.one (.int .i64 d))))) (.imp (.not (.eq (.vint 0) d)) (.and (.e (.his 1 (.lit 1) d 0 .any)) (.and (.pre b) (.ext b (.and (.imp (.bvar 2) (.post a (.sv (.one (.int .i64 (.lit 4)))))) (.imp (.not (.bvar 2)) (.and (.e (.his 1 (.lit 2) d 0 .any)) (.and (.pre c) (.ext c (.and (.imp (.bvar 3) (.post a (.sv (.one (.int .i64 (.lit 14)))))) (.imp (.not (.bvar 3)) (.post a (.sv (.one (.int .i64 (.lit 5))))))))))))))))):Nd)) (.call 0 2 [.sv (.one (.vr 0)),.sv (.one (.hv 1 (.lit 1) d 0))] [] a) (.call 0 3 [.sv (.one (.vr 0)),.sv (.one (.hv 1 (.lit 2) d 0))] [] a)) [.ro 1 [.lit 0,.lit 1,.lit 2] false] (.lit 0)
noncomputable def C6:bU Tryz.prog Tq mX.fn where
 Λ:=aM
 args:=[.sv (.one (.vr 0))]
 mem:=[.ro 1 [.lit 0,.lit 1,.lit 2] false]
 nv:=2
 nd:=Fx
 ok:=by kernel_rfl
theorem VB:Tq[0]?=some Pt:=rfl
theorem VC:Pt.res=[.one .bool]:=rfl
theorem Jl {R:Hl} {a b:Nat->Addr} (h:Gl R a) (k:Gl R b) {v:Value} {c d:Int} (hc:kq a v c) (hd:kq b v d):py c=py d:=by
 obtain⟨s1,s2⟩:=hc.same h k hd;unfold py;by_cases h0:c=0
 .rw[ZA h0,ZA (s1.1 h0)]
 .rw[Zo h0,Zo (fun h=>h0 (s1.2 h)),s2 h0]
theorem NO {a:Nat->Addr} {v:Value} {c:Int} (h:kq a v c):nz v<=1/\(nz v=0↔c=0):=by
 rcases h with ⟨hc,rfl⟩ | ⟨hc,s,rfl⟩
 .exact⟨(by decide),fun _=>hc,fun _=>rfl⟩
 .exact⟨Zw 1,fun h=>absurd (show(1:Int)=0 from h) (by omega),fun h=>absurd h hc⟩
open Classical in
theorem E9 {e:Value} {R:Hl} {a:Nat->Addr} {c:Int} {g n:Nat} {q:Env} {K Hs:List Hl} {F:Hl} (hG:Gl R a) (hE:kq a e c) (hg:Nj g) (hp:Pt.post [e,gv a g] Hs [R] (.bool (bN q (.bvar n))) K F):(q.b n=true)=(c≠0/\gi c=g):=by
 obtain⟨e',t',R',e1,e2,h⟩:=hp;simp only[Ze,Zm]at e1 e2;obtain⟨rfl,rfl⟩:=e1;subst e2;have:=h a c g hG hE hg rfl;rw[cn]at this;simp only[Value.bool.injEq]at this;rw[this];simp
theorem Fy:mX.OK Tryz.prog:=by
 refine Spec.bJ (Γ:=Tq) Q7 ?_;rintro xs Hs Rs hl1 hl2 ⟨e,R,a,c,rfl,rfl,hG,hE⟩;have e0:Hs=[]:=Za.1 hl1;subst e0;refine⟨C6,⟨fun _=>0,fun _=>false,fun _=>.empty,fun _=>e,fun _=>R⟩,fun _ _=>True,fun _ _=>0,rfl,⟨?_,?_,?_,?_⟩,(fun _ h=>nomatch h),?_⟩
 .intro r hr ho;simp [C6]at hr;subst hr;cases ho
 .intro r hr ho;simp [C6]at hr;subst hr;exact⟨R,by simp,Hl.le_refl _⟩
 .simp [C6]
 .intro r hr;simp [C6]at hr;subst hr;trivial
 .show Nd.holds _ _ _ Fx;generalize hρ:(⟨fun _=>0,fun _=>false,fun _=>.empty,fun _=>e,fun _=>R⟩:Env)=ρ;have v0:ρ.v 0=e:=by rw[<-hρ]
  have w1:ρ.h 1=R:=by rw[<-hρ]
  clear hρ;have out:∀ {q:Env} {z:Int} {mem:Mem},z=py c->postOf mX [e] [] [R] q mem (.sv (.one (.int .i64 (.lit z)))):=by
   rintro q z mem rfl _;exact⟨[],[],rfl,rfl,⟨⟨fun _=>py c,fun _=>false,fun _=>.empty,fun _=>.tuple #[],fun _=>Hl.none⟩,rfl,trivial,trivial⟩,e,R,rfl,rfl,fun a' c' hG' hE'=>by
    rw[<-Jl hG hG' hE hE'];rfl⟩
  have hcode:=NO hE;unfold Fx;simp only[Nd.holds,X.pre,X.rel,X.n,Src.ok,Src.len,Src.bG,Zy,Zm,ZG,Zx,Zp,Nat.reduceAdd,Zd,Zh,bn,bj,aJ,aU,aR,bm,aZ,bh,bg,bd,aV,ba,bk,aX,aW,aK,aY,ai,aj,aB,aF,aD,ar,aG,aQ,aP,aq,aI,az,aH,av,TV.ev,SV.ev,CV.ev,Zf,Zr,bx.hl,cu,Cp.sv,Ck.cv,bf,Cp.len,Ck.len,aE,aN,aT,VB,VC,wo];rw[v0,w1];have cF:R.cell (Int.toNat 1) (Int.toNat 0)=some (gv a lQ):=hG.cell lQ (Or.inr (Or.inl rfl));have cS:R.cell (Int.toNat 2) (Int.toNat 0)=some (gv a jS):=hG.cell jS (Or.inr (Or.inr rfl));rw[cF];refine⟨hcode.1,fun h0=>out (by unfold py;rw[ZA (hcode.2.1 h0)]),fun h0=>⟨rfl,⟨e,_,R,a,c,lQ,rfl,rfl,hG,hE,Or.inr (Or.inl rfl),rfl⟩,fun q1 g1 ⟨F1,hp1,_⟩=>?_⟩⟩;have hc0:c≠0:=fun h=>h0 (hcode.2.2 h);have r1:=E9 hG hE (Or.inr (Or.inl rfl)) hp1;rw[r1,g1.h 1,g1.v 0,v0,w1,cS];refine⟨fun h=>out (by unfold py;rw[Zo hc0,ZA h.2]),fun h=>⟨rfl,⟨e,_,R,a,c,jS,rfl,rfl,hG,hE,Or.inr (Or.inr rfl),rfl⟩,fun q2 g2 ⟨F2,hp2,_⟩=>?_⟩⟩;have hn1:gi c≠lQ:=fun e=>h ⟨hc0,e⟩;have r2:=E9 hG hE (Or.inr (Or.inr rfl)) hp2;rw[r2];exact⟨fun h=>out (by unfold py;rw[Zo hc0,Zo hn1,ZA h.2]),fun h=>out (by unfold py;rw[Zo hc0,Zo hn1,Zo fun e=>h ⟨hc0,e⟩])⟩
end Go.Proofs.YtomdimlnggpgbaaGreatDoor
namespace Go.Sx
open Go
theorem Hu {A B C D:Hl} (h1:A.cG B) (h2:A.cG C) (h3:A.cG D) (h4:B.cG C) (h5:B.cG D) (h6:C.cG D):A.le (dC [A,B,C,D])/\B.le (dC [A,B,C,D])/\C.le (dC [A,B,C,D])/\D.le (dC [A,B,C,D]):=by
 obtain⟨r1,r2,r3⟩:=AG h4 h5 h6;have hd:A.cG (dC [B,C,D]):=by
  show A.cG (B.un (C.un (D.un Hl.none)));exact Hl.Ar h1 (Hl.Ar h2 (Hl.Ar h3 (Hl.KY _)))
 have hr:(dC [B,C,D]).le (dC [A,B,C,D]):=Hl.cD hd;exact⟨Hl.cC _ _,fun k o h=>hr k o (r1 k o h),fun k o h=>hr k o (r2 k o h),fun k o h=>hr k o (r3 k o h)⟩
theorem mo.mono {R R':Hl} (hl:R.le R') {u:Value} {bs:List Int} (h:mo R u bs):mo R' u bs:=by
 obtain⟨x,y,c,hv,hy,h⟩:=h;refine⟨x,y,c,hv,hy,h.imp id fun⟨h0,h⟩=>⟨h0,fun j z hz=>?_⟩⟩;have:=h j z hz;unfold Hl.cell at this ⊢;split at this
 .rename_i o c' T fr ho;rw[hl _ _ ho];exact this
 .cases this
end Go.Sx
namespace Go.Proofs.YtomdimlnggpgbaaGreatDoor.D
open Go Go.Sx
def nG (H:Hl) (p dp:Value) (L:LM) (bs:List Int):Prop:=∃ sl,fv H p dp sl L/\mo H sl bs
theorem nG.mono {R R':Hl} (hl:R.le R') {p dp:Value} {L:LM} {bs:List Int} (h:nG R p dp L bs):nG R' p dp L bs:=by
 obtain⟨sl,h1,h2⟩:=h;exact⟨sl,fv.mono h1 hl,mo.mono hl h2⟩
theorem dW.rd {H:Hl} {p dp:Value} {L:LM} {bs:List Int} (h:dW H p dp L bs):nG H p dp L bs:=h.parts
theorem nG.uniq {H:Hl} {p dp dp':Value} {L L':LM} {bs bs':List Int} (h:nG H p dp L bs) (h':nG H p dp' L' bs'):dp=dp'/\L=L'/\bs=bs':=by
 obtain⟨sl,h1,h2⟩:=h;obtain⟨sl',h1',h2'⟩:=h';obtain⟨e1,rfl,e3⟩:=h1.uniq h1';exact⟨e1,e3,h2.uniq h2'⟩
theorem Bw {dp v:Value} {H H' F:Hl} {D:DM} (hD:aO H dp D) (hp:iA.post [dp] [H] [] v [H'] F):aO H' dp D/\v=.int .i64 D.n:=by
 obtain⟨p',Hx,D',H2,hx,hH,hD',hH2,hD2,hv⟩:=hp;simp only[Ze,Zm]at hx hH hH2;subst hx hH;have e:=hD'.uniq hD;subst e;rw[<-hH2]at hD2;exact⟨hD2,hv⟩
theorem zm {dp v:Value} {frm n:Int} {H H' F:Hl} {D:DM} (hD:aO H dp D) (hp:rG.post [dp,.int .i64 frm,.int .i64 n] [H] [] v [H'] F) :
 ∃ pv,aO H' dp D/\v=.tuple #[pv,.int .i64 (jd D frm n)]/\(jd D frm n=0->dW F pv dp (je D frm n) (jw D frm n))/\(jd D frm n≠0->pv=.pointer none):=by
 obtain⟨dp',frm',n',Hx,D',H'',pv,hx,hH,hDx,hH',hDy,hv,hl⟩:=hp;have hx:dp=dp'/\frm=frm'/\n=n':=by simpa using hx
 obtain⟨e1,e2,e3⟩:=hx;subst e1 e2 e3;have hH:H=Hx:=by simpa using hH
 subst hH;have e:=hDx.uniq hD;subst e;have hH':H'=H'':=by simpa using hH'
 subst hH';exact⟨pv,hDy,hv,hl⟩
theorem B7 {p u dp v:Value} {nt b bs:List Int} {H HD R F:Hl} {K:List Hl} {L:LM} {D:DM} (h1:dW H p dp L bs) (h2:aO HD dp D) (h3:fp R u b) (hp:mw.post [p,u,.agg (bK nt).toArray] [H,HD] [R] v K F) :
 ∃ H' HD',K=[H',HD']/\aO HD' dp (bW D L bs b nt).D/\dW H' p dp (bW D L bs b nt).L (bW D L bs b nt).bs/\v=.int .i64 (bW D L bs b nt).e:=by
 obtain⟨p',u',b',nt',Hx,HDx,Rx,dp',L',bs',D',H',HD',hx,hH,hR,hLx,hDx,hBx,hK,hDy,hLy,hv⟩:=hp;have hx:p=p'/\u=u'/\bK nt=bK nt':=by simpa using hx
 obtain⟨e1,e2,e3⟩:=hx;have e3:=jy e3;subst e1 e2 e3;have hH:H=Hx/\HD=HDx:=by simpa using hH
 obtain⟨e1,e2⟩:=hH;subst e1 e2;have hR:R=Rx:=by simpa using hR
 subst hR;obtain⟨e1,e2,e3⟩:=hLx.uniq h1;subst e1 e2 e3;have e:=hDx.uniq h2;subst e;have e:=hBx.uniq h3;subst e;exact⟨H',HD',hK,hDy,hLy,hv⟩
theorem yD {p dp:Value} {H:Hl} {L:LM} {bs:List Int} (h:nG H p dp L bs) (hb:bs.length<=1048576):dt.pre [p] [] [H,H]:=by
 obtain⟨sl,h1,h2⟩:=h;exact⟨p,H,H,dp,sl,L,bs,rfl,rfl,h1,h2,hb⟩
theorem vl {p dp v:Value} {H F:Hl} {K:List Hl} {L:LM} {bs:List Int} (h:nG H p dp L bs) (hp:dt.post [p] [] [H,H] v K F):cH F 5 v bs:=by
 obtain⟨sl,h1,h2⟩:=h;obtain⟨p',R1,R2,dp',sl',L',bs',hx,hR,hLx,hBx,hO⟩:=hp;have hx:p=p':=by simpa using hx
 subst hx;have hR:H=R1/\H=R2:=by simpa using hR
 obtain⟨e1,e2⟩:=hR;subst e1 e2;obtain⟨e1,e2,e3⟩:=hLx.uniq h1;subst e1 e2 e3;have e:=hBx.uniq h2;subst e;exact hO
theorem MH {p dp:Value} {H:Hl} {L:LM} {bs:List Int} (h:nG H p dp L bs) (hb:bs.length<=1048576):pT.pre [p] [] [H]:=by
 obtain⟨sl,h1,h2⟩:=h;exact⟨p,H,dp,sl,L,bs.length,rfl,rfl,h1,mo.qz h2,hb⟩
theorem JE {p dp v:Value} {H F:Hl} {K:List Hl} {L:LM} {bs:List Int} (h:nG H p dp L bs) (hp:pT.post [p] [] [H] v K F):v=.int .i64 (L.most-bs.length):=by
 obtain⟨sl,h1,h2⟩:=h;obtain⟨p',R1,dp',sl',L',n',hx,hR,hLx,hs,hv⟩:=hp;have hx:p=p':=by simpa using hx
 subst hx;have hR:H=R1:=by simpa using hR
 subst hR;obtain⟨e1,e2,e3⟩:=hLx.uniq h1;subst e1 e2 e3;have e:=hs.uniq (mo.qz h2);subst e;exact hv
theorem I8 {p dp:Value} {H:Hl} {L:LM} {bs:List Int} (h:nG H p dp L bs):kY.pre [p] [] [H]:=by
 obtain⟨sl,h1,h2⟩:=h;exact⟨p,H,dp,sl,L,rfl,rfl,h1⟩
theorem Fg {p dp v:Value} {H F:Hl} {K:List Hl} {L:LM} {bs:List Int} (h:nG H p dp L bs) (hp:kY.post [p] [] [H] v K F):v=.agg (bK L.note).toArray:=by
 obtain⟨sl,h1,h2⟩:=h;obtain⟨p',R1,dp',sl',L',hx,hR,hLx,hv⟩:=hp;have hx:p=p':=by simpa using hx
 subst hx;have hR:H=R1:=by simpa using hR
 subst hR;obtain⟨e1,e2,e3⟩:=hLx.uniq h1;subst e1 e2 e3;exact hv
theorem rF {D:DM} (hD:D.ok) {frm n:Int} (hn:3<=n/\n<=16384):((jw D frm n).length:Int)<=64*(n-2):=by
 have hm:0<=64*(n-2):=by omega
 have h0:=(mJ hD frm hm 0).2;have h1:=(mJ hD frm hm 1).2;have hs:(je D frm n).size<=64*(n-2):=by
  show(nx D frm n).getD 1 0<=_;unfold nx;split
  .exact h1
  .exact h0
 unfold jw uG;rw[ZE];omega
end Go.Proofs.YtomdimlnggpgbaaGreatDoor.D
namespace Go.Proofs.YtomdimlnggpgbaaGreatDoor
open Go Go.Sx Go.Pk
open Go.Proofs.YtomdimlnggpgbaaGreatDoor.D hiding bw aM gC
theorem Hq {p dp:Value} {H:Hl} {L:LM} {bs:List Int} (h:nG H p dp L bs):ES.pre [p] [] [H]:=by
 obtain⟨sl,h1,h2⟩:=h;exact⟨p,H,dp,sl,L,rfl,rfl,h1⟩
theorem Cw {p dp v:Value} {H F:Hl} {K:List Hl} {L:LM} {bs:List Int} (h:nG H p dp L bs) (hp:ES.post [p] [] [H] v K F):v=.int .u64 (qd L):=by
 obtain⟨sl,h1,h2⟩:=h;obtain⟨p',R1,dp',sl',L',hx,hR,hLx,hv⟩:=hp;have hx:p=p':=by simpa using hx
 subst hx;have hR:H=R1:=by simpa using hR
 subst hR;obtain⟨e1,e2,e3⟩:=hLx.uniq h1;subst e1 e2 e3;exact hv
theorem xY {u v:Value} {R F:Hl} {K:List Hl} {bs:List Int} (h:fp R u bs) (hp:qF.post [u] [] [R] v K F):cO F v (iC bs):=by
 obtain⟨u',bs',R',e1,e2,hR',hO⟩:=hp;simp only[Ze,Zm]at e1 e2;subst e1 e2;rw[h.uniq hR'];exact hO
structure SM where
 LA:LM
 bA:List Int
 LB:LM
 bB:List Int
 recs:List (List Int)
 over:Bool
def JO (a:Nat) (pa pb sl:Value) (o:Bool):Hl:=Hl.one a (.cells #[pa,pb,sl,.bool o] 101 (0,0))
structure Nq (H:Hl) (a:Nat) (dp pa pb sl:Value) (HA HB HR:Hl) (S:SM):Prop where
 la:dW HA pa dp S.LA S.bA
 lb:dW HB pb dp S.LB S.bB
 rows:cO HR sl S.recs
 d1:(JO a pa pb sl S.over).cG HA
 d2:(JO a pa pb sl S.over).cG HB
 d3:(JO a pa pb sl S.over).cG HR
 d4:HA.cG HB
 d5:HA.cG HR
 d6:HB.cG HR
 hl:H=dC [JO a pa pb sl S.over,HA,HB,HR]
def ig (H:Hl) (p dp:Value) (S:SM):Prop:=∃ (a:Nat) (pa pb sl:Value) (HA HB HR:Hl),p=.pointer (some ⟨a,0,none⟩)/\Nq H a dp pa pb sl HA HB HR S
structure zZ (H:Hl) (a:Nat) (dp pa pb sl:Value) (S:SM):Prop where
 bD:H a=some (.cells #[pa,pb,sl,.bool S.over] 101 (0,0))
 la:nG H pa dp S.LA S.bA
 lb:nG H pb dp S.LB S.bB
 rows:cO H sl S.recs
def kS (H:Hl) (p dp:Value) (S:SM):Prop:=∃ (a:Nat) (pa pb sl:Value),p=.pointer (some ⟨a,0,none⟩)/\zZ H a dp pa pb sl S
theorem ig.rd {H:Hl} {p dp:Value} {S:SM} (h:ig H p dp S):kS H p dp S:=by
 obtain⟨a,pa,pb,sl,HA,HB,HR,hp,h⟩:=h;obtain⟨l1,l2,l3,l4⟩:=Hu h.d1 h.d2 h.d3 h.d4 h.d5 h.d6;rw[<-h.hl]at l1 l2 l3 l4;exact⟨a,pa,pb,sl,hp,l1 _ _ (Hl.bF _ _),h.la.rd.mono l2,h.lb.rd.mono l3,h.rows.mono l4⟩
theorem kS.mono {R R':Hl} (hl:R.le R') {p dp:Value} {S:SM} (h:kS R p dp S):kS R' p dp S:=by
 obtain⟨a,pa,pb,sl,hp,h⟩:=h;exact⟨a,pa,pb,sl,hp,hl _ _ h.bD,h.la.mono hl,h.lb.mono hl,h.rows.mono hl⟩
theorem kS.uniq {H:Hl} {p dp dp':Value} {S S':SM} (h:kS H p dp S) (h':kS H p dp' S'):dp=dp'/\S=S':=by
 obtain⟨a,pa,pb,sl,rfl,h⟩:=h;obtain⟨a',pa',pb',sl',hp,h'⟩:=h';have e:a=a':=by simpa using hp
 subst e;have hb:=h.bD.symm.trans h'.bD;simp only[Zj,Obj.cells.injEq,ZY,Ze,Value.bool.injEq,Zm]at hb;obtain⟨rfl,rfl,rfl,e4⟩:=hb;obtain⟨e1,e2,e3⟩:=h.la.uniq h'.la;obtain⟨_,e5,e6⟩:=h.lb.uniq h'.lb;have e7:=h.rows.uniq h'.rows;refine⟨e1,?_⟩;obtain⟨x1,x2,x3,x4,x5,x6⟩:=S;obtain⟨y1,y2,y3,y4,y5,y6⟩:=S';simp only at e2 e3 e4 e5 e6 e7;subst e2 e3 e4 e5 e6 e7;rfl
def fm (D:DM):Int:=if D.n/2<3 then 1 else if D.gone then 5 else 0
def qj (D:DM):LM:=je D 0 ((D.n/2:Nat):Int)
def kZ (D:DM):List Int:=jw D 0 ((D.n/2:Nat):Int)
def jU (D:DM):LM:=je D ((D.n/2:Nat):Int) ((D.n/2:Nat):Int)
def gT (D:DM):List Int:=jw D ((D.n/2:Nat):Int) ((D.n/2:Nat):Int)
def Tj (A:LM) (bA:List Int) (B:LM) (bB:List Int):SM:=⟨A,bA,B,bB,iC bA,false⟩
def fT (D:DM):SM:=if qd (qj D)<qd (jU D)then Tj (jU D) (gT D) (qj D) (kZ D)else Tj (qj D) (kZ D) (jU D) (gT D)
def qA:Sx.Spec where
 fn:=13
 own:=[.arg 0]
 rd:=[]
 res:=[.one .ptr,.one (.int .i64)]
 links:=[0]
 pre:=fun xs Hs Rs=>∃ dp H D,xs=[dp]/\Hs=[H]/\aO H dp D/\aS (kZ D)/\aS (gT D)
 post:=fun xs Hs Rs v Hs' F=>∃ dp H D H' pv,xs=[dp]/\Hs=[H]/\aO H dp D/\Hs'=[H']/\aO H' dp D/\v=.tuple #[pv,.int .i64 (fm D)]/\(fm D=0->ig F pv dp (fT D))/\(fm D≠0->pv=.pointer none)
def O1:List Sx.Spec:=[iA,rG,ES,dt,qF]
theorem RL:∀ t∈O1,t.OK Tryz.prog:=fun t ht=>by
 simp only[O1,Zl,Zq,ZO]at ht;rcases ht with rfl | rfl | rfl | rfl | rfl
 .exact ug
 .exact Me
 .exact NT
 .exact yC
 .exact JY
def BE:Nd:=(fun a h c g e f j o=>(fun b d k m n p r s=>(fun i l q=>(.and (.pre q) (.ext q (.and (.imp (.lt h (.lit 3)) (.post [.hp 2 [1] c []] (.tup [.one p,.one (.int .i64 (.lit 1))]))) (.imp (.not (.lt h (.lit 3))) (.and (.pre i) (.ext i (.and (.imp (.not (.eq (.var 6) g)) (.post [.hp 4 [2,1] c [],.hp 5 [] j c] (.tup [.one p,.one (.int .i64 (.var 6))]))) (.imp (.eq (.var 6) g) (.and (.pre l) (.ext l (.and (.imp (.not (.eq (.var 9) g)) (.post [.hp 7 [4,2,1] c [],.hp 5 [] j c,.hp 8 [] o c] (.tup [.one p,.one (.int .i64 (.var 9))]))) (.imp (.eq (.var 9) g) (.and (.pre r) (.ext r (.and (.pre s) (.ext s (.and (.imp (.lt (.var 11) (.var 10)) (.and (.pre k) (.ext k (.and (.pre a) (.ext a (.ext (.alloc 20) (.post [.hp 7 [4,2,1] c [],.hp 5 [] j c,.hp 8 [] o c,.hp 12 [] [.var 12] [],.hp 16 [] [.var 16] [],.bD 20 [.hptr (.var 7) (.var 8),.hptr (.var 4) (.var 5),.sl (.var 16) (.var 17) (.var 18) (.var 19),.bool .ff] 101] m))))))) (.imp (.not (.lt (.var 11) (.var 10))) (.and (.pre n) (.ext n (.and (.pre a) (.ext a (.ext (.alloc 20) (.post [.hp 7 [4,2,1] c [],.hp 5 [] j c,.hp 8 [] o c,.hp 12 [] [.var 12] [],.hp 16 [] [.var 16] [],.bD 20 [.hptr (.var 4) (.var 5),.hptr (.var 7) (.var 8),.sl (.var 16) (.var 17) (.var 18) (.var 19),.bool .ff] 101] m))))))))))))))))))))))):Nd)) (.call 1 4 [.sv d,.sv (.one (.int .i64 g)),.sv b] [.hp 2 [1] c []] []) (.call 1 7 [.sv d,.sv b,.sv b] [.hp 4 [2,1] c []] []) (.call 0 2 [.sv d] [.hp 1 [] c []] [])) (.one (.int .i64 h)) (.one (.hptr (.var 0) g)) (.call 3 12 e [] [.hp 8 [] o c,.hp 8 [] o c]) (.tup [.one (.hptr (.var 20) g),.one (.int .i64 g)]) (.call 3 12 f [] [.hp 5 [] j c,.hp 5 [] j c]) (.hptr (.lit (-1)) g) (.call 2 10 e [] [.hp 8 [] o c]) (.call 2 11 f [] [.hp 5 [] j c])) (.call 4 16 [.sv (.one (.sl (.var 12) (.var 13) (.var 14) (.var 15)))] [] [.hp 12 [] [.var 12] []]) (.wrap .i64 (.quo (.var 2) (.lit 2))) [.var 0] (.lit 0) [.sv (.one (.hptr (.var 7) (.var 8)))] [.sv (.one (.hptr (.var 4) (.var 5)))] [.var 4] [.var 7]
def xV:bU Tryz.prog O1 qA.fn where
 Λ:=aM
 args:=[TP (.var 0) (.lit 0)]
 mem:=[.hp 1 [] [.var 0] []]
 nv:=2
 nd:=BE
 ok:=by kernel_rfl
theorem WX:O1[0]?=some iA:=rfl
theorem WY:O1[1]?=some rG:=rfl
theorem WZ:O1[2]?=some ES:=rfl
theorem W0:O1[3]?=some dt:=rfl
theorem W1:O1[4]?=some qF:=rfl
theorem W2:iA.res=[.one (.int .i64)]:=rfl
theorem W3:rG.res=[.one .ptr,.one (.int .i64)]:=rfl
theorem W4:ES.res=[.one (.int .u64)]:=rfl
theorem W5:dt.res=[.one .sl]:=rfl
theorem W6:qF.res=[.one .sl]:=rfl
theorem XY (n:Nat):(br n [Cp.one .ptr,Cp.one (.int .i64)]≠[])=True:=by simp [br,Cp.roots,Ck.root]
theorem yN {n:Nat} (h:n<=16384):IntKind.i64.wrap ((n:Int).tdiv 2)=((n/2:Nat):Int):=by
 have e:(n:Int).tdiv 2=((n/2:Nat):Int):=rfl;rw[e];exact wrap_i64 (by omega) (by omega)
set_option maxRecDepth 4000 in
theorem JU:qA.OK Tryz.prog:=by
 refine Spec.bJ (Γ:=O1) RL ?_;rintro xs Hs Rs hl1 hl2 ⟨dp,H,D,rfl,rfl,hD,hlo,hhi⟩;have e1:Rs=[]:=Za.1 hl2;subst e1;obtain⟨da,s,m,es,clock,hdp,hDi⟩:=id hD;have hDn:=hDi.ok.n;have hok:=hDi.ok;refine⟨xV,bw [(da:Int)] false [Hl.none,H],fun _ _=>True,fun _ _=>0,?_,⟨?_,?_,?_,?_⟩,(fun _ h=>nomatch h),?_⟩
 .show [Value.pointer (aA (da:Int) 0)]=_;rw[gM,hdp]
 .intro r hr ho;simp [xV]at hr;subst hr;exact⟨H,by simp,Hl.le_refl _⟩
 .intro r hr ho;simp [xV]at hr;subst hr;cases ho
 .simp [xV]
 .intro r hr;simp [xV]at hr;subst hr;trivial
 .show Nd.holds _ _ _ BE;generalize hρ:bw [(da:Int)] false [Hl.none,H]=ρ;have v0:ρ.i 0=da:=by rw[<-hρ];rfl
  have w1:ρ.h 1=H:=by rw[<-hρ];rfl
  clear hρ;have ep:Value.pointer (aA (da:Int) 0)=dp:=by rw[gM,hdp]
  have bad:∀ (q:Env) (k:Nat) (vs:List Nat) (t:Mem) (x:E) (e:Int),aO (q.h k) dp D->aC q x=e->fm D=e->e≠0 ->
   postOf qA [dp] [H] [] q (.hp k vs [.var 0] []::t) (.tup [.one (.hptr (.lit (-1)) (.lit 0)),.one (.int .i64 x)]):=by
   intro q k vs t x e hq hx he hne _;refine⟨[[0]],[],rfl,rfl,⟨⟨fun j=>[-1,0,e].getD j 0,fun _=>false,fun _=>.empty,fun _=>.tuple #[],fun _=>Hl.none⟩,?_,⟨by show(-1:Int)<= -1;omega,Zw _⟩,trivial,trivial⟩,dp,H,D,_,.pointer none,rfl,rfl,hD,rfl,?_,?_,fun h=>absurd (he.symm.trans h) hne,fun _=>rfl⟩
   .subst hx;rfl
   .show aO (dC [q.h k]) _ _;rw[bz];exact hq
   .rw[he,<-hx];rfl
  unfold BE;simp only[Nd.holds,X.pre,X.rel,X.n,Src.ok,Src.len,Src.bG,Zy,Zm,ZG,Zx,Zp,Nat.reduceAdd,Zd,Zh,bn,bj,aJ,aU,aR,bm,aZ,bh,bg,bd,aV,ba,bk,aX,aW,aK,aY,ai,aj,aB,aF,aD,ar,aG,aQ,aP,aq,aI,az,aH,av,TV.ev,SV.ev,CV.ev,Zf,Zr,bx.hl,cu,Cp.sv,Ck.cv,bf,Cp.len,Ck.len,aE,aN,aT,WX,WY,WZ,W0,W1,W2,W3,W4,W5,W6,Kk,TJ,XY,Hy];rw[v0,w1,ep];refine⟨⟨dp,H,D,rfl,rfl,hD⟩,fun q1 g1 ⟨F1,hp1,_⟩=>?_⟩;obtain⟨hD1,hv1⟩:=Bw hD hp1;have hv1:q1.i 2=D.n:=by simpa using hv1
  rw[hv1,yN hDn,g1.i 0,v0,ep];refine⟨fun hlt=>bad q1 2 _ _ _ 1 hD1 (ai _ _) (by unfold fm;rw[ZA (by omega)]) (by decide),fun hge=>?_⟩;have hn3:3<=D.n/2:=by omega
  have hE:fm D=if D.gone then 5 else 0:=by unfold fm;rw[Zo (by omega)]
  have hEA:jd D 0 ((D.n/2:Nat):Int)=if D.gone then 5 else 0:=by unfold jd;rw[Zo (by omega)]
  have hEB:jd D ((D.n/2:Nat):Int) ((D.n/2:Nat):Int)=if D.gone then 5 else 0:=by unfold jd;rw[Zo (by omega)]
  have hnn:3<=((D.n/2:Nat):Int)/\((D.n/2:Nat):Int)<=16384:=by omega
  refine⟨⟨dp,_,_,_,D,rfl,rfl,hD1⟩,fun q2 g2 ⟨F2,hp2,hF2,hn2⟩=>?_⟩;obtain⟨pA,hD2,hv2,hA,_⟩:=zm hD1 hp2;simp only[Value.tuple.injEq,ZY,Ze,Value.int.injEq,Zy,Zm]at hv2;obtain⟨eA,e6⟩:=hv2;have G2:ah 2 ρ q2:=g1.tr g2;have hq2:q2.i 2=D.n:=by rw[g2.i 2,hv1]
  rw[hq2,yN hDn,G2.i 0,v0,ep];refine⟨fun hne=>bad q2 4 _ _ _ 5 hD2 (by rw[aj,e6,hEA,ZA];exact aak fun hg=>hne (by rw[e6,hEA,Zo hg])) (by rw[hE,ZA];exact aak fun hg=>hne (by rw[e6,hEA,Zo hg])) (by decide),fun heq=>?_⟩;have hgone:D.gone=false:=by
   cases hg:D.gone with
   | false=>rfl
   | true=>rw[e6,hEA,hg]at heq;cases heq
  have hA:dW F2 pA dp (qj D) (kZ D):=hA (by rw[hEA,hgone];rfl);rw[<-eA,<-hF2 trivial]at hA;refine⟨⟨dp,_,_,_,D,rfl,rfl,hD2⟩,fun q3 g3 ⟨F3,hp3,hF3,hn3'⟩=>?_⟩;obtain⟨pB,hD3,hv3,hB,_⟩:=zm hD2 hp3;simp only[Value.tuple.injEq,ZY,Ze,Value.int.injEq,Zy,Zm]at hv3;obtain⟨eB,e9⟩:=hv3;have e9:q3.i 9=0:=by rw[e9,hEB,hgone];rfl
  have hB:dW F3 pB dp (jU D) (gT D):=hB (by rw[hEB,hgone];rfl);rw[<-eB,<-hF3 trivial]at hB;refine⟨fun h=>absurd e9 h,fun _=>⟨Hq hB.rd,fun q4 g4 ⟨F4,hp4,_⟩=>?_⟩⟩;have hv4:q4.i 10=qd (jU D):=by simpa using Cw hB.rd hp4
  have G4:ah 7 q2 q4:=g3.tr g4;have hA4:dW (q4.h 5) (.pointer (aA (q4.i 4) (q4.i 5))) dp (qj D) (kZ D):=by
   rw[G4.h 5,G4.i 4,G4.i 5];exact hA
  refine⟨Hq hA4.rd,fun q5 g5 ⟨F5,hp5,_⟩=>?_⟩;have hv5:q5.i 11=qd (qj D):=by simpa using Cw hA4.rd hp5
  have hv5':q5.i 10=qd (jU D):=by rw[g5.i 10,hv4]
  have hA5:dW (q5.h 5) (.pointer (aA (q5.i 4) (q5.i 5))) dp (qj D) (kZ D):=by
   rw[g5.h 5,g5.i 4,g5.i 5];exact hA4
  have G35:ah 10 q3 q5:=g4.tr g5;have hB5:dW (q5.h 8) (.pointer (aA (q5.i 7) (q5.i 8))) dp (jU D) (gT D):=by
   rw[G35.h 8,G35.i 7,G35.i 8];exact hB
  have hD5:aO (q5.h 7) dp D:=by rw[G35.h 7];exact hD3
  have hLA:((kZ D).length:Int)<=_:=rF hok (frm:=0) hnn;have hLB:((gT D).length:Int)<=_:=rF hok (frm:=((D.n/2:Nat):Int)) hnn;rw[hv5,hv5'];have hsE:fm D=0:=by rw[hE,hgone];rfl
  refine⟨fun hlt=>⟨yD hB5.rd (by omega),fun q6 g6 ⟨F6,hp6,hF6,hn6⟩=>?_⟩,fun hge=>⟨yD hA5.rd (by omega),fun q6 g6 ⟨F6,hp6,hF6,hn6⟩=>?_⟩⟩
  .have hO:=vl hB5.rd hp6;rw[<-hF6 trivial]at hO;have hRd:=hO.rd.w;refine⟨⟨_,_,_,rfl,rfl,hRd,hhi,by omega⟩,fun q7 g7 ⟨F7,hp7,hF7,hn7⟩ q8 g8 p8 hd=>?_⟩;have hW:=xY hRd hp7;rw[<-hF7 trivial]at hW;have G7:ah 12 q5 q8:=g6.trans ((g7.tr g8).mono (by omega));have hn7:-1<=q7.i 16/\0<=q7.i 17/\0<=q7.i 18/\0<=q7.i 19:=hn7.1;refine⟨[[0]],[5,2,1,4],rfl,rfl,⟨⟨fun j=>[q8.i 20,0,0].getD j 0,fun _=>false,fun _=>.empty,fun _=>.tuple #[],fun _=>Hl.none⟩,rfl,⟨by show -1<=q8.i 20;omega,Zw _⟩,trivial,trivial⟩,dp,H,D,_,Value.pointer (aA (q8.i 20) 0),rfl,rfl,hD,rfl,?_,?_,fun _=>?_,fun h=>absurd hsE h⟩
   .show aO (dC [q8.h 7]) _ _;rw[bz,G7.h 7];exact hD5
   .rw[hsE];rfl
   .unfold fT;rw[ZA hlt];have hW8:cO (q8.h 16) (.slice (aA (q8.i 16) (q8.i 17)) (q8.i 18).toNat (q8.i 19).toNat) (iC (gT D)):=by
     rw[g8.h 16,g8.i 16,g8.i 17,g8.i 18,g8.i 19];exact hW
    have hA8:dW (q8.h 5) (.pointer (aA (q8.i 4) (q8.i 5))) dp (qj D) (kZ D):=by
     rw[G7.h 5,G7.i 4,G7.i 5];exact hA5
    have hB8:dW (q8.h 8) (.pointer (aA (q8.i 7) (q8.i 8))) dp (jU D) (gT D):=by
     rw[G7.h 8,G7.i 7,G7.i 8];exact hB5
    exact⟨(q8.i 20).toNat,_,_,_,_,_,_,by rw[au p8];rfl,⟨hB8,hA8,hW8,hd 5 2 _ _ (by decide) rfl rfl rfl,hd 5 1 _ _ (by decide) rfl rfl rfl,hd 5 4 _ _ (by decide) rfl rfl rfl,hd 2 1 _ _ (by decide) rfl rfl rfl,hd 2 4 _ _ (by decide) rfl rfl rfl,hd 1 4 _ _ (by decide) rfl rfl rfl,rfl⟩⟩
  .have hO:=vl hA5.rd hp6;rw[<-hF6 trivial]at hO;have hRd:=hO.rd.w;refine⟨⟨_,_,_,rfl,rfl,hRd,hlo,by omega⟩,fun q7 g7 ⟨F7,hp7,hF7,hn7⟩ q8 g8 p8 hd=>?_⟩;have hW:=xY hRd hp7;rw[<-hF7 trivial]at hW;have G7:ah 12 q5 q8:=g6.trans ((g7.tr g8).mono (by omega));have hn7:-1<=q7.i 16/\0<=q7.i 17/\0<=q7.i 18/\0<=q7.i 19:=hn7.1;refine⟨[[0]],[5,1,2,4],rfl,rfl,⟨⟨fun j=>[q8.i 20,0,0].getD j 0,fun _=>false,fun _=>.empty,fun _=>.tuple #[],fun _=>Hl.none⟩,rfl,⟨by show -1<=q8.i 20;omega,Zw _⟩,trivial,trivial⟩,dp,H,D,_,Value.pointer (aA (q8.i 20) 0),rfl,rfl,hD,rfl,?_,?_,fun _=>?_,fun h=>absurd hsE h⟩
   .show aO (dC [q8.h 7]) _ _;rw[bz,G7.h 7];exact hD5
   .rw[hsE];rfl
   .unfold fT;rw[Zo hge];have hW8:cO (q8.h 16) (.slice (aA (q8.i 16) (q8.i 17)) (q8.i 18).toNat (q8.i 19).toNat) (iC (kZ D)):=by
     rw[g8.h 16,g8.i 16,g8.i 17,g8.i 18,g8.i 19];exact hW
    have hA8:dW (q8.h 5) (.pointer (aA (q8.i 4) (q8.i 5))) dp (qj D) (kZ D):=by
     rw[G7.h 5,G7.i 4,G7.i 5];exact hA5
    have hB8:dW (q8.h 8) (.pointer (aA (q8.i 7) (q8.i 8))) dp (jU D) (gT D):=by
     rw[G7.h 8,G7.i 7,G7.i 8];exact hB5
    exact⟨(q8.i 20).toNat,_,_,_,_,_,_,by rw[au p8];rfl,⟨hA8,hB8,hW8,hd 5 1 _ _ (by decide) rfl rfl rfl,hd 5 2 _ _ (by decide) rfl rfl rfl,hd 5 4 _ _ (by decide) rfl rfl rfl,hd 1 2 _ _ (by decide) rfl rfl rfl,hd 1 4 _ _ (by decide) rfl rfl rfl,hd 2 4 _ _ (by decide) rfl rfl rfl,rfl⟩⟩
def My (o:Bool) (rows:List (List Int)) (e:Int):Prop:=(o=true->e=5)/\(o=false->iu rows->e=0)/\(o=false->¬iu rows->e=3)
def sR:Sx.Spec where
 fn:=49
 own:=[]
 rd:=[0,1,3000001]
 res:=[.one .sl,.one (.int .i64)]
 pre:=fun xs Hs Rs=>∃ p v a o R R1 RA rows,xs=[p,v]/\Rs=[R,R1,RA]/\p=.pointer (some ⟨a,0,none⟩)/\R.cell a 3=some (.bool o)/\iW R1 RA v rows/\rows.length<=1000000/\∀ r∈rows,0<=r.length
 post:=fun xs Hs Rs w Hs' F=>∃ p v a o R R1 RA rows u e,xs=[p,v]/\Rs=[R,R1,RA]/\p=.pointer (some ⟨a,0,none⟩)/\R.cell a 3=some (.bool o)/\iW R1 RA v rows/\w=.tuple #[u,.int .i64 e]/\My o rows e/\(e=0->cH F 5 u (cE rows))
theorem FV {a:Nat} {o:Bool} {v w:Value} {R R1 RA F:Hl} {K:List Hl} {rows:List (List Int)} (h1:R.cell a 3=some (.bool o)) (h2:iW R1 RA v rows) (hp:sR.post [.pointer (some ⟨a,0,none⟩),v] [] [R,R1,RA] w K F) :
 ∃ u e,w=.tuple #[u,.int .i64 e]/\My o rows e/\(e=0->cH F 5 u (cE rows)):=by
 obtain⟨p',v',a',o',R',R1',RA',rows',u,e,e1,e2,e3,e4,e5,hw,hE,hO⟩:=hp;simp only[Ze,Zm]at e1 e2;obtain⟨ep,ev⟩:=e1;obtain⟨x1,x2,x3⟩:=e2;subst ep ev x1 x2 x3;have ea:a=a':=by simpa using e3
 subst ea;have eo:o=o':=by simpa using h1.symm.trans e4
 subst eo;obtain rfl:=h2.uniq e5;exact⟨u,e,hw,hE,hO⟩
theorem Dm {v w:Value} {R RA F:Hl} {K:List Hl} {rows:List (List Int)} (h2:iW R RA v rows) (hp:o7.post [v] [] [R,RA] w K F) :
 ∃ u e,w=.tuple #[u,.int .i64 e]/\(iu rows->e=0/\cH F 5 u (cE rows))/\(¬iu rows->e=3):=by
 obtain⟨v',R',RA',rows',u,e,e1,e2,e5,hw,hE,hO⟩:=hp;simp only[Ze,Zm]at e1 e2;obtain⟨x2,x3⟩:=e2;subst e1 x2 x3;obtain rfl:=h2.uniq e5;exact⟨u,e,hw,hE,hO⟩
def Mx:List Sx.Spec:=[o7]
theorem ON:∀ t∈Mx,t.OK Tryz.prog:=fun t ht=>by
 simp only[Mx,Zl,Zq,ZO]at ht;rw[ht];exact FK
def Bn:Nd:=(fun a b=>(.and (.e (.le (.lit 0) (.var 0))) (.and (.e (.his 5 (.var 0) (.lit 3) 0 .bool)) (.and (.imp b (.post [.ro 5 [.var 0] false,.ro 6 [.var 1] false,.ro 7 [] true] (.tup [.one (.sl (.lit (-1)) (.lit 0) (.lit 0) (.lit 0)),.one (.int .i64 (.lit 5))]))) (.imp (.not b) (.and (.pre a) (.ext a (.post [.ro 5 [.var 0] false,.ro 6 [.var 1] false,.ro 7 [] true,.hp 8 [] [.var 8] []] (.tup [.one (.sl (.var 8) (.var 9) (.var 10) (.var 11)),.one (.int .i64 (.var 12))]))))))):Nd)) (.call 0 8 [.sv (.one (.sl (.var 1) (.var 2) (.var 3) (.var 4)))] [] [.ro 6 [.var 1] false,.ro 7 [] true]) (.hB 5 (.var 0) (.lit 3) 0)
def xz:bU Tryz.prog Mx sR.fn where
 Λ:=aM
 args:=[TP (.var 0) (.lit 0),.sv (.one (.sl (.var 1) (.var 2) (.var 3) (.var 4)))]
 mem:=[.ro 5 [.var 0] false,.ro 6 [.var 1] false,.ro 7 [] true]
 nv:=8
 nd:=Bn
 ok:=by kernel_rfl
theorem VU:Mx[0]?=some o7:=rfl
theorem VV:o7.res=[.one .sl,.one (.int .i64)]:=rfl
open Classical in
theorem JB:sR.OK Tryz.prog:=by
 refine Spec.bJ (Γ:=Mx) ON ?_;rintro xs Hs Rs hl1 hl2 ⟨p,v,a,o,R,R1,RA,rows,rfl,rfl,rfl,hc,hB,hlen,aL⟩;have e0:Hs=[]:=Za.1 hl1;subst e0;obtain⟨us,x,y,c,rfl,hy,hul,hcell,hrd⟩:=id hB;refine⟨xz,bw [(a:Int),x,y,us.length,c] false [Hl.none,Hl.none,Hl.none,Hl.none,Hl.none,R,R1,RA],fun _ _=>True,fun _ _=>0,?_,⟨?_,?_,?_,?_⟩,(fun _ h=>nomatch h),?_⟩
 .show [Value.pointer (aA (a:Int) 0),Value.slice (aA x y) ((us.length:Int)).toNat ((c:Int)).toNat]=_;rw[Y7,Y7,gM]
 .intro r hr ho;simp [xz]at hr;rcases hr with rfl | rfl | rfl<;>cases ho
 .intro r hr ho;simp [xz]at hr;rcases hr with rfl | rfl | rfl
  .exact⟨R,by simp,Hl.le_refl _⟩
  .exact⟨R1,by simp,Hl.le_refl _⟩
  .exact⟨RA,by simp,Hl.le_refl _⟩
 .simp [xz,bx.own]
 .intro r hr;simp [xz]at hr;rcases hr with rfl | rfl | rfl<;>trivial
 .show Nd.holds _ _ _ Bn;generalize hρ:bw [(a:Int),x,y,us.length,c] false [Hl.none,Hl.none,Hl.none,Hl.none,Hl.none,R,R1,RA]=ρ;have v0:ρ.i 0=a:=by rw[<-hρ];rfl
  have v1:ρ.i 1=x:=by rw[<-hρ];rfl
  have v2:ρ.i 2=y:=by rw[<-hρ];rfl
  have v3:ρ.i 3=us.length:=by rw[<-hρ];rfl
  have v4:ρ.i 4=c:=by rw[<-hρ];rfl
  have w5:ρ.h 5=R:=by rw[<-hρ];rfl
  have w6:ρ.h 6=R1:=by rw[<-hρ];rfl
  have w7:ρ.h 7=RA:=by rw[<-hρ];rfl
  clear hρ;have t3:Int.toNat 3=3:=rfl;unfold Bn;simp only[Nd.holds,X.pre,X.rel,X.n,Src.ok,Src.len,Src.bG,Zy,Zm,ZG,Zx,Zp,Nat.reduceAdd,Zd,Zh,bn,bj,aJ,aU,aR,bm,aZ,bh,bg,bd,aV,ba,bk,aX,aW,aK,aY,ai,aj,aB,aF,aD,ar,aG,aQ,aP,aq,aI,az,aH,av,TV.ev,SV.ev,CV.ev,Zf,Zr,bx.hl,cu,Cp.sv,Ck.cv,bf,Cp.len,Ck.len,aE,aN,aT,VU,VV,Wx,t3];rw[v0,v1,v2,v3,v4,w5,w6,w7,Y7,Y7,Y7,hc];refine⟨by omega,rfl,fun ho _=>?_,fun ho=>⟨⟨_,R1,RA,rows,rfl,rfl,hB,hlen,aL⟩,fun q1 g1 ⟨F1,hp1,hF1,hn1⟩ _=>?_⟩⟩
  .have ho:o=true:=ho;refine⟨[],[],rfl,rfl,⟨⟨fun j=>[-1,0,0,0,5].getD j 0,fun _=>false,fun _=>.empty,fun _=>.tuple #[],fun _=>Hl.none⟩,rfl,⟨Zw _,Zw _,Zw _,Zw _⟩,trivial,trivial⟩,_,_,a,o,R,R1,RA,rows,.slice none 0 0,5,rfl,rfl,rfl,hc,hB,rfl,⟨fun _=>rfl,fun h=>absurd (ho.symm.trans h) (by simp),fun h=>absurd (ho.symm.trans h) (by simp)⟩,fun h=>absurd h (by decide)⟩
  .have ho:¬o=true:=ho;obtain⟨u,e,hw,hy1,hy2⟩:=Dm hB hp1;simp only[Value.tuple.injEq,ZY,Ze,Value.int.injEq,Zy,Zm]at hw;obtain⟨eu,ee⟩:=hw;have hn:-1<=q1.i 8/\0<=q1.i 9/\0<=q1.i 10/\0<=q1.i 11:=hn1.1;refine⟨[],[3],rfl,rfl,⟨⟨fun j=>[q1.i 8,q1.i 9,q1.i 10,q1.i 11,q1.i 12].getD j 0,fun _=>false,fun _=>.empty,fun _=>.tuple #[],fun _=>Hl.none⟩,rfl,hn,trivial,trivial⟩,_,_,a,o,R,R1,RA,rows,.slice (aA (q1.i 8) (q1.i 9)) (q1.i 10).toNat (q1.i 11).toNat,q1.i 12,rfl,rfl,rfl,hc,hB,rfl,⟨fun h=>absurd h ho,fun _ h=>?_,fun _ h=>?_⟩,fun h=>?_⟩
   .rw[ee];exact(hy1 h).1
   .rw[ee];exact hy2 h
   .show cH (dC [q1.h 8]) _ _ _;rw[bz,hF1 trivial,eu];by_cases hk:iu rows
    .exact(hy1 hk).2
    .have:=hy2 hk;omega
theorem cO.rep {F:Hl} {v:Value} {rows:List (List Int)} (h:cO F v rows):∃ (x:Int) (c:Nat),-1<=x/\v=.slice (aA x 0) rows.length c:=by
 obtain⟨us,ho,_⟩:=h;rcases ho.2 with ⟨h,hn⟩ | ⟨g,cap,cur,h,_⟩
 .exact⟨-1,0,by omega,by rw[fa,hn];exact h⟩
 .exact⟨g,cap,by omega,by rw[au (by omega)];simpa using h⟩
structure XE where
 e:Int
 D:DM
 S:SM
def Eb (D:DM) (S:SM) (rows:List (List Int)) (r:AR):XE :=
 ⟨py r.e,r.D,⟨r.L,r.bs,S.LB,S.bB,if py r.e=0 then S.recs++rows else S.recs,if r.e≠0/\gi r.e=np then true else S.over⟩⟩
open Classical in
noncomputable def dM (D:DM) (S:SM) (rows:List (List Int)):XE :=
 if S.over=true then⟨5,D,S⟩
 else if ¬iu rows then⟨3,D,S⟩
 else if rows=[]then⟨0,D,S⟩
 else if S.LA.most-S.bA.length<(cE rows).length then⟨4,D,S⟩
 else Eb D S rows (bW D S.LA S.bA (cE rows) S.LA.note)
noncomputable def BX:Sx.Spec where
 fn:=15
 own:=[.arg 0,.link 0 0]
 rd:=[1,3000001,2000000]
 res:=[.one (.int .i64)]
 pre:=fun xs Hs Rs=>∃ p v H HD R RA RG g dp S D rows,xs=[p,v]/\Hs=[H,HD]/\Rs=[R,RA,RG]/\ig H p dp S/\aO HD dp D/\iW R RA v rows/\Gl RG g/\rows.length<=1000000/\(∀ r∈rows,0<=r.length)/\S.bA.length<=1048576/\0<=S.LA.serial/\S.recs.length<=1000000000
 post:=fun xs Hs Rs w Hs' F=>∃ p v H HD R RA RG dp S D rows H' HD',xs=[p,v]/\Hs=[H,HD]/\Rs=[R,RA,RG]/\ig H p dp S/\aO HD dp D/\iW R RA v rows/\Hs'=[H',HD']/\aO HD' dp (dM D S rows).D/\ig H' p dp (dM D S rows).S/\w=.int .i64 (dM D S rows).e
theorem OR {L:LM} {bs:List Int} {q:Env} {n:Nat} (h:Value.int .i64 (q.i n)=.int .i64 (L.most-bs.length)):q.i n=L.most-bs.length:=by simpa using h
noncomputable def Kf:List Sx.Spec:=[sR,pT,kY,mw,sk,Pt,mX,mD]
theorem PS:∀ t∈Kf,t.OK Tryz.prog:=fun t ht=>by
 simp only[Kf,Zl,Zq,ZO]at ht;rcases ht with rfl | rfl | rfl | rfl | rfl | rfl | rfl | rfl
 .exact JB
 .exact DF
 .exact yX
 .exact Ef
 .exact Ea
 .exact Lx
 .exact Fy
 .exact vu
def Ko:Nd:=(fun p k a2 u x c a1 v w y z a0=>(fun o i f d n r s=>(fun g b h j l m q=>(fun a t=>(.and (.pre j) (.ext j (.and (.imp (.eq (.var 23) c) (.and (.e (.le c v)) (.and (.imp (.eq v c) t) (.imp (.not (.eq v c)) (.and (.e (.le c (.var 21))) (.and (.pre (.call 1 24 [.sv n] [] r)) (.ext (.call 1 24 [.sv n] [] r) (.and (.imp (.lt (.var 24) (.var 21)) (.post b (.sv (.one (.int .i64 (.lit 4)))))) (.imp (.not (.lt (.var 24) (.var 21))) (.and (.pre (.call 2 25 [.sv n] [] r)) (.ext (.call 2 25 [.sv n] [] r) (.and (.pre h) (.ext h (.and (.pre m) (.ext m (.and (.e (.his 18 c c 0 .any)) (.and (.pre q) (.ext q (.and (.imp (.bvar 45) (.and (.pre l) (.ext l (.and (.imp (.not s) (.post [.bD 0 [.hptr (.var 5) c,.hptr (.var 6) c,.sl (.var 7) c (.var 8) (.var 9),.bool .tt] 101,.hp 41 [12] x k,.hp 13 [] [.var 6] k,.hp 14 [] [.var 7] [],.hp 42 [15] k [],.ro 16 [.var 1] false,.ro 17 [] true,.ro 18 p false,.hp 19 [] a1 []] w)) (.imp s (.and (.inv 0 [⟨60,0,.int .i64 c⟩,y,z,a0,⟨65,1,.bool .tt⟩] [(64,some 14)]) a)))))) (.imp (.not (.bvar 45)) (.and (.pre l) (.ext l (.and (.imp (.not s) (.post [.bD 0 f 101,.hp 41 [12] x k,.hp 13 [] [.var 6] k,.hp 14 [] [.var 7] [],.hp 42 [15] k [],.ro 16 [.var 1] false,.ro 17 [] true,.ro 18 p false,.hp 19 [] a1 []] w)) (.imp s (.and (.inv 0 [⟨60,0,.int .i64 c⟩,y,z,a0,⟨65,1,.bool (.bvar 10)⟩] [(64,some 14)]) a))))))))))))))))))))))))) (.imp (.not (.eq (.var 23) c)) t))):Nd)) (.havoc 0 0 47 (.and (.imp (.lt a2 v) (.and (.e (.le c u)) (.and (.e (.le c (.var 2))) (.and (.e (.le c a2)) (.and (.e (.his 16 u o 0 .slice)) (.and (.pre g) (.ext g (.ext (.alloc 70) (.ext (.L8 71 (.hp 64 [] [.var 61] []) (.hp 66 [] [.var 66] [])) (.and (.pre i) (.ext i (.back 0 0 [⟨60,0,.int .i64 (.wrap .i64 (.add a2 (.lit 1)))⟩,⟨61,0,.int .i64 (.var 72)⟩,⟨62,0,.int .i64 (.add (.var 62) (.lit 1))⟩,⟨63,0,.int .i64 (.var 73)⟩,⟨65,1,.bool (.bvar 65)⟩] [(64,some 72)])))))))))))) (.imp (.not (.lt a2 v)) (.post [.bD 0 [.hptr (.var 5) c,.hptr (.var 6) c,.sl (.var 61) c (.var 62) (.var 63),.bool (.bvar 65)] 101,.hp 41 [12] x k,.hp 13 [] [.var 6] k,.hp 64 [] [.var 61] [],.hp 42 [15] k [],.ro 16 [.var 1] false,.ro 17 [] true,.ro 18 p false,.hp 19 [] a1 []] (.sv (.one (.int .i64 c))))))) (.post b (.sv (.one (.int .i64 (.var 23)))))) (.call 7 66 [.sv (.one (.sl (.hP 16 u o 0 0) (.hP 16 u o 0 1) (.hP 16 u o 0 2) (.hP 16 u o 0 3)))] [] [.ro 17 [] true]) [.bD 0 f 101,.hp 12 [] x k,.hp 13 [] [.var 6] k,.hp 14 [] [.var 7] [],.hp 15 [] k [],.ro 16 [.var 1] false,.ro 17 [] true,.ro 18 p false,.hp 19 [] a1 []] (.call 3 41 [.sv n,.sv (.one (.sl (.var 19) (.var 20) (.var 21) (.var 22))),.sv (.agg (al 25 (List.replicate 16 (Ck.int .u8))))] [.hp 12 [] x k,.hp 15 [] k []] [.hp 19 [] a1 []]) (.call 0 19 [.sv (.one (.hptr (.var 0) c)),.sv (.one (.sl u (.var 2) v (.var 4)))] [] [.bD 0 f 101,.ro 16 [.var 1] false,.ro 17 [] true]) (.call 6 46 [.sv (.one (.vr 44))] [] d) (.call 4 44 [.sv (.one (.str (.slit ⟨#[97,100,100]⟩))),.sv (.one (.int .i64 (.var 41)))] [] d) (.call 5 45 [.sv (.one (.vr 44)),.sv (.one (.hv 18 c c 0))] [] d)) (.add (.var 2) a2) (.app 72 46 1 24 (.sl (.var 61) c (.var 62) (.var 63)) (.var 62) (.hp 71 [64,66] [.var 61,.var 66,.var 66] []) (.cvs [.sl (.var 66) (.var 67) (.var 68) (.var 69)] 1)) [.hptr (.var 5) c,.hptr (.var 6) c,.sl (.var 7) c (.var 8) (.var 9),.bool (.bvar 10)] [.ro 18 p false] (.one (.hptr (.var 5) c)) [.hp 12 [] x k] (.eq (.var 46) c)) [.lit 0,.lit 1,.lit 2] [.var 11] (.var 60) (.var 1) [.var 5] (.lit 0) [.var 19] (.var 3) (.sv (.one (.int .i64 (.var 46)))) ⟨61,0,.int .i64 (.var 7)⟩ ⟨62,0,.int .i64 (.var 8)⟩ ⟨63,0,.int .i64 (.var 9)⟩
noncomputable def Kp:bU Tryz.prog Kf BX.fn where
 Λ:=fun p=>if LL p then some ⟨0,[(51,TI .i64 (.var 60))],[(0,.bD 0 [.hptr (.var 5) (.lit 0),.hptr (.var 6) (.lit 0),.sl (.var 61) (.lit 0) (.var 62) (.var 63),.bool (.bvar 65)] 101),(3,.hp 64 [] [.var 61] [])],66⟩else none
 args:=[TP (.var 0) (.lit 0),.sv (.one (.sl (.var 1) (.var 2) (.var 3) (.var 4)))]
 mem:=[.bD 0 [.hptr (.var 5) (.lit 0),.hptr (.var 6) (.lit 0),.sl (.var 7) (.lit 0) (.var 8) (.var 9),.bool (.bvar 10)] 101,.hp 12 [] [.var 5] [.var 11],.hp 13 [] [.var 6] [.var 11],.hp 14 [] [.var 7] [],.hp 15 [] [.var 11] [],.ro 16 [.var 1] false,.ro 17 [] true,.ro 18 [.lit 0,.lit 1,.lit 2] false]
 nv:=19
 nd:=Ko
 ok:=by kernel_rfl
theorem Um:Kf[0]?=some sR:=rfl
theorem Un:Kf[1]?=some pT:=rfl
theorem Uo:Kf[2]?=some kY:=rfl
theorem Up:Kf[3]?=some mw:=rfl
theorem Uq:Kf[4]?=some sk:=rfl
theorem Ur:Kf[5]?=some Pt:=rfl
theorem Us:Kf[6]?=some mX:=rfl
theorem Ut:Kf[7]?=some mD:=rfl
theorem Uu:sR.res=[.one .sl,.one (.int .i64)]:=rfl
theorem Uv:pT.res=[.one (.int .i64)]:=rfl
theorem Uw:kY.res=[.agg (qI 16)]:=rfl
theorem Ux:mw.res=[.one (.int .i64)]:=rfl
theorem Uy:sk.res=[.one .any]:=rfl
theorem Uz:Pt.res=[.one .bool]:=rfl
theorem UA:mX.res=[.one (.int .i64)]:=rfl
theorem Sr:mD.res=[.one .sl]:=rfl
set_option maxRecDepth 8000 in
theorem Ns:BX.OK Tryz.prog:=by
 refine jh (Γ:=Kf) PS ?_;rintro xs Hs Rs hl1 hl2 hdis ⟨p,v,H,HD,R,RA,RG,g,dp,S,D,rows,rfl,rfl,rfl,hAt,hD,hB,hG,hlen,aL,hbA,hser,hrecs⟩;obtain⟨a,pa,pb,sl,HA,HB,HR,rfl,hIn⟩:=id hAt;obtain⟨us,x,y,c,rfl,hy,hul,hcell,hrd⟩:=id hB;obtain⟨da,s,m,es,clock,hdp,hDi⟩:=id hD;obtain⟨rx,rc,hrx,hsl⟩:=hIn.rows.rep;obtain⟨aa,_,_,hpa,_⟩:=id hIn.la;obtain⟨ab,_,_,hpb,_⟩:=id hIn.lb;obtain⟨l1,l2,l3,l4⟩:=Hu hIn.d1 hIn.d2 hIn.d3 hIn.d4 hIn.d5 hIn.d6;rw[<-hIn.hl]at l1 l2 l3 l4;have hHD:H.cG HD:=hdis 0 1 _ _ (by decide) rfl rfl;generalize hρ:bw [(a:Int),x,y,us.length,c,aa,ab,rx,S.recs.length,rc,0,da] S.over [Hl.none,Hl.none,Hl.none,Hl.none,Hl.none,Hl.none,Hl.none,Hl.none,Hl.none,Hl.none,Hl.none,Hl.none,HA,HB,HR,HD,R,RA,RG]=ρ;have v0:ρ.i 0=a:=by rw[<-hρ];rfl
 have v1:ρ.i 1=x:=by rw[<-hρ];rfl
 have v2:ρ.i 2=y:=by rw[<-hρ];rfl
 have v3:ρ.i 3=us.length:=by rw[<-hρ];rfl
 have v4:ρ.i 4=c:=by rw[<-hρ];rfl
 have v5:ρ.i 5=aa:=by rw[<-hρ];rfl
 have v6:ρ.i 6=ab:=by rw[<-hρ];rfl
 have v7:ρ.i 7=rx:=by rw[<-hρ];rfl
 have v8:ρ.i 8=S.recs.length:=by rw[<-hρ];rfl
 have v9:ρ.i 9=rc:=by rw[<-hρ];rfl
 have v11:ρ.i 11=da:=by rw[<-hρ];rfl
 have b10:ρ.b 10=S.over:=by rw[<-hρ];rfl
 have w12:ρ.h 12=HA:=by rw[<-hρ];rfl
 have w13:ρ.h 13=HB:=by rw[<-hρ];rfl
 have w14:ρ.h 14=HR:=by rw[<-hρ];rfl
 have w15:ρ.h 15=HD:=by rw[<-hρ];rfl
 have w16:ρ.h 16=R:=by rw[<-hρ];rfl
 have w17:ρ.h 17=RA:=by rw[<-hρ];rfl
 have w18:ρ.h 18=RG:=by rw[<-hρ];rfl
 clear hρ;have ea:Value.pointer (aA (aa:Int) 0)=pa:=by rw[gM,hpa]
 have eb:Value.pointer (aA (ab:Int) 0)=pb:=by rw[gM,hpb]
 have eBlk:∀ (q:Env) (cs:CV) (o:E),q.i 0=a->q.i 5=aa->q.i 6=ab->(bx.bD 0 [.hptr (.var 5) (.lit 0),.hptr (.var 6) (.lit 0),cs,.bool o] 101).hl q=JO a pa pb (cs.ev q) (bN q o):=by
  intro q cs o h0 h5 h6;show Hl.one (q.i 0).toNat (.cells #[Value.pointer (aA (q.i 5) 0),Value.pointer (aA (q.i 6) 0),cs.ev q,.bool (bN q o)] _ (0,0))=_;rw[h0,h5,h6,ea,eb,Y7];rfl
 have e0:(bx.bD 0 [.hptr (.var 5) (.lit 0),.hptr (.var 6) (.lit 0),.sl (.var 7) (.lit 0) (.var 8) (.var 9),.bool (.bvar 10)] 101).hl ρ=JO a pa pb sl S.over:=by
  rw[eBlk ρ _ _ v0 v5 v6,cn,b10]
  congr 1
  show Value.slice (aA (ρ.i 7) 0) (ρ.i 8).toNat (ρ.i 9).toNat=_;rw[v7,v8,v9,Y7,Y7,hsl]
 refine⟨Kp,ρ,fun _ q=>∃ k:Nat,q.i 60=k/\k<=rows.length/\ -1<=q.i 61/\0<=q.i 62/\0<=q.i 63/\q.b 65=false/\cO (q.h 64) (.slice (aA (q.i 61) 0) (q.i 62).toNat (q.i 63).toNat) (S.recs++rows.take k),fun _ q=>(rows.length-q.i 60).toNat,?_,⟨?_,?_,?_,?_⟩,(fun _ h=>nomatch h),?_⟩
 .show [Value.pointer (aA (ρ.i 0) 0),Value.slice (aA (ρ.i 1) (ρ.i 2)) (ρ.i 3).toNat (ρ.i 4).toNat]=_;rw[v0,v1,v2,v3,v4,Y7,Y7,gM]
 .intro r hr ho;simp only[Kp,Zl,Zq,ZO]at hr;rcases hr with rfl | rfl | rfl | rfl | rfl | rfl | rfl | rfl
  .exact⟨H,by simp,by rw[e0];exact l1⟩
  .exact⟨H,by simp,by show(ρ.h 12).le H;rw[w12];exact l2⟩
  .exact⟨H,by simp,by show(ρ.h 13).le H;rw[w13];exact l3⟩
  .exact⟨H,by simp,by show(ρ.h 14).le H;rw[w14];exact l4⟩
  .exact⟨HD,by simp,by show(ρ.h 15).le HD;rw[w15];exact Hl.le_refl _⟩
  .cases ho
  .cases ho
  .cases ho
 .intro r hr ho;simp only[Kp,Zl,Zq,ZO]at hr;rcases hr with rfl | rfl | rfl | rfl | rfl | rfl | rfl | rfl
  .cases ho
  .cases ho
  .cases ho
  .cases ho
  .cases ho
  .exact⟨R,by simp,by show(ρ.h 16).le R;rw[w16];exact Hl.le_refl _⟩
  .exact⟨RA,by simp,by show(ρ.h 17).le RA;rw[w17];exact Hl.le_refl _⟩
  .exact⟨RG,by simp,by show(ρ.h 18).le RG;rw[w18];exact Hl.le_refl _⟩
 .have dD:∀ K:Hl,K.le H->K.cG HD:=fun K hK=>Hl.lJ (Hl.vA (Hl.lJ hHD) hK);have mem4:Kp.mem=[.bD 0 [.hptr (.var 5) (.lit 0),.hptr (.var 6) (.lit 0),.sl (.var 7) (.lit 0) (.var 8) (.var 9),.bool (.bvar 10)] 101,.hp 12 [] [.var 5] [.var 11],.hp 13 [] [.var 6] [.var 11],.hp 14 [] [.var 7] [],.hp 15 [] [.var 11] [],.ro 16 [.var 1] false,.ro 17 [] true,.ro 18 [.lit 0,.lit 1,.lit 2] false]:=rfl;rw[mem4];have ro3:∀ (l:Mem),(∀ r∈l,r.own=false)->∀ K:bx,∀ r∈l,K.own=true->r.own=true->(K.hl ρ).cG (r.hl ρ):=fun l h K r hr _ ho=>by rw[h r hr]at ho;cases ho
  have hro:∀ r∈([.ro 16 [.var 1] false,.ro 17 [] true,.ro 18 [.lit 0,.lit 1,.lit 2] false]:Mem),r.own=false:=by
   intro r hr;simp only[Zl,Zq,ZO]at hr;rcases hr with rfl | rfl | rfl<;>rfl
  refine List.Pairwise.cons (fun r hr hk ho=>?_) (List.Pairwise.cons (fun r hr hk ho=>?_) (List.Pairwise.cons (fun r hr hk ho=>?_) (List.Pairwise.cons (fun r hr hk ho=>?_) (List.Pairwise.cons (fun r hr hk ho=>ro3 _ hro _ r hr hk ho) (List.Pairwise.cons (fun r hr hk ho=>by cases hk) (List.Pairwise.cons (fun r hr hk ho=>by cases hk) (List.Pairwise.cons (fun r hr=>by cases hr) List.Pairwise.nil)))))))
  .rw[e0];rw[Zl,Zl,Zl,Zl]at hr;rcases hr with rfl | rfl | rfl | rfl | hr
   .show(JO a pa pb sl S.over).cG (ρ.h 12);rw[w12];exact hIn.d1
   .show(JO a pa pb sl S.over).cG (ρ.h 13);rw[w13];exact hIn.d2
   .show(JO a pa pb sl S.over).cG (ρ.h 14);rw[w14];exact hIn.d3
   .show(JO a pa pb sl S.over).cG (ρ.h 15);rw[w15];exact dD _ l1
   .rw[hro r hr]at ho;cases ho
  .rw[Zl,Zl,Zl]at hr;show(ρ.h 12).cG _;rw[w12];rcases hr with rfl | rfl | rfl | hr
   .show HA.cG (ρ.h 13);rw[w13];exact hIn.d4
   .show HA.cG (ρ.h 14);rw[w14];exact hIn.d5
   .show HA.cG (ρ.h 15);rw[w15];exact dD _ l2
   .rw[hro r hr]at ho;cases ho
  .rw[Zl,Zl]at hr;show(ρ.h 13).cG _;rw[w13];rcases hr with rfl | rfl | hr
   .show HB.cG (ρ.h 14);rw[w14];exact hIn.d6
   .show HB.cG (ρ.h 15);rw[w15];exact dD _ l3
   .rw[hro r hr]at ho;cases ho
  .rw[Zl]at hr;show(ρ.h 14).cG _;rw[w14];rcases hr with rfl | hr
   .show HR.cG (ρ.h 15);rw[w15];exact dD _ l4
   .rw[hro r hr]at ho;cases ho
 .intro r hr;simp only[Kp,Zl,Zq,ZO]at hr;rcases hr with rfl | rfl | rfl | rfl | rfl | rfl | rfl | rfl
  .show(0:Int)<=ρ.i 0;omega
  all_goals trivial
 .show Nd.holds _ _ _ Ko;have fin:∀ (q:Env) (hL hR hK:Nat) (vL vM vR vK:List Nat) (rL rM rR rK kL kM kR kK:List E) (cs:CV) (o rv:E) (t:Mem),ah 19 ρ q ->
   dW (q.h hL) pa dp (dM D S rows).S.LA (dM D S rows).S.bA->(dM D S rows).S.LB=S.LB/\(dM D S rows).S.bB=S.bB->cO (q.h hR) (cs.ev q) (dM D S rows).S.recs->bN q o=(dM D S rows).S.over->aO (q.h hK) dp (dM D S rows).D->aC q rv=(dM D S rows).e ->
   postOf BX [.pointer (some ⟨a,0,none⟩),.slice (aA x y) us.length c] [H,HD] [R,RA,RG] q (.bD 0 [.hptr (.var 5) (.lit 0),.hptr (.var 6) (.lit 0),cs,.bool o] 101::.hp hL vL rL kL::.hp 13 vM rM kM::.hp hR vR rR kR::.hp hK vK rK kK::t) (.sv (.one (.int .i64 rv))):=by
   intro q hL hR hK vL vM vR vK rL rM rR rK kL kM kR kK cs o rv t hg hLq hSB hRq hoq hDq heq hd;have g0:q.i 0=a:=by rw[hg.i 0,v0]
   have g5:q.i 5=aa:=by rw[hg.i 5,v5]
   have g6:q.i 6=ab:=by rw[hg.i 6,v6]
   have eq0:=eBlk q cs o g0 g5 g6;rw[hoq]at eq0;refine⟨[[0,1,2,3],[4]],[],rfl,rfl,⟨⟨fun _=>(dM D S rows).e,fun _=>false,fun _=>.empty,fun _=>.tuple #[],fun _=>Hl.none⟩,?_,trivial,trivial⟩,_,_,H,HD,R,RA,RG,dp,S,D,rows,_,_,rfl,rfl,rfl,hAt,hD,hB,rfl,?_,?_,?_⟩
   .show Value.int .i64 (aC q rv)=.int .i64 (dM D S rows).e;rw[heq]
   .show aO (dC [q.h hK]) _ _;rw[bz];exact hDq
   .refine⟨a,pa,pb,cs.ev q,q.h hL,q.h 13,q.h hR,rfl,hLq,?_,hRq,?_,?_,?_,hd 1 2 _ _ (by decide) rfl rfl rfl,hd 1 3 _ _ (by decide) rfl rfl rfl,hd 2 3 _ _ (by decide) rfl rfl rfl,?_⟩
    .rw[hSB.1,hSB.2,hg.h 13,w13];exact hIn.lb
    .rw[<-eq0];exact hd 0 1 _ _ (by decide) rfl rfl rfl
    .rw[<-eq0];exact hd 0 2 _ _ (by decide) rfl rfl rfl
    .rw[<-eq0];exact hd 0 3 _ _ (by decide) rfl rfl rfl
    .rw[<-eq0];rfl
   .show Value.int .i64 (aC q rv)=.int .i64 (dM D S rows).e;rw[heq]
  unfold Ko;simp only[Nd.holds,X.pre,X.rel,X.n,Src.ok,Src.len,Src.bG,Zy,Zm,ZG,Zx,Zp,Nat.reduceAdd,Zd,Zh,bn,bj,aJ,aU,aR,bm,aZ,bh,bg,bd,aV,ba,bk,aX,aW,aK,aY,ai,aj,aB,aF,aD,ar,aG,aQ,aP,aq,aI,az,aH,av,TV.ev,SV.ev,CV.ev,Zf,Zr,bx.hl,cu,Cp.sv,Ck.cv,bf,Cp.len,Ck.len,aE,aN,aT,Um,Un,Uo,Up,Uq,Ur,Us,Ut,Uu,Uv,Uw,Ux,Uy,Uz,UA,Sr,Kk,Wx];have evs:Value.slice (aA (ρ.i 7) 0) (ρ.i 8).toNat (ρ.i 9).toNat=sl:=by rw[v7,v8,v9,Y7,Y7,hsl]
  have keepL:∀ q:Env,ah 19 ρ q->dW (q.h 12) pa dp S.LA S.bA/\cO (q.h 14) (CV.ev q (.sl (.var 7) (.lit 0) (.var 8) (.var 9))) S.recs/\bN q (.bvar 10)=S.over/\aO (q.h 15) dp D:=by
   intro q hg;refine⟨by rw[hg.h 12,w12];exact hIn.la,?_,by rw[cn,hg.b 10,b10],by rw[hg.h 15,w15];exact hD⟩;show cO (q.h 14) (.slice (aA (q.i 7) 0) (q.i 8).toNat (q.i 9).toNat) _;rw[hg.h 14,hg.i 7,hg.i 8,hg.i 9,w14,evs];exact hIn.rows
  have same:∀ (q:Env) (e:Int) (rv:E) (t:Mem),ah 19 ρ q->dM D S rows=⟨e,D,S⟩->aC q rv=e->postOf BX [.pointer (some ⟨a,0,none⟩),.slice (aA x y) us.length c] [H,HD] [R,RA,RG] q (.bD 0 [.hptr (.var 5) (.lit 0),.hptr (.var 6) (.lit 0),.sl (.var 7) (.lit 0) (.var 8) (.var 9),.bool (.bvar 10)] 101::.hp 12 [] [.var 5] [.var 11]::.hp 13 [] [.var 6] [.var 11]::.hp 14 [] [.var 7] []::.hp 15 [] [.var 11] []::t) (.sv (.one (.int .i64 rv))):=by
   intro q e rv t hg he hrv;obtain⟨k1,k2,k3,k4⟩:=keepL q hg;exact fin q 12 14 15 _ _ _ _ _ _ _ _ _ _ _ _ _ _ rv t hg (by rw[he];exact k1) (by rw[he];exact⟨rfl,rfl⟩) (by rw[he];exact k2) (by rw[he];exact k3) (by rw[he];exact k4) (by rw[he];exact hrv)
  have hp0:Value.pointer (aA (ρ.i 0) 0)=.pointer (some ⟨a,0,none⟩):=by rw[v0,gM]
  have hv0:Value.slice (aA (ρ.i 1) (ρ.i 2)) (ρ.i 3).toNat (ρ.i 4).toNat=.slice (aA x y) us.length c:=by rw[v1,v2,v3,v4,Y7,Y7]
  have hc3:(JO a pa pb sl S.over).cell a 3=some (.bool S.over):=by unfold JO;rw[Hl.j7];rfl
  have e0':Hl.one (ρ.i 0).toNat (.cells #[Value.pointer (aA (ρ.i 5) 0),Value.pointer (aA (ρ.i 6) 0),Value.slice (aA (ρ.i 7) 0) (ρ.i 8).toNat (ρ.i 9).toNat,Value.bool (bN ρ (.bvar 10))] 101 (0,0))=JO a pa pb sl S.over:=e0;rw[hp0,hv0,e0',w16,w17];refine⟨⟨_,_,a,S.over,_,R,RA,rows,rfl,rfl,rfl,hc3,hB,hlen,aL⟩,fun q1 g1 ⟨F1,hp1,hF1,hn1⟩=>?_⟩;obtain⟨u1,e1,hv1,hE1,hO1⟩:=FV hc3 hB hp1;simp only[Value.tuple.injEq,ZY,Ze,Value.int.injEq,Zy,Zm]at hv1;obtain⟨eu,ee⟩:=hv1;have hn19:-1<=q1.i 19/\0<=q1.i 20/\0<=q1.i 21/\0<=q1.i 22:=hn1.1;refine⟨fun h23=>?_,fun h23=>same q1 (q1.i 23) _ _ g1 ?_ (aj _ _)⟩
  rotate_left
  .rw[ee]at h23 ⊢;unfold dM;cases ho:S.over with
   | true=>rw[ZA rfl,hE1.1 ho]
   | false =>
    rw[Zo (by simp)];by_cases hk:iu rows
    .exact absurd (hE1.2.1 ho hk) h23
    .rw[ZA hk,hE1.2.2 ho hk]
  have he0:e1=0:=by rw[<-ee];exact h23
  have ho:¬S.over=true:=fun h=>by have:=hE1.1 h;omega
  have hof:S.over=false:=aaO.2 ho;have hk:iu rows:=aak fun h=>by have:=hE1.2.2 hof h;omega
  have hOw:cH (q1.h 19) 5 (.slice (aA (q1.i 19) (q1.i 20)) (q1.i 21).toNat (q1.i 22).toNat) (cE rows):=by rw[hF1 trivial,eu];exact hO1 he0
  have h21:q1.i 21=(cE rows).length:=(hOw.rd.at hn19.1 hn19.2.1 hn19.2.2.1).1;rw[g1.i 3,v3];refine⟨by omega,fun hz=>same q1 0 _ _ g1 ?_ h23,fun hnz=>⟨by omega,?_⟩⟩
  .have hz:(us.length:Int)=0:=hz;have hz2:rows.length=0:=by rw[<-hul];omega
   have:rows=[]:=Za.1 hz2;unfold dM;rw[Zo ho,Zo (fun h=>h hk),ZA this]
  have hne:rows≠[]:=fun h=>by
   have hnz:¬(us.length:Int)=0:=hnz;rw[h]at hul;have:us.length=0:=hul;omega
  have hpa':∀ q:Env,ah 19 ρ q->Value.pointer (aA (q.i 5) 0)=pa:=fun q hg=>by rw[hg.i 5,v5,ea]
  have kA:∀ q:Env,ah 19 ρ q->dW (q.h 12) pa dp S.LA S.bA:=fun q hg=>(keepL q hg).1;rw[hpa' q1 g1];refine⟨MH (kA q1 g1).rd hbA,fun q2 g2 ⟨F2,hp2,_⟩=>?_⟩;have G2:ah 19 ρ q2:=g1.tr g2;have h24:q2.i 24=S.LA.most-S.bA.length:=OR (JE (kA q1 g1).rd hp2);have h21':q2.i 21=(cE rows).length:=by rw[g2.i 21,h21]
  refine⟨fun hlt=>same q2 4 _ _ G2 ?_ (ai _ _),fun hge=>?_⟩
  .rw[h24,h21']at hlt;unfold dM;rw[Zo ho,Zo (fun h=>h hk),Zo hne,ZA hlt]
  rw[h24,h21']at hge;have hAdd:dM D S rows=Eb D S rows (bW D S.LA S.bA (cE rows) S.LA.note):=by
   unfold dM;rw[Zo ho,Zo (fun h=>h hk),Zo hne,Zo hge]
  generalize hr:bW D S.LA S.bA (cE rows) S.LA.note=r at hAdd;rw[hpa' q2 G2];refine⟨I8 (kA q2 G2).rd,fun q3 g3 ⟨F3,hp3,_⟩=>?_⟩;have G3:ah 19 ρ q3:=G2.tr g3;have hv3:=Fg (kA q2 G2).rd hp3;have ec3:(al 25 (List.replicate 16 (Ck.int .u8))).map (CV.ev q3)=bK S.LA.note:=ZL (Value.agg.inj hv3);have hn16:S.LA.note.length=16:=by obtain⟨_,⟨_,_,hLi⟩,_⟩:=hIn.la.rd;exact hLi.1.note
  have hRd3:fp (q3.h 19) (.slice (aA (q3.i 19) (q3.i 20)) (q3.i 21).toNat (q3.i 22).toNat) (cE rows):=by
   have G13:ah 24 q1 q3:=g2.tr g3;rw[G13.h 19,G13.i 19,G13.i 20,G13.i 21,G13.i 22];exact hOw.rd.w
  have kD3:aO (q3.h 15) dp D:=(keepL q3 G3).2.2.2;rw[hpa' q3 G3,ec3];refine⟨⟨_,_,_,_,_,_,_,dp,_,_,_,rfl,rfl,rfl,kA q3 G3,kD3,hRd3,hbA,hn16,hser⟩,fun q4 g4 ⟨F4,hp4,_⟩=>?_⟩;obtain⟨HL4,HD4,hK,hD4,hL4,hv4⟩:=B7 (kA q3 G3) kD3 hRd3 hp4;rw[hr]at hD4 hL4 hv4;have hK1:q4.h 41=HL4/\q4.h 42=HD4:=by
   have h1:[q4.h 41,q4.h 42]=[HL4,HD4]:=hK;simpa using h1
  obtain⟨hK1,hK2⟩:=hK1;have h41:q4.i 41=r.e:=by simpa using hv4
  have G4:ah 19 ρ q4:=G3.tr g4;rw[h41,G4.h 18,w18];refine⟨⟨_,_,RG,g,rfl,rfl,hG⟩,fun q5 g5 ⟨F5,⟨s5,c5,R5,x1,x2,hE5⟩,_⟩=>?_⟩;simp only[Ze,Value.string.injEq,Value.int.injEq,Zy,Zm]at x1 x2;obtain⟨x1,x3⟩:=x1;subst x1 x2 x3;have hE5:kq g (q5.v 44) r.e:=hE5 g hG;have G5:ah 19 ρ q5:=G4.tr g5;have cL:RG.cell (Int.toNat 0) (Int.toNat 0)=some (gv g np):=hG.cell np (Or.inl rfl);rw[G5.h 18,w18,cL];refine⟨rfl,⟨_,_,RG,g,r.e,np,rfl,rfl,hG,hE5,Or.inl rfl,rfl⟩,fun q6 g6 ⟨F6,hp6,_⟩=>?_⟩;have r6:=E9 hG hE5 (Or.inl rfl) hp6;rw[r6];have G6:ah 19 ρ q6:=G5.tr g6;have hE6:kq g (q6.v 44) r.e:=by rw[g6.v 44];exact hE5
  have num:∀ (q7:Env),ah 46 q6 q7->(∃ F,mX.post [q6.v 44] [] [RG] (.int .i64 (q7.i 46)) [] F/\(br 0 [Cp.one (Ck.int .i64)]≠[]->q7.h 46=F)/\fg 46 [Cp.one (Ck.int .i64)] q7)->q7.i 46=py r.e/\ah 19 ρ q7/\ah 43 q4 q7:=by
   intro q7 g7 ⟨F7,⟨e7,R7,x1,x2,h7⟩,_⟩;simp only[Ze,Zm]at x1 x2;subst x1 x2;have:=h7 g r.e hG hE6;exact⟨by simpa using this,G6.tr g7,(g5.trans ((g6.tr g7).mono (by omega))).mono (by omega)⟩
  rw[G6.h 18,w18];refine⟨fun hcl=>⟨⟨_,RG,g,r.e,rfl,rfl,hG,hE6⟩,fun q7 g7 hq7=>?_⟩,fun hcl=>⟨⟨_,RG,g,r.e,rfl,rfl,hG,hE6⟩,fun q7 g7 hq7=>?_⟩⟩
  .obtain⟨hn46,G7,G47⟩:=num q7 g7 hq7;have hnz46:¬py r.e=0:=by
    unfold py;rw[Zo hcl.1,Zo (by rw[hcl.2];decide),Zo (by rw[hcl.2];decide)];decide
   refine⟨fun _=>?_,fun h=>absurd (hn46.symm.trans h) hnz46⟩;refine fin q7 41 14 42 _ _ _ _ _ _ _ _ _ _ _ _ (.sl (.var 7) (.lit 0) (.var 8) (.var 9)) _ _ _ G7 ?_ ?_ ?_ ?_ ?_ ?_
   .rw[hAdd,G47.h 41,hK1];exact hL4
   .rw[hAdd];exact⟨rfl,rfl⟩
   .rw[hAdd];unfold Eb;rw[Zo hnz46];exact(keepL q7 G7).2.1
   .rw[hAdd];show true=(if _ then true else S.over);rw[ZA hcl]
   .rw[hAdd,G47.h 42,hK2];exact hD4
   .rw[hAdd,aj,hn46];rfl
  .obtain⟨hn46,G7,G47⟩:=num q7 g7 hq7;refine⟨fun hnz46=>?_,fun h46=>?_⟩
   .refine fin q7 41 14 42 _ _ _ _ _ _ _ _ _ _ _ _ (.sl (.var 7) (.lit 0) (.var 8) (.var 9)) _ _ _ G7 ?_ ?_ ?_ ?_ ?_ ?_
    .rw[hAdd,G47.h 41,hK1];exact hL4
    .rw[hAdd];exact⟨rfl,rfl⟩
    .rw[hAdd];unfold Eb;rw[Zo (fun h=>hnz46 (hn46.trans h))];exact(keepL q7 G7).2.1
    .rw[hAdd,(keepL q7 G7).2.2.1];show S.over=(if _ then true else S.over);rw[Zo hcl]
    .rw[hAdd,G47.h 42,hK2];exact hD4
    .rw[hAdd,aj,hn46];rfl
   .clear num;refine⟨⟨0,rfl,aam _,by show -1<=q7.i 7;rw[G7.i 7,v7];exact hrx,by show 0<=q7.i 8;rw[G7.i 8,v8];omega,by show 0<=q7.i 9;rw[G7.i 9,v9];omega,?_,?_⟩,fun q8 g8 ⟨k,ek,qH,x61,x62,x63,b65,hRk⟩=>?_⟩
    .show bN q7 (.bvar 10)=false;rw[cn,G7.b 10,b10,hof]
    .show cO (q7.h 14) (.slice (aA (q7.i 7) 0) (q7.i 8).toNat (q7.i 9).toNat) _;rw[G7.h 14,G7.i 7,G7.i 8,G7.i 9,w14,evs,aa0,aau];exact hIn.rows
    have G8:ah 19 ρ q8:=G7.tr g8;have h62:q8.i 62=S.recs.length+k:=by
     have:=(hRk.at x61 x62).1;rw[Y9,ZE]at this;omega
    rw[G8.i 1,G8.i 2,G8.i 3,G8.h 16,G8.h 17,v1,v2,v3,w16,w17,ek];refine⟨fun hlt=>?_,fun hge=>?_⟩
    .have hkr:k<rows.length:=by omega
     have hrk:rows[k]?=some rows[k]:=Y8 hkr;have hu:us[k]?=some us[k]:=Y8 (by omega);obtain⟨hx0,hc⟩:=hcell k _ hu;have hRr:=hrd k _ _ hu hrk;have hsl:∃ a l c,us[k]=Value.slice a l c:=(fp.parts hRr).1;have hck:R.cell x.toNat (y+(k:Int)).toNat=some us[k]:=by rw[show(y+(k:Int)).toNat=y.toNat+k by omega];exact hc
     rw[hck,iB hsl];refine⟨hx0,hy,by omega,by obtain⟨_,_,_,e⟩:=hsl;rw[e];rfl,⟨_,_,RA,rfl,rfl,hRr,abk (hk _ (aay _)) (by decide)⟩,fun q9 g9 ⟨F9,⟨u9,bs9,R9,x1,x2,hR9,hO9⟩,hF9,hn9⟩ q10 g10 _ q11 g11 ⟨e11,hd11⟩=>?_⟩;simp only[Ze,Zm]at x1 x2;subst x1 x2;obtain rfl:=hRr.uniq hR9;rw[<-hF9 trivial]at hO9;have hn9:-1<=q9.i 66/\0<=q9.i 67/\0<=q9.i 68/\0<=q9.i 69:=hn9.1;have G10:ah 66 q8 q10:=g9.tr g10;have G11:ah 66 q8 q11:=G10.tr g11;have G9:ah 70 q9 q11:=g10.tr g11;have hu9:mv (q10.h 66) none (.slice (aA (q11.i 66) (q11.i 67)) (q11.i 68).toNat (q11.i 69).toNat) rows[k]:=by
      rw[g10.h 66,G9.i 66,G9.i 67,G9.i 68,G9.i 69];exact mv.of hO9.rd.w hn9.1 hn9.2.1
     rw[e11,G10.h 64,G11.i 61,G11.i 62,G11.i 63];rw[G10.h 64]at hd11;have hpre:∃ xs,bE ((q8.h 64).un (q10.h 66)) 46 1 (.slice (aA (q8.i 61) 0) (q8.i 62).toNat (q8.i 63).toNat) (q8.i 62).toNat xs:=by
      obtain⟨us',ho',_⟩:=hRk;rw[show(q8.i 62).toNat=(S.recs++rows.take k).length by rw[Y9,ZE];omega]at ho' ⊢;exact⟨us',ho'.mono (Hl.cC _ _)⟩
     refine⟨⟨hpre,x62,by unfold maxLen;omega,by omega⟩,fun q12 g12 ⟨a1,a2,happ,hkp,_,hnw⟩=>?_⟩;have G12:ah 66 q8 q12:=G11.tr g12;have hrows:=sV hRk x61 x62 hd11 hu9 a1 happ hkp hnw;have e62:q12.i 62+1=q8.i 62+1:=by rw[G12.i 62]
     have e60:q12.i 60=k:=by rw[G12.i 60,ek]
     have w60:IntKind.i64.wrap (q12.i 60+1)=(k:Int)+1:=by rw[e60];exact wrap_i64 (by omega) (by omega)
     refine⟨⟨k+1,?_,by omega,a1,?_,a2,?_,?_⟩,?_⟩
     .show IntKind.i64.wrap (q12.i 60+1)=_;rw[w60];rfl
     .show 0<=q12.i 62+1;omega
     .show q12.b 65=false;rw[G12.b 65];exact b65
     .show cO (q12.h 72) (.slice (aA (q12.i 72) 0) (q12.i 62+1).toNat (q12.i 73).toNat) _;rw[e62,aaC,hrk,aaE,<-ZK];exact hrows
     .show((rows.length:Int)-IntKind.i64.wrap (q12.i 60+1)).toNat<_;rw[w60];omega
    .have hke:k=rows.length:=by omega
     subst hke;rw[aad]at hRk;refine fin q8 41 64 42 _ _ _ _ _ _ _ _ _ _ _ _ (.sl (.var 61) (.lit 0) (.var 62) (.var 63)) _ _ _ G8 ?_ ?_ ?_ ?_ ?_ ?_
     .rw[hAdd,g8.h 41,G47.h 41,hK1];exact hL4
     .rw[hAdd];exact⟨rfl,rfl⟩
     .rw[hAdd];unfold Eb;rw[ZA (hn46.symm.trans h46)];exact hRk
     .rw[cn,b65,hAdd];show false=(if _ then true else S.over);rw[Zo hcl];exact hof.symm
     .rw[hAdd,g8.h 42,G47.h 42,hK2];exact hD4
     .rw[hAdd,ai];exact(hn46.symm.trans h46).symm
end Go.Proofs.YtomdimlnggpgbaaGreatDoor
