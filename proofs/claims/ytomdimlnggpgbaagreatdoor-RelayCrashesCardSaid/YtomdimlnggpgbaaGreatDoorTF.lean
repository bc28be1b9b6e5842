/- RelayCrashes. -/
import Derived.Test.YtomdimlnggpgbaaGreatDoorChecked
import Derived.LaidEql
import Derived.Stop.Asserts
import Derived.RowKitTokens
import Derived.Test.YtomdimlnggpgbaaGreatDoorTE
set_option linter.all false
set_option maxHeartbeats 4000000
namespace Go.Proofs.YtomdimlnggpgbaaGreatDoor.D
open Go Go.Sx
variable {es es':Array MapEntry}{q:Env}{F H R R':Hl}{c i most n place x y:Int}{all b bs bs' h l nt nt':List Int}{mem t:Mem}{a clock clock' da frm j k k1 k2 m s:Nat}{e:TypeId}{dp dp' p sl sl' v:Value}
def UB {a b:List (Int×List Int)} (h:lv a=lv b):a=b:=by
 apply aa2;intro j;have:=aa1 (fun l=>l[j]?) h;simp only[lv,aaL]at this;cases c:a[j]? with
 | none =>
  cases hb:b[j]? with
  | none=>rfl
  | some q=>simp [c,hb]at this
 | some p =>
  cases hb:b[j]? with
  | none=>simp [c,hb]at this
  | some q =>
   simp only[c,hb,abe,aaF,abl,Value.agg.injEq]at this;obtain⟨h1,h2⟩:=this;have e:=aa1 Array.toList h2;have d:=ly e;obtain⟨p1,p2⟩:=p;obtain⟨q1,q2⟩:=q;simp only at h1 d;rw[h1,d]
def BL (l:List (Int×List Int)):(lv l).length=l.length:=aaT _
def iI.inj {k:IntKind} {a b:List (Int×Value)} (h1:iI k es a) (h2:iI k es b):a=b:=by
 unfold iI at h1 h2;rw[h1]at h2;apply aa2;intro j;have:=aa1 (fun l=>l[j]?) h2;simp only[aaL]at this;cases c:a[j]?<;>cases hb:b[j]?<;>simp [c,hb]at this ⊢
 exact Prod.ext this.1 this.2
def sI.at {D:DM} (h:sI H a s m es clock D) :
 H a=some (.cells #[.slice (some ⟨s,0,none⟩) D.n D.n,.map (some m),.int .i64 D.bO,.bool D.gone] 93 (0,0))/\H s=some (.cells (aM D.now).toArray 119 (0,0))/\H m=some (.map es clock):=by
 obtain⟨b,c,d⟩:=Dl (A:=kc a s m D.n D.bO D.gone) (B:=jP s D.now) (C:=Hl.one m (.map es clock)) (Hl.jh h.nas) (Hl.jh h.nam) (Hl.jh h.nsm);rw[h.hl];exact⟨b _ _ (Hl.aU _ _),c _ _ (Hl.aU _ _),d _ _ (Hl.aU _ _)⟩
def aD.uniq {D D':DM} (h:aD H v D) (h':aD H v D'):D=D':=by
 obtain⟨a,s,m,es,clock,rfl,h⟩:=h;obtain⟨p,q,r,es',clock',he,h'⟩:=h';simp only[Value.pointer.injEq,aaF,Addr.mk.injEq,aaP]at he;subst he;obtain⟨x1,l,o⟩:=h.at;obtain⟨c,d,e⟩:=h'.at;rw[x1]at c;simp only[aaF,Obj.cells.injEq,abh,aaC,Value.slice.injEq,Addr.mk.injEq,Value.map.injEq,Value.int.injEq,Value.bool.injEq,aaP,abk]at c;obtain⟨⟨rfl,hn,_⟩,rfl,hf,i⟩:=c;rw[l]at d;rw[o]at e;simp only[aaF,Obj.cells.injEq,aa5,aaP]at d;simp only[aaF,Obj.map.injEq]at e;obtain⟨rfl,rfl⟩:=e;have e1:=ly (aa1 Array.toList d);have j:=UB (iI.inj h.map h'.map);obtain⟨n,now,loose,bO,gone⟩:=D;obtain⟨n',k,b,f,g⟩:=D';simp only at hn hf i e1 j;subst hn hf i e1 j;rfl
def JJ {D:DM} (hok:D.ok) (hm:iI .i64 es (lv D.loose)) (b:MapKept.Stamped es clock) (h1:a≠s) (h2:a≠m) (c:s≠m)
 (e1:qG q mem 0=kc a s m D.n D.bO D.gone) (d:qG q mem 1=jP s D.now) (e:qG q mem 2=Hl.one m (.map es clock)):sI (xA q mem [0,1,2]) a s m es clock D :=
 ⟨hok,hm,b,h1,h2,c,by show di [qG q mem 0,qG q mem 1,qG q mem 2]=_;rw[e1,d,e]⟩
def ju (a:Nat):Value.pointer (az (a:Int) 0)=.pointer (some ⟨a,0,none⟩):=by rw[au ah];rfl
def fP (f:FuncId) (num:DM->Int):Sx.Spec where
 fn:=f
 own:=[.arg 0]
 rd:=[]
 res:=[.one (.int .i64)]
 pre:=fun xs Hs Rs=>∃ p H D,xs=[p]/\Hs=[H]/\aD H p D
 post:=fun xs Hs Rs v Hs' F=>∃ p H D H',xs=[p]/\Hs=[H]/\aD H p D/\Hs'=[H']/\aD H' p D/\v=.int .i64 (num D)
def mA:=fP 43 fun D=>D.n
def P1:aG Tryz.prog [] mA.fn where
 Λ:=aC
 args:=[TP (.var 0) (.lit 0)]
 mem:=tV
 nv:=15
def xn:mA.OK Tryz.prog:=by
 refine Spec.aV (Γ:=[]) (fun _ h=>by cases h) ?_;rintro xs Hs Rs c b ⟨p,H,D,rfl,rfl,a,s,m,es,clock,rfl,h⟩;have e1:Rs=[]:=aaz.1 b;subst e1;refine⟨P1,nT a s m D [0,0,0,0,0] es clock Hl.none,fun _ _=>True,fun _ _=>0,?_,yQ h _ rfl _,(fun _ h=>nomatch h),?_⟩
 .show [Value.pointer (az (a:Int) 0)]=_;rw[ju]
 .refine aG.read [] [] [] ?_;simp only[go_sem,Nat.reduceAdd];refine⟨by show(0:Int)<=(D.n:Int);omega,fun _=>⟨[[0,1,2]],[],rfl,rfl,⟨(bf fun _=>D.n),rfl,zzT,zzT⟩,_,H,D,_,rfl,rfl,⟨a,s,m,es,clock,rfl,h⟩,rfl,⟨a,s,m,es,clock,rfl,?_⟩,rfl⟩⟩;exact JJ h.ok h.map h.st h.nas h.nam h.nsm (NP rfl rfl rfl rfl rfl rfl rfl rfl) rfl rfl
def DM.has (D:DM) (i:Int):Bool:=decide (0<=i/\i<D.n)
variable {D D':DM}
def DM.aS (D:DM) (i:Int):List Int:=(D.now.drop (64*i.toNat)).take 64
def iH (D:DM) (i:Int):List Int×Int:=if D.has i=false then([],1)else if D.gone then([],5)else(D.aS i,0)
def gO (h:D.ok) (hi:D.has i=true):(D.aS i).length=64:=by
 unfold DM.has at hi;simp only[aaB]at hi;unfold DM.aS;rw[aaU,aa7,h.now];omega
def ti (h:D.ok) (hi:D.has i=true) (a:j<64):(D.aS i)[j]?=D.now[64*i.toNat+j]?:=by
 unfold DM.aS;rw[abx a,aa9]
def zY (s y:Nat):(jP s D.now).cell s y=(D.now[y]?).map (Value.int .u8):=by
 unfold jP;rw[Hl.one_cell,abI,fT]
def Cd:Sx.Spec where
 fn:=122
 own:=[.arg 0]
 rd:=[]
 res:=[.one .sl,.one (.int .i64)]
 pre:=fun xs Hs Rs=>∃ p i H D,xs=[p,.int .i64 i]/\Hs=[H]/\aD H p D
 post:=fun xs Hs Rs v Hs' F=>∃ p i H D H' u,xs=[p,.int .i64 i]/\Hs=[H]/\aD H p D/\Hs'=[H']/\aD H' p D/\v=.tuple #[u,.int .i64 (iH D i).2]/\bZ F 5 u (iH D i).1
def Xk:aG Tryz.prog [] Cd.fn where
 Λ:=aC
 args:=[TP (.var 0) (.lit 0),TI .i64 (.var 1)]
 mem:=tV
 nv:=15
def Gj:Cd.OK Tryz.prog:=by
 refine Spec.aV (Γ:=[]) (fun _ h=>by cases h) ?_;rintro xs Hs Rs w o ⟨p,i,H,D,rfl,rfl,a,s,m,es,clock,rfl,h⟩;have e1:Rs=[]:=aaz.1 o;subst e1;refine⟨Xk,nT a s m D [i,0,0,0,0] es clock Hl.none,fun _ _=>True,fun _ _=>0,?_,yQ h _ rfl _,(fun _ h=>nomatch h),?_⟩
 .show [Value.pointer (az (a:Int) 0),Value.int .i64 i]=_;rw[ju]
 .refine aG.read [] [] [] ?_;simp only[go_sem,Nat.reduceAdd];have v1:(nT a s m D [i,0,0,0,0] es clock Hl.none).i 1=i:=rfl;have v6:(nT a s m D [i,0,0,0,0] es clock Hl.none).i 6=s:=rfl;have v7:(nT a s m D [i,0,0,0,0] es clock Hl.none).i 7=0:=rfl;have x:(nT a s m D [i,0,0,0,0] es clock Hl.none).i 8=D.n:=rfl;have y:(nT a s m D [i,0,0,0,0] es clock Hl.none).b 12=D.gone:=rfl;rw[v1,v6,v7,x,y];have fV:∀ (q:Env) (t:Mem),ai 15 (nT a s m D [i,0,0,0,0] es clock Hl.none) q->aD (xA q (tV++t) [0,1,2]) (.pointer (some ⟨a,0,none⟩)) D:=fun q t g =>
   ⟨a,s,m,es,clock,rfl,JJ h.ok h.map h.st h.nas h.nam h.nsm (NP (f:=.var 11) (g:=.bvar 12) (g.i 0) (g.i 6) (g.i 7) (g.i 8) (g.i 9) (g.i 10) (g.i 11) (g.b 12)) (g.h 13) (g.h 14)⟩
  have bad:∀ e:Int,iH D i=([],e)->postOf Cd [.pointer (some ⟨a,0,none⟩),.int .i64 i] [H] [] (nT a s m D [i,0,0,0,0] es clock Hl.none) tV (.tup [.one (.sl (.lit (-1)) (.lit 0) (.lit 0) (.lit 0)),.one (.int .i64 (.lit e))]):=fun e he _ =>
   ⟨[[0,1,2]],[],rfl,rfl,⟨(bf fun k=>[-1,0,0,0,e].getD k 0),rfl,⟨by show(-1:Int)<= -1;omega,aaM _,aaM _,aaM _⟩,zzT,zzT⟩,_,i,H,D,_,_,rfl,rfl,⟨a,s,m,es,clock,rfl,h⟩,rfl,fV _ [] (ai.refl _ _),by rw[he];rfl,by rw[he];exact⟨rfl,Or.inl ⟨rfl,rfl⟩⟩⟩
  refine⟨fun h0=>⟨ah,fun hn=>bad 1 ?_,fun hn=>⟨fun r=>bad 5 ?_,fun r=>⟨ah,ah,fun q1 c p1=>⟨⟨⟨[],?_⟩,ah,Or.inl ⟨?_,?_,ah,?_⟩,aA,aA⟩,fun q2 z ⟨A,B,a3,_⟩ _=>?_⟩⟩⟩⟩,fun h0=>bad 1 ?_⟩
  .unfold iH DM.has;rw[aaR (by simp only[abu];omega)]
  .have hh:D.has i=true:=by unfold DM.has;simpa using ⟨h0,hn⟩
   unfold iH;rw[hh,r];rfl
  .refine⟨rfl,Or.inr ⟨(q1.i 15).toNat,0,#[],by rw[au p1];rfl,Hl.aU _ _,ah,aA,rfl,rfl⟩⟩
  .rw[c.i 6,v6];omega
  .rw[c.i 7,c.i 1,v7,v1];omega
  .intro j d;have d:j<64:=d;rw[c.h 13,c.i 6,c.i 7,c.i 1,v6,v7,v1];show ∃ v,(jP s D.now).cell s _=some v/\_;rw[zY,aax (by rw[h.ok.now];omega)];exact⟨_,rfl,rfl⟩
  .have hh:D.has i=true:=by unfold DM.has;simpa using ⟨h0,hn⟩
   have hr:iH D i=(D.aS i,0):=by
    unfold iH;rw[hh];simp only[Bool.true_eq_false,aca];rw[aaG r]
   have u:=gO h.ok hh;have l:cn (q1.h 13) (q1.i 6).toNat (q1.i 7+q1.i 1*64).toNat (Int.toNat 64)=aM (D.aS i):=by
    rw[c.h 13,c.i 6,c.i 7,c.i 1,v6,v7,v1];show cn (jP s D.now) s _ 64=_;unfold cn;apply aa2;intro j;rw[aaL,fT];rcases abn j 64 with d | d
    .rw[aaZ d,abe,zY,ti h.ok hh d,show(0+i*64).toNat+j=64*i.toNat+j by omega,aax (by rw[h.ok.now];omega)];rfl
    .rw[aaK (by simpa using d),aaK ah];rfl
   have hx:=a3 [] ⟨rfl,Or.inr ⟨(q1.i 15).toNat,0,#[],by rw[au p1];rfl,Hl.aU _ _,ah,aA,rfl,rfl⟩⟩;rw[l,abU]at hx;refine⟨[[0,1,2]],[3],rfl,rfl,⟨(bf fun k=>[q2.i 16,0,64,q2.i 17,0].getD k 0),rfl,⟨A,aaM _,by show(0:Int)<=64;omega,B⟩,zzT,zzT⟩,_,i,H,D,_,_,rfl,rfl,⟨a,s,m,es,clock,rfl,h⟩,rfl,fV q2 _ (c.tr z),by rw[hr];rfl,?_⟩;rw[hr];show aP (di [q2.h 16]) _ _ _ _ _;rw[aN,u];exact hx
  .unfold iH DM.has;rw[aaR (by simp only[abu];omega)]
def kW (D:DM) (i:Int) (bs:List Int):DM:=⟨D.n,br D.now (64*i.toNat) bs,if(gX i (lv D.loose) 0).isSome then D.loose else D.loose++[(i,D.aS i)],if 0<D.bO then D.bO-1 else D.bO,false⟩
def cj (D:DM) (i:Int) (bs:List Int):Int×DM :=
 if D.has i=false\/bs.length≠64 then(1,D)else if D.gone then(5,D)else if D.bO=0 then(5,{D with gone:=true})else(0,kW D i bs)
def Bd (a:Hl->Value->List Int->Prop):Sx.Spec where
 fn:=158
 own:=[.arg 0]
 rd:=[2]
 res:=[.one (.int .i64)]
 pre:=fun xs Hs Rs=>∃ p i u bs H R D,xs=[p,.int .i64 i,u]/\Hs=[H]/\Rs=[R]/\aD H p D/\a R u bs
 post:=fun xs Hs Rs v Hs' F=>∃ p i u bs H R D H',xs=[p,.int .i64 i,u]/\Hs=[H]/\Rs=[R]/\aD H p D/\a R u bs/\Hs'=[H']/\aD H' p (cj D i bs).2/\v=.int .i64 (cj D i bs).1
def En:Sx.Spec:=Bd oI
def rV (f:E):Nd:=(fun a k h i j=>(fun b c d g l=>(.and (.pre c) (.ext c (.ext (.alloc 81) (.and (.imp (.not (.bvar 80)) (.and (.e (.le h i)) (.and (.e (.le h (.var 7))) (.and (.e (.hby 13 i a (.lit 64))) (.and (.pre d) (.ext d (.and (.e (.le h (.var 2))) (.and (.e (.le h (.var 3))) (.and j (.and (.pre (.put 83 13 i a b)) (.ext (.put 83 13 i a b) (.post [.bj 0 g 93,.hp 83 [13] [.var 6] [],.hp 82 [14] [.var 10] [],.ro 15 [.var 2] false,.dead] l)))))))))))) (.imp (.bvar 80) (.and (.e (.le h (.var 2))) (.and (.e (.le h (.var 3))) (.and j (.and (.e (.le h i)) (.and (.e (.le h (.var 7))) (.and (.pre (.put 82 13 i a b)) (.ext (.put 82 13 i a b) (.post [.bj 0 g 93,.hp 82 [13] [.var 6] [],.hp 14 [] [.var 10] [],.ro 15 [.var 2] false,.dead] l)))))))))))):Nd)) (aY 15 (.var 2) (.var 3) 0 k) (.mget 16 14 (.var 10) (.int .i64) (.int .i64 (.var 1)) (.agg (List.replicate 64 (CV.int .u8 h))) (List.replicate 64 (Ck.int .u8)) true) (.mset 82 14 (.var 10) (.int .i64) (.int .i64 (.var 1)) (.agg (aY 13 i a 0 k))) [.sl i (.var 7) (.var 8) (.var 9),.map (.var 10),.int .i64 f,.bool (.bvar 12)] (.sv (.one (.int .i64 h)))) (.add (.var 7) (.mul (.var 1) (.lit 64))) (List.replicate 64 (Kd.int .u8)) (.lit 0) (.var 6) (.e (.hby 15 (.var 2) (.var 3) (.lit 64)))
def K8:Nd:=(fun g c d f=>(fun a=>(fun b=>(.and (.imp (.le d (.var 1)) (.and (.e (.le d g)) (.and (.imp (.lt (.var 1) g) (.and (.e (.le d (.var 4))) (.and (.imp (.not (.eq (.var 4) (.lit 64))) b) (.imp (.eq (.var 4) (.lit 64)) (.and (.imp (.not (.bvar 12)) (.and (.imp (.eq c d) (.post [.bj 0 [.sl (.var 6) (.var 7) g (.var 9),.map (.var 10),.int .i64 c,.bool .tt] 93,.hp 13 [] [.var 6] [],.hp 14 [] [.var 10] [],.ro 15 [.var 2] false] f)) (.imp (.not (.eq c d)) (.and (.imp (.lt d c) (rV (.wrap .i64 (.sub c (.lit 1))))) (.imp (.not (.lt d c)) (rV c)))))) (.imp (.bvar 12) (.post a f))))))) (.imp (.not (.lt (.var 1) g)) b)))) (.imp (.not (.le d (.var 1))) b):Nd)) (.post a (.sv (.one (.int .i64 (.lit 1)))))) [.bj 0 [.sl (.var 6) (.var 7) g (.var 9),.map (.var 10),.int .i64 c,.bool (.bvar 12)] 93,.hp 13 [] [.var 6] [],.hp 14 [] [.var 10] [],.ro 15 [.var 2] false]) (.var 8) (.var 11) (.lit 0) (.sv (.one (.int .i64 (.lit 5))))
def VI:aG Tryz.prog [] 158 where
 Λ:=aC
 args:=[TP (.var 0) (.lit 0),TI .i64 (.var 1),.sv (.one (.sl (.var 2) (.var 3) (.var 4) (.var 5)))]
 mem:=tV++[.ro 15 [.var 2] false]
 nv:=16
def EK (l:List Int):(aM l).map ma=List.replicate l.length (.int .u8):=by
 unfold aM;rw[abD]
 induction l with
 | nil=>rfl
 | cons a l ih=>rw[aaY,abc,adp,ih];rfl
def yh (h:D.ok) (hi:D.has i=true) (hb:bs.length=64):(kW D i bs).ok:=by
 have hh:0<=i/\i<D.n:=by unfold DM.has at hi;simpa using hi
 refine⟨?_,h.n,?_,?_,fun p hp=>?_⟩
 .show(br D.now (64*i.toNat) bs).length=_;rw[sF (by rw[h.now];omega),h.now];rfl
 .have:=h.f0;show(-1:Int)<=if 0<D.bO then D.bO-1 else D.bO
  split<;>omega
 .have:=h.f1;show(if 0<D.bO then D.bO-1 else D.bO)<=(9223372036854775807:Int);split<;>omega
 .have hp:p∈(if(gX i (lv D.loose) 0).isSome then D.loose else D.loose++[(i,D.aS i)]):=hp;split at hp
  .exact h.loose p hp
  .rcases aa4.1 hp with hp | hp
   .exact h.loose p hp
   .rw[aaJ]at hp;subst hp;exact⟨gO h hi,hh.1,hh.2⟩
def LZ (a:List (Int×List Int)) (i:Int) (l:List Int):lv (a++[(i,l)])=lv a++[(i,.agg (aM l).toArray)]:=by simp [lv]
def EV (s y:Nat) (now bs:List Int):(jP s now).put s y (aM bs)=jP s (br now y bs):=by
 unfold jP;rw[Hl.DC,<-Jc]
def Km (h:D.ok) (hi:D.has i=true) (s:Nat):∀ j z,(D.aS i)[j]?=some z->(jP s D.now).cell s (64*i.toNat+j)=some (.int .u8 z):=by
 intro j z a;have hl:=gO h hi;have b:j<64:=by have:=(aaH.1 a).1;omega
 rw[zY,<-ti h hi b,a];rfl
def Nb {o:Hl->Value->List Int->Prop} (hw:∀ {R u bs},o R u bs->fL R u bs):(Bd o).OK Tryz.prog:=by
 refine Spec.aV (Γ:=[]) (fun _ h=>by cases h) ?_;rintro xs Hs Rs ar au ⟨p,i,u,bs,H,R,D,rfl,rfl,rfl,⟨a,s,m,es,clock,rfl,h⟩,T⟩;obtain⟨x,y,cp,rfl,hy,hR⟩:=hw T;refine⟨VI,nT a s m D [i,x,y,bs.length,cp] es clock R,fun _ _=>True,fun _ _=>0,?_,JI h _ rfl _ _,(fun _ h=>nomatch h),?_⟩
 .show [Value.pointer (az (a:Int) 0),Value.int .i64 i,Value.slice (az x y) ((bs.length:Int)).toNat ((cp:Int)).toNat]=_;rw[ju,aar,aar]
 .refine aG.lit (x:=K8) ?_;generalize e:nT a s m D [i,x,y,bs.length,cp] es clock R=J;have v0:J.i 0=a:=by rw[<-e];rfl
  have v1:J.i 1=i:=by rw[<-e];rfl
  have v2:J.i 2=x:=by rw[<-e];rfl
  have v3:J.i 3=y:=by rw[<-e];rfl
  have v4:J.i 4=bs.length:=by rw[<-e];rfl
  have v6:J.i 6=s:=by rw[<-e];rfl
  have v7:J.i 7=0:=by rw[<-e];rfl
  have v8:J.i 8=D.n:=by rw[<-e];rfl
  have v9:J.i 9=D.n:=by rw[<-e];rfl
  have v10:J.i 10=m:=by rw[<-e];rfl
  have v11:J.i 11=D.bO:=by rw[<-e];rfl
  have vb:J.b 12=D.gone:=by rw[<-e];rfl
  have P:J.h 13=jP s D.now:=by rw[<-e];rfl
  have Q:J.h 14=Hl.one m (.map es clock):=by rw[<-e];rfl
  have vr:J.h 15=R:=by rw[<-e];rfl
  have hI:∀ q,ai 16 J q->∀ k,k<16->q.i k=J.i k:=fun q g k h=>g.i k h;have ae:aD H (.pointer (some ⟨a,0,none⟩)) D:=⟨a,s,m,es,clock,rfl,h⟩;have out:∀ (q:Env) (f g:E) (k1 k2:Nat) (t:Mem) (ts:List E) (v1 v2:List Nat) (c:Int) (D':DM) (es':Array MapEntry) (clock':Nat),ai 16 J q->cj D i bs=(c,D')->D'.ok->D'.n=D.n->(iI .i64 es' (lv D'.loose)/\MapKept.Stamped es' clock')->aB q f=D'.bO->bh q g=D'.gone->q.h k1=jP s D'.now->q.h k2=Hl.one m (.map es' clock') ->
   postOf (Bd o) [.pointer (some ⟨a,0,none⟩),.int .i64 i,.slice (az x y) bs.length cp] [H] [R] q
    (.bj 0 [.sl (.var 6) (.var 7) (.var 8) (.var 9),.map (.var 10),.int .i64 f,.bool g] 93::.hp k1 v1 [.var 6] []::.hp k2 v2 [.var 10] []::t) (.sv (.one (.int .i64 (.lit c)))):=by
   intro q f g k1 k2 t ts w1 w2 c D' es' clock' S hw hok hn hm hf r h1 h2 _;refine⟨[[0,1,2]],[],rfl,rfl,⟨(bf fun _=>c),rfl,zzT,zzT⟩,_,i,_,bs,H,R,D,_,rfl,rfl,rfl,ae,T,rfl,⟨a,s,m,es',clock',rfl,?_⟩,by rw[hw];rfl⟩;rw[hw];refine JJ hok hm.1 hm.2 h.nas h.nam h.nsm (NP ?_ ?_ ?_ ?_ ?_ ?_ hf r) h1 h2
   .rw[S.i 0,v0]
   .rw[S.i 6,v6]
   .rw[S.i 7,v7]
   .rw[S.i 8,v8];show(D.n:Int)=(D'.n:Int);rw[hn]
   .rw[S.i 9,v9];show(D.n:Int)=(D'.n:Int);rw[hn]
   .rw[S.i 10,v10]
  have tail:∀ f:E,(∀ q,ai 16 J q->aB q f=if 0<D.bO then D.bO-1 else D.bO)->D.has i=true->bs.length=64->D.gone=false->D.bO≠0->(rV f).holds ⟨[],fun _ _=>True,fun _ _=>0,postOf (Bd o) [.pointer (some ⟨a,0,none⟩),.int .i64 i,.slice (az x y) bs.length cp] [H] [R]⟩ (fun _=>0) J:=by
   intro f hf hi hb r F;have hh:0<=i/\i<D.n:=by unfold DM.has at hi;simpa using hi
   have hw:cj D i bs=(0,kW D i bs):=by
    unfold cj;rw[aaG (by rw[hi,hb];simp),aaG (by rw[r];simp),aaG F]
   have hx:0<=x/\∀ j z,bs[j]?=some z->R.cell x.toNat (y.toNat+j)=some (.int .u8 z):=by
    rcases hR with h | h
    .rw[h]at hb;cases hb
    .exact h
   have K:=yh h.ok hi hb;have U:=gO h.ok hi;unfold rV;simp only[go_sem,Nat.reduceAdd];rw[v10,v1,Q];have w:(Hl.one m (.map es clock)) ((m:Int)).toNat=some (.map es clock):=by rw[aar];exact Hl.aU _ _
   refine⟨⟨ah,es,clock,_,w,je h.map i,?_⟩,fun q1 g1 af q2 g2 _=>?_⟩
   .intro j v hv;obtain⟨_,hv⟩:=zR hv;unfold lv at hv;rw[aaL,aaI]at hv;obtain⟨p,hp,he⟩:=hv;cases he;have:=(h.ok.loose p (aaA hp)).1;refine⟨_,rfl,?_⟩;show(aM p.2).map ma=_;rw[EK,this]
   .obtain⟨_,A⟩:=af es clock _ w (je h.map i);have A:q1.b 80=(gX i (lv D.loose) 0).isSome:=A;have V:q2.b 80=(gX i (lv D.loose) 0).isSome:=by rw[g2.b 80,A]
    have d:ai 16 J q2:=g1.tr g2;have hby:∀ q,ai 16 J q->bM (q.h 15) (q.i 2).toNat (q.i 3).toNat (Int.toNat 64)=true:=by
     intro q g;rw[g.h 15,g.i 2,g.i 3,vr,v2,v3];exact df hx.2 (by rw[hb];decide)
    have W:∀ q,ai 16 J q->(aY 15 (.var 2) (.var 3) 0 (List.replicate 64 (Kd.int .u8))).map (CV.ev q)=aM bs:=by
     intro q g;refine im 64 0 bs hb fun j z F=>?_;rw[g.h 15,al,al,g.i 2,g.i 3,vr,v2,v3,aa6];exact hx.2 j z F
    have G:∀ q,ai 16 J q->(q.i 7+q.i 1*64).toNat=64*i.toNat:=by
     intro q g;rw[g.i 7,g.i 1,v7,v1];omega
    have X:∀ q,ai 16 J q->0<=q.i 6/\0<=q.i 7+q.i 1*64/\(q.h 13).wr (q.i 6).toNat (q.i 7+q.i 1*64).toNat (aY 15 (.var 2) (.var 3) 0 (List.replicate 64 (Kd.int .u8))).length=true:=by
     intro q g;have:=G q g;refine⟨by rw[g.i 6,v6];omega,by rw[g.i 7,g.i 1,v7,v1];omega,?_⟩;rw[this,g.h 13,g.i 6,P,v6,kZ,aby,aar];exact Hl.DD _ _ _ _ _ (by rw[acm,cw,h.ok.now];omega)
    have L:∀ q,ai 16 J q->(q.h 13).put (q.i 6).toNat (q.i 7+q.i 1*64).toNat (aM bs)=jP s (kW D i bs).now:=by
     intro q g;rw[G q g,g.h 13,g.i 6,P,v6,aar,EV];rfl
    have M:∀ q,ai 16 J q->0<=q.i 2/\0<=q.i 3/\0<=q.i 6/\0<=q.i 7:=by
     intro q g;rw[g.i 2,g.i 3,g.i 6,g.i 7,v2,v3,v6,v7];exact⟨hx.1,hy,ah,ah⟩
    refine⟨fun N=>?_,fun ag=>?_⟩
    .have B:gX i (lv D.loose) 0=none:=by
      rw[V]at N;cases aj:gX i (lv D.loose) 0 with
      | none=>rfl
      | some v=>rw[aj]at N;simp at N
     obtain⟨es',an,ao,Y⟩:=L8 h.map B (.agg (aM (D.aS i)).toArray) h.st;have aq:bM (q2.h 13) (q2.i 6).toNat (q2.i 7+q2.i 1*64).toNat (Int.toNat 64)=true:=by
      rw[G q2 d,d.h 13,d.i 6,P,v6,aar];exact df (Km h.ok hi s) (by rw[U];decide)
     have Z:(aY 13 (.var 6) (.add (.var 7) (.mul (.var 1) (.lit 64))) 0 (List.replicate 64 (Kd.int .u8))).map (CV.ev q2)=aM (D.aS i):=by
      refine im 64 0 _ U fun j z F=>?_;simp only[bQ,cG,al,ak];rw[G q2 d,d.h 13,d.i 6,P,v6,aar,aa6];exact Km h.ok hi s j z F
     have aa:q2.h 14 (q2.i 10).toNat=some (.map es clock):=by
      rw[d.h 14,d.i 10,Q,v10];exact w
     refine⟨(M q2 d).2.2.1,(M q2 d).2.2.2,aq,⟨by rw[d.i 10,v10];omega,es,clock,_,aa,je h.map _⟩,fun C g3 I=>?_⟩;have l:ai 16 J C:=d.tr g3;have ab:=I es clock aa;rw[Z,d.i 1,v1,an,d.h 14,d.i 10,Q,v10,aar,Hl.sY]at ab;refine⟨(M C l).1,(M C l).2.1,hby C l,X C l,fun q4 g4 ad=>?_⟩;have O:ai 16 J q4:=l.tr g4;rw[W C l,L C l]at ad;refine out q4 _ _ _ _ _ [] _ _ 0 (kW D i bs) es' (clock+1) O hw K rfl ?_ (hf q4 O) (by rw[bD,O.b 12,vb,r];rfl) ad (by rw[g4.h 82,ab]);have el:(kW D i bs).loose=D.loose++[(i,D.aS i)]:=by
      show(if(gX i (lv D.loose) 0).isSome then D.loose else D.loose++[(i,D.aS i)])=_;rw[B];rfl
     rw[el,LZ];exact⟨ao,Y⟩
    .have el:(kW D i bs).loose=D.loose:=by
      show(if(gX i (lv D.loose) 0).isSome then D.loose else D.loose++[(i,D.aS i)])=_;rw[<-V,ag];rfl
     refine⟨(M q2 d).1,(M q2 d).2.1,hby q2 d,(M q2 d).2.2.1,(M q2 d).2.2.2,X q2 d,fun C g3 I=>?_⟩;have l:ai 16 J C:=d.tr g3;rw[W q2 d,L q2 d]at I;exact out C _ _ _ _ _ [] _ _ 0 (kW D i bs) es clock l hw K rfl (by rw[el];exact⟨h.map,h.st⟩) (hf C l) (by rw[bD,l.b 12,vb,r];rfl) I (by rw[l.h 14,Q])
  unfold K8;simp only[go_sem,Nat.reduceAdd];rw[v1,v4,v8,v11,vb];have bad:∀ c:Int,cj D i bs=(c,D)->postOf (Bd o) [.pointer (some ⟨a,0,none⟩),.int .i64 i,.slice (az x y) bs.length cp] [H] [R] J
   (.bj 0 [.sl (.var 6) (.var 7) (.var 8) (.var 9),.map (.var 10),.int .i64 (.var 11),.bool (.bvar 12)] 93::.hp 13 [] [.var 6] []::.hp 14 [] [.var 10] []::[.ro 15 [.var 2] false]) (.sv (.one (.int .i64 (.lit c)))):=fun c hc =>
   out J _ _ _ _ _ [] _ _ c D es clock (ai.refl _ _) hc h.ok rfl ⟨h.map,h.st⟩ (by rw[al,v11]) (by rw[bD,vb]) P Q
  have yes:0<=i->i<D.n->D.has i=true:=fun h0 h1=>by unfold DM.has;simp [h0,h1]
  refine⟨fun h0=>⟨ah,fun hn=>⟨ah,fun hb=>bad 1 ?_,fun hb=>⟨fun r=>⟨fun F=>?_,fun F=>⟨fun hp=>?_,fun hp=>?_⟩⟩,fun r=>bad 5 ?_⟩⟩,fun hn=>bad 1 ?_⟩,fun h0=>bad 1 ?_⟩
  .unfold cj;rw[aaR (Or.inr ah)]
  .have hw:cj D i bs=(5,{D with gone:=true}):=by
    unfold cj;rw[aaG (by rw[yes h0 hn];simp;omega),aaG r,aaR F]
   exact out J _ _ _ _ _ [] _ _ 5 {D with gone:=true} es clock (ai.refl _ _) hw ⟨h.ok.now,h.ok.n,h.ok.f0,h.ok.f1,h.ok.loose⟩ rfl ⟨h.map,h.st⟩ (by rw[al,v11]) (by rw[cZ]) P Q
  .refine tail _ (fun q g=>?_) (yes h0 hn) ah (by simpa using r) F;have:=h.ok.f1;rw[bP,dm,al,ak,g.i 11,v11,aaR hp,wrap_i64 ah ah]
  .refine tail _ (fun q g=>?_) (yes h0 hn) ah (by simpa using r) F;rw[al,g.i 11,v11,aaG hp]
  .unfold cj;rw[aaG (by rw[yes h0 hn];simp;omega),aaR r]
  .unfold cj DM.has;rw[aaR (Or.inl (by simp only[abu];omega))]
  .unfold cj DM.has;rw[aaR (Or.inl (by simp only[abu];omega))]
def CJ:En.OK Tryz.prog:=Nb fun h=>h.w
def bT (D:DM):Int×DM:=if D.gone then(5,D)else if D.bO=0 then(5,{D with gone:=true})else(0,⟨D.n,D.now,[],if 0<D.bO then D.bO-1 else D.bO,D.gone⟩)
def bp (D:DM) (n:Int):DM:={D with bO:=max n (-1)}
def ua (h:D.ok) (hn:n<=9223372036854775807):(bp D n).ok:=⟨h.now,h.n,by show -1<=max n (-1);omega,by show max n (-1)<=_;omega,h.loose⟩
def T4 {x1 d e j k:Int} (h:sI H a s m es clock D) (b:ai 15 (nT a s m D [x1,d,e,j,k] es clock R) q) {f g:E} {v1 v2:List Nat} 
 (hok:D'.ok) (hn:D'.n=D.n) (hm:iI .i64 es' (lv D'.loose)) (c:MapKept.Stamped es' clock') (hf:aB q f=D'.bO) (l:bh q g=D'.gone) (h1:q.h k1=jP s D'.now) (h2:q.h k2=Hl.one m (.map es' clock')) :
 aD (xA q (.bj 0 [.sl (.var 6) (.var 7) (.var 8) (.var 9),.map (.var 10),.int .i64 f,.bool g] 93::.hp k1 v1 [.var 6] []::.hp k2 v2 [.var 10] []::t) [0,1,2]) (.pointer (some ⟨a,0,none⟩)) D':=by
 refine⟨a,s,m,es',clock',rfl,JJ hok hm c h.nas h.nam h.nsm (NP (b.i 0) (b.i 6) (b.i 7) ?_ ?_ (b.i 10) hf l) h1 h2⟩
 .rw[b.i 8];show(D.n:Int)=(D'.n:Int);rw[hn]
 .rw[b.i 9];show(D.n:Int)=(D'.n:Int);rw[hn]
def xt:Sx.Spec where
 fn:=159
 own:=[.arg 0]
 rd:=[]
 res:=[.one (.int .i64)]
 pre:=fun xs Hs Rs=>∃ p H D,xs=[p]/\Hs=[H]/\aD H p D
 post:=fun xs Hs Rs v Hs' F=>∃ p H D H',xs=[p]/\Hs=[H]/\aD H p D/\Hs'=[H']/\aD H' p (bT D).2/\v=.int .i64 (bT D).1
def XC:aG Tryz.prog [] xt.fn where
 Λ:=aC
 args:=[TP (.var 0) (.lit 0)]
 mem:=tV
 nv:=15
def GL:xt.OK Tryz.prog:=by
 refine Spec.aV (Γ:=[]) (fun _ h=>by cases h) ?_;rintro xs Hs Rs A r ⟨p,H,D,rfl,rfl,a,s,m,es,clock,rfl,h⟩;have e1:Rs=[]:=aaz.1 r;subst e1;refine⟨XC,nT a s m D [0,0,0,0,0] es clock Hl.none,fun _ _=>True,fun _ _=>0,?_,yQ h _ rfl _,(fun _ h=>nomatch h),?_⟩
 .show [Value.pointer (az (a:Int) 0)]=_;rw[ju]
 .refine aG.read [] [] [] ?_;simp only[go_sem,Nat.reduceAdd];generalize d:nT a s m D [0,0,0,0,0] es clock Hl.none=J;have v10:J.i 10=m:=by rw[<-d];rfl
  have v11:J.i 11=D.bO:=by rw[<-d];rfl
  have u:J.b 12=D.gone:=by rw[<-d];rfl
  have v:J.h 13=jP s D.now:=by rw[<-d];rfl
  have w:J.h 14=Hl.one m (.map es clock):=by rw[<-d];rfl
  have out:∀ (q:Env) (f g:E) (k1 k2:Nat) (y z:List Nat) (t:Mem) (c:Int) (D':DM) (es':Array MapEntry) (clock':Nat),ai 15 J q->bT D=(c,D')->D'.ok->D'.n=D.n->iI .i64 es' (lv D'.loose)->MapKept.Stamped es' clock'->aB q f=D'.bO->bh q g=D'.gone->q.h k1=jP s D'.now->q.h k2=Hl.one m (.map es' clock') ->
   postOf xt [.pointer (some ⟨a,0,none⟩)] [H] [] q (.bj 0 [.sl (.var 6) (.var 7) (.var 8) (.var 9),.map (.var 10),.int .i64 f,.bool g] 93::.hp k1 y [.var 6] []::.hp k2 z [.var 10] []::t) (.sv (.one (.int .i64 (.lit c)))):=by
   intro q f g k1 k2 y z t c D' es' clock' l hs hok hn hm x hf e h1 h2 _;rw[<-d]at l;refine⟨[[0,1,2]],[],rfl,rfl,⟨(bf fun _=>c),rfl,zzT,zzT⟩,_,H,D,_,rfl,rfl,⟨a,s,m,es,clock,rfl,h⟩,rfl,?_,by rw[hs];rfl⟩;rw[hs];exact T4 h l hok hn hm x hf e h1 h2
  have j:(Hl.one m (.map es clock)) ((m:Int)).toNat=some (.map es clock):=by rw[aar];exact Hl.aU _ _
  have tail:∀ (f:E),(∀ q,ai 15 J q->aB q f=if 0<D.bO then D.bO-1 else D.bO)->D.gone=false->D.bO≠0->(0<=J.i 10/\∃ es clock,J.h 14 (J.i 10).toNat=some (.map es clock))/\∀ J',ai 15 J J'->(∀ es clock,J.h 14 (J.i 10).toNat=some (.map es clock)->J'.h 15=(J.h 14).setObj (J.i 10).toNat (.map #[] clock)) ->
   postOf xt [.pointer (some ⟨a,0,none⟩)] [H] [] J' [.bj 0 [.sl (.var 6) (.var 7) (.var 8) (.var 9),.map (.var 10),.int .i64 f,.bool (.bvar 12)] 93,.hp 13 [] [.var 6] [],.hp 15 [14] [.var 10] []] (.sv (.one (.int .i64 (.lit 0)))):=by
   intro f hf e o;rw[v10,w];refine⟨⟨ah,es,clock,j⟩,fun q k l=>?_⟩;have l:=l es clock j;rw[aar,Hl.sY]at l;refine out q f (.bvar 12) 13 15 _ _ _ 0 ⟨D.n,D.now,[],if 0<D.bO then D.bO-1 else D.bO,D.gone⟩ #[] clock k ?_ ⟨h.ok.now,h.ok.n,?_,?_,fun p hp=>by cases hp⟩ rfl rfl (MapKept.stamped_empty _) (hf q k) (by rw[bD,k.b 12,u]) (by rw[k.h 13,v]) l
   .unfold bT;rw[aaG (by rw[e];simp),aaG o]
   .have:=h.ok.f0;show -1<=(if 0<D.bO then D.bO-1 else D.bO);split<;>omega
   .have:=h.ok.f1;show(if 0<D.bO then D.bO-1 else D.bO)<=_;split<;>omega
  rw[u,v11];have f0:=h.ok.f0;have f1:=h.ok.f1;refine⟨fun e=>⟨fun o=>?_,fun o=>⟨fun hp=>tail _ (fun q k=>?_) (abZ.2 e) o,fun hp=>tail _ (fun q k=>?_) (abZ.2 e) o⟩⟩,fun e=>?_⟩
  .refine out J _ _ _ _ _ _ _ 5 {D with gone:=true} es clock (ai.refl _ _) ?_ ⟨h.ok.now,h.ok.n,h.ok.f0,h.ok.f1,h.ok.loose⟩ rfl h.map h.st (by rw[al,v11]) (cZ _) v w;unfold bT;rw[aaG e,aaR o]
  .rw[aaR hp,bP,dm,al,ak,k.i 11,v11];exact wrap_i64 ah ah
  .rw[aaG hp,al,k.i 11,v11]
  .refine out J _ _ _ _ _ _ _ 5 D es clock (ai.refl _ _) ?_ h.ok rfl h.map h.st (by rw[al,v11]) (by rw[bD,u]) v w;unfold bT;rw[aaR e]
def fO (v:Value):List Int:=(TQ v).map fun c=>cf (some c)
def sS (l:List Int):fO (.agg (aM l).toArray)=l:=by
 show((l.map (Value.int .u8)).map fun c=>cf (some c))=l;rw[abD];exact List.map_id l
def iD:∀ (n:Nat) (l:List Int),l.length=n->bo (aM l) ((List.replicate n (Ck.int .u8)).map kU)
 | 0,[],_=>trivial
 | n+1,x::l,h=>⟨by simp [bz,kU],iD n l (by simpa using h)⟩
 | 0,_::_,h=>by simp at h
 | _+1,[],h=>by simp at h
def jK (n c:Int):Int:=cQ .or .u64 (IntKind.u64.wrap (n*2 ^ (min (Int.toNat 8) IntKind.u64.bits))) (IntKind.u64.wrap c)
def dZ (bs:List Int):Int:=bs.foldl jK 0
def nP (bs:List Int) (k:Nat) (h:k<bs.length):dZ (bs.take (k+1))=jK (dZ (bs.take k)) bs[k]:=by
 unfold dZ;rw[abV,aax h,List.foldl_append];rfl
def Nw:Sx.Spec where
 fn:=155
 own:=[]
 rd:=[0]
 res:=[.one (.int .u64)]
 pre:=fun xs Hs Rs=>∃ u bs R,xs=[u]/\Rs=[R]/\fL R u bs/\bs.length<=1000
 post:=fun xs Hs Rs v Hs' F=>∃ u bs R,xs=[u]/\Rs=[R]/\fL R u bs/\v=.int .u64 (dZ bs)
def Nx:aG Tryz.prog [] Nw.fn where
 Λ:=fun p=>if lp p then some ⟨0,[(3,TI .u64 (.var 10)),(8,TI .i64 (.var 11))],[],12⟩else none
 args:=[.sv (.one (.sl (.var 0) (.var 1) (.var 2) (.var 3)))]
 mem:=[.ro 4 [.var 0] false]
 nv:=5
def Nv (bs:List Int) (_:Nat) (q:Env):Prop:=∃ k:Nat,k<=bs.length/\q.i 11=k/\q.i 10=dZ (bs.take k)
def QP:Nw.OK Tryz.prog:=by
 refine Spec.aV (Γ:=[]) (fun _ h=>by cases h) ?_;rintro xs Hs Rs l p ⟨u,bs,R,rfl,rfl,⟨x,y,cp,rfl,m,n⟩,hlen⟩;have s:Hs=[]:=aaz.1 l;subst s;refine⟨Nx,aL [x,y,bs.length,cp] false [Hl.none,Hl.none,Hl.none,Hl.none,R],Nv bs,fun _ q=>(bs.length-q.i 11).toNat,?_,⟨?_,?_,?_,?_⟩,(fun _ h=>nomatch h),?_⟩
 .show [Value.slice (az x y) ((bs.length:Int)).toNat ((cp:Int)).toNat]=_;rw[aar,aar]
 .intro r hr ho;simp [Nx]at hr;subst hr;cases ho
 .intro r hr ho;simp [Nx]at hr;subst hr;exact⟨R,aF,Hl.le_refl _⟩
 .simp [Nx]
 .intro r hr;simp [Nx]at hr;subst hr;trivial
 .refine aG.read [] [] [] ?_;generalize a:aL [x,y,bs.length,cp] false [Hl.none,Hl.none,Hl.none,Hl.none,R]=J;have v0:J.i 0=x:=by rw[<-a];rfl
  have v1:J.i 1=y:=by rw[<-a];rfl
  have v2:J.i 2=bs.length:=by rw[<-a];rfl
  have o:J.h 4=R:=by rw[<-a];rfl
  simp only[go_sem,Nat.reduceAdd];rw[v2];refine⟨ah,⟨0,ah,rfl,rfl⟩,fun q g ⟨k,hk,b,c⟩=>?_⟩;rw[g.i 0,g.i 1,g.i 2,g.h 4,v0,v1,v2,o,b];refine⟨fun t=>?_,fun v=>?_⟩
  .have d:k<bs.length:=ah;have f:0<=x/\∀ j z,bs[j]?=some z->R.cell x.toNat (y.toNat+j)=some (.int .u8 z):=by
    rcases n with h | h
    .subst h;simp at d
    .exact h
   have hc:R.cell x.toNat (y+k).toNat=some (.int .u8 bs[k]):=by
    rw[show(y+(k:Int)).toNat=y.toNat+k by omega];exact f.2 _ _ (aax d)
   rw[hc];refine⟨f.1,m,ah,rfl,⟨k+1,ah,?_,?_⟩,?_⟩
   .show IntKind.i64.wrap (q.i 11+1)=_;rw[b];exact wrap_i64 ah ah
   .show jK (q.i 10) (cf ((q.h 4).cell (q.i 0).toNat (q.i 1+q.i 11).toNat))=_;rw[c,g.i 0,g.i 1,g.h 4,v0,v1,o,b,hc,nP bs k d];rfl
   .show((bs.length:Int)-IntKind.i64.wrap (q.i 11+1)).toNat<_;rw[b,wrap_i64 ah ah];omega
  .have e:k=bs.length:=ah;subst e;rw[abG]at c;refine fun _=>⟨[],[],rfl,rfl,⟨(bf fun _=>q.i 10),rfl,zzT,zzT⟩,_,bs,R,rfl,rfl,⟨x,y,cp,rfl,m,n⟩,?_⟩;show Value.int .u64 (q.i 10)=_;rw[c]
def wrap_u64 (h0:0<=x) (h1:x<18446744073709551616):IntKind.u64.wrap x=x:=by
 show Int.emod x 18446744073709551616=x;exact adA h0 h1
def gk (n0:0<=n) (n1:n<72057594037927936) (a:0<=c) (c1:c<256):jK n c=n*256+c:=by
 unfold jK;rw[show n*2 ^ (min (Int.toNat 8) IntKind.u64.bits)=n*256 from rfl,wrap_u64 ah ah,wrap_u64 a ah];obtain⟨m,rfl⟩:=abY n0;obtain⟨d,rfl⟩:=abY a;show IntKind.u64.wrap (((BitVec.ofInt 64 ((m:Int)*256)) |||(BitVec.ofInt 64 (d:Int))).toNat:Int)=_;have e1:(BitVec.ofInt 64 ((m:Int)*256)).toNat=m*256:=by
  rw[show((m:Int)*256)=((m*256:Nat):Int)by omega,acv,acH];exact acC ah
 have e:(BitVec.ofInt 64 (d:Int)).toNat=d:=by
  rw[acv,acH];exact acC ah
 rw[adq,e1,e];have f:m*256 |||d=m*256+d:=by
  have:=adj (i:=8) (b:=d) ah m;rw[Nat.shiftLeft_eq]at this;exact this.symm
 rw[f,wrap_u64 ah ah];omega
def wo (x:Int):List Int:=[x/72057594037927936%256,x/281474976710656%256,x/1099511627776%256,x/4294967296%256,x/16777216%256,x/65536%256,x/256%256,x%256]
def Lh {a b d e f g h:Int} (i:0<=a/\a<256) (hb:0<=b/\b<256) (hc:0<=c/\c<256) (hd:0<=d/\d<256) (he:0<=e/\e<256) (hf:0<=f/\f<256) (j:0<=g/\g<256) (hh:0<=h/\h<256) :
 dZ [a,b,c,d,e,f,g,h]=((((((a*256+b)*256+c)*256+d)*256+e)*256+f)*256+g)*256+h:=by
 show jK (jK (jK (jK (jK (jK (jK (jK 0 a) b) c) d) e) f) g) h=_;have e1:jK 0 a=a:=by rw[gk ah ah i.1 i.2];omega
 rw[e1,gk (n:=a) (c:=b) i.1 ah hb.1 hb.2];rw[gk (n:=a*256+b) (c:=c) ah ah hc.1 hc.2];rw[gk (n:=(a*256+b)*256+c) (c:=d) ah ah hd.1 hd.2];rw[gk (n:=((a*256+b)*256+c)*256+d) (c:=e) ah ah he.1 he.2];rw[gk (n:=(((a*256+b)*256+c)*256+d)*256+e) (c:=f) ah ah hf.1 hf.2];rw[gk (n:=((((a*256+b)*256+c)*256+d)*256+e)*256+f) (c:=g) ah ah j.1 j.2];rw[gk (n:=(((((a*256+b)*256+c)*256+d)*256+e)*256+f)*256+g) (c:=h) ah ah hh.1 hh.2]
def xS (h0:0<=x) (h1:x<18446744073709551616):dZ (wo x)=x:=by
 unfold wo;rw[Lh ah ah ah ah ah ah ah ah];omega
def tG (n:Nat):List Ck:=List.replicate n (.int .u8)
def lC:List Ck:=[.int .u64,.int .u64]++tG 16
def aZ (l:List Int):List Int:=wo (l.getD 0 0)++wo (l.getD 1 0)++(l.drop 2).take 16
def WB (xs:List Value):Value:=match xs with
 | [v]=>.agg (aM (aZ (fO v))).toArray
 | _=>.bool false
def WC (xs:List Value):Prop:=match xs with
 | [v]=>(0<=(fO v).getD 0 0/\(fO v).getD 0 0<18446744073709551616)/\0<=(fO v).getD 1 0/\(fO v).getD 1 0<18446744073709551616
 | _=>False
def JX:Sx.Spec:=qD 160 [.agg lC] [.agg (tG 32)] WC WB
def WD:aG Tryz.prog [] 160 where
 Λ:=aC
 args:=(cA 0 [.agg lC]).map .sv
 mem:=[]
 nv:=18
def wrap_u8 (x:Int):IntKind.u8.wrap x=x%256:=rfl
def Sr {n:Nat} (h:q.i n=x) (h0:0<=x) (k:Nat):aB q (.wrap .u8 (.shr .u64 (.var n) (.lit k)))=x/2 ^ (min k 64)%256:=by
 rw[bP,wrap_u8,Ri,al,h];show x.fdiv (2 ^ (min ((k:Int)).toNat 64))%256=_;rw[aar,abX _ (Int.le_of_lt (Int.pow_pos ah))]
def Nt {n:Nat} (h:q.i n=x) (h0:0<=x):[Value.int .u8 (aB q (.wrap .u8 (.shr .u64 (.var n) (.lit 56)))),Value.int .u8 (aB q (.wrap .u8 (.shr .u64 (.var n) (.lit 48)))),Value.int .u8 (aB q (.wrap .u8 (.shr .u64 (.var n) (.lit 40)))),Value.int .u8 (aB q (.wrap .u8 (.shr .u64 (.var n) (.lit 32)))),Value.int .u8 (aB q (.wrap .u8 (.shr .u64 (.var n) (.lit 24)))),Value.int .u8 (aB q (.wrap .u8 (.shr .u64 (.var n) (.lit 16)))),Value.int .u8 (aB q (.wrap .u8 (.shr .u64 (.var n) (.lit 8)))),Value.int .u8 (aB q (.wrap .u8 (.shr .u64 (.var n) (.lit 0))))]=(wo x).map (Value.int .u8):=by
 have s:=fun k=>Sr h h0 k;have a:aB q (.wrap .u8 (.shr .u64 (.var n) (.lit 56)))=x/72057594037927936%256:=s 56;have b:aB q (.wrap .u8 (.shr .u64 (.var n) (.lit 48)))=x/281474976710656%256:=s 48;have c:aB q (.wrap .u8 (.shr .u64 (.var n) (.lit 40)))=x/1099511627776%256:=s 40;have d:aB q (.wrap .u8 (.shr .u64 (.var n) (.lit 32)))=x/4294967296%256:=s 32;have e:aB q (.wrap .u8 (.shr .u64 (.var n) (.lit 24)))=x/16777216%256:=s 24;have f:aB q (.wrap .u8 (.shr .u64 (.var n) (.lit 16)))=x/65536%256:=s 16;have s8:aB q (.wrap .u8 (.shr .u64 (.var n) (.lit 8)))=x/256%256:=s 8;have g:aB q (.wrap .u8 (.shr .u64 (.var n) (.lit 0)))=x/1%256:=s 0;rw[a,b,c,d,e,f,s8,g,Int.ediv_one];rfl
set_option maxRecDepth 20000 in
def N8:JX.OK Tryz.prog:=by
 refine kj (fun t h=>by cases h) WD rfl rfl rfl (fun q _ _=>?_) (fun q g hN=>⟨fun _ _=>True,fun _ _=>0,?_⟩)
 .obtain⟨J,_,_,e⟩:=cY (tG 32) 0 (aM (aZ (fO ((SV.agg (ar 0 lC)).ev q)))) q (iD 32 _ rfl);exact⟨J,by show Value.agg _=Value.agg ((ar 0 (tG 32)).map (CV.ev J)).toArray;rw[e];rfl,cN _ _ _ aA,zzT⟩
 .have hN:(0<=q.i 0/\q.i 0<18446744073709551616)/\0<=q.i 1/\q.i 1<18446744073709551616:=hN;obtain⟨⟨a0,k⟩,b0,b1⟩:=hN;refine aG.read [] [] [] ?_;simp only[Nd.holds,X.pre,X.rel,X.n];intro q1 b _ q2 c _ a d _;have G:ai 18 q a:=(b.tr c).tr d;have f:a.i 0=q.i 0:=G.i 0;have e1:a.i 1=q.i 1:=G.i 1;show Value.agg (List.map (CV.ev a) (_++_)).toArray=Value.agg (aM (wo (q.i 0)++wo (q.i 1)++(List.range 16).map fun j=>q.i (2+j))).toArray
  congr 2
  rw[aba];unfold aM;rw[aba]
  congr 1
  .rw[aba,<-Nt f a0,<-Nt e1 b0];rfl
  .have:=CV.gF (G.mono aA) _ (cU (tG 16) 2);unfold tG at this;rw[this];rfl
def wK (l:List Int):List Value:=[.int .u64 (dZ (l.take 8)),.int .u64 (dZ ((l.drop 8).take 8))]++aM ((l.drop 16).take 16)
def Re (xs:List Value):Value:=match xs with
 | [v]=>.agg (wK (fO v)).toArray
 | _=>.bool false
def xX:Sx.Spec:=qD 123 [.agg (tG 32)] [.agg lC] (fun _=>True) Re
def JZ:List Sx.Spec:=[Nw]
def Oj:∀ t∈JZ,t.OK Tryz.prog:=fun t a=>by
 rw[JZ,aaJ]at a;subst a;exact QP
def Rf:aG Tryz.prog JZ 123 where
 Λ:=aC
 args:=(cA 0 [.agg (tG 32)]).map .sv
 mem:=[]
 nv:=32
def Ol:JZ[0]?=some Nw:=rfl
def wM:Nw.res=[.one (.int .u64)]:=rfl
def Kz {a:Int} (h0:0<=a) (vs:List Int) (o n c:Nat) (T:TypeId) (hn:o+n<=vs.length):fL (Hl.one a.toNat (.cells (aM vs).toArray T (0,0))) (.slice (az a (o:Int)) n c) ((vs.drop o).take n):=by
 have hl:((vs.drop o).take n).length=n:=by rw[aaU,aa7];omega
 refine⟨a,o,c,by rw[hl],ah,Or.inr ⟨h0,fun j z b=>?_⟩⟩;rw[Hl.one_cell,abI,fT,aar];rw[abf]at b;split at b
 .rw[aa9]at b;rw[b];rfl
 .cases b
set_option maxRecDepth 20000 in
def HW:xX.OK Tryz.prog:=by
 refine kj Oj Rf rfl rfl rfl (fun q _ _=>?_) (fun q y hN=>⟨fun _ _=>True,fun _ _=>0,?_⟩)
 .obtain⟨J,_,_,e⟩:=cY lC 0 (wK (fO ((SV.agg (ar 0 (tG 32))).ev q))) q ⟨by simp [bz,kU],by simp [bz,kU],iD 16 _ rfl⟩;exact⟨J,by show Value.agg _=Value.agg ((ar 0 lC).map (CV.ev J)).toArray;rw[e];rfl,cN _ _ _ aA,zzT⟩
 .refine aG.read [] [] [] ?_;simp only[Nd.holds,X.pre,X.rel,X.n,Ol,wM,gI,kS,Cp.sv,Ck.cv,cA,Cp.len,Ck.len,iz,jD,TV.ev,SV.ev,CV.ev,aaY,abN,bL.hl,al,ak];intro q1 s t q2 l z;obtain⟨L,d⟩:∃ L,L=(List.range 32).map fun j=>q.i j:=⟨_,rfl⟩;have v:L.length=32:=by rw[d];rfl
  have m:ai 32 q q2:=s.tr l;have cells:∀ q',ai 32 q q'->List.map (CV.ev q') (ar 0 (List.replicate 32 (Ck.int .u8)))=aM L:=by
   intro q' g;have:=CV.gF (g.mono aA) _ (cU (tG 32) 0);unfold tG at this;rw[this,d];rfl
  rw[cells q2 m];have p2:0<=q2.i 32:=by rw[l.i 32];exact t
  refine⟨⟨_,L.take 8,_,rfl,rfl,Kz p2 L 0 8 32 _ ah,by rw[aaU];omega⟩,fun f o ⟨_,⟨u,bs,R,hx,h,k,hv⟩,_⟩=>?_⟩;cases hx;cases h;have e1:=k.uniq (Kz p2 L 0 8 32 _ ah);have p:ai 32 q f:=m.tr o;rw[cells f p];have p3:0<=f.i 32:=by rw[o.i 32];exact p2
  refine⟨⟨_,(L.drop 8).take 8,_,rfl,rfl,Kz p3 L 8 8 24 _ ah,by rw[aaU];omega⟩,fun b r ⟨_,⟨u,bs2,R,hx,h,c,a⟩,_⟩=>?_⟩;cases hx;cases h;have w:=c.uniq (Kz p3 L 8 8 24 _ ah);have x:ai 32 q b:=p.tr r;simp only[Value.int.injEq,abk]at hv a;have hv:b.i 34=dZ (L.take 8):=by rw[r.i 34,hv,e1];rfl
  have a:b.i 35=dZ ((L.drop 8).take 8):=by rw[a,w]
  show Value.agg (List.map (CV.ev b) (_++_)).toArray=Value.agg (wK ((List.range 32).map fun j=>q.i j)).toArray;rw[<-d]
  congr 2
  rw[aba];unfold wK
  congr 1
  .show [Value.int .u64 (b.i 34),Value.int .u64 (b.i 35)]=_;rw[hv,a]
  .have:=CV.gF (x.mono aA) _ (cU (tG 16) 16);unfold tG at this;rw[this,d];rfl
structure LM where
 frm:Int
 most:Int
 serial:Int
 size:Int
 note:List Int
 over:Bool
variable {L L':LM}
structure LM.ok (L:LM):Prop where
 frm:0<=L.frm/\L.frm<=16384
 most:0<=L.most/\L.most<=1048576
 note:L.note.length=16
def mm (dp sl:Value) (L:LM):List Value:=[dp,.int .i64 L.frm,.int .i64 L.most,.int .u64 L.serial,.int .u64 L.size]++(aM L.note++[sl,.bool L.over])
def lr (R:Hl) (a:Nat) (dp sl:Value) (L:LM):Prop:=L.ok/\R a=some (.cells (mm dp sl L).toArray 145 (0,0))
def gh (R:Hl) (p dp sl:Value) (L:LM):Prop:=∃ a:Nat,p=.pointer (some ⟨a,0,none⟩)/\lr R a dp sl L
def Ie (h1:L.note.length=16) (h2:L'.note.length=16) (h:mm dp sl L=mm dp' sl' L'):dp=dp'/\sl=sl'/\L=L':=by
 unfold mm at h;obtain⟨a,hb⟩:=acM h rfl;obtain⟨hc,hd⟩:=acM hb (by rw[cw,cw,h1,h2]);simp only[aaC,Value.int.injEq,Value.bool.injEq,abk,aaP]at a hd;obtain⟨f,e1,b,c,d⟩:=a;have e:=ly hc;obtain⟨x1,j,k,l,m,n⟩:=L;obtain⟨o,p,q,r,s,t⟩:=L';simp only at e1 b c d e hd;obtain⟨g,i⟩:=hd;subst e1 b c d e i;exact⟨f,g,rfl⟩
def gh.uniq (h:gh R p dp sl L) (h':gh R p dp' sl' L'):dp=dp'/\sl=sl'/\L=L':=by
 obtain⟨a,rfl,ho,h⟩:=h;obtain⟨c,he,b,h'⟩:=h';simp only[Value.pointer.injEq,aaF,Addr.mk.injEq,aaP]at he;subst he;rw[h]at h';simp only[aaF,Obj.cells.injEq,aaP]at h';exact Ie ho.note b.note (aa1 Array.toList h')
def lr.cell (h:lr R a dp sl L) (j:Nat):R.cell a j=(mm dp sl L)[j]?:=by
 unfold Hl.cell;rw[h.2];simp
def lr.mono (h:lr R a dp sl L) (hl:R.le R'):lr R' a dp sl L:=⟨h.1,hl _ _ h.2⟩
def gh.mono (h:gh R p dp sl L) (hl:R.le R'):gh R' p dp sl L:=by
 obtain⟨a,e,h⟩:=h;exact⟨a,e,h.mono hl⟩
def iF:List Int:=List.replicate 18 0
def wI (x:List Int):List Int:=[dZ (x.take 8),dZ ((x.drop 8).take 8)]++(x.drop 16).take 16
def oT (h:List Int):List Value:=[.int .u64 (h.getD 0 0),.int .u64 (h.getD 1 0)]++aM (h.drop 2)
def zq (b:List Int) (most place:Int):Prop:=b.take 32=b.drop 32/\(dZ ((b.take 32).take 8)).tmod 2=place/\dZ (((b.take 32).drop 8).take 8)<=most
instance (b:List Int) (most place:Int):Decidable (zq b most place):=by unfold zq;infer_instance
def aX (D:DM) (frm most place:Int):List Int×Int :=
 if(iH D (frm+place)).2≠0 then(iF,(iH D (frm+place)).2)
 else if zq (iH D (frm+place)).1 most place then(wI ((iH D (frm+place)).1.take 32),0)else(iF,0)
def nG:Sx.Spec where
 fn:=77
 own:=[.link 0 0]
 rd:=[0]
 res:=[.agg lC,.one (.int .i64)]
 pre:=fun xs Hs Rs=>∃ p place H R dp sl L D,xs=[p,.int .u64 place]/\Hs=[H]/\Rs=[R]/\gh R p dp sl L/\aD H dp D/\(place=0\/place=1)
 post:=fun xs Hs Rs v Hs' F=>∃ p place H R dp sl L D H',xs=[p,.int .u64 place]/\Hs=[H]/\Rs=[R]/\gh R p dp sl L/\aD H dp D/\Hs'=[H']/\aD H' dp D /\
  v=.tuple #[.agg (oT (aX D L.frm L.most place).1).toArray,.int .i64 (aX D L.frm L.most place).2]
def Ce:E:=.ite (.eq (.var 8) (.lit 32)) (.var 6) (.add (.var 6) (.lit 32))
def Ws (f g:Nat->E):Nat->Nat->E
 | 0,j=>.eq (f j) (g j)
 | n+1,j=>.and (.eq (f j) (g j)) (Ws f g n (j+1))
def JN {q:Env} {f g:Nat->E} : ∀ (n j:Nat),bh q (Ws f g n j)=true↔∀ i,j<=i->i<=j+n->aB q (f i)=aB q (g i)
 | 0,j=>by
  unfold Ws;rw[gM]
  exact⟨fun h i h1 h2=>by obtain rfl:i=j:=by omega
                          exact h,fun h=>h j ah ah⟩
 | n+1,j=>by
  unfold Ws;rw[jr,gM,JN n (j+1)];refine⟨fun⟨h1,h2⟩ i a b=>?_,fun h=>⟨h j ah ah,fun i a b=>h i ah ah⟩⟩;rcases abn j i with h | h
  .exact h2 i ah ah
  .obtain rfl:i=j:=ah;exact h1
def DP:E:=Ws (fun j=>.hI 6 (.var 5) (.var 6) j) (fun j=>.hI 6 (.var 5) Ce j) 31 0
def Ki:Nd:=(fun g c m j k=>(fun l h f i=>(fun d b=>(fun a=>(.ext (.alloc 4) (.and (.e (.le c g)) (.and (.e (.his 2 g c 0 .ptr)) (.and (.e (.his 2 g (.lit 1) 0 (.int .i64))) (.and (.pre b) (.ext b (.and (.imp (.not (.eq (.var 9) c)) (.post [.hp 5 [3] l [],.ro 2 [.var 0] false,.dead,.hp 6 [] [.var 5] []] (.tup [.agg h,.one (.int .i64 (.var 9))]))) (.imp (.eq (.var 9) c) (.and (.e (.le (.lit (-1)) m)) (.and (.e (.le c (.var 6))) (.and (.e (.le j (.var 8))) (.and (.e (.le c m)) (.and (.e (.hby 6 m (.var 6) j)) (.and (.e (.le j (.var 7))) (.and (.e (.le (.var 7) (.var 8))) (.and (.e (.le j (.sub (.var 7) j))) (.and (.e (.le c Ce)) (.and (.e (.hby 6 m Ce j)) (.ext (.alloc 10) (.ext (.alloc 11) (.and (.pre f) (.ext f (.ext (.alloc 30) (.and (.imp (.not DP) a) (.imp DP (.and (.imp (.not k) a) (.imp k (.and (.e (.his 2 g (.lit 2) 0 (.int .i64))) (.and (.imp i a) (.imp (.not i) (.post d (.tup [.agg (ar 12 ([Ck.int .u64,Ck.int .u64]++List.replicate 16 (Ck.int .u8))),.one (.int .i64 c)]))))))))))))))))))))))))))))))):Nd)) (.post d (.tup [.agg h,.one (.int .i64 c)]))) [.hp 5 [3] l [],.ro 2 [.var 0] false,.dead,.hp 6 [] [.var 5] [],.dead,.dead,.dead] (.call 0 5 [.sv (.one (.hptr (.hP 2 g c 0 0) (.hP 2 g c 0 1))),.sv (.one (.int .i64 (.wrap .i64 (.add (.hI 2 g (.lit 1) 0) (.wrap .i64 (.var 1))))))] [.hp 3 [] l []] [])) [.hP 2 g c 0 0] ([.int .u64 c,.int .u64 c]++List.replicate 16 (CV.int .u8 c)) (.call 1 12 [.sv (.agg (aY 6 m (.var 6) 0 (List.replicate 32 (Kd.int .u8))))] [] []) (.lt (.wrap .u64 (.hI 2 g (.lit 2) 0)) (.var 13))) (.var 0) (.lit 0) (.var 5) (.lit 32) (.eq (.rem (.var 12) (.lit 2)) (.var 1))
def Dt:List Sx.Spec:=[Cd,xX]
def LY:∀ t∈Dt,t.OK Tryz.prog:=av Gj <| av HW <| bW
def zJ:aG Tryz.prog Dt nG.fn where
 Λ:=aC
 args:=[TP (.var 0) (.lit 0),TI .u64 (.var 1)]
 mem:=[.hp 3 [] [.hP 2 (.var 0) (.lit 0) 0 0] [],.ro 2 [.var 0] false]
 nv:=4
def rr0:Cd.res=[.one .sl,.one (.int .i64)]:=rfl
def rr1:xX.res=[.agg lC]:=rfl
def rc0:(aK 0 [Cp.one .sl,Cp.one (.int .i64)]≠[])=True:=by simp [aK,Cp.roots,Ck.root]
def jz (q:Env):∀ (m n:Nat),bR n (List.replicate m (Ck.int .u8)) q
 | 0,_=>trivial
 | m+1,n=>⟨zzT,jz q m (n+1)⟩
def bZ.cap {l:Int} (h:bZ F e (.slice (az x y) l.toNat c.toNat) bs) (hl:0<=l) (hc:0<=c):l<=c:=by
 obtain⟨_,h⟩:=h;rcases h with ⟨h,_⟩ | ⟨g,cap,cur,h,_,hle,_⟩
 .simp only[Value.slice.injEq]at h;omega
 .simp only[Value.slice.injEq]at h;omega
def Gi (h:D.ok) (e:(iH D i).2=0):D.has i=true/\D.gone=false/\(iH D i).1=D.aS i/\(D.aS i).length=64:=by
 unfold iH at e ⊢;split at e
 .cases e
 .rename_i h1;have h1:D.has i=true:=by simpa using h1
  rw[aaG (by simp [h1])];split at e
  .cases e
  .rename_i h2;rw[aaG h2];exact⟨h1,by simpa using h2,rfl,gO h h1⟩
def HY {x:List Int} (h:x.length=32):xX.pre [.agg (aM x).toArray] [] []:=by
 obtain⟨c,_,_,a⟩:=cY (tG 32) 0 (aM x) (bf fun _=>0) (iD 32 _ h);refine⟨⟨c,⟨jz c 32 0,zzT⟩,?_⟩,zzT⟩;show [Value.agg (aM x).toArray]=[Value.agg ((ar 0 (tG 32)).map (CV.ev c)).toArray];rw[a]
def LX:nG.OK Tryz.prog:=by
 refine Spec.aV (Γ:=Dt) LY ?_;rintro xs Hs Rs af ag ⟨p,place,H,R,dp,sl,L,D,rfl,rfl,rfl,⟨a,rfl,C⟩,hD,aj⟩;obtain⟨da,s,m,es,clock,rfl,G⟩:=hD;refine⟨zJ,aL [a,place] false [Hl.none,Hl.none,R,H],fun _ _=>True,fun _ _=>0,?_,⟨?_,?_,?_,?_⟩,(fun _ h=>nomatch h),?_⟩
 .show [Value.pointer (az (a:Int) 0),Value.int .u64 place]=_;rw[ju]
 .intro r hr ho;simp [zJ]at hr;rcases hr with rfl | rfl
  .exact⟨H,aF,Hl.le_refl _⟩
  .cases ho
 .intro r hr ho;simp [zJ]at hr;rcases hr with rfl | rfl
  .cases ho
  .exact⟨R,aF,Hl.le_refl _⟩
 .simp [zJ,bL.own]
 .intro r hr;simp [zJ]at hr;rcases hr with rfl | rfl<;>trivial
 .refine aG.lit (x:=Ki) ?_;generalize f:aL [(a:Int),place] false [Hl.none,Hl.none,R,H]=J;have v0:J.i 0=a:=by rw[<-f];rfl
  have v1:J.i 1=place:=by rw[<-f];rfl
  have w2:J.h 2=R:=by rw[<-f];rfl
  have w3:J.h 3=H:=by rw[<-f];rfl
  unfold Ki;simp only[go_sem,Nat.reduceAdd,Dt,rr0,rr1,rc0];intro q0 g0 _;have v:aD H (.pointer (some ⟨da,0,none⟩)) D:=⟨da,s,m,es,clock,rfl,G⟩;have t0:Int.toNat 0=0:=rfl;have t1:Int.toNat 1=1:=rfl;have t2:Int.toNat 2=2:=rfl;have t32:Int.toNat 32=32:=rfl;have c0:R.cell a 0=some (.pointer (some ⟨da,0,none⟩)):=by rw[C.cell];rfl
  have c1:R.cell a 1=some (.int .i64 L.frm):=by rw[C.cell];rfl
  have c2:R.cell a 2=some (.int .i64 L.most):=by rw[C.cell];rfl
  obtain⟨f0,f1⟩:=C.1.frm;obtain⟨m0,m1⟩:=C.1.most;have ep:Value.pointer (az (bw (R.cell a 0) 0) (bw (R.cell a 0) 1))=.pointer (some ⟨da,0,none⟩):=by rw[c0];exact ju da
  have ei:IntKind.i64.wrap (cf (R.cell a 1)+IntKind.i64.wrap place)=L.frm+place:=by
   rw[c1];show IntKind.i64.wrap (L.frm+IntKind.i64.wrap place)=_;rw[wrap_i64 (n:=place) ah ah];exact wrap_i64 ah ah
  rw[g0.i 0,v0,g0.h 2,w2,g0.i 1,v1,g0.h 3,w3,aar,t0,t1,ep,ei];refine⟨ah,by rw[c0];rfl,by rw[c1];rfl,⟨_,L.frm+place,H,D,rfl,rfl,v⟩,fun q1 U ⟨F,⟨p',i',H',D',H2,u,hx,hH,V,I,W,hv,X⟩,Y,hn⟩=>?_⟩;cases hx;cases hH;have e:=V.uniq v;subst e;obtain⟨⟨n5,n6,n7,n8⟩,_⟩:=hn;have n6:0<=q1.i 6:=n6;have n7:0<=q1.i 7:=n7;have n8:0<=q1.i 8:=n8;simp only[Value.tuple.injEq,abh,aaC,Value.int.injEq,abk,aaP]at hv I;obtain⟨rfl,O⟩:=hv;have Y:=Y trivial;subst Y;have out:∀ (q:Env) (t:Mem) (r:TV) (h:List Int) (e:Int) (w:Env),ai 10 q1 q->aX D' L.frm L.most place=(h,e)->r.ev q=(kS 0 nG.res).ev w->r.ev q=.tuple #[.agg (oT h).toArray,.int .i64 e] ->
   postOf nG [.pointer (some ⟨a,0,none⟩),.int .u64 place] [H] [R] q (.hp 5 [3] [.hP 2 (.var 0) (.lit 0) 0 0] []::t) r:=by
   intro q t r h e w Z hr h1 h2 _;refine⟨[[0]],[],rfl,rfl,⟨w,h1,cN _ _ _ aA,zzT,zzT⟩,_,place,H,R,_,sl,L,D',_,rfl,rfl,rfl,⟨a,rfl,C⟩,v,rfl,?_,?_⟩
   .show aD (di [q.h 5]) _ _;rw[aN,Z.h 5,I];exact W
   .rw[h2,hr]
  have zero:∀ (q:Env) (t:Mem) (x:E) (e:Int),ai 10 q1 q->aX D' L.frm L.most place=(iF,e)->aB q x=e ->
   postOf nG [.pointer (some ⟨a,0,none⟩),.int .u64 place] [H] [R] q (.hp 5 [3] [.hP 2 (.var 0) (.lit 0) 0 0] []::t) (.tup [.agg ([.int .u64 (.lit 0),.int .u64 (.lit 0)]++List.replicate 16 (CV.int .u8 (.lit 0))),.one (.int .i64 x)]):=by
   intro q t x e Z hr hx;refine out q t _ iF e (bf fun k=>if k=18 then e else 0) Z hr ?_ ?_
   .subst hx;rfl
   .subst hx;rfl
  refine⟨fun h=>zero q1 _ _ _ (ai.refl _ _) ?_ (by rw[al]),fun h=>?_⟩
  .unfold aX;rw[<-O,aaR h]
  .rw[h]at O;obtain⟨hh,hg,hs,hl⟩:=Gi G.ok O.symm;obtain⟨b,hb⟩:∃ b,b=(iH D' (L.frm+place)).1:=⟨_,rfl⟩;rw[<-hb]at X hs;have y:b.length=64:=by rw[hs];exact hl
   have aa:=X.rd.at n5 n6 n7;obtain⟨e7,hc⟩:=aa;rw[y]at e7;have hc:0<=q1.i 5/\∀ j z,b[j]?=some z->(q1.h 6).cell (q1.i 5).toNat ((q1.i 6).toNat+j)=some (.int .u8 z):=by
    rcases hc with ⟨_,hc⟩ | hc
    .rw[hc]at y;cases y
    .exact hc
   obtain⟨p5,hc⟩:=hc;have ae:=bZ.cap X n7 n8;have eY:∀ q,ai 10 q1 q->aB q Ce=q1.i 6+32:=by
    intro q g;unfold Ce;rw[cO,aaG (by rw[gM,al,ak,g.i 8];omega),bQ,al,ak,g.i 6]
   rw[eY q1 (ai.refl _ _),t32];refine⟨n5,n6,ah,p5,df hc ah,ah,ah,ah,ah,?_,fun q2 P _ q3 Q _=>?_⟩
   .refine df (bs:=b.drop 32) (fun j z A=>?_) (by rw[aa7];omega);rw[aa9]at A;have:=hc _ _ A;rw[show(q1.i 6+32).toNat+j=(q1.i 6).toNat+(32+j)by omega];exact this
   have S:ai 10 q1 q3:=P.tr Q;have K:(b.take 32).length=32:=by rw[aaU];omega
   have M:(aY 6 (E.var 5) (E.var 6) 0 (List.replicate 32 (Kd.int IntKind.u8))).map (CV.ev q3)=aM (b.take 32):=by
    refine im 32 0 _ K fun i z A=>?_;rw[abf]at A;split at A
    .rw[al,al,S.h 6,S.i 5,S.i 6,aa6];exact hc _ _ A
    .cases A
   rw[M];refine⟨HY K,fun N T ⟨F4,c,_,_⟩ d B _=>?_⟩;have c:Value.agg (List.map (CV.ev N) (ar 12 lC)).toArray=Value.agg (wK (fO (.agg (aM (b.take 32)).toArray))).toArray:=c;rw[sS]at c;have c:List.map (CV.ev N) (ar 12 lC)=wK (b.take 32):=by simpa using c
   have i12:N.i 12=dZ ((b.take 32).take 8):=by
    have:=aa1 (fun l=>l[0]?) c;simpa [lC,ar,Ck.cv,CV.ev,wK,al] using this
   have i13:N.i 13=dZ (((b.take 32).drop 8).take 8):=by
    have:=aa1 (fun l=>l[1]?) c;simpa [lC,ar,Ck.cv,CV.ev,wK,al,Ck.len] using this
   have o:ai 10 q1 d:=(S.tr T).tr B;have ab:d.i 12=dZ ((b.take 32).take 8):=by rw[B.i 12,i12]
   have ad:d.i 13=dZ (((b.take 32).drop 8).take 8):=by rw[B.i 13,i13]
   have heq:bh d DP=true↔b.take 32=b.drop 32:=by
    unfold DP;rw[JN];have ex:∀ i:Nat,i<=31->aB d (.hI 6 (.var 5) (.var 6) i)=b.getD i 0/\aB d (.hI 6 (.var 5) Ce i)=b.getD (32+i) 0:=by
     intro i hi;rw[fh,fh,al,al,eY d o,o.i 5,o.i 6,o.h 6];rw[hc i _ (aax ah),show(q1.i 6+32).toNat+i=(q1.i 6).toNat+(32+i)by omega,hc (32+i) _ (aax ah)];simp only[aaD];rw[aax ah,aax ah];exact⟨rfl,rfl⟩
    constructor
    .intro h;apply aa2;intro j;rcases abn j 32 with hj | hj
     .have:=h j ah ah;rw[(ex j ah).1,(ex j ah).2]at this;rw[abx hj,aa9,aax ah,aax ah];simp only[aaD]at this;rw[aax ah,aax ah]at this;exact aa1 some this
     .rw[aaK (by rw[aaU];omega),aaK (by rw[aa7];omega)]
    .intro h i _ hi;rw[(ex i ah).1,(ex i ah).2];have this:(b.take 32)[i]?=(b.drop 32)[i]?:=aa1 (fun l=>l[i]?) h;rw[abx ah,aa9]at this;rw[aaD,aaD,this]
   rw[heq,ue,al,ak,ab,ad,B.i 1,T.i 1,Q.i 1,P.i 1,U.i 1,g0.i 1,v1];rw[B.i 0,T.i 0,Q.i 0,P.i 0,U.i 0,g0.i 0,v0];rw[B.h 2,T.h 2,Q.h 2,P.h 2,U.h 2,g0.h 2,w2,aar,t2,c2];have hw:IntKind.u64.wrap (cf (some (.int .i64 L.most)))=L.most:=by show IntKind.u64.wrap L.most=_;exact wrap_u64 m0 ah
   rw[hw];have hl:aX D' L.frm L.most place=if zq b L.most place then(wI (b.take 32),0)else(iF,0):=by
    unfold aX;rw[aaG (by rw[<-O];simp),<-hb]
   refine⟨fun h1=>zero d _ _ _ o (by rw[hl,aaG fun h=>h1 h.1]) (ak _ _),fun h1=>⟨fun h2=>zero d _ _ _ o (by rw[hl,aaG fun h=>h2 h.2.1]) (ak _ _),fun h2=>⟨rfl,fun(h3:L.most<dZ (((b.take 32).drop 8).take 8))=>zero d _ _ _ o (by rw[hl,aaG fun h=>Int.not_le.2 h3 h.2.2]) (ak _ _),fun(h3:¬L.most<dZ (((b.take 32).drop 8).take 8))=>?_⟩⟩⟩;refine out d _ _ (wI (b.take 32)) 0 (bf fun k=>if k=18 then 0 else d.i (12+k)) o (by rw[hl,aaR ⟨h1,h2,Int.not_lt.1 h3⟩]) ?_ ?_
   .rfl
   .show Value.tuple #[Value.agg (List.map (CV.ev d) (ar 12 lC)).toArray,_]=_;have e5:List.map (CV.ev d) (ar 12 lC)=List.map (CV.ev N) (ar 12 lC):=CV.gF (B.mono aA) _ (cU lC 12);rw[e5,c];rfl
def bZ.rep (h:bZ F e v bs):∃ (x:Int) (c:Nat),-1<=x/\v=.slice (az x 0) bs.length c/\bs.length<=c/\((x= -1/\bs=[])\/(0<=x/\∀ j z,bs[j]?=some z->F.cell x.toNat j=some (.int .u8 z))):=by
 obtain⟨hl,h⟩:=h;rcases h with ⟨rfl,hn⟩ | ⟨g,cap,cur,rfl,b,hle,hm,hs,d⟩
 .exact⟨-1,0,ah,by rw[fx,hn],ah,Or.inl ⟨rfl,aaz.1 hn⟩⟩
 .refine⟨g,cap,ah,by rw[au ah];simp,hle,Or.inr ⟨ah,fun j z a=>?_⟩⟩;have f:=(aaH.1 a).1;simp only[aar,Hl.cell,b];have e1:(cur.toList.take (bs.length*1))[j]?=some (.int .u8 z):=by rw[d,fT,a];rfl
  rw[abx ah,acK]at e1;exact e1
def jL (all:List Int) (i:Nat):List Int:=(List.range 64).map fun j=>(all[64*i+j]?).getD 0
def bY (frm:Int) (all:List Int):Nat->Nat->DM->Int×DM
 | 0,_,D=>bT D
 | f+1,i,D=>if 64*i<all.length then(if(cj D (frm+2+i) (jL all i)).1≠0 then cj D (frm+2+i) (jL all i)else bY frm all f (i+1) (cj D (frm+2+i) (jL all i)).2)else bT D
def gr (D:DM) (frm:Int) (all:List Int) (from_:Int):Int×DM:=bY frm all (all.length+1) (from_/64).toNat D
def E2:Sx.Spec where
 fn:=131
 own:=[.link 0 0]
 rd:=[0,1]
 res:=[.one (.int .i64)]
 pre:=fun xs Hs Rs=>∃ p u all fr H R1 R2 dp sl L D,xs=[p,u,.int .i64 fr]/\Hs=[H]/\Rs=[R1,R2]/\gh R1 p dp sl L/\bZ R2 5 u all/\aD H dp D/\0<=fr/\fr<=1073741824/\all.length<=1073741824
 post:=fun xs Hs Rs v Hs' F=>∃ p u all fr H R1 R2 dp sl L D H',xs=[p,u,.int .i64 fr]/\Hs=[H]/\Rs=[R1,R2]/\gh R1 p dp sl L/\bZ R2 5 u all/\aD H dp D/\Hs'=[H']/\aD H' dp (gr D L.frm all fr).2/\v=.int .i64 (gr D L.frm all fr).1
def qZ:E:=.wrap .i64 (.mul (.var 20) (.lit 64))
def By:E:=.ite (.lt (.sub (.var 3) qZ) (.lit 64)) (.sub (.var 3) qZ) (.lit 64)
def Bz:E:=.ite (.eq (.var 4) qZ) (.var 2) (.add (.var 2) qZ)
def HN:List CV:=(List.range 64).map fun(j:Nat)=>.int .u8 (.ite (.lt (.lit (j:Int)) By) (.hI 7 (.var 1) Bz j) (.lit 0))
def NX:Nd:=(fun f c g i=>(fun j h b k=>(fun a d=>(.and (.inv 0 [⟨20,0,.int .i64 (.wrap .i64 (.quo (.var 5) g))⟩] [(21,some 6)]) (.havoc 0 0 9 (.and (.e (.le c i)) (.and (.imp (.lt b i) (.and (.pre k) (.ext k (.and (.e (.le (.lit (-1)) (.var 1))) (.and (.e (.le c (.var 2))) (.and (.e (.le c b)) (.and (.e (.le b i)) (.and (.e (.le i (.var 4))) (.and (.e (.and (.or (.and (.eq (.var 1) (.lit (-1))) (.eq (.sub i b) c)) (.and (.le c (.var 1)) (.and (.le c Bz) (.hby 7 (.var 1) Bz By)))) (.and (.le c (.sub i b)) (.le By g)))) (.and (.e (.le c f)) (.and (.e (.his 8 f c 0 .ptr)) (.and (.e (.his 8 f (.lit 1) 0 (.int .i64))) (.and (.pre a) (.ext a (.and (.imp (.not (.eq (.var 23) c)) (.post [.hp 23 [21] j [],.ro 7 [.var 1] false,.ro 8 [.var 0] false,.dead] (.sv (.one (.int .i64 (.var 23)))))) (.imp (.eq (.var 23) c) (.back 0 0 [⟨20,0,.int .i64 (.wrap .i64 (.add (.var 20) (.lit 1)))⟩] [(21,some 23)]))))))))))))))))) (.imp (.not (.lt b i)) (.and (.e (.le c f)) (.and (.e (.his 8 f c 0 .ptr)) (.and (.pre d) (.ext d (.post [.hp 22 [21] j [],.ro 7 [.var 1] false,.ro 8 [.var 0] false] (.sv (.one (.int .i64 (.var 22))))))))))))):Nd)) (.call 0 23 [.sv h,.sv (.one (.int .i64 (.wrap .i64 (.add (.wrap .i64 (.add (.hI 8 f (.lit 1) 0) (.lit 2))) (.var 20))))),.sv (.one (.sl (.var 22) c g g))] [.hp 21 [] j []] [.bj 22 HN 5]) (.call 1 22 [.sv h] [.hp 21 [] j []] [])) [.hP 8 f c 0 0] (.one (.hptr (.hP 8 f c 0 0) (.hP 8 f c 0 1))) (.wrap .i64 (.mul (.var 20) g)) (.mk 22 5 [.int .u8 c] 1 g)) (.var 0) (.lit 0) (.lit 64) (.var 3)
def E4:List Sx.Spec:=[En,xt]
def NZ:∀ t∈E4,t.OK Tryz.prog:=av CJ <| av GL <| bW
def E3:aG Tryz.prog E4 E2.fn where
 Λ:=fun p=>if lp p then some ⟨0,[(7,TI .i64 (.var 20))],[(0,.hp 21 [] [.hP 8 (.var 0) (.lit 0) 0 0] [])],22⟩else none
 args:=[TP (.var 0) (.lit 0),.sv (.one (.sl (.var 1) (.var 2) (.var 3) (.var 4))),TI .i64 (.var 5)]
 mem:=[.hp 6 [] [.hP 8 (.var 0) (.lit 0) 0 0] [],.ro 7 [.var 1] false,.ro 8 [.var 0] false]
 nv:=9
def Y5:E4[1]?=some xt:=rfl
def Wz:En.res=[.one (.int .i64)]:=rfl
def fr1:xt.res=[.one (.int .i64)]:=rfl
def Q6 (D:DM) (frm:Int) (all:List Int) (dp:Value) (fr:Int) (_:Nat) (q:Env):Prop:=∃ (f i:Nat) (a:DM),q.i 20=i/\aD (q.h 21) dp a/\bY frm all f i a=gr D frm all fr/\all.length+1<=f+i/\i<=all.length+16777217
def NY:E2.OK Tryz.prog:=by
 refine Spec.aV (Γ:=E4) NZ ?_;rintro xs Hs Rs aa ab ⟨p,u,all,fr,H,R1,R2,dp,sl,L,D,rfl,rfl,rfl,⟨a,rfl,O⟩,X,Q,R,ad,hall⟩;obtain⟨x,c,hx,rfl,hc,b⟩:=bZ.rep X;refine⟨E3,aL [a,x,0,all.length,c,fr] false [Hl.none,Hl.none,Hl.none,Hl.none,Hl.none,Hl.none,H,R2,R1],Q6 D L.frm all dp fr,fun _ q=>(all.length-q.i 20).toNat,?_,⟨?_,?_,?_,?_⟩,(fun _ h=>nomatch h),?_⟩
 .show [Value.pointer (az (a:Int) 0),Value.slice (az x 0) ((all.length:Int)).toNat ((c:Int)).toNat,Value.int .i64 fr]=_;rw[ju,aar,aar]
 .intro r hr ho;simp [E3]at hr;rcases hr with rfl | rfl | rfl
  .exact⟨H,aF,Hl.le_refl _⟩
  .cases ho
  .cases ho
 .intro r hr ho;simp [E3]at hr;rcases hr with rfl | rfl | rfl
  .cases ho
  .exact⟨R2,aF,Hl.le_refl _⟩
  .exact⟨R1,aF,Hl.le_refl _⟩
 .simp [E3,bL.own]
 .intro r hr;simp [E3]at hr;rcases hr with rfl | rfl | rfl<;>trivial
 .refine aG.lit (x:=NX) ?_;generalize d:aL [(a:Int),x,0,all.length,c,fr] false [Hl.none,Hl.none,Hl.none,Hl.none,Hl.none,Hl.none,H,R2,R1]=J;have v0:J.i 0=a:=by rw[<-d];rfl
  have v1:J.i 1=x:=by rw[<-d];rfl
  have v2:J.i 2=0:=by rw[<-d];rfl
  have v3:J.i 3=all.length:=by rw[<-d];rfl
  have v4:J.i 4=c:=by rw[<-d];rfl
  have v5:J.i 5=fr:=by rw[<-d];rfl
  have w6:J.h 6=H:=by rw[<-d];rfl
  have w7:J.h 7=R2:=by rw[<-d];rfl
  have Y:J.h 8=R1:=by rw[<-d];rfl
  unfold NX;simp only[go_sem,Nat.reduceAdd,E4,Y5,Wz,fr1];have t0:Int.toNat 0=0:=rfl;have t1:Int.toNat 1=1:=rfl;have t64:Int.toNat 64=64:=rfl;obtain⟨da,s,m,es,clock,G,ae⟩:=id Q;have Z:R1.cell a 0=some dp:=by rw[O.cell];rfl
  have c1:R1.cell a 1=some (.int .i64 L.frm):=by rw[O.cell];rfl
  obtain⟨f0,f1⟩:=O.1.frm;have ep:Value.pointer (az (bw (R1.cell a 0) 0) (bw (R1.cell a 0) 1))=dp:=by rw[Z,G];exact ju da
  have wk:bz (R1.cell a 0) Kd.ptr=true:=by rw[Z,G];rfl
  refine⟨⟨all.length+1,(fr/64).toNat,D,?_,?_,rfl,ah,ah⟩,fun q g ⟨f,i,D1,I,v,B,af,hi⟩=>?_⟩
  .show IntKind.i64.wrap ((J.i 5).tdiv 64)=_;rw[v5,acb R,wrap_i64 ah ah];omega
  .show aD (J.h 6) dp D;rw[w6];exact Q
  .have u0:q.i 0=a:=by rw[g.i 0,v0]
   have u3:q.i 3=all.length:=by rw[g.i 3,v3]
   have y8:q.h 8=R1:=by rw[g.h 8,Y]
   have S:IntKind.i64.wrap ((i:Int)*64)=64*i:=by rw[wrap_i64 ah ah];omega
   have out:∀ (q':Env) (n:Nat) (vs:List Nat) (t:Mem) (r:Int×DM),ai 9 J q'->gr D L.frm all fr=r->aD (q'.h n) dp r.2->q'.i n=r.1 ->
    postOf E2 [.pointer (some ⟨a,0,none⟩),.slice (az x 0) all.length c,.int .i64 fr] [H] [R1,R2] q' (.hp n vs [.hP 8 (.var 0) (.lit 0) 0 0] []::t) (.sv (.one (.int .i64 (.var n)))):=by
    intro q' n vs t r hq hr h1 h2 _;refine⟨[[0]],[],rfl,rfl,⟨(bf fun _=>q'.i n),rfl,zzT,zzT⟩,_,_,all,fr,H,R1,R2,dp,sl,L,D,_,rfl,rfl,rfl,⟨a,rfl,O⟩,X,Q,rfl,?_,?_⟩
    .show aD (di [q'.h n]) _ _;rw[aN,hr];exact h1
    .show Value.int .i64 (q'.i n)=_;rw[h2,hr]
   rw[u0,u3,I,S,y8,aar,t0,ep];refine⟨ah,fun K=>⟨⟨ah,ah,ah⟩,fun q1 E ⟨T,_⟩=>?_⟩,fun ag=>⟨ah,wk,⟨_,_,D1,rfl,rfl,v⟩,fun q1 E ⟨F,⟨p',H',D',H2,hx,U,w,o,l,hv⟩,_,_⟩=>?_⟩⟩
   .have y:ai 9 J q1:=g.tr E;have x1:q1.i 1=x:=by rw[y.i 1,v1]
    have x2:q1.i 2=0:=by rw[y.i 2,v2]
    have x3:q1.i 3=all.length:=by rw[y.i 3,v3]
    have x4:q1.i 4=c:=by rw[y.i 4,v4]
    have C:q1.i 20=i:=by rw[E.i 20,I]
    have z7:q1.h 7=R2:=by rw[y.h 7,w7]
    have b:0<=x/\∀ (j:Nat) (z:Int),all[j]?=some z->R2.cell x.toNat j=some (.int .u8 z):=by
     rcases b with ⟨_,h⟩ | h
     .rw[h]at K;simp only[abt]at K;omega
     .exact h
    obtain⟨V,b⟩:=b;have eW:aB q1 qZ=64*i:=by
     unfold qZ;rw[bP,cG,al,ak,C,S]
    have eM:aB q1 By=min (all.length-64*i:Int) 64:=by
     unfold By;rw[cO,nz,dm,al,ak,eW,x3];simp only[aaB];split<;>omega
    have eY:aB q1 Bz=64*i:=by
     unfold Bz;rw[cO,sJ,bQ,al,al,eW,x2,x4];simp only[aaB];split<;>omega
    have eC:(HN.map (CV.ev q1))=aM (jL all i):=by
     unfold HN jL aM;rw[abD,abD];refine abr fun j hj=>?_;have hj:=abd.1 hj;show Value.int .u8 (aB q1 (.ite (.lt (.lit (j:Int)) By) (.hI 7 (.var 1) Bz j) (.lit 0)))=Value.int .u8 _;rw[cO,nz,fh,ak,ak,eM,eY,al,x1,z7];simp only[aaB];rcases abn (64*i+j) all.length with h | h
     .rw[aaR ah,aax h,show(64*(i:Int)).toNat+j=64*i+j by omega,b _ _ (aax h)];rfl
     .rw[aaG ah,aaK h];rfl
    have ei:IntKind.i64.wrap (IntKind.i64.wrap (cf (R1.cell a 1)+2)+i)=L.frm+2+i:=by
     rw[c1];show IntKind.i64.wrap (IntKind.i64.wrap (L.frm+2)+i)=_;rw[wrap_i64 (n:=L.frm+2) ah ah,wrap_i64 ah ah]
    have W:bz (R1.cell a 1) (Kd.int .i64)=true:=by rw[c1];rfl
    have M:oI (Hl.one (q1.i 22).toNat (.cells (aM (jL all i)).toArray 5 (0,0))) (.slice (az (q1.i 22) 0) 64 64) (jL all i):=by
     refine⟨q1.i 22,0,64,by simp [jL],ah,Or.inr ⟨T,fun j z P=>?_⟩⟩;rw[Hl.one_cell,abI,fT,acT,aa6,P];rfl
    rw[x1,x2,x3,x4,C,S,eY,eM,eC,z7,y.i 0,v0,y.h 8,Y,aar,t1,t64,ep,ei];refine⟨hx,ah,ah,ah,ah,⟨Or.inr ⟨V,ah,?_⟩,ah,ah⟩,ah,wk,W,⟨dp,L.frm+2+i,_,jL all i,q1.h 21,_,D1,rfl,rfl,rfl,?_,M⟩,fun q2 g2 ⟨F,⟨p',i',u',bs',H',R',D',H2,hx,U,hR,w,N,o,l,hv⟩,_,_⟩=>?_⟩
    .refine df (bs:=all.drop (64*i)) (fun j z P=>?_) (by rw[aa7];omega);rw[aa9]at P;rw[show(64*(i:Int)).toNat+j=64*i+j by omega];exact b _ _ P
    .rw[E.h 21];exact v
    .cases hx;cases U;cases hR;rw[E.h 21]at w;have e:=w.uniq v;subst e;have e:=N.uniq M;subst e;simp only[Value.int.injEq,abk,aaC,aaP]at hv o;rw[<-o]at l;have G2:ai 9 J q2:=y.tr g2;have step:bY L.frm all f i D'=if(cj D' (L.frm+2+i) (jL all i)).1≠0 then cj D' (L.frm+2+i) (jL all i)else bY L.frm all (f-1) (i+1) (cj D' (L.frm+2+i) (jL all i)).2:=by
      obtain⟨k,rfl⟩:∃ k,f=k+1:=⟨f-1,ah⟩;show(if 64*i<all.length then _ else _)=_;rw[aaR ah];rfl
     refine⟨fun h=>out q2 23 _ _ (cj D' (L.frm+2+i) (jL all i)) G2 ?_ l hv,fun h=>?_⟩
     .rw[<-B,step,aaR (by rw[<-hv];exact h)]
     .have A:(assign q2 [⟨20,0,.int .i64 (.wrap .i64 (.add (.var 20) (.lit 1)))⟩] [(21,some 23)]).i 20=i+1:=by
       show IntKind.i64.wrap (q2.i 20+1)=_;rw[g2.i 20,C,wrap_i64 ah ah]
      refine⟨⟨f-1,i+1,(cj D' (L.frm+2+i) (jL all i)).2,by rw[A];omega,l,?_,ah,ah⟩,by rw[A];omega⟩;rw[<-B,step,aaG (by rw[<-hv,h];simp)]
   .cases hx;cases U;have e:=w.uniq v;subst e;simp only[Value.int.injEq,abk,aaC,aaP]at hv o;rw[<-o]at l;refine out q1 22 _ _ (bT D') (g.tr E) ?_ l hv;rw[<-B];cases f with
    | zero=>rfl
    | succ k =>
     show(if 64*i<all.length then _ else _)=_;rw[aaG ah]
def db (D:DM) (frm:Int) (h:List Int):Int×DM :=
 if(cj D (frm+(h.getD 0 0).tmod 2) (aZ h++aZ h)).1≠0 then cj D (frm+(h.getD 0 0).tmod 2) (aZ h++aZ h)else bT (cj D (frm+(h.getD 0 0).tmod 2) (aZ h++aZ h)).2
def qf (h:List Int):Prop:=h.length=18/\(0<=h.getD 0 0/\h.getD 0 0<18446744073709551616)/\0<=h.getD 1 0/\h.getD 1 0<18446744073709551616
def qT:Sx.Spec where
 fn:=132
 own:=[.link 0 0]
 rd:=[0]
 res:=[.one (.int .i64)]
 pre:=fun xs Hs Rs=>∃ p h H R dp sl L D,xs=[p,.agg (oT h).toArray]/\Hs=[H]/\Rs=[R]/\gh R p dp sl L/\aD H dp D/\qf h
 post:=fun xs Hs Rs v Hs' F=>∃ p h H R dp sl L D H',xs=[p,.agg (oT h).toArray]/\Hs=[H]/\Rs=[R]/\gh R p dp sl L/\aD H dp D/\qf h/\Hs'=[H']/\aD H' dp (db D L.frm h).2/\v=.int .i64 (db D L.frm h).1
def Ih (hl:h.length=18):∃ a b t,h=a::b::t/\t.length=16:=by
 match h,hl with
 | a::b::t,hl=>exact⟨a,b,t,rfl,by simpa using hl⟩
def oV (hl:h.length=18):fO (.agg (oT h).toArray)=h:=by
 obtain⟨a,b,t,rfl,d⟩:=Ih hl;show([Value.int .u64 a,Value.int .u64 b]++t.map (Value.int .u8)).map (fun c=>cf (some c))=_;rw[aba,abD];show [a,b]++t.map id=_;rw[List.map_id];rfl
def Rc {k:List Int} (h1:h.length=18) (h2:k.length=18) (e:Value.agg (oT h).toArray=Value.agg (oT k).toArray):h=k:=by
 rw[<-oV h1,<-oV h2,e]
def MB (hl:h.length=18):bo (oT h) (lC.map kU):=by
 obtain⟨a,b,t,rfl,c⟩:=Ih hl;exact⟨by simp [bz,kU],by simp [bz,kU],iD 16 _ c⟩
def Iw (q:Env) (n:Nat):bR n lC q:=⟨zzT,zzT,jz q 16 (n+2)⟩
def N9 (hh:qf h):JX.pre [.agg (oT h).toArray] [] []:=by
 obtain⟨c,_,_,a⟩:=cY lC 0 (oT h) (bf fun _=>0) (MB hh.1);refine⟨⟨c,⟨Iw c 0,zzT⟩,?_⟩,?_⟩
 .show [Value.agg (oT h).toArray]=[Value.agg ((ar 0 lC).map (CV.ev c)).toArray];rw[a]
 .show(0<=(fO (.agg (oT h).toArray)).getD 0 0/\(fO (.agg (oT h).toArray)).getD 0 0<_)/\0<=(fO (.agg (oT h).toArray)).getD 1 0/\(fO (.agg (oT h).toArray)).getD 1 0<_;rw[oV hh.1];exact hh.2
def Dj (hl:h.length=18):(aZ h).length=32:=by
 unfold aZ wo;simp [hl]
def KZ:List Sx.Spec:=[En,xt,JX]
def Qq:∀ t∈KZ,t.OK Tryz.prog:=av CJ <| av GL <| av N8 <| bW
def AW:aG Tryz.prog KZ qT.fn where
 Λ:=aC
 args:=[TP (.var 0) (.lit 0),.sv (.agg (ar 1 lC))]
 mem:=[.hp 19 [] [.hP 20 (.var 0) (.lit 0) 0 0] [],.ro 20 [.var 0] false]
 nv:=21
def tr2:JX.res=[.agg (tG 32)]:=rfl
def AV:qT.OK Tryz.prog:=by
 refine Spec.aV (Γ:=KZ) Qq ?_;rintro xs Hs Rs aa ab ⟨p,h,H,R,dp,sl,L,D,rfl,rfl,rfl,⟨a,rfl,z⟩,A,hh⟩;obtain⟨b0,b1,t,f,j⟩:=Ih hh.1;have Ol:h.getD 0 0=b0:=by rw[f];rfl
 refine⟨AW,⟨fun k=>if k=0 then(a:Int)else h.getD (k-1) 0,fun _=>false,fun _=>.empty,fun _=>.tuple #[],fun k=>if k=19 then H else R⟩,fun _ _=>True,fun _ _=>0,?_,⟨?_,?_,?_,?_⟩,(fun _ h=>nomatch h),?_⟩
 .generalize Z:(⟨fun k=>if k=0 then(a:Int)else h.getD (k-1) 0,fun _=>false,fun _=>.empty,fun _=>.tuple #[],fun k=>if k=19 then H else R⟩:Env)=q;show [Value.pointer (az (q.i 0) 0),Value.agg ((ar 1 lC).map (CV.ev q)).toArray]=_;have e0:q.i 0=a:=by rw[<-Z];rfl
  have e1:(ar 1 lC).map (CV.ev q)=oT h:=by
   rw[<-Z,f]
   match t,j with
   | [a1,a2,a3,a4,a5,a6,a7,a8,a9,E,G,I,K,M,N,O],_=>rfl
  rw[e0,ju,e1]
 .intro r hr ho;simp [AW]at hr;rcases hr with rfl | rfl
  .exact⟨H,aF,Hl.le_refl _⟩
  .cases ho
 .intro r hr ho;simp [AW]at hr;rcases hr with rfl | rfl
  .cases ho
  .exact⟨R,aF,Hl.le_refl _⟩
 .simp [AW,bL.own]
 .intro r hr;simp [AW]at hr;rcases hr with rfl | rfl<;>trivial
 .refine aG.read [] [] [] ?_;generalize c:(⟨fun k=>if k=0 then(a:Int)else h.getD (k-1) 0,fun _=>false,fun _=>.empty,fun _=>.tuple #[],fun k=>if k=19 then H else R⟩:Env)=J;have v0:J.i 0=a:=by rw[<-c];rfl
  have v1:J.i 1=b0:=by rw[<-c,<-Ol];rfl
  have P:J.h 19=H:=by rw[<-c];rfl
  have g:J.h 20=R:=by rw[<-c];rfl
  have eH:(ar 1 lC).map (CV.ev J)=oT h:=by
   rw[<-c,f]
   match t,j with
   | [a1,a2,a3,a4,a5,a6,a7,a8,a9,E,G,I,K,M,N,O],_=>rfl
  simp only[go_sem,Nat.reduceAdd,KZ,Wz,fr1,tr2];intro q1 g1 _;have t0:Int.toNat 0=0:=rfl;have t1:Int.toNat 1=1:=rfl;have t64:Int.toNat 64=64:=rfl;obtain⟨da,s,m,es,clock,l,ad⟩:=id A;have c0:R.cell a 0=some dp:=by rw[z.cell];rfl
  have c1:R.cell a 1=some (.int .i64 L.frm):=by rw[z.cell];rfl
  obtain⟨f0,f1⟩:=z.1.frm;have ep:Value.pointer (az (bw (R.cell a 0) 0) (bw (R.cell a 0) 1))=dp:=by rw[c0,l];exact ju da
  have wk:bz (R.cell a 0) Kd.ptr=true:=by rw[c0,l];rfl
  have Q:bz (R.cell a 1) (Kd.int .i64)=true:=by rw[c1];rfl
  have⟨S,ae⟩:0<=b0/\b0<18446744073709551616:=by rw[<-Ol];exact hh.2.1
  have r0:=adL 2 S;have r1:=adu b0 (by decide:(0:Int)<2);have ei:IntKind.i64.wrap (cf (R.cell a 1)+IntKind.i64.wrap (b0.tmod 2))=L.frm+(h.getD 0 0).tmod 2:=by
   rw[c1,Ol];show IntKind.i64.wrap (L.frm+IntKind.i64.wrap (b0.tmod 2))=_;rw[wrap_i64 (n:=b0.tmod 2) ah ah];exact wrap_i64 ah ah
  have e1:(ar 1 ([Ck.int IntKind.u64,Ck.int IntKind.u64]++List.replicate 16 (Ck.int IntKind.u8))).map (CV.ev q1)=oT h:=by
   rw[<-eH];exact CV.gF (g1.mono aA) _ (cU lC 1)
  rw[e1];refine⟨N9 hh,fun q2 g2 ⟨F2,b,_,_⟩ q3 g3 _=>?_⟩;have b:Value.agg (List.map (CV.ev q2) (ar 22 (tG 32))).toArray=Value.agg (aM (aZ (fO (.agg (oT h).toArray)))).toArray:=b;rw[oV hh.1]at b;have b:List.map (CV.ev q2) (ar 22 (tG 32))=aM (aZ h):=by simpa using b
  have e3:List.map (CV.ev q3) (ar 22 (List.replicate 32 (Ck.int IntKind.u8)))=aM (aZ h):=by
   rw[<-b];exact CV.gF (g3.mono aA) _ (cU (tG 32) 22)
  have T:ai 21 J q3:=(g1.tr g2).tr g3;rw[e3,T.i 0,v0,T.h 20,g,aar,t0,t1];refine⟨ah,wk,Q,⟨ah,aA,aA⟩,fun B g4 ⟨af,ag,C,_⟩=>?_⟩;have o:ai 21 J B:=T.tr g4;have U:(aZ h++aZ h).length=64:=by rw[aay,Dj hh.1]
  have C:bZ (B.h 55) 5 (.slice (az (B.i 55) 0) (Int.toNat 64) (B.i 56).toNat) (aZ h++aZ h):=by
   unfold bZ;rw[U,ia];exact C
  rw[ue,al,ak,o.i 0,v0,o.i 1,v1,o.h 20,g,o.h 19,P,aar,ep,ei];refine⟨⟨dp,_,_,aZ h++aZ h,H,_,D,rfl,rfl,rfl,A,C.rd⟩,fun q5 g5 ⟨F,⟨p',i',u',bs',H',R',D',H2,hx,V,hR,W,u,v,d,hv⟩,_,_⟩=>?_⟩;cases hx;cases V;cases hR;have e:=W.uniq A;subst e;have e:=u.uniq C.rd;subst e;simp only[Value.int.injEq,abk,aaC,aaP]at hv v;rw[<-v]at d;have G5:ai 21 J q5:=o.tr g5;have out:∀ (q':Env) (n:Nat) (vs:List Nat) (t:Mem) (r:Int×DM),db D' L.frm h=r->aD (q'.h n) dp r.2->q'.i n=r.1 ->
   postOf qT [.pointer (some ⟨a,0,none⟩),.agg (oT h).toArray] [H] [R] q' (.hp n vs [.hP 20 (.var 0) (.lit 0) 0 0] []::t) (.sv (.one (.int .i64 (.var n)))):=by
   intro q' n vs t r hr h1 h2 _;refine⟨[[0]],[],rfl,rfl,⟨(bf fun _=>q'.i n),rfl,zzT,zzT⟩,_,h,H,R,dp,sl,L,D',_,rfl,rfl,rfl,⟨a,rfl,z⟩,A,hh,rfl,?_,?_⟩
   .show aD (di [q'.h n]) _ _;rw[aN,hr];exact h1
   .show Value.int .i64 (q'.i n)=_;rw[h2,hr]
  rw[G5.i 0,v0,G5.h 20,g,aar,ep];refine⟨fun X=>out q5 57 _ _ _ ?_ d hv,fun heq=>⟨⟨dp,_,_,rfl,rfl,d⟩,fun q6 g6 ⟨F,⟨p',H',D2,H3,hx,V,Y,w,x,y⟩,_,_⟩=>?_⟩⟩
  .unfold db;rw[aaR (by rw[<-hv];exact X)]
  .cases hx;cases V;have e:=Y.uniq d;subst e;simp only[Value.int.injEq,abk,aaC,aaP]at y w;rw[<-w]at x;refine out q6 59 _ _ _ ?_ x y;unfold db;rw[aaG (by rw[<-hv,heq];simp)]
def jQ (dp sl:Value) (L:LM):Obj:=.cells (mm dp sl L).toArray 145 (0,0)
def fy (H:Hl) (p dp:Value) (L:LM) (bs:List Int):Prop:=∃ (a:Nat) (sl:Value) (HB:Hl),p=.pointer (some ⟨a,0,none⟩)/\L.ok/\bZ HB 5 sl bs/\(Hl.one a (jQ dp sl L)).bV HB/\H=di [Hl.one a (jQ dp sl L),HB]
def fy.parts (h:fy H p dp L bs):∃ sl,gh H p dp sl L/\oI H sl bs:=by
 obtain⟨a,sl,HB,rfl,hok,b,hd,rfl⟩:=h;refine⟨sl,⟨a,rfl,hok,?_⟩,?_⟩
 .exact Hl.bm _ _ _ _ (Hl.aU _ _)
 .obtain⟨x,y,c,hv,d,h⟩:=b.rd;refine⟨x,y,c,hv,d,h.imp id fun⟨h0,h⟩=>⟨h0,fun j z e=>?_⟩⟩;have hle:HB.le (di [Hl.one a (jQ dp sl L),HB]):=by
   show HB.le ((Hl.one a (jQ dp sl L)).un (di [HB]));rw[aN];exact Hl.bK hd
  have:=h j z e;unfold Hl.cell at this ⊢;split at this
  .rename_i o c' T fr ho;rw[hle _ _ ho];exact this
  .cases this
def fy.uniq (h:fy H p dp L bs) (h':fy H p dp' L' bs'):dp=dp'/\L=L'/\bs=bs':=by
 obtain⟨sl,h1,h2⟩:=h.parts;obtain⟨sl',a,b⟩:=h'.parts;obtain⟨e1,rfl,c⟩:=h1.uniq a;exact⟨e1,c,h2.uniq b⟩
def bZ.pre {l:Int} (h:bZ F e (.slice (az x 0) l.toNat c.toNat) bs) (hx:-1<=x) (h0:0<=n) (hn:n.toNat<=bs.length):bZ F e (.slice (az x 0) n.toNat c.toNat) (bs.take n.toNat):=by
 obtain⟨hl,h⟩:=h;have e1:(bs.take n.toNat).length=n.toNat:=by rw[aaU];omega
 refine⟨by rw[cw];omega,?_⟩;rw[e1];rcases h with ⟨h,hb⟩ | ⟨g,cap,cur,h,a,hle,hm,hs,b⟩
 .simp only[Value.slice.injEq]at h;refine Or.inl ⟨?_,ah⟩;rw[h.1,h.2.2,show n.toNat=0 by omega]
 .simp only[Value.slice.injEq]at h;refine Or.inr ⟨g,cap,cur,by rw[h.1,h.2.2],a,ah,hm,hs,?_⟩;have:=aa1 (List.take n.toNat) b;rw[List.take_take]at this;rw[acA];rw[show min n.toNat (bs.length*1)=n.toNat by omega]at this;rw[this];unfold aM;rw[ac0]
def rX:List Ck:=[.ptr,.int .i64,.int .i64,.int .u64,.int .u64]++List.replicate 16 (.int .u8)
def jd (da:Nat) (L:LM):List Int:=[(da:Int),0,L.frm,L.most,L.serial,L.size]++L.note
def Uz (h:l.length=16):∃ i j a3 a4 a5 k m n a9 a b c d e f g,l=[i,j,a3,a4,a5,k,m,n,a9,a,b,c,d,e,f,g]:=by
 match l,h with
 | [i,j,a3,a4,a5,k,m,n,a9,a,b,c,d,e,f,g],_=>exact⟨i,j,a3,a4,a5,k,m,n,a9,a,b,c,d,e,f,g,rfl⟩
def yc {n:Nat} (a:L.ok) (h:∀ k,k<22->q.i (n+k)=(jd da L).getD k 0):(ar n rX).map (CV.ev q)=[Value.pointer (some ⟨da,0,none⟩),.int .i64 L.frm,.int .i64 L.most,.int .u64 L.serial,.int .u64 L.size]++aM L.note:=by
 obtain⟨o,p,a3,a4,a5,r,t,u,a9,c,d,e,f,g,j,l,hn⟩:=Uz a.note;have w:=ai.refl 0 q;have key:∀ (q':Env),(∀ k,k<22->q'.i k=(jd da L).getD k 0)->(ar 0 rX).map (CV.ev q')=[Value.pointer (some ⟨da,0,none⟩),.int .i64 L.frm,.int .i64 L.most,.int .u64 L.serial,.int .u64 L.size]++aM L.note:=by
  intro q' h;have ag:ai 22 ((bf fun k=>(jd da L).getD k 0):Env) (bf (q'.i)):=⟨fun k hk=>h k hk,fun _ _=>rfl,fun _ _=>rfl,fun _ _=>rfl,fun _ _=>rfl⟩;have e1:(ar 0 rX).map (CV.ev q')=(ar 0 rX).map (CV.ev (bf (q'.i))):=rfl;rw[e1,CV.gF ag _ (cU rX 0)];unfold jd;rw[hn];have m:Value.pointer (az (da:Int) 0)=.pointer (some ⟨da,0,none⟩):=ju da;show [Value.pointer (az (da:Int) 0)]++_=_;rw[m];rfl
 have:=key ⟨fun k=>q.i (n+k),q.b,q.s,q.v,q.h⟩ h;rw[<-this];rfl
def kI {P:Program} {s:Sx.Spec} {Γ:List Sx.Spec} (a:∀ t∈Γ,t.OK P)
 (h:∀ xs Hs Rs,Hs.length=s.own.length->Rs.length=s.rd.length->(∀ (p q:Nat) H K,p≠q->Hs[p]?=some H->Hs[q]?=some K->H.bV K)->s.pre xs Hs Rs->∃ (W:aG P Γ s.fn) (J:Env) (inv:Nat->Env->Prop) (mu:Nat->Env->Nat),
  W.args.map (TV.ev J)=xs/\Entry J W.mem Hs Rs/\Path J W.path/\W.DF ⟨Γ,inv,mu,postOf s xs Hs Rs⟩ (fun _=>0) J):s.OK P:=by
 intro w xs Hs Rs d g i j k l b;obtain⟨W,J,inv,mu,hx,o,hp,hn⟩:=h xs Hs Rs d g k b;unfold aG.DF at hn;obtain⟨nd,u,hn⟩:=hn;have hm:=o.W2 i j l;have:=zn (C:=⟨Γ,inv,mu,postOf s xs Hs Rs⟩) a (NR (C:=⟨Γ,inv,mu,postOf s xs Hs Rs⟩) a) u hm hp hn;rw[hx]at this;refine this.mono ?_;rintro e w' ⟨J',mem',r,rfl,x,c,m⟩;obtain⟨gs,f,hl,hok,⟨n,h2,v⟩,hpost⟩:=m c.bV;refine⟨n,gs.map (xA J' mem'),xA J' mem' f,by rw[h2],v,yw.of c hl hok,?_⟩;rw[<-h2];exact hpost
def j8 (D:DM) (frm:Int) (n:Int):List Int:=(D.now.drop (64*(frm+2).toNat)).take n.toNat
def zI:Sx.Spec where
 fn:=78
 own:=[.arg 0,.link 0 0]
 rd:=[]
 res:=[.one (.int .i64)]
 pre:=fun xs Hs Rs=>∃ p a b HD dp L D,xs=[p]/\Hs=[b,HD]/\p=.pointer (some ⟨a,0,none⟩)/\lr b a dp (.slice none 0 0) L/\aD HD dp D/\D.gone=false/\0<=L.size/\64*(L.frm+2)+L.size<=64*D.n
 post:=fun xs Hs Rs v Hs' F=>∃ p a b HD dp L D c d,xs=[p]/\Hs=[b,HD]/\p=.pointer (some ⟨a,0,none⟩)/\lr b a dp (.slice none 0 0) L/\aD HD dp D/\Hs'=[c,d]/\aD d dp D/\fy c p dp L (j8 D L.frm L.size)/\v=.int .i64 0
def Fz:List Sx.Spec:=[Cd]
def OH:∀ t∈Fz,t.OK Tryz.prog:=fun t a=>by
 rw[Fz,aaJ]at a;subst a;exact Gj
def Kg:aG Tryz.prog Fz zI.fn where
 Λ:=fun p=>if lp p then some ⟨0,[(3,TI .i64 (.var 40))],[(0,.bj 0 (ar 1 rX++[.sl (.var 41) (.lit 0) (.var 43) (.var 44),.bool (.bvar 23)]) 145),(1,.hp 45 [] [.var 1] []),(2,.hp 46 [] [.var 41] [])],47⟩else none
 args:=[TP (.var 0) (.lit 0)]
 mem:=[.bj 0 (ar 1 rX++[.sl (.lit (-1)) (.lit 0) (.lit 0) (.lit 0),.bool (.bvar 23)]) 145,.hp 24 [] [.var 1] []]
 nv:=25
def Gh (h:D.has i=true) (a:D.gone=false):iH D i=(D.aS i,0):=by
 unfold iH;rw[aaG (by simp [h]),aaG (by simp [a])]
def Rk (D:DM) (L:LM) (dp:Value) (_:Nat) (q:Env):Prop:=∃ i:Nat,q.i 40=i/\q.i 43=64*i/\ -1<=q.i 41/\0<=q.i 44/\(i=0\/(64*(i:Int)-64<L.size))/\aD (q.h 45) dp D/\bZ (q.h 46) 5 (.slice (az (q.i 41) 0) (q.i 43).toNat (q.i 44).toNat) ((D.now.drop (64*(L.frm+2).toNat)).take (64*i))
def OG:zI.OK Tryz.prog:=by
 refine kI (Γ:=Fz) OH ?_;rintro xs Hs Rs an aa G ⟨p,a,Y,HD,dp,L,D,rfl,rfl,rfl,x,hD,y,H,ao⟩;have e1:Rs=[]:=aaz.1 aa;subst e1;obtain⟨da,s,m,es,clock,I,A⟩:=id hD;have aq:=x.1.note;obtain⟨f0,f1⟩:=x.1.frm;have au:=A.ok.n;have aj:=A.ok.now;have eB:∀ (q:Env) (sl:CV),q.i 0=a->(∀ k,k<22->q.i (1+k)=(jd da L).getD k 0)->q.b 23=L.over->(bL.bj 0 (ar 1 rX++[sl,.bool (.bvar 23)]) 145).hl q=Hl.one a (jQ dp (sl.ev q) L):=by
  intro q sl h0 h1 h2;show Hl.one (q.i 0).toNat (.cells ((ar 1 rX++[sl,.bool (.bvar 23)]).map (CV.ev q)).toArray _ (0,0))=_;rw[aba,yc x.1 h1,h0,aar];unfold jQ mm;rw[I,<-h2,aaV];rfl
 refine⟨Kg,⟨fun k=>if k=0 then(a:Int)else(jd da L).getD (k-1) 0,fun _=>L.over,fun _=>.empty,fun _=>.tuple #[],fun _=>HD⟩,Rk D L dp,fun _ q=>(L.size-64*q.i 40+64).toNat,?_,⟨?_,?_,?_,?_⟩,(fun _ h=>nomatch h),?_⟩
 .show [Value.pointer (az (a:Int) 0)]=_;rw[ju]
 .intro r hr ho;simp only[Kg,aaN,aaX,abC]at hr;rcases hr with rfl | rfl
  .refine⟨Y,aF,?_⟩;rw[eB _ _ rfl (fun k hk=>by show(if 1+k=0 then(a:Int)else(jd da L).getD (1+k-1) 0)=_;rw[aaG ah,show 1+k-1=k by omega]) rfl];intro b o hb;obtain⟨rfl,rfl⟩:=Hl.nI hb;exact x.2
  .exact⟨HD,aF,Hl.le_refl _⟩
 .intro r hr ho;simp only[Kg,aaN,aaX,abC]at hr;rcases hr with rfl | rfl<;>cases ho
 .have hd:Y.bV HD:=G 0 1 _ _ aA rfl rfl;have hm:Y.mem a:=by unfold Hl.mem;rw[x.2];rfl
  refine List.Pairwise.cons (fun r hr _ _=>?_) (List.Pairwise.cons (fun r hr=>by cases hr) List.Pairwise.nil);rw[aaJ]at hr;subst hr;exact Hl.gJ.2 fun h=>hd a ⟨hm,h⟩
 .intro r hr;simp only[Kg,aaN,aaX,abC]at hr;rcases hr with rfl | rfl
  .show(0:Int)<=(a:Int);omega
  .trivial
 .refine aG.read [] [] [] ?_;generalize c:(⟨fun k=>if k=0 then(a:Int)else(jd da L).getD (k-1) 0,fun _=>L.over,fun _=>.empty,fun _=>.tuple #[],fun _=>HD⟩:Env)=J;simp only[go_sem,Nat.reduceAdd,Fz,rr0,rc0];have r0:J.i 0=a:=by rw[<-c];rfl
  have K:∀ k,k<22->J.i (1+k)=(jd da L).getD k 0:=by
   intro k hk;rw[<-c];show(if 1+k=0 then(a:Int)else(jd da L).getD (1+k-1) 0)=_;rw[aaG ah,show 1+k-1=k by omega]
  have rb:J.b 23=L.over:=by rw[<-c]
  have rh:J.h 24=HD:=by rw[<-c]
  refine⟨⟨0,rfl,rfl,aaM _,aaM _,Or.inl rfl,?_,⟨rfl,Or.inl ⟨rfl,rfl⟩⟩⟩,fun q g ⟨i,M,d,N,ab,hi,B,w⟩=>?_⟩
  .show aD (J.h 24) dp D;rw[rh];exact hD
  .have u1:q.i 1=da:=by rw[g.i 1];exact K 0 ah
   have u2:q.i 2=0:=by rw[g.i 2];exact K 1 ah
   have u3:q.i 3=L.frm:=by rw[g.i 3];exact K 2 ah
   have u6:q.i 6=L.size:=by rw[g.i 6];exact K 5 ah
   have ep:Value.pointer (az (da:Int) 0)=dp:=by rw[ju,I]
   have es:IntKind.i64.wrap L.size=L.size:=wrap_i64 ah ah;rw[u1,u2,u3,u6,M,d,es,ep];refine⟨ah,fun av=>?_,fun aw=>⟨N,H,?_,fun hd=>?_⟩⟩
   .have ei:IntKind.i64.wrap (IntKind.i64.wrap (L.frm+2)+i)=L.frm+2+i:=by
     rw[wrap_i64 (n:=L.frm+2) ah ah,wrap_i64 ah ah]
    rw[ei];have hh:D.has (L.frm+2+i)=true:=by unfold DM.has;simp only[aaB];omega
    have hr:=Gh hh y;have f:=gO A.ok hh;refine⟨⟨dp,_,_,D,rfl,rfl,B⟩,fun q1 O ⟨F,⟨p',i',H',D',H2,u,hx,hH,ad,P,ae,hv,Q⟩,hF,hn⟩=>?_⟩;cases hx;cases hH;have e:=ad.uniq B;subst e;have hF:=hF trivial;subst hF;rw[hr]at hv Q;simp only[Value.tuple.injEq,abh,aaC,Value.int.injEq,abk,aaP]at hv P;obtain⟨rfl,af⟩:=hv;obtain⟨⟨ag,l,C,ax⟩,_⟩:=hn;have l:0<=q1.i 48:=l;have C:0<=q1.i 49:=C;obtain⟨t,hc⟩:=Q.rd.at ag l C;have t:q1.i 49=64:=by rw[t];show(((D'.aS (L.frm+2+i)).length:Nat):Int)=64;rw[f];rfl
    have hc:0<=q1.i 47/\∀ j z,(D'.aS (L.frm+2+i))[j]?=some z->(q1.h 48).cell (q1.i 47).toNat ((q1.i 48).toNat+j)=some (.int .u8 z):=by
     rcases hc with ⟨_,hc⟩ | hc
     .have hc:D'.aS (L.frm+2+i)=[]:=hc;rw[hc]at f;cases f
     .exact hc
    obtain⟨ai,hc⟩:=hc;have R:q1.i 43=64*i:=by rw[O.i 43,d]
    rw[O.h 46,O.i 41,O.i 44,R,t];rw[d]at w;have v:((D'.now.drop (64*(L.frm+2).toNat)).take (64*i)).length=64*i:=by rw[aaU,aa7];omega
    have S:aP (q.h 46) 5 1 (.slice (az (q.i 41) 0) (64*(i:Int)).toNat (q.i 44).toNat) (64*(i:Int)).toNat (aM ((D'.now.drop (64*(L.frm+2).toNat)).take (64*i))):=by
     unfold bZ at w;rw[v]at w;rw[show(64*(i:Int)).toNat=64*i by omega]at w ⊢;exact w
    refine⟨fun h=>absurd af h,fun _=>⟨⟨⟨_,S⟩,ah,Or.inl ⟨ai,l,ah,fun j E=>?_⟩,by unfold maxLen;omega,ah⟩,fun q2 Z ⟨a1,a2,a3,_⟩=>?_⟩⟩
    .have E:j<(D'.aS (L.frm+2+i)).length:=by have:(64:Int).toNat=64:=rfl;omega
     exact⟨_,hc j _ (aax E),rfl⟩
    .have T:cn (q1.h 48) (q1.i 47).toNat (q1.i 48).toNat (Int.toNat 64)=aM (D'.aS (L.frm+2+i)):=by
      unfold cn;apply aa2;intro j;rw[aaL,fT];rcases abn j 64 with E | E
      .rw[show(64:Int).toNat=64 from rfl,aaZ E,abe,hc j _ (aax ah),aax ah];rfl
      .rw[aaK (by simpa using E),aaK ah];rfl
     have hx:=a3 _ S;rw[T]at hx;have U:(D'.now.drop (64*(L.frm+2).toNat)).take (64*(i+1))=(D'.now.drop (64*(L.frm+2).toNat)).take (64*i)++D'.aS (L.frm+2+i):=by
      rw[show 64*(i+1)=64*i+64 by omega,adm,acE];unfold DM.aS;rw[show 64*(L.frm+2).toNat+64*i=64*(L.frm+2+i).toNat by omega]
     have V:(assign q2 [⟨40,0,.int .i64 (.wrap .i64 (.add (.var 40) (.lit 1)))⟩,⟨41,0,.int .i64 (.var 52)⟩,⟨43,0,.int .i64 (.add (.var 43) (.var 49))⟩,⟨44,0,.int .i64 (.var 53)⟩] [(45,some 47),(46,some 52)]).i 40=i+1:=by
      show IntKind.i64.wrap (q2.i 40+1)=_;rw[Z.i 40,O.i 40,M,wrap_i64 ah ah]
     have W:(assign q2 [⟨40,0,.int .i64 (.wrap .i64 (.add (.var 40) (.lit 1)))⟩,⟨41,0,.int .i64 (.var 52)⟩,⟨43,0,.int .i64 (.add (.var 43) (.var 49))⟩,⟨44,0,.int .i64 (.var 53)⟩] [(45,some 47),(46,some 52)]).i 43=64*i+64:=by
      show q2.i 43+q2.i 49=_;rw[Z.i 43,Z.i 49,R,t]
     refine⟨⟨i+1,by rw[V];omega,by rw[W];omega,a1,a2,Or.inr ah,?_,?_⟩,by rw[V];omega⟩
     .show aD (q2.h 47) dp D';rw[Z.h 47,P];exact ae
     .rw[W];show bZ (q2.h 52) _ (.slice (az (q2.i 52) 0) (64*(i:Int)+64).toNat (q2.i 53).toNat) _;rw[U];unfold bZ;rw[ia,aay,v,f];rw[show(64*(i:Int)).toNat+Int.toNat 64=64*i+64 by have:(64:Int).toNat=64:=rfl;omega]at hx;rw[show(64*(i:Int)+64).toNat=64*i+64 by omega];exact hx
   .have:=bZ.cap w ah ab;omega
   .have X:=hd 0 2 _ _ aA rfl rfl rfl;have eb:=eB q (.sl (.var 41) (.lit 0) (.var 6) (.var 44)) (by rw[g.i 0,r0]) (fun k hk=>by rw[g.i (1+k)];exact K k hk) (by rw[g.b 23,rb]);have ev:CV.ev q (.sl (.var 41) (.lit 0) (.var 6) (.var 44))=.slice (az (q.i 41) 0) L.size.toNat (q.i 44).toNat:=by
     simp only[CV.ev,al,ak,u6]
    rw[ev]at eb;refine⟨[[0,2],[1]],[],rfl,rfl,⟨(bf fun _=>0),rfl,zzT,zzT⟩,_,a,Y,HD,dp,L,D,_,_,rfl,rfl,rfl,x,hD,rfl,?_,?_,rfl⟩
    .show aD (di [q.h 45]) _ _;rw[aN];exact B
    .refine⟨a,.slice (az (q.i 41) 0) L.size.toNat (q.i 44).toNat,q.h 46,rfl,x.1,?_,?_,?_⟩
     .rw[d]at w;have v:((D.now.drop (64*(L.frm+2).toNat)).take (64*i)).length=64*i:=by
       rw[aaU,aa7];rcases hi with rfl | hi<;>omega
      have:=bZ.pre w N H (by rw[v];omega);rw[List.take_take,show min L.size.toNat (64*i)=L.size.toNat by omega]at this;exact this
     .rw[<-eb];exact X
     .exact aa1 (fun z=>di [z,q.h 46]) eb
def Hn (n c:Int):0<=jK n c/\jK n c<18446744073709551616:=by
 unfold jK;have h:∀ x:Int,0<=IntKind.u64.wrap x/\IntKind.u64.wrap x<18446744073709551616:=fun x=>⟨Int.emod_nonneg _ aA,Int.emod_lt_of_pos _ aA⟩;exact h _
def yD (l:List Int):0<=dZ l/\dZ l<18446744073709551616:=by
 have h:∀ (l:List Int) (n:Int),(0<=n/\n<18446744073709551616)->0<=l.foldl jK n/\l.foldl jK n<18446744073709551616:=by
  intro l
  induction l with
  | nil=>exact fun n h=>h
  | cons c l ih=>exact fun n _=>ih _ (Hn n c)
 exact h l 0 ah
def jS (b:D.ok) (frm:Int) (hm:0<=most) (place:Int):qf (aX D frm most place).1/\(aX D frm most place).1.getD 1 0<=most:=by
 have a:qf iF/\iF.getD 1 0<=most:=⟨⟨rfl,⟨aaM _,aA⟩,aaM _,aA⟩,hm⟩;unfold aX;split
 .exact a
 .rename_i h;have h:(iH D (frm+place)).2=0:=by simpa using h
  obtain⟨_,_,e,hl⟩:=Gi b h;split
  .rename_i c;have d:=yD (((iH D (frm+place)).1.take 32).take 8);have r1:=yD ((((iH D (frm+place)).1.take 32).drop 8).take 8);refine⟨⟨?_,d,r1⟩,c.2.2⟩;unfold wI;rw[e];simp only[aay,abc,abt,aaU,aa7,hl];rfl
  .exact a
def zK {frm:Int} (h:D.has (frm+place)=true):(aX D frm most place).2=if D.gone then 5 else 0:=by
 unfold aX iH;rw[h];cases D.gone with
 | true=>simp
 | false=>simp;split<;>rfl
def zu (frm most:Int) (h:List Int):LM:=⟨frm,most,h.getD 0 0,h.getD 1 0,h.drop 2,false⟩
def kC (D:DM) (frm n:Int):Int:=if n<3\/frm<0\/(D.n:Int)<frm\/(D.n:Int)-frm<n then 1 else if D.gone then 5 else 0
def dg (D:DM) (frm n:Int):List Int:=if(aX D frm (64*(n-2)) 0).1.getD 0 0<(aX D frm (64*(n-2)) 1).1.getD 0 0 then(aX D frm (64*(n-2)) 1).1 else(aX D frm (64*(n-2)) 0).1
def bc (D:DM) (frm n:Int):LM:=zu frm (64*(n-2)) (dg D frm n)
def bk (D:DM) (frm n:Int):List Int:=j8 D frm (bc D frm n).size
def wY:Sx.Spec where
 fn:=44
 own:=[.arg 0]
 rd:=[]
 res:=[.one .ptr,.one (.int .i64)]
 links:=[0]
 pre:=fun xs Hs Rs=>∃ dp frm n H D,xs=[dp,.int .i64 frm,.int .i64 n]/\Hs=[H]/\aD H dp D
 post:=fun xs Hs Rs v Hs' F=>∃ dp frm n H D H' a,xs=[dp,.int .i64 frm,.int .i64 n]/\Hs=[H]/\aD H dp D/\Hs'=[H']/\aD H' dp D/\v=.tuple #[a,.int .i64 (kC D frm n)]/\(kC D frm n=0->fy F a dp (bc D frm n) (bk D frm n))/\(kC D frm n≠0->a=.pointer none)
def FO:List Sx.Spec:=[mA,nG,zI]
def O5:∀ t∈FO,t.OK Tryz.prog:=av xn <| av LX <| av OG <| bW
def FN:aG Tryz.prog FO wY.fn where
 Λ:=aC
 args:=[TP (.var 0) (.lit 0),TI .i64 (.var 1),TI .i64 (.var 2)]
 mem:=[.hp 3 [] [.var 0] []]
 nv:=4
def Zw:FO[2]?=some zI:=rfl
def Zx:mA.res=[.one (.int .i64)]:=rfl
def Zy:nG.res=[.agg lC,.one (.int .i64)]:=rfl
def Zz:zI.res=[.one (.int .i64)]:=rfl
def Nj (l:List CV):List CV:=[.hptr (.var 0) (.lit 0),.int .i64 (.var 1),.int .i64 (.wrap .i64 (.mul (.lit 64) (.wrap .i64 (.sub (.var 2) (.lit 2)))))]++l++[.sl (.lit (-1)) (.lit 0) (.lit 0) (.lit 0),.bool .ff]
def Zv {l:List CV} {frm:Int} (h0:q.i 0=da) (h1:q.i 1=frm) (h2:q.i 2=n) (hn:3<=n/\n<=16384) (hh:h.length=18) (hl:l.map (CV.ev q)=oT h) :
 (bL.bj 8 (Nj l) 145).hl q=Hl.one (q.i 8).toNat (jQ (.pointer (some ⟨da,0,none⟩)) (.slice none 0 0) (zu frm (64*(n-2)) h)):=by
 show Hl.one (q.i 8).toNat (.cells ((Nj l).map (CV.ev q)).toArray _ (0,0))=_;have e:(Nj l).map (CV.ev q)=mm (.pointer (some ⟨da,0,none⟩)) (.slice none 0 0) (zu frm (64*(n-2)) h):=by
  unfold Nj;rw[aba,aba,hl];have a:Value.pointer (az (q.i 0) 0)=.pointer (some ⟨da,0,none⟩):=by rw[h0,ju]
  have em:IntKind.i64.wrap (64*IntKind.i64.wrap (q.i 2-2))=64*(n-2):=by
   rw[h2,wrap_i64 (n:=n-2) ah ah,wrap_i64 ah ah]
  show [Value.pointer (az (q.i 0) 0),Value.int .i64 (q.i 1),Value.int .i64 (IntKind.i64.wrap (64*IntKind.i64.wrap (q.i 2-2)))]++oT h++[Value.slice (az (-1) 0) 0 0,Value.bool false]=_;rw[a,em,h1,fx];unfold mm zu oT;simp only[acq,abU,aaV]
 rw[e];rfl
def Ff {n:Nat} (e:(ar n lC).map (CV.ev q)=oT h):q.i n=h.getD 0 0:=by
 have:=aa1 (fun l=>l[0]?) e;simpa [lC,ar,Ck.cv,CV.ev,oT,al] using this
def Oi {frm:Int} (hf:0<=frm/\frm<=16384) (hn:3<=n/\n<=16384) (hh:h.length=18):(zu frm (64*(n-2)) h).ok:=⟨hf,⟨by show 0<=64*(n-2);omega,by show 64*(n-2)<=_;omega⟩,by show(h.drop 2).length=16;rw[aa7];omega⟩
def O4:wY.OK Tryz.prog:=by
 refine Spec.aV (Γ:=FO) O5 ?_;rintro xs Hs Rs a6 aJ ⟨dp,frm,n,H,D,rfl,rfl,U⟩;have e1:Rs=[]:=aaz.1 aJ;subst e1;obtain⟨da,s,m,es,clock,V,W⟩:=id U;have a7:=W.ok.n;refine⟨FN,aL [da,frm,n] false [Hl.none,Hl.none,Hl.none,H],fun _ _=>True,fun _ _=>0,?_,⟨?_,?_,?_,?_⟩,(fun _ h=>nomatch h),?_⟩
 .show [Value.pointer (az (da:Int) 0),Value.int .i64 frm,Value.int .i64 n]=_;rw[ju,V]
 .intro r hr ho;simp [FN]at hr;subst hr;exact⟨H,aF,Hl.le_refl _⟩
 .intro r hr ho;simp [FN]at hr;subst hr;cases ho
 .simp [FN]
 .intro r hr;simp [FN]at hr;subst hr;trivial
 .refine aG.read [] [] [] ?_;generalize C:aL [(da:Int),frm,n] false [Hl.none,Hl.none,Hl.none,H]=J;have v0:J.i 0=da:=by rw[<-C];rfl
  have v1:J.i 1=frm:=by rw[<-C];rfl
  have v2:J.i 2=n:=by rw[<-C];rfl
  have w3:J.h 3=H:=by rw[<-C];rfl
  have ep:Value.pointer (az (da:Int) 0)=dp:=by rw[ju,V]
  have bad:∀ (q:Env) (k:Nat) (vs:List Nat) (t:Mem) (x:E) (e:Int),aD (q.h k) dp D->aB q x=e->kC D frm n=e->e≠0 ->
   postOf wY [dp,.int .i64 frm,.int .i64 n] [H] [] q (.hp k vs [.var 0] []::t) (.tup [.one (.hptr (.lit (-1)) (.lit 0)),.one (.int .i64 x)]):=by
   intro q k vs t x e o hx he aM _;refine⟨[[0]],[],rfl,rfl,⟨(bf fun j=>[-1,0,e].getD j 0),?_,⟨by show(-1:Int)<= -1;omega,aaM _⟩,zzT,zzT⟩,dp,frm,n,H,D,_,.pointer none,rfl,rfl,U,rfl,?_,?_,fun h=>absurd (he.symm.trans h) aM,fun _=>rfl⟩
   .subst hx;rfl
   .show aD (di [q.h k]) _ _;rw[aN];exact o
   .rw[he,<-hx];rfl
  simp only[go_sem,Nat.reduceAdd,FO,Zw,Zx,Zy,Zz];rw[v0,v1,v2,w3,ep];refine⟨fun h3=>⟨fun h0=>⟨⟨dp,H,D,rfl,rfl,U⟩,fun q1 g1 ⟨F,⟨p',H',D',H2,hx,G,X,I,K,hv⟩,_,_⟩=>?_⟩,fun h0=>bad _ 3 _ _ _ 1 (by rw[w3];exact U) (ak _ _) (by unfold kC;rw[aaR (Or.inr (Or.inl h0))]) aA⟩,fun h3=>bad _ 3 _ _ _ 1 (by rw[w3];exact U) (ak _ _) (by unfold kC;rw[aaR (Or.inl h3)]) aA⟩;cases hx;cases G;have e:=X.uniq U;subst e;simp only[Value.int.injEq,abk,aaC,aaP]at hv I;rw[<-I]at K;have hv:q1.i 4=D'.n:=hv;rw[g1.i 0,g1.i 1,v0,v1,hv,ep];refine⟨fun c=>⟨⟨dp,_,D',rfl,rfl,K⟩,fun q2 g2 ⟨F,⟨p',H',b,H3,hx,G,X,ab,Y,L⟩,_,_⟩=>?_⟩,fun c=>bad _ 4 _ _ _ 1 K (ak _ _) (by unfold kC;rw[aaR (Or.inr (Or.inr (Or.inl c)))]) aA⟩;cases hx;cases G;have e:=X.uniq K;subst e;simp only[Value.int.injEq,abk,aaC,aaP]at L ab;rw[<-ab]at Y;have L:q2.i 6=b.n:=L;have h3:3<=n:=ah;have h0:0<=frm:=ah;have c:frm<=b.n:=ah;have ad:IntKind.i64.wrap ((b.n:Int)-frm)=b.n-frm:=wrap_i64 ah ah;rw[g2.i 1,g2.i 2,g1.i 1,g1.i 2,v1,v2,L,ad];refine⟨fun hr=>bad _ 6 _ _ _ 1 Y (ak _ _) (by unfold kC;rw[aaR (Or.inr (Or.inr (Or.inr hr)))]) aA,fun hr q3 g3 p8=>?_⟩;have hr:n<=b.n-frm:=ah;have G3:ai 4 J q3:=(g1.tr g2).tr g3;have S:3<=n/\n<=16384:=⟨h3,ah⟩;have ae:0<=frm/\frm<=16384:=⟨h0,ah⟩;have af:0<=64*(n-2):=ah;have M:∀ q:Env,0<=q.i 8->Value.pointer (az (q.i 8) 0)=.pointer (some ⟨(q.i 8).toNat,0,none⟩):=fun q h=>by rw[au h];rfl
  have rd:∀ (q:Env) (l:List CV) (h:List Int),ai 4 J q->h.length=18->l.map (CV.ev q)=oT h->0<=q.i 8 ->
   lr ((bL.bj 8 (Nj l) 145).hl q) (q.i 8).toNat dp (.slice none 0 0) (zu frm (64*(n-2)) h):=by
   intro q l h o hh hl u;refine⟨Oi ae S hh,?_⟩;rw[Zv (by rw[o.i 0,v0]) (by rw[o.i 1,v1]) (by rw[o.i 2,v2]) S hh hl,V];exact Hl.aU _ _
  have call:∀ (q:Env) (l:List CV) (h:List Int) (k:Nat) (place:Int),ai 4 J q->h.length=18->l.map (CV.ev q)=oT h->0<=q.i 8->aD (q.h k) dp b->(place=0\/place=1) ->
   nG.pre [.pointer (az (q.i 8) 0),.int .u64 place] [q.h k] [(bL.bj 8 (Nj l) 145).hl q]:=by
   intro q l h k place o hh hl u hd hp;exact⟨_,place,_,_,dp,_,_,b,rfl,rfl,rfl,⟨_,M q u,rd q l h o hh hl u⟩,hd,hp⟩
  have back:∀ (q:Env) (l:List CV) (h:List Int) (k:Nat) (place:Int) (v:Value) (H' F:Hl),ai 4 J q->h.length=18->l.map (CV.ev q)=oT h->0<=q.i 8->aD (q.h k) dp b ->
   nG.post [.pointer (az (q.i 8) 0),.int .u64 place] [q.h k] [(bL.bj 8 (Nj l) 145).hl q] v [H'] F ->
   aD H' dp b/\v=.tuple #[.agg (oT (aX b frm (64*(n-2)) place).1).toArray,.int .i64 (aX b frm (64*(n-2)) place).2]:=by
   intro q l h k place v H' F o hh hl u hd ⟨p',aI,Hx,R,dp',sl',L',Dx,a8,hx,G,hR,hL,N,g,Z,O⟩;cases hx;cases G;have hR:(bL.bj 8 (Nj l) 145).hl q=R:=by simpa using hR
   subst hR;obtain⟨e1,e2,e3⟩:=hL.uniq ⟨_,M q u,rd q l h o hh hl u⟩;subst e1 e2 e3;have e:=N.uniq hd;subst e;simp only[aaC,aaP]at g;subst g;exact⟨Z,O⟩
  have inr:∀ place:Int,place=0\/place=1->b.has (frm+place)=true:=by
   intro place hp;unfold DM.has;simp only[aaB];omega
  have oE:kC b frm n=if b.gone then 5 else 0:=by
   unfold kC;rw[aaG ah]
  have leaf:∀ (q:Env) (l:List CV) (h:List Int),ai 4 J q->qf h->h.getD 1 0<=64*(n-2)->l.map (CV.ev q)=oT h->0<=q.i 8->aD (q.h 29) dp b->b.gone=false->dg b frm n=h ->
   (zI.pre [.pointer (az (q.i 8) 0)] [(bL.bj 8 (Nj l) 145).hl q,q.h 29] [] /\
   ∀ q':Env,ai 49 q q'->(∃ F,zI.post [.pointer (az (q.i 8) 0)] [(bL.bj 8 (Nj l) 145).hl q,q.h 29] [] (.int .i64 (q'.i 49)) (newHs q' 49 2) F/\(aK 0 [Cp.one (Ck.int .i64)]≠[]->q'.h 51=F)/\ft 49 [Cp.one (Ck.int .i64)] q') ->
    (¬q'.i 49=0->postOf wY [dp,.int .i64 frm,.int .i64 n] [H] [] q' [.hp 50 [29,9,6,4,3] [.var 0] [],.hp 49 [] [.var 8] [],.dead,.dead] (.tup [.one (.hptr (.lit (-1)) (.lit 0)),.one (.int .i64 (.var 49))])) /\
    (q'.i 49=0->postOf wY [dp,.int .i64 frm,.int .i64 n] [H] [] q' [.hp 50 [29,9,6,4,3] [.var 0] [],.hp 49 [] [.var 8] [],.dead,.dead] (.tup [.one (.hptr (.var 8) (.lit 0)),.one (.int .i64 (.lit 0))]))):=by
   intro q l h o hh aO hl u hd a aP;refine⟨⟨_,_,_,_,dp,_,b,rfl,rfl,M q u,rd q l h o hh.1 hl u,hd,a,hh.2.2.1,?_⟩,fun q' g' ⟨F,⟨p',a',HL,aQ,dp',L',Dx,ag,aj,hx,G,hp,hL,N,g,Z,aR,O⟩,_,_⟩=>?_⟩
   .show 64*(frm+2)+h.getD 1 0<=64*(b.n:Int);omega
   .have hx:Value.pointer (az (q.i 8) 0)=p':=by simpa using hx
    subst hx;have G:(bL.bj 8 (Nj l) 145).hl q=HL/\q.h 29=aQ:=by simpa using G
    obtain⟨aS,I⟩:=G;subst aS I;have e:=N;obtain⟨e1,e2,e3⟩:=gh.uniq ⟨a',hp,hL⟩ ⟨_,M q u,rd q l h o hh.1 hl u⟩;subst e1 e3;have e:=N.uniq hd;subst e;have g:q'.h 49=ag/\q'.h 50=aj:=by
     have h1:[q'.h 49,q'.h 50]=[ag,aj]:=g;simpa using h1
    obtain⟨aT,aW⟩:=g;simp only[Value.int.injEq,abk]at O;refine⟨fun h=>absurd O h,fun _ _=>⟨[[0]],[1],rfl,rfl,⟨(bf fun j=>[q'.i 8,0,0].getD j 0),rfl,⟨?_,aaM _⟩,zzT,zzT⟩,_,frm,n,H,Dx,_,Value.pointer (az (q'.i 8) 0),rfl,rfl,U,rfl,?_,?_,fun _=>?_,fun h=>absurd (by rw[oE,a];rfl) h⟩⟩
    .show -1<=q'.i 8;rw[g'.i 8];omega
    .show aD (di [q'.h 50]) _ _;rw[aN,aW];exact Z
    .rw[oE,a];rfl
    .show fy (di [q'.h 49]) _ _ _ _;rw[aN,aT,g'.i 8];unfold bk bc;rw[aP];exact aR
  have an:∀ q:Env,([CV.int .u64 (.lit 0),CV.int .u64 (.lit 0)]++List.replicate 16 (CV.int .u8 (.lit 0))).map (CV.ev q)=oT iF:=fun q=>rfl;obtain⟨w,ao⟩:=jS W.ok frm af 0;obtain⟨aq,av⟩:=jS W.ok frm af 1;have aw:aD (q3.h 6) dp b:=by rw[g3.h 6];exact Y
  refine⟨call q3 _ iF 6 0 G3 rfl (an q3) p8 aw (Or.inl rfl),fun q4 g4 ⟨F,aY,_,_⟩ p T _=>?_⟩;obtain⟨aZ,ax⟩:=back q3 _ iF 6 0 _ _ _ G3 rfl (an q3) p8 aw aY;simp only[Value.tuple.injEq,abh,aaC,Value.int.injEq,Value.agg.injEq,abk,aaP]at ax;obtain⟨a1,d⟩:=ax;have d:q4.i 27=(aX b frm (64*(n-2)) 0).2:=d;rw[zK (inr 0 (Or.inl rfl))]at d;have G5:ai 4 J p:=(G3.tr g4).tr T;have P:List.map (CV.ev p) (ar 9 lC)=oT (aX b frm (64*(n-2)) 0).1:=by
   rw[CV.gF (T.mono aA) _ (cU lC 9)];exact a1
  have Q:0<=p.i 8:=by rw[T.i 8,g4.i 8];exact p8
  have f:aD (p.h 9) dp b:=by rw[T.h 9];exact aZ
  refine⟨fun y=>bad p 9 _ _ _ 5 f (by rw[al,T.i 27,d,aaR];exact abT fun hg=>y (by rw[T.i 27,d,aaG hg])) (by rw[oE,aaR];exact abT fun hg=>y (by rw[T.i 27,d,aaG hg])) aA,fun y=>?_⟩;have a:b.gone=false:=by
   cases hg:b.gone with
   | false=>rfl
   | true=>rw[T.i 27,d,hg]at y;cases y
  have ay:∀ (A:Env),ai 29 p A->∀ F,nG.post [.pointer (az (p.i 8) 0),.int .u64 1] [p.h 9] [(bL.bj 8 (Nj (ar 9 lC)) 145).hl p] (.tuple #[.agg (List.map (CV.ev A) (ar 29 lC)).toArray,.int .i64 (A.i 47)]) [A.h 29] F ->
   ∀ q7,ai 48 A q7->q7.i 47=0/\ai 4 J q7/\0<=q7.i 8/\aD (q7.h 29) dp b/\List.map (CV.ev q7) (ar 29 lC)=oT (aX b frm (64*(n-2)) 1).1/\List.map (CV.ev q7) (ar 9 lC)=oT (aX b frm (64*(n-2)) 0).1:=by
   intro A g6 F z q7 B;obtain⟨aC,aE⟩:=back p _ _ 9 1 _ _ _ G5 w.1 P Q f z;simp only[Value.tuple.injEq,abh,aaC,Value.int.injEq,Value.agg.injEq,abk,aaP]at aE;obtain⟨a2,aH⟩:=aE;rw[zK (inr 1 (Or.inr rfl)),a]at aH;refine⟨by rw[B.i 47,aH];rfl,(G5.tr g6).tr B,by rw[B.i 8,g6.i 8];exact Q,by rw[B.h 29];exact aC,?_,?_⟩
   .rw[CV.gF (B.mono aA) _ (cU lC 29)];exact a2
   .rw[CV.gF ((g6.tr B).mono aA) _ (cU lC 9)];exact P
  have both:∀ (q7:Env),ai 4 J q7->0<=q7.i 8->aD (q7.h 29) dp b->List.map (CV.ev q7) (ar 29 lC)=oT (aX b frm (64*(n-2)) 1).1->List.map (CV.ev q7) (ar 9 lC)=oT (aX b frm (64*(n-2)) 0).1 ->
   (q7.i 9<q7.i 29->dg b frm n=(aX b frm (64*(n-2)) 1).1)/\(¬q7.i 9<q7.i 29->dg b frm n=(aX b frm (64*(n-2)) 0).1):=by
   intro q7 _ _ _ h1 h2;rw[Ff h1,Ff h2];exact⟨fun h=>by unfold dg;rw[aaR h],fun h=>by unfold dg;rw[aaG h]⟩
  constructor
  .intro _;refine⟨call p _ _ 9 1 G5 w.1 P Q f (Or.inr rfl),fun A g6 ⟨F,z,_,_⟩ q7 B _=>?_⟩;obtain⟨z1,z2,z3,z4,z5,z6⟩:=ay A g6 F z q7 B;obtain⟨b1,b2⟩:=both q7 z2 z3 z4 z5 z6;exact⟨fun h=>absurd z1 h,fun _=>⟨fun c=>leaf q7 (ar 29 lC) _ z2 aq av z5 z3 z4 a (b1 c),fun aa=>leaf q7 (ar 9 lC) _ z2 w ao z6 z3 z4 a (b2 aa)⟩⟩
  .intro _;refine⟨call p _ _ 9 1 G5 w.1 P Q f (Or.inr rfl),fun A g6 ⟨F,z,_,_⟩ q7 B _=>?_⟩;obtain⟨z1,z2,z3,z4,z5,z6⟩:=ay A g6 F z q7 B;obtain⟨b1,b2⟩:=both q7 z2 z3 z4 z5 z6;exact⟨fun h=>absurd z1 h,fun _=>⟨fun c=>leaf q7 (ar 29 lC) _ z2 aq av z5 z3 z4 a (b1 c),fun aa=>leaf q7 (ar 9 lC) _ z2 w ao z6 z3 z4 a (b2 aa)⟩⟩
def tq (sl:Value) (n:Nat):Prop:=∃ (x y:Int) (c:Nat),sl=.slice (az x y) n c/\ -1<=x/\0<=y
def bZ.tq (h:bZ F e v bs):tq v bs.length:=by
 obtain⟨x,c,hx,hv,_⟩:=bZ.rep h;exact⟨x,0,c,hv,hx,aaM _⟩
def oI.tq (h:oI F v bs):tq v bs.length:=by
 obtain⟨x,y,c,hv,a,h⟩:=h;exact⟨x,y,c,hv,by rcases h with ⟨h,_⟩ | ⟨h,_⟩<;>omega,a⟩
def tq.uniq {n:Nat} (h:tq sl n) (h':tq sl m):n=m:=by
 obtain⟨x,y,c,rfl,_⟩:=h;obtain⟨x',y',c',he,_⟩:=h';simp only[Value.slice.injEq]at he;exact he.2.1
def AX (hx:-1<=x) (n c:Nat):bw (some (.slice (az x y) n c)) 0=x:=by
 rcases abQ x 0 with h | h
 .obtain rfl:x= -1:=ah;rfl
 .rw[au h];show((x.toNat:Nat):Int)=x;omega
def GU (hx:0<=x) (a:0<=y) (n c:Nat):bw (some (.slice (az x y) n c)) 1=y:=by
 rw[au hx];show((y.toNat:Nat):Int)=y;omega
def oF (hx:-1<=x) (n c:Nat):bw (some (.slice (az x y) n c)) 2=n:=by
 rcases abQ x 0 with h | h
 .obtain rfl:x= -1:=ah;rfl
 .rw[au h];rfl
def sB (a:Nat) (R1 R2:Hl):Env:=aL [(a:Int)] false [Hl.none,R2,R1]
def xf:Mem:=[.ro 1 [.hP 2 (.var 0) (.lit 21) 0 0] false,.ro 2 [.var 0] false]
def DN (a:Nat) (R1 R2:Hl) (Rs:List Hl) (h1:R1∈Rs) (h2:R2∈Rs):Entry (sB a R1 R2) xf [] Rs:=by
 refine⟨fun r hr ho=>?_,fun r hr ho=>?_,?_,fun r hr=>?_⟩
 .simp [xf]at hr;rcases hr with rfl | rfl<;>cases ho
 .simp [xf]at hr;rcases hr with rfl | rfl
  .exact⟨R2,h2,Hl.le_refl _⟩
  .exact⟨R1,h1,Hl.le_refl _⟩
 .simp [xf,bL.own]
 .simp [xf]at hr;rcases hr with rfl | rfl<;>trivial
def xj:Sx.Spec where
 fn:=50
 own:=[]
 rd:=[0]
 res:=[.one (.int .i64)]
 pre:=fun xs Hs Rs=>∃ p R dp sl L n,xs=[p]/\Rs=[R]/\gh R p dp sl L/\tq sl n/\n<=1048576
 post:=fun xs Hs Rs v Hs' F=>∃ p R dp sl L n,xs=[p]/\Rs=[R]/\gh R p dp sl L/\tq sl n/\v=.int .i64 (L.most-n)
def Xm:aG Tryz.prog [] xj.fn where
 Λ:=aC
 args:=[TP (.var 0) (.lit 0)]
 mem:=xf
 nv:=3
def ql:Sx.Spec where
 fn:=54
 own:=[]
 rd:=[0]
 res:=[.agg (tG 16)]
 pre:=fun xs Hs Rs=>∃ p R dp sl L,xs=[p]/\Rs=[R]/\gh R p dp sl L
 post:=fun xs Hs Rs v Hs' F=>∃ p R dp sl L,xs=[p]/\Rs=[R]/\gh R p dp sl L/\v=.agg (aM L.note).toArray
def UA:aG Tryz.prog [] ql.fn where
 Λ:=aC
 args:=[TP (.var 0) (.lit 0)]
 mem:=xf
 nv:=3
def lr.VX (h:lr R a dp sl L):R.cell a 21=some sl:=by
 rw[h.cell];unfold mm;rw[aaQ aF,aaQ (by rw[cw,h.1.note];simp)];rw[cw,h.1.note];rfl
def lr.Rw (h:lr R a dp sl L):∀ j z,L.note[j]?=some z->R.cell a (5+j)=some (.int .u8 z):=by
 intro j z b;rw[h.cell];unfold mm;have c:=(aaH.1 b).1;rw[aaQ aF,aa0 (by rw[cw];simp;omega),fT];rw[show 5+j-_=j from by simp,b];rfl
def Gn:xj.OK Tryz.prog:=by
 refine Spec.aV (Γ:=[]) (fun _ h=>by cases h) ?_;rintro xs Hs Rs f g ⟨p,R,dp,sl,L,n,rfl,rfl,⟨a,rfl,e⟩,hs,hn⟩;have j:Hs=[]:=aaz.1 f;subst j;refine⟨Xm,sB a R R,fun _ _=>True,fun _ _=>0,?_,DN a R R _ aF aF,(fun _ h=>nomatch h),?_⟩
 .show [Value.pointer (az (a:Int) 0)]=_;rw[ju]
 .refine aG.read [] [] [] ?_;simp only[go_sem,Nat.reduceAdd];have v0:(sB a R R).i 0=a:=rfl;have k:(sB a R R).h 2=R:=rfl;have c2:R.cell a 2=some (.int .i64 L.most):=by rw[e.cell];rfl
  have b:=e.VX;obtain⟨x,y,c,d,hx,l⟩:=id hs;obtain⟨m,m1⟩:=e.1.most;rw[v0,k,aar,show Int.toNat 2=2 from rfl,show Int.toNat 21=21 from rfl,c2,b,d];refine⟨ah,rfl,rfl,by rw[oF hx];omega,fun _=>⟨[],[],rfl,rfl,⟨(bf fun _=>L.most-n),?_,zzT,zzT⟩,_,R,dp,sl,L,n,rfl,rfl,⟨a,rfl,e⟩,hs,?_⟩⟩
  all_goals
   show Value.int .i64 (IntKind.i64.wrap (cf (R.cell ((a:Int)).toNat 2)-bw (R.cell ((a:Int)).toNat 21) 2))=Value.int .i64 (L.most-n);rw[aar,c2,b,d];rw[oF hx];show Value.int .i64 (IntKind.i64.wrap (L.most-(n:Int)))=_;rw[wrap_i64 ah ah]
def BK:ql.OK Tryz.prog:=by
 refine Spec.aV (Γ:=[]) (fun _ h=>by cases h) ?_;rintro xs Hs Rs d j ⟨p,R,dp,sl,L,rfl,rfl,⟨a,rfl,b⟩⟩;have k:Hs=[]:=aaz.1 d;subst k;refine⟨UA,sB a R R,fun _ _=>True,fun _ _=>0,?_,DN a R R _ aF aF,(fun _ h=>nomatch h),?_⟩
 .show [Value.pointer (az (a:Int) 0)]=_;rw[ju]
 .refine aG.read [] [] [] ?_;simp only[go_sem,Nat.reduceAdd];intro q g _;have v0:q.i 0=a:=g.i 0;have e:q.h 2=R:=g.h 2;have hc:=b.Rw;rw[v0,e,aar,show Int.toNat 5=5 from rfl,show Int.toNat 16=16 from rfl];have f:(aY 2 (E.var 0) (E.lit 5) 0 (List.replicate 16 (Kd.int IntKind.u8))).map (CV.ev q)=aM L.note:=by
   refine im 16 0 _ b.1.note fun i z l=>?_;rw[al,ak,v0,e,aar,aa6];exact hc _ _ l
  refine⟨ah,df hc (by rw[b.1.note];omega),fun _=>⟨[],[],rfl,rfl,?_,_,R,dp,sl,L,rfl,rfl,⟨a,rfl,b⟩,?_⟩⟩
  .obtain⟨c,_,_,m⟩:=cY (tG 16) 0 (aM L.note) (bf fun _=>0) (iD 16 _ b.1.note);refine⟨c,?_,cN _ _ _ aA,zzT⟩;show Value.agg (List.map (CV.ev q) _).toArray=Value.agg ((ar 0 (tG 16)).map (CV.ev c)).toArray;rw[f,m]
  .show Value.agg (List.map (CV.ev q) _).toArray=_;rw[f]
def gl:Sx.Spec where
 fn:=47
 own:=[]
 rd:=[0,1021]
 res:=[.one .sl]
 pre:=fun xs Hs Rs=>∃ p R1 R2 dp sl L bs,xs=[p]/\Rs=[R1,R2]/\gh R1 p dp sl L/\oI R2 sl bs/\bs.length<=1048576
 post:=fun xs Hs Rs v Hs' F=>∃ p R1 R2 dp sl L bs,xs=[p]/\Rs=[R1,R2]/\gh R1 p dp sl L/\oI R2 sl bs/\bZ F 5 v bs
def TK:aG Tryz.prog [] gl.fn where
 Λ:=aC
 args:=[TP (.var 0) (.lit 0)]
 mem:=xf
 nv:=3
def Bt:gl.OK Tryz.prog:=by
 refine Spec.aV (Γ:=[]) (fun _ h=>by cases h) ?_;rintro xs Hs Rs r B ⟨p,R1,R2,dp,sl,L,bs,rfl,rfl,⟨a,rfl,s⟩,hB,hn⟩;have C:Hs=[]:=aaz.1 r;subst C;refine⟨TK,sB a R1 R2,fun _ _=>True,fun _ _=>0,?_,DN a R1 R2 _ aF aF,(fun _ h=>nomatch h),?_⟩
 .show [Value.pointer (az (a:Int) 0)]=_;rw[ju]
 .refine aG.read [] [] [] ?_;simp only[go_sem,Nat.reduceAdd];have f:=s.VX;obtain⟨x,y,c,d,v,hc⟩:=id hB;have hx:-1<=x:=by rcases hc with ⟨h,_⟩ | ⟨h,_⟩<;>omega
  have t:(sB a R1 R2).h 2=R1:=rfl;have v0:(sB a R1 R2).i 0=a:=rfl;have t0:Int.toNat 0=0:=rfl;rw[v0,t,aar,show Int.toNat 21=21 from rfl,f,d,AX hx];refine⟨ah,rfl,fun h=>fun _=>?_,fun h q g p3=>?_⟩
  .have u:bs=[]:=by
    rcases hc with ⟨_,h'⟩ | ⟨h',_⟩
    .exact h'
    .omega
   subst u;exact⟨[],[],rfl,rfl,⟨(bf fun k=>[-1,0,0,0].getD k 0),rfl,⟨by show(-1:Int)<= -1;omega,aaM _,aaM _,aaM _⟩,zzT⟩,_,R1,R2,dp,sl,L,[],rfl,rfl,⟨a,rfl,s⟩,hB,⟨rfl,Or.inl ⟨rfl,rfl⟩⟩⟩
  .have m:0<=x:=ah;have b:∀ (j:Nat) (z:Int),bs[j]?=some z->R2.cell x.toNat (y.toNat+j)=some (.int .u8 z):=by
    rcases hc with ⟨h',_⟩ | ⟨_,h'⟩
    .omega
    .exact h'
   have w:=d;rw[g.i 0,v0,g.h 2,t,g.h 1,show(sB a R1 R2).h 1=R2 from rfl,aar,f,d,AX hx,GU m v,oF hx,t0,aar];have e:aP (Hl.one (q.i 3).toNat (.cells #[] 5 (0,0))) 5 1 (.slice (az (q.i 3) 0) 0 0) 0 []:=⟨rfl,Or.inr ⟨(q.i 3).toNat,0,#[],by rw[au p3];rfl,Hl.aU _ _,ah,aA,rfl,rfl⟩⟩;refine⟨⟨⟨[],e⟩,ah,Or.inl ⟨m,v,ah,fun j l=>?_⟩,by unfold maxLen;omega,ah⟩,fun q2 D ⟨E,F,a3,_⟩=>?_⟩
   .exact⟨_,b j _ (aax l),rfl⟩
   .have n:cn R2 x.toNat y.toNat bs.length=aM bs:=by
     unfold cn;apply aa2;intro j;rw[aaL,fT];rcases abn j bs.length with l | l
     .rw[aaZ l,abe,b j _ (aax l),aax l];rfl
     .rw[aaK (by simpa using l),aaK ah];rfl
    have o:=a3 _ e;rw[n,abU,aa6]at o;have A:ai 3 (sB a R1 R2) q2:=g.tr D;have ev:(TV.sv (SV.one (CV.sl (.var 4) (.lit 0) (.hP 2 (.var 0) (.lit 21) 0 2) (.var 5)))).ev q2=.slice (az (q2.i 4) 0) bs.length (q2.i 5).toNat:=by
     show Value.slice (az (q2.i 4) 0) (aB q2 (.hP 2 (.var 0) (.lit 21) 0 2)).toNat (q2.i 5).toNat=_;rw[fG,al,ak,A.i 0,v0,A.h 2,t,aar,show Int.toNat 21+0=21 from rfl,f,d,oF hx,aar]
    refine fun _=>⟨[],[2],rfl,rfl,⟨(bf fun k=>[q2.i 4,0,bs.length,q2.i 5].getD k 0),?_,⟨E,aaM _,by show(0:Int)<=(bs.length:Int);omega,F⟩,zzT⟩,_,R1,R2,dp,sl,L,bs,rfl,rfl,⟨a,rfl,s⟩,hB,?_⟩
    .rw[ev];show _=Value.slice (az (q2.i 4) 0) ((bs.length:Int)).toNat (q2.i 5).toNat;rw[aar]
    .rw[ev];show bZ (di [q2.h 4]) _ _ _;rw[aN];exact o
def GR {q:Env} : ∀ (m n:Nat) (l:List Int),l.length=m->(∀ k,k<m->q.i (n+k)=l.getD k 0)->(ar n (List.replicate m (Ck.int .u8))).map (CV.ev q)=aM l
 | 0,n,[],_,_=>rfl
 | m+1,n,z::l,hl,h=>by
  rw[adp];show CV.ev q (.int .u8 (.var n))::(ar (n+1) (List.replicate m (Ck.int .u8))).map (CV.ev q)=Value.int .u8 z::aM l;rw[GR m (n+1) l (by simpa using hl) fun k hk=>by rw[show n+1+k=n+(k+1)by omega,h (k+1) ah];rfl]
  congr 1
  show Value.int .u8 (q.i n)=_;have:=h 0 ah;rw[abj]at this;rw[this];rfl
 | 0,_,_::_,h,_=>by simp at h
 | _+1,_,[],h,_=>by simp at h
def kV (L:LM) (all nt:List Int):List Int:=(L.serial+1)::(all.length:Int)::nt
def bN (D:DM) (L:LM) (all nt:List Int) (n:Nat):Int×DM :=
 if(gr D L.frm all n).1≠0 then(5,(gr D L.frm all n).2)
 else if(db (gr D L.frm all n).2 L.frm (kV L all nt)).1≠0 then(5,(db (gr D L.frm all n).2 L.frm (kV L all nt)).2)
 else(0,(db (gr D L.frm all n).2 L.frm (kV L all nt)).2)
def nC (L:LM) (all nt:List Int):LM:=⟨L.frm,L.most,L.serial+1,all.length,nt,L.over⟩
def wZ (L:LM):LM:={L with over:=true}
def tI:Sx.Spec where
 fn:=89
 own:=[.arg 0,.arg 1,.link 0 0]
 rd:=[]
 res:=[.one (.int .i64)]
 pre:=fun xs Hs Rs=>∃ p a u all nt H HA HD dp sl L n D,xs=[p,u,.agg (aM nt).toArray,.bool true]/\Hs=[H,HA,HD]/\p=.pointer (some ⟨a,0,none⟩)/\lr H a dp sl L/\tq sl n/\n<=1048576/\bZ HA 5 u all/\all.length<=1048576/\nt.length=16/\aD HD dp D/\0<=L.serial/\L.serial<4611686018427387904
 post:=fun xs Hs Rs v Hs' F=>∃ p a u all nt H HA HD dp sl L n D H' c b,xs=[p,u,.agg (aM nt).toArray,.bool true]/\Hs=[H,HA,HD]/\p=.pointer (some ⟨a,0,none⟩)/\lr H a dp sl L/\tq sl n/\bZ HA 5 u all/\aD HD dp D/\Hs'=[H',c,b]/\aD b dp (bN D L all nt n).2/\v=.int .i64 (bN D L all nt n).1 /\
  ((bN D L all nt n).1=0->fy H' p dp (nC L all nt) all)/\((bN D L all nt n).1≠0->H'=Hl.one a (jQ dp sl (wZ L)))
def xP:List Sx.Spec:=[E2,qT]
def Hk:∀ t∈xP,t.OK Tryz.prog:=av NY <| av AV <| bW
def xO:aG Tryz.prog xP tI.fn where
 Λ:=aC
 args:=[TP (.var 0) (.lit 0),.sv (.one (.sl (.var 1) (.var 2) (.var 3) (.var 4))),.sv (.agg (ar 5 (tG 16))),.sv (.one (.bool (.bvar 60)))]
 mem:=[.bj 0 (ar 21 rX++[.sl (.var 43) (.var 44) (.var 45) (.var 46),.bool (.bvar 47)]) 145,.hp 48 [] [.var 1] [],.hp 49 [] [.var 21] []]
 nv:=61
def br0:E2.res=[.one (.int .i64)]:=rfl
def br1:qT.res=[.one (.int .i64)]:=rfl
def Hi (a:Nat) (x:Int) (n c:Nat) (nt:List Int) (da:Nat) (L:LM) (b d:Int) (e sc:Nat) (HA HD:Hl):Env :=
 ⟨fun k=>if k<5 then [(a:Int),x,0,n,c].getD k 0 else if k<21 then nt.getD (k-5) 0 else if k<43 then(jd da L).getD (k-21) 0 else [b,d,(e:Int),(sc:Int)].getD (k-43) 0,fun k=>if k=60 then true else L.over,fun _=>.empty,fun _=>.tuple #[],fun k=>if k=48 then HA else HD⟩
def Hj:tI.OK Tryz.prog:=by
 refine kI (Γ:=xP) Hk ?_;rintro xs Hs Rs aC ag l ⟨p,a,u,all,nt,H,HA,HD,dp,sl,L,n,D,rfl,rfl,rfl,y,N,hn,X,hall,A,Z,aE,aH⟩;have e1:Rs=[]:=aaz.1 ag;subst e1;obtain⟨da,s,m,es,clock,O,aI⟩:=id Z;obtain⟨x,c,hx,hu,hc,aj⟩:=bZ.rep X;obtain⟨sx,sy,sc,K,aJ,aK⟩:=id N;have eB:∀ (q:Env),ai 61 (Hi a x all.length c nt da L sx sy n sc HA HD) q->(bL.bj 0 (ar 21 rX++[.sl (.var 43) (.var 44) (.var 45) (.var 46),.bool (.bvar 47)]) 145).hl q=Hl.one a (jQ dp sl L):=by
  intro q g;have h1:∀ k,k<22->q.i (21+k)=(jd da L).getD k 0:=fun k hk=>by
   rw[g.i _ ah];show(if 21+k<5 then _ else if 21+k<21 then _ else if 21+k<43 then(jd da L).getD (21+k-21) 0 else _)=_;rw[aaG ah,aaG ah,aaR ah,show 21+k-21=k by omega]
  show Hl.one (q.i 0).toNat (.cells ((ar 21 rX++[CV.sl (.var 43) (.var 44) (.var 45) (.var 46),.bool (.bvar 47)]).map (CV.ev q)).toArray _ (0,0))=_;rw[aba,yc y.1 h1,g.i 0];have e1:CV.ev q (.sl (.var 43) (.var 44) (.var 45) (.var 46))=sl:=by
   simp only[CV.ev,al,g.i 43,g.i 44,g.i 45,g.i 46];rw[K];show Value.slice (az sx sy) ((n:Int)).toNat ((sc:Int)).toNat=_;rw[aar,aar]
  have e2:CV.ev q (.bool (.bvar 47))=.bool L.over:=by
   show Value.bool (q.b 47)=_;rw[g.b 47];rfl
  rw[aaY,aaY,abN,e1,e2,aaV,<-O];rfl
 refine⟨xO,Hi a x all.length c nt da L sx sy n sc HA HD,fun _ _=>True,fun _ _=>0,?_,⟨?_,?_,?_,?_⟩,(fun _ h=>nomatch h),?_⟩
 .show [Value.pointer (az (a:Int) 0),Value.slice (az x 0) ((all.length:Int)).toNat ((c:Int)).toNat,Value.agg ((ar 5 (tG 16)).map (CV.ev _)).toArray,Value.bool true]=_;unfold tG;rw[ju,aar,aar,<-hu,GR 16 5 nt A fun k hk=>?_];show(if 5+k<5 then _ else if 5+k<21 then nt.getD (5+k-5) 0 else _)=_;rw[aaG ah,aaR ah,show 5+k-5=k by omega]
 .intro r hr ho;simp only[xO,aaN,aaX,abC]at hr;rcases hr with rfl | rfl | rfl
  .refine⟨H,aF,?_⟩;rw[eB _ (ai.refl _ _)];intro b o hb;obtain⟨rfl,rfl⟩:=Hl.nI hb;exact y.2
  .exact⟨HA,aF,Hl.le_refl _⟩
  .exact⟨HD,aF,Hl.le_refl _⟩
 .intro r hr ho;simp only[xO,aaN,aaX,abC]at hr;rcases hr with rfl | rfl | rfl<;>cases ho
 .have d1:H.bV HA:=l 0 1 _ _ aA rfl rfl;have d2:H.bV HD:=l 0 2 _ _ aA rfl rfl;have d3:HA.bV HD:=l 1 2 _ _ aA rfl rfl;have hm:H.mem a:=by unfold Hl.mem;rw[y.2];rfl
  refine List.Pairwise.cons (fun r hr _ _=>?_) (List.Pairwise.cons (fun r hr _ _=>?_) (List.Pairwise.cons (fun r hr=>by cases hr) List.Pairwise.nil))
  .simp only[aaN,aaX,abC]at hr;rw[eB _ (ai.refl _ _)];rcases hr with rfl | rfl
   .exact Hl.gJ.2 fun h=>d1 a ⟨hm,h⟩
   .exact Hl.gJ.2 fun h=>d2 a ⟨hm,h⟩
  .rw[aaJ]at hr;subst hr;exact d3
 .intro r hr;simp only[xO,aaN,aaX,abC]at hr;rcases hr with rfl | rfl | rfl
  .show(0:Int)<=(a:Int);omega
  .trivial
  .trivial
 .refine aG.read [] [] [] ?_;generalize f:Hi a x all.length c nt da L sx sy n sc HA HD=J at eB ⊢;have v0:J.i 0=a:=by rw[<-f];rfl
  have v1:J.i 1=x:=by rw[<-f];rfl
  have v2:J.i 2=0:=by rw[<-f];rfl
  have v3:J.i 3=all.length:=by rw[<-f];rfl
  have v4:J.i 4=c:=by rw[<-f];rfl
  have ak:J.i 45=n:=by rw[<-f];rfl
  have an:J.b 60=true:=by rw[<-f];rfl
  have aa:J.h 48=HA:=by rw[<-f];rfl
  have ao:J.h 49=HD:=by rw[<-f];rfl
  have rk:∀ k,k<22->J.i (21+k)=(jd da L).getD k 0:=fun k hk=>by
   rw[<-f];show(if 21+k<5 then _ else if 21+k<21 then _ else if 21+k<43 then(jd da L).getD (21+k-21) 0 else _)=_;rw[aaG ah,aaG ah,aaR ah,show 21+k-21=k by omega]
  have rn:∀ k,k<16->J.i (5+k)=nt.getD k 0:=fun k hk=>by
   rw[<-f];show(if 5+k<5 then _ else if 5+k<21 then nt.getD (5+k-5) 0 else _)=_;rw[aaG ah,aaR ah,show 5+k-5=k by omega]
  simp only[go_sem,Nat.reduceAdd,xP,br0,br1];intro q1 g1 _;rw[g1.i 3,v3];refine⟨ah,fun q2 g2 _=>?_⟩;have v:ai 61 J q2:=g1.tr g2;rw[v.b 60,an];refine⟨fun _=>?_,fun h=>absurd rfl h⟩;rw[v.i 0,v0,v.i 1,v1,v.i 2,v2,v.i 3,v3,v.i 4,v4,v.i 45,ak,v.h 48,aa,v.h 49,ao,ju,aar,aar,<-hu];have ls:∀ q:Env,ai 61 J q->CV.ev q (.sl (.var 43) (.var 44) (.var 45) (.var 46))=sl:=by
   intro q g;simp only[CV.ev,al,g.i 43,g.i 44,g.i 45,g.i 46];rw[<-f,K];show Value.slice (az sx sy) ((n:Int)).toNat ((sc:Int)).toNat=_;rw[aar,aar]
  have Y:∀ q:Env,ai 61 J q->∀ k,k<22->q.i (21+k)=(jd da L).getD k 0:=fun q g k hk=>by rw[g.i _ ah];exact rk k hk
  have ab:∀ q:Env,ai 61 J q->Hl.one a (Obj.cells (List.map (CV.ev q) (ar 21 ([Ck.ptr,Ck.int IntKind.i64,Ck.int IntKind.i64,Ck.int IntKind.u64,Ck.int IntKind.u64]++List.replicate 16 (Ck.int IntKind.u8)++[Ck.sl,Ck.bool]))).toArray 145 (0,0))=Hl.one a (jQ dp sl L):=by
   intro q g;have h:Hl.one (q.i 0).toNat (Obj.cells (List.map (CV.ev q) (ar 21 ([Ck.ptr,Ck.int IntKind.i64,Ck.int IntKind.i64,Ck.int IntKind.u64,Ck.int IntKind.u64]++List.replicate 16 (Ck.int IntKind.u8)++[Ck.sl,Ck.bool]))).toArray 145 (0,0))=Hl.one a (jQ dp sl L):=eB q g;rw[g.i 0,v0,aar]at h;exact h
  have eT:∀ q:Env,ai 61 J q->(bL.bj 0 (ar 21 ([Ck.ptr,Ck.int IntKind.i64,Ck.int IntKind.i64,Ck.int IntKind.u64,Ck.int IntKind.u64]++List.replicate 16 (Ck.int IntKind.u8)++[Ck.sl])++[CV.bool E.tt]) 145).hl q=Hl.one a (jQ dp sl (wZ L)):=by
   intro q g;have h:(bL.bj 0 (ar 21 ([Ck.ptr,Ck.int IntKind.i64,Ck.int IntKind.i64,Ck.int IntKind.u64,Ck.int IntKind.u64]++List.replicate 16 (Ck.int IntKind.u8)++[Ck.sl])++[CV.bool E.tt]) 145).hl q=Hl.one (q.i 0).toNat (.cells ((ar 21 rX++[CV.sl (.var 43) (.var 44) (.var 45) (.var 46),.bool .tt]).map (CV.ev q)).toArray 145 (0,0)):=rfl;rw[h,aba,yc y.1 (Y q g),g.i 0,v0,aaY,aaY,abN,ls q g,aaV,<-O,aar];rfl
  have eN:∀ q:Env,ai 61 J q->(ar 5 (List.replicate 16 (Ck.int IntKind.u8))).map (CV.ev q)=aM nt:=fun q g=>GR 16 5 nt A fun k hk=>by rw[g.i _ ah];exact rn k hk
  have i23:∀ q:Env,ai 61 J q->q.i 21=da/\q.i 22=0/\q.i 23=L.frm/\q.i 24=L.most/\q.i 25=L.serial:=fun q g=>⟨Y q g 0 ah,Y q g 1 ah,Y q g 2 ah,Y q g 3 ah,Y q g 4 ah⟩;have wS:IntKind.u64.wrap (L.serial+1)=L.serial+1:=wrap_u64 ah ah;have wL:IntKind.u64.wrap (all.length:Int)=all.length:=wrap_u64 ah ah;have eH:∀ q:Env,ai 61 J q->List.map (CV.ev q) ([CV.int IntKind.u64 (E.wrap IntKind.u64 ((E.var 25).add (E.lit 1))),CV.int IntKind.u64 (E.wrap IntKind.u64 (E.var 3))]++ar 5 (List.replicate 16 (Ck.int IntKind.u8)))=oT (kV L all nt):=by
   intro q g;rw[aba,eN q g];show [Value.int .u64 (IntKind.u64.wrap (q.i 25+1)),Value.int .u64 (IntKind.u64.wrap (q.i 3))]++aM nt=_;rw[(i23 q g).2.2.2.2,g.i 3,v3,wS,wL];rfl
  have eG:∀ q:Env,ai 61 J q->(bL.bj 0 ([CV.hptr (E.var 21) (E.var 22),CV.int IntKind.i64 (E.var 23),CV.int IntKind.i64 (E.var 24),CV.int IntKind.u64 (E.wrap IntKind.u64 ((E.var 25).add (E.lit 1))),CV.int IntKind.u64 (E.wrap IntKind.u64 (E.var 3))]++ar 5 (List.replicate 16 (Ck.int IntKind.u8))++[CV.sl (E.var 1) (E.var 2) (E.var 3) (E.var 4),CV.bool (E.bvar 47)]) 145).hl q=Hl.one a (jQ dp u (nC L all nt)):=by
   intro q g;show Hl.one (q.i 0).toNat (.cells (List.map (CV.ev q) _).toArray _ (0,0))=_;rw[aba,aba,eN q g];obtain⟨j0,j1,j2,j3,j4⟩:=i23 q g;have eb:q.b 47=L.over:=by rw[g.b 47,<-f];rfl
   show Hl.one (q.i 0).toNat (.cells ([Value.pointer (az (q.i 21) (q.i 22)),.int .i64 (q.i 23),.int .i64 (q.i 24),.int .u64 (IntKind.u64.wrap (q.i 25+1)),.int .u64 (IntKind.u64.wrap (q.i 3))]++aM nt++[Value.slice (az (q.i 1) (q.i 2)) (q.i 3).toNat (q.i 4).toNat,.bool (q.b 47)]).toArray _ (0,0))=_;rw[j0,j1,j2,j3,j4,eb,g.i 0,v0,g.i 1,v1,g.i 2,v2,g.i 3,v3,g.i 4,v4,wS,wL,ju,<-O,aar,aar,aar,<-hu,aaV];rfl
  have B:gh (Hl.one a (jQ dp sl L)) (.pointer (some ⟨a,0,none⟩)) dp sl L:=⟨a,rfl,y.1,Hl.aU _ _⟩;have bad:∀ (q:Env) (k:Nat) (vs:List Nat) (t:Mem) (r:Int×DM),ai 61 J q->bN D L all nt n=r->r.1=5->aD (q.h k) dp r.2 ->
   postOf tI [.pointer (some ⟨a,0,none⟩),u,.agg (aM nt).toArray,.bool true] [H,HA,HD] [] q (.bj 0 (ar 21 ([Ck.ptr,Ck.int IntKind.i64,Ck.int IntKind.i64,Ck.int IntKind.u64,Ck.int IntKind.u64]++List.replicate 16 (Ck.int IntKind.u8)++[Ck.sl])++[CV.bool E.tt]) 145::.hp 48 [] [.var 1] []::.hp k vs [.var 21] []::t) (.sv (.one (.int .i64 (.lit 5)))):=by
   intro q k vs t r hq hr h5 hd _;refine⟨[[0],[1],[2]],[],rfl,rfl,⟨(bf fun _=>5),rfl,zzT,zzT⟩,_,a,u,all,nt,H,HA,HD,dp,sl,L,n,D,_,_,_,rfl,rfl,rfl,y,N,X,Z,rfl,?_,?_,fun h=>?_,fun _=>?_⟩
   .show aD (di [q.h k]) _ _;rw[aN,hr];exact hd
   .rw[hr,h5];rfl
   .rw[hr,h5]at h;cases h
   .show di [_]=_;rw[aN];exact eT q hq
  rw[aar,ab q2 v];refine⟨ah,⟨_,u,all,n,HD,_,HA,dp,sl,L,D,rfl,rfl,rfl,B,X,Z,ah,ah,ah⟩,fun P g3 ⟨F,⟨p',u',d,fr',Hx,R1,R2,dp',sl',L',M,H2,hx,Q,R,aq,au,av,S,C,G⟩,_,_⟩=>?_⟩;have hx:Value.pointer (some ⟨a,0,none⟩)=p'/\u=u'/\(n:Int)=fr':=by simpa using hx
  obtain⟨rfl,rfl,rfl⟩:=hx;have Q:HD=Hx:=by simpa using Q
  subst Q;have R:Hl.one a (jQ dp sl L)=R1/\HA=R2:=by simpa using R
  obtain⟨rfl,rfl⟩:=R;obtain⟨rfl,rfl,rfl⟩:=B.uniq aq;have e:=au.rd.uniq X.rd;subst e;have e:=av.uniq Z;subst e;have S:P.h 63=H2:=by simpa using S
  rw[<-S]at C;have G:P.i 63=(gr M L.frm d n).1:=by simpa using G
  have G3:ai 61 J P:=v.tr g3;rw[G3.i 0,v0,ju,aar,ab P G3,eH P G3];have ad:qf (kV L d nt):=⟨by simp [kV,A],⟨by show 0<=L.serial+1;omega,by show L.serial+1<_;omega⟩,by show(0:Int)<=(d.length:Int);omega,by show(d.length:Int)<_;omega⟩;refine⟨fun T=>⟨⟨_,_,_,_,dp,sl,L,_,rfl,rfl,rfl,B,C,ad⟩,fun w g4 ⟨F,⟨p',h',Hx,R1,dp',sl',L',Dy,H3,hx,Q,R,aw,ax,ay,U,V,I⟩,_,_⟩=>?_⟩,fun T=>bad P 63 _ _ (5,(gr M L.frm d n).2) G3 (by unfold bN;rw[aaR (by rw[<-G];exact T)]) rfl C⟩;have hx:Value.pointer (some ⟨a,0,none⟩)=p'/\Value.agg (oT (kV L d nt)).toArray=Value.agg (oT h').toArray:=by simpa using hx
  obtain⟨rfl,aB⟩:=hx;have e:=Rc ad.1 ay.1 aB;subst e;have Q:P.h 63=Hx:=by simpa using Q
  subst Q;have R:Hl.one a (jQ dp sl L)=R1:=by simpa using R
  subst R;obtain⟨rfl,rfl,rfl⟩:=B.uniq aw;have e:=ax.uniq C;subst e;have U:w.h 65=H3:=by simpa using U
  rw[<-U]at V;have I:w.i 65=(db (gr M L.frm d n).2 L.frm (kV L d nt)).1:=by simpa using I
  have G4:ai 61 J w:=G3.tr g4;have ae:¬(gr M L.frm d n).1≠0:=by rw[<-G,T];simp
  refine⟨fun W=>bad w 65 _ _ (5,(db (gr M L.frm d n).2 L.frm (kV L d nt)).2) G4 (by unfold bN;rw[aaG ae,aaR (by rw[<-I];exact W)]) rfl V,fun W hd=>?_⟩;have hr:bN M L d nt n=(0,(db (gr M L.frm d n).2 L.frm (kV L d nt)).2):=by
   unfold bN;rw[aaG ae,aaG (by rw[<-I,W];simp)]
  have j:=hd 0 1 _ _ aA rfl rfl rfl;rw[eG w G4]at j;refine⟨[[0,1],[],[2]],[],rfl,rfl,⟨(bf fun _=>0),rfl,zzT,zzT⟩,_,a,u,d,nt,H,HA,HD,dp,sl,L,n,M,_,_,_,rfl,rfl,rfl,y,N,X,Z,rfl,?_,?_,fun _=>?_,fun h=>?_⟩
  .show aD (di [w.h 65]) _ _;rw[aN,hr];exact V
  .rw[hr];rfl
  .have af:w.h 48=HA:=by rw[G4.h 48,aa]
   have j:(Hl.one a (jQ dp u (nC L d nt))).bV (w.h 48):=j;rw[af]at j;refine⟨a,u,HA,rfl,⟨y.1.frm,y.1.most,A⟩,X,j,?_⟩;rw[<-af];exact aa1 (fun z=>di [z,w.h 48]) (eG w G4)
  .rw[hr]at h;exact absurd rfl h
structure AR where
 e:Int
 D:DM
 L:LM
 bs:List Int
def aT (D:DM) (L:LM) (bs b nt:List Int):AR :=
 if L.over then⟨5,D,L,bs⟩
 else if 4611686018427387904<=L.serial then⟨14,D,L,bs⟩
 else if L.most-bs.length<b.length then⟨4,D,L,bs⟩
 else if(bN D L (bs++b) nt bs.length).1=0 then⟨0,(bN D L (bs++b) nt bs.length).2,nC L (bs++b) nt,bs++b⟩
 else⟨5,(bN D L (bs++b) nt bs.length).2,wZ L,bs⟩
def CR (D:DM) (L:LM) (all nt:List Int) (n:Nat):(bN D L all nt n).1=0\/(bN D L all nt n).1=5:=by
 unfold bN;split
 .exact Or.inr rfl
 .split
  .exact Or.inr rfl
  .exact Or.inl rfl
def qX:Sx.Spec where
 fn:=53
 own:=[.arg 0,.link 0 0]
 rd:=[1]
 res:=[.one (.int .i64)]
 pre:=fun xs Hs Rs=>∃ p u b nt H HD R dp L bs D,xs=[p,u,.agg (aM nt).toArray]/\Hs=[H,HD]/\Rs=[R]/\fy H p dp L bs/\aD HD dp D/\fL R u b/\bs.length<=1048576/\nt.length=16/\0<=L.serial
 post:=fun xs Hs Rs v Hs' F=>∃ p u b nt H HD R dp L bs D H' a,xs=[p,u,.agg (aM nt).toArray]/\Hs=[H,HD]/\Rs=[R]/\fy H p dp L bs/\aD HD dp D/\fL R u b/\Hs'=[H',a]/\aD a dp (aT D L bs b nt).D/\fy H' p dp (aT D L bs b nt).L (aT D L bs b nt).bs/\v=.int .i64 (aT D L bs b nt).e
def xN:List Sx.Spec:=[xj,gl,tI]
def Hg:∀ t∈xN,t.OK Tryz.prog:=av Gn <| av Bt <| av Hj <| bW
def xL:aG Tryz.prog xN qX.fn where
 Λ:=aC
 args:=[TP (.var 0) (.lit 0),.sv (.one (.sl (.var 1) (.var 2) (.var 3) (.var 4))),.sv (.agg (ar 5 (tG 16)))]
 mem:=[.bj 0 (ar 21 rX++[.sl (.var 43) (.var 44) (.var 45) (.var 46),.bool (.bvar 47)]) 145,.hp 48 [] [.var 21] [],.hp 49 [] [.var 43] [],.ro 50 [.var 1] false]
 nv:=51
def ar0:xj.res=[.one (.int .i64)]:=rfl
def ar1:gl.res=[.one .sl]:=rfl
def ar2:tI.res=[.one (.int .i64)]:=rfl
def ac1:(aK 0 [Cp.one .sl]≠[])=True:=by simp [aK,Cp.roots,Ck.root]
def Tv (a:Nat) (x y:Int) (n c:Nat) (nt:List Int) (da:Nat) (L:LM) (b:Int) (d sc:Nat) (HD HB R:Hl):Env :=
 ⟨fun k=>if k<5 then [(a:Int),x,y,n,c].getD k 0 else if k<21 then nt.getD (k-5) 0 else if k<43 then(jd da L).getD (k-21) 0 else [b,0,(d:Int),(sc:Int)].getD (k-43) 0,fun _=>L.over,fun _=>.empty,fun _=>.tuple #[],fun k=>if k=48 then HD else if k=49 then HB else R⟩
def He:qX.OK Tryz.prog:=by
 refine kI (Γ:=xN) Hg ?_;rintro xs Hs Rs bd bg an ⟨p,u,b,nt,H,HD,R,dp,L,bs,D,rfl,rfl,rfl,K,W,hB,X,Y,aK⟩;obtain⟨a,sl,HB,rfl,hok,hO,v,hH⟩:=id K;obtain⟨da,s,m,es,clock,aL,bk⟩:=id W;obtain⟨x,y,c,hu,hy,d⟩:=id hB;obtain⟨sx,sc,bl,aO,bn,_⟩:=bZ.rep hO;generalize f:Tv a x y b.length c nt da L sx bs.length sc HD HB R=J;have v0:J.i 0=a:=by rw[<-f];rfl
 have v1:J.i 1=x:=by rw[<-f];rfl
 have v2:J.i 2=y:=by rw[<-f];rfl
 have v3:J.i 3=b.length:=by rw[<-f];rfl
 have v4:J.i 4=c:=by rw[<-f];rfl
 have w:J.h 48=HD:=by rw[<-f];rfl
 have o:J.h 49=HB:=by rw[<-f];rfl
 have ao:J.h 50=R:=by rw[<-f];rfl
 have aq:J.b 47=L.over:=by rw[<-f];rfl
 have rk:∀ k,k<22->J.i (21+k)=(jd da L).getD k 0:=fun k hk=>by
  rw[<-f];show(if 21+k<5 then _ else if 21+k<21 then _ else if 21+k<43 then(jd da L).getD (21+k-21) 0 else _)=_;rw[aaG ah,aaG ah,aaR ah,show 21+k-21=k by omega]
 have rn:∀ k,k<16->J.i (5+k)=nt.getD k 0:=fun k hk=>by
  rw[<-f];show(if 5+k<5 then _ else if 5+k<21 then nt.getD (5+k-5) 0 else _)=_;rw[aaG ah,aaR ah,show 5+k-5=k by omega]
 have lk:∀ q:Env,ai 51 J q->∀ k,k<22->q.i (21+k)=(jd da L).getD k 0:=fun q g k hk=>by rw[g.i _ ah];exact rk k hk
 have ls:∀ q:Env,ai 51 J q->CV.ev q (.sl (.var 43) (.var 44) (.var 45) (.var 46))=sl:=by
  intro q g;simp only[CV.ev,al,g.i 43,g.i 44,g.i 45,g.i 46];rw[<-f,aO];show Value.slice (az sx 0) ((bs.length:Int)).toNat ((sc:Int)).toNat=_;rw[aar,aar]
 have eB:∀ (q:Env),ai 51 J q->(bL.bj 0 (ar 21 rX++[.sl (.var 43) (.var 44) (.var 45) (.var 46),.bool (.bvar 47)]) 145).hl q=Hl.one a (jQ dp sl L):=by
  intro q g;show Hl.one (q.i 0).toNat (.cells ((ar 21 rX++[CV.sl (.var 43) (.var 44) (.var 45) (.var 46),.bool (.bvar 47)]).map (CV.ev q)).toArray _ (0,0))=_;have e2:CV.ev q (.bool (.bvar 47))=.bool L.over:=by
   show Value.bool (q.b 47)=_;rw[g.b 47,aq]
  rw[aba,yc hok (lk q g),g.i 0,v0,aaY,aaY,abN,ls q g,e2,aaV,<-aL,aar];rfl
 have Q:(Hl.one a (jQ dp sl L)).le H:=by rw[hH];exact Hl.bm _ _
 have S:HB.le H:=by
  rw[hH];show HB.le ((Hl.one a (jQ dp sl L)).un (di [HB]));rw[aN];exact Hl.bK v
 have au:H.bV HD:=an 0 1 _ _ aA rfl rfl;refine⟨xL,J,fun _ _=>True,fun _ _=>0,?_,⟨?_,?_,?_,?_⟩,(fun _ h=>nomatch h),?_⟩
 .show [Value.pointer (az (J.i 0) 0),Value.slice (az (J.i 1) (J.i 2)) (J.i 3).toNat (J.i 4).toNat,Value.agg ((ar 5 (tG 16)).map (CV.ev J)).toArray]=_;unfold tG;rw[v0,v1,v2,v3,v4,ju,aar,aar,<-hu,GR 16 5 nt Y rn]
 .intro r hr ho;simp only[xL,aaN,aaX,abC]at hr;rcases hr with rfl | rfl | rfl | rfl
  .refine⟨H,aF,?_⟩;rw[eB J (ai.refl _ _)];exact Q
  .refine⟨HD,aF,?_⟩;show(J.h 48).le HD;rw[w];exact Hl.le_refl _
  .refine⟨H,aF,?_⟩;show(J.h 49).le H;rw[o];exact S
  .cases ho
 .intro r hr ho;simp only[xL,aaN,aaX,abC]at hr;rcases hr with rfl | rfl | rfl | rfl
  .cases ho
  .cases ho
  .cases ho
  .refine⟨R,aF,?_⟩;show(J.h 50).le R;rw[ao];exact Hl.le_refl _
 .have d1:HD.bV HB:=fun k ⟨h1,h2⟩=>au k ⟨Hl.fv S h2,h1⟩;refine List.Pairwise.cons (fun r hr _ ho=>?_) (List.Pairwise.cons (fun r hr _ ho=>?_) (List.Pairwise.cons (fun r hr _ ho=>?_) (List.Pairwise.cons (fun r hr=>by cases hr) List.Pairwise.nil)))
  .simp only[aaN,aaX,abC]at hr;rw[eB J (ai.refl _ _)];rcases hr with rfl | rfl | rfl
   .show Hl.bV _ (J.h 48);rw[w];exact fun k ⟨h1,h2⟩=>au k ⟨Hl.fv Q h1,h2⟩
   .show Hl.bV _ (J.h 49);rw[o];exact v
   .cases ho
  .simp only[aaN,aaX,abC]at hr;rcases hr with rfl | rfl
   .show(J.h 48).bV (J.h 49);rw[w,o];exact d1
   .cases ho
  .rw[aaJ]at hr;subst hr;cases ho
 .intro r hr;simp only[xL,aaN,aaX,abC]at hr;rcases hr with rfl | rfl | rfl | rfl
  .show(0:Int)<=J.i 0;rw[v0];omega
  .trivial
  .trivial
  .trivial
 .refine aG.read [] [] [] ?_;have Z:∀ q:Env,ai 51 J q->Hl.one a (Obj.cells (List.map (CV.ev q) (ar 21 ([Ck.ptr,Ck.int IntKind.i64,Ck.int IntKind.i64,Ck.int IntKind.u64,Ck.int IntKind.u64]++List.replicate 16 (Ck.int IntKind.u8)++[Ck.sl,Ck.bool]))).toArray 145 (0,0))=Hl.one a (jQ dp sl L):=by
   intro q g;have h:Hl.one (q.i 0).toNat (Obj.cells (List.map (CV.ev q) (ar 21 ([Ck.ptr,Ck.int IntKind.i64,Ck.int IntKind.i64,Ck.int IntKind.u64,Ck.int IntKind.u64]++List.replicate 16 (Ck.int IntKind.u8)++[Ck.sl,Ck.bool]))).toArray 145 (0,0))=Hl.one a (jQ dp sl L):=eB q g;rw[g.i 0,v0,aar]at h;exact h
  have eN:∀ q:Env,ai 51 J q->(ar 5 (List.replicate 16 (Ck.int IntKind.u8))).map (CV.ev q)=aM nt:=fun q g=>GR 16 5 nt Y fun k hk=>by rw[g.i _ ah];exact rn k hk
  have i25:∀ q:Env,ai 51 J q->q.i 25=L.serial:=fun q g=>lk q g 4 ah;have hIn:lr (Hl.one a (jQ dp sl L)) a dp sl L:=⟨hok,Hl.aU _ _⟩;have A:gh (Hl.one a (jQ dp sl L)) (.pointer (some ⟨a,0,none⟩)) dp sl L:=⟨a,rfl,hIn⟩;have n:tq sl bs.length:=bZ.tq hO;obtain⟨m0,m1⟩:=hok.most;have out:∀ (q:Env) (t:Mem) (e:Int),ai 51 J q->aT D L bs b nt=⟨e,D,L,bs⟩ ->
   postOf qX [.pointer (some ⟨a,0,none⟩),u,.agg (aM nt).toArray] [H,HD] [R] q (.bj 0 (ar 21 ([Ck.ptr,Ck.int IntKind.i64,Ck.int IntKind.i64,Ck.int IntKind.u64,Ck.int IntKind.u64]++List.replicate 16 (Ck.int IntKind.u8)++[Ck.sl,Ck.bool])) 145::.hp 48 [] [.var 21] []::.hp 49 [] [.var 43] []::t) (.sv (.one (.int .i64 (.lit e)))):=by
   intro q t e hq hr _;refine⟨[[0,2],[1]],[],rfl,rfl,⟨(bf fun _=>e),rfl,zzT,zzT⟩,_,u,b,nt,H,HD,R,dp,L,bs,D,_,_,rfl,rfl,rfl,K,W,hB,rfl,?_,?_,?_⟩
   .show aD (di [q.h 48]) _ _;rw[aN,hr,hq.h 48,w];exact W
   .rw[hr];refine⟨a,sl,HB,rfl,hok,hO,v,?_⟩;have M:q.h 49=HB:=by rw[hq.h 49,o]
    rw[<-M];exact aa1 (fun z=>di [z,q.h 49]) (eB q hq)
   .rw[hr];rfl
  simp only[go_sem,Nat.reduceAdd,xN,ar0,ar1,ar2,ac1];intro q1 T _;rw[T.b 47,aq,i25 q1 T,T.i 3,v3,T.i 0,v0,ju,aar,Z q1 T];refine⟨fun ho=>out q1 _ 5 T ?_,fun ho=>⟨fun hs=>out q1 _ 14 T ?_,fun hs=>⟨ah,⟨_,_,dp,sl,L,bs.length,rfl,rfl,A,n,X⟩,fun q2 g2 ⟨F,⟨p',R',dp',sl',L',n',hx,hR,B,C,aa⟩,_,_⟩=>?_⟩⟩⟩
  .unfold aT;rw[aaR ho]
  .unfold aT;rw[aaG ho,aaR hs]
  have hx:Value.pointer (some ⟨a,0,none⟩)=p':=by simpa using hx
  subst hx;have hR:Hl.one a (jQ dp sl L)=R':=by simpa using hR
  subst hR;obtain⟨rfl,rfl,rfl⟩:=A.uniq B;have e:=C.uniq n;subst e;have aa:q2.i 52=L.most-bs.length:=by simpa using aa
  have G2:ai 51 J q2:=T.tr g2;rw[aa,G2.i 3,v3];refine⟨fun N=>out q2 _ 4 G2 ?_,fun N=>?_⟩
  .unfold aT;rw[aaG ho,aaG hs,aaR N]
  rw[G2.i 0,v0,ju,aar,Z q2 G2,G2.h 49,o];refine⟨⟨_,_,_,dp,sl,L,bs,rfl,rfl,A,hO.rd,X⟩,fun q3 g3 ⟨F,⟨p',R1,R2,dp',sl',L',bs',hx,hR,B,aQ,G⟩,hF,aR⟩=>?_⟩;have hx:Value.pointer (some ⟨a,0,none⟩)=p':=by simpa using hx
  subst hx;have hR:Hl.one a (jQ dp sl L)=R1/\HB=R2:=by simpa using hR
  obtain⟨rfl,rfl⟩:=hR;obtain⟨rfl,rfl,rfl⟩:=A.uniq B;have e:=aQ.uniq hO.rd;subst e;have hF:=hF trivial;subst hF;obtain⟨⟨aS,ab,ad,bo⟩,_⟩:=aR;have ab:0<=q3.i 54:=ab;have ad:0<=q3.i 55:=ad;obtain⟨ae,_⟩:=G.rd.at aS ab ad;have G3:ai 51 J q3:=G2.tr g3;rw[G3.i 1,v1,G3.i 2,v2,G3.i 3,v3,G3.h 50,ao,ae];rw[ae]at G;have U:aP (q3.h 53) 5 1 (.slice (az (q3.i 53) (q3.i 54)) ((bs'.length:Int)).toNat (q3.i 56).toNat) ((bs'.length:Int)).toNat (aM bs'):=by
   unfold bZ at G;rw[aar]at G ⊢;exact G
  have bb:(bs'.length:Int)+b.length<=1048576:=ah;refine⟨⟨⟨_,U⟩,ah,?_,by unfold maxLen;omega,ah⟩,fun I g4 ⟨a1,a2,a3,_⟩=>?_⟩
  .rcases d with hb | ⟨av,d⟩
   .subst hb;exact Or.inr rfl
   .refine Or.inl ⟨av,hy,ah,fun j O=>?_⟩;have O:j<b.length:=ah;exact⟨_,d j _ (aax O),rfl⟩
  have aw:cn R x.toNat y.toNat ((b.length:Int)).toNat=aM b:=by
   rw[aar];unfold cn;apply aa2;intro j;rw[aaL,fT];rcases abn j b.length with O | O
   .rcases d with hb | ⟨av,d⟩
    .subst hb;cases O
    .rw[aaZ O,abe,d j _ (aax O),aax O];rfl
   .rw[aaK (by simpa using O),aaK ah];rfl
  have af:=a3 _ U;rw[aw]at af;have G4:ai 51 J I:=G3.tr g4;have aV:I.i 55=bs'.length:=by rw[g4.i 55,ae]
  have ax:bZ (I.h 57) 5 (.slice (az (I.i 57) 0) ((bs'.length:Int)+b.length).toNat (I.i 58).toNat) (bs'++b):=by
   unfold bZ;rw[ia,aay];rw[show((bs'.length:Int)+b.length).toNat=bs'.length+b.length by omega];rw[aar,aar]at af;exact af
  rw[G4.i 0,v0,ju,aar,Z I G4,eN I G4,aV,G4.i 3,v3,G4.h 48,w];refine⟨⟨_,a,_,bs'++b,nt,_,_,HD,dp,sl,L,bs'.length,D,rfl,rfl,rfl,hIn,n,X,ax,by rw[aay];omega,Y,W,aK,ah⟩,fun l g5 ⟨F,⟨p',a',u',bc,nt',H1,HA,aW,dp',sl',L',n',D',H',ay,aB,hx,hH,hp,B,C,aX,aY,ag,aC,P,aE,aH⟩,_,_⟩=>?_⟩;have hx:Value.pointer (some ⟨a,0,none⟩)=p'/\Value.slice (az (I.i 57) 0) ((bs'.length:Int)+b.length).toNat (I.i 58).toNat=u'/\aM nt=aM nt'/\bh I E.tt=true:=by simpa using hx
  obtain⟨aZ,a6,aj,_⟩:=hx;have aj:=ly aj;subst aZ a6 aj;have hH:Hl.one a (jQ dp sl L)=H1/\I.h 57=HA/\HD=aW:=by simpa using hH
  obtain⟨a7,a8,ba⟩:=hH;subst a7 a8 ba;have hp:a=a':=by simpa using hp
  subst hp;obtain⟨rfl,rfl,rfl⟩:=gh.uniq A ⟨a,rfl,B⟩;have e:=C.uniq n;subst e;have e:=aX.rd.uniq ax.rd;subst e;have e:=aY.uniq W;subst e;have ag:l.h 59=H'/\l.h 60=ay/\l.h 61=aB:=by
   have h1:[l.h 59,l.h 60,l.h 61]=[H',ay,aB]:=ag;simpa using h1
  obtain⟨ak,bp,aI⟩:=ag;have P:l.i 59=(bN D' L (bs'++b) nt bs'.length).1:=by simpa using P
  have G5:ai 51 J l:=G4.tr g5;have M:l.h 49=HB:=by rw[G5.h 49,o]
  intro hd;by_cases hz:(bN D' L (bs'++b) nt bs'.length).1=0
  .have hr:aT D' L bs' b nt=⟨0,(bN D' L (bs'++b) nt bs'.length).2,nC L (bs'++b) nt,bs'++b⟩:=by
    unfold aT;rw[aaG ho,aaG hs,aaG N,aaR hz]
   refine⟨[[0],[1]],[],rfl,rfl,⟨(bf fun _=>l.i 59),rfl,zzT,zzT⟩,_,u,b,nt,H,HD,R,dp,L,bs',D',_,_,rfl,rfl,rfl,K,W,hB,rfl,?_,?_,?_⟩
   .show aD (di [l.h 61]) _ _;rw[aN,hr,aI];exact aC
   .show fy (di [l.h 59]) _ _ _ _;rw[aN,hr,ak];exact aE hz
   .show Value.int .i64 (l.i 59)=_;rw[hr,P,hz]
  .have h5:=(CR D' L (bs'++b) nt bs'.length).resolve_left hz;have hr:aT D' L bs' b nt=⟨5,(bN D' L (bs'++b) nt bs'.length).2,wZ L,bs'⟩:=by
    unfold aT;rw[aaG ho,aaG hs,aaG N,aaG hz]
   have V:(l.h 59).bV (l.h 49):=hd 0 2 _ _ aA rfl rfl rfl;have aJ:=aH hz;rw[ak,aJ,M]at V;refine⟨[[0,2],[1]],[],rfl,rfl,⟨(bf fun _=>l.i 59),rfl,zzT,zzT⟩,_,u,b,nt,H,HD,R,dp,L,bs',D',_,_,rfl,rfl,rfl,K,W,hB,rfl,?_,?_,?_⟩
   .show aD (di [l.h 61]) _ _;rw[aN,hr,aI];exact aC
   .rw[hr];refine⟨a,sl,HB,rfl,⟨hok.frm,hok.most,hok.note⟩,hO,V,?_⟩;show di [l.h 59,l.h 49]=_;rw[ak,aJ,M]
   .show Value.int .i64 (l.i 59)=_;rw[hr,P,h5]
structure ni (D:DM):Prop where
 ok:D.ok
 bO:D.bO= -1
 gone:D.gone=false
def rF (h:ni D) (hi:D.has i=true) (hb:bs.length=64):ni (kW D i bs):=⟨yh h.ok hi hb,by show(if 0<D.bO then D.bO-1 else D.bO)= -1;rw[h.bO];rfl,rfl⟩
def nh (h:ni D) (hi:D.has i=true) (hb:bs.length=64):cj D i bs=(0,kW D i bs):=by
 unfold cj;rw[aaG (by rw[hi,hb];simp),aaG (by rw[h.gone];simp),aaG (by rw[h.bO];decide)]
def jY (h:ni D):(bT D).1=0/\ni (bT D).2/\(bT D).2.now=D.now/\(bT D).2.n=D.n:=by
 have e:bT D=(0,⟨D.n,D.now,[],if 0<D.bO then D.bO-1 else D.bO,D.gone⟩):=by
  unfold bT;rw[aaG (by rw[h.gone];simp),aaG (by rw[h.bO];decide)]
 rw[e];refine⟨rfl,⟨⟨h.ok.now,h.ok.n,?_,?_,fun p hp=>by cases hp⟩,?_,h.gone⟩,rfl,rfl⟩
 .show -1<=(if 0<D.bO then D.bO-1 else D.bO);rw[h.bO];decide
 .show(if 0<D.bO then D.bO-1 else D.bO)<=_;rw[h.bO];decide
 .show(if 0<D.bO then D.bO-1 else D.bO)= -1;rw[h.bO];rfl
def mo (h:D.ok) (hi:D.has i=true) (hb:bs.length=64) (j:Nat):(kW D i bs).now[j]?=if 64*i.toNat<=j/\j<64*i.toNat+64 then bs[j-64*i.toNat]? else D.now[j]?:=by
 have hh:0<=i/\i<D.n:=by unfold DM.has at hi;simpa using hi
 show(br D.now (64*i.toNat) bs)[j]?=_;rw[Sx.jW (by rw[h.now,hb];omega),hb]
def fX (all:List Int) (i:Nat):(jL all i).length=64:=by simp [jL]
def AF (all:List Int) (i j:Nat) (h:j<64) (a:64*i+j<all.length):(jL all i)[j]?=all[64*i+j]?:=by
 unfold jL;rw[aaL,aaZ h,abe,aax a,abL]
def wE (frm:Nat) (all:List Int):∀ (f i:Nat) (D:DM),ni D->all.length+1<=f+i->all.length+64*(frm+2)<=64*D.n ->
 (bY frm all f i D).1=0/\ni (bY frm all f i D).2/\(bY frm all f i D).2.n=D.n/\(∀ j,j<64*(frm+2+i)->(bY frm all f i D).2.now[j]?=D.now[j]?)/\(∀ t,64*i<=t->t<all.length->(bY frm all f i D).2.now[64*(frm+2)+t]?=all[t]?):=by
 intro f
 induction f with
 | zero =>
  intro i D h h1 h2;obtain⟨a,b,c,d⟩:=jY h;show(bT D).1=0/\_;refine⟨a,b,d,fun j _=>?_,fun t m k=>ah⟩;show(bT D).2.now[j]?=_;rw[c]
 | succ f ih =>
  intro i D h h1 h2;have o:(frm:Int)+2+i=((frm+2+i:Nat):Int):=ah;by_cases l:64*i<all.length
  .have hi:D.has ((frm:Int)+2+i)=true:=by unfold DM.has;simp only[aaB];omega
   have hw:=nh h hi (fX all i);have e:bY frm all (f+1) i D=bY frm all f (i+1) (kW D ((frm:Int)+2+i) (jL all i)):=by
    show(if 64*i<all.length then _ else _)=_;rw[aaR l,hw];simp
   rw[e];have hS:=rF h hi (fX all i);obtain⟨a,b,c,d,g⟩:=ih (i+1) _ hS ah h2;have p:=mo h.ok hi (fX all i);refine⟨a,b,c,fun j r=>?_,fun t m k=>?_⟩
   .rw[d j ah,p,o,aar,aaG ah]
   .rcases abn t (64*(i+1))with q | q
    .rw[d _ ah,p,o,aar,aaR ah,AF all i _ ah ah]
     congr 1;omega
    .exact g t q k
  .have e:bY frm all (f+1) i D=bT D:=by
    show(if 64*i<all.length then _ else _)=_;rw[aaG l]
   rw[e];obtain⟨a,b,c,d⟩:=jY h;exact⟨a,b,d,fun j _=>by rw[c],fun t m k=>ah⟩
structure Holds (D:DM) (frm:Nat) (n:Int) (k:Nat) (all nt:List Int):Prop where
 sure:ni D
 rng:3<=n/\(frm:Int)+n<=D.n
 len:(all.length:Int)<=64*(n-2)
 note:nt.length=16
 cur:aX D frm (64*(n-2)) ((k%2:Nat):Int)=((k:Int)::(all.length:Int)::nt,0)
 oth:(aX D frm (64*(n-2)) (((k+1)%2:Nat):Int)).1.getD 0 0<k\/(k=0/\(aX D frm (64*(n-2)) 1).1.getD 0 0=0)
 bytes:∀ t z,all[t]?=some z->D.now[64*(frm+2)+t]?=some z
def Holds.dg (h:Holds D frm n k all nt):dg D frm n=(k:Int)::(all.length:Int)::nt:=by
 have hc:=h.cur;have ho:=h.oth;unfold Go.Proofs.YtomdimlnggpgbaaGreatDoor.D.dg;rcases ads k with e | e
 .have a:(k+1)%2=1:=ah;rw[e]at hc;rw[a]at ho;have hc:aX D frm (64*(n-2)) 0=_:=hc;rw[hc];show(if(k:Int)<_ then _ else _)=_;rw[aaG];rcases ho with ho | ⟨hk,ho⟩
  .have ho:(aX D frm (64*(n-2)) 1).1.getD 0 0<k:=ho;omega
  .rw[ho];omega
 .have a:(k+1)%2=0:=ah;rw[e]at hc;rw[a]at ho;have hc:aX D frm (64*(n-2)) 1=_:=hc;rw[hc];show(if _<(k:Int)then _ else _)=_;rw[aaR];rcases ho with ho | ⟨hk,ho⟩
  .exact ho
  .omega
def Holds.bc (h:Holds D frm n k all nt):bc D frm n=⟨frm,64*(n-2),k,all.length,nt,false⟩:=by
 unfold Go.Proofs.YtomdimlnggpgbaaGreatDoor.D.bc zu;rw[h.dg];rfl
def Holds.bk (h:Holds D frm n k all nt):bk D frm n=all:=by
 obtain⟨h1,h2⟩:=h.rng;have hl:=h.len;unfold Go.Proofs.YtomdimlnggpgbaaGreatDoor.D.bk j8;rw[h.bc];show(D.now.drop (64*((frm:Int)+2).toNat)).take ((all.length:Int)).toNat=all;rw[show((frm:Int)+2).toNat=frm+2 by omega,aar];apply aa2;intro j;rw[abf];split
 .rename_i a;rw[aa9,h.bytes j _ (aax a),aax a]
 .rw[aaK ah]
def c9 (h:ni D) {frm:Int} (hi:D.has (frm+place)=true):aX D frm most place=if zq (D.aS (frm+place)) most place then(wI ((D.aS (frm+place)).take 32),0)else(iF,0):=by
 unfold aX;rw[Gh hi h.gone];simp
def zL (h:ni D) (h':ni D') (hn:D'.n=D.n) {frm:Int} (hi:D.has (frm+place)=true) (hs:D'.aS (frm+place)=D.aS (frm+place)):aX D' frm most place=aX D frm most place:=by
 have a:D'.has (frm+place)=true:=by unfold DM.has at hi ⊢;rw[hn];exact hi
 rw[c9 h hi,c9 h' a,hs]
def iq (h:∀ j,64*i.toNat<=j->j<64*i.toNat+64->D'.now[j]?=D.now[j]?):D'.aS i=D.aS i:=by
 unfold DM.aS;apply aa2;intro j;rw[abf,abf];split
 .rw[aa9,aa9];exact h _ ah ah
 .rfl
def hZ (x:Int):(wo x).length=8:=rfl
def re {a b:Int} (c:0<=a/\a<18446744073709551616) (hb:0<=b/\b<18446744073709551616) (hn:nt.length=16) :
 (aZ (a::b::nt)).length=32/\wI (aZ (a::b::nt))=a::b::nt/\dZ ((aZ (a::b::nt)).take 8)=a/\dZ (((aZ (a::b::nt)).drop 8).take 8)=b:=by
 have e:aZ (a::b::nt)=wo a++wo b++nt:=by
  unfold aZ;show wo a++wo b++nt.take 16=_;rw[acd ah]
 have h1:((wo a++wo b++nt).take 8)=wo a:=by rw[aaV,acD (by rw[hZ];omega),acd (by rw[hZ];omega)]
 have h2:((wo a++wo b++nt).drop 8)=wo b++nt:=by rw[aaV,acy (hZ a)]
 have d:(((wo a++wo b++nt).drop 8).take 8)=wo b:=by rw[h2,acD (by rw[hZ];omega),acd (by rw[hZ];omega)]
 have f:((wo a++wo b++nt).drop 16).take 16=nt:=by
  rw[acy (by rw[aay,hZ,hZ]),acd ah]
 rw[e];refine⟨by simp [hZ,hn],?_,?_,?_⟩
 .unfold wI;rw[h1,d,f,xS c.1 c.2,xS hb.1 hb.2];rfl
 .rw[h1,xS c.1 c.2]
 .rw[d,xS hb.1 hb.2]
def Holds.append (h:Holds D frm n k all nt) (hb:(all.length:Int)+b.length<=64*(n-2)) (hk:k<1000000) (v:nt'.length=16) :
 (aT D ⟨frm,64*(n-2),k,all.length,nt,false⟩ all b nt').e=0/\Holds (aT D ⟨frm,64*(n-2),k,all.length,nt,false⟩ all b nt').D frm n (k+1) (all++b) nt' /\
 (aT D ⟨frm,64*(n-2),k,all.length,nt,false⟩ all b nt').bs=all++b/\(aT D ⟨frm,64*(n-2),k,all.length,nt,false⟩ all b nt').L=⟨frm,64*(n-2),(k+1:Nat),(all++b).length,nt',false⟩:=by
 obtain⟨r1,r2⟩:=h.rng;have V:=h.sure.ok.n;have B:(all++b).length=all.length+b.length:=aay;obtain⟨L,w⟩:∃ L:LM,L=⟨frm,64*(n-2),k,all.length,nt,false⟩:=⟨_,rfl⟩;rw[<-w];have f1:L.frm=frm:=by rw[w]
 have f2:L.most=64*(n-2):=by rw[w]
 have f3:L.serial=k:=by rw[w]
 have f4:L.over=false:=by rw[w]
 obtain⟨F,R⟩:∃ F,F=(gr D L.frm (all++b) all.length).2:=⟨_,rfl⟩;obtain⟨S,x,a3,a4,a5⟩:=wE frm (all++b) ((all++b).length+1) (all.length/64) D h.sure ah ah;have C:gr D L.frm (all++b) all.length=bY frm (all++b) ((all++b).length+1) (all.length/64) D:=by
  unfold gr;rw[f1,show(((all.length:Nat):Int)/64).toNat=all.length/64 by omega]
 rw[<-C]at S x a3 a4 a5;rw[<-R]at x a3 a4 a5;obtain⟨N,hN⟩:∃ N,N=kV L (all++b) nt':=⟨_,rfl⟩;have eN:N=((k+1:Nat):Int)::((all++b).length:Int)::nt':=by
  rw[hN];unfold kV;rw[f3];rfl
 have hp:((k+1:Nat):Int).tmod 2=(((k+1)%2:Nat):Int):=by
  rw[abm ah];omega
 obtain⟨p,o⟩:∃ p,p=(k+1)%2:=⟨_,rfl⟩;have g:p<2:=ah;obtain⟨b1,b2,T,U⟩:=re (a:=((k+1:Nat):Int)) (b:=((all++b).length:Int)) (nt:=nt') ⟨ah,ah⟩ ⟨ah,ah⟩ v;rw[<-eN]at b1 b2 T U;have r:(aZ N++aZ N).length=64:=by rw[aay,b1]
 have E:∀ q:Nat,(frm:Int)+((q:Nat):Int)=((frm+q:Nat):Int):=fun q=>ah;have d:∀ q:Nat,q<2->F.has ((frm:Int)+(q:Int))=true:=fun q H=>by unfold DM.has;rw[a3];simp only[aaB];omega
 have l:∀ q:Nat,q<2->D.has ((frm:Int)+(q:Int))=true:=fun q H=>by unfold DM.has;simp only[aaB];omega
 have hw:=nh x (d p g) r;obtain⟨G,A⟩:∃ G,G=kW F ((frm:Int)+(p:Int)) (aZ N++aZ N):=⟨_,rfl⟩;rw[<-A]at hw;have I:ni G:=by rw[A];exact rF x (d p g) r
 have s:G.n=D.n:=by rw[A,<-a3];rfl
 have i:=mo x.ok (d p g) r;rw[<-A,E p,aar]at i;obtain⟨s1,s2,J,K⟩:=jY I;have M:db F L.frm N=bT G:=by
  unfold db;have W:N.getD 0 0=((k+1:Nat):Int):=by rw[eN];rfl
  rw[f1,W,hp,<-o,hw];simp
 have y:bN D L (all++b) nt' all.length=(0,(bT G).2):=by
  unfold bN;rw[aaG (by rw[S];simp),<-R,<-hN,M,aaG (by rw[s1];simp)]
 have happ:aT D L all b nt'=⟨0,(bT G).2,nC L (all++b) nt',all++b⟩:=by
  unfold aT;rw[f4,f3,f2,aaG aF,aaG ah,aaG ah,y];rfl
 rw[happ];refine⟨rfl,⟨s2,⟨r1,by show(frm:Int)+n<=((bT G).2.n:Int);rw[K,s];exact r2⟩,by rw[B];omega,v,?_,Or.inl ?_,?_⟩,rfl,by unfold nC;rw[f1,f2,f3,f4];rfl⟩
 .rw[<-o];have hi:(bT G).2.has ((frm:Int)+(p:Int))=true:=by unfold DM.has;rw[K,s];exact l p g
  have f:(bT G).2.aS ((frm:Int)+(p:Int))=aZ N++aZ N:=by
   unfold DM.aS;rw[J,E p,aar];apply aa2;intro j;rw[abf];split
   .rename_i Y;rw[aa9,i,aaR ah]
    congr 1;omega
   .rw[aaK ah]
  show aX (bT G).2 frm (64*(n-2)) (p:Int)=_;rw[c9 s2 hi,f];have u:(aZ N++aZ N).take 32=aZ N:=by rw[aco b1]
  have O:(aZ N++aZ N).drop 32=aZ N:=by rw[acy b1]
  rw[aaR,u,b2,eN];unfold zq;rw[u,O,T,U];exact⟨rfl,by rw[hp,o],ah⟩
 .have H:(k+1+1)%2=k%2:=ah;rw[H];obtain⟨c,hc⟩:∃ c,c=k%2:=⟨_,rfl⟩;have m:=h.cur;rw[<-hc]at m ⊢;have P:c<2:=ah;have X:c≠p:=ah;have f:(bT G).2.aS ((frm:Int)+(c:Int))=D.aS ((frm:Int)+(c:Int)):=by
   refine iq fun j h1 h2=>?_;rw[E c,aar]at h1 h2;rw[J,i,aaG ah];exact a4 j ah
  rw[zL h.sure s2 (by rw[K,s]) (l c P) f,m];show(k:Int)<((k+1:Nat):Int);omega
 .intro t z u;have Q:=(aaH.1 u).1;show(bT G).2.now[64*(frm+2)+t]?=some z;rw[J,i,aaG ah];rcases abn t (64*(all.length/64))with h1 | h1
  .rw[a4 _ ah];refine h.bytes t z ?_;rw[aa0 ah]at u;exact u
  .rw[a5 t h1 Q];exact u
def BQ (n:Int):ni (eJ n):=by
 refine⟨⟨?_,?_,?_,?_,fun p hp=>by cases hp⟩,rfl,rfl⟩
 .show(List.replicate (64*ga n) (0:Int)).length=64*ga n;rw[aby]
 .show ga n<=16384;unfold ga;omega
 .exact aaM (-1)
 .show(-1:Int)<=_;omega
def ik {m:Int} (hm:0<=m/\m<=16384) (hn:3<=n) (hr:(frm:Int)+n<=m):Holds (eJ m) frm n 0 [] (List.replicate 16 0):=by
 have hs:ga m=m.toNat:=by unfold ga;omega
 have a:(eJ m).n=m.toNat:=hs;have hS:=BQ m;have b:∀ p:Nat,p<2->(eJ m).aS ((frm:Int)+(p:Int))=List.replicate 64 0:=by
  intro p hp;unfold DM.aS;show((List.replicate (64*ga m) (0:Int)).drop _).take 64=_;rw[adQ,adR,hs]
  congr 1;omega
 have d:dZ (List.replicate 8 0)=0:=by decide
 have c:∀ p:Nat,p<2->aX (eJ m) frm (64*(n-2)) (p:Int)=(iF,0):=by
  intro p hp;have hi:(eJ m).has ((frm:Int)+(p:Int))=true:=by unfold DM.has;rw[a];simp only[aaB];omega
  rw[c9 hS hi,b p hp];split
  .rfl
  .rfl
 refine⟨hS,⟨hn,by rw[a];omega⟩,by show(0:Int)<=_;omega,rfl,?_,Or.inr ⟨rfl,?_⟩,fun t z h=>by cases h⟩
 .exact c 0 ah
 .have:=c 1 ah;have this:aX (eJ m) frm (64*(n-2)) 1=(iF,0):=this;rw[this];rfl
def Ji (e:(bT D).1=0):(bT D).2.loose=[]:=by
 unfold bT at e ⊢;split at e
 .cases e
 .split at e
  .cases e
  .rename_i h1 h2;rw[aaG h1,aaG h2]
def Jn {frm:Int} (e:(db D frm h).1=0):(db D frm h).2.loose=[]:=by
 unfold db at e ⊢;split at e
 .rename_i h1;exact absurd e h1
 .rename_i h1;rw[aaG h1];exact Ji e
def CS {n:Nat} (e:(bN D L all nt n).1=0):(bN D L all nt n).2.loose=[]:=by
 unfold bN at e ⊢;split at e
 .cases e
 .rename_i h1;rw[aaG h1];split at e
  .cases e
  .rename_i h2;rw[aaG h2];exact Jn (by simpa using h2)
def CO (e:(aT D L bs b nt).e=0):(aT D L bs b nt).D.loose=[]:=by
 unfold aT at e ⊢;split at e
 .cases e
 .rename_i h1;rw[aaG h1];split at e
  .cases e
  .rename_i h2;rw[aaG h2];split at e
   .cases e
   .rename_i c;rw[aaG c];split at e
    .rename_i a;rw[aaR a];exact CS a
    .cases e
end Go.Proofs.YtomdimlnggpgbaaGreatDoor.D
namespace Go.Proofs.YtomdimlnggpgbaaGreatDoor
open Go Go.RowKit Go.Extern.Stop Go.Stop Go.Extern
def Fu (v:Value) (w:World):(Extern.ReflectliteType.typeOf #[.iface 299 v]).run Tryz.prog w=.ok (.iface 243 (.agg #[.pointer (some ⟨7,299,none⟩)])) w:=by kernel_rfl
def Hy:Array Value->Sem Value:=Extern.ReflectliteType.method fun t=>do Extern.Rtype.noPackHeld "Comparable" t;pure (.bool (<-typeInfo t).comparable)
def uj (w:World):(Hy #[.agg #[.pointer (some ⟨7,299,none⟩)]]).run Tryz.prog w=.ok (.bool true) w:=by kernel_rfl
def ml (v:Value) (w:World):(Go.method 431 243 v "Comparable").run Tryz.prog w=.ok (238,v) w:=by kernel_rfl
def uo (v:Value) (w:World):(Go.method 431 156 v "Unwrap").run Tryz.prog w=.ok (229,v) w:=by kernel_rfl
def Ow:(Tryz.prog.info? 299).map (·.comparable)=some true:=by kernel_rfl
def Oy:(Tryz.prog.info? 319).map (·.size)=some 1:=by kernel_rfl
def S6 (v:Value) (a:TypeId) (w:World):(Instr.typeAssert (.iface 299 v) a 245 true).run Tryz.prog w=.ok (.tuple #[.nilIface,.bool false]) w:=run_typeAssert_lacksB Tryz.underlying245 (by kernel_rfl) (by kernel_rfl) v a w
def BS (v:Value) (a:TypeId) (w:World):(Instr.typeAssert (.iface 299 v) a 248 true).run Tryz.prog w=.ok (.tuple #[.nilIface,.bool false]) w:=run_typeAssert_lacksB Tryz.underlying248 (by kernel_rfl) (by kernel_rfl) v a w
def zX (v:Value) (a:TypeId) (w:World):(Instr.typeAssert (.iface 299 v) a 250 true).run Tryz.prog w=.ok (.tuple #[.nilIface,.bool false]) w:=run_typeAssert_lacksB Tryz.underlying250 (by kernel_rfl) (by kernel_rfl) v a w
def S7 (v:Value) (a:TypeId) (w:World):(Instr.typeAssert (.iface 156 v) a 245 true).run Tryz.prog w=.ok (.tuple #[.nilIface,.bool false]) w:=run_typeAssert_lacksB Tryz.underlying245 (by kernel_rfl) (by kernel_rfl) v a w
def zt (v:Value) (a:TypeId) (w:World):(Instr.typeAssert (.iface 156 v) a 248 true).run Tryz.prog w=.ok (.tuple #[.iface 156 v,.bool true]) w:=run_typeAssert_hasB Tryz.underlying248 (by kernel_rfl) v a w
def Ur (b:Addr) (w:World) :
 Calls Tryz.prog 87 #[.nilIface,.iface 299 (.pointer (some b))] w fun e w'=>e=.returned (.bool false)/\w'=w:=by
 have hn:=run_eql_iface_nil_left (P:=Tryz.prog) w 299 (.pointer (some b)) Tryz.underlying107
 go_enter Tryz.func87,Tryz.ntmps87
 go_wp2
 go_ret
 exact⟨rfl,rfl⟩
set_option maxRecDepth 20000 in
def Ds (s:ByteArray) (b:Addr) (w:World) :
 Calls Tryz.prog 87 #[.iface 156 (.agg #[.string s,.iface 299 (.pointer (some b))]),.iface 299 (.pointer (some b))] w fun e w'=>e=.returned (.bool true)/\Below w.heap.size w w':=by
 obtain⟨i,hi,a⟩:=aaI.1 Ow;obtain⟨j,c,d⟩:=aaI.1 Oy;have h:=@run_callFunc_extern Tryz.prog 129 _ Extern.ReflectliteType.typeOf Tryz.func129 (by kernel_rfl) (by kernel_rfl) (by kernel_rfl) (by kernel_rfl);have f:=@run_callFunc_extern Tryz.prog 238 _ Hy Tryz.func238 (by kernel_rfl) (by kernel_rfl) (by kernel_rfl) (by kernel_rfl);have k:=Fu;have l:=uj;have m:=ml;have n:=uo;have o:=S6;have p:=BS;have q:=zX;have r:=S7;have t:=zt;have heq:=fun w=>run_eql_iface_ptr_same (P:=Tryz.prog) w b Tryz.underlying107 Tryz.underlying299 hi a c;have g:=run_eql_iface_types (P:=Tryz.prog) 156 299 (.agg #[.string s,.iface 299 (.pointer (some b))]) (.pointer (some b)) Tryz.underlying107 Sx.aA w
 go_enter Tryz.func87,Tryz.ntmps87
 go_wp2
 refine wp_loop_rounds 2 ?_;rw[rounds_succ]
 go_wp2
 rw[rounds_succ]
 go_wp2
 go_ret
 exact⟨rfl,(Below.refl _ _).alloc (aaS _) _⟩
set_option maxRecDepth 20000 in
def Bl (s:ByteArray) (b a:Addr) (k l:Array Value) (m n:TypeId) (w:World) (d:a≠b) (o:w.heap[a.block]?=some (.cells k m (0,0))) (hb:w.heap[b.block]?=some (.cells l n (0,0))) :
 Calls Tryz.prog 87 #[.iface 156 (.agg #[.string s,.iface 299 (.pointer (some a))]),.iface 299 (.pointer (some b))] w fun e w'=>e=.returned (.bool false)/\Below w.heap.size w w':=by
 obtain⟨i,hi,c⟩:=aaI.1 Ow;obtain⟨j,p,f⟩:=aaI.1 Oy;have t:=@run_callFunc_extern Tryz.prog 129 _ Extern.ReflectliteType.typeOf Tryz.func129 (by kernel_rfl) (by kernel_rfl) (by kernel_rfl) (by kernel_rfl);have q:=@run_callFunc_extern Tryz.prog 238 _ Hy Tryz.func238 (by kernel_rfl) (by kernel_rfl) (by kernel_rfl) (by kernel_rfl);have u:=Fu;have v:=uj;have x:=ml;have y:=uo;have z:=S6;have A:=BS;have B:=zX;have C:=S7;have D:=zt;have g:(w.alloc (.cells #[.string s,.iface 299 (.pointer (some a))] 156)).heap[a.block]?=some (.cells k m (0,0)):=(Below.heap_alloc _ _ _ (abg.1 o).1).trans o;have h:(w.alloc (.cells #[.string s,.iface 299 (.pointer (some a))] 156)).heap[b.block]?=some (.cells l n (0,0)):=(Below.heap_alloc _ _ _ (abg.1 hb).1).trans hb;have heq:=run_eql_iface_ptr_other (P:=Tryz.prog) _ Tryz.underlying107 Tryz.underlying299 hi c p (by rw[f];decide) d g h;have r:=run_eql_iface_types (P:=Tryz.prog) 156 299 (.agg #[.string s,.iface 299 (.pointer (some a))]) (.pointer (some b)) Tryz.underlying107 Sx.aA w
 go_enter Tryz.func87,Tryz.ntmps87
 go_wp2
 refine wp_loop_rounds 2 ?_;rw[rounds_succ]
 go_wp2
 rw[rounds_succ]
 go_wp2
 go_ret
 exact⟨rfl,(Below.refl _ _).alloc (aaS _) _⟩
end Go.Proofs.YtomdimlnggpgbaaGreatDoor
