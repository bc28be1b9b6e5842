/- Pull after pull, for all and with bodies, brings every piece laid in a door once, each whole and in its writer's order: a part of the proof. No condition. -/
import Derived.Test.YtbdikjnpbnobcaaGreatDoorChecked
import Derived.LaidEql
import Derived.Stop.Asserts
import Derived.RowKitTokens
import Derived.Test.YtbdikjnpbnobcaaGreatDoorTD
set_option linter.all false
set_option maxHeartbeats 4000000
namespace Go.Proofs.YtbdikjnpbnobcaaGreatDoor.D
open Go Go.Sx
variable {es es':Array MapEntry}{q:Env}{F H R R':Hl}{c i most n place x y:Int}{all b bs bs' h l nt nt':List Int}{mem t:Mem}{a clock clock' da frm j k k1 k2 m s:Nat}{e:TypeId}{dp dp' p sl sl' v:Value}
def XS {a b:List (Int×List Int)} (h:lv a=lv b):a=b:=by
 apply ack;intro j;have:=ach (fun l=>l[j]?) h;simp only[lv,abl]at this;cases c:a[j]? with
 | none =>
  cases hb:b[j]? with
  | none=>rfl
  | some q=>simp [c,hb]at this
 | some p =>
  cases hb:b[j]? with
  | none=>simp [c,hb]at this
  | some q =>
   simp only[c,hb,acr,aa3,acx,Value.agg.injEq]at this;obtain⟨h1,e⟩:=this;have f:=ach Array.toList e;have d:=lQ f;obtain⟨p1,p2⟩:=p;obtain⟨q1,q2⟩:=q;simp only at h1 d;rw[h1,d]
def ni.inj {k:IntKind} {a b:List (Int×Value)} (h1:ni k es a) (c:ni k es b):a=b:=by
 unfold ni at h1 c;rw[h1]at c;apply ack;intro j;have:=ach (fun l=>l[j]?) c;simp only[abl]at this;cases d:a[j]?<;>cases hb:b[j]?<;>simp [d,hb]at this ⊢
 exact Prod.ext this.1 this.2
def ua.at {D:DM} (h:ua H a s m es clock D) :
 H a=some (.cells #[.slice (some ⟨s,0,none⟩) D.n D.n,.map (some m),.int .i64 D.fuse,.bool D.gone] 93 (0,0))/\H s=some (.cells (aS D.now).toArray 277 (0,0))/\H m=some (.map es clock):=by
 obtain⟨b,c,d⟩:=Em (A:=kj a s m D.n D.fuse D.gone) (B:=nX s D.now) (C:=Hl.one m (.map es clock)) (Hl.ji h.nas) (Hl.ji h.nam) (Hl.ji h.nsm);rw[h.hl];exact⟨b _ _ (Hl.aK _ _),c _ _ (Hl.aK _ _),d _ _ (Hl.aK _ _)⟩
def aE.uniq {D D':DM} (h:aE H v D) (h':aE H v D'):D=D':=by
 obtain⟨a,s,m,es,clock,rfl,h⟩:=h;obtain⟨a',o,m',es',clock',he,h'⟩:=h';simp only[Value.pointer.injEq,aa3,Addr.mk.injEq,abw]at he;subst he;obtain⟨x1,k,l⟩:=h.at;obtain⟨c,d,e⟩:=h'.at;rw[x1]at c;simp only[aa3,Obj.cells.injEq,acp,aae,Value.slice.injEq,Addr.mk.injEq,Value.map.injEq,Value.int.injEq,Value.bool.injEq,abw,acu]at c;obtain⟨⟨rfl,hn,_⟩,rfl,hf,hg⟩:=c;rw[k]at d;rw[l]at e;simp only[aa3,Obj.cells.injEq,ab1,abw]at d;simp only[aa3,Obj.map.injEq]at e;obtain⟨rfl,rfl⟩:=e;have e1:=lQ (ach Array.toList d);have i:=XS (ni.inj h.map h'.map);obtain⟨n,now,loose,fuse,gone⟩:=D;obtain⟨n',j,b,f,g⟩:=D';simp only at hn hf hg e1 i;subst hn hf hg e1 i;rfl
def KW {D:DM} (hok:D.ok) (hm:ni .i64 es (lv D.loose)) (b:MapKept.Stamped es clock) (h1:a≠s) (c:a≠m) (d:s≠m)
 (e1:rO q mem 0=kj a s m D.n D.fuse D.gone) (e:rO q mem 1=nX s D.now) (f:rO q mem 2=Hl.one m (.map es clock)):ua (uY q mem [0,1,2]) a s m es clock D :=
 ⟨hok,hm,b,h1,c,d,by show bY [rO q mem 0,rO q mem 1,rO q mem 2]=_;rw[e1,e,f]⟩
def kC (a:Nat):Value.pointer (au (a:Int) 0)=.pointer (some ⟨a,0,none⟩):=by rw[av ah];rfl
def fe (f:FuncId) (num:DM->Int):Sx.Spec where
 fn:=f
 own:=[.arg 0]
 rd:=[]
 res:=[.one (.int .i64)]
 pre:=fun xs Hs Rs=>∃ p H D,xs=[p]/\Hs=[H]/\aE H p D
 post:=fun xs Hs Rs v Hs' F=>∃ p H D H',xs=[p]/\Hs=[H]/\aE H p D/\Hs'=[H']/\aE H' p D/\v=.int .i64 (num D)
def mX:=fe 71 fun D=>D.n
def Sk:aD Tryz.prog [] mX.fn where
 Λ:=aA
 args:=[TP (.var 0) (.lit 0)]
 mem:=yV
 nv:=15
def yG:mX.OK Tryz.prog:=by
 refine Spec.cM (Γ:=[]) (fun _ h=>by cases h) ?_;rintro xs Hs Rs c b ⟨p,H,D,rfl,rfl,a,s,m,es,clock,rfl,h⟩;have e1:Rs=[]:=aa1.1 b;subst e1;refine⟨Sk,qL a s m D [0,0,0,0,0] es clock Hl.none,fun _ _=>True,fun _ _=>0,?_,Ea h _ rfl _,(fun _ h=>nomatch h),?_⟩
 .show [Value.pointer (au (a:Int) 0)]=_;rw[kC]
 .refine aD.read [] [] [] ?_;simp only[go_sem,Nat.reduceAdd];refine⟨by show(0:Int)<=(D.n:Int);omega,fun _=>⟨[[0,1,2]],[],rfl,rfl,⟨(ba fun _=>D.n),rfl,zzT,zzT⟩,_,H,D,_,rfl,rfl,⟨a,s,m,es,clock,rfl,h⟩,rfl,⟨a,s,m,es,clock,rfl,?_⟩,rfl⟩⟩;exact KW h.ok h.map h.st h.nas h.nam h.nsm (PJ rfl rfl rfl rfl rfl rfl rfl rfl) rfl rfl
def DM.has (D:DM) (i:Int):Bool:=decide (0<=i/\i<D.n)
variable {D D':DM}
def DM.bE (D:DM) (i:Int):List Int:=(D.now.drop (64*i.toNat)).take 64
def iq (D:DM) (i:Int):List Int×Int:=if D.has i=false then([],1)else if D.gone then([],5)else(D.bE i,0)
def gD (h:D.ok) (hi:D.has i=true):(D.bE i).length=64:=by
 unfold DM.has at hi;simp only[aas]at hi;unfold DM.bE;rw[ace,acy,h.now];omega
def BV (h:D.ok) (hi:D.has i=true) (a:j<64):(D.bE i)[j]?=D.now[64*i.toNat+j]?:=by
 unfold DM.bE;rw[ad4 a,acR]
def Bt (s y:Nat):(nX s D.now).cell s y=(D.now[y]?).map (Value.int .u8):=by
 unfold nX;rw[Hl.mP,aec,fJ]
def Dh:Sx.Spec where
 fn:=166
 own:=[.arg 0]
 rd:=[]
 res:=[.one .sl,.one (.int .i64)]
 pre:=fun xs Hs Rs=>∃ p i H D,xs=[p,.int .i64 i]/\Hs=[H]/\aE H p D
 post:=fun xs Hs Rs v Hs' F=>∃ p i H D H' u,xs=[p,.int .i64 i]/\Hs=[H]/\aE H p D/\Hs'=[H']/\aE H' p D/\v=.tuple #[u,.int .i64 (iq D i).2]/\c9 F 5 u (iq D i).1
def abB:aD Tryz.prog [] Dh.fn where
 Λ:=aA
 args:=[TP (.var 0) (.lit 0),TI .i64 (.var 1)]
 mem:=yV
 nv:=15
def Ht:Dh.OK Tryz.prog:=by
 refine Spec.cM (Γ:=[]) (fun _ h=>by cases h) ?_;rintro xs Hs Rs u o ⟨p,i,H,D,rfl,rfl,a,s,m,es,clock,rfl,h⟩;have e1:Rs=[]:=aa1.1 o;subst e1;refine⟨abB,qL a s m D [i,0,0,0,0] es clock Hl.none,fun _ _=>True,fun _ _=>0,?_,Ea h _ rfl _,(fun _ h=>nomatch h),?_⟩
 .show [Value.pointer (au (a:Int) 0),Value.int .i64 i]=_;rw[kC]
 .refine aD.read [] [] [] ?_;simp only[go_sem,Nat.reduceAdd];have v1:(qL a s m D [i,0,0,0,0] es clock Hl.none).i 1=i:=rfl;have v6:(qL a s m D [i,0,0,0,0] es clock Hl.none).i 6=s:=rfl;have v7:(qL a s m D [i,0,0,0,0] es clock Hl.none).i 7=0:=rfl;have w:(qL a s m D [i,0,0,0,0] es clock Hl.none).i 8=D.n:=rfl;have x:(qL a s m D [i,0,0,0,0] es clock Hl.none).b 12=D.gone:=rfl;rw[v1,v6,v7,w,x];have cJ:∀ (q:Env) (t:Mem),ai 15 (qL a s m D [i,0,0,0,0] es clock Hl.none) q->aE (uY q (yV++t) [0,1,2]) (.pointer (some ⟨a,0,none⟩)) D:=fun q t g =>
   ⟨a,s,m,es,clock,rfl,KW h.ok h.map h.st h.nas h.nam h.nsm (PJ (f:=.var 11) (g:=.bvar 12) (g.i 0) (g.i 6) (g.i 7) (g.i 8) (g.i 9) (g.i 10) (g.i 11) (g.b 12)) (g.h 13) (g.h 14)⟩
  have bad:∀ e:Int,iq D i=([],e)->postOf Dh [.pointer (some ⟨a,0,none⟩),.int .i64 i] [H] [] (qL a s m D [i,0,0,0,0] es clock Hl.none) yV (.tup [.one (.sl (.lit (-1)) (.lit 0) (.lit 0) (.lit 0)),.one (.int .i64 (.lit e))]):=fun e he _ =>
   ⟨[[0,1,2]],[],rfl,rfl,⟨(ba fun k=>[-1,0,0,0,e].getD k 0),rfl,⟨by show(-1:Int)<= -1;omega,aba _,aba _,aba _⟩,zzT,zzT⟩,_,i,H,D,_,_,rfl,rfl,⟨a,s,m,es,clock,rfl,h⟩,rfl,cJ _ [] (ai.refl _ _),by rw[he];rfl,by rw[he];exact⟨rfl,Or.inl ⟨rfl,rfl⟩⟩⟩
  refine⟨fun h0=>⟨ah,fun hn=>bad 1 ?_,fun hn=>⟨fun hg=>bad 5 ?_,fun hg=>⟨ah,ah,fun q1 c p1=>⟨⟨⟨[],?_⟩,ah,Or.inl ⟨?_,?_,ah,?_⟩,az,az⟩,fun q2 y ⟨a1,a2,a3,_⟩ _=>?_⟩⟩⟩⟩,fun h0=>bad 1 ?_⟩
  .unfold iq DM.has;rw[ab9 (by simp only[acM];omega)]
  .have hh:D.has i=true:=by unfold DM.has;simpa using ⟨h0,hn⟩
   unfold iq;rw[hh,hg];rfl
  .refine⟨rfl,Or.inr ⟨(q1.i 15).toNat,0,#[],by rw[av p1];rfl,Hl.aK _ _,ah,az,rfl,rfl⟩⟩
  .rw[c.i 6,v6];omega
  .rw[c.i 7,c.i 1,v7,v1];omega
  .intro j d;have d:j<64:=d;rw[c.h 13,c.i 6,c.i 7,c.i 1,v6,v7,v1];show ∃ v,(nX s D.now).cell s _=some v/\_;rw[Bt,aad (by rw[h.ok.now];omega)];exact⟨_,rfl,rfl⟩
  .have hh:D.has i=true:=by unfold DM.has;simpa using ⟨h0,hn⟩
   have hr:iq D i=(D.bE i,0):=by
    unfold iq;rw[hh];simp only[Bool.true_eq_false,afw];rw[aa8 hg]
   have r:=gD h.ok hh;have l:bK (q1.h 13) (q1.i 6).toNat (q1.i 7+q1.i 1*64).toNat (Int.toNat 64)=aS (D.bE i):=by
    rw[c.h 13,c.i 6,c.i 7,c.i 1,v6,v7,v1];show bK (nX s D.now) s _ 64=_;unfold bK;apply ack;intro j;rw[abl,fJ];rcases acN j 64 with d | d
    .rw[acf d,acr,Bt,BV h.ok hh d,show(0+i*64).toNat+j=64*i.toNat+j by omega,aad (by rw[h.ok.now];omega)];rfl
    .rw[abA (by simpa using d),abA ah];rfl
   have hx:=a3 [] ⟨rfl,Or.inr ⟨(q1.i 15).toNat,0,#[],by rw[av p1];rfl,Hl.aK _ _,ah,az,rfl,rfl⟩⟩;rw[l,adk]at hx;refine⟨[[0,1,2]],[3],rfl,rfl,⟨(ba fun k=>[q2.i 16,0,64,q2.i 17,0].getD k 0),rfl,⟨a1,aba _,by show(0:Int)<=64;omega,a2⟩,zzT,zzT⟩,_,i,H,D,_,_,rfl,rfl,⟨a,s,m,es,clock,rfl,h⟩,rfl,cJ q2 _ (c.tr y),by rw[hr];rfl,?_⟩;rw[hr];show aO (bY [q2.h 16]) _ _ _ _ _;rw[aJ,r];exact hx
  .unfold iq DM.has;rw[ab9 (by simp only[acM];omega)]
def tz (D:DM) (i:Int) (bs:List Int):DM:=⟨D.n,bm D.now (64*i.toNat) bs,if(jR i (lv D.loose) 0).isSome then D.loose else D.loose++[(i,D.bE i)],if 0<D.fuse then D.fuse-1 else D.fuse,false⟩
def dy (D:DM) (i:Int) (bs:List Int):Int×DM :=
 if D.has i=false\/bs.length≠64 then(1,D)else if D.gone then(5,D)else if D.fuse=0 then(5,{D with gone:=true})else(0,tz D i bs)
def Cj (a:Hl->Value->List Int->Prop):Sx.Spec where
 fn:=202
 own:=[.arg 0]
 rd:=[2]
 res:=[.one (.int .i64)]
 pre:=fun xs Hs Rs=>∃ p i u bs H R D,xs=[p,.int .i64 i,u]/\Hs=[H]/\Rs=[R]/\aE H p D/\a R u bs
 post:=fun xs Hs Rs v Hs' F=>∃ p i u bs H R D H',xs=[p,.int .i64 i,u]/\Hs=[H]/\Rs=[R]/\aE H p D/\a R u bs/\Hs'=[H']/\aE H' p (dy D i bs).2/\v=.int .i64 (dy D i bs).1
def Fm:Sx.Spec:=Cj pz
def th (f:E):Nd:=(fun a k h i j=>(fun b c d g l=>(.and (.pre c) (.ext c (.ext (.alloc 81) (.and (.imp (.not (.bvar 80)) (.and (.e (.le h i)) (.and (.e (.le h (.var 7))) (.and (.e (.hby 13 i a (.lit 64))) (.and (.pre d) (.ext d (.and (.e (.le h (.var 2))) (.and (.e (.le h (.var 3))) (.and j (.and (.pre (.put 83 13 i a b)) (.ext (.put 83 13 i a b) (.post [.bc 0 g 93,.hp 83 [13] [.var 6] [],.hp 82 [14] [.var 10] [],.ro 15 [.var 2] false,.dead] l)))))))))))) (.imp (.bvar 80) (.and (.e (.le h (.var 2))) (.and (.e (.le h (.var 3))) (.and j (.and (.e (.le h i)) (.and (.e (.le h (.var 7))) (.and (.pre (.put 82 13 i a b)) (.ext (.put 82 13 i a b) (.post [.bc 0 g 93,.hp 82 [13] [.var 6] [],.hp 14 [] [.var 10] [],.ro 15 [.var 2] false,.dead] l)))))))))))):Nd)) (aU 15 (.var 2) (.var 3) 0 k) (.mget 16 14 (.var 10) (.int .i64) (.int .i64 (.var 1)) (.agg (List.replicate 64 (CV.int .u8 h))) (List.replicate 64 (Ck.int .u8)) true) (.mset 82 14 (.var 10) (.int .i64) (.int .i64 (.var 1)) (.agg (aU 13 i a 0 k))) [.sl i (.var 7) (.var 8) (.var 9),.map (.var 10),.int .i64 f,.bool (.bvar 12)] (.sv (.one (.int .i64 h)))) (.add (.var 7) (.mul (.var 1) (.lit 64))) (List.replicate 64 (Kd.int .u8)) (.lit 0) (.var 6) (.e (.hby 15 (.var 2) (.var 3) (.lit 64)))
def Mz:Nd:=(fun g c d f=>(fun a=>(fun b=>(.and (.imp (.le d (.var 1)) (.and (.e (.le d g)) (.and (.imp (.lt (.var 1) g) (.and (.e (.le d (.var 4))) (.and (.imp (.not (.eq (.var 4) (.lit 64))) b) (.imp (.eq (.var 4) (.lit 64)) (.and (.imp (.not (.bvar 12)) (.and (.imp (.eq c d) (.post [.bc 0 [.sl (.var 6) (.var 7) g (.var 9),.map (.var 10),.int .i64 c,.bool .tt] 93,.hp 13 [] [.var 6] [],.hp 14 [] [.var 10] [],.ro 15 [.var 2] false] f)) (.imp (.not (.eq c d)) (.and (.imp (.lt d c) (th (.wrap .i64 (.sub c (.lit 1))))) (.imp (.not (.lt d c)) (th c)))))) (.imp (.bvar 12) (.post a f))))))) (.imp (.not (.lt (.var 1) g)) b)))) (.imp (.not (.le d (.var 1))) b):Nd)) (.post a (.sv (.one (.int .i64 (.lit 1)))))) [.bc 0 [.sl (.var 6) (.var 7) g (.var 9),.map (.var 10),.int .i64 c,.bool (.bvar 12)] 93,.hp 13 [] [.var 6] [],.hp 14 [] [.var 10] [],.ro 15 [.var 2] false]) (.var 8) (.var 11) (.lit 0) (.sv (.one (.int .i64 (.lit 5))))
def Y8:aD Tryz.prog [] 202 where
 Λ:=aA
 args:=[TP (.var 0) (.lit 0),TI .i64 (.var 1),.sv (.one (.sl (.var 2) (.var 3) (.var 4) (.var 5)))]
 mem:=yV++[.ro 15 [.var 2] false]
 nv:=16
def Py (l:List Int):(aS l).map nV=List.replicate l.length (.int .u8):=by
 unfold aS;rw[adv]
 induction l with
 | nil=>rfl
 | cons a l ih=>rw[abW,acn,agp,ih];rfl
def LU (h:D.ok) (hi:D.has i=true) (hb:bs.length=64):(tz D i bs).ok:=by
 have hh:0<=i/\i<D.n:=by unfold DM.has at hi;simpa using hi
 refine⟨?_,h.n,?_,?_,fun p hp=>?_⟩
 .show(bm D.now (64*i.toNat) bs).length=_;rw[Cz (by rw[h.now];omega),h.now];rfl
 .have:=h.f0;show(-1:Int)<=if 0<D.fuse then D.fuse-1 else D.fuse
  grind
 .have:=h.f1;show(if 0<D.fuse then D.fuse-1 else D.fuse)<=(9223372036854775807:Int)
  grind
 .have hp:p∈(if(jR i (lv D.loose) 0).isSome then D.loose else D.loose++[(i,D.bE i)]):=hp;split at hp
  .exact h.loose p hp
  .rcases acg.1 hp with hp | hp
   .exact h.loose p hp
   .rw[aaQ]at hp;subst hp;exact⟨gD h hi,hh.1,hh.2⟩
def Ny (a:List (Int×List Int)) (i:Int) (l:List Int):lv (a++[(i,l)])=lv a++[(i,.agg (aS l).toArray)]:=by simp [lv]
def PK (s y:Nat) (now bs:List Int):(nX s now).put s y (aS bs)=nX s (bm now y bs):=by
 unfold nX;rw[Hl.zF,<-Ki]
def Ly (h:D.ok) (hi:D.has i=true) (s:Nat):∀ j z,(D.bE i)[j]?=some z->(nX s D.now).cell s (64*i.toNat+j)=some (.int .u8 z):=by
 intro j z hz;have hl:=gD h hi;have a:j<64:=by have:=(aaG.1 hz).1;omega
 rw[Bt,<-BV h hi a,hz];rfl
def OQ {o:Hl->Value->List Int->Prop} (hw:∀ {R u bs},o R u bs->fE R u bs):(Cj o).OK Tryz.prog:=by
 refine Spec.cM (Γ:=[]) (fun _ h=>by cases h) ?_;rintro xs Hs Rs al an ⟨p,i,u,bs,H,R,D,rfl,rfl,rfl,⟨a,s,m,es,clock,rfl,h⟩,Q⟩;obtain⟨x,y,M,rfl,hy,hR⟩:=hw Q;refine⟨Y8,qL a s m D [i,x,y,bs.length,M] es clock R,fun _ _=>True,fun _ _=>0,?_,Tw h _ rfl _ _,(fun _ h=>nomatch h),?_⟩
 .show [Value.pointer (au (a:Int) 0),Value.int .i64 i,Value.slice (au x y) ((bs.length:Int)).toNat ((M:Int)).toNat]=_;rw[kC,aac,aac]
 .refine aD.lit (x:=Mz) ?_;generalize e:qL a s m D [i,x,y,bs.length,M] es clock R=J;have v0:J.i 0=a:=by rw[<-e];rfl
  have v1:J.i 1=i:=by rw[<-e];rfl
  have v2:J.i 2=x:=by rw[<-e];rfl
  have v3:J.i 3=y:=by rw[<-e];rfl
  have v4:J.i 4=bs.length:=by rw[<-e];rfl
  have v6:J.i 6=s:=by rw[<-e];rfl
  have v7:J.i 7=0:=by rw[<-e];rfl
  have v8:J.i 8=D.n:=by rw[<-e];rfl
  have v9:J.i 9=D.n:=by rw[<-e];rfl
  have v10:J.i 10=m:=by rw[<-e];rfl
  have v11:J.i 11=D.fuse:=by rw[<-e];rfl
  have vb:J.b 12=D.gone:=by rw[<-e];rfl
  have N:J.h 13=nX s D.now:=by rw[<-e];rfl
  have O:J.h 14=Hl.one m (.map es clock):=by rw[<-e];rfl
  have vr:J.h 15=R:=by rw[<-e];rfl
  have hI:∀ q,ai 16 J q->∀ k,k<16->q.i k=J.i k:=fun q g k h=>g.i k h;have ab:aE H (.pointer (some ⟨a,0,none⟩)) D:=⟨a,s,m,es,clock,rfl,h⟩;have out:∀ (q:Env) (f g:E) (k1 k2:Nat) (t:Mem) (ts:List E) (v1 v2:List Nat) (c:Int) (D':DM) (es':Array MapEntry) (clock':Nat),ai 16 J q->dy D i bs=(c,D')->D'.ok->D'.n=D.n->(ni .i64 es' (lv D'.loose)/\MapKept.Stamped es' clock')->aw q f=D'.fuse->aY q g=D'.gone->q.h k1=nX s D'.now->q.h k2=Hl.one m (.map es' clock') ->
   postOf (Cj o) [.pointer (some ⟨a,0,none⟩),.int .i64 i,.slice (au x y) bs.length M] [H] [R] q
    (.bc 0 [.sl (.var 6) (.var 7) (.var 8) (.var 9),.map (.var 10),.int .i64 f,.bool g] 93::.hp k1 v1 [.var 6] []::.hp k2 v2 [.var 10] []::t) (.sv (.one (.int .i64 (.lit c)))):=by
   intro q f g k1 k2 t ts w1 w2 c D' es' clock' P hw hok hn hm hf hg h1 h2 _;refine⟨[[0,1,2]],[],rfl,rfl,⟨(ba fun _=>c),rfl,zzT,zzT⟩,_,i,_,bs,H,R,D,_,rfl,rfl,rfl,ab,Q,rfl,⟨a,s,m,es',clock',rfl,?_⟩,by rw[hw];rfl⟩;rw[hw];refine KW hok hm.1 hm.2 h.nas h.nam h.nsm (PJ ?_ ?_ ?_ ?_ ?_ ?_ hf hg) h1 h2
   .rw[P.i 0,v0]
   .rw[P.i 6,v6]
   .rw[P.i 7,v7]
   .rw[P.i 8,v8];show(D.n:Int)=(D'.n:Int);rw[hn]
   .rw[P.i 9,v9];show(D.n:Int)=(D'.n:Int);rw[hn]
   .rw[P.i 10,v10]
  have tail:∀ f:E,(∀ q,ai 16 J q->aw q f=if 0<D.fuse then D.fuse-1 else D.fuse)->D.has i=true->bs.length=64->D.gone=false->D.fuse≠0->(th f).holds ⟨[],fun _ _=>True,fun _ _=>0,postOf (Cj o) [.pointer (some ⟨a,0,none⟩),.int .i64 i,.slice (au x y) bs.length M] [H] [R]⟩ (fun _=>0) J:=by
   intro f hf hi hb hg hz;have hh:0<=i/\i<D.n:=by unfold DM.has at hi;simpa using hi
   have hw:dy D i bs=(0,tz D i bs):=by
    unfold dy;rw[aa8 (by rw[hi,hb];simp),aa8 (by rw[hg];simp),aa8 hz]
   have hx:0<=x/\∀ j z,bs[j]?=some z->R.cell x.toNat (y.toNat+j)=some (.int .u8 z):=by
    rcases hR with h | h
    .rw[h]at hb;cases hb
    .exact h
   have G:=LU h.ok hi hb;have S:=gD h.ok hi;unfold th;simp only[go_sem,Nat.reduceAdd];rw[v10,v1,O];have r:(Hl.one m (.map es clock)) ((m:Int)).toNat=some (.map es clock):=by rw[aac];exact Hl.aK _ _
   refine⟨⟨ah,es,clock,_,r,nF h.map i,?_⟩,fun q1 g1 ad q2 g2 _=>?_⟩
   .intro j v hv;obtain⟨_,hv⟩:=Bm hv;unfold lv at hv;rw[abl,aaH]at hv;obtain⟨p,hp,he⟩:=hv;cases he;have:=(h.ok.loose p (aah hp)).1;refine⟨_,rfl,?_⟩;show(aS p.2).map nV=_;rw[Py,this]
   .obtain⟨_,w⟩:=ad es clock _ r (nF h.map i);have w:q1.b 80=(jR i (lv D.loose) 0).isSome:=w;have T:q2.b 80=(jR i (lv D.loose) 0).isSome:=by rw[g2.b 80,w]
    have d:ai 16 J q2:=g1.tr g2;have hby:∀ q,ai 16 J q->bx (q.h 15) (q.i 2).toNat (q.i 3).toNat (Int.toNat 64)=true:=by
     intro q g;rw[g.h 15,g.i 2,g.i 3,vr,v2,v3];exact dd hx.2 (by rw[hb];decide)
    have U:∀ q,ai 16 J q->(aU 15 (.var 2) (.var 3) 0 (List.replicate 64 (Kd.int .u8))).map (CV.ev q)=aS bs:=by
     intro q g;refine jk 64 0 bs hb fun j z hz=>?_;rw[g.h 15,ar,ar,g.i 2,g.i 3,vr,v2,v3,aco];exact hx.2 j z hz
    have C:∀ q,ai 16 J q->(q.i 7+q.i 1*64).toNat=64*i.toNat:=by
     intro q g;rw[g.i 7,g.i 1,v7,v1];omega
    have V:∀ q,ai 16 J q->0<=q.i 6/\0<=q.i 7+q.i 1*64/\(q.h 13).wr (q.i 6).toNat (q.i 7+q.i 1*64).toNat (aU 15 (.var 2) (.var 3) 0 (List.replicate 64 (Kd.int .u8))).length=true:=by
     intro q g;have:=C q g;refine⟨by rw[g.i 6,v6];omega,by rw[g.i 7,g.i 1,v7,v1];omega,?_⟩;rw[this,g.h 13,g.i 6,N,v6,ly,acz,aac];exact Hl.JH _ _ _ _ _ (by rw[af5,bN,h.ok.now];omega)
    have I:∀ q,ai 16 J q->(q.h 13).put (q.i 6).toNat (q.i 7+q.i 1*64).toNat (aS bs)=nX s (tz D i bs).now:=by
     intro q g;rw[C q g,g.h 13,g.i 6,N,v6,aac,PK];rfl
    have n2:∀ q,ai 16 J q->0<=q.i 2/\0<=q.i 3/\0<=q.i 6/\0<=q.i 7:=by
     intro q g;rw[g.i 2,g.i 3,g.i 6,g.i 7,v2,v3,v6,v7];exact⟨hx.1,hy,ah,ah⟩
    refine⟨fun K=>?_,fun ae=>?_⟩
    .have A:jR i (lv D.loose) 0=none:=by
      rw[T]at K;cases af:jR i (lv D.loose) 0 with
      | none=>rfl
      | some v=>rw[af]at K;simp at K
     obtain⟨es',ag,aj,W⟩:=NC h.map A (.agg (aS (D.bE i)).toArray) h.st;have ak:bx (q2.h 13) (q2.i 6).toNat (q2.i 7+q2.i 1*64).toNat (Int.toNat 64)=true:=by
      rw[C q2 d,d.h 13,d.i 6,N,v6,aac];exact dd (Ly h.ok hi s) (by rw[S];decide)
     have X:(aU 13 (.var 6) (.add (.var 7) (.mul (.var 1) (.lit 64))) 0 (List.replicate 64 (Kd.int .u8))).map (CV.ev q2)=aS (D.bE i):=by
      refine jk 64 0 _ S fun j z hz=>?_;simp only[bP,cN,ar,aq];rw[C q2 d,d.h 13,d.i 6,N,v6,aac,aco];exact Ly h.ok hi s j z hz
     have Y:q2.h 14 (q2.i 10).toNat=some (.map es clock):=by
      rw[d.h 14,d.i 10,O,v10];exact r
     refine⟨(n2 q2 d).2.2.1,(n2 q2 d).2.2.2,ak,⟨by rw[d.i 10,v10];omega,es,clock,_,Y,nF h.map _⟩,fun B g3 F=>?_⟩;have l:ai 16 J B:=d.tr g3;have Z:=F es clock Y;rw[X,d.i 1,v1,ag,d.h 14,d.i 10,O,v10,aac,Hl.Bx]at Z;refine⟨(n2 B l).1,(n2 B l).2.1,hby B l,V B l,fun q4 g4 aa=>?_⟩;have L:ai 16 J q4:=l.tr g4;rw[U B l,I B l]at aa;refine out q4 _ _ _ _ _ [] _ _ 0 (tz D i bs) es' (clock+1) L hw G rfl ?_ (hf q4 L) (by rw[bn,L.b 12,vb,hg];rfl) aa (by rw[g4.h 82,Z]);have el:(tz D i bs).loose=D.loose++[(i,D.bE i)]:=by
      show(if(jR i (lv D.loose) 0).isSome then D.loose else D.loose++[(i,D.bE i)])=_;rw[A];rfl
     rw[el,Ny];exact⟨aj,W⟩
    .have el:(tz D i bs).loose=D.loose:=by
      show(if(jR i (lv D.loose) 0).isSome then D.loose else D.loose++[(i,D.bE i)])=_;rw[<-T,ae];rfl
     refine⟨(n2 q2 d).1,(n2 q2 d).2.1,hby q2 d,(n2 q2 d).2.2.1,(n2 q2 d).2.2.2,V q2 d,fun B g3 F=>?_⟩;have l:ai 16 J B:=d.tr g3;rw[U q2 d,I q2 d]at F;exact out B _ _ _ _ _ [] _ _ 0 (tz D i bs) es clock l hw G rfl (by rw[el];exact⟨h.map,h.st⟩) (hf B l) (by rw[bn,l.b 12,vb,hg];rfl) F (by rw[l.h 14,O])
  unfold Mz;simp only[go_sem,Nat.reduceAdd];rw[v1,v4,v8,v11,vb];have bad:∀ c:Int,dy D i bs=(c,D)->postOf (Cj o) [.pointer (some ⟨a,0,none⟩),.int .i64 i,.slice (au x y) bs.length M] [H] [R] J
   (.bc 0 [.sl (.var 6) (.var 7) (.var 8) (.var 9),.map (.var 10),.int .i64 (.var 11),.bool (.bvar 12)] 93::.hp 13 [] [.var 6] []::.hp 14 [] [.var 10] []::[.ro 15 [.var 2] false]) (.sv (.one (.int .i64 (.lit c)))):=fun c hc =>
   out J _ _ _ _ _ [] _ _ c D es clock (ai.refl _ _) hc h.ok rfl ⟨h.map,h.st⟩ (by rw[ar,v11]) (by rw[bn,vb]) N O
  have yes:0<=i->i<D.n->D.has i=true:=fun h0 h1=>by unfold DM.has;simp [h0,h1]
  refine⟨fun h0=>⟨ah,fun hn=>⟨ah,fun hb=>bad 1 ?_,fun hb=>⟨fun hg=>⟨fun hz=>?_,fun hz=>⟨fun hp=>?_,fun hp=>?_⟩⟩,fun hg=>bad 5 ?_⟩⟩,fun hn=>bad 1 ?_⟩,fun h0=>bad 1 ?_⟩
  .unfold dy;rw[ab9 (Or.inr ah)]
  .have hw:dy D i bs=(5,{D with gone:=true}):=by
    unfold dy;rw[aa8 (by rw[yes h0 hn];simp;omega),aa8 hg,ab9 hz]
   exact out J _ _ _ _ _ [] _ _ 5 {D with gone:=true} es clock (ai.refl _ _) hw ⟨h.ok.now,h.ok.n,h.ok.f0,h.ok.f1,h.ok.loose⟩ rfl ⟨h.map,h.st⟩ (by rw[ar,v11]) (by rw[dc]) N O
  .refine tail _ (fun q g=>?_) (yes h0 hn) ah (by simpa using hg) hz;have:=h.ok.f1;rw[bL,dZ,ar,aq,g.i 11,v11,ab9 hp,wrap_i64 ah ah]
  .refine tail _ (fun q g=>?_) (yes h0 hn) ah (by simpa using hg) hz;rw[ar,g.i 11,v11,aa8 hp]
  .unfold dy;rw[aa8 (by rw[yes h0 hn];simp;omega),ab9 hg]
  .unfold dy DM.has;rw[ab9 (Or.inl (by simp only[acM];omega))]
  .unfold dy DM.has;rw[ab9 (Or.inl (by simp only[acM];omega))]
def DI:Fm.OK Tryz.prog:=OQ fun h=>h.w
def cP (D:DM):Int×DM:=if D.gone then(5,D)else if D.fuse=0 then(5,{D with gone:=true})else(0,⟨D.n,D.now,[],if 0<D.fuse then D.fuse-1 else D.fuse,D.gone⟩)
def adw {x1 d e j k:Int} (h:ua H a s m es clock D) (b:ai 15 (qL a s m D [x1,d,e,j,k] es clock R) q) {f g:E} {v1 v2:List Nat} 
 (hok:D'.ok) (hn:D'.n=D.n) (hm:ni .i64 es' (lv D'.loose)) (c:MapKept.Stamped es' clock') (hf:aw q f=D'.fuse) (hg:aY q g=D'.gone) (h1:q.h k1=nX s D'.now) (l:q.h k2=Hl.one m (.map es' clock')) :
 aE (uY q (.bc 0 [.sl (.var 6) (.var 7) (.var 8) (.var 9),.map (.var 10),.int .i64 f,.bool g] 93::.hp k1 v1 [.var 6] []::.hp k2 v2 [.var 10] []::t) [0,1,2]) (.pointer (some ⟨a,0,none⟩)) D':=by
 refine⟨a,s,m,es',clock',rfl,KW hok hm c h.nas h.nam h.nsm (PJ (b.i 0) (b.i 6) (b.i 7) ?_ ?_ (b.i 10) hf hg) h1 l⟩
 .rw[b.i 8];show(D.n:Int)=(D'.n:Int);rw[hn]
 .rw[b.i 9];show(D.n:Int)=(D'.n:Int);rw[hn]
def yL:Sx.Spec where
 fn:=203
 own:=[.arg 0]
 rd:=[]
 res:=[.one (.int .i64)]
 pre:=fun xs Hs Rs=>∃ p H D,xs=[p]/\Hs=[H]/\aE H p D
 post:=fun xs Hs Rs v Hs' F=>∃ p H D H',xs=[p]/\Hs=[H]/\aE H p D/\Hs'=[H']/\aE H' p (cP D).2/\v=.int .i64 (cP D).1
def abX:aD Tryz.prog [] yL.fn where
 Λ:=aA
 args:=[TP (.var 0) (.lit 0)]
 mem:=yV
 nv:=15
def H9:yL.OK Tryz.prog:=by
 refine Spec.cM (Γ:=[]) (fun _ h=>by cases h) ?_;rintro xs Hs Rs w l ⟨p,H,D,rfl,rfl,a,s,m,es,clock,rfl,h⟩;have e1:Rs=[]:=aa1.1 l;subst e1;refine⟨abX,qL a s m D [0,0,0,0,0] es clock Hl.none,fun _ _=>True,fun _ _=>0,?_,Ea h _ rfl _,(fun _ h=>nomatch h),?_⟩
 .show [Value.pointer (au (a:Int) 0)]=_;rw[kC]
 .refine aD.read [] [] [] ?_;simp only[go_sem,Nat.reduceAdd];generalize d:qL a s m D [0,0,0,0,0] es clock Hl.none=J;have v10:J.i 10=m:=by rw[<-d];rfl
  have v11:J.i 11=D.fuse:=by rw[<-d];rfl
  have o:J.b 12=D.gone:=by rw[<-d];rfl
  have r:J.h 13=nX s D.now:=by rw[<-d];rfl
  have u:J.h 14=Hl.one m (.map es clock):=by rw[<-d];rfl
  have out:∀ (q:Env) (f g:E) (k1 k2:Nat) (w1 w2:List Nat) (t:Mem) (c:Int) (D':DM) (es':Array MapEntry) (clock':Nat),ai 15 J q->cP D=(c,D')->D'.ok->D'.n=D.n->ni .i64 es' (lv D'.loose)->MapKept.Stamped es' clock'->aw q f=D'.fuse->aY q g=D'.gone->q.h k1=nX s D'.now->q.h k2=Hl.one m (.map es' clock') ->
   postOf yL [.pointer (some ⟨a,0,none⟩)] [H] [] q (.bc 0 [.sl (.var 6) (.var 7) (.var 8) (.var 9),.map (.var 10),.int .i64 f,.bool g] 93::.hp k1 w1 [.var 6] []::.hp k2 w2 [.var 10] []::t) (.sv (.one (.int .i64 (.lit c)))):=by
   intro q f g k1 k2 w1 w2 t c D' es' clock' k hs hok hn hm v hf hg h1 x _;rw[<-d]at k;refine⟨[[0,1,2]],[],rfl,rfl,⟨(ba fun _=>c),rfl,zzT,zzT⟩,_,H,D,_,rfl,rfl,⟨a,s,m,es,clock,rfl,h⟩,rfl,?_,by rw[hs];rfl⟩;rw[hs];exact adw h k hok hn hm v hf hg h1 x
  have e:(Hl.one m (.map es clock)) ((m:Int)).toNat=some (.map es clock):=by rw[aac];exact Hl.aK _ _
  have tail:∀ (f:E),(∀ q,ai 15 J q->aw q f=if 0<D.fuse then D.fuse-1 else D.fuse)->D.gone=false->D.fuse≠0->(0<=J.i 10/\∃ es clock,J.h 14 (J.i 10).toNat=some (.map es clock))/\∀ J',ai 15 J J'->(∀ es clock,J.h 14 (J.i 10).toNat=some (.map es clock)->J'.h 15=(J.h 14).setObj (J.i 10).toNat (.map #[] clock)) ->
   postOf yL [.pointer (some ⟨a,0,none⟩)] [H] [] J' [.bc 0 [.sl (.var 6) (.var 7) (.var 8) (.var 9),.map (.var 10),.int .i64 f,.bool (.bvar 12)] 93,.hp 13 [] [.var 6] [],.hp 15 [14] [.var 10] []] (.sv (.one (.int .i64 (.lit 0)))):=by
   intro f hf hg hz;rw[v10,u];refine⟨⟨ah,es,clock,e⟩,fun q j k=>?_⟩;have k:=k es clock e;rw[aac,Hl.Bx]at k;refine out q f (.bvar 12) 13 15 _ _ _ 0 ⟨D.n,D.now,[],if 0<D.fuse then D.fuse-1 else D.fuse,D.gone⟩ #[] clock j ?_ ⟨h.ok.now,h.ok.n,?_,?_,fun p hp=>by cases hp⟩ rfl rfl (MapKept.stamped_empty _) (hf q j) (by rw[bn,j.b 12,o]) (by rw[j.h 13,r]) k
   .unfold cP;rw[aa8 (by rw[hg];simp),aa8 hz]
   .have:=h.ok.f0;show -1<=(if 0<D.fuse then D.fuse-1 else D.fuse);split<;>omega
   .have:=h.ok.f1;show(if 0<D.fuse then D.fuse-1 else D.fuse)<=_;split<;>omega
  rw[o,v11];have f0:=h.ok.f0;have f1:=h.ok.f1;refine⟨fun hg=>⟨fun hz=>?_,fun hz=>⟨fun hp=>tail _ (fun q j=>?_) (aef.2 hg) hz,fun hp=>tail _ (fun q j=>?_) (aef.2 hg) hz⟩⟩,fun hg=>?_⟩
  .refine out J _ _ _ _ _ _ _ 5 {D with gone:=true} es clock (ai.refl _ _) ?_ ⟨h.ok.now,h.ok.n,h.ok.f0,h.ok.f1,h.ok.loose⟩ rfl h.map h.st (by rw[ar,v11]) (dc _) r u;unfold cP;rw[aa8 hg,ab9 hz]
  .rw[ab9 hp,bL,dZ,ar,aq,j.i 11,v11];exact wrap_i64 ah ah
  .rw[aa8 hp,ar,j.i 11,v11]
  .refine out J _ _ _ _ _ _ _ 5 D es clock (ai.refl _ _) ?_ h.ok rfl h.map h.st (by rw[ar,v11]) (by rw[bn,o]) r u;unfold cP;rw[ab9 hg]
def iu (v:Value):List Int:=(WT v).map fun c=>bO (some c)
def Jh (l:List Int):iu (.agg (aS l).toArray)=l:=by
 show((l.map (Value.int .u8)).map fun c=>bO (some c))=l;rw[adv];exact List.map_id l
def mo:∀ (n:Nat) (l:List Int),l.length=n->aR (aS l) ((List.replicate n (Ck.int .u8)).map gY)
 | 0,[],_=>trivial
 | n+1,x::l,h=>⟨by simp [bh,gY],mo n l (by simpa using h)⟩
 | 0,_::_,h=>by simp at h
 | _+1,[],h=>by simp at h
def ky (n c:Int):Int:=ct .or .u64 (IntKind.u64.wrap (n*2 ^ (min (Int.toNat 8) IntKind.u64.bits))) (IntKind.u64.wrap c)
def fY (bs:List Int):Int:=bs.foldl ky 0
def wZ (bs:List Int) (k:Nat) (h:k<bs.length):fY (bs.take (k+1))=ky (fY (bs.take k)) bs[k]:=by
 unfold fY;rw[adB,aad h,List.foldl_append];rfl
def MM (f:FuncId):Sx.Spec where
 fn:=f
 own:=[]
 rd:=[0]
 res:=[.one (.int .u64)]
 pre:=fun xs Hs Rs=>∃ u bs R,xs=[u]/\Rs=[R]/\fE R u bs/\bs.length<=1000
 post:=fun xs Hs Rs v Hs' F=>∃ u bs R,xs=[u]/\Rs=[R]/\fE R u bs/\v=.int .u64 (fY bs)
def adj (f:FuncId):aD Tryz.prog [] f where
 Λ:=fun p=>if lp p then some ⟨0,[(3,TI .u64 (.var 10)),(8,TI .i64 (.var 11))],[],12⟩else none
 args:=[.sv (.one (.sl (.var 0) (.var 1) (.var 2) (.var 3)))]
 mem:=[.ro 4 [.var 0] true]
 nv:=5
def WG (bs:List Int) (_:Nat) (q:Env):Prop:=∃ k:Nat,k<=bs.length/\q.i 11=k/\q.i 10=fY (bs.take k)
def DW:(MM 189).OK Tryz.prog/\(MM 126).OK Tryz.prog/\(MM 187).OK Tryz.prog:=by
 refine⟨Spec.jN (Γ:=[]) (fun _ h=>by cases h) rfl ?_,Spec.jN (Γ:=[]) (fun _ h=>by cases h) rfl ?_,Spec.jN (Γ:=[]) (fun _ h=>by cases h) rfl ?_⟩
 all_goals
  rintro xs Rs ⟨u,bs,R,rfl,rfl,⟨x,y,f,rfl,hy,m⟩,hlen⟩;refine⟨adj _,aM [x,y,bs.length,f] false [Hl.none,Hl.none,Hl.none,Hl.none,R],WG bs,fun _ q=>(bs.length-q.i 11).toNat,?_,aT rfl rfl,rfl,?_⟩
  .show [Value.slice (au x y) ((bs.length:Int)).toNat ((f:Int)).toNat]=_;rw[aac,aac]
  refine aD.read [] [] [] ?_;generalize l:aM [x,y,bs.length,f] false [Hl.none,Hl.none,Hl.none,Hl.none,R]=J;obtain⟨⟨v0,v1,v2,_⟩,_,_,_,_,n,_⟩:=jn l;simp only[go_sem,Nat.reduceAdd];rw[v2];refine⟨ah,⟨0,ah,rfl,rfl⟩,fun q g ⟨k,hk,a,b⟩=>?_⟩;rw[g.i 0,g.i 1,g.i 2,g.h 4,v0,v1,v2,n,a];refine⟨fun p=>?_,fun r=>?_⟩
  .have c:k<bs.length:=ah;have d:0<=x/\∀ j z,bs[j]?=some z->R.cell x.toNat (y.toNat+j)=some (.int .u8 z):=by
    rcases m with h | h
    .subst h;simp at c
    .exact h
   have o:R.cell x.toNat (y+k).toNat=some (.int .u8 bs[k]):=by
    rw[show(y+(k:Int)).toNat=y.toNat+k by omega];exact d.2 _ _ (aad c)
   rw[o];refine⟨d.1,hy,ah,rfl,⟨k+1,ah,?_,?_⟩,?_⟩
   .show IntKind.i64.wrap (q.i 11+1)=_;rw[a];exact wrap_i64 ah ah
   .show ky (q.i 10) (bO ((q.h 4).cell (q.i 0).toNat (q.i 1+q.i 11).toNat))=_;rw[b,g.i 0,g.i 1,g.h 4,v0,v1,n,a,o,wZ bs k c];rfl
   .show((bs.length:Int)-IntKind.i64.wrap (q.i 11+1)).toNat<_;rw[a,wrap_i64 ah ah];omega
  .have e:k=bs.length:=ah;subst e;rw[acS]at b;refine fun _=>⟨[],[],rfl,rfl,⟨(ba fun _=>q.i 10),rfl,zzT,zzT⟩,_,bs,R,rfl,rfl,⟨x,y,f,rfl,hy,m⟩,?_⟩;show Value.int .u64 (q.i 10)=_;rw[b]
def Tl:Sx.Spec:=MM 189
def Tm:Tl.OK Tryz.prog:=DW.1
def wrap_u64 (h0:0<=x) (h1:x<18446744073709551616):IntKind.u64.wrap x=x:=by
 show Int.emod x 18446744073709551616=x;exact agz h0 h1
def fO (n0:0<=n) (n1:n<72057594037927936) (c0:0<=c) (c1:c<256):ky n c=n*256+c:=by
 unfold ky;rw[show n*2 ^ (min (Int.toNat 8) IntKind.u64.bits)=n*256 from rfl,wrap_u64 ah ah,wrap_u64 c0 ah];obtain⟨m,rfl⟩:=afj n0;obtain⟨d,rfl⟩:=afj c0;show IntKind.u64.wrap (((BitVec.ofInt 64 ((m:Int)*256)) |||(BitVec.ofInt 64 (d:Int))).toNat:Int)=_;have e1:(BitVec.ofInt 64 ((m:Int)*256)).toNat=m*256:=by
  rw[show((m:Int)*256)=((m*256:Nat):Int)by omega,afF,afM];exact afJ ah
 have a:(BitVec.ofInt 64 (d:Int)).toNat=d:=by
  rw[afF,afM];exact afJ ah
 rw[agq,e1,a];have e:m*256 |||d=m*256+d:=by
  have:=agi (i:=8) (b:=d) ah m;rw[Nat.shiftLeft_eq]at this;exact this.symm
 rw[e,wrap_u64 ah ah];omega
def ze (x:Int):List Int:=[x/72057594037927936%256,x/281474976710656%256,x/1099511627776%256,x/4294967296%256,x/16777216%256,x/65536%256,x/256%256,x%256]
def MN {a b d e f g h:Int} (i:0<=a/\a<256) (hb:0<=b/\b<256) (j:0<=c/\c<256) (hd:0<=d/\d<256) (he:0<=e/\e<256) (hf:0<=f/\f<256) (hg:0<=g/\g<256) (hh:0<=h/\h<256) :
 fY [a,b,c,d,e,f,g,h]=((((((a*256+b)*256+c)*256+d)*256+e)*256+f)*256+g)*256+h:=by
 show ky (ky (ky (ky (ky (ky (ky (ky 0 a) b) c) d) e) f) g) h=_;have e1:ky 0 a=a:=by rw[fO ah ah i.1 i.2];omega
 rw[e1,fO (n:=a) (c:=b) i.1 ah hb.1 hb.2];rw[fO (n:=a*256+b) (c:=c) ah ah j.1 j.2];rw[fO (n:=(a*256+b)*256+c) (c:=d) ah ah hd.1 hd.2];rw[fO (n:=((a*256+b)*256+c)*256+d) (c:=e) ah ah he.1 he.2];rw[fO (n:=(((a*256+b)*256+c)*256+d)*256+e) (c:=f) ah ah hf.1 hf.2];rw[fO (n:=((((a*256+b)*256+c)*256+d)*256+e)*256+f) (c:=g) ah ah hg.1 hg.2];rw[fO (n:=(((((a*256+b)*256+c)*256+d)*256+e)*256+f)*256+g) (c:=h) ah ah hh.1 hh.2]
def zj (h0:0<=x) (h1:x<18446744073709551616):fY (ze x)=x:=by
 unfold ze;rw[MN ah ah ah ah ah ah ah ah];omega
def uX (n:Nat):List Ck:=List.replicate n (.int .u8)
def jU:List Ck:=[.int .u64,.int .u64]++uX 16
def cw (l:List Int):List Int:=ze (l.getD 0 0)++ze (l.getD 1 0)++(l.drop 2).take 16
def aax (xs:List Value):Value:=match xs with
 | [v]=>.agg (aS (cw (iu v))).toArray
 | _=>.bool false
def aay (xs:List Value):Prop:=match xs with
 | [v]=>(0<=(iu v).getD 0 0/\(iu v).getD 0 0<18446744073709551616)/\0<=(iu v).getD 1 0/\(iu v).getD 1 0<18446744073709551616
 | _=>False
def Lc:Sx.Spec:=rG 204 [.agg jU] [.agg (uX 32)] aay aax
def aaz:aD Tryz.prog [] 204 where
 Λ:=aA
 args:=(bQ 0 [.agg jU]).map .sv
 mem:=[]
 nv:=18
def wrap_u8 (x:Int):IntKind.u8.wrap x=x%256:=rfl
def Vf {n:Nat} (h:q.i n=x) (h0:0<=x) (k:Nat):aw q (.wrap .u8 (.shr .u64 (.var n) (.lit k)))=x/2 ^ (min k 64)%256:=by
 rw[bL,wrap_u8,T0,ar,h];show x.fdiv (2 ^ (min ((k:Int)).toNat 64))%256=_;rw[aac,aed _ (Int.le_of_lt (Int.pow_pos ah))]
def Pg {n:Nat} (h:q.i n=x) (h0:0<=x):[Value.int .u8 (aw q (.wrap .u8 (.shr .u64 (.var n) (.lit 56)))),Value.int .u8 (aw q (.wrap .u8 (.shr .u64 (.var n) (.lit 48)))),Value.int .u8 (aw q (.wrap .u8 (.shr .u64 (.var n) (.lit 40)))),Value.int .u8 (aw q (.wrap .u8 (.shr .u64 (.var n) (.lit 32)))),Value.int .u8 (aw q (.wrap .u8 (.shr .u64 (.var n) (.lit 24)))),Value.int .u8 (aw q (.wrap .u8 (.shr .u64 (.var n) (.lit 16)))),Value.int .u8 (aw q (.wrap .u8 (.shr .u64 (.var n) (.lit 8)))),Value.int .u8 (aw q (.wrap .u8 (.shr .u64 (.var n) (.lit 0))))]=(ze x).map (Value.int .u8):=by
 have s:=fun k=>Vf h h0 k;have a:aw q (.wrap .u8 (.shr .u64 (.var n) (.lit 56)))=x/72057594037927936%256:=s 56;have b:aw q (.wrap .u8 (.shr .u64 (.var n) (.lit 48)))=x/281474976710656%256:=s 48;have c:aw q (.wrap .u8 (.shr .u64 (.var n) (.lit 40)))=x/1099511627776%256:=s 40;have d:aw q (.wrap .u8 (.shr .u64 (.var n) (.lit 32)))=x/4294967296%256:=s 32;have e:aw q (.wrap .u8 (.shr .u64 (.var n) (.lit 24)))=x/16777216%256:=s 24;have f:aw q (.wrap .u8 (.shr .u64 (.var n) (.lit 16)))=x/65536%256:=s 16;have s8:aw q (.wrap .u8 (.shr .u64 (.var n) (.lit 8)))=x/256%256:=s 8;have s0:aw q (.wrap .u8 (.shr .u64 (.var n) (.lit 0)))=x/1%256:=s 0;rw[a,b,c,d,e,f,s8,s0,Int.ediv_one];rfl
set_option maxRecDepth 20000 in
def Qd:Lc.OK Tryz.prog:=by
 refine ko (fun t h=>by cases h) aaz rfl rfl rfl (fun q _ _=>?_) (fun q d hN=>⟨fun _ _=>True,fun _ _=>0,?_⟩)
 .obtain⟨J,_,_,e⟩:=cE (uX 32) 0 (aS (cw (iu ((SV.agg (aj 0 jU)).ev q)))) q (mo 32 _ rfl);exact⟨J,by show Value.agg _=Value.agg ((aj 0 (uX 32)).map (CV.ev J)).toArray;rw[e];rfl,cf _ _ _ az,zzT⟩
 .have hN:(0<=q.i 0/\q.i 0<18446744073709551616)/\0<=q.i 1/\q.i 1<18446744073709551616:=hN;obtain⟨⟨a0,a1⟩,b0,b1⟩:=hN;refine aD.read [] [] [] ?_;simp only[Nd.holds,X.pre,X.rel,X.n];intro q1 b _ q2 c _ a g3 _;have G:ai 18 q a:=(b.tr c).tr g3;have e0:a.i 0=q.i 0:=G.i 0;have e1:a.i 1=q.i 1:=G.i 1;show Value.agg (List.map (CV.ev a) (_++_)).toArray=Value.agg (aS (ze (q.i 0)++ze (q.i 1)++(List.range 16).map fun j=>q.i (2+j))).toArray
  congr 2
  rw[acm];unfold aS;rw[acm]
  congr 1
  .rw[acm,<-Pg e0 a0,<-Pg e1 b0];rfl
  .have:=CV.gN (G.mono az) _ (cV (uX 16) 2);unfold uX at this;rw[this];rfl
def yj (l:List Int):List Value:=[.int .u64 (fY (l.take 8)),.int .u64 (fY ((l.drop 8).take 8))]++aS ((l.drop 16).take 16)
def TT (xs:List Value):Value:=match xs with
 | [v]=>.agg (yj (iu v)).toArray
 | _=>.bool false
def vD:Sx.Spec:=rG 167 [.agg (uX 32)] [.agg jU] (fun _=>True) TT
def Le:List Sx.Spec:=[Tl]
def Qm:∀ t∈Le,t.OK Tryz.prog:=fun t a=>by
 rw[Le,aaQ]at a;subst a;exact Tm
def TU:aD Tryz.prog Le 167 where
 Λ:=aA
 args:=(bQ 0 [.agg (uX 32)]).map .sv
 mem:=[]
 nv:=32
def TW:Le[0]?=some Tl:=rfl
def AO:Tl.res=[.one (.int .u64)]:=rfl
def LZ {a:Int} (h0:0<=a) (vs:List Int) (o n c:Nat) (T:TypeId) (hn:o+n<=vs.length):fE (Hl.one a.toNat (.cells (aS vs).toArray T (0,0))) (.slice (au a (o:Int)) n c) ((vs.drop o).take n):=by
 have hl:((vs.drop o).take n).length=n:=by rw[ace,acy];omega
 refine⟨a,o,c,by rw[hl],ah,Or.inr ⟨h0,fun j z hz=>?_⟩⟩;rw[Hl.mP,aec,fJ,aac];rw[acC]at hz;split at hz
 .rw[acR]at hz;rw[hz];rfl
 .cases hz
set_option maxRecDepth 20000 in
def Jc:vD.OK Tryz.prog:=by
 refine ko Qm TU rfl rfl rfl (fun q _ _=>?_) (fun q v hN=>⟨fun _ _=>True,fun _ _=>0,?_⟩)
 .obtain⟨J,_,_,e⟩:=cE jU 0 (yj (iu ((SV.agg (aj 0 (uX 32))).ev q))) q ⟨by simp [bh,gY],by simp [bh,gY],mo 16 _ rfl⟩;exact⟨J,by show Value.agg _=Value.agg ((aj 0 jU).map (CV.ev J)).toArray;rw[e];rfl,cf _ _ _ az,zzT⟩
 .refine aD.read [] [] [] ?_;simp only[Nd.holds,X.pre,X.rel,X.n,TW,AO,gm,jO,Cp.sv,Ck.cv,bQ,Cp.len,Ck.len,ia,jF,TV.ev,SV.ev,CV.ev,abW,acI,bo.hl,ar,aq];intro q1 p a1 q2 l a2;obtain⟨L,d⟩:∃ L,L=(List.range 32).map fun j=>q.i j:=⟨_,rfl⟩;have r:L.length=32:=by rw[d];rfl
  have m:ai 32 q q2:=p.tr l;have cells:∀ q',ai 32 q q'->List.map (CV.ev q') (aj 0 (List.replicate 32 (Ck.int .u8)))=aS L:=by
   intro q' g;have:=CV.gN (g.mono az) _ (cV (uX 32) 0);unfold uX at this;rw[this,d];rfl
  rw[cells q2 m];have p2:0<=q2.i 32:=by rw[l.i 32];exact a1
  refine⟨⟨_,L.take 8,_,rfl,rfl,LZ p2 L 0 8 32 _ ah,by rw[ace];omega⟩,fun f g3 ⟨_,⟨u,bs,R,hx,h,k,hv⟩,_⟩=>?_⟩;cases hx;cases h;have e1:=k.uniq (LZ p2 L 0 8 32 _ ah);have o:ai 32 q f:=m.tr g3;rw[cells f o];have p3:0<=f.i 32:=by rw[g3.i 32];exact p2
  refine⟨⟨_,(L.drop 8).take 8,_,rfl,rfl,LZ p3 L 8 8 24 _ ah,by rw[ace];omega⟩,fun b g4 ⟨_,⟨u,bs2,R,hx,h,c,a⟩,_⟩=>?_⟩;cases hx;cases h;have s:=c.uniq (LZ p3 L 8 8 24 _ ah);have t:ai 32 q b:=o.tr g4;simp only[Value.int.injEq,acu]at hv a;have hv:b.i 34=fY (L.take 8):=by rw[g4.i 34,hv,e1];rfl
  have a:b.i 35=fY ((L.drop 8).take 8):=by rw[a,s]
  show Value.agg (List.map (CV.ev b) (_++_)).toArray=Value.agg (yj ((List.range 32).map fun j=>q.i j)).toArray;rw[<-d]
  congr 2
  rw[acm];unfold yj
  congr 1
  .show [Value.int .u64 (b.i 34),Value.int .u64 (b.i 35)]=_;rw[hv,a]
  .have:=CV.gN (t.mono az) _ (cV (uX 16) 16);unfold uX at this;rw[this,d];rfl
structure LM where
 frm:Int
 most:Int
 serial:Int
 size:Int
 note:List Int
 over:Bool
variable {L L':LM}
structure LM.ok (L:LM):Prop where
 frm:0<=L.frm/\L.frm<=16384
 most:0<=L.most/\L.most<=1048576
 note:L.note.length=16
def mM (dp sl:Value) (L:LM):List Value:=[dp,.int .i64 L.frm,.int .i64 L.most,.int .u64 L.serial,.int .u64 L.size]++(aS L.note++[sl,.bool L.over])
def lI (R:Hl) (a:Nat) (dp sl:Value) (L:LM):Prop:=L.ok/\R a=some (.cells (mM dp sl L).toArray 196 (0,0))
def fM (R:Hl) (p dp sl:Value) (L:LM):Prop:=∃ a:Nat,p=.pointer (some ⟨a,0,none⟩)/\lI R a dp sl L
def Jl (h1:L.note.length=16) (b:L'.note.length=16) (h:mM dp sl L=mM dp' sl' L'):dp=dp'/\sl=sl'/\L=L':=by
 unfold mM at h;obtain⟨a,hb⟩:=afS h rfl;obtain⟨c,hd⟩:=afS hb (by rw[bN,bN,h1,b]);simp only[aae,Value.int.injEq,Value.bool.injEq,acu,abw]at a hd;obtain⟨e0,e1,d,e,f⟩:=a;have g:=lQ c;obtain⟨x1,i,j,k,l,m⟩:=L;simp_all
def fM.uniq (h:fM R p dp sl L) (h':fM R p dp' sl' L'):dp=dp'/\sl=sl'/\L=L':=by
 obtain⟨a,rfl,ho,h⟩:=h;obtain⟨a',he,b,h'⟩:=h';simp only[Value.pointer.injEq,aa3,Addr.mk.injEq,abw]at he;subst he;rw[h]at h';simp only[aa3,Obj.cells.injEq,abw]at h';exact Jl ho.note b.note (ach Array.toList h')
def lI.cell (h:lI R a dp sl L) (j:Nat):R.cell a j=(mM dp sl L)[j]?:=by
 unfold Hl.cell;rw[h.2];simp
def lI.mono (h:lI R a dp sl L) (hl:R.le R'):lI R' a dp sl L:=⟨h.1,hl _ _ h.2⟩
def fM.mono (h:fM R p dp sl L) (hl:R.le R'):fM R' p dp sl L:=by
 obtain⟨a,e,h⟩:=h;exact⟨a,e,h.mono hl⟩
def ij:List Int:=List.replicate 18 0
def AJ (x:List Int):List Int:=[fY (x.take 8),fY ((x.drop 8).take 8)]++(x.drop 16).take 16
def pM (h:List Int):List Value:=[.int .u64 (h.getD 0 0),.int .u64 (h.getD 1 0)]++aS (h.drop 2)
def CQ (b:List Int) (most place:Int):Prop:=b.take 32=b.drop 32/\(fY ((b.take 32).take 8)).tmod 2=place/\fY (((b.take 32).drop 8).take 8)<=most
instance (b:List Int) (most place:Int):Decidable (CQ b most place):=by unfold CQ;infer_instance
def bw (D:DM) (frm most place:Int):List Int×Int :=
 if(iq D (frm+place)).2≠0 then(ij,(iq D (frm+place)).2)
 else if CQ (iq D (frm+place)).1 most place then(AJ ((iq D (frm+place)).1.take 32),0)else(ij,0)
def oc:Sx.Spec where
 fn:=123
 own:=[.link 0 0]
 rd:=[0]
 res:=[.agg jU,.one (.int .i64)]
 pre:=fun xs Hs Rs=>∃ p place H R dp sl L D,xs=[p,.int .u64 place]/\Hs=[H]/\Rs=[R]/\fM R p dp sl L/\aE H dp D/\(place=0\/place=1)
 post:=fun xs Hs Rs v Hs' F=>∃ p place H R dp sl L D H',xs=[p,.int .u64 place]/\Hs=[H]/\Rs=[R]/\fM R p dp sl L/\aE H dp D/\Hs'=[H']/\aE H' dp D /\
  v=.tuple #[.agg (pM (bw D L.frm L.most place).1).toArray,.int .i64 (bw D L.frm L.most place).2]
def Di:E:=.ite (.eq (.var 8) (.lit 32)) (.var 6) (.add (.var 6) (.lit 32))
def eqE (f g:Nat->E):Nat->Nat->E
 | 0,j=>.eq (f j) (g j)
 | n+1,j=>.and (.eq (f j) (g j)) (eqE f g n (j+1))
def K0 {q:Env} {f g:Nat->E} : ∀ (n j:Nat),aY q (eqE f g n j)=true↔∀ i,j<=i->i<=j+n->aw q (f i)=aw q (g i)
 | 0,j=>by
  unfold eqE;rw[ik]
  grind
 | n+1,j=>by
  unfold eqE;rw[jv,ik,K0 n (j+1)]
  grind
def EP:E:=eqE (fun j=>.hI 6 (.var 5) (.var 6) j) (fun j=>.hI 6 (.var 5) Di j) 31 0
def Lw:Nd:=(fun g c m j k=>(fun l h f i=>(fun d b=>(fun a=>(.ext (.alloc 4) (.and (.e (.le c g)) (.and (.e (.his 2 g c 0 .ptr)) (.and (.e (.his 2 g (.lit 1) 0 (.int .i64))) (.and (.pre b) (.ext b (.and (.imp (.not (.eq (.var 9) c)) (.post [.hp 5 [3] l [],.ro 2 [.var 0] false,.dead,.hp 6 [] [.var 5] []] (.tup [.agg h,.one (.int .i64 (.var 9))]))) (.imp (.eq (.var 9) c) (.and (.e (.le (.lit (-1)) m)) (.and (.e (.le c (.var 6))) (.and (.e (.le j (.var 8))) (.and (.e (.le c m)) (.and (.e (.hby 6 m (.var 6) j)) (.and (.e (.le j (.var 7))) (.and (.e (.le (.var 7) (.var 8))) (.and (.e (.le j (.sub (.var 7) j))) (.and (.e (.le c Di)) (.and (.e (.hby 6 m Di j)) (.ext (.alloc 10) (.ext (.alloc 11) (.and (.pre f) (.ext f (.ext (.alloc 30) (.and (.imp (.not EP) a) (.imp EP (.and (.imp (.not k) a) (.imp k (.and (.e (.his 2 g (.lit 2) 0 (.int .i64))) (.and (.imp i a) (.imp (.not i) (.post d (.tup [.agg (aj 12 ([Ck.int .u64,Ck.int .u64]++List.replicate 16 (Ck.int .u8))),.one (.int .i64 c)]))))))))))))))))))))))))))))))):Nd)) (.post d (.tup [.agg h,.one (.int .i64 c)]))) [.hp 5 [3] l [],.ro 2 [.var 0] false,.dead,.hp 6 [] [.var 5] [],.dead,.dead,.dead] (.call 0 5 [.sv (.one (.hptr (.hP 2 g c 0 0) (.hP 2 g c 0 1))),.sv (.one (.int .i64 (.wrap .i64 (.add (.hI 2 g (.lit 1) 0) (.wrap .i64 (.var 1))))))] [.hp 3 [] l []] [])) [.hP 2 g c 0 0] ([.int .u64 c,.int .u64 c]++List.replicate 16 (CV.int .u8 c)) (.call 1 12 [.sv (.agg (aU 6 m (.var 6) 0 (List.replicate 32 (Kd.int .u8))))] [] []) (.lt (.wrap .u64 (.hI 2 g (.lit 2) 0)) (.var 13))) (.var 0) (.lit 0) (.var 5) (.lit 32) (.eq (.rem (.var 12) (.lit 2)) (.var 1))
def Bg:List Sx.Spec:=[Dh,vD]
def Nx:∀ t∈Bg,t.OK Tryz.prog:=ak Ht <| ak Jc <| bu
def Bd:aD Tryz.prog Bg oc.fn where
 Λ:=aA
 args:=[TP (.var 0) (.lit 0),TI .u64 (.var 1)]
 mem:=[.hp 3 [] [.hP 2 (.var 0) (.lit 0) 0 0] [],.ro 2 [.var 0] false]
 nv:=4
def Hu:Bg[1]?=some vD:=rfl
def rr0:Dh.res=[.one .sl,.one (.int .i64)]:=rfl
def rr1:vD.res=[.agg jU]:=rfl
def rc0:(aL 0 [Cp.one .sl,Cp.one (.int .i64)]≠[])=True:=by trivial
def qc (q:Env):∀ (m n:Nat),bk n (List.replicate m (Ck.int .u8)) q
 | 0,_=>trivial
 | m+1,n=>⟨zzT,qc q m (n+1)⟩
def c9.cap {l:Int} (h:c9 F e (.slice (au x y) l.toNat c.toNat) bs) (hl:0<=l) (a:0<=c):l<=c:=by
 obtain⟨_,h⟩:=h
 grind
def Hr (h:D.ok) (e:(iq D i).2=0):D.has i=true/\D.gone=false/\(iq D i).1=D.bE i/\(D.bE i).length=64:=by
 unfold iq at e ⊢;split at e
 .cases e
 .rename_i h1;have h1:D.has i=true:=by simpa using h1
  rw[aa8 (by simp [h1])];split at e
  .cases e
  .rename_i a;rw[aa8 a];exact⟨h1,by grind,rfl,gD h h1⟩
def Jd {x:List Int} (h:x.length=32):vD.pre [.agg (aS x).toArray] [] []:=by
 obtain⟨c,_,_,a⟩:=cE (uX 32) 0 (aS x) (ba fun _=>0) (mo 32 _ h);refine⟨⟨c,⟨qc c 32 0,zzT⟩,?_⟩,zzT⟩;show [Value.agg (aS x).toArray]=[Value.agg ((aj 0 (uX 32)).map (CV.ev c)).toArray];rw[a]
def Nw:oc.OK Tryz.prog:=by
 refine Spec.cM (Γ:=Bg) Nx ?_;rintro xs Hs Rs ae af ⟨p,place,H,R,dp,sl,L,D,rfl,rfl,rfl,⟨a,rfl,A⟩,hD,ag⟩;obtain⟨da,s,m,es,clock,rfl,B⟩:=hD;refine⟨Bd,aM [a,place] false [Hl.none,Hl.none,R,H],fun _ _=>True,fun _ _=>0,?_,⟨?_,?_,?_,?_⟩,(fun _ h=>nomatch h),?_⟩
 .trivial
 .intro r hr ho;simp [Bd]at hr;rcases hr with rfl | rfl
  .exact⟨H,aC,Hl.le_refl _⟩
  .cases ho
 .intro r hr ho;simp [Bd]at hr;rcases hr with rfl | rfl
  .cases ho
  .exact⟨R,aC,Hl.le_refl _⟩
 .simp [Bd,bo.own]
 .intro r hr;simp [Bd]at hr;rcases hr with rfl | rfl<;>trivial
 .refine aD.lit (x:=Lw) ?_;generalize P:aM [(a:Int),place] false [Hl.none,Hl.none,R,H]=J;obtain⟨⟨v0,v1,_⟩,_,_,w2,w3,_⟩:=jn P;unfold Lw;simp only[go_sem,Nat.reduceAdd,Bg,Hu,rr0,rr1,rc0];intro q0 g0 _;have v:aE H (.pointer (some ⟨da,0,none⟩)) D:=⟨da,s,m,es,clock,rfl,B⟩;have t0:Int.toNat 0=0:=rfl;have t1:Int.toNat 1=1:=rfl;have t2:Int.toNat 2=2:=rfl;have t32:Int.toNat 32=32:=rfl;have c0:R.cell a 0=some (.pointer (some ⟨da,0,none⟩)):=by rw[A.cell];rfl
  have c1:R.cell a 1=some (.int .i64 L.frm):=by rw[A.cell];rfl
  have c2:R.cell a 2=some (.int .i64 L.most):=by rw[A.cell];rfl
  obtain⟨f0,f1⟩:=A.1.frm;obtain⟨m0,m1⟩:=A.1.most;have ep:Value.pointer (au (bD (R.cell a 0) 0) (bD (R.cell a 0) 1))=.pointer (some ⟨da,0,none⟩):=by rw[c0];exact kC da
  have ei:IntKind.i64.wrap (bO (R.cell a 1)+IntKind.i64.wrap place)=L.frm+place:=by
   rw[c1];show IntKind.i64.wrap (L.frm+IntKind.i64.wrap place)=_;rw[wrap_i64 (n:=place) ah ah];exact wrap_i64 ah ah
  rw[g0.i 0,v0,g0.h 2,w2,g0.i 1,v1,g0.h 3,w3,aac,t0,t1,ep,ei];refine⟨ah,by rw[c0];rfl,by rw[c1];rfl,⟨_,L.frm+place,H,D,rfl,rfl,v⟩,fun q1 Q ⟨F,⟨p',i',H',D',H2,u,hx,hH,S,C,T,hv,U⟩,V,hn⟩=>?_⟩;cases hx;cases hH;have e:=S.uniq v;subst e;obtain⟨⟨n5,n6,n7,W⟩,_⟩:=hn;have n6:0<=q1.i 6:=n6;have n7:0<=q1.i 7:=n7;have W:0<=q1.i 8:=W;simp only[Value.tuple.injEq,acp,aae,Value.int.injEq,acu,abw]at hv C;obtain⟨rfl,h9⟩:=hv;have V:=V trivial;subst V;have out:∀ (q:Env) (t:Mem) (r:TV) (h:List Int) (e:Int) (w:Env),ai 10 q1 q->bw D' L.frm L.most place=(h,e)->r.ev q=(jO 0 oc.res).ev w->r.ev q=.tuple #[.agg (pM h).toArray,.int .i64 e] ->
   postOf oc [.pointer (some ⟨a,0,none⟩),.int .u64 place] [H] [R] q (.hp 5 [3] [.hP 2 (.var 0) (.lit 0) 0 0] []::t) r:=by
   intro q t r h e w X hr h1 G _;refine⟨[[0]],[],rfl,rfl,⟨w,h1,cf _ _ _ az,zzT,zzT⟩,_,place,H,R,_,sl,L,D',_,rfl,rfl,rfl,⟨a,rfl,A⟩,v,rfl,?_,?_⟩
   .show aE (bY [q.h 5]) _ _;rw[aJ,X.h 5,C];exact T
   .rw[G,hr]
  have zero:∀ (q:Env) (t:Mem) (x:E) (e:Int),ai 10 q1 q->bw D' L.frm L.most place=(ij,e)->aw q x=e ->
   postOf oc [.pointer (some ⟨a,0,none⟩),.int .u64 place] [H] [R] q (.hp 5 [3] [.hP 2 (.var 0) (.lit 0) 0 0] []::t) (.tup [.agg ([.int .u64 (.lit 0),.int .u64 (.lit 0)]++List.replicate 16 (CV.int .u8 (.lit 0))),.one (.int .i64 x)]):=by
   intro q t x e X hr hx;refine out q t _ ij e (ba fun k=>if k=18 then e else 0) X hr ?_ ?_
   .subst hx;rfl
   .subst hx;rfl
  refine⟨fun h=>zero q1 _ _ _ (ai.refl _ _) ?_ (by rw[ar]),fun h=>?_⟩
  .unfold bw
   grind
  .rw[h]at h9;obtain⟨hh,hg,hs,hl⟩:=Hr B.ok h9.symm;obtain⟨b,hb⟩:∃ b,b=(iq D' (L.frm+place)).1:=⟨_,rfl⟩;rw[<-hb]at U hs;have Y:b.length=64:=by rw[hs];exact hl
   have Z:=U.rd.at n5 n6 n7;obtain⟨e7,f⟩:=Z;rw[Y]at e7;have f:0<=q1.i 5/\∀ j z,b[j]?=some z->(q1.h 6).cell (q1.i 5).toNat ((q1.i 6).toNat+j)=some (.int .u8 z):=by
    rcases f with ⟨_,f⟩ | f
    .grind
    .exact f
   obtain⟨p5,f⟩:=f;have ad:=c9.cap U n7 W;have eY:∀ q,ai 10 q1 q->aw q Di=q1.i 6+32:=by
    intro q g;unfold Di;rw[dY,aa8 (by rw[ik,ar,aq,g.i 8];omega),bP,ar,aq,g.i 6]
   rw[eY q1 (ai.refl _ _),t32];refine⟨n5,n6,ah,p5,dd f ah,ah,ah,ah,ah,?_,fun q2 N _ q3 g3 _=>?_⟩
   .refine dd (bs:=b.drop 32) (fun j z hz=>?_) (by grind)
    grind
   have O:ai 10 q1 q3:=N.tr g3;have I:(b.take 32).length=32:=by rw[ace];omega
   have K:(aU 6 (E.var 5) (E.var 6) 0 (List.replicate 32 (Kd.int IntKind.u8))).map (CV.ev q3)=aS (b.take 32):=by
    refine jk 32 0 _ I fun i z hz=>?_;rw[acC]at hz;split at hz
    .rw[ar,ar,O.h 6,O.i 5,O.i 6,aco]
     grind
    .cases hz
   rw[K];refine⟨Jd I,fun M g4 ⟨F4,c,_,_⟩ d y _=>?_⟩;have c:Value.agg (List.map (CV.ev M) (aj 12 jU)).toArray=Value.agg (yj (iu (.agg (aS (b.take 32)).toArray))).toArray:=c;rw[Jh]at c;have c:List.map (CV.ev M) (aj 12 jU)=yj (b.take 32):=by simpa using c
   have i12:M.i 12=fY ((b.take 32).take 8):=by
    have:=ach (fun l=>l[0]?) c;simpa [jU,aj,Ck.cv,CV.ev,yj,ar] using this
   have i13:M.i 13=fY (((b.take 32).drop 8).take 8):=by
    have:=ach (fun l=>l[1]?) c;simpa [jU,aj,Ck.cv,CV.ev,yj,ar,Ck.len] using this
   have o:ai 10 q1 d:=(O.tr g4).tr y;have aa:d.i 12=fY ((b.take 32).take 8):=by rw[y.i 12,i12]
   have ab:d.i 13=fY (((b.take 32).drop 8).take 8):=by rw[y.i 13,i13]
   have heq:aY d EP=true↔b.take 32=b.drop 32:=by
    unfold EP;rw[K0];have ex:∀ i:Nat,i<=31->aw d (.hI 6 (.var 5) (.var 6) i)=b.getD i 0/\aw d (.hI 6 (.var 5) Di i)=b.getD (32+i) 0:=by
     intro i hi;rw[fi,fi,ar,ar,eY d o,o.i 5,o.i 6,o.h 6];rw[f i _ (aad ah),show(q1.i 6+32).toNat+i=(q1.i 6).toNat+(32+i)by omega,f (32+i) _ (aad ah)];simp only[abv];rw[aad ah,aad ah];exact⟨rfl,rfl⟩
    constructor
    .intro h;apply ack
     grind
    .intro h i _ hi;rw[(ex i ah).1,(ex i ah).2];have this:(b.take 32)[i]?=(b.drop 32)[i]?:=ach (fun l=>l[i]?) h
     grind
   rw[heq,En,ar,aq,aa,ab,y.i 1,g4.i 1,g3.i 1,N.i 1,Q.i 1,g0.i 1,v1];rw[y.i 0,g4.i 0,g3.i 0,N.i 0,Q.i 0,g0.i 0,v0];rw[y.h 2,g4.h 2,g3.h 2,N.h 2,Q.h 2,g0.h 2,w2,aac,t2,c2];have hw:IntKind.u64.wrap (bO (some (.int .i64 L.most)))=L.most:=by show IntKind.u64.wrap L.most=_;exact wrap_u64 m0 ah
   rw[hw];have hl:bw D' L.frm L.most place=if CQ b L.most place then(AJ (b.take 32),0)else(ij,0):=by
    unfold bw
    grind
   refine⟨fun h1=>zero d _ _ _ o (by rw[hl,aa8 fun h=>h1 h.1]) (aq _ _),fun h1=>⟨fun G=>zero d _ _ _ o (by rw[hl,aa8 fun h=>G h.2.1]) (aq _ _),fun G=>⟨rfl,fun(h3:L.most<fY (((b.take 32).drop 8).take 8))=>zero d _ _ _ o (by rw[hl,aa8 fun h=>Int.not_le.2 h3 h.2.2]) (aq _ _),fun(h3:¬L.most<fY (((b.take 32).drop 8).take 8))=>?_⟩⟩⟩;refine out d _ _ (AJ (b.take 32)) 0 (ba fun k=>if k=18 then 0 else d.i (12+k)) o (by rw[hl,ab9 ⟨h1,G,Int.not_lt.1 h3⟩]) ?_ ?_
   .rfl
   .show Value.tuple #[Value.agg (List.map (CV.ev d) (aj 12 jU)).toArray,_]=_;have e5:List.map (CV.ev d) (aj 12 jU)=List.map (CV.ev M) (aj 12 jU):=CV.gN (y.mono az) _ (cV jU 12);rw[e5,c];rfl
def c9.rep (h:c9 F e v bs):∃ (x:Int) (c:Nat),-1<=x/\v=.slice (au x 0) bs.length c/\bs.length<=c/\((x= -1/\bs=[])\/(0<=x/\∀ j z,bs[j]?=some z->F.cell x.toNat j=some (.int .u8 z))):=by
 obtain⟨hl,h⟩:=h;rcases h with ⟨rfl,hn⟩ | ⟨g,cap,cur,rfl,hg,hle,hm,hs,a⟩
 .exact⟨-1,0,ah,by rw[dr,hn],ah,Or.inl ⟨rfl,aa1.1 hn⟩⟩
 .refine⟨g,cap,ah,by rw[av ah];simp,hle,Or.inr ⟨ah,fun j z hz=>?_⟩⟩;have b:=(aaG.1 hz).1;simp only[aac,Hl.cell,hg];have e1:(cur.toList.take (bs.length*1))[j]?=some (.int .u8 z):=by rw[a,fJ,hz];rfl
  rw[ad4 ah,agd]at e1;exact e1
def pj (all:List Int) (i:Nat):List Int:=(List.range 64).map fun j=>(all[64*i+j]?).getD 0
def gl (frm:Int) (all:List Int):Nat->Nat->DM->Int×DM
 | 0,_,D=>cP D
 | f+1,i,D=>if 64*i<all.length then(if(dy D (frm+2+i) (pj all i)).1≠0 then dy D (frm+2+i) (pj all i)else gl frm all f (i+1) (dy D (frm+2+i) (pj all i)).2)else cP D
def iD (D:DM) (frm:Int) (all:List Int) (from_:Int):Int×DM:=gl frm all (all.length+1) (from_/64).toNat D
def Gc:Sx.Spec where
 fn:=197
 own:=[.link 0 0]
 rd:=[0,1]
 res:=[.one (.int .i64)]
 pre:=fun xs Hs Rs=>∃ p u all fr H R1 R2 dp sl L D,xs=[p,u,.int .i64 fr]/\Hs=[H]/\Rs=[R1,R2]/\fM R1 p dp sl L/\c9 R2 5 u all/\aE H dp D/\0<=fr/\fr<=1073741824/\all.length<=1073741824
 post:=fun xs Hs Rs v Hs' F=>∃ p u all fr H R1 R2 dp sl L D H',xs=[p,u,.int .i64 fr]/\Hs=[H]/\Rs=[R1,R2]/\fM R1 p dp sl L/\c9 R2 5 u all/\aE H dp D/\Hs'=[H']/\aE H' dp (iD D L.frm all fr).2/\v=.int .i64 (iD D L.frm all fr).1
def su:E:=.wrap .i64 (.mul (.var 20) (.lit 64))
def CN:E:=.ite (.lt (.sub (.var 3) su) (.lit 64)) (.sub (.var 3) su) (.lit 64)
def CO:E:=.ite (.eq (.var 4) su) (.var 2) (.add (.var 2) su)
def I7:List CV:=(List.range 64).map fun(j:Nat)=>.int .u8 (.ite (.lt (.lit (j:Int)) CN) (.hI 7 (.var 1) CO j) (.lit 0))
def PT:Nd:=(fun f c g i=>(fun j h b k=>(fun a d=>(.and (.inv 0 [⟨20,0,.int .i64 (.wrap .i64 (.quo (.var 5) g))⟩] [(21,some 6)]) (.havoc 0 0 9 (.and (.e (.le c i)) (.and (.imp (.lt b i) (.and (.pre k) (.ext k (.and (.e (.le (.lit (-1)) (.var 1))) (.and (.e (.le c (.var 2))) (.and (.e (.le c b)) (.and (.e (.le b i)) (.and (.e (.le i (.var 4))) (.and (.e (.and (.or (.and (.eq (.var 1) (.lit (-1))) (.eq (.sub i b) c)) (.and (.le c (.var 1)) (.and (.le c CO) (.hby 7 (.var 1) CO CN)))) (.and (.le c (.sub i b)) (.le CN g)))) (.and (.e (.le c f)) (.and (.e (.his 8 f c 0 .ptr)) (.and (.e (.his 8 f (.lit 1) 0 (.int .i64))) (.and (.pre a) (.ext a (.and (.imp (.not (.eq (.var 23) c)) (.post [.hp 23 [21] j [],.ro 7 [.var 1] false,.ro 8 [.var 0] false,.dead] (.sv (.one (.int .i64 (.var 23)))))) (.imp (.eq (.var 23) c) (.back 0 0 [⟨20,0,.int .i64 (.wrap .i64 (.add (.var 20) (.lit 1)))⟩] [(21,some 23)]))))))))))))))))) (.imp (.not (.lt b i)) (.and (.e (.le c f)) (.and (.e (.his 8 f c 0 .ptr)) (.and (.pre d) (.ext d (.post [.hp 22 [21] j [],.ro 7 [.var 1] false,.ro 8 [.var 0] false] (.sv (.one (.int .i64 (.var 22))))))))))))):Nd)) (.call 0 23 [.sv h,.sv (.one (.int .i64 (.wrap .i64 (.add (.wrap .i64 (.add (.hI 8 f (.lit 1) 0) (.lit 2))) (.var 20))))),.sv (.one (.sl (.var 22) c g g))] [.hp 21 [] j []] [.bc 22 I7 5]) (.call 1 22 [.sv h] [.hp 21 [] j []] [])) [.hP 8 f c 0 0] (.one (.hptr (.hP 8 f c 0 0) (.hP 8 f c 0 1))) (.wrap .i64 (.mul (.var 20) g)) (.mk 22 5 [.int .u8 c] 1 g)) (.var 0) (.lit 0) (.lit 64) (.var 3)
def Ge:List Sx.Spec:=[Fm,yL]
def PV:∀ t∈Ge,t.OK Tryz.prog:=ak DI <| ak H9 <| bu
def Gd:aD Tryz.prog Ge Gc.fn where
 Λ:=fun p=>if lp p then some ⟨0,[(7,TI .i64 (.var 20))],[(0,.hp 21 [] [.hP 8 (.var 0) (.lit 0) 0 0] [])],22⟩else none
 args:=[TP (.var 0) (.lit 0),.sv (.one (.sl (.var 1) (.var 2) (.var 3) (.var 4))),TI .i64 (.var 5)]
 mem:=[.hp 6 [] [.hP 8 (.var 0) (.lit 0) 0 0] [],.ro 7 [.var 1] false,.ro 8 [.var 0] false]
 nv:=9
def fg1:Ge[1]?=some yL:=rfl
def fr0:Fm.res=[.one (.int .i64)]:=rfl
def fr1:yL.res=[.one (.int .i64)]:=rfl
def TH (D:DM) (frm:Int) (all:List Int) (dp:Value) (fr:Int) (_:Nat) (q:Env):Prop:=∃ (f i:Nat) (a:DM),q.i 20=i/\aE (q.h 21) dp a/\gl frm all f i a=iD D frm all fr/\all.length+1<=f+i/\i<=all.length+16777217
def PU:Gc.OK Tryz.prog:=by
 refine Spec.cM (Γ:=Ge) PV ?_;rintro xs Hs Rs aa ab ⟨p,u,all,fr,H,R1,R2,dp,sl,L,D,rfl,rfl,rfl,⟨a,rfl,N⟩,W,O,P,ad,hall⟩;obtain⟨x,c,hx,rfl,hc,b⟩:=c9.rep W;refine⟨Gd,aM [a,x,0,all.length,c,fr] false [Hl.none,Hl.none,Hl.none,Hl.none,Hl.none,Hl.none,H,R2,R1],TH D L.frm all dp fr,fun _ q=>(all.length-q.i 20).toNat,?_,⟨?_,?_,?_,?_⟩,(fun _ h=>nomatch h),?_⟩
 .show [Value.pointer (au (a:Int) 0),Value.slice (au x 0) ((all.length:Int)).toNat ((c:Int)).toNat,Value.int .i64 fr]=_;rw[kC,aac,aac]
 .intro r hr ho;simp [Gd]at hr;rcases hr with rfl | rfl | rfl
  .exact⟨H,aC,Hl.le_refl _⟩
  .cases ho
  .cases ho
 .intro r hr ho;simp [Gd]at hr;rcases hr with rfl | rfl | rfl
  .cases ho
  .exact⟨R2,aC,Hl.le_refl _⟩
  .exact⟨R1,aC,Hl.le_refl _⟩
 .simp [Gd,bo.own]
 .intro r hr;simp [Gd]at hr;rcases hr with rfl | rfl | rfl<;>trivial
 .refine aD.lit (x:=PT) ?_;generalize Q:aM [(a:Int),x,0,all.length,c,fr] false [Hl.none,Hl.none,Hl.none,Hl.none,Hl.none,Hl.none,H,R2,R1]=J;obtain⟨⟨v0,v1,v2,X,v4,v5,_⟩,_,_,_,_,_,_,w6,w7,Y,_⟩:=jn Q;unfold PT;simp only[go_sem,Nat.reduceAdd,Ge,fg1,fr0,fr1];have t0:Int.toNat 0=0:=rfl;have t1:Int.toNat 1=1:=rfl;have t64:Int.toNat 64=64:=rfl;obtain⟨da,s,m,es,clock,E,ae⟩:=id O;have c0:R1.cell a 0=some dp:=by rw[N.cell];rfl
  have c1:R1.cell a 1=some (.int .i64 L.frm):=by rw[N.cell];rfl
  obtain⟨f0,f1⟩:=N.1.frm;have Z:Value.pointer (au (bD (R1.cell a 0) 0) (bD (R1.cell a 0) 1))=dp:=by rw[c0,E];exact kC da
  have wk:bh (R1.cell a 0) Kd.ptr=true:=by rw[c0,E];rfl
  refine⟨⟨all.length+1,(fr/64).toNat,D,?_,?_,rfl,ah,ah⟩,fun q g ⟨f,i,D1,G,o,A,af,hi⟩=>?_⟩
  .show IntKind.i64.wrap ((J.i 5).tdiv 64)=_;rw[v5,afn P,wrap_i64 ah ah];omega
  .show aE (J.h 6) dp D;rw[w6];exact O
  .have u0:q.i 0=a:=by rw[g.i 0,v0]
   have u3:q.i 3=all.length:=by rw[g.i 3,X]
   have y8:q.h 8=R1:=by rw[g.h 8,Y]
   have R:IntKind.i64.wrap ((i:Int)*64)=64*i:=by rw[wrap_i64 ah ah];omega
   have out:∀ (q':Env) (n:Nat) (vs:List Nat) (t:Mem) (r:Int×DM),ai 9 J q'->iD D L.frm all fr=r->aE (q'.h n) dp r.2->q'.i n=r.1 ->
    postOf Gc [.pointer (some ⟨a,0,none⟩),.slice (au x 0) all.length c,.int .i64 fr] [H] [R1,R2] q' (.hp n vs [.hP 8 (.var 0) (.lit 0) 0 0] []::t) (.sv (.one (.int .i64 (.var n)))):=by
    intro q' n vs t r hq hr h1 h2 _;refine⟨[[0]],[],rfl,rfl,⟨(ba fun _=>q'.i n),rfl,zzT,zzT⟩,_,_,all,fr,H,R1,R2,dp,sl,L,D,_,rfl,rfl,rfl,⟨a,rfl,N⟩,W,O,rfl,?_,?_⟩
    .show aE (bY [q'.h n]) _ _;rw[aJ,hr];exact h1
    .show Value.int .i64 (q'.i n)=_;rw[h2,hr]
   rw[u0,u3,G,R,y8,aac,t0,Z];refine⟨ah,fun I=>⟨⟨ah,ah,ah⟩,fun q1 C ⟨S,_⟩=>?_⟩,fun ag=>⟨ah,wk,⟨_,_,D1,rfl,rfl,o⟩,fun q1 C ⟨F,⟨p',H',D',H2,hx,T,v,l,d,hv⟩,_,_⟩=>?_⟩⟩
   .have w:ai 9 J q1:=g.tr C;have x1:q1.i 1=x:=by rw[w.i 1,v1]
    have x2:q1.i 2=0:=by rw[w.i 2,v2]
    have x3:q1.i 3=all.length:=by rw[w.i 3,X]
    have x4:q1.i 4=c:=by rw[w.i 4,v4]
    have B:q1.i 20=i:=by rw[C.i 20,G]
    have z7:q1.h 7=R2:=by rw[w.h 7,w7]
    have b:0<=x/\∀ (j:Nat) (z:Int),all[j]?=some z->R2.cell x.toNat j=some (.int .u8 z):=by
     rcases b with ⟨_,h⟩ | h
     .rw[h]at I;simp only[acO]at I;omega
     .exact h
    obtain⟨U,b⟩:=b;have eW:aw q1 su=64*i:=by
     unfold su;rw[bL,cN,ar,aq,B,R]
    have eM:aw q1 CN=min (all.length-64*i:Int) 64:=by
     unfold CN;rw[dY,wX,dZ,ar,aq,eW,x3];simp only[aas];split<;>omega
    have eY:aw q1 CO=64*i:=by
     unfold CO;rw[dY,uf,bP,ar,ar,eW,x2,x4];simp only[aas];split<;>omega
    have eC:(I7.map (CV.ev q1))=aS (pj all i):=by
     unfold I7 pj aS;rw[adv,adv];refine acL fun j hj=>?_;have hj:=acv.1 hj;show Value.int .u8 (aw q1 (.ite (.lt (.lit (j:Int)) CN) (.hI 7 (.var 1) CO j) (.lit 0)))=Value.int .u8 _;rw[dY,wX,fi,aq,aq,eM,eY,ar,x1,z7];simp only[aas];rcases acN (64*i+j) all.length with h | h
     .rw[ab9 ah,aad h,show(64*(i:Int)).toNat+j=64*i+j by omega,b _ _ (aad h)];rfl
     .rw[aa8 ah,abA h];rfl
    have ei:IntKind.i64.wrap (IntKind.i64.wrap (bO (R1.cell a 1)+2)+i)=L.frm+2+i:=by
     rw[c1];show IntKind.i64.wrap (IntKind.i64.wrap (L.frm+2)+i)=_;rw[wrap_i64 (n:=L.frm+2) ah ah,wrap_i64 ah ah]
    have V:bh (R1.cell a 1) (Kd.int .i64)=true:=by rw[c1];rfl
    have K:pz (Hl.one (q1.i 22).toNat (.cells (aS (pj all i)).toArray 5 (0,0))) (.slice (au (q1.i 22) 0) 64 64) (pj all i):=by
     refine⟨q1.i 22,0,64,by simp [pj],ah,Or.inr ⟨S,fun j z hz=>?_⟩⟩;rw[Hl.mP,aec,fJ,af7,aco,hz];rfl
    rw[x1,x2,x3,x4,B,R,eY,eM,eC,z7,w.i 0,v0,w.h 8,Y,aac,t1,t64,Z,ei];refine⟨hx,ah,ah,ah,ah,⟨Or.inr ⟨U,ah,?_⟩,ah,ah⟩,ah,wk,V,⟨dp,L.frm+2+i,_,pj all i,q1.h 21,_,D1,rfl,rfl,rfl,?_,K⟩,fun q2 g2 ⟨F,⟨p',i',u',bs',H',R',D',H2,hx,T,hR,v,M,l,d,hv⟩,_,_⟩=>?_⟩
    .refine dd (bs:=all.drop (64*i)) (fun j z hz=>?_) (by rw[acy];omega);rw[acR]at hz;rw[show(64*(i:Int)).toNat+j=64*i+j by omega];exact b _ _ hz
    .rw[C.h 21];exact o
    .cases hx;cases T;cases hR;rw[C.h 21]at v;have e:=v.uniq o;subst e;have e:=M.uniq K;subst e;simp only[Value.int.injEq,acu,aae,abw]at hv l;rw[<-l]at d;have G2:ai 9 J q2:=w.tr g2;have step:gl L.frm all f i D'=if(dy D' (L.frm+2+i) (pj all i)).1≠0 then dy D' (L.frm+2+i) (pj all i)else gl L.frm all (f-1) (i+1) (dy D' (L.frm+2+i) (pj all i)).2:=by
      obtain⟨k,rfl⟩:∃ k,f=k+1:=⟨f-1,ah⟩;show(if 64*i<all.length then _ else _)=_;rw[ab9 ah];rfl
     refine⟨fun h=>out q2 23 _ _ (dy D' (L.frm+2+i) (pj all i)) G2 ?_ d hv,fun h=>?_⟩
     .rw[<-A,step,ab9 (by rw[<-hv];exact h)]
     .have y:(assign q2 [⟨20,0,.int .i64 (.wrap .i64 (.add (.var 20) (.lit 1)))⟩] [(21,some 23)]).i 20=i+1:=by
       show IntKind.i64.wrap (q2.i 20+1)=_;rw[g2.i 20,B,wrap_i64 ah ah]
      refine⟨⟨f-1,i+1,(dy D' (L.frm+2+i) (pj all i)).2,by rw[y];omega,d,?_,ah,ah⟩,by rw[y];omega⟩;rw[<-A,step,aa8 (by rw[<-hv,h];simp)]
   .cases hx;cases T;have e:=v.uniq o;subst e;simp only[Value.int.injEq,acu,aae,abw]at hv l;rw[<-l]at d;refine out q1 22 _ _ (cP D') (g.tr C) ?_ d hv;rw[<-A];cases f with
    | zero=>rfl
    | succ k =>
     show(if 64*i<all.length then _ else _)=_;rw[aa8 ah]
def jS (D:DM) (frm:Int) (h:List Int):Int×DM :=
 if(dy D (frm+(h.getD 0 0).tmod 2) (cw h++cw h)).1≠0 then dy D (frm+(h.getD 0 0).tmod 2) (cw h++cw h)else cP (dy D (frm+(h.getD 0 0).tmod 2) (cw h++cw h)).2
def uu (h:List Int):Prop:=h.length=18/\(0<=h.getD 0 0/\h.getD 0 0<18446744073709551616)/\0<=h.getD 1 0/\h.getD 1 0<18446744073709551616
def se:Sx.Spec where
 fn:=198
 own:=[.link 0 0]
 rd:=[0]
 res:=[.one (.int .i64)]
 pre:=fun xs Hs Rs=>∃ p h H R dp sl L D,xs=[p,.agg (pM h).toArray]/\Hs=[H]/\Rs=[R]/\fM R p dp sl L/\aE H dp D/\uu h
 post:=fun xs Hs Rs v Hs' F=>∃ p h H R dp sl L D H',xs=[p,.agg (pM h).toArray]/\Hs=[H]/\Rs=[R]/\fM R p dp sl L/\aE H dp D/\uu h/\Hs'=[H']/\aE H' dp (jS D L.frm h).2/\v=.int .i64 (jS D L.frm h).1
def Jn (hl:h.length=18):∃ a b t,h=a::b::t/\t.length=16:=by
 match h,hl with
 | a::b::t,hl=>exact⟨a,b,t,rfl,by simpa using hl⟩
def pQ (hl:h.length=18):iu (.agg (pM h).toArray)=h:=by
 obtain⟨a,b,t,rfl,d⟩:=Jn hl;show([Value.int .u64 a,Value.int .u64 b]++t.map (Value.int .u8)).map (fun c=>bO (some c))=_;rw[acm,adv];show [a,b]++t.map id=_;rw[List.map_id];rfl
def TQ {k:List Int} (h1:h.length=18) (a:k.length=18) (e:Value.agg (pM h).toArray=Value.agg (pM k).toArray):h=k:=by
 rw[<-pQ h1,<-pQ a,e]
def Ob (hl:h.length=18):aR (pM h) (jU.map gY):=by
 obtain⟨a,b,t,rfl,c⟩:=Jn hl;exact⟨by simp [bh,gY],by simp [bh,gY],mo 16 _ c⟩
def Jz (q:Env) (n:Nat):bk n jU q:=⟨zzT,zzT,qc q 16 (n+2)⟩
def Qe (hh:uu h):Lc.pre [.agg (pM h).toArray] [] []:=by
 obtain⟨c,_,_,a⟩:=cE jU 0 (pM h) (ba fun _=>0) (Ob hh.1);refine⟨⟨c,⟨Jz c 0,zzT⟩,?_⟩,?_⟩
 .show [Value.agg (pM h).toArray]=[Value.agg ((aj 0 jU).map (CV.ev c)).toArray];rw[a]
 .show(0<=(iu (.agg (pM h).toArray)).getD 0 0/\(iu (.agg (pM h).toArray)).getD 0 0<_)/\0<=(iu (.agg (pM h).toArray)).getD 1 0/\(iu (.agg (pM h).toArray)).getD 1 0<_;rw[pQ hh.1];exact hh.2
def El (hl:h.length=18):(cw h).length=32:=by
 unfold cw ze;simp [hl]
def Mr:List Sx.Spec:=[Fm,yL,Lc]
def SF:∀ t∈Mr,t.OK Tryz.prog:=ak DI <| ak H9 <| ak Qd <| bu
def Cd:aD Tryz.prog Mr se.fn where
 Λ:=aA
 args:=[TP (.var 0) (.lit 0),.sv (.agg (aj 1 jU))]
 mem:=[.hp 19 [] [.hP 20 (.var 0) (.lit 0) 0 0] [],.ro 20 [.var 0] false]
 nv:=21
def tr2:Lc.res=[.agg (uX 32)]:=rfl
def Cc:se.OK Tryz.prog:=by
 refine Spec.cM (Γ:=Mr) SF ?_;rintro xs Hs Rs aa ab ⟨p,h,H,R,dp,sl,L,D,rfl,rfl,rfl,⟨a,rfl,z⟩,A,hh⟩;obtain⟨b0,b1,t,f,j⟩:=Jn hh.1;have TW:h.getD 0 0=b0:=by rw[f];rfl
 refine⟨Cd,⟨fun k=>if k=0 then(a:Int)else h.getD (k-1) 0,fun _=>false,fun _=>.empty,fun _=>.tuple #[],fun k=>if k=19 then H else R⟩,fun _ _=>True,fun _ _=>0,?_,⟨?_,?_,?_,?_⟩,(fun _ h=>nomatch h),?_⟩
 .generalize Z:(⟨fun k=>if k=0 then(a:Int)else h.getD (k-1) 0,fun _=>false,fun _=>.empty,fun _=>.tuple #[],fun k=>if k=19 then H else R⟩:Env)=q;show [Value.pointer (au (q.i 0) 0),Value.agg ((aj 1 jU).map (CV.ev q)).toArray]=_;have e0:q.i 0=a:=by rw[<-Z];rfl
  have e1:(aj 1 jU).map (CV.ev q)=pM h:=by
   rw[<-Z,f]
   match t,j with
   | [a1,a2,a3,a4,a5,a6,a7,a8,a9,E,G,I,K,M,N,O],_=>rfl
  rw[e0,kC,e1]
 .intro r hr ho;simp [Cd]at hr;rcases hr with rfl | rfl
  .exact⟨H,aC,Hl.le_refl _⟩
  .cases ho
 .intro r hr ho;simp [Cd]at hr;rcases hr with rfl | rfl
  .cases ho
  .exact⟨R,aC,Hl.le_refl _⟩
 .simp [Cd,bo.own]
 .intro r hr;simp [Cd]at hr;rcases hr with rfl | rfl<;>trivial
 .refine aD.read [] [] [] ?_;generalize c:(⟨fun k=>if k=0 then(a:Int)else h.getD (k-1) 0,fun _=>false,fun _=>.empty,fun _=>.tuple #[],fun k=>if k=19 then H else R⟩:Env)=J;have v0:J.i 0=a:=by rw[<-c];rfl
  have v1:J.i 1=b0:=by rw[<-c,<-TW];rfl
  have P:J.h 19=H:=by rw[<-c];rfl
  have g:J.h 20=R:=by rw[<-c];rfl
  have eH:(aj 1 jU).map (CV.ev J)=pM h:=by
   rw[<-c,f]
   match t,j with
   | [a1,a2,a3,a4,a5,a6,a7,a8,a9,E,G,I,K,M,N,O],_=>rfl
  simp only[go_sem,Nat.reduceAdd,Mr,fr0,fr1,tr2];intro q1 g1 _;have t0:Int.toNat 0=0:=rfl;have t1:Int.toNat 1=1:=rfl;have t64:Int.toNat 64=64:=rfl;obtain⟨da,s,m,es,clock,l,ad⟩:=id A;have c0:R.cell a 0=some dp:=by rw[z.cell];rfl
  have c1:R.cell a 1=some (.int .i64 L.frm):=by rw[z.cell];rfl
  obtain⟨f0,f1⟩:=z.1.frm;have ep:Value.pointer (au (bD (R.cell a 0) 0) (bD (R.cell a 0) 1))=dp:=by rw[c0,l];exact kC da
  have wk:bh (R.cell a 0) Kd.ptr=true:=by rw[c0,l];rfl
  have Q:bh (R.cell a 1) (Kd.int .i64)=true:=by rw[c1];rfl
  have⟨S,ae⟩:0<=b0/\b0<18446744073709551616:=by rw[<-TW];exact hh.2.1
  have r0:=Int.tmod_nonneg 2 S;have r1:=Int.tmod_lt_of_pos b0 (by decide:(0:Int)<2);have ei:IntKind.i64.wrap (bO (R.cell a 1)+IntKind.i64.wrap (b0.tmod 2))=L.frm+(h.getD 0 0).tmod 2:=by
   rw[c1,TW];show IntKind.i64.wrap (L.frm+IntKind.i64.wrap (b0.tmod 2))=_;rw[wrap_i64 (n:=b0.tmod 2) ah ah];exact wrap_i64 ah ah
  have e1:(aj 1 ([Ck.int IntKind.u64,Ck.int IntKind.u64]++List.replicate 16 (Ck.int IntKind.u8))).map (CV.ev q1)=pM h:=by
   rw[<-eH];exact CV.gN (g1.mono az) _ (cV jU 1)
  rw[e1];refine⟨Qe hh,fun q2 g2 ⟨F2,b,_,_⟩ q3 g3 _=>?_⟩;have b:Value.agg (List.map (CV.ev q2) (aj 22 (uX 32))).toArray=Value.agg (aS (cw (iu (.agg (pM h).toArray)))).toArray:=b;rw[pQ hh.1]at b;have b:List.map (CV.ev q2) (aj 22 (uX 32))=aS (cw h):=by simpa using b
  have e3:List.map (CV.ev q3) (aj 22 (List.replicate 32 (Ck.int IntKind.u8)))=aS (cw h):=by
   rw[<-b];exact CV.gN (g3.mono az) _ (cV (uX 32) 22)
  have T:ai 21 J q3:=(g1.tr g2).tr g3;rw[e3,T.i 0,v0,T.h 20,g,aac,t0,t1];refine⟨ah,wk,Q,⟨ah,az,az⟩,fun B g4 ⟨af,ag,C,_⟩=>?_⟩;have o:ai 21 J B:=T.tr g4;have U:(cw h++cw h).length=64:=by rw[aaA,El hh.1]
  have C:c9 (B.h 55) 5 (.slice (au (B.i 55) 0) (Int.toNat 64) (B.i 56).toNat) (cw h++cw h):=by
   unfold c9;rw[U,gQ];exact C
  rw[En,ar,aq,o.i 0,v0,o.i 1,v1,o.h 20,g,o.h 19,P,aac,ep,ei];refine⟨⟨dp,_,_,cw h++cw h,H,_,D,rfl,rfl,rfl,A,C.rd⟩,fun q5 g5 ⟨F,⟨p',i',u',bs',H',R',D',H2,hx,V,hR,W,u,v,d,hv⟩,_,_⟩=>?_⟩;cases hx;cases V;cases hR;have e:=W.uniq A;subst e;have e:=u.uniq C.rd;subst e;simp only[Value.int.injEq,acu,aae,abw]at hv v;rw[<-v]at d;have G5:ai 21 J q5:=o.tr g5;have out:∀ (q':Env) (n:Nat) (vs:List Nat) (t:Mem) (r:Int×DM),jS D' L.frm h=r->aE (q'.h n) dp r.2->q'.i n=r.1 ->
   postOf se [.pointer (some ⟨a,0,none⟩),.agg (pM h).toArray] [H] [R] q' (.hp n vs [.hP 20 (.var 0) (.lit 0) 0 0] []::t) (.sv (.one (.int .i64 (.var n)))):=by
   intro q' n vs t r hr h1 h2 _;refine⟨[[0]],[],rfl,rfl,⟨(ba fun _=>q'.i n),rfl,zzT,zzT⟩,_,h,H,R,dp,sl,L,D',_,rfl,rfl,rfl,⟨a,rfl,z⟩,A,hh,rfl,?_,?_⟩
   .show aE (bY [q'.h n]) _ _;rw[aJ,hr];exact h1
   .show Value.int .i64 (q'.i n)=_;rw[h2,hr]
  rw[G5.i 0,v0,G5.h 20,g,aac,ep];refine⟨fun X=>out q5 57 _ _ _ ?_ d hv,fun heq=>⟨⟨dp,_,_,rfl,rfl,d⟩,fun q6 g6 ⟨F,⟨p',H',D2,H3,hx,V,Y,w,x,y⟩,_,_⟩=>?_⟩⟩
  .unfold jS;rw[ab9 (by rw[<-hv];exact X)]
  .cases hx;cases V;have e:=Y.uniq d;subst e;simp only[Value.int.injEq,acu,aae,abw]at y w;rw[<-w]at x;refine out q6 59 _ _ _ ?_ x y;unfold jS;rw[aa8 (by rw[<-hv,heq];simp)]
def jV (dp sl:Value) (L:LM):Obj:=.cells (mM dp sl L).toArray 196 (0,0)
def eJ (H:Hl) (p dp:Value) (L:LM) (bs:List Int):Prop:=∃ (a:Nat) (sl:Value) (HB:Hl),p=.pointer (some ⟨a,0,none⟩)/\L.ok/\c9 HB 5 sl bs/\(Hl.one a (jV dp sl L)).bq HB/\H=bY [Hl.one a (jV dp sl L),HB]
def eJ.parts (h:eJ H p dp L bs):∃ sl,fM H p dp sl L/\pz H sl bs:=by
 obtain⟨a,sl,HB,rfl,hok,b,hd,rfl⟩:=h;refine⟨sl,⟨a,rfl,hok,?_⟩,?_⟩
 .exact Hl.aV _ _ _ _ (Hl.aK _ _)
 .obtain⟨x,y,c,hv,hy,h⟩:=b.rd;refine⟨x,y,c,hv,hy,h.imp id fun⟨h0,h⟩=>⟨h0,fun j z hz=>?_⟩⟩;have hle:HB.le (bY [Hl.one a (jV dp sl L),HB]):=by
   show HB.le ((Hl.one a (jV dp sl L)).un (bY [HB]));rw[aJ];exact Hl.bg hd
  have:=h j z hz;unfold Hl.cell at this ⊢;split at this
  .rename_i o c' T fr ho;rw[hle _ _ ho];exact this
  .cases this
def eJ.uniq (h:eJ H p dp L bs) (h':eJ H p dp' L' bs'):dp=dp'/\L=L'/\bs=bs':=by
 obtain⟨sl,h1,c⟩:=h.parts;obtain⟨sl',a,b⟩:=h'.parts;obtain⟨e1,rfl,d⟩:=h1.uniq a;exact⟨e1,d,c.uniq b⟩
def c9.pre {l:Int} (h:c9 F e (.slice (au x 0) l.toNat c.toNat) bs) (hx:-1<=x) (h0:0<=n) (hn:n.toNat<=bs.length):c9 F e (.slice (au x 0) n.toNat c.toNat) (bs.take n.toNat):=by
 obtain⟨hl,h⟩:=h;have e1:(bs.take n.toNat).length=n.toNat:=by rw[ace];omega
 refine⟨by rw[bN];omega,?_⟩;rw[e1];rcases h with ⟨h,hb⟩ | ⟨g,cap,cur,h,hg,hle,hm,hs,a⟩
 .grind
 .simp only[Value.slice.injEq]at h;refine Or.inr ⟨g,cap,cur,by grind,hg,ah,hm,hs,?_⟩;have:=ach (List.take n.toNat) a;rw[List.take_take]at this;rw[afB];rw[show min n.toNat (bs.length*1)=n.toNat by omega]at this;rw[this];unfold aS;simp_all
def tq:List Ck:=[.ptr,.int .i64,.int .i64,.int .u64,.int .u64]++List.replicate 16 (.int .u8)
def je (da:Nat) (L:LM):List Int:=[(da:Int),0,L.frm,L.most,L.serial,L.size]++L.note
def XP (h:l.length=16):∃ a1 a2 a3 a4 a5 i j k m a b c d e f g,l=[a1,a2,a3,a4,a5,i,j,k,m,a,b,c,d,e,f,g]:=by
 match l,h with
 | [a1,a2,a3,a4,a5,i,j,k,m,a,b,c,d,e,f,g],_=>grind
def zy {n:Nat} (a:L.ok) (h:∀ k,k<22->q.i (n+k)=(je da L).getD k 0):(aj n tq).map (CV.ev q)=[Value.pointer (some ⟨da,0,none⟩),.int .i64 L.frm,.int .i64 L.most,.int .u64 L.serial,.int .u64 L.size]++aS L.note:=by
 obtain⟨a1,a2,a3,a4,a5,o,p,r,t,c,d,e,f,g,j,l,hn⟩:=XP a.note;have u:=ai.refl 0 q;have key:∀ (q':Env),(∀ k,k<22->q'.i k=(je da L).getD k 0)->(aj 0 tq).map (CV.ev q')=[Value.pointer (some ⟨da,0,none⟩),.int .i64 L.frm,.int .i64 L.most,.int .u64 L.serial,.int .u64 L.size]++aS L.note:=by
  intro q' h;have ag:ai 22 ((ba fun k=>(je da L).getD k 0):Env) (ba (q'.i)):=⟨fun k hk=>h k hk,fun _ _=>rfl,fun _ _=>rfl,fun _ _=>rfl,fun _ _=>rfl⟩;have e1:(aj 0 tq).map (CV.ev q')=(aj 0 tq).map (CV.ev (ba (q'.i))):=rfl;rw[e1,CV.gN ag _ (cV tq 0)];unfold je;rw[hn];have m:Value.pointer (au (da:Int) 0)=.pointer (some ⟨da,0,none⟩):=kC da;show [Value.pointer (au (da:Int) 0)]++_=_;rw[m];rfl
 have:=key ⟨fun k=>q.i (n+k),q.b,q.s,q.v,q.h⟩ h;rw[<-this];rfl
def kX {P:Program} {s:Sx.Spec} {Γ:List Sx.Spec} (a:∀ t∈Γ,t.OK P)
 (h:∀ xs Hs Rs,Hs.length=s.own.length->Rs.length=s.rd.length->(∀ (p q:Nat) H K,p≠q->Hs[p]?=some H->Hs[q]?=some K->H.bq K)->s.pre xs Hs Rs->∃ (W:aD P Γ s.fn) (J:Env) (inv:Nat->Env->Prop) (mu:Nat->Env->Nat),
  W.args.map (TV.ev J)=xs/\Entry J W.mem Hs Rs/\Path J W.path/\W.oZ ⟨Γ,inv,mu,postOf s xs Hs Rs⟩ (fun _=>0) J):s.OK P:=by
 intro w xs Hs Rs d g i j k l b;obtain⟨W,J,inv,mu,hx,o,hp,hn⟩:=h xs Hs Rs d g k b;unfold aD.oZ at hn;obtain⟨nd,u,hn⟩:=hn;have hm:=o.XX i j l;have:=AB (C:=⟨Γ,inv,mu,postOf s xs Hs Rs⟩) a (FX (C:=⟨Γ,inv,mu,postOf s xs Hs Rs⟩) a) u hm hp hn;rw[hx]at this;refine this.mono ?_;rintro e w' ⟨J',mem',r,rfl,hg,c,m⟩;obtain⟨gs,f,hl,hok,⟨n,v,x⟩,hpost⟩:=m c.bq;refine⟨n,gs.map (uY J' mem'),uY J' mem' f,by rw[v],x,fq.of c hl hok,?_⟩
 grind
def zk (D:DM) (frm:Int) (n:Int):List Int:=(D.now.drop (64*(frm+2).toNat)).take n.toNat
def Bb:Sx.Spec where
 fn:=124
 own:=[.arg 0,.link 0 0]
 rd:=[]
 res:=[.one (.int .i64)]
 pre:=fun xs Hs Rs=>∃ p a b HD dp L D,xs=[p]/\Hs=[b,HD]/\p=.pointer (some ⟨a,0,none⟩)/\lI b a dp (.slice none 0 0) L/\aE HD dp D/\D.gone=false/\0<=L.size/\64*(L.frm+2)+L.size<=64*D.n
 post:=fun xs Hs Rs v Hs' F=>∃ p a b HD dp L D c d,xs=[p]/\Hs=[b,HD]/\p=.pointer (some ⟨a,0,none⟩)/\lI b a dp (.slice none 0 0) L/\aE HD dp D/\Hs'=[c,d]/\aE d dp D/\eJ c p dp L (zk D L.frm L.size)/\v=.int .i64 0
def GC:List Sx.Spec:=[Dh]
def QG:∀ t∈GC,t.OK Tryz.prog:=fun t a=>by
 rw[GC,aaQ]at a;subst a;exact Ht
def Lu:aD Tryz.prog GC Bb.fn where
 Λ:=fun p=>if lp p then some ⟨0,[(3,TI .i64 (.var 40))],[(0,.bc 0 (aj 1 tq++[.sl (.var 41) (.lit 0) (.var 43) (.var 44),.bool (.bvar 23)]) 196),(1,.hp 45 [] [.var 1] []),(2,.hp 46 [] [.var 41] [])],47⟩else none
 args:=[TP (.var 0) (.lit 0)]
 mem:=[.bc 0 (aj 1 tq++[.sl (.lit (-1)) (.lit 0) (.lit 0) (.lit 0),.bool (.bvar 23)]) 196,.hp 24 [] [.var 1] []]
 nv:=25
def Hq (h:D.has i=true) (hg:D.gone=false):iq D i=(D.bE i,0):=by
 unfold iq
 grind
def T4 (D:DM) (L:LM) (dp:Value) (_:Nat) (q:Env):Prop:=∃ i:Nat,q.i 40=i/\q.i 43=64*i/\ -1<=q.i 41/\0<=q.i 44/\(i=0\/(64*(i:Int)-64<L.size))/\aE (q.h 45) dp D/\c9 (q.h 46) 5 (.slice (au (q.i 41) 0) (q.i 43).toNat (q.i 44).toNat) ((D.now.drop (64*(L.frm+2).toNat)).take (64*i))
def QF:Bb.OK Tryz.prog:=by
 refine kX (Γ:=GC) QG ?_;rintro xs Hs Rs al aa H ⟨p,a,Y,HD,dp,L,D,rfl,rfl,rfl,y,hD,A,hs0,an⟩;have e1:Rs=[]:=aa1.1 aa;subst e1;obtain⟨da,s,m,es,clock,I,B⟩:=id hD;have ao:=y.1.note;obtain⟨f0,f1⟩:=y.1.frm;have av:=B.ok.n;have ak:=B.ok.now;have eB:∀ (q:Env) (sl:CV),q.i 0=a->(∀ k,k<22->q.i (1+k)=(je da L).getD k 0)->q.b 23=L.over->(bo.bc 0 (aj 1 tq++[sl,.bool (.bvar 23)]) 196).hl q=Hl.one a (jV dp (sl.ev q) L):=by
  intro q sl h0 h1 h2;show Hl.one (q.i 0).toNat (.cells ((aj 1 tq++[sl,.bool (.bvar 23)]).map (CV.ev q)).toArray _ (0,0))=_;rw[acm,zy y.1 h1,h0,aac];unfold jV mM;rw[I,<-h2,abS];rfl
 refine⟨Lu,⟨fun k=>if k=0 then(a:Int)else(je da L).getD (k-1) 0,fun _=>L.over,fun _=>.empty,fun _=>.tuple #[],fun _=>HD⟩,T4 D L dp,fun _ q=>(L.size-64*q.i 40+64).toNat,?_,⟨?_,?_,?_,?_⟩,(fun _ h=>nomatch h),?_⟩
 .show [Value.pointer (au (a:Int) 0)]=_;rw[kC]
 .intro r hr ho;simp only[Lu,aaW,abd,acs]at hr;rcases hr with rfl | rfl
  .refine⟨Y,aC,?_⟩;rw[eB _ _ rfl (fun k hk=>by show(if 1+k=0 then(a:Int)else(je da L).getD (1+k-1) 0)=_;rw[aa8 ah,show 1+k-1=k by omega]) rfl];intro b o hb;obtain⟨rfl,rfl⟩:=Hl.oh hb;exact y.2
  .exact⟨HD,aC,Hl.le_refl _⟩
 .intro r hr ho;simp only[Lu,aaW,abd,acs]at hr;rcases hr with rfl | rfl<;>cases ho
 .have hd:Y.bq HD:=H 0 1 _ _ az rfl rfl;have hm:Y.mem a:=by unfold Hl.mem;rw[y.2];rfl
  refine List.Pairwise.cons (fun r hr _ _=>?_) (List.Pairwise.cons (fun r hr=>by cases hr) List.Pairwise.nil);rw[aaQ]at hr;subst hr;exact Hl.fL.2 fun h=>hd a ⟨hm,h⟩
 .intro r hr;simp only[Lu,aaW,abd,acs]at hr;rcases hr with rfl | rfl
  .show(0:Int)<=(a:Int);omega
  .trivial
 .refine aD.read [] [] [] ?_;generalize d:(⟨fun k=>if k=0 then(a:Int)else(je da L).getD (k-1) 0,fun _=>L.over,fun _=>.empty,fun _=>.tuple #[],fun _=>HD⟩:Env)=J;simp only[go_sem,Nat.reduceAdd,GC,rr0,rc0];have r0:J.i 0=a:=by rw[<-d];rfl
  have K:∀ k,k<22->J.i (1+k)=(je da L).getD k 0:=by
   intro k hk;rw[<-d];show(if 1+k=0 then(a:Int)else(je da L).getD (1+k-1) 0)=_;rw[aa8 ah,show 1+k-1=k by omega]
  have rb:J.b 23=L.over:=by rw[<-d]
  have rh:J.h 24=HD:=by rw[<-d]
  refine⟨⟨0,rfl,rfl,aba _,aba _,Or.inl rfl,?_,⟨rfl,Or.inl ⟨rfl,rfl⟩⟩⟩,fun q g ⟨i,M,f,N,ab,hi,C,x⟩=>?_⟩
  .show aE (J.h 24) dp D;rw[rh];exact hD
  .have u1:q.i 1=da:=by rw[g.i 1];exact K 0 ah
   have u2:q.i 2=0:=by rw[g.i 2];exact K 1 ah
   have u3:q.i 3=L.frm:=by rw[g.i 3];exact K 2 ah
   have u6:q.i 6=L.size:=by rw[g.i 6];exact K 5 ah
   have ep:Value.pointer (au (da:Int) 0)=dp:=by rw[kC,I]
   have es:IntKind.i64.wrap L.size=L.size:=wrap_i64 ah ah;rw[u1,u2,u3,u6,M,f,es,ep];refine⟨ah,fun aw=>?_,fun ax=>⟨N,hs0,?_,fun hd=>?_⟩⟩
   .have ei:IntKind.i64.wrap (IntKind.i64.wrap (L.frm+2)+i)=L.frm+2+i:=by
     rw[wrap_i64 (n:=L.frm+2) ah ah,wrap_i64 ah ah]
    rw[ei];have hh:D.has (L.frm+2+i)=true:=by unfold DM.has;simp only[aas];omega
    have hr:=Hq hh A;have l:=gD B.ok hh;refine⟨⟨dp,_,_,D,rfl,rfl,C⟩,fun q1 O ⟨F,⟨p',i',H',D',H2,u,hx,hH,ad,P,ae,hv,Q⟩,hF,hn⟩=>?_⟩;cases hx;cases hH;have e:=ad.uniq C;subst e;have hF:=hF trivial;subst hF;rw[hr]at hv Q;simp only[Value.tuple.injEq,acp,aae,Value.int.injEq,acu,abw]at hv P;obtain⟨rfl,af⟩:=hv;obtain⟨⟨ag,t,E,ay⟩,_⟩:=hn;have t:0<=q1.i 48:=t;have E:0<=q1.i 49:=E;obtain⟨v,c⟩:=Q.rd.at ag t E;have v:q1.i 49=64:=by rw[v];show(((D'.bE (L.frm+2+i)).length:Nat):Int)=64;rw[l];rfl
    have c:0<=q1.i 47/\∀ j z,(D'.bE (L.frm+2+i))[j]?=some z->(q1.h 48).cell (q1.i 47).toNat ((q1.i 48).toNat+j)=some (.int .u8 z):=by
     rcases c with ⟨_,c⟩ | c
     .have c:D'.bE (L.frm+2+i)=[]:=c;rw[c]at l;cases l
     .exact c
    obtain⟨ai,c⟩:=c;have R:q1.i 43=64*i:=by rw[O.i 43,f]
    rw[O.h 46,O.i 41,O.i 44,R,v];rw[f]at x;have w:((D'.now.drop (64*(L.frm+2).toNat)).take (64*i)).length=64*i:=by rw[ace,acy];omega
    have S:aO (q.h 46) 5 1 (.slice (au (q.i 41) 0) (64*(i:Int)).toNat (q.i 44).toNat) (64*(i:Int)).toNat (aS ((D'.now.drop (64*(L.frm+2).toNat)).take (64*i))):=by
     unfold c9 at x;rw[w]at x;rw[show(64*(i:Int)).toNat=64*i by omega]at x ⊢;exact x
    refine⟨fun h=>absurd af h,fun _=>⟨⟨⟨_,S⟩,ah,Or.inl ⟨ai,t,ah,fun j G=>?_⟩,by unfold maxLen;omega,ah⟩,fun q2 Z ⟨a1,a2,a3,_⟩=>?_⟩⟩
    .have G:j<(D'.bE (L.frm+2+i)).length:=by have:(64:Int).toNat=64:=rfl;omega
     exact⟨_,c j _ (aad G),rfl⟩
    .have T:bK (q1.h 48) (q1.i 47).toNat (q1.i 48).toNat (Int.toNat 64)=aS (D'.bE (L.frm+2+i)):=by
      unfold bK;apply ack;intro j;rw[abl,fJ];rcases acN j 64 with G | G
      .rw[show(64:Int).toNat=64 from rfl,acf G,acr,c j _ (aad ah),aad ah];rfl
      .rw[abA (by simpa using G),abA ah];rfl
     have hx:=a3 _ S;rw[T]at hx;have U:(D'.now.drop (64*(L.frm+2).toNat)).take (64*(i+1))=(D'.now.drop (64*(L.frm+2).toNat)).take (64*i)++D'.bE (L.frm+2+i):=by
      rw[show 64*(i+1)=64*i+64 by omega,agl,aft];unfold DM.bE;rw[show 64*(L.frm+2).toNat+64*i=64*(L.frm+2+i).toNat by omega]
     have V:(assign q2 [⟨40,0,.int .i64 (.wrap .i64 (.add (.var 40) (.lit 1)))⟩,⟨41,0,.int .i64 (.var 52)⟩,⟨43,0,.int .i64 (.add (.var 43) (.var 49))⟩,⟨44,0,.int .i64 (.var 53)⟩] [(45,some 47),(46,some 52)]).i 40=i+1:=by
      show IntKind.i64.wrap (q2.i 40+1)=_;rw[Z.i 40,O.i 40,M,wrap_i64 ah ah]
     have W:(assign q2 [⟨40,0,.int .i64 (.wrap .i64 (.add (.var 40) (.lit 1)))⟩,⟨41,0,.int .i64 (.var 52)⟩,⟨43,0,.int .i64 (.add (.var 43) (.var 49))⟩,⟨44,0,.int .i64 (.var 53)⟩] [(45,some 47),(46,some 52)]).i 43=64*i+64:=by
      show q2.i 43+q2.i 49=_;rw[Z.i 43,Z.i 49,R,v]
     refine⟨⟨i+1,by rw[V];omega,by rw[W];omega,a1,a2,Or.inr ah,?_,?_⟩,by rw[V];omega⟩
     .show aE (q2.h 47) dp D';rw[Z.h 47,P];exact ae
     .rw[W];show c9 (q2.h 52) _ (.slice (au (q2.i 52) 0) (64*(i:Int)+64).toNat (q2.i 53).toNat) _;rw[U];unfold c9;rw[gQ,aaA,w,l];rw[show(64*(i:Int)).toNat+Int.toNat 64=64*i+64 by have:(64:Int).toNat=64:=rfl;omega]at hx;rw[show(64*(i:Int)+64).toNat=64*i+64 by omega];exact hx
   .have:=c9.cap x ah ab;omega
   .have X:=hd 0 2 _ _ az rfl rfl rfl;have eb:=eB q (.sl (.var 41) (.lit 0) (.var 6) (.var 44)) (by rw[g.i 0,r0]) (fun k hk=>by rw[g.i (1+k)];exact K k hk) (by rw[g.b 23,rb]);have ev:CV.ev q (.sl (.var 41) (.lit 0) (.var 6) (.var 44))=.slice (au (q.i 41) 0) L.size.toNat (q.i 44).toNat:=by
     simp only[CV.ev,ar,aq,u6]
    rw[ev]at eb;refine⟨[[0,2],[1]],[],rfl,rfl,⟨(ba fun _=>0),rfl,zzT,zzT⟩,_,a,Y,HD,dp,L,D,_,_,rfl,rfl,rfl,y,hD,rfl,?_,?_,rfl⟩
    .show aE (bY [q.h 45]) _ _;rw[aJ];exact C
    .refine⟨a,.slice (au (q.i 41) 0) L.size.toNat (q.i 44).toNat,q.h 46,rfl,y.1,?_,?_,?_⟩
     .rw[f]at x;have w:((D.now.drop (64*(L.frm+2).toNat)).take (64*i)).length=64*i:=by
       rw[ace,acy];rcases hi with rfl | hi<;>omega
      have:=c9.pre x N hs0 (by rw[w];omega);rw[List.take_take,show min L.size.toNat (64*i)=L.size.toNat by omega]at this;exact this
     .rw[<-eb];exact X
     .exact ach (fun z=>bY [z,q.h 46]) eb
def IN (n c:Int):0<=ky n c/\ky n c<18446744073709551616:=by
 unfold ky;have h:∀ x:Int,0<=IntKind.u64.wrap x/\IntKind.u64.wrap x<18446744073709551616:=fun x=>⟨Int.emod_nonneg _ az,Int.emod_lt_of_pos _ az⟩;exact h _
def zY (l:List Int):0<=fY l/\fY l<18446744073709551616:=by
 have h:∀ (l:List Int) (n:Int),(0<=n/\n<18446744073709551616)->0<=l.foldl ky n/\l.foldl ky n<18446744073709551616:=by
  intro l
  induction l with
  | nil=>grind
  | cons c l ih=>exact fun n _=>ih _ (IN n c)
 exact h l 0 ah
def pT (a:D.ok) (frm:Int) (hm:0<=most) (place:Int):uu (bw D frm most place).1/\(bw D frm most place).1.getD 1 0<=most:=by
 have hz:uu ij/\ij.getD 1 0<=most:=⟨⟨rfl,⟨aba _,az⟩,aba _,az⟩,hm⟩;unfold bw;split
 .exact hz
 .rename_i h;have h:(iq D (frm+place)).2=0:=by simpa using h
  obtain⟨_,_,e,hl⟩:=Hr a h;split
  .rename_i hg;have b:=zY (((iq D (frm+place)).1.take 32).take 8);have r1:=zY ((((iq D (frm+place)).1.take 32).drop 8).take 8);refine⟨⟨?_,b,r1⟩,hg.2.2⟩;unfold AJ
   grind
  .exact hz
def Be {frm:Int} (h:D.has (frm+place)=true):(bw D frm most place).2=if D.gone then 5 else 0:=by
 unfold bw iq
 grind
def AK (frm most:Int) (h:List Int):LM:=⟨frm,most,h.getD 0 0,h.getD 1 0,h.drop 2,false⟩
def kP (D:DM) (frm n:Int):Int:=if n<3\/frm<0\/(D.n:Int)<frm\/(D.n:Int)-frm<n then 1 else if D.gone then 5 else 0
def qz (D:DM) (frm n:Int):List Int:=if(bw D frm (64*(n-2)) 0).1.getD 0 0<(bw D frm (64*(n-2)) 1).1.getD 0 0 then(bw D frm (64*(n-2)) 1).1 else(bw D frm (64*(n-2)) 0).1
def kQ (D:DM) (frm n:Int):LM:=AK frm (64*(n-2)) (qz D frm n)
def lP (D:DM) (frm n:Int):List Int:=zk D frm (kQ D frm n).size
def yu:Sx.Spec where
 fn:=72
 own:=[.arg 0]
 rd:=[]
 res:=[.one .ptr,.one (.int .i64)]
 links:=[0]
 pre:=fun xs Hs Rs=>∃ dp frm n H D,xs=[dp,.int .i64 frm,.int .i64 n]/\Hs=[H]/\aE H dp D
 post:=fun xs Hs Rs v Hs' F=>∃ dp frm n H D H' a,xs=[dp,.int .i64 frm,.int .i64 n]/\Hs=[H]/\aE H dp D/\Hs'=[H']/\aE H' dp D/\v=.tuple #[a,.int .i64 (kP D frm n)]/\(kP D frm n=0->eJ F a dp (kQ D frm n) (lP D frm n))/\(kP D frm n≠0->a=.pointer none)
def GV:List Sx.Spec:=[mX,oc,Bb]
def Q4:∀ t∈GV,t.OK Tryz.prog:=ak yG <| ak Nw <| ak QF <| bu
def GU:aD Tryz.prog GV yu.fn where
 Λ:=aA
 args:=[TP (.var 0) (.lit 0),TI .i64 (.var 1),TI .i64 (.var 2)]
 mem:=[.hp 3 [] [.var 0] []]
 nv:=4
def og2:GV[2]?=some Bb:=rfl
def or0:mX.res=[.one (.int .i64)]:=rfl
def or1:oc.res=[.agg jU,.one (.int .i64)]:=rfl
def or2:Bb.res=[.one (.int .i64)]:=rfl
def OT (l:List CV):List CV:=[.hptr (.var 0) (.lit 0),.int .i64 (.var 1),.int .i64 (.wrap .i64 (.mul (.lit 64) (.wrap .i64 (.sub (.var 2) (.lit 2)))))]++l++[.sl (.lit (-1)) (.lit 0) (.lit 0) (.lit 0),.bool .ff]
def aeb {l:List CV} {frm:Int} (h0:q.i 0=da) (h1:q.i 1=frm) (a:q.i 2=n) (hn:3<=n/\n<=16384) (hh:h.length=18) (hl:l.map (CV.ev q)=pM h) :
 (bo.bc 8 (OT l) 196).hl q=Hl.one (q.i 8).toNat (jV (.pointer (some ⟨da,0,none⟩)) (.slice none 0 0) (AK frm (64*(n-2)) h)):=by
 show Hl.one (q.i 8).toNat (.cells ((OT l).map (CV.ev q)).toArray _ (0,0))=_;have e:(OT l).map (CV.ev q)=mM (.pointer (some ⟨da,0,none⟩)) (.slice none 0 0) (AK frm (64*(n-2)) h):=by
  unfold OT;rw[acm,acm,hl];have b:Value.pointer (au (q.i 0) 0)=.pointer (some ⟨da,0,none⟩):=by rw[h0,kC]
  have em:IntKind.i64.wrap (64*IntKind.i64.wrap (q.i 2-2))=64*(n-2):=by
   rw[a,wrap_i64 (n:=n-2) ah ah,wrap_i64 ah ah]
  show [Value.pointer (au (q.i 0) 0),Value.int .i64 (q.i 1),Value.int .i64 (IntKind.i64.wrap (64*IntKind.i64.wrap (q.i 2-2)))]++pM h++[Value.slice (au (-1) 0) 0 0,Value.bool false]=_;rw[b,em,h1,dr];unfold mM AK pM;simp only[afg,adk,abS]
 rw[e];rfl
def Gp {n:Nat} (e:(aj n jU).map (CV.ev q)=pM h):q.i n=h.getD 0 0:=by
 have:=ach (fun l=>l[0]?) e;simpa [jU,aj,Ck.cv,CV.ev,pM,ar] using this
def Ql {frm:Int} (hf:0<=frm/\frm<=16384) (hn:3<=n/\n<=16384) (hh:h.length=18):(AK frm (64*(n-2)) h).ok:=⟨hf,⟨by show 0<=64*(n-2);omega,by show 64*(n-2)<=_;omega⟩,by show(h.drop 2).length=16;grind⟩
def Q3:yu.OK Tryz.prog:=by
 refine Spec.cM (Γ:=GV) Q4 ?_;rintro xs Hs Rs a1 aN ⟨dp,frm,n,H,D,rfl,rfl,T⟩;have e1:Rs=[]:=aa1.1 aN;subst e1;obtain⟨da,s,m,es,clock,U,V⟩:=id T;have a2:=V.ok.n;refine⟨GU,aM [da,frm,n] false [Hl.none,Hl.none,Hl.none,H],fun _ _=>True,fun _ _=>0,?_,⟨?_,?_,?_,?_⟩,(fun _ h=>nomatch h),?_⟩
 .show [Value.pointer (au (da:Int) 0),Value.int .i64 frm,Value.int .i64 n]=_;rw[kC,U]
 .intro r hr ho;simp [GU]at hr;subst hr;exact⟨H,aC,Hl.le_refl _⟩
 .intro r hr ho;simp [GU]at hr;subst hr;cases ho
 .simp [GU]
 .intro r hr;simp [GU]at hr;subst hr;trivial
 .refine aD.read [] [] [] ?_;generalize aO:aM [(da:Int),frm,n] false [Hl.none,Hl.none,Hl.none,H]=J;obtain⟨⟨v0,v1,v2,_⟩,_,_,_,w3,_⟩:=jn aO;have ep:Value.pointer (au (da:Int) 0)=dp:=by rw[kC,U]
  have bad:∀ (q:Env) (k:Nat) (vs:List Nat) (t:Mem) (x:E) (e:Int),aE (q.h k) dp D->aw q x=e->kP D frm n=e->e≠0 ->
   postOf yu [dp,.int .i64 frm,.int .i64 n] [H] [] q (.hp k vs [.var 0] []::t) (.tup [.one (.hptr (.lit (-1)) (.lit 0)),.one (.int .i64 x)]):=by
   intro q k vs t x e o hx he aP _;refine⟨[[0]],[],rfl,rfl,⟨(ba fun j=>[-1,0,e].getD j 0),?_,⟨by grind,aba _⟩,zzT,zzT⟩,dp,frm,n,H,D,_,.pointer none,rfl,rfl,T,rfl,?_,?_,fun h=>absurd (he.symm.trans h) aP,fun _=>rfl⟩
   .subst hx;rfl
   .show aE (bY [q.h k]) _ _;rw[aJ];exact o
   .rw[he,<-hx];rfl
  simp only[go_sem,Nat.reduceAdd,GV,og2,or0,or1,or2];rw[v0,v1,v2,w3,ep];refine⟨fun h3=>⟨fun h0=>⟨⟨dp,H,D,rfl,rfl,T⟩,fun q1 g1 ⟨F,⟨p',H',D',H2,hx,C,W,G,I,hv⟩,_,_⟩=>?_⟩,fun h0=>bad _ 3 _ _ _ 1 (by rw[w3];exact T) (aq _ _) (by unfold kP;grind) az⟩,fun h3=>bad _ 3 _ _ _ 1 (by rw[w3];exact T) (aq _ _) (by unfold kP;grind) az⟩;cases hx;cases C;have e:=W.uniq T;subst e;simp only[Value.int.injEq,acu,aae,abw]at hv G;rw[<-G]at I;have hv:q1.i 4=D'.n:=hv;rw[g1.i 0,g1.i 1,v0,v1,hv,ep];refine⟨fun f=>⟨⟨dp,_,D',rfl,rfl,I⟩,fun q2 g2 ⟨F,⟨p',H',b,H3,hx,C,W,ab,X,K⟩,_,_⟩=>?_⟩,fun f=>bad _ 4 _ _ _ 1 I (aq _ _) (by unfold kP;grind) az⟩;cases hx;cases C;have e:=W.uniq I;subst e;simp only[Value.int.injEq,acu,aae,abw]at K ab;rw[<-ab]at X;have K:q2.i 6=b.n:=K;have h3:3<=n:=ah;have h0:0<=frm:=ah;have f:frm<=b.n:=ah;have ad:IntKind.i64.wrap ((b.n:Int)-frm)=b.n-frm:=wrap_i64 ah ah;rw[g2.i 1,g2.i 2,g1.i 1,g1.i 2,v1,v2,K,ad];refine⟨fun hr=>bad _ 6 _ _ _ 1 X (aq _ _) (by unfold kP;grind) az,fun hr q3 g3 p8=>?_⟩;have hr:n<=b.n-frm:=ah;have G3:ai 4 J q3:=(g1.tr g2).tr g3;have Q:3<=n/\n<=16384:=⟨h3,ah⟩;have ae:0<=frm/\frm<=16384:=⟨h0,ah⟩;have af:0<=64*(n-2):=ah;have L:∀ q:Env,0<=q.i 8->Value.pointer (au (q.i 8) 0)=.pointer (some ⟨(q.i 8).toNat,0,none⟩):=fun q h=>by rw[av h];rfl
  have rd:∀ (q:Env) (l:List CV) (h:List Int),ai 4 J q->h.length=18->l.map (CV.ev q)=pM h->0<=q.i 8 ->
   lI ((bo.bc 8 (OT l) 196).hl q) (q.i 8).toNat dp (.slice none 0 0) (AK frm (64*(n-2)) h):=by
   intro q l h o hh hl u;refine⟨Ql ae Q hh,?_⟩;rw[aeb (by rw[o.i 0,v0]) (by rw[o.i 1,v1]) (by rw[o.i 2,v2]) Q hh hl,U];exact Hl.aK _ _
  have call:∀ (q:Env) (l:List CV) (h:List Int) (k:Nat) (place:Int),ai 4 J q->h.length=18->l.map (CV.ev q)=pM h->0<=q.i 8->aE (q.h k) dp b->(place=0\/place=1) ->
   oc.pre [.pointer (au (q.i 8) 0),.int .u64 place] [q.h k] [(bo.bc 8 (OT l) 196).hl q]:=by
   intro q l h k place o hh hl u hd hp;exact⟨_,place,_,_,dp,_,_,b,rfl,rfl,rfl,⟨_,L q u,rd q l h o hh hl u⟩,hd,hp⟩
  have back:∀ (q:Env) (l:List CV) (h:List Int) (k:Nat) (place:Int) (v:Value) (H' F:Hl),ai 4 J q->h.length=18->l.map (CV.ev q)=pM h->0<=q.i 8->aE (q.h k) dp b ->
   oc.post [.pointer (au (q.i 8) 0),.int .u64 place] [q.h k] [(bo.bc 8 (OT l) 196).hl q] v [H'] F ->
   aE H' dp b/\v=.tuple #[.agg (pM (bw b frm (64*(n-2)) place).1).toArray,.int .i64 (bw b frm (64*(n-2)) place).2]:=by
   intro q l h k place v H' F o hh hl u hd ⟨p',aI,Hx,R,dp',sl',L',Dx,a3,hx,C,hR,hL,M,g,Y,N⟩;cases hx;cases C;have hR:(bo.bc 8 (OT l) 196).hl q=R:=by simpa using hR
   subst hR;obtain⟨e1,e2,e3⟩:=hL.uniq ⟨_,L q u,rd q l h o hh hl u⟩;subst e1 e2 e3;have e:=M.uniq hd;subst e;simp only[aae,abw]at g;subst g;exact⟨Y,N⟩
  have inr:∀ place:Int,place=0\/place=1->b.has (frm+place)=true:=by
   intro place hp;unfold DM.has;simp only[aas];omega
  have oE:kP b frm n=if b.gone then 5 else 0:=by
   unfold kP;rw[aa8 ah]
  have leaf:∀ (q:Env) (l:List CV) (h:List Int),ai 4 J q->uu h->h.getD 1 0<=64*(n-2)->l.map (CV.ev q)=pM h->0<=q.i 8->aE (q.h 29) dp b->b.gone=false->qz b frm n=h ->
   (Bb.pre [.pointer (au (q.i 8) 0)] [(bo.bc 8 (OT l) 196).hl q,q.h 29] [] /\
   ∀ q':Env,ai 49 q q'->(∃ F,Bb.post [.pointer (au (q.i 8) 0)] [(bo.bc 8 (OT l) 196).hl q,q.h 29] [] (.int .i64 (q'.i 49)) (newHs q' 49 2) F/\(aL 0 [Cp.one (Ck.int .i64)]≠[]->q'.h 51=F)/\bR 49 [Cp.one (Ck.int .i64)] q') ->
    (¬q'.i 49=0->postOf yu [dp,.int .i64 frm,.int .i64 n] [H] [] q' [.hp 50 [29,9,6,4,3] [.var 0] [],.hp 49 [] [.var 8] [],.dead,.dead] (.tup [.one (.hptr (.lit (-1)) (.lit 0)),.one (.int .i64 (.var 49))])) /\
    (q'.i 49=0->postOf yu [dp,.int .i64 frm,.int .i64 n] [H] [] q' [.hp 50 [29,9,6,4,3] [.var 0] [],.hp 49 [] [.var 8] [],.dead,.dead] (.tup [.one (.hptr (.var 8) (.lit 0)),.one (.int .i64 (.lit 0))]))):=by
   intro q l h o hh aQ hl u hd a aR;refine⟨⟨_,_,_,_,dp,_,b,rfl,rfl,L q u,rd q l h o hh.1 hl u,hd,a,hh.2.2.1,?_⟩,fun q' g' ⟨F,⟨p',a',HL,aS,dp',L',Dx,ag,ak,hx,C,hp,hL,M,g,Y,aT,N⟩,_,_⟩=>?_⟩
   .show 64*(frm+2)+h.getD 1 0<=64*(b.n:Int);omega
   .have hx:Value.pointer (au (q.i 8) 0)=p':=by simpa using hx
    subst hx;have C:(bo.bc 8 (OT l) 196).hl q=HL/\q.h 29=aS:=by simpa using C
    obtain⟨aU,G⟩:=C;subst aU G;have e:=M;obtain⟨e1,e2,e3⟩:=fM.uniq ⟨a',hp,hL⟩ ⟨_,L q u,rd q l h o hh.1 hl u⟩;subst e1 e3;have e:=M.uniq hd;subst e;have g:q'.h 49=ag/\q'.h 50=ak:=by
     have h1:[q'.h 49,q'.h 50]=[ag,ak]:=g;simpa using h1
    obtain⟨aV,aW⟩:=g;simp only[Value.int.injEq,acu]at N;refine⟨fun h=>absurd N h,fun _ _=>⟨[[0]],[1],rfl,rfl,⟨(ba fun j=>[q'.i 8,0,0].getD j 0),rfl,⟨?_,aba _⟩,zzT,zzT⟩,_,frm,n,H,Dx,_,Value.pointer (au (q'.i 8) 0),rfl,rfl,T,rfl,?_,?_,fun _=>?_,fun h=>absurd (by rw[oE,a];rfl) h⟩⟩
    .show -1<=q'.i 8;rw[g'.i 8];omega
    .show aE (bY [q'.h 50]) _ _;rw[aJ,aW];exact Y
    .rw[oE,a];rfl
    .show eJ (bY [q'.h 49]) _ _ _ _;rw[aJ,aV,g'.i 8];unfold lP kQ;rw[aR];exact aT
  have al:∀ q:Env,([CV.int .u64 (.lit 0),CV.int .u64 (.lit 0)]++List.replicate 16 (CV.int .u8 (.lit 0))).map (CV.ev q)=pM ij:=fun q=>rfl;obtain⟨w,an⟩:=pT V.ok frm af 0;obtain⟨ao,ax⟩:=pT V.ok frm af 1;have ay:aE (q3.h 6) dp b:=by rw[g3.h 6];exact X
  refine⟨call q3 _ ij 6 0 G3 rfl (al q3) p8 ay (Or.inl rfl),fun q4 g4 ⟨F,aX,_,_⟩ p S _=>?_⟩;obtain⟨aY,aA⟩:=back q3 _ ij 6 0 _ _ _ G3 rfl (al q3) p8 ay aX;simp only[Value.tuple.injEq,acp,aae,Value.int.injEq,Value.agg.injEq,acu,abw]at aA;obtain⟨aZ,c⟩:=aA;have c:q4.i 27=(bw b frm (64*(n-2)) 0).2:=c;rw[Be (inr 0 (Or.inl rfl))]at c;have G5:ai 4 J p:=(G3.tr g4).tr S;have O:List.map (CV.ev p) (aj 9 jU)=pM (bw b frm (64*(n-2)) 0).1:=by
   rw[CV.gN (S.mono az) _ (cV jU 9)];exact aZ
  have P:0<=p.i 8:=by rw[S.i 8,g4.i 8];exact p8
  have d:aE (p.h 9) dp b:=by rw[S.h 9];exact aY
  refine⟨fun y=>bad p 9 _ _ _ 5 d (by rw[ar,S.i 27,c,ab9];exact aee fun hg=>y (by rw[S.i 27,c,aa8 hg])) (by rw[oE,ab9];exact aee fun hg=>y (by rw[S.i 27,c,aa8 hg])) az,fun y=>?_⟩;have a:b.gone=false:=by
   cases hg:b.gone with
   | false=>rfl
   | true=>rw[S.i 27,c,hg]at y;cases y
  have aB:∀ (A:Env),ai 29 p A->∀ F,oc.post [.pointer (au (p.i 8) 0),.int .u64 1] [p.h 9] [(bo.bc 8 (OT (aj 9 jU)) 196).hl p] (.tuple #[.agg (List.map (CV.ev A) (aj 29 jU)).toArray,.int .i64 (A.i 47)]) [A.h 29] F ->
   ∀ q7,ai 48 A q7->q7.i 47=0/\ai 4 J q7/\0<=q7.i 8/\aE (q7.h 29) dp b/\List.map (CV.ev q7) (aj 29 jU)=pM (bw b frm (64*(n-2)) 1).1/\List.map (CV.ev q7) (aj 9 jU)=pM (bw b frm (64*(n-2)) 0).1:=by
   intro A Z F z q7 B;obtain⟨aF,aG⟩:=back p _ _ 9 1 _ _ _ G5 w.1 O P d z;simp only[Value.tuple.injEq,acp,aae,Value.int.injEq,Value.agg.injEq,acu,abw]at aG;obtain⟨a0,aH⟩:=aG;rw[Be (inr 1 (Or.inr rfl)),a]at aH;refine⟨by rw[B.i 47,aH];rfl,(G5.tr Z).tr B,by rw[B.i 8,Z.i 8];exact P,by rw[B.h 29];exact aF,?_,?_⟩
   .rw[CV.gN (B.mono az) _ (cV jU 29)];exact a0
   .rw[CV.gN ((Z.tr B).mono az) _ (cV jU 9)];exact O
  have both:∀ (q7:Env),ai 4 J q7->0<=q7.i 8->aE (q7.h 29) dp b->List.map (CV.ev q7) (aj 29 jU)=pM (bw b frm (64*(n-2)) 1).1->List.map (CV.ev q7) (aj 9 jU)=pM (bw b frm (64*(n-2)) 0).1 ->
   (q7.i 9<q7.i 29->qz b frm n=(bw b frm (64*(n-2)) 1).1)/\(¬q7.i 9<q7.i 29->qz b frm n=(bw b frm (64*(n-2)) 0).1):=by
   intro q7 _ _ _ h1 h2;rw[Gp h1,Gp h2];exact⟨fun h=>by unfold qz;rw[ab9 h],fun h=>by unfold qz;rw[aa8 h]⟩
  constructor
  .intro _;refine⟨call p _ _ 9 1 G5 w.1 O P d (Or.inr rfl),fun A Z ⟨F,z,_,_⟩ q7 B _=>?_⟩;obtain⟨z1,z2,z3,z4,z5,z6⟩:=aB A Z F z q7 B;obtain⟨b1,b2⟩:=both q7 z2 z3 z4 z5 z6;exact⟨fun h=>absurd z1 h,fun _=>⟨fun f=>leaf q7 (aj 29 jU) _ z2 ao ax z5 z3 z4 a (b1 f),fun aa=>leaf q7 (aj 9 jU) _ z2 w an z6 z3 z4 a (b2 aa)⟩⟩
  .intro _;refine⟨call p _ _ 9 1 G5 w.1 O P d (Or.inr rfl),fun A Z ⟨F,z,_,_⟩ q7 B _=>?_⟩;obtain⟨z1,z2,z3,z4,z5,z6⟩:=aB A Z F z q7 B;obtain⟨b1,b2⟩:=both q7 z2 z3 z4 z5 z6;exact⟨fun h=>absurd z1 h,fun _=>⟨fun f=>leaf q7 (aj 29 jU) _ z2 ao ax z5 z3 z4 a (b1 f),fun aa=>leaf q7 (aj 9 jU) _ z2 w an z6 z3 z4 a (b2 aa)⟩⟩
def uO (sl:Value) (n:Nat):Prop:=∃ (x y:Int) (c:Nat),sl=.slice (au x y) n c/\ -1<=x/\0<=y
def c9.uO (h:c9 F e v bs):uO v bs.length:=by
 obtain⟨x,c,hx,hv,_⟩:=c9.rep h;exact⟨x,0,c,hv,hx,aba _⟩
def pz.uO (h:pz F v bs):uO v bs.length:=by
 obtain⟨x,y,c,hv,hy,h⟩:=h;exact⟨x,y,c,hv,by rcases h with ⟨h,_⟩ | ⟨h,_⟩<;>omega,hy⟩
def uO.uniq {n:Nat} (h:uO sl n) (h':uO sl m):n=m:=by
 obtain⟨x,y,c,rfl,_⟩:=h;obtain⟨x',y',c',he,_⟩:=h';simp only[Value.slice.injEq]at he;exact he.2.1
def Ce (hx:-1<=x) (n c:Nat):bD (some (.slice (au x y) n c)) 0=x:=by
 rcases ad9 x 0 with h | h
 .obtain rfl:x= -1:=ah;rfl
 .rw[av h];show((x.toNat:Nat):Int)=x;omega
def Ij (hx:0<=x) (hy:0<=y) (n c:Nat):bD (some (.slice (au x y) n c)) 1=y:=by
 rw[av hx];show((y.toNat:Nat):Int)=y;omega
def px (hx:-1<=x) (n c:Nat):bD (some (.slice (au x y) n c)) 2=n:=by
 rcases ad9 x 0 with h | h
 .obtain rfl:x= -1:=ah;rfl
 .rw[av h];rfl
def tR (a:Nat) (R1 R2:Hl):Env:=aM [(a:Int)] false [Hl.none,R2,R1]
def yx:Mem:=[.ro 1 [.hP 2 (.var 0) (.lit 21) 0 0] false,.ro 2 [.var 0] false]
def EN (a:Nat) (R1 R2:Hl) (Rs:List Hl) (h1:R1∈Rs) (b:R2∈Rs):Entry (tR a R1 R2) yx [] Rs:=by
 refine⟨fun r hr ho=>?_,fun r hr ho=>?_,?_,fun r hr=>?_⟩
 .simp [yx]at hr;rcases hr with rfl | rfl<;>cases ho
 .simp [yx]at hr;rcases hr with rfl | rfl
  .exact⟨R2,b,Hl.le_refl _⟩
  .exact⟨R1,h1,Hl.le_refl _⟩
 .simp [yx,bo.own]
 .simp [yx]at hr;rcases hr with rfl | rfl<;>trivial
def yB:Sx.Spec where
 fn:=157
 own:=[]
 rd:=[0]
 res:=[.one (.int .i64)]
 pre:=fun xs Hs Rs=>∃ p R dp sl L n,xs=[p]/\Rs=[R]/\fM R p dp sl L/\uO sl n/\n<=1048576
 post:=fun xs Hs Rs v Hs' F=>∃ p R dp sl L n,xs=[p]/\Rs=[R]/\fM R p dp sl L/\uO sl n/\v=.int .i64 (L.most-n)
def abD:aD Tryz.prog [] yB.fn where
 Λ:=aA
 args:=[TP (.var 0) (.lit 0)]
 mem:=yx
 nv:=3
def qX:Sx.Spec where
 fn:=125
 own:=[]
 rd:=[0]
 res:=[.agg (uX 16)]
 pre:=fun xs Hs Rs=>∃ p R dp sl L,xs=[p]/\Rs=[R]/\fM R p dp sl L
 post:=fun xs Hs Rs v Hs' F=>∃ p R dp sl L,xs=[p]/\Rs=[R]/\fM R p dp sl L/\v=.agg (aS L.note).toArray
def XQ:aD Tryz.prog [] qX.fn where
 Λ:=aA
 args:=[TP (.var 0) (.lit 0)]
 mem:=yx
 nv:=3
def lI.ZC (h:lI R a dp sl L):R.cell a 21=some sl:=by
 rw[h.cell];unfold mM;rw[abO aC,abO (by rw[bN,h.1.note];simp)];rw[bN,h.1.note];rfl
def lI.Ui (h:lI R a dp sl L):∀ j z,L.note[j]?=some z->R.cell a (5+j)=some (.int .u8 z):=by
 intro j z hz;rw[h.cell];unfold mM;have b:=(aaG.1 hz).1;rw[abO aC,acb (by rw[bN];simp;omega),fJ];rw[show 5+j-_=j from by simp,hz];rfl
def HF:yB.OK Tryz.prog:=by
 refine Spec.jN (Γ:=[]) (fun _ h=>by cases h) rfl ?_;rintro xs Rs ⟨p,R,dp,sl,L,n,rfl,rfl,⟨a,rfl,e⟩,hs,hn⟩;refine⟨abD,tR a R R,fun _ _=>True,fun _ _=>0,?_,EN a R R _ aC aC,rfl,?_⟩
 .show [Value.pointer (au (a:Int) 0)]=_;rw[kC]
 .refine aD.read [] [] [] ?_;simp only[go_sem,Nat.reduceAdd];have v0:(tR a R R).i 0=a:=rfl;have w2:(tR a R R).h 2=R:=rfl;have c2:R.cell a 2=some (.int .i64 L.most):=by rw[e.cell];rfl
  have b:=e.ZC;obtain⟨x,y,c,d,hx,hy⟩:=id hs;obtain⟨f,m1⟩:=e.1.most;rw[v0,w2,aac,show Int.toNat 2=2 from rfl,show Int.toNat 21=21 from rfl,c2,b,d];refine⟨ah,rfl,rfl,by rw[px hx];omega,fun _=>⟨[],[],rfl,rfl,⟨(ba fun _=>L.most-n),?_,zzT,zzT⟩,_,R,dp,sl,L,n,rfl,rfl,⟨a,rfl,e⟩,hs,?_⟩⟩
  all_goals
   show Value.int .i64 (IntKind.i64.wrap (bO (R.cell ((a:Int)).toNat 2)-bD (R.cell ((a:Int)).toNat 21) 2))=Value.int .i64 (L.most-n);rw[aac,c2,b,d];rw[px hx];show Value.int .i64 (IntKind.i64.wrap (L.most-(n:Int)))=_;rw[wrap_i64 ah ah]
def CY:qX.OK Tryz.prog:=by
 refine Spec.jN (Γ:=[]) (fun _ h=>by cases h) rfl ?_;rintro xs Rs ⟨p,R,dp,sl,L,rfl,rfl,⟨a,rfl,b⟩⟩;refine⟨XQ,tR a R R,fun _ _=>True,fun _ _=>0,?_,EN a R R _ aC aC,rfl,?_⟩
 .show [Value.pointer (au (a:Int) 0)]=_;rw[kC]
 .refine aD.read [] [] [] ?_;simp only[go_sem,Nat.reduceAdd];intro q g _;have v0:q.i 0=a:=g.i 0;have w2:q.h 2=R:=g.h 2;have d:=b.Ui;rw[v0,w2,aac,show Int.toNat 5=5 from rfl,show Int.toNat 16=16 from rfl];have e:(aU 2 (E.var 0) (E.lit 5) 0 (List.replicate 16 (Kd.int IntKind.u8))).map (CV.ev q)=aS L.note:=by
   refine jk 16 0 _ b.1.note fun i z hz=>?_;rw[ar,aq,v0,w2,aac,aco];exact d _ _ hz
  refine⟨ah,dd d (by rw[b.1.note];omega),fun _=>⟨[],[],rfl,rfl,?_,_,R,dp,sl,L,rfl,rfl,⟨a,rfl,b⟩,?_⟩⟩
  .obtain⟨c,_,_,f⟩:=cE (uX 16) 0 (aS L.note) (ba fun _=>0) (mo 16 _ b.1.note);refine⟨c,?_,cf _ _ _ az,zzT⟩;show Value.agg (List.map (CV.ev q) _).toArray=Value.agg ((aj 0 (uX 16)).map (CV.ev c)).toArray;rw[e,f]
  .show Value.agg (List.map (CV.ev q) _).toArray=_;rw[e]
def bU:Sx.Spec where
 fn:=75
 own:=[]
 rd:=[0,1021]
 res:=[.one .sl]
 pre:=fun xs Hs Rs=>∃ p R1 R2 dp sl L bs,xs=[p]/\Rs=[R1,R2]/\fM R1 p dp sl L/\pz R2 sl bs/\bs.length<=1048576
 post:=fun xs Hs Rs v Hs' F=>∃ p R1 R2 dp sl L bs,xs=[p]/\Rs=[R1,R2]/\fM R1 p dp sl L/\pz R2 sl bs/\c9 F 5 v bs
def WN:aD Tryz.prog [] bU.fn where
 Λ:=aA
 args:=[TP (.var 0) (.lit 0)]
 mem:=yx
 nv:=3
def CF:bU.OK Tryz.prog:=by
 refine Spec.jN (Γ:=[]) (fun _ h=>by cases h) rfl ?_;rintro xs Rs ⟨p,R1,R2,dp,sl,L,bs,rfl,rfl,⟨a,rfl,r⟩,hB,hn⟩;refine⟨WN,tR a R1 R2,fun _ _=>True,fun _ _=>0,?_,EN a R1 R2 _ aC aC,rfl,?_⟩
 .show [Value.pointer (au (a:Int) 0)]=_;rw[kC]
 .refine aD.read [] [] [] ?_;simp only[go_sem,Nat.reduceAdd];have f:=r.ZC;obtain⟨x,y,c,d,hy,s⟩:=id hB;have hx:-1<=x:=by rcases s with ⟨h,_⟩ | ⟨h,_⟩<;>omega
  have w2:(tR a R1 R2).h 2=R1:=rfl;have v0:(tR a R1 R2).i 0=a:=rfl;have t0:Int.toNat 0=0:=rfl;rw[v0,w2,aac,show Int.toNat 21=21 from rfl,f,d,Ce hx];refine⟨ah,rfl,fun h=>fun _=>?_,fun h q g p3=>?_⟩
  .have t:bs=[]:=by
    rcases s with ⟨_,h'⟩ | ⟨h',_⟩
    .exact h'
    .omega
   subst t;exact⟨[],[],rfl,rfl,⟨(ba fun k=>[-1,0,0,0].getD k 0),rfl,⟨by show(-1:Int)<= -1;omega,aba _,aba _,aba _⟩,zzT⟩,_,R1,R2,dp,sl,L,[],rfl,rfl,⟨a,rfl,r⟩,hB,⟨rfl,Or.inl ⟨rfl,rfl⟩⟩⟩
  .have m:0<=x:=ah;have b:∀ (j:Nat) (z:Int),bs[j]?=some z->R2.cell x.toNat (y.toNat+j)=some (.int .u8 z):=by
    rcases s with ⟨h',_⟩ | ⟨_,h'⟩
    .omega
    .exact h'
   have u:=d;rw[g.i 0,v0,g.h 2,w2,g.h 1,show(tR a R1 R2).h 1=R2 from rfl,aac,f,d,Ce hx,Ij m hy,px hx,t0,aac];have e:aO (Hl.one (q.i 3).toNat (.cells #[] 5 (0,0))) 5 1 (.slice (au (q.i 3) 0) 0 0) 0 []:=⟨rfl,Or.inr ⟨(q.i 3).toNat,0,#[],by rw[av p3];rfl,Hl.aK _ _,ah,az,rfl,rfl⟩⟩;refine⟨⟨⟨[],e⟩,ah,Or.inl ⟨m,hy,ah,fun j l=>?_⟩,by unfold maxLen;omega,ah⟩,fun q2 w ⟨a1,a2,a3,_⟩=>?_⟩
   .exact⟨_,b j _ (aad l),rfl⟩
   .have n:bK R2 x.toNat y.toNat bs.length=aS bs:=by
     unfold bK;apply ack;intro j;rw[abl,fJ];rcases acN j bs.length with l | l
     .rw[acf l,acr,b j _ (aad l),aad l];rfl
     .rw[abA (by simpa using l),abA ah];rfl
    have o:=a3 _ e;rw[n,adk,aco]at o;have v:ai 3 (tR a R1 R2) q2:=g.tr w;have ev:(TV.sv (SV.one (CV.sl (.var 4) (.lit 0) (.hP 2 (.var 0) (.lit 21) 0 2) (.var 5)))).ev q2=.slice (au (q2.i 4) 0) bs.length (q2.i 5).toNat:=by
     show Value.slice (au (q2.i 4) 0) (aw q2 (.hP 2 (.var 0) (.lit 21) 0 2)).toNat (q2.i 5).toNat=_;rw[fC,ar,aq,v.i 0,v0,v.h 2,w2,aac,show Int.toNat 21+0=21 from rfl,f,d,px hx,aac]
    refine fun _=>⟨[],[2],rfl,rfl,⟨(ba fun k=>[q2.i 4,0,bs.length,q2.i 5].getD k 0),?_,⟨a1,aba _,by show(0:Int)<=(bs.length:Int);omega,a2⟩,zzT⟩,_,R1,R2,dp,sl,L,bs,rfl,rfl,⟨a,rfl,r⟩,hB,?_⟩
    .rw[ev];show _=Value.slice (au (q2.i 4) 0) ((bs.length:Int)).toNat (q2.i 5).toNat;rw[aac]
    .rw[ev];show c9 (bY [q2.h 4]) _ _ _;rw[aJ];exact o
def Ih {q:Env} : ∀ (m n:Nat) (l:List Int),l.length=m->(∀ k,k<m->q.i (n+k)=l.getD k 0)->(aj n (List.replicate m (Ck.int .u8))).map (CV.ev q)=aS l
 | 0,n,[],_,_=>rfl
 | m+1,n,z::l,hl,h=>by
  rw[agp];show CV.ev q (.int .u8 (.var n))::(aj (n+1) (List.replicate m (Ck.int .u8))).map (CV.ev q)=Value.int .u8 z::aS l;rw[Ih m (n+1) l (by grind) fun k hk=>by grind]
  congr 1
  show Value.int .u8 (q.i n)=_;have:=h 0 ah
  grind
 | 0,_,_::_,h,_=>by simp at h
 | _+1,_,[],h,_=>by simp at h
def vX (L:LM) (all nt:List Int):List Int:=(L.serial+1)::(all.length:Int)::nt
def bW (D:DM) (L:LM) (all nt:List Int) (n:Nat):Int×DM :=
 if(iD D L.frm all n).1≠0 then(5,(iD D L.frm all n).2)
 else if(jS (iD D L.frm all n).2 L.frm (vX L all nt)).1≠0 then(5,(jS (iD D L.frm all n).2 L.frm (vX L all nt)).2)
 else(0,(jS (iD D L.frm all n).2 L.frm (vX L all nt)).2)
def qP (L:LM) (all nt:List Int):LM:=⟨L.frm,L.most,L.serial+1,all.length,nt,L.over⟩
def LG (L:LM):LM:={L with over:=true}
def vf:Sx.Spec where
 fn:=186
 own:=[.arg 0,.arg 1,.link 0 0]
 rd:=[]
 res:=[.one (.int .i64)]
 pre:=fun xs Hs Rs=>∃ p a u all nt H HA HD dp sl L n D,xs=[p,u,.agg (aS nt).toArray,.bool true]/\Hs=[H,HA,HD]/\p=.pointer (some ⟨a,0,none⟩)/\lI H a dp sl L/\uO sl n/\n<=1048576/\c9 HA 5 u all/\all.length<=1048576/\nt.length=16/\aE HD dp D/\0<=L.serial/\L.serial<4611686018427387904
 post:=fun xs Hs Rs v Hs' F=>∃ p a u all nt H HA HD dp sl L n D H' c b,xs=[p,u,.agg (aS nt).toArray,.bool true]/\Hs=[H,HA,HD]/\p=.pointer (some ⟨a,0,none⟩)/\lI H a dp sl L/\uO sl n/\c9 HA 5 u all/\aE HD dp D/\Hs'=[H',c,b]/\aE b dp (bW D L all nt n).2/\v=.int .i64 (bW D L all nt n).1 /\
  ((bW D L all nt n).1=0->eJ H' p dp (qP L all nt) all)/\((bW D L all nt n).1≠0->H'=Hl.one a (jV dp sl (LG L)))
def zg:List Sx.Spec:=[Gc,se]
def IL:∀ t∈zg,t.OK Tryz.prog:=ak PU <| ak Cc <| bu
def zf:aD Tryz.prog zg vf.fn where
 Λ:=aA
 args:=[TP (.var 0) (.lit 0),.sv (.one (.sl (.var 1) (.var 2) (.var 3) (.var 4))),.sv (.agg (aj 5 (uX 16))),.sv (.one (.bool (.bvar 60)))]
 mem:=[.bc 0 (aj 21 tq++[.sl (.var 43) (.var 44) (.var 45) (.var 46),.bool (.bvar 47)]) 196,.hp 48 [] [.var 1] [],.hp 49 [] [.var 21] []]
 nv:=61
def br0:Gc.res=[.one (.int .i64)]:=rfl
def br1:se.res=[.one (.int .i64)]:=rfl
def IJ (a:Nat) (x:Int) (n c:Nat) (nt:List Int) (da:Nat) (L:LM) (sx sy:Int) (b sc:Nat) (HA HD:Hl):Env :=
 ⟨fun k=>if k<5 then [(a:Int),x,0,n,c].getD k 0 else if k<21 then nt.getD (k-5) 0 else if k<43 then(je da L).getD (k-21) 0 else [sx,sy,(b:Int),(sc:Int)].getD (k-43) 0,fun k=>if k=60 then true else L.over,fun _=>.empty,fun _=>.tuple #[],fun k=>if k=48 then HA else HD⟩
def IK:vf.OK Tryz.prog:=by
 refine kX (Γ:=zg) IL ?_;rintro xs Hs Rs aG af l ⟨p,a,u,all,nt,H,HA,HD,dp,sl,L,n,D,rfl,rfl,rfl,y,K,hn,U,hall,A,W,hs0,aH⟩;have e1:Rs=[]:=aa1.1 af;subst e1;obtain⟨da,s,m,es,clock,M,aI⟩:=id W;obtain⟨x,c,hx,hu,hc,ag⟩:=c9.rep U;obtain⟨sx,sy,sc,G,aL,aM⟩:=id K;have eB:∀ (q:Env),ai 61 (IJ a x all.length c nt da L sx sy n sc HA HD) q->(bo.bc 0 (aj 21 tq++[.sl (.var 43) (.var 44) (.var 45) (.var 46),.bool (.bvar 47)]) 196).hl q=Hl.one a (jV dp sl L):=by
  intro q g;have h1:∀ k,k<22->q.i (21+k)=(je da L).getD k 0:=fun k hk=>by
   rw[g.i _ ah];show(if 21+k<5 then _ else if 21+k<21 then _ else if 21+k<43 then(je da L).getD (21+k-21) 0 else _)=_
   grind
  show Hl.one (q.i 0).toNat (.cells ((aj 21 tq++[CV.sl (.var 43) (.var 44) (.var 45) (.var 46),.bool (.bvar 47)]).map (CV.ev q)).toArray _ (0,0))=_;rw[acm,zy y.1 h1,g.i 0];have e1:CV.ev q (.sl (.var 43) (.var 44) (.var 45) (.var 46))=sl:=by
   simp only[CV.ev,ar,g.i 43,g.i 44,g.i 45,g.i 46];rw[G];show Value.slice (au sx sy) ((n:Int)).toNat ((sc:Int)).toNat=_
   grind
  have e2:CV.ev q (.bool (.bvar 47))=.bool L.over:=by
   show Value.bool (q.b 47)=_;rw[g.b 47];rfl
  rw[abW,abW,acI,e1,e2,abS,<-M];rfl
 refine⟨zf,IJ a x all.length c nt da L sx sy n sc HA HD,fun _ _=>True,fun _ _=>0,?_,⟨?_,?_,?_,?_⟩,(fun _ h=>nomatch h),?_⟩
 .show [Value.pointer (au (a:Int) 0),Value.slice (au x 0) ((all.length:Int)).toNat ((c:Int)).toNat,Value.agg ((aj 5 (uX 16)).map (CV.ev _)).toArray,Value.bool true]=_;unfold uX;rw[kC,aac,aac,<-hu,Ih 16 5 nt A fun k hk=>?_];show(if 5+k<5 then _ else if 5+k<21 then nt.getD (5+k-5) 0 else _)=_
  grind
 .intro r hr ho;simp only[zf,aaW,abd,acs]at hr;rcases hr with rfl | rfl | rfl
  .refine⟨H,aC,?_⟩;rw[eB _ (ai.refl _ _)];intro b o hb;obtain⟨rfl,rfl⟩:=Hl.oh hb;exact y.2
  .exact⟨HA,aC,Hl.le_refl _⟩
  .exact⟨HD,aC,Hl.le_refl _⟩
 .intro r hr ho;simp only[zf,aaW,abd,acs]at hr;rcases hr with rfl | rfl | rfl<;>cases ho
 .have d1:H.bq HA:=l 0 1 _ _ az rfl rfl;have d2:H.bq HD:=l 0 2 _ _ az rfl rfl;have d3:HA.bq HD:=l 1 2 _ _ az rfl rfl;have hm:H.mem a:=by unfold Hl.mem;rw[y.2];rfl
  refine List.Pairwise.cons (fun r hr _ _=>?_) (List.Pairwise.cons (fun r hr _ _=>?_) (List.Pairwise.cons (fun r hr=>by cases hr) List.Pairwise.nil))
  .simp only[aaW,abd,acs]at hr;rw[eB _ (ai.refl _ _)];rcases hr with rfl | rfl
   .exact Hl.fL.2 fun h=>d1 a ⟨hm,h⟩
   .exact Hl.fL.2 fun h=>d2 a ⟨hm,h⟩
  .rw[aaQ]at hr;subst hr;exact d3
 .intro r hr;simp only[zf,aaW,abd,acs]at hr;rcases hr with rfl | rfl | rfl
  .show(0:Int)<=(a:Int);omega
  .trivial
  .trivial
 .refine aD.read [] [] [] ?_;generalize f:IJ a x all.length c nt da L sx sy n sc HA HD=J at eB ⊢;have v0:J.i 0=a:=by rw[<-f];rfl
  have v1:J.i 1=x:=by rw[<-f];rfl
  have v2:J.i 2=0:=by rw[<-f];rfl
  have v3:J.i 3=all.length:=by rw[<-f];rfl
  have v4:J.i 4=c:=by rw[<-f];rfl
  have ak:J.i 45=n:=by rw[<-f];rfl
  have al:J.b 60=true:=by rw[<-f];rfl
  have X:J.h 48=HA:=by rw[<-f];rfl
  have an:J.h 49=HD:=by rw[<-f];rfl
  have rk:∀ k,k<22->J.i (21+k)=(je da L).getD k 0:=fun k hk=>by
   rw[<-f];show(if 21+k<5 then _ else if 21+k<21 then _ else if 21+k<43 then(je da L).getD (21+k-21) 0 else _)=_
   grind
  have rn:∀ k,k<16->J.i (5+k)=nt.getD k 0:=fun k hk=>by
   rw[<-f];show(if 5+k<5 then _ else if 5+k<21 then nt.getD (5+k-5) 0 else _)=_
   grind
  simp only[go_sem,Nat.reduceAdd,zg,br0,br1];intro q1 g1 _;rw[g1.i 3,v3];refine⟨ah,fun q2 g2 _=>?_⟩;have v:ai 61 J q2:=g1.tr g2;rw[v.b 60,al];refine⟨fun _=>?_,fun h=>absurd rfl h⟩;rw[v.i 0,v0,v.i 1,v1,v.i 2,v2,v.i 3,v3,v.i 4,v4,v.i 45,ak,v.h 48,X,v.h 49,an,kC,aac,aac,<-hu];have ls:∀ q:Env,ai 61 J q->CV.ev q (.sl (.var 43) (.var 44) (.var 45) (.var 46))=sl:=by
   intro q g;simp only[CV.ev,ar,g.i 43,g.i 44,g.i 45,g.i 46];rw[<-f,G];show Value.slice (au sx sy) ((n:Int)).toNat ((sc:Int)).toNat=_
   grind
  have V:∀ q:Env,ai 61 J q->∀ k,k<22->q.i (21+k)=(je da L).getD k 0:=fun q g k hk=>by rw[g.i _ ah];exact rk k hk
  have Y:∀ q:Env,ai 61 J q->Hl.one a (Obj.cells (List.map (CV.ev q) (aj 21 ([Ck.ptr,Ck.int IntKind.i64,Ck.int IntKind.i64,Ck.int IntKind.u64,Ck.int IntKind.u64]++List.replicate 16 (Ck.int IntKind.u8)++[Ck.sl,Ck.bool]))).toArray 196 (0,0))=Hl.one a (jV dp sl L):=by
   intro q g;have h:Hl.one (q.i 0).toNat (Obj.cells (List.map (CV.ev q) (aj 21 ([Ck.ptr,Ck.int IntKind.i64,Ck.int IntKind.i64,Ck.int IntKind.u64,Ck.int IntKind.u64]++List.replicate 16 (Ck.int IntKind.u8)++[Ck.sl,Ck.bool]))).toArray 196 (0,0))=Hl.one a (jV dp sl L):=eB q g;rw[g.i 0,v0,aac]at h;exact h
  have eT:∀ q:Env,ai 61 J q->(bo.bc 0 (aj 21 ([Ck.ptr,Ck.int IntKind.i64,Ck.int IntKind.i64,Ck.int IntKind.u64,Ck.int IntKind.u64]++List.replicate 16 (Ck.int IntKind.u8)++[Ck.sl])++[CV.bool E.tt]) 196).hl q=Hl.one a (jV dp sl (LG L)):=by
   intro q g;have h:(bo.bc 0 (aj 21 ([Ck.ptr,Ck.int IntKind.i64,Ck.int IntKind.i64,Ck.int IntKind.u64,Ck.int IntKind.u64]++List.replicate 16 (Ck.int IntKind.u8)++[Ck.sl])++[CV.bool E.tt]) 196).hl q=Hl.one (q.i 0).toNat (.cells ((aj 21 tq++[CV.sl (.var 43) (.var 44) (.var 45) (.var 46),.bool .tt]).map (CV.ev q)).toArray 196 (0,0)):=rfl;rw[h,acm,zy y.1 (V q g),g.i 0,v0,abW,abW,acI,ls q g,abS,<-M,aac];rfl
  have eN:∀ q:Env,ai 61 J q->(aj 5 (List.replicate 16 (Ck.int IntKind.u8))).map (CV.ev q)=aS nt:=fun q g=>Ih 16 5 nt A fun k hk=>by rw[g.i _ ah];exact rn k hk
  have i23:∀ q:Env,ai 61 J q->q.i 21=da/\q.i 22=0/\q.i 23=L.frm/\q.i 24=L.most/\q.i 25=L.serial:=fun q g=>⟨V q g 0 ah,V q g 1 ah,V q g 2 ah,V q g 3 ah,V q g 4 ah⟩;have wS:IntKind.u64.wrap (L.serial+1)=L.serial+1:=wrap_u64 ah ah;have wL:IntKind.u64.wrap (all.length:Int)=all.length:=wrap_u64 ah ah;have eH:∀ q:Env,ai 61 J q->List.map (CV.ev q) ([CV.int IntKind.u64 (E.wrap IntKind.u64 ((E.var 25).add (E.lit 1))),CV.int IntKind.u64 (E.wrap IntKind.u64 (E.var 3))]++aj 5 (List.replicate 16 (Ck.int IntKind.u8)))=pM (vX L all nt):=by
   intro q g;rw[acm,eN q g];show [Value.int .u64 (IntKind.u64.wrap (q.i 25+1)),Value.int .u64 (IntKind.u64.wrap (q.i 3))]++aS nt=_;rw[(i23 q g).2.2.2.2,g.i 3,v3,wS,wL];rfl
  have eG:∀ q:Env,ai 61 J q->(bo.bc 0 ([CV.hptr (E.var 21) (E.var 22),CV.int IntKind.i64 (E.var 23),CV.int IntKind.i64 (E.var 24),CV.int IntKind.u64 (E.wrap IntKind.u64 ((E.var 25).add (E.lit 1))),CV.int IntKind.u64 (E.wrap IntKind.u64 (E.var 3))]++aj 5 (List.replicate 16 (Ck.int IntKind.u8))++[CV.sl (E.var 1) (E.var 2) (E.var 3) (E.var 4),CV.bool (E.bvar 47)]) 196).hl q=Hl.one a (jV dp u (qP L all nt)):=by
   intro q g;show Hl.one (q.i 0).toNat (.cells (List.map (CV.ev q) _).toArray _ (0,0))=_;rw[acm,acm,eN q g];obtain⟨j0,j1,j2,j3,j4⟩:=i23 q g;have eb:q.b 47=L.over:=by rw[g.b 47,<-f];rfl
   show Hl.one (q.i 0).toNat (.cells ([Value.pointer (au (q.i 21) (q.i 22)),.int .i64 (q.i 23),.int .i64 (q.i 24),.int .u64 (IntKind.u64.wrap (q.i 25+1)),.int .u64 (IntKind.u64.wrap (q.i 3))]++aS nt++[Value.slice (au (q.i 1) (q.i 2)) (q.i 3).toNat (q.i 4).toNat,.bool (q.b 47)]).toArray _ (0,0))=_;rw[j0,j1,j2,j3,j4,eb,g.i 0,v0,g.i 1,v1,g.i 2,v2,g.i 3,v3,g.i 4,v4,wS,wL,kC,<-M,aac,aac,aac,<-hu,abS];rfl
  have B:fM (Hl.one a (jV dp sl L)) (.pointer (some ⟨a,0,none⟩)) dp sl L:=⟨a,rfl,y.1,Hl.aK _ _⟩;have bad:∀ (q:Env) (k:Nat) (vs:List Nat) (t:Mem) (r:Int×DM),ai 61 J q->bW D L all nt n=r->r.1=5->aE (q.h k) dp r.2 ->
   postOf vf [.pointer (some ⟨a,0,none⟩),u,.agg (aS nt).toArray,.bool true] [H,HA,HD] [] q (.bc 0 (aj 21 ([Ck.ptr,Ck.int IntKind.i64,Ck.int IntKind.i64,Ck.int IntKind.u64,Ck.int IntKind.u64]++List.replicate 16 (Ck.int IntKind.u8)++[Ck.sl])++[CV.bool E.tt]) 196::.hp 48 [] [.var 1] []::.hp k vs [.var 21] []::t) (.sv (.one (.int .i64 (.lit 5)))):=by
   intro q k vs t r hq hr h5 hd _;refine⟨[[0],[1],[2]],[],rfl,rfl,⟨(ba fun _=>5),rfl,zzT,zzT⟩,_,a,u,all,nt,H,HA,HD,dp,sl,L,n,D,_,_,_,rfl,rfl,rfl,y,K,U,W,rfl,?_,?_,fun h=>?_,fun _=>?_⟩
   .show aE (bY [q.h k]) _ _;rw[aJ,hr];exact hd
   .rw[hr,h5];rfl
   .grind
   .show bY [_]=_;rw[aJ];exact eT q hq
  rw[aac,Y q2 v];refine⟨ah,⟨_,u,all,n,HD,_,HA,dp,sl,L,D,rfl,rfl,rfl,B,U,W,ah,ah,ah⟩,fun N g3 ⟨F,⟨p',u',d,ao,Hx,R1,R2,dp',sl',L',I,H2,hx,O,P,aq,av,aw,Q,C,R⟩,_,_⟩=>?_⟩;have hx:Value.pointer (some ⟨a,0,none⟩)=p'/\u=u'/\(n:Int)=ao:=by simpa using hx
  obtain⟨rfl,rfl,rfl⟩:=hx;have O:HD=Hx:=by simpa using O
  subst O;have P:Hl.one a (jV dp sl L)=R1/\HA=R2:=by simpa using P
  obtain⟨rfl,rfl⟩:=P;obtain⟨rfl,rfl,rfl⟩:=B.uniq aq;have e:=av.rd.uniq U.rd;subst e;have e:=aw.uniq W;subst e;have Q:N.h 63=H2:=by simpa using Q
  rw[<-Q]at C;have R:N.i 63=(iD I L.frm d n).1:=by simpa using R
  have Z:ai 61 J N:=v.tr g3;rw[Z.i 0,v0,kC,aac,Y N Z,eH N Z];have aa:uu (vX L d nt):=⟨by simp [vX,A],⟨by show 0<=L.serial+1;omega,by show L.serial+1<_;omega⟩,by show(0:Int)<=(d.length:Int);omega,by show(d.length:Int)<_;omega⟩;refine⟨fun ab=>⟨⟨_,_,_,_,dp,sl,L,_,rfl,rfl,rfl,B,C,aa⟩,fun w g4 ⟨F,⟨p',h',Hx,R1,dp',sl',L',Dy,H3,hx,O,P,ax,ay,aA,S,T,ad⟩,_,_⟩=>?_⟩,fun ab=>bad N 63 _ _ (5,(iD I L.frm d n).2) Z (by unfold bW;grind) rfl C⟩;have hx:Value.pointer (some ⟨a,0,none⟩)=p'/\Value.agg (pM (vX L d nt)).toArray=Value.agg (pM h').toArray:=by simpa using hx
  obtain⟨rfl,aB⟩:=hx;have e:=TQ aa.1 aA.1 aB;subst e;have O:N.h 63=Hx:=by simpa using O
  subst O;have P:Hl.one a (jV dp sl L)=R1:=by simpa using P
  subst P;obtain⟨rfl,rfl,rfl⟩:=B.uniq ax;have e:=ay.uniq C;subst e;have S:w.h 65=H3:=by simpa using S
  rw[<-S]at T;have ad:w.i 65=(jS (iD I L.frm d n).2 L.frm (vX L d nt)).1:=by simpa using ad
  have G4:ai 61 J w:=Z.tr g4;have aN:¬(iD I L.frm d n).1≠0:=by rw[<-R,ab];simp
  refine⟨fun aF=>bad w 65 _ _ (5,(jS (iD I L.frm d n).2 L.frm (vX L d nt)).2) G4 (by unfold bW;grind) rfl T,fun aF hd=>?_⟩;have hr:bW I L d nt n=(0,(jS (iD I L.frm d n).2 L.frm (vX L d nt)).2):=by
   unfold bW
   grind
  have j:=hd 0 1 _ _ az rfl rfl rfl;rw[eG w G4]at j;refine⟨[[0,1],[],[2]],[],rfl,rfl,⟨(ba fun _=>0),rfl,zzT,zzT⟩,_,a,u,d,nt,H,HA,HD,dp,sl,L,n,I,_,_,_,rfl,rfl,rfl,y,K,U,W,rfl,?_,?_,fun _=>?_,fun h=>?_⟩
  .show aE (bY [w.h 65]) _ _;rw[aJ,hr];exact T
  .rw[hr];rfl
  .have ae:w.h 48=HA:=by rw[G4.h 48,X]
   have j:(Hl.one a (jV dp u (qP L d nt))).bq (w.h 48):=j;rw[ae]at j;refine⟨a,u,HA,rfl,⟨y.1.frm,y.1.most,A⟩,U,j,?_⟩;rw[<-ae];exact ach (fun z=>bY [z,w.h 48]) (eG w G4)
  grind
structure AR where
 e:Int
 D:DM
 L:LM
 bs:List Int
def bp (D:DM) (L:LM) (bs b nt:List Int):AR :=
 if L.over then⟨5,D,L,bs⟩
 else if 4611686018427387904<=L.serial then⟨14,D,L,bs⟩
 else if L.most-bs.length<b.length then⟨4,D,L,bs⟩
 else if(bW D L (bs++b) nt bs.length).1=0 then⟨0,(bW D L (bs++b) nt bs.length).2,qP L (bs++b) nt,bs++b⟩
 else⟨5,(bW D L (bs++b) nt bs.length).2,LG L,bs⟩
def DR (D:DM) (L:LM) (all nt:List Int) (n:Nat):(bW D L all nt n).1=0\/(bW D L all nt n).1=5:=by
 unfold bW;split
 .exact Or.inr rfl
 .split
  .exact Or.inr rfl
  .exact Or.inl rfl
def sj:Sx.Spec where
 fn:=160
 own:=[.arg 0,.link 0 0]
 rd:=[1]
 res:=[.one (.int .i64)]
 pre:=fun xs Hs Rs=>∃ p u b nt H HD R dp L bs D,xs=[p,u,.agg (aS nt).toArray]/\Hs=[H,HD]/\Rs=[R]/\eJ H p dp L bs/\aE HD dp D/\fE R u b/\bs.length<=1048576/\nt.length=16/\0<=L.serial
 post:=fun xs Hs Rs v Hs' F=>∃ p u b nt H HD R dp L bs D H' a,xs=[p,u,.agg (aS nt).toArray]/\Hs=[H,HD]/\Rs=[R]/\eJ H p dp L bs/\aE HD dp D/\fE R u b/\Hs'=[H',a]/\aE a dp (bp D L bs b nt).D/\eJ H' p dp (bp D L bs b nt).L (bp D L bs b nt).bs/\v=.int .i64 (bp D L bs b nt).e
def zd:List Sx.Spec:=[yB,bU,vf]
def IF:∀ t∈zd,t.OK Tryz.prog:=ak HF <| ak CF <| ak IK <| bu
def zc:aD Tryz.prog zd sj.fn where
 Λ:=aA
 args:=[TP (.var 0) (.lit 0),.sv (.one (.sl (.var 1) (.var 2) (.var 3) (.var 4))),.sv (.agg (aj 5 (uX 16)))]
 mem:=[.bc 0 (aj 21 tq++[.sl (.var 43) (.var 44) (.var 45) (.var 46),.bool (.bvar 47)]) 196,.hp 48 [] [.var 21] [],.hp 49 [] [.var 43] [],.ro 50 [.var 1] false]
 nv:=51
def ar0:yB.res=[.one (.int .i64)]:=rfl
def ar1:bU.res=[.one .sl]:=rfl
def ar2:vf.res=[.one (.int .i64)]:=rfl
def ac1:(aL 0 [Cp.one .sl]≠[])=True:=by simp [aL,Cp.roots,Ck.root]
def Wt (a:Nat) (x y:Int) (n c:Nat) (nt:List Int) (da:Nat) (L:LM) (sx:Int) (b sc:Nat) (HD HB R:Hl):Env :=
 ⟨fun k=>if k<5 then [(a:Int),x,y,n,c].getD k 0 else if k<21 then nt.getD (k-5) 0 else if k<43 then(je da L).getD (k-21) 0 else [sx,0,(b:Int),(sc:Int)].getD (k-43) 0,fun _=>L.over,fun _=>.empty,fun _=>.tuple #[],fun k=>if k=48 then HD else if k=49 then HB else R⟩
def ID:sj.OK Tryz.prog:=by
 refine kX (Γ:=zd) IF ?_;rintro xs Hs Rs a9 bb an ⟨p,u,b,nt,H,HD,R,dp,L,bs,D,rfl,rfl,rfl,K,W,hB,X,Y,hs0⟩;obtain⟨a,sl,HB,rfl,hok,hO,v,hH⟩:=id K;obtain⟨da,s,m,es,clock,aM,bd⟩:=id W;obtain⟨x,y,c,hu,hy,d⟩:=id hB;obtain⟨sx,sc,bf,aN,bh,_⟩:=c9.rep hO;generalize f:Wt a x y b.length c nt da L sx bs.length sc HD HB R=J;have v0:J.i 0=a:=by rw[<-f];rfl
 have v1:J.i 1=x:=by rw[<-f];rfl
 have v2:J.i 2=y:=by rw[<-f];rfl
 have v3:J.i 3=b.length:=by rw[<-f];rfl
 have v4:J.i 4=c:=by rw[<-f];rfl
 have w:J.h 48=HD:=by rw[<-f];rfl
 have o:J.h 49=HB:=by rw[<-f];rfl
 have ao:J.h 50=R:=by rw[<-f];rfl
 have aq:J.b 47=L.over:=by rw[<-f];rfl
 have rk:∀ k,k<22->J.i (21+k)=(je da L).getD k 0:=fun k hk=>by
  rw[<-f];show(if 21+k<5 then _ else if 21+k<21 then _ else if 21+k<43 then(je da L).getD (21+k-21) 0 else _)=_;rw[aa8 ah,aa8 ah,ab9 ah,show 21+k-21=k by omega]
 have rn:∀ k,k<16->J.i (5+k)=nt.getD k 0:=fun k hk=>by
  rw[<-f];show(if 5+k<5 then _ else if 5+k<21 then nt.getD (5+k-5) 0 else _)=_;rw[aa8 ah,ab9 ah,show 5+k-5=k by omega]
 have lk:∀ q:Env,ai 51 J q->∀ k,k<22->q.i (21+k)=(je da L).getD k 0:=fun q g k hk=>by rw[g.i _ ah];exact rk k hk
 have ls:∀ q:Env,ai 51 J q->CV.ev q (.sl (.var 43) (.var 44) (.var 45) (.var 46))=sl:=by
  intro q g;simp only[CV.ev,ar,g.i 43,g.i 44,g.i 45,g.i 46];rw[<-f,aN];show Value.slice (au sx 0) ((bs.length:Int)).toNat ((sc:Int)).toNat=_;rw[aac,aac]
 have eB:∀ (q:Env),ai 51 J q->(bo.bc 0 (aj 21 tq++[.sl (.var 43) (.var 44) (.var 45) (.var 46),.bool (.bvar 47)]) 196).hl q=Hl.one a (jV dp sl L):=by
  intro q g;show Hl.one (q.i 0).toNat (.cells ((aj 21 tq++[CV.sl (.var 43) (.var 44) (.var 45) (.var 46),.bool (.bvar 47)]).map (CV.ev q)).toArray _ (0,0))=_;have e2:CV.ev q (.bool (.bvar 47))=.bool L.over:=by
   show Value.bool (q.b 47)=_;rw[g.b 47,aq]
  rw[acm,zy hok (lk q g),g.i 0,v0,abW,abW,acI,ls q g,e2,abS,<-aM,aac];rfl
 have Q:(Hl.one a (jV dp sl L)).le H:=by rw[hH];exact Hl.aV _ _
 have S:HB.le H:=by
  rw[hH];show HB.le ((Hl.one a (jV dp sl L)).un (bY [HB]));rw[aJ];exact Hl.bg v
 have av:H.bq HD:=an 0 1 _ _ az rfl rfl;refine⟨zc,J,fun _ _=>True,fun _ _=>0,?_,⟨?_,?_,?_,?_⟩,(fun _ h=>nomatch h),?_⟩
 .show [Value.pointer (au (J.i 0) 0),Value.slice (au (J.i 1) (J.i 2)) (J.i 3).toNat (J.i 4).toNat,Value.agg ((aj 5 (uX 16)).map (CV.ev J)).toArray]=_;unfold uX;rw[v0,v1,v2,v3,v4,kC,aac,aac,<-hu,Ih 16 5 nt Y rn]
 .intro r hr ho;simp only[zc,aaW,abd,acs]at hr;rcases hr with rfl | rfl | rfl | rfl
  .refine⟨H,aC,?_⟩;rw[eB J (ai.refl _ _)];exact Q
  .refine⟨HD,aC,?_⟩;show(J.h 48).le HD;rw[w];exact Hl.le_refl _
  .refine⟨H,aC,?_⟩;show(J.h 49).le H;rw[o];exact S
  .cases ho
 .intro r hr ho;simp only[zc,aaW,abd,acs]at hr;rcases hr with rfl | rfl | rfl | rfl
  .cases ho
  .cases ho
  .cases ho
  .refine⟨R,aC,?_⟩;show(J.h 50).le R;rw[ao];exact Hl.le_refl _
 .have d1:HD.bq HB:=fun k ⟨h1,h2⟩=>av k ⟨Hl.bV S h2,h1⟩;refine List.Pairwise.cons (fun r hr _ ho=>?_) (List.Pairwise.cons (fun r hr _ ho=>?_) (List.Pairwise.cons (fun r hr _ ho=>?_) (List.Pairwise.cons (fun r hr=>by cases hr) List.Pairwise.nil)))
  .simp only[aaW,abd,acs]at hr;rw[eB J (ai.refl _ _)];rcases hr with rfl | rfl | rfl
   .show Hl.bq _ (J.h 48);rw[w];exact fun k ⟨h1,h2⟩=>av k ⟨Hl.bV Q h1,h2⟩
   .show Hl.bq _ (J.h 49);rw[o];exact v
   .cases ho
  .simp only[aaW,abd,acs]at hr;rcases hr with rfl | rfl
   .show(J.h 48).bq (J.h 49);rw[w,o];exact d1
   .cases ho
  .rw[aaQ]at hr;subst hr;cases ho
 .intro r hr;simp only[zc,aaW,abd,acs]at hr;rcases hr with rfl | rfl | rfl | rfl
  .show(0:Int)<=J.i 0;rw[v0];omega
  .trivial
  .trivial
  .trivial
 .refine aD.read [] [] [] ?_;have Z:∀ q:Env,ai 51 J q->Hl.one a (Obj.cells (List.map (CV.ev q) (aj 21 ([Ck.ptr,Ck.int IntKind.i64,Ck.int IntKind.i64,Ck.int IntKind.u64,Ck.int IntKind.u64]++List.replicate 16 (Ck.int IntKind.u8)++[Ck.sl,Ck.bool]))).toArray 196 (0,0))=Hl.one a (jV dp sl L):=by
   intro q g;have h:Hl.one (q.i 0).toNat (Obj.cells (List.map (CV.ev q) (aj 21 ([Ck.ptr,Ck.int IntKind.i64,Ck.int IntKind.i64,Ck.int IntKind.u64,Ck.int IntKind.u64]++List.replicate 16 (Ck.int IntKind.u8)++[Ck.sl,Ck.bool]))).toArray 196 (0,0))=Hl.one a (jV dp sl L):=eB q g;rw[g.i 0,v0,aac]at h;exact h
  have eN:∀ q:Env,ai 51 J q->(aj 5 (List.replicate 16 (Ck.int IntKind.u8))).map (CV.ev q)=aS nt:=fun q g=>Ih 16 5 nt Y fun k hk=>by rw[g.i _ ah];exact rn k hk
  have i25:∀ q:Env,ai 51 J q->q.i 25=L.serial:=fun q g=>lk q g 4 ah;have hIn:lI (Hl.one a (jV dp sl L)) a dp sl L:=⟨hok,Hl.aK _ _⟩;have A:fM (Hl.one a (jV dp sl L)) (.pointer (some ⟨a,0,none⟩)) dp sl L:=⟨a,rfl,hIn⟩;have n:uO sl bs.length:=c9.uO hO;obtain⟨m0,m1⟩:=hok.most;have out:∀ (q:Env) (t:Mem) (e:Int),ai 51 J q->bp D L bs b nt=⟨e,D,L,bs⟩ ->
   postOf sj [.pointer (some ⟨a,0,none⟩),u,.agg (aS nt).toArray] [H,HD] [R] q (.bc 0 (aj 21 ([Ck.ptr,Ck.int IntKind.i64,Ck.int IntKind.i64,Ck.int IntKind.u64,Ck.int IntKind.u64]++List.replicate 16 (Ck.int IntKind.u8)++[Ck.sl,Ck.bool])) 196::.hp 48 [] [.var 21] []::.hp 49 [] [.var 43] []::t) (.sv (.one (.int .i64 (.lit e)))):=by
   intro q t e hq hr _;refine⟨[[0,2],[1]],[],rfl,rfl,⟨(ba fun _=>e),rfl,zzT,zzT⟩,_,u,b,nt,H,HD,R,dp,L,bs,D,_,_,rfl,rfl,rfl,K,W,hB,rfl,?_,?_,?_⟩
   .show aE (bY [q.h 48]) _ _;rw[aJ,hr,hq.h 48,w];exact W
   .rw[hr];refine⟨a,sl,HB,rfl,hok,hO,v,?_⟩;have M:q.h 49=HB:=by rw[hq.h 49,o]
    rw[<-M];exact ach (fun z=>bY [z,q.h 49]) (eB q hq)
   .rw[hr];rfl
  simp only[go_sem,Nat.reduceAdd,zd,ar0,ar1,ar2,ac1];intro q1 T _;rw[T.b 47,aq,i25 q1 T,T.i 3,v3,T.i 0,v0,kC,aac,Z q1 T];refine⟨fun ho=>out q1 _ 5 T ?_,fun ho=>⟨fun hs=>out q1 _ 14 T ?_,fun hs=>⟨ah,⟨_,_,dp,sl,L,bs.length,rfl,rfl,A,n,X⟩,fun q2 g2 ⟨F,⟨p',R',dp',sl',L',n',hx,hR,B,C,aa⟩,_,_⟩=>?_⟩⟩⟩
  .unfold bp;rw[ab9 ho]
  .unfold bp;rw[aa8 ho,ab9 hs]
  have hx:Value.pointer (some ⟨a,0,none⟩)=p':=by simpa using hx
  subst hx;have hR:Hl.one a (jV dp sl L)=R':=by simpa using hR
  subst hR;obtain⟨rfl,rfl,rfl⟩:=A.uniq B;have e:=C.uniq n;subst e;have aa:q2.i 52=L.most-bs.length:=by simpa using aa
  have G2:ai 51 J q2:=T.tr g2;rw[aa,G2.i 3,v3];refine⟨fun N=>out q2 _ 4 G2 ?_,fun N=>?_⟩
  .unfold bp;rw[aa8 ho,aa8 hs,ab9 N]
  rw[G2.i 0,v0,kC,aac,Z q2 G2,G2.h 49,o];refine⟨⟨_,_,_,dp,sl,L,bs,rfl,rfl,A,hO.rd,X⟩,fun q3 g3 ⟨F,⟨p',R1,R2,dp',sl',L',bs',hx,hR,B,aP,G⟩,hF,aQ⟩=>?_⟩;have hx:Value.pointer (some ⟨a,0,none⟩)=p':=by simpa using hx
  subst hx;have hR:Hl.one a (jV dp sl L)=R1/\HB=R2:=by simpa using hR
  obtain⟨rfl,rfl⟩:=hR;obtain⟨rfl,rfl,rfl⟩:=A.uniq B;have e:=aP.uniq hO.rd;subst e;have hF:=hF trivial;subst hF;obtain⟨⟨aR,ab,ad,bj⟩,_⟩:=aQ;have ab:0<=q3.i 54:=ab;have ad:0<=q3.i 55:=ad;obtain⟨ae,_⟩:=G.rd.at aR ab ad;have G3:ai 51 J q3:=G2.tr g3;rw[G3.i 1,v1,G3.i 2,v2,G3.i 3,v3,G3.h 50,ao,ae];rw[ae]at G;have U:aO (q3.h 53) 5 1 (.slice (au (q3.i 53) (q3.i 54)) ((bs'.length:Int)).toNat (q3.i 56).toNat) ((bs'.length:Int)).toNat (aS bs'):=by
   unfold c9 at G;rw[aac]at G ⊢;exact G
  have a7:(bs'.length:Int)+b.length<=1048576:=ah;refine⟨⟨⟨_,U⟩,ah,?_,by unfold maxLen;omega,ah⟩,fun I g4 ⟨a1,a2,a3,_⟩=>?_⟩
  .rcases d with hb | ⟨aw,d⟩
   .subst hb;exact Or.inr rfl
   .refine Or.inl ⟨aw,hy,ah,fun j O=>?_⟩;have O:j<b.length:=ah;exact⟨_,d j _ (aad O),rfl⟩
  have ax:bK R x.toNat y.toNat ((b.length:Int)).toNat=aS b:=by
   rw[aac];unfold bK;apply ack;intro j;rw[abl,fJ];rcases acN j b.length with O | O
   .rcases d with hb | ⟨aw,d⟩
    .subst hb;cases O
    .rw[acf O,acr,d j _ (aad O),aad O];rfl
   .rw[abA (by simpa using O),abA ah];rfl
  have af:=a3 _ U;rw[ax]at af;have G4:ai 51 J I:=G3.tr g4;have aT:I.i 55=bs'.length:=by rw[g4.i 55,ae]
  have ay:c9 (I.h 57) 5 (.slice (au (I.i 57) 0) ((bs'.length:Int)+b.length).toNat (I.i 58).toNat) (bs'++b):=by
   unfold c9;rw[gQ,aaA];rw[show((bs'.length:Int)+b.length).toNat=bs'.length+b.length by omega];rw[aac,aac]at af;exact af
  rw[G4.i 0,v0,kC,aac,Z I G4,eN I G4,aT,G4.i 3,v3,G4.h 48,w];refine⟨⟨_,a,_,bs'++b,nt,_,_,HD,dp,sl,L,bs'.length,D,rfl,rfl,rfl,hIn,n,X,ay,by rw[aaA];omega,Y,W,hs0,ah⟩,fun l g5 ⟨F,⟨p',a',u',a8,nt',H1,HA,aU,dp',sl',L',n',D',H',aA,aB,hx,hH,hp,B,C,aW,aX,ag,aF,P,aG,aH⟩,_,_⟩=>?_⟩;have hx:Value.pointer (some ⟨a,0,none⟩)=p'/\Value.slice (au (I.i 57) 0) ((bs'.length:Int)+b.length).toNat (I.i 58).toNat=u'/\aS nt=aS nt'/\aY I E.tt=true:=by simpa using hx
  obtain⟨aZ,a0,ak,_⟩:=hx;have ak:=lQ ak;subst aZ a0 ak;have hH:Hl.one a (jV dp sl L)=H1/\I.h 57=HA/\HD=aU:=by simpa using hH
  obtain⟨a4,a5,a6⟩:=hH;subst a4 a5 a6;have hp:a=a':=by simpa using hp
  subst hp;obtain⟨rfl,rfl,rfl⟩:=fM.uniq A ⟨a,rfl,B⟩;have e:=C.uniq n;subst e;have e:=aW.rd.uniq ay.rd;subst e;have e:=aX.uniq W;subst e;have ag:l.h 59=H'/\l.h 60=aA/\l.h 61=aB:=by
   have h1:[l.h 59,l.h 60,l.h 61]=[H',aA,aB]:=ag;simpa using h1
  obtain⟨al,bk,aI⟩:=ag;have P:l.i 59=(bW D' L (bs'++b) nt bs'.length).1:=by simpa using P
  have G5:ai 51 J l:=G4.tr g5;have M:l.h 49=HB:=by rw[G5.h 49,o]
  intro hd;by_cases hz:(bW D' L (bs'++b) nt bs'.length).1=0
  .have hr:bp D' L bs' b nt=⟨0,(bW D' L (bs'++b) nt bs'.length).2,qP L (bs'++b) nt,bs'++b⟩:=by
    unfold bp;rw[aa8 ho,aa8 hs,aa8 N,ab9 hz]
   refine⟨[[0],[1]],[],rfl,rfl,⟨(ba fun _=>l.i 59),rfl,zzT,zzT⟩,_,u,b,nt,H,HD,R,dp,L,bs',D',_,_,rfl,rfl,rfl,K,W,hB,rfl,?_,?_,?_⟩
   .show aE (bY [l.h 61]) _ _;rw[aJ,hr,aI];exact aF
   .show eJ (bY [l.h 59]) _ _ _ _;rw[aJ,hr,al];exact aG hz
   .show Value.int .i64 (l.i 59)=_;rw[hr,P,hz]
  .have h5:=(DR D' L (bs'++b) nt bs'.length).resolve_left hz;have hr:bp D' L bs' b nt=⟨5,(bW D' L (bs'++b) nt bs'.length).2,LG L,bs'⟩:=by
    unfold bp;rw[aa8 ho,aa8 hs,aa8 N,aa8 hz]
   have V:(l.h 59).bq (l.h 49):=hd 0 2 _ _ az rfl rfl rfl;have aL:=aH hz;rw[al,aL,M]at V;refine⟨[[0,2],[1]],[],rfl,rfl,⟨(ba fun _=>l.i 59),rfl,zzT,zzT⟩,_,u,b,nt,H,HD,R,dp,L,bs',D',_,_,rfl,rfl,rfl,K,W,hB,rfl,?_,?_,?_⟩
   .show aE (bY [l.h 61]) _ _;rw[aJ,hr,aI];exact aF
   .rw[hr];refine⟨a,sl,HB,rfl,⟨hok.frm,hok.most,hok.note⟩,hO,V,?_⟩;show bY [l.h 59,l.h 49]=_;rw[al,aL,M]
   .show Value.int .i64 (l.i 59)=_;rw[hr,P,h5]
structure ti (D:DM):Prop where
 ok:D.ok
 fuse:D.fuse= -1
 gone:D.gone=false
def sP (h:ti D) (hi:D.has i=true) (hb:bs.length=64):ti (tz D i bs):=⟨LU h.ok hi hb,by show(if 0<D.fuse then D.fuse-1 else D.fuse)= -1;rw[h.fuse];rfl,rfl⟩
def nJ (h:ti D) (hi:D.has i=true) (hb:bs.length=64):dy D i bs=(0,tz D i bs):=by
 unfold dy;rw[aa8 (by rw[hi,hb];simp),aa8 (by rw[h.gone];simp),aa8 (by rw[h.fuse];decide)]
def j9 (h:ti D):(cP D).1=0/\ti (cP D).2/\(cP D).2.now=D.now/\(cP D).2.n=D.n:=by
 have e:cP D=(0,⟨D.n,D.now,[],if 0<D.fuse then D.fuse-1 else D.fuse,D.gone⟩):=by
  unfold cP;rw[aa8 (by rw[h.gone];simp),aa8 (by rw[h.fuse];decide)]
 rw[e];refine⟨rfl,⟨⟨h.ok.now,h.ok.n,?_,?_,fun p hp=>by cases hp⟩,?_,h.gone⟩,rfl,rfl⟩
 .show -1<=(if 0<D.fuse then D.fuse-1 else D.fuse);rw[h.fuse];decide
 .show(if 0<D.fuse then D.fuse-1 else D.fuse)<=_;rw[h.fuse];decide
 .show(if 0<D.fuse then D.fuse-1 else D.fuse)= -1;rw[h.fuse];rfl
def BF (h:D.ok) (hi:D.has i=true) (hb:bs.length=64) (j:Nat):(tz D i bs).now[j]?=if 64*i.toNat<=j/\j<64*i.toNat+64 then bs[j-64*i.toNat]? else D.now[j]?:=by
 have hh:0<=i/\i<D.n:=by unfold DM.has at hi;simpa using hi
 show(bm D.now (64*i.toNat) bs)[j]?=_;rw[Sx.uP (by rw[h.now,hb];omega),hb]
def jl (all:List Int) (i:Nat):(pj all i).length=64:=by simp [pj]
def Sj (all:List Int) (i j:Nat) (h:j<64) (a:64*i+j<all.length):(pj all i)[j]?=all[64*i+j]?:=by
 unfold pj;rw[abl,acf h,acr,aad a,afb]
def yf (frm:Nat) (all:List Int):∀ (f i:Nat) (D:DM),ti D->all.length+1<=f+i->all.length+64*(frm+2)<=64*D.n ->
 (gl frm all f i D).1=0/\ti (gl frm all f i D).2/\(gl frm all f i D).2.n=D.n/\(∀ j,j<64*(frm+2+i)->(gl frm all f i D).2.now[j]?=D.now[j]?)/\(∀ t,64*i<=t->t<all.length->(gl frm all f i D).2.now[64*(frm+2)+t]?=all[t]?):=by
 intro f
 induction f with
 | zero =>
  intro i D h h1 m;obtain⟨a,b,c,d⟩:=j9 h;show(cP D).1=0/\_;refine⟨a,b,d,fun j _=>?_,fun t o k=>ah⟩;show(cP D).2.now[j]?=_;rw[c]
 | succ f ih =>
  intro i D h h1 m;have p:(frm:Int)+2+i=((frm+2+i:Nat):Int):=ah;by_cases l:64*i<all.length
  .have hi:D.has ((frm:Int)+2+i)=true:=by unfold DM.has;simp only[aas];omega
   have hw:=nJ h hi (jl all i);have e:gl frm all (f+1) i D=gl frm all f (i+1) (tz D ((frm:Int)+2+i) (pj all i)):=by
    show(if 64*i<all.length then _ else _)=_;rw[ab9 l,hw];simp
   rw[e];have hS:=sP h hi (jl all i);obtain⟨a,b,c,d,g⟩:=ih (i+1) _ hS ah m;have q:=BF h.ok hi (jl all i);refine⟨a,b,c,fun j s=>?_,fun t o k=>?_⟩
   .rw[d j ah,q,p,aac,aa8 ah]
   .rcases acN t (64*(i+1))with r | r
    .rw[d _ ah,q,p,aac,ab9 ah,Sj all i _ ah ah]
     congr 1;omega
    .exact g t r k
  .have e:gl frm all (f+1) i D=cP D:=by
    show(if 64*i<all.length then _ else _)=_;rw[aa8 l]
   rw[e];obtain⟨a,b,c,d⟩:=j9 h;exact⟨a,b,d,fun j _=>by rw[c],fun t o k=>ah⟩
structure iw (D:DM) (frm:Nat) (n:Int) (k:Nat) (all nt:List Int):Prop where
 sure:ti D
 rng:3<=n/\(frm:Int)+n<=D.n
 len:(all.length:Int)<=64*(n-2)
 note:nt.length=16
 cur:bw D frm (64*(n-2)) ((k%2:Nat):Int)=((k:Int)::(all.length:Int)::nt,0)
 oth:(bw D frm (64*(n-2)) (((k+1)%2:Nat):Int)).1.getD 0 0<k\/(k=0/\(bw D frm (64*(n-2)) 1).1.getD 0 0=0)
 bytes:∀ t z,all[t]?=some z->D.now[64*(frm+2)+t]?=some z
def iw.qz (h:iw D frm n k all nt):qz D frm n=(k:Int)::(all.length:Int)::nt:=by
 have a:=h.cur;have ho:=h.oth;unfold Go.Proofs.YtbdikjnpbnobcaaGreatDoor.D.qz;rcases Nat.mod_two_eq_zero_or_one k with e | e
 .have b:(k+1)%2=1:=ah;rw[e]at a;rw[b]at ho;have a:bw D frm (64*(n-2)) 0=_:=a;rw[a];show(if(k:Int)<_ then _ else _)=_;rw[aa8];rcases ho with ho | ⟨hk,ho⟩
  .have ho:(bw D frm (64*(n-2)) 1).1.getD 0 0<k:=ho;omega
  .rw[ho];omega
 .have b:(k+1)%2=0:=ah;rw[e]at a;rw[b]at ho;have a:bw D frm (64*(n-2)) 1=_:=a;rw[a];show(if _<(k:Int)then _ else _)=_;rw[ab9];rcases ho with ho | ⟨hk,ho⟩
  .exact ho
  .omega
def iw.kQ (h:iw D frm n k all nt):kQ D frm n=⟨frm,64*(n-2),k,all.length,nt,false⟩:=by
 unfold Go.Proofs.YtbdikjnpbnobcaaGreatDoor.D.kQ AK;rw[h.qz];rfl
def iw.lP (h:iw D frm n k all nt):lP D frm n=all:=by
 obtain⟨h1,b⟩:=h.rng;have hl:=h.len;unfold Go.Proofs.YtbdikjnpbnobcaaGreatDoor.D.lP zk;rw[h.kQ];show(D.now.drop (64*((frm:Int)+2).toNat)).take ((all.length:Int)).toNat=all;rw[show((frm:Int)+2).toNat=frm+2 by omega,aac];apply ack;intro j;rw[acC];split
 .rename_i a;rw[acR,h.bytes j _ (aad a),aad a]
 .rw[abA ah]
def lS (h:ti D) {frm:Int} (hi:D.has (frm+place)=true):bw D frm most place=if CQ (D.bE (frm+place)) most place then(AJ ((D.bE (frm+place)).take 32),0)else(ij,0):=by
 unfold bw;rw[Hq hi h.gone];simp
def Bf (h:ti D) (h':ti D') (hn:D'.n=D.n) {frm:Int} (hi:D.has (frm+place)=true) (hs:D'.bE (frm+place)=D.bE (frm+place)):bw D' frm most place=bw D frm most place:=by
 have a:D'.has (frm+place)=true:=by unfold DM.has at hi ⊢;rw[hn];exact hi
 rw[lS h hi,lS h' a,hs]
def yF (h:∀ j,64*i.toNat<=j->j<64*i.toNat+64->D'.now[j]?=D.now[j]?):D'.bE i=D.bE i:=by
 unfold DM.bE;apply ack;intro j;rw[acC,acC];split
 .rw[acR,acR];exact h _ ah ah
 .rfl
def gP (x:Int):(ze x).length=8:=rfl
def CR {a b:Int} (c:0<=a/\a<18446744073709551616) (hb:0<=b/\b<18446744073709551616) (hn:nt.length=16) :
 (cw (a::b::nt)).length=32/\AJ (cw (a::b::nt))=a::b::nt/\fY ((cw (a::b::nt)).take 8)=a/\fY (((cw (a::b::nt)).drop 8).take 8)=b:=by
 have e:cw (a::b::nt)=ze a++ze b++nt:=by
  unfold cw;show ze a++ze b++nt.take 16=_;rw[aeo ah]
 have h1:((ze a++ze b++nt).take 8)=ze a:=by rw[abS,afK (by rw[gP];omega),aeo (by rw[gP];omega)]
 have f:((ze a++ze b++nt).drop 8)=ze b++nt:=by rw[abS,afT (gP a)]
 have d:(((ze a++ze b++nt).drop 8).take 8)=ze b:=by rw[f,afK (by rw[gP];omega),aeo (by rw[gP];omega)]
 have g:((ze a++ze b++nt).drop 16).take 16=nt:=by
  rw[afT (by rw[aaA,gP,gP]),aeo ah]
 rw[e];refine⟨by simp [gP,hn],?_,?_,?_⟩
 .unfold AJ;rw[h1,d,g,zj c.1 c.2,zj hb.1 hb.2];rfl
 .rw[h1,zj c.1 c.2]
 .rw[d,zj hb.1 hb.2]
def iw.append (h:iw D frm n k all nt) (hb:(all.length:Int)+b.length<=64*(n-2)) (hk:k<1000000) (v:nt'.length=16) :
 (bp D ⟨frm,64*(n-2),k,all.length,nt,false⟩ all b nt').e=0/\iw (bp D ⟨frm,64*(n-2),k,all.length,nt,false⟩ all b nt').D frm n (k+1) (all++b) nt' /\
 (bp D ⟨frm,64*(n-2),k,all.length,nt,false⟩ all b nt').bs=all++b/\(bp D ⟨frm,64*(n-2),k,all.length,nt,false⟩ all b nt').L=⟨frm,64*(n-2),(k+1:Nat),(all++b).length,nt',false⟩:=by
 obtain⟨r1,r2⟩:=h.rng;have T:=h.sure.ok.n;have A:(all++b).length=all.length+b.length:=aaA;obtain⟨L,w⟩:∃ L:LM,L=⟨frm,64*(n-2),k,all.length,nt,false⟩:=⟨_,rfl⟩;rw[<-w];have f1:L.frm=frm:=by rw[w]
 have f2:L.most=64*(n-2):=by rw[w]
 have f3:L.serial=k:=by rw[w]
 have f4:L.over=false:=by rw[w]
 obtain⟨F,Q⟩:∃ F,F=(iD D L.frm (all++b) all.length).2:=⟨_,rfl⟩;obtain⟨a1,a2,a3,a4,a5⟩:=yf frm (all++b) ((all++b).length+1) (all.length/64) D h.sure ah ah;have B:iD D L.frm (all++b) all.length=gl frm (all++b) ((all++b).length+1) (all.length/64) D:=by
  unfold iD;rw[f1,show(((all.length:Nat):Int)/64).toNat=all.length/64 by omega]
 rw[<-B]at a1 a2 a3 a4 a5;rw[<-Q]at a2 a3 a4 a5;obtain⟨N,hN⟩:∃ N,N=vX L (all++b) nt':=⟨_,rfl⟩;have eN:N=((k+1:Nat):Int)::((all++b).length:Int)::nt':=by
  rw[hN];unfold vX;rw[f3];rfl
 have hp:((k+1:Nat):Int).tmod 2=(((k+1)%2:Nat):Int):=by
  rw[acT ah];omega
 obtain⟨p,o⟩:∃ p,p=(k+1)%2:=⟨_,rfl⟩;have g:p<2:=ah;obtain⟨b1,b2,R,S⟩:=CR (a:=((k+1:Nat):Int)) (b:=((all++b).length:Int)) (nt:=nt') ⟨ah,ah⟩ ⟨ah,ah⟩ v;rw[<-eN]at b1 b2 R S;have r:(cw N++cw N).length=64:=by rw[aaA,b1]
 have C:∀ q:Nat,(frm:Int)+((q:Nat):Int)=((frm+q:Nat):Int):=fun q=>ah;have d:∀ q:Nat,q<2->F.has ((frm:Int)+(q:Int))=true:=fun q E=>by unfold DM.has;rw[a3];simp only[aas];omega
 have l:∀ q:Nat,q<2->D.has ((frm:Int)+(q:Int))=true:=fun q E=>by unfold DM.has;simp only[aas];omega
 have hw:=nJ a2 (d p g) r;obtain⟨G,y⟩:∃ G,G=tz F ((frm:Int)+(p:Int)) (cw N++cw N):=⟨_,rfl⟩;rw[<-y]at hw;have H:ti G:=by rw[y];exact sP a2 (d p g) r
 have s:G.n=D.n:=by rw[y,<-a3];rfl
 have i:=BF a2.ok (d p g) r;rw[<-y,C p,aac]at i;obtain⟨s1,s2,I,J⟩:=j9 H;have K:jS F L.frm N=cP G:=by
  unfold jS;have e0:N.getD 0 0=((k+1:Nat):Int):=by rw[eN];rfl
  rw[f1,e0,hp,<-o,hw];simp
 have x:bW D L (all++b) nt' all.length=(0,(cP G).2):=by
  unfold bW;rw[aa8 (by rw[a1];simp),<-Q,<-hN,K,aa8 (by rw[s1];simp)]
 have happ:bp D L all b nt'=⟨0,(cP G).2,qP L (all++b) nt',all++b⟩:=by
  unfold bp;rw[f4,f3,f2,aa8 aC,aa8 ah,aa8 ah,x];rfl
 rw[happ];refine⟨rfl,⟨s2,⟨r1,by show(frm:Int)+n<=((cP G).2.n:Int);rw[J,s];exact r2⟩,by rw[A];omega,v,?_,Or.inl ?_,?_⟩,rfl,by unfold qP;rw[f1,f2,f3,f4];rfl⟩
 .rw[<-o];have hi:(cP G).2.has ((frm:Int)+(p:Int))=true:=by unfold DM.has;rw[J,s];exact l p g
  have f:(cP G).2.bE ((frm:Int)+(p:Int))=cw N++cw N:=by
   unfold DM.bE;rw[I,C p,aac];apply ack;intro j;rw[acC];split
   .rename_i X;rw[acR,i,ab9 ah]
    congr 1;omega
   .rw[abA ah]
  show bw (cP G).2 frm (64*(n-2)) (p:Int)=_;rw[lS s2 hi,f];have u:(cw N++cw N).take 32=cw N:=by rw[afU b1]
  have M:(cw N++cw N).drop 32=cw N:=by rw[afT b1]
  rw[ab9,u,b2,eN];unfold CQ;rw[u,M,R,S];exact⟨rfl,by rw[hp,o],ah⟩
 .have E:(k+1+1)%2=k%2:=ah;rw[E];obtain⟨c,U⟩:∃ c,c=k%2:=⟨_,rfl⟩;have m:=h.cur;rw[<-U]at m ⊢;have O:c<2:=ah;have V:c≠p:=ah;have f:(cP G).2.bE ((frm:Int)+(c:Int))=D.bE ((frm:Int)+(c:Int)):=by
   refine yF fun j h1 W=>?_;rw[C c,aac]at h1 W;rw[I,i,aa8 ah];exact a4 j ah
  rw[Bf h.sure s2 (by rw[J,s]) (l c O) f,m];show(k:Int)<((k+1:Nat):Int);omega
 .intro t z u;have P:=(aaG.1 u).1;show(cP G).2.now[64*(frm+2)+t]?=some z;rw[I,i,aa8 ah];rcases acN t (64*(all.length/64))with h1 | h1
  .rw[a4 _ ah];refine h.bytes t z ?_;rw[acb ah]at u;exact u
  .rw[a5 t h1 P];exact u
def NG (n:Int):ti (gS n):=by
 refine⟨⟨?_,?_,?_,?_,fun p hp=>by cases hp⟩,rfl,rfl⟩
 .show(List.replicate (64*iF n) (0:Int)).length=64*iF n;rw[acz]
 .show iF n<=16384;unfold iF;omega
 .exact aba (-1)
 .show(-1:Int)<=_;omega
def qb {m:Int} (hm:0<=m/\m<=16384) (hn:3<=n) (hr:(frm:Int)+n<=m):iw (gS m) frm n 0 [] (List.replicate 16 0):=by
 have hs:iF m=m.toNat:=by unfold iF;omega
 have a:(gS m).n=m.toNat:=hs;have hS:=NG m;have b:∀ p:Nat,p<2->(gS m).bE ((frm:Int)+(p:Int))=List.replicate 64 0:=by
  intro p hp;unfold DM.bE;show((List.replicate (64*iF m) (0:Int)).drop _).take 64=_;rw[List.drop_replicate,List.take_replicate,hs]
  congr 1;omega
 have hz:fY (List.replicate 8 0)=0:=by decide
 have c:∀ p:Nat,p<2->bw (gS m) frm (64*(n-2)) (p:Int)=(ij,0):=by
  intro p hp;have hi:(gS m).has ((frm:Int)+(p:Int))=true:=by unfold DM.has;rw[a];simp only[aas];omega
  rw[lS hS hi,b p hp];split
  .rfl
  .rfl
 refine⟨hS,⟨hn,by rw[a];omega⟩,by show(0:Int)<=_;omega,rfl,?_,Or.inr ⟨rfl,?_⟩,fun t z h=>by cases h⟩
 .exact c 0 ah
 .have:=c 1 ah;have this:bw (gS m) frm (64*(n-2)) 1=(ij,0):=this;rw[this];rfl
def Kq (e:(cP D).1=0):(cP D).2.loose=[]:=by
 unfold cP at e ⊢;split at e
 .cases e
 .split at e
  .cases e
  .rename_i h1 a;rw[aa8 h1,aa8 a]
def Ky {frm:Int} (e:(jS D frm h).1=0):(jS D frm h).2.loose=[]:=by
 unfold jS at e ⊢;split at e
 .rename_i h1;exact absurd e h1
 .rename_i h1;rw[aa8 h1];exact Kq e
def DS {n:Nat} (e:(bW D L all nt n).1=0):(bW D L all nt n).2.loose=[]:=by
 unfold bW at e ⊢;split at e
 .cases e
 .rename_i h1;rw[aa8 h1];split at e
  .cases e
  .rename_i a;rw[aa8 a];exact Ky (by simpa using a)
def DO (e:(bp D L bs b nt).e=0):(bp D L bs b nt).D.loose=[]:=by
 unfold bp at e ⊢;split at e
 .cases e
 .rename_i h1;rw[aa8 h1];split at e
  .cases e
  .rename_i c;rw[aa8 c];split at e
   .cases e
   .rename_i d;rw[aa8 d];split at e
    .rename_i a;rw[ab9 a];exact DS a
    .cases e
end Go.Proofs.YtbdikjnpbnobcaaGreatDoor.D
namespace Go.Proofs.YtbdikjnpbnobcaaGreatDoor
open Go Go.RowKit Go.Extern.Stop Go.Stop Go.Extern
def Gy (v:Value) (w:World):(Extern.ReflectliteType.typeOf #[.iface 297 v]).run Tryz.prog w=.ok (.iface 254 (.agg #[.pointer (some ⟨9,297,none⟩)])) w:=by kernel_rfl
def IY:Array Value->Sem Value:=Extern.ReflectliteType.method fun t=>do Extern.Rtype.noPackHeld "Comparable" t;pure (.bool (<-typeInfo t).comparable)
def vQ (w:World):(IY #[.agg #[.pointer (some ⟨9,297,none⟩)]]).run Tryz.prog w=.ok (.bool true) w:=by kernel_rfl
def mK (v:Value) (w:World):(Go.method 430 254 v "Comparable").run Tryz.prog w=.ok (235,v) w:=by kernel_rfl
def vU (v:Value) (w:World):(Go.method 430 274 v "Unwrap").run Tryz.prog w=.ok (245,v) w:=by kernel_rfl
def Qx:(Tryz.prog.info? 297).map (·.comparable)=some true:=by kernel_rfl
def Qz:(Tryz.prog.info? 318).map (·.size)=some 1:=by kernel_rfl
def VQ (v:Value) (a:TypeId) (w:World):(Instr.typeAssert (.iface 297 v) a 291 true).run Tryz.prog w=.ok (.tuple #[.nilIface,.bool false]) w:=run_typeAssert_lacksB Tryz.underlying291 (by kernel_rfl) (by kernel_rfl) v a w
def C6 (v:Value) (a:TypeId) (w:World):(Instr.typeAssert (.iface 297 v) a 262 true).run Tryz.prog w=.ok (.tuple #[.nilIface,.bool false]) w:=run_typeAssert_lacksB Tryz.underlying262 (by kernel_rfl) (by kernel_rfl) v a w
def Bq (v:Value) (a:TypeId) (w:World):(Instr.typeAssert (.iface 297 v) a 264 true).run Tryz.prog w=.ok (.tuple #[.nilIface,.bool false]) w:=run_typeAssert_lacksB Tryz.underlying264 (by kernel_rfl) (by kernel_rfl) v a w
def VR (v:Value) (a:TypeId) (w:World):(Instr.typeAssert (.iface 274 v) a 291 true).run Tryz.prog w=.ok (.tuple #[.nilIface,.bool false]) w:=run_typeAssert_lacksB Tryz.underlying291 (by kernel_rfl) (by kernel_rfl) v a w
def AH (v:Value) (a:TypeId) (w:World):(Instr.typeAssert (.iface 274 v) a 262 true).run Tryz.prog w=.ok (.tuple #[.iface 274 v,.bool true]) w:=run_typeAssert_hasB Tryz.underlying262 (by kernel_rfl) v a w
def XH (b:Addr) (w:World) :
 Calls Tryz.prog 184 #[.nilIface,.iface 297 (.pointer (some b))] w fun e w'=>e=.returned (.bool false)/\w'=w:=by
 have hn:=run_eql_iface_nil_left (P:=Tryz.prog) w 297 (.pointer (some b)) Tryz.underlying82
 go_enter Tryz.func184,Tryz.ntmps184
 go_wp2
 go_ret
 exact⟨rfl,rfl⟩
set_option maxRecDepth 20000 in
def Er (s:ByteArray) (b:Addr) (w:World) :
 Calls Tryz.prog 184 #[.iface 274 (.agg #[.string s,.iface 297 (.pointer (some b))]),.iface 297 (.pointer (some b))] w fun e w'=>e=.returned (.bool true)/\Below w.heap.size w w':=by
 obtain⟨i,hi,a⟩:=aaH.1 Qx;obtain⟨j,c,d⟩:=aaH.1 Qz;have h:=@run_callFunc_extern Tryz.prog 170 _ Extern.ReflectliteType.typeOf Tryz.func170 (by kernel_rfl) (by kernel_rfl) (by kernel_rfl) (by kernel_rfl);have f:=@run_callFunc_extern Tryz.prog 235 _ IY Tryz.func235 (by kernel_rfl) (by kernel_rfl) (by kernel_rfl) (by kernel_rfl);have k:=Gy;have l:=vQ;have m:=mK;have n:=vU;have o:=VQ;have p:=C6;have q:=Bq;have r:=VR;have t:=AH;have heq:=fun w=>run_eql_iface_ptr_same (P:=Tryz.prog) w b Tryz.underlying82 Tryz.underlying297 hi a c;have g:=run_eql_iface_types (P:=Tryz.prog) 274 297 (.agg #[.string s,.iface 297 (.pointer (some b))]) (.pointer (some b)) Tryz.underlying82 Sx.az w
 go_enter Tryz.func184,Tryz.ntmps184
 go_wp2
 refine wp_loop_rounds 2 ?_;rw[rounds_succ]
 go_wp2
 rw[rounds_succ]
 go_wp2
 go_ret
 exact⟨rfl,(Below.refl _ _).alloc (ab8 _) _⟩
set_option maxRecDepth 20000 in
def Cv (s:ByteArray) (b a:Addr) (k l:Array Value) (m n:TypeId) (w:World) (d:a≠b) (o:w.heap[a.block]?=some (.cells k m (0,0))) (hb:w.heap[b.block]?=some (.cells l n (0,0))) :
 Calls Tryz.prog 184 #[.iface 274 (.agg #[.string s,.iface 297 (.pointer (some a))]),.iface 297 (.pointer (some b))] w fun e w'=>e=.returned (.bool false)/\Below w.heap.size w w':=by
 obtain⟨i,hi,c⟩:=aaH.1 Qx;obtain⟨j,p,f⟩:=aaH.1 Qz;have t:=@run_callFunc_extern Tryz.prog 170 _ Extern.ReflectliteType.typeOf Tryz.func170 (by kernel_rfl) (by kernel_rfl) (by kernel_rfl) (by kernel_rfl);have q:=@run_callFunc_extern Tryz.prog 235 _ IY Tryz.func235 (by kernel_rfl) (by kernel_rfl) (by kernel_rfl) (by kernel_rfl);have u:=Gy;have v:=vQ;have x:=mK;have y:=vU;have z:=VQ;have A:=C6;have B:=Bq;have C:=VR;have D:=AH;have g:(w.alloc (.cells #[.string s,.iface 297 (.pointer (some a))] 274)).heap[a.block]?=some (.cells k m (0,0)):=(Below.heap_alloc _ _ _ (acq.1 o).1).trans o;have h:(w.alloc (.cells #[.string s,.iface 297 (.pointer (some a))] 274)).heap[b.block]?=some (.cells l n (0,0)):=(Below.heap_alloc _ _ _ (acq.1 hb).1).trans hb;have heq:=run_eql_iface_ptr_other (P:=Tryz.prog) _ Tryz.underlying82 Tryz.underlying297 hi c p (by rw[f];decide) d g h;have r:=run_eql_iface_types (P:=Tryz.prog) 274 297 (.agg #[.string s,.iface 297 (.pointer (some a))]) (.pointer (some b)) Tryz.underlying82 Sx.az w
 go_enter Tryz.func184,Tryz.ntmps184
 go_wp2
 refine wp_loop_rounds 2 ?_;rw[rounds_succ]
 go_wp2
 rw[rounds_succ]
 go_wp2
 go_ret
 exact⟨rfl,(Below.refl _ _).alloc (ab8 _) _⟩
end Go.Proofs.YtbdikjnpbnobcaaGreatDoor
