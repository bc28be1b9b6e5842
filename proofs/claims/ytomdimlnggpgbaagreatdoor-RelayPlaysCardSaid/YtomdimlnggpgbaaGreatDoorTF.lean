/- RelayPlays. -/
import Derived.Test.YtomdimlnggpgbaaGreatDoorTE
set_option linter.all false
set_option maxHeartbeats 4000000
namespace Go.Proofs.YtomdimlnggpgbaaGreatDoor.D
open Go Go.Sx
variable {es es':Array MapEntry}{q:Env}{F H R R':Hl}{c i most n place x y:Int}{all b bs bs' h l nt nt':List Int}{mem t:Mem}{a clock clock' da frm j k k1 k2 m s:Nat}{e:TypeId}{dp dp' p sl sl' v:Value}
def T1 {a b:List (Int×List Int)} (h:lv a=lv b):a=b:=by
 apply aaL;intro j;have:=aaD (fun l=>l[j]?) h;simp only[lv,aao]at this;cases ha:a[j]? with
 | none =>
  cases hb:b[j]? with
  | none=>rfl
  | some q=>simp [ha,hb]at this
 | some p =>
  cases hb:b[j]? with
  | none=>simp [ha,hb]at this
  | some q =>
   simp only[ha,hb,aaP,aai,aaZ,Value.agg.injEq]at this;obtain⟨h1,h2⟩:=this;have h3:=aaD Array.toList h2;have h4:=ky h3;obtain⟨p1,p2⟩:=p;obtain⟨q1,q2⟩:=q;simp only at h1 h4;rw[h1,h4]
def Bu (l:List (Int×List Int)):(lv l).length=l.length:=aaz _
def ic.inj {k:IntKind} {a b:List (Int×Value)} (h1:ic k es a) (h2:ic k es b):a=b:=by
 unfold ic at h1 h2;rw[h1]at h2;apply aaL;intro j;have:=aaD (fun l=>l[j]?) h2;simp only[aao]at this;cases ha:a[j]?<;>cases hb:b[j]?<;>simp [ha,hb]at this ⊢
 exact Prod.ext this.1 this.2
def sd.at {D:DM} (h:sd H a s m es clock D) :
 H a=some (.cells #[.slice (some ⟨s,0,none⟩) D.n D.n,.map (some m),.int .i64 D.fuse,.bool D.gone] 93 (0,0))/\H s=some (.cells (aM D.now).toArray 119 (0,0))/\H m=some (.map es clock):=by
 obtain⟨l1,l2,l3⟩:=CP (A:=jE a s m D.n D.fuse D.gone) (B:=jv s D.now) (C:=Hl.one m (.map es clock)) (Hl.iO h.nas) (Hl.iO h.nam) (Hl.iO h.nsm);rw[h.hl];exact⟨l1 _ _ (Hl.aT _ _),l2 _ _ (Hl.aT _ _),l3 _ _ (Hl.aT _ _)⟩
def aE.uniq {D D':DM} (h:aE H v D) (h':aE H v D'):D=D':=by
 obtain⟨a,s,m,es,clock,rfl,h⟩:=h;obtain⟨a',s',m',es',clock',he,h'⟩:=h';simp only[Value.pointer.injEq,aai,Addr.mk.injEq,aat]at he;subst he;obtain⟨x1,x2,x3⟩:=h.at;obtain⟨y1,y2,y3⟩:=h'.at;rw[x1]at y1;simp only[aai,Obj.cells.injEq,aaT,aag,Value.slice.injEq,Addr.mk.injEq,Value.map.injEq,Value.int.injEq,Value.bool.injEq,aat,aaY]at y1;obtain⟨⟨rfl,hn,_⟩,rfl,hf,hg⟩:=y1;rw[x2]at y2;rw[x3]at y3;simp only[aai,Obj.cells.injEq,aaG,aat]at y2;simp only[aai,Obj.map.injEq]at y3;obtain⟨rfl,rfl⟩:=y3;have e1:=ky (aaD Array.toList y2);have e2:=T1 (ic.inj h.map h'.map);obtain⟨n,now,loose,fuse,gone⟩:=D;obtain⟨n',now',loose',fuse',gone'⟩:=D';simp only at hn hf hg e1 e2;subst hn hf hg e1 e2;rfl
def Jg {D:DM} (hok:D.ok) (hm:ic .i64 es (lv D.loose)) (hst:MapKept.Stamped es clock) (h1:a≠s) (h2:a≠m) (h3:s≠m)
 (e1:qh q mem 0=jE a s m D.n D.fuse D.gone) (e2:qh q mem 1=jv s D.now) (e3:qh q mem 2=Hl.one m (.map es clock)):sd (xg q mem [0,1,2]) a s m es clock D :=
 ⟨hok,hm,hst,h1,h2,h3,by show cP [qh q mem 0,qh q mem 1,qh q mem 2]=_;rw[e1,e2,e3]⟩
def jq (a:Nat):Value.pointer (az (a:Int) 0)=.pointer (some ⟨a,0,none⟩):=by rw[au ah];rfl
def fN (f:FuncId) (num:DM->Int):Sx.Spec where
 fn:=f
 own:=[.arg 0]
 rd:=[]
 res:=[.one (.int .i64)]
 pre:=fun xs Hs Rs=>∃ p H D,xs=[p]/\Hs=[H]/\aE H p D
 post:=fun xs Hs Rs v Hs' F=>∃ p H D H',xs=[p]/\Hs=[H]/\aE H p D/\Hs'=[H']/\aE H' p D/\v=.int .i64 (num D)
def lN:=fN 43 fun D=>D.n
def Pv:aG Tryz.prog [] lN.fn where
 Λ:=aD
 args:=[TP (.var 0) (.lit 0)]
 mem:=uN
 nv:=15
def wU:lN.OK Tryz.prog:=by
 refine Spec.aS (Γ:=[]) (fun _ h=>by cases h) ?_;rintro xs Hs Rs hl1 hl2 ⟨p,H,D,rfl,rfl,a,s,m,es,clock,rfl,h⟩;have e1:Rs=[]:=aad.1 hl2;subst e1;refine⟨Pv,oi a s m D [0,0,0,0,0] es clock Hl.none,fun _ _=>True,fun _ _=>0,?_,CE h _ rfl _,(fun _ h=>nomatch h),?_⟩
 .show [Value.pointer (az (a:Int) 0)]=_;rw[jq]
 .refine aG.read [] [] [] ?_;simp only[go_sem,Nat.reduceAdd];refine⟨by show(0:Int)<=(D.n:Int);omega,fun _=>⟨[[0,1,2]],[],rfl,rfl,⟨(aY fun _=>D.n),rfl,zzT,zzT⟩,_,H,D,_,rfl,rfl,⟨a,s,m,es,clock,rfl,h⟩,rfl,⟨a,s,m,es,clock,rfl,?_⟩,rfl⟩⟩;exact Jg h.ok h.map h.st h.nas h.nam h.nsm (Nk rfl rfl rfl rfl rfl rfl rfl rfl) rfl rfl
def DM.has (D:DM) (i:Int):Bool:=decide (0<=i/\i<D.n)
variable {D D':DM}
def DM.bL (D:DM) (i:Int):List Int:=(D.now.drop (64*i.toNat)).take 64
def ia (D:DM) (i:Int):List Int×Int:=if D.has i=false then([],1)else if D.gone then([],5)else(D.bL i,0)
def gu (h:D.ok) (hi:D.has i=true):(D.bL i).length=64:=by
 unfold DM.has at hi;simp only[aaf]at hi;unfold DM.bL;rw[aaA,aaK,h.now];omega
def An (h:D.ok) (hi:D.has i=true) (hj:j<64):(D.bL i)[j]?=D.now[64*i.toNat+j]?:=by
 unfold DM.bL;rw[abd hj,aaV]
def zF (s y:Nat):(jv s D.now).cell s y=(D.now[y]?).map (Value.int .u8):=by
 unfold jv;rw[Hl.one_cell,abl,fF]
def BN:Sx.Spec where
 fn:=122
 own:=[.arg 0]
 rd:=[]
 res:=[.one .sl,.one (.int .i64)]
 pre:=fun xs Hs Rs=>∃ p i H D,xs=[p,.int .i64 i]/\Hs=[H]/\aE H p D
 post:=fun xs Hs Rs v Hs' F=>∃ p i H D H' u,xs=[p,.int .i64 i]/\Hs=[H]/\aE H p D/\Hs'=[H']/\aE H' p D/\v=.tuple #[u,.int .i64 (ia D i).2]/\bO F 5 u (ia D i).1
def WH:aG Tryz.prog [] BN.fn where
 Λ:=aD
 args:=[TP (.var 0) (.lit 0),TI .i64 (.var 1)]
 mem:=uN
 nv:=15
def FH:BN.OK Tryz.prog:=by
 refine Spec.aS (Γ:=[]) (fun _ h=>by cases h) ?_;rintro xs Hs Rs hl1 hl2 ⟨p,i,H,D,rfl,rfl,a,s,m,es,clock,rfl,h⟩;have e1:Rs=[]:=aad.1 hl2;subst e1;refine⟨WH,oi a s m D [i,0,0,0,0] es clock Hl.none,fun _ _=>True,fun _ _=>0,?_,CE h _ rfl _,(fun _ h=>nomatch h),?_⟩
 .show [Value.pointer (az (a:Int) 0),Value.int .i64 i]=_;rw[jq]
 .refine aG.read [] [] [] ?_;simp only[go_sem,Nat.reduceAdd];have v1:(oi a s m D [i,0,0,0,0] es clock Hl.none).i 1=i:=rfl;have v6:(oi a s m D [i,0,0,0,0] es clock Hl.none).i 6=s:=rfl;have v7:(oi a s m D [i,0,0,0,0] es clock Hl.none).i 7=0:=rfl;have v8:(oi a s m D [i,0,0,0,0] es clock Hl.none).i 8=D.n:=rfl;have vb:(oi a s m D [i,0,0,0,0] es clock Hl.none).b 12=D.gone:=rfl;rw[v1,v6,v7,v8,vb];have fU:∀ (q:Env) (t:Mem),ai 15 (oi a s m D [i,0,0,0,0] es clock Hl.none) q->aE (xg q (uN++t) [0,1,2]) (.pointer (some ⟨a,0,none⟩)) D:=fun q t g =>
   ⟨a,s,m,es,clock,rfl,Jg h.ok h.map h.st h.nas h.nam h.nsm (Nk (f:=.var 11) (g:=.bvar 12) (g.i 0) (g.i 6) (g.i 7) (g.i 8) (g.i 9) (g.i 10) (g.i 11) (g.b 12)) (g.h 13) (g.h 14)⟩
  have bad:∀ e:Int,ia D i=([],e)->postOf BN [.pointer (some ⟨a,0,none⟩),.int .i64 i] [H] [] (oi a s m D [i,0,0,0,0] es clock Hl.none) uN (.tup [.one (.sl (.lit (-1)) (.lit 0) (.lit 0) (.lit 0)),.one (.int .i64 (.lit e))]):=fun e he _ =>
   ⟨[[0,1,2]],[],rfl,rfl,⟨(aY fun k=>[-1,0,0,0,e].getD k 0),rfl,⟨by show(-1:Int)<= -1;omega,aap _,aap _,aap _⟩,zzT,zzT⟩,_,i,H,D,_,_,rfl,rfl,⟨a,s,m,es,clock,rfl,h⟩,rfl,fU _ [] (ai.refl _ _),by rw[he];rfl,by rw[he];exact⟨rfl,Or.inl ⟨rfl,rfl⟩⟩⟩
  refine⟨fun h0=>⟨ah,fun hn=>bad 1 ?_,fun hn=>⟨fun hg=>bad 5 ?_,fun hg=>⟨ah,ah,fun q1 g1 p1=>⟨⟨⟨[],?_⟩,ah,Or.inl ⟨?_,?_,ah,?_⟩,aA,aA⟩,fun q2 g2 ⟨a1,a2,a3,_⟩ _=>?_⟩⟩⟩⟩,fun h0=>bad 1 ?_⟩
  .unfold ia DM.has;rw[aav (by simp only[aa3];omega)]
  .have hh:D.has i=true:=by unfold DM.has;simpa using ⟨h0,hn⟩
   unfold ia;rw[hh,hg];rfl
  .refine⟨rfl,Or.inr ⟨(q1.i 15).toNat,0,#[],by rw[au p1];rfl,Hl.aT _ _,ah,aA,rfl,rfl⟩⟩
  .rw[g1.i 6,v6];omega
  .rw[g1.i 7,g1.i 1,v7,v1];omega
  .intro j hj;have hj:j<64:=hj;rw[g1.h 13,g1.i 6,g1.i 7,g1.i 1,v6,v7,v1];show ∃ v,(jv s D.now).cell s _=some v/\_;rw[zF,aab (by rw[h.ok.now];omega)];exact⟨_,rfl,rfl⟩
  .have hh:D.has i=true:=by unfold DM.has;simpa using ⟨h0,hn⟩
   have hr:ia D i=(D.bL i,0):=by
    unfold ia;rw[hh];simp only[Bool.true_eq_false,abK];rw[aan hg]
   have hsl:=gu h.ok hh;have hseg:bR (q1.h 13) (q1.i 6).toNat (q1.i 7+q1.i 1*64).toNat (Int.toNat 64)=aM (D.bL i):=by
    rw[g1.h 13,g1.i 6,g1.i 7,g1.i 1,v6,v7,v1];show bR (jv s D.now) s _ 64=_;unfold bR;apply aaL;intro j;rw[aao,fF];rcases aa9 j 64 with hj | hj
    .rw[aaE hj,aaP,zF,An h.ok hh hj,show(0+i*64).toNat+j=64*i.toNat+j by omega,aab (by rw[h.ok.now];omega)];rfl
    .rw[aaq (by simpa using hj),aaq ah];rfl
   have hx:=a3 [] ⟨rfl,Or.inr ⟨(q1.i 15).toNat,0,#[],by rw[au p1];rfl,Hl.aT _ _,ah,aA,rfl,rfl⟩⟩;rw[hseg,abw]at hx;refine⟨[[0,1,2]],[3],rfl,rfl,⟨(aY fun k=>[q2.i 16,0,64,q2.i 17,0].getD k 0),rfl,⟨a1,aap _,by show(0:Int)<=64;omega,a2⟩,zzT,zzT⟩,_,i,H,D,_,_,rfl,rfl,⟨a,s,m,es,clock,rfl,h⟩,rfl,fU q2 _ (g1.tr g2),by rw[hr];rfl,?_⟩;rw[hr];show aN (cP [q2.h 16]) _ _ _ _ _;rw[aL,hsl];exact hx
  .unfold ia DM.has;rw[aav (by simp only[aa3];omega)]
def rA (D:DM) (i:Int) (bs:List Int):DM:=⟨D.n,bE D.now (64*i.toNat) bs,if(iK i (lv D.loose) 0).isSome then D.loose else D.loose++[(i,D.bL i)],if 0<D.fuse then D.fuse-1 else D.fuse,false⟩
def dJ (D:DM) (i:Int) (bs:List Int):Int×DM :=
 if D.has i=false\/bs.length≠64 then(1,D)else if D.gone then(5,D)else if D.fuse=0 then(5,{D with gone:=true})else(0,rA D i bs)
def AM (rdP:Hl->Value->List Int->Prop):Sx.Spec where
 fn:=158
 own:=[.arg 0]
 rd:=[2]
 res:=[.one (.int .i64)]
 pre:=fun xs Hs Rs=>∃ p i u bs H R D,xs=[p,.int .i64 i,u]/\Hs=[H]/\Rs=[R]/\aE H p D/\rdP R u bs
 post:=fun xs Hs Rs v Hs' F=>∃ p i u bs H R D H',xs=[p,.int .i64 i,u]/\Hs=[H]/\Rs=[R]/\aE H p D/\rdP R u bs/\Hs'=[H']/\aE H' p (dJ D i bs).2/\v=.int .i64 (dJ D i bs).1
def DX:Sx.Spec:=AM nX
def rj (f:E):Nd:=(fun a k h i j=>(fun b c d g l=>(.and (.pre c) (.ext c (.ext (.alloc 81) (.and (.imp (.not (.bvar 80)) (.and (.e (.le h i)) (.and (.e (.le h (.var 7))) (.and (.e (.hby 13 i a (.lit 64))) (.and (.pre d) (.ext d (.and (.e (.le h (.var 2))) (.and (.e (.le h (.var 3))) (.and j (.and (.pre (.put 83 13 i a b)) (.ext (.put 83 13 i a b) (.post [.bd 0 g 93,.hp 83 [13] [.var 6] [],.hp 82 [14] [.var 10] [],.ro 15 [.var 2] false,.dead] l)))))))))))) (.imp (.bvar 80) (.and (.e (.le h (.var 2))) (.and (.e (.le h (.var 3))) (.and j (.and (.e (.le h i)) (.and (.e (.le h (.var 7))) (.and (.pre (.put 82 13 i a b)) (.ext (.put 82 13 i a b) (.post [.bd 0 g 93,.hp 82 [13] [.var 6] [],.hp 14 [] [.var 10] [],.ro 15 [.var 2] false,.dead] l)))))))))))):Nd)) (aU 15 (.var 2) (.var 3) 0 k) (.mget 16 14 (.var 10) (.int .i64) (.int .i64 (.var 1)) (.agg (List.replicate 64 (CV.int .u8 h))) (List.replicate 64 (Ck.int .u8)) true) (.mset 82 14 (.var 10) (.int .i64) (.int .i64 (.var 1)) (.agg (aU 13 i a 0 k))) [.sl i (.var 7) (.var 8) (.var 9),.map (.var 10),.int .i64 f,.bool (.bvar 12)] (.sv (.one (.int .i64 h)))) (.add (.var 7) (.mul (.var 1) (.lit 64))) (List.replicate 64 (Kd.int .u8)) (.lit 0) (.var 6) (.e (.hby 15 (.var 2) (.var 3) (.lit 64)))
def KG:Nd:=(fun g c d f=>(fun a=>(fun b=>(.and (.imp (.le d (.var 1)) (.and (.e (.le d g)) (.and (.imp (.lt (.var 1) g) (.and (.e (.le d (.var 4))) (.and (.imp (.not (.eq (.var 4) (.lit 64))) b) (.imp (.eq (.var 4) (.lit 64)) (.and (.imp (.not (.bvar 12)) (.and (.imp (.eq c d) (.post [.bd 0 [.sl (.var 6) (.var 7) g (.var 9),.map (.var 10),.int .i64 c,.bool .tt] 93,.hp 13 [] [.var 6] [],.hp 14 [] [.var 10] [],.ro 15 [.var 2] false] f)) (.imp (.not (.eq c d)) (.and (.imp (.lt d c) (rj (.wrap .i64 (.sub c (.lit 1))))) (.imp (.not (.lt d c)) (rj c)))))) (.imp (.bvar 12) (.post a f))))))) (.imp (.not (.lt (.var 1) g)) b)))) (.imp (.not (.le d (.var 1))) b):Nd)) (.post a (.sv (.one (.int .i64 (.lit 1)))))) [.bd 0 [.sl (.var 6) (.var 7) g (.var 9),.map (.var 10),.int .i64 c,.bool (.bvar 12)] 93,.hp 13 [] [.var 6] [],.hp 14 [] [.var 10] [],.ro 15 [.var 2] false]) (.var 8) (.var 11) (.lit 0) (.sv (.one (.int .i64 (.lit 5))))
def U8:aG Tryz.prog [] 158 where
 Λ:=aD
 args:=[TP (.var 0) (.lit 0),TI .i64 (.var 1),.sv (.one (.sl (.var 2) (.var 3) (.var 4) (.var 5)))]
 mem:=uN++[.ro 15 [.var 2] false]
 nv:=16
def Ek (l:List Int):(aM l).map kW=List.replicate l.length (.int .u8):=by
 unfold aM;rw[abg]
 induction l with
 | nil=>rfl
 | cons a l ih=>rw[aaC,aaN,ac0,ih];rfl
def J1 (h:D.ok) (hi:D.has i=true) (hb:bs.length=64):(rA D i bs).ok:=by
 have hh:0<=i/\i<D.n:=by unfold DM.has at hi;simpa using hi
 refine⟨?_,h.n,?_,?_,fun p hp=>?_⟩
 .show(bE D.now (64*i.toNat) bs).length=_;rw[r8 (by rw[h.now];omega),h.now];rfl
 .have:=h.f0;show(-1:Int)<=if 0<D.fuse then D.fuse-1 else D.fuse
  split<;>omega
 .have:=h.f1;show(if 0<D.fuse then D.fuse-1 else D.fuse)<=(9223372036854775807:Int);split<;>omega
 .have hp:p∈(if(iK i (lv D.loose) 0).isSome then D.loose else D.loose++[(i,D.bL i)]):=hp;split at hp
  .exact h.loose p hp
  .rcases aaR.1 hp with hp | hp
   .exact h.loose p hp
   .rw[aal]at hp;subst hp;exact⟨gu h hi,hh.1,hh.2⟩
def Lv (a:List (Int×List Int)) (i:Int) (l:List Int):lv (a++[(i,l)])=lv a++[(i,.agg (aM l).toArray)]:=by simp [lv]
def Eu (s y:Nat) (now bs:List Int):(jv s now).put s y (aM bs)=jv s (bE now y bs):=by
 unfold jv;rw[Hl.C6,<-IE]
def JP (h:D.ok) (hi:D.has i=true) (s:Nat):∀ j z,(D.bL i)[j]?=some z->(jv s D.now).cell s (64*i.toNat+j)=some (.int .u8 z):=by
 intro j z hz;have hl:=gu h hi;have hj:j<64:=by have:=(aaj.1 hz).1;omega
 rw[zF,<-An h hi hj,hz];rfl
def MJ {rdP:Hl->Value->List Int->Prop} (hw:∀ {R u bs},rdP R u bs->fu R u bs):(AM rdP).OK Tryz.prog:=by
 refine Spec.aS (Γ:=[]) (fun _ h=>by cases h) ?_;rintro xs Hs Rs hl1 hl2 ⟨p,i,u,bs,H,R,D,rfl,rfl,rfl,⟨a,s,m,es,clock,rfl,h⟩,hRd⟩;obtain⟨x,y,cp,rfl,hy,hR⟩:=hw hRd;refine⟨U8,oi a s m D [i,x,y,bs.length,cp] es clock R,fun _ _=>True,fun _ _=>0,?_,Jf h _ rfl _ _,(fun _ h=>nomatch h),?_⟩
 .show [Value.pointer (az (a:Int) 0),Value.int .i64 i,Value.slice (az x y) ((bs.length:Int)).toNat ((cp:Int)).toNat]=_;rw[jq,aaa,aaa]
 .refine aG.lit (x:=KG) ?_;generalize hρ:oi a s m D [i,x,y,bs.length,cp] es clock R=J;have v0:J.i 0=a:=by rw[<-hρ];rfl
  have v1:J.i 1=i:=by rw[<-hρ];rfl
  have v2:J.i 2=x:=by rw[<-hρ];rfl
  have v3:J.i 3=y:=by rw[<-hρ];rfl
  have v4:J.i 4=bs.length:=by rw[<-hρ];rfl
  have v6:J.i 6=s:=by rw[<-hρ];rfl
  have v7:J.i 7=0:=by rw[<-hρ];rfl
  have v8:J.i 8=D.n:=by rw[<-hρ];rfl
  have v9:J.i 9=D.n:=by rw[<-hρ];rfl
  have v10:J.i 10=m:=by rw[<-hρ];rfl
  have v11:J.i 11=D.fuse:=by rw[<-hρ];rfl
  have vb:J.b 12=D.gone:=by rw[<-hρ];rfl
  have vh:J.h 13=jv s D.now:=by rw[<-hρ];rfl
  have vm:J.h 14=Hl.one m (.map es clock):=by rw[<-hρ];rfl
  have vr:J.h 15=R:=by rw[<-hρ];rfl
  have hI:∀ q,ai 16 J q->∀ k,k<16->q.i k=J.i k:=fun q g k h=>g.i k h;have ent:aE H (.pointer (some ⟨a,0,none⟩)) D:=⟨a,s,m,es,clock,rfl,h⟩;have out:∀ (q:Env) (f g:E) (k1 k2:Nat) (t:Mem) (ts:List E) (v1 v2:List Nat) (c:Int) (D':DM) (es':Array MapEntry) (clock':Nat),ai 16 J q->dJ D i bs=(c,D')->D'.ok->D'.n=D.n->(ic .i64 es' (lv D'.loose)/\MapKept.Stamped es' clock')->aB q f=D'.fuse->ba q g=D'.gone->q.h k1=jv s D'.now->q.h k2=Hl.one m (.map es' clock') ->
   postOf (AM rdP) [.pointer (some ⟨a,0,none⟩),.int .i64 i,.slice (az x y) bs.length cp] [H] [R] q
    (.bd 0 [.sl (.var 6) (.var 7) (.var 8) (.var 9),.map (.var 10),.int .i64 f,.bool g] 93::.hp k1 v1 [.var 6] []::.hp k2 v2 [.var 10] []::t) (.sv (.one (.int .i64 (.lit c)))):=by
   intro q f g k1 k2 t ts w1 w2 c D' es' clock' hq hw hok hn hm hf hg h1 h2 _;refine⟨[[0,1,2]],[],rfl,rfl,⟨(aY fun _=>c),rfl,zzT,zzT⟩,_,i,_,bs,H,R,D,_,rfl,rfl,rfl,ent,hRd,rfl,⟨a,s,m,es',clock',rfl,?_⟩,by rw[hw];rfl⟩;rw[hw];refine Jg hok hm.1 hm.2 h.nas h.nam h.nsm (Nk ?_ ?_ ?_ ?_ ?_ ?_ hf hg) h1 h2
   .rw[hq.i 0,v0]
   .rw[hq.i 6,v6]
   .rw[hq.i 7,v7]
   .rw[hq.i 8,v8];show(D.n:Int)=(D'.n:Int);rw[hn]
   .rw[hq.i 9,v9];show(D.n:Int)=(D'.n:Int);rw[hn]
   .rw[hq.i 10,v10]
  have tail:∀ f:E,(∀ q,ai 16 J q->aB q f=if 0<D.fuse then D.fuse-1 else D.fuse)->D.has i=true->bs.length=64->D.gone=false->D.fuse≠0->(rj f).holds ⟨[],fun _ _=>True,fun _ _=>0,postOf (AM rdP) [.pointer (some ⟨a,0,none⟩),.int .i64 i,.slice (az x y) bs.length cp] [H] [R]⟩ (fun _=>0) J:=by
   intro f hf hi hb hg hz;have hh:0<=i/\i<D.n:=by unfold DM.has at hi;simpa using hi
   have hw:dJ D i bs=(0,rA D i bs):=by
    unfold dJ;rw[aan (by rw[hi,hb];simp),aan (by rw[hg];simp),aan hz]
   have hx:0<=x/\∀ j z,bs[j]?=some z->R.cell x.toNat (y.toNat+j)=some (.int .u8 z):=by
    rcases hR with h | h
    .rw[h]at hb;cases hb
    .exact h
   have hpok:=J1 h.ok hi hb;have hsl:=gu h.ok hi;unfold rj;simp only[go_sem,Nat.reduceAdd];rw[v10,v1,vm];have hmem:(Hl.one m (.map es clock)) ((m:Int)).toNat=some (.map es clock):=by rw[aaa];exact Hl.aT _ _
   refine⟨⟨ah,es,clock,_,hmem,iJ h.map i,?_⟩,fun q1 g1 hq1 q2 g2 _=>?_⟩
   .intro j v hv;obtain⟨_,hv⟩:=zw hv;unfold lv at hv;rw[aao,aam]at hv;obtain⟨p,hp,he⟩:=hv;cases he;have:=(h.ok.loose p (aae hp)).1;refine⟨_,rfl,?_⟩;show(aM p.2).map kW=_;rw[Ek,this]
   .obtain⟨_,hb80⟩:=hq1 es clock _ hmem (iJ h.map i);have hb80:q1.b 80=(iK i (lv D.loose) 0).isSome:=hb80;have e80:q2.b 80=(iK i (lv D.loose) 0).isSome:=by rw[g2.b 80,hb80]
    have g12:ai 16 J q2:=g1.tr g2;have hby:∀ q,ai 16 J q->bG (q.h 15) (q.i 2).toNat (q.i 3).toNat (Int.toNat 64)=true:=by
     intro q g;rw[g.h 15,g.i 2,g.i 3,vr,v2,v3];exact cW hx.2 (by rw[hb];decide)
    have hcs:∀ q,ai 16 J q->(aU 15 (.var 2) (.var 3) 0 (List.replicate 64 (Kd.int .u8))).map (CV.ev q)=aM bs:=by
     intro q g;refine gO 64 0 bs hb fun j z hz=>?_;rw[g.h 15,ak,ak,g.i 2,g.i 3,vr,v2,v3,aaI];exact hx.2 j z hz
    have hat:∀ q,ai 16 J q->(q.i 7+q.i 1*64).toNat=64*i.toNat:=by
     intro q g;rw[g.i 7,g.i 1,v7,v1];omega
    have hwr:∀ q,ai 16 J q->0<=q.i 6/\0<=q.i 7+q.i 1*64/\(q.h 13).wr (q.i 6).toNat (q.i 7+q.i 1*64).toNat (aU 15 (.var 2) (.var 3) 0 (List.replicate 64 (Kd.int .u8))).length=true:=by
     intro q g;have:=hat q g;refine⟨by rw[g.i 6,v6];omega,by rw[g.i 7,g.i 1,v7,v1];omega,?_⟩;rw[this,g.h 13,g.i 6,vh,v6,kj,aa8,aaa];exact Hl.C8 _ _ _ _ _ (by rw[abW,bX,h.ok.now];omega)
    have hput:∀ q,ai 16 J q->(q.h 13).put (q.i 6).toNat (q.i 7+q.i 1*64).toNat (aM bs)=jv s (rA D i bs).now:=by
     intro q g;rw[hat q g,g.h 13,g.i 6,vh,v6,aaa,Eu];rfl
    have n2:∀ q,ai 16 J q->0<=q.i 2/\0<=q.i 3/\0<=q.i 6/\0<=q.i 7:=by
     intro q g;rw[g.i 2,g.i 3,g.i 6,g.i 7,v2,v3,v6,v7];exact⟨hx.1,hy,ah,ah⟩
    refine⟨fun hnb=>?_,fun hyb=>?_⟩
    .have hnone:iK i (lv D.loose) 0=none:=by
      rw[e80]at hnb;cases hgo:iK i (lv D.loose) 0 with
      | none=>rfl
      | some v=>rw[hgo]at hnb;simp at hnb
     obtain⟨es',hmp,hmi,hmst⟩:=Lz h.map hnone (.agg (aM (D.bL i)).toArray) h.st;have c13:bG (q2.h 13) (q2.i 6).toNat (q2.i 7+q2.i 1*64).toNat (Int.toNat 64)=true:=by
      rw[hat q2 g12,g12.h 13,g12.i 6,vh,v6,aaa];exact cW (JP h.ok hi s) (by rw[hsl];decide)
     have hsec:(aU 13 (.var 6) (.add (.var 7) (.mul (.var 1) (.lit 64))) 0 (List.replicate 64 (Kd.int .u8))).map (CV.ev q2)=aM (D.bL i):=by
      refine gO 64 0 _ hsl fun j z hz=>?_;simp only[bJ,cj,ak,aq];rw[hat q2 g12,g12.h 13,g12.i 6,vh,v6,aaa,aaI];exact JP h.ok hi s j z hz
     have hm2:q2.h 14 (q2.i 10).toNat=some (.map es clock):=by
      rw[g12.h 14,g12.i 10,vm,v10];exact hmem
     refine⟨(n2 q2 g12).2.2.1,(n2 q2 g12).2.2.2,c13,⟨by rw[g12.i 10,v10];omega,es,clock,_,hm2,iJ h.map _⟩,fun q3 g3 hq3=>?_⟩;have g13:ai 16 J q3:=g12.tr g3;have h82:=hq3 es clock hm2;rw[hsec,g12.i 1,v1,hmp,g12.h 14,g12.i 10,vm,v10,aaa,Hl.sE]at h82;refine⟨(n2 q3 g13).1,(n2 q3 g13).2.1,hby q3 g13,hwr q3 g13,fun q4 g4 hq4=>?_⟩;have g14:ai 16 J q4:=g13.tr g4;rw[hcs q3 g13,hput q3 g13]at hq4;refine out q4 _ _ _ _ _ [] _ _ 0 (rA D i bs) es' (clock+1) g14 hw hpok rfl ?_ (hf q4 g14) (by rw[br,g14.b 12,vb,hg];rfl) hq4 (by rw[g4.h 82,h82]);have el:(rA D i bs).loose=D.loose++[(i,D.bL i)]:=by
      show(if(iK i (lv D.loose) 0).isSome then D.loose else D.loose++[(i,D.bL i)])=_;rw[hnone];rfl
     rw[el,Lv];exact⟨hmi,hmst⟩
    .have el:(rA D i bs).loose=D.loose:=by
      show(if(iK i (lv D.loose) 0).isSome then D.loose else D.loose++[(i,D.bL i)])=_;rw[<-e80,hyb];rfl
     refine⟨(n2 q2 g12).1,(n2 q2 g12).2.1,hby q2 g12,(n2 q2 g12).2.2.1,(n2 q2 g12).2.2.2,hwr q2 g12,fun q3 g3 hq3=>?_⟩;have g13:ai 16 J q3:=g12.tr g3;rw[hcs q2 g12,hput q2 g12]at hq3;exact out q3 _ _ _ _ _ [] _ _ 0 (rA D i bs) es clock g13 hw hpok rfl (by rw[el];exact⟨h.map,h.st⟩) (hf q3 g13) (by rw[br,g13.b 12,vb,hg];rfl) hq3 (by rw[g13.h 14,vm])
  unfold KG;simp only[go_sem,Nat.reduceAdd];rw[v1,v4,v8,v11,vb];have bad:∀ c:Int,dJ D i bs=(c,D)->postOf (AM rdP) [.pointer (some ⟨a,0,none⟩),.int .i64 i,.slice (az x y) bs.length cp] [H] [R] J
   (.bd 0 [.sl (.var 6) (.var 7) (.var 8) (.var 9),.map (.var 10),.int .i64 (.var 11),.bool (.bvar 12)] 93::.hp 13 [] [.var 6] []::.hp 14 [] [.var 10] []::[.ro 15 [.var 2] false]) (.sv (.one (.int .i64 (.lit c)))):=fun c hc =>
   out J _ _ _ _ _ [] _ _ c D es clock (ai.refl _ _) hc h.ok rfl ⟨h.map,h.st⟩ (by rw[ak,v11]) (by rw[br,vb]) vh vm
  have yes:0<=i->i<D.n->D.has i=true:=fun h0 h1=>by unfold DM.has;simp [h0,h1]
  refine⟨fun h0=>⟨ah,fun hn=>⟨ah,fun hb=>bad 1 ?_,fun hb=>⟨fun hg=>⟨fun hz=>?_,fun hz=>⟨fun hp=>?_,fun hp=>?_⟩⟩,fun hg=>bad 5 ?_⟩⟩,fun hn=>bad 1 ?_⟩,fun h0=>bad 1 ?_⟩
  .unfold dJ;rw[aav (Or.inr ah)]
  .have hw:dJ D i bs=(5,{D with gone:=true}):=by
    unfold dJ;rw[aan (by rw[yes h0 hn];simp;omega),aan hg,aav hz]
   exact out J _ _ _ _ _ [] _ _ 5 {D with gone:=true} es clock (ai.refl _ _) hw ⟨h.ok.now,h.ok.n,h.ok.f0,h.ok.f1,h.ok.loose⟩ rfl ⟨h.map,h.st⟩ (by rw[ak,v11]) (by rw[cJ]) vh vm
  .refine tail _ (fun q g=>?_) (yes h0 hn) ah (by simpa using hg) hz;have:=h.ok.f1;rw[bx,cQ,ak,aq,g.i 11,v11,aav hp,wrap_i64 ah ah]
  .refine tail _ (fun q g=>?_) (yes h0 hn) ah (by simpa using hg) hz;rw[ak,g.i 11,v11,aan hp]
  .unfold dJ;rw[aan (by rw[yes h0 hn];simp;omega),aav hg]
  .unfold dJ DM.has;rw[aav (Or.inl (by simp only[aa3];omega))]
  .unfold dJ DM.has;rw[aav (Or.inl (by simp only[aa3];omega))]
def Cj:DX.OK Tryz.prog:=MJ fun h=>h.w
def db (D:DM):Int×DM:=if D.gone then(5,D)else if D.fuse=0 then(5,{D with gone:=true})else(0,⟨D.n,D.now,[],if 0<D.fuse then D.fuse-1 else D.fuse,D.gone⟩)
def VN {x1 x2 x3 x4 x5:Int} (h:sd H a s m es clock D) (hq:ai 15 (oi a s m D [x1,x2,x3,x4,x5] es clock R) q) {f g:E} {v1 v2:List Nat} 
 (hok:D'.ok) (hn:D'.n=D.n) (hm:ic .i64 es' (lv D'.loose)) (hst:MapKept.Stamped es' clock') (hf:aB q f=D'.fuse) (hg:ba q g=D'.gone) (h1:q.h k1=jv s D'.now) (h2:q.h k2=Hl.one m (.map es' clock')) :
 aE (xg q (.bd 0 [.sl (.var 6) (.var 7) (.var 8) (.var 9),.map (.var 10),.int .i64 f,.bool g] 93::.hp k1 v1 [.var 6] []::.hp k2 v2 [.var 10] []::t) [0,1,2]) (.pointer (some ⟨a,0,none⟩)) D':=by
 refine⟨a,s,m,es',clock',rfl,Jg hok hm hst h.nas h.nam h.nsm (Nk (hq.i 0) (hq.i 6) (hq.i 7) ?_ ?_ (hq.i 10) hf hg) h1 h2⟩
 .rw[hq.i 8];show(D.n:Int)=(D'.n:Int);rw[hn]
 .rw[hq.i 9];show(D.n:Int)=(D'.n:Int);rw[hn]
def wY:Sx.Spec where
 fn:=159
 own:=[.arg 0]
 rd:=[]
 res:=[.one (.int .i64)]
 pre:=fun xs Hs Rs=>∃ p H D,xs=[p]/\Hs=[H]/\aE H p D
 post:=fun xs Hs Rs v Hs' F=>∃ p H D H',xs=[p]/\Hs=[H]/\aE H p D/\Hs'=[H']/\aE H' p (db D).2/\v=.int .i64 (db D).1
def W0:aG Tryz.prog [] wY.fn where
 Λ:=aD
 args:=[TP (.var 0) (.lit 0)]
 mem:=uN
 nv:=15
def Gh:wY.OK Tryz.prog:=by
 refine Spec.aS (Γ:=[]) (fun _ h=>by cases h) ?_;rintro xs Hs Rs hl1 hl2 ⟨p,H,D,rfl,rfl,a,s,m,es,clock,rfl,h⟩;have e1:Rs=[]:=aad.1 hl2;subst e1;refine⟨W0,oi a s m D [0,0,0,0,0] es clock Hl.none,fun _ _=>True,fun _ _=>0,?_,CE h _ rfl _,(fun _ h=>nomatch h),?_⟩
 .show [Value.pointer (az (a:Int) 0)]=_;rw[jq]
 .refine aG.read [] [] [] ?_;simp only[go_sem,Nat.reduceAdd];generalize hρ:oi a s m D [0,0,0,0,0] es clock Hl.none=J;have v10:J.i 10=m:=by rw[<-hρ];rfl
  have v11:J.i 11=D.fuse:=by rw[<-hρ];rfl
  have vb:J.b 12=D.gone:=by rw[<-hρ];rfl
  have vh:J.h 13=jv s D.now:=by rw[<-hρ];rfl
  have vm:J.h 14=Hl.one m (.map es clock):=by rw[<-hρ];rfl
  have out:∀ (q:Env) (f g:E) (k1 k2:Nat) (w1 w2:List Nat) (t:Mem) (c:Int) (D':DM) (es':Array MapEntry) (clock':Nat),ai 15 J q->db D=(c,D')->D'.ok->D'.n=D.n->ic .i64 es' (lv D'.loose)->MapKept.Stamped es' clock'->aB q f=D'.fuse->ba q g=D'.gone->q.h k1=jv s D'.now->q.h k2=Hl.one m (.map es' clock') ->
   postOf wY [.pointer (some ⟨a,0,none⟩)] [H] [] q (.bd 0 [.sl (.var 6) (.var 7) (.var 8) (.var 9),.map (.var 10),.int .i64 f,.bool g] 93::.hp k1 w1 [.var 6] []::.hp k2 w2 [.var 10] []::t) (.sv (.one (.int .i64 (.lit c)))):=by
   intro q f g k1 k2 w1 w2 t c D' es' clock' hq hs hok hn hm hst hf hg h1 h2 _;rw[<-hρ]at hq;refine⟨[[0,1,2]],[],rfl,rfl,⟨(aY fun _=>c),rfl,zzT,zzT⟩,_,H,D,_,rfl,rfl,⟨a,s,m,es,clock,rfl,h⟩,rfl,?_,by rw[hs];rfl⟩;rw[hs];exact VN h hq hok hn hm hst hf hg h1 h2
  have hmem:(Hl.one m (.map es clock)) ((m:Int)).toNat=some (.map es clock):=by rw[aaa];exact Hl.aT _ _
  have tail:∀ (f:E),(∀ q,ai 15 J q->aB q f=if 0<D.fuse then D.fuse-1 else D.fuse)->D.gone=false->D.fuse≠0->(0<=J.i 10/\∃ es clock,J.h 14 (J.i 10).toNat=some (.map es clock))/\∀ J',ai 15 J J'->(∀ es clock,J.h 14 (J.i 10).toNat=some (.map es clock)->J'.h 15=(J.h 14).setObj (J.i 10).toNat (.map #[] clock)) ->
   postOf wY [.pointer (some ⟨a,0,none⟩)] [H] [] J' [.bd 0 [.sl (.var 6) (.var 7) (.var 8) (.var 9),.map (.var 10),.int .i64 f,.bool (.bvar 12)] 93,.hp 13 [] [.var 6] [],.hp 15 [14] [.var 10] []] (.sv (.one (.int .i64 (.lit 0)))):=by
   intro f hf hg hz;rw[v10,vm];refine⟨⟨ah,es,clock,hmem⟩,fun q gq hq=>?_⟩;have hq:=hq es clock hmem;rw[aaa,Hl.sE]at hq;refine out q f (.bvar 12) 13 15 _ _ _ 0 ⟨D.n,D.now,[],if 0<D.fuse then D.fuse-1 else D.fuse,D.gone⟩ #[] clock gq ?_ ⟨h.ok.now,h.ok.n,?_,?_,fun p hp=>by cases hp⟩ rfl rfl (MapKept.stamped_empty _) (hf q gq) (by rw[br,gq.b 12,vb]) (by rw[gq.h 13,vh]) hq
   .unfold db;rw[aan (by rw[hg];simp),aan hz]
   .have:=h.ok.f0;show -1<=(if 0<D.fuse then D.fuse-1 else D.fuse);split<;>omega
   .have:=h.ok.f1;show(if 0<D.fuse then D.fuse-1 else D.fuse)<=_;split<;>omega
  rw[vb,v11];have f0:=h.ok.f0;have f1:=h.ok.f1;refine⟨fun hg=>⟨fun hz=>?_,fun hz=>⟨fun hp=>tail _ (fun q gq=>?_) (abC.2 hg) hz,fun hp=>tail _ (fun q gq=>?_) (abC.2 hg) hz⟩⟩,fun hg=>?_⟩
  .refine out J _ _ _ _ _ _ _ 5 {D with gone:=true} es clock (ai.refl _ _) ?_ ⟨h.ok.now,h.ok.n,h.ok.f0,h.ok.f1,h.ok.loose⟩ rfl h.map h.st (by rw[ak,v11]) (cJ _) vh vm;unfold db;rw[aan hg,aav hz]
  .rw[aav hp,bx,cQ,ak,aq,gq.i 11,v11];exact wrap_i64 ah ah
  .rw[aan hp,ak,gq.i 11,v11]
  .refine out J _ _ _ _ _ _ _ 5 D es clock (ai.refl _ _) ?_ h.ok rfl h.map h.st (by rw[ak,v11]) (by rw[br,vb]) vh vm;unfold db;rw[aav hg]
def fy (v:Value):List Int:=(Tf v).map fun c=>bS (some c)
def sq (l:List Int):fy (.agg (aM l).toArray)=l:=by
 show((l.map (Value.int .u8)).map fun c=>bS (some c))=l;rw[abg];exact List.map_id l
def gY:∀ (n:Nat) (l:List Int),l.length=n->bg (aM l) ((List.replicate n (Ck.int .u8)).map kc)
 | 0,[],_=>trivial
 | n+1,x::l,h=>⟨by simp [bp,kc],gY n l (by simpa using h)⟩
 | 0,_::_,h=>by simp at h
 | _+1,[],h=>by simp at h
def jn (n c:Int):Int:=ct .or .u64 (IntKind.u64.wrap (n*2 ^ (min (Int.toNat 8) IntKind.u64.bits))) (IntKind.u64.wrap c)
def fK (bs:List Int):Int:=bs.foldl jn 0
def m8 (bs:List Int) (k:Nat) (h:k<bs.length):fK (bs.take (k+1))=jn (fK (bs.take k)) bs[k]:=by
 unfold fK;rw[abx,aab h,List.foldl_append];rfl
def MZ:Sx.Spec where
 fn:=155
 own:=[]
 rd:=[0]
 res:=[.one (.int .u64)]
 pre:=fun xs Hs Rs=>∃ u bs R,xs=[u]/\Rs=[R]/\fu R u bs/\bs.length<=1000
 post:=fun xs Hs Rs v Hs' F=>∃ u bs R,xs=[u]/\Rs=[R]/\fu R u bs/\v=.int .u64 (fK bs)
def M0:aG Tryz.prog [] MZ.fn where
 Λ:=fun p=>if lp p then some ⟨0,[(3,TI .u64 (.var 10)),(8,TI .i64 (.var 11))],[],12⟩else none
 args:=[.sv (.one (.sl (.var 0) (.var 1) (.var 2) (.var 3)))]
 mem:=[.ro 4 [.var 0] false]
 nv:=5
def MY (bs:List Int) (_:Nat) (q:Env):Prop:=∃ k:Nat,k<=bs.length/\q.i 11=k/\q.i 10=fK (bs.take k)
def Ql:MZ.OK Tryz.prog:=by
 refine Spec.aS (Γ:=[]) (fun _ h=>by cases h) ?_;rintro xs Hs Rs hl1 hl2 ⟨u,bs,R,rfl,rfl,⟨x,y,cp,rfl,hy,hR⟩,hlen⟩;have e0:Hs=[]:=aad.1 hl1;subst e0;refine⟨M0,aO [x,y,bs.length,cp] false [Hl.none,Hl.none,Hl.none,Hl.none,R],MY bs,fun _ q=>(bs.length-q.i 11).toNat,?_,⟨?_,?_,?_,?_⟩,(fun _ h=>nomatch h),?_⟩
 .show [Value.slice (az x y) ((bs.length:Int)).toNat ((cp:Int)).toNat]=_;rw[aaa,aaa]
 .intro r hr ho;simp [M0]at hr;subst hr;cases ho
 .intro r hr ho;simp [M0]at hr;subst hr;exact⟨R,aF,Hl.le_refl _⟩
 .simp [M0]
 .intro r hr;simp [M0]at hr;subst hr;trivial
 .refine aG.read [] [] [] ?_;generalize hρ:aO [x,y,bs.length,cp] false [Hl.none,Hl.none,Hl.none,Hl.none,R]=J;have v0:J.i 0=x:=by rw[<-hρ];rfl
  have v1:J.i 1=y:=by rw[<-hρ];rfl
  have v2:J.i 2=bs.length:=by rw[<-hρ];rfl
  have w4:J.h 4=R:=by rw[<-hρ];rfl
  simp only[go_sem,Nat.reduceAdd];rw[v2];refine⟨ah,⟨0,ah,rfl,rfl⟩,fun q g ⟨k,hk,h11,h10⟩=>?_⟩;rw[g.i 0,g.i 1,g.i 2,g.h 4,v0,v1,v2,w4,h11];refine⟨fun hlt=>?_,fun hge=>?_⟩
  .have hk':k<bs.length:=ah;have hxr:0<=x/\∀ j z,bs[j]?=some z->R.cell x.toNat (y.toNat+j)=some (.int .u8 z):=by
    rcases hR with h | h
    .subst h;simp at hk'
    .exact h
   have hc:R.cell x.toNat (y+k).toNat=some (.int .u8 bs[k]):=by
    rw[show(y+(k:Int)).toNat=y.toNat+k by omega];exact hxr.2 _ _ (aab hk')
   rw[hc];refine⟨hxr.1,hy,ah,rfl,⟨k+1,ah,?_,?_⟩,?_⟩
   .show IntKind.i64.wrap (q.i 11+1)=_;rw[h11];exact wrap_i64 ah ah
   .show jn (q.i 10) (bS ((q.h 4).cell (q.i 0).toNat (q.i 1+q.i 11).toNat))=_;rw[h10,g.i 0,g.i 1,g.h 4,v0,v1,w4,h11,hc,m8 bs k hk'];rfl
   .show((bs.length:Int)-IntKind.i64.wrap (q.i 11+1)).toNat<_;rw[h11,wrap_i64 ah ah];omega
  .have e:k=bs.length:=ah;subst e;rw[abk]at h10;refine fun _=>⟨[],[],rfl,rfl,⟨(aY fun _=>q.i 10),rfl,zzT,zzT⟩,_,bs,R,rfl,rfl,⟨x,y,cp,rfl,hy,hR⟩,?_⟩;show Value.int .u64 (q.i 10)=_;rw[h10]
def wrap_u64 (h0:0<=x) (h1:x<18446744073709551616):IntKind.u64.wrap x=x:=by
 show Int.emod x 18446744073709551616=x;exact ade h0 h1
def fS (n0:0<=n) (n1:n<72057594037927936) (c0:0<=c) (c1:c<256):jn n c=n*256+c:=by
 unfold jn;rw[show n*2 ^ (min (Int.toNat 8) IntKind.u64.bits)=n*256 from rfl,wrap_u64 ah ah,wrap_u64 c0 ah];obtain⟨m,rfl⟩:=abB n0;obtain⟨d,rfl⟩:=abB c0;show IntKind.u64.wrap (((BitVec.ofInt 64 ((m:Int)*256)) |||(BitVec.ofInt 64 (d:Int))).toNat:Int)=_;have e1:(BitVec.ofInt 64 ((m:Int)*256)).toNat=m*256:=by
  rw[show((m:Int)*256)=((m*256:Nat):Int)by omega,ab4,acg];exact aca ah
 have e2:(BitVec.ofInt 64 (d:Int)).toNat=d:=by
  rw[ab4,acg];exact aca ah
 rw[ac2,e1,e2];have e3:m*256 |||d=m*256+d:=by
  have:=acT (i:=8) (b:=d) ah m;rw[Nat.shiftLeft_eq]at this;exact this.symm
 rw[e3,wrap_u64 ah ah];omega
def xq (x:Int):List Int:=[x/72057594037927936%256,x/281474976710656%256,x/1099511627776%256,x/4294967296%256,x/16777216%256,x/65536%256,x/256%256,x%256]
def KP {a b d e f g h:Int} (ha:0<=a/\a<256) (hb:0<=b/\b<256) (hc:0<=c/\c<256) (hd:0<=d/\d<256) (he:0<=e/\e<256) (hf:0<=f/\f<256) (hg:0<=g/\g<256) (hh:0<=h/\h<256) :
 fK [a,b,c,d,e,f,g,h]=((((((a*256+b)*256+c)*256+d)*256+e)*256+f)*256+g)*256+h:=by
 show jn (jn (jn (jn (jn (jn (jn (jn 0 a) b) c) d) e) f) g) h=_;have e1:jn 0 a=a:=by rw[fS ah ah ha.1 ha.2];omega
 rw[e1,fS (n:=a) (c:=b) ha.1 ah hb.1 hb.2];rw[fS (n:=a*256+b) (c:=c) ah ah hc.1 hc.2];rw[fS (n:=(a*256+b)*256+c) (c:=d) ah ah hd.1 hd.2];rw[fS (n:=((a*256+b)*256+c)*256+d) (c:=e) ah ah he.1 he.2];rw[fS (n:=(((a*256+b)*256+c)*256+d)*256+e) (c:=f) ah ah hf.1 hf.2];rw[fS (n:=((((a*256+b)*256+c)*256+d)*256+e)*256+f) (c:=g) ah ah hg.1 hg.2];rw[fS (n:=(((((a*256+b)*256+c)*256+d)*256+e)*256+f)*256+g) (c:=h) ah ah hh.1 hh.2]
def xy (h0:0<=x) (h1:x<18446744073709551616):fK (xq x)=x:=by
 unfold xq;rw[KP ah ah ah ah ah ah ah ah];omega
def td (n:Nat):List Ck:=List.replicate n (.int .u8)
def kz:List Ck:=[.int .u64,.int .u64]++td 16
def cA (l:List Int):List Int:=xq (l.getD 0 0)++xq (l.getD 1 0)++(l.drop 2).take 16
def VX (xs:List Value):Value:=match xs with
 | [v]=>.agg (aM (cA (fy v))).toArray
 | _=>.bool false
def VY (xs:List Value):Prop:=match xs with
 | [v]=>(0<=(fy v).getD 0 0/\(fy v).getD 0 0<18446744073709551616)/\0<=(fy v).getD 1 0/\(fy v).getD 1 0<18446744073709551616
 | _=>False
def Ju:Sx.Spec:=qe 160 [.agg kz] [.agg (td 32)] VY VX
def VZ:aG Tryz.prog [] 160 where
 Λ:=aD
 args:=(bV 0 [.agg kz]).map .sv
 mem:=[]
 nv:=18
def wrap_u8 (x:Int):IntKind.u8.wrap x=x%256:=rfl
def RL {n:Nat} (h:q.i n=x) (h0:0<=x) (k:Nat):aB q (.wrap .u8 (.shr .u64 (.var n) (.lit k)))=x/2 ^ (min k 64)%256:=by
 rw[bx,wrap_u8,QK,ak,h];show x.fdiv (2 ^ (min ((k:Int)).toNat 64))%256=_;rw[aaa,abz _ (Int.le_of_lt (Int.pow_pos ah))]
def MW {n:Nat} (h:q.i n=x) (h0:0<=x):[Value.int .u8 (aB q (.wrap .u8 (.shr .u64 (.var n) (.lit 56)))),Value.int .u8 (aB q (.wrap .u8 (.shr .u64 (.var n) (.lit 48)))),Value.int .u8 (aB q (.wrap .u8 (.shr .u64 (.var n) (.lit 40)))),Value.int .u8 (aB q (.wrap .u8 (.shr .u64 (.var n) (.lit 32)))),Value.int .u8 (aB q (.wrap .u8 (.shr .u64 (.var n) (.lit 24)))),Value.int .u8 (aB q (.wrap .u8 (.shr .u64 (.var n) (.lit 16)))),Value.int .u8 (aB q (.wrap .u8 (.shr .u64 (.var n) (.lit 8)))),Value.int .u8 (aB q (.wrap .u8 (.shr .u64 (.var n) (.lit 0))))]=(xq x).map (Value.int .u8):=by
 have s:=fun k=>RL h h0 k;have s56:aB q (.wrap .u8 (.shr .u64 (.var n) (.lit 56)))=x/72057594037927936%256:=s 56;have s48:aB q (.wrap .u8 (.shr .u64 (.var n) (.lit 48)))=x/281474976710656%256:=s 48;have s40:aB q (.wrap .u8 (.shr .u64 (.var n) (.lit 40)))=x/1099511627776%256:=s 40;have s32:aB q (.wrap .u8 (.shr .u64 (.var n) (.lit 32)))=x/4294967296%256:=s 32;have s24:aB q (.wrap .u8 (.shr .u64 (.var n) (.lit 24)))=x/16777216%256:=s 24;have s16:aB q (.wrap .u8 (.shr .u64 (.var n) (.lit 16)))=x/65536%256:=s 16;have s8:aB q (.wrap .u8 (.shr .u64 (.var n) (.lit 8)))=x/256%256:=s 8;have s0:aB q (.wrap .u8 (.shr .u64 (.var n) (.lit 0)))=x/1%256:=s 0;rw[s56,s48,s40,s32,s24,s16,s8,s0,Int.ediv_one];rfl
set_option maxRecDepth 20000 in
def NA:Ju.OK Tryz.prog:=by
 refine jH (fun t h=>by cases h) VZ rfl rfl rfl (fun q _ _=>?_) (fun q hq hN=>⟨fun _ _=>True,fun _ _=>0,?_⟩)
 .obtain⟨J,_,_,e⟩:=cH (td 32) 0 (aM (cA (fy ((SV.agg (al 0 kz)).ev q)))) q (gY 32 _ rfl);exact⟨J,by show Value.agg _=Value.agg ((al 0 (td 32)).map (CV.ev J)).toArray;rw[e];rfl,cm _ _ _ aA,zzT⟩
 .have hN:(0<=q.i 0/\q.i 0<18446744073709551616)/\0<=q.i 1/\q.i 1<18446744073709551616:=hN;obtain⟨⟨a0,a1⟩,b0,b1⟩:=hN;refine aG.read [] [] [] ?_;simp only[Nd.holds,X.pre,X.rel,X.n];intro q1 g1 _ q2 g2 _ q3 g3 _;have G:ai 18 q q3:=(g1.tr g2).tr g3;have e0:q3.i 0=q.i 0:=G.i 0;have e1:q3.i 1=q.i 1:=G.i 1;show Value.agg (List.map (CV.ev q3) (_++_)).toArray=Value.agg (aM (xq (q.i 0)++xq (q.i 1)++(List.range 16).map fun j=>q.i (2+j))).toArray
  congr 2
  rw[aaM];unfold aM;rw[aaM]
  congr 1
  .rw[aaM,<-MW e0 a0,<-MW e1 b0];rfl
  .have:=CV.ga (G.mono aA) _ (cw (td 16) 2);unfold td at this;rw[this];rfl
def wh (l:List Int):List Value:=[.int .u64 (fK (l.take 8)),.int .u64 (fK ((l.drop 8).take 8))]++aM ((l.drop 16).take 16)
def QG (xs:List Value):Value:=match xs with
 | [v]=>.agg (wh (fy v)).toArray
 | _=>.bool false
def xE:Sx.Spec:=qe 123 [.agg (td 32)] [.agg kz] (fun _=>True) QG
def Jw:List Sx.Spec:=[MZ]
def NL:∀ t∈Jw,t.OK Tryz.prog:=fun t ht=>by
 rw[Jw,aal]at ht;subst ht;exact Ql
def QH:aG Tryz.prog Jw 123 where
 Λ:=aD
 args:=(bV 0 [.agg (td 32)]).map .sv
 mem:=[]
 nv:=32
def NM:Jw[0]?=some MZ:=rfl
def wj:MZ.res=[.one (.int .u64)]:=rfl
def J4 {a:Int} (h0:0<=a) (vs:List Int) (o n c:Nat) (T:TypeId) (hn:o+n<=vs.length):fu (Hl.one a.toNat (.cells (aM vs).toArray T (0,0))) (.slice (az a (o:Int)) n c) ((vs.drop o).take n):=by
 have hl:((vs.drop o).take n).length=n:=by rw[aaA,aaK];omega
 refine⟨a,o,c,by rw[hl],ah,Or.inr ⟨h0,fun j z hz=>?_⟩⟩;rw[Hl.one_cell,abl,fF,aaa];rw[aaX]at hz;split at hz
 .rw[aaV]at hz;rw[hz];rfl
 .cases hz
set_option maxRecDepth 20000 in
def Hk:xE.OK Tryz.prog:=by
 refine jH NL QH rfl rfl rfl (fun q _ _=>?_) (fun q hq hN=>⟨fun _ _=>True,fun _ _=>0,?_⟩)
 .obtain⟨J,_,_,e⟩:=cH kz 0 (wh (fy ((SV.agg (al 0 (td 32))).ev q))) q ⟨by simp [bp,kc],by simp [bp,kc],gY 16 _ rfl⟩;exact⟨J,by show Value.agg _=Value.agg ((al 0 kz).map (CV.ev J)).toArray;rw[e];rfl,cm _ _ _ aA,zzT⟩
 .refine aG.read [] [] [] ?_;simp only[Nd.holds,X.pre,X.rel,X.n,NM,wj,gk,j8,Cp.sv,Ck.cv,bV,Cp.len,Ck.len,gV,jh,TV.ev,SV.ev,CV.ev,aaC,abn,bD.hl,ak,aq];intro q1 g1 a1 q2 g2 a2;obtain⟨L,hL⟩:∃ L,L=(List.range 32).map fun j=>q.i j:=⟨_,rfl⟩;have hLl:L.length=32:=by rw[hL];rfl
  have G2:ai 32 q q2:=g1.tr g2;have cells:∀ q',ai 32 q q'->List.map (CV.ev q') (al 0 (List.replicate 32 (Ck.int .u8)))=aM L:=by
   intro q' g;have:=CV.ga (g.mono aA) _ (cw (td 32) 0);unfold td at this;rw[this,hL];rfl
  rw[cells q2 G2];have p2:0<=q2.i 32:=by rw[g2.i 32];exact a1
  refine⟨⟨_,L.take 8,_,rfl,rfl,J4 p2 L 0 8 32 _ ah,by rw[aaA];omega⟩,fun q3 g3 ⟨_,⟨u,bs,R,hx,hR,hrd,hv⟩,_⟩=>?_⟩;cases hx;cases hR;have e1:=hrd.uniq (J4 p2 L 0 8 32 _ ah);have G3:ai 32 q q3:=G2.tr g3;rw[cells q3 G3];have p3:0<=q3.i 32:=by rw[g3.i 32];exact p2
  refine⟨⟨_,(L.drop 8).take 8,_,rfl,rfl,J4 p3 L 8 8 24 _ ah,by rw[aaA];omega⟩,fun q4 g4 ⟨_,⟨u,bs2,R,hx,hR,hrd2,hv2⟩,_⟩=>?_⟩;cases hx;cases hR;have e2:=hrd2.uniq (J4 p3 L 8 8 24 _ ah);have G4:ai 32 q q4:=G3.tr g4;simp only[Value.int.injEq,aaY]at hv hv2;have hv:q4.i 34=fK (L.take 8):=by rw[g4.i 34,hv,e1];rfl
  have hv2:q4.i 35=fK ((L.drop 8).take 8):=by rw[hv2,e2]
  show Value.agg (List.map (CV.ev q4) (_++_)).toArray=Value.agg (wh ((List.range 32).map fun j=>q.i j)).toArray;rw[<-hL]
  congr 2
  rw[aaM];unfold wh
  congr 1
  .show [Value.int .u64 (q4.i 34),Value.int .u64 (q4.i 35)]=_;rw[hv,hv2]
  .have:=CV.ga (G4.mono aA) _ (cw (td 16) 16);unfold td at this;rw[this,hL];rfl
structure LM where
 frm:Int
 most:Int
 serial:Int
 size:Int
 note:List Int
 over:Bool
variable {L L':LM}
structure LM.ok (L:LM):Prop where
 frm:0<=L.frm/\L.frm<=16384
 most:0<=L.most/\L.most<=1048576
 note:L.note.length=16
def ly (dp sl:Value) (L:LM):List Value:=[dp,.int .i64 L.frm,.int .i64 L.most,.int .u64 L.serial,.int .u64 L.size]++(aM L.note++[sl,.bool L.over])
def ko (R:Hl) (a:Nat) (dp sl:Value) (L:LM):Prop:=L.ok/\R a=some (.cells (ly dp sl L).toArray 145 (0,0))
def fQ (R:Hl) (p dp sl:Value) (L:LM):Prop:=∃ a:Nat,p=.pointer (some ⟨a,0,none⟩)/\ko R a dp sl L
def Hy (h1:L.note.length=16) (h2:L'.note.length=16) (h:ly dp sl L=ly dp' sl' L'):dp=dp'/\sl=sl'/\L=L':=by
 unfold ly at h;obtain⟨ha,hb⟩:=acm h rfl;obtain⟨hc,hd⟩:=acm hb (by rw[bX,bX,h1,h2]);simp only[aag,Value.int.injEq,Value.bool.injEq,aaY,aat]at ha hd;obtain⟨e0,e1,e2,e3,e4⟩:=ha;have e5:=ky hc;obtain⟨x1,x2,x3,x4,x5,x6⟩:=L;obtain⟨y1,y2,y3,y4,y5,y6⟩:=L';simp only at e1 e2 e3 e4 e5 hd;obtain⟨e6,e7⟩:=hd;subst e1 e2 e3 e4 e5 e7;exact⟨e0,e6,rfl⟩
def fQ.uniq (h:fQ R p dp sl L) (h':fQ R p dp' sl' L'):dp=dp'/\sl=sl'/\L=L':=by
 obtain⟨a,rfl,ho,h⟩:=h;obtain⟨a',he,ho',h'⟩:=h';simp only[Value.pointer.injEq,aai,Addr.mk.injEq,aat]at he;subst he;rw[h]at h';simp only[aai,Obj.cells.injEq,aat]at h';exact Hy ho.note ho'.note (aaD Array.toList h')
def ko.cell (h:ko R a dp sl L) (j:Nat):R.cell a j=(ly dp sl L)[j]?:=by
 unfold Hl.cell;rw[h.2];simp
def ko.mono (h:ko R a dp sl L) (hl:R.le R'):ko R' a dp sl L:=⟨h.1,hl _ _ h.2⟩
def fQ.mono (h:fQ R p dp sl L) (hl:R.le R'):fQ R' p dp sl L:=by
 obtain⟨a,e,h⟩:=h;exact⟨a,e,h.mono hl⟩
def hJ:List Int:=List.replicate 18 0
def yV (x:List Int):List Int:=[fK (x.take 8),fK ((x.drop 8).take 8)]++(x.drop 16).take 16
def oj (h:List Int):List Value:=[.int .u64 (h.getD 0 0),.int .u64 (h.getD 1 0)]++aM (h.drop 2)
def Bh (b:List Int) (most place:Int):Prop:=b.take 32=b.drop 32/\(fK ((b.take 32).take 8)).tmod 2=place/\fK (((b.take 32).drop 8).take 8)<=most
instance (b:List Int) (most place:Int):Decidable (Bh b most place):=by unfold Bh;infer_instance
def bI (D:DM) (frm most place:Int):List Int×Int :=
 if(ia D (frm+place)).2≠0 then(hJ,(ia D (frm+place)).2)
 else if Bh (ia D (frm+place)).1 most place then(yV ((ia D (frm+place)).1.take 32),0)else(hJ,0)
def mP:Sx.Spec where
 fn:=77
 own:=[.link 0 0]
 rd:=[0]
 res:=[.agg kz,.one (.int .i64)]
 pre:=fun xs Hs Rs=>∃ p place H R dp sl L D,xs=[p,.int .u64 place]/\Hs=[H]/\Rs=[R]/\fQ R p dp sl L/\aE H dp D/\(place=0\/place=1)
 post:=fun xs Hs Rs v Hs' F=>∃ p place H R dp sl L D H',xs=[p,.int .u64 place]/\Hs=[H]/\Rs=[R]/\fQ R p dp sl L/\aE H dp D/\Hs'=[H']/\aE H' dp D /\
  v=.tuple #[.agg (oj (bI D L.frm L.most place).1).toArray,.int .i64 (bI D L.frm L.most place).2]
def BO:E:=.ite (.eq (.var 8) (.lit 32)) (.var 6) (.add (.var 6) (.lit 32))
def VP (f g:Nat->E):Nat->Nat->E
 | 0,j=>.eq (f j) (g j)
 | n+1,j=>.and (.eq (f j) (g j)) (VP f g n (j+1))
def Jk {q:Env} {f g:Nat->E} : ∀ (n j:Nat),ba q (VP f g n j)=true↔∀ i,j<=i->i<=j+n->aB q (f i)=aB q (g i)
 | 0,j=>by
  unfold VP;rw[gn]
  exact⟨fun h i h1 h2=>by obtain rfl:i=j:=by omega
                          exact h,fun h=>h j ah ah⟩
 | n+1,j=>by
  unfold VP;rw[iW,gn,Jk n (j+1)];refine⟨fun⟨h1,h2⟩ i a b=>?_,fun h=>⟨h j ah ah,fun i a b=>h i ah ah⟩⟩;rcases aa9 j i with h | h
  .exact h2 i ah ah
  .obtain rfl:i=j:=ah;exact h1
def Dl:E:=VP (fun j=>.hI 6 (.var 5) (.var 6) j) (fun j=>.hI 6 (.var 5) BO j) 31 0
def JL:Nd:=(fun g c m j k=>(fun l h f i=>(fun d b=>(fun a=>(.ext (.alloc 4) (.and (.e (.le c g)) (.and (.e (.his 2 g c 0 .ptr)) (.and (.e (.his 2 g (.lit 1) 0 (.int .i64))) (.and (.pre b) (.ext b (.and (.imp (.not (.eq (.var 9) c)) (.post [.hp 5 [3] l [],.ro 2 [.var 0] false,.dead,.hp 6 [] [.var 5] []] (.tup [.agg h,.one (.int .i64 (.var 9))]))) (.imp (.eq (.var 9) c) (.and (.e (.le (.lit (-1)) m)) (.and (.e (.le c (.var 6))) (.and (.e (.le j (.var 8))) (.and (.e (.le c m)) (.and (.e (.hby 6 m (.var 6) j)) (.and (.e (.le j (.var 7))) (.and (.e (.le (.var 7) (.var 8))) (.and (.e (.le j (.sub (.var 7) j))) (.and (.e (.le c BO)) (.and (.e (.hby 6 m BO j)) (.ext (.alloc 10) (.ext (.alloc 11) (.and (.pre f) (.ext f (.ext (.alloc 30) (.and (.imp (.not Dl) a) (.imp Dl (.and (.imp (.not k) a) (.imp k (.and (.e (.his 2 g (.lit 2) 0 (.int .i64))) (.and (.imp i a) (.imp (.not i) (.post d (.tup [.agg (al 12 ([Ck.int .u64,Ck.int .u64]++List.replicate 16 (Ck.int .u8))),.one (.int .i64 c)]))))))))))))))))))))))))))))))):Nd)) (.post d (.tup [.agg h,.one (.int .i64 c)]))) [.hp 5 [3] l [],.ro 2 [.var 0] false,.dead,.hp 6 [] [.var 5] [],.dead,.dead,.dead] (.call 0 5 [.sv (.one (.hptr (.hP 2 g c 0 0) (.hP 2 g c 0 1))),.sv (.one (.int .i64 (.wrap .i64 (.add (.hI 2 g (.lit 1) 0) (.wrap .i64 (.var 1))))))] [.hp 3 [] l []] [])) [.hP 2 g c 0 0] ([.int .u64 c,.int .u64 c]++List.replicate 16 (CV.int .u8 c)) (.call 1 12 [.sv (.agg (aU 6 m (.var 6) 0 (List.replicate 32 (Kd.int .u8))))] [] []) (.lt (.wrap .u64 (.hI 2 g (.lit 2) 0)) (.var 13))) (.var 0) (.lit 0) (.var 5) (.lit 32) (.eq (.rem (.var 12) (.lit 2)) (.var 1))
def CW:List Sx.Spec:=[BN,xE]
def Lu:∀ t∈CW,t.OK Tryz.prog:=av FH <| av Hk <| bQ
def zk:aG Tryz.prog CW mP.fn where
 Λ:=aD
 args:=[TP (.var 0) (.lit 0),TI .u64 (.var 1)]
 mem:=[.hp 3 [] [.hP 2 (.var 0) (.lit 0) 0 0] [],.ro 2 [.var 0] false]
 nv:=4
def rr0:BN.res=[.one .sl,.one (.int .i64)]:=rfl
def rr1:xE.res=[.agg kz]:=rfl
def rc0:(aK 0 [Cp.one .sl,Cp.one (.int .i64)]≠[])=True:=by simp [aK,Cp.roots,Ck.root]
def jc (q:Env):∀ (m n:Nat),bw n (List.replicate m (Ck.int .u8)) q
 | 0,_=>trivial
 | m+1,n=>⟨zzT,jc q m (n+1)⟩
def bO.cap {l:Int} (h:bO F e (.slice (az x y) l.toNat c.toNat) bs) (hl:0<=l) (hc:0<=c):l<=c:=by
 obtain⟨_,h⟩:=h;rcases h with ⟨h,_⟩ | ⟨g,cap,cur,h,_,hle,_⟩
 .simp only[Value.slice.injEq]at h;omega
 .simp only[Value.slice.injEq]at h;omega
def FG (h:D.ok) (e:(ia D i).2=0):D.has i=true/\D.gone=false/\(ia D i).1=D.bL i/\(D.bL i).length=64:=by
 unfold ia at e ⊢;split at e
 .cases e
 .rename_i h1;have h1:D.has i=true:=by simpa using h1
  rw[aan (by simp [h1])];split at e
  .cases e
  .rename_i h2;rw[aan h2];exact⟨h1,by simpa using h2,rfl,gu h h1⟩
def Hm {x:List Int} (h:x.length=32):xE.pre [.agg (aM x).toArray] [] []:=by
 obtain⟨c,_,_,ec⟩:=cH (td 32) 0 (aM x) (aY fun _=>0) (gY 32 _ h);refine⟨⟨c,⟨jc c 32 0,zzT⟩,?_⟩,zzT⟩;show [Value.agg (aM x).toArray]=[Value.agg ((al 0 (td 32)).map (CV.ev c)).toArray];rw[ec]
def Lt:mP.OK Tryz.prog:=by
 refine Spec.aS (Γ:=CW) Lu ?_;rintro xs Hs Rs hl1 hl2 ⟨p,place,H,R,dp,sl,L,D,rfl,rfl,rfl,⟨a,rfl,hL⟩,hD,hpl⟩;obtain⟨da,s,m,es,clock,rfl,hDi⟩:=hD;refine⟨zk,aO [a,place] false [Hl.none,Hl.none,R,H],fun _ _=>True,fun _ _=>0,?_,⟨?_,?_,?_,?_⟩,(fun _ h=>nomatch h),?_⟩
 .show [Value.pointer (az (a:Int) 0),Value.int .u64 place]=_;rw[jq]
 .intro r hr ho;simp [zk]at hr;rcases hr with rfl | rfl
  .exact⟨H,aF,Hl.le_refl _⟩
  .cases ho
 .intro r hr ho;simp [zk]at hr;rcases hr with rfl | rfl
  .cases ho
  .exact⟨R,aF,Hl.le_refl _⟩
 .simp [zk,bD.own]
 .intro r hr;simp [zk]at hr;rcases hr with rfl | rfl<;>trivial
 .refine aG.lit (x:=JL) ?_;generalize hρ:aO [(a:Int),place] false [Hl.none,Hl.none,R,H]=J;have v0:J.i 0=a:=by rw[<-hρ];rfl
  have v1:J.i 1=place:=by rw[<-hρ];rfl
  have w2:J.h 2=R:=by rw[<-hρ];rfl
  have w3:J.h 3=H:=by rw[<-hρ];rfl
  unfold JL;simp only[go_sem,Nat.reduceAdd,CW,rr0,rr1,rc0];intro q0 g0 _;have hDA:aE H (.pointer (some ⟨da,0,none⟩)) D:=⟨da,s,m,es,clock,rfl,hDi⟩;have t0:Int.toNat 0=0:=rfl;have t1:Int.toNat 1=1:=rfl;have t2:Int.toNat 2=2:=rfl;have t32:Int.toNat 32=32:=rfl;have c0:R.cell a 0=some (.pointer (some ⟨da,0,none⟩)):=by rw[hL.cell];rfl
  have c1:R.cell a 1=some (.int .i64 L.frm):=by rw[hL.cell];rfl
  have c2:R.cell a 2=some (.int .i64 L.most):=by rw[hL.cell];rfl
  obtain⟨f0,f1⟩:=hL.1.frm;obtain⟨m0,m1⟩:=hL.1.most;have ep:Value.pointer (az (bm (R.cell a 0) 0) (bm (R.cell a 0) 1))=.pointer (some ⟨da,0,none⟩):=by rw[c0];exact jq da
  have ei:IntKind.i64.wrap (bS (R.cell a 1)+IntKind.i64.wrap place)=L.frm+place:=by
   rw[c1];show IntKind.i64.wrap (L.frm+IntKind.i64.wrap place)=_;rw[wrap_i64 (n:=place) ah ah];exact wrap_i64 ah ah
  rw[g0.i 0,v0,g0.h 2,w2,g0.i 1,v1,g0.h 3,w3,aaa,t0,t1,ep,ei];refine⟨ah,by rw[c0];rfl,by rw[c1];rfl,⟨_,L.frm+place,H,D,rfl,rfl,hDA⟩,fun q1 g1 ⟨F,⟨p',i',H',D',H2,u,hx,hH,hD',hH2,hD2,hv,hO⟩,hF,hn⟩=>?_⟩;cases hx;cases hH;have e:=hD'.uniq hDA;subst e;obtain⟨⟨n5,n6,n7,n8⟩,_⟩:=hn;have n6:0<=q1.i 6:=n6;have n7:0<=q1.i 7:=n7;have n8:0<=q1.i 8:=n8;simp only[Value.tuple.injEq,aaT,aag,Value.int.injEq,aaY,aat]at hv hH2;obtain⟨rfl,h9⟩:=hv;have hF:=hF trivial;subst hF;have out:∀ (q:Env) (t:Mem) (r:TV) (h:List Int) (e:Int) (ρ2:Env),ai 10 q1 q->bI D' L.frm L.most place=(h,e)->r.ev q=(j8 0 mP.res).ev ρ2->r.ev q=.tuple #[.agg (oj h).toArray,.int .i64 e] ->
   postOf mP [.pointer (some ⟨a,0,none⟩),.int .u64 place] [H] [R] q (.hp 5 [3] [.hP 2 (.var 0) (.lit 0) 0 0] []::t) r:=by
   intro q t r h e ρ2 hq hr h1 h2 _;refine⟨[[0]],[],rfl,rfl,⟨ρ2,h1,cm _ _ _ aA,zzT,zzT⟩,_,place,H,R,_,sl,L,D',_,rfl,rfl,rfl,⟨a,rfl,hL⟩,hDA,rfl,?_,?_⟩
   .show aE (cP [q.h 5]) _ _;rw[aL,hq.h 5,hH2];exact hD2
   .rw[h2,hr]
  have zero:∀ (q:Env) (t:Mem) (x:E) (e:Int),ai 10 q1 q->bI D' L.frm L.most place=(hJ,e)->aB q x=e ->
   postOf mP [.pointer (some ⟨a,0,none⟩),.int .u64 place] [H] [R] q (.hp 5 [3] [.hP 2 (.var 0) (.lit 0) 0 0] []::t) (.tup [.agg ([.int .u64 (.lit 0),.int .u64 (.lit 0)]++List.replicate 16 (CV.int .u8 (.lit 0))),.one (.int .i64 x)]):=by
   intro q t x e hq hr hx;refine out q t _ hJ e (aY fun k=>if k=18 then e else 0) hq hr ?_ ?_
   .subst hx;rfl
   .subst hx;rfl
  refine⟨fun h=>zero q1 _ _ _ (ai.refl _ _) ?_ (by rw[ak]),fun h=>?_⟩
  .unfold bI;rw[<-h9,aav h]
  .rw[h]at h9;obtain⟨hh,hg,hs,hl⟩:=FG hDi.ok h9.symm;obtain⟨b,hb⟩:∃ b,b=(ia D' (L.frm+place)).1:=⟨_,rfl⟩;rw[<-hb]at hO hs;have hbl:b.length=64:=by rw[hs];exact hl
   have hat:=hO.rd.at n5 n6 n7;obtain⟨e7,hc⟩:=hat;rw[hbl]at e7;have hc:0<=q1.i 5/\∀ j z,b[j]?=some z->(q1.h 6).cell (q1.i 5).toNat ((q1.i 6).toNat+j)=some (.int .u8 z):=by
    rcases hc with ⟨_,hc⟩ | hc
    .rw[hc]at hbl;cases hbl
    .exact hc
   obtain⟨p5,hc⟩:=hc;have hcap:=bO.cap hO n7 n8;have eY:∀ q,ai 10 q1 q->aB q BO=q1.i 6+32:=by
    intro q g;unfold BO;rw[cG,aan (by rw[gn,ak,aq,g.i 8];omega),bJ,ak,aq,g.i 6]
   rw[eY q1 (ai.refl _ _),t32];refine⟨n5,n6,ah,p5,cW hc ah,ah,ah,ah,ah,?_,fun q2 g2 _ q3 g3 _=>?_⟩
   .refine cW (bs:=b.drop 32) (fun j z hz=>?_) (by rw[aaK];omega);rw[aaV]at hz;have:=hc _ _ hz;rw[show(q1.i 6+32).toNat+j=(q1.i 6).toNat+(32+j)by omega];exact this
   have G3:ai 10 q1 q3:=g2.tr g3;have hxl:(b.take 32).length=32:=by rw[aaA];omega
   have hrom:(aU 6 (E.var 5) (E.var 6) 0 (List.replicate 32 (Kd.int IntKind.u8))).map (CV.ev q3)=aM (b.take 32):=by
    refine gO 32 0 _ hxl fun i z hz=>?_;rw[aaX]at hz;split at hz
    .rw[ak,ak,G3.h 6,G3.i 5,G3.i 6,aaI];exact hc _ _ hz
    .cases hz
   rw[hrom];refine⟨Hm hxl,fun q4 g4 ⟨F4,hp4,_,_⟩ q5 g5 _=>?_⟩;have hp4:Value.agg (List.map (CV.ev q4) (al 12 kz)).toArray=Value.agg (wh (fy (.agg (aM (b.take 32)).toArray))).toArray:=hp4;rw[sq]at hp4;have hp4:List.map (CV.ev q4) (al 12 kz)=wh (b.take 32):=by simpa using hp4
   have i12:q4.i 12=fK ((b.take 32).take 8):=by
    have:=aaD (fun l=>l[0]?) hp4;simpa [kz,al,Ck.cv,CV.ev,wh,ak] using this
   have i13:q4.i 13=fK (((b.take 32).drop 8).take 8):=by
    have:=aaD (fun l=>l[1]?) hp4;simpa [kz,al,Ck.cv,CV.ev,wh,ak,Ck.len] using this
   have G5:ai 10 q1 q5:=(G3.tr g4).tr g5;have j12:q5.i 12=fK ((b.take 32).take 8):=by rw[g5.i 12,i12]
   have j13:q5.i 13=fK (((b.take 32).drop 8).take 8):=by rw[g5.i 13,i13]
   have heq:ba q5 Dl=true↔b.take 32=b.drop 32:=by
    unfold Dl;rw[Jk];have ex:∀ i:Nat,i<=31->aB q5 (.hI 6 (.var 5) (.var 6) i)=b.getD i 0/\aB q5 (.hI 6 (.var 5) BO i)=b.getD (32+i) 0:=by
     intro i hi;rw[dw,dw,ak,ak,eY q5 G5,G5.i 5,G5.i 6,G5.h 6];rw[hc i _ (aab ah),show(q1.i 6+32).toNat+i=(q1.i 6).toNat+(32+i)by omega,hc (32+i) _ (aab ah)];simp only[aak];rw[aab ah,aab ah];exact⟨rfl,rfl⟩
    constructor
    .intro h;apply aaL;intro j;rcases aa9 j 32 with hj | hj
     .have:=h j ah ah;rw[(ex j ah).1,(ex j ah).2]at this;rw[abd hj,aaV,aab ah,aab ah];simp only[aak]at this;rw[aab ah,aab ah]at this;exact aaD some this
     .rw[aaq (by rw[aaA];omega),aaq (by rw[aaK];omega)]
    .intro h i _ hi;rw[(ex i ah).1,(ex i ah).2];have this:(b.take 32)[i]?=(b.drop 32)[i]?:=aaD (fun l=>l[i]?) h;rw[abd ah,aaV]at this;rw[aak,aak,this]
   rw[heq,tH,ak,aq,j12,j13,g5.i 1,g4.i 1,g3.i 1,g2.i 1,g1.i 1,g0.i 1,v1];rw[g5.i 0,g4.i 0,g3.i 0,g2.i 0,g1.i 0,g0.i 0,v0];rw[g5.h 2,g4.h 2,g3.h 2,g2.h 2,g1.h 2,g0.h 2,w2,aaa,t2,c2];have hw:IntKind.u64.wrap (bS (some (.int .i64 L.most)))=L.most:=by show IntKind.u64.wrap L.most=_;exact wrap_u64 m0 ah
   rw[hw];have hl:bI D' L.frm L.most place=if Bh b L.most place then(yV (b.take 32),0)else(hJ,0):=by
    unfold bI;rw[aan (by rw[<-h9];simp),<-hb]
   refine⟨fun h1=>zero q5 _ _ _ G5 (by rw[hl,aan fun h=>h1 h.1]) (aq _ _),fun h1=>⟨fun h2=>zero q5 _ _ _ G5 (by rw[hl,aan fun h=>h2 h.2.1]) (aq _ _),fun h2=>⟨rfl,fun(h3:L.most<fK (((b.take 32).drop 8).take 8))=>zero q5 _ _ _ G5 (by rw[hl,aan fun h=>Int.not_le.2 h3 h.2.2]) (aq _ _),fun(h3:¬L.most<fK (((b.take 32).drop 8).take 8))=>?_⟩⟩⟩;refine out q5 _ _ (yV (b.take 32)) 0 (aY fun k=>if k=18 then 0 else q5.i (12+k)) G5 (by rw[hl,aav ⟨h1,h2,Int.not_lt.1 h3⟩]) ?_ ?_
   .rfl
   .show Value.tuple #[Value.agg (List.map (CV.ev q5) (al 12 kz)).toArray,_]=_;have e5:List.map (CV.ev q5) (al 12 kz)=List.map (CV.ev q4) (al 12 kz):=CV.ga (g5.mono aA) _ (cw kz 12);rw[e5,hp4];rfl
def bO.rep (h:bO F e v bs):∃ (x:Int) (c:Nat),-1<=x/\v=.slice (az x 0) bs.length c/\bs.length<=c/\((x= -1/\bs=[])\/(0<=x/\∀ j z,bs[j]?=some z->F.cell x.toNat j=some (.int .u8 z))):=by
 obtain⟨hl,h⟩:=h;rcases h with ⟨rfl,hn⟩ | ⟨g,cap,cur,rfl,hg,hle,hm,hs,ht⟩
 .exact⟨-1,0,ah,by rw[fb,hn],ah,Or.inl ⟨rfl,aad.1 hn⟩⟩
 .refine⟨g,cap,ah,by rw[au ah];simp,hle,Or.inr ⟨ah,fun j z hz=>?_⟩⟩;have hj:=(aaj.1 hz).1;simp only[aaa,Hl.cell,hg];have e1:(cur.toList.take (bs.length*1))[j]?=some (.int .u8 z):=by rw[ht,fF,hz];rfl
  rw[abd ah,acj]at e1;exact e1
def nM (all:List Int) (i:Nat):List Int:=(List.range 64).map fun j=>(all[64*i+j]?).getD 0
def gj (frm:Int) (all:List Int):Nat->Nat->DM->Int×DM
 | 0,_,D=>db D
 | f+1,i,D=>if 64*i<all.length then(if(dJ D (frm+2+i) (nM all i)).1≠0 then dJ D (frm+2+i) (nM all i)else gj frm all f (i+1) (dJ D (frm+2+i) (nM all i)).2)else db D
def ig (D:DM) (frm:Int) (all:List Int) (from_:Int):Int×DM:=gj frm all (all.length+1) (from_/64).toNat D
def EC:Sx.Spec where
 fn:=131
 own:=[.link 0 0]
 rd:=[0,1]
 res:=[.one (.int .i64)]
 pre:=fun xs Hs Rs=>∃ p u all fr H R1 R2 dp sl L D,xs=[p,u,.int .i64 fr]/\Hs=[H]/\Rs=[R1,R2]/\fQ R1 p dp sl L/\bO R2 5 u all/\aE H dp D/\0<=fr/\fr<=1073741824/\all.length<=1073741824
 post:=fun xs Hs Rs v Hs' F=>∃ p u all fr H R1 R2 dp sl L D H',xs=[p,u,.int .i64 fr]/\Hs=[H]/\Rs=[R1,R2]/\fQ R1 p dp sl L/\bO R2 5 u all/\aE H dp D/\Hs'=[H']/\aE H' dp (ig D L.frm all fr).2/\v=.int .i64 (ig D L.frm all fr).1
def qG:E:=.wrap .i64 (.mul (.var 20) (.lit 64))
def Be:E:=.ite (.lt (.sub (.var 3) qG) (.lit 64)) (.sub (.var 3) qG) (.lit 64)
def Bf:E:=.ite (.eq (.var 4) qG) (.var 2) (.add (.var 2) qG)
def Hf:List CV:=(List.range 64).map fun(j:Nat)=>.int .u8 (.ite (.lt (.lit (j:Int)) Be) (.hI 7 (.var 1) Bf j) (.lit 0))
def Nt:Nd:=(fun f c g i=>(fun j h b k=>(fun a d=>(.and (.inv 0 [⟨20,0,.int .i64 (.wrap .i64 (.quo (.var 5) g))⟩] [(21,some 6)]) (.havoc 0 0 9 (.and (.e (.le c i)) (.and (.imp (.lt b i) (.and (.pre k) (.ext k (.and (.e (.le (.lit (-1)) (.var 1))) (.and (.e (.le c (.var 2))) (.and (.e (.le c b)) (.and (.e (.le b i)) (.and (.e (.le i (.var 4))) (.and (.e (.and (.or (.and (.eq (.var 1) (.lit (-1))) (.eq (.sub i b) c)) (.and (.le c (.var 1)) (.and (.le c Bf) (.hby 7 (.var 1) Bf Be)))) (.and (.le c (.sub i b)) (.le Be g)))) (.and (.e (.le c f)) (.and (.e (.his 8 f c 0 .ptr)) (.and (.e (.his 8 f (.lit 1) 0 (.int .i64))) (.and (.pre a) (.ext a (.and (.imp (.not (.eq (.var 23) c)) (.post [.hp 23 [21] j [],.ro 7 [.var 1] false,.ro 8 [.var 0] false,.dead] (.sv (.one (.int .i64 (.var 23)))))) (.imp (.eq (.var 23) c) (.back 0 0 [⟨20,0,.int .i64 (.wrap .i64 (.add (.var 20) (.lit 1)))⟩] [(21,some 23)]))))))))))))))))) (.imp (.not (.lt b i)) (.and (.e (.le c f)) (.and (.e (.his 8 f c 0 .ptr)) (.and (.pre d) (.ext d (.post [.hp 22 [21] j [],.ro 7 [.var 1] false,.ro 8 [.var 0] false] (.sv (.one (.int .i64 (.var 22))))))))))))):Nd)) (.call 0 23 [.sv h,.sv (.one (.int .i64 (.wrap .i64 (.add (.wrap .i64 (.add (.hI 8 f (.lit 1) 0) (.lit 2))) (.var 20))))),.sv (.one (.sl (.var 22) c g g))] [.hp 21 [] j []] [.bd 22 Hf 5]) (.call 1 22 [.sv h] [.hp 21 [] j []] [])) [.hP 8 f c 0 0] (.one (.hptr (.hP 8 f c 0 0) (.hP 8 f c 0 1))) (.wrap .i64 (.mul (.var 20) g)) (.mk 22 5 [.int .u8 c] 1 g)) (.var 0) (.lit 0) (.lit 64) (.var 3)
def EE:List Sx.Spec:=[DX,wY]
def Nv:∀ t∈EE,t.OK Tryz.prog:=av Cj <| av Gh <| bQ
def ED:aG Tryz.prog EE EC.fn where
 Λ:=fun p=>if lp p then some ⟨0,[(7,TI .i64 (.var 20))],[(0,.hp 21 [] [.hP 8 (.var 0) (.lit 0) 0 0] [])],22⟩else none
 args:=[TP (.var 0) (.lit 0),.sv (.one (.sl (.var 1) (.var 2) (.var 3) (.var 4))),TI .i64 (.var 5)]
 mem:=[.hp 6 [] [.hP 8 (.var 0) (.lit 0) 0 0] [],.ro 7 [.var 1] false,.ro 8 [.var 0] false]
 nv:=9
def Yv:EE[1]?=some wY:=rfl
def VW:DX.res=[.one (.int .i64)]:=rfl
def fr1:wY.res=[.one (.int .i64)]:=rfl
def Qz (D:DM) (frm:Int) (all:List Int) (dp:Value) (fr:Int) (_:Nat) (q:Env):Prop:=∃ (f i:Nat) (D1:DM),q.i 20=i/\aE (q.h 21) dp D1/\gj frm all f i D1=ig D frm all fr/\all.length+1<=f+i/\i<=all.length+16777217
def Nu:EC.OK Tryz.prog:=by
 refine Spec.aS (Γ:=EE) Nv ?_;rintro xs Hs Rs hl1 hl2 ⟨p,u,all,fr,H,R1,R2,dp,sl,L,D,rfl,rfl,rfl,⟨a,rfl,hL⟩,hO,hD,hf0,hf1,hall⟩;obtain⟨x,c,hx,rfl,hc,hcell⟩:=bO.rep hO;refine⟨ED,aO [a,x,0,all.length,c,fr] false [Hl.none,Hl.none,Hl.none,Hl.none,Hl.none,Hl.none,H,R2,R1],Qz D L.frm all dp fr,fun _ q=>(all.length-q.i 20).toNat,?_,⟨?_,?_,?_,?_⟩,(fun _ h=>nomatch h),?_⟩
 .show [Value.pointer (az (a:Int) 0),Value.slice (az x 0) ((all.length:Int)).toNat ((c:Int)).toNat,Value.int .i64 fr]=_;rw[jq,aaa,aaa]
 .intro r hr ho;simp [ED]at hr;rcases hr with rfl | rfl | rfl
  .exact⟨H,aF,Hl.le_refl _⟩
  .cases ho
  .cases ho
 .intro r hr ho;simp [ED]at hr;rcases hr with rfl | rfl | rfl
  .cases ho
  .exact⟨R2,aF,Hl.le_refl _⟩
  .exact⟨R1,aF,Hl.le_refl _⟩
 .simp [ED,bD.own]
 .intro r hr;simp [ED]at hr;rcases hr with rfl | rfl | rfl<;>trivial
 .refine aG.lit (x:=Nt) ?_;generalize hρ:aO [(a:Int),x,0,all.length,c,fr] false [Hl.none,Hl.none,Hl.none,Hl.none,Hl.none,Hl.none,H,R2,R1]=J;have v0:J.i 0=a:=by rw[<-hρ];rfl
  have v1:J.i 1=x:=by rw[<-hρ];rfl
  have v2:J.i 2=0:=by rw[<-hρ];rfl
  have v3:J.i 3=all.length:=by rw[<-hρ];rfl
  have v4:J.i 4=c:=by rw[<-hρ];rfl
  have v5:J.i 5=fr:=by rw[<-hρ];rfl
  have w6:J.h 6=H:=by rw[<-hρ];rfl
  have w7:J.h 7=R2:=by rw[<-hρ];rfl
  have w8:J.h 8=R1:=by rw[<-hρ];rfl
  unfold Nt;simp only[go_sem,Nat.reduceAdd,EE,Yv,VW,fr1];have t0:Int.toNat 0=0:=rfl;have t1:Int.toNat 1=1:=rfl;have t64:Int.toNat 64=64:=rfl;obtain⟨da,s,m,es,clock,hdp,hDi⟩:=id hD;have c0:R1.cell a 0=some dp:=by rw[hL.cell];rfl
  have c1:R1.cell a 1=some (.int .i64 L.frm):=by rw[hL.cell];rfl
  obtain⟨f0,f1⟩:=hL.1.frm;have ep:Value.pointer (az (bm (R1.cell a 0) 0) (bm (R1.cell a 0) 1))=dp:=by rw[c0,hdp];exact jq da
  have wk:bp (R1.cell a 0) Kd.ptr=true:=by rw[c0,hdp];rfl
  refine⟨⟨all.length+1,(fr/64).toNat,D,?_,?_,rfl,ah,ah⟩,fun q g ⟨f,i,D1,e20,hD1,hgo,hfi,hi⟩=>?_⟩
  .show IntKind.i64.wrap ((J.i 5).tdiv 64)=_;rw[v5,abA hf0,wrap_i64 ah ah];omega
  .show aE (J.h 6) dp D;rw[w6];exact hD
  .have u0:q.i 0=a:=by rw[g.i 0,v0]
   have u3:q.i 3=all.length:=by rw[g.i 3,v3]
   have y8:q.h 8=R1:=by rw[g.h 8,w8]
   have ew:IntKind.i64.wrap ((i:Int)*64)=64*i:=by rw[wrap_i64 ah ah];omega
   have out:∀ (q':Env) (n:Nat) (vs:List Nat) (t:Mem) (r:Int×DM),ai 9 J q'->ig D L.frm all fr=r->aE (q'.h n) dp r.2->q'.i n=r.1 ->
    postOf EC [.pointer (some ⟨a,0,none⟩),.slice (az x 0) all.length c,.int .i64 fr] [H] [R1,R2] q' (.hp n vs [.hP 8 (.var 0) (.lit 0) 0 0] []::t) (.sv (.one (.int .i64 (.var n)))):=by
    intro q' n vs t r hq hr h1 h2 _;refine⟨[[0]],[],rfl,rfl,⟨(aY fun _=>q'.i n),rfl,zzT,zzT⟩,_,_,all,fr,H,R1,R2,dp,sl,L,D,_,rfl,rfl,rfl,⟨a,rfl,hL⟩,hO,hD,rfl,?_,?_⟩
    .show aE (cP [q'.h n]) _ _;rw[aL,hr];exact h1
    .show Value.int .i64 (q'.i n)=_;rw[h2,hr]
   rw[u0,u3,e20,ew,y8,aaa,t0,ep];refine⟨ah,fun hlt=>⟨⟨ah,ah,ah⟩,fun q1 g1 ⟨p22,_⟩=>?_⟩,fun hge=>⟨ah,wk,⟨_,_,D1,rfl,rfl,hD1⟩,fun q1 g1 ⟨F,⟨p',H',D',H2,hx,hH,hD',hH2,hD2,hv⟩,_,_⟩=>?_⟩⟩
   .have G1:ai 9 J q1:=g.tr g1;have x1:q1.i 1=x:=by rw[G1.i 1,v1]
    have x2:q1.i 2=0:=by rw[G1.i 2,v2]
    have x3:q1.i 3=all.length:=by rw[G1.i 3,v3]
    have x4:q1.i 4=c:=by rw[G1.i 4,v4]
    have x20:q1.i 20=i:=by rw[g1.i 20,e20]
    have z7:q1.h 7=R2:=by rw[G1.h 7,w7]
    have hcell:0<=x/\∀ (j:Nat) (z:Int),all[j]?=some z->R2.cell x.toNat j=some (.int .u8 z):=by
     rcases hcell with ⟨_,h⟩ | h
     .rw[h]at hlt;simp only[aa7]at hlt;omega
     .exact h
    obtain⟨hx0,hcell⟩:=hcell;have eW:aB q1 qG=64*i:=by
     unfold qG;rw[bx,cj,ak,aq,x20,ew]
    have eM:aB q1 Be=min (all.length-64*i:Int) 64:=by
     unfold Be;rw[cG,od,cQ,ak,aq,eW,x3];simp only[aaf];split<;>omega
    have eY:aB q1 Bf=64*i:=by
     unfold Bf;rw[cG,sf,bJ,ak,ak,eW,x2,x4];simp only[aaf];split<;>omega
    have eC:(Hf.map (CV.ev q1))=aM (nM all i):=by
     unfold Hf nM aM;rw[abg,abg];refine aa2 fun j hj=>?_;have hj:=aaO.1 hj;show Value.int .u8 (aB q1 (.ite (.lt (.lit (j:Int)) Be) (.hI 7 (.var 1) Bf j) (.lit 0)))=Value.int .u8 _;rw[cG,od,dw,aq,aq,eM,eY,ak,x1,z7];simp only[aaf];rcases aa9 (64*i+j) all.length with h | h
     .rw[aav ah,aab h,show(64*(i:Int)).toNat+j=64*i+j by omega,hcell _ _ (aab h)];rfl
     .rw[aan ah,aaq h];rfl
    have ei:IntKind.i64.wrap (IntKind.i64.wrap (bS (R1.cell a 1)+2)+i)=L.frm+2+i:=by
     rw[c1];show IntKind.i64.wrap (IntKind.i64.wrap (L.frm+2)+i)=_;rw[wrap_i64 (n:=L.frm+2) ah ah,wrap_i64 ah ah]
    have wk1:bp (R1.cell a 1) (Kd.int .i64)=true:=by rw[c1];rfl
    have hrd:nX (Hl.one (q1.i 22).toNat (.cells (aM (nM all i)).toArray 5 (0,0))) (.slice (az (q1.i 22) 0) 64 64) (nM all i):=by
     refine⟨q1.i 22,0,64,by simp [nM],ah,Or.inr ⟨p22,fun j z hz=>?_⟩⟩;rw[Hl.one_cell,abl,fF,acv,aaI,hz];rfl
    rw[x1,x2,x3,x4,x20,ew,eY,eM,eC,z7,G1.i 0,v0,G1.h 8,w8,aaa,t1,t64,ep,ei];refine⟨hx,ah,ah,ah,ah,⟨Or.inr ⟨hx0,ah,?_⟩,ah,ah⟩,ah,wk,wk1,⟨dp,L.frm+2+i,_,nM all i,q1.h 21,_,D1,rfl,rfl,rfl,?_,hrd⟩,fun q2 g2 ⟨F,⟨p',i',u',bs',H',R',D',H2,hx,hH,hR,hD',hrd',hH2,hD2,hv⟩,_,_⟩=>?_⟩
    .refine cW (bs:=all.drop (64*i)) (fun j z hz=>?_) (by rw[aaK];omega);rw[aaV]at hz;rw[show(64*(i:Int)).toNat+j=64*i+j by omega];exact hcell _ _ hz
    .rw[g1.h 21];exact hD1
    .cases hx;cases hH;cases hR;rw[g1.h 21]at hD';have e:=hD'.uniq hD1;subst e;have e:=hrd'.uniq hrd;subst e;simp only[Value.int.injEq,aaY,aag,aat]at hv hH2;rw[<-hH2]at hD2;have G2:ai 9 J q2:=G1.tr g2;have step:gj L.frm all f i D'=if(dJ D' (L.frm+2+i) (nM all i)).1≠0 then dJ D' (L.frm+2+i) (nM all i)else gj L.frm all (f-1) (i+1) (dJ D' (L.frm+2+i) (nM all i)).2:=by
      obtain⟨k,rfl⟩:∃ k,f=k+1:=⟨f-1,ah⟩;show(if 64*i<all.length then _ else _)=_;rw[aav ah];rfl
     refine⟨fun h=>out q2 23 _ _ (dJ D' (L.frm+2+i) (nM all i)) G2 ?_ hD2 hv,fun h=>?_⟩
     .rw[<-hgo,step,aav (by rw[<-hv];exact h)]
     .have e20':(assign q2 [⟨20,0,.int .i64 (.wrap .i64 (.add (.var 20) (.lit 1)))⟩] [(21,some 23)]).i 20=i+1:=by
       show IntKind.i64.wrap (q2.i 20+1)=_;rw[g2.i 20,x20,wrap_i64 ah ah]
      refine⟨⟨f-1,i+1,(dJ D' (L.frm+2+i) (nM all i)).2,by rw[e20'];omega,hD2,?_,ah,ah⟩,by rw[e20'];omega⟩;rw[<-hgo,step,aan (by rw[<-hv,h];simp)]
   .cases hx;cases hH;have e:=hD'.uniq hD1;subst e;simp only[Value.int.injEq,aaY,aag,aat]at hv hH2;rw[<-hH2]at hD2;refine out q1 22 _ _ (db D') (g.tr g1) ?_ hD2 hv;rw[<-hgo];cases f with
    | zero=>rfl
    | succ k =>
     show(if 64*i<all.length then _ else _)=_;rw[aan ah]
def jt (D:DM) (frm:Int) (h:List Int):Int×DM :=
 if(dJ D (frm+(h.getD 0 0).tmod 2) (cA h++cA h)).1≠0 then dJ D (frm+(h.getD 0 0).tmod 2) (cA h++cA h)else db (dJ D (frm+(h.getD 0 0).tmod 2) (cA h++cA h)).2
def sk (h:List Int):Prop:=h.length=18/\(0<=h.getD 0 0/\h.getD 0 0<18446744073709551616)/\0<=h.getD 1 0/\h.getD 1 0<18446744073709551616
def qz:Sx.Spec where
 fn:=132
 own:=[.link 0 0]
 rd:=[0]
 res:=[.one (.int .i64)]
 pre:=fun xs Hs Rs=>∃ p h H R dp sl L D,xs=[p,.agg (oj h).toArray]/\Hs=[H]/\Rs=[R]/\fQ R p dp sl L/\aE H dp D/\sk h
 post:=fun xs Hs Rs v Hs' F=>∃ p h H R dp sl L D H',xs=[p,.agg (oj h).toArray]/\Hs=[H]/\Rs=[R]/\fQ R p dp sl L/\aE H dp D/\sk h/\Hs'=[H']/\aE H' dp (jt D L.frm h).2/\v=.int .i64 (jt D L.frm h).1
def HC (hl:h.length=18):∃ a b t,h=a::b::t/\t.length=16:=by
 match h,hl with
 | a::b::t,hl=>exact⟨a,b,t,rfl,by simpa using hl⟩
def oq (hl:h.length=18):fy (.agg (oj h).toArray)=h:=by
 obtain⟨a,b,t,rfl,ht⟩:=HC hl;show([Value.int .u64 a,Value.int .u64 b]++t.map (Value.int .u8)).map (fun c=>bS (some c))=_;rw[aaM,abg];show [a,b]++t.map id=_;rw[List.map_id];rfl
def QF {k:List Int} (h1:h.length=18) (h2:k.length=18) (e:Value.agg (oj h).toArray=Value.agg (oj k).toArray):h=k:=by
 rw[<-oq h1,<-oq h2,e]
def Md (hl:h.length=18):bg (oj h) (kz.map kc):=by
 obtain⟨a,b,t,rfl,ht⟩:=HC hl;exact⟨by simp [bp,kc],by simp [bp,kc],gY 16 _ ht⟩
def HU (q:Env) (n:Nat):bw n kz q:=⟨zzT,zzT,jc q 16 (n+2)⟩
def NB (hh:sk h):Ju.pre [.agg (oj h).toArray] [] []:=by
 obtain⟨c,_,_,ec⟩:=cH kz 0 (oj h) (aY fun _=>0) (Md hh.1);refine⟨⟨c,⟨HU c 0,zzT⟩,?_⟩,?_⟩
 .show [Value.agg (oj h).toArray]=[Value.agg ((al 0 kz).map (CV.ev c)).toArray];rw[ec]
 .show(0<=(fy (.agg (oj h).toArray)).getD 0 0/\(fy (.agg (oj h).toArray)).getD 0 0<_)/\0<=(fy (.agg (oj h).toArray)).getD 1 0/\(fy (.agg (oj h).toArray)).getD 1 0<_;rw[oq hh.1];exact hh.2
def CN (hl:h.length=18):(cA h).length=32:=by
 unfold cA xq;simp [hl]
def Kx:List Sx.Spec:=[DX,wY,Ju]
def PM:∀ t∈Kx,t.OK Tryz.prog:=av Cj <| av Gh <| av NA <| bQ
def AF:aG Tryz.prog Kx qz.fn where
 Λ:=aD
 args:=[TP (.var 0) (.lit 0),.sv (.agg (al 1 kz))]
 mem:=[.hp 19 [] [.hP 20 (.var 0) (.lit 0) 0 0] [],.ro 20 [.var 0] false]
 nv:=21
def tr2:Ju.res=[.agg (td 32)]:=rfl
def AE:qz.OK Tryz.prog:=by
 refine Spec.aS (Γ:=Kx) PM ?_;rintro xs Hs Rs hl1 hl2 ⟨p,h,H,R,dp,sl,L,D,rfl,rfl,rfl,⟨a,rfl,hL⟩,hD,hh⟩;obtain⟨b0,b1,t,hht,htl⟩:=HC hh.1;have NM:h.getD 0 0=b0:=by rw[hht];rfl
 refine⟨AF,⟨fun k=>if k=0 then(a:Int)else h.getD (k-1) 0,fun _=>false,fun _=>.empty,fun _=>.tuple #[],fun k=>if k=19 then H else R⟩,fun _ _=>True,fun _ _=>0,?_,⟨?_,?_,?_,?_⟩,(fun _ h=>nomatch h),?_⟩
 .generalize hq:(⟨fun k=>if k=0 then(a:Int)else h.getD (k-1) 0,fun _=>false,fun _=>.empty,fun _=>.tuple #[],fun k=>if k=19 then H else R⟩:Env)=q;show [Value.pointer (az (q.i 0) 0),Value.agg ((al 1 kz).map (CV.ev q)).toArray]=_;have e0:q.i 0=a:=by rw[<-hq];rfl
  have e1:(al 1 kz).map (CV.ev q)=oj h:=by
   rw[<-hq,hht]
   match t,htl with
   | [a1,a2,a3,a4,a5,a6,a7,a8,a9,a10,a11,a12,a13,a14,a15,a16],_=>rfl
  rw[e0,jq,e1]
 .intro r hr ho;simp [AF]at hr;rcases hr with rfl | rfl
  .exact⟨H,aF,Hl.le_refl _⟩
  .cases ho
 .intro r hr ho;simp [AF]at hr;rcases hr with rfl | rfl
  .cases ho
  .exact⟨R,aF,Hl.le_refl _⟩
 .simp [AF,bD.own]
 .intro r hr;simp [AF]at hr;rcases hr with rfl | rfl<;>trivial
 .refine aG.read [] [] [] ?_;generalize hρ:(⟨fun k=>if k=0 then(a:Int)else h.getD (k-1) 0,fun _=>false,fun _=>.empty,fun _=>.tuple #[],fun k=>if k=19 then H else R⟩:Env)=J;have v0:J.i 0=a:=by rw[<-hρ];rfl
  have v1:J.i 1=b0:=by rw[<-hρ,<-NM];rfl
  have w19:J.h 19=H:=by rw[<-hρ];rfl
  have w20:J.h 20=R:=by rw[<-hρ];rfl
  have eH:(al 1 kz).map (CV.ev J)=oj h:=by
   rw[<-hρ,hht]
   match t,htl with
   | [a1,a2,a3,a4,a5,a6,a7,a8,a9,a10,a11,a12,a13,a14,a15,a16],_=>rfl
  simp only[go_sem,Nat.reduceAdd,Kx,VW,fr1,tr2];intro q1 g1 _;have t0:Int.toNat 0=0:=rfl;have t1:Int.toNat 1=1:=rfl;have t64:Int.toNat 64=64:=rfl;obtain⟨da,s,m,es,clock,hdp,hDi⟩:=id hD;have c0:R.cell a 0=some dp:=by rw[hL.cell];rfl
  have c1:R.cell a 1=some (.int .i64 L.frm):=by rw[hL.cell];rfl
  obtain⟨f0,f1⟩:=hL.1.frm;have ep:Value.pointer (az (bm (R.cell a 0) 0) (bm (R.cell a 0) 1))=dp:=by rw[c0,hdp];exact jq da
  have wk:bp (R.cell a 0) Kd.ptr=true:=by rw[c0,hdp];rfl
  have wk1:bp (R.cell a 1) (Kd.int .i64)=true:=by rw[c1];rfl
  have⟨hb0,hb1⟩:0<=b0/\b0<18446744073709551616:=by rw[<-NM];exact hh.2.1
  have r0:=adp 2 hb0;have r1:=ac5 b0 (by decide:(0:Int)<2);have ei:IntKind.i64.wrap (bS (R.cell a 1)+IntKind.i64.wrap (b0.tmod 2))=L.frm+(h.getD 0 0).tmod 2:=by
   rw[c1,NM];show IntKind.i64.wrap (L.frm+IntKind.i64.wrap (b0.tmod 2))=_;rw[wrap_i64 (n:=b0.tmod 2) ah ah];exact wrap_i64 ah ah
  have e1:(al 1 ([Ck.int IntKind.u64,Ck.int IntKind.u64]++List.replicate 16 (Ck.int IntKind.u8))).map (CV.ev q1)=oj h:=by
   rw[<-eH];exact CV.ga (g1.mono aA) _ (cw kz 1)
  rw[e1];refine⟨NB hh,fun q2 g2 ⟨F2,hp2,_,_⟩ q3 g3 _=>?_⟩;have hp2:Value.agg (List.map (CV.ev q2) (al 22 (td 32))).toArray=Value.agg (aM (cA (fy (.agg (oj h).toArray)))).toArray:=hp2;rw[oq hh.1]at hp2;have hp2:List.map (CV.ev q2) (al 22 (td 32))=aM (cA h):=by simpa using hp2
  have e3:List.map (CV.ev q3) (al 22 (List.replicate 32 (Ck.int IntKind.u8)))=aM (cA h):=by
   rw[<-hp2];exact CV.ga (g3.mono aA) _ (cw (td 32) 22)
  have G3:ai 21 J q3:=(g1.tr g2).tr g3;rw[e3,G3.i 0,v0,G3.h 20,w20,aaa,t0,t1];refine⟨ah,wk,wk1,⟨ah,aA,aA⟩,fun q4 g4 ⟨p55,p56,hO,_⟩=>?_⟩;have G4:ai 21 J q4:=G3.tr g4;have hbl:(cA h++cA h).length=64:=by rw[aac,CN hh.1]
  have hO:bO (q4.h 55) 5 (.slice (az (q4.i 55) 0) (Int.toNat 64) (q4.i 56).toNat) (cA h++cA h):=by
   unfold bO;rw[hbl,gK];exact hO
  rw[tH,ak,aq,G4.i 0,v0,G4.i 1,v1,G4.h 20,w20,G4.h 19,w19,aaa,ep,ei];refine⟨⟨dp,_,_,cA h++cA h,H,_,D,rfl,rfl,rfl,hD,hO.rd⟩,fun q5 g5 ⟨F,⟨p',i',u',bs',H',R',D',H2,hx,hH,hR,hD',hrd',hH2,hD2,hv⟩,_,_⟩=>?_⟩;cases hx;cases hH;cases hR;have e:=hD'.uniq hD;subst e;have e:=hrd'.uniq hO.rd;subst e;simp only[Value.int.injEq,aaY,aag,aat]at hv hH2;rw[<-hH2]at hD2;have G5:ai 21 J q5:=G4.tr g5;have out:∀ (q':Env) (n:Nat) (vs:List Nat) (t:Mem) (r:Int×DM),jt D' L.frm h=r->aE (q'.h n) dp r.2->q'.i n=r.1 ->
   postOf qz [.pointer (some ⟨a,0,none⟩),.agg (oj h).toArray] [H] [R] q' (.hp n vs [.hP 20 (.var 0) (.lit 0) 0 0] []::t) (.sv (.one (.int .i64 (.var n)))):=by
   intro q' n vs t r hr h1 h2 _;refine⟨[[0]],[],rfl,rfl,⟨(aY fun _=>q'.i n),rfl,zzT,zzT⟩,_,h,H,R,dp,sl,L,D',_,rfl,rfl,rfl,⟨a,rfl,hL⟩,hD,hh,rfl,?_,?_⟩
   .show aE (cP [q'.h n]) _ _;rw[aL,hr];exact h1
   .show Value.int .i64 (q'.i n)=_;rw[h2,hr]
  rw[G5.i 0,v0,G5.h 20,w20,aaa,ep];refine⟨fun hne=>out q5 57 _ _ _ ?_ hD2 hv,fun heq=>⟨⟨dp,_,_,rfl,rfl,hD2⟩,fun q6 g6 ⟨F,⟨p',H',D2,H3,hx,hH,hD3,hH3,hD4,hv3⟩,_,_⟩=>?_⟩⟩
  .unfold jt;rw[aav (by rw[<-hv];exact hne)]
  .cases hx;cases hH;have e:=hD3.uniq hD2;subst e;simp only[Value.int.injEq,aaY,aag,aat]at hv3 hH3;rw[<-hH3]at hD4;refine out q6 59 _ _ _ ?_ hD4 hv3;unfold jt;rw[aan (by rw[<-hv,heq];simp)]
def jx (dp sl:Value) (L:LM):Obj:=.cells (ly dp sl L).toArray 145 (0,0)
def fc (H:Hl) (p dp:Value) (L:LM) (bs:List Int):Prop:=∃ (a:Nat) (sl:Value) (HB:Hl),p=.pointer (some ⟨a,0,none⟩)/\L.ok/\bO HB 5 sl bs/\(Hl.one a (jx dp sl L)).bP HB/\H=cP [Hl.one a (jx dp sl L),HB]
def fc.parts (h:fc H p dp L bs):∃ sl,fQ H p dp sl L/\nX H sl bs:=by
 obtain⟨a,sl,HB,rfl,hok,hO,hd,rfl⟩:=h;refine⟨sl,⟨a,rfl,hok,?_⟩,?_⟩
 .exact Hl.bh _ _ _ _ (Hl.aT _ _)
 .obtain⟨x,y,c,hv,hy,h⟩:=hO.rd;refine⟨x,y,c,hv,hy,h.imp id fun⟨h0,h⟩=>⟨h0,fun j z hz=>?_⟩⟩;have hle:HB.le (cP [Hl.one a (jx dp sl L),HB]):=by
   show HB.le ((Hl.one a (jx dp sl L)).un (cP [HB]));rw[aL];exact Hl.bC hd
  have:=h j z hz;unfold Hl.cell at this ⊢;split at this
  .rename_i o c' T fr ho;rw[hle _ _ ho];exact this
  .cases this
def fc.uniq (h:fc H p dp L bs) (h':fc H p dp' L' bs'):dp=dp'/\L=L'/\bs=bs':=by
 obtain⟨sl,h1,h2⟩:=h.parts;obtain⟨sl',h1',h2'⟩:=h'.parts;obtain⟨e1,rfl,e3⟩:=h1.uniq h1';exact⟨e1,e3,h2.uniq h2'⟩
def bO.pre {l:Int} (h:bO F e (.slice (az x 0) l.toNat c.toNat) bs) (hx:-1<=x) (h0:0<=n) (hn:n.toNat<=bs.length):bO F e (.slice (az x 0) n.toNat c.toNat) (bs.take n.toNat):=by
 obtain⟨hl,h⟩:=h;have e1:(bs.take n.toNat).length=n.toNat:=by rw[aaA];omega
 refine⟨by rw[bX];omega,?_⟩;rw[e1];rcases h with ⟨h,hb⟩ | ⟨g,cap,cur,h,hg,hle,hm,hs,ht⟩
 .simp only[Value.slice.injEq]at h;refine Or.inl ⟨?_,ah⟩;rw[h.1,h.2.2,show n.toNat=0 by omega]
 .simp only[Value.slice.injEq]at h;refine Or.inr ⟨g,cap,cur,by rw[h.1,h.2.2],hg,ah,hm,hs,?_⟩;have:=aaD (List.take n.toNat) ht;rw[List.take_take]at this;rw[ab8];rw[show min n.toNat (bs.length*1)=n.toNat by omega]at this;rw[this];unfold aM;rw[acC]
def rq:List Ck:=[.ptr,.int .i64,.int .i64,.int .u64,.int .u64]++List.replicate 16 (.int .u8)
def iI (da:Nat) (L:LM):List Int:=[(da:Int),0,L.frm,L.most,L.serial,L.size]++L.note
def TZ (h:l.length=16):∃ a1 a2 a3 a4 a5 a6 a7 a8 a9 a10 a11 a12 a13 a14 a15 a16,l=[a1,a2,a3,a4,a5,a6,a7,a8,a9,a10,a11,a12,a13,a14,a15,a16]:=by
 match l,h with
 | [a1,a2,a3,a4,a5,a6,a7,a8,a9,a10,a11,a12,a13,a14,a15,a16],_=>exact⟨a1,a2,a3,a4,a5,a6,a7,a8,a9,a10,a11,a12,a13,a14,a15,a16,rfl⟩
def xJ {n:Nat} (hL:L.ok) (h:∀ k,k<22->q.i (n+k)=(iI da L).getD k 0):(al n rq).map (CV.ev q)=[Value.pointer (some ⟨da,0,none⟩),.int .i64 L.frm,.int .i64 L.most,.int .u64 L.serial,.int .u64 L.size]++aM L.note:=by
 obtain⟨a1,a2,a3,a4,a5,a6,a7,a8,a9,a10,a11,a12,a13,a14,a15,a16,hn⟩:=TZ hL.note;have hq:=ai.refl 0 q;have key:∀ (q':Env),(∀ k,k<22->q'.i k=(iI da L).getD k 0)->(al 0 rq).map (CV.ev q')=[Value.pointer (some ⟨da,0,none⟩),.int .i64 L.frm,.int .i64 L.most,.int .u64 L.serial,.int .u64 L.size]++aM L.note:=by
  intro q' h;have ag:ai 22 ((aY fun k=>(iI da L).getD k 0):Env) (aY (q'.i)):=⟨fun k hk=>h k hk,fun _ _=>rfl,fun _ _=>rfl,fun _ _=>rfl,fun _ _=>rfl⟩;have e1:(al 0 rq).map (CV.ev q')=(al 0 rq).map (CV.ev (aY (q'.i))):=rfl;rw[e1,CV.ga ag _ (cw rq 0)];unfold iI;rw[hn];have ed:Value.pointer (az (da:Int) 0)=.pointer (some ⟨da,0,none⟩):=jq da;show [Value.pointer (az (da:Int) 0)]++_=_;rw[ed];rfl
 have:=key ⟨fun k=>q.i (n+k),q.b,q.s,q.v,q.h⟩ h;rw[<-this];rfl
def jV {P:Program} {s:Sx.Spec} {Γ:List Sx.Spec} (hΓ:∀ t∈Γ,t.OK P)
 (h:∀ xs Hs Rs,Hs.length=s.own.length->Rs.length=s.rd.length->(∀ (p q:Nat) H K,p≠q->Hs[p]?=some H->Hs[q]?=some K->H.bP K)->s.pre xs Hs Rs->∃ (W:aG P Γ s.fn) (J:Env) (inv:Nat->Env->Prop) (mu:Nat->Env->Nat),
  W.args.map (TV.ev J)=xs/\Entry J W.mem Hs Rs/\Path J W.path/\W.Da ⟨Γ,inv,mu,postOf s xs Hs Rs⟩ (fun _=>0) J):s.OK P:=by
 intro w xs Hs Rs hl1 hl2 hs1 hs2 hd1 hd2 hpre;obtain⟨W,J,inv,mu,hx,hE,hp,hn⟩:=h xs Hs Rs hl1 hl2 hd1 hpre;unfold aG.Da at hn;obtain⟨nd,hV,hn⟩:=hn;have hm:=hE.Wp hs1 hs2 hd2;have:=yS (C:=⟨Γ,inv,mu,postOf s xs Hs Rs⟩) hΓ (Nm (C:=⟨Γ,inv,mu,postOf s xs Hs Rs⟩) hΓ) hV hm hp hn;rw[hx]at this;refine this.mono ?_;rintro e w' ⟨J',mem',r,rfl,hg,hm',hp'⟩;obtain⟨gs,f,hl,hok,⟨ρ2,h2,h3⟩,hpost⟩:=hp' hm'.bP;refine⟨ρ2,gs.map (xg J' mem'),xg J' mem' f,by rw[h2],h3,x7.of hm' hl hok,?_⟩;rw[<-h2];exact hpost
def xz (D:DM) (frm:Int) (n:Int):List Int:=(D.now.drop (64*(frm+2).toNat)).take n.toNat
def zj:Sx.Spec where
 fn:=78
 own:=[.arg 0,.link 0 0]
 rd:=[]
 res:=[.one (.int .i64)]
 pre:=fun xs Hs Rs=>∃ p a HL HD dp L D,xs=[p]/\Hs=[HL,HD]/\p=.pointer (some ⟨a,0,none⟩)/\ko HL a dp (.slice none 0 0) L/\aE HD dp D/\D.gone=false/\0<=L.size/\64*(L.frm+2)+L.size<=64*D.n
 post:=fun xs Hs Rs v Hs' F=>∃ p a HL HD dp L D HL' HD',xs=[p]/\Hs=[HL,HD]/\p=.pointer (some ⟨a,0,none⟩)/\ko HL a dp (.slice none 0 0) L/\aE HD dp D/\Hs'=[HL',HD']/\aE HD' dp D/\fc HL' p dp L (xz D L.frm L.size)/\v=.int .i64 0
def E6:List Sx.Spec:=[BN]
def N8:∀ t∈E6,t.OK Tryz.prog:=fun t ht=>by
 rw[E6,aal]at ht;subst ht;exact FH
def JJ:aG Tryz.prog E6 zj.fn where
 Λ:=fun p=>if lp p then some ⟨0,[(3,TI .i64 (.var 40))],[(0,.bd 0 (al 1 rq++[.sl (.var 41) (.lit 0) (.var 43) (.var 44),.bool (.bvar 23)]) 145),(1,.hp 45 [] [.var 1] []),(2,.hp 46 [] [.var 41] [])],47⟩else none
 args:=[TP (.var 0) (.lit 0)]
 mem:=[.bd 0 (al 1 rq++[.sl (.lit (-1)) (.lit 0) (.lit 0) (.lit 0),.bool (.bvar 23)]) 145,.hp 24 [] [.var 1] []]
 nv:=25
def FF (h:D.has i=true) (hg:D.gone=false):ia D i=(D.bL i,0):=by
 unfold ia;rw[aan (by simp [h]),aan (by simp [hg])]
def QM (D:DM) (L:LM) (dp:Value) (_:Nat) (q:Env):Prop:=∃ i:Nat,q.i 40=i/\q.i 43=64*i/\ -1<=q.i 41/\0<=q.i 44/\(i=0\/(64*(i:Int)-64<L.size))/\aE (q.h 45) dp D/\bO (q.h 46) 5 (.slice (az (q.i 41) 0) (q.i 43).toNat (q.i 44).toNat) ((D.now.drop (64*(L.frm+2).toNat)).take (64*i))
def N7:zj.OK Tryz.prog:=by
 refine jV (Γ:=E6) N8 ?_;rintro xs Hs Rs hl1 hl2 hdis ⟨p,a,HL,HD,dp,L,D,rfl,rfl,rfl,hL,hD,hgone,hs0,hs1⟩;have e1:Rs=[]:=aad.1 hl2;subst e1;obtain⟨da,s,m,es,clock,hdp,hDi⟩:=id hD;have hnl:=hL.1.note;obtain⟨f0,f1⟩:=hL.1.frm;have hnn:=hDi.ok.n;have hnow:=hDi.ok.now;have eB:∀ (q:Env) (sl:CV),q.i 0=a->(∀ k,k<22->q.i (1+k)=(iI da L).getD k 0)->q.b 23=L.over->(bD.bd 0 (al 1 rq++[sl,.bool (.bvar 23)]) 145).hl q=Hl.one a (jx dp (sl.ev q) L):=by
  intro q sl h0 h1 h2;show Hl.one (q.i 0).toNat (.cells ((al 1 rq++[sl,.bool (.bvar 23)]).map (CV.ev q)).toArray _ (0,0))=_;rw[aaM,xJ hL.1 h1,h0,aaa];unfold jx ly;rw[hdp,<-h2,aax];rfl
 refine⟨JJ,⟨fun k=>if k=0 then(a:Int)else(iI da L).getD (k-1) 0,fun _=>L.over,fun _=>.empty,fun _=>.tuple #[],fun _=>HD⟩,QM D L dp,fun _ q=>(L.size-64*q.i 40+64).toNat,?_,⟨?_,?_,?_,?_⟩,(fun _ h=>nomatch h),?_⟩
 .show [Value.pointer (az (a:Int) 0)]=_;rw[jq]
 .intro r hr ho;simp only[JJ,aar,aaB,abe]at hr;rcases hr with rfl | rfl
  .refine⟨HL,aF,?_⟩;rw[eB _ _ rfl (fun k hk=>by show(if 1+k=0 then(a:Int)else(iI da L).getD (1+k-1) 0)=_;rw[aan ah,show 1+k-1=k by omega]) rfl];intro b o hb;obtain⟨rfl,rfl⟩:=Hl.mT hb;exact hL.2
  .exact⟨HD,aF,Hl.le_refl _⟩
 .intro r hr ho;simp only[JJ,aar,aaB,abe]at hr;rcases hr with rfl | rfl<;>cases ho
 .have hd:HL.bP HD:=hdis 0 1 _ _ aA rfl rfl;have hm:HL.mem a:=by unfold Hl.mem;rw[hL.2];rfl
  refine List.Pairwise.cons (fun r hr _ _=>?_) (List.Pairwise.cons (fun r hr=>by cases hr) List.Pairwise.nil);rw[aal]at hr;subst hr;exact Hl.gl.2 fun h=>hd a ⟨hm,h⟩
 .intro r hr;simp only[JJ,aar,aaB,abe]at hr;rcases hr with rfl | rfl
  .show(0:Int)<=(a:Int);omega
  .trivial
 .refine aG.read [] [] [] ?_;generalize hρ:(⟨fun k=>if k=0 then(a:Int)else(iI da L).getD (k-1) 0,fun _=>L.over,fun _=>.empty,fun _=>.tuple #[],fun _=>HD⟩:Env)=J;simp only[go_sem,Nat.reduceAdd,E6,rr0,rc0];have r0:J.i 0=a:=by rw[<-hρ];rfl
  have rk:∀ k,k<22->J.i (1+k)=(iI da L).getD k 0:=by
   intro k hk;rw[<-hρ];show(if 1+k=0 then(a:Int)else(iI da L).getD (1+k-1) 0)=_;rw[aan ah,show 1+k-1=k by omega]
  have rb:J.b 23=L.over:=by rw[<-hρ]
  have rh:J.h 24=HD:=by rw[<-hρ]
  refine⟨⟨0,rfl,rfl,aap _,aap _,Or.inl rfl,?_,⟨rfl,Or.inl ⟨rfl,rfl⟩⟩⟩,fun q g ⟨i,e40,e43,e41,e44,hi,hDq,hO⟩=>?_⟩
  .show aE (J.h 24) dp D;rw[rh];exact hD
  .have u1:q.i 1=da:=by rw[g.i 1];exact rk 0 ah
   have u2:q.i 2=0:=by rw[g.i 2];exact rk 1 ah
   have u3:q.i 3=L.frm:=by rw[g.i 3];exact rk 2 ah
   have u6:q.i 6=L.size:=by rw[g.i 6];exact rk 5 ah
   have ep:Value.pointer (az (da:Int) 0)=dp:=by rw[jq,hdp]
   have es:IntKind.i64.wrap L.size=L.size:=wrap_i64 ah ah;rw[u1,u2,u3,u6,e40,e43,es,ep];refine⟨ah,fun hlt=>?_,fun hge=>⟨e41,hs0,?_,fun hd=>?_⟩⟩
   .have ei:IntKind.i64.wrap (IntKind.i64.wrap (L.frm+2)+i)=L.frm+2+i:=by
     rw[wrap_i64 (n:=L.frm+2) ah ah,wrap_i64 ah ah]
    rw[ei];have hh:D.has (L.frm+2+i)=true:=by unfold DM.has;simp only[aaf];omega
    have hr:=FF hh hgone;have hsl:=gu hDi.ok hh;refine⟨⟨dp,_,_,D,rfl,rfl,hDq⟩,fun q1 g1 ⟨F,⟨p',i',H',D',H2,u,hx,hH,hD',hH2,hD2,hv,hOu⟩,hF,hn⟩=>?_⟩;cases hx;cases hH;have e:=hD'.uniq hDq;subst e;have hF:=hF trivial;subst hF;rw[hr]at hv hOu;simp only[Value.tuple.injEq,aaT,aag,Value.int.injEq,aaY,aat]at hv hH2;obtain⟨rfl,h51⟩:=hv;obtain⟨⟨n47,n48,n49,n50⟩,_⟩:=hn;have n48:0<=q1.i 48:=n48;have n49:0<=q1.i 49:=n49;obtain⟨e49,hc⟩:=hOu.rd.at n47 n48 n49;have e49:q1.i 49=64:=by rw[e49];show(((D'.bL (L.frm+2+i)).length:Nat):Int)=64;rw[hsl];rfl
    have hc:0<=q1.i 47/\∀ j z,(D'.bL (L.frm+2+i))[j]?=some z->(q1.h 48).cell (q1.i 47).toNat ((q1.i 48).toNat+j)=some (.int .u8 z):=by
     rcases hc with ⟨_,hc⟩ | hc
     .have hc:D'.bL (L.frm+2+i)=[]:=hc;rw[hc]at hsl;cases hsl
     .exact hc
    obtain⟨p47,hc⟩:=hc;have x43:q1.i 43=64*i:=by rw[g1.i 43,e43]
    rw[g1.h 46,g1.i 41,g1.i 44,x43,e49];rw[e43]at hO;have hTl:((D'.now.drop (64*(L.frm+2).toNat)).take (64*i)).length=64*i:=by rw[aaA,aaK];omega
    have hO':aN (q.h 46) 5 1 (.slice (az (q.i 41) 0) (64*(i:Int)).toNat (q.i 44).toNat) (64*(i:Int)).toNat (aM ((D'.now.drop (64*(L.frm+2).toNat)).take (64*i))):=by
     unfold bO at hO;rw[hTl]at hO;rw[show(64*(i:Int)).toNat=64*i by omega]at hO ⊢;exact hO
    refine⟨fun h=>absurd h51 h,fun _=>⟨⟨⟨_,hO'⟩,ah,Or.inl ⟨p47,n48,ah,fun j hj=>?_⟩,by unfold maxLen;omega,ah⟩,fun q2 g2 ⟨a1,a2,a3,_⟩=>?_⟩⟩
    .have hj:j<(D'.bL (L.frm+2+i)).length:=by have:(64:Int).toNat=64:=rfl;omega
     exact⟨_,hc j _ (aab hj),rfl⟩
    .have hseg:bR (q1.h 48) (q1.i 47).toNat (q1.i 48).toNat (Int.toNat 64)=aM (D'.bL (L.frm+2+i)):=by
      unfold bR;apply aaL;intro j;rw[aao,fF];rcases aa9 j 64 with hj | hj
      .rw[show(64:Int).toNat=64 from rfl,aaE hj,aaP,hc j _ (aab ah),aab ah];rfl
      .rw[aaq (by simpa using hj),aaq ah];rfl
     have hx:=a3 _ hO';rw[hseg]at hx;have hcat:(D'.now.drop (64*(L.frm+2).toNat)).take (64*(i+1))=(D'.now.drop (64*(L.frm+2).toNat)).take (64*i)++D'.bL (L.frm+2+i):=by
      rw[show 64*(i+1)=64*i+64 by omega,acW,acd];unfold DM.bL;rw[show 64*(L.frm+2).toNat+64*i=64*(L.frm+2+i).toNat by omega]
     have m40:(assign q2 [⟨40,0,.int .i64 (.wrap .i64 (.add (.var 40) (.lit 1)))⟩,⟨41,0,.int .i64 (.var 52)⟩,⟨43,0,.int .i64 (.add (.var 43) (.var 49))⟩,⟨44,0,.int .i64 (.var 53)⟩] [(45,some 47),(46,some 52)]).i 40=i+1:=by
      show IntKind.i64.wrap (q2.i 40+1)=_;rw[g2.i 40,g1.i 40,e40,wrap_i64 ah ah]
     have m43:(assign q2 [⟨40,0,.int .i64 (.wrap .i64 (.add (.var 40) (.lit 1)))⟩,⟨41,0,.int .i64 (.var 52)⟩,⟨43,0,.int .i64 (.add (.var 43) (.var 49))⟩,⟨44,0,.int .i64 (.var 53)⟩] [(45,some 47),(46,some 52)]).i 43=64*i+64:=by
      show q2.i 43+q2.i 49=_;rw[g2.i 43,g2.i 49,x43,e49]
     refine⟨⟨i+1,by rw[m40];omega,by rw[m43];omega,a1,a2,Or.inr ah,?_,?_⟩,by rw[m40];omega⟩
     .show aE (q2.h 47) dp D';rw[g2.h 47,hH2];exact hD2
     .rw[m43];show bO (q2.h 52) _ (.slice (az (q2.i 52) 0) (64*(i:Int)+64).toNat (q2.i 53).toNat) _;rw[hcat];unfold bO;rw[gK,aac,hTl,hsl];rw[show(64*(i:Int)).toNat+Int.toNat 64=64*i+64 by have:(64:Int).toNat=64:=rfl;omega]at hx;rw[show(64*(i:Int)+64).toNat=64*i+64 by omega];exact hx
   .have:=bO.cap hO ah e44;omega
   .have hd02:=hd 0 2 _ _ aA rfl rfl rfl;have eb:=eB q (.sl (.var 41) (.lit 0) (.var 6) (.var 44)) (by rw[g.i 0,r0]) (fun k hk=>by rw[g.i (1+k)];exact rk k hk) (by rw[g.b 23,rb]);have ev:CV.ev q (.sl (.var 41) (.lit 0) (.var 6) (.var 44))=.slice (az (q.i 41) 0) L.size.toNat (q.i 44).toNat:=by
     simp only[CV.ev,ak,aq,u6]
    rw[ev]at eb;refine⟨[[0,2],[1]],[],rfl,rfl,⟨(aY fun _=>0),rfl,zzT,zzT⟩,_,a,HL,HD,dp,L,D,_,_,rfl,rfl,rfl,hL,hD,rfl,?_,?_,rfl⟩
    .show aE (cP [q.h 45]) _ _;rw[aL];exact hDq
    .refine⟨a,.slice (az (q.i 41) 0) L.size.toNat (q.i 44).toNat,q.h 46,rfl,hL.1,?_,?_,?_⟩
     .rw[e43]at hO;have hTl:((D.now.drop (64*(L.frm+2).toNat)).take (64*i)).length=64*i:=by
       rw[aaA,aaK];rcases hi with rfl | hi<;>omega
      have:=bO.pre hO e41 hs0 (by rw[hTl];omega);rw[List.take_take,show min L.size.toNat (64*i)=L.size.toNat by omega]at this;exact this
     .rw[<-eb];exact hd02
     .exact aaD (fun z=>cP [z,q.h 46]) eb
def GL (n c:Int):0<=jn n c/\jn n c<18446744073709551616:=by
 unfold jn;have h:∀ x:Int,0<=IntKind.u64.wrap x/\IntKind.u64.wrap x<18446744073709551616:=fun x=>⟨Int.emod_nonneg _ aA,Int.emod_lt_of_pos _ aA⟩;exact h _
def yh (l:List Int):0<=fK l/\fK l<18446744073709551616:=by
 have h:∀ (l:List Int) (n:Int),(0<=n/\n<18446744073709551616)->0<=l.foldl jn n/\l.foldl jn n<18446744073709551616:=by
  intro l
  induction l with
  | nil=>exact fun n h=>h
  | cons c l ih=>exact fun n _=>ih _ (GL n c)
 exact h l 0 ah
def ow (hD:D.ok) (frm:Int) (hm:0<=most) (place:Int):sk (bI D frm most place).1/\(bI D frm most place).1.getD 1 0<=most:=by
 have hz:sk hJ/\hJ.getD 1 0<=most:=⟨⟨rfl,⟨aap _,aA⟩,aap _,aA⟩,hm⟩;unfold bI;split
 .exact hz
 .rename_i h;have h:(ia D (frm+place)).2=0:=by simpa using h
  obtain⟨_,_,e,hl⟩:=FG hD h;split
  .rename_i hg;have r0:=yh (((ia D (frm+place)).1.take 32).take 8);have r1:=yh ((((ia D (frm+place)).1.take 32).drop 8).take 8);refine⟨⟨?_,r0,r1⟩,hg.2.2⟩;unfold yV;rw[e];simp only[aac,aaN,aa7,aaA,aaK,hl];rfl
  .exact hz
def zl {frm:Int} (h:D.has (frm+place)=true):(bI D frm most place).2=if D.gone then 5 else 0:=by
 unfold bI ia;rw[h];cases D.gone with
 | true=>simp
 | false=>simp;split<;>rfl
def yW (frm most:Int) (h:List Int):LM:=⟨frm,most,h.getD 0 0,h.getD 1 0,h.drop 2,false⟩
def jP (D:DM) (frm n:Int):Int:=if n<3\/frm<0\/(D.n:Int)<frm\/(D.n:Int)-frm<n then 1 else if D.gone then 5 else 0
def pe (D:DM) (frm n:Int):List Int:=if(bI D frm (64*(n-2)) 0).1.getD 0 0<(bI D frm (64*(n-2)) 1).1.getD 0 0 then(bI D frm (64*(n-2)) 1).1 else(bI D frm (64*(n-2)) 0).1
def jQ (D:DM) (frm n:Int):LM:=yW frm (64*(n-2)) (pe D frm n)
def kv (D:DM) (frm n:Int):List Int:=xz D frm (jQ D frm n).size
def wD:Sx.Spec where
 fn:=44
 own:=[.arg 0]
 rd:=[]
 res:=[.one .ptr,.one (.int .i64)]
 links:=[0]
 pre:=fun xs Hs Rs=>∃ dp frm n H D,xs=[dp,.int .i64 frm,.int .i64 n]/\Hs=[H]/\aE H dp D
 post:=fun xs Hs Rs v Hs' F=>∃ dp frm n H D H' pv,xs=[dp,.int .i64 frm,.int .i64 n]/\Hs=[H]/\aE H dp D/\Hs'=[H']/\aE H' dp D/\v=.tuple #[pv,.int .i64 (jP D frm n)]/\(jP D frm n=0->fc F pv dp (jQ D frm n) (kv D frm n))/\(jP D frm n≠0->pv=.pointer none)
def Fl:List Sx.Spec:=[lN,mP,zj]
def Oz:∀ t∈Fl,t.OK Tryz.prog:=av wU <| av Lt <| av N7 <| bQ
def Fk:aG Tryz.prog Fl wD.fn where
 Λ:=aD
 args:=[TP (.var 0) (.lit 0),TI .i64 (.var 1),TI .i64 (.var 2)]
 mem:=[.hp 3 [] [.var 0] []]
 nv:=4
def YV:Fl[2]?=some zj:=rfl
def YW:lN.res=[.one (.int .i64)]:=rfl
def YX:mP.res=[.agg kz,.one (.int .i64)]:=rfl
def YY:zj.res=[.one (.int .i64)]:=rfl
def MO (l:List CV):List CV:=[.hptr (.var 0) (.lit 0),.int .i64 (.var 1),.int .i64 (.wrap .i64 (.mul (.lit 64) (.wrap .i64 (.sub (.var 2) (.lit 2)))))]++l++[.sl (.lit (-1)) (.lit 0) (.lit 0) (.lit 0),.bool .ff]
def YU {l:List CV} {frm:Int} (h0:q.i 0=da) (h1:q.i 1=frm) (h2:q.i 2=n) (hn:3<=n/\n<=16384) (hh:h.length=18) (hl:l.map (CV.ev q)=oj h) :
 (bD.bd 8 (MO l) 145).hl q=Hl.one (q.i 8).toNat (jx (.pointer (some ⟨da,0,none⟩)) (.slice none 0 0) (yW frm (64*(n-2)) h)):=by
 show Hl.one (q.i 8).toNat (.cells ((MO l).map (CV.ev q)).toArray _ (0,0))=_;have e:(MO l).map (CV.ev q)=ly (.pointer (some ⟨da,0,none⟩)) (.slice none 0 0) (yW frm (64*(n-2)) h):=by
  unfold MO;rw[aaM,aaM,hl];have ep:Value.pointer (az (q.i 0) 0)=.pointer (some ⟨da,0,none⟩):=by rw[h0,jq]
  have em:IntKind.i64.wrap (64*IntKind.i64.wrap (q.i 2-2))=64*(n-2):=by
   rw[h2,wrap_i64 (n:=n-2) ah ah,wrap_i64 ah ah]
  show [Value.pointer (az (q.i 0) 0),Value.int .i64 (q.i 1),Value.int .i64 (IntKind.i64.wrap (64*IntKind.i64.wrap (q.i 2-2)))]++oj h++[Value.slice (az (-1) 0) 0 0,Value.bool false]=_;rw[ep,em,h1,fb];unfold ly yW oj;simp only[abZ,abw,aax]
 rw[e];rfl
def EN {n:Nat} (e:(al n kz).map (CV.ev q)=oj h):q.i n=h.getD 0 0:=by
 have:=aaD (fun l=>l[0]?) e;simpa [kz,al,Ck.cv,CV.ev,oj,ak] using this
def NK {frm:Int} (hf:0<=frm/\frm<=16384) (hn:3<=n/\n<=16384) (hh:h.length=18):(yW frm (64*(n-2)) h).ok:=⟨hf,⟨by show 0<=64*(n-2);omega,by show 64*(n-2)<=_;omega⟩,by show(h.drop 2).length=16;rw[aaK];omega⟩
def Oy:wD.OK Tryz.prog:=by
 refine Spec.aS (Γ:=Fl) Oz ?_;rintro xs Hs Rs hl1 hl2 ⟨dp,frm,n,H,D,rfl,rfl,hD⟩;have e1:Rs=[]:=aad.1 hl2;subst e1;obtain⟨da,s,m,es,clock,hdp,hDi⟩:=id hD;have hDn:=hDi.ok.n;refine⟨Fk,aO [da,frm,n] false [Hl.none,Hl.none,Hl.none,H],fun _ _=>True,fun _ _=>0,?_,⟨?_,?_,?_,?_⟩,(fun _ h=>nomatch h),?_⟩
 .show [Value.pointer (az (da:Int) 0),Value.int .i64 frm,Value.int .i64 n]=_;rw[jq,hdp]
 .intro r hr ho;simp [Fk]at hr;subst hr;exact⟨H,aF,Hl.le_refl _⟩
 .intro r hr ho;simp [Fk]at hr;subst hr;cases ho
 .simp [Fk]
 .intro r hr;simp [Fk]at hr;subst hr;trivial
 .refine aG.read [] [] [] ?_;generalize hρ:aO [(da:Int),frm,n] false [Hl.none,Hl.none,Hl.none,H]=J;have v0:J.i 0=da:=by rw[<-hρ];rfl
  have v1:J.i 1=frm:=by rw[<-hρ];rfl
  have v2:J.i 2=n:=by rw[<-hρ];rfl
  have w3:J.h 3=H:=by rw[<-hρ];rfl
  have ep:Value.pointer (az (da:Int) 0)=dp:=by rw[jq,hdp]
  have bad:∀ (q:Env) (k:Nat) (vs:List Nat) (t:Mem) (x:E) (e:Int),aE (q.h k) dp D->aB q x=e->jP D frm n=e->e≠0 ->
   postOf wD [dp,.int .i64 frm,.int .i64 n] [H] [] q (.hp k vs [.var 0] []::t) (.tup [.one (.hptr (.lit (-1)) (.lit 0)),.one (.int .i64 x)]):=by
   intro q k vs t x e hq hx he hne _;refine⟨[[0]],[],rfl,rfl,⟨(aY fun j=>[-1,0,e].getD j 0),?_,⟨by show(-1:Int)<= -1;omega,aap _⟩,zzT,zzT⟩,dp,frm,n,H,D,_,.pointer none,rfl,rfl,hD,rfl,?_,?_,fun h=>absurd (he.symm.trans h) hne,fun _=>rfl⟩
   .subst hx;rfl
   .show aE (cP [q.h k]) _ _;rw[aL];exact hq
   .rw[he,<-hx];rfl
  simp only[go_sem,Nat.reduceAdd,Fl,YV,YW,YX,YY];rw[v0,v1,v2,w3,ep];refine⟨fun h3=>⟨fun h0=>⟨⟨dp,H,D,rfl,rfl,hD⟩,fun q1 g1 ⟨F,⟨p',H',D',H2,hx,hH,hD',hH2,hD2,hv⟩,_,_⟩=>?_⟩,fun h0=>bad _ 3 _ _ _ 1 (by rw[w3];exact hD) (aq _ _) (by unfold jP;rw[aav (Or.inr (Or.inl h0))]) aA⟩,fun h3=>bad _ 3 _ _ _ 1 (by rw[w3];exact hD) (aq _ _) (by unfold jP;rw[aav (Or.inl h3)]) aA⟩;cases hx;cases hH;have e:=hD'.uniq hD;subst e;simp only[Value.int.injEq,aaY,aag,aat]at hv hH2;rw[<-hH2]at hD2;have hv:q1.i 4=D'.n:=hv;rw[g1.i 0,g1.i 1,v0,v1,hv,ep];refine⟨fun hlt=>⟨⟨dp,_,D',rfl,rfl,hD2⟩,fun q2 g2 ⟨F,⟨p',H',D1,H3,hx,hH,hD',hH3,hD3,hv3⟩,_,_⟩=>?_⟩,fun hlt=>bad _ 4 _ _ _ 1 hD2 (aq _ _) (by unfold jP;rw[aav (Or.inr (Or.inr (Or.inl hlt)))]) aA⟩;cases hx;cases hH;have e:=hD'.uniq hD2;subst e;simp only[Value.int.injEq,aaY,aag,aat]at hv3 hH3;rw[<-hH3]at hD3;have hv3:q2.i 6=D1.n:=hv3;have h3:3<=n:=ah;have h0:0<=frm:=ah;have hlt:frm<=D1.n:=ah;have esub:IntKind.i64.wrap ((D1.n:Int)-frm)=D1.n-frm:=wrap_i64 ah ah;rw[g2.i 1,g2.i 2,g1.i 1,g1.i 2,v1,v2,hv3,esub];refine⟨fun hr=>bad _ 6 _ _ _ 1 hD3 (aq _ _) (by unfold jP;rw[aav (Or.inr (Or.inr (Or.inr hr)))]) aA,fun hr q3 g3 p8=>?_⟩;have hr:n<=D1.n-frm:=ah;have G3:ai 4 J q3:=(g1.tr g2).tr g3;have hn16:3<=n/\n<=16384:=⟨h3,ah⟩;have hf16:0<=frm/\frm<=16384:=⟨h0,ah⟩;have hm0:0<=64*(n-2):=ah;have ep8:∀ q:Env,0<=q.i 8->Value.pointer (az (q.i 8) 0)=.pointer (some ⟨(q.i 8).toNat,0,none⟩):=fun q h=>by rw[au h];rfl
  have rd:∀ (q:Env) (l:List CV) (h:List Int),ai 4 J q->h.length=18->l.map (CV.ev q)=oj h->0<=q.i 8 ->
   ko ((bD.bd 8 (MO l) 145).hl q) (q.i 8).toNat dp (.slice none 0 0) (yW frm (64*(n-2)) h):=by
   intro q l h hq hh hl h8;refine⟨NK hf16 hn16 hh,?_⟩;rw[YU (by rw[hq.i 0,v0]) (by rw[hq.i 1,v1]) (by rw[hq.i 2,v2]) hn16 hh hl,hdp];exact Hl.aT _ _
  have call:∀ (q:Env) (l:List CV) (h:List Int) (k:Nat) (place:Int),ai 4 J q->h.length=18->l.map (CV.ev q)=oj h->0<=q.i 8->aE (q.h k) dp D1->(place=0\/place=1) ->
   mP.pre [.pointer (az (q.i 8) 0),.int .u64 place] [q.h k] [(bD.bd 8 (MO l) 145).hl q]:=by
   intro q l h k place hq hh hl h8 hd hp;exact⟨_,place,_,_,dp,_,_,D1,rfl,rfl,rfl,⟨_,ep8 q h8,rd q l h hq hh hl h8⟩,hd,hp⟩
  have back:∀ (q:Env) (l:List CV) (h:List Int) (k:Nat) (place:Int) (v:Value) (H' F:Hl),ai 4 J q->h.length=18->l.map (CV.ev q)=oj h->0<=q.i 8->aE (q.h k) dp D1 ->
   mP.post [.pointer (az (q.i 8) 0),.int .u64 place] [q.h k] [(bD.bd 8 (MO l) 145).hl q] v [H'] F ->
   aE H' dp D1/\v=.tuple #[.agg (oj (bI D1 frm (64*(n-2)) place).1).toArray,.int .i64 (bI D1 frm (64*(n-2)) place).2]:=by
   intro q l h k place v H' F hq hh hl h8 hd ⟨p',place',Hx,R,dp',sl',L',Dx,H'',hx,hH,hR,hL,hDx,hH',hDy,hvq⟩;cases hx;cases hH;have hR:(bD.bd 8 (MO l) 145).hl q=R:=by simpa using hR
   subst hR;obtain⟨e1,e2,e3⟩:=hL.uniq ⟨_,ep8 q h8,rd q l h hq hh hl h8⟩;subst e1 e2 e3;have e:=hDx.uniq hd;subst e;simp only[aag,aat]at hH';subst hH';exact⟨hDy,hvq⟩
  have inr:∀ place:Int,place=0\/place=1->D1.has (frm+place)=true:=by
   intro place hp;unfold DM.has;simp only[aaf];omega
  have oE:jP D1 frm n=if D1.gone then 5 else 0:=by
   unfold jP;rw[aan ah]
  have leaf:∀ (q:Env) (l:List CV) (h:List Int),ai 4 J q->sk h->h.getD 1 0<=64*(n-2)->l.map (CV.ev q)=oj h->0<=q.i 8->aE (q.h 29) dp D1->D1.gone=false->pe D1 frm n=h ->
   (zj.pre [.pointer (az (q.i 8) 0)] [(bD.bd 8 (MO l) 145).hl q,q.h 29] [] /\
   ∀ q':Env,ai 49 q q'->(∃ F,zj.post [.pointer (az (q.i 8) 0)] [(bD.bd 8 (MO l) 145).hl q,q.h 29] [] (.int .i64 (q'.i 49)) (newHs q' 49 2) F/\(aK 0 [Cp.one (Ck.int .i64)]≠[]->q'.h 51=F)/\dZ 49 [Cp.one (Ck.int .i64)] q') ->
    (¬q'.i 49=0->postOf wD [dp,.int .i64 frm,.int .i64 n] [H] [] q' [.hp 50 [29,9,6,4,3] [.var 0] [],.hp 49 [] [.var 8] [],.dead,.dead] (.tup [.one (.hptr (.lit (-1)) (.lit 0)),.one (.int .i64 (.var 49))])) /\
    (q'.i 49=0->postOf wD [dp,.int .i64 frm,.int .i64 n] [H] [] q' [.hp 50 [29,9,6,4,3] [.var 0] [],.hp 49 [] [.var 8] [],.dead,.dead] (.tup [.one (.hptr (.var 8) (.lit 0)),.one (.int .i64 (.lit 0))]))):=by
   intro q l h hq hh hmost hl h8 hd hgone hoH;refine⟨⟨_,_,_,_,dp,_,D1,rfl,rfl,ep8 q h8,rd q l h hq hh.1 hl h8,hd,hgone,hh.2.2.1,?_⟩,fun q' g' ⟨F,⟨p',a',HL,HDk,dp',L',Dx,HL',HD',hx,hH,hp,hL,hDx,hH',hDy,hAt,hvq⟩,_,_⟩=>?_⟩
   .show 64*(frm+2)+h.getD 1 0<=64*(D1.n:Int);omega
   .have hx:Value.pointer (az (q.i 8) 0)=p':=by simpa using hx
    subst hx;have hH:(bD.bd 8 (MO l) 145).hl q=HL/\q.h 29=HDk:=by simpa using hH
    obtain⟨hH1,hH2⟩:=hH;subst hH1 hH2;have e:=hDx;obtain⟨e1,e2,e3⟩:=fQ.uniq ⟨a',hp,hL⟩ ⟨_,ep8 q h8,rd q l h hq hh.1 hl h8⟩;subst e1 e3;have e:=hDx.uniq hd;subst e;have hH':q'.h 49=HL'/\q'.h 50=HD':=by
     have h1:[q'.h 49,q'.h 50]=[HL',HD']:=hH';simpa using h1
    obtain⟨h49,h50⟩:=hH';simp only[Value.int.injEq,aaY]at hvq;refine⟨fun h=>absurd hvq h,fun _ _=>⟨[[0]],[1],rfl,rfl,⟨(aY fun j=>[q'.i 8,0,0].getD j 0),rfl,⟨?_,aap _⟩,zzT,zzT⟩,_,frm,n,H,Dx,_,Value.pointer (az (q'.i 8) 0),rfl,rfl,hD,rfl,?_,?_,fun _=>?_,fun h=>absurd (by rw[oE,hgone];rfl) h⟩⟩
    .show -1<=q'.i 8;rw[g'.i 8];omega
    .show aE (cP [q'.h 50]) _ _;rw[aL,h50];exact hDy
    .rw[oE,hgone];rfl
    .show fc (cP [q'.h 49]) _ _ _ _;rw[aL,h49,g'.i 8];unfold kv jQ;rw[hoH];exact hAt
  have z18:∀ q:Env,([CV.int .u64 (.lit 0),CV.int .u64 (.lit 0)]++List.replicate 16 (CV.int .u8 (.lit 0))).map (CV.ev q)=oj hJ:=fun q=>rfl;obtain⟨ok0,le0⟩:=ow hDi.ok frm hm0 0;obtain⟨ok1,le1⟩:=ow hDi.ok frm hm0 1;have hD6:aE (q3.h 6) dp D1:=by rw[g3.h 6];exact hD3
  refine⟨call q3 _ hJ 6 0 G3 rfl (z18 q3) p8 hD6 (Or.inl rfl),fun q4 g4 ⟨F,hp4,_,_⟩ q5 g5 _=>?_⟩;obtain⟨hD9,hv4⟩:=back q3 _ hJ 6 0 _ _ _ G3 rfl (z18 q3) p8 hD6 hp4;simp only[Value.tuple.injEq,aaT,aag,Value.int.injEq,Value.agg.injEq,aaY,aat]at hv4;obtain⟨hh4,hc4⟩:=hv4;have hc4:q4.i 27=(bI D1 frm (64*(n-2)) 0).2:=hc4;rw[zl (inr 0 (Or.inl rfl))]at hc4;have G5:ai 4 J q5:=(G3.tr g4).tr g5;have hh5:List.map (CV.ev q5) (al 9 kz)=oj (bI D1 frm (64*(n-2)) 0).1:=by
   rw[CV.ga (g5.mono aA) _ (cw kz 9)];exact hh4
  have p85:0<=q5.i 8:=by rw[g5.i 8,g4.i 8];exact p8
  have hD95:aE (q5.h 9) dp D1:=by rw[g5.h 9];exact hD9
  refine⟨fun h27=>bad q5 9 _ _ _ 5 hD95 (by rw[ak,g5.i 27,hc4,aav];exact abv fun hg=>h27 (by rw[g5.i 27,hc4,aan hg])) (by rw[oE,aav];exact abv fun hg=>h27 (by rw[g5.i 27,hc4,aan hg])) aA,fun h27=>?_⟩;have hgone:D1.gone=false:=by
   cases hg:D1.gone with
   | false=>rfl
   | true=>rw[g5.i 27,hc4,hg]at h27;cases h27
  have mid:∀ (q6:Env),ai 29 q5 q6->∀ F,mP.post [.pointer (az (q5.i 8) 0),.int .u64 1] [q5.h 9] [(bD.bd 8 (MO (al 9 kz)) 145).hl q5] (.tuple #[.agg (List.map (CV.ev q6) (al 29 kz)).toArray,.int .i64 (q6.i 47)]) [q6.h 29] F ->
   ∀ q7,ai 48 q6 q7->q7.i 47=0/\ai 4 J q7/\0<=q7.i 8/\aE (q7.h 29) dp D1/\List.map (CV.ev q7) (al 29 kz)=oj (bI D1 frm (64*(n-2)) 1).1/\List.map (CV.ev q7) (al 9 kz)=oj (bI D1 frm (64*(n-2)) 0).1:=by
   intro q6 g6 F hp6 q7 g7;obtain⟨hD29,hv6⟩:=back q5 _ _ 9 1 _ _ _ G5 ok0.1 hh5 p85 hD95 hp6;simp only[Value.tuple.injEq,aaT,aag,Value.int.injEq,Value.agg.injEq,aaY,aat]at hv6;obtain⟨hh6,hc6⟩:=hv6;rw[zl (inr 1 (Or.inr rfl)),hgone]at hc6;refine⟨by rw[g7.i 47,hc6];rfl,(G5.tr g6).tr g7,by rw[g7.i 8,g6.i 8];exact p85,by rw[g7.h 29];exact hD29,?_,?_⟩
   .rw[CV.ga (g7.mono aA) _ (cw kz 29)];exact hh6
   .rw[CV.ga ((g6.tr g7).mono aA) _ (cw kz 9)];exact hh5
  have both:∀ (q7:Env),ai 4 J q7->0<=q7.i 8->aE (q7.h 29) dp D1->List.map (CV.ev q7) (al 29 kz)=oj (bI D1 frm (64*(n-2)) 1).1->List.map (CV.ev q7) (al 9 kz)=oj (bI D1 frm (64*(n-2)) 0).1 ->
   (q7.i 9<q7.i 29->pe D1 frm n=(bI D1 frm (64*(n-2)) 1).1)/\(¬q7.i 9<q7.i 29->pe D1 frm n=(bI D1 frm (64*(n-2)) 0).1):=by
   intro q7 _ _ _ h1 h2;rw[EN h1,EN h2];exact⟨fun h=>by unfold pe;rw[aav h],fun h=>by unfold pe;rw[aan h]⟩
  constructor
  .intro _;refine⟨call q5 _ _ 9 1 G5 ok0.1 hh5 p85 hD95 (Or.inr rfl),fun q6 g6 ⟨F,hp6,_,_⟩ q7 g7 _=>?_⟩;obtain⟨z1,z2,z3,z4,z5,z6⟩:=mid q6 g6 F hp6 q7 g7;obtain⟨b1,b2⟩:=both q7 z2 z3 z4 z5 z6;exact⟨fun h=>absurd z1 h,fun _=>⟨fun hlt=>leaf q7 (al 29 kz) _ z2 ok1 le1 z5 z3 z4 hgone (b1 hlt),fun hge=>leaf q7 (al 9 kz) _ z2 ok0 le0 z6 z3 z4 hgone (b2 hge)⟩⟩
  .intro _;refine⟨call q5 _ _ 9 1 G5 ok0.1 hh5 p85 hD95 (Or.inr rfl),fun q6 g6 ⟨F,hp6,_,_⟩ q7 g7 _=>?_⟩;obtain⟨z1,z2,z3,z4,z5,z6⟩:=mid q6 g6 F hp6 q7 g7;obtain⟨b1,b2⟩:=both q7 z2 z3 z4 z5 z6;exact⟨fun h=>absurd z1 h,fun _=>⟨fun hlt=>leaf q7 (al 29 kz) _ z2 ok1 le1 z5 z3 z4 hgone (b1 hlt),fun hge=>leaf q7 (al 9 kz) _ z2 ok0 le0 z6 z3 z4 hgone (b2 hge)⟩⟩
def sL (sl:Value) (n:Nat):Prop:=∃ (x y:Int) (c:Nat),sl=.slice (az x y) n c/\ -1<=x/\0<=y
def bO.sL (h:bO F e v bs):sL v bs.length:=by
 obtain⟨x,c,hx,hv,_⟩:=bO.rep h;exact⟨x,0,c,hv,hx,aap _⟩
def nX.sL (h:nX F v bs):sL v bs.length:=by
 obtain⟨x,y,c,hv,hy,h⟩:=h;exact⟨x,y,c,hv,by rcases h with ⟨h,_⟩ | ⟨h,_⟩<;>omega,hy⟩
def sL.uniq {n:Nat} (h:sL sl n) (h':sL sl m):n=m:=by
 obtain⟨x,y,c,rfl,_⟩:=h;obtain⟨x',y',c',he,_⟩:=h';simp only[Value.slice.injEq]at he;exact he.2.1
def AG (hx:-1<=x) (n c:Nat):bm (some (.slice (az x y) n c)) 0=x:=by
 rcases abu x 0 with h | h
 .obtain rfl:x= -1:=ah;rfl
 .rw[au h];show((x.toNat:Nat):Int)=x;omega
def Gr (hx:0<=x) (hy:0<=y) (n c:Nat):bm (some (.slice (az x y) n c)) 1=y:=by
 rw[au hx];show((y.toNat:Nat):Int)=y;omega
def nT (hx:-1<=x) (n c:Nat):bm (some (.slice (az x y) n c)) 2=n:=by
 rcases abu x 0 with h | h
 .obtain rfl:x= -1:=ah;rfl
 .rw[au h];rfl
def rX (a:Nat) (R1 R2:Hl):Env:=aO [(a:Int)] false [Hl.none,R2,R1]
def wI:Mem:=[.ro 1 [.hP 2 (.var 0) (.lit 21) 0 0] false,.ro 2 [.var 0] false]
def Di (a:Nat) (R1 R2:Hl) (Rs:List Hl) (h1:R1∈Rs) (h2:R2∈Rs):Entry (rX a R1 R2) wI [] Rs:=by
 refine⟨fun r hr ho=>?_,fun r hr ho=>?_,?_,fun r hr=>?_⟩
 .simp [wI]at hr;rcases hr with rfl | rfl<;>cases ho
 .simp [wI]at hr;rcases hr with rfl | rfl
  .exact⟨R2,h2,Hl.le_refl _⟩
  .exact⟨R1,h1,Hl.le_refl _⟩
 .simp [wI,bD.own]
 .simp [wI]at hr;rcases hr with rfl | rfl<;>trivial
def wO:Sx.Spec where
 fn:=50
 own:=[]
 rd:=[0]
 res:=[.one (.int .i64)]
 pre:=fun xs Hs Rs=>∃ p R dp sl L n,xs=[p]/\Rs=[R]/\fQ R p dp sl L/\sL sl n/\n<=1048576
 post:=fun xs Hs Rs v Hs' F=>∃ p R dp sl L n,xs=[p]/\Rs=[R]/\fQ R p dp sl L/\sL sl n/\v=.int .i64 (L.most-n)
def WJ:aG Tryz.prog [] wO.fn where
 Λ:=aD
 args:=[TP (.var 0) (.lit 0)]
 mem:=wI
 nv:=3
def pS:Sx.Spec where
 fn:=54
 own:=[]
 rd:=[0]
 res:=[.agg (td 16)]
 pre:=fun xs Hs Rs=>∃ p R dp sl L,xs=[p]/\Rs=[R]/\fQ R p dp sl L
 post:=fun xs Hs Rs v Hs' F=>∃ p R dp sl L,xs=[p]/\Rs=[R]/\fQ R p dp sl L/\v=.agg (aM L.note).toArray
def T0:aG Tryz.prog [] pS.fn where
 Λ:=aD
 args:=[TP (.var 0) (.lit 0)]
 mem:=wI
 nv:=3
def ko.Vl (h:ko R a dp sl L):R.cell a 21=some sl:=by
 rw[h.cell];unfold ly;rw[aau aF,aau (by rw[bX,h.1.note];simp)];rw[bX,h.1.note];rfl
def ko.QX (h:ko R a dp sl L):∀ j z,L.note[j]?=some z->R.cell a (5+j)=some (.int .u8 z):=by
 intro j z hz;rw[h.cell];unfold ly;have hj:=(aaj.1 hz).1;rw[aau aF,aaH (by rw[bX];simp;omega),fF];rw[show 5+j-_=j from by simp,hz];rfl
def FL:wO.OK Tryz.prog:=by
 refine Spec.aS (Γ:=[]) (fun _ h=>by cases h) ?_;rintro xs Hs Rs hl1 hl2 ⟨p,R,dp,sl,L,n,rfl,rfl,⟨a,rfl,hL⟩,hs,hn⟩;have e0:Hs=[]:=aad.1 hl1;subst e0;refine⟨WJ,rX a R R,fun _ _=>True,fun _ _=>0,?_,Di a R R _ aF aF,(fun _ h=>nomatch h),?_⟩
 .show [Value.pointer (az (a:Int) 0)]=_;rw[jq]
 .refine aG.read [] [] [] ?_;simp only[go_sem,Nat.reduceAdd];have v0:(rX a R R).i 0=a:=rfl;have w2:(rX a R R).h 2=R:=rfl;have c2:R.cell a 2=some (.int .i64 L.most):=by rw[hL.cell];rfl
  have c21:=hL.Vl;obtain⟨x,y,c,hsl,hx,hy⟩:=id hs;obtain⟨m0,m1⟩:=hL.1.most;rw[v0,w2,aaa,show Int.toNat 2=2 from rfl,show Int.toNat 21=21 from rfl,c2,c21,hsl];refine⟨ah,rfl,rfl,by rw[nT hx];omega,fun _=>⟨[],[],rfl,rfl,⟨(aY fun _=>L.most-n),?_,zzT,zzT⟩,_,R,dp,sl,L,n,rfl,rfl,⟨a,rfl,hL⟩,hs,?_⟩⟩
  all_goals
   show Value.int .i64 (IntKind.i64.wrap (bS (R.cell ((a:Int)).toNat 2)-bm (R.cell ((a:Int)).toNat 21) 2))=Value.int .i64 (L.most-n);rw[aaa,c2,c21,hsl];rw[nT hx];show Value.int .i64 (IntKind.i64.wrap (L.most-(n:Int)))=_;rw[wrap_i64 ah ah]
def Bt:pS.OK Tryz.prog:=by
 refine Spec.aS (Γ:=[]) (fun _ h=>by cases h) ?_;rintro xs Hs Rs hl1 hl2 ⟨p,R,dp,sl,L,rfl,rfl,⟨a,rfl,hL⟩⟩;have e0:Hs=[]:=aad.1 hl1;subst e0;refine⟨T0,rX a R R,fun _ _=>True,fun _ _=>0,?_,Di a R R _ aF aF,(fun _ h=>nomatch h),?_⟩
 .show [Value.pointer (az (a:Int) 0)]=_;rw[jq]
 .refine aG.read [] [] [] ?_;simp only[go_sem,Nat.reduceAdd];intro q g _;have v0:q.i 0=a:=g.i 0;have w2:q.h 2=R:=g.h 2;have hc:=hL.QX;rw[v0,w2,aaa,show Int.toNat 5=5 from rfl,show Int.toNat 16=16 from rfl];have er:(aU 2 (E.var 0) (E.lit 5) 0 (List.replicate 16 (Kd.int IntKind.u8))).map (CV.ev q)=aM L.note:=by
   refine gO 16 0 _ hL.1.note fun i z hz=>?_;rw[ak,aq,v0,w2,aaa,aaI];exact hc _ _ hz
  refine⟨ah,cW hc (by rw[hL.1.note];omega),fun _=>⟨[],[],rfl,rfl,?_,_,R,dp,sl,L,rfl,rfl,⟨a,rfl,hL⟩,?_⟩⟩
  .obtain⟨c,_,_,ec⟩:=cH (td 16) 0 (aM L.note) (aY fun _=>0) (gY 16 _ hL.1.note);refine⟨c,?_,cm _ _ _ aA,zzT⟩;show Value.agg (List.map (CV.ev q) _).toArray=Value.agg ((al 0 (td 16)).map (CV.ev c)).toArray;rw[er,ec]
  .show Value.agg (List.map (CV.ev q) _).toArray=_;rw[er]
def fx:Sx.Spec where
 fn:=47
 own:=[]
 rd:=[0,1021]
 res:=[.one .sl]
 pre:=fun xs Hs Rs=>∃ p R1 R2 dp sl L bs,xs=[p]/\Rs=[R1,R2]/\fQ R1 p dp sl L/\nX R2 sl bs/\bs.length<=1048576
 post:=fun xs Hs Rs v Hs' F=>∃ p R1 R2 dp sl L bs,xs=[p]/\Rs=[R1,R2]/\fQ R1 p dp sl L/\nX R2 sl bs/\bO F 5 v bs
def Ta:aG Tryz.prog [] fx.fn where
 Λ:=aD
 args:=[TP (.var 0) (.lit 0)]
 mem:=wI
 nv:=3
def Ba:fx.OK Tryz.prog:=by
 refine Spec.aS (Γ:=[]) (fun _ h=>by cases h) ?_;rintro xs Hs Rs hl1 hl2 ⟨p,R1,R2,dp,sl,L,bs,rfl,rfl,⟨a,rfl,hL⟩,hB,hn⟩;have e0:Hs=[]:=aad.1 hl1;subst e0;refine⟨Ta,rX a R1 R2,fun _ _=>True,fun _ _=>0,?_,Di a R1 R2 _ aF aF,(fun _ h=>nomatch h),?_⟩
 .show [Value.pointer (az (a:Int) 0)]=_;rw[jq]
 .refine aG.read [] [] [] ?_;simp only[go_sem,Nat.reduceAdd];have c21:=hL.Vl;obtain⟨x,y,c,hsl,hy,hc⟩:=id hB;have hx:-1<=x:=by rcases hc with ⟨h,_⟩ | ⟨h,_⟩<;>omega
  have w2:(rX a R1 R2).h 2=R1:=rfl;have v0:(rX a R1 R2).i 0=a:=rfl;have t0:Int.toNat 0=0:=rfl;rw[v0,w2,aaa,show Int.toNat 21=21 from rfl,c21,hsl,AG hx];refine⟨ah,rfl,fun h=>fun _=>?_,fun h q g p3=>?_⟩
  .have hbs:bs=[]:=by
    rcases hc with ⟨_,h'⟩ | ⟨h',_⟩
    .exact h'
    .omega
   subst hbs;exact⟨[],[],rfl,rfl,⟨(aY fun k=>[-1,0,0,0].getD k 0),rfl,⟨by show(-1:Int)<= -1;omega,aap _,aap _,aap _⟩,zzT⟩,_,R1,R2,dp,sl,L,[],rfl,rfl,⟨a,rfl,hL⟩,hB,⟨rfl,Or.inl ⟨rfl,rfl⟩⟩⟩
  .have hx0:0<=x:=ah;have hcell:∀ (j:Nat) (z:Int),bs[j]?=some z->R2.cell x.toNat (y.toNat+j)=some (.int .u8 z):=by
    rcases hc with ⟨h',_⟩ | ⟨_,h'⟩
    .omega
    .exact h'
   have hsl':=hsl;rw[g.i 0,v0,g.h 2,w2,g.h 1,show(rX a R1 R2).h 1=R2 from rfl,aaa,c21,hsl,AG hx,Gr hx0 hy,nT hx,t0,aaa];have hnil:aN (Hl.one (q.i 3).toNat (.cells #[] 5 (0,0))) 5 1 (.slice (az (q.i 3) 0) 0 0) 0 []:=⟨rfl,Or.inr ⟨(q.i 3).toNat,0,#[],by rw[au p3];rfl,Hl.aT _ _,ah,aA,rfl,rfl⟩⟩;refine⟨⟨⟨[],hnil⟩,ah,Or.inl ⟨hx0,hy,ah,fun j hj=>?_⟩,by unfold maxLen;omega,ah⟩,fun q2 g2 ⟨a1,a2,a3,_⟩=>?_⟩
   .exact⟨_,hcell j _ (aab hj),rfl⟩
   .have hseg:bR R2 x.toNat y.toNat bs.length=aM bs:=by
     unfold bR;apply aaL;intro j;rw[aao,fF];rcases aa9 j bs.length with hj | hj
     .rw[aaE hj,aaP,hcell j _ (aab hj),aab hj];rfl
     .rw[aaq (by simpa using hj),aaq ah];rfl
    have hx':=a3 _ hnil;rw[hseg,abw,aaI]at hx';have G2:ai 3 (rX a R1 R2) q2:=g.tr g2;have ev:(TV.sv (SV.one (CV.sl (.var 4) (.lit 0) (.hP 2 (.var 0) (.lit 21) 0 2) (.var 5)))).ev q2=.slice (az (q2.i 4) 0) bs.length (q2.i 5).toNat:=by
     show Value.slice (az (q2.i 4) 0) (aB q2 (.hP 2 (.var 0) (.lit 21) 0 2)).toNat (q2.i 5).toNat=_;rw[fk,ak,aq,G2.i 0,v0,G2.h 2,w2,aaa,show Int.toNat 21+0=21 from rfl,c21,hsl,nT hx,aaa]
    refine fun _=>⟨[],[2],rfl,rfl,⟨(aY fun k=>[q2.i 4,0,bs.length,q2.i 5].getD k 0),?_,⟨a1,aap _,by show(0:Int)<=(bs.length:Int);omega,a2⟩,zzT⟩,_,R1,R2,dp,sl,L,bs,rfl,rfl,⟨a,rfl,hL⟩,hB,?_⟩
    .rw[ev];show _=Value.slice (az (q2.i 4) 0) ((bs.length:Int)).toNat (q2.i 5).toNat;rw[aaa]
    .rw[ev];show bO (cP [q2.h 4]) _ _ _;rw[aL];exact hx'
def Gp {q:Env} : ∀ (m n:Nat) (l:List Int),l.length=m->(∀ k,k<m->q.i (n+k)=l.getD k 0)->(al n (List.replicate m (Ck.int .u8))).map (CV.ev q)=aM l
 | 0,n,[],_,_=>rfl
 | m+1,n,z::l,hl,h=>by
  rw[ac0];show CV.ev q (.int .u8 (.var n))::(al (n+1) (List.replicate m (Ck.int .u8))).map (CV.ev q)=Value.int .u8 z::aM l;rw[Gp m (n+1) l (by simpa using hl) fun k hk=>by rw[show n+1+k=n+(k+1)by omega,h (k+1) ah];rfl]
  congr 1
  show Value.int .u8 (q.i n)=_;have:=h 0 ah;rw[aaW]at this;rw[this];rfl
 | 0,_,_::_,h,_=>by simp at h
 | _+1,_,[],h,_=>by simp at h
def tR (L:LM) (all nt:List Int):List Int:=(L.serial+1)::(all.length:Int)::nt
def cf (D:DM) (L:LM) (all nt:List Int) (n:Nat):Int×DM :=
 if(ig D L.frm all n).1≠0 then(5,(ig D L.frm all n).2)
 else if(jt (ig D L.frm all n).2 L.frm (tR L all nt)).1≠0 then(5,(jt (ig D L.frm all n).2 L.frm (tR L all nt)).2)
 else(0,(jt (ig D L.frm all n).2 L.frm (tR L all nt)).2)
def pN (L:LM) (all nt:List Int):LM:=⟨L.frm,L.most,L.serial+1,all.length,nt,L.over⟩
def JT (L:LM):LM:={L with over:=true}
def tf:Sx.Spec where
 fn:=89
 own:=[.arg 0,.arg 1,.link 0 0]
 rd:=[]
 res:=[.one (.int .i64)]
 pre:=fun xs Hs Rs=>∃ p a u all nt H HA HD dp sl L n D,xs=[p,u,.agg (aM nt).toArray,.bool true]/\Hs=[H,HA,HD]/\p=.pointer (some ⟨a,0,none⟩)/\ko H a dp sl L/\sL sl n/\n<=1048576/\bO HA 5 u all/\all.length<=1048576/\nt.length=16/\aE HD dp D/\0<=L.serial/\L.serial<4611686018427387904
 post:=fun xs Hs Rs v Hs' F=>∃ p a u all nt H HA HD dp sl L n D H' HA' HD',xs=[p,u,.agg (aM nt).toArray,.bool true]/\Hs=[H,HA,HD]/\p=.pointer (some ⟨a,0,none⟩)/\ko H a dp sl L/\sL sl n/\bO HA 5 u all/\aE HD dp D/\Hs'=[H',HA',HD']/\aE HD' dp (cf D L all nt n).2/\v=.int .i64 (cf D L all nt n).1 /\
  ((cf D L all nt n).1=0->fc H' p dp (pN L all nt) all)/\((cf D L all nt n).1≠0->H'=Hl.one a (jx dp sl (JT L)))
def xu:List Sx.Spec:=[EC,qz]
def GJ:∀ t∈xu,t.OK Tryz.prog:=av Nu <| av AE <| bQ
def xt:aG Tryz.prog xu tf.fn where
 Λ:=aD
 args:=[TP (.var 0) (.lit 0),.sv (.one (.sl (.var 1) (.var 2) (.var 3) (.var 4))),.sv (.agg (al 5 (td 16))),.sv (.one (.bool (.bvar 60)))]
 mem:=[.bd 0 (al 21 rq++[.sl (.var 43) (.var 44) (.var 45) (.var 46),.bool (.bvar 47)]) 145,.hp 48 [] [.var 1] [],.hp 49 [] [.var 21] []]
 nv:=61
def br0:EC.res=[.one (.int .i64)]:=rfl
def br1:qz.res=[.one (.int .i64)]:=rfl
def GH (a:Nat) (x:Int) (n c:Nat) (nt:List Int) (da:Nat) (L:LM) (sx sy:Int) (sn sc:Nat) (HA HD:Hl):Env :=
 ⟨fun k=>if k<5 then [(a:Int),x,0,n,c].getD k 0 else if k<21 then nt.getD (k-5) 0 else if k<43 then(iI da L).getD (k-21) 0 else [sx,sy,(sn:Int),(sc:Int)].getD (k-43) 0,fun k=>if k=60 then true else L.over,fun _=>.empty,fun _=>.tuple #[],fun k=>if k=48 then HA else HD⟩
def GI:tf.OK Tryz.prog:=by
 refine jV (Γ:=xu) GJ ?_;rintro xs Hs Rs hl1 hl2 hdis ⟨p,a,u,all,nt,H,HA,HD,dp,sl,L,n,D,rfl,rfl,rfl,hL,hsl,hn,hO,hall,hnt,hD,hs0,hs1⟩;have e1:Rs=[]:=aad.1 hl2;subst e1;obtain⟨da,s,m,es,clock,hdp,hDi⟩:=id hD;obtain⟨x,c,hx,hu,hc,hcell⟩:=bO.rep hO;obtain⟨sx,sy,sc,hsl',hsx,hsy⟩:=id hsl;have eB:∀ (q:Env),ai 61 (GH a x all.length c nt da L sx sy n sc HA HD) q->(bD.bd 0 (al 21 rq++[.sl (.var 43) (.var 44) (.var 45) (.var 46),.bool (.bvar 47)]) 145).hl q=Hl.one a (jx dp sl L):=by
  intro q g;have h1:∀ k,k<22->q.i (21+k)=(iI da L).getD k 0:=fun k hk=>by
   rw[g.i _ ah];show(if 21+k<5 then _ else if 21+k<21 then _ else if 21+k<43 then(iI da L).getD (21+k-21) 0 else _)=_;rw[aan ah,aan ah,aav ah,show 21+k-21=k by omega]
  show Hl.one (q.i 0).toNat (.cells ((al 21 rq++[CV.sl (.var 43) (.var 44) (.var 45) (.var 46),.bool (.bvar 47)]).map (CV.ev q)).toArray _ (0,0))=_;rw[aaM,xJ hL.1 h1,g.i 0];have e1:CV.ev q (.sl (.var 43) (.var 44) (.var 45) (.var 46))=sl:=by
   simp only[CV.ev,ak,g.i 43,g.i 44,g.i 45,g.i 46];rw[hsl'];show Value.slice (az sx sy) ((n:Int)).toNat ((sc:Int)).toNat=_;rw[aaa,aaa]
  have e2:CV.ev q (.bool (.bvar 47))=.bool L.over:=by
   show Value.bool (q.b 47)=_;rw[g.b 47];rfl
  rw[aaC,aaC,abn,e1,e2,aax,<-hdp];rfl
 refine⟨xt,GH a x all.length c nt da L sx sy n sc HA HD,fun _ _=>True,fun _ _=>0,?_,⟨?_,?_,?_,?_⟩,(fun _ h=>nomatch h),?_⟩
 .show [Value.pointer (az (a:Int) 0),Value.slice (az x 0) ((all.length:Int)).toNat ((c:Int)).toNat,Value.agg ((al 5 (td 16)).map (CV.ev _)).toArray,Value.bool true]=_;unfold td;rw[jq,aaa,aaa,<-hu,Gp 16 5 nt hnt fun k hk=>?_];show(if 5+k<5 then _ else if 5+k<21 then nt.getD (5+k-5) 0 else _)=_;rw[aan ah,aav ah,show 5+k-5=k by omega]
 .intro r hr ho;simp only[xt,aar,aaB,abe]at hr;rcases hr with rfl | rfl | rfl
  .refine⟨H,aF,?_⟩;rw[eB _ (ai.refl _ _)];intro b o hb;obtain⟨rfl,rfl⟩:=Hl.mT hb;exact hL.2
  .exact⟨HA,aF,Hl.le_refl _⟩
  .exact⟨HD,aF,Hl.le_refl _⟩
 .intro r hr ho;simp only[xt,aar,aaB,abe]at hr;rcases hr with rfl | rfl | rfl<;>cases ho
 .have d1:H.bP HA:=hdis 0 1 _ _ aA rfl rfl;have d2:H.bP HD:=hdis 0 2 _ _ aA rfl rfl;have d3:HA.bP HD:=hdis 1 2 _ _ aA rfl rfl;have hm:H.mem a:=by unfold Hl.mem;rw[hL.2];rfl
  refine List.Pairwise.cons (fun r hr _ _=>?_) (List.Pairwise.cons (fun r hr _ _=>?_) (List.Pairwise.cons (fun r hr=>by cases hr) List.Pairwise.nil))
  .simp only[aar,aaB,abe]at hr;rw[eB _ (ai.refl _ _)];rcases hr with rfl | rfl
   .exact Hl.gl.2 fun h=>d1 a ⟨hm,h⟩
   .exact Hl.gl.2 fun h=>d2 a ⟨hm,h⟩
  .rw[aal]at hr;subst hr;exact d3
 .intro r hr;simp only[xt,aar,aaB,abe]at hr;rcases hr with rfl | rfl | rfl
  .show(0:Int)<=(a:Int);omega
  .trivial
  .trivial
 .refine aG.read [] [] [] ?_;generalize hρ:GH a x all.length c nt da L sx sy n sc HA HD=J at eB ⊢;have v0:J.i 0=a:=by rw[<-hρ];rfl
  have v1:J.i 1=x:=by rw[<-hρ];rfl
  have v2:J.i 2=0:=by rw[<-hρ];rfl
  have v3:J.i 3=all.length:=by rw[<-hρ];rfl
  have v4:J.i 4=c:=by rw[<-hρ];rfl
  have v45:J.i 45=n:=by rw[<-hρ];rfl
  have b60:J.b 60=true:=by rw[<-hρ];rfl
  have w48:J.h 48=HA:=by rw[<-hρ];rfl
  have w49:J.h 49=HD:=by rw[<-hρ];rfl
  have rk:∀ k,k<22->J.i (21+k)=(iI da L).getD k 0:=fun k hk=>by
   rw[<-hρ];show(if 21+k<5 then _ else if 21+k<21 then _ else if 21+k<43 then(iI da L).getD (21+k-21) 0 else _)=_;rw[aan ah,aan ah,aav ah,show 21+k-21=k by omega]
  have rn:∀ k,k<16->J.i (5+k)=nt.getD k 0:=fun k hk=>by
   rw[<-hρ];show(if 5+k<5 then _ else if 5+k<21 then nt.getD (5+k-5) 0 else _)=_;rw[aan ah,aav ah,show 5+k-5=k by omega]
  simp only[go_sem,Nat.reduceAdd,xu,br0,br1];intro q1 g1 _;rw[g1.i 3,v3];refine⟨ah,fun q2 g2 _=>?_⟩;have G2:ai 61 J q2:=g1.tr g2;rw[G2.b 60,b60];refine⟨fun _=>?_,fun h=>absurd rfl h⟩;rw[G2.i 0,v0,G2.i 1,v1,G2.i 2,v2,G2.i 3,v3,G2.i 4,v4,G2.i 45,v45,G2.h 48,w48,G2.h 49,w49,jq,aaa,aaa,<-hu];have ls:∀ q:Env,ai 61 J q->CV.ev q (.sl (.var 43) (.var 44) (.var 45) (.var 46))=sl:=by
   intro q g;simp only[CV.ev,ak,g.i 43,g.i 44,g.i 45,g.i 46];rw[<-hρ,hsl'];show Value.slice (az sx sy) ((n:Int)).toNat ((sc:Int)).toNat=_;rw[aaa,aaa]
  have lk:∀ q:Env,ai 61 J q->∀ k,k<22->q.i (21+k)=(iI da L).getD k 0:=fun q g k hk=>by rw[g.i _ ah];exact rk k hk
  have eB2:∀ q:Env,ai 61 J q->Hl.one a (Obj.cells (List.map (CV.ev q) (al 21 ([Ck.ptr,Ck.int IntKind.i64,Ck.int IntKind.i64,Ck.int IntKind.u64,Ck.int IntKind.u64]++List.replicate 16 (Ck.int IntKind.u8)++[Ck.sl,Ck.bool]))).toArray 145 (0,0))=Hl.one a (jx dp sl L):=by
   intro q g;have h:Hl.one (q.i 0).toNat (Obj.cells (List.map (CV.ev q) (al 21 ([Ck.ptr,Ck.int IntKind.i64,Ck.int IntKind.i64,Ck.int IntKind.u64,Ck.int IntKind.u64]++List.replicate 16 (Ck.int IntKind.u8)++[Ck.sl,Ck.bool]))).toArray 145 (0,0))=Hl.one a (jx dp sl L):=eB q g;rw[g.i 0,v0,aaa]at h;exact h
  have eT:∀ q:Env,ai 61 J q->(bD.bd 0 (al 21 ([Ck.ptr,Ck.int IntKind.i64,Ck.int IntKind.i64,Ck.int IntKind.u64,Ck.int IntKind.u64]++List.replicate 16 (Ck.int IntKind.u8)++[Ck.sl])++[CV.bool E.tt]) 145).hl q=Hl.one a (jx dp sl (JT L)):=by
   intro q g;have h:(bD.bd 0 (al 21 ([Ck.ptr,Ck.int IntKind.i64,Ck.int IntKind.i64,Ck.int IntKind.u64,Ck.int IntKind.u64]++List.replicate 16 (Ck.int IntKind.u8)++[Ck.sl])++[CV.bool E.tt]) 145).hl q=Hl.one (q.i 0).toNat (.cells ((al 21 rq++[CV.sl (.var 43) (.var 44) (.var 45) (.var 46),.bool .tt]).map (CV.ev q)).toArray 145 (0,0)):=rfl;rw[h,aaM,xJ hL.1 (lk q g),g.i 0,v0,aaC,aaC,abn,ls q g,aax,<-hdp,aaa];rfl
  have eN:∀ q:Env,ai 61 J q->(al 5 (List.replicate 16 (Ck.int IntKind.u8))).map (CV.ev q)=aM nt:=fun q g=>Gp 16 5 nt hnt fun k hk=>by rw[g.i _ ah];exact rn k hk
  have i23:∀ q:Env,ai 61 J q->q.i 21=da/\q.i 22=0/\q.i 23=L.frm/\q.i 24=L.most/\q.i 25=L.serial:=fun q g=>⟨lk q g 0 ah,lk q g 1 ah,lk q g 2 ah,lk q g 3 ah,lk q g 4 ah⟩;have wS:IntKind.u64.wrap (L.serial+1)=L.serial+1:=wrap_u64 ah ah;have wL:IntKind.u64.wrap (all.length:Int)=all.length:=wrap_u64 ah ah;have eH:∀ q:Env,ai 61 J q->List.map (CV.ev q) ([CV.int IntKind.u64 (E.wrap IntKind.u64 ((E.var 25).add (E.lit 1))),CV.int IntKind.u64 (E.wrap IntKind.u64 (E.var 3))]++al 5 (List.replicate 16 (Ck.int IntKind.u8)))=oj (tR L all nt):=by
   intro q g;rw[aaM,eN q g];show [Value.int .u64 (IntKind.u64.wrap (q.i 25+1)),Value.int .u64 (IntKind.u64.wrap (q.i 3))]++aM nt=_;rw[(i23 q g).2.2.2.2,g.i 3,v3,wS,wL];rfl
  have eG:∀ q:Env,ai 61 J q->(bD.bd 0 ([CV.hptr (E.var 21) (E.var 22),CV.int IntKind.i64 (E.var 23),CV.int IntKind.i64 (E.var 24),CV.int IntKind.u64 (E.wrap IntKind.u64 ((E.var 25).add (E.lit 1))),CV.int IntKind.u64 (E.wrap IntKind.u64 (E.var 3))]++al 5 (List.replicate 16 (Ck.int IntKind.u8))++[CV.sl (E.var 1) (E.var 2) (E.var 3) (E.var 4),CV.bool (E.bvar 47)]) 145).hl q=Hl.one a (jx dp u (pN L all nt)):=by
   intro q g;show Hl.one (q.i 0).toNat (.cells (List.map (CV.ev q) _).toArray _ (0,0))=_;rw[aaM,aaM,eN q g];obtain⟨j0,j1,j2,j3,j4⟩:=i23 q g;have eb:q.b 47=L.over:=by rw[g.b 47,<-hρ];rfl
   show Hl.one (q.i 0).toNat (.cells ([Value.pointer (az (q.i 21) (q.i 22)),.int .i64 (q.i 23),.int .i64 (q.i 24),.int .u64 (IntKind.u64.wrap (q.i 25+1)),.int .u64 (IntKind.u64.wrap (q.i 3))]++aM nt++[Value.slice (az (q.i 1) (q.i 2)) (q.i 3).toNat (q.i 4).toNat,.bool (q.b 47)]).toArray _ (0,0))=_;rw[j0,j1,j2,j3,j4,eb,g.i 0,v0,g.i 1,v1,g.i 2,v2,g.i 3,v3,g.i 4,v4,wS,wL,jq,<-hdp,aaa,aaa,aaa,<-hu,aax];rfl
  have hRd:fQ (Hl.one a (jx dp sl L)) (.pointer (some ⟨a,0,none⟩)) dp sl L:=⟨a,rfl,hL.1,Hl.aT _ _⟩;have bad:∀ (q:Env) (k:Nat) (vs:List Nat) (t:Mem) (r:Int×DM),ai 61 J q->cf D L all nt n=r->r.1=5->aE (q.h k) dp r.2 ->
   postOf tf [.pointer (some ⟨a,0,none⟩),u,.agg (aM nt).toArray,.bool true] [H,HA,HD] [] q (.bd 0 (al 21 ([Ck.ptr,Ck.int IntKind.i64,Ck.int IntKind.i64,Ck.int IntKind.u64,Ck.int IntKind.u64]++List.replicate 16 (Ck.int IntKind.u8)++[Ck.sl])++[CV.bool E.tt]) 145::.hp 48 [] [.var 1] []::.hp k vs [.var 21] []::t) (.sv (.one (.int .i64 (.lit 5)))):=by
   intro q k vs t r hq hr h5 hd _;refine⟨[[0],[1],[2]],[],rfl,rfl,⟨(aY fun _=>5),rfl,zzT,zzT⟩,_,a,u,all,nt,H,HA,HD,dp,sl,L,n,D,_,_,_,rfl,rfl,rfl,hL,hsl,hO,hD,rfl,?_,?_,fun h=>?_,fun _=>?_⟩
   .show aE (cP [q.h k]) _ _;rw[aL,hr];exact hd
   .rw[hr,h5];rfl
   .rw[hr,h5]at h;cases h
   .show cP [_]=_;rw[aL];exact eT q hq
  rw[aaa,eB2 q2 G2];refine⟨ah,⟨_,u,all,n,HD,_,HA,dp,sl,L,D,rfl,rfl,rfl,hRd,hO,hD,ah,ah,ah⟩,fun q3 g3 ⟨F,⟨p',u',all',fr',Hx,R1,R2,dp',sl',L',Dx,H2,hx,hH,hR,hLx,hOx,hDx,hH2,hD2,hvq⟩,_,_⟩=>?_⟩;have hx:Value.pointer (some ⟨a,0,none⟩)=p'/\u=u'/\(n:Int)=fr':=by simpa using hx
  obtain⟨rfl,rfl,rfl⟩:=hx;have hH:HD=Hx:=by simpa using hH
  subst hH;have hR:Hl.one a (jx dp sl L)=R1/\HA=R2:=by simpa using hR
  obtain⟨rfl,rfl⟩:=hR;obtain⟨rfl,rfl,rfl⟩:=hRd.uniq hLx;have e:=hOx.rd.uniq hO.rd;subst e;have e:=hDx.uniq hD;subst e;have hH2:q3.h 63=H2:=by simpa using hH2
  rw[<-hH2]at hD2;have hvq:q3.i 63=(ig Dx L.frm all' n).1:=by simpa using hvq
  have G3:ai 61 J q3:=G2.tr g3;rw[G3.i 0,v0,jq,aaa,eB2 q3 G3,eH q3 G3];have hNH:sk (tR L all' nt):=⟨by simp [tR,hnt],⟨by show 0<=L.serial+1;omega,by show L.serial+1<_;omega⟩,by show(0:Int)<=(all'.length:Int);omega,by show(all'.length:Int)<_;omega⟩;refine⟨fun h63=>⟨⟨_,_,_,_,dp,sl,L,_,rfl,rfl,rfl,hRd,hD2,hNH⟩,fun q4 g4 ⟨F,⟨p',h',Hx,R1,dp',sl',L',Dy,H3,hx,hH,hR,hLy,hDy,hh',hH3,hD3,hvt⟩,_,_⟩=>?_⟩,fun h63=>bad q3 63 _ _ (5,(ig Dx L.frm all' n).2) G3 (by unfold cf;rw[aav (by rw[<-hvq];exact h63)]) rfl hD2⟩;have hx:Value.pointer (some ⟨a,0,none⟩)=p'/\Value.agg (oj (tR L all' nt)).toArray=Value.agg (oj h').toArray:=by simpa using hx
  obtain⟨rfl,hx2⟩:=hx;have e:=QF hNH.1 hh'.1 hx2;subst e;have hH:q3.h 63=Hx:=by simpa using hH
  subst hH;have hR:Hl.one a (jx dp sl L)=R1:=by simpa using hR
  subst hR;obtain⟨rfl,rfl,rfl⟩:=hRd.uniq hLy;have e:=hDy.uniq hD2;subst e;have hH3:q4.h 65=H3:=by simpa using hH3
  rw[<-hH3]at hD3;have hvt:q4.i 65=(jt (ig Dx L.frm all' n).2 L.frm (tR L all' nt)).1:=by simpa using hvt
  have G4:ai 61 J q4:=G3.tr g4;have hnb:¬(ig Dx L.frm all' n).1≠0:=by rw[<-hvq,h63];simp
  refine⟨fun h65=>bad q4 65 _ _ (5,(jt (ig Dx L.frm all' n).2 L.frm (tR L all' nt)).2) G4 (by unfold cf;rw[aan hnb,aav (by rw[<-hvt];exact h65)]) rfl hD3,fun h65 hd=>?_⟩;have hr:cf Dx L all' nt n=(0,(jt (ig Dx L.frm all' n).2 L.frm (tR L all' nt)).2):=by
   unfold cf;rw[aan hnb,aan (by rw[<-hvt,h65];simp)]
  have hd01:=hd 0 1 _ _ aA rfl rfl rfl;rw[eG q4 G4]at hd01;refine⟨[[0,1],[],[2]],[],rfl,rfl,⟨(aY fun _=>0),rfl,zzT,zzT⟩,_,a,u,all',nt,H,HA,HD,dp,sl,L,n,Dx,_,_,_,rfl,rfl,rfl,hL,hsl,hO,hD,rfl,?_,?_,fun _=>?_,fun h=>?_⟩
  .show aE (cP [q4.h 65]) _ _;rw[aL,hr];exact hD3
  .rw[hr];rfl
  .have e48:q4.h 48=HA:=by rw[G4.h 48,w48]
   have hd01:(Hl.one a (jx dp u (pN L all' nt))).bP (q4.h 48):=hd01;rw[e48]at hd01;refine⟨a,u,HA,rfl,⟨hL.1.frm,hL.1.most,hnt⟩,hO,hd01,?_⟩;rw[<-e48];exact aaD (fun z=>cP [z,q4.h 48]) (eG q4 G4)
  .rw[hr]at h;exact absurd rfl h
structure AR where
 e:Int
 D:DM
 L:LM
 bs:List Int
def bu (D:DM) (L:LM) (bs b nt:List Int):AR :=
 if L.over then⟨5,D,L,bs⟩
 else if 4611686018427387904<=L.serial then⟨14,D,L,bs⟩
 else if L.most-bs.length<b.length then⟨4,D,L,bs⟩
 else if(cf D L (bs++b) nt bs.length).1=0 then⟨0,(cf D L (bs++b) nt bs.length).2,pN L (bs++b) nt,bs++b⟩
 else⟨5,(cf D L (bs++b) nt bs.length).2,JT L,bs⟩
def Cr (D:DM) (L:LM) (all nt:List Int) (n:Nat):(cf D L all nt n).1=0\/(cf D L all nt n).1=5:=by
 unfold cf;split
 .exact Or.inr rfl
 .split
  .exact Or.inr rfl
  .exact Or.inl rfl
def qD:Sx.Spec where
 fn:=53
 own:=[.arg 0,.link 0 0]
 rd:=[1]
 res:=[.one (.int .i64)]
 pre:=fun xs Hs Rs=>∃ p u b nt H HD R dp L bs D,xs=[p,u,.agg (aM nt).toArray]/\Hs=[H,HD]/\Rs=[R]/\fc H p dp L bs/\aE HD dp D/\fu R u b/\bs.length<=1048576/\nt.length=16/\0<=L.serial
 post:=fun xs Hs Rs v Hs' F=>∃ p u b nt H HD R dp L bs D H' HD',xs=[p,u,.agg (aM nt).toArray]/\Hs=[H,HD]/\Rs=[R]/\fc H p dp L bs/\aE HD dp D/\fu R u b/\Hs'=[H',HD']/\aE HD' dp (bu D L bs b nt).D/\fc H' p dp (bu D L bs b nt).L (bu D L bs b nt).bs/\v=.int .i64 (bu D L bs b nt).e
def xp:List Sx.Spec:=[wO,fx,tf]
def GF:∀ t∈xp,t.OK Tryz.prog:=av FL <| av Ba <| av GI <| bQ
def xo:aG Tryz.prog xp qD.fn where
 Λ:=aD
 args:=[TP (.var 0) (.lit 0),.sv (.one (.sl (.var 1) (.var 2) (.var 3) (.var 4))),.sv (.agg (al 5 (td 16)))]
 mem:=[.bd 0 (al 21 rq++[.sl (.var 43) (.var 44) (.var 45) (.var 46),.bool (.bvar 47)]) 145,.hp 48 [] [.var 21] [],.hp 49 [] [.var 43] [],.ro 50 [.var 1] false]
 nv:=51
def ar0:wO.res=[.one (.int .i64)]:=rfl
def ar1:fx.res=[.one .sl]:=rfl
def ar2:tf.res=[.one (.int .i64)]:=rfl
def ac1:(aK 0 [Cp.one .sl]≠[])=True:=by simp [aK,Cp.roots,Ck.root]
def SS (a:Nat) (x y:Int) (n c:Nat) (nt:List Int) (da:Nat) (L:LM) (sx:Int) (sn sc:Nat) (HD HB R:Hl):Env :=
 ⟨fun k=>if k<5 then [(a:Int),x,y,n,c].getD k 0 else if k<21 then nt.getD (k-5) 0 else if k<43 then(iI da L).getD (k-21) 0 else [sx,0,(sn:Int),(sc:Int)].getD (k-43) 0,fun _=>L.over,fun _=>.empty,fun _=>.tuple #[],fun k=>if k=48 then HD else if k=49 then HB else R⟩
def GC:qD.OK Tryz.prog:=by
 refine jV (Γ:=xp) GF ?_;rintro xs Hs Rs hl1 hl2 hdis ⟨p,u,b,nt,H,HD,R,dp,L,bs,D,rfl,rfl,rfl,hAt,hD,hB,hbs,hnt,hs0⟩;obtain⟨a,sl,HB,rfl,hok,hO,hone,hH⟩:=id hAt;obtain⟨da,s,m,es,clock,hdp,hDi⟩:=id hD;obtain⟨x,y,c,hu,hy,hcell⟩:=id hB;obtain⟨sx,sc,hsx,hsl,hsc,_⟩:=bO.rep hO;generalize hρ:SS a x y b.length c nt da L sx bs.length sc HD HB R=J;have v0:J.i 0=a:=by rw[<-hρ];rfl
 have v1:J.i 1=x:=by rw[<-hρ];rfl
 have v2:J.i 2=y:=by rw[<-hρ];rfl
 have v3:J.i 3=b.length:=by rw[<-hρ];rfl
 have v4:J.i 4=c:=by rw[<-hρ];rfl
 have w48:J.h 48=HD:=by rw[<-hρ];rfl
 have w49:J.h 49=HB:=by rw[<-hρ];rfl
 have w50:J.h 50=R:=by rw[<-hρ];rfl
 have b47:J.b 47=L.over:=by rw[<-hρ];rfl
 have rk:∀ k,k<22->J.i (21+k)=(iI da L).getD k 0:=fun k hk=>by
  rw[<-hρ];show(if 21+k<5 then _ else if 21+k<21 then _ else if 21+k<43 then(iI da L).getD (21+k-21) 0 else _)=_;rw[aan ah,aan ah,aav ah,show 21+k-21=k by omega]
 have rn:∀ k,k<16->J.i (5+k)=nt.getD k 0:=fun k hk=>by
  rw[<-hρ];show(if 5+k<5 then _ else if 5+k<21 then nt.getD (5+k-5) 0 else _)=_;rw[aan ah,aav ah,show 5+k-5=k by omega]
 have lk:∀ q:Env,ai 51 J q->∀ k,k<22->q.i (21+k)=(iI da L).getD k 0:=fun q g k hk=>by rw[g.i _ ah];exact rk k hk
 have ls:∀ q:Env,ai 51 J q->CV.ev q (.sl (.var 43) (.var 44) (.var 45) (.var 46))=sl:=by
  intro q g;simp only[CV.ev,ak,g.i 43,g.i 44,g.i 45,g.i 46];rw[<-hρ,hsl];show Value.slice (az sx 0) ((bs.length:Int)).toNat ((sc:Int)).toNat=_;rw[aaa,aaa]
 have eB:∀ (q:Env),ai 51 J q->(bD.bd 0 (al 21 rq++[.sl (.var 43) (.var 44) (.var 45) (.var 46),.bool (.bvar 47)]) 145).hl q=Hl.one a (jx dp sl L):=by
  intro q g;show Hl.one (q.i 0).toNat (.cells ((al 21 rq++[CV.sl (.var 43) (.var 44) (.var 45) (.var 46),.bool (.bvar 47)]).map (CV.ev q)).toArray _ (0,0))=_;have e2:CV.ev q (.bool (.bvar 47))=.bool L.over:=by
   show Value.bool (q.b 47)=_;rw[g.b 47,b47]
  rw[aaM,xJ hok (lk q g),g.i 0,v0,aaC,aaC,abn,ls q g,e2,aax,<-hdp,aaa];rfl
 have hle1:(Hl.one a (jx dp sl L)).le H:=by rw[hH];exact Hl.bh _ _
 have hle2:HB.le H:=by
  rw[hH];show HB.le ((Hl.one a (jx dp sl L)).un (cP [HB]));rw[aL];exact Hl.bC hone
 have hHD:H.bP HD:=hdis 0 1 _ _ aA rfl rfl;refine⟨xo,J,fun _ _=>True,fun _ _=>0,?_,⟨?_,?_,?_,?_⟩,(fun _ h=>nomatch h),?_⟩
 .show [Value.pointer (az (J.i 0) 0),Value.slice (az (J.i 1) (J.i 2)) (J.i 3).toNat (J.i 4).toNat,Value.agg ((al 5 (td 16)).map (CV.ev J)).toArray]=_;unfold td;rw[v0,v1,v2,v3,v4,jq,aaa,aaa,<-hu,Gp 16 5 nt hnt rn]
 .intro r hr ho;simp only[xo,aar,aaB,abe]at hr;rcases hr with rfl | rfl | rfl | rfl
  .refine⟨H,aF,?_⟩;rw[eB J (ai.refl _ _)];exact hle1
  .refine⟨HD,aF,?_⟩;show(J.h 48).le HD;rw[w48];exact Hl.le_refl _
  .refine⟨H,aF,?_⟩;show(J.h 49).le H;rw[w49];exact hle2
  .cases ho
 .intro r hr ho;simp only[xo,aar,aaB,abe]at hr;rcases hr with rfl | rfl | rfl | rfl
  .cases ho
  .cases ho
  .cases ho
  .refine⟨R,aF,?_⟩;show(J.h 50).le R;rw[w50];exact Hl.le_refl _
 .have d1:HD.bP HB:=fun k ⟨h1,h2⟩=>hHD k ⟨Hl.eJ hle2 h2,h1⟩;refine List.Pairwise.cons (fun r hr _ ho=>?_) (List.Pairwise.cons (fun r hr _ ho=>?_) (List.Pairwise.cons (fun r hr _ ho=>?_) (List.Pairwise.cons (fun r hr=>by cases hr) List.Pairwise.nil)))
  .simp only[aar,aaB,abe]at hr;rw[eB J (ai.refl _ _)];rcases hr with rfl | rfl | rfl
   .show Hl.bP _ (J.h 48);rw[w48];exact fun k ⟨h1,h2⟩=>hHD k ⟨Hl.eJ hle1 h1,h2⟩
   .show Hl.bP _ (J.h 49);rw[w49];exact hone
   .cases ho
  .simp only[aar,aaB,abe]at hr;rcases hr with rfl | rfl
   .show(J.h 48).bP (J.h 49);rw[w48,w49];exact d1
   .cases ho
  .rw[aal]at hr;subst hr;cases ho
 .intro r hr;simp only[xo,aar,aaB,abe]at hr;rcases hr with rfl | rfl | rfl | rfl
  .show(0:Int)<=J.i 0;rw[v0];omega
  .trivial
  .trivial
  .trivial
 .refine aG.read [] [] [] ?_;have eB2:∀ q:Env,ai 51 J q->Hl.one a (Obj.cells (List.map (CV.ev q) (al 21 ([Ck.ptr,Ck.int IntKind.i64,Ck.int IntKind.i64,Ck.int IntKind.u64,Ck.int IntKind.u64]++List.replicate 16 (Ck.int IntKind.u8)++[Ck.sl,Ck.bool]))).toArray 145 (0,0))=Hl.one a (jx dp sl L):=by
   intro q g;have h:Hl.one (q.i 0).toNat (Obj.cells (List.map (CV.ev q) (al 21 ([Ck.ptr,Ck.int IntKind.i64,Ck.int IntKind.i64,Ck.int IntKind.u64,Ck.int IntKind.u64]++List.replicate 16 (Ck.int IntKind.u8)++[Ck.sl,Ck.bool]))).toArray 145 (0,0))=Hl.one a (jx dp sl L):=eB q g;rw[g.i 0,v0,aaa]at h;exact h
  have eN:∀ q:Env,ai 51 J q->(al 5 (List.replicate 16 (Ck.int IntKind.u8))).map (CV.ev q)=aM nt:=fun q g=>Gp 16 5 nt hnt fun k hk=>by rw[g.i _ ah];exact rn k hk
  have i25:∀ q:Env,ai 51 J q->q.i 25=L.serial:=fun q g=>lk q g 4 ah;have hIn:ko (Hl.one a (jx dp sl L)) a dp sl L:=⟨hok,Hl.aT _ _⟩;have hRd:fQ (Hl.one a (jx dp sl L)) (.pointer (some ⟨a,0,none⟩)) dp sl L:=⟨a,rfl,hIn⟩;have hslO:sL sl bs.length:=bO.sL hO;obtain⟨m0,m1⟩:=hok.most;have out:∀ (q:Env) (t:Mem) (e:Int),ai 51 J q->bu D L bs b nt=⟨e,D,L,bs⟩ ->
   postOf qD [.pointer (some ⟨a,0,none⟩),u,.agg (aM nt).toArray] [H,HD] [R] q (.bd 0 (al 21 ([Ck.ptr,Ck.int IntKind.i64,Ck.int IntKind.i64,Ck.int IntKind.u64,Ck.int IntKind.u64]++List.replicate 16 (Ck.int IntKind.u8)++[Ck.sl,Ck.bool])) 145::.hp 48 [] [.var 21] []::.hp 49 [] [.var 43] []::t) (.sv (.one (.int .i64 (.lit e)))):=by
   intro q t e hq hr _;refine⟨[[0,2],[1]],[],rfl,rfl,⟨(aY fun _=>e),rfl,zzT,zzT⟩,_,u,b,nt,H,HD,R,dp,L,bs,D,_,_,rfl,rfl,rfl,hAt,hD,hB,rfl,?_,?_,?_⟩
   .show aE (cP [q.h 48]) _ _;rw[aL,hr,hq.h 48,w48];exact hD
   .rw[hr];refine⟨a,sl,HB,rfl,hok,hO,hone,?_⟩;have e49:q.h 49=HB:=by rw[hq.h 49,w49]
    rw[<-e49];exact aaD (fun z=>cP [z,q.h 49]) (eB q hq)
   .rw[hr];rfl
  simp only[go_sem,Nat.reduceAdd,xp,ar0,ar1,ar2,ac1];intro q1 g1 _;rw[g1.b 47,b47,i25 q1 g1,g1.i 3,v3,g1.i 0,v0,jq,aaa,eB2 q1 g1];refine⟨fun ho=>out q1 _ 5 g1 ?_,fun ho=>⟨fun hs=>out q1 _ 14 g1 ?_,fun hs=>⟨ah,⟨_,_,dp,sl,L,bs.length,rfl,rfl,hRd,hslO,hbs⟩,fun q2 g2 ⟨F,⟨p',R',dp',sl',L',n',hx,hR,hLx,hsx',hvq⟩,_,_⟩=>?_⟩⟩⟩
  .unfold bu;rw[aav ho]
  .unfold bu;rw[aan ho,aav hs]
  have hx:Value.pointer (some ⟨a,0,none⟩)=p':=by simpa using hx
  subst hx;have hR:Hl.one a (jx dp sl L)=R':=by simpa using hR
  subst hR;obtain⟨rfl,rfl,rfl⟩:=hRd.uniq hLx;have e:=hsx'.uniq hslO;subst e;have hvq:q2.i 52=L.most-bs.length:=by simpa using hvq
  have G2:ai 51 J q2:=g1.tr g2;rw[hvq,G2.i 3,v3];refine⟨fun hlt=>out q2 _ 4 G2 ?_,fun hlt=>?_⟩
  .unfold bu;rw[aan ho,aan hs,aav hlt]
  rw[G2.i 0,v0,jq,aaa,eB2 q2 G2,G2.h 49,w49];refine⟨⟨_,_,_,dp,sl,L,bs,rfl,rfl,hRd,hO.rd,hbs⟩,fun q3 g3 ⟨F,⟨p',R1,R2,dp',sl',L',bs',hx,hR,hLx,hBx,hO3⟩,hF,hn3⟩=>?_⟩;have hx:Value.pointer (some ⟨a,0,none⟩)=p':=by simpa using hx
  subst hx;have hR:Hl.one a (jx dp sl L)=R1/\HB=R2:=by simpa using hR
  obtain⟨rfl,rfl⟩:=hR;obtain⟨rfl,rfl,rfl⟩:=hRd.uniq hLx;have e:=hBx.uniq hO.rd;subst e;have hF:=hF trivial;subst hF;obtain⟨⟨n53,n54,n55,n56⟩,_⟩:=hn3;have n54:0<=q3.i 54:=n54;have n55:0<=q3.i 55:=n55;obtain⟨e55,_⟩:=hO3.rd.at n53 n54 n55;have G3:ai 51 J q3:=G2.tr g3;rw[G3.i 1,v1,G3.i 2,v2,G3.i 3,v3,G3.h 50,w50,e55];rw[e55]at hO3;have hO3':aN (q3.h 53) 5 1 (.slice (az (q3.i 53) (q3.i 54)) ((bs'.length:Int)).toNat (q3.i 56).toNat) ((bs'.length:Int)).toNat (aM bs'):=by
   unfold bO at hO3;rw[aaa]at hO3 ⊢;exact hO3
  have hsum:(bs'.length:Int)+b.length<=1048576:=ah;refine⟨⟨⟨_,hO3'⟩,ah,?_,by unfold maxLen;omega,ah⟩,fun q4 g4 ⟨a1,a2,a3,_⟩=>?_⟩
  .rcases hcell with hb | ⟨hx0,hcell⟩
   .subst hb;exact Or.inr rfl
   .refine Or.inl ⟨hx0,hy,ah,fun j hj=>?_⟩;have hj:j<b.length:=ah;exact⟨_,hcell j _ (aab hj),rfl⟩
  have hseg:bR R x.toNat y.toNat ((b.length:Int)).toNat=aM b:=by
   rw[aaa];unfold bR;apply aaL;intro j;rw[aao,fF];rcases aa9 j b.length with hj | hj
   .rcases hcell with hb | ⟨hx0,hcell⟩
    .subst hb;cases hj
    .rw[aaE hj,aaP,hcell j _ (aab hj),aab hj];rfl
   .rw[aaq (by simpa using hj),aaq ah];rfl
  have hx4:=a3 _ hO3';rw[hseg]at hx4;have G4:ai 51 J q4:=G3.tr g4;have x55:q4.i 55=bs'.length:=by rw[g4.i 55,e55]
  have hO4:bO (q4.h 57) 5 (.slice (az (q4.i 57) 0) ((bs'.length:Int)+b.length).toNat (q4.i 58).toNat) (bs'++b):=by
   unfold bO;rw[gK,aac];rw[show((bs'.length:Int)+b.length).toNat=bs'.length+b.length by omega];rw[aaa,aaa]at hx4;exact hx4
  rw[G4.i 0,v0,jq,aaa,eB2 q4 G4,eN q4 G4,x55,G4.i 3,v3,G4.h 48,w48];refine⟨⟨_,a,_,bs'++b,nt,_,_,HD,dp,sl,L,bs'.length,D,rfl,rfl,rfl,hIn,hslO,hbs,hO4,by rw[aac];omega,hnt,hD,hs0,ah⟩,fun q5 g5 ⟨F,⟨p',a',u',all',nt',H1,HA,HDx,dp',sl',L',n',D',H',HA',HD',hx,hH,hp,hLx,hsx',hOx,hDx,hHs,hDy,hvb,hok0,hbad⟩,_,_⟩=>?_⟩;have hx:Value.pointer (some ⟨a,0,none⟩)=p'/\Value.slice (az (q4.i 57) 0) ((bs'.length:Int)+b.length).toNat (q4.i 58).toNat=u'/\aM nt=aM nt'/\ba q4 E.tt=true:=by simpa using hx
  obtain⟨hx1,hx2,hx3,_⟩:=hx;have hx3:=ky hx3;subst hx1 hx2 hx3;have hH:Hl.one a (jx dp sl L)=H1/\q4.h 57=HA/\HD=HDx:=by simpa using hH
  obtain⟨hH1,hH2,hH3⟩:=hH;subst hH1 hH2 hH3;have hp:a=a':=by simpa using hp
  subst hp;obtain⟨rfl,rfl,rfl⟩:=fQ.uniq hRd ⟨a,rfl,hLx⟩;have e:=hsx'.uniq hslO;subst e;have e:=hOx.rd.uniq hO4.rd;subst e;have e:=hDx.uniq hD;subst e;have hHs:q5.h 59=H'/\q5.h 60=HA'/\q5.h 61=HD':=by
   have h1:[q5.h 59,q5.h 60,q5.h 61]=[H',HA',HD']:=hHs;simpa using h1
  obtain⟨h59,h60,h61⟩:=hHs;have hvb:q5.i 59=(cf D' L (bs'++b) nt bs'.length).1:=by simpa using hvb
  have G5:ai 51 J q5:=G4.tr g5;have e49:q5.h 49=HB:=by rw[G5.h 49,w49]
  intro hd;by_cases hz:(cf D' L (bs'++b) nt bs'.length).1=0
  .have hr:bu D' L bs' b nt=⟨0,(cf D' L (bs'++b) nt bs'.length).2,pN L (bs'++b) nt,bs'++b⟩:=by
    unfold bu;rw[aan ho,aan hs,aan hlt,aav hz]
   refine⟨[[0],[1]],[],rfl,rfl,⟨(aY fun _=>q5.i 59),rfl,zzT,zzT⟩,_,u,b,nt,H,HD,R,dp,L,bs',D',_,_,rfl,rfl,rfl,hAt,hD,hB,rfl,?_,?_,?_⟩
   .show aE (cP [q5.h 61]) _ _;rw[aL,hr,h61];exact hDy
   .show fc (cP [q5.h 59]) _ _ _ _;rw[aL,hr,h59];exact hok0 hz
   .show Value.int .i64 (q5.i 59)=_;rw[hr,hvb,hz]
  .have h5:=(Cr D' L (bs'++b) nt bs'.length).resolve_left hz;have hr:bu D' L bs' b nt=⟨5,(cf D' L (bs'++b) nt bs'.length).2,JT L,bs'⟩:=by
    unfold bu;rw[aan ho,aan hs,aan hlt,aan hz]
   have hd02:(q5.h 59).bP (q5.h 49):=hd 0 2 _ _ aA rfl rfl rfl;have hH':=hbad hz;rw[h59,hH',e49]at hd02;refine⟨[[0,2],[1]],[],rfl,rfl,⟨(aY fun _=>q5.i 59),rfl,zzT,zzT⟩,_,u,b,nt,H,HD,R,dp,L,bs',D',_,_,rfl,rfl,rfl,hAt,hD,hB,rfl,?_,?_,?_⟩
   .show aE (cP [q5.h 61]) _ _;rw[aL,hr,h61];exact hDy
   .rw[hr];refine⟨a,sl,HB,rfl,⟨hok.frm,hok.most,hok.note⟩,hO,hd02,?_⟩;show cP [q5.h 59,q5.h 49]=_;rw[h59,hH',e49]
   .show Value.int .i64 (q5.i 59)=_;rw[hr,hvb,h5]
structure pD (D:DM):Prop where
 ok:D.ok
 fuse:D.fuse= -1
 gone:D.gone=false
def qS (h:pD D) (hi:D.has i=true) (hb:bs.length=64):pD (rA D i bs):=⟨J1 h.ok hi hb,by show(if 0<D.fuse then D.fuse-1 else D.fuse)= -1;rw[h.fuse];rfl,rfl⟩
def mz (h:pD D) (hi:D.has i=true) (hb:bs.length=64):dJ D i bs=(0,rA D i bs):=by
 unfold dJ;rw[aan (by rw[hi,hb];simp),aan (by rw[h.gone];simp),aan (by rw[h.fuse];decide)]
def jA (h:pD D):(db D).1=0/\pD (db D).2/\(db D).2.now=D.now/\(db D).2.n=D.n:=by
 have e:db D=(0,⟨D.n,D.now,[],if 0<D.fuse then D.fuse-1 else D.fuse,D.gone⟩):=by
  unfold db;rw[aan (by rw[h.gone];simp),aan (by rw[h.fuse];decide)]
 rw[e];refine⟨rfl,⟨⟨h.ok.now,h.ok.n,?_,?_,fun p hp=>by cases hp⟩,?_,h.gone⟩,rfl,rfl⟩
 .show -1<=(if 0<D.fuse then D.fuse-1 else D.fuse);rw[h.fuse];decide
 .show(if 0<D.fuse then D.fuse-1 else D.fuse)<=_;rw[h.fuse];decide
 .show(if 0<D.fuse then D.fuse-1 else D.fuse)= -1;rw[h.fuse];rfl
def zW (h:D.ok) (hi:D.has i=true) (hb:bs.length=64) (j:Nat):(rA D i bs).now[j]?=if 64*i.toNat<=j/\j<64*i.toNat+64 then bs[j-64*i.toNat]? else D.now[j]?:=by
 have hh:0<=i/\i<D.n:=by unfold DM.has at hi;simpa using hi
 show(bE D.now (64*i.toNat) bs)[j]?=_;rw[Sx.sN (by rw[h.now,hb];omega),hb]
def iS (all:List Int) (i:Nat):(nM all i).length=64:=by simp [nM]
def Pu (all:List Int) (i j:Nat) (h:j<64) (hj:64*i+j<all.length):(nM all i)[j]?=all[64*i+j]?:=by
 unfold nM;rw[aao,aaE h,aaP,aab hj,abo]
def wb (frm:Nat) (all:List Int):∀ (f i:Nat) (D:DM),pD D->all.length+1<=f+i->all.length+64*(frm+2)<=64*D.n ->
 (gj frm all f i D).1=0/\pD (gj frm all f i D).2/\(gj frm all f i D).2.n=D.n/\(∀ j,j<64*(frm+2+i)->(gj frm all f i D).2.now[j]?=D.now[j]?)/\(∀ t,64*i<=t->t<all.length->(gj frm all f i D).2.now[64*(frm+2)+t]?=all[t]?):=by
 intro f
 induction f with
 | zero =>
  intro i D h h1 h2;obtain⟨a,b,c,d⟩:=jA h;show(db D).1=0/\_;refine⟨a,b,d,fun j _=>?_,fun t ht ht'=>ah⟩;show(db D).2.now[j]?=_;rw[c]
 | succ f ih =>
  intro i D h h1 h2;have ec:(frm:Int)+2+i=((frm+2+i:Nat):Int):=ah;by_cases hlt:64*i<all.length
  .have hi:D.has ((frm:Int)+2+i)=true:=by unfold DM.has;simp only[aaf];omega
   have hw:=mz h hi (iS all i);have e:gj frm all (f+1) i D=gj frm all f (i+1) (rA D ((frm:Int)+2+i) (nM all i)):=by
    show(if 64*i<all.length then _ else _)=_;rw[aav hlt,hw];simp
   rw[e];have hS:=qS h hi (iS all i);obtain⟨a,b,c,d,g⟩:=ih (i+1) _ hS ah h2;have gp:=zW h.ok hi (iS all i);refine⟨a,b,c,fun j hj=>?_,fun t ht ht'=>?_⟩
   .rw[d j ah,gp,ec,aaa,aan ah]
   .rcases aa9 t (64*(i+1))with h3 | h3
    .rw[d _ ah,gp,ec,aaa,aav ah,Pu all i _ ah ah]
     congr 1;omega
    .exact g t h3 ht'
  .have e:gj frm all (f+1) i D=db D:=by
    show(if 64*i<all.length then _ else _)=_;rw[aan hlt]
   rw[e];obtain⟨a,b,c,d⟩:=jA h;exact⟨a,b,d,fun j _=>by rw[c],fun t ht ht'=>ah⟩
structure Holds (D:DM) (frm:Nat) (n:Int) (k:Nat) (all nt:List Int):Prop where
 sure:pD D
 rng:3<=n/\(frm:Int)+n<=D.n
 len:(all.length:Int)<=64*(n-2)
 note:nt.length=16
 cur:bI D frm (64*(n-2)) ((k%2:Nat):Int)=((k:Int)::(all.length:Int)::nt,0)
 oth:(bI D frm (64*(n-2)) (((k+1)%2:Nat):Int)).1.getD 0 0<k\/(k=0/\(bI D frm (64*(n-2)) 1).1.getD 0 0=0)
 bytes:∀ t z,all[t]?=some z->D.now[64*(frm+2)+t]?=some z
def Holds.pe (h:Holds D frm n k all nt):pe D frm n=(k:Int)::(all.length:Int)::nt:=by
 have hc:=h.cur;have ho:=h.oth;unfold Go.Proofs.YtomdimlnggpgbaaGreatDoor.D.pe;rcases Nat.mod_two_eq_zero_or_one k with e | e
 .have e':(k+1)%2=1:=ah;rw[e]at hc;rw[e']at ho;have hc:bI D frm (64*(n-2)) 0=_:=hc;rw[hc];show(if(k:Int)<_ then _ else _)=_;rw[aan];rcases ho with ho | ⟨hk,ho⟩
  .have ho:(bI D frm (64*(n-2)) 1).1.getD 0 0<k:=ho;omega
  .rw[ho];omega
 .have e':(k+1)%2=0:=ah;rw[e]at hc;rw[e']at ho;have hc:bI D frm (64*(n-2)) 1=_:=hc;rw[hc];show(if _<(k:Int)then _ else _)=_;rw[aav];rcases ho with ho | ⟨hk,ho⟩
  .exact ho
  .omega
def Holds.jQ (h:Holds D frm n k all nt):jQ D frm n=⟨frm,64*(n-2),k,all.length,nt,false⟩:=by
 unfold Go.Proofs.YtomdimlnggpgbaaGreatDoor.D.jQ yW;rw[h.pe];rfl
def Holds.kv (h:Holds D frm n k all nt):kv D frm n=all:=by
 obtain⟨h1,h2⟩:=h.rng;have hl:=h.len;unfold Go.Proofs.YtomdimlnggpgbaaGreatDoor.D.kv xz;rw[h.jQ];show(D.now.drop (64*((frm:Int)+2).toNat)).take ((all.length:Int)).toNat=all;rw[show((frm:Int)+2).toNat=frm+2 by omega,aaa];apply aaL;intro j;rw[aaX];split
 .rename_i hj;rw[aaV,h.bytes j _ (aab hj),aab hj]
 .rw[aaq ah]
def kC (h:pD D) {frm:Int} (hi:D.has (frm+place)=true):bI D frm most place=if Bh (D.bL (frm+place)) most place then(yV ((D.bL (frm+place)).take 32),0)else(hJ,0):=by
 unfold bI;rw[FF hi h.gone];simp
def zm (h:pD D) (h':pD D') (hn:D'.n=D.n) {frm:Int} (hi:D.has (frm+place)=true) (hs:D'.bL (frm+place)=D.bL (frm+place)):bI D' frm most place=bI D frm most place:=by
 have hi':D'.has (frm+place)=true:=by unfold DM.has at hi ⊢;rw[hn];exact hi
 rw[kC h hi,kC h' hi',hs]
def wT (h:∀ j,64*i.toNat<=j->j<64*i.toNat+64->D'.now[j]?=D.now[j]?):D'.bL i=D.bL i:=by
 unfold DM.bL;apply aaL;intro j;rw[aaX,aaX];split
 .rw[aaV,aaV];exact h _ ah ah
 .rfl
def gJ (x:Int):(xq x).length=8:=rfl
def Bi {a b:Int} (ha:0<=a/\a<18446744073709551616) (hb:0<=b/\b<18446744073709551616) (hn:nt.length=16) :
 (cA (a::b::nt)).length=32/\yV (cA (a::b::nt))=a::b::nt/\fK ((cA (a::b::nt)).take 8)=a/\fK (((cA (a::b::nt)).drop 8).take 8)=b:=by
 have e:cA (a::b::nt)=xq a++xq b++nt:=by
  unfold cA;show xq a++xq b++nt.take 16=_;rw[abP ah]
 have h1:((xq a++xq b++nt).take 8)=xq a:=by rw[aax,acb (by rw[gJ];omega),abP (by rw[gJ];omega)]
 have h2:((xq a++xq b++nt).drop 8)=xq b++nt:=by rw[aax,acn (gJ a)]
 have h3:(((xq a++xq b++nt).drop 8).take 8)=xq b:=by rw[h2,acb (by rw[gJ];omega),abP (by rw[gJ];omega)]
 have h4:((xq a++xq b++nt).drop 16).take 16=nt:=by
  rw[acn (by rw[aac,gJ,gJ]),abP ah]
 rw[e];refine⟨by simp [gJ,hn],?_,?_,?_⟩
 .unfold yV;rw[h1,h3,h4,xy ha.1 ha.2,xy hb.1 hb.2];rfl
 .rw[h1,xy ha.1 ha.2]
 .rw[h3,xy hb.1 hb.2]
def Holds.append (h:Holds D frm n k all nt) (hb:(all.length:Int)+b.length<=64*(n-2)) (hk:k<1000000) (hn':nt'.length=16) :
 (bu D ⟨frm,64*(n-2),k,all.length,nt,false⟩ all b nt').e=0/\Holds (bu D ⟨frm,64*(n-2),k,all.length,nt,false⟩ all b nt').D frm n (k+1) (all++b) nt' /\
 (bu D ⟨frm,64*(n-2),k,all.length,nt,false⟩ all b nt').bs=all++b/\(bu D ⟨frm,64*(n-2),k,all.length,nt,false⟩ all b nt').L=⟨frm,64*(n-2),(k+1:Nat),(all++b).length,nt',false⟩:=by
 obtain⟨r1,r2⟩:=h.rng;have hDn:=h.sure.ok.n;have hal:(all++b).length=all.length+b.length:=aac;obtain⟨L,hL⟩:∃ L:LM,L=⟨frm,64*(n-2),k,all.length,nt,false⟩:=⟨_,rfl⟩;rw[<-hL];have f1:L.frm=frm:=by rw[hL]
 have f2:L.most=64*(n-2):=by rw[hL]
 have f3:L.serial=k:=by rw[hL]
 have f4:L.over=false:=by rw[hL]
 obtain⟨F,hF⟩:∃ F,F=(ig D L.frm (all++b) all.length).2:=⟨_,rfl⟩;obtain⟨a1,a2,a3,a4,a5⟩:=wb frm (all++b) ((all++b).length+1) (all.length/64) D h.sure ah ah;have efr:ig D L.frm (all++b) all.length=gj frm (all++b) ((all++b).length+1) (all.length/64) D:=by
  unfold ig;rw[f1,show(((all.length:Nat):Int)/64).toNat=all.length/64 by omega]
 rw[<-efr]at a1 a2 a3 a4 a5;rw[<-hF]at a2 a3 a4 a5;obtain⟨N,hN⟩:∃ N,N=tR L (all++b) nt':=⟨_,rfl⟩;have eN:N=((k+1:Nat):Int)::((all++b).length:Int)::nt':=by
  rw[hN];unfold tR;rw[f3];rfl
 have hp:((k+1:Nat):Int).tmod 2=(((k+1)%2:Nat):Int):=by
  rw[abf ah];omega
 obtain⟨p,hpp⟩:∃ p,p=(k+1)%2:=⟨_,rfl⟩;have hp2:p<2:=ah;obtain⟨b1,b2,b3,b4⟩:=Bi (a:=((k+1:Nat):Int)) (b:=((all++b).length:Int)) (nt:=nt') ⟨ah,ah⟩ ⟨ah,ah⟩ hn';rw[<-eN]at b1 b2 b3 b4;have hhl:(cA N++cA N).length=64:=by rw[aac,b1]
 have ei:∀ q:Nat,(frm:Int)+((q:Nat):Int)=((frm+q:Nat):Int):=fun q=>ah;have hasF:∀ q:Nat,q<2->F.has ((frm:Int)+(q:Int))=true:=fun q hq=>by unfold DM.has;rw[a3];simp only[aaf];omega
 have hasD:∀ q:Nat,q<2->D.has ((frm:Int)+(q:Int))=true:=fun q hq=>by unfold DM.has;simp only[aaf];omega
 have hw:=mz a2 (hasF p hp2) hhl;obtain⟨G,hG⟩:∃ G,G=rA F ((frm:Int)+(p:Int)) (cA N++cA N):=⟨_,rfl⟩;rw[<-hG]at hw;have hGs:pD G:=by rw[hG];exact qS a2 (hasF p hp2) hhl
 have hGn:G.n=D.n:=by rw[hG,<-a3];rfl
 have hGg:=zW a2.ok (hasF p hp2) hhl;rw[<-hG,ei p,aaa]at hGg;obtain⟨s1,s2,s3,s4⟩:=jA hGs;have htn:jt F L.frm N=db G:=by
  unfold jt;have e0:N.getD 0 0=((k+1:Nat):Int):=by rw[eN];rfl
  rw[f1,e0,hp,<-hpp,hw];simp
 have hbec:cf D L (all++b) nt' all.length=(0,(db G).2):=by
  unfold cf;rw[aan (by rw[a1];simp),<-hF,<-hN,htn,aan (by rw[s1];simp)]
 have happ:bu D L all b nt'=⟨0,(db G).2,pN L (all++b) nt',all++b⟩:=by
  unfold bu;rw[f4,f3,f2,aan aF,aan ah,aan ah,hbec];rfl
 rw[happ];refine⟨rfl,⟨s2,⟨r1,by show(frm:Int)+n<=((db G).2.n:Int);rw[s4,hGn];exact r2⟩,by rw[hal];omega,hn',?_,Or.inl ?_,?_⟩,rfl,by unfold pN;rw[f1,f2,f3,f4];rfl⟩
 .rw[<-hpp];have hi:(db G).2.has ((frm:Int)+(p:Int))=true:=by unfold DM.has;rw[s4,hGn];exact hasD p hp2
  have hsec:(db G).2.bL ((frm:Int)+(p:Int))=cA N++cA N:=by
   unfold DM.bL;rw[s3,ei p,aaa];apply aaL;intro j;rw[aaX];split
   .rename_i hj;rw[aaV,hGg,aav ah]
    congr 1;omega
   .rw[aaq ah]
  show bI (db G).2 frm (64*(n-2)) (p:Int)=_;rw[kC s2 hi,hsec];have ht:(cA N++cA N).take 32=cA N:=by rw[aco b1]
  have hdr:(cA N++cA N).drop 32=cA N:=by rw[acn b1]
  rw[aav,ht,b2,eN];unfold Bh;rw[ht,hdr,b3,b4];exact⟨rfl,by rw[hp,hpp],ah⟩
 .have hq:(k+1+1)%2=k%2:=ah;rw[hq];obtain⟨c,hc⟩:∃ c,c=k%2:=⟨_,rfl⟩;have hcur:=h.cur;rw[<-hc]at hcur ⊢;have hc2:c<2:=ah;have hcp:c≠p:=ah;have hsec:(db G).2.bL ((frm:Int)+(c:Int))=D.bL ((frm:Int)+(c:Int)):=by
   refine wT fun j h1 h2=>?_;rw[ei c,aaa]at h1 h2;rw[s3,hGg,aan ah];exact a4 j ah
  rw[zm h.sure s2 (by rw[s4,hGn]) (hasD c hc2) hsec,hcur];show(k:Int)<((k+1:Nat):Int);omega
 .intro t z ht;have hlt:=(aaj.1 ht).1;show(db G).2.now[64*(frm+2)+t]?=some z;rw[s3,hGg,aan ah];rcases aa9 t (64*(all.length/64))with h1 | h1
  .rw[a4 _ ah];refine h.bytes t z ?_;rw[aaH ah]at ht;exact ht
  .rw[a5 t h1 hlt];exact ht
def LG (n:Int):pD (fL n):=by
 refine⟨⟨?_,?_,?_,?_,fun p hp=>by cases hp⟩,rfl,rfl⟩
 .show(List.replicate (64*il n) (0:Int)).length=64*il n;rw[aa8]
 .show il n<=16384;unfold il;omega
 .exact aap (-1)
 .show(-1:Int)<=_;omega
def oF {m:Int} (hm:0<=m/\m<=16384) (hn:3<=n) (hr:(frm:Int)+n<=m):Holds (fL m) frm n 0 [] (List.replicate 16 0):=by
 have hs:il m=m.toNat:=by unfold il;omega
 have hnn:(fL m).n=m.toNat:=hs;have hS:=LG m;have hsec:∀ p:Nat,p<2->(fL m).bL ((frm:Int)+(p:Int))=List.replicate 64 0:=by
  intro p hp;unfold DM.bL;show((List.replicate (64*il m) (0:Int)).drop _).take 64=_;rw[List.drop_replicate,List.take_replicate,hs]
  congr 1;omega
 have hz:fK (List.replicate 8 0)=0:=by decide
 have hrd:∀ p:Nat,p<2->bI (fL m) frm (64*(n-2)) (p:Int)=(hJ,0):=by
  intro p hp;have hi:(fL m).has ((frm:Int)+(p:Int))=true:=by unfold DM.has;rw[hnn];simp only[aaf];omega
  rw[kC hS hi,hsec p hp];split
  .rfl
  .rfl
 refine⟨hS,⟨hn,by rw[hnn];omega⟩,by show(0:Int)<=_;omega,rfl,?_,Or.inr ⟨rfl,?_⟩,fun t z h=>by cases h⟩
 .exact hrd 0 ah
 .have:=hrd 1 ah;have this:bI (fL m) frm (64*(n-2)) 1=(hJ,0):=this;rw[this];rfl
def IL (e:(db D).1=0):(db D).2.loose=[]:=by
 unfold db at e ⊢;split at e
 .cases e
 .split at e
  .cases e
  .rename_i h1 h2;rw[aan h1,aan h2]
def IS {frm:Int} (e:(jt D frm h).1=0):(jt D frm h).2.loose=[]:=by
 unfold jt at e ⊢;split at e
 .rename_i h1;exact absurd e h1
 .rename_i h1;rw[aan h1];exact IL e
def Cs {n:Nat} (e:(cf D L all nt n).1=0):(cf D L all nt n).2.loose=[]:=by
 unfold cf at e ⊢;split at e
 .cases e
 .rename_i h1;rw[aan h1];split at e
  .cases e
  .rename_i h2;rw[aan h2];exact IS (by simpa using h2)
def Co (e:(bu D L bs b nt).e=0):(bu D L bs b nt).D.loose=[]:=by
 unfold bu at e ⊢;split at e
 .cases e
 .rename_i h1;rw[aan h1];split at e
  .cases e
  .rename_i h2;rw[aan h2];split at e
   .cases e
   .rename_i h3;rw[aan h3];split at e
    .rename_i h4;rw[aav h4];exact Cs h4
    .cases e
end Go.Proofs.YtomdimlnggpgbaaGreatDoor.D
