/- Pull after pull, for all and with bodies, brings every piece laid in a door once, each whole and in its writer's order: a part of the proof. No condition. -/
import Derived.RangeFuncLeaves
import Derived.Test.YtbdikjnpbnobcaaGreatDoorProg
import Derived.Test.YtbdikjnpbnobcaaGreatDoorTH
set_option linter.all false
set_option maxHeartbeats 4000000
namespace Go.Proofs.YtbdikjnpbnobcaaGreatDoor
open Go Go.Sx Go.Pk
variable {J q':Env}{l m x y:Int}{ks:List Ck}{B b t:List Int}{row:List Value}
def rj:Value->Prop
 | .slice (some ⟨_,_,some _⟩) _ _=>False
 | .pointer (some ⟨_,_,some _⟩)=>False
 | _=>True
def xl:List Ck->Bool
 | []=>true
 | .map::_=>false
 | _::l=>xl l
def H5 (h:∀ a b c,au x y≠some ⟨a,b,some c⟩):-1<=x:=by
 unfold au at h;split at h
 .omega
 .split at h
  .omega
  grind
def Ug {n:Nat} {k:Ck} (hk:k≠.map) (h:kg n J k) (hv:rj ((k.cv n).ev J)):ir n J k:=by
 cases k with
 | ptr =>
  refine⟨H5 (y:=J.i (n+1)) fun a b c e=>?_,h.2⟩;have hv:rj (.pointer (au (J.i n) (J.i (n+1)))):=hv;rw[e]at hv;exact hv
 | sl =>
  refine⟨H5 (y:=J.i (n+1)) fun a b c e=>?_,h.2⟩;have hv:rj (.slice (au (J.i n) (J.i (n+1))) (J.i (n+2)).toNat (J.i (n+3)).toNat):=hv;rw[e]at hv;exact hv
 | map=>grind
 | _=>trivial
def Bs {J:Env} : ∀ (ks:List Ck) (n:Nat),xl ks=true->bk n ks J->(∀ v∈(aj n ks).map (CV.ev J),rj v)->bZ n ks J
 | [],_,_,_,_=>trivial
 | k::ks,n,hm,h,hv=>by
  have hk:k≠.map:=by rintro rfl;simp [xl]at hm
  have a:xl ks=true:=by cases k<;>trivial
  exact⟨Ug hk h.1 (hv _ (acj ..)),Bs ks _ a h.2 fun v h=>hv v (abq _ h)⟩
def Ow (h:aR row (ks.map gY)) (hm:xl ks=true) (hv:∀ v∈row,rj v):∃ a,TV.ev a (jO 0 [.agg ks])=.agg row.toArray/\bR 0 [.agg ks] a:=by
 obtain⟨q,_,hn,e⟩:=cE ks 0 row (ba fun _=>0) h;refine⟨q,?_,Bs ks 0 hm hn (by grind),zzT⟩;show Value.agg ((aj 0 ks).map (CV.ev q)).toArray=_;rw[e]
def tX {k:IntKind} (z:Int) (h:aR row (ks.map gY)) (hm:xl ks=true) (hv:∀ v∈row,rj v):∃ a,TV.ev a (jO 0 [.agg ks,.one (.int k)])=.tuple #[.agg row.toArray,.int k z]/\bR 0 [.agg ks,.one (.int k)] a:=by
 obtain⟨q,_,hn,e⟩:=cE ks 0 row (ba fun _=>0) h;have ag:ai (0+aQ ks) q (q.dw (0+aQ ks) z):=bI q _ z (ab8 _);have c:(aj 0 ks).map (CV.ev (q.dw (0+aQ ks) z))=row:=by rw[my ag (ab8 _)];exact e
 have b:bk 0 ks (q.dw (0+aQ ks) z):=jx ag ks 0 (ab8 _) hn;refine⟨q.dw (0+aQ ks) z,?_,Bs ks 0 hm b (by grind),zzT,zzT⟩;show Value.tuple #[.agg ((aj 0 ks).map (CV.ev (q.dw (0+aQ ks) z))).toArray,.int k ((q.dw (0+aQ ks) z).i (0+aQ ks))]=_;rw[c]
 congr 3
 simp [Env.dw]
def Br {c:Int} (h:-1<=x):rj (.slice (au x y) l.toNat c.toNat):=by
 rcases ad9 x 0 with h' | h'
 .obtain rfl:x= -1:=ah;trivial
 .rw[av h'];trivial
def im (m:Int) (s:PS):PS:=⟨(gR s.l s.bad m).2.1,(gR s.l s.bad m).2.2⟩
def fX (m:Int) (s:PS):List Int:=(gR s.l s.bad m).1
section
variable {s:PS}
def V5 (hb:al s.l) (h:(im m s).bad=false):s.bad=false/\s.l=aB (fX m s)++(im m s).l/\((fX m s).length:Int)<=m/\(fX m s).length<=4096:=by
 unfold im fX gR at *;split at h
 .cases h
 .rename_i a;rw[aa8 a];have h1:s.bad=false:=by
   cases hs:s.bad
   .rfl
   .grind
  have c:(ck s.l).2≠0:=fun e=>a (Or.inr (Or.inl e));have b:¬min (min m 4096) ((s.l.length:Int)-(ck s.l).2)<((ck s.l).1:Int):=fun e=>a (Or.inr (Or.inr (Or.inr e)));cases hn:tO s.l with
  | none=>unfold ck at c;grind
  | some r =>
   obtain⟨x,k⟩:=r;obtain⟨_,hk,d,f⟩:=xo hb hn;have e:ck s.l=(x,k):=by unfold ck;rw[hn];rfl
   rw[e]at b ⊢;simp only at b;have hl:((s.l.drop k).take x).length=x:=by rw[ace,acy];omega
   refine⟨h1,?_,by grind,by grind⟩;show s.l=aB ((s.l.drop k).take x)++s.l.drop (k+x);unfold aB;rw[hl,<-d,abS,<-aft,afz,afz]
def SC (h1:(b.length:Int)<=m) (c:b.length<=4096):im m ⟨aB b++t,false⟩=⟨t,false⟩/\fX m ⟨aB b++t,false⟩=b:=by
 have e:ck (aB b++t)=(b.length,(aF b.length).length):=by
  unfold ck aB;rw[abS,oW ah];rfl
 have hp:=vZ b.length;have hl:(aB b++t).length=(aF b.length).length+(b.length+t.length):=by unfold aB;simp only[aaA];omega
 have a:¬((false:Bool)=true\/(ck (aB b++t)).2=0\/m<0\/min (min m 4096) (((aB b++t).length:Int)-(ck (aB b++t)).2)<((ck (aB b++t)).1:Int)):=by
  rw[e,hl];simp only;rintro(x | x | x | x)
  .cases x
  .omega
  .omega
  .omega
 unfold im fX gR;rw[aa8 a,e];have d:(aB b++t).drop (aF b.length).length=b++t:=by unfold aB;grind
 refine⟨?_,?_⟩
 .show PS.mk ((aB b++t).drop ((aF b.length).length+b.length)) false=_;rw[<-aft,d,List.drop_left]
 grind
def wN (hb:al s.l):al (im m s).l/\al (fX m s):=by
 unfold im fX gR;split
 .exact⟨hb,fun z h=>by cases h⟩
 .exact⟨gj hb _,fun z hz=>hb z (afs (ady hz))⟩
def xN : (fX m s).length<=4096:=by
 unfold fX gR
 grind
end
section
variable {q:Env} {n:Nat} {p:Value} {H:Hl} {s:PS} {K:Env->Prop}
def WL {F:Hl} {m:Nat} (a:c9 F 5 (.slice (au (q'.i n) (q'.i (n+1))) (q'.i (n+2)).toNat (q'.i (n+3)).toNat) B) (b:True->q'.h (n+1)=F) (hn:bR n [.one .sl] q') (hm:B.length<=m):BP (q'.h (n+1)) (q'.i n) (q'.i (n+1)) (q'.i (n+2)) (q'.i (n+3)) B m:=by
 have hn:-1<=q'.i n/\0<=q'.i (n+1)/\0<=q'.i (n+2)/\0<=q'.i (n+3):=hn.1;rw[<-b zzT]at a;have e:(q'.i (n+2)).toNat=B.length:=by
  obtain⟨x,y,c,e,_⟩:=a.rd;simp only[Value.slice.injEq]at e;exact e.2.1
 exact⟨a,ah,hn.1,hn.2.1,hn.2.2.2,hm⟩
def VI (h:mw H p s) (hm:m<=1000000) (k:∀ q',ai n q q'->mw (q'.h n) p (im m s)->BP (q'.h (n+1)) (q'.i n) (q'.i (n+1)) (q'.i (n+2)) (q'.i (n+3)) (fX m s) 4096->K q') :
 wO.pre [p,.int .i64 m] [H] []/\∀ q',ai n q q'->(∃ F,wO.post [p,.int .i64 m] [H] [] (.slice (au (q'.i n) (q'.i (n+1))) (q'.i (n+2)).toNat (q'.i (n+3)).toNat) [q'.h n] F/\(True->q'.h (n+1)=F)/\bR n [.one .sl] q')->K q':=by
 refine⟨⟨_,m,H,s.l,s.bad,rfl,rfl,h,hm⟩,fun q' g ⟨F,⟨o,m',H1,bs,bad,H',e1,b,d,c,a,hv⟩,e,hn⟩=>?_⟩;simp only[aae,Value.int.injEq,acu,abw]at e1 b c;obtain⟨e1,em⟩:=e1;subst e1 em b;obtain⟨f,j⟩:=h.uniq d;subst f j;rw[<-c]at a;exact k q' g a (WL hv e hn xN)
end
def OY (t:List Int) (h:Hd):Prop:=(h.Form/\fH h=t)\/(h=hz/\∀ R row h',br R row h'->h'.Form->fH h'≠t)
def XA:¬hz.Form:=by
 intro h;have:=h.1.1.1;trivial
def LJ (s:PS):PS:=im 4096 (im 4096 s)
noncomputable def wK:Sx.Spec where
 fn:=33
 own:=[.arg 0]
 rd:=[]
 res:=[.agg fI]
 pre:=fun xs Hs Rs=>∃ p H s,xs=[p]/\Hs=[H]/\mw H p s
 post:=fun xs Hs Rs v Hs' F=>∃ p H s H' row c,xs=[p]/\Hs=[H]/\mw H p s/\Hs'=[H']/\mw H' p (LJ s)/\v=.agg row.toArray/\cH F F row c/\OY (fX 4096 s) c.h/\c.b=fX 4096 (im 4096 s)
noncomputable def YZ:List Sx.Spec:=[qg,fe,vA,Hn,tQ,wO,xq]
def SD:∀ t∈YZ,t.OK Tryz.prog:=ak pe <| ak zE <| ak Az <| ak LY <| ak wh <| ak Ic <| ak NT <| bu
noncomputable def wM:aD Tryz.prog YZ 33 where
 Λ:=aA
 args:=[TP (.var 0) (.lit 0)]
 mem:=[.hp 1 [] [.var 0] []]
 nv:=2
def ae5:wO.res=[.one .sl]:=rfl
def ae6:xq.res=[.agg bJ,.one (.int .i64)]:=rfl
def TR {q:Env} {n:Nat} (h:bR n [.agg bJ,.one (.int .i64)] q):-1<=q.i (n+53)/\0<=q.i (n+54)/\0<=q.i (n+55)/\0<=q.i (n+56):=by
 have h:bZ n bJ q:=h.1;have e:bJ=bJ.take 53++(.sl::bJ.drop 54):=by kernel_rfl
 have g:∀ (a b:List Ck) (n:Nat),bZ n (a++b) q->bZ (n+aQ a) b q:=by
  intro a
  induction a with
  | nil=>intro b n h;trivial
  | cons k a ih =>
   intro b n h;have:=ih b (n+k.len) h.2;rw[show n+k.len+aQ a=n+aQ (k::a)by simp [aQ];omega]at this;exact this
 rw[e]at h;have h:=g _ _ _ h;rw[show aQ (bJ.take 53)=53 by kernel_rfl]at h;exact h.1
def Ng {q:Env} {n:Nat} (h:-1<=q.i (n+53)):∀ v∈aG q n,rj v:=by
 intro v hv;have e:aG q n=(aj n (bJ.take 53)).map (CV.ev q)++(.slice (au (q.i (n+53)) (q.i (n+54))) (q.i (n+55)).toNat (q.i (n+56)).toNat::(aj (n+57) (bJ.drop 54)).map (CV.ev q)):=by kernel_rfl
 have g:∀ (ks:List Ck) (m:Nat),(ks.all fun k=>match k with | .int _=>true | .bool=>true | _=>false)=true->∀ v∈(aj m ks).map (CV.ev q),rj v:=by
  intro ks
  induction ks with
  | nil=>intro m _ v hv;cases hv
  | cons k ks ih =>
   intro m hk v hv;rw[agC,aaM]at hk;rcases aaW.1 hv with rfl | hv
   .cases k<;>first | trivial | (simp at hk)
   grind
 rw[e]at hv;rcases acg.1 hv with hv | hv
 .exact g _ _ zzK v hv
 .rcases aaW.1 hv with rfl | hv
  .exact Br h
  .exact g _ _ zzK v hv
def RR:(aL 0 [Cp.agg bJ,Cp.one (Ck.int .i64)]≠[])=True:=by
 trivial
def Fc {a b c d:Value} (h:Value.tuple #[a,b]=.tuple #[c,d]):a=c/\b=d:=by
 grind
def Ks:wK.OK Tryz.prog:=by
 refine Spec.cM (Γ:=YZ) SD ?_;rintro xs Hs Rs O A ⟨p,H,s,rfl,rfl,h⟩;have e1:Rs=[]:=aa1.1 A;subst e1;obtain⟨a,x,y,c,S,rfl,k⟩:=id h;refine⟨wM,aM [(a:Int)] false [Hl.none,H],fun _ _=>True,fun _ _=>0,?_,⟨?_,?_,?_,?_⟩,(fun _ h=>nomatch h),?_⟩
 .trivial
 .intro r hr ho;simp [wM]at hr;subst hr;exact⟨H,aC,Hl.le_refl _⟩
 .intro r hr ho;simp [wM]at hr;subst hr;cases ho
 .simp [wM]
 .intro r hr;simp [wM]at hr;subst hr;trivial
 .refine aD.read [bJ] [] [] ?_;generalize m:aM [(a:Int)] false [Hl.none,H]=J;obtain⟨⟨w0,_⟩,_,w1,_⟩:=jn m;clear m;simp only[go_sem,Nat.reduceAdd,YZ,ae5,ae6,RC,FO,RR];intro T g0 _;simp only[g0.iA,g0.hA,Nat.reduceLT,w0,w1,ft];refine VI h ah fun q1 I h1 K=>?_;refine⟨⟨_,fX 4096 s,_,rfl,rfl,K.rd.w,(wN k.byte).2,acA xN ah⟩,fun q2 L ⟨j,hp,d,f⟩ U g3 _=>?_⟩;simp only[g3.iA,g3.hA,L.iA,L.hA,I.iA,I.hA,g0.iA,g0.hA,Nat.reduceLT,w0,w1,ft];have P:al (im 4096 s).l:=(wN k.byte).1;refine VI h1 ah fun b g4 Q M=>?_;obtain⟨u',bs',R',e1,N,R,B⟩:=hp;simp only[aae,abw]at e1 N;subst e1 N;obtain rfl:=K.rd.w.uniq R;have d:q2.h 7=j:=d trivial;have f:=TR f;have g:ai 136 q2 b:=g3.tr g4;have C:aG b 7=aG q2 7:=my (a:=7) g (by rw[FO];omega);obtain⟨h',n,o⟩:∃ h',br j (aG q2 7) h'/\OY (fX 4096 s) h':=by
   rcases B with ⟨row,h',hv,hx,hf,hb⟩ | ⟨hv,D⟩
   .have hv:Value.tuple #[.agg (aG q2 7).toArray,.int .i64 (q2.i 135)]=.tuple #[.agg row.toArray,.int .i64 0]:=hv;have e:aG q2 7=row:=ab1 (Value.agg.inj (Fc hv).1);rw[<-e]at hx;exact⟨h',hx,Or.inl ⟨hf,hb⟩⟩
   .have hv:Value.tuple #[.agg (aG q2 7).toArray,.int .i64 (q2.i 135)]=.tuple #[.agg tC.toArray,.int .i64 2]:=hv;have e:aG q2 7=tC:=ab1 (Value.agg.inj (Fc hv).1);rw[e];exact⟨hz,aaJ _,Or.inr ⟨rfl,D⟩⟩
  have q:(aj 7 bJ++[CV.sl (E.var 137) (E.var 138) (E.var 139) (E.var 140)]).map (CV.ev b)=aG q2 7++[.slice (au (b.i 137) (b.i 138)) (b.i 139).toNat (b.i 140).toNat]:=by
   rw[acm,show(aj 7 bJ).map (CV.ev b)=aG q2 7 from C];rfl
  have hl:(aG q2 7).length=125:=by kernel_rfl
  intro t;have hd:=t 3 5 _ _ az rfl rfl rfl;have hd:(b.h 7).bq (b.h 138):=hd;rw[g.h 7,d]at hd;have V:uY b [.hp 137 [3,1] [.var 0] [],.dead,.hp 4 [] [.var 3] [],.hp 7 [] [.var 60] [],.dead,.hp 138 [] [.var 137] []] [3,5]=j.un (b.h 138):=by
   show bY [b.h 7,b.h 138]=_;rw[g.h 7,d];show j.un ((b.h 138).un Hl.none)=_;rw[Hl.iQ]
  have F:cH (j.un (b.h 138)) (j.un (b.h 138)) (aG q2 7++[.slice (au (b.i 137) (b.i 138)) (b.i 139).toNat (b.i 140).toNat]) ⟨h',fX 4096 (im 4096 s)⟩:=by
   refine⟨dj (kb:=[.slice]) n.ok ⟨rfl,zzT⟩,?_,?_,(wN P).2,acA xN ah⟩
   .rw[afK ah,aeo ah];exact n.mono (Hl.aV _ _)
   .rw[abv,abO ah,hl];exact jE M.rd.w (Hl.bg hd)
  obtain⟨G,u,z⟩:=Ow (ks:=fI) (row:=aG q2 7++[.slice (au (b.i 137) (b.i 138)) (b.i 139).toNat (b.i 140).toNat]) F.ok zzK (fun v hv=>by
   rcases acg.1 hv with hv | hv
   .exact Ng f.1 v hv
   .rw[aaQ]at hv;subst hv;exact Br M.rx)
  have ev:(TV.sv (.agg (aj 7 bJ++[CV.sl (E.var 137) (E.var 138) (E.var 139) (E.var 140)]))).ev b=Value.agg (aG q2 7++[Value.slice (au (b.i 137) (b.i 138)) (b.i 139).toNat (b.i 140).toNat]).toArray:=by
   show Value.agg ((aj 7 bJ++[CV.sl (E.var 137) (E.var 138) (E.var 139) (E.var 140)]).map (CV.ev b)).toArray=_;rw[q]
  refine⟨[[0]],[3,5],rfl,rfl,⟨G,ev.trans u.symm,z⟩,_,H,s,b.h 137,_,⟨h',fX 4096 (im 4096 s)⟩,rfl,rfl,h,?_,Q,ev,?_,o,rfl⟩
  .show [bY [b.h 137]]=_;rw[aJ]
  grind
def ga (m:Int):Nat->PS->List Int×PS
 | 0,s=>([],s)
 | k+1,s=>(aI m s::(ga m k (gL m s)).1,(ga m k (gL m s)).2)
def VT {m:Int} : ∀ (k:Nat) (s:PS),al s.l->(ga m k s).2.bad=false->s.bad=false/\s.l=ng (ga m k s).1++(ga m k s).2.l
 | 0,s,_,h=>⟨h,rfl⟩
 | k+1,s,hb,h=>by
  obtain⟨h1,a⟩:=VT k (gL m s) (bS hb) h;obtain⟨b,c,_⟩:=rm hb h1;refine⟨b,?_⟩;rw[c,a];show _=(aF (aI m s).toNat++ng (ga m k (gL m s)).1)++_;rw[abS];rfl
def JG {m:Int} : ∀ (vs:List Int) (t:List Int),(∀ v∈vs,0<=v/\v<=m/\v<18446744073709551616)->ga m vs.length ⟨ng vs++t,false⟩=(vs,⟨t,false⟩)
 | [],t,_=>rfl
 | v::vs,t,h=>by
  have hv:=h v (acj ..);have e:ng (v::vs)++t=aF v.toNat++(ng vs++t):=by show(aF v.toNat++ng vs)++t=_;grind
  obtain⟨a1,a2⟩:=VS (m:=m) (z:=v.toNat) (t:=ng vs++t) ah ah;show(aI m _::(ga m vs.length (gL m _)).1,(ga m vs.length (gL m _)).2)=_;rw[e,a1,a2,JG vs t fun w hw=>h w (abq _ hw)]
  grind
def GP {m:Int} : ∀ (k:Nat) (s:PS),(ga m k s).1.length=k
 | 0,_=>rfl
 | k+1,s=>by show(_::_).length=_;rw[acn,GP]
def LD {m:Int} (hm:0<=m):∀ (k:Nat) (s:PS),∀ v∈(ga m k s).1,0<=v/\v<=m
 | 0,_,v,h=>by cases h
 | k+1,s,v,h=>by
  rcases aaW.1 h with rfl | h
  .exact ig hm
  .exact LD hm k _ v h
def LC {m:Int} : ∀ (k:Nat) (s:PS),al s.l->al (ga m k s).2.l
 | 0,_,h=>h
 | k+1,s,h=>LC k _ (bS h)
def po:Sx.Spec where
 fn:=34
 own:=[.arg 0]
 rd:=[]
 res:=[.agg (List.replicate 6 (.int .u64))]
 pre:=fun xs Hs Rs=>∃ p H s,xs=[p]/\Hs=[H]/\mw H p s
 post:=fun xs Hs Rs v Hs' F=>∃ p H s H',xs=[p]/\Hs=[H]/\mw H p s/\Hs'=[H']/\mw H' p (ga 1048576 6 s).2/\v=.agg (us (ga 1048576 6 s).1).toArray
noncomputable def r8:aD Tryz.prog YZ 34 where
 Λ:=aA
 args:=[TP (.var 0) (.lit 0)]
 mem:=[.hp 1 [] [.var 0] []]
 nv:=2
def ae4:fe.res=[.one (.int .u64)]:=rfl
def yM:po.OK Tryz.prog:=by
 refine Spec.cM (Γ:=YZ) SD ?_;rintro xs Hs Rs k g ⟨p,H,s,rfl,rfl,h⟩;have e1:Rs=[]:=aa1.1 g;subst e1;obtain⟨a,x,y,c,A,rfl,l⟩:=id h;refine⟨r8,aM [(a:Int)] false [Hl.none,H],fun _ _=>True,fun _ _=>0,?_,⟨?_,?_,?_,?_⟩,(fun _ h=>nomatch h),?_⟩
 .trivial
 .intro r hr ho;simp [r8]at hr;subst hr;exact⟨H,aC,Hl.le_refl _⟩
 .intro r hr ho;simp [r8]at hr;subst hr;cases ho
 .simp [r8]
 .intro r hr;simp [r8]at hr;subst hr;trivial
 .refine aD.read [] [] [] ?_;generalize e:aM [(a:Int)] false [Hl.none,H]=J;obtain⟨⟨w0,_⟩,_,w1,_⟩:=jn e;clear e;simp only[go_sem,Nat.reduceAdd,YZ,ae4];intro B g0 _ q1 b _;simp only[b.iA,b.hA,g0.iA,g0.hA,Nat.reduceLT,w0,w1,ft];refine kI h fun q2 d m v2=>?_
  try simp only[d.iA,d.hA,b.iA,b.hA,g0.iA,g0.hA,Nat.reduceLT,w0,w1,ft]
  refine kI m fun C g3 n o=>?_
  try simp only[g3.iA,g3.hA,d.iA,d.hA,b.iA,b.hA,g0.iA,g0.hA,Nat.reduceLT,w0,w1,ft]
  refine kI n fun D g4 q v4=>?_
  try simp only[g4.iA,g4.hA,g3.iA,g3.hA,d.iA,d.hA,b.iA,b.hA,g0.iA,g0.hA,Nat.reduceLT,w0,w1,ft]
  refine kI q fun E f t u=>?_
  try simp only[f.iA,f.hA,g4.iA,g4.hA,g3.iA,g3.hA,d.iA,d.hA,b.iA,b.hA,g0.iA,g0.hA,Nat.reduceLT,w0,w1,ft]
  refine kI t fun F j v v6=>?_
  try simp only[j.iA,j.hA,f.iA,f.hA,g4.iA,g4.hA,g3.iA,g3.hA,d.iA,d.hA,b.iA,b.hA,g0.iA,g0.hA,Nat.reduceLT,w0,w1,ft]
  refine kI v fun q7 w z v7=>?_;intro _;have ev:(TV.sv (.agg [.int .u64 (.var 4),.int .u64 (.var 6),.int .u64 (.var 8),.int .u64 (.var 10),.int .u64 (.var 12),.int .u64 (.var 14)])).ev q7=.agg (us (ga 1048576 6 s).1).toArray:=by
   show Value.agg (us [q7.i 4,q7.i 6,q7.i 8,q7.i 10,q7.i 12,q7.i 14]).toArray=_;simp only[w.iA,j.iA,f.iA,g4.iA,g3.iA,d.iA,b.iA,g0.iA,Nat.reduceLT,v2,o,v4,u,v6,v7];rfl
  refine⟨[[0]],[],rfl,rfl,⟨aM (ga 1048576 6 s).1 false [],?_,cf _ _ _ rfl,zzT⟩,_,H,s,q7.h 14,rfl,rfl,h,?_,z,ev⟩
  .rw[ev];rfl
  .show [bY [q7.h 14]]=_;rw[aJ]
end Go.Proofs.YtbdikjnpbnobcaaGreatDoor
namespace Go.Sx
open Go
def Iq:Env:=(ba fun _=>0)
section
variable {s:Spec} {xs:List Value} {Rs:List Hl} {q:Env} {mem:Mem}
def kU {e:E} (hr:s.res=[.one .bool]) (h:s.post xs [] Rs (.bool (aY q e)) [] Hl.none):postOf s xs [] Rs q mem (.sv (.one (.bool e))):=fun _ =>
 ⟨[],[],rfl,rfl,⟨{Iq with b:=fun _=>aY q e},by rw[hr];rfl,by rw[hr];exact⟨zzT,zzT⟩⟩,h⟩
def L6 {k:IntKind} {e:E} (hr:s.res=[.one (.int k)]) (h:s.post xs [] Rs (.int k (aw q e)) [] Hl.none):postOf s xs [] Rs q mem (.sv (.one (.int k e))):=fun _ =>
 ⟨[],[],rfl,rfl,⟨{Iq with i:=fun _=>aw q e},by rw[hr];rfl,by rw[hr];exact⟨zzT,zzT⟩⟩,h⟩
end
end Go.Sx
namespace Go.Proofs.YtbdikjnpbnobcaaGreatDoor
open Go Go.Sx Go.Pk
variable {J q:Env}{f fn g h:FuncId}{F R R1 R2 RA:Hl}{a v x y z:Int}{X b bs t:List Int}{row:List Value}{k:Nat}{s:PS}
noncomputable def EG (c:Pc):Int:=((bf c.h).length:Int)+c.b.length
noncomputable def rW (f:FuncId):Sx.Spec where
 fn:=f
 own:=[]
 rd:=[10053,1000125]
 res:=[.one (.int .i64)]
 pre:=fun xs Hs Rs=>∃ row R1 R2 c,xs=[.agg row.toArray]/\Rs=[R1,R2]/\cH R1 R2 row c
 post:=fun xs Hs Rs v Hs' F=>∀ row R1 R2 c,xs=[.agg row.toArray]->Rs=[R1,R2]->cH R1 R2 row c->v=.int .i64 (EG c)
def SB:List TV:=(bQ 0 [.agg fI]).map .sv
def V4:Mem:=[.ro 140 [.var 53] false,.ro 141 [.var 128] false]
def Kf:Nd:=(fun a=>(.ext (.alloc 142) (.and (.e (.le (.lit 0) (.var 130))) (.and (.pre a) (.ext a (.and (.e (.le (.lit 0) (.var 145))) (.post [.ro 140 [.var 53] false,.ro 141 [.var 128] false,.dead,.hp 143 [] [.var 143] []] (.sv (.one (.int .i64 (.wrap .i64 (.add (.var 145) (.var 130))))))))))):Nd)) (.call 0 143 [.sv (.agg (aj 0 bJ))] [] [.ro 140 [.var 53] false])
noncomputable def Xd:aD Tryz.prog [bU 116] 99 where
 Λ:=aA
 args:=SB
 mem:=V4
 nv:=142
def adQ (f:FuncId):(bU f).res=[.one .sl]:=rfl
def ae2 : [bU g][0]?=some (bU g):=rfl
def EH {c:Pc} (hx:cH R1 R2 row c):0<=EG c/\EG c<=1000932:=by
 have h1:=iZ hx.hd;have a:=hx.len;unfold EG;omega
def Sr (hg:(bU g).OK Tryz.prog) (W:aD Tryz.prog [bU g] f) (s:W.args=SB) (hm:W.mem=V4) (hp:W.path=[]) (hn:W.V=some Kf):(rW f).OK Tryz.prog:=by
 refine Spec.jN (Γ:=[bU g]) (fun t p=>by rw[aaQ]at p;subst p;exact hg) rfl ?_;rintro xs Rs ⟨row,R1,R2,c,rfl,rfl,hx⟩;obtain⟨J,rfl,m,hh⟩:=lY [(140,R1),(141,R2)] hx.ok;refine⟨W,J,fun _ _=>True,fun _ _=>0,by rw[s];kernel_rfl,by rw[hm];exact aT rfl (by show [J.h 140,J.h 141]=_;rw[hh,hh];rfl),hp,?_⟩;refine aD.lit (x:=Kf) ?_ hn;have a:=hx.hd;have d:=hx.body;rw[show((aj 0 fI).map (CV.ev J)).take 125=aG J 0 by kernel_rfl]at a;rw[show((aj 0 fI).map (CV.ev J)).getD 125 ou=.slice (au (J.i 128) (J.i 129)) (J.i 130).toNat (J.i 131).toNat by kernel_rfl]at d;have q:0<=J.i 129/\0<=J.i 130/\0<=J.i 131:=by
  have:=GM bJ [.sl] 0 m;rw[show 0+aQ bJ=128 by kernel_rfl]at this;exact⟨this.1.2.1,this.1.2.2.1,this.1.2.2.2⟩
 have hl:J.i 130=c.b.length:=by
  obtain⟨x,y,k,e,_⟩:=d;simp only[Value.slice.injEq]at e;omega
 unfold Kf;simp only[go_sem,Nat.reduceAdd,ae2,adQ];intro u g0 _;rw[show(aj 0 bJ).map (CV.ev u)=aG J 0 from cy g0.mono,g0.h 140,g0.i 130,hh 140];refine⟨ah,⟨_,R1,c.h,rfl,rfl,a⟩,fun q1 v ⟨F,n,A,j⟩=>?_⟩;have hB:=pI a n;have n1:-1<=q1.i 143/\0<=q1.i 144/\0<=q1.i 145/\0<=q1.i 146:=j.1;have l:q1.i 145=(bf c.h).length:=by
  obtain⟨x,y,k,e,_⟩:=hB.rd;simp only[Value.slice.injEq]at e;omega
 refine⟨ah,L6 rfl fun row' w z c' e1 r o=>?_⟩;simp only[aae,Value.agg.injEq,abw]at e1 r;obtain⟨rfl,rfl⟩:=r;obtain rfl:=ab1 e1;obtain rfl:=hx.uniq o;have:=EH hx;simp only[bL,bP,ar];rw[v.i 130,g0.i 130,hl,l];unfold EG at this ⊢;rw[wrap_i64 ah ah]
def CL:(rW 99).OK Tryz.prog:=Sr qM Xd rfl rfl rfl zzK
def N7:List Ck:=[.int .u64,i64,i64]++List.replicate 6 (.int .u64)++[.sl]
def rkd:List Kd:=N7.map gY
structure Rp where
 c:List Value
 p:List Pc
variable {r r':Rp}
structure iR (R RA:Hl) (row:List Value) (r:Rp):Prop where
 ok:aR row rkd
 rng:∀ v∈row,uJ v
 core:r.c=row.set 9 ou
 ps:js R RA (row.getD 9 ou) r.p
def iR.uniq (x:iR R RA row r) (y:iR R RA row r'):r=r':=by
 obtain⟨c,p⟩:=r;obtain⟨c',a⟩:=r';have e1:c=c':=x.core.trans y.core.symm;have b:p=a:=x.ps.uniq y.ps;rw[e1,b]
def qQ (c:List Value):Prop:=cI c 3<=1048576/\cI c 4<=1048576/\cI c 5<=1048576/\cI c 6<=1048576/\cI c 7<=1048576/\cI c 8<=1048576
def Pc.Good (c:Pc):Prop:=c.h.Form/\(c.b.length=0\/(c.b.length:Int)=cI c.h.c 92)
variable {ps ps':List Pc}{c:Pc}
noncomputable def yW (ps:List Pc):Int:=(ps.map EG).sum
def Rp.Form (r:Rp):Prop:=(1<=cI r.c 1/\cI r.c 1<=3)/\(0<=cI r.c 2/\cI r.c 2<=14)/\qQ r.c/\r.p.length<=8/\(∀ c∈r.p,c.Good)/\yW r.p<=14500
def lZ (q:Env):List Value:=(aj 0 N7).map (CV.ev q)
def YL (q:Env):cI (lZ q) 0=q.i 0/\cI (lZ q) 1=q.i 1/\cI (lZ q) 2=q.i 2/\cI (lZ q) 3=q.i 3/\cI (lZ q) 4=q.i 4/\cI (lZ q) 5=q.i 5/\cI (lZ q) 6=q.i 6/\cI (lZ q) 7=q.i 7/\cI (lZ q) 8=q.i 8:=⟨rfl,rfl,rfl,rfl,rfl,rfl,rfl,rfl,rfl⟩
def Sb (q:Env):(lZ q).getD 9 ou=.slice (au (q.i 9) (q.i 10)) (q.i 11).toNat (q.i 12).toNat:=rfl
def iR.I (x:iR R RA row r) (hk:k≠9):cI r.c k=cI row k:=by
 rw[x.core];unfold cI;rw[adx ah]
def iR.n (x:iR R RA (lZ q) r):cI r.c 0=q.i 0/\cI r.c 1=q.i 1/\cI r.c 2=q.i 2/\cI r.c 3=q.i 3/\cI r.c 4=q.i 4/\cI r.c 5=q.i 5/\cI r.c 6=q.i 6/\cI r.c 7=q.i 7/\cI r.c 8=q.i 8:=by
 rw[x.I az,x.I az,x.I az,x.I az,x.I az,x.I az,x.I az,x.I az,x.I az];exact YL q
def pcR (n:Nat):List CV:=aU 20 (.var 9) (.add (.var 10) (.mul (.var n) (.lit 126))) 0 oj
def abn (n:Nat):List CV:=aU 20 (.var 9) (.add (.var 10) (.mul (.var n) (.lit 126))) 0 dz
def OX.rows (h:OX R RA x y k row c) (hy:0<=y) {n:Nat} (a:q.h 20=R) (b:q.i 9=x) (d:q.i 10=y) (f:q.i n=k) :
 wz (q.h 20) (q.i 9).toNat (q.i 10+q.i n*126).toNat oj=true/\(pcR n).map (CV.ev q)=row/\(abn n).map (CV.ev q)=row.take 125:=by
 have e:(q.i 10+q.i n*126).toNat=y.toNat+k*126:=by rw[d,f];omega
 have hl:=iV h.pc.ok;rw[iO]at hl;refine⟨?_,cD row oj 0 h.pc.ok fun i u hu=>?_,?_⟩
 .rw[a,b,e];exact jG _ h.pc.ok h.cell
 .show(q.h 20).cell (q.i 9).toNat ((q.i 10+q.i n*126).toNat+(0+i))=some u;rw[a,b,e,aco];exact h.cell i u hu
 .have ho:=mV (n:=125) h.pc.ok;rw[He]at ho;refine cD (row.take 125) dz 0 ho fun i u hu=>?_;show(q.h 20).cell (q.i 9).toNat ((q.i 10+q.i n*126).toNat+(0+i))=some u;rw[a,b,e,aco];rw[acC]at hu;split at hu
  .exact h.cell i u hu
  .cases hu
open Classical in
noncomputable def AF (f:FuncId):Sx.Spec where
 fn:=f
 own:=[]
 rd:=[1000009,4000009]
 res:=[.one .bool]
 pre:=fun xs Hs Rs=>∃ row R RA r,xs=[.agg row.toArray]/\Rs=[R,RA]/\iR R RA row r
 post:=fun xs Hs Rs v Hs' F=>∀ row R RA r,xs=[.agg row.toArray]->Rs=[R,RA]->iR R RA row r->v=.bool (decide r.Form)
noncomputable def Zc (g h f:FuncId):List Sx.Spec:=[bU g,fS h,rW f]
def Xr (h1:(bU g).OK Tryz.prog) (a:(fS h).OK Tryz.prog) (b:(rW f).OK Tryz.prog):∀ t∈Zc g h f,t.OK Tryz.prog:=ak h1 <| ak a <| ak b <| bu
def J2:List TV:=(bQ 0 [.agg N7]).map .sv
def J3:Mem:=[.ro 20 [.var 9] false,.ro 21 [] true]
def Ei:Nd:=(fun m l j o f i k n=>(fun a b c d h=>(fun g=>(fun p=>(.ext (.alloc 22) (.and (.imp (.not (.lt (.var 1) (.lit 1))) (.and (.imp (.not (.lt (.lit 3) (.var 1))) (.and (.imp (.not (.lt (.var 2) i)) (.and (.imp (.not (.lt (.lit 14) (.var 2))) (.ext (.alloc 23) (.and (.imp (.lt f (.var 3)) a) (.imp (.not (.lt f (.var 3))) (.and (.imp (.lt f (.var 4)) a) (.imp (.not (.lt f (.var 4))) (.and (.imp (.lt f (.var 5)) a) (.imp (.not (.lt f (.var 5))) (.and (.imp (.lt f (.var 6)) a) (.imp (.not (.lt f (.var 6))) (.and (.imp (.lt f (.var 7)) a) (.imp (.not (.lt f (.var 7))) (.and (.imp (.lt f (.var 8)) a) (.imp (.not (.lt f (.var 8))) (.and (.e (.le i n)) (.and (.imp (.lt (.lit 8) n) a) (.imp (.not (.lt (.lit 8) n)) (.and (.inv 0 [⟨51,0,.int .i64 i⟩,⟨50,0,.int .i64 i⟩] []) (.havoc 0 0 24 (.and (.imp (.lt o n) (.and (.e (.le i (.var 9))) (.and (.e (.le i (.var 10))) (.and (.e (.le i o)) (.and (.e (.hks 20 (.var 9) c oj)) (.ext (.alloc 60) (.and (.pre k) (.ext k (.and (.imp (.bvar 61) (.and (.e (.le i g)) (.and (.imp (.not (.eq g i)) (.and (.imp (.not p) h) (.imp p b))) (.imp (.eq g i) b)))) (.imp (.not (.bvar 61)) h)))))))))) (.imp (.not (.lt o n)) (.post l (.sv (.one (.bool (.le (.var 51) (.lit 14500))))))))))))))))))))))))))) (.imp (.lt (.lit 14) (.var 2)) d))) (.imp (.lt (.var 2) i) d))) (.imp (.lt (.lit 3) (.var 1)) d))) (.imp (.lt (.var 1) (.lit 1)) d)):Nd)) (.eq g (.hI 20 (.var 9) c 92))) (.hP 20 (.var 9) c 125 2)) (.post l m) (.and (.pre j) (.ext j (.back 0 0 [⟨51,0,.int .i64 (.wrap .i64 (.add (.var 51) (.var 62)))⟩,⟨50,0,.int .i64 (.wrap .i64 (.add o (.lit 1)))⟩] []))) (.add (.var 10) (.mul o (.lit 126))) (.post [.ro 20 [.var 9] false,.ro 21 [] true,.dead] m) (.post [.ro 20 [.var 9] false,.ro 21 [] true,.dead,.dead,.dead] m)) (.sv (.one (.bool .ff))) [.ro 20 [.var 9] false,.ro 21 [] true,.dead,.dead] (.call 2 62 [.sv (.agg (pcR 50))] [] [.ro 21 [] true,.ro 21 [] true]) (.var 50) (.lit 1048576) (.lit 0) (.call 1 61 [.sv (.agg (abn 50))] [] [.ro 21 [] true]) (.var 11)
def lpF (f:FuncId) (p:List Nat):Bool:=lp p&&p.head?==some f
noncomputable def TA:aD Tryz.prog (Zc 116 91 99) 42 where
 Λ:=fun p=>if lpF 42 p then some ⟨0,[(39,TI .i64 (.var 50)),(3,TI .i64 (.var 51))],[],60⟩else none
 args:=J2
 mem:=J3
 nv:=22
def adD : (Zc g h f)[1]?=some (fS h):=rfl
def adE : (Zc g h f)[2]?=some (rW f):=rfl
def adF (h:FuncId):(fS h).res=[.one .bool]:=rfl
def adG (h:FuncId):(rW h).res=[.one (.int .i64)]:=rfl
def Yd (h:∀ c∈ps,∃ R1 R2 row,cH R1 R2 row c):0<=yW ps/\yW ps<=1000932*ps.length:=by
 induction ps with
 | nil=>exact⟨aba _,aba _⟩
 | cons c ps ih =>
  obtain⟨R1,R2,row,hx⟩:=h c (acj ..);have h1:=EH hx;have a:=ih fun d hd=>h d (abq _ hd);have e:yW (c::ps)=EG c+yW ps:=rfl;rw[e,acn];omega
def Hg (ps:List Pc) (c:Pc):yW (ps++[c])=yW ps+EG c:=by unfold yW;simp
def Mc (h:bk 0 N7 q):0<=q.i 10/\0<=q.i 11/\0<=q.i 12:=by
 have:=GM ([.int .u64,i64,i64]++List.replicate 6 (Ck.int .u64)) [.sl] 0 h;exact⟨this.1.2.1,this.1.2.2.1,this.1.2.2.2⟩
set_option maxRecDepth 10000 in
def PY (h1:(bU g).OK Tryz.prog) (Y:(fS h).OK Tryz.prog) (Z:(rW f).OK Tryz.prog) (W:aD Tryz.prog (Zc g h f) fn) (ha:W.args=J2) (hm:W.mem=J3) (hp:W.path=[]) (hn:W.V=some Ei):(AF fn).OK Tryz.prog:=by
 refine Spec.jN (Γ:=Zc g h f) (Xr h1 Y Z) rfl ?_;rintro xs Rs ⟨row,R,RA,r,rfl,rfl,hx⟩;obtain⟨J,rfl,L,hh⟩:=lY [(20,R),(21,RA)] hx.ok;have hx:iR R RA (lZ J) r:=hx;refine⟨W,J,fun _ q=>∃ k:Nat,q.i 50=k/\k<=r.p.length/\(∀ c∈r.p.take k,c.Good)/\q.i 51=yW (r.p.take k),fun _ q=>(r.p.length-q.i 50).toNat,by rw[ha];rfl,by rw[hm];exact aT rfl (by show [J.h 20,J.h 21]=_;rw[hh,hh];rfl),hp,?_⟩;refine aD.lit (x:=Ei) ?_ hn;have w:J.h 20=R:=hh 20;have C:J.h 21=RA:=hh 21;obtain⟨o,aa,ab⟩:=Mc L;have Gs:=hx.ps;rw[Sb]at Gs;obtain⟨hlen,D⟩:=Gs.at o;have hlen:J.i 11=r.p.length:=ah;obtain⟨c0,c1,c2,c3,c4,c5,c6,c7,c8⟩:=hx.n;have d:r.Form↔(1<=J.i 1/\J.i 1<=3)/\(0<=J.i 2/\J.i 2<=14)/\(J.i 3<=1048576/\J.i 4<=1048576/\J.i 5<=1048576/\J.i 6<=1048576/\J.i 7<=1048576/\J.i 8<=1048576)/\r.p.length<=8/\(∀ c∈r.p,c.Good)/\yW r.p<=14500:=by
  unfold Rp.Form qQ;rw[c1,c2,c3,c4,c5,c6,c7,c8]
 have out:∀ {q:Env} {e:E} {mem:Mem},(aY q e=true↔r.Form)->postOf (AF fn) [.agg (lZ J).toArray] [] [R,RA] q mem (.sv (.one (.bool e))):=by
  intro q e mem he;refine kU rfl fun row' R' ad r' e1 I M=>?_;simp only[aae,Value.agg.injEq,abw]at e1 I;obtain⟨rfl,rfl⟩:=I;obtain rfl:=ab1 e1;obtain rfl:=hx.uniq M;exact vj he
 have ff:∀ {q:Env} {mem:Mem},¬r.Form->postOf (AF fn) [.agg (lZ J).toArray] [] [R,RA] q mem (.sv (.one (.bool .ff))):=fun hf=>out ⟨fun e=>(by rw[du]at e;cases e),fun e=>absurd e hf⟩;unfold Ei;simp only[go_sem,Nat.reduceAdd,adD,adE,adF,adG];intro q0 g0 _;rw[g0.i 1,g0.i 2];refine⟨fun a1=>⟨fun a2=>⟨fun a3=>⟨fun a4 q1 g1 _=>?_,fun a=>ff fun hf=>by have:=d.1 hf;omega⟩,fun a=>ff fun hf=>by have:=d.1 hf;omega⟩,fun a=>ff fun hf=>by have:=d.1 hf;omega⟩,fun a=>ff fun hf=>by have:=d.1 hf;omega⟩;have y:ai 22 J q1:=g0.tr g1;rw[y.i 3,y.i 4,y.i 5,y.i 6,y.i 7,y.i 8,y.i 11,hlen];refine⟨fun a=>ff fun hf=>by have:=d.1 hf;omega,fun b1=>⟨fun a=>ff fun hf=>by have:=d.1 hf;omega,fun b2=>⟨fun a=>ff fun hf=>by have:=d.1 hf;omega,fun b3=>⟨fun a=>ff fun hf=>by have:=d.1 hf;omega,fun b4=>⟨fun a=>ff fun hf=>by have:=d.1 hf;omega,fun b5=>⟨fun a=>ff fun hf=>by have:=d.1 hf;omega,fun b6=>⟨ah,fun a=>ff fun hf=>by have:=d.1 hf;omega,fun b7=>⟨⟨0,rfl,acP _,(fun c s=>by rw[afD]at s;cases s),rfl⟩,fun q2 g2 ⟨k,U,hk,l,t⟩=>?_⟩⟩⟩⟩⟩⟩⟩⟩;have z:ai 22 J q2:=y.tr g2;rw[z.i 9,z.i 10,z.i 11,hlen,U,z.h 20,w];refine⟨fun ae=>?_,fun af=>?_⟩
 .have ot:k<r.p.length:=ah;have G:r.p[k]?=some r.p[k]:=aad ot;obtain⟨row,b⟩:=D k _ G;have u:∀ q:Env,ai 60 q2 q->q.h 20=R/\q.i 9=J.i 9/\q.i 10=J.i 10/\q.i 50=k/\q.i 51=yW (r.p.take k)/\q.h 21=RA:=fun q hg=>by
   rw[hg.h 20,hg.i 9,hg.i 10,hg.i 50,hg.i 51,hg.h 21,z.h 20,z.i 9,z.i 10,z.h 21];exact⟨w,rfl,rfl,U,t,C⟩
  obtain⟨d1,d2,d3,d4,d5,d6⟩:=u q2 (ai.refl _ _);obtain⟨r1,_,_⟩:=b.rows o d1 d2 d3 d4;rw[d1,d2,d3,d4]at r1;refine⟨b.x0,o,ah,r1,fun q3 g3 _=>?_⟩;obtain⟨d1,d2,d3,d4,d5,d6⟩:=u q3 g3;obtain⟨_,_,r3⟩:=b.rows o d1 d2 d3 d4;rw[r3,d6];refine⟨⟨_,RA,_,rfl,rfl,b.pc.hd⟩,fun N g4 ⟨F4,O,_⟩=>?_⟩;have hb:=M7 b.pc.hd O;have X:ai 60 q2 N:=g3.tr g4;obtain⟨d1,d2,d3,d4,d5,d6⟩:=u N X;obtain⟨_,r2,_⟩:=b.rows o d1 d2 d3 d4;obtain⟨l1,l2⟩:=b.cells o;rw[hb,r2,d1,d2,d3,d4,d6,l1,l2];have A:r.p[k]∈r.p:=acK ot;have ag:=b.pc.len;have tk:r.p.take (k+1)=r.p.take k++[r.p[k]]:=by rw[adB,G];rfl
  have fin:r.p[k].Good->(rW f).pre [.agg row.toArray] [] [RA,RA]/\∀ m,ai 62 N m->(∃ F,(rW f).post [.agg row.toArray] [] [RA,RA] (.int .i64 (m.i 62)) [] F/\(aL 0 [Cp.one (Ck.int .i64)]≠[]->m.h 62=F)/\bR 62 [.one (.int .i64)] m) ->
   (∃ K:Nat,(assign m [⟨51,0,.int .i64 (.wrap .i64 (.add (.var 51) (.var 62)))⟩,⟨50,0,.int .i64 (.wrap .i64 (.add (.var 50) (.lit 1)))⟩] []).i 50=K/\K<=r.p.length/\(∀ c∈r.p.take K,c.Good)/\(assign m [⟨51,0,.int .i64 (.wrap .i64 (.add (.var 51) (.var 62)))⟩,⟨50,0,.int .i64 (.wrap .i64 (.add (.var 50) (.lit 1)))⟩] []).i 51=yW (r.p.take K)) /\
   ((r.p.length:Int)-(assign m [⟨51,0,.int .i64 (.wrap .i64 (.add (.var 51) (.var 62)))⟩,⟨50,0,.int .i64 (.wrap .i64 (.add (.var 50) (.lit 1)))⟩] []).i 50).toNat<((r.p.length:Int)-(k:Int)).toNat:=fun hG=>by
   refine⟨⟨_,RA,RA,_,rfl,rfl,b.pc⟩,fun m g5 ⟨F5,P,_⟩=>?_⟩;have B:=P _ RA RA _ rfl rfl b.pc;have B:m.i 62=EG r.p[k]:=by simpa using B
   obtain⟨_,_,_,f4,f5,_⟩:=u m (X.tr g5);have hr1:=EH b.pc;have aj:=Yd (ps:=r.p.take k) fun c s=>by
    obtain⟨j,hj⟩:=acU.1 (ady s);obtain⟨Q,S⟩:=D j _ hj;exact⟨RA,RA,Q,S.pc⟩
   have ak:(r.p.take k).length<=8:=by rw[ace];omega
   have e1:(assign m [⟨51,0,.int .i64 (.wrap .i64 (.add (.var 51) (.var 62)))⟩,⟨50,0,.int .i64 (.wrap .i64 (.add (.var 50) (.lit 1)))⟩] []).i 50=(k:Int)+1:=by
    show IntKind.i64.wrap (m.i 50+1)=_;rw[f4];exact wrap_i64 ah ah
   have I:(assign m [⟨51,0,.int .i64 (.wrap .i64 (.add (.var 51) (.var 62)))⟩,⟨50,0,.int .i64 (.wrap .i64 (.add (.var 50) (.lit 1)))⟩] []).i 51=yW (r.p.take k)+EG r.p[k]:=by
    show IntKind.i64.wrap (m.i 51+m.i 62)=_;rw[f5,B];exact wrap_i64 ah ah
   refine⟨⟨k+1,by rw[e1];rfl,ah,fun c s=>?_,by rw[I,tk,Hg]⟩,by rw[e1];omega⟩;rw[tk]at s;rcases acg.1 s with s | s
   .exact l c s
   .rw[aaQ]at s;subst s;exact hG
  refine⟨fun v=>⟨ah,fun al=>⟨fun H=>ff fun hf=>?_,fun heq=>fin ⟨v,Or.inr heq⟩⟩,fun h0=>fin ⟨v,Or.inl ah⟩⟩,fun v=>ff fun hf=>v ((d.1 hf).2.2.2.2.1 _ A).1⟩;rcases((d.1 hf).2.2.2.2.1 _ A).2 with h | h
  .omega
  .exact H h
 .have T:k=r.p.length:=ah;subst T;rw[acS]at l t;refine out ?_;simp only[nq,ar,aq,t];exact⟨fun h=>d.2 ⟨ah,ah,ah,ah,l,h⟩,fun h=>(d.1 h).2.2.2.2.2⟩
def CK:(AF 42).OK Tryz.prog:=PY qM mj CL TA rfl rfl rfl zzK
def batch (n:Int):Int:=if n<=1 then 1 else if n<=2 then 2 else if n<=4 then 4 else if n<=8 then 8 else if n<=16 then 16 else if n<=32 then 32 else if n<=64 then 64 else if n<=128 then 128 else if n<=256 then 256 else if n<=512 then 512 else if n<=1024 then 1024 else if n<=2048 then 2048 else if n<=4096 then 4096 else if n<=8192 then 8192 else if n<=16384 then 16384 else if n<=32768 then 32768 else 65536
def Lm (t:Int):Prop:=t=1\/t=2\/t=4\/t=8\/t=16\/t=32\/t=64\/t=128\/t=256\/t=512\/t=1024\/t=2048\/t=4096\/t=8192\/t=16384\/t=32768\/t=65536
def Pf {n t:Int} (h:Lm t) (h1:n<=t) (a:t=1\/t<2*n):batch n=t:=by
 unfold Lm at h;unfold batch
 repeat' split
 all_goals omega
def FG {n:Int} (h:n<=65536):n<=batch n:=by
 unfold batch
 repeat' split
 all_goals omega
def FH (n:Int):1<=batch n/\batch n<=65536:=by
 unfold batch
 repeat' split
 all_goals omega
def Pe (xs:List Value):Value:=.int .i64 (batch (bO xs[0]?))
def sL:Sx.Spec:=rG 41 [.one i64] [.one i64] (fun _=>True) Pe
def Wx:aD Tryz.prog [] 41 where
 Λ:=aA
 args:=(bQ 0 [.one i64]).map .sv
 mem:=[]
 nv:=1
def BB:sL.OK Tryz.prog:=by
 refine ko (Γ:=[]) (fun t b=>by cases b) Wx rfl rfl rfl (fun q _ _=>sY _) (fun q e hN=>⟨fun _ _=>True,fun _ _=>0,?_⟩);have c:Pe (vO [.one i64] q)=.int .i64 (batch (q.i 0)):=rfl;simp only[c];refine aD.read [] [] [] ?_;simp only[go_sem,Nat.reduceAdd,Value.int.injEq];have a:∀ {t:Int},Lm t->q.i 0<=t->(t=1\/t<2*q.i 0)->t=batch (q.i 0):=fun h h1 d=>(Pf h h1 d).symm;have top:65536<q.i 0->(65536:Int)=batch (q.i 0):=fun h=>by
  unfold batch
  repeat' split
  all_goals omega
 unfold Lm at a
 repeat' first | (refine⟨?_,?_⟩) | (intro _)
 all_goals first | (exact a ah ah ah) | (exact top ah)
def CE {Hs K:List Hl} (hp:sL.post [.int .i64 z] Hs [] (.int .i64 v) K F):v=batch z:=by
 have h:Value.int .i64 v=.int .i64 (batch z):=hp;simpa using h
def CD (z:Int):sL.pre [.int .i64 z] [] []:=⟨⟨{Iq with i:=fun _=>z},⟨zzT,zzT⟩,rfl⟩,zzT⟩
def DP (a:Nat) (l:List Int):Hl:=Hl.one a (.cells (aS l).toArray 5 (0,0))
def MI (a n:Nat):Hl.one a (.cells (madeCells #[Value.int .u8 0] n) 5 (0,0))=DP a (List.replicate n 0):=by
 unfold DP aS
 congr 2
 rw[afN];apply Array.ext
 .simp [madeCells]
 .intro i h1 b;simp [madeCells,aem,Nat.mod_one]
def FF (a y:Nat) (l m:List Int):(DP a l).put a y (aS m)=DP a (bm l y m):=by
 unfold DP;rw[Hl.zF];simp [bm,aS]
def O6 (h:0<=a) (l:List Int) (hl:l.length<=maxLen):c9 (DP a.toNat l) 5 (.slice (au a 0) l.length l.length) l:=by
 refine⟨by rw[bN,afB],Or.inr ⟨a.toNat,l.length,(aS l).toArray,by rw[av h];rfl,Hl.aK _ _,ab8 _,hl,by simp [bN],by rw[afB,aeo (by simp [bN])]⟩⟩
def HV {x y:Nat} (h:∀ j z,bs[j]?=some z->R.cell x (y+j)=some (.int .u8 z)):bK R x y bs.length=aS bs:=by
 apply ack;intro j;unfold bK;rw[abl,fJ];by_cases a:j<bs.length
 .rw[acf a,aad a,acr,acr,h j _ (aad a)];rfl
 .rw[abA (by simpa using a),abA ah];rfl
def Uo {n:Nat} (h:bs.length<n):bm (bm (List.replicate n 0) 0 bs) bs.length [(1:Int)]=bs++[1]++List.replicate (n-(bs.length+1)) 0:=by
 obtain⟨k,rfl⟩:∃ k,n=bs.length+(k+1):=⟨n-bs.length-1,ah⟩;unfold bm;simp [List.take_append,List.drop_append];rw[af3 ah,adk]
 congr 1
 omega
noncomputable def sO (ps:List Pc):List Int:=(ps.map Iw).flatten
def SX (r:Rp):List Int:=aF (cI r.c 0).toNat++aF (iJ (cI r.c 1))++aF (iJ (cI r.c 2))++ng (aW r.c 3 6)++aF r.p.length
noncomputable def iW (r:Rp):List Int:=SX r++sO r.p
def de (bs:List Int):List Int:=bs++[1]++List.replicate ((batch ((bs.length:Int)+1)).toNat-(bs.length+1)) 0
def vC (h:c.Good):c.b.length<=2064:=by
 have hp:=h.1.2.2.2.1;unfold iE at hp;rcases h.2 with h | h<;>omega
def Rj (ps:List Pc) (c:Pc):sO (ps++[c])=sO ps++Iw c:=by unfold sO;simp
def abm (hx:cH R1 R2 row c) (h:c.b.length<=4096):((Iw c).length:Int)<=EG c+20:=by
 unfold Iw aB EG;have a1:=iZ hx.hd;have a2:=gx (z:=(bf c.h).length) ah;have a3:=gx (z:=c.b.length) ah;simp only[aaA];omega
def VY (h:∀ c∈ps,c.b.length<=4096/\∃ R1 R2 row,cH R1 R2 row c):((sO ps).length:Int)<=yW ps+20*ps.length:=by
 induction ps with
 | nil=>exact aba _
 | cons c ps ih =>
  obtain⟨hb,R1,R2,row,hx⟩:=h c (acj ..);have h1:=abm hx hb;have f:=ih fun d hd=>h d (abq _ hd);have e:yW (c::ps)=EG c+yW ps:=rfl;have a:sO (c::ps)=Iw c++sO ps:=rfl;rw[e,a,acn,aaA];omega
noncomputable def tV (r:Rp):List Int×Int:=open Classical in if r.Form then(de (iW r),0)else([],1)
noncomputable def EV:Sx.Spec where
 fn:=38
 own:=[]
 rd:=[1000009,4000009]
 res:=[.one .sl,.one (.int .i64)]
 pre:=fun xs Hs Rs=>∃ row R RA r,xs=[.agg row.toArray]/\Rs=[R,RA]/\iR R RA row r
 post:=fun xs Hs Rs v Hs' F=>∀ row R RA r,xs=[.agg row.toArray]->Rs=[R,RA]->iR R RA row r->∃ u,v=.tuple #[u,.int .i64 (tV r).2]/\c9 F 5 u (tV r).1
noncomputable def UL:List Sx.Spec:=[AF 42,nH,qe,BG,kO,sL]
def UM:∀ t∈UL,t.OK Tryz.prog:=ak CK <| ak oY <| ak uH <| ak NX <| ak mO <| ak BB <| bu
def Mb:Nd:=(fun b m j r o q=>(fun a k l n s=>(fun c d f g h i p=>(.ext (.alloc 22) (.and (.pre j) (.ext j (.and (.imp (.not (.bvar 23)) (.post [.ro 20 [.var 9] false,.ro 21 [] true,.dead] (.tup [.one (.sl (.lit (-1)) b b b),.one (.int .i64 (.lit 1))]))) (.imp (.bvar 23) (.ext (.alloc 24) (.and (.pre d) (.ext d (.and (.pre i) (.ext i (.and (.pre h) (.ext h (.and (.pre c) (.ext c (.and (.e (.le b (.var 11))) (.and (.pre f) (.ext f (.and (.inv 0 [⟨50,0,.int .i64 b⟩] [(51,some 33)]) (.havoc 0 0 35 (.and (.imp (.lt q (.var 11)) (.and (.e (.le b (.var 9))) (.and (.e (.le b (.var 10))) (.and (.e (.le b q)) (.and (.e (.hks 20 (.var 9) (.add (.var 10) (.mul q (.lit 126))) oj)) (.ext (.alloc 60) (.and (.pre g) (.ext g (.back 0 0 [⟨50,0,.int .i64 (.wrap .i64 (.add q (.lit 1)))⟩] [(51,some 61)]))))))))) (.imp (.not (.lt q (.var 11))) (.and (.pre p) (.ext p (.and (.imp (.not (.eq (.var 64) b)) (.post [.ro 20 [.var 9] false,.ro 21 [] true,.dead,.hp 51 [] m [],.hp 60 [] [.var 60] []] (.tup [.one (.sl (.lit (-1)) b b b),.one (.int .i64 (.var 64))]))) (.imp (.eq (.var 64) b) (.and (.e (.le b r)) (.and (.pre k) (.ext k (.and (.pre s) (.ext s (.and (.pre l) (.ext l (.and (.e (.le b (.var 66))) (.and (.e (.lt r o)) (.and (.pre n) (.ext n (.post [.ro 20 [.var 9] false,.ro 21 [] true,.dead,.hp 51 [] m [],.hp 60 [] [.var 60] [],.hp 68 [67,66] [.var 66] []] (.tup [.one (.sl (.var 66) b o o),.one (.int .i64 b)]))))))))))))))))))))))))))))))))))))):Nd)) (.call 2 31 [.sv a,.sv (.agg (aj 3 (List.replicate 6 (Ck.int .u64))))] [.hp 29 [27,25] m []] []) (.call 1 25 [.sv a,.sv (.one (.int .u64 (.var 0)))] [.bc 24 [.sl (.lit (-1)) b b b,.bool .ff] 124] []) (.call 1 33 [.sv a,.sv (.one (.int .u64 (.wrap .u64 (.var 11))))] [.hp 31 [29,27,25] m []] []) (.call 3 61 [.sv a,.sv (.agg (pcR 50))] [.hp 51 [] m []] [.ro 21 [] true,.ro 21 [] true]) (.call 1 29 [.sv a,.sv (.one (.int .u64 (.wrap .u64 (.var 2))))] [.hp 27 [25] m []] []) (.call 1 27 [.sv a,.sv (.one (.int .u64 (.wrap .u64 (.var 1))))] [.hp 25 [] m []] []) (.call 4 60 [.sv a] [] [.hp 51 [] m []])) (.one (.hptr (.var 24) b)) (.call 5 65 [.sv (.one (.int .i64 (.wrap .i64 (.add r (.lit 1)))))] [] []) (.cpy 67 66 (.var 66) b o 60 (.var 60) (.var 61) r) (.put 68 67 (.var 66) r [.int .u8 (.lit 1)]) (.mk 66 5 [.int .u8 b] 1 o)) (.lit 0) [.var 24] (.call 0 23 [.sv (.agg (aj 0 N7))] [] [.ro 20 [.var 9] false,.ro 21 [] true]) (.var 62) (.var 65) (.var 50)
noncomputable def YH:aD Tryz.prog UL 38 where
 Λ:=fun p=>if lpF 38 p then some ⟨0,[(35,TI .i64 (.var 50))],[(3,.hp 51 [] [.var 24] [])],60⟩else none
 args:=J2
 mem:=J3
 nv:=22
def abK (f:FuncId):(AF f).res=[.one .bool]:=rfl
def rcQ (n:Nat):(aL n [Cp.one .sl,Cp.one (.int .i64)]≠[])=True:=by simp [aL,Cp.roots,Ck.root]
def abL:kO.res=[.one .sl,.one (.int .i64)]:=rfl
def abM:sL.res=[.one (.int .i64)]:=rfl
def qi (hx:iR R RA (lZ q) r):∀ k,k<9->uJ (((aj 0 N7).map (CV.ev q)).getD k ou):=fun k hk=>hx.rng _ (by
 have hl:k<(lZ q).length:=by rw[show(lZ q).length=10 from rfl];omega
 rw[abv];show(lZ q)[k]?.getD ou∈_;rw[aad hl];exact acK hl)
def EX (hx:iR R RA (lZ J) r):SG [J.i 3,J.i 4,J.i 5,J.i 6,J.i 7,J.i 8]:=by
 have g3:=qi hx 3 ah;have g4:=qi hx 4 ah;have a:=qi hx 5 ah;have b:=qi hx 6 ah;have c:=qi hx 7 ah;have d:=qi hx 8 ah;intro z hz;simp only[aaW,abd,acs]at hz;rcases hz with rfl | rfl | rfl | rfl | rfl | rfl
 .exact g3
 .exact g4
 .exact a
 .exact b
 .exact c
 .exact d
set_option maxRecDepth 10000 in
def Oe:EV.OK Tryz.prog:=by
 refine Spec.jN (Γ:=UL) UM rfl ?_;rintro xs Rs ⟨row,R,RA,r,rfl,rfl,hx⟩;obtain⟨J,rfl,ax,hh⟩:=lY [(20,R),(21,RA)] hx.ok;have hx:iR R RA (lZ J) r:=hx;refine⟨YH,J,fun _ q=>∃ k:Nat,q.i 50=k/\k<=r.p.length/\OP (q.h 51) (q.i 24) (SX r++sO (r.p.take k)) (100+5048*k),fun _ q=>(r.p.length-q.i 50).toNat,rfl,aT rfl (by show [J.h 20,J.h 21]=_;rw[hh,hh];rfl),rfl,?_⟩;refine aD.lit (x:=Mb) ?_;have m:J.h 20=R:=hh 20;have M:J.h 21=RA:=hh 21;obtain⟨C,aL,X⟩:=Mc ax;have Gs:=hx.ps;rw[Sb]at Gs;obtain⟨hlen,Y⟩:=Gs.at C;have hlen:J.i 11=r.p.length:=ah;obtain⟨c0,c1,c2,c3,c4,c5,c6,c7,c8⟩:=hx.n;have u0:0<=J.i 0/\J.i 0<18446744073709551616:=qi hx 0 ah;have uv:=EX hx;have eA:SX r=aF (J.i 0).toNat++aF (iJ (J.i 1))++aF (iJ (J.i 2))++ng [J.i 3,J.i 4,J.i 5,J.i 6,J.i 7,J.i 8]++aF r.p.length:=by
  unfold SX;rw[c0,c1,c2,show aW r.c 3 6=[cI r.c 3,cI r.c 4,cI r.c 5,cI r.c 6,cI r.c 7,cI r.c 8]from rfl,c3,c4,c5,c6,c7,c8]
 have out:∀ {q:Env} {mem:Mem} {x y l c e:E} {f:List Nat},Db mem [] f=true->(-1<=aw q x/\0<=aw q y/\0<=aw q l/\0<=aw q c)->aw q e=(tV r).2->c9 (uY q mem f) 5 (.slice (au (aw q x) (aw q y)) (aw q l).toNat (aw q c).toNat) (tV r).1->postOf EV [.agg (lZ J).toArray] [] [R,RA] q mem (.tup [.one (.sl x y l c),.one (.int .i64 e)]):=by
  intro q mem x y l c e f hok hn he O _;refine⟨[],f,rfl,hok,⟨{Iq with i:=fun k=>[aw q x,aw q y,aw q l,aw q c,aw q e].getD k 0},rfl,hn,zzT,zzT⟩,fun row' R' aM r' e1 e2 ay=>?_⟩;simp only[aae,Value.agg.injEq,abw]at e1 e2;obtain⟨rfl,rfl⟩:=e2;obtain rfl:=ab1 e1;obtain rfl:=hx.uniq ay;exact⟨_,by rw[<-he];rfl,O⟩
 unfold Mb;simp only[go_sem,Nat.reduceAdd,UL,abK,S9,Wg,Zm,abL,abM,U7,rcQ];intro q1 g1 _;rw[show(aj 0 N7).map (CV.ev q1)=lZ J from my g1 (adg zzK),g1.h 20,g1.h 21,m,M];refine⟨⟨_,R,RA,r,rfl,rfl,hx⟩,fun q2 g2 ⟨F2,az,_⟩=>?_⟩;have hF:=az _ R RA r rfl rfl hx;have hF:(q2.b 23=true)=r.Form:=bvT (by rw[hF];simp);have G2:ai 22 J q2:=g1.tr g2;rw[hF];refine⟨fun hf=>?_,fun hf q3 g3 p3=>?_⟩
 .have e:tV r=([],1):=by unfold tV;rw[aa8 hf]
  exact out (f:=[]) rfl ⟨aba _,aba _,aba _,aba _⟩ (by rw[e];rfl) (by rw[e];exact rz _ _)
 have G3:ai 22 J q3:=G2.tr g3;have P3:OP (Hl.one (q3.i 24).toNat (Obj.cells #[Value.slice (au (-1) 0) (Int.toNat 0) (Int.toNat 0),Value.bool (aY q3 E.ff)] 124 (0,0))) (q3.i 24) [] 0:=OP.new p3;rw[G3.i 0];refine qC P3 ah ah u0 fun q4 g4 P4=>?_;have G4:ai 22 J q4:=G3.tr g4;rw[G4.i 1];refine qC P4 ah ah (u64_in _) fun q5 g5 P5=>?_;have G5:ai 22 J q5:=G4.tr g5;rw[G5.i 2];refine qC P5 ah ah (u64_in _) fun q6 g6 P6=>?_;have G6:ai 22 J q6:=G5.tr g6;rw[show(aj 3 (List.replicate 6 (Ck.int .u64))).map (CV.ev q6)=us [J.i 3,J.i 4,J.i 5,J.i 6,J.i 7,J.i 8]from (my G6 (adg zzK)).trans rfl];refine Y4 P6 ah ah rfl uv fun q7 g7 P7=>?_;have G7:ai 22 J q7:=G6.tr g7;have aN:r.p.length<=8:=hf.2.2.2.1;have u:∀ c∈r.p,c.Good:=hf.2.2.2.2.1;have ew:IntKind.u64.wrap (J.i 11)=(r.p.length:Int):=by rw[hlen,m9 ah ah]
 rw[G7.i 11,ew];refine⟨ah,qC P7 ah ah ⟨ah,ah⟩ fun Z g8 P8=>?_⟩;have G8:ai 22 J Z:=G7.tr g8;have P8:OP (Z.h 33) (Z.i 24) (SX r) 100:=by
  rw[eA];exact P8
 refine⟨⟨0,rfl,acP _,?_⟩,fun q9 g9 ⟨k,ek,hk,O⟩=>?_⟩
 .show OP (Z.h 33) (Z.i 24) _ _;rw[afD,show sO []=[]from rfl,acD];exact P8
 have v:ai 22 J q9:=G8.tr g9;rw[v.i 9,v.i 10,v.i 11,hlen,ek,v.h 20,m];refine⟨fun aO=>?_,fun aP=>?_⟩
 .have ot:k<r.p.length:=ah;have aa:r.p[k]?=some r.p[k]:=aad ot;obtain⟨row,D⟩:=Y k _ aa;have r1:=(D.rows C (q:=q9) (by rw[v.h 20,m]) (v.i 9) (v.i 10) ek).1;rw[v.h 20,v.i 9,v.i 10,ek,m]at r1;refine⟨D.x0,C,ah,r1,fun d s _=>?_⟩;have F:ai 22 J d:=v.tr s;have r2:=(D.rows C (q:=d) (by rw[F.h 20,m]) (F.i 9) (F.i 10) (by rw[s.i 50,ek])).2.1;rw[r2,F.h 21,M,s.h 51];have ab:OP (q9.h 51) (d.i 24) (SX r++sO (r.p.take k)) (100+5048*k):=O.to s ah;refine pcP ab ah ah D.pc (acA (vC (u _ (acK ot))) ah) fun t w aA=>?_;have tk:r.p.take (k+1)=r.p.take k++[r.p[k]]:=by rw[adB,aa];rfl
  have ad:IntKind.i64.wrap (t.i 50+1)=(k:Int)+1:=by rw[w.i 50,s.i 50,ek];exact wrap_i64 ah ah
  refine⟨⟨k+1,ad,ah,?_⟩,?_⟩
  .show OP (t.h 61) (t.i 24) _ _;rw[tk,Rj,<-abS];exact aA.upto ah
  .show((r.p.length:Int)-IntKind.i64.wrap (t.i 50+1)).toNat<_;rw[ad];omega
 .have aB:k=r.p.length:=ah;subst aB;rw[acS]at O;have O:OP (q9.h 51) (q9.i 24) (iW r) (100+5048*r.p.length):=O;have hL:(iW r).length<=16000:=by
   have a1:=P8.len;have a2:=VY (ps:=r.p) fun c W=>by
    obtain⟨j,hj⟩:=acU.1 W;obtain⟨aC,aE⟩:=Y j _ hj;exact⟨acA (vC (u c W)) ah,RA,RA,aC,aE.pc⟩
   have a3:=hf.2.2.2.2.2;unfold iW;rw[aaA];omega
  refine⟨⟨_,_,_,_,rfl,rfl,O.out,ah⟩,fun d s ⟨aQ,ae,af,g⟩=>?_⟩;obtain⟨hB,hE⟩:=Eb O.out ae;have eR:lj (iW r) false=(iW r,0):=by unfold lj;rw[aa8 (by simp;omega)]
  rw[eR]at hB hE;rw[<-af zzT]at hB;have hB:c9 (d.h 60) 5 (.slice (au (d.i 60) (d.i 61)) (d.i 62).toNat (d.i 63).toNat) (iW r):=hB;have aG:d.i 64=0:=by simpa using hE
  have g:-1<=d.i 60/\0<=d.i 61/\0<=d.i 62/\0<=d.i 63:=g.1;obtain⟨ag,Q⟩:=hB.rd.at g.1 g.2.1 g.2.2.1;refine⟨fun h=>absurd aG h,fun _=>⟨ah,?_⟩⟩;have aH:IntKind.i64.wrap (d.i 62+1)=((iW r).length:Int)+1:=by rw[ag];exact wrap_i64 ah ah
  rw[aH];refine⟨CD _,fun t w ⟨aR,ak,_⟩=>?_⟩;have S:t.i 65=batch ((iW r).length+1):=CE ak;have b1:=FG (n:=((iW r).length:Int)+1) ah;have b2:=FH (((iW r).length:Int)+1);obtain⟨N,hN⟩:∃ N:Nat,batch (((iW r).length:Int)+1)=N:=⟨(batch (((iW r).length:Int)+1)).toNat,ah⟩;rw[hN]at S b1 b2;refine⟨⟨ah,ah,ah⟩,fun a H ⟨al,I⟩=>?_⟩;have P:a.i 62=(iW r).length:=by rw[H.i 62,w.i 62,ag]
  have an:a.i 65=N:=by rw[H.i 65,S]
  have I:a.h 66=DP (a.i 66).toNat (List.replicate N 0):=by
   rw[I,<-MI,S]
   congr 2
  have ao:(min (a.i 62) (a.i 65)).toNat=(iW r).length:=ah;have aq:(iW r)=[]\/0<=a.i 60/\∀ j z,(iW r)[j]?=some z->(a.h 60).cell (a.i 60).toNat ((a.i 61).toNat+j)=some (.int .u8 z):=by
   have G:ai 65 d a:=w.tr H;rw[G.i 60,G.i 61,G.h 60];exact Q.imp (·.2) id
  have X:0<=a.i 61:=by rw[H.i 61,w.i 61];exact g.2.1
  refine⟨⟨⟨al,aba _,ah,ah⟩,⟨(aS (List.replicate N 0)).toArray,5,by rw[I];exact Hl.aK _ _,by simp [bN];omega⟩,?_⟩,fun T U K=>?_⟩
  .rcases aq with h0 | ⟨aI,W⟩
   .left;rw[P,h0];simp;omega
   .exact Or.inr ⟨aI,X,dd W ah⟩
  rw[ao,I]at K;have ar:bK (a.h 60) (a.i 60).toNat (a.i 61).toNat (iW r).length=aS (iW r):=by
   rcases aq with h0 | ⟨_,W⟩
   .rw[h0];rfl
   .exact HV W
  rw[ar,FF]at K;have L:T.i 66=a.i 66:=U.i 66;have av:T.i 62=(iW r).length:=by rw[U.i 62,P]
  have V:T.i 65=N:=by rw[U.i 65,an]
  refine⟨ah,ah,⟨ah,ah,?_⟩,fun o A B=>?_⟩
  .rw[K,L,av];unfold Hl.wr DP;rw[Hl.aK];simp [bN,bm];omega
  .rw[K,L,av,aac]at B;have B:o.h 68=(DP (a.i 66).toNat (bm (List.replicate N 0) 0 (iW r))).put (a.i 66).toNat (iW r).length (aS [1]):=B;rw[FF,Uo ah]at B;have e:tV r=(de (iW r),0):=by unfold tV;rw[ab9 hf]
   have ep:de (iW r)=iW r++[1]++List.replicate (N-((iW r).length+1)) 0:=by unfold de;rw[hN,aac]
   have el:(de (iW r)).length=N:=by rw[ep];simp;omega
   refine out (f:=[5]) rfl ⟨by show -1<=o.i 66;rw[A.i 66,L];omega,aba _,by show 0<=o.i 65;rw[A.i 65,V];omega,by show 0<=o.i 65;rw[A.i 65,V];omega⟩ (by rw[e];rfl) ?_;rw[e];show c9 (bY [o.h 68]) _ (.slice (au (o.i 66) 0) (o.i 65).toNat (o.i 65).toNat) _;rw[aJ,B,A.i 66,L,A.i 65,V,aac,<-ep];have:=O6 al (de (iW r)) (by rw[el];unfold maxLen;omega);rw[el]at this;exact this
structure Trim (bs:List Int) (k:Nat):Prop where
 le:k<=bs.length
 tB:∀ j z,k<=j->bs[j]?=some z->z=0
 last:k=0\/∃ z,bs[k-1]?=some z/\z≠0
def EE (X:List Int):(de X)[X.length]?=some 1/\(∀ j z,X.length<j->(de X)[j]?=some z->z=0):=by
 unfold de;refine⟨by rw[acb aC];simp,fun j z a hz=>?_⟩;rw[abO (by simp;omega),aem]at hz;split at hz
 .exact(acE hz).symm
 .cases hz
def LK (X:List Int) (h:X.length+1<=65536):((de X).length:Int)=batch ((X.length:Int)+1):=by
 have:=FG (n:=(X.length:Int)+1) ah;unfold de;simp only[aaA,acz,acn,acO];omega
def Trim.pad (h:Trim (de X) k):k=X.length+1:=by
 obtain⟨h1,b⟩:=EE X;rcases Nat.lt_trichotomy k (X.length+1)with hk | hk | hk
 .have:=h.tB X.length 1 ah h1;omega
 .exact hk
 .rcases h.last with h0 | ⟨z,hz,a⟩
  .omega
  .exact absurd (b (k-1) z ah hz) a
def Trim.un (h:Trim bs k) (hk:0<k) (h1:bs[k-1]?=some 1) (hl:(bs.length:Int)=batch k):de (bs.take (k-1))=bs:=by
 have hle:=h.le;have e1:(bs.take (k-1)).length=k-1:=by rw[ace];omega
 have b:bs.drop k=List.replicate (bs.length-k) 0:=by
  apply ack;intro j;rw[acR,aem];split
  .rename_i d;have hb:bs[k+j]?=some bs[k+j]:=aad ah;rw[hb,h.tB (k+j) _ ah hb]
  .exact abA ah
 have c:bs.drop (k-1)=1::bs.drop k:=by
  have a:k-1<bs.length:=ah;rw[afC a];have:bs[k-1]=1:=by rw[aad a]at h1;exact acE h1
  rw[this,show k-1+1=k by omega]
 unfold de;rw[e1,show(((k-1:Nat):Int)+1)=(k:Int)by omega,<-hl,show k-1+1=k by omega,aac,<-b,abS];show bs.take (k-1)++(1::bs.drop k)=bs;rw[<-c,afz]
def mQ:Nat->PS->PS
 | 0,s=>s
 | k+1,s=>mQ k (LJ s)
def Dg:∀ (k:Nat) (s:PS),mQ (k+1) s=LJ (mQ k s)
 | 0,_=>rfl
 | k+1,s=>by show mQ (k+1) (LJ s)=LJ (mQ k (LJ s));exact Dg k _
def S0 (s:PS) (c:Pc):Prop:=OY (fX 4096 s) c.h/\c.b=fX 4096 (im 4096 s)
def lJ (s:PS) (ps:List Pc):Prop:=∀ j c,ps[j]?=some c->S0 (mQ j s) c
def lJ.cons (h:lJ s (c::ps)):S0 s c/\lJ (LJ s) ps:=⟨h 0 c rfl,fun j d hd=>h (j+1) d hd⟩
def lJ.snoc (h:lJ s ps) (e:S0 (mQ ps.length s) c):lJ s (ps++[c]):=by
 intro j d hd;rcases acN j ps.length with a | a
 .rw[acb a]at hd;exact h j d hd
 .rw[abO a]at hd;have b:j-ps.length=0:=by
   rcases afr (j-ps.length)with h0 | h0
   .exact h0
   .rw[abA (by simp;omega)]at hd;cases hd
  rw[b]at hd;have hd:c=d:=by simpa using hd
  subst hd;rw[show j=ps.length by omega];exact e
def OY.form {h:Hd} (hp:OY t h) (hf:h.Form):fH h=t:=by
 rcases hp with ⟨_,e⟩ | ⟨e,_⟩
 .exact e
 .rw[e]at hf;exact absurd hf XA
def pJ {h:Hd} (hf:h.Form):bf h=fH h:=by unfold bf;rw[ab9 hf]
def abp:∀ (ps:List Pc) (s:PS),al s.l->(mQ ps.length s).bad=false->(∀ c∈ps,c.h.Form)->lJ s ps->s.bad=false/\s.l=sO ps++(mQ ps.length s).l
 | [],s,_,h,_,_=>⟨h,rfl⟩
 | c::ps,s,hb,h,hf,ho=>by
  obtain⟨a,f⟩:=ho.cons;have b1:al (im 4096 s).l:=(wN hb).1;obtain⟨a1,a2⟩:=abp ps (LJ s) (wN b1).1 h (fun d hd=>hf d (abq _ hd)) f;obtain⟨a3,a4,_,_⟩:=V5 b1 a1;obtain⟨a5,g,_,_⟩:=V5 hb a3;refine⟨a5,?_⟩;have b:=hf c (acj ..);have e:sO (c::ps)=Iw c++sO ps:=rfl;have e1:Iw c=aB (fX 4096 s)++aB (fX 4096 (im 4096 s)):=by
   unfold Iw;rw[pJ b,a.1.form b,a.2]
  rw[g,a4,e,e1];show _++(_++(LJ s).l)=_;rw[a2,abS,abS];rfl
def LO:∀ (ps:List Pc),(∀ c∈ps,c.Good/\(fH c.h).length<=4096)->∀ j,j<=ps.length->mQ j ⟨sO ps,false⟩=⟨sO (ps.drop j),false⟩/\∀ c,ps[j]?=some c->fX 4096 (mQ j ⟨sO ps,false⟩)=fH c.h/\fX 4096 (im 4096 (mQ j ⟨sO ps,false⟩))=c.b
 | [],_,j,a=>by
  obtain rfl:j=0:=by simpa using a
  exact⟨rfl,fun c f=>by cases f⟩
 | c::ps,h,j,a=>by
  obtain⟨hg,hl⟩:=h c (acj ..);have g:=vC hg;have e:sO (c::ps)=aB (fH c.h)++(aB c.b++sO ps):=by
   show Iw c++sO ps=_;unfold Iw;rw[pJ hg.1,abS]
  obtain⟨t1,t2⟩:=SC (m:=4096) (b:=fH c.h) (t:=aB c.b++sO ps) ah hl;obtain⟨t3,t4⟩:=SC (m:=4096) (b:=c.b) (t:=sO ps) ah ah;have hs:LJ ⟨sO (c::ps),false⟩=⟨sO ps,false⟩:=by rw[e];show im 4096 (im 4096 _)=_;rw[t1,t3]
  match j with
  | 0=>exact⟨rfl,fun d hd=>by
   have hd:c=d:=by simpa using hd
   subst hd;show fX 4096 ⟨sO (c::ps),false⟩=_/\fX 4096 (im 4096 ⟨sO (c::ps),false⟩)=_;rw[e,t1];exact⟨t2,t4⟩⟩
  | j+1 =>
   have:=LO ps (fun d hd=>h d (abq _ hd)) j (by simpa using a);show mQ j (LJ _)=_/\_;rw[hs];exact⟨this.1,fun d hd=>by show fX 4096 (mQ j (LJ _))=_/\fX 4096 (im 4096 (mQ j (LJ _)))=_;rw[hs];exact this.2 d hd⟩
def Hu (b:List Int):PS:=gL 18446744073709551615 ⟨b,false⟩
def JY (b:List Int):PS:=gL 3 (Hu b)
def Yw (b:List Int):PS:=gL 14 (JY b)
def UU (b:List Int):PS:=(ga 1048576 6 (Yw b)).2
def L7 (b:List Int):List Int:=(ga 1048576 6 (Yw b)).1
def Hv (b:List Int):PS:=gL 8 (UU b)
def zJ (b:List Int):Nat:=(aI 8 (UU b)).toNat
def AG (b:List Int) (u:Value):List Value:=[.int .u64 (aI 18446744073709551615 ⟨b,false⟩),.int .i64 (aI 3 (Hu b)),.int .i64 (aI 14 (JY b))]++us (L7 b)++[u]
def PZ (b:List Int):∃ a0 a1 a2 a3 a4 a5,L7 b=[a0,a1,a2,a3,a4,a5]:=by
 have h:(L7 b).length=6:=GP 6 _
 match L7 b,h with
 | [a0,a1,a2,a3,a4,a5],_=>exact⟨a0,a1,a2,a3,a4,a5,rfl⟩
structure GR (b:List Int) (r:Rp):Prop where
 c0:cI r.c 0=aI 18446744073709551615 ⟨b,false⟩
 c1:cI r.c 1=aI 3 (Hu b)
 c2:cI r.c 2=aI 14 (JY b)
 hs:aW r.c 3 6=L7 b
 n:r.p.length=zJ b
def TM {u:Value} (hx:iR R RA (AG b u) r) (hn:r.p.length=zJ b):GR b r:=by
 obtain⟨a0,a1,a2,a3,a4,a5,e⟩:=PZ b;refine⟨hx.I az,hx.I az,hx.I az,?_,hn⟩;show [cI r.c 3,cI r.c 4,cI r.c 5,cI r.c 6,cI r.c 7,cI r.c 8]=_;rw[hx.I az,hx.I az,hx.I az,hx.I az,hx.I az,hx.I az,e];unfold AG;rw[e];rfl
def Yt (hb:al b) (hg:GR b r) (ho:lJ (Hv b) r.p) (hf:∀ c∈r.p,c.h.Form) (h1:(mQ (zJ b) (Hv b)).bad=false) (g:(mQ (zJ b) (Hv b)).l=[]):iW r=b:=by
 have i:al (Hu b).l:=bS hb;have j:al (JY b).l:=bS i;have k:al (Yw b).l:=bS j;have m:al (UU b).l:=LC 6 _ k;have o:al (Hv b).l:=bS m;rw[<-hg.n]at h1 g;obtain⟨a1,a2⟩:=abp r.p (Hv b) o h1 hf ho;rw[g,acD]at a2;obtain⟨a3,a4,n0,n1,_⟩:=rm m a1;obtain⟨a5,e⟩:=VT 6 (Yw b) k a3;obtain⟨q,f,k0,k1,_⟩:=rm j a5;obtain⟨t,a,u,v,_⟩:=rm i q;obtain⟨_,d,w,m1,m2⟩:=rm (s:=⟨b,false⟩) hb t;have d:b=aF (aI 18446744073709551615 ⟨b,false⟩).toNat++(Hu b).l:=d;have a:(Hu b).l=aF (aI 3 (Hu b)).toNat++(JY b).l:=a;have f:(JY b).l=aF (aI 14 (JY b)).toNat++(Yw b).l:=f;have e:(Yw b).l=ng (L7 b)++(UU b).l:=e;have a4:(UU b).l=aF (zJ b)++(Hv b).l:=a4;unfold iW SX;rw[hg.c0,hg.c1,hg.c2,hg.hs,hg.n,gz u ah,gz k0 ah]
 conv=>rhs;rw[d,a,f,e,a4,a2]
 simp only[abS]
def lJ.same (hg:∀ c∈ps,c.Good/\(fH c.h).length<=4096) (hs:s=⟨sO ps,false⟩) (hx:∀ c∈ps,∃ R row,br R row c.h) (d:∀ c∈ps',∃ R row,br R row c.h) (ho:lJ s ps') (hl:ps'.length=ps.length):ps'=ps:=by
 subst hs;apply afl hl;intro j f a;have e1:ps'[j]?=some ps'[j]:=aad f;have k:ps[j]?=some ps[j]:=aad a;obtain⟨o1,o2⟩:=ho j _ e1;obtain⟨v1,v2⟩:=(LO ps hg j ah).2 _ k;rw[v1]at o1;rw[v2]at o2;obtain⟨R,row,g⟩:=hx ps[j] (acK a);obtain⟨R',row',e⟩:=d ps'[j] (acK f);have i:=(hg ps[j] (acK a)).1.1;have hh:ps'[j].h=ps[j].h:=by
  rcases o1 with ⟨f1,f2⟩ | ⟨_,f2⟩
  .exact Xv e f1 g i f2
  .exact absurd rfl (f2 R row ps[j].h g i)
 cases hp:ps'[j]with
 | mk h b =>
  cases l:ps[j]with
  | mk h' b' =>
   rw[hp,l]at hh o2;simp only at hh o2;rw[hh,o2]
def JX (hx:iR R RA row r) (hf:r.Form) :
 aI 18446744073709551615 ⟨iW r,false⟩=cI r.c 0/\aI 3 (Hu (iW r))=cI r.c 1/\aI 14 (JY (iW r))=cI r.c 2/\L7 (iW r)=aW r.c 3 6/\zJ (iW r)=r.p.length/\Hv (iW r)=⟨sO r.p,false⟩/\(∀ c∈r.p,c.Good/\(fH c.h).length<=4096)/\(∀ c∈r.p,∃ R row,br R row c.h):=by
 obtain⟨⟨f1,f2⟩,⟨f3,f4⟩,hs,w,a,_⟩:=id hf;obtain⟨J,l,_,_⟩:=lY (ks:=N7) [] hx.ok;have d:iR R RA (lZ J) r:=by rw[l]at hx;exact hx
 obtain⟨c0,c1,c2,c3,x,y,c6,c7,A⟩:=d.n;have G:0<=J.i 0/\J.i 0<18446744073709551616:=qi d 0 ah;have B:=EX d;obtain⟨rows,C,hlen,o⟩:=hx.ps;have g:∀ c∈r.p,∃ R row,cH R R row c:=fun c b=>by
  obtain⟨j,u⟩:=acU.1 b;have D:=(aaG.1 u).1;exact⟨RA,_,o j _ c (aad ah) u⟩
 have k:aW r.c 3 6=[J.i 3,J.i 4,J.i 5,J.i 6,J.i 7,J.i 8]:=by
  show [cI r.c 3,cI r.c 4,cI r.c 5,cI r.c 6,cI r.c 7,cI r.c 8]=_;rw[c3,x,y,c6,c7,A]
 have e:iW r=aF (cI r.c 0).toNat++(aF (cI r.c 1).toNat++(aF (cI r.c 2).toNat++(ng (aW r.c 3 6)++(aF r.p.length++sO r.p)))):=by
  unfold iW SX;rw[gz (z:=cI r.c 1) ah ah,gz (z:=cI r.c 2) ah ah];simp only[abS]
 have hv:∀ v∈aW r.c 3 6,0<=v/\v<=1048576/\v<18446744073709551616:=fun v hv=>by
  have h1:=B v (by rw[<-k];exact hv);refine⟨h1.1,?_,h1.2⟩;unfold qQ at hs;have hv:v∈[cI r.c 3,cI r.c 4,cI r.c 5,cI r.c 6,cI r.c 7,cI r.c 8]:=hv;simp only[aaW,abd,acs]at hv;omega
 obtain⟨s1,t1⟩:=jh (s:=⟨iW r,false⟩) (m:=18446744073709551615) (z:=(cI r.c 0).toNat) (by rw[e]) ah ah;have s1:Hu (iW r)=_:=s1;obtain⟨s2,t2⟩:=jh (m:=3) s1 ah ah;have s2:JY (iW r)=_:=s2;obtain⟨q,t3⟩:=jh (m:=14) s2 ah ah;have q:Yw (iW r)=_:=q;have t:=JG (m:=1048576) (aW r.c 3 6) (aF r.p.length++sO r.p) hv;rw[<-q,show(aW r.c 3 6).length=6 from rfl]at t;have E:UU (iW r)=⟨aF r.p.length++sO r.p,false⟩:=by unfold UU;rw[t]
 obtain⟨F,t6⟩:=jh (m:=8) E ah ah;have f:∀ c∈r.p,(fH c.h).length<=4096:=fun c b=>by
  obtain⟨R',row',hI⟩:=g c b;have:=iZ hI.hd;rw[pJ (a c b).1]at this;omega
 refine⟨by rw[t1];omega,by rw[t2];omega,by rw[t3];omega,by unfold L7;rw[t],by unfold zJ;rw[t6];omega,F,fun c b=>⟨a c b,f c b⟩,fun c b=>by obtain⟨R',row',hI⟩:=g c b;exact⟨R',_,hI.hd⟩⟩
def R4 (hx:iR R RA row r) (hf:r.Form):(iW r).length<=16000:=by
 obtain⟨⟨f1,f2⟩,⟨f3,f4⟩,hs,l,a,g⟩:=id hf;obtain⟨J,e,_,_⟩:=lY (ks:=N7) [] hx.ok;have b:iR R RA (lZ J) r:=by rw[e]at hx;exact hx
 obtain⟨c0,c1,c2,c3,m,o,c6,c7,q⟩:=b.n;have v:0<=J.i 0/\J.i 0<18446744073709551616:=qi b 0 ah;have s:=EX b;obtain⟨rows,t,hlen,f⟩:=hx.ps;have a2:=VY (ps:=r.p) fun c h=>by
  obtain⟨j,k⟩:=acU.1 h;have u:=(aaG.1 k).1;exact⟨acA (vC (a c h)) ah,RA,RA,_,f j _ c (aad ah) k⟩
 have d:aW r.c 3 6=[J.i 3,J.i 4,J.i 5,J.i 6,J.i 7,J.i 8]:=by
  show [cI r.c 3,cI r.c 4,cI r.c 5,cI r.c 6,cI r.c 7,cI r.c 8]=_;rw[c3,m,o,c6,c7,q]
 have b2:=Fi (vs:=[J.i 3,J.i 4,J.i 5,J.i 6,J.i 7,J.i 8]) rfl s;rw[<-d]at b2;have b0:=gx (z:=(cI r.c 0).toNat) ah;have b1:=gx (z:=iJ (cI r.c 1)) (by rw[gz ah ah];omega);have w:=gx (z:=iJ (cI r.c 2)) (by rw[gz ah ah];omega);have x:=gx (z:=r.p.length) ah;unfold iW SX;simp only[aaA];omega
end Go.Proofs.YtbdikjnpbnobcaaGreatDoor
namespace Go.Sx
open Go
end Go.Sx
namespace Go.Proofs.YtbdikjnpbnobcaaGreatDoor
open Go Go.Sx Go.Pk
variable {e:E}{B F G R:Hl}{c id' l x y:Int}{bs cur cur':List Int}{ps:List Pc}{u u' v:Value}
def Iu (F:Hl) (v:Value) (ps:List Pc):Prop:=∃ rows,pF F 40 oj v rows/\rows.length=ps.length/\∀ (j:Nat) row p,rows[j]?=some row->ps[j]?=some p->cH (F.but v.ownBlock) (F.but v.ownBlock) row p
def Iu.rd (h:Iu F v ps):js F F v ps:=by
 obtain⟨rows,h1,a,b⟩:=h;exact⟨rows,h1.rd,a,fun j row p hr hp=>(b j row p hr hp).mono (Hl.Pr _ _) (Hl.Pr _ _)⟩
def Iu.nil (F:Hl):Iu F (.slice none 0 0) []:=⟨[],pF.nil _ _ _,rfl,fun j row p h=>by simp at h⟩
def Iu.snoc {A:Hl} {x1 c1:Int} {row:List Value} {p:Pc} (h:Iu A (.slice (au x 0) l.toNat c.toNat) ps) (hl:l=ps.length) (hd:A.bq B) (hu:cH B B row p) (f:-1<=x1)
 (happ:∀ xs,aO (A.un B) 40 126 (.slice (au x 0) l.toNat c.toNat) l.toNat xs->aO G 40 126 (.slice (au x1 0) (l.toNat+1) c1.toNat) (l.toNat+1) (xs++row))
 (hk:∀ b,(A.un B).mem b->some b≠(Value.slice (au x 0) l.toNat c.toNat).ownBlock->G b=(A.un B) b) (hnew:some x1.toNat=(Value.slice (au x 0) l.toNat c.toNat).ownBlock\/¬(A.un B).mem x1.toNat\/x1= -1):Iu G (.slice (au x1 0) (l+1).toNat c1.toNat) (ps++[p]):=by
 obtain⟨rows,⟨g,d⟩,hlen,hp⟩:=h;have ho:pF (A.un B) 40 oj (.slice (au x 0) l.toNat c.toNat) rows:=⟨g,d.mono (Hl.aV _ _)⟩;have hkeep:((A.un B).but (Value.slice (au x 0) l.toNat c.toNat).ownBlock).le (G.but (Value.slice (au x1 0) (l+1).toNat c1.toNat).ownBlock):=Hl.FI hk (KG f hnew);have hB:B.le ((A.un B).but (Value.slice (au x 0) l.toNat c.toNat).ownBlock):=fun b o hb=>by
  have hm:B.mem b:=by unfold Hl.mem;rw[hb];rfl
  unfold Hl.but;rw[aa8 fun e=>hd b ⟨d.EC e.symm,hm⟩];exact Hl.bg hd b o hb
 have hA:(A.but (Value.slice (au x 0) l.toNat c.toNat).ownBlock).le ((A.un B).but (Value.slice (au x 0) l.toNat c.toNat).ownBlock):=Hl.FI (fun b hm _=>by
  obtain⟨o,ho⟩:=acH.1 hm;rw[Hl.qu ho,ho]) (fun _ _ h=>h)
 refine⟨rows++[row],pF.app ho ah hu.ok happ,by simp [hlen],fun j r q hr a=>?_⟩;rcases acN j rows.length with i | i
 .rw[acb i]at hr;rw[acb ah]at a;have:=hp j r q hr a;exact(this.mono hA hA).mono hkeep hkeep
 .rw[abO i]at hr;rw[abO ah]at a;have hr:=aah hr;have a:=aah a;rw[aaQ]at hr a;subst hr;subst a;exact(hu.mono hB hB).mono hkeep hkeep
def Iu.pre {A:Hl} (h:Iu A (.slice (au x 0) l.toNat c.toNat) ps) (hl:l=ps.length):∃ xs,aO (A.un B) 40 126 (.slice (au x 0) l.toNat c.toNat) l.toNat xs:=by
 obtain⟨rows,ho,hlen,_⟩:=h;exact⟨_,(pF.pre ho ah).mono (Hl.aV _ _)⟩
def gC:List CV:=[.int .u64 (.var 83),.int .i64 (.wrap .i64 (.var 85)),.int .i64 (.wrap .i64 (.var 87))]++aj 89 (List.replicate 6 (Ck.int .u64))++[.sl (.var 153) (.lit 0) (.var 154) (.var 155)]
def gZ:List CV:=[.int .u64 (.lit 0),.int .i64 (.lit 0),.int .i64 (.lit 0),.int .u64 (.lit 0),.int .u64 (.lit 0),.int .u64 (.lit 0),.int .u64 (.lit 0),.int .u64 (.lit 0),.int .u64 (.lit 0),.sl (.lit (-1)) (.lit 0) (.lit 0) (.lit 0)]
def abN:List Value:=[.int .u64 0,.int .i64 0,.int .i64 0,.int .u64 0,.int .u64 0,.int .u64 0,.int .u64 0,.int .u64 0,.int .u64 0,.slice none 0 0]
def Up (b:List Int) (v:Value) (F:Hl):Prop :=
 (∃ row r,v=.tuple #[.agg row.toArray,.int .i64 0]/\iR F F row r/\r.Form/\de (iW r)=b) \/
 (v=.tuple #[.agg abN.toArray,.int .i64 2]/\∀ R RA row r,iR R RA row r->r.Form->de (iW r)≠b)
noncomputable def EW:Sx.Spec where
 fn:=12
 own:=[]
 rd:=[0]
 res:=[.agg N7,.one (.int .i64)]
 pre:=fun xs Hs Rs=>∃ (x y:Int) (c:Nat) (bs:List Int) (R:Hl),xs=[.slice (au x y) bs.length c]/\Rs=[R]/\fE R (.slice (au x y) bs.length c) bs/\0<=y/\bs.length<=c/\al bs/\bs.length<=1000000
 post:=fun xs Hs Rs v Hs' F=>∀ u bs R,xs=[u]->Rs=[R]->fE R u bs->Up bs v F
noncomputable def U2:List Sx.Spec:=[qg,fe,po,wK,tQ,AF 42,sL]
def U3:∀ t∈U2,t.OK Tryz.prog:=ak pe <| ak zE <| ak yM <| ak Ks <| ak wh <| ak CK <| ak BB <| bu
noncomputable def YI:aD Tryz.prog U2 12 where
 Λ:=fun p=>if lpF 95 p then some ⟨0,[(0,.sv (.one (.sl (.var 0) (.var 1) (.var 50) (.var 3))))],[],60⟩else if cutAt p [12,1,0]then some ⟨1,[(4,.sv (.one (.sl (.var 0) (.var 1) (.var 70) (.var 3))))],[],80⟩else if lpF 12 p then some ⟨2,[(48,TI .u64 (.var 150))],[(2,.hp 151 [] [.var 81] []),(3,.bc 95 gC 53),(4,.hp 156 [] [.var 153] [])],160⟩else none
 args:=[.sv (.one (.sl (.var 0) (.var 1) (.var 2) (.var 3)))]
 mem:=[.ro 4 [.var 0] false]
 nv:=5
def abr:po.res=[.agg (List.replicate 6 (.int .u64))]:=rfl
def abt:wK.res=[.agg fI]:=rfl
def MU:(Cp.agg fI).len=132:=by kernel_rfl
def FP:(Cp.agg (List.replicate 6 (.int .u64))).len=6:=by kernel_rfl
def RU:(aL 0 [Cp.agg fI]≠[])=True:=by
 trivial
section
variable {q:Env} {n:Nat} {p:Value} {H:Hl} {s:PS} {K:Env->Prop} {A:Env->Hl->Prop}
def VH (h:mw H p s) (k:∀ q',ai n q q'->((q'.b n=true)=(s.bad=false/\s.l=[]))->K q') :
 tQ.pre [p] [] [H]/\∀ q',ai n q q'->(∃ F,tQ.post [p] [] [H] (.bool (aY q' (.bvar n))) [] F/\A q' F)->K q':=by
 refine⟨⟨_,H,s.l,s.bad,rfl,rfl,h⟩,fun q' g ⟨F,⟨f,R',bs',bad',e1,c,a,hv⟩,_⟩=>k q' g ?_⟩;simp only[aae,abw]at e1 c;subst e1 c;obtain⟨d,e⟩:=h.uniq a;subst d e;simp only[Value.bool.injEq,bn]at hv
 grind
def aaK (h:mw H p s) (k:∀ q',ai n q q'->mw (q'.h n) p (ga 1048576 6 s).2->(aj n (List.replicate 6 (Ck.int .u64))).map (CV.ev q')=us (ga 1048576 6 s).1->K q') :
 po.pre [p] [H] []/\∀ q',ai n q q'->(∃ F,po.post [p] [H] [] (.agg ((aj n (List.replicate 6 (Ck.int .u64))).map (CV.ev q')).toArray) [q'.h n] F/\A q' F)->K q':=by
 refine⟨⟨_,H,s,rfl,rfl,h⟩,fun q' g ⟨F,⟨j,H1,a,H',e1,b,e,f,i,hv⟩,_⟩=>?_⟩;simp only[aae,abw]at e1 b f;subst e1 b;obtain⟨c,d⟩:=h.uniq e;have l:s=a:=by cases s;cases a;simp only at c d;rw[c,d]
 grind
def iPc (h:mw H p s) (k:∀ q' row c,ai n q q'->mw (q'.h n) p (LJ s)->(aj n fI).map (CV.ev q')=row->cH (q'.h (n+1)) (q'.h (n+1)) row c->S0 s c->K q') :
 wK.pre [p] [H] []/\∀ q',ai n q q'->(∃ F,wK.post [p] [H] [] (.agg ((aj n fI).map (CV.ev q')).toArray) [q'.h n] F/\(True->q'.h (n+1)=F)/\bR n [.agg fI] q')->K q':=by
 refine⟨⟨_,H,s,rfl,rfl,h⟩,fun q' g ⟨F,⟨o,H1,b,H',row,c,e1,d,j,e,a,hv,hx,hd,hb⟩,l,_⟩=>?_⟩;simp only[aae,abw]at e1 d e;subst e1 d;obtain⟨f,i⟩:=h.uniq j;have m:s=b:=by cases s;cases b;simp only at f i;rw[f,i]
 subst m;rw[<-e]at a;rw[<-l zzT]at hx;exact k q' row c g a (ab1 (Value.agg.inj hv)) hx ⟨hd,hb⟩
end
def RD {l c c':Nat} (h:fE R (.slice (au x y) l c) bs) (hy:0<=y) {n:Nat} (hn:n<=bs.length):fE R (.slice (au x y) n c') (bs.take n):=by
 obtain⟨x1,f,c1,he,b,d⟩:=h;simp only[Value.slice.injEq]at he;rcases afr n with h0 | h0
 .subst h0;exact⟨x,y,c',aC,hy,Or.inl (afD ..)⟩
 rcases d with rfl | ⟨a,d⟩
 .grind
 obtain⟨e1,e⟩:=mZ a b hy he.1;subst e1 e;refine⟨x,y,c',by grind,hy,Or.inr ⟨a,fun j z hz=>?_⟩⟩
 grind
def La (b:List Int) (a:Option Addr) (l c:Nat):aR (AG b (.slice a l c)) rkd:=by
 trivial
def Qb (b:List Int) (a:Option Addr) (l c:Nat):∀ v∈AG b (.slice a l c),uJ v:=by
 have i0:=ig (s:=⟨b,false⟩) (m:=18446744073709551615) ah;have i1:=ig (s:=Hu b) (m:=3) ah;have i2:=ig (s:=JY b) (m:=14) ah;have ih:∀ v∈L7 b,0<=v/\v<=1048576:=LD ah 6 _;intro v hv;unfold AG at hv;rcases acg.1 hv with hv | hv
 .rcases acg.1 hv with hv | hv
  .simp only[aaW,abd,acs]at hv;rcases hv with rfl | rfl | rfl
   .exact⟨i0.1,ah⟩
   .exact⟨ah,ah⟩
   .exact⟨ah,ah⟩
  .obtain⟨z,hz,rfl⟩:=acw.1 hv;have:=ih z hz;exact⟨this.1,ah⟩
 .rw[aaQ]at hv;subst hv;trivial
def M9 (b:List Int) (hx:-1<=x) (l c:Int):∀ v∈AG b (.slice (au x 0) l.toNat c.toNat),rj v:=by
 intro v hv;unfold AG at hv;rcases acg.1 hv with hv | hv
 .rcases acg.1 hv with hv | hv
  .simp only[aaW,abd,acs]at hv;rcases hv with rfl | rfl | rfl<;>trivial
  .obtain⟨z,hz,rfl⟩:=acw.1 hv;trivial
 .rw[aaQ]at hv;subst hv;exact Br hx
set_option maxRecDepth 10000 in
def Of:EW.OK Tryz.prog:=by
 refine Spec.jN (Γ:=U2) U3 rfl ?_;rintro xs Rs ⟨x,y,c,bs,R,rfl,rfl,U,hy,bo,hby,hlen⟩;obtain⟨f,hX⟩:∃ f:Nat->List Int,f=fun k=>bs.take (k-1):=⟨_,rfl⟩;refine⟨YI,aM [x,y,bs.length,c] false [Hl.none,Hl.none,Hl.none,Hl.none,R],fun j q=>if j=0 then ∃ k:Nat,q.i 50=k/\k<=bs.length/\(∀ j z,k<=j->bs[j]?=some z->z=0)else if j=1 then ∃ k:Nat,q.i 70=k/\Trim bs k else ∃ (t k:Nat) (ps:List Pc),q.i 70=t/\Trim bs t/\0<t/\bs[t-1]?=some 1/\(bs.length:Int)=batch t/\q.i 83=aI 18446744073709551615 ⟨f t,false⟩/\q.i 85=aI 3 (Hu (f t))/\q.i 87=aI 14 (JY (f t))/\(aj 89 (List.replicate 6 (Ck.int .u64))).map (CV.ev q)=us (L7 (f t))/\q.i 96=zJ (f t)/\q.i 150=k/\k<=zJ (f t)/\ps.length=k/\mw (q.h 151) (.pointer (au (q.i 81) (q.i 82))) (mQ k (Hv (f t)))/\lJ (Hv (f t)) ps/\ -1<=q.i 153/\q.i 154=k/\0<=q.i 155/\Iu (q.h 156) (.slice (au (q.i 153) 0) (q.i 154).toNat (q.i 155).toNat) ps,
  fun j q=>if j=0 then(q.i 50).toNat else(q.i 96-q.i 150).toNat,?_,aT rfl rfl,rfl,?_⟩
 .show [Value.slice (au x y) ((bs.length:Int)).toNat ((c:Int)).toNat]=_;rw[aac,aac]
 refine aD.read [fI] [] [gZ,gC] ?_;generalize av:aM [x,y,bs.length,c] false [Hl.none,Hl.none,Hl.none,Hl.none,R]=J;obtain⟨⟨v0,v1,v2,v3,_⟩,_,_,_,_,w4,_⟩:=jn av;clear av;have V:∀ q:Env,ai 5 J q->q.i 0=x/\q.i 1=y/\q.i 2=bs.length/\q.i 3=c/\q.h 4=R:=fun q hg=>by
  rw[hg.i 0,hg.i 1,hg.i 2,hg.i 3,hg.h 4];exact⟨v0,v1,v2,v3,w4⟩
 have cell:∀ k:Nat,0<k->k<=bs.length->0<=x/\∃ z,bs[k-1]?=some z/\R.cell x.toNat (y+((k:Int)-1)).toNat=some (.int .u8 z)/\0<=z/\z<256:=fun k hk ot=>by
  obtain⟨x1,y1,c1,he,aO,H⟩:=id U;simp only[Value.slice.injEq]at he;rcases H with rfl | ⟨aw,H⟩
  .simp at ot;omega
  obtain⟨e1,T⟩:=mZ aw aO hy he.1;subst e1 T;have hb:bs[k-1]?=some bs[k-1]:=aad ah;refine⟨aw,_,hb,?_,hby _ (acK _)⟩;rw[show(y+((k:Int)-1)).toNat=y.toNat+(k-1)by omega];exact H _ _ hb
 have wr:∀ k:Nat,k<=bs.length->IntKind.i64.wrap ((k:Int)-1)=(k:Int)-1:=fun k hk=>wrap_i64 ah ah;have bad:∀ {q:Env} {mem:Mem},(∀ R RA row r,iR R RA row r->r.Form->de (iW r)≠bs)->postOf EW [.slice (au x y) bs.length c] [] [R] q mem (.tup [.agg gZ,.one (.int .i64 (.lit 2))]):=by
  intro q mem ab _;refine⟨[],[],rfl,rfl,⟨(ba fun k=>[0,0,0,0,0,0,0,0,0,-1,0,0,0,2].getD k 0),rfl,?_⟩,fun u bs' R' e1 T I=>?_⟩
  .exact⟨⟨zzT,zzT,zzT,zzT,zzT,zzT,zzT,zzT,zzT,⟨aba _,aba _,aba _,aba _⟩,zzT⟩,zzT,zzT⟩
  .simp only[aae,abw]at e1 T;subst e1 T;obtain rfl:=U.uniq I;exact Or.inr ⟨rfl,ab⟩
 have o:∀ {R RA:Hl} {row:List Value} {r:Rp},iR R RA row r->r.Form->de (iW r)=bs->∀ k,Trim bs k->k=(iW r).length+1/\bs[k-1]?=some 1/\(bs.length:Int)=batch k/\bs.take (k-1)=iW r:=by
  intro R RA row r hx hf he k hk;have hl:=R4 hx hf;subst he;have e:=hk.pad;subst e;refine⟨rfl,(EE _).1,by rw[LK _ ah];rfl,?_⟩;unfold de;rw[abS];exact afU rfl
 simp only[go_sem,Nat.reduceAdd,U2,pr0,pr1,pr4,abr,abt,abK,abM,pc0,RU,MU,FP];intro q0 g0 _;obtain⟨a0,a1,a2,a3,a4⟩:=V q0 g0;rw[a2];refine⟨⟨ah,fun ax=>⟨show ∃ k:Nat,q0.i 2=k/\k<=bs.length/\(∀ j z,k<=j->bs[j]?=some z->z=0)from ⟨bs.length,a2,ab8 _,fun j z hj hz=>by rw[abA hj]at hz;cases hz⟩,fun q1 g1 hi=>?_⟩,fun h0=>?_⟩,fun q1 g1 hi=>?_⟩
 .obtain⟨k,ek,hk,hz⟩:∃ k:Nat,q1.i 50=k/\k<=bs.length/\(∀ j z,k<=j->bs[j]?=some z->z=0):=hi;obtain⟨a0,a1,a2,a3,a4⟩:=V q1 (g0.tr g1);rw[a0,a1,a3,a4,ek,wr k hk];refine⟨ah,fun ay=>?_,fun az=>?_⟩
  .obtain⟨ad,z,C,H,_⟩:=cell k ah hk;rw[H];refine⟨ad,hy,ah,ah,rfl,fun aP=>⟨ah,show ∃ k:Nat,IntKind.i64.wrap (q1.i 50-1)=k/\k<=bs.length/\(∀ j z,k<=j->bs[j]?=some z->z=0)from ⟨k-1,by rw[ek,wr k hk];omega,ah,fun j w hj hw=>?_⟩,?_⟩,fun aQ=>?_⟩
   .rcases acN (k-1) j with aS | aS
    .exact hz j w ah hw
    .obtain rfl:j=k-1:=ah;rw[C]at hw;have hw:z=w:=by simpa using hw
     subst hw;exact aP
   .show(IntKind.i64.wrap (q1.i 50-1)).toNat<((k:Nat):Int).toNat;rw[ek,wr k hk];omega
   .show ∃ k:Nat,q1.i 50=k/\Trim bs k;exact⟨k,ek,hk,hz,Or.inr ⟨z,C,aQ⟩⟩
  .show ∃ k:Nat,q1.i 50=k/\Trim bs k;exact⟨k,ek,hk,hz,Or.inl ah⟩
 .show ∃ k:Nat,q0.i 2=k/\Trim bs k;exact⟨0,by rw[a2];exact h0,acP _,fun j z _ hz=>by have:=(aaG.1 hz).1;omega,Or.inl rfl⟩
 obtain⟨t,et,hT⟩:∃ k:Nat,q1.i 70=k/\Trim bs k:=hi;have ae:=hT.le;obtain⟨a0,a1,a2,a3,a4⟩:=V q1 (g0.tr g1);rw[a0,a1,a4,et,wr t ae];refine⟨ah,fun az=>?_,fun ay=>bad fun R' RA row r hx hf he=>by have:=(o hx hf he t hT).1;omega⟩;have W:0<t:=ah;obtain⟨ad,z,C,H,_⟩:=cell t W ae;rw[H,a2];refine⟨ad,hy,ah,rfl,fun hz=>?_,fun hz=>bad fun R' RA row r hx hf he=>hz (acE (C.symm.trans (o hx hf he t hT).2.1))⟩;have hz:z=1:=hz;subst hz;rw[show(t:Int)-1+1=(t:Int)by omega,show IntKind.i64.wrap (t:Int)=t from wrap_i64 ah ah];refine⟨ah,CD _,fun q2 g2 ⟨F2,aU,_⟩=>?_⟩;have aV:=CE aU;obtain⟨a0,a1,a2,a3,a4⟩:=V q2 (g0.trans (g1.mono |>.tr g2));have af:q2.i 70=t:=by rw[g2.i 70,et]
 rw[a0,a1,a2,a3,a4,af,aV,wr t ae];refine⟨fun ax=>bad fun R' RA row r hx hf he=>ax (o hx hf he t hT).2.2.1,fun ag=>⟨ah,?_⟩⟩;have eX:f t=bs.take (t-1):=by rw[hX]
 have lX:(f t).length=t-1:=by rw[eX,ace];omega
 have bX:al (f t):=fun z hz=>by rw[eX]at hz;exact hby z (ady hz)
 have rX:fE R (.slice (au x y) ((t:Int)-1).toNat ((c:Int)).toNat) (f t):=by
  rw[eX,show((t:Int)-1).toNat=t-1 by omega];exact RD U hy ah
 refine⟨⟨_,f t,R,rfl,rfl,rX,bX,ah⟩,fun K g3 ⟨F3,aX,aY,bu⟩=>?_⟩;have hIn:mw (K.h 81) (.pointer (au (K.i 81) (K.i 82))) ⟨f t,false⟩:=by
  obtain⟨u',bs',R',e1,T,I,hI⟩:=aX;simp only[aae,abw]at e1 T;subst e1 T;obtain rfl:=rX.uniq I;rw[<-aY zzT]at hI;exact hI
 have ep:∀ q:Env,ai 83 K q->Value.pointer (au (q.i 81) (q.i 82))=.pointer (au (K.i 81) (K.i 82)):=fun q hg=>by rw[hg.i 81,hg.i 82]
 refine kI hIn fun q4 g4 h4 L=>?_;rw[ep q4 g4];refine kI h4 fun q5 g5 h5 M=>?_;have G5:ai 83 K q5:=g4.tr g5;rw[ep q5 G5];refine kI h5 fun q6 g6 h6 N=>?_;have G6:ai 83 K q6:=G5.tr g6;rw[ep q6 G6];refine aaK h6 fun q7 g7 h7 O q8 g8 _=>?_;have G8:ai 83 K q8:=G6.trans (g7.tr g8 |>.mono ah);rw[ep q8 G8,g8.h 89];refine kI h7 fun D g9 h9 P=>?_;have G9:ai 83 K D:=G8.tr g9;have N8:=ig (s:=UU (f t)) (m:=8) ah;have P:D.i 96=aI 8 (UU (f t)):=P;have eN:D.i 96=zJ (f t):=by unfold zJ;omega
 have bw:zJ (f t)<=8:=by unfold zJ;omega
 have ak:ai 89 q6 D:=g7.trans (g8.tr g9 |>.mono ah);refine⟨show ∃ (t k:Nat) (ps:List Pc),D.i 70=t/\Trim bs t/\0<t/\bs[t-1]?=some 1/\(bs.length:Int)=batch t/\D.i 83=aI 18446744073709551615 ⟨f t,false⟩/\D.i 85=aI 3 (Hu (f t))/\D.i 87=aI 14 (JY (f t))/\(aj 89 (List.replicate 6 (Ck.int .u64))).map (CV.ev D)=us (L7 (f t))/\D.i 96=zJ (f t)/\(0:Int)=k/\k<=zJ (f t)/\ps.length=k/\mw (D.h 96) (.pointer (au (D.i 81) (D.i 82))) (mQ k (Hv (f t)))/\lJ (Hv (f t)) ps/\(-1:Int)<= -1/\(0:Int)=k/\(0:Int)<=0/\Iu Hl.none (.slice (au (-1) 0) (0:Int).toNat (0:Int).toNat) ps from
  ⟨t,0,[],by rw[G9.i 70,g3.i 70,af],hT,W,C,ag,?_,?_,?_,?_,eN,rfl,acP _,rfl,by rw[ep D G9];exact h9,fun j d hd=>by simp at hd,aba _,rfl,aba _,Iu.nil _⟩,fun a aZ hi=>?_⟩
 .rw[ak.i 83,g6.i 83,g5.i 83];exact L
 .rw[ak.i 85,g6.i 85];exact M
 .rw[ak.i 87];exact N
 .rw[show(aj 89 (List.replicate 6 (Ck.int .u64))).map (CV.ev D)=(aj 89 (List.replicate 6 (Ck.int .u64))).map (CV.ev q7)from my (g8.tr g9) (adg zzK)];exact O
 clear L M N O P eN h4 h5 h6 h7 h9;obtain⟨t',k,ps,a6,bx,bp,bq,br,L,M,N,O,an,Z,hk,Gs,hP,ao,aA,aB,bt,hO⟩:∃ (t k:Nat) (ps:List Pc),a.i 70=t/\Trim bs t/\0<t/\bs[t-1]?=some 1/\(bs.length:Int)=batch t/\a.i 83=aI 18446744073709551615 ⟨f t,false⟩/\a.i 85=aI 3 (Hu (f t))/\a.i 87=aI 14 (JY (f t))/\(aj 89 (List.replicate 6 (Ck.int .u64))).map (CV.ev a)=us (L7 (f t))/\a.i 96=zJ (f t)/\a.i 150=k/\k<=zJ (f t)/\ps.length=k/\mw (a.h 151) (.pointer (au (a.i 81) (a.i 82))) (mQ k (Hv (f t)))/\lJ (Hv (f t)) ps/\ -1<=a.i 153/\a.i 154=k/\0<=a.i 155/\Iu (a.h 156) (.slice (au (a.i 153) 0) (a.i 154).toNat (a.i 155).toNat) ps:=hi;have a7:ai 83 K a:=G9.tr aZ;obtain rfl:t'=t:=by
  have:a.i 70=t:=by rw[a7.i 70,g3.i 70,af]
  omega
 rw[Z,an];refine⟨fun ay=>?_,fun az=>?_⟩
 .refine iPc hP fun aC row p G a8 aG hx a9 v B _ aE aq ⟨bb,aa⟩=>?_;have X:ai 160 a aE:=G.trans (B.tr aq |>.mono ah);have Q:ai 160 a v:=G.tr B;have aF:(aj 160 fI).map (CV.ev aE)=row:=by rw[<-aG];exact my (B.tr aq) (adg zzK)
  rw[bb,Q.h 156,B.h 161,X.i 153,X.i 154,X.i 155,aF];rw[Q.h 156,B.h 161]at aa;refine⟨⟨Iu.pre hO ah,ah,by unfold maxLen;omega,ah⟩,fun g aH ⟨b1,b2,happ,hkeep,_,hnew⟩=>?_⟩;have bc:=Iu.snoc hO ah aa hx b1 happ hkeep hnew;have n:ai 160 a g:=X.tr aH;have S:IntKind.u64.wrap (g.i 150+1)=((k+1:Nat):Int):=by rw[n.i 150,Z,m9 ah ah];omega
  have ar:g.i 154+1=((k+1:Nat):Int):=by rw[n.i 154,aB];omega
  refine⟨show ∃ (t k:Nat) (ps:List Pc),g.i 70=t/\Trim bs t/\0<t/\bs[t-1]?=some 1/\(bs.length:Int)=batch t/\g.i 83=aI 18446744073709551615 ⟨f t,false⟩/\g.i 85=aI 3 (Hu (f t))/\g.i 87=aI 14 (JY (f t))/\(aj 89 (List.replicate 6 (Ck.int .u64))).map (CV.ev g)=us (L7 (f t))/\g.i 96=zJ (f t)/\IntKind.u64.wrap (g.i 150+1)=k/\k<=zJ (f t)/\ps.length=k/\mw (g.h 160) (.pointer (au (g.i 81) (g.i 82))) (mQ k (Hv (f t)))/\lJ (Hv (f t)) ps/\ -1<=g.i 294/\g.i 154+1=k/\0<=g.i 295/\Iu (g.h 294) (.slice (au (g.i 294) 0) (g.i 154+1).toNat (g.i 295).toNat) ps from
   ⟨t',k+1,ps++[p],by rw[n.i 70,a6],hT,W,C,ag,by rw[n.i 83,L],by rw[n.i 85,M],by rw[n.i 87,N],?_,by rw[n.i 96,an],S,ah,by simp [Gs],?_,ao.snoc (by rw[Gs];exact a9),b1,ar,b2,?_⟩,?_⟩
  .rw[<-O];exact my n (adg zzK)
  .rw[aH.h 160,aq.h 160,B.h 160,n.i 81,n.i 82,Dg];exact a8
  .rw[n.i 154];exact bc
  .show(g.i 96-IntKind.u64.wrap (g.i 150+1)).toNat<((zJ (f t'):Int)-k).toNat;rw[n.i 96,an,S];omega
 have bd:k=zJ (f t'):=ah;rw[bd]at hP Gs;refine VH hP fun aC G bf=>?_;have bz:=ig (s:=Hu (f t')) (m:=3) ah;have bA:=ig (s:=JY (f t')) (m:=14) ah;have hW:∀ q:Env,ai 160 a q->gC.map (CV.ev q)=AG (f t') (.slice (au (a.i 153) 0) (a.i 154).toNat (a.i 155).toNat):=fun q hg=>by
  have e1:(aj 89 (List.replicate 6 (Ck.int .u64))).map (CV.ev q)=us (L7 (f t')):=by rw[<-O];exact my hg (adg zzK)
  unfold gC AG;rw[acm,acm,e1];show [Value.int .u64 (q.i 83),.int .i64 (IntKind.i64.wrap (q.i 85)),.int .i64 (IntKind.i64.wrap (q.i 87))]++_++[Value.slice (au (q.i 153) 0) (q.i 154).toNat (q.i 155).toNat]=_;rw[hg.i 83,hg.i 85,hg.i 87,hg.i 153,hg.i 154,hg.i 155,L,M,N,wrap_i64 ah ah,wrap_i64 ah ah]
 obtain⟨row,aG⟩:∃ row,row=AG (f t') (.slice (au (a.i 153) 0) (a.i 154).toNat (a.i 155).toNat):=⟨_,rfl⟩;have hI:∀ F,F=a.h 156->iR F F row ⟨row.set 9 ou,ps⟩:=fun F hF=>by
  subst hF;refine⟨by rw[aG];exact La _ _ _ _,by rw[aG];exact Qb _ _ _ _,rfl,?_⟩;have e9:row.getD 9 ou=.slice (au (a.i 153) 0) (a.i 154).toNat (a.i 155).toNat:=by
   rw[aG];obtain⟨a0,a1,a2,a3,a4,a5,e⟩:=PZ (f t');unfold AG;rw[e];rfl
  rw[e9];exact hO.rd
 have hG:∀ F,F=a.h 156->GR (f t') ⟨row.set 9 ou,ps⟩:=fun F hF=>TM (u:=.slice (au (a.i 153) 0) (a.i 154).toNat (a.i 155).toNat) (by rw[<-aG];exact hI F hF) Gs;have hG:=hG _ rfl;have A:∀ {R RA:Hl} {row':List Value} {r:Rp},iR R RA row' r->r.Form->de (iW r)=bs->(mQ (zJ (f t')) (Hv (f t'))).bad=false/\(mQ (zJ (f t')) (Hv (f t'))).l=[]/\Rp.Form ⟨row.set 9 ou,ps⟩:=by
  intro R RA row' r hx hf he;obtain⟨_,_,_,aK⟩:=o hx hf he t' hT;rw[<-eX]at aK;obtain⟨b0,b1,b2,b3,b4,b5,b6,b7⟩:=JX hx hf;rw[<-aK]at b0 b1 b2 b3 b4 b5;have hall:=LO r.p b6 (zJ (f t')) ah;rw[<-b5]at hall;rw[hall.1,b4,List.drop_length];refine⟨rfl,rfl,?_⟩;obtain⟨rows,_,bg,bh⟩:=(hI _ rfl).ps;have E:=lJ.same b6 b5 b7 (fun c H=>by
   obtain⟨j,hj⟩:=acU.1 H;have bj:=(aaG.1 hj).1;exact⟨_,_,(bh j _ c (aad (by rw[bg];exact bj)) hj).hd⟩) ao (by rw[Gs,b4])
  obtain⟨f1,f2,f3,f4,f5,f6⟩:=hf;refine⟨by rw[hG.c1,b1];exact f1,by rw[hG.c2,b2];exact f2,?_,by show ps.length<=8;rw[E];exact f4,by show ∀ c∈ps,_;rw[E];exact f5,by show yW ps<=_;rw[E];exact f6⟩;have Y:aW (row.set 9 ou) 3 6=aW r.c 3 6:=by rw[<-b3];exact hG.hs
  have Y:[cI (row.set 9 ou) 3,cI (row.set 9 ou) 4,cI (row.set 9 ou) 5,cI (row.set 9 ou) 6,cI (row.set 9 ou) 7,cI (row.set 9 ou) 8]=[cI r.c 3,cI r.c 4,cI r.c 5,cI r.c 6,cI r.c 7,cI r.c 8]:=Y;simp only[aae,abw]at Y;show qQ (row.set 9 ou);unfold qQ at f3 ⊢;rw[Y.1,Y.2.1,Y.2.2.1,Y.2.2.2.1,Y.2.2.2.2.1,Y.2.2.2.2.2];exact f3
 rw[bf];refine⟨fun hok=>?_,fun ab=>bad fun R' bk row' r hx hf he=>ab ⟨(A hx hf he).1,(A hx hf he).2.1⟩⟩;rw[hW aC G,<-aG,G.h 156];refine⟨⟨row,_,_,_,rfl,rfl,hI _ rfl⟩,fun v B ⟨bB,aL,_⟩=>?_⟩;have hF:=aL row _ _ _ rfl rfl (hI _ rfl);have hF:(v.b 161=true)=Rp.Form ⟨row.set 9 ou,ps⟩:=bvT (by rw[hF];simp);rw[hF];refine⟨fun bl=>bad fun R' bk row' r hx hf he=>bl (A hx hf he).2.2,fun hf=>?_⟩;intro _;have Q:ai 160 a v:=G.tr B;have aN:TV.ev v (.tup [.agg gC,.one (.int .i64 (.lit 0))])=.tuple #[.agg row.toArray,.int .i64 0]:=by
  show Value.tuple #[.agg (gC.map (CV.ev v)).toArray,.int .i64 0]=_;rw[hW v Q,<-aG]
 have bm:=tX (k:=.i64) 0 (show aR row (N7.map gY)by rw[aG];exact La _ _ _ _) zzK (by rw[aG];exact M9 _ aA _ _);obtain⟨bn,s1,s2⟩:=bm;refine⟨[],[4],rfl,rfl,⟨bn,by rw[aN];exact s1.symm,s2⟩,fun u bs' R' e1 T I=>?_⟩;simp only[aae,abw]at e1 T;subst e1 T;obtain rfl:=U.uniq I;refine Or.inl ⟨row,⟨row.set 9 ou,ps⟩,aN,?_,hf,?_⟩
 .show iR (bY [v.h 156]) (bY [v.h 156]) _ _;rw[aJ];exact hI _ (Q.h 156)
 .have hA:=Yt bX hG ao (fun c H=>(hf.2.2.2.2.1 c H).1) hok.1 hok.2;rw[hA,eX];exact hT.un W C ag
section
variable {s:Sx.Spec} {xs:List Value} {Rs:List Hl} {q:Env} {mem:Mem}
def kU (hr:s.res=[.one .bool]) (h:s.post xs [] Rs (.bool (aY q e)) [] Hl.none):postOf s xs [] Rs q mem (.sv (.one (.bool e))):=fun _ =>
 ⟨[],[],rfl,rfl,⟨{Iq with b:=fun _=>aY q e},by rw[hr];rfl,by rw[hr];exact⟨zzT,zzT⟩⟩,h⟩
def L6 {k:IntKind} (hr:s.res=[.one (.int k)]) (h:s.post xs [] Rs (.int k (aw q e)) [] Hl.none):postOf s xs [] Rs q mem (.sv (.one (.int k e))):=fun _ =>
 ⟨[],[],rfl,rfl,⟨{Iq with i:=fun _=>aw q e},by rw[hr];rfl,by rw[hr];exact⟨zzT,zzT⟩⟩,h⟩
def hr5 (f:FuncId):(bU f).res=[.one .sl]:=rfl
end
def BJ [Decidable (x= -1)] (h:fE R (.slice (au x y) l.toNat c.toNat) bs) (hy:0<=y) (hl:0<=l) :
 (x= -1\/l=0\/0<=x/\0<=y/\bx R x.toNat y.toNat l.toNat=true)/\(if x= -1 then(⟨#[]⟩:ByteArray)else bytesOf (gw R x.toNat y.toNat l.toNat))=bytesOf bs:=by
 obtain⟨x',y',c',he,a,h⟩:=h;simp only[Value.slice.injEq]at he;obtain⟨hp,he,_⟩:=he;rcases h with rfl | ⟨h0,h⟩
 .have e:l=0:=by
   have:=he;simp at this;omega
  subst e;refine⟨Or.inr (Or.inl rfl),?_⟩;split<;>rfl
 .obtain⟨rfl,rfl⟩:=mZ h0 a hy hp;refine⟨Or.inr (Or.inr ⟨h0,hy,dd h ah⟩),?_⟩;rw[aa8 ah,he,ug h]
def Ue:CV:=.sl (.lit (-1)) (.lit 0) (.lit 0) (.lit 0)
def plC (id:E) (cur:List CV) (u:CV) (most:E):List CV:=.int .u64 id::.int .i64 (.lit 2)::(hzC++(Ue::(cur++[.bool .tt,u,.int .i64 most,.int .i64 (.lit 0),.int .u64 (.lit 0)])))
def NK:Value:=.slice none 0 0
def kS (id:Int) (cur:List Int) (u:Value) (most:Int):List Value:=[.int .u64 id,.int .i64 2]++((tC++[NK])++(us cur++[.bool true,u,.int .i64 most,.int .i64 0,.int .u64 0]))
def Iy (cur:List Int) (most:Int):Prop:=(∀ v∈cur,0<=v/\v<=1048576)/\1<=most/\most<=8
def Yc:List CV:=plC (.var 0) [.int .u64 (.var 1),.int .u64 (.var 2),.int .u64 (.var 3),.int .u64 (.var 4),.int .u64 (.var 5),.int .u64 (.var 6)] (.sl (.var 7) (.var 8) (.lit 0) (.var 9)) (.var 10)
def JP (q:Env):Yc.map (CV.ev q)=kS (q.i 0) [q.i 1,q.i 2,q.i 3,q.i 4,q.i 5,q.i 6] (.slice (au (q.i 7) (q.i 8)) 0 (q.i 9).toNat) (q.i 10):=by kernel_rfl
def AD:Sx.Spec where
 fn:=37
 own:=[]
 rd:=[]
 res:=[.one .bool]
 pre:=fun xs Hs Rs=>∃ (id a0 a1 a2 a3 a4 a5 x y:Int) (c:Nat) (most:Int),xs=[.agg (kS id [a0,a1,a2,a3,a4,a5] (.slice (au x y) 0 c) most).toArray]/\Iy [a0,a1,a2,a3,a4,a5] most
 post:=fun xs Hs Rs v Hs' F=>v=.bool true
def Xq:aD Tryz.prog [] AD.fn where
 Λ:=aA
 args:=[.sv (.agg Yc)]
 mem:=[]
 nv:=11
def AE:AD.OK Tryz.prog:=by
 refine Spec.jN (Γ:=[]) (fun _ h=>by cases h) rfl ?_;rintro xs Rs ⟨id,a0,a1,a2,a3,a4,a5,x,y,c,most,rfl,b,hm⟩;refine⟨Xq,aM [id,a0,a1,a2,a3,a4,a5,x,y,c,most] true [],fun _ _=>True,fun _ _=>0,?_,⟨fun _ h=>(nomatch h),fun _ h=>(nomatch h),.nil,fun _ h=>(nomatch h)⟩,rfl,?_⟩
 .show [Value.agg (Yc.map (CV.ev _)).toArray]=_;rw[JP];rfl
 refine aD.read [] [] [] ?_;simp only[go_sem,Nat.reduceAdd];have h0:=b a0 aC;have h1:=b a1 aC;have s:=b a2 aC;have t:=b a3 aC;have u:=b a4 aC;have v:=b a5 aC;intro q1 f _ q2 g _ w g3 _ z g4 _ A j _ a k _;have G:=f.trans (g.mono.trans (g3.mono.trans (g4.mono.trans (j.mono.tr k))));have e:[a.i 1,a.i 2,a.i 3,a.i 4,a.i 5,a.i 6,a.i 10]=[a0,a1,a2,a3,a4,a5,most]:=by
  rw[G.i 1,G.i 2,G.i 3,G.i 4,G.i 5,G.i 6,G.i 10];rfl
 simp only[aae,abw]at e;obtain⟨e1,l,m,n,o,p,q⟩:=e;rw[e1,l,m,n,o,p];refine⟨fun h=>ah,fun _=>⟨fun h=>ah,fun _=>⟨fun h=>ah,fun _=>⟨fun h=>ah,fun _=>⟨fun h=>ah,fun _=>⟨fun h=>ah,fun _ q7 r _=>?_⟩⟩⟩⟩⟩⟩;have d:q7.i 10=most:=by rw[r.i 10,q]
 rw[d];refine⟨fun _=>kU rfl (ach Value.bool ?_),fun h=>ah⟩;rw[nq,ar,aq,d];exact hm.2
def pd (id:Int) (cur:List Int) (most:Int):List Int:=aF id.toNat++aF 2++ng cur++fR true++aF 0++aF most.toNat
def Mv:∀ {a b:List Int} {s t:List Value},us a++s=us b++t->a.length=b.length->a=b/\s=t
 | [],[],s,t,h,_=>⟨rfl,h⟩
 | x::a,y::b,s,t,h,hl=>by
  simp only[us,abW,afg,aae,Value.int.injEq,acu]at h;obtain⟨h1,c⟩:=Mv (a:=a) (b:=b) h.2 (by simpa using hl);exact⟨by rw[h.1,h1],c⟩
def NU {id most a:Int} (h:kS id cur u most=kS id' cur' u' a) (hl:cur.length=cur'.length):id=id'/\cur=cur'/\most=a:=by
 unfold kS at h;simp only[afg,adk,aae,Value.int.injEq,acu]at h;obtain⟨h1,c⟩:=h;obtain⟨d,b⟩:=Mv (agE c) hl;simp only[aae,Value.int.injEq,acu,abw]at b;exact⟨h1,d,b.2⟩
def LV:Sx.Spec where
 fn:=24
 own:=[]
 rd:=[]
 res:=[.one .sl,.one (.int .i64)]
 pre:=fun xs Hs Rs=>∃ (id a0 a1 a2 a3 a4 a5 x y:Int) (c:Nat) (most:Int),xs=[.agg (kS id [a0,a1,a2,a3,a4,a5] (.slice (au x y) 0 c) most).toArray]/\Iy [a0,a1,a2,a3,a4,a5] most/\0<=id/\id<18446744073709551616
 post:=fun xs Hs Rs v Hs' F=>∃ w,v=.tuple #[w,.int .i64 0]/\∀ (id a0 a1 a2 a3 a4 a5:Int) (u:Value) (most:Int),xs=[.agg (kS id [a0,a1,a2,a3,a4,a5] u most).toArray]->c9 F 5 w (pd id [a0,a1,a2,a3,a4,a5] most)
def Ux:List Sx.Spec:=[AD,nH,lu,kO,qe]
def Uy:∀ t∈Ux,t.OK Tryz.prog:=ak AE <| ak oY <| ak sI <| ak mO <| ak uH <| bu
def fpr:AD.res=[.one .bool]:=rfl
def Yf:aD Tryz.prog Ux LV.fn where
 Λ:=aA
 args:=[.sv (.agg Yc)]
 mem:=[]
 nv:=11
def Ro:LV.OK Tryz.prog:=by
 refine Spec.jN (Γ:=Ux) Uy rfl ?_;rintro xs Rs ⟨id,a0,a1,a2,a3,a4,a5,x,y,c,most,rfl,hp,hid⟩;refine⟨Yf,aM [id,a0,a1,a2,a3,a4,a5,x,y,c,most] true [],fun _ _=>True,fun _ _=>0,?_,⟨fun _ h=>(nomatch h),fun _ h=>(nomatch h),.nil,fun _ h=>(nomatch h)⟩,rfl,?_⟩
 .show [Value.agg (Yc.map (CV.ev _)).toArray]=_;rw[JP];rfl
 refine aD.read [] [] [Yc] ?_;simp only[go_sem,Nat.reduceAdd,Ux,fpr,acW,Zl,acX,Zm,Wg,S9,U7];have V:∀ q,ai 11 (aM [id,a0,a1,a2,a3,a4,a5,x,y,c,most] true []) q->q.i 0=id/\q.i 10=most/\(aj 1 (List.replicate 6 (Ck.int .u64))).map (CV.ev q)=us [a0,a1,a2,a3,a4,a5]/\Yc.map (CV.ev q)=kS id [a0,a1,a2,a3,a4,a5] (.slice (au x y) 0 c) most:=fun q g=>by
  rw[JP,show(aj 1 (List.replicate 6 (Ck.int .u64))).map (CV.ev q)=us [q.i 1,q.i 2,q.i 3,q.i 4,q.i 5,q.i 6]from rfl,g.i 0,g.i 1,g.i 2,g.i 3,g.i 4,g.i 5,g.i 6,g.i 7,g.i 8,g.i 9,g.i 10];exact⟨rfl,rfl,rfl,rfl⟩
 have hu:SG [a0,a1,a2,a3,a4,a5]:=fun z hz=>by have:=hp.1 z hz;omega
 intro q1 n _;rw[(V q1 n).2.2.2];refine⟨⟨id,a0,a1,a2,a3,a4,a5,x,y,c,most,rfl,hp⟩,fun q2 s ⟨_,p2,_⟩=>⟨fun h=>absurd (Value.bool.inj p2) h,fun _ d g3 p3=>?_⟩⟩;have o:=n.trans (s.mono.tr g3);have t:OP (Hl.one (d.i 13).toNat (Obj.cells #[Value.slice (au (-1) 0) (Int.toNat 0) (Int.toNat 0),Value.bool (aY d E.ff)] 124 (0,0))) (d.i 13) [] 0:=OP.new p3;rw[(V d o).1];refine qC t ah ah hid fun N g4 u=>?_;refine qC u ah ah ah fun v w A=>?_;have p:=o.trans (g4.mono.tr w);rw[(V v p).2.2.1];refine Y4 A ah ah rfl hu fun O B C=>?_;rw[dc];refine VC C ah ah fun q7 D G=>?_;refine qC G ah ah ah fun H I J=>?_;have hm:=hp.2;rw[(V H (p.trans (B.mono.trans (D.mono.tr I)))).2.1,m9 ah ah];refine qC J ah ah ah fun r P b=>?_;have b:OP (r.h 24) (r.i 13) (pd id [a0,a1,a2,a3,a4,a5] most) 101:=b;refine⟨⟨_,_,_,false,rfl,rfl,b.out,acA b.len ah⟩,fun a K ⟨F,f,L,j⟩ _=>?_⟩;obtain⟨l,he⟩:=Eb b.out f;have hl:=b.len;rw[show lj (pd id [a0,a1,a2,a3,a4,a5] most) false=(pd id [a0,a1,a2,a3,a4,a5] most,0)by unfold lj;rw[aa8 (by simp;omega)]]at l he;rw[<-L (by simp [aL,Cp.roots,Ck.root])]at l;refine⟨[],[2],rfl,rfl,⟨(ba fun k=>a.i (26+k)),rfl,j.1,zzT,zzT⟩,.slice (au (a.i 26) (a.i 27)) (a.i 28).toNat (a.i 29).toNat,?_,fun id' b0 b1 b2 Q R S u' m e=>?_⟩
 .rw[<-he];rfl
 .simp only[aae,Value.agg.injEq,abw]at e;obtain⟨rfl,M,rfl⟩:=NU (ab1 e) rfl;rw[<-M];show c9 (bY [a.h 26]) _ _ _;rw[aJ];exact l
def VW (b:List Int):PS:=gL 3 (gL 18446744073709551615 ⟨b,false⟩)
def Zk (b:List Int):PS:=gL 8 (rA (ga 1048576 6 (VW b)).2)
def VX (b:List Int):List Value:=kS (aI 18446744073709551615 ⟨b,false⟩) (ga 1048576 6 (VW b)).1 NK (aI 8 (Zk b))
def LP {id most:Int} (hid:0<=id/\id<18446744073709551616) (hl:cur.length=6) (hp:Iy cur most):let b:=pd id cur most
 aI 18446744073709551615 ⟨b,false⟩=id/\aI 3 (gL 18446744073709551615 ⟨b,false⟩)=2/\(ga 1048576 6 (VW b)).1=cur/\jm (ga 1048576 6 (VW b)).2=true/\aI 8 (rA (ga 1048576 6 (VW b)).2)=0/\aI 8 (Zk b)=most/\gL 8 (Zk b)=⟨[],false⟩:=by
 intro b;obtain⟨a,hm⟩:=hp;have s0:(⟨b,false⟩:PS)=⟨aF id.toNat++(aF 2++(ng cur++(fR true++(aF 0++(aF most.toNat++[]))))),false⟩:=by
  show(⟨pd id cur most,false⟩:PS)=_;unfold pd;simp only[abS,acD]
 obtain⟨s1,v1⟩:=jh (m:=18446744073709551615) s0 ah ah;obtain⟨s2,v2⟩:=jh (m:=3) s1 ah ah;have s2:VW b=_:=s2;have t:=JG (m:=1048576) cur (fR true++(aF 0++(aF most.toNat++[]))) fun v hv=>by have:=a v hv;omega
 rw[hl,<-s2]at t;have t2:(ga 1048576 6 (VW b)).2=⟨_,false⟩:=ach Prod.snd t;obtain⟨c,d⟩:=PX t2;obtain⟨e,v4⟩:=jh (m:=8) c ah ah;obtain⟨f,g⟩:=jh (m:=8) (s:=Zk b) e ah ah;exact⟨ah,v2,ach Prod.fst t,d,v4,ah,f⟩
def Rf {id most:Int} (hid:0<=id/\id<18446744073709551616) (hl:cur.length=6) (hp:Iy cur most):VX (pd id cur most)=kS id cur (.slice (au (-1) 0) 0 0) most:=by
 obtain⟨t0,_,t2,_,_,t5,_⟩:=LP hid hl hp;unfold VX;rw[t0,t2,t5];rfl
def plP:List CV:=.int .u64 (.var 8)::.int .i64 (.wrap .i64 (.var 10))::(hzC++(Ue::(aj 13 (List.replicate 6 (Ck.int .u64))++[.bool (.bvar 20),Ue,.int .i64 (.wrap .i64 (.var 60)),.int .i64 (.lit 0),.int .u64 (.lit 0)])))
def Yb (q:Env):plP.map (CV.ev q)=.int .u64 (q.i 8)::.int .i64 (IntKind.i64.wrap (q.i 10))::((tC++[NK])++((aj 13 (List.replicate 6 (Ck.int .u64))).map (CV.ev q)++[.bool (q.b 20),NK,.int .i64 (IntKind.i64.wrap (q.i 60)),.int .i64 0,.int .u64 0])):=by kernel_rfl
section
variable {id a0 a1 a2 a3 a4 a5 most:Int}
def Re:aR (kS id [a0,a1,a2,a3,a4,a5] NK most) (VZ.map gY):=by
 have e:VZ.map gY=[.int .u64,.int .i64]++((dz++[.slice])++(List.replicate 6 (.int .u64)++[.bool,.slice,.int .i64,.int .i64,.int .u64])):=by kernel_rfl
 rw[e];exact dj ⟨rfl,rfl,zzT⟩ (dj (dj MC ⟨rfl,zzT⟩) (dj ⟨rfl,rfl,rfl,rfl,rfl,rfl,zzT⟩ ⟨rfl,rfl,rfl,rfl,rfl,zzT⟩))
def JO:∀ v∈kS id [a0,a1,a2,a3,a4,a5] NK most,rj v:=by
 intro v hv;unfold kS us at hv;simp only[acg,abW,acI,aaW,abd,acs]at hv;rcases hv with (rfl | rfl) | (hv | rfl) | (rfl | rfl | rfl | rfl | rfl | rfl) | rfl | rfl | rfl | rfl | rfl
 iterate 2 trivial
 .rcases Ir v hv with rfl | rfl | rfl | rfl | rfl<;>trivial
 all_goals trivial
end
def Pa:∀ (l:List Int),al (ng l)
 | []=>fun z hz=>by cases hz
 | v::l=>by
  show al (aF v.toNat++ng l);exact db (gH _) (Pa l)
def Rg {id most:Int} (hid:0<=id/\id<18446744073709551616) (hl:cur.length=6) (hp:Iy cur most):al (pd id cur most)/\(pd id cur most).length<=1000:=by
 refine⟨db (db (db (db (db (gH _) (gH _)) (Pa _)) (O7 _)) (gH _)) (gH _),?_⟩;have a:=gx (z:=id.toNat) ah;have b:=gx (z:=2) ah;have c:=Fi hl fun z hz=>by have:=hp.1 z hz;omega
 have d:=gx (z:=most.toNat) (by have:=hp.2;omega);have e:=gx (z:=0) ah;have f:(fR true).length=1:=rfl;unfold pd;simp only[aaA];omega
def LW:Sx.Spec where
 fn:=9
 own:=[]
 rd:=[0]
 res:=[.agg VZ,.one (.int .i64)]
 pre:=fun xs Hs Rs=>∃ (u:Value) (R:Hl) (id a0 a1 a2 a3 a4 a5 most:Int),xs=[u]/\Rs=[R]/\fE R u (pd id [a0,a1,a2,a3,a4,a5] most)/\Iy [a0,a1,a2,a3,a4,a5] most/\0<=id/\id<18446744073709551616
 post:=fun xs Hs Rs v Hs' F=>∀ (u:Value) (R:Hl) (b:List Int),xs=[u]->Rs=[R]->fE R u b->v=.tuple #[.agg (VX b).toArray,.int .i64 0]
def Uz:List Sx.Spec:=[qg,fe,vA,tQ,po,AD]
def UA:∀ t∈Uz,t.OK Tryz.prog:=ak pe <| ak zE <| ak Az <| ak wh <| ak yM <| ak AE <| bu
def Yg:aD Tryz.prog Uz LW.fn where
 Λ:=fun p=>match p with
  | 99::99::35::r=>if r.length==11 then some ⟨0,[],[],0⟩else none
  | 99::99::9::r=>if(r.length==8&&r.getLast?==some 0)||(r.length==10&&r.getLast?==some 1)then some ⟨0,[],[],0⟩else none
  | 35::_=>some ⟨0,[(10,TI .u64 (.var 50))],[(2,.hp 51 [] [.var 6] [])],60⟩
  | _=>none
 args:=[.sv (.one (.sl (.var 0) (.var 1) (.var 2) (.var 3)))]
 mem:=[.ro 4 [.var 0] false]
 nv:=5
def Rq:LW.OK Tryz.prog:=by
 refine Spec.jN (Γ:=Uz) UA rfl ?_;rintro xs Rs ⟨u,R,i0,a0,a1,a2,a3,a4,a5,most,rfl,rfl,a,hp,hid⟩;obtain⟨t0,t1,t2,t3,t4,t5,t6⟩:=LP hid rfl hp;obtain⟨hby,X⟩:=Rg hid (cur:=[a0,a1,a2,a3,a4,a5]) rfl hp;have hm:=hp.2;generalize hb:pd i0 [a0,a1,a2,a3,a4,a5] most=b at *;have m:=a;obtain⟨x,y,c,rfl,hy,hR⟩:=m;refine⟨Yg,aM [x,y,b.length,c] false [Hl.none,Hl.none,Hl.none,Hl.none,R],fun _ q=>q.i 50=0/\mw (q.h 51) (.pointer (au (q.i 6) (q.i 7))) (Zk b),fun _ _=>0,?_,aT rfl rfl,rfl,?_⟩
 .show [Value.slice (au x y) ((b.length:Int)).toNat ((c:Int)).toNat]=_;rw[aac,aac]
 refine aD.read [] [] [plP] ?_;simp only[go_sem,Nat.reduceAdd,Uz,pr0,pr1,pr2,pr4,abr,abt,fpr,pc0,pc1,FP];have w2:IntKind.i64.wrap 2=2:=by decide
 intro n g0 _;have e0:Value.slice (au (n.i 0) (n.i 1)) (n.i 2).toNat (n.i 3).toNat=.slice (au x y) b.length c/\n.h 4=R:=by
  rw[g0.i 0,g0.i 1,g0.i 2,g0.i 3,g0.h 4];exact⟨rfl,rfl⟩
 rw[e0.1,e0.2];refine⟨⟨_,b,R,rfl,rfl,a,hby,ah⟩,fun q1 g1 ⟨F1,C,D,_⟩=>?_⟩;have h1:mw (q1.h 6) (.pointer (au (q1.i 6) (q1.i 7))) ⟨b,false⟩:=by
  obtain⟨u',b',R',e1,o,d,Y⟩:=C;simp only[aae,abw]at e1 o;subst e1 o;rw[a.uniq d,D zzT];exact Y
 refine kI h1 fun q2 S t Z=>?_;rw[<-S.i 6,<-S.i 7]at t;refine kI t fun q3 g3 v v10 q4 g4 _=>?_;have v10:q4.i 10=2:=(g4.i 10).trans (v10.trans t1);have v:mw (q3.h 10) _ (VW b):=v;rw[<-g3.i 6,<-g3.i 7,<-g4.h 10,<-g4.i 6,<-g4.i 7]at v;rw[v10,w2];refine⟨fun h=>ah,fun _=>⟨fun _=>?_,fun h=>h rfl⟩⟩;refine aaK v fun q5 w T e5 q6 z _=>?_;rw[<-w.i 6,<-w.i 7,<-z.h 13,<-z.i 6,<-z.i 7]at T;refine VG T fun q7 F U v20 q8 B _=>?_;rw[<-F.i 6,<-F.i 7,<-B.h 20,<-B.i 6,<-B.i 7]at U;refine kI U fun q9 G V H=>?_;rw[<-G.i 6,<-G.i 7]at V;refine⟨⟨rfl,V⟩,fun I p ⟨J,K⟩=>⟨fun h=>?_,fun _=>?_⟩⟩
 .rw[J,p.i 23,H,t4]at h;omega
 refine kI K fun aa e r L=>?_;rw[<-e.i 6,<-e.i 7]at r;refine VH r fun f s ho=>?_;have hv:f.b 62=true:=Eq.mpr ho ⟨by rw[t6],by rw[t6]⟩;have he:∀ q,ai 62 f q->plP.map (CV.ev q)=VX b:=fun q g=>by
  have A:ai 60 I q:=e.mono.trans (s.mono.tr g);have A8:ai 25 q9 q:=p.tr A;have W:ai 22 q7 q:=B.trans (G.mono.tr A8);have M:ai 19 q5 q:=z.trans (F.mono.tr W);have A2:ai 10 q2 q:=g3.mono.trans (g4.mono.trans (w.mono.tr M));rw[Yb,A2.i 8,Z,(M.i 10).trans ((w.i 10).trans v10),w2,my M az,e5,W.b 20,v20,t3,(s.mono (ab8 _)).trans g |>.i 60,L,show aI 8 (Zk b)=most from t5,IntWalk.i64_in most ah];unfold VX kS;rw[t5];rfl
 have j:VX b=kS i0 [a0,a1,a2,a3,a4,a5] (.slice (au (-1) 0) 0 0) most:=hb▸Rf hid rfl hp;refine⟨fun _=>?_,fun h=>absurd hv h⟩;rw[he f (ai.refl _ _),j];refine⟨⟨_,_,_,_,_,_,_,_,_,_,_,rfl,hp⟩,fun l N ⟨_,O,_⟩=>⟨fun h=>absurd (Value.bool.inj O) h,fun _ _=>?_⟩⟩;have ev:(TV.tup [SV.agg plP,SV.one (CV.int IntKind.i64 (E.lit 0))]).ev l=.tuple #[.agg (VX b).toArray,.int .i64 0]:=by
  show Value.tuple #[.agg (plP.map (CV.ev l)).toArray,.int .i64 0]=_;rw[he l N.mono]
 obtain⟨P,t,Q⟩:=tX (ks:=VZ) (row:=VX b) (k:=.i64) 0 (by rw[j];exact Re) zzK (by rw[j];exact JO);refine⟨[],[],rfl,rfl,⟨P,ev.trans t.symm,Q⟩,fun u' R' b' e1 o d=>?_⟩;simp only[aae,abw]at e1 o;subst e1 o;obtain rfl:=a.uniq d;exact ev
def Wv:Sx.Spec where
 fn:=6
 own:=[]
 rd:=[]
 res:=[.one .bool]
 pre:=fun xs Hs Rs=>xs=[]
 post:=fun xs Hs Rs v Hs' F=>v=.bool true
def Tb:List Sx.Spec:=[nH,qe,lu,kO]
def Tc:∀ t∈Tb,t.OK Tryz.prog:=ak oY <| ak uH <| ak sI <| ak mO <| bu
noncomputable def adb:aD Tryz.prog Tb 6 where
 Λ:=aA
 args:=[]
 mem:=[]
 nv:=0
def Ta:Wv.OK Tryz.prog:=by
 refine Spec.cM (Γ:=Tb) Tc ?_;rintro xs Hs Rs f g rfl;have e0:Hs=[]:=aa1.1 f;have e1:Rs=[]:=aa1.1 g;subst e0 e1;refine⟨adb,Iq,fun _ _=>True,fun _ _=>0,rfl,aT rfl rfl,(fun _ h=>nomatch h),?_⟩;refine aD.read [] [] [] ?_;simp only[go_sem,Nat.reduceAdd,Tb,S9,Wg,Zl,abL,U7,rcQ];intro J _ _ q1 _ _ q2 _ _ K _ _ L _ _ M _ _ N _ _ q7 _ _ j _ p8;have w:OP (Hl.one (j.i 8).toNat (Obj.cells #[Value.slice (au (-1) 0) (Int.toNat 0) (Int.toNat 0),Value.bool (aY j E.ff)] 124 (0,0))) (j.i 8) [] 0:=OP.new p8;refine qC w ah ah ⟨ah,ah⟩ fun O P x=>?_;refine qC x ah ah ⟨ah,ah⟩ fun y A k=>?_;refine Y4 (vs:=[0,0,0,0,0,0]) k ah ah rfl (fun z hz=>by simp at hz;omega) fun m B o=>?_;refine VC o ah ah fun C D q=>?_;refine qC q ah ah ⟨ah,ah⟩ fun G H r=>?_;refine qC r ah ah ⟨ah,ah⟩ fun d I c=>?_;have c:OP (d.h 19) (d.i 8) _ _:=c;have len:∀ {l:List Int},l.length=11->(lj l false)=(l,0):=fun h=>by unfold lj;rw[aa8 (by simp;omega)]
 have e:([]++aF (Int.toNat 0)++aF (Int.toNat 2)++ng [0,0,0,0,0,0]++fR (aY m E.ff)++aF (Int.toNat 0)++aF (Int.toNat 1)).length=11:=by
  simp [ng,fR,jz]
 have s:∀ {R:Hl} {p:Int} {l:List Int} {n:Nat},OP R p l n->l.length=11->lj l false=(l,0)/\l.length<=1000000:=fun _ h=>⟨len h,ah⟩;have fin:=s c e;refine⟨⟨_,_,_,_,rfl,rfl,c.out,fin.2⟩,fun a _ ⟨F,hp,Q,hn⟩=>?_⟩;obtain⟨hB,v⟩:=Eb c.out hp;rw[fin.1]at hB v;have t:a.i 25=0:=by simpa using v
 have b:-1<=a.i 21/\0<=a.i 22/\0<=a.i 23/\0<=a.i 24:=hn.1;obtain⟨u,_⟩:=hB.rd.at b.1 b.2.1 b.2.2.1;refine⟨fun _=>⟨b.2.2.1,kU rfl ?_⟩,fun h=>absurd t h⟩;show Value.bool (aY a ((E.var 23).eq (E.lit 11)))=.bool true;have:a.i 23=11:=by rw[u];have:=ach Int.ofNat e;exact this
 congr 1
 rw[uf,ar,aq,this];rfl
end Go.Proofs.YtbdikjnpbnobcaaGreatDoor
namespace Go.Sx
open Go
section
variable {P:Program} {C:Ctx} {S:Nat->Prop} {w0:World} {J J':Env} {st:St} {mem mem':Mem} {a:Act} {w w':World}
def Ia:Tag->Int
 | .norm=>0
 | .ret=>1
 | .exit i=>2+i
def EB (s:St):List Nat->Option (List SV)
 | []=>some []
 | t::l=>match s.tmps[t]?,EB s l with
  | some (some (.sv v)),some vs=>some (v::vs)
  | _,_=>none
def wg (hA:Rel S w0 J st a w):∀ {l:List Nat} {vs:List SV},EB st l=some vs->l.map (fun t=>a.tmps[t]?)=vs.map fun v=>some (v.ev J)
 | [],vs,h=>by cases h;rfl
 | t::l,vs,h=>by
  unfold EB at h;split at h
  .rename_i v us h1 b;cases h;rw[abW,abW,wg hA b,hA.tmp t _ h1];rfl
  .cases h
def aaX (t:Tag) (vs:List SV):TV:=.tup (.one (.int .i64 (.lit (Ia t)))::vs)
def leaf (N n0:Nat) (outs:Tag->List Nat):Fy:=fun t s=>if s.tmps.length≠N then none else(EB s (outs t)).map fun vs=>.post s.mem (aaX t vs)
def K7 (ex:Ex) (p:List Nat):List Code->St->Fy->Option Nd
 | [],st,k=>k .norm st
 | c::l,st,k=>ex 0 (l.length::p) c st fun t s=>match t with
  | .norm=>if st.nv<=s.nv then K7 ex p l s k else none
  | t=>k t s
def yY (F:Fence) (n:Nat) (P:Program) (Q:Exit->Act->World->Prop):List Code->Act->World->Prop
 | []=>Q .normal
 | c::l=>c.wpIn F n P (Exit.then (yY F n P Q l) Q)
def ye {ro:Option Nat} {dn:Nat} {ex:Ex} (hex:xU ro P C ex) {p:List Nat} {k:Fy} {Q:Exit->Act->World->Prop} : ∀ (l:List Code) (st:St) (nd:Nd) (ms:Nat->Nat) (J:Env) (a:Act) (w:World),
 K7 ex p l st k=some nd->Rel S w0 J st a w->nd.holds C ms J->(∀ t,MD S w0 C 0 ms st.nv J (k t) (Q (iT t)))->yY (FW ro) dn P Q l a w
 | [],st,nd,ms,J,a,w,h,hA,hn,hk=>hk .norm ms st nd J a w (fun _ _=>rfl) h (ai.refl _ _) hA hn
 | c::l,st,nd,ms,J,a,w,h,hA,hn,hk=>by
  refine hex dn 0 _ c st _ nd ms S w0 J a w _ h hA hn fun t=>?_;intro d st' e J' a' w' f b hg g j;cases t with
  | norm =>
   simp only at b;split at b
   .rename_i hle;exact ye hex l st' e d J' a' w' b g j fun t=>(hk t).fx f hg hle
   .cases b
  | ret=>exact hk .ret d st' e J' a' w' f b hg g j
  | exit i=>exact hk (.exit i) d st' e J' a' w' f b hg g j
def oZ (R:Value->List Hl->Hl->Prop) (Hs:List Hl):Env->Mem->TV->Prop:=fun J mem r =>
 (∀ (p q:Nat) r s,p≠q->mem[p]?=some r->mem[q]?=some s->r.own=true->(r.hl J).bq (s.hl J))->∃ gs f,gs.length=Hs.length/\Db mem gs f=true/\R (r.ev J) (gs.map (uY J mem)) (uY J mem f)
def TL {Γ:List Spec} (m:∀ t∈Γ,t.OK P) {ro:Option Nat} {dn:Nat} {inv:Nat->Env->Prop} {mu:Nat->Env->Nat} {R:Value->List Hl->Hl->Prop} {Hs Rs:List Hl} {ex:Ex} (hex:xU ro P ⟨Γ,inv,mu,oZ R Hs⟩ ex)
 {p:List Nat} {l:List Code} {n0:Nat} {outs:Tag->List Nat} {nd:Nd} (h:K7 ex p l st (leaf st.tmps.length n0 outs)=some nd)
 (h1:∀ H∈Hs,H.sub w) (n:∀ R∈Rs,R.sub w) (o:∀ H∈Hs,∀ R∈Rs,H.bq R) (q:Entry J st.mem Hs Rs)
 (hsz:a.tmps.size=st.tmps.length) (g:a.defers=[]) (i:∀ (t:Nat) (v:TV),st.tmps[t]?=some (some v)->a.tmps[t]?=some (v.ev J)) (hp:Path J st.path)
 (hn:nd.holds ⟨Γ,inv,mu,oZ R Hs⟩ (fun _=>0) J) :
 yY (FW ro) dn P (fun e a' w'=>∃ t vs Hs' F,e=iT t/\a'.tmps.size=a.tmps.size/\a'.defers=[]/\(outs t).map (fun t=>a'.tmps[t]?)=vs.map some/\fq w w' Hs Hs' F/\R (.tuple (Value.int .i64 (Ia t)::vs).toArray) Hs' F) l a w:=by
 refine ye (C:=⟨Γ,inv,mu,oZ R Hs⟩) (w0:=w) (S:=fun b=>∃ H∈Hs,H.mem b) hex l st nd (fun _=>0) J a w h ⟨q.XX h1 n o,hsz,g,i,hp⟩ hn fun t=>?_;intro r st' s J' a' w' u c hg d j;unfold leaf at c;split at c
 .cases c
 rename_i hN;simp only[aaH]at c;obtain⟨vs,k,rfl⟩:=c;have hm:=d.toMRel;obtain⟨gs,f,hl,hok,x⟩:=j hm.bq;refine⟨t,vs.map (SV.ev J'),_,_,rfl,?_,d.defers,?_,fq.of hm hl hok,?_⟩
 .rw[d.size,hsz];grind
 .rw[wg d k,adv];rfl
 .exact x
end
end Go.Sx
namespace Go.Sx
open Go Go.RowKit
variable {a:Act}{Q:Exit->Act->World->Prop}{B gf l n:Nat}{o o0 o1 o2 o3:Oper}{g x y:Operand}{σ:Type}{T ty:TypeId}{W w:World}
section
variable {P:Program}
def rows (B:Nat) (r:Loop) (W:World):Prop:=W.heap[B+1]?=some (.loop r)/\W.heap[B]?=some (.deferred (some []))
def Yr (fn:FuncId) (t:Array Value) (ps:Array Tmp) (x y:Code) (B:Nat) (s:LoopState) (p:Option Code):Loop:={state:=s,pending:=p,fn:=fn,tmps:=t,params:=ps,assign:=x,body:=y,defers:=B}
def wD {r r':Loop} (h:rows B r W):rows B r' (W.putObj (B+1) (.loop r')) :=
 ⟨World.putObj_heap_same (acq.1 h.1).1,(World.putObj_heap_other ah).trans h.2⟩
def Yields (n:Nat) (P:Program) (gf:Nat) (lb:Array Value) (l:Nat) (Y Z:σ->World->Prop) (args:σ->Array Value) (W0:World) (Done:World->Prop):Prop :=
 ∀ (L X:World->Prop),(∀ W W',L W->W.heap.size<=W'.heap.size->(∀ b,b<W.heap.size->W'.heap[b]?=W.heap[b]?)->L W') ->
  (∀ s W,Y s W->L W->YieldAt Fence.wide (n-1-1) P l (args s) W fun e W'=>(e=.returned (.bool true)/\Z s W'/\L W')\/(e=.returned (.bool false)/\X W')) ->
  L W0->CallsIn Fence.wide (n-1) P gf (#[.func (.yield l) #[] #[]]++lb) W0 fun e W'=>(∃ v,e=.returned v)/\((Done W'/\L W')\/X W')
def ends (B:Nat) (rc:LoopState->Option Code->Loop) (Z:World->Prop) (Ix:Nat->World->Prop):Exit->Act->World->Prop
 | .normal,_,W=>rows B (rc .busy none) W/\Z (W.putObj (B+1) (.loop (rc .ready none)))
 | .exit i,_,W=>rows B (rc .busy none) W/\Ix i (W.putObj (B+1) (.loop (rc .done (some (.exit i)))))
 | _,_,_=>False
def ON {ps:Array Tmp} {x y:Code} {lb:Array Value}
 (hg:a.eval g=.func (.func gf) #[] lb) (m:∀ args w,(callFunc gf args).run P w=.ok (.enter gf args) w)
 {Y Z:σ->World->Prop} {args:σ->Array Value} {Done:World->Prop} {Ix:Nat->World->Prop} (hsz:∀ s,(args s).size=ps.size)
 (hseq:∀ rc,Yields n P gf lb (w.heap.size+1) Y Z args ((w.alloc (.deferred (some []))).alloc (.loop rc)) Done)
 (hround:∀ (rc:LoopState->Option Code->Loop) (s:σ) (W:World),Y s W->rows w.heap.size (rc .ready none) W ->
  x.wpIn (FW (some (w.heap.size+1))) (n-1-1) P (Exit.then (fun a1 d=>rows w.heap.size (rc .ready none) d/\y.wpIn (FW (some (w.heap.size+1))) (n-1-1) P (ends w.heap.size rc (Z s) Ix) a1 (d.putObj (w.heap.size+1) (.loop (rc .busy none)))) fun _ _ _=>False)
   {tmps:=(ps.zip (args s)).foldl (fun t (p,v)=>t.setIfInBounds p v) a.tmps,defers:=[]} W)
 (hdone:∀ r r' W,Done W->rows w.heap.size r W->Q .normal {a with defers:={target:=.collected w.heap.size,args:=#[]}::a.defers} (W.putObj (w.heap.size+1) (.loop r')))
 (hstop:∀ r r' i W,Ix i W->rows w.heap.size r W->Q (.exit i) {a with defers:={target:=.collected w.heap.size,args:=#[]}::a.defers} (W.putObj (w.heap.size+1) (.loop r'))) :
 (Code.rangeFunc g ps x y).wpIn Fence.wide n P Q a w:=by
 refine wpIn_rangeFunc ?_;intro fn l;obtain⟨rc,b⟩:∃ rc,rc=Yr fn a.tmps ps x y w.heap.size:=⟨_,rfl⟩;obtain⟨d,f⟩:∃ d,(w.alloc (.deferred (some []))).alloc (.loop (rc .ready none))=d:=⟨_,rfl⟩;have h1:rows w.heap.size (rc .ready none) d:=by
  rw[<-f];refine⟨?_,(Below.heap_alloc _ _ _ aC).trans (World.alloc_heap_new w _)⟩;have:=World.alloc_heap_new (w.alloc (.deferred (some []))) (.loop (rc .ready none));simp_all
 refine⟨w.heap.size+1,[{target:=.collected w.heap.size,args:=#[]}],d,{target:=.fn (.func gf) lb,args:=#[.func (.yield (w.heap.size+1)) #[] #[]]},d,gf,
  #[.func (.yield (w.heap.size+1)) #[] #[]]++lb,d,?_,?_,fun _ _=>trivial,?_,fun h=>(agr h).elim,?_⟩
 .rw[<-f,b];exact run_enterLoop_outer _ _ _ _ _
 .simp only[resolve,hg];simp [go_sem]
 .simp [invoke,go_sem,m]
 have hs:=hseq (rc .ready none);rw[f]at hs;refine(hs (rows w.heap.size (rc .ready none)) (fun W=>∃ i,Ix i W/\rows w.heap.size (rc .done (some (.exit i))) W)
  (fun W W' j _ hk=>⟨(hk _ (acq.1 j.1).1).trans j.1,(hk _ (acq.1 j.2).1).trans j.2⟩) ?_ h1).mono ?_
 .intro s W hY j;have hy:=run_yield (P:=P) (args:=args s) j.1 (by rw[b];exact hsz s);rw[b]at hy;refine⟨fn,_,x,y,hy,roundIn_of_wpIn l (wpIn_mono (hround rc s W hY j) ?_)⟩;rintro e a1 o hp;cases e with
  | normal =>
   obtain⟨hr,hb⟩:=hp;refine⟨_,by have:=run_beginRound (P:=P) hr.1 (by rw[b];rfl);exact this,wpIn_mono (Q:=ends w.heap.size rc (Z s) Ix) (by rw[b]at hb ⊢;exact hb) ?_⟩;rintro e a3 q hp;cases e with
   | normal =>
    obtain⟨c,hz⟩:=hp;have:=run_endRound (P:=P) none c.1;exact⟨_,_,this,.inl ⟨rfl,by rw[b]at hz ⊢;exact hz,by rw[b]at c ⊢;exact wD c⟩⟩
   | exit i =>
    obtain⟨c,hz⟩:=hp;have:=run_endRound (P:=P) (some (.exit i)) c.1;exact⟨_,_,this,.inr ⟨rfl,i,by rw[b]at hz ⊢;exact hz,by rw[b]at c ⊢;exact wD c⟩⟩
   | _=>exact hp.elim
  | _=>exact hp.elim
 .rintro e o ⟨⟨v,rfl⟩,k⟩;rcases k with ⟨hd,hr⟩ | ⟨i,hx,hr⟩
  .exact⟨none,_,by have:=run_endLoop (P:=P) hr.1 (by rw[b];simp [Yr]);rw[b]at this;exact this,hdone _ _ _ hd hr⟩
  .exact⟨some (.exit i),_,by have:=run_endLoop (P:=P) hr.1 (by rw[b];simp [Yr]);rw[b]at this;exact this,wpIn_exit (hstop _ _ _ _ hx hr)⟩
end
section
variable {P:Program}
def SN (ho:o.op=.call {callee:=.value x,args:=#[y],argTypes:=#[T]}) {v:Value} {K:Act->World->Prop} {A X:World->Prop}
 (hx:a.eval x=.func (.yield l) #[] #[]) (hv:a.eval y=v)
 (hy:YieldAt Fence.wide (n-1) P l #[v] w fun e W=>(e=.returned (.bool true)/\A W)\/(e=.returned (.bool false)/\X W))
 (hA:∀ W,A W->K (a.put o.dst (.bool true)) W) (hX:∀ W,X W->K (a.put o.dst (.bool false)) W):o.wpIn Fence.wide n P a w K Q:=by
 obtain⟨fn,tmps,b,body,hy,c⟩:=hy;have h:∀ ev:Operand->Value,ev x=.func (.yield l) #[] #[]->ev y=v->(execOp ev o).run P w=.ok (.round l fn tmps b body) w:=by
  intro ev hx hv;unfold execOp;rw[ho];simp [resolve,invoke,hx,hv,go_sem,hy]
 have h:=h _ hx hv;refine⟨fun _ _=>trivial,?_⟩;rw[Oper.semAt_eq _ _ _ (zD h fun _ h=>by cases h),h,Oper.uponIn_round];refine⟨fun h=>(agr h).elim,c.mono ?_⟩
 grind
def Fp {id p d d0 d1 d2 d3:Nat} (g0:o0.guard=none) (r:o1.guard=none) (s:o2.guard=none) (g3:o3.guard=none)
 (e0:o0.op=.move (.tmp p)) (e1:o1.op=.load T (.tmp d)) (u:o2.op=.call {callee:=.value (.tmp d0),args:=#[.tmp d1],argTypes:=#[T]}) (q:o3.op=.unOp .not ty (.tmp d2))
 (f0:o0.dst=some d0) (f1:o1.dst=some d1) (f2:o2.dst=some d2) (f3:o3.dst=some d3)
 {a:Act} {w:World} {b m:Nat} {row:List Value} {B:TypeId} {fr:Nat×Nat} {Q:Exit->Act->World->Prop} {A X:World->Prop}
 (hs0:d0<a.tmps.size) (f:d1<a.tmps.size) (c:d2<a.tmps.size) (g:d0≠d1) (i:d0≠d)
 (ha0:a.tmps[p]?=some (.func (.yield l) #[] #[])) (k:a.tmps[d]?=some (.pointer (some ⟨b,0,none⟩)))
 (hg:DN P T=some true) (hm:fj P T=some m) (hl:row.length=m) (hb:w.heap[b]?=some (.cells row.toArray B fr))
 (hy:YieldAt Fence.wide (n-1) P l #[.agg row.toArray] w fun e W=>(e=.returned (.bool true)/\A W)\/(e=.returned (.bool false)/\X W))
 (hA:∀ W,A W->Q .normal ((((a.put (some d0) (.func (.yield l) #[] #[])).put (some d1) (.agg row.toArray)).put (some d2) (.bool true)).put (some d3) (.bool false)) W)
 (hX:∀ W,X W->Q .normal ((((a.put (some d0) (.func (.yield l) #[] #[])).put (some d1) (.agg row.toArray)).put (some d2) (.bool false)).put (some d3) (.bool true)) W) :
 (Code.region id #[o0,o1,o2,o3] false).wpIn Fence.wide n P Q a w:=by
 refine wpIn_region_lit (l:=[o0,o1,o2,o3]) (wpListIn_plain g0 fun K hK=>(XE none n P).val (v:=.func (.yield l) #[] #[]) (w':=w) ?_ (hK _ _ ?_))
 .unfold execOp;rw[e0];simp [Act.eval,ha0,go_sem]
 rw[f0];refine wpListIn_plain r fun K hK=>(XE none n P).val (v:=.agg row.toArray) (w':=w) ?_ (hK _ _ ?_)
 .unfold execOp;rw[e1];have:(a.put (some d0) (.func (.yield l) #[] #[])).eval (.tmp d)=.pointer (some ⟨b,0,none⟩):=by
   simp [Act.eval,Act.put,aci,i,k]
  simp only[this];have:=oa (P:=P) (t:=T) (b:=b) (o:=0) (n:=m) (cs:=row) (w:=w) hg hm hl fun j v x=>by
   rw[aco];simp [World.cell?,hb,x]
  have y:(Instr.loadAt T (.pointer (some ⟨b,0,none⟩))).run P w=.ok (.agg row.toArray) w:=this;simp_all
 rw[f1];refine wpListIn_plain s fun K hK=>SN u (v:=.agg row.toArray) ?_ ?_ hy (fun W h=>hK _ _ ?_) (fun W h=>hK _ _ ?_)
 .simp [Act.eval,Act.put,aci,g.symm,hs0]
 .simp [Act.eval,Act.put,aci,f]
 .rw[f2];refine wpListIn_plain g3 fun K hK=>(XE none n P).val (v:=.bool false) (w':=W) ?_ (hK _ _ ?_)
  .unfold execOp;rw[q];simp [Act.eval,Act.put,aci,c,go_sem]
  .rw[f3];exact hA W h
 .rw[f2];refine wpListIn_plain g3 fun K hK=>(XE none n P).val (v:=.bool true) (w':=W) ?_ (hK _ _ ?_)
  .unfold execOp;rw[q];simp [Act.eval,Act.put,aci,c,go_sem]
  .rw[f3];exact hX W h
def Vc:List Code->Code->Code
 | [],c=>c
 | x::l,c=>.seq x (Vc l c)
def xQ {F:Fence} {n:Nat} {Q:Exit->Act->World->Prop} {c:Code} : ∀ {l:List Code} {a:Act} {w:World},yY F n P (Exit.then (c.wpIn F n P Q) Q) l a w->(Vc l c).wpIn F n P Q a w
 | [],a,w,h=>h
 | x::l,a,w,h=>wpIn_seq (wpIn_mono h fun e a w=>by
  cases e with
  | normal=>exact fun h=>xQ h
  | _=>exact id)
def iL {F:Fence} {n:Nat} {Q c:Exit->Act->World->Prop} (b:∀ e a w,Q e a w->c e a w):∀ {l:List Code} {a:Act} {w:World},yY F n P Q l a w->yY F n P c l a w
 | [],a,w,h=>b _ _ _ h
 | x::l,a,w,h=>wpIn_mono h fun e a w=>by
  cases e with
  | normal=>exact fun h=>iL b h
  | _=>exact b _ _ _
end
end Go.Sx
namespace Go.Sx
open Go
variable {a:Act}{C:Ctx}{J:Env}{Hs Rs:List Hl}{Γ:List Spec}{dn n:Nat}{ms:Nat->Nat}{x y:Nd}{ro:Option Nat}{P:Program}{w w':World}
structure fz (P:Program) (Γ:List Spec) where
 Λ:oz:=aA
 lim:Nat:=100
 fuel:Nat:=400
 cs:List Code
 st:St
 outs:Tag->List Nat
 plain:Bool:=false
def dkP (P:Program) (Γ:List Spec):Bool->Dk
 | true=>PM
 | false=>dk P Γ
def Xa (a:∀ s∈C.Γ,s.OK P):∀ b,Fv P C (dkP P C.Γ b)
 | true=>MY P C
 | false=>FX a
def Tz (a:∀ s∈C.Γ,s.OK P) : ∀ b,(b=true\/ro=none)->Fw ro P C (dkP P C.Γ b)
 | true,_=>fun _ _ _ _ _ _ _ _ _ _ _ _ _ _ _ _ h=>by cases h
 | false,h=>by
  obtain rfl:=h.resolve_left az;exact(FX a).to
def fz.V (W:fz P Γ):Option Nd:=K7 (exec P Γ (dkP P Γ W.plain) W.Λ W.lim W.fuel) [] W.cs W.st (leaf W.st.tmps.length 0 W.outs)
@[irreducible] def fz.I1 (W:fz P Γ) (C:Ctx) (ms:Nat->Nat) (J:Env):Prop:=∃ nd,W.V=some nd/\nd.holds C ms J
def fz.lit {W:fz P Γ} (g:x.holds C ms J) (e:W.V=some x:=by kernel_rfl):W.I1 C ms J:=by unfold fz.I1;grind
def fz.read {W:fz P Γ} (a:List (List Ck)) (b:List (List Kd)) (c:List (List CV)) {v:Value} (g:y.holds C ms J) (_:Sem.run (K.VA (K.eN ⟨a,b,c⟩ (W.V.getD .tt) >>>20)) (method 1 0 .nilFunc "") default=.ok (n,v) default:=by go_invoke;exact rfl)
 (_:K.dN ⟨a,b,c⟩ n 400 0 (K.tg n 0)=y:=by simp (config:={maxSteps:=10000000}) only[go_sem,Nat.reduceShiftRight,Nat.reduceMod,Nat.reduceAdd,Nat.reduceMul,Nat.reduceDiv,Nat.reducePow,Int.reduceNatCast',Int.reduceNeg,Int.reduceAdd];exact rfl)
 (e:W.V=some y:=by kernel_rfl):W.I1 C ms J:=fz.lit g e
def fz.sound (b:∀ t∈Γ,t.OK P) (W:fz P Γ) (c:W.plain=true\/ro=none) {inv:Nat->Env->Prop} {mu:Nat->Env->Nat} {R:Value->List Hl->Hl->Prop} 
 (h1:∀ H∈Hs,H.sub w) (g:∀ R∈Rs,R.sub w) (h:∀ H∈Hs,∀ R∈Rs,H.bq R) (i:Entry J W.st.mem Hs Rs)
 (hsz:a.tmps.size=W.st.tmps.length) (d:a.defers=[]) (f:∀ (t:Nat) (v:TV),W.st.tmps[t]?=some (some v)->a.tmps[t]?=some (v.ev J)) (hp:Path J W.st.path)
 (hn:W.I1 ⟨Γ,inv,mu,oZ R Hs⟩ (fun _=>0) J) :
 yY (FW ro) dn P (fun e a' w'=>∃ t vs Hs' F,e=iT t/\a'.tmps.size=a.tmps.size/\a'.defers=[]/\(W.outs t).map (fun t=>a'.tmps[t]?)=vs.map some/\fq w w' Hs Hs' F/\R (.tuple (Value.int .i64 (Ia t)::vs).toArray) Hs' F) W.cs a w:=by
 unfold fz.I1 at hn;obtain⟨nd,j,hn⟩:=hn;exact TL (ro:=ro) b (Gb (C:=⟨Γ,inv,mu,oZ R Hs⟩) b (Xa (C:=⟨Γ,inv,mu,oZ R Hs⟩) b W.plain) (Tz (C:=⟨Γ,inv,mu,oZ R Hs⟩) b W.plain c) W.Λ W.lim W.fuel) j h1 g h i hsz d f hp hn
def fq.qU {F:Hl} (h:fq w w' [] Hs F):gX (fun _=>False) w w':=⟨h.os,h.tape,h.output,h.size,fun b hb _=>h.block b hb aC⟩
def fz.pure (b:∀ t∈Γ,t.OK P) (W:fz P Γ) {R:Value->Prop} (hm:W.st.mem=[]) (hp:W.st.path=[])
 (hsz:a.tmps.size=W.st.tmps.length) (c:a.defers=[]) (d:∀ (t:Nat) (v:TV),W.st.tmps[t]?=some (some v)->a.tmps[t]?=some (v.ev J))
 (hn:W.I1 ⟨Γ,fun _ _=>True,fun _ _=>0,oZ (fun v _ _=>R v) []⟩ (fun _=>0) J) :
 yY (FW none) dn P (fun e a' w'=>∃ t vs,e=iT t/\a'.tmps.size=a.tmps.size/\a'.defers=[]/\(W.outs t).map (fun t=>a'.tmps[t]?)=vs.map some/\gX (fun _=>False) w w'/\R (.tuple (Value.int .i64 (Ia t)::vs).toArray)) W.cs a w:=by
 refine iL ?_ (fz.sound (Rs:=[]) b W (Or.inr rfl) (Hs:=[]) aC aC aC ?_ hsz c d (by rw[hp];intro e he;cases he) hn)
 .rintro e a' w' ⟨t,vs,Hs',F,h1,f,g,h,i,j⟩;exact⟨t,vs,h1,f,g,h,i.qU,j⟩
 .rw[hm];exact⟨aC,aC,.nil,aC⟩
end Go.Sx
namespace Go.Pk
open Go
variable {i j k m n:Nat}{cur:Nat->Nat}
section
variable {α:Type}
def gh (st:Nat->List α) (cur:Nat->Nat) (k i:Nat):List α:=(List.range i).filterMap fun j=>(st j)[cur j+k]?
def dJ (st:Nat->List α) (cur:Nat->Nat):Nat->List α
 | 0=>[]
 | k+1=>dJ st cur k++gh st cur k 6
def gn (st:Nat->List α) (cur:Nat->Nat) (k i:Nat):gh st cur k (i+1)=gh st cur k i++((st i)[cur i+k]?).toList:=by
 unfold gh;rw[List.range_succ,List.filterMap_append]
 grind
def sS {st:Nat->List α} : gh st cur k i=[]↔∀ j,j<i->(st j).length<=cur j+k:=by
 induction i with
 | zero=>simp [gh]
 | succ i ih =>
  rw[gn];constructor
  .intro h j a;obtain⟨h1,b⟩:=List.append_eq_nil_iff.1 h
   grind
  grind
def Hy {st:Nat->List α} (h:gh st cur k 6=[]) (hk:k<=m):gh st cur m 6=[] :=
 sS.2 fun j a=>by have:=sS.1 h j a;omega
def yI {st:Nat->List α} (h:gh st cur k 6=[]):∀ {m:Nat},k<=m->dJ st cur m=dJ st cur k:=by
 intro m hm
 induction m with
 | zero=>grind
 | succ m ih =>
  by_cases e:k=m+1
  .rw[e]
  .rw[dJ,Hy h (show k<=m by omega),acD,ih Sx.ah]
def Dt {st:Nat->List α} (h:∀ j,j<6->(st j).length<=n) (hm:n<=m):dJ st cur m=dJ st cur n :=
 yI (sS.2 fun j a=>by grind) hm
def J8 {st:Nat->List α} (h:k<=m):dJ st cur k <+: dJ st cur m:=by
 induction m with
 | zero=>grind
 | succ m ih =>
  by_cases e:k=m+1
  .grind
  .exact(ih Sx.ah).trans (List.prefix_append _ _)
def EU {st:Nat->List α} (h:i<=j):gh st cur k i <+: gh st cur k j:=by
 induction j with
 | zero=>grind
 | succ j ih =>
  by_cases e:i=j+1
  .grind
  .rw[gn];grind
def before (st:Nat->List α) (cur:Nat->Nat) (k i:Nat):List α:=dJ st cur k++gh st cur k i
def Co {st:Nat->List α} (hi:i<=6) (hk:k<m):before st cur k i <+: dJ st cur m :=
 ((List.prefix_append_right_inj _).2 (EU hi)).trans (J8 (k:=k+1) hk)
def B0 {l m:List α} (h:l <+: m) (hl:l.length=n):m.take n=l:=by
 obtain⟨t,rfl⟩:=h
 grind
end
end Go.Pk
namespace Go.Proofs.YtbdikjnpbnobcaaGreatDoor
open Go Go.Sx Go.Pk
variable {a:Act}{s:Bool}{i k:Int}{w:World}
def iS (cv:Nat->Int) (i:Nat):Nat:=(min (cv i) 1048576).toNat
def mi:Code->Code
 | .seq a _=>a
 | .block _ c=>c
 | .loop c=>c
 | c=>c
def iB:Code->Code
 | .seq _ b=>b
 | c=>c
noncomputable def Cq:Code:=match Tryz.f180.body with
 | some c=>mi (mi (iB (mi (iB (mi (mi (mi (mi (iB c)))))))))
 | none=>.skip
noncomputable def ZI:Code:=mi (mi (iB (iB Cq)))
noncomputable def Vy:Code:=match Tryz.f180.body with
 | some c=>c
 | none=>.skip
noncomputable def ZJ:Code:=mi (mi (iB Vy))
noncomputable def SS:Code:=mi (mi ZJ)
noncomputable def bhL:List Code:=[mi ZI,mi (iB ZI),mi (iB (iB ZI)),mi (iB (iB (iB ZI)))]
def Fa (l:List (Nat×TV)):List (Option TV):=(List.range 36).map fun i=>(l.find? fun p=>p.1==i).map (·.2)
def ZL:St:=⟨Fa [(0,.sv (.one (.vr 0))),(1,.sv (.one (.hptr (.var 0) (.lit 0)))),(2,.sv (.one (.hptr (.var 1) (.lit 0)))),(4,.sv (.one (.int .u64 (.var 2)))),(5,.sv (.one (.bool (.bvar 3)))),(11,.sv (.one (.int .i64 (.var 4))))],[.ro 10 [.var 0,.var 1] true],11,[]⟩
def ZK:Tag->List Nat
 | .norm=>[0,1,2,4,5,7,11]
 | _=>[0,1,2,4,5,11]
def DV:List (Nat×TV):=[(0,.sv (.one (.vr 0))),(1,.sv (.one (.hptr (.var 0) (.lit 0)))),(2,.sv (.one (.hptr (.var 1) (.lit 0))))]
def kk:Nat×TV:=(4,.sv (.one (.int .u64 (.var 2))))
def ss:Nat×TV:=(5,.sv (.one (.bool (.bvar 3))))
def ii:Nat×TV:=(11,.sv (.one (.int .i64 (.var 4))))
def YT (l:List (Nat×TV)):St:=⟨Fa (DV++l),[],11,[]⟩
noncomputable def f0:fz Tryz.prog [] where
 cs:=[mi Vy]
 st:=YT []
 outs:=fun _=>[0,1,2,4]
noncomputable def f2:fz Tryz.prog [] where
 cs:=[mi SS,mi (mi (iB SS))]
 st:=YT [kk]
 outs:=fun _=>[0,1,2,4,5,11]
noncomputable def f4:fz Tryz.prog [] where
 cs:=[mi Cq,mi (iB Cq)]
 st:=YT [kk,ss,ii]
 outs:=fun _=>[0,1,2,4,5,11]
noncomputable def f10:fz Tryz.prog [] where
 cs:=[iB (iB (iB Cq))]
 st:=YT [kk,ss,ii]
 outs:=fun _=>[0,1,2,4,5,11]
noncomputable def f11:fz Tryz.prog [] where
 cs:=[iB (iB SS)]
 st:=YT [kk,ss,ii]
 outs:=fun _=>[0,1,2,4,5,11]
noncomputable def f1:fz Tryz.prog [] where
 cs:=[iB ZJ]
 st:=YT [kk,ss,ii]
 outs:=fun _=>[0,1,2,4,5,11]
def uU {l:List (Nat×TV)} {t:Nat} {v:TV} (h:(Fa l)[t]?=some (some v)):(t,v)∈l:=by
 unfold Fa at h;simp only[abl,aaH]at h
 grind
def M1 (i:List Int) (b:Bool) (v:Value) (h:Hl):Env:=⟨fun n=>i.getD n 0,fun _=>b,fun _=>.empty,fun _=>v,fun _=>h⟩
structure dg (y:Value) (b1 b2:Nat) (a:Act) (k:Option Int) (s:Option Bool) (i:Option Int):Prop where
 sz:a.tmps.size=36
 df:a.defers=[]
 t0:a.tmps[0]?=some y
 t1:a.tmps[1]?=some (.pointer (some ⟨b1,0,none⟩))
 t2:a.tmps[2]?=some (.pointer (some ⟨b2,0,none⟩))
 t4:∀ x,k=some x->a.tmps[4]?=some (.int .u64 x)
 t5:∀ x,s=some x->a.tmps[5]?=some (.bool x)
 t11:∀ x,i=some x->a.tmps[11]?=some (.int .i64 x)
def kY:∀ {t u:Tag},Ia t=Ia u->t=u
 | .norm,.norm,_=>rfl
 | .ret,.ret,_=>rfl
 | .exit i,.exit j,h=>by have:(2:Int)+i=2+j:=h;grind
 | .norm,.ret,h=>absurd h Sx.az
 | .ret,.norm,h=>absurd h Sx.az
 | .norm,.exit i,h=>absurd h (show ¬(0:Int)=2+i by omega)
 | .exit i,.norm,h=>absurd h (show ¬(2:Int)+i=0 by omega)
 | .ret,.exit i,h=>absurd h (show ¬(1:Int)=2+i by omega)
 | .exit i,.ret,h=>absurd h (show ¬(2:Int)+i=1 by omega)
def abg (k:Option Int) (s:Option Bool) (i:Option Int):List (Nat×TV):=(k.map fun _=>kk).toList++(s.map fun _=>ss).toList++(i.map fun _=>ii).toList
def Xg (y:Value) (b1 b2:Nat) (k:Option Int) (s:Option Bool) (i:Option Int):Env:=M1 [b1,b2,k.getD 0,0,i.getD 0] (s.getD false) y Hl.none
def U0 (y:Value) (b1 b2:Nat) (t:Tag) (k:Int) (s:Bool) (i:Int):Value:=.tuple #[.int .i64 (Ia t),y,.pointer (au (b1:Int) 0),.pointer (au (b2:Int) 0),.int .u64 k,.bool s,.int .i64 i]
def dg.run {y:Value} {b1 b2:Nat} {dn:Nat} {k:Option Int} {s:Option Bool} {i:Option Int} (h:dg y b1 b2 a k s i) (W:fz Tryz.prog []) (b:W.st=YT (abg k s i)) (g:∀ t,W.outs t=[0,1,2,4,5,11])
 {T:Tag->Int->Bool->Int->Prop}
 (hn:W.I1 ⟨[],fun _ _=>True,fun _ _=>0,oZ (fun v _ _=>∃ t c d f,T t c d f/\v=U0 y b1 b2 t c d f) []⟩ (fun _=>0) (Xg y b1 b2 k s i)) :
 yY (FW none) dn Tryz.prog (fun e a' w'=>∃ t c d f,e=iT t/\T t c d f/\dg y b1 b2 a' (some c) (some d) (some f)/\gX (fun _=>False) w w') W.cs a w:=by
 refine iL ?_ (fz.pure Sx.aC W (by rw[b];rfl) (by rw[b];rfl) (by rw[b];exact h.sz) h.df ?_ hn)
 .rintro e a' w' ⟨t,vs,rfl,hsz,l,hm,hk,t',c,d,f,hT,hv⟩;rw[g]at hm;unfold U0 at hv;rw[av Sx.ah,av Sx.ah]at hv;simp only[Value.tuple.injEq,acp,aae,Value.int.injEq,acu]at hv;obtain⟨j,rfl⟩:=hv;obtain rfl:=kY j;simp only[abW,acI,aae,abw]at hm;obtain⟨m,m1,m2,o,p,n⟩:=hm;exact⟨t,c,d,f,rfl,hT,⟨hsz.trans h.sz,l,m,m1,m2,fun x hx=>by grind,fun x hx=>by grind,fun x hx=>by grind⟩,hk⟩
 .intro t v j;rw[b]at j;have:=uU j;simp only[DV,abg,acg,aaW,abd,acs,acx,Option.mem_toList,Option.mem_def,aaH]at this;rcases this with (⟨rfl,rfl⟩ | ⟨rfl,rfl⟩ | ⟨rfl,rfl⟩) | (⟨x,rfl,hx⟩ | ⟨x,rfl,hx⟩) | ⟨x,rfl,hx⟩
  .exact h.t0
  .exact h.t1.trans (by trivial)
  .exact h.t2.trans (by trivial)
  .cases hx;exact h.t4 _ rfl
  .cases hx;exact h.t5 _ rfl
  .cases hx;exact h.t11 _ rfl
def aam {y:Value} {b1 b2:Nat} {dn:Nat} (h:dg y b1 b2 a (some k) (some s) (some i)) :
 yY (FW none) dn Tryz.prog (fun e a' w'=>∃ t b c d,e=iT t/\(((t=.norm/\i<6)\/(t=.exit 2/\¬i<6))/\b=k/\c=s/\d=i)/\dg y b1 b2 a' (some b) (some c) (some d)/\gX (fun _=>False) w w') f4.cs a w:=by
 refine h.run f4 rfl (fun _=>rfl) (T:=fun t b c d=>((t=.norm/\i<6)\/(t=.exit 2/\¬i<6))/\b=k/\c=s/\d=i) ?_;refine fz.read [] [] [] ?_;simp only[go_sem];refine⟨fun hi=>fun _=>⟨[],[],rfl,rfl,.norm,k,s,i,⟨Or.inl ⟨rfl,hi⟩,rfl,rfl,rfl⟩,rfl⟩,fun hi=>fun _=>⟨[],[],rfl,rfl,.exit 2,k,s,i,⟨Or.inr ⟨rfl,hi⟩,rfl,rfl,rfl⟩,rfl⟩⟩
def aal {y:Value} {b1 b2:Nat} {dn:Nat} (h:dg y b1 b2 a (some k) none none) :
 yY (FW none) dn Tryz.prog (fun e a' w'=>∃ t b c d,e=iT t/\(t=.norm/\b=k/\c=false/\d=0)/\dg y b1 b2 a' (some b) (some c) (some d)/\gX (fun _=>False) w w') f2.cs a w:=by
 refine h.run f2 rfl (fun _=>rfl) (T:=fun t b c d=>t=.norm/\b=k/\c=false/\d=0) ?_;refine fz.read [] [] [] ?_;simp only[go_sem];exact fun _=>⟨[],[],rfl,rfl,.norm,k,false,0,⟨rfl,rfl,rfl,rfl⟩,rfl⟩
def Xl {y:Value} {b1 b2:Nat} {dn:Nat} (h:dg y b1 b2 a (some k) (some s) (some i)) :
 yY (FW none) dn Tryz.prog (fun e a' w'=>∃ t b c d,e=iT t/\(t=.norm/\b=k/\c=s/\d=IntKind.i64.wrap (i+1))/\dg y b1 b2 a' (some b) (some c) (some d)/\gX (fun _=>False) w w') f10.cs a w:=by
 refine h.run f10 rfl (fun _=>rfl) (T:=fun t b c d=>t=.norm/\b=k/\c=s/\d=IntKind.i64.wrap (i+1)) ?_;refine fz.read [] [] [] ?_;simp only[go_sem];exact fun _=>⟨[],[],rfl,rfl,.norm,k,s,_,⟨rfl,rfl,rfl,rfl⟩,rfl⟩
def aak {y:Value} {b1 b2:Nat} {dn:Nat} (h:dg y b1 b2 a (some k) (some s) (some i)) :
 yY (FW none) dn Tryz.prog (fun e a' w'=>∃ t b c d,e=iT t/\(t=.norm/\b=IntKind.u64.wrap (k+1)/\c=s/\d=i)/\dg y b1 b2 a' (some b) (some c) (some d)/\gX (fun _=>False) w w') f1.cs a w:=by
 refine h.run f1 rfl (fun _=>rfl) (T:=fun t b c d=>t=.norm/\b=IntKind.u64.wrap (k+1)/\c=s/\d=i) ?_;refine fz.read [] [] [] ?_;simp only[go_sem];exact fun _=>⟨[],[],rfl,rfl,.norm,_,s,i,⟨rfl,rfl,rfl,rfl⟩,rfl⟩
def Xm {y:Value} {b1 b2:Nat} {dn:Nat} (h:dg y b1 b2 a (some k) (some s) (some i)) :
 yY (FW none) dn Tryz.prog (fun e a' w'=>∃ t b c d,e=iT t/\(((t=.norm/\s=true)\/(t=.ret/\s=false))/\b=k/\c=s/\d=i)/\dg y b1 b2 a' (some b) (some c) (some d)/\gX (fun _=>False) w w') f11.cs a w:=by
 refine h.run f11 rfl (fun _=>rfl) (T:=fun t b c d=>((t=.norm/\s=true)\/(t=.ret/\s=false))/\b=k/\c=s/\d=i) ?_;refine fz.read [] [] [] ?_;simp only[go_sem];exact⟨fun hs _=>⟨[],[],rfl,rfl,.ret,k,s,i,⟨Or.inr ⟨rfl,by simpa [Xg,M1] using hs⟩,rfl,rfl,rfl⟩,rfl⟩,fun hs _=>⟨[],[],rfl,rfl,.norm,k,s,i,⟨Or.inl ⟨rfl,by trivial⟩,rfl,rfl,rfl⟩,rfl⟩⟩
open RowKit
variable {a:Act}{N:Nat}{s:Option Bool}{i k:Option Int}{W:World}{L X:World->Prop}
section
variable {α:Type} {st:Nat->List α} {cur:Nat->Nat} {y:Value} {b1 b2 l dn:Nat}
structure ItH (st:Nat->List α) (cur:Nat->Nat) (y:Value) (b1 b2 dn N:Nat) (I:List α->World->Prop) (L X:World->Prop):Prop where
 cJ:∀ W W',L W->gX (fun _=>False) W W'->L W'
 ikeep:∀ pre W W',I pre W->gX (fun _=>False) W W'->I pre W'
 round:∀ a W (k:Nat) (s:Bool) (i:Nat),i<6->k<=N->dg y b1 b2 a (some (k+1)) (some s) (some i)->I (before st cur k i) W->L W ->
  (mi (mi (iB (iB Cq)))).wpIn Fence.wide dn Tryz.prog (fun e a' W' =>
   (e=.exit 3/\(st i)[cur i+k]?=none/\dg y b1 b2 a' (some (k+1)) (some s) (some i)/\I (before st cur k i) W'/\L W') \/
   (e=.normal/\(st i)[cur i+k]?≠none/\dg y b1 b2 a' (some (k+1)) (some true) (some i)/\I (before st cur k (i+1)) W'/\L W') \/
   (e=.ret/\a'.defers=[]/\X W')) a W
def QX (a:Act) (_:World):Nat:=match a.tmps[11]? with
 | some (Value.int _ x)=>(6-x).toNat
 | _=>0
def dg.mu {i:Nat} (h:dg y b1 b2 a k s (some (i:Int))):QX a W=6-i:=by
 unfold QX;rw[h.t11 _ rfl];grind
def Qt {I:List α->World->Prop} (H:ItH st cur y b1 b2 dn N I L X) {k:Nat} (o:k<=N) (h:dg y b1 b2 a (some (k+1)) (some false) (some 0)) (hI:I (dJ st cur k) W) (n:L W) :
 (iB (mi (iB SS))).wpIn Fence.wide dn Tryz.prog (fun e a' W' =>
  (e=.normal/\∃ s:Bool,(s=false↔gh st cur k 6=[])/\dg y b1 b2 a' (some (k+1)) (some s) (some 6)/\I (dJ st cur (k+1)) W'/\L W')\/(e=.ret/\a'.defers=[]/\X W')) a W:=by
 show(Code.block 2 (Code.loop Cq)).wpIn _ _ _ _ _ _;refine wpIn_block (wpIn_loop (fun a W=>∃ (i:Nat) (s:Bool),i<=6/\(s=false↔gh st cur k i=[])/\dg y b1 b2 a (some (k+1)) (some s) (some i)/\I (before st cur k i) W/\L W) QX ⟨0,false,Sx.ah,by simp [gh],h,by simpa [before,gh] using hI,n⟩ ?_);rintro a W ⟨i,s,hi,hs,hA,hI,n⟩;show(Vc f4.cs (.seq (.block 3 (mi (mi (iB (iB Cq))))) (iB (iB (iB Cq))))).wpIn _ _ _ _ _ _;refine xQ (iL ?_ (aam hA));rintro e a1 A ⟨t,v,l,w,rfl,⟨p,e1,q,r⟩,d,b⟩;rw[e1,q,r]at d;rcases p with ⟨rfl,p⟩ | ⟨rfl,p⟩
 rotate_left
 .have B:i=6:=Sx.ah;subst B;exact Or.inl ⟨rfl,s,hs,d,H.ikeep _ _ _ hI b,H.cJ _ _ n b⟩
 have u:i<6:=Sx.ah;refine wpIn_seq (wpIn_block (wpIn_mono (H.round a1 A k s i u o d (H.ikeep _ _ _ hI b) (H.cJ _ _ n b)) ?_));have x:∀ (l:Bool) (a2:Act) (c:World),(l=false↔gh st cur k (i+1)=[])->dg y b1 b2 a2 (some (k+1)) (some l) (some i)->I (before st cur k (i+1)) c->L c ->
  ∀ Q,(iB (iB (iB Cq))).wpIn (FW none) dn Tryz.prog (Exit.then (fun a' W'=>(∃ (i:Nat) (s:Bool),i<=6/\(s=false↔gh st cur k i=[])/\dg y b1 b2 a' (some (k+1)) (some s) (some i)/\I (before st cur k i) W'/\L W')/\QX a' W'<QX a W) Q) a2 c:=fun l a2 c h1 f g m Q=>by
  have C:yY (FW none) dn Tryz.prog _ [iB (iB (iB Cq))] a2 c:=Xl f;refine wpIn_mono C ?_;intro e a3 D z;cases e with
  | normal =>
   obtain⟨t,v,s2,w,_,⟨_,e1,q,r⟩,j,Lg⟩:=z;rw[e1,q,r,show IntKind.i64.wrap ((i:Int)+1)=((i+1:Nat):Int)by rw[IntKind.wrap_i64];omega]at j;exact⟨⟨i+1,l,Sx.ah,h1,j,H.ikeep _ _ _ g Lg,H.cJ _ _ m Lg⟩,by rw[j.mu,hA.mu];omega⟩
  | _=>obtain⟨t,v,s2,w,e0,⟨e1,_⟩,_⟩:=z;rw[e1]at e0;cases e0
 rintro e a2 c (⟨rfl,hn,f,g,m⟩ | ⟨rfl,hn,f,g,m⟩ | ⟨rfl,f,g⟩)
 .refine x s a2 c ?_ f ?_ m _
  .rw[gn,hn];grind
  .unfold before;rw[gn,hn];simpa [before] using g
 .refine x true a2 c ?_ f g m _;rw[gn];simp_all
 .exact Or.inr ⟨rfl,f,g⟩
def mu4 (N:Nat) (a:Act) (_:World):Nat:=match a.tmps[4]? with
 | some (Value.int _ x)=>(N+1-x).toNat
 | _=>0
def dg.aa6 {k:Nat} (h:dg y b1 b2 a (some (k+1)) s i):mu4 N a W=N-k:=by
 unfold _root_.Go.Proofs.YtbdikjnpbnobcaaGreatDoor.mu4;rw[h.t4 _ rfl];grind
def Q7 {I:List α->World->Prop} (H:ItH st cur y b1 b2 dn N I L X) (hN:∀ j,j<6->(st j).length<=N) (F:N<=2000000) (h:dg y b1 b2 a (some 1) none none) (hI:I [] W) (w:L W) :
 (mi (iB Vy)).wpIn Fence.wide dn Tryz.prog (fun e a' W'=>e=.ret/\a'.defers=[]/\(((∃ k,gh st cur k 6=[]/\I (dJ st cur k) W')/\L W')\/X W')) a W:=by
 show(Code.loop ZJ).wpIn _ _ _ _ _ _;refine wpIn_loop (fun a W=>∃ k:Nat,k<=N/\dg y b1 b2 a (some (k+1)) none none/\I (dJ st cur k) W/\L W) (mu4 N) ⟨0,Sx.ah,by simpa using h,hI,w⟩ ?_;rintro a W ⟨k,hk,hA,hI,w⟩;show(Code.seq (.block 1 SS) (iB ZJ)).wpIn _ _ _ _ _ _;refine wpIn_seq (wpIn_block ?_);show(Code.seq (mi SS) (.seq (.seq (mi (mi (iB SS))) (iB (mi (iB SS)))) (iB (iB SS)))).wpIn _ _ _ _ _ _;refine wpIn_seq (wpIn_mono (aal hA) ?_);intro e a1 M h1;cases e with
 | normal =>
  refine wpIn_seq (wpIn_seq (wpIn_mono h1 ?_));intro e a2 O D;cases e with
  | normal =>
   obtain⟨t,f,g,i,_,⟨_,e1,l,m⟩,o,bJ⟩:=D;rw[e1,l,m]at o;refine wpIn_mono (Qt H hk o (H.ikeep _ _ _ hI bJ) (H.cJ _ _ w bJ)) ?_;rintro e a3 G (⟨rfl,s,hs,x,p,q⟩ | ⟨rfl,hd,hX⟩)
   .have z:yY (FW none) dn Tryz.prog _ [iB (iB SS)] a3 G:=Xm x;refine wpIn_mono z ?_;intro e a4 J A;cases e with
    | normal =>
     obtain⟨t,f,g,i,v,⟨n,e1,l,m⟩,d,c⟩:=A;rw[e1,l,m]at d;have r:s=true:=by
      rcases n with ⟨_,h⟩ | ⟨h,_⟩
      .exact h
      .subst h;cases v
     have B:gh st cur k 6≠[]:=fun h=>by grind
     have C:k<N:=by
      refine aee fun n=>B (sS.2 fun j K=>?_);have:=hN j K;omega
     have h1:yY (FW none) dn Tryz.prog _ [iB ZJ] a4 J:=aak d;refine wpIn_mono h1 ?_;intro e a5 P E;cases e with
     | normal =>
      obtain⟨t,f,g,i,_,⟨_,e1,l,m⟩,b,u⟩:=E;rw[e1,l,m,show IntKind.u64.wrap ((k:Int)+1+1)=((k+1:Nat):Int)+1 by rw[IntKind.wrap_u64];omega]at b;have b:dg y b1 b2 a5 (some (((k+1:Nat):Int)+1)) none none:=⟨b.sz,b.df,b.t0,b.t1,b.t2,b.t4,(fun _ h=>by cases h),(fun _ h=>by cases h)⟩;exact⟨⟨k+1,C,b,H.ikeep _ _ _ (H.ikeep _ _ _ p c) u,H.cJ _ _ (H.cJ _ _ q c) u⟩,by rw[b.aa6,hA.aa6];omega⟩
     | _=>obtain⟨t,f,g,i,e0,⟨e1,_⟩,_⟩:=E;grind
    | ret =>
     obtain⟨t,f,g,i,v,⟨n,e1,l,m⟩,d,c⟩:=A;have r:s=false:=by
      rcases n with ⟨h,_⟩ | ⟨_,h⟩
      .grind
      .exact h
     have hr:=hs.1 r;refine⟨rfl,d.df,Or.inl ⟨⟨k,hr,?_⟩,H.cJ _ _ q c⟩⟩;have:=H.ikeep _ _ _ p c;rwa[dJ,hr,acD]at this
    | _ =>
     obtain⟨t,f,g,i,v,⟨n,_⟩,_⟩:=A;rcases n with ⟨h,_⟩ | ⟨h,_⟩<;>subst h<;>cases v
   .exact⟨rfl,hd,Or.inr hX⟩
  | _=>obtain⟨t,f,g,i,e0,⟨e1,_⟩,_⟩:=D;rw[e1]at e0;cases e0
 | _=>obtain⟨t,f,g,i,e0,⟨e1,_⟩,_⟩:=h1;rw[e1]at e0;cases e0
end
end Go.Proofs.YtbdikjnpbnobcaaGreatDoor
namespace Go.Proofs.YtbdikjnpbnobcaaGreatDoor
open Go Go.Sx Go.Pk
variable {q:Env}{F R R':Hl}{n w z:Int}{rows:List (List Value)}{hs hs':List Hd}{Hs K Rs:List Hl}{row xs:List Value}{mem:Mem}{a:Nat}
def gG (R:Hl) (rows:List (List Value)) (hs:List Hd):Prop:=rows.length=hs.length/\∀ (i:Nat) row h,rows[i]?=some row->hs[i]?=some h->br R row h
def gG.nil (R:Hl):gG R [] []:=⟨rfl,fun i row h hr=>by simp at hr⟩
def gG.snoc {h:Hd} (a:gG R rows hs) (x:br R row h):gG R (rows++[row]) (hs++[h]):=by
 refine⟨by rw[aaA,aaA,a.1];rfl,fun i r g hr hg=>?_⟩;rcases acN i rows.length with hi | hi
 .rw[acb hi]at hr;rw[acb (by rw[<-a.1];exact hi)]at hg;exact a.2 i r g hr hg
 .rw[abO hi]at hr;rw[abO (by rw[<-a.1];exact hi),<-a.1]at hg;have e:i-rows.length=0:=by
   have:=(aaG.1 hr).1;simpa using this
  rw[e]at hr hg;have hr:row=r:=by simpa using hr
  have hg:h=g:=by simpa using hg
  subst hr;subst hg;exact x
def gG.mono (a:gG R rows hs) (hl:R.le R'):gG R' rows hs:=⟨a.1,fun i row h hr hh=>(a.2 i row h hr hh).mono hl⟩
def gG.uniq (a:gG R rows hs) (b:gG R rows hs'):hs=hs':=by
 apply afl (by rw[<-a.1,<-b.1]);intro i h1 c;have hr:rows[i]?=some (rows[i]'(by rw[a.1];exact h1)):=aad _;exact(a.2 i _ _ hr (aad h1)).uniq (b.2 i _ _ hr (aad c))
noncomputable def jP (hs:List Hd):List Int:=match hs.getLast? with
 | none=>List.replicate 32 0
 | some h=>oK h
def sd (hs:List Hd):(jP hs).length=32:=by
 unfold jP;split
 .rfl
 .exact gU _
def iM (K:Hl) (a:Nat) (w:Int) (hs:List Hd):Prop:=∃ (x:Int) (c:Nat) (rows:List (List Value)),
 K a=some (.cells (([.int .i64 w,.slice (au x 0) hs.length c]:List Value)++aS (jP hs)).toArray 248 (0,0)) /\
 pF K 38 dz (.slice (au x 0) hs.length c) rows/\gG K rows hs/\ -1<=x /\
 ∃ KT,KT.le K/\gG KT rows hs/\¬KT.mem a/\∀ b:Nat,x=b->¬KT.mem b
def cC (R:Hl) (a:Nat) (w:Int) (hs:List Hd):Prop:=∃ K,K.le R/\iM K a w hs
def vP {s:Sx.Spec} {e:E} {k:IntKind} (hr:s.res=[.one (.int k)]) (he:aw q e=z) (h:∀ F,s.post xs [] Rs (.int k z) [] F):postOf s xs [] Rs q mem (.sv (.one (.int k e))):=by
 intro _;refine⟨[],[],rfl,rfl,⟨(ba fun _=>z),?_,?_⟩,?_⟩
 .rw[hr,<-he];rfl
 .rw[hr];exact⟨zzT,zzT⟩
 .have:=h (uY q mem []);rw[<-he]at this;exact this
def yi:Sx.Spec where
 fn:=122
 own:=[]
 rd:=[0]
 res:=[.one (.int .u64)]
 pre:=fun xs Hs Rs=>∃ a R w hs,xs=[.pointer (some ⟨a,0,none⟩)]/\Rs=[R]/\cC R a w hs
 post:=fun xs Hs Rs v Hs' F=>∀ a R w hs,xs=[.pointer (some ⟨a,0,none⟩)]->Rs=[R]->cC R a w hs->v=.int .u64 (IntKind.u64.wrap hs.length)
def aaE:aD Tryz.prog [] yi.fn where
 Λ:=aA
 args:=[TP (.var 0) (.lit 0)]
 mem:=[.ro 1 [.var 0] false]
 nv:=2
def cC.sl (h:cC R a w hs):∃ (x:Int) (c:Nat),-1<=x/\R.cell a 0=some (.int .i64 w)/\R.cell a 1=some (.slice (au x 0) hs.length c):=by
 obtain⟨K,hl,x,c,rows,hK,_,_,hx,_⟩:=h;have b:=hl _ _ hK;exact⟨x,c,hx,by simp [Hl.cell,b],by simp [Hl.cell,b]⟩
def AL:yi.OK Tryz.prog:=by
 refine Spec.jN (Γ:=[]) (fun _ h=>by cases h) rfl ?_;rintro xs Rs ⟨a,R,w,hs,rfl,rfl,j⟩;obtain⟨x,c,hx,c0,c1⟩:=j.sl;refine⟨aaE,aM [a] false [Hl.none,R],fun _ _=>True,fun _ _=>0,?_,aT rfl rfl,rfl,?_⟩
 .show [Value.pointer (au (a:Int) 0)]=_;rw[av ah];rfl
 .refine aD.read [] [] [] ?_;generalize e:aM [(a:Int)] false [Hl.none,R]=J;obtain⟨⟨v0,_⟩,_,w1,_⟩:=jn e;simp only[go_sem,Nat.reduceAdd];rw[v0,w1];have e1:R.cell ((a:Int)).toNat (Int.toNat 1)=some (.slice (au x 0) hs.length c):=by rw[aac];exact c1
  have f:bD (some (Value.slice (au x 0) hs.length c)) 2=hs.length:=by
   cases au x 0 with
   | none=>rfl
   | some b=>obtain⟨b,o,s⟩:=b;cases s<;>rfl
  rw[e1,f];refine⟨ah,rfl,ah,vP rfl (z:=IntKind.u64.wrap hs.length) ?_ fun F a' R' w' hs' h1 g h'=>?_⟩
  .show IntKind.u64.wrap (bD ((J.h 1).cell (J.i 0).toNat (Int.toNat 1+0)) 2)=_;rw[v0,w1,acJ,e1,f]
  .simp only[aae,abw,Value.pointer.injEq,aa3,Addr.mk.injEq]at h1 g;subst h1 g;obtain⟨x',c',_,_,d⟩:=h'.sl;rw[c1]at d;simp only[aa3,Value.slice.injEq]at d;rw[d.2.1]
def Im:Sx.Spec where
 fn:=129
 own:=[]
 rd:=[]
 res:=[.one .ptr]
 pre:=fun xs Hs Rs=>∃ w,xs=[.int .i64 w]
 post:=fun xs Hs Rs v Hs' F=>∀ w,xs=[.int .i64 w]->∃ b:Nat,v=.pointer (some ⟨b,0,none⟩)/\iM F b w []
def Wb:aD Tryz.prog [] Im.fn where
 Λ:=aA
 args:=[TI .i64 (.var 0)]
 mem:=[]
 nv:=1
set_option maxRecDepth 20000 in
def SJ:Im.OK Tryz.prog:=by
 refine Spec.cM (Γ:=[]) (fun _ h=>by cases h) ?_;rintro xs Hs Rs a c ⟨w,rfl⟩;have e0:Hs=[]:=aa1.1 a;have e1:Rs=[]:=aa1.1 c;subst e0 e1;refine⟨Wb,aM [w] false [],fun _ _=>True,fun _ _=>0,rfl,I2 (by intro r hr;simp [Wb]at hr) rfl,(fun _ h=>nomatch h),?_⟩;refine aD.read [] [] [] ?_;generalize d:aM [w] false []=J;have v0:J.i 0=w:=by rw[<-d];rfl
 simp only[go_sem,Nat.reduceAdd];intro q1 f p1 _;have v1:q1.i 0=w:=by rw[f.i 0,v0]
 have p1:0<=q1.i 1:=p1;refine⟨[],[0],rfl,rfl,⟨(ba fun k=>if k=0 then q1.i 1 else 0),rfl,⟨by show -1<=q1.i 1;omega,aba 0⟩,zzT⟩,fun w' e=>⟨(q1.i 1).toNat,?_,-1,0,[],?_,pF.nil _ _ _,gG.nil _,aba _,Hl.none,(fun _ _ h=>by cases h),gG.nil _,(fun h=>by cases h),fun b h=>ah⟩⟩
 .show Value.pointer (au (q1.i 1) 0)=_;rw[av p1];rfl
 .simp only[aae,Value.int.injEq,acu,abw]at e;subst e;show(bY [Hl.one (q1.i 1).toNat _]) _=_;rw[aJ,Hl.aK,<-v1];rfl
def MP:Sx.Spec where
 fn:=153
 own:=[]
 rd:=[0]
 res:=[.agg bJ,.one .bool]
 pre:=fun xs Hs Rs=>∃ a R w hs n,xs=[.pointer (some ⟨a,0,none⟩),.int .u64 n]/\Rs=[R]/\cC R a w hs/\(0<=n/\n<18446744073709551616)/\hs.length<1000000
 post:=fun xs Hs Rs v Hs' F=>∃ a R w hs n,xs=[.pointer (some ⟨a,0,none⟩),.int .u64 n]/\Rs=[R]/\cC R a w hs /\
  ((1<=n/\n<=hs.length/\∃ row h,hs[(n-1).toNat]?=some h/\v=.tuple #[.agg row.toArray,.bool true]/\br F row h)\/(¬(1<=n/\n<=hs.length)/\∃ u,v=.tuple #[u,.bool false]))
def Z6:List Sx.Spec:=[yi,MW]
def WQ:∀ t∈Z6,t.OK Tryz.prog:=ak AL <| ak KR <| bu
def adm:Z6[0]?=some yi:=rfl
def adn:Z6[1]?=some MW:=rfl
def WO:yi.res=[.one (.int .u64)]:=rfl
def Z4:MW.res=[.agg bJ]:=rfl
set_option maxRecDepth 20000 in
def Z3:(aL 0 [Cp.agg bJ]≠[])=True:=eq_true az
def ado:aD Tryz.prog Z6 MP.fn where
 Λ:=aA
 args:=[TP (.var 0) (.lit 0),.sv (.one (.int .u64 (.var 1)))]
 mem:=[.ro 2 [.var 0] true]
 nv:=3
set_option maxRecDepth 20000 in
def Pv (c:cC R a w hs) (b:¬(1<=n/\n<=hs.length)) : postOf MP [.pointer (some ⟨a,0,none⟩),.int .u64 n] [] [R] q mem (.tup [.agg ([.int .i64 (.lit 0),.int .u64 (.lit 0)]++List.replicate 32 (CV.int .u8 (.lit 0))++[.int .i64 (.lit 0),.bool .ff,.int .u64 (.lit 0)]++List.replicate 16 (CV.int .u8 (.lit 0))++[.sl (.lit (-1)) (.lit 0) (.lit 0) (.lit 0),.int .u64 (.lit 0),.int .u64 (.lit 0),.int .u64 (.lit 0),.int .u64 (.lit 0),.int .u64 (.lit 0),.int .u64 (.lit 0)]++List.replicate 32 (CV.int .u8 (.lit 0))++[.int .i64 (.lit 0)]++List.replicate 32 (CV.int .u8 (.lit 0))),.one (.bool .ff)]):=by
 intro _;refine⟨[],[],rfl,rfl,⟨(ba fun k=>if k=53 then -1 else 0),rfl,(tr8 (tr8 (tr8 (tr8 (tr8 (tr8 ⟨zzT,zzT,zzT,zzT,zzT,⟨az,az,az,az⟩,tr8 (tr8 (tr8 (tr8 (tr8 (tr8 (tr8 (tr8 ⟨zzT,zzT,zzT,zzT,zzT,zzT,zzT,zzT⟩)))))))⟩)))))),zzT,zzT⟩,a,R,w,hs,n,rfl,rfl,c,Or.inr ⟨b,_,rfl⟩⟩
def kH (b:cC R a w hs) (hl:hs.length<1000000) (hp:yi.post [.pointer (some ⟨a,0,none⟩)] Hs [R] (.int .u64 n) K F):n=hs.length:=by
 have:=hp _ _ _ _ rfl rfl b;simp only[Value.int.injEq,acu]at this;rw[this,IntKind.wrap_u64];omega
set_option maxRecDepth 20000 in
def KK:MP.OK Tryz.prog:=by
 refine Spec.jN (Γ:=Z6) WQ rfl ?_;rintro xs Rs ⟨a,R,w,hs,n,rfl,rfl,m,hn,hlen⟩;refine⟨ado,aM [a,n] false [Hl.none,Hl.none,R],fun _ _=>True,fun _ _=>0,?_,aT rfl rfl,rfl,?_⟩
 .show [Value.pointer (au (a:Int) 0),.int .u64 n]=_;rw[av ah];rfl
 .refine aD.read [bJ] [dz] [] ?_;generalize g:aM [(a:Int),n] false [Hl.none,Hl.none,R]=J;simp only[Nd.holds,X.pre,X.rel,X.n,Src.ok,Src.len,Src.iX,acu,abw,afm,afB,acJ,Nat.reduceAdd,acn,acO,tH,tE,kc,lh,jv,tG,nR,nu,nq,ik,nN,nS,tF,nP,nO,ke,nQ,aq,ar,bP,dZ,cN,bL,dY,fi,fC,fT,jJ,gy,iP,fW,TV.ev,SV.ev,CV.ev,abW,acI,bo.hl,jO,Cp.sv,Ck.cv,bQ,Cp.len,Ck.len,gm,ia,jF,adm,adn,WO,Z4,Z3];have v0:J.i 0=a:=by rw[<-g];rfl
  have v1:J.i 1=n:=by rw[<-g];rfl
  have w2:J.h 2=R:=by rw[<-g];rfl
  intro q1 q _;have B:Value.pointer (au (a:Int) 0)=.pointer (some ⟨a,0,none⟩):=by rw[av ah];rfl
  rw[q.i 0,q.i 1,q.h 2,v0,v1,w2,B];refine⟨fun h1=>⟨⟨a,R,w,hs,rfl,rfl,m⟩,fun q2 C ⟨F,hp,_⟩=>?_⟩,fun h1=>Pv m ah⟩;have D:=kH m hlen hp;have o:ai 3 J q2:=q.tr C;rw[D,o.i 0,o.i 1,o.h 2,v0,v1,w2];refine⟨fun G=>Pv m ah,fun G=>?_⟩;obtain⟨K,hl,x,c,rows,hK,H,hA,hx,_⟩:=id m;have c1:R.cell a 1=some (.slice (au x 0) hs.length c):=by simp [Hl.cell,hl _ _ hK]
  have hr:bd R (.slice (au x 0) ((hs.length:Int)).toNat ((c:Int)).toNat) dz rows:=by rw[aac,aac];exact gb H.rd hl
  obtain⟨el,r⟩:=hr.at hx (aba _) ah;have I:=hA.1;obtain⟨row,aG⟩:∃ row,rows[(n-1).toNat]?=some row:=⟨_,aad ah⟩;obtain⟨h,hh⟩:∃ h,hs[(n-1).toNat]?=some h:=⟨_,aad ah⟩;obtain⟨f,p,cells⟩:=r _ _ aG;have hI:=(hA.mono hl).2 _ _ _ aG hh;have hw:IntKind.u64.wrap (n-1)=n-1:=by rw[IntKind.wrap_u64];omega
  have e1:R.cell ((a:Int)).toNat (Int.toNat 1)=some (.slice (au x 0) hs.length c):=by rw[aac];exact c1
  have p0:bD (some (Value.slice (au x 0) hs.length c)) 0=x:=by rw[av f];show((x.toNat:Nat):Int)=x;omega
  have p1:bD (some (Value.slice (au x 0) hs.length c)) 1=0:=by rw[av f];rfl
  have p2:bD (some (Value.slice (au x 0) hs.length c)) 2=hs.length:=by rw[av f];rfl
  have d:∀ j u,row[j]?=some u->R.cell x.toNat ((0+(n-1)*125).toNat+j)=some u:=fun j u hu=>by
   have:=cells j u hu;have e:(0:Int).toNat+(n-1).toNat*dz.length+j=(0+(n-1)*125).toNat+j:=by
    rw[show dz.length=125 from rfl];omega
   rw[e]at this;exact this
  have eR:List.map (CV.ev q2) (aU 2 (E.hP 2 (E.var 0) (E.lit 1) 0 0) ((E.hP 2 (E.var 0) (E.lit 1) 0 1).add ((E.wrap IntKind.u64 ((E.var 1).sub (E.lit 1))).mul (E.lit 125))) 0 dz)=row:=by
   refine cD row dz 0 p fun i u hu=>?_;have:=d i u hu;simp only[fC,bP,cN,bL,dZ,ar,aq,o.i 0 (by omega:0<3),o.i 1 (by omega:1<3),o.h 2 (by omega:2<3),v0,v1,w2,acJ,aco];rw[e1,p0,p1,hw];exact this
  rw[eR,e1,p0,p1,p2,hw];refine⟨ah,rfl,f,aba _,ah,ah,jG _ p d,⟨row,R,h,rfl,rfl,hI⟩,fun l g3 ⟨N,t,y,z⟩=>?_⟩;obtain⟨row',L,A⟩:=t _ _ _ rfl rfl hI;intro _;refine⟨[],[2],rfl,rfl,?_,a,R,w,hs,n,rfl,rfl,m,Or.inl ⟨ah,ah,row',h,hh,?_,?_⟩⟩
  .obtain⟨M,m1,m2,m3⟩:=z.1.2.2.2.2.2.2.2.2.2.2.2.2.2.2.2.2.2.2.2.2.2.2.2.2.2.2.2.2.2.2.2.2.2.2.2.2.2.2.2.2.2.2.2.2.2.2.2.2.2.2.2.2.2.1;exact⟨⟨fun k=>l.i (k+5),fun k=>if k=128 then true else l.b (k+5),l.s,l.v,l.h⟩,rfl,(tr8 (tr8 (tr8 (tr8 (tr8 (tr8 ⟨zzT,zzT,zzT,zzT,zzT,⟨M,m1,m2,m3⟩,tr8 (tr8 (tr8 (tr8 (tr8 (tr8 (tr8 (tr8 ⟨zzT,zzT,zzT,zzT,zzT,zzT,zzT,zzT⟩)))))))⟩)))))),zzT,zzT⟩
  .show Value.tuple #[.agg (List.map (CV.ev l) (aj 5 bJ)).toArray,.bool true]=_;rw[L]
  .show br (bY [l.h 5]) _ _;rw[aJ,y zzT];exact A
end Go.Proofs.YtbdikjnpbnobcaaGreatDoor
