/- RelayCrashes. -/
import Derived.Test.YtomdimlnggpgbaaGreatDoorTJ
set_option linter.all false
set_option maxHeartbeats 4000000
namespace Go.Sx
open Go
def mj:∀ {l:List Hl} (_:∀ (p q:Nat) A B,p≠q->l[p]?=some A->l[q]?=some B->A.bV B) {i:Nat} {A:Hl},l[i]?=some A->A.le (di l)
 | [],_,_,_,h=>by simp at h
 | B::l,hd,0,A,h=>by
  simp only[abv,aaF]at h;subst h;exact Hl.bm _ _
 | B::l,hd,i+1,A,h=>by
  have ih:=mj (l:=l) (fun p q A B a c hb=>hd (p+1) (q+1) A B ah (by simpa using c) (by simpa using hb)) (i:=i) (A:=A) (by simpa using h);have hB:B.bV (di l):=fun b ⟨x,y⟩=>by
   obtain⟨C,d,hb⟩:=Dm.1 y;obtain⟨j,e⟩:=abB d;exact hd 0 (j+1) B C ah rfl (by simpa using e) b ⟨x,hb⟩
  exact fun b o hb=>Hl.bK hB b o (ih b o hb)
end Go.Sx
namespace Go.Proofs.YtomdimlnggpgbaaGreatDoor
open Go Go.Sx Go.Pk
variable {q:Env}{h:Hd}{F R:Hl}{s w y:Int}{row:List Value}{i n x:Nat}{st':Nat->List Pc}
def Fp:Sx.Spec where
 fn:=96
 own:=[]
 rd:=[]
 res:=[.one .ptr]
 pre:=fun xs Hs Rs=>xs=[]
 post:=fun xs Hs Rs v Hs' F=>∃ x:Nat,v=.pointer (some ⟨x,0,none⟩)/\pR F x (fun _=>[])
def WQ:List Sx.Spec:=[GW]
def Us:∀ t∈WQ,t.OK Tryz.prog:=fun t a=>by
 rw[WQ,aaJ]at a;subst a;exact Qu
def Zf:GW.res=[.one .ptr]:=rfl
def PT (n:Nat):(aK n [Cp.one .ptr]≠[])=True:=by simp [aK,Cp.roots,Ck.root]
def SW:aG Tryz.prog WQ Fp.fn where
 Λ:=aC
 args:=[]
 mem:=[]
 nv:=0
def oG {x:Int} {K:List Hl} (hp:GW.post [.int .i64 w] [] [] (.pointer (az x y)) K F) (hx:-1<=x) (d:0<=y):0<=x/\az x y=some ⟨x.toNat,0,none⟩/\iR F x.toNat w []:=by
 obtain⟨b,e,h⟩:=hp w rfl;rcases abQ x 0 with a | h0
 .rw[show x= -1 by omega,fx]at e;cases e
 .rw[au h0]at e ⊢;simp only[Value.pointer.injEq,aaF,Addr.mk.injEq,aaP]at e;obtain⟨e1,c⟩:=e;rw[<-e1]at h;refine⟨h0,?_,h⟩;rw[c]
def Fq:Fp.OK Tryz.prog:=by
 refine Spec.aV (Γ:=WQ) Us ?_;rintro xs Hs Rs o t rfl;have H:Hs=[]:=aaz.1 o;have e1:Rs=[]:=aaz.1 t;subst H e1;refine⟨SW,aL [] false [],fun _ _=>True,fun _ _=>0,rfl,dw (by intro r hr;simp [SW]at hr) rfl,(fun _ h=>nomatch h),?_⟩;refine aG.read [] [] [] ?_;generalize aL [] false []=J;simp only[go_sem,Nat.reduceAdd,WQ,Zf,PT];intro Z g0 p0;refine⟨⟨1,rfl⟩,fun q1 I ⟨F1,K,b1,n1⟩=>⟨⟨2,rfl⟩,fun q2 L ⟨F2,M,b2,C⟩=>⟨⟨3,rfl⟩,fun N O ⟨F3,a3,v,n3⟩=>⟨⟨4,rfl⟩,fun P Q ⟨F4,a4,w,D⟩=>⟨⟨5,rfl⟩,fun R S ⟨F5,a5,x,n5⟩=>⟨⟨6,rfl⟩,fun a T ⟨F6,U,y,n6⟩=>?_⟩⟩⟩⟩⟩⟩;obtain⟨m1,c1,d1⟩:=oG K n1.1.1 n1.1.2;obtain⟨m2,c2,d2⟩:=oG M C.1.1 C.1.2;obtain⟨m3,c3,d3⟩:=oG a3 n3.1.1 n3.1.2;obtain⟨m4,E,d4⟩:=oG a4 D.1.1 D.1.2;obtain⟨m5,F,d5⟩:=oG a5 n5.1.1 n5.1.2;obtain⟨m6,V,d6⟩:=oG U n6.1.1 n6.1.2;have b1:=b1 trivial;have b2:=b2 trivial;have v:=v trivial;have w:=w trivial;have x:=x trivial;have y:=y trivial;have d:ai 11 R a:=T;have e:ai 9 P a:=S.tr d;have f:ai 7 N a:=Q.tr e;have g:ai 5 q2 a:=O.tr f;have l:ai 3 q1 a:=L.tr g;rw[<-b1,<-l.i 1,<-l.h 1]at d1;rw[<-b2,<-g.i 3,<-g.h 3]at d2;rw[<-v,<-f.i 5,<-f.h 5]at d3;rw[<-w,<-e.i 7,<-e.h 7]at d4;rw[<-x,<-d.i 9,<-d.h 9]at d5;rw[<-y]at d6;rw[<-l.i 1,<-l.i 2]at c1;rw[<-g.i 3,<-g.i 4]at c2;rw[<-f.i 5,<-f.i 6]at c3;rw[<-e.i 7,<-e.i 8]at E;rw[<-d.i 9,<-d.i 10]at F;have p0:0<=a.i 0:=by rw[l.i 0,I.i 0];exact p0
 intro m;generalize hm:([bL.bj 0 (ar 1 (List.replicate 6 Ck.ptr)++[.sl (.lit (-1)) (.lit 0) (.lit 0) (.lit 0),.sl (.lit (-1)) (.lit 0) (.lit 0) (.lit 0),.sl (.lit (-1)) (.lit 0) (.lit 0) (.lit 0),.sl (.lit (-1)) (.lit 0) (.lit 0) (.lit 0),.sl (.lit (-1)) (.lit 0) (.lit 0) (.lit 0),.sl (.lit (-1)) (.lit 0) (.lit 0) (.lit 0),.int .i64 (.lit 0)]) 182,.hp 1 [] [.var 1] [],.hp 3 [] [.var 3] [],.hp 5 [] [.var 5] [],.hp 7 [] [.var 7] [],.hp 9 [] [.var 9] [],.hp 11 [] [.var 11] []]:Mem)=mem at *;have n:∀ r∈mem,r.own=true:=by rw[<-hm];intro r hr;simp at hr;rcases hr with rfl | rfl | rfl | rfl | rfl | rfl | rfl<;>rfl
 have hl:mem.map (bL.hl a)=[Hl.one (a.i 0).toNat (.cells (Ep (fun i=>([a.i 1,a.i 3,a.i 5,a.i 7,a.i 9,a.i 11].getD i 0).toNat) (fun _=>.slice none 0 0) 0).toArray 182 (0,0)),a.h 1,a.h 3,a.h 5,a.h 7,a.h 9,a.h 11]:=by
  rw[<-hm];have:Hl.one (a.i 0).toNat (.cells #[.pointer (az (a.i 1) (a.i 2)),.pointer (az (a.i 3) (a.i 4)),.pointer (az (a.i 5) (a.i 6)),.pointer (az (a.i 7) (a.i 8)),.pointer (az (a.i 9) (a.i 10)),.pointer (az (a.i 11) (a.i 12)),.slice none 0 0,.slice none 0 0,.slice none 0 0,.slice none 0 0,.slice none 0 0,.slice none 0 0,.int .i64 0] 182 (0,0))=Hl.one (a.i 0).toNat (.cells (Ep (fun i=>([a.i 1,a.i 3,a.i 5,a.i 7,a.i 9,a.i 11].getD i 0).toNat) (fun _=>.slice none 0 0) 0).toArray 182 (0,0)):=by
   rw[c1,c2,c3,E,F,V];rfl
  rw[<-this];rfl
 have c:∀ (p q:Nat) A B,p≠q->(mem.map (bL.hl a))[p]?=some A->(mem.map (bL.hl a))[q]?=some B->A.bV B:=by
  intro p q A B z G hb;rw[aaL]at G hb;obtain⟨r,hr,rfl⟩:=aaI.1 G;obtain⟨s,hs,rfl⟩:=aaI.1 hb;exact m p q r s z hr hs (n r (aaA hr))
 rw[hl]at c;have hK:∀ i,i<6->([Hl.one (a.i 0).toNat (.cells (Ep (fun i=>([a.i 1,a.i 3,a.i 5,a.i 7,a.i 9,a.i 11].getD i 0).toNat) (fun _=>.slice none 0 0) 0).toArray 182 (0,0)),a.h 1,a.h 3,a.h 5,a.h 7,a.h 9,a.h 11])[i+1]?=some ([a.h 1,a.h 3,a.h 5,a.h 7,a.h 9,a.h 11].getD i Hl.none):=fun i hi=>by
  have:i=0\/i=1\/i=2\/i=3\/i=4\/i=5:=ah;rcases this with rfl | rfl | rfl | rfl | rfl | rfl<;>rfl
 have W:xA a mem [0,1,2,3,4,5,6]=di (mem.map (bL.hl a)):=by rw[<-hm];rfl
 refine⟨[],[0,1,2,3,4,5,6],rfl,by rw[<-hm];rfl,⟨(bf fun k=>if k=0 then a.i 0 else 0),rfl,⟨by show -1<=a.i 0;omega,aaM 0⟩,zzT⟩,(a.i 0).toNat,?_,?_⟩
 .show Value.pointer (az (a.i 0) 0)=_;rw[au p0];rfl
 rw[W,hl];refine⟨_,_,fun i=>[a.h 1,a.h 3,a.h 5,a.h 7,a.h 9,a.h 11].getD i Hl.none,Hl.none,Hl.bm _ _ _ _ (Hl.aU _ _),fun i hi=>?_,fun i hi=>mj c (hK i hi),fun i j hi X Y=>c (i+1) (j+1) _ _ ah (hK i hi) (hK j X),fun i hi=>Hl.gJ.1 (c 0 (i+1) _ _ ah rfl (hK i hi)),fun i hi=>⟨[],⟨rfl,Or.inl ⟨rfl,rfl⟩⟩,fun j u p h=>by simp at h⟩,(fun _ _ h=>by cases h),(fun h=>by cases h),(fun i hi b ⟨h,_⟩=>by cases h),(fun i b _ h=>by cases h)⟩;have:i=0\/i=1\/i=2\/i=3\/i=4\/i=5:=ah;rcases this with rfl | rfl | rfl | rfl | rfl | rfl
 .exact d1
 .exact d2
 .exact d3
 .exact d4
 .exact d5
 .exact d6
def kOw (h:bo row rE):row=row.take 125++[row.getD 125 DB]:=by
 have hl:=gx h;rw[m8]at hl;apply aa2;intro k;rcases abn k 125 with hk | hk
 .rw[aa0 (by rw[aaU];omega),abf,aaR hk]
 .rw[aaQ (by rw[aaU];omega),aaU,hl];rcases abn k 126 with cy | cy
  .have:k=125:=ah;subst this;show _=some (row.getD 125 DB);rw[aaD,aax ah];rfl
  .rw[aaK ah,aaK (by simp;omega)]
def DI {a:Int} (hs:List (Nat×Hl)) (h:bo row rE):∃ q:Env,q.i 0=a/\row=(ar 1 jU).map (CV.ev q)/\(∀ k,q.h k=Bk hs k)/\bR 1 jU q:=by
 obtain⟨q,g,hn,e⟩:=cY jU 1 row (bf fun _=>a) h;exact⟨⟨q.i,q.b,q.s,q.v,Bk hs⟩,g.i 0,by rw[<-QT (Bk hs)];exact e.symm,fun _=>rfl,Ru _ _ _ hn⟩
set_option maxRecDepth 20000 in
def Ph (n:Nat):ar n jU=ar n cy++[.sl (.var (n+128)) (.var (n+128+1)) (.var (n+128+2)) (.var (n+128+3))]:=by
 have:∀ (a b:List Ck) (n:Nat),ar n (a++b)=ar n a++ar (n+bd a) b:=by
  intro a
  induction a with
  | nil=>intro b n;simp [ar,bd]
  | cons k a ih=>intro b n;rw[acq,ar,ar,ih,acq];simp [bd,ab7]
 rw[jU,this];rfl
set_option maxRecDepth 20000 in
def rD (q:Env) (n:Nat):((ar n jU).map (CV.ev q)).take 125=(ar n cy).map (CV.ev q):=by
 rw[Ph,aba];exact aco (by rw[aaT];rfl)
set_option maxRecDepth 20000 in
def yg (q:Env) (n:Nat):((ar n jU).map (CV.ev q)).getD 125 DB=.slice (az (q.i (n+128)) (q.i (n+128+1))) (q.i (n+128+2)).toNat (q.i (n+128+3)).toNat:=by
 have hl:((ar n cy).map (CV.ev q)).length=125:=by rw[aaT];rfl
 rw[Ph,aba,aaD,aaQ ah,hl];rfl
def Ba (hx:bU R row h) (bs:List Int):fJ row bs=fJ h.c bs:=by
 unfold fJ;rw[hx.I (k:=92) aA];have:aW h.c 60 32=aW row 60 32:=by
  unfold aW;refine abr fun j a=>hx.I ?_;have:=abd.1 a;omega
 rw[this]
open Classical in
noncomputable def bG (st:Nat->List Pc) (p:Pc):Int :=
 if ¬p.h.Form then 1
 else if gQ (cI p.h.c 0) (mE st (cI p.h.c 0-1).toNat) p.h≠0 then gQ (cI p.h.c 0) (mE st (cI p.h.c 0-1).toNat) p.h
 else if fJ p.h.c p.b=false then 2 else if 400<=fq st then 4 else 0
def Tr.aam {st:Nat->List Pc} {a g:Nat->Nat} {sv c:Nat->Value} (h:Tr R x st a sv) (h':Tr R x st' g c) (hi:i<6):st i=st' i:=by
 obtain⟨e1,k,_⟩:=h.cells hi;obtain⟨f1,f2,_⟩:=h'.cells hi;rw[e1]at f1;rw[k]at f2;simp only[aaF,Value.pointer.injEq,Addr.mk.injEq,aaP]at f1 f2;have c1:=h.ch i hi;have c2:=h'.ch i hi;rw[f1]at c1;have m:=(c1.uniq c2).2;obtain⟨us,d,b1⟩:=h.row i hi;obtain⟨vs,n,b2⟩:=h'.row i hi;rw[f2]at d;obtain⟨el,o⟩:=d.inj n;subst o;apply aci el;intro j h1 h2;have e:j<us.length:=by have:=d.1;omega
 have hu:us[j]?=some us[j]:=aax e;have p1:=b1 j _ _ hu (aax h1);have p2:=b2 j _ _ hu (aax h2);have f:=p1.uniq p2;have b:(st i)[j].h=(st' i)[j].h:=by
  have:=aa1 (fun l=>l[j]?) m;simpa [mE,aaL,h1,h2] using this
 generalize (st i)[j]=x at *;generalize (st' i)[j]=y at *;cases x;cases y;simp only at f b;rw[f,b]
def pS.st {st:Nat->List Pc} (h:pS R x st) (h':pS R x st') (hi:i<6):st i=st' i:=by
 obtain⟨a,sv,h⟩:=h;obtain⟨c,b,h'⟩:=h';exact h.aam h' hi
def Hz {st:Nat->List Pc} (h:∀ i,i<6->st i=st' i):fq st=fq st':=by
 unfold fq;rw[h 0 ah,h 1 ah,h 2 ah,h 3 ah,h 4 ah,h 5 ah]
def zo (a:h.Form):1<=cI h.c 0/\cI h.c 0<=6:=a.1.1
def om {st:Nat->List Pc} (h:∀ i,i<6->st i=st' i) (p:Pc):bG st p=bG st' p:=by
 unfold bG;rw[Hz h];by_cases a:p.h.Form
 .have:=zo a;unfold mE;rw[h (cI p.h.c 0-1).toNat ah]
 .rw[aaR a,aaR a]
def ri:Sx.Spec where
 fn:=70
 own:=[]
 rd:=[0]
 res:=[.one (.int .i64)]
 pre:=fun xs Hs Rs=>∃ x R st,xs=[.pointer (some ⟨x,0,none⟩)]/\Rs=[R]/\pS R x st
 post:=fun xs Hs Rs v Hs' F=>∀ x R st,xs=[.pointer (some ⟨x,0,none⟩)]->Rs=[R]->pS R x st->v=.int .i64 (fq st)
def J2:aG Tryz.prog [] ri.fn where
 Λ:=aC
 args:=[TP (.var 0) (.lit 0)]
 mem:=[.ro 1 [.var 0] true]
 nv:=2
def zA:ri.OK Tryz.prog:=by
 refine Spec.aV (Γ:=[]) (fun _ h=>by cases h) ?_;rintro xs Hs Rs d f ⟨x,R,st,rfl,rfl,hI⟩;have g:Hs=[]:=aaz.1 d;subst g;refine⟨J2,aL [x] false [Hl.none,R],fun _ _=>True,fun _ _=>0,?_,dw (by intro r hr;simp [J2]at hr;subst hr;exact⟨_,_,_,rfl⟩) rfl,(fun _ h=>nomatch h),?_⟩
 .show [Value.pointer (az (x:Int) 0)]=_;rw[au ah];rfl
 .refine aG.read [] [] [] ?_;generalize c:aL [(x:Int)] false [Hl.none,R]=J;have v0:J.i 0=x:=by rw[<-c];rfl
  have e:J.h 1=R:=by rw[<-c];rfl
  simp only[go_sem,Nat.reduceAdd];rw[v0,e];obtain⟨a,sv,j⟩:=id hI;obtain⟨_,_,b⟩:=j.cells (i:=0) ah;have b:R.cell ((x:Int)).toNat (Int.toNat 12)=some (.int .i64 (fq st)):=by rw[aar];exact b
  rw[b];refine⟨ah,rfl,oi rfl (z:=fq st) ?_ fun F x' R' st' h1 h2 h'=>?_⟩
  .show cf ((J.h 1).cell (J.i 0).toNat (Int.toNat 12+0))=_;rw[v0,e,abj,b];rfl
  .simp only[aaC,aaP,Value.pointer.injEq,aaF,Addr.mk.injEq]at h1 h2;subst h1 h2;rw[Hz fun i hi=>hI.st h' hi]
def HZ (st:Nat->List Pc):List Value:=[.int .u64 (st 0).length,.int .u64 (st 1).length,.int .u64 (st 2).length,.int .u64 (st 3).length,.int .u64 (st 4).length,.int .u64 (st 5).length]
def mK (st:Nat->List Pc):Prop:=∀ i,i<6->(st i).length<1000000
def xZ:Sx.Spec where
 fn:=69
 own:=[]
 rd:=[0]
 res:=[.agg (List.replicate 6 (Ck.int .u64))]
 pre:=fun xs Hs Rs=>∃ x R st,xs=[.pointer (some ⟨x,0,none⟩)]/\Rs=[R]/\pS R x st/\mK st
 post:=fun xs Hs Rs v Hs' F=>∀ x R st,xs=[.pointer (some ⟨x,0,none⟩)]->Rs=[R]->pS R x st->mK st->v=.agg (HZ st).toArray
def Ya:List Sx.Spec:=[wJ]
def J4:aG Tryz.prog Ya xZ.fn where
 Λ:=aC
 args:=[TP (.var 0) (.lit 0)]
 mem:=[.ro 1 [.var 0] true]
 nv:=2
def H6:xZ.OK Tryz.prog:=by
 refine Spec.aV (Γ:=Ya) (fun t B=>by rw[Ya,aaJ]at B;subst B;exact zw) ?_;rintro xs Hs Rs v M ⟨x,R,st,rfl,rfl,hI,hS⟩;have N:Hs=[]:=aaz.1 v;subst N;refine⟨J4,aL [x] false [Hl.none,R],fun _ _=>True,fun _ _=>0,?_,dw (by intro r hr;simp [J4]at hr;subst hr;exact⟨_,_,_,rfl⟩) rfl,(fun _ h=>nomatch h),?_⟩
 .show [Value.pointer (az (x:Int) 0)]=_;rw[au ah];rfl
 .refine aG.read [] [] [] ?_;generalize d:aL [(x:Int)] false [Hl.none,R]=J;have v0:J.i 0=x:=by rw[<-d];rfl
  have O:J.h 1=R:=by rw[<-d];rfl
  clear d;obtain⟨a,sv,b⟩:=id hI;have hc:∀ q:Env,ai 2 J q->∀ i,i<6->(q.h 1).cell (q.i 0).toNat (Int.toNat 0+i)=some (.pointer (some ⟨a i,0,none⟩))/\q.h 1=R:=fun q g i hi=>by
   rw[g.i 0,g.h 1,v0,O,aar];refine⟨?_,rfl⟩;have:=(b.cells hi).1;rw[show Int.toNat 0+i=i from aa6 i];exact this
  simp only[go_sem,Nat.reduceAdd,Ya,TL];have hp:∀ q:Env,ai 2 J q->∀ i,i<6->Value.pointer (az (bw ((q.h 1).cell (q.i 0).toNat (Int.toNat 0+i)) 0) (bw ((q.h 1).cell (q.i 0).toNat (Int.toNat 0+i)) 1))=.pointer (some ⟨a i,0,none⟩)/\q.h 1=R/\bz ((q.h 1).cell (q.i 0).toNat (Int.toNat 0+i)) .ptr=true:=fun q g i hi=>by
   obtain⟨e1,u⟩:=hc q g i hi;rw[e1];exact⟨jk,u,rfl⟩
  have hl:∀ i,i<6->(mE st i).length<1000000:=fun i hi=>by unfold mE;rw[aaT];exact hS i hi
  intro V g0 _ q1 P _;have c:ai 2 J q1:=g0.tr P;obtain⟨f1,f2,f3⟩:=hp q1 c 0 ah;refine⟨by rw[c.i 0,v0];omega,f3,(hp q1 c 1 ah).2.2,(hp q1 c 2 ah).2.2,(hp q1 c 3 ah).2.2,(hp q1 c 4 ah).2.2,(hp q1 c 5 ah).2.2,?_⟩;have f1:Value.pointer (az (bw ((q1.h 1).cell (q1.i 0).toNat (Int.toNat 0)) 0) (bw ((q1.h 1).cell (q1.i 0).toNat (Int.toNat 0)) 1))=.pointer (some ⟨a 0,0,none⟩):=f1;rw[f1,f2];refine⟨⟨_,R,_,_,rfl,rfl,b.ch 0 ah⟩,fun q2 Q ⟨W,h2,_⟩=>?_⟩;have h2:=kq (b.ch 0 ah) (hl 0 ah) h2;have w:ai 2 J q2:=c.tr Q;rw[(hp q2 w 1 ah).1,(hp q2 w 1 ah).2.1];refine⟨⟨_,R,_,_,rfl,rfl,b.ch 1 ah⟩,fun e C ⟨X,f,_⟩=>?_⟩;have f:=kq (b.ch 1 ah) (hl 1 ah) f;have y:ai 2 J e:=w.tr C;rw[(hp e y 2 ah).1,(hp e y 2 ah).2.1];refine⟨⟨_,R,_,_,rfl,rfl,b.ch 2 ah⟩,fun j D ⟨Y,l,_⟩=>?_⟩;have l:=kq (b.ch 2 ah) (hl 2 ah) l;have z:ai 2 J j:=y.tr D;rw[(hp j z 3 ah).1,(hp j z 3 ah).2.1];refine⟨⟨_,R,_,_,rfl,rfl,b.ch 3 ah⟩,fun m E ⟨Z,n,_⟩=>?_⟩;have n:=kq (b.ch 3 ah) (hl 3 ah) n;have A:ai 2 J m:=z.tr E;rw[(hp m A 4 ah).1,(hp m A 4 ah).2.1];refine⟨⟨_,R,_,_,rfl,rfl,b.ch 4 ah⟩,fun o F ⟨F6,p,_⟩=>?_⟩;have p:=kq (b.ch 4 ah) (hl 4 ah) p;have G:ai 2 J o:=A.tr F;rw[(hp o G 5 ah).1,(hp o G 5 ah).2.1];refine⟨⟨_,R,_,_,rfl,rfl,b.ch 5 ah⟩,fun q7 S ⟨F7,s,_⟩=>?_⟩;have s:=kq (b.ch 5 ah) (hl 5 ah) s;intro _;refine⟨[],[],rfl,rfl,⟨(bf fun k=>q7.i (k+4)),rfl,⟨zzT,zzT,zzT,zzT,zzT,zzT,zzT⟩,zzT⟩,fun x' R' st' e1 u h' T=>?_⟩;simp only[aaC,aaP,Value.pointer.injEq,aaF,Addr.mk.injEq]at e1 u;subst e1 u;have es:∀ i,i<6->((mE st i).length:Int)=(st' i).length:=fun i hi=>by unfold mE;rw[aaT,hI.st h' hi]
  show Value.agg #[.int .u64 (q7.i 4),.int .u64 (q7.i 5),.int .u64 (q7.i 6),.int .u64 (q7.i 7),.int .u64 (q7.i 8),.int .u64 (q7.i 9)]=_;have H:ai 9 o q7:=S;have I:ai 8 m q7:=F.tr H;have K:ai 7 j q7:=E.tr I;have L:ai 6 e q7:=D.tr K;have U:ai 5 q2 q7:=C.tr L;rw[U.i 4,L.i 5,K.i 6,I.i 7,H.i 8];have h2:q2.i 4=_:=h2;have f:e.i 5=_:=f;have l:j.i 6=_:=l;have n:m.i 7=_:=n;have p:o.i 8=_:=p;have s:q7.i 9=_:=s;rw[h2,f,l,n,p,s,es 0 ah,es 1 ah,es 2 ah,es 3 ah,es 4 ah,es 5 ah];rfl
noncomputable def zy:Sx.Spec where
 fn:=105
 own:=[]
 rd:=[0,1001053,1001125,2000005]
 res:=[.one (.int .i64)]
 pre:=fun xs Hs Rs=>∃ x R st row T B RG p,xs=[.pointer (some ⟨x,0,none⟩),.agg row.toArray]/\Rs=[R,T,B,RG]/\pS R x st/\mK st/\gY T B row p/\p.b.length<=900000/\ve RG 5
 post:=fun xs Hs Rs v Hs' F=>∀ x R st row T B RG p,xs=[.pointer (some ⟨x,0,none⟩),.agg row.toArray]->Rs=[R,T,B,RG]->pS R x st->gY T B row p->v=.int .i64 (bG st p)
noncomputable def Yb:List Sx.Spec:=[ie 117,yI,El]
def Uo:∀ t∈Yb,t.OK Tryz.prog:=av nU <| av EJ <| av M7 <| bW
def Zd:yI.res=[.one (.int .i64)]:=rfl
def Ze:El.res=[.one .bool]:=rfl
noncomputable def SS:aG Tryz.prog Yb zy.fn where
 Λ:=aC
 args:=TP (.var 0) (.lit 0)::(cA 1 [.agg Da]).map .sv
 mem:=[.ro 133 [.var 0] true,.ro 134 [.var 54] false,.ro 135 [.var 129] false,.ro 136 [.lit 5] false]
 nv:=137
open Classical in
set_option maxRecDepth 20000 in
def Fk:zy.OK Tryz.prog:=by
 refine Spec.aV (Γ:=Yb) Uo ?_;rintro xs Hs Rs C aa ⟨x,R,st,row,T,B,RG,p,rfl,rfl,hI,hS,hx,hlen,t⟩;have e0:Hs=[]:=aaz.1 C;subst e0;obtain⟨J,W,rfl,hh,ab⟩:=DI (a:=(x:Int)) [(133,R),(134,T),(135,B),(136,RG)] hx.ok;have X:J.h 133=R:=hh 133;have Y:J.h 134=T:=hh 134;have Z:J.h 135=B:=hh 135;have w4:J.h 136=RG:=hh 136;refine⟨SS,J,fun _ _=>True,fun _ _=>0,?_,dw (by intro r hr;simp [SS]at hr;rcases hr with rfl | rfl | rfl | rfl<;>exact⟨_,_,_,rfl⟩) (by show [J.h 133,J.h 134,J.h 135,J.h 136]=_;rw[X,Y,Z,w4]),(fun _ h=>nomatch h),?_⟩
 .show [Value.pointer (az (J.i 0) 0),.agg ((ar 1 jU).map (CV.ev J)).toArray]=_;rw[W,au ah];rfl
 refine aG.read [cy,Da] [] [] ?_;simp only[go_sem,Nat.reduceAdd,Yb,TU,Zd,Ze];generalize d:(ar 1 jU).map (CV.ev J)=row at *;have u:(ar 1 cy).map (CV.ev J)=row.take 125:=by rw[<-d,rD]
 have V:∀ q:Env,ai 137 J q->q.i 0=x/\q.h 133=R/\q.h 134=T/\q.h 135=B/\q.h 136=RG/\(ar 1 cy).map (CV.ev q)=row.take 125/\(ar 1 Da).map (CV.ev q)=row/\q.i 1=J.i 1:=fun q g=>by
  refine⟨by rw[g.i 0,W],by rw[g.h 133,X],by rw[g.h 134,Y],by rw[g.h 135,Z],by rw[g.h 136,w4],?_,?_,g.i 1⟩
  .rw[<-u];exact aa1 Array.toList (Value.agg.inj (gn (ks:=cy) (n:=1) g aA))
  .rw[<-d];exact aa1 Array.toList (Value.agg.inj (gn (ks:=jU) (n:=1) g aA))
 obtain⟨a,sv,D⟩:=id hI;have f:row=row.take 125++[row.getD 125 DB]:=kOw hx.ok;have hd:=hx.hd;have v:cI p.h.c 0=J.i 1:=by
  have e1:cI p.h.c 0=cI (row.take 125) 0:=hd.I aA;rw[e1,<-u];rfl
 have out:∀ {q:Env} {mem:Mem} {e:E},aB q e=bG st p->postOf zy [.pointer (some ⟨x,0,none⟩),.agg row.toArray] [] [R,T,B,RG] q mem (.sv (.one (.int .i64 e))):=fun {q mem e} he =>
  oi rfl he fun F x' R' st' row' T' B' ad p' e1 e2 h' G=>by
   simp only[aaC,aaP,Value.pointer.injEq,aaF,Addr.mk.injEq,Value.agg.injEq]at e1 e2;obtain⟨rfl,e1⟩:=e1;obtain⟨rfl,rfl,rfl,rfl⟩:=e2;have e1:=aa5 e1;subst e1;obtain rfl:=hx.uniq G;rw[om (fun i hi=>hI.st h' hi) p]
 intro q1 g1 p1;obtain⟨v0,x1,x2,x3,x4,xr,ae,_⟩:=V q1 g1;rw[xr,x2];refine⟨⟨_,T,p.h,rfl,rfl,hd⟩,fun q2 g2 ⟨F2,H,_⟩=>?_⟩;have G2:ai 137 J q2:=g1.tr g2;have w:q2.b 138=decide p.h.Form:=Value.bool.inj (mg hd H);obtain⟨y0,y1,y2,y3,y4,yr,af,y5⟩:=V q2 G2;refine⟨fun hb=>out ?_,fun hb=>?_⟩
 .have A:¬p.h.Form:=by rw[w]at hb;simpa using hb
  unfold bG;rw[aaR A];rfl
 have A:p.h.Form:=by rw[w]at hb;simpa using hb
 have k:¬¬p.h.Form:=fun g=>g A;have hw:=zo A;have K:IntKind.i64.wrap (J.i 1-1)=((cI p.h.c 0-1).toNat:Nat):=by rw[v,IntKind.wrap_i64];rw[v]at hw;omega
 generalize hi:(cI p.h.c 0-1).toNat=i at *;have l:i<6:=ah;have L:cI p.h.c 0=((i+1:Nat):Int):=ah;obtain⟨c1,c2,c3⟩:=D.cells l;have M:R.cell ((x:Int)).toNat (Int.toNat ((i:Nat):Int))=some (.pointer (some ⟨a i,0,none⟩)):=by rw[aar,aar];exact c1
 have N:R.cell ((x:Int)).toNat (Int.toNat 12)=some (.int .i64 (fq st)):=by rw[aar];exact c3
 have m:(mE st i).length<1000000:=by unfold mE;rw[aaT];exact hS i l
 rw[y0,y1,y2,y5,yr,K,M,jk];refine⟨ah,ah,ah,rfl,⟨a i,R,_,_,_,T,p.h,rfl,rfl,D.ch i l,m,hd⟩,fun O g3 ⟨F3,⟨a',R',w',hs',row',T',h',f1,f2,d2,i2,hv⟩,_⟩=>?_⟩;simp only[aaC,aaP,Value.pointer.injEq,aaF,Addr.mk.injEq,Value.agg.injEq]at f1 f2;obtain⟨rfl,f1⟩:=f1;obtain⟨rfl,rfl⟩:=f2;have f1:=aa5 f1;subst f1;obtain⟨rfl,rfl⟩:=(D.ch i l).uniq d2;obtain rfl:=hd.uniq i2;have j:O.i 139=gQ (cI p.h.c 0) (mE st i) p.h:=by rw[L];simpa using hv
 have G3:ai 137 J O:=G2.tr g3;obtain⟨z0,z1,z2,z3,z4,zr,P,z5⟩:=V O G3;refine⟨fun Q=>out ?_,fun heq=>?_⟩
 .unfold bG;rw[aaG k,hi,aaR (by rw[<-j];exact Q)];exact j
 have h0:¬gQ (cI p.h.c 0) (mE st i) p.h≠0:=fun g=>g (j.symm.trans heq);rw[P,z3,z4];have S:bo (row.take 125) fu:=hd.ok;refine⟨⟨row.take 125,row.getD 125 DB,p.b,B,RG,by rw[<-f],rfl,S,hx.body,hx.byte,hlen,t⟩,fun U g4 ⟨F4,o,_⟩=>?_⟩;have o:=o (row.take 125) (row.getD 125 DB) p.b B RG (by rw[<-f]) rfl hx.body;have y:U.b 140=fJ p.h.c p.b:=by rw[<-Ba hd];exact Value.bool.inj o
 have G4:ai 137 J U:=G3.tr g4;obtain⟨u0,u1,_⟩:=V U G4;refine⟨fun hb=>out ?_,fun hb=>?_⟩
 .unfold bG;rw[aaG k,hi,aaG h0,aaR (by rw[<-y];simpa using hb)];rfl
 have z:¬fJ p.h.c p.b=false:=by rw[<-y,hb];decide
 rw[u0,u1,N];refine⟨rfl,fun s=>out ?_,fun s=>out ?_⟩
 .have s:400<=fq st:=s;unfold bG;rw[aaG k,hi,aaG h0,aaG z,aaR s];rfl
 .have s:¬400<=fq st:=s;unfold bG;rw[aaG k,hi,aaG h0,aaG z,aaG s];rfl
open Classical in
noncomputable def cR (st:Nat->List Pc) (p:Pc):Nat->List Pc:=if bG st p=0 then vf st (cI p.h.c 0-1).toNat (st (cI p.h.c 0-1).toNat++[p])else st
noncomputable def BF:Sx.Spec where
 fn:=98
 own:=[.arg 0]
 rd:=[1001053,1001125,2000005]
 res:=[.one (.int .i64)]
 pre:=fun xs Hs Rs=>∃ x H st row T B RG p,xs=[.pointer (some ⟨x,0,none⟩),.agg row.toArray]/\Hs=[H]/\Rs=[T,B,RG]/\pR H x st/\mK st/\gY T B row p/\p.b.length<=900000/\ve RG 5
 post:=fun xs Hs Rs v Hs' F=>∃ x H st row T B RG p H',xs=[.pointer (some ⟨x,0,none⟩),.agg row.toArray]/\Hs=[H]/\Rs=[T,B,RG]/\pR H x st/\gY T B row p/\Hs'=[H']/\v=.int .i64 (bG st p)/\pR H' x (cR st p)
def Ov:Nd:=(fun a g o m p k l=>(fun f c d h i=>(fun n=>(fun b j=>(.ext (.alloc 137) (.and (.pre d) (.ext d (.and (.imp (.not (.eq (.var 138) k)) (.post [.hp 133 [] o [],.ro 134 m false,.ro 135 l true,.ro 136 p false,.dead] (.sv (.one (.int .i64 (.var 138)))))) (.imp (.eq (.var 138) k) (.and (.e (.le k g)) (.and (.e (.le k a)) (.and (.e (.lt a (.lit 6))) (.and (.e (.his 133 g a 0 .ptr)) (.and (.pre c) (.ext c (.and (.imp (.not (.eq (.var 139) k)) (.post [.hp 139 [133] o [],.ro 134 m false,.ro 135 l true,.ro 136 p false,.dead] (.sv (.one (.int .i64 (.var 139)))))) (.imp (.eq (.var 139) k) (.and (.e (.his 139 g f 0 .slice)) (.and (.pre h) (.ext h (.ext (.alloc 145) (.and (.pre b) (.ext b (.and (.pre j) (.ext j (.and (.e (.his 148 g (.lit 12) 0 (.int .i64))) (.and (.pre i) (.ext i (.post [.hp 149 [148,146,139,133] [.var 146,.var 0] [],.ro 134 m false,.ro 135 l true,.ro 136 p false,.dead,.hp 141 [] [.var 141] [],.dead] (.sv (.one (.int .i64 k))))))))))))))))))))))))))):Nd)) (.app 146 46 1 24 (.sl (.hP 139 g f 0 0) (.hP 139 g f 0 1) n (.hP 139 g f 0 3)) n (.hp 139 [133] o []) (.cvs [.sl (.var 141) (.var 142) (.var 143) (.var 144)] 1)) (.put 148 146 g f [.sl (.var 146) k (.add n (.lit 1)) (.var 147)])) (.hP 139 g f 0 2)) (.add (.lit 6) a) (.call 1 139 [.sv (.one (.hptr (.hP 133 g a 0 0) (.hP 133 g a 0 1))),.sv (.agg (ar 1 cy))] [.hp 133 [] o []] [.ro 134 m false,.ro 136 p false]) (.call 0 138 [.sv (.one (.hptr g k)),.sv (.agg (ar 1 Da))] [] [.hp 133 [] o [],.ro 134 m false,.ro 135 l true,.ro 136 p false]) (.call 2 141 [.sv (.one (.sl (.var 129) (.var 130) (.var 131) (.var 132)))] [] [.ro 135 l true]) (.put 149 148 g (.lit 12) [.int .i64 (.wrap .i64 (.add (.hI 148 g (.lit 12) 0) (.lit 1)))])) (.wrap .i64 (.sub (.var 1) (.lit 1))) (.var 0) [.var 0] [.var 54] [.lit 5] (.lit 0) [.var 129]
noncomputable def VM (K R:Hl):List Sx.Spec:=[zy,Dh EG K R,gG]
def Uq (K R:Hl):∀ t∈VM K R,t.OK Tryz.prog:=av Fk <| av (LC rfl ND K R) <| av mc <| bW
def Zg (K R:Hl):(VM K R)[0]?=some zy:=rfl
def Zh (K R:Hl):(VM K R)[1]?=some (Dh EG K R):=rfl
def Zi (K R:Hl):(VM K R)[2]?=some gG:=rfl
def WN:zy.res=[.one (.int .i64)]:=rfl
def Zj (K R:Hl):(Dh EG K R).res=[.one (.int .i64)]:=rfl
def WO:gG.res=[.one .sl]:=rfl
def oW {st:Nat->List Pc} {p:Pc} (h:bG st p=0):p.h.Form/\gQ (cI p.h.c 0) (mE st (cI p.h.c 0-1).toNat) p.h=0/\fJ p.h.c p.b=true/\fq st<400:=by
 unfold bG at h;split at h
 .cases h
 .rename_i a;split at h
  .rename_i hn;exact absurd h hn
  .rename_i d;split at h
   .cases h
   .rename_i hw;split at h
    .cases h
    .rename_i hc;exact⟨ac6.1 a,ac6.1 d,by simpa using hw,ah⟩
noncomputable def Ft (K R:Hl):aG Tryz.prog (VM K R) BF.fn where
 Λ:=aC
 args:=TP (.var 0) (.lit 0)::(cA 1 [.agg Da]).map .sv
 mem:=[.hp 133 [] [.var 0] [],.ro 134 [.var 54] false,.ro 135 [.var 129] true,.ro 136 [.lit 5] false]
 nv:=137
set_option maxRecDepth 20000 in
def Fs:BF.OK Tryz.prog:=by
 refine Spec.Rz fun xs Hs Rs ⟨x,H,st,row,T,B,RG,p,ex,eH,eR,hI,hS,hx,hlen,A⟩=>?_;obtain⟨a,sv,Kc,KB,m⟩:=id hI;generalize hi:(cI p.h.c 0-1).toNat=i;refine Spec.aV (Γ:=VM (Kc i) (H.minus (Kc i))) (Uq _ _) ?_;rintro aE Hs' aH aI aJ ⟨e1,e2,e3⟩;subst e1 e2 e3 ex eH eR;obtain⟨J,va,rfl,hh,R⟩:=DI (a:=(x:Int)) [(133,H),(134,T),(135,B),(136,RG)] hx.ok;have w1:J.h 133=H:=hh 133;have w2:J.h 134=T:=hh 134;have w3:J.h 135=B:=hh 135;have w4:J.h 136=RG:=hh 136;refine⟨Ft _ _,J,fun _ _=>True,fun _ _=>0,?_,⟨?_,?_,?_,?_⟩,(fun _ h=>nomatch h),?_⟩
 .show [Value.pointer (az (J.i 0) 0),.agg ((ar 1 jU).map (CV.ev J)).toArray]=_;rw[va,au ah];rfl
 .intro r hr ho;simp [Ft]at hr;rcases hr with rfl | rfl | rfl | rfl
  .exact⟨H,aF,by show(J.h 133).le H;rw[w1];exact Hl.le_refl _⟩
  all_goals cases ho
 .intro r hr ho;simp [Ft]at hr;rcases hr with rfl | rfl | rfl | rfl
  .cases ho
  .exact⟨T,aF,by show(J.h 134).le T;rw[w2];exact Hl.le_refl _⟩
  .exact⟨B,aF,by show(J.h 135).le B;rw[w3];exact Hl.le_refl _⟩
  .exact⟨RG,aF,by show(J.h 136).le RG;rw[w4];exact Hl.le_refl _⟩
 .simp [Ft,bL.own]
 .intro r hr;simp [Ft]at hr;rcases hr with rfl | rfl | rfl | rfl<;>trivial
 refine aG.lit (x:=Ov) ?_;unfold Ov;simp only[Nd.holds,X.pre,X.rel,X.n,Src.ok,Src.len,Src.iW,abk,aaP,ab6,acA,abj,Nat.reduceAdd,abc,abt,se,r9,jZ,kP,jr,sd,nx,mO,pG,gM,nj,ny,sa,nq,np,j7,nu,ak,al,bQ,dm,cG,bP,cO,fh,fG,fS,iT,gy,iE,fY,TV.ev,SV.ev,CV.ev,aaY,abN,bL.hl,kS,Cp.sv,Ck.cv,cA,Cp.len,Ck.len,gI,iz,jD,Zg,Zh,Zi,WN,Zj,WO,KI];generalize f:(ar 1 jU).map (CV.ev J)=row at *;have S:(ar 1 cy).map (CV.ev J)=row.take 125:=by rw[<-f,rD]
 have ab:Value.slice (az (J.i 129) (J.i 130)) (J.i 131).toNat (J.i 132).toNat=row.getD 125 DB:=by rw[<-f,yg]
 have V:∀ q:Env,ai 137 J q->q.i 0=x/\q.h 133=H/\q.h 134=T/\q.h 135=B/\q.h 136=RG/\(ar 1 cy).map (CV.ev q)=row.take 125/\(ar 1 Da).map (CV.ev q)=row/\q.i 1=J.i 1/\Value.slice (az (q.i 129) (q.i 130)) (q.i 131).toNat (q.i 132).toNat=row.getD 125 DB:=fun q g=>by
  refine⟨by rw[g.i 0,va],by rw[g.h 133,w1],by rw[g.h 134,w2],by rw[g.h 135,w3],by rw[g.h 136,w4],?_,?_,g.i 1,?_⟩
  .rw[<-S];exact aa1 Array.toList (Value.agg.inj (gn (ks:=cy) (n:=1) g aA))
  .rw[<-f];exact aa1 Array.toList (Value.agg.inj (gn (ks:=jU) (n:=1) g aA))
  .rw[g.i 129,g.i 130,g.i 131,g.i 132];exact ab
 have hd:=hx.hd;have ad:cI p.h.c 0=J.i 1:=by
  have e1:cI p.h.c 0=cI (row.take 125) 0:=hd.I aA;rw[e1,<-S];rfl
 have ep:Value.pointer (az (x:Int) 0)=.pointer (some ⟨x,0,none⟩):=by rw[au ah];rfl
 intro q1 g1 p1;obtain⟨v0,x1,x2,x3,x4,xr,ae,_,_⟩:=V q1 g1;rw[v0,ep,ae,x1,x2,x3,x4];refine⟨⟨x,H,st,_,T,B,RG,p,rfl,rfl,hI.rd,hS,hx,hlen,A⟩,fun q2 g2 ⟨F2,af,_⟩=>?_⟩;have o:q2.i 138=bG st p:=by simpa using af _ _ _ _ _ _ _ _ rfl rfl hI.rd hx
 have G2:ai 137 J q2:=g1.tr g2;obtain⟨y0,y1,y2,y3,y4,yr,aK,y5,_⟩:=V q2 G2;refine⟨fun E _=>?_,fun heq=>?_⟩
 .refine⟨[[0]],[],rfl,rfl,⟨(bf fun _=>q2.i 138),rfl,zzT,zzT⟩,x,H,st,_,T,B,RG,p,_,rfl,rfl,rfl,hI,hx,rfl,by rw[<-o];rfl,?_⟩;unfold cR;rw[aaG (by rw[<-o];exact E)];show pR (di [q2.h 133]) _ _;rw[aN,y1];exact hI
 obtain⟨hF,y,_,aD⟩:=oW (o.symm.trans heq);have hw:=zo hF;rw[hi]at y;have F:IntKind.i64.wrap (J.i 1-1)=((i:Nat):Int):=by rw[IntKind.wrap_i64];rw[ad]at hw hi;omega
 have d:i<6:=ah;have ag:cI p.h.c 0=((i+1:Nat):Int):=ah;rw[ag]at y;have G:=m.nox i d;obtain⟨c1,c2,c3⟩:=(show Tr H x st a sv from ⟨m.bj,fun j hj=>⟨Kc j,m.le j hj,m.ch j hj⟩,fun j hj=>by
  obtain⟨us,h1,h2⟩:=m.row j hj;exact⟨us,h1,fun k u q hu hq=>kE (h2 k u q hu hq) m.kb⟩⟩).cells d
 have aj:H.cell ((x:Int)).toNat (Int.toNat ((i:Nat):Int))=some (.pointer (some ⟨a i,0,none⟩)):=by rw[aar,aar];exact c1
 have K:(mE st i).length<1000000:=by unfold mE;rw[aaT];exact hS i d
 rw[y0,y1,y2,y4,y5,yr,F,aj,jk];refine⟨ah,ah,ah,rfl,⟨by rw[Hl.OQ (m.le i d)],Hl.Ma _ _,a i,Kc i,_,_,_,T,RG,p.h,rfl,rfl,rfl,m.ch i d,K,hd,A⟩,fun s g3 ⟨F3,⟨K',k1,k2,k3,a',K2,w',hs',row',T',aL,h',aM,f1,f2,f3,d2,i2,f4,hv,hok,aO⟩,_⟩=>?_⟩;simp only[aaC,aaP,Value.pointer.injEq,aaF,Addr.mk.injEq,Value.agg.injEq]at f1 f2 f3 f4 k1;obtain⟨rfl,f1⟩:=f1;obtain⟨rfl,rfl⟩:=f3;have f1:=aa5 f1;subst f1 f2 f4;obtain⟨rfl,rfl⟩:=c8.uniq ⟨Kc i,Hl.le_refl _,m.ch i d⟩ ⟨_,Hl.le_refl _,d2⟩;obtain rfl:=hd.uniq i2;have L:s.i 139=0:=by rw[<-y];simpa using hv
 have an:=hok y;have G3:ai 137 J s:=G2.tr g3;obtain⟨z0,z1,z2,z3,z4,zr,aQ,z5,zb⟩:=V s G3;refine⟨fun E=>absurd L E,fun _=>?_⟩;have lR:(H.minus (Kc i)).le (s.h 139):=by rw[k1];exact Hl.bK k2
 have xR:(H.minus (Kc i)) x=some (.cells (Ep a sv (fq st)).toArray 182 (0,0)):=by
  unfold Hl.minus;have G:¬((Kc i) x).isSome=true:=G;rw[aaG G];exact m.bj
 have M:∀ q:Env,q.i 0=x->q.i 1=J.i 1->q.h 139=s.h 139->(q.h 139).cell (q.i 0).toNat (6+IntKind.i64.wrap (q.i 1-1)).toNat=some (sv i):=fun q h1 h2 h3=>by
  rw[h1,h2,h3,F,aar,show(6+((i:Nat):Int)).toNat=6+i by omega];have:=(J8 a sv (fq st) d).2;unfold Hl.cell;rw[lR _ _ xR];simpa using this
 obtain⟨us,ho,aR⟩:=m.row i d;have U:∃ p l c,sv i=Value.slice p l c:=by
  rcases ho.2 with ⟨h,_⟩ | ⟨_,_,_,h,_⟩<;>exact⟨_,_,_,h⟩
 have C:bw (some (sv i)) 2=(st i).length:=by
  rcases ho.2 with ⟨h,hn⟩ | ⟨_,_,_,h,_⟩
  .rw[h,hn];rfl
  .rw[h];rfl
 have ao:bz (some (sv i)) .slice=true:=by obtain⟨_,_,_,e⟩:=U;rw[e];rfl
 rw[M s z0 z5 rfl,zb,z3];refine⟨ao,⟨_,p.b,B,rfl,rfl,hx.body,ah⟩,fun q4 g4 ⟨F4,⟨u',bs',R',m1,m2,m3,m4⟩,aq,aS⟩ z N p5=>?_⟩;simp only[aaC,aaP]at m1 m2;subst m1 m2;obtain rfl:=hx.body.uniq m3;rw[<-aq zzT]at m4;have G5:ai 139 s z:=g4.mono.tr N;have av:ai 137 J z:=G3.tr G5;obtain⟨s0,s1,s2,s3,s4,sr,sr2,s5,sb⟩:=V z av;have t:z.h 139=s.h 139:=by rw[N.h 139,g4.h 139]
 rw[M z s0 s5 t,iN U,C,t,k1,aar];have aw:aP (K'.un (H.minus (Kc i))) 46 1 (sv i) (st i).length us:=ho.at fun b hb=>by
  obtain⟨c,hc⟩:=ho.type hb;have O:=((m.own i b d hb).2 i d).1;have:(H.minus (Kc i)) b=H b:=by
   unfold Hl.minus;have O:¬((Kc i) b).isSome=true:=O;rw[aaG O]
  rw[Hl.bK k2 b _ (this.trans hc),hc]
 have aT:=hS i d;refine⟨⟨⟨us,aw⟩,ah,by unfold maxLen;omega,ah⟩,fun v g6 ⟨a1,a2,happ,W,_,R⟩=>?_⟩;have G6:ai 139 s v:=G5.tr g6;obtain⟨t0,t1,t2,t3,t4,tr,tr2,t5,tb⟩:=V v (G3.tr G6);have P:v.h 139=s.h 139:=by rw[g6.h 139,t]
 have Y:(v.h 146) x=some (.cells (Ep a sv (fq st)).toArray 182 (0,0)):=by
  have e1:=Hl.bK k2 x _ xR;rw[W x (Hl.mem_of e1) fun e=>?_,e1];obtain⟨c,hc⟩:=ho.type e.symm;rw[m.bj]at hc;simp at hc
 have en:(((st i).length:Int)+1).toNat=(st i).length+1:=ah;have ax:(6+((i:Nat):Int)).toNat=6+i:=ah;rw[M v t0 t5 P,C,en,t0,t5,F,ax,aar];refine⟨⟨ah,ah,jI Y (by show 6+i+1<=13;omega)⟩,fun q7 g7 p7=>?_⟩;have G7:ai 139 s q7:=G6.tr g7;obtain⟨r0,_⟩:=V q7 (G3.tr G7);have Z:(q7.h 148) x=some (.cells (Ep a (vf sv i (.slice (az (v.i 146) 0) ((st i).length+1) (v.i 147).toNat)) (fq st)).toArray 182 (0,0)):=by
  rw[p7,Hl.qE Y];simp only[acW];rw[Oz _ _ _ _ d]
 have ay:(q7.h 148).cell ((x:Int)).toNat (Int.toNat 12)=some (.int .i64 (fq st)):=by
  rw[aar];unfold Hl.cell;rw[Z];rfl
 rw[r0,ay];have aU:0<=fq st:=acr _;have aB:IntKind.i64.wrap (cf (some (Value.int .i64 (fq st)))+1)=fq st+1:=by
  show IntKind.i64.wrap (fq st+1)=_;rw[IntKind.wrap_i64];omega
 rw[aB,aar];refine⟨rfl,⟨ah,ah,jI Z (by show 12+1<=13;omega)⟩,fun Q g8 p8=>?_⟩;intro aa;have hGB:(Q.h 149).bV (Q.h 141):=aa 0 5 _ _ aA rfl rfl rfl;have D:Q.h 141=q4.h 141:=by rw[g8.h 141,g7.h 141,g6.h 141,N.h 141]
 have e8:Q.h 149=((v.h 146).put x (6+i) [.slice (az (v.i 146) 0) ((st i).length+1) (v.i 147).toNat]).put x 12 [.int .i64 (fq st+1)]:=by rw[p8,p7];rfl
 rw[e8,D]at hGB;have aC:fL (q4.h 141) (.slice (az (z.i 141) (z.i 142)) (z.i 143).toNat (z.i 144).toNat) p.b:=by
  rw[N.i 141,N.i 142,N.i 143,N.i 144];exact m4.rd.w
 have key:=m.put d k2 an aC a1 happ W R hGB;have e0:bG st p=0:=o.symm.trans heq;refine⟨[[0,5]],[],rfl,rfl,⟨(bf fun _=>0),rfl,zzT,zzT⟩,x,H,st,_,T,B,RG,p,_,rfl,rfl,rfl,hI,hx,rfl,by rw[e0];rfl,?_⟩;unfold cR;rw[aaR e0,hi];show pR (di [Q.h 149,Q.h 141]) _ _;rw[Dn,e8,D];exact⟨_,_,_,_,key⟩
def uv {q:Env} : ∀ {a b:List Ck} {n:Nat},cW n a q->cW (n+bd a) b q->cW n (a++b) q
 | [],b,n,_,h=>by simpa [bd] using h
 | k::a,b,n,h,h2=>⟨h.1,uv h.2 (by rw[show n+k.len+bd a=n+bd (k::a)by simp [bd];omega];exact h2)⟩
def UL (h:jt (n+53) q .sl):cW n cy q:=by
 have e:cy=([i64,.int .u64]++List.replicate 32 (.int .u8)++[i64,.bool,.int .u64]++List.replicate 16 (.int .u8))++([.sl]++(List.replicate 6 (.int .u64)++List.replicate 32 (.int .u8)++[i64]++List.replicate 32 (.int .u8))):=rfl;rw[e];exact uv (cN _ _ _ rfl) (uv ⟨h,zzT⟩ (cN _ _ _ rfl))
set_option maxRecDepth 20000 in
def O2 (h:jt (n+53) q .sl) (h2:jt (n+128) q .sl):cW n jU q:=uv (UL h) ⟨h2,zzT⟩
def Good (st:Nat->List Pc):Prop:=∀ i,i<6->∀ p∈st i,aq p.b/\p.b.length<=1000000
def Fl:Sx.Spec where
 fn:=74
 own:=[]
 rd:=[0]
 res:=[.agg jU,.one (.int .i64)]
 pre:=fun xs Hs Rs=>∃ x R st n s,xs=[.pointer (some ⟨x,0,none⟩),.int .i64 n,.int .u64 s]/\Rs=[R]/\pS R x st/\mK st/\Good st/\(0<=s/\s<18446744073709551616)
 post:=fun xs Hs Rs v Hs' F=>∃ x R st n s,xs=[.pointer (some ⟨x,0,none⟩),.int .i64 n,.int .u64 s]/\Rs=[R]/\pS R x st /\
  (((1<=n/\n<=6)/\(1<=s/\s<=(st (n-1).toNat).length)/\∃ row p,(st (n-1).toNat)[(s-1).toNat]?=some p/\v=.tuple #[.agg row.toArray,.int .i64 0]/\gY F F row p)\/(¬((1<=n/\n<=6)/\1<=s/\s<=(st (n-1).toNat).length)/\∃ u,v=.tuple #[u,.int .i64 11]))
def aaw:List CV:=[.int .i64 (.lit 0),.int .u64 (.lit 0)]++List.replicate 32 (CV.int .u8 (.lit 0))++[.int .i64 (.lit 0),.bool .ff,.int .u64 (.lit 0)]++List.replicate 16 (CV.int .u8 (.lit 0))++[.sl (.lit (-1)) (.lit 0) (.lit 0) (.lit 0),.int .u64 (.lit 0),.int .u64 (.lit 0),.int .u64 (.lit 0),.int .u64 (.lit 0),.int .u64 (.lit 0),.int .u64 (.lit 0)]++List.replicate 32 (CV.int .u8 (.lit 0))++[.int .i64 (.lit 0)]++List.replicate 32 (CV.int .u8 (.lit 0))++[.sl (.lit (-1)) (.lit 0) (.lit 0) (.lit 0)]
def X9:List Sx.Spec:=[Lj,gG]
def Un:∀ t∈X9,t.OK Tryz.prog:=av Jx <| av mc <| bW
def SU:aG Tryz.prog X9 Fl.fn where
 Λ:=aC
 args:=[TP (.var 0) (.lit 0),TI .i64 (.var 1),.sv (.one (.int .u64 (.var 2)))]
 mem:=[.ro 3 [.var 0] true]
 nv:=4
set_option maxRecDepth 20000 in
def Dp {n:Int} {st:Nat->List Pc} (hI:pS R x st) (a:¬((1<=n/\n<=6)/\1<=s/\s<=(st (n-1).toNat).length)) {mem:Mem} : postOf Fl [.pointer (some ⟨x,0,none⟩),.int .i64 n,.int .u64 s] [] [R] q mem (.tup [.agg aaw,.one (.int .i64 (.lit 11))]):=by
 intro _;exact⟨[],[],rfl,rfl,⟨(bf fun k=>if k=53 then -1 else if k=128 then -1 else if k=132 then 11 else 0),rfl,⟨O2 ⟨aA,aA,aA,aA⟩ ⟨aA,aA,aA,aA⟩,zzT,zzT⟩⟩,x,R,st,n,s,rfl,rfl,hI,Or.inr ⟨a,_,rfl⟩⟩
set_option maxRecDepth 20000 in
def Ot:Fl.OK Tryz.prog:=by
 refine Spec.aV (Γ:=X9) Un ?_;rintro xs Hs Rs N af ⟨x,R,st,n,s,rfl,rfl,hI,hS,hG,hs⟩;have e0:Hs=[]:=aaz.1 N;subst e0;refine⟨SU,aL [x,n,s] false [Hl.none,Hl.none,Hl.none,R],fun _ _=>True,fun _ _=>0,?_,dw (by intro r hr;simp [SU]at hr;subst hr;exact⟨_,_,_,rfl⟩) rfl,(fun _ h=>nomatch h),?_⟩
 .show [Value.pointer (az (x:Int) 0),.int .i64 n,.int .u64 s]=_;rw[au ah];rfl
 refine aG.read [cy] [] [] ?_;generalize F:aL [(x:Int),n,s] false [Hl.none,Hl.none,Hl.none,R]=J;have V:∀ q:Env,ai 4 J q->q.i 0=x/\q.i 1=n/\q.i 2=s/\q.h 3=R:=fun q g=>by
  rw[g.i 0,g.i 1,g.i 2,g.h 3,<-F];exact⟨rfl,rfl,rfl,rfl⟩
 clear F;simp only[go_sem,Nat.reduceAdd,X9,Wk,Wj,WO,KI];obtain⟨a,sv,M⟩:=id hI;intro q1 g1 p1;obtain⟨v0,v1,v2,w3⟩:=V q1 g1;rw[v0,v1,v2,w3];refine⟨fun h1=>⟨fun h6=>Dp hI ah,fun h6=>?_⟩,fun h1=>Dp hI ah⟩;obtain⟨i,hi⟩:∃ i:Nat,n-1=i:=⟨(n-1).toNat,ah⟩;have j:i<6:=ah;have A:(n-1).toNat=i:=ah;have hw:IntKind.i64.wrap (n-1)=((i:Nat):Int):=by rw[IntKind.wrap_i64];omega
 obtain⟨c1,c2,_⟩:=M.cells j;have O:R.cell ((x:Int)).toNat (Int.toNat ((i:Nat):Int))=some (.pointer (some ⟨a i,0,none⟩)):=by rw[aar,aar];exact c1
 have hlen:(mE st i).length<1000000:=by unfold mE;rw[aaT];exact hS i j
 rw[hw,O,jk];refine⟨ah,ah,ah,rfl,⟨a i,R,_,_,s,rfl,rfl,M.ch i j,hs,hlen⟩,fun q2 g2 ⟨F2,⟨a',R',w',hs',s',f1,f2,d2,t⟩,P,Q⟩ q3 S p3=>?_⟩;simp only[aaC,aaP,Value.pointer.injEq,aaF,Addr.mk.injEq,Value.int.injEq,abk]at f1 f2;obtain⟨rfl,rfl⟩:=f1;subst f2;obtain⟨rfl,rfl⟩:=(M.ch i j).uniq d2;have hl:(mE st i).length=(st i).length:=by unfold mE;rw[aaT]
 have T:q3.b 133=q2.b 133:=S.b 133;rw[T];refine⟨fun hb=>?_,fun hb=>?_⟩
 .rcases t with ⟨m1,m2,row',h',z,ev,o⟩ | ⟨B,u,ev⟩
  .simp only[Value.tuple.injEq,abh,aaC,Value.bool.injEq,aaP]at ev;exact absurd ev.2 hb
  .exact Dp hI (by rw[A];rw[hl]at B;exact fun g=>B g.2)
 rcases t with ⟨m1,m2,row',h',z,ev,o⟩ | ⟨B,u,ev⟩
 rotate_left
 .simp only[Value.tuple.injEq,abh,aaC,Value.bool.injEq,aaP]at ev;exact absurd (ev.2.symm.trans hb) aA
 simp only[Value.tuple.injEq,abh,aaC,Value.bool.injEq,aaP,Value.agg.injEq]at ev;have er:=ev.1;rw[<-P zzT]at o;rw[hl]at m2;obtain⟨us,ho,U⟩:=M.row i j;have W:(s-1).toNat<(st i).length:=ah;have hp:(st i)[(s-1).toNat]?=some (st i)[(s-1).toNat]:=aax W;have X:(s-1).toNat<us.length:=by have:=ho.1;omega
 have hu:us[(s-1).toNat]?=some us[(s-1).toNat]:=aax X;have f:=U _ _ _ hu hp;obtain⟨g,cap,cur,hv,hg,hle,ag,aj,ht⟩:∃ g cap cur,sv i=.slice (some ⟨g,0,none⟩) (st i).length cap/\R g=some (.cells cur 46 (0,0))/\(st i).length<=cap/\cap<=maxLen/\cur.size=cap*1/\cur.toList.take ((st i).length*1)=us:=by
  rcases ho.2 with ⟨_,hn⟩ | h
  .omega
  .exact h
 have Y:R.cell ((g:Int)).toNat (0+(s-1)).toNat=some us[(s-1).toNat]:=by
  rw[aar,Int.zero_add];unfold Hl.cell;rw[hg];rw[<-hu,<-ht,abf,aaR ah,acK]
 obtain⟨y0,y1,y2,y3⟩:=V q3 (g1.trans (g2.mono.tr S));have Z:R.cell ((x:Int)).toNat (6+((i:Nat):Int)).toNat=some (.slice (some ⟨g,0,none⟩) (st i).length cap):=by
  rw[aar,show(6+((i:Nat):Int)).toNat=6+i by omega,c2,hv]
 have aa:IntKind.u64.wrap (s-1)=s-1:=by rw[IntKind.wrap_u64];omega
 have k0:bw (some (Value.slice (some ⟨g,0,none⟩) (st i).length cap)) 0=(g:Int):=rfl;have k1:bw (some (Value.slice (some ⟨g,0,none⟩) (st i).length cap)) 1=0:=rfl;have k2:bw (some (Value.slice (some ⟨g,0,none⟩) (st i).length cap)) 2=(st i).length:=rfl;obtain⟨x5,y5,ak,e5,_⟩:=id f;have G:∃ p l c,us[(s-1).toNat]=Value.slice p l c:=⟨_,_,_,e5⟩;rw[y0,y1,y2,y3,hw,Z,aa,k0,k1,k2,Y,iN G];have C:=hG i j _ (aaA hp);refine⟨rfl,ah,ah,ah,by rw[e5];rfl,⟨_,_,R,rfl,rfl,f,C.2⟩,fun d g4 ⟨F4,⟨u',bs',R',z1,z2,z3,z4⟩,ab,ad⟩ H=>?_⟩;simp only[aaC,aaP]at z1 z2;subst z1 z2;obtain rfl:=f.uniq z3;rw[<-ab zzT]at z4;have hGB:(d.h 5).bV (d.h 135):=H 2 4 _ _ aA rfl rfl rfl;have E:ai 134 q2 d:=S.mono.tr g4;have I:(ar 5 cy).map (CV.ev d)=row':=(aa1 Array.toList (Value.agg.inj (gn (ks:=cy) (n:=5) (m:=134) E aA))).trans er;have ae:∃ sl,sl=Value.slice (az (d.i 135) (d.i 136)) (d.i 137).toNat (d.i 138).toNat:=⟨_,rfl⟩;obtain⟨sl,D⟩:=ae;rw[<-D]at z4;have aE:bo (row'++[sl]) rE:=by
  have:rE=fu++[Kd.slice]:=rfl;rw[this];exact lW o.ok (by rw[D];rfl)
 have y:row'.length=125:=gx o.ok;have h5:d.h 5=q2.h 5:=E.h 5;have K:jt 58 d .sl:=by
  have hh:=Q.1;have e:cy=(([i64,.int .u64]:List Ck)++List.replicate 32 (.int .u8)++[i64,.bool,.int .u64]++List.replicate 16 (.int .u8))++([Ck.sl]++(List.replicate 6 (.int .u64)++List.replicate 32 (.int .u8)++[i64]++List.replicate 32 (.int .u8))):=rfl;have sp:∀ (a b:List Ck) (n:Nat),cW n (a++b) q2->cW (n+bd a) b q2:=by
   intro a
   induction a with
   | nil=>intro b n h;simpa [bd] using h
   | cons k a ih=>intro b n h;have:=ih b _ h.2;rw[show n+k.len+bd a=n+bd (k::a)by simp [bd];omega]at this;exact this
  have hh:cW 5 cy q2:=hh;rw[e]at hh;obtain⟨n1,n2,n3,n4⟩:=(sp _ _ _ hh).1;have n1:-1<=q2.i 58:=n1;have n2:0<=q2.i 59:=n2;have n3:0<=q2.i 60:=n3;have n4:0<=q2.i 61:=n4;exact⟨by rw[E.i 58];exact n1,by rw[E.i 59];exact n2,by rw[E.i 60];exact n3,by rw[E.i 61];exact n4⟩
 have L:jt 135 d .sl:=ad.1;have ph:(st i)[(s-1).toNat].h=h':=by
  unfold mE at z;rw[aaL,hp]at z;simpa using z
 refine⟨[],[2,4],rfl,rfl,⟨⟨fun k=>if k<128 then d.i (k+5)else if k<132 then d.i (k+7)else 0,fun k=>d.b (k+5),d.s,d.v,d.h⟩,rfl,⟨O2 K L,zzT,zzT⟩⟩,x,R,st,n,s,rfl,rfl,hI,Or.inl ⟨⟨ah,ah⟩,⟨ah,by rw[A];omega⟩,row'++[sl],(st i)[(s-1).toNat],by rw[A];exact hp,?_,?_⟩⟩
 .show Value.tuple #[.agg ((ar 5 cy++[CV.sl (.var 135) (.var 136) (.var 137) (.var 138)]).map (CV.ev d)).toArray,.int .i64 0]=_;rw[aba,I,D];rfl
 .show gY (di [d.h 5,d.h 135]) (di [d.h 5,d.h 135]) _ _;rw[Dn];refine⟨aE,?_,?_,C.1,C.2⟩
  .rw[aco y,ph];rw[<-h5]at o;exact o.mono (Hl.bm _ _)
  .have:(row'++[sl]).getD 125 DB=sl:=by rw[aaD,aaQ ah,y];rfl
   rw[this];exact kE z4.rd.w (Hl.bK hGB)
end Go.Proofs.YtomdimlnggpgbaaGreatDoor
namespace Go.Proofs.YtomdimlnggpgbaaGreatDoor
open Go Go.RowKit Go.Extern.Stop Go.Stop Go.Extern
def IP (t:Addr) (w:World):(ReflectliteValue.unpack (.iface 166 (.pointer (some t)))).run Tryz.prog w=.ok (.agg #[.pointer (some ⟨7,166,none⟩),.pointer (some ⟨w.heap.size,0,none⟩),.int .u64 150]) (w.alloc (.cells #[.pointer (some t)] 166)):=by kernel_rfl
def R6 (a:Addr) (w:World):(ReflectliteValue.methodAny (ReflectliteValue.valueError "reflectlite.Value.Type" 0) (fun t _ _ _=>ReflectliteType.toType t) #[.agg #[.pointer (some ⟨7,166,none⟩),.pointer (some a),.int .u64 150]]).run Tryz.prog w=.ok (.iface 243 (.agg #[.pointer (some ⟨7,166,none⟩)])) w:=by kernel_rfl
def RZ (h:Value) (w:World):(Go.method 431 243 (.agg #[h]) "Kind").run Tryz.prog w=.ok (224,h) w:=by kernel_rfl
def RW (w:World):((ReflectliteType.abiMethod fun t=>(fun a:Nat=>Value.int IntKind.u8 (a:Int)) <$>Rtype.kind t) #[.pointer (some ⟨7,166,none⟩)]).run Tryz.prog w=.ok (.int .u8 22) w:=by kernel_rfl
def RV (w:World):((ReflectliteType.abiMethod fun t=>(fun a:Nat=>Value.int IntKind.u8 (a:Int)) <$>Rtype.kind t) #[.pointer (some ⟨7,164,none⟩)]).run Tryz.prog w=.ok (.int .u8 22) w:=by kernel_rfl
def Tc (z:Sem Value) (f:TypeId->Addr->Nat->Nat->Sem Value) (v:Value):ReflectliteValue.method z f #[v]=(do match<-ReflectliteValue.parts v with | none=>z | some (t,a,fl)=>f t a fl (fl%32)):=rfl
def Gd (a:Addr) (w:World):(ReflectliteValue.parts (.agg #[.pointer (some ⟨7,166,none⟩),.pointer (some a),.int .u64 150])).run Tryz.prog w=.ok (some (166,a,150)) w:=by kernel_rfl
def Pr (a p:Addr) (W:World) (b:W.cell? a=some (.pointer (some p))):(ReflectliteValue.method (ReflectliteValue.valueError "reflectlite.Value.IsNil" 0) ReflectliteValue.isNil #[.agg #[.pointer (some ⟨7,166,none⟩),.pointer (some a),.int .u64 150]]).run Tryz.prog W=.ok (.bool false) W:=by
 rw[Tc];simp only[Sem.run_bind,Gd,Result.andThen];simp [ReflectliteValue.isNil,loadVar,isAgg,underlying,Tryz.underlying166,b,Result.andThen]
def RX (h:Value) (w:World):(Go.method 431 243 (.agg #[h]) "Elem").run Tryz.prog w=.ok (239,.agg #[h]) w:=by kernel_rfl
def RY (h:Value) (w:World):(Go.method 431 243 (.agg #[h]) "Implements").run Tryz.prog w=.ok (240,.agg #[h]) w:=by kernel_rfl
def U9 (h:Value) (w:World):(Go.method 431 243 (.agg #[h]) "AssignableTo").run Tryz.prog w=.ok (237,.agg #[h]) w:=by kernel_rfl
def RR (w:World):(ReflectliteType.method ReflectliteType.elem #[.agg #[.pointer (some ⟨7,166,none⟩)]]).run Tryz.prog w=.ok (.iface 243 (.agg #[.pointer (some ⟨7,164,none⟩)])) w:=by kernel_rfl
def U8 (w:World):(ReflectliteType.relation "Implements" ReflectliteType.implements_ #[.agg #[.pointer (some ⟨7,164,none⟩)],.iface 243 (.agg #[.pointer (some ⟨7,107,none⟩)])]).run Tryz.prog w=.ok (.bool true) w:=by kernel_rfl
def R0 (v:Value) (w:World):(ReflectliteType.typeOf #[.iface 164 v]).run Tryz.prog w=.ok (.iface 243 (.agg #[.pointer (some ⟨7,164,none⟩)])) w:=by kernel_rfl
def R4 (v:Value) (w:World):(ReflectliteType.typeOf #[.iface 222 v]).run Tryz.prog w=.ok (.iface 243 (.agg #[.pointer (some ⟨7,222,none⟩)])) w:=by kernel_rfl
def U6 (w:World):(ReflectliteType.relation "AssignableTo" ReflectliteType.assignableTo #[.agg #[.pointer (some ⟨7,164,none⟩)],.iface 243 (.agg #[.pointer (some ⟨7,164,none⟩)])]).run Tryz.prog w=.ok (.bool true) w:=by kernel_rfl
def U7 (w:World):(ReflectliteType.relation "AssignableTo" ReflectliteType.assignableTo #[.agg #[.pointer (some ⟨7,222,none⟩)],.iface 243 (.agg #[.pointer (some ⟨7,164,none⟩)])]).run Tryz.prog w=.ok (.bool false) w:=by kernel_rfl
def IN (e:Addr) (w:World):(ReflectliteValue.unpack (.iface 164 (.pointer (some e)))).run Tryz.prog w=.ok (.agg #[.pointer (some ⟨7,164,none⟩),.pointer (some ⟨w.heap.size,0,none⟩),.int .u64 150]) (w.alloc (.cells #[.pointer (some e)] 164)):=by kernel_rfl
def Pq (w:World):(Rtype.elem? 166).run Tryz.prog w=.ok (some 164) w:=by kernel_rfl
def ZE (p:Addr) (w:World):(ReflectliteValue.mk 164 p ReflectliteValue.flagAddr).run Tryz.prog w=.ok (.agg #[.pointer (some ⟨7,164,none⟩),.pointer (some p),.int .u64 406]) w:=by kernel_rfl
def RU (a p:Addr) (W:World) (b:W.cell? a=some (.pointer (some p))):(ReflectliteValue.method (ReflectliteValue.valueError "reflectlite.Value.Elem" 0) ReflectliteValue.elem #[.agg #[.pointer (some ⟨7,166,none⟩),.pointer (some a),.int .u64 150]]).run Tryz.prog W=.ok (.agg #[.pointer (some ⟨7,164,none⟩),.pointer (some p),.int .u64 406]) W:=by
 rw[Tc];simp only[Sem.run_bind,Gd,Result.andThen];simp [ReflectliteValue.elem,loadVar,isAgg,underlying,Tryz.underlying166,b,Result.andThen,Pq,ZE]
def Xh (v x:Value):ReflectliteValue.set #[v,x]=(do
 let (some (dst,a,fl),some (src,b,_)):=(<-ReflectliteValue.parts v,<-ReflectliteValue.parts x)
  | unsupported (.noEntry "extern/(internal/reflectlite.Value).Set.zeroValue")
 if fl/ReflectliteValue.flagAddr%2==0 then unsupported (.noEntry "extern/(internal/reflectlite.Value).Set.unaddressable")
 let val<-loadVar src b
 if<-Rtype.directlyAssignable dst src then storeVar dst a val
 else if<-Rtype.implements dst src then
  if(<-Rtype.kind src)==20 then
   match val with
   | .nilIface=>unsupported (.noEntry "extern/reflectlite: a nil value of one interface type handed on as a value of another")
   | _=>storeVar dst a val
  else storeVar dst a (.iface src val)
 else panicString ("reflectlite.Set: value of type "++(<-Rtype.spelt src)++ " is not assignable to type "++(<-Rtype.spelt dst))
 pure (.tuple #[])):=rfl
def Mr (a:Addr) (w:World):(ReflectliteValue.parts (.agg #[.pointer (some ⟨7,164,none⟩),.pointer (some a),.int .u64 406])).run Tryz.prog w=.ok (some (164,a,406)) w:=by kernel_rfl
def Ps (a:Addr) (w:World):(ReflectliteValue.parts (.agg #[.pointer (some ⟨7,164,none⟩),.pointer (some a),.int .u64 150])).run Tryz.prog w=.ok (some (164,a,150)) w:=by kernel_rfl
def Pp (w:World):(Rtype.directlyAssignable 164 164).run Tryz.prog w=.ok true w:=by kernel_rfl
def Xi (a b e:Addr) (old:Value) (W:World) (hb:W.cell? b=some (.pointer (some e))) (c:W.cell? a=some old) (hf:W.frozen? a=false) :
 (ReflectliteValue.set #[.agg #[.pointer (some ⟨7,164,none⟩),.pointer (some a),.int .u64 406],.agg #[.pointer (some ⟨7,164,none⟩),.pointer (some b),.int .u64 150]]).run Tryz.prog W=.ok (.tuple #[]) (W.setCell a (.pointer (some e))):=by
 rw[Xh];simp only[Sem.run_bind,Mr,Ps,Result.andThen];simp [ReflectliteValue.flagAddr,loadVar,isAgg,underlying,Tryz.underlying164,hb,Result.andThen,Pp,storeVar,Value.cells,storeCells,Addr.add];rw[run_store Tryz.prog W a _ _ (by rfl)];simp [c,hf]
def Va (v:Value) (a:TypeId) (w:World):(Instr.typeAssert (.iface 222 v) a 267 true).run Tryz.prog w=.ok (.tuple #[.nilIface,.bool false]) w:=run_typeAssert_lacksB Tryz.underlying267 (by kernel_rfl) (by kernel_rfl) v a w
def Pt (v:Value) (a:TypeId) (w:World):(Instr.typeAssert (.iface 222 v) a 248 true).run Tryz.prog w=.ok (.tuple #[.iface 222 v,.bool true]) w:=run_typeAssert_hasB Tryz.underlying248 (by kernel_rfl) v a w
def Mq (v:Value) (w:World):(Go.method 431 222 v "Unwrap").run Tryz.prog w=.ok (232,v) w:=by kernel_rfl
def IC (w:World):Calls Tryz.prog 61 #[.nilIface] w fun e w'=>e=.returned (.int .i64 0)/\Below w.heap.size w w':=by
 go_enter Tryz.func61,Tryz.ntmps61
 go_wp2
 go_ret
 exact⟨rfl,(Below.refl _ _).alloc (aaS _) _⟩
set_option maxRecDepth 20000 in
def IB (e:Nat) (s:ByteArray) (c:Int) (w:World) (f:w.cell? ⟨4,0,none⟩=some (.iface 243 (.agg #[.pointer (some ⟨7,107,none⟩)])))
 (he:w.heap[e]?=some (.cells #[.string s,.int .i64 c] 168 (0,0))) :
 Calls Tryz.prog 61 #[.iface 222 (.agg #[.iface 164 (.pointer (some ⟨e,0,none⟩))])] w fun ev w'=>ev=.returned (.int .i64 c)/\Below w.heap.size w w':=by
 have h1:=@run_callFunc_extern Tryz.prog 138 _ (fun args=>ReflectliteValue.unpack (args.getD 0 (.tuple #[]))) Tryz.func138 (by kernel_rfl) (by kernel_rfl) (by kernel_rfl) (by kernel_rfl);have h2:=@run_callFunc_extern Tryz.prog 139 _ (ReflectliteValue.methodAny (ReflectliteValue.valueError "reflectlite.Value.Type" 0) (fun t _ _ _=>ReflectliteType.toType t)) Tryz.func139 (by kernel_rfl) (by kernel_rfl) (by kernel_rfl) (by kernel_rfl);have r:=@run_callFunc_extern Tryz.prog 140 _ (ReflectliteValue.method (ReflectliteValue.valueError "reflectlite.Value.IsNil" 0) ReflectliteValue.isNil) Tryz.func140 (by kernel_rfl) (by kernel_rfl) (by kernel_rfl) (by kernel_rfl);have u:=@run_callFunc_extern Tryz.prog 224 _ (ReflectliteType.abiMethod fun t=>do pure (.int .u8 (<-Rtype.kind t))) Tryz.func224 (by kernel_rfl) (by kernel_rfl) (by kernel_rfl) (by kernel_rfl);have v:=@run_callFunc_extern Tryz.prog 239 _ (ReflectliteType.method ReflectliteType.elem) Tryz.func239 (by kernel_rfl) (by kernel_rfl) (by kernel_rfl) (by kernel_rfl);have x:=@run_callFunc_extern Tryz.prog 240 _ (ReflectliteType.relation "Implements" ReflectliteType.implements_) Tryz.func240 (by kernel_rfl) (by kernel_rfl) (by kernel_rfl) (by kernel_rfl);have y:=@run_callFunc_extern Tryz.prog 129 _ (ReflectliteType.typeOf) Tryz.func129 (by kernel_rfl) (by kernel_rfl) (by kernel_rfl) (by kernel_rfl);have z:=@run_callFunc_extern Tryz.prog 237 _ (ReflectliteType.relation "AssignableTo" ReflectliteType.assignableTo) Tryz.func237 (by kernel_rfl) (by kernel_rfl) (by kernel_rfl) (by kernel_rfl);have A:=@run_callFunc_extern Tryz.prog 173 _ (ReflectliteValue.method (ReflectliteValue.valueError "reflectlite.Value.Elem" 0) ReflectliteValue.elem) Tryz.func173 (by kernel_rfl) (by kernel_rfl) (by kernel_rfl) (by kernel_rfl);have i:=@run_callFunc_extern Tryz.prog 174 _ (ReflectliteValue.set) Tryz.func174 (by kernel_rfl) (by kernel_rfl) (by kernel_rfl) (by kernel_rfl);have k0:=IP;have k1:=R6;have k2:=RZ;have k3:=RW;have k4:=RV;have k5:=RX;have k6:=RY;have B:=U9;have C:=RR;have D:=U8;have j:=R0;have k:=R4;have l:=U6;have m:=U7;have n:=IN;have o:=Va;have p:=Pt;have q:=Mq;have a:4<w.heap.size:=by
  rcases abn 4 w.heap.size with h | h
  .exact h
  .simp [World.cell?,ac4 h]at f
 have b:e<w.heap.size:=(abg.1 he).1;have Uh:(((w.alloc (.cells #[.pointer none] 164)).alloc (.cells #[.pointer (some ⟨w.heap.size,0,none⟩)] 166)).alloc (.cells #[.pointer (some ⟨7,166,none⟩),.pointer (some ⟨w.heap.size+1,0,none⟩),.int .u64 150] 226)).cell? ⟨4,0,none⟩=some (.iface 243 (.agg #[.pointer (some ⟨7,107,none⟩)])):=by
  rw[World.cell?_alloc_lt _ _ ⟨4,0,none⟩ (by first | (simp;done) | (simp;omega)),World.cell?_alloc_lt _ _ ⟨4,0,none⟩ (by first | (simp;done) | (simp;omega)),World.cell?_alloc_lt _ _ ⟨4,0,none⟩ a];exact f
 have n3:=Pr ⟨w.heap.size+1,0,none⟩ ⟨w.heap.size,0,none⟩ (((w.alloc (.cells #[.pointer none] 164)).alloc (.cells #[.pointer (some ⟨w.heap.size,0,none⟩)] 166)).alloc (.cells #[.pointer (some ⟨7,166,none⟩),.pointer (some ⟨w.heap.size+1,0,none⟩),.int .u64 150] 226)) (by rw[World.cell?_alloc_lt _ _ ⟨w.heap.size+1,0,none⟩ (by first | (simp;done) | (simp;omega)),World.cell?_alloc_at _ _ _ _ Sx.aF];rfl);have d:(((((w.alloc (.cells #[.pointer none] 164)).alloc (.cells #[.pointer (some ⟨w.heap.size,0,none⟩)] 166)).alloc (.cells #[.pointer (some ⟨7,166,none⟩),.pointer (some ⟨w.heap.size+1,0,none⟩),.int .u64 150] 226)).alloc (.cells #[.pointer (some ⟨7,166,none⟩),.pointer (some ⟨w.heap.size+1,0,none⟩),.int .u64 150] 226)).alloc (.cells #[.iface 164 (.pointer (some ⟨e,0,none⟩))] 222)).cell? ⟨w.heap.size,0,none⟩=some (.pointer none):=by
  rw[World.cell?_alloc_lt _ _ ⟨w.heap.size,0,none⟩ (by first | (simp;done) | (simp;omega)),World.cell?_alloc_lt _ _ ⟨w.heap.size,0,none⟩ (by first | (simp;done) | (simp;omega)),World.cell?_alloc_lt _ _ ⟨w.heap.size,0,none⟩ (by first | (simp;done) | (simp;omega)),World.cell?_alloc_lt _ _ ⟨w.heap.size,0,none⟩ (by first | (simp;done) | (simp;omega)),World.cell?_alloc_at _ _ _ _ Sx.aF];rfl
 have el:=RU ⟨w.heap.size+1,0,none⟩ ⟨w.heap.size,0,none⟩ (((((w.alloc (.cells #[.pointer none] 164)).alloc (.cells #[.pointer (some ⟨w.heap.size,0,none⟩)] 166)).alloc (.cells #[.pointer (some ⟨7,166,none⟩),.pointer (some ⟨w.heap.size+1,0,none⟩),.int .u64 150] 226)).alloc (.cells #[.pointer (some ⟨7,166,none⟩),.pointer (some ⟨w.heap.size+1,0,none⟩),.int .u64 150] 226)).alloc (.cells #[.iface 164 (.pointer (some ⟨e,0,none⟩))] 222)) (by
  rw[World.cell?_alloc_lt _ _ ⟨w.heap.size+1,0,none⟩ (by first | (simp;done) | (simp;omega)),World.cell?_alloc_lt _ _ ⟨w.heap.size+1,0,none⟩ (by first | (simp;done) | (simp;omega)),World.cell?_alloc_lt _ _ ⟨w.heap.size+1,0,none⟩ (by first | (simp;done) | (simp;omega)),World.cell?_alloc_at _ _ _ _ Sx.aF];rfl)
 have st:=Xi ⟨w.heap.size,0,none⟩ ⟨w.heap.size+1+1+1+1+1,0,none⟩ ⟨e,0,none⟩ (.pointer none) ((((((w.alloc (.cells #[.pointer none] 164)).alloc (.cells #[.pointer (some ⟨w.heap.size,0,none⟩)] 166)).alloc (.cells #[.pointer (some ⟨7,166,none⟩),.pointer (some ⟨w.heap.size+1,0,none⟩),.int .u64 150] 226)).alloc (.cells #[.pointer (some ⟨7,166,none⟩),.pointer (some ⟨w.heap.size+1,0,none⟩),.int .u64 150] 226)).alloc (.cells #[.iface 164 (.pointer (some ⟨e,0,none⟩))] 222)).alloc (.cells #[.pointer (some ⟨e,0,none⟩)] 164))
  (by rw[World.cell?_alloc_at _ _ _ _ Sx.aF];rfl)
  (by rw[World.cell?_alloc_lt _ _ ⟨w.heap.size,0,none⟩ (by first | (simp;done) | (simp;omega))];exact d)
  (by rw[World.frozen?_alloc_old _ _ ⟨w.heap.size,0,none⟩ (by first | (simp;done) | (simp;omega)),World.frozen?_alloc_old _ _ ⟨w.heap.size,0,none⟩ (by first | (simp;done) | (simp;omega)),World.frozen?_alloc_old _ _ ⟨w.heap.size,0,none⟩ (by first | (simp;done) | (simp;omega)),World.frozen?_alloc_old _ _ ⟨w.heap.size,0,none⟩ (by first | (simp;done) | (simp;omega)),World.frozen?_alloc_old _ _ ⟨w.heap.size,0,none⟩ Sx.aF];simp)
 have g:Below w.heap.size w ((((((w.alloc (.cells #[.pointer (some ⟨e,0,none⟩)] 164)).alloc (.cells #[.pointer (some ⟨w.heap.size,0,none⟩)] 166)).alloc (.cells #[.pointer (some ⟨7,166,none⟩),.pointer (some ⟨w.heap.size+1,0,none⟩),.int .u64 150] 226)).alloc (.cells #[.pointer (some ⟨7,166,none⟩),.pointer (some ⟨w.heap.size+1,0,none⟩),.int .u64 150] 226)).alloc (.cells #[.iface 164 (.pointer (some ⟨e,0,none⟩))] 222)).alloc (.cells #[.pointer (some ⟨e,0,none⟩)] 164)):=((((((Below.refl _ _).alloc (aaS _) _).alloc Sx.aF _).alloc (by first | (simp;done) | (simp;omega)) _).alloc (by first | (simp;done) | (simp;omega)) _).alloc (by first | (simp;done) | (simp;omega)) _).alloc (by first | (simp;done) | (simp;omega)) _;have hc:((((((w.alloc (.cells #[.pointer (some ⟨e,0,none⟩)] 164)).alloc (.cells #[.pointer (some ⟨w.heap.size,0,none⟩)] 166)).alloc (.cells #[.pointer (some ⟨7,166,none⟩),.pointer (some ⟨w.heap.size+1,0,none⟩),.int .u64 150] 226)).alloc (.cells #[.pointer (some ⟨7,166,none⟩),.pointer (some ⟨w.heap.size+1,0,none⟩),.int .u64 150] 226)).alloc (.cells #[.iface 164 (.pointer (some ⟨e,0,none⟩))] 222)).alloc (.cells #[.pointer (some ⟨e,0,none⟩)] 164)).cell? ⟨e,1,none⟩=some (.int .i64 c):=by
  rw[g.cell b];simp [World.cell?,he]
 go_enter Tryz.func61,Tryz.ntmps61
 go_wp2
 refine wp_loop_rounds 2 ?_;rw[rounds_succ]
 go_wp2
 rw[rounds_succ]
 go_wp2
 go_ret
 exact⟨rfl,g⟩
end Go.Proofs.YtomdimlnggpgbaaGreatDoor
namespace Go.Proofs.YtomdimlnggpgbaaGreatDoor
open Go Go.Sx Go.RowKit
variable {v:Value}
def yZ:Value:=.iface 243 (.agg #[.pointer (some ⟨7,107,none⟩)])
def WZ (b:Nat):Value:=.iface 222 (.agg #[.iface 164 (.pointer (some ⟨b,0,none⟩))])
def pU (R:Hl) (v:Value) (c:Int):Prop:=(c=0/\v=.nilIface)\/∃ (b:Nat) (s:ByteArray),v=WZ b/\R b=some (.cells #[.string s,.int .i64 c] 168 (0,0))
def pU.det {R:Hl} {c d:Int} (h:pU R v c) (k:pU R v d):c=d:=by
 rcases h with ⟨rfl,rfl⟩ | ⟨b,s,rfl,hb⟩<;>rcases k with ⟨rfl,e⟩ | ⟨b',f,e,a⟩
 .rfl
 .cases e
 .cases e
 .simp only[WZ,Value.iface.injEq,abk,Value.agg.injEq,abh,aaC,aaP,Value.pointer.injEq,aaF,Addr.mk.injEq]at e;subst e;rw[hb]at a;simp at a;exact a.2
def pq:Sx.Spec where
 fn:=61
 own:=[]
 rd:=[7000168,2000004]
 res:=[.one (.int .i64)]
 pre:=fun xs Hs Rs=>∃ e R G c,xs=[e]/\Rs=[R,G]/\G.cell 4 0=some yZ/\pU R e c
 post:=fun xs Hs Rs v Hs' F=>∃ e R G,xs=[e]/\Rs=[R,G]/\∀ c,pU R e c->v=.int .i64 c
def Hl.NI {R:Hl} {w:World} (h:R.sub w) {b y:Nat} (hc:R.cell b y=some v):w.cell? ⟨b,y,none⟩=some v:=by
 unfold Hl.cell at hc;cases hb:R b with
 | none=>rw[hb]at hc;cases hc
 | some o =>
  have hw:=h _ _ hb;rw[hb]at hc;cases o with
  | cells c t f=>simp only[World.cell?,hw];exact hc
  | _=>simp at hc
def vP:pq.OK Tryz.prog:=by
 refine oO rfl fun w xs Rs hs ⟨e,R,G,c,e1,a,f,hN⟩=>?_;subst e1 a;refine⟨.int .i64 c,⟨⟨fun _=>c,fun _=>true,fun _=>.empty,fun _=>.tuple #[],fun _=>Hl.none⟩,rfl,zzT,zzT⟩,?_,_,_,_,rfl,rfl,fun d hd=>by rw[hN.det hd]⟩;have g:=hs R aF;have h:=Hl.NI (hs G aF) f;rcases hN with ⟨rfl,rfl⟩ | ⟨b,s,rfl,hb⟩
 .exact IC w
 .exact IB b s c w h (g _ _ hb)
end Go.Proofs.YtomdimlnggpgbaaGreatDoor
namespace Go.Proofs.YtomdimlnggpgbaaGreatDoor
open Go Go.Sx Go.Pk
variable {R R1 R2:Hl}{row:List Value}
noncomputable def fQ (p:Pc):List Int:=aI (bE p.h)++aI p.b
def HV {h:Hd} (hx:bU R row h):(bE h).length<=392:=by
 unfold bE;split
 .rename_i hf;have:=tU hx hf.2.1;unfold tE;rw[aay,aJ];omega
 .exact abJ _
def O3 {n:Nat} (h:n<16384):(aj n).length<=2:=by
 unfold aj;split
 .simp
 .rw[abc];unfold aj;rw[aaR ah];simp
def oz {b:List Int} (h:b.length<=4096):(aI b).length<=b.length+2:=by
 unfold aI;rw[aay];have:=O3 (n:=b.length) ah;omega
def DQ {p:Pc} (hx:gY R1 R2 row p) (hb:p.b.length<=2100):(fQ p).length<=3036/\(fQ p).length<=396+p.b.length:=by
 have h1:=HV hx.hd;have h2:=oz (b:=bE p.h) ah;have a:=oz (b:=p.b) ah;unfold fQ;rw[aay];omega
noncomputable def yl:Sx.Spec where
 fn:=106
 own:=[]
 rd:=[1000053,1000125]
 res:=[.one .sl,.one .any]
 pre:=fun xs Hs Rs=>∃ row T B p,xs=[.agg row.toArray]/\Rs=[T,B]/\gY T B row p/\p.b.length<=2100
 post:=fun xs Hs Rs v Hs' F=>∃ u,v=.tuple #[u,.nilIface]/\∀ row T B p,xs=[.agg row.toArray]->Rs=[T,B]->gY T B row p->fL F u (fQ p)
noncomputable def Yn:List Sx.Spec:=[gl 146,sX,sz]
def Vj:∀ t∈Yn,t.OK Tryz.prog:=av EX <| av BY <| av zZ <| bW
def ZR (f:FuncId):(gl f).res=[.one .sl]:=rfl
def ZS:sX.res=[]:=rfl
def ZT:sz.res=[.one .sl,.one (.int .i64)]:=rfl
def ZQ (n:Nat):(aK n [Cp.one .sl,Cp.one (.int .i64)]≠[])=True:=by simp [aK,Cp.roots,Ck.root]
noncomputable def KD:aG Tryz.prog Yn yl.fn where
 Λ:=aC
 args:=(cA 0 [.agg Da]).map .sv
 mem:=[.ro 132 [.var 53] false,.ro 133 [.var 128] true]
 nv:=134
set_option maxRecDepth 20000 in
def IU:yl.OK Tryz.prog:=by
 refine Spec.aV (Γ:=Yn) Vj ?_;rintro xs Hs Rs e l ⟨row,T,B,p,rfl,rfl,hx,hlen⟩;have O:Hs=[]:=aaz.1 e;subst O;obtain⟨J,rfl,P,hh⟩:=DV (ks:=jU) [(132,T),(133,B)] hx.ok;have H:J.h 132=T:=hh 132;have I:J.h 133=B:=hh 133;refine⟨KD,J,fun _ _=>True,fun _ _=>0,rfl,dw (by intro r hr;simp [KD]at hr;rcases hr with rfl | rfl<;>exact⟨_,_,_,rfl⟩) (by show [J.h 132,J.h 133]=_;rw[H,I]),(fun _ h=>nomatch h),?_⟩;refine aG.read [cy] [] [] ?_;simp only[go_sem,Nat.reduceAdd,Yn,ZR,ZS,ZT,ZQ,KI];generalize c:(ar 0 jU).map (CV.ev J)=row at *;have m:(ar 0 cy).map (CV.ev J)=row.take 125:=by rw[<-c,rD]
 have o:Value.slice (az (J.i 128) (J.i 129)) (J.i 130).toNat (J.i 131).toNat=row.getD 125 DB:=by rw[<-c,yg]
 have V:∀ q:Env,ai 134 J q->q.h 132=T/\q.h 133=B/\(ar 0 cy).map (CV.ev q)=row.take 125/\Value.slice (az (q.i 128) (q.i 129)) (q.i 130).toNat (q.i 131).toNat=row.getD 125 DB:=fun q g=>by
  refine⟨by rw[g.h 132,H],by rw[g.h 133,I],?_,?_⟩
  .rw[<-m];exact aa1 Array.toList (Value.agg.inj (gn (ks:=cy) (n:=0) g aA))
  .rw[g.i 128,g.i 129,g.i 130,g.i 131];exact o
 intro q1 Q p1 q2 R p2;have K:ai 134 J q2:=Q.tr R;obtain⟨S,x3,U,xb⟩:=V q2 K;rw[U,S];refine⟨⟨_,T,p.h,rfl,rfl,hx.hd⟩,fun d L ⟨F3,s,t,W⟩=>?_⟩;have hB:=oN hx.hd s;rw[<-t zzT]at hB;have p3:0<=d.i 135:=by rw[L.i 135];exact p2
 have X:Hl.one (d.i 135).toNat (Obj.cells #[Value.slice (az (-1) 0) (Int.toNat 0) (Int.toNat 0),Value.bool (bh d E.ff)] 208 (0,0))=Hl.one (d.i 135).toNat (.cells #[.slice none 0 0,.bool false] 208 (0,0)):=rfl;have v:∀ q:Env,q.i 135=d.i 135->Value.pointer (az (q.i 135) 0)=.pointer (some ⟨(d.i 135).toNat,0,none⟩):=fun q h=>by rw[h,au p3];rfl
 rw[X,v d rfl];have h1:=HV hx.hd;refine⟨⟨_,_,_,_,[],false,_,rfl,rfl,rfl,bC.new _,hB.rd.w,aF,ah⟩,fun x y ⟨F4,⟨z,Y,H',R',bs,lg,b2,A,f1,f2,f3,f4,f5,f6,f7⟩,_⟩=>?_⟩;simp only[aaC,aaP]at f1 f2 f3 f6;obtain⟨rfl,rfl⟩:=f1;subst f2 f3 f6;obtain⟨rfl,rfl⟩:=(bC.new _).uniq f4;obtain rfl:=hB.rd.w.uniq f5;have t4:kg [] false (bE p.h)=(aI (bE p.h),false):=by unfold kg;rw[aaG ah];rfl
 rw[t4]at f7;have f7:bC _ _ (aI (bE p.h)) false:=f7;have Z:ai 134 J x:=K.trans (L.mono.tr y);obtain⟨y2,y3,yr,yb⟩:=V x Z;rw[v x (y.i 135),yb,y3];have e:=oz (b:=bE p.h) ah;have l:=oz (b:=p.b) ah;refine⟨⟨_,_,_,_,_,false,p.b,rfl,rfl,rfl,f7,hx.body,ah,ah⟩,fun q5 g5 ⟨F5,⟨z,Y,H',R',bs,lg,b2,A,k1,k2,k3,k4,k5,k6,f⟩,_⟩=>?_⟩;simp only[aaC,aaP]at k1 k2 k3 k6;obtain⟨rfl,rfl⟩:=k1;subst k2 k3 k6;obtain⟨rfl,rfl⟩:=f7.uniq k4;obtain rfl:=hx.body.uniq k5;have t5:kg (aI (bE p.h)) false p.b=(fQ p,false):=by unfold kg;rw[aaG ah];rfl
 rw[t5]at f;have f:bC _ _ (fQ p) false:=f;rw[v q5 (by rw[g5.i 135,y.i 135])];have aa:(fQ p).length<=16384:=by unfold fQ;rw[aay];omega
 refine⟨⟨_,_,_,false,rfl,rfl,f,ah⟩,fun M g6 ⟨F6,⟨z,R',bs,lg,u,m1,m2,m3,j,C⟩,D,a⟩=>?_⟩;simp only[aaC,aaP]at m1 m2;subst m1 m2;obtain⟨rfl,rfl⟩:=f.uniq m3;have t6:rW (fQ p) false=(fQ p,0):=by unfold rW;rw[aaG (by simp;omega)]
 rw[t6]at j C;simp only[Value.tuple.injEq,abh,aaC,Value.int.injEq,abk,aaP]at j;rw[<-j.1,<-D zzT]at C;refine⟨fun _ _=>?_,fun F=>absurd j.2 F⟩;have a:=a.1;refine⟨[],[5],rfl,rfl,⟨⟨fun k=>M.i (k+144),fun _=>false,fun _=>.empty,fun _=>.nilIface,fun _=>Hl.none⟩,rfl,⟨a.1,a.2.1,a.2.2.1,a.2.2.2⟩,zzT,zzT⟩,_,rfl,fun row' T' B' z e1 N G=>?_⟩;simp only[aaC,aaP,Value.agg.injEq]at e1 N;have e1:=aa5 e1;obtain⟨rfl,rfl⟩:=N;subst e1;obtain rfl:=hx.uniq G;show fL (di [M.h 144]) _ _;rw[aN];exact C.rd.w
open Go.Proofs.YtomdimlnggpgbaaGreatDoor.D hiding aL aC fP
variable {A B C H:Hl}{i x:Nat}{st st':Nat->List Pc}
def Xg (r:Nat) (ps:Value) (x:Nat):Hl:=Hl.one r (.cells #[ps,.pointer (some ⟨x,0,none⟩)] 125 (0,0))
structure QD (H:Hl) (r:Nat) (dp ps:Value) (x:Nat) (HS HI:Hl) (S:SM) (st:Nat->List Pc):Prop where
 so:jm HS ps dp S
 ix:pR HI x st
 d1:(Xg r ps x).bV HS
 d2:(Xg r ps x).bV HI
 d3:HS.bV HI
 hl:H=di [Xg r ps x,HS,HI]
def cM (H:Hl) (p dp:Value) (S:SM) (st:Nat->List Pc):Prop:=∃ (r:Nat) (ps:Value) (x:Nat) (HS HI:Hl),p=.pointer (some ⟨r,0,none⟩)/\QD H r dp ps x HS HI S st
def lY (R:Hl) (p:Value) (st:Nat->List Pc):Prop:=∃ (r:Nat) (ps:Value) (x:Nat),p=.pointer (some ⟨r,0,none⟩)/\R r=some (.cells #[ps,.pointer (some ⟨x,0,none⟩)] 125 (0,0))/\pS R x st
def qg (h1:A.bV B) (h2:A.bV C) (d:B.bV C):A.le (di [A,B,C])/\B.le (di [A,B,C])/\C.le (di [A,B,C]):=by
 have hd:∀ (p q:Nat) X Y,p≠q->([A,B,C])[p]?=some X->([A,B,C])[q]?=some Y->X.bV Y:=by
  intro p q X Y c b a
  match p,q,b,a with
  | 0,0,_,_=>exact absurd rfl c
  | 0,1,b,a=>cases b;cases a;exact h1
  | 0,2,b,a=>cases b;cases a;exact h2
  | 1,0,b,a=>cases b;cases a;exact Hl.tW h1
  | 1,1,_,_=>exact absurd rfl c
  | 1,2,b,a=>cases b;cases a;exact d
  | 2,0,b,a=>cases b;cases a;exact Hl.tW h2
  | 2,1,b,a=>cases b;cases a;exact Hl.tW d
  | 2,2,_,_=>exact absurd rfl c
  | p+3,_,b,_=>simp at b
  | 0,q+3,_,a=>simp at a
  | 1,q+3,_,a=>simp at a
  | 2,q+3,_,a=>simp at a
 exact⟨mj hd (i:=0) rfl,mj hd (i:=1) rfl,mj hd (i:=2) rfl⟩
def cM.rd {p dp:Value} {S:SM} (h:cM H p dp S st):lY H p st:=by
 obtain⟨r,ps,x,HS,HI,hp,h⟩:=h;obtain⟨a,c,b⟩:=qg h.d1 h.d2 h.d3;rw[<-h.hl]at a c b;exact⟨r,ps,x,hp,a _ _ (Hl.aU _ _),h.ix.rd.mono b⟩
def DT:Sx.Spec where
 fn:=27
 own:=[.arg 0]
 rd:=[]
 res:=[.one .ptr,.one (.int .i64)]
 links:=[0]
 pre:=fun xs Hs Rs=>∃ dp H D,xs=[dp]/\Hs=[H]/\aD H dp D/\aq (jR D)/\aq (gD D)/\fj D=0/\(cm D).recs=[]
 post:=fun xs Hs Rs v Hs' F=>∃ dp H D H' a,xs=[dp]/\Hs=[H]/\aD H dp D/\Hs'=[H']/\aD H' dp D/\v=.tuple #[a,.int .i64 0]/\cM F a dp (cm D) (fun _=>[])
def Yo:List Sx.Spec:=[tu,Cx,Fp,pq]
def Vn:∀ t∈Yo,t.OK Tryz.prog:=av Cv <| av GH <| av Fq <| av vP <| bW
def Xn:tu.res=[.one .ptr,.one (.int .i64)]:=rfl
def Xo:Cx.res=[.one .sl]:=rfl
def Xp:Fp.res=[.one .ptr]:=rfl
def AA:aG Tryz.prog Yo DT.fn where
 Λ:=fun p=>if T5 p [60,1,1,0,1,0,0,1,1]then some ⟨0,[],[],0⟩else none
 args:=[TP (.var 0) (.lit 0)]
 mem:=[.hp 1 [] [.var 0] []]
 nv:=2
set_option maxRecDepth 4000 in
def My:DT.OK Tryz.prog:=by
 refine Spec.aV (Γ:=Yo) Vn ?_;rintro xs Hs Rs F l ⟨dp,H,D,rfl,rfl,f,n,o,z,b⟩;have e1:Rs=[]:=aaz.1 l;subst e1;obtain⟨da,s,m,es,clock,e,G⟩:=id f;refine⟨AA,aL [(da:Int)] false [Hl.none,H],fun _ _=>True,fun _ _=>0,?_,⟨?_,?_,?_,?_⟩,(fun _ h=>nomatch h),?_⟩
 .show [Value.pointer (az (da:Int) 0)]=_;rw[gT,e]
 .intro r hr ho;simp [AA]at hr;subst hr;exact⟨H,aF,Hl.le_refl _⟩
 .intro r hr ho;simp [AA]at hr;subst hr;cases ho
 .simp [AA]
 .intro r hr;simp [AA]at hr;subst hr;trivial
 refine aG.read [] [] [] ?_;generalize d:aL [(da:Int)] false [Hl.none,H]=J;have v0:J.i 0=da:=by rw[<-d];rfl
 have I:J.h 1=H:=by rw[<-d];rfl
 clear d;have K:Value.pointer (az (da:Int) 0)=dp:=by rw[gT,e]
 simp only[go_sem,Nat.reduceAdd,Yo,Xn,Xo,Xp,KI,PT,ZY];rw[v0,I,K];refine⟨⟨dp,H,D,rfl,rfl,f,n,o⟩,fun q1 T ⟨U,p,q,L⟩=>?_⟩;obtain⟨V,t,hv,hS,_⟩:=AL f p;simp only[Value.tuple.injEq,abh,aaC,Value.int.injEq,abk,aaP]at hv;obtain⟨rfl,hv⟩:=hv;have M:q1.i 4=0:=hv.trans z;have hS:=hS z;rw[<-q zzT]at hS;refine⟨fun u=>absurd M u,fun _=>⟨⟨_,_,dp,cm D,rfl,rfl,hS.rd,by rw[b];simp,fun r hr=>by rw[b]at hr;cases hr⟩,fun q2 N ⟨W,v,O,w⟩=>⟨rfl,fun P B ⟨X,⟨x,hx,hI⟩,y,Q⟩=>?_⟩⟩⟩;have C:=Cy hS.rd v;rw[b]at C;have R:q2.i 7=0:=by
  obtain⟨us,ho,_⟩:=C;have hn:0<=q2.i 7:=w.1.2.2.1;rcases ho.2 with ⟨h,_⟩ | ⟨_,_,_,h,_⟩<;>(simp only[Value.slice.injEq]at h;have:=h.2.1;simp at this;omega)
 have S:P.i 7=0:=by rw[B.i 7,R]
 rw[<-y zzT]at hI;refine⟨ah,fun h=>ah,fun _ a g p4 c=>?_⟩;have A:ai 9 q2 a:=B.tr g;have j:ai 5 q1 a:=N.tr A;have d1:(Hl.one (a.i 11).toNat (.cells #[.pointer (az (a.i 2) (a.i 3)),.pointer (az (a.i 9) (a.i 10))] 125 (0,0))).bV (a.h 3):=c 4 1 _ _ aA rfl rfl rfl;have d2:(Hl.one (a.i 11).toNat (.cells #[.pointer (az (a.i 2) (a.i 3)),.pointer (az (a.i 9) (a.i 10))] 125 (0,0))).bV (a.h 9):=c 4 3 _ _ aA rfl rfl rfl;have d3:(a.h 3).bV (a.h 9):=c 1 3 _ _ aA rfl rfl rfl;have E:Value.pointer (az (a.i 9) (a.i 10))=.pointer (some ⟨x,0,none⟩):=by rw[g.i 9,g.i 10];exact hx
 rw[E]at d1 d2;refine⟨[[0]],[4,1,3],rfl,rfl,⟨(bf fun k=>if k=0 then a.i 11 else 0),rfl,⟨by show -1<=a.i 11;omega,aaM 0⟩,zzT,zzT⟩,dp,H,D,_,_,rfl,rfl,f,rfl,?_,rfl,?_⟩
 .show aD (di [a.h 2]) _ _;rw[aN,j.h 2];exact t
 .refine⟨(a.i 11).toNat,.pointer (az (a.i 2) (a.i 3)),x,a.h 3,a.h 9,?_,?_,?_,d1,d2,d3,?_⟩
  .show Value.pointer (az (a.i 11) 0)=_;rw[au p4];rfl
  .rw[j.i 2,j.i 3,j.h 3];exact hS
  .rw[g.h 9];exact hI
  .show di [Hl.one (a.i 11).toNat (.cells #[.pointer (az (a.i 2) (a.i 3)),.pointer (az (a.i 9) (a.i 10))] 125 (0,0)),a.h 3,a.h 9]=_;rw[E];rfl
structure PuR where
 e:Int
 D:DM
 S:SM
 st:Nat->List Pc
open Classical in
noncomputable def cC (D:DM) (S:SM) (st:Nat->List Pc) (c:Pc):PuR :=
 if bG st c≠0 then⟨bG st c,D,S,st⟩
 else if(cH D S [fQ c]).e≠0 then⟨(cH D S [fQ c]).e,(cH D S [fQ c]).D,(cH D S [fQ c]).S,st⟩
 else⟨0,(cH D S [fQ c]).D,(cH D S [fQ c]).S,cR st c⟩
set_option maxRecDepth 20000 in
def RK {a:Int} {row:List Value} (f:Nat->Int) (hs:List (Nat×Hl)) (h:bo row rE):∃ q:Env,q.i 0=a/\row=(ar 1 jU).map (CV.ev q)/\(∀ k,q.h k=Bk hs k)/\(∀ k,133<=k->q.i k=f k):=by
 obtain⟨q,h0,hr,hh,_⟩:=DI (a:=a) hs h;refine⟨⟨fun k=>if 133<=k then f k else q.i k,q.b,q.s,q.v,q.h⟩,h0,?_,hh,fun k hk=>aaR hk⟩;rw[hr];have g:ai 133 q ⟨fun k=>if 133<=k then f k else q.i k,q.b,q.s,q.v,q.h⟩:=⟨fun k hk=>aaG ah,fun _ _=>rfl,fun _ _=>rfl,fun _ _=>rfl,fun _ _=>rfl⟩;exact(aa1 Array.toList (Value.agg.inj (gn (ks:=jU) (n:=1) g aA))).symm
def pR.congr (h:pR H x st) (e:∀ i,i<6->st i=st' i):pR H x st':=by
 obtain⟨a,sv,Kc,KB,h⟩:=h;refine⟨a,sv,Kc,KB,by rw[<-Hz e];exact h.bj,fun i hi=>?_,h.le,h.bV,h.nox,fun i hi=>by rw[<-e i hi];exact h.row i hi,h.kb,h.kbx,h.kbc,h.own⟩;have:=h.ch i hi;unfold mE at this ⊢;rw[<-e i hi];exact this
def um (e:∀ i,i<6->st i=st' i) (p:Pc) (hi:i<6):cR st p i=cR st' p i:=by
 unfold cR;rw[om e p];split
 .unfold vf;split
  .rename_i h;subst h;rw[e _ hi]
  .exact e i hi
 .exact e i hi
noncomputable def Al (rt:Nat):Sx.Spec where
 fn:=30
 own:=[.arg 0,.link 0 0]
 rd:=[rt,1001125,2000000]
 res:=[.one (.int .i64)]
 pre:=fun xs Hs Rs=>∃ p H HD row T B RG g dp S D st c,xs=[p,.agg row.toArray]/\Hs=[H,HD]/\Rs=[T,B,RG]/\cM H p dp S st/\aD HD dp D/\gY T B row c/\c.b.length<=2100/\mK st/\(Gl RG g/\ve RG 5/\RG.cell 4 0=some yZ)/\S.bA.length<=1048576/\0<=S.LA.serial/\S.recs.length<=1000000000
 post:=fun xs Hs Rs v Hs' F=>∃ p H HD row T B RG dp S D st c H' a,xs=[p,.agg row.toArray]/\Hs=[H,HD]/\Rs=[T,B,RG]/\cM H p dp S st/\aD HD dp D/\gY T B row c/\Hs'=[H',a]/\cM H' p dp (cC D S st c).S (cC D S st c).st/\aD a dp (cC D S st c).D/\v=.int .i64 (cC D S st c).e
def KH:Nd:=(fun a i y q p C A h E a5 a4 t v B n o a0 D F=>(fun b c d f g j k G r s u w z H=>(fun l m x a3 a9 b0 b1 b2 I=>(.ext (.alloc 142) (.ext (.alloc 143) (.and (.pre x) (.ext x (.and (.imp (.eq (.var 144) i) (.and (.pre (.call 1 145 [.sv y] [] w)) (.ext (.call 1 145 [.sv y] [] w) (.and (.e (.le (.vint 149) v)) (.and (.imp (.not (.eq (.vint 149) i)) (.and (.pre a9) (.ext a9 (.post [.bj 0 b 125,.hp 135 [] t h,.hp 136 [] n [],.hp 138 [] h [],.ro 139 q false,.ro 140 p true,.ro 141 a false,.dead,.dead,.hp 145 [] a4 []] (.sv (.one (.int .i64 (.var 150)))))))) (.imp (.eq (.vint 149) i) (.ext (.alloc 150) (.and (.pre l) (.ext l (.and (.imp (.eq (.var 151) i) (.and (.pre (.call 3 154 c u d)) (.ext (.call 3 154 c u d) (.and (.imp (.eq a5 i) (.and (.pre (.call 4 156 o [] z)) (.ext (.call 4 156 o [] z) (.post [.bj 0 b 125,.hp 151 [135] t h,.hp 154 [136] n [],.hp 152 [138] h [],.ro 139 q false,.ro 140 p true,.ro 141 a false,.dead,.dead,.hp 145 [] a4 [],.dead] (.sv (.one (.int .i64 (.var 156)))))))) (.imp (.not (.eq a5 i)) (.ext (.alloc 156) (.ext (.mki 157 164 (.one (.hptr (.var 156) i))) (.and (.e (.le (.vint 157) v)) (.ext (.mki 158 222 (.agg [.vr 157])) (.and (.pre r) (.ext r (.post [.bj 0 b 125,.hp 151 [135] t h,.hp 154 [136] n [],.hp 152 [138] h [],.ro 139 q false,.ro 140 p true,.ro 141 a false,.dead,.dead,.hp 145 [] a4 [],.dead,.dead] a0)))))))))))) (.imp (.not (.eq (.var 151) i)) (.ext (.alloc 154) (.ext (.mki 155 164 (.one (.hptr a5 i))) (.and (.e (.le (.vint 155) v)) (.ext (.mki 156 222 (.agg [.vr 155])) (.and (.e (.le (.vint 156) v)) (.and (.imp (.not (.eq (.vint 156) i)) (.and (.pre b0) (.ext b0 (.post [.bj 0 b 125,.hp 151 [135] t h,.hp 136 [] n [],.hp 152 [138] h [],.ro 139 q false,.ro 140 p true,.ro 141 a false,.dead,.dead,.hp 145 [] a4 [],.dead,.dead] (.sv (.one (.int .i64 A))))))) (.imp (.eq (.vint 156) i) (.and (.pre a3) (.ext a3 (.and (.imp (.eq A i) (.and (.pre (.call 4 159 o [] j)) (.ext (.call 4 159 o [] j) (.post [.bj 0 b 125,.hp 151 [135] t h,.hp 157 [136] n [],.hp 152 [138] h [],.ro 139 q false,.ro 140 p true,.ro 141 a false,.dead,.dead,.hp 145 [] a4 [],.dead,.dead] a0)))) (.imp (.not (.eq A i)) (.ext (.alloc 159) (.ext H (.and (.e (.le (.vint 160) v)) (.ext F (.and (.pre g) (.ext g (.post [.bj 0 b 125,.hp 151 [135] t h,.hp 157 [136] n [],.hp 152 [138] h [],.ro 139 q false,.ro 140 p true,.ro 141 a false,.dead,.dead,.hp 145 [] a4 [],.dead,.dead,.dead] D))))))))))))))))))))))))))))) (.imp (.not (.eq (.var 144) i)) (.ext (.alloc 145) (.ext (.mki 146 164 (.one (.hptr (.var 145) i))) (.and (.e (.le (.vint 146) v)) (.ext (.mki 147 222 (.agg [.vr 146])) (.and (.e (.le (.vint 147) v)) (.and (.imp (.not (.eq (.vint 147) i)) (.and (.pre b1) (.ext b1 (.post [.bj 0 b 125,.hp 135 [] t h,.hp 136 [] n [],.hp 138 [] h [],.ro 139 q false,.ro 140 p true,.ro 141 a false,.dead,.dead,.dead] (.sv (.one (.int .i64 (.var 148)))))))) (.imp (.eq (.vint 147) i) (.and (.pre (.call 1 148 [.sv y] [] w)) (.ext (.call 1 148 [.sv y] [] w) (.and (.e (.le (.vint 152) v)) (.and (.imp (.not (.eq (.vint 152) i)) (.and (.pre b2) (.ext b2 (.post [.bj 0 b 125,.hp 135 [] t h,.hp 136 [] n [],.hp 138 [] h [],.ro 139 q false,.ro 140 p true,.ro 141 a false,.dead,.dead,.dead,.hp 148 [] B []] (.sv (.one (.int .i64 (.var 153)))))))) (.imp (.eq (.vint 152) i) (.ext (.alloc 153) (.and (.pre m) (.ext m (.and (.imp (.eq a5 i) (.and (.pre a3) (.ext a3 (.and (.imp (.eq A i) (.and (.pre (.call 4 159 o [] f)) (.ext (.call 4 159 o [] f) (.post [.bj 0 b 125,.hp 154 [135] t h,.hp 157 [136] n [],.hp 155 [138] h [],.ro 139 q false,.ro 140 p true,.ro 141 a false,.dead,.dead,.dead,.hp 148 [] B [],.dead] a0)))) (.imp (.not (.eq A i)) (.ext (.alloc 159) (.ext H (.and (.e (.le (.vint 160) v)) (.ext F (.and (.pre g) (.ext g (.post [.bj 0 b 125,.hp 154 [135] t h,.hp 157 [136] n [],.hp 155 [138] h [],.ro 139 q false,.ro 140 p true,.ro 141 a false,.dead,.dead,.dead,.hp 148 [] B [],.dead,.dead] D)))))))))))) (.imp (.not (.eq a5 i)) (.ext (.alloc 157) (.ext (.mki 158 164 (.one (.hptr A i))) (.and (.e (.le (.vint 158) v)) (.ext (.mki 159 222 (.agg [.vr 158])) (.and (.e (.le (.vint 159) v)) (.and (.imp (.not (.eq (.vint 159) i)) (.and (.pre I) (.ext I (.post [.bj 0 b 125,.hp 154 [135] t h,.hp 136 [] n [],.hp 155 [138] h [],.ro 139 q false,.ro 140 p true,.ro 141 a false,.dead,.dead,.dead,.hp 148 [] B [],.dead,.dead] (.sv (.one (.int .i64 (.var 160)))))))) (.imp (.eq (.vint 159) i) (.and (.pre (.call 3 160 c u d)) (.ext (.call 3 160 c u d) (.and (.imp (.eq (.var 160) i) (.and (.pre (.call 4 162 o [] k)) (.ext (.call 4 162 o [] k) (.post [.bj 0 b 125,.hp 154 [135] t h,.hp 160 [136] n [],.hp 155 [138] h [],.ro 139 q false,.ro 140 p true,.ro 141 a false,.dead,.dead,.dead,.hp 148 [] B [],.dead,.dead] D)))) (.imp (.not (.eq (.var 160) i)) (.ext (.alloc 162) (.ext (.mki 163 164 (.one (.hptr (.var 162) i))) (.and (.e (.le (.vint 163) v)) (.ext (.mki 164 222 (.agg [.vr 163])) (.and (.pre s) (.ext s (.post [.bj 0 b 125,.hp 154 [135] t h,.hp 160 [136] n [],.hp 155 [138] h [],.ro 139 q false,.ro 140 p true,.ro 141 a false,.dead,.dead,.dead,.hp 148 [] B [],.dead,.dead,.dead] (.sv (.one (.int .i64 (.var 165)))))))))))))))))))))))))))))))))))))))))))):Nd)) (.call 2 151 [.sv (.one (.hptr (.var 133) i)),.sv (.one (.sl (.var 150) i v v))] G [.bj 150 [.sl (.var 145) (.var 146) (.var 147) (.var 148)] 46,.hp 145 [] a4 [],.ro 141 a false]) (.call 2 154 [.sv (.one (.hptr (.var 133) i)),.sv (.one (.sl (.var 153) i v v))] G [.bj 153 [.sl (.var 148) (.var 149) (.var 150) (.var 151)] 46,.hp 148 [] B [],.ro 141 a false]) (.call 0 144 c [] [.hp 136 [] n [],.ro 139 q false,.ro 140 p true,.ro 141 a false]) (.call 3 157 c u d) (.call 4 150 [.sv (.one (.vr 149))] [] z) (.call 4 157 [.sv (.one (.vr 156))] [] j) (.call 4 148 [.sv (.one (.vr 147))] [] f) (.call 4 153 [.sv (.one (.vr 152))] [] f) (.call 4 160 [.sv (.one (.vr 159))] [] k)) [.hptr (.var 133) i,.hptr (.var 134) i] [.sv (.one (.hptr (.var 134) i)),.sv y] [.ro 139 q false,.ro 140 p true,.ro 141 a false] [.bj 145 [.str (.slit ⟨#[97,115,107]⟩),.int .i64 (.var 144)] 168,.ro 141 a false] (.call 4 162 [.sv (.one (.vr 161))] [] [.bj 159 [.str C,.int .i64 A] 168,.ro 141 a false]) [.bj 154 [.str E,.int .i64 (.var 151)] 168,.ro 141 a false] [.bj 157 [.str E,.int .i64 a5] 168,.ro 141 a false] [.hp 135 [] t h,.hp 138 [] h []] (.call 4 159 [.sv (.one (.vr 158))] [] [.bj 156 [.str C,.int .i64 a5] 168,.ro 141 a false]) (.call 4 165 [.sv (.one (.vr 164))] [] [.bj 162 [.str C,.int .i64 (.var 160)] 168,.ro 141 a false]) [.hp 136 [] n []] [.ro 139 q false,.ro 140 p true] [.dead,.ro 141 a false] (.mki 160 164 (.one (.hptr (.var 159) i)))) [.lit 0,.lit 1,.lit 2,.lit 3,.lit 4,.lit 5] (.lit 0) (.agg (ar 1 Da)) [.var 54] [.var 129] (.slit ⟨#[112,117,116]⟩) (.var 157) [.var 137] (.slit ⟨#[97,100,100]⟩) (.var 154) [.var 145] [.var 133] (.lit 1) [.var 148] [.var 134] [.sv (.one (.val .nilIface))] (.sv (.one (.int .i64 (.var 159)))) (.sv (.one (.int .i64 (.var 162)))) (.mki 161 222 (.agg [.vr 160]))
noncomputable def Yp:List Sx.Spec:=[zy,yl,G0,BF,pq]
def Vp:∀ t∈Yp,t.OK Tryz.prog:=av Fk <| av IU <| av QG <| av Fs <| av vP <| bW
def ZZ:yl.res=[.one .sl,.one .any]:=rfl
def Z0:G0.res=[.one (.int .i64)]:=rfl
def Xr:BF.res=[.one (.int .i64)]:=rfl
def Xs:pq.res=[.one (.int .i64)]:=rfl
def ZX (n:Nat):(aK n [Cp.one .sl,Cp.one .any]≠[])=True:=by simp [aK,Cp.roots,Ck.root]
def Cl:Mem:=[.bj 0 [.hptr (.var 133) (.lit 0),.hptr (.var 134) (.lit 0)] 125,.hp 135 [] [.var 133] [.var 137],.hp 136 [] [.var 134] [],.hp 138 [] [.var 137] [],.ro 139 [.var 54] false,.ro 140 [.var 129] true,.ro 141 [.lit 0,.lit 1,.lit 2,.lit 3,.lit 4,.lit 5] false]
noncomputable def Kw:aG Tryz.prog Yp 30 where
 Λ:=aC
 args:=TP (.var 0) (.lit 0)::(cA 1 [.agg Da]).map .sv
 mem:=Cl
 nv:=142
set_option maxRecDepth 20000 in
def Ga (rt:Nat):(Al rt).OK Tryz.prog:=by
 refine kI (Γ:=Yp) Vp ?_;rintro xs Hs Rs aQ aR d ⟨p,H,HD,row,T,B,RG,g,dp,S,D,st,c,rfl,rfl,rfl,hR,hD,hx,hlen,aa,⟨ao,hK,aq⟩,av,aw,ax⟩;obtain⟨r,ps,x,HS,HI,rfl,hIn⟩:=id hR;obtain⟨a,pa,pb,sl,HA,HB,HR,rfl,_⟩:=id hIn.so;obtain⟨da,s,m,es,clock,aS,_⟩:=id hD;obtain⟨J,va,rfl,hh,hv⟩:=RK (a:=(r:Int)) (fun k=>if k=133 then(a:Int)else if k=134 then(x:Int)else da) [(135,HS),(136,HI),(138,HD),(139,T),(140,B),(141,RG)] hx.ok;have v3:J.i 133=a:=hv 133 ah;have v4:J.i 134=x:=hv 134 ah;have v7:J.i 137=da:=hv 137 ah;have w5:J.h 135=HS:=hh 135;have w6:J.h 136=HI:=hh 136;have w8:J.h 138=HD:=hh 138;have w9:J.h 139=T:=hh 139;have w0:J.h 140=B:=hh 140;have w1:J.h 141=RG:=hh 141;have eb:Hl.one (J.i 0).toNat (.cells #[.pointer (az (J.i 133) 0),.pointer (az (J.i 134) 0)] 125 (0,0))=Xg r (.pointer (some ⟨a,0,none⟩)) x:=by
  rw[va,v3,v4,au ah,au ah];rfl
 obtain⟨l1,l2,l3⟩:=qg hIn.d1 hIn.d2 hIn.d3;rw[<-hIn.hl]at l1 l2 l3;refine⟨Kw,J,fun _ _=>True,fun _ _=>0,?_,⟨?_,?_,?_,?_⟩,(fun _ h=>nomatch h),?_⟩
 .show [Value.pointer (az (J.i 0) 0),.agg ((ar 1 jU).map (CV.ev J)).toArray]=_;rw[va,au ah];rfl
 .intro q N ho;simp [Kw,Cl]at N;rcases N with rfl | rfl | rfl | rfl | rfl | rfl | rfl
  .exact⟨H,aF,by show(Hl.one (J.i 0).toNat (.cells #[.pointer (az (J.i 133) 0),.pointer (az (J.i 134) 0)] 125 (0,0))).le H;rw[eb];exact l1⟩
  .exact⟨H,aF,by show(J.h 135).le H;rw[w5];exact l2⟩
  .exact⟨H,aF,by show(J.h 136).le H;rw[w6];exact l3⟩
  .exact⟨HD,aF,by show(J.h 138).le HD;rw[w8];exact Hl.le_refl _⟩
  all_goals cases ho
 .intro q N ho;simp [Kw,Cl]at N;rcases N with rfl | rfl | rfl | rfl | rfl | rfl | rfl
  .cases ho
  .cases ho
  .cases ho
  .cases ho
  .exact⟨T,aF,by show(J.h 139).le T;rw[w9];exact Hl.le_refl _⟩
  .exact⟨B,aF,by show(J.h 140).le B;rw[w0];exact Hl.le_refl _⟩
  .exact⟨RG,aF,by show(J.h 141).le RG;rw[w1];exact Hl.le_refl _⟩
 .have ay:H.bV HD:=d 0 1 _ _ aA rfl rfl;have U:∀ {A:Hl},A.le H->A.bV HD:=fun h b ⟨y,z⟩=>ay b ⟨Hl.fv h y,z⟩;show List.Pairwise _ Cl;simp only[Cl,List.pairwise_cons,aaN,aaX,abC,forall_eq_or_imp,forall_eq,bL.own,bL.hl,List.Pairwise.nil,aaP,abz,false_imp_iff,imp_true_iff,forall_const,aaY,abN,CV.ev,al,ak,false_implies,implies_true];rw[eb,w5,w6,w8];exact⟨⟨hIn.d1,hIn.d2,U l1⟩,⟨hIn.d3,U l2⟩,U l3⟩
 .intro q N;simp [Kw,Cl]at N;rcases N with rfl | rfl | rfl | rfl | rfl | rfl | rfl
  .show 0<=J.i 0;rw[va];omega
  all_goals trivial
 refine aG.lit (x:=KH) ?_;unfold KH;simp only[go_sem,Nat.reduceAdd,Yp,WN,ZZ,Z0,Xr,Xs,ZX];generalize W:(ar 1 jU).map (CV.ev J)=row at *;have V:∀ q:Env,ai 142 J q->(q.i 0=r/\q.i 133=a/\q.i 134=x/\q.i 137=da)/\(q.h 135=HS/\q.h 136=HI/\q.h 138=HD/\q.h 139=T/\q.h 140=B/\q.h 141=RG)/\(ar 1 Da).map (CV.ev q)=row:=fun q g=>by
  refine⟨⟨by rw[g.i 0,va],by rw[g.i 133,v3],by rw[g.i 134,v4],by rw[g.i 137,v7]⟩,⟨by rw[g.h 135,w5],by rw[g.h 136,w6],by rw[g.h 138,w8],by rw[g.h 139,w9],by rw[g.h 140,w0],by rw[g.h 141,w1]⟩,?_⟩;rw[<-W];exact aa1 Array.toList (Value.agg.inj (gn (ks:=jU) (n:=1) g aA))
 have eP:∀ n:Nat,Value.pointer (az (n:Int) 0)=.pointer (some ⟨n,0,none⟩):=fun n=>gT n;have fin:∀ (q:Env) (ks Z kd:Nat) (vs vi vd:List Nat) (t:Mem) (e:E) (R:PuR),cC D S st c=R->ai 142 J q->jm (q.h ks) (.pointer (some ⟨a,0,none⟩)) dp R.S->pR (q.h Z) x R.st->aD (q.h kd) dp R.D->aB q e=R.e ->
  postOf (Al rt) [.pointer (some ⟨r,0,none⟩),.agg row.toArray] [H,HD] [T,B,RG] q (.bj 0 [.hptr (.var 133) (.lit 0),.hptr (.var 134) (.lit 0)] 125::.hp ks vs [.var 133] [.var 137]::.hp Z vi [.var 134] []::.hp kd vd [.var 137] []::t) (.sv (.one (.int .i64 e))):=by
  intro q ks Z kd vs vi vd t e R aC g h1 h2 h3 h4 d;obtain⟨⟨k0,k1,k2,_⟩,_⟩:=V q g;have ab:Hl.one (q.i 0).toNat (.cells #[.pointer (az (q.i 133) 0),.pointer (az (q.i 134) 0)] 125 (0,0))=Xg r (.pointer (some ⟨a,0,none⟩)) x:=by
   rw[k0,k1,k2,eP,eP];rfl
  have d1:(Hl.one (q.i 0).toNat (.cells #[.pointer (az (q.i 133) 0),.pointer (az (q.i 134) 0)] 125 (0,0))).bV (q.h ks):=d 0 1 _ _ aA rfl rfl rfl;have d2:(Hl.one (q.i 0).toNat (.cells #[.pointer (az (q.i 133) 0),.pointer (az (q.i 134) 0)] 125 (0,0))).bV (q.h Z):=d 0 2 _ _ aA rfl rfl rfl;have d3:(q.h ks).bV (q.h Z):=d 1 2 _ _ aA rfl rfl rfl;rw[ab]at d1 d2;subst aC;refine⟨[[0,1,2],[3]],[],rfl,rfl,⟨(bf fun _=>aB q e),rfl,zzT,zzT⟩,_,H,HD,row,T,B,RG,dp,S,D,st,c,_,_,rfl,rfl,rfl,hR,hD,hx,rfl,⟨r,_,x,q.h ks,q.h Z,rfl,h1,h2,d1,d2,d3,?_⟩,?_,by rw[<-h4];rfl⟩
  .rw[<-ab];rfl
  .show aD (di [q.h kd]) _ _;rw[aN];exact h3
 have C:∀ {R:Hl} {v:Value} {n:Int},pU R v n->pq.pre [v] [] [R,RG]:=fun h=>⟨_,_,RG,_,rfl,rfl,aq,h⟩;have G:∀ {R:Hl} {v w:Value} {n:Int} {K:List Hl} {F:Hl},pU R v n->pq.post [v] [] [R,RG] w K F->w=.int .i64 n:=fun h hp=>by
  obtain⟨e,R',G',e1,X,N⟩:=hp;simp only[aaC,aaP]at e1 X;obtain⟨rfl,rfl⟩:=X;subst e1;exact N _ h
 have met:∀ {v w:Value} {z n:Int} {s:ByteArray},0<=z->v=.iface 164 (.pointer (az z 0))->w=.iface 222 (.agg #[v])->pU (Hl.one z.toNat (.cells #[.string s,.int .i64 n] 168 (0,0))) w n:=fun hz e1 X=>Or.inr ⟨_,_,by rw[X,e1,au hz];rfl,Hl.aU _ _⟩;have j:∀ {q:Env} {n:Nat} {T:TypeId} {v:Value},q.v n=.iface T v->aB q (.vint n)=1:=fun h=>by rw[uf,h];rfl
 intro q0 g0 p0 q1 g1 p1;have G1:ai 142 J q1:=g0.tr g1;obtain⟨⟨k0,k1,k2,k3⟩,⟨u5,u6,u8,u9,u0,u1⟩,kr⟩:=V q1 G1;rw[k2,eP,kr,u6,u9,u0,u1];refine⟨⟨x,HI,st,_,T,B,RG,c,rfl,rfl,hIn.ix.rd,aa,hx,ah,hK⟩,fun q2 g2 ⟨F2,aE,_⟩=>?_⟩;have I:q2.i 144=bG st c:=by simpa using aE _ _ _ _ _ _ _ _ rfl rfl hIn.ix.rd hx
 have G2:ai 142 J q2:=G1.tr g2;obtain⟨⟨m0,m1,m2,m3⟩,⟨n5,n6,n8,n9,n0,n1⟩,mr⟩:=V q2 G2;refine⟨fun heq=>?_,fun L=>?_⟩
 .have h0:bG st c=0:=I.symm.trans heq;rw[mr,n9,n0];refine⟨⟨_,T,B,c,rfl,rfl,hx,hlen⟩,fun q3 g3 ⟨F3,⟨u,hu,f⟩,aH,aT⟩=>?_⟩;simp only[Value.tuple.injEq,abh,aaC,aaP]at hu;obtain⟨rfl,hu⟩:=hu;have f:=f _ _ _ _ rfl rfl hx;rw[<-aH zzT]at f;have aI:aB q3 (.vint 149)=0:=by rw[uf,hu];rfl
  refine⟨ah,fun L=>absurd aI L,fun _ q4 O p4=>?_⟩;have G3:ai 142 J q3:=G2.tr g3;have G4:ai 142 J q4:=G3.tr O;obtain⟨⟨y0,y1,y2,y3⟩,⟨z5,z6,z8,z9,z0,z1⟩,yr⟩:=V q4 G4;rw[y1,eP,z5,z8,z1,O.i 145,O.i 146,O.i 147,O.i 148,O.h 145];have M:=vS (T:=46) p4 f;have aV:=DQ hx hlen;refine⟨⟨_,_,HS,HD,_,_,RG,g,dp,S,D,_,rfl,rfl,rfl,hIn.so,hD,M,ao,aF,fun r hr=>by rw[aaJ.1 hr];omega,av,aw,ax⟩,fun l g5 ⟨F5,aJ,_⟩=>?_⟩;obtain⟨ad,ae,he⟩:=Nq hIn.so hD M aJ;have he:l.i 151=(cH D S [fQ c]).e:=by simpa using he
  have G5:ai 142 J l:=G4.tr g5;obtain⟨⟨s0,s1,s2,s3⟩,⟨t5,t6,t8,t9,t0,t1⟩,sr⟩:=V l G5;refine⟨fun h5=>?_,fun h5=>?_⟩
  .rw[s2,eP,sr,t6,t9,t0,t1];refine⟨⟨x,HI,st,_,T,B,RG,c,rfl,rfl,rfl,hIn.ix,aa,hx,ah,hK⟩,fun o P ⟨F6,⟨x',H',st',row',T',B',aW,c',K',e1,X,e3,i1,i2,e4,hv,Y⟩,_⟩=>?_⟩;simp only[aaC,aaP,Value.pointer.injEq,aaF,Addr.mk.injEq,Value.agg.injEq]at e1 X e3 e4;obtain⟨rfl,e1⟩:=e1;obtain⟨rfl,rfl,rfl⟩:=e3;have e1:=aa5 e1;subst e1 X e4;obtain rfl:=hx.uniq i2;have af:∀ i,i<6->st i=st' i:=fun i hi=>hIn.ix.rd.st i1.rd hi;have Y:pR (o.h 154) x (cR st' c):=Y;have h6:o.i 154=0:=by
    have:o.i 154=bG st' c:=by simpa using hv
    rw[this,<-om af c,h0]
   have G6:ai 142 J o:=G5.tr P;obtain⟨_,⟨_,_,_,_,_,r1⟩,_⟩:=V o G6;rw[r1];refine⟨fun _=>⟨C (Or.inl ⟨rfl,rfl⟩),fun q7 Q ⟨F7,aK,_⟩=>?_⟩,fun L=>absurd h6 L⟩;have h7:q7.i 156=0:=by simpa using G (Or.inl ⟨rfl,rfl⟩) aK
   refine fin q7 151 154 152 _ _ _ _ _ ⟨0,(cH D S [fQ c]).D,(cH D S [fQ c]).S,cR st c⟩ ?_ (G6.tr Q) ?_ ?_ ?_ h7
   .unfold cC;rw[aaG (fun h=>h h0),aaG (fun h=>h (he.symm.trans h5))]
   .rw[Q.h 151,P.h 151];exact ae
   .rw[Q.h 154];exact Y.congr fun i hi=>(um af c hi).symm
   .rw[Q.h 152,P.h 152];exact ad
  .intro o P p6 q7 Q p7;refine⟨by rw[j p7];omega,fun q8 g8 p8=>⟨by rw[j p8];omega,fun _=>?_,fun h=>absurd ((j p8).symm.trans h) aA⟩⟩;have G8:ai 142 J q8:=G5.trans (P.mono.trans (Q.mono.tr g8));obtain⟨_,⟨_,_,_,_,_,r1⟩,_⟩:=V q8 G8;have hm:=met (s:={data:=#[97,100,100]}) (n:=q8.i 151) p6 p7 p8;have ag:o.i 154=q8.i 154:=by rw[g8.i 154,Q.i 154]
   rw[ag]at hm;have aj:q7.i 151=q8.i 151:=(g8.i 151).symm;rw[r1];refine⟨C hm,fun q9 g9 ⟨F9,aL,_⟩=>?_⟩;have h9:q9.i 157=q8.i 151:=by simpa using G hm aL
   have aM:(cH D S [fQ c]).e≠0:=fun h=>h5 (he.trans h);have G9:ai 142 J q9:=G8.tr g9;have A9:ai 154 l q9:=P.trans (Q.mono.trans (g8.mono.tr g9));refine fin q9 151 136 152 _ _ _ _ _ ⟨(cH D S [fQ c]).e,(cH D S [fQ c]).D,(cH D S [fQ c]).S,st⟩ ?_ G9 ?_ ?_ ?_ ?_
   .unfold cC;rw[aaG (fun h=>h h0),aaR aM]
   .rw[A9.h 151];exact ae
   .rw[(V q9 G9).2.1.2.1];exact hIn.ix
   .rw[A9.h 152];exact ad
   .exact h9.trans (aj.symm.trans ((by rw[Q.i 151,P.i 151]:q7.i 151=l.i 151).trans he))
 .have aO:bG st c≠0:=fun h=>L (I.trans h);intro q3 g3 p3 q4 O p4;refine⟨by rw[j p4];omega,fun l g5 p5=>⟨by rw[j p5];omega,fun _=>?_,fun h=>absurd ((j p5).symm.trans h) aA⟩⟩;have G5:ai 142 J l:=G2.trans (g3.mono.trans (O.mono.tr g5));obtain⟨_,⟨_,_,_,_,_,r1⟩,_⟩:=V l G5;have hm:=met (s:={data:=#[97,115,107]}) (n:=l.i 144) p3 p4 p5;have an:q3.i 145=l.i 145:=by rw[g5.i 145,O.i 145]
  rw[an]at hm;rw[r1];refine⟨C hm,fun o P ⟨F6,aP,_⟩=>?_⟩;have h6:o.i 148=l.i 144:=by simpa using G hm aP
  have G6:ai 142 J o:=G5.tr P;obtain⟨_,⟨o5,o6,o8,_,_,_⟩,_⟩:=V o G6;refine fin o 135 136 138 _ _ _ _ _ ⟨bG st c,D,S,st⟩ ?_ G6 (by rw[o5];exact hIn.so) (by rw[o6];exact hIn.ix) (by rw[o8];exact hD) ?_
  .unfold cC;rw[aaR aO]
  .exact h6.trans ((by rw[g5.i 144,O.i 144,g3.i 144]:l.i 144=q2.i 144).trans I)
end Go.Proofs.YtomdimlnggpgbaaGreatDoor
namespace Go.Proofs.YtomdimlnggpgbaaGreatDoor
open Go Go.Sx Go.Pk
variable {R:Hl}{bs r:List Int}
section
variable {s:Sx.Spec} {xs:List Value} {Rs:List Hl} {q:Env} {mem:Mem}
def Aw {e:E} (hr:s.res=[.one .bool]) (h:s.post xs [] Rs (.bool (bh q e)) [] Hl.none):postOf s xs [] Rs q mem (.sv (.one (.bool e))):=fun _ =>
 ⟨[],[],rfl,rfl,⟨{aav with b:=fun _=>bh q e},by rw[hr];rfl,by rw[hr];exact⟨zzT,zzT⟩⟩,h⟩
def hr5 (f:FuncId):(gl f).res=[.one .sl]:=rfl
end
def Mt {u:Value} (h:fL R u r):bz (some u) .slice=true/\bw (some u) 2=r.length /\
 (bw (some u) 0= -1\/bw (some u) 2=0\/0<=bw (some u) 0/\0<=bw (some u) 1/\bM R (bw (some u) 0).toNat (bw (some u) 1).toNat (bw (some u) 2).toNat=true) /\
 ∀ [Decidable (bw (some u) 0= -1)],(if bw (some u) 0= -1 then(⟨#[]⟩:ByteArray)else bytesOf (fU R (bw (some u) 0).toNat (bw (some u) 1).toNat (bw (some u) 2).toNat))=bytesOf r:=by
 have h2:=Sc h;obtain⟨x,y,c,rfl,a,h⟩:=h;refine⟨rfl,h2,?_⟩;rw[h2];rcases h with h | ⟨hx,hc⟩
 .subst h;refine⟨Or.inr (Or.inl rfl),?_⟩;intro _;show(if _ then(⟨#[]⟩:ByteArray)else bytesOf (fU R _ _ 0))=ByteArray.empty;split<;>rfl
 .rw[VR ah,Xz hx a,aar];refine⟨Or.inr (Or.inr ⟨hx,a,df hc (aaS _)⟩),?_⟩;intro _;rw[aaG ah,oQ hc]
def mq {x y l c:Int} [Decidable (x= -1)] (h:fL R (.slice (az x y) l.toNat c.toNat) bs) (b:0<=y) (hl:0<=l) :
 (x= -1\/l=0\/0<=x/\0<=y/\bM R x.toNat y.toNat l.toNat=true)/\(if x= -1 then(⟨#[]⟩:ByteArray)else bytesOf (fU R x.toNat y.toNat l.toNat))=bytesOf bs:=by
 obtain⟨x',y',c',he,a,h⟩:=h;simp only[Value.slice.injEq]at he;obtain⟨hp,he,_⟩:=he;rcases h with rfl | ⟨h0,h⟩
 .have e:l=0:=by
   have:=he;simp at this;omega
  subst e;refine⟨Or.inr (Or.inl rfl),?_⟩;split<;>rfl
 .obtain⟨rfl,rfl⟩:=px h0 a b hp;refine⟨Or.inr (Or.inr ⟨h0,b,df h ah⟩),?_⟩;rw[aaG ah,he,oQ h]
def lV:Sx.Spec where
 fn:=63
 own:=[]
 rd:=[0]
 res:=[.one .sl]
 pre:=fun xs Hs Rs=>∃ v R rows,xs=[v]/\Rs=[R]/\bq R v rE rows/\rows.length<=100000
 post:=fun xs Hs Rs v' Hs' F=>∀ v R rows,xs=[v]->Rs=[R]->bq R v rE rows->bq F v' fu (rows.map (List.take 125))
def Cf:aG Tryz.prog [] lV.fn where
 Λ:=fun p=>if OJ p then some ⟨0,[(4,TI .i64 (.var 50)),(3,.sv (.one (.sl (.var 51) (.lit 0) (.var 52) (.var 53))))],[(1,.hp 54 [] [.var 51] [])],60⟩else none
 args:=[.sv (.one (.sl (.var 0) (.var 1) (.var 2) (.var 3)))]
 mem:=[.ro 4 [.var 0] true]
 nv:=5
def uH:lV.OK Tryz.prog:=by
 refine Spec.aV (Γ:=[]) (fun _ h=>by cases h) ?_;rintro xs Hs Rs w I ⟨v,R,rows,rfl,rfl,o,hlen⟩;have K:Hs=[]:=aaz.1 w;subst K;obtain⟨x,y,c,rfl,z,_⟩:=id o;refine⟨Cf,aL [x,y,rows.length,c] false [Hl.none,Hl.none,Hl.none,Hl.none,R],fun _ q=>∃ k:Nat,q.i 50=k/\k<=rows.length/\ -1<=q.i 51/\q.i 52=k/\0<=q.i 53/\tD (q.h 54) 65 fu (.slice (az (q.i 51) 0) (q.i 52).toNat (q.i 53).toNat) ((rows.take k).map (List.take 125)),fun _ q=>(rows.length-q.i 50).toNat,?_,dw (by intro r hr;simp [Cf]at hr;subst hr;exact⟨_,_,_,rfl⟩) rfl,(fun _ h=>nomatch h),?_⟩
 .show [Value.slice (az x y) ((rows.length:Int)).toNat ((c:Int)).toNat]=_;rw[aar,aar]
 refine aG.read [] [fu] [] ?_;generalize f:aL [x,y,rows.length,c] false [Hl.none,Hl.none,Hl.none,Hl.none,R]=J;have V:∀ q:Env,ai 5 J q->q.i 0=x/\q.i 1=y/\q.i 2=rows.length/\q.h 4=R:=fun q p=>by
  rw[p.i 0,p.i 1,p.i 2,p.h 4,<-f];exact⟨rfl,rfl,rfl,rfl⟩
 clear f;simp only[go_sem,Nat.reduceAdd];refine⟨⟨0,rfl,abJ _,aaM _,rfl,aaM _,tD.nil _ _ _⟩,fun q g ⟨k,s,hk,A,l,B,ho⟩=>?_⟩;obtain⟨v0,v1,v2,L⟩:=V q g;rw[v0,v1,v2,L,s];refine⟨ah,fun m=>?_,fun M=>?_⟩
 .have C:0<=x:=by
   obtain⟨x',y',c',he,D,hh⟩:=id o;rcases hh with h | ⟨h,_⟩
   .rw[h]at m;simp at m;omega
   .simp only[Value.slice.injEq]at he;obtain⟨e1,_⟩:=px h D z he.1;omega
  have e:bq R (.slice (az x y) ((rows.length:Int)).toNat ((c:Int)).toNat) rE rows:=by rw[aar,aar];exact o
  obtain⟨_,E⟩:=e.at ah z ah;have hr:rows[k]?=some rows[k]:=aax ah;obtain⟨_,F,cells⟩:=E k _ hr;have b:=jV (n:=125) F;rw[Aj]at b;have hc:∀ i u,(rows[k].take 125)[i]?=some u->R.cell x.toNat ((y+(k:Int)*126).toNat+i)=some u:=fun i u hu=>by
   rw[abf]at hu;split at hu
   .have:=cells i u hu;rw[m8]at this;rw[show(y+(k:Int)*126).toNat=y.toNat+k*126 by omega];exact this
   .cases hu
  have N:∀ i u,rows[k][i]?=some u->R.cell x.toNat ((y+(k:Int)*126).toNat+i)=some u:=fun i u hu=>by
   have:=cells i u hu;rw[m8]at this;rw[show(y+(k:Int)*126).toNat=y.toNat+k*126 by omega];exact this
  refine⟨C,z,ah,my _ b hc,fun q1 a _=>?_⟩;have O:ai 5 J q1:=g.tr a;obtain⟨P,Q,X,z4⟩:=V q1 O;have S:List.map (CV.ev q1) (aY 4 (.var 0) (.add (.var 1) (.mul (.var 50) (.lit 126))) 0 fu)=rows[k].take 125:=fw _ fu 0 b fun i u hu=>by
   show(q1.h 4).cell (q1.i 0).toNat ((q1.i 1+q1.i 50*126).toNat+(0+i))=some u;rw[P,Q,z4,a.i 50,s,aa6];exact hc i u hu
  rw[S,a.i 51,a.i 52,a.i 53,a.h 54];have d:q.i 52=((rows.take k).map (List.take 125)).length:=by rw[aaT,aaU,l];omega
  refine⟨⟨⟨_,ho.pre d⟩,ah,by unfold maxLen;omega,ah⟩,fun q2 t ⟨T,U,happ,_⟩=>?_⟩;have W:=ho.app d b happ;refine⟨⟨k+1,?_,ah,T,?_,U,?_⟩,?_⟩
  .show IntKind.i64.wrap (q2.i 50+1)=_;rw[t.i 50,a.i 50,s];exact wrap_i64 ah ah
  .show q2.i 52+1=_;rw[t.i 52,a.i 52,l];rfl
  .show tD (q2.h 61) _ fu (.slice (az (q2.i 61) 0) (q2.i 52+1).toNat (q2.i 62).toNat) _;rw[t.i 52,a.i 52,abV,hr,ab8,aba];exact W
  .show((rows.length:Int)-IntKind.i64.wrap (q2.i 50+1)).toNat<_;rw[t.i 50,a.i 50,s,wrap_i64 ah ah];omega
 .have:k=rows.length:=ah;subst this;rw[abG]at ho;intro _;refine⟨[],[1],rfl,rfl,⟨(bf fun j=>[q.i 51,0,q.i 52,q.i 53].getD j 0),rfl,⟨A,aaM _,by show 0<=q.i 52;omega,B⟩,zzT⟩,fun v' R' G e1 H e=>?_⟩;simp only[aaC,aaP]at e1 H;subst e1 H;obtain rfl:=o.uniq e;show bq (di [q.h 54]) _ _ _;rw[aN];exact ho.rd
end Go.Proofs.YtomdimlnggpgbaaGreatDoor
namespace Go.Sx
open Go
def tK:∀ (a:List Int) (r:ByteArray),(a.foldl (fun r n=>r.push (UInt8.ofNat n.toNat)) r).data.toList=r.data.toList++a.map fun n=>UInt8.ofNat n.toNat
 | [],r=>aF
 | n::a,r=>by
  rw[ac2,tK a];show(r.data.push _).toList++_=_;rw[Array.toList_push,aaV];rfl
def EF:∀ {a b:List Int},(∀ z∈a,0<=z/\z<256)->(∀ z∈b,0<=z/\z<256)->bytesOf a=bytesOf b->a=b:=by
 have key:∀ (a b:List Int),(∀ z∈a,0<=z/\z<256)->(∀ z∈b,0<=z/\z<256)->(a.map fun n=>UInt8.ofNat n.toNat)=(b.map fun n=>UInt8.ofNat n.toNat)->a=b:=by
  intro a
  induction a with
  | nil=>intro b _ _ h;cases b with
   | nil=>rfl
   | cons y b=>cases h
  | cons x a ih =>
   intro b c hb h;cases b with
   | nil=>cases h
   | cons y b =>
    rw[aaY,aaY,aaC]at h;have hx:=c x (aa8 ..);have d:=hb y (aa8 ..);have e:=aa1 UInt8.toNat h.1;rw[UInt8.toNat_ofNat',UInt8.toNat_ofNat']at e;have:x=y:=ah;subst this;rw[ih b (fun z h=>c z (aaO _ h)) (fun z h=>hb z (aaO _ h)) h.2]
 intro a b c hb h;have:=aa1 (fun x:ByteArray=>x.data.toList) h;unfold bytesOf at this;simp only[tK]at this;exact key a b c hb (by simpa using this)
end Go.Sx
namespace Go.Proofs.YtomdimlnggpgbaaGreatDoor
open Go Go.Sx Go.Pk
variable {B G G' H H' K KB R R' T:Hl}{ks:List Ck}{row:List Value}{c c1 g i k n n1 x y:Nat}{st:Nat->List Pc}{sv:Nat->Value}{p:Pc}{P:Program}{s:Sx.Spec}
def PO {x y:Int} {rows:List (List Value)} (h:bq R (.slice (az x y) n c) fu rows) (j:0<=y) (hk:rows[k]?=some row) :
 0<=x/\xk R x.toNat (y+(k:Int)*125).toNat fu=true/\∀ {q:Env} {g:Nat} {a b:E},q.h g=R->aB q a=x->aB q b=y+(k:Int)*125->(aY g a b 0 fu).map (CV.ev q)=row:=by
 obtain⟨x1,p,c1,he,f,hr⟩:=h;simp only[Value.slice.injEq]at he;rcases hr with rfl | ⟨d,hr⟩
 .simp at hk
 obtain⟨e1,l⟩:=px d f j he.1;subst e1 l;obtain⟨ro,h2⟩:=hr k _ hk;have e:(y+(k:Int)*125).toNat=y.toNat+k*fu.length:=by rw[show fu.length=125 from rfl];omega
 have hc:∀ i u,row[i]?=some u->R.cell x.toNat ((y+(k:Int)*125).toNat+i)=some u:=fun i u hu=>by rw[e];exact h2 i u hu
 refine⟨d,my _ ro hc,fun {q g a b} m o hb=>fw row fu 0 ro fun i u hu=>?_⟩;rw[m,o,hb,aa6];exact hc i u hu
def AD:Sx.Spec where
 fn:=101
 own:=[]
 rd:=[0,100,2000003]
 res:=[.agg (List.replicate 32 (Ck.int .u8))]
 pre:=fun xs Hs Rs=>∃ v R T RG rows hs,xs=[v]/\Rs=[R,T,RG]/\bq R v fu rows/\gV T rows hs/\rows.length<=100000/\ve RG 3
 post:=fun xs Hs Rs v' Hs' F=>∀ v R T RG rows hs,xs=[v]->Rs=[R,T,RG]->bq R v fu rows->gV T rows hs->v'=.agg (aM (jM hs)).toArray
noncomputable def Yr:List Sx.Spec:=[Yj]
def Z2:Yj.res=[.agg (List.replicate 32 (Ck.int .u8))]:=rfl
noncomputable def Th:aG Tryz.prog Yr AD.fn where
 Λ:=aC
 args:=[.sv (.one (.sl (.var 0) (.var 1) (.var 2) (.var 3)))]
 mem:=[.ro 4 [.var 0] false,.ro 5 [] true,.ro 6 [.lit 3] false]
 nv:=7
def BU {q:Env} (h:Rv ks=true):ft n [.agg ks] q:=⟨cN _ _ _ h,zzT⟩
def Gt:AD.OK Tryz.prog:=by
 refine Spec.aV (Γ:=Yr) (fun t p=>by rw[Yr,aaJ]at p;subst p;exact Vf) ?_;rintro xs Hs Rs f z ⟨v,R,T,RG,rows,hs,rfl,rfl,j,hA,hlen,hK⟩;have A:Hs=[]:=aaz.1 f;subst A;obtain⟨x,y,c,rfl,s,_⟩:=id j;refine⟨Th,aL [x,y,rows.length,c] false [Hl.none,Hl.none,Hl.none,Hl.none,R,T,RG],fun _ _=>True,fun _ _=>0,?_,dw (by intro r hr;simp [Th]at hr;rcases hr with rfl | rfl | rfl<;>exact⟨_,_,_,rfl⟩) rfl,(fun _ h=>nomatch h),?_⟩
 .show [Value.slice (az x y) ((rows.length:Int)).toNat ((c:Int)).toNat]=_;rw[aar,aar]
 refine aG.read [] [fu] [] ?_;generalize e:aL [x,y,rows.length,c] false [Hl.none,Hl.none,Hl.none,Hl.none,R,T,RG]=J;have V:∀ q:Env,ai 7 J q->q.i 0=x/\q.i 1=y/\q.i 2=rows.length/\q.h 4=R/\q.h 5=T/\q.h 6=RG:=fun q d=>by
  rw[d.i 0,d.i 1,d.i 2,d.h 4,d.h 5,d.h 6,<-e];exact⟨rfl,rfl,rfl,rfl,rfl,rfl⟩
 clear e;have out:∀ {v'},v'=Value.agg (aM (jM hs)).toArray->∀ F,AD.post [.slice (az x y) rows.length c] [] [R,T,RG] v' [] F:=fun {v'} hv F v2 R' L B l hs' e1 u h1 h2=>by
  simp only[aaC,aaP]at e1 u;obtain⟨rfl,rfl,rfl⟩:=u;subst e1;obtain rfl:=j.uniq h1;rw[hA.uniq h2]at hv;exact hv
 simp only[go_sem,Nat.reduceAdd,Yr,Z2];intro q1 C _;obtain⟨v0,v1,v2,w,D,G⟩:=V q1 C;rw[v0,v1,v2,w,D,G];refine⟨ah,fun h0 _=>?_,fun H=>?_⟩
 .have:hs=[]:=aaz.1 (by have:=hA.1;omega);refine⟨[],[],rfl,rfl,⟨(bf fun _=>0),rfl,BU rfl⟩,out ?_ _⟩;subst this;rfl
 .have hw:IntKind.i64.wrap ((rows.length:Int)-1)=((rows.length-1:Nat):Int):=by rw[IntKind.wrap_i64];omega
  obtain⟨row,hr⟩:∃ row,rows[rows.length-1]?=some row:=⟨_,aax ah⟩;obtain⟨h,hh⟩:∃ h,hs[rows.length-1]?=some h:=⟨_,aax (by have:=hA.1;omega)⟩;obtain⟨m,n,o⟩:=PO j s hr;have hI:=hA.2 _ _ _ hr hh;have I:=o (q:=q1) (g:=4) (a:=.var 0) (b:=(E.var 1).add ((E.wrap .i64 ((E.var 2).sub (.lit 1))).mul (.lit 125))) w v0 (by
   show q1.i 1+IntKind.i64.wrap (q1.i 2-1)*125=_;rw[v1,v2,hw])
  rw[I,hw];refine⟨m,s,ah,ah,n,⟨_,T,RG,h,rfl,rfl,hI,hK⟩,fun q2 M ⟨F,hp,_⟩ _=>?_⟩;have hp:=hp _ _ _ _ rfl rfl hI;have K:jM hs=nZ h:=by
   unfold jM;have:hs.getLast?=some h:=by rw[List.getLast?_eq_getElem?,<-hA.1];exact hh
   rw[this]
  rw[<-K]at hp;refine⟨[],[],rfl,rfl,⟨(bf fun k=>q2.i (k+8)),rfl,BU rfl⟩,out hp _⟩
def PQ (f:Nat->Int) (hs:List (Nat×Hl)) (h:bo row (ks.map kU)):∃ q:Env,row=(ar 0 ks).map (CV.ev q)/\(∀ k,q.h k=Bk hs k)/\(∀ k,bd ks<=k->q.i k=f k):=by
 obtain⟨q,hr,_,hh⟩:=DV (ks:=ks) hs h;refine⟨⟨fun k=>if bd ks<=k then f k else q.i k,q.b,q.s,q.v,q.h⟩,?_,hh,fun k hk=>aaR hk⟩;rw[hr];have g:ai (bd ks) q ⟨fun k=>if bd ks<=k then f k else q.i k,q.b,q.s,q.v,q.h⟩:=⟨fun k hk=>aaG ah,fun _ _=>rfl,fun _ _=>rfl,fun _ _=>rfl,fun _ _=>rfl⟩;exact(aa1 Array.toList (Value.agg.inj (gn (ks:=ks) (n:=0) g ah))).symm
noncomputable def Ge:Sx.Spec where
 fn:=66
 own:=[]
 rd:=[1,100,10253,2000003]
 res:=[.one (.int .i64)]
 pre:=fun xs Hs Rs=>∃ w v row R T a RG rows hs h,xs=[.int .i64 w,v,.agg row.toArray]/\Rs=[R,T,a,RG]/\bq R v fu rows/\gV T rows hs/\(∀ g∈hs,g.Form)/\bU a row h/\rows.length<=100000/\ve RG 3
 post:=fun xs Hs Rs v' Hs' F=>∀ w v row R T a RG rows hs h,xs=[.int .i64 w,v,.agg row.toArray]->Rs=[R,T,a,RG]->bq R v fu rows->gV T rows hs->bU a row h->v'=.int .i64 (gQ w hs h)
noncomputable def Ym:List Sx.Spec:=[ie 65,AD,gl 71]
def ZP:AD.res=[.agg (List.replicate 32 (Ck.int .u8))]:=rfl
noncomputable def Td:aG Tryz.prog Ym Ge.fn where
 Λ:=aC
 args:=TI .i64 (.var 129)::.sv (.one (.sl (.var 130) (.var 131) (.var 132) (.var 133)))::(cA 0 [.agg cy]).map .sv
 mem:=[.ro 134 [.var 130] false,.ro 135 [] true,.ro 136 [.var 53] false,.ro 137 [.lit 3] false]
 nv:=138
open Classical in
set_option maxRecDepth 20000 in
def Pu:Ge.OK Tryz.prog:=by
 refine Spec.aV (Γ:=Ym) (fun t ht=>?_) ?_
 .simp only[Ym,aaN,aaX,abC]at ht;rcases ht with rfl | rfl | rfl
  .exact vI
  .exact Gt
  .exact An
 rintro xs Hs Rs K al ⟨w,v,row,R,T,A,RG,rows,hs,h,rfl,rfl,C,hA,L,hx,hlen,hK⟩;have e0:Hs=[]:=aaz.1 K;subst e0;obtain⟨x,y,c,rfl,hy,_⟩:=id C;obtain⟨J,d,hh,hv⟩:=PQ (ks:=cy) (fun k=>[w,x,y,rows.length,c].getD (k-129) 0) [(134,R),(135,T),(136,A),(137,RG)] hx.ok;have an:bd cy<=129:=by decide
 have v9:J.i 129=w:=hv 129 ah;have v0:J.i 130=x:=hv 130 ah;have v1:J.i 131=y:=hv 131 ah;have v2:J.i 132=rows.length:=hv 132 ah;have v3:J.i 133=c:=hv 133 ah;have w4:J.h 134=R:=hh 134;have w5:J.h 135=T:=hh 135;have w6:J.h 136=A:=hh 136;have w7:J.h 137=RG:=hh 137;refine⟨Td,J,fun _ _=>True,fun _ _=>0,?_,dw (by intro r hr;simp [Td]at hr;rcases hr with rfl | rfl | rfl | rfl<;>exact⟨_,_,_,rfl⟩) (by show [J.h 134,J.h 135,J.h 136,J.h 137]=_;rw[w4,w5,w6,w7]),(fun _ h=>nomatch h),?_⟩
 .show [Value.int .i64 (J.i 129),.slice (az (J.i 130) (J.i 131)) (J.i 132).toNat (J.i 133).toNat,.agg ((ar 0 cy).map (CV.ev J)).toArray]=_;rw[v9,v0,v1,v2,v3,<-d,aar,aar]
 refine aG.read [cy] [fu] [] ?_;simp only[go_sem,Nat.reduceAdd,Ym,TU,ZP,hr5,KI];have V:∀ q:Env,ai 138 J q->(q.i 129=w/\q.i 130=x/\q.i 131=y/\q.i 132=rows.length)/\(q.h 134=R/\q.h 135=T/\q.h 136=A/\q.h 137=RG)/\(ar 0 cy).map (CV.ev q)=row/\q.i 0=J.i 0/\q.i 1=J.i 1/\iM q 2=iM J 2/\Value.slice (az (q.i 130) (q.i 131)) (q.i 132).toNat (q.i 133).toNat=.slice (az x y) rows.length c:=fun q g=>by
  refine⟨⟨by rw[g.i 129,v9],by rw[g.i 130,v0],by rw[g.i 131,v1],by rw[g.i 132,v2]⟩,⟨by rw[g.h 134,w4],by rw[g.h 135,w5],by rw[g.h 136,w6],by rw[g.h 137,w7]⟩,?_,g.i 0,g.i 1,DZ g ah,?_⟩
  .rw[d];exact aa1 Array.toList (Value.agg.inj (gn (ks:=cy) (n:=0) g aA))
  .rw[g.i 130,g.i 131,g.i 132,g.i 133,v0,v1,v2,v3,aar,aar]
 have out:∀ {q:Env} {mem:Mem} {e:E},aB q e=gQ w hs h->postOf Ge [.int .i64 w,.slice (az x y) rows.length c,.agg row.toArray] [] [R,T,A,RG] q mem (.sv (.one (.int .i64 e))):=fun {q mem e} he =>
  oi rfl he fun F w' v' row' R' T' ao aq M hs' h' e1 e2 N O P=>by
   simp only[aaC,aaP,Value.int.injEq,abk,Value.agg.injEq]at e1 e2;obtain⟨rfl,rfl,e1⟩:=e1;obtain⟨rfl,rfl,rfl,rfl⟩:=e2;have e1:=aa5 e1;subst e1;obtain rfl:=C.uniq N;obtain rfl:=hA.uniq O;rw[hx.uniq P]
 have h0:cI h.c 0=J.i 0:=by
  have e1:cI h.c 0=cI row 0:=hx.I aA;rw[e1,d];rfl
 have h1:cI h.c 1=J.i 1:=by
  have e1:cI h.c 1=cI row 1:=hx.I aA;rw[e1,d];rfl
 have h2:aW h.c 2 32=iM J 2:=by
  have:aW h.c 2 32=aW row 2 32:=by
   unfold aW;refine abr fun j hj=>hx.I ?_;have:=abd.1 hj;omega
  rw[this,d];rfl
 have au:rows.length=hs.length:=hA.1;intro q1 g1 p1;obtain⟨_,⟨_,_,x6,_⟩,xr,_⟩:=V q1 g1;rw[xr,x6];refine⟨⟨_,A,h,rfl,rfl,hx⟩,fun q2 g2 ⟨F2,Q,_⟩=>?_⟩;have S:ai 138 J q2:=g1.tr g2;have D:q2.b 139=decide h.Form:=Value.bool.inj (mg hx Q);obtain⟨⟨y9,y0,y1,y2⟩,⟨y4,y5,y6,y7⟩,yr,U,G,ys,W⟩:=V q2 S;refine⟨fun hb=>?_,fun hb=>out ?_⟩
 rotate_left
 .have B:¬h.Form:=by rw[D]at hb;simpa using hb
  unfold gQ;rw[aaR (Or.inl B)];rfl
 have B:h.Form:=by rw[D]at hb;simpa using hb
 have H:1<=cI h.c 1/\cI h.c 1<=1048576:=B.1.2.1;rw[h1]at H;rw[W,U,G,y9,y0,y1,y2,y4,y5];have wl:IntKind.u64.wrap (rows.length:Int)=rows.length:=by rw[IntKind.wrap_u64];omega
 have ws:IntKind.u64.wrap (J.i 1-1)=(((J.i 1-1).toNat:Nat):Int):=by rw[IntKind.wrap_u64];omega
 refine⟨fun o=>out ?_,fun heq=>⟨ah,fun hle=>?_,fun X=>?_⟩⟩
 .unfold gQ;rw[aaR (Or.inr (by rw[h0];exact o))];rfl
 .have l:¬(¬h.Form\/cI h.c 0≠w):=by rw[h0];exact fun hh=>hh.elim (fun g=>g B) (fun g=>g heq)
  rw[wl]at hle;have hk:(J.i 1-1).toNat<rows.length:=ah;obtain⟨row',hr⟩:∃ row',rows[(J.i 1-1).toNat]?=some row':=⟨_,aax hk⟩;obtain⟨h',u⟩:∃ h',hs[(J.i 1-1).toNat]?=some h':=⟨_,aax ah⟩;obtain⟨Y,Z,aa⟩:=PO C hy hr;have hI:=hA.2 _ _ _ hr u;have er:=aa (q:=q2) (g:=134) (a:=.var 130) (b:=(E.var 131).add ((E.wrap .u64 ((E.var 1).sub (.lit 1))).mul (.lit 125))) y4 y0 (by
   show q2.i 131+IntKind.u64.wrap (q2.i 1-1)*125=_;rw[y1,G,ws])
  rw[er,ws];refine⟨Y,hy,ah,Z,⟨_,T,h',rfl,rfl,hI⟩,fun m g3 ⟨F3,f,ab,ad⟩=>?_⟩;have B3:=oN hI f;rw[<-ab zzT]at B3;have n3:-1<=m.i 140/\0<=m.i 141/\0<=m.i 142/\0<=m.i 143:=ad.1;have G3:ai 138 J m:=S.tr g3;obtain⟨_,⟨_,_,z6,_⟩,zr,_⟩:=V m G3;rw[zr,z6];refine⟨(mq B3.rd.w n3.2.1 n3.2.2.1).1,⟨_,A,h,rfl,rfl,hx⟩,fun p z ⟨F4,ae,af,ag⟩=>?_⟩;have B4:=oN hx ae;rw[<-af zzT]at B4;have n4:-1<=p.i 144/\0<=p.i 145/\0<=p.i 146/\0<=p.i 147:=ag.1;have aj:bZ (p.h 140) 5 (.slice (az (p.i 140) (p.i 141)) (p.i 142).toNat (p.i 143).toNat) (bE h'):=by
   rw[z.h 140,z.i 140,z.i 141,z.i 142,z.i 143];exact B3
  have t3:=mq aj.rd.w (by rw[z.i 141];exact n3.2.1) (by rw[z.i 142];exact n3.2.2.1);have t4:=mq B4.rd.w n4.2.1 n4.2.2.1;rw[t3.2,t4.2];have key:(hs[(cI h.c 1-1).toNat]?=some h)↔bytesOf (bE h')=bytesOf (bE h):=by
   rw[h1,u,aaF];refine⟨fun e=>by rw[e],fun e=>?_⟩;have e:=EF (Nr hI).1 (Nr hx).1 e;exact(CZ hI hx (L _ (aaA u)) B).1 e
  refine⟨t4.1,fun he=>out ?_,fun he=>out ?_⟩
  .unfold gQ;rw[aaG l,aaR (by rw[h1];omega),aaR (key.2 he)];rfl
  .unfold gQ;rw[aaG l,aaR (by rw[h1];omega),aaG (fun g=>he (key.1 g))];rfl
 .have l:¬(¬h.Form\/cI h.c 0≠w):=by rw[h0];exact fun hh=>hh.elim (fun g=>g B) (fun g=>g heq)
  rw[wl]at X ⊢;have ak:IntKind.u64.wrap ((rows.length:Int)+1)=(rows.length:Int)+1:=by rw[IntKind.wrap_u64];omega
  have H0:¬cI h.c 1<=hs.length:=by rw[h1];omega
  rw[ak,y7];refine⟨fun av=>out ?_,fun aw=>⟨⟨_,R,T,RG,rows,hs,rfl,rfl,C,hA,hlen,hK⟩,fun m g3 ⟨F3,f,_⟩=>?_⟩⟩
  .unfold gQ;rw[aaG l,aaG H0,aaR (by rw[h1];omega)];rfl
  have f:=f _ _ _ _ _ _ rfl rfl C hA;have f:iM m 140=jM hs:=by
   have hp:Value.agg (aM (iM m 140)).toArray=.agg (aM (jM hs)).toArray:=f;exact ly (aa1 Array.toList (Value.agg.inj hp))
  have G3:ai 138 J m:=S.tr g3;obtain⟨_,_,_,_,_,zs,_⟩:=V m G3;have s:¬((hs.length:Int)+1<cI h.c 1):=by rw[h1];omega
  have key:=I1 m m 2 140;rw[f,zs,<-h2]at key;refine⟨fun o=>out ?_,fun heq=>out ?_⟩
  .have o:¬aW h.c 2 32=jM hs:=fun g=>o (key.1 g);unfold gQ;rw[aaG l,aaG H0,aaG s,aaR o];rfl
  .have heq:aW h.c 2 32=jM hs:=key.2 heq;unfold gQ;rw[aaG l,aaG H0,aaG s,aaG (fun g=>g heq)];rfl
def M4 (s:Sx.Spec) (rd:List Nat):Sx.Spec:={s with rd:=rd,pre:=fun xs Hs Rs=>∀ U:Hl,(∀ R∈Rs,R.le U)->s.pre xs Hs (List.replicate s.rd.length U),post:=fun xs Hs Rs v Hs' F=>∃ U:Hl,(∀ R∈Rs,R.le U)/\s.post xs Hs (List.replicate s.rd.length U) v Hs' F}
def BD {w:World} : ∀ {l:List Hl} (_:∀ R∈l,R.sub w) {R:Hl},R∈l->R.le (di l)
 | A::l,h,R,a=>by
  have hs:(di l).sub w:=xY fun X c=>h X (aaO _ c);intro b o hb;show(A.un (di l)) b=some o;rcases aaN.1 a with rfl | a
  .exact Hl.bm _ _ b o hb
  .have e:=BD (fun X c=>h X (aaO _ c)) a b o hb;unfold Hl.un;cases hA:A b with
   | none=>exact e
   | some o' =>
    have h1:=h A (aa8 ..) b o' hA;rw[hs b o e]at h1;cases h1;rfl
def JK {H:Hl} : ∀ {l:List Hl},(∀ R∈l,H.bV R)->H.bV (di l)
 | [],_=>Hl.EW H
 | _::_,h=>Hl.yS (h _ (aa8 ..)) (JK fun R a=>h R (aaO _ a))
def we {rd:List Nat} (h:s.OK P):(M4 s rd).OK P:=by
 intro w xs Hs Rs b f s1 s2 d1 d2 hp;have hU:(di Rs).sub w:=xY s2;have hle:∀ R∈Rs,R.le (di Rs):=fun R a=>BD s2 a;refine(h w xs Hs (List.replicate s.rd.length (di Rs)) b aby s1 (fun R a=>by rw[(acI.1 a).2];exact hU) d1 (fun H c R a=>by rw[(acI.1 a).2];exact JK (d2 H c)) (hp _ hle)).mono ?_;rintro e w' ⟨J,Hs',F,he,hn,d,hpost⟩;exact⟨J,Hs',F,he,hn,d,_,hle,hpost⟩
def NQ (s:Sx.Spec):Sx.Spec:={s with post:=fun xs Hs Rs v Hs' F=>s.post xs Hs Rs v Hs' F/\∀ H∈Hs,∀ R∈Rs,H.bV R}
def Q0 (h:s.OK P):(NQ s).OK P:=fun w xs Hs Rs e f s1 s2 d1 d2 hp=>(h w xs Hs Rs e f s1 s2 d1 d2 hp).mono fun _ _ ⟨J,Hs',F,a,b,c,d⟩=>⟨J,Hs',F,a,b,c,d,d2⟩
def XT (A B:Hl) (rows:List (List Value)) (hs:List Hd):Prop:=rows.length=hs.length/\∀ U:Hl,A.le U->B.le U->gV U rows hs
def Nf (T K:Hl) (row:List Value) (p:Pc):Prop:=bo row rE/\∀ U:Hl,T.le U->K.le U->gY U U row p
def Nf.mono {K':Hl} (h:Nf T K row p) (hk:K.le K'):Nf T K' row p:=⟨h.1,fun U a b=>h.2 U a fun k o hx=>b k o (hk k o hx)⟩
def gY.u (h:gY T K row p):Nf T K row p:=⟨h.ok,fun _ a b=>h.mono a b⟩
def C3 (hl:R.le R') {v:Value} (h:R.cell x y=some v):R'.cell x y=some v:=by
 unfold Hl.cell at h ⊢;cases e:R x with
 | none=>rw[e]at h;cases h
 | some o=>rw[hl _ _ e];rw[e]at h;exact h
def ve.mono (h:ve R g) (hl:R.le R'):ve R' g:=fun j a=>C3 hl (h j a)
def Mw (sv:Nat->Value):List Value:=[sv 0,sv 1,sv 2,sv 3,sv 4,sv 5]
def PD (sv:Nat->Value) (h:i<6):(Mw sv)[i]?=some (sv i):=by
 have:i=0\/i=1\/i=2\/i=3\/i=4\/i=5:=ah;rcases this with rfl | rfl | rfl | rfl | rfl | rfl<;>rfl
def Sg (sv:Nat->Value) (v:Value) (h:i<6):br (Mw sv) i [v]=Mw (vf sv i v):=by
 have:i=0\/i=1\/i=2\/i=3\/i=4\/i=5:=ah;rcases this with rfl | rfl | rfl | rfl | rfl | rfl<;>rfl
structure RfW (H T:Hl) (x:Nat) (st:Nat->List Pc) (sv:Nat->Value) (KB:Hl):Prop where
 bj:H x=some (.cells (Mw sv).toArray 57 (0,0))
 row:∀ i,i<6->∃ rows,tD H 67 rE (sv i) rows/\rows.length=(st i).length/\∀ (j:Nat) row p,rows[j]?=some row->(st i)[j]?=some p->Nf T KB row p
 kb:KB.le H
structure Qx (H T:Hl) (x:Nat) (st:Nat->List Pc) (sv:Nat->Value) (KB:Hl):Prop extends RfW H T x st sv KB where
 kbx:¬KB.mem x
 own:∀ i b,i<6->(sv i).ownBlock=some b->¬KB.mem b/\∀ j,j<6->j≠i->(sv j).ownBlock≠some b
 form:∀ i,i<6->∀ p∈st i,p.h.Form
def jJ (H T:Hl) (x:Nat) (st:Nat->List Pc):Prop:=∃ sv KB,Qx H T x st sv KB
def GZ (H T:Hl) (x:Nat) (st:Nat->List Pc):Prop:=∃ sv KB,RfW H T x st sv KB
def jJ.v (h:jJ H T x st):GZ H T x st:=by obtain⟨sv,KB,h⟩:=h;exact⟨sv,KB,h.toRfW⟩
def RfW.mono (hl:H.le H') (h:RfW H T x st sv KB):RfW H' T x st sv KB:=by
 refine⟨hl _ _ h.bj,fun i hi=>?_,fun b o hb=>hl b o (h.kb b o hb)⟩;obtain⟨rows,h1,h2,a⟩:=h.row i hi;exact⟨rows,⟨h1.1,h1.2.mono hl⟩,h2,a⟩
def Qx.mono (hl:H.le H') (h:Qx H T x st sv KB):Qx H' T x st sv KB:=⟨h.toRfW.mono hl,h.kbx,h.own,h.form⟩
def GZ.mono (hl:H.le H') (h:GZ H T x st):GZ H' T x st:=by obtain⟨sv,KB,h⟩:=h;exact⟨sv,KB,h.mono hl⟩
def RfW.sl (h:RfW H T x st sv KB) (hi:i<6):H.cell x i=some (sv i)/\(∃ p l c,sv i=.slice p l c)/\bw (some (sv i)) 2=(st i).length/\bz (some (sv i)) .slice=true:=by
 obtain⟨rows,h1,h2,_⟩:=h.row i hi;refine⟨?_,?_⟩
 .unfold Hl.cell;rw[h.bj];simpa using PD sv hi
 .have ho:=h1.2;rw[h2]at ho;rcases ho.2 with ⟨e,hn⟩ | ⟨_,_,_,e,_⟩
  .rw[e,hn];exact⟨⟨_,_,_,rfl⟩,rfl,rfl⟩
  .rw[e];exact⟨⟨_,_,_,rfl⟩,rfl,rfl⟩
def Qx.put (h:Qx H T x st sv KB) (hi:i<6) {x1:Int} 
 (hd:H.bV B) (hp:Nf T B row p) (P:p.h.Form) (F:-1<=x1) (I:n1=(st i).length+1)
 (happ:∀ xs,aP (H.un B) 67 rE.length (sv i) (st i).length xs->aP G 67 rE.length (.slice (az x1 0) n1 c1) ((st i).length+1) (xs++row))
 (hk:∀ b,(H.un B).mem b->some b≠(sv i).ownBlock->G b=(H.un B) b)
 (hnew:some x1.toNat=(sv i).ownBlock\/¬(H.un B).mem x1.toNat\/x1= -1) :
 G x=some (.cells (Mw sv).toArray 57 (0,0))/\Qx (G.put x i [.slice (az x1 0) n1 c1]) T x (vf st i (st i++[p])) (vf sv i (.slice (az x1 0) n1 c1)) (KB.un B):=by
 subst I;have u:H.le (H.un B):=Hl.bm _ _;have Q:B.le (H.un B):=Hl.bK hd;have f:∀ j b,j<6->(sv j).ownBlock=some b->∃ c,H b=some (.cells c 67 (0,0)):=fun j b a hb=>by
  obtain⟨rows,h1,_⟩:=h.row j a;exact h1.2.type hb
 have g:∀ j b,j<6->(sv j).ownBlock=some b->b≠x:=fun j b a hb e=>by
  subst e;obtain⟨c,hc⟩:=f j _ a hb;rw[h.bj]at hc;simp at hc
 have J:G x=some (.cells (Mw sv).toArray 57 (0,0)):=by
  rw[hk x (Hl.fv u (Hl.mem_of h.bj)) fun e=>g i x hi e.symm rfl];exact u _ _ h.bj
 refine⟨J,?_⟩;obtain⟨rows,ho,n,K⟩:=h.row i hi;have v:=happ rows.flatten (by have:=ho.2;rw[n]at this;exact aP.mono u this);have L:∀ j b,j<6->(sv j).ownBlock=some b->¬B.mem b:=fun j b a hb hm=>by
  obtain⟨c,hc⟩:=f j b a hb;exact hd b ⟨Hl.mem_of hc,hm⟩
 have M:(KB.un B).le G:=fun b o hb=>by
  have e:(H.un B) b=some o:=by
   unfold Hl.un at hb;cases d:KB b with
   | some o'=>rw[d]at hb;cases hb;exact u _ _ (h.kb _ _ d)
   | none=>rw[d]at hb;exact Q _ _ hb
  rw[hk b (Hl.mem_of e) fun D=>?_,e];rcases Hl.fm.1 (Hl.mem_of hb)with h1 | h1
  .exact(h.own i b hi D.symm).1 h1
  .exact L i b hi D.symm h1
 have R:¬B.mem x:=fun hm=>hd x ⟨Hl.mem_of h.bj,hm⟩;have w:¬(KB.un B).mem x:=fun hm=>(Hl.fm.1 hm).elim h.kbx R;have l:∀ b,(Value.slice (az x1 0) ((st i).length+1) c1).ownBlock=some b->x1=b:=fun b hb=>DG hb F;have s:∀ b,(Value.slice (az x1 0) ((st i).length+1) c1).ownBlock=some b->b≠x:=fun b hb e=>by
  subst e;obtain⟨c,hc⟩:=v.type hb;rw[J]at hc;simp at hc
 have A:∀ b,(Value.slice (az x1 0) ((st i).length+1) c1).ownBlock=some b->¬(KB.un B).mem b:=fun b hb hm=>by
  have e:=l b hb;have N:(H.un B).mem b:=(Hl.fm.1 hm).elim (fun y=>Hl.fm.2 (Or.inl (Hl.fv h.kb y))) (fun y=>Hl.fm.2 (Or.inr y));rcases hnew with h1 | h1 | h1
  .rw[e,aar]at h1;exact(Hl.fm.1 hm).elim (h.own i b hi h1.symm).1 (L i b hi h1.symm)
  .rw[e,aar]at h1;exact h1 N
  .omega
 have m:∀ j b,j<6->j≠i->(Value.slice (az x1 0) ((st i).length+1) c1).ownBlock=some b->(sv j).ownBlock≠some b:=fun j b a O hb C=>by
  have e:=l b hb;rcases hnew with h1 | h1 | h1
  .rw[e,aar]at h1;exact(h.own i b hi h1.symm).2 j a O C
  .rw[e,aar]at h1;obtain⟨c,hc⟩:=f j b a C;exact h1 (Hl.fm.2 (Or.inl (Hl.mem_of hc)))
  .omega
 refine⟨⟨?_,fun j a=>?_,Hl.zH M w⟩,w,fun j b a hb=>?_,fun j a q d=>?_⟩
 .rw[Hl.qE J];simp only[acW];rw[Sg _ _ hi]
 .by_cases e:j=i
  .subst e;rw[dd,dd];refine⟨rows++[row],?_,by simp [n],fun k r q hr d=>?_⟩
   .have:=tD.snoc (rows:=rows) ho.1 hp.1 v (by rw[n]) rfl;exact⟨this.1,this.2.at fun b hb=>Hl.pj (s b hb)⟩
   .rcases abn k rows.length with sj | sj
    .rw[aa0 sj]at hr;rw[aa0 ah]at d;exact(K k r q hr d).mono (Hl.bm _ _)
    .rw[aaQ sj]at hr;rw[aaQ ah]at d;have hr:=aaA hr;have d:=aaA d;rw[aaJ]at hr d;subst hr;subst d;exact hp.mono (Hl.bK fun b ⟨y,z⟩=>hd b ⟨Hl.fv h.kb y,z⟩)
  .rw[fR _ _ e,fR _ _ e];obtain⟨rs,h1,h2,S⟩:=h.row j a;refine⟨rs,⟨h1.1,h1.2.at fun b hb=>?_⟩,h2,fun k r q hr d=>(S k r q hr d).mono (Hl.bm _ _)⟩;obtain⟨c,hc⟩:=f j b a hb;rw[Hl.pj (g j b a hb),hk b (Hl.fv u (Hl.mem_of hc)) fun D=>(h.own j b a hb).2 i hi (Ne.symm e) D.symm,u _ _ hc,hc]
 .by_cases e:j=i
  .subst e;rw[dd]at hb;refine⟨A b hb,fun k t E=>?_⟩;rw[fR _ _ E];exact m k b t E hb
  .rw[fR _ _ e]at hb;refine⟨fun hm=>(Hl.fm.1 hm).elim (h.own j b a hb).1 (L j b a hb),fun k t E=>?_⟩;by_cases C:k=i
   .subst C;rw[dd];exact fun U=>m j b a e U hb
   .rw[fR _ _ C];exact(h.own j b a hb).2 k t E
 .by_cases e:j=i
  .subst e;rw[dd]at d;rcases aa4.1 d with h1 | h1
   .exact h.form j a q h1
   .rw[aaJ]at h1;subst h1;exact P
  .rw[fR _ _ e]at d;exact h.form j a q d
def Qx.view (h:Qx H T x st sv KB) (hi:i<6) 
 (hold:∀ xs,aP H 67 rE.length (sv i) (st i).length xs->aP G 67 rE.length (sv i) (st i).length xs)
 (hk:∀ b,H.mem b->some b≠(sv i).ownBlock->G b=H b)
 (hx:G' y=some (.cells (Mw sv).toArray 57 (0,0))) (k:∀ b,b≠x->G.mem b->G' b=G b):RfW G' T y st sv KB:=by
 have d:∀ j b,j<6->(sv j).ownBlock=some b->∃ c,H b=some (.cells c 67 (0,0)):=fun j b a hb=>by
  obtain⟨rows,h1,_⟩:=h.row j a;exact h1.2.type hb
 have f:∀ j b,j<6->(sv j).ownBlock=some b->b≠x:=fun j b a hb e=>by
  subst e;obtain⟨c,hc⟩:=d j _ a hb;rw[h.bj]at hc;simp at hc
 have l:∀ b o,KB b=some o->G b=some o:=fun b o hb=>by
  have m:=h.kb b o hb;rw[hk b (Hl.mem_of m) fun e=>(h.own i b hi e.symm).1 (Hl.mem_of hb)];exact m
 refine⟨hx,fun j a=>?_,fun b o hb=>?_⟩
 .obtain⟨rows,h1,h2,p⟩:=h.row j a;refine⟨rows,⟨h1.1,?_⟩,h2,p⟩;by_cases e:j=i
  .subst e;have n:=hold rows.flatten (by have:=h1.2;rw[h2]at this;exact this);rw[h2];refine n.at fun b hb=>k b (f j b a hb) ?_;obtain⟨c,hc⟩:=n.type hb;exact Hl.mem_of hc
  .refine h1.2.at fun b hb=>?_;obtain⟨c,hc⟩:=d j b a hb;have g:=hk b (Hl.mem_of hc) fun q=>(h.own j b a hb).2 i hi (Ne.symm e) q.symm;rw[k b (f j b a hb) (Hl.mem_of (g.trans hc)),g]
 .have g:=l b o hb;rw[k b (fun e=>h.kbx (e▸Hl.mem_of hb)) (Hl.mem_of g),g]
def yj:Sx.Spec where
 fn:=33
 own:=[]
 rd:=[0]
 res:=[.one (.int .i64)]
 pre:=fun xs Hs Rs=>∃ x R T st,xs=[.pointer (some ⟨x,0,none⟩)]/\Rs=[R]/\GZ R T x st/\mK st
 post:=fun xs Hs Rs v Hs' F=>∃ x R T st,xs=[.pointer (some ⟨x,0,none⟩)]/\Rs=[R]/\GZ R T x st/\v=.int .i64 (fq st)
def Ky:aG Tryz.prog [] yj.fn where
 Λ:=aC
 args:=[TP (.var 0) (.lit 0)]
 mem:=[.ro 1 [.var 0] true]
 nv:=2
def EM (hS:mK st):IntKind.i64.wrap (IntKind.i64.wrap (IntKind.i64.wrap (IntKind.i64.wrap (IntKind.i64.wrap (IntKind.i64.wrap ((st 0).length:Int)+(st 1).length)+(st 2).length)+(st 3).length)+(st 4).length)+(st 5).length)=fq st:=by
 have h0:=hS 0 ah;have h1:=hS 1 ah;have h2:=hS 2 ah;have a:=hS 3 ah;have b:=hS 4 ah;have c:=hS 5 ah;rw[wrap_i64 (n:=((st 0).length:Int)) ah ah,wrap_i64 (n:=((st 0).length:Int)+_) ah ah,wrap_i64 (n:=((st 0).length:Int)+_+_) ah ah,wrap_i64 (n:=((st 0).length:Int)+_+_+_) ah ah,wrap_i64 (n:=((st 0).length:Int)+_+_+_+_) ah ah,wrap_i64 (n:=((st 0).length:Int)+_+_+_+_+_) ah ah];unfold fq;omega
def IS:yj.OK Tryz.prog:=by
 refine Spec.aV (Γ:=[]) (fun _ h=>by cases h) ?_;rintro xs Hs Rs g q ⟨x,R,T,st,rfl,rfl,hI,hS⟩;have s:Hs=[]:=aaz.1 g;subst s;refine⟨Ky,aL [x] false [Hl.none,R],fun _ _=>True,fun _ _=>0,?_,dw (by intro r hr;simp [Ky]at hr;subst hr;exact⟨_,_,_,rfl⟩) rfl,(fun _ h=>nomatch h),?_⟩
 .show [Value.pointer (az (x:Int) 0)]=_;rw[au ah];rfl
 refine aG.read [] [] [] ?_;generalize a:aL [(x:Int)] false [Hl.none,R]=J;have v0:J.i 0=x:=by rw[<-a];rfl
 have j:J.h 1=R:=by rw[<-a];rfl
 clear a;simp only[go_sem,Nat.reduceAdd];obtain⟨sv,KB,b⟩:=id hI;have c:∀ i:Nat,i<6->R.cell ((x:Int)).toNat (Int.toNat ((i:Nat):Int))=some (sv i):=fun i hi=>by rw[aar,aar];exact(b.sl hi).1
 have d:=c 0 ah;have c1:=c 1 ah;have c2:=c 2 ah;have c3:=c 3 ah;have e:=c 4 ah;have f:=c 5 ah;obtain⟨_,_,k,t⟩:=b.sl (i:=0) ah;obtain⟨_,_,l,s1⟩:=b.sl (i:=1) ah;obtain⟨_,_,m,s2⟩:=b.sl (i:=2) ah;obtain⟨_,_,n,u⟩:=b.sl (i:=3) ah;obtain⟨_,_,o,v⟩:=b.sl (i:=4) ah;obtain⟨_,_,p,w⟩:=b.sl (i:=5) ah;rw[v0,j];have d:R.cell ((x:Int)).toNat (Int.toNat 0)=some (sv 0):=d;have c1:R.cell ((x:Int)).toNat (Int.toNat 1)=some (sv 1):=c1;have c2:R.cell ((x:Int)).toNat (Int.toNat 2)=some (sv 2):=c2;have c3:R.cell ((x:Int)).toNat (Int.toNat 3)=some (sv 3):=c3;have e:R.cell ((x:Int)).toNat (Int.toNat 4)=some (sv 4):=e;have f:R.cell ((x:Int)).toNat (Int.toNat 5)=some (sv 5):=f;rw[d,c1,c2,c3,e,f,k,l,m,n,o,p];refine⟨ah,t,ah,s1,ah,s2,ah,u,ah,v,ah,w,ah,oi rfl (z:=fq st) ?_ fun F=>⟨x,R,T,st,rfl,rfl,hI,rfl⟩⟩;simp only[ak,al,bQ,dm,cG,bP,cO,fh,fG,fS,iT,gy,iE,fY,abj];rw[v0,j,d,c1,c2,c3,e,f,k,l,m,n,o,p];exact EM hS
noncomputable def Cm (rt:Nat):Sx.Spec where
 fn:=29
 own:=[.arg 0]
 rd:=[rt,2000003]
 res:=[.one (.int .i64)]
 pre:=fun xs Hs Rs=>∃ x H B row T RG st p,xs=[.pointer (some ⟨x,0,none⟩),.agg row.toArray]/\Hs=[H.un B]/\Rs=[T,RG]/\H.bV B/\jJ H T x st/\mK st/\(∀ i,i<6->(st i).length<=100000)/\Nf T B row p/\p.b.length<=900000/\ve RG 3
 post:=fun xs Hs Rs v Hs' F=>∃ x H B row T RG st p H',xs=[.pointer (some ⟨x,0,none⟩),.agg row.toArray]/\Hs=[H.un B]/\Rs=[T,RG]/\H.bV B/\jJ H T x st/\Nf T B row p/\Hs'=[H']/\v=.int .i64 (bG st p)/\jJ H' T x (cR st p)/\B.le H'/\∀ o y,H x=some o->∀ G',G' y=some o->(∀ b,b≠x->H'.mem b->G' b=H' b)->GZ G' T y st/\(y=x->jJ G' T x st)
def PU:Nd:=(fun o b i q n=>(fun a c d g h k=>(fun p=>(fun f l=>(fun j m=>(.ext (.alloc 136) (.and (.pre k) (.ext k (.and (.imp (.not (.bvar 137)) (.post [.hp 133 [] n [],.ro 134 [] true,.ro 135 q false,.dead] (.sv (.one (.int .i64 o))))) (.imp (.bvar 137) (.and (.e (.le i b)) (.and (.e (.le i a)) (.and (.e (.lt a (.lit 6))) (.and (.e (.his 133 b a 0 .slice)) (.and (.pre m) (.ext m (.and (.pre d) (.ext d (.and (.imp (.not (.eq (.var 142) i)) (.post g (.sv (.one (.int .i64 (.var 142)))))) (.imp (.eq (.var 142) i) (.and (.pre h) (.ext h (.and (.imp (.not (.bvar 143)) (.post g (.sv (.one (.int .i64 (.lit 2)))))) (.imp (.bvar 143) (.and (.e (.his 133 b i 0 .slice)) (.and (.e (.le i (.hP 133 b i 0 2))) (.and (.e (.his 133 b o 0 .slice)) (.and (.e (.le i (.hP 133 b o 0 2))) (.and (.e (.his 133 b (.lit 2) 0 .slice)) (.and (.e (.le i (.hP 133 b (.lit 2) 0 2))) (.and (.e (.his 133 b (.lit 3) 0 .slice)) (.and (.e (.le i (.hP 133 b (.lit 3) 0 2))) (.and (.e (.his 133 b (.lit 4) 0 .slice)) (.and (.e (.le i (.hP 133 b (.lit 4) 0 2))) (.and (.e (.his 133 b (.lit 5) 0 .slice)) (.and (.e (.le i (.hP 133 b (.lit 5) 0 2))) (.and (.imp c (.post g (.sv (.one (.int .i64 (.lit 4)))))) (.imp (.not c) (.ext (.alloc 144) (.and (.pre j) (.ext j (.and (.pre l) (.ext l (.post [.hp 147 [145,133] [.var 145,.var 0] [],.ro 134 [] true,.ro 135 q false,.dead,.hp 138 [] [.var 138] [],.dead] (.sv (.one (.int .i64 i))))))))))))))))))))))))))))))))))))))))):Nd)) (.app 145 67 126 256 f p (.hp 133 [] n []) (.cvs (ar 1 Da) 1)) (.call 1 138 [.sv (.one f)] [] [.hp 133 [] n []])) (.sl (.hP 133 b a 0 0) (.hP 133 b a 0 1) p (.hP 133 b a 0 3)) (.put 147 145 b a [.sl (.var 145) i (.add p o) (.var 146)])) (.hP 133 b a 0 2)) (.wrap .i64 (.sub (.var 1) o)) (.le (.lit 400) (.wrap .i64 (.add (.wrap .i64 (.add (.wrap .i64 (.add (.wrap .i64 (.add (.wrap .i64 (.add (.wrap .i64 (.hP 133 b i 0 2)) (.hP 133 b o 0 2))) (.hP 133 b (.lit 2) 0 2))) (.hP 133 b (.lit 3) 0 2))) (.hP 133 b (.lit 4) 0 2))) (.hP 133 b (.lit 5) 0 2)))) (.call 2 142 [.sv (.one (.int .i64 (.var 1))),.sv (.one (.sl (.var 138) (.var 139) (.var 140) (.var 141))),.sv (.agg (ar 1 cy))] [] [.hp 138 [] [.var 138] [],.hp 133 [] n [],.ro 134 [] true,.ro 135 q false]) [.hp 133 [] n [],.ro 134 [] true,.ro 135 q false,.dead,.hp 138 [] [.var 138] []] (.call 3 143 [.sv (.agg (ar 1 Da))] [] [.hp 133 [] n [],.ro 134 [] true,.ro 135 q false]) (.call 0 137 [.sv (.agg (ar 1 cy))] [] [.hp 133 [] n [],.ro 134 [] true])) (.lit 1) (.var 0) (.lit 0) [.lit 3] [.var 0]
noncomputable def Ys:List Sx.Spec:=[M4 (ie 65) [6000000,6000001],lV,M4 Ge [1,6000000,6000001,2000003],M4 yn [6000000,6000001,2000003]]
def Vr:∀ t∈Ys,t.OK Tryz.prog:=av (we vI) <| av uH <| av (we Pu) <| av (we IY) <| bW
def Z3:(M4 (ie 65) [6000000,6000001]).res=[.one .bool]:=rfl
def Z4:lV.res=[.one .sl]:=rfl
def Z5:(M4 Ge [1,6000000,6000001,2000003]).res=[.one (.int .i64)]:=rfl
def Z6:(M4 yn [6000000,6000001,2000003]).res=[.one .bool]:=rfl
noncomputable def Gs:aG Tryz.prog Ys 29 where
 Λ:=aC
 args:=TP (.var 0) (.lit 0)::(cA 1 [.agg Da]).map .sv
 mem:=[.hp 133 [] [.var 0] [],.ro 134 [] true,.ro 135 [.lit 3] false]
 nv:=136
open Classical in
set_option maxRecDepth 20000 in
def PV (rt:Nat):(Cm rt).OK Tryz.prog:=by
 refine Spec.aV (Γ:=Ys) Vr ?_;rintro xs Hs Rs aD aE ⟨x,H,B,row,T,RG,st,p,rfl,rfl,rfl,s,hI,hS,aj,hx,hlen,F⟩;obtain⟨J,va,rfl,hh,R⟩:=DI (a:=(x:Int)) [(133,H.un B),(134,T),(135,RG)] hx.1;have w1:J.h 133=H.un B:=hh 133;have w2:J.h 134=T:=hh 134;have w3:J.h 135=RG:=hh 135;refine⟨Gs,J,fun _ _=>True,fun _ _=>0,?_,⟨?_,?_,?_,?_⟩,(fun _ h=>nomatch h),?_⟩
 .show [Value.pointer (az (J.i 0) 0),.agg ((ar 1 jU).map (CV.ev J)).toArray]=_;rw[va,au ah];rfl
 .intro r hr ho;simp [Gs]at hr;rcases hr with rfl | rfl | rfl
  .exact⟨H.un B,aF,by show(J.h 133).le _;rw[w1];exact Hl.le_refl _⟩
  all_goals cases ho
 .intro r hr ho;simp [Gs]at hr;rcases hr with rfl | rfl | rfl
  .cases ho
  .exact⟨T,aF,by show(J.h 134).le T;rw[w2];exact Hl.le_refl _⟩
  .exact⟨RG,aF,by show(J.h 135).le RG;rw[w3];exact Hl.le_refl _⟩
 .simp [Gs,bL.own]
 .intro r hr;simp [Gs]at hr;rcases hr with rfl | rfl | rfl<;>trivial
 refine aG.lit (x:=PU) ?_;unfold PU;simp only[go_sem,Nat.reduceAdd,Ys,Z3,Z4,Z5,Z6,KI];generalize w:(ar 1 jU).map (CV.ev J)=row at *;have S:(ar 1 cy).map (CV.ev J)=row.take 125:=by rw[<-w,rD]
 have V:∀ q:Env,ai 136 J q->q.i 0=x/\q.h 133=H.un B/\q.h 134=T/\q.h 135=RG/\(ar 1 cy).map (CV.ev q)=row.take 125/\(ar 1 Da).map (CV.ev q)=row/\q.i 1=J.i 1:=fun q g=>by
  refine⟨by rw[g.i 0,va],by rw[g.h 133,w1],by rw[g.h 134,w2],by rw[g.h 135,w3],?_,?_,g.i 1⟩
  .rw[<-S];exact aa1 Array.toList (Value.agg.inj (gn (ks:=cy) (n:=1) g aA))
  .rw[<-w];exact aa1 Array.toList (Value.agg.inj (gn (ks:=jU) (n:=1) g aA))
 have lB:B.le (H.un B):=Hl.bK s;have hU:∀ {U:Hl},T.le U->(H.un B).le U->gY U U row p:=fun a b=>hx.2 _ a fun k o hb=>b k o (lB k o hb);have A:row=row.take 125++[row.getD 125 DB]:=kOw hx.1;obtain⟨sv,KB,v⟩:=id hI;have d:Qx (H.un B) T x st sv KB:=v.mono (Hl.bm _ _);have m:∀ {q:Env} {t:Mem} {e:E},q.h 133=H.un B->aB q e=bG st p->bG st p≠0->postOf (Cm rt) [.pointer (some ⟨x,0,none⟩),.agg row.toArray] [H.un B] [T,RG] q (.hp 133 [] [.var 0] []::t) (.sv (.one (.int .i64 e))):=by
  intro q t e h1 h2 h3 _;refine⟨[[0]],[],rfl,rfl,⟨(bf fun _=>aB q e),rfl,zzT,zzT⟩,x,H,B,_,T,RG,st,p,_,rfl,rfl,rfl,s,hI,hx,rfl,by rw[<-h2];rfl,?_,?_,?_⟩
  .unfold cR;rw[aaG h3];show jJ (di [q.h 133]) _ _ _;rw[aN,h1];exact⟨sv,KB,d⟩
  .show B.le (di [q.h 133]);rw[aN,h1];exact Hl.bK s
  .intro o y ho G' K f;have f:∀ b,b≠x->(di [q.h 133]).mem b->G' b=(di [q.h 133]) b:=f;rw[aN,h1]at f;have hw:=v.view (G':=G') (y:=y) (i:=0) ah (fun _ h=>aP.mono (Hl.bm _ _) h) (fun b hb _=>by obtain⟨o',W⟩:=abw.1 hb;rw[Hl.tB W,W]) (by rw[K,<-ho,v.bj]) f;exact⟨⟨sv,KB,hw⟩,fun e=>⟨sv,KB,e▸hw,v.kbx,v.own,v.form⟩⟩
 intro q1 g1 p1;obtain⟨v0,x1,x2,x3,xr,aH,_⟩:=V q1 g1;rw[xr,x1,x2];refine⟨fun U u=>⟨_,U,p.h,rfl,rfl,(hU (u _ aF) (u _ aF)).hd⟩,fun q2 g2 ⟨F2,⟨U,u,ak⟩,_⟩=>?_⟩;have X:=hU (u T aF) (u _ aF);have hd:=X.hd;have L:cI p.h.c 0=J.i 1:=by
  have e1:cI p.h.c 0=cI (row.take 125) 0:=hd.I aA;rw[e1,<-S];rfl
 have G2:ai 136 J q2:=g1.tr g2;have Y:q2.b 137=decide p.h.Form:=Value.bool.inj (mg hd ak);obtain⟨y0,y1,y2,y3,yr,aI,y5⟩:=V q2 G2;refine⟨fun hb=>?_,fun hb=>?_⟩
 .have Z:¬p.h.Form:=by rw[Y]at hb;simpa using hb
  have e:bG st p=1:=by unfold bG;rw[aaR Z]
  exact m y1 e.symm (by rw[e];decide)
 have Z:p.h.Form:=by rw[Y]at hb;simpa using hb
 have D:¬¬p.h.Form:=fun g=>g Z;have hw:=zo Z;have M:IntKind.i64.wrap (J.i 1-1)=((cI p.h.c 0-1).toNat:Nat):=by rw[L,IntKind.wrap_i64];rw[L]at hw;omega
 generalize hi:(cI p.h.c 0-1).toNat=i at *;have l:i<6:=ah;have al:J.i 1=cI p.h.c 0:=L.symm;obtain⟨c1,aa,cl,cs⟩:=d.sl l;have N:(H.un B).cell ((x:Int)).toNat (Int.toNat ((i:Nat):Int))=some (sv i):=by rw[aar,aar];exact c1
 obtain⟨rows,ho,ab,an⟩:=d.row i l;have aJ:=aj i l;rw[y0,y1,y5,M,N,iN aa];refine⟨ah,ah,ah,cs,⟨_,_,rows,rfl,rfl,ho.rd,ah⟩,fun q3 g3 ⟨F3,ao,aq,aK⟩=>?_⟩;have O:=ao _ _ _ rfl rfl ho.rd;rw[<-aq zzT]at O;have G:∀ {U:Hl},T.le U->(H.un B).le U->gV U (rows.map (List.take 125)) (mE st i):=fun {U} a b=>by
  refine⟨by unfold mE;rw[aaT,aaT,ab],fun j r h hr hh=>?_⟩;unfold mE at hh;rw[aaL]at hr hh;obtain⟨r0,wM,rfl⟩:=aaI.1 hr;obtain⟨p0,P,rfl⟩:=aaI.1 hh;exact((an j r0 p0 wM P).2 U a fun k o hb=>b k o (d.kb k o hb)).hd
 have av:∀ g∈mE st i,g.Form:=fun g hg=>by
  obtain⟨p0,P,rfl⟩:=abb.1 hg;exact v.form i l p0 P
 have G3:ai 136 J q3:=G2.tr g3;obtain⟨z0,z1,z2,z3,zr,aL,z5⟩:=V q3 G3;rw[zr,z1,z2,z3,z5];have aw:(rows.map (List.take 125)).length<=100000:=by rw[aaT];omega
 refine⟨fun U u=>⟨_,_,_,U,U,U,U,_,_,p.h,rfl,rfl,il O (u _ aF),G (u T aF) (u _ aF),av,(hU (u T aF) (u _ aF)).hd,aw,F.mono (u _ aF)⟩,fun q4 g4 ⟨F4,⟨U4,u4,ax⟩,_⟩=>?_⟩;have C:q4.i 142=gQ (cI p.h.c 0) (mE st i) p.h:=by
  have:=ax _ _ _ U4 U4 U4 U4 _ _ _ rfl rfl (il O (u4 _ aF)) (G (u4 T aF) (u4 _ aF)) (hU (u4 T aF) (u4 _ aF)).hd;rw[al]at this;simpa using this
 have G4:ai 136 J q4:=G3.tr g4;obtain⟨u0,u1,u2,u3,ur,ay,u5⟩:=V q4 G4;refine⟨fun ad=>?_,fun heq=>?_⟩
 .have e:bG st p=q4.i 142:=by unfold bG;rw[aaG D,hi,aaR (by rw[<-C];exact ad)];exact C.symm
  exact m u1 e.symm (by rw[e];exact ad)
 have h0:¬gQ (cI p.h.c 0) (mE st i) p.h≠0:=fun g=>g (C.symm.trans heq);rw[ay,u1,u2,u3];refine⟨fun U u=>⟨row.take 125,row.getD 125 DB,p.b,U,U,by rw[<-A],rfl,hd.ok,(hU (u T aF) (u _ aF)).body,X.byte,hlen,F.mono (u _ aF)⟩,fun q5 g5 ⟨F5,⟨U5,u5,Q⟩,_⟩=>?_⟩;have Q:=Q (row.take 125) (row.getD 125 DB) p.b U5 U5 (by rw[<-A]) rfl (hU (u5 T aF) (u5 _ aF)).body;have ae:q5.b 143=fJ p.h.c p.b:=by rw[<-Ba hd];exact Value.bool.inj Q
 have G5:ai 136 J q5:=G4.tr g5;obtain⟨k0,k1,k2,k3,kr,aM,k5⟩:=V q5 G5;refine⟨fun hb=>?_,fun hb=>?_⟩
 .have e:bG st p=2:=by unfold bG;rw[aaG D,hi,aaG h0,aaR (by rw[<-ae];simpa using hb)]
  exact m k1 e.symm (by rw[e];decide)
 have af:¬fJ p.h.c p.b=false:=by rw[<-ae,hb];decide
 have c:∀ j:Nat,j<6->(H.un B).cell ((x:Int)).toNat (Int.toNat ((j:Nat):Int))=some (sv j):=fun j hj=>by rw[aar,aar];exact(d.sl hj).1
 have a0:(H.un B).cell ((x:Int)).toNat (Int.toNat 0)=some (sv 0):=c 0 ah;have a1:(H.un B).cell ((x:Int)).toNat (Int.toNat 1)=some (sv 1):=c 1 ah;have a2:(H.un B).cell ((x:Int)).toNat (Int.toNat 2)=some (sv 2):=c 2 ah;have a3:(H.un B).cell ((x:Int)).toNat (Int.toNat 3)=some (sv 3):=c 3 ah;have a4:(H.un B).cell ((x:Int)).toNat (Int.toNat 4)=some (sv 4):=c 4 ah;have a5:(H.un B).cell ((x:Int)).toNat (Int.toNat 5)=some (sv 5):=c 5 ah;obtain⟨_,_,l0,s0⟩:=d.sl (i:=0) ah;obtain⟨_,_,l1,s1⟩:=d.sl (i:=1) ah;obtain⟨_,_,l2,s2⟩:=d.sl (i:=2) ah;obtain⟨_,_,l3,s3⟩:=d.sl (i:=3) ah;obtain⟨_,_,l4,s4⟩:=d.sl (i:=4) ah;obtain⟨_,_,l5,s5⟩:=d.sl (i:=5) ah;rw[k0,k1,a0,a1,a2,a3,a4,a5,l0,l1,l2,l3,l4,l5,EM hS];refine⟨s0,ah,s1,ah,s2,ah,s3,ah,s4,ah,s5,ah,fun h4=>?_,fun h4=>?_⟩
 .have e:bG st p=4:=by unfold bG;rw[aaG D,hi,aaG h0,aaG af,aaR h4]
  exact m k1 e.symm (by rw[e];decide)
 have e0:bG st p=0:=by unfold bG;rw[aaG D,hi,aaG h0,aaG af,aaG h4]
 intro q6 g6 p6;have G6:ai 136 J q6:=G5.tr g6;obtain⟨m0,m1,m2,m3,mr,aC,m5⟩:=V q6 G6;have aO:=hS i l;rw[m0,m1,m5,M,N,iN aa,cl,aC,aar];refine⟨⟨⟨rows.flatten,by have:=ho.2;rw[ab]at this;exact this⟩,ah,by unfold maxLen;omega,ah⟩,fun q7 g7 ⟨b1,b2,happ,ag,⟨_,hold⟩,R⟩=>?_⟩;have G7:ai 136 J q7:=G6.tr g7;obtain⟨n0,n1,n2,n3,nr,aQ,n5⟩:=V q7 G7;obtain⟨kx,kD⟩:=v.put l s hx Z b1 rfl happ ag R;have en:(((st i).length:Int)+1).toNat=(st i).length+1:=ah;rw[n0,n1,n5,M,N,cl,en,aar,aar];refine⟨⟨ah,ah,jI kx (by show i+1<=6;omega)⟩,fun q8 g8 p8 _=>?_⟩;refine⟨[[0]],[],rfl,rfl,⟨(bf fun _=>0),rfl,zzT,zzT⟩,x,H,B,_,T,RG,st,p,_,rfl,rfl,rfl,s,hI,hx,rfl,by rw[e0];rfl,?_,?_,?_⟩
 .unfold cR;rw[aaR e0,hi];show jJ (di [q8.h 147]) _ _ _;rw[aN,p8];exact⟨_,_,kD⟩
 .show B.le (di [q8.h 147]);rw[aN,p8];exact fun b o hb=>kD.kb b o (Hl.bK (fun b ⟨y,z⟩=>s b ⟨Hl.fv v.kb y,z⟩) b o hb)
 .intro o y ho G' K f;have f:∀ b,b≠x->(di [q8.h 147]).mem b->G' b=(di [q8.h 147]) b:=f;rw[p8,aN]at f;have hw:=d.view (G':=G') (y:=y) l hold ag (by rw[K,<-ho,v.bj]) fun b hb hm=>by
   rw[f b hb (Hl.iA.2 hm)];exact Hl.pj hb
  exact⟨⟨sv,KB,hw⟩,fun e=>⟨sv,KB,e▸hw,v.kbx,v.own,v.form⟩⟩
open Go.Proofs.YtomdimlnggpgbaaGreatDoor.D hiding aL aC fP
def rI:Sx.Spec where
 fn:=34
 own:=[]
 rd:=[0]
 res:=[.one .bool]
 pre:=fun xs Hs Rs=>∃ pr x R T st st2,xs=[pr,.pointer (some ⟨x,0,none⟩)]/\Rs=[R]/\lY R pr st/\GZ R T x st2/\T.le R/\(mK st/\mK st2)/\Good st/\∀ i,i<6->st i=st2 i\/(st i).length≠(st2 i).length
 post:=fun xs Hs Rs v Hs' F=>∃ pr x R T st st2,xs=[pr,.pointer (some ⟨x,0,none⟩)]/\Rs=[R]/\lY R pr st/\GZ R T x st2/\T.le R/\(v=.bool true/\(∀ i,i<6->st i=st2 i)\/v=.bool false/\∃ i,i<6/\(st i).length≠(st2 i).length)
def sP (k:Nat):E:=.hP 2 (.var 1) (.var 50) 0 k
def sO:E:=.ite (.eq (sP 3) (.var 70)) (sP 1) (.add (sP 1) (.mul (.var 70) (.lit 126)))
def sQ (k:Nat):E:=.hP 2 (sP 0) (.add sO (.lit 125)) 0 k
noncomputable def Yu:List Sx.Spec:=[xZ,ri,yj,Fl,gl 71]
def Vw:∀ t∈Yu,t.OK Tryz.prog:=av H6 <| av zA <| av IS <| av Ot <| av An <| bW
def aac:xZ.res=[.agg (List.replicate 6 (Ck.int .u64))]:=rfl
def aad:ri.res=[.one (.int .i64)]:=rfl
def aae:yj.res=[.one (.int .i64)]:=rfl
def aaf:Fl.res=[.agg jU,.one (.int .i64)]:=rfl
set_option maxRecDepth 20000 in
def aab:(aK 0 [Cp.agg jU,Cp.one (.int .i64)]≠[])=True:=eq_true aA
noncomputable def KO:aG Tryz.prog Yu rI.fn where
 Λ:=fun p=>if lp p&&p.head?==some 34 then(if p.length>12 then some ⟨1,[(7,TI .i64 (.var 70))],[],80⟩else some ⟨0,[(6,TI .i64 (.var 50))],[],60⟩)else none
 args:=[TP (.var 0) (.lit 0),TP (.var 1) (.lit 0)]
 mem:=[.ro 2 [] true]
 nv:=3
set_option maxRecDepth 20000 in
def IZ:rI.OK Tryz.prog:=by
 refine Spec.aV (Γ:=Yu) Vw ?_;rintro xs Hs Rs aN bc ⟨pr,x,R,T,st,st2,rfl,rfl,O,P,ab,⟨hS,ad⟩,hG,Q⟩;have e0:Hs=[]:=aaz.1 aN;subst e0;obtain⟨r,ps,y,rfl,aO,v⟩:=id O;obtain⟨sv,KB,hD⟩:=id P;refine⟨KO,aL [(r:Int),x] false [Hl.none,Hl.none,R],fun j q=>if j=0 then ∃ k:Nat,q.i 50=k/\k<=6/\∀ i,i<k->st i=st2 i else ∃ k:Nat,q.i 70=k,fun j q=>if j=0 then(6-q.i 50).toNat else(1000000-q.i 70).toNat,?_,dw (by intro r hr;simp [KO]at hr;subst hr;exact⟨_,_,_,rfl⟩) rfl,(fun _ h=>nomatch h),?_⟩
 .show [Value.pointer (az (r:Int) 0),.pointer (az (x:Int) 0)]=_;rw[au ah,au ah];rfl
 refine aG.read [cy] [fu] [] ?_;generalize ae:aL [(r:Int),x] false [Hl.none,Hl.none,R]=J;have V:∀ q:Env,ai 3 J q->q.i 0=r/\q.i 1=x/\q.h 2=R:=fun q g=>by
  rw[g.i 0,g.i 1,g.h 2,<-ae];exact⟨rfl,rfl,rfl⟩
 clear ae;have cr:R.cell ((r:Int)).toNat (Int.toNat 1)=some (.pointer (some ⟨y,0,none⟩)):=by
  rw[aar];unfold Hl.cell;rw[aO];rfl
 have rt:∀ {q:Env} {mem:Mem} {e:E},(bh q e=true/\(∀ i,i<6->st i=st2 i)\/bh q e=false/\∃ i,i<6/\(st i).length≠(st2 i).length)->postOf rI [.pointer (some ⟨r,0,none⟩),.pointer (some ⟨x,0,none⟩)] [] [R] q mem (.sv (.one (.bool e))):=fun h=>nQ rfl rfl fun F=>⟨_,x,R,T,st,st2,rfl,rfl,O,P,ab,h.imp (fun h=>⟨aa1 Value.bool h.1,h.2⟩) (fun h=>⟨aa1 Value.bool h.1,h.2⟩)⟩;simp only[go_sem,Nat.reduceAdd,Yu,aac,aad,aae,aaf,hr5,aab,KI,sP,sO,sQ,ab6,Nat.one_ne_zero,aca];intro q1 g1 _;obtain⟨v0,v1,w2⟩:=V q1 g1;rw[v0,w2,cr,jk];refine⟨ah,rfl,⟨y,R,st,rfl,rfl,v,hS⟩,fun q2 g2 ⟨F2,z,_⟩ q3 g3 _=>⟨⟨0,rfl,ah,fun i hi=>ah⟩,fun C g4 ⟨k,ek,hk,af⟩=>?_⟩⟩;have ag:ai 10 q2 C:=ai.trans (n:=10) g3 g4.mono;have A4:ai 3 J C:=g1.trans (g2.mono.tr ag);have z:=aa5 (Value.agg.inj (z _ _ _ rfl rfl v hS));have hh:∀ i:Nat,i<6->(if((i:Nat):Int)=0 then C.i 4 else if((i:Nat):Int)=1 then C.i 5 else if((i:Nat):Int)=2 then C.i 6 else if((i:Nat):Int)=3 then C.i 7 else if((i:Nat):Int)=4 then C.i 8 else C.i 9)=(st i).length:=by
  have A:=ag;have z:([.int .u64 (q2.i 4),.int .u64 (q2.i 5),.int .u64 (q2.i 6),.int .u64 (q2.i 7),.int .u64 (q2.i 8),.int .u64 (q2.i 9)]:List Value)=HZ st:=z;simp only[HZ,aaC,Value.int.injEq,abk,aaP]at z;obtain⟨m0,m1,m2,m3,m4,m5⟩:=z;rw[A.i 4,A.i 5,A.i 6,A.i 7,A.i 8,A.i 9,m0,m1,m2,m3,m4,m5];intro i hi;have:i=0\/i=1\/i=2\/i=3\/i=4\/i=5:=ah;rcases this with rfl | rfl | rfl | rfl | rfl | rfl<;>rfl
 refine⟨fun bf=>?_,fun bg=>?_⟩
 .have s:k<6:=ah;obtain⟨c1,bj,cl,cs⟩:=hD.sl s;have c:R.cell ((x:Int)).toNat ((k:Int)).toNat=some (sv k):=by rw[aar,aar];exact c1
  have cq:∀ q:Env,ai 3 J q->q.i 50=k->(q.h 2).cell (q.i 1).toNat (q.i 50).toNat=some (sv k):=fun q g h=>by
   obtain⟨_,e1,e2⟩:=V q g;rw[e1,e2,h];exact c
  have bk:=hS k s;have bb:=ad k s;rw[cq C A4 ek,cl,ek,hh k s];have wl:IntKind.u64.wrap ((st2 k).length:Int)=(st2 k).length:=by rw[IntKind.wrap_u64];omega
  rw[wl];refine⟨ah,by rw[(V C A4).2.1];omega,cs,ah,fun l=>rt (Or.inr ⟨rfl,k,s,fun e=>l (aa1 _ e)⟩),fun heq=>?_⟩;have eK:st k=st2 k:=(Q k s).resolve_right fun h=>h (Int.ofNat.inj heq);rw[<-eK]at cl;refine⟨⟨0,rfl⟩,fun L g5 ⟨j,ej⟩=>⟨fun hj=>?_,fun hj=>?_⟩⟩
  rotate_left
  .refine⟨⟨k+1,?_,ah,fun i hi=>(abn i k).elim (af i) fun h=>by rw[show i=k by omega];exact eK⟩,?_⟩
   .show IntKind.i64.wrap (L.i 50+1)=_;rw[g5.i 50,ek,IntKind.wrap_i64];omega
   .show(6-IntKind.i64.wrap (L.i 50+1)).toNat<(6-(k:Int)).toNat;have w1:IntKind.i64.wrap ((k:Int)+1)=((k+1:Nat):Int):=by rw[IntKind.wrap_i64];omega
    rw[g5.i 50,ek,w1];omega
  have A5:ai 3 J L:=A4.tr g5;have aj:L.i 50=k:=by rw[g5.i 50,ek]
  rw[cq L A5 aj,cl,ej]at hj;have bl:j<(st k).length:=ah;intro q6 g6 p6;have A6:ai 3 J q6:=A5.tr g6;have an:q6.i 50=k:=by rw[g6.i 50,aj]
  have ao:q6.i 70=j:=by rw[g6.i 70,ej]
  obtain⟨u0,u1,u2⟩:=V q6 A6;have w1:IntKind.i64.wrap ((k:Int)+1)=((k+1:Nat):Int):=by rw[IntKind.wrap_i64];omega
  have D:IntKind.i64.wrap ((j:Int)+1)=((j+1:Nat):Int):=by rw[IntKind.wrap_i64];omega
  have w3:IntKind.u64.wrap (((j+1:Nat):Int))=((j+1:Nat):Int):=by rw[IntKind.wrap_u64];omega
  rw[u0,u2,cr,jk,an,ao,w1,D,w3];refine⟨⟨y,R,st,_,_,rfl,rfl,v,hS,hG,ah,ah⟩,fun q7 g7 ⟨F7,⟨x',R',st',n',s',f1,f2,h',G⟩,aP,aQ⟩ q8 g8 p8=>?_⟩;simp only[aaC,aaP,Value.pointer.injEq,aaF,Addr.mk.injEq,Value.int.injEq,abk]at f1 f2;obtain⟨rfl,rfl,rfl⟩:=f1;subst f2;have aR:(((k+1:Nat):Int)-1).toNat=k:=ah;have aS:(((j+1:Nat):Int)-1).toNat=j:=ah;rw[aR,aS,<-v.st h' s]at G;rcases G with ⟨_,_,row',p',aT,ev,M⟩ | ⟨aU,_⟩
  rotate_left
  .exact absurd ⟨⟨ah,ah⟩,ah,ah⟩ aU
  simp only[Value.tuple.injEq,abh,aaC,Value.int.injEq,Value.agg.injEq,abk,aaP]at ev;obtain⟨er,ev⟩:=ev;have aq:q8.i 213=0:=(g8.i 213).trans ev;rw[<-aP zzT]at M;refine⟨fun l=>absurd aq l,fun _=>?_⟩;obtain⟨rows,ho,S,aW⟩:=hD.row k s;rw[<-eK]at S;obtain⟨row,hr⟩:∃ row,rows[j]?=some row:=⟨_,aax ah⟩;have hP:=(aW j row p' hr (eK▸aT)).2 R ab hD.kb;obtain⟨g,cap,cur,hv,hg,hle,_,_,_⟩:∃ g cap cur,sv k=.slice (some ⟨g,0,none⟩) rows.length cap/\R g=some (.cells cur 67 (0,0))/\rows.length<=cap/\cap<=maxLen/\cur.size=cap*rE.length/\cur.toList.take (rows.length*rE.length)=rows.flatten:=by
   rcases ho.2.2 with ⟨_,hn⟩ | h
   .omega
   .exact h
  have H:∀ jj u,row[jj]?=some u->R.cell g (j*126+jj)=some u:=by
   obtain⟨x1,y1,aX,he,bm,U⟩:=ho.rd;rw[hv]at he;rcases U with h | ⟨aZ,U⟩
   .rw[h]at S;simp at S;omega
   .have hh:=(U j row hr).2;simp only[Value.slice.injEq]at he;have e1:=he.1;rw[au aZ]at e1;simp only[aaF,Addr.mk.injEq,aaP]at e1;obtain⟨e1,e2⟩:=e1;intro jj u hu;have:=hh jj u hu;rw[m8,<-e1,<-e2,aa6]at this;exact this
  have k0:bw (some (sv k)) 0=(g:Int):=by rw[hv];rfl
  have k1:bw (some (sv k)) 1=0:=by rw[hv];rfl
  have k3:bw (some (sv k)) 3=(cap:Int):=by rw[hv];rfl
  have A8:ai 3 J q8:=A6.trans (g7.mono.tr g8);have av:q8.i 50=k:=by rw[g8.i 50,g7.i 50,an]
  have aw:q8.i 70=j:=by rw[g8.i 70,g7.i 70,ao]
  rw[cq q8 A8 av,k0,k1,k3,aw,D];refine⟨ah,ah,ah,ah,ah,fun B g9 p9=>?_⟩;have A9:ai 3 J B:=A8.tr g9;have ax:B.i 50=k:=by rw[g9.i 50,av]
  have ay:B.i 70=j:=by rw[g9.i 70,aw]
  have nc:¬((cap:Nat):Int)=j:=ah;have W:=gx hP.ok;rw[m8]at W;have I:row[125]?=some row[125]:=aax ah;have X:fL R (row[125]) p'.b:=by
   have:=hP.body;rw[aaD,I]at this;exact this
  have Y:R.cell ((g:Int)).toNat (0+(j:Int)*126+125).toNat=some row[125]:=by
   rw[aar,show(0+(j:Int)*126+125).toNat=j*126+125 by omega];exact H 125 _ I
  obtain⟨t1,t2,t3,t4⟩:=Mt X;have eb:row'.getD 125 DB=.slice (az (q7.i 209) (q7.i 210)) (q7.i 211).toNat (q7.i 212).toNat:=by
   rw[<-er,yg]
  have Z:=M.body;rw[eb]at Z;have n7:0<=q7.i 210/\0<=q7.i 211:=by
   obtain⟨x1,y1,aX,he,_⟩:=id Z;have hh:cW 81 jU q7:=aQ.1;have e:jU=cy++([Ck.sl]:List Ck):=rfl;have sp:∀ (a b:List Ck) (n:Nat),cW n (a++b) q7->cW (n+bd a) b q7:=by
    intro a
    induction a with
    | nil=>intro b n h;simpa [bd] using h
    | cons k a ih=>intro b n h;have:=ih b _ h.2;rw[show n+k.len+bd a=n+bd (k::a)by simp [bd];omega]at this;exact this
   rw[e]at hh;obtain⟨_,n2,n3,_⟩:=(sp _ _ _ hh).1;exact⟨n2,n3⟩
  have o:ai 214 q7 B:=g8.tr g9;have a6:fL (B.h 81) (.slice (az (B.i 209) (B.i 210)) (B.i 211).toNat (B.i 212).toNat) p'.b:=by
   rw[o.h 81,o.i 209,o.i 210,o.i 211,o.i 212];exact Z
  have x9:=mq a6 (by rw[o.i 210];exact n7.1) (by rw[o.i 211];exact n7.2);obtain⟨_,_,o2⟩:=V B A9;rw[cq B A9 ax,k0,k1,k3,ay,D,aaG nc,o2,Y,x9.2,t4];refine⟨ah,fun l=>absurd ah l,fun _=>⟨x9.1,ah,ah,ah,t1,t3,fun l=>absurd rfl l,fun _=>?_⟩⟩;have t:=jV (n:=125) hP.ok;rw[Aj]at t;have aB:∀ i u,(row.take 125)[i]?=some u->R.cell ((g:Int)).toNat ((0+(j:Int)*126).toNat+i)=some u:=fun i u hu=>by
   rw[abf]at hu;split at hu
   .rw[aar,show(0+(j:Int)*126).toNat=j*126 by omega];exact H i u hu
   .cases hu
  have ra:(ar 81 cy).map (CV.ev B)=row'.take 125:=by
   rw[<-er,rD];exact aa1 Array.toList (Value.agg.inj (gn (ks:=cy) (n:=81) (m:=214) o aA))
  rw[ra,o.h 81];refine⟨my _ t aB,⟨_,q7.h 81,p'.h,rfl,rfl,M.hd⟩,fun f aa ⟨bn,aC,aD,aE⟩=>?_⟩;have B1:=oN M.hd aC;rw[<-aD zzT]at B1;have n10:-1<=f.i 216/\0<=f.i 217/\0<=f.i 218/\0<=f.i 219:=aE.1;have aF:ai 3 J f:=A9.tr aa;have aH:f.i 50=k:=by rw[aa.i 50,ax]
  have K:f.i 70=j:=by rw[aa.i 70,ay]
  obtain⟨_,_,aI⟩:=V f aF;have rb:(aY 2 (.hP 2 (.var 1) (.var 50) 0 0) (.ite (.eq (.hP 2 (.var 1) (.var 50) 0 3) (.var 70)) (.hP 2 (.var 1) (.var 50) 0 1) (.add (.hP 2 (.var 1) (.var 50) 0 1) (.mul (.var 70) (.lit 126)))) 0 fu).map (CV.ev f)=row.take 125:=fw _ fu 0 t fun i u hu=>by
   simp only[fG,cO,bQ,cG,al,ak,gM,aa6,abj];rw[cq f aF aH,k0,k1,k3,K,aI,aaG nc];exact aB i u hu
  rw[rb,aI];refine⟨(mq B1.rd.w n10.2.1 n10.2.2.1).1,⟨_,R,p'.h,rfl,rfl,hP.hd⟩,fun d p ⟨bo,aJ,aK,aM⟩=>?_⟩;have B2:=oN (hP.hd) aJ;rw[<-aK zzT]at B2;have n11:-1<=d.i 220/\0<=d.i 221/\0<=d.i 222/\0<=d.i 223:=aM.1;have a7:bZ (d.h 216) 5 (.slice (az (d.i 216) (d.i 217)) (d.i 218).toNat (d.i 219).toNat) (bE p'.h):=by
   rw[p.h 216,p.i 216,p.i 217,p.i 218,p.i 219];exact B1
  have y1:=mq a7.rd.w (by rw[p.i 217];exact n10.2.1) (by rw[p.i 218];exact n10.2.2.1);have y2:=mq B2.rd.w n11.2.1 n11.2.2.1;rw[y1.2,y2.2];refine⟨y2.1,fun l=>absurd rfl l,fun _=>⟨⟨j+1,?_⟩,?_⟩⟩
  .show IntKind.i64.wrap (d.i 70+1)=_;rw[p.i 70,K,D]
  .show(1000000-IntKind.i64.wrap (d.i 70+1)).toNat<(1000000-L.i 70).toNat;rw[p.i 70,K,D,ej];have key:∀ N:Int,((j+1:Nat):Int)<=N->(N-((j+1:Nat):Int)).toNat<(N-(j:Int)).toNat:=fun N h=>ah;exact key 1000000 ah
 .obtain⟨u0,u1,u2⟩:=V C A4;rw[u0,u2,cr,jk];refine⟨⟨y,R,st,rfl,rfl,v⟩,fun L g5 ⟨F5,a8,_⟩=>?_⟩;have h5:L.i 60=fq st:=by simpa using a8 _ _ _ rfl rfl v
  have A5:ai 3 J L:=A4.tr g5;obtain⟨m0,m1,m2⟩:=V L A5;have ep:Value.pointer (az (x:Int) 0)=.pointer (some ⟨x,0,none⟩):=by rw[au ah];rfl
  rw[m1,m2,ep];refine⟨⟨x,R,T,st2,rfl,rfl,P,ad⟩,fun q6 g6 ⟨F6,⟨x',R',T',st',f1,f2,h',hv⟩,_⟩=>?_⟩;simp only[aaC,aaP,Value.pointer.injEq,aaF,Addr.mk.injEq]at f1 f2;subst f1 f2;obtain⟨bp,bq,ba⟩:=h';have hall:∀ i,i<6->st i=st2 i:=fun i hi=>af i ah;have el:∀ i,i<6->(st i).length=(st' i).length:=fun i hi=>by
   obtain⟨a1,_,a2,_⟩:=hD.sl hi;obtain⟨b1,_,b2,_⟩:=ba.sl hi;rw[a1]at b1;rw[<-abp b1,a2,<-hall i hi]at b2;omega
  have ec:fq st'=fq st:=by
   unfold fq;rw[el 0 ah,el 1 ah,el 2 ah,el 3 ah,el 4 ah,el 5 ah]
  have h6:q6.i 61=fq st:=by rw[<-ec];simpa using hv
  refine rt (Or.inl ⟨?_,hall⟩);rw[gM,al,al,g6.i 60,h5,h6]
end Go.Proofs.YtomdimlnggpgbaaGreatDoor
