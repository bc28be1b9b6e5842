/- Bytes that are no request are told nothing and change nothing: a part of the proof. No condition. -/
import Derived.ProofKit
import Derived.OpenShut
import Derived.Deep.Slices
import Derived.ChangeSame
import Derived.LaidMore
import Derived.LaidHandle
import Derived.Stop.Joined
import Derived.Stop.LaidErr
import Derived.LaidSub
import Derived.Lay
import Derived.Test.YtbdikjnpbnobcaaGreatDoorTK
set_option linter.all false
set_option maxHeartbeats 4000000
namespace Go.Proofs.YtbdikjnpbnobcaaGreatDoor
open Go Go.Sx Go.Pk
variable {q:Env}{row:List Value}{c i:Nat}
def tq {ks:List Ck} (n:Nat) (i0:Nat->Int) (a:Nat->Bool) (hs:List (Nat×Hl)) (h:rowOK row (ks.map kdOf)) :
 ∃ q:Env,(ckCVs n ks).map (CV.ev q)=row/\ckNormsW n ks q/\(∀ k,k<n->q.i k=i0 k)/\(∀ k,k<n->q.b k=a k)/\∀ k,q.h k=oI hs k:=by
 obtain⟨q,g,hn,e⟩:=row_rep ks n row ⟨i0,a,fun _=>.empty,fun _=>.tuple #[],fun _=>Hl.none⟩ h;exact⟨⟨q.i,q.b,q.s,q.v,oI hs⟩,by rw[<-BV (oI hs)];exact e,Co _ _ _ hn,fun k hk=>g.i k hk,fun k hk=>g.b k hk,fun _=>rfl⟩
def vS (all:Bool) (T:List (List Int)) (h:Hd):Prop:=cB h.c 35=true\/all=true\/∃ t∈T,t∈h.t
open Classical in
noncomputable def Js (f:FuncId):Sx.Spec where
 fn:=f
 own:=[]
 rd:=[1000001,1001053]
 res:=[.one .bool]
 pre:=fun xs Hs Rs=>∃ (all:Bool) (u:Value) (row:List Value) (a b:Hl) (T:List (List Int)) (h:Hd),xs=[.agg #[.bool all,u],.agg row.toArray]/\Rs=[a,b]/\RdRows a u dg (T.map bys)/\bO T/\aG b row h
 post:=fun xs Hs Rs v Hs' F=>∀ (all:Bool) (u:Value) (row:List Value) (a b:Hl) (T:List (List Int)) (h:Hd),xs=[.agg #[.bool all,u],.agg row.toArray]->Rs=[a,b]->RdRows a u dg (T.map bys)->aG b row h->v=.bool (decide (vS all T h))
noncomputable def Ih:List Sx.Spec:=[xy 195,xy 182]
def Fq:∀ t∈Ih,t.OK Tryz.prog:=ai pX <| ai Fe <| aD
def Mo (f:FuncId):(xy f).res=[.one .bool]:=rfl
noncomputable def KK (f s:Nat):Walk Tryz.prog Ih f where
 Λ:=fun p=>if xF p then some ⟨0,[(s,TI .i64 (.var 200))],[],202⟩else none
 args:=(cpSVs 0 [.agg [.bool,.sl],.agg aI]).map .sv
 mem:=[.ro 150 [.var 1] false,.ro 151 [.var 58] false]
 nv:=152
def DK (T:List (List Int)) (h:Hd):Nat->Env->Prop:=fun _ q=>∃ i:Nat,q.i 200=i/\i<=T.length/\∀ k,k<i->∀ t,T[k]?=some t->t∉h.t
set_option maxRecDepth 20000 in
def zK (h:(ckCVs 5 aI).map (CV.ev q)=row):row.getD 53 (.bool false)=.slice (slP (q.i 58) (q.i 59)) (q.i 60).toNat (q.i 61).toNat/\cB row 35=q.b 40:=by
 subst h;exact⟨rfl,rfl⟩
open Classical in
def Fm {f s:Nat} (h:∀ (J:Env) (C:Ctx) ms (T:List (List Int)) (R d:Hl) (x y:Int) (c:Nat) (all:Bool) (hd:Hd),J.i 1=x->J.i 2=y->J.i 3=T.length->J.h 150=R->J.h 151=d->J.b 0=all->J.b 40=cB hd.c 35->RdRows R (.slice (slP x y) T.length c) dg (T.map bys)->0<=y->bO T ->
 RdRows d (.slice (slP (J.i 58) (J.i 59)) (J.i 60).toNat (J.i 61).toNat) dg (hd.t.map bys)->bO hd.t ->
 (∀ (q:Env) (e:E) (mem:Mem),(bev q e=true↔vS all T hd)->C.post q mem (.sv (.one (.bool e))))->C.Γ=Ih->C.inv=DK T hd->C.mu=(fun(_:Nat) (q:Env)=>((T.length:Int)-q.i 200).toNat)->(KK f s).owes C ms J):(Js f).OK Tryz.prog:=by
 refine Spec.of_fn (Γ:=Ih) Fq ?_;rintro xs Hs Rs m D ⟨all,u,row,R,d,T,hd,rfl,rfl,j,hT,hx⟩;have e0:Hs=[]:=MF.1 m;subst e0;obtain⟨x,y,c,rfl,hy,_⟩:=id j;rw[M7]at j;obtain⟨q,eq,hn,a,v,l⟩:=tq 5 (fun k=>([0,x,y,(T.length:Int),(c:Int)]:List Int).getD k 0) (fun _=>all) [(150,R),(151,d)] hx.ok;obtain⟨n,o⟩:=zK eq;refine⟨KK f s,q,DK T hd,fun _ q=>((T.length:Int)-q.i 200).toNat,?_,bM (by intro r hr;simp [KK]at hr;rcases hr with rfl | rfl<;>exact⟨_,_,_,rfl⟩) (by show [q.h 150,q.h 151]=_;rw[l,l];rfl),(fun _ h=>(nomatch h)),?_⟩
 .rw[M7];show [Value.agg #[.bool (q.b 0),.slice (slP (q.i 1) (q.i 2)) (q.i 3).toNat (q.i 4).toNat],.agg ((ckCVs 5 aI).map (CV.ev q)).toArray]=_;rw[eq,v 0 ae,a 1 ae,a 2 ae,a 3 ae,a 4 ae];show [Value.agg #[.bool all,.slice (slP x y) ((T.length:Int)).toNat ((c:Int)).toNat],.agg row.toArray]=_;rw[MD,MD]
 .have w:=hx.tok;rw[n]at w;refine h q _ _ T R d x y c all hd (a 1 ae) (a 2 ae) (a 3 ae) (l _) (l _) (v 0 ae) ?_ j hy hT w hx.byte (fun q e mem he _=>?_) rfl rfl rfl
  .rw[hx.B (k:=35) aj,o]
  .refine⟨[],[],rfl,rfl,⟨{oN with b:=fun _=>bev q e},rfl,zzT,zzT⟩,fun z H row' R' F I G e1 A g p=>?_⟩;simp only[MH,MZ,Value.agg.injEq,Nc,Value.bool.injEq]at e1 A;obtain⟨⟨rfl,rfl⟩,e1⟩:=e1;obtain⟨rfl,rfl⟩:=A;have e1:row=row':=M4 (by simpa using e1);subst e1;obtain rfl:=hx.uniq p;rw[M7]at g;have:=bm (j.uniq g);subst this;exact gO he
def Ac {R:Hl} {x y:Int} {T:List (List Int)} (d:RdRows R (.slice (slP x y) T.length c) dg (T.map bys)) (hy:0<=y) (hT:bO T) (hi:i<T.length) (f:q.h 150=R) (h1:q.i 1=x) (h2:q.i 2=y) (g:q.i 200=i) :
 0<=x/\cellBytes R x.toNat (y+(i:Int)*16).toNat (Int.toNat 16)=true/\(romCells 150 (.var 1) ((E.var 2).add ((E.var 200).mul (E.lit 16))) 0 (List.replicate 16 (Kd.int .u8))).map (CV.ev q)=bys T[i]/\(T[i]).length=16:=by
 obtain⟨x',y',c',e,b,a⟩:=d;simp only[Value.slice.injEq]at e;rcases a with hn | ⟨hx,j⟩
 .rw[N9]at hn;rw[hn]at hi;cases hi
 obtain⟨rfl,rfl⟩:=jz hx b hy e.1;have hs:T[i]?=some T[i]:=ME hi;have m1:=(hT.2 _ (MG hs)).1;obtain⟨b1,r1⟩:=jC (J:=q) (h:=150) (X:=.var 1) (Y:=(E.var 2).add ((E.var 200).mul (E.lit 16))) hx hy j hs m1 f h1 (by simp only[iev_add,iev_mul,iev_var,iev_lit];rw[h2,g]);exact⟨hx,b1,r1,m1⟩
open Classical in
set_option maxRecDepth 20000 in
def Fp:(Js 152).OK Tryz.prog:=by
 refine Fm (s:=8) fun J C ms T R Q x y c all hd v1 v2 w w0 w1 F m z hy hT B n out o hinv p=>?_;refine Walk.read [aI] [] [] ?_;simp only[go_sem,Nat.reduceAdd,o,hinv,p,Ih,Mo];intro q1 G _ q2 H _;have I:=hT.1;have r:Agree 152 J q2:=G.tr H;rw[r.b 40,m,r.b 0,F];refine⟨fun d=>⟨fun h0=>fun K g3 _=>?_,fun h0=>out _ _ _ ⟨fun _=>Or.inr (Or.inl h0),fun _=>bev_tt _⟩⟩,fun d=>out _ _ _ ⟨fun _=>Or.inl d,fun _=>bev_tt _⟩⟩;have D:Agree 152 J K:=r.tr g3;rw[D.i 3,w];refine⟨ae,⟨0,rfl,ae,fun k hk=>ae⟩,fun q g ⟨i,u,hi,hk⟩=>?_⟩;have A:Agree 152 J q:=D.tr g;rw[A.i 3,w,u,A.i 1,v1,A.i 2,v2,A.h 150,w0];refine⟨fun L=>?_,fun M=>out _ _ _ ⟨fun e=>(by rw[bev_ff]at e;cases e),fun hm=>?_⟩⟩
 .obtain⟨hx,hb,_,m1⟩:=Ac z hy hT (i:=i) ae (q:=q) (by rw[A.h 150,w0]) (by rw[A.i 1,v1]) (by rw[A.i 2,v2]) u;refine⟨hx,hy,ae,hb,fun v g4 _=>?_⟩;have a:Agree 152 J v:=A.tr g4;have E:v.i 200=i:=by rw[g4.i 200,u]
  obtain⟨_,_,er,_⟩:=Ac z hy hT (i:=i) ae (q:=v) (by rw[a.h 150,w0]) (by rw[a.i 1,v1]) (by rw[a.i 2,v2]) E;rw[er,a.i 58,a.i 59,a.i 60,a.i 61,a.h 151,w1];refine⟨⟨_,_,_,_,rfl,rfl,B,n,m1⟩,fun f N ⟨_,p5,_⟩=>?_⟩;have O:f.b 203=decide (T[i]∈hd.t):=Value.bool.inj (p5 _ _ _ _ rfl rfl B);have j:f.i 200=i:=by rw[N.i 200,E]
  rw[O,MI];have hs:T[i]?=some T[i]:=ME ae;refine⟨fun hm=>out _ _ _ ⟨fun _=>Or.inr (Or.inr ⟨_,MG hs,hm⟩),fun _=>by rw[bT_le];show(0:Int)<=f.i 200;omega⟩,fun hm=>⟨⟨i+1,?_,ae,fun k P t l=>?_⟩,?_⟩⟩
  .show IntKind.i64.wrap (f.i 200+1)=_;rw[j,IntWalk.i64_in _ ae];omega
  .rcases ND k i with h1 | h1
   .exact hk k h1 t l
   .obtain rfl:k=i:=ae;rw[hs]at l;cases l;exact hm
  .show((T.length:Int)-IntKind.i64.wrap (f.i 200+1)).toNat<_;rw[j,IntWalk.i64_in _ ae];omega
 .rcases hm with hm | hm | ⟨t,l,hm⟩
  .exact absurd hm d
  .exact absurd hm h0
  .obtain⟨k,aI⟩:=NA l;have:=(MK.1 aI).1;exact absurd hm (hk k ae t aI)
end Go.Proofs.YtbdikjnpbnobcaaGreatDoor
namespace Go.Sx
open Go
end Go.Sx
namespace Go.Proofs.YtbdikjnpbnobcaaGreatDoor
open Go Go.Sx Go.Pk
variable {row:List Value}{cv cv':Nat->Int}{p:Pc}
def iM {w:World} : ∀ {l:List Hl} (_:∀ R∈l,R.sub w) {R:Hl},R∈l->R.le (hls l)
 | A::l,h,R,a=>by
  have hs:(hls l).sub w:=hls_sub fun X hX=>h X (MW _ hX);intro b o hb;show(A.un (hls l)) b=some o;rcases MQ.1 a with rfl | a
  .exact Hl.un_left _ _ b o hb
  .have e:=iM (fun X hX=>h X (MW _ hX)) a b o hb;unfold Hl.un;cases hA:A b with
   | none=>exact e
   | some o' =>
    have h1:=h A (Nh ..) b o' hA;rw[hs b o e]at h1;cases h1;rfl
open Classical in
noncomputable def mQ (all:Bool) (T:List (List Int)) (p:Pc):Pc:=if vS all T p.h then p else⟨p.h,[]⟩
noncomputable def dY (st:Nat->List Pc) (cv:Nat->Int) (all:Bool) (T:List (List Int)) (most:Int):List Pc:=((bo st (dr cv) 401).take (min most 8).toNat).map (mQ all T)
def aV.cut {R1 R2:Hl} (h:aV R1 R2 row p):aV R1 R2 (row.take 125++[.slice none 0 0]) ⟨p.h,[]⟩:=by
 have hl:(row.take 125).length=125:=by
  have:=fg h.ok;rw[fK]at this;rw[M3];omega
 have ho:=gI (n:=125) h.ok;rw[sm]at ho;refine⟨?_,?_,?_,fun _ h=>(nomatch h),NO _⟩
 .have:oK=cj++[Kd.slice]:=rfl;rw[this];exact iV ho rfl
 .rw[OZ hl];exact h.hd
 .have:(row.take 125++[Value.slice none 0 0]).getD 125 cC=.slice none 0 0:=by rw[MR,MX ae,hl];rfl
  rw[this];exact⟨-1,0,0,rfl,MT 0,Or.inl rfl⟩
def yh {X:List Value->Pc->Prop} {rows:List (List Value)} {L:List Pc} (hl:rows.length=L.length) (h:∀ (j:Nat) row p,rows[j]?=some row->L[j]?=some p->X row p) (hx:X row p):∀ (j:Nat) row' a,(rows++[row])[j]?=some row'->(L++[p])[j]?=some a->X row' a:=fun j row' a h1 h2=>by
 rcases ND j rows.length with b | b
 .rw[M5 b]at h1;rw[M5 ae]at h2;exact h j _ _ h1 h2
 .rw[MX b]at h1;rw[MX ae]at h2;have e1:=MG h1;have c:=MG h2;rw[MO]at e1 c;subst e1 c;exact hx
def vk (cv:Nat->Int):Value:=.agg #[.int .u64 (cv 0),.int .u64 (cv 1),.int .u64 (cv 2),.int .u64 (cv 3),.int .u64 (cv 4),.int .u64 (cv 5)]
def lN {α:Type} {st st':Nat->List α} {cur cur':Nat->Nat} (h:∀ i,i<6->st i=st' i) (h2:∀ i,i<6->cur i=cur' i):∀ n,bo st cur n=bo st' cur' n
 | 0=>rfl
 | n+1=>by
  rw[bo,bo,lN h h2 n];have:∀ i,i<=6->bF st cur n i=bF st' cur' n i:=fun i=>by
   induction i with
   | zero=>intro _;rfl
   | succ i ih=>intro hi;rw[bZ,bZ,ih ae,h i ae,h2 i ae]
  rw[this 6 ae]
def jE {st st':Nat->List Pc} (h:∀ i,i<6->st i=st' i) (h2:∀ i,i<6->cv i=cv' i) (all:Bool) (T:List (List Int)) (most:Int):dY st cv all T most=dY st' cv' all T most:=by
 unfold dY;rw[lN (cur':=dr cv') h (fun i hi=>by unfold dr;rw[h2 i hi])]
def vl (h:vk cv=vk cv'):∀ i,i<6->cv i=cv' i:=by
 simp only[vk,Value.agg.injEq,Nc,MH,Value.int.injEq,Nz,MZ]at h;obtain⟨h0,h1,h2,a,b,c⟩:=h;intro i hi;have:i=0\/i=1\/i=2\/i=3\/i=4\/i=5:=ae;rcases this with rfl | rfl | rfl | rfl | rfl | rfl<;>assumption
def KL (f:FuncId):(Js f).res=[.one .bool]:=rfl
open RowKit
variable {a:Act}{A F G H K KB R:Hl}{c most z:Int}{Hs Hs':List Hl}{L:List Pc}{row:List Value}{b b6 b7 dn i k n r uc ul x:Nat}{cv:Nat->Int}{st:Nat->List Pc}{o o':Obj}{ro:Option Nat}{p:Pc}{u:Value}{w:World}
def Hr:Code->Code
 | .rangeFunc _ _ x _=>x
 | c=>c
def Jd:Code->Code
 | .rangeFunc _ _ _ y=>y
 | c=>c
noncomputable def yP:Code:=match Tryz.f106.body with
 | some c=>c
 | none=>.skip
noncomputable def BO:Code:=fc (cA (fc (cA (cA yP))))
def ot (l:List (Nat×TV)):List (Option TV):=(List.range 31).map fun i=>(l.find? fun p=>p.1==i).map (·.2)
noncomputable def g0:bw Tryz.prog [] where
 cs:=[fc yP,fc (cA yP),fc (fc (cA (cA yP)))]
 st:=⟨ot [(0,TP (.var 0) (.lit 0)),(1,.sv (.agg (ckCVs 1 (List.replicate 6 (.int .u64))))),(2,.sv (.agg (ckCVs 7 [.bool,.sl]))),(3,TI .i64 (.var 12))],[],14,[]⟩
 outs:=fun _=>[5,6,7,9,13]
noncomputable def g3:bw Tryz.prog [] where
 cs:=[Hr BO]
 st:=⟨ot [(6,TP (.var 0) (.lit 0)),(7,TP (.var 1) (.lit 0)),(9,TP (.var 2) (.lit 0)),(14,.sv (.agg (ckCVs 100 bC)))],[],240,[]⟩
 outs:=fun _=>[6,7,9,10]
 plain:=true
noncomputable def GV:List Sx.Spec:=[Js 152]
noncomputable def g4:bw Tryz.prog GV where
 cs:=[Jd BO]
 st:=⟨ot [(6,TP (.var 0) (.lit 0)),(7,TP (.var 1) (.lit 0)),(9,TP (.var 2) (.lit 0)),(10,TP (.var 3) (.lit 0))],[.ro 9 [.var 0,.var 1] true,.blk 2 [.sl (.var 20) (.lit 0) (.var 21) (.var 22)] 51,.hp 24 [] [.var 20] [],.blk 3 (ckCVs 100 bC) 40,.hp 25 [] [.var 153,.var 228] []],300,[]⟩
 outs:=fun _=>[9]
 plain:=true
def jA {l:List (Nat×TV)} {t:Nat} {v:TV} (h:(ot l)[t]?=some (some v)):(t,v)∈l:=by
 unfold ot at h;simp only[MU,MN]at h;obtain⟨i,hi,⟨n,x⟩,hf,rfl⟩:=h;have h1:=O4 hf;have h2:=PV hf;obtain⟨b,a⟩:=MK.1 hi;rw[List.getElem_range]at a;simp only[Pe]at h2;rw[<-a]at h2;rw[<-h2];exact h1
def pN (b:Nat):Value:=.pointer (some ⟨b,0,none⟩)
def iB (h:0<=z):Value.pointer (slP z 0)=pN z.toNat:=by rw[slP_pos h];rfl
def cZ (b:Nat):Value.pointer (slP ((b:Nat):Int) 0)=pN b:=iB ae
structure JI (F:Hl) (b6 b7 b9 b1 b2 x:Nat) (cv:Nat->Int) (all:Bool) (u:Value) (most:Int):Prop where
 w6:F b6=some (.cells #[.bool all,u] 43 (0,0))
 w7:F b7=some (.cells #[.int .i64 most] 3 (0,0))
 w9:F b9=some (.cells #[.slice none 0 0] 51 (0,0))
 w1:F b1=some (.cells #[pN x] 80 (0,0))
 w2:F b2=some (.cells #[.int .u64 (cv 0),.int .u64 (cv 1),.int .u64 (cv 2),.int .u64 (cv 3),.int .u64 (cv 4),.int .u64 (cv 5)] 41 (0,0))
 n6:b6≠b9
 n7:b7≠b9
 n1:b1≠b9
 n2:b2≠b9
def nf {l:List Hl} (hd:∀ (p q:Nat) A B,p≠q->l[p]?=some A->l[q]?=some B->A.dis B) (h:l[i]?=some A) (hb:A b=some o):hls l b=some o:=by
 induction l generalizing i with
 | nil=>simp at h
 | cons B l ih =>
  cases i with
  | zero=>simp at h;subst h;exact Hl.un_left _ _ _ _ hb
  | succ i =>
   have h:l[i]?=some A:=by simpa using h
   have hk:hls l b=some o:=ih (fun p q X Y a hX hY=>hd (p+1) (q+1) X Y ae (by simpa using hX) (by simpa using hY)) h;refine Hl.un_right (fun c ⟨x,y⟩=>?_) _ _ hk;obtain⟨C,d,e⟩:=hls_mem.1 y;obtain⟨j,f⟩:=NA d;exact hd 0 (j+1) B C ae rfl (by simpa using f) c ⟨x,e⟩
def E7 {q:Env} {mem:Mem} (a:∀ r∈mem,r.own=true) (hd:∀ (p q':Nat) r s,p≠q'->mem[p]?=some r->mem[q']?=some s->r.own=true->(r.hl q).dis (s.hl q)):∀ (p q':Nat) A B,p≠q'->(mem.map (Res.hl q))[p]?=some A->(mem.map (Res.hl q))[q']?=some B->A.dis B:=fun p q' A B b hA hB=>by
 rw[MU,MN]at hA hB;obtain⟨r,hr,rfl⟩:=hA;obtain⟨s,hs,rfl⟩:=hB;exact hd p q' r s b hr hs (a r (MG hr))
def ql {a:Nat} (h:(Hl.one a o).dis (Hl.one b o')):a≠b:=fun e=>Hl.one_dis.1 h (Hl.one_mem.2 e)
def HG {all:Bool} {p:Int×Int} (hsz:a.tmps.size=31) (f:a.defers=[]) (h0:a.tmps[0]?=some (pN x)) (h1:a.tmps[1]?=some (vk cv)) (h2:a.tmps[2]?=some (.agg #[.bool all,.slice (slP p.1 p.2) ul uc])) (m:a.tmps[3]?=some (.int .i64 most)) :
 lZ (FW none) dn Tryz.prog (fun e a' w'=>e=.normal/\a'.tmps.size=31/\a'.defers=[]/\∃ b6 b7 b9 b1 b2 F,a'.tmps[6]?=some (pN b6)/\a'.tmps[7]?=some (pN b7)/\a'.tmps[9]?=some (pN b9)/\a'.tmps[13]?=some (.func (.func 180) #[] #[pN b1,pN b2])/\Turned w w' [] [] F/\JI F b6 b7 b9 b1 b2 x cv all (.slice (slP p.1 p.2) ul uc) most) g0.cs a w:=by
 refine cG ?_ (bw.sound (Γ:=[]) ar g0 (Or.inr rfl) (Hs:=[]) (Rs:=[]) (J:=tB [x,cv 0,cv 1,cv 2,cv 3,cv 4,cv 5,0,p.1,p.2,ul,uc,most] all (.bool false) Hl.none) (inv:=fun _ _=>True) (mu:=fun _ _=>0)
  (R:=fun v _ F=>∃ l b6 b7 b9 b1 b2:Nat,v=.tuple #[.int .i64 0,pN l,pN b6,pN b7,pN b9,.func (.func 180) #[] #[pN b1,pN b2]]/\JI F b6 b7 b9 b1 b2 x cv all (.slice (slP p.1 p.2) ul uc) most)
  ar ar ar ⟨by simp [g0],by simp [g0],.nil,by simp [g0]⟩ hsz f ?_ (fun _ h=>(nomatch h)) ?_)
 .rintro e a' w' ⟨t,vs,Hs',F,rfl,hs',d,hm,hT,l,b6,b7,b9,b1,b2,hv,hS⟩;have e0:Hs'=[]:=MF.1 hT.len;subst e0;simp only[Value.tuple.injEq,Nc,MH,Value.int.injEq,Nz]at hv;obtain⟨g,rfl⟩:=hv;obtain rfl:t=.norm:=dP g;have hm:[a'.tmps[5]?,a'.tmps[6]?,a'.tmps[7]?,a'.tmps[9]?,a'.tmps[13]?]=_:=hm;simp only[M6,NN,MH,MZ]at hm;exact⟨rfl,hs'.trans hsz,d,b6,b7,b9,b1,b2,F,hm.2.1,hm.2.2.1,hm.2.2.2.1,hm.2.2.2.2,hT,hS⟩
 .intro t v g;have:=jA g;simp only[MQ,MV,Nt,Nr]at this;rcases this with ⟨rfl,rfl⟩ | ⟨rfl,rfl⟩ | ⟨rfl,rfl⟩ | ⟨rfl,rfl⟩
  .exact h0.trans (by show _=some (Value.pointer (slP (x:Int) 0));rw[cZ])
  .exact h1
  .exact h2.trans (by show _=some (Value.agg #[.bool all,.slice (slP p.1 p.2) ((ul:Int)).toNat ((uc:Int)).toNat]);rw[MD,MD])
  .exact m
 refine bw.read [] [] [] ?_;generalize j:tB [(x:Int),cv 0,cv 1,cv 2,cv 3,cv 4,cv 5,0,p.1,p.2,ul,uc,most] all (.bool false) Hl.none=J;simp only[go_sem,Nat.reduceAdd];intro q1 f1 p1 q2 f2 p2 D f3 p3 E f4 p4 G f5 p5 c f6 p6;have A:Agree 14 J c:=f1.trans (f2.mono.trans (f3.mono.trans (f4.mono.trans (f5.mono.tr f6))));have P:0<=c.i 14/\0<=c.i 15/\0<=c.i 16/\0<=c.i 17/\0<=c.i 18:=by
  rw[f6.i 14,f5.i 14,f4.i 14,f3.i 14,f2.i 14,f6.i 15,f5.i 15,f4.i 15,f3.i 15,f6.i 16,f5.i 16,f4.i 16,f6.i 17,f5.i 17,f6.i 18];exact⟨p1,p2,p3,p4,p5⟩
 obtain⟨n,o,q,s,u⟩:=P;intro hd;refine⟨[],[0,1,2,3,4,5],rfl,zzK,(c.i 14).toNat,(c.i 15).toNat,(c.i 16).toNat,(c.i 17).toNat,(c.i 18).toNat,(c.i 19).toNat,?_,?_⟩
 .show Value.tuple #[.int .i64 0,.pointer (slP (c.i 14) 0),.pointer (slP (c.i 15) 0),.pointer (slP (c.i 16) 0),.pointer (slP (c.i 17) 0),.func (.func 180) #[] #[.pointer (slP (c.i 18) 0),.pointer (slP (c.i 19) 0)]]=_;rw[iB n,iB o,iB q,iB s,iB u,iB p6]
 .have V:c.i 0=x/\c.i 1=cv 0/\c.i 2=cv 1/\c.i 3=cv 2/\c.i 4=cv 3/\c.i 5=cv 4/\c.i 6=cv 5/\c.b 7=all/\c.i 8=p.1/\c.i 9=p.2/\c.i 10=ul/\c.i 11=uc/\c.i 12=most:=by
   rw[A.i 0,A.i 1,A.i 2,A.i 3,A.i 4,A.i 5,A.i 6,A.b 7,A.i 8,A.i 9,A.i 10,A.i 11,A.i 12,<-j];exact⟨rfl,rfl,rfl,rfl,rfl,rfl,rfl,rfl,rfl,rfl,rfl,rfl,rfl⟩
  obtain⟨v0,v1,v2,y,v4,z,v6,v7,B,C,v10,v11,k⟩:=V;have d:=E7 (by intro r hr;simp at hr;rcases hr with rfl | rfl | rfl | rfl | rfl | rfl<;>rfl) hd;refine⟨(nf d (i:=1) rfl (Hl.one_self _ _)).trans ?_,(nf d (i:=2) rfl (Hl.one_self _ _)).trans ?_,(nf d (i:=3) rfl (Hl.one_self _ _)).trans ?_,(nf d (i:=4) rfl (Hl.one_self _ _)).trans ?_,(nf d (i:=5) rfl (Hl.one_self _ _)).trans ?_,ql (d 1 3 _ _ aj rfl rfl),ql (d 2 3 _ _ aj rfl rfl),ql (d 4 3 _ _ aj rfl rfl),ql (d 5 3 _ _ aj rfl rfl)⟩
  .show some (Obj.cells #[.bool (c.b 7),.slice (slP (c.i 8) (c.i 9)) (c.i 10).toNat (c.i 11).toNat] 43 (0,0))=_;rw[v7,B,C,v10,v11,MD,MD]
  .show some (Obj.cells #[.int .i64 (c.i 12)] 3 (0,0))=_;rw[k]
  .rfl
  .show some (Obj.cells #[.pointer (slP (c.i 0) 0)] 80 (0,0))=_;rw[v0,cZ]
  .show some (Obj.cells #[.int .u64 (c.i 1),.int .u64 (c.i 2),.int .u64 (c.i 3),.int .u64 (c.i 4),.int .u64 (c.i 5),.int .u64 (c.i 6)] 41 (0,0))=_;rw[v1,v2,y,v4,z,v6]
set_option maxRecDepth 20000 in
def HH {b9:Nat} (av:rowOK row oK) (hsz:a.tmps.size=31) (c:a.defers=[]) (j:a.tmps[6]?=some (pN b6)) (l:a.tmps[7]?=some (pN b7)) (m:a.tmps[9]?=some (pN b9)) (d:a.tmps[14]?=some (.agg row.toArray)) :
 lZ (FW ro) dn Tryz.prog (fun e a' w'=>e=.normal/\a'.tmps.size=31/\a'.defers=[]/\∃ b10 F,a'.tmps[6]?=some (pN b6)/\a'.tmps[7]?=some (pN b7)/\a'.tmps[9]?=some (pN b9)/\a'.tmps[10]?=some (pN b10)/\Turned w w' [] [] F/\F=Hl.one b10 (.cells row.toArray 40 (0,0))) g3.cs a w:=by
 obtain⟨q,eq,hn,b,o,p⟩:=tq 100 (fun k=>([(b6:Int),b7,b9]:List Int).getD k 0) (fun _=>false) [] (ks:=bC) av;refine cG ?_ (bw.sound (Γ:=[]) ar g3 (Or.inl rfl) (Hs:=[]) (Rs:=[]) (J:=q) (inv:=fun _ _=>True) (mu:=fun _ _=>0)
  (R:=fun v _ F=>∃ b10:Nat,v=.tuple #[.int .i64 0,pN b6,pN b7,pN b9,pN b10]/\F=Hl.one b10 (.cells row.toArray 40 (0,0)))
  ar ar ar ⟨by simp [g3],by simp [g3],.nil,by simp [g3]⟩ hsz c ?_ (fun _ h=>(nomatch h)) ?_)
 .rintro e a' w' ⟨t,vs,Hs',F,rfl,hs',f,hm,hT,b10,hv,hS⟩;have e0:Hs'=[]:=MF.1 hT.len;subst e0;simp only[Value.tuple.injEq,Nc,MH,Value.int.injEq,Nz]at hv;obtain⟨g,rfl⟩:=hv;obtain rfl:t=.norm:=dP g;have hm:[a'.tmps[6]?,a'.tmps[7]?,a'.tmps[9]?,a'.tmps[10]?]=_:=hm;simp only[M6,NN,MH,MZ]at hm;exact⟨rfl,hs'.trans hsz,f,b10,F,hm.1,hm.2.1,hm.2.2.1,hm.2.2.2,hT,hS⟩
 .intro t v g;have:=jA g;simp only[MQ,MV,Nt,Nr]at this;rcases this with ⟨rfl,rfl⟩ | ⟨rfl,rfl⟩ | ⟨rfl,rfl⟩ | ⟨rfl,rfl⟩
  .exact j.trans (by show _=some (Value.pointer (slP (q.i 0) 0));rw[b 0 ae];exact Ns some (cZ _).symm)
  .exact l.trans (by show _=some (Value.pointer (slP (q.i 1) 0));rw[b 1 ae];exact Ns some (cZ _).symm)
  .exact m.trans (by show _=some (Value.pointer (slP (q.i 2) 0));rw[b 2 ae];exact Ns some (cZ _).symm)
  .exact d.trans (by show _=some (Value.agg ((ckCVs 100 bC).map (CV.ev q)).toArray);rw[eq])
 refine bw.read [bC] [] [] ?_;simp only[go_sem,Nat.reduceAdd];intro q1 f1 p1 _;refine⟨[],[0],rfl,zzK,(q1.i 240).toNat,?_,?_⟩
 .show Value.tuple #[.int .i64 0,.pointer (slP (q1.i 0) 0),.pointer (slP (q1.i 1) 0),.pointer (slP (q1.i 2) 0),.pointer (slP (q1.i 240) 0)]=_;rw[f1.i 0,f1.i 1,f1.i 2,b 0 ae,b 1 ae,b 2 ae,iB p1];show Value.tuple #[.int .i64 0,.pointer (slP ((b6:Nat):Int) 0),.pointer (slP ((b7:Nat):Int) 0),.pointer (slP ((b9:Nat):Int) 0),_]=_;rw[cZ,cZ,cZ]
 .show hls [Hl.one (q1.i 240).toNat (.cells ((ckCVs 100 bC).map (CV.ev q1)).toArray 40 (0,0))]=_;have er:(ckCVs 100 bC).map (CV.ev q1)=row:=(Ns Array.toList (Value.agg.inj (ev_ag (ks:=bC) (n:=100) f1 aj))).trans eq;rw[hls_one,er]
structure pP (G KB:Hl) (a l c:Int) (rows:List (List Value)) (L:List Pc):Prop where
 a1:-1<=a
 ll:l=L.length
 c0:0<=c
 own:OwR G 40 oK (.slice (slP a 0) l.toNat c.toNat) rows
 rl:rows.length=L.length
 kb:KB.le G
 nk:∀ b,(Value.slice (slP a 0) l.toNat c.toNat).ownBlock=some b->¬KB.mem b
 pc:∀ (j:Nat) row p,rows[j]?=some row->L[j]?=some p->aV KB KB row p
def gB (b9:Nat) (a l c:Int):Hl:=Hl.one b9 (.cells #[.slice (slP a 0) l.toNat c.toNat] 51 (0,0))
def gX (F:Hl) (b9:Nat) (L:List Pc):Prop:=∃ a l c G KB rows,(gB b9 a l c).le F/\G.le F/\(gB b9 a l c).dis G/\pP G KB a l c rows L
def gX.mk {b9:Nat} {a l:Int} {rows:List (List Value)} (hd:(gB b9 a l c).dis G) (h:pP G KB a l c rows L):gX (hls [gB b9 a l c,G]) b9 L:=by
 refine⟨a,l,c,G,KB,rows,?_,?_,hd,h⟩
 .rw[dw];exact Hl.un_left _ _
 .rw[dw];exact Hl.un_right hd
def pP.pre {a l:Int} {rows:List (List Value)} (h:pP G KB a l c rows L):∃ xs,OwnsH (G.un F) 40 126 (.slice (slP a 0) l.toNat c.toNat) l.toNat xs:=by
 have:=(h.own.pre (by have:=h.ll;have:=h.rl;omega)).mono (Hl.un_left G F);rw[fK]at this;exact⟨_,this⟩
def pP.app {a l a1 c1:Int} {rows:List (List Value)} (h:pP G KB a l c rows L) (hd:G.dis F) (hp:aV F F row p) (h1:-1<=a1) (h2:0<=c1)
 (happ:∀ xs,OwnsH (G.un F) 40 126 (.slice (slP a 0) l.toNat c.toNat) l.toNat xs->OwnsH H 40 126 (.slice (slP a1 0) (l.toNat+1) c1.toNat) (l.toNat+1) (xs++row))
 (hk:∀ b,(G.un F).mem b->some b≠(Value.slice (slP a 0) l.toNat c.toNat).ownBlock->H b=(G.un F) b)
 (hn:some a1.toNat=(Value.slice (slP a 0) l.toNat c.toNat).ownBlock\/¬(G.un F).mem a1.toNat\/a1= -1):pP H (KB.un F) a1 (l+1) c1 (rows++[row]) (L++[p]):=by
 have i:=h.ll;have d:=h.rl;have f:∀ b,(Value.slice (slP a 0) l.toNat c.toNat).ownBlock=some b->G.mem b:=fun b hb=>h.own.2.qp hb;have g:KB.dis F:=fun b ⟨x,y⟩=>hd b ⟨Hl.le_mem h.kb x,y⟩;refine⟨h1,by rw[MJ,i];simp,h2,?_,by simp [d],?_,?_,?_⟩
 .refine OwR.app (A:=G.un F) ⟨h.own.1,h.own.2.mono (Hl.un_left G F)⟩ ae hp.ok (by rw[fK];exact happ)
 .intro b o hb;have k:some b≠(Value.slice (slP a 0) l.toNat c.toNat).ownBlock:=fun e=>by
   rcases Hl.un_mem.1 (Hl.mem_of hb)with hm | hm
   .exact h.nk b e.symm hm
   .exact hd b ⟨f b e.symm,hm⟩
  have hg:(G.un F) b=some o:=by
   unfold Hl.un at hb;cases m:KB b with
   | some o'=>rw[m]at hb;cases hb;exact Hl.un_left _ _ _ _ (h.kb _ _ m)
   | none=>rw[m]at hb;exact Hl.un_right hd _ _ hb
  rw[hk b (Hl.mem_of hg) k];exact hg
 .intro b hb hm;have n:a1≠ -1:=fun e=>by rw[e,slP_nil]at hb;cases hb
  rw[slP_pos ae]at hb;have hb:a1.toNat=b:=by simpa [Value.ownBlock] using hb
  rw[hb]at hn;rcases hn with hn | hn | hn
  .rcases Hl.un_mem.1 hm with hm | hm
   .exact h.nk b hn.symm hm
   .exact hd b ⟨f b hn.symm,hm⟩
  .exact hn (Hl.un_mem.2 ((Hl.un_mem.1 hm).imp (Hl.le_mem h.kb) id))
  .exact n hn
 .refine yh (X:=fun row p=>aV (KB.un F) (KB.un F) row p) d (fun j r q a b=>(h.pc j r q a b).mono (Hl.un_left _ _) (Hl.un_left _ _)) (hp.mono (Hl.un_right g) (Hl.un_right g))
structure JJ (U:Hl) (b6 b7:Nat) (all:Bool) (u:Value) (T:List (List Int)) (most:Int):Prop where
 c6:U.cell b6 0=some (.bool all)
 c6':U.cell b6 1=some u
 c7:U.cell b7 0=some (.int .i64 most)
 rd:RdRows U u dg (T.map bys)
 tk:bO T
def Er:∀ t∈GV,t.OK Tryz.prog:=fun t a=>by
 simp only[GV,MQ,MV,Nt]at a;subst a;exact Fp
open Classical in
set_option maxRecDepth 20000 in
def HJ {U:Hl} {b9 b10:Nat} {all:Bool} {T:List (List Int)} {a0 l:Int} {rows:List (List Value)} 
 (hU:JJ U b6 b7 all u T most) (D:pP G KB a0 l c rows L) (hL:L.length<=1000) (hP:aV F F row p)
 (s0:U.sub w) (s1:(gB b9 a0 l c).sub w) (s2:G.sub w) (s3:(Hl.one b10 (.cells row.toArray 40 (0,0))).sub w) (s4:F.sub w)
 (d12:(gB b9 a0 l c).dis G) (d13:(gB b9 a0 l c).dis (Hl.one b10 (.cells row.toArray 40 (0,0)))) (d14:(gB b9 a0 l c).dis F) (d23:G.dis (Hl.one b10 (.cells row.toArray 40 (0,0)))) (d24:G.dis F) (d34:(Hl.one b10 (.cells row.toArray 40 (0,0))).dis F)
 (e1:(gB b9 a0 l c).dis U) (e2:G.dis U) (e3:(Hl.one b10 (.cells row.toArray 40 (0,0))).dis U) (e4:F.dis U)
 (hsz:a.tmps.size=31) (P:a.defers=[]) (h6:a.tmps[6]?=some (pN b6)) (h7:a.tmps[7]?=some (pN b7)) (h9:a.tmps[9]?=some (pN b9)) (Q:a.tmps[10]?=some (pN b10)) :
 lZ (FW ro) dn Tryz.prog (fun e a' w'=>∃ Hs' F',Turned w w' [gB b9 a0 l c,G,Hl.one b10 (.cells row.toArray 40 (0,0)),F] Hs' F' /\
  ((e=.exit 0/\min most 8<=L.length/\gX F' b9 L)\/(e=.normal/\¬min most 8<=L.length/\gX F' b9 (L++[mQ all T p])))) g4.cs a w:=by
 obtain⟨q,eq,hn,j,eb,C⟩:=tq 100 (fun k=>if k=0 then(b6:Int)else if k=1 then b7 else if k=2 then b9 else if k=3 then b10 else if k=20 then a0 else if k=21 then l else c) (fun _=>false) [(9,U),(24,G),(25,F)] (ks:=bC) hP.ok;have m0:Res.hl q (.ro 9 [.var 0,.var 1] true)=U:=C 9;have m1:Res.hl q (.blk 2 [.sl (.var 20) (.lit 0) (.var 21) (.var 22)] 51)=gB b9 a0 l c:=by
  show Hl.one (q.i 2).toNat (.cells #[.slice (slP (q.i 20) 0) (q.i 21).toNat (q.i 22).toNat] 51 (0,0))=_;rw[j 2 ae,j 20 ae,j 21 ae,j 22 ae];rfl
 have m2:Res.hl q (.hp 24 [] [.var 20] [])=G:=C 24;have m3:Res.hl q (.blk 3 (ckCVs 100 bC) 40)=Hl.one b10 (.cells row.toArray 40 (0,0)):=by
  show Hl.one (q.i 3).toNat (.cells ((ckCVs 100 bC).map (CV.ev q)).toArray 40 (0,0))=_;rw[eq,j 3 ae];rfl
 have m4:Res.hl q (.hp 25 [] [.var 153,.var 228] [])=F:=C 25;have hE:Entry q g4.st.mem [gB b9 a0 l c,G,Hl.one b10 (.cells row.toArray 40 (0,0)),F] [U]:=by
  refine⟨?_,?_,?_,?_⟩
  .intro r hr ho;simp only[g4,MQ,MV,Nt]at hr;rcases hr with rfl | rfl | rfl | rfl | rfl
   .cases ho
   .exact⟨gB b9 a0 l c,ar,by rw[m1];exact Hl.le_refl _⟩
   .exact⟨G,ar,by rw[m2];exact Hl.le_refl _⟩
   .exact⟨Hl.one b10 (.cells row.toArray 40 (0,0)),ar,by rw[m3];exact Hl.le_refl _⟩
   .exact⟨F,ar,by rw[m4];exact Hl.le_refl _⟩
  .intro r hr ho;simp only[g4,MQ,MV,Nt]at hr;rcases hr with rfl | rfl | rfl | rfl | rfl
   .exact⟨U,ar,by rw[m0];exact Hl.le_refl _⟩
   all_goals cases ho
  .simp only[g4,PF,MQ,MV,Nt,O6,Qn,m1,m2,m3,m4];exact⟨⟨fun h=>(by cases h),fun h=>(by cases h),fun h=>(by cases h),fun h=>(by cases h)⟩,⟨fun _ _=>d12,fun _ _=>d13,fun _ _=>d14⟩,⟨fun _ _=>d23,fun _ _=>d24⟩,fun _ _=>d34,fun _ h=>(nomatch h),.nil⟩
  .intro r hr;simp only[g4,MQ,MV,Nt]at hr;rcases hr with rfl | rfl | rfl | rfl | rfl
   .trivial
   .show 0<=q.i 2;rw[j 2 ae];exact Ok b9
   .trivial
   .show 0<=q.i 3;rw[j 3 ae];exact Ok b10
   .trivial
 refine cG ?_ (bw.sound (Γ:=GV) Er g4 (Or.inl rfl) (Hs:=[gB b9 a0 l c,G,Hl.one b10 (.cells row.toArray 40 (0,0)),F]) (Rs:=[U]) (J:=q) (inv:=fun _ _=>True) (mu:=fun _ _=>0)
  (R:=fun v _ F'=>(v=.tuple #[.int .i64 2,pN b9]/\min most 8<=L.length/\gX F' b9 L)\/(v=.tuple #[.int .i64 0,pN b9]/\¬min most 8<=L.length/\gX F' b9 (L++[mQ all T p])))
  (by intro H y;simp only[MQ,MV,Nt]at y;rcases y with rfl | rfl | rfl | rfl<;>assumption) (by intro H y;simp only[MQ,MV,Nt]at y;subst y;exact s0)
  (by intro H y R hR;simp only[MQ,MV,Nt]at y hR;subst hR;rcases y with rfl | rfl | rfl | rfl<;>assumption) hE hsz P ?_ (fun _ h=>(nomatch h)) ?_)
 .rintro e a' w' ⟨t,vs,Hs',F',rfl,hs',ad,hm,hT,hc⟩;refine⟨Hs',F',hT,?_⟩;rcases hc with ⟨hv,hx,ho⟩ | ⟨hv,hx,ho⟩
  .simp only[Value.tuple.injEq,Nc,MH,Value.int.injEq,Nz]at hv;obtain rfl:t=.exit 0:=dP hv.1;exact Or.inl ⟨rfl,hx,ho⟩
  .simp only[Value.tuple.injEq,Nc,MH,Value.int.injEq,Nz]at hv;obtain rfl:t=.norm:=dP hv.1;exact Or.inr ⟨rfl,hx,ho⟩
 .intro t v ht;have:=jA ht;simp only[MQ,MV,Nt,Nr]at this;rcases this with ⟨rfl,rfl⟩ | ⟨rfl,rfl⟩ | ⟨rfl,rfl⟩ | ⟨rfl,rfl⟩
  .exact h6.trans (by show _=some (Value.pointer (slP (q.i 0) 0));rw[j 0 ae];exact Ns some (cZ _).symm)
  .exact h7.trans (by show _=some (Value.pointer (slP (q.i 1) 0));rw[j 1 ae];exact Ns some (cZ _).symm)
  .exact h9.trans (by show _=some (Value.pointer (slP (q.i 2) 0));rw[j 2 ae];exact Ns some (cZ _).symm)
  .exact Q.trans (by show _=some (Value.pointer (slP (q.i 3) 0));rw[j 3 ae];exact Ns some (cZ _).symm)
 refine bw.read [bC,aI] [] [] ?_;have V:∀ q':Env,Agree 300 q q'->(q'.i 0=b6/\q'.i 1=b7/\q'.i 2=b9/\q'.i 20=a0/\q'.i 21=l/\q'.i 22=c)/\q'.h 9=U/\q'.h 24=G/\q'.h 25=F/\(ckCVs 100 bC).map (CV.ev q')=row:=fun q' g=>by
  rw[g.i 0,g.i 1,g.i 2,g.i 20,g.i 21,g.i 22,g.h 9,g.h 24,g.h 25,j 0 ae,j 1 ae,j 2 ae,j 20 ae,j 21 ae,j 22 ae];exact⟨⟨rfl,rfl,rfl,rfl,rfl,rfl⟩,C 9,C 24,C 25,(Ns Array.toList (Value.agg.inj (ev_ag (ks:=bC) (n:=100) g aj))).trans eq⟩
 simp only[go_sem,Nat.reduceAdd,GV,KL];obtain⟨⟨v0,v1,v2,v20,S,af⟩,w9,W,X,er⟩:=V q (Agree.refl _ _);have ag:=D.ll;have c7:U.cell ((b7:Int)).toNat (Int.toNat 0)=some (.int .i64 most):=by rw[MD];exact hU.c7
 have c6:U.cell ((b6:Int)).toNat (Int.toNat 0)=some (.bool all):=by rw[MD];exact hU.c6
 have c6':U.cell ((b6:Int)).toNat (Int.toNat 0+1)=some u:=by rw[MD];exact hU.c6'
 have I:(if 8<valI (some (Value.int .i64 most))then 8 else valI (some (Value.int .i64 most)))=min most 8:=by
  show(if 8<most then 8 else most)=_;split<;>omega
 obtain⟨sx,sy,sc,K,_⟩:=id hU.rd;have Y:(ckCVs 100 aI).map (CV.ev q)=row.take 125:=by rw[<-er,kg]
 have Z:bev q (.hB 9 (.var 0) (.lit 0) 0)=all:=by
  show valB ((q.h 9).cell (q.i 0).toNat ((Int.toNat 0)+0))=_;rw[w9,v0,NH,c6];rfl
 rw[v0,v1,S,w9,X,c7,I,c6,c6',Z,Y,fC ⟨_,_,_,K⟩];refine⟨ae,ae,rfl,fun hle hd=>?_,fun ah=>⟨ae,rfl,by rw[K];rfl,⟨all,u,_,U,F,T,p.h,rfl,rfl,hU.rd,hU.tk,hP.hd⟩,fun q1 g1 ⟨_,p1,_⟩=>?_⟩⟩
 .refine⟨[[],[],[],[]],[1,2],rfl,zzK,Or.inl ⟨?_,ae,?_⟩⟩
  .show Value.tuple #[.int .i64 2,.pointer (slP (q.i 2) 0)]=_;rw[v2,cZ]
  .show gX (hls [Res.hl q (.blk 2 [.sl (.var 20) (.lit 0) (.var 21) (.var 22)] 51),q.h 24]) b9 L;rw[m1,W];exact gX.mk d12 D
 have e1:q1.b 300=decide (vS all T p.h):=Value.bool.inj (p1 _ _ _ _ _ _ _ rfl rfl hU.rd hP.hd);rw[e1,MI];have fin:∀ (f d:Env) (row':List Value),aV F F row' (mQ all T p)->Agree 300 q f->f.h 302=G.un F->Agree 303 f d-> -1<=d.i 303->0<=d.i 304 ->
  (∀ xs,OwnsH (f.h 302) 40 126 (.slice (slP (f.i 20) 0) (f.i 21).toNat (f.i 22).toNat) (f.i 21).toNat xs->OwnsH (d.h 303) 40 126 (.slice (slP (d.i 303) 0) ((f.i 21).toNat+1) (d.i 304).toNat) ((f.i 21).toNat+1) (xs++row')) ->
  (∀ b,(f.h 302).mem b->some b≠(Value.slice (slP (f.i 20) 0) (f.i 21).toNat (f.i 22).toNat).ownBlock->d.h 303 b=f.h 302 b) ->
  (some (d.i 303).toNat=(Value.slice (slP (f.i 20) 0) (f.i 21).toNat (f.i 22).toNat).ownBlock\/¬(f.h 302).mem (d.i 303).toNat\/d.i 303= -1) ->
  pP (d.h 303) (KB.un F) (d.i 303) (d.i 21+1) (d.i 304) (rows++[row']) (L++[mQ all T p])/\Res.hl d (.blk 2 [.sl (.var 303) (.lit 0) ((E.var 21).add (.lit 1)) (.var 304)] 51)=gB b9 (d.i 303) (d.i 21+1) (d.i 304)/\Value.pointer (slP (d.i 2) 0)=pN b9:=by
  intro f d row' hr z x g4 a1 a2 happ hk hn;obtain⟨⟨_,_,u2,m,o,s⟩,_⟩:=V f z;obtain⟨⟨_,_,z2,_,aa,_⟩,_⟩:=V d (z.tr g4);rw[x,m,o,s]at happ hk hn;refine⟨by rw[aa];exact D.app d24 hr a1 a2 happ hk hn,?_,by rw[z2,cZ]⟩;show Hl.one (d.i 2).toNat (.cells #[.slice (slP (d.i 303) 0) (d.i 21+1).toNat (d.i 304).toNat] 51 (0,0))=_;rw[z2,MD];rfl
 refine⟨fun ab q2 g2 _ f g3 ⟨x,_⟩=>?_,fun M q2 g2 _ f g3 ⟨x,_⟩=>?_⟩
 .have N:Agree 300 q q2:=g1.tr g2;have z:Agree 300 q f:=N.tr g3;obtain⟨_,_,A,B,_⟩:=V q2 N;obtain⟨⟨_,_,u2,m,o,s⟩,_,_,_,Hu⟩:=V f z;rw[A,B]at x;have O:(ckCVs 100 aI++[CV.sl (.lit (-1)) (.lit 0) (.lit 0) (.lit 0)]).map (CV.ev f)=row.take 125++[.slice none 0 0]:=by
   rw[M9,<-kg,Hu];rfl
  refine⟨⟨by rw[x,m,o,s];exact D.pre,ae,by unfold maxLen;omega,ae⟩,fun d g4 ⟨a1,a2,happ,hk,_,hn⟩ hd=>?_⟩;rw[O]at happ;obtain⟨hG,mb,ev⟩:=fin f d _ (by unfold mQ;rw[MM ab];exact hP.cut) z x g4 a1 a2 happ hk hn;refine⟨[[],[],[],[]],[1,2],rfl,zzK,Or.inr ⟨?_,ae,?_⟩⟩
  .show Value.tuple #[.int .i64 0,.pointer (slP (d.i 2) 0)]=_;rw[ev]
  .show gX (hls [Res.hl d (.blk 2 [.sl (.var 303) (.lit 0) ((E.var 21).add (.lit 1)) (.var 304)] 51),d.h 303]) b9 _;have:=hd 1 2 _ _ aj rfl rfl rfl;rw[mb]at this ⊢;exact gX.mk this hG
 .have N:Agree 300 q q2:=g1.tr g2;have z:Agree 300 q f:=N.tr g3;obtain⟨_,_,A,B,_⟩:=V q2 N;obtain⟨⟨_,_,u2,m,o,s⟩,_,_,_,Hu⟩:=V f z;rw[A,B]at x;refine⟨⟨by rw[x,m,o,s];exact D.pre,ae,by unfold maxLen;omega,ae⟩,fun d g4 ⟨a1,a2,happ,hk,_,hn⟩ hd=>?_⟩;rw[Hu]at happ;obtain⟨hG,mb,ev⟩:=fin f d _ (by unfold mQ;rw[M0 M];exact hP) z x g4 a1 a2 happ hk hn;refine⟨[[],[],[],[]],[1,2],rfl,zzK,Or.inr ⟨?_,ae,?_⟩⟩
  .show Value.tuple #[.int .i64 0,.pointer (slP (d.i 2) 0)]=_;rw[ev]
  .show gX (hls [Res.hl d (.blk 2 [.sl (.var 303) (.lit 0) ((E.var 21).add (.lit 1)) (.var 304)] 51),d.h 303]) b9 _;have:=hd 1 2 _ _ aj rfl rfl rfl;rw[mb]at this ⊢;exact gX.mk this hG
def mm {a b c:World} (h:Keep (fun _=>False) a b) (k:Keep (fun _=>False) b c):Keep (fun _=>False) a c :=
 ⟨k.os.trans h.os,k.tape.trans h.tape,k.output.trans h.output,NT h.size k.size,fun i hi hn=>(k.block i (Oi hi h.size) hn).trans (h.block i hi hn)⟩
def nq (w:World) (o:Obj):Keep (fun _=>False) w (w.alloc o):=⟨rfl,rfl,rfl,by rw[World.size_alloc];omega,fun i hi _=>Below.heap_alloc _ _ _ hi⟩
def nr {w0 W:World} (h:Keep (fun _=>False) w0 W) (hr:w0.heap.size<=r) (o:Obj):Keep (fun _=>False) w0 (W.putObj r o) :=
 ⟨h.os,h.tape,h.output,by rw[World.putObj_size];exact h.size,fun i hi hn=>(World.putObj_heap_other ae).trans (h.block i hi hn)⟩
def cE {a b:World} (h:H.sub a) (k:Keep (fun _=>False) a b):H.sub b:=fun i o hi=>(k.block i (Hl.sub_lt h (Hl.mem_of hi)) Qo).trans (h i o hi)
def mH {W:World} (h:H.sub W) (hr:¬H.mem r) (o:Obj):H.sub (W.putObj r o):=fun i x hi=>(World.putObj_heap_other (fun e=>hr (by subst e;exact Hl.mem_of hi))).trans (h i x hi)
def rT {w0 W W':World} (h:Keep (fun _=>False) w0 W) (t:Turned W W' Hs Hs' F) (hn:∀ H∈Hs,∀ b,H.mem b->w0.heap.size<=b):Keep (fun _=>False) w0 W' :=
 ⟨t.os.trans h.os,t.tape.trans h.tape,t.output.trans h.output,NT h.size t.size,fun i hi hf=>(t.block i (Oi hi h.size) fun H a hm=>by have:=hn H a i hm;omega).trans (h.block i hi hf)⟩
structure tf (w0:World) (B:Nat) (U:Hl) (b9 m:Nat) (all:Bool) (T:List (List Int)) (pre:List Pc) (W:World):Prop where
 keep:Keep (fun _=>False) w0 W
 big:B+2<=W.heap.size
 u:U.sub W
 len:pre.length<=m
 out:∃ F,F.sub W/\gX F b9 (pre.map (mQ all T))/\F.dis U/\∀ b,F.mem b->w0.heap.size<=b/\b≠B/\b≠B+1
section
variable {w0:World} {B:Nat} {U:Hl} {b9 m:Nat} {all:Bool} {T:List (List Int)} {pre:List Pc} {W W':World}
def tf.mono (h:tf w0 B U b9 m all T pre W) (k:Keep (fun _=>False) W W'):tf w0 B U b9 m all T pre W':=by
 obtain⟨F,f1,f2,f3,f4⟩:=h.out;exact⟨mm h.keep k,NT h.big k.size,cE h.u k,h.len,F,cE f1 k,f2,f3,f4⟩
def tf.put (h:tf w0 B U b9 m all T pre W) (hB:w0.heap.size<=B) (hU:¬U.mem (B+1)) (o:Obj):tf w0 B U b9 m all T pre (W.putObj (B+1) o):=by
 obtain⟨F,f1,f2,f3,f4⟩:=h.out;exact⟨nr h.keep ae o,by rw[World.putObj_size];exact h.big,mH h.u hU o,h.len,F,mH f1 (fun hm=>(f4 _ hm).2.2 rfl) o,f2,f3,f4⟩
end
def lI {B:Nat} {r:Loop} {W W':World} (h:rows B r W) (t:Turned W W' Hs Hs' F) (hn:∀ H∈Hs,∀ b,H.mem b->b≠B/\b≠B+1):rows B r W' :=
 ⟨(t.block _ (Ng.1 h.1).1 fun H a hm=>(hn H a _ hm).2 rfl).trans h.1,(t.block _ (Ng.1 h.2).1 fun H a hm=>(hn H a _ hm).1 rfl).trans h.2⟩
def xA {P:Program} {id p d0 d1:Nat} {o0 o1:Oper} {T:TypeId} (g0:o0.guard=none) (d:o1.guard=none) (e0:o0.op=.load T (.tmp p)) (e1:o1.op=.assign (.tmp d0)) (f0:o0.dst=some d0) (f1:o1.dst=some d1)
 {a:Act} {w:World} {b:Nat} {v:Value} {Q:Exit->Act->World->Prop} (hs0:d0<a.tmps.size) (c:a.tmps[p]?=some (pN b)) (hg:aggB P T=some false) (hb:w.cell? ⟨b,0,none⟩=some v)
 (hQ:Q .normal ((a.put (some d0) v).put (some d1) v) w):(Code.region id #[o0,o1] false).wpIn Fence.wide n P Q a w:=by
 refine wpIn_region_lit (l:=[o0,o1]) (wpListIn_plain g0 fun K hK=>(inJ none n P).val (v:=v) (w':=w) ?_ (hK _ _ ?_))
 .unfold execOp;rw[e0];have:a.eval (.tmp p)=.pointer (some ⟨b,0,none⟩):=by simp [Act.eval,c,pN]
  simp only[this];have h2:(Instr.loadAt T (.pointer (some ⟨b,0,none⟩))).run P w=.ok v w:=loadVar_one hg hb;rw[Sem.run_bind,h2];rfl
 rw[f0];refine wpListIn_plain d fun K hK=>(inJ none n P).val (v:=v) (w':=w) ?_ (hK _ _ ?_)
 .unfold execOp;rw[e1];simp [Act.eval,Act.put,Na,hs0,go_sem]
 rw[f1];exact hQ
def IQ {t:Array Value} (v:Value) (h:t.size=31):(t.setIfInBounds 14 v).size=31/\(t.setIfInBounds 14 v)[6]?=t[6]?/\(t.setIfInBounds 14 v)[7]?=t[7]?/\(t.setIfInBounds 14 v)[9]?=t[9]?/\(t.setIfInBounds 14 v)[14]?=some v:=by
 refine⟨by simp [h],?_,?_,?_,?_⟩
 .simp [Na]
 .simp [Na]
 .simp [Na]
 .simp [Na,h]
def jq (h:∀ b,H.mem b->b<n) (k:∀ b,K.mem b->n<=b):H.dis K:=fun b ⟨x,y⟩=>by have:=h b x;have:=k b y;omega
def uM {W W':World} (h:H.sub W) (t:Turned W W' Hs Hs' F) (hd:∀ K∈Hs,K.dis H):H.sub W':=fun i o hi=>(t.block i (Hl.sub_lt h (Hl.mem_of hi)) fun K hK hm=>hd K hK i ⟨hm,Hl.mem_of hi⟩).trans (h i o hi)
def yQ {w0:World} {B:Nat} {U:Hl} {b9:Nat} {all:Bool} {T:List (List Int)} (hU:JJ U b6 b7 all u T most) (F:∀ b,U.mem b->b≠B/\b≠B+1) (hB:w0.heap.size<=B)
 {rc:LoopState->Option Code->Loop} {s:List Pc×Pc×List Value} {W:World} (hY:Ha (tf w0 B U b9 (min most 8).toNat all T) st cv s W) (hR:rows B (rc .ready none) W) (I:∀ i,i<6->(st i).length<=400)
 {dn:Nat} {a:Act} (hsz:a.tmps.size=31) (X:a.defers=[]) (h6:a.tmps[6]?=some (pN b6)) (h7:a.tmps[7]?=some (pN b7)) (h9:a.tmps[9]?=some (pN b9)) (J:a.tmps[14]?=some (.agg s.2.2.toArray)) :
 (Hr BO).wpIn (FW (some (B+1))) dn Tryz.prog (Exit.then (fun a1 z=>rows B (rc .ready none) z/\(Jd BO).wpIn (FW (some (B+1))) dn Tryz.prog (ends B rc (fun W=>tf w0 B U b9 (min most 8).toNat all T (s.1++[s.2.1]) W)
  (fun i W=>i=0/\∃ pre,pre <+: bo st (dr cv) 401/\min most 8<=pre.length/\tf w0 B U b9 (min most 8).toNat all T pre W)) a1 (z.putObj (B+1) (.loop (rc .busy none)))) fun _ _ _=>False) a W:=by
 obtain⟨pre,p,row⟩:=s;obtain⟨z,A,k,i,hi,t,hp,hI,hT,hP⟩:=hY;simp only at t hI hP hp J ⊢;have L:=hI.mono hT.gR;obtain⟨Fo,M,Y,N,q⟩:=hI.out;obtain⟨a0,l,c,G,KB,Z,C,D,od,oG⟩:=Y;have hk:k<401:=by
  have:=(MK.1 hp).1;have:=I i hi;omega
 have f0:∀ b,A.mem b->z.heap.size<=b:=fun b hb=>(hT.fdom b hb).resolve_left ar;have aa:∀ b,A.mem b->b<W.heap.size:=fun b hb=>Hl.sub_lt hT.fsub hb;have big:=hI.big;have lo:∀ {H:Hl},H.le Fo->∀ b,H.mem b->b<z.heap.size:=fun hl b hb=>Hl.sub_lt M (Hl.le_mem hl hb);have uo:∀ b,U.mem b->b<z.heap.size:=fun b hb=>Hl.sub_lt hI.u hb;have w:=hT.size;have h3:lZ (FW (some (B+1))) dn Tryz.prog _ [Hr BO] a W:=HH (ro:=some (B+1)) hP.ok hsz X h6 h7 h9 J;refine wpIn_mono h3 ?_;intro e a1 r h;cases e with
 | normal =>
  obtain⟨_,ab,ad,b10,F3,t6,t7,t9,t10,g,O⟩:=h;have f:∀ b,(Hl.one b10 (.cells row.toArray 40 (0,0))).mem b->W.heap.size<=b:=fun b hb=>(g.fdom b (O▸hb)).resolve_left ar;have P:=lI hR g ar;refine⟨P,?_⟩;have af:rows B (rc .busy none) (r.putObj (B+1) (.loop (rc .busy none))):=kn P;have ag:Keep (fun _=>False) w0 (r.putObj (B+1) (.loop (rc .busy none))):=nr (mm L.keep g.gR) ae _;have sW3:∀ {H:Hl},H.sub r->(∀ b,H.mem b->b≠B+1)->H.sub (r.putObj (B+1) (.loop (rc .busy none))):=fun h hn=>mH h (fun hm=>hn _ hm rfl) _;have v:Fo.sub r:=cE (cE M hT.gR) g.gR;have sU:U.sub (r.putObj (B+1) (.loop (rc .busy none))):=sW3 (cE L.u g.gR) fun b hb=>(F b hb).2;have ak:W.heap.size<=(r.putObj (B+1) (.loop (rc .busy none))).heap.size:=by rw[World.putObj_size];exact g.size
  have m:∀ H∈[gB b9 a0 l c,G,Hl.one b10 (.cells row.toArray 40 (0,0)),A],∀ b,H.mem b->w0.heap.size<=b/\b≠B/\b≠B+1:=by
   intro H E b hb;simp only[MQ,MV,Nt]at E;rcases E with rfl | rfl | rfl | rfl
   .exact q b (Hl.le_mem C hb)
   .exact q b (Hl.le_mem D hb)
   .have:=f b hb;omega
   .have:=f0 b hb;omega
  have e1:(gB b9 a0 l c).dis U:=fun b ⟨x,y⟩=>N b ⟨Hl.le_mem C x,y⟩;have e2:G.dis U:=fun b ⟨x,y⟩=>N b ⟨Hl.le_mem D x,y⟩;have e3:(Hl.one b10 (.cells row.toArray 40 (0,0))).dis U:=Hl.fj (jq (n:=W.heap.size) (fun b hb=>Oi (uo b hb) w) f);have e4:A.dis U:=Hl.fj (jq uo f0);have Q:∀ K∈[gB b9 a0 l c,G,Hl.one b10 (.cells row.toArray 40 (0,0)),A],K.dis U:=by
   intro K hK;simp only[MQ,MV,Nt]at hK;rcases hK with rfl | rfl | rfl | rfl<;>assumption
  have hlen:=hI.len;have h4:lZ (FW (some (B+1))) dn Tryz.prog _ [Jd BO] a1 (r.putObj (B+1) (.loop (rc .busy none))):=HJ (ro:=some (B+1)) (b10:=b10) hU oG (by rw[M7];omega) hP sU
   (sW3 (Hl.le_sub C v) fun b hb=>(q b (Hl.le_mem C hb)).2.2) (sW3 (Hl.le_sub D v) fun b hb=>(q b (Hl.le_mem D hb)).2.2)
   (sW3 (O▸g.fsub) fun b hb=>by have:=f b hb;omega) (sW3 (cE hT.fsub g.gR) fun b hb=>by have:=f0 b hb;omega)
   od (jq (n:=W.heap.size) (fun b hb=>Oi (lo C b hb) w) f) (jq (lo C) f0) (jq (n:=W.heap.size) (fun b hb=>Oi (lo D b hb) w) f) (jq (lo D) f0) (Hl.fj (jq aa f))
   e1 e2 e3 e4 ab ad t6 t7 t9 t10
  refine wpIn_mono h4 ?_;intro e a2 W4 h;have fin:∀ {Hs':List Hl} {F':Hl} {pre':List Pc},Turned (r.putObj (B+1) (.loop (rc .busy none))) W4 [gB b9 a0 l c,G,Hl.one b10 (.cells row.toArray 40 (0,0)),A] Hs' F'->gX F' b9 (pre'.map (mQ all T))->pre'.length<=(min most 8).toNat ->
   rows B (rc .busy none) W4/\∀ o,tf w0 B U b9 (min most 8).toNat all T pre' (W4.putObj (B+1) o):=by
   intro Hs' F' pre' d R hl;have ah:=lI af d fun H E b hb=>(m H E b hb).2;refine⟨ah,fun o=>tf.put ⟨rT ag d fun H E b hb=>(m H E b hb).1,by have:=d.size;omega,uM sU d Q,hl,F',d.fsub,R,fun b ⟨x,y⟩=>?_,fun b hb=>?_⟩ hB (fun hm=>(F _ hm).2 rfl) o⟩
   .rcases d.fdom b x with ⟨K,hK,hm⟩ | ai
    .exact Q K hK b ⟨hm,y⟩
    .have:=Hl.sub_lt sU y;omega
   .rcases d.fdom b hb with ⟨K,hK,hm⟩ | ai
    .exact m K hK b hm
    .omega
  have S:(pre.map (mQ all T)).length=pre.length:=M7 _;cases e with
  | normal =>
   obtain⟨Hs',F',d,V⟩:=h;rcases V with ⟨he,_⟩ | ⟨_,aj,R⟩
   .cases he
   .rw[S]at aj;obtain⟨hr,hz⟩:=fin (pre':=pre++[p]) d (by rw[M9];exact R) (by rw[MJ,Nq];omega);exact⟨hr,hz _⟩
  | exit j =>
   obtain⟨Hs',F',d,V⟩:=h;rcases V with ⟨he,hle,R⟩ | ⟨he,_⟩
   .obtain rfl:j=0:=by cases he;rfl
    rw[S]at hle;obtain⟨hr,hz⟩:=fin (pre':=pre) d R hlen;exact⟨hr,rfl,pre,by rw[t];exact oD ae hk,hle,hz _⟩
   .cases he
  | _ =>
   obtain⟨Hs',F',d,V⟩:=h;rcases V with ⟨he,_⟩ | ⟨he,_⟩<;>cases he
 | _=>exact absurd h.1 ar
noncomputable def jn:Sx.Spec where
 fn:=106
 own:=[]
 rd:=[0,1002001]
 res:=[.one .sl]
 pre:=fun xs Hs Rs=>∃ (x:Nat) (R a:Hl) (st:Nat->List Pc) (cv:Nat->Int) (all:Bool) (u:Value) (T:List (List Int)) (most:Int),xs=[.pointer (some ⟨x,0,none⟩),vk cv,.agg #[.bool all,u],.int .i64 most]/\Rs=[R,a]/\fa R x st/\gN st/\Good st/\RdRows a u dg (T.map bys)/\bO T/\(∀ i,i<6->(st i).length<=400)/\∀ i,i<6->0<=cv i/\cv i<18446744073709551616
 post:=fun xs Hs Rs v Hs' F=>∀ (x:Nat) (R a:Hl) (st:Nat->List Pc) (cv:Nat->Int) (all:Bool) (u:Value) (T:List (List Int)) (most:Int),xs=[.pointer (some ⟨x,0,none⟩),vk cv,.agg #[.bool all,u],.int .i64 most]->Rs=[R,a]->fa R x st->RdRows a u dg (T.map bys)->fS F F v (dY st cv all T most)
def yG (a b c d:Value) (r:Array Value):((#[a,b,c,d]:Array Value)++r)[0]?=some a/\((#[a,b,c,d]:Array Value)++r)[1]?=some b/\((#[a,b,c,d]:Array Value)++r)[2]?=some c/\((#[a,b,c,d]:Array Value)++r)[3]?=some d/\((#[a,b,c,d]:Array Value)++r).size=4+r.size:=by
 obtain⟨r⟩:=r;refine⟨ar,ar,ar,ar,by simp;omega⟩
def gX.rows {b9:Nat} (h:gX F b9 L):∃ a l c:Int,F.cell b9 0=some (.slice (slP a 0) l.toNat c.toNat)/\ -1<=a/\0<=l/\0<=c/\fS F F (.slice (slP a 0) l.toNat c.toNat) L:=by
 obtain⟨a,l,c,G,KB,rows,h1,h2,_,o⟩:=h;refine⟨a,l,c,?_,o.a1,by have:=o.ll;omega,o.c0,rows,cQ o.own.rd h2,o.rl,fun j row p a b=>(o.pc j row p a b).mono (fun k x hx=>h2 k x (o.kb k x hx)) (fun k x hx=>h2 k x (o.kb k x hx))⟩;unfold Hl.cell;rw[h1 b9 _ (Hl.one_self _ _)];rfl
def Be {cur:Nat->Nat} {m:Nat} (h:bF st cur k 6=[]) (hl:(bo st cur k).length<=m) (a:∀ i,i<6->(st i).length<=400):(bo st cur 401).take m=bo st cur k:=by
 have e:bo st cur 401=bo st cur k:=by
  rcases Nat.le_total k 401 with hk | hk
  .exact lO h hk
  .rw[pG a (m:=401) ae,pG a (m:=k) ae]
 rw[e,Od hl]
def Et {U c:Hl} {b9 b1 b2:Nat} {all:Bool} {T:List (List Int)} (hS:JI F b6 b7 b9 b1 b2 x cv all u most) (d:(F.minus (Hl.one b9 (.cells #[.slice none 0 0] 51 (0,0)))).le U) (e:R.le U) (g:c.le U)
 (hI:fa R x st) (hs:gN st) (hg:Good st) (a:∀ i,i<6->0<=cv i/\cv i<18446744073709551616) (hU:RdRows c u dg (T.map bys)) (hT:bO T):I6 U b1 b2 x st cv/\JJ U b6 b7 all u T most:=by
 have at':∀ {b:Nat} {o:Obj},b≠b9->F b=some o->U b=some o:=fun {b o} hb ho=>d b o (by
  unfold Hl.minus;exact(MM (fun h=>hb (Hl.one_mem.1 h))).trans ho)
 have cell:∀ {b:Nat} {cs:Array Value} {t:TypeId} {f:Nat×Nat} (j:Nat),b≠b9->F b=some (.cells cs t f)->U.cell b j=cs[j]?:=fun {b cs t f} j hb ho=>by unfold Hl.cell;rw[at' hb ho]
 refine⟨⟨(cell 0 hS.n1 hS.w1).trans rfl,fun i hi=>(cell i hS.n2 hS.w2).trans ?_,a,hI.mono e,hs,hg⟩,⟨(cell 0 hS.n6 hS.w6).trans rfl,(cell 1 hS.n6 hS.w6).trans rfl,(cell 0 hS.n7 hS.w7).trans rfl,cQ hU g,hT⟩⟩;have:i=0\/i=1\/i=2\/i=3\/i=4\/i=5:=ae;rcases this with rfl | rfl | rfl | rfl | rfl | rfl<;>rfl
def wX:jn.OK Tryz.prog:=by
 intro w xs Hs Rs ad au av D aw ax E;obtain⟨x,R,y,st,cv,all,u,T,most,rfl,rfl,hI,af,ag,hU,hT,hlen,ah⟩:=E;have e0:Hs=[]:=MF.1 ad;subst e0;obtain⟨I,M,uc,rfl,az,_⟩:=id hU;have sR:R.sub w:=D R ar;have sW:y.sub w:=D y ar;have hf:Tryz.prog.funcs[106]?=some Tryz.f106:=by kernel_rfl
 have hb:Tryz.f106.body=some yP:=by kernel_rfl
 have ai:Tryz.f106.ntmps=31:=by kernel_rfl
 have aj:Tryz.f106.results=#[.tmp 8]:=by kernel_rfl
 have z:yP=.seq (fc yP) (.seq (fc (cA yP)) (.seq (.seq (fc (fc (cA (cA yP)))) (.block 0 (.rangeFunc (.tmp 13) #[14] (Hr BO) (Jd BO)))) (.seq (fc (cA (cA (cA yP)))) .ret))):=by kernel_rfl
 refine callsIn_wide.1 (callsIn_of_wp_marks (n:=5) hf hb trivial ?_ rfl);rw[ai,z];obtain⟨n0,n1,n2,n3,n4⟩:=yG (.pointer (some ⟨x,0,none⟩)) (vk cv) (.agg #[.bool all,.slice (slP I M) (T.map bys).length uc]) (.int .i64 most) (Array.replicate (31-4) undef);have h0:=HG (x:=x) (cv:=cv) (all:=all) (p:=(I,M)) (ul:=(T.map bys).length) (uc:=uc) (most:=most) (a:={tmps:=(#[.pointer (some ⟨x,0,none⟩),vk cv,.agg #[.bool all,.slice (slP I M) (T.map bys).length uc],.int .i64 most]:Array Value)++Array.replicate (31-4) undef,defers:=[]}) (w:=w) (dn:=5) (n4.trans (by rw[PX])) rfl n0 n1 n2 n3;refine wpIn_seq (wpIn_mono h0 ?_);intro e a1 w1 h0;cases e with
 | normal =>
  refine wpIn_seq (wpIn_mono h0 ?_);intro e a1 w1 h0;cases e with
  | normal =>
   refine wpIn_seq (wpIn_seq (wpIn_mono h0 ?_));intro e a1 w1 h0;cases e with
   | normal =>
    obtain⟨_,hsz,ak,b6,b7,b9,b1,b2,F,t6,t7,t9,t13,f,hS⟩:=h0;have o9:=hS.w9;have hF:∀ b,F.mem b->w.heap.size<=b:=fun b hb=>(f.fdom b hb).resolve_left ar;have aA:=hF b9 (Hl.mem_of o9);have d:∀ H∈[R,y,F.minus (Hl.one b9 (.cells #[.slice none 0 0] 51 (0,0)))],H.sub w1:=by
     intro H O;simp only[MQ,MV,Nt]at O;rcases O with rfl | rfl | rfl
     .exact cE sR f.gR
     .exact cE sW f.gR
     .exact Hl.le_sub (Hl.jT _ _) f.fsub
    have sU:=hls_sub d;have P:=iM d (R:=R) ar;have S:=iM d (R:=y) ar;obtain⟨V,X⟩:=Et hS (iM d ar) P S hI af ag ah hU hT;have nU:¬(hls [R,y,F.minus (Hl.one b9 (.cells #[.slice none 0 0] 51 (0,0)))]).mem b9:=fun hm=>by
     obtain⟨H,O,A⟩:=hls_mem.1 hm;simp only[MQ,MV,Nt]at O;rcases O with rfl | rfl | rfl
     .have:=Hl.sub_lt sR A;omega
     .have:=Hl.sub_lt sW A;omega
     .exact Hl.pj F (Hl.one b9 (.cells #[.slice none 0 0] 51 (0,0))) b9 ⟨Hl.one_mem.2 rfl,A⟩
    generalize hls [R,y,F.minus (Hl.one b9 (.cells #[.slice none 0 0] 51 (0,0)))]=U at sU P S V X nU;have aa:∀ b,U.mem b->b≠w1.heap.size/\b≠w1.heap.size+1:=fun b hb=>by have:=Hl.sub_lt sU hb;omega
    have m:∀ (pre:List Pc) (W:World) (r:Loop) (o:Obj),tf w w1.heap.size U b9 (min most 8).toNat all T pre W->pre.map (mQ all T)=dY st cv all T most->rows w1.heap.size r W->∀ (o:Loop) {Q},
     (∀ W' v F',Turned w W' [] [] F'->(∃ a l c:Int,v=.slice (slP a 0) l.toNat c.toNat/\ -1<=a/\0<=l/\0<=c)->fS F' F' v (dY st cv all T most)->Q (.returned v) W') ->
     (Code.seq (fc (cA (cA (cA yP)))) .ret).wpIn Fence.wide 5 Tryz.prog (bodyPostM Fence.wide 5 Tryz.prog Tryz.f106 Q) {a1 with defers:={target:=.collected w1.heap.size,args:=#[]}::a1.defers} (W.putObj (w1.heap.size+1) (.loop o)):=by
     intro pre W r _ hI hp hr o Q hQ;have g:=hI.put f.size (fun hm=>(aa _ hm).2 rfl) (.loop o);have al:=kn (r':=o) hr;obtain⟨Fo,f1,f2,f3,f4⟩:=g.out;rw[hp]at f2;obtain⟨a,l,c,hc,ha,hl,an,B⟩:=f2.rows;refine wpIn_seq (xA (p:=9) (d0:=30) (d1:=8) (T:=51) (b:=b9) rfl rfl rfl rfl rfl rfl (by show 30<a1.tmps.size;omega) t9 zzK (Hl.sub_cell f1 hc) (wpIn_ret ?_));refine⟨ar,.inl ⟨_,_,rfl,run_takeDeferred al.2,?_⟩⟩;have kk:Keep (fun _=>False) w ((W.putObj (w1.heap.size+1) (.loop o)).putObj w1.heap.size (.deferred none)):=nr g.keep f.size _;have hs:Fo.sub ((W.putObj (w1.heap.size+1) (.loop o)).putObj w1.heap.size (.deferred none)):=mH f1 (fun hm=>(f4 _ hm).2.1 rfl) _;have hv:∀ v:Value,((({a1 with defers:={target:=.collected w1.heap.size,args:=#[]}::a1.defers} : Act).put (some 30) v).put (some 8) v).tmps[8]?=some v:=fun v=>by
      simp [Act.put,Na,hsz]
     rw[ak]at hv ⊢;refine⟨_,results_tmp aj _ _ _,?_⟩;have e8:∀ (t:Array Value) (v:Value),t[8]?=some v->t.getD 8 undef=v:=fun t v h=>by
      rw[Array.getD_eq_getD_getElem?,h];rfl
     rw[e8 _ _ (hv _)];exact hQ _ _ Fo ⟨kk.os,kk.tape,kk.output,kk.size,fun b hb _=>kk.block b hb Qo,rfl,fun H h=>(nomatch h),hs,fun H h=>(nomatch h),fun b hb=>Or.inr (f4 b hb).1,fun p q H K _ h=>(by simp at h),fun H h=>(nomatch h)⟩ ⟨a,l,c,rfl,ha,hl,an⟩ B
    have hg:a1.eval (.tmp 13)=.func (.func 180) #[] #[.pointer (some ⟨b1,0,none⟩),.pointer (some ⟨b2,0,none⟩)]:=by simp [Act.eval,t13,pN]
    have hQ:∀ (W':World) (v:Value) (F':Hl),Turned w W' [] [] F'->(∃ a l c:Int,v=.slice (slP a 0) l.toNat c.toNat/\ -1<=a/\0<=l/\0<=c)->fS F' F' v (dY st cv all T most) ->
     ∃ (J:Env) (Hs':List Hl) (F:Hl),Ending.returned v=.returned ((cpTV 0 jn.res).ev J)/\cpNorms 0 jn.res J/\Turned w W' [] Hs' F/\jn.post [.pointer (some ⟨x,0,none⟩),vk cv,.agg #[.bool all,.slice (slP I M) (T.map bys).length uc],.int .i64 most] [] [R,y] ((cpTV 0 jn.res).ev J) Hs' F:=by
     rintro W' v F' ao ⟨a,l,c,rfl,ha,hl,hc⟩ hr;refine⟨(ay fun k=>if k=0 then a else if k=2 then l else if k=3 then c else 0),[],F',rfl,⟨⟨ha,MT 0,hl,hc⟩,zzT⟩,ao,?_⟩;intro x' R' aB st' cv' ab u' T' C e1 e2 g aq;simp only[MH,MZ]at e1 e2;obtain⟨ex,ec,eu,em⟩:=e1;obtain⟨rfl,rfl⟩:=e2;obtain rfl:x=x':=by simpa using ex
     obtain⟨rfl,rfl⟩:all=ab/\Value.slice (slP I M) (T.map bys).length uc=u':=by simpa using eu
     obtain rfl:most=C:=by simpa using em
     have eT:=bm (hU.uniq aq);subst eT;rw[<-jE (fun i hi=>hI.st g hi) (vl ec)];exact hr
    have eC:∀ {o:Obj},w1.heap[b9]?=some o->(Hl.one b9 o).sub w1:=fun h i x hx=>by
     obtain⟨rfl,rfl⟩:=Hl.one_eq hx;exact h
    refine wpIn_block (yy (gf:=180) (lb:=#[.pointer (some ⟨b1,0,none⟩),.pointer (some ⟨b2,0,none⟩)]) (Y:=Ha (tf w w1.heap.size U b9 (min most 8).toNat all T) st cv) (Z:=fun s W=>tf w w1.heap.size U b9 (min most 8).toNat all T (s.1++[s.2.1]) W) (args:=fun s=>#[.agg s.2.2.toArray])
     (Done:=fun W=>∃ k,bF st (dr cv) k 6=[]/\tf w w1.heap.size U b9 (min most 8).toNat all T (bo st (dr cv) k) W)
     (Ix:=fun i W=>i=0/\∃ pre,pre <+: bo st (dr cv) 401/\min most 8<=pre.length/\tf w w1.heap.size U b9 (min most 8).toNat all T pre W) hg (fun args w=>enterB_run zzK args w) (fun s=>rfl) ?_ ?_ ?_ ?_)
    .intro rc;refine wY V (N:=400) hlen ae (fun pre W h=>h.u) (fun pre W W' h k=>h.mono k) ?_;have k2:=mm (nq w1 (.deferred (some []))) (nq (w1.alloc (.deferred (some []))) (.loop rc));refine⟨mm f.gR k2,by simp [World.size_alloc],cE sU k2,NO _,_,?_,gX.mk (b9:=b9) (a:= -1) (l:=0) (c:=0) (G:=Hl.none) (KB:=Hl.none) (rows:=[]) (L:=[]) (Hl.dis_none _) ⟨ae,rfl,ae,OwR.nil _ _ _,rfl,fun b o h=>(by cases h),fun b h=>(by cases h),fun j row p h=>by simp at h⟩,?_,?_⟩
     .rw[dw,Hl.un_none];exact cE (eC (f.fsub _ _ o9)) k2
     .rw[dw,Hl.un_none];exact fun b ⟨h1,h2⟩=>nU (Hl.one_mem.1 h1▸h2)
     .rw[dw,Hl.un_none];intro b hb;have e:=Hl.one_mem.1 hb;have:=Hl.sub_lt f.fsub (Hl.mem_of o9);omega
    .intro rc s W hY hr;obtain⟨s1,s2,s3,s4,s5⟩:=IQ (.agg s.2.2.toArray) hsz;have ez:∀ v:Value,((#[14]:Array Tmp).zip #[v]).foldl (fun t (x:Tmp×Value)=>match x with | (p,v)=>t.setIfInBounds p v) a1.tmps=a1.tmps.setIfInBounds 14 v:=fun v=>ar;show(Hr BO).wpIn _ _ _ _ {tmps:=((#[14]:Array Tmp).zip #[Value.agg s.2.2.toArray]).foldl (fun t (x:Tmp×Value)=>match x with | (p,v)=>t.setIfInBounds p v) a1.tmps,defers:=[]} _;rw[ez];exact yQ X aa f.size hY hr hlen s1 rfl (s2.trans t6) (s3.trans t7) (s4.trans t9) s5
    .rintro r r' W ⟨k,hk,g⟩ hr;refine m _ W r (.loop r') g ?_ hr r' hQ;unfold dY;rw[Be hk g.len hlen]
    .rintro r r' i W ⟨rfl,pre,hp,hle,g⟩ hr;refine m _ W r (.loop r') g ?_ hr r' hQ;unfold dY;rw[oi hp (by have:=g.len;omega)]
   | _=>exact absurd h0.1 ar
  | _=>exact absurd h0.1 ar
 | _=>exact absurd h0.1 ar
end Go.Proofs.YtbdikjnpbnobcaaGreatDoor
namespace Go.Proofs.YtbdikjnpbnobcaaGreatDoor
open Go Go.RowKit Go.Extern.Stop Go.Stop Go.Extern
def uk (t:Addr) (w:World):(ReflectliteValue.unpack (.iface 148 (.pointer (some t)))).run Tryz.prog w=.ok (.agg #[.pointer (some ⟨9,148,none⟩),.pointer (some ⟨w.heap.size,0,none⟩),.int .u64 150]) (w.alloc (.cells #[.pointer (some t)] 148)):=by kernel_rfl
def CP (a:Addr) (w:World):(ReflectliteValue.methodAny (ReflectliteValue.valueError "reflectlite.Value.Type" 0) (fun t _ _ _=>ReflectliteType.toType t) #[.agg #[.pointer (some ⟨9,148,none⟩),.pointer (some a),.int .u64 150]]).run Tryz.prog w=.ok (.iface 254 (.agg #[.pointer (some ⟨9,148,none⟩)])) w:=by kernel_rfl
def CM (h:Value) (w:World):(Go.method 430 254 (.agg #[h]) "Kind").run Tryz.prog w=.ok (221,h) w:=by kernel_rfl
def CJ (w:World):((ReflectliteType.abiMethod fun t=>(fun a:Nat=>Value.int IntKind.u8 (a:Int)) <$>Rtype.kind t) #[.pointer (some ⟨9,148,none⟩)]).run Tryz.prog w=.ok (.int .u8 22) w:=by kernel_rfl
def CI (w:World):((ReflectliteType.abiMethod fun t=>(fun a:Nat=>Value.int IntKind.u8 (a:Int)) <$>Rtype.kind t) #[.pointer (some ⟨9,146,none⟩)]).run Tryz.prog w=.ok (.int .u8 22) w:=by kernel_rfl
def DT (z:Sem Value) (f:TypeId->Addr->Nat->Nat->Sem Value) (v:Value):ReflectliteValue.method z f #[v]=(do match<-ReflectliteValue.parts v with | none=>z | some (t,a,fl)=>f t a fl (fl%32)):=rfl
def sD (a:Addr) (w:World):(ReflectliteValue.parts (.agg #[.pointer (some ⟨9,148,none⟩),.pointer (some a),.int .u64 150])).run Tryz.prog w=.ok (some (148,a,150)) w:=by kernel_rfl
def AF (a p:Addr) (W:World) (b:W.cell? a=some (.pointer (some p))):(ReflectliteValue.method (ReflectliteValue.valueError "reflectlite.Value.IsNil" 0) ReflectliteValue.isNil #[.agg #[.pointer (some ⟨9,148,none⟩),.pointer (some a),.int .u64 150]]).run Tryz.prog W=.ok (.bool false) W:=by
 rw[DT];simp only[Sem.run_bind,sD,Result.andThen];simp [ReflectliteValue.isNil,loadVar,isAgg,underlying,Tryz.underlying148,b,Result.andThen]
def CK (h:Value) (w:World):(Go.method 430 254 (.agg #[h]) "Elem").run Tryz.prog w=.ok (236,.agg #[h]) w:=by kernel_rfl
def CL (h:Value) (w:World):(Go.method 430 254 (.agg #[h]) "Implements").run Tryz.prog w=.ok (237,.agg #[h]) w:=by kernel_rfl
def FR (h:Value) (w:World):(Go.method 430 254 (.agg #[h]) "AssignableTo").run Tryz.prog w=.ok (234,.agg #[h]) w:=by kernel_rfl
def CG (w:World):(ReflectliteType.method ReflectliteType.elem #[.agg #[.pointer (some ⟨9,148,none⟩)]]).run Tryz.prog w=.ok (.iface 254 (.agg #[.pointer (some ⟨9,146,none⟩)])) w:=by kernel_rfl
def FQ (w:World):(ReflectliteType.relation "Implements" ReflectliteType.implements_ #[.agg #[.pointer (some ⟨9,146,none⟩)],.iface 254 (.agg #[.pointer (some ⟨9,82,none⟩)])]).run Tryz.prog w=.ok (.bool true) w:=by kernel_rfl
def CN (v:Value) (w:World):(ReflectliteType.typeOf #[.iface 146 v]).run Tryz.prog w=.ok (.iface 254 (.agg #[.pointer (some ⟨9,146,none⟩)])) w:=by kernel_rfl
def CO (v:Value) (w:World):(ReflectliteType.typeOf #[.iface 205 v]).run Tryz.prog w=.ok (.iface 254 (.agg #[.pointer (some ⟨9,205,none⟩)])) w:=by kernel_rfl
def FO (w:World):(ReflectliteType.relation "AssignableTo" ReflectliteType.assignableTo #[.agg #[.pointer (some ⟨9,146,none⟩)],.iface 254 (.agg #[.pointer (some ⟨9,146,none⟩)])]).run Tryz.prog w=.ok (.bool true) w:=by kernel_rfl
def FP (w:World):(ReflectliteType.relation "AssignableTo" ReflectliteType.assignableTo #[.agg #[.pointer (some ⟨9,205,none⟩)],.iface 254 (.agg #[.pointer (some ⟨9,146,none⟩)])]).run Tryz.prog w=.ok (.bool false) w:=by kernel_rfl
def uj (e:Addr) (w:World):(ReflectliteValue.unpack (.iface 146 (.pointer (some e)))).run Tryz.prog w=.ok (.agg #[.pointer (some ⟨9,146,none⟩),.pointer (some ⟨w.heap.size,0,none⟩),.int .u64 150]) (w.alloc (.cells #[.pointer (some e)] 146)):=by kernel_rfl
def AE (w:World):(Rtype.elem? 148).run Tryz.prog w=.ok (some 146) w:=by kernel_rfl
def K7 (p:Addr) (w:World):(ReflectliteValue.mk 146 p ReflectliteValue.flagAddr).run Tryz.prog w=.ok (.agg #[.pointer (some ⟨9,146,none⟩),.pointer (some p),.int .u64 406]) w:=by kernel_rfl
def CH (a p:Addr) (W:World) (b:W.cell? a=some (.pointer (some p))):(ReflectliteValue.method (ReflectliteValue.valueError "reflectlite.Value.Elem" 0) ReflectliteValue.elem #[.agg #[.pointer (some ⟨9,148,none⟩),.pointer (some a),.int .u64 150]]).run Tryz.prog W=.ok (.agg #[.pointer (some ⟨9,146,none⟩),.pointer (some p),.int .u64 406]) W:=by
 rw[DT];simp only[Sem.run_bind,sD,Result.andThen];simp [ReflectliteValue.elem,loadVar,isAgg,underlying,Tryz.underlying148,b,Result.andThen,AE,K7]
def ID (v x:Value):ReflectliteValue.set #[v,x]=(do
 let (some (dst,a,fl),some (src,b,_)):=(<-ReflectliteValue.parts v,<-ReflectliteValue.parts x)
  | unsupported (.noEntry "extern/(internal/reflectlite.Value).Set.zeroValue")
 if fl/ReflectliteValue.flagAddr%2==0 then unsupported (.noEntry "extern/(internal/reflectlite.Value).Set.unaddressable")
 let val<-loadVar src b
 if<-Rtype.directlyAssignable dst src then storeVar dst a val
 else if<-Rtype.implements dst src then
  if(<-Rtype.kind src)==20 then
   match val with
   | .nilIface=>unsupported (.noEntry "extern/reflectlite: a nil value of one interface type handed on as a value of another")
   | _=>storeVar dst a val
  else storeVar dst a (.iface src val)
 else panicString ("reflectlite.Set: value of type "++(<-Rtype.spelt src)++ " is not assignable to type "++(<-Rtype.spelt dst))
 pure (.tuple #[])):=rfl
def xY (a:Addr) (w:World):(ReflectliteValue.parts (.agg #[.pointer (some ⟨9,146,none⟩),.pointer (some a),.int .u64 406])).run Tryz.prog w=.ok (some (146,a,406)) w:=by kernel_rfl
def AG (a:Addr) (w:World):(ReflectliteValue.parts (.agg #[.pointer (some ⟨9,146,none⟩),.pointer (some a),.int .u64 150])).run Tryz.prog w=.ok (some (146,a,150)) w:=by kernel_rfl
def AD (w:World):(Rtype.directlyAssignable 146 146).run Tryz.prog w=.ok true w:=by kernel_rfl
def IE (a b e:Addr) (old:Value) (W:World) (hb:W.cell? b=some (.pointer (some e))) (c:W.cell? a=some old) (hf:W.frozen? a=false) :
 (ReflectliteValue.set #[.agg #[.pointer (some ⟨9,146,none⟩),.pointer (some a),.int .u64 406],.agg #[.pointer (some ⟨9,146,none⟩),.pointer (some b),.int .u64 150]]).run Tryz.prog W=.ok (.tuple #[]) (W.setCell a (.pointer (some e))):=by
 rw[ID];simp only[Sem.run_bind,xY,AG,Result.andThen];simp [ReflectliteValue.flagAddr,loadVar,isAgg,underlying,Tryz.underlying146,hb,Result.andThen,AD,storeVar,Value.cells,storeCells,Addr.add];rw[run_store Tryz.prog W a _ _ (by rfl)];simp [c,hf]
def FT (v:Value) (a:TypeId) (w:World):(Instr.typeAssert (.iface 205 v) a 259 true).run Tryz.prog w=.ok (.tuple #[.nilIface,.bool false]) w:=run_typeAssert_lacksB Tryz.underlying259 (by kernel_rfl) (by kernel_rfl) v a w
def AH (v:Value) (a:TypeId) (w:World):(Instr.typeAssert (.iface 205 v) a 262 true).run Tryz.prog w=.ok (.tuple #[.iface 205 v,.bool true]) w:=run_typeAssert_hasB Tryz.underlying262 (by kernel_rfl) v a w
def xX (v:Value) (w:World):(Go.method 430 205 v "Unwrap").run Tryz.prog w=.ok (229,v) w:=by kernel_rfl
def tX (w:World):Calls Tryz.prog 30 #[.nilIface] w fun e w'=>e=.returned (.int .i64 0)/\Below w.heap.size w w':=by
 go_enter Tryz.func30,Tryz.ntmps30
 go_wp2
 go_ret
 exact⟨rfl,(Below.refl _ _).alloc (M1 _) _⟩
set_option maxRecDepth 20000 in
def tW (e:Nat) (s:ByteArray) (c:Int) (w:World) (hg:w.cell? ⟨1,0,none⟩=some (.iface 254 (.agg #[.pointer (some ⟨9,82,none⟩)])))
 (he:w.heap[e]?=some (.cells #[.string s,.int .i64 c] 150 (0,0))) :
 Calls Tryz.prog 30 #[.iface 205 (.agg #[.iface 146 (.pointer (some ⟨e,0,none⟩))])] w fun ev w'=>ev=.returned (.int .i64 c)/\Below w.heap.size w w':=by
 have h1:=@run_callFunc_extern Tryz.prog 131 _ (fun args=>ReflectliteValue.unpack (args.getD 0 (.tuple #[]))) Tryz.func131 (by kernel_rfl) (by kernel_rfl) (by kernel_rfl) (by kernel_rfl);have h2:=@run_callFunc_extern Tryz.prog 132 _ (ReflectliteValue.methodAny (ReflectliteValue.valueError "reflectlite.Value.Type" 0) (fun t _ _ _=>ReflectliteType.toType t)) Tryz.func132 (by kernel_rfl) (by kernel_rfl) (by kernel_rfl) (by kernel_rfl);have q:=@run_callFunc_extern Tryz.prog 133 _ (ReflectliteValue.method (ReflectliteValue.valueError "reflectlite.Value.IsNil" 0) ReflectliteValue.isNil) Tryz.func133 (by kernel_rfl) (by kernel_rfl) (by kernel_rfl) (by kernel_rfl);have r:=@run_callFunc_extern Tryz.prog 221 _ (ReflectliteType.abiMethod fun t=>do pure (.int .u8 (<-Rtype.kind t))) Tryz.func221 (by kernel_rfl) (by kernel_rfl) (by kernel_rfl) (by kernel_rfl);have u:=@run_callFunc_extern Tryz.prog 236 _ (ReflectliteType.method ReflectliteType.elem) Tryz.func236 (by kernel_rfl) (by kernel_rfl) (by kernel_rfl) (by kernel_rfl);have v:=@run_callFunc_extern Tryz.prog 237 _ (ReflectliteType.relation "Implements" ReflectliteType.implements_) Tryz.func237 (by kernel_rfl) (by kernel_rfl) (by kernel_rfl) (by kernel_rfl);have x:=@run_callFunc_extern Tryz.prog 170 _ (ReflectliteType.typeOf) Tryz.func170 (by kernel_rfl) (by kernel_rfl) (by kernel_rfl) (by kernel_rfl);have y:=@run_callFunc_extern Tryz.prog 234 _ (ReflectliteType.relation "AssignableTo" ReflectliteType.assignableTo) Tryz.func234 (by kernel_rfl) (by kernel_rfl) (by kernel_rfl) (by kernel_rfl);have z:=@run_callFunc_extern Tryz.prog 171 _ (ReflectliteValue.method (ReflectliteValue.valueError "reflectlite.Value.Elem" 0) ReflectliteValue.elem) Tryz.func171 (by kernel_rfl) (by kernel_rfl) (by kernel_rfl) (by kernel_rfl);have g:=@run_callFunc_extern Tryz.prog 172 _ (ReflectliteValue.set) Tryz.func172 (by kernel_rfl) (by kernel_rfl) (by kernel_rfl) (by kernel_rfl);have k0:=uk;have k1:=CP;have k2:=CM;have k3:=CJ;have k4:=CI;have k5:=CK;have k6:=CL;have A:=FR;have B:=CG;have C:=FQ;have i:=CN;have j:=CO;have k:=FO;have l:=FP;have m:=uj;have n:=FT;have o:=AH;have p:=xX;have a:1<w.heap.size:=by
  rcases ND 1 w.heap.size with h | h
  .exact h
  .simp [World.cell?,Pb h]at hg
 have b:e<w.heap.size:=(Ng.1 he).1;have Gx:(((w.alloc (.cells #[.pointer none] 146)).alloc (.cells #[.pointer (some ⟨w.heap.size,0,none⟩)] 148)).alloc (.cells #[.pointer (some ⟨9,148,none⟩),.pointer (some ⟨w.heap.size+1,0,none⟩),.int .u64 150] 209)).cell? ⟨1,0,none⟩=some (.iface 254 (.agg #[.pointer (some ⟨9,82,none⟩)])):=by
  rw[World.cell?_alloc_lt _ _ ⟨1,0,none⟩ (by first | (simp;done) | (simp;omega)),World.cell?_alloc_lt _ _ ⟨1,0,none⟩ (by first | (simp;done) | (simp;omega)),World.cell?_alloc_lt _ _ ⟨1,0,none⟩ a];exact hg
 have n3:=AF ⟨w.heap.size+1,0,none⟩ ⟨w.heap.size,0,none⟩ (((w.alloc (.cells #[.pointer none] 146)).alloc (.cells #[.pointer (some ⟨w.heap.size,0,none⟩)] 148)).alloc (.cells #[.pointer (some ⟨9,148,none⟩),.pointer (some ⟨w.heap.size+1,0,none⟩),.int .u64 150] 209)) (by rw[World.cell?_alloc_lt _ _ ⟨w.heap.size+1,0,none⟩ (by first | (simp;done) | (simp;omega)),World.cell?_alloc_at _ _ _ _ Sx.ar];rfl);have d:(((((w.alloc (.cells #[.pointer none] 146)).alloc (.cells #[.pointer (some ⟨w.heap.size,0,none⟩)] 148)).alloc (.cells #[.pointer (some ⟨9,148,none⟩),.pointer (some ⟨w.heap.size+1,0,none⟩),.int .u64 150] 209)).alloc (.cells #[.pointer (some ⟨9,148,none⟩),.pointer (some ⟨w.heap.size+1,0,none⟩),.int .u64 150] 209)).alloc (.cells #[.iface 146 (.pointer (some ⟨e,0,none⟩))] 205)).cell? ⟨w.heap.size,0,none⟩=some (.pointer none):=by
  rw[World.cell?_alloc_lt _ _ ⟨w.heap.size,0,none⟩ (by first | (simp;done) | (simp;omega)),World.cell?_alloc_lt _ _ ⟨w.heap.size,0,none⟩ (by first | (simp;done) | (simp;omega)),World.cell?_alloc_lt _ _ ⟨w.heap.size,0,none⟩ (by first | (simp;done) | (simp;omega)),World.cell?_alloc_lt _ _ ⟨w.heap.size,0,none⟩ (by first | (simp;done) | (simp;omega)),World.cell?_alloc_at _ _ _ _ Sx.ar];rfl
 have el:=CH ⟨w.heap.size+1,0,none⟩ ⟨w.heap.size,0,none⟩ (((((w.alloc (.cells #[.pointer none] 146)).alloc (.cells #[.pointer (some ⟨w.heap.size,0,none⟩)] 148)).alloc (.cells #[.pointer (some ⟨9,148,none⟩),.pointer (some ⟨w.heap.size+1,0,none⟩),.int .u64 150] 209)).alloc (.cells #[.pointer (some ⟨9,148,none⟩),.pointer (some ⟨w.heap.size+1,0,none⟩),.int .u64 150] 209)).alloc (.cells #[.iface 146 (.pointer (some ⟨e,0,none⟩))] 205)) (by
  rw[World.cell?_alloc_lt _ _ ⟨w.heap.size+1,0,none⟩ (by first | (simp;done) | (simp;omega)),World.cell?_alloc_lt _ _ ⟨w.heap.size+1,0,none⟩ (by first | (simp;done) | (simp;omega)),World.cell?_alloc_lt _ _ ⟨w.heap.size+1,0,none⟩ (by first | (simp;done) | (simp;omega)),World.cell?_alloc_at _ _ _ _ Sx.ar];rfl)
 have st:=IE ⟨w.heap.size,0,none⟩ ⟨w.heap.size+1+1+1+1+1,0,none⟩ ⟨e,0,none⟩ (.pointer none) ((((((w.alloc (.cells #[.pointer none] 146)).alloc (.cells #[.pointer (some ⟨w.heap.size,0,none⟩)] 148)).alloc (.cells #[.pointer (some ⟨9,148,none⟩),.pointer (some ⟨w.heap.size+1,0,none⟩),.int .u64 150] 209)).alloc (.cells #[.pointer (some ⟨9,148,none⟩),.pointer (some ⟨w.heap.size+1,0,none⟩),.int .u64 150] 209)).alloc (.cells #[.iface 146 (.pointer (some ⟨e,0,none⟩))] 205)).alloc (.cells #[.pointer (some ⟨e,0,none⟩)] 146))
  (by rw[World.cell?_alloc_at _ _ _ _ Sx.ar];rfl)
  (by rw[World.cell?_alloc_lt _ _ ⟨w.heap.size,0,none⟩ (by first | (simp;done) | (simp;omega))];exact d)
  (by rw[World.frozen?_alloc_old _ _ ⟨w.heap.size,0,none⟩ (by first | (simp;done) | (simp;omega)),World.frozen?_alloc_old _ _ ⟨w.heap.size,0,none⟩ (by first | (simp;done) | (simp;omega)),World.frozen?_alloc_old _ _ ⟨w.heap.size,0,none⟩ (by first | (simp;done) | (simp;omega)),World.frozen?_alloc_old _ _ ⟨w.heap.size,0,none⟩ (by first | (simp;done) | (simp;omega)),World.frozen?_alloc_old _ _ ⟨w.heap.size,0,none⟩ Sx.ar];simp)
 have f:Below w.heap.size w ((((((w.alloc (.cells #[.pointer (some ⟨e,0,none⟩)] 146)).alloc (.cells #[.pointer (some ⟨w.heap.size,0,none⟩)] 148)).alloc (.cells #[.pointer (some ⟨9,148,none⟩),.pointer (some ⟨w.heap.size+1,0,none⟩),.int .u64 150] 209)).alloc (.cells #[.pointer (some ⟨9,148,none⟩),.pointer (some ⟨w.heap.size+1,0,none⟩),.int .u64 150] 209)).alloc (.cells #[.iface 146 (.pointer (some ⟨e,0,none⟩))] 205)).alloc (.cells #[.pointer (some ⟨e,0,none⟩)] 146)):=((((((Below.refl _ _).alloc (M1 _) _).alloc Sx.ar _).alloc (by first | (simp;done) | (simp;omega)) _).alloc (by first | (simp;done) | (simp;omega)) _).alloc (by first | (simp;done) | (simp;omega)) _).alloc (by first | (simp;done) | (simp;omega)) _;have D:((((((w.alloc (.cells #[.pointer (some ⟨e,0,none⟩)] 146)).alloc (.cells #[.pointer (some ⟨w.heap.size,0,none⟩)] 148)).alloc (.cells #[.pointer (some ⟨9,148,none⟩),.pointer (some ⟨w.heap.size+1,0,none⟩),.int .u64 150] 209)).alloc (.cells #[.pointer (some ⟨9,148,none⟩),.pointer (some ⟨w.heap.size+1,0,none⟩),.int .u64 150] 209)).alloc (.cells #[.iface 146 (.pointer (some ⟨e,0,none⟩))] 205)).alloc (.cells #[.pointer (some ⟨e,0,none⟩)] 146)).cell? ⟨e,1,none⟩=some (.int .i64 c):=by
  rw[f.cell b];simp [World.cell?,he]
 go_enter Tryz.func30,Tryz.ntmps30
 go_wp2
 refine wp_loop_rounds 2 ?_;rw[rounds_succ]
 go_wp2
 rw[rounds_succ]
 go_wp2
 go_ret
 exact⟨rfl,f⟩
end Go.Proofs.YtbdikjnpbnobcaaGreatDoor
namespace Go.Proofs.YtbdikjnpbnobcaaGreatDoor
open Go Go.Sx Go.RowKit
variable {v:Value}
def ru:Value:=.iface 254 (.agg #[.pointer (some ⟨9,82,none⟩)])
def Ic (b:Nat):Value:=.iface 205 (.agg #[.iface 146 (.pointer (some ⟨b,0,none⟩))])
def lu (R:Hl) (v:Value) (c:Int):Prop:=(c=0/\v=.nilIface)\/∃ (b:Nat) (s:ByteArray),v=Ic b/\R b=some (.cells #[.string s,.int .i64 c] 150 (0,0))
def lu.L4 {R:Hl} {c d:Int} (h:lu R v c) (k:lu R v d):c=d:=by
 rcases h with ⟨rfl,rfl⟩ | ⟨b,s,rfl,hb⟩<;>rcases k with ⟨rfl,e⟩ | ⟨b',f,e,a⟩
 .rfl
 .cases e
 .cases e
 .simp only[Ic,Value.iface.injEq,Nz,Value.agg.injEq,Nc,MH,MZ,Value.pointer.injEq,MP,Addr.mk.injEq]at e;subst e;rw[hb]at a;simp at a;exact a.2
def kS:Sx.Spec where
 fn:=30
 own:=[]
 rd:=[7000150,2000001]
 res:=[.one (.int .i64)]
 pre:=fun xs Hs Rs=>∃ e R G c,xs=[e]/\Rs=[R,G]/\G.cell 1 0=some ru/\lu R e c
 post:=fun xs Hs Rs v Hs' F=>∃ e R G,xs=[e]/\Rs=[R,G]/\∀ c,lu R e c->v=.int .i64 c
def Hl.za {R:Hl} {w:World} (h:R.sub w) {b y:Nat} (a:R.cell b y=some v):w.cell? ⟨b,y,none⟩=some v:=by
 unfold Hl.cell at a;cases hb:R b with
 | none=>rw[hb]at a;cases a
 | some o =>
  have hw:=h _ _ hb;rw[hb]at a;cases o with
  | cells c t f=>simp only[World.cell?,hw];exact a
  | _=>simp at a
def pC:kS.OK Tryz.prog:=by
 refine calls_spec rfl fun w xs Rs hs ⟨e,R,G,c,e1,a,f,hN⟩=>?_;subst e1 a;refine⟨.int .i64 c,⟨⟨fun _=>c,fun _=>true,fun _=>.empty,fun _=>.tuple #[],fun _=>Hl.none⟩,rfl,zzT,zzT⟩,?_,_,_,_,rfl,rfl,fun d hd=>by rw[hN.L4 hd]⟩;have g:=hs R ar;have hg:=Hl.za (hs G ar) f;rcases hN with ⟨rfl,rfl⟩ | ⟨b,s,rfl,hb⟩
 .exact tX w
 .exact tW b s c w hg (g _ _ hb)
end Go.Proofs.YtbdikjnpbnobcaaGreatDoor
namespace Go.Proofs.YtbdikjnpbnobcaaGreatDoor
open Go Go.Sx Go.Pk
variable {R R1 R2:Hl}{row:List Value}
noncomputable def cN (p:Pc):List Int:=ak (aB p.h)++ak p.b
def zA {h:Hd} (hx:aG R row h):(aB h).length<=392:=by
 unfold aB;split
 .rename_i hf;have:=jI hx hf.2.1;unfold cn;rw[MJ,aC];omega
 .exact NO _
def Ag {n:Nat} (h:n<16384):(aq n).length<=2:=by
 unfold aq;split
 .simp
 .rw[Nk];unfold aq;rw[M0 ae];simp
def iE {b:List Int} (h:b.length<=4096):(ak b).length<=b.length+2:=by
 unfold ak;rw[MJ];have:=Ag (n:=b.length) ae;omega
def wu {p:Pc} (hx:aV R1 R2 row p) (hb:p.b.length<=2100):(cN p).length<=3036/\(cN p).length<=396+p.b.length:=by
 have h1:=zA hx.hd;have h2:=iE (b:=aB p.h) ae;have a:=iE (b:=p.b) ae;unfold cN;rw[MJ];omega
noncomputable def mA:Sx.Spec where
 fn:=112
 own:=[]
 rd:=[1000053,1000125]
 res:=[.one .sl,.one .any]
 pre:=fun xs Hs Rs=>∃ row T B p,xs=[.agg row.toArray]/\Rs=[T,B]/\aV T B row p/\p.b.length<=2100
 post:=fun xs Hs Rs v Hs' F=>∃ u,v=.tuple #[u,.nilIface]/\∀ row T B p,xs=[.agg row.toArray]->Rs=[T,B]->aV T B row p->RdW F u (cN p)
noncomputable def JA:List Sx.Spec:=[bytesS 116,ef,fw]
def FY:∀ t∈JA,t.OK Tryz.prog:=ai hJ <| ai kO <| ai gb <| aD
def Lb (f:FuncId):(bytesS f).res=[.one .sl]:=rfl
def Lc:ef.res=[]:=rfl
def Ld:fw.res=[.one .sl,.one (.int .i64)]:=rfl
def La (n:Nat):(cpRoots n [Cp.one .sl,Cp.one (.int .i64)]≠[])=True:=by simp [cpRoots,Cp.roots,Ck.root]
noncomputable def wv:Walk Tryz.prog JA mA.fn where
 Λ:=noLoops
 args:=(cpSVs 0 [.agg ti]).map .sv
 mem:=[.ro 132 [.var 53] false,.ro 133 [.var 128] true]
 nv:=134
set_option maxRecDepth 20000 in
def uz:mA.OK Tryz.prog:=by
 refine Spec.of_fn (Γ:=JA) FY ?_;rintro xs Hs Rs e l ⟨row,T,B,p,rfl,rfl,hx,hlen⟩;have e0:Hs=[]:=MF.1 e;subst e0;obtain⟨J,rfl,K,hh⟩:=fL (ks:=bC) [(132,T),(133,B)] hx.ok;have w1:J.h 132=T:=hh 132;have w2:J.h 133=B:=hh 133;refine⟨wv,J,fun _ _=>True,fun _ _=>0,rfl,bM (by intro r hr;simp [wv]at hr;rcases hr with rfl | rfl<;>exact⟨_,_,_,rfl⟩) (by show [J.h 132,J.h 133]=_;rw[w1,w2]),(fun _ h=>nomatch h),?_⟩;refine Walk.read [aI] [] [] ?_;simp only[go_sem,Nat.reduceAdd,JA,Lb,Lc,Ld,La,BB];generalize c:(ckCVs 0 bC).map (CV.ev J)=row at *;have m:(ckCVs 0 aI).map (CV.ev J)=row.take 125:=by rw[<-c,kg]
 have o:Value.slice (slP (J.i 128) (J.i 129)) (J.i 130).toNat (J.i 131).toNat=row.getD 125 cC:=by rw[<-c,wb]
 have V:∀ q:Env,Agree 134 J q->q.h 132=T/\q.h 133=B/\(ckCVs 0 aI).map (CV.ev q)=row.take 125/\Value.slice (slP (q.i 128) (q.i 129)) (q.i 130).toNat (q.i 131).toNat=row.getD 125 cC:=fun q g=>by
  refine⟨by rw[g.h 132,w1],by rw[g.h 133,w2],?_,?_⟩
  .rw[<-m];exact Ns Array.toList (Value.agg.inj (ev_ag (ks:=aI) (n:=0) g aj))
  .rw[g.i 128,g.i 129,g.i 130,g.i 131];exact o
 intro q1 L p1 q2 M p2;have G:Agree 134 J q2:=L.tr M;obtain⟨N,x3,O,xb⟩:=V q2 G;rw[O,N];refine⟨⟨_,T,p.h,rfl,rfl,hx.hd⟩,fun d g3 ⟨F3,s,t,P⟩=>?_⟩;have hB:=mf hx.hd s;rw[<-t zzT]at hB;have p3:0<=d.i 135:=by rw[g3.i 135];exact p2
 have Q:Hl.one (d.i 135).toNat (Obj.cells #[Value.slice (slP (-1) 0) (Int.toNat 0) (Int.toNat 0),Value.bool (bev d E.ff)] 124 (0,0))=Hl.one (d.i 135).toNat (.cells #[.slice none 0 0,.bool false] 124 (0,0)):=rfl;have v:∀ q:Env,q.i 135=d.i 135->Value.pointer (slP (q.i 135) 0)=.pointer (some ⟨(d.i 135).toNat,0,none⟩):=fun q h=>by rw[h,slP_pos p3];rfl
 rw[Q,v d rfl];have h1:=zA hx.hd;refine⟨⟨_,_,_,_,[],false,_,rfl,rfl,rfl,ax.new _,hB.rd.w,ar,ae⟩,fun x g4 ⟨F4,⟨y,R,H',R',bs,lg,b2,z,f1,f2,f3,f4,f5,f6,f7⟩,_⟩=>?_⟩;simp only[MH,MZ]at f1 f2 f3 f6;obtain⟨rfl,rfl⟩:=f1;subst f2 f3 f6;obtain⟨rfl,rfl⟩:=(ax.new _).uniq f4;obtain rfl:=hB.rd.w.uniq f5;have t4:bT [] false (aB p.h)=(ak (aB p.h),false):=by unfold bT;rw[MM ae];rfl
 rw[t4]at f7;have f7:ax _ _ (ak (aB p.h)) false:=f7;have S:Agree 134 J x:=G.trans (g3.mono.tr g4);obtain⟨y2,U,yr,W⟩:=V x S;rw[v x (g4.i 135),W,U];have e:=iE (b:=aB p.h) ae;have l:=iE (b:=p.b) ae;refine⟨⟨_,_,_,_,_,false,p.b,rfl,rfl,rfl,f7,hx.body,ae,ae⟩,fun X Y ⟨F5,⟨y,R,H',R',bs,lg,b2,z,k1,k2,k3,k4,k5,k6,f⟩,_⟩=>?_⟩;simp only[MH,MZ]at k1 k2 k3 k6;obtain⟨rfl,rfl⟩:=k1;subst k2 k3 k6;obtain⟨rfl,rfl⟩:=f7.uniq k4;obtain rfl:=hx.body.uniq k5;have t5:bT (ak (aB p.h)) false p.b=(cN p,false):=by unfold bT;rw[MM ae];rfl
 rw[t5]at f;have f:ax _ _ (cN p) false:=f;rw[v X (by rw[Y.i 135,g4.i 135])];have Z:(cN p).length<=16384:=by unfold cN;rw[MJ];omega
 refine⟨⟨_,_,_,false,rfl,rfl,f,ae⟩,fun H g6 ⟨F6,⟨y,R',bs,lg,u,m1,m2,m3,j,A⟩,C,a⟩=>?_⟩;simp only[MH,MZ]at m1 m2;subst m1 m2;obtain⟨rfl,rfl⟩:=f.uniq m3;have t6:fk (cN p) false=(cN p,0):=by unfold fk;rw[MM (by simp;omega)]
 rw[t6]at j A;simp only[Value.tuple.injEq,Nc,MH,Value.int.injEq,Nz,MZ]at j;rw[<-j.1,<-C zzT]at A;refine⟨fun _ _=>?_,fun D=>absurd j.2 D⟩;have a:=a.1;refine⟨[],[5],rfl,rfl,⟨⟨fun k=>H.i (k+144),fun _=>false,fun _=>.empty,fun _=>.nilIface,fun _=>Hl.none⟩,rfl,⟨a.1,a.2.1,a.2.2.1,a.2.2.2⟩,zzT,zzT⟩,_,rfl,fun row' T' B' y e1 I F=>?_⟩;simp only[MH,MZ,Value.agg.injEq]at e1 I;have e1:=M4 e1;obtain⟨rfl,rfl⟩:=I;subst e1;obtain rfl:=hx.uniq F;show RdW (hls [H.h 144]) _ _;rw[hls_one];exact A.rd.w
open Go.Proofs.YtbdikjnpbnobcaaGreatDoor.D hiding envI noLoops numS
def IC (r:Nat) (ps:Value) (x:Nat):Hl:=Hl.one r (.cells #[ps,.pointer (some ⟨x,0,none⟩)] 89 (0,0))
structure BF (H:Hl) (r:Nat) (dp ps:Value) (x:Nat) (HS HI:Hl) (S:SM) (st:Nat->List Pc):Prop where
 so:cW HS ps dp S
 ix:jD HI x st
 d1:(IC r ps x).dis HS
 d2:(IC r ps x).dis HI
 d3:HS.dis HI
 hl:H=hls [IC r ps x,HS,HI]
def bI (H:Hl) (p dp:Value) (S:SM) (st:Nat->List Pc):Prop:=∃ (r:Nat) (ps:Value) (x:Nat) (HS HI:Hl),p=.pointer (some ⟨r,0,none⟩)/\BF H r dp ps x HS HI S st
def gy (R:Hl) (p:Value) (st:Nat->List Pc):Prop:=∃ (r:Nat) (ps:Value) (x:Nat),p=.pointer (some ⟨r,0,none⟩)/\R r=some (.cells #[ps,.pointer (some ⟨x,0,none⟩)] 89 (0,0))/\fa R x st
def jM {A B C:Hl} (h1:A.dis B) (h2:A.dis C) (b:B.dis C):A.le (hls [A,B,C])/\B.le (hls [A,B,C])/\C.le (hls [A,B,C]):=by
 have hd:∀ (p q:Nat) X Y,p≠q->([A,B,C])[p]?=some X->([A,B,C])[q]?=some Y->X.dis Y:=by
  intro p q X Y a hX hY
  match p,q,hX,hY with
  | 0,0,_,_=>exact absurd rfl a
  | 0,1,hX,hY=>cases hX;cases hY;exact h1
  | 0,2,hX,hY=>cases hX;cases hY;exact h2
  | 1,0,hX,hY=>cases hX;cases hY;exact Hl.fj h1
  | 1,1,_,_=>exact absurd rfl a
  | 1,2,hX,hY=>cases hX;cases hY;exact b
  | 2,0,hX,hY=>cases hX;cases hY;exact Hl.fj h2
  | 2,1,hX,hY=>cases hX;cases hY;exact Hl.fj b
  | 2,2,_,_=>exact absurd rfl a
  | p+3,_,hX,_=>simp at hX
  | 0,q+3,_,hY=>simp at hY
  | 1,q+3,_,hY=>simp at hY
  | 2,q+3,_,hY=>simp at hY
 exact⟨fq hd (i:=0) rfl,fq hd (i:=1) rfl,fq hd (i:=2) rfl⟩
def bI.rd {H:Hl} {p dp:Value} {S:SM} {st:Nat->List Pc} (h:bI H p dp S st):gy H p st:=by
 obtain⟨r,ps,x,HS,HI,hp,h⟩:=h;obtain⟨a,c,b⟩:=jM h.d1 h.d2 h.d3;rw[<-h.hl]at a c b;exact⟨r,ps,x,hp,a _ _ (Hl.one_self _ _),h.ix.rd.mono b⟩
def nT:Sx.Spec where
 fn:=7
 own:=[.arg 0]
 rd:=[]
 res:=[.one .ptr,.one (.int .i64)]
 links:=[0]
 pre:=fun xs Hs Rs=>∃ dp H D,xs=[dp]/\Hs=[H]/\DiskAt H dp D/\ah (gF D)/\ah (dj D)/\bN D=0/\(cU D).recs=[]
 post:=fun xs Hs Rs v Hs' F=>∃ dp H D H' a,xs=[dp]/\Hs=[H]/\DiskAt H dp D/\Hs'=[H']/\DiskAt H' dp D/\v=.tuple #[a,.int .i64 0]/\bI F a dp (cU D) (fun _=>[])
def JB:List Sx.Spec:=[kY,sQ,vG,kS]
def Gb:∀ t∈JB,t.OK Tryz.prog:=ai yn <| ai Bi <| ai zN <| ai pC <| aD
def Le:kY.res=[.one .ptr,.one (.int .i64)]:=rfl
def Lf:sQ.res=[.one .sl]:=rfl
def Lg:vG.res=[.one .ptr]:=rfl
def nV:Walk Tryz.prog JB nT.fn where
 Λ:=fun p=>if deadAt p [28,1,1,0,1,0,0,1,1]then some ⟨0,[],[],0⟩else none
 args:=[TP (.var 0) (.lit 0)]
 mem:=[.hp 1 [] [.var 0] []]
 nv:=2
set_option maxRecDepth 4000 in
def yf:nT.OK Tryz.prog:=by
 refine Spec.of_fn (Γ:=JB) Gb ?_;rintro xs Hs Rs C j ⟨dp,H,D,rfl,rfl,f,l,n,y,b⟩;have e1:Rs=[]:=MF.1 j;subst e1;obtain⟨da,s,m,es,clock,e,E⟩:=id f;refine⟨nV,envI [(da:Int)] false [Hl.none,H],fun _ _=>True,fun _ _=>0,?_,⟨?_,?_,?_,?_⟩,(fun _ h=>nomatch h),?_⟩
 .show [Value.pointer (slP (da:Int) 0)]=_;rw[aY,e]
 .intro r hr ho;simp [nV]at hr;subst hr;exact⟨H,ar,Hl.le_refl _⟩
 .intro r hr ho;simp [nV]at hr;subst hr;cases ho
 .simp [nV]
 .intro r hr;simp [nV]at hr;subst hr;trivial
 refine Walk.read [] [] [] ?_;generalize d:envI [(da:Int)] false [Hl.none,H]=J;have v0:J.i 0=da:=by rw[<-d];rfl
 have w1:J.h 1=H:=by rw[<-d];rfl
 clear d;have F:Value.pointer (slP (da:Int) 0)=dp:=by rw[aY,e]
 simp only[go_sem,Nat.reduceAdd,JB,Le,Lf,Lg,BB,DV,LZ];rw[v0,w1,F];refine⟨⟨dp,H,D,rfl,rfl,f,l,n⟩,fun q1 Q ⟨R,o,p,G⟩=>?_⟩;obtain⟨S,q,hv,hS,_⟩:=uJ f o;simp only[Value.tuple.injEq,Nc,MH,Value.int.injEq,Nz,MZ]at hv;obtain⟨rfl,hv⟩:=hv;have I:q1.i 4=0:=hv.trans y;have hS:=hS y;rw[<-p zzT]at hS;refine⟨fun t=>absurd I t,fun _=>⟨⟨_,_,dp,cU D,rfl,rfl,hS.rd,by rw[b];simp,fun r hr=>by rw[b]at hr;cases hr⟩,fun q2 K ⟨T,u,L,v⟩=>⟨rfl,fun M g3 ⟨U,⟨x,hx,hI⟩,w,N⟩=>?_⟩⟩⟩;have z:=yo hS.rd u;rw[b]at z;have O:q2.i 7=0:=by
  obtain⟨us,ho,_⟩:=z;have hn:0<=q2.i 7:=v.1.2.2.1;rcases ho.2 with ⟨h,_⟩ | ⟨_,_,_,h,_⟩<;>(simp only[Value.slice.injEq]at h;have:=h.2.1;simp at this;omega)
 have P:M.i 7=0:=by rw[g3.i 7,O]
 rw[<-w zzT]at hI;refine⟨ae,fun h=>ae,fun _ a g4 p4 c=>?_⟩;have A:Agree 9 q2 a:=g3.tr g4;have g:Agree 5 q1 a:=K.tr A;have d1:(Hl.one (a.i 11).toNat (.cells #[.pointer (slP (a.i 2) (a.i 3)),.pointer (slP (a.i 9) (a.i 10))] 89 (0,0))).dis (a.h 3):=c 4 1 _ _ aj rfl rfl rfl;have d2:(Hl.one (a.i 11).toNat (.cells #[.pointer (slP (a.i 2) (a.i 3)),.pointer (slP (a.i 9) (a.i 10))] 89 (0,0))).dis (a.h 9):=c 4 3 _ _ aj rfl rfl rfl;have d3:(a.h 3).dis (a.h 9):=c 1 3 _ _ aj rfl rfl rfl;have B:Value.pointer (slP (a.i 9) (a.i 10))=.pointer (some ⟨x,0,none⟩):=by rw[g4.i 9,g4.i 10];exact hx
 rw[B]at d1 d2;refine⟨[[0]],[4,1,3],rfl,rfl,⟨(ay fun k=>if k=0 then a.i 11 else 0),rfl,⟨by show -1<=a.i 11;omega,MT 0⟩,zzT,zzT⟩,dp,H,D,_,_,rfl,rfl,f,rfl,?_,rfl,?_⟩
 .show DiskAt (hls [a.h 2]) _ _;rw[hls_one,g.h 2];exact q
 .refine⟨(a.i 11).toNat,.pointer (slP (a.i 2) (a.i 3)),x,a.h 3,a.h 9,?_,?_,?_,d1,d2,d3,?_⟩
  .show Value.pointer (slP (a.i 11) 0)=_;rw[slP_pos p4];rfl
  .rw[g.i 2,g.i 3,g.h 3];exact hS
  .rw[g4.h 9];exact hI
  .show hls [Hl.one (a.i 11).toNat (.cells #[.pointer (slP (a.i 2) (a.i 3)),.pointer (slP (a.i 9) (a.i 10))] 89 (0,0)),a.h 3,a.h 9]=_;rw[B];rfl
end Go.Proofs.YtbdikjnpbnobcaaGreatDoor
namespace Go.Proofs.YtbdikjnpbnobcaaGreatDoor
open Go Go.Sx Go.Pk
noncomputable def we:Sx.Spec where
 fn:=52
 own:=[]
 rd:=[0,1002001]
 res:=[.one .sl]
 pre:=fun xs Hs Rs=>∃ (pr:Value) (R a:Hl) (st:Nat->List Pc) (cv:Nat->Int) (all:Bool) (u:Value) (T:List (List Int)) (most:Int),xs=[pr,vk cv,.agg #[.bool all,u],.int .i64 most]/\Rs=[R,a]/\gy R pr st/\gN st/\Good st/\RdRows a u dg (T.map bys)/\bO T/\(∀ i,i<6->(st i).length<=400)/\∀ i,i<6->0<=cv i/\cv i<18446744073709551616
 post:=fun xs Hs Rs v Hs' F=>∀ (pr:Value) (R a:Hl) (st:Nat->List Pc) (cv:Nat->Int) (all:Bool) (u:Value) (T:List (List Int)) (most:Int),xs=[pr,vk cv,.agg #[.bool all,u],.int .i64 most]->Rs=[R,a]->gy R pr st->RdRows a u dg (T.map bys)->fS F F v (dY st cv all T most)
noncomputable def Iy:List Sx.Spec:=[jn]
def FB:∀ t∈Iy,t.OK Tryz.prog:=fun t a=>by
 simp only[Iy,MQ,MV,Nt]at a;subst a;exact wX
def Mt:jn.res=[.one .sl]:=rfl
noncomputable def DS:Walk Tryz.prog Iy we.fn where
 Λ:=noLoops
 args:=[TP (.var 0) (.lit 0),.sv (.agg (ckCVs 1 (List.replicate 6 (.int .u64)))),.sv (.agg (ckCVs 7 [.bool,.sl])),TI .i64 (.var 12)]
 mem:=[.ro 13 [.var 0] true,.ro 14 [.var 8] false]
 nv:=15
def Az:we.OK Tryz.prog:=by
 refine Spec.of_fn (Γ:=Iy) FB ?_;rintro xs Hs Rs o H ⟨pr,R,n,st,cv,all,u,T,most,rfl,rfl,p,hS,I,hU,hT,hlen,s⟩;have e0:Hs=[]:=MF.1 o;subst e0;obtain⟨d,e,uc,rfl,K,_⟩:=id hU;obtain⟨r,ps,x,rfl,f,a⟩:=id p;refine⟨DS,envI [r,cv 0,cv 1,cv 2,cv 3,cv 4,cv 5,0,d,e,(T.map bys).length,uc,most] all [Hl.none,Hl.none,Hl.none,Hl.none,Hl.none,Hl.none,Hl.none,Hl.none,Hl.none,Hl.none,Hl.none,Hl.none,Hl.none,R,n],
  fun _ _=>True,fun _ _=>0,?_,bM (by intro r hr;simp [DS]at hr;rcases hr with rfl | rfl<;>exact⟨_,_,_,rfl⟩) rfl,(fun _ h=>(nomatch h)),?_⟩
 .show [Value.pointer (slP (r:Int) 0),vk cv,.agg #[.bool all,.slice (slP d e) (((T.map bys).length:Int)).toNat ((uc:Int)).toNat],.int .i64 most]=_;rw[slP_pos ae,MD,MD];rfl
 refine Walk.read [] [] [] ?_;generalize j:envI [(r:Int),cv 0,cv 1,cv 2,cv 3,cv 4,cv 5,0,d,e,(T.map bys).length,uc,most] all [Hl.none,Hl.none,Hl.none,Hl.none,Hl.none,Hl.none,Hl.none,Hl.none,Hl.none,Hl.none,Hl.none,Hl.none,Hl.none,R,n]=J;have V:∀ q:Env,Agree 15 J q->(q.i 0=r/\q.i 1=cv 0/\q.i 2=cv 1/\q.i 3=cv 2/\q.i 4=cv 3/\q.i 5=cv 4/\q.i 6=cv 5)/\(q.i 8=d/\q.i 9=e/\q.i 10=(T.map bys).length/\q.i 11=uc/\q.i 12=most)/\q.b 7=all/\q.h 13=R/\q.h 14=n:=fun q g=>by
  rw[g.i 0,g.i 1,g.i 2,g.i 3,g.i 4,g.i 5,g.i 6,g.i 8,g.i 9,g.i 10,g.i 11,g.i 12,g.b 7,g.h 13,g.h 14,<-j];exact⟨⟨rfl,rfl,rfl,rfl,rfl,rfl,rfl⟩,⟨rfl,rfl,rfl,rfl,rfl⟩,rfl,rfl,rfl⟩
 clear j;simp only[go_sem,Nat.reduceAdd,Iy,Mt,BB];intro q1 L _ q2 M _;obtain⟨⟨v0,v1,v2,N,v4,O,v6⟩,⟨P,Q,v10,v11,t⟩,S,w,ww⟩:=V q2 (L.tr M);have U:R.cell ((r:Int)).toNat (Int.toNat 1)=some (.pointer (some ⟨x,0,none⟩)):=by
  rw[MD];unfold Hl.cell;rw[f];rfl
 have W:Value.agg (List.map (CV.ev q2) (ckCVs 1 (List.replicate 6 (Ck.int .u64)))).toArray=vk cv:=by
  show Value.agg #[.int .u64 (q2.i 1),.int .u64 (q2.i 2),.int .u64 (q2.i 3),.int .u64 (q2.i 4),.int .u64 (q2.i 5),.int .u64 (q2.i 6)]=_;rw[v1,v2,N,v4,O,v6];rfl
 have X:bev q2 (.bvar 7)=all:=S;have ex:∀ {z:Nat},Value.pointer (slP (r:Int) 0)=.pointer (some ⟨r,0,none⟩):=by intro z;rw[slP_pos ae];rfl
 rw[v0,w,ww,U,cl,W,X,P,Q,v10,v11,t,MD,MD];refine⟨ae,rfl,⟨x,R,n,st,cv,all,_,T,most,rfl,rfl,a,hS,I,hU,hT,hlen,s⟩,fun v g3 ⟨F3,p3,y,n3⟩ _=>?_⟩;have F:=p3 _ _ _ _ _ _ _ _ _ rfl rfl a hU;rw[<-y zzT]at F;refine⟨[],[4],rfl,zzK,⟨(ay fun k=>v.i (17+k)),rfl,n3⟩,?_⟩;intro Y R' Z st' cv' l u' T' c e1 G A B;simp only[MH,MZ]at e1 G;obtain⟨rfl,C,eu,em⟩:=e1;obtain⟨rfl,rfl⟩:=G;obtain⟨rfl,rfl⟩:all=l/\Value.slice (slP d e) (T.map bys).length uc=u':=by simpa using eu
 obtain rfl:most=c:=by simpa using em
 have eT:=bm (hU.uniq B);subst eT;have es:∀ i,i<6->st i=st' i:=fun i hi=>by
  obtain⟨r',ps',x',D,m,E⟩:=A;obtain rfl:r=r':=by simpa using D
  rw[f]at m;obtain⟨rfl,rfl⟩:ps=ps'/\x=x':=by simpa using m
  exact a.st E hi
 rw[<-jE es (vl C)];show fS (hls [v.h 17]) (hls [v.h 17]) _ _;rw[hls_one];exact F
open Go.Proofs.YtbdikjnpbnobcaaGreatDoor.D hiding envI noLoops numS
variable {D:DM}{B F H T:Hl}{a b:Int}{row:List Value}{i r rt x:Nat}{st st':Nat->List Pc}{S S':SM}{dp dp' p v:Value}
structure LS where
 e:Int
 D:DM
 S:SM
 st:Nat->List Pc
open Classical in
noncomputable def bu (D:DM) (S:SM) (st:Nat->List Pc) (c:Pc):LS :=
 if bq st c≠0 then⟨bq st c,D,S,st⟩
 else if(bc D S [cN c]).e≠0 then⟨(bc D S [cN c]).e,(bc D S [cN c]).D,(bc D S [cN c]).S,st⟩
 else⟨0,(bc D S [cN c]).D,(bc D S [cN c]).S,fu st c⟩
set_option maxRecDepth 20000 in
def Cz (f:Nat->Int) (hs:List (Nat×Hl)) (h:rowOK row oK):∃ q:Env,q.i 0=a/\row=(ckCVs 1 bC).map (CV.ev q)/\(∀ k,q.h k=oI hs k)/\(∀ k,133<=k->q.i k=f k):=by
 obtain⟨q,h0,hr,hh,_⟩:=ug (a:=a) hs h;refine⟨⟨fun k=>if 133<=k then f k else q.i k,q.b,q.s,q.v,q.h⟩,h0,?_,hh,fun k hk=>M0 hk⟩;rw[hr];have g:Agree 133 q ⟨fun k=>if 133<=k then f k else q.i k,q.b,q.s,q.v,q.h⟩:=⟨fun k hk=>MM ae,fun _ _=>rfl,fun _ _=>rfl,fun _ _=>rfl,fun _ _=>rfl⟩;exact(Ns Array.toList (Value.agg.inj (ev_ag (ks:=bC) (n:=1) g aj))).symm
def jD.congr (h:jD H x st) (e:∀ i,i<6->st i=st' i):jD H x st':=by
 obtain⟨a,sv,Kc,KB,h⟩:=h;refine⟨a,sv,Kc,KB,by rw[<-tz e];exact h.blk,fun i hi=>?_,h.le,h.dis,h.nox,fun i hi=>by rw[<-e i hi];exact h.row i hi,h.kb,h.kbx,h.kbc,h.own⟩;have:=h.ch i hi;unfold lC at this ⊢;rw[<-e i hi];exact this
def rS (e:∀ i,i<6->st i=st' i) (p:Pc) (hi:i<6):fu st p i=fu st' p i:=by
 unfold fu;rw[jR e p];split
 .unfold upd;split
  .rename_i h;subst h;rw[e _ hi]
  .exact e i hi
 .exact e i hi
noncomputable def su (rt:Nat):Sx.Spec where
 fn:=22
 own:=[.arg 0,.link 0 0]
 rd:=[rt,1001125,2000003]
 res:=[.one (.int .i64)]
 pre:=fun xs Hs Rs=>∃ p H a row T B RG g dp S D st c,xs=[p,.agg row.toArray]/\Hs=[H,a]/\Rs=[T,B,RG]/\bI H p dp S st/\DiskAt a dp D/\aV T B row c/\c.b.length<=2100/\gN st/\(Gl RG g/\yE RG 2/\RG.cell 1 0=some ru)/\S.bA.length<=1048576/\0<=S.LA.serial/\S.recs.length<=1000000000
 post:=fun xs Hs Rs v Hs' F=>∃ p H a row T B RG dp S D st c H' d,xs=[p,.agg row.toArray]/\Hs=[H,a]/\Rs=[T,B,RG]/\bI H p dp S st/\DiskAt a dp D/\aV T B row c/\Hs'=[H',d]/\bI H' p dp (bu D S st c).S (bu D S st c).st/\DiskAt d dp (bu D S st c).D/\v=.int .i64 (bu D S st c).e
def wD:Nd:=(fun a i y q p a2 A h b6 B C t v D n o a0 a1 F=>(fun b c d f g j k G r s u w z H=>(fun l m x E I J b1 b2 K=>(.ext (.alloc 142) (.ext (.alloc 143) (.and (.pre x) (.ext x (.and (.imp (.eq (.var 144) i) (.and (.pre (.call 1 145 [.sv y] [] w)) (.ext (.call 1 145 [.sv y] [] w) (.and (.e (.le (.vint 149) v)) (.and (.imp (.not (.eq (.vint 149) i)) (.and (.pre I) (.ext I (.post [.blk 0 b 89,.hp 135 [] t h,.hp 136 [] n [],.hp 138 [] h [],.ro 139 q false,.ro 140 p true,.ro 141 a false,.dead,.dead,.hp 145 [] C []] (.sv (.one (.int .i64 (.var 150)))))))) (.imp (.eq (.vint 149) i) (.ext (.alloc 150) (.and (.pre l) (.ext l (.and (.imp (.eq (.var 151) i) (.and (.pre (.call 3 154 c u d)) (.ext (.call 3 154 c u d) (.and (.imp (.eq B i) (.and (.pre (.call 4 156 o [] z)) (.ext (.call 4 156 o [] z) (.post [.blk 0 b 89,.hp 151 [135] t h,.hp 154 [136] n [],.hp 152 [138] h [],.ro 139 q false,.ro 140 p true,.ro 141 a false,.dead,.dead,.hp 145 [] C [],.dead] (.sv (.one (.int .i64 (.var 156)))))))) (.imp (.not (.eq B i)) (.ext (.alloc 156) (.ext (.mki 157 146 (.one (.hptr (.var 156) i))) (.and (.e (.le (.vint 157) v)) (.ext (.mki 158 205 (.agg [.vr 157])) (.and (.pre r) (.ext r (.post [.blk 0 b 89,.hp 151 [135] t h,.hp 154 [136] n [],.hp 152 [138] h [],.ro 139 q false,.ro 140 p true,.ro 141 a false,.dead,.dead,.hp 145 [] C [],.dead,.dead] a0)))))))))))) (.imp (.not (.eq (.var 151) i)) (.ext (.alloc 154) (.ext (.mki 155 146 (.one (.hptr B i))) (.and (.e (.le (.vint 155) v)) (.ext (.mki 156 205 (.agg [.vr 155])) (.and (.e (.le (.vint 156) v)) (.and (.imp (.not (.eq (.vint 156) i)) (.and (.pre J) (.ext J (.post [.blk 0 b 89,.hp 151 [135] t h,.hp 136 [] n [],.hp 152 [138] h [],.ro 139 q false,.ro 140 p true,.ro 141 a false,.dead,.dead,.hp 145 [] C [],.dead,.dead] (.sv (.one (.int .i64 A))))))) (.imp (.eq (.vint 156) i) (.and (.pre E) (.ext E (.and (.imp (.eq A i) (.and (.pre (.call 4 159 o [] j)) (.ext (.call 4 159 o [] j) (.post [.blk 0 b 89,.hp 151 [135] t h,.hp 157 [136] n [],.hp 152 [138] h [],.ro 139 q false,.ro 140 p true,.ro 141 a false,.dead,.dead,.hp 145 [] C [],.dead,.dead] a0)))) (.imp (.not (.eq A i)) (.ext (.alloc 159) (.ext H (.and (.e (.le (.vint 160) v)) (.ext F (.and (.pre g) (.ext g (.post [.blk 0 b 89,.hp 151 [135] t h,.hp 157 [136] n [],.hp 152 [138] h [],.ro 139 q false,.ro 140 p true,.ro 141 a false,.dead,.dead,.hp 145 [] C [],.dead,.dead,.dead] a1))))))))))))))))))))))))))))) (.imp (.not (.eq (.var 144) i)) (.ext (.alloc 145) (.ext (.mki 146 146 (.one (.hptr (.var 145) i))) (.and (.e (.le (.vint 146) v)) (.ext (.mki 147 205 (.agg [.vr 146])) (.and (.e (.le (.vint 147) v)) (.and (.imp (.not (.eq (.vint 147) i)) (.and (.pre b1) (.ext b1 (.post [.blk 0 b 89,.hp 135 [] t h,.hp 136 [] n [],.hp 138 [] h [],.ro 139 q false,.ro 140 p true,.ro 141 a false,.dead,.dead,.dead] (.sv (.one (.int .i64 (.var 148)))))))) (.imp (.eq (.vint 147) i) (.and (.pre (.call 1 148 [.sv y] [] w)) (.ext (.call 1 148 [.sv y] [] w) (.and (.e (.le (.vint 152) v)) (.and (.imp (.not (.eq (.vint 152) i)) (.and (.pre b2) (.ext b2 (.post [.blk 0 b 89,.hp 135 [] t h,.hp 136 [] n [],.hp 138 [] h [],.ro 139 q false,.ro 140 p true,.ro 141 a false,.dead,.dead,.dead,.hp 148 [] D []] (.sv (.one (.int .i64 (.var 153)))))))) (.imp (.eq (.vint 152) i) (.ext (.alloc 153) (.and (.pre m) (.ext m (.and (.imp (.eq B i) (.and (.pre E) (.ext E (.and (.imp (.eq A i) (.and (.pre (.call 4 159 o [] f)) (.ext (.call 4 159 o [] f) (.post [.blk 0 b 89,.hp 154 [135] t h,.hp 157 [136] n [],.hp 155 [138] h [],.ro 139 q false,.ro 140 p true,.ro 141 a false,.dead,.dead,.dead,.hp 148 [] D [],.dead] a0)))) (.imp (.not (.eq A i)) (.ext (.alloc 159) (.ext H (.and (.e (.le (.vint 160) v)) (.ext F (.and (.pre g) (.ext g (.post [.blk 0 b 89,.hp 154 [135] t h,.hp 157 [136] n [],.hp 155 [138] h [],.ro 139 q false,.ro 140 p true,.ro 141 a false,.dead,.dead,.dead,.hp 148 [] D [],.dead,.dead] a1)))))))))))) (.imp (.not (.eq B i)) (.ext (.alloc 157) (.ext (.mki 158 146 (.one (.hptr A i))) (.and (.e (.le (.vint 158) v)) (.ext (.mki 159 205 (.agg [.vr 158])) (.and (.e (.le (.vint 159) v)) (.and (.imp (.not (.eq (.vint 159) i)) (.and (.pre K) (.ext K (.post [.blk 0 b 89,.hp 154 [135] t h,.hp 136 [] n [],.hp 155 [138] h [],.ro 139 q false,.ro 140 p true,.ro 141 a false,.dead,.dead,.dead,.hp 148 [] D [],.dead,.dead] (.sv (.one (.int .i64 (.var 160)))))))) (.imp (.eq (.vint 159) i) (.and (.pre (.call 3 160 c u d)) (.ext (.call 3 160 c u d) (.and (.imp (.eq (.var 160) i) (.and (.pre (.call 4 162 o [] k)) (.ext (.call 4 162 o [] k) (.post [.blk 0 b 89,.hp 154 [135] t h,.hp 160 [136] n [],.hp 155 [138] h [],.ro 139 q false,.ro 140 p true,.ro 141 a false,.dead,.dead,.dead,.hp 148 [] D [],.dead,.dead] a1)))) (.imp (.not (.eq (.var 160) i)) (.ext (.alloc 162) (.ext (.mki 163 146 (.one (.hptr (.var 162) i))) (.and (.e (.le (.vint 163) v)) (.ext (.mki 164 205 (.agg [.vr 163])) (.and (.pre s) (.ext s (.post [.blk 0 b 89,.hp 154 [135] t h,.hp 160 [136] n [],.hp 155 [138] h [],.ro 139 q false,.ro 140 p true,.ro 141 a false,.dead,.dead,.dead,.hp 148 [] D [],.dead,.dead,.dead] (.sv (.one (.int .i64 (.var 165)))))))))))))))))))))))))))))))))))))))))))):Nd)) (.call 2 151 [.sv (.one (.hptr (.var 133) i)),.sv (.one (.sl (.var 150) i v v))] G [.blk 150 [.sl (.var 145) (.var 146) (.var 147) (.var 148)] 22,.hp 145 [] C [],.ro 141 a false]) (.call 2 154 [.sv (.one (.hptr (.var 133) i)),.sv (.one (.sl (.var 153) i v v))] G [.blk 153 [.sl (.var 148) (.var 149) (.var 150) (.var 151)] 22,.hp 148 [] D [],.ro 141 a false]) (.call 0 144 c [] [.hp 136 [] n [],.ro 139 q false,.ro 140 p true,.ro 141 a false]) (.call 3 157 c u d) (.call 4 150 [.sv (.one (.vr 149))] [] z) (.call 4 157 [.sv (.one (.vr 156))] [] j) (.call 4 148 [.sv (.one (.vr 147))] [] f) (.call 4 153 [.sv (.one (.vr 152))] [] f) (.call 4 160 [.sv (.one (.vr 159))] [] k)) [.hptr (.var 133) i,.hptr (.var 134) i] [.sv (.one (.hptr (.var 134) i)),.sv y] [.ro 139 q false,.ro 140 p true,.ro 141 a false] [.blk 145 [.str (.slit ⟨#[97,115,107]⟩),.int .i64 (.var 144)] 150,.ro 141 a false] (.call 4 162 [.sv (.one (.vr 161))] [] [.blk 159 [.str a2,.int .i64 A] 150,.ro 141 a false]) [.blk 154 [.str b6,.int .i64 (.var 151)] 150,.ro 141 a false] [.blk 157 [.str b6,.int .i64 B] 150,.ro 141 a false] [.hp 135 [] t h,.hp 138 [] h []] (.call 4 159 [.sv (.one (.vr 158))] [] [.blk 156 [.str a2,.int .i64 B] 150,.ro 141 a false]) (.call 4 165 [.sv (.one (.vr 164))] [] [.blk 162 [.str a2,.int .i64 (.var 160)] 150,.ro 141 a false]) [.hp 136 [] n []] [.ro 139 q false,.ro 140 p true] [.dead,.ro 141 a false] (.mki 160 146 (.one (.hptr (.var 159) i)))) [.lit 0,.lit 1,.lit 2,.lit 3,.lit 4,.lit 5] (.lit 0) (.agg (ckCVs 1 ti)) [.var 54] [.var 129] (.slit ⟨#[112,117,116]⟩) (.var 157) [.var 137] (.slit ⟨#[97,100,100]⟩) (.var 154) [.var 145] [.var 133] (.lit 1) [.var 148] [.var 134] [.sv (.one (.val .nilIface))] (.sv (.one (.int .i64 (.var 159)))) (.sv (.one (.int .i64 (.var 162)))) (.mki 161 205 (.agg [.vr 160]))
noncomputable def JC:List Sx.Spec:=[ng,mA,tl,vH,kS]
def Gf:∀ t∈JC,t.OK Tryz.prog:=ai rJ <| ai uz <| ai BJ <| ai zQ <| ai pC <| aD
def Ll:mA.res=[.one .sl,.one .any]:=rfl
def Lm:tl.res=[.one (.int .i64)]:=rfl
def Ln:vH.res=[.one (.int .i64)]:=rfl
def Lo:kS.res=[.one (.int .i64)]:=rfl
def Lk (n:Nat):(cpRoots n [Cp.one .sl,Cp.one .any]≠[])=True:=by simp [cpRoots,Cp.roots,Ck.root]
def pE:Mem:=[.blk 0 [.hptr (.var 133) (.lit 0),.hptr (.var 134) (.lit 0)] 89,.hp 135 [] [.var 133] [.var 137],.hp 136 [] [.var 134] [],.hp 138 [] [.var 137] [],.ro 139 [.var 54] false,.ro 140 [.var 129] true,.ro 141 [.lit 0,.lit 1,.lit 2,.lit 3,.lit 4,.lit 5] false]
noncomputable def wg:Walk Tryz.prog JC 22 where
 Λ:=noLoops
 args:=TP (.var 0) (.lit 0)::(cpSVs 1 [.agg ti]).map .sv
 mem:=pE
 nv:=142
set_option maxRecDepth 20000 in
def AB (rt:Nat):(su rt).OK Tryz.prog:=by
 refine spec_of_fn2 (Γ:=JC) Gf ?_;rintro xs Hs Rs aH aI d ⟨p,H,N,row,T,B,RG,g,dp,S,D,st,c,rfl,rfl,rfl,hR,hD,hx,hlen,aa,⟨al,hK,an⟩,ao,aq,au⟩;obtain⟨r,ps,x,HS,HI,rfl,hIn⟩:=id hR;obtain⟨a,pa,pb,sl,HA,HB,HR,rfl,_⟩:=id hIn.so;obtain⟨da,s,m,es,clock,aJ,_⟩:=id hD;obtain⟨J,va,rfl,hh,hv⟩:=Cz (a:=(r:Int)) (fun k=>if k=133 then(a:Int)else if k=134 then(x:Int)else da) [(135,HS),(136,HI),(138,N),(139,T),(140,B),(141,RG)] hx.ok;have v3:J.i 133=a:=hv 133 ae;have v4:J.i 134=x:=hv 134 ae;have v7:J.i 137=da:=hv 137 ae;have w5:J.h 135=HS:=hh 135;have w6:J.h 136=HI:=hh 136;have w8:J.h 138=N:=hh 138;have w9:J.h 139=T:=hh 139;have w0:J.h 140=B:=hh 140;have w1:J.h 141=RG:=hh 141;have eb:Hl.one (J.i 0).toNat (.cells #[.pointer (slP (J.i 133) 0),.pointer (slP (J.i 134) 0)] 89 (0,0))=IC r (.pointer (some ⟨a,0,none⟩)) x:=by
  rw[va,v3,v4,slP_pos ae,slP_pos ae];rfl
 obtain⟨l1,l2,l3⟩:=jM hIn.d1 hIn.d2 hIn.d3;rw[<-hIn.hl]at l1 l2 l3;refine⟨wg,J,fun _ _=>True,fun _ _=>0,?_,⟨?_,?_,?_,?_⟩,(fun _ h=>nomatch h),?_⟩
 .show [Value.pointer (slP (J.i 0) 0),.agg ((ckCVs 1 bC).map (CV.ev J)).toArray]=_;rw[va,slP_pos ae];rfl
 .intro q O ho;simp [wg,pE]at O;rcases O with rfl | rfl | rfl | rfl | rfl | rfl | rfl
  .exact⟨H,ar,by show(Hl.one (J.i 0).toNat (.cells #[.pointer (slP (J.i 133) 0),.pointer (slP (J.i 134) 0)] 89 (0,0))).le H;rw[eb];exact l1⟩
  .exact⟨H,ar,by show(J.h 135).le H;rw[w5];exact l2⟩
  .exact⟨H,ar,by show(J.h 136).le H;rw[w6];exact l3⟩
  .exact⟨N,ar,by show(J.h 138).le N;rw[w8];exact Hl.le_refl _⟩
  all_goals cases ho
 .intro q O ho;simp [wg,pE]at O;rcases O with rfl | rfl | rfl | rfl | rfl | rfl | rfl
  .cases ho
  .cases ho
  .cases ho
  .cases ho
  .exact⟨T,ar,by show(J.h 139).le T;rw[w9];exact Hl.le_refl _⟩
  .exact⟨B,ar,by show(J.h 140).le B;rw[w0];exact Hl.le_refl _⟩
  .exact⟨RG,ar,by show(J.h 141).le RG;rw[w1];exact Hl.le_refl _⟩
 .have av:H.dis N:=d 0 1 _ _ aj rfl rfl;have U:∀ {A:Hl},A.le H->A.dis N:=fun h b ⟨y,z⟩=>av b ⟨Hl.le_mem h y,z⟩;show List.Pairwise _ pE;simp only[pE,PF,MQ,MV,Nt,O6,Qn,Res.own,Res.hl,List.Pairwise.nil,MZ,NI,false_imp_iff,imp_true_iff,forall_const,M6,NN,CV.ev,iev_var,iev_lit,false_implies,implies_true];rw[eb,w5,w6,w8];exact⟨⟨hIn.d1,hIn.d2,U l1⟩,⟨hIn.d3,U l2⟩,U l3⟩
 .intro q O;simp [wg,pE]at O;rcases O with rfl | rfl | rfl | rfl | rfl | rfl | rfl
  .show 0<=J.i 0;rw[va];omega
  all_goals trivial
 refine Walk.lit (x:=wD) ?_;unfold wD;simp only[go_sem,Nat.reduceAdd,JC,HW,Ll,Lm,Ln,Lo,Lk];generalize W:(ckCVs 1 bC).map (CV.ev J)=row at *;have V:∀ q:Env,Agree 142 J q->(q.i 0=r/\q.i 133=a/\q.i 134=x/\q.i 137=da)/\(q.h 135=HS/\q.h 136=HI/\q.h 138=N/\q.h 139=T/\q.h 140=B/\q.h 141=RG)/\(ckCVs 1 ti).map (CV.ev q)=row:=fun q g=>by
  refine⟨⟨by rw[g.i 0,va],by rw[g.i 133,v3],by rw[g.i 134,v4],by rw[g.i 137,v7]⟩,⟨by rw[g.h 135,w5],by rw[g.h 136,w6],by rw[g.h 138,w8],by rw[g.h 139,w9],by rw[g.h 140,w0],by rw[g.h 141,w1]⟩,?_⟩;rw[<-W];exact Ns Array.toList (Value.agg.inj (ev_ag (ks:=bC) (n:=1) g aj))
 have eP:∀ n:Nat,Value.pointer (slP (n:Int) 0)=.pointer (some ⟨n,0,none⟩):=fun n=>aY n;have fin:∀ (q:Env) (ks Z kd:Nat) (vs vi vd:List Nat) (t:Mem) (e:E) (R:LS),bu D S st c=R->Agree 142 J q->cW (q.h ks) (.pointer (some ⟨a,0,none⟩)) dp R.S->jD (q.h Z) x R.st->DiskAt (q.h kd) dp R.D->iev q e=R.e ->
  postOf (su rt) [.pointer (some ⟨r,0,none⟩),.agg row.toArray] [H,N] [T,B,RG] q (.blk 0 [.hptr (.var 133) (.lit 0),.hptr (.var 134) (.lit 0)] 89::.hp ks vs [.var 133] [.var 137]::.hp Z vi [.var 134] []::.hp kd vd [.var 137] []::t) (.sv (.one (.int .i64 e))):=by
  intro q ks Z kd vs vi vd t e R aw g h1 h2 h3 h4 d;obtain⟨⟨k0,k1,k2,_⟩,_⟩:=V q g;have ab:Hl.one (q.i 0).toNat (.cells #[.pointer (slP (q.i 133) 0),.pointer (slP (q.i 134) 0)] 89 (0,0))=IC r (.pointer (some ⟨a,0,none⟩)) x:=by
   rw[k0,k1,k2,eP,eP];rfl
  have d1:(Hl.one (q.i 0).toNat (.cells #[.pointer (slP (q.i 133) 0),.pointer (slP (q.i 134) 0)] 89 (0,0))).dis (q.h ks):=d 0 1 _ _ aj rfl rfl rfl;have d2:(Hl.one (q.i 0).toNat (.cells #[.pointer (slP (q.i 133) 0),.pointer (slP (q.i 134) 0)] 89 (0,0))).dis (q.h Z):=d 0 2 _ _ aj rfl rfl rfl;have d3:(q.h ks).dis (q.h Z):=d 1 2 _ _ aj rfl rfl rfl;rw[ab]at d1 d2;subst aw;refine⟨[[0,1,2],[3]],[],rfl,rfl,⟨(ay fun _=>iev q e),rfl,zzT,zzT⟩,_,H,N,row,T,B,RG,dp,S,D,st,c,_,_,rfl,rfl,rfl,hR,hD,hx,rfl,⟨r,_,x,q.h ks,q.h Z,rfl,h1,h2,d1,d2,d3,?_⟩,?_,by rw[<-h4];rfl⟩
  .rw[<-ab];rfl
  .show DiskAt (hls [q.h kd]) _ _;rw[hls_one];exact h3
 have C:∀ {R:Hl} {v:Value} {n:Int},lu R v n->kS.pre [v] [] [R,RG]:=fun h=>⟨_,_,RG,_,rfl,rfl,an,h⟩;have G:∀ {R:Hl} {v w:Value} {n:Int} {K:List Hl} {F:Hl},lu R v n->kS.post [v] [] [R,RG] w K F->w=.int .i64 n:=fun h hp=>by
  obtain⟨e,R',G',e1,X,O⟩:=hp;simp only[MH,MZ]at e1 X;obtain⟨rfl,rfl⟩:=X;subst e1;exact O _ h
 have met:∀ {v w:Value} {z n:Int} {s:ByteArray},0<=z->v=.iface 146 (.pointer (slP z 0))->w=.iface 205 (.agg #[v])->lu (Hl.one z.toNat (.cells #[.string s,.int .i64 n] 150 (0,0))) w n:=fun hz e1 X=>Or.inr ⟨_,_,by rw[X,e1,slP_pos hz];rfl,Hl.one_self _ _⟩;have j:∀ {q:Env} {n:Nat} {T:TypeId} {v:Value},q.v n=.iface T v->iev q (.vint n)=1:=fun h=>by rw[iev_vint,h];rfl
 intro q0 g0 p0 q1 g1 p1;have G1:Agree 142 J q1:=g0.tr g1;obtain⟨⟨k0,k1,k2,k3⟩,⟨u5,u6,u8,u9,u0,u1⟩,kr⟩:=V q1 G1;rw[k2,eP,kr,u6,u9,u0,u1];refine⟨⟨x,HI,st,_,T,B,RG,c,rfl,rfl,hIn.ix.rd,aa,hx,ae,hK⟩,fun q2 g2 ⟨F2,ax,_⟩=>?_⟩;have I:q2.i 144=bq st c:=by simpa using ax _ _ _ _ _ _ _ _ rfl rfl hIn.ix.rd hx
 have G2:Agree 142 J q2:=G1.tr g2;obtain⟨⟨m0,m1,m2,m3⟩,⟨n5,n6,n8,n9,n0,n1⟩,mr⟩:=V q2 G2;refine⟨fun heq=>?_,fun L=>?_⟩
 .have h0:bq st c=0:=I.symm.trans heq;rw[mr,n9,n0];refine⟨⟨_,T,B,c,rfl,rfl,hx,hlen⟩,fun q3 g3 ⟨F3,⟨u,hu,f⟩,az,aK⟩=>?_⟩;simp only[Value.tuple.injEq,Nc,MH,MZ]at hu;obtain⟨rfl,hu⟩:=hu;have f:=f _ _ _ _ rfl rfl hx;rw[<-az zzT]at f;have aA:iev q3 (.vint 149)=0:=by rw[iev_vint,hu];rfl
  refine⟨ae,fun L=>absurd aA L,fun _ q4 g4 p4=>?_⟩;have G3:Agree 142 J q3:=G2.tr g3;have G4:Agree 142 J q4:=G3.tr g4;obtain⟨⟨y0,y1,y2,y3⟩,⟨z5,z6,z8,z9,z0,z1⟩,yr⟩:=V q4 G4;rw[y1,eP,z5,z8,z1,g4.i 145,g4.i 146,g4.i 147,g4.i 148,g4.h 145];have M:=kW (T:=22) p4 f;have aL:=wu hx hlen;refine⟨⟨_,_,HS,N,_,_,RG,g,dp,S,D,_,rfl,rfl,rfl,hIn.so,hD,M,al,ar,fun r hr=>by rw[MO.1 hr];omega,ao,aq,au⟩,fun l g5 ⟨F5,aB,_⟩=>?_⟩;obtain⟨ad,af,he⟩:=yI hIn.so hD M aB;have he:l.i 151=(bc D S [cN c]).e:=by simpa using he
  have G5:Agree 142 J l:=G4.tr g5;obtain⟨⟨s0,s1,s2,s3⟩,⟨t5,t6,t8,t9,t0,t1⟩,sr⟩:=V l G5;refine⟨fun h5=>?_,fun h5=>?_⟩
  .rw[s2,eP,sr,t6,t9,t0,t1];refine⟨⟨x,HI,st,_,T,B,RG,c,rfl,rfl,rfl,hIn.ix,aa,hx,ae,hK⟩,fun o P ⟨F6,⟨x',H',st',row',T',B',aM,c',K',e1,X,e3,i1,i2,e4,hv,Y⟩,_⟩=>?_⟩;simp only[MH,MZ,Value.pointer.injEq,MP,Addr.mk.injEq,Value.agg.injEq]at e1 X e3 e4;obtain⟨rfl,e1⟩:=e1;obtain⟨rfl,rfl,rfl⟩:=e3;have e1:=M4 e1;subst e1 X e4;obtain rfl:=hx.uniq i2;have ag:∀ i,i<6->st i=st' i:=fun i hi=>hIn.ix.rd.st i1.rd hi;have Y:jD (o.h 154) x (fu st' c):=Y;have h6:o.i 154=0:=by
    have:o.i 154=bq st' c:=by simpa using hv
    rw[this,<-jR ag c,h0]
   have G6:Agree 142 J o:=G5.tr P;obtain⟨_,⟨_,_,_,_,_,r1⟩,_⟩:=V o G6;rw[r1];refine⟨fun _=>⟨C (Or.inl ⟨rfl,rfl⟩),fun q7 Q ⟨F7,aC,_⟩=>?_⟩,fun L=>absurd h6 L⟩;have h7:q7.i 156=0:=by simpa using G (Or.inl ⟨rfl,rfl⟩) aC
   refine fin q7 151 154 152 _ _ _ _ _ ⟨0,(bc D S [cN c]).D,(bc D S [cN c]).S,fu st c⟩ ?_ (G6.tr Q) ?_ ?_ ?_ h7
   .unfold bu;rw[MM (fun h=>h h0),MM (fun h=>h (he.symm.trans h5))]
   .rw[Q.h 151,P.h 151];exact af
   .rw[Q.h 154];exact Y.congr fun i hi=>(rS ag c hi).symm
   .rw[Q.h 152,P.h 152];exact ad
  .intro o P p6 q7 Q p7;refine⟨by rw[j p7];omega,fun q8 g8 p8=>⟨by rw[j p8];omega,fun _=>?_,fun h=>absurd ((j p8).symm.trans h) aj⟩⟩;have G8:Agree 142 J q8:=G5.trans (P.mono.trans (Q.mono.tr g8));obtain⟨_,⟨_,_,_,_,_,r1⟩,_⟩:=V q8 G8;have hm:=met (s:={data:=#[97,100,100]}) (n:=q8.i 151) p6 p7 p8;have ah:o.i 154=q8.i 154:=by rw[g8.i 154,Q.i 154]
   rw[ah]at hm;have ai:q7.i 151=q8.i 151:=(g8.i 151).symm;rw[r1];refine⟨C hm,fun q9 g9 ⟨F9,aD,_⟩=>?_⟩;have h9:q9.i 157=q8.i 151:=by simpa using G hm aD
   have aE:(bc D S [cN c]).e≠0:=fun h=>h5 (he.trans h);have G9:Agree 142 J q9:=G8.tr g9;have A9:Agree 154 l q9:=P.trans (Q.mono.trans (g8.mono.tr g9));refine fin q9 151 136 152 _ _ _ _ _ ⟨(bc D S [cN c]).e,(bc D S [cN c]).D,(bc D S [cN c]).S,st⟩ ?_ G9 ?_ ?_ ?_ ?_
   .unfold bu;rw[MM (fun h=>h h0),M0 aE]
   .rw[A9.h 151];exact af
   .rw[(V q9 G9).2.1.2.1];exact hIn.ix
   .rw[A9.h 152];exact ad
   .exact h9.trans (ai.symm.trans ((by rw[Q.i 151,P.i 151]:q7.i 151=l.i 151).trans he))
 .have aF:bq st c≠0:=fun h=>L (I.trans h);intro q3 g3 p3 q4 g4 p4;refine⟨by rw[j p4];omega,fun l g5 p5=>⟨by rw[j p5];omega,fun _=>?_,fun h=>absurd ((j p5).symm.trans h) aj⟩⟩;have G5:Agree 142 J l:=G2.trans (g3.mono.trans (g4.mono.tr g5));obtain⟨_,⟨_,_,_,_,_,r1⟩,_⟩:=V l G5;have hm:=met (s:={data:=#[97,115,107]}) (n:=l.i 144) p3 p4 p5;have ak:q3.i 145=l.i 145:=by rw[g5.i 145,g4.i 145]
  rw[ak]at hm;rw[r1];refine⟨C hm,fun o P ⟨F6,aG,_⟩=>?_⟩;have h6:o.i 148=l.i 144:=by simpa using G hm aG
  have G6:Agree 142 J o:=G5.tr P;obtain⟨_,⟨o5,o6,o8,_,_,_⟩,_⟩:=V o G6;refine fin o 135 136 138 _ _ _ _ _ ⟨bq st c,D,S,st⟩ ?_ G6 (by rw[o5];exact hIn.so) (by rw[o6];exact hIn.ix) (by rw[o8];exact hD) ?_
  .unfold bu;rw[M0 aF]
  .exact h6.trans ((by rw[g5.i 144,g4.i 144,g3.i 144]:l.i 144=q2.i 144).trans I)
def CE (hb:0<=b) (h:Value.pointer (slP a b)=.pointer (some ⟨r,0,none⟩)):a=r/\b=0 :=
 jz (x:=(r:Int)) (y:=0) ae (MT 0) hb ((Value.pointer.inj h).trans (by rw[slP_pos ae];rfl))
def bI.uniq (h:bI H p dp S st) (h':bI H p dp' S' st'):dp=dp'/\S=S'/\∀ i,i<6->st i=st' i:=by
 obtain⟨r,ps,x,HS,HI,hp,h⟩:=h;obtain⟨r',ps',x',j,k,c,h'⟩:=h';obtain⟨d,e,f⟩:=jM h.d1 h.d2 h.d3;rw[<-h.hl]at d e f;obtain⟨m1,m2,m3⟩:=jM h'.d1 h'.d2 h'.d3;rw[<-h'.hl]at m1 m2 m3;rw[hp]at c;obtain rfl:r=r':=by simpa using c
 have e1:=d _ _ (Hl.one_self _ _);have g:=m1 _ _ (Hl.one_self _ _);rw[e1]at g;obtain⟨rfl,rfl⟩:ps=ps'/\x=x':=by simpa using g
 obtain⟨a,b⟩:=(h.so.rd.mono e).uniq (h'.so.rd.mono m2);exact⟨a,b,fun i hi=>(h.ix.rd.mono f).st (h'.ix.rd.mono m3) hi⟩
def bI.congr (h:bI H p dp S st) (e:∀ i,i<6->st i=st' i):bI H p dp S st':=by
 obtain⟨r,ps,x,HS,HI,hp,h⟩:=h;exact⟨r,ps,x,HS,HI,hp,h.so,h.ix.congr e,h.d1,h.d2,h.d3,h.hl⟩
def AA (e:∀ i,i<6->st i=st' i) (c:Pc):(bu D S st c).e=(bu D S st' c).e/\(bu D S st c).D=(bu D S st' c).D/\(bu D S st c).S=(bu D S st' c).S/\∀ i,i<6->(bu D S st c).st i=(bu D S st' c).st i:=by
 unfold bu;rw[jR e c];split
 .exact⟨rfl,rfl,rfl,e⟩
 .split
  .exact⟨rfl,rfl,rfl,e⟩
  .exact⟨rfl,rfl,rfl,fun i hi=>rS e c hi⟩
def xU {b RG:Hl} {c:Pc} (j:bI H p dp S st) (k:DiskAt b dp D) (hx:aV T B row c) {K1 K2:Hl} (h:(su rt).post [p,.agg row.toArray] [H,b] [T,B,RG] v [K1,K2] F) :
 bI K1 p dp (bu D S st c).S (bu D S st c).st/\DiskAt K2 dp (bu D S st c).D/\v=.int .i64 (bu D S st c).e:=by
 obtain⟨n,H',l,row',o,q,m,dp',S',D',st',c',r,s,e1,d,f,r1,d1,x1,g,r2,d2,hv⟩:=h;simp only[MH,MZ,Value.agg.injEq]at e1 d f g;obtain⟨rfl,e1⟩:=e1;obtain⟨rfl,rfl⟩:=d;obtain⟨rfl,rfl,rfl⟩:=f;obtain⟨rfl,rfl⟩:=g;have e1:=M4 e1;subst e1;obtain rfl:=hx.uniq x1;obtain⟨rfl,rfl,a⟩:=j.uniq r1;obtain rfl:=k.uniq d1;obtain⟨f1,f2,f3,f4⟩:=AA (D:=D) (S:=S) a c;rw[f1,f2,f3];exact⟨r2.congr fun i hi=>(f4 i hi).symm,d2,hv⟩
end Go.Proofs.YtbdikjnpbnobcaaGreatDoor
namespace Go.Proofs.YtbdikjnpbnobcaaGreatDoor
open Go Go.Sx Go.Pk
open Go.Proofs.YtbdikjnpbnobcaaGreatDoor.D hiding envI noLoops numS
variable {D:DM}{F H K R R1 R2 R3 RA T:Hl}{c d k x y:Int}{X Y bs:List Int}{a b row row':List Value}{l m n:Nat}{st:Nat->List Pc}{p:Pc}{r r':Rp}{S:SM}{dp u v:Value}
def RS (D:DM) (S:SM) (n m:Nat):Prop:=∃ (g:Int) (K:Nat),Nonempty (SP D S n g K)/\K<=m/\S.recs.length<=m/\S.bA.length<=1100*m
def RS.pre (h:RS D S n m) (hm:m<=900):S.bA.length<=1048576/\0<=S.LA.serial/\S.recs.length<=1000000000:=by
 obtain⟨g,K,⟨h⟩,hK,hr,hb⟩:=h;refine⟨ae,?_,ae⟩;rw[h.eA];exact Ok _
def RS.new (h:6<=m/\m<=16384):RS (newD m) (cU (newD m)) (m/2) 0/\(cU (newD m)).recs=[]/\bN (newD m)=0/\ah (gF (newD m))/\ah (dj (newD m)):=by
 obtain⟨⟨hP⟩,hr,a⟩:=SP.new h;obtain⟨_,_,b1,b2⟩:=hP.open;have hb:(cU (newD m)).bA=[]:=by rw[hP.pk,hr];rfl
 exact⟨⟨0,0,⟨hP⟩,M1 _,by rw[hr];exact M1 _,by rw[hb];exact NO _⟩,hr,a,b1,b2⟩
def x9 (hx:aV R1 R2 row p):ah (cN p):=by
 unfold cN ak;exact bx (bx (cX _) (GS hx.hd).1) (bx (cX _) hx.byte)
def zC:List Value:=[.int .i64 0,.int .u64 0]++List.replicate 32 (.int .u8 0)++[.int .i64 0,.bool false,.int .u64 0]++List.replicate 16 (.int .u8 0)++[.bool false]++List.replicate 6 (.int .u64 0)++List.replicate 32 (.int .u8 0)++[.int .i64 0]++List.replicate 32 (.int .u8 0)
def z0:Pc:=⟨⟨zC,[]⟩,[]⟩
def xz (st:Nat->List Pc) (p:Pc) (i:Nat):(fu st p i).length<=(st i).length+1:=by
 unfold fu;split
 .unfold upd;split
  .rename_i h;rw[h,MJ];exact M1 _
  .omega
 .omega
def yM (d:DiskAt H dp D) (h:nT.post [dp] [H] [] v [K] F):DiskAt K dp D/\∃ a,v=.tuple #[a,.int .i64 0]/\bI F a dp (cU D) (fun _=>[]):=by
 obtain⟨dp',H',D',e,a,e1,b,d1,c,d2,hv,hr⟩:=h;simp only[MH,MZ]at e1 b c;subst e1 b c;obtain rfl:=d.uniq d1;exact⟨d2,a,hv,hr⟩
def Ee (h:newS.post [.int .i64 (m:Int)] [] [] v [] F):DiskAt F v (newD (m:Int)):=by
 obtain⟨n,a,b⟩:=h;simp only[MH,Value.int.injEq,Nz,MZ]at a;subst a;exact b
def Dl {a b:Int} (h:gy R (.pointer (slP a b)) st) (hb:0<=b):0<=a/\b=0/\∃ x:Nat,R.cell a.toNat (b+1).toNat=some (.pointer (some ⟨x,0,none⟩))/\fa R x st:=by
 obtain⟨r,ps,x,hp,hr,hI⟩:=h;obtain⟨rfl,rfl⟩:=CE hb hp;refine⟨Ok _,rfl,x,?_,hI⟩;rw[MD];unfold Hl.cell;rw[hr];rfl
def qW (c:RdW T u bs) (h:iR.post [u] [] [T] v [] F):wh bs v F:=by
 obtain⟨d,b',R',e1,b,a,hp⟩:=h;simp only[MH,MZ]at e1 b;subst e1 b;obtain rfl:=c.uniq a;exact hp
def mJ (h:Value.tuple #[.agg a.toArray,.int .i64 c]=.tuple #[.agg b.toArray,.int .i64 d]):a=b/\c=d:=by
 obtain⟨h1,h2⟩:=qN h;exact⟨M4 (Value.agg.inj h1),by simpa using h2⟩
def GF {r:Rq} (hx:cy R1 R2 R3 row r):aV R1 R2 ((row.drop 2).take 126) ⟨r.h,r.b⟩:=by
 have a:oK=(IA.drop 2).take 126:=by kernel_rfl
 refine⟨by rw[a];exact gI (nY hx.ok),?_,?_,hx.byte,hx.len⟩
 .rw[Qa];exact hx.hd
 .have:=hx.body;rw[MR,Nv ae,Nm,<-MR];exact this
def Ec (p:Pc):0<=bq st p/\bq st p<=14:=by
 unfold bq fT
 (repeat' split)<;>omega
def BK (h:RS D S n 0) (hn:50<=n) (hx:aV R1 R2 row p) (hb:p.b.length<=2100) (st:Nat->List Pc):(bu D S st p).e=bq st p/\(bu D S st p).st=fu st p:=by
 obtain⟨g,K,⟨hP⟩,hK,hr,a⟩:=h;by_cases h0:bq st p=0
 .have hl:=(wu hx ae).1;have f:=iE (b:=cN p) ae;have c:(aH [cN p]).length=(ak (cN p)).length:=by unfold aH;simp
  obtain⟨a1,a2,⟨i⟩⟩:=hP.add (rows:=[cN p]) (fun r hr=>by rw[MO.1 hr];omega) ae (fun r hr=>by rw[MO.1 hr];exact x9 hx) ae;have e:bu D S st p=⟨0,(bc D S [cN p]).D,(bc D S [cN p]).S,fu st p⟩:=by
   unfold bu;rw[MM (fun x=>x h0),MM (fun x=>x a1)]
  rw[e];exact⟨h0.symm,rfl⟩
 .have e:bu D S st p=⟨bq st p,D,S,st⟩:=by unfold bu;rw[M0 h0]
  have d:fu st p=st:=by unfold fu;rw[MM h0]
  rw[e,d];exact⟨rfl,rfl⟩
def Cv (h:aX X=aX Y):X=Y:=by
 have t:∀ X:List Int,Trim (aX X) (X.length+1):=fun X=>⟨by unfold aX;simp,fun j z a hz=>(qv X).2 j z ae hz,Or.inr ⟨1,(qv X).1,ae⟩⟩;have l:X.length+1=Y.length+1:=by
  have:=t X;rw[h]at this;exact this.pad
 have e:∀ X:List Int,(aX X).take X.length=X:=fun X=>by unfold aX;rw[MY,Ox]
 have:=e X;rw[h,show X.length=Y.length by omega,e Y]at this;exact this.symm
def Dn:∀ (l:List Int),ah (fF l)
 | []=>fun z hz=>by cases hz
 | v::l=>by
  show ah (aq v.toNat++fF l);exact bx (cX _) (Dn l)
def GU (h:r.p=[]):ah (aX (cO r)):=by
 unfold aX cO BA;rw[h];refine bx (bx (bx (bx (bx (bx (bx (cX _) (cX _)) (cX _)) (Dn _)) (cX _)) fun z hz=>by cases hz) fun z hz=>?_) fun z hz=>?_
 .simp at hz;omega
 .have:=PL hz;omega
def GQ {id er:Int} (h0:0<=id/\id<18446744073709551616) (hk:1<=k/\k<=3) (he:0<=er/\er<=14) (hs:∀ i,i<6->(st i).length<=1) (hy:0<=y):∃ r:Rp,cM T T ([.int .u64 id,.int .i64 k,.int .i64 er]++qc st++[.slice (slP x y) 0 c.toNat]) r/\r.p=[]/\r.Form:=by
 have s0:=hs 0 ae;have s1:=hs 1 ae;have s2:=hs 2 ae;have b:=hs 3 ae;have d:=hs 4 ae;have e:=hs 5 ae;refine⟨⟨_,[]⟩,⟨⟨rfl,rfl,rfl,rfl,rfl,rfl,rfl,rfl,rfl,rfl,zzT⟩,?_,rfl,[],⟨x,y,c.toNat,rfl,hy,Or.inl rfl⟩,rfl,fun j row p h=>by simp at h⟩,rfl,?_⟩
 .intro v hv;simp only[qc,OD,N1,MQ,MV,Nt]at hv;rcases hv with rfl | rfl | rfl | rfl | rfl | rfl | rfl | rfl | rfl | rfl<;>simp only[kT,bS]<;>omega
 .refine⟨hk,he,?_,NO _,fun c a=>(nomatch a),by show(0:Int)<=14500;omega⟩;show((st 0).length:Int)<=1048576/\((st 1).length:Int)<=1048576/\((st 2).length:Int)<=1048576/\((st 3).length:Int)<=1048576/\((st 4).length:Int)<=1048576/\((st 5).length:Int)<=1048576;omega
def Ed (hx:cM R RA row r) (hp:r.p=[]) {c:Nat} (e:row.getD 9 cC=.slice (slP x y) l c):l=0:=by
 obtain⟨rows,⟨x',y',c',a,_⟩,hl,_⟩:=hx.ps;rw[e,hp]at *;simp only[Value.slice.injEq]at a;rw[a.2.1];exact hl
def yL {R' c:Hl} (hx:cM R RA row r) (hf:r.Form) (d:cM R' c row' r') (e:r'.Form) (h:aX (cO r')=aX (cO r)) (hp:r.p=[]):r'.p=[]:=by
 have a:=(uA hx hf).2.2.2.2.1;have b:=(uA d e).2.2.2.2.1;rw[Cv h,a,hp]at b;exact MF.1 b.symm
def yK (cv:Nat->Int) (all:Bool) (T:List (List Int)) (most:Int):dY (fun _=>[]) cv all T most=[]:=by
 have h:∀ k,bo (fun _=>([]:List Pc)) (dr cv) k=[]:=fun k=>by
  induction k with
  | zero=>rfl
  | succ k ih=>show bo _ _ k++bF _ _ k 6=[];rw[ih];simp [bF]
 unfold dY;rw[h];simp
def JV:Sx.Spec where
 fn:=3
 own:=[]
 rd:=[0,2000003]
 res:=[.one .bool]
 pre:=fun xs Hs Rs=>∃ u bs T RG g,xs=[u]/\Rs=[T,RG]/\RdW T u bs/\ah bs/\(Gl RG g/\yE RG 2/\RG.cell 1 0=some ru)
 post:=fun xs Hs Rs v Hs' F=>v=.bool true
noncomputable def I9:List Sx.Spec:=[Em,newS,nT,iR,je 37,su 1001053,we,nh,mj,mi,qE,qF]
def Eh:∀ t∈I9,t.OK Tryz.prog:=ai BL <| ai newS_ok <| ai yf <| ai ui <| ai oW <| ai (AB _) <| ai Az <| ai rN <| ai tL <| ai tK <| ai yi <| ai yj <| aD
def GG:Em.res=[.one .bool]:=rfl
def GH:newS.res=[.one .ptr]:=rfl
def GI:nT.res=[.one .ptr,.one (.int .i64)]:=rfl
def GJ:iR.res=[.agg ji,.one (.int .i64)]:=rfl
def GK (f:FuncId):(je f).res=[.one .bool]:=rfl
def GL:(su 1001053).res=[.one (.int .i64)]:=rfl
def GM:we.res=[.one .sl]:=rfl
def GN:nh.res=[.agg bC,.one (.int .i64)]:=rfl
def GO:mj.res=[.agg (List.replicate 6 (Ck.int .u64))]:=rfl
def GP:mi.res=[.one (.int .i64)]:=rfl
def Ef:qE.res=[.one .sl,.one (.int .i64)]:=rfl
def Eg:qF.res=[.agg ya,.one (.int .i64)]:=rfl
noncomputable def LU:Walk Tryz.prog I9 JV.fn where
 Λ:=fun p=>if deadAt p [51,1,1,0,1,0,0,1,1]||deadAt p [17,1,0,1,0]then some ⟨0,[],[],0⟩
  else if cutAt p [17,1,1,1,0]then some ⟨1,[],[(2,.hp 405 [] [.var 23] []),(3,.hp 406 [] [.var 25] [.var 23]),(10,.blk 331 ([.int .u64 (.var 178),.int .i64 (.var 179),.int .i64 (.var 400),.int .u64 (.lit 0),.int .u64 (.lit 0),.int .u64 (.lit 0),.int .u64 (.lit 0),.int .u64 (.lit 0),.int .u64 (.lit 0),.sl (.var 401) (.var 402) (.var 403) (.var 404)]) 53)],410⟩else none
 args:=[.sv (.one (.sl (.var 0) (.var 1) (.var 2) (.var 3)))]
 mem:=[.ro 20 [.var 0] true,.ro 21 [.lit 0,.lit 1,.lit 2,.lit 3,.lit 4,.lit 5] false]
 nv:=22
def GD:Nat->Env->Prop:=fun _ q=>∃ st,gy (q.h 406) (.pointer (slP (q.i 25) (q.i 26))) st/\(∀ i,i<6->(st i).length<=1)/\(0<=q.i 400/\q.i 400<=14)/\ -1<=q.i 401/\0<=q.i 402/\q.i 403=0/\0<=q.i 404
set_option maxRecDepth 20000 in
def Eb:JV.OK Tryz.prog:=by
 refine Spec.of_fn (Γ:=I9) Eh ?_;rintro xs Hs Rs a2 bG ⟨u,bs,T,RG,g,rfl,rfl,hR,hb,hG⟩;have e0:Hs=[]:=MF.1 a2;subst e0;obtain⟨x,y,c,rfl,hy,_⟩:=id hR;refine⟨LU,envI [x,y,bs.length,c] false (List.replicate 20 Hl.none++[T,RG]),GD,fun _ _=>0,?_,bM (by intro r hr;simp [LU]at hr;rcases hr with rfl | rfl<;>exact⟨_,_,_,rfl⟩) rfl,(fun _ h=>nomatch h),?_⟩
 .show [Value.slice (slP x y) ((bs.length:Int)).toNat ((c:Int)).toNat]=_;simp only[MD]
 refine Walk.read [ji,bC,ya] [] [] ?_;generalize au:envI [x,y,bs.length,c] false (List.replicate 20 Hl.none++[T,RG])=J;have V:∀ q:Env,Agree 22 J q->(q.i 0=x/\q.i 1=y/\q.i 2=bs.length/\q.i 3=c)/\q.h 20=T/\q.h 21=RG:=fun q g=>by
  rw[g.i 0,g.i 1,g.i 2,g.i 3,g.h 20,g.h 21,<-au];exact⟨⟨rfl,rfl,rfl,rfl⟩,rfl,rfl⟩
 clear au;simp only[go_sem,Nat.reduceAdd,I9,GG,GH,GI,GJ,GK,GL,GM,GN,GO,GP,Ef,Eg,BB,Ge];have out:∀ {q:Env} {mem:Mem} {e:E},bev q e=true->postOf JV [.slice (slP x y) bs.length c] [] [T,RG] q mem (.sv (.one (.bool e))):=fun h=>kj rfl (by show Value.bool _=_;rw[h]);refine⟨rfl,fun q1 g1 ⟨_,p1,_,_⟩=>⟨fun _=>?_,fun h=>absurd (Value.bool.inj p1) h⟩⟩;obtain⟨⟨v0,v1,v2,v3⟩,a3,aw⟩:=V q1 g1;refine⟨ae,fun _=>⟨rfl,fun q2 _ ⟨_,p2,_,_⟩=>out (Value.bool.inj p2)⟩,fun a4=>?_⟩;have Y:∀ {v:Value} {F:Hl},newS.post [.int .i64 100] [] [] v [] F->DiskAt F v (newD ((100:Nat):Int)):=fun h=>Ee (m:=100) h;obtain⟨H,L,ax,Z,aa⟩:=RS.new (m:=100) ae;generalize newD ((100:Nat):Int)=D0 at Y H L ax Z aa;refine⟨⟨100,rfl⟩,fun q2 g2 ⟨F2,p2,a5,_⟩=>?_⟩;have ab:=Y p2;rw[<-a5 zzT]at ab;have G2:Agree 22 J q2:=g1.tr g2;refine⟨⟨_,_,D0,rfl,rfl,ab,Z,aa,ax,L⟩,fun q3 g3 ⟨F3,p3,a6,n3⟩=>?_⟩;obtain⟨ay,pv,az,D⟩:=yM ab p3;rw[<-a6 (by simp [cpRoots,Cp.roots,Ck.root])]at D;simp only[Value.tuple.injEq,Nc,MH,Value.int.injEq,Nz,MZ]at az;obtain⟨rfl,a7⟩:=az;refine⟨fun h=>absurd a7 h,fun _=>?_⟩;have G3:Agree 22 J q3:=G2.tr g3;obtain⟨ra,rb,xi,rc,rI⟩:=Dl D.rd n3.1.2;have bH:bs.length<=2000:=ae;have SL:∀ {q},Agree 22 J q->Value.slice (slP (q.i 0) (q.i 1)) (q.i 2).toNat (q.i 3).toNat=.slice (slP x y) bs.length c/\q.h 20=T:=fun g=>by
  obtain⟨⟨k0,k1,k2,k3⟩,k4,_⟩:=V _ g;rw[k0,k1,k2,k3,MD,MD];exact⟨rfl,k4⟩
 rw[(SL G3).1,(SL G3).2];refine⟨⟨_,bs,T,rfl,rfl,hR,hb,ae⟩,fun q4 g4 ⟨F4,p4,bI,n4⟩ q5 g5 _=>?_⟩;have G5:Agree 22 J q5:=G3.trans (g4.mono.tr g5);rw[(SL G5).1,(SL G5).2];refine⟨⟨_,bs,T,rfl,rfl,hR,hb,ae⟩,fun M g6 ⟨F6,p6,a8,n6⟩ q7 g7 _=>?_⟩;have P4:=qW hR p4;have P6:=qW hR p6;rw[ze]at P4 P6;have aA:Agree 177 q4 q7:=g5.trans (g6.mono.tr g7);have ad:Agree 28 q3 q7:=g4.tr aA;have G7:Agree 22 J q7:=G3.tr ad;have af:∀ {q:Env},Agree 28 q3 q->(0<=q.i 25/\0<=q.i 26)/\(q.h 26).cell (q.i 25).toNat (q.i 26+1).toNat=some (.pointer (some ⟨xi,0,none⟩))/\fa (q.h 26) xi (fun _=>[]):=fun g=>by
  rw[g.i 25,g.i 26,g.h 26];exact⟨⟨ra,ae⟩,rc,rI⟩
 obtain⟨⟨c1,c2⟩,c3,c4⟩:=af ad;rcases P6 with ⟨row,r,e6,hx,hf,hq⟩ | ⟨e6,ag⟩
 case inr =>
  obtain⟨_,o⟩:=mJ e6;have o:M.i 326=2:=o;have N:q4.i 176=2:=by
   rcases P4 with ⟨row,r,e4,hx,hf,hq⟩ | ⟨e4,_⟩
   .exact absurd hq (ag _ _ _ _ _ hx hf)
   .exact(mJ e4).2
  rw[g7.i 326,aA.i 176,o,N,c3,cl];refine⟨fun _=>⟨fun _=>⟨c1,c2,rfl,⟨xi,_,_,rfl,rfl,c4⟩,fun q8 g8 ⟨F8,p8,_,_⟩=>out ?_⟩,fun h=>absurd h aj⟩,fun h=>absurd h aj⟩;have h8:q8.i 328=0:=by simpa [bL] using p8 _ _ _ rfl rfl c4
  rw[bev_eq,iev_var,iev_lit,h8];rfl
 obtain⟨a9,o⟩:=mJ e6;have o:M.i 326=0:=o;have N:q4.i 176=0:=by
  rcases P4 with ⟨row',r',e4,ah,aB,bJ⟩ | ⟨e4,ag⟩
  .exact(mJ e4).2
  .exact absurd hq (ag _ _ _ _ _ hx hf)
 refine⟨fun h=>absurd ((g7.i 326).trans o) h,fun _ q8 g8 _ q9 g9 _=>?_⟩;have s:cy (M.h 178) (M.h 178) (M.h 178) row r:=by rw[a8 aj];exact hx
 have R6:∀ {q:Env},Agree 327 M q->(ckCVs 178 ji).map (CV.ev q)=row/\q.h 178=M.h 178/\q.i 176=0:=fun g=>⟨(bk g (a:=178) (ks:=ji) aj).trans a9,g.h 178,by rw[g.i 176,g6.i 176,g5.i 176,N]⟩;have ai:Agree 327 M q9:=g7.trans (g8.mono.tr g9);rw[(R6 ai).1,(R6 ai).2.1];refine⟨⟨row,_,_,_,r,rfl,rfl,s⟩,fun bK aC ⟨_,ba,_,_⟩=>?_⟩;have bb:=oZ s ba;refine⟨fun h=>absurd (bb.symm▸hf) h,fun _ f aD _=>?_⟩;have A6:Agree 327 M f:=ai.trans (aC.mono.tr aD);have G:Agree 28 q3 f:=ad.trans (g8.mono.trans (g9.mono.trans (aC.mono.tr aD)));have aE:Agree 22 J f:=G3.tr G;obtain⟨er,eh,_⟩:=R6 A6;have ep:(ckCVs 180 bC).map (CV.ev f)=(row.drop 2).take 126:=by rw[<-er];kernel_rfl
 have k1:cI r.c 1=f.i 179:=by rw[s.I aj,<-er];kernel_rfl
 have bN:cI r.c 94=cI r.h.c 92:=by
  rw[s.I aj,s.hd.I aj];unfold cI;rw[Nv ae,Nm]
 have aF:cI r.c 138=f.i 325:=by rw[s.I aj,<-er];kernel_rfl
 have bc:0<=f.i 178/\f.i 178<18446744073709551616:=by
  have h:=s.rng (.int .u64 (f.i 178)) (by rw[<-er];exact MG (i:=0) zzK);exact h
 have ak:gN (fun _=>([]:List Pc)):=fun i _=>by show 0<1000000;omega
 have aG:Good (fun _=>([]:List Pc)):=fun i _ p h=>by cases h
 obtain⟨⟨d1,d2⟩,d3,d4⟩:=af G;obtain⟨t1,t2,t3⟩:=H.pre ae;obtain⟨_,a3,aw⟩:=V f aE;refine⟨⟨fun h1=>?_,fun h1=>⟨fun h2=>?_,fun h2=>⟨fun h3=>?_,fun h3=>?_⟩⟩⟩,fun j n hI=>?_⟩
 .have hc:=GF s;have aH:(⟨r.h,r.b⟩:Pc).b.length<=2100:=by
   rcases hf with h | h | h
   .have:=(jQ h.2.2.2.1.2.2.2.1).2;have:=h.2.2.2.2;show r.b.length<=2100;omega
   .have:=h.1;omega
   .have:=h.1;omega
  rw[ep,eh,aw,G.i 25,G.i 26,G.h 26,G.h 25];refine⟨⟨_,_,_,_,_,_,RG,g,_,_,D0,_,_,rfl,rfl,rfl,D,ay,hc,aH,ak,hG,t1,t2,t3⟩,fun j n ⟨bd,al,_⟩=>?_⟩;obtain⟨aI,bA,aJ⟩:=xU (K1:=j.h 332) (K2:=j.h 333) D ay hc al;obtain⟨u1,u2⟩:=BK H ae hc aH (fun _=>[]);have aJ:j.i 332=bq (fun _=>[]) ⟨r.h,r.b⟩:=by simpa [u1] using aJ
  have hk:=Ec (st:=fun _=>[]) ⟨r.h,r.b⟩;have hl:∀ i,i<6->((bu D0 (cU D0) (fun _=>[]) ⟨r.h,r.b⟩).st i).length<=1:=fun i _=>by rw[u2];exact xz _ _ i
  have A:gy (j.h 332) (.pointer (slP (j.i 25) (j.i 26))) (bu D0 (cU D0) (fun _=>[]) ⟨r.h,r.b⟩).st:=by
   rw[n.i 25,n.i 26,G.i 25,G.i 26];exact aI.rd
  refine⟨fun _=>⟨_,A,hl,⟨?_,?_⟩,?_,?_,rfl,?_⟩,fun _=>⟨_,A,hl,⟨?_,?_⟩,?_,?_,rfl,?_⟩⟩
  all_goals first | exact MT _ | (show(0:Int)<=j.i 332;omega) | (show j.i 332<=14;omega) | (show(0:Int)<=14;omega)
 .have bf:∀ i,i<6->0<=(fun i:Nat=>f.i (312+i)) i/\(fun i:Nat=>f.i (312+i)) i<18446744073709551616:=fun i hi=>by
   refine(s.rng (.int .u64 (f.i (312+i))) ?_:_);have hm:row[128+i]?=some (.int .u64 (f.i (312+i))):=by
    rw[<-er];have:i=0\/i=1\/i=2\/i=3\/i=4\/i=5:=ae;rcases this with rfl | rfl | rfl | rfl | rfl | rfl<;>rfl
   exact MG hm
  have hw:row.getD 135 cC=.slice (slP (f.i 319) (f.i 320)) (f.i 321).toNat (f.i 322).toNat:=by rw[<-er];kernel_rfl
  have an:=s.tok;rw[hw]at an;have ec:Value.agg (List.map (CV.ev f) (ckCVs 312 (List.replicate 6 (Ck.int .u64)))).toArray=vk (fun i:Nat=>f.i (312+i)):=rfl;have A:gy (f.h 26) (.pointer (slP (f.i 25) (f.i 26))) (fun _=>[]):=by
   rw[G.i 25,G.i 26,G.h 26];exact D.rd
  rw[ec,eh];refine⟨⟨_,_,_,_,_,_,_,_,_,rfl,rfl,A,ak,aG,an,s.toks,fun i _=>NO _,bf⟩,fun j n ⟨bd,al,bB,O⟩=>?_⟩;have av:=al _ _ _ _ _ _ _ _ _ rfl rfl A an;rw[yK]at av;obtain⟨rows,⟨x',y',c',e',_⟩,hl,_⟩:=av;simp only[Value.slice.injEq]at e';have O:-1<=j.i 332/\0<=j.i 333/\0<=j.i 334/\0<=j.i 335:=O.1;have hl:rows.length=0:=hl;have h0:j.i 334=0:=ae;rw[h0];refine⟨ae,fun h=>absurd h ae,fun _=>⟨fun _=>[],?_,fun i _=>NO _,⟨MT _,by show(0:Int)<=14;omega⟩,O.1,O.2.1,h0,O.2.2.2⟩⟩;show gy (j.h 26) (.pointer (slP (j.i 25) (j.i 26))) _;rw[n.h 26,n.i 25,n.i 26];exact A
 .intro j n _;have R:Agree 28 q3 j:=G.tr n;obtain⟨⟨d1,d2⟩,d3,d4⟩:=af R;have k3:0<=j.i 325/\j.i 325<18446744073709551616:=by
   rw[n.i 325,<-aF];rcases hf with h | h | h
   .have:=h.1;omega
   .have:=h.1;omega
   .have:=h.2.2.2.2.2;omega
  rw[d3,cl];refine⟨d1,d2,rfl,⟨xi,_,_,_,_,rfl,rfl,d4,ak,aG,k3⟩,fun aK S ⟨bO,bg,_,_⟩ d U _=>?_⟩;have aL:aK.i 465=11:=by
   obtain⟨x',R',st',n',s',e1,e2,bh,hc⟩:=bg;simp only[MH,MZ,Value.pointer.injEq,MP,Addr.mk.injEq,Value.int.injEq,Nz]at e1 e2;obtain⟨rfl,rfl,rfl⟩:=e1;subst e2;rcases hc with ⟨hn,hs,row',p',W,_⟩ | ⟨_,u,hv⟩
   .rw[<-d4.st bh (i:=(j.i 324-1).toNat) ae]at W;simp at W
   .have:=(qN hv).2;rw[zd]at this;simpa using this
  have ao:Agree 28 q3 d:=R.trans (S.mono.tr U);have aq:d.i 465=11:=by rw[U.i 465,aL]
  refine⟨fun h=>absurd (aq.symm.trans h) aj,fun _=>⟨fun _=>[],?_,fun i _=>NO _,⟨?_,?_⟩,MT _,MT _,rfl,MT _⟩⟩
  .show gy (d.h 26) (.pointer (slP (d.i 25) (d.i 26))) _;rw[ao.h 26,ao.i 25,ao.i 26];exact D.rd
  .show(0:Int)<=d.i 465;omega
  .show d.i 465<=14;omega
 .exfalso;rcases hf with h | h | h
  .have:=h.1;omega
  .have:=h.1;omega
  .have:=h.1;omega
 intro aK S _;obtain⟨st,A,aM,⟨bj,bl⟩,bP,bm,bn,bQ⟩:=hI;have R:Agree 28 q3 j:=G.tr n;obtain⟨z1,z2,zx,zc,zI⟩:=Dl A (by rw[R.i 26];omega);have K:∀ {q:Env},Agree 410 j q->(0<=q.i 25/\0<=q.i 26)/\(q.h 406).cell (q.i 25).toNat (q.i 26+1).toNat=some (.pointer (some ⟨zx,0,none⟩))/\fa (q.h 406) zx st:=fun g=>by
  rw[g.i 25,g.i 26,g.h 406];exact⟨⟨z1,ae⟩,zc,zI⟩
 have aN:gN st:=fun i hi=>by have:=aM i hi;omega
 obtain⟨⟨y1,y2⟩,y3,y4⟩:=K S;rw[y3,cl];refine⟨y1,y2,rfl,⟨zx,_,st,rfl,rfl,y4,aN⟩,fun d U ⟨bR,bo,_,_⟩=>?_⟩;have bp:=M4 (Value.agg.inj (bo _ _ _ rfl rfl y4 aN));have t:Agree 410 j d:=S.tr U;have aO:Agree 327 M d:=A6.trans (n.mono.tr t);have hk:1<=f.i 179/\f.i 179<=3:=by
  rcases hf with h | h | h
  .have:=h.1;omega
  .have:=h.1;omega
  .have:=h.1;omega
 have C:Agree 332 f d:=n.tr t;obtain⟨P,Q,aP,X⟩:=GQ (T:=T) (id:=d.i 178) (k:=d.i 179) (er:=d.i 400) (x:=d.i 401) (y:=d.i 402) (c:=d.i 404) (st:=st) (by rw[C.i 178];exact bc) (by rw[C.i 179];exact hk) (by rw[t.i 400];exact⟨bj,bl⟩) aM (by rw[t.i 402];exact bm);have aQ:List.map (CV.ev d) ([CV.int .u64 (.var 178),CV.int .i64 (.var 179),CV.int .i64 (.var 400)]++ckCVs 411 (List.replicate 6 (Ck.int .u64))++[CV.sl (.var 401) (.var 402) (.var 403) (.var 404)])=[.int .u64 (d.i 178),.int .i64 (d.i 179),.int .i64 (d.i 400)]++qc st++[.slice (slP (d.i 401) (d.i 402)) 0 (d.i 404).toNat]:=by
  have aR:d.i 403=0:=by rw[t.i 403];exact bn
  rw[M9,M9,bp];show _++_++[Value.slice (slP (d.i 401) (d.i 402)) (d.i 403).toNat (d.i 404).toNat]=_;rw[aR];rfl
 obtain⟨_,aS,_⟩:=V d (aE.tr C);rw[aQ,aS];refine⟨⟨_,_,_,P,rfl,rfl,Q⟩,fun l br ⟨bS,px,aT,B⟩=>?_⟩;obtain⟨u,hu,hO⟩:=px _ _ _ P rfl rfl Q;obtain rfl:=aT (by simp [cpRoots,Cp.roots,Ck.root]);have e1:jj P=(aX (cO P),0):=by unfold jj;rw[M0 X]
 rw[e1]at hu hO;have hu:=M4 (Value.tuple.inj hu);simp only[MH,Value.int.injEq,Nz,MZ]at hu;obtain⟨rfl,aU⟩:=hu;have B:-1<=l.i 417/\0<=l.i 418/\0<=l.i 419/\0<=l.i 420:=B.1;have hO:OwB (l.h 417) 5 (.slice (slP (l.i 417) (l.i 418)) (l.i 419).toNat (l.i 420).toNat) (aX (cO P)):=hO;obtain⟨aV,_⟩:=hO.rd.at B.1 B.2.1 B.2.2.1;have bD:=vV hO B.2.2.1 B.2.2.2;have hlen:(aX (cO P)).length<=1000000:=by
  have h1:=AV Q X;have h2:=vY (cO P) ae;have h3:=re (((cO P).length:Int)+1);omega
 have aW:Agree 327 M l:=aO.tr br;have hW:=hO.rd.w;refine⟨fun h=>absurd (R6 aW).2.2 h,fun _=>?_⟩;have ev:Value.slice (slP (l.i 417) (l.i 418)) (l.i 419).toNat (l.i 420).toNat=.slice (slP (l.i 417) (l.i 418)) (aX (cO P)).length (l.i 420).toNat:=by rw[aV,MD]
 refine⟨⟨_,_,_,aX (cO P),_,by rw[ev],rfl,by rw[<-ev];exact hW,B.2.1,ae,GU aP,hlen⟩,fun z bt ⟨bT,nF,bE,aY⟩ bw ar _=>?_⟩;have nF:=nF _ _ _ rfl rfl hW;obtain⟨row',r',e,ah,aB,aZ⟩:=nF.resolve_right fun h=>h.2 _ _ _ P Q X rfl;obtain⟨bx,bz⟩:=mJ e;have a0:z.i 435=0:=bz;have W:=yL Q X ah aB aZ aP;have bF:(z.i 433).toNat=0:=Ed ah W (x:=z.i 431) (y:=z.i 432) (c:=(z.i 434).toNat) (by rw[<-bx];rfl);have aY:-1<=z.i 431/\0<=z.i 432/\0<=z.i 433/\0<=z.i 434:=aY.1.2.2.2.2.2.2.2.2.2.1;have a1:bw.i 433=0:=by rw[ar.i 433];omega
 refine⟨fun _=>⟨fun _=>⟨ae,out ?_⟩,fun h=>absurd ((ar.i 435).trans a0) h⟩,fun h=>absurd (by rw[ar.i 421,bt.i 421];exact aU) h⟩;rw[bev_eq,iev_var,iev_lit,a1];rfl
end Go.Proofs.YtbdikjnpbnobcaaGreatDoor
namespace Go.Sx
open Go Go.ChangeShapes Go.WideShapes Go.ChangeAt Go.RowKit Go.Deep
variable {cs xs:List Value}{b dp fuel y:Nat}{e t:TypeId}{v:Value}
def KP (v:Value):Kd->Prop
 | .int k=>∃ n,v=.int k n/\(Lit.int k n).wf=true
 | .bool=>∃ b,v=.bool b
 | _=>False
def lY:List Value->List Kd->Prop
 | [],[]=>True
 | v::l,k::m=>KP v k/\lY l m
 | _,_=>False
def im:∀ {l m:List Value} {a b:List Kd},lY l a->lY m b->lY (l++m) (a++b)
 | [],m,[],b,_,h=>h
 | v::l,m,k::a,b,h,h2=>⟨h.1,im h.2 h2⟩
 | [],_,_::_,_,h,_=>h.elim
 | _::_,_,[],_,h,_=>h.elim
def r9:∀ {l:List Value} {a:List Kd},lY l a->∀ (j:Nat) (k:Kd),a[j]?=some k->∃ v,l[j]?=some v/\KP v k
 | _::l,_::a,h,0,k,hk=>by simp at hk;subst hk;exact⟨_,rfl,h.1⟩
 | _::l,_::a,h,j+1,k,hk=>by simpa using r9 h.2 j k (by simpa using hk)
 | [],[],_,j,k,hk=>by simp at hk
 | [],_::_,h,_,_,_=>h.elim
 | _::_,[],h,_,_,_=>h.elim
def mh (f:TypeId->Option (List Kd)):List Field->Nat->Option (List Kd)
 | [],_=>some []
 | fl::l,o=>if fl.offset=o then match f fl.type with
  | some a=>match mh f l (o+a.length)with
   | some b=>some (a++b)
   | none=>none
  | none=>none
  else none
def CW (a:List Kd):Nat->List Kd
 | 0=>[]
 | n+1=>a++CW a n
def jt (P:Program):Nat->TypeId->Option (List Kd)
 | 0,_=>none
 | d+1,t=>match P.underlying t with
  | some (.int k)=>some [.int k]
  | some .bool=>some [.bool]
  | some (.array n e)=>match jt P d e with
   | some a=>if a.length=P.cellsOf e/\P.cellsOf t=n*a.length then some (CW a n)else none
   | none=>none
  | some (.struct fs)=>match mh (fun u=>(jt P d u).bind fun a=>if a.length=P.cellsOf u then some a else none) fs.toList 0 with
   | some a=>if a.length=P.cellsOf t then some a else none
   | none=>none
  | _=>none
section
variable {H:Type} {enc:TypeId×Value->H} {P:Program} {w:World} {base:Nat} {spare:Nat->Bool} {held:Bool}
def lU {g:TypeId->Option (List Kd)} {cs:List Value} : ∀ (l:List Field) (o:Nat) (ks:List Kd),mh g l o=some ks ->
 (∀ (fl:Field) (a:List Kd),fl∈l->g fl.type=some a->lY ((cs.drop fl.offset).take a.length) a)->lY ((cs.drop o).take ks.length) ks
 | [],o,ks,h,_=>by cases h;simp [lY]
 | fl::l,o,ks,h,d=>by
  simp only[mh]at h;split at h
  .rename_i ho;subst ho;split at h
   .rename_i a i;split at h
    .rename_i b hb;cases h;have h1:=d fl a ar i;have h2:=lU l (fl.offset+a.length) b hb fun f c hf j=>d f c (MW _ hf) j;have e:(cs.drop fl.offset).take (a++b).length=(cs.drop fl.offset).take a.length++(cs.drop (fl.offset+a.length)).take b.length:=by
      rw[MJ,Qe,OO]
     rw[e];exact im h1 h2
    .cases h
   .cases h
  .cases h
def pL {cs:List Value} {a:List Kd} : ∀ (n:Nat) (o:Nat),(∀ i,i<n->lY ((cs.drop (o+i*a.length)).take a.length) a)->lY ((cs.drop o).take (n*a.length)) (CW a n)
 | 0,o,_=>by simp [lY,CW]
 | n+1,o,h=>by
  have h0:=h 0 ae;simp only[Qj,NH]at h0;have ih:=pL n (o+a.length) fun i hi=>by
   have:=h (i+1) ae;rwa[OE,Nat.one_mul,PT (i*a.length),<-Ow]at this
  have e:(cs.drop o).take ((n+1)*a.length)=(cs.drop o).take a.length++(cs.drop (o+a.length)).take (n*a.length):=by
   rw[OE,Nat.one_mul,PT (n*a.length),Qe,OO]
  rw[e];exact im h0 ih
def uS:∀ (d:Nat) (t:TypeId) (ks:List Kd) (fuel:Nat) (cs:List Value) (x:DataW H×List MemPlace),jt P d t=some ks->DataW.trod enc P w base spare held fuel t cs=some x->lY cs ks:=by
 intro d
 induction d with
 | zero=>intro t ks fuel cs x h;cases h
 | succ d ih =>
  intro t ks fuel cs x h hx;simp only[jt]at h;split at h
  .rename_i k hu;cases h;obtain⟨n,rfl,_,hw⟩:=DataW.trod_int hu hx;exact⟨⟨n,rfl,hw⟩,zzT⟩
  .rename_i hu;cases h;obtain⟨b,rfl,_⟩:=DataW.trod_bool hu hx;exact⟨⟨b,rfl⟩,zzT⟩
  .rename_i n e hu;split at h
   .rename_i a l;split at h
    .rename_i j;cases h;obtain⟨xs,m,_,_,hl,f,c⟩:=DataW.trod_array hu hx;have key:=pL (cs:=cs) (a:=a) n 0 fun i hi=>by
      have h1:=c i hi;rw[<-j.1,ME ae]at h1;rw[Nw];exact ih e a m _ _ l h1
     rw[Qb,<-j.2,<-hl,NZ]at key;exact key
    .cases h
   .cases h
  .rename_i fs hu;split at h
   .rename_i a l;split at h
    .rename_i j;cases h;obtain⟨xs,m,_,_,hl,f,c⟩:=DataW.trod_struct hu hx;have key:=lU (cs:=cs) fs.toList 0 ks l fun fl b o hb=>by
      obtain⟨i,hi⟩:=NA o;have g:fs[i]?=some fl:=by simpa using hi
      have h1:=c i fl g;cases hk:jt P d fl.type with
      | none=>simp [hk]at hb
      | some b' =>
       simp only[hk,OM]at hb;split at hb
       .rename_i hlen;cases hb;have p:i<xs.length:=by rw[f];exact(Ng.1 g).1
        rw[<-hlen,ME p]at h1;exact ih fl.type b m _ _ hk h1
       .cases hb
     rw[Qb,j,<-hl,NZ]at key;exact key
    .cases h
   .cases h
  .cases h
def xL {ks:List Kd} {x:DataW H×List MemPlace} (s:P.underlying t=some (.slice e)) (hk:jt P dp e=some ks) (u:P.cellsOf e=ks.length)
 (h:DataW.trod enc P w base spare held fuel t cs=some x) :
 cs=[.slice none 0 0]\/∃ (a:Addr) (len cap:Nat),cs=[.slice (some a) len cap]/\len<=cap/\cap<=maxLen /\
  ∀ i,i<len->∀ (j:Nat) (k:Kd),ks[j]?=some k->∃ v,w.cell? (a.add (i*ks.length+j))=some v/\KP v k:=by
 rcases open_slice s h with h0 | ⟨a,len,cap,m,n,D,A,b,hb,hl,hm,c,hx,hi⟩
 .exact Or.inl h0.1
 .refine Or.inr ⟨a,len,cap,b,hl,hm,fun i y j k q=>?_⟩;have d:i<m:=by rw[c];split<;>omega
  obtain⟨f,r,g⟩:=hi i d;rw[u]at r;obtain⟨_,z,l⟩:=World.cells?_some r;have hok:=uS dp e ks n f _ hk g;obtain⟨v,hv,o⟩:=r9 hok j k q;have p:j<ks.length:=(MK.1 q).1;refine⟨v,?_,o⟩;rw[<-Go.Deep.add_add,l j p,hv]
end
def I0 {n:Int} (h:(Lit.int .u8 n).wf=true):0<=n/\n<256:=by
 simp only[Lit.wf,IntKind.min,IntKind.max,IntKind.signed,IntKind.bits,ML,MI]at h;simp at h;omega
section
variable {H:Type} {enc:TypeId×Value->H} {P:Program} {W:World} {base:Nat} {spare:Nat->Bool} {held:Bool} {d:DataW H} {p:List MemPlace}
def yJ (h:W.cell? ⟨b,y,none⟩=some v):(Hl.all W).cell b y=some v:=by
 unfold Hl.cell Hl.all;unfold World.cell? at h;split at h
 .rename_i c T a hb;rw[hb];simpa using h
 .cases h
def xc {a:Addr} (hv:W.cell? a=some v):a.spot=none:=by
 unfold World.cell? at hv;split at hv
 .split at hv
  .cases hv
  .rename_i h;simpa using h
 .cases hv
end
def Bh {P:Program} {s:Spec} (h:s.OK P) (ho:s.own=[]) {W:World} (c:s.pre xs [] (List.replicate s.rd.length (Hl.all W)))
 (hpost:∀ J F,s.post xs [] (List.replicate s.rd.length (Hl.all W)) ((cpTV 0 s.res).ev J) [] F->(cpTV 0 s.res).ev J=.bool true) :
 Calls P s.fn xs.toArray W fun e w'=>e=.returned (.bool true)/\Below W.heap.size W w':=by
 have:=h W xs [] (List.replicate s.rd.length (Hl.all W)) (by rw[ho];rfl) ar (fun _ h=>nomatch h) (fun R d=>by rw[(PG.1 d).2];exact Hl.all_sub W) (fun p _ H _ _ h=>by simp at h) (fun _ h=>nomatch h) c;refine this.mono ?_;rintro e w' ⟨J,Hs',F,rfl,_,a,hp⟩;have e0:Hs'=[]:=MF.1 a.len;subst e0;exact⟨by rw[hpost J F hp],⟨a.os,a.tape,a.output,a.size,fun b hb=>a.block b hb (fun _ h=>nomatch h)⟩⟩
section
variable {H:Type} {enc:TypeId×Value->H} {P:Program} {W:World} {base:Nat} {spare:Nat->Bool} {held:Bool} {d:DataW H} {p:List MemPlace}
def yY (u:P.underlying t=some (.slice e)) (hk:jt P dp e=some [.int .u8]) (w:P.cellsOf e=1) (hv:∃ a l c,v=.slice a l c) (h:DataW.Trod enc P W base spare held t v d p) :
 ∃ bs,RdW (Hl.all W) v bs/\∀ b∈bs,0<=b/\b<256:=by
 obtain⟨a0,f,k,rfl⟩:=hv;obtain⟨fuel,hf⟩:=h;rcases xL u hk w hf with h | ⟨a,len,cap,o,hl,A,s⟩
 .simp only[Value.cells,MH,Value.slice.injEq,MZ]at h;obtain⟨rfl,rfl,rfl⟩:=h;exact⟨[],⟨-1,0,0,rfl,ae,Or.inl rfl⟩,fun _ h=>nomatch h⟩
 .simp only[Value.cells,MH,Value.slice.injEq,MZ]at o;obtain⟨rfl,rfl,rfl⟩:=o;rcases OR f with h0 | h0
  .subst h0;obtain⟨x,y,hx,hy,_⟩:=slP_all (some a);exact⟨[],⟨x,y,k,by rw[hx];rfl,hy,Or.inl rfl⟩,fun _ h=>nomatch h⟩
  .have g:∀ i,i<f->∃ n,W.cell? (a.add i)=some (.int .u8 n)/\0<=n/\n<256:=by
    intro i hi;obtain⟨v,hv,ho⟩:=s i hi 0 _ rfl;obtain⟨n,rfl,hw⟩:=ho;refine⟨n,?_,I0 hw⟩;rw[show i=i*([Kd.int .u8]:List Kd).length+0 by simp];exact hv
   have q:a.spot=none:=by
    obtain⟨n,hn,_⟩:=g 0 h0;simp only[Addr.add,OA,NH]at hn;exact xc hn
   obtain⟨blk,off,spot⟩:=a;simp only at q;subst q;have m:∀ j z,((List.range f).map fun i=>valI (W.cell? ⟨blk,off+i,none⟩))[j]?=some z->W.cell? ⟨blk,off+j,none⟩=some (.int .u8 z)/\0<=z/\z<256:=by
    intro j z hz;have r:j<f:=by have:=(MK.1 hz).1;simpa using this
    rw[MU,Nf r]at hz;simp only[Nl,MP]at hz;obtain⟨n,hn,hr⟩:=g j r;rw[addr_add]at hn;rw[hn]at hz;have hz:n=z:=hz;subst hz;exact⟨hn,hr⟩
   refine⟨(List.range f).map fun i=>valI (W.cell? ⟨blk,off+i,none⟩),⟨blk,off,k,?_,ae,Or.inr ⟨ae,fun j z hz=>?_⟩⟩,fun b hb=>?_⟩
   .rw[slP_pos ae,M7,Oy];rfl
   .simp only[MD];exact yJ (m j z hz).1
   .obtain⟨j,r⟩:=N2.1 hb;exact(m j b r).2
end
end Go.Sx
namespace Go.Proofs.YtbdikjnpbnobcaaGreatDoor
open Go Go.Sx Go.Pk Go.RowKit
variable {g j:Nat}{W:World}
def DH:List (String×DataW Unit):=[("jalousie/store.errLost",Rows.laid_jalousie_store_errLost),("jalousie/store.errFull",Rows.laid_jalousie_store_errFull),("jalousie/store.errSpent",Rows.laid_jalousie_store_errSpent)]
def Ma:Tryz.prog.globalNamed "jalousie/store.errLost"= some 3:=by kernel_rfl
def Mb:Tryz.prog.globalNamed "jalousie/store.errFull"= some 4:=by kernel_rfl
def Mc:Tryz.prog.globalNamed "jalousie/store.errSpent"= some 5:=by kernel_rfl
def Md:(Tryz.prog.globals[3]?).map (·.type)=some 82:=by kernel_rfl
def Me:(Tryz.prog.globals[4]?).map (·.type)=some 82:=by kernel_rfl
def Mf:(Tryz.prog.globals[5]?).map (·.type)=some 82:=by kernel_rfl
def tH:Tryz.prog.cellsOf 318=1:=by kernel_rfl
def qb:Tryz.prog.cellsOf 9=1:=by kernel_rfl
def Dw : "*"++ "errors.errorString"= "*errors.errorString":=by decide
def zu (u:TypeId) (h:Tryz.prog.typeName? 3 u=some "*errors.errorString"):u=297 :=
 typeName_ptr_named (nm:= "errors.errorString") (by rw[Dw];kernel_rfl) zzK aj u (by rw[Dw];exact h)
set_option maxRecDepth 100000 in
def tJ (h:laidMetH Tryz.prog DH W):∃ a,Gl (Hl.all W) a:=by
 rw[MakeChecks.laidMetH_plain _ _ _ zzK]at h;obtain⟨ps,⟨g0,t0,n,f0,p0,V,hg0,p,f,q,⟨X,t1,r,f1,p1,q1,zJ,s,i,t,⟨Y,t2,w,f2,p2,q2,oB,x,j,y,_,F⟩,e1⟩,e0⟩,c,b⟩:=h;obtain rfl:=Nx (Ma.symm.trans hg0);obtain rfl:=Nx (Mb.symm.trans zJ);obtain rfl:=Nx (Mc.symm.trans oB);obtain rfl:=Nx (Md.symm.trans p);obtain rfl:=Nx (Me.symm.trans s);obtain rfl:=Nx (Mf.symm.trans x);subst F;subst e1;subst e0;obtain⟨G⟩:=n;obtain⟨H⟩:=r;obtain⟨I⟩:=w;have z:∀ u v,G=[.iface u v]->Value.okWide Tryz.prog W .any 0 u v:=fun u v e=>by
  subst e;exact(b 3 0 (by simp [MemPlace.row])).2 u v (by simpa using World.var?_cell hg0 f 0)
 have A:∀ u v,H=[.iface u v]->Value.okWide Tryz.prog W .any 0 u v:=fun u v e=>by
  subst e;exact(b 4 0 (by simp [MemPlace.row])).2 u v (by simpa using World.var?_cell zJ i 0)
 have B:∀ u v,I=[.iface u v]->Value.okWide Tryz.prog W .any 0 u v:=fun u v e=>by
  subst e;exact(b 5 0 (by simp [MemPlace.row])).2 u v (by simpa using World.var?_cell oB j 0)
 obtain⟨a0,s0,rfl,J,hs0,K,rfl⟩:=errorString_of_trod Tryz.underlying82 zu Tryz.underlying297 Tryz.underlying318 rfl rfl Tryz.underlying9 tH qb q z;obtain⟨a1,s1,rfl,L,M,N,rfl⟩:=errorString_of_trod Tryz.underlying82 zu Tryz.underlying297 Tryz.underlying318 rfl rfl Tryz.underlying9 tH qb t A;obtain⟨a2,s2,rfl,O,P,Q,rfl⟩:=errorString_of_trod Tryz.underlying82 zu Tryz.underlying297 Tryz.underlying318 rfl rfl Tryz.underlying9 tH qb y B;obtain⟨R,S,C⟩:=(b a0.block a0.off (by simp [MemPlace.row])).1;obtain⟨b1,T,D⟩:=(b a1.block a1.off (by simp [MemPlace.row])).1;obtain⟨b2,U,E⟩:=(b a2.block a2.off (by simp [MemPlace.row])).1;have k:a0≠a1:=by rintro rfl;simp [MemPlace.row]at c
 have l:a0≠a2:=by rintro rfl;simp [MemPlace.row]at c
 have m:a1≠a2:=by rintro rfl;simp [MemPlace.row]at c
 have cell:∀ {g:Nat} {v:Value},W.cell? ⟨g,0,none⟩=some v->(Hl.all W).cell g 0=some v:=by
  intro g v h;unfold World.cell? at h;unfold Hl.cell Hl.all;cases hh:W.heap[g]? with
  | none=>simp [hh]at h
  | some o=>cases o<;>simp_all
 have c0:=cell (World.var?_cell hg0 f 0);have c1:=cell (World.var?_cell zJ i 0);have c2:=cell (World.var?_cell oB j 0);refine⟨fun g=>if g=gQ then a0 else if g=fV then a1 else a2,fun g hg=>?_,fun g hg=>?_,fun g h hg hh d=>?_⟩
 .rcases hg with rfl | rfl | rfl
  .exact c0
  .exact c1
  .exact c2
 .rcases hg with rfl | rfl | rfl
  .exact⟨R,S,C⟩
  .exact⟨b1,T,D⟩
  .exact⟨b2,U,E⟩
 .rcases hg with rfl | rfl | rfl<;>rcases hh with rfl | rfl | rfl
  .exact absurd rfl d
  .exact k
  .exact l
  .exact fun e=>k e.symm
  .exact absurd rfl d
  .exact m
  .exact fun e=>l e.symm
  .exact fun e=>m e.symm
  .exact absurd rfl d
def ic:List (String×DataW Unit):=[("unicode/utf8.acceptRanges",Rows.laid_unicode_utf8_acceptRanges),("errors.errorType",Rows.laid_errors_errorType),("jalousie/hash.rounds",Rows.laid_jalousie_hash_rounds),("jalousie/store.errLost",Rows.laid_jalousie_store_errLost),("jalousie/store.errFull",Rows.laid_jalousie_store_errFull),("jalousie/store.errSpent",Rows.laid_jalousie_store_errSpent),("unicode/utf8.first",Rows.laid_unicode_utf8_first)]
def oQ {v:Value} (h:W.cell? ⟨g,j,none⟩=some v):(Hl.all W).cell g j=some v:=by
 unfold World.cell? at h;unfold Hl.cell Hl.all;cases hh:W.heap[g]? with
 | none=>simp [hh]at h
 | some o=>cases o<;>simp_all
def Mg (h:laidMetH Tryz.prog ic W):∃ a,Gl (Hl.all W) a:=by
 have b:=h.filter fun x=>x.1== "jalousie/store.errLost"|| x.1== "jalousie/store.errFull"|| x.1== "jalousie/store.errSpent"
 have e:(ic.filter fun x=>x.1== "jalousie/store.errLost"|| x.1== "jalousie/store.errFull"|| x.1== "jalousie/store.errSpent")=DH:=by kernel_rfl
 rw[e]at b;exact tJ b
def Ci {n:String} (hn:Tryz.prog.globalNamed n=some g) (a:(Tryz.prog.globals[g]?).map (·.type)=some 175) (h:laidMet Tryz.prog [(n,.agg (wF.map fun z=>.lit (.int .u32 z)))] W):yE (Hl.all W) g:=by
 obtain⟨ps,⟨k,t',cs,fuel,p,q,hg,e,hv,hd,_,_⟩,_,_⟩:=h;obtain rfl:=Nx (hn.symm.trans hg);obtain rfl:=Nx (a.symm.trans e);obtain⟨xs,m,_,ex,_,hl,b⟩:=DataW.trod_array Tryz.underlying175 hd;have f:Tryz.prog.cellsOf 173=1:=by kernel_rfl
 have hlen:wF.length=64:=by kernel_rfl
 intro r hr;have d:=b r hr;rw[f,Pf,ME ae]at d;obtain⟨z,e1,i,_⟩:=DataW.trod_int Tryz.underlying173 d;have j:(xs.map (·.1))=wF.map fun n=>.lit (.int .u32 n):=(DataW.agg.inj (Prod.mk.inj ex).1).symm;have c:(xs.map (·.1))[r]?=(wF.map fun n=>(DataW.lit (.int .u32 n):DataW Unit))[r]?:=by rw[j]
 rw[MU,MU,ME (by omega:r<xs.length),ME (by omega:r<wF.length),i]at c;have hz:z=wF.getD r 0:=by
  simp only[Nl,MP,DataW.lit.injEq,Lit.int.injEq,Nz]at c;rw[c,List.getD,ME (by omega:r<wF.length)];rfl
 refine oQ ?_;rw[World.var?_cell hg hv r,<-hz];have:cs.toList[r]?=some (.int .u32 z):=by
  have h0:((cs.toList.drop r).take 1)[0]?=some (.int .u32 z):=by rw[e1];rfl
  simpa using h0
 simpa using this
def Kq:Tryz.prog.globalNamed "jalousie/hash.rounds"= some 2:=by kernel_rfl
def Ks:(Tryz.prog.globals[2]?).map (·.type)=some 175:=by kernel_rfl
def H8 (h:laidMetH Tryz.prog ic W):yE (Hl.all W) 2:=by
 have a:=h.filter fun x=>x.1== "jalousie/hash.rounds";have e:(ic.filter fun x=>x.1== "jalousie/hash.rounds")=[("jalousie/hash.rounds",.agg (wF.map fun z=>.lit (.int .u32 z)))]:=by kernel_rfl
 rw[e,MakeChecks.laidMetH_plain _ _ _ zzK]at a;exact Ci Kq Ks a
def Kp:Tryz.prog.globalNamed "errors.errorType"= some 1:=by kernel_rfl
def Kr:(Tryz.prog.cutTypes.find? (·.1== "internal/reflectlite.rtype")).map (·.2)=some 254:=by kernel_rfl
def HK:((List.range Tryz.prog.types.size).filter fun t=>Tryz.prog.rowNamed t [101,114,114,111,114])=[82]:=by kernel_rfl
def Kk (h:laidMetH Tryz.prog ic W):(Hl.all W).cell 1 0=some ru:=by
 have a:=(laidMetH_iff.1 h).2;have e:(ic.filter fun x=>x.2.handleName?.isSome)=[("errors.errorType",Rows.laid_errors_errorType)]:=by kernel_rfl
 rw[e]at a;obtain⟨name,u,ty,e1,c,d,f,b⟩:=a _ (MO.2 rfl);have g:name=[101,114,114,111,114]:=(Nx e1).symm;subst g;obtain rfl:=Nx (Kr.symm.trans c);have hm:ty∈(List.range Tryz.prog.types.size).filter fun t=>Tryz.prog.rowNamed t [101,114,114,111,114]:=NW.2 ⟨Nn.2 d,f⟩;rw[HK]at hm;obtain rfl:=MO.1 hm;have hh:typeHandle Tryz.prog 82=.pointer (some ⟨9,82,none⟩):=by kernel_rfl
 rw[hh]at b;refine oQ ?_;unfold ru;simpa using World.var?_cell Kp b 0
def iy:List (String×DataW Unit):=ic.filter fun x=>x.2.handleName?.isNone
noncomputable def qJ (os:Os):World:=(World.doorLaid Tryz.prog 400 os).layVars Tryz.prog iy
def yp (os:Os):(qJ os).os=os:=(World.layVars_os _ _ _).trans rfl
def xl (os:Os) (args:Array Value):laidMetH Tryz.prog ic ((qJ os).forCall (fun _ _=>0) ⟨#[],args,[]⟩).memory:=by
 have e1:(iy.filter fun x=>(iy.map (·.1)).contains x.1)=iy:=List.filter_eq_self.2 fun x hx=>NP.2 (Np.2 ⟨x,hx,rfl⟩);have a:(iy.filter fun x=>!(iy.map (·.1)).contains x.1)=[]:=List.filter_eq_nil_iff.2 fun x hx=>by rw[NP.2 (Np.2 ⟨x,hx,rfl⟩)];simp
 have h:laidMet Tryz.prog iy (qJ os):=laidMet_layVars (w0:=World.doorLaid Tryz.prog 400 os) (iy.map (·.1)) [] (by rw[e1];rfl) (by rw[e1];kernel_rfl) (by rw[e1];kernel_rfl) (by rw[a];exact LaidIn.none);refine laidMetH_of_parts3 (fuel:=8) (h.of_heap (by simp [World.memory,World.forCall,Input.heap])) zzK zzK
end Go.Proofs.YtbdikjnpbnobcaaGreatDoor
namespace Go.Sx
open Go Go.ChangeShapes Go.WideShapes Go.ChangeAt Go.RowKit Go.Deep
section
variable {H:Type} {enc:TypeId×Value->H} {P:Program} {W:World} {base:Nat} {spare:Nat->Bool} {held:Bool} {d:DataW H} {p:List MemPlace}
end
end Go.Sx
