/- Pull after pull, for all and with bodies, brings every piece laid in a door once, each whole and in its writer's order: a part of the proof. No condition. -/
import Derived.Test.YtbdikjnpbnobcaaGreatDoorTI
set_option linter.all false
set_option maxHeartbeats 4000000
namespace Go.Proofs.YtbdikjnpbnobcaaGreatDoor
open Go Go.Sx Go.Pk
variable {A B F R R1 R2:Hl}{w w' x y:Int}{S T:List (List Int)}{hs hs':List Hd}{s t:List Int}{r1 r2 row:List Value}{a i:Nat}
def eqs (f g:Nat->Int):Nat->Nat->Prop
 | _,0=>True
 | n,1=>f n=g n
 | n,k+2=>f n=g n/\eqs f g (n+1) (k+1)
def K5 {f g:Nat->Int} : ∀ (k n:Nat),eqs f g n k↔∀ j,j<k->f (n+j)=g (n+j)
 | 0,n=>⟨fun _ j h=>ah,fun _=>trivial⟩
 | 1,n=>⟨fun h j a=>(by cases j with
  | zero=>exact h
  | succ j=>omega),fun h=>h 0 ah⟩
 | k+2,n=>by
  show(f n=g n/\eqs f g (n+1) (k+1))↔_;rw[K5 (k+1) (n+1)];constructor
  .rintro⟨h0,h⟩ j a;cases j with
   | zero=>exact h0
   | succ j=>have:=h j ah;rwa[show n+1+j=n+(j+1)by omega]at this
  .exact fun h=>⟨h 0 ah,fun j a=>by have:=h (j+1) ah;rwa[show n+(j+1)=n+1+j by omega]at this⟩
def TE {f g:Nat->Int} (hs:s.length=16) (b:t.length=16) (hf:∀ j,j<16->f j=s.getD j 0) (hg:∀ j,j<16->g j=t.getD j 0):eqs f g 0 16↔s=t:=by
 rw[K5];constructor
 .intro h;apply ack;intro j;by_cases a:j<16
  .have e:=h j a;rw[aco,hf j a,hg j a,abv,abv,aad ah,aad ah]at e;rw[aad ah,aad ah];exact ach some e
  .rw[abA ah,abA ah]
 .rintro rfl j a;rw[aco,hf j a,hg j a]
open Classical in
noncomputable def equalS:Sx.Spec where
 fn:=175
 own:=[]
 rd:=[0,1]
 res:=[.one .bool]
 pre:=fun xs Hs Rs=>∃ (u v:Value) (R1 R2:Hl) (S T:List (List Int)),xs=[u,v]/\Rs=[R1,R2]/\bd R1 u qm (S.map aS)/\bd R2 v qm (T.map aS)/\Fb S/\Fb T
 post:=fun xs Hs Rs w Hs' F=>∃ (u v:Value) (R1 R2:Hl) (S T:List (List Int)),xs=[u,v]/\Rs=[R1,R2]/\bd R1 u qm (S.map aS)/\bd R2 v qm (T.map aS)/\w=.bool (decide (S=T))
def Ap:aD Tryz.prog [] 175 where
 Λ:=fun p=>if QI p then some ⟨0,[(13,TI .i64 (.var 20))],[],22⟩else none
 args:=[.sv (.one (.sl (.var 0) (.var 1) (.var 2) (.var 3))),.sv (.one (.sl (.var 4) (.var 5) (.var 6) (.var 7)))]
 mem:=[.ro 8 [.var 0] false,.ro 9 [.var 4] false]
 nv:=10
def yQ (hy:0<=y) (d:∀ (i:Nat) row,(T.map aS)[i]?=some row->aR row qm/\∀ j u,row[j]?=some u->R.cell x.toNat (y.toNat+i*qm.length+j)=some u) (e:T[i]?=some t) (hl:t.length=16) :
 bx R x.toNat (y+(i:Int)*16).toNat 16=true/\∀ j,j<16->bO (R.cell x.toNat ((y+(i:Int)*16).toNat+j))=t.getD j 0:=by
 have h1:=(d i (aS t) (by rw[abl,e];rfl)).2;have hlen:qm.length=16:=rfl;rw[hlen]at h1;have b:(y+(i:Int)*16).toNat=y.toNat+i*16:=ah;have c:∀ j,j<16->R.cell x.toNat (y.toNat+i*16+j)=some (.int .u8 (t.getD j 0)):=fun j a=>by
  rw[h1 j (.int .u8 (t[j])) (by unfold aS;rw[abl,aad ah];rfl),abv,aad ah];rfl
 rw[b];constructor
 .unfold bx;rw[acd];intro j a;rw[c j (acv.1 a)];rfl
 .intro j a;rw[c j a];rfl
def aai (f g:Nat->Int):(f 0=g 0/\f 1=g 1/\f 2=g 2/\f 3=g 3/\f 4=g 4/\f 5=g 5/\f 6=g 6/\f 7=g 7/\f 8=g 8/\f 9=g 9/\f 10=g 10/\f 11=g 11/\f 12=g 12/\f 13=g 13/\f 14=g 14/\f 15=g 15)↔eqs f g 0 16:=agD
def M4:equalS.OK Tryz.prog:=by
 refine Spec.jN (Γ:=[]) (fun _ h=>by cases h) rfl ?_;rintro xs Rs ⟨u,v,R1,R2,S,T,rfl,rfl,t,hQ,hS,hT⟩;obtain⟨x,y,c,rfl,hy,b⟩:=id t;obtain⟨x',y',c',rfl,f,a⟩:=id hQ;refine⟨Ap,aM [x,y,S.length,c,x',y',T.length,c'] false [Hl.none,Hl.none,Hl.none,Hl.none,Hl.none,Hl.none,Hl.none,Hl.none,R1,R2],fun _ q=>∃ i:Nat,q.i 20=i/\i<=S.length/\∀ k,k<i->S[k]?=T[k]?,fun _ q=>(S.length-q.i 20).toNat,?_,⟨?_,?_,?_,?_⟩,rfl,?_⟩
 .rw[aca,aca];show [Value.slice (au x y) ((S.length:Int)).toNat ((c:Int)).toNat,Value.slice (au x' y') ((T.length:Int)).toNat ((c':Int)).toNat]=_;rw[aac,aac,aac,aac]
 .intro r hr ho;simp [Ap]at hr;rcases hr with rfl | rfl<;>cases ho
 .intro r hr ho;simp [Ap]at hr;rcases hr with rfl | rfl
  .exact⟨R1,aC,Hl.le_refl _⟩
  .exact⟨R2,aC,Hl.le_refl _⟩
 .simp [Ap,bo.own]
 .intro r hr;simp [Ap]at hr;rcases hr with rfl | rfl<;>trivial
 .refine aD.read [] [] [] ?_;generalize m:aM [x,y,S.length,c,x',y',T.length,c'] false [Hl.none,Hl.none,Hl.none,Hl.none,Hl.none,Hl.none,Hl.none,Hl.none,R1,R2]=J;obtain⟨⟨v0,v1,v2,_,v4,A,v6,_⟩,_,_,_,_,_,_,_,_,B,w9,_⟩:=jn m;clear m;have out:∀ {q:Env} {e:E} {mem:Mem},(aY q e=true↔S=T)->postOf equalS [.slice (au x y) (S.map aS).length c,.slice (au x' y') (T.map aS).length c'] [] [R1,R2] q mem (.sv (.one (.bool e))):=by
   intro q e mem he _;exact⟨[],[],rfl,rfl,⟨⟨fun _=>0,fun _=>aY q e,fun _=>.empty,fun _=>.tuple #[],fun _=>Hl.none⟩,rfl,zzT,zzT⟩,_,_,R1,R2,S,T,rfl,rfl,t,hQ,vj he⟩
  simp only[go_sem,Nat.reduceAdd];rw[v2,v6];refine⟨ah,ah,fun o=>out ⟨fun e=>(by rw[du]at e;cases e),fun e=>absurd (by rw[e]) o⟩,fun hl=>⟨⟨0,rfl,acP _,fun k hk=>ah⟩,fun q g ⟨i,w,hi,hk⟩=>?_⟩⟩;rw[g.i 2,v2,w,g.i 0,v0,g.i 1,v1,g.h 8,B,g.i 4,v4,g.i 5,A,g.h 9,w9,g.i 6,v6];have C:=hS.1;have z:IntKind.i64.wrap (q.i 20+1)=((i+1:Nat):Int):=by rw[w,IntWalk.i64_in _ ah];omega
  refine⟨fun h=>?_,fun h=>out ⟨fun _=>?_,fun _=>dc q⟩⟩
  .have Zd:i<S.length:=ah;have d:i<T.length:=ah;rcases b with hn | ⟨hx,D⟩
   .rw[afv]at hn;rw[hn]at Zd;cases Zd
   rcases a with hn | ⟨p,s⟩
   .rw[afv]at hn;rw[hn]at d;cases d
   have hs:S[i]?=some S[i]:=aad Zd;have n:T[i]?=some T[i]:=aad d;have m1:=(hS.2 _ (aah hs)).1;have m2:=(hT.2 _ (aah n)).1;obtain⟨b1,c1⟩:=yQ hy D hs m1;obtain⟨b2,c2⟩:=yQ f s n m2;have E:=(aai (fun j=>bO (R1.cell x.toNat ((y+(i:Int)*16).toNat+j))) (fun j=>bO (R2.cell x'.toNat ((y'+(i:Int)*16).toNat+j)))).trans (TE m1 m2 c1 c2);refine⟨hx,hy,ah,b1,p,f,ah,b2,fun hn=>out ⟨fun e=>(by rw[du]at e;cases e),fun e=>absurd (E.2 ?_) hn⟩,fun he=>⟨⟨i+1,z,ah,fun k F=>?_⟩,?_⟩⟩
   .have:=hs.symm.trans ((ach (fun l=>l[i]?) e).trans n);exact acE this
   .rcases acN k i with h1 | h1
    .exact hk k h1
    .obtain rfl:k=i:=ah;rw[hs,n,E.1 he]
   .show((S.length:Int)-IntKind.i64.wrap (q.i 20+1)).toNat<_;rw[z];omega
  .apply ack;intro k;by_cases G:k<S.length
   .exact hk k ah
   .rw[abA ah,abA ah]
open Classical in
noncomputable def HO:Sx.Spec where
 fn:=142
 own:=[]
 rd:=[10053,10153]
 res:=[.one .bool]
 pre:=fun xs Hs Rs=>∃ r1 r2 R1 R2 h1 a,xs=[.agg r1.toArray,.agg r2.toArray]/\Rs=[R1,R2]/\br R1 r1 h1/\br R2 r2 a
 post:=fun xs Hs Rs v Hs' F=>∃ r1 r2 R1 R2 h1 a,xs=[.agg r1.toArray,.agg r2.toArray]/\Rs=[R1,R2]/\br R1 r1 h1/\br R2 r2 a/\v=.bool (decide (h1=a))
noncomputable def HQ:aD Tryz.prog [fS 91,rZ 140,equalS] 142 where
 Λ:=aA
 args:=(bQ 0 [.agg bJ,.agg bJ]).map .sv
 mem:=[.ro 300 [.var 53] false,.ro 301 [.var 181] false]
 nv:=302
def U1 {q:Env} : (aG q 0).set 53 (.bool false)=(aG q 128).set 53 (.bool false)↔q.i 0=q.i 128/\q.i 1=q.i 129/\eqs q.i (fun k=>q.i (k+128)) 2 32/\q.i 34=q.i 162/\(q.b 35=q.b 163)/\q.i 36=q.i 164/\eqs q.i (fun k=>q.i (k+128)) 37 16/\eqs q.i (fun k=>q.i (k+128)) 57 6/\eqs q.i (fun k=>q.i (k+128)) 63 32/\q.i 95=q.i 223/\eqs q.i (fun k=>q.i (k+128)) 96 32:=by
 simp only[aG,bJ,List.replicate,afg,adk,aj,Ck.cv,Ck.len,i64,abW,acI,List.set_cons_succ,List.set_cons_zero,CV.ev,ar,bn,aco,afp,Nat.reduceAdd,aae,Value.int.injEq,Value.bool.injEq,acu,abw,eqs,and_assoc]
def Vm (h1:aR r1 dz) (c:aR r2 dz):∃ q:Env,r1=aG q 0/\r2=aG q 128/\q.h 300=R1/\q.h 301=R2:=by
 obtain⟨q1,_,_,e1⟩:=cE bJ 0 r1 (ba fun _=>0) h1;obtain⟨q2,d,_,e⟩:=cE bJ 128 r2 q1 c;have a:aG q2 0=r1:=(cy d).trans e1;exact⟨⟨q2.i,q2.b,q2.s,q2.v,fun k=>if k=300 then R1 else if k=301 then R2 else Hl.none⟩,a.symm,e.symm,rfl,rfl⟩
def aaB {h1 a:Hd} (x:br R1 r1 h1) (y:br R2 r2 a):h1=a↔h1.t=a.t/\r1.set 53 (.bool false)=r2.set 53 (.bool false):=by
 rw[<-x.core,<-y.core];cases h1;cases a;simp [and_comm]
def aq2:[fS 91,rZ 140,equalS][2]?=some equalS:=rfl
def ada:equalS.res=[.one .bool]:=rfl
def I5 {u v w:Value} {Hs K:List Hl} (h1:bd R1 u qm (S.map aS)) (b:bd R2 v qm (T.map aS)) (hp:equalS.post [u,v] Hs [R1,R2] w K F):(w=.bool true->S=T)/\(S=T->w=.bool true):=by
 obtain⟨u',v',c,d,S',f,e1,a,e,hQ,hv⟩:=hp;simp only[aae,abw]at e1 a;obtain⟨rfl,rfl⟩:=e1;obtain⟨rfl,rfl⟩:=a;obtain rfl:=jT (h1.uniq e);obtain rfl:=jT (b.uniq hQ);rw[hv];simp
def Sf:HO.OK Tryz.prog:=by
 refine Spec.cM (Γ:=[fS 91,rZ 140,equalS]) (fun t m=>?_) ?_
 .simp only[aaW,abd,acs]at m;rcases m with rfl | rfl | rfl
  .exact mj
  .exact CU
  .exact M4
 rintro xs Hs Rs l p ⟨r1,r2,R1,R2,h1,j,rfl,rfl,hx,hy⟩;have e0:Hs=[]:=aa1.1 l;subst e0;obtain⟨J,rfl,rfl,f,g⟩:=Vm (R1:=R1) (R2:=R2) hx.ok hy.ok;refine⟨HQ,J,fun _ _=>True,fun _ _=>0,zzK,⟨?_,?_,?_,?_⟩,(fun _ h=>nomatch h),?_⟩
 .intro r hr ho;simp [HQ]at hr;rcases hr with rfl | rfl<;>cases ho
 .intro r hr ho;simp [HQ]at hr;rcases hr with rfl | rfl
  .exact⟨R1,aC,by show(J.h 300).le R1;rw[f];exact Hl.le_refl _⟩
  .exact⟨R2,aC,by show(J.h 301).le R2;rw[g];exact Hl.le_refl _⟩
 .simp [HQ,bo.own]
 .intro r hr;simp [HQ]at hr;rcases hr with rfl | rfl<;>trivial
 .refine aD.read [] [] [] ?_;have out:∀ {q:Env} {e:E} {mem:Mem},(aY q e=true↔h1=j)->postOf HO [.agg (aG J 0).toArray,.agg (aG J 128).toArray] [] [R1,R2] q mem (.sv (.one (.bool e))):=by
   intro q e mem he _;exact⟨[],[],rfl,rfl,⟨⟨fun _=>0,fun _=>aY q e,fun _=>.empty,fun _=>.tuple #[],fun _=>Hl.none⟩,rfl,zzT,zzT⟩,_,_,R1,R2,h1,j,rfl,rfl,hx,hy,vj he⟩
  have ff:∀ {q:Env} {mem:Mem},¬h1=j->postOf HO [.agg (aG J 0).toArray,.agg (aG J 128).toArray] [] [R1,R2] q mem (.sv (.one (.bool .ff))):=fun hf=>out ⟨fun e=>(by rw[du]at e;cases e),fun e=>absurd e hf⟩;simp only[go_sem,Nat.reduceAdd,aq2,ada,U7];have hS:bd R1 (.slice (au (J.i 53) (J.i 54)) (J.i 55).toNat (J.i 56).toNat) qm (h1.t.map aS):=hx.tok;have hT:bd R2 (.slice (au (J.i 181) (J.i 182)) (J.i 183).toNat (J.i 184).toNat) qm (j.t.map aS):=hy.tok;intro q1 s _ q2 u _;have d:ai 302 J q2:=s.tr u;rw[d.i 53,d.i 54,d.i 55,d.i 56,d.i 181,d.i 182,d.i 183,d.i 184,d.h 300,d.h 301,f,g];refine⟨⟨_,_,R1,R2,h1.t,j.t,rfl,rfl,hS,hT,hx.byte,hy.byte⟩,fun a g3 ⟨F,hp,_⟩=>?_⟩;have hv:=I5 hS hT hp;have hv:a.b 304=true↔h1.t=j.t:=by
   have:(a.b 304=true)=(Value.bool (aY a (.bvar 304))=.bool true):=by rw[bn];simp
   rw[this];exact⟨hv.1,hv.2⟩
  have o:ai 302 J a:=d.tr g3;have a0:aG a 0=aG J 0:=cy o.mono;have a1:aG a 128=aG J 128:=ab1 (Value.agg.inj (fQ (n:=128) (ks:=bJ) o (adg zzK)));have E:=aaB hx hy;rw[<-a0,<-a1,U1,<-hv]at E;refine⟨fun c=>ff fun e=>c (E.1 e).1,fun hb=>?_⟩;have eB:(a.b 35=true)=(a.b 163=true)↔a.b 35=a.b 163:=by cases a.b 35<;>cases a.b 163<;>simp
  rw[eB];refine⟨fun k0=>⟨fun k1=>⟨fun k2=>⟨fun k3=>⟨fun k4=>⟨fun k5=>⟨fun k6=>⟨fun v=>⟨fun w=>⟨fun x=>out ?_,fun c=>ff fun e=>c (E.1 e).2.2.2.2.2.2.2.2.2.2.1⟩,fun c=>ff fun e=>c (E.1 e).2.2.2.2.2.2.2.2.2.1⟩,fun c=>ff fun e=>c (E.1 e).2.2.2.2.2.2.2.2.1⟩,fun c=>ff fun e=>c (E.1 e).2.2.2.2.2.2.2.1⟩,fun c=>ff fun e=>c (E.1 e).2.2.2.2.2.2.1⟩,fun c=>ff fun e=>c (E.1 e).2.2.2.2.2.1⟩,fun c=>ff fun e=>c (E.1 e).2.2.2.2.1⟩,fun c=>ff fun e=>c (E.1 e).2.2.2.1⟩,fun c=>ff fun e=>c (E.1 e).2.2.1⟩,fun c=>ff fun e=>c (E.1 e).2.1⟩;have y:aY a (.and (.eq (.var 96) (.var 224)) (.and (.eq (.var 97) (.var 225)) (.and (.eq (.var 98) (.var 226)) (.and (.eq (.var 99) (.var 227)) (.and (.eq (.var 100) (.var 228)) (.and (.eq (.var 101) (.var 229)) (.and (.eq (.var 102) (.var 230)) (.and (.eq (.var 103) (.var 231)) (.and (.eq (.var 104) (.var 232)) (.and (.eq (.var 105) (.var 233)) (.and (.eq (.var 106) (.var 234)) (.and (.eq (.var 107) (.var 235)) (.and (.eq (.var 108) (.var 236)) (.and (.eq (.var 109) (.var 237)) (.and (.eq (.var 110) (.var 238)) (.and (.eq (.var 111) (.var 239)) (.and (.eq (.var 112) (.var 240)) (.and (.eq (.var 113) (.var 241)) (.and (.eq (.var 114) (.var 242)) (.and (.eq (.var 115) (.var 243)) (.and (.eq (.var 116) (.var 244)) (.and (.eq (.var 117) (.var 245)) (.and (.eq (.var 118) (.var 246)) (.and (.eq (.var 119) (.var 247)) (.and (.eq (.var 120) (.var 248)) (.and (.eq (.var 121) (.var 249)) (.and (.eq (.var 122) (.var 250)) (.and (.eq (.var 123) (.var 251)) (.and (.eq (.var 124) (.var 252)) (.and (.eq (.var 125) (.var 253)) (.and (.eq (.var 126) (.var 254)) (.eq (.var 127) (.var 255)))))))))))))))))))))))))))))))))=true↔eqs a.i (fun k=>a.i (k+128)) 96 32:=by
   simp only[jv,ik,ar];exact agD
  rw[y,E];exact⟨fun h=>⟨hb,k0,k1,k2,k3,k4,k5,k6,v,w,x,h⟩,fun h=>h.2.2.2.2.2.2.2.2.2.2.2⟩
open Classical in
noncomputable def iy (w:Int) (hs:List Hd) (h:Hd):Int :=
 if ¬h.Form\/cI h.c 0≠w then 1
 else if cI h.c 1<=hs.length then(if hs[(cI h.c 1-1).toNat]?=some h then 13 else 8)
 else if hs.length+1<cI h.c 1 then 12
 else if aW h.c 2 32≠jP hs then 7 else 0
def oL (q:Env) (n:Nat):List Value:=(aj n bJ).map (CV.ev q)
def Qk {a:Int} (h:aR row dz):∃ q:Env,q.i 0=a/\row=oL q 1/\q.h 129=A/\q.h 130=B/\bk 1 bJ q:=by
 obtain⟨q,g,hn,e⟩:=cE bJ 1 row (ba fun _=>a) h;refine⟨⟨q.i,q.b,q.s,q.v,fun k=>if k=129 then A else if k=130 then B else Hl.none⟩,g.i 0,e.symm,rfl,rfl,hn⟩
def cC.facts (h:cC R a w hs):∃ (x:Int) (c:Nat) (rows:List (List Value)),R a=some (.cells (([.int .i64 w,.slice (au x 0) hs.length c]:List Value)++aS (jP hs)).toArray 248 (0,0))/\bd R (.slice (au x 0) hs.length c) dz rows/\gG R rows hs:=by
 obtain⟨K,hl,x,c,rows,hK,b,hA,_⟩:=h;exact⟨x,c,rows,hl _ _ hK,gb b.rd hl,hA.mono hl⟩
def cC.uniq (h:cC R a w hs) (h':cC R a w' hs'):w=w'/\hs=hs':=by
 obtain⟨x,c,rows,e,hr,hA⟩:=h.facts;obtain⟨x',c',f,b,d,g⟩:=h'.facts;rw[e]at b;simp only[aa3,Obj.cells.injEq,abw]at b;have b:=ach Array.toList b;have h0:some (Value.int .i64 w)=some (.int .i64 w'):=ach (fun l=>l[0]?) b;have h1:some (Value.slice (au x 0) hs.length c)=some (.slice (au x' 0) hs'.length c'):=ach (fun l=>l[1]?) b;rw[<-acE h1]at d;obtain rfl:=hr.uniq d;simp only[aa3,Value.int.injEq,acu]at h0;exact⟨h0,hA.uniq g⟩
def abP (q:Env) (n:Nat) (f:Nat->Int):iG q n=(List.range 32).map f↔(q.i (n+0)=f 0/\q.i (n+1)=f 1/\q.i (n+2)=f 2/\q.i (n+3)=f 3/\q.i (n+4)=f 4/\q.i (n+5)=f 5/\q.i (n+6)=f 6/\q.i (n+7)=f 7/\q.i (n+8)=f 8/\q.i (n+9)=f 9/\q.i (n+10)=f 10/\q.i (n+11)=f 11/\q.i (n+12)=f 12/\q.i (n+13)=f 13/\q.i (n+14)=f 14/\q.i (n+15)=f 15/\q.i (n+16)=f 16/\q.i (n+17)=f 17/\q.i (n+18)=f 18/\q.i (n+19)=f 19/\q.i (n+20)=f 20/\q.i (n+21)=f 21/\q.i (n+22)=f 22/\q.i (n+23)=f 23/\q.i (n+24)=f 24/\q.i (n+25)=f 25/\q.i (n+26)=f 26/\q.i (n+27)=f 27/\q.i (n+28)=f 28/\q.i (n+29)=f 29/\q.i (n+30)=f 30/\q.i (n+31)=f 31):=by
 have e:List.range 32=[0,1,2,3,4,5,6,7,8,9,10,11,12,13,14,15,16,17,18,19,20,21,22,23,24,25,26,27,28,29,30,31]:=rfl;unfold iG;rw[e];simp only[abW,acI,aae,abw]
def cC.qE (h:cC R a w hs):R.cell a 0=some (.int .i64 w)/\bx R a 2 32=true/\(List.range 32).map (fun j=>bO (R.cell a (2+j)))=jP hs:=by
 obtain⟨x,c,rows,e,_,_⟩:=h.facts;have b:∀ j z,(jP hs)[j]?=some z->R.cell a (2+j)=some (.int .u8 z):=fun j z hz=>by
  unfold Hl.cell;rw[e];simp only[aec];rw[abO aC];simp only[acn,acO];rw[show 2+j-(0+1+1)=j by omega,fJ,hz];rfl
 refine⟨by unfold Hl.cell;rw[e];rfl,dd b (by rw[sd];decide),?_⟩;have:=ug (y:=2) b;rw[sd]at this;exact this
noncomputable def Ad:Sx.Spec where
 fn:=155
 own:=[]
 rd:=[0,10153]
 res:=[.one (.int .i64)]
 pre:=fun xs Hs Rs=>∃ a R w hs row T h,xs=[.pointer (some ⟨a,0,none⟩),.agg row.toArray]/\Rs=[R,T]/\cC R a w hs/\hs.length<1000000/\br T row h
 post:=fun xs Hs Rs v Hs' F=>∃ a R w hs row T h,xs=[.pointer (some ⟨a,0,none⟩),.agg row.toArray]/\Rs=[R,T]/\cC R a w hs/\br T row h/\v=.int .i64 (iy w hs h)
noncomputable def ckΓ:List Sx.Spec:=[fS 91,yi,MP,HO]
def WX:∀ t∈ckΓ,t.OK Tryz.prog:=ak mj <| ak AL <| ak KK <| ak Sf <| bu
def WW (f:FuncId):(fS f).res=[.one .bool]:=rfl
def Z9:MP.res=[.agg bJ,.one .bool]:=rfl
def adr:HO.res=[.one .bool]:=rfl
set_option maxRecDepth 20000 in
def Z8:(aL 0 [Cp.agg bJ,Cp.one .bool]≠[])=True:=eq_true az
noncomputable def Z5:aD Tryz.prog ckΓ Ad.fn where
 Λ:=aA
 args:=TP (.var 0) (.lit 0)::(bQ 1 [.agg bJ]).map .sv
 mem:=[.ro 129 [.var 0] false,.ro 130 [.var 54] true]
 nv:=131
open Classical in
set_option maxRecDepth 20000 in
def FN:Ad.OK Tryz.prog:=by
 refine Spec.jN (Γ:=ckΓ) WX rfl ?_;rintro xs Rs ⟨a,R,w,hs,row,T,h,rfl,rfl,s,hlen,hx⟩;obtain⟨J,Z,rfl,w1,w2,aa⟩:=Qk (A:=R) (B:=T) (a:=(a:Int)) hx.ok;refine⟨Z5,J,fun _ _=>True,fun _ _=>0,?_,aT rfl (by show [J.h 129,J.h 130]=_;rw[w1,w2]),rfl,?_⟩
 .show [Value.pointer (au (J.i 0) 0),.agg (oL J 1).toArray]=_;rw[Z,av ah];rfl
 .refine aD.read [bJ] [] [] ?_;simp only[go_sem,Nat.reduceAdd,ckΓ,WW,WO,Z9,adr,Z8];have V:∀ q:Env,ai 131 J q->q.i 0=a/\q.h 129=R/\q.h 130=T/\oL q 1=oL J 1:=fun q g=>by
   refine⟨by rw[g.i 0,Z],by rw[g.h 129,w1],by rw[g.h 130,w2],?_⟩;have:=fQ (ks:=bJ) (n:=1) g az;exact ach Array.toList (Value.agg.inj this)
  have ep:Value.pointer (au (a:Int) 0)=.pointer (some ⟨a,0,none⟩):=by rw[av ah];rfl
  have out:∀ {q:Env} {mem:Mem} {e:E},aw q e=iy w hs h->postOf Ad [.pointer (some ⟨a,0,none⟩),.agg (oL J 1).toArray] [] [R,T] q mem (.sv (.one (.int .i64 e))):=fun {q mem e} he =>
   vP rfl he fun F=>⟨a,R,w,hs,oL J 1,T,h,rfl,rfl,s,hx,rfl⟩
  obtain⟨t0,t1,t2⟩:=s.qE;have hI:∀ {k:Nat},k≠53->cI h.c k=cI (oL J 1) k:=fun hk=>hx.I hk;have h0:cI h.c 0=J.i 1:=hI az;have h1:cI h.c 1=J.i 2:=hI az;have h2:aW h.c 2 32=iG J 3:=by
   have:aW h.c 2 32=aW (oL J 1) 2 32:=by
    unfold aW;refine acL fun j hj=>hI ?_;have:=acv.1 hj;omega
   rw[this];rfl
  have hu:0<=J.i 2/\J.i 2<18446744073709551616:=by
   have:=hx.rng _ (aah (wC hx.ok (k:=1) rfl));exact this
  have C:∀ (k:Nat) (q:Env),ai k J q->131<=k->q.i 1=J.i 1/\q.i 2=J.i 2/\iG q 3=iG J 3:=fun k q g hk=>⟨g.i 1,g.i 2,E0 g ah⟩;have D:R.cell ((a:Int)).toNat (Int.toNat 0)=some (.int .i64 w):=by rw[aac];exact t0
  intro q1 g1 p1;obtain⟨v0,x1,x2,x3⟩:=V q1 g1;have G:(aj 1 bJ).map (CV.ev q1)=oL J 1:=x3;rw[G,x2];refine⟨⟨_,T,h,rfl,rfl,hx⟩,fun q2 g2 ⟨F2,H,_⟩=>?_⟩;have K:ai 131 J q2:=g1.tr g2;have v:q2.b 132=decide h.Form:=Value.bool.inj (mE hx H);obtain⟨y0,y1,y2,y3⟩:=V q2 K;obtain⟨r1,r2,r3⟩:=C _ q2 K ah;refine⟨fun hb=>out ?_,fun hb=>?_⟩
  .have z:¬h.Form:=by rw[v]at hb;simpa using hb
   unfold iy;rw[ab9 (Or.inl z)];rfl
  have z:h.Form:=by rw[v]at hb;simpa using hb
  have hseq:1<=cI h.c 1:=z.1.2.1.1;rw[y0,y1,D,r1,r2,ep];refine⟨ah,rfl,fun d=>out ?_,fun heq=>?_⟩
  .have d:¬J.i 1=w:=d;unfold iy;rw[ab9 (Or.inr (by rw[h0];exact d))];rfl
  have heq:J.i 1=w:=heq;have f:¬(¬h.Form\/cI h.c 0≠w):=by rw[h0];exact fun hh=>hh.elim (fun g=>g z) (fun g=>g heq)
  refine⟨⟨a,R,w,hs,_,rfl,rfl,s,hu,hlen⟩,fun L g3 ⟨F3,⟨a',R',w',hs',n',e1,e2,M,l⟩,N,ab⟩ t g4 p4=>?_⟩;simp only[aae,abw,Value.pointer.injEq,aa3,Addr.mk.injEq,Value.int.injEq,acu]at e1 e2;obtain⟨rfl,rfl⟩:=e1;subst e2;obtain⟨rfl,rfl⟩:=s.uniq M;have G3:ai 132 q1 L:=g2.tr g3;have O:ai 131 J t:=K.trans (g3.mono.tr g4);obtain⟨z0,z1,z2,z3⟩:=V t O;obtain⟨s1,s2,s3⟩:=C _ t O ah;have P:t.b 261=L.b 261:=g4.b 261;have HG:(aj 133 bJ).map (CV.ev t)=(aj 133 bJ).map (CV.ev L):=ach Array.toList (Value.agg.inj (fQ (ks:=bJ) (n:=133) g4 az));have Q:(aj 1 bJ).map (CV.ev t)=oL J 1:=z3;rw[HG,Q,z0,z1,z2,P,g4.h 133,ep];refine⟨fun hb=>?_,fun hb=>?_⟩
  .rcases l with ⟨n1,n2,row',h',x,ev,m⟩ | ⟨_,u,ev⟩
   rotate_left
   .simp only[Value.tuple.injEq,acp,aae,Value.bool.injEq,abw]at ev;exact absurd (ev.2.symm.trans hb) az
   simp only[Value.tuple.injEq,acp,aae,Value.bool.injEq,abw,Value.agg.injEq]at ev;have er:=ev.1;rw[er];rw[<-N zzT]at m;have ad:¬¬cI h.c 1<=hs.length:=by rw[h1];omega
   refine⟨⟨_,_,_,_,_,_,rfl,rfl,m,hx⟩,fun p g5 ⟨F5,⟨ae,af,ag,ak,al,an,f1,f2,i1,i2,hv⟩,_⟩=>?_⟩;simp only[aae,abw,Value.agg.injEq]at f1 f2;obtain⟨rfl,rfl⟩:=f2;have S:=ab1 f1.1;have U:=ab1 f1.2;subst S U;obtain rfl:=m.uniq i1;obtain rfl:=hx.uniq i2;have y:p.b 263=decide (h'=h):=Value.bool.inj hv;have key:(hs[(cI h.c 1-1).toNat]?=some h)↔h'=h:=by rw[h1,x,aa3]
   refine⟨fun hb=>out ?_,fun hb=>out ?_⟩
   .unfold iy;rw[aa8 f,ab9 (by rw[h1];omega),ab9 (key.2 (by rw[y]at hb;simpa using hb))];rfl
   .unfold iy;rw[aa8 f,ab9 (by rw[h1];omega),aa8 (fun g=>hb (by rw[y];simpa using key.1 g))];rfl
  .rcases l with ⟨n1,n2,row',h',x,ev,m⟩ | ⟨ao,u,ev⟩
   .simp only[Value.tuple.injEq,acp,aae,Value.bool.injEq,abw]at ev;exact absurd ev.2 hb
   have r:¬cI h.c 1<=hs.length:=by rw[h1]at hseq ⊢;omega
   refine⟨⟨a,R,w,hs,rfl,rfl,s⟩,fun p g5 ⟨F5,W,_⟩=>?_⟩;have X:=kH s hlen W;have G5:ai 131 J p:=O.tr g5;obtain⟨u0,u1,u2,u3⟩:=V p G5;obtain⟨k1,k2,k3⟩:=C _ p G5 ah;have X:p.i 263=hs.length:=X;have hw:IntKind.u64.wrap ((hs.length:Int)+1)=(hs.length:Int)+1:=by rw[IntKind.wrap_u64];omega
   rw[X,k2,hw,u0,u1];have Y:bx R ((a:Int)).toNat (Int.toNat 2) (Int.toNat 32)=true:=by rw[aac];exact t1
   refine⟨fun aq=>out ?_,fun ar=>⟨Y,?_⟩⟩
   .unfold iy;rw[aa8 f,aa8 r,ab9 (by rw[h1];omega)];rfl
   have o:¬((hs.length:Int)+1<cI h.c 1):=by rw[h1];omega
   have key:=abP p 3 (fun j=>bO (R.cell ((a:Int)).toNat (Int.toNat 2+j)));have et:(List.range 32).map (fun j=>bO (R.cell ((a:Int)).toNat (Int.toNat 2+j)))=jP hs:=by rw[aac];exact t2
   rw[et,k3,<-h2]at key;refine⟨fun d=>out ?_,fun heq=>out ?_⟩
   .have d:¬aW h.c 2 32=jP hs:=fun g=>d (key.1 g);unfold iy;rw[aa8 f,aa8 r,aa8 o,ab9 d];rfl
   .have heq:aW h.c 2 32=jP hs:=key.2 heq;unfold iy;rw[aa8 f,aa8 r,aa8 o,aa8 (fun g=>g heq)];rfl
end Go.Proofs.YtbdikjnpbnobcaaGreatDoor
namespace Go.Sx
open Go
variable {us vs:List Value}{b k n x y:Nat}{T e:TypeId}{v:Value}
def Hl.mem_of {H:Hl} {o:Obj} (h:H b=some o):H.mem b:=by unfold Hl.mem;rw[h];rfl
variable {A F G H:Hl}
def Hl.rJ (h:b≠x):H.put x y vs b=H b:=by
 unfold Hl.put;rw[aa8 h]
def Hl.rH {c:Array Value} {fr:Nat×Nat} (h:H x=some (.cells c T fr)):H.put x y vs x=some (.cells (bm c.toList y vs).toArray T fr):=by
 unfold Hl.put;rw[ab9 rfl,h]
def Hl.A6 (h:A.le H) (hx:¬A.mem x):A.le (H.put x y vs):=fun b o hb=>by
 rw[Hl.rJ fun e=>hx (by rw[<-e];exact Hl.mem_of hb)];exact h b o hb
def aO.at (h:aO F e k v n us) (hk:∀ b,v.ownBlock=some b->G b=F b):aO G e k v n us:=by
 refine⟨h.1,h.2.imp id fun⟨g,cap,cur,hv,hg,r⟩=>⟨g,cap,cur,hv,?_,r⟩⟩;rw[hk g (by rw[hv];rfl)];exact hg
def aO.type (h:aO F e k v n us) (hb:v.ownBlock=some b):∃ c,F b=some (.cells c e (0,0)):=by
 rcases h.2 with ⟨h,_⟩ | ⟨g,cap,cur,h,hg,_⟩
 .rw[h]at hb;cases hb
 .rw[h]at hb;have:g=b:=by simpa [Value.ownBlock] using hb
  subst this;exact⟨_,hg⟩
def km (A B:Hl):bY [A,B]=A.un B:=by
 show A.un (B.un Hl.none)=_;rw[Hl.iQ]
def ED {x:Int} {c:Nat} (h:(Value.slice (au x 0) n c).ownBlock=some b) (hx:-1<=x):x=b:=by
 rcases ad9 x 0 with a | h0
 .rw[show x= -1 by omega,dr]at h;cases h
 .rw[av h0]at h;have:x.toNat=b:=by simpa [Value.ownBlock] using h
  omega
end Go.Sx
namespace Go.Proofs.YtbdikjnpbnobcaaGreatDoor
open Go Go.Sx Go.Pk
variable {A B C G H K KT:Hl}{w x:Int}{rows:List (List Value)}{hs:List Hd}{qE:List Int}{l row:List Value}{a c c1 n n1 y:Nat}
def MR (w:Int) (v:Value) (qE:List Int):List Value:=[.int .i64 w,v]++aS qE
def Tq (w:Int) (v u:Value) (qE t:List Int) (h1:qE.length=32) (a:t.length=32):bm (bm (MR w v qE) 1 [u]) 2 (aS t)=MR w u t:=by
 have e:bm (MR w v qE) 1 [u]=.int .i64 w::u::aS qE:=by simp [bm,MR]
 rw[e];unfold bm MR;rw[bN,a];simp [af3,bN,h1]
def Ae 
 (hK:K a=some (.cells (MR w (.slice (au x 0) hs.length c) qE).toArray 248 (0,0))) (f:pF K 38 dz (.slice (au x 0) hs.length c) rows)
 (hk:∀ b,K.mem b->some b≠(Value.slice (au x 0) hs.length c).ownBlock->G b=K b):G a=some (.cells (MR w (.slice (au x 0) hs.length c) qE).toArray 248 (0,0)):=by
 have g:some a≠(Value.slice (au x 0) hs.length c).ownBlock:=fun e=>by
  obtain⟨h,d⟩:=f.2.type e.symm;rw[hK]at d;simp at d
 rw[hk a (Hl.mem_of hK) g,hK]
def jM {T:TypeId} (h:H a=some (.cells l.toArray T (0,0))) (hl:y+n<=l.length):H.wr a y n=true:=by
 unfold Hl.wr;rw[h];simp [hl]
def MS {x1:Int} {h:Hd} 
 (hK:K a=some (.cells (MR w (.slice (au x 0) hs.length c) qE).toArray 248 (0,0))) (q:pF K 38 dz (.slice (au x 0) hs.length c) rows)
 (hT:KT.le K) (hA:gG KT rows hs) (f:¬KT.mem a) (j:∀ b:Nat,x=b->¬KT.mem b) (hx:-1<=x) (k:qE.length=32) (hI:br B row h) (r:-1<=x1)
 (happ:∀ xs,aO K 38 dz.length (.slice (au x 0) hs.length c) hs.length xs->aO G 38 dz.length (.slice (au x1 0) n1 c1) (hs.length+1) (xs++row)) (s:n1=hs.length+1)
 (hk:∀ b,K.mem b->some b≠(Value.slice (au x 0) hs.length c).ownBlock->G b=K b)
 (hnew:some x1.toNat=(Value.slice (au x 0) hs.length c).ownBlock\/¬K.mem x1.toNat\/x1= -1)
 (hGB:(((G.put a 1 [.slice (au x1 0) n1 c1]).put a 2 (aS (oK h)))).bq B) :
 iM (((G.put a 1 [.slice (au x1 0) n1 c1]).put a 2 (aS (oK h))).un B) a w (hs++[h]):=by
 subst s;have C:=Ae hK q hk;have hl:rows.length=hs.length:=hA.1;have l:=happ rows.flatten (by have:=q.2;rw[hl]at this;exact this);have m:∀ b,(Value.slice (au x1 0) (hs.length+1) c1).ownBlock=some b->b≠a:=fun b hb e=>by
  subst e;obtain⟨E,p⟩:=l.type hb;rw[C]at p;simp at p
 have g:pF ((G.put a 1 [.slice (au x1 0) (hs.length+1) c1]).put a 2 (aS (oK h))) 38 dz (.slice (au x1 0) (hs.length+1) c1) (rows++[row]):=by
  have:=pF.snoc (rows:=rows) q.1 hI.ok l (by rw[hl]) rfl;refine⟨this.1,this.2.at fun b hb=>?_⟩;rw[Hl.rJ (m b hb),Hl.rJ (m b hb)]
 have n:KT.le ((G.put a 1 [.slice (au x1 0) (hs.length+1) c1]).put a 2 (aS (oK h))):=by
  refine Hl.A6 (Hl.A6 (fun b o hb=>?_) f) f;rw[hk b (Hl.bV hT (Hl.mem_of hb)) fun e=>j b (ED e.symm hx) (Hl.mem_of hb)];exact hT b o hb
 have D:((G.put a 1 [.slice (au x1 0) (hs.length+1) c1]).put a 2 (aS (oK h))) a=some (.cells (MR w (.slice (au x1 0) (hs.length+1) c1) (oK h)).toArray 248 (0,0)):=by
  rw[Hl.rH (Hl.rH C)];simp only[af0];rw[Tq _ _ _ _ _ k (show(oK h).length=32 from gU _)]
 generalize (G.put a 1 [.slice (au x1 0) (hs.length+1) c1]).put a 2 (aS (oK h))=t at *;have d:gG (KT.un B) (rows++[row]) (hs++[h]):=(hA.mono (Hl.aV _ _)).snoc (hI.mono (Hl.bg fun b ⟨y,z⟩=>hGB b ⟨Hl.bV n y,z⟩));have hle:(KT.un B).le (t.un B):=fun b o hb=>by
  unfold Hl.un at hb ⊢;cases u:KT b with
  | some o'=>rw[u]at hb;cases hb;rw[n _ _ u];rfl
  | none =>
   rw[u]at hb;have hb:B b=some o:=hb;cases hg:t b with
   | none=>exact hb
   | some o2=>exact absurd ⟨Hl.mem_of hg,Hl.mem_of hb⟩ (hGB b)
 refine⟨x1,c1,rows++[row],?_,?_,d.mono hle,r,KT.un B,hle,d,fun hm=>?_,fun b hb hm=>?_⟩
 .rw[Hl.aV t B _ _ D,aaA];have:jP (hs++[h])=oK h:=by unfold jP;rw[List.getLast?_append];rfl
  rw[this];rfl
 .rw[aaA];exact⟨g.1,aO.mono (Hl.aV _ _) g.2⟩
 .rcases Hl.cG.1 hm with h1 | h1
  .exact f h1
  .exact hGB a ⟨Hl.mem_of D,h1⟩
 .have v:(Value.slice (au x1 0) (hs.length+1) c1).ownBlock=some b:=by
   rw[av ah];show some x1.toNat=_;rw[hb,aac]
  rcases Hl.cG.1 hm with h1 | h1
  .have A:=Hl.bV hT h1;rcases hnew with i | i | i
   .rw[hb,aac]at i;exact j b (ED i.symm hx) h1
   .rw[hb,aac]at i;exact i A
   .omega
  .obtain⟨E,p⟩:=g.2.type v;exact hGB b ⟨Hl.mem_of p,h1⟩
noncomputable def FK:Sx.Spec where
 fn:=130
 own:=[.arg 0]
 rd:=[10153,2000002]
 res:=[.one (.int .i64)]
 pre:=fun xs Hs Rs=>∃ a K w hs row T RG h,xs=[.pointer (some ⟨a,0,none⟩),.agg row.toArray]/\Hs=[K]/\Rs=[T,RG]/\iM K a w hs/\hs.length<1000000/\br T row h/\yT RG 2
 post:=fun xs Hs Rs v Hs' F=>∃ a K w hs row T RG h K',xs=[.pointer (some ⟨a,0,none⟩),.agg row.toArray]/\Hs=[K]/\Rs=[T,RG]/\iM K a w hs/\br T row h/\Hs'=[K']/\v=.int .i64 (iy w hs h)/\(iy w hs h=0->iM K' a w (hs++[h]))/\(iy w hs h≠0->iM K' a w hs)
noncomputable def cdΓ:List Sx.Spec:=[Ad,MW,ehS]
def WS:∀ t∈cdΓ,t.OK Tryz.prog:=ak FN <| ak KR <| ak Xe <| bu
def adp:Ad.res=[.one (.int .i64)]:=rfl
def adq:ehS.res=[.agg (List.replicate 32 (Ck.int .u8))]:=rfl
noncomputable def FL:aD Tryz.prog cdΓ FK.fn where
 Λ:=aA
 args:=TP (.var 0) (.lit 0)::(bQ 1 [.agg bJ]).map .sv
 mem:=[.hp 129 [] [.var 0] [],.ro 130 [.var 54] true,.ro 131 [.lit 2] false]
 nv:=132
def Qj {a:Int} (h:aR row dz):∃ q:Env,q.i 0=a/\row=oL q 1/\q.h 129=A/\q.h 130=B/\q.h 131=C:=by
 obtain⟨q,g,hn,e⟩:=cE bJ 1 row (ba fun _=>a) h;exact⟨⟨q.i,q.b,q.s,q.v,fun k=>if k=129 then A else if k=130 then B else if k=131 then C else Hl.none⟩,g.i 0,e.symm,rfl,rfl,rfl⟩
set_option maxRecDepth 20000 in
def Pt:FK.OK Tryz.prog:=by
 refine Spec.cM (Γ:=cdΓ) WS ?_;rintro xs Hs Rs aa ab ⟨a,K,w,hs,row,T,RG,h,rfl,rfl,rfl,j,hlen,hx,k⟩;obtain⟨J,O,rfl,w1,w2,P⟩:=Qj (A:=K) (B:=T) (C:=RG) (a:=(a:Int)) hx.ok;refine⟨FL,J,fun _ _=>True,fun _ _=>0,?_,⟨?_,?_,?_,?_⟩,(fun _ h=>nomatch h),?_⟩
 .show [Value.pointer (au (J.i 0) 0),.agg (oL J 1).toArray]=_;rw[O,av ah];rfl
 .intro r hr ho;simp [FL]at hr;rcases hr with rfl | rfl | rfl
  .exact⟨K,aC,by show(J.h 129).le K;rw[w1];exact Hl.le_refl _⟩
  .cases ho
  .cases ho
 .intro r hr ho;simp [FL]at hr;rcases hr with rfl | rfl | rfl
  .cases ho
  .exact⟨T,aC,by show(J.h 130).le T;rw[w2];exact Hl.le_refl _⟩
  .exact⟨RG,aC,by show(J.h 131).le RG;rw[P];exact Hl.le_refl _⟩
 .simp [FL,bo.own]
 .intro r hr;simp [FL]at hr;rcases hr with rfl | rfl | rfl<;>trivial
 .refine aD.read [bJ] [] [] ?_;simp only[go_sem,Nat.reduceAdd,cdΓ,adp,Z4,adq,Z3];obtain⟨x,c,rows,hK,u,hA,l,KT,hT,v,y,z⟩:=id j;have hK:K a=some (.cells (MR w (.slice (au x 0) hs.length c) (jP hs)).toArray 248 (0,0)):=hK;have D:rows.length=hs.length:=hA.1;have c1:K.cell ((a:Int)).toNat (Int.toNat 1)=some (.slice (au x 0) hs.length c):=by rw[aac];simp [Hl.cell,hK,MR]
  have V:∀ q:Env,ai 132 J q->q.i 0=a/\q.h 129=K/\q.h 130=T/\q.h 131=RG/\(aj 1 bJ).map (CV.ev q)=oL J 1:=fun q g =>
   ⟨by rw[g.i 0,O],by rw[g.h 129,w1],by rw[g.h 130,w2],by rw[g.h 131,P],ach Array.toList (Value.agg.inj (fQ (ks:=bJ) (n:=1) g az))⟩
  have ep:Value.pointer (au (a:Int) 0)=.pointer (some ⟨a,0,none⟩):=by rw[av ah];rfl
  have E:Value.slice (au (bD (some (Value.slice (au x 0) hs.length c)) 0) (bD (some (Value.slice (au x 0) hs.length c)) 1)) (bD (some (Value.slice (au x 0) hs.length c)) 2).toNat (bD (some (Value.slice (au x 0) hs.length c)) 3).toNat=.slice (au x 0) hs.length c:=iH ⟨_,_,_,rfl⟩;have Q:bD (some (Value.slice (au x 0) hs.length c)) 2=hs.length:=Vg l _ _;intro q1 R p1;obtain⟨v0,x1,x2,x3,xr⟩:=V q1 R;rw[v0,x1,x2,xr,ep];refine⟨⟨a,K,w,hs,_,T,h,rfl,rfl,⟨K,Hl.le_refl _,j⟩,hlen,hx⟩,fun q2 g2 ⟨F2,⟨a',R',w',hs',row',T',h',f1,f2,c2,i2,hv⟩,_⟩=>?_⟩;simp only[aae,abw,Value.pointer.injEq,aa3,Addr.mk.injEq,Value.agg.injEq]at f1 f2;obtain⟨rfl,f1⟩:=f1;obtain⟨rfl,rfl⟩:=f2;have f1:=ab1 f1;subst f1;obtain⟨rfl,rfl⟩:=cC.uniq ⟨K,Hl.le_refl _,j⟩ c2;obtain rfl:=hx.uniq i2;have b:q2.i 133=iy w hs h:=by simpa using hv
  have S:ai 132 J q2:=R.tr g2;obtain⟨y0,U,y2,y3,yr⟩:=V q2 S;refine⟨fun f _=>?_,fun heq=>?_⟩
  .refine⟨[[0]],[],rfl,rfl,⟨(ba fun _=>q2.i 133),rfl,zzT,zzT⟩,a,K,w,hs,_,T,RG,h,_,rfl,rfl,rfl,j,hx,rfl,by rw[<-b];rfl,fun h0=>absurd (b.trans h0) f,fun _=>?_⟩;show iM (bY [q2.h 129]) _ _ _;rw[aJ,U];exact j
  have h0:iy w hs h=0:=b.symm.trans heq;rw[y0,U,y2,yr,c1];refine⟨ah,rfl,⟨_,T,h,rfl,rfl,hx⟩,fun q3 g3 ⟨F3,F,G,ad⟩ H g4 p4=>?_⟩;obtain⟨row',I,hI⟩:=F _ _ _ rfl rfl hx;have I:=ab1 (Value.agg.inj I);rw[<-G zzT]at hI;have W:ai 132 J H:=S.trans (g3.mono.tr g4);obtain⟨z0,z1,z2,z3,zr⟩:=V H W;have m:(aj 134 bJ).map (CV.ev H)=row':=(ach Array.toList (Value.agg.inj (fQ (ks:=bJ) (n:=134) g4 az))).trans I;rw[z0,z1,c1,E,Q,m,aac];refine⟨⟨⟨rows.flatten,by have:=u.2;rw[D]at this;exact this⟩,ah,by unfold maxLen;omega,ah⟩,fun X Y ⟨a1,a2,happ,o,_,L⟩=>?_⟩;have Z:ai 132 J X:=W.tr Y;obtain⟨u0,u1,u2,u3,ur⟩:=V X Z;have p:=Ae hK u o;have M:((hs.length:Int)+1).toNat=hs.length+1:=ah;rw[u0,u1,c1,Q,M,show((a:Int)).toNat=a from aac a];refine⟨⟨ah,ah,jM p (by simp [MR])⟩,fun q6 g6 p6=>?_⟩;have G6:ai 132 J q6:=Z.tr g6;obtain⟨s0,s1,s2,s3,sr⟩:=V q6 G6;rw[s2,s3,sr];refine⟨⟨_,T,RG,h,rfl,rfl,hx,k⟩,fun q7 N ⟨F7,d,_⟩=>?_⟩;have d:=d _ _ _ _ rfl rfl hx;have d:=ab1 (Value.agg.inj d);have G7:ai 132 J q7:=G6.tr N;obtain⟨k0,_⟩:=V q7 G7;rw[k0,d,N.h 265,p6,show((a:Int)).toNat=a from aac a];refine⟨⟨ah,ah,jM (Hl.rH p) ?_⟩,fun s g8 p8=>?_⟩
  .show 2+32<=_;simp [MR,bm,bN,sd]
  intro t;have hGB:=t 0 4 _ _ az rfl rfl rfl;have e:s.h 134=q3.h 134:=by rw[g8.h 134,N.h 134,g6.h 134,Y.h 134,g4.h 134]
  have hGB:(s.h 298).bq (s.h 134):=hGB;rw[p8,e]at hGB;have key:=MS hK u hT v y z l (sd hs) hI a1 happ rfl o L hGB;refine⟨[[0,4]],[],rfl,rfl,⟨(ba fun _=>0),rfl,zzT,zzT⟩,a,K,w,hs,_,T,RG,h,_,rfl,rfl,rfl,j,hx,rfl,by rw[h0];rfl,fun _=>?_,fun f=>absurd h0 f⟩;show iM (bY [s.h 298,s.h 134]) _ _ _;rw[km,p8,e];exact key
end Go.Proofs.YtbdikjnpbnobcaaGreatDoor
namespace Go.Sx
open Go
section
variable {P:Program}
def Spec.Uj {s:Spec} (h:∀ xs Hs Rs,s.pre xs Hs Rs->({s with pre:=fun a b c=>a=xs/\b=Hs/\c=Rs} : Spec).OK P):s.OK P :=
 fun w xs Hs Rs d e s1 s2 d1 d2 hp=>h xs Hs Rs hp w xs Hs Rs d e s1 s2 d1 d2 ⟨rfl,rfl,rfl⟩
def Ej (s:Spec) (K R:Hl):Spec where
 fn:=s.fn
 own:=s.own
 rd:=s.rd
 res:=s.res
 pre:=fun xs Hs Rs=>Hs=[K.un R]/\K.bq R/\s.pre xs [K] Rs
 post:=fun xs Hs Rs v Hs' F=>∃ K',Hs'=[K'.un R]/\K'.bq R/\F.bq R/\s.post xs [K] Rs v [K'] F
def M8 {s:Spec} (h1:s.own.length=1) (hs:s.OK P) (K R:Hl):(Ej s K R).OK P:=by
 intro w xs Hs Rs A t hsub k hd l ⟨e,f,hp⟩;subst e;have c:=hsub _ (aaQ.2 rfl);have kw:K.sub w:=fun b o hb=>c b o (Hl.aV K R b o hb);have i:R.sub w:=fun b o hb=>c b o (Hl.bg f b o hb);have u:=hs w xs [K] Rs (by rw[h1];rfl) t (fun H c=>by rw[aaQ.1 c];exact kw) k
  (fun p q H v g a b=>by
   cases p with
   | zero=>cases q with
    | zero=>exact absurd rfl g
    | succ q=>simp at b
   | succ p=>simp at a)
  (fun H c R1 z=>by
   rw[aaQ.1 c];intro b ⟨x,y⟩;exact l _ (aaQ.2 rfl) R1 z b ⟨Hl.cG.2 (Or.inl x),y⟩) hp
 refine u.mono fun e w' ⟨J,Hs',F,he,hn,d,hpost⟩=>?_;obtain⟨K',rfl⟩:∃ K',Hs'=[K']:=List.length_eq_one_iff.1 (by rw[d.len];rfl);have j:∀ b,R.mem b->b<w.heap.size:=fun b hb=>by
  obtain⟨o,ho⟩:=acH.1 hb;exact(acq.1 (i b o ho)).1
 have far:∀ (X:Hl),(∀ b,X.mem b->(∃ H∈[K],H.mem b)\/w.heap.size<=b)->X.bq R:=fun X hX b ⟨x,y⟩=>by
  rcases hX b x with ⟨H,c,hb⟩ | hb
  .rw[aaQ.1 c]at hb;exact f b ⟨hb,y⟩
  .have:=j b y;omega
 have dK:K'.bq R:=far K' (d.dom K' (aaQ.2 rfl));have r:F.bq R:=far F d.fdom;have m:R.sub w':=fun b o hb=>by
  have hm:R.mem b:=by unfold Hl.mem;rw[hb];rfl
  rw[d.block b (j b hm) (fun H c=>by rw[aaQ.1 c];exact fun hk=>f b ⟨hk,hm⟩)];exact i b o hb
 have wide:∀ b,(∃ H∈[K],H.mem b)\/w.heap.size<=b->(∃ H∈[K.un R],H.mem b)\/w.heap.size<=b:=fun b h=>by
  rcases h with ⟨H,c,hb⟩ | hb
  .rw[aaQ.1 c]at hb;exact Or.inl ⟨_,aaQ.2 rfl,Hl.cG.2 (Or.inl hb)⟩
  .exact Or.inr hb
 refine⟨J,[K'.un R],F,he,hn,⟨d.os,d.tape,d.output,d.size,fun b hb n=>?_,rfl,fun H c=>?_,d.fsub,fun H c b hb=>?_,fun b hb=>wide b (d.fdom b hb),fun p q H v g a b=>?_,fun H c=>?_⟩,K',rfl,dK,r,hpost⟩
 .exact d.block b hb fun H c=>by rw[aaQ.1 c];exact fun hk=>n _ (aaQ.2 rfl) (Hl.cG.2 (Or.inl hk))
 .rw[aaQ.1 c];exact Hl.Kz (d.sub K' (aaQ.2 rfl)) m
 .rw[aaQ.1 c]at hb;rcases Hl.cG.1 hb with hb | hb
  .exact wide b (d.dom K' (aaQ.2 rfl) b hb)
  .exact Or.inl ⟨_,aaQ.2 rfl,Hl.cG.2 (Or.inr hb)⟩
 .cases p with
  | zero=>cases q with
   | zero=>exact absurd rfl g
   | succ q=>simp at b
  | succ p=>simp at a
 .rw[aaQ.1 c];intro b ⟨x,y⟩;rcases Hl.cG.1 x with x | x
  .exact d.fdis K' (aaQ.2 rfl) b ⟨x,y⟩
  .exact r b ⟨y,x⟩
end
def Hl.minus (H K:Hl):Hl:=fun b=>if(K b).isSome then Option.none else H b
variable {A H K a b:Hl}
def Hl.vV (H K:Hl):(H.minus K).le H:=fun b o h=>by
 unfold Hl.minus at h;split at h
 .cases h
 .exact h
def Hl.C4 (H K:Hl):K.bq (H.minus K):=fun b ⟨x,y⟩=>by
 unfold Hl.mem at x y;unfold Hl.minus at y;rw[ab9 x]at y;cases y
def Hl.AZ (h:A.le H) (d:A.bq K):A.le (H.minus K):=fun b o hb=>by
 unfold Hl.minus;have hm:A.mem b:=by unfold Hl.mem;rw[hb];rfl
 have hn:¬(K b).isSome=true:=fun hk=>d b ⟨hm,hk⟩;rw[aa8 hn];exact h b o hb
def Hl.QO (h:K.le H):K.un (H.minus K)=H:=by
 funext b
 unfold Hl.un Hl.minus;cases hb:K b with
 | none=>simp
 | some o=>simp;exact(h b o hb).symm
def Hl.mD (h:a.bq b):b.bq a:=fun k ⟨x,y⟩=>h k ⟨y,x⟩
end Go.Sx
namespace Go.Proofs.YtbdikjnpbnobcaaGreatDoor
open Go Go.Sx Go.Pk
variable {B G H KB R R':Hl}{w x1:Int}{c1 i k n1 x:Nat}{st:Nat->List Pc}{a:Nat->Nat}{sv:Nat->Value}{α:Type}
def gF (st:Nat->List Pc):Int:=(((st 0).length+(st 1).length+(st 2).length+(st 3).length+(st 4).length+(st 5).length:Nat):Int)
def Fs (a:Nat->Nat) (sv:Nat->Value) (n:Int):List Value:=[.pointer (some ⟨a 0,0,none⟩),.pointer (some ⟨a 1,0,none⟩),.pointer (some ⟨a 2,0,none⟩),.pointer (some ⟨a 3,0,none⟩),.pointer (some ⟨a 4,0,none⟩),.pointer (some ⟨a 5,0,none⟩),sv 0,sv 1,sv 2,sv 3,sv 4,sv 5,.int .i64 n]
def Lo (a:Nat->Nat) (sv:Nat->Value) (n:Int) (h:i<6):(Fs a sv n)[i]?=some (.pointer (some ⟨a i,0,none⟩))/\(Fs a sv n)[6+i]?=some (sv i):=by
 have:i=0\/i=1\/i=2\/i=3\/i=4\/i=5:=ah;rcases this with rfl | rfl | rfl | rfl | rfl | rfl<;>exact⟨rfl,rfl⟩
def pE (f:Nat->α) (i:Nat) (x:α):Nat->α:=fun k=>if k=i then x else f k
def cQ (f:Nat->α) (i:Nat) (x:α):pE f i x i=x:=by simp [pE]
def fu (f:Nat->α) (x:α) (h:k≠i):pE f i x k=f k:=by simp [pE,h]
def QA (a:Nat->Nat) (sv:Nat->Value) (n:Int) (v:Value) (h:i<6):bm (Fs a sv n) (6+i) [v]=Fs a (pE sv i v) n:=by
 have:i=0\/i=1\/i=2\/i=3\/i=4\/i=5:=ah;rcases this with rfl | rfl | rfl | rfl | rfl | rfl<;>rfl
def aaR (a:Nat->Nat) (sv:Nat->Value) (n m:Int):bm (Fs a sv n) 12 [.int .i64 m]=Fs a sv m:=rfl
def PB (st:Nat->List Pc) (p:Pc) (h:i<6):gF (pE st i (st i++[p]))=gF st+1:=by
 have:i=0\/i=1\/i=2\/i=3\/i=4\/i=5:=ah;rcases this with rfl | rfl | rfl | rfl | rfl | rfl<;>(unfold gF pE;simp;omega)
def pD (st:Nat->List Pc) (i:Nat):List Hd:=(st i).map Pc.h
structure IxD (H:Hl) (x:Nat) (st:Nat->List Pc) (a:Nat->Nat) (sv:Nat->Value) (Kc:Nat->Hl) (KB:Hl):Prop where
 bc:H x=some (.cells (Fs a sv (gF st)).toArray 163 (0,0))
 ch:∀ i,i<6->iM (Kc i) (a i) (i+1:Nat) (pD st i)
 le:∀ i,i<6->(Kc i).le H
 bq:∀ i j,i<6->j<6->i≠j->(Kc i).bq (Kc j)
 nox:∀ i,i<6->¬(Kc i).mem x
 row:∀ i,i<6->∃ us,aO H 22 1 (sv i) (st i).length us/\∀ (j:Nat) u p,us[j]?=some u->(st i)[j]?=some p->fE KB u p.b
 kb:KB.le H
 kbx:¬KB.mem x
 kbc:∀ i,i<6->KB.bq (Kc i)
 own:∀ i b,i<6->(sv i).ownBlock=some b->¬KB.mem b/\∀ j,j<6->¬(Kc j).mem b/\(j≠i->(sv j).ownBlock≠some b)
def uZ (H:Hl) (x:Nat) (st:Nat->List Pc):Prop:=∃ a sv Kc KB,IxD H x st a sv Kc KB
structure We (R:Hl) (x:Nat) (st:Nat->List Pc) (a:Nat->Nat) (sv:Nat->Value):Prop where
 bc:R x=some (.cells (Fs a sv (gF st)).toArray 163 (0,0))
 ch:∀ i,i<6->cC R (a i) (i+1:Nat) (pD st i)
 row:∀ i,i<6->∃ us,aO R 22 1 (sv i) (st i).length us/\∀ (j:Nat) u p,us[j]?=some u->(st i)[j]?=some p->fE R u p.b
def oy (R:Hl) (x:Nat) (st:Nat->List Pc):Prop:=∃ a sv,We R x st a sv
def uZ.rd (h:uZ H x st):oy H x st:=by
 obtain⟨a,sv,Kc,KB,h⟩:=h;refine⟨a,sv,h.bc,fun i hi=>⟨Kc i,h.le i hi,h.ch i hi⟩,fun i hi=>?_⟩;obtain⟨us,h1,b⟩:=h.row i hi;exact⟨us,h1,fun j u p hu hp=>jE (b j u p hu hp) h.kb⟩
def cC.mono (hl:R.le R') {a:Nat} {hs:List Hd} (h:cC R a w hs):cC R' a w hs:=by
 obtain⟨K,h1,c⟩:=h;exact⟨K,fun b o hb=>hl b o (h1 b o hb),c⟩
def oy.mono (hl:R.le R') (h:oy R x st):oy R' x st:=by
 obtain⟨a,sv,h⟩:=h;refine⟨a,sv,hl _ _ h.bc,fun i hi=>(h.ch i hi).mono hl,fun i hi=>?_⟩;obtain⟨us,h1,b⟩:=h.row i hi;exact⟨us,h1.mono hl,fun j u p hu hp=>jE (b j u p hu hp) hl⟩
def We.cells (h:We R x st a sv) (hi:i<6):R.cell x i=some (.pointer (some ⟨a i,0,none⟩))/\R.cell x (6+i)=some (sv i)/\R.cell x 12=some (.int .i64 (gF st)):=by
 obtain⟨e1,b⟩:=Lo a sv (gF st) hi;refine⟨?_,?_,?_⟩
 .unfold Hl.cell;rw[h.bc];simpa using e1
 .unfold Hl.cell;rw[h.bc];simpa using b
 .unfold Hl.cell;rw[h.bc];rfl
def IxD.put {Kc:Nat->Hl} (h:IxD H x st a sv Kc KB) (hi:i<6) {K':Hl} {p:Pc} {u:Value} 
 (hd:K'.bq (H.minus (Kc i))) (hc:iM K' (a i) (i+1:Nat) (pD st i++[p.h])) (hb:fE B u p.b) (af:-1<=x1)
 (happ:∀ xs,aO (K'.un (H.minus (Kc i))) 22 1 (sv i) (st i).length xs->aO G 22 1 (.slice (au x1 0) n1 c1) ((st i).length+1) (xs++[u]))
 (hk:∀ b,(K'.un (H.minus (Kc i))).mem b->some b≠(sv i).ownBlock->G b=(K'.un (H.minus (Kc i))) b)
 (hnew:some x1.toNat=(sv i).ownBlock\/¬(K'.un (H.minus (Kc i))).mem x1.toNat\/x1= -1)
 (hB:((G.put x (6+i) [.slice (au x1 0) n1 c1]).put x 12 [.int .i64 (gF st+1)]).bq B) :
 IxD (((G.put x (6+i) [.slice (au x1 0) n1 c1]).put x 12 [.int .i64 (gF st+1)]).un B) x (pE st i (st i++[p])) a (pE sv i (.slice (au x1 0) n1 c1)) (pE Kc i K') (KB.un B):=by
 generalize Q:K'.un (H.minus (Kc i))=R at *;have r:(H.minus (Kc i)).le R:=by
  rw[<-Q];exact Hl.bg hd
 have lK:K'.le R:=by
  rw[<-Q];exact Hl.aV _ _
 have Y:(H.minus (Kc i)).mem x:=Hl.bV (Hl.AZ (A:=Hl.one x (.cells (Fs a sv (gF st)).toArray 163 (0,0))) (fun b o hb=>by
  unfold Hl.one at hb;split at hb
  .rename_i e;subst e;cases hb;exact h.bc
  .cases hb) (Hl.fL.2 (h.nox i hi))) (Hl.mem_of (Hl.aK _ _))
 have S:(H.minus (Kc i)) x=some (.cells (Fs a sv (gF st)).toArray 163 (0,0)):=by
  obtain⟨o,ho⟩:=acH.1 Y;have:=Hl.vV H (Kc i) x o ho;rw[h.bc]at this;cases this;exact ho
 have C:∀ j,j<6->j≠i->(Kc j).le (H.minus (Kc i)):=fun j f t=>Hl.AZ (h.le j f) (h.bq j i f hi t);have L:KB.le (H.minus (Kc i)):=Hl.AZ h.kb (h.kbc i hi);have g:∀ j b,j<6->(sv j).ownBlock=some b->∃ c,(H.minus (Kc i)) b=some (.cells c 22 (0,0)):=fun j b f hb=>by
  obtain⟨us,h1,_⟩:=h.row j f;obtain⟨c,d⟩:=h1.type hb;refine⟨c,?_⟩;unfold Hl.minus;have:=((h.own j b f hb).2 i hi).1;unfold Hl.mem at this;rw[aa8 this];exact d
 have F:∀ j b,j<6->(sv j).ownBlock=some b->b≠x:=fun j b f hb e=>by
  subst e;obtain⟨c,d⟩:=g j _ f hb;rw[S]at d;simp at d
 have Z:some x≠(sv i).ownBlock:=fun e=>F i x hi e.symm rfl;have m:G x=some (.cells (Fs a sv (gF st)).toArray 163 (0,0)):=by
  rw[hk x (Hl.bV r Y) Z];exact r _ _ S
 have lG:∀ {A:Hl},A.le R->(∀ b,(sv i).ownBlock=some b->¬A.mem b)->A.le G:=fun {A} hA hn b o hb=>by
  rw[hk b (Hl.bV hA (Hl.mem_of hb)) fun e=>hn b e.symm (Hl.mem_of hb)];exact hA b o hb
 have nK:∀ b,(sv i).ownBlock=some b->¬K'.mem b:=fun b hb hm=>by
  obtain⟨c,d⟩:=g i b hi hb;exact hd b ⟨hm,Hl.mem_of d⟩
 have xK:¬K'.mem x:=fun hm=>hd x ⟨hm,Y⟩;have aa:((G.put x (6+i) [.slice (au x1 0) n1 c1]).put x 12 [.int .i64 (gF st+1)]) x=some (.cells (Fs a (pE sv i (.slice (au x1 0) n1 c1)) (gF st+1)).toArray 163 (0,0)):=by
  rw[Hl.rH (Hl.rH m)];simp only[af0];rw[QA _ _ _ _ hi,aaR]
 have P:∀ b,G.mem b->¬B.mem b:=fun b h1 h2=>hB b ⟨Hl.ic.2 (Hl.ic.2 h1),h2⟩;have I:∀ b o,b≠x->G b=some o->(((G.put x (6+i) [.slice (au x1 0) n1 c1]).put x 12 [.int .i64 (gF st+1)]).un B) b=some o:=fun b o hb hg=>Hl.aV _ _ b o (by rw[Hl.rJ hb,Hl.rJ hb];exact hg);have M:∀ {A:Hl},A.le G->¬A.mem x->A.le (((G.put x (6+i) [.slice (au x1 0) n1 c1]).put x 12 [.int .i64 (gF st+1)]).un B):=fun hA hx b o hb=>Hl.aV _ _ b o (Hl.A6 (Hl.A6 hA hx) hx b o hb);have T:K'.le G:=lG lK nK;have U:KB.le G:=lG (fun b o hb=>r _ _ (L b o hb)) fun b hb=>(h.own i b hi hb).1;have V:∀ j,j<6->j≠i->(Kc j).le G:=fun j f e=>lG (fun b o hb=>r _ _ (C j f e b o hb)) fun b hb=>((h.own i b hi hb).2 j f).1;have xB:¬B.mem x:=P x (Hl.mem_of m);have W:¬(KB.un B).mem x:=fun hm=>(Hl.cG.1 hm).elim h.kbx xB;have X:(KB.un B).le (((G.put x (6+i) [.slice (au x1 0) n1 c1]).put x 12 [.int .i64 (gF st+1)]).un B):=fun b o hb=>by
  unfold Hl.un at hb;cases n:KB b with
  | some o'=>rw[n]at hb;cases hb;exact M U h.kbx _ _ n
  | none=>rw[n]at hb;exact Hl.bg hB b o hb
 obtain⟨us,ho,ab⟩:=h.row i hi;have ad:aO R 22 1 (sv i) (st i).length us:=ho.at fun b hb=>by
  obtain⟨c,d⟩:=g i b hi hb;rw[r _ _ d];exact(Hl.vV H (Kc i) _ _ d).symm
 have D:=happ us ad;have J:∀ b,(Value.slice (au x1 0) n1 c1).ownBlock=some b->b=x1.toNat/\x1≠ -1:=fun b hb=>by
  rcases ad9 x1 0 with ag | h0
  .rw[show x1= -1 by omega,dr]at hb;cases hb
  .rw[av h0]at hb;have:x1.toNat=b:=by simpa [Value.ownBlock] using hb
   exact⟨this.symm,ah⟩
 have w:∀ {A:Hl},A.le R->(∀ b,(sv i).ownBlock=some b->¬A.mem b)->∀ b,(Value.slice (au x1 0) n1 c1).ownBlock=some b->¬A.mem b:=fun {A} hA hn b hb hm=>by
  obtain⟨rfl,t⟩:=J b hb;rcases hnew with h1 | h1 | h1
  .exact hn _ h1.symm hm
  .exact h1 (Hl.bV hA hm)
  .exact t h1
 have K:∀ j b,j<6->j≠i->(Value.slice (au x1 0) n1 c1).ownBlock=some b->(sv j).ownBlock≠some b:=fun j b f ae hb e=>by
  obtain⟨rfl,t⟩:=J b hb;rcases hnew with h1 | h1 | h1
  .exact((h.own i _ hi h1.symm).2 j f).2 ae e
  .obtain⟨c,d⟩:=g j _ f e;exact h1 (Hl.bV r (Hl.mem_of d))
  .exact t h1
 have N:∀ b,(Value.slice (au x1 0) n1 c1).ownBlock=some b->b≠x:=fun b hb e=>by
  subst e;obtain⟨c,d⟩:=D.type hb;rw[m]at d;simp at d
 refine⟨?_,fun j f=>?_,fun j f=>?_,fun j k f l O=>?_,fun j f=>?_,fun j f=>?_,X,W,fun j f=>?_,fun j b f hb=>?_⟩
 .rw[PB _ _ hi];exact Hl.aV _ _ _ _ aa
 .by_cases e:j=i
  .subst e;rw[cQ];unfold pD;rw[cQ,acm];exact hc
  .rw[fu _ _ e];unfold pD;rw[fu _ _ e];exact h.ch j f
 .by_cases e:j=i
  .subst e;rw[cQ];exact M T xK
  .rw[fu _ _ e];exact M (V j f e) (h.nox j f)
 .by_cases e:j=i
  .subst e;rw[cQ,fu _ _ (Ne.symm O)];exact Hl.Aj hd (C k l (Ne.symm O))
  .by_cases s:k=i
   .subst s;rw[cQ,fu _ _ e];exact Hl.mD (Hl.Aj hd (C j f e))
   .rw[fu _ _ e,fu _ _ s];exact h.bq j k f l O
 .by_cases e:j=i
  .subst e;rw[cQ];exact xK
  .rw[fu _ _ e];exact h.nox j f
 .by_cases e:j=i
  .subst e;rw[cQ,cQ,aaA];refine⟨us++[u],D.at fun b hb=>(by obtain⟨cc,E⟩:=D.type hb;rw[E];exact I b _ (N b hb) E),fun k v q hv n=>?_⟩;have hl:us.length=(st j).length:=by have:=ho.1;omega
   rcases acN k us.length with ot | ot
   .rw[acb ot]at hv;rw[acb ah]at n;exact jE (ab k v q hv n) (Hl.aV _ _)
   .rw[abO ot]at hv;rw[abO ah]at n;have hv:=aah hv;have n:=aah n;rw[aaQ]at hv n;subst hv;subst n;exact jE hb (Hl.bg fun b ⟨y,z⟩=>P b (Hl.bV U y) z)
  .rw[fu _ _ e,fu _ _ e];obtain⟨vs,h1,h2⟩:=h.row j f;refine⟨vs,h1.at fun b hb=>?_,fun k v q hv n=>jE (h2 k v q hv n) (Hl.aV _ _)⟩;obtain⟨c,d⟩:=g j b f hb;rw[Hl.vV H (Kc i) _ _ d];refine I b _ (F j b f hb) ?_;rw[hk b (Hl.bV r (Hl.mem_of d)) fun e'=>((h.own i b hi e'.symm).2 j f).2 e hb,r _ _ d]
 .by_cases e:j=i
  .subst e;rw[cQ];exact fun b ⟨y,z⟩=>(Hl.cG.1 y).elim (fun y=>hd b ⟨z,Hl.bV L y⟩) (fun y=>P b (Hl.bV T z) y)
  .rw[fu _ _ e];exact fun b ⟨y,z⟩=>(Hl.cG.1 y).elim (fun y=>h.kbc j f b ⟨y,z⟩) (fun y=>P b (Hl.bV (V j f e) z) y)
 .by_cases e:j=i
  .subst e;rw[cQ]at hb;refine⟨fun hm=>(Hl.cG.1 hm).elim (w (fun b o hb=>r _ _ (L b o hb)) (fun b hb=>(h.own j b hi hb).1) b hb) (fun y=>by obtain⟨cc,E⟩:=D.type hb;exact P b (Hl.mem_of E) y),fun k l=>?_⟩;by_cases s:k=j
   .subst s;rw[cQ];exact⟨w lK nK b hb,fun h=>absurd rfl h⟩
   .rw[fu _ _ s,fu _ _ s];exact⟨w (fun b o hb=>r _ _ (C k l s b o hb)) (fun b hb=>((h.own j b hi hb).2 k l).1) b hb,fun _=>K k b l s hb⟩
  .rw[fu _ _ e]at hb;obtain⟨c,d⟩:=g j b f hb;refine⟨fun hm=>(Hl.cG.1 hm).elim (h.own j b f hb).1 (fun y=>P b (by
    have e1:G b=some (.cells c 22 (0,0)):=by rw[hk b (Hl.bV r (Hl.mem_of d)) fun e'=>((h.own i b hi e'.symm).2 j f).2 e hb,r _ _ d]
    exact Hl.mem_of e1) y),fun k l=>?_⟩
   by_cases s:k=i
   .subst s;rw[cQ,cQ];exact⟨fun hm=>hd b ⟨hm,Hl.mem_of d⟩,fun _ e3=>K j b f e e3 hb⟩
   .rw[fu _ _ s,fu _ _ s];exact(h.own j b f hb).2 k l
end Go.Proofs.YtbdikjnpbnobcaaGreatDoor
namespace Go.Sx
open Go
def mJ:∀ {l:List Hl} (_:∀ (p q:Nat) A B,p≠q->l[p]?=some A->l[q]?=some B->A.bq B) {i:Nat} {A:Hl},l[i]?=some A->A.le (bY l)
 | [],_,_,_,h=>by simp at h
 | B::l,hd,0,A,h=>by
  simp only[acF,aa3]at h;subst h;exact Hl.aV _ _
 | B::l,hd,i+1,A,h=>by
  have ih:=mJ (l:=l) (fun p q A B a c hb=>hd (p+1) (q+1) A B ah (by simpa using c) (by simpa using hb)) (i:=i) (A:=A) (by simpa using h);have hB:B.bq (bY l):=fun b ⟨x,y⟩=>by
   obtain⟨C,d,hb⟩:=vG.1 y;obtain⟨j,e⟩:=acG d;exact hd 0 (j+1) B C ah rfl (by simpa using e) b ⟨x,hb⟩
  exact fun b o hb=>Hl.bg hB b o (ih b o hb)
end Go.Sx
namespace Go.Proofs.YtbdikjnpbnobcaaGreatDoor
open Go Go.Sx Go.Pk
variable {q:Env}{h:Hd}{s w y:Int}{row:List Value}{i n:Nat}{st':Nat->List Pc}
def Lk:Sx.Spec where
 fn:=76
 own:=[]
 rd:=[]
 res:=[.one .ptr]
 pre:=fun xs Hs Rs=>xs=[]
 post:=fun xs Hs Rs v Hs' F=>∃ x:Nat,v=.pointer (some ⟨x,0,none⟩)/\uZ F x (fun _=>[])
def iwΓ:List Sx.Spec:=[Im]
def XI:∀ t∈iwΓ,t.OK Tryz.prog:=fun t a=>by
 rw[iwΓ,aaQ]at a;subst a;exact SJ
def adV:Im.res=[.one .ptr]:=rfl
def V3 (n:Nat):(aL n [Cp.one .ptr]≠[])=True:=by simp [aL,Cp.roots,Ck.root]
def VJ:aD Tryz.prog iwΓ Lk.fn where
 Λ:=aA
 args:=[]
 mem:=[]
 nv:=0
def py {x:Int} {F:Hl} {K:List Hl} (hp:Im.post [.int .i64 w] [] [] (.pointer (au x y)) K F) (hx:-1<=x) (hy:0<=y):0<=x/\au x y=some ⟨x.toNat,0,none⟩/\iM F x.toNat w []:=by
 obtain⟨b,e,h⟩:=hp w rfl;rcases ad9 x 0 with a | h0
 .rw[show x= -1 by omega,dr]at e;cases e
 .rw[av h0]at e ⊢;simp only[Value.pointer.injEq,aa3,Addr.mk.injEq,abw]at e;obtain⟨e1,c⟩:=e;rw[<-e1]at h;refine⟨h0,?_,h⟩;rw[c]
def Qs:Lk.OK Tryz.prog:=by
 refine Spec.cM (Γ:=iwΓ) XI ?_;rintro xs Hs Rs o t rfl;have e0:Hs=[]:=aa1.1 o;have e1:Rs=[]:=aa1.1 t;subst e0 e1;refine⟨VJ,aM [] false [],fun _ _=>True,fun _ _=>0,rfl,I2 (by intro r hr;simp [VJ]at hr) rfl,(fun _ h=>nomatch h),?_⟩;refine aD.read [] [] [] ?_;generalize aM [] false []=J;simp only[go_sem,Nat.reduceAdd,iwΓ,adV,V3];intro S g0 p0;refine⟨⟨1,rfl⟩,fun q1 G ⟨T,a1,b1,n1⟩=>⟨⟨2,rfl⟩,fun q2 H ⟨U,a2,b2,n2⟩=>⟨⟨3,rfl⟩,fun I g3 ⟨V,a3,v,n3⟩=>⟨⟨4,rfl⟩,fun K g4 ⟨W,a4,w,z⟩=>⟨⟨5,rfl⟩,fun L M ⟨X,a5,x,C⟩=>⟨⟨6,rfl⟩,fun a N ⟨Y,O,b6,n6⟩=>?_⟩⟩⟩⟩⟩⟩;obtain⟨m1,c1,d1⟩:=py a1 n1.1.1 n1.1.2;obtain⟨m2,c2,d2⟩:=py a2 n2.1.1 n2.1.2;obtain⟨m3,c3,d3⟩:=py a3 n3.1.1 n3.1.2;obtain⟨Z,D,d4⟩:=py a4 z.1.1 z.1.2;obtain⟨m5,E,d5⟩:=py a5 C.1.1 C.1.2;obtain⟨m6,c6,d6⟩:=py O n6.1.1 n6.1.2;have b1:=b1 trivial;have b2:=b2 trivial;have v:=v trivial;have w:=w trivial;have x:=x trivial;have b6:=b6 trivial;have d:ai 11 L a:=N;have e:ai 9 K a:=M.tr d;have f:ai 7 I a:=g4.tr e;have g:ai 5 q2 a:=g3.tr f;have l:ai 3 q1 a:=H.tr g;rw[<-b1,<-l.i 1,<-l.h 1]at d1;rw[<-b2,<-g.i 3,<-g.h 3]at d2;rw[<-v,<-f.i 5,<-f.h 5]at d3;rw[<-w,<-e.i 7,<-e.h 7]at d4;rw[<-x,<-d.i 9,<-d.h 9]at d5;rw[<-b6]at d6;rw[<-l.i 1,<-l.i 2]at c1;rw[<-g.i 3,<-g.i 4]at c2;rw[<-f.i 5,<-f.i 6]at c3;rw[<-e.i 7,<-e.i 8]at D;rw[<-d.i 9,<-d.i 10]at E;have p0:0<=a.i 0:=by rw[l.i 0,G.i 0];exact p0
 intro m;generalize hm:([bo.bc 0 (aj 1 (List.replicate 6 Ck.ptr)++[.sl (.lit (-1)) (.lit 0) (.lit 0) (.lit 0),.sl (.lit (-1)) (.lit 0) (.lit 0) (.lit 0),.sl (.lit (-1)) (.lit 0) (.lit 0) (.lit 0),.sl (.lit (-1)) (.lit 0) (.lit 0) (.lit 0),.sl (.lit (-1)) (.lit 0) (.lit 0) (.lit 0),.sl (.lit (-1)) (.lit 0) (.lit 0) (.lit 0),.int .i64 (.lit 0)]) 163,.hp 1 [] [.var 1] [],.hp 3 [] [.var 3] [],.hp 5 [] [.var 5] [],.hp 7 [] [.var 7] [],.hp 9 [] [.var 9] [],.hp 11 [] [.var 11] []]:Mem)=mem at *;have n:∀ r∈mem,r.own=true:=by rw[<-hm];intro r hr;simp at hr;rcases hr with rfl | rfl | rfl | rfl | rfl | rfl | rfl<;>rfl
 have hl:mem.map (bo.hl a)=[Hl.one (a.i 0).toNat (.cells (Fs (fun i=>([a.i 1,a.i 3,a.i 5,a.i 7,a.i 9,a.i 11].getD i 0).toNat) (fun _=>.slice none 0 0) 0).toArray 163 (0,0)),a.h 1,a.h 3,a.h 5,a.h 7,a.h 9,a.h 11]:=by
  rw[<-hm];have:Hl.one (a.i 0).toNat (.cells #[.pointer (au (a.i 1) (a.i 2)),.pointer (au (a.i 3) (a.i 4)),.pointer (au (a.i 5) (a.i 6)),.pointer (au (a.i 7) (a.i 8)),.pointer (au (a.i 9) (a.i 10)),.pointer (au (a.i 11) (a.i 12)),.slice none 0 0,.slice none 0 0,.slice none 0 0,.slice none 0 0,.slice none 0 0,.slice none 0 0,.int .i64 0] 163 (0,0))=Hl.one (a.i 0).toNat (.cells (Fs (fun i=>([a.i 1,a.i 3,a.i 5,a.i 7,a.i 9,a.i 11].getD i 0).toNat) (fun _=>.slice none 0 0) 0).toArray 163 (0,0)):=by
   rw[c1,c2,c3,D,E,c6];rfl
  rw[<-this];rfl
 have c:∀ (p q:Nat) A B,p≠q->(mem.map (bo.hl a))[p]?=some A->(mem.map (bo.hl a))[q]?=some B->A.bq B:=by
  intro p q A B y F hb;rw[abl]at F hb;obtain⟨r,hr,rfl⟩:=aaH.1 F;obtain⟨s,hs,rfl⟩:=aaH.1 hb;exact m p q r s y hr hs (n r (aah hr))
 rw[hl]at c;have hK:∀ i,i<6->([Hl.one (a.i 0).toNat (.cells (Fs (fun i=>([a.i 1,a.i 3,a.i 5,a.i 7,a.i 9,a.i 11].getD i 0).toNat) (fun _=>.slice none 0 0) 0).toArray 163 (0,0)),a.h 1,a.h 3,a.h 5,a.h 7,a.h 9,a.h 11])[i+1]?=some ([a.h 1,a.h 3,a.h 5,a.h 7,a.h 9,a.h 11].getD i Hl.none):=fun i hi=>by
  have:i=0\/i=1\/i=2\/i=3\/i=4\/i=5:=ah;rcases this with rfl | rfl | rfl | rfl | rfl | rfl<;>rfl
 have P:uY a mem [0,1,2,3,4,5,6]=bY (mem.map (bo.hl a)):=by rw[<-hm];rfl
 refine⟨[],[0,1,2,3,4,5,6],rfl,by rw[<-hm];rfl,⟨(ba fun k=>if k=0 then a.i 0 else 0),rfl,⟨by show -1<=a.i 0;omega,aba 0⟩,zzT⟩,(a.i 0).toNat,?_,?_⟩
 .show Value.pointer (au (a.i 0) 0)=_;rw[av p0];rfl
 rw[P,hl];refine⟨_,_,fun i=>[a.h 1,a.h 3,a.h 5,a.h 7,a.h 9,a.h 11].getD i Hl.none,Hl.none,Hl.aV _ _ _ _ (Hl.aK _ _),fun i hi=>?_,fun i hi=>mJ c (hK i hi),fun i j hi Q R=>c (i+1) (j+1) _ _ ah (hK i hi) (hK j Q),fun i hi=>Hl.fL.1 (c 0 (i+1) _ _ ah rfl (hK i hi)),fun i hi=>⟨[],⟨rfl,Or.inl ⟨rfl,rfl⟩⟩,fun j u p h=>by simp at h⟩,(fun _ _ h=>by cases h),(fun h=>by cases h),(fun i hi b ⟨h,_⟩=>by cases h),(fun i b _ h=>by cases h)⟩;have:i=0\/i=1\/i=2\/i=3\/i=4\/i=5:=ah;rcases this with rfl | rfl | rfl | rfl | rfl | rfl
 .exact d1
 .exact d2
 .exact d3
 .exact d4
 .exact d5
 .exact d6
def kOw (h:aR row oj):row=row.take 125++[row.getD 125 ou]:=by
 have hl:=fV h;rw[iO]at hl;apply ack;intro k;rcases acN k 125 with hk | hk
 .rw[acb (by rw[ace];omega),acC,ab9 hk]
 .rw[abO (by rw[ace];omega),ace,hl];rcases acN k 126 with bJ | bJ
  .have:k=125:=ah;subst this;show _=some (row.getD 125 ou);rw[abv,aad ah];rfl
  .rw[abA ah,abA (by simp;omega)]
def EJ {a:Int} (hs:List (Nat×Hl)) (h:aR row oj):∃ q:Env,q.i 0=a/\row=(aj 1 fI).map (CV.ev q)/\(∀ k,q.h k=xh hs k)/\bk 1 fI q:=by
 obtain⟨q,g,hn,e⟩:=cE fI 1 row (ba fun _=>a) h;exact⟨⟨q.i,q.b,q.s,q.v,xh hs⟩,g.i 0,by rw[<-PA (xh hs)];exact e.symm,fun _=>rfl,QZ _ _ _ hn⟩
set_option maxRecDepth 20000 in
def Rd (n:Nat):aj n fI=aj n bJ++[.sl (.var (n+128)) (.var (n+128+1)) (.var (n+128+2)) (.var (n+128+3))]:=by
 have:∀ (a b:List Ck) (n:Nat),aj n (a++b)=aj n a++aj (n+aQ a) b:=by
  intro a
  induction a with
  | nil=>intro b n;simp [aj,aQ]
  | cons k a ih=>intro b n;rw[afg,aj,aj,ih,afg];simp [aQ,afp]
 rw[fI,this];rfl
set_option maxRecDepth 20000 in
def sN (q:Env) (n:Nat):((aj n fI).map (CV.ev q)).take 125=(aj n bJ).map (CV.ev q):=by
 rw[Rd,acm];exact afU (by rw[aca];rfl)
set_option maxRecDepth 20000 in
def EI (q:Env) (n:Nat):((aj n fI).map (CV.ev q)).getD 125 ou=.slice (au (q.i (n+128)) (q.i (n+128+1))) (q.i (n+128+2)).toNat (q.i (n+128+3)).toNat:=by
 have hl:((aj n bJ).map (CV.ev q)).length=125:=by rw[aca];rfl
 rw[Rd,acm,abv,abO ah,hl];rfl
def uV {R:Hl} (hx:br R row h) (bs:List Int):ef row bs=ef h.c bs:=by
 unfold ef;rw[hx.I (k:=92) az];have:aW h.c 60 32=aW row 60 32:=by
  unfold aW;refine acL fun j a=>hx.I ?_;have:=acv.1 a;omega
 rw[this]
open Classical in
noncomputable def cx (st:Nat->List Pc) (p:Pc):Int :=
 if ¬p.h.Form then 1
 else if iy (cI p.h.c 0) (pD st (cI p.h.c 0-1).toNat) p.h≠0 then iy (cI p.h.c 0) (pD st (cI p.h.c 0-1).toNat) p.h
 else if ef p.h.c p.b=false then 2 else if 400<=gF st then 4 else 0
def We.ae1 {R:Hl} {x:Nat} {st:Nat->List Pc} {a a':Nat->Nat} {sv c:Nat->Value} (h:We R x st a sv) (h':We R x st' a' c) (hi:i<6):st i=st' i:=by
 obtain⟨e1,g,_⟩:=h.cells hi;obtain⟨f1,f2,_⟩:=h'.cells hi;rw[e1]at f1;rw[g]at f2;simp only[aa3,Value.pointer.injEq,Addr.mk.injEq,abw]at f1 f2;have c1:=h.ch i hi;have c2:=h'.ch i hi;rw[f1]at c1;have k:=(c1.uniq c2).2;obtain⟨us,o1,b1⟩:=h.row i hi;obtain⟨vs,o2,b2⟩:=h'.row i hi;rw[f2]at o1;obtain⟨el,m⟩:=o1.inj o2;subst m;apply afl el;intro j h1 e;have d:j<us.length:=by have:=o1.1;omega
 have hu:us[j]?=some us[j]:=aad d;have p1:=b1 j _ _ hu (aad h1);have p2:=b2 j _ _ hu (aad e);have f:=p1.uniq p2;have b:(st i)[j].h=(st' i)[j].h:=by
  have:=ach (fun l=>l[j]?) k;simpa [pD,abl,h1,e] using this
 generalize (st i)[j]=x at *;generalize (st' i)[j]=y at *;cases x;cases y;simp only at f b;rw[f,b]
def oy.st {R:Hl} {x:Nat} {st:Nat->List Pc} (h:oy R x st) (h':oy R x st') (hi:i<6):st i=st' i:=by
 obtain⟨a,sv,h⟩:=h;obtain⟨a',b,h'⟩:=h';exact h.ae1 h' hi
def PC {st:Nat->List Pc} (h:∀ i,i<6->st i=st' i):gF st=gF st':=by
 unfold gF;rw[h 0 ah,h 1 ah,h 2 ah,h 3 ah,h 4 ah,h 5 ah]
def Eh (a:h.Form):1<=cI h.c 0/\cI h.c 0<=6:=a.1.1
def qT {st:Nat->List Pc} (h:∀ i,i<6->st i=st' i) (p:Pc):cx st p=cx st' p:=by
 unfold cx;rw[PC h];by_cases a:p.h.Form
 .have:=Eh a;unfold pD;rw[h (cI p.h.c 0-1).toNat ah]
 .rw[ab9 a,ab9 a]
def qR (st:Nat->List Pc):List Value:=[.int .u64 (st 0).length,.int .u64 (st 1).length,.int .u64 (st 2).length,.int .u64 (st 3).length,.int .u64 (st 4).length,.int .u64 (st 5).length]
def lL (st:Nat->List Pc):Prop:=∀ i,i<6->(st i).length<1000000
def zt:Sx.Spec where
 fn:=70
 own:=[]
 rd:=[0]
 res:=[.agg (List.replicate 6 (Ck.int .u64))]
 pre:=fun xs Hs Rs=>∃ x R st,xs=[.pointer (some ⟨x,0,none⟩)]/\Rs=[R]/\oy R x st/\lL st
 post:=fun xs Hs Rs v Hs' F=>∀ x R st,xs=[.pointer (some ⟨x,0,none⟩)]->Rs=[R]->oy R x st->lL st->v=.agg (qR st).toArray
def ihΓ:List Sx.Spec:=[yi]
def T1:aD Tryz.prog ihΓ zt.fn where
 Λ:=aA
 args:=[TP (.var 0) (.lit 0)]
 mem:=[.ro 1 [.var 0] true]
 nv:=2
def Jf:zt.OK Tryz.prog:=by
 refine Spec.jN (Γ:=ihΓ) (fun t A=>by rw[ihΓ,aaQ]at A;subst A;exact AL) rfl ?_;rintro xs Rs ⟨x,R,st,rfl,rfl,hI,hS⟩;refine⟨T1,aM [x] false [Hl.none,R],fun _ _=>True,fun _ _=>0,?_,aT rfl rfl,rfl,?_⟩
 .show [Value.pointer (au (x:Int) 0)]=_;rw[av ah];rfl
 .refine aD.read [] [] [] ?_;generalize d:aM [(x:Int)] false [Hl.none,R]=J;obtain⟨⟨v0,_⟩,_,w1,_⟩:=jn d;clear d;obtain⟨a,sv,b⟩:=id hI;have I:∀ q:Env,ai 2 J q->∀ i,i<6->(q.h 1).cell (q.i 0).toNat (Int.toNat 0+i)=some (.pointer (some ⟨a i,0,none⟩))/\q.h 1=R:=fun q g i hi=>by
   rw[g.i 0,g.h 1,v0,w1,aac];refine⟨?_,rfl⟩;have:=(b.cells hi).1;rw[show Int.toNat 0+i=i from aco i];exact this
  simp only[go_sem,Nat.reduceAdd,ihΓ,WO];have hp:∀ q:Env,ai 2 J q->∀ i,i<6->Value.pointer (au (bD ((q.h 1).cell (q.i 0).toNat (Int.toNat 0+i)) 0) (bD ((q.h 1).cell (q.i 0).toNat (Int.toNat 0+i)) 1))=.pointer (some ⟨a i,0,none⟩)/\q.h 1=R/\bh ((q.h 1).cell (q.i 0).toNat (Int.toNat 0+i)) .ptr=true:=fun q g i hi=>by
   obtain⟨e1,u⟩:=I q g i hi;rw[e1];exact⟨jX,u,rfl⟩
  have hl:∀ i,i<6->(pD st i).length<1000000:=fun i hi=>by unfold pD;rw[aca];exact hS i hi
  intro P g0 _ q1 K _;have c:ai 2 J q1:=g0.tr K;obtain⟨f1,f2,f3⟩:=hp q1 c 0 ah;refine⟨by rw[c.i 0,v0];omega,f3,(hp q1 c 1 ah).2.2,(hp q1 c 2 ah).2.2,(hp q1 c 3 ah).2.2,(hp q1 c 4 ah).2.2,(hp q1 c 5 ah).2.2,?_⟩;have f1:Value.pointer (au (bD ((q1.h 1).cell (q1.i 0).toNat (Int.toNat 0)) 0) (bD ((q1.h 1).cell (q1.i 0).toNat (Int.toNat 0)) 1))=.pointer (some ⟨a 0,0,none⟩):=f1;rw[f1,f2];refine⟨⟨_,R,_,_,rfl,rfl,b.ch 0 ah⟩,fun q2 L ⟨Q,e,_⟩=>?_⟩;have e:=kH (b.ch 0 ah) (hl 0 ah) e;have v:ai 2 J q2:=c.tr L;rw[(hp q2 v 1 ah).1,(hp q2 v 1 ah).2.1];refine⟨⟨_,R,_,_,rfl,rfl,b.ch 1 ah⟩,fun f g3 ⟨S,j,_⟩=>?_⟩;have j:=kH (b.ch 1 ah) (hl 1 ah) j;have w:ai 2 J f:=v.tr g3;rw[(hp f w 2 ah).1,(hp f w 2 ah).2.1];refine⟨⟨_,R,_,_,rfl,rfl,b.ch 2 ah⟩,fun l g4 ⟨T,m,_⟩=>?_⟩;have m:=kH (b.ch 2 ah) (hl 2 ah) m;have y:ai 2 J l:=w.tr g4;rw[(hp l y 3 ah).1,(hp l y 3 ah).2.1];refine⟨⟨_,R,_,_,rfl,rfl,b.ch 3 ah⟩,fun n B ⟨U,o,_⟩=>?_⟩;have o:=kH (b.ch 3 ah) (hl 3 ah) o;have z:ai 2 J n:=y.tr B;rw[(hp n z 4 ah).1,(hp n z 4 ah).2.1];refine⟨⟨_,R,_,_,rfl,rfl,b.ch 4 ah⟩,fun p C ⟨V,r,_⟩=>?_⟩;have r:=kH (b.ch 4 ah) (hl 4 ah) r;have D:ai 2 J p:=z.tr C;rw[(hp p D 5 ah).1,(hp p D 5 ah).2.1];refine⟨⟨_,R,_,_,rfl,rfl,b.ch 5 ah⟩,fun q7 M ⟨W,s,_⟩=>?_⟩;have s:=kH (b.ch 5 ah) (hl 5 ah) s;intro _;refine⟨[],[],rfl,rfl,⟨(ba fun k=>q7.i (k+4)),rfl,⟨zzT,zzT,zzT,zzT,zzT,zzT,zzT⟩,zzT⟩,fun x' R' st' e1 u h' N=>?_⟩;simp only[aae,abw,Value.pointer.injEq,aa3,Addr.mk.injEq]at e1 u;subst e1 u;have es:∀ i,i<6->((pD st i).length:Int)=(st' i).length:=fun i hi=>by unfold pD;rw[aca,hI.st h' hi]
  show Value.agg #[.int .u64 (q7.i 4),.int .u64 (q7.i 5),.int .u64 (q7.i 6),.int .u64 (q7.i 7),.int .u64 (q7.i 8),.int .u64 (q7.i 9)]=_;have E:ai 9 p q7:=M;have F:ai 8 n q7:=C.tr E;have G:ai 7 l q7:=B.tr F;have H:ai 6 f q7:=g4.tr G;have O:ai 5 q2 q7:=g3.tr H;rw[O.i 4,H.i 5,G.i 6,F.i 7,E.i 8];have e:q2.i 4=_:=e;have j:f.i 5=_:=j;have m:l.i 6=_:=m;have o:n.i 7=_:=o;have r:p.i 8=_:=r;have s:q7.i 9=_:=s;rw[e,j,m,o,r,s,es 0 ah,es 1 ah,es 2 ah,es 3 ah,es 4 ah,es 5 ah];rfl
noncomputable def AP:Sx.Spec where
 fn:=111
 own:=[]
 rd:=[0,1001053,1001125,2000002]
 res:=[.one (.int .i64)]
 pre:=fun xs Hs Rs=>∃ x R st row T B RG p,xs=[.pointer (some ⟨x,0,none⟩),.agg row.toArray]/\Rs=[R,T,B,RG]/\oy R x st/\lL st/\cH T B row p/\p.b.length<=900000/\yT RG 2
 post:=fun xs Hs Rs v Hs' F=>∀ x R st row T B RG p,xs=[.pointer (some ⟨x,0,none⟩),.agg row.toArray]->Rs=[R,T,B,RG]->oy R x st->cH T B row p->v=.int .i64 (cx st p)
noncomputable def ikΓ:List Sx.Spec:=[fS 91,Ad,xP]
def XD:∀ t∈ikΓ,t.OK Tryz.prog:=ak mj <| ak FN <| ak DH <| bu
def adT:Ad.res=[.one (.int .i64)]:=rfl
def adU:xP.res=[.one .bool]:=rfl
noncomputable def aaL:aD Tryz.prog ikΓ AP.fn where
 Λ:=aA
 args:=TP (.var 0) (.lit 0)::(bQ 1 [.agg Cu]).map .sv
 mem:=[.ro 133 [.var 0] true,.ro 134 [.var 54] false,.ro 135 [.var 129] false,.ro 136 [.lit 2] false]
 nv:=137
open Classical in
set_option maxRecDepth 20000 in
def Gu:AP.OK Tryz.prog:=by
 refine Spec.jN (Γ:=ikΓ) XD rfl ?_;rintro xs Rs ⟨x,R,st,row,T,B,RG,p,rfl,rfl,hI,hS,hx,hlen,s⟩;obtain⟨J,S,rfl,hh,aa⟩:=EJ (a:=(x:Int)) [(133,R),(134,T),(135,B),(136,RG)] hx.ok;have w1:J.h 133=R:=hh 133;have w2:J.h 134=T:=hh 134;have U:J.h 135=B:=hh 135;have W:J.h 136=RG:=hh 136;refine⟨aaL,J,fun _ _=>True,fun _ _=>0,?_,aT rfl (by show [J.h 133,J.h 134,J.h 135,J.h 136]=_;rw[w1,w2,U,W]),rfl,?_⟩
 .show [Value.pointer (au (J.i 0) 0),.agg ((aj 1 fI).map (CV.ev J)).toArray]=_;rw[S,av ah];rfl
 refine aD.read [bJ,Cu] [] [] ?_;simp only[go_sem,Nat.reduceAdd,ikΓ,WW,adT,adU];generalize d:(aj 1 fI).map (CV.ev J)=row at *;have t:(aj 1 bJ).map (CV.ev J)=row.take 125:=by rw[<-d,sN]
 have V:∀ q:Env,ai 137 J q->q.i 0=x/\q.h 133=R/\q.h 134=T/\q.h 135=B/\q.h 136=RG/\(aj 1 bJ).map (CV.ev q)=row.take 125/\(aj 1 Cu).map (CV.ev q)=row/\q.i 1=J.i 1:=fun q g=>by
  refine⟨by rw[g.i 0,S],by rw[g.h 133,w1],by rw[g.h 134,w2],by rw[g.h 135,U],by rw[g.h 136,W],?_,?_,g.i 1⟩
  .rw[<-t];exact ach Array.toList (Value.agg.inj (fQ (ks:=bJ) (n:=1) g az))
  .rw[<-d];exact ach Array.toList (Value.agg.inj (fQ (ks:=fI) (n:=1) g az))
 obtain⟨a,sv,A⟩:=id hI;have f:row=row.take 125++[row.getD 125 ou]:=kOw hx.ok;have hd:=hx.hd;have u:cI p.h.c 0=J.i 1:=by
  have e1:cI p.h.c 0=cI (row.take 125) 0:=hd.I az;rw[e1,<-t];rfl
 have out:∀ {q:Env} {mem:Mem} {e:E},aw q e=cx st p->postOf AP [.pointer (some ⟨x,0,none⟩),.agg row.toArray] [] [R,T,B,RG] q mem (.sv (.one (.int .i64 e))):=fun {q mem e} he =>
  vP rfl he fun F x' R' st' row' T' B' ab p' e1 X h' C=>by
   simp only[aae,abw,Value.pointer.injEq,aa3,Addr.mk.injEq,Value.agg.injEq]at e1 X;obtain⟨rfl,e1⟩:=e1;obtain⟨rfl,rfl,rfl,rfl⟩:=X;have e1:=ab1 e1;subst e1;obtain rfl:=hx.uniq C;rw[qT (fun i hi=>hI.st h' hi) p]
 intro q1 Y p1;obtain⟨v0,x1,x2,x3,x4,xr,ad,_⟩:=V q1 Y;rw[xr,x2];refine⟨⟨_,T,p.h,rfl,rfl,hd⟩,fun q2 g2 ⟨F2,D,_⟩=>?_⟩;have Z:ai 137 J q2:=Y.tr g2;have v:q2.b 138=decide p.h.Form:=Value.bool.inj (mE hd D);obtain⟨y0,y1,y2,y3,y4,yr,ae,y5⟩:=V q2 Z;refine⟨fun hb=>out ?_,fun hb=>?_⟩
 .have z:¬p.h.Form:=by rw[v]at hb;simpa using hb
  unfold cx;rw[ab9 z];rfl
 have z:p.h.Form:=by rw[v]at hb;simpa using hb
 have k:¬¬p.h.Form:=fun g=>g z;have hw:=Eh z;have G:IntKind.i64.wrap (J.i 1-1)=((cI p.h.c 0-1).toNat:Nat):=by rw[u,IntKind.wrap_i64];rw[u]at hw;omega
 generalize hi:(cI p.h.c 0-1).toNat=i at *;have l:i<6:=ah;have H:cI p.h.c 0=((i+1:Nat):Int):=ah;obtain⟨c1,c2,c3⟩:=A.cells l;have K:R.cell ((x:Int)).toNat (Int.toNat ((i:Nat):Int))=some (.pointer (some ⟨a i,0,none⟩)):=by rw[aac,aac];exact c1
 have L:R.cell ((x:Int)).toNat (Int.toNat 12)=some (.int .i64 (gF st)):=by rw[aac];exact c3
 have m:(pD st i).length<1000000:=by unfold pD;rw[aca];exact hS i l
 rw[y0,y1,y2,y5,yr,G,K,jX];refine⟨ah,ah,ah,rfl,⟨a i,R,_,_,_,T,p.h,rfl,rfl,A.ch i l,m,hd⟩,fun M g3 ⟨F3,⟨a',R',w',hs',row',T',h',f1,f2,d2,i2,hv⟩,_⟩=>?_⟩;simp only[aae,abw,Value.pointer.injEq,aa3,Addr.mk.injEq,Value.agg.injEq]at f1 f2;obtain⟨rfl,f1⟩:=f1;obtain⟨rfl,rfl⟩:=f2;have f1:=ab1 f1;subst f1;obtain⟨rfl,rfl⟩:=(A.ch i l).uniq d2;obtain rfl:=hd.uniq i2;have j:M.i 139=iy (cI p.h.c 0) (pD st i) p.h:=by rw[H];simpa using hv
 have G3:ai 137 J M:=Z.tr g3;obtain⟨z0,z1,z2,z3,z4,zr,N,z5⟩:=V M G3;refine⟨fun O=>out ?_,fun heq=>?_⟩
 .unfold cx;rw[aa8 k,hi,ab9 (by rw[<-j];exact O)];exact j
 have h0:¬iy (cI p.h.c 0) (pD st i) p.h≠0:=fun g=>g (j.symm.trans heq);rw[N,z3,z4];have P:aR (row.take 125) dz:=hd.ok;refine⟨⟨row.take 125,row.getD 125 ou,p.b,B,RG,by rw[<-f],rfl,P,hx.body,hx.byte,hlen,s⟩,fun Q g4 ⟨F4,o,_⟩=>?_⟩;have o:=o (row.take 125) (row.getD 125 ou) p.b B RG (by rw[<-f]) rfl hx.body;have w:Q.b 140=ef p.h.c p.b:=by rw[<-uV hd];exact Value.bool.inj o
 have G4:ai 137 J Q:=G3.tr g4;obtain⟨u0,u1,_⟩:=V Q G4;refine⟨fun hb=>out ?_,fun hb=>?_⟩
 .unfold cx;rw[aa8 k,hi,aa8 h0,ab9 (by rw[<-w];simpa using hb)];rfl
 have y:¬ef p.h.c p.b=false:=by rw[<-w,hb];decide
 rw[u0,u1,L];refine⟨rfl,fun r=>out ?_,fun r=>out ?_⟩
 .have r:400<=gF st:=r;unfold cx;rw[aa8 k,hi,aa8 h0,aa8 y,ab9 r];rfl
 .have r:¬400<=gF st:=r;unfold cx;rw[aa8 k,hi,aa8 h0,aa8 y,aa8 r];rfl
open Classical in
noncomputable def fU (st:Nat->List Pc) (p:Pc):Nat->List Pc:=if cx st p=0 then pE st (cI p.h.c 0-1).toNat (st (cI p.h.c 0-1).toNat++[p])else st
noncomputable def Ll:Sx.Spec where
 fn:=78
 own:=[.arg 0]
 rd:=[1001053,1001125,2000002]
 res:=[.one (.int .i64)]
 pre:=fun xs Hs Rs=>∃ x H st row T B RG p,xs=[.pointer (some ⟨x,0,none⟩),.agg row.toArray]/\Hs=[H]/\Rs=[T,B,RG]/\uZ H x st/\lL st/\cH T B row p/\p.b.length<=900000/\yT RG 2
 post:=fun xs Hs Rs v Hs' F=>∃ x H st row T B RG p H',xs=[.pointer (some ⟨x,0,none⟩),.agg row.toArray]/\Hs=[H]/\Rs=[T,B,RG]/\uZ H x st/\cH T B row p/\Hs'=[H']/\v=.int .i64 (cx st p)/\uZ H' x (fU st p)
def Qv:Nd:=(fun a g o m p k l=>(fun f c d h i=>(fun n=>(fun b j=>(.ext (.alloc 137) (.and (.pre d) (.ext d (.and (.imp (.not (.eq (.var 138) k)) (.post [.hp 133 [] o [],.ro 134 m false,.ro 135 l true,.ro 136 p false,.dead] (.sv (.one (.int .i64 (.var 138)))))) (.imp (.eq (.var 138) k) (.and (.e (.le k g)) (.and (.e (.le k a)) (.and (.e (.lt a (.lit 6))) (.and (.e (.his 133 g a 0 .ptr)) (.and (.pre c) (.ext c (.and (.imp (.not (.eq (.var 139) k)) (.post [.hp 139 [133] o [],.ro 134 m false,.ro 135 l true,.ro 136 p false,.dead] (.sv (.one (.int .i64 (.var 139)))))) (.imp (.eq (.var 139) k) (.and (.e (.his 139 g f 0 .slice)) (.and (.pre h) (.ext h (.ext (.alloc 145) (.and (.pre b) (.ext b (.and (.pre j) (.ext j (.and (.e (.his 148 g (.lit 12) 0 (.int .i64))) (.and (.pre i) (.ext i (.post [.hp 149 [148,146,139,133] [.var 146,.var 0] [],.ro 134 m false,.ro 135 l true,.ro 136 p false,.dead,.hp 141 [] [.var 141] [],.dead] (.sv (.one (.int .i64 k))))))))))))))))))))))))))):Nd)) (.app 146 22 1 24 (.sl (.hP 139 g f 0 0) (.hP 139 g f 0 1) n (.hP 139 g f 0 3)) n (.hp 139 [133] o []) (.cvs [.sl (.var 141) (.var 142) (.var 143) (.var 144)] 1)) (.put 148 146 g f [.sl (.var 146) k (.add n (.lit 1)) (.var 147)])) (.hP 139 g f 0 2)) (.add (.lit 6) a) (.call 1 139 [.sv (.one (.hptr (.hP 133 g a 0 0) (.hP 133 g a 0 1))),.sv (.agg (aj 1 bJ))] [.hp 133 [] o []] [.ro 134 m false,.ro 136 p false]) (.call 0 138 [.sv (.one (.hptr g k)),.sv (.agg (aj 1 Cu))] [] [.hp 133 [] o [],.ro 134 m false,.ro 135 l true,.ro 136 p false]) (.call 2 141 [.sv (.one (.sl (.var 129) (.var 130) (.var 131) (.var 132)))] [] [.ro 135 l true]) (.put 149 148 g (.lit 12) [.int .i64 (.wrap .i64 (.add (.hI 148 g (.lit 12) 0) (.lit 1)))])) (.wrap .i64 (.sub (.var 1) (.lit 1))) (.var 0) [.var 0] [.var 54] [.lit 2] (.lit 0) [.var 129]
noncomputable def Ze (K R:Hl):List Sx.Spec:=[AP,Ej FK K R,gI]
def XG (K R:Hl):∀ t∈Ze K R,t.OK Tryz.prog:=ak Gu <| ak (M8 rfl Pt K R) <| ak mC <| bu
def adW (K R:Hl):(Ze K R)[0]?=some AP:=rfl
def adX (K R:Hl):(Ze K R)[1]?=some (Ej FK K R):=rfl
def adY (K R:Hl):(Ze K R)[2]?=some gI:=rfl
def aaO:AP.res=[.one (.int .i64)]:=rfl
def adZ (K R:Hl):(Ej FK K R).res=[.one (.int .i64)]:=rfl
def aaP:gI.res=[.one .sl]:=rfl
def uA {st:Nat->List Pc} {p:Pc} (h:cx st p=0):p.h.Form/\iy (cI p.h.c 0) (pD st (cI p.h.c 0-1).toNat) p.h=0/\ef p.h.c p.b=true/\gF st<400:=by
 unfold cx at h;split at h
 .cases h
 .rename_i a;split at h
  .rename_i hn;exact absurd h hn
  .rename_i d;split at h
   .cases h
   .rename_i hw;split at h
    .cases h
    .rename_i e;exact⟨af6.1 a,af6.1 d,by simpa using hw,ah⟩
noncomputable def Gx (K R:Hl):aD Tryz.prog (Ze K R) Ll.fn where
 Λ:=aA
 args:=TP (.var 0) (.lit 0)::(bQ 1 [.agg Cu]).map .sv
 mem:=[.hp 133 [] [.var 0] [],.ro 134 [.var 54] false,.ro 135 [.var 129] true,.ro 136 [.lit 2] false]
 nv:=137
set_option maxRecDepth 20000 in
def Qw:Ll.OK Tryz.prog:=by
 refine Spec.Uj fun xs Hs Rs ⟨x,H,st,row,T,B,RG,p,ex,eH,eR,hI,hS,hx,hlen,z⟩=>?_;obtain⟨a,sv,Kc,KB,m⟩:=id hI;generalize hi:(cI p.h.c 0-1).toNat=i;refine Spec.cM (Γ:=Ze (Kc i) (H.minus (Kc i))) (XG _ _) ?_;rintro aG Hs' aH aI aK ⟨e1,e2,e3⟩;subst e1 e2 e3 ex eH eR;obtain⟨J,va,rfl,hh,Q⟩:=EJ (a:=(x:Int)) [(133,H),(134,T),(135,B),(136,RG)] hx.ok;have w1:J.h 133=H:=hh 133;have w2:J.h 134=T:=hh 134;have w3:J.h 135=B:=hh 135;have w4:J.h 136=RG:=hh 136;refine⟨Gx _ _,J,fun _ _=>True,fun _ _=>0,?_,⟨?_,?_,?_,?_⟩,(fun _ h=>nomatch h),?_⟩
 .show [Value.pointer (au (J.i 0) 0),.agg ((aj 1 fI).map (CV.ev J)).toArray]=_;rw[va,av ah];rfl
 .intro r hr ho;simp [Gx]at hr;rcases hr with rfl | rfl | rfl | rfl
  .exact⟨H,aC,by show(J.h 133).le H;rw[w1];exact Hl.le_refl _⟩
  all_goals cases ho
 .intro r hr ho;simp [Gx]at hr;rcases hr with rfl | rfl | rfl | rfl
  .cases ho
  .exact⟨T,aC,by show(J.h 134).le T;rw[w2];exact Hl.le_refl _⟩
  .exact⟨B,aC,by show(J.h 135).le B;rw[w3];exact Hl.le_refl _⟩
  .exact⟨RG,aC,by show(J.h 136).le RG;rw[w4];exact Hl.le_refl _⟩
 .simp [Gx,bo.own]
 .intro r hr;simp [Gx]at hr;rcases hr with rfl | rfl | rfl | rfl<;>trivial
 refine aD.lit (x:=Qv) ?_;unfold Qv;simp only[Nd.holds,X.pre,X.rel,X.n,Src.ok,Src.len,Src.iX,acu,abw,afm,afB,acJ,Nat.reduceAdd,acn,acO,tH,tE,kc,lh,jv,tG,nR,nu,nq,ik,nN,nS,tF,nP,nO,ke,nQ,aq,ar,bP,dZ,cN,bL,dY,fi,fC,fT,jJ,gy,iP,fW,TV.ev,SV.ev,CV.ev,abW,acI,bo.hl,jO,Cp.sv,Ck.cv,bQ,Cp.len,Ck.len,gm,ia,jF,adW,adX,adY,aaO,adZ,aaP,Om];generalize f:(aj 1 fI).map (CV.ev J)=row at *;have R:(aj 1 bJ).map (CV.ev J)=row.take 125:=by rw[<-f,sN]
 have ab:Value.slice (au (J.i 129) (J.i 130)) (J.i 131).toNat (J.i 132).toNat=row.getD 125 ou:=by rw[<-f,EI]
 have V:∀ q:Env,ai 137 J q->q.i 0=x/\q.h 133=H/\q.h 134=T/\q.h 135=B/\q.h 136=RG/\(aj 1 bJ).map (CV.ev q)=row.take 125/\(aj 1 Cu).map (CV.ev q)=row/\q.i 1=J.i 1/\Value.slice (au (q.i 129) (q.i 130)) (q.i 131).toNat (q.i 132).toNat=row.getD 125 ou:=fun q g=>by
  refine⟨by rw[g.i 0,va],by rw[g.h 133,w1],by rw[g.h 134,w2],by rw[g.h 135,w3],by rw[g.h 136,w4],?_,?_,g.i 1,?_⟩
  .rw[<-R];exact ach Array.toList (Value.agg.inj (fQ (ks:=bJ) (n:=1) g az))
  .rw[<-f];exact ach Array.toList (Value.agg.inj (fQ (ks:=fI) (n:=1) g az))
  .rw[g.i 129,g.i 130,g.i 131,g.i 132];exact ab
 have hd:=hx.hd;have ad:cI p.h.c 0=J.i 1:=by
  have e1:cI p.h.c 0=cI (row.take 125) 0:=hd.I az;rw[e1,<-R];rfl
 have ep:Value.pointer (au (x:Int) 0)=.pointer (some ⟨x,0,none⟩):=by rw[av ah];rfl
 intro q1 g1 p1;obtain⟨v0,x1,x2,x3,x4,xr,ae,_,_⟩:=V q1 g1;rw[v0,ep,ae,x1,x2,x3,x4];refine⟨⟨x,H,st,_,T,B,RG,p,rfl,rfl,hI.rd,hS,hx,hlen,z⟩,fun q2 g2 ⟨F2,af,_⟩=>?_⟩;have o:q2.i 138=cx st p:=by simpa using af _ _ _ _ _ _ _ _ rfl rfl hI.rd hx
 have G2:ai 137 J q2:=g1.tr g2;obtain⟨y0,y1,y2,y3,y4,yr,aL,y5,_⟩:=V q2 G2;refine⟨fun D _=>?_,fun heq=>?_⟩
 .refine⟨[[0]],[],rfl,rfl,⟨(ba fun _=>q2.i 138),rfl,zzT,zzT⟩,x,H,st,_,T,B,RG,p,_,rfl,rfl,rfl,hI,hx,rfl,by rw[<-o];rfl,?_⟩;unfold fU;rw[aa8 (by rw[<-o];exact D)];show uZ (bY [q2.h 133]) _ _;rw[aJ,y1];exact hI
 obtain⟨hF,ha0,_,aF⟩:=uA (o.symm.trans heq);have hw:=Eh hF;rw[hi]at ha0;have E:IntKind.i64.wrap (J.i 1-1)=((i:Nat):Int):=by rw[IntKind.wrap_i64];rw[ad]at hw hi;omega
 have d:i<6:=ah;have ag:cI p.h.c 0=((i+1:Nat):Int):=ah;rw[ag]at ha0;have F:=m.nox i d;obtain⟨c1,c2,c3⟩:=(show We H x st a sv from ⟨m.bc,fun j hj=>⟨Kc j,m.le j hj,m.ch j hj⟩,fun j hj=>by
  obtain⟨us,h1,h2⟩:=m.row j hj;exact⟨us,h1,fun k u q hu hq=>jE (h2 k u q hu hq) m.kb⟩⟩).cells d
 have ak:H.cell ((x:Int)).toNat (Int.toNat ((i:Nat):Int))=some (.pointer (some ⟨a i,0,none⟩)):=by rw[aac,aac];exact c1
 have G:(pD st i).length<1000000:=by unfold pD;rw[aca];exact hS i d
 rw[y0,y1,y2,y4,y5,yr,E,ak,jX];refine⟨ah,ah,ah,rfl,⟨by rw[Hl.QO (m.le i d)],Hl.C4 _ _,a i,Kc i,_,_,_,T,RG,p.h,rfl,rfl,rfl,m.ch i d,G,hd,z⟩,fun s g3 ⟨F3,⟨K',k1,k2,k3,a',K2,w',hs',row',T',aM,h',aN,f1,f2,f3,d2,i2,f4,hv,hok,aP⟩,_⟩=>?_⟩;simp only[aae,abw,Value.pointer.injEq,aa3,Addr.mk.injEq,Value.agg.injEq]at f1 f2 f3 f4 k1;obtain⟨rfl,f1⟩:=f1;obtain⟨rfl,rfl⟩:=f3;have f1:=ab1 f1;subst f1 f2 f4;obtain⟨rfl,rfl⟩:=cC.uniq ⟨Kc i,Hl.le_refl _,m.ch i d⟩ ⟨_,Hl.le_refl _,d2⟩;obtain rfl:=hd.uniq i2;have K:s.i 139=0:=by rw[<-ha0];simpa using hv
 have al:=hok ha0;have G3:ai 137 J s:=G2.tr g3;obtain⟨z0,z1,z2,z3,z4,zr,aQ,z5,zb⟩:=V s G3;refine⟨fun D=>absurd K D,fun _=>?_⟩;have lR:(H.minus (Kc i)).le (s.h 139):=by rw[k1];exact Hl.bg k2
 have xR:(H.minus (Kc i)) x=some (.cells (Fs a sv (gF st)).toArray 163 (0,0)):=by
  unfold Hl.minus;have F:¬((Kc i) x).isSome=true:=F;rw[aa8 F];exact m.bc
 have L:∀ q:Env,q.i 0=x->q.i 1=J.i 1->q.h 139=s.h 139->(q.h 139).cell (q.i 0).toNat (6+IntKind.i64.wrap (q.i 1-1)).toNat=some (sv i):=fun q h1 h2 h3=>by
  rw[h1,h2,h3,E,aac,show(6+((i:Nat):Int)).toNat=6+i by omega];have:=(Lo a sv (gF st) d).2;unfold Hl.cell;rw[lR _ _ xR];simpa using this
 obtain⟨us,ho,aR⟩:=m.row i d;have S:∃ p l c,sv i=Value.slice p l c:=by
  rcases ho.2 with ⟨h,_⟩ | ⟨_,_,_,h,_⟩<;>exact⟨_,_,_,h⟩
 have A:bD (some (sv i)) 2=(st i).length:=by
  rcases ho.2 with ⟨h,hn⟩ | ⟨_,_,_,h,_⟩
  .rw[h,hn];rfl
  .rw[h];rfl
 have an:bh (some (sv i)) .slice=true:=by obtain⟨_,_,_,e⟩:=S;rw[e];rfl
 rw[L s z0 z5 rfl,zb,z3];refine⟨an,⟨_,p.b,B,rfl,rfl,hx.body,ah⟩,fun q4 g4 ⟨F4,⟨u',bs',R',m1,m2,m3,m4⟩,ao,aS⟩ y M p5=>?_⟩;simp only[aae,abw]at m1 m2;subst m1 m2;obtain rfl:=hx.body.uniq m3;rw[<-ao zzT]at m4;have G5:ai 139 s y:=g4.mono.tr M;have aw:ai 137 J y:=G3.tr G5;obtain⟨s0,s1,s2,s3,s4,sr,sr2,s5,sb⟩:=V y aw;have t:y.h 139=s.h 139:=by rw[M.h 139,g4.h 139]
 rw[L y s0 s5 t,iH S,A,t,k1,aac];have ax:aO (K'.un (H.minus (Kc i))) 22 1 (sv i) (st i).length us:=ho.at fun b hb=>by
  obtain⟨c,U⟩:=ho.type hb;have N:=((m.own i b d hb).2 i d).1;have:(H.minus (Kc i)) b=H b:=by
   unfold Hl.minus;have N:¬((Kc i) b).isSome=true:=N;rw[aa8 N]
  rw[Hl.bg k2 b _ (this.trans U),U]
 have aT:=hS i d;refine⟨⟨⟨us,ax⟩,ah,by unfold maxLen;omega,ah⟩,fun v g6 ⟨a1,a2,happ,W,_,Q⟩=>?_⟩;have G6:ai 139 s v:=G5.tr g6;obtain⟨t0,t1,t2,t3,t4,tr,tr2,t5,tb⟩:=V v (G3.tr G6);have O:v.h 139=s.h 139:=by rw[g6.h 139,t]
 have Y:(v.h 146) x=some (.cells (Fs a sv (gF st)).toArray 163 (0,0)):=by
  have e1:=Hl.bg k2 x _ xR;rw[W x (Hl.mem_of e1) fun e=>?_,e1];obtain⟨c,U⟩:=ho.type e.symm;rw[m.bc]at U;simp at U
 have en:(((st i).length:Int)+1).toNat=(st i).length+1:=ah;have ay:(6+((i:Nat):Int)).toNat=6+i:=ah;rw[L v t0 t5 O,A,en,t0,t5,E,ay,aac];refine⟨⟨ah,ah,jM Y (by show 6+i+1<=13;omega)⟩,fun q7 g7 p7=>?_⟩;have G7:ai 139 s q7:=G6.tr g7;obtain⟨r0,_⟩:=V q7 (G3.tr G7);have Z:(q7.h 148) x=some (.cells (Fs a (pE sv i (.slice (au (v.i 146) 0) ((st i).length+1) (v.i 147).toNat)) (gF st)).toArray 163 (0,0)):=by
  rw[p7,Hl.rH Y];simp only[af0];rw[QA _ _ _ _ d]
 have aA:(q7.h 148).cell ((x:Int)).toNat (Int.toNat 12)=some (.int .i64 (gF st)):=by
  rw[aac];unfold Hl.cell;rw[Z];rfl
 rw[r0,aA];have aU:0<=gF st:=ad7 _;have aB:IntKind.i64.wrap (bO (some (Value.int .i64 (gF st)))+1)=gF st+1:=by
  show IntKind.i64.wrap (gF st+1)=_;rw[IntKind.wrap_i64];omega
 rw[aB,aac];refine⟨rfl,⟨ah,ah,jM Z (by show 12+1<=13;omega)⟩,fun P g8 p8=>?_⟩;intro aa;have hGB:(P.h 149).bq (P.h 141):=aa 0 5 _ _ az rfl rfl rfl;have C:P.h 141=q4.h 141:=by rw[g8.h 141,g7.h 141,g6.h 141,M.h 141]
 have e8:P.h 149=((v.h 146).put x (6+i) [.slice (au (v.i 146) 0) ((st i).length+1) (v.i 147).toNat]).put x 12 [.int .i64 (gF st+1)]:=by rw[p8,p7];rfl
 rw[e8,C]at hGB;have aE:fE (q4.h 141) (.slice (au (y.i 141) (y.i 142)) (y.i 143).toNat (y.i 144).toNat) p.b:=by
  rw[M.i 141,M.i 142,M.i 143,M.i 144];exact m4.rd.w
 have key:=m.put d k2 al aE a1 happ W Q hGB;have e0:cx st p=0:=o.symm.trans heq;refine⟨[[0,5]],[],rfl,rfl,⟨(ba fun _=>0),rfl,zzT,zzT⟩,x,H,st,_,T,B,RG,p,_,rfl,rfl,rfl,hI,hx,rfl,by rw[e0];rfl,?_⟩;unfold fU;rw[ab9 e0,hi];show uZ (bY [P.h 149,P.h 141]) _ _;rw[km,e8,C];exact⟨_,_,_,_,key⟩
def vY {q:Env} : ∀ {a b:List Ck} {n:Nat},bZ n a q->bZ (n+aQ a) b q->bZ n (a++b) q
 | [],b,n,_,h=>by simpa [aQ] using h
 | k::a,b,n,h,c=>⟨h.1,vY h.2 (by rw[show n+k.len+aQ a=n+aQ (k::a)by simp [aQ];omega];exact c)⟩
def X2 (h:ir (n+53) q .sl):bZ n bJ q:=by
 have e:bJ=([i64,.int .u64]++List.replicate 32 (.int .u8)++[i64,.bool,.int .u64]++List.replicate 16 (.int .u8))++([.sl]++(List.replicate 6 (.int .u64)++List.replicate 32 (.int .u8)++[i64]++List.replicate 32 (.int .u8))):=rfl;rw[e];exact vY (cf _ _ _ rfl) (vY ⟨h,zzT⟩ (cf _ _ _ rfl))
set_option maxRecDepth 20000 in
def Q1 (h:ir (n+53) q .sl) (a:ir (n+128) q .sl):bZ n fI q:=vY (X2 h) ⟨a,zzT⟩
def Good (st:Nat->List Pc):Prop:=∀ i,i<6->∀ p∈st i,al p.b/\p.b.length<=1000000
def Gv:Sx.Spec where
 fn:=107
 own:=[]
 rd:=[0]
 res:=[.agg fI,.one (.int .i64)]
 pre:=fun xs Hs Rs=>∃ x R st n s,xs=[.pointer (some ⟨x,0,none⟩),.int .i64 n,.int .u64 s]/\Rs=[R]/\oy R x st/\lL st/\Good st/\(0<=s/\s<18446744073709551616)
 post:=fun xs Hs Rs v Hs' F=>∃ x R st n s,xs=[.pointer (some ⟨x,0,none⟩),.int .i64 n,.int .u64 s]/\Rs=[R]/\oy R x st /\
  (((1<=n/\n<=6)/\(1<=s/\s<=(st (n-1).toNat).length)/\∃ row p,(st (n-1).toNat)[(s-1).toNat]?=some p/\v=.tuple #[.agg row.toArray,.int .i64 0]/\cH F F row p)\/(¬((1<=n/\n<=6)/\1<=s/\s<=(st (n-1).toNat).length)/\∃ u,v=.tuple #[u,.int .i64 11]))
def aff:List CV:=[.int .i64 (.lit 0),.int .u64 (.lit 0)]++List.replicate 32 (CV.int .u8 (.lit 0))++[.int .i64 (.lit 0),.bool .ff,.int .u64 (.lit 0)]++List.replicate 16 (CV.int .u8 (.lit 0))++[.sl (.lit (-1)) (.lit 0) (.lit 0) (.lit 0),.int .u64 (.lit 0),.int .u64 (.lit 0),.int .u64 (.lit 0),.int .u64 (.lit 0),.int .u64 (.lit 0),.int .u64 (.lit 0)]++List.replicate 32 (CV.int .u8 (.lit 0))++[.int .i64 (.lit 0)]++List.replicate 32 (CV.int .u8 (.lit 0))++[.sl (.lit (-1)) (.lit 0) (.lit 0) (.lit 0)]
def igΓ:List Sx.Spec:=[MP,gI]
def XC:∀ t∈igΓ,t.OK Tryz.prog:=ak KK <| ak mC <| bu
def aaN:aD Tryz.prog igΓ Gv.fn where
 Λ:=aA
 args:=[TP (.var 0) (.lit 0),TI .i64 (.var 1),.sv (.one (.int .u64 (.var 2)))]
 mem:=[.ro 3 [.var 0] true]
 nv:=4
set_option maxRecDepth 20000 in
def Eo {x:Nat} {n:Int} {R:Hl} {st:Nat->List Pc} (hI:oy R x st) (a:¬((1<=n/\n<=6)/\1<=s/\s<=(st (n-1).toNat).length)) {mem:Mem} : postOf Gv [.pointer (some ⟨x,0,none⟩),.int .i64 n,.int .u64 s] [] [R] q mem (.tup [.agg aff,.one (.int .i64 (.lit 11))]):=by
 intro _;exact⟨[],[],rfl,rfl,⟨(ba fun k=>if k=53 then -1 else if k=128 then -1 else if k=132 then 11 else 0),rfl,⟨Q1 ⟨az,az,az,az⟩ ⟨az,az,az,az⟩,zzT,zzT⟩⟩,x,R,st,n,s,rfl,rfl,hI,Or.inr ⟨a,_,rfl⟩⟩
set_option maxRecDepth 20000 in
def Qr:Gv.OK Tryz.prog:=by
 refine Spec.jN (Γ:=igΓ) XC rfl ?_;rintro xs Rs ⟨x,R,st,n,s,rfl,rfl,hI,hS,hG,hs⟩;refine⟨aaN,aM [x,n,s] false [Hl.none,Hl.none,Hl.none,R],fun _ _=>True,fun _ _=>0,?_,aT rfl rfl,rfl,?_⟩
 .show [Value.pointer (au (x:Int) 0),.int .i64 n,.int .u64 s]=_;rw[av ah];rfl
 refine aD.read [bJ] [] [] ?_;generalize E:aM [(x:Int),n,s] false [Hl.none,Hl.none,Hl.none,R]=J;have V:∀ q:Env,ai 4 J q->q.i 0=x/\q.i 1=n/\q.i 2=s/\q.h 3=R:=fun q g=>by
  rw[g.i 0,g.i 1,g.i 2,g.h 3,<-E];exact⟨rfl,rfl,rfl,rfl⟩
 clear E;simp only[go_sem,Nat.reduceAdd,igΓ,Z9,Z8,aaP,Om];obtain⟨a,sv,L⟩:=id hI;intro q1 g1 p1;obtain⟨v0,v1,v2,w3⟩:=V q1 g1;rw[v0,v1,v2,w3];refine⟨fun h1=>⟨fun h6=>Eo hI ah,fun h6=>?_⟩,fun h1=>Eo hI ah⟩;obtain⟨i,hi⟩:∃ i:Nat,n-1=i:=⟨(n-1).toNat,ah⟩;have j:i<6:=ah;have z:(n-1).toNat=i:=ah;have hw:IntKind.i64.wrap (n-1)=((i:Nat):Int):=by rw[IntKind.wrap_i64];omega
 obtain⟨c1,c2,_⟩:=L.cells j;have M:R.cell ((x:Int)).toNat (Int.toNat ((i:Nat):Int))=some (.pointer (some ⟨a i,0,none⟩)):=by rw[aac,aac];exact c1
 have hlen:(pD st i).length<1000000:=by unfold pD;rw[aca];exact hS i j
 rw[hw,M,jX];refine⟨ah,ah,ah,rfl,⟨a i,R,_,_,s,rfl,rfl,L.ch i j,hs,hlen⟩,fun q2 g2 ⟨F2,⟨a',R',w',hs',s',f1,f2,d2,r⟩,N,O⟩ q3 g3 p3=>?_⟩;simp only[aae,abw,Value.pointer.injEq,aa3,Addr.mk.injEq,Value.int.injEq,acu]at f1 f2;obtain⟨rfl,rfl⟩:=f1;subst f2;obtain⟨rfl,rfl⟩:=(L.ch i j).uniq d2;have hl:(pD st i).length=(st i).length:=by unfold pD;rw[aca]
 have P:q3.b 133=q2.b 133:=g3.b 133;rw[P];refine⟨fun hb=>?_,fun hb=>?_⟩
 .rcases r with ⟨m1,m2,row',h',y,ev,o⟩ | ⟨A,u,ev⟩
  .simp only[Value.tuple.injEq,acp,aae,Value.bool.injEq,abw]at ev;exact absurd ev.2 hb
  .exact Eo hI (by rw[z];rw[hl]at A;exact fun g=>A g.2)
 rcases r with ⟨m1,m2,row',h',y,ev,o⟩ | ⟨A,u,ev⟩
 rotate_left
 .simp only[Value.tuple.injEq,acp,aae,Value.bool.injEq,abw]at ev;exact absurd (ev.2.symm.trans hb) az
 simp only[Value.tuple.injEq,acp,aae,Value.bool.injEq,abw,Value.agg.injEq]at ev;have er:=ev.1;rw[<-N zzT]at o;rw[hl]at m2;obtain⟨us,ho,Q⟩:=L.row i j;have S:(s-1).toNat<(st i).length:=ah;have hp:(st i)[(s-1).toNat]?=some (st i)[(s-1).toNat]:=aad S;have T:(s-1).toNat<us.length:=by have:=ho.1;omega
 have hu:us[(s-1).toNat]?=some us[(s-1).toNat]:=aad T;have f:=Q _ _ _ hu hp;obtain⟨g,cap,cur,hv,hg,hle,ad,hsz,ht⟩:∃ g cap cur,sv i=.slice (some ⟨g,0,none⟩) (st i).length cap/\R g=some (.cells cur 22 (0,0))/\(st i).length<=cap/\cap<=maxLen/\cur.size=cap*1/\cur.toList.take ((st i).length*1)=us:=by
  rcases ho.2 with ⟨_,hn⟩ | h
  .omega
  .exact h
 have U:R.cell ((g:Int)).toNat (0+(s-1)).toNat=some us[(s-1).toNat]:=by
  rw[aac,Int.zero_add];unfold Hl.cell;rw[hg];rw[<-hu,<-ht,acC,ab9 ah,agd]
 obtain⟨y0,y1,y2,y3⟩:=V q3 (g1.trans (g2.mono.tr g3));have W:R.cell ((x:Int)).toNat (6+((i:Nat):Int)).toNat=some (.slice (some ⟨g,0,none⟩) (st i).length cap):=by
  rw[aac,show(6+((i:Nat):Int)).toNat=6+i by omega,c2,hv]
 have X:IntKind.u64.wrap (s-1)=s-1:=by rw[IntKind.wrap_u64];omega
 have k0:bD (some (Value.slice (some ⟨g,0,none⟩) (st i).length cap)) 0=(g:Int):=rfl;have k1:bD (some (Value.slice (some ⟨g,0,none⟩) (st i).length cap)) 1=0:=rfl;have k2:bD (some (Value.slice (some ⟨g,0,none⟩) (st i).length cap)) 2=(st i).length:=rfl;obtain⟨x5,y5,ae,e5,_⟩:=id f;have F:∃ p l c,us[(s-1).toNat]=Value.slice p l c:=⟨_,_,_,e5⟩;rw[y0,y1,y2,y3,hw,W,X,k0,k1,k2,U,iH F];have B:=hG i j _ (aah hp);refine⟨rfl,ah,ah,ah,by rw[e5];rfl,⟨_,_,R,rfl,rfl,f,B.2⟩,fun d g4 ⟨F4,⟨u',bs',R',z1,z2,z3,Y⟩,Z,aa⟩ G=>?_⟩;simp only[aae,abw]at z1 z2;subst z1 z2;obtain rfl:=f.uniq z3;rw[<-Z zzT]at Y;have hGB:(d.h 5).bq (d.h 135):=G 2 4 _ _ az rfl rfl rfl;have D:ai 134 q2 d:=g3.mono.tr g4;have H:(aj 5 bJ).map (CV.ev d)=row':=(ach Array.toList (Value.agg.inj (fQ (ks:=bJ) (n:=5) (m:=134) D az))).trans er;have ab:∃ sl,sl=Value.slice (au (d.i 135) (d.i 136)) (d.i 137).toNat (d.i 138).toNat:=⟨_,rfl⟩;obtain⟨sl,C⟩:=ab;rw[<-C]at Y;have aG:aR (row'++[sl]) oj:=by
  have:oj=dz++[Kd.slice]:=rfl;rw[this];exact pf o.ok (by rw[C];rfl)
 have t:row'.length=125:=fV o.ok;have h5:d.h 5=q2.h 5:=D.h 5;have I:ir 58 d .sl:=by
  have hh:=O.1;have e:bJ=(([i64,.int .u64]:List Ck)++List.replicate 32 (.int .u8)++[i64,.bool,.int .u64]++List.replicate 16 (.int .u8))++([Ck.sl]++(List.replicate 6 (.int .u64)++List.replicate 32 (.int .u8)++[i64]++List.replicate 32 (.int .u8))):=rfl;have sp:∀ (a b:List Ck) (n:Nat),bZ n (a++b) q2->bZ (n+aQ a) b q2:=by
   intro a
   induction a with
   | nil=>intro b n h;simpa [aQ] using h
   | cons k a ih=>intro b n h;have:=ih b _ h.2;rw[show n+k.len+aQ a=n+aQ (k::a)by simp [aQ];omega]at this;exact this
  have hh:bZ 5 bJ q2:=hh;rw[e]at hh;obtain⟨n1,n2,n3,n4⟩:=(sp _ _ _ hh).1;have n1:-1<=q2.i 58:=n1;have n2:0<=q2.i 59:=n2;have n3:0<=q2.i 60:=n3;have n4:0<=q2.i 61:=n4;exact⟨by rw[D.i 58];exact n1,by rw[D.i 59];exact n2,by rw[D.i 60];exact n3,by rw[D.i 61];exact n4⟩
 have K:ir 135 d .sl:=aa.1;have ph:(st i)[(s-1).toNat].h=h':=by
  unfold pD at y;rw[abl,hp]at y;simpa using y
 refine⟨[],[2,4],rfl,rfl,⟨⟨fun k=>if k<128 then d.i (k+5)else if k<132 then d.i (k+7)else 0,fun k=>d.b (k+5),d.s,d.v,d.h⟩,rfl,⟨Q1 I K,zzT,zzT⟩⟩,x,R,st,n,s,rfl,rfl,hI,Or.inl ⟨⟨ah,ah⟩,⟨ah,by rw[z];omega⟩,row'++[sl],(st i)[(s-1).toNat],by rw[z];exact hp,?_,?_⟩⟩
 .show Value.tuple #[.agg ((aj 5 bJ++[CV.sl (.var 135) (.var 136) (.var 137) (.var 138)]).map (CV.ev d)).toArray,.int .i64 0]=_;rw[acm,H,C];rfl
 .show cH (bY [d.h 5,d.h 135]) (bY [d.h 5,d.h 135]) _ _;rw[km];refine⟨aG,?_,?_,B.1,B.2⟩
  .rw[afU t,ph];rw[<-h5]at o;exact o.mono (Hl.aV _ _)
  .have:(row'++[sl]).getD 125 ou=sl:=by rw[abv,abO ah,t];rfl
   rw[this];exact jE Y.rd.w (Hl.bg hGB)
open RowKit
variable {a:Act}{I:List Pc->World->Prop}{N dn i k n:Nat}{y:Value}{W W0 w:World}
def ZN:List Sx.Spec:=[Gv]
def WE:∀ t∈ZN,t.OK Tryz.prog:=fun t a=>by
 simp only[ZN,aaW,abd,acs]at a;subst a;exact Qr
noncomputable def fG:fz Tryz.prog ZN where
 cs:=bhL
 st:=ZL
 outs:=ZK
def adh:Gv.res=[.agg fI,.one (.int .i64)]:=rfl
structure BhR (R:Hl) (b1 b2 x:Nat) (st:Nat->List Pc) (cv:Nat->Int):Prop where
 c1:R.cell b1 0=some (.pointer (some ⟨x,0,none⟩))
 c2:∀ i,i<6->R.cell b2 i=some (.int .u64 (cv i))
 rng:∀ i,i<6->0<=cv i/\cv i<18446744073709551616
 ix:oy R x st
 sh:lL st
 gd:Good st
set_option maxRecDepth 20000 in
def WD {R:Hl} {b1 b2 x:Nat} {st:Nat->List Pc} {cv:Nat->Int} (h:BhR R b1 b2 x st cv) {s:Bool} (hi:i<6) (hk:k<=2000000) (hA:dg y b1 b2 a (some (k+1)) (some s) (some i)) (T:R.sub W) :
 yY (FW none) dn Tryz.prog (fun e a' W'=>(e=.exit 3/\(st i)[iS cv i+k]?=none/\dg y b1 b2 a' (some (k+1)) (some s) (some i)/\gX (fun _=>False) W W') \/
  (e=.normal/\∃ p g row F,(st i)[iS cv i+k]?=some p/\dg y b1 b2 a' (some (k+1)) (some true) (some i)/\a'.tmps[7]?=some (.pointer (some ⟨g,0,none⟩))/\fq W W' [] [] F/\F g=some (.cells row.toArray 40 (0,0))/\cH F F row p)) bhL a W:=by
 have C:fG.plain=true\/(none:Option Nat)=none:=Or.inr rfl;refine iL ?_ (fz.sound (Γ:=ZN) WE fG C (Hs:=[]) (Rs:=[R]) (J:=M1 [b1,b2,k+1,0,i] s y R) (inv:=fun _ _=>True) (mu:=fun _ _=>0)
  (R:=fun v _ F=>(v=U0 y b1 b2 (.exit 3) (k+1) s i/\(st i)[iS cv i+k]?=none)\/∃ p g row,(st i)[iS cv i+k]?=some p/\v=.tuple #[.int .i64 0,y,.pointer (au (b1:Int) 0),.pointer (au (b2:Int) 0),.int .u64 (k+1),.bool true,.pointer (au ((g:Nat):Int) 0),.int .i64 i]/\F g=some (.cells row.toArray 40 (0,0))/\cH F F row p)
  aC (by simpa using T) aC (I2 (by intro r hr;simp [fG,ZL]at hr;subst hr;exact⟨_,_,_,rfl⟩) rfl) hA.sz hA.df ?_ (fun _ h=>(nomatch h)) ?_)
 .rintro e a' W' ⟨t,vs,Hs',F,rfl,hsz,m,hm,hT,hp⟩;have e0:Hs'=[]:=aa1.1 hT.len;subst e0;rcases hp with ⟨hv,o⟩ | ⟨p,g,row,hp,hv,hg,hP⟩
  .unfold U0 at hv;rw[av ah,av ah]at hv;simp only[Value.tuple.injEq,acp,aae,Value.int.injEq,acu]at hv;obtain⟨z,rfl⟩:=hv;obtain rfl:=kY z;have hm:[a'.tmps[0]?,a'.tmps[1]?,a'.tmps[2]?,a'.tmps[4]?,a'.tmps[5]?,a'.tmps[11]?]=_:=hm;simp only[abW,acI,aae,abw]at hm;obtain⟨D,m1,m2,E,G,f⟩:=hm;exact Or.inl ⟨rfl,o,⟨hsz.trans hA.sz,m,D,m1,m2,fun x hx=>by cases hx;exact E,fun x hx=>by cases hx;exact G,fun x hx=>by cases hx;exact f⟩,hT.qU⟩
  .rw[av ah,av ah,av ah]at hv;simp only[Value.tuple.injEq,acp,aae,Value.int.injEq,acu]at hv;obtain⟨z,rfl⟩:=hv;obtain rfl:t=.norm:=kY z;have hm:[a'.tmps[0]?,a'.tmps[1]?,a'.tmps[2]?,a'.tmps[4]?,a'.tmps[5]?,a'.tmps[7]?,a'.tmps[11]?]=_:=hm;simp only[abW,acI,aae,abw]at hm;obtain⟨D,m1,m2,E,G,U,f⟩:=hm;exact Or.inr ⟨rfl,p,g,row,F,hp,⟨hsz.trans hA.sz,m,D,m1,m2,fun x hx=>by cases hx;exact E,fun x hx=>by cases hx;exact G,fun x hx=>by cases hx;exact f⟩,U,hT,hg,hP⟩
 .intro t v z;have:=uU (l:=[(0,.sv (.one (.vr 0))),(1,.sv (.one (.hptr (.var 0) (.lit 0)))),(2,.sv (.one (.hptr (.var 1) (.lit 0)))),(4,.sv (.one (.int .u64 (.var 2)))),(5,.sv (.one (.bool (.bvar 3)))),(11,.sv (.one (.int .i64 (.var 4))))]) z;simp only[aaW,abd,acs,acx]at this;rcases this with ⟨rfl,rfl⟩ | ⟨rfl,rfl⟩ | ⟨rfl,rfl⟩ | ⟨rfl,rfl⟩ | ⟨rfl,rfl⟩ | ⟨rfl,rfl⟩
  .exact hA.t0
  .exact hA.t1.trans (by show _=some (Value.pointer (au (b1:Int) 0));rw[av ah];rfl)
  .exact hA.t2.trans (by show _=some (Value.pointer (au (b2:Int) 0));rw[av ah];rfl)
  .exact hA.t4 _ rfl
  .exact hA.t5 _ rfl
  .exact hA.t11 _ rfl
 refine fz.read [fI] [] [] ?_;generalize A:M1 [(b1:Int),b2,k+1,0,i] s y R=J;have V:∀ q:Env,ai 11 J q->q.i 0=b1/\q.i 1=b2/\q.i 2=k+1/\q.i 4=i/\q.b 3=s/\q.v 0=y/\q.h 10=R:=fun q g=>by
  rw[g.i 0,g.i 1,g.i 2,g.i 4,g.b 3,g.v 0,g.h 10,<-A];exact⟨rfl,rfl,rfl,rfl,rfl,rfl,rfl⟩
 clear A;simp only[go_sem,Nat.reduceAdd,ZN,adh];obtain⟨v0,v1,v2,v4,_,_,w⟩:=V J (ai.refl _ _);have hr:=h.rng i hi;have c1:R.cell ((b1:Int)).toNat (Int.toNat 0)=some (.pointer (some ⟨x,0,none⟩)):=by rw[aac];exact h.c1
 have c2:R.cell ((b2:Int)).toNat (((i:Nat):Int)).toNat=some (.int .u64 (cv i)):=by rw[aac,aac];exact h.c2 i hi
 rw[v0,v1,v2,v4,w,c1,c2,jX];have H:(if 1048576<bO (some (Value.int .u64 (cv i)))then 1048576 else bO (some (Value.int .u64 (cv i))))=((iS cv i:Nat):Int):=by
  show(if 1048576<cv i then 1048576 else cv i)=_;unfold iS;split<;>omega
 have X:iS cv i<=1048576:=by unfold iS;omega
 have e1:IntKind.i64.wrap ((i:Int)+1)=((i+1:Nat):Int):=by rw[IntKind.wrap_i64];omega
 have Y:IntKind.u64.wrap (((iS cv i:Nat):Int)+(k+1))=((iS cv i+k+1:Nat):Int):=by rw[IntKind.wrap_u64];omega
 rw[H,e1,Y];refine⟨ah,rfl,ah,ah,ah,rfl,⟨x,R,st,_,_,rfl,rfl,h.ix,h.sh,h.gd,ah,ah⟩,fun q2 Z ⟨F2,⟨x',R',st',n',s',f1,f2,h',d⟩,I,aa⟩ c g3 p3=>?_⟩;simp only[aae,abw,Value.pointer.injEq,aa3,Addr.mk.injEq,Value.int.injEq,acu]at f1 f2;obtain⟨rfl,rfl,rfl⟩:=f1;subst f2;have K:(((i+1:Nat):Int)-1).toNat=i:=ah;have Cu:(((iS cv i+k+1:Nat):Int)-1).toNat=iS cv i+k:=ah;rw[K,Cu,<-h.ix.st h' hi]at d;rw[g3.i 143];obtain⟨M,N,O,P,ub,Q,uw⟩:=V c (Z.tr g3);refine⟨fun L=>?_,fun he=>?_⟩
 .refine fun _=>⟨[],[],rfl,rfl,Or.inl ⟨?_,?_⟩⟩
  .show Value.tuple #[.int .i64 5,c.v 0,.pointer (au (c.i 0) 0),.pointer (au (c.i 1) 0),.int .u64 (c.i 2),.bool (c.b 3),.int .i64 (c.i 4)]=_;rw[M,N,O,P,ub,Q];rfl
  .rcases d with ⟨_,_,row',S,B,ev,j⟩ | ⟨o,_⟩
   .simp only[Value.tuple.injEq,acp,aae,Value.int.injEq,Value.agg.injEq,acu,abw]at ev;exact absurd ev.2 L
   .exact agv.2 ah
 .rcases d with ⟨_,_,row',S,B,ev,j⟩ | ⟨_,u,ev⟩
  rotate_left
  .simp only[Value.tuple.injEq,acp,aae,Value.int.injEq,acu,abw]at ev;exact absurd (he.symm.trans ev.2) az
  simp only[Value.tuple.injEq,acp,aae,Value.int.injEq,Value.agg.injEq,acu,abw]at ev;rw[<-I az]at j;refine fun hd=>⟨[],[1,2],rfl,zzK,Or.inr ⟨S,(c.i 144).toNat,row',B,?_,?_,?_⟩⟩
  .show Value.tuple #[.int .i64 0,c.v 0,.pointer (au (c.i 0) 0),.pointer (au (c.i 1) 0),.int .u64 (c.i 2),.bool true,.pointer (au (c.i 144) 0),.int .i64 (c.i 4)]=_;rw[M,N,O,P,Q,show(((c.i 144).toNat:Nat):Int)=c.i 144 by omega]
  .have er:(aj 11 fI).map (CV.ev c)=row':=(ach Array.toList (Value.agg.inj (fQ (ks:=fI) (n:=11) g3 az))).trans ev.1;show bY [c.h 11,Hl.one (c.i 144).toNat (.cells ((aj 11 fI).map (CV.ev c)).toArray 40 (0,0))] _=_;rw[km,<-er];exact Hl.bg (hd 1 2 _ _ az rfl rfl rfl) _ _ (Hl.aK _ _)
  .show cH (bY [c.h 11,_]) (bY [c.h 11,_]) _ _;rw[km,g3.h 11];exact j.mono (Hl.aV _ _) (Hl.aV _ _)
def Tk {α:Type} {st:Nat->List α} {cur:Nat->Nat} {p:α} (h:(st i)[cur i+n]?=some p):before st cur n (i+1)=before st cur n i++[p]:=by
 unfold before;rw[gn,h];simp
def aaj {b1 b2:Nat} (h:dg y b1 b2 a none none none) :
 yY (FW none) dn Tryz.prog (fun e a' w'=>e=.normal/\dg y b1 b2 a' (some 1) none none/\gX (fun _=>False) w w') f0.cs a w:=by
 refine iL ?_ (fz.pure aC f0 rfl rfl h.sz h.df (J:=Xg y b1 b2 none none none) (R:=fun v=>v=.tuple #[.int .i64 (Ia .norm),y,.pointer (au (b1:Int) 0),.pointer (au (b2:Int) 0),.int .u64 1]) ?_ ?_)
 .rintro e a' w' ⟨t,vs,rfl,hsz,b,hm,hk,hv⟩;rw[av ah,av ah]at hv;simp only[Value.tuple.injEq,acp,aae,Value.int.injEq,acu]at hv;obtain⟨c,rfl⟩:=hv;obtain rfl:t=.norm:=kY c;have hm:[a'.tmps[0]?,a'.tmps[1]?,a'.tmps[2]?,a'.tmps[4]?]=_:=hm;simp only[abW,acI,aae,abw]at hm;obtain⟨d,m1,m2,f⟩:=hm;exact⟨rfl,⟨hsz.trans h.sz,b,d,m1,m2,(fun x hx=>by cases hx;exact f),(fun x hx=>by cases hx),(fun x hx=>by cases hx)⟩,hk⟩
 .intro t v c;have:=uU (l:=DV++[]) c;simp only[DV,acD,aaW,abd,acs,acx]at this;rcases this with ⟨rfl,rfl⟩ | ⟨rfl,rfl⟩ | ⟨rfl,rfl⟩
  .exact h.t0
  .exact h.t1.trans (by show _=some (Value.pointer (au (b1:Int) 0));rw[av ah];rfl)
  .exact h.t2.trans (by show _=some (Value.pointer (au (b2:Int) 0));rw[av ah];rfl)
 .refine fz.read [] [] [] ?_;simp only[go_sem];exact fun _=>⟨[],[],rfl,rfl,rfl⟩
def za (y p q:Value) (r:Array Value):(#[y]++#[p,q]++r)[0]?=some y/\(#[y]++#[p,q]++r)[1]?=some p/\(#[y]++#[p,q]++r)[2]?=some q/\(#[y]++#[p,q]++r).size=3+r.size:=by
 obtain⟨r⟩:=r;refine⟨aC,aC,aC,by simp;omega⟩
section
variable {R:Hl} {b1 b2 x l:Nat} {st:Nat->List Pc} {cv:Nat->Int}
def ZM (I:List Pc->World->Prop) (st:Nat->List Pc) (cv:Nat->Int) (s:List Pc×Pc×List Value) (W:World):Prop :=
 ∃ a F k i,i<6/\s.1=before st (iS cv) k i/\(st i)[iS cv i+k]?=some s.2.1/\I s.1 a/\fq a W [] [] F/\cH F F s.2.2 s.2.1
def Pj (h:BhR R b1 b2 x st cv) (u:N<=2000000) (n:∀ pre W,I pre W->R.sub W) (d:∀ pre W W',I pre W->gX (fun _=>False) W W'->I pre W')
 {L X:World->Prop} (v:∀ W W',L W->W.heap.size<=W'.heap.size->(∀ b,b<W.heap.size->W'.heap[b]?=W.heap[b]?)->L W')
 (hY:∀ s W,ZM I st cv s W->L W->YieldAt Fence.wide (dn-1) Tryz.prog l #[.agg s.2.2.toArray] W fun e W'=>(e=.returned (.bool true)/\I (s.1++[s.2.1]) W'/\L W')\/(e=.returned (.bool false)/\X W')) :
 ItH st (iS cv) (.func (.yield l) #[] #[]) b1 b2 dn N I L X:=by
 have cJ:∀ W W',L W->gX (fun _=>False) W W'->L W':=fun W W' h1 t=>v W W' h1 t.size fun b hb=>t.block b hb ag3;refine⟨cJ,d,fun a W k s i hi hk hA hI f=>?_⟩;show(Vc bhL (iB (iB (iB (iB ZI))))).wpIn _ _ _ _ _ _;refine xQ (iL ?_ (WD h hi ah hA (n _ _ hI)));rintro e a1 w (⟨rfl,o,c,j⟩ | ⟨rfl,p,g,row,F,hp,c,y,hT,hg,hP⟩)
 .exact Or.inl ⟨rfl,o,c,d _ _ _ hI j,cJ _ _ f j⟩
 have hl:row.length=126:=by have:=fV hP.ok;rwa[iO]at this
 have hsz:a1.tmps.size=36:=c.sz;have hs:ZM I st cv (before st (iS cv) k i,p,row) w:=⟨W,F,k,i,hi,rfl,hp,hI,hT,hP⟩;refine wpIn_seq (Fp (b:=g) (row:=row) (m:=126) (A:=fun W'=>I (before st (iS cv) k i++[p]) W'/\L W') (X:=X) rfl rfl rfl rfl rfl rfl rfl rfl rfl rfl rfl rfl ah ah ah az az c.t0 y zzK zzK hl (hT.fsub _ _ hg) ?_ ?_ ?_)
 .exact hY _ _ hs (cJ _ _ f hT.qU)
 .rintro z ⟨q,r⟩;refine wpIn_cond_false ?_ ?_
  .simp [Act.eval,Act.put,aci,hsz]
  .refine wpIn_skip (Or.inr (Or.inl ⟨rfl,by rw[hp];simp,?_,by rw[Tk hp];exact q,r⟩));refine⟨by simp [Act.put,hsz],by simp [Act.put,c.df],?_,?_,?_,fun x hx=>?_,fun x hx=>?_,fun x hx=>?_⟩
   .simpa [Act.put,aci] using c.t0
   .simpa [Act.put,aci] using c.t1
   .simpa [Act.put,aci] using c.t2
   .simpa [Act.put,aci] using c.t4 x hx
   .simpa [Act.put,aci] using c.t5 x hx
   .simpa [Act.put,aci] using c.t11 x hx
 .intro z hX;refine wpIn_cond_true ?_ ?_
  .simp [Act.eval,Act.put,aci,hsz]
  .exact wpIn_ret (Or.inr (Or.inr ⟨rfl,by simp [Act.put,c.df],hX⟩))
def ML (h:BhR R b1 b2 x st cv) (hN:∀ j,j<6->(st j).length<=N) (d:N<=2000000) (g:∀ pre W,I pre W->R.sub W) (f:∀ pre W W',I pre W->gX (fun _=>False) W W'->I pre W') (h0:I [] W0) :
 Sx.Yields n Tryz.prog 180 #[.pointer (some ⟨b1,0,none⟩),.pointer (some ⟨b2,0,none⟩)] l (ZM I st cv) (fun s W=>I (s.1++[s.2.1]) W) (fun s=>#[.agg s.2.2.toArray]) W0 (fun W=>∃ k,gh st (iS cv) k 6=[]/\I (dJ st (iS cv) k) W):=by
 intro L X q hY i;have H:=Pj (dn:=n-1) h d g f q hY;have hf:Tryz.prog.funcs[180]?=some Tryz.f180:=by kernel_rfl
 have hb:Tryz.f180.body=some Vy:=by kernel_rfl
 have m:Tryz.f180.ntmps=36:=by kernel_rfl
 have o:Tryz.f180.results=#[]:=by kernel_rfl
 have a:Vy=Code.seq (mi Vy) (Code.block 0 (mi (iB Vy))):=by kernel_rfl
 refine callsIn_of_wp hf hb trivial ?_ rfl;rw[m,a];have hA:dg (.func (.yield l) #[] #[]) b1 b2 {tmps:=(#[.func (.yield l) #[] #[]]++#[.pointer (some ⟨b1,0,none⟩),.pointer (some ⟨b2,0,none⟩)]:Array Value)++Array.replicate (36-(#[.func (.yield l) #[] #[]]++#[.pointer (some ⟨b1,0,none⟩),.pointer (some ⟨b2,0,none⟩)]:Array Value).size) undef,defers:=[]} none none none :=
  ⟨(za _ _ _ _).2.2.2.trans (by rw[agO];rfl),rfl,(za _ _ _ _).1,(za _ _ _ _).2.1,(za _ _ _ _).2.2.1,(fun x hx=>by cases hx),(fun x hx=>by cases hx),(fun x hx=>by cases hx)⟩
 have h1:yY (FW none) (n-1) Tryz.prog _ [mi Vy] _ W0:=aaj hA;refine wpIn_seq (wpIn_mono h1 ?_);intro e a1 u r;cases e with
 | normal =>
  obtain⟨_,p,c⟩:=r;refine wpIn_block (wpIn_mono (Q7 H hN d p (f _ _ _ h0 c) (q _ _ i c.size fun b hb=>c.block b hb ag3)) ?_);rintro e a2 v ⟨rfl,hd,t⟩;exact⟨hd,_,results_none o _ _ _,⟨_,rfl⟩,t⟩
 | _=>exact absurd r.1 aC
end
end Go.Proofs.YtbdikjnpbnobcaaGreatDoor
namespace Go.Proofs.YtbdikjnpbnobcaaGreatDoor
open Go Go.Sx Go.Pk
def IG {ks:List Ck} {row:List Value} (n:Nat) (i0:Nat->Int) (b0:Nat->Bool) (hs:List (Nat×Hl)) (h:aR row (ks.map gY)) :
 ∃ q:Env,(aj n ks).map (CV.ev q)=row/\bk n ks q/\(∀ k,k<n->q.i k=i0 k)/\(∀ k,k<n->q.b k=b0 k)/\∀ k,q.h k=xh hs k:=by
 obtain⟨q,g,hn,e⟩:=cE ks n row ⟨i0,b0,fun _=>.empty,fun _=>.tuple #[],fun _=>Hl.none⟩ h;exact⟨⟨q.i,q.b,q.s,q.v,xh hs⟩,by rw[<-PA (xh hs)];exact e,QZ _ _ _ hn,fun k hk=>g.i k hk,fun k hk=>g.b k hk,fun _=>rfl⟩
def mtS:Sx.Spec where
 fn:=152
 own:=[]
 rd:=[]
 res:=[.one .bool]
 pre:=fun xs Hs Rs=>∃ (x y:Int) (n c:Nat) (row:List Value),xs=[.agg #[.bool true,.slice (au x y) n c],.agg row.toArray]/\aR row dz
 post:=fun xs Hs Rs v Hs' F=>v=.bool true
def mtW:aD Tryz.prog [] mtS.fn where
 Λ:=aA
 args:=[.sv (.agg [.bool .tt,.sl (.var 1) (.var 2) (.var 3) (.var 4)]),.sv (.agg (aj 5 bJ))]
 mem:=[]
 nv:=152
def XZ:mtS.OK Tryz.prog:=by
 refine Spec.cM (Γ:=[]) (fun _ h=>by cases h) ?_;rintro xs Hs Rs b d ⟨x,y,n,c,row,rfl,hx⟩;have e0:Hs=[]:=aa1.1 b;have e1:Rs=[]:=aa1.1 d;subst e0 e1;obtain⟨q,eq,hn,a,e,f⟩:=IG 5 (fun k=>([0,x,y,(n:Int),(c:Int)]:List Int).getD k 0) (fun _=>true) [] (ks:=bJ) hx;refine⟨mtW,q,fun _ _=>True,fun _ _=>0,?_,⟨fun _ h=>(nomatch h),fun _ h=>(nomatch h),.nil,fun _ h=>(nomatch h)⟩,(fun _ h=>nomatch h),?_⟩
 .show [Value.agg #[.bool true,.slice (au (q.i 1) (q.i 2)) (q.i 3).toNat (q.i 4).toNat],.agg ((aj 5 bJ).map (CV.ev q)).toArray]=_;rw[eq,a 1 ah,a 2 ah,a 3 ah,a 4 ah];show [Value.agg #[.bool true,.slice (au x y) ((n:Int)).toNat ((c:Int)).toNat],.agg row.toArray]=_;rw[aac,aac]
 refine aD.read [bJ] [] [] ?_;simp only[go_sem,Nat.reduceAdd];intro q1 _ _ q2 _ _;exact⟨fun _=>kU rfl rfl,fun _=>kU rfl rfl⟩
def mn:Sx.Spec where
 fn:=44
 own:=[]
 rd:=[0]
 res:=[.one .sl]
 pre:=fun xs Hs Rs=>∃ v R rows,xs=[v]/\Rs=[R]/\bd R v oj rows/\rows.length<=100000
 post:=fun xs Hs Rs v' Hs' F=>∀ v R rows,xs=[v]->Rs=[R]->bd R v oj rows->bd F v' dz (rows.map (List.take 125))
def N5:aD Tryz.prog [] mn.fn where
 Λ:=fun p=>if QI p then some ⟨0,[(4,TI .i64 (.var 50)),(3,.sv (.one (.sl (.var 51) (.lit 0) (.var 52) (.var 53))))],[(1,.hp 54 [] [.var 51] [])],60⟩else none
 args:=[.sv (.one (.sl (.var 0) (.var 1) (.var 2) (.var 3)))]
 mem:=[.ro 4 [.var 0] true]
 nv:=5
def wv:mn.OK Tryz.prog:=by
 refine Spec.jN (Γ:=[]) (fun _ h=>by cases h) rfl ?_;rintro xs Rs ⟨v,R,rows,rfl,rfl,o,hlen⟩;obtain⟨x,y,c,rfl,hy,_⟩:=id o;refine⟨N5,aM [x,y,rows.length,c] false [Hl.none,Hl.none,Hl.none,Hl.none,R],fun _ q=>∃ k:Nat,q.i 50=k/\k<=rows.length/\ -1<=q.i 51/\q.i 52=k/\0<=q.i 53/\pF (q.h 54) 38 dz (.slice (au (q.i 51) 0) (q.i 52).toNat (q.i 53).toNat) ((rows.take k).map (List.take 125)),fun _ q=>(rows.length-q.i 50).toNat,?_,aT rfl rfl,rfl,?_⟩
 .show [Value.slice (au x y) ((rows.length:Int)).toNat ((c:Int)).toNat]=_;rw[aac,aac]
 refine aD.read [] [dz] [] ?_;generalize f:aM [x,y,rows.length,c] false [Hl.none,Hl.none,Hl.none,Hl.none,R]=J;have V:∀ q:Env,ai 5 J q->q.i 0=x/\q.i 1=y/\q.i 2=rows.length/\q.h 4=R:=fun q hg=>by
  rw[hg.i 0,hg.i 1,hg.i 2,hg.h 4,<-f];exact⟨rfl,rfl,rfl,rfl⟩
 clear f;simp only[go_sem,Nat.reduceAdd];refine⟨⟨0,rfl,acP _,aba _,rfl,aba _,pF.nil _ _ _⟩,fun q g ⟨k,p,hk,s,l,t,ho⟩=>?_⟩;obtain⟨v0,v1,v2,F⟩:=V q g;rw[v0,v1,v2,F,p];refine⟨ah,fun m=>?_,fun G=>?_⟩
 .have w:0<=x:=by
   obtain⟨x',y',c',he,z,hh⟩:=id o;rcases hh with h | ⟨h,_⟩
   .rw[h]at m;simp at m;omega
   .simp only[Value.slice.injEq]at he;obtain⟨e1,_⟩:=mZ h z hy he.1;omega
  have e:bd R (.slice (au x y) ((rows.length:Int)).toNat ((c:Int)).toNat) oj rows:=by rw[aac,aac];exact o
  obtain⟨_,A⟩:=e.at ah hy ah;have hr:rows[k]?=some rows[k]:=aad ah;obtain⟨_,B,cells⟩:=A k _ hr;have b:=mV (n:=125) B;rw[He]at b;have D:∀ i u,(rows[k].take 125)[i]?=some u->R.cell x.toNat ((y+(k:Int)*126).toNat+i)=some u:=fun i u hu=>by
   rw[acC]at hu;split at hu
   .have:=cells i u hu;rw[iO]at this;rw[show(y+(k:Int)*126).toNat=y.toNat+k*126 by omega];exact this
   .cases hu
  have H:∀ i u,rows[k][i]?=some u->R.cell x.toNat ((y+(k:Int)*126).toNat+i)=some u:=fun i u hu=>by
   have:=cells i u hu;rw[iO]at this;rw[show(y+(k:Int)*126).toNat=y.toNat+k*126 by omega];exact this
  refine⟨w,hy,ah,jG _ b D,fun q1 a _=>?_⟩;have I:ai 5 J q1:=g.tr a;obtain⟨K,L,P,M⟩:=V q1 I;have N:List.map (CV.ev q1) (aU 4 (.var 0) (.add (.var 1) (.mul (.var 50) (.lit 126))) 0 dz)=rows[k].take 125:=cD _ dz 0 b fun i u hu=>by
   show(q1.h 4).cell (q1.i 0).toNat ((q1.i 1+q1.i 50*126).toNat+(0+i))=some u;rw[K,L,M,a.i 50,p,aco];exact D i u hu
  rw[N,a.i 51,a.i 52,a.i 53,a.h 54];have d:q.i 52=((rows.take k).map (List.take 125)).length:=by rw[aca,ace,l];omega
  refine⟨⟨⟨_,ho.pre d⟩,ah,by unfold maxLen;omega,ah⟩,fun q2 r ⟨a1,a2,happ,_⟩=>?_⟩;have O:=ho.app d b happ;refine⟨⟨k+1,?_,ah,a1,?_,a2,?_⟩,?_⟩
  .show IntKind.i64.wrap (q2.i 50+1)=_;rw[r.i 50,a.i 50,p];exact wrap_i64 ah ah
  .show q2.i 52+1=_;rw[r.i 52,a.i 52,l];rfl
  .show pF (q2.h 61) _ dz (.slice (au (q2.i 61) 0) (q2.i 52+1).toNat (q2.i 62).toNat) _;rw[r.i 52,a.i 52,adB,hr,afk,acm];exact O
  .show((rows.length:Int)-IntKind.i64.wrap (q2.i 50+1)).toNat<_;rw[r.i 50,a.i 50,p,wrap_i64 ah ah];omega
 .have:k=rows.length:=ah;subst this;rw[acS]at ho;intro _;refine⟨[],[1],rfl,rfl,⟨(ba fun j=>[q.i 51,0,q.i 52,q.i 53].getD j 0),rfl,⟨s,aba _,by show 0<=q.i 52;omega,t⟩,zzT⟩,fun v' R' C e1 E e=>?_⟩;simp only[aae,abw]at e1 E;subst e1 E;obtain rfl:=o.uniq e;show bd (bY [q.h 54]) _ _ _;rw[aJ];exact ho.rd
end Go.Proofs.YtbdikjnpbnobcaaGreatDoor
namespace Go.Sx
open Go
def vk:∀ (a:List Int) (r:ByteArray),(a.foldl (fun r n=>r.push (UInt8.ofNat n.toNat)) r).data.toList=r.data.toList++a.map fun n=>UInt8.ofNat n.toNat
 | [],r=>aC
 | n::a,r=>by
  rw[agm,vk a];show(r.data.push _).toList++_=_;rw[Array.toList_push,abS];rfl
def FJ:∀ {a b:List Int},(∀ z∈a,0<=z/\z<256)->(∀ z∈b,0<=z/\z<256)->bytesOf a=bytesOf b->a=b:=by
 have key:∀ (a b:List Int),(∀ z∈a,0<=z/\z<256)->(∀ z∈b,0<=z/\z<256)->(a.map fun n=>UInt8.ofNat n.toNat)=(b.map fun n=>UInt8.ofNat n.toNat)->a=b:=by
  intro a
  induction a with
  | nil=>intro b _ _ h;cases b with
   | nil=>rfl
   | cons y b=>cases h
  | cons x a ih =>
   intro b c hb h;cases b with
   | nil=>cases h
   | cons y b =>
    rw[abW,abW,aae]at h;have hx:=c x (acj ..);have hy:=hb y (acj ..);have e:=ach UInt8.toNat h.1;rw[UInt8.toNat_ofNat',UInt8.toNat_ofNat']at e;have:x=y:=ah;subst this;rw[ih b (fun z h=>c z (abq _ h)) (fun z h=>hb z (abq _ h)) h.2]
 intro a b c hb h;have:=ach (fun x:ByteArray=>x.data.toList) h;unfold bytesOf at this;simp only[vk]at this;exact key a b c hb (by simpa using this)
end Go.Sx
namespace Go.Proofs.YtbdikjnpbnobcaaGreatDoor
open Go Go.Sx Go.Pk
variable {B G G' H H' K KB R R' T:Hl}{rows:List (List Value)}{ks:List Ck}{row:List Value}{c c1 g i k n n1 x y:Nat}{cv cv':Nat->Int}{st st':Nat->List Pc}{sv:Nat->Value}{p:Pc}{P:Program}{s:Sx.Spec}
def RX {x y:Int} (h:bd R (.slice (au x y) n c) dz rows) (hy:0<=y) (hk:rows[k]?=some row) :
 0<=x/\wz R x.toNat (y+(k:Int)*125).toNat dz=true/\∀ {q:Env} {g:Nat} {a b:E},q.h g=R->aw q a=x->aw q b=y+(k:Int)*125->(aU g a b 0 dz).map (CV.ev q)=row:=by
 obtain⟨x1,p,c1,he,f,hr⟩:=h;simp only[Value.slice.injEq]at he;rcases hr with rfl | ⟨d,hr⟩
 .simp at hk
 obtain⟨e1,l⟩:=mZ d f hy he.1;subst e1 l;obtain⟨ro,m⟩:=hr k _ hk;have e:(y+(k:Int)*125).toNat=y.toNat+k*dz.length:=by rw[show dz.length=125 from rfl];omega
 have j:∀ i u,row[i]?=some u->R.cell x.toNat ((y+(k:Int)*125).toNat+i)=some u:=fun i u hu=>by rw[e];exact m i u hu
 refine⟨d,jG _ ro j,fun {q g a b} hg o hb=>cD row dz 0 ro fun i u hu=>?_⟩;rw[hg,o,hb,aco];exact j i u hu
def BT:Sx.Spec where
 fn:=100
 own:=[]
 rd:=[0,100,2000000]
 res:=[.agg (List.replicate 32 (Ck.int .u8))]
 pre:=fun xs Hs Rs=>∃ v R T RG rows hs,xs=[v]/\Rs=[R,T,RG]/\bd R v dz rows/\gG T rows hs/\rows.length<=100000/\yT RG 0
 post:=fun xs Hs Rs v' Hs' F=>∀ v R T RG rows hs,xs=[v]->Rs=[R,T,RG]->bd R v dz rows->gG T rows hs->v'=.agg (aS (jP hs)).toArray
noncomputable def rtΓ:List Sx.Spec:=[rhS]
def aeN:rhS.res=[.agg (List.replicate 32 (Ck.int .u8))]:=rfl
noncomputable def abG:aD Tryz.prog rtΓ BT.fn where
 Λ:=aA
 args:=[.sv (.one (.sl (.var 0) (.var 1) (.var 2) (.var 3)))]
 mem:=[.ro 4 [.var 0] false,.ro 5 [] true,.ro 6 [.lit 0] false]
 nv:=7
def C8 {q:Env} (h:Uf ks=true):bR n [.agg ks] q:=⟨cf _ _ _ h,zzT⟩
def HN:BT.OK Tryz.prog:=by
 refine Spec.jN (Γ:=rtΓ) (fun t n=>by rw[rtΓ,aaQ]at n;subst n;exact Yx) rfl ?_;rintro xs Rs ⟨v,R,T,RG,rows,hs,rfl,rfl,e,hA,hlen,hK⟩;obtain⟨x,y,c,rfl,hy,_⟩:=id e;refine⟨abG,aM [x,y,rows.length,c] false [Hl.none,Hl.none,Hl.none,Hl.none,R,T,RG],fun _ _=>True,fun _ _=>0,?_,aT rfl rfl,rfl,?_⟩
 .show [Value.slice (au x y) ((rows.length:Int)).toNat ((c:Int)).toNat]=_;rw[aac,aac]
 refine aD.read [] [dz] [] ?_;generalize d:aM [x,y,rows.length,c] false [Hl.none,Hl.none,Hl.none,Hl.none,R,T,RG]=J;have V:∀ q:Env,ai 7 J q->q.i 0=x/\q.i 1=y/\q.i 2=rows.length/\q.h 4=R/\q.h 5=T/\q.h 6=RG:=fun q hg=>by
  rw[hg.i 0,hg.i 1,hg.i 2,hg.h 4,hg.h 5,hg.h 6,<-d];exact⟨rfl,rfl,rfl,rfl,rfl,rfl⟩
 clear d;have out:∀ {v'},v'=Value.agg (aS (jP hs)).toArray->∀ F,BT.post [.slice (au x y) rows.length c] [] [R,T,RG] v' [] F:=fun {v'} hv F v2 R' C r f hs' e1 o h1 s=>by
  simp only[aae,abw]at e1 o;obtain⟨rfl,rfl,rfl⟩:=o;subst e1;obtain rfl:=e.uniq h1;rw[hA.uniq s]at hv;exact hv
 simp only[go_sem,Nat.reduceAdd,rtΓ,aeN];intro q1 u _;obtain⟨v0,v1,v2,p,w,w6⟩:=V q1 u;rw[v0,v1,v2,p,w,w6];refine⟨ah,fun h0 _=>?_,fun z=>?_⟩
 .have:hs=[]:=aa1.1 (by have:=hA.1;omega);refine⟨[],[],rfl,rfl,⟨(ba fun _=>0),rfl,C8 rfl⟩,out ?_ _⟩;subst this;rfl
 .have hw:IntKind.i64.wrap ((rows.length:Int)-1)=((rows.length-1:Nat):Int):=by rw[IntKind.wrap_i64];omega
  obtain⟨row,hr⟩:∃ row,rows[rows.length-1]?=some row:=⟨_,aad ah⟩;obtain⟨h,hh⟩:∃ h,hs[rows.length-1]?=some h:=⟨_,aad (by have:=hA.1;omega)⟩;obtain⟨j,l,m⟩:=RX e hy hr;have hI:=hA.2 _ _ _ hr hh;have A:=m (q:=q1) (g:=4) (a:=.var 0) (b:=(E.var 1).add ((E.wrap .i64 ((E.var 2).sub (.lit 1))).mul (.lit 125))) p v0 (by
   show q1.i 1+IntKind.i64.wrap (q1.i 2-1)*125=_;rw[v1,v2,hw])
  rw[A,hw];refine⟨j,hy,ah,ah,l,⟨_,T,RG,h,rfl,rfl,hI,hK⟩,fun q2 D ⟨F,hp,_⟩ _=>?_⟩;have hp:=hp _ _ _ _ rfl rfl hI;have B:jP hs=oK h:=by
   unfold jP;have:hs.getLast?=some h:=by rw[List.getLast?_eq_getElem?,<-hA.1];exact hh
   rw[this]
  rw[<-B]at hp;refine⟨[],[],rfl,rfl,⟨(ba fun k=>q2.i (k+8)),rfl,C8 rfl⟩,out hp _⟩
def RY (f:Nat->Int) (hs:List (Nat×Hl)) (h:aR row (ks.map gY)):∃ q:Env,row=(aj 0 ks).map (CV.ev q)/\(∀ k,q.h k=xh hs k)/\(∀ k,aQ ks<=k->q.i k=f k):=by
 obtain⟨q,hr,_,hh⟩:=lY (ks:=ks) hs h;refine⟨⟨fun k=>if aQ ks<=k then f k else q.i k,q.b,q.s,q.v,q.h⟩,?_,hh,fun k hk=>ab9 hk⟩;rw[hr];have g:ai (aQ ks) q ⟨fun k=>if aQ ks<=k then f k else q.i k,q.b,q.s,q.v,q.h⟩:=⟨fun k hk=>aa8 ah,fun _ _=>rfl,fun _ _=>rfl,fun _ _=>rfl,fun _ _=>rfl⟩;exact(ach Array.toList (Value.agg.inj (fQ (ks:=ks) (n:=0) g ah))).symm
noncomputable def Hm:Sx.Spec where
 fn:=60
 own:=[]
 rd:=[1,100,10253,2000000]
 res:=[.one (.int .i64)]
 pre:=fun xs Hs Rs=>∃ w v row R T a RG rows hs h,xs=[.int .i64 w,v,.agg row.toArray]/\Rs=[R,T,a,RG]/\bd R v dz rows/\gG T rows hs/\(∀ g∈hs,g.Form)/\br a row h/\rows.length<=100000/\yT RG 0
 post:=fun xs Hs Rs v' Hs' F=>∀ w v row R T a RG rows hs h,xs=[.int .i64 w,v,.agg row.toArray]->Rs=[R,T,a,RG]->bd R v dz rows->gG T rows hs->br a row h->v'=.int .i64 (iy w hs h)
noncomputable def rkΓ:List Sx.Spec:=[fS 46,BT,bU 105]
def aew:BT.res=[.agg (List.replicate 32 (Ck.int .u8))]:=rfl
noncomputable def abz:aD Tryz.prog rkΓ Hm.fn where
 Λ:=aA
 args:=TI .i64 (.var 129)::.sv (.one (.sl (.var 130) (.var 131) (.var 132) (.var 133)))::(bQ 0 [.agg bJ]).map .sv
 mem:=[.ro 134 [.var 130] false,.ro 135 [] true,.ro 136 [.var 53] false,.ro 137 [.lit 0] false]
 nv:=138
open Classical in
set_option maxRecDepth 20000 in
def Rz:Hm.OK Tryz.prog:=by
 refine Spec.cM (Γ:=rkΓ) (fun t ht=>?_) ?_
 .simp only[rkΓ,aaW,abd,acs]at ht;rcases ht with rfl | rfl | rfl
  .exact xt
  .exact HN
  .exact Hj
 rintro xs Hs Rs G ak ⟨w,v,row,R,T,z,RG,rows,hs,h,rfl,rfl,B,hA,H,hx,hlen,hK⟩;have e0:Hs=[]:=aa1.1 G;subst e0;obtain⟨x,y,c,rfl,hy,_⟩:=id B;obtain⟨J,d,hh,hv⟩:=RY (ks:=bJ) (fun k=>[w,x,y,rows.length,c].getD (k-129) 0) [(134,R),(135,T),(136,z),(137,RG)] hx.ok;have al:aQ bJ<=129:=by decide
 have v9:J.i 129=w:=hv 129 ah;have v0:J.i 130=x:=hv 130 ah;have v1:J.i 131=y:=hv 131 ah;have v2:J.i 132=rows.length:=hv 132 ah;have v3:J.i 133=c:=hv 133 ah;have w4:J.h 134=R:=hh 134;have w5:J.h 135=T:=hh 135;have w6:J.h 136=z:=hh 136;have w7:J.h 137=RG:=hh 137;refine⟨abz,J,fun _ _=>True,fun _ _=>0,?_,aT rfl (by show [J.h 134,J.h 135,J.h 136,J.h 137]=_;rw[w4,w5,w6,w7]),(fun _ h=>nomatch h),?_⟩
 .show [Value.int .i64 (J.i 129),.slice (au (J.i 130) (J.i 131)) (J.i 132).toNat (J.i 133).toNat,.agg ((aj 0 bJ).map (CV.ev J)).toArray]=_;rw[v9,v0,v1,v2,v3,<-d,aac,aac]
 refine aD.read [bJ] [dz] [] ?_;simp only[go_sem,Nat.reduceAdd,rkΓ,WW,aew,hr5,Om];have V:∀ q:Env,ai 138 J q->(q.i 129=w/\q.i 130=x/\q.i 131=y/\q.i 132=rows.length)/\(q.h 134=R/\q.h 135=T/\q.h 136=z/\q.h 137=RG)/\(aj 0 bJ).map (CV.ev q)=row/\q.i 0=J.i 0/\q.i 1=J.i 1/\iG q 2=iG J 2/\Value.slice (au (q.i 130) (q.i 131)) (q.i 132).toNat (q.i 133).toNat=.slice (au x y) rows.length c:=fun q g=>by
  refine⟨⟨by rw[g.i 129,v9],by rw[g.i 130,v0],by rw[g.i 131,v1],by rw[g.i 132,v2]⟩,⟨by rw[g.h 134,w4],by rw[g.h 135,w5],by rw[g.h 136,w6],by rw[g.h 137,w7]⟩,?_,g.i 0,g.i 1,E0 g ah,?_⟩
  .rw[d];exact ach Array.toList (Value.agg.inj (fQ (ks:=bJ) (n:=0) g az))
  .rw[g.i 130,g.i 131,g.i 132,g.i 133,v0,v1,v2,v3,aac,aac]
 have out:∀ {q:Env} {mem:Mem} {e:E},aw q e=iy w hs h->postOf Hm [.int .i64 w,.slice (au x y) rows.length c,.agg row.toArray] [] [R,T,z,RG] q mem (.sv (.one (.int .i64 e))):=fun {q mem e} he =>
  vP rfl he fun F w' v' row' R' T' an ao K hs' h' e1 e2 L M N=>by
   simp only[aae,abw,Value.int.injEq,acu,Value.agg.injEq]at e1 e2;obtain⟨rfl,rfl,e1⟩:=e1;obtain⟨rfl,rfl,rfl,rfl⟩:=e2;have e1:=ab1 e1;subst e1;obtain rfl:=B.uniq L;obtain rfl:=hA.uniq M;rw[hx.uniq N]
 have h0:cI h.c 0=J.i 0:=by
  have e1:cI h.c 0=cI row 0:=hx.I az;rw[e1,d];rfl
 have h1:cI h.c 1=J.i 1:=by
  have e1:cI h.c 1=cI row 1:=hx.I az;rw[e1,d];rfl
 have h2:aW h.c 2 32=iG J 2:=by
  have:aW h.c 2 32=aW row 2 32:=by
   unfold aW;refine acL fun j hj=>hx.I ?_;have:=acv.1 hj;omega
  rw[this,d];rfl
 have aq:rows.length=hs.length:=hA.1;intro q1 g1 p1;obtain⟨_,⟨_,_,x6,_⟩,xr,_⟩:=V q1 g1;rw[xr,x6];refine⟨⟨_,z,h,rfl,rfl,hx⟩,fun q2 g2 ⟨F2,O,_⟩=>?_⟩;have P:ai 138 J q2:=g1.tr g2;have C:q2.b 139=decide h.Form:=Value.bool.inj (mE hx O);obtain⟨⟨y9,y0,y1,y2⟩,⟨y4,y5,y6,y7⟩,yr,Q,D,ys,S⟩:=V q2 P;refine⟨fun hb=>?_,fun hb=>out ?_⟩
 rotate_left
 .have A:¬h.Form:=by rw[C]at hb;simpa using hb
  unfold iy;rw[ab9 (Or.inl A)];rfl
 have A:h.Form:=by rw[C]at hb;simpa using hb
 have hseq:1<=cI h.c 1/\cI h.c 1<=1048576:=A.1.2.1;rw[h1]at hseq;rw[S,Q,D,y9,y0,y1,y2,y4,y5];have wl:IntKind.u64.wrap (rows.length:Int)=rows.length:=by rw[IntKind.wrap_u64];omega
 have ws:IntKind.u64.wrap (J.i 1-1)=(((J.i 1-1).toNat:Nat):Int):=by rw[IntKind.wrap_u64];omega
 refine⟨fun o=>out ?_,fun heq=>⟨ah,fun hle=>?_,fun U=>?_⟩⟩
 .unfold iy;rw[ab9 (Or.inr (by rw[h0];exact o))];rfl
 .have l:¬(¬h.Form\/cI h.c 0≠w):=by rw[h0];exact fun hh=>hh.elim (fun g=>g A) (fun g=>g heq)
  rw[wl]at hle;have hk:(J.i 1-1).toNat<rows.length:=ah;obtain⟨row',hr⟩:∃ row',rows[(J.i 1-1).toNat]?=some row':=⟨_,aad hk⟩;obtain⟨h',s⟩:∃ h',hs[(J.i 1-1).toNat]?=some h':=⟨_,aad ah⟩;obtain⟨W,X,Y⟩:=RX B hy hr;have hI:=hA.2 _ _ _ hr s;have er:=Y (q:=q2) (g:=134) (a:=.var 130) (b:=(E.var 131).add ((E.wrap .u64 ((E.var 1).sub (.lit 1))).mul (.lit 125))) y4 y0 (by
   show q2.i 131+IntKind.u64.wrap (q2.i 1-1)*125=_;rw[y1,D,ws])
  rw[er,ws];refine⟨W,hy,ah,X,⟨_,T,h',rfl,rfl,hI⟩,fun m g3 ⟨F3,f,Z,aa⟩=>?_⟩;have B3:=pI hI f;rw[<-Z zzT]at B3;have n3:-1<=m.i 140/\0<=m.i 141/\0<=m.i 142/\0<=m.i 143:=aa.1;have G3:ai 138 J m:=P.tr g3;obtain⟨_,⟨_,_,z6,_⟩,zr,_⟩:=V m G3;rw[zr,z6];refine⟨(BJ B3.rd.w n3.2.1 n3.2.2.1).1,⟨_,z,h,rfl,rfl,hx⟩,fun p g4 ⟨F4,ab,ad,ae⟩=>?_⟩;have B4:=pI hx ab;rw[<-ad zzT]at B4;have n4:-1<=p.i 144/\0<=p.i 145/\0<=p.i 146/\0<=p.i 147:=ae.1;have af:c9 (p.h 140) 5 (.slice (au (p.i 140) (p.i 141)) (p.i 142).toNat (p.i 143).toNat) (bf h'):=by
   rw[g4.h 140,g4.i 140,g4.i 141,g4.i 142,g4.i 143];exact B3
  have t3:=BJ af.rd.w (by rw[g4.i 141];exact n3.2.1) (by rw[g4.i 142];exact n3.2.2.1);have t4:=BJ B4.rd.w n4.2.1 n4.2.2.1;rw[t3.2,t4.2];have key:(hs[(cI h.c 1-1).toNat]?=some h)↔bytesOf (bf h')=bytesOf (bf h):=by
   rw[h1,s,aa3];refine⟨fun e=>by rw[e],fun e=>?_⟩;have e:=FJ (O9 hI).1 (O9 hx).1 e;exact(D3 hI hx (H _ (aah s)) A).1 e
  refine⟨t4.1,fun he=>out ?_,fun he=>out ?_⟩
  .unfold iy;rw[aa8 l,ab9 (by rw[h1];omega),ab9 (key.2 he)];rfl
  .unfold iy;rw[aa8 l,ab9 (by rw[h1];omega),aa8 (fun g=>he (key.1 g))];rfl
 .have l:¬(¬h.Form\/cI h.c 0≠w):=by rw[h0];exact fun hh=>hh.elim (fun g=>g A) (fun g=>g heq)
  rw[wl]at U ⊢;have ag:IntKind.u64.wrap ((rows.length:Int)+1)=(rows.length:Int)+1:=by rw[IntKind.wrap_u64];omega
  have u:¬cI h.c 1<=hs.length:=by rw[h1];omega
  rw[ag,y7];refine⟨fun ar=>out ?_,fun av=>⟨⟨_,R,T,RG,rows,hs,rfl,rfl,B,hA,hlen,hK⟩,fun m g3 ⟨F3,f,_⟩=>?_⟩⟩
  .unfold iy;rw[aa8 l,aa8 u,ab9 (by rw[h1];omega)];rfl
  have f:=f _ _ _ _ _ _ rfl rfl B hA;have f:iG m 140=jP hs:=by
   have hp:Value.agg (aS (iG m 140)).toArray=.agg (aS (jP hs)).toArray:=f;exact lQ (ach Array.toList (Value.agg.inj hp))
  have G3:ai 138 J m:=P.tr g3;obtain⟨_,_,_,_,_,zs,_⟩:=V m G3;have r:¬((hs.length:Int)+1<cI h.c 1):=by rw[h1];omega
  have key:=J6 m m 2 140;rw[f,zs,<-h2]at key;refine⟨fun o=>out ?_,fun heq=>out ?_⟩
  .have o:¬aW h.c 2 32=jP hs:=fun g=>o (key.1 g);unfold iy;rw[aa8 l,aa8 u,aa8 r,ab9 o];rfl
  .have heq:aW h.c 2 32=jP hs:=key.2 heq;unfold iy;rw[aa8 l,aa8 u,aa8 r,aa8 (fun g=>g heq)];rfl
def Vo (s:Sx.Spec) (rd:List Nat):Sx.Spec:={s with rd:=rd,pre:=fun xs Hs Rs=>∀ U:Hl,(∀ R∈Rs,R.le U)->s.pre xs Hs (List.replicate s.rd.length U),post:=fun xs Hs Rs v Hs' F=>∃ U:Hl,(∀ R∈Rs,R.le U)/\s.post xs Hs (List.replicate s.rd.length U) v Hs' F}
def sB {w:World} : ∀ {l:List Hl} (_:∀ R∈l,R.sub w) {R:Hl},R∈l->R.le (bY l)
 | A::l,h,R,a=>by
  have hs:(bY l).sub w:=vH fun X hX=>h X (abq _ hX);intro b o hb;show(A.un (bY l)) b=some o;rcases aaW.1 a with rfl | a
  .exact Hl.aV _ _ b o hb
  .have e:=sB (fun X hX=>h X (abq _ hX)) a b o hb;unfold Hl.un;cases hA:A b with
   | none=>exact e
   | some o' =>
    have h1:=h A (acj ..) b o' hA;rw[hs b o e]at h1;cases h1;rfl
def KX {H:Hl} : ∀ {l:List Hl},(∀ R∈l,H.bq R)->H.bq (bY l)
 | [],_=>Hl.Ak H
 | _::_,h=>Hl.Al (h _ (acj ..)) (KX fun R a=>h R (abq _ a))
def Ff {rd:List Nat} (h:s.OK P):(Vo s rd).OK P:=by
 intro w xs Hs Rs b f s1 s2 d1 d2 hp;have hU:(bY Rs).sub w:=vH s2;have hle:∀ R∈Rs,R.le (bY Rs):=fun R a=>sB s2 a;refine(h w xs Hs (List.replicate s.rd.length (bY Rs)) b acz s1 (fun R a=>by rw[(afO.1 a).2];exact hU) d1 (fun H c R a=>by rw[(afO.1 a).2];exact KX (d2 H c)) (hp _ hle)).mono ?_;rintro e w' ⟨J,Hs',F,he,hn,d,hpost⟩;exact⟨J,Hs',F,he,hn,d,_,hle,hpost⟩
def Tx (s:Sx.Spec):Sx.Spec:={s with post:=fun xs Hs Rs v Hs' F=>s.post xs Hs Rs v Hs' F/\∀ H∈Hs,∀ R∈Rs,H.bq R}
def Ty (h:s.OK P):(Tx s).OK P:=fun w xs Hs Rs e f s1 s2 d1 d2 hp=>(h w xs Hs Rs e f s1 s2 d1 d2 hp).mono fun _ _ ⟨J,Hs',F,a,b,c,d⟩=>⟨J,Hs',F,a,b,c,d,d2⟩
def HdU (A B:Hl) (rows:List (List Value)) (hs:List Hd):Prop:=rows.length=hs.length/\∀ U:Hl,A.le U->B.le U->gG U rows hs
def SQ (T K:Hl) (row:List Value) (p:Pc):Prop:=aR row oj/\∀ U:Hl,T.le U->K.le U->cH U U row p
def SQ.mono {K':Hl} (h:SQ T K row p) (hk:K.le K'):SQ T K' row p:=⟨h.1,fun U a b=>h.2 U a fun k o hx=>b k o (hk k o hx)⟩
def cH.u (h:cH T K row p):SQ T K row p:=⟨h.ok,fun _ a b=>h.mono a b⟩
def Tp (hl:R.le R') {v:Value} (h:R.cell x y=some v):R'.cell x y=some v:=by
 unfold Hl.cell at h ⊢;cases e:R x with
 | none=>rw[e]at h;cases h
 | some o=>rw[hl _ _ e];rw[e]at h;exact h
def yT.mono (h:yT R g) (hl:R.le R'):yT R' g:=fun j a=>Tp hl (h j a)
def Yu (sv:Nat->Value):List Value:=[sv 0,sv 1,sv 2,sv 3,sv 4,sv 5]
def Yv (sv:Nat->Value) (h:i<6):(Yu sv)[i]?=some (sv i):=by
 have:i=0\/i=1\/i=2\/i=3\/i=4\/i=5:=ah;rcases this with rfl | rfl | rfl | rfl | rfl | rfl<;>rfl
def UT (sv:Nat->Value) (v:Value) (h:i<6):bm (Yu sv) i [v]=Yu (pE sv i v):=by
 have:i=0\/i=1\/i=2\/i=3\/i=4\/i=5:=ah;rcases this with rfl | rfl | rfl | rfl | rfl | rfl<;>rfl
structure RfW (H T:Hl) (x:Nat) (st:Nat->List Pc) (sv:Nat->Value) (KB:Hl):Prop where
 bc:H x=some (.cells (Yu sv).toArray 61 (0,0))
 row:∀ i,i<6->∃ rows,pF H 40 oj (sv i) rows/\rows.length=(st i).length/\∀ (j:Nat) row p,rows[j]?=some row->(st i)[j]?=some p->SQ T KB row p
 kb:KB.le H
structure SR (H T:Hl) (x:Nat) (st:Nat->List Pc) (sv:Nat->Value) (KB:Hl):Prop extends RfW H T x st sv KB where
 kbx:¬KB.mem x
 own:∀ i b,i<6->(sv i).ownBlock=some b->¬KB.mem b/\∀ j,j<6->j≠i->(sv j).ownBlock≠some b
 form:∀ i,i<6->∀ p∈st i,p.h.Form
def oA (H T:Hl) (x:Nat) (st:Nat->List Pc):Prop:=∃ sv KB,SR H T x st sv KB
def RfV (H T:Hl) (x:Nat) (st:Nat->List Pc):Prop:=∃ sv KB,RfW H T x st sv KB
def RfW.mono (hl:H.le H') (h:RfW H T x st sv KB):RfW H' T x st sv KB:=by
 refine⟨hl _ _ h.bc,fun i hi=>?_,fun b o hb=>hl b o (h.kb b o hb)⟩;obtain⟨rows,h1,a,c⟩:=h.row i hi;exact⟨rows,⟨h1.1,h1.2.mono hl⟩,a,c⟩
def SR.mono (hl:H.le H') (h:SR H T x st sv KB):SR H' T x st sv KB:=⟨h.toRfW.mono hl,h.kbx,h.own,h.form⟩
def RfW.sl (h:RfW H T x st sv KB) (hi:i<6):H.cell x i=some (sv i)/\(∃ p l c,sv i=.slice p l c)/\bD (some (sv i)) 2=(st i).length/\bh (some (sv i)) .slice=true:=by
 obtain⟨rows,h1,a,_⟩:=h.row i hi;refine⟨?_,?_⟩
 .unfold Hl.cell;rw[h.bc];simpa using Yv sv hi
 .have ho:=h1.2;rw[a]at ho;rcases ho.2 with ⟨e,hn⟩ | ⟨_,_,_,e,_⟩
  .rw[e,hn];exact⟨⟨_,_,_,rfl⟩,rfl,rfl⟩
  .rw[e];exact⟨⟨_,_,_,rfl⟩,rfl,rfl⟩
def SR.put (h:SR H T x st sv KB) (hi:i<6) {x1:Int} 
 (hd:H.bq B) (hp:SQ T B row p) (Q:p.h.Form) (I:-1<=x1) (J:n1=(st i).length+1)
 (happ:∀ xs,aO (H.un B) 40 oj.length (sv i) (st i).length xs->aO G 40 oj.length (.slice (au x1 0) n1 c1) ((st i).length+1) (xs++row))
 (hk:∀ b,(H.un B).mem b->some b≠(sv i).ownBlock->G b=(H.un B) b)
 (hnew:some x1.toNat=(sv i).ownBlock\/¬(H.un B).mem x1.toNat\/x1= -1) :
 G x=some (.cells (Yu sv).toArray 61 (0,0))/\SR (G.put x i [.slice (au x1 0) n1 c1]) T x (pE st i (st i++[p])) (pE sv i (.slice (au x1 0) n1 c1)) (KB.un B):=by
 subst J;have v:H.le (H.un B):=Hl.aV _ _;have R:B.le (H.un B):=Hl.bg hd;have f:∀ j b,j<6->(sv j).ownBlock=some b->∃ c,H b=some (.cells c 40 (0,0)):=fun j b a hb=>by
  obtain⟨rows,h1,_⟩:=h.row j a;exact h1.2.type hb
 have l:∀ j b,j<6->(sv j).ownBlock=some b->b≠x:=fun j b a hb e=>by
  subst e;obtain⟨c,g⟩:=f j _ a hb;rw[h.bc]at g;simp at g
 have K:G x=some (.cells (Yu sv).toArray 61 (0,0)):=by
  rw[hk x (Hl.bV v (Hl.mem_of h.bc)) fun e=>l i x hi e.symm rfl];exact v _ _ h.bc
 refine⟨K,?_⟩;obtain⟨rows,ho,s,L⟩:=h.row i hi;have w:=happ rows.flatten (by have:=ho.2;rw[s]at this;exact aO.mono v this);have M:∀ j b,j<6->(sv j).ownBlock=some b->¬B.mem b:=fun j b a hb hm=>by
  obtain⟨c,g⟩:=f j b a hb;exact hd b ⟨Hl.mem_of g,hm⟩
 have N:(KB.un B).le G:=fun b o hb=>by
  have e:(H.un B) b=some o:=by
   unfold Hl.un at hb;cases d:KB b with
   | some o'=>rw[d]at hb;cases hb;exact v _ _ (h.kb _ _ d)
   | none=>rw[d]at hb;exact R _ _ hb
  rw[hk b (Hl.mem_of e) fun E=>?_,e];rcases Hl.cG.1 (Hl.mem_of hb)with h1 | h1
  .exact(h.own i b hi E.symm).1 h1
  .exact M i b hi E.symm h1
 have S:¬B.mem x:=fun hm=>hd x ⟨Hl.mem_of h.bc,hm⟩;have A:¬(KB.un B).mem x:=fun hm=>(Hl.cG.1 hm).elim h.kbx S;have m:∀ b,(Value.slice (au x1 0) ((st i).length+1) c1).ownBlock=some b->x1=b:=fun b hb=>ED hb I;have t:∀ b,(Value.slice (au x1 0) ((st i).length+1) c1).ownBlock=some b->b≠x:=fun b hb e=>by
  subst e;obtain⟨c,g⟩:=w.type hb;rw[K]at g;simp at g
 have C:∀ b,(Value.slice (au x1 0) ((st i).length+1) c1).ownBlock=some b->¬(KB.un B).mem b:=fun b hb hm=>by
  have e:=m b hb;have O:(H.un B).mem b:=(Hl.cG.1 hm).elim (fun y=>Hl.cG.2 (Or.inl (Hl.bV h.kb y))) (fun y=>Hl.cG.2 (Or.inr y));rcases hnew with h1 | h1 | h1
  .rw[e,aac]at h1;exact(Hl.cG.1 hm).elim (h.own i b hi h1.symm).1 (M i b hi h1.symm)
  .rw[e,aac]at h1;exact h1 O
  .omega
 have n:∀ j b,j<6->j≠i->(Value.slice (au x1 0) ((st i).length+1) c1).ownBlock=some b->(sv j).ownBlock≠some b:=fun j b a P hb D=>by
  have e:=m b hb;rcases hnew with h1 | h1 | h1
  .rw[e,aac]at h1;exact(h.own i b hi h1.symm).2 j a P D
  .rw[e,aac]at h1;obtain⟨c,g⟩:=f j b a D;exact h1 (Hl.cG.2 (Or.inl (Hl.mem_of g)))
  .omega
 refine⟨⟨?_,fun j a=>?_,Hl.A6 N A⟩,A,fun j b a hb=>?_,fun j a q d=>?_⟩
 .rw[Hl.rH K];simp only[af0];rw[UT _ _ hi]
 .by_cases e:j=i
  .subst e;rw[cQ,cQ];refine⟨rows++[row],?_,by simp [s],fun k r q hr d=>?_⟩
   .have:=pF.snoc (rows:=rows) ho.1 hp.1 w (by rw[s]) rfl;exact⟨this.1,this.2.at fun b hb=>Hl.rJ (t b hb)⟩
   .rcases acN k rows.length with ot | ot
    .rw[acb ot]at hr;rw[acb ah]at d;exact(L k r q hr d).mono (Hl.aV _ _)
    .rw[abO ot]at hr;rw[abO ah]at d;have hr:=aah hr;have d:=aah d;rw[aaQ]at hr d;subst hr;subst d;exact hp.mono (Hl.bg fun b ⟨y,z⟩=>hd b ⟨Hl.bV h.kb y,z⟩)
  .rw[fu _ _ e,fu _ _ e];obtain⟨rs,h1,U,V⟩:=h.row j a;refine⟨rs,⟨h1.1,h1.2.at fun b hb=>?_⟩,U,fun k r q hr d=>(V k r q hr d).mono (Hl.aV _ _)⟩;obtain⟨c,g⟩:=f j b a hb;rw[Hl.rJ (l j b a hb),hk b (Hl.bV v (Hl.mem_of g)) fun E=>(h.own j b a hb).2 i hi (Ne.symm e) E.symm,v _ _ g,g]
 .by_cases e:j=i
  .subst e;rw[cQ]at hb;refine⟨C b hb,fun k u F=>?_⟩;rw[fu _ _ F];exact n k b u F hb
  .rw[fu _ _ e]at hb;refine⟨fun hm=>(Hl.cG.1 hm).elim (h.own j b a hb).1 (M j b a hb),fun k u F=>?_⟩;by_cases D:k=i
   .subst D;rw[cQ];exact fun W=>n j b a e W hb
   .rw[fu _ _ D];exact(h.own j b a hb).2 k u F
 .by_cases e:j=i
  .subst e;rw[cQ]at d;rcases acg.1 d with h1 | h1
   .exact h.form j a q h1
   .rw[aaQ]at h1;subst h1;exact Q
  .rw[fu _ _ e]at d;exact h.form j a q d
def SR.view (h:SR H T x st sv KB) (hi:i<6) 
 (hold:∀ xs,aO H 40 oj.length (sv i) (st i).length xs->aO G 40 oj.length (sv i) (st i).length xs)
 (hk:∀ b,H.mem b->some b≠(sv i).ownBlock->G b=H b)
 (hx:G' y=some (.cells (Yu sv).toArray 61 (0,0))) (l:∀ b,b≠x->G.mem b->G' b=G b):RfW G' T y st sv KB:=by
 have d:∀ j b,j<6->(sv j).ownBlock=some b->∃ c,H b=some (.cells c 40 (0,0)):=fun j b a hb=>by
  obtain⟨rows,h1,_⟩:=h.row j a;exact h1.2.type hb
 have f:∀ j b,j<6->(sv j).ownBlock=some b->b≠x:=fun j b a hb e=>by
  subst e;obtain⟨c,g⟩:=d j _ a hb;rw[h.bc]at g;simp at g
 have m:∀ b o,KB b=some o->G b=some o:=fun b o hb=>by
  have p:=h.kb b o hb;rw[hk b (Hl.mem_of p) fun e=>(h.own i b hi e.symm).1 (Hl.mem_of hb)];exact p
 refine⟨hx,fun j a=>?_,fun b o hb=>?_⟩
 .obtain⟨rows,h1,n,r⟩:=h.row j a;refine⟨rows,⟨h1.1,?_⟩,n,r⟩;by_cases e:j=i
  .subst e;have q:=hold rows.flatten (by have:=h1.2;rw[n]at this;exact this);rw[n];refine q.at fun b hb=>l b (f j b a hb) ?_;obtain⟨c,g⟩:=q.type hb;exact Hl.mem_of g
  .refine h1.2.at fun b hb=>?_;obtain⟨c,g⟩:=d j b a hb;have k:=hk b (Hl.mem_of g) fun s=>(h.own j b a hb).2 i hi (Ne.symm e) s.symm;rw[l b (f j b a hb) (Hl.mem_of (k.trans g)),k]
 .have k:=m b o hb;rw[l b (fun e=>h.kbx (e▸Hl.mem_of hb)) (Hl.mem_of k),k]
def PD (hS:lL st):IntKind.i64.wrap (IntKind.i64.wrap (IntKind.i64.wrap (IntKind.i64.wrap (IntKind.i64.wrap (IntKind.i64.wrap ((st 0).length:Int)+(st 1).length)+(st 2).length)+(st 3).length)+(st 4).length)+(st 5).length)=gF st:=by
 have h0:=hS 0 ah;have h1:=hS 1 ah;have a:=hS 2 ah;have b:=hS 3 ah;have c:=hS 4 ah;have d:=hS 5 ah;rw[wrap_i64 (n:=((st 0).length:Int)) ah ah,wrap_i64 (n:=((st 0).length:Int)+_) ah ah,wrap_i64 (n:=((st 0).length:Int)+_+_) ah ah,wrap_i64 (n:=((st 0).length:Int)+_+_+_) ah ah,wrap_i64 (n:=((st 0).length:Int)+_+_+_+_) ah ah,wrap_i64 (n:=((st 0).length:Int)+_+_+_+_+_) ah ah];unfold gF;omega
noncomputable def HK (rt:Nat):Sx.Spec where
 fn:=23
 own:=[.arg 0]
 rd:=[rt,2000000]
 res:=[.one (.int .i64)]
 pre:=fun xs Hs Rs=>∃ x H B row T RG st p,xs=[.pointer (some ⟨x,0,none⟩),.agg row.toArray]/\Hs=[H.un B]/\Rs=[T,RG]/\H.bq B/\oA H T x st/\lL st/\(∀ i,i<6->(st i).length<=100000)/\SQ T B row p/\p.b.length<=900000/\yT RG 0
 post:=fun xs Hs Rs v Hs' F=>∃ x H B row T RG st p H',xs=[.pointer (some ⟨x,0,none⟩),.agg row.toArray]/\Hs=[H.un B]/\Rs=[T,RG]/\H.bq B/\oA H T x st/\SQ T B row p/\Hs'=[H']/\v=.int .i64 (cx st p)/\oA H' T x (fU st p)/\B.le H'/\∀ o y,H x=some o->∀ G',G' y=some o->(∀ b,b≠x->H'.mem b->G' b=H' b)->RfV G' T y st/\(y=x->oA G' T x st)
def R8:Nd:=(fun o b i q n=>(fun a c d g h k=>(fun p=>(fun f l=>(fun j m=>(.ext (.alloc 136) (.and (.pre k) (.ext k (.and (.imp (.not (.bvar 137)) (.post [.hp 133 [] n [],.ro 134 [] true,.ro 135 q false,.dead] (.sv (.one (.int .i64 o))))) (.imp (.bvar 137) (.and (.e (.le i b)) (.and (.e (.le i a)) (.and (.e (.lt a (.lit 6))) (.and (.e (.his 133 b a 0 .slice)) (.and (.pre m) (.ext m (.and (.pre d) (.ext d (.and (.imp (.not (.eq (.var 142) i)) (.post g (.sv (.one (.int .i64 (.var 142)))))) (.imp (.eq (.var 142) i) (.and (.pre h) (.ext h (.and (.imp (.not (.bvar 143)) (.post g (.sv (.one (.int .i64 (.lit 2)))))) (.imp (.bvar 143) (.and (.e (.his 133 b i 0 .slice)) (.and (.e (.le i (.hP 133 b i 0 2))) (.and (.e (.his 133 b o 0 .slice)) (.and (.e (.le i (.hP 133 b o 0 2))) (.and (.e (.his 133 b (.lit 2) 0 .slice)) (.and (.e (.le i (.hP 133 b (.lit 2) 0 2))) (.and (.e (.his 133 b (.lit 3) 0 .slice)) (.and (.e (.le i (.hP 133 b (.lit 3) 0 2))) (.and (.e (.his 133 b (.lit 4) 0 .slice)) (.and (.e (.le i (.hP 133 b (.lit 4) 0 2))) (.and (.e (.his 133 b (.lit 5) 0 .slice)) (.and (.e (.le i (.hP 133 b (.lit 5) 0 2))) (.and (.imp c (.post g (.sv (.one (.int .i64 (.lit 4)))))) (.imp (.not c) (.ext (.alloc 144) (.and (.pre j) (.ext j (.and (.pre l) (.ext l (.post [.hp 147 [145,133] [.var 145,.var 0] [],.ro 134 [] true,.ro 135 q false,.dead,.hp 138 [] [.var 138] [],.dead] (.sv (.one (.int .i64 i))))))))))))))))))))))))))))))))))))))))):Nd)) (.app 145 40 126 256 f p (.hp 133 [] n []) (.cvs (aj 1 Cu) 1)) (.call 1 138 [.sv (.one f)] [] [.hp 133 [] n []])) (.sl (.hP 133 b a 0 0) (.hP 133 b a 0 1) p (.hP 133 b a 0 3)) (.put 147 145 b a [.sl (.var 145) i (.add p o) (.var 146)])) (.hP 133 b a 0 2)) (.wrap .i64 (.sub (.var 1) o)) (.le (.lit 400) (.wrap .i64 (.add (.wrap .i64 (.add (.wrap .i64 (.add (.wrap .i64 (.add (.wrap .i64 (.add (.wrap .i64 (.hP 133 b i 0 2)) (.hP 133 b o 0 2))) (.hP 133 b (.lit 2) 0 2))) (.hP 133 b (.lit 3) 0 2))) (.hP 133 b (.lit 4) 0 2))) (.hP 133 b (.lit 5) 0 2)))) (.call 2 142 [.sv (.one (.int .i64 (.var 1))),.sv (.one (.sl (.var 138) (.var 139) (.var 140) (.var 141))),.sv (.agg (aj 1 bJ))] [] [.hp 138 [] [.var 138] [],.hp 133 [] n [],.ro 134 [] true,.ro 135 q false]) [.hp 133 [] n [],.ro 134 [] true,.ro 135 q false,.dead,.hp 138 [] [.var 138] []] (.call 3 143 [.sv (.agg (aj 1 Cu))] [] [.hp 133 [] n [],.ro 134 [] true,.ro 135 q false]) (.call 0 137 [.sv (.agg (aj 1 bJ))] [] [.hp 133 [] n [],.ro 134 [] true])) (.lit 1) (.var 0) (.lit 0) [.lit 0] [.var 0]
noncomputable def ruΓ:List Sx.Spec:=[Vo (fS 46) [6000000,6000001],mn,Vo Hm [1,6000000,6000001,2000000],Vo zM [6000000,6000001,2000000]]
def YN:∀ t∈ruΓ,t.OK Tryz.prog:=ak (Ff xt) <| ak wv <| ak (Ff Rz) <| ak (Ff J4) <| bu
def aeO:(Vo (fS 46) [6000000,6000001]).res=[.one .bool]:=rfl
def aeP:mn.res=[.one .sl]:=rfl
def aeQ:(Vo Hm [1,6000000,6000001,2000000]).res=[.one (.int .i64)]:=rfl
def aeR:(Vo zM [6000000,6000001,2000000]).res=[.one .bool]:=rfl
noncomputable def HM:aD Tryz.prog ruΓ 23 where
 Λ:=aA
 args:=TP (.var 0) (.lit 0)::(bQ 1 [.agg Cu]).map .sv
 mem:=[.hp 133 [] [.var 0] [],.ro 134 [] true,.ro 135 [.lit 0] false]
 nv:=136
open Classical in
set_option maxRecDepth 20000 in
def Sa (rt:Nat):(HK rt).OK Tryz.prog:=by
 refine Spec.cM (Γ:=ruΓ) YN ?_;rintro xs Hs Rs aF aG ⟨x,H,B,row,T,RG,st,p,rfl,rfl,rfl,s,hI,hS,ak,hx,hlen,F⟩;obtain⟨J,va,rfl,hh,R⟩:=EJ (a:=(x:Int)) [(133,H.un B),(134,T),(135,RG)] hx.1;have w1:J.h 133=H.un B:=hh 133;have w2:J.h 134=T:=hh 134;have w3:J.h 135=RG:=hh 135;refine⟨HM,J,fun _ _=>True,fun _ _=>0,?_,⟨?_,?_,?_,?_⟩,(fun _ h=>nomatch h),?_⟩
 .show [Value.pointer (au (J.i 0) 0),.agg ((aj 1 fI).map (CV.ev J)).toArray]=_;rw[va,av ah];rfl
 .intro r hr ho;simp [HM]at hr;rcases hr with rfl | rfl | rfl
  .exact⟨H.un B,aC,by show(J.h 133).le _;rw[w1];exact Hl.le_refl _⟩
  all_goals cases ho
 .intro r hr ho;simp [HM]at hr;rcases hr with rfl | rfl | rfl
  .cases ho
  .exact⟨T,aC,by show(J.h 134).le T;rw[w2];exact Hl.le_refl _⟩
  .exact⟨RG,aC,by show(J.h 135).le RG;rw[w3];exact Hl.le_refl _⟩
 .simp [HM,bo.own]
 .intro r hr;simp [HM]at hr;rcases hr with rfl | rfl | rfl<;>trivial
 refine aD.lit (x:=R8) ?_;unfold R8;simp only[go_sem,Nat.reduceAdd,ruΓ,aeO,aeP,aeQ,aeR,Om];generalize w:(aj 1 fI).map (CV.ev J)=row at *;have S:(aj 1 bJ).map (CV.ev J)=row.take 125:=by rw[<-w,sN]
 have V:∀ q:Env,ai 136 J q->q.i 0=x/\q.h 133=H.un B/\q.h 134=T/\q.h 135=RG/\(aj 1 bJ).map (CV.ev q)=row.take 125/\(aj 1 Cu).map (CV.ev q)=row/\q.i 1=J.i 1:=fun q g=>by
  refine⟨by rw[g.i 0,va],by rw[g.h 133,w1],by rw[g.h 134,w2],by rw[g.h 135,w3],?_,?_,g.i 1⟩
  .rw[<-S];exact ach Array.toList (Value.agg.inj (fQ (ks:=bJ) (n:=1) g az))
  .rw[<-w];exact ach Array.toList (Value.agg.inj (fQ (ks:=fI) (n:=1) g az))
 have lB:B.le (H.un B):=Hl.bg s;have hU:∀ {U:Hl},T.le U->(H.un B).le U->cH U U row p:=fun a b=>hx.2 _ a fun k o hb=>b k o (lB k o hb);have A:row=row.take 125++[row.getD 125 ou]:=kOw hx.1;obtain⟨sv,KB,v⟩:=id hI;have d:SR (H.un B) T x st sv KB:=v.mono (Hl.aV _ _);have m:∀ {q:Env} {t:Mem} {e:E},q.h 133=H.un B->aw q e=cx st p->cx st p≠0->postOf (HK rt) [.pointer (some ⟨x,0,none⟩),.agg row.toArray] [H.un B] [T,RG] q (.hp 133 [] [.var 0] []::t) (.sv (.one (.int .i64 e))):=by
  intro q t e h1 h2 h3 _;refine⟨[[0]],[],rfl,rfl,⟨(ba fun _=>aw q e),rfl,zzT,zzT⟩,x,H,B,_,T,RG,st,p,_,rfl,rfl,rfl,s,hI,hx,rfl,by rw[<-h2];rfl,?_,?_,?_⟩
  .unfold fU;rw[aa8 h3];show oA (bY [q.h 133]) _ _ _;rw[aJ,h1];exact⟨sv,KB,d⟩
  .show B.le (bY [q.h 133]);rw[aJ,h1];exact Hl.bg s
  .intro o y ho G' K f;have f:∀ b,b≠x->(bY [q.h 133]).mem b->G' b=(bY [q.h 133]) b:=f;rw[aJ,h1]at f;have hw:=v.view (G':=G') (y:=y) (i:=0) ah (fun _ h=>aO.mono (Hl.aV _ _) h) (fun b hb _=>by obtain⟨o',W⟩:=acH.1 hb;rw[Hl.qu W,W]) (by rw[K,<-ho,v.bc]) f;exact⟨⟨sv,KB,hw⟩,fun e=>⟨sv,KB,e▸hw,v.kbx,v.own,v.form⟩⟩
 intro q1 g1 p1;obtain⟨v0,x1,x2,x3,xr,aH,_⟩:=V q1 g1;rw[xr,x1,x2];refine⟨fun U u=>⟨_,U,p.h,rfl,rfl,(hU (u _ aC) (u _ aC)).hd⟩,fun q2 g2 ⟨F2,⟨U,u,al⟩,_⟩=>?_⟩;have X:=hU (u T aC) (u _ aC);have hd:=X.hd;have L:cI p.h.c 0=J.i 1:=by
  have e1:cI p.h.c 0=cI (row.take 125) 0:=hd.I az;rw[e1,<-S];rfl
 have G2:ai 136 J q2:=g1.tr g2;have Y:q2.b 137=decide p.h.Form:=Value.bool.inj (mE hd al);obtain⟨y0,y1,y2,y3,yr,aI,y5⟩:=V q2 G2;refine⟨fun hb=>?_,fun hb=>?_⟩
 .have Z:¬p.h.Form:=by rw[Y]at hb;simpa using hb
  have e:cx st p=1:=by unfold cx;rw[ab9 Z]
  exact m y1 e.symm (by rw[e];decide)
 have Z:p.h.Form:=by rw[Y]at hb;simpa using hb
 have D:¬¬p.h.Form:=fun g=>g Z;have hw:=Eh Z;have M:IntKind.i64.wrap (J.i 1-1)=((cI p.h.c 0-1).toNat:Nat):=by rw[L,IntKind.wrap_i64];rw[L]at hw;omega
 generalize hi:(cI p.h.c 0-1).toNat=i at *;have l:i<6:=ah;have an:J.i 1=cI p.h.c 0:=L.symm;obtain⟨c1,aa,cl,cs⟩:=d.sl l;have N:(H.un B).cell ((x:Int)).toNat (Int.toNat ((i:Nat):Int))=some (sv i):=by rw[aac,aac];exact c1
 obtain⟨rows,ho,ab,ao⟩:=d.row i l;have aK:=ak i l;rw[y0,y1,y5,M,N,iH aa];refine⟨ah,ah,ah,cs,⟨_,_,rows,rfl,rfl,ho.rd,ah⟩,fun q3 g3 ⟨F3,aq,ar,aL⟩=>?_⟩;have O:=aq _ _ _ rfl rfl ho.rd;rw[<-ar zzT]at O;have G:∀ {U:Hl},T.le U->(H.un B).le U->gG U (rows.map (List.take 125)) (pD st i):=fun {U} a b=>by
  refine⟨by unfold pD;rw[aca,aca,ab],fun j r h hr hh=>?_⟩;unfold pD at hh;rw[abl]at hr hh;obtain⟨r0,AO,rfl⟩:=aaH.1 hr;obtain⟨p0,P,rfl⟩:=aaH.1 hh;exact((ao j r0 p0 AO P).2 U a fun k o hb=>b k o (d.kb k o hb)).hd
 have ax:∀ g∈pD st i,g.Form:=fun g hg=>by
  obtain⟨p0,P,rfl⟩:=acw.1 hg;exact v.form i l p0 P
 have G3:ai 136 J q3:=G2.tr g3;obtain⟨z0,z1,z2,z3,zr,aM,z5⟩:=V q3 G3;rw[zr,z1,z2,z3,z5];have ay:(rows.map (List.take 125)).length<=100000:=by rw[aca];omega
 refine⟨fun U u=>⟨_,_,_,U,U,U,U,_,_,p.h,rfl,rfl,gb O (u _ aC),G (u T aC) (u _ aC),ax,(hU (u T aC) (u _ aC)).hd,ay,F.mono (u _ aC)⟩,fun q4 g4 ⟨F4,⟨U4,u4,aA⟩,_⟩=>?_⟩;have C:q4.i 142=iy (cI p.h.c 0) (pD st i) p.h:=by
  have:=aA _ _ _ U4 U4 U4 U4 _ _ _ rfl rfl (gb O (u4 _ aC)) (G (u4 T aC) (u4 _ aC)) (hU (u4 T aC) (u4 _ aC)).hd;rw[an]at this;simpa using this
 have G4:ai 136 J q4:=G3.tr g4;obtain⟨u0,u1,u2,u3,ur,aB,u5⟩:=V q4 G4;refine⟨fun ad=>?_,fun heq=>?_⟩
 .have e:cx st p=q4.i 142:=by unfold cx;rw[aa8 D,hi,ab9 (by rw[<-C];exact ad)];exact C.symm
  exact m u1 e.symm (by rw[e];exact ad)
 have h0:¬iy (cI p.h.c 0) (pD st i) p.h≠0:=fun g=>g (C.symm.trans heq);rw[aB,u1,u2,u3];refine⟨fun U u=>⟨row.take 125,row.getD 125 ou,p.b,U,U,by rw[<-A],rfl,hd.ok,(hU (u T aC) (u _ aC)).body,X.byte,hlen,F.mono (u _ aC)⟩,fun q5 g5 ⟨F5,⟨U5,u5,Q⟩,_⟩=>?_⟩;have Q:=Q (row.take 125) (row.getD 125 ou) p.b U5 U5 (by rw[<-A]) rfl (hU (u5 T aC) (u5 _ aC)).body;have ae:q5.b 143=ef p.h.c p.b:=by rw[<-uV hd];exact Value.bool.inj Q
 have G5:ai 136 J q5:=G4.tr g5;obtain⟨k0,k1,k2,k3,kr,aN,k5⟩:=V q5 G5;refine⟨fun hb=>?_,fun hb=>?_⟩
 .have e:cx st p=2:=by unfold cx;rw[aa8 D,hi,aa8 h0,ab9 (by rw[<-ae];simpa using hb)]
  exact m k1 e.symm (by rw[e];decide)
 have af:¬ef p.h.c p.b=false:=by rw[<-ae,hb];decide
 have c:∀ j:Nat,j<6->(H.un B).cell ((x:Int)).toNat (Int.toNat ((j:Nat):Int))=some (sv j):=fun j hj=>by rw[aac,aac];exact(d.sl hj).1
 have a0:(H.un B).cell ((x:Int)).toNat (Int.toNat 0)=some (sv 0):=c 0 ah;have a1:(H.un B).cell ((x:Int)).toNat (Int.toNat 1)=some (sv 1):=c 1 ah;have a2:(H.un B).cell ((x:Int)).toNat (Int.toNat 2)=some (sv 2):=c 2 ah;have a3:(H.un B).cell ((x:Int)).toNat (Int.toNat 3)=some (sv 3):=c 3 ah;have a4:(H.un B).cell ((x:Int)).toNat (Int.toNat 4)=some (sv 4):=c 4 ah;have a5:(H.un B).cell ((x:Int)).toNat (Int.toNat 5)=some (sv 5):=c 5 ah;obtain⟨_,_,l0,s0⟩:=d.sl (i:=0) ah;obtain⟨_,_,l1,s1⟩:=d.sl (i:=1) ah;obtain⟨_,_,l2,s2⟩:=d.sl (i:=2) ah;obtain⟨_,_,l3,s3⟩:=d.sl (i:=3) ah;obtain⟨_,_,l4,s4⟩:=d.sl (i:=4) ah;obtain⟨_,_,l5,s5⟩:=d.sl (i:=5) ah;rw[k0,k1,a0,a1,a2,a3,a4,a5,l0,l1,l2,l3,l4,l5,PD hS];refine⟨s0,ah,s1,ah,s2,ah,s3,ah,s4,ah,s5,ah,fun h4=>?_,fun h4=>?_⟩
 .have e:cx st p=4:=by unfold cx;rw[aa8 D,hi,aa8 h0,aa8 af,ab9 h4]
  exact m k1 e.symm (by rw[e];decide)
 have e0:cx st p=0:=by unfold cx;rw[aa8 D,hi,aa8 h0,aa8 af,aa8 h4]
 intro q6 g6 p6;have G6:ai 136 J q6:=G5.tr g6;obtain⟨m0,m1,m2,m3,mr,aE,m5⟩:=V q6 G6;have aP:=hS i l;rw[m0,m1,m5,M,N,iH aa,cl,aE,aac];refine⟨⟨⟨rows.flatten,by have:=ho.2;rw[ab]at this;exact this⟩,ah,by unfold maxLen;omega,ah⟩,fun q7 g7 ⟨b1,b2,happ,ag,⟨_,hold⟩,R⟩=>?_⟩;have G7:ai 136 J q7:=G6.tr g7;obtain⟨n0,n1,n2,n3,nr,aQ,n5⟩:=V q7 G7;obtain⟨kx,kD⟩:=v.put l s hx Z b1 rfl happ ag R;have en:(((st i).length:Int)+1).toNat=(st i).length+1:=ah;rw[n0,n1,n5,M,N,cl,en,aac,aac];refine⟨⟨ah,ah,jM kx (by show i+1<=6;omega)⟩,fun q8 g8 p8 _=>?_⟩;refine⟨[[0]],[],rfl,rfl,⟨(ba fun _=>0),rfl,zzT,zzT⟩,x,H,B,_,T,RG,st,p,_,rfl,rfl,rfl,s,hI,hx,rfl,by rw[e0];rfl,?_,?_,?_⟩
 .unfold fU;rw[ab9 e0,hi];show oA (bY [q8.h 147]) _ _ _;rw[aJ,p8];exact⟨_,_,kD⟩
 .show B.le (bY [q8.h 147]);rw[aJ,p8];exact fun b o hb=>kD.kb b o (Hl.bg (fun b ⟨y,z⟩=>s b ⟨Hl.bV v.kb y,z⟩) b o hb)
 .intro o y ho G' K f;have f:∀ b,b≠x->(bY [q8.h 147]).mem b->G' b=(bY [q8.h 147]) b:=f;rw[p8,aJ]at f;have hw:=d.view (G':=G') (y:=y) l hold ag (by rw[K,<-ho,v.bc]) fun b hb hm=>by
   rw[f b hb (Hl.ic.2 hm)];exact Hl.rJ hb
  exact⟨⟨sv,KB,hw⟩,fun e=>⟨sv,KB,e▸hw,v.kbx,v.own,v.form⟩⟩
noncomputable def mz (st:Nat->List Pc) (cv:Nat->Int) (most:Int):List Pc:=(dJ st (iS cv) 401).take (min most 8).toNat
def Od {X:List Value->Pc->Prop} {L:List Pc} (hl:rows.length=L.length) (h:∀ (j:Nat) row p,rows[j]?=some row->L[j]?=some p->X row p) (hx:X row p):∀ (j:Nat) row' b,(rows++[row])[j]?=some row'->(L++[p])[j]?=some b->X row' b:=fun j row' b h1 a=>by
 rcases acN j rows.length with c | c
 .rw[acb c]at h1;rw[acb ah]at a;exact h j _ _ h1 a
 .rw[abO c]at h1;rw[abO ah]at a;have e1:=aah h1;have d:=aah a;rw[aaQ]at e1 d;subst e1 d;exact hx
def KU (cv:Nat->Int):Value:=.agg #[.int .u64 (cv 0),.int .u64 (cv 1),.int .u64 (cv 2),.int .u64 (cv 3),.int .u64 (cv 4),.int .u64 (cv 5)]
def yH {α:Type} {st st':Nat->List α} {cur cur':Nat->Nat} (h:∀ i,i<6->st i=st' i) (a:∀ i,i<6->cur i=cur' i):∀ n,dJ st cur n=dJ st' cur' n
 | 0=>rfl
 | n+1=>by
  rw[dJ,dJ,yH h a n];have:∀ i,i<=6->gh st cur n i=gh st' cur' n i:=fun i=>by
   induction i with
   | zero=>intro _;rfl
   | succ i ih=>intro hi;rw[gn,gn,ih ah,h i ah,a i ah]
  rw[this 6 ah]
def ve (h:∀ i,i<6->st i=st' i) (a:∀ i,i<6->cv i=cv' i) (most:Int):mz st cv most=mz st' cv' most:=by
 unfold mz;rw[yH (cur':=iS cv') h (fun i hi=>by unfold iS;rw[a i hi])]
def KV (h:KU cv=KU cv'):∀ i,i<6->cv i=cv' i:=by
 simp only[KU,Value.agg.injEq,acp,aae,Value.int.injEq,acu,abw]at h;obtain⟨h0,h1,a,b,c,d⟩:=h;intro i hi;have:i=0\/i=1\/i=2\/i=3\/i=4\/i=5:=ah;rcases this with rfl | rfl | rfl | rfl | rfl | rfl<;>assumption
def ad6:mtS.res=[.one .bool]:=rfl
end Go.Proofs.YtbdikjnpbnobcaaGreatDoor
