/- Bytes that are no request are told nothing and change nothing: a part of the proof. No condition. -/
import Derived.Test.YtbdikjnpbnobcaaGreatDoorTI
set_option linter.all false
set_option maxHeartbeats 4000000
namespace Go.Proofs.YtbdikjnpbnobcaaGreatDoor
open Go Go.Sx Go.Pk
variable {qq:Env}{f:FuncId}{h1 h2:Hd}{F S1 S2 S3:Hl}{S T w:List (List Int)}{Hs:List Hl}{t:List Int}{r1 r2:List Value}{mem:Mem}{i k:Nat}
def eqs (f g:Nat->Int):Nat->Nat->Prop
 | _,0=>True
 | n,1=>f n=g n
 | n,k+2=>f n=g n/\eqs f g (n+1) (k+1)
def vo {f g:Nat->Int} : ∀ (k n:Nat),eqs f g n k↔∀ j,j<k->f (n+j)=g (n+j)
 | 0,n=>⟨fun _ j h=>ae,fun _=>trivial⟩
 | 1,n=>⟨fun h j a=>(by cases j with
  | zero=>exact h
  | succ j=>omega),fun h=>h 0 ae⟩
 | k+2,n=>by
  show(f n=g n/\eqs f g (n+1) (k+1))↔_;rw[vo (k+1) (n+1)];constructor
  .rintro⟨h0,h⟩ j a;cases j with
   | zero=>exact h0
   | succ j=>have:=h j ae;rwa[show n+1+j=n+(j+1)by omega]at this
  .exact fun h=>⟨h 0 ae,fun j a=>by have:=h (j+1) ae;rwa[show n+(j+1)=n+1+j by omega]at this⟩
def pY {f g:Nat->Int} {s:List Int} (hs:s.length=16) (b:t.length=16) (hf:∀ j,j<16->f j=s.getD j 0) (hg:∀ j,j<16->g j=t.getD j 0):eqs f g 0 16↔s=t:=by
 rw[vo];constructor
 .intro h;apply Ni;intro j;by_cases a:j<16
  .have e:=h j a;rw[Nw,hf j a,hg j a,MR,MR,ME ae,ME ae]at e;rw[ME ae,ME ae];exact Ns some e
  .rw[MS ae,MS ae]
 .rintro rfl j a;rw[Nw,hf j a,hg j a]
open Classical in
noncomputable def equalS:Sx.Spec where
 fn:=175
 own:=[]
 rd:=[0,1]
 res:=[.one .bool]
 pre:=fun xs Hs Rs=>∃ (u v:Value) (R1 R2:Hl) (S T:List (List Int)),xs=[u,v]/\Rs=[R1,R2]/\RdRows R1 u dg (S.map bys)/\RdRows R2 v dg (T.map bys)/\bO S/\bO T
 post:=fun xs Hs Rs w Hs' F=>∃ (u v:Value) (R1 R2:Hl) (S T:List (List Int)),xs=[u,v]/\Rs=[R1,R2]/\RdRows R1 u dg (S.map bys)/\RdRows R2 v dg (T.map bys)/\w=.bool (decide (S=T))
def mW:Walk Tryz.prog [] 175 where
 Λ:=fun p=>if xF p then some ⟨0,[(13,TI .i64 (.var 20))],[],22⟩else none
 args:=[.sv (.one (.sl (.var 0) (.var 1) (.var 2) (.var 3))),.sv (.one (.sl (.var 4) (.var 5) (.var 6) (.var 7)))]
 mem:=[.ro 8 [.var 0] false,.ro 9 [.var 4] false]
 nv:=10
def iF {R:Hl} {x y:Int} (hy:0<=y) (d:∀ (i:Nat) row,(T.map bys)[i]?=some row->rowOK row dg/\∀ j u,row[j]?=some u->R.cell x.toNat (y.toNat+i*dg.length+j)=some u) (e:T[i]?=some t) (hl:t.length=16) :
 cellBytes R x.toNat (y+(i:Int)*16).toNat 16=true/\∀ j,j<16->valI (R.cell x.toNat ((y+(i:Int)*16).toNat+j))=t.getD j 0:=by
 have h1:=(d i (bys t) (by rw[MU,e];rfl)).2;have hlen:dg.length=16:=rfl;rw[hlen]at h1;have b:(y+(i:Int)*16).toNat=y.toNat+i*16:=ae;have c:∀ j,j<16->R.cell x.toNat (y.toNat+i*16+j)=some (.int .u8 (t.getD j 0)):=fun j a=>by
  rw[h1 j (.int .u8 (t[j])) (by unfold bys;rw[MU,ME ae];rfl),MR,ME ae];rfl
 rw[b];constructor
 .unfold cellBytes;rw[M8];intro j a;rw[c j (Nn.1 a)];rfl
 .intro j a;rw[c j a];rfl
def Ht (f g:Nat->Int):(f 0=g 0/\f 1=g 1/\f 2=g 2/\f 3=g 3/\f 4=g 4/\f 5=g 5/\f 6=g 6/\f 7=g 7/\f 8=g 8/\f 9=g 9/\f 10=g 10/\f 11=g 11/\f 12=g 12/\f 13=g 13/\f 14=g 14/\f 15=g 15)↔eqs f g 0 16:=Qd
def oY:equalS.OK Tryz.prog:=by
 refine Spec.of_fn (Γ:=[]) (fun _ h=>by cases h) ?_;rintro xs Hs Rs o B ⟨u,v,R1,R2,S,T,rfl,rfl,w,hQ,hS,hT⟩;have e0:Hs=[]:=MF.1 o;subst e0;obtain⟨x,y,c,rfl,hy,d⟩:=id w;obtain⟨x',y',c',rfl,m,b⟩:=id hQ;refine⟨mW,envI [x,y,S.length,c,x',y',T.length,c'] false [Hl.none,Hl.none,Hl.none,Hl.none,Hl.none,Hl.none,Hl.none,Hl.none,R1,R2],fun _ q=>∃ i:Nat,q.i 20=i/\i<=S.length/\∀ k,k<i->S[k]?=T[k]?,fun _ q=>(S.length-q.i 20).toNat,?_,⟨?_,?_,?_,?_⟩,(fun _ h=>nomatch h),?_⟩
 .rw[M7,M7];show [Value.slice (slP x y) ((S.length:Int)).toNat ((c:Int)).toNat,Value.slice (slP x' y') ((T.length:Int)).toNat ((c':Int)).toNat]=_;rw[MD,MD,MD,MD]
 .intro r hr ho;simp [mW]at hr;rcases hr with rfl | rfl<;>cases ho
 .intro r hr ho;simp [mW]at hr;rcases hr with rfl | rfl
  .exact⟨R1,ar,Hl.le_refl _⟩
  .exact⟨R2,ar,Hl.le_refl _⟩
 .simp [mW,Res.own]
 .intro r hr;simp [mW]at hr;rcases hr with rfl | rfl<;>trivial
 .refine Walk.read [] [] [] ?_;generalize a:envI [x,y,S.length,c,x',y',T.length,c'] false [Hl.none,Hl.none,Hl.none,Hl.none,Hl.none,Hl.none,Hl.none,Hl.none,R1,R2]=J;have v0:J.i 0=x:=by rw[<-a];rfl
  have v1:J.i 1=y:=by rw[<-a];rfl
  have v2:J.i 2=S.length:=by rw[<-a];rfl
  have v4:J.i 4=x':=by rw[<-a];rfl
  have C:J.i 5=y':=by rw[<-a];rfl
  have v6:J.i 6=T.length:=by rw[<-a];rfl
  have D:J.h 8=R1:=by rw[<-a];rfl
  have w9:J.h 9=R2:=by rw[<-a];rfl
  clear a;have out:∀ {q:Env} {e:E} {mem:Mem},(bev q e=true↔S=T)->postOf equalS [.slice (slP x y) (S.map bys).length c,.slice (slP x' y') (T.map bys).length c'] [] [R1,R2] q mem (.sv (.one (.bool e))):=by
   intro q e mem he _;exact⟨[],[],rfl,rfl,⟨⟨fun _=>0,fun _=>bev q e,fun _=>.empty,fun _=>.tuple #[],fun _=>Hl.none⟩,rfl,zzT,zzT⟩,_,_,R1,R2,S,T,rfl,rfl,w,hQ,gO he⟩
  simp only[go_sem,Nat.reduceAdd];rw[v2,v6];refine⟨ae,ae,fun p=>out ⟨fun e=>(by rw[bev_ff]at e;cases e),fun e=>absurd (by rw[e]) p⟩,fun hl=>⟨⟨0,rfl,NO _,fun k hk=>ae⟩,fun q g ⟨i,z,hi,hk⟩=>?_⟩⟩;rw[g.i 2,v2,z,g.i 0,v0,g.i 1,v1,g.h 8,D,g.i 4,v4,g.i 5,C,g.h 9,w9,g.i 6,v6];have F:=hS.1;have A:IntKind.i64.wrap (q.i 20+1)=((i+1:Nat):Int):=by rw[z,IntWalk.i64_in _ ae];omega
  refine⟨fun h=>?_,fun h=>out ⟨fun _=>?_,fun _=>bev_tt q⟩⟩
  .have HQ:i<S.length:=ae;have f:i<T.length:=ae;rcases d with hn | ⟨hx,G⟩
   .rw[N9]at hn;rw[hn]at HQ;cases HQ
   rcases b with hn | ⟨s,t⟩
   .rw[N9]at hn;rw[hn]at f;cases f
   have hs:S[i]?=some S[i]:=ME HQ;have n:T[i]?=some T[i]:=ME f;have m1:=(hS.2 _ (MG hs)).1;have m2:=(hT.2 _ (MG n)).1;obtain⟨b1,c1⟩:=iF hy G hs m1;obtain⟨b2,c2⟩:=iF m t n m2;have E:=(Ht (fun j=>valI (R1.cell x.toNat ((y+(i:Int)*16).toNat+j))) (fun j=>valI (R2.cell x'.toNat ((y'+(i:Int)*16).toNat+j)))).trans (pY m1 m2 c1 c2);refine⟨hx,hy,ae,b1,s,m,ae,b2,fun hn=>out ⟨fun e=>(by rw[bev_ff]at e;cases e),fun e=>absurd (E.2 ?_) hn⟩,fun he=>⟨⟨i+1,A,ae,fun k H=>?_⟩,?_⟩⟩
   .have:=hs.symm.trans ((Ns (fun l=>l[i]?) e).trans n);exact Nx this
   .rcases ND k i with h1 | h1
    .exact hk k h1
    .obtain rfl:k=i:=ae;rw[hs,n,E.1 he]
   .show((S.length:Int)-IntKind.i64.wrap (q.i 20+1)).toNat<_;rw[A];omega
  .apply Ni;intro k;by_cases I:k<S.length
   .exact hk k ae
   .rw[MS ae,MS ae]
open Classical in
noncomputable def lL:Sx.Spec where
 fn:=142
 own:=[]
 rd:=[10053,10153]
 res:=[.one .bool]
 pre:=fun xs Hs Rs=>∃ r1 r2 R1 R2 h1 h2,xs=[.agg r1.toArray,.agg r2.toArray]/\Rs=[R1,R2]/\aG R1 r1 h1/\aG R2 r2 h2
 post:=fun xs Hs Rs v Hs' F=>∃ r1 r2 R1 R2 h1 h2,xs=[.agg r1.toArray,.agg r2.toArray]/\Rs=[R1,R2]/\aG R1 r1 h1/\aG R2 r2 h2/\v=.bool (decide (h1=h2))
noncomputable def sL:Walk Tryz.prog [bR 91,gr 140,equalS] 142 where
 Λ:=noLoops
 args:=(cpSVs 0 [.agg aI,.agg aI]).map .sv
 mem:=[.ro 300 [.var 53] false,.ro 301 [.var 181] false]
 nv:=302
def C2 {q:Env} : (av q 0).set 53 (.bool false)=(av q 128).set 53 (.bool false)↔q.i 0=q.i 128/\q.i 1=q.i 129/\eqs q.i (fun k=>q.i (k+128)) 2 32/\q.i 34=q.i 162/\(q.b 35=q.b 163)/\q.i 36=q.i 164/\eqs q.i (fun k=>q.i (k+128)) 37 16/\eqs q.i (fun k=>q.i (k+128)) 57 6/\eqs q.i (fun k=>q.i (k+128)) 63 32/\q.i 95=q.i 223/\eqs q.i (fun k=>q.i (k+128)) 96 32:=by
 simp only[av,aI,List.replicate,OD,N1,ckCVs,Ck.cv,Ck.len,i64,M6,NN,List.set_cons_succ,List.set_cons_zero,CV.ev,iev_var,bev_bvar,Nw,Ow,Nat.reduceAdd,MH,Value.int.injEq,Value.bool.injEq,Nz,MZ,eqs,and_assoc]
def De {R1 R2:Hl} (h1:rowOK r1 cj) (h2:rowOK r2 cj):∃ q:Env,r1=av q 0/\r2=av q 128/\q.h 300=R1/\q.h 301=R2:=by
 obtain⟨q1,_,_,e1⟩:=row_rep aI 0 r1 (ay fun _=>0) h1;obtain⟨q2,c,_,d⟩:=row_rep aI 128 r2 q1 h2;have a:av q2 0=r1:=(bf c).trans e1;exact⟨⟨q2.i,q2.b,q2.s,q2.v,fun k=>if k=300 then R1 else if k=301 then R2 else Hl.none⟩,a.symm,d.symm,rfl,rfl⟩
def HO {R1 R2:Hl} (x:aG R1 r1 h1) (y:aG R2 r2 h2):h1=h2↔h1.t=h2.t/\r1.set 53 (.bool false)=r2.set 53 (.bool false):=by
 rw[<-x.core,<-y.core];cases h1;cases h2;simp [and_comm]
def L3:[bR 91,gr 140,equalS][2]?=some equalS:=rfl
def JY:equalS.res=[.one .bool]:=rfl
def tC {u v w:Value} {R1 R2:Hl} {K:List Hl} (h1:RdRows R1 u dg (S.map bys)) (h2:RdRows R2 v dg (T.map bys)) (hp:equalS.post [u,v] Hs [R1,R2] w K F):(w=.bool true->S=T)/\(S=T->w=.bool true):=by
 obtain⟨e,v',b,c,S',f,e1,a,d,hQ,hv⟩:=hp;simp only[MH,MZ]at e1 a;obtain⟨rfl,rfl⟩:=e1;obtain⟨rfl,rfl⟩:=a;obtain rfl:=bm (h1.uniq d);obtain rfl:=bm (h2.uniq hQ);rw[hv];simp
def sK:lL.OK Tryz.prog:=by
 refine Spec.of_fn (Γ:=[bR 91,gr 140,equalS]) (fun t l=>?_) ?_
 .simp only[MQ,MV,Nt]at l;rcases l with rfl | rfl | rfl
  .exact dt
  .exact kF
  .exact oY
 rintro xs Hs Rs j o ⟨r1,r2,R1,R2,h1,h2,rfl,rfl,hx,hy⟩;have e0:Hs=[]:=MF.1 j;subst e0;obtain⟨J,rfl,rfl,f,g⟩:=De (R1:=R1) (R2:=R2) hx.ok hy.ok;refine⟨sL,J,fun _ _=>True,fun _ _=>0,zzK,⟨?_,?_,?_,?_⟩,(fun _ h=>nomatch h),?_⟩
 .intro r hr ho;simp [sL]at hr;rcases hr with rfl | rfl<;>cases ho
 .intro r hr ho;simp [sL]at hr;rcases hr with rfl | rfl
  .exact⟨R1,ar,by show(J.h 300).le R1;rw[f];exact Hl.le_refl _⟩
  .exact⟨R2,ar,by show(J.h 301).le R2;rw[g];exact Hl.le_refl _⟩
 .simp [sL,Res.own]
 .intro r hr;simp [sL]at hr;rcases hr with rfl | rfl<;>trivial
 .refine Walk.read [] [] [] ?_;have out:∀ {q:Env} {e:E} {mem:Mem},(bev q e=true↔h1=h2)->postOf lL [.agg (av J 0).toArray,.agg (av J 128).toArray] [] [R1,R2] q mem (.sv (.one (.bool e))):=by
   intro q e mem he _;exact⟨[],[],rfl,rfl,⟨⟨fun _=>0,fun _=>bev q e,fun _=>.empty,fun _=>.tuple #[],fun _=>Hl.none⟩,rfl,zzT,zzT⟩,_,_,R1,R2,h1,h2,rfl,rfl,hx,hy,gO he⟩
  have ff:∀ {q:Env} {mem:Mem},¬h1=h2->postOf lL [.agg (av J 0).toArray,.agg (av J 128).toArray] [] [R1,R2] q mem (.sv (.one (.bool .ff))):=fun hf=>out ⟨fun e=>(by rw[bev_ff]at e;cases e),fun e=>absurd e hf⟩;simp only[go_sem,Nat.reduceAdd,L3,JY,DW];have hS:RdRows R1 (.slice (slP (J.i 53) (J.i 54)) (J.i 55).toNat (J.i 56).toNat) dg (h1.t.map bys):=hx.tok;have hT:RdRows R2 (.slice (slP (J.i 181) (J.i 182)) (J.i 183).toNat (J.i 184).toNat) dg (h2.t.map bys):=hy.tok;intro q1 p _ q2 s _;have d:Agree 302 J q2:=p.tr s;rw[d.i 53,d.i 54,d.i 55,d.i 56,d.i 181,d.i 182,d.i 183,d.i 184,d.h 300,d.h 301,f,g];refine⟨⟨_,_,R1,R2,h1.t,h2.t,rfl,rfl,hS,hT,hx.byte,hy.byte⟩,fun a g3 ⟨F,hp,_⟩=>?_⟩;have hv:=tC hS hT hp;have hv:a.b 304=true↔h1.t=h2.t:=by
   have:(a.b 304=true)=(Value.bool (bev a (.bvar 304))=.bool true):=by rw[bev_bvar];simp
   rw[this];exact⟨hv.1,hv.2⟩
  have m:Agree 302 J a:=d.tr g3;have a0:av a 0=av J 0:=bf m.mono;have a1:av a 128=av J 128:=M4 (Value.agg.inj (ev_ag (n:=128) (ks:=aI) m (NS zzK)));have E:=HO hx hy;rw[<-a0,<-a1,C2,<-hv]at E;refine⟨fun c=>ff fun e=>c (E.1 e).1,fun hb=>?_⟩;have eB:(a.b 35=true)=(a.b 163=true)↔a.b 35=a.b 163:=by cases a.b 35<;>cases a.b 163<;>simp
  rw[eB];refine⟨fun k0=>⟨fun k1=>⟨fun k2=>⟨fun k3=>⟨fun k4=>⟨fun k5=>⟨fun k6=>⟨fun u=>⟨fun v=>⟨fun w=>out ?_,fun c=>ff fun e=>c (E.1 e).2.2.2.2.2.2.2.2.2.2.1⟩,fun c=>ff fun e=>c (E.1 e).2.2.2.2.2.2.2.2.2.1⟩,fun c=>ff fun e=>c (E.1 e).2.2.2.2.2.2.2.2.1⟩,fun c=>ff fun e=>c (E.1 e).2.2.2.2.2.2.2.1⟩,fun c=>ff fun e=>c (E.1 e).2.2.2.2.2.2.1⟩,fun c=>ff fun e=>c (E.1 e).2.2.2.2.2.1⟩,fun c=>ff fun e=>c (E.1 e).2.2.2.2.1⟩,fun c=>ff fun e=>c (E.1 e).2.2.2.1⟩,fun c=>ff fun e=>c (E.1 e).2.2.1⟩,fun c=>ff fun e=>c (E.1 e).2.1⟩;have x:bev a (.and (.eq (.var 96) (.var 224)) (.and (.eq (.var 97) (.var 225)) (.and (.eq (.var 98) (.var 226)) (.and (.eq (.var 99) (.var 227)) (.and (.eq (.var 100) (.var 228)) (.and (.eq (.var 101) (.var 229)) (.and (.eq (.var 102) (.var 230)) (.and (.eq (.var 103) (.var 231)) (.and (.eq (.var 104) (.var 232)) (.and (.eq (.var 105) (.var 233)) (.and (.eq (.var 106) (.var 234)) (.and (.eq (.var 107) (.var 235)) (.and (.eq (.var 108) (.var 236)) (.and (.eq (.var 109) (.var 237)) (.and (.eq (.var 110) (.var 238)) (.and (.eq (.var 111) (.var 239)) (.and (.eq (.var 112) (.var 240)) (.and (.eq (.var 113) (.var 241)) (.and (.eq (.var 114) (.var 242)) (.and (.eq (.var 115) (.var 243)) (.and (.eq (.var 116) (.var 244)) (.and (.eq (.var 117) (.var 245)) (.and (.eq (.var 118) (.var 246)) (.and (.eq (.var 119) (.var 247)) (.and (.eq (.var 120) (.var 248)) (.and (.eq (.var 121) (.var 249)) (.and (.eq (.var 122) (.var 250)) (.and (.eq (.var 123) (.var 251)) (.and (.eq (.var 124) (.var 252)) (.and (.eq (.var 125) (.var 253)) (.and (.eq (.var 126) (.var 254)) (.eq (.var 127) (.var 255)))))))))))))))))))))))))))))))))=true↔eqs a.i (fun k=>a.i (k+128)) 96 32:=by
   simp only[bT_and,bT_eq,iev_var];exact Qd
  rw[x,E];exact⟨fun h=>⟨hb,k0,k1,k2,k3,k4,k5,k6,u,v,w,h⟩,fun h=>h.2.2.2.2.2.2.2.2.2.2.2⟩
section
end
section
end
section
structure Rq where
 c:List Value
 h:Hd
 b:List Int
 w:List (List Int)
structure cy (R1 R2 R3:Hl) (row:List Value) (r:Rq):Prop where
 ok:rowOK row IA
 rng:∀ v∈row,kT v
 core:r.c=((row.set 55 cC).set 127 cC).set 135 cC
 hd:aG R1 ((row.drop 2).take 125) r.h
 body:RdW R2 (row.getD 127 cC) r.b
 byte:ah r.b
 len:r.b.length<=1000000
 tok:RdRows R3 (row.getD 135 cC) dg (r.w.map bys)
 toks:bO r.w
def cy.mono {R1 R2 R3:Hl} {row:List Value} {r:Rq} (x:cy R1 R2 R3 row r) (h1:R1.le S1) (h2:R2.le S2) (a:R3.le S3):cy S1 S2 S3 row r:=⟨x.ok,x.rng,x.core,x.hd.mono h1,cD x.body h2,x.byte,x.len,cQ x.tok a,x.toks⟩
def cy.uniq {R1 R2 R3:Hl} {row:List Value} {r r':Rq} (x:cy R1 R2 R3 row r) (y:cy R1 R2 R3 row r'):r=r':=by
 obtain⟨c,h,b,w⟩:=r;obtain⟨c',h',b',w'⟩:=r';have e1:c=c':=x.core.trans y.core.symm;have a:h=h':=x.hd.uniq y.hd;have d:b=b':=x.body.uniq y.body;have e:w=w':=bm (x.tok.uniq y.tok);rw[e1,a,d,e]
def qA {row:List Value} (h:k≠55/\k≠127/\k≠135):cI (((row.set 55 cC).set 127 cC).set 135 cC) k=cI row k:=by
 unfold cI;rw[Ny ae,Ny ae,Ny ae]
def wm {row:List Value} (h:k≠55/\k≠127/\k≠135):cB (((row.set 55 cC).set 127 cC).set 135 cC) k=cB row k:=by
 unfold cB;rw[Ny ae,Ny ae,Ny ae]
section
variable {R1 R2 R3:Hl} {row:List Value} {r:Rq}
def cy.I (x:cy R1 R2 R3 row r) (hk:k≠55/\k≠127/\k≠135):cI r.c k=cI row k:=by rw[x.core,qA hk]
def cy.B (x:cy R1 R2 R3 row r) (hk:k≠55/\k≠127/\k≠135):cB r.c k=cB row k:=by rw[x.core,wm hk]
end
def Rq.pO (r:Rq):Prop:=gx (cI r.c) 128 6/\cB r.c 134=false/\r.w=[]/\cI r.c 136=0
def Rq.ma (r:Rq):Prop:=cI r.c 137=0/\cI r.c 138=0
def Rq.mc (r:Rq):Prop:=r.b=[]/\r.h=hz
def Rq.Small (r:Rq):Prop:=cI r.c 128<=1048576/\cI r.c 129<=1048576/\cI r.c 130<=1048576/\cI r.c 131<=1048576/\cI r.c 132<=1048576/\cI r.c 133<=1048576
def Rq.Form (r:Rq):Prop :=
 (cI r.c 1=1/\r.pO/\r.ma/\r.h.Form/\(r.b.length:Int)=cI r.c 94) \/
 (cI r.c 1=2/\r.mc/\r.ma/\r.Small/\r.w.length<=8/\dv r.w/\(cB r.c 134=true->r.w=[])/\1<=cI r.c 136/\cI r.c 136<=8) \/
 (cI r.c 1=3/\r.mc/\r.pO/\1<=cI r.c 137/\cI r.c 137<=6/\1<=cI r.c 138/\cI r.c 138<=1048576)
open Classical in
noncomputable def je (f:FuncId):Sx.Spec where
 fn:=f
 own:=[]
 rd:=[1000055,1000127,1000135]
 res:=[.one .bool]
 pre:=fun xs Hs Rs=>∃ row R1 R2 R3 r,xs=[.agg row.toArray]/\Rs=[R1,R2,R3]/\cy R1 R2 R3 row r
 post:=fun xs Hs Rs v Hs' F=>∃ row R1 R2 R3 r,xs=[.agg row.toArray]/\Rs=[R1,R2,R3]/\cy R1 R2 R3 row r/\v=.bool (decide r.Form)
def sJ:Mem:=[.ro 150 [.var 55] false,.ro 151 [.var 130] false,.ro 152 [.var 141] false]
noncomputable def Ja:List Sx.Spec:=[bR 91,gr 140,equalS,lL]
def El:∀ t∈Ja,t.OK Tryz.prog:=ai dt <| ai kF <| ai oY <| ai sK <| aD
noncomputable def nN:Walk Tryz.prog Ja 37 where
 Λ:=noLoops
 args:=(cpSVs 0 [.agg ji]).map .sv
 mem:=sJ
 nv:=153
end
section
def gk (q:Env):List Value:=(ckCVs 0 ji).map (CV.ev q)
def CF (q:Env):((gk q).drop 2).take 125=av q 2:=by kernel_rfl
def FK (q:Env):(gk q).getD 127 cC=.slice (slP (q.i 130) (q.i 131)) (q.i 132).toNat (q.i 133).toNat:=by kernel_rfl
def FN (q:Env):(gk q).getD 135 cC=.slice (slP (q.i 141) (q.i 142)) (q.i 143).toNat (q.i 144).toNat:=by kernel_rfl
def FM (q:Env):cI (gk q) 1=q.i 1/\cI (gk q) 94=q.i 97/\cI (gk q) 136=q.i 145/\cI (gk q) 137=q.i 146/\cI (gk q) 138=q.i 147/\cB (gk q) 134=q.b 140:=⟨zzK,zzK,zzK,zzK,zzK,zzK⟩
def FL (q:Env):cI (gk q) 128=q.i 134/\cI (gk q) 129=q.i 135/\cI (gk q) 130=q.i 136/\cI (gk q) 131=q.i 137/\cI (gk q) 132=q.i 138/\cI (gk q) 133=q.i 139:=⟨zzK,zzK,zzK,zzK,zzK,zzK⟩
def FI {q:Env} (hn:ckNormsW 0 ji q):(0<=q.i 56/\0<=q.i 57/\0<=q.i 58)/\(0<=q.i 131/\0<=q.i 132/\0<=q.i 133)/\(0<=q.i 142/\0<=q.i 143/\0<=q.i 144):=by
 have e1:ji=ji.take 55++(.sl::ji.drop 56):=by kernel_rfl
 have b:ji=ji.take 127++(.sl::ji.drop 128):=by kernel_rfl
 have c:ji=ji.take 135++(.sl::ji.drop 136):=by kernel_rfl
 have h1:=ik (ji.take 55) (.sl::ji.drop 56) 0 (e1▸hn);have h2:=ik (ji.take 127) (.sl::ji.drop 128) 0 (b▸hn);have a:=ik (ji.take 135) (.sl::ji.drop 136) 0 (c▸hn);rw[show 0+ckLen (ji.take 55)=55 by kernel_rfl]at h1;rw[show 0+ckLen (ji.take 127)=130 by kernel_rfl]at h2;rw[show 0+ckLen (ji.take 135)=141 by kernel_rfl]at a;exact⟨⟨h1.1.2.1,h1.1.2.2.1,h1.1.2.2.2⟩,⟨h2.1.2.1,h2.1.2.2.1,h2.1.2.2.2⟩,⟨a.1.2.1,a.1.2.2.1,a.1.2.2.2⟩⟩
section
variable {R1 R2 R3:Hl} {J:Env} {r:Rq}
def IG (hx:cy R1 R2 R3 (gk J) r):RdW R2 (.slice (slP (J.i 130) (J.i 131)) (J.i 132).toNat (J.i 133).toNat) r.b:=by
 have:=hx.body;rwa[FK]at this
def Lp (hx:cy R1 R2 R3 (gk J) r):aG R1 (av J 2) r.h:=by
 have:=hx.hd;rwa[CF]at this
def II (hx:cy R1 R2 R3 (gk J) r):RdRows R3 (.slice (slP (J.i 141) (J.i 142)) (J.i 143).toNat (J.i 144).toNat) dg (r.w.map bys):=by
 have:=hx.tok;rwa[FN]at this
def C6 (hx:cy R1 R2 R3 (gk J) r):r.Form ↔
 (J.i 1=1/\(gx J.i 134 6/\¬(J.b 140=true)/\(J.i 143).toNat=0/\J.i 145=0)/\(J.i 146=0/\J.i 147=0)/\r.h.Form/\((J.i 132).toNat:Int)=J.i 97) \/
 (J.i 1=2/\((J.i 132).toNat=0/\r.h=hz)/\(J.i 146=0/\J.i 147=0)/\(J.i 134<=1048576/\J.i 135<=1048576/\J.i 136<=1048576/\J.i 137<=1048576/\J.i 138<=1048576/\J.i 139<=1048576)/\(J.i 143).toNat<=8/\dv r.w/\(J.b 140=true->(J.i 143).toNat=0)/\1<=J.i 145/\J.i 145<=8) \/
 (J.i 1=3/\((J.i 132).toNat=0/\r.h=hz)/\(gx J.i 134 6/\¬(J.b 140=true)/\(J.i 143).toNat=0/\J.i 145=0)/\1<=J.i 146/\J.i 146<=6/\1<=J.i 147/\J.i 147<=1048576):=by
 obtain⟨c0,c1,c2,c3,d,f⟩:=FL J;obtain⟨n0,n1,n2,n3,g,l⟩:=FM J;have hz:gx (cI r.c) 128 6↔gx J.i 134 6:=by
  rw[ja,ja];have e:∀ j,j<6->cI r.c (128+j)=J.i (134+j):=by
   intro j a;rw[hx.I ae];have:j=0\/j=1\/j=2\/j=3\/j=4\/j=5:=ae;rcases this with rfl | rfl | rfl | rfl | rfl | rfl
   .exact c0
   .exact c1
   .exact c2
   .exact c3
   .exact d
   .exact f
  exact⟨fun h j a=>by rw[<-e j a];exact h j a,fun h j a=>by rw[e j a];exact h j a⟩
 have lb:(J.i 132).toNat=r.b.length:=by
  obtain⟨x,y,c,e,_⟩:=IG hx;simp only[Value.slice.injEq]at e;exact e.2.1
 have lw:(J.i 143).toNat=r.w.length:=um (II hx);have m:r.b=[]↔(J.i 132).toNat=0:=by rw[lb,MF]
 have n:r.w=[]↔(J.i 143).toNat=0:=by rw[lw,MF]
 unfold Rq.Form Rq.pO Rq.ma Rq.mc Rq.Small;rw[hz,m,n,<-lb,<-lw];rw[hx.I (k:=1) aj,hx.I (k:=94) aj,hx.I (k:=136) aj,hx.I (k:=137) aj,hx.I (k:=138) aj,hx.B (k:=134) aj,hx.I (k:=128) aj,hx.I (k:=129) aj,hx.I (k:=130) aj,hx.I (k:=131) aj,hx.I (k:=132) aj,hx.I (k:=133) aj,n0,n1,n2,n3,g,l,c0,c1,c2,c3,d,f];have:(J.b 140=false)↔¬(J.b 140=true):=by simp
 rw[this]
end
def pF {R1 R2:Hl} {v:Value} {K:List Hl} (x:aG R1 r1 h1) (y:aG R2 r2 h2) (hp:lL.post [.agg r1.toArray,.agg r2.toArray] Hs [R1,R2] v K F):(v=.bool true↔h1=h2):=by
 obtain⟨b,c,d,e,f,g,e1,a,x',y',hv⟩:=hp;simp only[MH,Value.agg.injEq,MZ]at e1 a;obtain⟨h,i⟩:=e1;obtain⟨rfl,rfl⟩:=a;obtain rfl:=M4 h;obtain rfl:=M4 i;rw[x.uniq x',y.uniq y',hv];simp
def JU:lL.res=[.one .bool]:=rfl
open Classical in
def Bg {u:Value} {R:Hl} {K:List Hl} {q:Env} {n:Nat} (h:RdRows R u dg (T.map bys)) (hp:(gr f).post [u] Hs [R] (.bool (bev q (.bvar n))) K F):(q.b n=true)=dv T:=by
 have:=pH h hp;exact Ez (by rw[this];simp)
def oW:(je 37).OK Tryz.prog:=by
 refine Spec.of_fn (Γ:=Ja) El ?_;rintro xs Hs Rs A C ⟨row,R1,R2,R3,r,rfl,rfl,hx⟩;have e0:Hs=[]:=MF.1 A;subst e0;obtain⟨J,rfl,hn,hh⟩:=fL [(150,R1),(151,R2),(152,R3)] hx.ok;have hx:cy R1 R2 R3 (gk J) r:=hx;have a:J.h 150=R1:=hh 150;have c:J.h 151=R2:=hh 151;have d:J.h 152=R3:=hh 152;refine⟨nN,J,fun _ _=>True,fun _ _=>0,zzK,⟨?_,?_,?_,?_⟩,(fun _ h=>nomatch h),?_⟩
 .intro r hr ho;simp [nN,sJ]at hr;rcases hr with rfl | rfl | rfl<;>cases ho
 .intro r hr ho;simp [nN,sJ]at hr;rcases hr with rfl | rfl | rfl
  .exact⟨R1,ar,by show(J.h 150).le R1;rw[a];exact Hl.le_refl _⟩
  .exact⟨R2,ar,by show(J.h 151).le R2;rw[c];exact Hl.le_refl _⟩
  .exact⟨R3,ar,by show(J.h 152).le R3;rw[d];exact Hl.le_refl _⟩
 .simp [nN,sJ,Res.own]
 .intro r hr;simp [nN,sJ]at hr;rcases hr with rfl | rfl | rfl<;>trivial
 .refine Walk.read [aI] [] [Gy] ?_;obtain⟨n1,n2,n3⟩:=FI hn;have out:∀ {q:Env} {e:E} {mem:Mem},(bev q e=true↔r.Form)->postOf (je 37) [.agg ((ckCVs 0 ji).map (CV.ev J)).toArray] [] [R1,R2,R3] q mem (.sv (.one (.bool e))):=by
   intro q e mem he _;exact⟨[],[],rfl,rfl,⟨⟨fun _=>0,fun _=>bev q e,fun _=>.empty,fun _=>.tuple #[],fun _=>Hl.none⟩,rfl,zzT,zzT⟩,_,R1,R2,R3,r,rfl,rfl,hx,gO he⟩
  have s:=Lp hx;have hB:=IG hx;have B:=II hx;have E:=C6 hx;obtain⟨N,f⟩:=mK (gx J.i 134 6);obtain⟨O,g⟩:=mK (J.b 140=true);obtain⟨P,u⟩:=mK r.h.Form;obtain⟨Q,v⟩:=mK (dv r.w);obtain⟨R,n⟩:=mK (r.h=hz);rw[f,g,u,v,n]at E;rw[E]at out;clear E;generalize postOf (je 37) [.agg ((ckCVs 0 ji).map (CV.ev J)).toArray] [] [R1,R2,R3]=L at out;have ff:∀ {q:Env} {mem:Mem},¬_->L q mem (.sv (.one (.bool .ff))):=fun {q mem} hf=>out (q:=q) (e:=.ff) (mem:=mem) ⟨fun e=>(by rw[bev_ff]at e;cases e),fun e=>absurd e hf⟩;simp only[go_sem,Nat.reduceAdd,Ja,hr0,fr0,JU,DW,I5];intro q1 D _;have m:Agree 153 J q1:=D;simp only[m.iA,m.bA,m.hA,dq m,bk m,bn,du,a,c,d,Nat.reduceAdd,Nat.reduceLeDiff,Nat.reduceLT,f,g]
  (repeat' (first | refine And.intro ?_ ?_ | refine kE (fun _=>?_)))
  all_goals (first | omega | exact ff ae | (refine out ?_;simp only[bT_eq,bT_le,bT_tt,iev_var,iev_lit,m.iA,Nat.reduceLT];omega) | skip)
  .intro q2 x _;have j:Agree 153 J q2:=m.tr x;simp only[j.iA,j.bA,j.hA,dq j,bk j,bn,du,a,c,d,Nat.reduceAdd,Nat.reduceLeDiff,Nat.reduceLT,f,g]
   (repeat' (first | refine And.intro ?_ ?_ | refine kE (fun _=>?_)))
   all_goals (first | omega | exact ff ae | (refine out ?_;simp only[bT_eq,bT_le,bT_tt,iev_var,iev_lit,j.iA,Nat.reduceLT];omega) | skip)
   intro y g3 _;have k:Agree 153 J y:=j.tr g3;simp only[k.iA,k.bA,k.hA,dq k,bk k,bn,du,a,c,d,Nat.reduceAdd,Nat.reduceLeDiff,Nat.reduceLT,f,g]
   (repeat' (first | refine And.intro ?_ ?_ | refine kE (fun _=>?_)))
   all_goals (first | omega | exact ff ae | (refine out ?_;simp only[bT_eq,bT_le,bT_tt,iev_var,iev_lit,k.iA,Nat.reduceLT];omega) | skip)
   .exact⟨_,R1,r.h,rfl,rfl,s⟩
   intro z g4 ⟨F,hp,_⟩;have l:Agree 153 J z:=k.tr g4;rw[pd s hp,u]
   (try simp only[l.iA,l.bA,l.hA,dq l,bk l,bn,du,a,c,d,Nat.reduceAdd,Nat.reduceLeDiff,Nat.reduceLT,f,g])
   (repeat' (first | refine And.intro ?_ ?_ | refine kE (fun _=>?_)))
   all_goals (first | omega | exact ff ae | (refine out ?_;simp only[bT_eq,bT_le,bT_tt,iev_var,iev_lit,l.iA,Nat.reduceLT];omega) | skip)
  .intro q2 x _;have j:Agree 153 J q2:=m.tr x;simp only[j.iA,j.bA,j.hA,dq j,bk j,bn,du,a,c,d,Nat.reduceAdd,Nat.reduceLeDiff,Nat.reduceLT,f,g]
   (repeat' (first | refine And.intro ?_ ?_ | refine kE (fun _=>?_)))
   all_goals (first | omega | exact ff ae | (refine out ?_;simp only[bT_eq,bT_le,bT_tt,iev_var,iev_lit,j.iA,Nat.reduceLT];omega) | skip)
   .exact⟨_,_,R1,Hl.none,r.h,hz,rfl,rfl,s,pg _⟩
   intro y g3 ⟨F,hp,_⟩;have k:Agree 153 J y:=j.tr g3;rw[Ez (pF s (pg _) hp),n]
   (try simp only[k.iA,k.bA,k.hA,dq k,bk k,bn,du,a,c,d,Nat.reduceAdd,Nat.reduceLeDiff,Nat.reduceLT,f,g])
   (repeat' (first | refine And.intro ?_ ?_ | refine kE (fun _=>?_)))
   all_goals (first | omega | exact ff ae | (refine out ?_;simp only[bT_eq,bT_le,bT_tt,iev_var,iev_lit,k.iA,Nat.reduceLT];omega) | skip)
   intro z g4 _;have l:Agree 153 J z:=k.tr g4;simp only[l.iA,l.bA,l.hA,dq l,bk l,bn,du,a,c,d,Nat.reduceAdd,Nat.reduceLeDiff,Nat.reduceLT,f,g]
   (repeat' (first | refine And.intro ?_ ?_ | refine kE (fun _=>?_)))
   all_goals (first | omega | exact ff ae | (refine out ?_;simp only[bT_eq,bT_le,bT_tt,iev_var,iev_lit,l.iA,Nat.reduceLT];omega) | skip)
   intro G H _;have o:Agree 153 J G:=l.tr H;simp only[o.iA,o.bA,o.hA,dq o,bk o,bn,du,a,c,d,Nat.reduceAdd,Nat.reduceLeDiff,Nat.reduceLT,f,g]
   (repeat' (first | refine And.intro ?_ ?_ | refine kE (fun _=>?_)))
   all_goals (first | omega | exact ff ae | (refine out ?_;simp only[bT_eq,bT_le,bT_tt,iev_var,iev_lit,o.iA,Nat.reduceLT];omega) | skip)
   intro I K _;have p:Agree 153 J I:=o.tr K;simp only[p.iA,p.bA,p.hA,dq p,bk p,bn,du,a,c,d,Nat.reduceAdd,Nat.reduceLeDiff,Nat.reduceLT,f,g]
   (repeat' (first | refine And.intro ?_ ?_ | refine kE (fun _=>?_)))
   all_goals (first | omega | exact ff ae | (refine out ?_;simp only[bT_eq,bT_le,bT_tt,iev_var,iev_lit,p.iA,Nat.reduceLT];omega) | skip)
   .exact⟨_,R3,r.w,rfl,rfl,B,hx.toks⟩
   intro q7 M ⟨F,hp,_⟩;have t:Agree 153 J q7:=p.tr M;rw[Bg B hp,v]
   (try simp only[t.iA,t.bA,t.hA,dq t,bk t,bn,du,a,c,d,Nat.reduceAdd,Nat.reduceLeDiff,Nat.reduceLT,f,g])
   (repeat' (first | refine And.intro ?_ ?_ | refine kE (fun _=>?_)))
   all_goals (first | omega | exact ff ae | (refine out ?_;simp only[bT_eq,bT_le,bT_tt,iev_var,iev_lit,t.iA,Nat.reduceLT];omega) | skip)
  .intro q2 x _;have j:Agree 153 J q2:=m.tr x;simp only[j.iA,j.bA,j.hA,dq j,bk j,bn,du,a,c,d,Nat.reduceAdd,Nat.reduceLeDiff,Nat.reduceLT,f,g]
   (repeat' (first | refine And.intro ?_ ?_ | refine kE (fun _=>?_)))
   all_goals (first | omega | exact ff ae | (refine out ?_;simp only[bT_eq,bT_le,bT_tt,iev_var,iev_lit,j.iA,Nat.reduceLT];omega) | skip)
   .exact⟨_,_,R1,Hl.none,r.h,hz,rfl,rfl,s,pg _⟩
   intro y g3 ⟨F,hp,_⟩;have k:Agree 153 J y:=j.tr g3;rw[Ez (pF s (pg _) hp),n]
   (try simp only[k.iA,k.bA,k.hA,dq k,bk k,bn,du,a,c,d,Nat.reduceAdd,Nat.reduceLeDiff,Nat.reduceLT,f,g])
   (repeat' (first | refine And.intro ?_ ?_ | refine kE (fun _=>?_)))
   all_goals (first | omega | exact ff ae | (refine out ?_;simp only[bT_eq,bT_le,bT_tt,iev_var,iev_lit,k.iA,Nat.reduceLT];omega) | skip)
   intro z g4 _;have l:Agree 153 J z:=k.tr g4;simp only[l.iA,l.bA,l.hA,dq l,bk l,bn,du,a,c,d,Nat.reduceAdd,Nat.reduceLeDiff,Nat.reduceLT,f,g]
   (repeat' (first | refine And.intro ?_ ?_ | refine kE (fun _=>?_)))
   all_goals (first | omega | exact ff ae | (refine out ?_;simp only[bT_eq,bT_le,bT_tt,iev_var,iev_lit,l.iA,Nat.reduceLT];omega) | skip)
end
section
noncomputable def ga (r:Rq):List Int :=
 if cI r.c 1=1 then sk ⟨r.h,r.b⟩
 else if cI r.c 1=2 then fF (aw r.c 128 6)++bE (cB r.c 134)++aq r.w.length++r.w.flatten++aq (cu (cI r.c 136))
 else if cI r.c 1=3 then aq (cu (cI r.c 137))++aq (cI r.c 138).toNat
 else []
noncomputable def qB (r:Rq):List Int:=aq (cI r.c 0).toNat++aq (cu (cI r.c 1))++ga r
section
variable {q:Env} {n a m:Nat} {H R1 R2:Hl} {bs:List Int} {A:Env->Hl->Prop} {K:Env->Prop} {v:Value}
def oZ {row:List Value} {R1 R2 R3:Hl} {r:Rq} {K:List Hl} {n:Nat} (hx:cy R1 R2 R3 row r) (hp:(je f).post [.agg row.toArray] Hs [R1,R2,R3] (.bool (bev q (.bvar n))) K F):(q.b n=true)=r.Form:=by
 obtain⟨row',c,d,e,r',e1,a,x',hv⟩:=hp;simp only[MH,Value.agg.injEq,MZ]at e1 a;obtain⟨rfl,rfl,rfl⟩:=a;obtain rfl:=M4 e1;obtain rfl:=hx.uniq x';exact Ez (by rw[hv];simp)
end
end
section
def ze:ckLen ji=148:=by kernel_rfl
end
section
def wN (s:PS):Nat:=(au 8 (bY s)).toNat
def gj (s:PS):PS:=(aQ (wN s) (aS 8 (bY s))).2
def jm (s:PS):List (List Int):=(aQ (wN s) (aS 8 (bY s))).1
def kZ:Sx.Spec where
 fn:=35
 own:=[.arg 0]
 rd:=[]
 res:=[.agg [.bool,.sl]]
 pre:=fun xs Hs Rs=>∃ p H s,xs=[p]/\Hs=[H]/\dy H p s
 post:=fun xs Hs Rs v Hs' F=>∃ p H s H' u,xs=[p]/\Hs=[H]/\dy H p s/\Hs'=[H']/\dy H' p (gj s)/\v=.agg #[.bool (bH s),u]/\OwR F 34 dg u ((jm s).map bys)
def oh:Nd:=(fun g c=>(fun a b=>(fun d f h=>(.ext (.alloc 2) (.and (.pre h) (.ext h (.ext (.alloc 5) (.and (.pre f) (.ext f (.and (.inv 0 [⟨50,0,.int .i64 g⟩,⟨53,0,.int .i64 (.lit (-1))⟩,⟨54,0,.int .i64 g⟩,⟨55,0,.int .i64 g⟩] [(51,some 6),(56,none)]) (.havoc 0 0 8 (.and (.imp (.lt (.var 50) (.var 6)) (.ext (.alloc 60) (.and (.pre d) (.ext d (.and (.e (.and (.or (.and (.eq (.var 61) (.lit (-1))) (.eq (.var 63) g)) (.and (.le g (.var 61)) (.and (.le g (.var 62)) (.hby 62 (.var 61) (.var 62) c)))) (.and (.le g (.var 63)) (.le c (.lit 16))))) (.ext (.alloc 65) (.and (.pre a) (.ext a (.back 0 0 [⟨50,0,.int .i64 (.wrap .u64 (.add (.var 50) (.lit 1)))⟩,⟨53,0,.int .i64 (.var 66)⟩,⟨54,0,.int .i64 (.add (.var 54) (.lit 1))⟩,⟨55,0,.int .i64 (.var 67)⟩] [(51,some 61),(56,some 66)]))))))))) (.imp (.not (.lt (.var 50) (.var 6))) (.post [.hp 51 [] [.var 0] [],.dead,.dead,.hp 56 [] [.var 53] []] (.sv (.agg [.bool (.bvar 3),.sl (.var 53) g (.var 54) (.var 55)])))))))))))):Nd)) (.call 3 61 [.sv b,.sv (.one (.int .i64 (.lit 16)))] [.hp 51 [] [.var 0] []] []) (.call 1 6 [.sv b,.sv (.one (.int .u64 (.lit 8)))] [.hp 3 [1] [.var 0] []] []) (.call 2 3 [.sv b] [.hp 1 [] [.var 0] []] [])) (.app 66 34 16 16 (.sl (.var 53) g (.var 54) (.var 55)) (.var 54) (.hp 56 [] [.var 53] []) (.cvs (BW 16 c 62 (.var 61) (.var 62) (fun _=>.lit 0)) 1)) (.one (.hptr (.var 0) g))) (.lit 0) (.ite (.lt (.var 63) (.lit 16)) (.var 63) (.lit 16))
noncomputable def gu:Walk Tryz.prog BC 35 where
 Λ:=fun p=>if xF p then some ⟨0,[(10,TI .u64 (.var 50))],[(0,.hp 51 [] [.var 0] []),(2,.blk 5 [.bool (.bvar 3),.sl (.var 53) (.lit 0) (.var 54) (.var 55)] 43),(3,.hp 56 [] [.var 53] [])],60⟩else none
 args:=[TP (.var 0) (.lit 0)]
 mem:=[.hp 1 [] [.var 0] []]
 nv:=2
def qK:kZ.OK Tryz.prog:=by
 refine Spec.of_fn (Γ:=BC) uP ?_;rintro xs Hs Rs L A ⟨p,H,s,rfl,rfl,h⟩;have e1:Rs=[]:=MF.1 A;subst e1;obtain⟨a,x,y,c,Z,rfl,M⟩:=id h;refine⟨gu,envI [(a:Int)] false [Hl.none,H],fun _ q=>∃ k:Nat,q.i 50=k/\k<=wN s/\dy (q.h 51) (.pointer (some ⟨a,0,none⟩)) (aQ k (aS 8 (bY s))).2/\ -1<=q.i 53/\q.i 54=k/\0<=q.i 55/\OwR (q.h 56) 34 dg (.slice (slP (q.i 53) 0) (q.i 54).toNat (q.i 55).toNat) ((aQ k (aS 8 (bY s))).1.map bys),fun _ q=>(wN s-q.i 50).toNat,?_,⟨?_,?_,?_,?_⟩,(fun _ h=>nomatch h),?_⟩
 .show [Value.pointer (slP (a:Int) 0)]=_;rw[aY]
 .intro r hr ho;simp [gu]at hr;subst hr;exact⟨H,ar,Hl.le_refl _⟩
 .intro r hr ho;simp [gu]at hr;subst hr;cases ho
 .simp [gu]
 .intro r hr;simp [gu]at hr;subst hr;trivial
 .refine Walk.lit (x:=oh) ?_;generalize d:envI [(a:Int)] false [Hl.none,H]=J;have w0:J.i 0=a:=by rw[<-d];rfl
  have w1:J.h 1=H:=by rw[<-d];rfl
  clear d;unfold oh;simp only[go_sem,Nat.reduceAdd,BC,IW,LG,LH,xZ];intro q0 g0 _;simp only[g0.iA,g0.hA,Nat.reduceLT,w0,w1,aY];refine DC h fun q1 B h1 v1 q2 e _=>?_;simp only[e.iA,e.hA,B.iA,B.hA,g0.iA,g0.hA,Nat.reduceLT,w0,w1,aY];refine de h1 fun C g3 N G=>?_;have G:C.i 6=au 8 (bY s):=G;have I:=aU (s:=bY s) (m:=8) ae;have O:wN s<=8:=by unfold wN;omega
  have hN:C.i 6=wN s:=by unfold wN;omega
  refine⟨⟨0,rfl,NO _,N,MT _,rfl,MT _,OwR.nil _ _ _⟩,fun q g ⟨k,K,hk,hP,P,l,Q,D⟩=>?_⟩;have R:(((aQ k (aS 8 (bY s))).1.map bys).length:Int)=k:=by rw[M7,fE]
  have S:Agree 8 C q:=g;simp only[g.iA,g.bA,g3.iA,g3.bA,e.iA,e.bA,Nat.reduceLT,hN,K];refine⟨fun T q4 g4 _=>?_,fun U=>?_⟩
  .simp only[g4.iA,g4.hA,g.iA,g3.iA,e.iA,B.iA,g0.iA,Nat.reduceLT,w0,aY];refine xx hP fun o z V t5=>?_;have t5:gT (o.h 62) (o.i 61) (o.i 62) (o.i 63) (o.i 64) (aL 16 (aQ k (aS 8 (bY s))).2):=t5;refine⟨t5.DL ae ae,fun q6 f _=>?_⟩;have t6:=t5.ag f ae ae ae ae ae;rw[vj (w:=16) (n:=16) (old:=fun _=>.lit 0) t6 rfl (fun _ _=>rfl)];simp only[f.iA,f.hA,z.iA,z.hA,g4.iA,g4.hA,Nat.reduceLT];refine⟨⟨⟨_,OwR.pre D ae⟩,ae,by unfold maxLen;omega,ae⟩,fun q7 E ⟨W,X,happ,_⟩=>?_⟩;have t:=OwR.app (row:=bys (aW 16 (aL 16 (aQ k (aS 8 (bY s))).2))) D ae (kU (aT _ _)) happ;have u:IntKind.u64.wrap (q7.i 50+1)=((k+1:Nat):Int):=by
    simp only[E.iA,f.iA,z.iA,g4.iA,Nat.reduceLT];rw[K,iG ae ae];omega
   have v:q7.i 54+1=((k+1:Nat):Int):=by
    simp only[E.iA,f.iA,z.iA,g4.iA,Nat.reduceLT];rw[l];omega
   refine⟨⟨k+1,u,ae,?_,W,v,X,?_⟩,?_⟩
   .show dy (q7.h 61) _ (ir 16 (aQ k (aS 8 (bY s))).2);rw[E.h 61,f.h 61];exact V
   .show OwR (q7.h 66) _ _ (.slice (slP (q7.i 66) 0) (q7.i 54+1).toNat (q7.i 67).toNat) (((aQ k (aS 8 (bY s))).1++[aW 16 (aL 16 (aQ k (aS 8 (bY s))).2)]).map bys);rw[M9,v];rw[l]at t;exact t
   .show((wN s:Int)-IntKind.u64.wrap (q7.i 50+1)).toNat<_;rw[u];omega
  .have F:k=wN s:=ae;subst F;intro _;have Y:q.b 3=bH s:=by
    simp only[g.bA,g3.bA,e.bA,Nat.reduceLT];exact v1
   have ev:(TV.sv (.agg [.bool (.bvar 3),.sl (.var 53) (.lit 0) (.var 54) (.var 55)])).ev q=.agg #[.bool (bH s),.slice (slP (q.i 53) 0) (q.i 54).toNat (q.i 55).toNat]:=by
    show Value.agg #[.bool (q.b 3),_]=_;rw[Y];rfl
   refine⟨[[0]],[3],rfl,rfl,⟨⟨fun j=>[0,q.i 53,0,q.i 54,q.i 55].getD j 0,fun _=>bH s,fun _=>.empty,fun _=>.tuple #[],fun _=>Hl.none⟩,?_,⟨zzT,⟨P,MT _,by show 0<=q.i 54;omega,Q⟩,zzT⟩,zzT⟩,_,H,s,q.h 51,_,rfl,rfl,h,?_,hP,ev,?_⟩
   .rw[ev];rfl
   .show [hls [q.h 51]]=_;rw[hls_one]
   .show OwR (hls [q.h 56]) _ _ _ _;rw[hls_one];exact D
end
section
def br (id kind:Int) (pr:List Value) (cur:List Int) (all:Bool) (u:Value) (most writer seq:Int):List Value :=
 [.int .u64 id,.int .i64 kind]++(pr++(us cur++[.bool all,u,.int .i64 most,.int .i64 writer,.int .u64 seq]))
section
variable {id kind most writer seq:Int} {pr:List Value} {cur:List Int} {all:Bool} {u:Value}
def AX (hp:pr.length=126) (hk:k<126):(br id kind pr cur all u most writer seq)[k+2]?=pr[k]?:=by
 unfold br;show(pr++_)[k]?=_;rw[M5 ae]
def AW (hp:pr.length=126) (a:cur.length=6) (hk:k<6):(br id kind pr cur all u most writer seq)[128+k]?=some (.int .u64 (cur.getD k 0)):=by
 rw[show 128+k=126+k+2 by omega];unfold br;show(pr++_)[126+k]?=_;rw[MX ae,hp,show 126+k-126=k by omega,M5 (by unfold us;rw[M7];omega)];unfold us;rw[MU,MR,ME ae];rfl
def iz (hp:pr.length=126) (a:cur.length=6) : (br id kind pr cur all u most writer seq)[134+k]?=[Value.bool all,u,.int .i64 most,.int .i64 writer,.int .u64 seq][k]?:=by
 rw[show 134+k=132+k+2 by omega];unfold br;show(pr++_)[132+k]?=_;rw[MX ae,hp,show 132+k-126=6+k by omega,MX (by unfold us;rw[M7];omega)]
 congr 1
 unfold us;rw[M7];omega
end
structure Told (r:Rq) (id kind:Int) (sz:Int) (cur:List Int) (all:Bool) (most writer seq:Int):Prop where
 id:cI r.c 0=id
 kind:cI r.c 1=kind
 size:cI r.c 94=sz
 cur:aw r.c 128 6=cur
 all:cB r.c 134=all
 most:cI r.c 136=most
 writer:cI r.c 137=writer
 seq:cI r.c 138=seq
def D5:∀ {l:List Int},rowOK (us l) (List.replicate l.length (.int .u64))
 | []=>trivial
 | _::l=>⟨rfl,D5 (l:=l)⟩
def FH:IA=[.int .u64,.int .i64]++(oK++(List.replicate 6 (.int .u64)++[.bool,.slice,.int .i64,.int .i64,.int .u64])):=by kernel_rfl
def Ab {R1 R2 R3:Hl} {id kind most writer seq:Int} {pr:List Value} {c:Pc} {cur:List Int} {all:Bool} {u:Value} (hp:aV R1 R2 pr c) (d:cur.length=6) (o:yu cur) (hid:0<=id/\id<18446744073709551616) (hk:bS kind) (hm:bS most) (hw:bS writer) (hs:0<=seq/\seq<18446744073709551616)
 (hu:RdRows R3 u dg (w.map bys)) (p:bO w):∃ r:Rq,cy R1 R2 R3 (br id kind pr cur all u most writer seq) r/\r.h=c.h/\r.b=c.b/\r.w=w/\Told r id kind (cI c.h.c 92) cur all most writer seq:=by
 have a:pr.length=126:=by rw[cf hp.ok];kernel_rfl
 have j:valIs (some u) .slice=true:=by
  obtain⟨x,y,c,e,_⟩:=hu;rw[e];rfl
 refine⟨⟨(((br id kind pr cur all u most writer seq).set 55 cC).set 127 cC).set 135 cC,c.h,c.b,w⟩,⟨?_,?_,rfl,?_,?_,hp.byte,hp.len,?_,p⟩,rfl,rfl,rfl,?_⟩
 .rw[FH];have:=D5 (l:=cur);rw[d]at this;exact bb (ka:=[.int .u64,.int .i64]) ⟨rfl,rfl,zzT⟩ (bb hp.ok (bb this ⟨rfl,j,rfl,rfl,rfl,zzT⟩))
 .intro v hv;unfold br at hv;simp only[Nb,MQ,MV,Nt]at hv;rcases hv with (rfl | rfl) | hv | hv | rfl | rfl | rfl | rfl | rfl
  .exact hid
  .exact hk
  .obtain⟨k,hk⟩:=N2.1 hv;have kD:k<126:=by have:=(MK.1 hk).1;omega
   by_cases m:k<125
   .refine hp.hd.rng v (MG (i:=k) ?_);rw[Nv m];exact hk
   .obtain⟨k0,t⟩:∃ k0,k0=k:=⟨k,rfl⟩;have f:k=125:=ae;rw[f]at hk;obtain⟨v',n,hi⟩:=cR hp.ok (k:=125) (kd:=.slice) zzK;rw[hk]at n;cases n;cases v<;>simp [valIs]at hi
    trivial
  .unfold us at hv;obtain⟨z,hz,rfl⟩:=Np.1 hv;exact o z hz
  .trivial
  .cases v<;>simp [valIs]at j
   trivial
  .exact hm
  .exact hw
  .exact hs
 .have e:((br id kind pr cur all u most writer seq).drop 2).take 125=pr.take 125:=by
   unfold br;show((pr++_)).take 125=_;rw[Ot ae]
  rw[e];exact hp.hd
 .have e:(br id kind pr cur all u most writer seq).getD 127 cC=pr.getD 125 cC:=by
   rw[MR,MR,AX (k:=125) a ae]
  rw[e];exact hp.body
 .have e:(br id kind pr cur all u most writer seq).getD 135 cC=u:=by
   rw[MR,iz (k:=1) a d];rfl
  rw[e];exact hu
 .have I:∀ {k:Nat},(k≠55/\k≠127/\k≠135)->cI ((((br id kind pr cur all u most writer seq).set 55 cC).set 127 cC).set 135 cC) k=cI (br id kind pr cur all u most writer seq) k:=fun h=>qA h;have B:∀ {k:Nat},(k≠55/\k≠127/\k≠135)->cB ((((br id kind pr cur all u most writer seq).set 55 cC).set 127 cC).set 135 cC) k=cB (br id kind pr cur all u most writer seq) k:=fun h=>wm h;refine⟨?_,?_,?_,?_,?_,?_,?_,?_⟩
  .rw[I aj];rfl
  .rw[I aj];rfl
  .rw[I aj];have e:cI (br id kind pr cur all u most writer seq) 94=cI (pr.take 125) 92:=by
    unfold cI;rw[AX (k:=92) a ae,Nv ae]
   rw[e,hp.hd.I aj]
  .match cur,d with
   | [v1,v2,q,v4,s,v6],_ =>
    have g:∀ k,k<6->cI ((((br id kind pr [v1,v2,q,v4,s,v6] all u most writer seq).set 55 cC).set 127 cC).set 135 cC) (128+k)=[v1,v2,q,v4,s,v6].getD k 0:=fun k hk=>by
     rw[qA ae];unfold cI;rw[AW a rfl hk];rfl
    show [cI _ 128,cI _ 129,cI _ 130,cI _ 131,cI _ 132,cI _ 133]=_;rw[show cI _ 128=v1 from g 0 ae,show cI _ 129=v2 from g 1 ae,show cI _ 130=q from g 2 ae,show cI _ 131=v4 from g 3 ae,show cI _ 132=s from g 4 ae,show cI _ 133=v6 from g 5 ae]
  .rw[B aj];unfold cB;rw[iz (k:=0) a d];rfl
  .rw[I aj];unfold cI;rw[iz (k:=2) a d];rfl
  .rw[I aj];unfold cI;rw[iz (k:=3) a d];rfl
  .rw[I aj];unfold cI;rw[iz (k:=4) a d];rfl
def a1 (b:List Int):PS:=aS 18446744073709551615 ⟨b,false⟩
def a2 (b:List Int):PS:=aS 3 (a1 b)
def aK (b:List Int):Int:=au 3 (a1 b)
def aF (b:List Int):PS :=
 if aK b=1 then qs (a2 b)
 else if aK b=2 then aS 8 (gj (aP 1048576 6 (a2 b)).2)
 else if aK b=3 then aS 1048576 (aS 6 (a2 b))
 else a2 b
structure Dj (b:List Int) (r:Rq):Prop where
 id:cI r.c 0=au 18446744073709551615 ⟨b,false⟩
 kind:cI r.c 1=aK b
 size:cI r.c 94=cI r.h.c 92
 cur:aw r.c 128 6=if aK b=2 then(aP 1048576 6 (a2 b)).1 else [0,0,0,0,0,0]
 all:cB r.c 134=if aK b=2 then bH (aP 1048576 6 (a2 b)).2 else false
 most:cI r.c 136=if aK b=2 then au 8 (gj (aP 1048576 6 (a2 b)).2)else 0
 writer:cI r.c 137=if aK b=3 then au 6 (a2 b)else 0
 seq:cI r.c 138=if aK b=3 then au 1048576 (aS 6 (a2 b))else 0
 w:r.w=if aK b=2 then jm (aP 1048576 6 (a2 b)).2 else []
 bd:r.b=if aK b=1 then bt 4096 (bU 4096 (a2 b))else []
 h:if aK b=1 then wV (bt 4096 (a2 b)) r.h else r.h=hz
def I3 {s:PS} (hb:ah s.l) (h:(gj s).bad=false):s.bad=false/\s.l=bE (bH s)++(aq (jm s).length++((jm s).flatten++(gj s).l))/\(jm s).length<=8:=by
 obtain⟨h1,h2⟩:=Bo _ _ h;obtain⟨a,b,e,f,_⟩:=fv (iL hb) h1;obtain⟨c,d⟩:=Dv a hb;have hl:(jm s).length=wN s:=fE _ _;refine⟨c,?_,by rw[hl];unfold wN;omega⟩;rw[d,b,h2,hl];rfl
def Gu {s:PS} {a:Bool} (hs:s=⟨bE a++(aq T.length++(T.flatten++t)),false⟩) (hT:∀ x∈T,x.length=16) (c:T.length<=8):gj s=⟨t,false⟩/\jm s=T/\bH s=a:=by
 obtain⟨s1,v1⟩:=tE hs;obtain⟨s2,v2⟩:=ba (m:=8) (z:=T.length) s1 ae ae;have hN:wN s=T.length:=by unfold wN;rw[v2];exact MD _
 have b:=uR s2 hT;unfold gj jm;rw[hN,b];exact⟨rfl,rfl,v1⟩
def xo {r:Rq} {b:List Int} (hp:Dj b r) (hf:r.Form):aK b=1\/aK b=2\/aK b=3:=by
 rcases hf with h | h | h
 .rw[<-hp.kind];exact Or.inl h.1
 .rw[<-hp.kind];exact Or.inr (Or.inl h.1)
 .rw[<-hp.kind];exact Or.inr (Or.inr h.1)
def vO {b:List Int} {r:Rq} (hb:ah b) (hp:Dj b r) (hf:r.Form) (h1:(aF b).bad=false) (h2:(aF b).l=[]):qB r=b:=by
 have b1:ah (a1 b).l:=aE (s:=⟨b,false⟩) hb;have b2:ah (a2 b).l:=aE b1;have hK:=xo hp hf;have n:=aU (s:=a1 b) (m:=3) ae;have main:(a2 b).bad=false->(a2 b).l=ga r->qB r=b:=by
  intro e1 q;obtain⟨t,k,_⟩:=fv (m:=3) b1 e1;obtain⟨_,g3,k1,k2,_⟩:=fv (s:=⟨b,false⟩) (m:=18446744073709551615) hb t;have g3:b=aq (au 18446744073709551615 ⟨b,false⟩).toNat++(a1 b).l:=g3;have k:(a1 b).l=aq (aK b).toNat++(a2 b).l:=k;unfold qB;rw[hp.id,hp.kind,aO (z:=aK b) (by unfold aK;omega) (by unfold aK;omega),<-q,MY,<-k,<-g3]
 rcases hK with e | e | e
 .have d:aF b=qs (a2 b):=by unfold aF;rw[M0 e]
  rw[d]at h1 h2;have c:ah (bU 4096 (a2 b)).l:=(iW b2).1;obtain⟨x1,f,_⟩:=wJ (m:=4096) c h1;obtain⟨g,i,_⟩:=wJ (m:=4096) b2 x1;refine main g ?_;have hh:=hp.h;rw[M0 e]at hh;have a:r.h.Form/\cn r.h=bt 4096 (a2 b):=by
   rcases hh with hh | ⟨hh,_⟩
   .exact hh
   .exfalso;rcases hf with h | h | h
    .rw[hh]at h;exact zM h.2.2.2.1
    .have:=h.1;rw[hp.kind]at this;omega
    .have:=h.1;rw[hp.kind]at this;omega
  have j:=hp.bd;rw[M0 e]at j;unfold ga;rw[hp.kind,M0 e];unfold sk aB;rw[M0 a.1,a.2,j,i,f];show _++(_++(qs (a2 b)).l)=_;rw[h2,Nu]
 .have d:aF b=aS 8 (gj (aP 1048576 6 (a2 b)).2):=by unfold aF;rw[MM ae,M0 e]
  rw[d]at h1 h2;have c:ah (aP 1048576 6 (a2 b)).2.l:=mq 6 _ b2;have u:ah (gj (aP 1048576 6 (a2 b)).2).l:=(iX _ _ (aE (iL c))).2;obtain⟨x1,f,v,B,_⟩:=fv (m:=8) u h1;obtain⟨g,i,_⟩:=I3 c x1;obtain⟨x,y⟩:=Ah 6 (a2 b) b2 g;refine main x ?_;have o:=hp.cur;have p:=hp.all;have hm:=hp.most;have hw:=hp.w;rw[M0 e]at o p hm hw;unfold ga;rw[hp.kind,MM ae,M0 e,o,p,hm,hw,aO v ae,y,i,f,h2,Nu];simp only[MY]
 .have d:aF b=aS 1048576 (aS 6 (a2 b)):=by unfold aF;rw[MM ae,MM ae,M0 e]
  rw[d]at h1 h2;have c:ah (aS 6 (a2 b)).l:=aE b2;obtain⟨x1,f,_⟩:=fv (m:=1048576) c h1;obtain⟨g,i,A,C,_⟩:=fv (m:=6) b2 x1;refine main g ?_;have hw:=hp.writer;have hs:=hp.seq;rw[M0 e]at hw hs;unfold ga;rw[hp.kind,MM ae,MM ae,M0 e,hw,hs,aO A ae,i,f,h2,Nu]
def Lr {r r':Rq} (h:aw r.c 128 6=aw r'.c 128 6):(gx (cI r.c) 128 6↔gx (cI r'.c) 128 6)/\(r.Small↔r'.Small):=by
 refine⟨qS h,?_⟩;have g:=nZ h;unfold Rq.Small;rw[show cI r.c 128=cI r'.c 128 from g 0 ae,show cI r.c 129=cI r'.c 129 from g 1 ae,show cI r.c 130=cI r'.c 130 from g 2 ae,show cI r.c 131=cI r'.c 131 from g 3 ae,show cI r.c 132=cI r'.c 132 from g 4 ae,show cI r.c 133=cI r'.c 133 from g 5 ae]
def jr {r r':Rq} (h0:cI r.c 1=cI r'.c 1) (h1:cI r.c 94=cI r'.c 94) (h2:aw r.c 128 6=aw r'.c 128 6) (a:cB r.c 134=cB r'.c 134) (d:cI r.c 136=cI r'.c 136) (e:cI r.c 137=cI r'.c 137) (f:cI r.c 138=cI r'.c 138) (g:r.h=r'.h) (i:r.b=r'.b) (j:r.w=r'.w):r.Form↔r'.Form:=by
 obtain⟨k,l⟩:=Lr h2;unfold Rq.Form Rq.pO Rq.ma Rq.mc;rw[h0,h1,k,l,a,d,e,f,g,i,j]
def td {c:List Value} (h:gx (cI c) 128 6):aw c 128 6=[0,0,0,0,0,0]:=by
 have g:=(ja 6 128).1 h;show [cI c 128,cI c 129,cI c 130,cI c 131,cI c 132,cI c 133]=_;rw[show cI c 128=0 from g 0 ae,show cI c 129=0 from g 1 ae,show cI c 130=0 from g 2 ae,show cI c 131=0 from g 3 ae,show cI c 132=0 from g 4 ae,show cI c 133=0 from g 5 ae]
def H0:∀ k,k<6->IA[128+k]?=some (.int .u64):=by decide
def H9 {R1 R2 R3:Hl} {row:List Value} {a:Rq} (hx:cy R1 R2 R3 row a) (hf:a.Form):(aF (qB a)).bad=false/\(aF (qB a)).l=[]/\∀ (S1 S2 S3:Hl) (row':List Value) (r:Rq),Dj (qB a) r->cy S1 S2 S3 row' r->r.Form:=by
 have u:∀ {k:Nat},IA[k]?=some (.int .u64)->(k≠55/\k≠127/\k≠135)->0<=cI a.c k/\cI a.c k<18446744073709551616:=fun {k} hk h=>by
  rw[hx.I h];obtain⟨v,hv,hi⟩:=cR hx.ok hk;have:=hx.rng v (MG hv);unfold cI;rw[hv];cases v<;>simp [valIs]at hi
  subst hi;exact this
 have Z:=u (k:=0) zzK aj;have H:=u (k:=138) zzK aj;have B:∀ t∈a.w,t.length=16:=fun t K=>(hx.toks.2 t K).1;generalize hb:qB a=b;have hk:cI a.c 1=1\/cI a.c 1=2\/cI a.c 1=3:=by
  rcases hf with h | h | h
  .exact Or.inl h.1
  .exact Or.inr (Or.inl h.1)
  .exact Or.inr (Or.inr h.1)
 have key:b=aq (cI a.c 0).toNat++(aq (cI a.c 1).toNat++ga a):=by
  rw[<-hb];unfold qB;rw[aO (z:=cI a.c 1) ae ae,MY]
 have s0:(⟨b,false⟩:PS)=⟨_,false⟩:=Ns (fun l=>PS.mk l false) key;obtain⟨s1,v1⟩:=ba (m:=18446744073709551615) (z:=(cI a.c 0).toNat) s0 ae ae;have s1:a1 b=⟨_,false⟩:=s1;obtain⟨s2,v2⟩:=ba (m:=3) (z:=(cI a.c 1).toNat) s1 ae ae;have s2:a2 b=⟨ga a,false⟩:=s2;have eK:aK b=cI a.c 1:=by unfold aK;rw[v2];omega
 rcases hf with h | h | h
 .obtain⟨h1,d,i,j,hsz⟩:=h;have J:=jQ j.2.2.2.1;have n:cI a.c 94=cI a.h.c 92:=by
   rw[hx.I aj,hx.hd.I (k:=92) aj];unfold cI;rw[Nv ae,Nm]
  have rG:ga a=ak (cn a.h)++(ak a.b++[]):=by
   unfold ga sk aB;rw[M0 h1,M0 j,Nu]
  have hlen:(cn a.h).length<=932:=by
   have:=cP hx.hd;unfold aB at this;rwa[M0 j]at this
  rw[rG]at s2;obtain⟨t1,w1⟩:=qL (m:=4096) (b:=cn a.h) (t:=ak a.b++[]) ae ae;obtain⟨t2,w2⟩:=qL (m:=4096) (b:=a.b) (t:=[]) ae ae;rw[<-s2]at t1 w1;rw[<-t1]at t2 w2;have p:aF b=⟨[],false⟩:=by
   unfold aF qs;rw[M0 ae];exact t2
  refine⟨by rw[p],by rw[p],fun S1 S2 S3 row' r hp A=>?_⟩;have hh:=hp.h;rw[M0 ae,w1]at hh;have C:r.h=a.h:=by
   rcases hh with ⟨q1,q2⟩ | ⟨_,q2⟩
   .exact zE A.hd q1 hx.hd j q2
   .exact absurd rfl (q2 _ _ _ hx.hd j)
  have f:=hp.bd;rw[M0 ae,w2]at f;have c:=hp.cur;rw[MM ae]at c;have q:=hp.all;rw[MM ae]at q;have s:=hp.most;rw[MM ae]at s;have x:=hp.writer;rw[MM ae]at x;have cs:=hp.seq;rw[MM ae]at cs;have y:=hp.w;rw[MM ae]at y;refine(jr (r:=r) (r':=a) (by rw[hp.kind,eK]) (by rw[hp.size,C,n]) (by rw[c,td d.1]) (by rw[q,d.2.1]) (by rw[s,d.2.2.2]) (by rw[x,i.1]) (by rw[cs,i.2]) C f (by rw[y,d.2.2.1])).2 (Or.inl ⟨h1,d,i,j,hsz⟩)
 .obtain⟨h1,d,i,D,L,M,N,O,P⟩:=id h;have g:∀ k,k<6->0<=cI a.c (128+k):=fun k hk=>by
   exact(u (k:=128+k) (H0 k hk) ae).1
  obtain⟨m0,m1,m2,m3,m4,m5⟩:=D;have E:∀ v∈aw a.c 128 6,0<=v/\v<=1048576/\v<18446744073709551616:=by
   intro v hv;have e:aw a.c 128 6=[cI a.c 128,cI a.c 129,cI a.c 130,cI a.c 131,cI a.c 132,cI a.c 133]:=rfl;rw[e]at hv;have g0:=g 0 ae;have Q:=g 1 ae;have R:=g 2 ae;have g3:=g 3 ae;have g4:=g 4 ae;have S:=g 5 ae;simp only[Nat.reduceAdd,NH]at g0 Q R g3 g4 S;simp only[MQ,MV,Nt]at hv;rcases hv with rfl | rfl | rfl | rfl | rfl | rfl<;>omega
  have rG:ga a=fF (aw a.c 128 6)++(bE (cB a.c 134)++(aq a.w.length++(a.w.flatten++(aq (cI a.c 136).toNat++[])))):=by
   unfold ga;rw[MM ae,M0 h1,aO (z:=cI a.c 136) ae ae];simp only[MY,Nu]
  rw[rG]at s2;have t1:=tY (m:=1048576) (aw a.c 128 6) (bE (cB a.c 134)++(aq a.w.length++(a.w.flatten++(aq (cI a.c 136).toNat++[])))) E;rw[aC,<-s2]at t1;have F:(aP 1048576 6 (a2 b)).1=aw a.c 128 6:=Ns Prod.fst t1;have G:(aP 1048576 6 (a2 b)).2=⟨_,false⟩:=Ns Prod.snd t1;obtain⟨t2,w2,T⟩:=Gu G B L;obtain⟨t3,U⟩:=ba (m:=8) (z:=(cI a.c 136).toNat) t2 ae ae;have p:aF b=⟨[],false⟩:=by
   unfold aF;rw[MM ae,M0 ae];exact t3
  refine⟨by rw[p],by rw[p],fun S1 S2 S3 row' r hp A=>?_⟩;have hh:=hp.h;rw[MM ae]at hh;have f:=hp.bd;rw[MM ae]at f;have c:=hp.cur;rw[M0 ae]at c;have q:=hp.all;rw[M0 ae]at q;have s:=hp.most;rw[M0 ae]at s;have x:=hp.writer;rw[MM ae]at x;have cs:=hp.seq;rw[MM ae]at cs;have y:=hp.w;rw[M0 ae]at y;have n:cI a.c 94=cI a.h.c 92:=by
   rw[hx.I aj,hx.hd.I (k:=92) aj];unfold cI;rw[Nv ae,Nm]
  refine(jr (r:=r) (r':=a) (by rw[hp.kind,eK]) (by rw[hp.size,hh,n,d.2]) (by rw[c,F]) (by rw[q,T]) (by rw[s,U];omega) (by rw[x,i.1]) (by rw[cs,i.2]) (by rw[hh,d.2]) (by rw[f,d.1]) (by rw[y,w2])).2 (Or.inr (Or.inl h))
 .obtain⟨h1,d,o,V,W,X,Y⟩:=id h;have rG:ga a=aq (cI a.c 137).toNat++(aq (cI a.c 138).toNat++[]):=by
   unfold ga;rw[MM ae,MM ae,M0 h1,aO (z:=cI a.c 137) ae ae,Nu]
  rw[rG]at s2;obtain⟨t1,w1⟩:=ba (m:=6) (z:=(cI a.c 137).toNat) s2 ae ae;obtain⟨t2,w2⟩:=ba (m:=1048576) (z:=(cI a.c 138).toNat) t1 ae ae;have p:aF b=⟨[],false⟩:=by
   unfold aF;rw[MM ae,MM ae,M0 ae];exact t2
  refine⟨by rw[p],by rw[p],fun S1 S2 S3 row' r hp A=>?_⟩;have hh:=hp.h;rw[MM ae]at hh;have f:=hp.bd;rw[MM ae]at f;have c:=hp.cur;rw[MM ae]at c;have q:=hp.all;rw[MM ae]at q;have s:=hp.most;rw[MM ae]at s;have x:=hp.writer;rw[M0 ae]at x;have cs:=hp.seq;rw[M0 ae]at cs;have y:=hp.w;rw[MM ae]at y;have n:cI a.c 94=cI a.h.c 92:=by
   rw[hx.I aj,hx.hd.I (k:=92) aj];unfold cI;rw[Nv ae,Nm]
  refine(jr (r:=r) (r':=a) (by rw[hp.kind,eK]) (by rw[hp.size,hh,n,d.2]) (by rw[c,td o.1]) (by rw[q,o.2.1]) (by rw[s,o.2.2.2]) (by rw[x,w1];omega) (by rw[cs,w2];omega) (by rw[hh,d.2]) (by rw[f,d.1]) (by rw[y,o.2.2.1])).2 (Or.inr (Or.inr h))
end
section
def rW:CV:=.sl (.lit (-1)) (.lit 0) (.lit 0) (.lit 0)
def Jl:List CV:=[.int .u64 (.var 8),.int .i64 (.wrap .i64 (.var 10))]
def JH:List CV:=[.int .u64 (.lit 0),.int .u64 (.lit 0),.int .u64 (.lit 0),.int .u64 (.lit 0),.int .u64 (.lit 0),.int .u64 (.lit 0)]
def Jw:List CV:=Jl++(ckCVs 13 bC++(JH++[.bool .ff,rW,.int .i64 (.lit 0),.int .i64 (.lit 0),.int .u64 (.lit 0)]))
def Jx:List CV:=Jl++(Gy++(rW::(ckCVs 13 (List.replicate 6 (Ck.int .u64)++[Ck.bool,Ck.sl])++[.int .i64 (.wrap .i64 (.var 24)),.int .i64 (.lit 0),.int .u64 (.lit 0)])))
def Jy:List CV:=Jl++(Gy++(rW::(JH++[.bool .ff,rW,.int .i64 (.lit 0),.int .i64 (.wrap .i64 (.var 13)),.int .u64 (.var 15)])))
def Jv:List CV:=Jl++(Gy++(rW::(JH++[.bool .ff,rW,.int .i64 (.lit 0),.int .i64 (.lit 0),.int .u64 (.lit 0)])))
def Iz:List CV:=[.int .u64 (.lit 0),.int .i64 (.lit 0)]++(Gy++(rW::(JH++[.bool .ff,rW,.int .i64 (.lit 0),.int .i64 (.lit 0),.int .u64 (.lit 0)])))
noncomputable def Jz:List Sx.Spec:=[gH,numS,jd,oL,gS,jk,jv,gK,fD,kZ,je 37]
def FJ:∀ t∈Jz,t.OK Tryz.prog:=ai gl <| ai mo <| ai mX <| ai qz <| ai kc <| ai oq <| ai pz <| ai oe <| ai lP <| ai qK <| ai oW <| aD
noncomputable def sC:Walk Tryz.prog Jz 9 where
 Λ:=noLoops
 args:=[.sv (.one (.sl (.var 0) (.var 1) (.var 2) (.var 3)))]
 mem:=[.ro 4 [.var 0] false]
 nv:=5
def wj:List Value:=br 0 0 (gV++[.slice none 0 0]) [0,0,0,0,0,0] false (.slice none 0 0) 0 0 0
def wh (b:List Int) (v:Value) (F:Hl):Prop :=
 (∃ row r,v=.tuple #[.agg row.toArray,.int .i64 0]/\cy F F F row r/\r.Form/\qB r=b)\/(v=.tuple #[.agg wj.toArray,.int .i64 2]/\∀ R1 R2 R3 row r,cy R1 R2 R3 row r->r.Form->qB r≠b)
def iR:Sx.Spec where
 fn:=9
 own:=[]
 rd:=[0]
 res:=[.agg ji,.one (.int .i64)]
 pre:=fun xs Hs Rs=>∃ u bs R,xs=[u]/\Rs=[R]/\RdW R u bs/\ah bs/\bs.length<=1000000
 post:=fun xs Hs Rs v Hs' F=>∃ u bs R,xs=[u]/\Rs=[R]/\RdW R u bs/\wh bs v F
end
section
def K4:gK.res=[.agg bC]:=rfl
def K5:fD.res=[.agg (List.replicate 6 (.int .u64))]:=rfl
def K6:kZ.res=[.agg [.bool,.sl]]:=rfl
def IB (f:FuncId):(je f).res=[.one .bool]:=rfl
def tu:(Cp.agg bC).len=132:=by kernel_rfl
def xg:(Cp.agg (List.replicate 6 (.int .u64))).len=6:=by kernel_rfl
def zg:(Cp.agg [.bool,.sl]).len=5:=by kernel_rfl
def ye:(cpRoots 0 [Cp.agg bC]≠[])=True:=by
 have e:cpRoots 0 [Cp.agg bC]=[.var 53,.var 128]:=by kernel_rfl
 rw[e];simp
def AP:(cpRoots 0 [Cp.agg (List.replicate 6 (.int .u64))]≠[])=False:=by
 have e:cpRoots 0 [Cp.agg (List.replicate 6 (.int .u64))]=[]:=by kernel_rfl
 rw[e];simp
def AQ:(cpRoots 0 [Cp.agg [.bool,.sl]]≠[])=True:=by
 have e:cpRoots 0 [Cp.agg [.bool,.sl]]=[.var 1]:=by kernel_rfl
 rw[e];simp
section
variable {q:Env} {n:Nat} {p:Value} {H:Hl} {s:PS} {K:Env->Prop} {A:Env->Hl->Prop}
def qe (h:dy H p s) (k:∀ q',Agree n q q'->((q'.b n=true)=(s.bad=false/\s.l=[]))->K q') :
 gS.pre [p] [] [H]/\∀ q',Agree n q q'->(∃ F,gS.post [p] [] [H] (.bool (bev q' (.bvar n))) [] F/\A q' F)->K q':=by
 refine⟨⟨_,H,s.l,s.bad,rfl,rfl,h⟩,fun q' g ⟨F,⟨f,R',bs',bad',e1,c,a,hv⟩,_⟩=>k q' g ?_⟩;simp only[MH,MZ]at e1 c;subst e1 c;obtain⟨d,e⟩:=h.uniq a;subst d e;simp only[Value.bool.injEq,bev_bvar]at hv;rw[hv];simp
def qd {row:List Value} {R1 R2 R3:Hl} {r:Rq} (hx:cy R1 R2 R3 row r) (k:∀ q',Agree n q q'->((q'.b n=true)=r.Form)->K q') :
 (je f).pre [.agg row.toArray] [] [R1,R2,R3]/\∀ q',Agree n q q'->(∃ F,(je f).post [.agg row.toArray] [] [R1,R2,R3] (.bool (bev q' (.bvar n))) [] F/\A q' F)->K q' :=
 ⟨⟨row,R1,R2,R3,r,rfl,rfl,hx⟩,fun q' g ⟨_,hp,_⟩=>k q' g (oZ hx hp)⟩
end
def yA:List Int:=[0,0,0,0,0,0]
def jU:Value:=.slice none 0 0
def BD:List Value:=gV++[jU]
def Aw (q:Env) (n:Nat):List Value:=(ckCVs n bC).map (CV.ev q)
def FD (q:Env):Jw.map (CV.ev q)=br (q.i 8) (IntKind.i64.wrap (q.i 10)) (Aw q 13) yA false jU 0 0 0:=by kernel_rfl
def FE (q:Env):Jx.map (CV.ev q)=br (q.i 8) (IntKind.i64.wrap (q.i 10)) BD [q.i 13,q.i 14,q.i 15,q.i 16,q.i 17,q.i 18] (q.b 19) (.slice (slP (q.i 20) (q.i 21)) (q.i 22).toNat (q.i 23).toNat) (IntKind.i64.wrap (q.i 24)) 0 0:=by kernel_rfl
def FF (q:Env):Jy.map (CV.ev q)=br (q.i 8) (IntKind.i64.wrap (q.i 10)) BD yA false jU 0 (IntKind.i64.wrap (q.i 13)) (q.i 15):=by kernel_rfl
def FC (q:Env):Jv.map (CV.ev q)=br (q.i 8) (IntKind.i64.wrap (q.i 10)) BD yA false jU 0 0 0:=by kernel_rfl
def FG (q:Env):Iz.map (CV.ev q)=wj:=by kernel_rfl
def Cn (R:Hl):RdW R jU []:=⟨-1,0,0,rfl,MT _,Or.inl rfl⟩
def qT (R1 R2:Hl):aV R1 R2 BD ⟨hz,[]⟩:=by
 refine⟨bb (kb:=[.slice]) wU ⟨rfl,zzT⟩,?_,?_,fun z h=>(by cases h),NO _⟩
 .have e:BD.take 125=gV:=by kernel_rfl
  rw[e];exact pg _
 .have e:BD.getD 125 cC=jU:=by kernel_rfl
  rw[e];exact Cn _
def jV (R:Hl):RdRows R jU dg (([]:List (List Int)).map bys):=(OwR.nil R 0 dg).rd
def jW:bO []:=⟨ar,fun t h=>by cases h⟩
def qj:yu yA:=by
 intro z hz;have:z=0:=by simpa [yA] using hz
 omega
def kz:∀ v∈BD,eL v:=by
 intro v hv;rcases Nb.1 hv with hv | hv
 .rcases te v hv with rfl | rfl | rfl | rfl | rfl<;>trivial
 .rw[MO]at hv;subst hv;trivial
def ko {id kind most writer seq:Int} {pr:List Value} {cur:List Int} {all:Bool} {u:Value} (hp:∀ v∈pr,eL v) (hu:eL u):∀ v∈br id kind pr cur all u most writer seq,eL v:=by
 intro v hv;unfold br at hv;simp only[Nb,MQ,MV,Nt]at hv;rcases hv with (rfl | rfl) | hv | hv | rfl | rfl | rfl | rfl | rfl
 .trivial
 .trivial
 .exact hp v hv
 .unfold us at hv;obtain⟨z,_,rfl⟩:=Np.1 hv;trivial
 .trivial
 .exact hu
 .trivial
 .trivial
 .trivial
def CA {q:Env} {n:Nat} (h:cpNorms n [.agg bC] q):(-1<=q.i (n+53)/\0<=q.i (n+54)/\0<=q.i (n+55)/\0<=q.i (n+56))/\(-1<=q.i (n+128)/\0<=q.i (n+129)/\0<=q.i (n+130)/\0<=q.i (n+131)):=by
 have h:ckNorms n bC q:=h.1;have e1:bC=bC.take 53++(.sl::bC.drop 54):=by kernel_rfl
 have c:bC=bC.take 125++(.sl::bC.drop 126):=by kernel_rfl
 have g:∀ (a b:List Ck) (n:Nat),ckNorms n (a++b) q->ckNorms (n+ckLen a) b q:=by
  intro a
  induction a with
  | nil=>intro b n h;simpa [ckLen] using h
  | cons k a ih =>
   intro b n h;have:=ih b (n+k.len) h.2;rw[show n+k.len+ckLen a=n+ckLen (k::a)by simp [ckLen];omega]at this;exact this
 have h1:=g _ _ _ (e1▸h);have h2:=g _ _ _ (c▸h);rw[show ckLen (bC.take 53)=53 by kernel_rfl]at h1;rw[show ckLen (bC.take 125)=128 by kernel_rfl]at h2;exact⟨h1.1,h2.1⟩
def CD (q:Env) (n:Nat):Aw q n=av q n++[.slice (slP (q.i (n+128)) (q.i (n+129))) (q.i (n+130)).toNat (q.i (n+131)).toNat]:=by kernel_rfl
def xS {q:Env} {n:Nat} (h:cpNorms n [.agg bC] q):∀ v∈Aw q n,eL v:=by
 intro v hv;obtain⟨h1,h2⟩:=CA h;rw[CD]at hv;rcases Nb.1 hv with hv | hv
 .exact pf h1.1 v hv
 .rw[MO]at hv;subst hv;exact ij h2.1
def ig {b:List Int} {row:List Value} {r:Rq} (hx:cy S1 S2 S3 row r) (hp:Dj b r) (hn:¬(((aF b).bad=false/\(aF b).l=[])/\r.Form)):∀ R1 R2 R3 row r,cy R1 R2 R3 row r->r.Form->qB r≠b:=by
 rintro R1 R2 R3 row' r' a c rfl;obtain⟨d,e,f⟩:=H9 a c;exact hn ⟨⟨d,e⟩,f _ _ _ _ _ hp hx⟩
section
variable {x y:Int} {b:List Int} {c:Nat} {R:Hl}
def lV (a:RdW R (.slice (slP x y) b.length c) b) (d:∀ R1 R2 R3 row r,cy R1 R2 R3 row r->r.Form->qB r≠b):postOf iR [.slice (slP x y) b.length c] [] [R] qq mem (.tup [.agg Iz,.one (.int .i64 (.lit 2))]):=by
 intro _;have ev:(TV.tup [SV.agg Iz,SV.one (CV.int IntKind.i64 (E.lit 2))]).ev qq=.tuple #[.agg wj.toArray,.int .i64 2]:=by
  show Value.tuple #[.agg (Iz.map (CV.ev qq)).toArray,.int .i64 2]=_;rw[FG]
 obtain⟨g,hr0,_⟩:=Ab (R1:=Hl.none) (R2:=Hl.none) (R3:=Hl.none) (id:=0) (kind:=0) (most:=0) (writer:=0) (seq:=0) (all:=false) (u:=jU) (w:=[]) (cur:=yA) (qT _ _) rfl qj ae (by unfold bS;omega) (by unfold bS;omega) (by unfold bS;omega) ae (jV _) jW;obtain⟨e,h2,f⟩:=fR (ks:=ji) (row:=wj) (k:=.i64) 2 hr0.ok zzK (ko kz zzT);exact⟨[],[],rfl,rfl,⟨e,ev.trans h2.symm,f⟩,_,b,R,rfl,rfl,a,Or.inr ⟨ev,d⟩⟩
def wT (a:RdW R (.slice (slP x y) b.length c) b) {V:List CV} {row:List Value} {r:Rq} {f:List Nat} (hok:okIdx mem [] f=true) (he:V.map (CV.ev qq)=row) (d:∀ v∈row,eL v)
 (hx:(∀ (p q:Nat) r s,p≠q->mem[p]?=some r->mem[q]?=some s->r.own=true->(r.hl qq).dis (s.hl qq))->cy (uni qq mem f) (uni qq mem f) (uni qq mem f) row r) (hf:r.Form) (hb:qB r=b) :
 postOf iR [.slice (slP x y) b.length c] [] [R] qq mem (.tup [.agg V,.one (.int .i64 (.lit 0))]):=by
 intro hd;have hx:=hx hd;have ev:(TV.tup [SV.agg V,SV.one (CV.int IntKind.i64 (E.lit 0))]).ev qq=.tuple #[.agg row.toArray,.int .i64 0]:=by
  show Value.tuple #[.agg (V.map (CV.ev qq)).toArray,.int .i64 0]=_;rw[he]
 obtain⟨e,h2,g⟩:=fR (ks:=ji) (row:=row) (k:=.i64) 0 hx.ok zzK d;exact⟨[],f,rfl,hok,⟨e,ev.trans h2.symm,g⟩,_,b,R,rfl,rfl,a,Or.inl ⟨row,r,ev,hx,hf,hb⟩⟩
end
def ui:iR.OK Tryz.prog:=by
 refine Spec.of_fn (Γ:=Jz) FJ ?_;rintro xs Hs Rs aj aA ⟨u,b,R,rfl,rfl,d,hby,hlen⟩;have e0:Hs=[]:=MF.1 aj;subst e0;obtain⟨x,y,c,rfl,hy,hR⟩:=id d;refine⟨sC,envI [x,y,b.length,c] false [Hl.none,Hl.none,Hl.none,Hl.none,R],fun _ _=>True,fun _ _=>0,?_,⟨?_,?_,?_,?_⟩,(fun _ h=>nomatch h),?_⟩
 .show [Value.slice (slP x y) ((b.length:Int)).toNat ((c:Int)).toNat]=_;rw[MD,MD]
 .intro r hr ho;simp [sC]at hr;subst hr;cases ho
 .intro r hr ho;simp [sC]at hr;subst hr;exact⟨R,ar,Hl.le_refl _⟩
 .simp [sC]
 .intro r hr;simp [sC]at hr;subst hr;trivial
 .refine Walk.read [] [] [Jw,Iz,Jx,Jy,Jv] ?_;generalize B:envI [x,y,b.length,c] false [Hl.none,Hl.none,Hl.none,Hl.none,R]=J;have v0:J.i 0=x:=by rw[<-B];rfl
  have v1:J.i 1=y:=by rw[<-B];rfl
  have v2:J.i 2=b.length:=by rw[<-B];rfl
  have v3:J.i 3=c:=by rw[<-B];rfl
  have w4:J.h 4=R:=by rw[<-B];rfl
  clear B;simp only[go_sem,Nat.reduceAdd,Jz,KZ,K0,K3,K4,K5,K6,IB,KS,LW,xZ,tu,xg,zg,ye,AP,AQ];intro q0 g0 _;simp only[g0.iA,g0.hA,Nat.reduceLT,v0,v1,v2,v3,w4,MD];refine⟨⟨_,b,R,rfl,rfl,d,hby,hlen⟩,fun q1 g1 ⟨F1,Y,Z,_⟩=>?_⟩;have h1:dy (q1.h 6) (.pointer (slP (q1.i 6) (q1.i 7))) ⟨b,false⟩:=by
   obtain⟨u',b',R',e1,D,ak,P⟩:=Y;simp only[MH,MZ]at e1 D;subst e1 D;rw[d.uniq ak,Z zzT];exact P
  refine de h1 fun q2 g2 h2 Q=>?_;have h2:dy (q2.h 8) _ (a1 b):=h2;rw[<-g2.i 6,<-g2.i 7]at h2;refine de h2 fun q3 g3 E v10=>?_;have E:dy (q3.h 10) _ (a2 b):=E;have v10:q3.i 10=aK b:=v10;rw[<-g3.i 6,<-g3.i 7]at E;rw[<-g3.i 8]at Q;intro L g4 _;rw[<-g4.h 10,<-g4.i 6,<-g4.i 7]at E;rw[<-g4.i 8]at Q;rw[<-g4.i 10]at v10;have hK:0<=aK b/\aK b<=3:=aU (s:=a1 b) (m:=3) ae;have h8:=aU (s:=⟨b,false⟩) (m:=18446744073709551615) ae;have wK:IntKind.i64.wrap (L.i 10)=aK b:=by rw[v10,IntWalk.i64_in _ ae]
  have b2:ah (a2 b).l:=aE (aE (s:=⟨b,false⟩) hby);have iK:bS (aK b):=by unfold bS;omega
  have i0:bS 0:=by unfold bS;omega
  rw[wK];clear g0 g1 g2 g3 Y Z;refine⟨fun eK=>?_,fun aB=>⟨fun eK=>?_,fun aC=>⟨fun eK=>?_,fun aD=>?_⟩⟩⟩
  .
   refine⟨⟨_,_,_,rfl,rfl,E⟩,fun A p ⟨F5,S,aa,ab⟩=>?_⟩;obtain⟨p',H',M,H5,ad,c5,e1,D,P,N,C,T,af,al,an⟩:=S;simp only[MH,MZ]at e1 D N;subst e1 D N;obtain⟨F,G⟩:=E.uniq P;have es:M=a2 b:=by cases M;cases hh:a2 b;rw[hh]at F G;simp only at F G;rw[F,G]
   subst es;have er:Aw A 13=ad:=M4 (Value.agg.inj T);rw[<-er,<-aa zzT]at af;have U:aF b=qs (a2 b):=by unfold aF;rw[M0 eK]
   rw[<-U,<-p.i 6,<-p.i 7]at C;obtain⟨r,hx,k,q,t,hT⟩:=Ab (id:=A.i 8) (kind:=aK b) (most:=0) (writer:=0) (seq:=0) (all:=false) (u:=jU) (w:=[]) (cur:=yA) (R3:=Hl.none) af rfl qj (by rw[p.i 8,Q];omega) iK i0 i0 ae (jV _) jW;have hp:Dj b r:=⟨by rw[hT.id,p.i 8,Q],hT.kind,by rw[hT.size,k],by rw[hT.cur,MM ae];rfl,by rw[hT.all,MM ae],by rw[hT.most,MM ae],by rw[hT.writer,MM ae],by rw[hT.seq,MM ae],by rw[t,MM ae],by rw[q,M0 eK,an],by rw[M0 eK,k];exact al⟩;have he:∀ q',Agree 145 A q'->Jw.map (CV.ev q')=br (A.i 8) (aK b) (Aw A 13) yA false jU 0 0 0:=fun q' g=>by
    rw[CV.agreeL g Jw zzK,FD,p.i 10,wK]
   refine qe C fun v n e=>⟨fun hv=>?_,fun hv=>lV d (ig hx hp fun hh=>hv (Eq.mpr e hh.1))⟩;rw[he v n,n.h 14];refine qd hx fun q7 o j=>⟨fun a=>lV d (ig hx hp fun hh=>a (Eq.mpr j hh.2)),fun a=>?_⟩;have G7:Agree 145 A q7:=n.tr o;refine wT d (f:=[4]) rfl (he q7 G7) (ko (xS ab) trivial) (fun _=>?_) (Eq.mp j a) (vO hby hp (Eq.mp j a) (Eq.mp e hv).1 (Eq.mp e hv).2);show cy (hls [q7.h 14]) (hls [q7.h 14]) (hls [q7.h 14]) _ r;rw[hls_one,G7.h 14];exact hx.mono (Hl.le_refl _) (Hl.le_refl _) (fun _ _ h=>nomatch h)
  .
   refine⟨⟨_,_,_,rfl,rfl,E⟩,fun A p ⟨F5,S,aa,ab⟩=>?_⟩;obtain⟨p',H',M,H5,e1,D,P,N,C,T⟩:=S;simp only[MH,MZ]at e1 D N;subst e1 D N;obtain⟨F,G⟩:=E.uniq P;have es:M=a2 b:=by cases M;cases hh:a2 b;rw[hh]at F G;simp only at F G;rw[F,G]
   subst es;have er:us [A.i 13,A.i 14,A.i 15,A.i 16,A.i 17,A.i 18]=us (aP 1048576 6 (a2 b)).1:=M4 (Value.agg.inj T);have er:=Bq er;rw[<-p.i 6,<-p.i 7]at C;refine⟨⟨_,_,_,rfl,rfl,C⟩,fun v n ⟨F6,ao,aq,av⟩=>?_⟩;obtain⟨p',H',M,H6,u6,e1,D,P,N,ag,I,V⟩:=ao;simp only[MH,MZ]at e1 D N;subst e1 D N;obtain⟨F,G⟩:=C.uniq P;have es:M=(aP 1048576 6 (a2 b)).2:=by cases M;cases hh:(aP 1048576 6 (a2 b)).2;rw[hh]at F G;simp only at F G;rw[F,G]
   subst es;have I:[Value.bool (v.b 19),.slice (slP (v.i 20) (v.i 21)) (v.i 22).toNat (v.i 23).toNat]=[Value.bool _,u6]:=M4 (Value.agg.inj I);simp only[MH,Value.bool.injEq,MZ]at I;obtain⟨ea,eu⟩:=I;rw[<-eu,<-aq zzT]at V;rw[<-n.i 6,<-n.i 7]at ag;refine de ag fun q7 o h7 aw=>?_;have U:aF b=aS 8 (gj (aP 1048576 6 (a2 b)).2):=by unfold aF;rw[MM ae,M0 eK]
   rw[<-U,<-o.i 6,<-o.i 7]at h7;have aG:Agree 24 v q7:=o;have er:[q7.i 13,q7.i 14,q7.i 15,q7.i 16,q7.i 17,q7.i 18]=(aP 1048576 6 (a2 b)).1:=by
    rw[o.i 13,o.i 14,o.i 15,o.i 16,o.i 17,o.i 18,n.i 13,n.i 14,n.i 15,n.i 16,n.i 17,n.i 18];exact er
   rw[<-o.b 19]at ea;rw[<-o.i 20,<-o.i 21,<-o.i 22,<-o.i 23,<-o.h 20]at V;have O:q7.i 8=au 18446744073709551615 ⟨b,false⟩:=by rw[o.i 8,n.i 8,p.i 8,Q]
   have W:q7.i 10=L.i 10:=by rw[o.i 10,n.i 10,p.i 10]
   have ax:=qi (m:=1048576) ae 6 (a2 b);have hm:=aU (s:=gj (aP 1048576 6 (a2 b)).2) (m:=8) ae;have l1:ah (aP 1048576 6 (a2 b)).2.l:=mq 6 _ b2;have ay:bO (jm (aP 1048576 6 (a2 b)).2):=by
    have h8:=aU (s:=bY (aP 1048576 6 (a2 b)).2) (m:=8) ae;refine⟨?_,(iX _ _ (aE (iL l1))).1⟩;unfold jm;rw[fE];unfold wN;omega
   obtain⟨r,hx,k,q,t,hT⟩:=Ab (id:=q7.i 8) (kind:=aK b) (most:=au 8 (gj (aP 1048576 6 (a2 b)).2)) (writer:=0) (seq:=0) (all:=q7.b 19) (cur:=[q7.i 13,q7.i 14,q7.i 15,q7.i 16,q7.i 17,q7.i 18]) (qT Hl.none Hl.none) rfl (by rw[er];intro z hz;have:=ax z hz;omega) (by rw[O];omega) iK (by unfold bS;omega) i0 ae V.rd ay;have hp:Dj b r:=⟨by rw[hT.id,O],hT.kind,by rw[hT.size,k],by rw[hT.cur,M0 eK,er],by rw[hT.all,M0 eK,ea],by rw[hT.most,M0 eK],by rw[hT.writer,MM ae],by rw[hT.seq,MM ae],by rw[t,M0 eK],by rw[q,MM ae],by rw[MM ae,k]⟩;have he:∀ q',Agree 26 q7 q'->Jx.map (CV.ev q')=br (q7.i 8) (aK b) BD [q7.i 13,q7.i 14,q7.i 15,q7.i 16,q7.i 17,q7.i 18] (q7.b 19) (.slice (slP (q7.i 20) (q7.i 21)) (q7.i 22).toNat (q7.i 23).toNat) (au 8 (gj (aP 1048576 6 (a2 b)).2)) 0 0:=fun q' g=>by
    rw[CV.agreeL g Jx zzK,FE,W,wK,aw,IntWalk.i64_in _ ae]
   refine qe h7 fun q8 K e=>⟨fun hv=>?_,fun hv=>lV d (ig hx hp fun hh=>hv (Eq.mpr e hh.1))⟩;rw[he q8 K,K.h 20];refine qd hx fun H g9 j=>⟨fun a=>lV d (ig hx hp fun hh=>a (Eq.mpr j hh.2)),fun a=>?_⟩;have X:Agree 26 q7 H:=K.tr g9;refine wT d (f:=[4]) rfl (he H X) (ko kz ?_) (fun _=>?_) (Eq.mp j a) (vO hby hp (Eq.mp j a) (Eq.mp e hv).1 (Eq.mp e hv).2)
   .refine ij ?_;rw[o.i 20];exact av.1.2.1.1
   .show cy (hls [H.h 20]) (hls [H.h 20]) (hls [H.h 20]) _ r;rw[hls_one,X.h 20];exact hx.mono (fun _ _ h=>nomatch h) (fun _ _ h=>nomatch h) (Hl.le_refl _)
  .
   refine de E fun A p h5 ai=>?_;rw[<-p.i 6,<-p.i 7]at h5;refine de h5 fun v n h6 az=>?_;have U:aF b=aS 1048576 (aS 6 (a2 b)):=by unfold aF;rw[MM ae,MM ae,M0 eK]
   rw[<-U,<-n.i 6,<-n.i 7]at h6;have O:v.i 8=au 18446744073709551615 ⟨b,false⟩:=by rw[n.i 8,p.i 8,Q]
   have W:v.i 10=L.i 10:=by rw[n.i 10,p.i 10]
   rw[<-n.i 13]at ai;have aH:=aU (s:=a2 b) (m:=6) ae;have aI:=aU (s:=aS 6 (a2 b)) (m:=1048576) ae;obtain⟨r,hx,k,q,t,hT⟩:=Ab (id:=v.i 8) (kind:=aK b) (most:=0) (writer:=au 6 (a2 b)) (seq:=au 1048576 (aS 6 (a2 b))) (all:=false) (u:=jU) (w:=[]) (cur:=yA) (R3:=Hl.none) (qT Hl.none Hl.none) rfl qj (by rw[O];omega) iK i0 (by unfold bS;omega) ae (jV _) jW;have hp:Dj b r:=⟨by rw[hT.id,O],hT.kind,by rw[hT.size,k],by rw[hT.cur,MM ae];rfl,by rw[hT.all,MM ae],by rw[hT.most,MM ae],by rw[hT.writer,M0 eK],by rw[hT.seq,M0 eK],by rw[t,MM ae],by rw[q,MM ae],by rw[MM ae,k]⟩;have he:∀ q',Agree 17 v q'->Jy.map (CV.ev q')=br (v.i 8) (aK b) BD yA false jU 0 (au 6 (a2 b)) (au 1048576 (aS 6 (a2 b))):=fun q' g=>by
    rw[CV.agreeL g Jy zzK,FF,W,wK,ai,az,IntWalk.i64_in _ ae]
   refine qe h6 fun q8 K e=>⟨fun hv=>?_,fun hv=>lV d (ig hx hp fun hh=>hv (Eq.mpr e hh.1))⟩;rw[he q8 K];refine qd hx fun H g9 j=>⟨fun a=>lV d (ig hx hp fun hh=>a (Eq.mpr j hh.2)),fun a=>?_⟩;have X:Agree 17 v H:=K.tr g9;refine wT d (f:=[]) rfl (he H X) (ko kz zzT) (fun _=>?_) (Eq.mp j a) (vO hby hp (Eq.mp j a) (Eq.mp e hv).1 (Eq.mp e hv).2);exact hx.mono (fun _ _ h=>nomatch h) (fun _ _ h=>nomatch h) (fun _ _ h=>nomatch h)
  .
   have O:L.i 8=au 18446744073709551615 ⟨b,false⟩:=Q;have U:aF b=a2 b:=by unfold aF;rw[MM ae,MM ae,MM ae]
   rw[<-U]at E;obtain⟨r,hx,k,q,t,hT⟩:=Ab (id:=L.i 8) (kind:=aK b) (most:=0) (writer:=0) (seq:=0) (all:=false) (u:=jU) (w:=[]) (cur:=yA) (R3:=Hl.none) (qT Hl.none Hl.none) rfl qj (by rw[O];omega) iK i0 i0 ae (jV _) jW;have hp:Dj b r:=⟨by rw[hT.id,O],hT.kind,by rw[hT.size,k],by rw[hT.cur,MM ae];rfl,by rw[hT.all,MM ae],by rw[hT.most,MM ae],by rw[hT.writer,MM ae],by rw[hT.seq,MM ae],by rw[t,MM ae],by rw[q,MM ae],by rw[MM ae,k]⟩;have he:∀ q',Agree 13 L q'->Jv.map (CV.ev q')=br (L.i 8) (aK b) BD yA false jU 0 0 0:=fun q' g=>by
    rw[CV.agreeL g Jv zzK,FC,wK]
   refine qe E fun q8 K e=>⟨fun hv=>?_,fun hv=>lV d (ig hx hp fun hh=>hv (Eq.mpr e hh.1))⟩;rw[he q8 K];refine qd hx fun H g9 j=>⟨fun a=>lV d (ig hx hp fun hh=>a (Eq.mpr j hh.2)),fun a=>?_⟩;have X:Agree 13 L H:=K.tr g9;refine wT d (f:=[]) rfl (he H X) (ko kz zzT) (fun _=>?_) (Eq.mp j a) (vO hby hp (Eq.mp j a) (Eq.mp e hv).1 (Eq.mp e hv).2);exact hx.mono (fun _ _ h=>nomatch h) (fun _ _ h=>nomatch h) (fun _ _ h=>nomatch h)
end
end Go.Proofs.YtbdikjnpbnobcaaGreatDoor
namespace Go.Sx
open Go
def nS:Mem->Bool
 | []=>true
 | .ro _ _ _::l=>nS l
 | _::_=>false
def iU:∀ {mem:Mem},nS mem=true->∀ r∈mem,∃ k t a,r=.ro k t a
 | .ro k t a::l,h,r,hr=>by
  rcases MQ.1 hr with rfl | hr
  .exact⟨k,t,a,rfl⟩
  .exact iU (mem:=l) h r hr
def jJ {J:Env} {mem:Mem} {Hs Rs:List Hl} (h1:nS mem=true) (h2:mem.map (Res.hl J)=Rs):Entry J mem Hs Rs:=by
 refine⟨fun r hr ho=>?_,fun r hr _=>⟨r.hl J,by rw[<-h2];exact Np.2 ⟨r,hr,rfl⟩,Hl.le_refl _⟩,?_,fun r hr=>?_⟩
 .obtain⟨k,t,a,rfl⟩:=iU h1 r hr;cases ho
 .refine OF.2 fun i j hi b _ ho=>?_;obtain⟨k,t,a,e⟩:=iU h1 mem[i] (NM hi);rw[e]at ho;cases ho
 .obtain⟨k,t,a,rfl⟩:=iU h1 r hr;trivial
def oN:Env:=(ay fun _=>0)
section
variable {s:Spec} {xs:List Value} {Rs:List Hl} {q:Env} {mem:Mem}
def kj {e:E} (hr:s.res=[.one .bool]) (h:s.post xs [] Rs (.bool (bev q e)) [] Hl.none):postOf s xs [] Rs q mem (.sv (.one (.bool e))):=fun _ =>
 ⟨[],[],rfl,rfl,⟨{oN with b:=fun _=>bev q e},by rw[hr];rfl,by rw[hr];exact⟨zzT,zzT⟩⟩,h⟩
def wx {k:IntKind} {e:E} (hr:s.res=[.one (.int k)]) (h:s.post xs [] Rs (.int k (iev q e)) [] Hl.none):postOf s xs [] Rs q mem (.sv (.one (.int k e))):=fun _ =>
 ⟨[],[],rfl,rfl,⟨{oN with i:=fun _=>iev q e},by rw[hr];rfl,by rw[hr];exact⟨zzT,zzT⟩⟩,h⟩
end
end Go.Sx
namespace Go.Proofs.YtbdikjnpbnobcaaGreatDoor
open Go Go.Sx Go.Pk
variable {J q:Env}{f fn g h:FuncId}{F R R1 R2 RA:Hl}{a v x y z:Int}{X b bs t:List Int}{row:List Value}{k:Nat}{s:PS}
noncomputable def xQ (c:Pc):Int:=((aB c.h).length:Int)+c.b.length
noncomputable def kp (f:FuncId):Sx.Spec where
 fn:=f
 own:=[]
 rd:=[10053,1000125]
 res:=[.one (.int .i64)]
 pre:=fun xs Hs Rs=>∃ row R1 R2 c,xs=[.agg row.toArray]/\Rs=[R1,R2]/\aV R1 R2 row c
 post:=fun xs Hs Rs v Hs' F=>∀ row R1 R2 c,xs=[.agg row.toArray]->Rs=[R1,R2]->aV R1 R2 row c->v=.int .i64 (xQ c)
def Bk:List TV:=(cpSVs 0 [.agg bC]).map .sv
def DY:Mem:=[.ro 140 [.var 53] false,.ro 141 [.var 128] false]
def uI:Nd:=(fun a=>(.ext (.alloc 142) (.and (.e (.le (.lit 0) (.var 130))) (.and (.pre a) (.ext a (.and (.e (.le (.lit 0) (.var 145))) (.post [.ro 140 [.var 53] false,.ro 141 [.var 128] false,.dead,.hp 143 [] [.var 143] []] (.sv (.one (.int .i64 (.wrap .i64 (.add (.var 145) (.var 130))))))))))):Nd)) (.call 0 143 [.sv (.agg (ckCVs 0 aI))] [] [.ro 140 [.var 53] false])
noncomputable def ET:Walk Tryz.prog [bytesS 116] 99 where
 Λ:=noLoops
 args:=Bk
 mem:=DY
 nv:=142
def Kv (f:FuncId):(bytesS f).res=[.one .sl]:=rfl
def LF : [bytesS g][0]?=some (bytesS g):=rfl
def qx {c:Pc} (hx:aV R1 R2 row c):0<=xQ c/\xQ c<=1000932:=by
 have h1:=cP hx.hd;have h2:=hx.len;unfold xQ;omega
def Bf (hg:(bytesS g).OK Tryz.prog) (W:Walk Tryz.prog [bytesS g] f) (u:W.args=Bk) (hm:W.mem=DY) (hp:W.path=[]) (hn:W.V=some uI):(kp f).OK Tryz.prog:=by
 refine Spec.of_fn (Γ:=[bytesS g]) (fun t q=>by rw[MO]at q;subst q;exact hg) ?_;rintro xs Hs Rs m v ⟨row,R1,R2,c,rfl,rfl,hx⟩;have e0:Hs=[]:=MF.1 m;subst e0;obtain⟨J,rfl,n,hh⟩:=fL [(140,R1),(141,R2)] hx.ok;refine⟨W,J,fun _ _=>True,fun _ _=>0,by rw[u];kernel_rfl,by rw[hm];exact jJ rfl (by show [J.h 140,J.h 141]=_;rw[hh,hh];rfl),by rw[hp];exact(fun _ h=>nomatch h),?_⟩;refine Walk.lit (x:=uI) ?_ hn;have a:=hx.hd;have d:=hx.body;rw[show((ckCVs 0 bC).map (CV.ev J)).take 125=av J 0 by kernel_rfl]at a;rw[show((ckCVs 0 bC).map (CV.ev J)).getD 125 cC=.slice (slP (J.i 128) (J.i 129)) (J.i 130).toNat (J.i 131).toNat by kernel_rfl]at d;have r:0<=J.i 129/\0<=J.i 130/\0<=J.i 131:=by
  have:=ik aI [.sl] 0 n;rw[show 0+ckLen aI=128 by kernel_rfl]at this;exact⟨this.1.2.1,this.1.2.2.1,this.1.2.2.2⟩
 have hl:J.i 130=c.b.length:=by
  obtain⟨x,y,k,e,_⟩:=d;simp only[Value.slice.injEq]at e;omega
 unfold uI;simp only[go_sem,Nat.reduceAdd,LF,Kv];intro w g0 _;rw[show(ckCVs 0 aI).map (CV.ev w)=av J 0 from bf g0.mono,g0.h 140,g0.i 130,hh 140];refine⟨ae,⟨_,R1,c.h,rfl,rfl,a⟩,fun q1 z ⟨F,o,C,j⟩=>?_⟩;have hB:=mf a o;have n1:-1<=q1.i 143/\0<=q1.i 144/\0<=q1.i 145/\0<=q1.i 146:=j.1;have l:q1.i 145=(aB c.h).length:=by
  obtain⟨x,y,k,e,_⟩:=hB.rd;simp only[Value.slice.injEq]at e;omega
 refine⟨ae,wx rfl fun row' A B c' e1 s p=>?_⟩;simp only[MH,Value.agg.injEq,MZ]at e1 s;obtain⟨rfl,rfl⟩:=s;obtain rfl:=M4 e1;obtain rfl:=hx.uniq p;have:=qx hx;simp only[iev_wrap,iev_add,iev_var];rw[z.i 130,g0.i 130,hl,l];unfold xQ at this ⊢;rw[wrap_i64 ae ae]
def xn:(kp 99).OK Tryz.prog:=Bf hJ ET rfl rfl rfl zzK
def ya:List Ck:=[.int .u64,i64,i64]++List.replicate 6 (.int .u64)++[.sl]
def LY:List Kd:=ya.map kdOf
structure Rp where
 c:List Value
 p:List Pc
variable {r r':Rp}
structure cM (R RA:Hl) (row:List Value) (r:Rp):Prop where
 ok:rowOK row LY
 rng:∀ v∈row,kT v
 core:r.c=row.set 9 cC
 ps:fS R RA (row.getD 9 cC) r.p
def cM.uniq (x:cM R RA row r) (y:cM R RA row r'):r=r':=by
 obtain⟨c,p⟩:=r;obtain⟨c',a⟩:=r';have e1:c=c':=x.core.trans y.core.symm;have b:p=a:=x.ps.uniq y.ps;rw[e1,b]
def ib (c:List Value):Prop:=cI c 3<=1048576/\cI c 4<=1048576/\cI c 5<=1048576/\cI c 6<=1048576/\cI c 7<=1048576/\cI c 8<=1048576
def Pc.Good (c:Pc):Prop:=c.h.Form/\(c.b.length=0\/(c.b.length:Int)=cI c.h.c 92)
variable {ps ps':List Pc}{c:Pc}
noncomputable def sq (ps:List Pc):Int:=(ps.map xQ).sum
def Rp.Form (r:Rp):Prop:=(1<=cI r.c 1/\cI r.c 1<=3)/\(0<=cI r.c 2/\cI r.c 2<=14)/\ib r.c/\r.p.length<=8/\(∀ c∈r.p,c.Good)/\sq r.p<=14500
def fb (q:Env):List Value:=(ckCVs 0 ya).map (CV.ev q)
def Gg (q:Env):cI (fb q) 0=q.i 0/\cI (fb q) 1=q.i 1/\cI (fb q) 2=q.i 2/\cI (fb q) 3=q.i 3/\cI (fb q) 4=q.i 4/\cI (fb q) 5=q.i 5/\cI (fb q) 6=q.i 6/\cI (fb q) 7=q.i 7/\cI (fb q) 8=q.i 8:=⟨rfl,rfl,rfl,rfl,rfl,rfl,rfl,rfl,rfl⟩
def AY (q:Env):(fb q).getD 9 cC=.slice (slP (q.i 9) (q.i 10)) (q.i 11).toNat (q.i 12).toNat:=rfl
def cM.I (x:cM R RA row r) (hk:k≠9):cI r.c k=cI row k:=by
 rw[x.core];unfold cI;rw[Ny ae]
def cM.n (x:cM R RA (fb q) r):cI r.c 0=q.i 0/\cI r.c 1=q.i 1/\cI r.c 2=q.i 2/\cI r.c 3=q.i 3/\cI r.c 4=q.i 4/\cI r.c 5=q.i 5/\cI r.c 6=q.i 6/\cI r.c 7=q.i 7/\cI r.c 8=q.i 8:=by
 rw[x.I aj,x.I aj,x.I aj,x.I aj,x.I aj,x.I aj,x.I aj,x.I aj,x.I aj];exact Gg q
def KU (n:Nat):List CV:=romCells 20 (.var 9) (.add (.var 10) (.mul (.var n) (.lit 126))) 0 oK
def Iv (n:Nat):List CV:=romCells 20 (.var 9) (.add (.var 10) (.mul (.var n) (.lit 126))) 0 cj
def yF.rows (h:yF R RA x y k row c) (hy:0<=y) {n:Nat} (a:q.h 20=R) (b:q.i 9=x) (d:q.i 10=y) (f:q.i n=k) :
 rowIs (q.h 20) (q.i 9).toNat (q.i 10+q.i n*126).toNat oK=true/\(KU n).map (CV.ev q)=row/\(Iv n).map (CV.ev q)=row.take 125:=by
 have e:(q.i 10+q.i n*126).toNat=y.toNat+k*126:=by rw[d,f];omega
 have hl:=cf h.pc.ok;rw[fK]at hl;refine⟨?_,romCells_row row oK 0 h.pc.ok fun i u hu=>?_,?_⟩
 .rw[a,b,e];exact rowIs_of _ h.pc.ok h.cell
 .show(q.h 20).cell (q.i 9).toNat ((q.i 10+q.i n*126).toNat+(0+i))=some u;rw[a,b,e,Nw];exact h.cell i u hu
 .have ho:=gI (n:=125) h.pc.ok;rw[sm]at ho;refine romCells_row (row.take 125) cj 0 ho fun i u hu=>?_;show(q.h 20).cell (q.i 9).toNat ((q.i 10+q.i n*126).toNat+(0+i))=some u;rw[a,b,e,Nw];rw[NB]at hu;split at hu
  .exact h.cell i u hu
  .cases hu
open Classical in
noncomputable def mY (f:FuncId):Sx.Spec where
 fn:=f
 own:=[]
 rd:=[1000009,4000009]
 res:=[.one .bool]
 pre:=fun xs Hs Rs=>∃ row R RA r,xs=[.agg row.toArray]/\Rs=[R,RA]/\cM R RA row r
 post:=fun xs Hs Rs v Hs' F=>∀ row R RA r,xs=[.agg row.toArray]->Rs=[R,RA]->cM R RA row r->v=.bool (decide r.Form)
noncomputable def Gw (g h f:FuncId):List Sx.Spec:=[bytesS g,bR h,kp f]
def E4 (h1:(bytesS g).OK Tryz.prog) (h2:(bR h).OK Tryz.prog) (a:(kp f).OK Tryz.prog):∀ t∈Gw g h f,t.OK Tryz.prog:=ai h1 <| ai h2 <| ai a <| aD
def uD:List TV:=(cpSVs 0 [.agg ya]).map .sv
def uF:Mem:=[.ro 20 [.var 9] false,.ro 21 [] true]
def pZ:Nd:=(fun m l j o f i k n=>(fun a b c d h=>(fun g=>(fun p=>(.ext (.alloc 22) (.and (.imp (.not (.lt (.var 1) (.lit 1))) (.and (.imp (.not (.lt (.lit 3) (.var 1))) (.and (.imp (.not (.lt (.var 2) i)) (.and (.imp (.not (.lt (.lit 14) (.var 2))) (.ext (.alloc 23) (.and (.imp (.lt f (.var 3)) a) (.imp (.not (.lt f (.var 3))) (.and (.imp (.lt f (.var 4)) a) (.imp (.not (.lt f (.var 4))) (.and (.imp (.lt f (.var 5)) a) (.imp (.not (.lt f (.var 5))) (.and (.imp (.lt f (.var 6)) a) (.imp (.not (.lt f (.var 6))) (.and (.imp (.lt f (.var 7)) a) (.imp (.not (.lt f (.var 7))) (.and (.imp (.lt f (.var 8)) a) (.imp (.not (.lt f (.var 8))) (.and (.e (.le i n)) (.and (.imp (.lt (.lit 8) n) a) (.imp (.not (.lt (.lit 8) n)) (.and (.inv 0 [⟨51,0,.int .i64 i⟩,⟨50,0,.int .i64 i⟩] []) (.havoc 0 0 24 (.and (.imp (.lt o n) (.and (.e (.le i (.var 9))) (.and (.e (.le i (.var 10))) (.and (.e (.le i o)) (.and (.e (.hks 20 (.var 9) c oK)) (.ext (.alloc 60) (.and (.pre k) (.ext k (.and (.imp (.bvar 61) (.and (.e (.le i g)) (.and (.imp (.not (.eq g i)) (.and (.imp (.not p) h) (.imp p b))) (.imp (.eq g i) b)))) (.imp (.not (.bvar 61)) h)))))))))) (.imp (.not (.lt o n)) (.post l (.sv (.one (.bool (.le (.var 51) (.lit 14500))))))))))))))))))))))))))) (.imp (.lt (.lit 14) (.var 2)) d))) (.imp (.lt (.var 2) i) d))) (.imp (.lt (.lit 3) (.var 1)) d))) (.imp (.lt (.var 1) (.lit 1)) d)):Nd)) (.eq g (.hI 20 (.var 9) c 92))) (.hP 20 (.var 9) c 125 2)) (.post l m) (.and (.pre j) (.ext j (.back 0 0 [⟨51,0,.int .i64 (.wrap .i64 (.add (.var 51) (.var 62)))⟩,⟨50,0,.int .i64 (.wrap .i64 (.add o (.lit 1)))⟩] []))) (.add (.var 10) (.mul o (.lit 126))) (.post [.ro 20 [.var 9] false,.ro 21 [] true,.dead] m) (.post [.ro 20 [.var 9] false,.ro 21 [] true,.dead,.dead,.dead] m)) (.sv (.one (.bool .ff))) [.ro 20 [.var 9] false,.ro 21 [] true,.dead,.dead] (.call 2 62 [.sv (.agg (KU 50))] [] [.ro 21 [] true,.ro 21 [] true]) (.var 50) (.lit 1048576) (.lit 0) (.call 1 61 [.sv (.agg (Iv 50))] [] [.ro 21 [] true]) (.var 11)
def Jr (f:FuncId) (p:List Nat):Bool:=lp p&&p.head?==some f
noncomputable def BZ:Walk Tryz.prog (Gw 116 91 99) 42 where
 Λ:=fun p=>if Jr 42 p then some ⟨0,[(39,TI .i64 (.var 50)),(3,TI .i64 (.var 51))],[],60⟩else none
 args:=uD
 mem:=uF
 nv:=22
def Kl : (Gw g h f)[1]?=some (bR h):=rfl
def Km : (Gw g h f)[2]?=some (kp f):=rfl
def Kn (h:FuncId):(bR h).res=[.one .bool]:=rfl
def Ko (h:FuncId):(kp h).res=[.one (.int .i64)]:=rfl
def FA (h:∀ c∈ps,∃ R1 R2 row,aV R1 R2 row c):0<=sq ps/\sq ps<=1000932*ps.length:=by
 induction ps with
 | nil=>exact⟨MT _,MT _⟩
 | cons c ps ih =>
  obtain⟨R1,R2,row,hx⟩:=h c (Nh ..);have h1:=qx hx;have h2:=ih fun d hd=>h d (MW _ hd);have e:sq (c::ps)=xQ c+sq ps:=rfl;rw[e,Nk];omega
def Ay (ps:List Pc) (c:Pc):sq (ps++[c])=sq ps+xQ c:=by unfold sq;simp
def wC (h:ckNormsW 0 ya q):0<=q.i 10/\0<=q.i 11/\0<=q.i 12:=by
 have:=ik ([.int .u64,i64,i64]++List.replicate 6 (Ck.int .u64)) [.sl] 0 h;exact⟨this.1.2.1,this.1.2.2.1,this.1.2.2.2⟩
set_option maxRecDepth 10000 in
def zq (h1:(bytesS g).OK Tryz.prog) (h2:(bR h).OK Tryz.prog) (Z:(kp f).OK Tryz.prog) (W:Walk Tryz.prog (Gw g h f) fn) (ha:W.args=uD) (hm:W.mem=uF) (hp:W.path=[]) (hn:W.V=some pZ):(mY fn).OK Tryz.prog:=by
 refine Spec.of_fn (Γ:=Gw g h f) (E4 h1 h2 Z) ?_;rintro xs Hs Rs L aa ⟨row,R,RA,r,rfl,rfl,hx⟩;have e0:Hs=[]:=MF.1 L;subst e0;obtain⟨J,rfl,M,hh⟩:=fL [(20,R),(21,RA)] hx.ok;have hx:cM R RA (fb J) r:=hx;refine⟨W,J,fun _ q=>∃ k:Nat,q.i 50=k/\k<=r.p.length/\(∀ c∈r.p.take k,c.Good)/\q.i 51=sq (r.p.take k),fun _ q=>(r.p.length-q.i 50).toNat,by rw[ha];rfl,by rw[hm];exact jJ rfl (by show [J.h 20,J.h 21]=_;rw[hh,hh];rfl),by rw[hp];exact(fun _ h=>nomatch h),?_⟩;refine Walk.lit (x:=pZ) ?_ hn;have w:J.h 20=R:=hh 20;have C:J.h 21=RA:=hh 21;obtain⟨o,ab,ad⟩:=wC M;have hps:=hx.ps;rw[AY]at hps;obtain⟨hlen,D⟩:=hps.at o;have hlen:J.i 11=r.p.length:=ae;obtain⟨c0,c1,c2,c3,c4,c5,c6,c7,c8⟩:=hx.n;have d:r.Form↔(1<=J.i 1/\J.i 1<=3)/\(0<=J.i 2/\J.i 2<=14)/\(J.i 3<=1048576/\J.i 4<=1048576/\J.i 5<=1048576/\J.i 6<=1048576/\J.i 7<=1048576/\J.i 8<=1048576)/\r.p.length<=8/\(∀ c∈r.p,c.Good)/\sq r.p<=14500:=by
  unfold Rp.Form ib;rw[c1,c2,c3,c4,c5,c6,c7,c8]
 have out:∀ {q:Env} {e:E} {mem:Mem},(bev q e=true↔r.Form)->postOf (mY fn) [.agg (fb J).toArray] [] [R,RA] q mem (.sv (.one (.bool e))):=by
  intro q e mem he;refine kj rfl fun row' R' af r' e1 I N=>?_;simp only[MH,Value.agg.injEq,MZ]at e1 I;obtain⟨rfl,rfl⟩:=I;obtain rfl:=M4 e1;obtain rfl:=hx.uniq N;exact gO he
 have ff:∀ {q:Env} {mem:Mem},¬r.Form->postOf (mY fn) [.agg (fb J).toArray] [] [R,RA] q mem (.sv (.one (.bool .ff))):=fun hf=>out ⟨fun e=>(by rw[bev_ff]at e;cases e),fun e=>absurd e hf⟩;unfold pZ;simp only[go_sem,Nat.reduceAdd,Kl,Km,Kn,Ko];intro q0 g0 _;rw[g0.i 1,g0.i 2];refine⟨fun a1=>⟨fun a2=>⟨fun a3=>⟨fun a4 q1 g1 _=>?_,fun a=>ff fun hf=>by have:=d.1 hf;omega⟩,fun a=>ff fun hf=>by have:=d.1 hf;omega⟩,fun a=>ff fun hf=>by have:=d.1 hf;omega⟩,fun a=>ff fun hf=>by have:=d.1 hf;omega⟩;have y:Agree 22 J q1:=g0.tr g1;rw[y.i 3,y.i 4,y.i 5,y.i 6,y.i 7,y.i 8,y.i 11,hlen];refine⟨fun a=>ff fun hf=>by have:=d.1 hf;omega,fun b1=>⟨fun a=>ff fun hf=>by have:=d.1 hf;omega,fun b2=>⟨fun a=>ff fun hf=>by have:=d.1 hf;omega,fun b3=>⟨fun a=>ff fun hf=>by have:=d.1 hf;omega,fun b4=>⟨fun a=>ff fun hf=>by have:=d.1 hf;omega,fun b5=>⟨fun a=>ff fun hf=>by have:=d.1 hf;omega,fun b6=>⟨ae,fun a=>ff fun hf=>by have:=d.1 hf;omega,fun b7=>⟨⟨0,rfl,NO _,(fun c s=>by rw[OH]at s;cases s),rfl⟩,fun q2 g2 ⟨k,X,hk,l,t⟩=>?_⟩⟩⟩⟩⟩⟩⟩⟩;have z:Agree 22 J q2:=y.tr g2;rw[z.i 9,z.i 10,z.i 11,hlen,X,z.h 20,w];refine⟨fun ag=>?_,fun ah=>?_⟩
 .have kD:k<r.p.length:=ae;have G:r.p[k]?=some r.p[k]:=ME kD;obtain⟨row,b⟩:=D k _ G;have u:∀ q:Env,Agree 60 q2 q->q.h 20=R/\q.i 9=J.i 9/\q.i 10=J.i 10/\q.i 50=k/\q.i 51=sq (r.p.take k)/\q.h 21=RA:=fun q hg=>by
   rw[hg.h 20,hg.i 9,hg.i 10,hg.i 50,hg.i 51,hg.h 21,z.h 20,z.i 9,z.i 10,z.h 21];exact⟨w,rfl,rfl,X,t,C⟩
  obtain⟨d1,d2,d3,d4,d5,d6⟩:=u q2 (Agree.refl _ _);obtain⟨r1,_,_⟩:=b.rows o d1 d2 d3 d4;rw[d1,d2,d3,d4]at r1;refine⟨b.x0,o,ae,r1,fun q3 g3 _=>?_⟩;obtain⟨d1,d2,d3,d4,d5,d6⟩:=u q3 g3;obtain⟨_,_,r3⟩:=b.rows o d1 d2 d3 d4;rw[r3,d6];refine⟨⟨_,RA,_,rfl,rfl,b.pc.hd⟩,fun O g4 ⟨F4,P,_⟩=>?_⟩;have hb:=pd b.pc.hd P;have Y:Agree 60 q2 O:=g3.tr g4;obtain⟨d1,d2,d3,d4,d5,d6⟩:=u O Y;obtain⟨_,r2,_⟩:=b.rows o d1 d2 d3 d4;obtain⟨l1,l2⟩:=b.cells o;rw[hb,r2,d1,d2,d3,d4,d6,l1,l2];have A:r.p[k]∈r.p:=NM kD;have ai:=b.pc.len;have tk:r.p.take (k+1)=r.p.take k++[r.p[k]]:=by rw[Oh,G];rfl
  have fin:r.p[k].Good->(kp f).pre [.agg row.toArray] [] [RA,RA]/\∀ m,Agree 62 O m->(∃ F,(kp f).post [.agg row.toArray] [] [RA,RA] (.int .i64 (m.i 62)) [] F/\(cpRoots 0 [Cp.one (Ck.int .i64)]≠[]->m.h 62=F)/\cpNorms 62 [.one (.int .i64)] m) ->
   (∃ K:Nat,(assign m [⟨51,0,.int .i64 (.wrap .i64 (.add (.var 51) (.var 62)))⟩,⟨50,0,.int .i64 (.wrap .i64 (.add (.var 50) (.lit 1)))⟩] []).i 50=K/\K<=r.p.length/\(∀ c∈r.p.take K,c.Good)/\(assign m [⟨51,0,.int .i64 (.wrap .i64 (.add (.var 51) (.var 62)))⟩,⟨50,0,.int .i64 (.wrap .i64 (.add (.var 50) (.lit 1)))⟩] []).i 51=sq (r.p.take K)) /\
   ((r.p.length:Int)-(assign m [⟨51,0,.int .i64 (.wrap .i64 (.add (.var 51) (.var 62)))⟩,⟨50,0,.int .i64 (.wrap .i64 (.add (.var 50) (.lit 1)))⟩] []).i 50).toNat<((r.p.length:Int)-(k:Int)).toNat:=fun hG=>by
   refine⟨⟨_,RA,RA,_,rfl,rfl,b.pc⟩,fun m g5 ⟨F5,Q,_⟩=>?_⟩;have B:=Q _ RA RA _ rfl rfl b.pc;have B:m.i 62=xQ r.p[k]:=by simpa using B
   obtain⟨_,_,_,f4,f5,_⟩:=u m (Y.tr g5);have Jj:=qx b.pc;have aj:=FA (ps:=r.p.take k) fun c s=>by
    obtain⟨j,hj⟩:=N2.1 (Ov s);obtain⟨S,T⟩:=D j _ hj;exact⟨RA,RA,S,T.pc⟩
   have ak:(r.p.take k).length<=8:=by rw[M3];omega
   have e1:(assign m [⟨51,0,.int .i64 (.wrap .i64 (.add (.var 51) (.var 62)))⟩,⟨50,0,.int .i64 (.wrap .i64 (.add (.var 50) (.lit 1)))⟩] []).i 50=(k:Int)+1:=by
    show IntKind.i64.wrap (m.i 50+1)=_;rw[f4];exact wrap_i64 ae ae
   have I:(assign m [⟨51,0,.int .i64 (.wrap .i64 (.add (.var 51) (.var 62)))⟩,⟨50,0,.int .i64 (.wrap .i64 (.add (.var 50) (.lit 1)))⟩] []).i 51=sq (r.p.take k)+xQ r.p[k]:=by
    show IntKind.i64.wrap (m.i 51+m.i 62)=_;rw[f5,B];exact wrap_i64 ae ae
   refine⟨⟨k+1,by rw[e1];rfl,ae,fun c s=>?_,by rw[I,tk,Ay]⟩,by rw[e1];omega⟩;rw[tk]at s;rcases Nb.1 s with s | s
   .exact l c s
   .rw[MO]at s;subst s;exact hG
  refine⟨fun v=>⟨ae,fun al=>⟨fun H=>ff fun hf=>?_,fun heq=>fin ⟨v,Or.inr heq⟩⟩,fun h0=>fin ⟨v,Or.inl ae⟩⟩,fun v=>ff fun hf=>v ((d.1 hf).2.2.2.2.1 _ A).1⟩;rcases((d.1 hf).2.2.2.2.1 _ A).2 with h | h
  .omega
  .exact H h
 .have U:k=r.p.length:=ae;subst U;rw[NZ]at l t;refine out ?_;simp only[bT_le,iev_var,iev_lit,t];exact⟨fun h=>d.2 ⟨ae,ae,ae,ae,l,h⟩,fun h=>(d.1 h).2.2.2.2.2⟩
def oX:(mY 42).OK Tryz.prog:=zq hJ dt xn BZ rfl rfl rfl zzK
def batch (n:Int):Int:=if n<=1 then 1 else if n<=2 then 2 else if n<=4 then 4 else if n<=8 then 8 else if n<=16 then 16 else if n<=32 then 32 else if n<=64 then 64 else if n<=128 then 128 else if n<=256 then 256 else if n<=512 then 512 else if n<=1024 then 1024 else if n<=2048 then 2048 else if n<=4096 then 4096 else if n<=8192 then 8192 else if n<=16384 then 16384 else if n<=32768 then 32768 else 65536
def vI (t:Int):Prop:=t=1\/t=2\/t=4\/t=8\/t=16\/t=32\/t=64\/t=128\/t=256\/t=512\/t=1024\/t=2048\/t=4096\/t=8192\/t=16384\/t=32768\/t=65536
def yT {n t:Int} (h:vI t) (h1:n<=t) (h2:t=1\/t<2*n):batch n=t:=by
 unfold vI at h;unfold batch
 repeat' split
 all_goals omega
def qZ {n:Int} (h:n<=65536):n<=batch n:=by
 unfold batch
 repeat' split
 all_goals omega
def re (n:Int):1<=batch n/\batch n<=65536:=by
 unfold batch
 repeat' split
 all_goals omega
def yS (xs:List Value):Value:=.int .i64 (batch (valI xs[0]?))
def iP:Sx.Spec:=pureS 41 [.one i64] [.one i64] (fun _=>True) yS
def Ep:Walk Tryz.prog [] 41 where
 Λ:=noLoops
 args:=(cpSVs 0 [.one i64]).map .sv
 mem:=[]
 nv:=1
def nH:iP.OK Tryz.prog:=by
 refine pure_of (Γ:=[]) (fun t b=>by cases b) Ep rfl rfl rfl (fun q _ _=>shape_int _) (fun q d hN=>⟨fun _ _=>True,fun _ _=>0,?_⟩);have c:yS (inVs [.one i64] q)=.int .i64 (batch (q.i 0)):=rfl;simp only[c];refine Walk.read [] [] [] ?_;simp only[go_sem,Nat.reduceAdd,Value.int.injEq];have a:∀ {t:Int},vI t->q.i 0<=t->(t=1\/t<2*q.i 0)->t=batch (q.i 0):=fun h h1 h2=>(yT h h1 h2).symm;have top:65536<q.i 0->(65536:Int)=batch (q.i 0):=fun h=>by
  unfold batch
  repeat' split
  all_goals omega
 unfold vI at a
 repeat' first | (refine⟨?_,?_⟩) | (intro _)
 all_goals first | (exact a ae ae ae) | (exact top ae)
def oT {Hs K:List Hl} (hp:iP.post [.int .i64 z] Hs [] (.int .i64 v) K F):v=batch z:=by
 have h:Value.int .i64 v=.int .i64 (batch z):=hp;simpa using h
def oS (z:Int):iP.pre [.int .i64 z] [] []:=⟨⟨{oN with i:=fun _=>z},⟨zzT,zzT⟩,rfl⟩,zzT⟩
def pS (a:Nat) (l:List Int):Hl:=Hl.one a (.cells (bys l).toArray 5 (0,0))
def wW (a n:Nat):Hl.one a (.cells (madeCells #[Value.int .u8 0] n) 5 (0,0))=pS a (List.replicate n 0):=by
 unfold pS bys
 congr 2
 rw[PE];apply Array.ext
 .simp [madeCells]
 .intro i h1 h2;simp [madeCells,Oj,Nat.mod_one]
def qY (a y:Nat) (l m:List Int):(pS a l).put a y (bys m)=pS a (splice l y m):=by
 unfold pS;rw[Hl.one_put];simp [splice,bys]
def yO (h:0<=a) (l:List Int) (hl:l.length<=maxLen):OwB (pS a.toNat l) 5 (.slice (slP a 0) l.length l.length) l:=by
 refine⟨by rw[bys_length,Pf],Or.inr ⟨a.toNat,l.length,(bys l).toArray,by rw[slP_pos h];rfl,Hl.one_self _ _,M1 _,hl,by simp [bys_length],by rw[Pf,Od (by simp [bys_length])]⟩⟩
def sO {x y:Nat} (h:∀ j z,bs[j]?=some z->R.cell x (y+j)=some (.int .u8 z)):segVals R x y bs.length=bys bs:=by
 apply Ni;intro j;unfold segVals;rw[MU,bys_get];by_cases a:j<bs.length
 .rw[Nf a,ME a,Nl,Nl,h j _ (ME a)];rfl
 .rw[MS (by simpa using a),MS ae];rfl
def Cw {n:Nat} (h:bs.length<n):splice (splice (List.replicate n 0) 0 bs) bs.length [(1:Int)]=bs++[1]++List.replicate (n-(bs.length+1)) 0:=by
 obtain⟨k,rfl⟩:∃ k,n=bs.length+(k+1):=⟨n-bs.length-1,ae⟩;unfold splice;simp [List.take_append,List.drop_append];rw[Pd ae,N1]
 congr 1
 omega
noncomputable def jw (ps:List Pc):List Int:=(ps.map sk).flatten
def BA (r:Rp):List Int:=aq (cI r.c 0).toNat++aq (cu (cI r.c 1))++aq (cu (cI r.c 2))++fF (aw r.c 3 6)++aq r.p.length
noncomputable def cO (r:Rp):List Int:=BA r++jw r.p
def aX (bs:List Int):List Int:=bs++[1]++List.replicate ((batch ((bs.length:Int)+1)).toNat-(bs.length+1)) 0
def jK (h:c.Good):c.b.length<=2064:=by
 have hp:=h.1.2.2.2.1;unfold dm at hp;rcases h.2 with h | h<;>omega
def Ax (ps:List Pc) (c:Pc):jw (ps++[c])=jw ps++sk c:=by unfold jw;simp
def Iu (hx:aV R1 R2 row c) (h:c.b.length<=4096):((sk c).length:Int)<=xQ c+20:=by
 unfold sk ak xQ;have a1:=cP hx.hd;have a2:=cq (z:=(aB c.h).length) ae;have a:=cq (z:=c.b.length) ae;simp only[MJ];omega
def DR (h:∀ c∈ps,c.b.length<=4096/\∃ R1 R2 row,aV R1 R2 row c):((jw ps).length:Int)<=sq ps+20*ps.length:=by
 induction ps with
 | nil=>exact MT _
 | cons c ps ih =>
  obtain⟨hb,R1,R2,row,hx⟩:=h c (Nh ..);have h1:=Iu hx hb;have h2:=ih fun d hd=>h d (MW _ hd);have e:sq (c::ps)=xQ c+sq ps:=rfl;have a:jw (c::ps)=sk c++jw ps:=rfl;rw[e,a,Nk,MJ];omega
noncomputable def jj (r:Rp):List Int×Int:=open Classical in if r.Form then(aX (cO r),0)else([],1)
noncomputable def qE:Sx.Spec where
 fn:=38
 own:=[]
 rd:=[1000009,4000009]
 res:=[.one .sl,.one (.int .i64)]
 pre:=fun xs Hs Rs=>∃ row R RA r,xs=[.agg row.toArray]/\Rs=[R,RA]/\cM R RA row r
 post:=fun xs Hs Rs v Hs' F=>∀ row R RA r,xs=[.agg row.toArray]->Rs=[R,RA]->cM R RA row r->∃ u,v=.tuple #[u,.int .i64 (jj r).2]/\OwB F 5 u (jj r).1
noncomputable def CQ:List Sx.Spec:=[mY 42,gh,iQ,nI,fw,iP]
def CR:∀ t∈CQ,t.OK Tryz.prog:=ai oX <| ai il <| ai nL <| ai xV <| ai gb <| ai nH <| aD
def wB:Nd:=(fun b m j r o q=>(fun a k l n s=>(fun c d f g h i p=>(.ext (.alloc 22) (.and (.pre j) (.ext j (.and (.imp (.not (.bvar 23)) (.post [.ro 20 [.var 9] false,.ro 21 [] true,.dead] (.tup [.one (.sl (.lit (-1)) b b b),.one (.int .i64 (.lit 1))]))) (.imp (.bvar 23) (.ext (.alloc 24) (.and (.pre d) (.ext d (.and (.pre i) (.ext i (.and (.pre h) (.ext h (.and (.pre c) (.ext c (.and (.e (.le b (.var 11))) (.and (.pre f) (.ext f (.and (.inv 0 [⟨50,0,.int .i64 b⟩] [(51,some 33)]) (.havoc 0 0 35 (.and (.imp (.lt q (.var 11)) (.and (.e (.le b (.var 9))) (.and (.e (.le b (.var 10))) (.and (.e (.le b q)) (.and (.e (.hks 20 (.var 9) (.add (.var 10) (.mul q (.lit 126))) oK)) (.ext (.alloc 60) (.and (.pre g) (.ext g (.back 0 0 [⟨50,0,.int .i64 (.wrap .i64 (.add q (.lit 1)))⟩] [(51,some 61)]))))))))) (.imp (.not (.lt q (.var 11))) (.and (.pre p) (.ext p (.and (.imp (.not (.eq (.var 64) b)) (.post [.ro 20 [.var 9] false,.ro 21 [] true,.dead,.hp 51 [] m [],.hp 60 [] [.var 60] []] (.tup [.one (.sl (.lit (-1)) b b b),.one (.int .i64 (.var 64))]))) (.imp (.eq (.var 64) b) (.and (.e (.le b r)) (.and (.pre k) (.ext k (.and (.pre s) (.ext s (.and (.pre l) (.ext l (.and (.e (.le b (.var 66))) (.and (.e (.lt r o)) (.and (.pre n) (.ext n (.post [.ro 20 [.var 9] false,.ro 21 [] true,.dead,.hp 51 [] m [],.hp 60 [] [.var 60] [],.hp 68 [67,66] [.var 66] []] (.tup [.one (.sl (.var 66) b o o),.one (.int .i64 b)]))))))))))))))))))))))))))))))))))))):Nd)) (.call 2 31 [.sv a,.sv (.agg (ckCVs 3 (List.replicate 6 (Ck.int .u64))))] [.hp 29 [27,25] m []] []) (.call 1 25 [.sv a,.sv (.one (.int .u64 (.var 0)))] [.blk 24 [.sl (.lit (-1)) b b b,.bool .ff] 124] []) (.call 1 33 [.sv a,.sv (.one (.int .u64 (.wrap .u64 (.var 11))))] [.hp 31 [29,27,25] m []] []) (.call 3 61 [.sv a,.sv (.agg (KU 50))] [.hp 51 [] m []] [.ro 21 [] true,.ro 21 [] true]) (.call 1 29 [.sv a,.sv (.one (.int .u64 (.wrap .u64 (.var 2))))] [.hp 27 [25] m []] []) (.call 1 27 [.sv a,.sv (.one (.int .u64 (.wrap .u64 (.var 1))))] [.hp 25 [] m []] []) (.call 4 60 [.sv a] [] [.hp 51 [] m []])) (.one (.hptr (.var 24) b)) (.call 5 65 [.sv (.one (.int .i64 (.wrap .i64 (.add r (.lit 1)))))] [] []) (.cpy 67 66 (.var 66) b o 60 (.var 60) (.var 61) r) (.put 68 67 (.var 66) r [.int .u8 (.lit 1)]) (.mk 66 5 [.int .u8 b] 1 o)) (.lit 0) [.var 24] (.call 0 23 [.sv (.agg (ckCVs 0 ya))] [] [.ro 20 [.var 9] false,.ro 21 [] true]) (.var 62) (.var 65) (.var 50)
noncomputable def Gc:Walk Tryz.prog CQ 38 where
 Λ:=fun p=>if Jr 38 p then some ⟨0,[(35,TI .i64 (.var 50))],[(3,.hp 51 [] [.var 24] [])],60⟩else none
 args:=uD
 mem:=uF
 nv:=22
def IJ (f:FuncId):(mY f).res=[.one .bool]:=rfl
def LX (n:Nat):(cpRoots n [Cp.one .sl,Cp.one (.int .i64)]≠[])=True:=by simp [cpRoots,Cp.roots,Ck.root]
def IK:fw.res=[.one .sl,.one (.int .i64)]:=rfl
def IL:iP.res=[.one (.int .i64)]:=rfl
def gJ (hx:cM R RA (fb q) r):∀ k,k<9->kT (((ckCVs 0 ya).map (CV.ev q)).getD k cC):=fun k hk=>hx.rng _ (by
 have hl:k<(fb q).length:=by rw[show(fb q).length=10 from rfl];omega
 rw[MR];show(fb q)[k]?.getD cC∈_;rw[ME hl];exact NM hl)
def qG (hx:cM R RA (fb J) r):yu [J.i 3,J.i 4,J.i 5,J.i 6,J.i 7,J.i 8]:=by
 have g3:=gJ hx 3 ae;have g4:=gJ hx 4 ae;have a:=gJ hx 5 ae;have b:=gJ hx 6 ae;have c:=gJ hx 7 ae;have d:=gJ hx 8 ae;intro z hz;simp only[MQ,MV,Nt]at hz;rcases hz with rfl | rfl | rfl | rfl | rfl | rfl
 .exact g3
 .exact g4
 .exact a
 .exact b
 .exact c
 .exact d
set_option maxRecDepth 10000 in
def yi:qE.OK Tryz.prog:=by
 refine Spec.of_fn (Γ:=CQ) CR ?_;rintro xs Hs Rs au aG ⟨row,R,RA,r,rfl,rfl,hx⟩;have e0:Hs=[]:=MF.1 au;subst e0;obtain⟨J,rfl,av,hh⟩:=fL [(20,R),(21,RA)] hx.ok;have hx:cM R RA (fb J) r:=hx;refine⟨Gc,J,fun _ q=>∃ k:Nat,q.i 50=k/\k<=r.p.length/\OP (q.h 51) (q.i 24) (BA r++jw (r.p.take k)) (100+5048*k),fun _ q=>(r.p.length-q.i 50).toNat,rfl,jJ rfl (by show [J.h 20,J.h 21]=_;rw[hh,hh];rfl),(fun _ h=>nomatch h),?_⟩;refine Walk.lit (x:=wB) ?_;have m:J.h 20=R:=hh 20;have M:J.h 21=RA:=hh 21;obtain⟨C,aH,X⟩:=wC av;have hps:=hx.ps;rw[AY]at hps;obtain⟨hlen,Y⟩:=hps.at C;have hlen:J.i 11=r.p.length:=ae;obtain⟨c0,c1,c2,c3,c4,c5,c6,c7,c8⟩:=hx.n;have u0:0<=J.i 0/\J.i 0<18446744073709551616:=gJ hx 0 ae;have uv:=qG hx;have eA:BA r=aq (J.i 0).toNat++aq (cu (J.i 1))++aq (cu (J.i 2))++fF [J.i 3,J.i 4,J.i 5,J.i 6,J.i 7,J.i 8]++aq r.p.length:=by
  unfold BA;rw[c0,c1,c2,show aw r.c 3 6=[cI r.c 3,cI r.c 4,cI r.c 5,cI r.c 6,cI r.c 7,cI r.c 8]from rfl,c3,c4,c5,c6,c7,c8]
 have out:∀ {q:Env} {mem:Mem} {x y l c e:E} {f:List Nat},okIdx mem [] f=true->(-1<=iev q x/\0<=iev q y/\0<=iev q l/\0<=iev q c)->iev q e=(jj r).2->OwB (uni q mem f) 5 (.slice (slP (iev q x) (iev q y)) (iev q l).toNat (iev q c).toNat) (jj r).1->postOf qE [.agg (fb J).toArray] [] [R,RA] q mem (.tup [.one (.sl x y l c),.one (.int .i64 e)]):=by
  intro q mem x y l c e f hok hn he O _;refine⟨[],f,rfl,hok,⟨{oN with i:=fun k=>[iev q x,iev q y,iev q l,iev q c,iev q e].getD k 0},rfl,hn,zzT,zzT⟩,fun row' R' aI r' e1 e2 ax=>?_⟩;simp only[MH,Value.agg.injEq,MZ]at e1 e2;obtain⟨rfl,rfl⟩:=e2;obtain rfl:=M4 e1;obtain rfl:=hx.uniq ax;exact⟨_,by rw[<-he];rfl,O⟩
 unfold wB;simp only[go_sem,Nat.reduceAdd,CQ,IJ,Ej,GB,JM,IK,IL,DW,LX];intro q1 g1 _;rw[show(ckCVs 0 ya).map (CV.ev q1)=fb J from bk g1 (NS zzK),g1.h 20,g1.h 21,m,M];refine⟨⟨_,R,RA,r,rfl,rfl,hx⟩,fun q2 g2 ⟨F2,ay,_⟩=>?_⟩;have hF:=ay _ R RA r rfl rfl hx;have hF:(q2.b 23=true)=r.Form:=Ez (by rw[hF];simp);have G2:Agree 22 J q2:=g1.tr g2;rw[hF];refine⟨fun hf=>?_,fun hf q3 g3 p3=>?_⟩
 .have e:jj r=([],1):=by unfold jj;rw[MM hf]
  exact out (f:=[]) rfl ⟨MT _,MT _,MT _,MT _⟩ (by rw[e];rfl) (by rw[e];exact iq _ _)
 have G3:Agree 22 J q3:=G2.tr g3;have P3:OP (Hl.one (q3.i 24).toNat (Obj.cells #[Value.slice (slP (-1) 0) (Int.toNat 0) (Int.toNat 0),Value.bool (bev q3 E.ff)] 124 (0,0))) (q3.i 24) [] 0:=OP.new p3;rw[G3.i 0];refine jY P3 ae ae u0 fun q4 g4 P4=>?_;have G4:Agree 22 J q4:=G3.tr g4;rw[G4.i 1];refine jY P4 ae ae (u64_in _) fun q5 g5 P5=>?_;have G5:Agree 22 J q5:=G4.tr g5;rw[G5.i 2];refine jY P5 ae ae (u64_in _) fun q6 g6 P6=>?_;have G6:Agree 22 J q6:=G5.tr g6;rw[show(ckCVs 3 (List.replicate 6 (Ck.int .u64))).map (CV.ev q6)=us [J.i 3,J.i 4,J.i 5,J.i 6,J.i 7,J.i 8]from (bk G6 (NS zzK)).trans rfl];refine I1 P6 ae ae rfl uv fun q7 g7 P7=>?_;have G7:Agree 22 J q7:=G6.tr g7;have aJ:r.p.length<=8:=hf.2.2.2.1;have u:∀ c∈r.p,c.Good:=hf.2.2.2.2.1;have ew:IntKind.u64.wrap (J.i 11)=(r.p.length:Int):=by rw[hlen,iG ae ae]
 rw[G7.i 11,ew];refine⟨ae,jY P7 ae ae ⟨ae,ae⟩ fun Z g8 P8=>?_⟩;have G8:Agree 22 J Z:=G7.tr g8;have P8:OP (Z.h 33) (Z.i 24) (BA r) 100:=by
  rw[eA];exact P8
 refine⟨⟨0,rfl,NO _,?_⟩,fun q9 g9 ⟨k,ek,hk,O⟩=>?_⟩
 .show OP (Z.h 33) (Z.i 24) _ _;rw[OH,show jw []=[]from rfl,Nu];exact P8
 have v:Agree 22 J q9:=G8.tr g9;rw[v.i 9,v.i 10,v.i 11,hlen,ek,v.h 20,m];refine⟨fun aK=>?_,fun aL=>?_⟩
 .have kD:k<r.p.length:=ae;have aa:r.p[k]?=some r.p[k]:=ME kD;obtain⟨row,D⟩:=Y k _ aa;have r1:=(D.rows C (q:=q9) (by rw[v.h 20,m]) (v.i 9) (v.i 10) ek).1;rw[v.h 20,v.i 9,v.i 10,ek,m]at r1;refine⟨D.x0,C,ae,r1,fun d s _=>?_⟩;have F:Agree 22 J d:=v.tr s;have r2:=(D.rows C (q:=d) (by rw[F.h 20,m]) (F.i 9) (F.i 10) (by rw[s.i 50,ek])).2.1;rw[r2,F.h 21,M,s.h 51];have ab:OP (q9.h 51) (d.i 24) (BA r++jw (r.p.take k)) (100+5048*k):=O.to s ae;refine Mp ab ae ae D.pc (NT (jK (u _ (NM kD))) ae) fun t w az=>?_;have tk:r.p.take (k+1)=r.p.take k++[r.p[k]]:=by rw[Oh,aa];rfl
  have ad:IntKind.i64.wrap (t.i 50+1)=(k:Int)+1:=by rw[w.i 50,s.i 50,ek];exact wrap_i64 ae ae
  refine⟨⟨k+1,ad,ae,?_⟩,?_⟩
  .show OP (t.h 61) (t.i 24) _ _;rw[tk,Ax,<-MY];exact az.upto ae
  .show((r.p.length:Int)-IntKind.i64.wrap (t.i 50+1)).toNat<_;rw[ad];omega
 .have aA:k=r.p.length:=ae;subst aA;rw[NZ]at O;have O:OP (q9.h 51) (q9.i 24) (cO r) (100+5048*r.p.length):=O;have hL:(cO r).length<=16000:=by
   have a1:=P8.len;have a2:=DR (ps:=r.p) fun c W=>by
    obtain⟨j,hj⟩:=N2.1 W;obtain⟨aB,aC⟩:=Y j _ hj;exact⟨NT (jK (u c W)) ae,RA,RA,aB,aC.pc⟩
   have a3:=hf.2.2.2.2.2;unfold cO;rw[MJ];omega
  refine⟨⟨_,_,_,_,rfl,rfl,O.out,ae⟩,fun d s ⟨aM,af,ag,g⟩=>?_⟩;obtain⟨hB,hE⟩:=vn O.out af;have eR:fk (cO r) false=(cO r,0):=by unfold fk;rw[MM (by simp;omega)]
  rw[eR]at hB hE;rw[<-ag zzT]at hB;have hB:OwB (d.h 60) 5 (.slice (slP (d.i 60) (d.i 61)) (d.i 62).toNat (d.i 63).toNat) (cO r):=hB;have aD:d.i 64=0:=by simpa using hE
  have g:-1<=d.i 60/\0<=d.i 61/\0<=d.i 62/\0<=d.i 63:=g.1;obtain⟨ah,Q⟩:=hB.rd.at g.1 g.2.1 g.2.2.1;refine⟨fun h=>absurd aD h,fun _=>⟨ae,?_⟩⟩;have aE:IntKind.i64.wrap (d.i 62+1)=((cO r).length:Int)+1:=by rw[ah];exact wrap_i64 ae ae
  rw[aE];refine⟨oS _,fun t w ⟨aN,ai,_⟩=>?_⟩;have S:t.i 65=batch ((cO r).length+1):=oT ai;have b1:=qZ (n:=((cO r).length:Int)+1) ae;have b2:=re (((cO r).length:Int)+1);obtain⟨N,hN⟩:∃ N:Nat,batch (((cO r).length:Int)+1)=N:=⟨(batch (((cO r).length:Int)+1)).toNat,ae⟩;rw[hN]at S b1 b2;refine⟨⟨ae,ae,ae⟩,fun a H ⟨aj,I⟩=>?_⟩;have P:a.i 62=(cO r).length:=by rw[H.i 62,w.i 62,ah]
  have ak:a.i 65=N:=by rw[H.i 65,S]
  have I:a.h 66=pS (a.i 66).toNat (List.replicate N 0):=by
   rw[I,<-wW,S]
   congr 2
  have al:(min (a.i 62) (a.i 65)).toNat=(cO r).length:=ae;have an:(cO r)=[]\/0<=a.i 60/\∀ j z,(cO r)[j]?=some z->(a.h 60).cell (a.i 60).toNat ((a.i 61).toNat+j)=some (.int .u8 z):=by
   have G:Agree 65 d a:=w.tr H;rw[G.i 60,G.i 61,G.h 60];exact Q.imp (·.2) id
  have X:0<=a.i 61:=by rw[H.i 61,w.i 61];exact g.2.1
  refine⟨⟨⟨aj,MT _,ae,ae⟩,⟨(bys (List.replicate N 0)).toArray,5,by rw[I];exact Hl.one_self _ _,by simp [bys_length];omega⟩,?_⟩,fun T U K=>?_⟩
  .rcases an with h0 | ⟨aF,W⟩
   .left;rw[P,h0];simp;omega
   .exact Or.inr ⟨aF,X,cells_bytes W ae⟩
  rw[al,I]at K;have ao:segVals (a.h 60) (a.i 60).toNat (a.i 61).toNat (cO r).length=bys (cO r):=by
   rcases an with h0 | ⟨_,W⟩
   .rw[h0];rfl
   .exact sO W
  rw[ao,qY]at K;have L:T.i 66=a.i 66:=U.i 66;have ar:T.i 62=(cO r).length:=by rw[U.i 62,P]
  have V:T.i 65=N:=by rw[U.i 65,ak]
  refine⟨ae,ae,⟨ae,ae,?_⟩,fun o A B=>?_⟩
  .rw[K,L,ar];unfold Hl.wr pS;rw[Hl.one_self];simp [bys_length,splice];omega
  .rw[K,L,ar,MD]at B;have B:o.h 68=(pS (a.i 66).toNat (splice (List.replicate N 0) 0 (cO r))).put (a.i 66).toNat (cO r).length (bys [1]):=B;rw[qY,Cw ae]at B;have e:jj r=(aX (cO r),0):=by unfold jj;rw[M0 hf]
   have ep:aX (cO r)=cO r++[1]++List.replicate (N-((cO r).length+1)) 0:=by unfold aX;rw[hN,MD]
   have el:(aX (cO r)).length=N:=by rw[ep];simp;omega
   refine out (f:=[5]) rfl ⟨by show -1<=o.i 66;rw[A.i 66,L];omega,MT _,by show 0<=o.i 65;rw[A.i 65,V];omega,by show 0<=o.i 65;rw[A.i 65,V];omega⟩ (by rw[e];rfl) ?_;rw[e];show OwB (hls [o.h 68]) _ (.slice (slP (o.i 66) 0) (o.i 65).toNat (o.i 65).toNat) _;rw[hls_one,B,A.i 66,L,A.i 65,V,MD,<-ep];have:=yO aj (aX (cO r)) (by rw[el];unfold maxLen;omega);rw[el]at this;exact this
def Em:Sx.Spec where
 fn:=6
 own:=[]
 rd:=[]
 res:=[.one .bool]
 pre:=fun xs Hs Rs=>xs=[]
 post:=fun xs Hs Rs v Hs' F=>v=.bool true
def BM:List Sx.Spec:=[gh,iQ,fx,fw]
def BN:∀ t∈BM,t.OK Tryz.prog:=ai il <| ai nL <| ai kN <| ai gb <| aD
noncomputable def JZ:Walk Tryz.prog BM 6 where
 Λ:=noLoops
 args:=[]
 mem:=[]
 nv:=0
def BL:Em.OK Tryz.prog:=by
 refine Spec.of_fn (Γ:=BM) BN ?_;rintro xs Hs Rs f g rfl;have e0:Hs=[]:=MF.1 f;have e1:Rs=[]:=MF.1 g;subst e0 e1;refine⟨JZ,oN,fun _ _=>True,fun _ _=>0,rfl,jJ rfl rfl,(fun _ h=>nomatch h),?_⟩;refine Walk.read [] [] [] ?_;simp only[go_sem,Nat.reduceAdd,BM,Ej,GB,JL,IK,DW,LX];intro J _ _ q1 _ _ q2 _ _ K _ _ L _ _ M _ _ N _ _ q7 _ _ j _ p8;have w:OP (Hl.one (j.i 8).toNat (Obj.cells #[Value.slice (slP (-1) 0) (Int.toNat 0) (Int.toNat 0),Value.bool (bev j E.ff)] 124 (0,0))) (j.i 8) [] 0:=OP.new p8;refine jY w ae ae ⟨ae,ae⟩ fun O P x=>?_;refine jY x ae ae ⟨ae,ae⟩ fun y A k=>?_;refine I1 (vs:=[0,0,0,0,0,0]) k ae ae rfl (fun z hz=>by simp at hz;omega) fun m B o=>?_;refine HE o ae ae fun C D q=>?_;refine jY q ae ae ⟨ae,ae⟩ fun G H r=>?_;refine jY r ae ae ⟨ae,ae⟩ fun d I c=>?_;have c:OP (d.h 19) (d.i 8) _ _:=c;have len:∀ {l:List Int},l.length=11->(fk l false)=(l,0):=fun h=>by unfold fk;rw[MM (by simp;omega)]
 have e:([]++aq (Int.toNat 0)++aq (Int.toNat 2)++fF [0,0,0,0,0,0]++bE (bev m E.ff)++aq (Int.toNat 0)++aq (Int.toNat 1)).length=11:=by
  simp [fF,bE,dL]
 have s:∀ {R:Hl} {p:Int} {l:List Int} {n:Nat},OP R p l n->l.length=11->fk l false=(l,0)/\l.length<=1000000:=fun _ h=>⟨len h,ae⟩;have fin:=s c e;refine⟨⟨_,_,_,_,rfl,rfl,c.out,fin.2⟩,fun a _ ⟨F,hp,Q,hn⟩=>?_⟩;obtain⟨hB,v⟩:=vn c.out hp;rw[fin.1]at hB v;have t:a.i 25=0:=by simpa using v
 have b:-1<=a.i 21/\0<=a.i 22/\0<=a.i 23/\0<=a.i 24:=hn.1;obtain⟨u,_⟩:=hB.rd.at b.1 b.2.1 b.2.2.1;refine⟨fun _=>⟨b.2.2.1,kj rfl ?_⟩,fun h=>absurd t h⟩;show Value.bool (bev a ((E.var 23).eq (E.lit 11)))=.bool true;have:a.i 23=11:=by rw[u];have:=Ns Int.ofNat e;exact this
 congr 1
 rw[bev_eq,iev_var,iev_lit,this];rfl
structure Trim (bs:List Int) (k:Nat):Prop where
 le:k<=bs.length
 gx:∀ j z,k<=j->bs[j]?=some z->z=0
 last:k=0\/∃ z,bs[k-1]?=some z/\z≠0
def qv (X:List Int):(aX X)[X.length]?=some 1/\(∀ j z,X.length<j->(aX X)[j]?=some z->z=0):=by
 unfold aX;refine⟨by rw[M5 ar];simp,fun j z a hz=>?_⟩;rw[MX (by simp;omega),Oj]at hz;split at hz
 .exact(Nx hz).symm
 .cases hz
def vY (X:List Int) (h:X.length+1<=65536):((aX X).length:Int)=batch ((X.length:Int)+1):=by
 have:=qZ (n:=(X.length:Int)+1) ae;unfold aX;simp only[MJ,Og,Nk,N0];omega
def Trim.pad (h:Trim (aX X) k):k=X.length+1:=by
 obtain⟨h1,h2⟩:=qv X;rcases Nat.lt_trichotomy k (X.length+1)with hk | hk | hk
 .have:=h.gx X.length 1 ae h1;omega
 .exact hk
 .rcases h.last with h0 | ⟨z,hz,a⟩
  .omega
  .exact absurd (h2 (k-1) z ae hz) a
def Trim.un (h:Trim bs k) (hk:0<k) (h1:bs[k-1]?=some 1) (hl:(bs.length:Int)=batch k):aX (bs.take (k-1))=bs:=by
 have hle:=h.le;have e1:(bs.take (k-1)).length=k-1:=by rw[M3];omega
 have b:bs.drop k=List.replicate (bs.length-k) 0:=by
  apply Ni;intro j;rw[Nm,Oj];split
  .rename_i d;have hb:bs[k+j]?=some bs[k+j]:=ME ae;rw[hb,h.gx (k+j) _ ae hb]
  .exact MS ae
 have c:bs.drop (k-1)=1::bs.drop k:=by
  have a:k-1<bs.length:=ae;rw[O5 a];have:bs[k-1]=1:=by rw[ME a]at h1;exact Nx h1
  rw[this,show k-1+1=k by omega]
 unfold aX;rw[e1,show(((k-1:Nat):Int)+1)=(k:Int)by omega,<-hl,show k-1+1=k by omega,MD,<-b,MY];show bs.take (k-1)++(1::bs.drop k)=bs;rw[<-c,On]
def fy:Nat->PS->PS
 | 0,s=>s
 | k+1,s=>fy k (qs s)
def py:∀ (k:Nat) (s:PS),fy (k+1) s=qs (fy k s)
 | 0,_=>rfl
 | k+1,s=>by show fy (k+1) (qs s)=qs (fy k (qs s));exact py k _
def BE (s:PS) (c:Pc):Prop:=wV (bt 4096 s) c.h/\c.b=bt 4096 (bU 4096 s)
def fh (s:PS) (ps:List Pc):Prop:=∀ j c,ps[j]?=some c->BE (fy j s) c
def fh.cons (h:fh s (c::ps)):BE s c/\fh (qs s) ps:=⟨h 0 c rfl,fun j d hd=>h (j+1) d hd⟩
def fh.snoc (h:fh s ps) (e:BE (fy ps.length s) c):fh s (ps++[c]):=by
 intro j d hd;rcases ND j ps.length with a | a
 .rw[M5 a]at hd;exact h j d hd
 .rw[MX a]at hd;have b:j-ps.length=0:=by
   rcases OR (j-ps.length)with h0 | h0
   .exact h0
   .rw[MS (by simp;omega)]at hd;cases hd
  rw[b]at hd;have hd:c=d:=by simpa using hd
  subst hd;rw[show j=ps.length by omega];exact e
def wV.form {h:Hd} (hp:wV t h) (hf:h.Form):cn h=t:=by
 rcases hp with ⟨_,e⟩ | ⟨e,_⟩
 .exact e
 .rw[e]at hf;exact absurd hf zM
def gD {h:Hd} (hf:h.Form):aB h=cn h:=by unfold aB;rw[M0 hf]
def Iw:∀ (ps:List Pc) (s:PS),ah s.l->(fy ps.length s).bad=false->(∀ c∈ps,c.h.Form)->fh s ps->s.bad=false/\s.l=jw ps++(fy ps.length s).l
 | [],s,_,h,_,_=>⟨h,rfl⟩
 | c::ps,s,hb,h,hf,ho=>by
  obtain⟨a,f⟩:=ho.cons;have b1:ah (bU 4096 s).l:=(iW hb).1;obtain⟨a1,a2⟩:=Iw ps (qs s) (iW b1).1 h (fun d hd=>hf d (MW _ hd)) f;obtain⟨g,i,_,_⟩:=wJ b1 a1;obtain⟨j,k,_,_⟩:=wJ hb g;refine⟨j,?_⟩;have b:=hf c (Nh ..);have e:jw (c::ps)=sk c++jw ps:=rfl;have e1:sk c=ak (bt 4096 s)++ak (bt 4096 (bU 4096 s)):=by
   unfold sk;rw[gD b,a.1.form b,a.2]
  rw[k,i,e,e1];show _++(_++(qs s).l)=_;rw[a2,MY,MY];rfl
def Ar:∀ (ps:List Pc),(∀ c∈ps,c.Good/\(cn c.h).length<=4096)->∀ j,j<=ps.length->fy j ⟨jw ps,false⟩=⟨jw (ps.drop j),false⟩/\∀ c,ps[j]?=some c->bt 4096 (fy j ⟨jw ps,false⟩)=cn c.h/\bt 4096 (bU 4096 (fy j ⟨jw ps,false⟩))=c.b
 | [],_,j,a=>by
  obtain rfl:j=0:=by simpa using a
  exact⟨rfl,fun c f=>by cases f⟩
 | c::ps,h,j,a=>by
  obtain⟨hg,hl⟩:=h c (Nh ..);have g:=jK hg;have e:jw (c::ps)=ak (cn c.h)++(ak c.b++jw ps):=by
   show sk c++jw ps=_;unfold sk;rw[gD hg.1,MY]
  obtain⟨t1,t2⟩:=qL (m:=4096) (b:=cn c.h) (t:=ak c.b++jw ps) ae hl;obtain⟨t3,t4⟩:=qL (m:=4096) (b:=c.b) (t:=jw ps) ae ae;have hs:qs ⟨jw (c::ps),false⟩=⟨jw ps,false⟩:=by rw[e];show bU 4096 (bU 4096 _)=_;rw[t1,t3]
  match j with
  | 0=>exact⟨rfl,fun d hd=>by
   have hd:c=d:=by simpa using hd
   subst hd;show bt 4096 ⟨jw (c::ps),false⟩=_/\bt 4096 (bU 4096 ⟨jw (c::ps),false⟩)=_;rw[e,t1];exact⟨t2,t4⟩⟩
  | j+1 =>
   have:=Ar ps (fun d hd=>h d (MW _ hd)) j (by simpa using a);show fy j (qs _)=_/\_;rw[hs];exact⟨this.1,fun d hd=>by show bt 4096 (fy j (qs _))=_/\bt 4096 (bU 4096 (fy j (qs _)))=_;rw[hs];exact this.2 d hd⟩
def rg1 (b:List Int):PS:=aS 18446744073709551615 ⟨b,false⟩
def uB (b:List Int):PS:=aS 3 (rg1 b)
def FX (b:List Int):PS:=aS 14 (uB b)
def CX (b:List Int):PS:=(aP 1048576 6 (FX b)).2
def wy (b:List Int):List Int:=(aP 1048576 6 (FX b)).1
def sG (b:List Int):PS:=aS 8 (CX b)
def mC (b:List Int):Nat:=(au 8 (CX b)).toNat
def lW (b:List Int) (u:Value):List Value:=[.int .u64 (au 18446744073709551615 ⟨b,false⟩),.int .i64 (au 3 (rg1 b)),.int .i64 (au 14 (uB b))]++us (wy b)++[u]
def tI (b:List Int):∃ a0 a1 a2 a c d,wy b=[a0,a1,a2,a,c,d]:=by
 have h:(wy b).length=6:=r5 6 _
 match wy b,h with
 | [a0,a1,a2,a,c,d],_=>exact⟨a0,a1,a2,a,c,d,rfl⟩
structure GR (b:List Int) (r:Rp):Prop where
 c0:cI r.c 0=au 18446744073709551615 ⟨b,false⟩
 c1:cI r.c 1=au 3 (rg1 b)
 c2:cI r.c 2=au 14 (uB b)
 hs:aw r.c 3 6=wy b
 n:r.p.length=mC b
def Cc {u:Value} (hx:cM R RA (lW b u) r) (hn:r.p.length=mC b):GR b r:=by
 obtain⟨a0,a1,a2,a,d,f,e⟩:=tI b;refine⟨hx.I aj,hx.I aj,hx.I aj,?_,hn⟩;show [cI r.c 3,cI r.c 4,cI r.c 5,cI r.c 6,cI r.c 7,cI r.c 8]=_;rw[hx.I aj,hx.I aj,hx.I aj,hx.I aj,hx.I aj,hx.I aj,e];unfold lW;rw[e];rfl
def FV (hb:ah b) (hg:GR b r) (ho:fh (sG b) r.p) (hf:∀ c∈r.p,c.h.Form) (h1:(fy (mC b) (sG b)).bad=false) (h2:(fy (mC b) (sG b)).l=[]):cO r=b:=by
 have i:ah (rg1 b).l:=aE hb;have j:ah (uB b).l:=aE i;have k:ah (FX b).l:=aE j;have m:ah (CX b).l:=mq 6 _ k;have o:ah (sG b).l:=aE m;rw[<-hg.n]at h1 h2;obtain⟨a1,a2⟩:=Iw r.p (sG b) o h1 hf ho;rw[h2,Nu]at a2;obtain⟨q,e,n0,n1,_⟩:=fv m a1;obtain⟨t,f⟩:=Ah 6 (FX b) k q;obtain⟨u,g,k0,k1,_⟩:=fv j t;obtain⟨v,a,w,x,_⟩:=fv i u;obtain⟨_,d,y,m1,m2⟩:=fv (s:=⟨b,false⟩) hb v;have d:b=aq (au 18446744073709551615 ⟨b,false⟩).toNat++(rg1 b).l:=d;have a:(rg1 b).l=aq (au 3 (rg1 b)).toNat++(uB b).l:=a;have g:(uB b).l=aq (au 14 (uB b)).toNat++(FX b).l:=g;have f:(FX b).l=fF (wy b)++(CX b).l:=f;have e:(CX b).l=aq (mC b)++(sG b).l:=e;unfold cO BA;rw[hg.c0,hg.c1,hg.c2,hg.hs,hg.n,aO w ae,aO k0 ae]
 conv=>rhs;rw[d,a,g,f,e,a2]
 simp only[MY]
def fh.same (hg:∀ c∈ps,c.Good/\(cn c.h).length<=4096) (hs:s=⟨jw ps,false⟩) (hx:∀ c∈ps,∃ R row,aG R row c.h) (d:∀ c∈ps',∃ R row,aG R row c.h) (ho:fh s ps') (hl:ps'.length=ps.length):ps'=ps:=by
 subst hs;apply Oq hl;intro j f a;have e1:ps'[j]?=some ps'[j]:=ME f;have k:ps[j]?=some ps[j]:=ME a;obtain⟨o1,o2⟩:=ho j _ e1;obtain⟨v1,v2⟩:=(Ar ps hg j ae).2 _ k;rw[v1]at o1;rw[v2]at o2;obtain⟨R,row,g⟩:=hx ps[j] (NM a);obtain⟨R',row',e⟩:=d ps'[j] (NM f);have i:=(hg ps[j] (NM a)).1.1;have hh:ps'[j].h=ps[j].h:=by
  rcases o1 with ⟨f1,f2⟩ | ⟨_,f2⟩
  .exact zE e f1 g i f2
  .exact absurd rfl (f2 R row ps[j].h g i)
 cases hp:ps'[j]with
 | mk h b =>
  cases l:ps[j]with
  | mk h' b' =>
   rw[hp,l]at hh o2;simp only at hh o2;rw[hh,o2]
def uA (hx:cM R RA row r) (hf:r.Form) :
 au 18446744073709551615 ⟨cO r,false⟩=cI r.c 0/\au 3 (rg1 (cO r))=cI r.c 1/\au 14 (uB (cO r))=cI r.c 2/\wy (cO r)=aw r.c 3 6/\mC (cO r)=r.p.length/\sG (cO r)=⟨jw r.p,false⟩/\(∀ c∈r.p,c.Good/\(cn c.h).length<=4096)/\(∀ c∈r.p,∃ R row,aG R row c.h):=by
 obtain⟨⟨f1,f2⟩,⟨f3,f4⟩,hs,w,a,_⟩:=id hf;obtain⟨J,l,_,_⟩:=fL (ks:=ya) [] hx.ok;have d:cM R RA (fb J) r:=by rw[l]at hx;exact hx
 obtain⟨c0,c1,c2,c3,x,y,c6,c7,A⟩:=d.n;have G:0<=J.i 0/\J.i 0<18446744073709551616:=gJ d 0 ae;have B:=qG d;obtain⟨rows,C,hlen,o⟩:=hx.ps;have g:∀ c∈r.p,∃ R row,aV R R row c:=fun c b=>by
  obtain⟨j,u⟩:=N2.1 b;have D:=(MK.1 u).1;exact⟨RA,_,o j _ c (ME ae) u⟩
 have k:aw r.c 3 6=[J.i 3,J.i 4,J.i 5,J.i 6,J.i 7,J.i 8]:=by
  show [cI r.c 3,cI r.c 4,cI r.c 5,cI r.c 6,cI r.c 7,cI r.c 8]=_;rw[c3,x,y,c6,c7,A]
 have e:cO r=aq (cI r.c 0).toNat++(aq (cI r.c 1).toNat++(aq (cI r.c 2).toNat++(fF (aw r.c 3 6)++(aq r.p.length++jw r.p)))):=by
  unfold cO BA;rw[aO (z:=cI r.c 1) ae ae,aO (z:=cI r.c 2) ae ae];simp only[MY]
 have hv:∀ v∈aw r.c 3 6,0<=v/\v<=1048576/\v<18446744073709551616:=fun v hv=>by
  have h1:=B v (by rw[<-k];exact hv);refine⟨h1.1,?_,h1.2⟩;unfold ib at hs;have hv:v∈[cI r.c 3,cI r.c 4,cI r.c 5,cI r.c 6,cI r.c 7,cI r.c 8]:=hv;simp only[MQ,MV,Nt]at hv;omega
 obtain⟨s1,t1⟩:=ba (s:=⟨cO r,false⟩) (m:=18446744073709551615) (z:=(cI r.c 0).toNat) (by rw[e]) ae ae;have s1:rg1 (cO r)=_:=s1;obtain⟨s2,t2⟩:=ba (m:=3) s1 ae ae;have s2:uB (cO r)=_:=s2;obtain⟨q,t3⟩:=ba (m:=14) s2 ae ae;have q:FX (cO r)=_:=q;have t:=tY (m:=1048576) (aw r.c 3 6) (aq r.p.length++jw r.p) hv;rw[<-q,show(aw r.c 3 6).length=6 from rfl]at t;have E:CX (cO r)=⟨aq r.p.length++jw r.p,false⟩:=by unfold CX;rw[t]
 obtain⟨F,t6⟩:=ba (m:=8) E ae ae;have f:∀ c∈r.p,(cn c.h).length<=4096:=fun c b=>by
  obtain⟨R',row',hI⟩:=g c b;have:=cP hI.hd;rw[gD (a c b).1]at this;omega
 refine⟨by rw[t1];omega,by rw[t2];omega,by rw[t3];omega,by unfold wy;rw[t],by unfold mC;rw[t6];omega,F,fun c b=>⟨a c b,f c b⟩,fun c b=>by obtain⟨R',row',hI⟩:=g c b;exact⟨R',_,hI.hd⟩⟩
def AV (hx:cM R RA row r) (hf:r.Form):(cO r).length<=16000:=by
 obtain⟨⟨f1,f2⟩,⟨f3,f4⟩,hs,l,a,g⟩:=id hf;obtain⟨J,e,_,_⟩:=fL (ks:=ya) [] hx.ok;have b:cM R RA (fb J) r:=by rw[e]at hx;exact hx
 obtain⟨c0,c1,c2,c3,m,o,c6,c7,q⟩:=b.n;have v:0<=J.i 0/\J.i 0<18446744073709551616:=gJ b 0 ae;have s:=qG b;obtain⟨rows,t,hlen,f⟩:=hx.ps;have a2:=DR (ps:=r.p) fun c h=>by
  obtain⟨j,k⟩:=N2.1 h;have u:=(MK.1 k).1;exact⟨NT (jK (a c h)) ae,RA,RA,_,f j _ c (ME ae) k⟩
 have d:aw r.c 3 6=[J.i 3,J.i 4,J.i 5,J.i 6,J.i 7,J.i 8]:=by
  show [cI r.c 3,cI r.c 4,cI r.c 5,cI r.c 6,cI r.c 7,cI r.c 8]=_;rw[c3,m,o,c6,c7,q]
 have b2:=wO (vs:=[J.i 3,J.i 4,J.i 5,J.i 6,J.i 7,J.i 8]) rfl s;rw[<-d]at b2;have w:=cq (z:=(cI r.c 0).toNat) ae;have b1:=cq (z:=cu (cI r.c 1)) (by rw[aO ae ae];omega);have x:=cq (z:=cu (cI r.c 2)) (by rw[aO ae ae];omega);have y:=cq (z:=r.p.length) ae;unfold cO BA;simp only[MJ];omega
end Go.Proofs.YtbdikjnpbnobcaaGreatDoor
namespace Go.Sx
open Go
end Go.Sx
namespace Go.Proofs.YtbdikjnpbnobcaaGreatDoor
open Go Go.Sx Go.Pk
variable {B F G R:Hl}{c l x y:Int}{ps:List Pc}
def th (F:Hl) (v:Value) (ps:List Pc):Prop:=∃ rows,OwR F 40 oK v rows/\rows.length=ps.length/\∀ (j:Nat) row p,rows[j]?=some row->ps[j]?=some p->aV (F.but v.ownBlock) (F.but v.ownBlock) row p
def th.rd {v:Value} (h:th F v ps):fS F F v ps:=by
 obtain⟨rows,h1,h2,a⟩:=h;exact⟨rows,h1.rd,h2,fun j row p hr hp=>(a j row p hr hp).mono (Hl.yX _ _) (Hl.yX _ _)⟩
def th.nil (F:Hl):th F (.slice none 0 0) []:=⟨[],OwR.nil _ _ _,rfl,fun j row p h=>by simp at h⟩
def th.snoc {A:Hl} {x1 c1:Int} {row:List Value} {p:Pc} (h:th A (.slice (slP x 0) l.toNat c.toNat) ps) (hl:l=ps.length) (hd:A.dis B) (hu:aV B B row p) (f:-1<=x1)
 (happ:∀ xs,OwnsH (A.un B) 40 126 (.slice (slP x 0) l.toNat c.toNat) l.toNat xs->OwnsH G 40 126 (.slice (slP x1 0) (l.toNat+1) c1.toNat) (l.toNat+1) (xs++row))
 (hk:∀ b,(A.un B).mem b->some b≠(Value.slice (slP x 0) l.toNat c.toNat).ownBlock->G b=(A.un B) b) (hnew:some x1.toNat=(Value.slice (slP x 0) l.toNat c.toNat).ownBlock\/¬(A.un B).mem x1.toNat\/x1= -1):th G (.slice (slP x1 0) (l+1).toNat c1.toNat) (ps++[p]):=by
 obtain⟨rows,⟨g,d⟩,hlen,hp⟩:=h;have ho:OwR (A.un B) 40 oK (.slice (slP x 0) l.toNat c.toNat) rows:=⟨g,d.mono (Hl.un_left _ _)⟩;have hkeep:((A.un B).but (Value.slice (slP x 0) l.toNat c.toNat).ownBlock).le (G.but (Value.slice (slP x1 0) (l+1).toNat c1.toNat).ownBlock):=Hl.rf hk (uV f hnew);have hB:B.le ((A.un B).but (Value.slice (slP x 0) l.toNat c.toNat).ownBlock):=fun b o hb=>by
  have hm:B.mem b:=by unfold Hl.mem;rw[hb];rfl
  unfold Hl.but;rw[MM fun e=>hd b ⟨d.qp e.symm,hm⟩];exact Hl.un_right hd b o hb
 have hA:(A.but (Value.slice (slP x 0) l.toNat c.toNat).ownBlock).le ((A.un B).but (Value.slice (slP x 0) l.toNat c.toNat).ownBlock):=Hl.rf (fun b hm _=>by
  obtain⟨o,ho⟩:=NJ.1 hm;rw[Hl.un_at_left ho,ho]) (fun _ _ h=>h)
 refine⟨rows++[row],OwR.app ho ae hu.ok happ,by simp [hlen],fun j r q hr a=>?_⟩;rcases ND j rows.length with i | i
 .rw[M5 i]at hr;rw[M5 ae]at a;have:=hp j r q hr a;exact(this.mono hA hA).mono hkeep hkeep
 .rw[MX i]at hr;rw[MX ae]at a;have hr:=MG hr;have a:=MG a;rw[MO]at hr a;subst hr;subst a;exact(hu.mono hB hB).mono hkeep hkeep
def th.pre {A:Hl} (h:th A (.slice (slP x 0) l.toNat c.toNat) ps) (hl:l=ps.length):∃ xs,OwnsH (A.un B) 40 126 (.slice (slP x 0) l.toNat c.toNat) l.toNat xs:=by
 obtain⟨rows,ho,hlen,_⟩:=h;exact⟨_,(OwR.pre ho ae).mono (Hl.un_left _ _)⟩
def gC:List CV:=[.int .u64 (.var 83),.int .i64 (.wrap .i64 (.var 85)),.int .i64 (.wrap .i64 (.var 87))]++ckCVs 89 (List.replicate 6 (Ck.int .u64))++[.sl (.var 153) (.lit 0) (.var 154) (.var 155)]
def gZ:List CV:=[.int .u64 (.lit 0),.int .i64 (.lit 0),.int .i64 (.lit 0),.int .u64 (.lit 0),.int .u64 (.lit 0),.int .u64 (.lit 0),.int .u64 (.lit 0),.int .u64 (.lit 0),.int .u64 (.lit 0),.sl (.lit (-1)) (.lit 0) (.lit 0) (.lit 0)]
def IM:List Value:=[.int .u64 0,.int .i64 0,.int .i64 0,.int .u64 0,.int .u64 0,.int .u64 0,.int .u64 0,.int .u64 0,.int .u64 0,.slice none 0 0]
def Cx (b:List Int) (v:Value) (F:Hl):Prop :=
 (∃ row r,v=.tuple #[.agg row.toArray,.int .i64 0]/\cM F F row r/\r.Form/\aX (cO r)=b) \/
 (v=.tuple #[.agg IM.toArray,.int .i64 2]/\∀ R RA row r,cM R RA row r->r.Form->aX (cO r)≠b)
noncomputable def qF:Sx.Spec where
 fn:=12
 own:=[]
 rd:=[0]
 res:=[.agg ya,.one (.int .i64)]
 pre:=fun xs Hs Rs=>∃ (x y:Int) (c:Nat) (bs:List Int) (R:Hl),xs=[.slice (slP x y) bs.length c]/\Rs=[R]/\RdW R (.slice (slP x y) bs.length c) bs/\0<=y/\bs.length<=c/\ah bs/\bs.length<=1000000
 post:=fun xs Hs Rs v Hs' F=>∀ u bs R,xs=[u]->Rs=[R]->RdW R u bs->Cx bs v F
noncomputable def C3:List Sx.Spec:=[gH,numS,fD,gK,gS,mY 42,iP]
def C5:∀ t∈C3,t.OK Tryz.prog:=ai gl <| ai mo <| ai lP <| ai oe <| ai kc <| ai oX <| ai nH <| aD
noncomputable def Gd:Walk Tryz.prog C3 12 where
 Λ:=fun p=>if Jr 95 p then some ⟨0,[(0,.sv (.one (.sl (.var 0) (.var 1) (.var 50) (.var 3))))],[],60⟩else if cutAt p [12,1,0]then some ⟨1,[(4,.sv (.one (.sl (.var 0) (.var 1) (.var 70) (.var 3))))],[],80⟩else if Jr 12 p then some ⟨2,[(48,TI .u64 (.var 150))],[(2,.hp 151 [] [.var 81] []),(3,.blk 95 gC 53),(4,.hp 156 [] [.var 153] [])],160⟩else none
 args:=[.sv (.one (.sl (.var 0) (.var 1) (.var 2) (.var 3)))]
 mem:=[.ro 4 [.var 0] false]
 nv:=5
def KX:fD.res=[.agg (List.replicate 6 (.int .u64))]:=rfl
def KY:gK.res=[.agg bC]:=rfl
def xf:(Cp.agg bC).len=132:=by kernel_rfl
def zf:(Cp.agg (List.replicate 6 (.int .u64))).len=6:=by kernel_rfl
def AO:(cpRoots 0 [Cp.agg bC]≠[])=True:=by
 have e:cpRoots 0 [Cp.agg bC]=[.var 53,.var 128]:=by kernel_rfl
 rw[e];simp
section
variable {q:Env} {n:Nat} {p:Value} {H:Hl} {s:PS} {K:Env->Prop} {A:Env->Hl->Prop}
def HU (h:dy H p s) (k:∀ q',Agree n q q'->((q'.b n=true)=(s.bad=false/\s.l=[]))->K q') :
 gS.pre [p] [] [H]/\∀ q',Agree n q q'->(∃ F,gS.post [p] [] [H] (.bool (bev q' (.bvar n))) [] F/\A q' F)->K q':=by
 refine⟨⟨_,H,s.l,s.bad,rfl,rfl,h⟩,fun q' g ⟨F,⟨f,R',bs',bad',e1,c,a,hv⟩,_⟩=>k q' g ?_⟩;simp only[MH,MZ]at e1 c;subst e1 c;obtain⟨d,e⟩:=h.uniq a;subst d e;simp only[Value.bool.injEq,bev_bvar]at hv;rw[hv];simp
def Ky (h:dy H p s) (k:∀ q',Agree n q q'->dy (q'.h n) p (aP 1048576 6 s).2->(ckCVs n (List.replicate 6 (Ck.int .u64))).map (CV.ev q')=us (aP 1048576 6 s).1->K q') :
 fD.pre [p] [H] []/\∀ q',Agree n q q'->(∃ F,fD.post [p] [H] [] (.agg ((ckCVs n (List.replicate 6 (Ck.int .u64))).map (CV.ev q')).toArray) [q'.h n] F/\A q' F)->K q':=by
 refine⟨⟨_,H,s,rfl,rfl,h⟩,fun q' g ⟨F,⟨l,H1,b,H',e1,c,i,d,a,hv⟩,_⟩=>?_⟩;simp only[MH,MZ]at e1 c d;subst e1 c;obtain⟨e,f⟩:=h.uniq i;have j:s=b:=by cases s;cases b;simp only at e f;rw[e,f]
 subst j;rw[<-d]at a;exact k q' g a (M4 (Value.agg.inj hv))
def Mh (h:dy H p s) (k:∀ q' row c,Agree n q q'->dy (q'.h n) p (qs s)->(ckCVs n bC).map (CV.ev q')=row->aV (q'.h (n+1)) (q'.h (n+1)) row c->BE s c->K q') :
 gK.pre [p] [H] []/\∀ q',Agree n q q'->(∃ F,gK.post [p] [H] [] (.agg ((ckCVs n bC).map (CV.ev q')).toArray) [q'.h n] F/\(True->q'.h (n+1)=F)/\cpNorms n [.agg bC] q')->K q':=by
 refine⟨⟨_,H,s,rfl,rfl,h⟩,fun q' g ⟨F,⟨o,H1,b,H',row,c,e1,d,j,e,a,hv,hx,hd,hb⟩,l,_⟩=>?_⟩;simp only[MH,MZ]at e1 d e;subst e1 d;obtain⟨f,i⟩:=h.uniq j;have m:s=b:=by cases s;cases b;simp only at f i;rw[f,i]
 subst m;rw[<-e]at a;rw[<-l zzT]at hx;exact k q' row c g a (M4 (Value.agg.inj hv)) hx ⟨hd,hb⟩
end
def AJ {l c c':Nat} {bs:List Int} (h:RdW R (.slice (slP x y) l c) bs) (hy:0<=y) {n:Nat} (hn:n<=bs.length):RdW R (.slice (slP x y) n c') (bs.take n):=by
 obtain⟨x1,f,c1,he,b,d⟩:=h;simp only[Value.slice.injEq]at he;rcases OR n with h0 | h0
 .subst h0;exact⟨x,y,c',ar,hy,Or.inl (OH ..)⟩
 rcases d with rfl | ⟨a,d⟩
 .simp at hn;omega
 obtain⟨e1,e⟩:=jz a b hy he.1;subst e1 e;refine⟨x,y,c',by rw[M3,Py hn],hy,Or.inr ⟨a,fun j z hz=>?_⟩⟩;rw[NB]at hz;split at hz
 .exact d j z hz
 .cases hz
def vu (b:List Int) (a:Option Addr) (l c:Nat):rowOK (lW b (.slice a l c)) LY:=by
 obtain⟨a0,a1,a2,d,f,g,e⟩:=tI b;unfold lW;rw[e];exact⟨rfl,rfl,rfl,rfl,rfl,rfl,rfl,rfl,rfl,rfl,zzT⟩
def zw (b:List Int) (a:Option Addr) (l c:Nat):∀ v∈lW b (.slice a l c),kT v:=by
 have i0:=aU (s:=⟨b,false⟩) (m:=18446744073709551615) ae;have i1:=aU (s:=rg1 b) (m:=3) ae;have i2:=aU (s:=uB b) (m:=14) ae;have ih:∀ v∈wy b,0<=v/\v<=1048576:=qi ae 6 _;intro v hv;unfold lW at hv;rcases Nb.1 hv with hv | hv
 .rcases Nb.1 hv with hv | hv
  .simp only[MQ,MV,Nt]at hv;rcases hv with rfl | rfl | rfl
   .exact⟨i0.1,ae⟩
   .exact⟨ae,ae⟩
   .exact⟨ae,ae⟩
  .obtain⟨z,hz,rfl⟩:=Np.1 hv;have:=ih z hz;exact⟨this.1,ae⟩
 .rw[MO]at hv;subst hv;trivial
def xq (b:List Int) (hx:-1<=x) (l c:Int):∀ v∈lW b (.slice (slP x 0) l.toNat c.toNat),eL v:=by
 intro v hv;unfold lW at hv;rcases Nb.1 hv with hv | hv
 .rcases Nb.1 hv with hv | hv
  .simp only[MQ,MV,Nt]at hv;rcases hv with rfl | rfl | rfl<;>trivial
  .obtain⟨z,hz,rfl⟩:=Np.1 hv;trivial
 .rw[MO]at hv;subst hv;exact ij hx
set_option maxRecDepth 10000 in
def yj:qF.OK Tryz.prog:=by
 refine Spec.of_fn (Γ:=C3) C5 ?_;rintro xs Hs Rs aK bp ⟨x,y,c,bs,R,rfl,rfl,W,hy,bj,hby,hlen⟩;have e0:Hs=[]:=MF.1 aK;subst e0;obtain⟨f,hX⟩:∃ f:Nat->List Int,f=fun k=>bs.take (k-1):=⟨_,rfl⟩;refine⟨Gd,envI [x,y,bs.length,c] false [Hl.none,Hl.none,Hl.none,Hl.none,R],fun j q=>if j=0 then ∃ k:Nat,q.i 50=k/\k<=bs.length/\(∀ j z,k<=j->bs[j]?=some z->z=0)else if j=1 then ∃ k:Nat,q.i 70=k/\Trim bs k else ∃ (t k:Nat) (ps:List Pc),q.i 70=t/\Trim bs t/\0<t/\bs[t-1]?=some 1/\(bs.length:Int)=batch t/\q.i 83=au 18446744073709551615 ⟨f t,false⟩/\q.i 85=au 3 (rg1 (f t))/\q.i 87=au 14 (uB (f t))/\(ckCVs 89 (List.replicate 6 (Ck.int .u64))).map (CV.ev q)=us (wy (f t))/\q.i 96=mC (f t)/\q.i 150=k/\k<=mC (f t)/\ps.length=k/\dy (q.h 151) (.pointer (slP (q.i 81) (q.i 82))) (fy k (sG (f t)))/\fh (sG (f t)) ps/\ -1<=q.i 153/\q.i 154=k/\0<=q.i 155/\th (q.h 156) (.slice (slP (q.i 153) 0) (q.i 154).toNat (q.i 155).toNat) ps,
  fun j q=>if j=0 then(q.i 50).toNat else(q.i 96-q.i 150).toNat,?_,jJ rfl rfl,(fun _ h=>nomatch h),?_⟩
 .show [Value.slice (slP x y) ((bs.length:Int)).toNat ((c:Int)).toNat]=_;rw[MD,MD]
 refine Walk.read [bC] [] [gZ,gC] ?_;generalize G:envI [x,y,bs.length,c] false [Hl.none,Hl.none,Hl.none,Hl.none,R]=J;have v0:J.i 0=x:=by rw[<-G];rfl
 have v1:J.i 1=y:=by rw[<-G];rfl
 have v2:J.i 2=bs.length:=by rw[<-G];rfl
 have v3:J.i 3=c:=by rw[<-G];rfl
 have w4:J.h 4=R:=by rw[<-G];rfl
 clear G;have V:∀ q:Env,Agree 5 J q->q.i 0=x/\q.i 1=y/\q.i 2=bs.length/\q.i 3=c/\q.h 4=R:=fun q hg=>by
  rw[hg.i 0,hg.i 1,hg.i 2,hg.i 3,hg.h 4];exact⟨v0,v1,v2,v3,w4⟩
 have cell:∀ k:Nat,0<k->k<=bs.length->0<=x/\∃ z,bs[k-1]?=some z/\R.cell x.toNat (y+((k:Int)-1)).toNat=some (.int .u8 z)/\0<=z/\z<256:=fun k hk kD=>by
  obtain⟨x1,y1,c1,he,aL,I⟩:=id W;simp only[Value.slice.injEq]at he;rcases I with rfl | ⟨ar,I⟩
  .simp at kD;omega
  obtain⟨e1,U⟩:=jz ar aL hy he.1;subst e1 U;have hb:bs[k-1]?=some bs[k-1]:=ME ae;refine⟨ar,_,hb,?_,hby _ (NM _)⟩;rw[show(y+((k:Int)-1)).toNat=y.toNat+(k-1)by omega];exact I _ _ hb
 have wr:∀ k:Nat,k<=bs.length->IntKind.i64.wrap ((k:Int)-1)=(k:Int)-1:=fun k hk=>wrap_i64 ae ae;have bad:∀ {q:Env} {mem:Mem},(∀ R RA row r,cM R RA row r->r.Form->aX (cO r)≠bs)->postOf qF [.slice (slP x y) bs.length c] [] [R] q mem (.tup [.agg gZ,.one (.int .i64 (.lit 2))]):=by
  intro q mem ad _;refine⟨[],[],rfl,rfl,⟨(ay fun k=>[0,0,0,0,0,0,0,0,0,-1,0,0,0,2].getD k 0),rfl,?_⟩,fun u bs' R' e1 U K=>?_⟩
  .exact⟨⟨zzT,zzT,zzT,zzT,zzT,zzT,zzT,zzT,zzT,⟨MT _,MT _,MT _,MT _⟩,zzT⟩,zzT,zzT⟩
  .simp only[MH,MZ]at e1 U;subst e1 U;obtain rfl:=W.uniq K;exact Or.inr ⟨rfl,ad⟩
 have o:∀ {R RA:Hl} {row:List Value} {r:Rp},cM R RA row r->r.Form->aX (cO r)=bs->∀ k,Trim bs k->k=(cO r).length+1/\bs[k-1]?=some 1/\(bs.length:Int)=batch k/\bs.take (k-1)=cO r:=by
  intro R RA row r hx hf he k hk;have hl:=AV hx hf;subst he;have e:=hk.pad;subst e;refine⟨rfl,(qv _).1,by rw[vY _ ae];rfl,?_⟩;unfold aX;rw[MY];exact OZ rfl
 simp only[go_sem,Nat.reduceAdd,C3,KZ,K0,K3,KX,KY,IJ,IL,KS,AO,xf,zf];intro q0 g0 _;obtain⟨a0,a1,a2,a3,a4⟩:=V q0 g0;rw[a2];refine⟨⟨ae,fun ax=>⟨show ∃ k:Nat,q0.i 2=k/\k<=bs.length/\(∀ j z,k<=j->bs[j]?=some z->z=0)from ⟨bs.length,a2,M1 _,fun j z hj hz=>by rw[MS hj]at hz;cases hz⟩,fun q1 g1 hi=>?_⟩,fun h0=>?_⟩,fun q1 g1 hi=>?_⟩
 .obtain⟨k,ek,hk,hz⟩:∃ k:Nat,q1.i 50=k/\k<=bs.length/\(∀ j z,k<=j->bs[j]?=some z->z=0):=hi;obtain⟨a0,a1,a2,a3,a4⟩:=V q1 (g0.tr g1);rw[a0,a1,a3,a4,ek,wr k hk];refine⟨ae,fun az=>?_,fun aA=>?_⟩
  .obtain⟨af,z,C,I,_⟩:=cell k ae hk;rw[I];refine⟨af,hy,ae,ae,rfl,fun aM=>⟨ae,show ∃ k:Nat,IntKind.i64.wrap (q1.i 50-1)=k/\k<=bs.length/\(∀ j z,k<=j->bs[j]?=some z->z=0)from ⟨k-1,by rw[ek,wr k hk];omega,ae,fun j w hj hw=>?_⟩,?_⟩,fun aN=>?_⟩
   .rcases ND (k-1) j with aO | aO
    .exact hz j w ae hw
    .obtain rfl:j=k-1:=ae;rw[C]at hw;have hw:z=w:=by simpa using hw
     subst hw;exact aM
   .show(IntKind.i64.wrap (q1.i 50-1)).toNat<((k:Nat):Int).toNat;rw[ek,wr k hk];omega
   .show ∃ k:Nat,q1.i 50=k/\Trim bs k;exact⟨k,ek,hk,hz,Or.inr ⟨z,C,aN⟩⟩
  .show ∃ k:Nat,q1.i 50=k/\Trim bs k;exact⟨k,ek,hk,hz,Or.inl ae⟩
 .show ∃ k:Nat,q0.i 2=k/\Trim bs k;exact⟨0,by rw[a2];exact h0,NO _,fun j z _ hz=>by have:=(MK.1 hz).1;omega,Or.inl rfl⟩
 obtain⟨t,et,hT⟩:∃ k:Nat,q1.i 70=k/\Trim bs k:=hi;have ag:=hT.le;obtain⟨a0,a1,a2,a3,a4⟩:=V q1 (g0.tr g1);rw[a0,a1,a4,et,wr t ag];refine⟨ae,fun aA=>?_,fun az=>bad fun R' RA row r hx hf he=>by have:=(o hx hf he t hT).1;omega⟩;have X:0<t:=ae;obtain⟨af,z,C,I,_⟩:=cell t X ag;rw[I,a2];refine⟨af,hy,ae,rfl,fun hz=>?_,fun hz=>bad fun R' RA row r hx hf he=>hz (Nx (C.symm.trans (o hx hf he t hT).2.1))⟩;have hz:z=1:=hz;subst hz;rw[show(t:Int)-1+1=(t:Int)by omega,show IntKind.i64.wrap (t:Int)=t from wrap_i64 ae ae];refine⟨ae,oS _,fun q2 g2 ⟨F2,aP,_⟩=>?_⟩;have aQ:=oT aP;obtain⟨a0,a1,a2,a3,a4⟩:=V q2 (g0.trans (g1.mono |>.tr g2));have ai:q2.i 70=t:=by rw[g2.i 70,et]
 rw[a0,a1,a2,a3,a4,ai,aQ,wr t ag];refine⟨fun ax=>bad fun R' RA row r hx hf he=>ax (o hx hf he t hT).2.2.1,fun aj=>⟨ae,?_⟩⟩;have eX:f t=bs.take (t-1):=by rw[hX]
 have lX:(f t).length=t-1:=by rw[eX,M3];omega
 have bX:ah (f t):=fun z hz=>by rw[eX]at hz;exact hby z (Ov hz)
 have rX:RdW R (.slice (slP x y) ((t:Int)-1).toNat ((c:Int)).toNat) (f t):=by
  rw[eX,show((t:Int)-1).toNat=t-1 by omega];exact AJ W hy ae
 refine⟨⟨_,f t,R,rfl,rfl,rX,bX,ae⟩,fun L g3 ⟨F3,aR,aS,bq⟩=>?_⟩;have hIn:dy (L.h 81) (.pointer (slP (L.i 81) (L.i 82))) ⟨f t,false⟩:=by
  obtain⟨u',bs',R',e1,U,K,hI⟩:=aR;simp only[MH,MZ]at e1 U;subst e1 U;obtain rfl:=rX.uniq K;rw[<-aS zzT]at hI;exact hI
 have ep:∀ q:Env,Agree 83 L q->Value.pointer (slP (q.i 81) (q.i 82))=.pointer (slP (L.i 81) (L.i 82)):=fun q hg=>by rw[hg.i 81,hg.i 82]
 refine de hIn fun q4 g4 h4 M=>?_;rw[ep q4 g4];refine de h4 fun q5 g5 h5 N=>?_;have G5:Agree 83 L q5:=g4.tr g5;rw[ep q5 G5];refine de h5 fun q6 g6 h6 O=>?_;have G6:Agree 83 L q6:=G5.tr g6;rw[ep q6 G6];refine Ky h6 fun q7 g7 h7 P q8 g8 _=>?_;have G8:Agree 83 L q8:=G6.trans (g7.tr g8 |>.mono ae);rw[ep q8 G8,g8.h 89];refine de h7 fun D g9 h9 Q=>?_;have G9:Agree 83 L D:=G8.tr g9;have N8:=aU (s:=CX (f t)) (m:=8) ae;have Q:D.i 96=au 8 (CX (f t)):=Q;have eN:D.i 96=mC (f t):=by unfold mC;omega
 have br:mC (f t)<=8:=by unfold mC;omega
 have ak:Agree 89 q6 D:=g7.trans (g8.tr g9 |>.mono ae);refine⟨show ∃ (t k:Nat) (ps:List Pc),D.i 70=t/\Trim bs t/\0<t/\bs[t-1]?=some 1/\(bs.length:Int)=batch t/\D.i 83=au 18446744073709551615 ⟨f t,false⟩/\D.i 85=au 3 (rg1 (f t))/\D.i 87=au 14 (uB (f t))/\(ckCVs 89 (List.replicate 6 (Ck.int .u64))).map (CV.ev D)=us (wy (f t))/\D.i 96=mC (f t)/\(0:Int)=k/\k<=mC (f t)/\ps.length=k/\dy (D.h 96) (.pointer (slP (D.i 81) (D.i 82))) (fy k (sG (f t)))/\fh (sG (f t)) ps/\(-1:Int)<= -1/\(0:Int)=k/\(0:Int)<=0/\th Hl.none (.slice (slP (-1) 0) (0:Int).toNat (0:Int).toNat) ps from
  ⟨t,0,[],by rw[G9.i 70,g3.i 70,ai],hT,X,C,aj,?_,?_,?_,?_,eN,rfl,NO _,rfl,by rw[ep D G9];exact h9,fun j d hd=>by simp at hd,MT _,rfl,MT _,th.nil _⟩,fun a aT hi=>?_⟩
 .rw[ak.i 83,g6.i 83,g5.i 83];exact M
 .rw[ak.i 85,g6.i 85];exact N
 .rw[ak.i 87];exact O
 .rw[show(ckCVs 89 (List.replicate 6 (Ck.int .u64))).map (CV.ev D)=(ckCVs 89 (List.replicate 6 (Ck.int .u64))).map (CV.ev q7)from bk (g8.tr g9) (NS zzK)];exact P
 clear M N O P Q eN h4 h5 h6 h7 h9;obtain⟨t',k,ps,aV,bt,bl,bm,bn,M,N,O,P,al,aa,hk,hps,hP,an,aB,aC,bo,hO⟩:∃ (t k:Nat) (ps:List Pc),a.i 70=t/\Trim bs t/\0<t/\bs[t-1]?=some 1/\(bs.length:Int)=batch t/\a.i 83=au 18446744073709551615 ⟨f t,false⟩/\a.i 85=au 3 (rg1 (f t))/\a.i 87=au 14 (uB (f t))/\(ckCVs 89 (List.replicate 6 (Ck.int .u64))).map (CV.ev a)=us (wy (f t))/\a.i 96=mC (f t)/\a.i 150=k/\k<=mC (f t)/\ps.length=k/\dy (a.h 151) (.pointer (slP (a.i 81) (a.i 82))) (fy k (sG (f t)))/\fh (sG (f t)) ps/\ -1<=a.i 153/\a.i 154=k/\0<=a.i 155/\th (a.h 156) (.slice (slP (a.i 153) 0) (a.i 154).toNat (a.i 155).toNat) ps:=hi;have aW:Agree 83 L a:=G9.tr aT;obtain rfl:t'=t:=by
  have:a.i 70=t:=by rw[aW.i 70,g3.i 70,ai]
  omega
 rw[aa,al];refine⟨fun az=>?_,fun aA=>?_⟩
 .refine Mh hP fun aD row p H aY av hx aZ v B _ aE ao ⟨a6,ab⟩=>?_;have Y:Agree 160 a aE:=H.trans (B.tr ao |>.mono ae);have S:Agree 160 a v:=H.tr B;have aF:(ckCVs 160 bC).map (CV.ev aE)=row:=by rw[<-av];exact bk (B.tr ao) (NS zzK)
  rw[a6,S.h 156,B.h 161,Y.i 153,Y.i 154,Y.i 155,aF];rw[S.h 156,B.h 161]at ab;refine⟨⟨th.pre hO ae,ae,by unfold maxLen;omega,ae⟩,fun g aG ⟨b1,b2,happ,hkeep,_,hnew⟩=>?_⟩;have a7:=th.snoc hO ae ab hx b1 happ hkeep hnew;have n:Agree 160 a g:=Y.tr aG;have T:IntKind.u64.wrap (g.i 150+1)=((k+1:Nat):Int):=by rw[n.i 150,aa,iG ae ae];omega
  have aq:g.i 154+1=((k+1:Nat):Int):=by rw[n.i 154,aC];omega
  refine⟨show ∃ (t k:Nat) (ps:List Pc),g.i 70=t/\Trim bs t/\0<t/\bs[t-1]?=some 1/\(bs.length:Int)=batch t/\g.i 83=au 18446744073709551615 ⟨f t,false⟩/\g.i 85=au 3 (rg1 (f t))/\g.i 87=au 14 (uB (f t))/\(ckCVs 89 (List.replicate 6 (Ck.int .u64))).map (CV.ev g)=us (wy (f t))/\g.i 96=mC (f t)/\IntKind.u64.wrap (g.i 150+1)=k/\k<=mC (f t)/\ps.length=k/\dy (g.h 160) (.pointer (slP (g.i 81) (g.i 82))) (fy k (sG (f t)))/\fh (sG (f t)) ps/\ -1<=g.i 294/\g.i 154+1=k/\0<=g.i 295/\th (g.h 294) (.slice (slP (g.i 294) 0) (g.i 154+1).toNat (g.i 295).toNat) ps from
   ⟨t',k+1,ps++[p],by rw[n.i 70,aV],hT,X,C,aj,by rw[n.i 83,M],by rw[n.i 85,N],by rw[n.i 87,O],?_,by rw[n.i 96,al],T,ae,by simp [hps],?_,an.snoc (by rw[hps];exact aZ),b1,aq,b2,?_⟩,?_⟩
  .rw[<-P];exact bk n (NS zzK)
  .rw[aG.h 160,ao.h 160,B.h 160,n.i 81,n.i 82,py];exact aY
  .rw[n.i 154];exact a7
  .show(g.i 96-IntKind.u64.wrap (g.i 150+1)).toNat<((mC (f t'):Int)-k).toNat;rw[n.i 96,al,T];omega
 have a8:k=mC (f t'):=ae;rw[a8]at hP hps;refine HU hP fun aD H a9=>?_;have bu:=aU (s:=rg1 (f t')) (m:=3) ae;have bw:=aU (s:=uB (f t')) (m:=14) ae;have hW:∀ q:Env,Agree 160 a q->gC.map (CV.ev q)=lW (f t') (.slice (slP (a.i 153) 0) (a.i 154).toNat (a.i 155).toNat):=fun q hg=>by
  have e1:(ckCVs 89 (List.replicate 6 (Ck.int .u64))).map (CV.ev q)=us (wy (f t')):=by rw[<-P];exact bk hg (NS zzK)
  unfold gC lW;rw[M9,M9,e1];show [Value.int .u64 (q.i 83),.int .i64 (IntKind.i64.wrap (q.i 85)),.int .i64 (IntKind.i64.wrap (q.i 87))]++_++[Value.slice (slP (q.i 153) 0) (q.i 154).toNat (q.i 155).toNat]=_;rw[hg.i 83,hg.i 85,hg.i 87,hg.i 153,hg.i 154,hg.i 155,M,N,O,wrap_i64 ae ae,wrap_i64 ae ae]
 obtain⟨row,av⟩:∃ row,row=lW (f t') (.slice (slP (a.i 153) 0) (a.i 154).toNat (a.i 155).toNat):=⟨_,rfl⟩;have hI:∀ F,F=a.h 156->cM F F row ⟨row.set 9 cC,ps⟩:=fun F hF=>by
  subst hF;refine⟨by rw[av];exact vu _ _ _ _,by rw[av];exact zw _ _ _ _,rfl,?_⟩;have e9:row.getD 9 cC=.slice (slP (a.i 153) 0) (a.i 154).toNat (a.i 155).toNat:=by
   rw[av];obtain⟨a0,a1,a2,a3,a4,a5,e⟩:=tI (f t');unfold lW;rw[e];rfl
  rw[e9];exact hO.rd
 have hG:∀ F,F=a.h 156->GR (f t') ⟨row.set 9 cC,ps⟩:=fun F hF=>Cc (u:=.slice (slP (a.i 153) 0) (a.i 154).toNat (a.i 155).toNat) (by rw[<-av];exact hI F hF) hps;have hG:=hG _ rfl;have A:∀ {R RA:Hl} {row':List Value} {r:Rp},cM R RA row' r->r.Form->aX (cO r)=bs->(fy (mC (f t')) (sG (f t'))).bad=false/\(fy (mC (f t')) (sG (f t'))).l=[]/\Rp.Form ⟨row.set 9 cC,ps⟩:=by
  intro R RA row' r hx hf he;obtain⟨_,_,_,aH⟩:=o hx hf he t' hT;rw[<-eX]at aH;obtain⟨b0,b1,b2,b3,b4,b5,b6,b7⟩:=uA hx hf;rw[<-aH]at b0 b1 b2 b3 b4 b5;have hall:=Ar r.p b6 (mC (f t')) ae;rw[<-b5]at hall;rw[hall.1,b4,List.drop_length];refine⟨rfl,rfl,?_⟩;obtain⟨rows,_,ba,bb⟩:=(hI _ rfl).ps;have E:=fh.same b6 b5 b7 (fun c I=>by
   obtain⟨j,hj⟩:=N2.1 I;have bc:=(MK.1 hj).1;exact⟨_,_,(bb j _ c (ME (by rw[ba];exact bc)) hj).hd⟩) an (by rw[hps,b4])
  obtain⟨f1,f2,f3,f4,f5,f6⟩:=hf;refine⟨by rw[hG.c1,b1];exact f1,by rw[hG.c2,b2];exact f2,?_,by show ps.length<=8;rw[E];exact f4,by show ∀ c∈ps,_;rw[E];exact f5,by show sq ps<=_;rw[E];exact f6⟩;have Z:aw (row.set 9 cC) 3 6=aw r.c 3 6:=by rw[<-b3];exact hG.hs
  have Z:[cI (row.set 9 cC) 3,cI (row.set 9 cC) 4,cI (row.set 9 cC) 5,cI (row.set 9 cC) 6,cI (row.set 9 cC) 7,cI (row.set 9 cC) 8]=[cI r.c 3,cI r.c 4,cI r.c 5,cI r.c 6,cI r.c 7,cI r.c 8]:=Z;simp only[MH,MZ]at Z;show ib (row.set 9 cC);unfold ib at f3 ⊢;rw[Z.1,Z.2.1,Z.2.2.1,Z.2.2.2.1,Z.2.2.2.2.1,Z.2.2.2.2.2];exact f3
 rw[a9];refine⟨fun hok=>?_,fun ad=>bad fun R' bd row' r hx hf he=>ad ⟨(A hx hf he).1,(A hx hf he).2.1⟩⟩;rw[hW aD H,<-av,H.h 156];refine⟨⟨row,_,_,_,rfl,rfl,hI _ rfl⟩,fun v B ⟨bx,aI,_⟩=>?_⟩;have hF:=aI row _ _ _ rfl rfl (hI _ rfl);have hF:(v.b 161=true)=Rp.Form ⟨row.set 9 cC,ps⟩:=Ez (by rw[hF];simp);rw[hF];refine⟨fun bf=>bad fun R' bd row' r hx hf he=>bf (A hx hf he).2.2,fun hf=>?_⟩;intro _;have S:Agree 160 a v:=H.tr B;have aJ:TV.ev v (.tup [.agg gC,.one (.int .i64 (.lit 0))])=.tuple #[.agg row.toArray,.int .i64 0]:=by
  show Value.tuple #[.agg (gC.map (CV.ev v)).toArray,.int .i64 0]=_;rw[hW v S,<-av]
 have bg:=fR (k:=.i64) 0 (show rowOK row (ya.map kdOf)by rw[av];exact vu _ _ _ _) zzK (by rw[av];exact xq _ aB _ _);obtain⟨bh,s1,s2⟩:=bg;refine⟨[],[4],rfl,rfl,⟨bh,by rw[aJ];exact s1.symm,s2⟩,fun u bs' R' e1 U K=>?_⟩;simp only[MH,MZ]at e1 U;subst e1 U;obtain rfl:=W.uniq K;refine Or.inl ⟨row,⟨row.set 9 cC,ps⟩,aJ,?_,hf,?_⟩
 .show cM (hls [v.h 156]) (hls [v.h 156]) _ _;rw[hls_one];exact hI _ (S.h 156)
 .have hA:=FV bX hG an (fun c I=>(hf.2.2.2.2.1 c I).1) hok.1 hok.2;rw[hA,eX];exact hT.un X C aj
end Go.Proofs.YtbdikjnpbnobcaaGreatDoor
