/- RelayPlays. -/
import Derived.Test.YtomdimlnggpgbaaGreatDoorTJ
set_option linter.all false
set_option maxHeartbeats 4000000
namespace Go.Sx
open Go
def Hl.minus (H K:Hl):Hl:=fun b=>if(K b).isSome then Option.none else H b
variable {A H K a b:Hl}
def Hl.tj (H K:Hl):(H.minus K).le H:=fun b o h=>by
 unfold Hl.minus at h;split at h
 .cases h
 .exact h
def Hl.AP (H K:Hl):K.bq (H.minus K):=fun b ⟨x,y⟩=>by
 unfold Hl.mem at x y;unfold Hl.minus at y;rw[aay x]at y;cases y
def Hl.yF (h:A.le H) (d:A.bq K):A.le (H.minus K):=fun b o hb=>by
 unfold Hl.minus;have hm:A.mem b:=by unfold Hl.mem;rw[hb];rfl
 have hn:¬(K b).isSome=true:=fun hk=>d b ⟨hm,hk⟩;rw[aal hn];exact h b o hb
def Hl.Nu (h:K.le H):K.un (H.minus K)=H:=by
 funext b
 unfold Hl.un Hl.minus;cases hb:K b with
 | none=>simp
 | some o=>simp;exact(h b o hb).symm
def Hl.kZ (h:a.bq b):b.bq a:=fun k ⟨x,y⟩=>h k ⟨y,x⟩
end Go.Sx
namespace Go.Proofs.YtomdimlnggpgbaaGreatDoor
open Go Go.Sx Go.Pk
variable {B G H KB R R':Hl}{w x1:Int}{c1 i k n1 x:Nat}{st:Nat->List Pc}{a:Nat->Nat}{sv:Nat->Value}{α:Type}
def fy (st:Nat->List Pc):Int:=(((st 0).length+(st 1).length+(st 2).length+(st 3).length+(st 4).length+(st 5).length:Nat):Int)
def Dh (a:Nat->Nat) (sv:Nat->Value) (n:Int):List Value:=[.pointer (some ⟨a 0,0,none⟩),.pointer (some ⟨a 1,0,none⟩),.pointer (some ⟨a 2,0,none⟩),.pointer (some ⟨a 3,0,none⟩),.pointer (some ⟨a 4,0,none⟩),.pointer (some ⟨a 5,0,none⟩),sv 0,sv 1,sv 2,sv 3,sv 4,sv 5,.int .i64 n]
def I2 (a:Nat->Nat) (sv:Nat->Value) (n:Int) (h:i<6):(Dh a sv n)[i]?=some (.pointer (some ⟨a i,0,none⟩))/\(Dh a sv n)[6+i]?=some (sv i):=by
 have:i=0\/i=1\/i=2\/i=3\/i=4\/i=5:=ah;rcases this with rfl | rfl | rfl | rfl | rfl | rfl<;>exact⟨rfl,rfl⟩
def vk (f:Nat->α) (i:Nat) (x:α):Nat->α:=fun k=>if k=i then x else f k
def cG (f:Nat->α) (i:Nat) (x:α):vk f i x i=x:=by simp [vk]
def fi (f:Nat->α) (x:α) (h:k≠i):vk f i x k=f k:=by simp [vk,h]
def Ng (a:Nat->Nat) (sv:Nat->Value) (n:Int) (v:Value) (h:i<6):bz (Dh a sv n) (6+i) [v]=Dh a (vk sv i v) n:=by
 have:i=0\/i=1\/i=2\/i=3\/i=4\/i=5:=ah;rcases this with rfl | rfl | rfl | rfl | rfl | rfl<;>rfl
def Vs (a:Nat->Nat) (sv:Nat->Value) (n m:Int):bz (Dh a sv n) 12 [.int .i64 m]=Dh a sv m:=rfl
def DG (st:Nat->List Pc) (p:Pc) (h:i<6):fy (vk st i (st i++[p]))=fy st+1:=by
 have:i=0\/i=1\/i=2\/i=3\/i=4\/i=5:=ah;rcases this with rfl | rfl | rfl | rfl | rfl | rfl<;>(unfold fy vk;simp;omega)
def nu (st:Nat->List Pc) (i:Nat):List Hd:=(st i).map Pc.h
structure WG (H:Hl) (x:Nat) (st:Nat->List Pc) (a:Nat->Nat) (sv:Nat->Value) (Kc:Nat->Hl) (KB:Hl):Prop where
 bd:H x=some (.cells (Dh a sv (fy st)).toArray 182 (0,0))
 ch:∀ i,i<6->ir (Kc i) (a i) (i+1:Nat) (nu st i)
 le:∀ i,i<6->(Kc i).le H
 bq:∀ i j,i<6->j<6->i≠j->(Kc i).bq (Kc j)
 nox:∀ i,i<6->¬(Kc i).mem x
 row:∀ i,i<6->∃ us,aK H 46 1 (sv i) (st i).length us/\∀ (j:Nat) u p,us[j]?=some u->(st i)[j]?=some p->fC KB u p.b
 kb:KB.le H
 kbx:¬KB.mem x
 kbc:∀ i,i<6->KB.bq (Kc i)
 own:∀ i b,i<6->(sv i).ownBlock=some b->¬KB.mem b/\∀ j,j<6->¬(Kc j).mem b/\(j≠i->(sv j).ownBlock≠some b)
def sG (H:Hl) (x:Nat) (st:Nat->List Pc):Prop:=∃ a sv Kc KB,WG H x st a sv Kc KB
structure RV (R:Hl) (x:Nat) (st:Nat->List Pc) (a:Nat->Nat) (sv:Nat->Value):Prop where
 bd:R x=some (.cells (Dh a sv (fy st)).toArray 182 (0,0))
 ch:∀ i,i<6->cA R (a i) (i+1:Nat) (nu st i)
 row:∀ i,i<6->∃ us,aK R 46 1 (sv i) (st i).length us/\∀ (j:Nat) u p,us[j]?=some u->(st i)[j]?=some p->fC R u p.b
def nP (R:Hl) (x:Nat) (st:Nat->List Pc):Prop:=∃ a sv,RV R x st a sv
def sG.rd (h:sG H x st):nP H x st:=by
 obtain⟨a,sv,Kc,KB,h⟩:=h;refine⟨a,sv,h.bd,fun i hi=>⟨Kc i,h.le i hi,h.ch i hi⟩,fun i hi=>?_⟩;obtain⟨us,h1,h2⟩:=h.row i hi;exact⟨us,h1,fun j u p hu hp=>jP (h2 j u p hu hp) h.kb⟩
def cA.mono (hl:R.le R') {a:Nat} {hs:List Hd} (h:cA R a w hs):cA R' a w hs:=by
 obtain⟨K,h1,h2⟩:=h;exact⟨K,fun b o hb=>hl b o (h1 b o hb),h2⟩
def nP.mono (hl:R.le R') (h:nP R x st):nP R' x st:=by
 obtain⟨a,sv,h⟩:=h;refine⟨a,sv,hl _ _ h.bd,fun i hi=>(h.ch i hi).mono hl,fun i hi=>?_⟩;obtain⟨us,h1,h2⟩:=h.row i hi;exact⟨us,h1.mono hl,fun j u p hu hp=>jP (h2 j u p hu hp) hl⟩
def RV.cells (h:RV R x st a sv) (hi:i<6):R.cell x i=some (.pointer (some ⟨a i,0,none⟩))/\R.cell x (6+i)=some (sv i)/\R.cell x 12=some (.int .i64 (fy st)):=by
 obtain⟨e1,e2⟩:=I2 a sv (fy st) hi;refine⟨?_,?_,?_⟩
 .unfold Hl.cell;rw[h.bd];simpa using e1
 .unfold Hl.cell;rw[h.bd];simpa using e2
 .unfold Hl.cell;rw[h.bd];rfl
def WG.put {Kc:Nat->Hl} (h:WG H x st a sv Kc KB) (hi:i<6) {K':Hl} {p:Pc} {u:Value} 
 (hd:K'.bq (H.minus (Kc i))) (hc:ir K' (a i) (i+1:Nat) (nu st i++[p.h])) (hb:fC B u p.b) (hx1:-1<=x1)
 (happ:∀ xs,aK (K'.un (H.minus (Kc i))) 46 1 (sv i) (st i).length xs->aK G 46 1 (.slice (ar x1 0) n1 c1) ((st i).length+1) (xs++[u]))
 (hk:∀ b,(K'.un (H.minus (Kc i))).mem b->some b≠(sv i).ownBlock->G b=(K'.un (H.minus (Kc i))) b)
 (hnew:some x1.toNat=(sv i).ownBlock\/¬(K'.un (H.minus (Kc i))).mem x1.toNat\/x1= -1)
 (hB:((G.put x (6+i) [.slice (ar x1 0) n1 c1]).put x 12 [.int .i64 (fy st+1)]).bq B) :
 WG (((G.put x (6+i) [.slice (ar x1 0) n1 c1]).put x 12 [.int .i64 (fy st+1)]).un B) x (vk st i (st i++[p])) a (vk sv i (.slice (ar x1 0) n1 c1)) (vk Kc i K') (KB.un B):=by
 generalize hH2:K'.un (H.minus (Kc i))=H2 at *;have lM:(H.minus (Kc i)).le H2:=by
  rw[<-hH2];exact Hl.bj hd
 have lK:K'.le H2:=by
  rw[<-hH2];exact Hl.aX _ _
 have xM:(H.minus (Kc i)).mem x:=Hl.bZ (Hl.yF (A:=Hl.one x (.cells (Dh a sv (fy st)).toArray 182 (0,0))) (fun b o hb=>by
  unfold Hl.one at hb;split at hb
  .rename_i e;subst e;cases hb;exact h.bd
  .cases hb) (Hl.fE.2 (h.nox i hi))) (Hl.mem_of (Hl.aN _ _))
 have hxM:(H.minus (Kc i)) x=some (.cells (Dh a sv (fy st)).toArray 182 (0,0)):=by
  obtain⟨o,ho⟩:=abe.1 xM;have:=Hl.tj H (Kc i) x o ho;rw[h.bd]at this;cases this;exact ho
 have lKc:∀ j,j<6->j≠i->(Kc j).le (H.minus (Kc i)):=fun j hj hne=>Hl.yF (h.le j hj) (h.bq j i hj hi hne);have lKB:KB.le (H.minus (Kc i)):=Hl.yF h.kb (h.kbc i hi);have ownM:∀ j b,j<6->(sv j).ownBlock=some b->∃ c,(H.minus (Kc i)) b=some (.cells c 46 (0,0)):=fun j b hj hb=>by
  obtain⟨us,h1,_⟩:=h.row j hj;obtain⟨c,hcb⟩:=h1.type hb;refine⟨c,?_⟩;unfold Hl.minus;have:=((h.own j b hj hb).2 i hi).1;unfold Hl.mem at this;rw[aal this];exact hcb
 have ownx:∀ j b,j<6->(sv j).ownBlock=some b->b≠x:=fun j b hj hb e=>by
  subst e;obtain⟨c,hcb⟩:=ownM j _ hj hb;rw[hxM]at hcb;simp at hcb
 have xne:some x≠(sv i).ownBlock:=fun e=>ownx i x hi e.symm rfl;have keepx:G x=some (.cells (Dh a sv (fy st)).toArray 182 (0,0)):=by
  rw[hk x (Hl.bZ lM xM) xne];exact lM _ _ hxM
 have lG:∀ {A:Hl},A.le H2->(∀ b,(sv i).ownBlock=some b->¬A.mem b)->A.le G:=fun {A} hA hn b o hb=>by
  rw[hk b (Hl.bZ hA (Hl.mem_of hb)) fun e=>hn b e.symm (Hl.mem_of hb)];exact hA b o hb
 have nK:∀ b,(sv i).ownBlock=some b->¬K'.mem b:=fun b hb hm=>by
  obtain⟨c,hcb⟩:=ownM i b hi hb;exact hd b ⟨hm,Hl.mem_of hcb⟩
 have xK:¬K'.mem x:=fun hm=>hd x ⟨hm,xM⟩;have xGB:((G.put x (6+i) [.slice (ar x1 0) n1 c1]).put x 12 [.int .i64 (fy st+1)]) x=some (.cells (Dh a (vk sv i (.slice (ar x1 0) n1 c1)) (fy st+1)).toArray 182 (0,0)):=by
  rw[Hl.r8 (Hl.r8 keepx)];simp only[acy];rw[Ng _ _ _ _ hi,Vs]
 have dG:∀ b,G.mem b->¬B.mem b:=fun b h1 h2=>hB b ⟨Hl.gP.2 (Hl.gP.2 h1),h2⟩;have put2:∀ b o,b≠x->G b=some o->(((G.put x (6+i) [.slice (ar x1 0) n1 c1]).put x 12 [.int .i64 (fy st+1)]).un B) b=some o:=fun b o hb hg=>Hl.aX _ _ b o (by rw[Hl.pR hb,Hl.pR hb];exact hg);have leF:∀ {A:Hl},A.le G->¬A.mem x->A.le (((G.put x (6+i) [.slice (ar x1 0) n1 c1]).put x 12 [.int .i64 (fy st+1)]).un B):=fun hA hx b o hb=>Hl.aX _ _ b o (Hl.yG (Hl.yG hA hx) hx b o hb);have lKG:K'.le G:=lG lK nK;have lBG:KB.le G:=lG (fun b o hb=>lM _ _ (lKB b o hb)) fun b hb=>(h.own i b hi hb).1;have lCG:∀ j,j<6->j≠i->(Kc j).le G:=fun j hj e=>lG (fun b o hb=>lM _ _ (lKc j hj e b o hb)) fun b hb=>((h.own i b hi hb).2 j hj).1;have xB:¬B.mem x:=dG x (Hl.mem_of keepx);have xKBB:¬(KB.un B).mem x:=fun hm=>(Hl.cE.1 hm).elim h.kbx xB;have lKBB:(KB.un B).le (((G.put x (6+i) [.slice (ar x1 0) n1 c1]).put x 12 [.int .i64 (fy st+1)]).un B):=fun b o hb=>by
  unfold Hl.un at hb;cases hq:KB b with
  | some o'=>rw[hq]at hb;cases hb;exact leF lBG h.kbx _ _ hq
  | none=>rw[hq]at hb;exact Hl.bj hB b o hb
 obtain⟨us,ho,hus⟩:=h.row i hi;have hoM:aK H2 46 1 (sv i) (st i).length us:=ho.at fun b hb=>by
  obtain⟨c,hcb⟩:=ownM i b hi hb;rw[lM _ _ hcb];exact(Hl.tj H (Kc i) _ _ hcb).symm
 have hoG:=happ us hoM;have newx:∀ b,(Value.slice (ar x1 0) n1 c1).ownBlock=some b->b=x1.toNat/\x1≠ -1:=fun b hb=>by
  rcases abp x1 0 with hlt | h0
  .rw[show x1= -1 by omega,dr]at hb;cases hb
  .rw[al h0]at hb;have:x1.toNat=b:=by simpa [Value.ownBlock] using hb
   exact⟨this.symm,ah⟩
 have newn:∀ {A:Hl},A.le H2->(∀ b,(sv i).ownBlock=some b->¬A.mem b)->∀ b,(Value.slice (ar x1 0) n1 c1).ownBlock=some b->¬A.mem b:=fun {A} hA hn b hb hm=>by
  obtain⟨rfl,hne⟩:=newx b hb;rcases hnew with h1 | h1 | h1
  .exact hn _ h1.symm hm
  .exact h1 (Hl.bZ hA hm)
  .exact hne h1
 have newo:∀ j b,j<6->j≠i->(Value.slice (ar x1 0) n1 c1).ownBlock=some b->(sv j).ownBlock≠some b:=fun j b hj hji hb e=>by
  obtain⟨rfl,hne⟩:=newx b hb;rcases hnew with h1 | h1 | h1
  .exact((h.own i _ hi h1.symm).2 j hj).2 hji e
  .obtain⟨c,hcb⟩:=ownM j _ hj e;exact h1 (Hl.bZ lM (Hl.mem_of hcb))
  .exact hne h1
 have newxx:∀ b,(Value.slice (ar x1 0) n1 c1).ownBlock=some b->b≠x:=fun b hb e=>by
  subst e;obtain⟨c,hcb⟩:=hoG.type hb;rw[keepx]at hcb;simp at hcb
 refine⟨?_,fun j hj=>?_,fun j hj=>?_,fun j k hj hk' hjk=>?_,fun j hj=>?_,fun j hj=>?_,lKBB,xKBB,fun j hj=>?_,fun j b hj hb=>?_⟩
 .rw[DG _ _ hi];exact Hl.aX _ _ _ _ xGB
 .by_cases e:j=i
  .subst e;rw[cG];unfold nu;rw[cG,aaK];exact hc
  .rw[fi _ _ e];unfold nu;rw[fi _ _ e];exact h.ch j hj
 .by_cases e:j=i
  .subst e;rw[cG];exact leF lKG xK
  .rw[fi _ _ e];exact leF (lCG j hj e) (h.nox j hj)
 .by_cases e:j=i
  .subst e;rw[cG,fi _ _ (Ne.symm hjk)];exact Hl.xV hd (lKc k hk' (Ne.symm hjk))
  .by_cases e2:k=i
   .subst e2;rw[cG,fi _ _ e];exact Hl.kZ (Hl.xV hd (lKc j hj e))
   .rw[fi _ _ e,fi _ _ e2];exact h.bq j k hj hk' hjk
 .by_cases e:j=i
  .subst e;rw[cG];exact xK
  .rw[fi _ _ e];exact h.nox j hj
 .by_cases e:j=i
  .subst e;rw[cG,cG,aac];refine⟨us++[u],hoG.at fun b hb=>(by obtain⟨cc,hcc⟩:=hoG.type hb;rw[hcc];exact put2 b _ (newxx b hb) hcc),fun k v q hv hq=>?_⟩;have hl:us.length=(st j).length:=by have:=ho.1;omega
   rcases aa5 k us.length with qv | qv
   .rw[aaC qv]at hv;rw[aaC ah]at hq;exact jP (hus k v q hv hq) (Hl.aX _ _)
   .rw[aav qv]at hv;rw[aav ah]at hq;have hv:=aae hv;have hq:=aae hq;rw[aam]at hv hq;subst hv;subst hq;exact jP hb (Hl.bj fun b ⟨y,z⟩=>dG b (Hl.bZ lBG y) z)
  .rw[fi _ _ e,fi _ _ e];obtain⟨vs,h1,h2⟩:=h.row j hj;refine⟨vs,h1.at fun b hb=>?_,fun k v q hv hq=>jP (h2 k v q hv hq) (Hl.aX _ _)⟩;obtain⟨c,hcb⟩:=ownM j b hj hb;rw[Hl.tj H (Kc i) _ _ hcb];refine put2 b _ (ownx j b hj hb) ?_;rw[hk b (Hl.bZ lM (Hl.mem_of hcb)) fun e'=>((h.own i b hi e'.symm).2 j hj).2 e hb,lM _ _ hcb]
 .by_cases e:j=i
  .subst e;rw[cG];exact fun b ⟨y,z⟩=>(Hl.cE.1 y).elim (fun y=>hd b ⟨z,Hl.bZ lKB y⟩) (fun y=>dG b (Hl.bZ lKG z) y)
  .rw[fi _ _ e];exact fun b ⟨y,z⟩=>(Hl.cE.1 y).elim (fun y=>h.kbc j hj b ⟨y,z⟩) (fun y=>dG b (Hl.bZ (lCG j hj e) z) y)
 .by_cases e:j=i
  .subst e;rw[cG]at hb;refine⟨fun hm=>(Hl.cE.1 hm).elim (newn (fun b o hb=>lM _ _ (lKB b o hb)) (fun b hb=>(h.own j b hi hb).1) b hb) (fun y=>by obtain⟨cc,hcc⟩:=hoG.type hb;exact dG b (Hl.mem_of hcc) y),fun k hk'=>?_⟩;by_cases e2:k=j
   .subst e2;rw[cG];exact⟨newn lK nK b hb,fun h=>absurd rfl h⟩
   .rw[fi _ _ e2,fi _ _ e2];exact⟨newn (fun b o hb=>lM _ _ (lKc k hk' e2 b o hb)) (fun b hb=>((h.own j b hi hb).2 k hk').1) b hb,fun _=>newo k b hk' e2 hb⟩
  .rw[fi _ _ e]at hb;obtain⟨c,hcb⟩:=ownM j b hj hb;refine⟨fun hm=>(Hl.cE.1 hm).elim (h.own j b hj hb).1 (fun y=>dG b (by
    have e1:G b=some (.cells c 46 (0,0)):=by rw[hk b (Hl.bZ lM (Hl.mem_of hcb)) fun e'=>((h.own i b hi e'.symm).2 j hj).2 e hb,lM _ _ hcb]
    exact Hl.mem_of e1) y),fun k hk'=>?_⟩
   by_cases e2:k=i
   .subst e2;rw[cG,cG];exact⟨fun hm=>hd b ⟨hm,Hl.mem_of hcb⟩,fun _ e3=>newo j b hj e e3 hb⟩
   .rw[fi _ _ e2,fi _ _ e2];exact(h.own j b hj hb).2 k hk'
end Go.Proofs.YtomdimlnggpgbaaGreatDoor
namespace Go.Sx
open Go
def lu:∀ {l:List Hl} (_:∀ (p q:Nat) A B,p≠q->l[p]?=some A->l[q]?=some B->A.bq B) {i:Nat} {A:Hl},l[i]?=some A->A.le (cu l)
 | [],_,_,_,h=>by simp at h
 | B::l,hd,0,A,h=>by
  simp only[aa7,aak]at h;subst h;exact Hl.aX _ _
 | B::l,hd,i+1,A,h=>by
  have ih:=lu (l:=l) (fun p q A B hpq ha hb=>hd (p+1) (q+1) A B ah (by simpa using ha) (by simpa using hb)) (i:=i) (A:=A) (by simpa using h);have hB:B.bq (cu l):=fun b ⟨x,y⟩=>by
   obtain⟨C,hC,hb⟩:=s9.1 y;obtain⟨j,hj⟩:=aaY hC;exact hd 0 (j+1) B C ah rfl (by simpa using hj) b ⟨x,hb⟩
  exact fun b o hb=>Hl.bj hB b o (ih b o hb)
end Go.Sx
namespace Go.Proofs.YtomdimlnggpgbaaGreatDoor
open Go Go.Sx Go.Pk
variable {a:Act}{q:Env}{h:Hd}{F R:Hl}{I:List Pc->World->Prop}{row:List Value}{N b1 b2 dn i k n x:Nat}{st':Nat->List Pc}{a' cur:Nat->Nat}{y:Value}{W W0 w:World}
def IZ:Sx.Spec where
 fn:=96
 own:=[]
 rd:=[]
 res:=[.one .ptr]
 pre:=fun xs Hs Rs=>xs=[]
 post:=fun xs Hs Rs v Hs' F=>∃ x:Nat,v=.pointer (some ⟨x,0,none⟩)/\sG F x (fun _=>[])
def Vr:List Sx.Spec:=[FF]
def S7:∀ t∈Vr,t.OK Tryz.prog:=fun t ht=>by
 rw[Vr,aam]at ht;subst ht;exact OY
def X9:FF.res=[.one .ptr]:=rfl
def RK (n:Nat):(aT n [Cp.one .ptr]≠[])=True:=by simp [aT,Cp.roots,Ck.root]
def Rq:aF Tryz.prog Vr IZ.fn where
 Λ:=aD
 args:=[]
 mem:=[]
 nv:=0
def nM {w:Int} {x y:Int} {K:List Hl} (hp:FF.post [.int .i64 w] [] [] (.pointer (ar x y)) K F) (hx:-1<=x) (hy:0<=y):0<=x/\ar x y=some ⟨x.toNat,0,none⟩/\ir F x.toNat w []:=by
 obtain⟨b,e,h⟩:=hp w rfl;rcases abp x 0 with hlt | h0
 .rw[show x= -1 by omega,dr]at e;cases e
 .rw[al h0]at e ⊢;simp only[Value.pointer.injEq,aak,Addr.mk.injEq,aau]at e;obtain⟨e1,e2⟩:=e;rw[<-e1]at h;refine⟨h0,?_,h⟩;rw[e2]
def M5:IZ.OK Tryz.prog:=by
 refine Spec.aV (Γ:=Vr) S7 ?_;rintro xs Hs Rs hl1 hl2 rfl;have e0:Hs=[]:=aad.1 hl1;have e1:Rs=[]:=aad.1 hl2;subst e0 e1;refine⟨Rq,aQ [] false [],fun _ _=>True,fun _ _=>0,rfl,cD (by intro r hr;simp [Rq]at hr) rfl,(fun _ h=>nomatch h),?_⟩;refine aF.read [] [] [] ?_;generalize aQ [] false []=J;simp only[go_sem,Nat.reduceAdd,Vr,X9,RK];intro q0 g0 p0;refine⟨⟨1,rfl⟩,fun q1 g1 ⟨F1,a1,b1,n1⟩=>⟨⟨2,rfl⟩,fun q2 g2 ⟨F2,a2,b2,n2⟩=>⟨⟨3,rfl⟩,fun q3 g3 ⟨F3,a3,b3,n3⟩=>⟨⟨4,rfl⟩,fun q4 g4 ⟨F4,a4,b4,n4⟩=>⟨⟨5,rfl⟩,fun q5 g5 ⟨F5,a5,b5,n5⟩=>⟨⟨6,rfl⟩,fun q6 g6 ⟨F6,a6,b6,n6⟩=>?_⟩⟩⟩⟩⟩⟩;obtain⟨m1,c1,d1⟩:=nM a1 n1.1.1 n1.1.2;obtain⟨m2,c2,d2⟩:=nM a2 n2.1.1 n2.1.2;obtain⟨m3,c3,d3⟩:=nM a3 n3.1.1 n3.1.2;obtain⟨m4,c4,d4⟩:=nM a4 n4.1.1 n4.1.2;obtain⟨m5,c5,d5⟩:=nM a5 n5.1.1 n5.1.2;obtain⟨m6,c6,d6⟩:=nM a6 n6.1.1 n6.1.2;have b1:=b1 trivial;have b2:=b2 trivial;have b3:=b3 trivial;have b4:=b4 trivial;have b5:=b5 trivial;have b6:=b6 trivial;have A5:ai 11 q5 q6:=g6;have A4:ai 9 q4 q6:=g5.tr A5;have A3:ai 7 q3 q6:=g4.tr A4;have A2:ai 5 q2 q6:=g3.tr A3;have A1:ai 3 q1 q6:=g2.tr A2;rw[<-b1,<-A1.i 1,<-A1.h 1]at d1;rw[<-b2,<-A2.i 3,<-A2.h 3]at d2;rw[<-b3,<-A3.i 5,<-A3.h 5]at d3;rw[<-b4,<-A4.i 7,<-A4.h 7]at d4;rw[<-b5,<-A5.i 9,<-A5.h 9]at d5;rw[<-b6]at d6;rw[<-A1.i 1,<-A1.i 2]at c1;rw[<-A2.i 3,<-A2.i 4]at c2;rw[<-A3.i 5,<-A3.i 6]at c3;rw[<-A4.i 7,<-A4.i 8]at c4;rw[<-A5.i 9,<-A5.i 10]at c5;have p0:0<=q6.i 0:=by rw[A1.i 0,g1.i 0];exact p0
 intro hdis;generalize hm:([bm.bd 0 (ak 1 (List.replicate 6 Ck.ptr)++[.sl (.lit (-1)) (.lit 0) (.lit 0) (.lit 0),.sl (.lit (-1)) (.lit 0) (.lit 0) (.lit 0),.sl (.lit (-1)) (.lit 0) (.lit 0) (.lit 0),.sl (.lit (-1)) (.lit 0) (.lit 0) (.lit 0),.sl (.lit (-1)) (.lit 0) (.lit 0) (.lit 0),.sl (.lit (-1)) (.lit 0) (.lit 0) (.lit 0),.int .i64 (.lit 0)]) 182,.hp 1 [] [.var 1] [],.hp 3 [] [.var 3] [],.hp 5 [] [.var 5] [],.hp 7 [] [.var 7] [],.hp 9 [] [.var 9] [],.hp 11 [] [.var 11] []]:Mem)=mem at *;have hown:∀ r∈mem,r.own=true:=by rw[<-hm];intro r hr;simp at hr;rcases hr with rfl | rfl | rfl | rfl | rfl | rfl | rfl<;>rfl
 have hl:mem.map (bm.hl q6)=[Hl.one (q6.i 0).toNat (.cells (Dh (fun i=>([q6.i 1,q6.i 3,q6.i 5,q6.i 7,q6.i 9,q6.i 11].getD i 0).toNat) (fun _=>.slice none 0 0) 0).toArray 182 (0,0)),q6.h 1,q6.h 3,q6.h 5,q6.h 7,q6.h 9,q6.h 11]:=by
  rw[<-hm];have:Hl.one (q6.i 0).toNat (.cells #[.pointer (ar (q6.i 1) (q6.i 2)),.pointer (ar (q6.i 3) (q6.i 4)),.pointer (ar (q6.i 5) (q6.i 6)),.pointer (ar (q6.i 7) (q6.i 8)),.pointer (ar (q6.i 9) (q6.i 10)),.pointer (ar (q6.i 11) (q6.i 12)),.slice none 0 0,.slice none 0 0,.slice none 0 0,.slice none 0 0,.slice none 0 0,.slice none 0 0,.int .i64 0] 182 (0,0))=Hl.one (q6.i 0).toNat (.cells (Dh (fun i=>([q6.i 1,q6.i 3,q6.i 5,q6.i 7,q6.i 9,q6.i 11].getD i 0).toNat) (fun _=>.slice none 0 0) 0).toArray 182 (0,0)):=by
   rw[c1,c2,c3,c4,c5,c6];rfl
  rw[<-this];rfl
 have hdl:∀ (p q:Nat) A B,p≠q->(mem.map (bm.hl q6))[p]?=some A->(mem.map (bm.hl q6))[q]?=some B->A.bq B:=by
  intro p q A B hpq ha hb;rw[aao]at ha hb;obtain⟨r,hr,rfl⟩:=aai.1 ha;obtain⟨s,hs,rfl⟩:=aai.1 hb;exact hdis p q r s hpq hr hs (hown r (aae hr))
 rw[hl]at hdl;have hK:∀ i,i<6->([Hl.one (q6.i 0).toNat (.cells (Dh (fun i=>([q6.i 1,q6.i 3,q6.i 5,q6.i 7,q6.i 9,q6.i 11].getD i 0).toNat) (fun _=>.slice none 0 0) 0).toArray 182 (0,0)),q6.h 1,q6.h 3,q6.h 5,q6.h 7,q6.h 9,q6.h 11])[i+1]?=some ([q6.h 1,q6.h 3,q6.h 5,q6.h 7,q6.h 9,q6.h 11].getD i Hl.none):=fun i hi=>by
  have:i=0\/i=1\/i=2\/i=3\/i=4\/i=5:=ah;rcases this with rfl | rfl | rfl | rfl | rfl | rfl<;>rfl
 have hF:ue q6 mem [0,1,2,3,4,5,6]=cu (mem.map (bm.hl q6)):=by rw[<-hm];rfl
 refine⟨[],[0,1,2,3,4,5,6],rfl,by rw[<-hm];rfl,⟨(bh fun k=>if k=0 then q6.i 0 else 0),rfl,⟨by show -1<=q6.i 0;omega,aar 0⟩,zzT⟩,(q6.i 0).toNat,?_,?_⟩
 .show Value.pointer (ar (q6.i 0) 0)=_;rw[al p0];rfl
 rw[hF,hl];refine⟨_,_,fun i=>[q6.h 1,q6.h 3,q6.h 5,q6.h 7,q6.h 9,q6.h 11].getD i Hl.none,Hl.none,Hl.aX _ _ _ _ (Hl.aN _ _),fun i hi=>?_,fun i hi=>lu hdl (hK i hi),fun i j hi hj hij=>hdl (i+1) (j+1) _ _ ah (hK i hi) (hK j hj),fun i hi=>Hl.fE.1 (hdl 0 (i+1) _ _ ah rfl (hK i hi)),fun i hi=>⟨[],⟨rfl,Or.inl ⟨rfl,rfl⟩⟩,fun j u p h=>by simp at h⟩,(fun _ _ h=>by cases h),(fun h=>by cases h),(fun i hi b ⟨h,_⟩=>by cases h),(fun i b _ h=>by cases h)⟩;have:i=0\/i=1\/i=2\/i=3\/i=4\/i=5:=ah;rcases this with rfl | rfl | rfl | rfl | rfl | rfl
 .exact d1
 .exact d2
 .exact d3
 .exact d4
 .exact d5
 .exact d6
def Zz (h:bf row mP):row=row.take 125++[row.getD 125 Ct]:=by
 have hl:=fj h;rw[fY]at hl;apply aaN;intro k;rcases aa5 k 125 with hk | hk
 .rw[aaC (by rw[aaA];omega),aa2,aay hk]
 .rw[aav (by rw[aaA];omega),aaA,hl];rcases aa5 k 126 with bU | bU
  .have:k=125:=ah;subst this;show _=some (row.getD 125 Ct);rw[aap,aab ah];rfl
  .rw[aas ah,aas (by simp;omega)]
def CA {a:Int} (hs:List (Nat×Hl)) (h:bf row mP):∃ q:Env,q.i 0=a/\row=(ak 1 gJ).map (CV.ev q)/\(∀ k,q.h k=uD hs k)/\bu 1 gJ q:=by
 obtain⟨q,g,hn,e⟩:=cU gJ 1 row (bh fun _=>a) h;exact⟨⟨q.i,q.b,q.s,q.v,uD hs⟩,g.i 0,by rw[<-Mt (uD hs)];exact e.symm,fun _=>rfl,NG _ _ _ hn⟩
set_option maxRecDepth 20000 in
def NT (n:Nat):ak n gJ=ak n bU++[.sl (.var (n+128)) (.var (n+128+1)) (.var (n+128+2)) (.var (n+128+3))]:=by
 have:∀ (a b:List Ck) (n:Nat),ak n (a++b)=ak n a++ak (n+bc a) b:=by
  intro a
  induction a with
  | nil=>intro b n;simp [ak,bc]
  | cons k a ih=>intro b n;rw[acv,ak,ak,ih,acv];simp [bc,abL]
 rw[gJ,this];rfl
set_option maxRecDepth 20000 in
def oy (q:Env) (n:Nat):((ak n gJ).map (CV.ev q)).take 125=(ak n bU).map (CV.ev q):=by
 rw[NT,aaK];exact aco (by rw[aaw];rfl)
set_option maxRecDepth 20000 in
def Cz (q:Env) (n:Nat):((ak n gJ).map (CV.ev q)).getD 125 Ct=.slice (ar (q.i (n+128)) (q.i (n+128+1))) (q.i (n+128+2)).toNat (q.i (n+128+3)).toNat:=by
 have hl:((ak n bU).map (CV.ev q)).length=125:=by rw[aaw];rfl
 rw[NT,aaK,aap,aav ah,hl];rfl
def zZ (hx:bS R row h) (bs:List Int):fa row bs=fa h.c bs:=by
 unfold fa;rw[hx.I (k:=92) aA];have:ba h.c 60 32=ba row 60 32:=by
  unfold ba;refine abf fun j hj=>hx.I ?_;have:=aaP.1 hj;omega
 rw[this]
open Classical in
noncomputable def bK (st:Nat->List Pc) (p:Pc):Int :=
 if ¬p.h.Form then 1
 else if gu (cI p.h.c 0) (nu st (cI p.h.c 0-1).toNat) p.h≠0 then gu (cI p.h.c 0) (nu st (cI p.h.c 0-1).toNat) p.h
 else if fa p.h.c p.b=false then 2 else if 400<=fy st then 4 else 0
def RV.Y9 {st:Nat->List Pc} {a:Nat->Nat} {sv sv':Nat->Value} (h:RV R x st a sv) (h':RV R x st' a' sv') (hi:i<6):st i=st' i:=by
 obtain⟨e1,e2,_⟩:=h.cells hi;obtain⟨f1,f2,_⟩:=h'.cells hi;rw[e1]at f1;rw[e2]at f2;simp only[aak,Value.pointer.injEq,Addr.mk.injEq,aau]at f1 f2;have c1:=h.ch i hi;have c2:=h'.ch i hi;rw[f1]at c1;have eh:=(c1.uniq c2).2;obtain⟨us,o1,b1⟩:=h.row i hi;obtain⟨vs,o2,b2⟩:=h'.row i hi;rw[f2]at o1;obtain⟨el,eu⟩:=o1.inj o2;subst eu;apply abO el;intro j h1 h2;have hul:j<us.length:=by have:=o1.1;omega
 have hu:us[j]?=some us[j]:=aab hul;have p1:=b1 j _ _ hu (aab h1);have p2:=b2 j _ _ hu (aab h2);have eb:=p1.uniq p2;have ehh:(st i)[j].h=(st' i)[j].h:=by
  have:=aaQ (fun l=>l[j]?) eh;simpa [nu,aao,h1,h2] using this
 generalize (st i)[j]=x at *;generalize (st' i)[j]=y at *;cases x;cases y;simp only at eb ehh;rw[eb,ehh]
def nP.st {st:Nat->List Pc} (h:nP R x st) (h':nP R x st') (hi:i<6):st i=st' i:=by
 obtain⟨a,sv,h⟩:=h;obtain⟨a',sv',h'⟩:=h';exact h.Y9 h' hi
def Gm {st:Nat->List Pc} (h:∀ i,i<6->st i=st' i):fy st=fy st':=by
 unfold fy;rw[h 0 ah,h 1 ah,h 2 ah,h 3 ah,h 4 ah,h 5 ah]
def yn (hF:h.Form):1<=cI h.c 0/\cI h.c 0<=6:=hF.1.1
def py {st:Nat->List Pc} (h:∀ i,i<6->st i=st' i) (p:Pc):bK st p=bK st' p:=by
 unfold bK;rw[Gm h];by_cases hF:p.h.Form
 .have:=yn hF;unfold nu;rw[h (cI p.h.c 0-1).toNat ah]
 .rw[aay hF,aay hF]
def xg:Sx.Spec where
 fn:=70
 own:=[]
 rd:=[0]
 res:=[.one (.int .i64)]
 pre:=fun xs Hs Rs=>∃ x R st,xs=[.pointer (some ⟨x,0,none⟩)]/\Rs=[R]/\nP R x st
 post:=fun xs Hs Rs v Hs' F=>∀ x R st,xs=[.pointer (some ⟨x,0,none⟩)]->Rs=[R]->nP R x st->v=.int .i64 (fy st)
def IU:aF Tryz.prog [] xg.fn where
 Λ:=aD
 args:=[TP (.var 0) (.lit 0)]
 mem:=[.ro 1 [.var 0] true]
 nv:=2
def GG:xg.OK Tryz.prog:=by
 refine Spec.aV (Γ:=[]) (fun _ h=>by cases h) ?_;rintro xs Hs Rs hl1 hl2 ⟨x,R,st,rfl,rfl,hI⟩;have e0:Hs=[]:=aad.1 hl1;subst e0;refine⟨IU,aQ [x] false [Hl.none,R],fun _ _=>True,fun _ _=>0,?_,cD (by intro r hr;simp [IU]at hr;subst hr;exact⟨_,_,_,rfl⟩) rfl,(fun _ h=>nomatch h),?_⟩
 .show [Value.pointer (ar (x:Int) 0)]=_;rw[al ah];rfl
 .refine aF.read [] [] [] ?_;generalize hρ:aQ [(x:Int)] false [Hl.none,R]=J;have v0:J.i 0=x:=by rw[<-hρ];rfl
  have w1:J.h 1=R:=by rw[<-hρ];rfl
  simp only[go_sem,Nat.reduceAdd];rw[v0,w1];obtain⟨a,sv,hR⟩:=id hI;obtain⟨_,_,e12⟩:=hR.cells (i:=0) ah;have e12:R.cell ((x:Int)).toNat (Int.toNat 12)=some (.int .i64 (fy st)):=by rw[aaa];exact e12
  rw[e12];refine⟨ah,rfl,pw rfl (z:=fy st) ?_ fun F x' R' st' h1 h2 h'=>?_⟩
  .show bV ((J.h 1).cell (J.i 0).toNat (Int.toNat 12+0))=_;rw[v0,w1,aa3,e12];rfl
  .simp only[aag,aau,Value.pointer.injEq,aak,Addr.mk.injEq]at h1 h2;subst h1 h2;rw[Gm fun i hi=>hI.st h' hi]
def oJ (st:Nat->List Pc):Prop:=∀ i,i<6->(st i).length<1000000
noncomputable def yw:Sx.Spec where
 fn:=105
 own:=[]
 rd:=[0,1001053,1001125,2000005]
 res:=[.one (.int .i64)]
 pre:=fun xs Hs Rs=>∃ x R st row T B RG p,xs=[.pointer (some ⟨x,0,none⟩),.agg row.toArray]/\Rs=[R,T,B,RG]/\nP R x st/\oJ st/\dz T B row p/\p.b.length<=900000/\uf RG 5
 post:=fun xs Hs Rs v Hs' F=>∀ x R st row T B RG p,xs=[.pointer (some ⟨x,0,none⟩),.agg row.toArray]->Rs=[R,T,B,RG]->nP R x st->dz T B row p->v=.int .i64 (bK st p)
noncomputable def WU:List Sx.Spec:=[hZ 117,xN,Db]
def SZ:∀ t∈WU,t.OK Tryz.prog:=av qt <| av DF <| av LJ <| bN
def X7:xN.res=[.one (.int .i64)]:=rfl
def X8:Db.res=[.one .bool]:=rfl
noncomputable def Rn:aF Tryz.prog WU yw.fn where
 Λ:=aD
 args:=TP (.var 0) (.lit 0)::(bW 1 [.agg xc]).map .sv
 mem:=[.ro 133 [.var 0] true,.ro 134 [.var 54] false,.ro 135 [.var 129] false,.ro 136 [.lit 5] false]
 nv:=137
open Classical in
set_option maxRecDepth 20000 in
def Ee:yw.OK Tryz.prog:=by
 refine Spec.aV (Γ:=WU) SZ ?_;rintro xs Hs Rs hl1 hl2 ⟨x,R,st,row,T,B,RG,p,rfl,rfl,hI,hS,hx,hlen,hKat⟩;have e0:Hs=[]:=aad.1 hl1;subst e0;obtain⟨J,va,rfl,hh,hnw⟩:=CA (a:=(x:Int)) [(133,R),(134,T),(135,B),(136,RG)] hx.ok;have w1:J.h 133=R:=hh 133;have w2:J.h 134=T:=hh 134;have w3:J.h 135=B:=hh 135;have w4:J.h 136=RG:=hh 136;refine⟨Rn,J,fun _ _=>True,fun _ _=>0,?_,cD (by intro r hr;simp [Rn]at hr;rcases hr with rfl | rfl | rfl | rfl<;>exact⟨_,_,_,rfl⟩) (by show [J.h 133,J.h 134,J.h 135,J.h 136]=_;rw[w1,w2,w3,w4]),(fun _ h=>nomatch h),?_⟩
 .show [Value.pointer (ar (J.i 0) 0),.agg ((ak 1 gJ).map (CV.ev J)).toArray]=_;rw[va,al ah];rfl
 refine aF.read [bU,xc] [] [] ?_;simp only[go_sem,Nat.reduceAdd,WU,Sv,X7,X8];generalize hrow0:(ak 1 gJ).map (CV.ev J)=row at *;have ht0:(ak 1 bU).map (CV.ev J)=row.take 125:=by rw[<-hrow0,oy]
 have V:∀ q:Env,ai 137 J q->q.i 0=x/\q.h 133=R/\q.h 134=T/\q.h 135=B/\q.h 136=RG/\(ak 1 bU).map (CV.ev q)=row.take 125/\(ak 1 xc).map (CV.ev q)=row/\q.i 1=J.i 1:=fun q g=>by
  refine⟨by rw[g.i 0,va],by rw[g.h 133,w1],by rw[g.h 134,w2],by rw[g.h 135,w3],by rw[g.h 136,w4],?_,?_,g.i 1⟩
  .rw[<-ht0];exact aaQ Array.toList (Value.agg.inj (fS (ks:=bU) (n:=1) g aA))
  .rw[<-hrow0];exact aaQ Array.toList (Value.agg.inj (fS (ks:=gJ) (n:=1) g aA))
 obtain⟨a,sv,hR⟩:=id hI;have hbody:row=row.take 125++[row.getD 125 Ct]:=Zz hx.ok;have hd:=hx.hd;have hw1:cI p.h.c 0=J.i 1:=by
  have e1:cI p.h.c 0=cI (row.take 125) 0:=hd.I aA;rw[e1,<-ht0];rfl
 have out:∀ {q:Env} {mem:Mem} {e:E},az q e=bK st p->postOf yw [.pointer (some ⟨x,0,none⟩),.agg row.toArray] [] [R,T,B,RG] q mem (.sv (.one (.int .i64 e))):=fun {q mem e} he =>
  pw rfl he fun F x' R' st' row' T' B' RG' p' e1 e2 h' hx'=>by
   simp only[aag,aau,Value.pointer.injEq,aak,Addr.mk.injEq,Value.agg.injEq]at e1 e2;obtain⟨rfl,e1⟩:=e1;obtain⟨rfl,rfl,rfl,rfl⟩:=e2;have e1:=aaO e1;subst e1;obtain rfl:=hx.uniq hx';rw[py (fun i hi=>hI.st h' hi) p]
 intro q1 g1 p1;obtain⟨v0,x1,x2,x3,x4,xr,xr2,_⟩:=V q1 g1;rw[xr,x2];refine⟨⟨_,T,p.h,rfl,rfl,hd⟩,fun q2 g2 ⟨F2,hp2,_⟩=>?_⟩;have G2:ai 137 J q2:=g1.tr g2;have hb2:q2.b 138=decide p.h.Form:=Value.bool.inj (ng hd hp2);obtain⟨y0,y1,y2,y3,y4,yr,yr2,y5⟩:=V q2 G2;refine⟨fun hb=>out ?_,fun hb=>?_⟩
 .have hF:¬p.h.Form:=by rw[hb2]at hb;simpa using hb
  unfold bK;rw[aay hF];rfl
 have hF:p.h.Form:=by rw[hb2]at hb;simpa using hb
 have hFn:¬¬p.h.Form:=fun g=>g hF;have hw:=yn hF;have hw2:IntKind.i64.wrap (J.i 1-1)=((cI p.h.c 0-1).toNat:Nat):=by rw[hw1,IntKind.wrap_i64];rw[hw1]at hw;omega
 generalize hi:(cI p.h.c 0-1).toNat=i at *;have hi6:i<6:=ah;have hwi:cI p.h.c 0=((i+1:Nat):Int):=ah;obtain⟨c1,c2,c3⟩:=hR.cells hi6;have c1':R.cell ((x:Int)).toNat (Int.toNat ((i:Nat):Int))=some (.pointer (some ⟨a i,0,none⟩)):=by rw[aaa,aaa];exact c1
 have c3':R.cell ((x:Int)).toNat (Int.toNat 12)=some (.int .i64 (fy st)):=by rw[aaa];exact c3
 have hlen2:(nu st i).length<1000000:=by unfold nu;rw[aaw];exact hS i hi6
 rw[y0,y1,y2,y5,yr,hw2,c1',kP];refine⟨ah,ah,ah,rfl,⟨a i,R,_,_,_,T,p.h,rfl,rfl,hR.ch i hi6,hlen2,hd⟩,fun q3 g3 ⟨F3,⟨a',R',w',hs',row',T',h',f1,f2,d2,i2,hv⟩,_⟩=>?_⟩;simp only[aag,aau,Value.pointer.injEq,aak,Addr.mk.injEq,Value.agg.injEq]at f1 f2;obtain⟨rfl,f1⟩:=f1;obtain⟨rfl,rfl⟩:=f2;have f1:=aaO f1;subst f1;obtain⟨rfl,rfl⟩:=(hR.ch i hi6).uniq d2;obtain rfl:=hd.uniq i2;have hask:q3.i 139=gu (cI p.h.c 0) (nu st i) p.h:=by rw[hwi];simpa using hv
 have G3:ai 137 J q3:=G2.tr g3;obtain⟨z0,z1,z2,z3,z4,zr,zr2,z5⟩:=V q3 G3;refine⟨fun hne=>out ?_,fun heq=>?_⟩
 .unfold bK;rw[aal hFn,hi,aay (by rw[<-hask];exact hne)];exact hask
 have h0:¬gu (cI p.h.c 0) (nu st i) p.h≠0:=fun g=>g (hask.symm.trans heq);rw[zr2,z3,z4];have hrk:bf (row.take 125) de:=hd.ok;refine⟨⟨row.take 125,row.getD 125 Ct,p.b,B,RG,by rw[<-hbody],rfl,hrk,hx.body,hx.byte,hlen,hKat⟩,fun q4 g4 ⟨F4,hp4,_⟩=>?_⟩;have hp4:=hp4 (row.take 125) (row.getD 125 Ct) p.b B RG (by rw[<-hbody]) rfl hx.body;have hb4:q4.b 140=fa p.h.c p.b:=by rw[<-zZ hd];exact Value.bool.inj hp4
 have G4:ai 137 J q4:=G3.tr g4;obtain⟨u0,u1,_⟩:=V q4 G4;refine⟨fun hb=>out ?_,fun hb=>?_⟩
 .unfold bK;rw[aal hFn,hi,aal h0,aay (by rw[<-hb4];simpa using hb)];rfl
 have hwb:¬fa p.h.c p.b=false:=by rw[<-hb4,hb];decide
 rw[u0,u1,c3'];refine⟨rfl,fun h4=>out ?_,fun h4=>out ?_⟩
 .have h4:400<=fy st:=h4;unfold bK;rw[aal hFn,hi,aal h0,aal hwb,aay h4];rfl
 .have h4:¬400<=fy st:=h4;unfold bK;rw[aal hFn,hi,aal h0,aal hwb,aal h4];rfl
open Classical in
noncomputable def dZ (st:Nat->List Pc) (p:Pc):Nat->List Pc:=if bK st p=0 then vk st (cI p.h.c 0-1).toNat (st (cI p.h.c 0-1).toNat++[p])else st
noncomputable def I0:Sx.Spec where
 fn:=98
 own:=[.arg 0]
 rd:=[1001053,1001125,2000005]
 res:=[.one (.int .i64)]
 pre:=fun xs Hs Rs=>∃ x H st row T B RG p,xs=[.pointer (some ⟨x,0,none⟩),.agg row.toArray]/\Hs=[H]/\Rs=[T,B,RG]/\sG H x st/\oJ st/\dz T B row p/\p.b.length<=900000/\uf RG 5
 post:=fun xs Hs Rs v Hs' F=>∃ x H st row T B RG p H',xs=[.pointer (some ⟨x,0,none⟩),.agg row.toArray]/\Hs=[H]/\Rs=[T,B,RG]/\sG H x st/\dz T B row p/\Hs'=[H']/\v=.int .i64 (bK st p)/\sG H' x (dZ st p)
def M9:Nd:=(fun a g o m p k l=>(fun f c d h i=>(fun n=>(fun b j=>(.ext (.alloc 137) (.and (.pre d) (.ext d (.and (.imp (.not (.eq (.var 138) k)) (.post [.hp 133 [] o [],.ro 134 m false,.ro 135 l true,.ro 136 p false,.dead] (.sv (.one (.int .i64 (.var 138)))))) (.imp (.eq (.var 138) k) (.and (.e (.le k g)) (.and (.e (.le k a)) (.and (.e (.lt a (.lit 6))) (.and (.e (.his 133 g a 0 .ptr)) (.and (.pre c) (.ext c (.and (.imp (.not (.eq (.var 139) k)) (.post [.hp 139 [133] o [],.ro 134 m false,.ro 135 l true,.ro 136 p false,.dead] (.sv (.one (.int .i64 (.var 139)))))) (.imp (.eq (.var 139) k) (.and (.e (.his 139 g f 0 .slice)) (.and (.pre h) (.ext h (.ext (.alloc 145) (.and (.pre b) (.ext b (.and (.pre j) (.ext j (.and (.e (.his 148 g (.lit 12) 0 (.int .i64))) (.and (.pre i) (.ext i (.post [.hp 149 [148,146,139,133] [.var 146,.var 0] [],.ro 134 m false,.ro 135 l true,.ro 136 p false,.dead,.hp 141 [] [.var 141] [],.dead] (.sv (.one (.int .i64 k))))))))))))))))))))))))))):Nd)) (.app 146 46 1 24 (.sl (.hP 139 g f 0 0) (.hP 139 g f 0 1) n (.hP 139 g f 0 3)) n (.hp 139 [133] o []) (.cvs [.sl (.var 141) (.var 142) (.var 143) (.var 144)] 1)) (.put 148 146 g f [.sl (.var 146) k (.add n (.lit 1)) (.var 147)])) (.hP 139 g f 0 2)) (.add (.lit 6) a) (.call 1 139 [.sv (.one (.hptr (.hP 133 g a 0 0) (.hP 133 g a 0 1))),.sv (.agg (ak 1 bU))] [.hp 133 [] o []] [.ro 134 m false,.ro 136 p false]) (.call 0 138 [.sv (.one (.hptr g k)),.sv (.agg (ak 1 xc))] [] [.hp 133 [] o [],.ro 134 m false,.ro 135 l true,.ro 136 p false]) (.call 2 141 [.sv (.one (.sl (.var 129) (.var 130) (.var 131) (.var 132)))] [] [.ro 135 l true]) (.put 149 148 g (.lit 12) [.int .i64 (.wrap .i64 (.add (.hI 148 g (.lit 12) 0) (.lit 1)))])) (.wrap .i64 (.sub (.var 1) (.lit 1))) (.var 0) [.var 0] [.var 54] [.lit 5] (.lit 0) [.var 129]
noncomputable def Un (K R:Hl):List Sx.Spec:=[yw,Cd DC K R,fU]
def S5 (K R:Hl):∀ t∈Un K R,t.OK Tryz.prog:=av Ee <| av (Ko rfl Mm K R) <| av kX <| bN
def Ya (K R:Hl):(Un K R)[0]?=some yw:=rfl
def Yb (K R:Hl):(Un K R)[1]?=some (Cd DC K R):=rfl
def Yc (K R:Hl):(Un K R)[2]?=some fU:=rfl
def Vp:yw.res=[.one (.int .i64)]:=rfl
def Yd (K R:Hl):(Cd DC K R).res=[.one (.int .i64)]:=rfl
def Vq:fU.res=[.one .sl]:=rfl
def rU {st:Nat->List Pc} {p:Pc} (h:bK st p=0):p.h.Form/\gu (cI p.h.c 0) (nu st (cI p.h.c 0-1).toNat) p.h=0/\fa p.h.c p.b=true/\fy st<400:=by
 unfold bK at h;split at h
 .cases h
 .rename_i hF;split at h
  .rename_i hn;exact absurd h hn
  .rename_i ha;split at h
   .cases h
   .rename_i hw;split at h
    .cases h
    .rename_i hc;exact⟨acH.1 hF,acH.1 ha,by simpa using hw,ah⟩
noncomputable def Eh (K R:Hl):aF Tryz.prog (Un K R) I0.fn where
 Λ:=aD
 args:=TP (.var 0) (.lit 0)::(bW 1 [.agg xc]).map .sv
 mem:=[.hp 133 [] [.var 0] [],.ro 134 [.var 54] false,.ro 135 [.var 129] true,.ro 136 [.lit 5] false]
 nv:=137
set_option maxRecDepth 20000 in
def Na:I0.OK Tryz.prog:=by
 refine Spec.Ql fun xs Hs Rs ⟨x,H,st,row,T,B,RG,p,ex,eH,eR,hI,hS,hx,hlen,hKat⟩=>?_;obtain⟨a,sv,Kc,KB,hD⟩:=id hI;generalize hi:(cI p.h.c 0-1).toNat=i;refine Spec.aV (Γ:=Un (Kc i) (H.minus (Kc i))) (S5 _ _) ?_;rintro xs' Hs' Rs' hl1 hl2 ⟨e1,e2,e3⟩;subst e1 e2 e3 ex eH eR;obtain⟨J,va,rfl,hh,hnw⟩:=CA (a:=(x:Int)) [(133,H),(134,T),(135,B),(136,RG)] hx.ok;have w1:J.h 133=H:=hh 133;have w2:J.h 134=T:=hh 134;have w3:J.h 135=B:=hh 135;have w4:J.h 136=RG:=hh 136;refine⟨Eh _ _,J,fun _ _=>True,fun _ _=>0,?_,⟨?_,?_,?_,?_⟩,(fun _ h=>nomatch h),?_⟩
 .show [Value.pointer (ar (J.i 0) 0),.agg ((ak 1 gJ).map (CV.ev J)).toArray]=_;rw[va,al ah];rfl
 .intro r hr ho;simp [Eh]at hr;rcases hr with rfl | rfl | rfl | rfl
  .exact⟨H,aC,by show(J.h 133).le H;rw[w1];exact Hl.le_refl _⟩
  all_goals cases ho
 .intro r hr ho;simp [Eh]at hr;rcases hr with rfl | rfl | rfl | rfl
  .cases ho
  .exact⟨T,aC,by show(J.h 134).le T;rw[w2];exact Hl.le_refl _⟩
  .exact⟨B,aC,by show(J.h 135).le B;rw[w3];exact Hl.le_refl _⟩
  .exact⟨RG,aC,by show(J.h 136).le RG;rw[w4];exact Hl.le_refl _⟩
 .simp [Eh,bm.own]
 .intro r hr;simp [Eh]at hr;rcases hr with rfl | rfl | rfl | rfl<;>trivial
 refine aF.lit (x:=M9) ?_;unfold M9;simp only[Nd.holds,X.pre,X.rel,X.n,Src.ok,Src.len,Src.iA,aaZ,aau,abK,acj,aa3,Nat.reduceAdd,aaL,aa9,qX,qU,jv,jZ,iR,qW,my,oK,lZ,ga,mo,mz,qV,mv,mq,jw,mw,aq,au,bQ,dj,cx,bJ,fg,fL,fM,fN,je,gb,iv,fR,TV.ev,SV.ev,CV.ev,aax,aa8,bm.hl,j7,Cp.sv,Ck.cv,bW,Cp.len,Ck.len,fX,gO,jc,Ya,Yb,Yc,Vp,Yd,Vq,Jy];generalize hrow0:(ak 1 gJ).map (CV.ev J)=row at *;have ht0:(ak 1 bU).map (CV.ev J)=row.take 125:=by rw[<-hrow0,oy]
 have hb0:Value.slice (ar (J.i 129) (J.i 130)) (J.i 131).toNat (J.i 132).toNat=row.getD 125 Ct:=by rw[<-hrow0,Cz]
 have V:∀ q:Env,ai 137 J q->q.i 0=x/\q.h 133=H/\q.h 134=T/\q.h 135=B/\q.h 136=RG/\(ak 1 bU).map (CV.ev q)=row.take 125/\(ak 1 xc).map (CV.ev q)=row/\q.i 1=J.i 1/\Value.slice (ar (q.i 129) (q.i 130)) (q.i 131).toNat (q.i 132).toNat=row.getD 125 Ct:=fun q g=>by
  refine⟨by rw[g.i 0,va],by rw[g.h 133,w1],by rw[g.h 134,w2],by rw[g.h 135,w3],by rw[g.h 136,w4],?_,?_,g.i 1,?_⟩
  .rw[<-ht0];exact aaQ Array.toList (Value.agg.inj (fS (ks:=bU) (n:=1) g aA))
  .rw[<-hrow0];exact aaQ Array.toList (Value.agg.inj (fS (ks:=gJ) (n:=1) g aA))
  .rw[g.i 129,g.i 130,g.i 131,g.i 132];exact hb0
 have hd:=hx.hd;have hw1:cI p.h.c 0=J.i 1:=by
  have e1:cI p.h.c 0=cI (row.take 125) 0:=hd.I aA;rw[e1,<-ht0];rfl
 have ep:Value.pointer (ar (x:Int) 0)=.pointer (some ⟨x,0,none⟩):=by rw[al ah];rfl
 intro q1 g1 p1;obtain⟨v0,x1,x2,x3,x4,xr,xr2,_,_⟩:=V q1 g1;rw[v0,ep,xr2,x1,x2,x3,x4];refine⟨⟨x,H,st,_,T,B,RG,p,rfl,rfl,hI.rd,hS,hx,hlen,hKat⟩,fun q2 g2 ⟨F2,hp2,_⟩=>?_⟩;have hask:q2.i 138=bK st p:=by simpa using hp2 _ _ _ _ _ _ _ _ rfl rfl hI.rd hx
 have G2:ai 137 J q2:=g1.tr g2;obtain⟨y0,y1,y2,y3,y4,yr,yr2,y5,_⟩:=V q2 G2;refine⟨fun hne _=>?_,fun heq=>?_⟩
 .refine⟨[[0]],[],rfl,rfl,⟨(bh fun _=>q2.i 138),rfl,zzT,zzT⟩,x,H,st,_,T,B,RG,p,_,rfl,rfl,rfl,hI,hx,rfl,by rw[<-hask];rfl,?_⟩;unfold dZ;rw[aal (by rw[<-hask];exact hne)];show sG (cu [q2.h 133]) _ _;rw[aL,y1];exact hI
 obtain⟨hF,ha0,_,hcnt⟩:=rU (hask.symm.trans heq);have hw:=yn hF;rw[hi]at ha0;have hw2:IntKind.i64.wrap (J.i 1-1)=((i:Nat):Int):=by rw[IntKind.wrap_i64];rw[hw1]at hw hi;omega
 have hi6:i<6:=ah;have hwi:cI p.h.c 0=((i+1:Nat):Int):=ah;rw[hwi]at ha0;have hxK:=hD.nox i hi6;obtain⟨c1,c2,c3⟩:=(show RV H x st a sv from ⟨hD.bd,fun j hj=>⟨Kc j,hD.le j hj,hD.ch j hj⟩,fun j hj=>by
  obtain⟨us,h1,h2⟩:=hD.row j hj;exact⟨us,h1,fun k u q hu hq=>jP (h2 k u q hu hq) hD.kb⟩⟩).cells hi6
 have c1':H.cell ((x:Int)).toNat (Int.toNat ((i:Nat):Int))=some (.pointer (some ⟨a i,0,none⟩)):=by rw[aaa,aaa];exact c1
 have hlen2:(nu st i).length<1000000:=by unfold nu;rw[aaw];exact hS i hi6
 rw[y0,y1,y2,y4,y5,yr,hw2,c1',kP];refine⟨ah,ah,ah,rfl,⟨by rw[Hl.Nu (hD.le i hi6)],Hl.AP _ _,a i,Kc i,_,_,_,T,RG,p.h,rfl,rfl,rfl,hD.ch i hi6,hlen2,hd,hKat⟩,fun q3 g3 ⟨F3,⟨K',k1,k2,k3,a',K2,w',hs',row',T',RG',h',K'',f1,f2,f3,d2,i2,f4,hv,hok,hno⟩,_⟩=>?_⟩;simp only[aag,aau,Value.pointer.injEq,aak,Addr.mk.injEq,Value.agg.injEq]at f1 f2 f3 f4 k1;obtain⟨rfl,f1⟩:=f1;obtain⟨rfl,rfl⟩:=f3;have f1:=aaO f1;subst f1 f2 f4;obtain⟨rfl,rfl⟩:=cA.uniq ⟨Kc i,Hl.le_refl _,hD.ch i hi6⟩ ⟨_,Hl.le_refl _,d2⟩;obtain rfl:=hd.uniq i2;have hask3:q3.i 139=0:=by rw[<-ha0];simpa using hv
 have hch:=hok ha0;have G3:ai 137 J q3:=G2.tr g3;obtain⟨z0,z1,z2,z3,z4,zr,zr2,z5,zb⟩:=V q3 G3;refine⟨fun hne=>absurd hask3 hne,fun _=>?_⟩;have lR:(H.minus (Kc i)).le (q3.h 139):=by rw[k1];exact Hl.bj k2
 have xR:(H.minus (Kc i)) x=some (.cells (Dh a sv (fy st)).toArray 182 (0,0)):=by
  unfold Hl.minus;have hxK:¬((Kc i) x).isSome=true:=hxK;rw[aal hxK];exact hD.bd
 have c2q:∀ q:Env,q.i 0=x->q.i 1=J.i 1->q.h 139=q3.h 139->(q.h 139).cell (q.i 0).toNat (6+IntKind.i64.wrap (q.i 1-1)).toNat=some (sv i):=fun q h1 h2 h3=>by
  rw[h1,h2,h3,hw2,aaa,show(6+((i:Nat):Int)).toNat=6+i by omega];have:=(I2 a sv (fy st) hi6).2;unfold Hl.cell;rw[lR _ _ xR];simpa using this
 obtain⟨us,ho,hus⟩:=hD.row i hi6;have hsl:∃ p l c,sv i=Value.slice p l c:=by
  rcases ho.2 with ⟨h,_⟩ | ⟨_,_,_,h,_⟩<;>exact⟨_,_,_,h⟩
 have hsl2:bo (some (sv i)) 2=(st i).length:=by
  rcases ho.2 with ⟨h,hn⟩ | ⟨_,_,_,h,_⟩
  .rw[h,hn];rfl
  .rw[h];rfl
 have hsv:bw (some (sv i)) .slice=true:=by obtain⟨_,_,_,e⟩:=hsl;rw[e];rfl
 rw[c2q q3 z0 z5 rfl,zb,z3];refine⟨hsv,⟨_,p.b,B,rfl,rfl,hx.body,ah⟩,fun q4 g4 ⟨F4,⟨u',bs',R',m1,m2,m3,m4⟩,hF4,hn4⟩ q5 g5 p5=>?_⟩;simp only[aag,aau]at m1 m2;subst m1 m2;obtain rfl:=hx.body.uniq m3;rw[<-hF4 zzT]at m4;have G5:ai 139 q3 q5:=g4.mono.tr g5;have G5':ai 137 J q5:=G3.tr G5;obtain⟨s0,s1,s2,s3,s4,sr,ZJ,s5,sb⟩:=V q5 G5';have h139:q5.h 139=q3.h 139:=by rw[g5.h 139,g4.h 139]
 rw[c2q q5 s0 s5 h139,ij hsl,hsl2,h139,k1,aaa];have hoM:aK (K'.un (H.minus (Kc i))) 46 1 (sv i) (st i).length us:=ho.at fun b hb=>by
  obtain⟨c,hc⟩:=ho.type hb;have hnk:=((hD.own i b hi6 hb).2 i hi6).1;have:(H.minus (Kc i)) b=H b:=by
   unfold Hl.minus;have hnk:¬((Kc i) b).isSome=true:=hnk;rw[aal hnk]
  rw[Hl.bj k2 b _ (this.trans hc),hc]
 have hst:=hS i hi6;refine⟨⟨⟨us,hoM⟩,ah,by unfold maxLen;omega,ah⟩,fun q6 g6 ⟨a1,a2,happ,hkp,_,hnw⟩=>?_⟩;have G6:ai 139 q3 q6:=G5.tr g6;obtain⟨t0,t1,t2,t3,t4,tr,ZK,t5,tb⟩:=V q6 (G3.tr G6);have h139b:q6.h 139=q3.h 139:=by rw[g6.h 139,h139]
 have ex6:(q6.h 146) x=some (.cells (Dh a sv (fy st)).toArray 182 (0,0)):=by
  have e1:=Hl.bj k2 x _ xR;rw[hkp x (Hl.mem_of e1) fun e=>?_,e1];obtain⟨c,hc⟩:=ho.type e.symm;rw[hD.bd]at hc;simp at hc
 have en:(((st i).length:Int)+1).toNat=(st i).length+1:=ah;have e6i:(6+((i:Nat):Int)).toNat=6+i:=ah;rw[c2q q6 t0 t5 h139b,hsl2,en,t0,t5,hw2,e6i,aaa];refine⟨⟨ah,ah,jX ex6 (by show 6+i+1<=13;omega)⟩,fun q7 g7 p7=>?_⟩;have G7:ai 139 q3 q7:=G6.tr g7;obtain⟨r0,_⟩:=V q7 (G3.tr G7);have ex7:(q7.h 148) x=some (.cells (Dh a (vk sv i (.slice (ar (q6.i 146) 0) ((st i).length+1) (q6.i 147).toNat)) (fy st)).toArray 182 (0,0)):=by
  rw[p7,Hl.r8 ex6];simp only[acy];rw[Ng _ _ _ _ hi6]
 have c12:(q7.h 148).cell ((x:Int)).toNat (Int.toNat 12)=some (.int .i64 (fy st)):=by
  rw[aaa];unfold Hl.cell;rw[ex7];rfl
 rw[r0,c12];have hc0:0<=fy st:=abR _;have hwc:IntKind.i64.wrap (bV (some (Value.int .i64 (fy st)))+1)=fy st+1:=by
  show IntKind.i64.wrap (fy st+1)=_;rw[IntKind.wrap_i64];omega
 rw[hwc,aaa];refine⟨rfl,⟨ah,ah,jX ex7 (by show 12+1<=13;omega)⟩,fun q8 g8 p8=>?_⟩;intro hdis;have hGB:(q8.h 149).bq (q8.h 141):=hdis 0 5 _ _ aA rfl rfl rfl;have h141:q8.h 141=q4.h 141:=by rw[g8.h 141,g7.h 141,g6.h 141,g5.h 141]
 have e8:q8.h 149=((q6.h 146).put x (6+i) [.slice (ar (q6.i 146) 0) ((st i).length+1) (q6.i 147).toNat]).put x 12 [.int .i64 (fy st+1)]:=by rw[p8,p7];rfl
 rw[e8,h141]at hGB;have m4':fC (q4.h 141) (.slice (ar (q5.i 141) (q5.i 142)) (q5.i 143).toNat (q5.i 144).toNat) p.b:=by
  rw[g5.i 141,g5.i 142,g5.i 143,g5.i 144];exact m4.rd.w
 have key:=hD.put hi6 k2 hch m4' a1 happ hkp hnw hGB;have e0:bK st p=0:=hask.symm.trans heq;refine⟨[[0,5]],[],rfl,rfl,⟨(bh fun _=>0),rfl,zzT,zzT⟩,x,H,st,_,T,B,RG,p,_,rfl,rfl,rfl,hI,hx,rfl,by rw[e0];rfl,?_⟩;unfold dZ;rw[aay e0,hi];show sG (cu [q8.h 149,q8.h 141]) _ _;rw[jB,e8,h141];exact⟨_,_,_,_,key⟩
def tu {q:Env} : ∀ {a b:List Ck} {n:Nat},cY n a q->cY (n+bc a) b q->cY n (a++b) q
 | [],b,n,_,h=>by simpa [bc] using h
 | k::a,b,n,h,h2=>⟨h.1,tu h.2 (by rw[show n+k.len+bc a=n+bc (k::a)by simp [bc];omega];exact h2)⟩
def Tr (h:iT (n+53) q .sl):cY n bU q:=by
 have e:bU=([i64,.int .u64]++List.replicate 32 (.int .u8)++[i64,.bool,.int .u64]++List.replicate 16 (.int .u8))++([.sl]++(List.replicate 6 (.int .u64)++List.replicate 32 (.int .u8)++[i64]++List.replicate 32 (.int .u8))):=rfl;rw[e];exact tu (cC _ _ _ rfl) (tu ⟨h,zzT⟩ (cC _ _ _ rfl))
set_option maxRecDepth 20000 in
def NI (h:iT (n+53) q .sl) (h2:iT (n+128) q .sl):cY n gJ q:=tu (Tr h) ⟨h2,zzT⟩
def Good (st:Nat->List Pc):Prop:=∀ i,i<6->∀ p∈st i,aG p.b/\p.b.length<=1000000
def Ef:Sx.Spec where
 fn:=74
 own:=[]
 rd:=[0]
 res:=[.agg gJ,.one (.int .i64)]
 pre:=fun xs Hs Rs=>∃ x R st n s,xs=[.pointer (some ⟨x,0,none⟩),.int .i64 n,.int .u64 s]/\Rs=[R]/\nP R x st/\oJ st/\Good st/\(0<=s/\s<18446744073709551616)
 post:=fun xs Hs Rs v Hs' F=>∃ x R st n s,xs=[.pointer (some ⟨x,0,none⟩),.int .i64 n,.int .u64 s]/\Rs=[R]/\nP R x st /\
  (((1<=n/\n<=6)/\(1<=s/\s<=(st (n-1).toNat).length)/\∃ row p,(st (n-1).toNat)[(s-1).toNat]?=some p/\v=.tuple #[.agg row.toArray,.int .i64 0]/\dz F F row p)\/(¬((1<=n/\n<=6)/\1<=s/\s<=(st (n-1).toNat).length)/\∃ u,v=.tuple #[u,.int .i64 11]))
def Zi:List CV:=[.int .i64 (.lit 0),.int .u64 (.lit 0)]++List.replicate 32 (CV.int .u8 (.lit 0))++[.int .i64 (.lit 0),.bool .ff,.int .u64 (.lit 0)]++List.replicate 16 (CV.int .u8 (.lit 0))++[.sl (.lit (-1)) (.lit 0) (.lit 0) (.lit 0),.int .u64 (.lit 0),.int .u64 (.lit 0),.int .u64 (.lit 0),.int .u64 (.lit 0),.int .u64 (.lit 0),.int .u64 (.lit 0)]++List.replicate 32 (CV.int .u8 (.lit 0))++[.int .i64 (.lit 0)]++List.replicate 32 (CV.int .u8 (.lit 0))++[.sl (.lit (-1)) (.lit 0) (.lit 0) (.lit 0)]
def WT:List Sx.Spec:=[J5,fU]
def SY:∀ t∈WT,t.OK Tryz.prog:=av Ik <| av kX <| bN
def Ro:aF Tryz.prog WT Ef.fn where
 Λ:=aD
 args:=[TP (.var 0) (.lit 0),TI .i64 (.var 1),.sv (.one (.int .u64 (.var 2)))]
 mem:=[.ro 3 [.var 0] true]
 nv:=4
set_option maxRecDepth 20000 in
def Ci {n s:Int} {st:Nat->List Pc} (hI:nP R x st) (hno:¬((1<=n/\n<=6)/\1<=s/\s<=(st (n-1).toNat).length)) {mem:Mem} : postOf Ef [.pointer (some ⟨x,0,none⟩),.int .i64 n,.int .u64 s] [] [R] q mem (.tup [.agg Zi,.one (.int .i64 (.lit 11))]):=by
 intro _;exact⟨[],[],rfl,rfl,⟨(bh fun k=>if k=53 then -1 else if k=128 then -1 else if k=132 then 11 else 0),rfl,⟨NI ⟨aA,aA,aA,aA⟩ ⟨aA,aA,aA,aA⟩,zzT,zzT⟩⟩,x,R,st,n,s,rfl,rfl,hI,Or.inr ⟨hno,_,rfl⟩⟩
set_option maxRecDepth 20000 in
def M1:Ef.OK Tryz.prog:=by
 refine Spec.aV (Γ:=WT) SY ?_;rintro xs Hs Rs hl1 hl2 ⟨x,R,st,n,s,rfl,rfl,hI,hS,hG,hs⟩;have e0:Hs=[]:=aad.1 hl1;subst e0;refine⟨Ro,aQ [x,n,s] false [Hl.none,Hl.none,Hl.none,R],fun _ _=>True,fun _ _=>0,?_,cD (by intro r hr;simp [Ro]at hr;subst hr;exact⟨_,_,_,rfl⟩) rfl,(fun _ h=>nomatch h),?_⟩
 .show [Value.pointer (ar (x:Int) 0),.int .i64 n,.int .u64 s]=_;rw[al ah];rfl
 refine aF.read [bU] [] [] ?_;generalize hρ:aQ [(x:Int),n,s] false [Hl.none,Hl.none,Hl.none,R]=J;have V:∀ q:Env,ai 4 J q->q.i 0=x/\q.i 1=n/\q.i 2=s/\q.h 3=R:=fun q g=>by
  rw[g.i 0,g.i 1,g.i 2,g.h 3,<-hρ];exact⟨rfl,rfl,rfl,rfl⟩
 clear hρ;simp only[go_sem,Nat.reduceAdd,WT,US,UR,Vq,Jy];obtain⟨a,sv,hR⟩:=id hI;intro q1 g1 p1;obtain⟨v0,v1,v2,w3⟩:=V q1 g1;rw[v0,v1,v2,w3];refine⟨fun h1=>⟨fun h6=>Ci hI ah,fun h6=>?_⟩,fun h1=>Ci hI ah⟩;obtain⟨i,hi⟩:∃ i:Nat,n-1=i:=⟨(n-1).toNat,ah⟩;have hi6:i<6:=ah;have hni:(n-1).toNat=i:=ah;have hw:IntKind.i64.wrap (n-1)=((i:Nat):Int):=by rw[IntKind.wrap_i64];omega
 obtain⟨c1,c2,_⟩:=hR.cells hi6;have c1':R.cell ((x:Int)).toNat (Int.toNat ((i:Nat):Int))=some (.pointer (some ⟨a i,0,none⟩)):=by rw[aaa,aaa];exact c1
 have hlen:(nu st i).length<1000000:=by unfold nu;rw[aaw];exact hS i hi6
 rw[hw,c1',kP];refine⟨ah,ah,ah,rfl,⟨a i,R,_,_,s,rfl,rfl,hR.ch i hi6,hs,hlen⟩,fun q2 g2 ⟨F2,⟨a',R',w',hs',s',f1,f2,d2,hcase⟩,hF2,hn2⟩ q3 g3 p3=>?_⟩;simp only[aag,aau,Value.pointer.injEq,aak,Addr.mk.injEq,Value.int.injEq,aaZ]at f1 f2;obtain⟨rfl,rfl⟩:=f1;subst f2;obtain⟨rfl,rfl⟩:=(hR.ch i hi6).uniq d2;have hl:(nu st i).length=(st i).length:=by unfold nu;rw[aaw]
 have hb3:q3.b 133=q2.b 133:=g3.b 133;rw[hb3];refine⟨fun hb=>?_,fun hb=>?_⟩
 .rcases hcase with ⟨m1,m2,row',h',hh',ev,hI'⟩ | ⟨hno,u,ev⟩
  .simp only[Value.tuple.injEq,aaH,aag,Value.bool.injEq,aau]at ev;exact absurd ev.2 hb
  .exact Ci hI (by rw[hni];rw[hl]at hno;exact fun g=>hno g.2)
 rcases hcase with ⟨m1,m2,row',h',hh',ev,hI'⟩ | ⟨hno,u,ev⟩
 rotate_left
 .simp only[Value.tuple.injEq,aaH,aag,Value.bool.injEq,aau]at ev;exact absurd (ev.2.symm.trans hb) aA
 simp only[Value.tuple.injEq,aaH,aag,Value.bool.injEq,aau,Value.agg.injEq]at ev;have er:=ev.1;rw[<-hF2 zzT]at hI';rw[hl]at m2;obtain⟨us,ho,hus⟩:=hR.row i hi6;have hjl:(s-1).toNat<(st i).length:=ah;have hp:(st i)[(s-1).toNat]?=some (st i)[(s-1).toNat]:=aab hjl;have hul:(s-1).toNat<us.length:=by have:=ho.1;omega
 have hu:us[(s-1).toNat]?=some us[(s-1).toNat]:=aab hul;have hbody:=hus _ _ _ hu hp;obtain⟨g,cap,cur,hv,hg,hle,hmx,hsz,ht⟩:∃ g cap cur,sv i=.slice (some ⟨g,0,none⟩) (st i).length cap/\R g=some (.cells cur 46 (0,0))/\(st i).length<=cap/\cap<=maxLen/\cur.size=cap*1/\cur.toList.take ((st i).length*1)=us:=by
  rcases ho.2 with ⟨_,hn⟩ | h
  .omega
  .exact h
 have hce:R.cell ((g:Int)).toNat (0+(s-1)).toNat=some us[(s-1).toNat]:=by
  rw[aaa,Int.zero_add];unfold Hl.cell;rw[hg];rw[<-hu,<-ht,aa2,aay ah,aci]
 obtain⟨y0,y1,y2,y3⟩:=V q3 (g1.trans (g2.mono.tr g3));have c2':R.cell ((x:Int)).toNat (6+((i:Nat):Int)).toNat=some (.slice (some ⟨g,0,none⟩) (st i).length cap):=by
  rw[aaa,show(6+((i:Nat):Int)).toNat=6+i by omega,c2,hv]
 have hw2:IntKind.u64.wrap (s-1)=s-1:=by rw[IntKind.wrap_u64];omega
 have k0:bo (some (Value.slice (some ⟨g,0,none⟩) (st i).length cap)) 0=(g:Int):=rfl;have k1:bo (some (Value.slice (some ⟨g,0,none⟩) (st i).length cap)) 1=0:=rfl;have k2:bo (some (Value.slice (some ⟨g,0,none⟩) (st i).length cap)) 2=(st i).length:=rfl;obtain⟨x5,y5,cc5,e5,_⟩:=id hbody;have hsl5:∃ p l c,us[(s-1).toNat]=Value.slice p l c:=⟨_,_,_,e5⟩;rw[y0,y1,y2,y3,hw,c2',hw2,k0,k1,k2,hce,ij hsl5];have hGp:=hG i hi6 _ (aae hp);refine⟨rfl,ah,ah,ah,by rw[e5];rfl,⟨_,_,R,rfl,rfl,hbody,hGp.2⟩,fun q4 g4 ⟨F4,⟨u',bs',R',z1,z2,z3,z4⟩,hF4,hn4⟩ hdis=>?_⟩;simp only[aag,aau]at z1 z2;subst z1 z2;obtain rfl:=hbody.uniq z3;rw[<-hF4 zzT]at z4;have hGB:(q4.h 5).bq (q4.h 135):=hdis 2 4 _ _ aA rfl rfl rfl;have A4:ai 134 q2 q4:=g3.mono.tr g4;have rowB:(ak 5 bU).map (CV.ev q4)=row':=(aaQ Array.toList (Value.agg.inj (fS (ks:=bU) (n:=5) (m:=134) A4 aA))).trans er;have hbl:∃ sl,sl=Value.slice (ar (q4.i 135) (q4.i 136)) (q4.i 137).toNat (q4.i 138).toNat:=⟨_,rfl⟩;obtain⟨sl,hsl⟩:=hbl;rw[<-hsl]at z4;have aB:bf (row'++[sl]) mP:=by
  have:mP=de++[Kd.slice]:=rfl;rw[this];exact kS hI'.ok (by rw[hsl];rfl)
 have hl125:row'.length=125:=fj hI'.ok;have h5:q4.h 5=q2.h 5:=A4.h 5;have hn2':iT 58 q4 .sl:=by
  have hh:=hn2.1;have e:bU=(([i64,.int .u64]:List Ck)++List.replicate 32 (.int .u8)++[i64,.bool,.int .u64]++List.replicate 16 (.int .u8))++([Ck.sl]++(List.replicate 6 (.int .u64)++List.replicate 32 (.int .u8)++[i64]++List.replicate 32 (.int .u8))):=rfl;have sp:∀ (a b:List Ck) (n:Nat),cY n (a++b) q2->cY (n+bc a) b q2:=by
   intro a
   induction a with
   | nil=>intro b n h;simpa [bc] using h
   | cons k a ih=>intro b n h;have:=ih b _ h.2;rw[show n+k.len+bc a=n+bc (k::a)by simp [bc];omega]at this;exact this
  have hh:cY 5 bU q2:=hh;rw[e]at hh;obtain⟨n1,n2,n3,n4⟩:=(sp _ _ _ hh).1;have n1:-1<=q2.i 58:=n1;have n2:0<=q2.i 59:=n2;have n3:0<=q2.i 60:=n3;have n4:0<=q2.i 61:=n4;exact⟨by rw[A4.i 58];exact n1,by rw[A4.i 59];exact n2,by rw[A4.i 60];exact n3,by rw[A4.i 61];exact n4⟩
 have hn4':iT 135 q4 .sl:=hn4.1;have ph:(st i)[(s-1).toNat].h=h':=by
  unfold nu at hh';rw[aao,hp]at hh';simpa using hh'
 refine⟨[],[2,4],rfl,rfl,⟨⟨fun k=>if k<128 then q4.i (k+5)else if k<132 then q4.i (k+7)else 0,fun k=>q4.b (k+5),q4.s,q4.v,q4.h⟩,rfl,⟨NI hn2' hn4',zzT,zzT⟩⟩,x,R,st,n,s,rfl,rfl,hI,Or.inl ⟨⟨ah,ah⟩,⟨ah,by rw[hni];omega⟩,row'++[sl],(st i)[(s-1).toNat],by rw[hni];exact hp,?_,?_⟩⟩
 .show Value.tuple #[.agg ((ak 5 bU++[CV.sl (.var 135) (.var 136) (.var 137) (.var 138)]).map (CV.ev q4)).toArray,.int .i64 0]=_;rw[aaK,rowB,hsl];rfl
 .show dz (cu [q4.h 5,q4.h 135]) (cu [q4.h 5,q4.h 135]) _ _;rw[jB];refine⟨aB,?_,?_,hGp.1,hGp.2⟩
  .rw[aco hl125,ph];rw[<-h5]at hI';exact hI'.mono (Hl.aX _ _)
  .have:(row'++[sl]).getD 125 Ct=sl:=by rw[aap,aav ah,hl125];rfl
   rw[this];exact jP z4.rd.w (Hl.bj hGB)
open RowKit
def UI:List Sx.Spec:=[Ef]
def Sh:∀ t∈UI,t.OK Tryz.prog:=fun t ht=>by
 simp only[UI,aan,aat,aaX]at ht;subst ht;exact M1
noncomputable def fG:ft Tryz.prog UI where
 cs:=XE
 st:=UG
 outs:=UF
def XF:Ef.res=[.agg gJ,.one (.int .i64)]:=rfl
structure WD (R:Hl) (b1 b2 x:Nat) (st:Nat->List Pc) (cv:Nat->Int):Prop where
 c1:R.cell b1 0=some (.pointer (some ⟨x,0,none⟩))
 c2:∀ i,i<6->R.cell b2 i=some (.int .u64 (cv i))
 rng:∀ i,i<6->0<=cv i/\cv i<18446744073709551616
 ix:nP R x st
 sh:oJ st
 gd:Good st
set_option maxRecDepth 20000 in
def Sg {st:Nat->List Pc} {cv:Nat->Int} (h:WD R b1 b2 x st cv) {s:Bool} (hi:i<6) (hk:k<=2000000) (hA:cX y b1 b2 a (some (k+1)) (some s) (some i)) (hR:R.sub W) :
 wN (FW none) dn Tryz.prog (fun e a' W'=>(e=.exit 3/\(st i)[fv cv i+k]?=none/\cX y b1 b2 a' (some (k+1)) (some s) (some i)/\gK (fun _=>False) W W') \/
  (e=.normal/\∃ p g row F,(st i)[fv cv i+k]?=some p/\cX y b1 b2 a' (some (k+1)) (some true) (some i)/\a'.tmps[7]?=some (.pointer (some ⟨g,0,none⟩))/\fh W W' [] [] F/\F g=some (.cells row.toArray 67 (0,0))/\dz F F row p)) XE a W:=by
 have hro:fG.plain=true\/(none:Option Nat)=none:=Or.inr rfl;refine iq ?_ (ft.sound (Γ:=UI) Sh fG hro (Hs:=[]) (Rs:=[R]) (J:=Gr [b1,b2,k+1,0,i] s y R) (inv:=fun _ _=>True) (mu:=fun _ _=>0)
  (R:=fun v _ F=>(v=QR y b1 b2 (.exit 3) (k+1) s i/\(st i)[fv cv i+k]?=none)\/∃ p g row,(st i)[fv cv i+k]?=some p/\v=.tuple #[.int .i64 0,y,.pointer (ar (b1:Int) 0),.pointer (ar (b2:Int) 0),.int .u64 (k+1),.bool true,.pointer (ar ((g:Nat):Int) 0),.int .i64 i]/\F g=some (.cells row.toArray 67 (0,0))/\dz F F row p)
  aC (by simpa using hR) aC (cD (by intro r hr;simp [fG,UG]at hr;subst hr;exact⟨_,_,_,rfl⟩) rfl) hA.sz hA.df ?_ (fun _ h=>(nomatch h)) ?_)
 .rintro e a' W' ⟨t,vs,Hs',F,rfl,hsz,hdf,hm,hT,hp⟩;have e0:Hs'=[]:=aad.1 hT.len;subst e0;rcases hp with ⟨hv,hno⟩ | ⟨p,g,row,hp,hv,hg,hP⟩
  .unfold QR at hv;rw[al ah,al ah]at hv;simp only[Value.tuple.injEq,aaH,aag,Value.int.injEq,aaZ]at hv;obtain⟨ht,rfl⟩:=hv;obtain rfl:=jV ht;have hm:[a'.tmps[0]?,a'.tmps[1]?,a'.tmps[2]?,a'.tmps[4]?,a'.tmps[5]?,a'.tmps[11]?]=_:=hm;simp only[aax,aa8,aag,aau]at hm;obtain⟨m0,m1,m2,m4,m5,m11⟩:=hm;exact Or.inl ⟨rfl,hno,⟨hsz.trans hA.sz,hdf,m0,m1,m2,fun x hx=>by cases hx;exact m4,fun x hx=>by cases hx;exact m5,fun x hx=>by cases hx;exact m11⟩,hT.oN⟩
  .rw[al ah,al ah,al ah]at hv;simp only[Value.tuple.injEq,aaH,aag,Value.int.injEq,aaZ]at hv;obtain⟨ht,rfl⟩:=hv;obtain rfl:t=.norm:=jV ht;have hm:[a'.tmps[0]?,a'.tmps[1]?,a'.tmps[2]?,a'.tmps[4]?,a'.tmps[5]?,a'.tmps[7]?,a'.tmps[11]?]=_:=hm;simp only[aax,aa8,aag,aau]at hm;obtain⟨m0,m1,m2,m4,m5,m7,m11⟩:=hm;exact Or.inr ⟨rfl,p,g,row,F,hp,⟨hsz.trans hA.sz,hdf,m0,m1,m2,fun x hx=>by cases hx;exact m4,fun x hx=>by cases hx;exact m5,fun x hx=>by cases hx;exact m11⟩,m7,hT,hg,hP⟩
 .intro t v ht;have:=su (l:=[(0,.sv (.one (.vr 0))),(1,.sv (.one (.hptr (.var 0) (.lit 0)))),(2,.sv (.one (.hptr (.var 1) (.lit 0)))),(4,.sv (.one (.int .u64 (.var 2)))),(5,.sv (.one (.bool (.bvar 3)))),(11,.sv (.one (.int .i64 (.var 4))))]) ht;simp only[aan,aat,aaX,aaS]at this;rcases this with ⟨rfl,rfl⟩ | ⟨rfl,rfl⟩ | ⟨rfl,rfl⟩ | ⟨rfl,rfl⟩ | ⟨rfl,rfl⟩ | ⟨rfl,rfl⟩
  .exact hA.t0
  .exact hA.t1.trans (by show _=some (Value.pointer (ar (b1:Int) 0));rw[al ah];rfl)
  .exact hA.t2.trans (by show _=some (Value.pointer (ar (b2:Int) 0));rw[al ah];rfl)
  .exact hA.t4 _ rfl
  .exact hA.t5 _ rfl
  .exact hA.t11 _ rfl
 refine ft.read [gJ] [] [] ?_;generalize hρ:Gr [(b1:Int),b2,k+1,0,i] s y R=J;have V:∀ q:Env,ai 11 J q->q.i 0=b1/\q.i 1=b2/\q.i 2=k+1/\q.i 4=i/\q.b 3=s/\q.v 0=y/\q.h 10=R:=fun q g=>by
  rw[g.i 0,g.i 1,g.i 2,g.i 4,g.b 3,g.v 0,g.h 10,<-hρ];exact⟨rfl,rfl,rfl,rfl,rfl,rfl,rfl⟩
 clear hρ;simp only[go_sem,Nat.reduceAdd,UI,XF];obtain⟨v0,v1,v2,v4,_,_,w⟩:=V J (ai.refl _ _);have hr:=h.rng i hi;have c1:R.cell ((b1:Int)).toNat (Int.toNat 0)=some (.pointer (some ⟨x,0,none⟩)):=by rw[aaa];exact h.c1
 have c2:R.cell ((b2:Int)).toNat (((i:Nat):Int)).toNat=some (.int .u64 (cv i)):=by rw[aaa,aaa];exact h.c2 i hi
 rw[v0,v1,v2,v4,w,c1,c2,kP];have ecv:(if 1048576<bV (some (Value.int .u64 (cv i)))then 1048576 else bV (some (Value.int .u64 (cv i))))=((fv cv i:Nat):Int):=by
  show(if 1048576<cv i then 1048576 else cv i)=_;unfold fv;split<;>omega
 have hcl:fv cv i<=1048576:=by unfold fv;omega
 have e1:IntKind.i64.wrap ((i:Int)+1)=((i+1:Nat):Int):=by rw[IntKind.wrap_i64];omega
 have e2:IntKind.u64.wrap (((fv cv i:Nat):Int)+(k+1))=((fv cv i+k+1:Nat):Int):=by rw[IntKind.wrap_u64];omega
 rw[ecv,e1,e2];refine⟨ah,rfl,ah,ah,ah,rfl,⟨x,R,st,_,_,rfl,rfl,h.ix,h.sh,h.gd,ah,ah⟩,fun q2 g2 ⟨F2,⟨x',R',st',n',s',f1,f2,h',hcase⟩,hF2,hn2⟩ q3 g3 p3=>?_⟩;simp only[aag,aau,Value.pointer.injEq,aak,Addr.mk.injEq,Value.int.injEq,aaZ]at f1 f2;obtain⟨rfl,rfl,rfl⟩:=f1;subst f2;have ek1:(((i+1:Nat):Int)-1).toNat=i:=ah;have xc:(((fv cv i+k+1:Nat):Int)-1).toNat=fv cv i+k:=ah;rw[ek1,xc,<-h.ix.st h' hi]at hcase;rw[g3.i 143];obtain⟨u0,u1,u2,u4,ub,uv,uw⟩:=V q3 (g2.tr g3);refine⟨fun hne=>?_,fun he=>?_⟩
 .refine fun _=>⟨[],[],rfl,rfl,Or.inl ⟨?_,?_⟩⟩
  .show Value.tuple #[.int .i64 5,q3.v 0,.pointer (ar (q3.i 0) 0),.pointer (ar (q3.i 1) 0),.int .u64 (q3.i 2),.bool (q3.b 3),.int .i64 (q3.i 4)]=_;rw[u0,u1,u2,u4,ub,uv];rfl
  .rcases hcase with ⟨_,_,row',p',hp',ev,hP'⟩ | ⟨hno,_⟩
   .simp only[Value.tuple.injEq,aaH,aag,Value.int.injEq,Value.agg.injEq,aaZ,aau]at ev;exact absurd ev.2 hne
   .exact abF.2 ah
 .rcases hcase with ⟨_,_,row',p',hp',ev,hP'⟩ | ⟨_,u,ev⟩
  rotate_left
  .simp only[Value.tuple.injEq,aaH,aag,Value.int.injEq,aaZ,aau]at ev;exact absurd (he.symm.trans ev.2) aA
  simp only[Value.tuple.injEq,aaH,aag,Value.int.injEq,Value.agg.injEq,aaZ,aau]at ev;rw[<-hF2 aA]at hP';refine fun hd=>⟨[],[1,2],rfl,zzK,Or.inr ⟨p',(q3.i 144).toNat,row',hp',?_,?_,?_⟩⟩
  .show Value.tuple #[.int .i64 0,q3.v 0,.pointer (ar (q3.i 0) 0),.pointer (ar (q3.i 1) 0),.int .u64 (q3.i 2),.bool true,.pointer (ar (q3.i 144) 0),.int .i64 (q3.i 4)]=_;rw[u0,u1,u2,u4,uv,show(((q3.i 144).toNat:Nat):Int)=q3.i 144 by omega]
  .have er:(ak 11 gJ).map (CV.ev q3)=row':=(aaQ Array.toList (Value.agg.inj (fS (ks:=gJ) (n:=11) g3 aA))).trans ev.1;show cu [q3.h 11,Hl.one (q3.i 144).toNat (.cells ((ak 11 gJ).map (CV.ev q3)).toArray 67 (0,0))] _=_;rw[jB,<-er];exact Hl.bj (hd 1 2 _ _ aA rfl rfl rfl) _ _ (Hl.aN _ _)
  .show dz (cu [q3.h 11,_]) (cu [q3.h 11,_]) _ _;rw[jB,g3.h 11];exact hP'.mono (Hl.aX _ _) (Hl.aX _ _)
def Ps {α:Type} {st:Nat->List α} {p:α} (h:(st i)[cur i+n]?=some p):before st cur n (i+1)=before st cur n i++[p]:=by
 unfold before;rw[ej,h];simp
def U6 (h:cX y b1 b2 a none none none) :
 wN (FW none) dn Tryz.prog (fun e a' w'=>e=.normal/\cX y b1 b2 a' (some 1) none none/\gK (fun _=>False) w w') f0.cs a w:=by
 refine iq ?_ (ft.pure aC f0 rfl rfl h.sz h.df (J:=PE y b1 b2 none none none) (R:=fun v=>v=.tuple #[.int .i64 (Fx .norm),y,.pointer (ar (b1:Int) 0),.pointer (ar (b2:Int) 0),.int .u64 1]) ?_ ?_)
 .rintro e a' w' ⟨t,vs,rfl,hsz,hdf,hm,hk,hv⟩;rw[al ah,al ah]at hv;simp only[Value.tuple.injEq,aaH,aag,Value.int.injEq,aaZ]at hv;obtain⟨ht,rfl⟩:=hv;obtain rfl:t=.norm:=jV ht;have hm:[a'.tmps[0]?,a'.tmps[1]?,a'.tmps[2]?,a'.tmps[4]?]=_:=hm;simp only[aax,aa8,aag,aau]at hm;obtain⟨m0,m1,m2,m4⟩:=hm;exact⟨rfl,⟨hsz.trans h.sz,hdf,m0,m1,m2,(fun x hx=>by cases hx;exact m4),(fun x hx=>by cases hx),(fun x hx=>by cases hx)⟩,hk⟩
 .intro t v ht;have:=su (l:=BR++[]) ht;simp only[BR,abl,aan,aat,aaX,aaS]at this;rcases this with ⟨rfl,rfl⟩ | ⟨rfl,rfl⟩ | ⟨rfl,rfl⟩
  .exact h.t0
  .exact h.t1.trans (by show _=some (Value.pointer (ar (b1:Int) 0));rw[al ah];rfl)
  .exact h.t2.trans (by show _=some (Value.pointer (ar (b2:Int) 0));rw[al ah];rfl)
 .refine ft.read [] [] [] ?_;simp only[go_sem];exact fun _=>⟨[],[],rfl,rfl,rfl⟩
def wQ (y p q:Value) (r:Array Value):(#[y]++#[p,q]++r)[0]?=some y/\(#[y]++#[p,q]++r)[1]?=some p/\(#[y]++#[p,q]++r)[2]?=some q/\(#[y]++#[p,q]++r).size=3+r.size:=by
 obtain⟨r⟩:=r;refine⟨aC,aC,aC,by simp;omega⟩
section
variable {R:Hl} {b1 b2 x l:Nat} {st:Nat->List Pc} {cv:Nat->Int}
def UH (I:List Pc->World->Prop) (st:Nat->List Pc) (cv:Nat->Int) (s:List Pc×Pc×List Value) (W:World):Prop :=
 ∃ W1 F k i,i<6/\s.1=before st (fv cv) k i/\(st i)[fv cv i+k]?=some s.2.1/\I s.1 W1/\fh W1 W [] [] F/\dz F F s.2.2 s.2.1
def Md (h:WD R b1 b2 x st cv) (hN2:N<=2000000) (hIR:∀ pre W,I pre W->R.sub W) (hIk:∀ pre W W',I pre W->gK (fun _=>False) W W'->I pre W')
 {L X:World->Prop} (hL:∀ W W',L W->W.heap.size<=W'.heap.size->(∀ b,b<W.heap.size->W'.heap[b]?=W.heap[b]?)->L W')
 (hY:∀ s W,UH I st cv s W->L W->YieldAt Fence.wide (dn-1) Tryz.prog l #[.agg s.2.2.toArray] W fun e W'=>(e=.returned (.bool true)/\I (s.1++[s.2.1]) W'/\L W')\/(e=.returned (.bool false)/\X W')) :
 Xn st (fv cv) (.func (.yield l) #[] #[]) b1 b2 dn N I L X:=by
 have cH:∀ W W',L W->gK (fun _=>False) W W'->L W':=fun W W' h1 h2=>hL W W' h1 h2.size fun b hb=>h2.block b hb adB;refine⟨cH,hIk,fun a W k s i hi hk hA hI hLW=>?_⟩;show(QX XE (gY (gY (gY (gY UD))))).wpIn _ _ _ _ _ _;refine vn (iq ?_ (Sg h hi ah hA (hIR _ _ hI)));rintro e a1 W1 (⟨rfl,hno,hA1,hk1⟩ | ⟨rfl,p,g,row,F,hp,hA1,m7,hT,hg,hP⟩)
 .exact Or.inl ⟨rfl,hno,hA1,hIk _ _ _ hI hk1,cH _ _ hLW hk1⟩
 have hl:row.length=126:=by have:=fj hP.ok;rwa[fY]at this
 have hsz:a1.tmps.size=36:=hA1.sz;have hs:UH I st cv (before st (fv cv) k i,p,row) W1:=⟨W,F,k,i,hi,rfl,hp,hI,hT,hP⟩;refine wpIn_seq (De (b:=g) (row:=row) (m:=126) (A:=fun W'=>I (before st (fv cv) k i++[p]) W'/\L W') (X:=X) rfl rfl rfl rfl rfl rfl rfl rfl rfl rfl rfl rfl ah ah ah aA aA hA1.t0 m7 zzK zzK hl (hT.fsub _ _ hg) ?_ ?_ ?_)
 .exact hY _ _ hs (cH _ _ hLW hT.oN)
 .rintro W2 ⟨hI2,hL2⟩;refine wpIn_cond_false ?_ ?_
  .simp [Act.eval,Act.put,aaE,hsz]
  .refine wpIn_skip (Or.inr (Or.inl ⟨rfl,by rw[hp];simp,?_,by rw[Ps hp];exact hI2,hL2⟩));refine⟨by simp [Act.put,hsz],by simp [Act.put,hA1.df],?_,?_,?_,fun x hx=>?_,fun x hx=>?_,fun x hx=>?_⟩
   .simpa [Act.put,aaE] using hA1.t0
   .simpa [Act.put,aaE] using hA1.t1
   .simpa [Act.put,aaE] using hA1.t2
   .simpa [Act.put,aaE] using hA1.t4 x hx
   .simpa [Act.put,aaE] using hA1.t5 x hx
   .simpa [Act.put,aaE] using hA1.t11 x hx
 .intro W2 hX;refine wpIn_cond_true ?_ ?_
  .simp [Act.eval,Act.put,aaE,hsz]
  .exact wpIn_ret (Or.inr (Or.inr ⟨rfl,by simp [Act.put,hA1.df],hX⟩))
def J2 (h:WD R b1 b2 x st cv) (hN:∀ j,j<6->(st j).length<=N) (hN2:N<=2000000) (hIR:∀ pre W,I pre W->R.sub W) (hIk:∀ pre W W',I pre W->gK (fun _=>False) W W'->I pre W') (h0:I [] W0) :
 Sx.Yields n Tryz.prog 151 #[.pointer (some ⟨b1,0,none⟩),.pointer (some ⟨b2,0,none⟩)] l (UH I st cv) (fun s W=>I (s.1++[s.2.1]) W) (fun s=>#[.agg s.2.2.toArray]) W0 (fun W=>∃ k,fx st (fv cv) k 6=[]/\I (eJ st (fv cv) k) W):=by
 intro L X hL hY hL0;have H:=Md (dn:=n-1) h hN2 hIR hIk hL hY;have hf:Tryz.prog.funcs[151]?=some Tryz.f151:=by kernel_rfl
 have hb:Tryz.f151.body=some Rc:=by kernel_rfl
 have hnt:Tryz.f151.ntmps=36:=by kernel_rfl
 have hrs:Tryz.f151.results=#[]:=by kernel_rfl
 have hcode:Rc=Code.seq (kN Rc) (Code.block 0 (kN (gY Rc))):=by kernel_rfl
 refine callsIn_of_wp hf hb trivial ?_ rfl;rw[hnt,hcode];have hA:cX (.func (.yield l) #[] #[]) b1 b2 {tmps:=(#[.func (.yield l) #[] #[]]++#[.pointer (some ⟨b1,0,none⟩),.pointer (some ⟨b2,0,none⟩)]:Array Value)++Array.replicate (36-(#[.func (.yield l) #[] #[]]++#[.pointer (some ⟨b1,0,none⟩),.pointer (some ⟨b2,0,none⟩)]:Array Value).size) undef,defers:=[]} none none none :=
  ⟨(wQ _ _ _ _).2.2.2.trans (by rw[adp];rfl),rfl,(wQ _ _ _ _).1,(wQ _ _ _ _).2.1,(wQ _ _ _ _).2.2.1,(fun x hx=>by cases hx),(fun x hx=>by cases hx),(fun x hx=>by cases hx)⟩
 have h1:wN (FW none) (n-1) Tryz.prog _ [kN Rc] _ W0:=U6 hA;refine wpIn_seq (wpIn_mono h1 ?_);intro e a1 W1 h2;cases e with
 | normal =>
  obtain⟨_,hA1,hk1⟩:=h2;refine wpIn_block (wpIn_mono (NO H hN hN2 hA1 (hIk _ _ _ h0 hk1) (hL _ _ hL0 hk1.size fun b hb=>hk1.block b hb adB)) ?_);rintro e a2 W2 ⟨rfl,hd,hc⟩;exact⟨hd,_,results_none hrs _ _ _,⟨_,rfl⟩,hc⟩
 | _=>exact absurd h2.1 aC
end
end Go.Proofs.YtomdimlnggpgbaaGreatDoor
namespace Go.Proofs.YtomdimlnggpgbaaGreatDoor
open Go Go.Sx Go.Pk
variable {q:Env}{R:Hl}{a b d l x y:Int}{T:List (List Int)}{bs r t:List Int}{row:List Value}{c i:Nat}
section
variable {s:Sx.Spec} {xs:List Value} {Rs:List Hl} {q:Env} {mem:Mem}
def tH {e:E} (hr:s.res=[.one .bool]) (h:s.post xs [] Rs (.bool (aY q e)) [] Hl.none):postOf s xs [] Rs q mem (.sv (.one (.bool e))):=fun _ =>
 ⟨[],[],rfl,rfl,⟨{Uk with b:=fun _=>aY q e},by rw[hr];rfl,by rw[hr];exact⟨zzT,zzT⟩⟩,h⟩
def Zw (f:FuncId):(fJ f).res=[.one .sl]:=rfl
end
def Be {u:Value} (h:fC R u r):bw (some u) .slice=true/\bo (some u) 2=r.length /\
 (bo (some u) 0= -1\/bo (some u) 2=0\/0<=bo (some u) 0/\0<=bo (some u) 1/\bC R (bo (some u) 0).toNat (bo (some u) 1).toNat (bo (some u) 2).toNat=true) /\
 ∀ [Decidable (bo (some u) 0= -1)],(if bo (some u) 0= -1 then(⟨#[]⟩:ByteArray)else bytesOf (fk R (bo (some u) 0).toNat (bo (some u) 1).toNat (bo (some u) 2).toNat))=bytesOf r:=by
 have h2:=QI h;obtain⟨x,y,c,rfl,hy,h⟩:=h;refine⟨rfl,h2,?_⟩;rw[h2];rcases h with h | ⟨hx,hc⟩
 .subst h;refine⟨Or.inr (Or.inl rfl),?_⟩;intro _;show(if _ then(⟨#[]⟩:ByteArray)else bytesOf (fk R _ _ 0))=ByteArray.empty;split<;>rfl
 .rw[Uv ah,Wn hx hy,aaa];refine⟨Or.inr (Or.inr ⟨hx,hy,cW hc (aaz _)⟩),?_⟩;intro _;rw[aal ah,nX hc]
def nF {c:Int} [Decidable (x= -1)] (h:fC R (.slice (ar x y) l.toNat c.toNat) bs) (hy:0<=y) (hl:0<=l) :
 (x= -1\/l=0\/0<=x/\0<=y/\bC R x.toNat y.toNat l.toNat=true)/\(if x= -1 then(⟨#[]⟩:ByteArray)else bytesOf (fk R x.toNat y.toNat l.toNat))=bytesOf bs:=by
 obtain⟨x',y',c',he,hy',h⟩:=h;simp only[Value.slice.injEq]at he;obtain⟨hp,he,_⟩:=he;rcases h with rfl | ⟨h0,h⟩
 .have e:l=0:=by
   have:=he;simp at this;omega
  subst e;refine⟨Or.inr (Or.inl rfl),?_⟩;split<;>rfl
 .obtain⟨rfl,rfl⟩:=km h0 hy' hy hp;refine⟨Or.inr (Or.inr ⟨h0,hy,cW h ah⟩),?_⟩;rw[aal ah,he,nX h]
open Classical in
noncomputable def Kx (f:FuncId):Sx.Spec where
 fn:=f
 own:=[]
 rd:=[0]
 res:=[.one .bool]
 pre:=fun xs Hs Rs=>∃ (u:Value) (t:List Int) (R:Hl) (T:List (List Int)),xs=[u,.agg (aS t).toArray]/\Rs=[R]/\aJ R u jF (T.map aS)/\gI T/\t.length=16
 post:=fun xs Hs Rs w Hs' F=>∀ (u:Value) (t:List Int) (R:Hl) (T:List (List Int)),xs=[u,.agg (aS t).toArray]->Rs=[R]->aJ R u jF (T.map aS)->w=.bool (decide (t∈T))
def qs:aF Tryz.prog [] 183 where
 Λ:=fun p=>if I9 p then some ⟨0,[(8,TI .i64 (.var 30))],[],32⟩else none
 args:=[.sv (.one (.sl (.var 0) (.var 1) (.var 2) (.var 3))),.sv (.agg (ak 4 (List.replicate 16 (.int .u8))))]
 mem:=[.ro 20 [.var 0] false]
 nv:=21
def inW:aF Tryz.prog [] 153 where
 Λ:=fun p=>if I9 p then some ⟨0,[(5,TI .i64 (.var 30))],[],32⟩else none
 args:=[.sv (.one (.sl (.var 0) (.var 1) (.var 2) (.var 3))),.sv (.agg (ak 4 (List.replicate 16 (.int .u8))))]
 mem:=[.ro 20 [.var 0] false]
 nv:=21
def OT {c:Int} (ht:t.length=16) {hs:List Hl} : (ak 4 (List.replicate 16 (Ck.int .u8))).map (CV.ev (aQ ([a,b,c,d]++t) false hs))=aS t:=by
 obtain⟨t0,t1,t2,t3,t4,t5,t6,t7,t8,t9,t10,t11,t12,t13,t14,t15,rfl⟩:∃ a0 a1 a2 a3 a4 a5 a6 a7 a8 a9 a10 a11 a12 a13 a14 a15,t=[a0,a1,a2,a3,a4,a5,a6,a7,a8,a9,a10,a11,a12,a13,a14,a15]:=by
  match t,ht with
  | [a0,a1,a2,a3,a4,a5,a6,a7,a8,a9,a10,a11,a12,a13,a14,a15],_=>exact⟨_,_,_,_,_,_,_,_,_,_,_,_,_,_,_,_,rfl⟩
 rfl
def IY (hR:aJ R (.slice (ar x y) T.length c) jF (T.map aS)) (hy:0<=y) (hT:gI T) (hi:i<T.length) (ht:t.length=16) {g:Nat->Int} (hg:∀ j,j<16->g j=t.getD j 0) :
 0<=x/\bC R x.toNat (y+(i:Int)*16).toNat 16=true/\(eqs g (fun j=>bV (R.cell x.toNat ((y+(i:Int)*16).toNat+j))) 0 16↔T[i]?=some t)/\(eqs (fun j=>bV (R.cell x.toNat ((y+(i:Int)*16).toNat+j))) g 0 16↔T[i]?=some t):=by
 obtain⟨x',y',c',e,hy',hrows⟩:=hR;simp only[Value.slice.injEq]at e;rcases hrows with hn | ⟨hx,hc⟩
 .rw[abv]at hn;rw[hn]at hi;cases hi
 obtain⟨rfl,rfl⟩:=km hx hy' hy e.1;have hs:T[i]?=some T[i]:=aab hi;have m1:=(hT.2 _ (aae hs)).1;obtain⟨b1,c1⟩:=qh hy hc hs m1;refine⟨hx,b1,?_,?_⟩
 .rw[B9 ht m1 hg c1,hs];exact⟨fun h=>by rw[h],fun h=>(aa1 h).symm⟩
 .rw[B9 m1 ht c1 hg,hs];exact⟨fun h=>by rw[h],fun h=>aa1 h⟩
open Classical in
def IX {f:FuncId} (W:aF Tryz.prog [] f) (hW:W.args=qs.args/\W.mem=qs.mem/\W.path=[]) (h:∀ (J:Env) C ms (T:List (List Int)) (R:Hl) (x y:Int) (c:Nat) (t:List Int),J.i 0=x->J.i 1=y->J.i 2=T.length->J.h 20=R->(∀ j,j<16->J.i (4+j)=t.getD j 0)->aJ R (.slice (ar x y) T.length c) jF (T.map aS)->0<=y->gI T->t.length=16 ->
 (∀ (q:Env) (e:E) (mem:Mem),(aY q e=true↔t∈T)->C.post q mem (.sv (.one (.bool e))))->C.inv=(fun(_:Nat) (q:Env)=>∃ i:Nat,q.i 30=i/\i<=T.length/\∀ k,k<i->T[k]?≠some t)->C.mu=(fun(_:Nat) (q:Env)=>((T.length:Int)-q.i 30).toNat)->W.mN C ms J):(Kx f).OK Tryz.prog:=by
 refine Spec.aV (Γ:=[]) (fun _ h=>by cases h) ?_;rintro xs Hs Rs hl1 hl2 ⟨u,t,R,T,rfl,rfl,hR,hT,ht⟩;have e0:Hs=[]:=aad.1 hl1;subst e0;obtain⟨x,y,c,rfl,hy,_⟩:=id hR;rw[aaw]at hR;refine⟨W,aQ ([x,y,T.length,c]++t) false (List.replicate 20 Hl.none++[R]),fun _ q=>∃ i:Nat,q.i 30=i/\i<=T.length/\∀ k,k<i->T[k]?≠some t,fun _ q=>(T.length-q.i 30).toNat,?_,?_,(by rw[hW.2.2];exact fun _ h=>(nomatch h)),?_⟩
 .rw[hW.1,aaw];show [Value.slice (ar x y) ((T.length:Int)).toNat ((c:Int)).toNat,.agg ((ak 4 (List.replicate 16 (Ck.int .u8))).map (CV.ev _)).toArray]=_;rw[aaa,aaa,OT ht]
 .rw[hW.2.1];exact cD (by intro r hr;simp [qs]at hr;subst hr;exact⟨_,_,_,rfl⟩) rfl
 .refine h _ _ _ T R x y c t rfl rfl rfl rfl (fun j hj=>?_) hR hy hT ht (fun q e mem he _=>?_) rfl rfl
  .show([x,y,(T.length:Int),(c:Int)]++t).getD (4+j) 0=_;rw[aap,aav aC,aap];simp
  .refine⟨[],[],rfl,rfl,⟨{Uk with b:=fun _=>aY q e},rfl,zzT,zzT⟩,fun u' t' R' T' e1 e2 hR'=>?_⟩;simp only[aag,aau,Value.agg.injEq,aaH]at e1 e2;obtain⟨rfl,e1⟩:=e1;subst e2;obtain rfl:=jx e1;rw[aaw]at hR';have:=dY (hR.uniq hR');subst this;exact qY he
open Classical in
def BZ:(Kx 183).OK Tryz.prog:=by
 refine IX qs ⟨rfl,rfl,rfl⟩ fun J C ms T R x y c t v0 v1 v2 w20 vt hR hy hT ht out hinv hmu=>?_;refine aF.read [] [] [] ?_;simp only[go_sem,Nat.reduceAdd,hinv,hmu];intro q1 g1 _ q2 g2 _;have hTl:=hT.1;have A2:ai 21 J q2:=g1.tr g2;rw[A2.i 2,v2];refine⟨ah,⟨0,rfl,ah,fun k hk=>ah⟩,fun q g ⟨i,ei,hi,hk⟩=>?_⟩;have A:ai 21 J q:=A2.tr g;rw[A.i 2,v2,ei,A.i 0,v0,A.i 1,v1,A.h 20,w20];refine⟨fun hlt=>?_,fun hge=>out _ _ _ ⟨fun e=>(by rw[cq]at e;cases e),fun hm=>?_⟩⟩
 .obtain⟨hx,hb,E1,E2⟩:=IY hR hy hT (i:=i) ah ht (g:=fun j=>q.i (4+j)) (fun j hj=>by show q.i (4+j)=_;rw[A.i (4+j)];exact vt j hj);have ew:IntKind.i64.wrap (q.i 30+1)=((i+1:Nat):Int):=by rw[ei,IntWalk.i64_in _ ah];omega
  refine⟨hx,hy,ah,hb,fun he=>out _ _ _ ⟨fun _=>aae (E1.1 he),fun _=>by rw[lZ];show(0:Int)<=q.i 30;omega⟩,fun hn=>⟨⟨i+1,ew,ah,fun k hk'=>?_⟩,?_⟩⟩
  .rcases aa5 k i with h1 | h1
   .exact hk k h1
   .obtain rfl:k=i:=ah;exact fun h=>hn (E1.2 h)
  .show((T.length:Int)-IntKind.i64.wrap (q.i 30+1)).toNat<_;rw[ew];omega
 .obtain⟨k,bU⟩:=aaY hm;have:=(aah.1 bU).1;exact absurd bU (hk k ah)
open Classical in
def S3:(Kx 153).OK Tryz.prog:=by
 refine IX inW ⟨rfl,rfl,rfl⟩ fun J C ms T R x y c t v0 v1 v2 w20 vt hR hy hT ht out hinv hmu=>?_;refine aF.read [] [] [] ?_;simp only[go_sem,Nat.reduceAdd,hinv,hmu];intro q1 g1 _;have hTl:=hT.1;refine⟨⟨0,rfl,ah,fun k hk=>ah⟩,fun q g ⟨i,ei,hi,hk⟩=>?_⟩;have A:ai 21 J q:=g1.tr g;rw[A.i 2,v2,ei,A.i 0,v0,A.i 1,v1,A.h 20,w20];refine⟨ah,fun hlt=>?_,fun hge=>out _ _ _ ⟨fun e=>(by rw[cq]at e;cases e),fun hm=>?_⟩⟩
 .obtain⟨hx,hb,E1,E2⟩:=IY hR hy hT (i:=i) ah ht (g:=fun j=>q.i (4+j)) (fun j hj=>by show q.i (4+j)=_;rw[A.i (4+j)];exact vt j hj);have ew:IntKind.i64.wrap (q.i 30+1)=((i+1:Nat):Int):=by rw[ei,IntWalk.i64_in _ ah];omega
  refine⟨hx,hy,ah,hb,fun he=>out _ _ _ ⟨fun _=>aae (E2.1 he),fun _=>bO _⟩,fun hn=>⟨⟨i+1,ew,ah,fun k hk'=>?_⟩,?_⟩⟩
  .rcases aa5 k i with h1 | h1
   .exact hk k h1
   .obtain rfl:k=i:=ah;exact fun h=>hn (E2.2 h)
  .show((T.length:Int)-IntKind.i64.wrap (q.i 30+1)).toNat<_;rw[ew];omega
 .obtain⟨k,bU⟩:=aaY hm;have:=(aah.1 bU).1;exact absurd bU (hk k ah)
def FR {ks:List Ck} (n:Nat) (i0:Nat->Int) (b0:Nat->Bool) (hs:List (Nat×Hl)) (h:bf row (ks.map j8)) :
 ∃ q:Env,(ak n ks).map (CV.ev q)=row/\bu n ks q/\(∀ k,k<n->q.i k=i0 k)/\(∀ k,k<n->q.b k=b0 k)/\∀ k,q.h k=uD hs k:=by
 obtain⟨q,g,hn,e⟩:=cU ks n row ⟨i0,b0,fun _=>.empty,fun _=>.tuple #[],fun _=>Hl.none⟩ h;exact⟨⟨q.i,q.b,q.s,q.v,uD hs⟩,by rw[<-Mt (uD hs)];exact e,NG _ _ _ hn,fun k hk=>g.i k hk,fun k hk=>g.b k hk,fun _=>rfl⟩
def AN (all:Bool) (T:List (List Int)) (h:Hd):Prop:=cB h.c 35=true\/all=true\/∃ t∈T,t∈h.t
open Classical in
noncomputable def Ur (f:FuncId):Sx.Spec where
 fn:=f
 own:=[]
 rd:=[1000001,1001053]
 res:=[.one .bool]
 pre:=fun xs Hs Rs=>∃ (all:Bool) (u:Value) (row:List Value) (RW RH:Hl) (T:List (List Int)) (h:Hd),xs=[.agg #[.bool all,u],.agg row.toArray]/\Rs=[RW,RH]/\aJ RW u jF (T.map aS)/\gI T/\bS RH row h
 post:=fun xs Hs Rs v Hs' F=>∀ (all:Bool) (u:Value) (row:List Value) (RW RH:Hl) (T:List (List Int)) (h:Hd),xs=[.agg #[.bool all,u],.agg row.toArray]->Rs=[RW,RH]->aJ RW u jF (T.map aS)->bS RH row h->v=.bool (decide (AN all T h))
noncomputable def Us:List Sx.Spec:=[Kx 183,Kx 153]
def Tn:∀ t∈Us,t.OK Tryz.prog:=av BZ <| av S3 <| bN
def ZB (f:FuncId):(Kx f).res=[.one .bool]:=rfl
noncomputable def Yi (f s:Nat):aF Tryz.prog Us f where
 Λ:=fun p=>if I9 p then some ⟨0,[(s,TI .i64 (.var 200))],[],202⟩else none
 args:=(bW 0 [.agg [.bool,.sl],.agg bU]).map .sv
 mem:=[.ro 150 [.var 1] false,.ro 151 [.var 58] false]
 nv:=152
def Rw (T:List (List Int)) (h:Hd):Nat->Env->Prop:=fun _ q=>∃ i:Nat,q.i 200=i/\i<=T.length/\∀ k,k<i->∀ t,T[k]?=some t->t∉h.t
set_option maxRecDepth 20000 in
def MY (h:(ak 5 bU).map (CV.ev q)=row):row.getD 53 (.bool false)=.slice (ar (q.i 58) (q.i 59)) (q.i 60).toNat (q.i 61).toNat/\cB row 35=q.b 40:=by
 subst h;exact⟨rfl,rfl⟩
open Classical in
def ND {f s:Nat} (h:∀ (J:Env) (C:Ctx) ms (T:List (List Int)) (R RH:Hl) (x y:Int) (c:Nat) (all:Bool) (hd:Hd),J.i 1=x->J.i 2=y->J.i 3=T.length->J.h 150=R->J.h 151=RH->J.b 0=all->J.b 40=cB hd.c 35->aJ R (.slice (ar x y) T.length c) jF (T.map aS)->0<=y->gI T ->
 aJ RH (.slice (ar (J.i 58) (J.i 59)) (J.i 60).toNat (J.i 61).toNat) jF (hd.t.map aS)->gI hd.t ->
 (∀ (q:Env) (e:E) (mem:Mem),(aY q e=true↔AN all T hd)->C.post q mem (.sv (.one (.bool e))))->C.Γ=Us->C.inv=Rw T hd->C.mu=(fun(_:Nat) (q:Env)=>((T.length:Int)-q.i 200).toNat)->(Yi f s).mN C ms J):(Ur f).OK Tryz.prog:=by
 refine Spec.aV (Γ:=Us) Tn ?_;rintro xs Hs Rs hl1 hl2 ⟨all,u,row,R,RH,T,hd,rfl,rfl,hR,hT,hx⟩;have e0:Hs=[]:=aad.1 hl1;subst e0;obtain⟨x,y,c,rfl,hy,_⟩:=id hR;rw[aaw]at hR;obtain⟨q,eq,hn,ei,eb,eh⟩:=FR 5 (fun k=>([0,x,y,(T.length:Int),(c:Int)]:List Int).getD k 0) (fun _=>all) [(150,R),(151,RH)] hx.ok;obtain⟨e53,e35⟩:=MY eq;refine⟨Yi f s,q,Rw T hd,fun _ q=>((T.length:Int)-q.i 200).toNat,?_,cD (by intro r hr;simp [Yi]at hr;rcases hr with rfl | rfl<;>exact⟨_,_,_,rfl⟩) (by show [q.h 150,q.h 151]=_;rw[eh,eh];rfl),(fun _ h=>(nomatch h)),?_⟩
 .rw[aaw];show [Value.agg #[.bool (q.b 0),.slice (ar (q.i 1) (q.i 2)) (q.i 3).toNat (q.i 4).toNat],.agg ((ak 5 bU).map (CV.ev q)).toArray]=_;rw[eq,eb 0 ah,ei 1 ah,ei 2 ah,ei 3 ah,ei 4 ah];show [Value.agg #[.bool all,.slice (ar x y) ((T.length:Int)).toNat ((c:Int)).toNat],.agg row.toArray]=_;rw[aaa,aaa]
 .have ht:=hx.tok;rw[e53]at ht;refine h q _ _ T R RH x y c all hd (ei 1 ah) (ei 2 ah) (ei 3 ah) (eh _) (eh _) (eb 0 ah) ?_ hR hy hT ht hx.byte (fun q e mem he _=>?_) rfl rfl rfl
  .rw[hx.B (k:=35) aA,e35]
  .refine⟨[],[],rfl,rfl,⟨{Uk with b:=fun _=>aY q e},rfl,zzT,zzT⟩,fun all' u' row' R' RH' T' hd' e1 e2 hR' hx'=>?_⟩;simp only[aag,aau,Value.agg.injEq,aaH,Value.bool.injEq]at e1 e2;obtain⟨⟨rfl,rfl⟩,e1⟩:=e1;obtain⟨rfl,rfl⟩:=e2;have e1:row=row':=aaO (by simpa using e1);subst e1;obtain rfl:=hx.uniq hx';rw[aaw]at hR';have:=dY (hR.uniq hR');subst this;exact qY he
def GZ (hR:aJ R (.slice (ar x y) T.length c) jF (T.map aS)) (hy:0<=y) (hT:gI T) (hi:i<T.length) (hq:q.h 150=R) (h1:q.i 1=x) (h2:q.i 2=y) (h3:q.i 200=i) :
 0<=x/\bC R x.toNat (y+(i:Int)*16).toNat (Int.toNat 16)=true/\(aU 150 (.var 1) ((E.var 2).add ((E.var 200).mul (E.lit 16))) 0 (List.replicate 16 (Kd.int .u8))).map (CV.ev q)=aS T[i]/\(T[i]).length=16:=by
 obtain⟨x',y',c',e,hy',hrows⟩:=hR;simp only[Value.slice.injEq]at e;rcases hrows with hn | ⟨hx,hc⟩
 .rw[abv]at hn;rw[hn]at hi;cases hi
 obtain⟨rfl,rfl⟩:=km hx hy' hy e.1;have hs:T[i]?=some T[i]:=aab hi;have m1:=(hT.2 _ (aae hs)).1;obtain⟨b1,r1⟩:=sB (J:=q) (h:=150) (X:=.var 1) (Y:=(E.var 2).add ((E.var 200).mul (E.lit 16))) hx hy hc hs m1 hq h1 (by simp only[bQ,cx,au,aq];rw[h2,h3]);exact⟨hx,b1,r1,m1⟩
open Classical in
set_option maxRecDepth 20000 in
def Tm:(Ur 120).OK Tryz.prog:=by
 refine ND (s:=8) fun J C ms T R RH x y c all hd v1 v2 v3 w0 w1 b0 b40 hR hy hT hH hHt out hΓ hinv hmu=>?_;refine aF.read [bU] [] [] ?_;simp only[go_sem,Nat.reduceAdd,hΓ,hinv,hmu,Us,ZB];intro q1 g1 _ q2 g2 _;have hTl:=hT.1;have A2:ai 152 J q2:=g1.tr g2;rw[A2.b 40,b40,A2.b 0,b0];refine⟨fun h40=>⟨fun h0=>fun q3 g3 _=>?_,fun h0=>out _ _ _ ⟨fun _=>Or.inr (Or.inl h0),fun _=>bO _⟩⟩,fun h40=>out _ _ _ ⟨fun _=>Or.inl h40,fun _=>bO _⟩⟩;have A3:ai 152 J q3:=A2.tr g3;rw[A3.i 3,v3];refine⟨ah,⟨0,rfl,ah,fun k hk=>ah⟩,fun q g ⟨i,ei,hi,hk⟩=>?_⟩;have A:ai 152 J q:=A3.tr g;rw[A.i 3,v3,ei,A.i 1,v1,A.i 2,v2,A.h 150,w0];refine⟨fun hlt=>?_,fun hge=>out _ _ _ ⟨fun e=>(by rw[cq]at e;cases e),fun hm=>?_⟩⟩
 .obtain⟨hx,hb,_,m1⟩:=GZ hR hy hT (i:=i) ah (q:=q) (by rw[A.h 150,w0]) (by rw[A.i 1,v1]) (by rw[A.i 2,v2]) ei;refine⟨hx,hy,ah,hb,fun q4 g4 _=>?_⟩;have A4:ai 152 J q4:=A.tr g4;have e4:q4.i 200=i:=by rw[g4.i 200,ei]
  obtain⟨_,_,er,_⟩:=GZ hR hy hT (i:=i) ah (q:=q4) (by rw[A4.h 150,w0]) (by rw[A4.i 1,v1]) (by rw[A4.i 2,v2]) e4;rw[er,A4.i 58,A4.i 59,A4.i 60,A4.i 61,A4.h 151,w1];refine⟨⟨_,_,_,_,rfl,rfl,hH,hHt,m1⟩,fun q5 g5 ⟨_,p5,_⟩=>?_⟩;have e5:q5.b 203=decide (T[i]∈hd.t):=Value.bool.inj (p5 _ _ _ _ rfl rfl hH);have e5i:q5.i 200=i:=by rw[g5.i 200,e4]
  rw[e5,aaf];have hs:T[i]?=some T[i]:=aab ah;refine⟨fun hm=>out _ _ _ ⟨fun _=>Or.inr (Or.inr ⟨_,aae hs,hm⟩),fun _=>by rw[lZ];show(0:Int)<=q5.i 200;omega⟩,fun hm=>⟨⟨i+1,?_,ah,fun k hk' t ht=>?_⟩,?_⟩⟩
  .show IntKind.i64.wrap (q5.i 200+1)=_;rw[e5i,IntWalk.i64_in _ ah];omega
  .rcases aa5 k i with h1 | h1
   .exact hk k h1 t ht
   .obtain rfl:k=i:=ah;rw[hs]at ht;cases ht;exact hm
  .show((T.length:Int)-IntKind.i64.wrap (q5.i 200+1)).toNat<_;rw[e5i,IntWalk.i64_in _ ah];omega
 .rcases hm with hm | hm | ⟨t,ht,hm⟩
  .exact absurd hm h40
  .exact absurd hm h0
  .obtain⟨k,bU⟩:=aaY ht;have:=(aah.1 bU).1;exact absurd hm (hk k ah t bU)
open Classical in
set_option maxRecDepth 20000 in
def QO:(Ur 76).OK Tryz.prog:=by
 refine ND (s:=5) fun J C ms T R RH x y c all hd v1 v2 v3 w0 w1 b0 b40 hR hy hT hH hHt out hΓ hinv hmu=>?_;refine aF.read [bU] [] [] ?_;simp only[go_sem,Nat.reduceAdd,hΓ,hinv,hmu,Us,ZB];intro q1 g1 _ q2 g2 _;have hTl:=hT.1;have A2:ai 152 J q2:=g1.tr g2;rw[A2.b 40,b40,A2.b 0,b0];refine⟨fun h40=>⟨fun h0=>⟨⟨0,rfl,ah,fun k hk=>ah⟩,fun q g ⟨i,ei,hi,hk⟩=>?_⟩,fun h0=>out _ _ _ ⟨fun _=>Or.inr (Or.inl h0),fun _=>bO _⟩⟩,fun h40=>out _ _ _ ⟨fun _=>Or.inl h40,fun _=>bO _⟩⟩;have A:ai 152 J q:=A2.tr g;rw[A.i 3,v3,ei,A.i 1,v1,A.i 2,v2,A.h 150,w0];refine⟨ah,fun hlt=>?_,fun hge=>out _ _ _ ⟨fun e=>(by rw[cq]at e;cases e),fun hm=>?_⟩⟩
 .obtain⟨hx,hb,er,m1⟩:=GZ hR hy hT (i:=i) ah (q:=q) (by rw[A.h 150,w0]) (by rw[A.i 1,v1]) (by rw[A.i 2,v2]) ei;rw[er,A.i 58,A.i 59,A.i 60,A.i 61,A.h 151,w1];refine⟨hx,hy,ah,hb,⟨_,_,_,_,rfl,rfl,hH,hHt,m1⟩,fun q5 g5 ⟨_,p5,_⟩=>?_⟩;have e5:q5.b 202=decide (T[i]∈hd.t):=Value.bool.inj (p5 _ _ _ _ rfl rfl hH);have e5i:q5.i 200=i:=by rw[g5.i 200,ei]
  rw[e5,aaf];have hs:T[i]?=some T[i]:=aab ah;refine⟨fun hm=>out _ _ _ ⟨fun _=>Or.inr (Or.inr ⟨_,aae hs,hm⟩),fun _=>bO _⟩,fun hm=>⟨⟨i+1,?_,ah,fun k hk' t ht=>?_⟩,?_⟩⟩
  .show IntKind.i64.wrap (q5.i 200+1)=_;rw[e5i,IntWalk.i64_in _ ah];omega
  .rcases aa5 k i with h1 | h1
   .exact hk k h1 t ht
   .obtain rfl:k=i:=ah;rw[hs]at ht;cases ht;exact hm
  .show((T.length:Int)-IntKind.i64.wrap (q5.i 200+1)).toNat<_;rw[e5i,IntWalk.i64_in _ ah];omega
 .rcases hm with hm | hm | ⟨t,ht,hm⟩
  .exact absurd hm h40
  .exact absurd hm h0
  .obtain⟨k,bU⟩:=aaY ht;have:=(aah.1 bU).1;exact absurd hm (hk k ah t bU)
def kQ:Sx.Spec where
 fn:=63
 own:=[]
 rd:=[0]
 res:=[.one .sl]
 pre:=fun xs Hs Rs=>∃ v R rows,xs=[v]/\Rs=[R]/\aJ R v mP rows/\rows.length<=100000
 post:=fun xs Hs Rs v' Hs' F=>∀ v R rows,xs=[v]->Rs=[R]->aJ R v mP rows->aJ F v' de (rows.map (List.take 125))
def Bh:aF Tryz.prog [] kQ.fn where
 Λ:=fun p=>if I9 p then some ⟨0,[(4,TI .i64 (.var 50)),(3,.sv (.one (.sl (.var 51) (.lit 0) (.var 52) (.var 53))))],[(1,.hp 54 [] [.var 51] [])],60⟩else none
 args:=[.sv (.one (.sl (.var 0) (.var 1) (.var 2) (.var 3)))]
 mem:=[.ro 4 [.var 0] true]
 nv:=5
def tI:kQ.OK Tryz.prog:=by
 refine Spec.aV (Γ:=[]) (fun _ h=>by cases h) ?_;rintro xs Hs Rs hl1 hl2 ⟨v,R,rows,rfl,rfl,hR,hlen⟩;have e0:Hs=[]:=aad.1 hl1;subst e0;obtain⟨x,y,c,rfl,hy,_⟩:=id hR;refine⟨Bh,aQ [x,y,rows.length,c] false [Hl.none,Hl.none,Hl.none,Hl.none,R],fun _ q=>∃ k:Nat,q.i 50=k/\k<=rows.length/\ -1<=q.i 51/\q.i 52=k/\0<=q.i 53/\sE (q.h 54) 65 de (.slice (ar (q.i 51) 0) (q.i 52).toNat (q.i 53).toNat) ((rows.take k).map (List.take 125)),fun _ q=>(rows.length-q.i 50).toNat,?_,cD (by intro r hr;simp [Bh]at hr;subst hr;exact⟨_,_,_,rfl⟩) rfl,(fun _ h=>nomatch h),?_⟩
 .show [Value.slice (ar x y) ((rows.length:Int)).toNat ((c:Int)).toNat]=_;rw[aaa,aaa]
 refine aF.read [] [de] [] ?_;generalize hρ:aQ [x,y,rows.length,c] false [Hl.none,Hl.none,Hl.none,Hl.none,R]=J;have V:∀ q:Env,ai 5 J q->q.i 0=x/\q.i 1=y/\q.i 2=rows.length/\q.h 4=R:=fun q hg=>by
  rw[hg.i 0,hg.i 1,hg.i 2,hg.h 4,<-hρ];exact⟨rfl,rfl,rfl,rfl⟩
 clear hρ;simp only[go_sem,Nat.reduceAdd];refine⟨⟨0,rfl,abn _,aar _,rfl,aar _,sE.nil _ _ _⟩,fun q g ⟨k,ek,hk,x51,e52,x53,ho⟩=>?_⟩;obtain⟨v0,v1,v2,w4⟩:=V q g;rw[v0,v1,v2,w4,ek];refine⟨ah,fun hlt=>?_,fun hge=>?_⟩
 .have hx0:0<=x:=by
   obtain⟨x',y',c',he,hy',hh⟩:=id hR;rcases hh with h | ⟨h,_⟩
   .rw[h]at hlt;simp at hlt;omega
   .simp only[Value.slice.injEq]at he;obtain⟨e1,_⟩:=km h hy' hy he.1;omega
  have hR':aJ R (.slice (ar x y) ((rows.length:Int)).toNat ((c:Int)).toNat) mP rows:=by rw[aaa,aaa];exact hR
  obtain⟨_,hat⟩:=hR'.at ah hy ah;have hr:rows[k]?=some rows[k]:=aab ah;obtain⟨_,rok,cells⟩:=hat k _ hr;have ho':=gF (n:=125) rok;rw[pP]at ho';have hc:∀ i u,(rows[k].take 125)[i]?=some u->R.cell x.toNat ((y+(k:Int)*126).toNat+i)=some u:=fun i u hu=>by
   rw[aa2]at hu;split at hu
   .have:=cells i u hu;rw[fY]at this;rw[show(y+(k:Int)*126).toNat=y.toNat+k*126 by omega];exact this
   .cases hu
  have hc':∀ i u,rows[k][i]?=some u->R.cell x.toNat ((y+(k:Int)*126).toNat+i)=some u:=fun i u hu=>by
   have:=cells i u hu;rw[fY]at this;rw[show(y+(k:Int)*126).toNat=y.toNat+k*126 by omega];exact this
  refine⟨hx0,hy,ah,jR _ ho' hc,fun q1 g1 _=>?_⟩;have G1:ai 5 J q1:=g.tr g1;obtain⟨u0,u1,u2,z4⟩:=V q1 G1;have er:List.map (CV.ev q1) (aU 4 (.var 0) (.add (.var 1) (.mul (.var 50) (.lit 126))) 0 de)=rows[k].take 125:=dq _ de 0 ho' fun i u hu=>by
   show(q1.h 4).cell (q1.i 0).toNat ((q1.i 1+q1.i 50*126).toNat+(0+i))=some u;rw[u0,u1,z4,g1.i 50,ek,aaM];exact hc i u hu
  rw[er,g1.i 51,g1.i 52,g1.i 53,g1.h 54];have hl52:q.i 52=((rows.take k).map (List.take 125)).length:=by rw[aaw,aaA,e52];omega
  refine⟨⟨⟨_,ho.pre hl52⟩,ah,by unfold maxLen;omega,ah⟩,fun q2 g2 ⟨a1,a2,happ,_⟩=>?_⟩;have ha:=ho.app hl52 ho' happ;refine⟨⟨k+1,?_,ah,a1,?_,a2,?_⟩,?_⟩
  .show IntKind.i64.wrap (q2.i 50+1)=_;rw[g2.i 50,g1.i 50,ek];exact wrap_i64 ah ah
  .show q2.i 52+1=_;rw[g2.i 52,g1.i 52,e52];rfl
  .show sE (q2.h 61) _ de (.slice (ar (q2.i 61) 0) (q2.i 52+1).toNat (q2.i 62).toNat) _;rw[g2.i 52,g1.i 52,abJ,hr,abN,aaK];exact ha
  .show((rows.length:Int)-IntKind.i64.wrap (q2.i 50+1)).toNat<_;rw[g2.i 50,g1.i 50,ek,wrap_i64 ah ah];omega
 .have:k=rows.length:=ah;subst this;rw[abg]at ho;intro _;refine⟨[],[1],rfl,rfl,⟨(bh fun j=>[q.i 51,0,q.i 52,q.i 53].getD j 0),rfl,⟨x51,aar _,by show 0<=q.i 52;omega,x53⟩,zzT⟩,fun v' R' rows' e1 e2 hR'=>?_⟩;simp only[aag,aau]at e1 e2;subst e1 e2;obtain rfl:=hR.uniq hR';show aJ (cu [q.h 54]) _ _ _;rw[aL];exact ho.rd
end Go.Proofs.YtomdimlnggpgbaaGreatDoor
namespace Go.Sx
open Go
def sK:∀ (ns:List Int) (r:ByteArray),(ns.foldl (fun r n=>r.push (UInt8.ofNat n.toNat)) r).data.toList=r.data.toList++ns.map fun n=>UInt8.ofNat n.toNat
 | [],r=>aC
 | n::ns,r=>by
  rw[acC,sK ns];show(r.data.push _).toList++_=_;rw[Array.toList_push,aaF];rfl
def DA:∀ {a b:List Int},(∀ z∈a,0<=z/\z<256)->(∀ z∈b,0<=z/\z<256)->bytesOf a=bytesOf b->a=b:=by
 have key:∀ (a b:List Int),(∀ z∈a,0<=z/\z<256)->(∀ z∈b,0<=z/\z<256)->(a.map fun n=>UInt8.ofNat n.toNat)=(b.map fun n=>UInt8.ofNat n.toNat)->a=b:=by
  intro a
  induction a with
  | nil=>intro b _ _ h;cases b with
   | nil=>rfl
   | cons y b=>cases h
  | cons x a ih =>
   intro b ha hb h;cases b with
   | nil=>cases h
   | cons y b =>
    rw[aax,aax,aag]at h;have hx:=ha x (aaI ..);have hy:=hb y (aaI ..);have e:=aaQ UInt8.toNat h.1;rw[UInt8.toNat_ofNat',UInt8.toNat_ofNat']at e;have:x=y:=ah;subst this;rw[ih b (fun z h=>ha z (aaq _ h)) (fun z h=>hb z (aaq _ h)) h.2]
 intro a b ha hb h;have:=aaQ (fun x:ByteArray=>x.data.toList) h;unfold bytesOf at this;simp only[sK]at this;exact key a b ha hb (by simpa using this)
end Go.Sx
namespace Go.Proofs.YtomdimlnggpgbaaGreatDoor
open Go Go.Sx Go.Pk
variable {a:Act}{q:Env}{A B G G' H H' K KB R R' R1 R2 T:Hl}{most x1 z:Int}{rows:List (List Value)}{ks:List Ck}{L ps:List Pc}{row:List Value}{X:List Value->Pc->Prop}{b b6 b7 b9 c c1 dn g i k m n n1 t uc ul x y:Nat}{cv cv':Nat->Int}{st st':Nat->List Pc}{cur:Nat->Nat}{sv:Nat->Value}{o o':Obj}{p:Pc}{P:Program}{s:Sx.Spec}{α:Type}{w:World}
def Oq {x y:Int} (h:aJ R (.slice (ar x y) n c) de rows) (hy:0<=y) (hk:rows[k]?=some row) :
 0<=x/\tL R x.toNat (y+(k:Int)*125).toNat de=true/\∀ {q:Env} {g:Nat} {a b:E},q.h g=R->az q a=x->az q b=y+(k:Int)*125->(aU g a b 0 de).map (CV.ev q)=row:=by
 obtain⟨x1,y1,c1,he,hy1,hr⟩:=h;simp only[Value.slice.injEq]at he;rcases hr with rfl | ⟨hx1,hr⟩
 .simp at hk
 obtain⟨e1,e2⟩:=km hx1 hy1 hy he.1;subst e1 e2;obtain⟨ro,h2⟩:=hr k _ hk;have e:(y+(k:Int)*125).toNat=y.toNat+k*de.length:=by rw[show de.length=125 from rfl];omega
 have hc:∀ i u,row[i]?=some u->R.cell x.toNat ((y+(k:Int)*125).toNat+i)=some u:=fun i u hu=>by rw[e];exact h2 i u hu
 refine⟨hx1,jR _ ro hc,fun {q g a b} hg ha hb=>dq row de 0 ro fun i u hu=>?_⟩;rw[hg,ha,hb,aaM];exact hc i u hu
def zE:Sx.Spec where
 fn:=101
 own:=[]
 rd:=[0,100,2000003]
 res:=[.agg (List.replicate 32 (Ck.int .u8))]
 pre:=fun xs Hs Rs=>∃ v R T RG rows hs,xs=[v]/\Rs=[R,T,RG]/\aJ R v de rows/\gn T rows hs/\rows.length<=100000/\uf RG 3
 post:=fun xs Hs Rs v' Hs' F=>∀ v R T RG rows hs,xs=[v]->Rs=[R,T,RG]->aJ R v de rows->gn T rows hs->v'=.agg (aS (ji hs)).toArray
noncomputable def Xe:List Sx.Spec:=[W6]
def YS:W6.res=[.agg (List.replicate 32 (Ck.int .u8))]:=rfl
noncomputable def RN:aF Tryz.prog Xe zE.fn where
 Λ:=aD
 args:=[.sv (.one (.sl (.var 0) (.var 1) (.var 2) (.var 3)))]
 mem:=[.ro 4 [.var 0] false,.ro 5 [] true,.ro 6 [.lit 3] false]
 nv:=7
def AU (h:Qi ks=true):fe n [.agg ks] q:=⟨cC _ _ _ h,zzT⟩
def Fe:zE.OK Tryz.prog:=by
 refine Spec.aV (Γ:=Xe) (fun t ht=>by rw[Xe,aam]at ht;subst ht;exact TO) ?_;rintro xs Hs Rs hl1 hl2 ⟨v,R,T,RG,rows,hs,rfl,rfl,hR,hA,hlen,hK⟩;have e0:Hs=[]:=aad.1 hl1;subst e0;obtain⟨x,y,c,rfl,hy,_⟩:=id hR;refine⟨RN,aQ [x,y,rows.length,c] false [Hl.none,Hl.none,Hl.none,Hl.none,R,T,RG],fun _ _=>True,fun _ _=>0,?_,cD (by intro r hr;simp [RN]at hr;rcases hr with rfl | rfl | rfl<;>exact⟨_,_,_,rfl⟩) rfl,(fun _ h=>nomatch h),?_⟩
 .show [Value.slice (ar x y) ((rows.length:Int)).toNat ((c:Int)).toNat]=_;rw[aaa,aaa]
 refine aF.read [] [de] [] ?_;generalize hρ:aQ [x,y,rows.length,c] false [Hl.none,Hl.none,Hl.none,Hl.none,R,T,RG]=J;have V:∀ q:Env,ai 7 J q->q.i 0=x/\q.i 1=y/\q.i 2=rows.length/\q.h 4=R/\q.h 5=T/\q.h 6=RG:=fun q hg=>by
  rw[hg.i 0,hg.i 1,hg.i 2,hg.h 4,hg.h 5,hg.h 6,<-hρ];exact⟨rfl,rfl,rfl,rfl,rfl,rfl⟩
 clear hρ;have out:∀ {v'},v'=Value.agg (aS (ji hs)).toArray->∀ F,zE.post [.slice (ar x y) rows.length c] [] [R,T,RG] v' [] F:=fun {v'} hv F v2 R' T' RG' rows' hs' e1 e2 h1 h2=>by
  simp only[aag,aau]at e1 e2;obtain⟨rfl,rfl,rfl⟩:=e2;subst e1;obtain rfl:=hR.uniq h1;rw[hA.uniq h2]at hv;exact hv
 simp only[go_sem,Nat.reduceAdd,Xe,YS];intro q1 g1 _;obtain⟨v0,v1,v2,w4,w5,w6⟩:=V q1 g1;rw[v0,v1,v2,w4,w5,w6];refine⟨ah,fun h0 _=>?_,fun hne=>?_⟩
 .have:hs=[]:=aad.1 (by have:=hA.1;omega);refine⟨[],[],rfl,rfl,⟨(bh fun _=>0),rfl,AU rfl⟩,out ?_ _⟩;subst this;rfl
 .have hw:IntKind.i64.wrap ((rows.length:Int)-1)=((rows.length-1:Nat):Int):=by rw[IntKind.wrap_i64];omega
  obtain⟨row,hr⟩:∃ row,rows[rows.length-1]?=some row:=⟨_,aab ah⟩;obtain⟨h,hh⟩:∃ h,hs[rows.length-1]?=some h:=⟨_,aab (by have:=hA.1;omega)⟩;obtain⟨hx0,hri,hrc⟩:=Oq hR hy hr;have hI:=hA.2 _ _ _ hr hh;have er:=hrc (q:=q1) (g:=4) (a:=.var 0) (b:=(E.var 1).add ((E.wrap .i64 ((E.var 2).sub (.lit 1))).mul (.lit 125))) w4 v0 (by
   show q1.i 1+IntKind.i64.wrap (q1.i 2-1)*125=_;rw[v1,v2,hw])
  rw[er,hw];refine⟨hx0,hy,ah,ah,hri,⟨_,T,RG,h,rfl,rfl,hI,hK⟩,fun q2 g2 ⟨F,hp,_⟩ _=>?_⟩;have hp:=hp _ _ _ _ rfl rfl hI;have et:ji hs=nj h:=by
   unfold ji;have:hs.getLast?=some h:=by rw[List.getLast?_eq_getElem?,<-hA.1];exact hh
   rw[this]
  rw[<-et]at hp;refine⟨[],[],rfl,rfl,⟨(bh fun k=>q2.i (k+8)),rfl,AU rfl⟩,out hp _⟩
def Ot (f:Nat->Int) (hs:List (Nat×Hl)) (h:bf row (ks.map j8)):∃ q:Env,row=(ak 0 ks).map (CV.ev q)/\(∀ k,q.h k=uD hs k)/\(∀ k,bc ks<=k->q.i k=f k):=by
 obtain⟨q,hr,_,hh⟩:=CN (ks:=ks) hs h;refine⟨⟨fun k=>if bc ks<=k then f k else q.i k,q.b,q.s,q.v,q.h⟩,?_,hh,fun k hk=>aay hk⟩;rw[hr];have g:ai (bc ks) q ⟨fun k=>if bc ks<=k then f k else q.i k,q.b,q.s,q.v,q.h⟩:=⟨fun k hk=>aal ah,fun _ _=>rfl,fun _ _=>rfl,fun _ _=>rfl,fun _ _=>rfl⟩;exact(aaQ Array.toList (Value.agg.inj (fS (ks:=ks) (n:=0) g ah))).symm
noncomputable def EX:Sx.Spec where
 fn:=66
 own:=[]
 rd:=[1,100,10253,2000003]
 res:=[.one (.int .i64)]
 pre:=fun xs Hs Rs=>∃ w v row R T T2 RG rows hs h,xs=[.int .i64 w,v,.agg row.toArray]/\Rs=[R,T,T2,RG]/\aJ R v de rows/\gn T rows hs/\(∀ g∈hs,g.Form)/\bS T2 row h/\rows.length<=100000/\uf RG 3
 post:=fun xs Hs Rs v' Hs' F=>∀ w v row R T T2 RG rows hs h,xs=[.int .i64 w,v,.agg row.toArray]->Rs=[R,T,T2,RG]->aJ R v de rows->gn T rows hs->bS T2 row h->v'=.int .i64 (gu w hs h)
noncomputable def W9:List Sx.Spec:=[hZ 65,zE,fJ 71]
def YB:zE.res=[.agg (List.replicate 32 (Ck.int .u8))]:=rfl
noncomputable def RJ:aF Tryz.prog W9 EX.fn where
 Λ:=aD
 args:=TI .i64 (.var 129)::.sv (.one (.sl (.var 130) (.var 131) (.var 132) (.var 133)))::(bW 0 [.agg bU]).map .sv
 mem:=[.ro 134 [.var 130] false,.ro 135 [] true,.ro 136 [.var 53] false,.ro 137 [.lit 3] false]
 nv:=138
open Classical in
set_option maxRecDepth 20000 in
def N8:EX.OK Tryz.prog:=by
 refine Spec.aV (Γ:=W9) (fun t ht=>?_) ?_
 .simp only[W9,aan,aat,aaX]at ht;rcases ht with rfl | rfl | rfl
  .exact uP
  .exact Fe
  .exact zn
 rintro xs Hs Rs hl1 hl2 ⟨w,v,row,R,T,T2,RG,rows,hs,h,rfl,rfl,hR,hA,hFs,hx,hlen,hK⟩;have e0:Hs=[]:=aad.1 hl1;subst e0;obtain⟨x,y,c,rfl,hy,_⟩:=id hR;obtain⟨J,hrow0,hh,hv⟩:=Ot (ks:=bU) (fun k=>[w,x,y,rows.length,c].getD (k-129) 0) [(134,R),(135,T),(136,T2),(137,RG)] hx.ok;have hc2:bc bU<=129:=by decide
 have v9:J.i 129=w:=hv 129 ah;have v0:J.i 130=x:=hv 130 ah;have v1:J.i 131=y:=hv 131 ah;have v2:J.i 132=rows.length:=hv 132 ah;have v3:J.i 133=c:=hv 133 ah;have w4:J.h 134=R:=hh 134;have w5:J.h 135=T:=hh 135;have w6:J.h 136=T2:=hh 136;have w7:J.h 137=RG:=hh 137;refine⟨RJ,J,fun _ _=>True,fun _ _=>0,?_,cD (by intro r hr;simp [RJ]at hr;rcases hr with rfl | rfl | rfl | rfl<;>exact⟨_,_,_,rfl⟩) (by show [J.h 134,J.h 135,J.h 136,J.h 137]=_;rw[w4,w5,w6,w7]),(fun _ h=>nomatch h),?_⟩
 .show [Value.int .i64 (J.i 129),.slice (ar (J.i 130) (J.i 131)) (J.i 132).toNat (J.i 133).toNat,.agg ((ak 0 bU).map (CV.ev J)).toArray]=_;rw[v9,v0,v1,v2,v3,<-hrow0,aaa,aaa]
 refine aF.read [bU] [de] [] ?_;simp only[go_sem,Nat.reduceAdd,W9,Sv,YB,Zw,Jy];have V:∀ q:Env,ai 138 J q->(q.i 129=w/\q.i 130=x/\q.i 131=y/\q.i 132=rows.length)/\(q.h 134=R/\q.h 135=T/\q.h 136=T2/\q.h 137=RG)/\(ak 0 bU).map (CV.ev q)=row/\q.i 0=J.i 0/\q.i 1=J.i 1/\ig q 2=ig J 2/\Value.slice (ar (q.i 130) (q.i 131)) (q.i 132).toNat (q.i 133).toNat=.slice (ar x y) rows.length c:=fun q g=>by
  refine⟨⟨by rw[g.i 129,v9],by rw[g.i 130,v0],by rw[g.i 131,v1],by rw[g.i 132,v2]⟩,⟨by rw[g.h 134,w4],by rw[g.h 135,w5],by rw[g.h 136,w6],by rw[g.h 137,w7]⟩,?_,g.i 0,g.i 1,CQ g ah,?_⟩
  .rw[hrow0];exact aaQ Array.toList (Value.agg.inj (fS (ks:=bU) (n:=0) g aA))
  .rw[g.i 130,g.i 131,g.i 132,g.i 133,v0,v1,v2,v3,aaa,aaa]
 have out:∀ {q:Env} {mem:Mem} {e:E},az q e=gu w hs h->postOf EX [.int .i64 w,.slice (ar x y) rows.length c,.agg row.toArray] [] [R,T,T2,RG] q mem (.sv (.one (.int .i64 e))):=fun {q mem e} he =>
  pw rfl he fun F w' v' row' R' T' T2' RG' rows' hs' h' e1 e2 hR' hA' hx'=>by
   simp only[aag,aau,Value.int.injEq,aaZ,Value.agg.injEq]at e1 e2;obtain⟨rfl,rfl,e1⟩:=e1;obtain⟨rfl,rfl,rfl,rfl⟩:=e2;have e1:=aaO e1;subst e1;obtain rfl:=hR.uniq hR';obtain rfl:=hA.uniq hA';rw[hx.uniq hx']
 have h0:cI h.c 0=J.i 0:=by
  have e1:cI h.c 0=cI row 0:=hx.I aA;rw[e1,hrow0];rfl
 have h1:cI h.c 1=J.i 1:=by
  have e1:cI h.c 1=cI row 1:=hx.I aA;rw[e1,hrow0];rfl
 have h2:ba h.c 2 32=ig J 2:=by
  have:ba h.c 2 32=ba row 2 32:=by
   unfold ba;refine abf fun j hj=>hx.I ?_;have:=aaP.1 hj;omega
  rw[this,hrow0];rfl
 have hlr:rows.length=hs.length:=hA.1;intro q1 g1 p1;obtain⟨_,⟨_,_,x6,_⟩,xr,_⟩:=V q1 g1;rw[xr,x6];refine⟨⟨_,T2,h,rfl,rfl,hx⟩,fun q2 g2 ⟨F2,hp2,_⟩=>?_⟩;have G2:ai 138 J q2:=g1.tr g2;have hb2:q2.b 139=decide h.Form:=Value.bool.inj (ng hx hp2);obtain⟨⟨y9,y0,y1,y2⟩,⟨y4,y5,y6,y7⟩,yr,yi0,yi1,ys,ysl⟩:=V q2 G2;refine⟨fun hb=>?_,fun hb=>out ?_⟩
 rotate_left
 .have hF:¬h.Form:=by rw[hb2]at hb;simpa using hb
  unfold gu;rw[aay (Or.inl hF)];rfl
 have hF:h.Form:=by rw[hb2]at hb;simpa using hb
 have hseq:1<=cI h.c 1/\cI h.c 1<=1048576:=hF.1.2.1;rw[h1]at hseq;rw[ysl,yi0,yi1,y9,y0,y1,y2,y4,y5];have wl:IntKind.u64.wrap (rows.length:Int)=rows.length:=by rw[IntKind.wrap_u64];omega
 have ws:IntKind.u64.wrap (J.i 1-1)=(((J.i 1-1).toNat:Nat):Int):=by rw[IntKind.wrap_u64];omega
 refine⟨fun hne=>out ?_,fun heq=>⟨ah,fun hle=>?_,fun hgt=>?_⟩⟩
 .unfold gu;rw[aay (Or.inr (by rw[h0];exact hne))];rfl
 .have hn1:¬(¬h.Form\/cI h.c 0≠w):=by rw[h0];exact fun hh=>hh.elim (fun g=>g hF) (fun g=>g heq)
  rw[wl]at hle;have hk:(J.i 1-1).toNat<rows.length:=ah;obtain⟨row',hr⟩:∃ row',rows[(J.i 1-1).toNat]?=some row':=⟨_,aab hk⟩;obtain⟨h',hh'⟩:∃ h',hs[(J.i 1-1).toNat]?=some h':=⟨_,aab ah⟩;obtain⟨hx0,hri,hrc⟩:=Oq hR hy hr;have hI:=hA.2 _ _ _ hr hh';have er:=hrc (q:=q2) (g:=134) (a:=.var 130) (b:=(E.var 131).add ((E.wrap .u64 ((E.var 1).sub (.lit 1))).mul (.lit 125))) y4 y0 (by
   show q2.i 131+IntKind.u64.wrap (q2.i 1-1)*125=_;rw[y1,yi1,ws])
  rw[er,ws];refine⟨hx0,hy,ah,hri,⟨_,T,h',rfl,rfl,hI⟩,fun q3 g3 ⟨F3,hp3,hF3,hn3⟩=>?_⟩;have B3:=nT hI hp3;rw[<-hF3 zzT]at B3;have n3:-1<=q3.i 140/\0<=q3.i 141/\0<=q3.i 142/\0<=q3.i 143:=hn3.1;have G3:ai 138 J q3:=G2.tr g3;obtain⟨_,⟨_,_,z6,_⟩,zr,_⟩:=V q3 G3;rw[zr,z6];refine⟨(nF B3.rd.w n3.2.1 n3.2.2.1).1,⟨_,T2,h,rfl,rfl,hx⟩,fun q4 g4 ⟨F4,hp4,hF4,hn4⟩=>?_⟩;have B4:=nT hx hp4;rw[<-hF4 zzT]at B4;have n4:-1<=q4.i 144/\0<=q4.i 145/\0<=q4.i 146/\0<=q4.i 147:=hn4.1;have B3':bM (q4.h 140) 5 (.slice (ar (q4.i 140) (q4.i 141)) (q4.i 142).toNat (q4.i 143).toNat) (bD h'):=by
   rw[g4.h 140,g4.i 140,g4.i 141,g4.i 142,g4.i 143];exact B3
  have t3:=nF B3'.rd.w (by rw[g4.i 141];exact n3.2.1) (by rw[g4.i 142];exact n3.2.2.1);have t4:=nF B4.rd.w n4.2.1 n4.2.2.1;rw[t3.2,t4.2];have key:(hs[(cI h.c 1-1).toNat]?=some h)↔bytesOf (bD h')=bytesOf (bD h):=by
   rw[h1,hh',aak];refine⟨fun e=>by rw[e],fun e=>?_⟩;have e:=DA (L6 hI).1 (L6 hx).1 e;exact(BV hI hx (hFs _ (aae hh')) hF).1 e
  refine⟨t4.1,fun he=>out ?_,fun he=>out ?_⟩
  .unfold gu;rw[aal hn1,aay (by rw[h1];omega),aay (key.2 he)];rfl
  .unfold gu;rw[aal hn1,aay (by rw[h1];omega),aal (fun g=>he (key.1 g))];rfl
 .have hn1:¬(¬h.Form\/cI h.c 0≠w):=by rw[h0];exact fun hh=>hh.elim (fun g=>g hF) (fun g=>g heq)
  rw[wl]at hgt ⊢;have wl2:IntKind.u64.wrap ((rows.length:Int)+1)=(rows.length:Int)+1:=by rw[IntKind.wrap_u64];omega
  have GD:¬cI h.c 1<=hs.length:=by rw[h1];omega
  rw[wl2,y7];refine⟨fun hlt=>out ?_,fun hge=>⟨⟨_,R,T,RG,rows,hs,rfl,rfl,hR,hA,hlen,hK⟩,fun q3 g3 ⟨F3,hp3,_⟩=>?_⟩⟩
  .unfold gu;rw[aal hn1,aal GD,aay (by rw[h1];omega)];rfl
  have hp3:=hp3 _ _ _ _ _ _ rfl rfl hR hA;have hp3:ig q3 140=ji hs:=by
   have hp:Value.agg (aS (ig q3 140)).toArray=.agg (aS (ji hs)).toArray:=hp3;exact jx (aaQ Array.toList (Value.agg.inj hp))
  have G3:ai 138 J q3:=G2.tr g3;obtain⟨_,_,_,_,_,zs,_⟩:=V q3 G3;have hge':¬((hs.length:Int)+1<cI h.c 1):=by rw[h1];omega
  have key:=HG q3 q3 2 140;rw[hp3,zs,<-h2]at key;refine⟨fun hne=>out ?_,fun heq=>out ?_⟩
  .have hne:¬ba h.c 2 32=ji hs:=fun g=>hne (key.1 g);unfold gu;rw[aal hn1,aal GD,aal hge',aay hne];rfl
  .have heq:ba h.c 2 32=ji hs:=key.2 heq;unfold gu;rw[aal hn1,aal GD,aal hge',aal (fun g=>g heq)];rfl
def LH (s:Sx.Spec) (rd:List Nat):Sx.Spec:={s with rd:=rd,pre:=fun xs Hs Rs=>∀ U:Hl,(∀ R∈Rs,R.le U)->s.pre xs Hs (List.replicate s.rd.length U),post:=fun xs Hs Rs v Hs' F=>∃ U:Hl,(∀ R∈Rs,R.le U)/\s.post xs Hs (List.replicate s.rd.length U) v Hs' F}
def np {w:World} : ∀ {l:List Hl} (_:∀ R∈l,R.sub w) {R:Hl},R∈l->R.le (cu l)
 | A::l,h,R,hR=>by
  have hs:(cu l).sub w:=td fun X hX=>h X (aaq _ hX);intro b o hb;show(A.un (cu l)) b=some o;rcases aan.1 hR with rfl | hR
  .exact Hl.aX _ _ b o hb
  .have e:=np (fun X hX=>h X (aaq _ hX)) hR b o hb;unfold Hl.un;cases hA:A b with
   | none=>exact e
   | some o' =>
    have h1:=h A (aaI ..) b o' hA;rw[hs b o e]at h1;cases h1;rfl
def IA {H:Hl} : ∀ {l:List Hl},(∀ R∈l,H.bq R)->H.bq (cu l)
 | [],_=>Hl.xW H
 | _::_,h=>Hl.xX (h _ (aaI ..)) (IA fun R hR=>h R (aaq _ hR))
def vj {rd:List Nat} (h:s.OK P):(LH s rd).OK P:=by
 intro w xs Hs Rs l1 l2 s1 s2 d1 d2 hp;have hU:(cu Rs).sub w:=td s2;have hle:∀ R∈Rs,R.le (cu Rs):=fun R hR=>np s2 hR;refine(h w xs Hs (List.replicate s.rd.length (cu Rs)) l1 aba s1 (fun R hR=>by rw[(acg.1 hR).2];exact hU) d1 (fun H hH R hR=>by rw[(acg.1 hR).2];exact IA (d2 H hH)) (hp _ hle)).mono ?_;rintro e w' ⟨J,Hs',F,he,hn,ht,hpost⟩;exact⟨J,Hs',F,he,hn,ht,_,hle,hpost⟩
def PB (s:Sx.Spec):Sx.Spec:={s with post:=fun xs Hs Rs v Hs' F=>s.post xs Hs Rs v Hs' F/\∀ H∈Hs,∀ R∈Rs,H.bq R}
def PC (h:s.OK P):(PB s).OK P:=fun w xs Hs Rs l1 l2 s1 s2 d1 d2 hp=>(h w xs Hs Rs l1 l2 s1 s2 d1 d2 hp).mono fun _ _ ⟨J,Hs',F,a,b,c,d⟩=>⟨J,Hs',F,a,b,c,d,d2⟩
def WE (A B:Hl) (rows:List (List Value)) (hs:List Hd):Prop:=rows.length=hs.length/\∀ U:Hl,A.le U->B.le U->gn U rows hs
def O3 (T K:Hl) (row:List Value) (p:Pc):Prop:=bf row mP/\∀ U:Hl,T.le U->K.le U->dz U U row p
def O3.mono {K':Hl} (h:O3 T K row p) (hk:K.le K'):O3 T K' row p:=⟨h.1,fun U a b=>h.2 U a fun k o hx=>b k o (hk k o hx)⟩
def dz.u (h:dz T K row p):O3 T K row p:=⟨h.ok,fun _ a b=>h.mono a b⟩
def Il (hl:R.le R') {v:Value} (h:R.cell x y=some v):R'.cell x y=some v:=by
 unfold Hl.cell at h ⊢;cases e:R x with
 | none=>rw[e]at h;cases h
 | some o=>rw[hl _ _ e];rw[e]at h;exact h
def uf.mono (h:uf R g) (hl:R.le R'):uf R' g:=fun j hj=>Il hl (h j hj)
def TM (sv:Nat->Value):List Value:=[sv 0,sv 1,sv 2,sv 3,sv 4,sv 5]
def TN (sv:Nat->Value) (h:i<6):(TM sv)[i]?=some (sv i):=by
 have:i=0\/i=1\/i=2\/i=3\/i=4\/i=5:=ah;rcases this with rfl | rfl | rfl | rfl | rfl | rfl<;>rfl
def QN (sv:Nat->Value) (v:Value) (h:i<6):bz (TM sv) i [v]=TM (vk sv i v):=by
 have:i=0\/i=1\/i=2\/i=3\/i=4\/i=5:=ah;rcases this with rfl | rfl | rfl | rfl | rfl | rfl<;>rfl
structure RfW (H T:Hl) (x:Nat) (st:Nat->List Pc) (sv:Nat->Value) (KB:Hl):Prop where
 bd:H x=some (.cells (TM sv).toArray 57 (0,0))
 row:∀ i,i<6->∃ rows,sE H 67 mP (sv i) rows/\rows.length=(st i).length/\∀ (j:Nat) row p,rows[j]?=some row->(st i)[j]?=some p->O3 T KB row p
 kb:KB.le H
structure O4 (H T:Hl) (x:Nat) (st:Nat->List Pc) (sv:Nat->Value) (KB:Hl):Prop extends RfW H T x st sv KB where
 kbx:¬KB.mem x
 own:∀ i b,i<6->(sv i).ownBlock=some b->¬KB.mem b/\∀ j,j<6->j≠i->(sv j).ownBlock≠some b
 form:∀ i,i<6->∀ p∈st i,p.h.Form
def lP (H T:Hl) (x:Nat) (st:Nat->List Pc):Prop:=∃ sv KB,O4 H T x st sv KB
def O5 (H T:Hl) (x:Nat) (st:Nat->List Pc):Prop:=∃ sv KB,RfW H T x st sv KB
def lP.v (h:lP H T x st):O5 H T x st:=by obtain⟨sv,KB,h⟩:=h;exact⟨sv,KB,h.toRfW⟩
def RfW.mono (hl:H.le H') (h:RfW H T x st sv KB):RfW H' T x st sv KB:=by
 refine⟨hl _ _ h.bd,fun i hi=>?_,fun b o hb=>hl b o (h.kb b o hb)⟩;obtain⟨rows,h1,h2,h3⟩:=h.row i hi;exact⟨rows,⟨h1.1,h1.2.mono hl⟩,h2,h3⟩
def O4.mono (hl:H.le H') (h:O4 H T x st sv KB):O4 H' T x st sv KB:=⟨h.toRfW.mono hl,h.kbx,h.own,h.form⟩
def O5.mono (hl:H.le H') (h:O5 H T x st):O5 H' T x st:=by obtain⟨sv,KB,h⟩:=h;exact⟨sv,KB,h.mono hl⟩
def RfW.sl (h:RfW H T x st sv KB) (hi:i<6):H.cell x i=some (sv i)/\(∃ p l c,sv i=.slice p l c)/\bo (some (sv i)) 2=(st i).length/\bw (some (sv i)) .slice=true:=by
 obtain⟨rows,h1,h2,_⟩:=h.row i hi;refine⟨?_,?_⟩
 .unfold Hl.cell;rw[h.bd];simpa using TN sv hi
 .have ho:=h1.2;rw[h2]at ho;rcases ho.2 with ⟨e,hn⟩ | ⟨_,_,_,e,_⟩
  .rw[e,hn];exact⟨⟨_,_,_,rfl⟩,rfl,rfl⟩
  .rw[e];exact⟨⟨_,_,_,rfl⟩,rfl,rfl⟩
def O4.put (h:O4 H T x st sv KB) (hi:i<6) 
 (hd:H.bq B) (hp:O3 T B row p) (hF:p.h.Form) (hx1:-1<=x1) (hn1:n1=(st i).length+1)
 (happ:∀ xs,aK (H.un B) 67 mP.length (sv i) (st i).length xs->aK G 67 mP.length (.slice (ar x1 0) n1 c1) ((st i).length+1) (xs++row))
 (hk:∀ b,(H.un B).mem b->some b≠(sv i).ownBlock->G b=(H.un B) b)
 (hnew:some x1.toNat=(sv i).ownBlock\/¬(H.un B).mem x1.toNat\/x1= -1) :
 G x=some (.cells (TM sv).toArray 57 (0,0))/\O4 (G.put x i [.slice (ar x1 0) n1 c1]) T x (vk st i (st i++[p])) (vk sv i (.slice (ar x1 0) n1 c1)) (KB.un B):=by
 subst hn1;have lH:H.le (H.un B):=Hl.aX _ _;have lB:B.le (H.un B):=Hl.bj hd;have ownH:∀ j b,j<6->(sv j).ownBlock=some b->∃ c,H b=some (.cells c 67 (0,0)):=fun j b hj hb=>by
  obtain⟨rows,h1,_⟩:=h.row j hj;exact h1.2.type hb
 have ownx:∀ j b,j<6->(sv j).ownBlock=some b->b≠x:=fun j b hj hb e=>by
  subst e;obtain⟨c,hc⟩:=ownH j _ hj hb;rw[h.bd]at hc;simp at hc
 have hG:G x=some (.cells (TM sv).toArray 57 (0,0)):=by
  rw[hk x (Hl.bZ lH (Hl.mem_of h.bd)) fun e=>ownx i x hi e.symm rfl];exact lH _ _ h.bd
 refine⟨hG,?_⟩;obtain⟨rows,ho,hrl,hrp⟩:=h.row i hi;have hOG:=happ rows.flatten (by have:=ho.2;rw[hrl]at this;exact aK.mono lH this);have nB:∀ j b,j<6->(sv j).ownBlock=some b->¬B.mem b:=fun j b hj hb hm=>by
  obtain⟨c,hc⟩:=ownH j b hj hb;exact hd b ⟨Hl.mem_of hc,hm⟩
 have lKB:(KB.un B).le G:=fun b o hb=>by
  have e:(H.un B) b=some o:=by
   unfold Hl.un at hb;cases hq:KB b with
   | some o'=>rw[hq]at hb;cases hb;exact lH _ _ (h.kb _ _ hq)
   | none=>rw[hq]at hb;exact lB _ _ hb
  rw[hk b (Hl.mem_of e) fun e'=>?_,e];rcases Hl.cE.1 (Hl.mem_of hb)with h1 | h1
  .exact(h.own i b hi e'.symm).1 h1
  .exact nB i b hi e'.symm h1
 have xB:¬B.mem x:=fun hm=>hd x ⟨Hl.mem_of h.bd,hm⟩;have xKB:¬(KB.un B).mem x:=fun hm=>(Hl.cE.1 hm).elim h.kbx xB;have newx:∀ b,(Value.slice (ar x1 0) ((st i).length+1) c1).ownBlock=some b->x1=b:=fun b hb=>Cy hb hx1;have newxx:∀ b,(Value.slice (ar x1 0) ((st i).length+1) c1).ownBlock=some b->b≠x:=fun b hb e=>by
  subst e;obtain⟨c,hc⟩:=hOG.type hb;rw[hG]at hc;simp at hc
 have newn:∀ b,(Value.slice (ar x1 0) ((st i).length+1) c1).ownBlock=some b->¬(KB.un B).mem b:=fun b hb hm=>by
  have e:=newx b hb;have hm2:(H.un B).mem b:=(Hl.cE.1 hm).elim (fun y=>Hl.cE.2 (Or.inl (Hl.bZ h.kb y))) (fun y=>Hl.cE.2 (Or.inr y));rcases hnew with h1 | h1 | h1
  .rw[e,aaa]at h1;exact(Hl.cE.1 hm).elim (h.own i b hi h1.symm).1 (nB i b hi h1.symm)
  .rw[e,aaa]at h1;exact h1 hm2
  .omega
 have newo:∀ j b,j<6->j≠i->(Value.slice (ar x1 0) ((st i).length+1) c1).ownBlock=some b->(sv j).ownBlock≠some b:=fun j b hj hji hb e3=>by
  have e:=newx b hb;rcases hnew with h1 | h1 | h1
  .rw[e,aaa]at h1;exact(h.own i b hi h1.symm).2 j hj hji e3
  .rw[e,aaa]at h1;obtain⟨c,hc⟩:=ownH j b hj e3;exact h1 (Hl.cE.2 (Or.inl (Hl.mem_of hc)))
  .omega
 refine⟨⟨?_,fun j hj=>?_,Hl.yG lKB xKB⟩,xKB,fun j b hj hb=>?_,fun j hj q hq=>?_⟩
 .rw[Hl.r8 hG];simp only[acy];rw[QN _ _ hi]
 .by_cases e:j=i
  .subst e;rw[cG,cG];refine⟨rows++[row],?_,by simp [hrl],fun k r q hr hq=>?_⟩
   .have:=sE.snoc (rows:=rows) ho.1 hp.1 hOG (by rw[hrl]) rfl;exact⟨this.1,this.2.at fun b hb=>Hl.pR (newxx b hb)⟩
   .rcases aa5 k rows.length with qv | qv
    .rw[aaC qv]at hr;rw[aaC ah]at hq;exact(hrp k r q hr hq).mono (Hl.aX _ _)
    .rw[aav qv]at hr;rw[aav ah]at hq;have hr:=aae hr;have hq:=aae hq;rw[aam]at hr hq;subst hr;subst hq;exact hp.mono (Hl.bj fun b ⟨y,z⟩=>hd b ⟨Hl.bZ h.kb y,z⟩)
  .rw[fi _ _ e,fi _ _ e];obtain⟨rs,h1,h2,h3⟩:=h.row j hj;refine⟨rs,⟨h1.1,h1.2.at fun b hb=>?_⟩,h2,fun k r q hr hq=>(h3 k r q hr hq).mono (Hl.aX _ _)⟩;obtain⟨c,hc⟩:=ownH j b hj hb;rw[Hl.pR (ownx j b hj hb),hk b (Hl.bZ lH (Hl.mem_of hc)) fun e'=>(h.own j b hj hb).2 i hi (Ne.symm e) e'.symm,lH _ _ hc,hc]
 .by_cases e:j=i
  .subst e;rw[cG]at hb;refine⟨newn b hb,fun k hk' e2=>?_⟩;rw[fi _ _ e2];exact newo k b hk' e2 hb
  .rw[fi _ _ e]at hb;refine⟨fun hm=>(Hl.cE.1 hm).elim (h.own j b hj hb).1 (nB j b hj hb),fun k hk' e2=>?_⟩;by_cases e3:k=i
   .subst e3;rw[cG];exact fun e4=>newo j b hj e e4 hb
   .rw[fi _ _ e3];exact(h.own j b hj hb).2 k hk' e2
 .by_cases e:j=i
  .subst e;rw[cG]at hq;rcases aaU.1 hq with h1 | h1
   .exact h.form j hj q h1
   .rw[aam]at h1;subst h1;exact hF
  .rw[fi _ _ e]at hq;exact h.form j hj q hq
def O4.view (h:O4 H T x st sv KB) (hi:i<6) 
 (hold:∀ xs,aK H 67 mP.length (sv i) (st i).length xs->aK G 67 mP.length (sv i) (st i).length xs)
 (hk:∀ b,H.mem b->some b≠(sv i).ownBlock->G b=H b)
 (hx:G' y=some (.cells (TM sv).toArray 57 (0,0))) (hG:∀ b,b≠x->G.mem b->G' b=G b):RfW G' T y st sv KB:=by
 have ownH:∀ j b,j<6->(sv j).ownBlock=some b->∃ c,H b=some (.cells c 67 (0,0)):=fun j b hj hb=>by
  obtain⟨rows,h1,_⟩:=h.row j hj;exact h1.2.type hb
 have ownx:∀ j b,j<6->(sv j).ownBlock=some b->b≠x:=fun j b hj hb e=>by
  subst e;obtain⟨c,hc⟩:=ownH j _ hj hb;rw[h.bd]at hc;simp at hc
 have hKG:∀ b o,KB b=some o->G b=some o:=fun b o hb=>by
  have hH:=h.kb b o hb;rw[hk b (Hl.mem_of hH) fun e=>(h.own i b hi e.symm).1 (Hl.mem_of hb)];exact hH
 refine⟨hx,fun j hj=>?_,fun b o hb=>?_⟩
 .obtain⟨rows,h1,h2,h3⟩:=h.row j hj;refine⟨rows,⟨h1.1,?_⟩,h2,h3⟩;by_cases e:j=i
  .subst e;have h4:=hold rows.flatten (by have:=h1.2;rw[h2]at this;exact this);rw[h2];refine h4.at fun b hb=>hG b (ownx j b hj hb) ?_;obtain⟨c,hc⟩:=h4.type hb;exact Hl.mem_of hc
  .refine h1.2.at fun b hb=>?_;obtain⟨c,hc⟩:=ownH j b hj hb;have e2:=hk b (Hl.mem_of hc) fun e'=>(h.own j b hj hb).2 i hi (Ne.symm e) e'.symm;rw[hG b (ownx j b hj hb) (Hl.mem_of (e2.trans hc)),e2]
 .have e2:=hKG b o hb;rw[hG b (fun e=>h.kbx (e▸Hl.mem_of hb)) (Hl.mem_of e2),e2]
def Mu (hS:oJ st):IntKind.i64.wrap (IntKind.i64.wrap (IntKind.i64.wrap (IntKind.i64.wrap (IntKind.i64.wrap (IntKind.i64.wrap ((st 0).length:Int)+(st 1).length)+(st 2).length)+(st 3).length)+(st 4).length)+(st 5).length)=fy st:=by
 have h0:=hS 0 ah;have h1:=hS 1 ah;have h2:=hS 2 ah;have h3:=hS 3 ah;have h4:=hS 4 ah;have h5:=hS 5 ah;rw[wrap_i64 (n:=((st 0).length:Int)) ah ah,wrap_i64 (n:=((st 0).length:Int)+_) ah ah,wrap_i64 (n:=((st 0).length:Int)+_+_) ah ah,wrap_i64 (n:=((st 0).length:Int)+_+_+_) ah ah,wrap_i64 (n:=((st 0).length:Int)+_+_+_+_) ah ah,wrap_i64 (n:=((st 0).length:Int)+_+_+_+_+_) ah ah];unfold fy;omega
noncomputable def Fb (rt:Nat):Sx.Spec where
 fn:=29
 own:=[.arg 0]
 rd:=[rt,2000003]
 res:=[.one (.int .i64)]
 pre:=fun xs Hs Rs=>∃ x H B row T RG st p,xs=[.pointer (some ⟨x,0,none⟩),.agg row.toArray]/\Hs=[H.un B]/\Rs=[T,RG]/\H.bq B/\lP H T x st/\oJ st/\(∀ i,i<6->(st i).length<=100000)/\O3 T B row p/\p.b.length<=900000/\uf RG 3
 post:=fun xs Hs Rs v Hs' F=>∃ x H B row T RG st p H',xs=[.pointer (some ⟨x,0,none⟩),.agg row.toArray]/\Hs=[H.un B]/\Rs=[T,RG]/\H.bq B/\lP H T x st/\O3 T B row p/\Hs'=[H']/\v=.int .i64 (bK st p)/\lP H' T x (dZ st p)/\B.le H'/\∀ o y,H x=some o->∀ G',G' y=some o->(∀ b,b≠x->H'.mem b->G' b=H' b)->O5 G' T y st/\(y=x->lP G' T x st)
def Ou:Nd:=(fun o b i q n=>(fun a c d g h k=>(fun p=>(fun f l=>(fun j m=>(.ext (.alloc 136) (.and (.pre k) (.ext k (.and (.imp (.not (.bvar 137)) (.post [.hp 133 [] n [],.ro 134 [] true,.ro 135 q false,.dead] (.sv (.one (.int .i64 o))))) (.imp (.bvar 137) (.and (.e (.le i b)) (.and (.e (.le i a)) (.and (.e (.lt a (.lit 6))) (.and (.e (.his 133 b a 0 .slice)) (.and (.pre m) (.ext m (.and (.pre d) (.ext d (.and (.imp (.not (.eq (.var 142) i)) (.post g (.sv (.one (.int .i64 (.var 142)))))) (.imp (.eq (.var 142) i) (.and (.pre h) (.ext h (.and (.imp (.not (.bvar 143)) (.post g (.sv (.one (.int .i64 (.lit 2)))))) (.imp (.bvar 143) (.and (.e (.his 133 b i 0 .slice)) (.and (.e (.le i (.hP 133 b i 0 2))) (.and (.e (.his 133 b o 0 .slice)) (.and (.e (.le i (.hP 133 b o 0 2))) (.and (.e (.his 133 b (.lit 2) 0 .slice)) (.and (.e (.le i (.hP 133 b (.lit 2) 0 2))) (.and (.e (.his 133 b (.lit 3) 0 .slice)) (.and (.e (.le i (.hP 133 b (.lit 3) 0 2))) (.and (.e (.his 133 b (.lit 4) 0 .slice)) (.and (.e (.le i (.hP 133 b (.lit 4) 0 2))) (.and (.e (.his 133 b (.lit 5) 0 .slice)) (.and (.e (.le i (.hP 133 b (.lit 5) 0 2))) (.and (.imp c (.post g (.sv (.one (.int .i64 (.lit 4)))))) (.imp (.not c) (.ext (.alloc 144) (.and (.pre j) (.ext j (.and (.pre l) (.ext l (.post [.hp 147 [145,133] [.var 145,.var 0] [],.ro 134 [] true,.ro 135 q false,.dead,.hp 138 [] [.var 138] [],.dead] (.sv (.one (.int .i64 i))))))))))))))))))))))))))))))))))))))))):Nd)) (.app 145 67 126 256 f p (.hp 133 [] n []) (.cvs (ak 1 xc) 1)) (.call 1 138 [.sv (.one f)] [] [.hp 133 [] n []])) (.sl (.hP 133 b a 0 0) (.hP 133 b a 0 1) p (.hP 133 b a 0 3)) (.put 147 145 b a [.sl (.var 145) i (.add p o) (.var 146)])) (.hP 133 b a 0 2)) (.wrap .i64 (.sub (.var 1) o)) (.le (.lit 400) (.wrap .i64 (.add (.wrap .i64 (.add (.wrap .i64 (.add (.wrap .i64 (.add (.wrap .i64 (.add (.wrap .i64 (.hP 133 b i 0 2)) (.hP 133 b o 0 2))) (.hP 133 b (.lit 2) 0 2))) (.hP 133 b (.lit 3) 0 2))) (.hP 133 b (.lit 4) 0 2))) (.hP 133 b (.lit 5) 0 2)))) (.call 2 142 [.sv (.one (.int .i64 (.var 1))),.sv (.one (.sl (.var 138) (.var 139) (.var 140) (.var 141))),.sv (.agg (ak 1 bU))] [] [.hp 138 [] [.var 138] [],.hp 133 [] n [],.ro 134 [] true,.ro 135 q false]) [.hp 133 [] n [],.ro 134 [] true,.ro 135 q false,.dead,.hp 138 [] [.var 138] []] (.call 3 143 [.sv (.agg (ak 1 xc))] [] [.hp 133 [] n [],.ro 134 [] true,.ro 135 q false]) (.call 0 137 [.sv (.agg (ak 1 bU))] [] [.hp 133 [] n [],.ro 134 [] true])) (.lit 1) (.var 0) (.lit 0) [.lit 3] [.var 0]
noncomputable def Xf:List Sx.Spec:=[LH (hZ 65) [6000000,6000001],kQ,LH EX [1,6000000,6000001,2000003],LH xw [6000000,6000001,2000003]]
def T4:∀ t∈Xf,t.OK Tryz.prog:=av (vj uP) <| av tI <| av (vj N8) <| av (vj HE) <| bN
def YT:(LH (hZ 65) [6000000,6000001]).res=[.one .bool]:=rfl
def YU:kQ.res=[.one .sl]:=rfl
def YV:(LH EX [1,6000000,6000001,2000003]).res=[.one (.int .i64)]:=rfl
def YW:(LH xw [6000000,6000001,2000003]).res=[.one .bool]:=rfl
noncomputable def Fc:aF Tryz.prog Xf 29 where
 Λ:=aD
 args:=TP (.var 0) (.lit 0)::(bW 1 [.agg xc]).map .sv
 mem:=[.hp 133 [] [.var 0] [],.ro 134 [] true,.ro 135 [.lit 3] false]
 nv:=136
open Classical in
set_option maxRecDepth 20000 in
def Ov (rt:Nat):(Fb rt).OK Tryz.prog:=by
 refine Spec.aV (Γ:=Xf) T4 ?_;rintro xs Hs Rs hl1 hl2 ⟨x,H,B,row,T,RG,st,p,rfl,rfl,rfl,hHB,hI,hS,hS2,hx,hlen,hKat⟩;obtain⟨J,va,rfl,hh,hnw⟩:=CA (a:=(x:Int)) [(133,H.un B),(134,T),(135,RG)] hx.1;have w1:J.h 133=H.un B:=hh 133;have w2:J.h 134=T:=hh 134;have w3:J.h 135=RG:=hh 135;refine⟨Fc,J,fun _ _=>True,fun _ _=>0,?_,⟨?_,?_,?_,?_⟩,(fun _ h=>nomatch h),?_⟩
 .show [Value.pointer (ar (J.i 0) 0),.agg ((ak 1 gJ).map (CV.ev J)).toArray]=_;rw[va,al ah];rfl
 .intro r hr ho;simp [Fc]at hr;rcases hr with rfl | rfl | rfl
  .exact⟨H.un B,aC,by show(J.h 133).le _;rw[w1];exact Hl.le_refl _⟩
  all_goals cases ho
 .intro r hr ho;simp [Fc]at hr;rcases hr with rfl | rfl | rfl
  .cases ho
  .exact⟨T,aC,by show(J.h 134).le T;rw[w2];exact Hl.le_refl _⟩
  .exact⟨RG,aC,by show(J.h 135).le RG;rw[w3];exact Hl.le_refl _⟩
 .simp [Fc,bm.own]
 .intro r hr;simp [Fc]at hr;rcases hr with rfl | rfl | rfl<;>trivial
 refine aF.lit (x:=Ou) ?_;unfold Ou;simp only[go_sem,Nat.reduceAdd,Xf,YT,YU,YV,YW,Jy];generalize hrow0:(ak 1 gJ).map (CV.ev J)=row at *;have ht0:(ak 1 bU).map (CV.ev J)=row.take 125:=by rw[<-hrow0,oy]
 have V:∀ q:Env,ai 136 J q->q.i 0=x/\q.h 133=H.un B/\q.h 134=T/\q.h 135=RG/\(ak 1 bU).map (CV.ev q)=row.take 125/\(ak 1 xc).map (CV.ev q)=row/\q.i 1=J.i 1:=fun q g=>by
  refine⟨by rw[g.i 0,va],by rw[g.h 133,w1],by rw[g.h 134,w2],by rw[g.h 135,w3],?_,?_,g.i 1⟩
  .rw[<-ht0];exact aaQ Array.toList (Value.agg.inj (fS (ks:=bU) (n:=1) g aA))
  .rw[<-hrow0];exact aaQ Array.toList (Value.agg.inj (fS (ks:=gJ) (n:=1) g aA))
 have lB:B.le (H.un B):=Hl.bj hHB;have hU:∀ {U:Hl},T.le U->(H.un B).le U->dz U U row p:=fun a b=>hx.2 _ a fun k o hb=>b k o (lB k o hb);have hbody:row=row.take 125++[row.getD 125 Ct]:=Zz hx.1;obtain⟨sv,KB,hD⟩:=id hI;have hDu:O4 (H.un B) T x st sv KB:=hD.mono (Hl.aX _ _);have outE:∀ {q:Env} {t:Mem} {e:E},q.h 133=H.un B->az q e=bK st p->bK st p≠0->postOf (Fb rt) [.pointer (some ⟨x,0,none⟩),.agg row.toArray] [H.un B] [T,RG] q (.hp 133 [] [.var 0] []::t) (.sv (.one (.int .i64 e))):=by
  intro q t e h1 h2 h3 _;refine⟨[[0]],[],rfl,rfl,⟨(bh fun _=>az q e),rfl,zzT,zzT⟩,x,H,B,_,T,RG,st,p,_,rfl,rfl,rfl,hHB,hI,hx,rfl,by rw[<-h2];rfl,?_,?_,?_⟩
  .unfold dZ;rw[aal h3];show lP (cu [q.h 133]) _ _ _;rw[aL,h1];exact⟨sv,KB,hDu⟩
  .show B.le (cu [q.h 133]);rw[aL,h1];exact Hl.bj hHB
  .intro o y ho G' hx' hG';have hG':∀ b,b≠x->(cu [q.h 133]).mem b->G' b=(cu [q.h 133]) b:=hG';rw[aL,h1]at hG';have hw:=hD.view (G':=G') (y:=y) (i:=0) ah (fun _ h=>aK.mono (Hl.aX _ _) h) (fun b hb _=>by obtain⟨o',ho'⟩:=abe.1 hb;rw[Hl.sD ho',ho']) (by rw[hx',<-ho,hD.bd]) hG';exact⟨⟨sv,KB,hw⟩,fun e=>⟨sv,KB,e▸hw,hD.kbx,hD.own,hD.form⟩⟩
 intro q1 g1 p1;obtain⟨v0,x1,x2,x3,xr,xr2,_⟩:=V q1 g1;rw[xr,x1,x2];refine⟨fun U u=>⟨_,U,p.h,rfl,rfl,(hU (u _ aC) (u _ aC)).hd⟩,fun q2 g2 ⟨F2,⟨U,u,hp2⟩,_⟩=>?_⟩;have hxU:=hU (u T aC) (u _ aC);have hd:=hxU.hd;have hw1:cI p.h.c 0=J.i 1:=by
  have e1:cI p.h.c 0=cI (row.take 125) 0:=hd.I aA;rw[e1,<-ht0];rfl
 have G2:ai 136 J q2:=g1.tr g2;have hb2:q2.b 137=decide p.h.Form:=Value.bool.inj (ng hd hp2);obtain⟨y0,y1,y2,y3,yr,yr2,y5⟩:=V q2 G2;refine⟨fun hb=>?_,fun hb=>?_⟩
 .have hF:¬p.h.Form:=by rw[hb2]at hb;simpa using hb
  have e:bK st p=1:=by unfold bK;rw[aay hF]
  exact outE y1 e.symm (by rw[e];decide)
 have hF:p.h.Form:=by rw[hb2]at hb;simpa using hb
 have hFn:¬¬p.h.Form:=fun g=>g hF;have hw:=yn hF;have hw2:IntKind.i64.wrap (J.i 1-1)=((cI p.h.c 0-1).toNat:Nat):=by rw[hw1,IntKind.wrap_i64];rw[hw1]at hw;omega
 generalize hi:(cI p.h.c 0-1).toNat=i at *;have hi6:i<6:=ah;have hwi:J.i 1=cI p.h.c 0:=hw1.symm;obtain⟨c1,csl,cl,cs⟩:=hDu.sl hi6;have c1':(H.un B).cell ((x:Int)).toNat (Int.toNat ((i:Nat):Int))=some (sv i):=by rw[aaa,aaa];exact c1
 obtain⟨rows,ho,hrl,hrp⟩:=hDu.row i hi6;have hr2:=hS2 i hi6;rw[y0,y1,y5,hw2,c1',ij csl];refine⟨ah,ah,ah,cs,⟨_,_,rows,rfl,rfl,ho.rd,ah⟩,fun q3 g3 ⟨F3,hp3,hF3,hn3⟩=>?_⟩;have hH3:=hp3 _ _ _ rfl rfl ho.rd;rw[<-hF3 zzT]at hH3;have hAll:∀ {U:Hl},T.le U->(H.un B).le U->gn U (rows.map (List.take 125)) (nu st i):=fun {U} a b=>by
  refine⟨by unfold nu;rw[aaw,aaw,hrl],fun j r h hr hh=>?_⟩;unfold nu at hh;rw[aao]at hr hh;obtain⟨r0,ud,rfl⟩:=aai.1 hr;obtain⟨p0,hp0,rfl⟩:=aai.1 hh;exact((hrp j r0 p0 ud hp0).2 U a fun k o hb=>b k o (hDu.kb k o hb)).hd
 have hFs:∀ g∈nu st i,g.Form:=fun g hg=>by
  obtain⟨p0,hp0,rfl⟩:=aaW.1 hg;exact hD.form i hi6 p0 hp0
 have G3:ai 136 J q3:=G2.tr g3;obtain⟨z0,z1,z2,z3,zr,zr2,z5⟩:=V q3 G3;rw[zr,z1,z2,z3,z5];have hln:(rows.map (List.take 125)).length<=100000:=by rw[aaw];omega
 refine⟨fun U u=>⟨_,_,_,U,U,U,U,_,_,p.h,rfl,rfl,cj hH3 (u _ aC),hAll (u T aC) (u _ aC),hFs,(hU (u T aC) (u _ aC)).hd,hln,hKat.mono (u _ aC)⟩,fun q4 g4 ⟨F4,⟨U4,u4,hp4⟩,_⟩=>?_⟩;have hask:q4.i 142=gu (cI p.h.c 0) (nu st i) p.h:=by
  have:=hp4 _ _ _ U4 U4 U4 U4 _ _ _ rfl rfl (cj hH3 (u4 _ aC)) (hAll (u4 T aC) (u4 _ aC)) (hU (u4 T aC) (u4 _ aC)).hd;rw[hwi]at this;simpa using this
 have G4:ai 136 J q4:=G3.tr g4;obtain⟨u0,u1,u2,u3,ur,ur2,u5⟩:=V q4 G4;refine⟨fun hne=>?_,fun heq=>?_⟩
 .have e:bK st p=q4.i 142:=by unfold bK;rw[aal hFn,hi,aay (by rw[<-hask];exact hne)];exact hask.symm
  exact outE u1 e.symm (by rw[e];exact hne)
 have h0:¬gu (cI p.h.c 0) (nu st i) p.h≠0:=fun g=>g (hask.symm.trans heq);rw[ur2,u1,u2,u3];refine⟨fun U u=>⟨row.take 125,row.getD 125 Ct,p.b,U,U,by rw[<-hbody],rfl,hd.ok,(hU (u T aC) (u _ aC)).body,hxU.byte,hlen,hKat.mono (u _ aC)⟩,fun q5 g5 ⟨F5,⟨U5,u5,hp5⟩,_⟩=>?_⟩;have hp5:=hp5 (row.take 125) (row.getD 125 Ct) p.b U5 U5 (by rw[<-hbody]) rfl (hU (u5 T aC) (u5 _ aC)).body;have hb5:q5.b 143=fa p.h.c p.b:=by rw[<-zZ hd];exact Value.bool.inj hp5
 have G5:ai 136 J q5:=G4.tr g5;obtain⟨k0,k1,k2,k3,kr,kr2,k5⟩:=V q5 G5;refine⟨fun hb=>?_,fun hb=>?_⟩
 .have e:bK st p=2:=by unfold bK;rw[aal hFn,hi,aal h0,aay (by rw[<-hb5];simpa using hb)]
  exact outE k1 e.symm (by rw[e];decide)
 have hwb:¬fa p.h.c p.b=false:=by rw[<-hb5,hb];decide
 have c:∀ j:Nat,j<6->(H.un B).cell ((x:Int)).toNat (Int.toNat ((j:Nat):Int))=some (sv j):=fun j hj=>by rw[aaa,aaa];exact(hDu.sl hj).1
 have a0:(H.un B).cell ((x:Int)).toNat (Int.toNat 0)=some (sv 0):=c 0 ah;have a1:(H.un B).cell ((x:Int)).toNat (Int.toNat 1)=some (sv 1):=c 1 ah;have a2:(H.un B).cell ((x:Int)).toNat (Int.toNat 2)=some (sv 2):=c 2 ah;have a3:(H.un B).cell ((x:Int)).toNat (Int.toNat 3)=some (sv 3):=c 3 ah;have a4:(H.un B).cell ((x:Int)).toNat (Int.toNat 4)=some (sv 4):=c 4 ah;have a5:(H.un B).cell ((x:Int)).toNat (Int.toNat 5)=some (sv 5):=c 5 ah;obtain⟨_,_,l0,s0⟩:=hDu.sl (i:=0) ah;obtain⟨_,_,l1,s1⟩:=hDu.sl (i:=1) ah;obtain⟨_,_,l2,s2⟩:=hDu.sl (i:=2) ah;obtain⟨_,_,l3,s3⟩:=hDu.sl (i:=3) ah;obtain⟨_,_,l4,s4⟩:=hDu.sl (i:=4) ah;obtain⟨_,_,l5,s5⟩:=hDu.sl (i:=5) ah;rw[k0,k1,a0,a1,a2,a3,a4,a5,l0,l1,l2,l3,l4,l5,Mu hS];refine⟨s0,ah,s1,ah,s2,ah,s3,ah,s4,ah,s5,ah,fun h4=>?_,fun h4=>?_⟩
 .have e:bK st p=4:=by unfold bK;rw[aal hFn,hi,aal h0,aal hwb,aay h4]
  exact outE k1 e.symm (by rw[e];decide)
 have e0:bK st p=0:=by unfold bK;rw[aal hFn,hi,aal h0,aal hwb,aal h4]
 intro q6 g6 p6;have G6:ai 136 J q6:=G5.tr g6;obtain⟨m0,m1,m2,m3,mr,mr2,m5⟩:=V q6 G6;have hst:=hS i hi6;rw[m0,m1,m5,hw2,c1',ij csl,cl,mr2,aaa];refine⟨⟨⟨rows.flatten,by have:=ho.2;rw[hrl]at this;exact this⟩,ah,by unfold maxLen;omega,ah⟩,fun q7 g7 ⟨b1,b2,happ,hkp,⟨_,hold⟩,hnw⟩=>?_⟩;have G7:ai 136 J q7:=G6.tr g7;obtain⟨n0,n1,n2,n3,nr,nr2,n5⟩:=V q7 G7;obtain⟨kx,kD⟩:=hD.put hi6 hHB hx hF b1 rfl happ hkp hnw;have en:(((st i).length:Int)+1).toNat=(st i).length+1:=ah;rw[n0,n1,n5,hw2,c1',cl,en,aaa,aaa];refine⟨⟨ah,ah,jX kx (by show i+1<=6;omega)⟩,fun q8 g8 p8 _=>?_⟩;refine⟨[[0]],[],rfl,rfl,⟨(bh fun _=>0),rfl,zzT,zzT⟩,x,H,B,_,T,RG,st,p,_,rfl,rfl,rfl,hHB,hI,hx,rfl,by rw[e0];rfl,?_,?_,?_⟩
 .unfold dZ;rw[aay e0,hi];show lP (cu [q8.h 147]) _ _ _;rw[aL,p8];exact⟨_,_,kD⟩
 .show B.le (cu [q8.h 147]);rw[aL,p8];exact fun b o hb=>kD.kb b o (Hl.bj (fun b ⟨y,z⟩=>hHB b ⟨Hl.bZ hD.kb y,z⟩) b o hb)
 .intro o y ho G' hx' hG';have hG':∀ b,b≠x->(cu [q8.h 147]).mem b->G' b=(cu [q8.h 147]) b:=hG';rw[p8,aL]at hG';have hw:=hDu.view (G':=G') (y:=y) hi6 hold hkp (by rw[hx',<-ho,hD.bd]) fun b hb hm=>by
   rw[hG' b hb (Hl.gP.2 hm)];exact Hl.pR hb
  exact⟨⟨sv,KB,hw⟩,fun e=>⟨sv,KB,e▸hw,hD.kbx,hD.own,hD.form⟩⟩
open Classical in
noncomputable def um (all:Bool) (T:List (List Int)) (p:Pc):Pc:=if AN all T p.h then p else⟨p.h,[]⟩
noncomputable def gC (st:Nat->List Pc) (cv:Nat->Int) (all:Bool) (T:List (List Int)) (most:Int):List Pc:=((eJ st (fv cv) 401).take (min most 8).toNat).map (um all T)
def dz.cut (h:dz R1 R2 row p):dz R1 R2 (row.take 125++[.slice none 0 0]) ⟨p.h,[]⟩:=by
 have hl:(row.take 125).length=125:=by
  have:=fj h.ok;rw[fY]at this;rw[aaA];omega
 have ho:=gF (n:=125) h.ok;rw[pP]at ho;refine⟨?_,?_,?_,fun _ h=>(nomatch h),abn _⟩
 .have:mP=de++[Kd.slice]:=rfl;rw[this];exact kS ho rfl
 .rw[aco hl];exact h.hd
 .have:(row.take 125++[Value.slice none 0 0]).getD 125 Ct=.slice none 0 0:=by rw[aap,aav ah,hl];rfl
  rw[this];exact⟨-1,0,0,rfl,aar 0,Or.inl rfl⟩
def Lz {l:List α} {x:α} (h:(l.take m).length<m):(l++[x]).take m=l.take m++[x]:=by
 rw[aaA]at h;rw[abD (by simp;omega),abD ah]
def Ly {l x:List α} (h:¬(l.take m).length<m):(l++x).take m=l.take m:=by
 rw[aaA]at h;rw[ab9 ah]
def VR {x y:Int} {l:Nat} (h:aJ R (.slice (ar x y) l c) mP rows) (hl:rows.length=ps.length) (hp:∀ (j:Nat) row p,rows[j]?=some row->ps[j]?=some p->dz R R row p) (hy:0<=y) (hk:ps[k]?=some p):∃ row,rows[k]?=some row/\JV R R x y k row p:=by
 obtain⟨x1,y1,c1,he,hy1,hr⟩:=h;simp only[Value.slice.injEq]at he;have qv:=(aah.1 hk).1;have aB:rows[k]?=some rows[k]:=aab ah;rcases hr with rfl | ⟨hx1,hr⟩
 .simp at hl;omega
 obtain⟨e1,e2⟩:=km hx1 hy1 hy he.1;subst e1 e2;obtain⟨_,h2⟩:=hr k _ aB;rw[fY]at h2;exact⟨rows[k],aB,hx1,hp k _ _ aB hk,h2⟩
def ug (X:List Value->Pc->Prop) (F:Hl) (a l c:Int) (L:List Pc):Prop :=
 -1<=a/\l=L.length/\0<=c/\∃ rows,sE F 67 mP (.slice (ar a 0) l.toNat c.toNat) rows/\rows.length=L.length/\∀ (j:Nat) row p,rows[j]?=some row->L[j]?=some p->X row p
def Bn (hl:rows.length=L.length) (h:∀ (j:Nat) row p,rows[j]?=some row->L[j]?=some p->X row p) (hx:X row p):∀ (j:Nat) row' p',(rows++[row])[j]?=some row'->(L++[p])[j]?=some p'->X row' p':=fun j row' p' h1 h2=>by
 rcases aa5 j rows.length with hj | hj
 .rw[aaC hj]at h1;rw[aaC ah]at h2;exact h j _ _ h1 h2
 .rw[aav hj]at h1;rw[aav ah]at h2;have e1:=aae h1;have e2:=aae h2;rw[aam]at e1 e2;subst e1 e2;exact hx
def ug.app {a l c a1 c1:Int} (h:ug X A a l c L) (hok:bf row mP) (hr:X row p) (h1:-1<=a1) (h2:0<=c1)
 (happ:∀ xs,aK A 67 126 (.slice (ar a 0) l.toNat c.toNat) l.toNat xs->aK B 67 126 (.slice (ar a1 0) (l.toNat+1) c1.toNat) (l.toNat+1) (xs++row)):ug X B a1 (l+1) c1 (L++[p]):=by
 obtain⟨_,hl,_,rows,ho,hrl,hrp⟩:=h;refine⟨h1,by rw[aac,hl];simp,h2,rows++[row],ho.app ah hok (by rw[fY];exact happ),by simp [hrl],?_⟩;exact Bn hrl hrp hr
def ug.pre {a l c:Int} (h:ug X A a l c L):∃ xs,aK A 67 126 (.slice (ar a 0) l.toNat c.toNat) l.toNat xs:=by
 obtain⟨_,hl,_,rows,ho,hrl,_⟩:=h;have:=ho.pre ah;rw[fY]at this;exact⟨_,this⟩
def ug.nil (X:List Value->Pc->Prop) (F:Hl):ug X F (-1) 0 0 []:=⟨ah,rfl,ah,[],sE.nil _ _ _,rfl,fun j row p h=>by simp at h⟩
open Classical in
def Kg (R:Hl) (x:Nat) (st:Nat->List Pc) (all:Bool) (T:List (List Int)) (row:List Value) (p:Pc):Prop :=
 ∃ (i j:Nat) (r0:List Value) (rws:List (List Value)) (v:Value),i<6/\R.cell x i=some v/\aJ R v mP rws/\rws[j]?=some r0/\(st i)[j]?=some p/\row=(if AN all T p.h then r0 else r0.take 125++[.slice none 0 0])
def Dg (cv:Nat->Int):Value:=.agg #[.int .u64 (cv 0),.int .u64 (cv 1),.int .u64 (cv 2),.int .u64 (cv 3),.int .u64 (cv 4),.int .u64 (cv 5)]
def wz {α:Type} {st st':Nat->List α} {cur cur':Nat->Nat} (h:∀ i,i<6->st i=st' i) (h2:∀ i,i<6->cur i=cur' i):∀ n,eJ st cur n=eJ st' cur' n
 | 0=>rfl
 | n+1=>by
  rw[eJ,eJ,wz h h2 n];have:∀ i,i<=6->fx st cur n i=fx st' cur' n i:=fun i=>by
   induction i with
   | zero=>intro _;rfl
   | succ i ih=>intro hi;rw[ej,ej,ih ah,h i ah,h2 i ah]
  rw[this 6 ah]
def nR (h:∀ i,i<6->st i=st' i) (h2:∀ i,i<6->cv i=cv' i) (all:Bool) (T:List (List Int)) (most:Int):gC st cv all T most=gC st' cv' all T most:=by
 unfold gC;rw[wz (cur':=fv cv') h (fun i hi=>by unfold fv;rw[h2 i hi])]
def O5.uniq {T':Hl} (h:O5 R T x st) (h':O5 R T' x st') (hT:T.le R) (hT':T'.le R):∀ i,i<6->st i=st' i:=fun i hi=>by
 obtain⟨sv,KB,hW⟩:=h;obtain⟨sv',KB',hW'⟩:=h';have e:=(hW.sl hi).1.symm.trans (hW'.sl hi).1;obtain⟨rows,o,l,p⟩:=hW.row i hi;obtain⟨rows',o',l',p'⟩:=hW'.row i hi;rw[<-aa1 e]at o';have e2:=o.rd.uniq o'.rd;subst e2;apply abO ah;intro j hj hj';have hr:rows[j]?=some rows[j]:=aab ah;exact((p j _ _ hr (aab hj)).2 R hT hW.kb).uniq ((p' j _ _ hr (aab hj')).2 R hT' hW'.kb)
def B6 (h:Dg cv=Dg cv'):∀ i,i<6->cv i=cv' i:=by
 simp only[Dg,Value.agg.injEq,aaH,aag,Value.int.injEq,aaZ,aau]at h;obtain⟨h0,h1,h2,h3,h4,h5⟩:=h;intro i hi;have:i=0\/i=1\/i=2\/i=3\/i=4\/i=5:=ah;rcases this with rfl | rfl | rfl | rfl | rfl | rfl<;>assumption
def xp:Sx.Spec where
 fn:=40
 own:=[]
 rd:=[0]
 res:=[.one .sl]
 pre:=fun xs Hs Rs=>∃ (x:Nat) (R T:Hl) (st:Nat->List Pc) (cv:Nat->Int) (all:Bool) (u:Value) (TT:List (List Int)) (most:Int),xs=[.pointer (some ⟨x,0,none⟩),Dg cv,.agg #[.bool all,u],.int .i64 most]/\Rs=[R]/\O5 R T x st/\T.le R/\aJ R u jF (TT.map aS)/\gI TT/\(∀ i,i<6->(st i).length<=400)/\∀ i,i<6->0<=cv i/\cv i<18446744073709551616
 post:=fun xs Hs Rs v Hs' F=>∀ (x:Nat) (R T:Hl) (st:Nat->List Pc) (cv:Nat->Int) (all:Bool) (u:Value) (TT:List (List Int)) (most:Int),xs=[.pointer (some ⟨x,0,none⟩),Dg cv,.agg #[.bool all,u],.int .i64 most]->Rs=[R]->∀ H:Hl,O5 H T x st->H.le R->T.le R->aJ R u jF (TT.map aS) ->
  ∃ rows,aJ F v mP rows/\rows.length=(gC st cv all TT most).length/\∀ (j:Nat) row p,rows[j]?=some row->(gC st cv all TT most)[j]?=some p->∀ V:Hl,T.le V->H.le V->dz V V row p
noncomputable def V8:List Sx.Spec:=[Ur 76]
def VF (f:FuncId):(Ur f).res=[.one .bool]:=rfl
noncomputable def Jp:aF Tryz.prog V8 xp.fn where
 Λ:=fun p=>if lp p then(if p.length>9 then some ⟨1,[(11,TI .i64 (.var 130)),(9,.sv (.one (.sl (.var 131) (.lit 0) (.var 132) (.var 133))))],[(3,.hp 134 [] [.var 131] [])],140⟩else some ⟨0,[(10,.sv (.one (.int .u64 (.var 100)))),(9,.sv (.one (.sl (.var 101) (.lit 0) (.var 102) (.var 103))))],[(3,.hp 104 [] [.var 101] [])],110⟩)else none
 args:=[TP (.var 0) (.lit 0),.sv (.agg (ak 1 (List.replicate 6 (.int .u64)))),.sv (.agg (ak 7 [.bool,.sl])),TI .i64 (.var 12)]
 mem:=[.ro 13 [.var 0,.var 8] true]
 nv:=14
def TG:∀ t∈V8,t.OK Tryz.prog:=fun t ht=>by
 simp only[V8,aan,aat,aaX]at ht;subst ht;exact QO
def N9 (X:List Value->Pc->Prop) (m:Nat) (st:Nat->List Pc) (cur:Nat->Nat):Nat->Env->Prop
 | 0,q=>∃ n:Nat,q.i 100=n/\n<=401/\ug X (q.h 104) (q.i 101) (q.i 102) (q.i 103) ((before st cur n 0).take m)
 | _,q=>∃ n i:Nat,q.i 100=n/\n<=400/\q.i 130=i/\i<=6/\ug X (q.h 134) (q.i 131) (q.i 132) (q.i 133) ((before st cur n i).take m)
def FZ (st:Nat->List α) (cur:Nat->Nat) (n:Nat):before st cur (n+1) 0=before st cur n 6:=by simp [before,eJ,fx]
def vv {st:Nat->List α} (h:(st i)[cur i+n]?=none):before st cur n (i+1)=before st cur n i:=by
 unfold before;rw[ej,h];simp
def Dz {st:Nat->List α} {p:α} (h:(st i)[cur i+n]?=some p):before st cur n (i+1)=before st cur n i++[p]:=by
 unfold before;rw[ej,h];simp
def FY (st:Nat->List α) (cur:Nat->Nat) (n i:Nat):∃ l,before st cur n (i+1)=before st cur n i++l:=⟨_,by unfold before;rw[ej,aaF]⟩
open Classical in
set_option maxRecDepth 20000 in
def Hu:xp.OK Tryz.prog:=by
 refine Spec.aV (Γ:=V8) TG ?_;rintro xs Hs Rs hl1 hl2 ⟨x,R,T,st,cv,all,u,TT,most,rfl,rfl,hRf,hTR,hU,hTT,hlen,hcv⟩;have e0:Hs=[]:=aad.1 hl1;subst e0;obtain⟨ux,uy,uc,rfl,huy,_⟩:=id hU;obtain⟨m,hm⟩:∃ m:Nat,(min most 8).toNat=m:=⟨_,rfl⟩;refine⟨Jp,aQ [x,cv 0,cv 1,cv 2,cv 3,cv 4,cv 5,0,ux,uy,(TT.map aS).length,uc,most] all [Hl.none,Hl.none,Hl.none,Hl.none,Hl.none,Hl.none,Hl.none,Hl.none,Hl.none,Hl.none,Hl.none,Hl.none,Hl.none,R],
  N9 (Kg R x st all TT) m st (fv cv),fun j q=>if j=0 then(401-q.i 100).toNat else(6-q.i 130).toNat,?_,cD (by intro r hr;simp [Jp]at hr;subst hr;exact⟨_,_,_,rfl⟩) rfl,(fun _ h=>(nomatch h)),?_⟩
 .show [Value.pointer (ar (x:Int) 0),Dg cv,.agg #[.bool all,.slice (ar ux uy) (((TT.map aS).length:Int)).toNat ((uc:Int)).toNat],.int .i64 most]=_;rw[al ah,aaa,aaa];rfl
 refine aF.read [] [de,mP] [] ?_;generalize hρ:aQ [(x:Int),cv 0,cv 1,cv 2,cv 3,cv 4,cv 5,0,ux,uy,(TT.map aS).length,uc,most] all [Hl.none,Hl.none,Hl.none,Hl.none,Hl.none,Hl.none,Hl.none,Hl.none,Hl.none,Hl.none,Hl.none,Hl.none,Hl.none,R]=J;have V:∀ q:Env,ai 14 J q->(q.i 0=x/\q.i 1=cv 0/\q.i 2=cv 1/\q.i 3=cv 2/\q.i 4=cv 3/\q.i 5=cv 4/\q.i 6=cv 5)/\(q.i 8=ux/\q.i 9=uy/\q.i 10=(TT.map aS).length/\q.i 11=uc/\q.i 12=most)/\q.b 7=all/\q.h 13=R:=fun q g=>by
  rw[g.i 0,g.i 1,g.i 2,g.i 3,g.i 4,g.i 5,g.i 6,g.i 8,g.i 9,g.i 10,g.i 11,g.i 12,g.b 7,g.h 13,<-hρ];exact⟨⟨rfl,rfl,rfl,rfl,rfl,rfl,rfl⟩,⟨rfl,rfl,rfl,rfl,rfl⟩,rfl,rfl⟩
 clear hρ;obtain⟨sv,KB,hW⟩:=id hRf;simp only[go_sem,Nat.reduceAdd,V8,VF,QT,Nat.one_ne_zero,Nat.zero_ne_one,abK,abP];intro q1 g1 _ q2 g2 _;have A2:ai 14 J q2:=g1.tr g2;refine⟨⟨0,rfl,ah,(show ug (Kg R x st all TT) _ (-1) 0 0 ((before st (fv cv) 0 0).take m)by simpa [before,eJ,fx] using ug.nil _ _)⟩,fun q3 g3 ⟨n,en,hn,ho⟩=>?_⟩;have A3:ai 14 J q3:=A2.tr g3;rw[en];refine⟨fun hlt=>⟨⟨n,0,en,ah,rfl,ah,ho⟩,fun q g ⟨n',i,en',hn',ei,hi,ho⟩=>?_⟩,fun hge=>?_⟩
 rotate_left
 .obtain rfl:n=401:=ah;obtain⟨o1,o2,o3,rows,o4,o5,o6⟩:=ho;intro _;refine⟨[],[3],rfl,zzK,⟨(bh fun k=>if k=0 then q3.i 101 else if k=2 then q3.i 102 else if k=3 then q3.i 103 else 0),rfl,⟨o1,aar 0,by show 0<=q3.i 102;omega,o3⟩,zzT⟩,?_⟩;intro x' R' T' st' cv' all' u' TT' most' e1 e2 H hRf' hHR hTR' hU';simp only[aag,aau]at e1 e2;obtain⟨ex,ec,eu,em⟩:=e1;obtain rfl:x=x':=by simpa using ex
  obtain⟨rfl,rfl⟩:all=all'/\Value.slice (ar ux uy) (TT.map aS).length uc=u':=by simpa using eu
  obtain rfl:most=most':=by simpa using em
  subst e2;have eT:=dY (hU.uniq hU');subst eT;have est:=hRf.uniq (hRf'.mono hHR) hTR hTR';rw[<-nR est (B6 ec)];have eL:gC st cv all TT most=((before st (fv cv) 401 0).take m).map (um all TT):=by
   unfold gC;rw[hm];simp [before,fx]
  rw[eL];refine⟨rows,?_,by rw[aaw];exact o5,fun j row p hr hp=>?_⟩
  .show aJ (cu [q3.h 104]) (.slice (ar (q3.i 101) 0) (q3.i 102).toNat (q3.i 103).toNat) mP rows;rw[aL];exact o4.rd
  .rw[aao,aai]at hp;obtain⟨p0,hp0,rfl⟩:=hp;obtain⟨i,jj,r0,rws,v,hi,hcell,hrd,ud,hp1,rfl⟩:=o6 j row p0 hr hp0;intro V hTV hHV;obtain⟨sv',KB',hW'⟩:=hRf';have ev:v=sv' i:=aa1 (hcell.symm.trans (Il hHR (hW'.sl hi).1));subst ev;obtain⟨rows',ho',hl',hp'⟩:=hW'.row i hi;have er:=hrd.uniq (cj ho'.rd hHR);subst er;have hx:=(hp' jj r0 p0 ud (est i hi▸hp1)).2 V hTV fun k o hk=>hHV k o (hW'.kb k o hk);unfold um;split
   .exact hx
   .exact hx.cut
 have A:ai 14 J q:=A3.tr g;obtain rfl:n=n':=by have:=g.i 100;omega
 obtain⟨⟨v0,v1,v2,v3,v4,v5,v6⟩,⟨v8,v9,v10,v11,v12⟩,vb,w⟩:=V q A;rw[ei];have stay:(before st (fv cv) n (i+1)).take m=(before st (fv cv) n i).take m->i<6->N9 (Kg R x st all TT) m st (fv cv) 1 (assign q [⟨131,0,.int .i64 (.var 131)⟩,⟨132,0,.int .i64 (.var 132)⟩,⟨133,0,.int .i64 (.var 133)⟩,⟨130,0,.int .i64 (.wrap .i64 (.add (.var 130) (.lit 1)))⟩] [(134,some 134)])/\(6-IntKind.i64.wrap (q.i 130+1)).toNat<(6-(i:Int)).toNat:=fun e hi6=>by
  have ew:IntKind.i64.wrap (q.i 130+1)=((i+1:Nat):Int):=by rw[ei,IntWalk.i64_in _ ah];omega
  exact⟨⟨n,i+1,en',ah,ew,ah,by rw[e];exact ho⟩,by rw[ew];omega⟩
 refine⟨fun hlt6=>?_,fun hge6=>⟨⟨n+1,?_,ah,?_⟩,?_⟩⟩
 rotate_left
 .show IntKind.u64.wrap (q.i 100+1)=_;rw[en',IntKind.wrap_u64];omega
 .obtain rfl:i=6:=ah;rw[FZ];exact ho
 .show(401-IntKind.u64.wrap (q.i 100+1)).toNat<_;rw[en',show IntKind.u64.wrap ((n:Int)+1)=n+1 by rw[IntKind.wrap_u64];omega];omega
 have hi6:i<6:=ah;obtain⟨o1,o2,o3,_⟩:=id ho;obtain⟨l,hl⟩:=FY st (fv cv) n i;have full:¬((before st (fv cv) n i).take m).length<m->_:=fun h=>stay (by rw[hl];exact Ly h) hi6;rw[v12];refine⟨ah,fun h=>full ah,fun h12=>⟨fun h=>full ah,fun h8=>?_⟩⟩;have hltm:((before st (fv cv) n i).take m).length<m:=ah;have hcu:∀ a0 a1 a2 a3 a4 a5:Int,a0=cv 0->a1=cv 1->a2=cv 2->a3=cv 3->a4=cv 4->a5=cv 5->(if((i:Nat):Int)=0 then a0 else if((i:Nat):Int)=1 then a1 else if((i:Nat):Int)=2 then a2 else if((i:Nat):Int)=3 then a3 else if((i:Nat):Int)=4 then a4 else a5)=cv i:=fun a0 a1 a2 a3 a4 a5 h0 h1 h2 h3 h4 h5=>by
  subst h0 h1 h2 h3 h4 h5;have:i=0\/i=1\/i=2\/i=3\/i=4\/i=5:=ah;rcases this with rfl | rfl | rfl | rfl | rfl | rfl<;>rfl
 obtain⟨c0,csl,cl,cs⟩:=hW.sl hi6;have c:R.cell ((x:Int)).toNat ((i:Int)).toNat=some (sv i):=by rw[aaa,aaa];exact c0
 have hli:=hlen i hi6;have hci:=hcv i hi6;have wl:IntKind.u64.wrap ((st i).length:Int)=(st i).length:=by rw[IntKind.wrap_u64];omega
 rw[v0,hcu _ _ _ _ _ _ v1 v2 v3 v4 v5 v6,w,c,cl,wl,en'];refine⟨ah,ah,cs,ah,fun h=>stay (by rw[vv (abF.2 (by unfold fv;omega))]) hi6,fun hA=>?_⟩;have wc:IntKind.u64.wrap (cv i+n)=cv i+n:=by rw[IntKind.wrap_u64];omega
 rw[wc];refine⟨fun h=>stay (by rw[vv (abF.2 (by unfold fv;omega))]) hi6,fun hB=>?_⟩;obtain⟨j,hj⟩:∃ j:Nat,cv i+n=j:=⟨(cv i+n).toNat,ah⟩;have hjl:j<(st i).length:=ah;have hjc:fv cv i+n=j:=by unfold fv;omega
 obtain⟨pc,hpc⟩:∃ pc,(st i)[j]?=some pc:=⟨_,aab hjl⟩;obtain⟨rows,hor,hrl,hrp⟩:=hW.row i hi6;have hrd:=hor.rd;obtain⟨sp,sl,sc,esv⟩:=csl;obtain⟨gx,gy,rfl,hgy,_⟩:=oC sp;have hrd':=hrd;rw[esv]at hrd c cl;obtain⟨row,aB,hat⟩:=VR hrd hrl (fun k row p a b=>(hrp k row p a b).2 R hTR hW.kb) hgy hpc;have k0:bo (some (Value.slice (ar gx gy) sl sc)) 0=gx:=by rw[al hat.x0];show((gx.toNat:Nat):Int)=gx;have:=hat.x0;omega
 have k1:bo (some (Value.slice (ar gx gy) sl sc)) 1=gy:=by rw[al hat.x0];show((gy.toNat:Nat):Int)=gy;omega
 rw[esv,k0,k1,hj];have hcell:∀ k u,row[k]?=some u->R.cell gx.toNat ((gy+(j:Int)*126).toNat+k)=some u:=fun k u hu=>by
  rw[show(gy+(j:Int)*126).toNat=gy.toNat+j*126 by omega];exact hat.cell k u hu
 have hcell':∀ k u,(row.take 125)[k]?=some u->R.cell gx.toNat ((gy+(j:Int)*126).toNat+k)=some u:=fun k u hu=>by
  rw[aa2]at hu;split at hu
  .exact hcell k u hu
  .cases hu
 have ho125:=gF (n:=125) hat.pc.ok;rw[pP]at ho125;have rom:∀ {q':Env} {ks:List Kd} {l:List Value},ai 140 q q'->bf l ks->(∀ k u,l[k]?=some u->R.cell gx.toNat ((gy+(j:Int)*126).toNat+k)=some u)->(aU 13 (.hP 13 (.var 0) (.var 130) 0 0) ((E.hP 13 (.var 0) (.var 130) 0 1).add ((E.wrap .u64 ((E.ite ((E.var 130).eq (.lit 0)) (.var 1) (E.ite ((E.var 130).eq (.lit 1)) (.var 2) (E.ite ((E.var 130).eq (.lit 2)) (.var 3) (E.ite ((E.var 130).eq (.lit 3)) (.var 4) (E.ite ((E.var 130).eq (.lit 4)) (.var 5) (.var 6)))))).add (.var 100))).mul (.lit 126))) 0 ks).map (CV.ev q')=l:=fun {q' ks l} g' hok hc=>dq l ks 0 hok fun k u hu=>by
  obtain⟨⟨u0,u1,u2,u3,u4,u5,u6⟩,_,_,u13⟩:=V q' (A.tr g');have e130:q'.i 130=i:=by rw[g'.i 130,ei]
  have e100:q'.i 100=n:=by rw[g'.i 100,en']
  have ex:az q' (.hP 13 (.var 0) (.var 130) 0 0)=gx:=by
   show bo ((q'.h 13).cell (q'.i 0).toNat ((q'.i 130).toNat+0)) 0=_;rw[u13,u0,e130,aa3,c,k0]
  have ey:az q' ((E.hP 13 (.var 0) (.var 130) 0 1).add ((E.wrap .u64 ((E.ite ((E.var 130).eq (.lit 0)) (.var 1) (E.ite ((E.var 130).eq (.lit 1)) (.var 2) (E.ite ((E.var 130).eq (.lit 2)) (.var 3) (E.ite ((E.var 130).eq (.lit 3)) (.var 4) (E.ite ((E.var 130).eq (.lit 4)) (.var 5) (.var 6)))))).add (.var 100))).mul (.lit 126)))=gy+(j:Int)*126:=by
   simp only[bQ,cx,bJ,fg,ga,au,aq];rw[show az q' (.hP 13 (.var 0) (.var 130) 0 1)=gy by
    show bo ((q'.h 13).cell (q'.i 0).toNat ((q'.i 130).toNat+0)) 1=_;rw[u13,u0,e130,aa3,c,k1],e130,e100,hcu _ _ _ _ _ _ u1 u2 u3 u4 u5 u6,wc,hj]
  rw[ex,ey,u13,aaM];exact hc k u hu
 have back:∀ q8,ai 140 q q8->ug (Kg R x st all TT) (q8.h 143) (q8.i 143) (q8.i 132+1) (q8.i 144) ((before st (fv cv) n i).take m++[pc])->N9 (Kg R x st all TT) m st (fv cv) 1 (assign q8 [⟨131,0,.int .i64 (.var 143)⟩,⟨132,0,.int .i64 (.add (.var 132) (.lit 1))⟩,⟨133,0,.int .i64 (.var 144)⟩,⟨130,0,.int .i64 (.wrap .i64 (.add (.var 130) (.lit 1)))⟩] [(134,some 143)])/\(6-IntKind.i64.wrap (q8.i 130+1)).toNat<(6-(i:Int)).toNat:=fun q8 g8 h=>by
  have e8:q8.i 130=i:=by rw[g8.i 130,ei]
  have ew:IntKind.i64.wrap (q8.i 130+1)=((i+1:Nat):Int):=by rw[e8,IntWalk.i64_in _ ah];omega
  refine⟨⟨n,i+1,by show q8.i 100=n;rw[g8.i 100,en'],ah,ew,ah,?_⟩,by rw[ew];omega⟩;rw[Dz (by rw[hjc];exact hpc),Lz hltm];exact h
 refine⟨hat.x0,hgy,ah,jR _ hat.pc.ok hcell,fun q4 g4 _=>?_⟩;obtain⟨_,⟨u8,u9,u10,u11,_⟩,ub,u13⟩:=V q4 (A.tr g4);rw[rom g4 ho125 hcell',u8,u9,u10,u11,show aY q4 (.bvar 7)=all from ub,u13];simp only[aaa];refine⟨⟨all,_,_,R,R,TT,pc.h,rfl,rfl,hU,hTT,hat.pc.hd⟩,fun q5 g5 ⟨_,p5,_⟩=>?_⟩;have e5:q5.b 141=decide (AN all TT pc.h):=Value.bool.inj (p5 _ _ _ _ _ _ _ rfl rfl hU hat.pc.hd);rw[e5,aaf];have A5:ai 140 q q5:=g4.tr g5;have hpre:∀ q6,ai 140 q q6->ug (Kg R x st all TT) (q6.h 134) (q6.i 131) (q6.i 132) (q6.i 133) ((before st (fv cv) n i).take m)/\q6.i 132=((before st (fv cv) n i).take m).length:=fun q6 g6=>by
  rw[g6.h 134,g6.i 131,g6.i 132,g6.i 133];exact⟨ho,o2⟩
 refine⟨fun hno q6 g6 _=>?_,fun hyes q6 g6 _=>?_⟩
 .have A6:ai 140 q q6:=A5.tr g6;obtain⟨hv,hl6⟩:=hpre q6 A6;refine⟨⟨hv.pre,ah,by unfold maxLen;omega,ah⟩,fun q8 g8 ⟨a1,a2,happ,_⟩=>back q8 (A6.tr g8) ?_⟩;rw[aaK,rom A6 ho125 hcell']at happ;rw[g8.i 132];exact hv.app (row:=row.take 125++[.slice none 0 0]) hat.pc.cut.ok ⟨i,j,row,_,_,hi6,c0,hrd',aB,hpc,by rw[aal hno]⟩ a1 a2 happ
 .have A6:ai 140 q q6:=A5.tr g6;obtain⟨hv,hl6⟩:=hpre q6 A6;refine⟨⟨hv.pre,ah,by unfold maxLen;omega,ah⟩,fun q8 g8 ⟨a1,a2,happ,_⟩=>back q8 (A6.tr g8) ?_⟩;rw[rom A6 hat.pc.ok hcell]at happ;rw[g8.i 132];exact hv.app (row:=row) hat.pc.ok ⟨i,j,row,_,_,hi6,c0,hrd',aB,hpc,by rw[aay hyes]⟩ a1 a2 happ
open RowKit
def UZ:Code->Code
 | .rangeFunc _ _ x _=>x
 | c=>c
def WM:Code->Code
 | .rangeFunc _ _ _ y=>y
 | c=>c
noncomputable def L8:Code:=match Tryz.f75.body with
 | some c=>c
 | none=>.skip
noncomputable def Pm:Code:=kN (gY (kN (gY (gY L8))))
def zP (l:List (Nat×TV)):List (Option TV):=(List.range 31).map fun i=>(l.find? fun p=>p.1==i).map (·.2)
noncomputable def g0:ft Tryz.prog [] where
 cs:=[kN L8,kN (gY L8),kN (kN (gY (gY L8)))]
 st:=⟨zP [(0,TP (.var 0) (.lit 0)),(1,.sv (.agg (ak 1 (List.replicate 6 (.int .u64))))),(2,.sv (.agg (ak 7 [.bool,.sl]))),(3,TI .i64 (.var 12))],[],14,[]⟩
 outs:=fun _=>[5,6,7,9,13]
noncomputable def g3:ft Tryz.prog [] where
 cs:=[UZ Pm]
 st:=⟨zP [(6,TP (.var 0) (.lit 0)),(7,TP (.var 1) (.lit 0)),(9,TP (.var 2) (.lit 0)),(14,.sv (.agg (ak 100 gJ)))],[],240,[]⟩
 outs:=fun _=>[6,7,9,10]
 plain:=true
noncomputable def UC:List Sx.Spec:=[Ur 120]
noncomputable def g4:ft Tryz.prog UC where
 cs:=[WM Pm]
 st:=⟨zP [(6,TP (.var 0) (.lit 0)),(7,TP (.var 1) (.lit 0)),(9,TP (.var 2) (.lit 0)),(10,TP (.var 3) (.lit 0))],[.ro 9 [.var 0,.var 1] true,.bd 2 [.sl (.var 20) (.lit 0) (.var 21) (.var 22)] 49,.hp 24 [] [.var 20] [],.bd 3 (ak 100 gJ) 67,.hp 25 [] [.var 153,.var 228] []],300,[]⟩
 outs:=fun _=>[9]
 plain:=true
def sq {l:List (Nat×TV)} {v:TV} (h:(zP l)[t]?=some (some v)):(t,v)∈l:=by
 unfold zP at h;simp only[aao,aai]at h;obtain⟨i,hi,⟨n,x⟩,hf,rfl⟩:=h;have h1:=acs hf;have h2:=adl hf;obtain⟨hi1,hi2⟩:=aah.1 hi;rw[List.getElem_range]at hi2;simp only[acF]at h2;rw[<-hi2]at h2;rw[<-h2];exact h1
def pN (b:Nat):Value:=.pointer (some ⟨b,0,none⟩)
def qb (h:0<=z):Value.pointer (ar z 0)=pN z.toNat:=by rw[al h];rfl
def iY (b:Nat):Value.pointer (ar ((b:Nat):Int) 0)=pN b:=qb ah
structure Xl (F:Hl) (b6 b7 b9 b1 b2 x:Nat) (cv:Nat->Int) (all:Bool) (u:Value) (most:Int):Prop where
 w6:F b6=some (.cells #[.bool all,u] 79 (0,0))
 w7:F b7=some (.cells #[.int .i64 most] 3 (0,0))
 w9:F b9=some (.cells #[.slice none 0 0] 49 (0,0))
 w1:F b1=some (.cells #[pN x] 121 (0,0))
 w2:F b2=some (.cells #[.int .u64 (cv 0),.int .u64 (cv 1),.int .u64 (cv 2),.int .u64 (cv 3),.int .u64 (cv 4),.int .u64 (cv 5)] 70 (0,0))
 n6:b6≠b9
 n7:b7≠b9
 n1:b1≠b9
 n2:b2≠b9
def yv {l:List Hl} (hd:∀ (p q:Nat) A B,p≠q->l[p]?=some A->l[q]?=some B->A.bq B) (h:l[i]?=some A) (hb:A b=some o):cu l b=some o:=by
 induction l generalizing i with
 | nil=>simp at h
 | cons B l ih =>
  cases i with
  | zero=>simp at h;subst h;exact Hl.aX _ _ _ _ hb
  | succ i =>
   have h:l[i]?=some A:=by simpa using h
   have hk:cu l b=some o:=ih (fun p q X Y hpq hX hY=>hd (p+1) (q+1) X Y ah (by simpa using hX) (by simpa using hY)) h;refine Hl.bj (fun c ⟨x,y⟩=>?_) _ _ hk;obtain⟨C,hC,hc⟩:=s9.1 y;obtain⟨j,hj⟩:=aaY hC;exact hd 0 (j+1) B C ah rfl (by simpa using hj) c ⟨x,hc⟩
def SQ {mem:Mem} (hown:∀ r∈mem,r.own=true) (hd:∀ (p q':Nat) r s,p≠q'->mem[p]?=some r->mem[q']?=some s->r.own=true->(r.hl q).bq (s.hl q)):∀ (p q':Nat) A B,p≠q'->(mem.map (bm.hl q))[p]?=some A->(mem.map (bm.hl q))[q']?=some B->A.bq B:=fun p q' A B hpq hA hB=>by
 rw[aao,aai]at hA hB;obtain⟨r,hr,rfl⟩:=hA;obtain⟨s,hs,rfl⟩:=hB;exact hd p q' r s hpq hr hs (hown r (aae hr))
def Cu {a:Nat} (h:(Hl.one a o).bq (Hl.one b o')):a≠b:=fun e=>Hl.fE.1 h (Hl.cm.2 e)
def Ve {all:Bool} {p:Int×Int} (hsz:a.tmps.size=31) (hdf:a.defers=[]) (h0:a.tmps[0]?=some (pN x)) (h1:a.tmps[1]?=some (Dg cv)) (h2:a.tmps[2]?=some (.agg #[.bool all,.slice (ar p.1 p.2) ul uc])) (h3:a.tmps[3]?=some (.int .i64 most)) :
 wN (FW none) dn Tryz.prog (fun e a' w'=>e=.normal/\a'.tmps.size=31/\a'.defers=[]/\∃ b6 b7 b9 b1 b2 F,a'.tmps[6]?=some (pN b6)/\a'.tmps[7]?=some (pN b7)/\a'.tmps[9]?=some (pN b9)/\a'.tmps[13]?=some (.func (.func 151) #[] #[pN b1,pN b2])/\fh w w' [] [] F/\Xl F b6 b7 b9 b1 b2 x cv all (.slice (ar p.1 p.2) ul uc) most) g0.cs a w:=by
 refine iq ?_ (ft.sound (Γ:=[]) aC g0 (Or.inr rfl) (Hs:=[]) (Rs:=[]) (J:=Gr [x,cv 0,cv 1,cv 2,cv 3,cv 4,cv 5,0,p.1,p.2,ul,uc,most] all (.bool false) Hl.none) (inv:=fun _ _=>True) (mu:=fun _ _=>0)
  (R:=fun v _ F=>∃ b5 b6 b7 b9 b1 b2:Nat,v=.tuple #[.int .i64 0,pN b5,pN b6,pN b7,pN b9,.func (.func 151) #[] #[pN b1,pN b2]]/\Xl F b6 b7 b9 b1 b2 x cv all (.slice (ar p.1 p.2) ul uc) most)
  aC aC aC ⟨by simp [g0],by simp [g0],.nil,by simp [g0]⟩ hsz hdf ?_ (fun _ h=>(nomatch h)) ?_)
 .rintro e a' w' ⟨t,vs,Hs',F,rfl,hs',hd',hm,hT,b5,b6,b7,b9,b1,b2,hv,hS⟩;have e0:Hs'=[]:=aad.1 hT.len;subst e0;simp only[Value.tuple.injEq,aaH,aag,Value.int.injEq,aaZ]at hv;obtain⟨ht,rfl⟩:=hv;obtain rfl:t=.norm:=jV ht;have hm:[a'.tmps[5]?,a'.tmps[6]?,a'.tmps[7]?,a'.tmps[9]?,a'.tmps[13]?]=_:=hm;simp only[aax,aa8,aag,aau]at hm;exact⟨rfl,hs'.trans hsz,hd',b6,b7,b9,b1,b2,F,hm.2.1,hm.2.2.1,hm.2.2.2.1,hm.2.2.2.2,hT,hS⟩
 .intro t v ht;have:=sq ht;simp only[aan,aat,aaX,aaS]at this;rcases this with ⟨rfl,rfl⟩ | ⟨rfl,rfl⟩ | ⟨rfl,rfl⟩ | ⟨rfl,rfl⟩
  .exact h0.trans (by show _=some (Value.pointer (ar (x:Int) 0));rw[iY])
  .exact h1
  .exact h2.trans (by show _=some (Value.agg #[.bool all,.slice (ar p.1 p.2) ((ul:Int)).toNat ((uc:Int)).toNat]);rw[aaa,aaa])
  .exact h3
 refine ft.read [] [] [] ?_;generalize hρ:Gr [(x:Int),cv 0,cv 1,cv 2,cv 3,cv 4,cv 5,0,p.1,p.2,ul,uc,most] all (.bool false) Hl.none=J;simp only[go_sem,Nat.reduceAdd];intro q1 f1 p1 q2 f2 p2 q3 f3 p3 q4 f4 p4 q5 f5 p5 q6 f6 p6;have A:ai 14 J q6:=f1.trans (f2.mono.trans (f3.mono.trans (f4.mono.trans (f5.mono.tr f6))));have P:0<=q6.i 14/\0<=q6.i 15/\0<=q6.i 16/\0<=q6.i 17/\0<=q6.i 18:=by
  rw[f6.i 14,f5.i 14,f4.i 14,f3.i 14,f2.i 14,f6.i 15,f5.i 15,f4.i 15,f3.i 15,f6.i 16,f5.i 16,f4.i 16,f6.i 17,f5.i 17,f6.i 18];exact⟨p1,p2,p3,p4,p5⟩
 obtain⟨P1,P2,P3,P4,P5⟩:=P;intro hd;refine⟨[],[0,1,2,3,4,5],rfl,zzK,(q6.i 14).toNat,(q6.i 15).toNat,(q6.i 16).toNat,(q6.i 17).toNat,(q6.i 18).toNat,(q6.i 19).toNat,?_,?_⟩
 .show Value.tuple #[.int .i64 0,.pointer (ar (q6.i 14) 0),.pointer (ar (q6.i 15) 0),.pointer (ar (q6.i 16) 0),.pointer (ar (q6.i 17) 0),.func (.func 151) #[] #[.pointer (ar (q6.i 18) 0),.pointer (ar (q6.i 19) 0)]]=_;rw[qb P1,qb P2,qb P3,qb P4,qb P5,qb p6]
 .have V:q6.i 0=x/\q6.i 1=cv 0/\q6.i 2=cv 1/\q6.i 3=cv 2/\q6.i 4=cv 3/\q6.i 5=cv 4/\q6.i 6=cv 5/\q6.b 7=all/\q6.i 8=p.1/\q6.i 9=p.2/\q6.i 10=ul/\q6.i 11=uc/\q6.i 12=most:=by
   rw[A.i 0,A.i 1,A.i 2,A.i 3,A.i 4,A.i 5,A.i 6,A.b 7,A.i 8,A.i 9,A.i 10,A.i 11,A.i 12,<-hρ];exact⟨rfl,rfl,rfl,rfl,rfl,rfl,rfl,rfl,rfl,rfl,rfl,rfl,rfl⟩
  obtain⟨v0,v1,v2,v3,v4,v5,v6,v7,v8,v9,v10,v11,v12⟩:=V;have hd':=SQ (by intro r hr;simp at hr;rcases hr with rfl | rfl | rfl | rfl | rfl | rfl<;>rfl) hd;refine⟨(yv hd' (i:=1) rfl (Hl.aN _ _)).trans ?_,(yv hd' (i:=2) rfl (Hl.aN _ _)).trans ?_,(yv hd' (i:=3) rfl (Hl.aN _ _)).trans ?_,(yv hd' (i:=4) rfl (Hl.aN _ _)).trans ?_,(yv hd' (i:=5) rfl (Hl.aN _ _)).trans ?_,Cu (hd' 1 3 _ _ aA rfl rfl),Cu (hd' 2 3 _ _ aA rfl rfl),Cu (hd' 4 3 _ _ aA rfl rfl),Cu (hd' 5 3 _ _ aA rfl rfl)⟩
  .show some (Obj.cells #[.bool (q6.b 7),.slice (ar (q6.i 8) (q6.i 9)) (q6.i 10).toNat (q6.i 11).toNat] 79 (0,0))=_;rw[v7,v8,v9,v10,v11,aaa,aaa]
  .show some (Obj.cells #[.int .i64 (q6.i 12)] 3 (0,0))=_;rw[v12]
  .rfl
  .show some (Obj.cells #[.pointer (ar (q6.i 0) 0)] 121 (0,0))=_;rw[v0,iY]
  .show some (Obj.cells #[.int .u64 (q6.i 1),.int .u64 (q6.i 2),.int .u64 (q6.i 3),.int .u64 (q6.i 4),.int .u64 (q6.i 5),.int .u64 (q6.i 6)] 70 (0,0))=_;rw[v1,v2,v3,v4,v5,v6]
set_option maxRecDepth 20000 in
def Vf {ro:Option Nat} (aB:bf row mP) (hsz:a.tmps.size=31) (hdf:a.defers=[]) (h6:a.tmps[6]?=some (pN b6)) (h7:a.tmps[7]?=some (pN b7)) (h9:a.tmps[9]?=some (pN b9)) (h14:a.tmps[14]?=some (.agg row.toArray)) :
 wN (FW ro) dn Tryz.prog (fun e a' w'=>e=.normal/\a'.tmps.size=31/\a'.defers=[]/\∃ b10 F,a'.tmps[6]?=some (pN b6)/\a'.tmps[7]?=some (pN b7)/\a'.tmps[9]?=some (pN b9)/\a'.tmps[10]?=some (pN b10)/\fh w w' [] [] F/\F=Hl.one b10 (.cells row.toArray 67 (0,0))) g3.cs a w:=by
 obtain⟨q,eq,hn,ei,eb,eh⟩:=FR 100 (fun k=>([(b6:Int),b7,b9]:List Int).getD k 0) (fun _=>false) [] (ks:=gJ) aB;refine iq ?_ (ft.sound (Γ:=[]) aC g3 (Or.inl rfl) (Hs:=[]) (Rs:=[]) (J:=q) (inv:=fun _ _=>True) (mu:=fun _ _=>0)
  (R:=fun v _ F=>∃ b10:Nat,v=.tuple #[.int .i64 0,pN b6,pN b7,pN b9,pN b10]/\F=Hl.one b10 (.cells row.toArray 67 (0,0)))
  aC aC aC ⟨by simp [g3],by simp [g3],.nil,by simp [g3]⟩ hsz hdf ?_ (fun _ h=>(nomatch h)) ?_)
 .rintro e a' w' ⟨t,vs,Hs',F,rfl,hs',hd',hm,hT,b10,hv,hS⟩;have e0:Hs'=[]:=aad.1 hT.len;subst e0;simp only[Value.tuple.injEq,aaH,aag,Value.int.injEq,aaZ]at hv;obtain⟨ht,rfl⟩:=hv;obtain rfl:t=.norm:=jV ht;have hm:[a'.tmps[6]?,a'.tmps[7]?,a'.tmps[9]?,a'.tmps[10]?]=_:=hm;simp only[aax,aa8,aag,aau]at hm;exact⟨rfl,hs'.trans hsz,hd',b10,F,hm.1,hm.2.1,hm.2.2.1,hm.2.2.2,hT,hS⟩
 .intro t v ht;have:=sq ht;simp only[aan,aat,aaX,aaS]at this;rcases this with ⟨rfl,rfl⟩ | ⟨rfl,rfl⟩ | ⟨rfl,rfl⟩ | ⟨rfl,rfl⟩
  .exact h6.trans (by show _=some (Value.pointer (ar (q.i 0) 0));rw[ei 0 ah];exact aaQ some (iY _).symm)
  .exact h7.trans (by show _=some (Value.pointer (ar (q.i 1) 0));rw[ei 1 ah];exact aaQ some (iY _).symm)
  .exact h9.trans (by show _=some (Value.pointer (ar (q.i 2) 0));rw[ei 2 ah];exact aaQ some (iY _).symm)
  .exact h14.trans (by show _=some (Value.agg ((ak 100 gJ).map (CV.ev q)).toArray);rw[eq])
 refine ft.read [gJ] [] [] ?_;simp only[go_sem,Nat.reduceAdd];intro q1 f1 p1 _;refine⟨[],[0],rfl,zzK,(q1.i 240).toNat,?_,?_⟩
 .show Value.tuple #[.int .i64 0,.pointer (ar (q1.i 0) 0),.pointer (ar (q1.i 1) 0),.pointer (ar (q1.i 2) 0),.pointer (ar (q1.i 240) 0)]=_;rw[f1.i 0,f1.i 1,f1.i 2,ei 0 ah,ei 1 ah,ei 2 ah,qb p1];show Value.tuple #[.int .i64 0,.pointer (ar ((b6:Nat):Int) 0),.pointer (ar ((b7:Nat):Int) 0),.pointer (ar ((b9:Nat):Int) 0),_]=_;rw[iY,iY,iY]
 .show cu [Hl.one (q1.i 240).toNat (.cells ((ak 100 gJ).map (CV.ev q1)).toArray 67 (0,0))]=_;have er:(ak 100 gJ).map (CV.ev q1)=row:=(aaQ Array.toList (Value.agg.inj (fS (ks:=gJ) (n:=100) f1 aA))).trans eq;rw[aL,er]
end Go.Proofs.YtomdimlnggpgbaaGreatDoor
