/- RelayPlays. -/
import Derived.Test.YtomdimlnggpgbaaGreatDoorTJ
set_option linter.all false
set_option maxHeartbeats 4000000
namespace Go.Sx
open Go
def Hl.minus (H K:Hl):Hl:=fun b=>if(K b).isSome then Option.none else H b
variable {A H K a b:Hl}
def Hl.zA (H K:Hl):(H.minus K).le H:=fun b o h=>by
 unfold Hl.minus at h;split at h
 .cases h
 .exact h
def Hl.LD (H K:Hl):K.bP (H.minus K):=fun b ⟨x,y⟩=>by
 unfold Hl.mem at x y;unfold Hl.minus at y;rw[aav x]at y;cases y
def Hl.zg (h:A.le H) (d:A.bP K):A.le (H.minus K):=fun b o hb=>by
 unfold Hl.minus;have hm:A.mem b:=by unfold Hl.mem;rw[hb];rfl
 have hn:¬(K b).isSome=true:=fun hk=>d b ⟨hm,hk⟩;rw[aan hn];exact h b o hb
def Hl.Oh (h:K.le H):K.un (H.minus K)=H:=by
 funext b
 unfold Hl.un Hl.minus;cases hb:K b with
 | none=>simp
 | some o=>simp;exact(h b o hb).symm
def Hl.tC (h:a.bP b):b.bP a:=fun k ⟨x,y⟩=>h k ⟨y,x⟩
end Go.Sx
namespace Go.Proofs.YtomdimlnggpgbaaGreatDoor
open Go Go.Sx Go.Pk
variable {B G H KB R R':Hl}{w x1:Int}{c1 i k n1 x:Nat}{st:Nat->List Pc}{a:Nat->Nat}{sv:Nat->Value}{α:Type}
def dY (st:Nat->List Pc):Int:=(((st 0).length+(st 1).length+(st 2).length+(st 3).length+(st 4).length+(st 5).length:Nat):Int)
def D4 (a:Nat->Nat) (sv:Nat->Value) (n:Int):List Value:=[.pointer (some ⟨a 0,0,none⟩),.pointer (some ⟨a 1,0,none⟩),.pointer (some ⟨a 2,0,none⟩),.pointer (some ⟨a 3,0,none⟩),.pointer (some ⟨a 4,0,none⟩),.pointer (some ⟨a 5,0,none⟩),sv 0,sv 1,sv 2,sv 3,sv 4,sv 5,.int .i64 n]
def JE (a:Nat->Nat) (sv:Nat->Value) (n:Int) (h:i<6):(D4 a sv n)[i]?=some (.pointer (some ⟨a i,0,none⟩))/\(D4 a sv n)[6+i]?=some (sv i):=by
 have:i=0\/i=1\/i=2\/i=3\/i=4\/i=5:=ah;rcases this with rfl | rfl | rfl | rfl | rfl | rfl<;>exact⟨rfl,rfl⟩
def vH (f:Nat->α) (i:Nat) (x:α):Nat->α:=fun k=>if k=i then x else f k
def cU (f:Nat->α) (i:Nat) (x:α):vH f i x i=x:=by simp [vH]
def fC (f:Nat->α) (x:α) (h:k≠i):vH f i x k=f k:=by simp [vH,h]
def NX (a:Nat->Nat) (sv:Nat->Value) (n:Int) (v:Value) (h:i<6):bE (D4 a sv n) (6+i) [v]=D4 a (vH sv i v) n:=by
 have:i=0\/i=1\/i=2\/i=3\/i=4\/i=5:=ah;rcases this with rfl | rfl | rfl | rfl | rfl | rfl<;>rfl
def Wc (a:Nat->Nat) (sv:Nat->Value) (n m:Int):bE (D4 a sv n) 12 [.int .i64 m]=D4 a sv m:=rfl
def El (st:Nat->List Pc) (p:Pc) (h:i<6):dY (vH st i (st i++[p]))=dY st+1:=by
 have:i=0\/i=1\/i=2\/i=3\/i=4\/i=5:=ah;rcases this with rfl | rfl | rfl | rfl | rfl | rfl<;>(unfold dY vH;simp;omega)
def lS (st:Nat->List Pc) (i:Nat):List Hd:=(st i).map Pc.h
structure Xh (H:Hl) (x:Nat) (st:Nat->List Pc) (a:Nat->Nat) (sv:Nat->Value) (Kc:Nat->Hl) (KB:Hl):Prop where
 bd:H x=some (.cells (D4 a sv (dY st)).toArray 182 (0,0))
 ch:∀ i,i<6->iv (Kc i) (a i) (i+1:Nat) (lS st i)
 le:∀ i,i<6->(Kc i).le H
 bP:∀ i j,i<6->j<6->i≠j->(Kc i).bP (Kc j)
 nox:∀ i,i<6->¬(Kc i).mem x
 row:∀ i,i<6->∃ us,aN H 46 1 (sv i) (st i).length us/\∀ (j:Nat) u p,us[j]?=some u->(st i)[j]?=some p->fu KB u p.b
 kb:KB.le H
 kbx:¬KB.mem x
 kbc:∀ i,i<6->KB.bP (Kc i)
 own:∀ i b,i<6->(sv i).ownBlock=some b->¬KB.mem b/\∀ j,j<6->¬(Kc j).mem b/\(j≠i->(sv j).ownBlock≠some b)
def pw (H:Hl) (x:Nat) (st:Nat->List Pc):Prop:=∃ a sv Kc KB,Xh H x st a sv Kc KB
structure SN (R:Hl) (x:Nat) (st:Nat->List Pc) (a:Nat->Nat) (sv:Nat->Value):Prop where
 bd:R x=some (.cells (D4 a sv (dY st)).toArray 182 (0,0))
 ch:∀ i,i<6->cM R (a i) (i+1:Nat) (lS st i)
 row:∀ i,i<6->∃ us,aN R 46 1 (sv i) (st i).length us/\∀ (j:Nat) u p,us[j]?=some u->(st i)[j]?=some p->fu R u p.b
def px (R:Hl) (x:Nat) (st:Nat->List Pc):Prop:=∃ a sv,SN R x st a sv
def pw.rd (h:pw H x st):px H x st:=by
 obtain⟨a,sv,Kc,KB,h⟩:=h;refine⟨a,sv,h.bd,fun i hi=>⟨Kc i,h.le i hi,h.ch i hi⟩,fun i hi=>?_⟩;obtain⟨us,h1,h2⟩:=h.row i hi;exact⟨us,h1,fun j u p hu hp=>jR (h2 j u p hu hp) h.kb⟩
def cM.mono (hl:R.le R') {a:Nat} {hs:List Hd} (h:cM R a w hs):cM R' a w hs:=by
 obtain⟨K,h1,h2⟩:=h;exact⟨K,fun b o hb=>hl b o (h1 b o hb),h2⟩
def px.mono (hl:R.le R') (h:px R x st):px R' x st:=by
 obtain⟨a,sv,h⟩:=h;refine⟨a,sv,hl _ _ h.bd,fun i hi=>(h.ch i hi).mono hl,fun i hi=>?_⟩;obtain⟨us,h1,h2⟩:=h.row i hi;exact⟨us,h1.mono hl,fun j u p hu hp=>jR (h2 j u p hu hp) hl⟩
def SN.cells (h:SN R x st a sv) (hi:i<6):R.cell x i=some (.pointer (some ⟨a i,0,none⟩))/\R.cell x (6+i)=some (sv i)/\R.cell x 12=some (.int .i64 (dY st)):=by
 obtain⟨e1,e2⟩:=JE a sv (dY st) hi;refine⟨?_,?_,?_⟩
 .unfold Hl.cell;rw[h.bd];simpa using e1
 .unfold Hl.cell;rw[h.bd];simpa using e2
 .unfold Hl.cell;rw[h.bd];rfl
def Xh.put {Kc:Nat->Hl} (h:Xh H x st a sv Kc KB) (hi:i<6) {K':Hl} {p:Pc} {u:Value} 
 (hd:K'.bP (H.minus (Kc i))) (hc:iv K' (a i) (i+1:Nat) (lS st i++[p.h])) (hb:fu B u p.b) (hx1:-1<=x1)
 (happ:∀ xs,aN (K'.un (H.minus (Kc i))) 46 1 (sv i) (st i).length xs->aN G 46 1 (.slice (az x1 0) n1 c1) ((st i).length+1) (xs++[u]))
 (hk:∀ b,(K'.un (H.minus (Kc i))).mem b->some b≠(sv i).ownBlock->G b=(K'.un (H.minus (Kc i))) b)
 (hnew:some x1.toNat=(sv i).ownBlock\/¬(K'.un (H.minus (Kc i))).mem x1.toNat\/x1= -1)
 (hB:((G.put x (6+i) [.slice (az x1 0) n1 c1]).put x 12 [.int .i64 (dY st+1)]).bP B) :
 Xh (((G.put x (6+i) [.slice (az x1 0) n1 c1]).put x 12 [.int .i64 (dY st+1)]).un B) x (vH st i (st i++[p])) a (vH sv i (.slice (az x1 0) n1 c1)) (vH Kc i K') (KB.un B):=by
 generalize hH2:K'.un (H.minus (Kc i))=H2 at *;have lM:(H.minus (Kc i)).le H2:=by
  rw[<-hH2];exact Hl.bC hd
 have lK:K'.le H2:=by
  rw[<-hH2];exact Hl.bh _ _
 have xM:(H.minus (Kc i)).mem x:=Hl.eJ (Hl.zg (A:=Hl.one x (.cells (D4 a sv (dY st)).toArray 182 (0,0))) (fun b o hb=>by
  unfold Hl.one at hb;split at hb
  .rename_i e;subst e;cases hb;exact h.bd
  .cases hb) (Hl.gl.2 (h.nox i hi))) (Hl.mem_of (Hl.aT _ _))
 have hxM:(H.minus (Kc i)) x=some (.cells (D4 a sv (dY st)).toArray 182 (0,0)):=by
  obtain⟨o,ho⟩:=aa5.1 xM;have:=Hl.zA H (Kc i) x o ho;rw[h.bd]at this;cases this;exact ho
 have lKc:∀ j,j<6->j≠i->(Kc j).le (H.minus (Kc i)):=fun j hj hne=>Hl.zg (h.le j hj) (h.bP j i hj hi hne);have lKB:KB.le (H.minus (Kc i)):=Hl.zg h.kb (h.kbc i hi);have ownM:∀ j b,j<6->(sv j).ownBlock=some b->∃ c,(H.minus (Kc i)) b=some (.cells c 46 (0,0)):=fun j b hj hb=>by
  obtain⟨us,h1,_⟩:=h.row j hj;obtain⟨c,hcb⟩:=h1.type hb;refine⟨c,?_⟩;unfold Hl.minus;have:=((h.own j b hj hb).2 i hi).1;unfold Hl.mem at this;rw[aan this];exact hcb
 have ownx:∀ j b,j<6->(sv j).ownBlock=some b->b≠x:=fun j b hj hb e=>by
  subst e;obtain⟨c,hcb⟩:=ownM j _ hj hb;rw[hxM]at hcb;simp at hcb
 have xne:some x≠(sv i).ownBlock:=fun e=>ownx i x hi e.symm rfl;have keepx:G x=some (.cells (D4 a sv (dY st)).toArray 182 (0,0)):=by
  rw[hk x (Hl.eJ lM xM) xne];exact lM _ _ hxM
 have lG:∀ {A:Hl},A.le H2->(∀ b,(sv i).ownBlock=some b->¬A.mem b)->A.le G:=fun {A} hA hn b o hb=>by
  rw[hk b (Hl.eJ hA (Hl.mem_of hb)) fun e=>hn b e.symm (Hl.mem_of hb)];exact hA b o hb
 have nK:∀ b,(sv i).ownBlock=some b->¬K'.mem b:=fun b hb hm=>by
  obtain⟨c,hcb⟩:=ownM i b hi hb;exact hd b ⟨hm,Hl.mem_of hcb⟩
 have xK:¬K'.mem x:=fun hm=>hd x ⟨hm,xM⟩;have xGB:((G.put x (6+i) [.slice (az x1 0) n1 c1]).put x 12 [.int .i64 (dY st+1)]) x=some (.cells (D4 a (vH sv i (.slice (az x1 0) n1 c1)) (dY st+1)).toArray 182 (0,0)):=by
  rw[Hl.qf (Hl.qf keepx)];simp only[acy];rw[NX _ _ _ _ hi,Wc]
 have dG:∀ b,G.mem b->¬B.mem b:=fun b h1 h2=>hB b ⟨Hl.gF.2 (Hl.gF.2 h1),h2⟩;have put2:∀ b o,b≠x->G b=some o->(((G.put x (6+i) [.slice (az x1 0) n1 c1]).put x 12 [.int .i64 (dY st+1)]).un B) b=some o:=fun b o hb hg=>Hl.bh _ _ b o (by rw[Hl.oJ hb,Hl.oJ hb];exact hg);have leF:∀ {A:Hl},A.le G->¬A.mem x->A.le (((G.put x (6+i) [.slice (az x1 0) n1 c1]).put x 12 [.int .i64 (dY st+1)]).un B):=fun hA hx b o hb=>Hl.bh _ _ b o (Hl.zh (Hl.zh hA hx) hx b o hb);have lKG:K'.le G:=lG lK nK;have lBG:KB.le G:=lG (fun b o hb=>lM _ _ (lKB b o hb)) fun b hb=>(h.own i b hi hb).1;have lCG:∀ j,j<6->j≠i->(Kc j).le G:=fun j hj e=>lG (fun b o hb=>lM _ _ (lKc j hj e b o hb)) fun b hb=>((h.own i b hi hb).2 j hj).1;have xB:¬B.mem x:=dG x (Hl.mem_of keepx);have xKBB:¬(KB.un B).mem x:=fun hm=>(Hl.dz.1 hm).elim h.kbx xB;have lKBB:(KB.un B).le (((G.put x (6+i) [.slice (az x1 0) n1 c1]).put x 12 [.int .i64 (dY st+1)]).un B):=fun b o hb=>by
  unfold Hl.un at hb;cases hq:KB b with
  | some o'=>rw[hq]at hb;cases hb;exact leF lBG h.kbx _ _ hq
  | none=>rw[hq]at hb;exact Hl.bC hB b o hb
 obtain⟨us,ho,hus⟩:=h.row i hi;have hoM:aN H2 46 1 (sv i) (st i).length us:=ho.at fun b hb=>by
  obtain⟨c,hcb⟩:=ownM i b hi hb;rw[lM _ _ hcb];exact(Hl.zA H (Kc i) _ _ hcb).symm
 have hoG:=happ us hoM;have newx:∀ b,(Value.slice (az x1 0) n1 c1).ownBlock=some b->b=x1.toNat/\x1≠ -1:=fun b hb=>by
  rcases abu x1 0 with hlt | h0
  .rw[show x1= -1 by omega,fb]at hb;cases hb
  .rw[au h0]at hb;have:x1.toNat=b:=by simpa [Value.ownBlock] using hb
   exact⟨this.symm,ah⟩
 have newn:∀ {A:Hl},A.le H2->(∀ b,(sv i).ownBlock=some b->¬A.mem b)->∀ b,(Value.slice (az x1 0) n1 c1).ownBlock=some b->¬A.mem b:=fun {A} hA hn b hb hm=>by
  obtain⟨rfl,hne⟩:=newx b hb;rcases hnew with h1 | h1 | h1
  .exact hn _ h1.symm hm
  .exact h1 (Hl.eJ hA hm)
  .exact hne h1
 have newo:∀ j b,j<6->j≠i->(Value.slice (az x1 0) n1 c1).ownBlock=some b->(sv j).ownBlock≠some b:=fun j b hj hji hb e=>by
  obtain⟨rfl,hne⟩:=newx b hb;rcases hnew with h1 | h1 | h1
  .exact((h.own i _ hi h1.symm).2 j hj).2 hji e
  .obtain⟨c,hcb⟩:=ownM j _ hj e;exact h1 (Hl.eJ lM (Hl.mem_of hcb))
  .exact hne h1
 have newxx:∀ b,(Value.slice (az x1 0) n1 c1).ownBlock=some b->b≠x:=fun b hb e=>by
  subst e;obtain⟨c,hcb⟩:=hoG.type hb;rw[keepx]at hcb;simp at hcb
 refine⟨?_,fun j hj=>?_,fun j hj=>?_,fun j k hj hk' hjk=>?_,fun j hj=>?_,fun j hj=>?_,lKBB,xKBB,fun j hj=>?_,fun j b hj hb=>?_⟩
 .rw[El _ _ hi];exact Hl.bh _ _ _ _ xGB
 .by_cases e:j=i
  .subst e;rw[cU];unfold lS;rw[cU,aaM];exact hc
  .rw[fC _ _ e];unfold lS;rw[fC _ _ e];exact h.ch j hj
 .by_cases e:j=i
  .subst e;rw[cU];exact leF lKG xK
  .rw[fC _ _ e];exact leF (lCG j hj e) (h.nox j hj)
 .by_cases e:j=i
  .subst e;rw[cU,fC _ _ (Ne.symm hjk)];exact Hl.yw hd (lKc k hk' (Ne.symm hjk))
  .by_cases e2:k=i
   .subst e2;rw[cU,fC _ _ e];exact Hl.tC (Hl.yw hd (lKc j hj e))
   .rw[fC _ _ e,fC _ _ e2];exact h.bP j k hj hk' hjk
 .by_cases e:j=i
  .subst e;rw[cU];exact xK
  .rw[fC _ _ e];exact h.nox j hj
 .by_cases e:j=i
  .subst e;rw[cU,cU,aac];refine⟨us++[u],hoG.at fun b hb=>(by obtain⟨cc,hcc⟩:=hoG.type hb;rw[hcc];exact put2 b _ (newxx b hb) hcc),fun k v q hv hq=>?_⟩;have hl:us.length=(st j).length:=by have:=ho.1;omega
   rcases aa9 k us.length with rP | rP
   .rw[aaH rP]at hv;rw[aaH ah]at hq;exact jR (hus k v q hv hq) (Hl.bh _ _)
   .rw[aau rP]at hv;rw[aau ah]at hq;have hv:=aae hv;have hq:=aae hq;rw[aal]at hv hq;subst hv;subst hq;exact jR hb (Hl.bC fun b ⟨y,z⟩=>dG b (Hl.eJ lBG y) z)
  .rw[fC _ _ e,fC _ _ e];obtain⟨vs,h1,h2⟩:=h.row j hj;refine⟨vs,h1.at fun b hb=>?_,fun k v q hv hq=>jR (h2 k v q hv hq) (Hl.bh _ _)⟩;obtain⟨c,hcb⟩:=ownM j b hj hb;rw[Hl.zA H (Kc i) _ _ hcb];refine put2 b _ (ownx j b hj hb) ?_;rw[hk b (Hl.eJ lM (Hl.mem_of hcb)) fun e'=>((h.own i b hi e'.symm).2 j hj).2 e hb,lM _ _ hcb]
 .by_cases e:j=i
  .subst e;rw[cU];exact fun b ⟨y,z⟩=>(Hl.dz.1 y).elim (fun y=>hd b ⟨z,Hl.eJ lKB y⟩) (fun y=>dG b (Hl.eJ lKG z) y)
  .rw[fC _ _ e];exact fun b ⟨y,z⟩=>(Hl.dz.1 y).elim (fun y=>h.kbc j hj b ⟨y,z⟩) (fun y=>dG b (Hl.eJ (lCG j hj e) z) y)
 .by_cases e:j=i
  .subst e;rw[cU]at hb;refine⟨fun hm=>(Hl.dz.1 hm).elim (newn (fun b o hb=>lM _ _ (lKB b o hb)) (fun b hb=>(h.own j b hi hb).1) b hb) (fun y=>by obtain⟨cc,hcc⟩:=hoG.type hb;exact dG b (Hl.mem_of hcc) y),fun k hk'=>?_⟩;by_cases e2:k=j
   .subst e2;rw[cU];exact⟨newn lK nK b hb,fun h=>absurd rfl h⟩
   .rw[fC _ _ e2,fC _ _ e2];exact⟨newn (fun b o hb=>lM _ _ (lKc k hk' e2 b o hb)) (fun b hb=>((h.own j b hi hb).2 k hk').1) b hb,fun _=>newo k b hk' e2 hb⟩
  .rw[fC _ _ e]at hb;obtain⟨c,hcb⟩:=ownM j b hj hb;refine⟨fun hm=>(Hl.dz.1 hm).elim (h.own j b hj hb).1 (fun y=>dG b (by
    have e1:G b=some (.cells c 46 (0,0)):=by rw[hk b (Hl.eJ lM (Hl.mem_of hcb)) fun e'=>((h.own i b hi e'.symm).2 j hj).2 e hb,lM _ _ hcb]
    exact Hl.mem_of e1) y),fun k hk'=>?_⟩
   by_cases e2:k=i
   .subst e2;rw[cU,cU];exact⟨fun hm=>hd b ⟨hm,Hl.mem_of hcb⟩,fun _ e3=>newo j b hj e e3 hb⟩
   .rw[fC _ _ e2,fC _ _ e2];exact(h.own j b hj hb).2 k hk'
end Go.Proofs.YtomdimlnggpgbaaGreatDoor
namespace Go.Sx
open Go
def lu:∀ {l:List Hl} (_:∀ (p q:Nat) A B,p≠q->l[p]?=some A->l[q]?=some B->A.bP B) {i:Nat} {A:Hl},l[i]?=some A->A.le (cP l)
 | [],_,_,_,h=>by simp at h
 | B::l,hd,0,A,h=>by
  simp only[aa4,aai]at h;subst h;exact Hl.bh _ _
 | B::l,hd,i+1,A,h=>by
  have ih:=lu (l:=l) (fun p q A B hpq ha hb=>hd (p+1) (q+1) A B ah (by simpa using ha) (by simpa using hb)) (i:=i) (A:=A) (by simpa using h);have hB:B.bP (cP l):=fun b ⟨x,y⟩=>by
   obtain⟨C,hC,hb⟩:=CQ.1 y;obtain⟨j,hj⟩:=abb hC;exact hd 0 (j+1) B C ah rfl (by simpa using hj) b ⟨x,hb⟩
  exact fun b o hb=>Hl.bC hB b o (ih b o hb)
end Go.Sx
namespace Go.Proofs.YtomdimlnggpgbaaGreatDoor
open Go Go.Sx Go.Pk
variable {q:Env}{h:Hd}{F R:Hl}{s w y:Int}{row:List Value}{i n x:Nat}{st':Nat->List Pc}
def EX:Sx.Spec where
 fn:=96
 own:=[]
 rd:=[]
 res:=[.one .ptr]
 pre:=fun xs Hs Rs=>xs=[]
 post:=fun xs Hs Rs v Hs' F=>∃ x:Nat,v=.pointer (some ⟨x,0,none⟩)/\pw F x (fun _=>[])
def Wb:List Sx.Spec:=[Gt]
def TQ:∀ t∈Wb,t.OK Tryz.prog:=fun t ht=>by
 rw[Wb,aal]at ht;subst ht;exact PQ
def YE:Gt.res=[.one .ptr]:=rfl
def Pj (n:Nat):(aK n [Cp.one .ptr]≠[])=True:=by simp [aK,Cp.roots,Ck.root]
def Si:aG Tryz.prog Wb EX.fn where
 Λ:=aD
 args:=[]
 mem:=[]
 nv:=0
def nV {x:Int} {K:List Hl} (hp:Gt.post [.int .i64 w] [] [] (.pointer (az x y)) K F) (hx:-1<=x) (hy:0<=y):0<=x/\az x y=some ⟨x.toNat,0,none⟩/\iv F x.toNat w []:=by
 obtain⟨b,e,h⟩:=hp w rfl;rcases abu x 0 with hlt | h0
 .rw[show x= -1 by omega,fb]at e;cases e
 .rw[au h0]at e ⊢;simp only[Value.pointer.injEq,aai,Addr.mk.injEq,aat]at e;obtain⟨e1,e2⟩:=e;rw[<-e1]at h;refine⟨h0,?_,h⟩;rw[e2]
def EY:EX.OK Tryz.prog:=by
 refine Spec.aS (Γ:=Wb) TQ ?_;rintro xs Hs Rs hl1 hl2 rfl;have e0:Hs=[]:=aad.1 hl1;have e1:Rs=[]:=aad.1 hl2;subst e0 e1;refine⟨Si,aO [] false [],fun _ _=>True,fun _ _=>0,rfl,cO (by intro r hr;simp [Si]at hr) rfl,(fun _ h=>nomatch h),?_⟩;refine aG.read [] [] [] ?_;generalize aO [] false []=J;simp only[go_sem,Nat.reduceAdd,Wb,YE,Pj];intro q0 g0 p0;refine⟨⟨1,rfl⟩,fun q1 g1 ⟨F1,a1,b1,n1⟩=>⟨⟨2,rfl⟩,fun q2 g2 ⟨F2,a2,b2,n2⟩=>⟨⟨3,rfl⟩,fun q3 g3 ⟨F3,a3,b3,n3⟩=>⟨⟨4,rfl⟩,fun q4 g4 ⟨F4,a4,b4,n4⟩=>⟨⟨5,rfl⟩,fun q5 g5 ⟨F5,a5,b5,n5⟩=>⟨⟨6,rfl⟩,fun q6 g6 ⟨F6,a6,b6,n6⟩=>?_⟩⟩⟩⟩⟩⟩;obtain⟨m1,c1,d1⟩:=nV a1 n1.1.1 n1.1.2;obtain⟨m2,c2,d2⟩:=nV a2 n2.1.1 n2.1.2;obtain⟨m3,c3,d3⟩:=nV a3 n3.1.1 n3.1.2;obtain⟨m4,c4,d4⟩:=nV a4 n4.1.1 n4.1.2;obtain⟨m5,c5,d5⟩:=nV a5 n5.1.1 n5.1.2;obtain⟨m6,c6,d6⟩:=nV a6 n6.1.1 n6.1.2;have b1:=b1 trivial;have b2:=b2 trivial;have b3:=b3 trivial;have b4:=b4 trivial;have b5:=b5 trivial;have b6:=b6 trivial;have A5:ai 11 q5 q6:=g6;have A4:ai 9 q4 q6:=g5.tr A5;have A3:ai 7 q3 q6:=g4.tr A4;have A2:ai 5 q2 q6:=g3.tr A3;have A1:ai 3 q1 q6:=g2.tr A2;rw[<-b1,<-A1.i 1,<-A1.h 1]at d1;rw[<-b2,<-A2.i 3,<-A2.h 3]at d2;rw[<-b3,<-A3.i 5,<-A3.h 5]at d3;rw[<-b4,<-A4.i 7,<-A4.h 7]at d4;rw[<-b5,<-A5.i 9,<-A5.h 9]at d5;rw[<-b6]at d6;rw[<-A1.i 1,<-A1.i 2]at c1;rw[<-A2.i 3,<-A2.i 4]at c2;rw[<-A3.i 5,<-A3.i 6]at c3;rw[<-A4.i 7,<-A4.i 8]at c4;rw[<-A5.i 9,<-A5.i 10]at c5;have p0:0<=q6.i 0:=by rw[A1.i 0,g1.i 0];exact p0
 intro hdis;generalize hm:([bD.bd 0 (al 1 (List.replicate 6 Ck.ptr)++[.sl (.lit (-1)) (.lit 0) (.lit 0) (.lit 0),.sl (.lit (-1)) (.lit 0) (.lit 0) (.lit 0),.sl (.lit (-1)) (.lit 0) (.lit 0) (.lit 0),.sl (.lit (-1)) (.lit 0) (.lit 0) (.lit 0),.sl (.lit (-1)) (.lit 0) (.lit 0) (.lit 0),.sl (.lit (-1)) (.lit 0) (.lit 0) (.lit 0),.int .i64 (.lit 0)]) 182,.hp 1 [] [.var 1] [],.hp 3 [] [.var 3] [],.hp 5 [] [.var 5] [],.hp 7 [] [.var 7] [],.hp 9 [] [.var 9] [],.hp 11 [] [.var 11] []]:Mem)=mem at *;have hown:∀ r∈mem,r.own=true:=by rw[<-hm];intro r hr;simp at hr;rcases hr with rfl | rfl | rfl | rfl | rfl | rfl | rfl<;>rfl
 have hl:mem.map (bD.hl q6)=[Hl.one (q6.i 0).toNat (.cells (D4 (fun i=>([q6.i 1,q6.i 3,q6.i 5,q6.i 7,q6.i 9,q6.i 11].getD i 0).toNat) (fun _=>.slice none 0 0) 0).toArray 182 (0,0)),q6.h 1,q6.h 3,q6.h 5,q6.h 7,q6.h 9,q6.h 11]:=by
  rw[<-hm];have:Hl.one (q6.i 0).toNat (.cells #[.pointer (az (q6.i 1) (q6.i 2)),.pointer (az (q6.i 3) (q6.i 4)),.pointer (az (q6.i 5) (q6.i 6)),.pointer (az (q6.i 7) (q6.i 8)),.pointer (az (q6.i 9) (q6.i 10)),.pointer (az (q6.i 11) (q6.i 12)),.slice none 0 0,.slice none 0 0,.slice none 0 0,.slice none 0 0,.slice none 0 0,.slice none 0 0,.int .i64 0] 182 (0,0))=Hl.one (q6.i 0).toNat (.cells (D4 (fun i=>([q6.i 1,q6.i 3,q6.i 5,q6.i 7,q6.i 9,q6.i 11].getD i 0).toNat) (fun _=>.slice none 0 0) 0).toArray 182 (0,0)):=by
   rw[c1,c2,c3,c4,c5,c6];rfl
  rw[<-this];rfl
 have hdl:∀ (p q:Nat) A B,p≠q->(mem.map (bD.hl q6))[p]?=some A->(mem.map (bD.hl q6))[q]?=some B->A.bP B:=by
  intro p q A B hpq ha hb;rw[aao]at ha hb;obtain⟨r,hr,rfl⟩:=aam.1 ha;obtain⟨s,hs,rfl⟩:=aam.1 hb;exact hdis p q r s hpq hr hs (hown r (aae hr))
 rw[hl]at hdl;have hK:∀ i,i<6->([Hl.one (q6.i 0).toNat (.cells (D4 (fun i=>([q6.i 1,q6.i 3,q6.i 5,q6.i 7,q6.i 9,q6.i 11].getD i 0).toNat) (fun _=>.slice none 0 0) 0).toArray 182 (0,0)),q6.h 1,q6.h 3,q6.h 5,q6.h 7,q6.h 9,q6.h 11])[i+1]?=some ([q6.h 1,q6.h 3,q6.h 5,q6.h 7,q6.h 9,q6.h 11].getD i Hl.none):=fun i hi=>by
  have:i=0\/i=1\/i=2\/i=3\/i=4\/i=5:=ah;rcases this with rfl | rfl | rfl | rfl | rfl | rfl<;>rfl
 have hF:xg q6 mem [0,1,2,3,4,5,6]=cP (mem.map (bD.hl q6)):=by rw[<-hm];rfl
 refine⟨[],[0,1,2,3,4,5,6],rfl,by rw[<-hm];rfl,⟨(aY fun k=>if k=0 then q6.i 0 else 0),rfl,⟨by show -1<=q6.i 0;omega,aap 0⟩,zzT⟩,(q6.i 0).toNat,?_,?_⟩
 .show Value.pointer (az (q6.i 0) 0)=_;rw[au p0];rfl
 rw[hF,hl];refine⟨_,_,fun i=>[q6.h 1,q6.h 3,q6.h 5,q6.h 7,q6.h 9,q6.h 11].getD i Hl.none,Hl.none,Hl.bh _ _ _ _ (Hl.aT _ _),fun i hi=>?_,fun i hi=>lu hdl (hK i hi),fun i j hi hj hij=>hdl (i+1) (j+1) _ _ ah (hK i hi) (hK j hj),fun i hi=>Hl.gl.1 (hdl 0 (i+1) _ _ ah rfl (hK i hi)),fun i hi=>⟨[],⟨rfl,Or.inl ⟨rfl,rfl⟩⟩,fun j u p h=>by simp at h⟩,(fun _ _ h=>by cases h),(fun h=>by cases h),(fun i hi b ⟨h,_⟩=>by cases h),(fun i b _ h=>by cases h)⟩;have:i=0\/i=1\/i=2\/i=3\/i=4\/i=5:=ah;rcases this with rfl | rfl | rfl | rfl | rfl | rfl
 .exact d1
 .exact d2
 .exact d3
 .exact d4
 .exact d5
 .exact d6
def kOw (h:bg row pt):row=row.take 125++[row.getD 125 BA]:=by
 have hl:=fE h;rw[kE]at hl;apply aaL;intro k;rcases aa9 k 125 with hk | hk
 .rw[aaH (by rw[aaA];omega),aaX,aav hk]
 .rw[aau (by rw[aaA];omega),aaA,hl];rcases aa9 k 126 with bT | bT
  .have:k=125:=ah;subst this;show _=some (row.getD 125 BA);rw[aak,aab ah];rfl
  .rw[aaq ah,aaq (by simp;omega)]
def De {a:Int} (hs:List (Nat×Hl)) (h:bg row pt):∃ q:Env,q.i 0=a/\row=(al 1 gR).map (CV.ev q)/\(∀ k,q.h k=AU hs k)/\bw 1 gR q:=by
 obtain⟨q,g,hn,e⟩:=cH gR 1 row (aY fun _=>a) h;exact⟨⟨q.i,q.b,q.s,q.v,AU hs⟩,g.i 0,by rw[<-Qp (AU hs)];exact e.symm,fun _=>rfl,QV _ _ _ hn⟩
set_option maxRecDepth 20000 in
def OI (n:Nat):al n gR=al n bT++[.sl (.var (n+128)) (.var (n+128+1)) (.var (n+128+2)) (.var (n+128+3))]:=by
 have:∀ (a b:List Ck) (n:Nat),al n (a++b)=al n a++al (n+aW a) b:=by
  intro a
  induction a with
  | nil=>intro b n;simp [al,aW]
  | cons k a ih=>intro b n;rw[abZ,al,al,ih,abZ];simp [aW,abM]
 rw[gR,this];rfl
set_option maxRecDepth 20000 in
def oH (q:Env) (n:Nat):((al n gR).map (CV.ev q)).take 125=(al n bT).map (CV.ev q):=by
 rw[OI,aaM];exact aco (by rw[aaz];rfl)
set_option maxRecDepth 20000 in
def ue (q:Env) (n:Nat):((al n gR).map (CV.ev q)).getD 125 BA=.slice (az (q.i (n+128)) (q.i (n+128+1))) (q.i (n+128+2)).toNat (q.i (n+128+3)).toNat:=by
 have hl:((al n bT).map (CV.ev q)).length=125:=by rw[aaz];rfl
 rw[OI,aaM,aak,aau ah,hl];rfl
def AJ (hx:bM R row h) (bs:List Int):fq row bs=fq h.c bs:=by
 unfold fq;rw[hx.I (k:=92) aA];have:aV h.c 60 32=aV row 60 32:=by
  unfold aV;refine aa2 fun j hj=>hx.I ?_;have:=aaO.1 hj;omega
 rw[this]
open Classical in
noncomputable def bo (st:Nat->List Pc) (p:Pc):Int :=
 if ¬p.h.Form then 1
 else if gG (cI p.h.c 0) (lS st (cI p.h.c 0-1).toNat) p.h≠0 then gG (cI p.h.c 0) (lS st (cI p.h.c 0-1).toNat) p.h
 else if fq p.h.c p.b=false then 2 else if 400<=dY st then 4 else 0
def SN.ZR {st:Nat->List Pc} {a a':Nat->Nat} {sv sv':Nat->Value} (h:SN R x st a sv) (h':SN R x st' a' sv') (hi:i<6):st i=st' i:=by
 obtain⟨e1,e2,_⟩:=h.cells hi;obtain⟨f1,f2,_⟩:=h'.cells hi;rw[e1]at f1;rw[e2]at f2;simp only[aai,Value.pointer.injEq,Addr.mk.injEq,aat]at f1 f2;have c1:=h.ch i hi;have c2:=h'.ch i hi;rw[f1]at c1;have eh:=(c1.uniq c2).2;obtain⟨us,o1,b1⟩:=h.row i hi;obtain⟨vs,o2,b2⟩:=h'.row i hi;rw[f2]at o1;obtain⟨el,eu⟩:=o1.inj o2;subst eu;apply abS el;intro j h1 h2;have hul:j<us.length:=by have:=o1.1;omega
 have hu:us[j]?=some us[j]:=aab hul;have p1:=b1 j _ _ hu (aab h1);have p2:=b2 j _ _ hu (aab h2);have eb:=p1.uniq p2;have ehh:(st i)[j].h=(st' i)[j].h:=by
  have:=aaD (fun l=>l[j]?) eh;simpa [lS,aao,h1,h2] using this
 generalize (st i)[j]=x at *;generalize (st' i)[j]=y at *;cases x;cases y;simp only at eb ehh;rw[eb,ehh]
def px.st {st:Nat->List Pc} (h:px R x st) (h':px R x st') (hi:i<6):st i=st' i:=by
 obtain⟨a,sv,h⟩:=h;obtain⟨a',sv',h'⟩:=h';exact h.ZR h' hi
def GV {st:Nat->List Pc} (h:∀ i,i<6->st i=st' i):dY st=dY st':=by
 unfold dY;rw[h 0 ah,h 1 ah,h 2 ah,h 3 ah,h 4 ah,h 5 ah]
def yT (hF:h.Form):1<=cI h.c 0/\cI h.c 0<=6:=hF.1.1
def nF {st:Nat->List Pc} (h:∀ i,i<6->st i=st' i) (p:Pc):bo st p=bo st' p:=by
 unfold bo;rw[GV h];by_cases hF:p.h.Form
 .have:=yT hF;unfold lS;rw[h (cI p.h.c 0-1).toNat ah]
 .rw[aav hF,aav hF]
def qH:Sx.Spec where
 fn:=70
 own:=[]
 rd:=[0]
 res:=[.one (.int .i64)]
 pre:=fun xs Hs Rs=>∃ x R st,xs=[.pointer (some ⟨x,0,none⟩)]/\Rs=[R]/\px R x st
 post:=fun xs Hs Rs v Hs' F=>∀ x R st,xs=[.pointer (some ⟨x,0,none⟩)]->Rs=[R]->px R x st->v=.int .i64 (dY st)
def Jz:aG Tryz.prog [] qH.fn where
 Λ:=aD
 args:=[TP (.var 0) (.lit 0)]
 mem:=[.ro 1 [.var 0] true]
 nv:=2
def za:qH.OK Tryz.prog:=by
 refine Spec.aS (Γ:=[]) (fun _ h=>by cases h) ?_;rintro xs Hs Rs hl1 hl2 ⟨x,R,st,rfl,rfl,hI⟩;have e0:Hs=[]:=aad.1 hl1;subst e0;refine⟨Jz,aO [x] false [Hl.none,R],fun _ _=>True,fun _ _=>0,?_,cO (by intro r hr;simp [Jz]at hr;subst hr;exact⟨_,_,_,rfl⟩) rfl,(fun _ h=>nomatch h),?_⟩
 .show [Value.pointer (az (x:Int) 0)]=_;rw[au ah];rfl
 .refine aG.read [] [] [] ?_;generalize hρ:aO [(x:Int)] false [Hl.none,R]=J;have v0:J.i 0=x:=by rw[<-hρ];rfl
  have w1:J.h 1=R:=by rw[<-hρ];rfl
  simp only[go_sem,Nat.reduceAdd];rw[v0,w1];obtain⟨a,sv,hR⟩:=id hI;obtain⟨_,_,e12⟩:=hR.cells (i:=0) ah;have e12:R.cell ((x:Int)).toNat (Int.toNat 12)=some (.int .i64 (dY st)):=by rw[aaa];exact e12
  rw[e12];refine⟨ah,rfl,nD rfl (z:=dY st) ?_ fun F x' R' st' h1 h2 h'=>?_⟩
  .show bS ((J.h 1).cell (J.i 0).toNat (Int.toNat 12+0))=_;rw[v0,w1,aaW,e12];rfl
  .simp only[aag,aat,Value.pointer.injEq,aai,Addr.mk.injEq]at h1 h2;subst h1 h2;rw[GV fun i hi=>hI.st h' hi]
def Hn (st:Nat->List Pc):List Value:=[.int .u64 (st 0).length,.int .u64 (st 1).length,.int .u64 (st 2).length,.int .u64 (st 3).length,.int .u64 (st 4).length,.int .u64 (st 5).length]
def ma (st:Nat->List Pc):Prop:=∀ i,i<6->(st i).length<1000000
def xG:Sx.Spec where
 fn:=69
 own:=[]
 rd:=[0]
 res:=[.agg (List.replicate 6 (Ck.int .u64))]
 pre:=fun xs Hs Rs=>∃ x R st,xs=[.pointer (some ⟨x,0,none⟩)]/\Rs=[R]/\px R x st/\ma st
 post:=fun xs Hs Rs v Hs' F=>∀ x R st,xs=[.pointer (some ⟨x,0,none⟩)]->Rs=[R]->px R x st->ma st->v=.agg (Hn st).toArray
def Xv:List Sx.Spec:=[wg]
def JB:aG Tryz.prog Xv xG.fn where
 Λ:=aD
 args:=[TP (.var 0) (.lit 0)]
 mem:=[.ro 1 [.var 0] true]
 nv:=2
def Hq:xG.OK Tryz.prog:=by
 refine Spec.aS (Γ:=Xv) (fun t ht=>by rw[Xv,aal]at ht;subst ht;exact yX) ?_;rintro xs Hs Rs hl1 hl2 ⟨x,R,st,rfl,rfl,hI,hS⟩;have e0:Hs=[]:=aad.1 hl1;subst e0;refine⟨JB,aO [x] false [Hl.none,R],fun _ _=>True,fun _ _=>0,?_,cO (by intro r hr;simp [JB]at hr;subst hr;exact⟨_,_,_,rfl⟩) rfl,(fun _ h=>nomatch h),?_⟩
 .show [Value.pointer (az (x:Int) 0)]=_;rw[au ah];rfl
 .refine aG.read [] [] [] ?_;generalize hρ:aO [(x:Int)] false [Hl.none,R]=J;have v0:J.i 0=x:=by rw[<-hρ];rfl
  have w1:J.h 1=R:=by rw[<-hρ];rfl
  clear hρ;obtain⟨a,sv,hR⟩:=id hI;have hc:∀ q:Env,ai 2 J q->∀ i,i<6->(q.h 1).cell (q.i 0).toNat (Int.toNat 0+i)=some (.pointer (some ⟨a i,0,none⟩))/\q.h 1=R:=fun q g i hi=>by
   rw[g.i 0,g.h 1,v0,w1,aaa];refine⟨?_,rfl⟩;have:=(hR.cells hi).1;rw[show Int.toNat 0+i=i from aaI i];exact this
  simp only[go_sem,Nat.reduceAdd,Xv,Tb];have hp:∀ q:Env,ai 2 J q->∀ i,i<6->Value.pointer (az (bm ((q.h 1).cell (q.i 0).toNat (Int.toNat 0+i)) 0) (bm ((q.h 1).cell (q.i 0).toNat (Int.toNat 0+i)) 1))=.pointer (some ⟨a i,0,none⟩)/\q.h 1=R/\bp ((q.h 1).cell (q.i 0).toNat (Int.toNat 0+i)) .ptr=true:=fun q g i hi=>by
   obtain⟨e1,e2⟩:=hc q g i hi;rw[e1];exact⟨iQ,e2,rfl⟩
  have hl:∀ i,i<6->(lS st i).length<1000000:=fun i hi=>by unfold lS;rw[aaz];exact hS i hi
  intro q0 g0 _ q1 g1 _;have G1:ai 2 J q1:=g0.tr g1;obtain⟨f1,f2,f3⟩:=hp q1 G1 0 ah;refine⟨by rw[G1.i 0,v0];omega,f3,(hp q1 G1 1 ah).2.2,(hp q1 G1 2 ah).2.2,(hp q1 G1 3 ah).2.2,(hp q1 G1 4 ah).2.2,(hp q1 G1 5 ah).2.2,?_⟩;have f1:Value.pointer (az (bm ((q1.h 1).cell (q1.i 0).toNat (Int.toNat 0)) 0) (bm ((q1.h 1).cell (q1.i 0).toNat (Int.toNat 0)) 1))=.pointer (some ⟨a 0,0,none⟩):=f1;rw[f1,f2];refine⟨⟨_,R,_,_,rfl,rfl,hR.ch 0 ah⟩,fun q2 g2 ⟨F2,h2,_⟩=>?_⟩;have h2:=jM (hR.ch 0 ah) (hl 0 ah) h2;have G2:ai 2 J q2:=G1.tr g2;rw[(hp q2 G2 1 ah).1,(hp q2 G2 1 ah).2.1];refine⟨⟨_,R,_,_,rfl,rfl,hR.ch 1 ah⟩,fun q3 g3 ⟨F3,h3,_⟩=>?_⟩;have h3:=jM (hR.ch 1 ah) (hl 1 ah) h3;have G3:ai 2 J q3:=G2.tr g3;rw[(hp q3 G3 2 ah).1,(hp q3 G3 2 ah).2.1];refine⟨⟨_,R,_,_,rfl,rfl,hR.ch 2 ah⟩,fun q4 g4 ⟨F4,h4,_⟩=>?_⟩;have h4:=jM (hR.ch 2 ah) (hl 2 ah) h4;have G4:ai 2 J q4:=G3.tr g4;rw[(hp q4 G4 3 ah).1,(hp q4 G4 3 ah).2.1];refine⟨⟨_,R,_,_,rfl,rfl,hR.ch 3 ah⟩,fun q5 g5 ⟨F5,h5,_⟩=>?_⟩;have h5:=jM (hR.ch 3 ah) (hl 3 ah) h5;have G5:ai 2 J q5:=G4.tr g5;rw[(hp q5 G5 4 ah).1,(hp q5 G5 4 ah).2.1];refine⟨⟨_,R,_,_,rfl,rfl,hR.ch 4 ah⟩,fun q6 g6 ⟨F6,h6,_⟩=>?_⟩;have h6:=jM (hR.ch 4 ah) (hl 4 ah) h6;have G6:ai 2 J q6:=G5.tr g6;rw[(hp q6 G6 5 ah).1,(hp q6 G6 5 ah).2.1];refine⟨⟨_,R,_,_,rfl,rfl,hR.ch 5 ah⟩,fun q7 g7 ⟨F7,h7,_⟩=>?_⟩;have h7:=jM (hR.ch 5 ah) (hl 5 ah) h7;intro _;refine⟨[],[],rfl,rfl,⟨(aY fun k=>q7.i (k+4)),rfl,⟨zzT,zzT,zzT,zzT,zzT,zzT,zzT⟩,zzT⟩,fun x' R' st' e1 e2 h' hS'=>?_⟩;simp only[aag,aat,Value.pointer.injEq,aai,Addr.mk.injEq]at e1 e2;subst e1 e2;have es:∀ i,i<6->((lS st i).length:Int)=(st' i).length:=fun i hi=>by unfold lS;rw[aaz,hI.st h' hi]
  show Value.agg #[.int .u64 (q7.i 4),.int .u64 (q7.i 5),.int .u64 (q7.i 6),.int .u64 (q7.i 7),.int .u64 (q7.i 8),.int .u64 (q7.i 9)]=_;have B6:ai 9 q6 q7:=g7;have B5:ai 8 q5 q7:=g6.tr B6;have B4:ai 7 q4 q7:=g5.tr B5;have B3:ai 6 q3 q7:=g4.tr B4;have B2:ai 5 q2 q7:=g3.tr B3;rw[B2.i 4,B3.i 5,B4.i 6,B5.i 7,B6.i 8];have h2:q2.i 4=_:=h2;have h3:q3.i 5=_:=h3;have h4:q4.i 6=_:=h4;have h5:q5.i 7=_:=h5;have h6:q6.i 8=_:=h6;have h7:q7.i 9=_:=h7;rw[h2,h3,h4,h5,h6,h7,es 0 ah,es 1 ah,es 2 ah,es 3 ah,es 4 ah,es 5 ah];rfl
noncomputable def yZ:Sx.Spec where
 fn:=105
 own:=[]
 rd:=[0,1001053,1001125,2000005]
 res:=[.one (.int .i64)]
 pre:=fun xs Hs Rs=>∃ x R st row T B RG p,xs=[.pointer (some ⟨x,0,none⟩),.agg row.toArray]/\Rs=[R,T,B,RG]/\px R x st/\ma st/\fP T B row p/\p.b.length<=900000/\uJ RG 5
 post:=fun xs Hs Rs v Hs' F=>∀ x R st row T B RG p,xs=[.pointer (some ⟨x,0,none⟩),.agg row.toArray]->Rs=[R,T,B,RG]->px R x st->fP T B row p->v=.int .i64 (bo st p)
noncomputable def Xw:List Sx.Spec:=[gM 117,yl,DV]
def TL:∀ t∈Xw,t.OK Tryz.prog:=av nh <| av Ej <| av MF <| bQ
def YC:yl.res=[.one (.int .i64)]:=rfl
def YD:DV.res=[.one .bool]:=rfl
noncomputable def Sg:aG Tryz.prog Xw yZ.fn where
 Λ:=aD
 args:=TP (.var 0) (.lit 0)::(bV 1 [.agg yD]).map .sv
 mem:=[.ro 133 [.var 0] true,.ro 134 [.var 54] false,.ro 135 [.var 129] false,.ro 136 [.lit 5] false]
 nv:=137
open Classical in
set_option maxRecDepth 20000 in
def ET:yZ.OK Tryz.prog:=by
 refine Spec.aS (Γ:=Xw) TL ?_;rintro xs Hs Rs hl1 hl2 ⟨x,R,st,row,T,B,RG,p,rfl,rfl,hI,hS,hx,hlen,hKat⟩;have e0:Hs=[]:=aad.1 hl1;subst e0;obtain⟨J,va,rfl,hh,hnw⟩:=De (a:=(x:Int)) [(133,R),(134,T),(135,B),(136,RG)] hx.ok;have w1:J.h 133=R:=hh 133;have w2:J.h 134=T:=hh 134;have w3:J.h 135=B:=hh 135;have w4:J.h 136=RG:=hh 136;refine⟨Sg,J,fun _ _=>True,fun _ _=>0,?_,cO (by intro r hr;simp [Sg]at hr;rcases hr with rfl | rfl | rfl | rfl<;>exact⟨_,_,_,rfl⟩) (by show [J.h 133,J.h 134,J.h 135,J.h 136]=_;rw[w1,w2,w3,w4]),(fun _ h=>nomatch h),?_⟩
 .show [Value.pointer (az (J.i 0) 0),.agg ((al 1 gR).map (CV.ev J)).toArray]=_;rw[va,au ah];rfl
 refine aG.read [bT,yD] [] [] ?_;simp only[go_sem,Nat.reduceAdd,Xw,Ti,YC,YD];generalize hrow0:(al 1 gR).map (CV.ev J)=row at *;have ht0:(al 1 bT).map (CV.ev J)=row.take 125:=by rw[<-hrow0,oH]
 have V:∀ q:Env,ai 137 J q->q.i 0=x/\q.h 133=R/\q.h 134=T/\q.h 135=B/\q.h 136=RG/\(al 1 bT).map (CV.ev q)=row.take 125/\(al 1 yD).map (CV.ev q)=row/\q.i 1=J.i 1:=fun q g=>by
  refine⟨by rw[g.i 0,va],by rw[g.h 133,w1],by rw[g.h 134,w2],by rw[g.h 135,w3],by rw[g.h 136,w4],?_,?_,g.i 1⟩
  .rw[<-ht0];exact aaD Array.toList (Value.agg.inj (fH (ks:=bT) (n:=1) g aA))
  .rw[<-hrow0];exact aaD Array.toList (Value.agg.inj (fH (ks:=gR) (n:=1) g aA))
 obtain⟨a,sv,hR⟩:=id hI;have hbody:row=row.take 125++[row.getD 125 BA]:=kOw hx.ok;have hd:=hx.hd;have hw1:cI p.h.c 0=J.i 1:=by
  have e1:cI p.h.c 0=cI (row.take 125) 0:=hd.I aA;rw[e1,<-ht0];rfl
 have out:∀ {q:Env} {mem:Mem} {e:E},aB q e=bo st p->postOf yZ [.pointer (some ⟨x,0,none⟩),.agg row.toArray] [] [R,T,B,RG] q mem (.sv (.one (.int .i64 e))):=fun {q mem e} he =>
  nD rfl he fun F x' R' st' row' T' B' RG' p' e1 e2 h' hx'=>by
   simp only[aag,aat,Value.pointer.injEq,aai,Addr.mk.injEq,Value.agg.injEq]at e1 e2;obtain⟨rfl,e1⟩:=e1;obtain⟨rfl,rfl,rfl,rfl⟩:=e2;have e1:=aaG e1;subst e1;obtain rfl:=hx.uniq hx';rw[nF (fun i hi=>hI.st h' hi) p]
 intro q1 g1 p1;obtain⟨v0,x1,x2,x3,x4,xr,xr2,_⟩:=V q1 g1;rw[xr,x2];refine⟨⟨_,T,p.h,rfl,rfl,hd⟩,fun q2 g2 ⟨F2,hp2,_⟩=>?_⟩;have G2:ai 137 J q2:=g1.tr g2;have hb2:q2.b 138=decide p.h.Form:=Value.bool.inj (lh hd hp2);obtain⟨y0,y1,y2,y3,y4,yr,yr2,y5⟩:=V q2 G2;refine⟨fun hb=>out ?_,fun hb=>?_⟩
 .have hF:¬p.h.Form:=by rw[hb2]at hb;simpa using hb
  unfold bo;rw[aav hF];rfl
 have hF:p.h.Form:=by rw[hb2]at hb;simpa using hb
 have hFn:¬¬p.h.Form:=fun g=>g hF;have hw:=yT hF;have hw2:IntKind.i64.wrap (J.i 1-1)=((cI p.h.c 0-1).toNat:Nat):=by rw[hw1,IntKind.wrap_i64];rw[hw1]at hw;omega
 generalize hi:(cI p.h.c 0-1).toNat=i at *;have hi6:i<6:=ah;have hwi:cI p.h.c 0=((i+1:Nat):Int):=ah;obtain⟨c1,c2,c3⟩:=hR.cells hi6;have c1':R.cell ((x:Int)).toNat (Int.toNat ((i:Nat):Int))=some (.pointer (some ⟨a i,0,none⟩)):=by rw[aaa,aaa];exact c1
 have c3':R.cell ((x:Int)).toNat (Int.toNat 12)=some (.int .i64 (dY st)):=by rw[aaa];exact c3
 have hlen2:(lS st i).length<1000000:=by unfold lS;rw[aaz];exact hS i hi6
 rw[y0,y1,y2,y5,yr,hw2,c1',iQ];refine⟨ah,ah,ah,rfl,⟨a i,R,_,_,_,T,p.h,rfl,rfl,hR.ch i hi6,hlen2,hd⟩,fun q3 g3 ⟨F3,⟨a',R',w',hs',row',T',h',f1,f2,d2,i2,hv⟩,_⟩=>?_⟩;simp only[aag,aat,Value.pointer.injEq,aai,Addr.mk.injEq,Value.agg.injEq]at f1 f2;obtain⟨rfl,f1⟩:=f1;obtain⟨rfl,rfl⟩:=f2;have f1:=aaG f1;subst f1;obtain⟨rfl,rfl⟩:=(hR.ch i hi6).uniq d2;obtain rfl:=hd.uniq i2;have hask:q3.i 139=gG (cI p.h.c 0) (lS st i) p.h:=by rw[hwi];simpa using hv
 have G3:ai 137 J q3:=G2.tr g3;obtain⟨z0,z1,z2,z3,z4,zr,zr2,z5⟩:=V q3 G3;refine⟨fun hne=>out ?_,fun heq=>?_⟩
 .unfold bo;rw[aan hFn,hi,aav (by rw[<-hask];exact hne)];exact hask
 have h0:¬gG (cI p.h.c 0) (lS st i) p.h≠0:=fun g=>g (hask.symm.trans heq);rw[zr2,z3,z4];have hrk:bg (row.take 125) ef:=hd.ok;refine⟨⟨row.take 125,row.getD 125 BA,p.b,B,RG,by rw[<-hbody],rfl,hrk,hx.body,hx.byte,hlen,hKat⟩,fun q4 g4 ⟨F4,hp4,_⟩=>?_⟩;have hp4:=hp4 (row.take 125) (row.getD 125 BA) p.b B RG (by rw[<-hbody]) rfl hx.body;have hb4:q4.b 140=fq p.h.c p.b:=by rw[<-AJ hd];exact Value.bool.inj hp4
 have G4:ai 137 J q4:=G3.tr g4;obtain⟨u0,u1,_⟩:=V q4 G4;refine⟨fun hb=>out ?_,fun hb=>?_⟩
 .unfold bo;rw[aan hFn,hi,aan h0,aav (by rw[<-hb4];simpa using hb)];rfl
 have hwb:¬fq p.h.c p.b=false:=by rw[<-hb4,hb];decide
 rw[u0,u1,c3'];refine⟨rfl,fun h4=>out ?_,fun h4=>out ?_⟩
 .have h4:400<=dY st:=h4;unfold bo;rw[aan hFn,hi,aan h0,aan hwb,aav h4];rfl
 .have h4:¬400<=dY st:=h4;unfold bo;rw[aan hFn,hi,aan h0,aan hwb,aan h4];rfl
open Classical in
noncomputable def cR (st:Nat->List Pc) (p:Pc):Nat->List Pc:=if bo st p=0 then vH st (cI p.h.c 0-1).toNat (st (cI p.h.c 0-1).toNat++[p])else st
noncomputable def Bn:Sx.Spec where
 fn:=98
 own:=[.arg 0]
 rd:=[1001053,1001125,2000005]
 res:=[.one (.int .i64)]
 pre:=fun xs Hs Rs=>∃ x H st row T B RG p,xs=[.pointer (some ⟨x,0,none⟩),.agg row.toArray]/\Hs=[H]/\Rs=[T,B,RG]/\pw H x st/\ma st/\fP T B row p/\p.b.length<=900000/\uJ RG 5
 post:=fun xs Hs Rs v Hs' F=>∃ x H st row T B RG p H',xs=[.pointer (some ⟨x,0,none⟩),.agg row.toArray]/\Hs=[H]/\Rs=[T,B,RG]/\pw H x st/\fP T B row p/\Hs'=[H']/\v=.int .i64 (bo st p)/\pw H' x (cR st p)
def NT:Nd:=(fun a g o m p k l=>(fun f c d h i=>(fun n=>(fun b j=>(.ext (.alloc 137) (.and (.pre d) (.ext d (.and (.imp (.not (.eq (.var 138) k)) (.post [.hp 133 [] o [],.ro 134 m false,.ro 135 l true,.ro 136 p false,.dead] (.sv (.one (.int .i64 (.var 138)))))) (.imp (.eq (.var 138) k) (.and (.e (.le k g)) (.and (.e (.le k a)) (.and (.e (.lt a (.lit 6))) (.and (.e (.his 133 g a 0 .ptr)) (.and (.pre c) (.ext c (.and (.imp (.not (.eq (.var 139) k)) (.post [.hp 139 [133] o [],.ro 134 m false,.ro 135 l true,.ro 136 p false,.dead] (.sv (.one (.int .i64 (.var 139)))))) (.imp (.eq (.var 139) k) (.and (.e (.his 139 g f 0 .slice)) (.and (.pre h) (.ext h (.ext (.alloc 145) (.and (.pre b) (.ext b (.and (.pre j) (.ext j (.and (.e (.his 148 g (.lit 12) 0 (.int .i64))) (.and (.pre i) (.ext i (.post [.hp 149 [148,146,139,133] [.var 146,.var 0] [],.ro 134 m false,.ro 135 l true,.ro 136 p false,.dead,.hp 141 [] [.var 141] [],.dead] (.sv (.one (.int .i64 k))))))))))))))))))))))))))):Nd)) (.app 146 46 1 24 (.sl (.hP 139 g f 0 0) (.hP 139 g f 0 1) n (.hP 139 g f 0 3)) n (.hp 139 [133] o []) (.cvs [.sl (.var 141) (.var 142) (.var 143) (.var 144)] 1)) (.put 148 146 g f [.sl (.var 146) k (.add n (.lit 1)) (.var 147)])) (.hP 139 g f 0 2)) (.add (.lit 6) a) (.call 1 139 [.sv (.one (.hptr (.hP 133 g a 0 0) (.hP 133 g a 0 1))),.sv (.agg (al 1 bT))] [.hp 133 [] o []] [.ro 134 m false,.ro 136 p false]) (.call 0 138 [.sv (.one (.hptr g k)),.sv (.agg (al 1 yD))] [] [.hp 133 [] o [],.ro 134 m false,.ro 135 l true,.ro 136 p false]) (.call 2 141 [.sv (.one (.sl (.var 129) (.var 130) (.var 131) (.var 132)))] [] [.ro 135 l true]) (.put 149 148 g (.lit 12) [.int .i64 (.wrap .i64 (.add (.hI 148 g (.lit 12) 0) (.lit 1)))])) (.wrap .i64 (.sub (.var 1) (.lit 1))) (.var 0) [.var 0] [.var 54] [.lit 5] (.lit 0) [.var 129]
noncomputable def Vb (K R:Hl):List Sx.Spec:=[yZ,CL Eg K R,gf]
def TN (K R:Hl):∀ t∈Vb K R,t.OK Tryz.prog:=av ET <| av (Lb rfl M7 K R) <| av kX <| bQ
def YF (K R:Hl):(Vb K R)[0]?=some yZ:=rfl
def YG (K R:Hl):(Vb K R)[1]?=some (CL Eg K R):=rfl
def YH (K R:Hl):(Vb K R)[2]?=some gf:=rfl
def V9:yZ.res=[.one (.int .i64)]:=rfl
def YI (K R:Hl):(CL Eg K R).res=[.one (.int .i64)]:=rfl
def Wa:gf.res=[.one .sl]:=rfl
def ot {st:Nat->List Pc} {p:Pc} (h:bo st p=0):p.h.Form/\gG (cI p.h.c 0) (lS st (cI p.h.c 0-1).toNat) p.h=0/\fq p.h.c p.b=true/\dY st<400:=by
 unfold bo at h;split at h
 .cases h
 .rename_i hF;split at h
  .rename_i hn;exact absurd h hn
  .rename_i ha;split at h
   .cases h
   .rename_i hw;split at h
    .cases h
    .rename_i hc;exact⟨acH.1 hF,acH.1 ha,by simpa using hw,ah⟩
noncomputable def E0 (K R:Hl):aG Tryz.prog (Vb K R) Bn.fn where
 Λ:=aD
 args:=TP (.var 0) (.lit 0)::(bV 1 [.agg yD]).map .sv
 mem:=[.hp 133 [] [.var 0] [],.ro 134 [.var 54] false,.ro 135 [.var 129] true,.ro 136 [.lit 5] false]
 nv:=137
set_option maxRecDepth 20000 in
def EZ:Bn.OK Tryz.prog:=by
 refine Spec.QZ fun xs Hs Rs ⟨x,H,st,row,T,B,RG,p,ex,eH,eR,hI,hS,hx,hlen,hKat⟩=>?_;obtain⟨a,sv,Kc,KB,hD⟩:=id hI;generalize hi:(cI p.h.c 0-1).toNat=i;refine Spec.aS (Γ:=Vb (Kc i) (H.minus (Kc i))) (TN _ _) ?_;rintro xs' Hs' Rs' hl1 hl2 ⟨e1,e2,e3⟩;subst e1 e2 e3 ex eH eR;obtain⟨J,va,rfl,hh,hnw⟩:=De (a:=(x:Int)) [(133,H),(134,T),(135,B),(136,RG)] hx.ok;have w1:J.h 133=H:=hh 133;have w2:J.h 134=T:=hh 134;have w3:J.h 135=B:=hh 135;have w4:J.h 136=RG:=hh 136;refine⟨E0 _ _,J,fun _ _=>True,fun _ _=>0,?_,⟨?_,?_,?_,?_⟩,(fun _ h=>nomatch h),?_⟩
 .show [Value.pointer (az (J.i 0) 0),.agg ((al 1 gR).map (CV.ev J)).toArray]=_;rw[va,au ah];rfl
 .intro r hr ho;simp [E0]at hr;rcases hr with rfl | rfl | rfl | rfl
  .exact⟨H,aF,by show(J.h 133).le H;rw[w1];exact Hl.le_refl _⟩
  all_goals cases ho
 .intro r hr ho;simp [E0]at hr;rcases hr with rfl | rfl | rfl | rfl
  .cases ho
  .exact⟨T,aF,by show(J.h 134).le T;rw[w2];exact Hl.le_refl _⟩
  .exact⟨B,aF,by show(J.h 135).le B;rw[w3];exact Hl.le_refl _⟩
  .exact⟨RG,aF,by show(J.h 136).le RG;rw[w4];exact Hl.le_refl _⟩
 .simp [E0,bD.own]
 .intro r hr;simp [E0]at hr;rcases hr with rfl | rfl | rfl | rfl<;>trivial
 refine aG.lit (x:=NT) ?_;unfold NT;simp only[Nd.holds,X.pre,X.rel,X.n,Src.ok,Src.len,Src.iB,aaY,aat,abL,ab8,aaW,Nat.reduceAdd,aaN,aa7,rH,rE,jB,jZ,iW,rG,mG,mf,oW,gn,mC,mH,rF,mE,mD,jC,mF,aq,ak,bJ,cQ,cj,bx,cG,dw,fk,fD,iy,fX,gZ,fJ,TV.ev,SV.ev,CV.ev,aaC,abn,bD.hl,j8,Cp.sv,Ck.cv,bV,Cp.len,Ck.len,gk,gV,jh,YF,YG,YH,V9,YI,Wa,Gw];generalize hrow0:(al 1 gR).map (CV.ev J)=row at *;have ht0:(al 1 bT).map (CV.ev J)=row.take 125:=by rw[<-hrow0,oH]
 have hb0:Value.slice (az (J.i 129) (J.i 130)) (J.i 131).toNat (J.i 132).toNat=row.getD 125 BA:=by rw[<-hrow0,ue]
 have V:∀ q:Env,ai 137 J q->q.i 0=x/\q.h 133=H/\q.h 134=T/\q.h 135=B/\q.h 136=RG/\(al 1 bT).map (CV.ev q)=row.take 125/\(al 1 yD).map (CV.ev q)=row/\q.i 1=J.i 1/\Value.slice (az (q.i 129) (q.i 130)) (q.i 131).toNat (q.i 132).toNat=row.getD 125 BA:=fun q g=>by
  refine⟨by rw[g.i 0,va],by rw[g.h 133,w1],by rw[g.h 134,w2],by rw[g.h 135,w3],by rw[g.h 136,w4],?_,?_,g.i 1,?_⟩
  .rw[<-ht0];exact aaD Array.toList (Value.agg.inj (fH (ks:=bT) (n:=1) g aA))
  .rw[<-hrow0];exact aaD Array.toList (Value.agg.inj (fH (ks:=gR) (n:=1) g aA))
  .rw[g.i 129,g.i 130,g.i 131,g.i 132];exact hb0
 have hd:=hx.hd;have hw1:cI p.h.c 0=J.i 1:=by
  have e1:cI p.h.c 0=cI (row.take 125) 0:=hd.I aA;rw[e1,<-ht0];rfl
 have ep:Value.pointer (az (x:Int) 0)=.pointer (some ⟨x,0,none⟩):=by rw[au ah];rfl
 intro q1 g1 p1;obtain⟨v0,x1,x2,x3,x4,xr,xr2,_,_⟩:=V q1 g1;rw[v0,ep,xr2,x1,x2,x3,x4];refine⟨⟨x,H,st,_,T,B,RG,p,rfl,rfl,hI.rd,hS,hx,hlen,hKat⟩,fun q2 g2 ⟨F2,hp2,_⟩=>?_⟩;have hask:q2.i 138=bo st p:=by simpa using hp2 _ _ _ _ _ _ _ _ rfl rfl hI.rd hx
 have G2:ai 137 J q2:=g1.tr g2;obtain⟨y0,y1,y2,y3,y4,yr,yr2,y5,_⟩:=V q2 G2;refine⟨fun hne _=>?_,fun heq=>?_⟩
 .refine⟨[[0]],[],rfl,rfl,⟨(aY fun _=>q2.i 138),rfl,zzT,zzT⟩,x,H,st,_,T,B,RG,p,_,rfl,rfl,rfl,hI,hx,rfl,by rw[<-hask];rfl,?_⟩;unfold cR;rw[aan (by rw[<-hask];exact hne)];show pw (cP [q2.h 133]) _ _;rw[aL,y1];exact hI
 obtain⟨hF,ha0,_,hcnt⟩:=ot (hask.symm.trans heq);have hw:=yT hF;rw[hi]at ha0;have hw2:IntKind.i64.wrap (J.i 1-1)=((i:Nat):Int):=by rw[IntKind.wrap_i64];rw[hw1]at hw hi;omega
 have hi6:i<6:=ah;have hwi:cI p.h.c 0=((i+1:Nat):Int):=ah;rw[hwi]at ha0;have hxK:=hD.nox i hi6;obtain⟨c1,c2,c3⟩:=(show SN H x st a sv from ⟨hD.bd,fun j hj=>⟨Kc j,hD.le j hj,hD.ch j hj⟩,fun j hj=>by
  obtain⟨us,h1,h2⟩:=hD.row j hj;exact⟨us,h1,fun k u q hu hq=>jR (h2 k u q hu hq) hD.kb⟩⟩).cells hi6
 have c1':H.cell ((x:Int)).toNat (Int.toNat ((i:Nat):Int))=some (.pointer (some ⟨a i,0,none⟩)):=by rw[aaa,aaa];exact c1
 have hlen2:(lS st i).length<1000000:=by unfold lS;rw[aaz];exact hS i hi6
 rw[y0,y1,y2,y4,y5,yr,hw2,c1',iQ];refine⟨ah,ah,ah,rfl,⟨by rw[Hl.Oh (hD.le i hi6)],Hl.LD _ _,a i,Kc i,_,_,_,T,RG,p.h,rfl,rfl,rfl,hD.ch i hi6,hlen2,hd,hKat⟩,fun q3 g3 ⟨F3,⟨K',k1,k2,k3,a',K2,w',hs',row',T',RG',h',K'',f1,f2,f3,d2,i2,f4,hv,hok,hno⟩,_⟩=>?_⟩;simp only[aag,aat,Value.pointer.injEq,aai,Addr.mk.injEq,Value.agg.injEq]at f1 f2 f3 f4 k1;obtain⟨rfl,f1⟩:=f1;obtain⟨rfl,rfl⟩:=f3;have f1:=aaG f1;subst f1 f2 f4;obtain⟨rfl,rfl⟩:=cM.uniq ⟨Kc i,Hl.le_refl _,hD.ch i hi6⟩ ⟨_,Hl.le_refl _,d2⟩;obtain rfl:=hd.uniq i2;have hask3:q3.i 139=0:=by rw[<-ha0];simpa using hv
 have hch:=hok ha0;have G3:ai 137 J q3:=G2.tr g3;obtain⟨z0,z1,z2,z3,z4,zr,zr2,z5,zb⟩:=V q3 G3;refine⟨fun hne=>absurd hask3 hne,fun _=>?_⟩;have lR:(H.minus (Kc i)).le (q3.h 139):=by rw[k1];exact Hl.bC k2
 have xR:(H.minus (Kc i)) x=some (.cells (D4 a sv (dY st)).toArray 182 (0,0)):=by
  unfold Hl.minus;have hxK:¬((Kc i) x).isSome=true:=hxK;rw[aan hxK];exact hD.bd
 have c2q:∀ q:Env,q.i 0=x->q.i 1=J.i 1->q.h 139=q3.h 139->(q.h 139).cell (q.i 0).toNat (6+IntKind.i64.wrap (q.i 1-1)).toNat=some (sv i):=fun q h1 h2 h3=>by
  rw[h1,h2,h3,hw2,aaa,show(6+((i:Nat):Int)).toNat=6+i by omega];have:=(JE a sv (dY st) hi6).2;unfold Hl.cell;rw[lR _ _ xR];simpa using this
 obtain⟨us,ho,hus⟩:=hD.row i hi6;have hsl:∃ p l c,sv i=Value.slice p l c:=by
  rcases ho.2 with ⟨h,_⟩ | ⟨_,_,_,h,_⟩<;>exact⟨_,_,_,h⟩
 have hsl2:bm (some (sv i)) 2=(st i).length:=by
  rcases ho.2 with ⟨h,hn⟩ | ⟨_,_,_,h,_⟩
  .rw[h,hn];rfl
  .rw[h];rfl
 have hsv:bp (some (sv i)) .slice=true:=by obtain⟨_,_,_,e⟩:=hsl;rw[e];rfl
 rw[c2q q3 z0 z5 rfl,zb,z3];refine⟨hsv,⟨_,p.b,B,rfl,rfl,hx.body,ah⟩,fun q4 g4 ⟨F4,⟨u',bs',R',m1,m2,m3,m4⟩,hF4,hn4⟩ q5 g5 p5=>?_⟩;simp only[aag,aat]at m1 m2;subst m1 m2;obtain rfl:=hx.body.uniq m3;rw[<-hF4 zzT]at m4;have G5:ai 139 q3 q5:=g4.mono.tr g5;have G5':ai 137 J q5:=G3.tr G5;obtain⟨s0,s1,s2,s3,s4,sr,sr2,s5,sb⟩:=V q5 G5';have h139:q5.h 139=q3.h 139:=by rw[g5.h 139,g4.h 139]
 rw[c2q q5 s0 s5 h139,iq hsl,hsl2,h139,k1,aaa];have hoM:aN (K'.un (H.minus (Kc i))) 46 1 (sv i) (st i).length us:=ho.at fun b hb=>by
  obtain⟨c,hc⟩:=ho.type hb;have hnk:=((hD.own i b hi6 hb).2 i hi6).1;have:(H.minus (Kc i)) b=H b:=by
   unfold Hl.minus;have hnk:¬((Kc i) b).isSome=true:=hnk;rw[aan hnk]
  rw[Hl.bC k2 b _ (this.trans hc),hc]
 have hst:=hS i hi6;refine⟨⟨⟨us,hoM⟩,ah,by unfold maxLen;omega,ah⟩,fun q6 g6 ⟨a1,a2,happ,hkp,_,hnw⟩=>?_⟩;have G6:ai 139 q3 q6:=G5.tr g6;obtain⟨t0,t1,t2,t3,t4,tr,tr2,t5,tb⟩:=V q6 (G3.tr G6);have h139b:q6.h 139=q3.h 139:=by rw[g6.h 139,h139]
 have ex6:(q6.h 146) x=some (.cells (D4 a sv (dY st)).toArray 182 (0,0)):=by
  have e1:=Hl.bC k2 x _ xR;rw[hkp x (Hl.mem_of e1) fun e=>?_,e1];obtain⟨c,hc⟩:=ho.type e.symm;rw[hD.bd]at hc;simp at hc
 have en:(((st i).length:Int)+1).toNat=(st i).length+1:=ah;have e6i:(6+((i:Nat):Int)).toNat=6+i:=ah;rw[c2q q6 t0 t5 h139b,hsl2,en,t0,t5,hw2,e6i,aaa];refine⟨⟨ah,ah,jm ex6 (by show 6+i+1<=13;omega)⟩,fun q7 g7 p7=>?_⟩;have G7:ai 139 q3 q7:=G6.tr g7;obtain⟨r0,_⟩:=V q7 (G3.tr G7);have ex7:(q7.h 148) x=some (.cells (D4 a (vH sv i (.slice (az (q6.i 146) 0) ((st i).length+1) (q6.i 147).toNat)) (dY st)).toArray 182 (0,0)):=by
  rw[p7,Hl.qf ex6];simp only[acy];rw[NX _ _ _ _ hi6]
 have c12:(q7.h 148).cell ((x:Int)).toNat (Int.toNat 12)=some (.int .i64 (dY st)):=by
  rw[aaa];unfold Hl.cell;rw[ex7];rfl
 rw[r0,c12];have hc0:0<=dY st:=ab1 _;have hwc:IntKind.i64.wrap (bS (some (Value.int .i64 (dY st)))+1)=dY st+1:=by
  show IntKind.i64.wrap (dY st+1)=_;rw[IntKind.wrap_i64];omega
 rw[hwc,aaa];refine⟨rfl,⟨ah,ah,jm ex7 (by show 12+1<=13;omega)⟩,fun q8 g8 p8=>?_⟩;intro hdis;have hGB:(q8.h 149).bP (q8.h 141):=hdis 0 5 _ _ aA rfl rfl rfl;have h141:q8.h 141=q4.h 141:=by rw[g8.h 141,g7.h 141,g6.h 141,g5.h 141]
 have e8:q8.h 149=((q6.h 146).put x (6+i) [.slice (az (q6.i 146) 0) ((st i).length+1) (q6.i 147).toNat]).put x 12 [.int .i64 (dY st+1)]:=by rw[p8,p7];rfl
 rw[e8,h141]at hGB;have m4':fu (q4.h 141) (.slice (az (q5.i 141) (q5.i 142)) (q5.i 143).toNat (q5.i 144).toNat) p.b:=by
  rw[g5.i 141,g5.i 142,g5.i 143,g5.i 144];exact m4.rd.w
 have key:=hD.put hi6 k2 hch m4' a1 happ hkp hnw hGB;have e0:bo st p=0:=hask.symm.trans heq;refine⟨[[0,5]],[],rfl,rfl,⟨(aY fun _=>0),rfl,zzT,zzT⟩,x,H,st,_,T,B,RG,p,_,rfl,rfl,rfl,hI,hx,rfl,by rw[e0];rfl,?_⟩;unfold cR;rw[aav e0,hi];show pw (cP [q8.h 149,q8.h 141]) _ _;rw[CR,e8,h141];exact⟨_,_,_,_,key⟩
def tS {q:Env} : ∀ {a b:List Ck} {n:Nat},cD n a q->cD (n+aW a) b q->cD n (a++b) q
 | [],b,n,_,h=>by simpa [aW] using h
 | k::a,b,n,h,h2=>⟨h.1,tS h.2 (by rw[show n+k.len+aW a=n+aW (k::a)by simp [aW];omega];exact h2)⟩
def Ua (h:iY (n+53) q .sl):cD n bT q:=by
 have e:bT=([i64,.int .u64]++List.replicate 32 (.int .u8)++[i64,.bool,.int .u64]++List.replicate 16 (.int .u8))++([.sl]++(List.replicate 6 (.int .u64)++List.replicate 32 (.int .u8)++[i64]++List.replicate 32 (.int .u8))):=rfl;rw[e];exact tS (cm _ _ _ rfl) (tS ⟨h,zzT⟩ (cm _ _ _ rfl))
set_option maxRecDepth 20000 in
def Ox (h:iY (n+53) q .sl) (h2:iY (n+128) q .sl):cD n gR q:=tS (Ua h) ⟨h2,zzT⟩
def Good (st:Nat->List Pc):Prop:=∀ i,i<6->∀ p∈st i,ar p.b/\p.b.length<=1000000
def EU:Sx.Spec where
 fn:=74
 own:=[]
 rd:=[0]
 res:=[.agg gR,.one (.int .i64)]
 pre:=fun xs Hs Rs=>∃ x R st n s,xs=[.pointer (some ⟨x,0,none⟩),.int .i64 n,.int .u64 s]/\Rs=[R]/\px R x st/\ma st/\Good st/\(0<=s/\s<18446744073709551616)
 post:=fun xs Hs Rs v Hs' F=>∃ x R st n s,xs=[.pointer (some ⟨x,0,none⟩),.int .i64 n,.int .u64 s]/\Rs=[R]/\px R x st /\
  (((1<=n/\n<=6)/\(1<=s/\s<=(st (n-1).toNat).length)/\∃ row p,(st (n-1).toNat)[(s-1).toNat]?=some p/\v=.tuple #[.agg row.toArray,.int .i64 0]/\fP F F row p)\/(¬((1<=n/\n<=6)/\1<=s/\s<=(st (n-1).toNat).length)/\∃ u,v=.tuple #[u,.int .i64 11]))
def Z1:List CV:=[.int .i64 (.lit 0),.int .u64 (.lit 0)]++List.replicate 32 (CV.int .u8 (.lit 0))++[.int .i64 (.lit 0),.bool .ff,.int .u64 (.lit 0)]++List.replicate 16 (CV.int .u8 (.lit 0))++[.sl (.lit (-1)) (.lit 0) (.lit 0) (.lit 0),.int .u64 (.lit 0),.int .u64 (.lit 0),.int .u64 (.lit 0),.int .u64 (.lit 0),.int .u64 (.lit 0),.int .u64 (.lit 0)]++List.replicate 32 (CV.int .u8 (.lit 0))++[.int .i64 (.lit 0)]++List.replicate 32 (CV.int .u8 (.lit 0))++[.sl (.lit (-1)) (.lit 0) (.lit 0) (.lit 0)]
def Xu:List Sx.Spec:=[KR,gf]
def TK:∀ t∈Xu,t.OK Tryz.prog:=av I2 <| av kX <| bQ
def Sh:aG Tryz.prog Xu EU.fn where
 Λ:=aD
 args:=[TP (.var 0) (.lit 0),TI .i64 (.var 1),.sv (.one (.int .u64 (.var 2)))]
 mem:=[.ro 3 [.var 0] true]
 nv:=4
set_option maxRecDepth 20000 in
def CS {n:Int} {st:Nat->List Pc} (hI:px R x st) (hno:¬((1<=n/\n<=6)/\1<=s/\s<=(st (n-1).toNat).length)) {mem:Mem} : postOf EU [.pointer (some ⟨x,0,none⟩),.int .i64 n,.int .u64 s] [] [R] q mem (.tup [.agg Z1,.one (.int .i64 (.lit 11))]):=by
 intro _;exact⟨[],[],rfl,rfl,⟨(aY fun k=>if k=53 then -1 else if k=128 then -1 else if k=132 then 11 else 0),rfl,⟨Ox ⟨aA,aA,aA,aA⟩ ⟨aA,aA,aA,aA⟩,zzT,zzT⟩⟩,x,R,st,n,s,rfl,rfl,hI,Or.inr ⟨hno,_,rfl⟩⟩
set_option maxRecDepth 20000 in
def NR:EU.OK Tryz.prog:=by
 refine Spec.aS (Γ:=Xu) TK ?_;rintro xs Hs Rs hl1 hl2 ⟨x,R,st,n,s,rfl,rfl,hI,hS,hG,hs⟩;have e0:Hs=[]:=aad.1 hl1;subst e0;refine⟨Sh,aO [x,n,s] false [Hl.none,Hl.none,Hl.none,R],fun _ _=>True,fun _ _=>0,?_,cO (by intro r hr;simp [Sh]at hr;subst hr;exact⟨_,_,_,rfl⟩) rfl,(fun _ h=>nomatch h),?_⟩
 .show [Value.pointer (az (x:Int) 0),.int .i64 n,.int .u64 s]=_;rw[au ah];rfl
 refine aG.read [bT] [] [] ?_;generalize hρ:aO [(x:Int),n,s] false [Hl.none,Hl.none,Hl.none,R]=J;have V:∀ q:Env,ai 4 J q->q.i 0=x/\q.i 1=n/\q.i 2=s/\q.h 3=R:=fun q g=>by
  rw[g.i 0,g.i 1,g.i 2,g.h 3,<-hρ];exact⟨rfl,rfl,rfl,rfl⟩
 clear hρ;simp only[go_sem,Nat.reduceAdd,Xu,VG,VF,Wa,Gw];obtain⟨a,sv,hR⟩:=id hI;intro q1 g1 p1;obtain⟨v0,v1,v2,w3⟩:=V q1 g1;rw[v0,v1,v2,w3];refine⟨fun h1=>⟨fun h6=>CS hI ah,fun h6=>?_⟩,fun h1=>CS hI ah⟩;obtain⟨i,hi⟩:∃ i:Nat,n-1=i:=⟨(n-1).toNat,ah⟩;have hi6:i<6:=ah;have hni:(n-1).toNat=i:=ah;have hw:IntKind.i64.wrap (n-1)=((i:Nat):Int):=by rw[IntKind.wrap_i64];omega
 obtain⟨c1,c2,_⟩:=hR.cells hi6;have c1':R.cell ((x:Int)).toNat (Int.toNat ((i:Nat):Int))=some (.pointer (some ⟨a i,0,none⟩)):=by rw[aaa,aaa];exact c1
 have hlen:(lS st i).length<1000000:=by unfold lS;rw[aaz];exact hS i hi6
 rw[hw,c1',iQ];refine⟨ah,ah,ah,rfl,⟨a i,R,_,_,s,rfl,rfl,hR.ch i hi6,hs,hlen⟩,fun q2 g2 ⟨F2,⟨a',R',w',hs',s',f1,f2,d2,hcase⟩,hF2,hn2⟩ q3 g3 p3=>?_⟩;simp only[aag,aat,Value.pointer.injEq,aai,Addr.mk.injEq,Value.int.injEq,aaY]at f1 f2;obtain⟨rfl,rfl⟩:=f1;subst f2;obtain⟨rfl,rfl⟩:=(hR.ch i hi6).uniq d2;have hl:(lS st i).length=(st i).length:=by unfold lS;rw[aaz]
 have hb3:q3.b 133=q2.b 133:=g3.b 133;rw[hb3];refine⟨fun hb=>?_,fun hb=>?_⟩
 .rcases hcase with ⟨m1,m2,row',h',hh',ev,hI'⟩ | ⟨hno,u,ev⟩
  .simp only[Value.tuple.injEq,aaT,aag,Value.bool.injEq,aat]at ev;exact absurd ev.2 hb
  .exact CS hI (by rw[hni];rw[hl]at hno;exact fun g=>hno g.2)
 rcases hcase with ⟨m1,m2,row',h',hh',ev,hI'⟩ | ⟨hno,u,ev⟩
 rotate_left
 .simp only[Value.tuple.injEq,aaT,aag,Value.bool.injEq,aat]at ev;exact absurd (ev.2.symm.trans hb) aA
 simp only[Value.tuple.injEq,aaT,aag,Value.bool.injEq,aat,Value.agg.injEq]at ev;have er:=ev.1;rw[<-hF2 zzT]at hI';rw[hl]at m2;obtain⟨us,ho,hus⟩:=hR.row i hi6;have hjl:(s-1).toNat<(st i).length:=ah;have hp:(st i)[(s-1).toNat]?=some (st i)[(s-1).toNat]:=aab hjl;have hul:(s-1).toNat<us.length:=by have:=ho.1;omega
 have hu:us[(s-1).toNat]?=some us[(s-1).toNat]:=aab hul;have hbody:=hus _ _ _ hu hp;obtain⟨g,cap,cur,hv,hg,hle,hmx,hsz,ht⟩:∃ g cap cur,sv i=.slice (some ⟨g,0,none⟩) (st i).length cap/\R g=some (.cells cur 46 (0,0))/\(st i).length<=cap/\cap<=maxLen/\cur.size=cap*1/\cur.toList.take ((st i).length*1)=us:=by
  rcases ho.2 with ⟨_,hn⟩ | h
  .omega
  .exact h
 have hce:R.cell ((g:Int)).toNat (0+(s-1)).toNat=some us[(s-1).toNat]:=by
  rw[aaa,Int.zero_add];unfold Hl.cell;rw[hg];rw[<-hu,<-ht,aaX,aav ah,acj]
 obtain⟨y0,y1,y2,y3⟩:=V q3 (g1.trans (g2.mono.tr g3));have c2':R.cell ((x:Int)).toNat (6+((i:Nat):Int)).toNat=some (.slice (some ⟨g,0,none⟩) (st i).length cap):=by
  rw[aaa,show(6+((i:Nat):Int)).toNat=6+i by omega,c2,hv]
 have hw2:IntKind.u64.wrap (s-1)=s-1:=by rw[IntKind.wrap_u64];omega
 have k0:bm (some (Value.slice (some ⟨g,0,none⟩) (st i).length cap)) 0=(g:Int):=rfl;have k1:bm (some (Value.slice (some ⟨g,0,none⟩) (st i).length cap)) 1=0:=rfl;have k2:bm (some (Value.slice (some ⟨g,0,none⟩) (st i).length cap)) 2=(st i).length:=rfl;obtain⟨x5,y5,cc5,e5,_⟩:=id hbody;have hsl5:∃ p l c,us[(s-1).toNat]=Value.slice p l c:=⟨_,_,_,e5⟩;rw[y0,y1,y2,y3,hw,c2',hw2,k0,k1,k2,hce,iq hsl5];have hGp:=hG i hi6 _ (aae hp);refine⟨rfl,ah,ah,ah,by rw[e5];rfl,⟨_,_,R,rfl,rfl,hbody,hGp.2⟩,fun q4 g4 ⟨F4,⟨u',bs',R',z1,z2,z3,z4⟩,hF4,hn4⟩ hdis=>?_⟩;simp only[aag,aat]at z1 z2;subst z1 z2;obtain rfl:=hbody.uniq z3;rw[<-hF4 zzT]at z4;have hGB:(q4.h 5).bP (q4.h 135):=hdis 2 4 _ _ aA rfl rfl rfl;have A4:ai 134 q2 q4:=g3.mono.tr g4;have rowB:(al 5 bT).map (CV.ev q4)=row':=(aaD Array.toList (Value.agg.inj (fH (ks:=bT) (n:=5) (m:=134) A4 aA))).trans er;have hbl:∃ sl,sl=Value.slice (az (q4.i 135) (q4.i 136)) (q4.i 137).toNat (q4.i 138).toNat:=⟨_,rfl⟩;obtain⟨sl,hsl⟩:=hbl;rw[<-hsl]at z4;have aC:bg (row'++[sl]) pt:=by
  have:pt=ef++[Kd.slice]:=rfl;rw[this];exact kT hI'.ok (by rw[hsl];rfl)
 have hl125:row'.length=125:=fE hI'.ok;have h5:q4.h 5=q2.h 5:=A4.h 5;have hn2':iY 58 q4 .sl:=by
  have hh:=hn2.1;have e:bT=(([i64,.int .u64]:List Ck)++List.replicate 32 (.int .u8)++[i64,.bool,.int .u64]++List.replicate 16 (.int .u8))++([Ck.sl]++(List.replicate 6 (.int .u64)++List.replicate 32 (.int .u8)++[i64]++List.replicate 32 (.int .u8))):=rfl;have sp:∀ (a b:List Ck) (n:Nat),cD n (a++b) q2->cD (n+aW a) b q2:=by
   intro a
   induction a with
   | nil=>intro b n h;simpa [aW] using h
   | cons k a ih=>intro b n h;have:=ih b _ h.2;rw[show n+k.len+aW a=n+aW (k::a)by simp [aW];omega]at this;exact this
  have hh:cD 5 bT q2:=hh;rw[e]at hh;obtain⟨n1,n2,n3,n4⟩:=(sp _ _ _ hh).1;have n1:-1<=q2.i 58:=n1;have n2:0<=q2.i 59:=n2;have n3:0<=q2.i 60:=n3;have n4:0<=q2.i 61:=n4;exact⟨by rw[A4.i 58];exact n1,by rw[A4.i 59];exact n2,by rw[A4.i 60];exact n3,by rw[A4.i 61];exact n4⟩
 have hn4':iY 135 q4 .sl:=hn4.1;have ph:(st i)[(s-1).toNat].h=h':=by
  unfold lS at hh';rw[aao,hp]at hh';simpa using hh'
 refine⟨[],[2,4],rfl,rfl,⟨⟨fun k=>if k<128 then q4.i (k+5)else if k<132 then q4.i (k+7)else 0,fun k=>q4.b (k+5),q4.s,q4.v,q4.h⟩,rfl,⟨Ox hn2' hn4',zzT,zzT⟩⟩,x,R,st,n,s,rfl,rfl,hI,Or.inl ⟨⟨ah,ah⟩,⟨ah,by rw[hni];omega⟩,row'++[sl],(st i)[(s-1).toNat],by rw[hni];exact hp,?_,?_⟩⟩
 .show Value.tuple #[.agg ((al 5 bT++[CV.sl (.var 135) (.var 136) (.var 137) (.var 138)]).map (CV.ev q4)).toArray,.int .i64 0]=_;rw[aaM,rowB,hsl];rfl
 .show fP (cP [q4.h 5,q4.h 135]) (cP [q4.h 5,q4.h 135]) _ _;rw[CR];refine⟨aC,?_,?_,hGp.1,hGp.2⟩
  .rw[aco hl125,ph];rw[<-h5]at hI';exact hI'.mono (Hl.bh _ _)
  .have:(row'++[sl]).getD 125 BA=sl:=by rw[aak,aau ah,hl125];rfl
   rw[this];exact jR z4.rd.w (Hl.bC hGB)
end Go.Proofs.YtomdimlnggpgbaaGreatDoor
namespace Go.Proofs.YtomdimlnggpgbaaGreatDoor
open Go Go.RowKit Go.Extern.Stop Go.Stop Go.Extern
def Ii (t:Addr) (w:World):(ReflectliteValue.unpack (.iface 166 (.pointer (some t)))).run Tryz.prog w=.ok (.agg #[.pointer (some ⟨7,166,none⟩),.pointer (some ⟨w.heap.size,0,none⟩),.int .u64 150]) (w.alloc (.cells #[.pointer (some t)] 166)):=by kernel_rfl
def Rp (a:Addr) (w:World):(ReflectliteValue.methodAny (ReflectliteValue.valueError "reflectlite.Value.Type" 0) (fun t _ _ _=>ReflectliteType.toType t) #[.agg #[.pointer (some ⟨7,166,none⟩),.pointer (some a),.int .u64 150]]).run Tryz.prog w=.ok (.iface 243 (.agg #[.pointer (some ⟨7,166,none⟩)])) w:=by kernel_rfl
def Rm (h:Value) (w:World):(Go.method 431 243 (.agg #[h]) "Kind").run Tryz.prog w=.ok (224,h) w:=by kernel_rfl
def Rj (w:World):((ReflectliteType.abiMethod fun t=>(fun a:Nat=>Value.int IntKind.u8 (a:Int)) <$>Rtype.kind t) #[.pointer (some ⟨7,166,none⟩)]).run Tryz.prog w=.ok (.int .u8 22) w:=by kernel_rfl
def Ri (w:World):((ReflectliteType.abiMethod fun t=>(fun a:Nat=>Value.int IntKind.u8 (a:Int)) <$>Rtype.kind t) #[.pointer (some ⟨7,164,none⟩)]).run Tryz.prog w=.ok (.int .u8 22) w:=by kernel_rfl
def Sy (z:Sem Value) (f:TypeId->Addr->Nat->Nat->Sem Value) (v:Value):ReflectliteValue.method z f #[v]=(do match<-ReflectliteValue.parts v with | none=>z | some (t,a,fl)=>f t a fl (fl%32)):=rfl
def FB (a:Addr) (w:World):(ReflectliteValue.parts (.agg #[.pointer (some ⟨7,166,none⟩),.pointer (some a),.int .u64 150])).run Tryz.prog w=.ok (some (166,a,150)) w:=by kernel_rfl
def OQ (a p:Addr) (W:World) (ha:W.cell? a=some (.pointer (some p))):(ReflectliteValue.method (ReflectliteValue.valueError "reflectlite.Value.IsNil" 0) ReflectliteValue.isNil #[.agg #[.pointer (some ⟨7,166,none⟩),.pointer (some a),.int .u64 150]]).run Tryz.prog W=.ok (.bool false) W:=by
 rw[Sy];simp only[Sem.run_bind,FB,Result.andThen];simp [ReflectliteValue.isNil,loadVar,isAgg,underlying,Tryz.underlying166,ha,Result.andThen]
def Rk (h:Value) (w:World):(Go.method 431 243 (.agg #[h]) "Elem").run Tryz.prog w=.ok (239,.agg #[h]) w:=by kernel_rfl
def Rl (h:Value) (w:World):(Go.method 431 243 (.agg #[h]) "Implements").run Tryz.prog w=.ok (240,.agg #[h]) w:=by kernel_rfl
def Uw (h:Value) (w:World):(Go.method 431 243 (.agg #[h]) "AssignableTo").run Tryz.prog w=.ok (237,.agg #[h]) w:=by kernel_rfl
def Rg (w:World):(ReflectliteType.method ReflectliteType.elem #[.agg #[.pointer (some ⟨7,166,none⟩)]]).run Tryz.prog w=.ok (.iface 243 (.agg #[.pointer (some ⟨7,164,none⟩)])) w:=by kernel_rfl
def Uv (w:World):(ReflectliteType.relation "Implements" ReflectliteType.implements_ #[.agg #[.pointer (some ⟨7,164,none⟩)],.iface 243 (.agg #[.pointer (some ⟨7,107,none⟩)])]).run Tryz.prog w=.ok (.bool true) w:=by kernel_rfl
def Rn (v:Value) (w:World):(ReflectliteType.typeOf #[.iface 164 v]).run Tryz.prog w=.ok (.iface 243 (.agg #[.pointer (some ⟨7,164,none⟩)])) w:=by kernel_rfl
def Ro (v:Value) (w:World):(ReflectliteType.typeOf #[.iface 222 v]).run Tryz.prog w=.ok (.iface 243 (.agg #[.pointer (some ⟨7,222,none⟩)])) w:=by kernel_rfl
def Ut (w:World):(ReflectliteType.relation "AssignableTo" ReflectliteType.assignableTo #[.agg #[.pointer (some ⟨7,164,none⟩)],.iface 243 (.agg #[.pointer (some ⟨7,164,none⟩)])]).run Tryz.prog w=.ok (.bool true) w:=by kernel_rfl
def Uu (w:World):(ReflectliteType.relation "AssignableTo" ReflectliteType.assignableTo #[.agg #[.pointer (some ⟨7,222,none⟩)],.iface 243 (.agg #[.pointer (some ⟨7,164,none⟩)])]).run Tryz.prog w=.ok (.bool false) w:=by kernel_rfl
def Ih (e:Addr) (w:World):(ReflectliteValue.unpack (.iface 164 (.pointer (some e)))).run Tryz.prog w=.ok (.agg #[.pointer (some ⟨7,164,none⟩),.pointer (some ⟨w.heap.size,0,none⟩),.int .u64 150]) (w.alloc (.cells #[.pointer (some e)] 164)):=by kernel_rfl
def OP (w:World):(Rtype.elem? 166).run Tryz.prog w=.ok (some 164) w:=by kernel_rfl
def Y7 (p:Addr) (w:World):(ReflectliteValue.mk 164 p ReflectliteValue.flagAddr).run Tryz.prog w=.ok (.agg #[.pointer (some ⟨7,164,none⟩),.pointer (some p),.int .u64 406]) w:=by kernel_rfl
def Rh (a p:Addr) (W:World) (ha:W.cell? a=some (.pointer (some p))):(ReflectliteValue.method (ReflectliteValue.valueError "reflectlite.Value.Elem" 0) ReflectliteValue.elem #[.agg #[.pointer (some ⟨7,166,none⟩),.pointer (some a),.int .u64 150]]).run Tryz.prog W=.ok (.agg #[.pointer (some ⟨7,164,none⟩),.pointer (some p),.int .u64 406]) W:=by
 rw[Sy];simp only[Sem.run_bind,FB,Result.andThen];simp [ReflectliteValue.elem,loadVar,isAgg,underlying,Tryz.underlying166,ha,Result.andThen,OP,Y7]
def WD (v x:Value):ReflectliteValue.set #[v,x]=(do
 let (some (dst,a,fl),some (src,b,_)):=(<-ReflectliteValue.parts v,<-ReflectliteValue.parts x)
  | unsupported (.noEntry "extern/(internal/reflectlite.Value).Set.zeroValue")
 if fl/ReflectliteValue.flagAddr%2==0 then unsupported (.noEntry "extern/(internal/reflectlite.Value).Set.unaddressable")
 let val<-loadVar src b
 if<-Rtype.directlyAssignable dst src then storeVar dst a val
 else if<-Rtype.implements dst src then
  if(<-Rtype.kind src)==20 then
   match val with
   | .nilIface=>unsupported (.noEntry "extern/reflectlite: a nil value of one interface type handed on as a value of another")
   | _=>storeVar dst a val
  else storeVar dst a (.iface src val)
 else panicString ("reflectlite.Set: value of type "++(<-Rtype.spelt src)++ " is not assignable to type "++(<-Rtype.spelt dst))
 pure (.tuple #[])):=rfl
def LY (a:Addr) (w:World):(ReflectliteValue.parts (.agg #[.pointer (some ⟨7,164,none⟩),.pointer (some a),.int .u64 406])).run Tryz.prog w=.ok (some (164,a,406)) w:=by kernel_rfl
def OR (a:Addr) (w:World):(ReflectliteValue.parts (.agg #[.pointer (some ⟨7,164,none⟩),.pointer (some a),.int .u64 150])).run Tryz.prog w=.ok (some (164,a,150)) w:=by kernel_rfl
def OO (w:World):(Rtype.directlyAssignable 164 164).run Tryz.prog w=.ok true w:=by kernel_rfl
def WE (ta b e:Addr) (old:Value) (W:World) (hb:W.cell? b=some (.pointer (some e))) (ht:W.cell? ta=some old) (hf:W.frozen? ta=false) :
 (ReflectliteValue.set #[.agg #[.pointer (some ⟨7,164,none⟩),.pointer (some ta),.int .u64 406],.agg #[.pointer (some ⟨7,164,none⟩),.pointer (some b),.int .u64 150]]).run Tryz.prog W=.ok (.tuple #[]) (W.setCell ta (.pointer (some e))):=by
 rw[WD];simp only[Sem.run_bind,LY,OR,Result.andThen];simp [ReflectliteValue.flagAddr,loadVar,isAgg,underlying,Tryz.underlying164,hb,Result.andThen,OO,storeVar,Value.cells,storeCells,Addr.add];rw[run_store Tryz.prog W ta _ _ (by rfl)];simp [ht,hf]
def Ux (v:Value) (xT:TypeId) (w:World):(Instr.typeAssert (.iface 222 v) xT 267 true).run Tryz.prog w=.ok (.tuple #[.nilIface,.bool false]) w:=run_typeAssert_lacksB Tryz.underlying267 (by kernel_rfl) (by kernel_rfl) v xT w
def OS (v:Value) (xT:TypeId) (w:World):(Instr.typeAssert (.iface 222 v) xT 248 true).run Tryz.prog w=.ok (.tuple #[.iface 222 v,.bool true]) w:=run_typeAssert_hasB Tryz.underlying248 (by kernel_rfl) v xT w
def LX (v:Value) (w:World):(Go.method 431 222 v "Unwrap").run Tryz.prog w=.ok (232,v) w:=by kernel_rfl
def H5 (w:World):Calls Tryz.prog 61 #[.nilIface] w fun e w'=>e=.returned (.int .i64 0)/\Below w.heap.size w w':=by
 go_enter Tryz.func61,Tryz.ntmps61
 go_wp2
 go_ret
 exact⟨rfl,(Below.refl _ _).alloc (aaw _) _⟩
set_option maxRecDepth 20000 in
def H0 (e:Nat) (s:ByteArray) (c:Int) (w:World) (hg:w.cell? ⟨4,0,none⟩=some (.iface 243 (.agg #[.pointer (some ⟨7,107,none⟩)])))
 (he:w.heap[e]?=some (.cells #[.string s,.int .i64 c] 168 (0,0))) :
 Calls Tryz.prog 61 #[.iface 222 (.agg #[.iface 164 (.pointer (some ⟨e,0,none⟩))])] w fun ev w'=>ev=.returned (.int .i64 c)/\Below w.heap.size w w':=by
 have h1:=@run_callFunc_extern Tryz.prog 138 _ (fun args=>ReflectliteValue.unpack (args.getD 0 (.tuple #[]))) Tryz.func138 (by kernel_rfl) (by kernel_rfl) (by kernel_rfl) (by kernel_rfl);have h2:=@run_callFunc_extern Tryz.prog 139 _ (ReflectliteValue.methodAny (ReflectliteValue.valueError "reflectlite.Value.Type" 0) (fun t _ _ _=>ReflectliteType.toType t)) Tryz.func139 (by kernel_rfl) (by kernel_rfl) (by kernel_rfl) (by kernel_rfl);have h3:=@run_callFunc_extern Tryz.prog 140 _ (ReflectliteValue.method (ReflectliteValue.valueError "reflectlite.Value.IsNil" 0) ReflectliteValue.isNil) Tryz.func140 (by kernel_rfl) (by kernel_rfl) (by kernel_rfl) (by kernel_rfl);have h4:=@run_callFunc_extern Tryz.prog 224 _ (ReflectliteType.abiMethod fun t=>do pure (.int .u8 (<-Rtype.kind t))) Tryz.func224 (by kernel_rfl) (by kernel_rfl) (by kernel_rfl) (by kernel_rfl);have h5:=@run_callFunc_extern Tryz.prog 239 _ (ReflectliteType.method ReflectliteType.elem) Tryz.func239 (by kernel_rfl) (by kernel_rfl) (by kernel_rfl) (by kernel_rfl);have h6:=@run_callFunc_extern Tryz.prog 240 _ (ReflectliteType.relation "Implements" ReflectliteType.implements_) Tryz.func240 (by kernel_rfl) (by kernel_rfl) (by kernel_rfl) (by kernel_rfl);have h7:=@run_callFunc_extern Tryz.prog 129 _ (ReflectliteType.typeOf) Tryz.func129 (by kernel_rfl) (by kernel_rfl) (by kernel_rfl) (by kernel_rfl);have h8:=@run_callFunc_extern Tryz.prog 237 _ (ReflectliteType.relation "AssignableTo" ReflectliteType.assignableTo) Tryz.func237 (by kernel_rfl) (by kernel_rfl) (by kernel_rfl) (by kernel_rfl);have h9:=@run_callFunc_extern Tryz.prog 173 _ (ReflectliteValue.method (ReflectliteValue.valueError "reflectlite.Value.Elem" 0) ReflectliteValue.elem) Tryz.func173 (by kernel_rfl) (by kernel_rfl) (by kernel_rfl) (by kernel_rfl);have h10:=@run_callFunc_extern Tryz.prog 174 _ (ReflectliteValue.set) Tryz.func174 (by kernel_rfl) (by kernel_rfl) (by kernel_rfl) (by kernel_rfl);have k0:=Ii;have k1:=Rp;have k2:=Rm;have k3:=Rj;have k4:=Ri;have k5:=Rk;have k6:=Rl;have k7:=Uw;have k8:=Rg;have k9:=Uv;have k10:=Rn;have k11:=Ro;have k12:=Ut;have k13:=Uu;have k14:=Ih;have k15:=Ux;have k16:=OS;have k17:=LX;have hlt:4<w.heap.size:=by
  rcases aa9 4 w.heap.size with h | h
  .exact h
  .simp [World.cell?,acF h]at hg
 have hel:e<w.heap.size:=(aaS.1 he).1;have TD:(((w.alloc (.cells #[.pointer none] 164)).alloc (.cells #[.pointer (some ⟨w.heap.size,0,none⟩)] 166)).alloc (.cells #[.pointer (some ⟨7,166,none⟩),.pointer (some ⟨w.heap.size+1,0,none⟩),.int .u64 150] 226)).cell? ⟨4,0,none⟩=some (.iface 243 (.agg #[.pointer (some ⟨7,107,none⟩)])):=by
  rw[World.cell?_alloc_lt _ _ ⟨4,0,none⟩ (by first | (simp;done) | (simp;omega)),World.cell?_alloc_lt _ _ ⟨4,0,none⟩ (by first | (simp;done) | (simp;omega)),World.cell?_alloc_lt _ _ ⟨4,0,none⟩ hlt];exact hg
 have n3:=OQ ⟨w.heap.size+1,0,none⟩ ⟨w.heap.size,0,none⟩ (((w.alloc (.cells #[.pointer none] 164)).alloc (.cells #[.pointer (some ⟨w.heap.size,0,none⟩)] 166)).alloc (.cells #[.pointer (some ⟨7,166,none⟩),.pointer (some ⟨w.heap.size+1,0,none⟩),.int .u64 150] 226)) (by rw[World.cell?_alloc_lt _ _ ⟨w.heap.size+1,0,none⟩ (by first | (simp;done) | (simp;omega)),World.cell?_alloc_at _ _ _ _ Sx.aF];rfl);have ht5:(((((w.alloc (.cells #[.pointer none] 164)).alloc (.cells #[.pointer (some ⟨w.heap.size,0,none⟩)] 166)).alloc (.cells #[.pointer (some ⟨7,166,none⟩),.pointer (some ⟨w.heap.size+1,0,none⟩),.int .u64 150] 226)).alloc (.cells #[.pointer (some ⟨7,166,none⟩),.pointer (some ⟨w.heap.size+1,0,none⟩),.int .u64 150] 226)).alloc (.cells #[.iface 164 (.pointer (some ⟨e,0,none⟩))] 222)).cell? ⟨w.heap.size,0,none⟩=some (.pointer none):=by
  rw[World.cell?_alloc_lt _ _ ⟨w.heap.size,0,none⟩ (by first | (simp;done) | (simp;omega)),World.cell?_alloc_lt _ _ ⟨w.heap.size,0,none⟩ (by first | (simp;done) | (simp;omega)),World.cell?_alloc_lt _ _ ⟨w.heap.size,0,none⟩ (by first | (simp;done) | (simp;omega)),World.cell?_alloc_lt _ _ ⟨w.heap.size,0,none⟩ (by first | (simp;done) | (simp;omega)),World.cell?_alloc_at _ _ _ _ Sx.aF];rfl
 have el:=Rh ⟨w.heap.size+1,0,none⟩ ⟨w.heap.size,0,none⟩ (((((w.alloc (.cells #[.pointer none] 164)).alloc (.cells #[.pointer (some ⟨w.heap.size,0,none⟩)] 166)).alloc (.cells #[.pointer (some ⟨7,166,none⟩),.pointer (some ⟨w.heap.size+1,0,none⟩),.int .u64 150] 226)).alloc (.cells #[.pointer (some ⟨7,166,none⟩),.pointer (some ⟨w.heap.size+1,0,none⟩),.int .u64 150] 226)).alloc (.cells #[.iface 164 (.pointer (some ⟨e,0,none⟩))] 222)) (by
  rw[World.cell?_alloc_lt _ _ ⟨w.heap.size+1,0,none⟩ (by first | (simp;done) | (simp;omega)),World.cell?_alloc_lt _ _ ⟨w.heap.size+1,0,none⟩ (by first | (simp;done) | (simp;omega)),World.cell?_alloc_lt _ _ ⟨w.heap.size+1,0,none⟩ (by first | (simp;done) | (simp;omega)),World.cell?_alloc_at _ _ _ _ Sx.aF];rfl)
 have st:=WE ⟨w.heap.size,0,none⟩ ⟨w.heap.size+1+1+1+1+1,0,none⟩ ⟨e,0,none⟩ (.pointer none) ((((((w.alloc (.cells #[.pointer none] 164)).alloc (.cells #[.pointer (some ⟨w.heap.size,0,none⟩)] 166)).alloc (.cells #[.pointer (some ⟨7,166,none⟩),.pointer (some ⟨w.heap.size+1,0,none⟩),.int .u64 150] 226)).alloc (.cells #[.pointer (some ⟨7,166,none⟩),.pointer (some ⟨w.heap.size+1,0,none⟩),.int .u64 150] 226)).alloc (.cells #[.iface 164 (.pointer (some ⟨e,0,none⟩))] 222)).alloc (.cells #[.pointer (some ⟨e,0,none⟩)] 164))
  (by rw[World.cell?_alloc_at _ _ _ _ Sx.aF];rfl)
  (by rw[World.cell?_alloc_lt _ _ ⟨w.heap.size,0,none⟩ (by first | (simp;done) | (simp;omega))];exact ht5)
  (by rw[World.frozen?_alloc_old _ _ ⟨w.heap.size,0,none⟩ (by first | (simp;done) | (simp;omega)),World.frozen?_alloc_old _ _ ⟨w.heap.size,0,none⟩ (by first | (simp;done) | (simp;omega)),World.frozen?_alloc_old _ _ ⟨w.heap.size,0,none⟩ (by first | (simp;done) | (simp;omega)),World.frozen?_alloc_old _ _ ⟨w.heap.size,0,none⟩ (by first | (simp;done) | (simp;omega)),World.frozen?_alloc_old _ _ ⟨w.heap.size,0,none⟩ Sx.aF];simp)
 have bl:Below w.heap.size w ((((((w.alloc (.cells #[.pointer (some ⟨e,0,none⟩)] 164)).alloc (.cells #[.pointer (some ⟨w.heap.size,0,none⟩)] 166)).alloc (.cells #[.pointer (some ⟨7,166,none⟩),.pointer (some ⟨w.heap.size+1,0,none⟩),.int .u64 150] 226)).alloc (.cells #[.pointer (some ⟨7,166,none⟩),.pointer (some ⟨w.heap.size+1,0,none⟩),.int .u64 150] 226)).alloc (.cells #[.iface 164 (.pointer (some ⟨e,0,none⟩))] 222)).alloc (.cells #[.pointer (some ⟨e,0,none⟩)] 164)):=((((((Below.refl _ _).alloc (aaw _) _).alloc Sx.aF _).alloc (by first | (simp;done) | (simp;omega)) _).alloc (by first | (simp;done) | (simp;omega)) _).alloc (by first | (simp;done) | (simp;omega)) _).alloc (by first | (simp;done) | (simp;omega)) _;have hc:((((((w.alloc (.cells #[.pointer (some ⟨e,0,none⟩)] 164)).alloc (.cells #[.pointer (some ⟨w.heap.size,0,none⟩)] 166)).alloc (.cells #[.pointer (some ⟨7,166,none⟩),.pointer (some ⟨w.heap.size+1,0,none⟩),.int .u64 150] 226)).alloc (.cells #[.pointer (some ⟨7,166,none⟩),.pointer (some ⟨w.heap.size+1,0,none⟩),.int .u64 150] 226)).alloc (.cells #[.iface 164 (.pointer (some ⟨e,0,none⟩))] 222)).alloc (.cells #[.pointer (some ⟨e,0,none⟩)] 164)).cell? ⟨e,1,none⟩=some (.int .i64 c):=by
  rw[bl.cell hel];simp [World.cell?,he]
 go_enter Tryz.func61,Tryz.ntmps61
 go_wp2
 refine wp_loop_rounds 2 ?_;rw[rounds_succ]
 go_wp2
 rw[rounds_succ]
 go_wp2
 go_ret
 exact⟨rfl,bl⟩
end Go.Proofs.YtomdimlnggpgbaaGreatDoor
namespace Go.Proofs.YtomdimlnggpgbaaGreatDoor
open Go Go.Sx Go.RowKit
variable {v:Value}
def yG:Value:=.iface 243 (.agg #[.pointer (some ⟨7,107,none⟩)])
def Wl (b:Nat):Value:=.iface 222 (.agg #[.iface 164 (.pointer (some ⟨b,0,none⟩))])
def pz (R:Hl) (v:Value) (c:Int):Prop:=(c=0/\v=.nilIface)\/∃ (b:Nat) (s:ByteArray),v=Wl b/\R b=some (.cells #[.string s,.int .i64 c] 168 (0,0))
def pz.det {R:Hl} {c d:Int} (h:pz R v c) (k:pz R v d):c=d:=by
 rcases h with ⟨rfl,rfl⟩ | ⟨b,s,rfl,hb⟩<;>rcases k with ⟨rfl,e⟩ | ⟨b',s',e,hb'⟩
 .rfl
 .cases e
 .cases e
 .simp only[Wl,Value.iface.injEq,aaY,Value.agg.injEq,aaT,aag,aat,Value.pointer.injEq,aai,Addr.mk.injEq]at e;subst e;rw[hb]at hb';simp at hb';exact hb'.2
def oM:Sx.Spec where
 fn:=61
 own:=[]
 rd:=[7000168,2000004]
 res:=[.one (.int .i64)]
 pre:=fun xs Hs Rs=>∃ e R G c,xs=[e]/\Rs=[R,G]/\G.cell 4 0=some yG/\pz R e c
 post:=fun xs Hs Rs v Hs' F=>∃ e R G,xs=[e]/\Rs=[R,G]/\∀ c,pz R e c->v=.int .i64 c
def Hl.Nb {R:Hl} {w:World} (h:R.sub w) {b y:Nat} (hc:R.cell b y=some v):w.cell? ⟨b,y,none⟩=some v:=by
 unfold Hl.cell at hc;cases hb:R b with
 | none=>rw[hb]at hc;cases hc
 | some o =>
  have hw:=h _ _ hb;rw[hb]at hc;cases o with
  | cells c t f=>simp only[World.cell?,hw];exact hc
  | _=>simp at hc
def vo:oM.OK Tryz.prog:=by
 refine oe rfl fun w xs Rs hs ⟨e,R,G,c,e1,e2,hG,hN⟩=>?_;subst e1 e2;refine⟨.int .i64 c,⟨⟨fun _=>c,fun _=>true,fun _=>.empty,fun _=>.tuple #[],fun _=>Hl.none⟩,rfl,zzT,zzT⟩,?_,_,_,_,rfl,rfl,fun d hd=>by rw[hN.det hd]⟩;have hR:=hs R aF;have hg:=Hl.Nb (hs G aF) hG;rcases hN with ⟨rfl,rfl⟩ | ⟨b,s,rfl,hb⟩
 .exact H5 w
 .exact H0 b s c w hg (hR _ _ hb)
end Go.Proofs.YtomdimlnggpgbaaGreatDoor
namespace Go.Proofs.YtomdimlnggpgbaaGreatDoor
open Go Go.Sx Go.Pk
variable {A B C H R R1 R2:Hl}{row:List Value}{i n x:Nat}{st st':Nat->List Pc}
noncomputable def cy (p:Pc):List Int:=aI (bc p.h)++aI p.b
def CO {h:Hd} (hx:bM R row h):(bc h).length<=932:=by
 unfold bc;split
 .rename_i hf;have:=tB hx hf.2.1;unfold sZ;rw[aac,aJ];omega
 .exact abi _
def Fe (h:n<16384):(aj n).length<=2:=by
 unfold aj;split
 .simp
 .rw[aaN];unfold aj;rw[aav ah];simp
def lP {b:List Int} (h:b.length<=4096):(aI b).length<=b.length+2:=by
 unfold aI;rw[aac];have:=Fe (n:=b.length) ah;omega
def xS {p:Pc} (hx:fP R1 R2 row p) (hb:p.b.length<=2100):(cy p).length<=3036/\(cy p).length<=936+p.b.length:=by
 have h1:=CO hx.hd;have h2:=lP (b:=bc p.h) ah;have h3:=lP (b:=p.b) ah;unfold cy;rw[aac];omega
noncomputable def xU:Sx.Spec where
 fn:=106
 own:=[]
 rd:=[1000053,1000125]
 res:=[.one .sl,.one .any]
 pre:=fun xs Hs Rs=>∃ row T B p,xs=[.agg row.toArray]/\Rs=[T,B]/\fP T B row p/\p.b.length<=2100
 post:=fun xs Hs Rs v Hs' F=>∃ u,v=.tuple #[u,.nilIface]/\∀ row T B p,xs=[.agg row.toArray]->Rs=[T,B]->fP T B row p->fu F u (cy p)
noncomputable def XJ:List Sx.Spec:=[fx 146,sD,rV]
def UG:∀ t∈XJ,t.OK Tryz.prog:=av Ew <| av BG <| av zI <| bQ
def Zk (f:FuncId):(fx f).res=[.one .sl]:=rfl
def Zl:sD.res=[]:=rfl
def Zm:rV.res=[.one .sl,.one (.int .i64)]:=rfl
def Zj (n:Nat):(aK n [Cp.one .sl,Cp.one (.int .i64)]≠[])=True:=by simp [aK,Cp.roots,Ck.root]
noncomputable def J8:aG Tryz.prog XJ xU.fn where
 Λ:=aD
 args:=(bV 0 [.agg yD]).map .sv
 mem:=[.ro 132 [.var 53] false,.ro 133 [.var 128] true]
 nv:=134
set_option maxRecDepth 20000 in
def Im:xU.OK Tryz.prog:=by
 refine Spec.aS (Γ:=XJ) UG ?_;rintro xs Hs Rs hl1 hl2 ⟨row,T,B,p,rfl,rfl,hx,hlen⟩;have e0:Hs=[]:=aad.1 hl1;subst e0;obtain⟨J,rfl,hnw,hh⟩:=um (ks:=gR) [(132,T),(133,B)] hx.ok;have w1:J.h 132=T:=hh 132;have w2:J.h 133=B:=hh 133;refine⟨J8,J,fun _ _=>True,fun _ _=>0,rfl,cO (by intro r hr;simp [J8]at hr;rcases hr with rfl | rfl<;>exact⟨_,_,_,rfl⟩) (by show [J.h 132,J.h 133]=_;rw[w1,w2]),(fun _ h=>nomatch h),?_⟩;refine aG.read [bT] [] [] ?_;simp only[go_sem,Nat.reduceAdd,XJ,Zk,Zl,Zm,Zj,Gw];generalize hrow0:(al 0 gR).map (CV.ev J)=row at *;have ht0:(al 0 bT).map (CV.ev J)=row.take 125:=by rw[<-hrow0,oH]
 have hb0:Value.slice (az (J.i 128) (J.i 129)) (J.i 130).toNat (J.i 131).toNat=row.getD 125 BA:=by rw[<-hrow0,ue]
 have V:∀ q:Env,ai 134 J q->q.h 132=T/\q.h 133=B/\(al 0 bT).map (CV.ev q)=row.take 125/\Value.slice (az (q.i 128) (q.i 129)) (q.i 130).toNat (q.i 131).toNat=row.getD 125 BA:=fun q g=>by
  refine⟨by rw[g.h 132,w1],by rw[g.h 133,w2],?_,?_⟩
  .rw[<-ht0];exact aaD Array.toList (Value.agg.inj (fH (ks:=bT) (n:=0) g aA))
  .rw[g.i 128,g.i 129,g.i 130,g.i 131];exact hb0
 intro q1 g1 p1 q2 g2 p2;have G2:ai 134 J q2:=g1.tr g2;obtain⟨x2,x3,xr,xb⟩:=V q2 G2;rw[xr,x2];refine⟨⟨_,T,p.h,rfl,rfl,hx.hd⟩,fun q3 g3 ⟨F3,hp3,hF3,hn3⟩=>?_⟩;have hB:=mh hx.hd hp3;rw[<-hF3 zzT]at hB;have p3:0<=q3.i 135:=by rw[g3.i 135];exact p2
 have e3:Hl.one (q3.i 135).toNat (Obj.cells #[Value.slice (az (-1) 0) (Int.toNat 0) (Int.toNat 0),Value.bool (ba q3 E.ff)] 208 (0,0))=Hl.one (q3.i 135).toNat (.cells #[.slice none 0 0,.bool false] 208 (0,0)):=rfl;have ep:∀ q:Env,q.i 135=q3.i 135->Value.pointer (az (q.i 135) 0)=.pointer (some ⟨(q3.i 135).toNat,0,none⟩):=fun q h=>by rw[h,au p3];rfl
 rw[e3,ep q3 rfl];have h1:=CO hx.hd;refine⟨⟨_,_,_,_,[],false,_,rfl,rfl,rfl,bq.new _,hB.rd.w,aF,ah⟩,fun q4 g4 ⟨F4,⟨p',u',H',R',bs,lg,b2,H'',f1,f2,f3,f4,f5,f6,f7⟩,_⟩=>?_⟩;simp only[aag,aat]at f1 f2 f3 f6;obtain⟨rfl,rfl⟩:=f1;subst f2 f3 f6;obtain⟨rfl,rfl⟩:=(bq.new _).uniq f4;obtain rfl:=hB.rd.w.uniq f5;have t4:jG [] false (bc p.h)=(aI (bc p.h),false):=by unfold jG;rw[aan ah];rfl
 rw[t4]at f7;have f7:bq _ _ (aI (bc p.h)) false:=f7;have G4:ai 134 J q4:=G2.trans (g3.mono.tr g4);obtain⟨y2,y3,yr,yb⟩:=V q4 G4;rw[ep q4 (g4.i 135),yb,y3];have hl1:=lP (b:=bc p.h) ah;have hl2:=lP (b:=p.b) ah;refine⟨⟨_,_,_,_,_,false,p.b,rfl,rfl,rfl,f7,hx.body,ah,ah⟩,fun q5 g5 ⟨F5,⟨p',u',H',R',bs,lg,b2,H'',k1,k2,k3,k4,k5,k6,k7⟩,_⟩=>?_⟩;simp only[aag,aat]at k1 k2 k3 k6;obtain⟨rfl,rfl⟩:=k1;subst k2 k3 k6;obtain⟨rfl,rfl⟩:=f7.uniq k4;obtain rfl:=hx.body.uniq k5;have t5:jG (aI (bc p.h)) false p.b=(cy p,false):=by unfold jG;rw[aan ah];rfl
 rw[t5]at k7;have k7:bq _ _ (cy p) false:=k7;rw[ep q5 (by rw[g5.i 135,g4.i 135])];have hl3:(cy p).length<=16384:=by unfold cy;rw[aac];omega
 refine⟨⟨_,_,_,false,rfl,rfl,k7,ah⟩,fun q6 g6 ⟨F6,⟨p',R',bs,lg,u,m1,m2,m3,m4,m5⟩,hF6,hn6⟩=>?_⟩;simp only[aag,aat]at m1 m2;subst m1 m2;obtain⟨rfl,rfl⟩:=k7.uniq m3;have t6:rp (cy p) false=(cy p,0):=by unfold rp;rw[aan (by simp;omega)]
 rw[t6]at m4 m5;simp only[Value.tuple.injEq,aaT,aag,Value.int.injEq,aaY,aat]at m4;rw[<-m4.1,<-hF6 zzT]at m5;refine⟨fun _ _=>?_,fun hne=>absurd m4.2 hne⟩;have hn6:=hn6.1;refine⟨[],[5],rfl,rfl,⟨⟨fun k=>q6.i (k+144),fun _=>false,fun _=>.empty,fun _=>.nilIface,fun _=>Hl.none⟩,rfl,⟨hn6.1,hn6.2.1,hn6.2.2.1,hn6.2.2.2⟩,zzT,zzT⟩,_,rfl,fun row' T' B' p' e1 e2 hx'=>?_⟩;simp only[aag,aat,Value.agg.injEq]at e1 e2;have e1:=aaG e1;obtain⟨rfl,rfl⟩:=e2;subst e1;obtain rfl:=hx.uniq hx';show fu (cP [q6.h 144]) _ _;rw[aL];exact m5.rd.w
open Go.Proofs.YtomdimlnggpgbaaGreatDoor.D hiding aO aD fN
def WC (r:Nat) (ps:Value) (x:Nat):Hl:=Hl.one r (.cells #[ps,.pointer (some ⟨x,0,none⟩)] 125 (0,0))
structure P0 (H:Hl) (r:Nat) (dp ps:Value) (x:Nat) (HS HI:Hl) (S:SM) (st:Nat->List Pc):Prop where
 so:iU HS ps dp S
 ix:pw HI x st
 d1:(WC r ps x).bP HS
 d2:(WC r ps x).bP HI
 d3:HS.bP HI
 hl:H=cP [WC r ps x,HS,HI]
def bZ (H:Hl) (p dp:Value) (S:SM) (st:Nat->List Pc):Prop:=∃ (r:Nat) (ps:Value) (x:Nat) (HS HI:Hl),p=.pointer (some ⟨r,0,none⟩)/\P0 H r dp ps x HS HI S st
def nZ (R:Hl) (p:Value) (st:Nat->List Pc):Prop:=∃ (r:Nat) (ps:Value) (x:Nat),p=.pointer (some ⟨r,0,none⟩)/\R r=some (.cells #[ps,.pointer (some ⟨x,0,none⟩)] 125 (0,0))/\px R x st
def pO (h1:A.bP B) (h2:A.bP C) (h3:B.bP C):A.le (cP [A,B,C])/\B.le (cP [A,B,C])/\C.le (cP [A,B,C]):=by
 have hd:∀ (p q:Nat) X Y,p≠q->([A,B,C])[p]?=some X->([A,B,C])[q]?=some Y->X.bP Y:=by
  intro p q X Y hpq hX hY
  match p,q,hX,hY with
  | 0,0,_,_=>exact absurd rfl hpq
  | 0,1,hX,hY=>cases hX;cases hY;exact h1
  | 0,2,hX,hY=>cases hX;cases hY;exact h2
  | 1,0,hX,hY=>cases hX;cases hY;exact Hl.tC h1
  | 1,1,_,_=>exact absurd rfl hpq
  | 1,2,hX,hY=>cases hX;cases hY;exact h3
  | 2,0,hX,hY=>cases hX;cases hY;exact Hl.tC h2
  | 2,1,hX,hY=>cases hX;cases hY;exact Hl.tC h3
  | 2,2,_,_=>exact absurd rfl hpq
  | p+3,_,hX,_=>simp at hX
  | 0,q+3,_,hY=>simp at hY
  | 1,q+3,_,hY=>simp at hY
  | 2,q+3,_,hY=>simp at hY
 exact⟨lu hd (i:=0) rfl,lu hd (i:=1) rfl,lu hd (i:=2) rfl⟩
def bZ.rd {p dp:Value} {S:SM} (h:bZ H p dp S st):nZ H p st:=by
 obtain⟨r,ps,x,HS,HI,hp,h⟩:=h;obtain⟨l1,l2,l3⟩:=pO h.d1 h.d2 h.d3;rw[<-h.hl]at l1 l2 l3;exact⟨r,ps,x,hp,l1 _ _ (Hl.aT _ _),h.ix.rd.mono l3⟩
def Dq:Sx.Spec where
 fn:=27
 own:=[.arg 0]
 rd:=[]
 res:=[.one .ptr,.one (.int .i64)]
 links:=[0]
 pre:=fun xs Hs Rs=>∃ dp H D,xs=[dp]/\Hs=[H]/\aE H dp D/\ar (lV D)/\ar (ij D)/\fz D=0/\(bY D).recs=[]
 post:=fun xs Hs Rs v Hs' F=>∃ dp H D H' pv,xs=[dp]/\Hs=[H]/\aE H dp D/\Hs'=[H']/\aE H' dp D/\v=.tuple #[pv,.int .i64 0]/\bZ F pv dp (bY D) (fun _=>[])
def XK:List Sx.Spec:=[sM,B8,EX,oM]
def UK:∀ t∈XK,t.OK Tryz.prog:=av BZ <| av Gd <| av EY <| av vo <| bQ
def WK:sM.res=[.one .ptr,.one (.int .i64)]:=rfl
def WL:B8.res=[.one .sl]:=rfl
def WM:EX.res=[.one .ptr]:=rfl
def Aj:aG Tryz.prog XK Dq.fn where
 Λ:=fun p=>if Tq p [60,1,1,0,1,0,0,1,1]then some ⟨0,[],[],0⟩else none
 args:=[TP (.var 0) (.lit 0)]
 mem:=[.hp 1 [] [.var 0] []]
 nv:=2
set_option maxRecDepth 4000 in
def Mb:Dq.OK Tryz.prog:=by
 refine Spec.aS (Γ:=XK) UK ?_;rintro xs Hs Rs hl1 hl2 ⟨dp,H,D,rfl,rfl,hD,hlo,hhi,hE,hrec⟩;have e1:Rs=[]:=aad.1 hl2;subst e1;obtain⟨da,s,m,es,clock,hdp,hDi⟩:=id hD;refine⟨Aj,aO [(da:Int)] false [Hl.none,H],fun _ _=>True,fun _ _=>0,?_,⟨?_,?_,?_,?_⟩,(fun _ h=>nomatch h),?_⟩
 .show [Value.pointer (az (da:Int) 0)]=_;rw[gz,hdp]
 .intro r hr ho;simp [Aj]at hr;subst hr;exact⟨H,aF,Hl.le_refl _⟩
 .intro r hr ho;simp [Aj]at hr;subst hr;cases ho
 .simp [Aj]
 .intro r hr;simp [Aj]at hr;subst hr;trivial
 refine aG.read [] [] [] ?_;generalize hρ:aO [(da:Int)] false [Hl.none,H]=J;have v0:J.i 0=da:=by rw[<-hρ];rfl
 have w1:J.h 1=H:=by rw[<-hρ];rfl
 clear hρ;have ep:Value.pointer (az (da:Int) 0)=dp:=by rw[gz,hdp]
 simp only[go_sem,Nat.reduceAdd,XK,WK,WL,WM,Gw,Pj,Zr];rw[v0,w1,ep];refine⟨⟨dp,H,D,rfl,rfl,hD,hlo,hhi⟩,fun q1 g1 ⟨F1,hp1,hF1,hn1⟩=>?_⟩;obtain⟨pv,hD1,hv,hS,_⟩:=Av hD hp1;simp only[Value.tuple.injEq,aaT,aag,Value.int.injEq,aaY,aat]at hv;obtain⟨rfl,hv⟩:=hv;have h4:q1.i 4=0:=hv.trans hE;have hS:=hS hE;rw[<-hF1 zzT]at hS;refine⟨fun hne=>absurd h4 hne,fun _=>⟨⟨_,_,dp,bY D,rfl,rfl,hS.rd,by rw[hrec];simp,fun r hr=>by rw[hrec]at hr;cases hr⟩,fun q2 g2 ⟨F2,hp2,hF2,hn2⟩=>⟨rfl,fun q3 g3 ⟨F3,⟨x,hx,hI⟩,hF3,hn3⟩=>?_⟩⟩⟩;have hR:=B9 hS.rd hp2;rw[hrec]at hR;have h7:q2.i 7=0:=by
  obtain⟨us,ho,_⟩:=hR;have hn:0<=q2.i 7:=hn2.1.2.2.1;rcases ho.2 with ⟨h,_⟩ | ⟨_,_,_,h,_⟩<;>(simp only[Value.slice.injEq]at h;have:=h.2.1;simp at this;omega)
 have h7':q3.i 7=0:=by rw[g3.i 7,h7]
 rw[<-hF3 zzT]at hI;refine⟨ah,fun h=>ah,fun _ q4 g4 p4 hdis=>?_⟩;have A:ai 9 q2 q4:=g3.tr g4;have A1:ai 5 q1 q4:=g2.tr A;have d1:(Hl.one (q4.i 11).toNat (.cells #[.pointer (az (q4.i 2) (q4.i 3)),.pointer (az (q4.i 9) (q4.i 10))] 125 (0,0))).bP (q4.h 3):=hdis 4 1 _ _ aA rfl rfl rfl;have d2:(Hl.one (q4.i 11).toNat (.cells #[.pointer (az (q4.i 2) (q4.i 3)),.pointer (az (q4.i 9) (q4.i 10))] 125 (0,0))).bP (q4.h 9):=hdis 4 3 _ _ aA rfl rfl rfl;have d3:(q4.h 3).bP (q4.h 9):=hdis 1 3 _ _ aA rfl rfl rfl;have e9:Value.pointer (az (q4.i 9) (q4.i 10))=.pointer (some ⟨x,0,none⟩):=by rw[g4.i 9,g4.i 10];exact hx
 rw[e9]at d1 d2;refine⟨[[0]],[4,1,3],rfl,rfl,⟨(aY fun k=>if k=0 then q4.i 11 else 0),rfl,⟨by show -1<=q4.i 11;omega,aap 0⟩,zzT,zzT⟩,dp,H,D,_,_,rfl,rfl,hD,rfl,?_,rfl,?_⟩
 .show aE (cP [q4.h 2]) _ _;rw[aL,A1.h 2];exact hD1
 .refine⟨(q4.i 11).toNat,.pointer (az (q4.i 2) (q4.i 3)),x,q4.h 3,q4.h 9,?_,?_,?_,d1,d2,d3,?_⟩
  .show Value.pointer (az (q4.i 11) 0)=_;rw[au p4];rfl
  .rw[A1.i 2,A1.i 3,A1.h 3];exact hS
  .rw[g4.h 9];exact hI
  .show cP [Hl.one (q4.i 11).toNat (.cells #[.pointer (az (q4.i 2) (q4.i 3)),.pointer (az (q4.i 9) (q4.i 10))] 125 (0,0)),q4.h 3,q4.h 9]=_;rw[e9];rfl
structure Z3 where
 e:Int
 D:DM
 S:SM
 st:Nat->List Pc
open Classical in
noncomputable def bN (D:DM) (S:SM) (st:Nat->List Pc) (c:Pc):Z3 :=
 if bo st c≠0 then⟨bo st c,D,S,st⟩
 else if(cN D S [cy c]).e≠0 then⟨(cN D S [cy c]).e,(cN D S [cy c]).D,(cN D S [cy c]).S,st⟩
 else⟨0,(cN D S [cy c]).D,(cN D S [cy c]).S,cR st c⟩
set_option maxRecDepth 20000 in
def Q6 {a:Int} (f:Nat->Int) (hs:List (Nat×Hl)) (h:bg row pt):∃ q:Env,q.i 0=a/\row=(al 1 gR).map (CV.ev q)/\(∀ k,q.h k=AU hs k)/\(∀ k,133<=k->q.i k=f k):=by
 obtain⟨q,h0,hr,hh,_⟩:=De (a:=a) hs h;refine⟨⟨fun k=>if 133<=k then f k else q.i k,q.b,q.s,q.v,q.h⟩,h0,?_,hh,fun k hk=>aav hk⟩;rw[hr];have g:ai 133 q ⟨fun k=>if 133<=k then f k else q.i k,q.b,q.s,q.v,q.h⟩:=⟨fun k hk=>aan ah,fun _ _=>rfl,fun _ _=>rfl,fun _ _=>rfl,fun _ _=>rfl⟩;exact(aaD Array.toList (Value.agg.inj (fH (ks:=gR) (n:=1) g aA))).symm
def pw.congr (h:pw H x st) (e:∀ i,i<6->st i=st' i):pw H x st':=by
 obtain⟨a,sv,Kc,KB,h⟩:=h;refine⟨a,sv,Kc,KB,by rw[<-GV e];exact h.bd,fun i hi=>?_,h.le,h.bP,h.nox,fun i hi=>by rw[<-e i hi];exact h.row i hi,h.kb,h.kbx,h.kbc,h.own⟩;have:=h.ch i hi;unfold lS at this ⊢;rw[<-e i hi];exact this
def tO (e:∀ i,i<6->st i=st' i) (p:Pc) (hi:i<6):cR st p i=cR st' p i:=by
 unfold cR;rw[nF e p];split
 .unfold vH;split
  .rename_i h;subst h;rw[e _ hi]
  .exact e i hi
 .exact e i hi
noncomputable def zV (rt:Nat):Sx.Spec where
 fn:=30
 own:=[.arg 0,.link 0 0]
 rd:=[rt,1001125,2000000]
 res:=[.one (.int .i64)]
 pre:=fun xs Hs Rs=>∃ p H HD row T B RG g dp S D st c,xs=[p,.agg row.toArray]/\Hs=[H,HD]/\Rs=[T,B,RG]/\bZ H p dp S st/\aE HD dp D/\fP T B row c/\c.b.length<=2100/\ma st/\(Gl RG g/\uJ RG 5/\RG.cell 4 0=some yG)/\S.bA.length<=1048576/\0<=S.LA.serial/\S.recs.length<=1000000000
 post:=fun xs Hs Rs v Hs' F=>∃ p H HD row T B RG dp S D st c H' HD',xs=[p,.agg row.toArray]/\Hs=[H,HD]/\Rs=[T,B,RG]/\bZ H p dp S st/\aE HD dp D/\fP T B row c/\Hs'=[H',HD']/\bZ H' p dp (bN D S st c).S (bN D S st c).st/\aE HD' dp (bN D S st c).D/\v=.int .i64 (bN D S st c).e
def Kf:Nd:=(fun a i y q p a2 a6 h b6 a5 a4 t v a7 n o a0 a1 b5=>(fun b c d f g j k b4 r s u w z a8=>(fun l m x a3 a9 b0 b1 b2 b3=>(.ext (.alloc 142) (.ext (.alloc 143) (.and (.pre x) (.ext x (.and (.imp (.eq (.var 144) i) (.and (.pre (.call 1 145 [.sv y] [] w)) (.ext (.call 1 145 [.sv y] [] w) (.and (.e (.le (.vint 149) v)) (.and (.imp (.not (.eq (.vint 149) i)) (.and (.pre a9) (.ext a9 (.post [.bd 0 b 125,.hp 135 [] t h,.hp 136 [] n [],.hp 138 [] h [],.ro 139 q false,.ro 140 p true,.ro 141 a false,.dead,.dead,.hp 145 [] a4 []] (.sv (.one (.int .i64 (.var 150)))))))) (.imp (.eq (.vint 149) i) (.ext (.alloc 150) (.and (.pre l) (.ext l (.and (.imp (.eq (.var 151) i) (.and (.pre (.call 3 154 c u d)) (.ext (.call 3 154 c u d) (.and (.imp (.eq a5 i) (.and (.pre (.call 4 156 o [] z)) (.ext (.call 4 156 o [] z) (.post [.bd 0 b 125,.hp 151 [135] t h,.hp 154 [136] n [],.hp 152 [138] h [],.ro 139 q false,.ro 140 p true,.ro 141 a false,.dead,.dead,.hp 145 [] a4 [],.dead] (.sv (.one (.int .i64 (.var 156)))))))) (.imp (.not (.eq a5 i)) (.ext (.alloc 156) (.ext (.mki 157 164 (.one (.hptr (.var 156) i))) (.and (.e (.le (.vint 157) v)) (.ext (.mki 158 222 (.agg [.vr 157])) (.and (.pre r) (.ext r (.post [.bd 0 b 125,.hp 151 [135] t h,.hp 154 [136] n [],.hp 152 [138] h [],.ro 139 q false,.ro 140 p true,.ro 141 a false,.dead,.dead,.hp 145 [] a4 [],.dead,.dead] a0)))))))))))) (.imp (.not (.eq (.var 151) i)) (.ext (.alloc 154) (.ext (.mki 155 164 (.one (.hptr a5 i))) (.and (.e (.le (.vint 155) v)) (.ext (.mki 156 222 (.agg [.vr 155])) (.and (.e (.le (.vint 156) v)) (.and (.imp (.not (.eq (.vint 156) i)) (.and (.pre b0) (.ext b0 (.post [.bd 0 b 125,.hp 151 [135] t h,.hp 136 [] n [],.hp 152 [138] h [],.ro 139 q false,.ro 140 p true,.ro 141 a false,.dead,.dead,.hp 145 [] a4 [],.dead,.dead] (.sv (.one (.int .i64 a6))))))) (.imp (.eq (.vint 156) i) (.and (.pre a3) (.ext a3 (.and (.imp (.eq a6 i) (.and (.pre (.call 4 159 o [] j)) (.ext (.call 4 159 o [] j) (.post [.bd 0 b 125,.hp 151 [135] t h,.hp 157 [136] n [],.hp 152 [138] h [],.ro 139 q false,.ro 140 p true,.ro 141 a false,.dead,.dead,.hp 145 [] a4 [],.dead,.dead] a0)))) (.imp (.not (.eq a6 i)) (.ext (.alloc 159) (.ext a8 (.and (.e (.le (.vint 160) v)) (.ext b5 (.and (.pre g) (.ext g (.post [.bd 0 b 125,.hp 151 [135] t h,.hp 157 [136] n [],.hp 152 [138] h [],.ro 139 q false,.ro 140 p true,.ro 141 a false,.dead,.dead,.hp 145 [] a4 [],.dead,.dead,.dead] a1))))))))))))))))))))))))))))) (.imp (.not (.eq (.var 144) i)) (.ext (.alloc 145) (.ext (.mki 146 164 (.one (.hptr (.var 145) i))) (.and (.e (.le (.vint 146) v)) (.ext (.mki 147 222 (.agg [.vr 146])) (.and (.e (.le (.vint 147) v)) (.and (.imp (.not (.eq (.vint 147) i)) (.and (.pre b1) (.ext b1 (.post [.bd 0 b 125,.hp 135 [] t h,.hp 136 [] n [],.hp 138 [] h [],.ro 139 q false,.ro 140 p true,.ro 141 a false,.dead,.dead,.dead] (.sv (.one (.int .i64 (.var 148)))))))) (.imp (.eq (.vint 147) i) (.and (.pre (.call 1 148 [.sv y] [] w)) (.ext (.call 1 148 [.sv y] [] w) (.and (.e (.le (.vint 152) v)) (.and (.imp (.not (.eq (.vint 152) i)) (.and (.pre b2) (.ext b2 (.post [.bd 0 b 125,.hp 135 [] t h,.hp 136 [] n [],.hp 138 [] h [],.ro 139 q false,.ro 140 p true,.ro 141 a false,.dead,.dead,.dead,.hp 148 [] a7 []] (.sv (.one (.int .i64 (.var 153)))))))) (.imp (.eq (.vint 152) i) (.ext (.alloc 153) (.and (.pre m) (.ext m (.and (.imp (.eq a5 i) (.and (.pre a3) (.ext a3 (.and (.imp (.eq a6 i) (.and (.pre (.call 4 159 o [] f)) (.ext (.call 4 159 o [] f) (.post [.bd 0 b 125,.hp 154 [135] t h,.hp 157 [136] n [],.hp 155 [138] h [],.ro 139 q false,.ro 140 p true,.ro 141 a false,.dead,.dead,.dead,.hp 148 [] a7 [],.dead] a0)))) (.imp (.not (.eq a6 i)) (.ext (.alloc 159) (.ext a8 (.and (.e (.le (.vint 160) v)) (.ext b5 (.and (.pre g) (.ext g (.post [.bd 0 b 125,.hp 154 [135] t h,.hp 157 [136] n [],.hp 155 [138] h [],.ro 139 q false,.ro 140 p true,.ro 141 a false,.dead,.dead,.dead,.hp 148 [] a7 [],.dead,.dead] a1)))))))))))) (.imp (.not (.eq a5 i)) (.ext (.alloc 157) (.ext (.mki 158 164 (.one (.hptr a6 i))) (.and (.e (.le (.vint 158) v)) (.ext (.mki 159 222 (.agg [.vr 158])) (.and (.e (.le (.vint 159) v)) (.and (.imp (.not (.eq (.vint 159) i)) (.and (.pre b3) (.ext b3 (.post [.bd 0 b 125,.hp 154 [135] t h,.hp 136 [] n [],.hp 155 [138] h [],.ro 139 q false,.ro 140 p true,.ro 141 a false,.dead,.dead,.dead,.hp 148 [] a7 [],.dead,.dead] (.sv (.one (.int .i64 (.var 160)))))))) (.imp (.eq (.vint 159) i) (.and (.pre (.call 3 160 c u d)) (.ext (.call 3 160 c u d) (.and (.imp (.eq (.var 160) i) (.and (.pre (.call 4 162 o [] k)) (.ext (.call 4 162 o [] k) (.post [.bd 0 b 125,.hp 154 [135] t h,.hp 160 [136] n [],.hp 155 [138] h [],.ro 139 q false,.ro 140 p true,.ro 141 a false,.dead,.dead,.dead,.hp 148 [] a7 [],.dead,.dead] a1)))) (.imp (.not (.eq (.var 160) i)) (.ext (.alloc 162) (.ext (.mki 163 164 (.one (.hptr (.var 162) i))) (.and (.e (.le (.vint 163) v)) (.ext (.mki 164 222 (.agg [.vr 163])) (.and (.pre s) (.ext s (.post [.bd 0 b 125,.hp 154 [135] t h,.hp 160 [136] n [],.hp 155 [138] h [],.ro 139 q false,.ro 140 p true,.ro 141 a false,.dead,.dead,.dead,.hp 148 [] a7 [],.dead,.dead,.dead] (.sv (.one (.int .i64 (.var 165)))))))))))))))))))))))))))))))))))))))))))):Nd)) (.call 2 151 [.sv (.one (.hptr (.var 133) i)),.sv (.one (.sl (.var 150) i v v))] b4 [.bd 150 [.sl (.var 145) (.var 146) (.var 147) (.var 148)] 46,.hp 145 [] a4 [],.ro 141 a false]) (.call 2 154 [.sv (.one (.hptr (.var 133) i)),.sv (.one (.sl (.var 153) i v v))] b4 [.bd 153 [.sl (.var 148) (.var 149) (.var 150) (.var 151)] 46,.hp 148 [] a7 [],.ro 141 a false]) (.call 0 144 c [] [.hp 136 [] n [],.ro 139 q false,.ro 140 p true,.ro 141 a false]) (.call 3 157 c u d) (.call 4 150 [.sv (.one (.vr 149))] [] z) (.call 4 157 [.sv (.one (.vr 156))] [] j) (.call 4 148 [.sv (.one (.vr 147))] [] f) (.call 4 153 [.sv (.one (.vr 152))] [] f) (.call 4 160 [.sv (.one (.vr 159))] [] k)) [.hptr (.var 133) i,.hptr (.var 134) i] [.sv (.one (.hptr (.var 134) i)),.sv y] [.ro 139 q false,.ro 140 p true,.ro 141 a false] [.bd 145 [.str (.slit ⟨#[97,115,107]⟩),.int .i64 (.var 144)] 168,.ro 141 a false] (.call 4 162 [.sv (.one (.vr 161))] [] [.bd 159 [.str a2,.int .i64 a6] 168,.ro 141 a false]) [.bd 154 [.str b6,.int .i64 (.var 151)] 168,.ro 141 a false] [.bd 157 [.str b6,.int .i64 a5] 168,.ro 141 a false] [.hp 135 [] t h,.hp 138 [] h []] (.call 4 159 [.sv (.one (.vr 158))] [] [.bd 156 [.str a2,.int .i64 a5] 168,.ro 141 a false]) (.call 4 165 [.sv (.one (.vr 164))] [] [.bd 162 [.str a2,.int .i64 (.var 160)] 168,.ro 141 a false]) [.hp 136 [] n []] [.ro 139 q false,.ro 140 p true] [.dead,.ro 141 a false] (.mki 160 164 (.one (.hptr (.var 159) i)))) [.lit 0,.lit 1,.lit 2,.lit 3,.lit 4,.lit 5] (.lit 0) (.agg (al 1 yD)) [.var 54] [.var 129] (.slit ⟨#[112,117,116]⟩) (.var 157) [.var 137] (.slit ⟨#[97,100,100]⟩) (.var 154) [.var 145] [.var 133] (.lit 1) [.var 148] [.var 134] [.sv (.one (.val .nilIface))] (.sv (.one (.int .i64 (.var 159)))) (.sv (.one (.int .i64 (.var 162)))) (.mki 161 222 (.agg [.vr 160]))
noncomputable def XL:List Sx.Spec:=[yZ,xU,Gy,Bn,oM]
def UM:∀ t∈XL,t.OK Tryz.prog:=av ET <| av Im <| av Qc <| av EZ <| av vo <| bQ
def Zs:xU.res=[.one .sl,.one .any]:=rfl
def Zt:Gy.res=[.one (.int .i64)]:=rfl
def WO:Bn.res=[.one (.int .i64)]:=rfl
def WQ:oM.res=[.one (.int .i64)]:=rfl
def Zq (n:Nat):(aK n [Cp.one .sl,Cp.one .any]≠[])=True:=by simp [aK,Cp.roots,Ck.root]
def BT:Mem:=[.bd 0 [.hptr (.var 133) (.lit 0),.hptr (.var 134) (.lit 0)] 125,.hp 135 [] [.var 133] [.var 137],.hp 136 [] [.var 134] [],.hp 138 [] [.var 137] [],.ro 139 [.var 54] false,.ro 140 [.var 129] true,.ro 141 [.lit 0,.lit 1,.lit 2,.lit 3,.lit 4,.lit 5] false]
noncomputable def J0:aG Tryz.prog XL 30 where
 Λ:=aD
 args:=TP (.var 0) (.lit 0)::(bV 1 [.agg yD]).map .sv
 mem:=BT
 nv:=142
set_option maxRecDepth 20000 in
def Fy (rt:Nat):(zV rt).OK Tryz.prog:=by
 refine jV (Γ:=XL) UM ?_;rintro xs Hs Rs hl1 hl2 hdis ⟨p,H,HD,row,T,B,RG,g,dp,S,D,st,c,rfl,rfl,rfl,hR,hD,hx,hlen,hSh,⟨hGl,hK,hEt⟩,hb1,hb2,hb3⟩;obtain⟨r,ps,x,HS,HI,rfl,hIn⟩:=id hR;obtain⟨a,pa,pb,sl,HA,HB,HR,rfl,_⟩:=id hIn.so;obtain⟨da,s,m,es,clock,hdp,_⟩:=id hD;obtain⟨J,va,rfl,hh,hv⟩:=Q6 (a:=(r:Int)) (fun k=>if k=133 then(a:Int)else if k=134 then(x:Int)else da) [(135,HS),(136,HI),(138,HD),(139,T),(140,B),(141,RG)] hx.ok;have v3:J.i 133=a:=hv 133 ah;have v4:J.i 134=x:=hv 134 ah;have v7:J.i 137=da:=hv 137 ah;have w5:J.h 135=HS:=hh 135;have w6:J.h 136=HI:=hh 136;have w8:J.h 138=HD:=hh 138;have w9:J.h 139=T:=hh 139;have w0:J.h 140=B:=hh 140;have w1:J.h 141=RG:=hh 141;have eb:Hl.one (J.i 0).toNat (.cells #[.pointer (az (J.i 133) 0),.pointer (az (J.i 134) 0)] 125 (0,0))=WC r (.pointer (some ⟨a,0,none⟩)) x:=by
  rw[va,v3,v4,au ah,au ah];rfl
 obtain⟨l1,l2,l3⟩:=pO hIn.d1 hIn.d2 hIn.d3;rw[<-hIn.hl]at l1 l2 l3;refine⟨J0,J,fun _ _=>True,fun _ _=>0,?_,⟨?_,?_,?_,?_⟩,(fun _ h=>nomatch h),?_⟩
 .show [Value.pointer (az (J.i 0) 0),.agg ((al 1 gR).map (CV.ev J)).toArray]=_;rw[va,au ah];rfl
 .intro q hq ho;simp [J0,BT]at hq;rcases hq with rfl | rfl | rfl | rfl | rfl | rfl | rfl
  .exact⟨H,aF,by show(Hl.one (J.i 0).toNat (.cells #[.pointer (az (J.i 133) 0),.pointer (az (J.i 134) 0)] 125 (0,0))).le H;rw[eb];exact l1⟩
  .exact⟨H,aF,by show(J.h 135).le H;rw[w5];exact l2⟩
  .exact⟨H,aF,by show(J.h 136).le H;rw[w6];exact l3⟩
  .exact⟨HD,aF,by show(J.h 138).le HD;rw[w8];exact Hl.le_refl _⟩
  all_goals cases ho
 .intro q hq ho;simp [J0,BT]at hq;rcases hq with rfl | rfl | rfl | rfl | rfl | rfl | rfl
  .cases ho
  .cases ho
  .cases ho
  .cases ho
  .exact⟨T,aF,by show(J.h 139).le T;rw[w9];exact Hl.le_refl _⟩
  .exact⟨B,aF,by show(J.h 140).le B;rw[w0];exact Hl.le_refl _⟩
  .exact⟨RG,aF,by show(J.h 141).le RG;rw[w1];exact Hl.le_refl _⟩
 .have hHD:H.bP HD:=hdis 0 1 _ _ aA rfl rfl;have dle:∀ {A:Hl},A.le H->A.bP HD:=fun h b ⟨y,z⟩=>hHD b ⟨Hl.eJ h y,z⟩;show List.Pairwise _ BT;simp only[BT,List.pairwise_cons,aar,aaB,abe,forall_eq_or_imp,forall_eq,bD.own,bD.hl,List.Pairwise.nil,aat,aba,false_imp_iff,imp_true_iff,forall_const,aaC,abn,CV.ev,ak,aq,false_implies,implies_true];rw[eb,w5,w6,w8];exact⟨⟨hIn.d1,hIn.d2,dle l1⟩,⟨hIn.d3,dle l2⟩,dle l3⟩
 .intro q hq;simp [J0,BT]at hq;rcases hq with rfl | rfl | rfl | rfl | rfl | rfl | rfl
  .show 0<=J.i 0;rw[va];omega
  all_goals trivial
 refine aG.lit (x:=Kf) ?_;unfold Kf;simp only[go_sem,Nat.reduceAdd,XL,V9,Zs,Zt,WO,WQ,Zq];generalize hrow0:(al 1 gR).map (CV.ev J)=row at *;have V:∀ q:Env,ai 142 J q->(q.i 0=r/\q.i 133=a/\q.i 134=x/\q.i 137=da)/\(q.h 135=HS/\q.h 136=HI/\q.h 138=HD/\q.h 139=T/\q.h 140=B/\q.h 141=RG)/\(al 1 yD).map (CV.ev q)=row:=fun q g=>by
  refine⟨⟨by rw[g.i 0,va],by rw[g.i 133,v3],by rw[g.i 134,v4],by rw[g.i 137,v7]⟩,⟨by rw[g.h 135,w5],by rw[g.h 136,w6],by rw[g.h 138,w8],by rw[g.h 139,w9],by rw[g.h 140,w0],by rw[g.h 141,w1]⟩,?_⟩;rw[<-hrow0];exact aaD Array.toList (Value.agg.inj (fH (ks:=gR) (n:=1) g aA))
 have eP:∀ n:Nat,Value.pointer (az (n:Int) 0)=.pointer (some ⟨n,0,none⟩):=fun n=>gz n;have fin:∀ (q:Env) (ks ki kd:Nat) (vs vi vd:List Nat) (t:Mem) (e:E) (R:Z3),bN D S st c=R->ai 142 J q->iU (q.h ks) (.pointer (some ⟨a,0,none⟩)) dp R.S->pw (q.h ki) x R.st->aE (q.h kd) dp R.D->aB q e=R.e ->
  postOf (zV rt) [.pointer (some ⟨r,0,none⟩),.agg row.toArray] [H,HD] [T,B,RG] q (.bd 0 [.hptr (.var 133) (.lit 0),.hptr (.var 134) (.lit 0)] 125::.hp ks vs [.var 133] [.var 137]::.hp ki vi [.var 134] []::.hp kd vd [.var 137] []::t) (.sv (.one (.int .i64 e))):=by
  intro q ks ki kd vs vi vd t e R hR' g h1 h2 h3 h4 hdis;obtain⟨⟨k0,k1,k2,_⟩,_⟩:=V q g;have eb':Hl.one (q.i 0).toNat (.cells #[.pointer (az (q.i 133) 0),.pointer (az (q.i 134) 0)] 125 (0,0))=WC r (.pointer (some ⟨a,0,none⟩)) x:=by
   rw[k0,k1,k2,eP,eP];rfl
  have d1:(Hl.one (q.i 0).toNat (.cells #[.pointer (az (q.i 133) 0),.pointer (az (q.i 134) 0)] 125 (0,0))).bP (q.h ks):=hdis 0 1 _ _ aA rfl rfl rfl;have d2:(Hl.one (q.i 0).toNat (.cells #[.pointer (az (q.i 133) 0),.pointer (az (q.i 134) 0)] 125 (0,0))).bP (q.h ki):=hdis 0 2 _ _ aA rfl rfl rfl;have d3:(q.h ks).bP (q.h ki):=hdis 1 2 _ _ aA rfl rfl rfl;rw[eb']at d1 d2;subst hR';refine⟨[[0,1,2],[3]],[],rfl,rfl,⟨(aY fun _=>aB q e),rfl,zzT,zzT⟩,_,H,HD,row,T,B,RG,dp,S,D,st,c,_,_,rfl,rfl,rfl,hR,hD,hx,rfl,⟨r,_,x,q.h ks,q.h ki,rfl,h1,h2,d1,d2,d3,?_⟩,?_,by rw[<-h4];rfl⟩
  .rw[<-eb'];rfl
  .show aE (cP [q.h kd]) _ _;rw[aL];exact h3
 have nPre:∀ {R:Hl} {v:Value} {n:Int},pz R v n->oM.pre [v] [] [R,RG]:=fun h=>⟨_,_,RG,_,rfl,rfl,hEt,h⟩;have nRes:∀ {R:Hl} {v w:Value} {n:Int} {K:List Hl} {F:Hl},pz R v n->oM.post [v] [] [R,RG] w K F->w=.int .i64 n:=fun h hp=>by
  obtain⟨e,R',G',e1,e2,hq⟩:=hp;simp only[aag,aat]at e1 e2;obtain⟨rfl,rfl⟩:=e2;subst e1;exact hq _ h
 have met:∀ {v w:Value} {z n:Int} {s:ByteArray},0<=z->v=.iface 164 (.pointer (az z 0))->w=.iface 222 (.agg #[v])->pz (Hl.one z.toNat (.cells #[.string s,.int .i64 n] 168 (0,0))) w n:=fun hz e1 e2=>Or.inr ⟨_,_,by rw[e2,e1,au hz];rfl,Hl.aT _ _⟩;have vi1:∀ {q:Env} {n:Nat} {T:TypeId} {v:Value},q.v n=.iface T v->aB q (.vint n)=1:=fun h=>by rw[tI,h];rfl
 intro q0 g0 p0 q1 g1 p1;have G1:ai 142 J q1:=g0.tr g1;obtain⟨⟨k0,k1,k2,k3⟩,⟨u5,u6,u8,u9,u0,u1⟩,kr⟩:=V q1 G1;rw[k2,eP,kr,u6,u9,u0,u1];refine⟨⟨x,HI,st,_,T,B,RG,c,rfl,rfl,hIn.ix.rd,hSh,hx,ah,hK⟩,fun q2 g2 ⟨F2,hp2,_⟩=>?_⟩;have hask:q2.i 144=bo st c:=by simpa using hp2 _ _ _ _ _ _ _ _ rfl rfl hIn.ix.rd hx
 have G2:ai 142 J q2:=G1.tr g2;obtain⟨⟨m0,m1,m2,m3⟩,⟨n5,n6,n8,n9,n0,n1⟩,mr⟩:=V q2 G2;refine⟨fun heq=>?_,fun hne=>?_⟩
 .have h0:bo st c=0:=hask.symm.trans heq;rw[mr,n9,n0];refine⟨⟨_,T,B,c,rfl,rfl,hx,hlen⟩,fun q3 g3 ⟨F3,⟨u,hu,hrec⟩,hF3,hn3⟩=>?_⟩;simp only[Value.tuple.injEq,aaT,aag,aat]at hu;obtain⟨rfl,hu⟩:=hu;have hrec:=hrec _ _ _ _ rfl rfl hx;rw[<-hF3 zzT]at hrec;have hv0:aB q3 (.vint 149)=0:=by rw[tI,hu];rfl
  refine⟨ah,fun hne=>absurd hv0 hne,fun _ q4 g4 p4=>?_⟩;have G3:ai 142 J q3:=G2.tr g3;have G4:ai 142 J q4:=G3.tr g4;obtain⟨⟨y0,y1,y2,y3⟩,⟨z5,z6,z8,z9,z0,z1⟩,yr⟩:=V q4 G4;rw[y1,eP,z5,z8,z1,g4.i 145,g4.i 146,g4.i 147,g4.i 148,g4.h 145];have hrows:=vq (T:=46) p4 hrec;have hrl:=xS hx hlen;refine⟨⟨_,_,HS,HD,_,_,RG,g,dp,S,D,_,rfl,rfl,rfl,hIn.so,hD,hrows,hGl,aF,fun r hr=>by rw[aal.1 hr];omega,hb1,hb2,hb3⟩,fun q5 g5 ⟨F5,hp5,_⟩=>?_⟩;obtain⟨hD5,hS5,he⟩:=MT hIn.so hD hrows hp5;have he:q5.i 151=(cN D S [cy c]).e:=by simpa using he
  have G5:ai 142 J q5:=G4.tr g5;obtain⟨⟨s0,s1,s2,s3⟩,⟨t5,t6,t8,t9,t0,t1⟩,sr⟩:=V q5 G5;refine⟨fun h5=>?_,fun h5=>?_⟩
  .rw[s2,eP,sr,t6,t9,t0,t1];refine⟨⟨x,HI,st,_,T,B,RG,c,rfl,rfl,rfl,hIn.ix,hSh,hx,ah,hK⟩,fun q6 g6 ⟨F6,⟨x',H',st',row',T',B',RG',c',K',e1,e2,e3,i1,i2,e4,hv,hI6⟩,_⟩=>?_⟩;simp only[aag,aat,Value.pointer.injEq,aai,Addr.mk.injEq,Value.agg.injEq]at e1 e2 e3 e4;obtain⟨rfl,e1⟩:=e1;obtain⟨rfl,rfl,rfl⟩:=e3;have e1:=aaG e1;subst e1 e2 e4;obtain rfl:=hx.uniq i2;have est:∀ i,i<6->st i=st' i:=fun i hi=>hIn.ix.rd.st i1.rd hi;have hI6:pw (q6.h 154) x (cR st' c):=hI6;have h6:q6.i 154=0:=by
    have:q6.i 154=bo st' c:=by simpa using hv
    rw[this,<-nF est c,h0]
   have G6:ai 142 J q6:=G5.tr g6;obtain⟨_,⟨_,_,_,_,_,r1⟩,_⟩:=V q6 G6;rw[r1];refine⟨fun _=>⟨nPre (Or.inl ⟨rfl,rfl⟩),fun q7 g7 ⟨F7,hp7,_⟩=>?_⟩,fun hne=>absurd h6 hne⟩;have h7:q7.i 156=0:=by simpa using nRes (Or.inl ⟨rfl,rfl⟩) hp7
   refine fin q7 151 154 152 _ _ _ _ _ ⟨0,(cN D S [cy c]).D,(cN D S [cy c]).S,cR st c⟩ ?_ (G6.tr g7) ?_ ?_ ?_ h7
   .unfold bN;rw[aan (fun h=>h h0),aan (fun h=>h (he.symm.trans h5))]
   .rw[g7.h 151,g6.h 151];exact hS5
   .rw[g7.h 154];exact hI6.congr fun i hi=>(tO est c hi).symm
   .rw[g7.h 152,g6.h 152];exact hD5
  .intro q6 g6 p6 q7 g7 p7;refine⟨by rw[vi1 p7];omega,fun q8 g8 p8=>⟨by rw[vi1 p8];omega,fun _=>?_,fun h=>absurd ((vi1 p8).symm.trans h) aA⟩⟩;have G8:ai 142 J q8:=G5.trans (g6.mono.trans (g7.mono.tr g8));obtain⟨_,⟨_,_,_,_,_,r1⟩,_⟩:=V q8 G8;have hm:=met (s:={data:=#[97,100,100]}) (n:=q8.i 151) p6 p7 p8;have e154:q6.i 154=q8.i 154:=by rw[g8.i 154,g7.i 154]
   rw[e154]at hm;have e151:q7.i 151=q8.i 151:=(g8.i 151).symm;rw[r1];refine⟨nPre hm,fun q9 g9 ⟨F9,hp9,_⟩=>?_⟩;have h9:q9.i 157=q8.i 151:=by simpa using nRes hm hp9
   have hn5:(cN D S [cy c]).e≠0:=fun h=>h5 (he.trans h);have G9:ai 142 J q9:=G8.tr g9;have A9:ai 154 q5 q9:=g6.trans (g7.mono.trans (g8.mono.tr g9));refine fin q9 151 136 152 _ _ _ _ _ ⟨(cN D S [cy c]).e,(cN D S [cy c]).D,(cN D S [cy c]).S,st⟩ ?_ G9 ?_ ?_ ?_ ?_
   .unfold bN;rw[aan (fun h=>h h0),aav hn5]
   .rw[A9.h 151];exact hS5
   .rw[(V q9 G9).2.1.2.1];exact hIn.ix
   .rw[A9.h 152];exact hD5
   .exact h9.trans (e151.symm.trans ((by rw[g7.i 151,g6.i 151]:q7.i 151=q5.i 151).trans he))
 .have hn0:bo st c≠0:=fun h=>hne (hask.trans h);intro q3 g3 p3 q4 g4 p4;refine⟨by rw[vi1 p4];omega,fun q5 g5 p5=>⟨by rw[vi1 p5];omega,fun _=>?_,fun h=>absurd ((vi1 p5).symm.trans h) aA⟩⟩;have G5:ai 142 J q5:=G2.trans (g3.mono.trans (g4.mono.tr g5));obtain⟨_,⟨_,_,_,_,_,r1⟩,_⟩:=V q5 G5;have hm:=met (s:={data:=#[97,115,107]}) (n:=q5.i 144) p3 p4 p5;have e145:q3.i 145=q5.i 145:=by rw[g5.i 145,g4.i 145]
  rw[e145]at hm;rw[r1];refine⟨nPre hm,fun q6 g6 ⟨F6,hp6,_⟩=>?_⟩;have h6:q6.i 148=q5.i 144:=by simpa using nRes hm hp6
  have G6:ai 142 J q6:=G5.tr g6;obtain⟨_,⟨o5,o6,o8,_,_,_⟩,_⟩:=V q6 G6;refine fin q6 135 136 138 _ _ _ _ _ ⟨bo st c,D,S,st⟩ ?_ G6 (by rw[o5];exact hIn.so) (by rw[o6];exact hIn.ix) (by rw[o8];exact hD) ?_
  .unfold bN;rw[aav hn0]
  .exact h6.trans ((by rw[g5.i 144,g4.i 144,g3.i 144]:q5.i 144=q2.i 144).trans hask)
end Go.Proofs.YtomdimlnggpgbaaGreatDoor
namespace Go.Proofs.YtomdimlnggpgbaaGreatDoor
open Go Go.Sx Go.Pk
variable {R:Hl}{bs r:List Int}
section
variable {s:Sx.Spec} {xs:List Value} {Rs:List Hl} {q:Env} {mem:Mem}
def Ae {e:E} (hr:s.res=[.one .bool]) (h:s.post xs [] Rs (.bool (ba q e)) [] Hl.none):postOf s xs [] Rs q mem (.sv (.one (.bool e))):=fun _ =>
 ⟨[],[],rfl,rfl,⟨{Z0 with b:=fun _=>ba q e},by rw[hr];rfl,by rw[hr];exact⟨zzT,zzT⟩⟩,h⟩
def hr5 (f:FuncId):(fx f).res=[.one .sl]:=rfl
end
def L0 {u:Value} (h:fu R u r):bp (some u) .slice=true/\bm (some u) 2=r.length /\
 (bm (some u) 0= -1\/bm (some u) 2=0\/0<=bm (some u) 0/\0<=bm (some u) 1/\bG R (bm (some u) 0).toNat (bm (some u) 1).toNat (bm (some u) 2).toNat=true) /\
 ∀ [Decidable (bm (some u) 0= -1)],(if bm (some u) 0= -1 then(⟨#[]⟩:ByteArray)else bytesOf (fG R (bm (some u) 0).toNat (bm (some u) 1).toNat (bm (some u) 2).toNat))=bytesOf r:=by
 have h2:=Ru h;obtain⟨x,y,c,rfl,hy,h⟩:=h;refine⟨rfl,h2,?_⟩;rw[h2];rcases h with h | ⟨hx,hc⟩
 .subst h;refine⟨Or.inr (Or.inl rfl),?_⟩;intro _;show(if _ then(⟨#[]⟩:ByteArray)else bytesOf (fG R _ _ 0))=ByteArray.empty;split<;>rfl
 .rw[Vg ah,WX hx hy,aaa];refine⟨Or.inr (Or.inr ⟨hx,hy,cW hc (aaw _)⟩),?_⟩;intro _;rw[aan ah,og hc]
def lD {x y l c:Int} [Decidable (x= -1)] (h:fu R (.slice (az x y) l.toNat c.toNat) bs) (hy:0<=y) (hl:0<=l) :
 (x= -1\/l=0\/0<=x/\0<=y/\bG R x.toNat y.toNat l.toNat=true)/\(if x= -1 then(⟨#[]⟩:ByteArray)else bytesOf (fG R x.toNat y.toNat l.toNat))=bytesOf bs:=by
 obtain⟨x',y',c',he,hy',h⟩:=h;simp only[Value.slice.injEq]at he;obtain⟨hp,he,_⟩:=he;rcases h with rfl | ⟨h0,h⟩
 .have e:l=0:=by
   have:=he;simp at this;omega
  subst e;refine⟨Or.inr (Or.inl rfl),?_⟩;split<;>rfl
 .obtain⟨rfl,rfl⟩:=oQ h0 hy' hy hp;refine⟨Or.inr (Or.inr ⟨h0,hy,cW h ah⟩),?_⟩;rw[aan ah,he,og h]
def kS:Sx.Spec where
 fn:=63
 own:=[]
 rd:=[0]
 res:=[.one .sl]
 pre:=fun xs Hs Rs=>∃ v R rows,xs=[v]/\Rs=[R]/\bj R v pt rows/\rows.length<=100000
 post:=fun xs Hs Rs v' Hs' F=>∀ v R rows,xs=[v]->Rs=[R]->bj R v pt rows->bj F v' ef (rows.map (List.take 125))
def BP:aG Tryz.prog [] kS.fn where
 Λ:=fun p=>if Oa p then some ⟨0,[(4,TI .i64 (.var 50)),(3,.sv (.one (.sl (.var 51) (.lit 0) (.var 52) (.var 53))))],[(1,.hp 54 [] [.var 51] [])],60⟩else none
 args:=[.sv (.one (.sl (.var 0) (.var 1) (.var 2) (.var 3)))]
 mem:=[.ro 4 [.var 0] true]
 nv:=5
def ug:kS.OK Tryz.prog:=by
 refine Spec.aS (Γ:=[]) (fun _ h=>by cases h) ?_;rintro xs Hs Rs hl1 hl2 ⟨v,R,rows,rfl,rfl,hR,hlen⟩;have e0:Hs=[]:=aad.1 hl1;subst e0;obtain⟨x,y,c,rfl,hy,_⟩:=id hR;refine⟨BP,aO [x,y,rows.length,c] false [Hl.none,Hl.none,Hl.none,Hl.none,R],fun _ q=>∃ k:Nat,q.i 50=k/\k<=rows.length/\ -1<=q.i 51/\q.i 52=k/\0<=q.i 53/\sY (q.h 54) 65 ef (.slice (az (q.i 51) 0) (q.i 52).toNat (q.i 53).toNat) ((rows.take k).map (List.take 125)),fun _ q=>(rows.length-q.i 50).toNat,?_,cO (by intro r hr;simp [BP]at hr;subst hr;exact⟨_,_,_,rfl⟩) rfl,(fun _ h=>nomatch h),?_⟩
 .show [Value.slice (az x y) ((rows.length:Int)).toNat ((c:Int)).toNat]=_;rw[aaa,aaa]
 refine aG.read [] [ef] [] ?_;generalize hρ:aO [x,y,rows.length,c] false [Hl.none,Hl.none,Hl.none,Hl.none,R]=J;have V:∀ q:Env,ai 5 J q->q.i 0=x/\q.i 1=y/\q.i 2=rows.length/\q.h 4=R:=fun q hg=>by
  rw[hg.i 0,hg.i 1,hg.i 2,hg.h 4,<-hρ];exact⟨rfl,rfl,rfl,rfl⟩
 clear hρ;simp only[go_sem,Nat.reduceAdd];refine⟨⟨0,rfl,abi _,aap _,rfl,aap _,sY.nil _ _ _⟩,fun q g ⟨k,ek,hk,x51,e52,x53,ho⟩=>?_⟩;obtain⟨v0,v1,v2,w4⟩:=V q g;rw[v0,v1,v2,w4,ek];refine⟨ah,fun hlt=>?_,fun hge=>?_⟩
 .have hx0:0<=x:=by
   obtain⟨x',y',c',he,hy',hh⟩:=id hR;rcases hh with h | ⟨h,_⟩
   .rw[h]at hlt;simp at hlt;omega
   .simp only[Value.slice.injEq]at he;obtain⟨e1,_⟩:=oQ h hy' hy he.1;omega
  have hR':bj R (.slice (az x y) ((rows.length:Int)).toNat ((c:Int)).toNat) pt rows:=by rw[aaa,aaa];exact hR
  obtain⟨_,hat⟩:=hR'.at ah hy ah;have hr:rows[k]?=some rows[k]:=aab ah;obtain⟨_,rok,cells⟩:=hat k _ hr;have ho':=jy (n:=125) rok;rw[zT]at ho';have hc:∀ i u,(rows[k].take 125)[i]?=some u->R.cell x.toNat ((y+(k:Int)*126).toNat+i)=some u:=fun i u hu=>by
   rw[aaX]at hu;split at hu
   .have:=cells i u hu;rw[kE]at this;rw[show(y+(k:Int)*126).toNat=y.toNat+k*126 by omega];exact this
   .cases hu
  have hc':∀ i u,rows[k][i]?=some u->R.cell x.toNat ((y+(k:Int)*126).toNat+i)=some u:=fun i u hu=>by
   have:=cells i u hu;rw[kE]at this;rw[show(y+(k:Int)*126).toNat=y.toNat+k*126 by omega];exact this
  refine⟨hx0,hy,ah,lJ _ ho' hc,fun q1 g1 _=>?_⟩;have G1:ai 5 J q1:=g.tr g1;obtain⟨u0,u1,u2,z4⟩:=V q1 G1;have er:List.map (CV.ev q1) (aU 4 (.var 0) (.add (.var 1) (.mul (.var 50) (.lit 126))) 0 ef)=rows[k].take 125:=fa _ ef 0 ho' fun i u hu=>by
   show(q1.h 4).cell (q1.i 0).toNat ((q1.i 1+q1.i 50*126).toNat+(0+i))=some u;rw[u0,u1,z4,g1.i 50,ek,aaI];exact hc i u hu
  rw[er,g1.i 51,g1.i 52,g1.i 53,g1.h 54];have hl52:q.i 52=((rows.take k).map (List.take 125)).length:=by rw[aaz,aaA,e52];omega
  refine⟨⟨⟨_,ho.pre hl52⟩,ah,by unfold maxLen;omega,ah⟩,fun q2 g2 ⟨a1,a2,happ,_⟩=>?_⟩;have ha:=ho.app hl52 ho' happ;refine⟨⟨k+1,?_,ah,a1,?_,a2,?_⟩,?_⟩
  .show IntKind.i64.wrap (q2.i 50+1)=_;rw[g2.i 50,g1.i 50,ek];exact wrap_i64 ah ah
  .show q2.i 52+1=_;rw[g2.i 52,g1.i 52,e52];rfl
  .show sY (q2.h 61) _ ef (.slice (az (q2.i 61) 0) (q2.i 52+1).toNat (q2.i 62).toNat) _;rw[g2.i 52,g1.i 52,abx,hr,abN,aaM];exact ha
  .show((rows.length:Int)-IntKind.i64.wrap (q2.i 50+1)).toNat<_;rw[g2.i 50,g1.i 50,ek,wrap_i64 ah ah];omega
 .have:k=rows.length:=ah;subst this;rw[abk]at ho;intro _;refine⟨[],[1],rfl,rfl,⟨(aY fun j=>[q.i 51,0,q.i 52,q.i 53].getD j 0),rfl,⟨x51,aap _,by show 0<=q.i 52;omega,x53⟩,zzT⟩,fun v' R' rows' e1 e2 hR'=>?_⟩;simp only[aag,aat]at e1 e2;subst e1 e2;obtain rfl:=hR.uniq hR';show bj (cP [q.h 54]) _ _ _;rw[aL];exact ho.rd
end Go.Proofs.YtomdimlnggpgbaaGreatDoor
namespace Go.Sx
open Go
def ti:∀ (ns:List Int) (r:ByteArray),(ns.foldl (fun r n=>r.push (UInt8.ofNat n.toNat)) r).data.toList=r.data.toList++ns.map fun n=>UInt8.ofNat n.toNat
 | [],r=>aF
 | n::ns,r=>by
  rw[acD,ti ns];show(r.data.push _).toList++_=_;rw[Array.toList_push,aax];rfl
def Ee:∀ {a b:List Int},(∀ z∈a,0<=z/\z<256)->(∀ z∈b,0<=z/\z<256)->bytesOf a=bytesOf b->a=b:=by
 have key:∀ (a b:List Int),(∀ z∈a,0<=z/\z<256)->(∀ z∈b,0<=z/\z<256)->(a.map fun n=>UInt8.ofNat n.toNat)=(b.map fun n=>UInt8.ofNat n.toNat)->a=b:=by
  intro a
  induction a with
  | nil=>intro b _ _ h;cases b with
   | nil=>rfl
   | cons y b=>cases h
  | cons x a ih =>
   intro b ha hb h;cases b with
   | nil=>cases h
   | cons y b =>
    rw[aaC,aaC,aag]at h;have hx:=ha x (aaJ ..);have hy:=hb y (aaJ ..);have e:=aaD UInt8.toNat h.1;rw[UInt8.toNat_ofNat',UInt8.toNat_ofNat']at e;have:x=y:=ah;subst this;rw[ih b (fun z h=>ha z (aas _ h)) (fun z h=>hb z (aas _ h)) h.2]
 intro a b ha hb h;have:=aaD (fun x:ByteArray=>x.data.toList) h;unfold bytesOf at this;simp only[ti]at this;exact key a b ha hb (by simpa using this)
end Go.Sx
namespace Go.Proofs.YtomdimlnggpgbaaGreatDoor
open Go Go.Sx Go.Pk
variable {B G G' H K KB R R' T:Hl}{ks:List Ck}{row:List Value}{c c1 g i k n n1 x y:Nat}{st:Nat->List Pc}{sv:Nat->Value}{p:Pc}{P:Program}{s:Sx.Spec}
def Pd {x y:Int} {rows:List (List Value)} (h:bj R (.slice (az x y) n c) ef rows) (hy:0<=y) (hk:rows[k]?=some row) :
 0<=x/\wP R x.toNat (y+(k:Int)*125).toNat ef=true/\∀ {q:Env} {g:Nat} {a b:E},q.h g=R->aB q a=x->aB q b=y+(k:Int)*125->(aU g a b 0 ef).map (CV.ev q)=row:=by
 obtain⟨x1,y1,c1,he,hy1,hr⟩:=h;simp only[Value.slice.injEq]at he;rcases hr with rfl | ⟨hx1,hr⟩
 .simp at hk
 obtain⟨e1,e2⟩:=oQ hx1 hy1 hy he.1;subst e1 e2;obtain⟨ro,h2⟩:=hr k _ hk;have e:(y+(k:Int)*125).toNat=y.toNat+k*ef.length:=by rw[show ef.length=125 from rfl];omega
 have hc:∀ i u,row[i]?=some u->R.cell x.toNat ((y+(k:Int)*125).toNat+i)=some u:=fun i u hu=>by rw[e];exact h2 i u hu
 refine⟨hx1,lJ _ ro hc,fun {q g a b} hg ha hb=>fa row ef 0 ro fun i u hu=>?_⟩;rw[hg,ha,hb,aaI];exact hc i u hu
def Al:Sx.Spec where
 fn:=101
 own:=[]
 rd:=[0,100,2000003]
 res:=[.agg (List.replicate 32 (Ck.int .u8))]
 pre:=fun xs Hs Rs=>∃ v R T RG rows hs,xs=[v]/\Rs=[R,T,RG]/\bj R v ef rows/\gD T rows hs/\rows.length<=100000/\uJ RG 3
 post:=fun xs Hs Rs v' Hs' F=>∀ v R T RG rows hs,xs=[v]->Rs=[R,T,RG]->bj R v ef rows->gD T rows hs->v'=.agg (aM (jr hs)).toArray
noncomputable def XN:List Sx.Spec:=[XF]
def Zv:XF.res=[.agg (List.replicate 32 (Ck.int .u8))]:=rfl
noncomputable def SD:aG Tryz.prog XN Al.fn where
 Λ:=aD
 args:=[.sv (.one (.sl (.var 0) (.var 1) (.var 2) (.var 3)))]
 mem:=[.ro 4 [.var 0] false,.ro 5 [] true,.ro 6 [.lit 3] false]
 nv:=7
def BC {q:Env} (h:QW ks=true):dZ n [.agg ks] q:=⟨cm _ _ _ h,zzT⟩
def FR:Al.OK Tryz.prog:=by
 refine Spec.aS (Γ:=XN) (fun t ht=>by rw[XN,aal]at ht;subst ht;exact UC) ?_;rintro xs Hs Rs hl1 hl2 ⟨v,R,T,RG,rows,hs,rfl,rfl,hR,hA,hlen,hK⟩;have e0:Hs=[]:=aad.1 hl1;subst e0;obtain⟨x,y,c,rfl,hy,_⟩:=id hR;refine⟨SD,aO [x,y,rows.length,c] false [Hl.none,Hl.none,Hl.none,Hl.none,R,T,RG],fun _ _=>True,fun _ _=>0,?_,cO (by intro r hr;simp [SD]at hr;rcases hr with rfl | rfl | rfl<;>exact⟨_,_,_,rfl⟩) rfl,(fun _ h=>nomatch h),?_⟩
 .show [Value.slice (az x y) ((rows.length:Int)).toNat ((c:Int)).toNat]=_;rw[aaa,aaa]
 refine aG.read [] [ef] [] ?_;generalize hρ:aO [x,y,rows.length,c] false [Hl.none,Hl.none,Hl.none,Hl.none,R,T,RG]=J;have V:∀ q:Env,ai 7 J q->q.i 0=x/\q.i 1=y/\q.i 2=rows.length/\q.h 4=R/\q.h 5=T/\q.h 6=RG:=fun q hg=>by
  rw[hg.i 0,hg.i 1,hg.i 2,hg.h 4,hg.h 5,hg.h 6,<-hρ];exact⟨rfl,rfl,rfl,rfl,rfl,rfl⟩
 clear hρ;have out:∀ {v'},v'=Value.agg (aM (jr hs)).toArray->∀ F,Al.post [.slice (az x y) rows.length c] [] [R,T,RG] v' [] F:=fun {v'} hv F v2 R' T' RG' rows' hs' e1 e2 h1 h2=>by
  simp only[aag,aat]at e1 e2;obtain⟨rfl,rfl,rfl⟩:=e2;subst e1;obtain rfl:=hR.uniq h1;rw[hA.uniq h2]at hv;exact hv
 simp only[go_sem,Nat.reduceAdd,XN,Zv];intro q1 g1 _;obtain⟨v0,v1,v2,w4,w5,w6⟩:=V q1 g1;rw[v0,v1,v2,w4,w5,w6];refine⟨ah,fun h0 _=>?_,fun hne=>?_⟩
 .have:hs=[]:=aad.1 (by have:=hA.1;omega);refine⟨[],[],rfl,rfl,⟨(aY fun _=>0),rfl,BC rfl⟩,out ?_ _⟩;subst this;rfl
 .have hw:IntKind.i64.wrap ((rows.length:Int)-1)=((rows.length-1:Nat):Int):=by rw[IntKind.wrap_i64];omega
  obtain⟨row,hr⟩:∃ row,rows[rows.length-1]?=some row:=⟨_,aab ah⟩;obtain⟨h,hh⟩:∃ h,hs[rows.length-1]?=some h:=⟨_,aab (by have:=hA.1;omega)⟩;obtain⟨hx0,hri,hrc⟩:=Pd hR hy hr;have hI:=hA.2 _ _ _ hr hh;have er:=hrc (q:=q1) (g:=4) (a:=.var 0) (b:=(E.var 1).add ((E.wrap .i64 ((E.var 2).sub (.lit 1))).mul (.lit 125))) w4 v0 (by
   show q1.i 1+IntKind.i64.wrap (q1.i 2-1)*125=_;rw[v1,v2,hw])
  rw[er,hw];refine⟨hx0,hy,ah,ah,hri,⟨_,T,RG,h,rfl,rfl,hI,hK⟩,fun q2 g2 ⟨F,hp,_⟩ _=>?_⟩;have hp:=hp _ _ _ _ rfl rfl hI;have et:jr hs=nq h:=by
   unfold jr;have:hs.getLast?=some h:=by rw[List.getLast?_eq_getElem?,<-hA.1];exact hh
   rw[this]
  rw[<-et]at hp;refine⟨[],[],rfl,rfl,⟨(aY fun k=>q2.i (k+8)),rfl,BC rfl⟩,out hp _⟩
def Pe (f:Nat->Int) (hs:List (Nat×Hl)) (h:bg row (ks.map kc)):∃ q:Env,row=(al 0 ks).map (CV.ev q)/\(∀ k,q.h k=AU hs k)/\(∀ k,aW ks<=k->q.i k=f k):=by
 obtain⟨q,hr,_,hh⟩:=um (ks:=ks) hs h;refine⟨⟨fun k=>if aW ks<=k then f k else q.i k,q.b,q.s,q.v,q.h⟩,?_,hh,fun k hk=>aav hk⟩;rw[hr];have g:ai (aW ks) q ⟨fun k=>if aW ks<=k then f k else q.i k,q.b,q.s,q.v,q.h⟩:=⟨fun k hk=>aan ah,fun _ _=>rfl,fun _ _=>rfl,fun _ _=>rfl,fun _ _=>rfl⟩;exact(aaD Array.toList (Value.agg.inj (fH (ks:=ks) (n:=0) g ah))).symm
noncomputable def FC:Sx.Spec where
 fn:=66
 own:=[]
 rd:=[1,100,10253,2000003]
 res:=[.one (.int .i64)]
 pre:=fun xs Hs Rs=>∃ w v row R T T2 RG rows hs h,xs=[.int .i64 w,v,.agg row.toArray]/\Rs=[R,T,T2,RG]/\bj R v ef rows/\gD T rows hs/\(∀ g∈hs,g.Form)/\bM T2 row h/\rows.length<=100000/\uJ RG 3
 post:=fun xs Hs Rs v' Hs' F=>∀ w v row R T T2 RG rows hs h,xs=[.int .i64 w,v,.agg row.toArray]->Rs=[R,T,T2,RG]->bj R v ef rows->gD T rows hs->bM T2 row h->v'=.int .i64 (gG w hs h)
noncomputable def XI:List Sx.Spec:=[gM 65,Al,fx 71]
def Zi:Al.res=[.agg (List.replicate 32 (Ck.int .u8))]:=rfl
noncomputable def Sz:aG Tryz.prog XI FC.fn where
 Λ:=aD
 args:=TI .i64 (.var 129)::.sv (.one (.sl (.var 130) (.var 131) (.var 132) (.var 133)))::(bV 0 [.agg bT]).map .sv
 mem:=[.ro 134 [.var 130] false,.ro 135 [] true,.ro 136 [.var 53] false,.ro 137 [.lit 3] false]
 nv:=138
open Classical in
set_option maxRecDepth 20000 in
def OT:FC.OK Tryz.prog:=by
 refine Spec.aS (Γ:=XI) (fun t ht=>?_) ?_
 .simp only[XI,aar,aaB,abe]at ht;rcases ht with rfl | rfl | rfl
  .exact vk
  .exact FR
  .exact uf
 rintro xs Hs Rs hl1 hl2 ⟨w,v,row,R,T,T2,RG,rows,hs,h,rfl,rfl,hR,hA,hFs,hx,hlen,hK⟩;have e0:Hs=[]:=aad.1 hl1;subst e0;obtain⟨x,y,c,rfl,hy,_⟩:=id hR;obtain⟨J,hrow0,hh,hv⟩:=Pe (ks:=bT) (fun k=>[w,x,y,rows.length,c].getD (k-129) 0) [(134,R),(135,T),(136,T2),(137,RG)] hx.ok;have hc2:aW bT<=129:=by decide
 have v9:J.i 129=w:=hv 129 ah;have v0:J.i 130=x:=hv 130 ah;have v1:J.i 131=y:=hv 131 ah;have v2:J.i 132=rows.length:=hv 132 ah;have v3:J.i 133=c:=hv 133 ah;have w4:J.h 134=R:=hh 134;have w5:J.h 135=T:=hh 135;have w6:J.h 136=T2:=hh 136;have w7:J.h 137=RG:=hh 137;refine⟨Sz,J,fun _ _=>True,fun _ _=>0,?_,cO (by intro r hr;simp [Sz]at hr;rcases hr with rfl | rfl | rfl | rfl<;>exact⟨_,_,_,rfl⟩) (by show [J.h 134,J.h 135,J.h 136,J.h 137]=_;rw[w4,w5,w6,w7]),(fun _ h=>nomatch h),?_⟩
 .show [Value.int .i64 (J.i 129),.slice (az (J.i 130) (J.i 131)) (J.i 132).toNat (J.i 133).toNat,.agg ((al 0 bT).map (CV.ev J)).toArray]=_;rw[v9,v0,v1,v2,v3,<-hrow0,aaa,aaa]
 refine aG.read [bT] [ef] [] ?_;simp only[go_sem,Nat.reduceAdd,XI,Ti,Zi,hr5,Gw];have V:∀ q:Env,ai 138 J q->(q.i 129=w/\q.i 130=x/\q.i 131=y/\q.i 132=rows.length)/\(q.h 134=R/\q.h 135=T/\q.h 136=T2/\q.h 137=RG)/\(al 0 bT).map (CV.ev q)=row/\q.i 0=J.i 0/\q.i 1=J.i 1/\im q 2=im J 2/\Value.slice (az (q.i 130) (q.i 131)) (q.i 132).toNat (q.i 133).toNat=.slice (az x y) rows.length c:=fun q g=>by
  refine⟨⟨by rw[g.i 129,v9],by rw[g.i 130,v0],by rw[g.i 131,v1],by rw[g.i 132,v2]⟩,⟨by rw[g.h 134,w4],by rw[g.h 135,w5],by rw[g.h 136,w6],by rw[g.h 137,w7]⟩,?_,g.i 0,g.i 1,Dz g ah,?_⟩
  .rw[hrow0];exact aaD Array.toList (Value.agg.inj (fH (ks:=bT) (n:=0) g aA))
  .rw[g.i 130,g.i 131,g.i 132,g.i 133,v0,v1,v2,v3,aaa,aaa]
 have out:∀ {q:Env} {mem:Mem} {e:E},aB q e=gG w hs h->postOf FC [.int .i64 w,.slice (az x y) rows.length c,.agg row.toArray] [] [R,T,T2,RG] q mem (.sv (.one (.int .i64 e))):=fun {q mem e} he =>
  nD rfl he fun F w' v' row' R' T' T2' RG' rows' hs' h' e1 e2 hR' hA' hx'=>by
   simp only[aag,aat,Value.int.injEq,aaY,Value.agg.injEq]at e1 e2;obtain⟨rfl,rfl,e1⟩:=e1;obtain⟨rfl,rfl,rfl,rfl⟩:=e2;have e1:=aaG e1;subst e1;obtain rfl:=hR.uniq hR';obtain rfl:=hA.uniq hA';rw[hx.uniq hx']
 have h0:cI h.c 0=J.i 0:=by
  have e1:cI h.c 0=cI row 0:=hx.I aA;rw[e1,hrow0];rfl
 have h1:cI h.c 1=J.i 1:=by
  have e1:cI h.c 1=cI row 1:=hx.I aA;rw[e1,hrow0];rfl
 have h2:aV h.c 2 32=im J 2:=by
  have:aV h.c 2 32=aV row 2 32:=by
   unfold aV;refine aa2 fun j hj=>hx.I ?_;have:=aaO.1 hj;omega
  rw[this,hrow0];rfl
 have hlr:rows.length=hs.length:=hA.1;intro q1 g1 p1;obtain⟨_,⟨_,_,x6,_⟩,xr,_⟩:=V q1 g1;rw[xr,x6];refine⟨⟨_,T2,h,rfl,rfl,hx⟩,fun q2 g2 ⟨F2,hp2,_⟩=>?_⟩;have G2:ai 138 J q2:=g1.tr g2;have hb2:q2.b 139=decide h.Form:=Value.bool.inj (lh hx hp2);obtain⟨⟨y9,y0,y1,y2⟩,⟨y4,y5,y6,y7⟩,yr,yi0,yi1,ys,ysl⟩:=V q2 G2;refine⟨fun hb=>?_,fun hb=>out ?_⟩
 rotate_left
 .have hF:¬h.Form:=by rw[hb2]at hb;simpa using hb
  unfold gG;rw[aav (Or.inl hF)];rfl
 have hF:h.Form:=by rw[hb2]at hb;simpa using hb
 have hseq:1<=cI h.c 1/\cI h.c 1<=1048576:=hF.1.2.1;rw[h1]at hseq;rw[ysl,yi0,yi1,y9,y0,y1,y2,y4,y5];have wl:IntKind.u64.wrap (rows.length:Int)=rows.length:=by rw[IntKind.wrap_u64];omega
 have ws:IntKind.u64.wrap (J.i 1-1)=(((J.i 1-1).toNat:Nat):Int):=by rw[IntKind.wrap_u64];omega
 refine⟨fun hne=>out ?_,fun heq=>⟨ah,fun hle=>?_,fun hgt=>?_⟩⟩
 .unfold gG;rw[aav (Or.inr (by rw[h0];exact hne))];rfl
 .have hn1:¬(¬h.Form\/cI h.c 0≠w):=by rw[h0];exact fun hh=>hh.elim (fun g=>g hF) (fun g=>g heq)
  rw[wl]at hle;have hk:(J.i 1-1).toNat<rows.length:=ah;obtain⟨row',hr⟩:∃ row',rows[(J.i 1-1).toNat]?=some row':=⟨_,aab hk⟩;obtain⟨h',hh'⟩:∃ h',hs[(J.i 1-1).toNat]?=some h':=⟨_,aab ah⟩;obtain⟨hx0,hri,hrc⟩:=Pd hR hy hr;have hI:=hA.2 _ _ _ hr hh';have er:=hrc (q:=q2) (g:=134) (a:=.var 130) (b:=(E.var 131).add ((E.wrap .u64 ((E.var 1).sub (.lit 1))).mul (.lit 125))) y4 y0 (by
   show q2.i 131+IntKind.u64.wrap (q2.i 1-1)*125=_;rw[y1,yi1,ws])
  rw[er,ws];refine⟨hx0,hy,ah,hri,⟨_,T,h',rfl,rfl,hI⟩,fun q3 g3 ⟨F3,hp3,hF3,hn3⟩=>?_⟩;have B3:=mh hI hp3;rw[<-hF3 zzT]at B3;have n3:-1<=q3.i 140/\0<=q3.i 141/\0<=q3.i 142/\0<=q3.i 143:=hn3.1;have G3:ai 138 J q3:=G2.tr g3;obtain⟨_,⟨_,_,z6,_⟩,zr,_⟩:=V q3 G3;rw[zr,z6];refine⟨(lD B3.rd.w n3.2.1 n3.2.2.1).1,⟨_,T2,h,rfl,rfl,hx⟩,fun q4 g4 ⟨F4,hp4,hF4,hn4⟩=>?_⟩;have B4:=mh hx hp4;rw[<-hF4 zzT]at B4;have n4:-1<=q4.i 144/\0<=q4.i 145/\0<=q4.i 146/\0<=q4.i 147:=hn4.1;have B3':bO (q4.h 140) 5 (.slice (az (q4.i 140) (q4.i 141)) (q4.i 142).toNat (q4.i 143).toNat) (bc h'):=by
   rw[g4.h 140,g4.i 140,g4.i 141,g4.i 142,g4.i 143];exact B3
  have t3:=lD B3'.rd.w (by rw[g4.i 141];exact n3.2.1) (by rw[g4.i 142];exact n3.2.2.1);have t4:=lD B4.rd.w n4.2.1 n4.2.2.1;rw[t3.2,t4.2];have key:(hs[(cI h.c 1-1).toNat]?=some h)↔bytesOf (bc h')=bytesOf (bc h):=by
   rw[h1,hh',aai];refine⟨fun e=>by rw[e],fun e=>?_⟩;have e:=Ee (MU hI).1 (MU hx).1 e;exact(Cy hI hx (hFs _ (aae hh')) hF).1 e
  refine⟨t4.1,fun he=>out ?_,fun he=>out ?_⟩
  .unfold gG;rw[aan hn1,aav (by rw[h1];omega),aav (key.2 he)];rfl
  .unfold gG;rw[aan hn1,aav (by rw[h1];omega),aan (fun g=>he (key.1 g))];rfl
 .have hn1:¬(¬h.Form\/cI h.c 0≠w):=by rw[h0];exact fun hh=>hh.elim (fun g=>g hF) (fun g=>g heq)
  rw[wl]at hgt ⊢;have wl2:IntKind.u64.wrap ((rows.length:Int)+1)=(rows.length:Int)+1:=by rw[IntKind.wrap_u64];omega
  have Ho:¬cI h.c 1<=hs.length:=by rw[h1];omega
  rw[wl2,y7];refine⟨fun hlt=>out ?_,fun hge=>⟨⟨_,R,T,RG,rows,hs,rfl,rfl,hR,hA,hlen,hK⟩,fun q3 g3 ⟨F3,hp3,_⟩=>?_⟩⟩
  .unfold gG;rw[aan hn1,aan Ho,aav (by rw[h1];omega)];rfl
  have hp3:=hp3 _ _ _ _ _ _ rfl rfl hR hA;have hp3:im q3 140=jr hs:=by
   have hp:Value.agg (aM (im q3 140)).toArray=.agg (aM (jr hs)).toArray:=hp3;exact ky (aaD Array.toList (Value.agg.inj hp))
  have G3:ai 138 J q3:=G2.tr g3;obtain⟨_,_,_,_,_,zs,_⟩:=V q3 G3;have hge':¬((hs.length:Int)+1<cI h.c 1):=by rw[h1];omega
  have key:=Iv q3 q3 2 140;rw[hp3,zs,<-h2]at key;refine⟨fun hne=>out ?_,fun heq=>out ?_⟩
  .have hne:¬aV h.c 2 32=jr hs:=fun g=>hne (key.1 g);unfold gG;rw[aan hn1,aan Ho,aan hge',aav hne];rfl
  .have heq:aV h.c 2 32=jr hs:=key.2 heq;unfold gG;rw[aan hn1,aan Ho,aan hge',aan (fun g=>g heq)];rfl
def IT (s:Sx.Spec) (rd:List Nat):Sx.Spec:={s with rd:=rd,pre:=fun xs Hs Rs=>∀ U:Hl,(∀ R∈Rs,R.le U)->s.pre xs Hs (List.replicate s.rd.length U),post:=fun xs Hs Rs v Hs' F=>∃ U:Hl,(∀ R∈Rs,R.le U)/\s.post xs Hs (List.replicate s.rd.length U) v Hs' F}
def Bk {w:World} : ∀ {l:List Hl} (_:∀ R∈l,R.sub w) {R:Hl},R∈l->R.le (cP l)
 | A::l,h,R,hR=>by
  have hs:(cP l).sub w:=xF fun X hX=>h X (aas _ hX);intro b o hb;show(A.un (cP l)) b=some o;rcases aar.1 hR with rfl | hR
  .exact Hl.bh _ _ b o hb
  .have e:=Bk (fun X hX=>h X (aas _ hX)) hR b o hb;unfold Hl.un;cases hA:A b with
   | none=>exact e
   | some o' =>
    have h1:=h A (aaJ ..) b o' hA;rw[hs b o e]at h1;cases h1;rfl
def Jh {H:Hl} : ∀ {l:List Hl},(∀ R∈l,H.bP R)->H.bP (cP l)
 | [],_=>Hl.Ev H
 | _::_,h=>Hl.yx (h _ (aaJ ..)) (Jh fun R hR=>h R (aas _ hR))
def sV {rd:List Nat} (h:s.OK P):(IT s rd).OK P:=by
 intro w xs Hs Rs l1 l2 s1 s2 d1 d2 hp;have hU:(cP Rs).sub w:=xF s2;have hle:∀ R∈Rs,R.le (cP Rs):=fun R hR=>Bk s2 hR;refine(h w xs Hs (List.replicate s.rd.length (cP Rs)) l1 aa8 s1 (fun R hR=>by rw[(ach.1 hR).2];exact hU) d1 (fun H hH R hR=>by rw[(ach.1 hR).2];exact Jh (d2 H hH)) (hp _ hle)).mono ?_;rintro e w' ⟨J,Hs',F,he,hn,ht,hpost⟩;exact⟨J,Hs',F,he,hn,ht,_,hle,hpost⟩
def Nl (s:Sx.Spec):Sx.Spec:={s with post:=fun xs Hs Rs v Hs' F=>s.post xs Hs Rs v Hs' F/\∀ H∈Hs,∀ R∈Rs,H.bP R}
def Qt (h:s.OK P):(Nl s).OK P:=fun w xs Hs Rs l1 l2 s1 s2 d1 d2 hp=>(h w xs Hs Rs l1 l2 s1 s2 d1 d2 hp).mono fun _ _ ⟨J,Hs',F,a,b,c,d⟩=>⟨J,Hs',F,a,b,c,d,d2⟩
def Xg (A B:Hl) (rows:List (List Value)) (hs:List Hd):Prop:=rows.length=hs.length/\∀ U:Hl,A.le U->B.le U->gD U rows hs
def DZ (T K:Hl) (row:List Value) (p:Pc):Prop:=bg row pt/\∀ U:Hl,T.le U->K.le U->fP U U row p
def DZ.mono {K':Hl} (h:DZ T K row p) (hk:K.le K'):DZ T K' row p:=⟨h.1,fun U a b=>h.2 U a fun k o hx=>b k o (hk k o hx)⟩
def fP.u (h:fP T K row p):DZ T K row p:=⟨h.ok,fun _ a b=>h.mono a b⟩
def CA (hl:R.le R') {v:Value} (h:R.cell x y=some v):R'.cell x y=some v:=by
 unfold Hl.cell at h ⊢;cases e:R x with
 | none=>rw[e]at h;cases h
 | some o=>rw[hl _ _ e];rw[e]at h;exact h
def uJ.mono (h:uJ R g) (hl:R.le R'):uJ R' g:=fun j hj=>CA hl (h j hj)
def O0 (sv:Nat->Value):List Value:=[sv 0,sv 1,sv 2,sv 3,sv 4,sv 5]
def O1 (sv:Nat->Value) (h:i<6):(O0 sv)[i]?=some (sv i):=by
 have:i=0\/i=1\/i=2\/i=3\/i=4\/i=5:=ah;rcases this with rfl | rfl | rfl | rfl | rfl | rfl<;>rfl
def Rz (sv:Nat->Value) (v:Value) (h:i<6):bE (O0 sv) i [v]=O0 (vH sv i v):=by
 have:i=0\/i=1\/i=2\/i=3\/i=4\/i=5:=ah;rcases this with rfl | rfl | rfl | rfl | rfl | rfl<;>rfl
structure KJ (H T:Hl) (x:Nat) (st:Nat->List Pc) (sv:Nat->Value) (KB:Hl):Prop where
 bd:H x=some (.cells (O0 sv).toArray 57 (0,0))
 row:∀ i,i<6->∃ rows,sY H 67 pt (sv i) rows/\rows.length=(st i).length/\∀ (j:Nat) row p,rows[j]?=some row->(st i)[j]?=some p->DZ T KB row p
 kb:KB.le H
 kbx:¬KB.mem x
 own:∀ i b,i<6->(sv i).ownBlock=some b->¬KB.mem b/\∀ j,j<6->j≠i->(sv j).ownBlock≠some b
 form:∀ i,i<6->∀ p∈st i,p.h.Form
def iT (H T:Hl) (x:Nat) (st:Nat->List Pc):Prop:=∃ sv KB,KJ H T x st sv KB
def KJ.mono {H':Hl} (hl:H.le H') (h:KJ H T x st sv KB):KJ H' T x st sv KB:=by
 refine⟨hl _ _ h.bd,fun i hi=>?_,fun b o hb=>hl b o (h.kb b o hb),h.kbx,h.own,h.form⟩;obtain⟨rows,h1,h2,h3⟩:=h.row i hi;exact⟨rows,⟨h1.1,h1.2.mono hl⟩,h2,h3⟩
def KJ.sl (h:KJ H T x st sv KB) (hi:i<6):H.cell x i=some (sv i)/\(∃ p l c,sv i=.slice p l c)/\bm (some (sv i)) 2=(st i).length/\bp (some (sv i)) .slice=true:=by
 obtain⟨rows,h1,h2,_⟩:=h.row i hi;refine⟨?_,?_⟩
 .unfold Hl.cell;rw[h.bd];simpa using O1 sv hi
 .have ho:=h1.2;rw[h2]at ho;rcases ho.2 with ⟨e,hn⟩ | ⟨_,_,_,e,_⟩
  .rw[e,hn];exact⟨⟨_,_,_,rfl⟩,rfl,rfl⟩
  .rw[e];exact⟨⟨_,_,_,rfl⟩,rfl,rfl⟩
def KJ.put (h:KJ H T x st sv KB) (hi:i<6) {x1:Int} 
 (hd:H.bP B) (hp:DZ T B row p) (hF:p.h.Form) (hx1:-1<=x1) (hn1:n1=(st i).length+1)
 (happ:∀ xs,aN (H.un B) 67 pt.length (sv i) (st i).length xs->aN G 67 pt.length (.slice (az x1 0) n1 c1) ((st i).length+1) (xs++row))
 (hk:∀ b,(H.un B).mem b->some b≠(sv i).ownBlock->G b=(H.un B) b)
 (hnew:some x1.toNat=(sv i).ownBlock\/¬(H.un B).mem x1.toNat\/x1= -1) :
 G x=some (.cells (O0 sv).toArray 57 (0,0))/\KJ (G.put x i [.slice (az x1 0) n1 c1]) T x (vH st i (st i++[p])) (vH sv i (.slice (az x1 0) n1 c1)) (KB.un B):=by
 subst hn1;have lH:H.le (H.un B):=Hl.bh _ _;have lB:B.le (H.un B):=Hl.bC hd;have ownH:∀ j b,j<6->(sv j).ownBlock=some b->∃ c,H b=some (.cells c 67 (0,0)):=fun j b hj hb=>by
  obtain⟨rows,h1,_⟩:=h.row j hj;exact h1.2.type hb
 have ownx:∀ j b,j<6->(sv j).ownBlock=some b->b≠x:=fun j b hj hb e=>by
  subst e;obtain⟨c,hc⟩:=ownH j _ hj hb;rw[h.bd]at hc;simp at hc
 have hG:G x=some (.cells (O0 sv).toArray 57 (0,0)):=by
  rw[hk x (Hl.eJ lH (Hl.mem_of h.bd)) fun e=>ownx i x hi e.symm rfl];exact lH _ _ h.bd
 refine⟨hG,?_⟩;obtain⟨rows,ho,hrl,hrp⟩:=h.row i hi;have hOG:=happ rows.flatten (by have:=ho.2;rw[hrl]at this;exact aN.mono lH this);have nB:∀ j b,j<6->(sv j).ownBlock=some b->¬B.mem b:=fun j b hj hb hm=>by
  obtain⟨c,hc⟩:=ownH j b hj hb;exact hd b ⟨Hl.mem_of hc,hm⟩
 have lKB:(KB.un B).le G:=fun b o hb=>by
  have e:(H.un B) b=some o:=by
   unfold Hl.un at hb;cases hq:KB b with
   | some o'=>rw[hq]at hb;cases hb;exact lH _ _ (h.kb _ _ hq)
   | none=>rw[hq]at hb;exact lB _ _ hb
  rw[hk b (Hl.mem_of e) fun e'=>?_,e];rcases Hl.dz.1 (Hl.mem_of hb)with h1 | h1
  .exact(h.own i b hi e'.symm).1 h1
  .exact nB i b hi e'.symm h1
 have xB:¬B.mem x:=fun hm=>hd x ⟨Hl.mem_of h.bd,hm⟩;have xKB:¬(KB.un B).mem x:=fun hm=>(Hl.dz.1 hm).elim h.kbx xB;have newx:∀ b,(Value.slice (az x1 0) ((st i).length+1) c1).ownBlock=some b->x1=b:=fun b hb=>Db hb hx1;have newxx:∀ b,(Value.slice (az x1 0) ((st i).length+1) c1).ownBlock=some b->b≠x:=fun b hb e=>by
  subst e;obtain⟨c,hc⟩:=hOG.type hb;rw[hG]at hc;simp at hc
 have newn:∀ b,(Value.slice (az x1 0) ((st i).length+1) c1).ownBlock=some b->¬(KB.un B).mem b:=fun b hb hm=>by
  have e:=newx b hb;have hm2:(H.un B).mem b:=(Hl.dz.1 hm).elim (fun y=>Hl.dz.2 (Or.inl (Hl.eJ h.kb y))) (fun y=>Hl.dz.2 (Or.inr y));rcases hnew with h1 | h1 | h1
  .rw[e,aaa]at h1;exact(Hl.dz.1 hm).elim (h.own i b hi h1.symm).1 (nB i b hi h1.symm)
  .rw[e,aaa]at h1;exact h1 hm2
  .omega
 have newo:∀ j b,j<6->j≠i->(Value.slice (az x1 0) ((st i).length+1) c1).ownBlock=some b->(sv j).ownBlock≠some b:=fun j b hj hji hb e3=>by
  have e:=newx b hb;rcases hnew with h1 | h1 | h1
  .rw[e,aaa]at h1;exact(h.own i b hi h1.symm).2 j hj hji e3
  .rw[e,aaa]at h1;obtain⟨c,hc⟩:=ownH j b hj e3;exact h1 (Hl.dz.2 (Or.inl (Hl.mem_of hc)))
  .omega
 refine⟨?_,fun j hj=>?_,Hl.zh lKB xKB,xKB,fun j b hj hb=>?_,fun j hj q hq=>?_⟩
 .rw[Hl.qf hG];simp only[acy];rw[Rz _ _ hi]
 .by_cases e:j=i
  .subst e;rw[cU,cU];refine⟨rows++[row],?_,by simp [hrl],fun k r q hr hq=>?_⟩
   .have:=sY.snoc (rows:=rows) ho.1 hp.1 hOG (by rw[hrl]) rfl;exact⟨this.1,this.2.at fun b hb=>Hl.oJ (newxx b hb)⟩
   .rcases aa9 k rows.length with rP | rP
    .rw[aaH rP]at hr;rw[aaH ah]at hq;exact(hrp k r q hr hq).mono (Hl.bh _ _)
    .rw[aau rP]at hr;rw[aau ah]at hq;have hr:=aae hr;have hq:=aae hq;rw[aal]at hr hq;subst hr;subst hq;exact hp.mono (Hl.bC fun b ⟨y,z⟩=>hd b ⟨Hl.eJ h.kb y,z⟩)
  .rw[fC _ _ e,fC _ _ e];obtain⟨rs,h1,h2,h3⟩:=h.row j hj;refine⟨rs,⟨h1.1,h1.2.at fun b hb=>?_⟩,h2,fun k r q hr hq=>(h3 k r q hr hq).mono (Hl.bh _ _)⟩;obtain⟨c,hc⟩:=ownH j b hj hb;rw[Hl.oJ (ownx j b hj hb),hk b (Hl.eJ lH (Hl.mem_of hc)) fun e'=>(h.own j b hj hb).2 i hi (Ne.symm e) e'.symm,lH _ _ hc,hc]
 .by_cases e:j=i
  .subst e;rw[cU]at hb;refine⟨newn b hb,fun k hk' e2=>?_⟩;rw[fC _ _ e2];exact newo k b hk' e2 hb
  .rw[fC _ _ e]at hb;refine⟨fun hm=>(Hl.dz.1 hm).elim (h.own j b hj hb).1 (nB j b hj hb),fun k hk' e2=>?_⟩;by_cases e3:k=i
   .subst e3;rw[cU];exact fun e4=>newo j b hj e e4 hb
   .rw[fC _ _ e3];exact(h.own j b hj hb).2 k hk' e2
 .by_cases e:j=i
  .subst e;rw[cU]at hq;rcases aaR.1 hq with h1 | h1
   .exact h.form j hj q h1
   .rw[aal]at h1;subst h1;exact hF
  .rw[fC _ _ e]at hq;exact h.form j hj q hq
def KJ.back (h:KJ H T x st sv KB) (hi:i<6) 
 (hold:∀ xs,aN H 67 pt.length (sv i) (st i).length xs->aN G 67 pt.length (sv i) (st i).length xs)
 (hk:∀ b,H.mem b->some b≠(sv i).ownBlock->G b=H b) (hy:y=x\/¬G.mem y)
 (hx:G' y=some (.cells (O0 sv).toArray 57 (0,0))) (hG:∀ b,b≠x->G.mem b->G' b=G b):KJ G' T y st sv KB:=by
 have ownH:∀ j b,j<6->(sv j).ownBlock=some b->∃ c,H b=some (.cells c 67 (0,0)):=fun j b hj hb=>by
  obtain⟨rows,h1,_⟩:=h.row j hj;exact h1.2.type hb
 have ownx:∀ j b,j<6->(sv j).ownBlock=some b->b≠x:=fun j b hj hb e=>by
  subst e;obtain⟨c,hc⟩:=ownH j _ hj hb;rw[h.bd]at hc;simp at hc
 have hKG:∀ b o,KB b=some o->G b=some o:=fun b o hb=>by
  have hH:=h.kb b o hb;rw[hk b (Hl.mem_of hH) fun e=>(h.own i b hi e.symm).1 (Hl.mem_of hb)];exact hH
 refine⟨hx,fun j hj=>?_,fun b o hb=>?_,fun hm=>?_,h.own,h.form⟩
 .obtain⟨rows,h1,h2,h3⟩:=h.row j hj;refine⟨rows,⟨h1.1,?_⟩,h2,h3⟩;by_cases e:j=i
  .subst e;have h4:=hold rows.flatten (by have:=h1.2;rw[h2]at this;exact this);rw[h2];refine h4.at fun b hb=>hG b (ownx j b hj hb) ?_;obtain⟨c,hc⟩:=h4.type hb;exact Hl.mem_of hc
  .refine h1.2.at fun b hb=>?_;obtain⟨c,hc⟩:=ownH j b hj hb;have e2:=hk b (Hl.mem_of hc) fun e'=>(h.own j b hj hb).2 i hi (Ne.symm e) e'.symm;rw[hG b (ownx j b hj hb) (Hl.mem_of (e2.trans hc)),e2]
 .have e2:=hKG b o hb;rw[hG b (fun e=>h.kbx (e▸Hl.mem_of hb)) (Hl.mem_of e2),e2]
 .rcases hy with rfl | hy
  .exact h.kbx hm
  .obtain⟨o,ho⟩:=aa5.1 hm;exact hy (Hl.mem_of (hKG y o ho))
def xP:Sx.Spec where
 fn:=33
 own:=[]
 rd:=[0]
 res:=[.one (.int .i64)]
 pre:=fun xs Hs Rs=>∃ x R T st,xs=[.pointer (some ⟨x,0,none⟩)]/\Rs=[R]/\iT R T x st/\ma st
 post:=fun xs Hs Rs v Hs' F=>∃ x R T st,xs=[.pointer (some ⟨x,0,none⟩)]/\Rs=[R]/\iT R T x st/\v=.int .i64 (dY st)
def J3:aG Tryz.prog [] xP.fn where
 Λ:=aD
 args:=[TP (.var 0) (.lit 0)]
 mem:=[.ro 1 [.var 0] true]
 nv:=2
def Em (hS:ma st):IntKind.i64.wrap (IntKind.i64.wrap (IntKind.i64.wrap (IntKind.i64.wrap (IntKind.i64.wrap (IntKind.i64.wrap ((st 0).length:Int)+(st 1).length)+(st 2).length)+(st 3).length)+(st 4).length)+(st 5).length)=dY st:=by
 have h0:=hS 0 ah;have h1:=hS 1 ah;have h2:=hS 2 ah;have h3:=hS 3 ah;have h4:=hS 4 ah;have h5:=hS 5 ah;rw[wrap_i64 (n:=((st 0).length:Int)) ah ah,wrap_i64 (n:=((st 0).length:Int)+_) ah ah,wrap_i64 (n:=((st 0).length:Int)+_+_) ah ah,wrap_i64 (n:=((st 0).length:Int)+_+_+_) ah ah,wrap_i64 (n:=((st 0).length:Int)+_+_+_+_) ah ah,wrap_i64 (n:=((st 0).length:Int)+_+_+_+_+_) ah ah];unfold dY;omega
def Ik:xP.OK Tryz.prog:=by
 refine Spec.aS (Γ:=[]) (fun _ h=>by cases h) ?_;rintro xs Hs Rs hl1 hl2 ⟨x,R,T,st,rfl,rfl,hI,hS⟩;have e0:Hs=[]:=aad.1 hl1;subst e0;refine⟨J3,aO [x] false [Hl.none,R],fun _ _=>True,fun _ _=>0,?_,cO (by intro r hr;simp [J3]at hr;subst hr;exact⟨_,_,_,rfl⟩) rfl,(fun _ h=>nomatch h),?_⟩
 .show [Value.pointer (az (x:Int) 0)]=_;rw[au ah];rfl
 refine aG.read [] [] [] ?_;generalize hρ:aO [(x:Int)] false [Hl.none,R]=J;have v0:J.i 0=x:=by rw[<-hρ];rfl
 have w1:J.h 1=R:=by rw[<-hρ];rfl
 clear hρ;simp only[go_sem,Nat.reduceAdd];obtain⟨sv,KB,hD⟩:=id hI;have c:∀ i:Nat,i<6->R.cell ((x:Int)).toNat (Int.toNat ((i:Nat):Int))=some (sv i):=fun i hi=>by rw[aaa,aaa];exact(hD.sl hi).1
 have c0:=c 0 ah;have c1:=c 1 ah;have c2:=c 2 ah;have c3:=c 3 ah;have c4:=c 4 ah;have c5:=c 5 ah;obtain⟨_,_,l0,s0⟩:=hD.sl (i:=0) ah;obtain⟨_,_,l1,s1⟩:=hD.sl (i:=1) ah;obtain⟨_,_,l2,s2⟩:=hD.sl (i:=2) ah;obtain⟨_,_,l3,s3⟩:=hD.sl (i:=3) ah;obtain⟨_,_,l4,s4⟩:=hD.sl (i:=4) ah;obtain⟨_,_,l5,s5⟩:=hD.sl (i:=5) ah;rw[v0,w1];have c0:R.cell ((x:Int)).toNat (Int.toNat 0)=some (sv 0):=c0;have c1:R.cell ((x:Int)).toNat (Int.toNat 1)=some (sv 1):=c1;have c2:R.cell ((x:Int)).toNat (Int.toNat 2)=some (sv 2):=c2;have c3:R.cell ((x:Int)).toNat (Int.toNat 3)=some (sv 3):=c3;have c4:R.cell ((x:Int)).toNat (Int.toNat 4)=some (sv 4):=c4;have c5:R.cell ((x:Int)).toNat (Int.toNat 5)=some (sv 5):=c5;rw[c0,c1,c2,c3,c4,c5,l0,l1,l2,l3,l4,l5];refine⟨ah,s0,ah,s1,ah,s2,ah,s3,ah,s4,ah,s5,ah,nD rfl (z:=dY st) ?_ fun F=>⟨x,R,T,st,rfl,rfl,hI,rfl⟩⟩;simp only[aq,ak,bJ,cQ,cj,bx,cG,dw,fk,fD,iy,fX,gZ,fJ,aaW];rw[v0,w1,c0,c1,c2,c3,c4,c5,l0,l1,l2,l3,l4,l5];exact Em hS
noncomputable def BU (rt:Nat):Sx.Spec where
 fn:=29
 own:=[.arg 0]
 rd:=[rt,2000003]
 res:=[.one (.int .i64)]
 pre:=fun xs Hs Rs=>∃ x H B row T RG st p,xs=[.pointer (some ⟨x,0,none⟩),.agg row.toArray]/\Hs=[H.un B]/\Rs=[T,RG]/\H.bP B/\iT H T x st/\ma st/\(∀ i,i<6->(st i).length<=100000)/\DZ T B row p/\p.b.length<=900000/\uJ RG 3
 post:=fun xs Hs Rs v Hs' F=>∃ x H B row T RG st p H',xs=[.pointer (some ⟨x,0,none⟩),.agg row.toArray]/\Hs=[H.un B]/\Rs=[T,RG]/\H.bP B/\iT H T x st/\DZ T B row p/\Hs'=[H']/\v=.int .i64 (bo st p)/\iT H' T x (cR st p)/\B.le H'/\∀ o y,H x=some o->y=x\/¬H'.mem y->∀ G',G' y=some o->(∀ b,b≠x->H'.mem b->G' b=H' b)->iT G' T y st
def Pm:Nd:=(fun o b i q n=>(fun a c d g h k=>(fun p=>(fun f l=>(fun j m=>(.ext (.alloc 136) (.and (.pre k) (.ext k (.and (.imp (.not (.bvar 137)) (.post [.hp 133 [] n [],.ro 134 [] true,.ro 135 q false,.dead] (.sv (.one (.int .i64 o))))) (.imp (.bvar 137) (.and (.e (.le i b)) (.and (.e (.le i a)) (.and (.e (.lt a (.lit 6))) (.and (.e (.his 133 b a 0 .slice)) (.and (.pre m) (.ext m (.and (.pre d) (.ext d (.and (.imp (.not (.eq (.var 142) i)) (.post g (.sv (.one (.int .i64 (.var 142)))))) (.imp (.eq (.var 142) i) (.and (.pre h) (.ext h (.and (.imp (.not (.bvar 143)) (.post g (.sv (.one (.int .i64 (.lit 2)))))) (.imp (.bvar 143) (.and (.e (.his 133 b i 0 .slice)) (.and (.e (.le i (.hP 133 b i 0 2))) (.and (.e (.his 133 b o 0 .slice)) (.and (.e (.le i (.hP 133 b o 0 2))) (.and (.e (.his 133 b (.lit 2) 0 .slice)) (.and (.e (.le i (.hP 133 b (.lit 2) 0 2))) (.and (.e (.his 133 b (.lit 3) 0 .slice)) (.and (.e (.le i (.hP 133 b (.lit 3) 0 2))) (.and (.e (.his 133 b (.lit 4) 0 .slice)) (.and (.e (.le i (.hP 133 b (.lit 4) 0 2))) (.and (.e (.his 133 b (.lit 5) 0 .slice)) (.and (.e (.le i (.hP 133 b (.lit 5) 0 2))) (.and (.imp c (.post g (.sv (.one (.int .i64 (.lit 4)))))) (.imp (.not c) (.ext (.alloc 144) (.and (.pre j) (.ext j (.and (.pre l) (.ext l (.post [.hp 147 [145,133] [.var 145,.var 0] [],.ro 134 [] true,.ro 135 q false,.dead,.hp 138 [] [.var 138] [],.dead] (.sv (.one (.int .i64 i))))))))))))))))))))))))))))))))))))))))):Nd)) (.app 145 67 126 256 f p (.hp 133 [] n []) (.cvs (al 1 yD) 1)) (.call 1 138 [.sv (.one f)] [] [.hp 133 [] n []])) (.sl (.hP 133 b a 0 0) (.hP 133 b a 0 1) p (.hP 133 b a 0 3)) (.put 147 145 b a [.sl (.var 145) i (.add p o) (.var 146)])) (.hP 133 b a 0 2)) (.wrap .i64 (.sub (.var 1) o)) (.le (.lit 400) (.wrap .i64 (.add (.wrap .i64 (.add (.wrap .i64 (.add (.wrap .i64 (.add (.wrap .i64 (.add (.wrap .i64 (.hP 133 b i 0 2)) (.hP 133 b o 0 2))) (.hP 133 b (.lit 2) 0 2))) (.hP 133 b (.lit 3) 0 2))) (.hP 133 b (.lit 4) 0 2))) (.hP 133 b (.lit 5) 0 2)))) (.call 2 142 [.sv (.one (.int .i64 (.var 1))),.sv (.one (.sl (.var 138) (.var 139) (.var 140) (.var 141))),.sv (.agg (al 1 bT))] [] [.hp 138 [] [.var 138] [],.hp 133 [] n [],.ro 134 [] true,.ro 135 q false]) [.hp 133 [] n [],.ro 134 [] true,.ro 135 q false,.dead,.hp 138 [] [.var 138] []] (.call 3 143 [.sv (.agg (al 1 yD))] [] [.hp 133 [] n [],.ro 134 [] true,.ro 135 q false]) (.call 0 137 [.sv (.agg (al 1 bT))] [] [.hp 133 [] n [],.ro 134 [] true])) (.lit 1) (.var 0) (.lit 0) [.lit 3] [.var 0]
noncomputable def XO:List Sx.Spec:=[IT (gM 65) [6000000,6000001],kS,IT FC [1,6000000,6000001,2000003],IT xW [6000000,6000001,2000003]]
def UO:∀ t∈XO,t.OK Tryz.prog:=av (sV vk) <| av ug <| av (sV OT) <| av (sV Ir) <| bQ
def Zw:(IT (gM 65) [6000000,6000001]).res=[.one .bool]:=rfl
def Zx:kS.res=[.one .sl]:=rfl
def Zy:(IT FC [1,6000000,6000001,2000003]).res=[.one (.int .i64)]:=rfl
def Zz:(IT xW [6000000,6000001,2000003]).res=[.one .bool]:=rfl
noncomputable def FQ:aG Tryz.prog XO 29 where
 Λ:=aD
 args:=TP (.var 0) (.lit 0)::(bV 1 [.agg yD]).map .sv
 mem:=[.hp 133 [] [.var 0] [],.ro 134 [] true,.ro 135 [.lit 3] false]
 nv:=136
open Classical in
set_option maxRecDepth 20000 in
def Pn (rt:Nat):(BU rt).OK Tryz.prog:=by
 refine Spec.aS (Γ:=XO) UO ?_;rintro xs Hs Rs hl1 hl2 ⟨x,H,B,row,T,RG,st,p,rfl,rfl,rfl,hHB,hI,hS,hS2,hx,hlen,hKat⟩;obtain⟨J,va,rfl,hh,hnw⟩:=De (a:=(x:Int)) [(133,H.un B),(134,T),(135,RG)] hx.1;have w1:J.h 133=H.un B:=hh 133;have w2:J.h 134=T:=hh 134;have w3:J.h 135=RG:=hh 135;refine⟨FQ,J,fun _ _=>True,fun _ _=>0,?_,⟨?_,?_,?_,?_⟩,(fun _ h=>nomatch h),?_⟩
 .show [Value.pointer (az (J.i 0) 0),.agg ((al 1 gR).map (CV.ev J)).toArray]=_;rw[va,au ah];rfl
 .intro r hr ho;simp [FQ]at hr;rcases hr with rfl | rfl | rfl
  .exact⟨H.un B,aF,by show(J.h 133).le _;rw[w1];exact Hl.le_refl _⟩
  all_goals cases ho
 .intro r hr ho;simp [FQ]at hr;rcases hr with rfl | rfl | rfl
  .cases ho
  .exact⟨T,aF,by show(J.h 134).le T;rw[w2];exact Hl.le_refl _⟩
  .exact⟨RG,aF,by show(J.h 135).le RG;rw[w3];exact Hl.le_refl _⟩
 .simp [FQ,bD.own]
 .intro r hr;simp [FQ]at hr;rcases hr with rfl | rfl | rfl<;>trivial
 refine aG.lit (x:=Pm) ?_;unfold Pm;simp only[go_sem,Nat.reduceAdd,XO,Zw,Zx,Zy,Zz,Gw];generalize hrow0:(al 1 gR).map (CV.ev J)=row at *;have ht0:(al 1 bT).map (CV.ev J)=row.take 125:=by rw[<-hrow0,oH]
 have V:∀ q:Env,ai 136 J q->q.i 0=x/\q.h 133=H.un B/\q.h 134=T/\q.h 135=RG/\(al 1 bT).map (CV.ev q)=row.take 125/\(al 1 yD).map (CV.ev q)=row/\q.i 1=J.i 1:=fun q g=>by
  refine⟨by rw[g.i 0,va],by rw[g.h 133,w1],by rw[g.h 134,w2],by rw[g.h 135,w3],?_,?_,g.i 1⟩
  .rw[<-ht0];exact aaD Array.toList (Value.agg.inj (fH (ks:=bT) (n:=1) g aA))
  .rw[<-hrow0];exact aaD Array.toList (Value.agg.inj (fH (ks:=gR) (n:=1) g aA))
 have lB:B.le (H.un B):=Hl.bC hHB;have hU:∀ {U:Hl},T.le U->(H.un B).le U->fP U U row p:=fun a b=>hx.2 _ a fun k o hb=>b k o (lB k o hb);have hbody:row=row.take 125++[row.getD 125 BA]:=kOw hx.1;obtain⟨sv,KB,hD⟩:=id hI;have hDu:KJ (H.un B) T x st sv KB:=hD.mono (Hl.bh _ _);have outE:∀ {q:Env} {t:Mem} {e:E},q.h 133=H.un B->aB q e=bo st p->bo st p≠0->postOf (BU rt) [.pointer (some ⟨x,0,none⟩),.agg row.toArray] [H.un B] [T,RG] q (.hp 133 [] [.var 0] []::t) (.sv (.one (.int .i64 e))):=by
  intro q t e h1 h2 h3 _;refine⟨[[0]],[],rfl,rfl,⟨(aY fun _=>aB q e),rfl,zzT,zzT⟩,x,H,B,_,T,RG,st,p,_,rfl,rfl,rfl,hHB,hI,hx,rfl,by rw[<-h2];rfl,?_,?_,?_⟩
  .unfold cR;rw[aan h3];show iT (cP [q.h 133]) _ _ _;rw[aL,h1];exact⟨sv,KB,hDu⟩
  .show B.le (cP [q.h 133]);rw[aL,h1];exact Hl.bC hHB
  .intro o y ho hy G' hx' hG';have eH:cP [q.h 133]=H.un B:=by rw[aL,h1]
   have hy:y=x\/¬(cP [q.h 133]).mem y:=hy;have hG':∀ b,b≠x->(cP [q.h 133]).mem b->G' b=(cP [q.h 133]) b:=hG';rw[eH]at hG' hy;exact⟨sv,KB,hD.back (i:=0) ah (fun _ h=>aN.mono (Hl.bh _ _) h) (fun b hb _=>by obtain⟨o',ho'⟩:=aa5.1 hb;rw[Hl.sW ho',ho']) hy (by rw[hx',<-ho,hD.bd]) hG'⟩
 intro q1 g1 p1;obtain⟨v0,x1,x2,x3,xr,xr2,_⟩:=V q1 g1;rw[xr,x1,x2];refine⟨fun U u=>⟨_,U,p.h,rfl,rfl,(hU (u _ aF) (u _ aF)).hd⟩,fun q2 g2 ⟨F2,⟨U,u,hp2⟩,_⟩=>?_⟩;have hxU:=hU (u T aF) (u _ aF);have hd:=hxU.hd;have hw1:cI p.h.c 0=J.i 1:=by
  have e1:cI p.h.c 0=cI (row.take 125) 0:=hd.I aA;rw[e1,<-ht0];rfl
 have G2:ai 136 J q2:=g1.tr g2;have hb2:q2.b 137=decide p.h.Form:=Value.bool.inj (lh hd hp2);obtain⟨y0,y1,y2,y3,yr,yr2,y5⟩:=V q2 G2;refine⟨fun hb=>?_,fun hb=>?_⟩
 .have hF:¬p.h.Form:=by rw[hb2]at hb;simpa using hb
  have e:bo st p=1:=by unfold bo;rw[aav hF]
  exact outE y1 e.symm (by rw[e];decide)
 have hF:p.h.Form:=by rw[hb2]at hb;simpa using hb
 have hFn:¬¬p.h.Form:=fun g=>g hF;have hw:=yT hF;have hw2:IntKind.i64.wrap (J.i 1-1)=((cI p.h.c 0-1).toNat:Nat):=by rw[hw1,IntKind.wrap_i64];rw[hw1]at hw;omega
 generalize hi:(cI p.h.c 0-1).toNat=i at *;have hi6:i<6:=ah;have hwi:J.i 1=cI p.h.c 0:=hw1.symm;obtain⟨c1,csl,cl,cs⟩:=hDu.sl hi6;have c1':(H.un B).cell ((x:Int)).toNat (Int.toNat ((i:Nat):Int))=some (sv i):=by rw[aaa,aaa];exact c1
 obtain⟨rows,ho,hrl,hrp⟩:=hDu.row i hi6;have hr2:=hS2 i hi6;rw[y0,y1,y5,hw2,c1',iq csl];refine⟨ah,ah,ah,cs,⟨_,_,rows,rfl,rfl,ho.rd,ah⟩,fun q3 g3 ⟨F3,hp3,hF3,hn3⟩=>?_⟩;have hH3:=hp3 _ _ _ rfl rfl ho.rd;rw[<-hF3 zzT]at hH3;have hAll:∀ {U:Hl},T.le U->(H.un B).le U->gD U (rows.map (List.take 125)) (lS st i):=fun {U} a b=>by
  refine⟨by unfold lS;rw[aaz,aaz,hrl],fun j r h hr hh=>?_⟩;unfold lS at hh;rw[aao]at hr hh;obtain⟨r0,wj,rfl⟩:=aam.1 hr;obtain⟨p0,hp0,rfl⟩:=aam.1 hh;exact((hrp j r0 p0 wj hp0).2 U a fun k o hb=>b k o (hDu.kb k o hb)).hd
 have hFs:∀ g∈lS st i,g.Form:=fun g hg=>by
  obtain⟨p0,hp0,rfl⟩:=aaQ.1 hg;exact hD.form i hi6 p0 hp0
 have G3:ai 136 J q3:=G2.tr g3;obtain⟨z0,z1,z2,z3,zr,zr2,z5⟩:=V q3 G3;rw[zr,z1,z2,z3,z5];have hln:(rows.map (List.take 125)).length<=100000:=by rw[aaz];omega
 refine⟨fun U u=>⟨_,_,_,U,U,U,U,_,_,p.h,rfl,rfl,gN hH3 (u _ aF),hAll (u T aF) (u _ aF),hFs,(hU (u T aF) (u _ aF)).hd,hln,hKat.mono (u _ aF)⟩,fun q4 g4 ⟨F4,⟨U4,u4,hp4⟩,_⟩=>?_⟩;have hask:q4.i 142=gG (cI p.h.c 0) (lS st i) p.h:=by
  have:=hp4 _ _ _ U4 U4 U4 U4 _ _ _ rfl rfl (gN hH3 (u4 _ aF)) (hAll (u4 T aF) (u4 _ aF)) (hU (u4 T aF) (u4 _ aF)).hd;rw[hwi]at this;simpa using this
 have G4:ai 136 J q4:=G3.tr g4;obtain⟨u0,u1,u2,u3,ur,ur2,u5⟩:=V q4 G4;refine⟨fun hne=>?_,fun heq=>?_⟩
 .have e:bo st p=q4.i 142:=by unfold bo;rw[aan hFn,hi,aav (by rw[<-hask];exact hne)];exact hask.symm
  exact outE u1 e.symm (by rw[e];exact hne)
 have h0:¬gG (cI p.h.c 0) (lS st i) p.h≠0:=fun g=>g (hask.symm.trans heq);rw[ur2,u1,u2,u3];refine⟨fun U u=>⟨row.take 125,row.getD 125 BA,p.b,U,U,by rw[<-hbody],rfl,hd.ok,(hU (u T aF) (u _ aF)).body,hxU.byte,hlen,hKat.mono (u _ aF)⟩,fun q5 g5 ⟨F5,⟨U5,u5,hp5⟩,_⟩=>?_⟩;have hp5:=hp5 (row.take 125) (row.getD 125 BA) p.b U5 U5 (by rw[<-hbody]) rfl (hU (u5 T aF) (u5 _ aF)).body;have hb5:q5.b 143=fq p.h.c p.b:=by rw[<-AJ hd];exact Value.bool.inj hp5
 have G5:ai 136 J q5:=G4.tr g5;obtain⟨k0,k1,k2,k3,kr,kr2,k5⟩:=V q5 G5;refine⟨fun hb=>?_,fun hb=>?_⟩
 .have e:bo st p=2:=by unfold bo;rw[aan hFn,hi,aan h0,aav (by rw[<-hb5];simpa using hb)]
  exact outE k1 e.symm (by rw[e];decide)
 have hwb:¬fq p.h.c p.b=false:=by rw[<-hb5,hb];decide
 have c:∀ j:Nat,j<6->(H.un B).cell ((x:Int)).toNat (Int.toNat ((j:Nat):Int))=some (sv j):=fun j hj=>by rw[aaa,aaa];exact(hDu.sl hj).1
 have a0:(H.un B).cell ((x:Int)).toNat (Int.toNat 0)=some (sv 0):=c 0 ah;have a1:(H.un B).cell ((x:Int)).toNat (Int.toNat 1)=some (sv 1):=c 1 ah;have a2:(H.un B).cell ((x:Int)).toNat (Int.toNat 2)=some (sv 2):=c 2 ah;have a3:(H.un B).cell ((x:Int)).toNat (Int.toNat 3)=some (sv 3):=c 3 ah;have a4:(H.un B).cell ((x:Int)).toNat (Int.toNat 4)=some (sv 4):=c 4 ah;have a5:(H.un B).cell ((x:Int)).toNat (Int.toNat 5)=some (sv 5):=c 5 ah;obtain⟨_,_,l0,s0⟩:=hDu.sl (i:=0) ah;obtain⟨_,_,l1,s1⟩:=hDu.sl (i:=1) ah;obtain⟨_,_,l2,s2⟩:=hDu.sl (i:=2) ah;obtain⟨_,_,l3,s3⟩:=hDu.sl (i:=3) ah;obtain⟨_,_,l4,s4⟩:=hDu.sl (i:=4) ah;obtain⟨_,_,l5,s5⟩:=hDu.sl (i:=5) ah;rw[k0,k1,a0,a1,a2,a3,a4,a5,l0,l1,l2,l3,l4,l5,Em hS];refine⟨s0,ah,s1,ah,s2,ah,s3,ah,s4,ah,s5,ah,fun h4=>?_,fun h4=>?_⟩
 .have e:bo st p=4:=by unfold bo;rw[aan hFn,hi,aan h0,aan hwb,aav h4]
  exact outE k1 e.symm (by rw[e];decide)
 have e0:bo st p=0:=by unfold bo;rw[aan hFn,hi,aan h0,aan hwb,aan h4]
 intro q6 g6 p6;have G6:ai 136 J q6:=G5.tr g6;obtain⟨m0,m1,m2,m3,mr,mr2,m5⟩:=V q6 G6;have hst:=hS i hi6;rw[m0,m1,m5,hw2,c1',iq csl,cl,mr2,aaa];refine⟨⟨⟨rows.flatten,by have:=ho.2;rw[hrl]at this;exact this⟩,ah,by unfold maxLen;omega,ah⟩,fun q7 g7 ⟨b1,b2,happ,hkp,⟨_,hold⟩,hnw⟩=>?_⟩;have G7:ai 136 J q7:=G6.tr g7;obtain⟨n0,n1,n2,n3,nr,nr2,n5⟩:=V q7 G7;obtain⟨kx,kD⟩:=hD.put hi6 hHB hx hF b1 rfl happ hkp hnw;have en:(((st i).length:Int)+1).toNat=(st i).length+1:=ah;rw[n0,n1,n5,hw2,c1',cl,en,aaa,aaa];refine⟨⟨ah,ah,jm kx (by show i+1<=6;omega)⟩,fun q8 g8 p8 _=>?_⟩;refine⟨[[0]],[],rfl,rfl,⟨(aY fun _=>0),rfl,zzT,zzT⟩,x,H,B,_,T,RG,st,p,_,rfl,rfl,rfl,hHB,hI,hx,rfl,by rw[e0];rfl,?_,?_,?_⟩
 .unfold cR;rw[aav e0,hi];show iT (cP [q8.h 147]) _ _ _;rw[aL,p8];exact⟨_,_,kD⟩
 .show B.le (cP [q8.h 147]);rw[aL,p8];exact fun b o hb=>kD.kb b o (Hl.bC (fun b ⟨y,z⟩=>hHB b ⟨Hl.eJ hD.kb y,z⟩) b o hb)
 .intro o y ho hy G' hx' hG';have hy:y=x\/¬(cP [q8.h 147]).mem y:=hy;have hG':∀ b,b≠x->(cP [q8.h 147]).mem b->G' b=(cP [q8.h 147]) b:=hG';rw[p8,aL]at hG' hy;refine⟨sv,KB,hDu.back hi6 hold hkp (hy.imp id fun h k=>h (Hl.gF.2 k)) (by rw[hx',<-ho,hD.bd]) fun b hb hm=>?_⟩;rw[hG' b hb (Hl.gF.2 hm)];exact Hl.oJ hb
end Go.Proofs.YtomdimlnggpgbaaGreatDoor
