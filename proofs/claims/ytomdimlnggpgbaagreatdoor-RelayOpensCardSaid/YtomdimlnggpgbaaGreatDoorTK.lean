/- RelayOpens. -/
import Derived.Test.YtomdimlnggpgbaaGreatDoorTJ
set_option linter.all false
set_option maxHeartbeats 4000000
namespace Go.Sx
open Go
def Hl.minus (H K:Hl):Hl:=fun b=>if(K b).isSome then Option.none else H b
theorem Hl.ze (H K:Hl):(H.minus K).le H:=fun b o h=>by
 unfold Hl.minus at h;split at h
 .cases h
 .exact h
theorem Hl.K3 (H K:Hl):K.bT (H.minus K):=fun b ⟨x,y⟩=>by
 unfold Hl.mem at x y;unfold Hl.minus at y;rw[aax x]at y;cases y
theorem Hl.yP {A H K:Hl} (h:A.le H) (d:A.bT K):A.le (H.minus K):=fun b o hb=>by
 unfold Hl.minus;have hm:A.mem b:=by unfold Hl.mem;rw[hb];rfl
 have hn:¬(K b).isSome=true:=fun hk=>d b ⟨hm,hk⟩;rw[aal hn];exact h b o hb
theorem Hl.NA {H K:Hl} (h:K.le H):K.un (H.minus K)=H:=by
 funext b
 unfold Hl.un Hl.minus;cases hb:K b with
 | none=>simp
 | some o=>simp;exact(h b o hb).symm
theorem Hl.te {a b:Hl} (h:a.bT b):b.bT a:=fun k ⟨x,y⟩=>h k ⟨y,x⟩
end Go.Sx
namespace Go.Proofs.YtomdimlnggpgbaaGreatDoor
open Go Go.Sx Go.Pk
def dL (st:Nat->List Pc):Int:=(((st 0).length+(st 1).length+(st 2).length+(st 3).length+(st 4).length+(st 5).length:Nat):Int)
def DE (a:Nat->Nat) (sv:Nat->Value) (n:Int):List Value:=[.pointer (some ⟨a 0,0,none⟩),.pointer (some ⟨a 1,0,none⟩),.pointer (some ⟨a 2,0,none⟩),.pointer (some ⟨a 3,0,none⟩),.pointer (some ⟨a 4,0,none⟩),.pointer (some ⟨a 5,0,none⟩),sv 0,sv 1,sv 2,sv 3,sv 4,sv 5,.int .i64 n]
theorem I9 (a:Nat->Nat) (sv:Nat->Value) (n:Int) {i:Nat} (h:i<6):(DE a sv n)[i]?=some (.pointer (some ⟨a i,0,none⟩))/\(DE a sv n)[6+i]?=some (sv i):=by
 have:i=0\/i=1\/i=2\/i=3\/i=4\/i=5:=ah;rcases this with rfl | rfl | rfl | rfl | rfl | rfl<;>exact⟨rfl,rfl⟩
def vl {α:Type} (f:Nat->α) (i:Nat) (x:α):Nat->α:=fun k=>if k=i then x else f k
theorem cM {α:Type} (f:Nat->α) (i:Nat) (x:α):vl f i x i=x:=by simp [vl]
theorem fy {α:Type} (f:Nat->α) {i k:Nat} (x:α) (h:k≠i):vl f i x k=f k:=by simp [vl,h]
theorem Nk (a:Nat->Nat) (sv:Nat->Value) (n:Int) (v:Value) {i:Nat} (h:i<6):bI (DE a sv n) (6+i) [v]=DE a (vl sv i v) n:=by
 have:i=0\/i=1\/i=2\/i=3\/i=4\/i=5:=ah;rcases this with rfl | rfl | rfl | rfl | rfl | rfl<;>rfl
theorem Vn (a:Nat->Nat) (sv:Nat->Value) (n m:Int):bI (DE a sv n) 12 [.int .i64 m]=DE a sv m:=rfl
theorem DU (st:Nat->List Pc) (p:Pc) {i:Nat} (h:i<6):dL (vl st i (st i++[p]))=dL st+1:=by
 have:i=0\/i=1\/i=2\/i=3\/i=4\/i=5:=ah;rcases this with rfl | rfl | rfl | rfl | rfl | rfl<;>(unfold dL vl;simp;omega)
def lD (st:Nat->List Pc) (i:Nat):List Hd:=(st i).map Pc.h
structure Wo (H:Hl) (x:Nat) (st:Nat->List Pc) (a:Nat->Nat) (sv:Nat->Value) (Kc:Nat->Hl) (KB:Hl):Prop where
 bw:H x=some (.cells (DE a sv (dL st)).toArray 182 (0,0))
 ch:∀ i,i<6->ik (Kc i) (a i) (i+1:Nat) (lD st i)
 le:∀ i,i<6->(Kc i).le H
 bT:∀ i j,i<6->j<6->i≠j->(Kc i).bT (Kc j)
 nox:∀ i,i<6->¬(Kc i).mem x
 row:∀ i,i<6->∃ us,aV H 46 1 (sv i) (st i).length us/\∀ (j:Nat) u p,us[j]?=some u->(st i)[j]?=some p->cV KB u p.b
 kb:KB.le H
 kbx:¬KB.mem x
 kbc:∀ i,i<6->KB.bT (Kc i)
 own:∀ i b,i<6->(sv i).ownBlock=some b->¬KB.mem b/\∀ j,j<6->¬(Kc j).mem b/\(j≠i->(sv j).ownBlock≠some b)
def oZ (H:Hl) (x:Nat) (st:Nat->List Pc):Prop:=∃ a sv Kc KB,Wo H x st a sv Kc KB
structure RQ (R:Hl) (x:Nat) (st:Nat->List Pc) (a:Nat->Nat) (sv:Nat->Value):Prop where
 bw:R x=some (.cells (DE a sv (dL st)).toArray 182 (0,0))
 ch:∀ i,i<6->cG R (a i) (i+1:Nat) (lD st i)
 row:∀ i,i<6->∃ us,aV R 46 1 (sv i) (st i).length us/\∀ (j:Nat) u p,us[j]?=some u->(st i)[j]?=some p->cV R u p.b
def o9 (R:Hl) (x:Nat) (st:Nat->List Pc):Prop:=∃ a sv,RQ R x st a sv
theorem oZ.rd {H:Hl} {x:Nat} {st:Nat->List Pc} (h:oZ H x st):o9 H x st:=by
 obtain⟨a,sv,Kc,KB,h⟩:=h;refine⟨a,sv,h.bw,fun i hi=>⟨Kc i,h.le i hi,h.ch i hi⟩,fun i hi=>?_⟩;obtain⟨us,h1,h2⟩:=h.row i hi;exact⟨us,h1,fun j u p hu hp=>ia (h2 j u p hu hp) h.kb⟩
theorem cG.mono {R R':Hl} (hl:R.le R') {a:Nat} {w:Int} {hs:List Hd} (h:cG R a w hs):cG R' a w hs:=by
 obtain⟨K,h1,h2⟩:=h;exact⟨K,fun b o hb=>hl b o (h1 b o hb),h2⟩
theorem o9.mono {R R':Hl} (hl:R.le R') {x:Nat} {st:Nat->List Pc} (h:o9 R x st):o9 R' x st:=by
 obtain⟨a,sv,h⟩:=h;refine⟨a,sv,hl _ _ h.bw,fun i hi=>(h.ch i hi).mono hl,fun i hi=>?_⟩;obtain⟨us,h1,h2⟩:=h.row i hi;exact⟨us,h1.mono hl,fun j u p hu hp=>ia (h2 j u p hu hp) hl⟩
theorem RQ.cells {R:Hl} {x:Nat} {st:Nat->List Pc} {a:Nat->Nat} {sv:Nat->Value} (h:RQ R x st a sv) {i:Nat} (hi:i<6):R.cell x i=some (.pointer (some ⟨a i,0,none⟩))/\R.cell x (6+i)=some (sv i)/\R.cell x 12=some (.int .i64 (dL st)):=by
 obtain⟨e1,e2⟩:=I9 a sv (dL st) hi;refine⟨?_,?_,?_⟩
 .unfold Hl.cell;rw[h.bw];simpa using e1
 .unfold Hl.cell;rw[h.bw];simpa using e2
 .unfold Hl.cell;rw[h.bw];rfl
theorem Wo.put {H:Hl} {x:Nat} {st:Nat->List Pc} {a:Nat->Nat} {sv:Nat->Value} {Kc:Nat->Hl} {KB:Hl} (h:Wo H x st a sv Kc KB) {i:Nat} (hi:i<6) {K' B G:Hl} {p:Pc} {u:Value} {x1:Int} {n1 c1:Nat}
 (hd:K'.bT (H.minus (Kc i))) (hc:ik K' (a i) (i+1:Nat) (lD st i++[p.h])) (hb:cV B u p.b) (hx1:-1<=x1)
 (happ:∀ xs,aV (K'.un (H.minus (Kc i))) 46 1 (sv i) (st i).length xs->aV G 46 1 (.slice (az x1 0) n1 c1) ((st i).length+1) (xs++[u]))
 (hk:∀ b,(K'.un (H.minus (Kc i))).mem b->some b≠(sv i).ownBlock->G b=(K'.un (H.minus (Kc i))) b)
 (hnew:some x1.toNat=(sv i).ownBlock\/¬(K'.un (H.minus (Kc i))).mem x1.toNat\/x1= -1)
 (hB:((G.put x (6+i) [.slice (az x1 0) n1 c1]).put x 12 [.int .i64 (dL st+1)]).bT B) :
 Wo (((G.put x (6+i) [.slice (az x1 0) n1 c1]).put x 12 [.int .i64 (dL st+1)]).un B) x (vl st i (st i++[p])) a (vl sv i (.slice (az x1 0) n1 c1)) (vl Kc i K') (KB.un B):=by
 generalize hH2:K'.un (H.minus (Kc i))=H2 at *;have lM:(H.minus (Kc i)).le H2:=by
  rw[<-hH2];exact Hl.bK hd
 have lK:K'.le H2:=by
  rw[<-hH2];exact Hl.bF _ _
 have xM:(H.minus (Kc i)).mem x:=Hl.ef (Hl.yP (A:=Hl.one x (.cells (DE a sv (dL st)).toArray 182 (0,0))) (fun b o hb=>by
  unfold Hl.one at hb;split at hb
  .rename_i e;subst e;cases hb;exact h.bw
  .cases hb) (Hl.fZ.2 (h.nox i hi))) (Hl.mem_of (Hl.aX _ _))
 have hxM:(H.minus (Kc i)) x=some (.cells (DE a sv (dL st)).toArray 182 (0,0)):=by
  obtain⟨o,ho⟩:=abj.1 xM;have:=Hl.ze H (Kc i) x o ho;rw[h.bw]at this;cases this;exact ho
 have lKc:∀ j,j<6->j≠i->(Kc j).le (H.minus (Kc i)):=fun j hj hne=>Hl.yP (h.le j hj) (h.bT j i hj hi hne);have lKB:KB.le (H.minus (Kc i)):=Hl.yP h.kb (h.kbc i hi);have ownM:∀ j b,j<6->(sv j).ownBlock=some b->∃ c,(H.minus (Kc i)) b=some (.cells c 46 (0,0)):=fun j b hj hb=>by
  obtain⟨us,h1,_⟩:=h.row j hj;obtain⟨c,hcb⟩:=h1.type hb;refine⟨c,?_⟩;unfold Hl.minus;have:=((h.own j b hj hb).2 i hi).1;unfold Hl.mem at this;rw[aal this];exact hcb
 have ownx:∀ j b,j<6->(sv j).ownBlock=some b->b≠x:=fun j b hj hb e=>by
  subst e;obtain⟨c,hcb⟩:=ownM j _ hj hb;rw[hxM]at hcb;simp at hcb
 have xne:some x≠(sv i).ownBlock:=fun e=>ownx i x hi e.symm rfl;have keepx:G x=some (.cells (DE a sv (dL st)).toArray 182 (0,0)):=by
  rw[hk x (Hl.ef lM xM) xne];exact lM _ _ hxM
 have lG:∀ {A:Hl},A.le H2->(∀ b,(sv i).ownBlock=some b->¬A.mem b)->A.le G:=fun {A} hA hn b o hb=>by
  rw[hk b (Hl.ef hA (Hl.mem_of hb)) fun e=>hn b e.symm (Hl.mem_of hb)];exact hA b o hb
 have nK:∀ b,(sv i).ownBlock=some b->¬K'.mem b:=fun b hb hm=>by
  obtain⟨c,hcb⟩:=ownM i b hi hb;exact hd b ⟨hm,Hl.mem_of hcb⟩
 have xK:¬K'.mem x:=fun hm=>hd x ⟨hm,xM⟩;have xGB:((G.put x (6+i) [.slice (az x1 0) n1 c1]).put x 12 [.int .i64 (dL st+1)]) x=some (.cells (DE a (vl sv i (.slice (az x1 0) n1 c1)) (dL st+1)).toArray 182 (0,0)):=by
  rw[Hl.si (Hl.si keepx)];simp only[acx];rw[Nk _ _ _ _ hi,Vn]
 have dG:∀ b,G.mem b->¬B.mem b:=fun b h1 h2=>hB b ⟨Hl.im.2 (Hl.im.2 h1),h2⟩;have put2:∀ b o,b≠x->G b=some o->(((G.put x (6+i) [.slice (az x1 0) n1 c1]).put x 12 [.int .i64 (dL st+1)]).un B) b=some o:=fun b o hb hg=>Hl.bF _ _ b o (by rw[Hl.sj hb,Hl.sj hb];exact hg);have leF:∀ {A:Hl},A.le G->¬A.mem x->A.le (((G.put x (6+i) [.slice (az x1 0) n1 c1]).put x 12 [.int .i64 (dL st+1)]).un B):=fun hA hx b o hb=>Hl.bF _ _ b o (Hl.yQ (Hl.yQ hA hx) hx b o hb);have lKG:K'.le G:=lG lK nK;have lBG:KB.le G:=lG (fun b o hb=>lM _ _ (lKB b o hb)) fun b hb=>(h.own i b hi hb).1;have lCG:∀ j,j<6->j≠i->(Kc j).le G:=fun j hj e=>lG (fun b o hb=>lM _ _ (lKc j hj e b o hb)) fun b hb=>((h.own i b hi hb).2 j hj).1;have xB:¬B.mem x:=dG x (Hl.mem_of keepx);have xKBB:¬(KB.un B).mem x:=fun hm=>(Hl.dw.1 hm).elim h.kbx xB;have lKBB:(KB.un B).le (((G.put x (6+i) [.slice (az x1 0) n1 c1]).put x 12 [.int .i64 (dL st+1)]).un B):=fun b o hb=>by
  unfold Hl.un at hb;cases hq:KB b with
  | some o'=>rw[hq]at hb;cases hb;exact leF lBG h.kbx _ _ hq
  | none=>rw[hq]at hb;exact Hl.bK hB b o hb
 obtain⟨us,ho,hus⟩:=h.row i hi;have hoM:aV H2 46 1 (sv i) (st i).length us:=ho.at fun b hb=>by
  obtain⟨c,hcb⟩:=ownM i b hi hb;rw[lM _ _ hcb];exact(Hl.ze H (Kc i) _ _ hcb).symm
 have hoG:=happ us hoM;have newx:∀ b,(Value.slice (az x1 0) n1 c1).ownBlock=some b->b=x1.toNat/\x1≠ -1:=fun b hb=>by
  rcases abr x1 0 with hlt | h0
  .rw[show x1= -1 by omega,fq]at hb;cases hb
  .rw[av h0]at hb;have:x1.toNat=b:=by simpa [Value.ownBlock] using hb
   exact⟨this.symm,ah⟩
 have newn:∀ {A:Hl},A.le H2->(∀ b,(sv i).ownBlock=some b->¬A.mem b)->∀ b,(Value.slice (az x1 0) n1 c1).ownBlock=some b->¬A.mem b:=fun {A} hA hn b hb hm=>by
  obtain⟨rfl,hne⟩:=newx b hb;rcases hnew with h1 | h1 | h1
  .exact hn _ h1.symm hm
  .exact h1 (Hl.ef hA hm)
  .exact hne h1
 have newo:∀ j b,j<6->j≠i->(Value.slice (az x1 0) n1 c1).ownBlock=some b->(sv j).ownBlock≠some b:=fun j b hj hji hb e=>by
  obtain⟨rfl,hne⟩:=newx b hb;rcases hnew with h1 | h1 | h1
  .exact((h.own i _ hi h1.symm).2 j hj).2 hji e
  .obtain⟨c,hcb⟩:=ownM j _ hj e;exact h1 (Hl.ef lM (Hl.mem_of hcb))
  .exact hne h1
 have newxx:∀ b,(Value.slice (az x1 0) n1 c1).ownBlock=some b->b≠x:=fun b hb e=>by
  subst e;obtain⟨c,hcb⟩:=hoG.type hb;rw[keepx]at hcb;simp at hcb
 refine⟨?_,fun j hj=>?_,fun j hj=>?_,fun j k hj hk' hjk=>?_,fun j hj=>?_,fun j hj=>?_,lKBB,xKBB,fun j hj=>?_,fun j b hj hb=>?_⟩
 .rw[DU _ _ hi];exact Hl.bF _ _ _ _ xGB
 .by_cases e:j=i
  .subst e;rw[cM];unfold lD;rw[cM,aaK];exact hc
  .rw[fy _ _ e];unfold lD;rw[fy _ _ e];exact h.ch j hj
 .by_cases e:j=i
  .subst e;rw[cM];exact leF lKG xK
  .rw[fy _ _ e];exact leF (lCG j hj e) (h.nox j hj)
 .by_cases e:j=i
  .subst e;rw[cM,fy _ _ (Ne.symm hjk)];exact Hl.yg hd (lKc k hk' (Ne.symm hjk))
  .by_cases e2:k=i
   .subst e2;rw[cM,fy _ _ e];exact Hl.te (Hl.yg hd (lKc j hj e))
   .rw[fy _ _ e,fy _ _ e2];exact h.bT j k hj hk' hjk
 .by_cases e:j=i
  .subst e;rw[cM];exact xK
  .rw[fy _ _ e];exact h.nox j hj
 .by_cases e:j=i
  .subst e;rw[cM,cM,aac];refine⟨us++[u],hoG.at fun b hb=>(by obtain⟨cc,hcc⟩:=hoG.type hb;rw[hcc];exact put2 b _ (newxx b hb) hcc),fun k v q hv hq=>?_⟩;have hl:us.length=(st j).length:=by have:=ho.1;omega
   rcases aba k us.length with qW | qW
   .rw[aaG qW]at hv;rw[aaG ah]at hq;exact ia (hus k v q hv hq) (Hl.bF _ _)
   .rw[aau qW]at hv;rw[aau ah]at hq;have hv:=aae hv;have hq:=aae hq;rw[aam]at hv hq;subst hv;subst hq;exact ia hb (Hl.bK fun b ⟨y,z⟩=>dG b (Hl.ef lBG y) z)
  .rw[fy _ _ e,fy _ _ e];obtain⟨vs,h1,h2⟩:=h.row j hj;refine⟨vs,h1.at fun b hb=>?_,fun k v q hv hq=>ia (h2 k v q hv hq) (Hl.bF _ _)⟩;obtain⟨c,hcb⟩:=ownM j b hj hb;rw[Hl.ze H (Kc i) _ _ hcb];refine put2 b _ (ownx j b hj hb) ?_;rw[hk b (Hl.ef lM (Hl.mem_of hcb)) fun e'=>((h.own i b hi e'.symm).2 j hj).2 e hb,lM _ _ hcb]
 .by_cases e:j=i
  .subst e;rw[cM];exact fun b ⟨y,z⟩=>(Hl.dw.1 y).elim (fun y=>hd b ⟨z,Hl.ef lKB y⟩) (fun y=>dG b (Hl.ef lKG z) y)
  .rw[fy _ _ e];exact fun b ⟨y,z⟩=>(Hl.dw.1 y).elim (fun y=>h.kbc j hj b ⟨y,z⟩) (fun y=>dG b (Hl.ef (lCG j hj e) z) y)
 .by_cases e:j=i
  .subst e;rw[cM]at hb;refine⟨fun hm=>(Hl.dw.1 hm).elim (newn (fun b o hb=>lM _ _ (lKB b o hb)) (fun b hb=>(h.own j b hi hb).1) b hb) (fun y=>by obtain⟨cc,hcc⟩:=hoG.type hb;exact dG b (Hl.mem_of hcc) y),fun k hk'=>?_⟩;by_cases e2:k=j
   .subst e2;rw[cM];exact⟨newn lK nK b hb,fun h=>absurd rfl h⟩
   .rw[fy _ _ e2,fy _ _ e2];exact⟨newn (fun b o hb=>lM _ _ (lKc k hk' e2 b o hb)) (fun b hb=>((h.own j b hi hb).2 k hk').1) b hb,fun _=>newo k b hk' e2 hb⟩
  .rw[fy _ _ e]at hb;obtain⟨c,hcb⟩:=ownM j b hj hb;refine⟨fun hm=>(Hl.dw.1 hm).elim (h.own j b hj hb).1 (fun y=>dG b (by
    have e1:G b=some (.cells c 46 (0,0)):=by rw[hk b (Hl.ef lM (Hl.mem_of hcb)) fun e'=>((h.own i b hi e'.symm).2 j hj).2 e hb,lM _ _ hcb]
    exact Hl.mem_of e1) y),fun k hk'=>?_⟩
   by_cases e2:k=i
   .subst e2;rw[cM,cM];exact⟨fun hm=>hd b ⟨hm,Hl.mem_of hcb⟩,fun _ e3=>newo j b hj e e3 hb⟩
   .rw[fy _ _ e2,fy _ _ e2];exact(h.own j b hj hb).2 k hk'
end Go.Proofs.YtomdimlnggpgbaaGreatDoor
namespace Go.Sx
open Go
theorem kQ:∀ {l:List Hl} (_:∀ (p q:Nat) A B,p≠q->l[p]?=some A->l[q]?=some B->A.bT B) {i:Nat} {A:Hl},l[i]?=some A->A.le (cZ l)
 | [],_,_,_,h=>by simp at h
 | B::l,hd,0,A,h=>by
  simp only[aa4,aaj]at h;subst h;exact Hl.bF _ _
 | B::l,hd,i+1,A,h=>by
  have ih:=kQ (l:=l) (fun p q A B hpq ha hb=>hd (p+1) (q+1) A B ah (by simpa using ha) (by simpa using hb)) (i:=i) (A:=A) (by simpa using h);have hB:B.bT (cZ l):=fun b ⟨x,y⟩=>by
   obtain⟨C,hC,hb⟩:=CC.1 y;obtain⟨j,hj⟩:=aa9 hC;exact hd 0 (j+1) B C ah rfl (by simpa using hj) b ⟨x,hb⟩
  exact fun b o hb=>Hl.bK hB b o (ih b o hb)
end Go.Sx
namespace Go.Proofs.YtomdimlnggpgbaaGreatDoor
open Go Go.Sx Go.Pk
def Ev:Sx.Spec where
 fn:=96
 own:=[]
 rd:=[]
 res:=[.one .ptr]
 pre:=fun xs Hs Rs=>xs=[]
 post:=fun xs Hs Rs v Hs' F=>∃ x:Nat,v=.pointer (some ⟨x,0,none⟩)/\oZ F x (fun _=>[])
def Vm:List Sx.Spec:=[FR]
theorem SZ:∀ t∈Vm,t.OK Tryz.prog:=fun t ht=>by
 rw[Vm,aam]at ht;subst ht;exact O3
theorem XJ:FR.res=[.one .ptr]:=rfl
theorem OA (n:Nat):(aJ n [Cp.one .ptr]≠[])=True:=by simp [aJ,Cp.roots,Ck.root]
def Rn:aG Tryz.prog Vm Ev.fn where
 Λ:=aC
 args:=[]
 mem:=[]
 nv:=0
theorem nJ {w:Int} {x y:Int} {F:Hl} {K:List Hl} (hp:FR.post [.int .i64 w] [] [] (.pointer (az x y)) K F) (hx:-1<=x) (hy:0<=y):0<=x/\az x y=some ⟨x.toNat,0,none⟩/\ik F x.toNat w []:=by
 obtain⟨b,e,h⟩:=hp w rfl;rcases abr x 0 with hlt | h0
 .rw[show x= -1 by omega,fq]at e;cases e
 .rw[av h0]at e ⊢;simp only[Value.pointer.injEq,aaj,Addr.mk.injEq,aat]at e;obtain⟨e1,e2⟩:=e;rw[<-e1]at h;refine⟨h0,?_,h⟩;rw[e2]
theorem Ew:Ev.OK Tryz.prog:=by
 refine Spec.aT (Γ:=Vm) SZ ?_;rintro xs Hs Rs hl1 hl2 rfl;have e0:Hs=[]:=aad.1 hl1;have e1:Rs=[]:=aad.1 hl2;subst e0 e1;refine⟨Rn,aM [] false [],fun _ _=>True,fun _ _=>0,rfl,cQ (by intro r hr;simp [Rn]at hr) rfl,(fun _ h=>nomatch h),?_⟩;refine aG.read [] [] [] ?_;generalize aM [] false []=J;simp only[go_sem,Nat.reduceAdd,Vm,XJ,OA];intro q0 g0 p0;refine⟨⟨1,rfl⟩,fun q1 g1 ⟨F1,a1,b1,n1⟩=>⟨⟨2,rfl⟩,fun q2 g2 ⟨F2,a2,b2,n2⟩=>⟨⟨3,rfl⟩,fun q3 g3 ⟨F3,a3,b3,n3⟩=>⟨⟨4,rfl⟩,fun q4 g4 ⟨F4,a4,b4,n4⟩=>⟨⟨5,rfl⟩,fun q5 g5 ⟨F5,a5,b5,n5⟩=>⟨⟨6,rfl⟩,fun q6 g6 ⟨F6,a6,b6,n6⟩=>?_⟩⟩⟩⟩⟩⟩;obtain⟨m1,c1,d1⟩:=nJ a1 n1.1.1 n1.1.2;obtain⟨m2,c2,d2⟩:=nJ a2 n2.1.1 n2.1.2;obtain⟨m3,c3,d3⟩:=nJ a3 n3.1.1 n3.1.2;obtain⟨m4,c4,d4⟩:=nJ a4 n4.1.1 n4.1.2;obtain⟨m5,c5,d5⟩:=nJ a5 n5.1.1 n5.1.2;obtain⟨m6,c6,d6⟩:=nJ a6 n6.1.1 n6.1.2;have b1:=b1 trivial;have b2:=b2 trivial;have b3:=b3 trivial;have b4:=b4 trivial;have b5:=b5 trivial;have b6:=b6 trivial;have A5:ai 11 q5 q6:=g6;have A4:ai 9 q4 q6:=g5.tr A5;have A3:ai 7 q3 q6:=g4.tr A4;have A2:ai 5 q2 q6:=g3.tr A3;have A1:ai 3 q1 q6:=g2.tr A2;rw[<-b1,<-A1.i 1,<-A1.h 1]at d1;rw[<-b2,<-A2.i 3,<-A2.h 3]at d2;rw[<-b3,<-A3.i 5,<-A3.h 5]at d3;rw[<-b4,<-A4.i 7,<-A4.h 7]at d4;rw[<-b5,<-A5.i 9,<-A5.h 9]at d5;rw[<-b6]at d6;rw[<-A1.i 1,<-A1.i 2]at c1;rw[<-A2.i 3,<-A2.i 4]at c2;rw[<-A3.i 5,<-A3.i 6]at c3;rw[<-A4.i 7,<-A4.i 8]at c4;rw[<-A5.i 9,<-A5.i 10]at c5;have p0:0<=q6.i 0:=by rw[A1.i 0,g1.i 0];exact p0
 intro hdis;generalize hm:([bE.bw 0 (ar 1 (List.replicate 6 Ck.ptr)++[.sl (.lit (-1)) (.lit 0) (.lit 0) (.lit 0),.sl (.lit (-1)) (.lit 0) (.lit 0) (.lit 0),.sl (.lit (-1)) (.lit 0) (.lit 0) (.lit 0),.sl (.lit (-1)) (.lit 0) (.lit 0) (.lit 0),.sl (.lit (-1)) (.lit 0) (.lit 0) (.lit 0),.sl (.lit (-1)) (.lit 0) (.lit 0) (.lit 0),.int .i64 (.lit 0)]) 182,.hp 1 [] [.var 1] [],.hp 3 [] [.var 3] [],.hp 5 [] [.var 5] [],.hp 7 [] [.var 7] [],.hp 9 [] [.var 9] [],.hp 11 [] [.var 11] []]:Mem)=mem at *;have hown:∀ r∈mem,r.own=true:=by rw[<-hm];intro r hr;simp at hr;rcases hr with rfl | rfl | rfl | rfl | rfl | rfl | rfl<;>rfl
 have hl:mem.map (bE.hl q6)=[Hl.one (q6.i 0).toNat (.cells (DE (fun i=>([q6.i 1,q6.i 3,q6.i 5,q6.i 7,q6.i 9,q6.i 11].getD i 0).toNat) (fun _=>.slice none 0 0) 0).toArray 182 (0,0)),q6.h 1,q6.h 3,q6.h 5,q6.h 7,q6.h 9,q6.h 11]:=by
  rw[<-hm];have:Hl.one (q6.i 0).toNat (.cells #[.pointer (az (q6.i 1) (q6.i 2)),.pointer (az (q6.i 3) (q6.i 4)),.pointer (az (q6.i 5) (q6.i 6)),.pointer (az (q6.i 7) (q6.i 8)),.pointer (az (q6.i 9) (q6.i 10)),.pointer (az (q6.i 11) (q6.i 12)),.slice none 0 0,.slice none 0 0,.slice none 0 0,.slice none 0 0,.slice none 0 0,.slice none 0 0,.int .i64 0] 182 (0,0))=Hl.one (q6.i 0).toNat (.cells (DE (fun i=>([q6.i 1,q6.i 3,q6.i 5,q6.i 7,q6.i 9,q6.i 11].getD i 0).toNat) (fun _=>.slice none 0 0) 0).toArray 182 (0,0)):=by
   rw[c1,c2,c3,c4,c5,c6];rfl
  rw[<-this];rfl
 have hdl:∀ (p q:Nat) A B,p≠q->(mem.map (bE.hl q6))[p]?=some A->(mem.map (bE.hl q6))[q]?=some B->A.bT B:=by
  intro p q A B hpq ha hb;rw[aao]at ha hb;obtain⟨r,hr,rfl⟩:=aak.1 ha;obtain⟨s,hs,rfl⟩:=aak.1 hb;exact hdis p q r s hpq hr hs (hown r (aae hr))
 rw[hl]at hdl;have hK:∀ i,i<6->([Hl.one (q6.i 0).toNat (.cells (DE (fun i=>([q6.i 1,q6.i 3,q6.i 5,q6.i 7,q6.i 9,q6.i 11].getD i 0).toNat) (fun _=>.slice none 0 0) 0).toArray 182 (0,0)),q6.h 1,q6.h 3,q6.h 5,q6.h 7,q6.h 9,q6.h 11])[i+1]?=some ([q6.h 1,q6.h 3,q6.h 5,q6.h 7,q6.h 9,q6.h 11].getD i Hl.none):=fun i hi=>by
  have:i=0\/i=1\/i=2\/i=3\/i=4\/i=5:=ah;rcases this with rfl | rfl | rfl | rfl | rfl | rfl<;>rfl
 have hF:wR q6 mem [0,1,2,3,4,5,6]=cZ (mem.map (bE.hl q6)):=by rw[<-hm];rfl
 refine⟨[],[0,1,2,3,4,5,6],rfl,by rw[<-hm];rfl,⟨(bc fun k=>if k=0 then q6.i 0 else 0),rfl,⟨by show -1<=q6.i 0;omega,aap 0⟩,trivial⟩,(q6.i 0).toNat,?_,?_⟩
 .show Value.pointer (az (q6.i 0) 0)=_;rw[av p0];rfl
 rw[hF,hl];refine⟨_,_,fun i=>[q6.h 1,q6.h 3,q6.h 5,q6.h 7,q6.h 9,q6.h 11].getD i Hl.none,Hl.none,Hl.bF _ _ _ _ (Hl.aX _ _),fun i hi=>?_,fun i hi=>kQ hdl (hK i hi),fun i j hi hj hij=>hdl (i+1) (j+1) _ _ ah (hK i hi) (hK j hj),fun i hi=>Hl.fZ.1 (hdl 0 (i+1) _ _ ah rfl (hK i hi)),fun i hi=>⟨[],⟨rfl,Or.inl ⟨rfl,rfl⟩⟩,fun j u p h=>by simp at h⟩,(fun _ _ h=>by cases h),(fun h=>by cases h),(fun i hi b ⟨h,_⟩=>by cases h),(fun i b _ h=>by cases h)⟩;have:i=0\/i=1\/i=2\/i=3\/i=4\/i=5:=ah;rcases this with rfl | rfl | rfl | rfl | rfl | rfl
 .exact d1
 .exact d2
 .exact d3
 .exact d4
 .exact d5
 .exact d6
theorem Zn {row:List Value} (h:bg row rI):row=row.take 125++[row.getD 125 Bk]:=by
 have hl:=fU h;rw[mj]at hl;apply aaL;intro k;rcases aba k 125 with hk | hk
 .rw[aaG (by rw[aaz];omega),aaX,aax hk]
 .rw[aau (by rw[aaz];omega),aaz,hl];rcases aba k 126 with bU | bU
  .have:k=125:=ah;subst this;show _=some (row.getD 125 Bk);rw[aan,aab ah];rfl
  .rw[aaq ah,aaq (by simp;omega)]
theorem CT {a:Int} {row:List Value} (hs:List (Nat×Hl)) (h:bg row rI):∃ q:Env,q.i 0=a/\row=(ar 1 iT).map (CV.ev q)/\(∀ k,q.h k=AD hs k)/\bz 1 iT q:=by
 obtain⟨q,g,hn,e⟩:=dr iT 1 row (bc fun _=>a) h;exact⟨⟨q.i,q.b,q.s,q.v,AD hs⟩,g.i 0,by rw[<-Py (AD hs)];exact e.symm,fun _=>rfl,Qg _ _ _ hn⟩
set_option maxRecDepth 20000 in
theorem N0 (n:Nat):ar n iT=ar n bU++[.sl (.var (n+128)) (.var (n+128+1)) (.var (n+128+2)) (.var (n+128+3))]:=by
 have:∀ (a b:List Ck) (n:Nat),ar n (a++b)=ar n a++ar (n+aY a) b:=by
  intro a
  induction a with
  | nil=>intro b n;simp [ar,aY]
  | cons k a ih=>intro b n;rw[ab0,ar,ar,ih,ab0];simp [aY,abL]
 rw[iT,this];rfl
set_option maxRecDepth 20000 in
theorem ou (q:Env) (n:Nat):((ar n iT).map (CV.ev q)).take 125=(ar n bU).map (CV.ev q):=by
 rw[N0,aaK];exact acp (by rw[aaB];rfl)
set_option maxRecDepth 20000 in
theorem tN (q:Env) (n:Nat):((ar n iT).map (CV.ev q)).getD 125 Bk=.slice (az (q.i (n+128)) (q.i (n+128+1))) (q.i (n+128+2)).toNat (q.i (n+128+3)).toNat:=by
 have hl:((ar n bU).map (CV.ev q)).length=125:=by rw[aaB];rfl
 rw[N0,aaK,aan,aau ah,hl];rfl
theorem Aq {R:Hl} {row:List Value} {h:Hd} (hx:bN R row h) (bs:List Int):fk row bs=fk h.c bs:=by
 unfold fk;rw[hx.I (k:=92) aB];have:aU h.c 60 32=aU row 60 32:=by
  unfold aU;refine aa7 fun j hj=>hx.I ?_;have:=aaM.1 hj;omega
 rw[this]
open Classical in
noncomputable def br (st:Nat->List Pc) (p:Pc):Int :=
 if ¬p.h.Form then 1
 else if gz (cI p.h.c 0) (lD st (cI p.h.c 0-1).toNat) p.h≠0 then gz (cI p.h.c 0) (lD st (cI p.h.c 0-1).toNat) p.h
 else if fk p.h.c p.b=false then 2 else if 400<=dL st then 4 else 0
theorem RQ.YS {R:Hl} {x:Nat} {st st':Nat->List Pc} {a a':Nat->Nat} {sv sv':Nat->Value} (h:RQ R x st a sv) (h':RQ R x st' a' sv') {i:Nat} (hi:i<6):st i=st' i:=by
 obtain⟨e1,e2,_⟩:=h.cells hi;obtain⟨f1,f2,_⟩:=h'.cells hi;rw[e1]at f1;rw[e2]at f2;simp only[aaj,Value.pointer.injEq,Addr.mk.injEq,aat]at f1 f2;have c1:=h.ch i hi;have c2:=h'.ch i hi;rw[f1]at c1;have eh:=(c1.uniq c2).2;obtain⟨us,o1,b1⟩:=h.row i hi;obtain⟨vs,o2,b2⟩:=h'.row i hi;rw[f2]at o1;obtain⟨el,eu⟩:=o1.inj o2;subst eu;apply abU el;intro j h1 h2;have hul:j<us.length:=by have:=o1.1;omega
 have hu:us[j]?=some us[j]:=aab hul;have p1:=b1 j _ _ hu (aab h1);have p2:=b2 j _ _ hu (aab h2);have eb:=p1.uniq p2;have ehh:(st i)[j].h=(st' i)[j].h:=by
  have:=aaQ (fun l=>l[j]?) eh;simpa [lD,aao,h1,h2] using this
 generalize (st i)[j]=x at *;generalize (st' i)[j]=y at *;cases x;cases y;simp only at eb ehh;rw[eb,ehh]
theorem o9.st {R:Hl} {x:Nat} {st st':Nat->List Pc} (h:o9 R x st) (h':o9 R x st') {i:Nat} (hi:i<6):st i=st' i:=by
 obtain⟨a,sv,h⟩:=h;obtain⟨a',sv',h'⟩:=h';exact h.YS h' hi
theorem Gr {st st':Nat->List Pc} (h:∀ i,i<6->st i=st' i):dL st=dL st':=by
 unfold dL;rw[h 0 ah,h 1 ah,h 2 ah,h 3 ah,h 4 ah,h 5 ah]
theorem yE {h:Hd} (hF:h.Form):1<=cI h.c 0/\cI h.c 0<=6:=hF.1.1
theorem nh {st st':Nat->List Pc} (h:∀ i,i<6->st i=st' i) (p:Pc):br st p=br st' p:=by
 unfold br;rw[Gr h];by_cases hF:p.h.Form
 .have:=yE hF;unfold lD;rw[h (cI p.h.c 0-1).toNat ah]
 .rw[aax hF,aax hF]
def qz:Sx.Spec where
 fn:=70
 own:=[]
 rd:=[0]
 res:=[.one (.int .i64)]
 pre:=fun xs Hs Rs=>∃ x R st,xs=[.pointer (some ⟨x,0,none⟩)]/\Rs=[R]/\o9 R x st
 post:=fun xs Hs Rs v Hs' F=>∀ x R st,xs=[.pointer (some ⟨x,0,none⟩)]->Rs=[R]->o9 R x st->v=.int .i64 (dL st)
def I2:aG Tryz.prog [] qz.fn where
 Λ:=aC
 args:=[TP (.var 0) (.lit 0)]
 mem:=[.ro 1 [.var 0] true]
 nv:=2
theorem yK:qz.OK Tryz.prog:=by
 refine Spec.aT (Γ:=[]) (fun _ h=>by cases h) ?_;rintro xs Hs Rs hl1 hl2 ⟨x,R,st,rfl,rfl,hI⟩;have e0:Hs=[]:=aad.1 hl1;subst e0;refine⟨I2,aM [x] false [Hl.none,R],fun _ _=>True,fun _ _=>0,?_,cQ (by intro r hr;simp [I2]at hr;subst hr;exact⟨_,_,_,rfl⟩) rfl,(fun _ h=>nomatch h),?_⟩
 .show [Value.pointer (az (x:Int) 0)]=_;rw[av ah];rfl
 .refine aG.read [] [] [] ?_;generalize hρ:aM [(x:Int)] false [Hl.none,R]=J;have v0:J.i 0=x:=by rw[<-hρ];rfl
  have w1:J.h 1=R:=by rw[<-hρ];rfl
  simp only[go_sem,Nat.reduceAdd];rw[v0,w1];obtain⟨a,sv,hR⟩:=id hI;obtain⟨_,_,e12⟩:=hR.cells (i:=0) ah;have e12:R.cell ((x:Int)).toNat (Int.toNat 12)=some (.int .i64 (dL st)):=by rw[aaa];exact e12
  rw[e12];refine⟨ah,rfl,ng rfl (z:=dL st) ?_ fun F x' R' st' h1 h2 h'=>?_⟩
  .show ck ((J.h 1).cell (J.i 0).toNat (Int.toNat 12+0))=_;rw[v0,w1,aa0,e12];rfl
  .simp only[aaf,aat,Value.pointer.injEq,aaj,Addr.mk.injEq]at h1 h2;subst h1 h2;rw[Gr fun i hi=>hI.st h' hi]
def GI (st:Nat->List Pc):List Value:=[.int .u64 (st 0).length,.int .u64 (st 1).length,.int .u64 (st 2).length,.int .u64 (st 3).length,.int .u64 (st 4).length,.int .u64 (st 5).length]
def mK (st:Nat->List Pc):Prop:=∀ i,i<6->(st i).length<1000000
def xn:Sx.Spec where
 fn:=69
 own:=[]
 rd:=[0]
 res:=[.agg (List.replicate 6 (Ck.int .u64))]
 pre:=fun xs Hs Rs=>∃ x R st,xs=[.pointer (some ⟨x,0,none⟩)]/\Rs=[R]/\o9 R x st/\mK st
 post:=fun xs Hs Rs v Hs' F=>∀ x R st,xs=[.pointer (some ⟨x,0,none⟩)]->Rs=[R]->o9 R x st->mK st->v=.agg (GI st).toArray
def WD:List Sx.Spec:=[yI]
def I4:aG Tryz.prog WD xn.fn where
 Λ:=aC
 args:=[TP (.var 0) (.lit 0)]
 mem:=[.ro 1 [.var 0] true]
 nv:=2
theorem GL:xn.OK Tryz.prog:=by
 refine Spec.aT (Γ:=WD) (fun t ht=>by rw[WD,aam]at ht;subst ht;exact yJ) ?_;rintro xs Hs Rs hl1 hl2 ⟨x,R,st,rfl,rfl,hI,hS⟩;have e0:Hs=[]:=aad.1 hl1;subst e0;refine⟨I4,aM [x] false [Hl.none,R],fun _ _=>True,fun _ _=>0,?_,cQ (by intro r hr;simp [I4]at hr;subst hr;exact⟨_,_,_,rfl⟩) rfl,(fun _ h=>nomatch h),?_⟩
 .show [Value.pointer (az (x:Int) 0)]=_;rw[av ah];rfl
 .refine aG.read [] [] [] ?_;generalize hρ:aM [(x:Int)] false [Hl.none,R]=J;have v0:J.i 0=x:=by rw[<-hρ];rfl
  have w1:J.h 1=R:=by rw[<-hρ];rfl
  clear hρ;obtain⟨a,sv,hR⟩:=id hI;have hc:∀ q:Env,ai 2 J q->∀ i,i<6->(q.h 1).cell (q.i 0).toNat (Int.toNat 0+i)=some (.pointer (some ⟨a i,0,none⟩))/\q.h 1=R:=fun q g i hi=>by
   rw[g.i 0,g.h 1,v0,w1,aaa];refine⟨?_,rfl⟩;have:=(hR.cells hi).1;rw[show Int.toNat 0+i=i from aaP i];exact this
  simp only[go_sem,Nat.reduceAdd,WD,Sg];have hp:∀ q:Env,ai 2 J q->∀ i,i<6->Value.pointer (az (bm ((q.h 1).cell (q.i 0).toNat (Int.toNat 0+i)) 0) (bm ((q.h 1).cell (q.i 0).toNat (Int.toNat 0+i)) 1))=.pointer (some ⟨a i,0,none⟩)/\q.h 1=R/\bD ((q.h 1).cell (q.i 0).toNat (Int.toNat 0+i)) .ptr=true:=fun q g i hi=>by
   obtain⟨e1,e2⟩:=hc q g i hi;rw[e1];exact⟨iJ,e2,rfl⟩
  have hl:∀ i,i<6->(lD st i).length<1000000:=fun i hi=>by unfold lD;rw[aaB];exact hS i hi
  intro q0 g0 _ q1 g1 _;have G1:ai 2 J q1:=g0.tr g1;obtain⟨f1,f2,f3⟩:=hp q1 G1 0 ah;refine⟨by rw[G1.i 0,v0];omega,f3,(hp q1 G1 1 ah).2.2,(hp q1 G1 2 ah).2.2,(hp q1 G1 3 ah).2.2,(hp q1 G1 4 ah).2.2,(hp q1 G1 5 ah).2.2,?_⟩;have f1:Value.pointer (az (bm ((q1.h 1).cell (q1.i 0).toNat (Int.toNat 0)) 0) (bm ((q1.h 1).cell (q1.i 0).toNat (Int.toNat 0)) 1))=.pointer (some ⟨a 0,0,none⟩):=f1;rw[f1,f2];refine⟨⟨_,R,_,_,rfl,rfl,hR.ch 0 ah⟩,fun q2 g2 ⟨F2,h2,_⟩=>?_⟩;have h2:=jw (hR.ch 0 ah) (hl 0 ah) h2;have G2:ai 2 J q2:=G1.tr g2;rw[(hp q2 G2 1 ah).1,(hp q2 G2 1 ah).2.1];refine⟨⟨_,R,_,_,rfl,rfl,hR.ch 1 ah⟩,fun q3 g3 ⟨F3,h3,_⟩=>?_⟩;have h3:=jw (hR.ch 1 ah) (hl 1 ah) h3;have G3:ai 2 J q3:=G2.tr g3;rw[(hp q3 G3 2 ah).1,(hp q3 G3 2 ah).2.1];refine⟨⟨_,R,_,_,rfl,rfl,hR.ch 2 ah⟩,fun q4 g4 ⟨F4,h4,_⟩=>?_⟩;have h4:=jw (hR.ch 2 ah) (hl 2 ah) h4;have G4:ai 2 J q4:=G3.tr g4;rw[(hp q4 G4 3 ah).1,(hp q4 G4 3 ah).2.1];refine⟨⟨_,R,_,_,rfl,rfl,hR.ch 3 ah⟩,fun q5 g5 ⟨F5,h5,_⟩=>?_⟩;have h5:=jw (hR.ch 3 ah) (hl 3 ah) h5;have G5:ai 2 J q5:=G4.tr g5;rw[(hp q5 G5 4 ah).1,(hp q5 G5 4 ah).2.1];refine⟨⟨_,R,_,_,rfl,rfl,hR.ch 4 ah⟩,fun q6 g6 ⟨F6,h6,_⟩=>?_⟩;have h6:=jw (hR.ch 4 ah) (hl 4 ah) h6;have G6:ai 2 J q6:=G5.tr g6;rw[(hp q6 G6 5 ah).1,(hp q6 G6 5 ah).2.1];refine⟨⟨_,R,_,_,rfl,rfl,hR.ch 5 ah⟩,fun q7 g7 ⟨F7,h7,_⟩=>?_⟩;have h7:=jw (hR.ch 5 ah) (hl 5 ah) h7;intro _;refine⟨[],[],rfl,rfl,⟨(bc fun k=>q7.i (k+4)),rfl,⟨trivial,trivial,trivial,trivial,trivial,trivial,trivial⟩,trivial⟩,fun x' R' st' e1 e2 h' hS'=>?_⟩;simp only[aaf,aat,Value.pointer.injEq,aaj,Addr.mk.injEq]at e1 e2;subst e1 e2;have es:∀ i,i<6->((lD st i).length:Int)=(st' i).length:=fun i hi=>by unfold lD;rw[aaB,hI.st h' hi]
  show Value.agg #[.int .u64 (q7.i 4),.int .u64 (q7.i 5),.int .u64 (q7.i 6),.int .u64 (q7.i 7),.int .u64 (q7.i 8),.int .u64 (q7.i 9)]=_;have B6:ai 9 q6 q7:=g7;have B5:ai 8 q5 q7:=g6.tr B6;have B4:ai 7 q4 q7:=g5.tr B5;have B3:ai 6 q3 q7:=g4.tr B4;have B2:ai 5 q2 q7:=g3.tr B3;rw[B2.i 4,B3.i 5,B4.i 6,B5.i 7,B6.i 8];have h2:q2.i 4=_:=h2;have h3:q3.i 5=_:=h3;have h4:q4.i 6=_:=h4;have h5:q5.i 7=_:=h5;have h6:q6.i 8=_:=h6;have h7:q7.i 9=_:=h7;rw[h2,h3,h4,h5,h6,h7,es 0 ah,es 1 ah,es 2 ah,es 3 ah,es 4 ah,es 5 ah];rfl
noncomputable def AY:Sx.Spec where
 fn:=105
 own:=[]
 rd:=[0,1001053,1001125,2000005]
 res:=[.one (.int .i64)]
 pre:=fun xs Hs Rs=>∃ x R st row T B RG p,xs=[.pointer (some ⟨x,0,none⟩),.agg row.toArray]/\Rs=[R,T,B,RG]/\o9 R x st/\mK st/\fM T B row p/\p.b.length<=900000/\uu RG 5
 post:=fun xs Hs Rs v Hs' F=>∀ x R st row T B RG p,xs=[.pointer (some ⟨x,0,none⟩),.agg row.toArray]->Rs=[R,T,B,RG]->o9 R x st->fM T B row p->v=.int .i64 (br st p)
noncomputable def WE:List Sx.Spec:=[gK 117,xZ,Dz]
theorem SU:∀ t∈WE,t.OK Tryz.prog:=au mQ <| au DT <| au LV <| bR
theorem XH:xZ.res=[.one (.int .i64)]:=rfl
theorem XI:Dz.res=[.one .bool]:=rfl
noncomputable def Rl:aG Tryz.prog WE AY.fn where
 Λ:=aC
 args:=TP (.var 0) (.lit 0)::(cn 1 [.agg Av]).map .sv
 mem:=[.ro 133 [.var 0] true,.ro 134 [.var 54] false,.ro 135 [.var 129] false,.ro 136 [.lit 5] false]
 nv:=137
open Classical in
set_option maxRecDepth 20000 in
theorem Es:AY.OK Tryz.prog:=by
 refine Spec.aT (Γ:=WE) SU ?_;rintro xs Hs Rs hl1 hl2 ⟨x,R,st,row,T,B,RG,p,rfl,rfl,hI,hS,hx,hlen,hKat⟩;have e0:Hs=[]:=aad.1 hl1;subst e0;obtain⟨J,va,rfl,hh,hnw⟩:=CT (a:=(x:Int)) [(133,R),(134,T),(135,B),(136,RG)] hx.ok;have w1:J.h 133=R:=hh 133;have w2:J.h 134=T:=hh 134;have w3:J.h 135=B:=hh 135;have w4:J.h 136=RG:=hh 136;refine⟨Rl,J,fun _ _=>True,fun _ _=>0,?_,cQ (by intro r hr;simp [Rl]at hr;rcases hr with rfl | rfl | rfl | rfl<;>exact⟨_,_,_,rfl⟩) (by show [J.h 133,J.h 134,J.h 135,J.h 136]=_;rw[w1,w2,w3,w4]),(fun _ h=>nomatch h),?_⟩
 .show [Value.pointer (az (J.i 0) 0),.agg ((ar 1 iT).map (CV.ev J)).toArray]=_;rw[va,av ah];rfl
 refine aG.read [bU,Av] [] [] ?_;simp only[go_sem,Nat.reduceAdd,WE,Sn,XH,XI];generalize hrow0:(ar 1 iT).map (CV.ev J)=row at *;have ht0:(ar 1 bU).map (CV.ev J)=row.take 125:=by rw[<-hrow0,ou]
 have V:∀ q:Env,ai 137 J q->q.i 0=x/\q.h 133=R/\q.h 134=T/\q.h 135=B/\q.h 136=RG/\(ar 1 bU).map (CV.ev q)=row.take 125/\(ar 1 Av).map (CV.ev q)=row/\q.i 1=J.i 1:=fun q g=>by
  refine⟨by rw[g.i 0,va],by rw[g.h 133,w1],by rw[g.h 134,w2],by rw[g.h 135,w3],by rw[g.h 136,w4],?_,?_,g.i 1⟩
  .rw[<-ht0];exact aaQ Array.toList (Value.agg.inj (ft (ks:=bU) (n:=1) g aB))
  .rw[<-hrow0];exact aaQ Array.toList (Value.agg.inj (ft (ks:=iT) (n:=1) g aB))
 obtain⟨a,sv,hR⟩:=id hI;have hbody:row=row.take 125++[row.getD 125 Bk]:=Zn hx.ok;have hd:=hx.hd;have hw1:cI p.h.c 0=J.i 1:=by
  have e1:cI p.h.c 0=cI (row.take 125) 0:=hd.I aB;rw[e1,<-ht0];rfl
 have out:∀ {q:Env} {mem:Mem} {e:E},aA q e=br st p->postOf AY [.pointer (some ⟨x,0,none⟩),.agg row.toArray] [] [R,T,B,RG] q mem (.sv (.one (.int .i64 e))):=fun {q mem e} he =>
  ng rfl he fun F x' R' st' row' T' B' RG' p' e1 e2 h' hx'=>by
   simp only[aaf,aat,Value.pointer.injEq,aaj,Addr.mk.injEq,Value.agg.injEq]at e1 e2;obtain⟨rfl,e1⟩:=e1;obtain⟨rfl,rfl,rfl,rfl⟩:=e2;have e1:=aaI e1;subst e1;obtain rfl:=hx.uniq hx';rw[nh (fun i hi=>hI.st h' hi) p]
 intro q1 g1 p1;obtain⟨v0,x1,x2,x3,x4,xr,xr2,_⟩:=V q1 g1;rw[xr,x2];refine⟨⟨_,T,p.h,rfl,rfl,hd⟩,fun q2 g2 ⟨F2,hp2,_⟩=>?_⟩;have G2:ai 137 J q2:=g1.tr g2;have hb2:q2.b 138=decide p.h.Form:=Value.bool.inj (kJ hd hp2);obtain⟨y0,y1,y2,y3,y4,yr,yr2,y5⟩:=V q2 G2;refine⟨fun hb=>out ?_,fun hb=>?_⟩
 .have hF:¬p.h.Form:=by rw[hb2]at hb;simpa using hb
  unfold br;rw[aax hF];rfl
 have hF:p.h.Form:=by rw[hb2]at hb;simpa using hb
 have hFn:¬¬p.h.Form:=fun g=>g hF;have hw:=yE hF;have hw2:IntKind.i64.wrap (J.i 1-1)=((cI p.h.c 0-1).toNat:Nat):=by rw[hw1,IntKind.wrap_i64];rw[hw1]at hw;omega
 generalize hi:(cI p.h.c 0-1).toNat=i at *;have hi6:i<6:=ah;have hwi:cI p.h.c 0=((i+1:Nat):Int):=ah;obtain⟨c1,c2,c3⟩:=hR.cells hi6;have c1':R.cell ((x:Int)).toNat (Int.toNat ((i:Nat):Int))=some (.pointer (some ⟨a i,0,none⟩)):=by rw[aaa,aaa];exact c1
 have c3':R.cell ((x:Int)).toNat (Int.toNat 12)=some (.int .i64 (dL st)):=by rw[aaa];exact c3
 have hlen2:(lD st i).length<1000000:=by unfold lD;rw[aaB];exact hS i hi6
 rw[y0,y1,y2,y5,yr,hw2,c1',iJ];refine⟨ah,ah,ah,rfl,⟨a i,R,_,_,_,T,p.h,rfl,rfl,hR.ch i hi6,hlen2,hd⟩,fun q3 g3 ⟨F3,⟨a',R',w',hs',row',T',h',f1,f2,d2,i2,hv⟩,_⟩=>?_⟩;simp only[aaf,aat,Value.pointer.injEq,aaj,Addr.mk.injEq,Value.agg.injEq]at f1 f2;obtain⟨rfl,f1⟩:=f1;obtain⟨rfl,rfl⟩:=f2;have f1:=aaI f1;subst f1;obtain⟨rfl,rfl⟩:=(hR.ch i hi6).uniq d2;obtain rfl:=hd.uniq i2;have hask:q3.i 139=gz (cI p.h.c 0) (lD st i) p.h:=by rw[hwi];simpa using hv
 have G3:ai 137 J q3:=G2.tr g3;obtain⟨z0,z1,z2,z3,z4,zr,zr2,z5⟩:=V q3 G3;refine⟨fun hne=>out ?_,fun heq=>?_⟩
 .unfold br;rw[aal hFn,hi,aax (by rw[<-hask];exact hne)];exact hask
 have h0:¬gz (cI p.h.c 0) (lD st i) p.h≠0:=fun g=>g (hask.symm.trans heq);rw[zr2,z3,z4];have hrk:bg (row.take 125) dZ:=hd.ok;refine⟨⟨row.take 125,row.getD 125 Bk,p.b,B,RG,by rw[<-hbody],rfl,hrk,hx.body,hx.byte,hlen,hKat⟩,fun q4 g4 ⟨F4,hp4,_⟩=>?_⟩;have hp4:=hp4 (row.take 125) (row.getD 125 Bk) p.b B RG (by rw[<-hbody]) rfl hx.body;have hb4:q4.b 140=fk p.h.c p.b:=by rw[<-Aq hd];exact Value.bool.inj hp4
 have G4:ai 137 J q4:=G3.tr g4;obtain⟨u0,u1,_⟩:=V q4 G4;refine⟨fun hb=>out ?_,fun hb=>?_⟩
 .unfold br;rw[aal hFn,hi,aal h0,aax (by rw[<-hb4];simpa using hb)];rfl
 have hwb:¬fk p.h.c p.b=false:=by rw[<-hb4,hb];decide
 rw[u0,u1,c3'];refine⟨rfl,fun h4=>out ?_,fun h4=>out ?_⟩
 .have h4:400<=dL st:=h4;unfold br;rw[aal hFn,hi,aal h0,aal hwb,aax h4];rfl
 .have h4:¬400<=dL st:=h4;unfold br;rw[aal hFn,hi,aal h0,aal hwb,aal h4];rfl
open Classical in
noncomputable def cP (st:Nat->List Pc) (p:Pc):Nat->List Pc:=if br st p=0 then vl st (cI p.h.c 0-1).toNat (st (cI p.h.c 0-1).toNat++[p])else st
noncomputable def Ba:Sx.Spec where
 fn:=98
 own:=[.arg 0]
 rd:=[1001053,1001125,2000005]
 res:=[.one (.int .i64)]
 pre:=fun xs Hs Rs=>∃ x H st row T B RG p,xs=[.pointer (some ⟨x,0,none⟩),.agg row.toArray]/\Hs=[H]/\Rs=[T,B,RG]/\oZ H x st/\mK st/\fM T B row p/\p.b.length<=900000/\uu RG 5
 post:=fun xs Hs Rs v Hs' F=>∃ x H st row T B RG p H',xs=[.pointer (some ⟨x,0,none⟩),.agg row.toArray]/\Hs=[H]/\Rs=[T,B,RG]/\oZ H x st/\fM T B row p/\Hs'=[H']/\v=.int .i64 (br st p)/\oZ H' x (cP st p)
def adB:Nd:=(fun a g o m p k l=>(fun f c d h i=>(fun n=>(fun b j=>(.ext (.alloc 137) (.and (.pre d) (.ext d (.and (.imp (.not (.eq (.var 138) k)) (.post [.hp 133 [] o [],.ro 134 m false,.ro 135 l true,.ro 136 p false,.dead] (.sv (.one (.int .i64 (.var 138)))))) (.imp (.eq (.var 138) k) (.and (.e (.le k g)) (.and (.e (.le k a)) (.and (.e (.lt a (.lit 6))) (.and (.e (.his 133 g a 0 .ptr)) (.and (.pre c) (.ext c (.and (.imp (.not (.eq (.var 139) k)) (.post [.hp 139 [133] o [],.ro 134 m false,.ro 135 l true,.ro 136 p false,.dead] (.sv (.one (.int .i64 (.var 139)))))) (.imp (.eq (.var 139) k) (.and (.e (.his 139 g f 0 .slice)) (.and (.pre h) (.ext h (.ext (.alloc 145) (.and (.pre b) (.ext b (.and (.pre j) (.ext j (.and (.e (.his 148 g (.lit 12) 0 (.int .i64))) (.and (.pre i) (.ext i (.post [.hp 149 [148,146,139,133] [.var 146,.var 0] [],.ro 134 m false,.ro 135 l true,.ro 136 p false,.dead,.hp 141 [] [.var 141] [],.dead] (.sv (.one (.int .i64 k))))))))))))))))))))))))))):Nd)) (.app 146 46 1 24 (.sl (.hP 139 g f 0 0) (.hP 139 g f 0 1) n (.hP 139 g f 0 3)) n (.hp 139 [133] o []) (.cvs [.sl (.var 141) (.var 142) (.var 143) (.var 144)] 1)) (.put 148 146 g f [.sl (.var 146) k (.add n (.lit 1)) (.var 147)])) (.hP 139 g f 0 2)) (.add (.lit 6) a) (.call 1 139 [.sv (.one (.hptr (.hP 133 g a 0 0) (.hP 133 g a 0 1))),.sv (.agg (ar 1 bU))] [.hp 133 [] o []] [.ro 134 m false,.ro 136 p false]) (.call 0 138 [.sv (.one (.hptr g k)),.sv (.agg (ar 1 Av))] [] [.hp 133 [] o [],.ro 134 m false,.ro 135 l true,.ro 136 p false]) (.call 2 141 [.sv (.one (.sl (.var 129) (.var 130) (.var 131) (.var 132)))] [] [.ro 135 l true]) (.put 149 148 g (.lit 12) [.int .i64 (.wrap .i64 (.add (.hI 148 g (.lit 12) 0) (.lit 1)))])) (.wrap .i64 (.sub (.var 1) (.lit 1))) (.var 0) [.var 0] [.var 54] [.lit 5] (.lit 0) [.var 129]
noncomputable def WG (K R:Hl):List Sx.Spec:=[AY,GC Iw K R,gx]
theorem SX (K R:Hl):∀ t∈WG K R,t.OK Tryz.prog:=au Es <| au (KA rfl Ms K R) <| au kG <| bR
theorem adF (K R:Hl):(WG K R)[0]?=some AY:=rfl
theorem adG (K R:Hl):(WG K R)[1]?=some (GC Iw K R):=rfl
theorem adH (K R:Hl):(WG K R)[2]?=some gx:=rfl
theorem Vk:AY.res=[.one (.int .i64)]:=rfl
theorem XK (K R:Hl):(GC Iw K R).res=[.one (.int .i64)]:=rfl
theorem Vl:gx.res=[.one .sl]:=rfl
theorem nU {st:Nat->List Pc} {p:Pc} (h:br st p=0):p.h.Form/\gz (cI p.h.c 0) (lD st (cI p.h.c 0-1).toNat) p.h=0/\fk p.h.c p.b=true/\dL st<400:=by
 unfold br at h;split at h
 .cases h
 .rename_i hF;split at h
  .rename_i hn;exact absurd h hn
  .rename_i ha;split at h
   .cases h
   .rename_i hw;split at h
    .cases h
    .rename_i hc;exact⟨acL.1 hF,acL.1 ha,by simpa using hw,ah⟩
noncomputable def Ez (K R:Hl):aG Tryz.prog (WG K R) Ba.fn where
 Λ:=aC
 args:=TP (.var 0) (.lit 0)::(cn 1 [.agg Av]).map .sv
 mem:=[.hp 133 [] [.var 0] [],.ro 134 [.var 54] false,.ro 135 [.var 129] true,.ro 136 [.lit 5] false]
 nv:=137
set_option maxRecDepth 20000 in
theorem Ey:Ba.OK Tryz.prog:=by
 refine Spec.Qk fun xs Hs Rs ⟨x,H,st,row,T,B,RG,p,ex,eH,eR,hI,hS,hx,hlen,hKat⟩=>?_;obtain⟨a,sv,Kc,KB,hD⟩:=id hI;generalize hi:(cI p.h.c 0-1).toNat=i;refine Spec.aT (Γ:=WG (Kc i) (H.minus (Kc i))) (SX _ _) ?_;rintro xs' Hs' Rs' hl1 hl2 ⟨e1,e2,e3⟩;subst e1 e2 e3 ex eH eR;obtain⟨J,va,rfl,hh,hnw⟩:=CT (a:=(x:Int)) [(133,H),(134,T),(135,B),(136,RG)] hx.ok;have w1:J.h 133=H:=hh 133;have w2:J.h 134=T:=hh 134;have w3:J.h 135=B:=hh 135;have w4:J.h 136=RG:=hh 136;refine⟨Ez _ _,J,fun _ _=>True,fun _ _=>0,?_,⟨?_,?_,?_,?_⟩,(fun _ h=>nomatch h),?_⟩
 .show [Value.pointer (az (J.i 0) 0),.agg ((ar 1 iT).map (CV.ev J)).toArray]=_;rw[va,av ah];rfl
 .intro r hr ho;simp [Ez]at hr;rcases hr with rfl | rfl | rfl | rfl
  .exact⟨H,aF,by show(J.h 133).le H;rw[w1];exact Hl.le_refl _⟩
  all_goals cases ho
 .intro r hr ho;simp [Ez]at hr;rcases hr with rfl | rfl | rfl | rfl
  .cases ho
  .exact⟨T,aF,by show(J.h 134).le T;rw[w2];exact Hl.le_refl _⟩
  .exact⟨B,aF,by show(J.h 135).le B;rw[w3];exact Hl.le_refl _⟩
  .exact⟨RG,aF,by show(J.h 136).le RG;rw[w4];exact Hl.le_refl _⟩
 .simp [Ez,bE.own]
 .intro r hr;simp [Ez]at hr;rcases hr with rfl | rfl | rfl | rfl<;>trivial
 refine aG.lit (x:=adB) ?_;unfold adB;simp only[Nd.holds,X.pre,X.rel,X.n,Src.ok,Src.len,Src.i3,aaV,aat,abM,acw,aa0,Nat.reduceAdd,aaO,abe,vA,vu,lQ,mv,jK,vw,pq,oL,rp,gF,pg,pt,vv,pn,pj,lS,po,aq,al,bL,dm,cJ,bP,dj,fw,fE,gk,jr,gM,iX,gf,TV.ev,SV.ev,CV.ev,aaC,abp,bE.hl,lC,Cp.sv,Ck.cv,cn,Cp.len,Ck.len,iq,je,lh,adF,adG,adH,Vk,XK,Vl,JL];generalize hrow0:(ar 1 iT).map (CV.ev J)=row at *;have ht0:(ar 1 bU).map (CV.ev J)=row.take 125:=by rw[<-hrow0,ou]
 have hb0:Value.slice (az (J.i 129) (J.i 130)) (J.i 131).toNat (J.i 132).toNat=row.getD 125 Bk:=by rw[<-hrow0,tN]
 have V:∀ q:Env,ai 137 J q->q.i 0=x/\q.h 133=H/\q.h 134=T/\q.h 135=B/\q.h 136=RG/\(ar 1 bU).map (CV.ev q)=row.take 125/\(ar 1 Av).map (CV.ev q)=row/\q.i 1=J.i 1/\Value.slice (az (q.i 129) (q.i 130)) (q.i 131).toNat (q.i 132).toNat=row.getD 125 Bk:=fun q g=>by
  refine⟨by rw[g.i 0,va],by rw[g.h 133,w1],by rw[g.h 134,w2],by rw[g.h 135,w3],by rw[g.h 136,w4],?_,?_,g.i 1,?_⟩
  .rw[<-ht0];exact aaQ Array.toList (Value.agg.inj (ft (ks:=bU) (n:=1) g aB))
  .rw[<-hrow0];exact aaQ Array.toList (Value.agg.inj (ft (ks:=iT) (n:=1) g aB))
  .rw[g.i 129,g.i 130,g.i 131,g.i 132];exact hb0
 have hd:=hx.hd;have hw1:cI p.h.c 0=J.i 1:=by
  have e1:cI p.h.c 0=cI (row.take 125) 0:=hd.I aB;rw[e1,<-ht0];rfl
 have ep:Value.pointer (az (x:Int) 0)=.pointer (some ⟨x,0,none⟩):=by rw[av ah];rfl
 intro q1 g1 p1;obtain⟨v0,x1,x2,x3,x4,xr,xr2,_,_⟩:=V q1 g1;rw[v0,ep,xr2,x1,x2,x3,x4];refine⟨⟨x,H,st,_,T,B,RG,p,rfl,rfl,hI.rd,hS,hx,hlen,hKat⟩,fun q2 g2 ⟨F2,hp2,_⟩=>?_⟩;have hask:q2.i 138=br st p:=by simpa using hp2 _ _ _ _ _ _ _ _ rfl rfl hI.rd hx
 have G2:ai 137 J q2:=g1.tr g2;obtain⟨y0,y1,y2,y3,y4,yr,yr2,y5,_⟩:=V q2 G2;refine⟨fun hne _=>?_,fun heq=>?_⟩
 .refine⟨[[0]],[],rfl,rfl,⟨(bc fun _=>q2.i 138),rfl,trivial,trivial⟩,x,H,st,_,T,B,RG,p,_,rfl,rfl,rfl,hI,hx,rfl,by rw[<-hask];rfl,?_⟩;unfold cP;rw[aal (by rw[<-hask];exact hne)];show oZ (cZ [q2.h 133]) _ _;rw[aN,y1];exact hI
 obtain⟨hF,ha0,_,hcnt⟩:=nU (hask.symm.trans heq);have hw:=yE hF;rw[hi]at ha0;have hw2:IntKind.i64.wrap (J.i 1-1)=((i:Nat):Int):=by rw[IntKind.wrap_i64];rw[hw1]at hw hi;omega
 have hi6:i<6:=ah;have hwi:cI p.h.c 0=((i+1:Nat):Int):=ah;rw[hwi]at ha0;have hxK:=hD.nox i hi6;obtain⟨c1,c2,c3⟩:=(show RQ H x st a sv from ⟨hD.bw,fun j hj=>⟨Kc j,hD.le j hj,hD.ch j hj⟩,fun j hj=>by
  obtain⟨us,h1,h2⟩:=hD.row j hj;exact⟨us,h1,fun k u q hu hq=>ia (h2 k u q hu hq) hD.kb⟩⟩).cells hi6
 have c1':H.cell ((x:Int)).toNat (Int.toNat ((i:Nat):Int))=some (.pointer (some ⟨a i,0,none⟩)):=by rw[aaa,aaa];exact c1
 have hlen2:(lD st i).length<1000000:=by unfold lD;rw[aaB];exact hS i hi6
 rw[y0,y1,y2,y4,y5,yr,hw2,c1',iJ];refine⟨ah,ah,ah,rfl,⟨by rw[Hl.NA (hD.le i hi6)],Hl.K3 _ _,a i,Kc i,_,_,_,T,RG,p.h,rfl,rfl,rfl,hD.ch i hi6,hlen2,hd,hKat⟩,fun q3 g3 ⟨F3,⟨K',k1,k2,k3,a',K2,w',hs',row',T',RG',h',K'',f1,f2,f3,d2,i2,f4,hv,hok,hno⟩,_⟩=>?_⟩;simp only[aaf,aat,Value.pointer.injEq,aaj,Addr.mk.injEq,Value.agg.injEq]at f1 f2 f3 f4 k1;obtain⟨rfl,f1⟩:=f1;obtain⟨rfl,rfl⟩:=f3;have f1:=aaI f1;subst f1 f2 f4;obtain⟨rfl,rfl⟩:=cG.uniq ⟨Kc i,Hl.le_refl _,hD.ch i hi6⟩ ⟨_,Hl.le_refl _,d2⟩;obtain rfl:=hd.uniq i2;have hask3:q3.i 139=0:=by rw[<-ha0];simpa using hv
 have hch:=hok ha0;have G3:ai 137 J q3:=G2.tr g3;obtain⟨z0,z1,z2,z3,z4,zr,zr2,z5,zb⟩:=V q3 G3;refine⟨fun hne=>absurd hask3 hne,fun _=>?_⟩;have lR:(H.minus (Kc i)).le (q3.h 139):=by rw[k1];exact Hl.bK k2
 have xR:(H.minus (Kc i)) x=some (.cells (DE a sv (dL st)).toArray 182 (0,0)):=by
  unfold Hl.minus;have hxK:¬((Kc i) x).isSome=true:=hxK;rw[aal hxK];exact hD.bw
 have c2q:∀ q:Env,q.i 0=x->q.i 1=J.i 1->q.h 139=q3.h 139->(q.h 139).cell (q.i 0).toNat (6+IntKind.i64.wrap (q.i 1-1)).toNat=some (sv i):=fun q h1 h2 h3=>by
  rw[h1,h2,h3,hw2,aaa,show(6+((i:Nat):Int)).toNat=6+i by omega];have:=(I9 a sv (dL st) hi6).2;unfold Hl.cell;rw[lR _ _ xR];simpa using this
 obtain⟨us,ho,hus⟩:=hD.row i hi6;have hsl:∃ p l c,sv i=Value.slice p l c:=by
  rcases ho.2 with ⟨h,_⟩ | ⟨_,_,_,h,_⟩<;>exact⟨_,_,_,h⟩
 have hsl2:bm (some (sv i)) 2=(st i).length:=by
  rcases ho.2 with ⟨h,hn⟩ | ⟨_,_,_,h,_⟩
  .rw[h,hn];rfl
  .rw[h];rfl
 have hsv:bD (some (sv i)) .slice=true:=by obtain⟨_,_,_,e⟩:=hsl;rw[e];rfl
 rw[c2q q3 z0 z5 rfl,zb,z3];refine⟨hsv,⟨_,p.b,B,rfl,rfl,hx.body,ah⟩,fun q4 g4 ⟨F4,⟨u',bs',R',m1,m2,m3,m4⟩,hF4,hn4⟩ q5 g5 p5=>?_⟩;simp only[aaf,aat]at m1 m2;subst m1 m2;obtain rfl:=hx.body.uniq m3;rw[<-hF4 trivial]at m4;have G5:ai 139 q3 q5:=g4.mono.tr g5;have G5':ai 137 J q5:=G3.tr G5;obtain⟨s0,s1,s2,s3,s4,sr,Zv,s5,sb⟩:=V q5 G5';have h139:q5.h 139=q3.h 139:=by rw[g5.h 139,g4.h 139]
 rw[c2q q5 s0 s5 h139,gh hsl,hsl2,h139,k1,aaa];have hoM:aV (K'.un (H.minus (Kc i))) 46 1 (sv i) (st i).length us:=ho.at fun b hb=>by
  obtain⟨c,hc⟩:=ho.type hb;have hnk:=((hD.own i b hi6 hb).2 i hi6).1;have:(H.minus (Kc i)) b=H b:=by
   unfold Hl.minus;have hnk:¬((Kc i) b).isSome=true:=hnk;rw[aal hnk]
  rw[Hl.bK k2 b _ (this.trans hc),hc]
 have hst:=hS i hi6;refine⟨⟨⟨us,hoM⟩,ah,by unfold maxLen;omega,ah⟩,fun q6 g6 ⟨a1,a2,happ,hkp,_,hnw⟩=>?_⟩;have G6:ai 139 q3 q6:=G5.tr g6;obtain⟨t0,t1,t2,t3,t4,tr,Zw,t5,tb⟩:=V q6 (G3.tr G6);have h139b:q6.h 139=q3.h 139:=by rw[g6.h 139,h139]
 have ex6:(q6.h 146) x=some (.cells (DE a sv (dL st)).toArray 182 (0,0)):=by
  have e1:=Hl.bK k2 x _ xR;rw[hkp x (Hl.mem_of e1) fun e=>?_,e1];obtain⟨c,hc⟩:=ho.type e.symm;rw[hD.bw]at hc;simp at hc
 have en:(((st i).length:Int)+1).toNat=(st i).length+1:=ah;have e6i:(6+((i:Nat):Int)).toNat=6+i:=ah;rw[c2q q6 t0 t5 h139b,hsl2,en,t0,t5,hw2,e6i,aaa];refine⟨⟨ah,ah,jI ex6 (by show 6+i+1<=13;omega)⟩,fun q7 g7 p7=>?_⟩;have G7:ai 139 q3 q7:=G6.tr g7;obtain⟨r0,_⟩:=V q7 (G3.tr G7);have ex7:(q7.h 148) x=some (.cells (DE a (vl sv i (.slice (az (q6.i 146) 0) ((st i).length+1) (q6.i 147).toNat)) (dL st)).toArray 182 (0,0)):=by
  rw[p7,Hl.si ex6];simp only[acx];rw[Nk _ _ _ _ hi6]
 have c12:(q7.h 148).cell ((x:Int)).toNat (Int.toNat 12)=some (.int .i64 (dL st)):=by
  rw[aaa];unfold Hl.cell;rw[ex7];rfl
 rw[r0,c12];have hc0:0<=dL st:=ab2 _;have hwc:IntKind.i64.wrap (ck (some (Value.int .i64 (dL st)))+1)=dL st+1:=by
  show IntKind.i64.wrap (dL st+1)=_;rw[IntKind.wrap_i64];omega
 rw[hwc,aaa];refine⟨rfl,⟨ah,ah,jI ex7 (by show 12+1<=13;omega)⟩,fun q8 g8 p8=>?_⟩;intro hdis;have hGB:(q8.h 149).bT (q8.h 141):=hdis 0 5 _ _ aB rfl rfl rfl;have h141:q8.h 141=q4.h 141:=by rw[g8.h 141,g7.h 141,g6.h 141,g5.h 141]
 have e8:q8.h 149=((q6.h 146).put x (6+i) [.slice (az (q6.i 146) 0) ((st i).length+1) (q6.i 147).toNat]).put x 12 [.int .i64 (dL st+1)]:=by rw[p8,p7];rfl
 rw[e8,h141]at hGB;have m4':cV (q4.h 141) (.slice (az (q5.i 141) (q5.i 142)) (q5.i 143).toNat (q5.i 144).toNat) p.b:=by
  rw[g5.i 141,g5.i 142,g5.i 143,g5.i 144];exact m4.rd.w
 have key:=hD.put hi6 k2 hch m4' a1 happ hkp hnw hGB;have e0:br st p=0:=hask.symm.trans heq;refine⟨[[0,5]],[],rfl,rfl,⟨(bc fun _=>0),rfl,trivial,trivial⟩,x,H,st,_,T,B,RG,p,_,rfl,rfl,rfl,hI,hx,rfl,by rw[e0];rfl,?_⟩;unfold cP;rw[aax e0,hi];show oZ (cZ [q8.h 149,q8.h 141]) _ _;rw[CD,e8,h141];exact⟨_,_,_,_,key⟩
theorem om {q:Env} : ∀ {a b:List Ck} {n:Nat},bV n a q->bV (n+aY a) b q->bV n (a++b) q
 | [],b,n,_,h=>by simpa [aY] using h
 | k::a,b,n,h,h2=>⟨h.1,om h.2 (by rw[show n+k.len+aY a=n+aY (k::a)by simp [aY];omega];exact h2)⟩
theorem Hj {q:Env} {n:Nat} (h:gJ (n+53) q .sl):bV n bU q:=by
 have e:bU=([i64,.int .u64]++List.replicate 32 (.int .u8)++[i64,.bool,.int .u64]++List.replicate 16 (.int .u8))++([.sl]++(List.replicate 6 (.int .u64)++List.replicate 32 (.int .u8)++[i64]++List.replicate 32 (.int .u8))):=rfl;rw[e];exact om (cH _ _ _ rfl) (om ⟨h,trivial⟩ (cH _ _ _ rfl))
set_option maxRecDepth 20000 in
theorem NO {q:Env} {n:Nat} (h:gJ (n+53) q .sl) (h2:gJ (n+128) q .sl):bV n iT q:=om (Hj h) ⟨h2,trivial⟩
def Good (st:Nat->List Pc):Prop:=∀ i,i<6->∀ p∈st i,ak p.b/\p.b.length<=1000000
def Et:Sx.Spec where
 fn:=74
 own:=[]
 rd:=[0]
 res:=[.agg iT,.one (.int .i64)]
 pre:=fun xs Hs Rs=>∃ x R st n s,xs=[.pointer (some ⟨x,0,none⟩),.int .i64 n,.int .u64 s]/\Rs=[R]/\o9 R x st/\mK st/\Good st/\(0<=s/\s<18446744073709551616)
 post:=fun xs Hs Rs v Hs' F=>∃ x R st n s,xs=[.pointer (some ⟨x,0,none⟩),.int .i64 n,.int .u64 s]/\Rs=[R]/\o9 R x st /\
  (((1<=n/\n<=6)/\(1<=s/\s<=(st (n-1).toNat).length)/\∃ row p,(st (n-1).toNat)[(s-1).toNat]?=some p/\v=.tuple #[.agg row.toArray,.int .i64 0]/\fM F F row p)\/(¬((1<=n/\n<=6)/\1<=s/\s<=(st (n-1).toNat).length)/\∃ u,v=.tuple #[u,.int .i64 11]))
def Y4:List CV:=[.int .i64 (.lit 0),.int .u64 (.lit 0)]++List.replicate 32 (CV.int .u8 (.lit 0))++[.int .i64 (.lit 0),.bool .ff,.int .u64 (.lit 0)]++List.replicate 16 (CV.int .u8 (.lit 0))++[.sl (.lit (-1)) (.lit 0) (.lit 0) (.lit 0),.int .u64 (.lit 0),.int .u64 (.lit 0),.int .u64 (.lit 0),.int .u64 (.lit 0),.int .u64 (.lit 0),.int .u64 (.lit 0)]++List.replicate 32 (CV.int .u8 (.lit 0))++[.int .i64 (.lit 0)]++List.replicate 32 (CV.int .u8 (.lit 0))++[.sl (.lit (-1)) (.lit 0) (.lit 0) (.lit 0)]
def WC:List Sx.Spec:=[Km,gx]
theorem SS:∀ t∈WC,t.OK Tryz.prog:=au Ix <| au kG <| bR
def Rm:aG Tryz.prog WC Et.fn where
 Λ:=aC
 args:=[TP (.var 0) (.lit 0),TI .i64 (.var 1),.sv (.one (.int .u64 (.var 2)))]
 mem:=[.ro 3 [.var 0] true]
 nv:=4
set_option maxRecDepth 20000 in
theorem CF {x:Nat} {n s:Int} {R:Hl} {st:Nat->List Pc} (hI:o9 R x st) (hno:¬((1<=n/\n<=6)/\1<=s/\s<=(st (n-1).toNat).length)) {q:Env} {mem:Mem} : postOf Et [.pointer (some ⟨x,0,none⟩),.int .i64 n,.int .u64 s] [] [R] q mem (.tup [.agg Y4,.one (.int .i64 (.lit 11))]):=by
 intro _;exact⟨[],[],rfl,rfl,⟨(bc fun k=>if k=53 then -1 else if k=128 then -1 else if k=132 then 11 else 0),rfl,⟨NO ⟨aB,aB,aB,aB⟩ ⟨aB,aB,aB,aB⟩,trivial,trivial⟩⟩,x,R,st,n,s,rfl,rfl,hI,Or.inr ⟨hno,_,rfl⟩⟩
set_option maxRecDepth 20000 in
theorem Nf:Et.OK Tryz.prog:=by
 refine Spec.aT (Γ:=WC) SS ?_;rintro xs Hs Rs hl1 hl2 ⟨x,R,st,n,s,rfl,rfl,hI,hS,hG,hs⟩;have e0:Hs=[]:=aad.1 hl1;subst e0;refine⟨Rm,aM [x,n,s] false [Hl.none,Hl.none,Hl.none,R],fun _ _=>True,fun _ _=>0,?_,cQ (by intro r hr;simp [Rm]at hr;subst hr;exact⟨_,_,_,rfl⟩) rfl,(fun _ h=>nomatch h),?_⟩
 .show [Value.pointer (az (x:Int) 0),.int .i64 n,.int .u64 s]=_;rw[av ah];rfl
 refine aG.read [bU] [] [] ?_;generalize hρ:aM [(x:Int),n,s] false [Hl.none,Hl.none,Hl.none,R]=J;have V:∀ q:Env,ai 4 J q->q.i 0=x/\q.i 1=n/\q.i 2=s/\q.h 3=R:=fun q g=>by
  rw[g.i 0,g.i 1,g.i 2,g.h 3,<-hρ];exact⟨rfl,rfl,rfl,rfl⟩
 clear hρ;simp only[go_sem,Nat.reduceAdd,WC,UP,UO,Vl,JL];obtain⟨a,sv,hR⟩:=id hI;intro q1 g1 p1;obtain⟨v0,v1,v2,w3⟩:=V q1 g1;rw[v0,v1,v2,w3];refine⟨fun h1=>⟨fun h6=>CF hI ah,fun h6=>?_⟩,fun h1=>CF hI ah⟩;obtain⟨i,hi⟩:∃ i:Nat,n-1=i:=⟨(n-1).toNat,ah⟩;have hi6:i<6:=ah;have hni:(n-1).toNat=i:=ah;have hw:IntKind.i64.wrap (n-1)=((i:Nat):Int):=by rw[IntKind.wrap_i64];omega
 obtain⟨c1,c2,_⟩:=hR.cells hi6;have c1':R.cell ((x:Int)).toNat (Int.toNat ((i:Nat):Int))=some (.pointer (some ⟨a i,0,none⟩)):=by rw[aaa,aaa];exact c1
 have hlen:(lD st i).length<1000000:=by unfold lD;rw[aaB];exact hS i hi6
 rw[hw,c1',iJ];refine⟨ah,ah,ah,rfl,⟨a i,R,_,_,s,rfl,rfl,hR.ch i hi6,hs,hlen⟩,fun q2 g2 ⟨F2,⟨a',R',w',hs',s',f1,f2,d2,hcase⟩,hF2,hn2⟩ q3 g3 p3=>?_⟩;simp only[aaf,aat,Value.pointer.injEq,aaj,Addr.mk.injEq,Value.int.injEq,aaV]at f1 f2;obtain⟨rfl,rfl⟩:=f1;subst f2;obtain⟨rfl,rfl⟩:=(hR.ch i hi6).uniq d2;have hl:(lD st i).length=(st i).length:=by unfold lD;rw[aaB]
 have hb3:q3.b 133=q2.b 133:=g3.b 133;rw[hb3];refine⟨fun hb=>?_,fun hb=>?_⟩
 .rcases hcase with ⟨m1,m2,row',h',hh',ev,hI'⟩ | ⟨hno,u,ev⟩
  .simp only[Value.tuple.injEq,aaJ,aaf,Value.bool.injEq,aat]at ev;exact absurd ev.2 hb
  .exact CF hI (by rw[hni];rw[hl]at hno;exact fun g=>hno g.2)
 rcases hcase with ⟨m1,m2,row',h',hh',ev,hI'⟩ | ⟨hno,u,ev⟩
 rotate_left
 .simp only[Value.tuple.injEq,aaJ,aaf,Value.bool.injEq,aat]at ev;exact absurd (ev.2.symm.trans hb) aB
 simp only[Value.tuple.injEq,aaJ,aaf,Value.bool.injEq,aat,Value.agg.injEq]at ev;have er:=ev.1;rw[<-hF2 trivial]at hI';rw[hl]at m2;obtain⟨us,ho,hus⟩:=hR.row i hi6;have hjl:(s-1).toNat<(st i).length:=ah;have hp:(st i)[(s-1).toNat]?=some (st i)[(s-1).toNat]:=aab hjl;have hul:(s-1).toNat<us.length:=by have:=ho.1;omega
 have hu:us[(s-1).toNat]?=some us[(s-1).toNat]:=aab hul;have hbody:=hus _ _ _ hu hp;obtain⟨g,cap,cur,hv,hg,hle,hmx,hsz,ht⟩:∃ g cap cur,sv i=.slice (some ⟨g,0,none⟩) (st i).length cap/\R g=some (.cells cur 46 (0,0))/\(st i).length<=cap/\cap<=maxLen/\cur.size=cap*1/\cur.toList.take ((st i).length*1)=us:=by
  rcases ho.2 with ⟨_,hn⟩ | h
  .omega
  .exact h
 have hce:R.cell ((g:Int)).toNat (0+(s-1)).toNat=some us[(s-1).toNat]:=by
  rw[aaa,Int.zero_add];unfold Hl.cell;rw[hg];rw[<-hu,<-ht,aaX,aax ah,acm]
 obtain⟨y0,y1,y2,y3⟩:=V q3 (g1.trans (g2.mono.tr g3));have c2':R.cell ((x:Int)).toNat (6+((i:Nat):Int)).toNat=some (.slice (some ⟨g,0,none⟩) (st i).length cap):=by
  rw[aaa,show(6+((i:Nat):Int)).toNat=6+i by omega,c2,hv]
 have hw2:IntKind.u64.wrap (s-1)=s-1:=by rw[IntKind.wrap_u64];omega
 have k0:bm (some (Value.slice (some ⟨g,0,none⟩) (st i).length cap)) 0=(g:Int):=rfl;have k1:bm (some (Value.slice (some ⟨g,0,none⟩) (st i).length cap)) 1=0:=rfl;have k2:bm (some (Value.slice (some ⟨g,0,none⟩) (st i).length cap)) 2=(st i).length:=rfl;obtain⟨x5,y5,cc5,e5,_⟩:=id hbody;have hsl5:∃ p l c,us[(s-1).toNat]=Value.slice p l c:=⟨_,_,_,e5⟩;rw[y0,y1,y2,y3,hw,c2',hw2,k0,k1,k2,hce,gh hsl5];have hGp:=hG i hi6 _ (aae hp);refine⟨rfl,ah,ah,ah,by rw[e5];rfl,⟨_,_,R,rfl,rfl,hbody,hGp.2⟩,fun q4 g4 ⟨F4,⟨u',bs',R',z1,z2,z3,z4⟩,hF4,hn4⟩ hdis=>?_⟩;simp only[aaf,aat]at z1 z2;subst z1 z2;obtain rfl:=hbody.uniq z3;rw[<-hF4 trivial]at z4;have hGB:(q4.h 5).bT (q4.h 135):=hdis 2 4 _ _ aB rfl rfl rfl;have A4:ai 134 q2 q4:=g3.mono.tr g4;have rowB:(ar 5 bU).map (CV.ev q4)=row':=(aaQ Array.toList (Value.agg.inj (ft (ks:=bU) (n:=5) (m:=134) A4 aB))).trans er;have hbl:∃ sl,sl=Value.slice (az (q4.i 135) (q4.i 136)) (q4.i 137).toNat (q4.i 138).toNat:=⟨_,rfl⟩;obtain⟨sl,hsl⟩:=hbl;rw[<-hsl]at z4;have aD:bg (row'++[sl]) rI:=by
  have:rI=dZ++[Kd.slice]:=rfl;rw[this];exact ku hI'.ok (by rw[hsl];rfl)
 have hl125:row'.length=125:=fU hI'.ok;have h5:q4.h 5=q2.h 5:=A4.h 5;have hn2':gJ 58 q4 .sl:=by
  have hh:=hn2.1;have e:bU=(([i64,.int .u64]:List Ck)++List.replicate 32 (.int .u8)++[i64,.bool,.int .u64]++List.replicate 16 (.int .u8))++([Ck.sl]++(List.replicate 6 (.int .u64)++List.replicate 32 (.int .u8)++[i64]++List.replicate 32 (.int .u8))):=rfl;have sp:∀ (a b:List Ck) (n:Nat),bV n (a++b) q2->bV (n+aY a) b q2:=by
   intro a
   induction a with
   | nil=>intro b n h;simpa [aY] using h
   | cons k a ih=>intro b n h;have:=ih b _ h.2;rw[show n+k.len+aY a=n+aY (k::a)by simp [aY];omega]at this;exact this
  have hh:bV 5 bU q2:=hh;rw[e]at hh;obtain⟨n1,n2,n3,n4⟩:=(sp _ _ _ hh).1;have n1:-1<=q2.i 58:=n1;have n2:0<=q2.i 59:=n2;have n3:0<=q2.i 60:=n3;have n4:0<=q2.i 61:=n4;exact⟨by rw[A4.i 58];exact n1,by rw[A4.i 59];exact n2,by rw[A4.i 60];exact n3,by rw[A4.i 61];exact n4⟩
 have hn4':gJ 135 q4 .sl:=hn4.1;have ph:(st i)[(s-1).toNat].h=h':=by
  unfold lD at hh';rw[aao,hp]at hh';simpa using hh'
 refine⟨[],[2,4],rfl,rfl,⟨⟨fun k=>if k<128 then q4.i (k+5)else if k<132 then q4.i (k+7)else 0,fun k=>q4.b (k+5),q4.s,q4.v,q4.h⟩,rfl,⟨NO hn2' hn4',trivial,trivial⟩⟩,x,R,st,n,s,rfl,rfl,hI,Or.inl ⟨⟨ah,ah⟩,⟨ah,by rw[hni];omega⟩,row'++[sl],(st i)[(s-1).toNat],by rw[hni];exact hp,?_,?_⟩⟩
 .show Value.tuple #[.agg ((ar 5 bU++[CV.sl (.var 135) (.var 136) (.var 137) (.var 138)]).map (CV.ev q4)).toArray,.int .i64 0]=_;rw[aaK,rowB,hsl];rfl
 .show fM (cZ [q4.h 5,q4.h 135]) (cZ [q4.h 5,q4.h 135]) _ _;rw[CD];refine⟨aD,?_,?_,hGp.1,hGp.2⟩
  .rw[acp hl125,ph];rw[<-h5]at hI';exact hI'.mono (Hl.bF _ _)
  .have:(row'++[sl]).getD 125 Bk=sl:=by rw[aan,aau ah,hl125];rfl
   rw[this];exact ia z4.rd.w (Hl.bK hGB)
end Go.Proofs.YtomdimlnggpgbaaGreatDoor
namespace Go.Proofs.YtomdimlnggpgbaaGreatDoor
open Go Go.RowKit Go.Extern.Stop Go.Stop Go.Extern
theorem HF (t:Addr) (w:World):(ReflectliteValue.unpack (.iface 166 (.pointer (some t)))).run Tryz.prog w=.ok (.agg #[.pointer (some ⟨7,166,none⟩),.pointer (some ⟨w.heap.size,0,none⟩),.int .u64 150]) (w.alloc (.cells #[.pointer (some t)] 166)):=by kernel_rfl
theorem QI (a:Addr) (w:World):(ReflectliteValue.methodAny (ReflectliteValue.valueError "reflectlite.Value.Type" 0) (fun t _ _ _=>ReflectliteType.toType t) #[.agg #[.pointer (some ⟨7,166,none⟩),.pointer (some a),.int .u64 150]]).run Tryz.prog w=.ok (.iface 243 (.agg #[.pointer (some ⟨7,166,none⟩)])) w:=by kernel_rfl
theorem QF (h:Value) (w:World):(Go.method 431 243 (.agg #[h]) "Kind").run Tryz.prog w=.ok (224,h) w:=by kernel_rfl
theorem QC (w:World):((ReflectliteType.abiMethod fun t=>(fun a:Nat=>Value.int IntKind.u8 (a:Int)) <$>Rtype.kind t) #[.pointer (some ⟨7,166,none⟩)]).run Tryz.prog w=.ok (.int .u8 22) w:=by kernel_rfl
theorem QB (w:World):((ReflectliteType.abiMethod fun t=>(fun a:Nat=>Value.int IntKind.u8 (a:Int)) <$>Rtype.kind t) #[.pointer (some ⟨7,164,none⟩)]).run Tryz.prog w=.ok (.int .u8 22) w:=by kernel_rfl
theorem RD (z:Sem Value) (f:TypeId->Addr->Nat->Nat->Sem Value) (v:Value):ReflectliteValue.method z f #[v]=(do match<-ReflectliteValue.parts v with | none=>z | some (t,a,fl)=>f t a fl (fl%32)):=rfl
theorem Fb (a:Addr) (w:World):(ReflectliteValue.parts (.agg #[.pointer (some ⟨7,166,none⟩),.pointer (some a),.int .u64 150])).run Tryz.prog w=.ok (some (166,a,150)) w:=by kernel_rfl
theorem Oa (a p:Addr) (W:World) (ha:W.cell? a=some (.pointer (some p))):(ReflectliteValue.method (ReflectliteValue.valueError "reflectlite.Value.IsNil" 0) ReflectliteValue.isNil #[.agg #[.pointer (some ⟨7,166,none⟩),.pointer (some a),.int .u64 150]]).run Tryz.prog W=.ok (.bool false) W:=by
 rw[RD];simp only[Sem.run_bind,Fb,Result.andThen];simp [ReflectliteValue.isNil,loadVar,isAgg,underlying,Tryz.underlying166,ha,Result.andThen]
theorem QD (h:Value) (w:World):(Go.method 431 243 (.agg #[h]) "Elem").run Tryz.prog w=.ok (239,.agg #[h]) w:=by kernel_rfl
theorem QE (h:Value) (w:World):(Go.method 431 243 (.agg #[h]) "Implements").run Tryz.prog w=.ok (240,.agg #[h]) w:=by kernel_rfl
theorem TE (h:Value) (w:World):(Go.method 431 243 (.agg #[h]) "AssignableTo").run Tryz.prog w=.ok (237,.agg #[h]) w:=by kernel_rfl
theorem Qz (w:World):(ReflectliteType.method ReflectliteType.elem #[.agg #[.pointer (some ⟨7,166,none⟩)]]).run Tryz.prog w=.ok (.iface 243 (.agg #[.pointer (some ⟨7,164,none⟩)])) w:=by kernel_rfl
theorem TD (w:World):(ReflectliteType.relation "Implements" ReflectliteType.implements_ #[.agg #[.pointer (some ⟨7,164,none⟩)],.iface 243 (.agg #[.pointer (some ⟨7,107,none⟩)])]).run Tryz.prog w=.ok (.bool true) w:=by kernel_rfl
theorem QG (v:Value) (w:World):(ReflectliteType.typeOf #[.iface 164 v]).run Tryz.prog w=.ok (.iface 243 (.agg #[.pointer (some ⟨7,164,none⟩)])) w:=by kernel_rfl
theorem QH (v:Value) (w:World):(ReflectliteType.typeOf #[.iface 222 v]).run Tryz.prog w=.ok (.iface 243 (.agg #[.pointer (some ⟨7,222,none⟩)])) w:=by kernel_rfl
theorem TA (w:World):(ReflectliteType.relation "AssignableTo" ReflectliteType.assignableTo #[.agg #[.pointer (some ⟨7,164,none⟩)],.iface 243 (.agg #[.pointer (some ⟨7,164,none⟩)])]).run Tryz.prog w=.ok (.bool true) w:=by kernel_rfl
theorem TC (w:World):(ReflectliteType.relation "AssignableTo" ReflectliteType.assignableTo #[.agg #[.pointer (some ⟨7,222,none⟩)],.iface 243 (.agg #[.pointer (some ⟨7,164,none⟩)])]).run Tryz.prog w=.ok (.bool false) w:=by kernel_rfl
theorem HE (e:Addr) (w:World):(ReflectliteValue.unpack (.iface 164 (.pointer (some e)))).run Tryz.prog w=.ok (.agg #[.pointer (some ⟨7,164,none⟩),.pointer (some ⟨w.heap.size,0,none⟩),.int .u64 150]) (w.alloc (.cells #[.pointer (some e)] 164)):=by kernel_rfl
theorem N9 (w:World):(Rtype.elem? 166).run Tryz.prog w=.ok (some 164) w:=by kernel_rfl
theorem Ya (p:Addr) (w:World):(ReflectliteValue.mk 164 p ReflectliteValue.flagAddr).run Tryz.prog w=.ok (.agg #[.pointer (some ⟨7,164,none⟩),.pointer (some p),.int .u64 406]) w:=by kernel_rfl
theorem QA (a p:Addr) (W:World) (ha:W.cell? a=some (.pointer (some p))):(ReflectliteValue.method (ReflectliteValue.valueError "reflectlite.Value.Elem" 0) ReflectliteValue.elem #[.agg #[.pointer (some ⟨7,166,none⟩),.pointer (some a),.int .u64 150]]).run Tryz.prog W=.ok (.agg #[.pointer (some ⟨7,164,none⟩),.pointer (some p),.int .u64 406]) W:=by
 rw[RD];simp only[Sem.run_bind,Fb,Result.andThen];simp [ReflectliteValue.elem,loadVar,isAgg,underlying,Tryz.underlying166,ha,Result.andThen,N9,Ya]
theorem VM (v x:Value):ReflectliteValue.set #[v,x]=(do
 let (some (dst,a,fl),some (src,b,_)):=(<-ReflectliteValue.parts v,<-ReflectliteValue.parts x)
  | unsupported (.noEntry "extern/(internal/reflectlite.Value).Set.zeroValue")
 if fl/ReflectliteValue.flagAddr%2==0 then unsupported (.noEntry "extern/(internal/reflectlite.Value).Set.unaddressable")
 let val<-loadVar src b
 if<-Rtype.directlyAssignable dst src then storeVar dst a val
 else if<-Rtype.implements dst src then
  if(<-Rtype.kind src)==20 then
   match val with
   | .nilIface=>unsupported (.noEntry "extern/reflectlite: a nil value of one interface type handed on as a value of another")
   | _=>storeVar dst a val
  else storeVar dst a (.iface src val)
 else panicString ("reflectlite.Set: value of type "++(<-Rtype.spelt src)++ " is not assignable to type "++(<-Rtype.spelt dst))
 pure (.tuple #[])):=rfl
theorem Lm (a:Addr) (w:World):(ReflectliteValue.parts (.agg #[.pointer (some ⟨7,164,none⟩),.pointer (some a),.int .u64 406])).run Tryz.prog w=.ok (some (164,a,406)) w:=by kernel_rfl
theorem Oc (a:Addr) (w:World):(ReflectliteValue.parts (.agg #[.pointer (some ⟨7,164,none⟩),.pointer (some a),.int .u64 150])).run Tryz.prog w=.ok (some (164,a,150)) w:=by kernel_rfl
theorem N8 (w:World):(Rtype.directlyAssignable 164 164).run Tryz.prog w=.ok true w:=by kernel_rfl
theorem VN (ta b e:Addr) (old:Value) (W:World) (hb:W.cell? b=some (.pointer (some e))) (ht:W.cell? ta=some old) (hf:W.frozen? ta=false) :
 (ReflectliteValue.set #[.agg #[.pointer (some ⟨7,164,none⟩),.pointer (some ta),.int .u64 406],.agg #[.pointer (some ⟨7,164,none⟩),.pointer (some b),.int .u64 150]]).run Tryz.prog W=.ok (.tuple #[]) (W.setCell ta (.pointer (some e))):=by
 rw[VM];simp only[Sem.run_bind,Lm,Oc,Result.andThen];simp [ReflectliteValue.flagAddr,loadVar,isAgg,underlying,Tryz.underlying164,hb,Result.andThen,N8,storeVar,Value.cells,storeCells,Addr.add];rw[run_store Tryz.prog W ta _ _ (by rfl)];simp [ht,hf]
theorem TF (v:Value) (xT:TypeId) (w:World):(Instr.typeAssert (.iface 222 v) xT 267 true).run Tryz.prog w=.ok (.tuple #[.nilIface,.bool false]) w:=run_typeAssert_lacksB Tryz.underlying267 (by kernel_rfl) (by kernel_rfl) v xT w
theorem Od (v:Value) (xT:TypeId) (w:World):(Instr.typeAssert (.iface 222 v) xT 248 true).run Tryz.prog w=.ok (.tuple #[.iface 222 v,.bool true]) w:=run_typeAssert_hasB Tryz.underlying248 (by kernel_rfl) v xT w
theorem Ll (v:Value) (w:World):(Go.method 431 222 v "Unwrap").run Tryz.prog w=.ok (232,v) w:=by kernel_rfl
theorem Hq (w:World):Calls Tryz.prog 61 #[.nilIface] w fun e w'=>e=.returned (.int .i64 0)/\Below w.heap.size w w':=by
 go_enter Tryz.func61,Tryz.ntmps61
 go_wp2
 go_ret
 exact⟨rfl,(Below.refl _ _).alloc (aav _) _⟩
set_option maxRecDepth 20000 in
theorem Hp (e:Nat) (s:ByteArray) (c:Int) (w:World) (hg:w.cell? ⟨4,0,none⟩=some (.iface 243 (.agg #[.pointer (some ⟨7,107,none⟩)])))
 (he:w.heap[e]?=some (.cells #[.string s,.int .i64 c] 168 (0,0))) :
 Calls Tryz.prog 61 #[.iface 222 (.agg #[.iface 164 (.pointer (some ⟨e,0,none⟩))])] w fun ev w'=>ev=.returned (.int .i64 c)/\Below w.heap.size w w':=by
 have h1:=@run_callFunc_extern Tryz.prog 138 _ (fun args=>ReflectliteValue.unpack (args.getD 0 (.tuple #[]))) Tryz.func138 (by kernel_rfl) (by kernel_rfl) (by kernel_rfl) (by kernel_rfl);have h2:=@run_callFunc_extern Tryz.prog 139 _ (ReflectliteValue.methodAny (ReflectliteValue.valueError "reflectlite.Value.Type" 0) (fun t _ _ _=>ReflectliteType.toType t)) Tryz.func139 (by kernel_rfl) (by kernel_rfl) (by kernel_rfl) (by kernel_rfl);have h3:=@run_callFunc_extern Tryz.prog 140 _ (ReflectliteValue.method (ReflectliteValue.valueError "reflectlite.Value.IsNil" 0) ReflectliteValue.isNil) Tryz.func140 (by kernel_rfl) (by kernel_rfl) (by kernel_rfl) (by kernel_rfl);have h4:=@run_callFunc_extern Tryz.prog 224 _ (ReflectliteType.abiMethod fun t=>do pure (.int .u8 (<-Rtype.kind t))) Tryz.func224 (by kernel_rfl) (by kernel_rfl) (by kernel_rfl) (by kernel_rfl);have h5:=@run_callFunc_extern Tryz.prog 239 _ (ReflectliteType.method ReflectliteType.elem) Tryz.func239 (by kernel_rfl) (by kernel_rfl) (by kernel_rfl) (by kernel_rfl);have h6:=@run_callFunc_extern Tryz.prog 240 _ (ReflectliteType.relation "Implements" ReflectliteType.implements_) Tryz.func240 (by kernel_rfl) (by kernel_rfl) (by kernel_rfl) (by kernel_rfl);have h7:=@run_callFunc_extern Tryz.prog 129 _ (ReflectliteType.typeOf) Tryz.func129 (by kernel_rfl) (by kernel_rfl) (by kernel_rfl) (by kernel_rfl);have h8:=@run_callFunc_extern Tryz.prog 237 _ (ReflectliteType.relation "AssignableTo" ReflectliteType.assignableTo) Tryz.func237 (by kernel_rfl) (by kernel_rfl) (by kernel_rfl) (by kernel_rfl);have h9:=@run_callFunc_extern Tryz.prog 173 _ (ReflectliteValue.method (ReflectliteValue.valueError "reflectlite.Value.Elem" 0) ReflectliteValue.elem) Tryz.func173 (by kernel_rfl) (by kernel_rfl) (by kernel_rfl) (by kernel_rfl);have h10:=@run_callFunc_extern Tryz.prog 174 _ (ReflectliteValue.set) Tryz.func174 (by kernel_rfl) (by kernel_rfl) (by kernel_rfl) (by kernel_rfl);have k0:=HF;have k1:=QI;have k2:=QF;have k3:=QC;have k4:=QB;have k5:=QD;have k6:=QE;have k7:=TE;have k8:=Qz;have k9:=TD;have k10:=QG;have k11:=QH;have k12:=TA;have k13:=TC;have k14:=HE;have k15:=TF;have k16:=Od;have k17:=Ll;have hlt:4<w.heap.size:=by
  rcases aba 4 w.heap.size with h | h
  .exact h
  .simp [World.cell?,acH h]at hg
 have hel:e<w.heap.size:=(aaU.1 he).1;have SK:(((w.alloc (.cells #[.pointer none] 164)).alloc (.cells #[.pointer (some ⟨w.heap.size,0,none⟩)] 166)).alloc (.cells #[.pointer (some ⟨7,166,none⟩),.pointer (some ⟨w.heap.size+1,0,none⟩),.int .u64 150] 226)).cell? ⟨4,0,none⟩=some (.iface 243 (.agg #[.pointer (some ⟨7,107,none⟩)])):=by
  rw[World.cell?_alloc_lt _ _ ⟨4,0,none⟩ (by first | (simp;done) | (simp;omega)),World.cell?_alloc_lt _ _ ⟨4,0,none⟩ (by first | (simp;done) | (simp;omega)),World.cell?_alloc_lt _ _ ⟨4,0,none⟩ hlt];exact hg
 have n3:=Oa ⟨w.heap.size+1,0,none⟩ ⟨w.heap.size,0,none⟩ (((w.alloc (.cells #[.pointer none] 164)).alloc (.cells #[.pointer (some ⟨w.heap.size,0,none⟩)] 166)).alloc (.cells #[.pointer (some ⟨7,166,none⟩),.pointer (some ⟨w.heap.size+1,0,none⟩),.int .u64 150] 226)) (by rw[World.cell?_alloc_lt _ _ ⟨w.heap.size+1,0,none⟩ (by first | (simp;done) | (simp;omega)),World.cell?_alloc_at _ _ _ _ Sx.aF];rfl);have ht5:(((((w.alloc (.cells #[.pointer none] 164)).alloc (.cells #[.pointer (some ⟨w.heap.size,0,none⟩)] 166)).alloc (.cells #[.pointer (some ⟨7,166,none⟩),.pointer (some ⟨w.heap.size+1,0,none⟩),.int .u64 150] 226)).alloc (.cells #[.pointer (some ⟨7,166,none⟩),.pointer (some ⟨w.heap.size+1,0,none⟩),.int .u64 150] 226)).alloc (.cells #[.iface 164 (.pointer (some ⟨e,0,none⟩))] 222)).cell? ⟨w.heap.size,0,none⟩=some (.pointer none):=by
  rw[World.cell?_alloc_lt _ _ ⟨w.heap.size,0,none⟩ (by first | (simp;done) | (simp;omega)),World.cell?_alloc_lt _ _ ⟨w.heap.size,0,none⟩ (by first | (simp;done) | (simp;omega)),World.cell?_alloc_lt _ _ ⟨w.heap.size,0,none⟩ (by first | (simp;done) | (simp;omega)),World.cell?_alloc_lt _ _ ⟨w.heap.size,0,none⟩ (by first | (simp;done) | (simp;omega)),World.cell?_alloc_at _ _ _ _ Sx.aF];rfl
 have el:=QA ⟨w.heap.size+1,0,none⟩ ⟨w.heap.size,0,none⟩ (((((w.alloc (.cells #[.pointer none] 164)).alloc (.cells #[.pointer (some ⟨w.heap.size,0,none⟩)] 166)).alloc (.cells #[.pointer (some ⟨7,166,none⟩),.pointer (some ⟨w.heap.size+1,0,none⟩),.int .u64 150] 226)).alloc (.cells #[.pointer (some ⟨7,166,none⟩),.pointer (some ⟨w.heap.size+1,0,none⟩),.int .u64 150] 226)).alloc (.cells #[.iface 164 (.pointer (some ⟨e,0,none⟩))] 222)) (by
  rw[World.cell?_alloc_lt _ _ ⟨w.heap.size+1,0,none⟩ (by first | (simp;done) | (simp;omega)),World.cell?_alloc_lt _ _ ⟨w.heap.size+1,0,none⟩ (by first | (simp;done) | (simp;omega)),World.cell?_alloc_lt _ _ ⟨w.heap.size+1,0,none⟩ (by first | (simp;done) | (simp;omega)),World.cell?_alloc_at _ _ _ _ Sx.aF];rfl)
 have st:=VN ⟨w.heap.size,0,none⟩ ⟨w.heap.size+1+1+1+1+1,0,none⟩ ⟨e,0,none⟩ (.pointer none) ((((((w.alloc (.cells #[.pointer none] 164)).alloc (.cells #[.pointer (some ⟨w.heap.size,0,none⟩)] 166)).alloc (.cells #[.pointer (some ⟨7,166,none⟩),.pointer (some ⟨w.heap.size+1,0,none⟩),.int .u64 150] 226)).alloc (.cells #[.pointer (some ⟨7,166,none⟩),.pointer (some ⟨w.heap.size+1,0,none⟩),.int .u64 150] 226)).alloc (.cells #[.iface 164 (.pointer (some ⟨e,0,none⟩))] 222)).alloc (.cells #[.pointer (some ⟨e,0,none⟩)] 164))
  (by rw[World.cell?_alloc_at _ _ _ _ Sx.aF];rfl)
  (by rw[World.cell?_alloc_lt _ _ ⟨w.heap.size,0,none⟩ (by first | (simp;done) | (simp;omega))];exact ht5)
  (by rw[World.frozen?_alloc_old _ _ ⟨w.heap.size,0,none⟩ (by first | (simp;done) | (simp;omega)),World.frozen?_alloc_old _ _ ⟨w.heap.size,0,none⟩ (by first | (simp;done) | (simp;omega)),World.frozen?_alloc_old _ _ ⟨w.heap.size,0,none⟩ (by first | (simp;done) | (simp;omega)),World.frozen?_alloc_old _ _ ⟨w.heap.size,0,none⟩ (by first | (simp;done) | (simp;omega)),World.frozen?_alloc_old _ _ ⟨w.heap.size,0,none⟩ Sx.aF];simp)
 have bl:Below w.heap.size w ((((((w.alloc (.cells #[.pointer (some ⟨e,0,none⟩)] 164)).alloc (.cells #[.pointer (some ⟨w.heap.size,0,none⟩)] 166)).alloc (.cells #[.pointer (some ⟨7,166,none⟩),.pointer (some ⟨w.heap.size+1,0,none⟩),.int .u64 150] 226)).alloc (.cells #[.pointer (some ⟨7,166,none⟩),.pointer (some ⟨w.heap.size+1,0,none⟩),.int .u64 150] 226)).alloc (.cells #[.iface 164 (.pointer (some ⟨e,0,none⟩))] 222)).alloc (.cells #[.pointer (some ⟨e,0,none⟩)] 164)):=((((((Below.refl _ _).alloc (aav _) _).alloc Sx.aF _).alloc (by first | (simp;done) | (simp;omega)) _).alloc (by first | (simp;done) | (simp;omega)) _).alloc (by first | (simp;done) | (simp;omega)) _).alloc (by first | (simp;done) | (simp;omega)) _;have hc:((((((w.alloc (.cells #[.pointer (some ⟨e,0,none⟩)] 164)).alloc (.cells #[.pointer (some ⟨w.heap.size,0,none⟩)] 166)).alloc (.cells #[.pointer (some ⟨7,166,none⟩),.pointer (some ⟨w.heap.size+1,0,none⟩),.int .u64 150] 226)).alloc (.cells #[.pointer (some ⟨7,166,none⟩),.pointer (some ⟨w.heap.size+1,0,none⟩),.int .u64 150] 226)).alloc (.cells #[.iface 164 (.pointer (some ⟨e,0,none⟩))] 222)).alloc (.cells #[.pointer (some ⟨e,0,none⟩)] 164)).cell? ⟨e,1,none⟩=some (.int .i64 c):=by
  rw[bl.cell hel];simp [World.cell?,he]
 go_enter Tryz.func61,Tryz.ntmps61
 go_wp2
 refine wp_loop_rounds 2 ?_;rw[rounds_succ]
 go_wp2
 rw[rounds_succ]
 go_wp2
 go_ret
 exact⟨rfl,bl⟩
end Go.Proofs.YtomdimlnggpgbaaGreatDoor
namespace Go.Proofs.YtomdimlnggpgbaaGreatDoor
open Go Go.Sx Go.RowKit
def yn:Value:=.iface 243 (.agg #[.pointer (some ⟨7,107,none⟩)])
def Vu (b:Nat):Value:=.iface 222 (.agg #[.iface 164 (.pointer (some ⟨b,0,none⟩))])
def pd (R:Hl) (v:Value) (c:Int):Prop:=(c=0/\v=.nilIface)\/∃ (b:Nat) (s:ByteArray),v=Vu b/\R b=some (.cells #[.string s,.int .i64 c] 168 (0,0))
theorem pd.ZE {R:Hl} {v:Value} {c d:Int} (h:pd R v c) (k:pd R v d):c=d:=by
 rcases h with ⟨rfl,rfl⟩ | ⟨b,s,rfl,hb⟩<;>rcases k with ⟨rfl,e⟩ | ⟨b',s',e,hb'⟩
 .rfl
 .cases e
 .cases e
 .simp only[Vu,Value.iface.injEq,aaV,Value.agg.injEq,aaJ,aaf,aat,Value.pointer.injEq,aaj,Addr.mk.injEq]at e;subst e;rw[hb]at hb';simp at hb';exact hb'.2
def oz:Sx.Spec where
 fn:=61
 own:=[]
 rd:=[7000168,2000004]
 res:=[.one (.int .i64)]
 pre:=fun xs Hs Rs=>∃ e R G c,xs=[e]/\Rs=[R,G]/\G.cell 4 0=some yn/\pd R e c
 post:=fun xs Hs Rs v Hs' F=>∃ e R G,xs=[e]/\Rs=[R,G]/\∀ c,pd R e c->v=.int .i64 c
theorem Hl.Mw {R:Hl} {w:World} (h:R.sub w) {b y:Nat} {v:Value} (hc:R.cell b y=some v):w.cell? ⟨b,y,none⟩=some v:=by
 unfold Hl.cell at hc;cases hb:R b with
 | none=>rw[hb]at hc;cases hc
 | some o =>
  have hw:=h _ _ hb;rw[hb]at hc;cases o with
  | cells c t f=>simp only[World.cell?,hw];exact hc
  | _=>simp at hc
theorem uS:oz.OK Tryz.prog:=by
 refine nP rfl fun w xs Rs hs ⟨e,R,G,c,e1,e2,hG,hN⟩=>?_;subst e1 e2;refine⟨.int .i64 c,⟨⟨fun _=>c,fun _=>true,fun _=>.empty,fun _=>.tuple #[],fun _=>Hl.none⟩,rfl,trivial,trivial⟩,?_,_,_,_,rfl,rfl,fun d hd=>by rw[hN.ZE hd]⟩;have hR:=hs R aF;have hg:=Hl.Mw (hs G aF) hG;rcases hN with ⟨rfl,rfl⟩ | ⟨b,s,rfl,hb⟩
 .exact Hq w
 .exact Hp b s c w hg (hR _ _ hb)
end Go.Proofs.YtomdimlnggpgbaaGreatDoor
namespace Go.Proofs.YtomdimlnggpgbaaGreatDoor
open Go Go.Sx Go.Pk
noncomputable def fF (p:Pc):List Int:=aI (bf p.h)++aI p.b
theorem CA {R:Hl} {row:List Value} {h:Hd} (hx:bN R row h):(bf h).length<=932:=by
 unfold bf;split
 .rename_i hf;have:=td hx hf.2.1;unfold rD;rw[aac,aK];omega
 .exact aa6 _
theorem EN {n:Nat} (h:n<16384):(aj n).length<=2:=by
 unfold aj;split
 .simp
 .rw[aaO];unfold aj;rw[aax ah];simp
theorem jG {b:List Int} (h:b.length<=4096):(aI b).length<=b.length+2:=by
 unfold aI;rw[aac];have:=EN (n:=b.length) ah;omega
theorem JF {R1 R2:Hl} {row:List Value} {p:Pc} (hx:fM R1 R2 row p) (hb:p.b.length<=2100):(fF p).length<=3036/\(fF p).length<=936+p.b.length:=by
 have h1:=CA hx.hd;have h2:=jG (b:=bf p.h) ah;have h3:=jG (b:=p.b) ah;unfold fF;rw[aac];omega
noncomputable def xC:Sx.Spec where
 fn:=106
 own:=[]
 rd:=[1000053,1000125]
 res:=[.one .sl,.one .any]
 pre:=fun xs Hs Rs=>∃ row T B p,xs=[.agg row.toArray]/\Rs=[T,B]/\fM T B row p/\p.b.length<=2100
 post:=fun xs Hs Rs v Hs' F=>∃ u,v=.tuple #[u,.nilIface]/\∀ row T B p,xs=[.agg row.toArray]->Rs=[T,B]->fM T B row p->cV F u (fF p)
noncomputable def WV:List Sx.Spec:=[fv 146,sg,rH]
theorem TR:∀ t∈WV,t.OK Tryz.prog:=au D5 <| au Bo <| au zl <| bR
theorem Yn (f:FuncId):(fv f).res=[.one .sl]:=rfl
theorem Yo:sg.res=[]:=rfl
theorem Yp:rH.res=[.one .sl,.one (.int .i64)]:=rfl
theorem Ym (n:Nat):(aJ n [Cp.one .sl,Cp.one (.int .i64)]≠[])=True:=by simp [aJ,Cp.roots,Ck.root]
noncomputable def JG:aG Tryz.prog WV xC.fn where
 Λ:=aC
 args:=(cn 0 [.agg Av]).map .sv
 mem:=[.ro 132 [.var 53] false,.ro 133 [.var 128] true]
 nv:=134
set_option maxRecDepth 20000 in
theorem HK:xC.OK Tryz.prog:=by
 refine Spec.aT (Γ:=WV) TR ?_;rintro xs Hs Rs hl1 hl2 ⟨row,T,B,p,rfl,rfl,hx,hlen⟩;have e0:Hs=[]:=aad.1 hl1;subst e0;obtain⟨J,rfl,hnw,hh⟩:=xE (ks:=iT) [(132,T),(133,B)] hx.ok;have w1:J.h 132=T:=hh 132;have w2:J.h 133=B:=hh 133;refine⟨JG,J,fun _ _=>True,fun _ _=>0,rfl,cQ (by intro r hr;simp [JG]at hr;rcases hr with rfl | rfl<;>exact⟨_,_,_,rfl⟩) (by show [J.h 132,J.h 133]=_;rw[w1,w2]),(fun _ h=>nomatch h),?_⟩;refine aG.read [bU] [] [] ?_;simp only[go_sem,Nat.reduceAdd,WV,Yn,Yo,Yp,Ym,JL];generalize hrow0:(ar 0 iT).map (CV.ev J)=row at *;have ht0:(ar 0 bU).map (CV.ev J)=row.take 125:=by rw[<-hrow0,ou]
 have hb0:Value.slice (az (J.i 128) (J.i 129)) (J.i 130).toNat (J.i 131).toNat=row.getD 125 Bk:=by rw[<-hrow0,tN]
 have V:∀ q:Env,ai 134 J q->q.h 132=T/\q.h 133=B/\(ar 0 bU).map (CV.ev q)=row.take 125/\Value.slice (az (q.i 128) (q.i 129)) (q.i 130).toNat (q.i 131).toNat=row.getD 125 Bk:=fun q g=>by
  refine⟨by rw[g.h 132,w1],by rw[g.h 133,w2],?_,?_⟩
  .rw[<-ht0];exact aaQ Array.toList (Value.agg.inj (ft (ks:=bU) (n:=0) g aB))
  .rw[g.i 128,g.i 129,g.i 130,g.i 131];exact hb0
 intro q1 g1 p1 q2 g2 p2;have G2:ai 134 J q2:=g1.tr g2;obtain⟨x2,x3,xr,xb⟩:=V q2 G2;rw[xr,x2];refine⟨⟨_,T,p.h,rfl,rfl,hx.hd⟩,fun q3 g3 ⟨F3,hp3,hF3,hn3⟩=>?_⟩;have hB:=lW hx.hd hp3;rw[<-hF3 trivial]at hB;have p3:0<=q3.i 135:=by rw[g3.i 135];exact p2
 have e3:Hl.one (q3.i 135).toNat (Obj.cells #[Value.slice (az (-1) 0) (Int.toNat 0) (Int.toNat 0),Value.bool (bd q3 E.ff)] 208 (0,0))=Hl.one (q3.i 135).toNat (.cells #[.slice none 0 0,.bool false] 208 (0,0)):=rfl;have ep:∀ q:Env,q.i 135=q3.i 135->Value.pointer (az (q.i 135) 0)=.pointer (some ⟨(q3.i 135).toNat,0,none⟩):=fun q h=>by rw[h,av p3];rfl
 rw[e3,ep q3 rfl];have h1:=CA hx.hd;refine⟨⟨_,_,_,_,[],false,_,rfl,rfl,rfl,bp.new _,hB.rd.w,aF,ah⟩,fun q4 g4 ⟨F4,⟨p',u',H',R',bs,lg,b2,H'',f1,f2,f3,f4,f5,f6,f7⟩,_⟩=>?_⟩;simp only[aaf,aat]at f1 f2 f3 f6;obtain⟨rfl,rfl⟩:=f1;subst f2 f3 f6;obtain⟨rfl,rfl⟩:=(bp.new _).uniq f4;obtain rfl:=hB.rd.w.uniq f5;have t4:jm [] false (bf p.h)=(aI (bf p.h),false):=by unfold jm;rw[aal ah];rfl
 rw[t4]at f7;have f7:bp _ _ (aI (bf p.h)) false:=f7;have G4:ai 134 J q4:=G2.trans (g3.mono.tr g4);obtain⟨y2,y3,yr,yb⟩:=V q4 G4;rw[ep q4 (g4.i 135),yb,y3];have hl1:=jG (b:=bf p.h) ah;have hl2:=jG (b:=p.b) ah;refine⟨⟨_,_,_,_,_,false,p.b,rfl,rfl,rfl,f7,hx.body,ah,ah⟩,fun q5 g5 ⟨F5,⟨p',u',H',R',bs,lg,b2,H'',k1,k2,k3,k4,k5,k6,k7⟩,_⟩=>?_⟩;simp only[aaf,aat]at k1 k2 k3 k6;obtain⟨rfl,rfl⟩:=k1;subst k2 k3 k6;obtain⟨rfl,rfl⟩:=f7.uniq k4;obtain rfl:=hx.body.uniq k5;have t5:jm (aI (bf p.h)) false p.b=(fF p,false):=by unfold jm;rw[aal ah];rfl
 rw[t5]at k7;have k7:bp _ _ (fF p) false:=k7;rw[ep q5 (by rw[g5.i 135,g4.i 135])];have hl3:(fF p).length<=16384:=by unfold fF;rw[aac];omega
 refine⟨⟨_,_,_,false,rfl,rfl,k7,ah⟩,fun q6 g6 ⟨F6,⟨p',R',bs,lg,u,m1,m2,m3,m4,m5⟩,hF6,hn6⟩=>?_⟩;simp only[aaf,aat]at m1 m2;subst m1 m2;obtain⟨rfl,rfl⟩:=k7.uniq m3;have t6:qV (fF p) false=(fF p,0):=by unfold qV;rw[aal (by simp;omega)]
 rw[t6]at m4 m5;simp only[Value.tuple.injEq,aaJ,aaf,Value.int.injEq,aaV,aat]at m4;rw[<-m4.1,<-hF6 trivial]at m5;refine⟨fun _ _=>?_,fun hne=>absurd m4.2 hne⟩;have hn6:=hn6.1;refine⟨[],[5],rfl,rfl,⟨⟨fun k=>q6.i (k+144),fun _=>false,fun _=>.empty,fun _=>.nilIface,fun _=>Hl.none⟩,rfl,⟨hn6.1,hn6.2.1,hn6.2.2.1,hn6.2.2.2⟩,trivial,trivial⟩,_,rfl,fun row' T' B' p' e1 e2 hx'=>?_⟩;simp only[aaf,aat,Value.agg.injEq]at e1 e2;have e1:=aaI e1;obtain⟨rfl,rfl⟩:=e2;subst e1;obtain rfl:=hx.uniq hx';show cV (cZ [q6.h 144]) _ _;rw[aN];exact m5.rd.w
open Go.Proofs.YtomdimlnggpgbaaGreatDoor.D hiding aM aC fI
def VL (r:Nat) (ps:Value) (x:Nat):Hl:=Hl.one r (.cells #[ps,.pointer (some ⟨x,0,none⟩)] 125 (0,0))
structure Pf (H:Hl) (r:Nat) (dp ps:Value) (x:Nat) (HS HI:Hl) (S:SM) (st:Nat->List Pc):Prop where
 so:gw HS ps dp S
 ix:oZ HI x st
 d1:(VL r ps x).bT HS
 d2:(VL r ps x).bT HI
 d3:HS.bT HI
 hl:H=cZ [VL r ps x,HS,HI]
def fK (H:Hl) (p dp:Value) (S:SM) (st:Nat->List Pc):Prop:=∃ (r:Nat) (ps:Value) (x:Nat) (HS HI:Hl),p=.pointer (some ⟨r,0,none⟩)/\Pf H r dp ps x HS HI S st
def rV (R:Hl) (p:Value) (st:Nat->List Pc):Prop:=∃ (r:Nat) (ps:Value) (x:Nat),p=.pointer (some ⟨r,0,none⟩)/\R r=some (.cells #[ps,.pointer (some ⟨x,0,none⟩)] 125 (0,0))/\o9 R x st
theorem tj {A B C:Hl} (h1:A.bT B) (h2:A.bT C) (h3:B.bT C):A.le (cZ [A,B,C])/\B.le (cZ [A,B,C])/\C.le (cZ [A,B,C]):=by
 have hd:∀ (p q:Nat) X Y,p≠q->([A,B,C])[p]?=some X->([A,B,C])[q]?=some Y->X.bT Y:=by
  intro p q X Y hpq hX hY
  match p,q,hX,hY with
  | 0,0,_,_=>exact absurd rfl hpq
  | 0,1,hX,hY=>cases hX;cases hY;exact h1
  | 0,2,hX,hY=>cases hX;cases hY;exact h2
  | 1,0,hX,hY=>cases hX;cases hY;exact Hl.te h1
  | 1,1,_,_=>exact absurd rfl hpq
  | 1,2,hX,hY=>cases hX;cases hY;exact h3
  | 2,0,hX,hY=>cases hX;cases hY;exact Hl.te h2
  | 2,1,hX,hY=>cases hX;cases hY;exact Hl.te h3
  | 2,2,_,_=>exact absurd rfl hpq
  | p+3,_,hX,_=>simp at hX
  | 0,q+3,_,hY=>simp at hY
  | 1,q+3,_,hY=>simp at hY
  | 2,q+3,_,hY=>simp at hY
 exact⟨kQ hd (i:=0) rfl,kQ hd (i:=1) rfl,kQ hd (i:=2) rfl⟩
theorem fK.rd {H:Hl} {p dp:Value} {S:SM} {st:Nat->List Pc} (h:fK H p dp S st):rV H p st:=by
 obtain⟨r,ps,x,HS,HI,hp,h⟩:=h;obtain⟨l1,l2,l3⟩:=tj h.d1 h.d2 h.d3;rw[<-h.hl]at l1 l2 l3;exact⟨r,ps,x,hp,l1 _ _ (Hl.aX _ _),h.ix.rd.mono l3⟩
def Da:Sx.Spec where
 fn:=27
 own:=[.arg 0]
 rd:=[]
 res:=[.one .ptr,.one (.int .i64)]
 links:=[0]
 pre:=fun xs Hs Rs=>∃ dp H D,xs=[dp]/\Hs=[H]/\aE H dp D/\ak (kU D)/\ak (gU D)/\fx D=0/\(bY D).recs=[]
 post:=fun xs Hs Rs v Hs' F=>∃ dp H D H' pv,xs=[dp]/\Hs=[H]/\aE H dp D/\Hs'=[H']/\aE H' dp D/\v=.tuple #[pv,.int .i64 0]/\fK F pv dp (bY D) (fun _=>[])
def WW:List Sx.Spec:=[oF,BN,Ev,oz]
theorem TX:∀ t∈WW,t.OK Tryz.prog:=au vc <| au FD <| au Ew <| au uS <| bR
theorem VS:oF.res=[.one .ptr,.one (.int .i64)]:=rfl
theorem VT:BN.res=[.one .sl]:=rfl
theorem VU:Ev.res=[.one .ptr]:=rfl
def zU:aG Tryz.prog WW Da.fn where
 Λ:=fun p=>if Sv p [60,1,1,0,1,0,0,1,1]then some ⟨0,[],[],0⟩else none
 args:=[TP (.var 0) (.lit 0)]
 mem:=[.hp 1 [] [.var 0] []]
 nv:=2
set_option maxRecDepth 4000 in
theorem Lu:Da.OK Tryz.prog:=by
 refine Spec.aT (Γ:=WW) TX ?_;rintro xs Hs Rs hl1 hl2 ⟨dp,H,D,rfl,rfl,hD,hlo,hhi,hE,hrec⟩;have e1:Rs=[]:=aad.1 hl2;subst e1;obtain⟨da,s,m,es,clock,hdp,hDi⟩:=id hD;refine⟨zU,aM [(da:Int)] false [Hl.none,H],fun _ _=>True,fun _ _=>0,?_,⟨?_,?_,?_,?_⟩,(fun _ h=>nomatch h),?_⟩
 .show [Value.pointer (az (da:Int) 0)]=_;rw[gb,hdp]
 .intro r hr ho;simp [zU]at hr;subst hr;exact⟨H,aF,Hl.le_refl _⟩
 .intro r hr ho;simp [zU]at hr;subst hr;cases ho
 .simp [zU]
 .intro r hr;simp [zU]at hr;subst hr;trivial
 refine aG.read [] [] [] ?_;generalize hρ:aM [(da:Int)] false [Hl.none,H]=J;have v0:J.i 0=da:=by rw[<-hρ];rfl
 have w1:J.h 1=H:=by rw[<-hρ];rfl
 clear hρ;have ep:Value.pointer (az (da:Int) 0)=dp:=by rw[gb,hdp]
 simp only[go_sem,Nat.reduceAdd,WW,VS,VT,VU,JL,OA,Yu];rw[v0,w1,ep];refine⟨⟨dp,H,D,rfl,rfl,hD,hlo,hhi⟩,fun q1 g1 ⟨F1,hp1,hF1,hn1⟩=>?_⟩;obtain⟨pv,hD1,hv,hS,_⟩:=sz hD hp1;simp only[Value.tuple.injEq,aaJ,aaf,Value.int.injEq,aaV,aat]at hv;obtain⟨rfl,hv⟩:=hv;have h4:q1.i 4=0:=hv.trans hE;have hS:=hS hE;rw[<-hF1 trivial]at hS;refine⟨fun hne=>absurd h4 hne,fun _=>⟨⟨_,_,dp,bY D,rfl,rfl,hS.rd,by rw[hrec];simp,fun r hr=>by rw[hrec]at hr;cases hr⟩,fun q2 g2 ⟨F2,hp2,hF2,hn2⟩=>⟨rfl,fun q3 g3 ⟨F3,⟨x,hx,hI⟩,hF3,hn3⟩=>?_⟩⟩⟩;have hR:=BO hS.rd hp2;rw[hrec]at hR;have h7:q2.i 7=0:=by
  obtain⟨us,ho,_⟩:=hR;have hn:0<=q2.i 7:=hn2.1.2.2.1;rcases ho.2 with ⟨h,_⟩ | ⟨_,_,_,h,_⟩<;>(simp only[Value.slice.injEq]at h;have:=h.2.1;simp at this;omega)
 have h7':q3.i 7=0:=by rw[g3.i 7,h7]
 rw[<-hF3 trivial]at hI;refine⟨ah,fun h=>ah,fun _ q4 g4 p4 hdis=>?_⟩;have A:ai 9 q2 q4:=g3.tr g4;have A1:ai 5 q1 q4:=g2.tr A;have d1:(Hl.one (q4.i 11).toNat (.cells #[.pointer (az (q4.i 2) (q4.i 3)),.pointer (az (q4.i 9) (q4.i 10))] 125 (0,0))).bT (q4.h 3):=hdis 4 1 _ _ aB rfl rfl rfl;have d2:(Hl.one (q4.i 11).toNat (.cells #[.pointer (az (q4.i 2) (q4.i 3)),.pointer (az (q4.i 9) (q4.i 10))] 125 (0,0))).bT (q4.h 9):=hdis 4 3 _ _ aB rfl rfl rfl;have d3:(q4.h 3).bT (q4.h 9):=hdis 1 3 _ _ aB rfl rfl rfl;have e9:Value.pointer (az (q4.i 9) (q4.i 10))=.pointer (some ⟨x,0,none⟩):=by rw[g4.i 9,g4.i 10];exact hx
 rw[e9]at d1 d2;refine⟨[[0]],[4,1,3],rfl,rfl,⟨(bc fun k=>if k=0 then q4.i 11 else 0),rfl,⟨by show -1<=q4.i 11;omega,aap 0⟩,trivial,trivial⟩,dp,H,D,_,_,rfl,rfl,hD,rfl,?_,rfl,?_⟩
 .show aE (cZ [q4.h 2]) _ _;rw[aN,A1.h 2];exact hD1
 .refine⟨(q4.i 11).toNat,.pointer (az (q4.i 2) (q4.i 3)),x,q4.h 3,q4.h 9,?_,?_,?_,d1,d2,d3,?_⟩
  .show Value.pointer (az (q4.i 11) 0)=_;rw[av p4];rfl
  .rw[A1.i 2,A1.i 3,A1.h 3];exact hS
  .rw[g4.h 9];exact hI
  .show cZ [Hl.one (q4.i 11).toNat (.cells #[.pointer (az (q4.i 2) (q4.i 3)),.pointer (az (q4.i 9) (q4.i 10))] 125 (0,0)),q4.h 3,q4.h 9]=_;rw[e9];rfl
structure Y7 where
 e:Int
 D:DM
 S:SM
 st:Nat->List Pc
open Classical in
noncomputable def fh (D:DM) (S:SM) (st:Nat->List Pc) (c:Pc):Y7 :=
 if br st c≠0 then⟨br st c,D,S,st⟩
 else if(cf D S [fF c]).e≠0 then⟨(cf D S [fF c]).e,(cf D S [fF c]).D,(cf D S [fF c]).S,st⟩
 else⟨0,(cf D S [fF c]).D,(cf D S [fF c]).S,cP st c⟩
set_option maxRecDepth 20000 in
theorem Qt {a:Int} {row:List Value} (f:Nat->Int) (hs:List (Nat×Hl)) (h:bg row rI):∃ q:Env,q.i 0=a/\row=(ar 1 iT).map (CV.ev q)/\(∀ k,q.h k=AD hs k)/\(∀ k,133<=k->q.i k=f k):=by
 obtain⟨q,h0,hr,hh,_⟩:=CT (a:=a) hs h;refine⟨⟨fun k=>if 133<=k then f k else q.i k,q.b,q.s,q.v,q.h⟩,h0,?_,hh,fun k hk=>aax hk⟩;rw[hr];have g:ai 133 q ⟨fun k=>if 133<=k then f k else q.i k,q.b,q.s,q.v,q.h⟩:=⟨fun k hk=>aal ah,fun _ _=>rfl,fun _ _=>rfl,fun _ _=>rfl,fun _ _=>rfl⟩;exact(aaQ Array.toList (Value.agg.inj (ft (ks:=iT) (n:=1) g aB))).symm
theorem oZ.congr {H:Hl} {x:Nat} {st st':Nat->List Pc} (h:oZ H x st) (e:∀ i,i<6->st i=st' i):oZ H x st':=by
 obtain⟨a,sv,Kc,KB,h⟩:=h;refine⟨a,sv,Kc,KB,by rw[<-Gr e];exact h.bw,fun i hi=>?_,h.le,h.bT,h.nox,fun i hi=>by rw[<-e i hi];exact h.row i hi,h.kb,h.kbx,h.kbc,h.own⟩;have:=h.ch i hi;unfold lD at this ⊢;rw[<-e i hi];exact this
theorem tA {st st':Nat->List Pc} (e:∀ i,i<6->st i=st' i) (p:Pc) {i:Nat} (hi:i<6):cP st p i=cP st' p i:=by
 unfold cP;rw[nh e p];split
 .unfold vl;split
  .rename_i h;subst h;rw[e _ hi]
  .exact e i hi
 .exact e i hi
noncomputable def E8 (rt:Nat):Sx.Spec where
 fn:=30
 own:=[.arg 0,.link 0 0]
 rd:=[rt,1001125,2000000]
 res:=[.one (.int .i64)]
 pre:=fun xs Hs Rs=>∃ p H HD row T B RG g dp S D st c,xs=[p,.agg row.toArray]/\Hs=[H,HD]/\Rs=[T,B,RG]/\fK H p dp S st/\aE HD dp D/\fM T B row c/\c.b.length<=2100/\mK st/\(Gl RG g/\uu RG 5/\RG.cell 4 0=some yn)/\S.bA.length<=1048576/\0<=S.LA.serial/\S.recs.length<=1000000000
 post:=fun xs Hs Rs v Hs' F=>∃ p H HD row T B RG dp S D st c H' HD',xs=[p,.agg row.toArray]/\Hs=[H,HD]/\Rs=[T,B,RG]/\fK H p dp S st/\aE HD dp D/\fM T B row c/\Hs'=[H',HD']/\fK H' p dp (fh D S st c).S (fh D S st c).st/\aE HD' dp (fh D S st c).D/\v=.int .i64 (fh D S st c).e
def adA:Nd:=(fun a i y q p a2 a6 h b6 a5 a4 t v a7 n o a0 a1 b5=>(fun b c d f g j k b4 r s u w z a8=>(fun l m x a3 a9 b0 b1 b2 b3=>(.ext (.alloc 142) (.ext (.alloc 143) (.and (.pre x) (.ext x (.and (.imp (.eq (.var 144) i) (.and (.pre (.call 1 145 [.sv y] [] w)) (.ext (.call 1 145 [.sv y] [] w) (.and (.e (.le (.vint 149) v)) (.and (.imp (.not (.eq (.vint 149) i)) (.and (.pre a9) (.ext a9 (.post [.bw 0 b 125,.hp 135 [] t h,.hp 136 [] n [],.hp 138 [] h [],.ro 139 q false,.ro 140 p true,.ro 141 a false,.dead,.dead,.hp 145 [] a4 []] (.sv (.one (.int .i64 (.var 150)))))))) (.imp (.eq (.vint 149) i) (.ext (.alloc 150) (.and (.pre l) (.ext l (.and (.imp (.eq (.var 151) i) (.and (.pre (.call 3 154 c u d)) (.ext (.call 3 154 c u d) (.and (.imp (.eq a5 i) (.and (.pre (.call 4 156 o [] z)) (.ext (.call 4 156 o [] z) (.post [.bw 0 b 125,.hp 151 [135] t h,.hp 154 [136] n [],.hp 152 [138] h [],.ro 139 q false,.ro 140 p true,.ro 141 a false,.dead,.dead,.hp 145 [] a4 [],.dead] (.sv (.one (.int .i64 (.var 156)))))))) (.imp (.not (.eq a5 i)) (.ext (.alloc 156) (.ext (.mki 157 164 (.one (.hptr (.var 156) i))) (.and (.e (.le (.vint 157) v)) (.ext (.mki 158 222 (.agg [.vr 157])) (.and (.pre r) (.ext r (.post [.bw 0 b 125,.hp 151 [135] t h,.hp 154 [136] n [],.hp 152 [138] h [],.ro 139 q false,.ro 140 p true,.ro 141 a false,.dead,.dead,.hp 145 [] a4 [],.dead,.dead] a0)))))))))))) (.imp (.not (.eq (.var 151) i)) (.ext (.alloc 154) (.ext (.mki 155 164 (.one (.hptr a5 i))) (.and (.e (.le (.vint 155) v)) (.ext (.mki 156 222 (.agg [.vr 155])) (.and (.e (.le (.vint 156) v)) (.and (.imp (.not (.eq (.vint 156) i)) (.and (.pre b0) (.ext b0 (.post [.bw 0 b 125,.hp 151 [135] t h,.hp 136 [] n [],.hp 152 [138] h [],.ro 139 q false,.ro 140 p true,.ro 141 a false,.dead,.dead,.hp 145 [] a4 [],.dead,.dead] (.sv (.one (.int .i64 a6))))))) (.imp (.eq (.vint 156) i) (.and (.pre a3) (.ext a3 (.and (.imp (.eq a6 i) (.and (.pre (.call 4 159 o [] j)) (.ext (.call 4 159 o [] j) (.post [.bw 0 b 125,.hp 151 [135] t h,.hp 157 [136] n [],.hp 152 [138] h [],.ro 139 q false,.ro 140 p true,.ro 141 a false,.dead,.dead,.hp 145 [] a4 [],.dead,.dead] a0)))) (.imp (.not (.eq a6 i)) (.ext (.alloc 159) (.ext a8 (.and (.e (.le (.vint 160) v)) (.ext b5 (.and (.pre g) (.ext g (.post [.bw 0 b 125,.hp 151 [135] t h,.hp 157 [136] n [],.hp 152 [138] h [],.ro 139 q false,.ro 140 p true,.ro 141 a false,.dead,.dead,.hp 145 [] a4 [],.dead,.dead,.dead] a1))))))))))))))))))))))))))))) (.imp (.not (.eq (.var 144) i)) (.ext (.alloc 145) (.ext (.mki 146 164 (.one (.hptr (.var 145) i))) (.and (.e (.le (.vint 146) v)) (.ext (.mki 147 222 (.agg [.vr 146])) (.and (.e (.le (.vint 147) v)) (.and (.imp (.not (.eq (.vint 147) i)) (.and (.pre b1) (.ext b1 (.post [.bw 0 b 125,.hp 135 [] t h,.hp 136 [] n [],.hp 138 [] h [],.ro 139 q false,.ro 140 p true,.ro 141 a false,.dead,.dead,.dead] (.sv (.one (.int .i64 (.var 148)))))))) (.imp (.eq (.vint 147) i) (.and (.pre (.call 1 148 [.sv y] [] w)) (.ext (.call 1 148 [.sv y] [] w) (.and (.e (.le (.vint 152) v)) (.and (.imp (.not (.eq (.vint 152) i)) (.and (.pre b2) (.ext b2 (.post [.bw 0 b 125,.hp 135 [] t h,.hp 136 [] n [],.hp 138 [] h [],.ro 139 q false,.ro 140 p true,.ro 141 a false,.dead,.dead,.dead,.hp 148 [] a7 []] (.sv (.one (.int .i64 (.var 153)))))))) (.imp (.eq (.vint 152) i) (.ext (.alloc 153) (.and (.pre m) (.ext m (.and (.imp (.eq a5 i) (.and (.pre a3) (.ext a3 (.and (.imp (.eq a6 i) (.and (.pre (.call 4 159 o [] f)) (.ext (.call 4 159 o [] f) (.post [.bw 0 b 125,.hp 154 [135] t h,.hp 157 [136] n [],.hp 155 [138] h [],.ro 139 q false,.ro 140 p true,.ro 141 a false,.dead,.dead,.dead,.hp 148 [] a7 [],.dead] a0)))) (.imp (.not (.eq a6 i)) (.ext (.alloc 159) (.ext a8 (.and (.e (.le (.vint 160) v)) (.ext b5 (.and (.pre g) (.ext g (.post [.bw 0 b 125,.hp 154 [135] t h,.hp 157 [136] n [],.hp 155 [138] h [],.ro 139 q false,.ro 140 p true,.ro 141 a false,.dead,.dead,.dead,.hp 148 [] a7 [],.dead,.dead] a1)))))))))))) (.imp (.not (.eq a5 i)) (.ext (.alloc 157) (.ext (.mki 158 164 (.one (.hptr a6 i))) (.and (.e (.le (.vint 158) v)) (.ext (.mki 159 222 (.agg [.vr 158])) (.and (.e (.le (.vint 159) v)) (.and (.imp (.not (.eq (.vint 159) i)) (.and (.pre b3) (.ext b3 (.post [.bw 0 b 125,.hp 154 [135] t h,.hp 136 [] n [],.hp 155 [138] h [],.ro 139 q false,.ro 140 p true,.ro 141 a false,.dead,.dead,.dead,.hp 148 [] a7 [],.dead,.dead] (.sv (.one (.int .i64 (.var 160)))))))) (.imp (.eq (.vint 159) i) (.and (.pre (.call 3 160 c u d)) (.ext (.call 3 160 c u d) (.and (.imp (.eq (.var 160) i) (.and (.pre (.call 4 162 o [] k)) (.ext (.call 4 162 o [] k) (.post [.bw 0 b 125,.hp 154 [135] t h,.hp 160 [136] n [],.hp 155 [138] h [],.ro 139 q false,.ro 140 p true,.ro 141 a false,.dead,.dead,.dead,.hp 148 [] a7 [],.dead,.dead] a1)))) (.imp (.not (.eq (.var 160) i)) (.ext (.alloc 162) (.ext (.mki 163 164 (.one (.hptr (.var 162) i))) (.and (.e (.le (.vint 163) v)) (.ext (.mki 164 222 (.agg [.vr 163])) (.and (.pre s) (.ext s (.post [.bw 0 b 125,.hp 154 [135] t h,.hp 160 [136] n [],.hp 155 [138] h [],.ro 139 q false,.ro 140 p true,.ro 141 a false,.dead,.dead,.dead,.hp 148 [] a7 [],.dead,.dead,.dead] (.sv (.one (.int .i64 (.var 165)))))))))))))))))))))))))))))))))))))))))))):Nd)) (.call 2 151 [.sv (.one (.hptr (.var 133) i)),.sv (.one (.sl (.var 150) i v v))] b4 [.bw 150 [.sl (.var 145) (.var 146) (.var 147) (.var 148)] 46,.hp 145 [] a4 [],.ro 141 a false]) (.call 2 154 [.sv (.one (.hptr (.var 133) i)),.sv (.one (.sl (.var 153) i v v))] b4 [.bw 153 [.sl (.var 148) (.var 149) (.var 150) (.var 151)] 46,.hp 148 [] a7 [],.ro 141 a false]) (.call 0 144 c [] [.hp 136 [] n [],.ro 139 q false,.ro 140 p true,.ro 141 a false]) (.call 3 157 c u d) (.call 4 150 [.sv (.one (.vr 149))] [] z) (.call 4 157 [.sv (.one (.vr 156))] [] j) (.call 4 148 [.sv (.one (.vr 147))] [] f) (.call 4 153 [.sv (.one (.vr 152))] [] f) (.call 4 160 [.sv (.one (.vr 159))] [] k)) [.hptr (.var 133) i,.hptr (.var 134) i] [.sv (.one (.hptr (.var 134) i)),.sv y] [.ro 139 q false,.ro 140 p true,.ro 141 a false] [.bw 145 [.str (.slit ⟨#[97,115,107]⟩),.int .i64 (.var 144)] 168,.ro 141 a false] (.call 4 162 [.sv (.one (.vr 161))] [] [.bw 159 [.str a2,.int .i64 a6] 168,.ro 141 a false]) [.bw 154 [.str b6,.int .i64 (.var 151)] 168,.ro 141 a false] [.bw 157 [.str b6,.int .i64 a5] 168,.ro 141 a false] [.hp 135 [] t h,.hp 138 [] h []] (.call 4 159 [.sv (.one (.vr 158))] [] [.bw 156 [.str a2,.int .i64 a5] 168,.ro 141 a false]) (.call 4 165 [.sv (.one (.vr 164))] [] [.bw 162 [.str a2,.int .i64 (.var 160)] 168,.ro 141 a false]) [.hp 136 [] n []] [.ro 139 q false,.ro 140 p true] [.dead,.ro 141 a false] (.mki 160 164 (.one (.hptr (.var 159) i)))) [.lit 0,.lit 1,.lit 2,.lit 3,.lit 4,.lit 5] (.lit 0) (.agg (ar 1 Av)) [.var 54] [.var 129] (.slit ⟨#[112,117,116]⟩) (.var 157) [.var 137] (.slit ⟨#[97,100,100]⟩) (.var 154) [.var 145] [.var 133] (.lit 1) [.var 148] [.var 134] [.sv (.one (.val .nilIface))] (.sv (.one (.int .i64 (.var 159)))) (.sv (.one (.int .i64 (.var 162)))) (.mki 161 222 (.agg [.vr 160]))
noncomputable def WX:List Sx.Spec:=[AY,xC,B8,Ba,oz]
theorem TY:∀ t∈WX,t.OK Tryz.prog:=au Es <| au HK <| au Ir <| au Ey <| au uS <| bR
theorem Yv:xC.res=[.one .sl,.one .any]:=rfl
theorem Yw:B8.res=[.one (.int .i64)]:=rfl
theorem VW:Ba.res=[.one (.int .i64)]:=rfl
theorem VX:oz.res=[.one (.int .i64)]:=rfl
theorem Yt (n:Nat):(aJ n [Cp.one .sl,Cp.one .any]≠[])=True:=by simp [aJ,Cp.roots,Ck.root]
def BG:Mem:=[.bw 0 [.hptr (.var 133) (.lit 0),.hptr (.var 134) (.lit 0)] 125,.hp 135 [] [.var 133] [.var 137],.hp 136 [] [.var 134] [],.hp 138 [] [.var 137] [],.ro 139 [.var 54] false,.ro 140 [.var 129] true,.ro 141 [.lit 0,.lit 1,.lit 2,.lit 3,.lit 4,.lit 5] false]
noncomputable def Jx:aG Tryz.prog WX 30 where
 Λ:=aC
 args:=TP (.var 0) (.lit 0)::(cn 1 [.agg Av]).map .sv
 mem:=BG
 nv:=142
set_option maxRecDepth 20000 in
theorem N5 (rt:Nat):(E8 rt).OK Tryz.prog:=by
 refine jE (Γ:=WX) TY ?_;rintro xs Hs Rs hl1 hl2 hdis ⟨p,H,HD,row,T,B,RG,g,dp,S,D,st,c,rfl,rfl,rfl,hR,hD,hx,hlen,hSh,⟨hGl,hK,hEt⟩,hb1,hb2,hb3⟩;obtain⟨r,ps,x,HS,HI,rfl,hIn⟩:=id hR;obtain⟨a,pa,pb,sl,HA,HB,HR,rfl,_⟩:=id hIn.so;obtain⟨da,s,m,es,clock,hdp,_⟩:=id hD;obtain⟨J,va,rfl,hh,hv⟩:=Qt (a:=(r:Int)) (fun k=>if k=133 then(a:Int)else if k=134 then(x:Int)else da) [(135,HS),(136,HI),(138,HD),(139,T),(140,B),(141,RG)] hx.ok;have v3:J.i 133=a:=hv 133 ah;have v4:J.i 134=x:=hv 134 ah;have v7:J.i 137=da:=hv 137 ah;have w5:J.h 135=HS:=hh 135;have w6:J.h 136=HI:=hh 136;have w8:J.h 138=HD:=hh 138;have w9:J.h 139=T:=hh 139;have w0:J.h 140=B:=hh 140;have w1:J.h 141=RG:=hh 141;have eb:Hl.one (J.i 0).toNat (.cells #[.pointer (az (J.i 133) 0),.pointer (az (J.i 134) 0)] 125 (0,0))=VL r (.pointer (some ⟨a,0,none⟩)) x:=by
  rw[va,v3,v4,av ah,av ah];rfl
 obtain⟨l1,l2,l3⟩:=tj hIn.d1 hIn.d2 hIn.d3;rw[<-hIn.hl]at l1 l2 l3;refine⟨Jx,J,fun _ _=>True,fun _ _=>0,?_,⟨?_,?_,?_,?_⟩,(fun _ h=>nomatch h),?_⟩
 .show [Value.pointer (az (J.i 0) 0),.agg ((ar 1 iT).map (CV.ev J)).toArray]=_;rw[va,av ah];rfl
 .intro q hq ho;simp [Jx,BG]at hq;rcases hq with rfl | rfl | rfl | rfl | rfl | rfl | rfl
  .exact⟨H,aF,by show(Hl.one (J.i 0).toNat (.cells #[.pointer (az (J.i 133) 0),.pointer (az (J.i 134) 0)] 125 (0,0))).le H;rw[eb];exact l1⟩
  .exact⟨H,aF,by show(J.h 135).le H;rw[w5];exact l2⟩
  .exact⟨H,aF,by show(J.h 136).le H;rw[w6];exact l3⟩
  .exact⟨HD,aF,by show(J.h 138).le HD;rw[w8];exact Hl.le_refl _⟩
  all_goals cases ho
 .intro q hq ho;simp [Jx,BG]at hq;rcases hq with rfl | rfl | rfl | rfl | rfl | rfl | rfl
  .cases ho
  .cases ho
  .cases ho
  .cases ho
  .exact⟨T,aF,by show(J.h 139).le T;rw[w9];exact Hl.le_refl _⟩
  .exact⟨B,aF,by show(J.h 140).le B;rw[w0];exact Hl.le_refl _⟩
  .exact⟨RG,aF,by show(J.h 141).le RG;rw[w1];exact Hl.le_refl _⟩
 .have hHD:H.bT HD:=hdis 0 1 _ _ aB rfl rfl;have dle:∀ {A:Hl},A.le H->A.bT HD:=fun h b ⟨y,z⟩=>hHD b ⟨Hl.ef h y,z⟩;show List.Pairwise _ BG;simp only[BG,List.pairwise_cons,aas,aaA,abc,forall_eq_or_imp,forall_eq,bE.own,bE.hl,List.Pairwise.nil,aat,aa2,false_imp_iff,imp_true_iff,forall_const,aaC,abp,CV.ev,al,aq,false_implies,implies_true];rw[eb,w5,w6,w8];exact⟨⟨hIn.d1,hIn.d2,dle l1⟩,⟨hIn.d3,dle l2⟩,dle l3⟩
 .intro q hq;simp [Jx,BG]at hq;rcases hq with rfl | rfl | rfl | rfl | rfl | rfl | rfl
  .show 0<=J.i 0;rw[va];omega
  all_goals trivial
 refine aG.lit (x:=adA) ?_;unfold adA;simp only[go_sem,Nat.reduceAdd,WX,Vk,Yv,Yw,VW,VX,Yt];generalize hrow0:(ar 1 iT).map (CV.ev J)=row at *;have V:∀ q:Env,ai 142 J q->(q.i 0=r/\q.i 133=a/\q.i 134=x/\q.i 137=da)/\(q.h 135=HS/\q.h 136=HI/\q.h 138=HD/\q.h 139=T/\q.h 140=B/\q.h 141=RG)/\(ar 1 Av).map (CV.ev q)=row:=fun q g=>by
  refine⟨⟨by rw[g.i 0,va],by rw[g.i 133,v3],by rw[g.i 134,v4],by rw[g.i 137,v7]⟩,⟨by rw[g.h 135,w5],by rw[g.h 136,w6],by rw[g.h 138,w8],by rw[g.h 139,w9],by rw[g.h 140,w0],by rw[g.h 141,w1]⟩,?_⟩;rw[<-hrow0];exact aaQ Array.toList (Value.agg.inj (ft (ks:=iT) (n:=1) g aB))
 have eP:∀ n:Nat,Value.pointer (az (n:Int) 0)=.pointer (some ⟨n,0,none⟩):=fun n=>gb n;have fin:∀ (q:Env) (ks ki kd:Nat) (vs vi vd:List Nat) (t:Mem) (e:E) (R:Y7),fh D S st c=R->ai 142 J q->gw (q.h ks) (.pointer (some ⟨a,0,none⟩)) dp R.S->oZ (q.h ki) x R.st->aE (q.h kd) dp R.D->aA q e=R.e ->
  postOf (E8 rt) [.pointer (some ⟨r,0,none⟩),.agg row.toArray] [H,HD] [T,B,RG] q (.bw 0 [.hptr (.var 133) (.lit 0),.hptr (.var 134) (.lit 0)] 125::.hp ks vs [.var 133] [.var 137]::.hp ki vi [.var 134] []::.hp kd vd [.var 137] []::t) (.sv (.one (.int .i64 e))):=by
  intro q ks ki kd vs vi vd t e R hR' g h1 h2 h3 h4 hdis;obtain⟨⟨k0,k1,k2,_⟩,_⟩:=V q g;have eb':Hl.one (q.i 0).toNat (.cells #[.pointer (az (q.i 133) 0),.pointer (az (q.i 134) 0)] 125 (0,0))=VL r (.pointer (some ⟨a,0,none⟩)) x:=by
   rw[k0,k1,k2,eP,eP];rfl
  have d1:(Hl.one (q.i 0).toNat (.cells #[.pointer (az (q.i 133) 0),.pointer (az (q.i 134) 0)] 125 (0,0))).bT (q.h ks):=hdis 0 1 _ _ aB rfl rfl rfl;have d2:(Hl.one (q.i 0).toNat (.cells #[.pointer (az (q.i 133) 0),.pointer (az (q.i 134) 0)] 125 (0,0))).bT (q.h ki):=hdis 0 2 _ _ aB rfl rfl rfl;have d3:(q.h ks).bT (q.h ki):=hdis 1 2 _ _ aB rfl rfl rfl;rw[eb']at d1 d2;subst hR';refine⟨[[0,1,2],[3]],[],rfl,rfl,⟨(bc fun _=>aA q e),rfl,trivial,trivial⟩,_,H,HD,row,T,B,RG,dp,S,D,st,c,_,_,rfl,rfl,rfl,hR,hD,hx,rfl,⟨r,_,x,q.h ks,q.h ki,rfl,h1,h2,d1,d2,d3,?_⟩,?_,by rw[<-h4];rfl⟩
  .rw[<-eb'];rfl
  .show aE (cZ [q.h kd]) _ _;rw[aN];exact h3
 have nPre:∀ {R:Hl} {v:Value} {n:Int},pd R v n->oz.pre [v] [] [R,RG]:=fun h=>⟨_,_,RG,_,rfl,rfl,hEt,h⟩;have nRes:∀ {R:Hl} {v w:Value} {n:Int} {K:List Hl} {F:Hl},pd R v n->oz.post [v] [] [R,RG] w K F->w=.int .i64 n:=fun h hp=>by
  obtain⟨e,R',G',e1,e2,hq⟩:=hp;simp only[aaf,aat]at e1 e2;obtain⟨rfl,rfl⟩:=e2;subst e1;exact hq _ h
 have met:∀ {v w:Value} {z n:Int} {s:ByteArray},0<=z->v=.iface 164 (.pointer (az z 0))->w=.iface 222 (.agg #[v])->pd (Hl.one z.toNat (.cells #[.string s,.int .i64 n] 168 (0,0))) w n:=fun hz e1 e2=>Or.inr ⟨_,_,by rw[e2,e1,av hz];rfl,Hl.aX _ _⟩;have vi1:∀ {q:Env} {n:Nat} {T:TypeId} {v:Value},q.v n=.iface T v->aA q (.vint n)=1:=fun h=>by rw[tq,h];rfl
 intro q0 g0 p0 q1 g1 p1;have G1:ai 142 J q1:=g0.tr g1;obtain⟨⟨k0,k1,k2,k3⟩,⟨u5,u6,u8,u9,u0,u1⟩,kr⟩:=V q1 G1;rw[k2,eP,kr,u6,u9,u0,u1];refine⟨⟨x,HI,st,_,T,B,RG,c,rfl,rfl,hIn.ix.rd,hSh,hx,ah,hK⟩,fun q2 g2 ⟨F2,hp2,_⟩=>?_⟩;have hask:q2.i 144=br st c:=by simpa using hp2 _ _ _ _ _ _ _ _ rfl rfl hIn.ix.rd hx
 have G2:ai 142 J q2:=G1.tr g2;obtain⟨⟨m0,m1,m2,m3⟩,⟨n5,n6,n8,n9,n0,n1⟩,mr⟩:=V q2 G2;refine⟨fun heq=>?_,fun hne=>?_⟩
 .have h0:br st c=0:=hask.symm.trans heq;rw[mr,n9,n0];refine⟨⟨_,T,B,c,rfl,rfl,hx,hlen⟩,fun q3 g3 ⟨F3,⟨u,hu,hrec⟩,hF3,hn3⟩=>?_⟩;simp only[Value.tuple.injEq,aaJ,aaf,aat]at hu;obtain⟨rfl,hu⟩:=hu;have hrec:=hrec _ _ _ _ rfl rfl hx;rw[<-hF3 trivial]at hrec;have hv0:aA q3 (.vint 149)=0:=by rw[tq,hu];rfl
  refine⟨ah,fun hne=>absurd hv0 hne,fun _ q4 g4 p4=>?_⟩;have G3:ai 142 J q3:=G2.tr g3;have G4:ai 142 J q4:=G3.tr g4;obtain⟨⟨y0,y1,y2,y3⟩,⟨z5,z6,z8,z9,z0,z1⟩,yr⟩:=V q4 G4;rw[y1,eP,z5,z8,z1,g4.i 145,g4.i 146,g4.i 147,g4.i 148,g4.h 145];have hrows:=nz (T:=46) p4 hrec;have hrl:=JF hx hlen;refine⟨⟨_,_,HS,HD,_,_,RG,g,dp,S,D,_,rfl,rfl,rfl,hIn.so,hD,hrows,hGl,aF,fun r hr=>by rw[aam.1 hr];omega,hb1,hb2,hb3⟩,fun q5 g5 ⟨F5,hp5,_⟩=>?_⟩;obtain⟨hD5,hS5,he⟩:=xL hIn.so hD hrows hp5;have he:q5.i 151=(cf D S [fF c]).e:=by simpa using he
  have G5:ai 142 J q5:=G4.tr g5;obtain⟨⟨s0,s1,s2,s3⟩,⟨t5,t6,t8,t9,t0,t1⟩,sr⟩:=V q5 G5;refine⟨fun h5=>?_,fun h5=>?_⟩
  .rw[s2,eP,sr,t6,t9,t0,t1];refine⟨⟨x,HI,st,_,T,B,RG,c,rfl,rfl,rfl,hIn.ix,hSh,hx,ah,hK⟩,fun q6 g6 ⟨F6,⟨x',H',st',row',T',B',RG',c',K',e1,e2,e3,i1,i2,e4,hv,hI6⟩,_⟩=>?_⟩;simp only[aaf,aat,Value.pointer.injEq,aaj,Addr.mk.injEq,Value.agg.injEq]at e1 e2 e3 e4;obtain⟨rfl,e1⟩:=e1;obtain⟨rfl,rfl,rfl⟩:=e3;have e1:=aaI e1;subst e1 e2 e4;obtain rfl:=hx.uniq i2;have est:∀ i,i<6->st i=st' i:=fun i hi=>hIn.ix.rd.st i1.rd hi;have hI6:oZ (q6.h 154) x (cP st' c):=hI6;have h6:q6.i 154=0:=by
    have:q6.i 154=br st' c:=by simpa using hv
    rw[this,<-nh est c,h0]
   have G6:ai 142 J q6:=G5.tr g6;obtain⟨_,⟨_,_,_,_,_,r1⟩,_⟩:=V q6 G6;rw[r1];refine⟨fun _=>⟨nPre (Or.inl ⟨rfl,rfl⟩),fun q7 g7 ⟨F7,hp7,_⟩=>?_⟩,fun hne=>absurd h6 hne⟩;have h7:q7.i 156=0:=by simpa using nRes (Or.inl ⟨rfl,rfl⟩) hp7
   refine fin q7 151 154 152 _ _ _ _ _ ⟨0,(cf D S [fF c]).D,(cf D S [fF c]).S,cP st c⟩ ?_ (G6.tr g7) ?_ ?_ ?_ h7
   .unfold fh;rw[aal (fun h=>h h0),aal (fun h=>h (he.symm.trans h5))]
   .rw[g7.h 151,g6.h 151];exact hS5
   .rw[g7.h 154];exact hI6.congr fun i hi=>(tA est c hi).symm
   .rw[g7.h 152,g6.h 152];exact hD5
  .intro q6 g6 p6 q7 g7 p7;refine⟨by rw[vi1 p7];omega,fun q8 g8 p8=>⟨by rw[vi1 p8];omega,fun _=>?_,fun h=>absurd ((vi1 p8).symm.trans h) aB⟩⟩;have G8:ai 142 J q8:=G5.trans (g6.mono.trans (g7.mono.tr g8));obtain⟨_,⟨_,_,_,_,_,r1⟩,_⟩:=V q8 G8;have hm:=met (s:={data:=#[97,100,100]}) (n:=q8.i 151) p6 p7 p8;have e154:q6.i 154=q8.i 154:=by rw[g8.i 154,g7.i 154]
   rw[e154]at hm;have e151:q7.i 151=q8.i 151:=(g8.i 151).symm;rw[r1];refine⟨nPre hm,fun q9 g9 ⟨F9,hp9,_⟩=>?_⟩;have h9:q9.i 157=q8.i 151:=by simpa using nRes hm hp9
   have hn5:(cf D S [fF c]).e≠0:=fun h=>h5 (he.trans h);have G9:ai 142 J q9:=G8.tr g9;have A9:ai 154 q5 q9:=g6.trans (g7.mono.trans (g8.mono.tr g9));refine fin q9 151 136 152 _ _ _ _ _ ⟨(cf D S [fF c]).e,(cf D S [fF c]).D,(cf D S [fF c]).S,st⟩ ?_ G9 ?_ ?_ ?_ ?_
   .unfold fh;rw[aal (fun h=>h h0),aax hn5]
   .rw[A9.h 151];exact hS5
   .rw[(V q9 G9).2.1.2.1];exact hIn.ix
   .rw[A9.h 152];exact hD5
   .exact h9.trans (e151.symm.trans ((by rw[g7.i 151,g6.i 151]:q7.i 151=q5.i 151).trans he))
 .have hn0:br st c≠0:=fun h=>hne (hask.trans h);intro q3 g3 p3 q4 g4 p4;refine⟨by rw[vi1 p4];omega,fun q5 g5 p5=>⟨by rw[vi1 p5];omega,fun _=>?_,fun h=>absurd ((vi1 p5).symm.trans h) aB⟩⟩;have G5:ai 142 J q5:=G2.trans (g3.mono.trans (g4.mono.tr g5));obtain⟨_,⟨_,_,_,_,_,r1⟩,_⟩:=V q5 G5;have hm:=met (s:={data:=#[97,115,107]}) (n:=q5.i 144) p3 p4 p5;have e145:q3.i 145=q5.i 145:=by rw[g5.i 145,g4.i 145]
  rw[e145]at hm;rw[r1];refine⟨nPre hm,fun q6 g6 ⟨F6,hp6,_⟩=>?_⟩;have h6:q6.i 148=q5.i 144:=by simpa using nRes hm hp6
  have G6:ai 142 J q6:=G5.tr g6;obtain⟨_,⟨o5,o6,o8,_,_,_⟩,_⟩:=V q6 G6;refine fin q6 135 136 138 _ _ _ _ _ ⟨br st c,D,S,st⟩ ?_ G6 (by rw[o5];exact hIn.so) (by rw[o6];exact hIn.ix) (by rw[o8];exact hD) ?_
  .unfold fh;rw[aax hn0]
  .exact h6.trans ((by rw[g5.i 144,g4.i 144,g3.i 144]:q5.i 144=q2.i 144).trans hask)
end Go.Proofs.YtomdimlnggpgbaaGreatDoor
namespace Go.Proofs.YtomdimlnggpgbaaGreatDoor
open Go Go.Sx Go.Pk
section
variable {s:Sx.Spec} {xs:List Value} {Rs:List Hl} {q:Env} {mem:Mem}
theorem tP {e:E} (hr:s.res=[.one .bool]) (h:s.post xs [] Rs (.bool (bd q e)) [] Hl.none):postOf s xs [] Rs q mem (.sv (.one (.bool e))):=fun _ =>
 ⟨[],[],rfl,rfl,⟨{Y1 with b:=fun _=>bd q e},by rw[hr];rfl,by rw[hr];exact⟨trivial,trivial⟩⟩,h⟩
theorem Zm (f:FuncId):(fv f).res=[.one .sl]:=rfl
end
theorem Lo {R:Hl} {u:Value} {r:List Int} (h:cV R u r):bD (some u) .slice=true/\bm (some u) 2=r.length /\
 (bm (some u) 0= -1\/bm (some u) 2=0\/0<=bm (some u) 0/\0<=bm (some u) 1/\bx R (bm (some u) 0).toNat (bm (some u) 1).toNat (bm (some u) 2).toNat=true) /\
 ∀ [Decidable (bm (some u) 0= -1)],(if bm (some u) 0= -1 then(⟨#[]⟩:ByteArray)else bytesOf (fg R (bm (some u) 0).toNat (bm (some u) 1).toNat (bm (some u) 2).toNat))=bytesOf r:=by
 have h2:=JC h;obtain⟨x,y,c,rfl,hy,h⟩:=h;refine⟨rfl,h2,?_⟩;rw[h2];rcases h with h | ⟨hx,hc⟩
 .subst h;refine⟨Or.inr (Or.inl rfl),?_⟩;intro _;show(if _ then(⟨#[]⟩:ByteArray)else bytesOf (fg R _ _ 0))=ByteArray.empty;split<;>rfl
 .rw[Uq ah,V5 hx hy,aaa];refine⟨Or.inr (Or.inr ⟨hx,hy,cO hc (aav _)⟩),?_⟩;intro _;rw[aal ah,kE hc]
theorem kX {R:Hl} {x y l c:Int} {bs:List Int} [Decidable (x= -1)] (h:cV R (.slice (az x y) l.toNat c.toNat) bs) (hy:0<=y) (hl:0<=l) :
 (x= -1\/l=0\/0<=x/\0<=y/\bx R x.toNat y.toNat l.toNat=true)/\(if x= -1 then(⟨#[]⟩:ByteArray)else bytesOf (fg R x.toNat y.toNat l.toNat))=bytesOf bs:=by
 obtain⟨x',y',c',he,hy',h⟩:=h;simp only[Value.slice.injEq]at he;obtain⟨hp,he,_⟩:=he;rcases h with rfl | ⟨h0,h⟩
 .have e:l=0:=by
   have:=he;simp at this;omega
  subst e;refine⟨Or.inr (Or.inl rfl),?_⟩;split<;>rfl
 .obtain⟨rfl,rfl⟩:=oD h0 hy' hy hp;refine⟨Or.inr (Or.inr ⟨h0,hy,cO h ah⟩),?_⟩;rw[aal ah,he,kE h]
def kq:Sx.Spec where
 fn:=63
 own:=[]
 rd:=[0]
 res:=[.one .sl]
 pre:=fun xs Hs Rs=>∃ v R rows,xs=[v]/\Rs=[R]/\bj R v rI rows/\rows.length<=100000
 post:=fun xs Hs Rs v' Hs' F=>∀ v R rows,xs=[v]->Rs=[R]->bj R v rI rows->bj F v' dZ (rows.map (List.take 125))
def BC:aG Tryz.prog [] kq.fn where
 Λ:=fun p=>if L9 p then some ⟨0,[(4,TI .i64 (.var 50)),(3,.sv (.one (.sl (.var 51) (.lit 0) (.var 52) (.var 53))))],[(1,.hp 54 [] [.var 51] [])],60⟩else none
 args:=[.sv (.one (.sl (.var 0) (.var 1) (.var 2) (.var 3)))]
 mem:=[.ro 4 [.var 0] true]
 nv:=5
theorem tQ:kq.OK Tryz.prog:=by
 refine Spec.aT (Γ:=[]) (fun _ h=>by cases h) ?_;rintro xs Hs Rs hl1 hl2 ⟨v,R,rows,rfl,rfl,hR,hlen⟩;have e0:Hs=[]:=aad.1 hl1;subst e0;obtain⟨x,y,c,rfl,hy,_⟩:=id hR;refine⟨BC,aM [x,y,rows.length,c] false [Hl.none,Hl.none,Hl.none,Hl.none,R],fun _ q=>∃ k:Nat,q.i 50=k/\k<=rows.length/\ -1<=q.i 51/\q.i 52=k/\0<=q.i 53/\sH (q.h 54) 65 dZ (.slice (az (q.i 51) 0) (q.i 52).toNat (q.i 53).toNat) ((rows.take k).map (List.take 125)),fun _ q=>(rows.length-q.i 50).toNat,?_,cQ (by intro r hr;simp [BC]at hr;subst hr;exact⟨_,_,_,rfl⟩) rfl,(fun _ h=>nomatch h),?_⟩
 .show [Value.slice (az x y) ((rows.length:Int)).toNat ((c:Int)).toNat]=_;rw[aaa,aaa]
 refine aG.read [] [dZ] [] ?_;generalize hρ:aM [x,y,rows.length,c] false [Hl.none,Hl.none,Hl.none,Hl.none,R]=J;have V:∀ q:Env,ai 5 J q->q.i 0=x/\q.i 1=y/\q.i 2=rows.length/\q.h 4=R:=fun q hg=>by
  rw[hg.i 0,hg.i 1,hg.i 2,hg.h 4,<-hρ];exact⟨rfl,rfl,rfl,rfl⟩
 clear hρ;simp only[go_sem,Nat.reduceAdd];refine⟨⟨0,rfl,aa6 _,aap _,rfl,aap _,sH.nil _ _ _⟩,fun q g ⟨k,ek,hk,x51,e52,x53,ho⟩=>?_⟩;obtain⟨v0,v1,v2,w4⟩:=V q g;rw[v0,v1,v2,w4,ek];refine⟨ah,fun hlt=>?_,fun hge=>?_⟩
 .have hx0:0<=x:=by
   obtain⟨x',y',c',he,hy',hh⟩:=id hR;rcases hh with h | ⟨h,_⟩
   .rw[h]at hlt;simp at hlt;omega
   .simp only[Value.slice.injEq]at he;obtain⟨e1,_⟩:=oD h hy' hy he.1;omega
  have hR':bj R (.slice (az x y) ((rows.length:Int)).toNat ((c:Int)).toNat) rI rows:=by rw[aaa,aaa];exact hR
  obtain⟨_,hat⟩:=hR'.at ah hy ah;have hr:rows[k]?=some rows[k]:=aab ah;obtain⟨_,rok,cells⟩:=hat k _ hr;have ho':=jf (n:=125) rok;rw[zH]at ho';have hc:∀ i u,(rows[k].take 125)[i]?=some u->R.cell x.toNat ((y+(k:Int)*126).toNat+i)=some u:=fun i u hu=>by
   rw[aaX]at hu;split at hu
   .have:=cells i u hu;rw[mj]at this;rw[show(y+(k:Int)*126).toNat=y.toNat+k*126 by omega];exact this
   .cases hu
  have hc':∀ i u,rows[k][i]?=some u->R.cell x.toNat ((y+(k:Int)*126).toNat+i)=some u:=fun i u hu=>by
   have:=cells i u hu;rw[mj]at this;rw[show(y+(k:Int)*126).toNat=y.toNat+k*126 by omega];exact this
  refine⟨hx0,hy,ah,lj _ ho' hc,fun q1 g1 _=>?_⟩;have G1:ai 5 J q1:=g.tr g1;obtain⟨u0,u1,u2,z4⟩:=V q1 G1;have er:List.map (CV.ev q1) (ba 4 (.var 0) (.add (.var 1) (.mul (.var 50) (.lit 126))) 0 dZ)=rows[k].take 125:=fC _ dZ 0 ho' fun i u hu=>by
   show(q1.h 4).cell (q1.i 0).toNat ((q1.i 1+q1.i 50*126).toNat+(0+i))=some u;rw[u0,u1,z4,g1.i 50,ek,aaP];exact hc i u hu
  rw[er,g1.i 51,g1.i 52,g1.i 53,g1.h 54];have hl52:q.i 52=((rows.take k).map (List.take 125)).length:=by rw[aaB,aaz,e52];omega
  refine⟨⟨⟨_,ho.pre hl52⟩,ah,by unfold maxLen;omega,ah⟩,fun q2 g2 ⟨a1,a2,happ,_⟩=>?_⟩;have ha:=ho.app hl52 ho' happ;refine⟨⟨k+1,?_,ah,a1,?_,a2,?_⟩,?_⟩
  .show IntKind.i64.wrap (q2.i 50+1)=_;rw[g2.i 50,g1.i 50,ek];exact wrap_i64 ah ah
  .show q2.i 52+1=_;rw[g2.i 52,g1.i 52,e52];rfl
  .show sH (q2.h 61) _ dZ (.slice (az (q2.i 61) 0) (q2.i 52+1).toNat (q2.i 62).toNat) _;rw[g2.i 52,g1.i 52,abv,hr,abN,aaK];exact ha
  .show((rows.length:Int)-IntKind.i64.wrap (q2.i 50+1)).toNat<_;rw[g2.i 50,g1.i 50,ek,wrap_i64 ah ah];omega
 .have:k=rows.length:=ah;subst this;rw[abh]at ho;intro _;refine⟨[],[1],rfl,rfl,⟨(bc fun j=>[q.i 51,0,q.i 52,q.i 53].getD j 0),rfl,⟨x51,aap _,by show 0<=q.i 52;omega,x53⟩,trivial⟩,fun v' R' rows' e1 e2 hR'=>?_⟩;simp only[aaf,aat]at e1 e2;subst e1 e2;obtain rfl:=hR.uniq hR';show bj (cZ [q.h 54]) _ _ _;rw[aN];exact ho.rd
end Go.Proofs.YtomdimlnggpgbaaGreatDoor
namespace Go.Sx
open Go
theorem sN:∀ (ns:List Int) (r:ByteArray),(ns.foldl (fun r n=>r.push (UInt8.ofNat n.toNat)) r).data.toList=r.data.toList++ns.map fun n=>UInt8.ofNat n.toNat
 | [],r=>aF
 | n::ns,r=>by
  rw[aci,sN ns];show(r.data.push _).toList++_=_;rw[ade,aaw];rfl
theorem DP:∀ {a b:List Int},(∀ z∈a,0<=z/\z<256)->(∀ z∈b,0<=z/\z<256)->bytesOf a=bytesOf b->a=b:=by
 have key:∀ (a b:List Int),(∀ z∈a,0<=z/\z<256)->(∀ z∈b,0<=z/\z<256)->(a.map fun n=>UInt8.ofNat n.toNat)=(b.map fun n=>UInt8.ofNat n.toNat)->a=b:=by
  intro a
  induction a with
  | nil=>intro b _ _ h;cases b with
   | nil=>rfl
   | cons y b=>cases h
  | cons x a ih =>
   intro b ha hb h;cases b with
   | nil=>cases h
   | cons y b =>
    rw[aaC,aaC,aaf]at h;have hx:=ha x (aaH ..);have hy:=hb y (aaH ..);have e:=aaQ UInt8.toNat h.1;rw[acG,acG]at e;have:x=y:=ah;subst this;rw[ih b (fun z h=>ha z (aar _ h)) (fun z h=>hb z (aar _ h)) h.2]
 intro a b ha hb h;have:=aaQ (fun x:ByteArray=>x.data.toList) h;unfold bytesOf at this;simp only[sN]at this;exact key a b ha hb (by simpa using this)
end Go.Sx
namespace Go.Proofs.YtomdimlnggpgbaaGreatDoor
open Go Go.Sx Go.Pk
theorem Ox {R:Hl} {x y:Int} {n c:Nat} {rows:List (List Value)} (h:bj R (.slice (az x y) n c) dZ rows) (hy:0<=y) {k:Nat} {row:List Value} (hk:rows[k]?=some row) :
 0<=x/\wB R x.toNat (y+(k:Int)*125).toNat dZ=true/\∀ {q:Env} {g:Nat} {a b:E},q.h g=R->aA q a=x->aA q b=y+(k:Int)*125->(ba g a b 0 dZ).map (CV.ev q)=row:=by
 obtain⟨x1,y1,c1,he,hy1,hr⟩:=h;simp only[Value.slice.injEq]at he;rcases hr with rfl | ⟨hx1,hr⟩
 .simp at hk
 obtain⟨e1,e2⟩:=oD hx1 hy1 hy he.1;subst e1 e2;obtain⟨ro,h2⟩:=hr k _ hk;have e:(y+(k:Int)*125).toNat=y.toNat+k*dZ.length:=by rw[show dZ.length=125 from rfl];omega
 have hc:∀ i u,row[i]?=some u->R.cell x.toNat ((y+(k:Int)*125).toNat+i)=some u:=fun i u hu=>by rw[e];exact h2 i u hu
 refine⟨hx1,lj _ ro hc,fun {q g a b} hg ha hb=>fC row dZ 0 ro fun i u hu=>?_⟩;rw[hg,ha,hb,aaP];exact hc i u hu
def zW:Sx.Spec where
 fn:=101
 own:=[]
 rd:=[0,100,2000003]
 res:=[.agg (List.replicate 32 (Ck.int .u8))]
 pre:=fun xs Hs Rs=>∃ v R T RG rows hs,xs=[v]/\Rs=[R,T,RG]/\bj R v dZ rows/\gu T rows hs/\rows.length<=100000/\uu RG 3
 post:=fun xs Hs Rs v' Hs' F=>∀ v R T RG rows hs,xs=[v]->Rs=[R,T,RG]->bj R v dZ rows->gu T rows hs->v'=.agg (aS (i7 hs)).toArray
noncomputable def WZ:List Sx.Spec:=[WR]
theorem Yz:WR.res=[.agg (List.replicate 32 (Ck.int .u8))]:=rfl
noncomputable def RJ:aG Tryz.prog WZ zW.fn where
 Λ:=aC
 args:=[.sv (.one (.sl (.var 0) (.var 1) (.var 2) (.var 3)))]
 mem:=[.ro 4 [.var 0] false,.ro 5 [] true,.ro 6 [.lit 3] false]
 nv:=7
theorem Bm {q:Env} {n:Nat} {ks:List Ck} (h:Qh ks=true):dY n [.agg ks] q:=⟨cH _ _ _ h,trivial⟩
theorem Fs:zW.OK Tryz.prog:=by
 refine Spec.aT (Γ:=WZ) (fun t ht=>by rw[WZ,aam]at ht;subst ht;exact TM) ?_;rintro xs Hs Rs hl1 hl2 ⟨v,R,T,RG,rows,hs,rfl,rfl,hR,hA,hlen,hK⟩;have e0:Hs=[]:=aad.1 hl1;subst e0;obtain⟨x,y,c,rfl,hy,_⟩:=id hR;refine⟨RJ,aM [x,y,rows.length,c] false [Hl.none,Hl.none,Hl.none,Hl.none,R,T,RG],fun _ _=>True,fun _ _=>0,?_,cQ (by intro r hr;simp [RJ]at hr;rcases hr with rfl | rfl | rfl<;>exact⟨_,_,_,rfl⟩) rfl,(fun _ h=>nomatch h),?_⟩
 .show [Value.slice (az x y) ((rows.length:Int)).toNat ((c:Int)).toNat]=_;rw[aaa,aaa]
 refine aG.read [] [dZ] [] ?_;generalize hρ:aM [x,y,rows.length,c] false [Hl.none,Hl.none,Hl.none,Hl.none,R,T,RG]=J;have V:∀ q:Env,ai 7 J q->q.i 0=x/\q.i 1=y/\q.i 2=rows.length/\q.h 4=R/\q.h 5=T/\q.h 6=RG:=fun q hg=>by
  rw[hg.i 0,hg.i 1,hg.i 2,hg.h 4,hg.h 5,hg.h 6,<-hρ];exact⟨rfl,rfl,rfl,rfl,rfl,rfl⟩
 clear hρ;have out:∀ {v'},v'=Value.agg (aS (i7 hs)).toArray->∀ F,zW.post [.slice (az x y) rows.length c] [] [R,T,RG] v' [] F:=fun {v'} hv F v2 R' T' RG' rows' hs' e1 e2 h1 h2=>by
  simp only[aaf,aat]at e1 e2;obtain⟨rfl,rfl,rfl⟩:=e2;subst e1;obtain rfl:=hR.uniq h1;rw[hA.uniq h2]at hv;exact hv
 simp only[go_sem,Nat.reduceAdd,WZ,Yz];intro q1 g1 _;obtain⟨v0,v1,v2,w4,w5,w6⟩:=V q1 g1;rw[v0,v1,v2,w4,w5,w6];refine⟨ah,fun h0 _=>?_,fun hne=>?_⟩
 .have:hs=[]:=aad.1 (by have:=hA.1;omega);refine⟨[],[],rfl,rfl,⟨(bc fun _=>0),rfl,Bm rfl⟩,out ?_ _⟩;subst this;rfl
 .have hw:IntKind.i64.wrap ((rows.length:Int)-1)=((rows.length-1:Nat):Int):=by rw[IntKind.wrap_i64];omega
  obtain⟨row,hr⟩:∃ row,rows[rows.length-1]?=some row:=⟨_,aab ah⟩;obtain⟨h,hh⟩:∃ h,hs[rows.length-1]?=some h:=⟨_,aab (by have:=hA.1;omega)⟩;obtain⟨hx0,hri,hrc⟩:=Ox hR hy hr;have hI:=hA.2 _ _ _ hr hh;have er:=hrc (q:=q1) (g:=4) (a:=.var 0) (b:=(E.var 1).add ((E.wrap .i64 ((E.var 2).sub (.lit 1))).mul (.lit 125))) w4 v0 (by
   show q1.i 1+IntKind.i64.wrap (q1.i 2-1)*125=_;rw[v1,v2,hw])
  rw[er,hw];refine⟨hx0,hy,ah,ah,hri,⟨_,T,RG,h,rfl,rfl,hI,hK⟩,fun q2 g2 ⟨F,hp,_⟩ _=>?_⟩;have hp:=hp _ _ _ _ rfl rfl hI;have et:i7 hs=mX h:=by
   unfold i7;have:hs.getLast?=some h:=by rw[List.getLast?_eq_getElem?,<-hA.1];exact hh
   rw[this]
  rw[<-et]at hp;refine⟨[],[],rfl,rfl,⟨(bc fun k=>q2.i (k+8)),rfl,Bm rfl⟩,out hp _⟩
theorem Oy {ks:List Ck} {row:List Value} (f:Nat->Int) (hs:List (Nat×Hl)) (h:bg row (ks.map jZ)):∃ q:Env,row=(ar 0 ks).map (CV.ev q)/\(∀ k,q.h k=AD hs k)/\(∀ k,aY ks<=k->q.i k=f k):=by
 obtain⟨q,hr,_,hh⟩:=xE (ks:=ks) hs h;refine⟨⟨fun k=>if aY ks<=k then f k else q.i k,q.b,q.s,q.v,q.h⟩,?_,hh,fun k hk=>aax hk⟩;rw[hr];have g:ai (aY ks) q ⟨fun k=>if aY ks<=k then f k else q.i k,q.b,q.s,q.v,q.h⟩:=⟨fun k hk=>aal ah,fun _ _=>rfl,fun _ _=>rfl,fun _ _=>rfl,fun _ _=>rfl⟩;exact(aaQ Array.toList (Value.agg.inj (ft (ks:=ks) (n:=0) g ah))).symm
noncomputable def Fc:Sx.Spec where
 fn:=66
 own:=[]
 rd:=[1,100,10253,2000003]
 res:=[.one (.int .i64)]
 pre:=fun xs Hs Rs=>∃ w v row R T T2 RG rows hs h,xs=[.int .i64 w,v,.agg row.toArray]/\Rs=[R,T,T2,RG]/\bj R v dZ rows/\gu T rows hs/\(∀ g∈hs,g.Form)/\bN T2 row h/\rows.length<=100000/\uu RG 3
 post:=fun xs Hs Rs v' Hs' F=>∀ w v row R T T2 RG rows hs h,xs=[.int .i64 w,v,.agg row.toArray]->Rs=[R,T,T2,RG]->bj R v dZ rows->gu T rows hs->bN T2 row h->v'=.int .i64 (gz w hs h)
noncomputable def WU:List Sx.Spec:=[gK 65,zW,fv 71]
theorem Yl:zW.res=[.agg (List.replicate 32 (Ck.int .u8))]:=rfl
noncomputable def RE:aG Tryz.prog WU Fc.fn where
 Λ:=aC
 args:=TI .i64 (.var 129)::.sv (.one (.sl (.var 130) (.var 131) (.var 132) (.var 133)))::(cn 0 [.agg bU]).map .sv
 mem:=[.ro 134 [.var 130] false,.ro 135 [] true,.ro 136 [.var 53] false,.ro 137 [.lit 3] false]
 nv:=138
open Classical in
set_option maxRecDepth 20000 in
theorem Oe:Fc.OK Tryz.prog:=by
 refine Spec.aT (Γ:=WU) (fun t ht=>?_) ?_
 .simp only[WU,aas,aaA,abc]at ht;rcases ht with rfl | rfl | rfl
  .exact uQ
  .exact Fs
  .exact tO
 rintro xs Hs Rs hl1 hl2 ⟨w,v,row,R,T,T2,RG,rows,hs,h,rfl,rfl,hR,hA,hFs,hx,hlen,hK⟩;have e0:Hs=[]:=aad.1 hl1;subst e0;obtain⟨x,y,c,rfl,hy,_⟩:=id hR;obtain⟨J,hrow0,hh,hv⟩:=Oy (ks:=bU) (fun k=>[w,x,y,rows.length,c].getD (k-129) 0) [(134,R),(135,T),(136,T2),(137,RG)] hx.ok;have hc2:aY bU<=129:=by decide
 have v9:J.i 129=w:=hv 129 ah;have v0:J.i 130=x:=hv 130 ah;have v1:J.i 131=y:=hv 131 ah;have v2:J.i 132=rows.length:=hv 132 ah;have v3:J.i 133=c:=hv 133 ah;have w4:J.h 134=R:=hh 134;have w5:J.h 135=T:=hh 135;have w6:J.h 136=T2:=hh 136;have w7:J.h 137=RG:=hh 137;refine⟨RE,J,fun _ _=>True,fun _ _=>0,?_,cQ (by intro r hr;simp [RE]at hr;rcases hr with rfl | rfl | rfl | rfl<;>exact⟨_,_,_,rfl⟩) (by show [J.h 134,J.h 135,J.h 136,J.h 137]=_;rw[w4,w5,w6,w7]),(fun _ h=>nomatch h),?_⟩
 .show [Value.int .i64 (J.i 129),.slice (az (J.i 130) (J.i 131)) (J.i 132).toNat (J.i 133).toNat,.agg ((ar 0 bU).map (CV.ev J)).toArray]=_;rw[v9,v0,v1,v2,v3,<-hrow0,aaa,aaa]
 refine aG.read [bU] [dZ] [] ?_;simp only[go_sem,Nat.reduceAdd,WU,Sn,Yl,Zm,JL];have V:∀ q:Env,ai 138 J q->(q.i 129=w/\q.i 130=x/\q.i 131=y/\q.i 132=rows.length)/\(q.h 134=R/\q.h 135=T/\q.h 136=T2/\q.h 137=RG)/\(ar 0 bU).map (CV.ev q)=row/\q.i 0=J.i 0/\q.i 1=J.i 1/\ic q 2=ic J 2/\Value.slice (az (q.i 130) (q.i 131)) (q.i 132).toNat (q.i 133).toNat=.slice (az x y) rows.length c:=fun q g=>by
  refine⟨⟨by rw[g.i 129,v9],by rw[g.i 130,v0],by rw[g.i 131,v1],by rw[g.i 132,v2]⟩,⟨by rw[g.h 134,w4],by rw[g.h 135,w5],by rw[g.h 136,w6],by rw[g.h 137,w7]⟩,?_,g.i 0,g.i 1,Dd g ah,?_⟩
  .rw[hrow0];exact aaQ Array.toList (Value.agg.inj (ft (ks:=bU) (n:=0) g aB))
  .rw[g.i 130,g.i 131,g.i 132,g.i 133,v0,v1,v2,v3,aaa,aaa]
 have out:∀ {q:Env} {mem:Mem} {e:E},aA q e=gz w hs h->postOf Fc [.int .i64 w,.slice (az x y) rows.length c,.agg row.toArray] [] [R,T,T2,RG] q mem (.sv (.one (.int .i64 e))):=fun {q mem e} he =>
  ng rfl he fun F w' v' row' R' T' T2' RG' rows' hs' h' e1 e2 hR' hA' hx'=>by
   simp only[aaf,aat,Value.int.injEq,aaV,Value.agg.injEq]at e1 e2;obtain⟨rfl,rfl,e1⟩:=e1;obtain⟨rfl,rfl,rfl,rfl⟩:=e2;have e1:=aaI e1;subst e1;obtain rfl:=hR.uniq hR';obtain rfl:=hA.uniq hA';rw[hx.uniq hx']
 have h0:cI h.c 0=J.i 0:=by
  have e1:cI h.c 0=cI row 0:=hx.I aB;rw[e1,hrow0];rfl
 have h1:cI h.c 1=J.i 1:=by
  have e1:cI h.c 1=cI row 1:=hx.I aB;rw[e1,hrow0];rfl
 have h2:aU h.c 2 32=ic J 2:=by
  have:aU h.c 2 32=aU row 2 32:=by
   unfold aU;refine aa7 fun j hj=>hx.I ?_;have:=aaM.1 hj;omega
  rw[this,hrow0];rfl
 have hlr:rows.length=hs.length:=hA.1;intro q1 g1 p1;obtain⟨_,⟨_,_,x6,_⟩,xr,_⟩:=V q1 g1;rw[xr,x6];refine⟨⟨_,T2,h,rfl,rfl,hx⟩,fun q2 g2 ⟨F2,hp2,_⟩=>?_⟩;have G2:ai 138 J q2:=g1.tr g2;have hb2:q2.b 139=decide h.Form:=Value.bool.inj (kJ hx hp2);obtain⟨⟨y9,y0,y1,y2⟩,⟨y4,y5,y6,y7⟩,yr,yi0,yi1,ys,ysl⟩:=V q2 G2;refine⟨fun hb=>?_,fun hb=>out ?_⟩
 rotate_left
 .have hF:¬h.Form:=by rw[hb2]at hb;simpa using hb
  unfold gz;rw[aax (Or.inl hF)];rfl
 have hF:h.Form:=by rw[hb2]at hb;simpa using hb
 have hseq:1<=cI h.c 1/\cI h.c 1<=1048576:=hF.1.2.1;rw[h1]at hseq;rw[ysl,yi0,yi1,y9,y0,y1,y2,y4,y5];have wl:IntKind.u64.wrap (rows.length:Int)=rows.length:=by rw[IntKind.wrap_u64];omega
 have ws:IntKind.u64.wrap (J.i 1-1)=(((J.i 1-1).toNat:Nat):Int):=by rw[IntKind.wrap_u64];omega
 refine⟨fun hne=>out ?_,fun heq=>⟨ah,fun hle=>?_,fun hgt=>?_⟩⟩
 .unfold gz;rw[aax (Or.inr (by rw[h0];exact hne))];rfl
 .have hn1:¬(¬h.Form\/cI h.c 0≠w):=by rw[h0];exact fun hh=>hh.elim (fun g=>g hF) (fun g=>g heq)
  rw[wl]at hle;have hk:(J.i 1-1).toNat<rows.length:=ah;obtain⟨row',hr⟩:∃ row',rows[(J.i 1-1).toNat]?=some row':=⟨_,aab hk⟩;obtain⟨h',hh'⟩:∃ h',hs[(J.i 1-1).toNat]?=some h':=⟨_,aab ah⟩;obtain⟨hx0,hri,hrc⟩:=Ox hR hy hr;have hI:=hA.2 _ _ _ hr hh';have er:=hrc (q:=q2) (g:=134) (a:=.var 130) (b:=(E.var 131).add ((E.wrap .u64 ((E.var 1).sub (.lit 1))).mul (.lit 125))) y4 y0 (by
   show q2.i 131+IntKind.u64.wrap (q2.i 1-1)*125=_;rw[y1,yi1,ws])
  rw[er,ws];refine⟨hx0,hy,ah,hri,⟨_,T,h',rfl,rfl,hI⟩,fun q3 g3 ⟨F3,hp3,hF3,hn3⟩=>?_⟩;have B3:=lW hI hp3;rw[<-hF3 trivial]at B3;have n3:-1<=q3.i 140/\0<=q3.i 141/\0<=q3.i 142/\0<=q3.i 143:=hn3.1;have G3:ai 138 J q3:=G2.tr g3;obtain⟨_,⟨_,_,z6,_⟩,zr,_⟩:=V q3 G3;rw[zr,z6];refine⟨(kX B3.rd.w n3.2.1 n3.2.2.1).1,⟨_,T2,h,rfl,rfl,hx⟩,fun q4 g4 ⟨F4,hp4,hF4,hn4⟩=>?_⟩;have B4:=lW hx hp4;rw[<-hF4 trivial]at B4;have n4:-1<=q4.i 144/\0<=q4.i 145/\0<=q4.i 146/\0<=q4.i 147:=hn4.1;have B3':bQ (q4.h 140) 5 (.slice (az (q4.i 140) (q4.i 141)) (q4.i 142).toNat (q4.i 143).toNat) (bf h'):=by
   rw[g4.h 140,g4.i 140,g4.i 141,g4.i 142,g4.i 143];exact B3
  have t3:=kX B3'.rd.w (by rw[g4.i 141];exact n3.2.1) (by rw[g4.i 142];exact n3.2.2.1);have t4:=kX B4.rd.w n4.2.1 n4.2.2.1;rw[t3.2,t4.2];have key:(hs[(cI h.c 1-1).toNat]?=some h)↔bytesOf (bf h')=bytesOf (bf h):=by
   rw[h1,hh',aaj];refine⟨fun e=>by rw[e],fun e=>?_⟩;have e:=DP (Mg hI).1 (Mg hx).1 e;exact(Cj hI hx (hFs _ (aae hh')) hF).1 e
  refine⟨t4.1,fun he=>out ?_,fun he=>out ?_⟩
  .unfold gz;rw[aal hn1,aax (by rw[h1];omega),aax (key.2 he)];rfl
  .unfold gz;rw[aal hn1,aax (by rw[h1];omega),aal (fun g=>he (key.1 g))];rfl
 .have hn1:¬(¬h.Form\/cI h.c 0≠w):=by rw[h0];exact fun hh=>hh.elim (fun g=>g hF) (fun g=>g heq)
  rw[wl]at hgt ⊢;have wl2:IntKind.u64.wrap ((rows.length:Int)+1)=(rows.length:Int)+1:=by rw[IntKind.wrap_u64];omega
  have GJ:¬cI h.c 1<=hs.length:=by rw[h1];omega
  rw[wl2,y7];refine⟨fun hlt=>out ?_,fun hge=>⟨⟨_,R,T,RG,rows,hs,rfl,rfl,hR,hA,hlen,hK⟩,fun q3 g3 ⟨F3,hp3,_⟩=>?_⟩⟩
  .unfold gz;rw[aal hn1,aal GJ,aax (by rw[h1];omega)];rfl
  have hp3:=hp3 _ _ _ _ _ _ rfl rfl hR hA;have hp3:ic q3 140=i7 hs:=by
   have hp:Value.agg (aS (ic q3 140)).toArray=.agg (aS (i7 hs)).toArray:=hp3;exact jX (aaQ Array.toList (Value.agg.inj hp))
  have G3:ai 138 J q3:=G2.tr g3;obtain⟨_,_,_,_,_,zs,_⟩:=V q3 G3;have hge':¬((hs.length:Int)+1<cI h.c 1):=by rw[h1];omega
  have key:=HU q3 q3 2 140;rw[hp3,zs,<-h2]at key;refine⟨fun hne=>out ?_,fun heq=>out ?_⟩
  .have hne:¬aU h.c 2 32=i7 hs:=fun g=>hne (key.1 g);unfold gz;rw[aal hn1,aal GJ,aal hge',aax hne];rfl
  .have heq:aU h.c 2 32=i7 hs:=key.2 heq;unfold gz;rw[aal hn1,aal GJ,aal hge',aal (fun g=>g heq)];rfl
def Ik (s:Sx.Spec) (rd:List Nat):Sx.Spec:={s with rd:=rd,pre:=fun xs Hs Rs=>∀ U:Hl,(∀ R∈Rs,R.le U)->s.pre xs Hs (List.replicate s.rd.length U),post:=fun xs Hs Rs v Hs' F=>∃ U:Hl,(∀ R∈Rs,R.le U)/\s.post xs Hs (List.replicate s.rd.length U) v Hs' F}
theorem AX {w:World} : ∀ {l:List Hl} (_:∀ R∈l,R.sub w) {R:Hl},R∈l->R.le (cZ l)
 | A::l,h,R,hR=>by
  have hs:(cZ l).sub w:=xm fun X hX=>h X (aar _ hX);intro b o hb;show(A.un (cZ l)) b=some o;rcases aas.1 hR with rfl | hR
  .exact Hl.bF _ _ b o hb
  .have e:=AX (fun X hX=>h X (aar _ hX)) hR b o hb;unfold Hl.un;cases hA:A b with
   | none=>exact e
   | some o' =>
    have h1:=h A (aaH ..) b o' hA;rw[hs b o e]at h1;cases h1;rfl
theorem sF {P:Program} {s:Sx.Spec} {rd:List Nat} (h0:s.own=[]) (h:s.OK P):(Ik s rd).OK P:=by
 intro w xs Hs Rs l1 l2 s1 s2 d1 d2 hp;have hn:Hs=[]:=aad.1 (by rw[l1];show s.own.length=0;rw[h0];rfl);subst hn;have hU:(cZ Rs).sub w:=xm s2;have hle:∀ R∈Rs,R.le (cZ Rs):=fun R hR=>AX s2 hR;refine(h w xs [] (List.replicate s.rd.length (cZ Rs)) (by rw[h0];rfl) aa5 (fun _ hx=>(by cases hx)) (fun R hR=>by rw[(acF.1 hR).2];exact hU) (fun p q H K _ hx=>(by simp at hx)) (fun _ hx=>(by cases hx)) (hp _ hle)).mono ?_;rintro e w' ⟨J,Hs',F,he,hn,ht,hpost⟩;exact⟨J,Hs',F,he,hn,ht,_,hle,hpost⟩
def PD (s:Sx.Spec):Sx.Spec:={s with post:=fun xs Hs Rs v Hs' F=>s.post xs Hs Rs v Hs' F/\∀ H∈Hs,∀ R∈Rs,H.bT R}
theorem PE {P:Program} {s:Sx.Spec} (h:s.OK P):(PD s).OK P:=fun w xs Hs Rs l1 l2 s1 s2 d1 d2 hp=>(h w xs Hs Rs l1 l2 s1 s2 d1 d2 hp).mono fun _ _ ⟨J,Hs',F,a,b,c,d⟩=>⟨J,Hs',F,a,b,c,d,d2⟩
def Wn (A B:Hl) (rows:List (List Value)) (hs:List Hd):Prop:=rows.length=hs.length/\∀ U:Hl,A.le U->B.le U->gu U rows hs
def Md (T K:Hl) (row:List Value) (p:Pc):Prop:=bg row rI/\∀ U:Hl,T.le U->K.le U->fM U U row p
theorem Md.mono {T K K':Hl} {row:List Value} {p:Pc} (h:Md T K row p) (hk:K.le K'):Md T K' row p:=⟨h.1,fun U a b=>h.2 U a fun k o hx=>b k o (hk k o hx)⟩
theorem fM.u {T K:Hl} {row:List Value} {p:Pc} (h:fM T K row p):Md T K row p:=⟨h.ok,fun _ a b=>h.mono a b⟩
theorem fM.v {T K:Hl} {row:List Value} {p:Pc} (h:fM K T row p):Md T K row p:=⟨h.ok,fun _ a b=>h.mono b a⟩
theorem Pw {R R':Hl} (hl:R.le R') {x y:Nat} {v:Value} (h:R.cell x y=some v):R'.cell x y=some v:=by
 unfold Hl.cell at h ⊢;cases e:R x with
 | none=>rw[e]at h;cases h
 | some o=>rw[hl _ _ e];rw[e]at h;exact h
theorem uu.mono {R R':Hl} {g:Nat} (h:uu R g) (hl:R.le R'):uu R' g:=fun j hj=>Pw hl (h j hj)
def Up (sv:Nat->Value):List Value:=[sv 0,sv 1,sv 2,sv 3,sv 4,sv 5]
theorem TJ (sv:Nat->Value) {i:Nat} (h:i<6):(Up sv)[i]?=some (sv i):=by
 have:i=0\/i=1\/i=2\/i=3\/i=4\/i=5:=ah;rcases this with rfl | rfl | rfl | rfl | rfl | rfl<;>rfl
theorem QP (sv:Nat->Value) (v:Value) {i:Nat} (h:i<6):bI (Up sv) i [v]=Up (vl sv i v):=by
 have:i=0\/i=1\/i=2\/i=3\/i=4\/i=5:=ah;rcases this with rfl | rfl | rfl | rfl | rfl | rfl<;>rfl
structure O8 (H T:Hl) (x:Nat) (st:Nat->List Pc) (sv:Nat->Value) (KB:Hl):Prop where
 bw:H x=some (.cells (Up sv).toArray 57 (0,0))
 row:∀ i,i<6->∃ rows,sH H 67 rI (sv i) rows/\rows.length=(st i).length/\∀ (j:Nat) row p,rows[j]?=some row->(st i)[j]?=some p->Md T KB row p
 kb:KB.le H
 kbx:¬KB.mem x
 own:∀ i b,i<6->(sv i).ownBlock=some b->¬KB.mem b/\∀ j,j<6->j≠i->(sv j).ownBlock≠some b
 form:∀ i,i<6->∀ p∈st i,p.h.Form
def jW (H T:Hl) (x:Nat) (st:Nat->List Pc):Prop:=∃ sv KB,O8 H T x st sv KB
theorem O8.mono {H H' T:Hl} (hl:H.le H') {x:Nat} {st:Nat->List Pc} {sv:Nat->Value} {KB:Hl} (h:O8 H T x st sv KB):O8 H' T x st sv KB:=by
 refine⟨hl _ _ h.bw,fun i hi=>?_,fun b o hb=>hl b o (h.kb b o hb),h.kbx,h.own,h.form⟩;obtain⟨rows,h1,h2,h3⟩:=h.row i hi;exact⟨rows,⟨h1.1,h1.2.mono hl⟩,h2,h3⟩
theorem O8.sl {H T:Hl} {x:Nat} {st:Nat->List Pc} {sv:Nat->Value} {KB:Hl} (h:O8 H T x st sv KB) {i:Nat} (hi:i<6):H.cell x i=some (sv i)/\(∃ p l c,sv i=.slice p l c)/\bm (some (sv i)) 2=(st i).length/\bD (some (sv i)) .slice=true:=by
 obtain⟨rows,h1,h2,_⟩:=h.row i hi;refine⟨?_,?_⟩
 .unfold Hl.cell;rw[h.bw];simpa using TJ sv hi
 .have ho:=h1.2;rw[h2]at ho;rcases ho.2 with ⟨e,hn⟩ | ⟨_,_,_,e,_⟩
  .rw[e,hn];exact⟨⟨_,_,_,rfl⟩,rfl,rfl⟩
  .rw[e];exact⟨⟨_,_,_,rfl⟩,rfl,rfl⟩
theorem O8.put {H T:Hl} {x:Nat} {st:Nat->List Pc} {sv:Nat->Value} {KB:Hl} (h:O8 H T x st sv KB) {i:Nat} (hi:i<6) {B G:Hl} {p:Pc} {row:List Value} {x1:Int} {n1 c1:Nat}
 (hd:H.bT B) (hp:Md T B row p) (hF:p.h.Form) (hx1:-1<=x1) (hn1:n1=(st i).length+1)
 (happ:∀ xs,aV (H.un B) 67 rI.length (sv i) (st i).length xs->aV G 67 rI.length (.slice (az x1 0) n1 c1) ((st i).length+1) (xs++row))
 (hk:∀ b,(H.un B).mem b->some b≠(sv i).ownBlock->G b=(H.un B) b)
 (hnew:some x1.toNat=(sv i).ownBlock\/¬(H.un B).mem x1.toNat\/x1= -1) :
 G x=some (.cells (Up sv).toArray 57 (0,0))/\O8 (G.put x i [.slice (az x1 0) n1 c1]) T x (vl st i (st i++[p])) (vl sv i (.slice (az x1 0) n1 c1)) (KB.un B):=by
 subst hn1;have lH:H.le (H.un B):=Hl.bF _ _;have lB:B.le (H.un B):=Hl.bK hd;have ownH:∀ j b,j<6->(sv j).ownBlock=some b->∃ c,H b=some (.cells c 67 (0,0)):=fun j b hj hb=>by
  obtain⟨rows,h1,_⟩:=h.row j hj;exact h1.2.type hb
 have ownx:∀ j b,j<6->(sv j).ownBlock=some b->b≠x:=fun j b hj hb e=>by
  subst e;obtain⟨c,hc⟩:=ownH j _ hj hb;rw[h.bw]at hc;simp at hc
 have hG:G x=some (.cells (Up sv).toArray 57 (0,0)):=by
  rw[hk x (Hl.ef lH (Hl.mem_of h.bw)) fun e=>ownx i x hi e.symm rfl];exact lH _ _ h.bw
 refine⟨hG,?_⟩;obtain⟨rows,ho,hrl,hrp⟩:=h.row i hi;have hOG:=happ rows.flatten (by have:=ho.2;rw[hrl]at this;exact aV.mono lH this);have nB:∀ j b,j<6->(sv j).ownBlock=some b->¬B.mem b:=fun j b hj hb hm=>by
  obtain⟨c,hc⟩:=ownH j b hj hb;exact hd b ⟨Hl.mem_of hc,hm⟩
 have lKB:(KB.un B).le G:=fun b o hb=>by
  have e:(H.un B) b=some o:=by
   unfold Hl.un at hb;cases hq:KB b with
   | some o'=>rw[hq]at hb;cases hb;exact lH _ _ (h.kb _ _ hq)
   | none=>rw[hq]at hb;exact lB _ _ hb
  rw[hk b (Hl.mem_of e) fun e'=>?_,e];rcases Hl.dw.1 (Hl.mem_of hb)with h1 | h1
  .exact(h.own i b hi e'.symm).1 h1
  .exact nB i b hi e'.symm h1
 have xB:¬B.mem x:=fun hm=>hd x ⟨Hl.mem_of h.bw,hm⟩;have xKB:¬(KB.un B).mem x:=fun hm=>(Hl.dw.1 hm).elim h.kbx xB;have newx:∀ b,(Value.slice (az x1 0) ((st i).length+1) c1).ownBlock=some b->x1=b:=fun b hb=>CR hb hx1;have newxx:∀ b,(Value.slice (az x1 0) ((st i).length+1) c1).ownBlock=some b->b≠x:=fun b hb e=>by
  subst e;obtain⟨c,hc⟩:=hOG.type hb;rw[hG]at hc;simp at hc
 have newn:∀ b,(Value.slice (az x1 0) ((st i).length+1) c1).ownBlock=some b->¬(KB.un B).mem b:=fun b hb hm=>by
  have e:=newx b hb;have hm2:(H.un B).mem b:=(Hl.dw.1 hm).elim (fun y=>Hl.dw.2 (Or.inl (Hl.ef h.kb y))) (fun y=>Hl.dw.2 (Or.inr y));rcases hnew with h1 | h1 | h1
  .rw[e,aaa]at h1;exact(Hl.dw.1 hm).elim (h.own i b hi h1.symm).1 (nB i b hi h1.symm)
  .rw[e,aaa]at h1;exact h1 hm2
  .omega
 have newo:∀ j b,j<6->j≠i->(Value.slice (az x1 0) ((st i).length+1) c1).ownBlock=some b->(sv j).ownBlock≠some b:=fun j b hj hji hb e3=>by
  have e:=newx b hb;rcases hnew with h1 | h1 | h1
  .rw[e,aaa]at h1;exact(h.own i b hi h1.symm).2 j hj hji e3
  .rw[e,aaa]at h1;obtain⟨c,hc⟩:=ownH j b hj e3;exact h1 (Hl.dw.2 (Or.inl (Hl.mem_of hc)))
  .omega
 refine⟨?_,fun j hj=>?_,Hl.yQ lKB xKB,xKB,fun j b hj hb=>?_,fun j hj q hq=>?_⟩
 .rw[Hl.si hG];simp only[acx];rw[QP _ _ hi]
 .by_cases e:j=i
  .subst e;rw[cM,cM];refine⟨rows++[row],?_,by simp [hrl],fun k r q hr hq=>?_⟩
   .have:=sH.snoc (rows:=rows) ho.1 hp.1 hOG (by rw[hrl]) rfl;exact⟨this.1,this.2.at fun b hb=>Hl.sj (newxx b hb)⟩
   .rcases aba k rows.length with qW | qW
    .rw[aaG qW]at hr;rw[aaG ah]at hq;exact(hrp k r q hr hq).mono (Hl.bF _ _)
    .rw[aau qW]at hr;rw[aau ah]at hq;have hr:=aae hr;have hq:=aae hq;rw[aam]at hr hq;subst hr;subst hq;exact hp.mono (Hl.bK fun b ⟨y,z⟩=>hd b ⟨Hl.ef h.kb y,z⟩)
  .rw[fy _ _ e,fy _ _ e];obtain⟨rs,h1,h2,h3⟩:=h.row j hj;refine⟨rs,⟨h1.1,h1.2.at fun b hb=>?_⟩,h2,fun k r q hr hq=>(h3 k r q hr hq).mono (Hl.bF _ _)⟩;obtain⟨c,hc⟩:=ownH j b hj hb;rw[Hl.sj (ownx j b hj hb),hk b (Hl.ef lH (Hl.mem_of hc)) fun e'=>(h.own j b hj hb).2 i hi (Ne.symm e) e'.symm,lH _ _ hc,hc]
 .by_cases e:j=i
  .subst e;rw[cM]at hb;refine⟨newn b hb,fun k hk' e2=>?_⟩;rw[fy _ _ e2];exact newo k b hk' e2 hb
  .rw[fy _ _ e]at hb;refine⟨fun hm=>(Hl.dw.1 hm).elim (h.own j b hj hb).1 (nB j b hj hb),fun k hk' e2=>?_⟩;by_cases e3:k=i
   .subst e3;rw[cM];exact fun e4=>newo j b hj e e4 hb
   .rw[fy _ _ e3];exact(h.own j b hj hb).2 k hk' e2
 .by_cases e:j=i
  .subst e;rw[cM]at hq;rcases aaR.1 hq with h1 | h1
   .exact h.form j hj q h1
   .rw[aam]at h1;subst h1;exact hF
  .rw[fy _ _ e]at hq;exact h.form j hj q hq
def xz:Sx.Spec where
 fn:=33
 own:=[]
 rd:=[0]
 res:=[.one (.int .i64)]
 pre:=fun xs Hs Rs=>∃ x R T st,xs=[.pointer (some ⟨x,0,none⟩)]/\Rs=[R]/\jW R T x st/\mK st
 post:=fun xs Hs Rs v Hs' F=>∃ x R T st,xs=[.pointer (some ⟨x,0,none⟩)]/\Rs=[R]/\jW R T x st/\v=.int .i64 (dL st)
def JA:aG Tryz.prog [] xz.fn where
 Λ:=aC
 args:=[TP (.var 0) (.lit 0)]
 mem:=[.ro 1 [.var 0] true]
 nv:=2
theorem DV {st:Nat->List Pc} (hS:mK st):IntKind.i64.wrap (IntKind.i64.wrap (IntKind.i64.wrap (IntKind.i64.wrap (IntKind.i64.wrap (IntKind.i64.wrap ((st 0).length:Int)+(st 1).length)+(st 2).length)+(st 3).length)+(st 4).length)+(st 5).length)=dL st:=by
 have h0:=hS 0 ah;have h1:=hS 1 ah;have h2:=hS 2 ah;have h3:=hS 3 ah;have h4:=hS 4 ah;have h5:=hS 5 ah;rw[wrap_i64 (n:=((st 0).length:Int)) ah ah,wrap_i64 (n:=((st 0).length:Int)+_) ah ah,wrap_i64 (n:=((st 0).length:Int)+_+_) ah ah,wrap_i64 (n:=((st 0).length:Int)+_+_+_) ah ah,wrap_i64 (n:=((st 0).length:Int)+_+_+_+_) ah ah,wrap_i64 (n:=((st 0).length:Int)+_+_+_+_+_) ah ah];unfold dL;omega
theorem HH:xz.OK Tryz.prog:=by
 refine Spec.aT (Γ:=[]) (fun _ h=>by cases h) ?_;rintro xs Hs Rs hl1 hl2 ⟨x,R,T,st,rfl,rfl,hI,hS⟩;have e0:Hs=[]:=aad.1 hl1;subst e0;refine⟨JA,aM [x] false [Hl.none,R],fun _ _=>True,fun _ _=>0,?_,cQ (by intro r hr;simp [JA]at hr;subst hr;exact⟨_,_,_,rfl⟩) rfl,(fun _ h=>nomatch h),?_⟩
 .show [Value.pointer (az (x:Int) 0)]=_;rw[av ah];rfl
 refine aG.read [] [] [] ?_;generalize hρ:aM [(x:Int)] false [Hl.none,R]=J;have v0:J.i 0=x:=by rw[<-hρ];rfl
 have w1:J.h 1=R:=by rw[<-hρ];rfl
 clear hρ;simp only[go_sem,Nat.reduceAdd];obtain⟨sv,KB,hD⟩:=id hI;have c:∀ i:Nat,i<6->R.cell ((x:Int)).toNat (Int.toNat ((i:Nat):Int))=some (sv i):=fun i hi=>by rw[aaa,aaa];exact(hD.sl hi).1
 have c0:=c 0 ah;have c1:=c 1 ah;have c2:=c 2 ah;have c3:=c 3 ah;have c4:=c 4 ah;have c5:=c 5 ah;obtain⟨_,_,l0,s0⟩:=hD.sl (i:=0) ah;obtain⟨_,_,l1,s1⟩:=hD.sl (i:=1) ah;obtain⟨_,_,l2,s2⟩:=hD.sl (i:=2) ah;obtain⟨_,_,l3,s3⟩:=hD.sl (i:=3) ah;obtain⟨_,_,l4,s4⟩:=hD.sl (i:=4) ah;obtain⟨_,_,l5,s5⟩:=hD.sl (i:=5) ah;rw[v0,w1];have c0:R.cell ((x:Int)).toNat (Int.toNat 0)=some (sv 0):=c0;have c1:R.cell ((x:Int)).toNat (Int.toNat 1)=some (sv 1):=c1;have c2:R.cell ((x:Int)).toNat (Int.toNat 2)=some (sv 2):=c2;have c3:R.cell ((x:Int)).toNat (Int.toNat 3)=some (sv 3):=c3;have c4:R.cell ((x:Int)).toNat (Int.toNat 4)=some (sv 4):=c4;have c5:R.cell ((x:Int)).toNat (Int.toNat 5)=some (sv 5):=c5;rw[c0,c1,c2,c3,c4,c5,l0,l1,l2,l3,l4,l5];refine⟨ah,s0,ah,s1,ah,s2,ah,s3,ah,s4,ah,s5,ah,ng rfl (z:=dL st) ?_ fun F=>⟨x,R,T,st,rfl,rfl,hI,rfl⟩⟩;simp only[aq,al,bL,dm,cJ,bP,dj,fw,fE,gk,jr,gM,iX,gf,aa0];rw[v0,w1,c0,c1,c2,c3,c4,c5,l0,l1,l2,l3,l4,l5];exact DV hS
noncomputable def Fp (rt:Nat):Sx.Spec where
 fn:=29
 own:=[.arg 0]
 rd:=[rt,2000003]
 res:=[.one (.int .i64)]
 pre:=fun xs Hs Rs=>∃ x H B row T RG st p,xs=[.pointer (some ⟨x,0,none⟩),.agg row.toArray]/\Hs=[H.un B]/\Rs=[T,RG]/\H.bT B/\jW H T x st/\mK st/\(∀ i,i<6->(st i).length<=100000)/\Md T B row p/\p.b.length<=900000/\uu RG 3
 post:=fun xs Hs Rs v Hs' F=>∃ x H B row T RG st p H',xs=[.pointer (some ⟨x,0,none⟩),.agg row.toArray]/\Hs=[H.un B]/\Rs=[T,RG]/\H.bT B/\jW H T x st/\Md T B row p/\Hs'=[H']/\v=.int .i64 (br st p)/\jW H' T x (cP st p)/\B.le H'
def adC:Nd:=(fun o b i q n=>(fun a c d g h k=>(fun p=>(fun f l=>(fun j m=>(.ext (.alloc 136) (.and (.pre k) (.ext k (.and (.imp (.not (.bvar 137)) (.post [.hp 133 [] n [],.ro 134 [] true,.ro 135 q false,.dead] (.sv (.one (.int .i64 o))))) (.imp (.bvar 137) (.and (.e (.le i b)) (.and (.e (.le i a)) (.and (.e (.lt a (.lit 6))) (.and (.e (.his 133 b a 0 .slice)) (.and (.pre m) (.ext m (.and (.pre d) (.ext d (.and (.imp (.not (.eq (.var 142) i)) (.post g (.sv (.one (.int .i64 (.var 142)))))) (.imp (.eq (.var 142) i) (.and (.pre h) (.ext h (.and (.imp (.not (.bvar 143)) (.post g (.sv (.one (.int .i64 (.lit 2)))))) (.imp (.bvar 143) (.and (.e (.his 133 b i 0 .slice)) (.and (.e (.le i (.hP 133 b i 0 2))) (.and (.e (.his 133 b o 0 .slice)) (.and (.e (.le i (.hP 133 b o 0 2))) (.and (.e (.his 133 b (.lit 2) 0 .slice)) (.and (.e (.le i (.hP 133 b (.lit 2) 0 2))) (.and (.e (.his 133 b (.lit 3) 0 .slice)) (.and (.e (.le i (.hP 133 b (.lit 3) 0 2))) (.and (.e (.his 133 b (.lit 4) 0 .slice)) (.and (.e (.le i (.hP 133 b (.lit 4) 0 2))) (.and (.e (.his 133 b (.lit 5) 0 .slice)) (.and (.e (.le i (.hP 133 b (.lit 5) 0 2))) (.and (.imp c (.post g (.sv (.one (.int .i64 (.lit 4)))))) (.imp (.not c) (.ext (.alloc 144) (.and (.pre j) (.ext j (.and (.pre l) (.ext l (.post [.hp 147 [145,133] [.var 145,.var 0] [],.ro 134 [] true,.ro 135 q false,.dead,.hp 138 [] [.var 138] [],.dead] (.sv (.one (.int .i64 i))))))))))))))))))))))))))))))))))))))))):Nd)) (.app 145 67 126 256 f p (.hp 133 [] n []) (.cvs (ar 1 Av) 1)) (.call 1 138 [.sv (.one f)] [] [.hp 133 [] n []])) (.sl (.hP 133 b a 0 0) (.hP 133 b a 0 1) p (.hP 133 b a 0 3)) (.put 147 145 b a [.sl (.var 145) i (.add p o) (.var 146)])) (.hP 133 b a 0 2)) (.wrap .i64 (.sub (.var 1) o)) (.le (.lit 400) (.wrap .i64 (.add (.wrap .i64 (.add (.wrap .i64 (.add (.wrap .i64 (.add (.wrap .i64 (.add (.wrap .i64 (.hP 133 b i 0 2)) (.hP 133 b o 0 2))) (.hP 133 b (.lit 2) 0 2))) (.hP 133 b (.lit 3) 0 2))) (.hP 133 b (.lit 4) 0 2))) (.hP 133 b (.lit 5) 0 2)))) (.call 2 142 [.sv (.one (.int .i64 (.var 1))),.sv (.one (.sl (.var 138) (.var 139) (.var 140) (.var 141))),.sv (.agg (ar 1 bU))] [] [.hp 138 [] [.var 138] [],.hp 133 [] n [],.ro 134 [] true,.ro 135 q false]) [.hp 133 [] n [],.ro 134 [] true,.ro 135 q false,.dead,.hp 138 [] [.var 138] []] (.call 3 143 [.sv (.agg (ar 1 Av))] [] [.hp 133 [] n [],.ro 134 [] true,.ro 135 q false]) (.call 0 137 [.sv (.agg (ar 1 bU))] [] [.hp 133 [] n [],.ro 134 [] true])) (.lit 1) (.var 0) (.lit 0) [.lit 3] [.var 0]
noncomputable def W0:List Sx.Spec:=[Ik (gK 65) [6000000,6000001],kq,Ik Fc [1,6000000,6000001,2000003],Ik xF [6000000,6000001,2000003]]
theorem T0:∀ t∈W0,t.OK Tryz.prog:=au (sF rfl uQ) <| au tQ <| au (sF rfl Oe) <| au (sF rfl HP) <| bR
theorem YA:(Ik (gK 65) [6000000,6000001]).res=[.one .bool]:=rfl
theorem YB:kq.res=[.one .sl]:=rfl
theorem YC:(Ik Fc [1,6000000,6000001,2000003]).res=[.one (.int .i64)]:=rfl
theorem YD:(Ik xF [6000000,6000001,2000003]).res=[.one .bool]:=rfl
noncomputable def Fq:aG Tryz.prog W0 29 where
 Λ:=aC
 args:=TP (.var 0) (.lit 0)::(cn 1 [.agg Av]).map .sv
 mem:=[.hp 133 [] [.var 0] [],.ro 134 [] true,.ro 135 [.lit 3] false]
 nv:=136
open Classical in
set_option maxRecDepth 20000 in
theorem OB (rt:Nat):(Fp rt).OK Tryz.prog:=by
 refine Spec.aT (Γ:=W0) T0 ?_;rintro xs Hs Rs hl1 hl2 ⟨x,H,B,row,T,RG,st,p,rfl,rfl,rfl,hHB,hI,hS,hS2,hx,hlen,hKat⟩;obtain⟨J,va,rfl,hh,hnw⟩:=CT (a:=(x:Int)) [(133,H.un B),(134,T),(135,RG)] hx.1;have w1:J.h 133=H.un B:=hh 133;have w2:J.h 134=T:=hh 134;have w3:J.h 135=RG:=hh 135;refine⟨Fq,J,fun _ _=>True,fun _ _=>0,?_,⟨?_,?_,?_,?_⟩,(fun _ h=>nomatch h),?_⟩
 .show [Value.pointer (az (J.i 0) 0),.agg ((ar 1 iT).map (CV.ev J)).toArray]=_;rw[va,av ah];rfl
 .intro r hr ho;simp [Fq]at hr;rcases hr with rfl | rfl | rfl
  .exact⟨H.un B,aF,by show(J.h 133).le _;rw[w1];exact Hl.le_refl _⟩
  all_goals cases ho
 .intro r hr ho;simp [Fq]at hr;rcases hr with rfl | rfl | rfl
  .cases ho
  .exact⟨T,aF,by show(J.h 134).le T;rw[w2];exact Hl.le_refl _⟩
  .exact⟨RG,aF,by show(J.h 135).le RG;rw[w3];exact Hl.le_refl _⟩
 .simp [Fq,bE.own]
 .intro r hr;simp [Fq]at hr;rcases hr with rfl | rfl | rfl<;>trivial
 refine aG.lit (x:=adC) ?_;unfold adC;simp only[go_sem,Nat.reduceAdd,W0,YA,YB,YC,YD,JL];generalize hrow0:(ar 1 iT).map (CV.ev J)=row at *;have ht0:(ar 1 bU).map (CV.ev J)=row.take 125:=by rw[<-hrow0,ou]
 have V:∀ q:Env,ai 136 J q->q.i 0=x/\q.h 133=H.un B/\q.h 134=T/\q.h 135=RG/\(ar 1 bU).map (CV.ev q)=row.take 125/\(ar 1 Av).map (CV.ev q)=row/\q.i 1=J.i 1:=fun q g=>by
  refine⟨by rw[g.i 0,va],by rw[g.h 133,w1],by rw[g.h 134,w2],by rw[g.h 135,w3],?_,?_,g.i 1⟩
  .rw[<-ht0];exact aaQ Array.toList (Value.agg.inj (ft (ks:=bU) (n:=1) g aB))
  .rw[<-hrow0];exact aaQ Array.toList (Value.agg.inj (ft (ks:=iT) (n:=1) g aB))
 have lB:B.le (H.un B):=Hl.bK hHB;have hU:∀ {U:Hl},T.le U->(H.un B).le U->fM U U row p:=fun a b=>hx.2 _ a fun k o hb=>b k o (lB k o hb);have hbody:row=row.take 125++[row.getD 125 Bk]:=Zn hx.1;obtain⟨sv,KB,hD⟩:=id hI;have hDu:O8 (H.un B) T x st sv KB:=hD.mono (Hl.bF _ _);have outE:∀ {q:Env} {t:Mem} {e:E},q.h 133=H.un B->aA q e=br st p->br st p≠0->postOf (Fp rt) [.pointer (some ⟨x,0,none⟩),.agg row.toArray] [H.un B] [T,RG] q (.hp 133 [] [.var 0] []::t) (.sv (.one (.int .i64 e))):=by
  intro q t e h1 h2 h3 _;refine⟨[[0]],[],rfl,rfl,⟨(bc fun _=>aA q e),rfl,trivial,trivial⟩,x,H,B,_,T,RG,st,p,_,rfl,rfl,rfl,hHB,hI,hx,rfl,by rw[<-h2];rfl,?_,?_⟩
  .unfold cP;rw[aal h3];show jW (cZ [q.h 133]) _ _ _;rw[aN,h1];exact⟨sv,KB,hDu⟩
  .show B.le (cZ [q.h 133]);rw[aN,h1];exact Hl.bK hHB
 intro q1 g1 p1;obtain⟨v0,x1,x2,x3,xr,xr2,_⟩:=V q1 g1;rw[xr,x1,x2];refine⟨fun U u=>⟨_,U,p.h,rfl,rfl,(hU (u _ aF) (u _ aF)).hd⟩,fun q2 g2 ⟨F2,⟨U,u,hp2⟩,_⟩=>?_⟩;have hxU:=hU (u T aF) (u _ aF);have hd:=hxU.hd;have hw1:cI p.h.c 0=J.i 1:=by
  have e1:cI p.h.c 0=cI (row.take 125) 0:=hd.I aB;rw[e1,<-ht0];rfl
 have G2:ai 136 J q2:=g1.tr g2;have hb2:q2.b 137=decide p.h.Form:=Value.bool.inj (kJ hd hp2);obtain⟨y0,y1,y2,y3,yr,yr2,y5⟩:=V q2 G2;refine⟨fun hb=>?_,fun hb=>?_⟩
 .have hF:¬p.h.Form:=by rw[hb2]at hb;simpa using hb
  have e:br st p=1:=by unfold br;rw[aax hF]
  exact outE y1 e.symm (by rw[e];decide)
 have hF:p.h.Form:=by rw[hb2]at hb;simpa using hb
 have hFn:¬¬p.h.Form:=fun g=>g hF;have hw:=yE hF;have hw2:IntKind.i64.wrap (J.i 1-1)=((cI p.h.c 0-1).toNat:Nat):=by rw[hw1,IntKind.wrap_i64];rw[hw1]at hw;omega
 generalize hi:(cI p.h.c 0-1).toNat=i at *;have hi6:i<6:=ah;have hwi:J.i 1=cI p.h.c 0:=hw1.symm;obtain⟨c1,csl,cl,cs⟩:=hDu.sl hi6;have c1':(H.un B).cell ((x:Int)).toNat (Int.toNat ((i:Nat):Int))=some (sv i):=by rw[aaa,aaa];exact c1
 obtain⟨rows,ho,hrl,hrp⟩:=hDu.row i hi6;have hr2:=hS2 i hi6;rw[y0,y1,y5,hw2,c1',gh csl];refine⟨ah,ah,ah,cs,⟨_,_,rows,rfl,rfl,ho.rd,ah⟩,fun q3 g3 ⟨F3,hp3,hF3,hn3⟩=>?_⟩;have hH3:=hp3 _ _ _ rfl rfl ho.rd;rw[<-hF3 trivial]at hH3;have hAll:∀ {U:Hl},T.le U->(H.un B).le U->gu U (rows.map (List.take 125)) (lD st i):=fun {U} a b=>by
  refine⟨by unfold lD;rw[aaB,aaB,hrl],fun j r h hr hh=>?_⟩;unfold lD at hh;rw[aao]at hr hh;obtain⟨r0,sI,rfl⟩:=aak.1 hr;obtain⟨p0,hp0,rfl⟩:=aak.1 hh;exact((hrp j r0 p0 sI hp0).2 U a fun k o hb=>b k o (hDu.kb k o hb)).hd
 have hFs:∀ g∈lD st i,g.Form:=fun g hg=>by
  obtain⟨p0,hp0,rfl⟩:=aaS.1 hg;exact hD.form i hi6 p0 hp0
 have G3:ai 136 J q3:=G2.tr g3;obtain⟨z0,z1,z2,z3,zr,zr2,z5⟩:=V q3 G3;rw[zr,z1,z2,z3,z5];have hln:(rows.map (List.take 125)).length<=100000:=by rw[aaB];omega
 refine⟨fun U u=>⟨_,_,_,U,U,U,U,_,_,p.h,rfl,rfl,gL hH3 (u _ aF),hAll (u T aF) (u _ aF),hFs,(hU (u T aF) (u _ aF)).hd,hln,hKat.mono (u _ aF)⟩,fun q4 g4 ⟨F4,⟨U4,u4,hp4⟩,_⟩=>?_⟩;have hask:q4.i 142=gz (cI p.h.c 0) (lD st i) p.h:=by
  have:=hp4 _ _ _ U4 U4 U4 U4 _ _ _ rfl rfl (gL hH3 (u4 _ aF)) (hAll (u4 T aF) (u4 _ aF)) (hU (u4 T aF) (u4 _ aF)).hd;rw[hwi]at this;simpa using this
 have G4:ai 136 J q4:=G3.tr g4;obtain⟨u0,u1,u2,u3,ur,ur2,u5⟩:=V q4 G4;refine⟨fun hne=>?_,fun heq=>?_⟩
 .have e:br st p=q4.i 142:=by unfold br;rw[aal hFn,hi,aax (by rw[<-hask];exact hne)];exact hask.symm
  exact outE u1 e.symm (by rw[e];exact hne)
 have h0:¬gz (cI p.h.c 0) (lD st i) p.h≠0:=fun g=>g (hask.symm.trans heq);rw[ur2,u1,u2,u3];refine⟨fun U u=>⟨row.take 125,row.getD 125 Bk,p.b,U,U,by rw[<-hbody],rfl,hd.ok,(hU (u T aF) (u _ aF)).body,hxU.byte,hlen,hKat.mono (u _ aF)⟩,fun q5 g5 ⟨F5,⟨U5,u5,hp5⟩,_⟩=>?_⟩;have hp5:=hp5 (row.take 125) (row.getD 125 Bk) p.b U5 U5 (by rw[<-hbody]) rfl (hU (u5 T aF) (u5 _ aF)).body;have hb5:q5.b 143=fk p.h.c p.b:=by rw[<-Aq hd];exact Value.bool.inj hp5
 have G5:ai 136 J q5:=G4.tr g5;obtain⟨k0,k1,k2,k3,kr,kr2,k5⟩:=V q5 G5;refine⟨fun hb=>?_,fun hb=>?_⟩
 .have e:br st p=2:=by unfold br;rw[aal hFn,hi,aal h0,aax (by rw[<-hb5];simpa using hb)]
  exact outE k1 e.symm (by rw[e];decide)
 have hwb:¬fk p.h.c p.b=false:=by rw[<-hb5,hb];decide
 have c:∀ j:Nat,j<6->(H.un B).cell ((x:Int)).toNat (Int.toNat ((j:Nat):Int))=some (sv j):=fun j hj=>by rw[aaa,aaa];exact(hDu.sl hj).1
 have a0:(H.un B).cell ((x:Int)).toNat (Int.toNat 0)=some (sv 0):=c 0 ah;have a1:(H.un B).cell ((x:Int)).toNat (Int.toNat 1)=some (sv 1):=c 1 ah;have a2:(H.un B).cell ((x:Int)).toNat (Int.toNat 2)=some (sv 2):=c 2 ah;have a3:(H.un B).cell ((x:Int)).toNat (Int.toNat 3)=some (sv 3):=c 3 ah;have a4:(H.un B).cell ((x:Int)).toNat (Int.toNat 4)=some (sv 4):=c 4 ah;have a5:(H.un B).cell ((x:Int)).toNat (Int.toNat 5)=some (sv 5):=c 5 ah;obtain⟨_,_,l0,s0⟩:=hDu.sl (i:=0) ah;obtain⟨_,_,l1,s1⟩:=hDu.sl (i:=1) ah;obtain⟨_,_,l2,s2⟩:=hDu.sl (i:=2) ah;obtain⟨_,_,l3,s3⟩:=hDu.sl (i:=3) ah;obtain⟨_,_,l4,s4⟩:=hDu.sl (i:=4) ah;obtain⟨_,_,l5,s5⟩:=hDu.sl (i:=5) ah;rw[k0,k1,a0,a1,a2,a3,a4,a5,l0,l1,l2,l3,l4,l5,DV hS];refine⟨s0,ah,s1,ah,s2,ah,s3,ah,s4,ah,s5,ah,fun h4=>?_,fun h4=>?_⟩
 .have e:br st p=4:=by unfold br;rw[aal hFn,hi,aal h0,aal hwb,aax h4]
  exact outE k1 e.symm (by rw[e];decide)
 have e0:br st p=0:=by unfold br;rw[aal hFn,hi,aal h0,aal hwb,aal h4]
 intro q6 g6 p6;have G6:ai 136 J q6:=G5.tr g6;obtain⟨m0,m1,m2,m3,mr,mr2,m5⟩:=V q6 G6;have hst:=hS i hi6;rw[m0,m1,m5,hw2,c1',gh csl,cl,mr2,aaa];refine⟨⟨⟨rows.flatten,by have:=ho.2;rw[hrl]at this;exact this⟩,ah,by unfold maxLen;omega,ah⟩,fun q7 g7 ⟨b1,b2,happ,hkp,_,hnw⟩=>?_⟩;have G7:ai 136 J q7:=G6.tr g7;obtain⟨n0,n1,n2,n3,nr,nr2,n5⟩:=V q7 G7;obtain⟨kx,kD⟩:=hD.put hi6 hHB hx hF b1 rfl happ hkp hnw;have en:(((st i).length:Int)+1).toNat=(st i).length+1:=ah;rw[n0,n1,n5,hw2,c1',cl,en,aaa,aaa];refine⟨⟨ah,ah,jI kx (by show i+1<=6;omega)⟩,fun q8 g8 p8 _=>?_⟩;refine⟨[[0]],[],rfl,rfl,⟨(bc fun _=>0),rfl,trivial,trivial⟩,x,H,B,_,T,RG,st,p,_,rfl,rfl,rfl,hHB,hI,hx,rfl,by rw[e0];rfl,?_,?_⟩
 .unfold cP;rw[aax e0,hi];show jW (cZ [q8.h 147]) _ _ _;rw[aN,p8];exact⟨_,_,kD⟩
 .show B.le (cZ [q8.h 147]);rw[aN,p8];exact fun b o hb=>kD.kb b o (Hl.bK (fun b ⟨y,z⟩=>hHB b ⟨Hl.ef hD.kb y,z⟩) b o hb)
open Go.Proofs.YtomdimlnggpgbaaGreatDoor.D hiding aM aC fI
def tX:Sx.Spec where
 fn:=34
 own:=[]
 rd:=[0]
 res:=[.one .bool]
 pre:=fun xs Hs Rs=>∃ pr x R T st,xs=[pr,.pointer (some ⟨x,0,none⟩)]/\Rs=[R]/\rV R pr st/\jW R T x st/\T.le R/\mK st/\Good st
 post:=fun xs Hs Rs v Hs' F=>v=.bool true
def sP (k:Nat):E:=.hP 2 (.var 1) (.var 50) 0 k
def sO:E:=.ite (.eq (sP 3) (.var 70)) (sP 1) (.add (sP 1) (.mul (.var 70) (.lit 126)))
def sQ (k:Nat):E:=.hP 2 (sP 0) (.add sO (.lit 125)) 0 k
noncomputable def W1:List Sx.Spec:=[xn,qz,xz,Et,fv 71]
theorem T7:∀ t∈W1,t.OK Tryz.prog:=au GL <| au yK <| au HH <| au Nf <| au tO <| bR
theorem YI:xn.res=[.agg (List.replicate 6 (Ck.int .u64))]:=rfl
theorem YJ:qz.res=[.one (.int .i64)]:=rfl
theorem YK:xz.res=[.one (.int .i64)]:=rfl
theorem YL:Et.res=[.agg iT,.one (.int .i64)]:=rfl
set_option maxRecDepth 20000 in
theorem YH:(aJ 0 [Cp.agg iT,Cp.one (.int .i64)]≠[])=True:=eq_true aB
noncomputable def JR:aG Tryz.prog W1 tX.fn where
 Λ:=fun p=>if lp p&&p.head?==some 34 then(if p.length>12 then some ⟨1,[(7,TI .i64 (.var 70))],[],80⟩else some ⟨0,[(6,TI .i64 (.var 50))],[],60⟩)else none
 args:=[TP (.var 0) (.lit 0),TP (.var 1) (.lit 0)]
 mem:=[.ro 2 [] true]
 nv:=3
set_option maxRecDepth 20000 in
theorem HQ:tX.OK Tryz.prog:=by
 refine Spec.aT (Γ:=W1) T7 ?_;rintro xs Hs Rs hl1 hl2 ⟨pr,x,R,T,st,rfl,rfl,hRel,hRf,hTR,hS,hG⟩;have e0:Hs=[]:=aad.1 hl1;subst e0;obtain⟨r,ps,y,rfl,hrb,hIx⟩:=id hRel;obtain⟨sv,KB,hD⟩:=id hRf;refine⟨JR,aM [(r:Int),x] false [Hl.none,Hl.none,R],fun j q=>if j=0 then ∃ k:Nat,q.i 50=k/\k<=6 else ∃ k:Nat,q.i 70=k,fun j q=>if j=0 then(6-q.i 50).toNat else(1000000-q.i 70).toNat,?_,cQ (by intro r hr;simp [JR]at hr;subst hr;exact⟨_,_,_,rfl⟩) rfl,(fun _ h=>nomatch h),?_⟩
 .show [Value.pointer (az (r:Int) 0),.pointer (az (x:Int) 0)]=_;rw[av ah,av ah];rfl
 refine aG.read [bU] [dZ] [] ?_;generalize hρ:aM [(r:Int),x] false [Hl.none,Hl.none,R]=J;have V:∀ q:Env,ai 3 J q->q.i 0=r/\q.i 1=x/\q.h 2=R:=fun q g=>by
  rw[g.i 0,g.i 1,g.h 2,<-hρ];exact⟨rfl,rfl,rfl⟩
 clear hρ;have cr:R.cell ((r:Int)).toNat (Int.toNat 1)=some (.pointer (some ⟨y,0,none⟩)):=by
  rw[aaa];unfold Hl.cell;rw[hrb];rfl
 have tt:∀ {q:Env} {mem:Mem} {e:E},bd q e=true->postOf tX [.pointer (some ⟨r,0,none⟩),.pointer (some ⟨x,0,none⟩)] [] [R] q mem (.sv (.one (.bool e))):=fun h=>tP rfl (by show Value.bool _=_;rw[h]);simp only[go_sem,Nat.reduceAdd,W1,YI,YJ,YK,YL,Zm,YH,JL,sP,sO,sQ,abM,ac2,abK];intro q1 g1 _;obtain⟨v0,v1,w2⟩:=V q1 g1;rw[v0,w2,cr,iJ];refine⟨ah,rfl,⟨y,R,st,rfl,rfl,hIx,hS⟩,fun q2 g2 ⟨F2,hp2,_⟩ q3 g3 _=>⟨⟨0,rfl,ah⟩,fun q4 g4 ⟨k,ek,hk⟩=>?_⟩⟩;have A24:ai 10 q2 q4:=ai.trans (n:=10) g3 g4.mono;have A4:ai 3 J q4:=g1.trans (g2.mono.tr A24);have hp2:=aaI (Value.agg.inj (hp2 _ _ _ rfl rfl hIx hS));have hh:∀ i:Nat,i<6->(if((i:Nat):Int)=0 then q4.i 4 else if((i:Nat):Int)=1 then q4.i 5 else if((i:Nat):Int)=2 then q4.i 6 else if((i:Nat):Int)=3 then q4.i 7 else if((i:Nat):Int)=4 then q4.i 8 else q4.i 9)=(st i).length:=by
  have A:=A24;have hp2:([.int .u64 (q2.i 4),.int .u64 (q2.i 5),.int .u64 (q2.i 6),.int .u64 (q2.i 7),.int .u64 (q2.i 8),.int .u64 (q2.i 9)]:List Value)=GI st:=hp2;simp only[GI,aaf,Value.int.injEq,aaV,aat]at hp2;obtain⟨m0,m1,m2,m3,m4,m5⟩:=hp2;rw[A.i 4,A.i 5,A.i 6,A.i 7,A.i 8,A.i 9,m0,m1,m2,m3,m4,m5];intro i hi;have:i=0\/i=1\/i=2\/i=3\/i=4\/i=5:=ah;rcases this with rfl | rfl | rfl | rfl | rfl | rfl<;>rfl
 refine⟨fun hlt=>?_,fun hge=>?_⟩
 .have hk6:k<6:=ah;obtain⟨c1,csl,cl,cs⟩:=hD.sl hk6;have c:R.cell ((x:Int)).toNat ((k:Int)).toNat=some (sv k):=by rw[aaa,aaa];exact c1
  have cq:∀ q:Env,ai 3 J q->q.i 50=k->(q.h 2).cell (q.i 1).toNat (q.i 50).toNat=some (sv k):=fun q g h=>by
   obtain⟨_,e1,e2⟩:=V q g;rw[e1,e2,h];exact c
  have hsk:=hS k hk6;rw[cq q4 A4 ek,cl,ek,hh k hk6];have wl:IntKind.u64.wrap ((st k).length:Int)=(st k).length:=by rw[IntKind.wrap_u64];omega
  rw[wl];refine⟨ah,by rw[(V q4 A4).2.1];omega,cs,ah,fun hne=>absurd rfl hne,fun _=>⟨⟨0,rfl⟩,fun q5 g5 ⟨j,ej⟩=>⟨fun hj=>?_,fun hj=>?_⟩⟩⟩
  rotate_left
  .refine⟨⟨k+1,?_,ah⟩,?_⟩
   .show IntKind.i64.wrap (q5.i 50+1)=_;rw[g5.i 50,ek,IntKind.wrap_i64];omega
   .show(6-IntKind.i64.wrap (q5.i 50+1)).toNat<(6-(k:Int)).toNat;have w1:IntKind.i64.wrap ((k:Int)+1)=((k+1:Nat):Int):=by rw[IntKind.wrap_i64];omega
    rw[g5.i 50,ek,w1];omega
  have A5:ai 3 J q5:=A4.tr g5;have ek5:q5.i 50=k:=by rw[g5.i 50,ek]
  rw[cq q5 A5 ek5,cl,ej]at hj;have hjl:j<(st k).length:=ah;intro q6 g6 p6;have A6:ai 3 J q6:=A5.tr g6;have ek6:q6.i 50=k:=by rw[g6.i 50,ek5]
  have ej6:q6.i 70=j:=by rw[g6.i 70,ej]
  obtain⟨u0,u1,u2⟩:=V q6 A6;have w1:IntKind.i64.wrap ((k:Int)+1)=((k+1:Nat):Int):=by rw[IntKind.wrap_i64];omega
  have w2':IntKind.i64.wrap ((j:Int)+1)=((j+1:Nat):Int):=by rw[IntKind.wrap_i64];omega
  have w3:IntKind.u64.wrap (((j+1:Nat):Int))=((j+1:Nat):Int):=by rw[IntKind.wrap_u64];omega
  rw[u0,u2,cr,iJ,ek6,ej6,w1,w2',w3];refine⟨⟨y,R,st,_,_,rfl,rfl,hIx,hS,hG,ah,ah⟩,fun q7 g7 ⟨F7,⟨x',R',st',n',s',f1,f2,h',hcase⟩,hF7,hn7⟩ q8 g8 p8=>?_⟩;simp only[aaf,aat,Value.pointer.injEq,aaj,Addr.mk.injEq,Value.int.injEq,aaV]at f1 f2;obtain⟨rfl,rfl,rfl⟩:=f1;subst f2;have ek1:(((k+1:Nat):Int)-1).toNat=k:=ah;have ej1:(((j+1:Nat):Int)-1).toNat=j:=ah;rw[ek1,ej1,<-hIx.st h' hk6]at hcase;rcases hcase with ⟨_,_,row',p',hp',ev,hP'⟩ | ⟨hno,_⟩
  rotate_left
  .exact absurd ⟨⟨ah,ah⟩,ah,ah⟩ hno
  simp only[Value.tuple.injEq,aaJ,aaf,Value.int.injEq,Value.agg.injEq,aaV,aat]at ev;obtain⟨er,ev⟩:=ev;have h213:q8.i 213=0:=(g8.i 213).trans ev;rw[<-hF7 trivial]at hP';refine⟨fun hne=>absurd h213 hne,fun _=>?_⟩;obtain⟨rows,ho,hrl,hrp⟩:=hD.row k hk6;obtain⟨row,hr⟩:∃ row,rows[j]?=some row:=⟨_,aab ah⟩;have hP:=(hrp j row p' hr hp').2 R hTR hD.kb;obtain⟨g,cap,cur,hv,hg,hle,_,_,_⟩:∃ g cap cur,sv k=.slice (some ⟨g,0,none⟩) rows.length cap/\R g=some (.cells cur 67 (0,0))/\rows.length<=cap/\cap<=maxLen/\cur.size=cap*rI.length/\cur.toList.take (rows.length*rI.length)=rows.flatten:=by
   rcases ho.2.2 with ⟨_,hn⟩ | h
   .omega
   .exact h
  have hcell:∀ jj u,row[jj]?=some u->R.cell g (j*126+jj)=some u:=by
   obtain⟨x1,y1,c1',he,hy1,hrr⟩:=ho.rd;rw[hv]at he;rcases hrr with h | ⟨hx1,hrr⟩
   .rw[h]at hrl;simp at hrl;omega
   .have hh:=(hrr j row hr).2;simp only[Value.slice.injEq]at he;have e1:=he.1;rw[av hx1]at e1;simp only[aaj,Addr.mk.injEq,aat]at e1;obtain⟨e1,e2⟩:=e1;intro jj u hu;have:=hh jj u hu;rw[mj,<-e1,<-e2,aaP]at this;exact this
  have k0:bm (some (sv k)) 0=(g:Int):=by rw[hv];rfl
  have k1:bm (some (sv k)) 1=0:=by rw[hv];rfl
  have k3:bm (some (sv k)) 3=(cap:Int):=by rw[hv];rfl
  have A8:ai 3 J q8:=A6.trans (g7.mono.tr g8);have ek8:q8.i 50=k:=by rw[g8.i 50,g7.i 50,ek6]
  have ej8:q8.i 70=j:=by rw[g8.i 70,g7.i 70,ej6]
  rw[cq q8 A8 ek8,k0,k1,k3,ej8,w2'];refine⟨ah,ah,ah,ah,ah,fun q9 g9 p9=>?_⟩;have A9:ai 3 J q9:=A8.tr g9;have ek9:q9.i 50=k:=by rw[g9.i 50,ek8]
  have ej9:q9.i 70=j:=by rw[g9.i 70,ej8]
  have nc:¬((cap:Nat):Int)=j:=ah;have hl126:=fU hP.ok;rw[mj]at hl126;have hr125:row[125]?=some row[125]:=aab ah;have hbody:cV R (row[125]) p'.b:=by
   have:=hP.body;rw[aan,hr125]at this;exact this
  have hc125:R.cell ((g:Int)).toNat (0+(j:Int)*126+125).toNat=some row[125]:=by
   rw[aaa,show(0+(j:Int)*126+125).toNat=j*126+125 by omega];exact hcell 125 _ hr125
  obtain⟨t1,t2,t3,t4⟩:=Lo hbody;have eb:row'.getD 125 Bk=.slice (az (q7.i 209) (q7.i 210)) (q7.i 211).toNat (q7.i 212).toNat:=by
   rw[<-er,tN]
  have hb':=hP'.body;rw[eb]at hb';have n7:0<=q7.i 210/\0<=q7.i 211:=by
   obtain⟨x1,y1,c1',he,_⟩:=id hb';have hh:bV 81 iT q7:=hn7.1;have e:iT=bU++([Ck.sl]:List Ck):=rfl;have sp:∀ (a b:List Ck) (n:Nat),bV n (a++b) q7->bV (n+aY a) b q7:=by
    intro a
    induction a with
    | nil=>intro b n h;simpa [aY] using h
    | cons k a ih=>intro b n h;have:=ih b _ h.2;rw[show n+k.len+aY a=n+aY (k::a)by simp [aY];omega]at this;exact this
   rw[e]at hh;obtain⟨_,n2,n3,_⟩:=(sp _ _ _ hh).1;exact⟨n2,n3⟩
  have A79:ai 214 q7 q9:=g8.tr g9;have hb9:cV (q9.h 81) (.slice (az (q9.i 209) (q9.i 210)) (q9.i 211).toNat (q9.i 212).toNat) p'.b:=by
   rw[A79.h 81,A79.i 209,A79.i 210,A79.i 211,A79.i 212];exact hb'
  have x9:=kX hb9 (by rw[A79.i 210];exact n7.1) (by rw[A79.i 211];exact n7.2);obtain⟨_,_,o2⟩:=V q9 A9;rw[cq q9 A9 ek9,k0,k1,k3,ej9,w2',aal nc,o2,hc125,x9.2,t4];refine⟨ah,fun hne=>absurd ah hne,fun _=>⟨x9.1,ah,ah,ah,t1,t3,fun hne=>absurd rfl hne,fun _=>?_⟩⟩;have ho125:=jf (n:=125) hP.ok;rw[zH]at ho125;have hc0:∀ i u,(row.take 125)[i]?=some u->R.cell ((g:Int)).toNat ((0+(j:Int)*126).toNat+i)=some u:=fun i u hu=>by
   rw[aaX]at hu;split at hu
   .rw[aaa,show(0+(j:Int)*126).toNat=j*126 by omega];exact hcell i u hu
   .cases hu
  have ra:(ar 81 bU).map (CV.ev q9)=row'.take 125:=by
   rw[<-er,ou];exact aaQ Array.toList (Value.agg.inj (ft (ks:=bU) (n:=81) (m:=214) A79 aB))
  rw[ra,A79.h 81];refine⟨lj _ ho125 hc0,⟨_,q7.h 81,p'.h,rfl,rfl,hP'.hd⟩,fun q10 g10 ⟨F10,hp10,hF10,hn10⟩=>?_⟩;have B1:=lW hP'.hd hp10;rw[<-hF10 trivial]at B1;have n10:-1<=q10.i 216/\0<=q10.i 217/\0<=q10.i 218/\0<=q10.i 219:=hn10.1;have A10:ai 3 J q10:=A9.tr g10;have ek10:q10.i 50=k:=by rw[g10.i 50,ek9]
  have ej10:q10.i 70=j:=by rw[g10.i 70,ej9]
  obtain⟨_,_,o10⟩:=V q10 A10;have rb:(ba 2 (.hP 2 (.var 1) (.var 50) 0 0) (.ite (.eq (.hP 2 (.var 1) (.var 50) 0 3) (.var 70)) (.hP 2 (.var 1) (.var 50) 0 1) (.add (.hP 2 (.var 1) (.var 50) 0 1) (.mul (.var 70) (.lit 126)))) 0 dZ).map (CV.ev q10)=row.take 125:=fC _ dZ 0 ho125 fun i u hu=>by
   simp only[fE,dj,bL,cJ,al,aq,gF,aaP,aa0];rw[cq q10 A10 ek10,k0,k1,k3,ej10,o10,aal nc];exact hc0 i u hu
  rw[rb,o10];refine⟨(kX B1.rd.w n10.2.1 n10.2.2.1).1,⟨_,R,p'.h,rfl,rfl,hP.hd⟩,fun q11 g11 ⟨F11,hp11,hF11,hn11⟩=>?_⟩;have B2:=lW (hP.hd) hp11;rw[<-hF11 trivial]at B2;have n11:-1<=q11.i 220/\0<=q11.i 221/\0<=q11.i 222/\0<=q11.i 223:=hn11.1;have B1':bQ (q11.h 216) 5 (.slice (az (q11.i 216) (q11.i 217)) (q11.i 218).toNat (q11.i 219).toNat) (bf p'.h):=by
   rw[g11.h 216,g11.i 216,g11.i 217,g11.i 218,g11.i 219];exact B1
  have y1:=kX B1'.rd.w (by rw[g11.i 217];exact n10.2.1) (by rw[g11.i 218];exact n10.2.2.1);have y2:=kX B2.rd.w n11.2.1 n11.2.2.1;rw[y1.2,y2.2];refine⟨y2.1,fun hne=>absurd rfl hne,fun _=>⟨⟨j+1,?_⟩,?_⟩⟩
  .show IntKind.i64.wrap (q11.i 70+1)=_;rw[g11.i 70,ej10,w2']
  .show(1000000-IntKind.i64.wrap (q11.i 70+1)).toNat<(1000000-q5.i 70).toNat;rw[g11.i 70,ej10,w2',ej];have key:∀ N:Int,((j+1:Nat):Int)<=N->(N-((j+1:Nat):Int)).toNat<(N-(j:Int)).toNat:=fun N h=>ah;exact key 1000000 ah
 .obtain⟨u0,u1,u2⟩:=V q4 A4;rw[u0,u2,cr,iJ];refine⟨⟨y,R,st,rfl,rfl,hIx⟩,fun q5 g5 ⟨F5,hp5,_⟩=>?_⟩;have h5:q5.i 60=dL st:=by simpa using hp5 _ _ _ rfl rfl hIx
  have A5:ai 3 J q5:=A4.tr g5;obtain⟨m0,m1,m2⟩:=V q5 A5;have ep:Value.pointer (az (x:Int) 0)=.pointer (some ⟨x,0,none⟩):=by rw[av ah];rfl
  rw[m1,m2,ep];refine⟨⟨x,R,T,st,rfl,rfl,hRf,hS⟩,fun q6 g6 ⟨F6,⟨x',R',T',st',f1,f2,h',hv⟩,_⟩=>?_⟩;simp only[aaf,aat,Value.pointer.injEq,aaj,Addr.mk.injEq]at f1 f2;subst f1 f2;obtain⟨sv',KB',hD'⟩:=h';have el:∀ i,i<6->(st i).length=(st' i).length:=fun i hi=>by
   obtain⟨a1,_,a2,_⟩:=hD.sl hi;obtain⟨b1,_,b2,_⟩:=hD'.sl hi;rw[a1]at b1;rw[<-aaZ b1,a2]at b2;omega
  have ec:dL st'=dL st:=by
   unfold dL;rw[el 0 ah,el 1 ah,el 2 ah,el 3 ah,el 4 ah,el 5 ah]
  have h6:q6.i 61=dL st:=by rw[<-ec];simpa using hv
  refine tt ?_;rw[gF,al,al,g6.i 60,h5,h6]
theorem Qx {a b:Int} {r:Nat} (hb:0<=b) (h:Value.pointer (az a b)=.pointer (some ⟨r,0,none⟩)):a=r/\b=0 :=
 oD (x:=(r:Int)) (y:=0) ah (aap 0) hb ((Value.pointer.inj h).trans (by rw[av ah];rfl))
theorem fK.uniq {H:Hl} {p dp dp':Value} {S S':SM} {st st':Nat->List Pc} (h:fK H p dp S st) (h':fK H p dp' S' st'):dp=dp'/\S=S'/\∀ i,i<6->st i=st' i:=by
 obtain⟨r,ps,x,HS,HI,hp,h⟩:=h;obtain⟨r',ps',x',HS',HI',hp',h'⟩:=h';obtain⟨l1,l2,l3⟩:=tj h.d1 h.d2 h.d3;rw[<-h.hl]at l1 l2 l3;obtain⟨m1,m2,m3⟩:=tj h'.d1 h'.d2 h'.d3;rw[<-h'.hl]at m1 m2 m3;rw[hp]at hp';obtain rfl:r=r':=by simpa using hp'
 have e1:=l1 _ _ (Hl.aX _ _);have e2:=m1 _ _ (Hl.aX _ _);rw[e1]at e2;obtain⟨rfl,rfl⟩:ps=ps'/\x=x':=by simpa using e2
 obtain⟨a,b⟩:=(h.so.rd.mono l2).uniq (h'.so.rd.mono m2);exact⟨a,b,fun i hi=>(h.ix.rd.mono l3).st (h'.ix.rd.mono m3) hi⟩
theorem fK.congr {H:Hl} {p dp:Value} {S:SM} {st st':Nat->List Pc} (h:fK H p dp S st) (e:∀ i,i<6->st i=st' i):fK H p dp S st':=by
 obtain⟨r,ps,x,HS,HI,hp,h⟩:=h;exact⟨r,ps,x,HS,HI,hp,h.so,h.ix.congr e,h.d1,h.d2,h.d3,h.hl⟩
theorem N1 {D:DM} {S:SM} {st st':Nat->List Pc} (e:∀ i,i<6->st i=st' i) (c:Pc):(fh D S st c).e=(fh D S st' c).e/\(fh D S st c).D=(fh D S st' c).D/\(fh D S st c).S=(fh D S st' c).S/\∀ i,i<6->(fh D S st c).st i=(fh D S st' c).st i:=by
 unfold fh;rw[nh e c];split
 .exact⟨rfl,rfl,rfl,e⟩
 .split
  .exact⟨rfl,rfl,rfl,e⟩
  .exact⟨rfl,rfl,rfl,fun i hi=>tA e c hi⟩
theorem By {rt:Nat} {p:Value} {H HD T B RG:Hl} {row:List Value} {dp:Value} {S:SM} {D:DM} {st:Nat->List Pc} {c:Pc} (hR:fK H p dp S st) (hD:aE HD dp D) (hx:fM T B row c) {v:Value} {F K1 K2:Hl} (h:(E8 rt).post [p,.agg row.toArray] [H,HD] [T,B,RG] v [K1,K2] F) :
 fK K1 p dp (fh D S st c).S (fh D S st c).st/\aE K2 dp (fh D S st c).D/\v=.int .i64 (fh D S st c).e:=by
 obtain⟨p',H',HD',row',T',B',RG',dp',S',D',st',c',L1,L2,e1,e2,e3,r1,d1,x1,e4,r2,d2,hv⟩:=h;simp only[aaf,aat,Value.agg.injEq]at e1 e2 e3 e4;obtain⟨rfl,e1⟩:=e1;obtain⟨rfl,rfl⟩:=e2;obtain⟨rfl,rfl,rfl⟩:=e3;obtain⟨rfl,rfl⟩:=e4;have e1:=aaI e1;subst e1;obtain rfl:=hx.uniq x1;obtain⟨rfl,rfl,est⟩:=hR.uniq r1;obtain rfl:=hD.uniq d1;obtain⟨f1,f2,f3,f4⟩:=N1 (D:=D) (S:=S) est c;rw[f1,f2,f3];exact⟨r2.congr fun i hi=>(f4 i hi).symm,d2,hv⟩
theorem jW.uniq {U T:Hl} (hd:U.bT T) {x:Nat} {st st':Nat->List Pc} (h:jW U T x st) (h':jW U T x st'):∀ i,i<6->st i=st' i:=by
 obtain⟨sv,KB,h⟩:=h;obtain⟨sv',KB',h'⟩:=h';have lU:U.le (T.un U):=Hl.bK (Hl.jt hd);intro i hi;have e:=(h.sl hi).1;rw[(h'.sl hi).1]at e;have e:=aaZ e;obtain⟨rows,h1,h2,h3⟩:=h.row i hi;obtain⟨rows',h1',h2',h3'⟩:=h'.row i hi;rw[e]at h1';obtain rfl:=h1.rd.uniq h1'.rd;apply abU ah;intro j j1 j2;have hr:rows[j]?=some rows[j]:=aab ah;exact((h3 j _ _ hr (aab j1)).2 (T.un U) (Hl.bF _ _) fun b o hb=>lU b o (h.kb b o hb)).uniq ((h3' j _ _ hr (aab j2)).2 (T.un U) (Hl.bF _ _) fun b o hb=>lU b o (h'.kb b o hb))
theorem jW.congr {U T:Hl} {x:Nat} {st st':Nat->List Pc} (h:jW U T x st) (e:∀ i,i<6->st i=st' i):jW U T x st':=by
 obtain⟨sv,KB,h⟩:=h;exact⟨sv,KB,h.bw,fun i hi=>by rw[<-e i hi];exact h.row i hi,h.kb,h.kbx,h.own,fun i hi=>by rw[<-e i hi];exact h.form i hi⟩
theorem jW.mono {H H' T:Hl} (hl:H.le H') {x:Nat} {st:Nat->List Pc} (h:jW H T x st):jW H' T x st:=by
 obtain⟨sv,KB,h⟩:=h;exact⟨sv,KB,h.mono hl⟩
theorem BH {rt x:Nat} {H B T RG:Hl} {row:List Value} {st:Nat->List Pc} {p:Pc} (hd:H.bT B) (hI:jW H T x st) (hx:Md T B row p) {v:Value} {F K:Hl} (h:(PD (Fp rt)).post [.pointer (some ⟨x,0,none⟩),.agg row.toArray] [H.un B] [T,RG] v [K] F) :
 v=.int .i64 (br st p)/\jW K T x (cP st p)/\Md T K row p:=by
 obtain⟨⟨x',H',B',row',T',RG',st',p',K',e1,e2,e3,d1,i1,x1,e4,hv,i2,hl⟩,hdis⟩:=h;simp only[aaf,aat,Value.pointer.injEq,aaj,Addr.mk.injEq,Value.agg.injEq]at e1 e2 e3 e4;obtain⟨rfl,e1⟩:=e1;obtain⟨rfl,rfl⟩:=e3;have e1:=aaI e1;subst e1 e4;have hd2:(H.un B).bT T:=hdis _ aF _ aF;have u1:=i1.mono (Hl.bF H' B');rw[<-e2]at u1;have est:=(hI.mono (Hl.bF H B)).uniq hd2 u1;have lU:(H.un B).le (T.un (H.un B)):=Hl.bK (Hl.jt hd2);have y1:=(x1.mono (Hl.bK d1)).2 (T.un (H.un B)) (Hl.bF _ _) (by rw[<-e2];exact lU);obtain rfl:=((hx.mono (Hl.bK hd)).2 (T.un (H.un B)) (Hl.bF _ _) lU).uniq y1;refine⟨by rw[nh est p];exact hv,i2.congr fun i hi=>(tA est p hi).symm,x1.mono hl⟩
end Go.Proofs.YtomdimlnggpgbaaGreatDoor
