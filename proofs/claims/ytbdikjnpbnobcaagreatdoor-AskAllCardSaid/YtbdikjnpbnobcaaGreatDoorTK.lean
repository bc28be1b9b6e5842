/- Pull after pull, for all and with bodies, brings every piece laid in a door once, each whole and in its writer's order: a part of the proof. No condition. -/
import Derived.Test.YtbdikjnpbnobcaaGreatDoorTJ
set_option linter.all false
set_option maxHeartbeats 4000000
namespace Go.Proofs.YtbdikjnpbnobcaaGreatDoor
open Go Go.Sx Go.Pk
open RowKit
variable {a:Act}{A F G H K KB R:Hl}{c most sx sy ux uy z:Int}{Hs Hs':List Hl}{L:List Pc}{row:List Value}{b b6 b7 dn i k n r sc sl uc ul x:Nat}{cv:Nat->Int}{st:Nat->List Pc}{o o':Obj}{ro:Option Nat}{p:Pc}{w:World}
def dwX:Code->Code
 | .rangeFunc _ _ x _=>x
 | c=>c
def dwY:Code->Code
 | .rangeFunc _ _ _ y=>y
 | c=>c
noncomputable def Pb:Code:=match Tryz.f106.body with
 | some c=>c
 | none=>.skip
noncomputable def Te:Code:=mi (iB (mi (iB (iB Pb))))
def B8 (l:List (Nat×TV)):List (Option TV):=(List.range 31).map fun i=>(l.find? fun p=>p.1==i).map (·.2)
noncomputable def g0:fz Tryz.prog [] where
 cs:=[mi Pb,mi (iB Pb),mi (mi (iB (iB Pb)))]
 st:=⟨B8 [(0,TP (.var 0) (.lit 0)),(1,.sv (.agg (aj 1 (List.replicate 6 (.int .u64))))),(2,.sv (.agg (aj 7 [.bool,.sl]))),(3,TI .i64 (.var 12))],[],14,[]⟩
 outs:=fun _=>[5,6,7,9,13]
noncomputable def g3:fz Tryz.prog [] where
 cs:=[dwX Te]
 st:=⟨B8 [(6,TP (.var 0) (.lit 0)),(7,TP (.var 1) (.lit 0)),(9,TP (.var 2) (.lit 0)),(14,.sv (.agg (aj 100 fI)))],[],240,[]⟩
 outs:=fun _=>[6,7,9,10]
 plain:=true
noncomputable def ZG:List Sx.Spec:=[mtS]
noncomputable def g4:fz Tryz.prog ZG where
 cs:=[dwY Te]
 st:=⟨B8 [(6,TP (.var 0) (.lit 0)),(7,TP (.var 1) (.lit 0)),(9,TP (.var 2) (.lit 0)),(10,TP (.var 3) (.lit 0))],[.ro 9 [.var 0,.var 1] true,.bc 2 [.sl (.var 20) (.lit 0) (.var 21) (.var 22)] 51,.hp 24 [] [.var 20] [],.bc 3 (aj 100 fI) 40,.hp 25 [] [.var 153,.var 228] []],300,[]⟩
 outs:=fun _=>[9]
 plain:=true
def uT {l:List (Nat×TV)} {t:Nat} {v:TV} (h:(B8 l)[t]?=some (some v)):(t,v)∈l:=by
 unfold B8 at h;simp only[abl,aaH]at h;obtain⟨i,hi,⟨n,x⟩,hf,rfl⟩:=h;have h1:=agt hf;have b:=List.find?_some hf;obtain⟨c,a⟩:=aaG.1 hi;rw[List.getElem_range]at a;simp only[af4]at b;rw[<-a]at b;rw[<-b];exact h1
def pN (b:Nat):Value:=.pointer (some ⟨b,0,none⟩)
def rY (h:0<=z):Value.pointer (au z 0)=pN z.toNat:=by rw[av h];rfl
def jB (b:Nat):Value.pointer (au ((b:Nat):Int) 0)=pN b:=rY ah
structure BaS (F:Hl) (b6 b7 b9 b1 b2 x:Nat) (cv:Nat->Int) (all:Bool) (u:Value) (most:Int):Prop where
 w6:F b6=some (.cells #[.bool all,u] 43 (0,0))
 w7:F b7=some (.cells #[.int .i64 most] 3 (0,0))
 w9:F b9=some (.cells #[.slice none 0 0] 51 (0,0))
 w1:F b1=some (.cells #[pN x] 80 (0,0))
 w2:F b2=some (.cells #[.int .u64 (cv 0),.int .u64 (cv 1),.int .u64 (cv 2),.int .u64 (cv 3),.int .u64 (cv 4),.int .u64 (cv 5)] 41 (0,0))
 n6:b6≠b9
 n7:b7≠b9
 n1:b1≠b9
 n2:b2≠b9
def AN {l:List Hl} (hd:∀ (p q:Nat) A B,p≠q->l[p]?=some A->l[q]?=some B->A.bq B) (h:l[i]?=some A) (hb:A b=some o):bY l b=some o:=by
 induction l generalizing i with
 | nil=>simp at h
 | cons B l ih =>
  cases i with
  | zero=>simp at h;subst h;exact Hl.aV _ _ _ _ hb
  | succ i =>
   have h:l[i]?=some A:=by simpa using h
   have hk:bY l b=some o:=ih (fun p q X Y a hX hY=>hd (p+1) (q+1) X Y ah (by simpa using hX) (by simpa using hY)) h;refine Hl.bg (fun c ⟨x,y⟩=>?_) _ _ hk;obtain⟨C,d,e⟩:=vG.1 y;obtain⟨j,f⟩:=acG d;exact hd 0 (j+1) B C ah rfl (by simpa using f) c ⟨x,e⟩
def Xu {q:Env} {mem:Mem} (a:∀ r∈mem,r.own=true) (hd:∀ (p q':Nat) r s,p≠q'->mem[p]?=some r->mem[q']?=some s->r.own=true->(r.hl q).bq (s.hl q)):∀ (p q':Nat) A B,p≠q'->(mem.map (bo.hl q))[p]?=some A->(mem.map (bo.hl q))[q']?=some B->A.bq B:=fun p q' A B b hA hB=>by
 rw[abl,aaH]at hA hB;obtain⟨r,hr,rfl⟩:=hA;obtain⟨s,hs,rfl⟩:=hB;exact hd p q' r s b hr hs (a r (aah hr))
def Ez {a:Nat} (h:(Hl.one a o).bq (Hl.one b o')):a≠b:=fun e=>Hl.fL.1 h (Hl.cn.2 e)
def aat {all:Bool} {p:Int×Int} (hsz:a.tmps.size=31) (f:a.defers=[]) (h0:a.tmps[0]?=some (pN x)) (h1:a.tmps[1]?=some (KU cv)) (m:a.tmps[2]?=some (.agg #[.bool all,.slice (au p.1 p.2) ul uc])) (n:a.tmps[3]?=some (.int .i64 most)) :
 yY (FW none) dn Tryz.prog (fun e a' w'=>e=.normal/\a'.tmps.size=31/\a'.defers=[]/\∃ b6 b7 b9 b1 b2 F,a'.tmps[6]?=some (pN b6)/\a'.tmps[7]?=some (pN b7)/\a'.tmps[9]?=some (pN b9)/\a'.tmps[13]?=some (.func (.func 180) #[] #[pN b1,pN b2])/\fq w w' [] [] F/\BaS F b6 b7 b9 b1 b2 x cv all (.slice (au p.1 p.2) ul uc) most) g0.cs a w:=by
 refine iL ?_ (fz.sound (Γ:=[]) aC g0 (Or.inr rfl) (Hs:=[]) (Rs:=[]) (J:=M1 [x,cv 0,cv 1,cv 2,cv 3,cv 4,cv 5,0,p.1,p.2,ul,uc,most] all (.bool false) Hl.none) (inv:=fun _ _=>True) (mu:=fun _ _=>0)
  (R:=fun v _ F=>∃ l b6 b7 b9 b1 b2:Nat,v=.tuple #[.int .i64 0,pN l,pN b6,pN b7,pN b9,.func (.func 180) #[] #[pN b1,pN b2]]/\BaS F b6 b7 b9 b1 b2 x cv all (.slice (au p.1 p.2) ul uc) most)
  aC aC aC ⟨by simp [g0],by simp [g0],.nil,by simp [g0]⟩ hsz f ?_ (fun _ h=>(nomatch h)) ?_)
 .rintro e a' w' ⟨t,vs,Hs',F,rfl,hs',d,hm,hT,l,b6,b7,b9,b1,b2,hv,hS⟩;have e0:Hs'=[]:=aa1.1 hT.len;subst e0;simp only[Value.tuple.injEq,acp,aae,Value.int.injEq,acu]at hv;obtain⟨g,rfl⟩:=hv;obtain rfl:t=.norm:=kY g;have hm:[a'.tmps[5]?,a'.tmps[6]?,a'.tmps[7]?,a'.tmps[9]?,a'.tmps[13]?]=_:=hm;simp only[abW,acI,aae,abw]at hm;exact⟨rfl,hs'.trans hsz,d,b6,b7,b9,b1,b2,F,hm.2.1,hm.2.2.1,hm.2.2.2.1,hm.2.2.2.2,hT,hS⟩
 .intro t v g;have:=uT g;simp only[aaW,abd,acs,acx]at this;rcases this with ⟨rfl,rfl⟩ | ⟨rfl,rfl⟩ | ⟨rfl,rfl⟩ | ⟨rfl,rfl⟩
  .exact h0.trans (by show _=some (Value.pointer (au (x:Int) 0));rw[jB])
  .exact h1
  .exact m.trans (by show _=some (Value.agg #[.bool all,.slice (au p.1 p.2) ((ul:Int)).toNat ((uc:Int)).toNat]);rw[aac,aac])
  .exact n
 refine fz.read [] [] [] ?_;generalize j:M1 [(x:Int),cv 0,cv 1,cv 2,cv 3,cv 4,cv 5,0,p.1,p.2,ul,uc,most] all (.bool false) Hl.none=J;simp only[go_sem,Nat.reduceAdd];intro q1 f1 p1 q2 f2 p2 E f3 p3 G f4 p4 H f5 p5 c f6 p6;have A:ai 14 J c:=f1.trans (f2.mono.trans (f3.mono.trans (f4.mono.trans (f5.mono.tr f6))));have P:0<=c.i 14/\0<=c.i 15/\0<=c.i 16/\0<=c.i 17/\0<=c.i 18:=by
  rw[f6.i 14,f5.i 14,f4.i 14,f3.i 14,f2.i 14,f6.i 15,f5.i 15,f4.i 15,f3.i 15,f6.i 16,f5.i 16,f4.i 16,f6.i 17,f5.i 17,f6.i 18];exact⟨p1,p2,p3,p4,p5⟩
 obtain⟨o,q,s,u,y⟩:=P;intro hd;refine⟨[],[0,1,2,3,4,5],rfl,zzK,(c.i 14).toNat,(c.i 15).toNat,(c.i 16).toNat,(c.i 17).toNat,(c.i 18).toNat,(c.i 19).toNat,?_,?_⟩
 .show Value.tuple #[.int .i64 0,.pointer (au (c.i 14) 0),.pointer (au (c.i 15) 0),.pointer (au (c.i 16) 0),.pointer (au (c.i 17) 0),.func (.func 180) #[] #[.pointer (au (c.i 18) 0),.pointer (au (c.i 19) 0)]]=_;rw[rY o,rY q,rY s,rY u,rY y,rY p6]
 .have V:c.i 0=x/\c.i 1=cv 0/\c.i 2=cv 1/\c.i 3=cv 2/\c.i 4=cv 3/\c.i 5=cv 4/\c.i 6=cv 5/\c.b 7=all/\c.i 8=p.1/\c.i 9=p.2/\c.i 10=ul/\c.i 11=uc/\c.i 12=most:=by
   rw[A.i 0,A.i 1,A.i 2,A.i 3,A.i 4,A.i 5,A.i 6,A.b 7,A.i 8,A.i 9,A.i 10,A.i 11,A.i 12,<-j];exact⟨rfl,rfl,rfl,rfl,rfl,rfl,rfl,rfl,rfl,rfl,rfl,rfl,rfl⟩
  obtain⟨v0,v1,v2,z,v4,B,v6,v7,C,D,v10,v11,k⟩:=V;have d:=Xu (by intro r hr;simp at hr;rcases hr with rfl | rfl | rfl | rfl | rfl | rfl<;>rfl) hd;refine⟨(AN d (i:=1) rfl (Hl.aK _ _)).trans ?_,(AN d (i:=2) rfl (Hl.aK _ _)).trans ?_,(AN d (i:=3) rfl (Hl.aK _ _)).trans ?_,(AN d (i:=4) rfl (Hl.aK _ _)).trans ?_,(AN d (i:=5) rfl (Hl.aK _ _)).trans ?_,Ez (d 1 3 _ _ az rfl rfl),Ez (d 2 3 _ _ az rfl rfl),Ez (d 4 3 _ _ az rfl rfl),Ez (d 5 3 _ _ az rfl rfl)⟩
  .show some (Obj.cells #[.bool (c.b 7),.slice (au (c.i 8) (c.i 9)) (c.i 10).toNat (c.i 11).toNat] 43 (0,0))=_;rw[v7,C,D,v10,v11,aac,aac]
  .show some (Obj.cells #[.int .i64 (c.i 12)] 3 (0,0))=_;rw[k]
  .rfl
  .show some (Obj.cells #[.pointer (au (c.i 0) 0)] 80 (0,0))=_;rw[v0,jB]
  .show some (Obj.cells #[.int .u64 (c.i 1),.int .u64 (c.i 2),.int .u64 (c.i 3),.int .u64 (c.i 4),.int .u64 (c.i 5),.int .u64 (c.i 6)] 41 (0,0))=_;rw[v1,v2,z,v4,B,v6]
set_option maxRecDepth 20000 in
def aau {b9:Nat} (aG:aR row oj) (hsz:a.tmps.size=31) (c:a.defers=[]) (j:a.tmps[6]?=some (pN b6)) (l:a.tmps[7]?=some (pN b7)) (m:a.tmps[9]?=some (pN b9)) (d:a.tmps[14]?=some (.agg row.toArray)) :
 yY (FW ro) dn Tryz.prog (fun e a' w'=>e=.normal/\a'.tmps.size=31/\a'.defers=[]/\∃ b10 F,a'.tmps[6]?=some (pN b6)/\a'.tmps[7]?=some (pN b7)/\a'.tmps[9]?=some (pN b9)/\a'.tmps[10]?=some (pN b10)/\fq w w' [] [] F/\F=Hl.one b10 (.cells row.toArray 40 (0,0))) g3.cs a w:=by
 obtain⟨q,eq,hn,b,p,r⟩:=IG 100 (fun k=>([(b6:Int),b7,b9]:List Int).getD k 0) (fun _=>false) [] (ks:=fI) aG;refine iL ?_ (fz.sound (Γ:=[]) aC g3 (Or.inl rfl) (Hs:=[]) (Rs:=[]) (J:=q) (inv:=fun _ _=>True) (mu:=fun _ _=>0)
  (R:=fun v _ F=>∃ b10:Nat,v=.tuple #[.int .i64 0,pN b6,pN b7,pN b9,pN b10]/\F=Hl.one b10 (.cells row.toArray 40 (0,0)))
  aC aC aC ⟨by simp [g3],by simp [g3],.nil,by simp [g3]⟩ hsz c ?_ (fun _ h=>(nomatch h)) ?_)
 .rintro e a' w' ⟨t,vs,Hs',F,rfl,hs',f,hm,hT,b10,hv,hS⟩;have e0:Hs'=[]:=aa1.1 hT.len;subst e0;simp only[Value.tuple.injEq,acp,aae,Value.int.injEq,acu]at hv;obtain⟨g,rfl⟩:=hv;obtain rfl:t=.norm:=kY g;have hm:[a'.tmps[6]?,a'.tmps[7]?,a'.tmps[9]?,a'.tmps[10]?]=_:=hm;simp only[abW,acI,aae,abw]at hm;exact⟨rfl,hs'.trans hsz,f,b10,F,hm.1,hm.2.1,hm.2.2.1,hm.2.2.2,hT,hS⟩
 .intro t v g;have:=uT g;simp only[aaW,abd,acs,acx]at this;rcases this with ⟨rfl,rfl⟩ | ⟨rfl,rfl⟩ | ⟨rfl,rfl⟩ | ⟨rfl,rfl⟩
  .exact j.trans (by show _=some (Value.pointer (au (q.i 0) 0));rw[b 0 ah];exact ach some (jB _).symm)
  .exact l.trans (by show _=some (Value.pointer (au (q.i 1) 0));rw[b 1 ah];exact ach some (jB _).symm)
  .exact m.trans (by show _=some (Value.pointer (au (q.i 2) 0));rw[b 2 ah];exact ach some (jB _).symm)
  .exact d.trans (by show _=some (Value.agg ((aj 100 fI).map (CV.ev q)).toArray);rw[eq])
 refine fz.read [fI] [] [] ?_;simp only[go_sem,Nat.reduceAdd];intro q1 f1 p1 _;refine⟨[],[0],rfl,zzK,(q1.i 240).toNat,?_,?_⟩
 .show Value.tuple #[.int .i64 0,.pointer (au (q1.i 0) 0),.pointer (au (q1.i 1) 0),.pointer (au (q1.i 2) 0),.pointer (au (q1.i 240) 0)]=_;rw[f1.i 0,f1.i 1,f1.i 2,b 0 ah,b 1 ah,b 2 ah,rY p1];show Value.tuple #[.int .i64 0,.pointer (au ((b6:Nat):Int) 0),.pointer (au ((b7:Nat):Int) 0),.pointer (au ((b9:Nat):Int) 0),_]=_;rw[jB,jB,jB]
 .show bY [Hl.one (q1.i 240).toNat (.cells ((aj 100 fI).map (CV.ev q1)).toArray 40 (0,0))]=_;have o:(aj 100 fI).map (CV.ev q1)=row:=(ach Array.toList (Value.agg.inj (fQ (ks:=fI) (n:=100) f1 az))).trans eq;rw[aJ,o]
structure DK (G KB:Hl) (a l c:Int) (rows:List (List Value)) (L:List Pc):Prop where
 a1:-1<=a
 ll:l=L.length
 c0:0<=c
 own:pF G 40 oj (.slice (au a 0) l.toNat c.toNat) rows
 rl:rows.length=L.length
 kb:KB.le G
 nk:∀ b,(Value.slice (au a 0) l.toNat c.toNat).ownBlock=some b->¬KB.mem b
 pc:∀ (j:Nat) row p,rows[j]?=some row->L[j]?=some p->cH KB KB row p
def pH (b9:Nat) (a l c:Int):Hl:=Hl.one b9 (.cells #[.slice (au a 0) l.toNat c.toNat] 51 (0,0))
def ud (F:Hl) (b9:Nat) (L:List Pc):Prop:=∃ a l c G KB rows,(pH b9 a l c).le F/\G.le F/\(pH b9 a l c).bq G/\DK G KB a l c rows L
def ud.mk {b9:Nat} {a l:Int} {rows:List (List Value)} (hd:(pH b9 a l c).bq G) (h:DK G KB a l c rows L):ud (bY [pH b9 a l c,G]) b9 L:=by
 refine⟨a,l,c,G,KB,rows,?_,?_,hd,h⟩
 .rw[km];exact Hl.aV _ _
 .rw[km];exact Hl.bg hd
def DK.pre {a l:Int} {rows:List (List Value)} (h:DK G KB a l c rows L):∃ xs,aO (G.un F) 40 126 (.slice (au a 0) l.toNat c.toNat) l.toNat xs:=by
 have:=(h.own.pre (by have:=h.ll;have:=h.rl;omega)).mono (Hl.aV G F);rw[iO]at this;exact⟨_,this⟩
def DK.app {a l a1 c1:Int} {rows:List (List Value)} (h:DK G KB a l c rows L) (hd:G.bq F) (hp:cH F F row p) (h1:-1<=a1) (q:0<=c1)
 (happ:∀ xs,aO (G.un F) 40 126 (.slice (au a 0) l.toNat c.toNat) l.toNat xs->aO H 40 126 (.slice (au a1 0) (l.toNat+1) c1.toNat) (l.toNat+1) (xs++row))
 (hk:∀ b,(G.un F).mem b->some b≠(Value.slice (au a 0) l.toNat c.toNat).ownBlock->H b=(G.un F) b)
 (hn:some a1.toNat=(Value.slice (au a 0) l.toNat c.toNat).ownBlock\/¬(G.un F).mem a1.toNat\/a1= -1):DK H (KB.un F) a1 (l+1) c1 (rows++[row]) (L++[p]):=by
 have i:=h.ll;have d:=h.rl;have f:∀ b,(Value.slice (au a 0) l.toNat c.toNat).ownBlock=some b->G.mem b:=fun b hb=>h.own.2.EC hb;have g:KB.bq F:=fun b ⟨x,y⟩=>hd b ⟨Hl.bV h.kb x,y⟩;refine⟨h1,by rw[aaA,i];simp,q,?_,by simp [d],?_,?_,?_⟩
 .refine pF.app (A:=G.un F) ⟨h.own.1,h.own.2.mono (Hl.aV G F)⟩ ah hp.ok (by rw[iO];exact happ)
 .intro b o hb;have k:some b≠(Value.slice (au a 0) l.toNat c.toNat).ownBlock:=fun e=>by
   rcases Hl.cG.1 (Hl.mem_of hb)with hm | hm
   .exact h.nk b e.symm hm
   .exact hd b ⟨f b e.symm,hm⟩
  have hg:(G.un F) b=some o:=by
   unfold Hl.un at hb;cases m:KB b with
   | some o'=>rw[m]at hb;cases hb;exact Hl.aV _ _ _ _ (h.kb _ _ m)
   | none=>rw[m]at hb;exact Hl.bg hd _ _ hb
  rw[hk b (Hl.mem_of hg) k];exact hg
 .intro b hb hm;have n:a1≠ -1:=fun e=>by rw[e,dr]at hb;cases hb
  rw[av ah]at hb;have hb:a1.toNat=b:=by simpa [Value.ownBlock] using hb
  rw[hb]at hn;rcases hn with hn | hn | hn
  .rcases Hl.cG.1 hm with hm | hm
   .exact h.nk b hn.symm hm
   .exact hd b ⟨f b hn.symm,hm⟩
  .exact hn (Hl.cG.2 ((Hl.cG.1 hm).imp (Hl.bV h.kb) id))
  .exact n hn
 .refine Od (X:=fun row p=>cH (KB.un F) (KB.un F) row p) d (fun j r s a b=>(h.pc j r s a b).mono (Hl.aV _ _) (Hl.aV _ _)) (hp.mono (Hl.bg g) (Hl.bg g))
structure BaU (U:Hl) (b6 b7:Nat) (sx sy:Int) (sl sc:Nat) (most:Int):Prop where
 c6:U.cell b6 0=some (.bool true)
 c6':U.cell b6 1=some (.slice (au sx sy) sl sc)
 c7:U.cell b7 0=some (.int .i64 most)
def Wy:∀ t∈ZG,t.OK Tryz.prog:=fun t a=>by
 simp only[ZG,aaW,abd,acs]at a;subst a;exact XZ
open Classical in
set_option maxRecDepth 20000 in
def aav {U:Hl} {b9 b10:Nat} {a0 l:Int} {rows:List (List Value)} 
 (hU:BaU U b6 b7 sx sy sl sc most) (C:DK G KB a0 l c rows L) (hL:L.length<=1000) (hP:cH F F row p)
 (s0:U.sub w) (s1:(pH b9 a0 l c).sub w) (s2:G.sub w) (s3:(Hl.one b10 (.cells row.toArray 40 (0,0))).sub w) (s4:F.sub w)
 (d12:(pH b9 a0 l c).bq G) (d13:(pH b9 a0 l c).bq (Hl.one b10 (.cells row.toArray 40 (0,0)))) (d14:(pH b9 a0 l c).bq F) (d23:G.bq (Hl.one b10 (.cells row.toArray 40 (0,0)))) (d24:G.bq F) (d34:(Hl.one b10 (.cells row.toArray 40 (0,0))).bq F)
 (e1:(pH b9 a0 l c).bq U) (e2:G.bq U) (e3:(Hl.one b10 (.cells row.toArray 40 (0,0))).bq U) (e4:F.bq U)
 (hsz:a.tmps.size=31) (D:a.defers=[]) (Z:a.tmps[6]?=some (pN b6)) (h7:a.tmps[7]?=some (pN b7)) (h9:a.tmps[9]?=some (pN b9)) (I:a.tmps[10]?=some (pN b10)) :
 yY (FW ro) dn Tryz.prog (fun e a' w'=>∃ Hs' m,fq w w' [pH b9 a0 l c,G,Hl.one b10 (.cells row.toArray 40 (0,0)),F] Hs' m /\
  ((e=.exit 0/\min most 8<=L.length/\ud m b9 L)\/(e=.normal/\¬min most 8<=L.length/\ud m b9 (L++[p])))) g4.cs a w:=by
 obtain⟨q,eq,hn,j,eb,y⟩:=IG 100 (fun k=>if k=0 then(b6:Int)else if k=1 then b7 else if k=2 then b9 else if k=3 then b10 else if k=20 then a0 else if k=21 then l else c) (fun _=>false) [(9,U),(24,G),(25,F)] (ks:=fI) hP.ok;have m0:bo.hl q (.ro 9 [.var 0,.var 1] true)=U:=y 9;have m1:bo.hl q (.bc 2 [.sl (.var 20) (.lit 0) (.var 21) (.var 22)] 51)=pH b9 a0 l c:=by
  show Hl.one (q.i 2).toNat (.cells #[.slice (au (q.i 20) 0) (q.i 21).toNat (q.i 22).toNat] 51 (0,0))=_;rw[j 2 ah,j 20 ah,j 21 ah,j 22 ah];rfl
 have m2:bo.hl q (.hp 24 [] [.var 20] [])=G:=y 24;have m3:bo.hl q (.bc 3 (aj 100 fI) 40)=Hl.one b10 (.cells row.toArray 40 (0,0)):=by
  show Hl.one (q.i 3).toNat (.cells ((aj 100 fI).map (CV.ev q)).toArray 40 (0,0))=_;rw[eq,j 3 ah];rfl
 have T:bo.hl q (.hp 25 [] [.var 153,.var 228] [])=F:=y 25;have hE:Entry q g4.st.mem [pH b9 a0 l c,G,Hl.one b10 (.cells row.toArray 40 (0,0)),F] [U]:=by
  refine⟨?_,?_,?_,?_⟩
  .intro r hr ho;simp only[g4,aaW,abd,acs]at hr;rcases hr with rfl | rfl | rfl | rfl | rfl
   .cases ho
   .exact⟨pH b9 a0 l c,aC,by rw[m1];exact Hl.le_refl _⟩
   .exact⟨G,aC,by rw[m2];exact Hl.le_refl _⟩
   .exact⟨Hl.one b10 (.cells row.toArray 40 (0,0)),aC,by rw[m3];exact Hl.le_refl _⟩
   .exact⟨F,aC,by rw[T];exact Hl.le_refl _⟩
  .intro r hr ho;simp only[g4,aaW,abd,acs]at hr;rcases hr with rfl | rfl | rfl | rfl | rfl
   .exact⟨U,aC,by rw[m0];exact Hl.le_refl _⟩
   all_goals cases ho
  .simp only[g4,ags,aaW,abd,acs,agj,ag2,m1,m2,m3,T];exact⟨⟨fun h=>(by cases h),fun h=>(by cases h),fun h=>(by cases h),fun h=>(by cases h)⟩,⟨fun _ _=>d12,fun _ _=>d13,fun _ _=>d14⟩,⟨fun _ _=>d23,fun _ _=>d24⟩,fun _ _=>d34,fun _ h=>(nomatch h),.nil⟩
  .intro r hr;simp only[g4,aaW,abd,acs]at hr;rcases hr with rfl | rfl | rfl | rfl | rfl
   .trivial
   .show 0<=q.i 2;rw[j 2 ah];exact ad7 b9
   .trivial
   .show 0<=q.i 3;rw[j 3 ah];exact ad7 b10
   .trivial
 refine iL ?_ (fz.sound (Γ:=ZG) Wy g4 (Or.inl rfl) (Hs:=[pH b9 a0 l c,G,Hl.one b10 (.cells row.toArray 40 (0,0)),F]) (Rs:=[U]) (J:=q) (inv:=fun _ _=>True) (mu:=fun _ _=>0)
  (R:=fun v _ m=>(v=.tuple #[.int .i64 2,pN b9]/\min most 8<=L.length/\ud m b9 L)\/(v=.tuple #[.int .i64 0,pN b9]/\¬min most 8<=L.length/\ud m b9 (L++[p])))
  (by intro H o;simp only[aaW,abd,acs]at o;rcases o with rfl | rfl | rfl | rfl<;>assumption) (by intro H o;simp only[aaW,abd,acs]at o;subst o;exact s0)
  (by intro H o R W;simp only[aaW,abd,acs]at o W;subst W;rcases o with rfl | rfl | rfl | rfl<;>assumption) hE hsz D ?_ (fun _ h=>(nomatch h)) ?_)
 .rintro e a' w' ⟨t,vs,Hs',m,rfl,hs',aa,hm,hT,hc⟩;refine⟨Hs',m,hT,?_⟩;rcases hc with ⟨hv,hx,ho⟩ | ⟨hv,hx,ho⟩
  .simp only[Value.tuple.injEq,acp,aae,Value.int.injEq,acu]at hv;obtain rfl:t=.exit 0:=kY hv.1;exact Or.inl ⟨rfl,hx,ho⟩
  .simp only[Value.tuple.injEq,acp,aae,Value.int.injEq,acu]at hv;obtain rfl:t=.norm:=kY hv.1;exact Or.inr ⟨rfl,hx,ho⟩
 .intro t v ht;have:=uT ht;simp only[aaW,abd,acs,acx]at this;rcases this with ⟨rfl,rfl⟩ | ⟨rfl,rfl⟩ | ⟨rfl,rfl⟩ | ⟨rfl,rfl⟩
  .exact Z.trans (by show _=some (Value.pointer (au (q.i 0) 0));rw[j 0 ah];exact ach some (jB _).symm)
  .exact h7.trans (by show _=some (Value.pointer (au (q.i 1) 0));rw[j 1 ah];exact ach some (jB _).symm)
  .exact h9.trans (by show _=some (Value.pointer (au (q.i 2) 0));rw[j 2 ah];exact ach some (jB _).symm)
  .exact I.trans (by show _=some (Value.pointer (au (q.i 3) 0));rw[j 3 ah];exact ach some (jB _).symm)
 refine fz.read [fI,bJ] [] [] ?_;have V:∀ q':Env,ai 300 q q'->(q'.i 0=b6/\q'.i 1=b7/\q'.i 2=b9/\q'.i 20=a0/\q'.i 21=l/\q'.i 22=c)/\q'.h 9=U/\q'.h 24=G/\q'.h 25=F/\(aj 100 fI).map (CV.ev q')=row:=fun q' g=>by
  rw[g.i 0,g.i 1,g.i 2,g.i 20,g.i 21,g.i 22,g.h 9,g.h 24,g.h 25,j 0 ah,j 1 ah,j 2 ah,j 20 ah,j 21 ah,j 22 ah];exact⟨⟨rfl,rfl,rfl,rfl,rfl,rfl⟩,y 9,y 24,y 25,(ach Array.toList (Value.agg.inj (fQ (ks:=fI) (n:=100) g az))).trans eq⟩
 simp only[go_sem,Nat.reduceAdd,ZG,ad6];obtain⟨⟨v0,v1,v2,v20,K,ab⟩,w9,M,ad,er⟩:=V q (ai.refl _ _);have ae:=C.ll;have c7:U.cell ((b7:Int)).toNat (Int.toNat 0)=some (.int .i64 most):=by rw[aac];exact hU.c7
 have c6:U.cell ((b6:Int)).toNat (Int.toNat 0)=some (.bool true):=by rw[aac];exact hU.c6
 have c6':U.cell ((b6:Int)).toNat (Int.toNat 0+1)=some (.slice (au sx sy) sl sc):=by rw[aac];exact hU.c6'
 have z:(if 8<bO (some (Value.int .i64 most))then 8 else bO (some (Value.int .i64 most)))=min most 8:=by
  show(if 8<most then 8 else most)=_;split<;>omega
 have N:(aj 100 bJ).map (CV.ev q)=row.take 125:=by rw[<-er,sN]
 have O:aY q (.hB 9 (.var 0) (.lit 0) 0)=true:=by
  show yX ((q.h 9).cell (q.i 0).toNat ((Int.toNat 0)+0))=_;rw[w9,v0,acJ,c6];rfl
 rw[v0,v1,K,w9,c7,z,c6,c6',O,N,iH ⟨_,_,_,rfl⟩];refine⟨ah,ah,rfl,fun hle hd=>?_,fun af=>⟨ah,rfl,rfl,⟨sx,sy,sl,sc,_,rfl,hP.hd.ok⟩,fun q1 g1 ⟨_,p1,_⟩=>?_⟩⟩
 .refine⟨[[],[],[],[]],[1,2],rfl,zzK,Or.inl ⟨?_,ah,?_⟩⟩
  .show Value.tuple #[.int .i64 2,.pointer (au (q.i 2) 0)]=_;rw[v2,jB]
  .show ud (bY [bo.hl q (.bc 2 [.sl (.var 20) (.lit 0) (.var 21) (.var 22)] 51),q.h 24]) b9 L;rw[m1,M];exact ud.mk d12 C
 have e1:q1.b 300=true:=Value.bool.inj p1;have fin:∀ (f d:Env) (row':List Value),cH F F row' p->ai 300 q f->f.h 302=G.un F->ai 303 f d-> -1<=d.i 303->0<=d.i 304 ->
  (∀ xs,aO (f.h 302) 40 126 (.slice (au (f.i 20) 0) (f.i 21).toNat (f.i 22).toNat) (f.i 21).toNat xs->aO (d.h 303) 40 126 (.slice (au (d.i 303) 0) ((f.i 21).toNat+1) (d.i 304).toNat) ((f.i 21).toNat+1) (xs++row')) ->
  (∀ b,(f.h 302).mem b->some b≠(Value.slice (au (f.i 20) 0) (f.i 21).toNat (f.i 22).toNat).ownBlock->d.h 303 b=f.h 302 b) ->
  (some (d.i 303).toNat=(Value.slice (au (f.i 20) 0) (f.i 21).toNat (f.i 22).toNat).ownBlock\/¬(f.h 302).mem (d.i 303).toNat\/d.i 303= -1) ->
  DK (d.h 303) (KB.un F) (d.i 303) (d.i 21+1) (d.i 304) (rows++[row']) (L++[p])/\bo.hl d (.bc 2 [.sl (.var 303) (.lit 0) ((E.var 21).add (.lit 1)) (.var 304)] 51)=pH b9 (d.i 303) (d.i 21+1) (d.i 304)/\Value.pointer (au (d.i 2) 0)=pN b9:=by
  intro f d row' hr A B g4 a1 a2 happ hk hn;obtain⟨⟨_,_,u2,s,u,x⟩,_⟩:=V f A;obtain⟨⟨_,_,X,_,P,_⟩,_⟩:=V d (A.tr g4);rw[B,s,u,x]at happ hk hn;refine⟨by rw[P];exact C.app d24 hr a1 a2 happ hk hn,?_,by rw[X,jB]⟩;show Hl.one (d.i 2).toNat (.cells #[.slice (au (d.i 303) 0) (d.i 21+1).toNat (d.i 304).toNat] 51 (0,0))=_;rw[X,aac];rfl
 refine⟨fun h=>absurd e1 h,fun _ q2 g2 _ f g3 ⟨B,_⟩=>?_⟩;have Y:ai 300 q q2:=g1.tr g2;have A:ai 300 q f:=Y.tr g3;obtain⟨_,_,Q,S,_⟩:=V q2 Y;obtain⟨⟨_,_,u2,s,u,x⟩,_,_,_,er3⟩:=V f A;rw[Q,S]at B;refine⟨⟨by rw[B,s,u,x];exact C.pre,ah,by unfold maxLen;omega,ah⟩,fun d g4 ⟨a1,a2,happ,hk,_,hn⟩ hd=>?_⟩;rw[er3]at happ;obtain⟨hG,mb,ev⟩:=fin f d _ hP A B g4 a1 a2 happ hk hn;refine⟨[[],[],[],[]],[1,2],rfl,zzK,Or.inr ⟨?_,ah,?_⟩⟩
 .show Value.tuple #[.int .i64 0,.pointer (au (d.i 2) 0)]=_;rw[ev]
 .show ud (bY [bo.hl d (.bc 2 [.sl (.var 303) (.lit 0) ((E.var 21).add (.lit 1)) (.var 304)] 51),d.h 303]) b9 _;have:=hd 1 2 _ _ az rfl rfl rfl;rw[mb]at this ⊢;exact ud.mk this hG
def zx {a b c:World} (h:gX (fun _=>False) a b) (k:gX (fun _=>False) b c):gX (fun _=>False) a c :=
 ⟨k.os.trans h.os,k.tape.trans h.tape,k.output.trans h.output,acA h.size k.size,fun i hi hn=>(k.block i (afi hi h.size) hn).trans (h.block i hi hn)⟩
def AW (w:World) (o:Obj):gX (fun _=>False) w (w.alloc o):=⟨rfl,rfl,rfl,by rw[World.size_alloc];omega,fun i hi _=>Below.heap_alloc _ _ _ hi⟩
def AX {w0 W:World} (h:gX (fun _=>False) w0 W) (hr:w0.heap.size<=r) (o:Obj):gX (fun _=>False) w0 (W.putObj r o) :=
 ⟨h.os,h.tape,h.output,by rw[World.putObj_size];exact h.size,fun i hi hn=>(World.putObj_heap_other ah).trans (h.block i hi hn)⟩
def jK {a b:World} (h:H.sub a) (k:gX (fun _=>False) a b):H.sub b:=fun i o hi=>(k.block i (Hl.sub_lt h (Hl.mem_of hi)) ag3).trans (h i o hi)
def zO {W:World} (h:H.sub W) (hr:¬H.mem r) (o:Obj):H.sub (W.putObj r o):=fun i x hi=>(World.putObj_heap_other (fun e=>hr (by subst e;exact Hl.mem_of hi))).trans (h i x hi)
def Gz {w0 W W':World} (h:gX (fun _=>False) w0 W) (t:fq W W' Hs Hs' F) (hn:∀ H∈Hs,∀ b,H.mem b->w0.heap.size<=b):gX (fun _=>False) w0 W' :=
 ⟨t.os.trans h.os,t.tape.trans h.tape,t.output.trans h.output,acA h.size t.size,fun i hi hf=>(t.block i (afi hi h.size) fun H a hm=>by have:=hn H a i hm;omega).trans (h.block i hi hf)⟩
structure It (w0:World) (B:Nat) (U:Hl) (b9 m:Nat) (pre:List Pc) (W:World):Prop where
 cJ:gX (fun _=>False) w0 W
 big:B+2<=W.heap.size
 u:U.sub W
 len:pre.length<=m
 out:∃ F,F.sub W/\ud F b9 pre/\F.bq U/\∀ b,F.mem b->w0.heap.size<=b/\b≠B/\b≠B+1
section
variable {w0:World} {B:Nat} {U:Hl} {b9 m:Nat} {pre:List Pc} {W W':World}
def It.mono (h:It w0 B U b9 m pre W) (k:gX (fun _=>False) W W'):It w0 B U b9 m pre W':=by
 obtain⟨F,f1,f2,f3,f4⟩:=h.out;exact⟨zx h.cJ k,acA h.big k.size,jK h.u k,h.len,F,jK f1 k,f2,f3,f4⟩
def It.put (h:It w0 B U b9 m pre W) (hB:w0.heap.size<=B) (hU:¬U.mem (B+1)) (o:Obj):It w0 B U b9 m pre (W.putObj (B+1) o):=by
 obtain⟨F,f1,f2,f3,f4⟩:=h.out;exact⟨AX h.cJ ah o,by rw[World.putObj_size];exact h.big,zO h.u hU o,h.len,F,zO f1 (fun hm=>(f4 _ hm).2.2 rfl) o,f2,f3,f4⟩
end
def yC {B:Nat} {r:Loop} {W W':World} (h:rows B r W) (t:fq W W' Hs Hs' F) (hn:∀ H∈Hs,∀ b,H.mem b->b≠B/\b≠B+1):rows B r W' :=
 ⟨(t.block _ (acq.1 h.1).1 fun H a hm=>(hn H a _ hm).2 rfl).trans h.1,(t.block _ (acq.1 h.2).1 fun H a hm=>(hn H a _ hm).1 rfl).trans h.2⟩
def Ns {P:Program} {id p d0 d1:Nat} {o0 o1:Oper} {T:TypeId} (g0:o0.guard=none) (d:o1.guard=none) (e0:o0.op=.load T (.tmp p)) (e1:o1.op=.assign (.tmp d0)) (f0:o0.dst=some d0) (f1:o1.dst=some d1)
 {a:Act} {w:World} {b:Nat} {v:Value} {Q:Exit->Act->World->Prop} (hs0:d0<a.tmps.size) (c:a.tmps[p]?=some (pN b)) (hg:DN P T=some false) (hb:w.cell? ⟨b,0,none⟩=some v)
 (hQ:Q .normal ((a.put (some d0) v).put (some d1) v) w):(Code.region id #[o0,o1] false).wpIn Fence.wide n P Q a w:=by
 refine wpIn_region_lit (l:=[o0,o1]) (wpListIn_plain g0 fun K hK=>(XE none n P).val (v:=v) (w':=w) ?_ (hK _ _ ?_))
 .unfold execOp;rw[e0];have:a.eval (.tmp p)=.pointer (some ⟨b,0,none⟩):=by simp [Act.eval,c,pN]
  simp only[this];have e:(Instr.loadAt T (.pointer (some ⟨b,0,none⟩))).run P w=.ok v w:=qY hg hb;rw[Sem.run_bind,e];rfl
 rw[f0];refine wpListIn_plain d fun K hK=>(XE none n P).val (v:=v) (w':=w) ?_ (hK _ _ ?_)
 .unfold execOp;rw[e1];simp [Act.eval,Act.put,aci,hs0,go_sem]
 rw[f1];exact hQ
def abQ {t:Array Value} (v:Value) (h:t.size=31):(t.setIfInBounds 14 v).size=31/\(t.setIfInBounds 14 v)[6]?=t[6]?/\(t.setIfInBounds 14 v)[7]?=t[7]?/\(t.setIfInBounds 14 v)[9]?=t[9]?/\(t.setIfInBounds 14 v)[14]?=some v:=by
 refine⟨by simp [h],?_,?_,?_,?_⟩
 .simp [aci]
 .simp [aci]
 .simp [aci]
 .simp [aci,h]
def uh (h:∀ b,H.mem b->b<n) (k:∀ b,K.mem b->n<=b):H.bq K:=fun b ⟨x,y⟩=>by have:=h b x;have:=k b y;omega
def Ko {W W':World} (h:H.sub W) (t:fq W W' Hs Hs' F) (hd:∀ K∈Hs,K.bq H):H.sub W':=fun i o hi=>(t.block i (Hl.sub_lt h (Hl.mem_of hi)) fun K hK hm=>hd K hK i ⟨hm,Hl.mem_of hi⟩).trans (h i o hi)
def Pd {w0:World} {B:Nat} {U:Hl} {b9:Nat} (hU:BaU U b6 b7 sx sy sl sc most) (I:∀ b,U.mem b->b≠B/\b≠B+1) (hB:w0.heap.size<=B)
 {rc:LoopState->Option Code->Loop} {s:List Pc×Pc×List Value} {W:World} (hY:ZM (It w0 B U b9 (min most 8).toNat) st cv s W) (hR:rows B (rc .ready none) W) (J:∀ i,i<6->(st i).length<=400)
 {dn:Nat} {a:Act} (hsz:a.tmps.size=31) (V:a.defers=[]) (h6:a.tmps[6]?=some (pN b6)) (h7:a.tmps[7]?=some (pN b7)) (h9:a.tmps[9]?=some (pN b9)) (L:a.tmps[14]?=some (.agg s.2.2.toArray)) :
 (dwX Te).wpIn (FW (some (B+1))) dn Tryz.prog (Exit.then (fun a1 A=>rows B (rc .ready none) A/\(dwY Te).wpIn (FW (some (B+1))) dn Tryz.prog (ends B rc (fun W=>It w0 B U b9 (min most 8).toNat (s.1++[s.2.1]) W)
  (fun i W=>i=0/\∃ pre,pre <+: dJ st (iS cv) 401/\min most 8<=pre.length/\It w0 B U b9 (min most 8).toNat pre W)) a1 (A.putObj (B+1) (.loop (rc .busy none)))) fun _ _ _=>False) a W:=by
 obtain⟨pre,p,row⟩:=s;obtain⟨A,C,k,i,hi,t,hp,hI,hT,hP⟩:=hY;simp only at t hI hP hp L ⊢;have M:=hI.mono hT.qU;obtain⟨Fo,N,X,O,q⟩:=hI.out;obtain⟨a0,l,c,G,KB,Y,D,E,od,oG⟩:=X;have hk:k<401:=by
  have:=(aaG.1 hp).1;have:=J i hi;omega
 have f0:∀ b,C.mem b->A.heap.size<=b:=fun b hb=>(hT.fdom b hb).resolve_left aC;have Z:∀ b,C.mem b->b<W.heap.size:=fun b hb=>Hl.sub_lt hT.fsub hb;have big:=hI.big;have lo:∀ {H:Hl},H.le Fo->∀ b,H.mem b->b<A.heap.size:=fun hl b hb=>Hl.sub_lt N (Hl.bV hl hb);have uo:∀ b,U.mem b->b<A.heap.size:=fun b hb=>Hl.sub_lt hI.u hb;have w:=hT.size;have h3:yY (FW (some (B+1))) dn Tryz.prog _ [dwX Te] a W:=aau (ro:=some (B+1)) hP.ok hsz V h6 h7 h9 L;refine wpIn_mono h3 ?_;intro e a1 r h;cases e with
 | normal =>
  obtain⟨_,aa,ab,b10,F3,t6,t7,t9,t10,g,P⟩:=h;have f:∀ b,(Hl.one b10 (.cells row.toArray 40 (0,0))).mem b->W.heap.size<=b:=fun b hb=>(g.fdom b (P▸hb)).resolve_left aC;have Q:=yC hR g aC;refine⟨Q,?_⟩;have ad:rows B (rc .busy none) (r.putObj (B+1) (.loop (rc .busy none))):=wD Q;have ae:gX (fun _=>False) w0 (r.putObj (B+1) (.loop (rc .busy none))):=AX (zx M.cJ g.qU) ah _;have sW3:∀ {H:Hl},H.sub r->(∀ b,H.mem b->b≠B+1)->H.sub (r.putObj (B+1) (.loop (rc .busy none))):=fun h hn=>zO h (fun hm=>hn _ hm rfl) _;have v:Fo.sub r:=jK (jK N hT.qU) g.qU;have sU:U.sub (r.putObj (B+1) (.loop (rc .busy none))):=sW3 (jK M.u g.qU) fun b hb=>(I b hb).2;have ai:W.heap.size<=(r.putObj (B+1) (.loop (rc .busy none))).heap.size:=by rw[World.putObj_size];exact g.size
  have m:∀ H∈[pH b9 a0 l c,G,Hl.one b10 (.cells row.toArray 40 (0,0)),C],∀ b,H.mem b->w0.heap.size<=b/\b≠B/\b≠B+1:=by
   intro H F b hb;simp only[aaW,abd,acs]at F;rcases F with rfl | rfl | rfl | rfl
   .exact q b (Hl.bV D hb)
   .exact q b (Hl.bV E hb)
   .have:=f b hb;omega
   .have:=f0 b hb;omega
  have e1:(pH b9 a0 l c).bq U:=fun b ⟨x,y⟩=>O b ⟨Hl.bV D x,y⟩;have e2:G.bq U:=fun b ⟨x,y⟩=>O b ⟨Hl.bV E x,y⟩;have e3:(Hl.one b10 (.cells row.toArray 40 (0,0))).bq U:=Hl.mD (uh (n:=W.heap.size) (fun b hb=>afi (uo b hb) w) f);have e4:C.bq U:=Hl.mD (uh uo f0);have R:∀ K∈[pH b9 a0 l c,G,Hl.one b10 (.cells row.toArray 40 (0,0)),C],K.bq U:=by
   intro K hK;simp only[aaW,abd,acs]at hK;rcases hK with rfl | rfl | rfl | rfl<;>assumption
  have hlen:=hI.len;have h4:yY (FW (some (B+1))) dn Tryz.prog _ [dwY Te] a1 (r.putObj (B+1) (.loop (rc .busy none))):=aav (ro:=some (B+1)) (b10:=b10) hU oG ah hP sU
   (sW3 (Hl.Ba D v) fun b hb=>(q b (Hl.bV D hb)).2.2) (sW3 (Hl.Ba E v) fun b hb=>(q b (Hl.bV E hb)).2.2)
   (sW3 (P▸g.fsub) fun b hb=>by have:=f b hb;omega) (sW3 (jK hT.fsub g.qU) fun b hb=>by have:=f0 b hb;omega)
   od (uh (n:=W.heap.size) (fun b hb=>afi (lo D b hb) w) f) (uh (lo D) f0) (uh (n:=W.heap.size) (fun b hb=>afi (lo E b hb) w) f) (uh (lo E) f0) (Hl.mD (uh Z f))
   e1 e2 e3 e4 aa ab t6 t7 t9 t10
  refine wpIn_mono h4 ?_;intro e a2 W4 h;have fin:∀ {Hs':List Hl} {z:Hl} {pre':List Pc},fq (r.putObj (B+1) (.loop (rc .busy none))) W4 [pH b9 a0 l c,G,Hl.one b10 (.cells row.toArray 40 (0,0)),C] Hs' z->ud z b9 pre'->pre'.length<=(min most 8).toNat ->
   rows B (rc .busy none) W4/\∀ o,It w0 B U b9 (min most 8).toNat pre' (W4.putObj (B+1) o):=by
   intro Hs' z pre' d S hl;have af:=yC ad d fun H F b hb=>(m H F b hb).2;refine⟨af,fun o=>It.put ⟨Gz ae d fun H F b hb=>(m H F b hb).1,by have:=d.size;omega,Ko sU d R,hl,z,d.fsub,S,fun b ⟨x,y⟩=>?_,fun b hb=>?_⟩ hB (fun hm=>(I _ hm).2 rfl) o⟩
   .rcases d.fdom b x with ⟨K,hK,hm⟩ | ag
    .exact R K hK b ⟨hm,y⟩
    .have:=Hl.sub_lt sU y;omega
   .rcases d.fdom b hb with ⟨K,hK,hm⟩ | ag
    .exact m K hK b hm
    .omega
  cases e with
  | normal =>
   obtain⟨Hs',z,d,T⟩:=h;rcases T with ⟨he,_⟩ | ⟨_,aj,S⟩
   .cases he
   .obtain⟨hr,hz⟩:=fin (pre':=pre++[p]) d S (by rw[aaA,acB];omega);exact⟨hr,hz _⟩
  | exit j =>
   obtain⟨Hs',z,d,T⟩:=h;rcases T with ⟨he,hle,S⟩ | ⟨he,_⟩
   .obtain rfl:j=0:=by cases he;rfl
    obtain⟨hr,hz⟩:=fin (pre':=pre) d S hlen;exact⟨hr,rfl,pre,by rw[t];exact Co ah hk,hle,hz _⟩
   .cases he
  | _ =>
   obtain⟨Hs',z,d,T⟩:=h;rcases T with ⟨he,_⟩ | ⟨he,_⟩<;>cases he
 | _=>exact absurd h.1 aC
noncomputable def ue:Sx.Spec where
 fn:=106
 own:=[]
 rd:=[0]
 res:=[.one .sl]
 pre:=fun xs Hs Rs=>∃ (x:Nat) (R:Hl) (st:Nat->List Pc) (cv:Nat->Int) (ux uy:Int) (ul uc:Nat) (most:Int),xs=[.pointer (some ⟨x,0,none⟩),KU cv,.agg #[.bool true,.slice (au ux uy) ul uc],.int .i64 most]/\Rs=[R]/\oy R x st/\lL st/\Good st/\(∀ i,i<6->(st i).length<=400)/\∀ i,i<6->0<=cv i/\cv i<18446744073709551616
 post:=fun xs Hs Rs v Hs' F=>∀ (x:Nat) (R:Hl) (st:Nat->List Pc) (cv:Nat->Int) (u:Value) (most:Int),xs=[.pointer (some ⟨x,0,none⟩),KU cv,u,.int .i64 most]->Rs=[R]->oy R x st->js F F v (mz st cv most)
def O0 (a b c d:Value) (r:Array Value):((#[a,b,c,d]:Array Value)++r)[0]?=some a/\((#[a,b,c,d]:Array Value)++r)[1]?=some b/\((#[a,b,c,d]:Array Value)++r)[2]?=some c/\((#[a,b,c,d]:Array Value)++r)[3]?=some d/\((#[a,b,c,d]:Array Value)++r).size=4+r.size:=by
 obtain⟨r⟩:=r;refine⟨aC,aC,aC,aC,by simp;omega⟩
def ud.rows {b9:Nat} (h:ud F b9 L):∃ a l c:Int,F.cell b9 0=some (.slice (au a 0) l.toNat c.toNat)/\ -1<=a/\0<=l/\0<=c/\js F F (.slice (au a 0) l.toNat c.toNat) L:=by
 obtain⟨a,l,c,G,KB,rows,h1,d,_,o⟩:=h;refine⟨a,l,c,?_,o.a1,by have:=o.ll;omega,o.c0,rows,gb o.own.rd d,o.rl,fun j row p a b=>(o.pc j row p a b).mono (fun k x hx=>d k x (o.kb k x hx)) (fun k x hx=>d k x (o.kb k x hx))⟩;unfold Hl.cell;rw[h1 b9 _ (Hl.aK _ _)];rfl
def Sn {cur:Nat->Nat} {m:Nat} (h:gh st cur k 6=[]) (hl:(dJ st cur k).length<=m) (a:∀ i,i<6->(st i).length<=400):(dJ st cur 401).take m=dJ st cur k:=by
 have e:dJ st cur 401=dJ st cur k:=by
  rcases Nat.le_total k 401 with hk | hk
  .exact yI h hk
  .rw[Dt a (m:=401) ah,Dt a (m:=k) ah]
 rw[e,aeo hl]
def WC {U:Hl} {b9 b1 b2:Nat} (hS:BaS F b6 b7 b9 b1 b2 x cv true (.slice (au ux uy) ul uc) most) (c:(F.minus (Hl.one b9 (.cells #[.slice none 0 0] 51 (0,0)))).le U) (d:R.le U)
 (hI:oy R x st) (hs:lL st) (hg:Good st) (a:∀ i,i<6->0<=cv i/\cv i<18446744073709551616):BhR U b1 b2 x st cv/\BaU U b6 b7 ux uy ul uc most:=by
 have at':∀ {b:Nat} {o:Obj},b≠b9->F b=some o->U b=some o:=fun {b o} hb ho=>c b o (by
  unfold Hl.minus;exact(aa8 (fun h=>hb (Hl.cn.1 h))).trans ho)
 have cell:∀ {b:Nat} {cs:Array Value} {t:TypeId} {f:Nat×Nat} (j:Nat),b≠b9->F b=some (.cells cs t f)->U.cell b j=cs[j]?:=fun {b cs t f} j hb ho=>by unfold Hl.cell;rw[at' hb ho]
 refine⟨⟨(cell 0 hS.n1 hS.w1).trans rfl,fun i hi=>(cell i hS.n2 hS.w2).trans ?_,a,hI.mono d,hs,hg⟩,⟨(cell 0 hS.n6 hS.w6).trans rfl,(cell 1 hS.n6 hS.w6).trans rfl,(cell 0 hS.n7 hS.w7).trans rfl⟩⟩;have:i=0\/i=1\/i=2\/i=3\/i=4\/i=5:=ah;rcases this with rfl | rfl | rfl | rfl | rfl | rfl<;>rfl
def MJ:ue.OK Tryz.prog:=by
 intro w xs Hs Rs S ak al V an ao C;obtain⟨x,R,st,cv,ux,uy,ul,uc,most,rfl,rfl,hI,X,aa,hlen,ab⟩:=C;have e0:Hs=[]:=aa1.1 S;subst e0;have sR:R.sub w:=V R aC;have hf:Tryz.prog.funcs[106]?=some Tryz.f106:=by kernel_rfl
 have hb:Tryz.f106.body=some Pb:=by kernel_rfl
 have ad:Tryz.f106.ntmps=31:=by kernel_rfl
 have ae:Tryz.f106.results=#[.tmp 8]:=by kernel_rfl
 have z:Pb=.seq (mi Pb) (.seq (mi (iB Pb)) (.seq (.seq (mi (mi (iB (iB Pb)))) (.block 0 (.rangeFunc (.tmp 13) #[14] (dwX Te) (dwY Te)))) (.seq (mi (iB (iB (iB Pb)))) .ret))):=by kernel_rfl
 refine callsIn_wide.1 (callsIn_of_wp_marks (n:=5) hf hb trivial ?_ rfl);rw[ad,z];obtain⟨n0,n1,n2,n3,n4⟩:=O0 (.pointer (some ⟨x,0,none⟩)) (KU cv) (.agg #[.bool true,.slice (au ux uy) ul uc]) (.int .i64 most) (Array.replicate (31-4) undef);have h0:=aat (x:=x) (cv:=cv) (all:=true) (p:=(ux,uy)) (ul:=ul) (uc:=uc) (most:=most) (a:={tmps:=(#[.pointer (some ⟨x,0,none⟩),KU cv,.agg #[.bool true,.slice (au ux uy) ul uc],.int .i64 most]:Array Value)++Array.replicate (31-4) undef,defers:=[]}) (w:=w) (dn:=5) (n4.trans (by rw[agO])) rfl n0 n1 n2 n3;refine wpIn_seq (wpIn_mono h0 ?_);intro e a1 w1 h0;cases e with
 | normal =>
  refine wpIn_seq (wpIn_mono h0 ?_);intro e a1 w1 h0;cases e with
  | normal =>
   refine wpIn_seq (wpIn_seq (wpIn_mono h0 ?_));intro e a1 w1 h0;cases e with
   | normal =>
    obtain⟨_,hsz,af,b6,b7,b9,b1,b2,F,t6,t7,t9,t13,f,hS⟩:=h0;have o9:=hS.w9;have hF:∀ b,F.mem b->w.heap.size<=b:=fun b hb=>(f.fdom b hb).resolve_left aC;have aq:=hF b9 (Hl.mem_of o9);have g:∀ H∈[R,F.minus (Hl.one b9 (.cells #[.slice none 0 0] 51 (0,0)))],H.sub w1:=by
     intro H D;simp only[aaW,abd,acs]at D;rcases D with rfl | rfl
     .exact jK sR f.qU
     .exact Hl.Ba (Hl.vV _ _) f.fsub
    have sU:=vH g;have E:=sB g (R:=R) aC;obtain⟨I,M⟩:=WC hS (sB g aC) E hI X aa ab;have nU:¬(bY [R,F.minus (Hl.one b9 (.cells #[.slice none 0 0] 51 (0,0)))]).mem b9:=fun hm=>by
     obtain⟨H,D,O⟩:=vG.1 hm;simp only[aaW,abd,acs]at D;rcases D with rfl | rfl
     .have:=Hl.sub_lt sR O;omega
     .exact Hl.C4 F (Hl.one b9 (.cells #[.slice none 0 0] 51 (0,0))) b9 ⟨Hl.cn.2 rfl,O⟩
    generalize bY [R,F.minus (Hl.one b9 (.cells #[.slice none 0 0] 51 (0,0)))]=U at sU E I M nU;have P:∀ b,U.mem b->b≠w1.heap.size/\b≠w1.heap.size+1:=fun b hb=>by have:=Hl.sub_lt sU hb;omega
    have y:∀ (pre:List Pc) (W:World) (r:Loop) (o:Obj),It w w1.heap.size U b9 (min most 8).toNat pre W->pre=mz st cv most->rows w1.heap.size r W->∀ (o:Loop) {Q},
     (∀ W' v m,fq w W' [] [] m->(∃ a l c:Int,v=.slice (au a 0) l.toNat c.toNat/\ -1<=a/\0<=l/\0<=c)->js m m v (mz st cv most)->Q (.returned v) W') ->
     (Code.seq (mi (iB (iB (iB Pb)))) .ret).wpIn Fence.wide 5 Tryz.prog (bodyPostM Fence.wide 5 Tryz.prog Tryz.f106 Q) {a1 with defers:={target:=.collected w1.heap.size,args:=#[]}::a1.defers} (W.putObj (w1.heap.size+1) (.loop o)):=by
     intro pre W r _ hI hp hr o Q hQ;have d:=hI.put f.size (fun hm=>(P _ hm).2 rfl) (.loop o);have ag:=wD (r':=o) hr;obtain⟨Fo,f1,f2,f3,f4⟩:=d.out;rw[hp]at f2;obtain⟨a,l,c,hc,ha,hl,ai,A⟩:=f2.rows;refine wpIn_seq (Ns (p:=9) (d0:=30) (d1:=8) (T:=51) (b:=b9) rfl rfl rfl rfl rfl rfl (by show 30<a1.tmps.size;omega) t9 zzK (Hl.gW f1 hc) (wpIn_ret ?_));refine⟨aC,.inl ⟨_,_,rfl,run_takeDeferred ag.2,?_⟩⟩;have kk:gX (fun _=>False) w ((W.putObj (w1.heap.size+1) (.loop o)).putObj w1.heap.size (.deferred none)):=AX d.cJ f.size _;have hs:Fo.sub ((W.putObj (w1.heap.size+1) (.loop o)).putObj w1.heap.size (.deferred none)):=zO f1 (fun hm=>(f4 _ hm).2.1 rfl) _;have hv:∀ v:Value,((({a1 with defers:={target:=.collected w1.heap.size,args:=#[]}::a1.defers} : Act).put (some 30) v).put (some 8) v).tmps[8]?=some v:=fun v=>by
      simp [Act.put,aci,hsz]
     rw[af]at hv ⊢;refine⟨_,results_tmp ae _ _ _,?_⟩;have e8:∀ (t:Array Value) (v:Value),t[8]?=some v->t.getD 8 undef=v:=fun t v h=>by
      rw[Array.getD_eq_getD_getElem?,h];rfl
     rw[e8 _ _ (hv _)];exact hQ _ _ Fo ⟨kk.os,kk.tape,kk.output,kk.size,fun b hb _=>kk.block b hb ag3,rfl,fun H h=>(nomatch h),hs,fun H h=>(nomatch h),fun b hb=>Or.inr (f4 b hb).1,fun p q H K _ h=>(by simp at h),fun H h=>(nomatch h)⟩ ⟨a,l,c,rfl,ha,hl,ai⟩ A
    have hg:a1.eval (.tmp 13)=.func (.func 180) #[] #[.pointer (some ⟨b1,0,none⟩),.pointer (some ⟨b2,0,none⟩)]:=by simp [Act.eval,t13,pN]
    have hQ:∀ (W':World) (v:Value) (m:Hl),fq w W' [] [] m->(∃ a l c:Int,v=.slice (au a 0) l.toNat c.toNat/\ -1<=a/\0<=l/\0<=c)->js m m v (mz st cv most) ->
     ∃ (J:Env) (Hs':List Hl) (F:Hl),Ending.returned v=.returned ((jO 0 ue.res).ev J)/\bR 0 ue.res J/\fq w W' [] Hs' F/\ue.post [.pointer (some ⟨x,0,none⟩),KU cv,.agg #[.bool true,.slice (au ux uy) ul uc],.int .i64 most] [] [R] ((jO 0 ue.res).ev J) Hs' F:=by
     rintro W' v m aj ⟨a,l,c,rfl,ha,hl,hc⟩ hr;refine⟨(ba fun k=>if k=0 then a else if k=2 then l else if k=3 then c else 0),[],m,rfl,⟨⟨ha,aba 0,hl,hc⟩,zzT⟩,aj,?_⟩;intro x' R' st' cv' u' B e1 e2 d;simp only[aae,abw]at e1 e2;obtain⟨ex,ec,eu,em⟩:=e1;subst e2;obtain rfl:x=x':=by simpa using ex
     obtain rfl:most=B:=by simpa using em
     rw[<-ve (fun i hi=>hI.st d hi) (KV ec)];exact hr
    have eC:∀ {o:Obj},w1.heap[b9]?=some o->(Hl.one b9 o).sub w1:=fun h i x hx=>by
     obtain⟨rfl,rfl⟩:=Hl.oh hx;exact h
    refine wpIn_block (ON (gf:=180) (lb:=#[.pointer (some ⟨b1,0,none⟩),.pointer (some ⟨b2,0,none⟩)]) (Y:=ZM (It w w1.heap.size U b9 (min most 8).toNat) st cv) (Z:=fun s W=>It w w1.heap.size U b9 (min most 8).toNat (s.1++[s.2.1]) W) (args:=fun s=>#[.agg s.2.2.toArray])
     (Done:=fun W=>∃ k,gh st (iS cv) k 6=[]/\It w w1.heap.size U b9 (min most 8).toNat (dJ st (iS cv) k) W)
     (Ix:=fun i W=>i=0/\∃ pre,pre <+: dJ st (iS cv) 401/\min most 8<=pre.length/\It w w1.heap.size U b9 (min most 8).toNat pre W) hg (fun args w=>Ao zzK args w) (fun s=>rfl) ?_ ?_ ?_ ?_)
    .intro rc;refine ML I (N:=400) hlen ah (fun pre W h=>h.u) (fun pre W W' h k=>h.mono k) ?_;have k2:=zx (AW w1 (.deferred (some []))) (AW (w1.alloc (.deferred (some []))) (.loop rc));refine⟨zx f.qU k2,by simp [World.size_alloc],jK sU k2,acP _,_,?_,ud.mk (b9:=b9) (a:= -1) (l:=0) (c:=0) (G:=Hl.none) (KB:=Hl.none) (rows:=[]) (L:=[]) (Hl.Ak _) ⟨ah,rfl,ah,pF.nil _ _ _,rfl,fun b o h=>(by cases h),fun b h=>(by cases h),fun j row p h=>by simp at h⟩,?_,?_⟩
     .rw[km,Hl.iQ];exact jK (eC (f.fsub _ _ o9)) k2
     .rw[km,Hl.iQ];exact fun b ⟨h1,h2⟩=>nU (Hl.cn.1 h1▸h2)
     .rw[km,Hl.iQ];intro b hb;have e:=Hl.cn.1 hb;have:=Hl.sub_lt f.fsub (Hl.mem_of o9);omega
    .intro rc s W hY hr;obtain⟨s1,s2,s3,s4,s5⟩:=abQ (.agg s.2.2.toArray) hsz;have ez:∀ v:Value,((#[14]:Array Tmp).zip #[v]).foldl (fun t (x:Tmp×Value)=>match x with | (p,v)=>t.setIfInBounds p v) a1.tmps=a1.tmps.setIfInBounds 14 v:=fun v=>aC;show(dwX Te).wpIn _ _ _ _ {tmps:=((#[14]:Array Tmp).zip #[Value.agg s.2.2.toArray]).foldl (fun t (x:Tmp×Value)=>match x with | (p,v)=>t.setIfInBounds p v) a1.tmps,defers:=[]} _;rw[ez];exact Pd M P f.size hY hr hlen s1 rfl (s2.trans t6) (s3.trans t7) (s4.trans t9) s5
    .rintro r r' W ⟨k,hk,d⟩ hr;refine y _ W r (.loop r') d ?_ hr r' hQ;unfold mz;rw[Sn hk d.len hlen]
    .rintro r r' i W ⟨rfl,pre,hp,hle,d⟩ hr;refine y _ W r (.loop r') d ?_ hr r' hQ;unfold mz;rw[B0 hp (by have:=d.len;omega)]
   | _=>exact absurd h0.1 aC
  | _=>exact absurd h0.1 aC
 | _=>exact absurd h0.1 aC
end Go.Proofs.YtbdikjnpbnobcaaGreatDoor
namespace Go.Proofs.YtbdikjnpbnobcaaGreatDoor
open Go Go.RowKit Go.Extern.Stop Go.Stop Go.Extern
def JU (t:Addr) (w:World):(ReflectliteValue.unpack (.iface 148 (.pointer (some t)))).run Tryz.prog w=.ok (.agg #[.pointer (some ⟨9,148,none⟩),.pointer (some ⟨w.heap.size,0,none⟩),.int .u64 150]) (w.alloc (.cells #[.pointer (some t)] 148)):=by kernel_rfl
def UK (a:Addr) (w:World):(ReflectliteValue.methodAny (ReflectliteValue.valueError "reflectlite.Value.Type" 0) (fun t _ _ _=>ReflectliteType.toType t) #[.agg #[.pointer (some ⟨9,148,none⟩),.pointer (some a),.int .u64 150]]).run Tryz.prog w=.ok (.iface 254 (.agg #[.pointer (some ⟨9,148,none⟩)])) w:=by kernel_rfl
def UH (h:Value) (w:World):(Go.method 430 254 (.agg #[h]) "Kind").run Tryz.prog w=.ok (221,h) w:=by kernel_rfl
def UE (w:World):((ReflectliteType.abiMethod fun t=>(fun a:Nat=>Value.int IntKind.u8 (a:Int)) <$>Rtype.kind t) #[.pointer (some ⟨9,148,none⟩)]).run Tryz.prog w=.ok (.int .u8 22) w:=by kernel_rfl
def UD (w:World):((ReflectliteType.abiMethod fun t=>(fun a:Nat=>Value.int IntKind.u8 (a:Int)) <$>Rtype.kind t) #[.pointer (some ⟨9,146,none⟩)]).run Tryz.prog w=.ok (.int .u8 22) w:=by kernel_rfl
def V1 (z:Sem Value) (f:TypeId->Addr->Nat->Nat->Sem Value) (v:Value):ReflectliteValue.method z f #[v]=(do match<-ReflectliteValue.parts v with | none=>z | some (t,a,fl)=>f t a fl (fl%32)):=rfl
def Hk (a:Addr) (w:World):(ReflectliteValue.parts (.agg #[.pointer (some ⟨9,148,none⟩),.pointer (some a),.int .u64 150])).run Tryz.prog w=.ok (some (148,a,150)) w:=by kernel_rfl
def Rv (a p:Addr) (W:World) (b:W.cell? a=some (.pointer (some p))):(ReflectliteValue.method (ReflectliteValue.valueError "reflectlite.Value.IsNil" 0) ReflectliteValue.isNil #[.agg #[.pointer (some ⟨9,148,none⟩),.pointer (some a),.int .u64 150]]).run Tryz.prog W=.ok (.bool false) W:=by
 rw[V1];simp only[Sem.run_bind,Hk,Result.andThen];simp [ReflectliteValue.isNil,loadVar,isAgg,underlying,Tryz.underlying148,b,Result.andThen]
def UF (h:Value) (w:World):(Go.method 430 254 (.agg #[h]) "Elem").run Tryz.prog w=.ok (236,.agg #[h]) w:=by kernel_rfl
def UG (h:Value) (w:World):(Go.method 430 254 (.agg #[h]) "Implements").run Tryz.prog w=.ok (237,.agg #[h]) w:=by kernel_rfl
def Yn (h:Value) (w:World):(Go.method 430 254 (.agg #[h]) "AssignableTo").run Tryz.prog w=.ok (234,.agg #[h]) w:=by kernel_rfl
def UB (w:World):(ReflectliteType.method ReflectliteType.elem #[.agg #[.pointer (some ⟨9,148,none⟩)]]).run Tryz.prog w=.ok (.iface 254 (.agg #[.pointer (some ⟨9,146,none⟩)])) w:=by kernel_rfl
def Ym (w:World):(ReflectliteType.relation "Implements" ReflectliteType.implements_ #[.agg #[.pointer (some ⟨9,146,none⟩)],.iface 254 (.agg #[.pointer (some ⟨9,82,none⟩)])]).run Tryz.prog w=.ok (.bool true) w:=by kernel_rfl
def UI (v:Value) (w:World):(ReflectliteType.typeOf #[.iface 146 v]).run Tryz.prog w=.ok (.iface 254 (.agg #[.pointer (some ⟨9,146,none⟩)])) w:=by kernel_rfl
def UJ (v:Value) (w:World):(ReflectliteType.typeOf #[.iface 205 v]).run Tryz.prog w=.ok (.iface 254 (.agg #[.pointer (some ⟨9,205,none⟩)])) w:=by kernel_rfl
def Yk (w:World):(ReflectliteType.relation "AssignableTo" ReflectliteType.assignableTo #[.agg #[.pointer (some ⟨9,146,none⟩)],.iface 254 (.agg #[.pointer (some ⟨9,146,none⟩)])]).run Tryz.prog w=.ok (.bool true) w:=by kernel_rfl
def Yl (w:World):(ReflectliteType.relation "AssignableTo" ReflectliteType.assignableTo #[.agg #[.pointer (some ⟨9,205,none⟩)],.iface 254 (.agg #[.pointer (some ⟨9,146,none⟩)])]).run Tryz.prog w=.ok (.bool false) w:=by kernel_rfl
def JT (e:Addr) (w:World):(ReflectliteValue.unpack (.iface 146 (.pointer (some e)))).run Tryz.prog w=.ok (.agg #[.pointer (some ⟨9,146,none⟩),.pointer (some ⟨w.heap.size,0,none⟩),.int .u64 150]) (w.alloc (.cells #[.pointer (some e)] 146)):=by kernel_rfl
def Ru (w:World):(Rtype.elem? 148).run Tryz.prog w=.ok (some 146) w:=by kernel_rfl
def aep (p:Addr) (w:World):(ReflectliteValue.mk 146 p ReflectliteValue.flagAddr).run Tryz.prog w=.ok (.agg #[.pointer (some ⟨9,146,none⟩),.pointer (some p),.int .u64 406]) w:=by kernel_rfl
def UC (a p:Addr) (W:World) (b:W.cell? a=some (.pointer (some p))):(ReflectliteValue.method (ReflectliteValue.valueError "reflectlite.Value.Elem" 0) ReflectliteValue.elem #[.agg #[.pointer (some ⟨9,148,none⟩),.pointer (some a),.int .u64 150]]).run Tryz.prog W=.ok (.agg #[.pointer (some ⟨9,146,none⟩),.pointer (some p),.int .u64 406]) W:=by
 rw[V1];simp only[Sem.run_bind,Hk,Result.andThen];simp [ReflectliteValue.elem,loadVar,isAgg,underlying,Tryz.underlying148,b,Result.andThen,Ru,aep]
def abx (v x:Value):ReflectliteValue.set #[v,x]=(do
 let (some (dst,a,fl),some (src,b,_)):=(<-ReflectliteValue.parts v,<-ReflectliteValue.parts x)
  | unsupported (.noEntry "extern/(internal/reflectlite.Value).Set.zeroValue")
 if fl/ReflectliteValue.flagAddr%2==0 then unsupported (.noEntry "extern/(internal/reflectlite.Value).Set.unaddressable")
 let val<-loadVar src b
 if<-Rtype.directlyAssignable dst src then storeVar dst a val
 else if<-Rtype.implements dst src then
  if(<-Rtype.kind src)==20 then
   match val with
   | .nilIface=>unsupported (.noEntry "extern/reflectlite: a nil value of one interface type handed on as a value of another")
   | _=>storeVar dst a val
  else storeVar dst a (.iface src val)
 else panicString ("reflectlite.Set: value of type "++(<-Rtype.spelt src)++ " is not assignable to type "++(<-Rtype.spelt dst))
 pure (.tuple #[])):=rfl
def N1 (a:Addr) (w:World):(ReflectliteValue.parts (.agg #[.pointer (some ⟨9,146,none⟩),.pointer (some a),.int .u64 406])).run Tryz.prog w=.ok (some (146,a,406)) w:=by kernel_rfl
def Rw (a:Addr) (w:World):(ReflectliteValue.parts (.agg #[.pointer (some ⟨9,146,none⟩),.pointer (some a),.int .u64 150])).run Tryz.prog w=.ok (some (146,a,150)) w:=by kernel_rfl
def Rt (w:World):(Rtype.directlyAssignable 146 146).run Tryz.prog w=.ok true w:=by kernel_rfl
def aby (a b e:Addr) (old:Value) (W:World) (hb:W.cell? b=some (.pointer (some e))) (c:W.cell? a=some old) (hf:W.frozen? a=false) :
 (ReflectliteValue.set #[.agg #[.pointer (some ⟨9,146,none⟩),.pointer (some a),.int .u64 406],.agg #[.pointer (some ⟨9,146,none⟩),.pointer (some b),.int .u64 150]]).run Tryz.prog W=.ok (.tuple #[]) (W.setCell a (.pointer (some e))):=by
 rw[abx];simp only[Sem.run_bind,N1,Rw,Result.andThen];simp [ReflectliteValue.flagAddr,loadVar,isAgg,underlying,Tryz.underlying146,hb,Result.andThen,Rt,storeVar,Value.cells,storeCells,Addr.add];rw[run_store Tryz.prog W a _ _ (by rfl)];simp [c,hf]
def Yo (v:Value) (a:TypeId) (w:World):(Instr.typeAssert (.iface 205 v) a 259 true).run Tryz.prog w=.ok (.tuple #[.nilIface,.bool false]) w:=run_typeAssert_lacksB Tryz.underlying259 (by kernel_rfl) (by kernel_rfl) v a w
def Ry (v:Value) (a:TypeId) (w:World):(Instr.typeAssert (.iface 205 v) a 262 true).run Tryz.prog w=.ok (.tuple #[.iface 205 v,.bool true]) w:=run_typeAssert_hasB Tryz.underlying262 (by kernel_rfl) v a w
def N0 (v:Value) (w:World):(Go.method 430 205 v "Unwrap").run Tryz.prog w=.ok (229,v) w:=by kernel_rfl
def JF (w:World):Calls Tryz.prog 30 #[.nilIface] w fun e w'=>e=.returned (.int .i64 0)/\Below w.heap.size w w':=by
 go_enter Tryz.func30,Tryz.ntmps30
 go_wp2
 go_ret
 exact⟨rfl,(Below.refl _ _).alloc (ab8 _) _⟩
abbrev nuA (v:Value) (w:World):World:=((w.alloc (.cells #[v] 146)).alloc (.cells #[.pointer (some ⟨w.heap.size,0,none⟩)] 148)).alloc (.cells #[.pointer (some ⟨9,148,none⟩),.pointer (some ⟨w.heap.size+1,0,none⟩),.int .u64 150] 209)
abbrev nuB (v:Value) (e:Nat) (w:World):World:=((nuA v w).alloc (.cells #[.pointer (some ⟨9,148,none⟩),.pointer (some ⟨w.heap.size+1,0,none⟩),.int .u64 150] 209)).alloc (.cells #[.iface 146 (.pointer (some ⟨e,0,none⟩))] 205)
set_option maxRecDepth 20000 in
def JE (e:Nat) (s:ByteArray) (c:Int) (w:World) (hg:w.cell? ⟨1,0,none⟩=some (.iface 254 (.agg #[.pointer (some ⟨9,82,none⟩)])))
 (he:w.heap[e]?=some (.cells #[.string s,.int .i64 c] 150 (0,0))) :
 Calls Tryz.prog 30 #[.iface 205 (.agg #[.iface 146 (.pointer (some ⟨e,0,none⟩))])] w fun ev w'=>ev=.returned (.int .i64 c)/\Below w.heap.size w w':=by
 have h1:=@run_callFunc_extern Tryz.prog 131 _ (fun args=>ReflectliteValue.unpack (args.getD 0 (.tuple #[]))) Tryz.func131 (by kernel_rfl) (by kernel_rfl) (by kernel_rfl) (by kernel_rfl);have r:=@run_callFunc_extern Tryz.prog 132 _ (ReflectliteValue.methodAny (ReflectliteValue.valueError "reflectlite.Value.Type" 0) (fun t _ _ _=>ReflectliteType.toType t)) Tryz.func132 (by kernel_rfl) (by kernel_rfl) (by kernel_rfl) (by kernel_rfl);have u:=@run_callFunc_extern Tryz.prog 133 _ (ReflectliteValue.method (ReflectliteValue.valueError "reflectlite.Value.IsNil" 0) ReflectliteValue.isNil) Tryz.func133 (by kernel_rfl) (by kernel_rfl) (by kernel_rfl) (by kernel_rfl);have v:=@run_callFunc_extern Tryz.prog 221 _ (ReflectliteType.abiMethod fun t=>do pure (.int .u8 (<-Rtype.kind t))) Tryz.func221 (by kernel_rfl) (by kernel_rfl) (by kernel_rfl) (by kernel_rfl);have x:=@run_callFunc_extern Tryz.prog 236 _ (ReflectliteType.method ReflectliteType.elem) Tryz.func236 (by kernel_rfl) (by kernel_rfl) (by kernel_rfl) (by kernel_rfl);have y:=@run_callFunc_extern Tryz.prog 237 _ (ReflectliteType.relation "Implements" ReflectliteType.implements_) Tryz.func237 (by kernel_rfl) (by kernel_rfl) (by kernel_rfl) (by kernel_rfl);have z:=@run_callFunc_extern Tryz.prog 170 _ (ReflectliteType.typeOf) Tryz.func170 (by kernel_rfl) (by kernel_rfl) (by kernel_rfl) (by kernel_rfl);have A:=@run_callFunc_extern Tryz.prog 234 _ (ReflectliteType.relation "AssignableTo" ReflectliteType.assignableTo) Tryz.func234 (by kernel_rfl) (by kernel_rfl) (by kernel_rfl) (by kernel_rfl);have B:=@run_callFunc_extern Tryz.prog 171 _ (ReflectliteValue.method (ReflectliteValue.valueError "reflectlite.Value.Elem" 0) ReflectliteValue.elem) Tryz.func171 (by kernel_rfl) (by kernel_rfl) (by kernel_rfl) (by kernel_rfl);have g:=@run_callFunc_extern Tryz.prog 172 _ (ReflectliteValue.set) Tryz.func172 (by kernel_rfl) (by kernel_rfl) (by kernel_rfl) (by kernel_rfl);have k0:=JU;have k1:=UK;have k2:=UH;have k3:=UE;have k4:=UD;have k5:=UF;have k6:=UG;have C:=Yn;have D:=UB;have E:=Ym;have i:=UI;have j:=UJ;have k:=Yk;have l:=Yl;have m:=JT;have n:=Yo;have o:=Ry;have p:=N0;have a:1<w.heap.size:=by
  rcases acN 1 w.heap.size with h | h
  .exact h
  .simp [World.cell?,agG h]at hg
 have b:e<w.heap.size:=(acq.1 he).1;have q:(nuA (.pointer none) w).cell? ⟨1,0,none⟩=some (.iface 254 (.agg #[.pointer (some ⟨9,82,none⟩)])):=by
  rw[World.cell?_alloc_lt _ _ ⟨1,0,none⟩ (by first | (simp;done) | (simp;omega)),World.cell?_alloc_lt _ _ ⟨1,0,none⟩ (by first | (simp;done) | (simp;omega)),World.cell?_alloc_lt _ _ ⟨1,0,none⟩ a];exact hg
 have n3:=Rv ⟨w.heap.size+1,0,none⟩ ⟨w.heap.size,0,none⟩ (nuA (.pointer none) w) (by rw[World.cell?_alloc_lt _ _ ⟨w.heap.size+1,0,none⟩ (by first | (simp;done) | (simp;omega)),World.cell?_alloc_at _ _ _ _ Sx.aC];rfl);have d:(nuB (.pointer none) e w).cell? ⟨w.heap.size,0,none⟩=some (.pointer none):=by
  rw[World.cell?_alloc_lt _ _ ⟨w.heap.size,0,none⟩ (by first | (simp;done) | (simp;omega)),World.cell?_alloc_lt _ _ ⟨w.heap.size,0,none⟩ (by first | (simp;done) | (simp;omega)),World.cell?_alloc_lt _ _ ⟨w.heap.size,0,none⟩ (by first | (simp;done) | (simp;omega)),World.cell?_alloc_lt _ _ ⟨w.heap.size,0,none⟩ (by first | (simp;done) | (simp;omega)),World.cell?_alloc_at _ _ _ _ Sx.aC];rfl
 have el:=UC ⟨w.heap.size+1,0,none⟩ ⟨w.heap.size,0,none⟩ (nuB (.pointer none) e w) (by
  rw[World.cell?_alloc_lt _ _ ⟨w.heap.size+1,0,none⟩ (by first | (simp;done) | (simp;omega)),World.cell?_alloc_lt _ _ ⟨w.heap.size+1,0,none⟩ (by first | (simp;done) | (simp;omega)),World.cell?_alloc_lt _ _ ⟨w.heap.size+1,0,none⟩ (by first | (simp;done) | (simp;omega)),World.cell?_alloc_at _ _ _ _ Sx.aC];rfl)
 have st:=aby ⟨w.heap.size,0,none⟩ ⟨w.heap.size+1+1+1+1+1,0,none⟩ ⟨e,0,none⟩ (.pointer none) ((nuB (.pointer none) e w).alloc (.cells #[.pointer (some ⟨e,0,none⟩)] 146))
  (by rw[World.cell?_alloc_at _ _ _ _ Sx.aC];rfl)
  (by rw[World.cell?_alloc_lt _ _ ⟨w.heap.size,0,none⟩ (by first | (simp;done) | (simp;omega))];exact d)
  (by rw[World.frozen?_alloc_old _ _ ⟨w.heap.size,0,none⟩ (by first | (simp;done) | (simp;omega)),World.frozen?_alloc_old _ _ ⟨w.heap.size,0,none⟩ (by first | (simp;done) | (simp;omega)),World.frozen?_alloc_old _ _ ⟨w.heap.size,0,none⟩ (by first | (simp;done) | (simp;omega)),World.frozen?_alloc_old _ _ ⟨w.heap.size,0,none⟩ (by first | (simp;done) | (simp;omega)),World.frozen?_alloc_old _ _ ⟨w.heap.size,0,none⟩ Sx.aC];simp)
 have f:Below w.heap.size w ((nuB (.pointer (some ⟨e,0,none⟩)) e w).alloc (.cells #[.pointer (some ⟨e,0,none⟩)] 146)):=((((((Below.refl _ _).alloc (ab8 _) _).alloc Sx.aC _).alloc (by first | (simp;done) | (simp;omega)) _).alloc (by first | (simp;done) | (simp;omega)) _).alloc (by first | (simp;done) | (simp;omega)) _).alloc (by first | (simp;done) | (simp;omega)) _;have F:((nuB (.pointer (some ⟨e,0,none⟩)) e w).alloc (.cells #[.pointer (some ⟨e,0,none⟩)] 146)).cell? ⟨e,1,none⟩=some (.int .i64 c):=by
  rw[f.cell b];simp [World.cell?,he]
 go_enter Tryz.func30,Tryz.ntmps30
 go_wp2
 refine wp_loop_rounds 2 ?_;rw[rounds_succ]
 go_wp2
 rw[rounds_succ]
 go_wp2
 go_ret
 exact⟨rfl,f⟩
end Go.Proofs.YtbdikjnpbnobcaaGreatDoor
namespace Go.Proofs.YtbdikjnpbnobcaaGreatDoor
open Go Go.Sx Go.RowKit
variable {v:Value}
def Ga:Value:=.iface 254 (.agg #[.pointer (some ⟨9,82,none⟩)])
def aa2 (b:Nat):Value:=.iface 205 (.agg #[.iface 146 (.pointer (some ⟨b,0,none⟩))])
def xV (R:Hl) (v:Value) (c:Int):Prop:=(c=0/\v=.nilIface)\/∃ (b:Nat) (s:ByteArray),v=aa2 b/\R b=some (.cells #[.string s,.int .i64 c] 150 (0,0))
def xV.det {R:Hl} {c d:Int} (h:xV R v c) (k:xV R v d):c=d:=by
 rcases h with ⟨rfl,rfl⟩ | ⟨b,s,rfl,hb⟩<;>rcases k with ⟨rfl,e⟩ | ⟨b',f,e,a⟩
 .rfl
 .cases e
 .cases e
 .simp only[aa2,Value.iface.injEq,acu,Value.agg.injEq,acp,aae,abw,Value.pointer.injEq,aa3,Addr.mk.injEq]at e;subst e;rw[hb]at a;simp at a;exact a.2
def xw:Sx.Spec where
 fn:=30
 own:=[]
 rd:=[7000150,2000001]
 res:=[.one (.int .i64)]
 pre:=fun xs Hs Rs=>∃ e R G c,xs=[e]/\Rs=[R,G]/\G.cell 1 0=some Ga/\xV R e c
 post:=fun xs Hs Rs v Hs' F=>∃ e R G,xs=[e]/\Rs=[R,G]/\∀ c,xV R e c->v=.int .i64 c
def Hl.Px {R:Hl} {w:World} (h:R.sub w) {b y:Nat} (a:R.cell b y=some v):w.cell? ⟨b,y,none⟩=some v:=by
 unfold Hl.cell at a;cases hb:R b with
 | none=>rw[hb]at a;cases a
 | some o =>
  have hw:=h _ _ hb;rw[hb]at a;cases o with
  | cells c t f=>simp only[World.cell?,hw];exact a
  | _=>simp at a
def Dj:xw.OK Tryz.prog:=by
 refine pK rfl fun w xs Rs hs ⟨e,R,G,c,e1,a,f,hN⟩=>?_;subst e1 a;refine⟨.int .i64 c,⟨⟨fun _=>c,fun _=>true,fun _=>.empty,fun _=>.tuple #[],fun _=>Hl.none⟩,rfl,zzT,zzT⟩,?_,_,_,_,rfl,rfl,fun d hd=>by rw[hN.det hd]⟩;have g:=hs R aC;have hg:=Hl.Px (hs G aC) f;rcases hN with ⟨rfl,rfl⟩ | ⟨b,s,rfl,hb⟩
 .exact JF w
 .exact JE b s c w hg (g _ _ hb)
end Go.Proofs.YtbdikjnpbnobcaaGreatDoor
namespace Go.Proofs.YtbdikjnpbnobcaaGreatDoor
open Go Go.Sx Go.Pk
variable {R R1 R2:Hl}{row:List Value}
noncomputable def iv (p:Pc):List Int:=aB (bf p.h)++aB p.b
def Qf {h:Hd} (hx:br R row h):(bf h).length<=392:=by
 unfold bf;split
 .rename_i hf;have:=vu hx hf.2.1;unfold fH;rw[aaA,bG];omega
 .exact acP _
def Q2 {n:Nat} (h:n<16384):(aF n).length<=2:=by
 unfold aF;split
 .simp
 .rw[acn];unfold aF;rw[ab9 ah];simp
def sa {b:List Int} (h:b.length<=4096):(aB b).length<=b.length+2:=by
 unfold aB;rw[aaA];have:=Q2 (n:=b.length) ah;omega
def L4 {p:Pc} (hx:cH R1 R2 row p) (hb:p.b.length<=2100):(iv p).length<=3036/\(iv p).length<=396+p.b.length:=by
 have h1:=Qf hx.hd;have a:=sa (b:=bf p.h) ah;have c:=sa (b:=p.b) ah;unfold iv;rw[aaA];omega
noncomputable def zI:Sx.Spec where
 fn:=112
 own:=[]
 rd:=[1000053,1000125]
 res:=[.one .sl,.one .any]
 pre:=fun xs Hs Rs=>∃ row T B p,xs=[.agg row.toArray]/\Rs=[T,B]/\cH T B row p/\p.b.length<=2100
 post:=fun xs Hs Rs v Hs' F=>∃ u,v=.tuple #[u,.nilIface]/\∀ row T B p,xs=[.agg row.toArray]->Rs=[T,B]->cH T B row p->fE F u (iv p)
noncomputable def rlΓ:List Sx.Spec:=[bU 116,lx,kO]
def YC:∀ t∈rlΓ,t.OK Tryz.prog:=ak qM <| ak xp <| ak mO <| bu
def aey (f:FuncId):(bU f).res=[.one .sl]:=rfl
def aez:lx.res=[]:=rfl
def aeA:kO.res=[.one .sl,.one (.int .i64)]:=rfl
def aex (n:Nat):(aL n [Cp.one .sl,Cp.one (.int .i64)]≠[])=True:=by simp [aL,Cp.roots,Ck.root]
noncomputable def UR:aD Tryz.prog rlΓ zI.fn where
 Λ:=aA
 args:=(bQ 0 [.agg Cu]).map .sv
 mem:=[.ro 132 [.var 53] false,.ro 133 [.var 128] true]
 nv:=134
set_option maxRecDepth 20000 in
def JW:zI.OK Tryz.prog:=by
 refine Spec.cM (Γ:=rlΓ) YC ?_;rintro xs Hs Rs e l ⟨row,T,B,p,rfl,rfl,hx,hlen⟩;have e0:Hs=[]:=aa1.1 e;subst e0;obtain⟨J,rfl,I,hh⟩:=lY (ks:=fI) [(132,T),(133,B)] hx.ok;have w1:J.h 132=T:=hh 132;have w2:J.h 133=B:=hh 133;refine⟨UR,J,fun _ _=>True,fun _ _=>0,rfl,aT rfl (by show [J.h 132,J.h 133]=_;rw[w1,w2]),(fun _ h=>nomatch h),?_⟩;refine aD.read [bJ] [] [] ?_;simp only[go_sem,Nat.reduceAdd,rlΓ,aey,aez,aeA,aex,Om];generalize c:(aj 0 fI).map (CV.ev J)=row at *;have m:(aj 0 bJ).map (CV.ev J)=row.take 125:=by rw[<-c,sN]
 have o:Value.slice (au (J.i 128) (J.i 129)) (J.i 130).toNat (J.i 131).toNat=row.getD 125 ou:=by rw[<-c,EI]
 have V:∀ q:Env,ai 134 J q->q.h 132=T/\q.h 133=B/\(aj 0 bJ).map (CV.ev q)=row.take 125/\Value.slice (au (q.i 128) (q.i 129)) (q.i 130).toNat (q.i 131).toNat=row.getD 125 ou:=fun q g=>by
  refine⟨by rw[g.h 132,w1],by rw[g.h 133,w2],?_,?_⟩
  .rw[<-m];exact ach Array.toList (Value.agg.inj (fQ (ks:=bJ) (n:=0) g az))
  .rw[g.i 128,g.i 129,g.i 130,g.i 131];exact o
 intro q1 K p1 q2 L p2;have F:ai 134 J q2:=K.tr L;obtain⟨M,Y,N,Z⟩:=V q2 F;rw[N,M];refine⟨⟨_,T,p.h,rfl,rfl,hx.hd⟩,fun d g3 ⟨F3,r,s,O⟩=>?_⟩;have hB:=pI hx.hd r;rw[<-s zzT]at hB;have p3:0<=d.i 135:=by rw[g3.i 135];exact p2
 have P:Hl.one (d.i 135).toNat (Obj.cells #[Value.slice (au (-1) 0) (Int.toNat 0) (Int.toNat 0),Value.bool (aY d E.ff)] 124 (0,0))=Hl.one (d.i 135).toNat (.cells #[.slice none 0 0,.bool false] 124 (0,0)):=rfl;have t:∀ q:Env,q.i 135=d.i 135->Value.pointer (au (q.i 135) 0)=.pointer (some ⟨(d.i 135).toNat,0,none⟩):=fun q h=>by rw[h,av p3];rfl
 rw[P,t d rfl];have h1:=Qf hx.hd;refine⟨⟨_,_,_,_,[],false,_,rfl,rfl,rfl,aZ.new _,hB.rd.w,aC,ah⟩,fun v g4 ⟨F4,⟨x,u',H',R',bs,lg,b2,y,f1,f2,f3,f4,f5,f6,f7⟩,_⟩=>?_⟩;simp only[aae,abw]at f1 f2 f3 f6;obtain⟨rfl,rfl⟩:=f1;subst f2 f3 f6;obtain⟨rfl,rfl⟩:=(aZ.new _).uniq f4;obtain rfl:=hB.rd.w.uniq f5;have t4:gK [] false (bf p.h)=(aB (bf p.h),false):=by unfold gK;rw[aa8 ah];rfl
 rw[t4]at f7;have f7:aZ _ _ (aB (bf p.h)) false:=f7;have Q:ai 134 J v:=F.trans (g3.mono.tr g4);obtain⟨y2,R,yr,S⟩:=V v Q;rw[t v (g4.i 135),S,R];have e:=sa (b:=bf p.h) ah;have l:=sa (b:=p.b) ah;refine⟨⟨_,_,_,_,_,false,p.b,rfl,rfl,rfl,f7,hx.body,ah,ah⟩,fun U W ⟨F5,⟨x,u',H',R',bs,lg,b2,y,k1,k2,k3,k4,k5,k6,f⟩,_⟩=>?_⟩;simp only[aae,abw]at k1 k2 k3 k6;obtain⟨rfl,rfl⟩:=k1;subst k2 k3 k6;obtain⟨rfl,rfl⟩:=f7.uniq k4;obtain rfl:=hx.body.uniq k5;have t5:gK (aB (bf p.h)) false p.b=(iv p,false):=by unfold gK;rw[aa8 ah];rfl
 rw[t5]at f;have f:aZ _ _ (iv p) false:=f;rw[t U (by rw[W.i 135,g4.i 135])];have X:(iv p).length<=16384:=by unfold iv;rw[aaA];omega
 refine⟨⟨_,_,_,false,rfl,rfl,f,ah⟩,fun G g6 ⟨F6,⟨x,R',bs,lg,u,m1,m2,m3,j,z⟩,A,a⟩=>?_⟩;simp only[aae,abw]at m1 m2;subst m1 m2;obtain⟨rfl,rfl⟩:=f.uniq m3;have t6:lj (iv p) false=(iv p,0):=by unfold lj;rw[aa8 (by simp;omega)]
 rw[t6]at j z;simp only[Value.tuple.injEq,acp,aae,Value.int.injEq,acu,abw]at j;rw[<-j.1,<-A zzT]at z;refine⟨fun _ _=>?_,fun C=>absurd j.2 C⟩;have a:=a.1;refine⟨[],[5],rfl,rfl,⟨⟨fun k=>G.i (k+144),fun _=>false,fun _=>.empty,fun _=>.nilIface,fun _=>Hl.none⟩,rfl,⟨a.1,a.2.1,a.2.2.1,a.2.2.2⟩,zzT,zzT⟩,_,rfl,fun row' T' B' x e1 H D=>?_⟩;simp only[aae,abw,Value.agg.injEq]at e1 H;have e1:=ab1 e1;obtain⟨rfl,rfl⟩:=H;subst e1;obtain rfl:=hx.uniq D;show fE (bY [G.h 144]) _ _;rw[aJ];exact z.rd.w
open Go.Proofs.YtbdikjnpbnobcaaGreatDoor.D hiding aM aA fe
def rHl (r:Nat) (ps:Value) (x:Nat):Hl:=Hl.one r (.cells #[ps,.pointer (some ⟨x,0,none⟩)] 89 (0,0))
structure S3 (H:Hl) (r:Nat) (dp ps:Value) (x:Nat) (HS HI:Hl) (S:SM) (st:Nat->List Pc):Prop where
 so:jt HS ps dp S
 ix:uZ HI x st
 d1:(rHl r ps x).bq HS
 d2:(rHl r ps x).bq HI
 d3:HS.bq HI
 hl:H=bY [rHl r ps x,HS,HI]
def fm (H:Hl) (p dp:Value) (S:SM) (st:Nat->List Pc):Prop:=∃ (r:Nat) (ps:Value) (x:Nat) (HS HI:Hl),p=.pointer (some ⟨r,0,none⟩)/\S3 H r dp ps x HS HI S st
def nL (R:Hl) (p:Value) (st:Nat->List Pc):Prop:=∃ (r:Nat) (ps:Value) (x:Nat),p=.pointer (some ⟨r,0,none⟩)/\R r=some (.cells #[ps,.pointer (some ⟨x,0,none⟩)] 89 (0,0))/\oy R x st
def vF {A B C:Hl} (h1:A.bq B) (b:A.bq C) (c:B.bq C):A.le (bY [A,B,C])/\B.le (bY [A,B,C])/\C.le (bY [A,B,C]):=by
 have hd:∀ (p q:Nat) X Y,p≠q->([A,B,C])[p]?=some X->([A,B,C])[q]?=some Y->X.bq Y:=by
  intro p q X Y a hX hY
  match p,q,hX,hY with
  | 0,0,_,_=>exact absurd rfl a
  | 0,1,hX,hY=>cases hX;cases hY;exact h1
  | 0,2,hX,hY=>cases hX;cases hY;exact b
  | 1,0,hX,hY=>cases hX;cases hY;exact Hl.mD h1
  | 1,1,_,_=>exact absurd rfl a
  | 1,2,hX,hY=>cases hX;cases hY;exact c
  | 2,0,hX,hY=>cases hX;cases hY;exact Hl.mD b
  | 2,1,hX,hY=>cases hX;cases hY;exact Hl.mD c
  | 2,2,_,_=>exact absurd rfl a
  | p+3,_,hX,_=>simp at hX
  | 0,q+3,_,hY=>simp at hY
  | 1,q+3,_,hY=>simp at hY
  | 2,q+3,_,hY=>simp at hY
 exact⟨mJ hd (i:=0) rfl,mJ hd (i:=1) rfl,mJ hd (i:=2) rfl⟩
def fm.rd {H:Hl} {p dp:Value} {S:SM} {st:Nat->List Pc} (h:fm H p dp S st):nL H p st:=by
 obtain⟨r,ps,x,HS,HI,hp,h⟩:=h;obtain⟨a,c,b⟩:=vF h.d1 h.d2 h.d3;rw[<-h.hl]at a c b;exact⟨r,ps,x,hp,a _ _ (Hl.aK _ _),h.ix.rd.mono b⟩
def BQ:Sx.Spec where
 fn:=7
 own:=[.arg 0]
 rd:=[]
 res:=[.one .ptr,.one (.int .i64)]
 links:=[0]
 pre:=fun xs Hs Rs=>∃ dp H D,xs=[dp]/\Hs=[H]/\aE H dp D/\al (pS D)/\al (jQ D)/\gr D=0/\(jI D).recs=[]
 post:=fun xs Hs Rs v Hs' F=>∃ dp H D H' a,xs=[dp]/\Hs=[H]/\aE H dp D/\Hs'=[H']/\aE H' dp D/\v=.tuple #[a,.int .i64 0]/\fm F a dp (jI D) (fun _=>[])
def roΓ:List Sx.Spec:=[xF,H6,Lk,xw]
def YG:∀ t∈roΓ,t.OK Tryz.prog:=ak Ox <| ak Sw <| ak Qs <| ak Dj <| bu
def aeB:xF.res=[.one .ptr,.one (.int .i64)]:=rfl
def aeC:H6.res=[.one .sl]:=rfl
def aeD:Lk.res=[.one .ptr]:=rfl
def BR:aD Tryz.prog roΓ BQ.fn where
 Λ:=fun p=>if PL p [28,1,1,0,1,0,0,1,1]then some ⟨0,[],[],0⟩else none
 args:=[TP (.var 0) (.lit 0)]
 mem:=[.hp 1 [] [.var 0] []]
 nv:=2
set_option maxRecDepth 4000 in
def Oa:BQ.OK Tryz.prog:=by
 refine Spec.cM (Γ:=roΓ) YG ?_;rintro xs Hs Rs C j ⟨dp,H,D,rfl,rfl,f,l,n,y,b⟩;have e1:Rs=[]:=aa1.1 j;subst e1;obtain⟨da,s,m,es,clock,d,E⟩:=id f;refine⟨BR,aM [(da:Int)] false [Hl.none,H],fun _ _=>True,fun _ _=>0,?_,⟨?_,?_,?_,?_⟩,(fun _ h=>nomatch h),?_⟩
 .show [Value.pointer (au (da:Int) 0)]=_;rw[ft,d]
 .intro r hr ho;simp [BR]at hr;subst hr;exact⟨H,aC,Hl.le_refl _⟩
 .intro r hr ho;simp [BR]at hr;subst hr;cases ho
 .simp [BR]
 .intro r hr;simp [BR]at hr;subst hr;trivial
 refine aD.read [] [] [] ?_;generalize e:aM [(da:Int)] false [Hl.none,H]=J;obtain⟨⟨v0,_⟩,_,w1,_⟩:=jn e;clear e;have F:Value.pointer (au (da:Int) 0)=dp:=by rw[ft,d]
 simp only[go_sem,Nat.reduceAdd,roΓ,aeB,aeC,aeD,Om,V3,rpi];rw[v0,w1,F];refine⟨⟨dp,H,D,rfl,rfl,f,l,n⟩,fun q1 Q ⟨R,o,p,G⟩=>?_⟩;obtain⟨S,q,hv,hS,_⟩:=Kh f o;simp only[Value.tuple.injEq,acp,aae,Value.int.injEq,acu,abw]at hv;obtain⟨rfl,hv⟩:=hv;have I:q1.i 4=0:=hv.trans y;have hS:=hS y;rw[<-p zzT]at hS;refine⟨fun t=>absurd I t,fun _=>⟨⟨_,_,dp,jI D,rfl,rfl,hS.rd,by rw[b];simp,fun r hr=>by rw[b]at hr;cases hr⟩,fun q2 K ⟨T,u,L,v⟩=>⟨rfl,fun M g3 ⟨U,⟨x,hx,hI⟩,w,N⟩=>?_⟩⟩⟩;have z:=Oy hS.rd u;rw[b]at z;have O:q2.i 7=0:=by
  obtain⟨us,ho,_⟩:=z;have hn:0<=q2.i 7:=v.1.2.2.1;rcases ho.2 with ⟨h,_⟩ | ⟨_,_,_,h,_⟩<;>(simp only[Value.slice.injEq]at h;have:=h.2.1;simp at this;omega)
 have P:M.i 7=0:=by rw[g3.i 7,O]
 rw[<-w zzT]at hI;refine⟨ah,fun h=>ah,fun _ a g4 p4 c=>?_⟩;have A:ai 9 q2 a:=g3.tr g4;have g:ai 5 q1 a:=K.tr A;have d1:(Hl.one (a.i 11).toNat (.cells #[.pointer (au (a.i 2) (a.i 3)),.pointer (au (a.i 9) (a.i 10))] 89 (0,0))).bq (a.h 3):=c 4 1 _ _ az rfl rfl rfl;have d2:(Hl.one (a.i 11).toNat (.cells #[.pointer (au (a.i 2) (a.i 3)),.pointer (au (a.i 9) (a.i 10))] 89 (0,0))).bq (a.h 9):=c 4 3 _ _ az rfl rfl rfl;have d3:(a.h 3).bq (a.h 9):=c 1 3 _ _ az rfl rfl rfl;have B:Value.pointer (au (a.i 9) (a.i 10))=.pointer (some ⟨x,0,none⟩):=by rw[g4.i 9,g4.i 10];exact hx
 rw[B]at d1 d2;refine⟨[[0]],[4,1,3],rfl,rfl,⟨(ba fun k=>if k=0 then a.i 11 else 0),rfl,⟨by show -1<=a.i 11;omega,aba 0⟩,zzT,zzT⟩,dp,H,D,_,_,rfl,rfl,f,rfl,?_,rfl,?_⟩
 .show aE (bY [a.h 2]) _ _;rw[aJ,g.h 2];exact q
 .refine⟨(a.i 11).toNat,.pointer (au (a.i 2) (a.i 3)),x,a.h 3,a.h 9,?_,?_,?_,d1,d2,d3,?_⟩
  .show Value.pointer (au (a.i 11) 0)=_;rw[av p4];rfl
  .rw[g.i 2,g.i 3,g.h 3];exact hS
  .rw[g4.h 9];exact hI
  .show bY [Hl.one (a.i 11).toNat (.cells #[.pointer (au (a.i 2) (a.i 3)),.pointer (au (a.i 9) (a.i 10))] 89 (0,0)),a.h 3,a.h 9]=_;rw[B];rfl
end Go.Proofs.YtbdikjnpbnobcaaGreatDoor
namespace Go.Proofs.YtbdikjnpbnobcaaGreatDoor
open Go Go.Sx Go.Pk
noncomputable def LR:Sx.Spec where
 fn:=52
 own:=[]
 rd:=[0]
 res:=[.one .sl]
 pre:=fun xs Hs Rs=>∃ (pr:Value) (R:Hl) (st:Nat->List Pc) (cv:Nat->Int) (ux uy:Int) (ul uc:Nat) (most:Int),xs=[pr,KU cv,.agg #[.bool true,.slice (au ux uy) ul uc],.int .i64 most]/\Rs=[R]/\nL R pr st/\lL st/\Good st/\(∀ i,i<6->(st i).length<=400)/\∀ i,i<6->0<=cv i/\cv i<18446744073709551616
 post:=fun xs Hs Rs v Hs' F=>∀ (pr:Value) (R:Hl) (st:Nat->List Pc) (cv:Nat->Int) (u:Value) (most:Int),xs=[pr,KU cv,u,.int .i64 most]->Rs=[R]->nL R pr st->js F F v (mz st cv most)
noncomputable def puΓ:List Sx.Spec:=[ue]
def Ye:∀ t∈puΓ,t.OK Tryz.prog:=fun t a=>by
 simp only[puΓ,aaW,abd,acs]at a;subst a;exact MJ
def pur:ue.res=[.one .sl]:=rfl
noncomputable def abu:aD Tryz.prog puΓ LR.fn where
 Λ:=aA
 args:=[TP (.var 0) (.lit 0),.sv (.agg (aj 1 (List.replicate 6 (.int .u64)))),.sv (.agg (aj 7 [.bool,.sl])),TI .i64 (.var 12)]
 mem:=[.ro 13 [.var 0] true]
 nv:=15
def Rl:LR.OK Tryz.prog:=by
 refine Spec.jN (Γ:=puΓ) Ye rfl ?_;rintro xs Rs ⟨pr,R,st,cv,ux,uy,ul,uc,most,rfl,rfl,j,hS,A,hlen,l⟩;obtain⟨r,ps,x,rfl,d,a⟩:=id j;refine⟨abu,aM [r,cv 0,cv 1,cv 2,cv 3,cv 4,cv 5,0,ux,uy,ul,uc,most] true [Hl.none,Hl.none,Hl.none,Hl.none,Hl.none,Hl.none,Hl.none,Hl.none,Hl.none,Hl.none,Hl.none,Hl.none,Hl.none,R],
  fun _ _=>True,fun _ _=>0,?_,aT rfl rfl,rfl,?_⟩
 .show [Value.pointer (au (r:Int) 0),KU cv,.agg #[.bool true,.slice (au ux uy) ((ul:Int)).toNat ((uc:Int)).toNat],.int .i64 most]=_;rw[av ah,aac,aac];rfl
 refine aD.read [] [] [] ?_;generalize e:aM [(r:Int),cv 0,cv 1,cv 2,cv 3,cv 4,cv 5,0,ux,uy,ul,uc,most] true [Hl.none,Hl.none,Hl.none,Hl.none,Hl.none,Hl.none,Hl.none,Hl.none,Hl.none,Hl.none,Hl.none,Hl.none,Hl.none,R]=J;have V:∀ q:Env,ai 15 J q->(q.i 0=r/\q.i 1=cv 0/\q.i 2=cv 1/\q.i 3=cv 2/\q.i 4=cv 3/\q.i 5=cv 4/\q.i 6=cv 5)/\(q.i 8=ux/\q.i 9=uy/\q.i 10=ul/\q.i 11=uc/\q.i 12=most)/\q.b 7=true/\q.h 13=R:=fun q g=>by
  rw[g.i 0,g.i 1,g.i 2,g.i 3,g.i 4,g.i 5,g.i 6,g.i 8,g.i 9,g.i 10,g.i 11,g.i 12,g.b 7,g.h 13,<-e];exact⟨⟨rfl,rfl,rfl,rfl,rfl,rfl,rfl⟩,⟨rfl,rfl,rfl,rfl,rfl⟩,rfl,rfl⟩
 clear e;simp only[go_sem,Nat.reduceAdd,puΓ,pur,Om];intro q1 B _ q2 C _;obtain⟨⟨v0,v1,v2,D,v4,E,v6⟩,⟨F,G,v10,v11,m⟩,H,w⟩:=V q2 (B.tr C);have I:R.cell ((r:Int)).toNat (Int.toNat 1)=some (.pointer (some ⟨x,0,none⟩)):=by
  rw[aac];unfold Hl.cell;rw[d];rfl
 have K:Value.agg (List.map (CV.ev q2) (aj 1 (List.replicate 6 (Ck.int .u64)))).toArray=KU cv:=by
  show Value.agg #[.int .u64 (q2.i 1),.int .u64 (q2.i 2),.int .u64 (q2.i 3),.int .u64 (q2.i 4),.int .u64 (q2.i 5),.int .u64 (q2.i 6)]=_;rw[v1,v2,D,v4,E,v6];rfl
 have L:aY q2 (.bvar 7)=true:=H;have ex:∀ {z:Nat},Value.pointer (au (r:Int) 0)=.pointer (some ⟨r,0,none⟩):=by intro z;rw[av ah];rfl
 rw[v0,w,I,jX,K,L,F,G,v10,v11,m,aac,aac];refine⟨ah,rfl,⟨x,R,st,cv,_,_,_,_,most,rfl,rfl,a,hS,A,hlen,l⟩,fun n g3 ⟨N,p3,o,n3⟩ _=>?_⟩;have v:=p3 _ _ _ _ _ _ rfl rfl a;rw[<-o zzT]at v;refine⟨[],[3],rfl,zzK,⟨(ba fun k=>n.i (17+k)),rfl,n3⟩,?_⟩;intro M R' st' cv' u' c e1 y p;simp only[aae,abw]at e1 y;obtain⟨rfl,s,O,em⟩:=e1;subst y;obtain rfl:most=c:=by simpa using em
 have es:∀ i,i<6->st i=st' i:=fun i hi=>by
  obtain⟨r',ps',x',t,f,u⟩:=p;obtain rfl:r=r':=by simpa using t
  rw[d]at f;obtain⟨rfl,rfl⟩:ps=ps'/\x=x':=by simpa using f
  exact a.st u hi
 rw[<-ve es (KV s)];show js (bY [n.h 17]) (bY [n.h 17]) _ _;rw[aJ];exact v
open Go.Proofs.YtbdikjnpbnobcaaGreatDoor.D hiding aM aA fe
variable {D:DM}{B F H K RG T U:Hl}{a b:Int}{row:List Value}{i r rt x:Nat}{st st':Nat->List Pc}{S S':SM}{dp dp' p v:Value}
structure PuR where
 e:Int
 D:DM
 S:SM
 st:Nat->List Pc
open Classical in
noncomputable def fb (D:DM) (S:SM) (st:Nat->List Pc) (c:Pc):PuR :=
 if cx st c≠0 then⟨cx st c,D,S,st⟩
 else if(dt D S [iv c]).e≠0 then⟨(dt D S [iv c]).e,(dt D S [iv c]).D,(dt D S [iv c]).S,st⟩
 else⟨0,(dt D S [iv c]).D,(dt D S [iv c]).S,fU st c⟩
set_option maxRecDepth 20000 in
def Ur (f:Nat->Int) (hs:List (Nat×Hl)) (h:aR row oj):∃ q:Env,q.i 0=a/\row=(aj 1 fI).map (CV.ev q)/\(∀ k,q.h k=xh hs k)/\(∀ k,133<=k->q.i k=f k):=by
 obtain⟨q,h0,hr,hh,_⟩:=EJ (a:=a) hs h;refine⟨⟨fun k=>if 133<=k then f k else q.i k,q.b,q.s,q.v,q.h⟩,h0,?_,hh,fun k hk=>ab9 hk⟩;trivial
def uZ.congr (h:uZ H x st) (e:∀ i,i<6->st i=st' i):uZ H x st':=by
 obtain⟨a,sv,Kc,KB,h⟩:=h;refine⟨a,sv,Kc,KB,by rw[<-PC e];exact h.bc,fun i hi=>?_,h.le,h.bq,h.nox,fun i hi=>by rw[<-e i hi];exact h.row i hi,h.kb,h.kbx,h.kbc,h.own⟩;have:=h.ch i hi;unfold pD at this ⊢
 grind
def AV (e:∀ i,i<6->st i=st' i) (p:Pc) (hi:i<6):fU st p i=fU st' p i:=by
 unfold fU;rw[qT e p];split
 .unfold pE
  grind
 grind
noncomputable def Hh (rt:Nat):Sx.Spec where
 fn:=22
 own:=[.arg 0,.link 0 0]
 rd:=[rt,1001125,2000003]
 res:=[.one (.int .i64)]
 pre:=fun xs Hs Rs=>∃ p H HD row T B RG g dp S D st c,xs=[p,.agg row.toArray]/\Hs=[H,HD]/\Rs=[T,B,RG]/\fm H p dp S st/\aE HD dp D/\cH T B row c/\c.b.length<=2100/\lL st/\(Gl RG g/\yT RG 2/\RG.cell 1 0=some Ga)/\S.bA.length<=1048576/\0<=S.LA.serial/\S.recs.length<=1000000000
 post:=fun xs Hs Rs v Hs' F=>∃ p H HD row T B RG dp S D st c H' a,xs=[p,.agg row.toArray]/\Hs=[H,HD]/\Rs=[T,B,RG]/\fm H p dp S st/\aE HD dp D/\cH T B row c/\Hs'=[H',a]/\fm H' p dp (fb D S st c).S (fb D S st c).st/\aE a dp (fb D S st c).D/\v=.int .i64 (fb D S st c).e
def Md:Nd:=(fun a i y q p a2 A h b6 a5 a4 t v B n o a0 a1 C=>(fun b c d f g j k D r s u w z E=>(fun l m x a3 F b0 b1 b2 G=>(.ext (.alloc 142) (.ext (.alloc 143) (.and (.pre x) (.ext x (.and (.imp (.eq (.var 144) i) (.and (.pre (.call 1 145 [.sv y] [] w)) (.ext (.call 1 145 [.sv y] [] w) (.and (.e (.le (.vint 149) v)) (.and (.imp (.not (.eq (.vint 149) i)) (.and (.pre F) (.ext F (.post [.bc 0 b 89,.hp 135 [] t h,.hp 136 [] n [],.hp 138 [] h [],.ro 139 q false,.ro 140 p true,.ro 141 a false,.dead,.dead,.hp 145 [] a4 []] (.sv (.one (.int .i64 (.var 150)))))))) (.imp (.eq (.vint 149) i) (.ext (.alloc 150) (.and (.pre l) (.ext l (.and (.imp (.eq (.var 151) i) (.and (.pre (.call 3 154 c u d)) (.ext (.call 3 154 c u d) (.and (.imp (.eq a5 i) (.and (.pre (.call 4 156 o [] z)) (.ext (.call 4 156 o [] z) (.post [.bc 0 b 89,.hp 151 [135] t h,.hp 154 [136] n [],.hp 152 [138] h [],.ro 139 q false,.ro 140 p true,.ro 141 a false,.dead,.dead,.hp 145 [] a4 [],.dead] (.sv (.one (.int .i64 (.var 156)))))))) (.imp (.not (.eq a5 i)) (.ext (.alloc 156) (.ext (.mki 157 146 (.one (.hptr (.var 156) i))) (.and (.e (.le (.vint 157) v)) (.ext (.mki 158 205 (.agg [.vr 157])) (.and (.pre r) (.ext r (.post [.bc 0 b 89,.hp 151 [135] t h,.hp 154 [136] n [],.hp 152 [138] h [],.ro 139 q false,.ro 140 p true,.ro 141 a false,.dead,.dead,.hp 145 [] a4 [],.dead,.dead] a0)))))))))))) (.imp (.not (.eq (.var 151) i)) (.ext (.alloc 154) (.ext (.mki 155 146 (.one (.hptr a5 i))) (.and (.e (.le (.vint 155) v)) (.ext (.mki 156 205 (.agg [.vr 155])) (.and (.e (.le (.vint 156) v)) (.and (.imp (.not (.eq (.vint 156) i)) (.and (.pre b0) (.ext b0 (.post [.bc 0 b 89,.hp 151 [135] t h,.hp 136 [] n [],.hp 152 [138] h [],.ro 139 q false,.ro 140 p true,.ro 141 a false,.dead,.dead,.hp 145 [] a4 [],.dead,.dead] (.sv (.one (.int .i64 A))))))) (.imp (.eq (.vint 156) i) (.and (.pre a3) (.ext a3 (.and (.imp (.eq A i) (.and (.pre (.call 4 159 o [] j)) (.ext (.call 4 159 o [] j) (.post [.bc 0 b 89,.hp 151 [135] t h,.hp 157 [136] n [],.hp 152 [138] h [],.ro 139 q false,.ro 140 p true,.ro 141 a false,.dead,.dead,.hp 145 [] a4 [],.dead,.dead] a0)))) (.imp (.not (.eq A i)) (.ext (.alloc 159) (.ext E (.and (.e (.le (.vint 160) v)) (.ext C (.and (.pre g) (.ext g (.post [.bc 0 b 89,.hp 151 [135] t h,.hp 157 [136] n [],.hp 152 [138] h [],.ro 139 q false,.ro 140 p true,.ro 141 a false,.dead,.dead,.hp 145 [] a4 [],.dead,.dead,.dead] a1))))))))))))))))))))))))))))) (.imp (.not (.eq (.var 144) i)) (.ext (.alloc 145) (.ext (.mki 146 146 (.one (.hptr (.var 145) i))) (.and (.e (.le (.vint 146) v)) (.ext (.mki 147 205 (.agg [.vr 146])) (.and (.e (.le (.vint 147) v)) (.and (.imp (.not (.eq (.vint 147) i)) (.and (.pre b1) (.ext b1 (.post [.bc 0 b 89,.hp 135 [] t h,.hp 136 [] n [],.hp 138 [] h [],.ro 139 q false,.ro 140 p true,.ro 141 a false,.dead,.dead,.dead] (.sv (.one (.int .i64 (.var 148)))))))) (.imp (.eq (.vint 147) i) (.and (.pre (.call 1 148 [.sv y] [] w)) (.ext (.call 1 148 [.sv y] [] w) (.and (.e (.le (.vint 152) v)) (.and (.imp (.not (.eq (.vint 152) i)) (.and (.pre b2) (.ext b2 (.post [.bc 0 b 89,.hp 135 [] t h,.hp 136 [] n [],.hp 138 [] h [],.ro 139 q false,.ro 140 p true,.ro 141 a false,.dead,.dead,.dead,.hp 148 [] B []] (.sv (.one (.int .i64 (.var 153)))))))) (.imp (.eq (.vint 152) i) (.ext (.alloc 153) (.and (.pre m) (.ext m (.and (.imp (.eq a5 i) (.and (.pre a3) (.ext a3 (.and (.imp (.eq A i) (.and (.pre (.call 4 159 o [] f)) (.ext (.call 4 159 o [] f) (.post [.bc 0 b 89,.hp 154 [135] t h,.hp 157 [136] n [],.hp 155 [138] h [],.ro 139 q false,.ro 140 p true,.ro 141 a false,.dead,.dead,.dead,.hp 148 [] B [],.dead] a0)))) (.imp (.not (.eq A i)) (.ext (.alloc 159) (.ext E (.and (.e (.le (.vint 160) v)) (.ext C (.and (.pre g) (.ext g (.post [.bc 0 b 89,.hp 154 [135] t h,.hp 157 [136] n [],.hp 155 [138] h [],.ro 139 q false,.ro 140 p true,.ro 141 a false,.dead,.dead,.dead,.hp 148 [] B [],.dead,.dead] a1)))))))))))) (.imp (.not (.eq a5 i)) (.ext (.alloc 157) (.ext (.mki 158 146 (.one (.hptr A i))) (.and (.e (.le (.vint 158) v)) (.ext (.mki 159 205 (.agg [.vr 158])) (.and (.e (.le (.vint 159) v)) (.and (.imp (.not (.eq (.vint 159) i)) (.and (.pre G) (.ext G (.post [.bc 0 b 89,.hp 154 [135] t h,.hp 136 [] n [],.hp 155 [138] h [],.ro 139 q false,.ro 140 p true,.ro 141 a false,.dead,.dead,.dead,.hp 148 [] B [],.dead,.dead] (.sv (.one (.int .i64 (.var 160)))))))) (.imp (.eq (.vint 159) i) (.and (.pre (.call 3 160 c u d)) (.ext (.call 3 160 c u d) (.and (.imp (.eq (.var 160) i) (.and (.pre (.call 4 162 o [] k)) (.ext (.call 4 162 o [] k) (.post [.bc 0 b 89,.hp 154 [135] t h,.hp 160 [136] n [],.hp 155 [138] h [],.ro 139 q false,.ro 140 p true,.ro 141 a false,.dead,.dead,.dead,.hp 148 [] B [],.dead,.dead] a1)))) (.imp (.not (.eq (.var 160) i)) (.ext (.alloc 162) (.ext (.mki 163 146 (.one (.hptr (.var 162) i))) (.and (.e (.le (.vint 163) v)) (.ext (.mki 164 205 (.agg [.vr 163])) (.and (.pre s) (.ext s (.post [.bc 0 b 89,.hp 154 [135] t h,.hp 160 [136] n [],.hp 155 [138] h [],.ro 139 q false,.ro 140 p true,.ro 141 a false,.dead,.dead,.dead,.hp 148 [] B [],.dead,.dead,.dead] (.sv (.one (.int .i64 (.var 165)))))))))))))))))))))))))))))))))))))))))))):Nd)) (.call 2 151 [.sv (.one (.hptr (.var 133) i)),.sv (.one (.sl (.var 150) i v v))] D [.bc 150 [.sl (.var 145) (.var 146) (.var 147) (.var 148)] 22,.hp 145 [] a4 [],.ro 141 a false]) (.call 2 154 [.sv (.one (.hptr (.var 133) i)),.sv (.one (.sl (.var 153) i v v))] D [.bc 153 [.sl (.var 148) (.var 149) (.var 150) (.var 151)] 22,.hp 148 [] B [],.ro 141 a false]) (.call 0 144 c [] [.hp 136 [] n [],.ro 139 q false,.ro 140 p true,.ro 141 a false]) (.call 3 157 c u d) (.call 4 150 [.sv (.one (.vr 149))] [] z) (.call 4 157 [.sv (.one (.vr 156))] [] j) (.call 4 148 [.sv (.one (.vr 147))] [] f) (.call 4 153 [.sv (.one (.vr 152))] [] f) (.call 4 160 [.sv (.one (.vr 159))] [] k)) [.hptr (.var 133) i,.hptr (.var 134) i] [.sv (.one (.hptr (.var 134) i)),.sv y] [.ro 139 q false,.ro 140 p true,.ro 141 a false] [.bc 145 [.str (.slit ⟨#[97,115,107]⟩),.int .i64 (.var 144)] 150,.ro 141 a false] (.call 4 162 [.sv (.one (.vr 161))] [] [.bc 159 [.str a2,.int .i64 A] 150,.ro 141 a false]) [.bc 154 [.str b6,.int .i64 (.var 151)] 150,.ro 141 a false] [.bc 157 [.str b6,.int .i64 a5] 150,.ro 141 a false] [.hp 135 [] t h,.hp 138 [] h []] (.call 4 159 [.sv (.one (.vr 158))] [] [.bc 156 [.str a2,.int .i64 a5] 150,.ro 141 a false]) (.call 4 165 [.sv (.one (.vr 164))] [] [.bc 162 [.str a2,.int .i64 (.var 160)] 150,.ro 141 a false]) [.hp 136 [] n []] [.ro 139 q false,.ro 140 p true] [.dead,.ro 141 a false] (.mki 160 146 (.one (.hptr (.var 159) i)))) [.lit 0,.lit 1,.lit 2,.lit 3,.lit 4,.lit 5] (.lit 0) (.agg (aj 1 Cu)) [.var 54] [.var 129] (.slit ⟨#[112,117,116]⟩) (.var 157) [.var 137] (.slit ⟨#[97,100,100]⟩) (.var 154) [.var 145] [.var 133] (.lit 1) [.var 148] [.var 134] [.sv (.one (.val .nilIface))] (.sv (.one (.int .i64 (.var 159)))) (.sv (.one (.int .i64 (.var 162)))) (.mki 161 205 (.agg [.vr 160]))
noncomputable def rpΓ:List Sx.Spec:=[AP,zI,IA,Ll,xw]
def YK:∀ t∈rpΓ,t.OK Tryz.prog:=ak Gu <| ak JW <| ak S6 <| ak Qw <| ak Dj <| bu
def aeI:zI.res=[.one .sl,.one .any]:=rfl
def aeJ:IA.res=[.one (.int .i64)]:=rfl
def aeK:Ll.res=[.one (.int .i64)]:=rfl
def aeL:xw.res=[.one (.int .i64)]:=rfl
def aeH (n:Nat):(aL n [Cp.one .sl,Cp.one .any]≠[])=True:=by simp [aL,Cp.roots,Ck.root]
def Dp:Mem:=[.bc 0 [.hptr (.var 133) (.lit 0),.hptr (.var 134) (.lit 0)] 89,.hp 135 [] [.var 133] [.var 137],.hp 136 [] [.var 134] [],.hp 138 [] [.var 137] [],.ro 139 [.var 54] false,.ro 140 [.var 129] true,.ro 141 [.lit 0,.lit 1,.lit 2,.lit 3,.lit 4,.lit 5] false]
noncomputable def LS:aD Tryz.prog rpΓ 22 where
 Λ:=aA
 args:=TP (.var 0) (.lit 0)::(bQ 1 [.agg Cu]).map .sv
 mem:=Dp
 nv:=142
set_option maxRecDepth 20000 in
def Rn (rt:Nat):(Hh rt).OK Tryz.prog:=by
 refine kX (Γ:=rpΓ) YK ?_;rintro xs Hs Rs aP aQ d ⟨p,H,HD,row,T,B,RG,g,dp,S,D,st,c,rfl,rfl,rfl,hR,hD,hx,hlen,Z,⟨an,hK,ao⟩,ax,ay,aA⟩;obtain⟨r,ps,x,HS,HI,rfl,hIn⟩:=id hR;obtain⟨a,pa,pb,sl,HA,HB,HR,rfl,_⟩:=id hIn.so;obtain⟨da,s,m,es,clock,aR,_⟩:=id hD;obtain⟨J,va,rfl,hh,hv⟩:=Ur (a:=(r:Int)) (fun k=>if k=133 then(a:Int)else if k=134 then(x:Int)else da) [(135,HS),(136,HI),(138,HD),(139,T),(140,B),(141,RG)] hx.ok;have v3:J.i 133=a:=hv 133 ah;have v4:J.i 134=x:=hv 134 ah;have v7:J.i 137=da:=hv 137 ah;have w5:J.h 135=HS:=hh 135;have w6:J.h 136=HI:=hh 136;have w8:J.h 138=HD:=hh 138;have w9:J.h 139=T:=hh 139;have w0:J.h 140=B:=hh 140;have w1:J.h 141=RG:=hh 141;have eb:Hl.one (J.i 0).toNat (.cells #[.pointer (au (J.i 133) 0),.pointer (au (J.i 134) 0)] 89 (0,0))=rHl r (.pointer (some ⟨a,0,none⟩)) x:=by
  rw[va,v3,v4,av ah,av ah];rfl
 obtain⟨l1,l2,l3⟩:=vF hIn.d1 hIn.d2 hIn.d3;rw[<-hIn.hl]at l1 l2 l3;refine⟨LS,J,fun _ _=>True,fun _ _=>0,?_,⟨?_,?_,?_,?_⟩,(fun _ h=>nomatch h),?_⟩
 .show [Value.pointer (au (J.i 0) 0),.agg ((aj 1 fI).map (CV.ev J)).toArray]=_;rw[va,av ah];rfl
 .intro q M ho;simp [LS,Dp]at M;rcases M with rfl | rfl | rfl | rfl | rfl | rfl | rfl
  .exact⟨H,aC,by show(Hl.one (J.i 0).toNat (.cells #[.pointer (au (J.i 133) 0),.pointer (au (J.i 134) 0)] 89 (0,0))).le H;grind⟩
  .exact⟨H,aC,by show(J.h 135).le H;grind⟩
  .exact⟨H,aC,by show(J.h 136).le H;grind⟩
  .exact⟨HD,aC,by show(J.h 138).le HD;rw[w8];exact Hl.le_refl _⟩
  all_goals cases ho
 .intro q M ho;simp [LS,Dp]at M;rcases M with rfl | rfl | rfl | rfl | rfl | rfl | rfl
  .cases ho
  .cases ho
  .cases ho
  .cases ho
  .exact⟨T,aC,by show(J.h 139).le T;rw[w9];exact Hl.le_refl _⟩
  .exact⟨B,aC,by show(J.h 140).le B;rw[w0];exact Hl.le_refl _⟩
  .exact⟨RG,aC,by show(J.h 141).le RG;rw[w1];exact Hl.le_refl _⟩
 .have aB:H.bq HD:=d 0 1 _ _ az rfl rfl;have P:∀ {A:Hl},A.le H->A.bq HD:=fun h b ⟨y,z⟩=>aB b ⟨Hl.bV h y,z⟩;show List.Pairwise _ Dp;simp only[Dp,ags,aaW,abd,acs,agj,ag2,bo.own,bo.hl,List.Pairwise.nil,abw,acQ,false_imp_iff,imp_true_iff,forall_const,abW,acI,CV.ev,ar,aq,false_implies,implies_true];rw[eb,w5,w6,w8];exact⟨⟨hIn.d1,hIn.d2,P l1⟩,⟨hIn.d3,P l2⟩,P l3⟩
 .intro q M;simp [LS,Dp]at M;rcases M with rfl | rfl | rfl | rfl | rfl | rfl | rfl
  .show 0<=J.i 0;grind
  all_goals trivial
 refine aD.lit (x:=Md) ?_;unfold Md;simp only[go_sem,Nat.reduceAdd,rpΓ,aaO,aeI,aeJ,aeK,aeL,aeH];generalize Q:(aj 1 fI).map (CV.ev J)=row at *;have V:∀ q:Env,ai 142 J q->(q.i 0=r/\q.i 133=a/\q.i 134=x/\q.i 137=da)/\(q.h 135=HS/\q.h 136=HI/\q.h 138=HD/\q.h 139=T/\q.h 140=B/\q.h 141=RG)/\(aj 1 Cu).map (CV.ev q)=row:=fun q g=>by
  refine⟨⟨by rw[g.i 0,va],by rw[g.i 133,v3],by rw[g.i 134,v4],by rw[g.i 137,v7]⟩,⟨by rw[g.h 135,w5],by rw[g.h 136,w6],by rw[g.h 138,w8],by rw[g.h 139,w9],by rw[g.h 140,w0],by rw[g.h 141,w1]⟩,?_⟩;rw[<-Q];exact ach Array.toList (Value.agg.inj (fQ (ks:=fI) (n:=1) g az))
 have eP:∀ n:Nat,Value.pointer (au (n:Int) 0)=.pointer (some ⟨n,0,none⟩):=fun n=>ft n;have fin:∀ (q:Env) (ks W kd:Nat) (vs vi vd:List Nat) (t:Mem) (e:E) (R:PuR),fb D S st c=R->ai 142 J q->jt (q.h ks) (.pointer (some ⟨a,0,none⟩)) dp R.S->uZ (q.h W) x R.st->aE (q.h kd) dp R.D->aw q e=R.e ->
  postOf (Hh rt) [.pointer (some ⟨r,0,none⟩),.agg row.toArray] [H,HD] [T,B,RG] q (.bc 0 [.hptr (.var 133) (.lit 0),.hptr (.var 134) (.lit 0)] 89::.hp ks vs [.var 133] [.var 137]::.hp W vi [.var 134] []::.hp kd vd [.var 137] []::t) (.sv (.one (.int .i64 e))):=by
  intro q ks W kd vs vi vd t e R aF g h1 h2 h3 h4 d;obtain⟨⟨k0,k1,k2,_⟩,_⟩:=V q g;have aa:Hl.one (q.i 0).toNat (.cells #[.pointer (au (q.i 133) 0),.pointer (au (q.i 134) 0)] 89 (0,0))=rHl r (.pointer (some ⟨a,0,none⟩)) x:=by
   rw[k0,k1,k2,eP,eP];rfl
  have d1:(Hl.one (q.i 0).toNat (.cells #[.pointer (au (q.i 133) 0),.pointer (au (q.i 134) 0)] 89 (0,0))).bq (q.h ks):=d 0 1 _ _ az rfl rfl rfl;have d2:(Hl.one (q.i 0).toNat (.cells #[.pointer (au (q.i 133) 0),.pointer (au (q.i 134) 0)] 89 (0,0))).bq (q.h W):=d 0 2 _ _ az rfl rfl rfl;have d3:(q.h ks).bq (q.h W):=d 1 2 _ _ az rfl rfl rfl;rw[aa]at d1 d2;subst aF;refine⟨[[0,1,2],[3]],[],rfl,rfl,⟨(ba fun _=>aw q e),rfl,zzT,zzT⟩,_,H,HD,row,T,B,RG,dp,S,D,st,c,_,_,rfl,rfl,rfl,hR,hD,hx,rfl,⟨r,_,x,q.h ks,q.h W,rfl,h1,h2,d1,d2,d3,?_⟩,?_,by rw[<-h4];rfl⟩
  .rw[<-aa];rfl
  .show aE (bY [q.h kd]) _ _;rw[aJ];exact h3
 have o:∀ {R:Hl} {v:Value} {n:Int},xV R v n->xw.pre [v] [] [R,RG]:=fun h=>⟨_,_,RG,_,rfl,rfl,ao,h⟩;have C:∀ {R:Hl} {v w:Value} {n:Int} {K:List Hl} {F:Hl},xV R v n->xw.post [v] [] [R,RG] w K F->w=.int .i64 n:=fun h hp=>by
  obtain⟨e,R',G',e1,e2,M⟩:=hp
  grind
 have met:∀ {v w:Value} {z n:Int} {s:ByteArray},0<=z->v=.iface 146 (.pointer (au z 0))->w=.iface 205 (.agg #[v])->xV (Hl.one z.toNat (.cells #[.string s,.int .i64 n] 150 (0,0))) w n:=fun hz e1 e2=>Or.inr ⟨_,_,by rw[e2,e1,av hz];rfl,Hl.aK _ _⟩;have ab:∀ {q:Env} {n:Nat} {T:TypeId} {v:Value},q.v n=.iface T v->aw q (.vint n)=1:=fun h=>by rw[AS,h];rfl
 intro q0 g0 p0 q1 g1 p1;have G1:ai 142 J q1:=g0.tr g1;obtain⟨⟨k0,k1,k2,k3⟩,⟨u5,u6,u8,u9,u0,u1⟩,kr⟩:=V q1 G1;rw[k2,eP,kr,u6,u9,u0,u1];refine⟨⟨x,HI,st,_,T,B,RG,c,rfl,rfl,hIn.ix.rd,Z,hx,ah,hK⟩,fun q2 g2 ⟨F2,aG,_⟩=>?_⟩;have G:q2.i 144=cx st c:=by simpa using aG _ _ _ _ _ _ _ _ rfl rfl hIn.ix.rd hx
 have G2:ai 142 J q2:=G1.tr g2;obtain⟨⟨m0,m1,m2,m3⟩,⟨n5,n6,n8,n9,n0,n1⟩,mr⟩:=V q2 G2;refine⟨fun heq=>?_,fun I=>?_⟩
 .have h0:cx st c=0:=G.symm.trans heq;rw[mr,n9,n0];refine⟨⟨_,T,B,c,rfl,rfl,hx,hlen⟩,fun q3 g3 ⟨F3,⟨u,hu,f⟩,aH,aS⟩=>?_⟩;simp only[Value.tuple.injEq,acp,aae,abw]at hu;obtain⟨rfl,hu⟩:=hu;have f:=f _ _ _ _ rfl rfl hx;rw[<-aH zzT]at f;have aI:aw q3 (.vint 149)=0:=by rw[AS,hu];rfl
  refine⟨ah,fun I=>absurd aI I,fun _ q4 g4 p4=>?_⟩;have G3:ai 142 J q3:=G2.tr g3;have G4:ai 142 J q4:=G3.tr g4;obtain⟨⟨y0,y1,y2,y3⟩,⟨z5,z6,z8,z9,z0,z1⟩,yr⟩:=V q4 G4;rw[y1,eP,z5,z8,z1,g4.i 145,g4.i 146,g4.i 147,g4.i 148,g4.h 145];have L:=xy (T:=22) p4 f;have aT:=L4 hx hlen;refine⟨⟨_,_,HS,HD,_,_,RG,g,dp,S,D,_,rfl,rfl,rfl,hIn.so,hD,L,an,aC,fun r hr=>by grind,ax,ay,aA⟩,fun j g5 ⟨F5,aL,_⟩=>?_⟩;obtain⟨ad,ae,he⟩:=O2 hIn.so hD L aL;have he:j.i 151=(dt D S [iv c]).e:=by simpa using he
  have X:ai 142 J j:=G4.tr g5;obtain⟨⟨s0,s1,s2,s3⟩,⟨t5,t6,t8,t9,t0,t1⟩,sr⟩:=V j X;refine⟨fun h5=>?_,fun h5=>?_⟩
  .rw[s2,eP,sr,t6,t9,t0,t1];refine⟨⟨x,HI,st,_,T,B,RG,c,rfl,rfl,rfl,hIn.ix,Z,hx,ah,hK⟩,fun l N ⟨F6,⟨x',H',st',row',T',B',aU,c',K',e1,e2,e3,i1,i2,e4,hv,U⟩,_⟩=>?_⟩;simp only[aae,abw,Value.pointer.injEq,aa3,Addr.mk.injEq,Value.agg.injEq]at e1 e2 e3 e4;obtain⟨rfl,e1⟩:=e1;obtain⟨rfl,rfl,rfl⟩:=e3;have e1:=ab1 e1;subst e1 e2 e4;obtain rfl:=hx.uniq i2;have af:∀ i,i<6->st i=st' i:=fun i hi=>hIn.ix.rd.st i1.rd hi;have U:uZ (l.h 154) x (fU st' c):=U;have h6:l.i 154=0:=by
    have:l.i 154=cx st' c:=by simpa using hv
    rw[this,<-qT af c,h0]
   have G6:ai 142 J l:=X.tr N;obtain⟨_,⟨_,_,_,_,_,r1⟩,_⟩:=V l G6;rw[r1];refine⟨fun _=>⟨o (Or.inl ⟨rfl,rfl⟩),fun q7 O ⟨F7,aM,_⟩=>?_⟩,fun I=>absurd h6 I⟩;have h7:q7.i 156=0:=by simpa using C (Or.inl ⟨rfl,rfl⟩) aM
   refine fin q7 151 154 152 _ _ _ _ _ ⟨0,(dt D S [iv c]).D,(dt D S [iv c]).S,fU st c⟩ ?_ (G6.tr O) ?_ ?_ ?_ h7
   .unfold fb;grind
   .rw[O.h 151,N.h 151];exact ae
   .rw[O.h 154];exact U.congr fun i hi=>(AV af c hi).symm
   .rw[O.h 152,N.h 152];exact ad
  .intro l N p6 q7 O p7;refine⟨by grind,fun Y g8 p8=>⟨by grind,fun _=>?_,fun h=>absurd ((ab p8).symm.trans h) az⟩⟩;have G8:ai 142 J Y:=X.trans (N.mono.trans (O.mono.tr g8));obtain⟨_,⟨_,_,_,_,_,r1⟩,_⟩:=V Y G8;have hm:=met (s:={data:=#[97,100,100]}) (n:=Y.i 151) p6 p7 p8;have ag:l.i 154=Y.i 154:=by rw[g8.i 154,O.i 154]
   rw[ag]at hm;have ak:q7.i 151=Y.i 151:=(g8.i 151).symm;rw[r1];refine⟨o hm,fun q9 g9 ⟨F9,aN,_⟩=>?_⟩;have h9:q9.i 157=Y.i 151:=by simpa using C hm aN
   have aV:(dt D S [iv c]).e≠0:=fun h=>h5 (he.trans h);have G9:ai 142 J q9:=G8.tr g9;have A9:ai 154 j q9:=N.trans (O.mono.trans (g8.mono.tr g9));refine fin q9 151 136 152 _ _ _ _ _ ⟨(dt D S [iv c]).e,(dt D S [iv c]).D,(dt D S [iv c]).S,st⟩ ?_ G9 ?_ ?_ ?_ ?_
   .unfold fb;grind
   .rw[A9.h 151];exact ae
   .rw[(V q9 G9).2.1.2.1];exact hIn.ix
   .rw[A9.h 152];exact ad
   .exact h9.trans (ak.symm.trans ((by rw[O.i 151,N.i 151]:q7.i 151=j.i 151).trans he))
 .have aW:cx st c≠0:=fun h=>I (G.trans h);intro q3 g3 p3 q4 g4 p4;refine⟨by grind,fun j g5 p5=>⟨by grind,fun _=>?_,fun h=>absurd ((ab p5).symm.trans h) az⟩⟩;have X:ai 142 J j:=G2.trans (g3.mono.trans (g4.mono.tr g5));obtain⟨_,⟨_,_,_,_,_,r1⟩,_⟩:=V j X;have hm:=met (s:={data:=#[97,115,107]}) (n:=j.i 144) p3 p4 p5;have al:q3.i 145=j.i 145:=by rw[g5.i 145,g4.i 145]
  rw[al]at hm;rw[r1];refine⟨o hm,fun l N ⟨F6,aO,_⟩=>?_⟩;have h6:l.i 148=j.i 144:=by simpa using C hm aO
  have G6:ai 142 J l:=X.tr N;obtain⟨_,⟨o5,o6,o8,_,_,_⟩,_⟩:=V l G6;refine fin l 135 136 138 _ _ _ _ _ ⟨cx st c,D,S,st⟩ ?_ G6 (by rw[o5];exact hIn.so) (by rw[o6];exact hIn.ix) (by grind) ?_
  .unfold fb;grind
  .exact h6.trans ((by rw[g5.i 144,g4.i 144,g3.i 144]:j.i 144=q2.i 144).trans G)
def Uv (hb:0<=b) (h:Value.pointer (au a b)=.pointer (some ⟨r,0,none⟩)):a=r/\b=0 :=
 mZ (x:=(r:Int)) (y:=0) ah (aba 0) hb ((Value.pointer.inj h).trans (by rw[av ah];rfl))
def fm.uniq (h:fm H p dp S st) (h':fm H p dp' S' st'):dp=dp'/\S=S'/\∀ i,i<6->st i=st' i:=by
 obtain⟨r,ps,x,HS,HI,hp,h⟩:=h;obtain⟨r',ps',x',j,k,c,h'⟩:=h';obtain⟨d,e,f⟩:=vF h.d1 h.d2 h.d3;rw[<-h.hl]at d e f;obtain⟨m1,m2,m3⟩:=vF h'.d1 h'.d2 h'.d3;rw[<-h'.hl]at m1 m2 m3;rw[hp]at c;obtain rfl:r=r':=by simpa using c
 have e1:=d _ _ (Hl.aK _ _);have g:=m1 _ _ (Hl.aK _ _);rw[e1]at g;obtain⟨rfl,rfl⟩:ps=ps'/\x=x':=by simpa using g
 obtain⟨a,b⟩:=(h.so.rd.mono e).uniq (h'.so.rd.mono m2);exact⟨a,b,fun i hi=>(h.ix.rd.mono f).st (h'.ix.rd.mono m3) hi⟩
def fm.congr (h:fm H p dp S st) (e:∀ i,i<6->st i=st' i):fm H p dp S st':=by
 obtain⟨r,ps,x,HS,HI,hp,h⟩:=h;exact⟨r,ps,x,HS,HI,hp,h.so,h.ix.congr e,h.d1,h.d2,h.d3,h.hl⟩
def Rm (e:∀ i,i<6->st i=st' i) (c:Pc):(fb D S st c).e=(fb D S st' c).e/\(fb D S st c).D=(fb D S st' c).D/\(fb D S st c).S=(fb D S st' c).S/\∀ i,i<6->(fb D S st c).st i=(fb D S st' c).st i:=by
 unfold fb;rw[qT e c];split
 .exact⟨rfl,rfl,rfl,e⟩
 .split
  .exact⟨rfl,rfl,rfl,e⟩
  .exact⟨rfl,rfl,rfl,fun i hi=>AV e c hi⟩
def NW {HD:Hl} {c:Pc} (g:fm H p dp S st) (j:aE HD dp D) (hx:cH T B row c) {K1 K2:Hl} (h:(Hh rt).post [p,.agg row.toArray] [H,HD] [T,B,RG] v [K1,K2] F) :
 fm K1 p dp (fb D S st c).S (fb D S st c).st/\aE K2 dp (fb D S st c).D/\v=.int .i64 (fb D S st c).e:=by
 obtain⟨m,H',k,row',n,B',l,dp',S',D',st',c',o,q,e1,b,d,r1,d1,x1,f,r2,d2,hv⟩:=h;simp only[aae,abw,Value.agg.injEq]at e1 b d f;obtain⟨rfl,e1⟩:=e1;obtain⟨rfl,rfl⟩:=b;obtain⟨rfl,rfl,rfl⟩:=d;obtain⟨rfl,rfl⟩:=f;have e1:=ab1 e1;subst e1;obtain rfl:=hx.uniq x1;obtain⟨rfl,rfl,a⟩:=g.uniq r1;obtain rfl:=j.uniq d1;obtain⟨f1,f2,f3,f4⟩:=Rm (D:=D) (S:=S) a c;rw[f1,f2,f3];exact⟨r2.congr fun i hi=>(f4 i hi).symm,d2,hv⟩
def oA.uniq (hd:U.bq T) (h:oA U T x st) (h':oA U T x st'):∀ i,i<6->st i=st' i:=by
 obtain⟨sv,KB,h⟩:=h;obtain⟨g,k,h'⟩:=h';have f:U.le (T.un U):=Hl.bg (Hl.kE hd);intro i hi;have e:=(h.sl hi).1;rw[(h'.sl hi).1]at e;have e:=acE e;obtain⟨rows,h1,q,l⟩:=h.row i hi;obtain⟨c,a,m,d⟩:=h'.row i hi;rw[e]at a;obtain rfl:=h1.rd.uniq a.rd;apply afl ah;intro j n p;have hr:rows[j]?=some rows[j]:=aad ah;exact((l j _ _ hr (aad n)).2 (T.un U) (Hl.aV _ _) fun b o hb=>f b o (h.kb b o hb)).uniq ((d j _ _ hr (aad p)).2 (T.un U) (Hl.aV _ _) fun b o hb=>f b o (h'.kb b o hb))
def oA.congr (h:oA U T x st) (e:∀ i,i<6->st i=st' i):oA U T x st':=by
 obtain⟨sv,KB,h⟩:=h;exact⟨sv,KB,⟨h.bc,fun i hi=>by rw[<-e i hi];exact h.row i hi,h.kb⟩,h.kbx,h.own,fun i hi=>by rw[<-e i hi];exact h.form i hi⟩
def oA.mono {H':Hl} (hl:H.le H') (h:oA H T x st):oA H' T x st:=by
 obtain⟨sv,KB,h⟩:=h;exact⟨sv,KB,h.mono hl⟩
def Og {p:Pc} (hd:H.bq B) (hI:oA H T x st) (hx:SQ T B row p) (h:(Tx (HK rt)).post [.pointer (some ⟨x,0,none⟩),.agg row.toArray] [H.un B] [T,RG] v [K] F) :
 v=.int .i64 (cx st p)/\oA K T x (fU st p)/\SQ T K row p:=by
 obtain⟨⟨x',H',B',row',m,k,st',n,K',e1,d,e,d1,i1,x1,f,hv,i2,hl⟩,a⟩:=h;simp only[aae,abw,Value.pointer.injEq,aa3,Addr.mk.injEq,Value.agg.injEq]at e1 d e f;obtain⟨rfl,e1⟩:=e1;obtain⟨rfl,rfl⟩:=e;have e1:=ab1 e1;subst e1 f;have b:(H.un B).bq T:=a _ aC _ aC;have g:=i1.mono (Hl.aV H' B');rw[<-d]at g;have c:=(hI.mono (Hl.aV H B)).uniq b g;have j:(H.un B).le (T.un (H.un B)):=Hl.bg (Hl.kE b);have l:=(x1.mono (Hl.bg d1)).2 (T.un (H.un B)) (Hl.aV _ _) (by rw[<-d];exact j);obtain rfl:=((hx.mono (Hl.bg hd)).2 (T.un (H.un B)) (Hl.aV _ _) j).uniq l;refine⟨by rw[qT c p];exact hv,i2.congr fun i hi=>(AV c p hi).symm,x1.mono hl.1⟩
end Go.Proofs.YtbdikjnpbnobcaaGreatDoor
namespace Go.Proofs.YtbdikjnpbnobcaaGreatDoor
open Go Go.Sx Go.Pk
variable {h:Hd}{R:Hl}{w:Int}{b l qE sum:List Int}{row:List Value}{n:Nat}
def OS (c:List Value) (w:Int) (n k:Nat):Value:=.int .u64 (if w-1=k then(n:Int)else cI c (54+k))
def om (c:List Value) (w:Int) (n:Nat) (qE:List Int):List Value:=([.int .i64 w,.int .u64 ((n:Int)+1)]++aS qE)++(c.drop 34).take 20
def uI (c:List Value) (w:Int) (n:Nat) (sum:List Int):List Value:=[OS c w n 0,OS c w n 1,OS c w n 2,OS c w n 3,OS c w n 4,OS c w n 5]++(aS sum++(.int .i64 80::(c.drop 93).take 32))
def jZ (c:List Value) (w:Int) (n:Nat) (qE sum:List Int):List Value:=om c w n qE++uI c w n sum
def jY (n:Nat) (b:List Int):List Int:=List.replicate 80 (match b with | []=>((n%256:Nat):Int) | z::_=>z)
noncomputable def ET (hs:List Hd) (w:Int) (p:Pc):Pc:=⟨⟨jZ p.h.c w hs.length (jP hs) (jq (jY hs.length p.b)),p.h.t⟩,jY hs.length p.b⟩
def ie:∀ {a b:List Value} {c kb:List Kd},aR a c->aR b kb->aR (a++b) (c++kb)
 | [],b,[],kb,_,h=>h
 | v::a,b,k::c,kb,h,d=>⟨h.1,ie h.2 d⟩
def rS:∀ {n:Nat} {l:List Value} {ks:List Kd},aR l ks->aR (l.drop n) (ks.drop n)
 | 0,_,_,h=>h
 | n+1,[],[],h=>h
 | n+1,v::l,k::ks,h=>rS (n:=n) h.2
def OE (hs:List Hd):∀ z∈jP hs,0<=z/\z<256:=by
 unfold jP;split
 .intro z hz;rw[af1 hz];omega
 .exact Dw _
def L8 (h:∀ z∈l,0<=z/\z<256):∀ v∈aS l,uJ v:=by
 intro v hv;obtain⟨z,hz,rfl⟩:=acw.1 hv;exact h z hz
def J0 (hx:br R row h) (a:qE.length=32):([.int .i64 w,.int .u64 ((n:Int)+1)]++aS qE:List Value).length=34/\(om row w n qE).length=54:=by
 have hl:row.length=125:=fV hx.ok;have h1:([.int .i64 w,.int .u64 ((n:Int)+1)]++aS qE:List Value).length=34:=by rw[aaA,bN,a];rfl
 refine⟨h1,?_⟩;unfold om;rw[aaA,h1,ace,acy];omega
def RM (hx:br R row h) (hw:1<=w/\w<=6) (hn:n<=100000) (f:qE.length=32) (hs:sum.length=32) (g:∀ z∈qE,0<=z/\z<256) (bs:∀ z∈sum,0<=z/\z<256) :
 br R (jZ row w n qE sum) ⟨jZ h.c w n qE sum,h.t⟩:=by
 have hl:row.length=125:=fV hx.ok;obtain⟨a,i⟩:=J0 hx (w:=w) (n:=n) f;have hk:∀ k:Nat,k<6->OS h.c w n k=OS row w n k:=fun k hk=>by
  unfold OS;rw[hx.I ah]
 have hz:uI h.c w n sum=uI row w n sum:=by
  unfold uI;rw[hk 0 ah,hk 1 ah,hk 2 ah,hk 3 ah,hk 4 ah,hk 5 ah,hx.core,List.drop_set_of_lt ah]
 have j:om h.c w n qE=(om row w n qE).set 53 (.bool false):=by
  unfold om;rw[afV _ _ (by rw[a];omega),a,hx.core,List.drop_set,aa8 ah,<-List.take_set]
 have b:(jZ row w n qE sum).getD 53 (.bool false)=row.getD 53 (.bool false):=by
  unfold jZ;rw[abv,abv,acb ah];unfold om;rw[abO (by rw[a];omega),a,acC,ab9 ah,acR]
 refine⟨?_,?_,?_,?_,hx.byte⟩
 .have e:dz=(([Kd.int .i64,.int .u64]++List.replicate 32 (.int .u8))++(dz.drop 34).take 20)++(List.replicate 6 (.int .u64)++(List.replicate 32 (.int .u8)++(.int .i64::(dz.drop 93).take 32))):=rfl;rw[e];unfold jZ om uI;exact ie (ie (ie ⟨rfl,rfl,zzT⟩ (E9 32 qE f)) (mV (rS hx.ok))) (ie ⟨rfl,rfl,rfl,rfl,rfl,rfl,zzT⟩ (ie (E9 32 sum hs) ⟨rfl,mV (rS hx.ok)⟩))
 .intro v hv;have hk:∀ k:Nat,k<6->uJ (OS row w n k):=fun k hk=>by
   unfold OS;split
   .exact⟨ah,ah⟩
   .have d:dz[54+k]?=some (.int .u64):=by
     have:k=0\/k=1\/k=2\/k=3\/k=4\/k=5:=ah;rcases this with rfl | rfl | rfl | rfl | rfl | rfl<;>rfl
    exact hx.rng _ (aah (wC hx.ok d))
  unfold jZ om uI at hv;simp only[acg,aaW,abd,acs]at hv;rcases hv with (((rfl | rfl) | hv) | hv) | ((rfl | rfl | rfl | rfl | rfl | rfl) | hv | rfl | hv)
  .show lN w;unfold lN;omega
  .exact⟨ah,ah⟩
  .exact L8 g v hv
  .exact hx.rng v (afs (ady hv))
  .exact hk 0 ah
  .exact hk 1 ah
  .exact hk 2 ah
  .exact hk 3 ah
  .exact hk 4 ah
  .exact hk 5 ah
  .exact L8 bs v hv
  .show lN 80;unfold lN;omega
  .exact hx.rng v (afs (ady hv))
 .show jZ h.c w n qE sum=_;unfold jZ;rw[List.set_append_left _ _ ah,j,hz]
 .rw[b];exact hx.tok
def ES (n:Nat) (hb:al b):(jY n b).length=80/\al (jY n b):=by
 refine⟨acz,fun z hz=>?_⟩;have:=af1 hz;cases b with
 | nil=>simp at this;omega
 | cons y b=>simp at this;rw[this];exact hb y (acj ..)
open Go.Proofs.YtbdikjnpbnobcaaGreatDoor.D hiding aM aA fe
variable {D:DM}{F H K R R1 R2:Hl}{a b row:List Value}{i m n:Nat}{st:Nat->List Pc}{c cur d:Nat->Nat}{p:Pc}{S:SM}{dp v:Value}
def MH {w:Int} {hs:List Hd} {h:Hd} (e:iy w hs h=0):h.Form/\cI h.c 0=w/\cI h.c 1=hs.length+1:=by
 unfold iy at e;split at e
 .cases e
 .rename_i h1;have a:h.Form:=af6.1 fun g=>h1 (Or.inl g);have hw:cI h.c 0=w:=af6.1 fun g=>h1 (Or.inr g);split at e
  .split at e<;>cases e
  .split at e
   .cases e
   .exact⟨a,hw,ah⟩
def RS (D:DM) (S:SM) (n m:Nat):Prop:=∃ (g:Int) (K:Nat),Nonempty (SP D S n g K)/\K<=m/\S.recs.length<=m/\S.bA.length<=1100*m
def RS.pre (h:RS D S n m) (hm:m<=900):S.bA.length<=1048576/\0<=S.LA.serial/\S.recs.length<=1000000000:=by
 obtain⟨g,K,⟨h⟩,hK,hr,hb⟩:=h;refine⟨ah,?_,ah⟩;rw[h.eA];exact ad7 _
def RS.new (h:6<=m/\m<=16384):RS (gS m) (jI (gS m)) (m/2) 0/\(jI (gS m)).recs=[]/\gr (gS m)=0/\al (pS (gS m))/\al (jQ (gS m)):=by
 obtain⟨⟨hP⟩,hr,a⟩:=SP.new h;obtain⟨_,_,b1,b2⟩:=hP.open;have hb:(jI (gS m)).bA=[]:=by rw[hP.pk,hr];rfl
 exact⟨⟨0,0,⟨hP⟩,ab8 _,by rw[hr];exact ab8 _,by rw[hb];exact acP _⟩,hr,a,b1,b2⟩
def N4 (hx:cH R1 R2 row p):al (iv p):=by
 unfold iv aB;exact db (db (gH _) (O9 hx.hd).1) (db (gH _) hx.byte)
def RS.push (h:RS D S n m) (a:1100*((m:Int)+1)<=64*((n:Int)-2)) (hm:m<=900) (hx:cH R1 R2 row p) (hb:p.b.length=80) (st:Nat->List Pc) :
 (fb D S st p).e=cx st p/\(fb D S st p).st=fU st p/\RS (fb D S st p).D (fb D S st p).S n (m+1):=by
 obtain⟨g,K,⟨hP⟩,hK,hr,c⟩:=h;by_cases h0:cx st p=0
 .have hl:=(L4 hx ah).2;have i:=sa (b:=iv p) ah;have d:(bM [iv p]).length=(aB (iv p)).length:=by unfold bM;simp
  obtain⟨a1,a2,⟨a3⟩⟩:=hP.add (rows:=[iv p]) (fun r hr=>by rw[aaQ.1 hr];omega) ah (fun r hr=>by rw[aaQ.1 hr];exact N4 hx) ah;have e:fb D S st p=⟨0,(dt D S [iv p]).D,(dt D S [iv p]).S,fU st p⟩:=by
   unfold fb;rw[aa8 (fun x=>x h0),aa8 (fun x=>x a1)]
  rw[e];refine⟨h0.symm,rfl,g,K+1,⟨a3⟩,ah,?_,?_⟩
  .show(dt D S [iv p]).S.recs.length<=_;rw[a2,aaA,acB];omega
  .show(dt D S [iv p]).S.bA.length<=_;rw[a3.pk,a2,wj,aaA,<-hP.pk];omega
 .have e:fb D S st p=⟨cx st p,D,S,st⟩:=by unfold fb;rw[ab9 h0]
  have f:fU st p=st:=by unfold fU;rw[aa8 h0]
  rw[e,f];exact⟨rfl,rfl,g,K,⟨hP⟩,ah,by show S.recs.length<=_;omega,by show S.bA.length<=_;omega⟩
def zC:List Value:=[.int .i64 0,.int .u64 0]++List.replicate 32 (.int .u8 0)++[.int .i64 0,.bool false,.int .u64 0]++List.replicate 16 (.int .u8 0)++[.bool false]++List.replicate 6 (.int .u64 0)++List.replicate 32 (.int .u8 0)++[.int .i64 0]++List.replicate 32 (.int .u8 0)
def z0:Pc:=⟨⟨zC,[]⟩,[]⟩
def Nn (st:Nat->List Pc) (p:Pc) (i:Nat):(fU st p i).length<=(st i).length+1:=by
 unfold fU;split
 .unfold pE;split
  .rename_i h;rw[h,aaA];exact ab8 _
  .omega
 .omega
def O3 (d:aE H dp D) (h:BQ.post [dp] [H] [] v [K] F):aE K dp D/\∃ a,v=.tuple #[a,.int .i64 0]/\fm F a dp (jI D) (fun _=>[]):=by
 obtain⟨dp',H',D',e,a,e1,b,d1,c,d2,hv,hr⟩:=h;simp only[aae,abw]at e1 b c;subst e1 b c;obtain rfl:=d.uniq d1;exact⟨d2,a,hv,hr⟩
def Wr (h:NH.post [.int .i64 (m:Int)] [] [] v [] F):aE F v (gS (m:Int)):=by
 obtain⟨n,a,b⟩:=h;simp only[aae,Value.int.injEq,acu,abw]at a;subst a;exact b
def Vw {a b:Int} (h:nL R (.pointer (au a b)) st) (hb:0<=b):0<=a/\b=0/\∃ x:Nat,R.cell a.toNat (b+1).toNat=some (.pointer (some ⟨x,0,none⟩))/\oy R x st:=by
 obtain⟨r,ps,x,hp,hr,hI⟩:=h;obtain⟨rfl,rfl⟩:=Uv hb hp;refine⟨ad7 _,rfl,x,?_,hI⟩;rw[aac];unfold Hl.cell;rw[hr];rfl
def O4 {c d:Int} (h:Value.tuple #[.agg a.toArray,.int .i64 c]=.tuple #[.agg b.toArray,.int .i64 d]):a=b/\c=d:=by
 obtain⟨h1,e⟩:=Fc h;exact⟨ab1 (Value.agg.inj h1),by simpa using e⟩
def Un {X Y:List Int} (h:de X=de Y):X=Y:=by
 have t:∀ X:List Int,Trim (de X) (X.length+1):=fun X=>⟨by unfold de;simp,fun j z a hz=>(EE X).2 j z ah hz,Or.inr ⟨1,(EE X).1,ah⟩⟩;have l:X.length+1=Y.length+1:=by
  have:=t X;rw[h]at this;exact this.pad
 have e:∀ X:List Int,(de X).take X.length=X:=fun X=>by unfold de;rw[abS,List.take_left]
 have:=e X;rw[h,show X.length=Y.length by omega,e Y]at this;exact this.symm
def ZA:zt.res=[.agg (List.replicate 6 (Ck.int .u64))]:=rfl
def fD (st:Nat->List Pc):(Nat->Nat)->List Pc->(Nat->Nat)->Prop
 | c,[],d=>∀ j,j<6->c j=d j
 | c,p::L,d=>∃ i,i<6/\(st i)[c i]?=some p/\fD st (pE c i (c i+1)) L d
def xJ (c:Nat->Nat):Nat:=c 0+c 1+c 2+c 3+c 4+c 5
def Kw (h:∀ j,j<6->c j=d j):xJ c=xJ d:=by
 unfold xJ;rw[h 0 ah,h 1 ah,h 2 ah,h 3 ah,h 4 ah,h 5 ah]
def Mq (c:Nat->Nat) (h:i<6):xJ (pE c i (c i+1))=xJ c+1:=by
 have:i=0\/i=1\/i=2\/i=3\/i=4\/i=5:=ah;rcases this with rfl | rfl | rfl | rfl | rfl | rfl<;>simp [xJ,pE]<;>omega
def OI (h:∀ j,j<6->c j=d j) (hi:i<6):∀ j,j<6->pE c i (c i+1) j=pE d i (d i+1) j:=fun j a=>by
 unfold pE;rw[h i hi,h j a]
def fD.congr {st:Nat->List Pc} : ∀ {L:List Pc} {c c' d a:Nat->Nat},(∀ j,j<6->c j=c' j)->(∀ j,j<6->d j=a j)->fD st c L d->fD st c' L a
 | [],c,c',d,a,h,h',x=>fun j b=>(h j b).symm.trans ((x j b).trans (h' j b))
 | p::L,c,c',d,a,h,h',⟨i,hi,hp,x⟩=>⟨i,hi,by rw[<-h i hi];exact hp,fD.congr (OI h hi) h' x⟩
def fD.app {st:Nat->List Pc} : ∀ {L L':List Pc} {c d e:Nat->Nat},fD st c L d->fD st d L' e->fD st c (L++L') e
 | [],L',c,d,e,x,y=>fD.congr (fun j a=>(x j a).symm) (fun _ _=>rfl) y
 | p::L,L',c,d,e,⟨i,hi,hp,x⟩,y=>⟨i,hi,hp,fD.app x y⟩
def fD.take {st:Nat->List Pc} : ∀ {L:List Pc} {c d:Nat->Nat} (m:Nat),fD st c L d->∃ a,fD st c (L.take m) a
 | [],c,d,m,x=>⟨d,by rw[List.take_nil];exact x⟩
 | p::L,c,d,0,x=>⟨c,fun _ _=>rfl⟩
 | p::L,c,d,m+1,⟨i,hi,hp,x⟩=>by
  obtain⟨a,h⟩:=fD.take m x;exact⟨a,i,hi,hp,h⟩
def fD.xJ : ∀ {L:List Pc} {c d:Nat->Nat},fD st c L d->xJ d=xJ c+L.length
 | [],c,d,x=>(Kw fun j a=>(x j a).symm)
 | p::L,c,d,⟨i,hi,hp,x⟩=>by
  have:=x.xJ;rw[Mq c hi]at this;rw[acn];omega
def fD.le : ∀ {L:List Pc} {c d:Nat->Nat},fD st c L d->(∀ j,j<6->c j<=(st j).length)->∀ j,j<6->d j<=(st j).length
 | [],c,d,x,h,j,a=>by rw[<-x j a];exact h j a
 | p::L,c,d,⟨i,hi,hp,x⟩,h,j,a=>by
  refine x.le (fun k hk=>?_) j a;unfold pE;split
  .rename_i e;subst e;have:=(aaG.1 hp).1;omega
  .exact h k hk
def kz (st:Nat->List Pc) (cur:Nat->Nat) (k i j:Nat):Nat:=min (st j).length (cur j+k+if j<i then 1 else 0)
def GJ (st:Nat->List Pc) (cur:Nat->Nat) (k:Nat):∀ i,i<=6->fD st (kz st cur k 0) (gh st cur k i) (kz st cur k i)
 | 0,_=>fun _ _=>rfl
 | i+1,h=>by
  rw[gn];refine(GJ st cur k i ah).app ?_;have b:∀ j,j≠i->kz st cur k i j=kz st cur k (i+1) j:=fun j c=>by
   unfold kz;by_cases h1:j<i
   .rw[ab9 h1,ab9 ah]
   .rw[aa8 h1,aa8 ah]
  have e0:kz st cur k i i=min (st i).length (cur i+k):=by unfold kz;rw[aa8 ah];rfl
  have e1:kz st cur k (i+1) i=min (st i).length (cur i+k+1):=by unfold kz;rw[ab9 ah]
  cases hg:(st i)[cur i+k]? with
  | none =>
   have hl:=agv.1 hg;intro j c;by_cases a:j=i
   .subst a;rw[e0,e1];omega
   .exact b j a
  | some p =>
   have hl:=(aaG.1 hg).1;have d:kz st cur k i i=cur i+k:=by rw[e0];omega
   refine⟨i,ah,by rw[d];exact hg,fun j c=>?_⟩;unfold pE;split
   .rename_i e;subst e;rw[e1,d];omega
   .rename_i e;exact b j e
def GK (st:Nat->List Pc) (cur:Nat->Nat):∀ k,fD st (kz st cur 0 0) (dJ st cur k) (kz st cur k 0)
 | 0=>fun _ _=>rfl
 | k+1=>by
  refine(GK st cur k).app (fD.congr (fun _ _=>rfl) (fun j a=>?_) (GJ st cur k 6 (ab8 _)));unfold kz;rw[ab9 a,aa8 ah]
  congr 1
def NJ (m K:Nat) (b:∀ j,j<6->cur j<=(st j).length) (hl:∀ j,j<6->(st j).length<=K) :
 ∃ d,fD st cur ((dJ st cur K).take m) d/\(∀ j,j<6->d j<=(st j).length)/\xJ d=xJ cur+min m (xJ (fun j=>(st j).length)-xJ cur):=by
 have h0:∀ j,j<6->kz st cur 0 0 j=cur j:=fun j a=>by
  have:=b j a;simp only[kz,Nat.not_lt_zero,afw];omega
 have h1:∀ j,j<6->kz st cur K 0 j=(st j).length:=fun j a=>by
  have:=hl j a;simp only[kz,Nat.not_lt_zero,afw];omega
 have hs:=fD.congr h0 h1 (GK st cur K);obtain⟨d,hd⟩:=hs.take m;refine⟨d,hd,hd.le b,?_⟩;have e:=hs.xJ;have c:=hd.xJ;rw[ace]at c;omega
def Vk (st:Nat->List Pc) (p:Pc):xJ (fun i=>(fU st p i).length)<=xJ (fun i=>(st i).length)+1:=by
 unfold fU;split
 .rename_i h0;obtain⟨⟨p1,p2⟩,_⟩:=(uA h0).1.1;have hi:(cI p.h.c 0-1).toNat<6:=ah;rw[<-Mq (fun i=>(st i).length) hi];refine agK (Kw fun j _=>?_);unfold pE;by_cases e:j=(cI p.h.c 0-1).toNat
  .rw[ab9 e,ab9 e,aaA];rfl
  .rw[aa8 e,aa8 e]
 .exact Nat.le_succ _
def fD.mem : ∀ {L:List Pc} {c d:Nat->Nat},fD st c L d->∀ p∈L,∃ i,i<6/\∃ j:Nat,(st i)[j]?=some p
 | [],c,d,_,p,hp=>by cases hp
 | a::L,c,d,⟨i,hi,b,x⟩,p,hp=>by
  rcases aaW.1 hp with rfl | hp
  .exact⟨i,hi,_,b⟩
  .exact x.mem p hp
def Ord (st:Nat->List Pc):Prop:=∀ i,i<6->∀ (j:Nat) p,(st i)[j]?=some p->p.h.Form/\cI p.h.c 0=(i:Int)+1/\cI p.h.c 1=(j:Int)+1/\ef p.h.c p.b=true/\p.b.length=80
def Ord.put (h:Ord st) (hb:p.b.length=80):Ord (fU st p):=by
 unfold fU;split
 .rename_i h0;obtain⟨g,k,hw,_⟩:=uA h0;obtain⟨_,_,hs⟩:=MH k;obtain⟨⟨p1,p2⟩,_⟩:=g.1;intro i hi j q a;unfold pE at a;split at a
  .rename_i e;subst e;rcases acN j (st (cI p.h.c 0-1).toNat).length with d | d
   .rw[acb d]at a;exact h _ hi j q a
   .rw[abO d]at a;obtain⟨f,a⟩:=aaG.1 a;rw[acB]at f;have l:j=(st (cI p.h.c 0-1).toNat).length:=ah;subst l;simp only[Nat.sub_self,List.getElem_cons_zero]at a;subst a;refine⟨g,ah,?_,hw,hb⟩;rw[hs];unfold pD;rw[aca]
  .exact h i hi j q a
 .exact h
noncomputable def zK:Sx.Spec where
 fn:=26
 own:=[]
 rd:=[0]
 res:=[.agg (List.replicate 6 (Ck.int .u64))]
 pre:=fun xs Hs Rs=>∃ (a b:Int) (R:Hl) (st:Nat->List Pc),xs=[.pointer (au a b)]/\Rs=[R]/\nL R (.pointer (au a b)) st/\lL st/\0<=b
 post:=fun xs Hs Rs v Hs' F=>∀ (pr:Value) (R:Hl) (st:Nat->List Pc),xs=[pr]->Rs=[R]->nL R pr st->lL st->v=.agg (qR st).toArray
noncomputable def RK:List Sx.Spec:=[zt]
def UW:∀ t∈RK,t.OK Tryz.prog:=fun t a=>by
 simp only[RK,aaW,abd,acs]at a;subst a;exact Jf
noncomputable def UX:aD Tryz.prog RK zK.fn where
 Λ:=aA
 args:=[TP (.var 0) (.var 1)]
 mem:=[.ro 13 [.var 0] true]
 nv:=14
def JZ:zK.OK Tryz.prog:=by
 refine Spec.jN (Γ:=RK) UW rfl ?_;rintro xs Rs ⟨a,b,R,st,rfl,rfl,m,hS,hb⟩;refine⟨UX,aM [a,b] false (List.replicate 13 Hl.none++[R]),fun _ _=>True,fun _ _=>0,rfl,aT rfl rfl,rfl,?_⟩;refine aD.read [] [] [] ?_;generalize e:aM [a,b] false (List.replicate 13 Hl.none++[R])=J;have V:∀ q:Env,ai 14 J q->q.i 0=a/\q.i 1=b/\q.h 13=R:=fun q g=>by
  rw[g.i 0,g.i 1,g.h 13,<-e];exact⟨rfl,rfl,rfl⟩
 clear e;obtain⟨ra,p,x,rc,d⟩:=Vw m hb;simp only[go_sem,Nat.reduceAdd,RK,ZA];intro q1 n _;obtain⟨v0,v1,w⟩:=V q1 n;rw[v0,v1,w,rc,jX];refine⟨ra,hb,rfl,⟨x,R,st,rfl,rfl,d,hS⟩,fun q2 r ⟨s,p2,_,n2⟩ _=>?_⟩;have hv:=p2 _ _ _ rfl rfl d hS;refine⟨[],[],rfl,zzK,⟨(ba fun k=>q2.i (15+k)),rfl,n2⟩,fun pr R' st' e1 l j o=>?_⟩;simp only[aae,abw]at e1 l;subst e1 l;obtain⟨_,_,x',f,c⟩:=Vw j hb;rw[rc]at f;obtain rfl:x=x':=by simpa using f
 refine hv.trans ?_;unfold qR;rw[d.st c (i:=0) ah,d.st c (i:=1) ah,d.st c (i:=2) ah,d.st c (i:=3) ah,d.st c (i:=4) ah,d.st c (i:=5) ah]
end Go.Proofs.YtbdikjnpbnobcaaGreatDoor
namespace Go.Proofs.YtbdikjnpbnobcaaGreatDoor
open Go Go.Sx Go.Pk
open Go.Proofs.YtbdikjnpbnobcaaGreatDoor.D hiding aM aA fe
end Go.Proofs.YtbdikjnpbnobcaaGreatDoor
