/- RelayPulls. -/
import Derived.Test.YtomdimlnggpgbaaGreatDoorTK
set_option linter.all false
set_option maxHeartbeats 4000000
namespace Go.Proofs.YtomdimlnggpgbaaGreatDoor
open Go Go.Sx Go.Pk
open RowKit
variable {all:Bool}{F G H K KB R U:Hl}{a c l most:Int}{T:List (List Int)}{Hs Hs':List Hl}{L:List Pc}{row:List Value}{B b6 b7 b9 dn k m n r x:Nat}{cv:Nat->Int}{st:Nat->List Pc}{p:Pc}{u:Value}{W W' b w w0:World}
structure BH (G KB:Hl) (a l c:Int) (rows:List (List Value)) (L:List Pc):Prop where
 a1:-1<=a
 ll:l=L.length
 c0:0<=c
 own:sE G 67 mP (.slice (ar a 0) l.toNat c.toNat) rows
 rl:rows.length=L.length
 kb:KB.le G
 nk:∀ b,(Value.slice (ar a 0) l.toNat c.toNat).ownBlock=some b->¬KB.mem b
 pc:∀ (j:Nat) row p,rows[j]?=some row->L[j]?=some p->dz KB KB row p
def nS (b9:Nat) (a l c:Int):Hl:=Hl.one b9 (.cells #[.slice (ar a 0) l.toNat c.toNat] 49 (0,0))
def oY (F:Hl) (b9:Nat) (L:List Pc):Prop:=∃ a l c G KB rows,(nS b9 a l c).le F/\G.le F/\(nS b9 a l c).bq G/\BH G KB a l c rows L
def oY.mk {rows:List (List Value)} (hd:(nS b9 a l c).bq G) (h:BH G KB a l c rows L):oY (cu [nS b9 a l c,G]) b9 L:=by
 refine⟨a,l,c,G,KB,rows,?_,?_,hd,h⟩
 .rw[jB];exact Hl.aX _ _
 .rw[jB];exact Hl.bj hd
def BH.pre {rows:List (List Value)} (h:BH G KB a l c rows L):∃ xs,aK (G.un F) 67 126 (.slice (ar a 0) l.toNat c.toNat) l.toNat xs:=by
 have:=(h.own.pre (by have:=h.ll;have:=h.rl;omega)).mono (Hl.aX G F);rw[fY]at this;exact⟨_,this⟩
def BH.app {a1 c1:Int} {rows:List (List Value)} (h:BH G KB a l c rows L) (hd:G.bq F) (hp:dz F F row p) (h1:-1<=a1) (h2:0<=c1)
 (happ:∀ xs,aK (G.un F) 67 126 (.slice (ar a 0) l.toNat c.toNat) l.toNat xs->aK H 67 126 (.slice (ar a1 0) (l.toNat+1) c1.toNat) (l.toNat+1) (xs++row))
 (hk:∀ b,(G.un F).mem b->some b≠(Value.slice (ar a 0) l.toNat c.toNat).ownBlock->H b=(G.un F) b)
 (hn:some a1.toNat=(Value.slice (ar a 0) l.toNat c.toNat).ownBlock\/¬(G.un F).mem a1.toNat\/a1= -1):BH H (KB.un F) a1 (l+1) c1 (rows++[row]) (L++[p]):=by
 have hll:=h.ll;have hrl:=h.rl;have inG:∀ b,(Value.slice (ar a 0) l.toNat c.toNat).ownBlock=some b->G.mem b:=fun b hb=>h.own.2.Jh hb;have hKF:KB.bq F:=fun b ⟨x,y⟩=>hd b ⟨Hl.bZ h.kb x,y⟩;refine⟨h1,by rw[aac,hll];simp,h2,?_,by simp [hrl],?_,?_,?_⟩
 .refine sE.app (A:=G.un F) ⟨h.own.1,h.own.2.mono (Hl.aX G F)⟩ ah hp.ok (by rw[fY];exact happ)
 .intro b o hb;have hno:some b≠(Value.slice (ar a 0) l.toNat c.toNat).ownBlock:=fun e=>by
   rcases Hl.cE.1 (Hl.mem_of hb)with hm | hm
   .exact h.nk b e.symm hm
   .exact hd b ⟨inG b e.symm,hm⟩
  have hg:(G.un F) b=some o:=by
   unfold Hl.un at hb;cases hq:KB b with
   | some o'=>rw[hq]at hb;cases hb;exact Hl.aX _ _ _ _ (h.kb _ _ hq)
   | none=>rw[hq]at hb;exact Hl.bj hd _ _ hb
  rw[hk b (Hl.mem_of hg) hno];exact hg
 .intro b hb hm;have hne:a1≠ -1:=fun e=>by rw[e,dr]at hb;cases hb
  rw[al ah]at hb;have hb:a1.toNat=b:=by simpa [Value.ownBlock] using hb
  rw[hb]at hn;rcases hn with hn | hn | hn
  .rcases Hl.cE.1 hm with hm | hm
   .exact h.nk b hn.symm hm
   .exact hd b ⟨inG b hn.symm,hm⟩
  .exact hn (Hl.cE.2 ((Hl.cE.1 hm).imp (Hl.bZ h.kb) id))
  .exact hne hn
 .refine Bn (X:=fun row p=>dz (KB.un F) (KB.un F) row p) hrl (fun j r p' a b=>(h.pc j r p' a b).mono (Hl.aX _ _) (Hl.aX _ _)) (hp.mono (Hl.bj hKF) (Hl.bj hKF))
structure Xm (U:Hl) (b6 b7:Nat) (all:Bool) (u:Value) (T:List (List Int)) (most:Int):Prop where
 c6:U.cell b6 0=some (.bool all)
 c6':U.cell b6 1=some u
 c7:U.cell b7 0=some (.int .i64 most)
 rd:aJ U u jF (T.map aS)
 tk:gI T
def Sc:∀ t∈UC,t.OK Tryz.prog:=fun t ht=>by
 simp only[UC,aan,aat,aaX]at ht;subst ht;exact Tm
open Classical in
set_option maxRecDepth 20000 in
def Vg {b10:Nat} {a0:Int} {rows:List (List Value)} {a:Act} {ro:Option Nat}
 (hU:Xm U b6 b7 all u T most) (hO:BH G KB a0 l c rows L) (hL:L.length<=1000) (hP:dz F F row p)
 (s0:U.sub w) (s1:(nS b9 a0 l c).sub w) (s2:G.sub w) (s3:(Hl.one b10 (.cells row.toArray 67 (0,0))).sub w) (s4:F.sub w)
 (d12:(nS b9 a0 l c).bq G) (d13:(nS b9 a0 l c).bq (Hl.one b10 (.cells row.toArray 67 (0,0)))) (d14:(nS b9 a0 l c).bq F) (d23:G.bq (Hl.one b10 (.cells row.toArray 67 (0,0)))) (d24:G.bq F) (d34:(Hl.one b10 (.cells row.toArray 67 (0,0))).bq F)
 (e1:(nS b9 a0 l c).bq U) (e2:G.bq U) (e3:(Hl.one b10 (.cells row.toArray 67 (0,0))).bq U) (e4:F.bq U)
 (hsz:a.tmps.size=31) (hdf:a.defers=[]) (h6:a.tmps[6]?=some (pN b6)) (h7:a.tmps[7]?=some (pN b7)) (h9:a.tmps[9]?=some (pN b9)) (h10:a.tmps[10]?=some (pN b10)) :
 wN (FW ro) dn Tryz.prog (fun e a' w'=>∃ Hs' F',fh w w' [nS b9 a0 l c,G,Hl.one b10 (.cells row.toArray 67 (0,0)),F] Hs' F' /\
  ((e=.exit 0/\min most 8<=L.length/\oY F' b9 L)\/(e=.normal/\¬min most 8<=L.length/\oY F' b9 (L++[um all T p])))) g4.cs a w:=by
 obtain⟨q,eq,hn,ei,eb,eh⟩:=FR 100 (fun k=>if k=0 then(b6:Int)else if k=1 then b7 else if k=2 then b9 else if k=3 then b10 else if k=20 then a0 else if k=21 then l else c) (fun _=>false) [(9,U),(24,G),(25,F)] (ks:=gJ) hP.ok;have m0:bm.hl q (.ro 9 [.var 0,.var 1] true)=U:=eh 9;have m1:bm.hl q (.bd 2 [.sl (.var 20) (.lit 0) (.var 21) (.var 22)] 49)=nS b9 a0 l c:=by
  show Hl.one (q.i 2).toNat (.cells #[.slice (ar (q.i 20) 0) (q.i 21).toNat (q.i 22).toNat] 49 (0,0))=_;rw[ei 2 ah,ei 20 ah,ei 21 ah,ei 22 ah];rfl
 have m2:bm.hl q (.hp 24 [] [.var 20] [])=G:=eh 24;have m3:bm.hl q (.bd 3 (ak 100 gJ) 67)=Hl.one b10 (.cells row.toArray 67 (0,0)):=by
  show Hl.one (q.i 3).toNat (.cells ((ak 100 gJ).map (CV.ev q)).toArray 67 (0,0))=_;rw[eq,ei 3 ah];rfl
 have m4:bm.hl q (.hp 25 [] [.var 153,.var 228] [])=F:=eh 25;have hE:Entry q g4.st.mem [nS b9 a0 l c,G,Hl.one b10 (.cells row.toArray 67 (0,0)),F] [U]:=by
  refine⟨?_,?_,?_,?_⟩
  .intro r hr ho;simp only[g4,aan,aat,aaX]at hr;rcases hr with rfl | rfl | rfl | rfl | rfl
   .cases ho
   .exact⟨nS b9 a0 l c,aC,by rw[m1];exact Hl.le_refl _⟩
   .exact⟨G,aC,by rw[m2];exact Hl.le_refl _⟩
   .exact⟨Hl.one b10 (.cells row.toArray 67 (0,0)),aC,by rw[m3];exact Hl.le_refl _⟩
   .exact⟨F,aC,by rw[m4];exact Hl.le_refl _⟩
  .intro r hr ho;simp only[g4,aan,aat,aaX]at hr;rcases hr with rfl | rfl | rfl | rfl | rfl
   .exact⟨U,aC,by rw[m0];exact Hl.le_refl _⟩
   all_goals cases ho
  .simp only[g4,ac4,aan,aat,aaX,adb,forall_eq,m1,m2,m3,m4];exact⟨⟨fun h=>(by cases h),fun h=>(by cases h),fun h=>(by cases h),fun h=>(by cases h)⟩,⟨fun _ _=>d12,fun _ _=>d13,fun _ _=>d14⟩,⟨fun _ _=>d23,fun _ _=>d24⟩,fun _ _=>d34,fun _ h=>(nomatch h),.nil⟩
  .intro r hr;simp only[g4,aan,aat,aaX]at hr;rcases hr with rfl | rfl | rfl | rfl | rfl
   .trivial
   .show 0<=q.i 2;rw[ei 2 ah];exact abR b9
   .trivial
   .show 0<=q.i 3;rw[ei 3 ah];exact abR b10
   .trivial
 refine iq ?_ (ft.sound (Γ:=UC) Sc g4 (Or.inl rfl) (Hs:=[nS b9 a0 l c,G,Hl.one b10 (.cells row.toArray 67 (0,0)),F]) (Rs:=[U]) (J:=q) (inv:=fun _ _=>True) (mu:=fun _ _=>0)
  (R:=fun v _ F'=>(v=.tuple #[.int .i64 2,pN b9]/\min most 8<=L.length/\oY F' b9 L)\/(v=.tuple #[.int .i64 0,pN b9]/\¬min most 8<=L.length/\oY F' b9 (L++[um all T p])))
  (by intro H hH;simp only[aan,aat,aaX]at hH;rcases hH with rfl | rfl | rfl | rfl<;>assumption) (by intro H hH;simp only[aan,aat,aaX]at hH;subst hH;exact s0)
  (by intro H hH R hR;simp only[aan,aat,aaX]at hH hR;subst hR;rcases hH with rfl | rfl | rfl | rfl<;>assumption) hE hsz hdf ?_ (fun _ h=>(nomatch h)) ?_)
 .rintro e a' w' ⟨t,vs,Hs',F',rfl,hs',hd',hm,hT,hc⟩;refine⟨Hs',F',hT,?_⟩;rcases hc with ⟨hv,hx,ho⟩ | ⟨hv,hx,ho⟩
  .simp only[Value.tuple.injEq,aaH,aag,Value.int.injEq,aaZ]at hv;obtain rfl:t=.exit 0:=jV hv.1;exact Or.inl ⟨rfl,hx,ho⟩
  .simp only[Value.tuple.injEq,aaH,aag,Value.int.injEq,aaZ]at hv;obtain rfl:t=.norm:=jV hv.1;exact Or.inr ⟨rfl,hx,ho⟩
 .intro t v ht;have:=sq ht;simp only[aan,aat,aaX,aaS]at this;rcases this with ⟨rfl,rfl⟩ | ⟨rfl,rfl⟩ | ⟨rfl,rfl⟩ | ⟨rfl,rfl⟩
  .exact h6.trans (by show _=some (Value.pointer (ar (q.i 0) 0));rw[ei 0 ah];exact aaQ some (iY _).symm)
  .exact h7.trans (by show _=some (Value.pointer (ar (q.i 1) 0));rw[ei 1 ah];exact aaQ some (iY _).symm)
  .exact h9.trans (by show _=some (Value.pointer (ar (q.i 2) 0));rw[ei 2 ah];exact aaQ some (iY _).symm)
  .exact h10.trans (by show _=some (Value.pointer (ar (q.i 3) 0));rw[ei 3 ah];exact aaQ some (iY _).symm)
 refine ft.read [gJ,bU] [] [] ?_;have V:∀ q':Env,ai 300 q q'->(q'.i 0=b6/\q'.i 1=b7/\q'.i 2=b9/\q'.i 20=a0/\q'.i 21=l/\q'.i 22=c)/\q'.h 9=U/\q'.h 24=G/\q'.h 25=F/\(ak 100 gJ).map (CV.ev q')=row:=fun q' g=>by
  rw[g.i 0,g.i 1,g.i 2,g.i 20,g.i 21,g.i 22,g.h 9,g.h 24,g.h 25,ei 0 ah,ei 1 ah,ei 2 ah,ei 20 ah,ei 21 ah,ei 22 ah];exact⟨⟨rfl,rfl,rfl,rfl,rfl,rfl⟩,eh 9,eh 24,eh 25,(aaQ Array.toList (Value.agg.inj (fS (ks:=gJ) (n:=100) g aA))).trans eq⟩
 simp only[go_sem,Nat.reduceAdd,UC,VF];obtain⟨⟨v0,v1,v2,v20,v21,v22⟩,w9,w24,w25,er⟩:=V q (ai.refl _ _);have hll:=hO.ll;have c7:U.cell ((b7:Int)).toNat (Int.toNat 0)=some (.int .i64 most):=by rw[aaa];exact hU.c7
 have c6:U.cell ((b6:Int)).toNat (Int.toNat 0)=some (.bool all):=by rw[aaa];exact hU.c6
 have c6':U.cell ((b6:Int)).toNat (Int.toNat 0+1)=some u:=by rw[aaa];exact hU.c6'
 have emin:(if 8<bV (some (Value.int .i64 most))then 8 else bV (some (Value.int .i64 most)))=min most 8:=by
  show(if 8<most then 8 else most)=_;split<;>omega
 obtain⟨sx,sy,sc,esl,_⟩:=id hU.rd;have eh2:(ak 100 bU).map (CV.ev q)=row.take 125:=by rw[<-er,oy]
 have eb9:aY q (.hB 9 (.var 0) (.lit 0) 0)=all:=by
  show zV ((q.h 9).cell (q.i 0).toNat ((Int.toNat 0)+0))=_;rw[w9,v0,aa3,c6];rfl
 rw[v0,v1,v21,w9,w25,c7,emin,c6,c6',eb9,eh2,ij ⟨_,_,_,esl⟩];refine⟨ah,ah,rfl,fun hle hd=>?_,fun hgt=>⟨ah,rfl,by rw[esl];rfl,⟨all,u,_,U,F,T,p.h,rfl,rfl,hU.rd,hU.tk,hP.hd⟩,fun q1 g1 ⟨_,p1,_⟩=>?_⟩⟩
 .refine⟨[[],[],[],[]],[1,2],rfl,zzK,Or.inl ⟨?_,ah,?_⟩⟩
  .show Value.tuple #[.int .i64 2,.pointer (ar (q.i 2) 0)]=_;rw[v2,iY]
  .show oY (cu [bm.hl q (.bd 2 [.sl (.var 20) (.lit 0) (.var 21) (.var 22)] 49),q.h 24]) b9 L;rw[m1,w24];exact oY.mk d12 hO
 have e1:q1.b 300=decide (AN all T p.h):=Value.bool.inj (p1 _ _ _ _ _ _ _ rfl rfl hU.rd hP.hd);rw[e1,aaf];have fin:∀ (q3 q4:Env) (row':List Value),dz F F row' (um all T p)->ai 300 q q3->q3.h 302=G.un F->ai 303 q3 q4-> -1<=q4.i 303->0<=q4.i 304 ->
  (∀ xs,aK (q3.h 302) 67 126 (.slice (ar (q3.i 20) 0) (q3.i 21).toNat (q3.i 22).toNat) (q3.i 21).toNat xs->aK (q4.h 303) 67 126 (.slice (ar (q4.i 303) 0) ((q3.i 21).toNat+1) (q4.i 304).toNat) ((q3.i 21).toNat+1) (xs++row')) ->
  (∀ b,(q3.h 302).mem b->some b≠(Value.slice (ar (q3.i 20) 0) (q3.i 21).toNat (q3.i 22).toNat).ownBlock->q4.h 303 b=q3.h 302 b) ->
  (some (q4.i 303).toNat=(Value.slice (ar (q3.i 20) 0) (q3.i 21).toNat (q3.i 22).toNat).ownBlock\/¬(q3.h 302).mem (q4.i 303).toNat\/q4.i 303= -1) ->
  BH (q4.h 303) (KB.un F) (q4.i 303) (q4.i 21+1) (q4.i 304) (rows++[row']) (L++[um all T p])/\bm.hl q4 (.bd 2 [.sl (.var 303) (.lit 0) ((E.var 21).add (.lit 1)) (.var 304)] 49)=nS b9 (q4.i 303) (q4.i 21+1) (q4.i 304)/\Value.pointer (ar (q4.i 2) 0)=pN b9:=by
  intro q3 q4 row' hr A3 h3 g4 a1 a2 happ hk hn;obtain⟨⟨_,_,u2,u20,u21,u22⟩,_⟩:=V q3 A3;obtain⟨⟨_,_,z2,_,z21,_⟩,_⟩:=V q4 (A3.tr g4);rw[h3,u20,u21,u22]at happ hk hn;refine⟨by rw[z21];exact hO.app d24 hr a1 a2 happ hk hn,?_,by rw[z2,iY]⟩;show Hl.one (q4.i 2).toNat (.cells #[.slice (ar (q4.i 303) 0) (q4.i 21+1).toNat (q4.i 304).toNat] 49 (0,0))=_;rw[z2,aaa];rfl
 refine⟨fun hno q2 g2 _ q3 g3 ⟨h3,_⟩=>?_,fun hyes q2 g2 _ q3 g3 ⟨h3,_⟩=>?_⟩
 .have A2:ai 300 q q2:=g1.tr g2;have A3:ai 300 q q3:=A2.tr g3;obtain⟨_,_,y24,y25,_⟩:=V q2 A2;obtain⟨⟨_,_,u2,u20,u21,u22⟩,_,_,_,U3⟩:=V q3 A3;rw[y24,y25]at h3;have er3':(ak 100 bU++[CV.sl (.lit (-1)) (.lit 0) (.lit 0) (.lit 0)]).map (CV.ev q3)=row.take 125++[.slice none 0 0]:=by
   rw[aaK,<-oy,U3];rfl
  refine⟨⟨by rw[h3,u20,u21,u22];exact hO.pre,ah,by unfold maxLen;omega,ah⟩,fun q4 g4 ⟨a1,a2,happ,hk,_,hn⟩ hd=>?_⟩;rw[er3']at happ;obtain⟨hG,mb,ev⟩:=fin q3 q4 _ (by unfold um;rw[aal hno];exact hP.cut) A3 h3 g4 a1 a2 happ hk hn;refine⟨[[],[],[],[]],[1,2],rfl,zzK,Or.inr ⟨?_,ah,?_⟩⟩
  .show Value.tuple #[.int .i64 0,.pointer (ar (q4.i 2) 0)]=_;rw[ev]
  .show oY (cu [bm.hl q4 (.bd 2 [.sl (.var 303) (.lit 0) ((E.var 21).add (.lit 1)) (.var 304)] 49),q4.h 303]) b9 _;have:=hd 1 2 _ _ aA rfl rfl rfl;rw[mb]at this ⊢;exact oY.mk this hG
 .have A2:ai 300 q q2:=g1.tr g2;have A3:ai 300 q q3:=A2.tr g3;obtain⟨_,_,y24,y25,_⟩:=V q2 A2;obtain⟨⟨_,_,u2,u20,u21,u22⟩,_,_,_,U3⟩:=V q3 A3;rw[y24,y25]at h3;refine⟨⟨by rw[h3,u20,u21,u22];exact hO.pre,ah,by unfold maxLen;omega,ah⟩,fun q4 g4 ⟨a1,a2,happ,hk,_,hn⟩ hd=>?_⟩;rw[U3]at happ;obtain⟨hG,mb,ev⟩:=fin q3 q4 _ (by unfold um;rw[aay hyes];exact hP) A3 h3 g4 a1 a2 happ hk hn;refine⟨[[],[],[],[]],[1,2],rfl,zzK,Or.inr ⟨?_,ah,?_⟩⟩
  .show Value.tuple #[.int .i64 0,.pointer (ar (q4.i 2) 0)]=_;rw[ev]
  .show oY (cu [bm.hl q4 (.bd 2 [.sl (.var 303) (.lit 0) ((E.var 21).add (.lit 1)) (.var 304)] 49),q4.h 303]) b9 _;have:=hd 1 2 _ _ aA rfl rfl rfl;rw[mb]at this ⊢;exact oY.mk this hG
def xj {a c:World} (h:gK (fun _=>False) a b) (k:gK (fun _=>False) b c):gK (fun _=>False) a c :=
 ⟨k.os.trans h.os,k.tape.trans h.tape,k.output.trans h.output,ab0 h.size k.size,fun i hi hn=>(k.block i (abM hi h.size) hn).trans (h.block i hi hn)⟩
def yC (w:World) (o:Obj):gK (fun _=>False) w (w.alloc o):=⟨rfl,rfl,rfl,by rw[World.size_alloc];omega,fun i hi _=>Below.heap_alloc _ _ _ hi⟩
def yD (h:gK (fun _=>False) w0 W) (hr:w0.heap.size<=r) (o:Obj):gK (fun _=>False) w0 (W.putObj r o) :=
 ⟨h.os,h.tape,h.output,by rw[World.putObj_size];exact h.size,fun i hi hn=>(World.putObj_heap_other ah).trans (h.block i hi hn)⟩
def ik {a:World} (h:H.sub a) (k:gK (fun _=>False) a b):H.sub b:=fun i o hi=>(k.block i (Hl.sub_lt h (Hl.mem_of hi)) adB).trans (h i o hi)
def xy (h:H.sub W) (hr:¬H.mem r) (o:Obj):H.sub (W.putObj r o):=fun i x hi=>(World.putObj_heap_other (fun e=>hr (by subst e;exact Hl.mem_of hi))).trans (h i x hi)
def Ek (h:gK (fun _=>False) w0 W) (t:fh W W' Hs Hs' F) (hn:∀ H∈Hs,∀ b,H.mem b->w0.heap.size<=b):gK (fun _=>False) w0 W' :=
 ⟨t.os.trans h.os,t.tape.trans h.tape,t.output.trans h.output,ab0 h.size t.size,fun i hi hf=>(t.block i (abM hi h.size) fun H hH hm=>by have:=hn H hH i hm;omega).trans (h.block i hi hf)⟩
structure FI (w0:World) (B:Nat) (U:Hl) (b9 m:Nat) (all:Bool) (T:List (List Int)) (pre:List Pc) (W:World):Prop where
 cH:gK (fun _=>False) w0 W
 big:B+2<=W.heap.size
 u:U.sub W
 len:pre.length<=m
 out:∃ F,F.sub W/\oY F b9 (pre.map (um all T))/\F.bq U/\∀ b,F.mem b->w0.heap.size<=b/\b≠B/\b≠B+1
section
variable {w0:World} {B:Nat} {U:Hl} {b9 m:Nat} {all:Bool} {T:List (List Int)} {pre:List Pc} {W W':World}
def FI.mono (h:FI w0 B U b9 m all T pre W) (k:gK (fun _=>False) W W'):FI w0 B U b9 m all T pre W':=by
 obtain⟨F,f1,f2,f3,f4⟩:=h.out;exact⟨xj h.cH k,ab0 h.big k.size,ik h.u k,h.len,F,ik f1 k,f2,f3,f4⟩
def FI.put (h:FI w0 B U b9 m all T pre W) (hB:w0.heap.size<=B) (hU:¬U.mem (B+1)) (o:Obj):FI w0 B U b9 m all T pre (W.putObj (B+1) o):=by
 obtain⟨F,f1,f2,f3,f4⟩:=h.out;exact⟨yD h.cH ah o,by rw[World.putObj_size];exact h.big,xy h.u hU o,h.len,F,xy f1 (fun hm=>(f4 _ hm).2.2 rfl) o,f2,f3,f4⟩
end
def wo {r:Loop} (h:rows B r W) (t:fh W W' Hs Hs' F) (hn:∀ H∈Hs,∀ b,H.mem b->b≠B/\b≠B+1):rows B r W' :=
 ⟨(t.block _ (aaG.1 h.1).1 fun H hH hm=>(hn H hH _ hm).2 rfl).trans h.1,(t.block _ (aaG.1 h.2).1 fun H hH hm=>(hn H hH _ hm).1 rfl).trans h.2⟩
def KD {P:Program} {id p d0 d1:Nat} {o0 o1:Oper} {T:TypeId} (g0:o0.guard=none) (g1:o1.guard=none) (e0:o0.op=.load T (.tmp p)) (e1:o1.op=.assign (.tmp d0)) (f0:o0.dst=some d0) (f1:o1.dst=some d1)
 {a:Act} {w:World} {b:Nat} {v:Value} {Q:Exit->Act->World->Prop} (hs0:d0<a.tmps.size) (hap:a.tmps[p]?=some (pN b)) (hg:BJ P T=some false) (hb:w.cell? ⟨b,0,none⟩=some v)
 (hQ:Q .normal ((a.put (some d0) v).put (some d1) v) w):(Code.region id #[o0,o1] false).wpIn Fence.wide n P Q a w:=by
 refine wpIn_region_lit (l:=[o0,o1]) (wpListIn_plain g0 fun K hK=>(S0 none n P).val (v:=v) (w':=w) ?_ (hK _ _ ?_))
 .unfold execOp;rw[e0];have:a.eval (.tmp p)=.pointer (some ⟨b,0,none⟩):=by simp [Act.eval,hap,pN]
  simp only[this];have h2:(Instr.loadAt T (.pointer (some ⟨b,0,none⟩))).run P w=.ok v w:=pF hg hb;rw[Sem.run_bind,h2];rfl
 rw[f0];refine wpListIn_plain g1 fun K hK=>(S0 none n P).val (v:=v) (w':=w) ?_ (hK _ _ ?_)
 .unfold execOp;rw[e1];simp [Act.eval,Act.put,aaE,hs0,go_sem]
 rw[f1];exact hQ
def Wl {t:Array Value} (v:Value) (h:t.size=31):(t.setIfInBounds 14 v).size=31/\(t.setIfInBounds 14 v)[6]?=t[6]?/\(t.setIfInBounds 14 v)[7]?=t[7]?/\(t.setIfInBounds 14 v)[9]?=t[9]?/\(t.setIfInBounds 14 v)[14]?=some v:=by
 refine⟨by simp [h],?_,?_,?_,?_⟩
 .simp [aaE]
 .simp [aaE]
 .simp [aaE]
 .simp [aaE,h]
def rJ (h:∀ b,H.mem b->b<n) (k:∀ b,K.mem b->n<=b):H.bq K:=fun b ⟨x,y⟩=>by have:=h b x;have:=k b y;omega
def HZ (h:H.sub W) (t:fh W W' Hs Hs' F) (hd:∀ K∈Hs,K.bq H):H.sub W':=fun i o hi=>(t.block i (Hl.sub_lt h (Hl.mem_of hi)) fun K hK hm=>hd K hK i ⟨hm,Hl.mem_of hi⟩).trans (h i o hi)
def L9 (hU:Xm U b6 b7 all u T most) (hUB:∀ b,U.mem b->b≠B/\b≠B+1) (hB:w0.heap.size<=B)
 {rc:LoopState->Option Code->Loop} {s:List Pc×Pc×List Value} {W:World} (hY:UH (FI w0 B U b9 (min most 8).toNat all T) st cv s W) (hR:rows B (rc .ready none) W) (h400:∀ i,i<6->(st i).length<=400)
 {dn:Nat} {a:Act} (hsz:a.tmps.size=31) (hdf:a.defers=[]) (h6:a.tmps[6]?=some (pN b6)) (h7:a.tmps[7]?=some (pN b7)) (h9:a.tmps[9]?=some (pN b9)) (h14:a.tmps[14]?=some (.agg s.2.2.toArray)) :
 (UZ Pm).wpIn (FW (some (B+1))) dn Tryz.prog (Exit.then (fun a1 W1=>rows B (rc .ready none) W1/\(WM Pm).wpIn (FW (some (B+1))) dn Tryz.prog (ends B rc (fun W=>FI w0 B U b9 (min most 8).toNat all T (s.1++[s.2.1]) W)
  (fun i W=>i=0/\∃ pre,pre <+: eJ st (fv cv) 401/\min most 8<=pre.length/\FI w0 B U b9 (min most 8).toNat all T pre W)) a1 (W1.putObj (B+1) (.loop (rc .busy none)))) fun _ _ _=>False) a W:=by
 obtain⟨pre,p,row⟩:=s;obtain⟨W1,F0,k,i,hi,epre,hp,hI,hT,hP⟩:=hY;simp only at epre hI hP hp h14 ⊢;have hIW:=hI.mono hT.oN;obtain⟨Fo,fo1,fo2,fo3,fo4⟩:=hI.out;obtain⟨a0,l,c,G,KB,rows',ox,og,od,oG⟩:=fo2;have hk:k<401:=by
  have:=(aah.1 hp).1;have:=h400 i hi;omega
 have f0:∀ b,F0.mem b->W1.heap.size<=b:=fun b hb=>(hT.fdom b hb).resolve_left aC;have f0':∀ b,F0.mem b->b<W.heap.size:=fun b hb=>Hl.sub_lt hT.fsub hb;have big:=hI.big;have lo:∀ {H:Hl},H.le Fo->∀ b,H.mem b->b<W1.heap.size:=fun hl b hb=>Hl.sub_lt fo1 (Hl.bZ hl hb);have uo:∀ b,U.mem b->b<W1.heap.size:=fun b hb=>Hl.sub_lt hI.u hb;have szW:=hT.size;have h3:wN (FW (some (B+1))) dn Tryz.prog _ [UZ Pm] a W:=Vf (ro:=some (B+1)) hP.ok hsz hdf h6 h7 h9 h14;refine wpIn_mono h3 ?_;intro e a1 W2 h;cases e with
 | normal =>
  obtain⟨_,hs1,hd1,b10,F3,t6,t7,t9,t10,hT3,eF3⟩:=h;have hb10:∀ b,(Hl.one b10 (.cells row.toArray 67 (0,0))).mem b->W.heap.size<=b:=fun b hb=>(hT3.fdom b (eF3▸hb)).resolve_left aC;have hR2:=wo hR hT3 aC;refine⟨hR2,?_⟩;have hR3:rows B (rc .busy none) (W2.putObj (B+1) (.loop (rc .busy none))):=tN hR2;have kW3:gK (fun _=>False) w0 (W2.putObj (B+1) (.loop (rc .busy none))):=yD (xj hIW.cH hT3.oN) ah _;have sW3:∀ {H:Hl},H.sub W2->(∀ b,H.mem b->b≠B+1)->H.sub (W2.putObj (B+1) (.loop (rc .busy none))):=fun h hn=>xy h (fun hm=>hn _ hm rfl) _;have fo1':Fo.sub W2:=ik (ik fo1 hT.oN) hT3.oN;have sU:U.sub (W2.putObj (B+1) (.loop (rc .busy none))):=sW3 (ik hIW.u hT3.oN) fun b hb=>(hUB b hb).2;have sz3:W.heap.size<=(W2.putObj (B+1) (.loop (rc .busy none))).heap.size:=by rw[World.putObj_size];exact hT3.size
  have hown:∀ H∈[nS b9 a0 l c,G,Hl.one b10 (.cells row.toArray 67 (0,0)),F0],∀ b,H.mem b->w0.heap.size<=b/\b≠B/\b≠B+1:=by
   intro H hH b hb;simp only[aan,aat,aaX]at hH;rcases hH with rfl | rfl | rfl | rfl
   .exact fo4 b (Hl.bZ ox hb)
   .exact fo4 b (Hl.bZ og hb)
   .have:=hb10 b hb;omega
   .have:=f0 b hb;omega
  have e1:(nS b9 a0 l c).bq U:=fun b ⟨x,y⟩=>fo3 b ⟨Hl.bZ ox x,y⟩;have e2:G.bq U:=fun b ⟨x,y⟩=>fo3 b ⟨Hl.bZ og x,y⟩;have e3:(Hl.one b10 (.cells row.toArray 67 (0,0))).bq U:=Hl.kZ (rJ (n:=W.heap.size) (fun b hb=>abM (uo b hb) szW) hb10);have e4:F0.bq U:=Hl.kZ (rJ uo f0);have hdU:∀ K∈[nS b9 a0 l c,G,Hl.one b10 (.cells row.toArray 67 (0,0)),F0],K.bq U:=by
   intro K hK;simp only[aan,aat,aaX]at hK;rcases hK with rfl | rfl | rfl | rfl<;>assumption
  have hlen:=hI.len;have h4:wN (FW (some (B+1))) dn Tryz.prog _ [WM Pm] a1 (W2.putObj (B+1) (.loop (rc .busy none))):=Vg (ro:=some (B+1)) (b10:=b10) hU oG (by rw[aaw];omega) hP sU
   (sW3 (Hl.yH ox fo1') fun b hb=>(fo4 b (Hl.bZ ox hb)).2.2) (sW3 (Hl.yH og fo1') fun b hb=>(fo4 b (Hl.bZ og hb)).2.2)
   (sW3 (eF3▸hT3.fsub) fun b hb=>by have:=hb10 b hb;omega) (sW3 (ik hT.fsub hT3.oN) fun b hb=>by have:=f0 b hb;omega)
   od (rJ (n:=W.heap.size) (fun b hb=>abM (lo ox b hb) szW) hb10) (rJ (lo ox) f0) (rJ (n:=W.heap.size) (fun b hb=>abM (lo og b hb) szW) hb10) (rJ (lo og) f0) (Hl.kZ (rJ f0' hb10))
   e1 e2 e3 e4 hs1 hd1 t6 t7 t9 t10
  refine wpIn_mono h4 ?_;intro e a2 W4 h;have fin:∀ {Hs':List Hl} {F':Hl} {pre':List Pc},fh (W2.putObj (B+1) (.loop (rc .busy none))) W4 [nS b9 a0 l c,G,Hl.one b10 (.cells row.toArray 67 (0,0)),F0] Hs' F'->oY F' b9 (pre'.map (um all T))->pre'.length<=(min most 8).toNat ->
   rows B (rc .busy none) W4/\∀ o,FI w0 B U b9 (min most 8).toNat all T pre' (W4.putObj (B+1) o):=by
   intro Hs' F' pre' hT4 hO hl;have hR4:=wo hR3 hT4 fun H hH b hb=>(hown H hH b hb).2;refine⟨hR4,fun o=>FI.put ⟨Ek kW3 hT4 fun H hH b hb=>(hown H hH b hb).1,by have:=hT4.size;omega,HZ sU hT4 hdU,hl,F',hT4.fsub,hO,fun b ⟨x,y⟩=>?_,fun b hb=>?_⟩ hB (fun hm=>(hUB _ hm).2 rfl) o⟩
   .rcases hT4.fdom b x with ⟨K,hK,hm⟩ | hge
    .exact hdU K hK b ⟨hm,y⟩
    .have:=Hl.sub_lt sU y;omega
   .rcases hT4.fdom b hb with ⟨K,hK,hm⟩ | hge
    .exact hown K hK b hm
    .omega
  have hml:(pre.map (um all T)).length=pre.length:=aaw _;cases e with
  | normal =>
   obtain⟨Hs',F',hT4,hc⟩:=h;rcases hc with ⟨he,_⟩ | ⟨_,hno,hO⟩
   .cases he
   .rw[hml]at hno;obtain⟨hr,hz⟩:=fin (pre':=pre++[p]) hT4 (by rw[aaK];exact hO) (by rw[aac,aaB];omega);exact⟨hr,hz _⟩
  | exit j =>
   obtain⟨Hs',F',hT4,hc⟩:=h;rcases hc with ⟨he,hle,hO⟩ | ⟨he,_⟩
   .obtain rfl:j=0:=by cases he;rfl
    rw[hml]at hle;obtain⟨hr,hz⟩:=fin (pre':=pre) hT4 hO hlen;exact⟨hr,rfl,pre,by rw[epre];exact Ag ah hk,hle,hz _⟩
   .cases he
  | _ =>
   obtain⟨Hs',F',hT4,hc⟩:=h;rcases hc with ⟨he,_⟩ | ⟨he,_⟩<;>cases he
 | _=>exact absurd h.1 aC
noncomputable def rH:Sx.Spec where
 fn:=75
 own:=[]
 rd:=[0,1002001]
 res:=[.one .sl]
 pre:=fun xs Hs Rs=>∃ (x:Nat) (R RW:Hl) (st:Nat->List Pc) (cv:Nat->Int) (all:Bool) (u:Value) (T:List (List Int)) (most:Int),xs=[.pointer (some ⟨x,0,none⟩),Dg cv,.agg #[.bool all,u],.int .i64 most]/\Rs=[R,RW]/\nP R x st/\oJ st/\Good st/\aJ RW u jF (T.map aS)/\gI T/\(∀ i,i<6->(st i).length<=400)/\∀ i,i<6->0<=cv i/\cv i<18446744073709551616
 post:=fun xs Hs Rs v Hs' F=>∀ (x:Nat) (R RW:Hl) (st:Nat->List Pc) (cv:Nat->Int) (all:Bool) (u:Value) (T:List (List Int)) (most:Int),xs=[.pointer (some ⟨x,0,none⟩),Dg cv,.agg #[.bool all,u],.int .i64 most]->Rs=[R,RW]->nP R x st->aJ RW u jF (T.map aS)->qT F F v (gC st cv all T most)
def LY (a b c d:Value) (r:Array Value):((#[a,b,c,d]:Array Value)++r)[0]?=some a/\((#[a,b,c,d]:Array Value)++r)[1]?=some b/\((#[a,b,c,d]:Array Value)++r)[2]?=some c/\((#[a,b,c,d]:Array Value)++r)[3]?=some d/\((#[a,b,c,d]:Array Value)++r).size=4+r.size:=by
 obtain⟨r⟩:=r;refine⟨aC,aC,aC,aC,by simp;omega⟩
def oY.rows (h:oY F b9 L):∃ a l c:Int,F.cell b9 0=some (.slice (ar a 0) l.toNat c.toNat)/\ -1<=a/\0<=l/\0<=c/\qT F F (.slice (ar a 0) l.toNat c.toNat) L:=by
 obtain⟨a,l,c,G,KB,rows,h1,h2,_,o⟩:=h;refine⟨a,l,c,?_,o.a1,by have:=o.ll;omega,o.c0,rows,cj o.own.rd h2,o.rl,fun j row p a b=>(o.pc j row p a b).mono (fun k x hx=>h2 k x (o.kb k x hx)) (fun k x hx=>h2 k x (o.kb k x hx))⟩;unfold Hl.cell;rw[h1 b9 _ (Hl.aN _ _)];rfl
def OG {cur:Nat->Nat} (h:fx st cur k 6=[]) (hl:(eJ st cur k).length<=m) (h4:∀ i,i<6->(st i).length<=400):(eJ st cur 401).take m=eJ st cur k:=by
 have e:eJ st cur 401=eJ st cur k:=by
  rcases Nat.le_total k 401 with hk | hk
  .exact wA h hk
  .rw[Bq h4 (m:=401) ah,Bq h4 (m:=k) ah]
 rw[e,abD hl]
def Sf {RW:Hl} {b1 b2:Nat} (hS:Xl F b6 b7 b9 b1 b2 x cv all u most) (hF:(F.minus (Hl.one b9 (.cells #[.slice none 0 0] 49 (0,0)))).le U) (hR:R.le U) (hW:RW.le U)
 (hI:nP R x st) (hs:oJ st) (hg:Good st) (hcv:∀ i,i<6->0<=cv i/\cv i<18446744073709551616) (hU:aJ RW u jF (T.map aS)) (hT:gI T):WD U b1 b2 x st cv/\Xm U b6 b7 all u T most:=by
 have at':∀ {b:Nat} {o:Obj},b≠b9->F b=some o->U b=some o:=fun {b o} hb ho=>hF b o (by
  unfold Hl.minus;exact(aal (fun h=>hb (Hl.cm.1 h))).trans ho)
 have cell:∀ {b:Nat} {cs:Array Value} {t:TypeId} {f:Nat×Nat} (j:Nat),b≠b9->F b=some (.cells cs t f)->U.cell b j=cs[j]?:=fun {b cs t f} j hb ho=>by unfold Hl.cell;rw[at' hb ho]
 refine⟨⟨(cell 0 hS.n1 hS.w1).trans rfl,fun i hi=>(cell i hS.n2 hS.w2).trans ?_,hcv,hI.mono hR,hs,hg⟩,⟨(cell 0 hS.n6 hS.w6).trans rfl,(cell 1 hS.n6 hS.w6).trans rfl,(cell 0 hS.n7 hS.w7).trans rfl,cj hU hW,hT⟩⟩;have:i=0\/i=1\/i=2\/i=3\/i=4\/i=5:=ah;rcases this with rfl | rfl | rfl | rfl | rfl | rfl<;>rfl
def J0:rH.OK Tryz.prog:=by
 intro w xs Hs Rs hl1 hl2 hs1 hs2 hd1 hd2 hpre;obtain⟨x,R,RW,st,cv,all,u,T,most,rfl,rfl,hI,hSh,hGd,hU,hT,hlen,hcv⟩:=hpre;have e0:Hs=[]:=aad.1 hl1;subst e0;obtain⟨ux,uy,uc,rfl,huy,_⟩:=id hU;have sR:R.sub w:=hs2 R aC;have sW:RW.sub w:=hs2 RW aC;have hf:Tryz.prog.funcs[75]?=some Tryz.f75:=by kernel_rfl
 have hb:Tryz.f75.body=some L8:=by kernel_rfl
 have hnt:Tryz.f75.ntmps=31:=by kernel_rfl
 have hrs:Tryz.f75.results=#[.tmp 8]:=by kernel_rfl
 have hcode:L8=.seq (kN L8) (.seq (kN (gY L8)) (.seq (.seq (kN (kN (gY (gY L8)))) (.block 0 (.rangeFunc (.tmp 13) #[14] (UZ Pm) (WM Pm)))) (.seq (kN (gY (gY (gY L8)))) .ret))):=by kernel_rfl
 refine callsIn_wide.1 (callsIn_of_wp_marks (n:=5) hf hb trivial ?_ rfl);rw[hnt,hcode];obtain⟨n0,n1,n2,n3,n4⟩:=LY (.pointer (some ⟨x,0,none⟩)) (Dg cv) (.agg #[.bool all,.slice (ar ux uy) (T.map aS).length uc]) (.int .i64 most) (Array.replicate (31-4) undef);have h0:=Ve (x:=x) (cv:=cv) (all:=all) (p:=(ux,uy)) (ul:=(T.map aS).length) (uc:=uc) (most:=most) (a:={tmps:=(#[.pointer (some ⟨x,0,none⟩),Dg cv,.agg #[.bool all,.slice (ar ux uy) (T.map aS).length uc],.int .i64 most]:Array Value)++Array.replicate (31-4) undef,defers:=[]}) (w:=w) (dn:=5) (n4.trans (by rw[adp])) rfl n0 n1 n2 n3;refine wpIn_seq (wpIn_mono h0 ?_);intro e a1 w1 h0;cases e with
 | normal =>
  refine wpIn_seq (wpIn_mono h0 ?_);intro e a1 w1 h0;cases e with
  | normal =>
   refine wpIn_seq (wpIn_seq (wpIn_mono h0 ?_));intro e a1 w1 h0;cases e with
   | normal =>
    obtain⟨_,hsz,hdf,b6,b7,b9,b1,b2,F,t6,t7,t9,t13,hT0,hS⟩:=h0;have o9:=hS.w9;have hF:∀ b,F.mem b->w.heap.size<=b:=fun b hb=>(hT0.fdom b hb).resolve_left aC;have hb9:=hF b9 (Hl.mem_of o9);have allsub:∀ H∈[R,RW,F.minus (Hl.one b9 (.cells #[.slice none 0 0] 49 (0,0)))],H.sub w1:=by
     intro H hH;simp only[aan,aat,aaX]at hH;rcases hH with rfl | rfl | rfl
     .exact ik sR hT0.oN
     .exact ik sW hT0.oN
     .exact Hl.yH (Hl.tj _ _) hT0.fsub
    have sU:=td allsub;have hRU:=np allsub (R:=R) aC;have hWU:=np allsub (R:=RW) aC;obtain⟨hBR,hBU⟩:=Sf hS (np allsub aC) hRU hWU hI hSh hGd hcv hU hT;have nU:¬(cu [R,RW,F.minus (Hl.one b9 (.cells #[.slice none 0 0] 49 (0,0)))]).mem b9:=fun hm=>by
     obtain⟨H,hH,hm'⟩:=s9.1 hm;simp only[aan,aat,aaX]at hH;rcases hH with rfl | rfl | rfl
     .have:=Hl.sub_lt sR hm';omega
     .have:=Hl.sub_lt sW hm';omega
     .exact Hl.AP F (Hl.one b9 (.cells #[.slice none 0 0] 49 (0,0))) b9 ⟨Hl.cm.2 rfl,hm'⟩
    generalize cu [R,RW,F.minus (Hl.one b9 (.cells #[.slice none 0 0] 49 (0,0)))]=U at sU hRU hWU hBR hBU nU;have hUB:∀ b,U.mem b->b≠w1.heap.size/\b≠w1.heap.size+1:=fun b hb=>by have:=Hl.sub_lt sU hb;omega
    have kfin:∀ (pre:List Pc) (W:World) (r:Loop) (o:Obj),FI w w1.heap.size U b9 (min most 8).toNat all T pre W->pre.map (um all T)=gC st cv all T most->rows w1.heap.size r W->∀ (o:Loop) {Q},
     (∀ W' v F',fh w W' [] [] F'->(∃ a l c:Int,v=.slice (ar a 0) l.toNat c.toNat/\ -1<=a/\0<=l/\0<=c)->qT F' F' v (gC st cv all T most)->Q (.returned v) W') ->
     (Code.seq (kN (gY (gY (gY L8)))) .ret).wpIn Fence.wide 5 Tryz.prog (bodyPostM Fence.wide 5 Tryz.prog Tryz.f75 Q) {a1 with defers:={target:=.collected w1.heap.size,args:=#[]}::a1.defers} (W.putObj (w1.heap.size+1) (.loop o)):=by
     intro pre W r _ hI hp hr o Q hQ;have hI':=hI.put hT0.size (fun hm=>(hUB _ hm).2 rfl) (.loop o);have hr':=tN (r':=o) hr;obtain⟨Fo,f1,f2,f3,f4⟩:=hI'.out;rw[hp]at f2;obtain⟨a,l,c,hc,ha,hl,hc0,hrows⟩:=f2.rows;refine wpIn_seq (KD (p:=9) (d0:=30) (d1:=8) (T:=49) (b:=b9) rfl rfl rfl rfl rfl rfl (by show 30<a1.tmps.size;omega) t9 zzK (Hl.gH f1 hc) (wpIn_ret ?_));refine⟨aC,.inl ⟨_,_,rfl,run_takeDeferred hr'.2,?_⟩⟩;have kk:gK (fun _=>False) w ((W.putObj (w1.heap.size+1) (.loop o)).putObj w1.heap.size (.deferred none)):=yD hI'.cH hT0.size _;have hs:Fo.sub ((W.putObj (w1.heap.size+1) (.loop o)).putObj w1.heap.size (.deferred none)):=xy f1 (fun hm=>(f4 _ hm).2.1 rfl) _;have hv:∀ v:Value,((({a1 with defers:={target:=.collected w1.heap.size,args:=#[]}::a1.defers} : Act).put (some 30) v).put (some 8) v).tmps[8]?=some v:=fun v=>by
      simp [Act.put,aaE,hsz]
     rw[hdf]at hv ⊢;refine⟨_,results_tmp hrs _ _ _,?_⟩;have e8:∀ (t:Array Value) (v:Value),t[8]?=some v->t.getD 8 undef=v:=fun t v h=>by
      rw[Array.getD_eq_getD_getElem?,h];rfl
     rw[e8 _ _ (hv _)];exact hQ _ _ Fo ⟨kk.os,kk.tape,kk.output,kk.size,fun b hb _=>kk.block b hb adB,rfl,fun H h=>(nomatch h),hs,fun H h=>(nomatch h),fun b hb=>Or.inr (f4 b hb).1,fun p q H K _ h=>(by simp at h),fun H h=>(nomatch h)⟩ ⟨a,l,c,rfl,ha,hl,hc0⟩ hrows
    have hg:a1.eval (.tmp 13)=.func (.func 151) #[] #[.pointer (some ⟨b1,0,none⟩),.pointer (some ⟨b2,0,none⟩)]:=by simp [Act.eval,t13,pN]
    have hQ:∀ (W':World) (v:Value) (F':Hl),fh w W' [] [] F'->(∃ a l c:Int,v=.slice (ar a 0) l.toNat c.toNat/\ -1<=a/\0<=l/\0<=c)->qT F' F' v (gC st cv all T most) ->
     ∃ (J:Env) (Hs':List Hl) (F:Hl),Ending.returned v=.returned ((j7 0 rH.res).ev J)/\fe 0 rH.res J/\fh w W' [] Hs' F/\rH.post [.pointer (some ⟨x,0,none⟩),Dg cv,.agg #[.bool all,.slice (ar ux uy) (T.map aS).length uc],.int .i64 most] [] [R,RW] ((j7 0 rH.res).ev J) Hs' F:=by
     rintro W' v F' hT' ⟨a,l,c,rfl,ha,hl,hc⟩ hr;refine⟨(bh fun k=>if k=0 then a else if k=2 then l else if k=3 then c else 0),[],F',rfl,⟨⟨ha,aar 0,hl,hc⟩,zzT⟩,hT',?_⟩;intro x' R' RW' st' cv' all' u' T' most' e1 e2 hI' hU';simp only[aag,aau]at e1 e2;obtain⟨ex,ec,eu,em⟩:=e1;obtain⟨rfl,rfl⟩:=e2;obtain rfl:x=x':=by simpa using ex
     obtain⟨rfl,rfl⟩:all=all'/\Value.slice (ar ux uy) (T.map aS).length uc=u':=by simpa using eu
     obtain rfl:most=most':=by simpa using em
     have eT:=dY (hU.uniq hU');subst eT;rw[<-nR (fun i hi=>hI.st hI' hi) (B6 ec)];exact hr
    have eC:∀ {o:Obj},w1.heap[b9]?=some o->(Hl.one b9 o).sub w1:=fun h i x hx=>by
     obtain⟨rfl,rfl⟩:=Hl.mK hx;exact h
    refine wpIn_block (LN (gf:=151) (lb:=#[.pointer (some ⟨b1,0,none⟩),.pointer (some ⟨b2,0,none⟩)]) (Y:=UH (FI w w1.heap.size U b9 (min most 8).toNat all T) st cv) (Z:=fun s W=>FI w w1.heap.size U b9 (min most 8).toNat all T (s.1++[s.2.1]) W) (args:=fun s=>#[.agg s.2.2.toArray])
     (Done:=fun W=>∃ k,fx st (fv cv) k 6=[]/\FI w w1.heap.size U b9 (min most 8).toNat all T (eJ st (fv cv) k) W)
     (Ix:=fun i W=>i=0/\∃ pre,pre <+: eJ st (fv cv) 401/\min most 8<=pre.length/\FI w w1.heap.size U b9 (min most 8).toNat all T pre W) hg (fun args w=>x9 zzK args w) (fun s=>rfl) ?_ ?_ ?_ ?_)
    .intro rc;refine J2 hBR (N:=400) hlen ah (fun pre W h=>h.u) (fun pre W W' h k=>h.mono k) ?_;have k2:=xj (yC w1 (.deferred (some []))) (yC (w1.alloc (.deferred (some []))) (.loop rc));refine⟨xj hT0.oN k2,by simp [World.size_alloc],ik sU k2,abn _,_,?_,oY.mk (b9:=b9) (a:= -1) (l:=0) (c:=0) (G:=Hl.none) (KB:=Hl.none) (rows:=[]) (L:=[]) (Hl.xW _) ⟨ah,rfl,ah,sE.nil _ _ _,rfl,fun b o h=>(by cases h),fun b h=>(by cases h),fun j row p h=>by simp at h⟩,?_,?_⟩
     .rw[jB,Hl.jg];exact ik (eC (hT0.fsub _ _ o9)) k2
     .rw[jB,Hl.jg];exact fun b ⟨h1,h2⟩=>nU (Hl.cm.1 h1▸h2)
     .rw[jB,Hl.jg];intro b hb;have e:=Hl.cm.1 hb;have:=Hl.sub_lt hT0.fsub (Hl.mem_of o9);omega
    .intro rc s W hY hr;obtain⟨s1,s2,s3,s4,s5⟩:=Wl (.agg s.2.2.toArray) hsz;have ez:∀ v:Value,((#[14]:Array Tmp).zip #[v]).foldl (fun t (x:Tmp×Value)=>match x with | (p,v)=>t.setIfInBounds p v) a1.tmps=a1.tmps.setIfInBounds 14 v:=fun v=>aC;show(UZ Pm).wpIn _ _ _ _ {tmps:=((#[14]:Array Tmp).zip #[Value.agg s.2.2.toArray]).foldl (fun t (x:Tmp×Value)=>match x with | (p,v)=>t.setIfInBounds p v) a1.tmps,defers:=[]} _;rw[ez];exact L9 hBU hUB hT0.size hY hr hlen s1 rfl (s2.trans t6) (s3.trans t7) (s4.trans t9) s5
    .rintro r r' W ⟨k,hk,hI'⟩ hr;refine kfin _ W r (.loop r') hI' ?_ hr r' hQ;unfold gC;rw[OG hk hI'.len hlen]
    .rintro r r' i W ⟨rfl,pre,hp,hle,hI'⟩ hr;refine kfin _ W r (.loop r') hI' ?_ hr r' hQ;unfold gC;rw[zM hp (by have:=hI'.len;omega)]
   | _=>exact absurd h0.1 aC
  | _=>exact absurd h0.1 aC
 | _=>exact absurd h0.1 aC
end Go.Proofs.YtomdimlnggpgbaaGreatDoor
namespace Go.Proofs.YtomdimlnggpgbaaGreatDoor
open Go Go.RowKit Go.Extern.Stop Go.Stop Go.Extern
def Ht (t:Addr) (w:World):(ReflectliteValue.unpack (.iface 166 (.pointer (some t)))).run Tryz.prog w=.ok (.agg #[.pointer (some ⟨7,166,none⟩),.pointer (some ⟨w.heap.size,0,none⟩),.int .u64 150]) (w.alloc (.cells #[.pointer (some t)] 166)):=by kernel_rfl
def QG (a:Addr) (w:World):(ReflectliteValue.methodAny (ReflectliteValue.valueError "reflectlite.Value.Type" 0) (fun t _ _ _=>ReflectliteType.toType t) #[.agg #[.pointer (some ⟨7,166,none⟩),.pointer (some a),.int .u64 150]]).run Tryz.prog w=.ok (.iface 243 (.agg #[.pointer (some ⟨7,166,none⟩)])) w:=by kernel_rfl
def QD (h:Value) (w:World):(Go.method 431 243 (.agg #[h]) "Kind").run Tryz.prog w=.ok (224,h) w:=by kernel_rfl
def QA (w:World):((ReflectliteType.abiMethod fun t=>(fun a:Nat=>Value.int IntKind.u8 (a:Int)) <$>Rtype.kind t) #[.pointer (some ⟨7,166,none⟩)]).run Tryz.prog w=.ok (.int .u8 22) w:=by kernel_rfl
def Qz (w:World):((ReflectliteType.abiMethod fun t=>(fun a:Nat=>Value.int IntKind.u8 (a:Int)) <$>Rtype.kind t) #[.pointer (some ⟨7,164,none⟩)]).run Tryz.prog w=.ok (.int .u8 22) w:=by kernel_rfl
def RI (z:Sem Value) (f:TypeId->Addr->Nat->Nat->Sem Value) (v:Value):ReflectliteValue.method z f #[v]=(do match<-ReflectliteValue.parts v with | none=>z | some (t,a,fl)=>f t a fl (fl%32)):=rfl
def EW (a:Addr) (w:World):(ReflectliteValue.parts (.agg #[.pointer (some ⟨7,166,none⟩),.pointer (some a),.int .u64 150])).run Tryz.prog w=.ok (some (166,a,150)) w:=by kernel_rfl
def N4 (a p:Addr) (W:World) (ha:W.cell? a=some (.pointer (some p))):(ReflectliteValue.method (ReflectliteValue.valueError "reflectlite.Value.IsNil" 0) ReflectliteValue.isNil #[.agg #[.pointer (some ⟨7,166,none⟩),.pointer (some a),.int .u64 150]]).run Tryz.prog W=.ok (.bool false) W:=by
 rw[RI];simp only[Sem.run_bind,EW,Result.andThen];simp [ReflectliteValue.isNil,loadVar,isAgg,underlying,Tryz.underlying166,ha,Result.andThen]
def QB (h:Value) (w:World):(Go.method 431 243 (.agg #[h]) "Elem").run Tryz.prog w=.ok (239,.agg #[h]) w:=by kernel_rfl
def QC (h:Value) (w:World):(Go.method 431 243 (.agg #[h]) "Implements").run Tryz.prog w=.ok (240,.agg #[h]) w:=by kernel_rfl
def TE (h:Value) (w:World):(Go.method 431 243 (.agg #[h]) "AssignableTo").run Tryz.prog w=.ok (237,.agg #[h]) w:=by kernel_rfl
def Qx (w:World):(ReflectliteType.method ReflectliteType.elem #[.agg #[.pointer (some ⟨7,166,none⟩)]]).run Tryz.prog w=.ok (.iface 243 (.agg #[.pointer (some ⟨7,164,none⟩)])) w:=by kernel_rfl
def TD (w:World):(ReflectliteType.relation "Implements" ReflectliteType.implements_ #[.agg #[.pointer (some ⟨7,164,none⟩)],.iface 243 (.agg #[.pointer (some ⟨7,107,none⟩)])]).run Tryz.prog w=.ok (.bool true) w:=by kernel_rfl
def QE (v:Value) (w:World):(ReflectliteType.typeOf #[.iface 164 v]).run Tryz.prog w=.ok (.iface 243 (.agg #[.pointer (some ⟨7,164,none⟩)])) w:=by kernel_rfl
def QF (v:Value) (w:World):(ReflectliteType.typeOf #[.iface 222 v]).run Tryz.prog w=.ok (.iface 243 (.agg #[.pointer (some ⟨7,222,none⟩)])) w:=by kernel_rfl
def TA (w:World):(ReflectliteType.relation "AssignableTo" ReflectliteType.assignableTo #[.agg #[.pointer (some ⟨7,164,none⟩)],.iface 243 (.agg #[.pointer (some ⟨7,164,none⟩)])]).run Tryz.prog w=.ok (.bool true) w:=by kernel_rfl
def TC (w:World):(ReflectliteType.relation "AssignableTo" ReflectliteType.assignableTo #[.agg #[.pointer (some ⟨7,222,none⟩)],.iface 243 (.agg #[.pointer (some ⟨7,164,none⟩)])]).run Tryz.prog w=.ok (.bool false) w:=by kernel_rfl
def Hr (e:Addr) (w:World):(ReflectliteValue.unpack (.iface 164 (.pointer (some e)))).run Tryz.prog w=.ok (.agg #[.pointer (some ⟨7,164,none⟩),.pointer (some ⟨w.heap.size,0,none⟩),.int .u64 150]) (w.alloc (.cells #[.pointer (some e)] 164)):=by kernel_rfl
def N1 (w:World):(Rtype.elem? 166).run Tryz.prog w=.ok (some 164) w:=by kernel_rfl
def Yv (p:Addr) (w:World):(ReflectliteValue.mk 164 p ReflectliteValue.flagAddr).run Tryz.prog w=.ok (.agg #[.pointer (some ⟨7,164,none⟩),.pointer (some p),.int .u64 406]) w:=by kernel_rfl
def Qy (a p:Addr) (W:World) (ha:W.cell? a=some (.pointer (some p))):(ReflectliteValue.method (ReflectliteValue.valueError "reflectlite.Value.Elem" 0) ReflectliteValue.elem #[.agg #[.pointer (some ⟨7,166,none⟩),.pointer (some a),.int .u64 150]]).run Tryz.prog W=.ok (.agg #[.pointer (some ⟨7,164,none⟩),.pointer (some p),.int .u64 406]) W:=by
 rw[RI];simp only[Sem.run_bind,EW,Result.andThen];simp [ReflectliteValue.elem,loadVar,isAgg,underlying,Tryz.underlying166,ha,Result.andThen,N1,Yv]
def V6 (v x:Value):ReflectliteValue.set #[v,x]=(do
 let (some (dst,a,fl),some (src,b,_)):=(<-ReflectliteValue.parts v,<-ReflectliteValue.parts x)
  | unsupported (.noEntry "extern/(internal/reflectlite.Value).Set.zeroValue")
 if fl/ReflectliteValue.flagAddr%2==0 then unsupported (.noEntry "extern/(internal/reflectlite.Value).Set.unaddressable")
 let val<-loadVar src b
 if<-Rtype.directlyAssignable dst src then storeVar dst a val
 else if<-Rtype.implements dst src then
  if(<-Rtype.kind src)==20 then
   match val with
   | .nilIface=>unsupported (.noEntry "extern/reflectlite: a nil value of one interface type handed on as a value of another")
   | _=>storeVar dst a val
  else storeVar dst a (.iface src val)
 else panicString ("reflectlite.Set: value of type "++(<-Rtype.spelt src)++ " is not assignable to type "++(<-Rtype.spelt dst))
 pure (.tuple #[])):=rfl
def K7 (a:Addr) (w:World):(ReflectliteValue.parts (.agg #[.pointer (some ⟨7,164,none⟩),.pointer (some a),.int .u64 406])).run Tryz.prog w=.ok (some (164,a,406)) w:=by kernel_rfl
def N5 (a:Addr) (w:World):(ReflectliteValue.parts (.agg #[.pointer (some ⟨7,164,none⟩),.pointer (some a),.int .u64 150])).run Tryz.prog w=.ok (some (164,a,150)) w:=by kernel_rfl
def N0 (w:World):(Rtype.directlyAssignable 164 164).run Tryz.prog w=.ok true w:=by kernel_rfl
def V7 (ta b e:Addr) (old:Value) (W:World) (hb:W.cell? b=some (.pointer (some e))) (ht:W.cell? ta=some old) (hf:W.frozen? ta=false) :
 (ReflectliteValue.set #[.agg #[.pointer (some ⟨7,164,none⟩),.pointer (some ta),.int .u64 406],.agg #[.pointer (some ⟨7,164,none⟩),.pointer (some b),.int .u64 150]]).run Tryz.prog W=.ok (.tuple #[]) (W.setCell ta (.pointer (some e))):=by
 rw[V6];simp only[Sem.run_bind,K7,N5,Result.andThen];simp [ReflectliteValue.flagAddr,loadVar,isAgg,underlying,Tryz.underlying164,hb,Result.andThen,N0,storeVar,Value.cells,storeCells,Addr.add];rw[run_store Tryz.prog W ta _ _ (by rfl)];simp [ht,hf]
def TF (v:Value) (xT:TypeId) (w:World):(Instr.typeAssert (.iface 222 v) xT 267 true).run Tryz.prog w=.ok (.tuple #[.nilIface,.bool false]) w:=run_typeAssert_lacksB Tryz.underlying267 (by kernel_rfl) (by kernel_rfl) v xT w
def N7 (v:Value) (xT:TypeId) (w:World):(Instr.typeAssert (.iface 222 v) xT 248 true).run Tryz.prog w=.ok (.tuple #[.iface 222 v,.bool true]) w:=run_typeAssert_hasB Tryz.underlying248 (by kernel_rfl) v xT w
def K6 (v:Value) (w:World):(Go.method 431 222 v "Unwrap").run Tryz.prog w=.ok (232,v) w:=by kernel_rfl
def Hh (w:World):Calls Tryz.prog 61 #[.nilIface] w fun e w'=>e=.returned (.int .i64 0)/\Below w.heap.size w w':=by
 go_enter Tryz.func61,Tryz.ntmps61
 go_wp2
 go_ret
 exact⟨rfl,(Below.refl _ _).alloc (aaz _) _⟩
set_option maxRecDepth 20000 in
def Hg (e:Nat) (s:ByteArray) (c:Int) (w:World) (hg:w.cell? ⟨4,0,none⟩=some (.iface 243 (.agg #[.pointer (some ⟨7,107,none⟩)])))
 (he:w.heap[e]?=some (.cells #[.string s,.int .i64 c] 168 (0,0))) :
 Calls Tryz.prog 61 #[.iface 222 (.agg #[.iface 164 (.pointer (some ⟨e,0,none⟩))])] w fun ev w'=>ev=.returned (.int .i64 c)/\Below w.heap.size w w':=by
 have h1:=@run_callFunc_extern Tryz.prog 138 _ (fun args=>ReflectliteValue.unpack (args.getD 0 (.tuple #[]))) Tryz.func138 (by kernel_rfl) (by kernel_rfl) (by kernel_rfl) (by kernel_rfl);have h2:=@run_callFunc_extern Tryz.prog 139 _ (ReflectliteValue.methodAny (ReflectliteValue.valueError "reflectlite.Value.Type" 0) (fun t _ _ _=>ReflectliteType.toType t)) Tryz.func139 (by kernel_rfl) (by kernel_rfl) (by kernel_rfl) (by kernel_rfl);have h3:=@run_callFunc_extern Tryz.prog 140 _ (ReflectliteValue.method (ReflectliteValue.valueError "reflectlite.Value.IsNil" 0) ReflectliteValue.isNil) Tryz.func140 (by kernel_rfl) (by kernel_rfl) (by kernel_rfl) (by kernel_rfl);have h4:=@run_callFunc_extern Tryz.prog 224 _ (ReflectliteType.abiMethod fun t=>do pure (.int .u8 (<-Rtype.kind t))) Tryz.func224 (by kernel_rfl) (by kernel_rfl) (by kernel_rfl) (by kernel_rfl);have h5:=@run_callFunc_extern Tryz.prog 239 _ (ReflectliteType.method ReflectliteType.elem) Tryz.func239 (by kernel_rfl) (by kernel_rfl) (by kernel_rfl) (by kernel_rfl);have h6:=@run_callFunc_extern Tryz.prog 240 _ (ReflectliteType.relation "Implements" ReflectliteType.implements_) Tryz.func240 (by kernel_rfl) (by kernel_rfl) (by kernel_rfl) (by kernel_rfl);have h7:=@run_callFunc_extern Tryz.prog 129 _ (ReflectliteType.typeOf) Tryz.func129 (by kernel_rfl) (by kernel_rfl) (by kernel_rfl) (by kernel_rfl);have h8:=@run_callFunc_extern Tryz.prog 237 _ (ReflectliteType.relation "AssignableTo" ReflectliteType.assignableTo) Tryz.func237 (by kernel_rfl) (by kernel_rfl) (by kernel_rfl) (by kernel_rfl);have h9:=@run_callFunc_extern Tryz.prog 173 _ (ReflectliteValue.method (ReflectliteValue.valueError "reflectlite.Value.Elem" 0) ReflectliteValue.elem) Tryz.func173 (by kernel_rfl) (by kernel_rfl) (by kernel_rfl) (by kernel_rfl);have h10:=@run_callFunc_extern Tryz.prog 174 _ (ReflectliteValue.set) Tryz.func174 (by kernel_rfl) (by kernel_rfl) (by kernel_rfl) (by kernel_rfl);have k0:=Ht;have k1:=QG;have k2:=QD;have k3:=QA;have k4:=Qz;have k5:=QB;have k6:=QC;have k7:=TE;have k8:=Qx;have k9:=TD;have k10:=QE;have k11:=QF;have k12:=TA;have k13:=TC;have k14:=Hr;have k15:=TF;have k16:=N7;have k17:=K6;have hlt:4<w.heap.size:=by
  rcases aa5 4 w.heap.size with h | h
  .exact h
  .simp [World.cell?,acE h]at hg
 have hel:e<w.heap.size:=(aaG.1 he).1;have SR:(((w.alloc (.cells #[.pointer none] 164)).alloc (.cells #[.pointer (some ⟨w.heap.size,0,none⟩)] 166)).alloc (.cells #[.pointer (some ⟨7,166,none⟩),.pointer (some ⟨w.heap.size+1,0,none⟩),.int .u64 150] 226)).cell? ⟨4,0,none⟩=some (.iface 243 (.agg #[.pointer (some ⟨7,107,none⟩)])):=by
  rw[World.cell?_alloc_lt _ _ ⟨4,0,none⟩ (by first | (simp;done) | (simp;omega)),World.cell?_alloc_lt _ _ ⟨4,0,none⟩ (by first | (simp;done) | (simp;omega)),World.cell?_alloc_lt _ _ ⟨4,0,none⟩ hlt];exact hg
 have n3:=N4 ⟨w.heap.size+1,0,none⟩ ⟨w.heap.size,0,none⟩ (((w.alloc (.cells #[.pointer none] 164)).alloc (.cells #[.pointer (some ⟨w.heap.size,0,none⟩)] 166)).alloc (.cells #[.pointer (some ⟨7,166,none⟩),.pointer (some ⟨w.heap.size+1,0,none⟩),.int .u64 150] 226)) (by rw[World.cell?_alloc_lt _ _ ⟨w.heap.size+1,0,none⟩ (by first | (simp;done) | (simp;omega)),World.cell?_alloc_at _ _ _ _ Sx.aC];rfl);have ht5:(((((w.alloc (.cells #[.pointer none] 164)).alloc (.cells #[.pointer (some ⟨w.heap.size,0,none⟩)] 166)).alloc (.cells #[.pointer (some ⟨7,166,none⟩),.pointer (some ⟨w.heap.size+1,0,none⟩),.int .u64 150] 226)).alloc (.cells #[.pointer (some ⟨7,166,none⟩),.pointer (some ⟨w.heap.size+1,0,none⟩),.int .u64 150] 226)).alloc (.cells #[.iface 164 (.pointer (some ⟨e,0,none⟩))] 222)).cell? ⟨w.heap.size,0,none⟩=some (.pointer none):=by
  rw[World.cell?_alloc_lt _ _ ⟨w.heap.size,0,none⟩ (by first | (simp;done) | (simp;omega)),World.cell?_alloc_lt _ _ ⟨w.heap.size,0,none⟩ (by first | (simp;done) | (simp;omega)),World.cell?_alloc_lt _ _ ⟨w.heap.size,0,none⟩ (by first | (simp;done) | (simp;omega)),World.cell?_alloc_lt _ _ ⟨w.heap.size,0,none⟩ (by first | (simp;done) | (simp;omega)),World.cell?_alloc_at _ _ _ _ Sx.aC];rfl
 have el:=Qy ⟨w.heap.size+1,0,none⟩ ⟨w.heap.size,0,none⟩ (((((w.alloc (.cells #[.pointer none] 164)).alloc (.cells #[.pointer (some ⟨w.heap.size,0,none⟩)] 166)).alloc (.cells #[.pointer (some ⟨7,166,none⟩),.pointer (some ⟨w.heap.size+1,0,none⟩),.int .u64 150] 226)).alloc (.cells #[.pointer (some ⟨7,166,none⟩),.pointer (some ⟨w.heap.size+1,0,none⟩),.int .u64 150] 226)).alloc (.cells #[.iface 164 (.pointer (some ⟨e,0,none⟩))] 222)) (by
  rw[World.cell?_alloc_lt _ _ ⟨w.heap.size+1,0,none⟩ (by first | (simp;done) | (simp;omega)),World.cell?_alloc_lt _ _ ⟨w.heap.size+1,0,none⟩ (by first | (simp;done) | (simp;omega)),World.cell?_alloc_lt _ _ ⟨w.heap.size+1,0,none⟩ (by first | (simp;done) | (simp;omega)),World.cell?_alloc_at _ _ _ _ Sx.aC];rfl)
 have st:=V7 ⟨w.heap.size,0,none⟩ ⟨w.heap.size+1+1+1+1+1,0,none⟩ ⟨e,0,none⟩ (.pointer none) ((((((w.alloc (.cells #[.pointer none] 164)).alloc (.cells #[.pointer (some ⟨w.heap.size,0,none⟩)] 166)).alloc (.cells #[.pointer (some ⟨7,166,none⟩),.pointer (some ⟨w.heap.size+1,0,none⟩),.int .u64 150] 226)).alloc (.cells #[.pointer (some ⟨7,166,none⟩),.pointer (some ⟨w.heap.size+1,0,none⟩),.int .u64 150] 226)).alloc (.cells #[.iface 164 (.pointer (some ⟨e,0,none⟩))] 222)).alloc (.cells #[.pointer (some ⟨e,0,none⟩)] 164))
  (by rw[World.cell?_alloc_at _ _ _ _ Sx.aC];rfl)
  (by rw[World.cell?_alloc_lt _ _ ⟨w.heap.size,0,none⟩ (by first | (simp;done) | (simp;omega))];exact ht5)
  (by rw[World.frozen?_alloc_old _ _ ⟨w.heap.size,0,none⟩ (by first | (simp;done) | (simp;omega)),World.frozen?_alloc_old _ _ ⟨w.heap.size,0,none⟩ (by first | (simp;done) | (simp;omega)),World.frozen?_alloc_old _ _ ⟨w.heap.size,0,none⟩ (by first | (simp;done) | (simp;omega)),World.frozen?_alloc_old _ _ ⟨w.heap.size,0,none⟩ (by first | (simp;done) | (simp;omega)),World.frozen?_alloc_old _ _ ⟨w.heap.size,0,none⟩ Sx.aC];simp)
 have bl:Below w.heap.size w ((((((w.alloc (.cells #[.pointer (some ⟨e,0,none⟩)] 164)).alloc (.cells #[.pointer (some ⟨w.heap.size,0,none⟩)] 166)).alloc (.cells #[.pointer (some ⟨7,166,none⟩),.pointer (some ⟨w.heap.size+1,0,none⟩),.int .u64 150] 226)).alloc (.cells #[.pointer (some ⟨7,166,none⟩),.pointer (some ⟨w.heap.size+1,0,none⟩),.int .u64 150] 226)).alloc (.cells #[.iface 164 (.pointer (some ⟨e,0,none⟩))] 222)).alloc (.cells #[.pointer (some ⟨e,0,none⟩)] 164)):=((((((Below.refl _ _).alloc (aaz _) _).alloc Sx.aC _).alloc (by first | (simp;done) | (simp;omega)) _).alloc (by first | (simp;done) | (simp;omega)) _).alloc (by first | (simp;done) | (simp;omega)) _).alloc (by first | (simp;done) | (simp;omega)) _;have hc:((((((w.alloc (.cells #[.pointer (some ⟨e,0,none⟩)] 164)).alloc (.cells #[.pointer (some ⟨w.heap.size,0,none⟩)] 166)).alloc (.cells #[.pointer (some ⟨7,166,none⟩),.pointer (some ⟨w.heap.size+1,0,none⟩),.int .u64 150] 226)).alloc (.cells #[.pointer (some ⟨7,166,none⟩),.pointer (some ⟨w.heap.size+1,0,none⟩),.int .u64 150] 226)).alloc (.cells #[.iface 164 (.pointer (some ⟨e,0,none⟩))] 222)).alloc (.cells #[.pointer (some ⟨e,0,none⟩)] 164)).cell? ⟨e,1,none⟩=some (.int .i64 c):=by
  rw[bl.cell hel];simp [World.cell?,he]
 go_enter Tryz.func61,Tryz.ntmps61
 go_wp2
 refine wp_loop_rounds 2 ?_;rw[rounds_succ]
 go_wp2
 rw[rounds_succ]
 go_wp2
 go_ret
 exact⟨rfl,bl⟩
end Go.Proofs.YtomdimlnggpgbaaGreatDoor
namespace Go.Proofs.YtomdimlnggpgbaaGreatDoor
open Go Go.Sx Go.RowKit
variable {v:Value}
def Aw:Value:=.iface 243 (.agg #[.pointer (some ⟨7,107,none⟩)])
def VB (b:Nat):Value:=.iface 222 (.agg #[.iface 164 (.pointer (some ⟨b,0,none⟩))])
def vp (R:Hl) (v:Value) (c:Int):Prop:=(c=0/\v=.nilIface)\/∃ (b:Nat) (s:ByteArray),v=VB b/\R b=some (.cells #[.string s,.int .i64 c] 168 (0,0))
def vp.ZT {R:Hl} {c d:Int} (h:vp R v c) (k:vp R v d):c=d:=by
 rcases h with ⟨rfl,rfl⟩ | ⟨b,s,rfl,hb⟩<;>rcases k with ⟨rfl,e⟩ | ⟨b',s',e,hb'⟩
 .rfl
 .cases e
 .cases e
 .simp only[VB,Value.iface.injEq,aaZ,Value.agg.injEq,aaH,aag,aau,Value.pointer.injEq,aak,Addr.mk.injEq]at e;subst e;rw[hb]at hb';simp at hb';exact hb'.2
def uQ:Sx.Spec where
 fn:=61
 own:=[]
 rd:=[7000168,2000004]
 res:=[.one (.int .i64)]
 pre:=fun xs Hs Rs=>∃ e R G c,xs=[e]/\Rs=[R,G]/\G.cell 4 0=some Aw/\vp R e c
 post:=fun xs Hs Rs v Hs' F=>∃ e R G,xs=[e]/\Rs=[R,G]/\∀ c,vp R e c->v=.int .i64 c
def Hl.Mq {R:Hl} {w:World} (h:R.sub w) {b y:Nat} (hc:R.cell b y=some v):w.cell? ⟨b,y,none⟩=some v:=by
 unfold Hl.cell at hc;cases hb:R b with
 | none=>rw[hb]at hc;cases hc
 | some o =>
  have hw:=h _ _ hb;rw[hb]at hc;cases o with
  | cells c t f=>simp only[World.cell?,hw];exact hc
  | _=>simp at hc
def Bj:uQ.OK Tryz.prog:=by
 refine nV rfl fun w xs Rs hs ⟨e,R,G,c,e1,e2,hG,hN⟩=>?_;subst e1 e2;refine⟨.int .i64 c,⟨⟨fun _=>c,fun _=>true,fun _=>.empty,fun _=>.tuple #[],fun _=>Hl.none⟩,rfl,zzT,zzT⟩,?_,_,_,_,rfl,rfl,fun d hd=>by rw[hN.ZT hd]⟩;have hR:=hs R aC;have hg:=Hl.Mq (hs G aC) hG;rcases hN with ⟨rfl,rfl⟩ | ⟨b,s,rfl,hb⟩
 .exact Hh w
 .exact Hg b s c w hg (hR _ _ hb)
end Go.Proofs.YtomdimlnggpgbaaGreatDoor
namespace Go.Proofs.YtomdimlnggpgbaaGreatDoor
open Go Go.Sx Go.Pk
variable {R R1 R2:Hl}{row:List Value}
noncomputable def gW (p:Pc):List Int:=aO (bD p.h)++aO p.b
def MQ {h:Hd} (hx:bS R row h):(bD h).length<=392:=by
 unfold bD;split
 .rename_i hf;have:=sX hx hf.2.1;unfold LS;rw[aac,aR];omega
 .exact abn _
def NJ {n:Nat} (h:n<16384):(aj n).length<=2:=by
 unfold aj;split
 .simp
 .rw[aaL];unfold aj;rw[aay ah];simp
def qf {b:List Int} (h:b.length<=4096):(aO b).length<=b.length+2:=by
 unfold aO;rw[aac];have:=NJ (n:=b.length) ah;omega
def Js {p:Pc} (hx:dz R1 R2 row p) (hb:p.b.length<=2100):(gW p).length<=3036/\(gW p).length<=396+p.b.length:=by
 have h1:=MQ hx.hd;have h2:=qf (b:=bD p.h) ah;have h3:=qf (b:=p.b) ah;unfold gW;rw[aac];omega
noncomputable def xt:Sx.Spec where
 fn:=106
 own:=[]
 rd:=[1000053,1000125]
 res:=[.one .sl,.one .any]
 pre:=fun xs Hs Rs=>∃ row T B p,xs=[.agg row.toArray]/\Rs=[T,B]/\dz T B row p/\p.b.length<=2100
 post:=fun xs Hs Rs v Hs' F=>∃ u,v=.tuple #[u,.nilIface]/\∀ row T B p,xs=[.agg row.toArray]->Rs=[T,B]->dz T B row p->fC F u (gW p)
noncomputable def Xa:List Sx.Spec:=[fJ 146,rZ,rz]
def TW:∀ t∈Xa,t.OK Tryz.prog:=av DP <| av AX <| av yY <| bN
def YD (f:FuncId):(fJ f).res=[.one .sl]:=rfl
def YE:rZ.res=[]:=rfl
def YF:rz.res=[.one .sl,.one (.int .i64)]:=rfl
def YC (n:Nat):(aT n [Cp.one .sl,Cp.one (.int .i64)]≠[])=True:=by simp [aT,Cp.roots,Ck.root]
noncomputable def Jt:aF Tryz.prog Xa xt.fn where
 Λ:=aD
 args:=(bW 0 [.agg xc]).map .sv
 mem:=[.ro 132 [.var 53] false,.ro 133 [.var 128] true]
 nv:=134
set_option maxRecDepth 20000 in
def Hy:xt.OK Tryz.prog:=by
 refine Spec.aV (Γ:=Xa) TW ?_;rintro xs Hs Rs hl1 hl2 ⟨row,T,B,p,rfl,rfl,hx,hlen⟩;have e0:Hs=[]:=aad.1 hl1;subst e0;obtain⟨J,rfl,hnw,hh⟩:=CN (ks:=gJ) [(132,T),(133,B)] hx.ok;have w1:J.h 132=T:=hh 132;have w2:J.h 133=B:=hh 133;refine⟨Jt,J,fun _ _=>True,fun _ _=>0,rfl,cD (by intro r hr;simp [Jt]at hr;rcases hr with rfl | rfl<;>exact⟨_,_,_,rfl⟩) (by show [J.h 132,J.h 133]=_;rw[w1,w2]),(fun _ h=>nomatch h),?_⟩;refine aF.read [bU] [] [] ?_;simp only[go_sem,Nat.reduceAdd,Xa,YD,YE,YF,YC,Jy];generalize hrow0:(ak 0 gJ).map (CV.ev J)=row at *;have ht0:(ak 0 bU).map (CV.ev J)=row.take 125:=by rw[<-hrow0,oy]
 have hb0:Value.slice (ar (J.i 128) (J.i 129)) (J.i 130).toNat (J.i 131).toNat=row.getD 125 Ct:=by rw[<-hrow0,Cz]
 have V:∀ q:Env,ai 134 J q->q.h 132=T/\q.h 133=B/\(ak 0 bU).map (CV.ev q)=row.take 125/\Value.slice (ar (q.i 128) (q.i 129)) (q.i 130).toNat (q.i 131).toNat=row.getD 125 Ct:=fun q g=>by
  refine⟨by rw[g.h 132,w1],by rw[g.h 133,w2],?_,?_⟩
  .rw[<-ht0];exact aaQ Array.toList (Value.agg.inj (fS (ks:=bU) (n:=0) g aA))
  .rw[g.i 128,g.i 129,g.i 130,g.i 131];exact hb0
 intro q1 g1 p1 q2 g2 p2;have G2:ai 134 J q2:=g1.tr g2;obtain⟨x2,x3,xr,xb⟩:=V q2 G2;rw[xr,x2];refine⟨⟨_,T,p.h,rfl,rfl,hx.hd⟩,fun q3 g3 ⟨F3,hp3,hF3,hn3⟩=>?_⟩;have hB:=nT hx.hd hp3;rw[<-hF3 zzT]at hB;have p3:0<=q3.i 135:=by rw[g3.i 135];exact p2
 have e3:Hl.one (q3.i 135).toNat (Obj.cells #[Value.slice (ar (-1) 0) (Int.toNat 0) (Int.toNat 0),Value.bool (aY q3 E.ff)] 208 (0,0))=Hl.one (q3.i 135).toNat (.cells #[.slice none 0 0,.bool false] 208 (0,0)):=rfl;have ep:∀ q:Env,q.i 135=q3.i 135->Value.pointer (ar (q.i 135) 0)=.pointer (some ⟨(q3.i 135).toNat,0,none⟩):=fun q h=>by rw[h,al p3];rfl
 rw[e3,ep q3 rfl];have h1:=MQ hx.hd;refine⟨⟨_,_,_,_,[],false,_,rfl,rfl,rfl,bn.new _,hB.rd.w,aC,ah⟩,fun q4 g4 ⟨F4,⟨p',u',H',R',bs,lg,b2,H'',f1,f2,f3,f4,f5,f6,f7⟩,_⟩=>?_⟩;simp only[aag,aau]at f1 f2 f3 f6;obtain⟨rfl,rfl⟩:=f1;subst f2 f3 f6;obtain⟨rfl,rfl⟩:=(bn.new _).uniq f4;obtain rfl:=hB.rd.w.uniq f5;have t4:jC [] false (bD p.h)=(aO (bD p.h),false):=by unfold jC;rw[aal ah];rfl
 rw[t4]at f7;have f7:bn _ _ (aO (bD p.h)) false:=f7;have G4:ai 134 J q4:=G2.trans (g3.mono.tr g4);obtain⟨y2,y3,yr,yb⟩:=V q4 G4;rw[ep q4 (g4.i 135),yb,y3];have hl1:=qf (b:=bD p.h) ah;have hl2:=qf (b:=p.b) ah;refine⟨⟨_,_,_,_,_,false,p.b,rfl,rfl,rfl,f7,hx.body,ah,ah⟩,fun q5 g5 ⟨F5,⟨p',u',H',R',bs,lg,b2,H'',k1,k2,k3,k4,k5,k6,k7⟩,_⟩=>?_⟩;simp only[aag,aau]at k1 k2 k3 k6;obtain⟨rfl,rfl⟩:=k1;subst k2 k3 k6;obtain⟨rfl,rfl⟩:=f7.uniq k4;obtain rfl:=hx.body.uniq k5;have t5:jC (aO (bD p.h)) false p.b=(gW p,false):=by unfold jC;rw[aal ah];rfl
 rw[t5]at k7;have k7:bn _ _ (gW p) false:=k7;rw[ep q5 (by rw[g5.i 135,g4.i 135])];have hl3:(gW p).length<=16384:=by unfold gW;rw[aac];omega
 refine⟨⟨_,_,_,false,rfl,rfl,k7,ah⟩,fun q6 g6 ⟨F6,⟨p',R',bs,lg,u,m1,m2,m3,m4,m5⟩,hF6,hn6⟩=>?_⟩;simp only[aag,aau]at m1 m2;subst m1 m2;obtain⟨rfl,rfl⟩:=k7.uniq m3;have t6:qN (gW p) false=(gW p,0):=by unfold qN;rw[aal (by simp;omega)]
 rw[t6]at m4 m5;simp only[Value.tuple.injEq,aaH,aag,Value.int.injEq,aaZ,aau]at m4;rw[<-m4.1,<-hF6 zzT]at m5;refine⟨fun _ _=>?_,fun hne=>absurd m4.2 hne⟩;have hn6:=hn6.1;refine⟨[],[5],rfl,rfl,⟨⟨fun k=>q6.i (k+144),fun _=>false,fun _=>.empty,fun _=>.nilIface,fun _=>Hl.none⟩,rfl,⟨hn6.1,hn6.2.1,hn6.2.2.1,hn6.2.2.2⟩,zzT,zzT⟩,_,rfl,fun row' T' B' p' e1 e2 hx'=>?_⟩;simp only[aag,aau,Value.agg.injEq]at e1 e2;have e1:=aaO e1;obtain⟨rfl,rfl⟩:=e2;subst e1;obtain rfl:=hx.uniq hx';show fC (cu [q6.h 144]) _ _;rw[aL];exact m5.rd.w
open Go.Proofs.YtomdimlnggpgbaaGreatDoor.D hiding aQ aD ib
def V5 (r:Nat) (ps:Value) (x:Nat):Hl:=Hl.one r (.cells #[ps,.pointer (some ⟨x,0,none⟩)] 125 (0,0))
structure Pb (H:Hl) (r:Nat) (dp ps:Value) (x:Nat) (HS HI:Hl) (S:SM) (st:Nat->List Pc):Prop where
 so:iP HS ps dp S
 ix:sG HI x st
 d1:(V5 r ps x).bq HS
 d2:(V5 r ps x).bq HI
 d3:HS.bq HI
 hl:H=cu [V5 r ps x,HS,HI]
def fc (H:Hl) (p dp:Value) (S:SM) (st:Nat->List Pc):Prop:=∃ (r:Nat) (ps:Value) (x:Nat) (HS HI:Hl),p=.pointer (some ⟨r,0,none⟩)/\Pb H r dp ps x HS HI S st
def FJ (R:Hl) (p:Value) (st:Nat->List Pc):Prop:=∃ (r:Nat) (ps:Value) (x:Nat),p=.pointer (some ⟨r,0,none⟩)/\R r=some (.cells #[ps,.pointer (some ⟨x,0,none⟩)] 125 (0,0))/\nP R x st
def s7 {A B C:Hl} (h1:A.bq B) (h2:A.bq C) (h3:B.bq C):A.le (cu [A,B,C])/\B.le (cu [A,B,C])/\C.le (cu [A,B,C]):=by
 have hd:∀ (p q:Nat) X Y,p≠q->([A,B,C])[p]?=some X->([A,B,C])[q]?=some Y->X.bq Y:=by
  intro p q X Y hpq hX hY
  match p,q,hX,hY with
  | 0,0,_,_=>exact absurd rfl hpq
  | 0,1,hX,hY=>cases hX;cases hY;exact h1
  | 0,2,hX,hY=>cases hX;cases hY;exact h2
  | 1,0,hX,hY=>cases hX;cases hY;exact Hl.kZ h1
  | 1,1,_,_=>exact absurd rfl hpq
  | 1,2,hX,hY=>cases hX;cases hY;exact h3
  | 2,0,hX,hY=>cases hX;cases hY;exact Hl.kZ h2
  | 2,1,hX,hY=>cases hX;cases hY;exact Hl.kZ h3
  | 2,2,_,_=>exact absurd rfl hpq
  | p+3,_,hX,_=>simp at hX
  | 0,q+3,_,hY=>simp at hY
  | 1,q+3,_,hY=>simp at hY
  | 2,q+3,_,hY=>simp at hY
 exact⟨lu hd (i:=0) rfl,lu hd (i:=1) rfl,lu hd (i:=2) rfl⟩
def fc.rd {H:Hl} {p dp:Value} {S:SM} {st:Nat->List Pc} (h:fc H p dp S st):FJ H p st:=by
 obtain⟨r,ps,x,HS,HI,hp,h⟩:=h;obtain⟨l1,l2,l3⟩:=s7 h.d1 h.d2 h.d3;rw[<-h.hl]at l1 l2 l3;exact⟨r,ps,x,hp,l1 _ _ (Hl.aN _ _),h.ix.rd.mono l3⟩
def sa:Sx.Spec where
 fn:=27
 own:=[.arg 0]
 rd:=[]
 res:=[.one .ptr,.one (.int .i64)]
 links:=[0]
 pre:=fun xs Hs Rs=>∃ dp H D,xs=[dp]/\Hs=[H]/\aE H dp D/\aG (nA D)/\aG (iV D)/\fQ D=0/\(ic D).recs=[]
 post:=fun xs Hs Rs v Hs' F=>∃ dp H D H' pv,xs=[dp]/\Hs=[H]/\aE H dp D/\Hs'=[H']/\aE H' dp D/\v=.tuple #[pv,.int .i64 0]/\fc F pv dp (ic D) (fun _=>[])
def Xb:List Sx.Spec:=[uZ,Fs,IZ,uQ]
def T0:∀ t∈Xb,t.OK Tryz.prog:=av Lu <| av OO <| av M5 <| av Bj <| bN
def YG:uZ.res=[.one .ptr,.one (.int .i64)]:=rfl
def YH:Fs.res=[.one .sl]:=rfl
def YI:IZ.res=[.one .ptr]:=rfl
def zB:aF Tryz.prog Xb sa.fn where
 Λ:=fun p=>if SC p [60,1,1,0,1,0,0,1,1]then some ⟨0,[],[],0⟩else none
 args:=[TP (.var 0) (.lit 0)]
 mem:=[.hp 1 [] [.var 0] []]
 nv:=2
set_option maxRecDepth 4000 in
def Bl:sa.OK Tryz.prog:=by
 refine Spec.aV (Γ:=Xb) T0 ?_;rintro xs Hs Rs hl1 hl2 ⟨dp,H,D,rfl,rfl,hD,hlo,hhi,hE,hrec⟩;have e1:Rs=[]:=aad.1 hl2;subst e1;obtain⟨da,s,m,es,clock,hdp,hDi⟩:=id hD;refine⟨zB,aQ [(da:Int)] false [Hl.none,H],fun _ _=>True,fun _ _=>0,?_,⟨?_,?_,?_,?_⟩,(fun _ h=>nomatch h),?_⟩
 .show [Value.pointer (ar (da:Int) 0)]=_;rw[js,hdp]
 .intro r hr ho;simp [zB]at hr;subst hr;exact⟨H,aC,Hl.le_refl _⟩
 .intro r hr ho;simp [zB]at hr;subst hr;cases ho
 .simp [zB]
 .intro r hr;simp [zB]at hr;subst hr;trivial
 refine aF.read [] [] [] ?_;generalize hρ:aQ [(da:Int)] false [Hl.none,H]=J;have v0:J.i 0=da:=by rw[<-hρ];rfl
 have w1:J.h 1=H:=by rw[<-hρ];rfl
 clear hρ;have ep:Value.pointer (ar (da:Int) 0)=dp:=by rw[js,hdp]
 simp only[go_sem,Nat.reduceAdd,Xb,YG,YH,YI,Jy,RK,ZG];rw[v0,w1,ep];refine⟨⟨dp,H,D,rfl,rfl,hD,hlo,hhi⟩,fun q1 g1 ⟨F1,hp1,hF1,hn1⟩=>?_⟩;obtain⟨pv,hD1,hv,hS,_⟩:=HQ hD hp1;simp only[Value.tuple.injEq,aaH,aag,Value.int.injEq,aaZ,aau]at hv;obtain⟨rfl,hv⟩:=hv;have h4:q1.i 4=0:=hv.trans hE;have hS:=hS hE;rw[<-hF1 zzT]at hS;refine⟨fun hne=>absurd h4 hne,fun _=>⟨⟨_,_,dp,ic D,rfl,rfl,hS.rd,by rw[hrec];simp,fun r hr=>by rw[hrec]at hr;cases hr⟩,fun q2 g2 ⟨F2,hp2,hF2,hn2⟩=>⟨rfl,fun q3 g3 ⟨F3,⟨x,hx,hI⟩,hF3,hn3⟩=>?_⟩⟩⟩;have hR:=Lv hS.rd hp2;rw[hrec]at hR;have h7:q2.i 7=0:=by
  obtain⟨us,ho,_⟩:=hR;have hn:0<=q2.i 7:=hn2.1.2.2.1;rcases ho.2 with ⟨h,_⟩ | ⟨_,_,_,h,_⟩<;>(simp only[Value.slice.injEq]at h;have:=h.2.1;simp at this;omega)
 have h7':q3.i 7=0:=by rw[g3.i 7,h7]
 rw[<-hF3 zzT]at hI;refine⟨ah,fun h=>ah,fun _ q4 g4 p4 hdis=>?_⟩;have A:ai 9 q2 q4:=g3.tr g4;have A1:ai 5 q1 q4:=g2.tr A;have d1:(Hl.one (q4.i 11).toNat (.cells #[.pointer (ar (q4.i 2) (q4.i 3)),.pointer (ar (q4.i 9) (q4.i 10))] 125 (0,0))).bq (q4.h 3):=hdis 4 1 _ _ aA rfl rfl rfl;have d2:(Hl.one (q4.i 11).toNat (.cells #[.pointer (ar (q4.i 2) (q4.i 3)),.pointer (ar (q4.i 9) (q4.i 10))] 125 (0,0))).bq (q4.h 9):=hdis 4 3 _ _ aA rfl rfl rfl;have d3:(q4.h 3).bq (q4.h 9):=hdis 1 3 _ _ aA rfl rfl rfl;have e9:Value.pointer (ar (q4.i 9) (q4.i 10))=.pointer (some ⟨x,0,none⟩):=by rw[g4.i 9,g4.i 10];exact hx
 rw[e9]at d1 d2;refine⟨[[0]],[4,1,3],rfl,rfl,⟨(bh fun k=>if k=0 then q4.i 11 else 0),rfl,⟨by show -1<=q4.i 11;omega,aar 0⟩,zzT,zzT⟩,dp,H,D,_,_,rfl,rfl,hD,rfl,?_,rfl,?_⟩
 .show aE (cu [q4.h 2]) _ _;rw[aL,A1.h 2];exact hD1
 .refine⟨(q4.i 11).toNat,.pointer (ar (q4.i 2) (q4.i 3)),x,q4.h 3,q4.h 9,?_,?_,?_,d1,d2,d3,?_⟩
  .show Value.pointer (ar (q4.i 11) 0)=_;rw[al p4];rfl
  .rw[A1.i 2,A1.i 3,A1.h 3];exact hS
  .rw[g4.h 9];exact hI
  .show cu [Hl.one (q4.i 11).toNat (.cells #[.pointer (ar (q4.i 2) (q4.i 3)),.pointer (ar (q4.i 9) (q4.i 10))] 125 (0,0)),q4.h 3,q4.h 9]=_;rw[e9];rfl
end Go.Proofs.YtomdimlnggpgbaaGreatDoor
namespace Go.Proofs.YtomdimlnggpgbaaGreatDoor
open Go Go.Sx Go.Pk
noncomputable def Jm:Sx.Spec where
 fn:=39
 own:=[]
 rd:=[0,1002001]
 res:=[.one .sl]
 pre:=fun xs Hs Rs=>∃ (pr:Value) (R RW:Hl) (st:Nat->List Pc) (cv:Nat->Int) (all:Bool) (u:Value) (T:List (List Int)) (most:Int),xs=[pr,Dg cv,.agg #[.bool all,u],.int .i64 most]/\Rs=[R,RW]/\FJ R pr st/\oJ st/\Good st/\aJ RW u jF (T.map aS)/\gI T/\(∀ i,i<6->(st i).length<=400)/\∀ i,i<6->0<=cv i/\cv i<18446744073709551616
 post:=fun xs Hs Rs v Hs' F=>∀ (pr:Value) (R RW:Hl) (st:Nat->List Pc) (cv:Nat->Int) (all:Bool) (u:Value) (T:List (List Int)) (most:Int),xs=[pr,Dg cv,.agg #[.bool all,u],.int .i64 most]->Rs=[R,RW]->FJ R pr st->aJ RW u jF (T.map aS)->qT F F v (gC st cv all T most)
noncomputable def VU:List Sx.Spec:=[rH]
def Tz:∀ t∈VU,t.OK Tryz.prog:=fun t ht=>by
 simp only[VU,aan,aat,aaX]at ht;subst ht;exact J0
def pur:rH.res=[.one .sl]:=rfl
noncomputable def RE:aF Tryz.prog VU Jm.fn where
 Λ:=aD
 args:=[TP (.var 0) (.lit 0),.sv (.agg (ak 1 (List.replicate 6 (.int .u64)))),.sv (.agg (ak 7 [.bool,.sl])),TI .i64 (.var 12)]
 mem:=[.ro 13 [.var 0] true,.ro 14 [.var 8] false]
 nv:=15
def NW:Jm.OK Tryz.prog:=by
 refine Spec.aV (Γ:=VU) Tz ?_;rintro xs Hs Rs hl1 hl2 ⟨pr,R,RW,st,cv,all,u,T,most,rfl,rfl,hRl,hS,hG,hU,hT,hlen,hcv⟩;have e0:Hs=[]:=aad.1 hl1;subst e0;obtain⟨ux,uy,uc,rfl,huy,_⟩:=id hU;obtain⟨r,ps,x,rfl,hrb,hIx⟩:=id hRl;refine⟨RE,aQ [r,cv 0,cv 1,cv 2,cv 3,cv 4,cv 5,0,ux,uy,(T.map aS).length,uc,most] all [Hl.none,Hl.none,Hl.none,Hl.none,Hl.none,Hl.none,Hl.none,Hl.none,Hl.none,Hl.none,Hl.none,Hl.none,Hl.none,R,RW],
  fun _ _=>True,fun _ _=>0,?_,cD (by intro r hr;simp [RE]at hr;rcases hr with rfl | rfl<;>exact⟨_,_,_,rfl⟩) rfl,(fun _ h=>(nomatch h)),?_⟩
 .show [Value.pointer (ar (r:Int) 0),Dg cv,.agg #[.bool all,.slice (ar ux uy) (((T.map aS).length:Int)).toNat ((uc:Int)).toNat],.int .i64 most]=_;rw[al ah,aaa,aaa];rfl
 refine aF.read [] [] [] ?_;generalize hρ:aQ [(r:Int),cv 0,cv 1,cv 2,cv 3,cv 4,cv 5,0,ux,uy,(T.map aS).length,uc,most] all [Hl.none,Hl.none,Hl.none,Hl.none,Hl.none,Hl.none,Hl.none,Hl.none,Hl.none,Hl.none,Hl.none,Hl.none,Hl.none,R,RW]=J;have V:∀ q:Env,ai 15 J q->(q.i 0=r/\q.i 1=cv 0/\q.i 2=cv 1/\q.i 3=cv 2/\q.i 4=cv 3/\q.i 5=cv 4/\q.i 6=cv 5)/\(q.i 8=ux/\q.i 9=uy/\q.i 10=(T.map aS).length/\q.i 11=uc/\q.i 12=most)/\q.b 7=all/\q.h 13=R/\q.h 14=RW:=fun q g=>by
  rw[g.i 0,g.i 1,g.i 2,g.i 3,g.i 4,g.i 5,g.i 6,g.i 8,g.i 9,g.i 10,g.i 11,g.i 12,g.b 7,g.h 13,g.h 14,<-hρ];exact⟨⟨rfl,rfl,rfl,rfl,rfl,rfl,rfl⟩,⟨rfl,rfl,rfl,rfl,rfl⟩,rfl,rfl,rfl⟩
 clear hρ;simp only[go_sem,Nat.reduceAdd,VU,pur,Jy];intro q1 g1 _ q2 g2 _;obtain⟨⟨v0,v1,v2,v3,v4,v5,v6⟩,⟨v8,v9,v10,v11,v12⟩,vb,w,ww⟩:=V q2 (g1.tr g2);have cr:R.cell ((r:Int)).toNat (Int.toNat 1)=some (.pointer (some ⟨x,0,none⟩)):=by
  rw[aaa];unfold Hl.cell;rw[hrb];rfl
 have ec:Value.agg (List.map (CV.ev q2) (ak 1 (List.replicate 6 (Ck.int .u64)))).toArray=Dg cv:=by
  show Value.agg #[.int .u64 (q2.i 1),.int .u64 (q2.i 2),.int .u64 (q2.i 3),.int .u64 (q2.i 4),.int .u64 (q2.i 5),.int .u64 (q2.i 6)]=_;rw[v1,v2,v3,v4,v5,v6];rfl
 have eb:aY q2 (.bvar 7)=all:=vb;have ex:∀ {z:Nat},Value.pointer (ar (r:Int) 0)=.pointer (some ⟨r,0,none⟩):=by intro z;rw[al ah];rfl
 rw[v0,w,ww,cr,kP,ec,eb,v8,v9,v10,v11,v12,aaa,aaa];refine⟨ah,rfl,⟨x,R,RW,st,cv,all,_,T,most,rfl,rfl,hIx,hS,hG,hU,hT,hlen,hcv⟩,fun q3 g3 ⟨F3,p3,hF3,n3⟩ _=>?_⟩;have hR:=p3 _ _ _ _ _ _ _ _ _ rfl rfl hIx hU;rw[<-hF3 zzT]at hR;refine⟨[],[4],rfl,zzK,⟨(bh fun k=>q3.i (17+k)),rfl,n3⟩,?_⟩;intro pr' R' RW' st' cv' all' u' T' most' e1 e2 hR' hU';simp only[aag,aau]at e1 e2;obtain⟨rfl,ec',eu,em⟩:=e1;obtain⟨rfl,rfl⟩:=e2;obtain⟨rfl,rfl⟩:all=all'/\Value.slice (ar ux uy) (T.map aS).length uc=u':=by simpa using eu
 obtain rfl:most=most':=by simpa using em
 have eT:=dY (hU.uniq hU');subst eT;have es:∀ i,i<6->st i=st' i:=fun i hi=>by
  obtain⟨r',ps',x',hp',hb',hI'⟩:=hR';obtain rfl:r=r':=by simpa using hp'
  rw[hrb]at hb';obtain⟨rfl,rfl⟩:ps=ps'/\x=x':=by simpa using hb'
  exact hIx.st hI' hi
 rw[<-nR es (B6 ec')];show qT (cu [q3.h 17]) (cu [q3.h 17]) _ _;rw[aL];exact hR
def CC:Sx.Spec where
 fn:=38
 own:=[]
 rd:=[0]
 res:=[.one .bool]
 pre:=fun xs Hs Rs=>∃ va vb R ps,xs=[va,vb]/\Rs=[R]/\qT R R va ps/\qT R R vb ps/\ps.length<=100000
 post:=fun xs Hs Rs v Hs' F=>v=.bool true
noncomputable def VT:List Sx.Spec:=[fJ 71]
def Ty:∀ t∈VT,t.OK Tryz.prog:=fun t ht=>by
 simp only[VT,aan,aat,aaX]at ht;subst ht;exact zn
noncomputable def NV:aF Tryz.prog VT CC.fn where
 Λ:=fun p=>if lp p then some ⟨0,[(5,TI .i64 (.var 30))],[],40⟩else none
 args:=[.sv (.one (.sl (.var 0) (.var 1) (.var 2) (.var 3))),.sv (.one (.sl (.var 4) (.var 5) (.var 6) (.var 7)))]
 mem:=[.ro 8 [.var 0,.var 4] true]
 nv:=9
set_option maxRecDepth 20000 in
def K3:CC.OK Tryz.prog:=by
 refine Spec.aV (Γ:=VT) Ty ?_;rintro xs Hs Rs hl1 hl2 ⟨va,vb,R,ps,rfl,rfl,hA,hB,hlen⟩;have e0:Hs=[]:=aad.1 hl1;subst e0;obtain⟨x,y,c,rfl,hy⟩:∃ x y c,va=.slice (ar x y) ps.length c/\0<=y:=by
  obtain⟨rows,⟨x,y,c,e,hy,_⟩,hl,_⟩:=hA;exact⟨x,y,c,by rw[e,hl],hy⟩
 obtain⟨x2,y2,c2,rfl,hy2⟩:∃ x y c,vb=.slice (ar x y) ps.length c/\0<=y:=by
  obtain⟨rows,⟨x,y,c,e,hy,_⟩,hl,_⟩:=hB;exact⟨x,y,c,by rw[e,hl],hy⟩
 refine⟨NV,aQ [x,y,ps.length,c,x2,y2,ps.length,c2] false [Hl.none,Hl.none,Hl.none,Hl.none,Hl.none,Hl.none,Hl.none,Hl.none,R],fun _ q=>∃ k:Nat,q.i 30=k/\k<=ps.length,fun _ q=>(ps.length-q.i 30).toNat,?_,cD (by intro r hr;simp [NV]at hr;subst hr;exact⟨_,_,_,rfl⟩) rfl,(fun _ h=>(nomatch h)),?_⟩
 .show [Value.slice (ar x y) ((ps.length:Int)).toNat ((c:Int)).toNat,Value.slice (ar x2 y2) ((ps.length:Int)).toNat ((c2:Int)).toNat]=_;simp only[aaa]
 refine aF.read [] [de] [] ?_;generalize hρ:aQ [x,y,ps.length,c,x2,y2,ps.length,c2] false [Hl.none,Hl.none,Hl.none,Hl.none,Hl.none,Hl.none,Hl.none,Hl.none,R]=J;have V:∀ q:Env,ai 9 J q->(q.i 0=x/\q.i 1=y/\q.i 2=ps.length/\q.i 4=x2/\q.i 5=y2/\q.i 6=ps.length)/\q.h 8=R:=fun q g=>by
  rw[g.i 0,g.i 1,g.i 2,g.i 4,g.i 5,g.i 6,g.h 8,<-hρ];exact⟨⟨rfl,rfl,rfl,rfl,rfl,rfl⟩,rfl⟩
 clear hρ;simp only[go_sem,Nat.reduceAdd,VT,Zw,Jy];obtain⟨⟨v0,v1,v2,v4,v5,v6⟩,w⟩:=V J (ai.refl _ _);rw[v2,v6];refine⟨ah,ah,fun hne=>absurd rfl hne,fun _=>⟨⟨0,rfl,ah⟩,fun q1 g1 ⟨k,ek,hk⟩=>?_⟩⟩;obtain⟨⟨v0,v1,v2,v4,v5,v6⟩,w⟩:=V q1 g1;rw[v0,v1,v2,v4,v5,v6,w,ek];refine⟨fun hlt=>?_,fun _=>tH rfl rfl⟩;have qv:k<ps.length:=ah;have hp:ps[k]?=some ps[k]:=aab qv;obtain⟨ra,hra⟩:=(hA.at hy).2 k _ hp;obtain⟨rb,hrb⟩:=(hB.at hy2).2 k _ hp;obtain⟨ua,hca,hba⟩:=hra.body hy;obtain⟨ub,hcb,hbb⟩:=hrb.body hy2;rw[hca,hcb];obtain⟨s1,_,s3,s4⟩:=Be hba;obtain⟨t1,_,t3,t4⟩:=Be hbb;rw[s4,t4];refine⟨hra.x0,hy,ah,s1,s3,hrb.x0,hy2,ah,t1,t3,fun hne=>absurd rfl hne,fun _=>?_⟩;have e1:List.map (CV.ev q1) (aU 8 (.var 0) ((E.var 1).add ((E.var 30).mul (.lit 126))) 0 de)=ra.take 125:=(hra.Rk hy).2 w v0 v1 ek;rw[e1];refine⟨(hra.Rk hy).1,(hrb.Rk hy2).1,⟨_,R,ps[k].h,rfl,rfl,hra.pc.hd⟩,fun q2 g2 ⟨F2,hp2,hF2,hn2⟩=>?_⟩;have B1:=nT hra.pc.hd hp2;rw[<-hF2 zzT]at B1;have n2:-1<=q2.i 40/\0<=q2.i 41/\0<=q2.i 42/\0<=q2.i 43:=hn2.1;obtain⟨⟨u0,u1,u2,u4,u5,u6⟩,uw⟩:=V q2 (g1.tr g2);have xc:q2.i 30=k:=by rw[g2.i 30,ek]
 have e2:List.map (CV.ev q2) (aU 8 (.var 4) ((E.var 5).add ((E.var 30).mul (.lit 126))) 0 de)=rb.take 125:=(hrb.Rk hy2).2 uw u4 u5 xc;rw[e2,uw];refine⟨(nF B1.rd.w n2.2.1 n2.2.2.1).1,⟨_,R,ps[k].h,rfl,rfl,hrb.pc.hd⟩,fun q3 g3 ⟨F3,hp3,hF3,hn3⟩=>?_⟩;have B2:=nT hrb.pc.hd hp3;rw[<-hF3 zzT]at B2;have n3:-1<=q3.i 44/\0<=q3.i 45/\0<=q3.i 46/\0<=q3.i 47:=hn3.1;have B1':bM (q3.h 40) 5 (.slice (ar (q3.i 40) (q3.i 41)) (q3.i 42).toNat (q3.i 43).toNat) (bD ps[k].h):=by
  rw[g3.h 40,g3.i 40,g3.i 41,g3.i 42,g3.i 43];exact B1
 have y1:=nF B1'.rd.w (by rw[g3.i 41];exact n2.2.1) (by rw[g3.i 42];exact n2.2.2.1);have y2:=nF B2.rd.w n3.2.1 n3.2.2.1;rw[y1.2,y2.2];have ew:IntKind.i64.wrap (q3.i 30+1)=((k+1:Nat):Int):=by rw[g3.i 30,xc,IntWalk.i64_in _ ah];omega
 refine⟨y2.1,fun hne=>absurd rfl hne,fun _=>⟨⟨k+1,ew,ah⟩,?_⟩⟩;show((ps.length:Int)-IntKind.i64.wrap (q3.i 30+1)).toNat<_;rw[ew];omega
open Go.Proofs.YtomdimlnggpgbaaGreatDoor.D hiding aQ aD ib
variable {D:DM}{B F H K RG T U:Hl}{a b:Int}{row:List Value}{i r rt x:Nat}{st st':Nat->List Pc}{S S':SM}{dp dp' p v:Value}
structure Zk where
 e:Int
 D:DM
 S:SM
 st:Nat->List Pc
open Classical in
noncomputable def cZ (D:DM) (S:SM) (st:Nat->List Pc) (c:Pc):Zk :=
 if bK st c≠0 then⟨bK st c,D,S,st⟩
 else if(db D S [gW c]).e≠0 then⟨(db D S [gW c]).e,(db D S [gW c]).D,(db D S [gW c]).S,st⟩
 else⟨0,(db D S [gW c]).D,(db D S [gW c]).S,dZ st c⟩
set_option maxRecDepth 20000 in
def Qr (f:Nat->Int) (hs:List (Nat×Hl)) (h:bf row mP):∃ q:Env,q.i 0=a/\row=(ak 1 gJ).map (CV.ev q)/\(∀ k,q.h k=uD hs k)/\(∀ k,133<=k->q.i k=f k):=by
 obtain⟨q,h0,hr,hh,_⟩:=CA (a:=a) hs h;refine⟨⟨fun k=>if 133<=k then f k else q.i k,q.b,q.s,q.v,q.h⟩,h0,?_,hh,fun k hk=>aay hk⟩;rw[hr];have g:ai 133 q ⟨fun k=>if 133<=k then f k else q.i k,q.b,q.s,q.v,q.h⟩:=⟨fun k hk=>aal ah,fun _ _=>rfl,fun _ _=>rfl,fun _ _=>rfl,fun _ _=>rfl⟩;exact(aaQ Array.toList (Value.agg.inj (fS (ks:=gJ) (n:=1) g aA))).symm
def sG.congr (h:sG H x st) (e:∀ i,i<6->st i=st' i):sG H x st':=by
 obtain⟨a,sv,Kc,KB,h⟩:=h;refine⟨a,sv,Kc,KB,by rw[<-Gm e];exact h.bd,fun i hi=>?_,h.le,h.bq,h.nox,fun i hi=>by rw[<-e i hi];exact h.row i hi,h.kb,h.kbx,h.kbc,h.own⟩;have:=h.ch i hi;unfold nu at this ⊢;rw[<-e i hi];exact this
def yA (e:∀ i,i<6->st i=st' i) (p:Pc) (hi:i<6):dZ st p i=dZ st' p i:=by
 unfold dZ;rw[py e p];split
 .unfold vk;split
  .rename_i h;subst h;rw[e _ hi]
  .exact e i hi
 .exact e i hi
noncomputable def zk (rt:Nat):Sx.Spec where
 fn:=30
 own:=[.arg 0,.link 0 0]
 rd:=[rt,1001125,2000000]
 res:=[.one (.int .i64)]
 pre:=fun xs Hs Rs=>∃ p H HD row T B RG g dp S D st c,xs=[p,.agg row.toArray]/\Hs=[H,HD]/\Rs=[T,B,RG]/\fc H p dp S st/\aE HD dp D/\dz T B row c/\c.b.length<=2100/\oJ st/\(Gl RG g/\uf RG 5/\RG.cell 4 0=some Aw)/\S.bA.length<=1048576/\0<=S.LA.serial/\S.recs.length<=1000000000
 post:=fun xs Hs Rs v Hs' F=>∃ p H HD row T B RG dp S D st c H' HD',xs=[p,.agg row.toArray]/\Hs=[H,HD]/\Rs=[T,B,RG]/\fc H p dp S st/\aE HD dp D/\dz T B row c/\Hs'=[H',HD']/\fc H' p dp (cZ D S st c).S (cZ D S st c).st/\aE HD' dp (cZ D S st c).D/\v=.int .i64 (cZ D S st c).e
def Jx:Nd:=(fun a i y q p a2 a6 h b6 a5 a4 t v a7 n o a0 a1 b5=>(fun b c d f g j k b4 r s u w z a8=>(fun l m x a3 a9 b0 b1 b2 b3=>(.ext (.alloc 142) (.ext (.alloc 143) (.and (.pre x) (.ext x (.and (.imp (.eq (.var 144) i) (.and (.pre (.call 1 145 [.sv y] [] w)) (.ext (.call 1 145 [.sv y] [] w) (.and (.e (.le (.vint 149) v)) (.and (.imp (.not (.eq (.vint 149) i)) (.and (.pre a9) (.ext a9 (.post [.bd 0 b 125,.hp 135 [] t h,.hp 136 [] n [],.hp 138 [] h [],.ro 139 q false,.ro 140 p true,.ro 141 a false,.dead,.dead,.hp 145 [] a4 []] (.sv (.one (.int .i64 (.var 150)))))))) (.imp (.eq (.vint 149) i) (.ext (.alloc 150) (.and (.pre l) (.ext l (.and (.imp (.eq (.var 151) i) (.and (.pre (.call 3 154 c u d)) (.ext (.call 3 154 c u d) (.and (.imp (.eq a5 i) (.and (.pre (.call 4 156 o [] z)) (.ext (.call 4 156 o [] z) (.post [.bd 0 b 125,.hp 151 [135] t h,.hp 154 [136] n [],.hp 152 [138] h [],.ro 139 q false,.ro 140 p true,.ro 141 a false,.dead,.dead,.hp 145 [] a4 [],.dead] (.sv (.one (.int .i64 (.var 156)))))))) (.imp (.not (.eq a5 i)) (.ext (.alloc 156) (.ext (.mki 157 164 (.one (.hptr (.var 156) i))) (.and (.e (.le (.vint 157) v)) (.ext (.mki 158 222 (.agg [.vr 157])) (.and (.pre r) (.ext r (.post [.bd 0 b 125,.hp 151 [135] t h,.hp 154 [136] n [],.hp 152 [138] h [],.ro 139 q false,.ro 140 p true,.ro 141 a false,.dead,.dead,.hp 145 [] a4 [],.dead,.dead] a0)))))))))))) (.imp (.not (.eq (.var 151) i)) (.ext (.alloc 154) (.ext (.mki 155 164 (.one (.hptr a5 i))) (.and (.e (.le (.vint 155) v)) (.ext (.mki 156 222 (.agg [.vr 155])) (.and (.e (.le (.vint 156) v)) (.and (.imp (.not (.eq (.vint 156) i)) (.and (.pre b0) (.ext b0 (.post [.bd 0 b 125,.hp 151 [135] t h,.hp 136 [] n [],.hp 152 [138] h [],.ro 139 q false,.ro 140 p true,.ro 141 a false,.dead,.dead,.hp 145 [] a4 [],.dead,.dead] (.sv (.one (.int .i64 a6))))))) (.imp (.eq (.vint 156) i) (.and (.pre a3) (.ext a3 (.and (.imp (.eq a6 i) (.and (.pre (.call 4 159 o [] j)) (.ext (.call 4 159 o [] j) (.post [.bd 0 b 125,.hp 151 [135] t h,.hp 157 [136] n [],.hp 152 [138] h [],.ro 139 q false,.ro 140 p true,.ro 141 a false,.dead,.dead,.hp 145 [] a4 [],.dead,.dead] a0)))) (.imp (.not (.eq a6 i)) (.ext (.alloc 159) (.ext a8 (.and (.e (.le (.vint 160) v)) (.ext b5 (.and (.pre g) (.ext g (.post [.bd 0 b 125,.hp 151 [135] t h,.hp 157 [136] n [],.hp 152 [138] h [],.ro 139 q false,.ro 140 p true,.ro 141 a false,.dead,.dead,.hp 145 [] a4 [],.dead,.dead,.dead] a1))))))))))))))))))))))))))))) (.imp (.not (.eq (.var 144) i)) (.ext (.alloc 145) (.ext (.mki 146 164 (.one (.hptr (.var 145) i))) (.and (.e (.le (.vint 146) v)) (.ext (.mki 147 222 (.agg [.vr 146])) (.and (.e (.le (.vint 147) v)) (.and (.imp (.not (.eq (.vint 147) i)) (.and (.pre b1) (.ext b1 (.post [.bd 0 b 125,.hp 135 [] t h,.hp 136 [] n [],.hp 138 [] h [],.ro 139 q false,.ro 140 p true,.ro 141 a false,.dead,.dead,.dead] (.sv (.one (.int .i64 (.var 148)))))))) (.imp (.eq (.vint 147) i) (.and (.pre (.call 1 148 [.sv y] [] w)) (.ext (.call 1 148 [.sv y] [] w) (.and (.e (.le (.vint 152) v)) (.and (.imp (.not (.eq (.vint 152) i)) (.and (.pre b2) (.ext b2 (.post [.bd 0 b 125,.hp 135 [] t h,.hp 136 [] n [],.hp 138 [] h [],.ro 139 q false,.ro 140 p true,.ro 141 a false,.dead,.dead,.dead,.hp 148 [] a7 []] (.sv (.one (.int .i64 (.var 153)))))))) (.imp (.eq (.vint 152) i) (.ext (.alloc 153) (.and (.pre m) (.ext m (.and (.imp (.eq a5 i) (.and (.pre a3) (.ext a3 (.and (.imp (.eq a6 i) (.and (.pre (.call 4 159 o [] f)) (.ext (.call 4 159 o [] f) (.post [.bd 0 b 125,.hp 154 [135] t h,.hp 157 [136] n [],.hp 155 [138] h [],.ro 139 q false,.ro 140 p true,.ro 141 a false,.dead,.dead,.dead,.hp 148 [] a7 [],.dead] a0)))) (.imp (.not (.eq a6 i)) (.ext (.alloc 159) (.ext a8 (.and (.e (.le (.vint 160) v)) (.ext b5 (.and (.pre g) (.ext g (.post [.bd 0 b 125,.hp 154 [135] t h,.hp 157 [136] n [],.hp 155 [138] h [],.ro 139 q false,.ro 140 p true,.ro 141 a false,.dead,.dead,.dead,.hp 148 [] a7 [],.dead,.dead] a1)))))))))))) (.imp (.not (.eq a5 i)) (.ext (.alloc 157) (.ext (.mki 158 164 (.one (.hptr a6 i))) (.and (.e (.le (.vint 158) v)) (.ext (.mki 159 222 (.agg [.vr 158])) (.and (.e (.le (.vint 159) v)) (.and (.imp (.not (.eq (.vint 159) i)) (.and (.pre b3) (.ext b3 (.post [.bd 0 b 125,.hp 154 [135] t h,.hp 136 [] n [],.hp 155 [138] h [],.ro 139 q false,.ro 140 p true,.ro 141 a false,.dead,.dead,.dead,.hp 148 [] a7 [],.dead,.dead] (.sv (.one (.int .i64 (.var 160)))))))) (.imp (.eq (.vint 159) i) (.and (.pre (.call 3 160 c u d)) (.ext (.call 3 160 c u d) (.and (.imp (.eq (.var 160) i) (.and (.pre (.call 4 162 o [] k)) (.ext (.call 4 162 o [] k) (.post [.bd 0 b 125,.hp 154 [135] t h,.hp 160 [136] n [],.hp 155 [138] h [],.ro 139 q false,.ro 140 p true,.ro 141 a false,.dead,.dead,.dead,.hp 148 [] a7 [],.dead,.dead] a1)))) (.imp (.not (.eq (.var 160) i)) (.ext (.alloc 162) (.ext (.mki 163 164 (.one (.hptr (.var 162) i))) (.and (.e (.le (.vint 163) v)) (.ext (.mki 164 222 (.agg [.vr 163])) (.and (.pre s) (.ext s (.post [.bd 0 b 125,.hp 154 [135] t h,.hp 160 [136] n [],.hp 155 [138] h [],.ro 139 q false,.ro 140 p true,.ro 141 a false,.dead,.dead,.dead,.hp 148 [] a7 [],.dead,.dead,.dead] (.sv (.one (.int .i64 (.var 165)))))))))))))))))))))))))))))))))))))))))))):Nd)) (.call 2 151 [.sv (.one (.hptr (.var 133) i)),.sv (.one (.sl (.var 150) i v v))] b4 [.bd 150 [.sl (.var 145) (.var 146) (.var 147) (.var 148)] 46,.hp 145 [] a4 [],.ro 141 a false]) (.call 2 154 [.sv (.one (.hptr (.var 133) i)),.sv (.one (.sl (.var 153) i v v))] b4 [.bd 153 [.sl (.var 148) (.var 149) (.var 150) (.var 151)] 46,.hp 148 [] a7 [],.ro 141 a false]) (.call 0 144 c [] [.hp 136 [] n [],.ro 139 q false,.ro 140 p true,.ro 141 a false]) (.call 3 157 c u d) (.call 4 150 [.sv (.one (.vr 149))] [] z) (.call 4 157 [.sv (.one (.vr 156))] [] j) (.call 4 148 [.sv (.one (.vr 147))] [] f) (.call 4 153 [.sv (.one (.vr 152))] [] f) (.call 4 160 [.sv (.one (.vr 159))] [] k)) [.hptr (.var 133) i,.hptr (.var 134) i] [.sv (.one (.hptr (.var 134) i)),.sv y] [.ro 139 q false,.ro 140 p true,.ro 141 a false] [.bd 145 [.str (.slit ⟨#[97,115,107]⟩),.int .i64 (.var 144)] 168,.ro 141 a false] (.call 4 162 [.sv (.one (.vr 161))] [] [.bd 159 [.str a2,.int .i64 a6] 168,.ro 141 a false]) [.bd 154 [.str b6,.int .i64 (.var 151)] 168,.ro 141 a false] [.bd 157 [.str b6,.int .i64 a5] 168,.ro 141 a false] [.hp 135 [] t h,.hp 138 [] h []] (.call 4 159 [.sv (.one (.vr 158))] [] [.bd 156 [.str a2,.int .i64 a5] 168,.ro 141 a false]) (.call 4 165 [.sv (.one (.vr 164))] [] [.bd 162 [.str a2,.int .i64 (.var 160)] 168,.ro 141 a false]) [.hp 136 [] n []] [.ro 139 q false,.ro 140 p true] [.dead,.ro 141 a false] (.mki 160 164 (.one (.hptr (.var 159) i)))) [.lit 0,.lit 1,.lit 2,.lit 3,.lit 4,.lit 5] (.lit 0) (.agg (ak 1 xc)) [.var 54] [.var 129] (.slit ⟨#[112,117,116]⟩) (.var 157) [.var 137] (.slit ⟨#[97,100,100]⟩) (.var 154) [.var 145] [.var 133] (.lit 1) [.var 148] [.var 134] [.sv (.one (.val .nilIface))] (.sv (.one (.int .i64 (.var 159)))) (.sv (.one (.int .i64 (.var 162)))) (.mki 161 222 (.agg [.vr 160]))
noncomputable def Xc:List Sx.Spec:=[yw,xt,FL,I0,uQ]
def T1:∀ t∈Xc,t.OK Tryz.prog:=av Ee <| av Hy <| av Pf <| av Na <| av Bj <| bN
def YN:xt.res=[.one .sl,.one .any]:=rfl
def YO:FL.res=[.one (.int .i64)]:=rfl
def YP:I0.res=[.one (.int .i64)]:=rfl
def YQ:uQ.res=[.one (.int .i64)]:=rfl
def YM (n:Nat):(aT n [Cp.one .sl,Cp.one .any]≠[])=True:=by simp [aT,Cp.roots,Ck.root]
def Bo:Mem:=[.bd 0 [.hptr (.var 133) (.lit 0),.hptr (.var 134) (.lit 0)] 125,.hp 135 [] [.var 133] [.var 137],.hp 136 [] [.var 134] [],.hp 138 [] [.var 137] [],.ro 139 [.var 54] false,.ro 140 [.var 129] true,.ro 141 [.lit 0,.lit 1,.lit 2,.lit 3,.lit 4,.lit 5] false]
noncomputable def Jn:aF Tryz.prog Xc 30 where
 Λ:=aD
 args:=TP (.var 0) (.lit 0)::(bW 1 [.agg xc]).map .sv
 mem:=Bo
 nv:=142
set_option maxRecDepth 20000 in
def ET (rt:Nat):(zk rt).OK Tryz.prog:=by
 refine jU (Γ:=Xc) T1 ?_;rintro xs Hs Rs hl1 hl2 hdis ⟨p,H,HD,row,T,B,RG,g,dp,S,D,st,c,rfl,rfl,rfl,hR,hD,hx,hlen,hSh,⟨hGl,hK,hEt⟩,hb1,hb2,hb3⟩;obtain⟨r,ps,x,HS,HI,rfl,hIn⟩:=id hR;obtain⟨a,pa,pb,sl,HA,HB,HR,rfl,_⟩:=id hIn.so;obtain⟨da,s,m,es,clock,hdp,_⟩:=id hD;obtain⟨J,va,rfl,hh,hv⟩:=Qr (a:=(r:Int)) (fun k=>if k=133 then(a:Int)else if k=134 then(x:Int)else da) [(135,HS),(136,HI),(138,HD),(139,T),(140,B),(141,RG)] hx.ok;have v3:J.i 133=a:=hv 133 ah;have v4:J.i 134=x:=hv 134 ah;have v7:J.i 137=da:=hv 137 ah;have w5:J.h 135=HS:=hh 135;have w6:J.h 136=HI:=hh 136;have w8:J.h 138=HD:=hh 138;have w9:J.h 139=T:=hh 139;have w0:J.h 140=B:=hh 140;have w1:J.h 141=RG:=hh 141;have eb:Hl.one (J.i 0).toNat (.cells #[.pointer (ar (J.i 133) 0),.pointer (ar (J.i 134) 0)] 125 (0,0))=V5 r (.pointer (some ⟨a,0,none⟩)) x:=by
  rw[va,v3,v4,al ah,al ah];rfl
 obtain⟨l1,l2,l3⟩:=s7 hIn.d1 hIn.d2 hIn.d3;rw[<-hIn.hl]at l1 l2 l3;refine⟨Jn,J,fun _ _=>True,fun _ _=>0,?_,⟨?_,?_,?_,?_⟩,(fun _ h=>nomatch h),?_⟩
 .show [Value.pointer (ar (J.i 0) 0),.agg ((ak 1 gJ).map (CV.ev J)).toArray]=_;rw[va,al ah];rfl
 .intro q hq ho;simp [Jn,Bo]at hq;rcases hq with rfl | rfl | rfl | rfl | rfl | rfl | rfl
  .exact⟨H,aC,by show(Hl.one (J.i 0).toNat (.cells #[.pointer (ar (J.i 133) 0),.pointer (ar (J.i 134) 0)] 125 (0,0))).le H;rw[eb];exact l1⟩
  .exact⟨H,aC,by show(J.h 135).le H;rw[w5];exact l2⟩
  .exact⟨H,aC,by show(J.h 136).le H;rw[w6];exact l3⟩
  .exact⟨HD,aC,by show(J.h 138).le HD;rw[w8];exact Hl.le_refl _⟩
  all_goals cases ho
 .intro q hq ho;simp [Jn,Bo]at hq;rcases hq with rfl | rfl | rfl | rfl | rfl | rfl | rfl
  .cases ho
  .cases ho
  .cases ho
  .cases ho
  .exact⟨T,aC,by show(J.h 139).le T;rw[w9];exact Hl.le_refl _⟩
  .exact⟨B,aC,by show(J.h 140).le B;rw[w0];exact Hl.le_refl _⟩
  .exact⟨RG,aC,by show(J.h 141).le RG;rw[w1];exact Hl.le_refl _⟩
 .have hHD:H.bq HD:=hdis 0 1 _ _ aA rfl rfl;have dle:∀ {A:Hl},A.le H->A.bq HD:=fun h b ⟨y,z⟩=>hHD b ⟨Hl.bZ h y,z⟩;show List.Pairwise _ Bo;simp only[Bo,ac4,aan,aat,aaX,adb,forall_eq,bm.own,bm.hl,List.Pairwise.nil,aau,abb,false_imp_iff,imp_true_iff,forall_const,aax,aa8,CV.ev,au,aq,false_implies,implies_true];rw[eb,w5,w6,w8];exact⟨⟨hIn.d1,hIn.d2,dle l1⟩,⟨hIn.d3,dle l2⟩,dle l3⟩
 .intro q hq;simp [Jn,Bo]at hq;rcases hq with rfl | rfl | rfl | rfl | rfl | rfl | rfl
  .show 0<=J.i 0;rw[va];omega
  all_goals trivial
 refine aF.lit (x:=Jx) ?_;unfold Jx;simp only[go_sem,Nat.reduceAdd,Xc,Vp,YN,YO,YP,YQ,YM];generalize hrow0:(ak 1 gJ).map (CV.ev J)=row at *;have V:∀ q:Env,ai 142 J q->(q.i 0=r/\q.i 133=a/\q.i 134=x/\q.i 137=da)/\(q.h 135=HS/\q.h 136=HI/\q.h 138=HD/\q.h 139=T/\q.h 140=B/\q.h 141=RG)/\(ak 1 xc).map (CV.ev q)=row:=fun q g=>by
  refine⟨⟨by rw[g.i 0,va],by rw[g.i 133,v3],by rw[g.i 134,v4],by rw[g.i 137,v7]⟩,⟨by rw[g.h 135,w5],by rw[g.h 136,w6],by rw[g.h 138,w8],by rw[g.h 139,w9],by rw[g.h 140,w0],by rw[g.h 141,w1]⟩,?_⟩;rw[<-hrow0];exact aaQ Array.toList (Value.agg.inj (fS (ks:=gJ) (n:=1) g aA))
 have eP:∀ n:Nat,Value.pointer (ar (n:Int) 0)=.pointer (some ⟨n,0,none⟩):=fun n=>js n;have fin:∀ (q:Env) (ks ki kd:Nat) (vs vi vd:List Nat) (t:Mem) (e:E) (R:Zk),cZ D S st c=R->ai 142 J q->iP (q.h ks) (.pointer (some ⟨a,0,none⟩)) dp R.S->sG (q.h ki) x R.st->aE (q.h kd) dp R.D->az q e=R.e ->
  postOf (zk rt) [.pointer (some ⟨r,0,none⟩),.agg row.toArray] [H,HD] [T,B,RG] q (.bd 0 [.hptr (.var 133) (.lit 0),.hptr (.var 134) (.lit 0)] 125::.hp ks vs [.var 133] [.var 137]::.hp ki vi [.var 134] []::.hp kd vd [.var 137] []::t) (.sv (.one (.int .i64 e))):=by
  intro q ks ki kd vs vi vd t e R hR' g h1 h2 h3 h4 hdis;obtain⟨⟨k0,k1,k2,_⟩,_⟩:=V q g;have eb':Hl.one (q.i 0).toNat (.cells #[.pointer (ar (q.i 133) 0),.pointer (ar (q.i 134) 0)] 125 (0,0))=V5 r (.pointer (some ⟨a,0,none⟩)) x:=by
   rw[k0,k1,k2,eP,eP];rfl
  have d1:(Hl.one (q.i 0).toNat (.cells #[.pointer (ar (q.i 133) 0),.pointer (ar (q.i 134) 0)] 125 (0,0))).bq (q.h ks):=hdis 0 1 _ _ aA rfl rfl rfl;have d2:(Hl.one (q.i 0).toNat (.cells #[.pointer (ar (q.i 133) 0),.pointer (ar (q.i 134) 0)] 125 (0,0))).bq (q.h ki):=hdis 0 2 _ _ aA rfl rfl rfl;have d3:(q.h ks).bq (q.h ki):=hdis 1 2 _ _ aA rfl rfl rfl;rw[eb']at d1 d2;subst hR';refine⟨[[0,1,2],[3]],[],rfl,rfl,⟨(bh fun _=>az q e),rfl,zzT,zzT⟩,_,H,HD,row,T,B,RG,dp,S,D,st,c,_,_,rfl,rfl,rfl,hR,hD,hx,rfl,⟨r,_,x,q.h ks,q.h ki,rfl,h1,h2,d1,d2,d3,?_⟩,?_,by rw[<-h4];rfl⟩
  .rw[<-eb'];rfl
  .show aE (cu [q.h kd]) _ _;rw[aL];exact h3
 have nPre:∀ {R:Hl} {v:Value} {n:Int},vp R v n->uQ.pre [v] [] [R,RG]:=fun h=>⟨_,_,RG,_,rfl,rfl,hEt,h⟩;have nRes:∀ {R:Hl} {v w:Value} {n:Int} {K:List Hl} {F:Hl},vp R v n->uQ.post [v] [] [R,RG] w K F->w=.int .i64 n:=fun h hp=>by
  obtain⟨e,R',G',e1,e2,hq⟩:=hp;simp only[aag,aau]at e1 e2;obtain⟨rfl,rfl⟩:=e2;subst e1;exact hq _ h
 have met:∀ {v w:Value} {z n:Int} {s:ByteArray},0<=z->v=.iface 164 (.pointer (ar z 0))->w=.iface 222 (.agg #[v])->vp (Hl.one z.toNat (.cells #[.string s,.int .i64 n] 168 (0,0))) w n:=fun hz e1 e2=>Or.inr ⟨_,_,by rw[e2,e1,al hz];rfl,Hl.aN _ _⟩;have vi1:∀ {q:Env} {n:Nat} {T:TypeId} {v:Value},q.v n=.iface T v->az q (.vint n)=1:=fun h=>by rw[yy,h];rfl
 intro q0 g0 p0 q1 g1 p1;have G1:ai 142 J q1:=g0.tr g1;obtain⟨⟨k0,k1,k2,k3⟩,⟨u5,u6,u8,u9,u0,u1⟩,kr⟩:=V q1 G1;rw[k2,eP,kr,u6,u9,u0,u1];refine⟨⟨x,HI,st,_,T,B,RG,c,rfl,rfl,hIn.ix.rd,hSh,hx,ah,hK⟩,fun q2 g2 ⟨F2,hp2,_⟩=>?_⟩;have hask:q2.i 144=bK st c:=by simpa using hp2 _ _ _ _ _ _ _ _ rfl rfl hIn.ix.rd hx
 have G2:ai 142 J q2:=G1.tr g2;obtain⟨⟨m0,m1,m2,m3⟩,⟨n5,n6,n8,n9,n0,n1⟩,mr⟩:=V q2 G2;refine⟨fun heq=>?_,fun hne=>?_⟩
 .have h0:bK st c=0:=hask.symm.trans heq;rw[mr,n9,n0];refine⟨⟨_,T,B,c,rfl,rfl,hx,hlen⟩,fun q3 g3 ⟨F3,⟨u,hu,hrec⟩,hF3,hn3⟩=>?_⟩;simp only[Value.tuple.injEq,aaH,aag,aau]at hu;obtain⟨rfl,hu⟩:=hu;have hrec:=hrec _ _ _ _ rfl rfl hx;rw[<-hF3 zzT]at hrec;have hv0:az q3 (.vint 149)=0:=by rw[yy,hu];rfl
  refine⟨ah,fun hne=>absurd hv0 hne,fun _ q4 g4 p4=>?_⟩;have G3:ai 142 J q3:=G2.tr g3;have G4:ai 142 J q4:=G3.tr g4;obtain⟨⟨y0,y1,y2,y3⟩,⟨z5,z6,z8,z9,z0,z1⟩,yr⟩:=V q4 G4;rw[y1,eP,z5,z8,z1,g4.i 145,g4.i 146,g4.i 147,g4.i 148,g4.h 145];have hrows:=uS (T:=46) p4 hrec;have hrl:=Js hx hlen;refine⟨⟨_,_,HS,HD,_,_,RG,g,dp,S,D,_,rfl,rfl,rfl,hIn.so,hD,hrows,hGl,aC,fun r hr=>by rw[aam.1 hr];omega,hb1,hb2,hb3⟩,fun q5 g5 ⟨F5,hp5,_⟩=>?_⟩;obtain⟨hD5,hS5,he⟩:=L0 hIn.so hD hrows hp5;have he:q5.i 151=(db D S [gW c]).e:=by simpa using he
  have G5:ai 142 J q5:=G4.tr g5;obtain⟨⟨s0,s1,s2,s3⟩,⟨t5,t6,t8,t9,t0,t1⟩,sr⟩:=V q5 G5;refine⟨fun h5=>?_,fun h5=>?_⟩
  .rw[s2,eP,sr,t6,t9,t0,t1];refine⟨⟨x,HI,st,_,T,B,RG,c,rfl,rfl,rfl,hIn.ix,hSh,hx,ah,hK⟩,fun q6 g6 ⟨F6,⟨x',H',st',row',T',B',RG',c',K',e1,e2,e3,i1,i2,e4,hv,hI6⟩,_⟩=>?_⟩;simp only[aag,aau,Value.pointer.injEq,aak,Addr.mk.injEq,Value.agg.injEq]at e1 e2 e3 e4;obtain⟨rfl,e1⟩:=e1;obtain⟨rfl,rfl,rfl⟩:=e3;have e1:=aaO e1;subst e1 e2 e4;obtain rfl:=hx.uniq i2;have est:∀ i,i<6->st i=st' i:=fun i hi=>hIn.ix.rd.st i1.rd hi;have hI6:sG (q6.h 154) x (dZ st' c):=hI6;have h6:q6.i 154=0:=by
    have:q6.i 154=bK st' c:=by simpa using hv
    rw[this,<-py est c,h0]
   have G6:ai 142 J q6:=G5.tr g6;obtain⟨_,⟨_,_,_,_,_,r1⟩,_⟩:=V q6 G6;rw[r1];refine⟨fun _=>⟨nPre (Or.inl ⟨rfl,rfl⟩),fun q7 g7 ⟨F7,hp7,_⟩=>?_⟩,fun hne=>absurd h6 hne⟩;have h7:q7.i 156=0:=by simpa using nRes (Or.inl ⟨rfl,rfl⟩) hp7
   refine fin q7 151 154 152 _ _ _ _ _ ⟨0,(db D S [gW c]).D,(db D S [gW c]).S,dZ st c⟩ ?_ (G6.tr g7) ?_ ?_ ?_ h7
   .unfold cZ;rw[aal (fun h=>h h0),aal (fun h=>h (he.symm.trans h5))]
   .rw[g7.h 151,g6.h 151];exact hS5
   .rw[g7.h 154];exact hI6.congr fun i hi=>(yA est c hi).symm
   .rw[g7.h 152,g6.h 152];exact hD5
  .intro q6 g6 p6 q7 g7 p7;refine⟨by rw[vi1 p7];omega,fun q8 g8 p8=>⟨by rw[vi1 p8];omega,fun _=>?_,fun h=>absurd ((vi1 p8).symm.trans h) aA⟩⟩;have G8:ai 142 J q8:=G5.trans (g6.mono.trans (g7.mono.tr g8));obtain⟨_,⟨_,_,_,_,_,r1⟩,_⟩:=V q8 G8;have hm:=met (s:={data:=#[97,100,100]}) (n:=q8.i 151) p6 p7 p8;have e154:q6.i 154=q8.i 154:=by rw[g8.i 154,g7.i 154]
   rw[e154]at hm;have e151:q7.i 151=q8.i 151:=(g8.i 151).symm;rw[r1];refine⟨nPre hm,fun q9 g9 ⟨F9,hp9,_⟩=>?_⟩;have h9:q9.i 157=q8.i 151:=by simpa using nRes hm hp9
   have hn5:(db D S [gW c]).e≠0:=fun h=>h5 (he.trans h);have G9:ai 142 J q9:=G8.tr g9;have A9:ai 154 q5 q9:=g6.trans (g7.mono.trans (g8.mono.tr g9));refine fin q9 151 136 152 _ _ _ _ _ ⟨(db D S [gW c]).e,(db D S [gW c]).D,(db D S [gW c]).S,st⟩ ?_ G9 ?_ ?_ ?_ ?_
   .unfold cZ;rw[aal (fun h=>h h0),aay hn5]
   .rw[A9.h 151];exact hS5
   .rw[(V q9 G9).2.1.2.1];exact hIn.ix
   .rw[A9.h 152];exact hD5
   .exact h9.trans (e151.symm.trans ((by rw[g7.i 151,g6.i 151]:q7.i 151=q5.i 151).trans he))
 .have hn0:bK st c≠0:=fun h=>hne (hask.trans h);intro q3 g3 p3 q4 g4 p4;refine⟨by rw[vi1 p4];omega,fun q5 g5 p5=>⟨by rw[vi1 p5];omega,fun _=>?_,fun h=>absurd ((vi1 p5).symm.trans h) aA⟩⟩;have G5:ai 142 J q5:=G2.trans (g3.mono.trans (g4.mono.tr g5));obtain⟨_,⟨_,_,_,_,_,r1⟩,_⟩:=V q5 G5;have hm:=met (s:={data:=#[97,115,107]}) (n:=q5.i 144) p3 p4 p5;have e145:q3.i 145=q5.i 145:=by rw[g5.i 145,g4.i 145]
  rw[e145]at hm;rw[r1];refine⟨nPre hm,fun q6 g6 ⟨F6,hp6,_⟩=>?_⟩;have h6:q6.i 148=q5.i 144:=by simpa using nRes hm hp6
  have G6:ai 142 J q6:=G5.tr g6;obtain⟨_,⟨o5,o6,o8,_,_,_⟩,_⟩:=V q6 G6;refine fin q6 135 136 138 _ _ _ _ _ ⟨bK st c,D,S,st⟩ ?_ G6 (by rw[o5];exact hIn.so) (by rw[o6];exact hIn.ix) (by rw[o8];exact hD) ?_
  .unfold cZ;rw[aay hn0]
  .exact h6.trans ((by rw[g5.i 144,g4.i 144,g3.i 144]:q5.i 144=q2.i 144).trans hask)
def Jl (hb:0<=b) (h:Value.pointer (ar a b)=.pointer (some ⟨r,0,none⟩)):a=r/\b=0 :=
 km (x:=(r:Int)) (y:=0) ah (aar 0) hb ((Value.pointer.inj h).trans (by rw[al ah];rfl))
def fc.uniq (h:fc H p dp S st) (h':fc H p dp' S' st'):dp=dp'/\S=S'/\∀ i,i<6->st i=st' i:=by
 obtain⟨r,ps,x,HS,HI,hp,h⟩:=h;obtain⟨r',ps',x',HS',HI',hp',h'⟩:=h';obtain⟨l1,l2,l3⟩:=s7 h.d1 h.d2 h.d3;rw[<-h.hl]at l1 l2 l3;obtain⟨m1,m2,m3⟩:=s7 h'.d1 h'.d2 h'.d3;rw[<-h'.hl]at m1 m2 m3;rw[hp]at hp';obtain rfl:r=r':=by simpa using hp'
 have e1:=l1 _ _ (Hl.aN _ _);have e2:=m1 _ _ (Hl.aN _ _);rw[e1]at e2;obtain⟨rfl,rfl⟩:ps=ps'/\x=x':=by simpa using e2
 obtain⟨a,b⟩:=(h.so.rd.mono l2).uniq (h'.so.rd.mono m2);exact⟨a,b,fun i hi=>(h.ix.rd.mono l3).st (h'.ix.rd.mono m3) hi⟩
def fc.congr (h:fc H p dp S st) (e:∀ i,i<6->st i=st' i):fc H p dp S st':=by
 obtain⟨r,ps,x,HS,HI,hp,h⟩:=h;exact⟨r,ps,x,HS,HI,hp,h.so,h.ix.congr e,h.d1,h.d2,h.d3,h.hl⟩
def NX (e:∀ i,i<6->st i=st' i) (c:Pc):(cZ D S st c).e=(cZ D S st' c).e/\(cZ D S st c).D=(cZ D S st' c).D/\(cZ D S st c).S=(cZ D S st' c).S/\∀ i,i<6->(cZ D S st c).st i=(cZ D S st' c).st i:=by
 unfold cZ;rw[py e c];split
 .exact⟨rfl,rfl,rfl,e⟩
 .split
  .exact⟨rfl,rfl,rfl,e⟩
  .exact⟨rfl,rfl,rfl,fun i hi=>yA e c hi⟩
def uO {HD:Hl} {c:Pc} (hR:fc H p dp S st) (hD:aE HD dp D) (hx:dz T B row c) {K1 K2:Hl} (h:(zk rt).post [p,.agg row.toArray] [H,HD] [T,B,RG] v [K1,K2] F) :
 fc K1 p dp (cZ D S st c).S (cZ D S st c).st/\aE K2 dp (cZ D S st c).D/\v=.int .i64 (cZ D S st c).e:=by
 obtain⟨p',H',HD',row',T',B',RG',dp',S',D',st',c',L1,L2,e1,e2,e3,r1,d1,x1,e4,r2,d2,hv⟩:=h;simp only[aag,aau,Value.agg.injEq]at e1 e2 e3 e4;obtain⟨rfl,e1⟩:=e1;obtain⟨rfl,rfl⟩:=e2;obtain⟨rfl,rfl,rfl⟩:=e3;obtain⟨rfl,rfl⟩:=e4;have e1:=aaO e1;subst e1;obtain rfl:=hx.uniq x1;obtain⟨rfl,rfl,est⟩:=hR.uniq r1;obtain rfl:=hD.uniq d1;obtain⟨f1,f2,f3,f4⟩:=NX (D:=D) (S:=S) est c;rw[f1,f2,f3];exact⟨r2.congr fun i hi=>(f4 i hi).symm,d2,hv⟩
def lP.uniq (hd:U.bq T) (h:lP U T x st) (h':lP U T x st'):∀ i,i<6->st i=st' i:=by
 obtain⟨sv,KB,h⟩:=h;obtain⟨sv',KB',h'⟩:=h';have lU:U.le (T.un U):=Hl.bj (Hl.jH hd);intro i hi;have e:=(h.sl hi).1;rw[(h'.sl hi).1]at e;have e:=aa1 e;obtain⟨rows,h1,h2,h3⟩:=h.row i hi;obtain⟨rows',h1',h2',h3'⟩:=h'.row i hi;rw[e]at h1';obtain rfl:=h1.rd.uniq h1'.rd;apply abO ah;intro j j1 j2;have hr:rows[j]?=some rows[j]:=aab ah;exact((h3 j _ _ hr (aab j1)).2 (T.un U) (Hl.aX _ _) fun b o hb=>lU b o (h.kb b o hb)).uniq ((h3' j _ _ hr (aab j2)).2 (T.un U) (Hl.aX _ _) fun b o hb=>lU b o (h'.kb b o hb))
def lP.congr (h:lP U T x st) (e:∀ i,i<6->st i=st' i):lP U T x st':=by
 obtain⟨sv,KB,h⟩:=h;exact⟨sv,KB,⟨h.bd,fun i hi=>by rw[<-e i hi];exact h.row i hi,h.kb⟩,h.kbx,h.own,fun i hi=>by rw[<-e i hi];exact h.form i hi⟩
def lP.mono {H':Hl} (hl:H.le H') (h:lP H T x st):lP H' T x st:=by
 obtain⟨sv,KB,h⟩:=h;exact⟨sv,KB,h.mono hl⟩
def Li {p:Pc} (hd:H.bq B) (hI:lP H T x st) (hx:O3 T B row p) (h:(PB (Fb rt)).post [.pointer (some ⟨x,0,none⟩),.agg row.toArray] [H.un B] [T,RG] v [K] F) :
 v=.int .i64 (bK st p)/\lP K T x (dZ st p)/\O3 T K row p:=by
 obtain⟨⟨x',H',B',row',T',RG',st',p',K',e1,e2,e3,d1,i1,x1,e4,hv,i2,hl⟩,hdis⟩:=h;simp only[aag,aau,Value.pointer.injEq,aak,Addr.mk.injEq,Value.agg.injEq]at e1 e2 e3 e4;obtain⟨rfl,e1⟩:=e1;obtain⟨rfl,rfl⟩:=e3;have e1:=aaO e1;subst e1 e4;have hd2:(H.un B).bq T:=hdis _ aC _ aC;have u1:=i1.mono (Hl.aX H' B');rw[<-e2]at u1;have est:=(hI.mono (Hl.aX H B)).uniq hd2 u1;have lU:(H.un B).le (T.un (H.un B)):=Hl.bj (Hl.jH hd2);have y1:=(x1.mono (Hl.bj d1)).2 (T.un (H.un B)) (Hl.aX _ _) (by rw[<-e2];exact lU);obtain rfl:=((hx.mono (Hl.bj hd)).2 (T.un (H.un B)) (Hl.aX _ _) lU).uniq y1;refine⟨by rw[py est p];exact hv,i2.congr fun i hi=>(yA est p hi).symm,x1.mono hl.1⟩
end Go.Proofs.YtomdimlnggpgbaaGreatDoor
namespace Go.Proofs.YtomdimlnggpgbaaGreatDoor
open Go Go.Sx Go.Pk
variable {h:Hd}{R:Hl}{w:Int}{b l lS sum:List Int}{row:List Value}{n:Nat}
def LV (c:List Value) (w:Int) (n k:Nat):Value:=.int .u64 (if w-1=k then(n:Int)else cI c (54+k))
def lI (c:List Value) (w:Int) (n:Nat) (lS:List Int):List Value:=([.int .i64 w,.int .u64 ((n:Int)+1)]++aS lS)++(c.drop 34).take 20
def pV (c:List Value) (w:Int) (n:Nat) (sum:List Int):List Value:=[LV c w n 0,LV c w n 1,LV c w n 2,LV c w n 3,LV c w n 4,LV c w n 5]++(aS sum++(.int .i64 80::(c.drop 93).take 32))
def fP (c:List Value) (w:Int) (n:Nat) (lS sum:List Int):List Value:=lI c w n lS++pV c w n sum
def ef (n:Nat) (b:List Int):List Int:=List.replicate 80 (match b with | []=>((n%256:Nat):Int) | z::_=>z)
noncomputable def ke (hs:List Hd) (w:Int) (p:Pc):Pc:=⟨⟨fP p.h.c w hs.length (ji hs) (gm (ef hs.length p.b)),p.h.t⟩,ef hs.length p.b⟩
def gQ:∀ {a b:List Value} {ka kb:List Kd},bf a ka->bf b kb->bf (a++b) (ka++kb)
 | [],b,[],kb,_,h=>h
 | v::a,b,k::ka,kb,h,h2=>⟨h.1,gQ h.2 h2⟩
def pY:∀ {n:Nat} {l:List Value} {ks:List Kd},bf l ks->bf (l.drop n) (ks.drop n)
 | 0,_,_,h=>h
 | n+1,[],[],h=>h
 | n+1,v::l,k::ks,h=>pY (n:=n) h.2
def LD (hs:List Hd):∀ z∈ji hs,0<=z/\z<256:=by
 unfold ji;split
 .intro z hz;rw[acz hz];omega
 .exact Bt _
def Jv (h:∀ z∈l,0<=z/\z<256):∀ v∈aS l,Lc v:=by
 intro v hv;obtain⟨z,hz,rfl⟩:=aaW.1 hv;exact h z hz
def Hz (hx:bS R row h) (ht:lS.length=32):([.int .i64 w,.int .u64 ((n:Int)+1)]++aS lS:List Value).length=34/\(lI row w n lS).length=54:=by
 have hl:row.length=125:=fj hx.ok;have h1:([.int .i64 w,.int .u64 ((n:Int)+1)]++aS lS:List Value).length=34:=by rw[aac,bY,ht];rfl
 refine⟨h1,?_⟩;unfold lI;rw[aac,h1,aaA,aaV];omega
def Oi (hx:bS R row h) (hw:1<=w/\w<=6) (hn:n<=100000) (ht:lS.length=32) (hs:sum.length=32) (bt:∀ z∈lS,0<=z/\z<256) (bs:∀ z∈sum,0<=z/\z<256) :
 bS R (fP row w n lS sum) ⟨fP h.c w n lS sum,h.t⟩:=by
 have hl:row.length=125:=fj hx.ok;obtain⟨l34,l54⟩:=Hz hx (w:=w) (n:=n) ht;have hk:∀ k:Nat,k<6->LV h.c w n k=LV row w n k:=fun k hk=>by
  unfold LV;rw[hx.I ah]
 have hz:pV h.c w n sum=pV row w n sum:=by
  unfold pV;rw[hk 0 ah,hk 1 ah,hk 2 ah,hk 3 ah,hk 4 ah,hk 5 ah,hx.core,List.drop_set_of_lt ah]
 have ha:lI h.c w n lS=(lI row w n lS).set 53 (.bool false):=by
  unfold lI;rw[List.set_append_right _ _ (by rw[l34];omega),l34,hx.core,List.drop_set,aal ah,<-List.take_set]
 have hg53:(fP row w n lS sum).getD 53 (.bool false)=row.getD 53 (.bool false):=by
  unfold fP;rw[aap,aap,aaC ah];unfold lI;rw[aav (by rw[l34];omega),l34,aa2,aay ah,aa0]
 refine⟨?_,?_,?_,?_,hx.byte⟩
 .have e:de=(([Kd.int .i64,.int .u64]++List.replicate 32 (.int .u8))++(de.drop 34).take 20)++(List.replicate 6 (.int .u64)++(List.replicate 32 (.int .u8)++(.int .i64::(de.drop 93).take 32))):=rfl;rw[e];unfold fP lI pV;exact gQ (gQ (gQ ⟨rfl,rfl,zzT⟩ (CZ 32 lS ht)) (gF (pY hx.ok))) (gQ ⟨rfl,rfl,rfl,rfl,rfl,rfl,zzT⟩ (gQ (CZ 32 sum hs) ⟨rfl,gF (pY hx.ok)⟩))
 .intro v hv;have hk:∀ k:Nat,k<6->Lc (LV row w n k):=fun k hk=>by
   unfold LV;split
   .exact⟨ah,ah⟩
   .have hkk:de[54+k]?=some (.int .u64):=by
     have:k=0\/k=1\/k=2\/k=3\/k=4\/k=5:=ah;rcases this with rfl | rfl | rfl | rfl | rfl | rfl<;>rfl
    exact hx.rng _ (aae (xu hx.ok hkk))
  unfold fP lI pV at hv;simp only[aaU,aan,aat,aaX]at hv;rcases hv with (((rfl | rfl) | hv) | hv) | ((rfl | rfl | rfl | rfl | rfl | rfl) | hv | rfl | hv)
  .show ku w;unfold ku;omega
  .exact⟨ah,ah⟩
  .exact Jv bt v hv
  .exact hx.rng v (ab3 (abV hv))
  .exact hk 0 ah
  .exact hk 1 ah
  .exact hk 2 ah
  .exact hk 3 ah
  .exact hk 4 ah
  .exact hk 5 ah
  .exact Jv bs v hv
  .show ku 80;unfold ku;omega
  .exact hx.rng v (ab3 (abV hv))
 .show fP h.c w n lS sum=_;unfold fP;rw[List.set_append_left _ _ ah,ha,hz]
 .rw[hg53];exact hx.tok
def CL (n:Nat) (hb:aG b):(ef n b).length=80/\aG (ef n b):=by
 refine⟨aba,fun z hz=>?_⟩;have:=acz hz;cases b with
 | nil=>simp at this;omega
 | cons y b=>simp at this;rw[this];exact hb y (aaI ..)
end Go.Proofs.YtomdimlnggpgbaaGreatDoor
