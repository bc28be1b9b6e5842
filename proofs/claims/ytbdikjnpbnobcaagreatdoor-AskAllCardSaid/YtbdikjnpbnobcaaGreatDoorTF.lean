/- Pull after pull, for all and with bodies, brings every piece laid in a door once, each whole and in its writer's order: a part of the proof. No condition. -/
import Derived.Test.YtbdikjnpbnobcaaGreatDoorTE
set_option linter.all false
set_option maxHeartbeats 4000000
namespace Go.Proofs.YtbdikjnpbnobcaaGreatDoor
open Go Go.Sx Go.Pk
variable {bad' lg':Bool}{C N g:E}{q:Env}{A B G R R1 R2:Hl}{c' l y' z:Int}{t7:List E}{Hs K Rs:List Hl}{b b2 bs' bs2:List Int}{v7:List Nat}{t:Mem}{k m n:Nat}{p u v:Value}
def QI (p:List Nat):Bool:=decide (p.length>1)&&!(p.head?==some 99)
def aA:oz:=fun _=>none
def gm (q:Env) (n:Nat):newHs q n 0=[]:=rfl
def ia (q:Env) (n:Nat):newHs q n 1=[q.h n]:=by unfold newHs;rw[List.range_one];rfl
def jF {α:Type} {a:α} {l:List α} : (a::l≠[])=True:=by simp
def ft (a:Nat):Value.pointer (au (a:Int) 0)=.pointer (some ⟨a,0,none⟩):=by rw[av ah];rfl
def al (bs:List Int):Prop:=∀ b∈bs,0<=b/\b<256
def xC {x y:Int} {bs:List Int} (hl:l=bs.length) (hy:0<=y) (h:bs=[]\/0<=x/\∀ j z,bs[j]?=some z->R.cell x.toNat (y.toNat+j)=some (.int .u8 z)) :
 ((0<=x/\0<=y/\0<=l/\∀ j,j<l.toNat->∃ v,R.cell x.toNat (y.toNat+j)=some v/\v.oneCell'=true)\/l=0)/\bK R x.toNat y.toNat l.toNat=aS bs:=by
 subst hl;rw[aac];constructor
 .rcases h with h | ⟨hx,h⟩
  .subst h;exact Or.inr rfl
  .exact Or.inl ⟨hx,hy,ah,fun j a=>⟨_,h j _ (aad a),rfl⟩⟩
 .unfold bK;apply ack;intro j;rw[abl,fJ];rcases acN j bs.length with a | a
  .rcases h with h | ⟨hx,h⟩
   .subst h;cases a
   .rw[acf a,acr,h j _ (aad a),aad a];rfl
  .rw[abA (by simpa using a),abA ah];rfl
def JJ (F:Hl) {a:Int} (h:0<=a) (b:F=Hl.one a.toNat (.cells #[] 5 (0,0))):aO F 5 1 (.slice (au a 0) (Int.toNat 0) (Int.toNat 0)) (Int.toNat 0) []:=by
 subst b;exact⟨rfl,Or.inr ⟨a.toNat,0,#[],by rw[av h];rfl,Hl.aK _ _,ah,az,rfl,rfl⟩⟩
def D6 (f:FuncId):Sx.Spec where
 fn:=f
 own:=[]
 rd:=[0]
 res:=[.one .sl]
 pre:=fun xs Hs Rs=>∃ u bs R,xs=[u]/\Rs=[R]/\fE R u bs/\bs.length<=1000000
 post:=fun xs Hs Rs v Hs' F=>∃ u bs R,xs=[u]/\Rs=[R]/\fE R u bs/\c9 F 5 v bs
def WY (f:FuncId):aD Tryz.prog [] f where
 Λ:=aA
 args:=[.sv (.one (.sl (.var 0) (.var 1) (.var 2) (.var 3)))]
 mem:=[.ro 4 [.var 0] false]
 nv:=5
def CH:(D6 82).OK Tryz.prog/\(D6 80).OK Tryz.prog:=by
 refine⟨Spec.jN (Γ:=[]) (fun _ h=>by cases h) rfl ?_,Spec.jN (Γ:=[]) (fun _ h=>by cases h) rfl ?_⟩
 all_goals
  rintro xs Rs ⟨u,bs,R,rfl,rfl,a,hlen⟩;obtain⟨x,y,c,rfl,hy,m⟩:=id a;refine⟨WY _,aM [x,y,bs.length,c] false [Hl.none,Hl.none,Hl.none,Hl.none,R],fun _ _=>True,fun _ _=>0,?_,aT rfl rfl,rfl,?_⟩
  .show [Value.slice (au x y) ((bs.length:Int)).toNat ((c:Int)).toNat]=_;rw[aac,aac]
  refine aD.read [] [] [] ?_;generalize d:aM [x,y,bs.length,c] false [Hl.none,Hl.none,Hl.none,Hl.none,R]=J;obtain⟨⟨v0,v1,v2,_⟩,_,_,_,_,o,_⟩:=jn d;clear d;simp only[go_sem,Nat.reduceAdd];refine⟨fun hx _=>?_,fun hx q1 b p5=>?_⟩
  .have e:bs=[]:=by
    rcases m with h | ⟨h,_⟩
    .exact h
    .omega
   refine⟨[],[],rfl,rfl,⟨(ba fun k=>if k=0 then -1 else 0),rfl,⟨aba _,aba _,aba _,aba _⟩,zzT⟩,_,bs,R,rfl,rfl,a,?_⟩;rw[e];exact⟨rfl,Or.inl ⟨rfl,rfl⟩⟩
  .obtain⟨hok,f⟩:=xC (R:=R) (x:=x) (y:=y) (l:=(bs.length:Int)) rfl hy m;have g:=JJ (Hl.one (q1.i 5).toNat (.cells #[] 5 (0,0))) p5 rfl;rw[b.i 0,b.i 1,b.i 2,b.h 4,v0,v1,v2,o];refine⟨⟨⟨_,g⟩,aba _,by simpa using hok,by rw[aac];unfold maxLen;simp;omega,by rw[aac];simp;omega⟩,fun q2 n ⟨a1,a2,a3,_⟩=>fun _=>?_⟩;have j:=a3 _ g;rw[f,adk]at j;refine⟨[],[1],rfl,rfl,⟨(ba fun k=>[q2.i 6,0,q2.i 2,q2.i 7].getD k 0),rfl,⟨a1,aba _,?_,a2⟩,zzT⟩,_,bs,R,rfl,rfl,a,?_⟩
   .show 0<=q2.i 2;rw[n.i 2,b.i 2,v2];omega
   .show c9 (bY [q2.h 6]) _ (.slice (au (q2.i 6) 0) (q2.i 2).toNat (q2.i 7).toNat) bs;rw[aJ,n.i 2,b.i 2,v2];unfold c9;rw[aac];simpa using j
def gI:Sx.Spec:=D6 82
def mC:gI.OK Tryz.prog:=CH.1
def ck (bs:List Int):Nat×Nat:=(tO bs).getD (0,0)
def Fx (R1 R2:Hl) (p:Value) (bs:List Int) (bad:Bool):Prop:=∃ (a:Nat) (x y:Int) (c:Nat),p=.pointer (some ⟨a,0,none⟩)/\R1.cell a 0=some (.slice (au x y) bs.length c)/\R1.cell a 1=some (.bool bad)/\ -1<=x/\0<=y/\pz R2 (.slice (au x y) bs.length c) bs
def Fx.uniq {a:List Int} {x y:Bool} (h:Fx R1 R2 p a x) (h':Fx R1 R2 p b y):a=b/\x=y:=by
 obtain⟨a1,x1,f,c1,e1,h1,d,_,_,e⟩:=h;obtain⟨a2,g,i,c2,c,k1,k2,_,_,k3⟩:=h';rw[e1]at c;simp only[Value.pointer.injEq,aa3,Addr.mk.injEq,abw]at c;subst c;rw[h1]at k1;have k1:=acE k1;rw[<-k1]at k3;rw[d]at k2;simp only[aa3,Value.bool.injEq]at k2;exact⟨e.uniq k3,k2⟩
def nG:Sx.Spec where
 fn:=83
 own:=[]
 rd:=[0,1000]
 res:=[.one (.int .u64),.one (.int .i64)]
 pre:=fun xs Hs Rs=>∃ p R1 R2 bs bad,xs=[p]/\Rs=[R1,R2]/\Fx R1 R2 p bs bad/\al bs/\bs.length<=1000000
 post:=fun xs Hs Rs v Hs' F=>∃ p R1 R2 bs bad,xs=[p]/\Rs=[R1,R2]/\Fx R1 R2 p bs bad/\v=.tuple #[.int .u64 (ck bs).1,.int .i64 (ck bs).2]
def wa:aD Tryz.prog [] nG.fn where
 Λ:=fun p=>if QI p then some ⟨0,[(4,TI .u64 (.var 10)),(12,TI .i64 (.var 11))],[],12⟩else none
 args:=[TP (.var 0) (.lit 0)]
 mem:=[.ro 1 [.hP 2 (.var 0) (.lit 0) 0 0] false,.ro 2 [.var 0] false]
 nv:=3
def NO (bs:List Int) (_:Nat) (q:Env):Prop:=∃ k y:Nat,q.i 11=k/\q.i 10=y/\k<=10/\y<128 ^ k/\tO bs=tP (bs.drop k) k y
def sl0 {x y:Int} (hx:-1<=x) (n c:Nat):bD (some (.slice (au x y) n c)) 0=x:=by
 rcases ad9 x 0 with h | h
 .obtain rfl:x= -1:=ah;rfl
 .rw[av h];show((x.toNat:Nat):Int)=x;omega
def sl1 {x y:Int} (hx:0<=x) (hy:0<=y) (n c:Nat):bD (some (.slice (au x y) n c)) 1=y:=by
 rw[av hx];show((y.toNat:Nat):Int)=y;omega
def Vg {x y:Int} (hx:-1<=x) (n c:Nat):bD (some (.slice (au x y) n c)) 2=n:=by
 rcases ad9 x 0 with h | h
 .obtain rfl:x= -1:=ah;rfl
 .rw[av h];rfl
def JB {bs:List Int} {y c:Nat} (a:bs[k]?=some (c:Int)):tP (bs.drop k) k y=if(k=9/\1<c)\/9<k then none else if c<128 then(if c=0/\0<k then none else some (y+c*128 ^ k,k+1))else tP (bs.drop (k+1)) (k+1) (y+(c%128)*128 ^ k):=by
 have hk:=(aaG.1 a).1;have e:bs.drop k=(c:Int)::bs.drop (k+1):=by
  rw[afC hk,(aaG.1 a).2]
 rw[e];show(if(k=9/\1<(c:Int))\/9<k then none else if(c:Int)<128 then(if(c:Int)=0/\0<k then none else some (y+((c:Int)).toNat*128 ^ k,k+1))else tP (bs.drop (k+1)) (k+1) (y+(((c:Int)).toNat%128)*128 ^ k))=_;rw[aac];have h1:((1:Int)<(c:Int))↔1<c:=ah;have b:((c:Int)<128)↔c<128:=ah;have d:((c:Int)=0)↔c=0:=ah;simp only[h1,b,d]
def JD:nG.OK Tryz.prog:=by
 refine Spec.jN (Γ:=[]) (fun _ h=>by cases h) rfl ?_;rintro xs Rs ⟨p,R1,R2,bs,bad,rfl,rfl,hIn,hby,hlen⟩;obtain⟨a,x,y,c,rfl,s,L,hx,hy,M⟩:=id hIn;refine⟨wa,aM [(a:Int)] false [Hl.none,R2,R1],NO bs,fun _ q=>((bs.length:Int)-q.i 11).toNat,?_,⟨?_,?_,?_,?_⟩,rfl,?_⟩
 .show [Value.pointer (au (a:Int) 0)]=_;rw[ft]
 .intro r hr ho;simp [wa]at hr;rcases hr with rfl | rfl<;>cases ho
 .intro r hr ho;simp [wa]at hr;rcases hr with rfl | rfl
  .exact⟨R2,aC,Hl.le_refl _⟩
  .exact⟨R1,aC,Hl.le_refl _⟩
 .simp [wa,bo.own]
 .intro r hr;simp [wa]at hr;rcases hr with rfl | rfl<;>trivial
 .refine aD.read [] [] [] ?_;generalize A:aM [(a:Int)] false [Hl.none,R2,R1]=J;obtain⟨⟨v0,_⟩,_,w1,w2,_⟩:=jn A;clear A;have out:∀ (q:Env) (mem:Mem) (e1 m:E),aw q e1=(ck bs).1->aw q m=(ck bs).2->postOf nG [.pointer (some ⟨a,0,none⟩)] [] [R1,R2] q mem (.tup [.one (.int .u64 e1),.one (.int .i64 m)]):=fun q mem e1 m h1 K _ =>
   ⟨[],[],rfl,rfl,⟨(ba fun k=>if k=0 then(ck bs).1 else(ck bs).2),by show Value.tuple #[.int .u64 (aw q e1),.int .i64 (aw q m)]=_;rw[h1,K];rfl,zzT,zzT,zzT⟩,_,R1,R2,bs,bad,rfl,rfl,hIn,by show Value.tuple #[.int .u64 (aw q e1),.int .i64 (aw q m)]=_;rw[h1,K]⟩
  have b:∀ (q:Env) (mem:Mem),tO bs=none->postOf nG [.pointer (some ⟨a,0,none⟩)] [] [R1,R2] q mem (.tup [.one (.int .u64 (.lit 0)),.one (.int .i64 (.lit 0))]):=fun q mem h=>out q mem _ _ (by unfold ck;rw[h];rfl) (by unfold ck;rw[h];rfl);have B:Int.toNat 0=0:=rfl;simp only[go_sem,Nat.reduceAdd,B];rw[v0,w2,aac,s,Vg hx];refine⟨ah,rfl,ah,⟨0,0,rfl,rfl,ah,az,rfl⟩,fun q g ⟨k,y',t,D,hk,F,o⟩=>?_⟩;rw[g.i 0,v0,g.h 2,w2,g.h 1,w1,aac,s,Vg hx,t];refine⟨fun N=>?_,fun O=>b q _ (by rw[o,af3 ah];rfl)⟩;obtain⟨z,hz⟩:∃ z,bs[k]?=some z:=⟨_,aad ah⟩;have P:=hby z (aah hz);obtain⟨e,rfl⟩:∃ e:Nat,z=e:=⟨z.toNat,ah⟩;obtain⟨u,n⟩:0<=x/\∀ j z,bs[j]?=some z->R2.cell x.toNat (y.toNat+j)=some (.int .u8 z):=by
   obtain⟨x',y',c',he,G,h⟩:=M;simp only[Value.slice.injEq]at he;obtain⟨hp,_,_⟩:=he;rcases h with ⟨_,h⟩ | ⟨h0,h⟩
   .rw[h]at hz;simp at hz
   .obtain⟨e1,m⟩:=ma hx hy ah G hp;have m:=m ah;subst e1 m;exact⟨h0,h⟩
  have f:R2.cell x.toNat (y+(k:Int)).toNat=some (.int .u8 e):=by
   rw[<-n k _ hz];congr 1;omega
  rw[sl0 hx,sl1 u hy,f];have d:=JB (y:=y') hz;rw[<-o]at d;have ev:bO (some (Value.int .u8 (e:Int)))=e:=rfl;rw[ev];have rest:∀ q':Env,q'=q->k<=9->(k=9->e<=1)->aw q' (.bits .or .u64 (.var 10) (.shl .u64 (.wrap .u64 (.bits .and .u8 (.hI 1 (.hP 2 (.var 0) (.lit 0) 0 0) (.add (.hP 2 (.var 0) (.lit 0) 0 1) (.var 11)) 0) (.lit 127))) (.wrap .i64 (.mul (.lit 7) (.var 11)))))=((y'+e%128*128 ^ k:Nat):Int):=by
   rintro q' rfl C v;have hn:=(aa9 F C ah v).1;rw[AQ,TZ,bL,bL,AQ,fi,fC,bP,fC,cN];simp only[ar,aq];rw[g.i 0,v0,g.h 2,w2,g.h 1,w1,aac,B,acJ,s,sl0 hx,sl1 u hy,acJ,t,f,D];exact hn
  have hw:0<=IntKind.i64.wrap (7*(k:Int)):=by rw[wrap_i64 ah ah];omega
  have w:IntKind.i64.wrap (q.i 11+1)=k+1:=by rw[t,wrap_i64 ah ah]
  have fin:∀ mem,tO bs=some (y'+e*128 ^ k,k+1)->e<128->k<=9->(k=9->e<=1)->postOf nG [.pointer (some ⟨a,0,none⟩)] [] [R1,R2] q mem (.tup [.one (.int .u64 (.bits .or .u64 (.var 10) (.shl .u64 (.wrap .u64 (.bits .and .u8 (.hI 1 (.hP 2 (.var 0) (.lit 0) 0 0) (.add (.hP 2 (.var 0) (.lit 0) 0 1) (.var 11)) 0) (.lit 127))) (.wrap .i64 (.mul (.lit 7) (.var 11)))))),.one (.int .i64 (.wrap .i64 (.add (.var 11) (.lit 1))))]):=by
   intro mem hn l C v;refine out q mem _ _ ?_ ?_
   .rw[rest q rfl C v,afJ l];unfold ck;rw[hn];rfl
   .show IntKind.i64.wrap (q.i 11+1)=_;rw[w];unfold ck;rw[hn];rfl
  refine⟨u,hy,ah,rfl,fun C=>⟨fun h1=>⟨hw,fun h0=>b q _ ?_,fun h0=>fin _ ?_ ah ah ah⟩,fun h1=>b q _ ?_⟩,fun C=>⟨fun H=>b q _ ?_,fun H=>⟨hw,fun l=>⟨fun h0=>⟨fun I=>b q _ ?_,fun I=>fin _ ?_ ah ah ah⟩,fun h0=>fin _ ?_ ah ah ah⟩,fun l=>⟨⟨k+1,y'+e%128*128 ^ k,?_,?_,ah,?_,?_⟩,?_⟩⟩⟩⟩
  .rw[d,aa8 ah,ab9 ah,ab9 ah]
  .rw[d,aa8 ah,ab9 ah,aa8 ah]
  .rw[d,ab9 ah]
  .rw[d,ab9 ah]
  .rw[d,aa8 ah,ab9 ah,ab9 ah]
  .rw[d,aa8 ah,ab9 ah,aa8 ah]
  .rw[d,aa8 ah,ab9 ah,aa8 ah]
  .show IntKind.i64.wrap (q.i 11+1)=_;rw[w];omega
  .show aw q _=_;exact rest q rfl ah ah
  .rw[afR,afQ (128 ^ k) 128];have:e%128*128 ^ k<=127*128 ^ k:=afX _ ah;omega
  .rw[d,aa8 ah,aa8 ah]
  .show((bs.length:Int)-IntKind.i64.wrap (q.i 11+1)).toNat<_;rw[w];omega
def yq {F:Hl} {bs:List Int} {bad:Bool} (h:Fx R1 R2 p bs bad) (hp:nG.post [p] Hs [R1,R2] v K F):v=.tuple #[.int .u64 (ck bs).1,.int .i64 (ck bs).2]:=by
 obtain⟨b,c,d,bs',bad',hx,a,hIn,hv⟩:=hp;have hx:p=b:=by simpa using hx
 have a:R1=c/\R2=d:=by simpa using a
 obtain⟨e1,e⟩:=a;subst hx e1 e;rw[(h.uniq hIn).1];exact hv
def Lj (a:Nat) (x y c:Int) (n:Nat) (bad:Bool):Hl:=Hl.one a (.cells #[.slice (au x y) ((n:Int)).toNat c.toNat,.bool bad] 152 (0,0))
structure Cm (H:Hl) (a:Nat) (x y c:Int) (F:Hl) (bs:List Int) (bad:Bool):Prop where
 rx:-1<=x
 ry:0<=y
 rc:(bs.length:Int)<=c
 byte:al bs
 len:bs.length<=1000000
 rd:pz F (.slice (au x y) ((bs.length:Int)).toNat c.toNat) bs
 na:¬F.mem a
 hl:H=bY [Lj a x y c bs.length bad,F]
def jr (H:Hl) (p:Value) (bs:List Int) (bad:Bool):Prop:=∃ a x y c F,p=.pointer (some ⟨a,0,none⟩)/\Cm H a x y c F bs bad
def Hp {F:Hl} (h:F.le G) {bs:List Int} (hr:pz F v bs):pz G v bs:=by
 obtain⟨x,y,c,e,hy,hr⟩:=hr;refine⟨x,y,c,e,hy,hr.imp id fun⟨h0,b⟩=>⟨h0,fun j z hz=>?_⟩⟩;have:=b j z hz;unfold Hl.cell at this ⊢;cases a:F x.toNat with
 | none=>rw[a]at this;cases this
 | some o=>rw[h _ _ a];rw[a]at this;exact this
section
variable {H F:Hl} {a:Nat} {x y c:Int} {bs:List Int} {bad:Bool}
def Cm.le (h:Cm H a x y c F bs bad):(Lj a x y c bs.length bad).le H/\F.le H:=by
 have hd:(Lj a x y c bs.length bad).bq F:=Hl.fL.2 h.na;rw[h.hl];show(Lj a x y c bs.length bad).le ((Lj a x y c bs.length bad).un (F.un Hl.none))/\F.le ((Lj a x y c bs.length bad).un (F.un Hl.none));rw[Hl.iQ];exact⟨Hl.aV _ _,Hl.bg hd⟩
def Cm.split (h:Cm H a x y c F bs bad):Fx (Lj a x y c bs.length bad) F (.pointer (some ⟨a,0,none⟩)) bs bad:=by
 have b:=h.rd;rw[aac]at b;refine⟨a,x,y,c.toNat,rfl,?_,?_,h.rx,h.ry,b⟩
 .unfold Lj Hl.cell;rw[Hl.aK,aac];rfl
 .unfold Lj Hl.cell;rw[Hl.aK];rfl
def jr.whole (h:jr H p bs bad):Fx H H p bs bad:=by
 obtain⟨a,x,y,c,F,rfl,h⟩:=h;obtain⟨b,d⟩:=h.le;obtain⟨a',x',y',c',e,h1,f,g,i,k⟩:=h.split;simp only[Value.pointer.injEq,aa3,Addr.mk.injEq,abw]at e;subst e;have up:∀ j v,(Lj a x y c bs.length bad).cell a j=some v->H.cell a j=some v:=by
  intro j v hv;have e:=b a _ (Hl.aK _ _);unfold Lj Hl.cell at hv;rw[Hl.aK]at hv;unfold Hl.cell;rw[e];exact hv
 exact⟨a,x',y',c',rfl,up 0 _ h1,up 1 _ f,g,i,Hp d k⟩
def jr.uniq (h:jr H p bs bad) (h':jr H p bs' bad'):bs=bs'/\bad=bad':=h.whole.uniq h'.whole
end
def vJ:Mem:=[.bc 0 [.sl (.var 1) (.var 2) (.var 3) (.var 4),.bool (.bvar 6)] 152,.hp 7 [] [.var 1] []]
def oQ (a:Nat) (x y c:Int) (bs:List Int) (bad:Bool) (F:Hl) (z:Int):Env:=aM [(a:Int),x,y,bs.length,c,z] bad [Hl.none,Hl.none,Hl.none,Hl.none,Hl.none,Hl.none,Hl.none,F]
section
variable {H F:Hl} {a:Nat} {x y c:Int} {bs:List Int} {bad:Bool}
def zu (h:Cm H a x y c F bs bad) (z:Int):Entry (oQ a x y c bs bad F z) vJ [H] []:=by
 obtain⟨b,d⟩:=h.le;have hb:(bo.bc 0 [.sl (.var 1) (.var 2) (.var 3) (.var 4),.bool (.bvar 6)] 152).hl (oQ a x y c bs bad F z)=Lj a x y c bs.length bad:=by
  show Hl.one ((a:Int)).toNat (.cells #[.slice (au x y) ((bs.length:Int)).toNat c.toNat,.bool bad] 152 (0,0))=_;rw[aac];rfl
 refine⟨fun r hr ho=>⟨H,aC,?_⟩,fun r hr ho=>?_,?_,fun r hr=>?_⟩
 .simp only[vJ,aaW,abd,acs]at hr;rcases hr with rfl | rfl
  .rw[hb];exact b
  .exact d
 .simp only[vJ,aaW,abd,acs]at hr;rcases hr with rfl | rfl<;>cases ho
 .unfold vJ;refine List.Pairwise.cons (fun r hr _ _=>?_) (List.Pairwise.cons (fun r hr=>by cases hr) List.Pairwise.nil);rw[aaQ]at hr;subst hr;rw[hb];exact Hl.fL.2 h.na
 .simp only[vJ,aaW,abd,acs]at hr;rcases hr with rfl | rfl
  .show(0:Int)<=(a:Int);omega
  .trivial
def AT (h:Cm H a x y c F bs bad) (b:ai 8 (oQ a x y c bs bad F z) q) {Y:E} (hY:aw q Y=y') (hN:aw q N=bs'.length) (d:aw q C=c') (hg:aY q g=bad') (hy:0<=y') (e:(bs'.length:Int)<=c') (hb:al bs') (hl:bs'.length<=bs.length) (hr:pz F (.slice (au x y') ((bs'.length:Int)).toNat c'.toNat) bs') :
 jr (uY q (.bc 0 [.sl (.var 1) Y N C,.bool g] 152::.hp 7 v7 t7 []::t) [0,1]) (.pointer (some ⟨a,0,none⟩)) bs' bad':=by
 have hlen:=h.len;refine⟨a,x,y',c',F,rfl,h.rx,hy,e,hb,ah,hr,h.na,?_⟩;show bY [Hl.one (q.i 0).toNat (.cells #[.slice (au (q.i 1) (aw q Y)) (aw q N).toNat (aw q C).toNat,.bool (aY q g)] 152 (0,0)),q.h 7]=_;rw[hY,hN,d,hg,b.i 0,b.i 1,b.h 7];show bY [Hl.one ((a:Int)).toNat _,F]=_;rw[aac];rfl
def gj (h:al bs) (m:Nat):al (bs.drop m):=fun b hb=>h b (afs hb)
def sQ (h:Cm H a x y c F bs bad) (hm:m<=bs.length):pz F (.slice (au x (if c=m then y else y+m)) (((bs.drop m).length:Int)).toNat (c-m).toNat) (bs.drop m):=by
 obtain⟨_,hr⟩:=h.rd.at h.rx h.ry ah;have hy:=h.ry;refine⟨x,if c=m then y else y+m,(c-m).toNat,by rw[aac],by split<;>omega,?_⟩;rcases hr with ⟨h1,b⟩ | ⟨h0,d⟩
 .left;exact⟨h1,by rw[b];simp⟩
 .right;refine⟨h0,fun j z hz=>?_⟩;rw[acR]at hz;have f:=(aaG.1 hz).1;have e:=h.rc;rw[aa8 ah,show(y+(m:Int)).toNat+j=y.toNat+(m+j)by omega];exact d _ z hz
end
def oM (q:Env) (C M Y:E):aw q (.ite (.eq C M) Y (.add Y M))=if aw q C=aw q M then aw q Y else aw q Y+aw q M:=by
 simp only[dY,ik,bP]
def oS (bs:List Int) (bad:Bool) (most:Int):Int×List Int×Bool:=if bad=true\/(ck bs).2=0\/most<((ck bs).1:Int)then(0,bs,true)else((ck bs).1,bs.drop (ck bs).2,false)
def nA (bs:List Int) (bad:Bool) (n:Int):List Int×List Int×Bool:=if bad=true\/n<0\/(bs.length:Int)<n then([],bs,true)else(bs.take n.toNat,bs.drop n.toNat,false)
def gR (bs:List Int) (bad:Bool) (most:Int):List Int×List Int×Bool :=
 if bad=true\/(ck bs).2=0\/most<0\/min (min most 4096) ((bs.length:Int)-(ck bs).2)<((ck bs).1:Int)then([],bs,true)else((bs.drop (ck bs).2).take (ck bs).1,bs.drop ((ck bs).2+(ck bs).1),false)
def lr (bs:List Int) (bad:Bool):Bool×List Int×Bool:=if bad=true\/bs=[]\/1<bs.getD 0 0 then(false,bs,true)else(decide (bs.getD 0 0=1),bs.drop 1,false)
def Lz {bs:List Int} (hb:al bs):(ck bs).2<=bs.length/\(ck bs).1<18446744073709551616:=by
 unfold ck;cases h:tO bs with
 | none=>exact⟨acP _,az⟩
 | some r =>
  obtain⟨x,m⟩:=r;obtain⟨_,a,_,b⟩:=xo hb h;exact⟨a,b⟩
def qg:Sx.Spec where
 fn:=31
 own:=[]
 rd:=[0]
 res:=[.one .ptr]
 pre:=fun xs Hs Rs=>∃ u bs R,xs=[u]/\Rs=[R]/\fE R u bs/\al bs/\bs.length<=1000000
 post:=fun xs Hs Rs v Hs' F=>∃ u bs R,xs=[u]/\Rs=[R]/\fE R u bs/\jr F v bs false
def fe:Sx.Spec where
 fn:=32
 own:=[.arg 0]
 rd:=[]
 res:=[.one (.int .u64)]
 pre:=fun xs Hs Rs=>∃ p most H bs bad,xs=[p,.int .u64 most]/\Hs=[H]/\jr H p bs bad
 post:=fun xs Hs Rs v Hs' F=>∃ p most H bs bad H',xs=[p,.int .u64 most]/\Hs=[H]/\jr H p bs bad/\Hs'=[H']/\jr H' p (oS bs bad most).2.1 (oS bs bad most).2.2/\v=.int .u64 (oS bs bad most).1
def Ji:List Sx.Spec:=[nG,gI]
def AU:∀ t∈Ji,t.OK Tryz.prog:=ak JD <| ak mC <| bu
def ir0:nG.res=[.one (.int .u64),.one (.int .i64)]:=rfl
def ir1:gI.res=[.one .sl]:=rfl
def ic1:(aL 0 [Cp.one .sl]≠[])=True:=by simp [aL,Cp.roots,Ck.root]
def XF:aD Tryz.prog Ji fe.fn where
 Λ:=aA
 args:=[TP (.var 0) (.lit 0),TI .u64 (.var 5)]
 mem:=vJ
 nv:=8
def Gw {a:Nat} {x y c:Int} {bad:Bool} (h0:q.i 0=a) (h1:q.i 1=x) (d:q.i 2=y) (e:q.i 3=n) (f:q.i 4=c) (g:q.b 6=bad) :
 Hl.one (q.i 0).toNat (.cells #[.slice (au (q.i 1) (q.i 2)) (q.i 3).toNat (q.i 4).toNat,.bool (aY q (.bvar 6))] 152 (0,0))=Lj a x y c n bad:=by
 rw[bn,h0,h1,d,e,f,g,aac];rfl
def zE:fe.OK Tryz.prog:=by
 refine Spec.cM (Γ:=Ji) AU ?_;rintro xs Hs Rs A l ⟨p,most,H,bs,bad,rfl,rfl,a,x,y,c,F,rfl,h⟩;have e1:Rs=[]:=aa1.1 l;subst e1;refine⟨XF,oQ a x y c bs bad F most,fun _ _=>True,fun _ _=>0,?_,zu h most,(fun _ h=>nomatch h),?_⟩
 .show [Value.pointer (au (a:Int) 0),Value.int .u64 most]=_;rw[ft]
 .refine aD.read [] [] [] ?_;generalize d:oQ a x y c bs bad F most=J;have v0:J.i 0=a:=by rw[<-d];rfl
  have v1:J.i 1=x:=by rw[<-d];rfl
  have v2:J.i 2=y:=by rw[<-d];rfl
  have j:J.i 3=bs.length:=by rw[<-d];rfl
  have v4:J.i 4=c:=by rw[<-d];rfl
  have B:J.i 5=most:=by rw[<-d];rfl
  have b6:J.b 6=bad:=by rw[<-d];rfl
  have w7:J.h 7=F:=by rw[<-d];rfl
  obtain⟨n,D⟩:=Lz h.byte;have G:=h.rx;have o:=h.ry;have s:=h.rc;have out:∀ (q:Env) (Y N C g e:E) (m:Nat) (t:Mem) (bad':Bool) (r:Int),ai 8 J q->m<=bs.length->aw q Y=(if c=m then y else y+m)->aw q N=bs.length-m->aw q C=c-m->aY q g=bad'->aw q e=r->oS bs bad most=(r,bs.drop m,bad') ->
   postOf fe [.pointer (some ⟨a,0,none⟩),.int .u64 most] [H] [] q (.bc 0 [.sl (.var 1) Y N C,.bool g] 152::.hp 7 [] [.var 1] []::t) (.sv (.one (.int .u64 e))):=by
   intro q Y N C g e m t bad' r f hm hY hN I hg he hs _;rw[<-d]at f;refine⟨[[0,1]],[],rfl,rfl,⟨(ba fun _=>r),by show Value.int .u64 (aw q e)=_;rw[he];rfl,zzT,zzT⟩,_,most,H,bs,bad,_,rfl,rfl,⟨a,x,y,c,F,rfl,h⟩,rfl,?_,by show Value.int .u64 (aw q e)=_;rw[hs,he]⟩;rw[hs];have hd:((bs.drop m).length:Int)=bs.length-m:=by rw[acy];omega
   exact AT h f hY (by rw[hN,hd]) I hg (by split<;>omega) (by rw[hd];omega) (gj h.byte m) (by rw[acy];omega) (sQ h hm)
  have same:∀ (q:Env) (t:Mem),ai 8 J q->bad=true\/(ck bs).2=0\/most<((ck bs).1:Int)->postOf fe [.pointer (some ⟨a,0,none⟩),.int .u64 most] [H] [] q (.bc 0 [.sl (.var 1) (.var 2) (.var 3) (.var 4),.bool .tt] 152::.hp 7 [] [.var 1] []::t) (.sv (.one (.int .u64 (.lit 0)))):=by
   intro q t f hf;refine out q _ _ _ _ _ 0 t true 0 f (acP _) ?_ ?_ ?_ rfl rfl ?_
   .show q.i 2=_;rw[f.i 2,v2];split<;>omega
   .show q.i 3=_;rw[f.i 3,j];omega
   .show q.i 4=_;rw[f.i 4,v4];omega
   .unfold oS;rw[ab9 hf];rfl
  simp only[go_sem,Nat.reduceAdd,Ji,ir0,ir1,ic1];rw[Gw v0 v1 v2 j v4 b6,v0,ft,w7];refine⟨⟨_,_,_,bs,bad,rfl,rfl,h.split,h.byte,h.len⟩,fun q g ⟨K,hp,_,_⟩=>?_⟩;have hv:=yq h.split hp;have hv:q.i 8=(ck bs).1/\q.i 9=(ck bs).2:=by simpa using hv
  obtain⟨z,k⟩:=hv;rw[g.b 6,b6,k,g.i 5,B,z,g.i 1,v1,g.i 2,v2,g.i 3,j,g.i 4,v4];refine⟨fun hb=>⟨fun hz=>⟨fun u=>same q _ g (Or.inr (Or.inr u)),fun v=>⟨ah,o,ah,ah,s,?_⟩⟩,fun hz=>same q _ g (Or.inr (Or.inl ah))⟩,fun hb=>same q _ g (Or.inl hb)⟩;refine out q _ _ _ _ _ (ck bs).2 _ false (ck bs).1 g n ?_ ?_ ?_ ?_ z ?_
  .rw[oM,ar,ar,ar,k,g.i 4,v4,g.i 2,v2]
  .show q.i 3-q.i 9=_;rw[k,g.i 3,j]
  .show q.i 4-q.i 9=_;rw[k,g.i 4,v4]
  .show q.b 6=_;rw[g.b 6,b6];exact aef.2 hb
  .unfold oS;have w:¬(bad=true\/(ck bs).2=0\/most<((ck bs).1:Int)):=by
    rintro(e | e | e)
    .exact hb e
    .exact hz ah
    .exact v e
   rw[aa8 w]
def Yq:aD Tryz.prog Ji qg.fn where
 Λ:=aA
 args:=[.sv (.one (.sl (.var 0) (.var 1) (.var 2) (.var 3)))]
 mem:=[.ro 4 [.var 0] false]
 nv:=5
def pL {bs:List Int} {F:Hl} (h:fE R u bs) (hp:gI.post [u] Hs [R] v K F):c9 F 5 v bs:=by
 obtain⟨u',bs',R',hx,a,hB,b⟩:=hp;have hx:u=u':=by simpa using hx
 have a:R=R':=by simpa using a
 subst hx a;rw[h.uniq hB];exact b
def LH {F:Hl} {e:TypeId} {x y c:Int} {bs:List Int} (h:c9 F e (.slice (au x y) l.toNat c.toNat) bs) (hl:0<=l) (a:0<=c):l<=c:=by
 obtain⟨_,h⟩:=h;rcases h with ⟨h,_⟩ | ⟨g,cap,cur,h,_,hle,_⟩
 .simp only[Value.slice.injEq]at h;omega
 .simp only[Value.slice.injEq]at h;omega
def pe:qg.OK Tryz.prog:=by
 refine Spec.jN (Γ:=Ji) AU rfl ?_;rintro xs Rs ⟨u,bs,R,rfl,rfl,a,hby,hlen⟩;obtain⟨x,y,c,rfl,hy,r⟩:=id a;refine⟨Yq,aM [x,y,bs.length,c] false [Hl.none,Hl.none,Hl.none,Hl.none,R],fun _ _=>True,fun _ _=>0,?_,aT rfl rfl,rfl,?_⟩
 .show [Value.slice (au x y) ((bs.length:Int)).toNat ((c:Int)).toNat]=_;rw[aac,aac]
 .refine aD.read [] [] [] ?_;generalize g:aM [x,y,bs.length,c] false [Hl.none,Hl.none,Hl.none,Hl.none,R]=J;obtain⟨⟨v0,v1,v2,n,_⟩,_,_,_,_,o,_⟩:=jn g;clear g;simp only[go_sem,Nat.reduceAdd,Ji,ir0,ir1,ic1];rw[v0,v1,v2,n,o,aac,aac];refine⟨⟨_,bs,R,rfl,rfl,a,hlen⟩,fun q1 s ⟨t,hp,p,⟨⟨j,n6,n7,l⟩,_⟩⟩ q2 f q hd=>?_⟩;have m:=pL a hp;rw[<-p zzT]at m;have j:-1<=q1.i 5:=j;have n6:0<=q1.i 6:=n6;have n7:0<=q1.i 7:=n7;have l:0<=q1.i 8:=l;have d:=LH m n7 l;have e:=m.rd;have hl:=(e.at j n6 n7).1;rw[hl]at e d;have b:=hd 2 1 _ _ az rfl rfl rfl;have b:(Hl.one (q2.i 9).toNat _).bq (q2.h 5):=b;rw[f.h 5]at b;refine⟨[],[2,1],rfl,rfl,⟨(ba fun k=>if k=0 then q2.i 9 else 0),rfl,⟨by show -1<=q2.i 9;omega,aba _⟩,zzT⟩,_,bs,R,rfl,rfl,a,(q2.i 9).toNat,q1.i 5,q1.i 6,q1.i 8,q1.h 5,?_,⟨j,n6,d,hby,hlen,e,Hl.fL.1 b,?_⟩⟩
  .show Value.pointer (au (q2.i 9) 0)=_;rw[av q];rfl
  .show bY [Hl.one (q2.i 9).toNat (.cells #[.slice (au (q2.i 5) (q2.i 6)) (q2.i 7).toNat (q2.i 8).toNat,.bool false] 152 (0,0)),q2.h 5]=_;rw[f.i 5,f.i 6,f.i 7,f.i 8,f.h 5,hl];rfl
def L3 {H F:Hl} {a:Nat} {x y c:Int} {bs:List Int} {bad:Bool} (h:Cm H a x y c F bs bad) (hm:m+k<=bs.length) (c':Nat):fE F (.slice (au x (if c=m then y else y+m)) k c') ((bs.drop m).take k):=by
 obtain⟨x',y',c2,he,b,hr⟩:=(sQ h (m:=m) ah).w;simp only[Value.slice.injEq]at he;refine⟨x',y',c',?_,b,?_⟩
 .rw[he.1,ace,acy,Nat.min_eq_left ah]
 .rcases hr with h0 | ⟨h0,d⟩
  .left;rw[h0];simp
  .right;refine⟨h0,fun j z hz=>d j z ?_⟩;rw[acC]at hz;split at hz
   .exact hz
   .cases hz
def Hn:Sx.Spec where
 fn:=88
 own:=[.arg 0]
 rd:=[]
 res:=[.one .sl]
 pre:=fun xs Hs Rs=>∃ p n H bs bad,xs=[p,.int .i64 n]/\Hs=[H]/\jr H p bs bad
 post:=fun xs Hs Rs v Hs' F=>∃ p n H bs bad H',xs=[p,.int .i64 n]/\Hs=[H]/\jr H p bs bad/\Hs'=[H']/\jr H' p (nA bs bad n).2.1 (nA bs bad n).2.2/\c9 F 5 v (nA bs bad n).1
def aeq:aD Tryz.prog Ji Hn.fn where
 Λ:=aA
 args:=[TP (.var 0) (.lit 0),TI .i64 (.var 5)]
 mem:=vJ
 nv:=8
def rz (F:Hl) (e:TypeId):c9 F e (.slice none 0 0) []:=⟨rfl,Or.inl ⟨rfl,rfl⟩⟩
def LY:Hn.OK Tryz.prog:=by
 refine Spec.cM (Γ:=Ji) AU ?_;rintro xs Hs Rs B l ⟨p,n,H,bs,bad,rfl,rfl,a,x,y,c,F,rfl,h⟩;have e1:Rs=[]:=aa1.1 l;subst e1;refine⟨aeq,oQ a x y c bs bad F n,fun _ _=>True,fun _ _=>0,?_,zu h n,(fun _ h=>nomatch h),?_⟩
 .show [Value.pointer (au (a:Int) 0),Value.int .i64 n]=_;rw[ft]
 .refine aD.read [] [] [] ?_;generalize d:oQ a x y c bs bad F n=J;have v1:J.i 1=x:=by rw[<-d];rfl
  have v2:J.i 2=y:=by rw[<-d];rfl
  have o:J.i 3=bs.length:=by rw[<-d];rfl
  have v4:J.i 4=c:=by rw[<-d];rfl
  have z:J.i 5=n:=by rw[<-d];rfl
  have b6:J.b 6=bad:=by rw[<-d];rfl
  have w7:J.h 7=F:=by rw[<-d];rfl
  have r:=h.rx;have f:=h.ry;have j:=h.rc;have fail:∀ (t:Mem),bad=true\/n<0\/(bs.length:Int)<n->postOf Hn [.pointer (some ⟨a,0,none⟩),.int .i64 n] [H] [] J (.bc 0 [.sl (.var 1) (.var 2) (.var 3) (.var 4),.bool .tt] 152::.hp 7 [] [.var 1] []::t) (.sv (.one (.sl (.lit (-1)) (.lit 0) (.lit 0) (.lit 0)))):=by
   intro t hf _;have C:ai 8 (oQ a x y c bs bad F n) J:=by rw[d];exact ai.refl _ _
   have hs:nA bs bad n=([],bs,true):=by unfold nA;rw[ab9 hf]
   refine⟨[[0,1]],[],rfl,rfl,⟨(ba fun k=>if k=0 then -1 else 0),rfl,⟨aba _,aba _,aba _,aba _⟩,zzT⟩,_,n,H,bs,bad,_,rfl,rfl,⟨a,x,y,c,F,rfl,h⟩,rfl,?_,?_⟩
   .rw[hs];exact AT h C (show aw J (.var 2)=y from v2) (show aw J (.var 3)=_ from o) (show aw J (.var 4)=c from v4) rfl f j h.byte (ab8 _) h.rd
   .rw[hs];exact rz _ _
  simp only[go_sem,Nat.reduceAdd,Ji,ir0,ir1,ic1];rw[b6,v1,v2,o,v4,z,w7];refine⟨fun hb=>⟨fun hn=>⟨ah,fun s=>fail _ (Or.inr (Or.inr s)),fun u=>⟨r,f,ah,?_⟩⟩,fun hn=>fail _ (Or.inr (Or.inl hn))⟩,fun hb=>fail _ (Or.inl hb)⟩;have v:=L3 h (m:=0) (k:=n.toNat) ah c.toNat;rw[af8,show(if c=((0:Nat):Int)then y else y+((0:Nat):Int))=y by split<;>omega]at v;refine⟨⟨_,_,F,rfl,rfl,v,by rw[ace];have:=h.len;omega⟩,fun q g ⟨E,hp,D,w⟩=>?_⟩;have A:=pL v hp;rw[<-D zzT]at A;rw[g.i 5,g.i 3,g.i 4,o,v4,z];refine⟨ah,j,fun _=>?_⟩;have hs:nA bs bad n=(bs.take n.toNat,bs.drop n.toNat,false):=by
   unfold nA;have:¬(bad=true\/n<0\/(bs.length:Int)<n):=by
    rintro(e | e | e)
    .exact hb e
    .exact hn e
    .exact u e
   rw[aa8 this]
  rw[<-d]at g;refine⟨[[0,1]],[2],rfl,rfl,⟨(ba fun k=>q.i (8+k)),rfl,w.1,zzT⟩,_,n,H,bs,bad,_,rfl,rfl,⟨a,x,y,c,F,rfl,h⟩,rfl,?_,?_⟩
  .rw[hs];have hd:((bs.drop n.toNat).length:Int)=bs.length-n:=by rw[acy];omega
   have hr:=sQ h (m:=n.toNat) ah;rw[show((n.toNat:Nat):Int)=n by omega]at hr;refine AT h g ?_ ?_ ?_ ?_ (y':=if c=n then y else y+n) (by split<;>omega) (c':=c-n) (by rw[hd];omega) (gj h.byte _) (by rw[acy];omega) hr
   .rw[oM,ar,ar,ar,g.i 4,g.i 5,g.i 2];rfl
   .show q.i 3-q.i 5=_;rw[hd,g.i 3,g.i 5];rfl
   .show q.i 4-q.i 5=_;rw[g.i 4,g.i 5];rfl
   .show q.b 6=_;rw[g.b 6];exact aef.2 hb
  .rw[hs];show c9 (bY [q.h 8]) _ _ _;rw[aJ];exact A
def wO:Sx.Spec where
 fn:=86
 own:=[.arg 0]
 rd:=[]
 res:=[.one .sl]
 pre:=fun xs Hs Rs=>∃ p most H bs bad,xs=[p,.int .i64 most]/\Hs=[H]/\jr H p bs bad/\most<=1000000
 post:=fun xs Hs Rs v Hs' F=>∃ p most H bs bad H',xs=[p,.int .i64 most]/\Hs=[H]/\jr H p bs bad/\Hs'=[H']/\jr H' p (gR bs bad most).2.1 (gR bs bad most).2.2/\c9 F 5 v (gR bs bad most).1
def abZ:aD Tryz.prog Ji wO.fn where
 Λ:=aA
 args:=[TP (.var 0) (.lit 0),TI .i64 (.var 5)]
 mem:=vJ
 nv:=8
def T3 {a b:Int} : (if a<b then a else b)=min a b:=by split<;>omega
def Ic:wO.OK Tryz.prog:=by
 refine Spec.cM (Γ:=Ji) AU ?_;rintro xs Hs Rs aa M ⟨p,most,H,bs,bad,rfl,rfl,⟨a,x,y,c,F,rfl,h⟩,N⟩;have e1:Rs=[]:=aa1.1 M;subst e1;refine⟨abZ,oQ a x y c bs bad F most,fun _ _=>True,fun _ _=>0,?_,zu h most,(fun _ h=>nomatch h),?_⟩
 .show [Value.pointer (au (a:Int) 0),Value.int .i64 most]=_;rw[ft]
 .refine aD.read [] [] [] ?_;generalize d:oQ a x y c bs bad F most=J;have v0:J.i 0=a:=by rw[<-d];rfl
  have v1:J.i 1=x:=by rw[<-d];rfl
  have v2:J.i 2=y:=by rw[<-d];rfl
  have s:J.i 3=bs.length:=by rw[<-d];rfl
  have v4:J.i 4=c:=by rw[<-d];rfl
  have v5:J.i 5=most:=by rw[<-d];rfl
  have b6:J.b 6=bad:=by rw[<-d];rfl
  have w7:J.h 7=F:=by rw[<-d];rfl
  obtain⟨ab,ad⟩:=Lz h.byte;have v:=h.rx;have w:=h.ry;have z:=h.rc;have hlen:=h.len;have fail:∀ (q:Env) (t:Mem),ai 8 J q->bad=true\/(ck bs).2=0\/most<0\/min (min most 4096) ((bs.length:Int)-(ck bs).2)<((ck bs).1:Int)->postOf wO [.pointer (some ⟨a,0,none⟩),.int .i64 most] [H] [] q (.bc 0 [.sl (.var 1) (.var 2) (.var 3) (.var 4),.bool .tt] 152::.hp 7 [] [.var 1] []::t) (.sv (.one (.sl (.lit (-1)) (.lit 0) (.lit 0) (.lit 0)))):=by
   intro q t A hf _;have hs:gR bs bad most=([],bs,true):=by unfold gR;rw[ab9 hf]
   refine⟨[[0,1]],[],rfl,rfl,⟨(ba fun k=>if k=0 then -1 else 0),rfl,⟨aba _,aba _,aba _,aba _⟩,zzT⟩,_,most,H,bs,bad,_,rfl,rfl,⟨a,x,y,c,F,rfl,h⟩,rfl,?_,?_⟩
   .rw[hs];have k2:aw q (.var 2)=y:=by rw[ar,A.i 2,v2]
    have k3:aw q (.var 3)=bs.length:=by rw[ar,A.i 3,s]
    have k4:aw q (.var 4)=c:=by rw[ar,A.i 4,v4]
    rw[<-d]at A;exact AT h A k2 k3 k4 rfl w z h.byte (ab8 _) h.rd
   .rw[hs];exact rz _ _
  simp only[go_sem,Nat.reduceAdd,Ji,ir0,ir1,ic1];rw[Gw v0 v1 v2 s v4 b6,v0,ft,w7];refine⟨⟨_,_,_,bs,bad,rfl,rfl,h.split,h.byte,h.len⟩,fun q g ⟨F1,hp,_,_⟩=>?_⟩;have hv:=yq h.split hp;have hv:q.i 8=(ck bs).1/\q.i 9=(ck bs).2:=by simpa using hv
  obtain⟨O,r⟩:=hv;generalize hm:(ck bs).2=m at *;generalize hk:(ck bs).1=k at *;have j1:q.i 1=x:=by rw[g.i 1,v1]
  have P:q.i 2=y:=by rw[g.i 2,v2]
  have j3:q.i 3=bs.length:=by rw[g.i 3,s]
  have Q:q.i 4=c:=by rw[g.i 4,v4]
  have j5:q.i 5=most:=by rw[g.i 5,v5]
  rw[g.b 6,b6,r,O,j1,P,j3,Q,j5];rw[wrap_i64 (n:=(bs.length:Int)-(m:Int)) ah ah];simp only[T3];have B:min ((bs.length:Int)-(m:Int)) (min 4096 most)=min (min most 4096) ((bs.length:Int)-(m:Int)):=ah;rw[B];refine⟨fun hb=>⟨fun hz=>⟨fun C=>⟨ah,fun D=>?_,fun E=>?_⟩,fun C=>fail q _ g (Or.inr (Or.inr (Or.inl C)))⟩,fun hz=>fail q _ g (Or.inr (Or.inl ah))⟩,fun hb=>fail q _ g (Or.inl hb)⟩
  .rw[m9 ah ah]at D;exact fail q _ g (Or.inr (Or.inr (Or.inr D)))
  .rw[m9 ah ah]at E;have j:IntKind.i64.wrap (k:Int)=k:=wrap_i64 ah ah;have hY:aw q (.ite (.eq (.var 4) (.var 9)) (.var 2) (.add (.var 2) (.var 9)))=if c=(m:Int)then y else y+m:=by
    rw[oM,ar,ar,ar,Q,P,r]
   have S:∀ q',ai 10 q q'->aw q' (.ite (.eq (.var 4) (.var 9)) (.var 2) (.add (.var 2) (.var 9)))=if c=(m:Int)then y else y+m:=by
    intro q' T;rw[oM,ar,ar,ar,T.i 4,T.i 2,T.i 9,Q,P,r]
   rw[j];refine⟨v,w,ah,ah,z,fun _=>⟨ah,fun G=>absurd G ah,fun _=>?_⟩,fun I=>absurd I ah⟩;have hs:gR bs bad most=((bs.drop m).take k,bs.drop (m+k),false):=by
    unfold gR;rw[hm,hk];have:¬(bad=true\/m=0\/most<0\/min (min most 4096) ((bs.length:Int)-(m:Int))<(k:Int)):=by
     rintro(e | e | e | e)
     .exact hb e
     .exact hz ah
     .omega
     .exact E e
    rw[aa8 this]
   have U:m+k<=bs.length:=ah;have Z:=L3 h (m:=m) (k:=k) U (c-m).toNat;have V:=sQ h (m:=m) ah;have ae:((bs.drop m).length:Int)=bs.length-m:=by rw[acy];omega
   have K:0<=(if c=(m:Int)then y else y+m):=by split<;>omega
   have h2:Cm (bY [Lj a x (if c=(m:Int)then y else y+m) (c-m) (bs.drop m).length false,F]) a x (if c=(m:Int)then y else y+m) (c-m) F (bs.drop m) false :=
    ⟨v,K,ah,gj h.byte m,by rw[acy];omega,V,h.na,rfl⟩
   have L:=sQ h2 (m:=k) (by rw[acy];omega);rw[aft]at L;rw[g.h 7,w7];refine⟨K,ah,⟨_,_,F,rfl,rfl,(by rw[aac];exact Z),by rw[ace,acy];omega⟩,fun q2 l ⟨F2,W,X,Y⟩=>?_⟩;have hO:=pL (R:=F) (u:=.slice (au x (if c=(m:Int)then y else y+m)) ((k:Int)).toNat (c-m).toNat) (by rw[aac];exact Z) W;rw[<-X zzT]at hO;have o:ai 8 J q2:=g.tr l;rw[l.i 8,l.i 9,o.i 3,o.i 4,O,r,s,v4,j];refine⟨ah,ah,fun _=>?_⟩;have eC:aw q2 (.sub (.var 4) (.var 9))=c-m:=by
    show q2.i 4-q2.i 9=_;rw[o.i 4,l.i 9,v4,r]
   have eN:aw q2 (.sub (.var 3) (.var 9))=bs.length-m:=by
    show q2.i 3-q2.i 9=_;rw[o.i 3,l.i 9,s,r]
   have eK:aw q2 (.wrap .i64 (.var 8))=k:=by
    show IntKind.i64.wrap (q2.i 8)=_;rw[l.i 8,O,j]
   have f:((bs.drop (m+k)).length:Int)=bs.length-m-k:=by rw[acy];omega
   have g6:aY q2 (.bvar 6)=false:=by rw[bn,o.b 6,b6];exact aef.2 hb
   rw[<-d]at o;refine⟨[[0,1]],[2],rfl,rfl,⟨(ba fun k=>q2.i (10+k)),rfl,Y.1,zzT⟩,_,most,H,bs,bad,_,rfl,rfl,⟨a,x,y,c,F,rfl,h⟩,rfl,?_,?_⟩
   .rw[hs];refine AT h o ?_ ?_ ?_ g6 (y':=if c-(m:Int)=k then(if c=(m:Int)then y else y+m)else(if c=(m:Int)then y else y+m)+k) (by split<;>omega) (c':=c-m-k) (by rw[f];omega) (gj h.byte _) (by rw[acy];omega) L
    .rw[oM,eC,eK,S q2 l]
    .rw[dZ,eN,eK,f]
    .rw[dZ,eC,eK]
   .rw[hs];show c9 (bY [q2.h 10]) _ _ _;rw[aJ];exact hO
def vA:Sx.Spec where
 fn:=87
 own:=[.arg 0]
 rd:=[]
 res:=[.one .bool]
 pre:=fun xs Hs Rs=>∃ p H bs bad,xs=[p]/\Hs=[H]/\jr H p bs bad
 post:=fun xs Hs Rs v Hs' F=>∃ p H bs bad H',xs=[p]/\Hs=[H]/\jr H p bs bad/\Hs'=[H']/\jr H' p (lr bs bad).2.1 (lr bs bad).2.2/\v=.bool (lr bs bad).1
def aaq:aD Tryz.prog Ji vA.fn where
 Λ:=aA
 args:=[TP (.var 0) (.lit 0)]
 mem:=vJ
 nv:=8
def Az:vA.OK Tryz.prog:=by
 refine Spec.cM (Γ:=Ji) AU ?_;rintro xs Hs Rs C q ⟨p,H,bs,bad,rfl,rfl,a,x,y,c,F,rfl,h⟩;have e1:Rs=[]:=aa1.1 q;subst e1;refine⟨aaq,oQ a x y c bs bad F 0,fun _ _=>True,fun _ _=>0,?_,zu h 0,(fun _ h=>nomatch h),?_⟩
 .show [Value.pointer (au (a:Int) 0)]=_;rw[ft]
 .refine aD.read [] [] [] ?_;generalize d:oQ a x y c bs bad F 0=J;have v1:J.i 1=x:=by rw[<-d];rfl
  have v2:J.i 2=y:=by rw[<-d];rfl
  have r:J.i 3=bs.length:=by rw[<-d];rfl
  have v4:J.i 4=c:=by rw[<-d];rfl
  have b6:J.b 6=bad:=by rw[<-d];rfl
  have w7:J.h 7=F:=by rw[<-d];rfl
  have s:=h.rx;have g:=h.ry;have k:=h.rc;have B:ai 8 (oQ a x y c bs bad F 0) J:=by rw[d];exact ai.refl _ _
  have fail:∀ (t:Mem),bad=true\/bs=[]\/1<bs.getD 0 0->postOf vA [.pointer (some ⟨a,0,none⟩)] [H] [] J (.bc 0 [.sl (.var 1) (.var 2) (.var 3) (.var 4),.bool .tt] 152::.hp 7 [] [.var 1] []::t) (.sv (.one (.bool .ff))):=by
   intro t hf _;have hs:lr bs bad=(false,bs,true):=by unfold lr;rw[ab9 hf]
   refine⟨[[0,1]],[],rfl,rfl,⟨(ba fun _=>0),rfl,zzT,zzT⟩,_,H,bs,bad,_,rfl,rfl,⟨a,x,y,c,F,rfl,h⟩,rfl,?_,by rw[hs];rfl⟩;rw[hs];exact AT h B (show aw J (.var 2)=y from v2) (show aw J (.var 3)=_ from r) (show aw J (.var 4)=c from v4) rfl g k h.byte (ab8 _) h.rd
  simp only[go_sem,Nat.reduceAdd];rw[b6,v1,v2,r,v4,w7];refine⟨fun hb=>⟨ah,fun u=>?_,fun u=>fail _ (Or.inr (Or.inl (aa1.1 ah)))⟩,fun hb=>fail _ (Or.inl hb)⟩;obtain⟨z,hz⟩:∃ z,bs[0]?=some z:=⟨_,aad ah⟩;obtain⟨v,D⟩:0<=x/\∀ j z,bs[j]?=some z->F.cell x.toNat (y.toNat+j)=some (.int .u8 z):=by
   rcases(h.rd.at s g ah).2 with ⟨_,e⟩ | e
   .rw[e]at hz;simp at hz
   .exact e
  have f:=D 0 z hz;rw[acJ]at f;have l:bs.getD 0 0=z:=by rw[abv,hz];rfl
  rw[f];have E:bO (some (Value.int .u8 z))=z:=rfl;rw[E];refine⟨v,g,ah,rfl,fun w=>fail _ (Or.inr (Or.inr (by rw[l];exact w))),fun hle=>⟨k,fun _=>?_⟩⟩;have hs:lr bs bad=(decide (z=1),bs.drop 1,false):=by
   unfold lr;rw[l];have:¬(bad=true\/bs=[]\/1<z):=by
    rintro(e | e | e)
    .exact hb e
    .rw[e]at hz;simp at hz
    .exact hle e
   rw[aa8 this]
  have n:aY J (.eq (.hI 7 (.var 1) (.var 2) 0) (.lit 1))=decide (z=1):=by
   rw[uf,fi,ar,ar,aq,v1,v2,w7,acJ,f];rfl
  have A:=sQ h (m:=1) ah;have o:((bs.drop 1).length:Int)=bs.length-1:=by rw[acy];omega
  refine⟨[[0,1]],[],rfl,rfl,⟨⟨fun _=>0,fun _=>decide (z=1),fun _=>.empty,fun _=>.tuple #[],fun _=>Hl.none⟩,by show Value.bool (aY J _)=_;rw[n];rfl,zzT,zzT⟩,_,H,bs,bad,_,rfl,rfl,⟨a,x,y,c,F,rfl,h⟩,rfl,?_,by show Value.bool (aY J _)=_;rw[n,hs]⟩;rw[hs];refine AT h B ?_ ?_ ?_ (by rw[bn,b6];exact aef.2 hb) (y':=if c=((1:Nat):Int)then y else y+((1:Nat):Int)) (by split<;>omega) (c':=c-((1:Nat):Int)) (by rw[o];omega) (gj h.byte _) (by rw[acy];omega) A
  .rw[oM,ar,ar,aq,v4,v2];rfl
  .show J.i 3-1=_;rw[o,r]
  .show J.i 4-1=_;rw[v4];rfl
def tQ:Sx.Spec where
 fn:=36
 own:=[]
 rd:=[0]
 res:=[.one .bool]
 pre:=fun xs Hs Rs=>∃ p R bs bad,xs=[p]/\Rs=[R]/\jr R p bs bad
 post:=fun xs Hs Rs v Hs' F=>∃ p R bs bad,xs=[p]/\Rs=[R]/\jr R p bs bad/\v=.bool (!bad&&decide (bs=[]))
def abi:aD Tryz.prog [] tQ.fn where
 Λ:=aA
 args:=[TP (.var 0) (.lit 0)]
 mem:=[.ro 1 [.var 0] false]
 nv:=2
def wh:tQ.OK Tryz.prog:=by
 refine Spec.jN (Γ:=[]) (fun _ h=>by cases h) rfl ?_;rintro xs Rs ⟨p,R,bs,bad,rfl,rfl,hIn⟩;obtain⟨a,x,y,c,rfl,d,i,hx,hy,k⟩:=hIn.whole;refine⟨abi,aM [(a:Int)] false [Hl.none,R],fun _ _=>True,fun _ _=>0,?_,aT rfl rfl,rfl,?_⟩
 .show [Value.pointer (au (a:Int) 0)]=_;rw[ft]
 .refine aD.read [] [] [] ?_;generalize f:aM [(a:Int)] false [Hl.none,R]=J;obtain⟨⟨v0,_⟩,_,w1,_⟩:=jn f;clear f;have out:∀ (mem:Mem) (e:E),aY J e=(!bad&&decide (bs=[]))->postOf tQ [.pointer (some ⟨a,0,none⟩)] [] [R] J mem (.sv (.one (.bool e))):=fun mem e he _ =>
   ⟨[],[],rfl,rfl,⟨⟨fun _=>0,fun _=>aY J e,fun _=>.empty,fun _=>.tuple #[],fun _=>Hl.none⟩,rfl,zzT,zzT⟩,_,R,bs,bad,rfl,rfl,hIn,by show Value.bool (aY J e)=_;rw[he]⟩
  have g:Int.toNat 0=0:=rfl;have j:Int.toNat 1=1:=rfl;simp only[go_sem,Nat.reduceAdd,g,j];rw[v0,w1,aac,d,i,Vg hx];refine⟨ah,rfl,fun hb=>⟨rfl,ah,out _ _ ?_⟩,fun hb=>out _ _ ?_⟩
  .have hb:bad=false:=aef.2 hb;rw[uf,fC,ar,aq,v0,w1,aac,g,acJ,d,Vg hx,hb];cases bs with
   | nil=>rfl
   | cons b l =>
    simp;omega
  .have hb:bad=true:=hb;rw[hb];rfl
abbrev OB (x:Int) (n:Nat) (c:Int):Value:=.slice (au x 0) ((n:Int)).toNat c.toNat
def we (a:Nat) (x c:Int) (n:Nat) (lg:Bool):Hl:=Hl.one a (.cells #[OB x n c,.bool lg] 124 (0,0))
structure CA (H:Hl) (a:Nat) (x c:Int) (F:Hl) (bs:List Int) (lg:Bool):Prop where
 rx:-1<=x
 rc:0<=c
 own:c9 F 5 (OB x bs.length c) bs
 na:¬F.mem a
 hl:H=bY [we a x c bs.length lg,F]
def aZ (H:Hl) (p:Value) (bs:List Int) (lg:Bool):Prop:=∃ a x c F,p=.pointer (some ⟨a,0,none⟩)/\CA H a x c F bs lg
section
variable {H F:Hl} {a:Nat} {x c:Int} {bs:List Int} {lg:Bool}
def CA.le (h:CA H a x c F bs lg):(we a x c bs.length lg).le H/\F.le H:=by
 have hd:(we a x c bs.length lg).bq F:=Hl.fL.2 h.na;rw[h.hl];show(we a x c bs.length lg).le ((we a x c bs.length lg).un (F.un Hl.none))/\F.le ((we a x c bs.length lg).un (F.un Hl.none));rw[Hl.iQ];exact⟨Hl.aV _ _,Hl.bg hd⟩
def aZ.whole (h:aZ H p bs lg):∃ (a:Nat) (x c:Int),p=.pointer (some ⟨a,0,none⟩)/\ -1<=x/\0<=c/\H.cell a 0=some (OB x bs.length c)/\H.cell a 1=some (.bool lg)/\pz H (OB x bs.length c) bs:=by
 obtain⟨a,x,c,F,rfl,h⟩:=h;obtain⟨b,d⟩:=h.le;have e:=b a _ (Hl.aK _ _);exact⟨a,x,c,rfl,h.rx,h.rc,by unfold Hl.cell;rw[e];rfl,by unfold Hl.cell;rw[e];rfl,Hp d h.own.rd⟩
def aZ.uniq (h:aZ H p bs lg) (h':aZ H p bs' lg'):bs=bs'/\lg=lg':=by
 obtain⟨a,x,c,rfl,_,_,h0,h1,hr⟩:=h.whole;obtain⟨a',x',c',e,_,_,k0,k1,b⟩:=h'.whole;simp only[Value.pointer.injEq,aa3,Addr.mk.injEq,abw]at e;subst e;rw[h0]at k0;rw[h1]at k1;simp only[aa3,Value.bool.injEq]at k0 k1;rw[<-k0]at b;exact⟨hr.uniq b,k1⟩
end
def aZ.new (a:Nat):aZ (Hl.one a (.cells #[.slice none 0 0,.bool false] 124 (0,0))) (.pointer (some ⟨a,0,none⟩)) [] false:=by
 refine⟨a,-1,0,Hl.none,rfl,⟨aba _,aba _,⟨rfl,Or.inl ⟨rfl,rfl⟩⟩,fun h=>(by simp [Hl.mem,Hl.none]at h),?_⟩⟩;show _=(we a (-1) 0 0 false).un (Hl.none.un Hl.none);rw[Hl.iQ,Hl.iQ];rfl
def jA:Mem:=[.bc 0 [.sl (.var 1) (.lit 0) (.var 2) (.var 3),.bool (.bvar 6)] 124,.hp 7 [] [.var 1] []]
def oi (a:Nat) (x c:Int) (n:Nat) (lg:Bool) (F:Hl) (z:Int) (l:List Int) (R:Hl):Env:=aM ([(a:Int),x,n,c,0,z,0,0]++l) lg [Hl.none,Hl.none,Hl.none,Hl.none,Hl.none,Hl.none,Hl.none,F,Hl.none,Hl.none,Hl.none,Hl.none,R]
section
variable {H F:Hl} {a:Nat} {x c:Int} {bs:List Int} {lg:Bool}
def Bz (h:CA H a x c F bs lg) (z:Int) (l:List Int) (R:Hl):Entry (oi a x c bs.length lg F z l R) jA [H] []:=by
 obtain⟨b,d⟩:=h.le;have hb:(bo.bc 0 [.sl (.var 1) (.lit 0) (.var 2) (.var 3),.bool (.bvar 6)] 124).hl (oi a x c bs.length lg F z l R)=we a x c bs.length lg:=by
  show Hl.one ((a:Int)).toNat (.cells #[OB x bs.length c,.bool lg] 124 (0,0))=_;rw[aac];rfl
 refine⟨fun r hr ho=>⟨H,aC,?_⟩,fun r hr ho=>?_,?_,fun r hr=>?_⟩
 .simp only[jA,aaW,abd,acs]at hr;rcases hr with rfl | rfl
  .rw[hb];exact b
  .exact d
 .simp only[jA,aaW,abd,acs]at hr;rcases hr with rfl | rfl<;>cases ho
 .unfold jA;refine List.Pairwise.cons (fun r hr _ _=>?_) (List.Pairwise.cons (fun r hr=>by cases hr) List.Pairwise.nil);rw[aaQ]at hr;subst hr;rw[hb];exact Hl.fL.2 h.na
 .simp only[jA,aaW,abd,acs]at hr;rcases hr with rfl | rfl
  .show(0:Int)<=(a:Int);omega
  .trivial
def NQ (h:CA H a x c F bs lg) (z:Int) (l:List Int) (R:Hl) (t:List E):Entry (oi a x c bs.length lg F z l R) (jA++[.ro 12 t false]) [H] [R]:=by
 obtain⟨h1,b,d,e⟩:=Bz h z l R;refine⟨fun r hr ho=>?_,fun r hr ho=>?_,?_,fun r hr=>?_⟩
 .rcases acg.1 hr with hr | hr
  .exact h1 r hr ho
  .rw[aaQ]at hr;subst hr;cases ho
 .rcases acg.1 hr with hr | hr
  .obtain⟨R,f,_⟩:=b r hr ho;cases f
  .rw[aaQ]at hr;subst hr;exact⟨R,aC,Hl.le_refl _⟩
 .rw[agM];refine⟨d,aC,fun r _ s hs _ ho=>?_⟩;rw[aaQ]at hs;subst hs;cases ho
 .rcases acg.1 hr with hr | hr
  .exact e r hr
  .rw[aaQ]at hr;subst hr;trivial
end
def JI {a:Nat} {X:E} {bs:List Int} {lg:Bool} (h0:q.i 0=a) (hX:-1<=aw q X) (hN:aw q N=bs.length) (c:0<=aw q C) (hg:aY q g=lg) (ho:c9 (q.h k) 5 (OB (aw q X) bs.length (aw q C)) bs)
 (hd:∀ (p s:Nat) r u,p≠s->(.bc 0 [.sl X (.lit 0) N C,.bool g] 124::.hp k v7 t7 []::t:Mem)[p]?=some r->(.bc 0 [.sl X (.lit 0) N C,.bool g] 124::.hp k v7 t7 []::t:Mem)[s]?=some u->r.own=true->(r.hl q).bq (u.hl q)) :
 aZ (uY q (.bc 0 [.sl X (.lit 0) N C,.bool g] 124::.hp k v7 t7 []::t) [0,1]) (.pointer (some ⟨a,0,none⟩)) bs lg:=by
 have hb:(bo.bc 0 [.sl X (.lit 0) N C,.bool g] 124).hl q=we a (aw q X) (aw q C) bs.length lg:=by
  show Hl.one (q.i 0).toNat (.cells #[.slice (au (aw q X) 0) (aw q N).toNat (aw q C).toNat,.bool (aY q g)] 124 (0,0))=_;rw[h0,hN,hg,aac];rfl
 have b:=hd 0 1 _ _ az rfl rfl rfl;rw[hb]at b;refine⟨a,aw q X,aw q C,q.h k,rfl,hX,c,ho,Hl.fL.1 b,?_⟩;show bY [(bo.bc 0 [.sl X (.lit 0) N C,.bool g] 124).hl q,q.h k]=_;rw[hb]
def sJ {x c x1 c1:Int} {bs:List Int} (ho:c9 A 5 (.slice (au x 0) l.toNat c.toNat) bs) (hl:l=bs.length) (hm:m=bs2.length)
 (happ:∀ xs,aO A 5 1 (.slice (au x 0) l.toNat c.toNat) l.toNat xs->aO B 5 1 (.slice (au x1 0) (l.toNat+m) c1.toNat) (l.toNat+m) (xs++aS bs2)):c9 B 5 (OB x1 (bs++bs2).length c1) (bs++bs2):=by
 have hn:l.toNat=bs.length:=ah;have h1:aO A 5 1 (.slice (au x 0) l.toNat c.toNat) l.toNat (aS bs):=by rw[hn]at ho ⊢;exact ho
 have a:=happ _ h1;unfold c9 OB;rw[aac,aaA,gQ,<-hm,<-hn];exact a
def sK {x c:Int} {bs:List Int} (ho:c9 A 5 (.slice (au x 0) l.toNat c.toNat) bs) (hl:l=bs.length):aO A 5 1 (.slice (au x 0) l.toNat c.toNat) l.toNat (aS bs):=by
 have hn:l.toNat=bs.length:=ah;rw[hn]at ho ⊢;exact ho
def Q6 (f:FuncId) (ok:List Value->List Int->Prop) (act:List Value->List Int->List Int):Sx.Spec where
 fn:=f
 own:=[.arg 0]
 rd:=[]
 res:=[]
 pre:=fun xs Hs Rs=>∃ p z H bs lg,xs=[p,z]/\Hs=[H]/\aZ H p bs lg/\ok [z] bs/\bs.length<=900000
 post:=fun xs Hs Rs v Hs' F=>∃ p z H bs lg H',xs=[p,z]/\Hs=[H]/\aZ H p bs lg/\Hs'=[H']/\aZ H' p (act [z] bs) lg
def JA (l:List Value) (bs:List Int):List Int:=bs++aF (bO l[0]?).toNat
def abb (l:List Value) (_:List Int):Prop:=∃ z:Int,l=[.int .u64 z]/\0<=z/\z<18446744073709551616
def nH:Sx.Spec:=Q6 63 abb JA
def abe:aD Tryz.prog [] 63 where
 Λ:=fun p=>if QI p then some ⟨0,[(1,TI .u64 (.var 24))],[(0,.bc 0 [.sl (.var 20) (.lit 0) (.var 22) (.var 23),.bool (.bvar 6)] 124),(1,.hp 25 [] [.var 20] [])],30⟩else none
 args:=[TP (.var 0) (.lit 0),TI .u64 (.var 5)]
 mem:=jA
 nv:=8
def LF (all:List Int) (m:Nat) (_:Nat) (q:Env):Prop:=∃ (y:Nat) (done:List Int),q.i 24=y/\done++aF y=all/\done.length<=m/\q.i 22=done.length/\ -1<=q.i 20/\0<=q.i 23/\c9 (q.h 25) 5 (.slice (au (q.i 20) 0) (q.i 22).toNat (q.i 23).toNat) done
def oX {z:Nat} (h:z<18446744073709551616):(aF z).length<=10:=by
 refine GO 9 z (afi h az)
def oY:nH.OK Tryz.prog:=by
 refine Spec.cM (Γ:=[]) (fun _ h=>by cases h) ?_;rintro xs Hs Rs C u ⟨p,D,H,bs,lg,rfl,rfl,⟨a,x,c,F,rfl,h⟩,⟨z,hz,E,I⟩,hlen⟩;have hz:D=.int .u64 z:=by simpa using hz
 subst hz;have e1:Rs=[]:=aa1.1 u;subst e1;have K:=oX (z:=z.toNat) ah;refine⟨abe,oi a x c bs.length lg F z [] Hl.none,LF (bs++aF z.toNat) (bs.length+10),fun _ q=>(q.i 24).toNat,?_,Bz h z [] _,(fun _ h=>nomatch h),?_⟩
 .show [Value.pointer (au (a:Int) 0),Value.int .u64 z]=_;rw[ft]
 .refine aD.read [] [] [] ?_;generalize d:oi a x c bs.length lg F z [] Hl.none=J;have v0:J.i 0=a:=by rw[<-d];rfl
  have v1:J.i 1=x:=by rw[<-d];rfl
  have v2:J.i 2=bs.length:=by rw[<-d];rfl
  have B:J.i 3=c:=by rw[<-d];rfl
  have L:J.i 5=z:=by rw[<-d];rfl
  have b6:J.b 6=lg:=by rw[<-d];rfl
  have w7:J.h 7=F:=by rw[<-d];rfl
  clear d;simp only[go_sem,Nat.reduceAdd];refine⟨⟨z.toNat,bs,?_,rfl,ah,?_,?_,?_,?_⟩,fun q g ⟨y,done,j,hall,M,f,N,O,t⟩=>?_⟩
  .show J.i 5=_;rw[L];omega
  .show J.i 2=_;exact v2
  .show -1<=J.i 1;rw[v1];exact h.rx
  .show 0<=J.i 3;rw[B];exact h.rc
  .show c9 (J.h 7) _ (.slice (au (J.i 1) 0) (J.i 2).toNat (J.i 3).toNat) bs;rw[w7,v1,v2,B];exact h.own
  have n:=ach List.length hall;rw[aaA,aaA]at n;refine⟨fun v q1 e _=>?_,fun w q1 e _=>?_⟩
  .rw[e.h 25,e.i 20,e.i 22,e.i 23];refine⟨⟨⟨_,sK t f⟩,ah,by unfold maxLen;omega,ah⟩,fun q2 o ⟨a1,a2,a3,_⟩=>?_⟩;rw[j]at v;have r:aF y=((y%128+128:Nat):Int)::aF (y/128):=jW ah;have A:aw q1 (.bits .or .u8 (.wrap .u8 (.var 24)) (.lit 128))=((y%128+128:Nat):Int):=by
    show ct .or .u8 (IntKind.u8.wrap (q1.i 24)) 128=_;rw[e.i 24,j];exact aa5
   rw[A]at a3;have k:=sJ (bs2:=[((y%128+128:Nat):Int)]) (m:=1) t f rfl a3;have l:aw q2 (.shr .u64 (.var 24) (.lit 7))=((y/128:Nat):Int):=by
    show(q2.i 24).fdiv (2 ^ (7:Int).toNat)=_;rw[o.i 24,e.i 24,j];exact aeT
   refine⟨⟨y/128,done++[((y%128+128:Nat):Int)],l,?_,?_,?_,a1,a2,?_⟩,?_⟩
   .rw[abS,<-hall,r];rfl
   .rw[aaA,acB];rw[r,acn]at n;omega
   .show q2.i 22+1=_;rw[o.i 22,e.i 22,f,aaA,acB];omega
   .show c9 (q2.h 31) _ (.slice (au (q2.i 31) 0) (q2.i 22+1).toNat (q2.i 32).toNat) _;rw[o.i 22,e.i 22,f];have:=k;unfold OB at this;rw[aaA,acB]at this;exact this
   .show(aw q2 (.shr .u64 (.var 24) (.lit 7))).toNat<(q.i 24).toNat;rw[l,j];omega
  .rw[e.h 25,e.i 20,e.i 22,e.i 23];refine⟨⟨⟨_,sK t f⟩,ah,by unfold maxLen;omega,ah⟩,fun q2 o ⟨a1,a2,a3,_⟩ hd=>?_⟩;rw[j]at w;have s:aF y=[(y:Int)]:=jz ah;have A:IntKind.u8.wrap (q1.i 24)=(y:Int):=by
    rw[e.i 24,j,Wc];omega
   rw[A]at a3;have k:=sJ (bs2:=[(y:Int)]) (m:=1) t f rfl a3;rw[<-s,hall]at k;have G:ai 8 J q2:=g.trans (e.mono.tr o);refine⟨[[0,1]],[],rfl,rfl,⟨(ba fun _=>0),rfl,zzT⟩,_,_,H,bs,lg,_,rfl,rfl,⟨a,x,c,F,rfl,h⟩,rfl,JI (by rw[G.i 0,v0]) a1 ?_ a2 (by rw[bn,G.b 6,b6]) k hd⟩;show q2.i 22+1=((bs++aF z.toNat).length:Int);rw[o.i 22,e.i 22,f,aaA];rw[s,acB]at n;omega
def rp:Sx.Spec where
 fn:=67
 own:=[.arg 0]
 rd:=[1]
 res:=[]
 pre:=fun xs Hs Rs=>∃ p u H R bs lg b2,xs=[p,u]/\Hs=[H]/\Rs=[R]/\aZ H p bs lg/\fE R u b2/\bs.length<=900000/\b2.length<=90000
 post:=fun xs Hs Rs v Hs' F=>∃ p u H R bs lg b2 H',xs=[p,u]/\Hs=[H]/\Rs=[R]/\aZ H p bs lg/\fE R u b2/\Hs'=[H']/\aZ H' p (bs++b2) lg
def abf:aD Tryz.prog [] rp.fn where
 Λ:=aA
 args:=[TP (.var 0) (.lit 0),.sv (.one (.sl (.var 8) (.var 9) (.var 10) (.var 11)))]
 mem:=jA++[.ro 12 [.var 8] false]
 nv:=13
def Bu:rp.OK Tryz.prog:=by
 refine Spec.cM (Γ:=[]) (fun _ h=>by cases h) ?_;rintro xs Hs Rs t v ⟨p,u,H,R,bs,lg,b2,rfl,rfl,rfl,⟨a,x,c,F,rfl,h⟩,e,hlen,r⟩;obtain⟨f,g,c2,rfl,n,w⟩:=id e;refine⟨abf,oi a x c bs.length lg F 0 [f,g,b2.length,c2] R,fun _ _=>True,fun _ _=>0,?_,NQ h 0 _ R _,(fun _ h=>nomatch h),?_⟩
 .show [Value.pointer (au (a:Int) 0),Value.slice (au f g) ((b2.length:Int)).toNat ((c2:Int)).toNat]=_;rw[ft,aac,aac]
 .refine aD.read [] [] [] ?_;generalize d:oi a x c bs.length lg F 0 [f,g,b2.length,c2] R=J;have v0:J.i 0=a:=by rw[<-d];rfl
  have v1:J.i 1=x:=by rw[<-d];rfl
  have v2:J.i 2=bs.length:=by rw[<-d];rfl
  have z:J.i 3=c:=by rw[<-d];rfl
  have A:J.i 8=f:=by rw[<-d];rfl
  have B:J.i 9=g:=by rw[<-d];rfl
  have v10:J.i 10=b2.length:=by rw[<-d];rfl
  have b6:J.b 6=lg:=by rw[<-d];rfl
  have w7:J.h 7=F:=by rw[<-d];rfl
  have o:J.h 12=R:=by rw[<-d];rfl
  clear d;simp only[go_sem,Nat.reduceAdd];rw[v1,v2,z,A,B,v10,w7,o];obtain⟨hok,j⟩:=xC (R:=R) (x:=f) (y:=g) (l:=(b2.length:Int)) rfl n w;have s:c9 F 5 (.slice (au x 0) ((bs.length:Int)).toNat c.toNat) bs:=h.own;refine⟨⟨⟨_,sK s rfl⟩,ah,by simpa using hok,by rw[aac,aac];unfold maxLen;omega,by rw[aac,aac];omega⟩,fun q2 k ⟨a1,a2,a3,_⟩ hd=>?_⟩;rw[j]at a3;have q:=sJ (bs2:=b2) (m:=((b2.length:Int)).toNat) s rfl (aac _) a3;refine⟨[[0,1]],[],rfl,rfl,⟨(ba fun _=>0),rfl,zzT⟩,_,_,H,R,bs,lg,b2,_,rfl,rfl,rfl,⟨a,x,c,F,rfl,h⟩,e,rfl,JI (by rw[k.i 0,v0]) a1 ?_ a2 (by rw[bn,k.b 6,b6]) q hd⟩;show q2.i 2+q2.i 10=((bs++b2).length:Int);rw[k.i 2,k.i 10,v2,v10,aaA];omega
def K8 (l:List Value) (bs:List Int):List Int:=bs++[if yX l[0]?=true then 1 else 0]
def Xp (l:List Value) (_:List Int):Prop:=∃ b:Bool,l=[.bool b]
def lu:Sx.Spec:=Q6 66 Xp K8
def X4:aD Tryz.prog [] 66 where
 Λ:=aA
 args:=[TP (.var 0) (.lit 0),.sv (.one (.bool (.bvar 5)))]
 mem:=jA
 nv:=8
def NR {H F:Hl} {a:Nat} {x c:Int} {bs:List Int} {lg:Bool} (h:CA H a x c F bs lg) (f:Bool):Entry {oi a x c bs.length lg F 0 [] Hl.none with b:=fun k=>if k=5 then f else lg} jA [H] []:=by
 obtain⟨h1,g,d,i⟩:=Bz h 0 [] Hl.none;refine⟨fun r hr ho=>?_,fun r hr ho=>?_,?_,fun r hr=>?_⟩
 .obtain⟨K,hK,hle⟩:=h1 r hr ho;refine⟨K,hK,?_⟩;simp only[jA,aaW,abd,acs]at hr;rcases hr with rfl | rfl<;>exact hle
 .simp only[jA,aaW,abd,acs]at hr;rcases hr with rfl | rfl<;>cases ho
 .exact d.imp (fun {r s} e=>e) |>fun _=>by
   unfold jA at d ⊢;refine List.Pairwise.cons (fun r hr _ _=>?_) (List.Pairwise.cons (fun r hr=>by cases hr) List.Pairwise.nil);rw[aaQ]at hr;subst hr;exact(ags.1 d).1 _ (aaQ.2 rfl) rfl rfl
 .simp only[jA,aaW,abd,acs]at hr;rcases hr with rfl | rfl
  .show(0:Int)<=(a:Int);omega
  .trivial
def sI:lu.OK Tryz.prog:=by
 refine Spec.cM (Γ:=[]) (fun _ h=>by cases h) ?_;rintro xs Hs Rs n f ⟨p,o,H,bs,lg,rfl,rfl,⟨a,x,c,F,rfl,h⟩,⟨b,hb⟩,hlen⟩;have hb:o=.bool b:=by simpa using hb
 subst hb;have e1:Rs=[]:=aa1.1 f;subst e1;refine⟨X4,{oi a x c bs.length lg F 0 [] Hl.none with b:=fun k=>if k=5 then b else lg},fun _ _=>True,fun _ _=>0,?_,NR h b,(fun _ h=>nomatch h),?_⟩
 .show [Value.pointer (au (a:Int) 0),Value.bool b]=_;rw[ft]
 .refine aD.read [] [] [] ?_;generalize d:({oi a x c bs.length lg F 0 [] Hl.none with b:=fun k=>if k=5 then b else lg} : Env)=J;have v0:J.i 0=a:=by rw[<-d];rfl
  have v1:J.i 1=x:=by rw[<-d];rfl
  have v2:J.i 2=bs.length:=by rw[<-d];rfl
  have q:J.i 3=c:=by rw[<-d];rfl
  have r:J.b 5=b:=by rw[<-d];rfl
  have b6:J.b 6=lg:=by rw[<-d];rfl
  have w7:J.h 7=F:=by rw[<-d];rfl
  clear d;have j:c9 F 5 (.slice (au x 0) ((bs.length:Int)).toNat c.toNat) bs:=h.own;have fin:∀ (q2:Env) (z:Int) (t:Mem),ai 8 J q2-> -1<=q2.i 9->0<=q2.i 10->(if b=true then(1:Int)else 0)=z->(∀ xs,aO F 5 1 (.slice (au x 0) ((bs.length:Int)).toNat c.toNat) ((bs.length:Int)).toNat xs->aO (q2.h 9) 5 1 (.slice (au (q2.i 9) 0) (((bs.length:Int)).toNat+1) (q2.i 10).toNat) (((bs.length:Int)).toNat+1) (xs++aS [z])) ->
   postOf lu [.pointer (some ⟨a,0,none⟩),.bool b] [H] [] q2 (.bc 0 [.sl (.var 9) (.lit 0) (.add (.var 2) (.lit 1)) (.var 10),.bool (.bvar 6)] 124::.hp 9 [7] [.var 9,.var 1] []::t) (.tup []):=by
   intro q2 z t G a1 a2 hz a3 hd;have g:=sJ (bs2:=[z]) (m:=1) j rfl rfl a3;refine⟨[[0,1]],[],rfl,rfl,⟨(ba fun _=>0),rfl,zzT⟩,_,_,H,bs,lg,_,rfl,rfl,⟨a,x,c,F,rfl,h⟩,rfl,?_⟩;have s:K8 [Value.bool b] bs=bs++[z]:=by rw[<-hz];rfl
   rw[s];refine JI (by rw[G.i 0,v0]) a1 ?_ a2 (by rw[bn,G.b 6,b6]) g hd;show q2.i 2+1=((bs++[z]).length:Int);rw[G.i 2,v2,aaA,acB];omega
  simp only[go_sem,Nat.reduceAdd];rw[r];refine⟨fun hb q1 e _=>?_,fun hb q1 e _=>?_⟩
  all_goals
   rw[e.i 1,e.i 2,e.i 3,e.h 7,v1,v2,q,w7];refine⟨⟨⟨_,sK j rfl⟩,ah,by rw[aac];unfold maxLen;omega,by rw[aac];omega⟩,fun q2 l ⟨a1,a2,a3,_⟩=>?_⟩
  .exact fin q2 1 _ (e.tr l) a1 a2 (ab9 hb) a3
  .exact fin q2 0 _ (e.tr l) a1 a2 (aa8 hb) a3
def aB (b:List Int):List Int:=aF b.length++b
def gK (bs:List Int) (lg:Bool) (b2:List Int):List Int×Bool:=if 4096<b2.length then(bs,true)else(bs++aB b2,lg)
def lx:Sx.Spec where
 fn:=115
 own:=[.arg 0]
 rd:=[1]
 res:=[]
 pre:=fun xs Hs Rs=>∃ p u H R bs lg b2,xs=[p,u]/\Hs=[H]/\Rs=[R]/\aZ H p bs lg/\fE R u b2/\bs.length<=800000/\0<=b2.length
 post:=fun xs Hs Rs v Hs' F=>∃ p u H R bs lg b2 H',xs=[p,u]/\Hs=[H]/\Rs=[R]/\aZ H p bs lg/\fE R u b2/\Hs'=[H']/\aZ H' p (gK bs lg b2).1 (gK bs lg b2).2
def oΓ:List Sx.Spec:=[nH,rp,gI]
def VU:∀ t∈oΓ,t.OK Tryz.prog:=ak oY <| ak Bu <| ak mC <| bu
def og2:oΓ[2]?=some gI:=rfl
def or0:nH.res=[]:=rfl
def or1:rp.res=[]:=rfl
def Bv:aD Tryz.prog oΓ lx.fn where
 Λ:=aA
 args:=[TP (.var 0) (.lit 0),.sv (.one (.sl (.var 8) (.var 9) (.var 10) (.var 11)))]
 mem:=[.hp 1 [] [.var 0] [],.ro 12 [.var 8] false]
 nv:=13
def aZ.Vd {H:Hl} {a:Nat} {bs:List Int} {lg:Bool} (h:aZ H (.pointer (some ⟨a,0,none⟩)) bs lg):H.wr a 1 1=true/\aZ (H.put a 1 [.bool true]) (.pointer (some ⟨a,0,none⟩)) bs true:=by
 obtain⟨a',x,c,F,e,h⟩:=h;simp only[Value.pointer.injEq,aa3,Addr.mk.injEq,abw]at e;subst e;obtain⟨b,_⟩:=h.le;have e:=b a _ (Hl.aK _ _);refine⟨by unfold Hl.wr;rw[e];rfl,a,x,c,F,rfl,h.rx,h.rc,h.own,h.na,?_⟩;rw[h.hl]
 funext k
 unfold Hl.put;by_cases hk:k=a
 .subst hk;rw[ab9 rfl];have d:bY [we k x c bs.length lg,F] k=some (.cells #[OB x bs.length c,.bool lg] 124 (0,0)):=by rw[<-h.hl];exact e
  have f:bY [we k x c bs.length true,F] k=some (.cells #[OB x bs.length c,.bool true] 124 (0,0)):=Hl.qu (Hl.aK _ _);rw[d];exact f.symm
 .rw[aa8 hk];have n1:∀ g:Bool,¬(we a x c bs.length g).mem k:=fun g hm=>hk (Hl.cn.1 hm);show((we a x c bs.length lg).un _) k=((we a x c bs.length true).un _) k;rw[Hl.sf (n1 _),Hl.sf (n1 _)]
def EA {f:FuncId} {ok:List Value->List Int->Prop} {act:List Value->List Int->List Int} {z:Value} {H F:Hl} {bs:List Int} {lg:Bool} (h:aZ H p bs lg) (hp:(Q6 f ok act).post [p,z] [H] Rs v K F):∃ H',K=[H']/\aZ H' p (act [z] bs) lg:=by
 obtain⟨d,e,g,bs',lg',H',hx,a,i,hK,b⟩:=hp;have hx:p=d/\z=e:=by simpa using hx
 obtain⟨e1,c⟩:=hx;have a:H=g:=by simpa using a
 subst e1 c a;obtain⟨e1,c⟩:=h.uniq i;subst e1 c;exact⟨H',hK,b⟩
def Ho {H F:Hl} {bs:List Int} {lg:Bool} (h:aZ H p bs lg) (f:fE R u b2) (hp:rp.post [p,u] [H] [R] v K F):∃ H',K=[H']/\aZ H' p (bs++b2) lg:=by
 obtain⟨g,i,j,k,bs',lg',l,H',hx,a,b,m,hB,hK,c⟩:=hp;have hx:p=g/\u=i:=by simpa using hx
 obtain⟨e1,d⟩:=hx;have a:H=j:=by simpa using a
 have b:R=k:=by simpa using b
 subst e1 d a b;obtain⟨e1,d⟩:=h.uniq m;subst e1 d;have e:=f.uniq hB;subst e;exact⟨H',hK,c⟩
def xp:lx.OK Tryz.prog:=by
 refine Spec.cM (Γ:=oΓ) VU ?_;rintro xs Hs Rs y A ⟨p,u,H,R,bs,lg,b2,rfl,rfl,rfl,h,b,hlen,x⟩;obtain⟨a,_,_,rfl,_⟩:=h.whole;obtain⟨l,m,c2,rfl,B,I⟩:=id b;refine⟨Bv,aM [(a:Int),0,0,0,0,0,0,0,l,m,b2.length,c2] false [Hl.none,H,Hl.none,Hl.none,Hl.none,Hl.none,Hl.none,Hl.none,Hl.none,Hl.none,Hl.none,Hl.none,R],fun _ _=>True,fun _ _=>0,?_,⟨?_,?_,?_,?_⟩,(fun _ h=>nomatch h),?_⟩
 .show [Value.pointer (au (a:Int) 0),Value.slice (au l m) ((b2.length:Int)).toNat ((c2:Int)).toNat]=_;rw[ft,aac,aac]
 .intro r hr ho;simp [Bv]at hr;rcases hr with rfl | rfl
  .exact⟨H,aC,Hl.le_refl _⟩
  .cases ho
 .intro r hr ho;simp [Bv]at hr;rcases hr with rfl | rfl
  .cases ho
  .exact⟨R,aC,Hl.le_refl _⟩
 .simp [Bv,bo.own]
 .intro r hr;simp [Bv]at hr;rcases hr with rfl | rfl<;>trivial
 .refine aD.read [] [] [] ?_;generalize f:aM [(a:Int),0,0,0,0,0,0,0,l,m,b2.length,c2] false [Hl.none,H,Hl.none,Hl.none,Hl.none,Hl.none,Hl.none,Hl.none,Hl.none,Hl.none,Hl.none,Hl.none,R]=J;obtain⟨⟨v0,_,_,_,_,_,_,_,C,D,v10,v11,_⟩,_,w1,_,_,_,_,_,_,_,_,_,_,n,_⟩:=jn f;clear f;have out:∀ (q:Env) (k:Nat) (vs:List Nat) (t:Mem) (r:List Int×Bool),gK bs lg b2=r->aZ (q.h k) (.pointer (some ⟨a,0,none⟩)) r.1 r.2->postOf lx [.pointer (some ⟨a,0,none⟩),.slice (au l m) b2.length c2] [H] [R] q (.hp k vs [.var 0] []::t) (.tup []):=by
   intro q k vs t r hr ho _;refine⟨[[0]],[],rfl,rfl,⟨(ba fun _=>0),rfl,zzT⟩,_,_,H,R,bs,lg,b2,_,rfl,rfl,rfl,h,b,rfl,?_⟩;rw[hr];show aZ (bY [q.h k]) _ _ _;rw[aJ];exact ho
  have o:Int.toNat 1=1:=rfl;simp only[go_sem,Nat.reduceAdd,oΓ,or0,or1,o];rw[v10,v0,w1,aac];obtain⟨hw,j⟩:=h.Vd;refine⟨ah,fun E=>⟨ah,⟨ah,ah,hw⟩,fun q g s=>?_⟩,fun hle=>?_⟩
  .refine out q 13 _ _ (bs,true) (by unfold gK;rw[ab9 ah]) ?_;rw[s];exact j
  .have hu:IntKind.u64.wrap ((b2.length:Nat):Int)=b2.length:=m9 ah ah;rw[hu,ft];refine⟨⟨_,_,H,bs,lg,rfl,rfl,h,⟨_,rfl,ah,ah⟩,ah⟩,fun q g ⟨K,hp,_,_⟩=>?_⟩;obtain⟨H1,d,c⟩:=EA h hp;have d:q.h 13=H1:=by simpa using d
   rw[<-d]at c;have eN:JA [Value.int .u64 ((b2.length:Nat):Int)] bs=bs++aF b2.length:=by
    unfold JA;show bs++aF (((b2.length:Nat):Int)).toNat=_;rw[aac]
   rw[eN]at c;have F:=oX (z:=b2.length) ah;rw[g.i 0,v0,g.i 8,C,g.i 9,D,g.i 10,v10,g.i 11,v11,g.h 12,n,ft,aac,aac];refine⟨⟨_,_,_,R,_,lg,b2,rfl,rfl,rfl,c,b,by rw[aaA];omega,ah⟩,fun q2 L ⟨M,v,_,_⟩=>?_⟩;obtain⟨G,e,w⟩:=Ho c b v;have e:q2.h 15=G:=by simpa using e
   refine out q2 15 _ _ (bs++aB b2,lg) (by unfold gK;rw[aa8 ah]) ?_;rw[e];unfold aB;rw[<-abS];exact w
def lj (bs:List Int) (lg:Bool):List Int×Int:=if lg=true\/16384<bs.length then([],3)else(bs,0)
def kO:Sx.Spec where
 fn:=68
 own:=[]
 rd:=[0]
 res:=[.one .sl,.one (.int .i64)]
 pre:=fun xs Hs Rs=>∃ p R bs lg,xs=[p]/\Rs=[R]/\aZ R p bs lg/\bs.length<=1000000
 post:=fun xs Hs Rs v Hs' F=>∃ p R bs lg u,xs=[p]/\Rs=[R]/\aZ R p bs lg/\v=.tuple #[u,.int .i64 (lj bs lg).2]/\c9 F 5 u (lj bs lg).1
def GQ:aD Tryz.prog oΓ kO.fn where
 Λ:=aA
 args:=[TP (.var 0) (.lit 0)]
 mem:=[.ro 1 [.hP 2 (.var 0) (.lit 0) 0 0] false,.ro 2 [.var 0] false]
 nv:=3
def or2:gI.res=[.one .sl]:=rfl
def sl3 {x y:Int} (hx:-1<=x) (n c:Nat):bD (some (.slice (au x y) n c)) 3=c:=by
 rcases ad9 x 0 with h | h
 .obtain rfl:x= -1:=ah;rfl
 .rw[av h];rfl
def aeU {x:Int} (hx:-1<=x) (n c:Nat):bD (some (.slice (au x 0) n c)) 1=0:=by
 rcases ad9 x 0 with h | h
 .obtain rfl:x= -1:=ah;rfl
 .rw[av h];rfl
def mO:kO.OK Tryz.prog:=by
 refine Spec.jN (Γ:=oΓ) VU rfl ?_;rintro xs Rs ⟨p,R,bs,lg,rfl,rfl,h,hlen⟩;obtain⟨a,x,c,rfl,hx,y,b,f,j⟩:=h.whole;unfold OB at b j;rw[aac]at b j;refine⟨GQ,aM [(a:Int)] false [Hl.none,R,R],fun _ _=>True,fun _ _=>0,?_,⟨?_,?_,?_,?_⟩,rfl,?_⟩
 .show [Value.pointer (au (a:Int) 0)]=_;rw[ft]
 .intro r hr ho;simp [GQ]at hr;rcases hr with rfl | rfl<;>cases ho
 .intro r hr ho;simp [GQ]at hr;rcases hr with rfl | rfl<;>exact⟨R,aC,Hl.le_refl _⟩
 .simp [GQ,bo.own]
 .intro r hr;simp [GQ]at hr;rcases hr with rfl | rfl<;>trivial
 .refine aD.read [] [] [] ?_;generalize d:aM [(a:Int)] false [Hl.none,R,R]=J;obtain⟨⟨v0,_⟩,_,w1,w2,_⟩:=jn d;clear d;have fail:∀ (mem:Mem),lg=true\/16384<bs.length->postOf kO [.pointer (some ⟨a,0,none⟩)] [] [R] J mem (.tup [.one (.sl (.lit (-1)) (.lit 0) (.lit 0) (.lit 0)),.one (.int .i64 (.lit 3))]):=by
   intro mem hf _;have hs:lj bs lg=([],3):=by unfold lj;rw[ab9 hf]
   refine⟨[],[],rfl,rfl,⟨(ba fun k=>if k=0 then -1 else if k=4 then 3 else 0),rfl,⟨aba _,aba _,aba _,aba _⟩,zzT,zzT⟩,_,R,bs,lg,.slice none 0 0,rfl,rfl,h,?_,?_⟩
   .rw[hs];rfl
   .rw[hs];exact rz _ _
  have l:Int.toNat 0=0:=rfl;have m:Int.toNat 1=1:=rfl;simp only[go_sem,Nat.reduceAdd,og2,or2,ic1,l,m];rw[v0,w2,w1,aac,b,f,Vg hx,sl0 hx,aeU hx,sl3 hx];refine⟨ah,rfl,fun hb=>⟨rfl,ah,fun t=>fail _ (Or.inr ah),fun u=>?_⟩,fun hb=>fail _ (Or.inl hb)⟩;have hb:lg=false:=aef.2 hb;rw[aac,aac];have o:=j.w;refine⟨⟨_,bs,R,rfl,rfl,o,hlen⟩,fun q g ⟨z,hp,v,n⟩ _=>?_⟩;have s:=pL o hp;rw[<-v zzT]at s;have hs:lj bs lg=(bs,0):=by
   unfold lj;have:¬(lg=true\/16384<bs.length):=by
    rintro(e | e)
    .rw[hb]at e;cases e
    .omega
   rw[aa8 this]
  refine⟨[],[2],rfl,rfl,⟨(ba fun k=>if k=4 then 0 else q.i (3+k)),rfl,n.1,zzT,zzT⟩,_,R,bs,lg,_,rfl,rfl,h,by rw[hs];rfl,?_⟩;rw[hs];show c9 (bY [q.h 3]) _ _ _;rw[aJ];exact s
def Dl:Sx.Spec where
 fn:=56
 own:=[]
 rd:=[]
 res:=[.one .sl]
 pre:=fun xs Hs Rs=>∃ z:Int,xs=[.int .u64 z]/\0<=z/\z<18446744073709551616
 post:=fun xs Hs Rs v Hs' F=>∃ z:Int,xs=[.int .u64 z]/\c9 F 5 v (aF z.toNat)
def abC:aD Tryz.prog [] Dl.fn where
 Λ:=fun p=>if QI p then some ⟨0,[(3,.sv (.one (.sl (.var 20) (.lit 0) (.var 22) (.var 23)))),(0,TI .u64 (.var 24))],[(0,.hp 25 [] [.var 20] [])],30⟩else none
 args:=[TI .u64 (.var 0)]
 mem:=[]
 nv:=1
def Rr (y:Nat) (h:y<18446744073709551616):IntKind.u64.wrap ((y:Int).tdiv 128)=((y/128:Nat):Int):=by
 rw[afn ah,m9 ah ah];omega
def Ys (y:Nat):IntKind.u8.wrap (IntKind.u64.wrap ((y:Int).tmod 128+128))=((y%128+128:Nat):Int):=by
 rw[acT ah,m9 ah ah,Wc];omega
def UY (all:List Int) (k:Nat) (q:Env):Prop:=LF all 10 k q/\q.i 24<18446744073709551616
def RO:Dl.OK Tryz.prog:=by
 refine Spec.cM (Γ:=[]) (fun _ h=>by cases h) ?_;rintro xs Hs Rs u v ⟨z,rfl,A,w⟩;have e0:Hs=[]:=aa1.1 u;have e1:Rs=[]:=aa1.1 v;subst e0 e1;have B:=oX (z:=z.toNat) ah;refine⟨abC,aM [z] false [],UY (aF z.toNat),fun _ q=>(q.i 24).toNat,rfl,⟨fun r hr=>(by cases hr),fun r hr=>(by cases hr),List.Pairwise.nil,fun r hr=>(by cases hr)⟩,(fun _ h=>nomatch h),?_⟩;refine aD.read [] [] [] ?_;generalize l:aM [z] false []=J;have v0:J.i 0=z:=by rw[<-l];rfl
 clear l;simp only[go_sem,Nat.reduceAdd,Li,En];refine⟨⟨⟨z.toNat,[],?_,rfl,acP _,rfl,aba _,aba _,⟨rfl,Or.inl ⟨rfl,rfl⟩⟩⟩,?_⟩,fun q g ⟨⟨y,done,d,hall,C,a,D,E,t⟩,x⟩=>?_⟩
 .show J.i 0=_;rw[v0];omega
 .show J.i 0<_;rw[v0];exact w
 have j:=ach List.length hall;rw[aaA]at j;have f:y<18446744073709551616:=ah;rw[d,Rr y f];refine⟨fun F q1 b _=>?_,fun G q1 b _=>?_⟩
 .rw[b.h 25,b.i 20,b.i 22,b.i 23,b.i 24,d,Ys];refine⟨⟨⟨_,sK t a⟩,ah,by unfold maxLen;omega,ah⟩,fun q2 n ⟨a1,a2,a3,_⟩=>?_⟩;have o:aF y=((y%128+128:Nat):Int)::aF (y/128):=jW ah;have e:=sJ (bs2:=[((y%128+128:Nat):Int)]) (m:=1) t a rfl a3;have c:IntKind.u64.wrap ((q2.i 24).tdiv 128)=((y/128:Nat):Int):=by
   rw[n.i 24,b.i 24,d];exact Rr y f
  refine⟨⟨⟨y/128,done++[((y%128+128:Nat):Int)],c,?_,?_,?_,a1,a2,?_⟩,?_⟩,?_⟩
  .rw[abS,<-hall,o];rfl
  .rw[aaA,acB];rw[o,acn]at j;omega
  .show q2.i 22+1=_;rw[n.i 22,b.i 22,a,aaA,acB];omega
  .show c9 (q2.h 31) _ (.slice (au (q2.i 31) 0) (q2.i 22+1).toNat (q2.i 32).toNat) _;rw[n.i 22,b.i 22,a];have:=e;unfold OB at this;rw[aaA,acB]at this;exact this
  .show IntKind.u64.wrap ((q2.i 24).tdiv 128)<_;rw[c];omega
  .show(IntKind.u64.wrap ((q2.i 24).tdiv 128)).toNat<_;rw[c];omega
 .rw[b.h 25,b.i 20,b.i 22,b.i 23];refine⟨⟨⟨_,sK t a⟩,ah,by unfold maxLen;omega,ah⟩,fun q2 n ⟨a1,a2,a3,_⟩ hd=>?_⟩;have p:aF y=[(y:Int)]:=jz ah;have H:IntKind.u8.wrap (q1.i 24)=(y:Int):=by
   rw[b.i 24,d,Wc];omega
  rw[H]at a3;have e:=sJ (bs2:=[(y:Int)]) (m:=1) t a rfl a3;rw[<-p,hall]at e;have s:q2.i 22+1=((aF z.toNat).length:Int):=by
   rw[n.i 22,b.i 22,a];rw[p,acB]at j;omega
  refine⟨[],[0],rfl,rfl,⟨(ba fun k=>[q2.i 31,0,q2.i 22+1,q2.i 32].getD k 0),rfl,⟨a1,aba _,by show 0<=q2.i 22+1;omega,a2⟩,zzT⟩,z,rfl,?_⟩;show c9 (bY [q2.h 31]) _ (.slice (au (q2.i 31) 0) (q2.i 22+1).toNat (q2.i 32).toNat) _;rw[aJ,s];exact e
open Go.Proofs.YtbdikjnpbnobcaaGreatDoor.D hiding aM aA fe
def zl:Sx.Spec:=D6 80
def Ag:zl.OK Tryz.prog:=CH.2
def Sh:Sx.Spec:=MM 126
def Si:Sh.OK Tryz.prog:=DW.2.1
def Lq:Sx.Spec where
 fn:=127
 own:=[]
 rd:=[0]
 res:=[.one (.int .i64)]
 pre:=fun xs Hs Rs=>∃ p R bs bad,xs=[p]/\Rs=[R]/\jr R p bs bad
 post:=fun xs Hs Rs v Hs' F=>∃ p R bs bad,xs=[p]/\Rs=[R]/\jr R p bs bad/\v=.int .i64 bs.length
def Tf:Sx.Spec where
 fn:=128
 own:=[]
 rd:=[0]
 res:=[.one .bool]
 pre:=fun xs Hs Rs=>∃ p R bs bad,xs=[p]/\Rs=[R]/\jr R p bs bad
 post:=fun xs Hs Rs v Hs' F=>∃ p R bs bad,xs=[p]/\Rs=[R]/\jr R p bs bad/\v=.bool bad
def aaY:aD Tryz.prog [] Lq.fn where
 Λ:=aA
 args:=[TP (.var 0) (.lit 0)]
 mem:=[.ro 1 [.var 0] false]
 nv:=2
def adf:aD Tryz.prog [] Tf.fn where
 Λ:=aA
 args:=[TP (.var 0) (.lit 0)]
 mem:=[.ro 1 [.var 0] false]
 nv:=2
def QD:Lq.OK Tryz.prog:=by
 refine Spec.jN (Γ:=[]) (fun _ h=>by cases h) rfl ?_;rintro xs Rs ⟨p,R,bs,bad,rfl,rfl,hIn⟩;obtain⟨a,x,y,c,rfl,b,f,hx,hy,g⟩:=hIn.whole;refine⟨aaY,aM [(a:Int)] false [Hl.none,R],fun _ _=>True,fun _ _=>0,?_,aT rfl rfl,rfl,?_⟩
 .show [Value.pointer (au (a:Int) 0)]=_;rw[ft]
 .refine aD.read [] [] [] ?_;generalize d:aM [(a:Int)] false [Hl.none,R]=J;obtain⟨⟨v0,_⟩,_,w1,_⟩:=jn d;clear d;have e:Int.toNat 0=0:=rfl;simp only[go_sem,Nat.reduceAdd,e];rw[v0,w1,aac,b,Vg hx];refine⟨ah,rfl,ah,fun _=>⟨[],[],rfl,rfl,⟨(ba fun _=>bs.length),?_,zzT,zzT⟩,_,R,bs,bad,rfl,rfl,hIn,?_⟩⟩
  all_goals
   show Value.int .i64 (bD (((J.h 1).cell (J.i 0).toNat (Int.toNat 0+0))) 2)=_;rw[v0,w1,aac,e,acJ,b,Vg hx]
   try rfl
def Tg:Tf.OK Tryz.prog:=by
 refine Spec.jN (Γ:=[]) (fun _ h=>by cases h) rfl ?_;rintro xs Rs ⟨p,R,bs,bad,rfl,rfl,hIn⟩;obtain⟨a,x,y,c,rfl,f,b,hx,hy,g⟩:=hIn.whole;refine⟨adf,aM [(a:Int)] false [Hl.none,R],fun _ _=>True,fun _ _=>0,?_,aT rfl rfl,rfl,?_⟩
 .show [Value.pointer (au (a:Int) 0)]=_;rw[ft]
 .refine aD.read [] [] [] ?_;generalize d:aM [(a:Int)] false [Hl.none,R]=J;obtain⟨⟨v0,_⟩,_,w1,_⟩:=jn d;clear d;have e:Int.toNat 1=1:=rfl;simp only[go_sem,Nat.reduceAdd,e];rw[v0,w1,aac,b];refine⟨ah,rfl,fun _=>⟨[],[],rfl,rfl,⟨⟨fun _=>0,fun _=>bad,fun _=>.empty,fun _=>.tuple #[],fun _=>Hl.none⟩,?_,zzT,zzT⟩,_,R,bs,bad,rfl,rfl,hIn,?_⟩⟩
  all_goals
   show Value.bool (yX (((J.h 1).cell (J.i 0).toNat (Int.toNat 1+0))))=_;rw[v0,w1,aac,e,b]
   try rfl
def uk (L:LM):Int:=fY (L.note.take 8)
def Na:Sx.Spec where
 fn:=73
 own:=[]
 rd:=[0]
 res:=[.one (.int .u64)]
 pre:=fun xs Hs Rs=>∃ p R dp sl L,xs=[p]/\Rs=[R]/\fM R p dp sl L
 post:=fun xs Hs Rs v Hs' F=>∃ p R dp sl L,xs=[p]/\Rs=[R]/\fM R p dp sl L/\v=.int .u64 (uk L)
def gnΓ:List Sx.Spec:=[Sh,qX]
def Xt:∀ t∈gnΓ,t.OK Tryz.prog:=ak Si <| ak CY <| bu
def adN:aD Tryz.prog gnΓ Na.fn where
 Λ:=aA
 args:=[TP (.var 0) (.lit 0)]
 mem:=[.ro 1 [.var 0] false]
 nv:=2
def adO:Sh.res=[.one (.int .u64)]:=rfl
def adP:qX.res=[.agg (uX 16)]:=rfl
def TN:Na.OK Tryz.prog:=by
 refine Spec.jN (Γ:=gnΓ) Xt rfl ?_;rintro xs Rs ⟨p,R,dp,sl,L,rfl,rfl,g⟩;obtain⟨a,rfl,h⟩:=id g;refine⟨adN,aM [(a:Int)] false [Hl.none,R],fun _ _=>True,fun _ _=>0,?_,aT rfl rfl,rfl,?_⟩
 .show [Value.pointer (au (a:Int) 0)]=_;rw[ft]
 .refine aD.read [] [] [] ?_;generalize c:aM [(a:Int)] false [Hl.none,R]=J;obtain⟨⟨v0,_⟩,_,w1,_⟩:=jn c;clear c;simp only[go_sem,Nat.reduceAdd,gnΓ,adO,adP];rw[v0,w1,ft];refine⟨⟨_,R,dp,sl,L,rfl,rfl,g⟩,fun q1 t ⟨u,⟨v,R',dp',sl',L',e1,d,k,hv⟩,_⟩ q2 q p2=>?_⟩;simp only[aae,abw]at e1 d;subst e1 d;obtain⟨_,_,rfl⟩:=g.uniq k;have r:(aj 2 (List.replicate 16 (Ck.int .u8))).map (CV.ev q1)=aS L.note:=ab1 (Value.agg.inj hv);have l:(aj 2 (List.replicate 16 (Ck.int .u8))).map (CV.ev q2)=aS L.note:=(CV.gN q _ az).trans r;have e:=h.1.note;have f:fE (Hl.one (q2.i 18).toNat (.cells (aS L.note).toArray 33 (0,0))) (.slice (au (q2.i 18) 0) (Int.toNat 8) (Int.toNat 16)) (L.note.take 8):=by
   refine⟨q2.i 18,0,16,?_,aba _,Or.inr ⟨p2,fun j z m=>?_⟩⟩
   .rw[ace,e];rfl
   .have n:j<8:=by have:=(aaG.1 m).1;rw[ace]at this;omega
    rw[ad4 n]at m;rw[Hl.mP,aec,fJ,af7,aco,m];rfl
  rw[l];refine⟨⟨_,_,_,rfl,rfl,f,by rw[ace];omega⟩,fun s g3 ⟨w,⟨u',bs',x,e1,d,o,b⟩,_⟩ _=>?_⟩;simp only[aae,abw]at e1 d;subst e1 d;rw[<-f.uniq o]at b;have b:Value.int .u64 (s.i 19)=.int .u64 (uk L):=b;exact⟨[],[],rfl,rfl,⟨(ba fun _=>uk L),b,zzT,zzT⟩,_,R,dp,sl,L,rfl,rfl,g,b⟩
end Go.Proofs.YtbdikjnpbnobcaaGreatDoor
namespace Go.Sx
open Go
variable {F G:Hl}{us ws:List Value}{b i k m n:Nat}{e:TypeId}{v:Value}
def aO.EC (h:aO F e k v n us) (hb:v.ownBlock=some b):F.mem b:=by
 rcases h.2 with ⟨h,_⟩ | ⟨a,cap,cur,h,hg,_⟩
 .rw[h]at hb;cases hb
 .rw[h]at hb;have:a=b:=by simpa [Value.ownBlock] using hb
  subst this;unfold Hl.mem;rw[hg];rfl
def aO.mono (hl:F.le G) (h:aO F e k v m us):aO G e k v m us:=by
 refine⟨h.1,h.2.imp id fun⟨g,cap,cur,hv,hg,r⟩=>⟨g,cap,cur,hv,hl _ _ hg,r⟩⟩
def aO.inj (h1:aO F e k v n us) (a:aO F e k v m ws):n=m/\us=ws:=by
 obtain⟨d,h1⟩:=h1;obtain⟨f,a⟩:=a;rcases h1 with ⟨h1,hn⟩ | ⟨g,cap,cur,h1,hg,_,_,_,i⟩<;>rcases a with ⟨a,hm⟩ | ⟨o,h,cur',a,b,_,_,_,c⟩
 .subst hn;subst hm;refine⟨rfl,?_⟩;rw[agc]at d f;rw[aa1.1 d,aa1.1 f]
 .rw[h1]at a;cases a
 .rw[h1]at a;cases a
 .rw[h1]at a;simp only[Value.slice.injEq,aa3,Addr.mk.injEq,abw]at a;obtain⟨j,l,_⟩:=a;subst j;subst l;rw[hg]at b;simp only[aa3,Obj.cells.injEq,abw]at b;rw[<-i,<-c,b];exact⟨rfl,rfl⟩
def aO.cellAt {x l c:Int} (h:aO F e 1 (.slice (au x 0) l.toNat c.toNat) n us) (hx:-1<=x) (hi:i<n):0<=x/\F.cell x.toNat i=us[i]?:=by
 obtain⟨hl,h⟩:=h;rcases h with ⟨_,hn⟩ | ⟨g,cap,cur,hv,hg,hle,hm,hs,a⟩
 .omega
 .simp only[Value.slice.injEq]at hv;obtain⟨hp,_,_⟩:=hv;have h0:0<=x:=by
   rcases ad9 x 0 with b | h0
   .rw[show x= -1 by omega,dr]at hp;cases hp
   .exact h0
  rw[av h0]at hp;simp only[aa3,Addr.mk.injEq,abw]at hp;refine⟨h0,?_⟩;rw[hp.1,<-a];unfold Hl.cell;rw[hg,ad4 ah,agd]
end Go.Sx
namespace Go.Proofs.YtbdikjnpbnobcaaGreatDoor
open Go Go.Sx Go.Pk
variable {B F G H R RA:Hl}{x x' y:Int}{a b rows:List (List Int)}{bs r:List Int}{c j k l:Nat}{o o':Option Nat}{u v v':Value}
def Vh {a b:Int} (hx:0<=x) (hy:0<=y) (hb:0<=b) (h:au a b=au x y):a=x/\b=y:=by
 rcases ad9 a 0 with c | c
 .exfalso;rw[av hx]at h;unfold au at h;rw[aa8 ah]at h;split at h
  .cases h
  .simp only[aa3,Addr.mk.injEq]at h;obtain⟨_,_,h⟩:=h;cases h
 .rw[av c,av hx]at h;simp only[aa3,Addr.mk.injEq]at h;omega
def LI {a:Int} (h:0<=a):(Value.slice (au a y) l c).ownBlock=some a.toNat:=by
 rw[av h];rfl
def KG {l' c':Nat} (hx:-1<=x') (h:some x'.toNat=(Value.slice (au x 0) l c).ownBlock\/¬H.mem x'.toNat\/x'= -1):∀ b,H.mem b->some b≠(Value.slice (au x 0) l c).ownBlock->some b≠(Value.slice (au x' 0) l' c').ownBlock:=by
 intro b hb a he;rcases ad9 x' 0 with hn | hn
 .rw[show x'= -1 by omega,dr]at he;cases he
 .rw[LI hn]at he;have he:b=x'.toNat:=by simpa using he
  rcases h with h | h | h
  .exact a (by rw[he];exact h)
  .rw[<-he]at h;exact h hb
  .omega
def pG (F:Hl) (o:Option Nat) (u:Value) (r:List Int):Prop:=∃ (x y:Int) (c:Nat),u=.slice (au x y) r.length c/\ -1<=x/\0<=y/\(r=[]\/(0<=x/\some x.toNat≠o/\∀ j z,r[j]?=some z->F.cell x.toNat (y.toNat+j)=some (.int .u8 z)))
def Pw {b:Nat} (h:F.cell b j=some v):F.mem b:=by
 unfold Hl.cell at h;unfold Hl.mem;cases a:F b with
 | none=>rw[a]at h;cases h
 | some o=>rfl
def cell_of {b:Nat} (h:F.cell b j=some v) (e:G b=F b):G.cell b j=some v:=by
 unfold Hl.cell at h ⊢;rw[e];exact h
def pG.cJ (h:pG F o u r) (hk:∀ b,F.mem b->some b≠o->G b=F b) (hn:∀ b,F.mem b->some b≠o->some b≠o'):pG G o' u r:=by
 obtain⟨x,y,c,hu,hx,hy,h⟩:=h;refine⟨x,y,c,hu,hx,hy,?_⟩;cases r with
 | nil=>exact Or.inl rfl
 | cons z r =>
  rcases h with h | ⟨h0,a,d⟩
  .cases h
  .have hm:F.mem x.toNat:=Pw (d 0 z rfl);exact Or.inr ⟨h0,hn _ hm a,fun j w e=>cell_of (d j w e) (hk _ hm a)⟩
def pG.rd (h:pG F o u r):fE F u r:=by
 obtain⟨x,y,c,hu,_,hy,h⟩:=h;exact⟨x,y,c,hu,hy,h.imp id fun h=>⟨h.1,h.2.2⟩⟩
def pG.of {l c:Int} (h:fE F (.slice (au x y) l.toNat c.toNat) r) (hx:-1<=x) (hy:0<=y):pG F none (.slice (au x y) l.toNat c.toNat) r:=by
 obtain⟨x',y',c',hu,a,h⟩:=h;simp only[Value.slice.injEq]at hu;obtain⟨h1,d,e⟩:=hu;refine⟨x,y,c.toNat,by rw[d],hx,hy,h.imp id fun⟨h0,h⟩=>?_⟩;obtain⟨e1,b⟩:=ma hx hy ah a h1;subst e1;have b:=b h0;subst b;exact⟨h0,aC,h⟩
def bT (F:Hl) (v:Value) (rows:List (List Int)):Prop:=∃ us:List Value,aO F 22 1 v rows.length us /\
 ∀ (j:Nat) (u:Value) (r:List Int),us[j]?=some u->rows[j]?=some r->pG F v.ownBlock u r
def bT.nil (F:Hl):bT F (.slice none 0 0) []:=⟨[],⟨rfl,Or.inl ⟨rfl,rfl⟩⟩,(fun j u r h=>by simp at h)⟩
def bT.len {us:List Value} (h:aO F 22 1 v rows.length us):us.length=rows.length:=by
 have:=h.1;omega
def bT.mono (hl:F.le G) (h:bT F v rows):bT G v rows:=by
 obtain⟨us,ho,hr⟩:=h;refine⟨us,aO.mono hl ho,fun j u r hu a=>(hr j u r hu a).cJ (fun b hm _=>?_) (fun _ _ h=>h)⟩;obtain⟨o,ho⟩:=acH.1 hm;rw[hl _ _ ho,ho]
def bT.snoc (h:bT F v rows) (hd:F.bq B) (hu:pG B none u r)
 (happ:∀ xs,aO (F.un B) 22 1 v rows.length xs->aO G 22 1 v' (rows.length+1) (xs++[u]))
 (hk:∀ b,(F.un B).mem b->some b≠v.ownBlock->G b=(F.un B) b) (hn:∀ b,(F.un B).mem b->some b≠v.ownBlock->some b≠v'.ownBlock):bT G v' (rows++[r]):=by
 obtain⟨us,ho,hr⟩:=h;have d:=bT.len ho;have hold:∀ (j:Nat) (w:Value) (s:List Int),us[j]?=some w->rows[j]?=some s->pG (F.un B) v.ownBlock w s:=fun j w s a hs =>
  (hr j w s a hs).cJ (fun b hm _=>by obtain⟨o,ho⟩:=acH.1 hm;rw[Hl.qu ho,ho]) (fun b _ h=>h)
 have c:pG (F.un B) v.ownBlock u r:=hu.cJ (fun b hm _=>by rw[Hl.sf fun f=>hd b ⟨f,hm⟩]) fun b hm _ e=>hd b ⟨ho.EC e.symm,hm⟩;refine⟨us++[u],?_,fun j w s a hs=>?_⟩
 .rw[aaA,acB];exact happ us (ho.mono (Hl.aV _ _))
 .rcases acN j us.length with hl | hl
  .rw[acb hl]at a;rw[acb ah]at hs;exact(hold j w s a hs).cJ hk hn
  .rw[abO hl]at a;rw[abO ah]at hs;have a:=aah a;have hs:=aah hs;rw[aaQ]at a hs;subst a;subst hs;exact c.cJ hk hn
def bT.at {l c:Int} (h:bT F (.slice (au x 0) l.toNat c.toNat) rows) (hx:-1<=x) (hl:0<=l):l=rows.length/\∀ (i:Nat) r,rows[i]?=some r->0<=x/\∃ u,F.cell x.toNat i=some u/\pG F (some x.toNat) u r:=by
 obtain⟨us,ho,hr⟩:=h;have b:=bT.len ho;refine⟨?_,fun i r hi=>?_⟩
 .rcases ho.2 with ⟨h,hn⟩ | ⟨g,cap,cur,h,_⟩
  .simp only[Value.slice.injEq]at h;omega
  .simp only[Value.slice.injEq]at h;omega
 .have a:=(aaG.1 hi).1;obtain⟨h0,d⟩:=ho.cellAt hx a;have hu:us[i]?=some us[i]:=aad ah;have:=hr i _ r hu hi;rw[LI h0]at this;exact⟨h0,_,by rw[d,hu],this⟩
def bT.uniq (h1:bT F v a) (g:bT F v b):a=b:=by
 obtain⟨us,ho,hr⟩:=h1;obtain⟨ws,c,d⟩:=g;obtain⟨el,e⟩:=ho.inj c;subst e;have h:=bT.len ho;apply afl el;intro j i f;have hu:us[j]?=some us[j]:=aad ah;exact(hr j _ _ hu (aad i)).rd.uniq (d j _ _ hu (aad f)).rd
def xz {l c c':Int} (h:bT F (.slice (au x 0) l.toNat c.toNat) rows) (hx:-1<=x) (hl:0<=l) (hd:F.bq B) (hu:pG B none u r) (a:-1<=x')
 (happ:∀ xs,aO (F.un B) 22 1 (.slice (au x 0) l.toNat c.toNat) l.toNat xs->aO G 22 1 (.slice (au x' 0) (l.toNat+1) c'.toNat) (l.toNat+1) (xs++[u]))
 (hkeep:∀ b,(F.un B).mem b->some b≠(Value.slice (au x 0) l.toNat c.toNat).ownBlock->G b=(F.un B) b) (hnew:some x'.toNat=(Value.slice (au x 0) l.toNat c.toNat).ownBlock\/¬(F.un B).mem x'.toNat\/x'= -1):bT G (.slice (au x' 0) (l+1).toNat c'.toNat) (rows++[r]):=by
 have e:l=rows.length:=(h.at hx hl).1;have e1:(l+1).toNat=rows.length+1:=ah;have d:l.toNat=rows.length:=ah;rw[d]at happ;rw[e1];rw[d]at h hkeep hnew;exact bT.snoc h hd hu happ hkeep (KG a hnew)
def tx (bs:List Int):List Int×List Int×Bool:=gR bs false 4096
def r9:Nat->List Int->List (List Int)
 | 0,_=>[]
 | n+1,bs=>if bs=[]then []else if(tx bs).2.2=true then []else(tx bs).1::r9 n (tx bs).2.1
def jL (bs:List Int):List (List Int):=r9 bs.length bs
def Fe (h0:bs≠[]) (h:(tx bs).2.2=false):(tx bs).2.1.length<bs.length:=by
 have hl:0<bs.length:=List.length_pos_iff.2 h0;unfold tx gR at h ⊢;split at h
 .cases h
 .rename_i a;rw[aa8 a];have b:(ck bs).2≠0:=fun e=>a (Or.inr (Or.inl e));show(bs.drop _).length<_;rw[acy];omega
def ql:∀ n,r9 n []=[]
 | 0=>rfl
 | _+1=>rfl
def yO:∀ (n m:Nat) (bs:List Int),bs.length<=n->bs.length<=m->r9 n bs=r9 m bs
 | 0,m,bs,h,_=>by
  have:bs=[]:=aa1.1 ah;rw[this,ql,ql]
 | n+1,0,bs,_,h=>by
  have:bs=[]:=aa1.1 ah;rw[this,ql,ql]
 | n+1,m+1,bs,h1,a=>by
  unfold r9;by_cases h0:bs=[]
  .rw[ab9 h0,ab9 h0]
  .rw[aa8 h0,aa8 h0];by_cases hb:(tx bs).2.2=true
   .rw[ab9 hb,ab9 hb]
   .rw[aa8 hb,aa8 hb];have:=Fe h0 (aef.2 hb);rw[yO n m _ ah ah]
def yN (n:Nat) (bs:List Int) (h:bs.length<=n):r9 n bs=jL bs:=yO n bs.length bs h (ab8 _)
def DA (h:bs≠[]):jL bs=if(tx bs).2.2=true then []else(tx bs).1::jL (tx bs).2.1:=by
 rw[<-yN (bs.length+1) bs ah];show(if bs=[]then []else if(tx bs).2.2=true then []else(tx bs).1::r9 bs.length (tx bs).2.1)=_;rw[aa8 h];cases hb:(tx bs).2.2 with
 | true=>rfl
 | false=>rw[aa8 aC,aa8 aC,yN _ _ (by have:=Fe h hb;omega)]
def xH:Sx.Spec where
 fn:=74
 own:=[]
 rd:=[0]
 res:=[.one .sl]
 pre:=fun xs Hs Rs=>∃ u bs R,xs=[u]/\Rs=[R]/\fE R u bs/\al bs/\bs.length<=1000000
 post:=fun xs Hs Rs v Hs' F=>∃ u bs R,xs=[u]/\Rs=[R]/\fE R u bs/\bT F v (jL bs)
def tnΓ:List Sx.Spec:=[qg,Lq,wO,Tf]
def Y0:∀ t∈tnΓ,t.OK Tryz.prog:=ak pe <| ak QD <| ak Ic <| ak Tg <| bu
def YV:aD Tryz.prog tnΓ xH.fn where
 Λ:=fun p=>if QI p then some ⟨0,[(3,.sv (.one (.sl (.var 53) (.lit 0) (.var 54) (.var 55))))],[(1,.hp 51 [] [.var 5] []),(2,.hp 56 [] [.var 53] [])],60⟩else none
 args:=[.sv (.one (.sl (.var 0) (.var 1) (.var 2) (.var 3)))]
 mem:=[.ro 4 [.var 0] false]
 nv:=5
def ae7:qg.res=[.one .ptr]:=rfl
def ae8:Lq.res=[.one (.int .i64)]:=rfl
def ae9:wO.res=[.one .sl]:=rfl
def afa:Tf.res=[.one .bool]:=rfl
def Om (n:Nat):(aL n [Cp.one .sl]≠[])=True:=by simp [aL,Cp.roots,Ck.root]
def YJ (n:Nat):(aL n [Cp.one .ptr]≠[])=True:=by simp [aL,Cp.roots,Ck.root]
def OC:xH.OK Tryz.prog:=by
 refine Spec.jN (Γ:=tnΓ) Y0 rfl ?_;rintro xs Rs ⟨u,bs,R,rfl,rfl,m,hby,hlen⟩;obtain⟨x,y,c,rfl,hy,hR⟩:=id m;refine⟨YV,aM [x,y,bs.length,c] false [Hl.none,Hl.none,Hl.none,Hl.none,R],fun _ q=>∃ rest rows,jr (q.h 51) (.pointer (au (q.i 5) (q.i 6))) rest false/\ -1<=q.i 53/\0<=q.i 54/\0<=q.i 55/\bT (q.h 56) (.slice (au (q.i 53) 0) (q.i 54).toNat (q.i 55).toNat) rows/\rows++jL rest=jL bs/\rows.length+rest.length<=bs.length,fun _ q=>(bs.length-q.i 54).toNat,?_,aT rfl rfl,rfl,?_⟩
 .show [Value.slice (au x y) ((bs.length:Int)).toNat ((c:Int)).toNat]=_;rw[aac,aac]
 .refine aD.read [] [] [] ?_;generalize v:aM [x,y,bs.length,c] false [Hl.none,Hl.none,Hl.none,Hl.none,R]=J;obtain⟨⟨v0,v1,v2,v3,_⟩,_,_,_,_,w4,_⟩:=jn v;clear v;have out:∀ {q:Env} {rows:List (List Int)} {mem:Mem},Db mem [] [2]=true->(uY q mem [2])=q.h 56-> -1<=q.i 53->0<=q.i 54->0<=q.i 55->bT (q.h 56) (.slice (au (q.i 53) 0) (q.i 54).toNat (q.i 55).toNat) rows->rows=jL bs->postOf xH [.slice (au x y) bs.length c] [] [R] q mem (.sv (.one (.sl (.var 53) (.lit 0) (.var 54) (.var 55)))):=by
   intro q rows mem hok hu h1 h2 h3 hr he _;subst he;exact⟨[],[2],rfl,hok,⟨(ba fun k=>[q.i 53,0,q.i 54,q.i 55].getD k 0),rfl,⟨h1,aba _,h2,h3⟩,zzT⟩,_,bs,R,rfl,rfl,m,by rw[hu];exact hr⟩
  simp only[go_sem,Nat.reduceAdd,tnΓ,ae7,ae8,ae9,afa,Om,YJ];rw[v0,v1,v2,v3,w4,aac,aac];refine⟨⟨_,bs,R,rfl,rfl,m,hby,hlen⟩,fun q1 g1 ⟨F1,⟨u',bs',R',e1,f,N,hIn⟩,O,_⟩=>?_⟩;simp only[aae,abw]at e1 f;subst e1 f;obtain rfl:=m.uniq N;rw[<-O zzT]at hIn;refine⟨⟨bs,[],hIn,aba _,aba _,aba _,bT.nil _,rfl,aC⟩,fun q2 g2 ⟨rest,rows,hI,n,g,z,A,j,hle⟩=>?_⟩;have ag:=(A.at n g).1;refine⟨⟨_,_,rest,false,rfl,rfl,hI⟩,fun q3 g3 ⟨F3,⟨p3,R3,aj,ab,e1,f,P,r⟩,_⟩=>?_⟩;simp only[aae,abw]at e1 f;subst e1 f;obtain⟨I,_⟩:=hI.uniq P;subst I;have r:q3.i 60=rest.length:=by simpa using r
  rw[r];have B:rest.length=0->rows=jL bs:=fun h=>by
   have:rest=[]:=aa1.1 h;subst this;rw[<-j];exact(acD _).symm
  refine⟨fun C=>?_,fun ad=>out rfl (aJ _) (by rw[g3.i 53];exact n) (by rw[g3.i 54];exact g) (by rw[g3.i 55];exact z) (by rw[g3.i 53,g3.i 54,g3.i 55,g3.h 56];exact A) (B ah)⟩;have D:rest≠[]:=by rintro rfl;simp at C
  rw[g3.i 5,g3.i 6,g3.h 51];refine⟨⟨_,4096,_,rest,false,rfl,rfl,hI,ah⟩,fun d g4 ⟨F4,⟨p4,m4,H4,ak,ae,al,e1,f,Q,I,a,o⟩,S,p⟩=>?_⟩;simp only[aae,Value.int.injEq,acu,abw]at e1 f I;obtain⟨e1,em⟩:=e1;subst e1 em f;obtain⟨e4,T⟩:=hI.uniq Q;subst e4 T;rw[<-I]at a;rw[<-S zzT]at o;have a:jr (d.h 61) (.pointer (au (q2.i 5) (q2.i 6))) (tx rest).2.1 (tx rest).2.2:=a;have o:c9 (d.h 62) 5 (.slice (au (d.i 61) (d.i 62)) (d.i 63).toNat (d.i 64).toNat) (tx rest).1:=o;have p:-1<=d.i 61/\0<=d.i 62/\0<=d.i 63/\0<=d.i 64:=p.1;rw[g4.i 5,g4.i 6,g3.i 5,g3.i 6];refine⟨⟨_,_,_,_,rfl,rfl,a⟩,fun U g5 ⟨F5,⟨p5,R5,an,af,e1,f,V,s⟩,_⟩=>?_⟩;simp only[aae,abw]at e1 f;subst e1 f;obtain⟨_,T⟩:=a.uniq V;subst T;have s:U.b 65=(tx rest).2.2:=by simpa [bn] using s
  have E:=DA D;have G:ai 60 q2 U:=g3.trans ((g4.tr g5).mono ah);have G4:ai 65 d U:=g5;rw[s];refine⟨fun hb=>out rfl (aJ _) (by rw[G.i 53];exact n) (by rw[G.i 54];exact g) (by rw[G.i 55];exact z) (by rw[G.i 53,G.i 54,G.i 55,G.h 56];exact A) (by rw[<-j,E,ab9 hb,acD]),fun hb K L _ q7 g7 ⟨e7,F⟩=>?_⟩;have hb:(tx rest).2.2=false:=aef.2 hb;have M:ai 60 q2 q7:=G.trans ((L.tr g7).mono ah);have l:ai 65 d q7:=G4.trans ((L.tr g7).mono ah);have W:ai 65 d K:=G4.tr L;have G6:ai 60 q2 K:=G.tr L;have hu:pG (K.h 62) none (.slice (au (q7.i 61) (q7.i 62)) (q7.i 63).toNat (q7.i 64).toNat) (tx rest).1:=by
   rw[W.h 62,l.i 61,l.i 62,l.i 63,l.i 64];exact pG.of o.rd.w p.1 p.2.1
  rw[e7,G6.h 56,M.i 53,M.i 54,M.i 55];rw[G6.h 56]at F;have H:∃ xs,aO ((q2.h 56).un (K.h 62)) 22 1 (.slice (au (q2.i 53) 0) (q2.i 54).toNat (q2.i 55).toNat) (q2.i 54).toNat xs:=by
   obtain⟨us,ho,_⟩:=A;rw[show(q2.i 54).toNat=rows.length by omega]at ho ⊢;exact⟨us,ho.mono (Hl.aV _ _)⟩
  refine⟨⟨H,g,by unfold maxLen;omega,ah⟩,fun e g8 ⟨a1,a2,happ,hk,_,hn⟩=>?_⟩;have X:ai 60 q2 e:=M.tr g8;have Y:ai 65 d e:=l.tr g8;have t:=xz A n g F hu a1 happ hk hn;have Z:e.i 54+1=q2.i 54+1:=by rw[X.i 54]
  have aa:=Fe D hb;refine⟨⟨(tx rest).2.1,rows++[(tx rest).1],?_,a1,?_,a2,?_,?_,?_⟩,?_⟩
  .show jr (e.h 61) (.pointer (au (e.i 5) (e.i 6))) _ _;rw[Y.h 61,X.i 5,X.i 6,<-hb];exact a
  .show 0<=e.i 54+1;omega
  .show bT (e.h 68) (.slice (au (e.i 68) 0) (e.i 54+1).toNat (e.i 69).toNat) _;rw[Z];exact t
  .rw[abS,<-j,E,aa8 (by rw[hb];simp)];rfl
  .rw[aaA,acB];omega
  .show((bs.length:Int)-(e.i 54+1)).toNat<_;omega
def iH (h:∃ a l c,u=.slice a l c):Value.slice (au (bD (some u) 0) (bD (some u) 1)) (bD (some u) 2).toNat (bD (some u) 3).toNat=u:=by
 obtain⟨a,n,c,rfl⟩:=h;cases a with
 | none=>simp [bD,au]
 | some a =>
  obtain⟨b,o,s⟩:=a;cases s with
  | none=>simp [bD,au]
  | some s =>
   simp only[bD,aac];unfold au;rw[aa8 ah,aa8 ah,aac,Ii,show(-(-(b:Int)-2)-2).toNat=b by omega]
def fE.parts (h:fE R u r):(∃ a l c,u=.slice a l c)/\bD (some u) 2=r.length /\
 (bD (some u) 0= -1\/bD (some u) 2=0\/0<=bD (some u) 0/\0<=bD (some u) 1/\bx R (bD (some u) 0).toNat (bD (some u) 1).toNat (bD (some u) 2).toNat=true) /\
 (if bD (some u) 0= -1 then ByteArray.empty else bytesOf (gw R (bD (some u) 0).toNat (bD (some u) 1).toNat (bD (some u) 2).toNat))=bytesOf r:=by
 obtain⟨x,y,c,rfl,hy,h⟩:=h;have d:bD (some (.slice (au x y) r.length c)) 2=r.length:=by
  cases hs:au x y with
  | none=>rfl
  | some a=>obtain⟨b,o,s⟩:=a;cases s<;>rfl
 refine⟨⟨_,_,_,rfl⟩,d,?_⟩;rw[d];rcases h with h | ⟨hx,e⟩
 .subst h;refine⟨Or.inr (Or.inl rfl),?_⟩;show(if _ then ByteArray.empty else bytesOf (gw R _ _ 0))=ByteArray.empty;split<;>rfl
 .rw[sl0 ah,sl1 hx hy,aac];refine⟨Or.inr (Or.inr ⟨hx,hy,dd e (ab8 _)⟩),?_⟩;rw[aa8 ah,ug e]
def kv (R RA:Hl) (v:Value) (rows:List (List Int)):Prop:=∃ (us:List Value) (x y:Int) (c:Nat),v=.slice (au x y) us.length c/\0<=y/\us.length=rows.length/\(∀ (j:Nat) (u:Value),us[j]?=some u->0<=x/\R.cell x.toNat (y.toNat+j)=some u)/\(∀ (j:Nat) (u:Value) (r:List Int),us[j]?=some u->rows[j]?=some r->fE RA u r)
def kv.uniq (h1:kv R RA v a) (i:kv R RA v b):a=b:=by
 obtain⟨us,x,y,c,hv,hy,hl,p,hr⟩:=h1;obtain⟨d,x',y',c',e,k,q,l,m⟩:=i;rw[hv]at e;simp only[Value.slice.injEq]at e;obtain⟨r,el,_⟩:=e;apply afl ah;intro j s n;have hu:us[j]?=some us[j]:=aad ah;have g:d[j]?=some d[j]:=aad ah;obtain⟨hx,e1⟩:=p j _ hu;obtain⟨t,h⟩:=l j _ g;obtain⟨o,f⟩:=ma ah hy ah k r;have f:=f hx;subst o;subst f;rw[e1]at h;have h:us[j]=d[j]:=by simpa using h
 have h1:=hr j _ _ hu (aad s);have i:=m j _ _ g (aad n);rw[h]at h1;exact h1.uniq i
def kv.at (h:kv R RA (.slice (au x y) l c) rows) (hy:0<=y):l=rows.length/\∀ (i:Nat) r,rows[i]?=some r->0<=x/\∃ u,R.cell x.toNat (y.toNat+i)=some u/\fE RA u r:=by
 obtain⟨us,x',y',c',hv,a,hl,b,hr⟩:=h;simp only[Value.slice.injEq]at hv;obtain⟨d,el,_⟩:=hv;refine⟨ah,fun i r hi=>?_⟩;have f:=(aaG.1 hi).1;have hu:us[i]?=some us[i]:=aad ah;obtain⟨hx,e⟩:=b i _ hu;obtain⟨rfl,rfl⟩:=Vh hx a hy d;exact⟨hx,_,e,hr i _ r hu hi⟩
def bM (rows:List (List Int)):List Int:=(rows.map aB).flatten
def jC (rows:List (List Int)):Prop:=∀ r∈rows,r.length<=4096
def JM (h:rows[k]?=some r):bM (rows.take (k+1))=bM (rows.take k)++aB r:=by
 unfold bM;rw[adB,h,afk,acm,afH];simp
def wm:Sx.Spec where
 fn:=183
 own:=[]
 rd:=[0,3000000]
 res:=[.one .sl,.one (.int .i64)]
 pre:=fun xs Hs Rs=>∃ v R RA rows,xs=[v]/\Rs=[R,RA]/\kv R RA v rows/\rows.length<=1000000/\∀ r∈rows,0<=r.length
 post:=fun xs Hs Rs w Hs' F=>∃ v R RA rows u e,xs=[v]/\Rs=[R,RA]/\kv R RA v rows/\w=.tuple #[u,.int .i64 e]/\(jC rows->e=0/\c9 F 5 u (bM rows))/\(¬jC rows->e=3)
def pkΓ:List Sx.Spec:=[lx,kO]
def Ya:∀ t∈pkΓ,t.OK Tryz.prog:=ak xp <| ak mO <| bu
def wo:aD Tryz.prog pkΓ wm.fn where
 Λ:=fun p=>if QI p then some ⟨0,[(4,.sv (.one (.sl (.var 53) (.lit 0) (.var 54) (.var 55)))),(12,TI .i64 (.var 50))],[(2,.hp 56 [] [.var 53] [])],60⟩else none
 args:=[.sv (.one (.sl (.var 0) (.var 1) (.var 2) (.var 3)))]
 mem:=[.ro 4 [.var 0] false,.ro 5 [] true]
 nv:=6
def aek:lx.res=[]:=rfl
def ael:kO.res=[.one .sl,.one (.int .i64)]:=rfl
def rsi (n:Nat):(aL n [Cp.one .sl,Cp.one (.int .i64)]≠[])=True:=by simp [aL,Cp.roots,Ck.root]
def JN:wm.OK Tryz.prog:=by
 refine Spec.jN (Γ:=pkΓ) Ya rfl ?_;rintro xs Rs ⟨v,R,RA,rows,rfl,rfl,hB,hlen,aG⟩;obtain⟨us,x,y,c,rfl,hy,ao,s,V⟩:=id hB;refine⟨wo,aM [x,y,us.length,c] false [Hl.none,Hl.none,Hl.none,Hl.none,R,RA],fun _ q=>∃ k:Nat,q.i 50=k/\k<=rows.length/\(∀ r∈rows.take k,r.length<=4096)/\ -1<=q.i 53/\q.i 54=(bM (rows.take k)).length/\0<=q.i 55/\c9 (q.h 56) 5 (.slice (au (q.i 53) 0) (q.i 54).toNat (q.i 55).toNat) (bM (rows.take k))/\(bM (rows.take k)).length<=4106*k,fun _ q=>(rows.length-q.i 50).toNat,?_,⟨?_,?_,?_,?_⟩,rfl,?_⟩
 .show [Value.slice (au x y) ((us.length:Int)).toNat ((c:Int)).toNat]=_;rw[aac,aac]
 .intro r hr ho;simp [wo]at hr;rcases hr with rfl | rfl<;>cases ho
 .intro r hr ho;simp [wo]at hr;rcases hr with rfl | rfl
  .exact⟨R,aC,Hl.le_refl _⟩
  .exact⟨RA,aC,Hl.le_refl _⟩
 .simp [wo,bo.own]
 .intro r hr;simp [wo]at hr;rcases hr with rfl | rfl<;>trivial
 .refine aD.read [] [] [] ?_;generalize A:aM [x,y,us.length,c] false [Hl.none,Hl.none,Hl.none,Hl.none,R,RA]=J;obtain⟨⟨v0,v1,v2,v3,_⟩,_,_,_,_,w4,w5,_⟩:=jn A;clear A;simp only[go_sem,Nat.reduceAdd,pkΓ,aek,ael,rsi];rw[v2];refine⟨ah,⟨0,rfl,acP _,aC,aba _,rfl,aba _,⟨rfl,Or.inl ⟨rfl,rfl⟩⟩,by simp [bM]⟩,fun q g ⟨k,W,hk,t,X,Y,Z,hO,hle⟩=>?_⟩;rw[g.i 0,g.i 1,g.i 2,g.h 4,v0,v1,v2,w4,W];refine⟨fun aq=>?_,fun ar=>?_⟩
  .have B:k<rows.length:=ah;have hr:rows[k]?=some rows[k]:=aad B;have hu:us[k]?=some us[k]:=aad ah;obtain⟨aa,hc⟩:=s k _ hu;have u:=V k _ _ hu hr;have C:∃ a l c,us[k]=Value.slice a l c:=(fE.parts u).1;have D:R.cell x.toNat (y+(k:Int)).toNat=some us[k]:=by rw[show(y+(k:Int)).toNat=y.toNat+k by omega];exact hc
   refine⟨aa,hy,ah,by rw[D];obtain⟨_,_,_,e⟩:=C;rw[e];rfl,fun q1 g1 E=>?_⟩;have U:ai 6 J q1:=g.tr g1;rw[U.h 4,U.h 5,U.i 0,U.i 1,g1.i 50,v0,v1,w4,w5,W,D,iH C,av E];refine⟨⟨_,_,_,RA,[],false,rows[k],rfl,rfl,rfl,aZ.new _,u,aC,aG _ (acK _)⟩,fun q2 g2 ⟨F2,⟨p2,u2,H2,R2,bs2,aw,b2,ax,e1,F,e3,ab,ad,e4,f⟩,_⟩=>?_⟩;simp only[aae,abw]at e1 F e3 e4;obtain⟨e1,ae⟩:=e1;subst e1 ae F e3;obtain⟨G,el⟩:=(aZ.new _).uniq ab;subst G el;obtain rfl:=u.uniq ad;rw[<-e4]at f;have af:gK [] false rows[k]=if 4096<rows[k].length then([],true)else(aB rows[k],false):=rfl
   rw[af]at f;have H:rows[k].length<=4096->(aB rows[k]).length<=4106:=fun h=>by
    unfold aB;have:=oX (z:=rows[k].length) ah;rw[aaA];omega
   have I:(if 4096<rows[k].length then(([]:List Int),true)else(aB rows[k],false)).1.length<=1000000:=by
    split
    .simp
    .have:=H ah;show(aB rows[k]).length<=_;omega
   rw[g2.i 60,av E];refine⟨⟨_,_,_,_,rfl,rfl,f,I⟩,fun b g3 ⟨F3,⟨p3,R3,ay,az,u3,e1,F,ag,K,m⟩,aj,n⟩=>?_⟩;simp only[aae,abw]at e1 F;subst e1 F;obtain⟨G,el⟩:=f.uniq ag;subst G el;simp only[Value.tuple.injEq,acp,aae,Value.int.injEq,acu,abw]at K;obtain⟨eu,d⟩:=K;rw[<-eu,<-aj zzT]at m;have w:ai 60 q b:=g1.trans ((g2.tr g3).mono ah);have n:-1<=b.i 63/\0<=b.i 64/\0<=b.i 65/\0<=b.i 66:=n.1;by_cases p:4096<rows[k].length
   .rw[ab9 p]at d;have d:b.i 67=3:=d;refine⟨fun _ _=>?_,fun h0=>ah⟩;refine⟨[],[],rfl,rfl,⟨(ba fun j=>[-1,0,0,0,3].getD j 0),?_,⟨aba _,aba _,aba _,aba _⟩,zzT,zzT⟩,_,R,RA,rows,.slice none 0 0,3,rfl,rfl,hB,?_,fun hok=>?_,fun _=>rfl⟩
    .show Value.tuple #[.slice (au (-1) 0) 0 0,.int .i64 (b.i 67)]=_;rw[d];rfl
    .show Value.tuple #[.slice (au (-1) 0) 0 0,.int .i64 (b.i 67)]=_;rw[d];rfl
    .have:=hok _ (acK B);omega
   .rw[aa8 p]at d m;have aA:=H ah;have hE:lj (aB rows[k]) false=(aB rows[k],0):=by unfold lj;rw[aa8 (by simp;omega)]
    have d:b.i 67=(lj (aB rows[k]) false).2:=d;have m:c9 (b.h 63) 5 (.slice (au (b.i 63) (b.i 64)) (b.i 65).toNat (b.i 66).toNat) (lj (aB rows[k]) false).1:=m;rw[hE]at d m;refine⟨fun h=>absurd d h,fun _=>?_⟩;have L:=m.rd.at n.1 n.2.1 n.2.2.1;have ak:b.i 65=(aB rows[k]).length:=L.1;obtain⟨hok,M⟩:=xC (R:=b.h 63) (x:=b.i 63) (y:=b.i 64) (l:=b.i 65) (bs:=aB rows[k]) ak n.2.1 (L.2.imp (·.2) id);rw[w.i 53,w.i 54,w.i 55,w.h 56];have N:aO (q.h 56) 5 1 (.slice (au (q.i 53) 0) (q.i 54).toNat (q.i 55).toNat) (q.i 54).toNat (aS (bM (rows.take k))):=by
     have:=hO;unfold c9 at this;rw[show(q.i 54).toNat=(bM (rows.take k)).length by omega]at this ⊢;exact this
    refine⟨⟨⟨_,N⟩,ah,hok,by unfold maxLen;omega,ah⟩,fun o g4 ⟨a1,a2,happ,_⟩=>?_⟩;have h2:=happ _ N;rw[M]at h2;have O:o.i 65=b.i 65:=g4.i 65;have P:o.i 54=q.i 54:=by rw[g4.i 54,w.i 54]
    have Q:o.i 50=k:=by rw[g4.i 50,w.i 50,W]
    have S:=JM hr;have aE:(bM (rows.take (k+1))).length=(bM (rows.take k)).length+(aB rows[k]).length:=by rw[S,aaA]
    refine⟨⟨k+1,?_,ah,fun r T=>?_,a1,?_,a2,?_,ah⟩,?_⟩
    .show IntKind.i64.wrap (o.i 50+1)=_;rw[Q,IntWalk.i64_in _ ah];omega
    .rw[adB,hr,afk]at T;rcases acg.1 T with h | h
     .exact t r h
     .rw[aaQ]at h;subst h;omega
    .show o.i 54+o.i 65=_;rw[P,O];omega
    .show c9 (o.h 68) _ (.slice (au (o.i 68) 0) (o.i 54+o.i 65).toNat (o.i 69).toNat) _;unfold c9;rw[P,O,S,gQ,aaA];have ea:(q.i 54).toNat+(b.i 65).toNat=(bM (rows.take k)).length+(aB rows[k]).length:=ah;have G:(q.i 54+b.i 65).toNat=(bM (rows.take k)).length+(aB rows[k]).length:=ah;rw[ea]at h2;rw[G];exact h2
    .show((rows.length:Int)-IntKind.i64.wrap (o.i 50+1)).toNat<_;rw[Q,IntWalk.i64_in _ ah];omega
  .have al:k=rows.length:=ah;subst al;rw[acS]at t Y hO;intro _;refine⟨[],[2],rfl,rfl,⟨(ba fun j=>[q.i 53,0,q.i 54,q.i 55,0].getD j 0),rfl,⟨X,aba _,by show 0<=q.i 54;omega,Z⟩,zzT,zzT⟩,_,R,RA,rows,.slice (au (q.i 53) 0) (q.i 54).toNat (q.i 55).toNat,0,rfl,rfl,hB,rfl,fun _=>⟨rfl,?_⟩,fun an=>absurd t an⟩;show c9 (bY [q.h 56]) _ _ _;rw[aJ];exact hO
end Go.Proofs.YtbdikjnpbnobcaaGreatDoor
namespace Go.Proofs.YtbdikjnpbnobcaaGreatDoor
open Go Go.Sx Go.Pk Go.RowKit
variable {F R:Hl}{c d:Int}{g n:Nat}{a b:Nat->Addr}{e v:Value}
def qx:Nat:=3
def oI:Nat:=4
def mF:Nat:=5
def SW (g:Nat):Prop:=g=qx\/g=oI\/g=mF
def gv (a:Nat->Addr) (g:Nat):Value:=.iface 297 (.pointer (some (a g)))
structure Gl (R:Hl) (a:Nat->Addr):Prop where
 cell:∀ g,SW g->R.cell g 0=some (gv a g)
 bc:∀ g,SW g->∃ c t,R (a g).block=some (.cells c t (0,0))
 ne:∀ g h,SW g->SW h->g≠h->a g≠a h
def Gl.same (h:Gl R a) (k:Gl R b) (hg:SW g):a g=b g:=by
 have:=(h.cell g hg).symm.trans (k.cell g hg);simpa [gv] using this
def gi (c:Int):Nat:=if c=4 then oI else if c=14 then mF else qx
def Gk (c:Int):SW (gi c):=by
 unfold gi SW;split
 .exact Or.inr (Or.inl rfl)
 .split
  .exact Or.inr (Or.inr rfl)
  .exact Or.inl rfl
def nh (a:Nat->Addr) (v:Value) (c:Int):Prop:=(c=0/\v=.nilIface)\/(c≠0/\∃ s:ByteArray,v=.iface 274 (.agg #[.string s,gv a (gi c)]))
def nh.same (h:Gl R a) (k:Gl R b) (g:nh a v c) (hd:nh b v d):(c=0↔d=0)/\(c≠0->gi c=gi d):=by
 rcases g with ⟨g,e⟩ | ⟨g,s,e⟩<;>rcases hd with ⟨hd,f⟩ | ⟨hd,j,f⟩<;>rw[e]at f
 .exact⟨⟨fun _=>hd,fun _=>g⟩,fun h=>absurd g h⟩
 .cases f
 .cases f
 .refine⟨⟨fun h=>absurd h g,fun h=>absurd h hd⟩,fun _=>?_⟩;simp only[Value.iface.injEq,Value.agg.injEq,acp,aae,Value.string.injEq,gv,Value.pointer.injEq,aa3,acu,abw]at f;rw[<-h.same k (Gk d)]at f;exact aee fun i=>h.ne _ _ (Gk c) (Gk d) i f.2
open Classical in
noncomputable def Zf:Sx.Spec where
 fn:=184
 own:=[]
 rd:=[2000003]
 res:=[.one .bool]
 pre:=fun xs Hs Rs=>∃ e t R a c g,xs=[e,t]/\Rs=[R]/\Gl R a/\nh a e c/\SW g/\t=gv a g
 post:=fun xs Hs Rs v Hs' F=>∃ e t R,xs=[e,t]/\Rs=[R]/\∀ a c g,Gl R a->nh a e c->SW g->t=gv a g->v=.bool (decide (c≠0/\gi c=g))
def Qy:Zf.OK Tryz.prog:=by
 refine pK rfl fun w xs Rs hs ⟨e,t,R,a,c,g,e1,x,d,r,hg,y⟩=>?_;subst e1 x y;refine⟨.bool (decide (c≠0/\gi c=g)),⟨⟨fun _=>0,fun _=>decide (c≠0/\gi c=g),fun _=>.empty,fun _=>.tuple #[],fun _=>Hl.none⟩,rfl,zzT,zzT⟩,?_,_,_,R,rfl,rfl,fun a' c' u f k i l=>?_⟩
 .have v:=hs R aC;obtain⟨z,tg,m⟩:=d.bc g hg;rcases r with ⟨rfl,rfl⟩ | ⟨A,s,rfl⟩
  .refine(XH (a g) w).mono fun e w' ⟨h1,j⟩=>⟨(by rw[h1];simp),(by rw[j];exact Below.refl _ _)⟩
  .by_cases b:gi c=g
   .subst b;refine(Er s (a (gi c)) w).mono fun e w' ⟨h1,j⟩=>⟨(by rw[h1];simp [A]),j⟩
   .obtain⟨B,C,n⟩:=d.bc (gi c) (Gk c);refine(Cv s (a g) (a (gi c)) B z C tg w (d.ne _ _ (Gk c) hg b) (v _ _ n) (v _ _ m)).mono fun e w' ⟨h1,j⟩=>⟨(by rw[h1];simp [b]),j⟩
 .obtain⟨s1,s2⟩:=r.same d f k;have o:g=u:=by
   have:a g=a' u:=by simpa [gv] using l
   rw[<-d.same f i]at this;exact aee fun p=>d.ne _ _ hg i p this
  subst o
  congr 1
  by_cases h0:c=0
  .have:=s1.1 h0;simp [h0,this]
  .have q:c'≠0:=fun h=>h0 (s1.2 h);rw[<-s2 h0];simp [h0,q]
def Ci:Sx.Spec where
 fn:=159
 own:=[]
 rd:=[2000003]
 res:=[.one .any]
 pre:=fun xs Hs Rs=>∃ (s:ByteArray) (c:Int) (R:Hl) (a:Nat->Addr),xs=[.string s,.int .i64 c]/\Rs=[R]/\Gl R a
 post:=fun xs Hs Rs v Hs' F=>∃ (s:ByteArray) (c:Int) (R:Hl),xs=[.string s,.int .i64 c]/\Rs=[R]/\∀ a,Gl R a->nh a v c
set_option maxRecDepth 20000 in
def Fl (s:ByteArray) (c:Int) (a:Nat->Addr) (w:World) (h0:w.cell? ⟨qx,0,none⟩=some (gv a qx)) (h1:w.cell? ⟨oI,0,none⟩=some (gv a oI)) (f:w.cell? ⟨mF,0,none⟩=some (gv a mF)) :
 Calls Tryz.prog 159 #[.string s,.int .i64 c] w fun e w'=>e=.returned (if c=0 then .nilIface else .iface 274 (.agg #[.string s,if c=4 then gv a oI else if c=14 then gv a mF else gv a qx]))/\w'=w:=by
 unfold gv qx at h0;unfold gv oI at h1;unfold gv mF at f;by_cases c0:c=0
 .subst c0
  go_enter Tryz.func159,Tryz.ntmps159
  go_wp2
  go_ret
  exact⟨rfl,rfl⟩
 .rw[aa8 c0];by_cases d:c=4
  .subst d
   go_enter Tryz.func159,Tryz.ntmps159
   go_wp2
   go_ret
   exact⟨rfl,rfl⟩
  .rw[aa8 d];by_cases b:c=14
   .subst b
    go_enter Tryz.func159,Tryz.ntmps159
    go_wp2
    go_ret
    exact⟨rfl,rfl⟩
   .rw[aa8 b]
    go_enter Tryz.func159,Tryz.ntmps159
    go_wp2
    go_ret
    exact⟨rfl,rfl⟩
def SL (a:Nat->Addr) (s:ByteArray) (c:Int):Value:=if c=0 then .nilIface else .iface 274 (.agg #[.string s,if c=4 then gv a oI else if c=14 then gv a mF else gv a qx])
def Ip:Ci.OK Tryz.prog:=by
 refine pK rfl fun w xs Rs hs ⟨s,c,R,a,e1,g,d⟩=>?_;subst e1 g;have f:=hs R aC;have hv:=Fl s c a w (Hl.gW f (d.cell _ (Or.inl rfl))) (Hl.gW f (d.cell _ (Or.inr (Or.inl rfl)))) (Hl.gW f (d.cell _ (Or.inr (Or.inr rfl))));refine⟨SL a s c,⟨⟨fun _=>0,fun _=>false,fun _=>.empty,fun _=>SL a s c,fun _=>Hl.none⟩,rfl,zzT,zzT⟩,hv.mono fun e w' ⟨h1,h⟩=>⟨h1,(by rw[h];exact Below.refl _ _)⟩,s,c,R,rfl,rfl,fun a' b=>?_⟩;unfold SL;by_cases c0:c=0
 .rw[ab9 c0];exact Or.inl ⟨c0,rfl⟩
 .rw[aa8 c0];refine Or.inr ⟨c0,s,?_⟩
  congr 3
  unfold gi;split
  .unfold gv;rw[d.same b (Or.inr (Or.inl rfl))]
  .split
   .unfold gv;rw[d.same b (Or.inr (Or.inr rfl))]
   .unfold gv;rw[d.same b (Or.inl rfl)]
def tu (c:Int):Int:=if c=0 then 0 else if gi c=oI then 4 else if gi c=mF then 14 else 5
def sH:Sx.Spec where
 fn:=185
 own:=[]
 rd:=[2000003]
 res:=[.one (.int .i64)]
 pre:=fun xs Hs Rs=>∃ e R a c,xs=[e]/\Rs=[R]/\Gl R a/\nh a e c
 post:=fun xs Hs Rs v Hs' F=>∃ e R,xs=[e]/\Rs=[R]/\∀ a c,Gl R a->nh a e c->v=.int .i64 (tu c)
noncomputable def nuΓ:List Sx.Spec:=[Zf]
def X3:∀ t∈nuΓ,t.OK Tryz.prog:=fun t a=>by
 simp only[nuΓ,aaW,abd,acs]at a;rw[a];exact Qy
noncomputable def abc:aD Tryz.prog nuΓ sH.fn where
 Λ:=aA
 args:=[.sv (.one (.vr 0))]
 mem:=[.ro 1 [.lit 3,.lit 4,.lit 5] false]
 nv:=2
def aea:Zf.res=[.one .bool]:=rfl
def NL (h:Gl R a) (k:Gl R b) (e:nh a v c) (hd:nh b v d):tu c=tu d:=by
 obtain⟨s1,s2⟩:=e.same h k hd;unfold tu;by_cases h0:c=0
 .rw[ab9 h0,ab9 (s1.1 h0)]
 .rw[aa8 h0,aa8 (fun h=>h0 (s1.2 h)),s2 h0]
def TF (h:nh a v c):qA v<=1/\(qA v=0↔c=0):=by
 rcases h with ⟨b,rfl⟩ | ⟨b,s,rfl⟩
 .exact⟨az,fun _=>b,fun _=>rfl⟩
 .exact⟨aba 1,fun h=>absurd (show(1:Int)=0 from h) ah,fun h=>absurd h b⟩
open Classical in
def Jk {q:Env} {K Hs:List Hl} (f:Gl R a) (i:nh a e c) (hg:SW g) (hp:Zf.post [e,gv a g] Hs [R] (.bool (aY q (.bvar n))) K F):(q.b n=true)=(c≠0/\gi c=g):=by
 obtain⟨j,t',R',e1,d,h⟩:=hp;simp only[aae,abw]at e1 d;obtain⟨rfl,rfl⟩:=e1;subst d;have:=h a c g f i hg rfl;rw[bn]at this;simp only[Value.bool.injEq]at this;rw[this];simp
def JC:sH.OK Tryz.prog:=by
 refine Spec.jN (Γ:=nuΓ) X3 rfl ?_;rintro xs Rs ⟨e,R,a,c,rfl,rfl,f,i⟩;refine⟨abc,⟨fun _=>0,fun _=>false,fun _=>.empty,fun _=>e,fun _=>R⟩,fun _ _=>True,fun _ _=>0,rfl,aT rfl rfl,rfl,?_⟩
 .refine aD.read [] [] [] ?_;generalize g:(⟨fun _=>0,fun _=>false,fun _=>.empty,fun _=>e,fun _=>R⟩:Env)=J;have v0:J.v 0=e:=by rw[<-g]
  have w1:J.h 1=R:=by rw[<-g]
  clear g;have out:∀ {q:Env} {z:Int} {mem:Mem},z=tu c->postOf sH [e] [] [R] q mem (.sv (.one (.int .i64 (.lit z)))):=by
   rintro q z mem rfl _;exact⟨[],[],rfl,rfl,⟨(ba fun _=>tu c),rfl,zzT,zzT⟩,e,R,rfl,rfl,fun a' c' k l=>by
    rw[<-NL f k i l];rfl⟩
  have b:=TF i;simp only[go_sem,Nat.reduceAdd,nuΓ,aea,AS];rw[v0,w1];have p:R.cell (Int.toNat 4) (Int.toNat 0)=some (gv a oI):=f.cell oI (Or.inr (Or.inl rfl));have r:R.cell (Int.toNat 5) (Int.toNat 0)=some (gv a mF):=f.cell mF (Or.inr (Or.inr rfl));rw[p];refine⟨b.1,fun h0=>out (by unfold tu;rw[ab9 (b.2.1 h0)]),fun h0=>⟨rfl,⟨e,_,R,a,c,oI,rfl,rfl,f,i,Or.inr (Or.inl rfl),rfl⟩,fun q1 o ⟨s,m,_⟩=>?_⟩⟩;have d:c≠0:=fun h=>h0 (b.2.2 h);have r1:=Jk f i (Or.inr (Or.inl rfl)) m;rw[r1,o.h 1,o.v 0,v0,w1,r];refine⟨fun h=>out (by unfold tu;rw[aa8 d,ab9 h.2]),fun h=>⟨rfl,⟨e,_,R,a,c,mF,rfl,rfl,f,i,Or.inr (Or.inr rfl),rfl⟩,fun q2 t ⟨u,n,_⟩=>?_⟩⟩;have j:gi c≠oI:=fun e=>h ⟨d,e⟩;have r2:=Jk f i (Or.inr (Or.inr rfl)) n;rw[r2];exact⟨fun h=>out (by unfold tu;rw[aa8 d,aa8 j,ab9 h.2]),fun h=>out (by unfold tu;rw[aa8 d,aa8 j,aa8 fun e=>h ⟨d,e⟩])⟩
end Go.Proofs.YtbdikjnpbnobcaaGreatDoor
namespace Go.Sx
open Go
def Lh {A B C D:Hl} (h1:A.bq B) (a:A.bq C) (b:A.bq D) (c:B.bq C) (d:B.bq D) (e:C.bq D):A.le (bY [A,B,C,D])/\B.le (bY [A,B,C,D])/\C.le (bY [A,B,C,D])/\D.le (bY [A,B,C,D]):=by
 obtain⟨r1,r2,f⟩:=Em c d e;have hd:A.bq (bY [B,C,D]):=by
  show A.bq (B.un (C.un (D.un Hl.none)));exact Hl.Al h1 (Hl.Al a (Hl.Al b (Hl.Ak _)))
 have hr:(bY [B,C,D]).le (bY [A,B,C,D]):=Hl.bg hd;exact⟨Hl.aV _ _,fun k o h=>hr k o (r1 k o h),fun k o h=>hr k o (r2 k o h),fun k o h=>hr k o (f k o h)⟩
def pz.mono {R R':Hl} (hl:R.le R') {u:Value} {bs:List Int} (h:pz R u bs):pz R' u bs:=by
 obtain⟨x,y,c,hv,hy,h⟩:=h;refine⟨x,y,c,hv,hy,h.imp id fun⟨h0,h⟩=>⟨h0,fun j z hz=>?_⟩⟩;have:=h j z hz;unfold Hl.cell at this ⊢;split at this
 .rename_i o c' T fr ho;rw[hl _ _ ho];exact this
 .cases this
end Go.Sx
namespace Go.Proofs.YtbdikjnpbnobcaaGreatDoor.D
open Go Go.Sx
variable {D:DM}{F H H' R R':Hl}{frm n:Int}{L L':LM}{K:List Hl}{b bs bs' nt:List Int}{dp dp' p u v:Value}
def qF (H:Hl) (p dp:Value) (L:LM) (bs:List Int):Prop:=∃ sl,fM H p dp sl L/\pz H sl bs
def qF.mono (hl:R.le R') (h:qF R p dp L bs):qF R' p dp L bs:=by
 obtain⟨sl,h1,a⟩:=h;exact⟨sl,fM.mono h1 hl,pz.mono hl a⟩
def eJ.rd (h:eJ H p dp L bs):qF H p dp L bs:=h.parts
def qF.uniq (h:qF H p dp L bs) (h':qF H p dp' L' bs'):dp=dp'/\L=L'/\bs=bs':=by
 obtain⟨sl,h1,c⟩:=h;obtain⟨sl',a,b⟩:=h';obtain⟨e1,rfl,d⟩:=h1.uniq a;exact⟨e1,d,c.uniq b⟩
def EZ (d:aE H dp D) (hp:mX.post [dp] [H] [] v [H'] F):aE H' dp D/\v=.int .i64 D.n:=by
 obtain⟨g,h,D',i,hx,c,a,b,f,hv⟩:=hp;simp only[aae,abw]at hx c b;subst hx c;have e:=a.uniq d
 grind
def De (f:aE H dp D) (hp:yu.post [dp,.int .i64 frm,.int .i64 n] [H] [] v [H'] F) :
 ∃ b,aE H' dp D/\v=.tuple #[b,.int .i64 (kP D frm n)]/\(kP D frm n=0->eJ F b dp (kQ D frm n) (lP D frm n))/\(kP D frm n≠0->b=.pointer none):=by
 obtain⟨dp',a,n',g,D',h,b,hx,c,d,i,j,hv,hl⟩:=hp;have hx:dp=dp'/\frm=a/\n=n':=by simpa using hx
 obtain⟨e1,k,l⟩:=hx;subst e1 k l;have c:H=g:=by simpa using c
 subst c;have e:=d.uniq f
 grind
def FE {HD:Hl} (h1:eJ H p dp L bs) (l:aE HD dp D) (m:fE R u b) (hp:sj.post [p,u,.agg (aS nt).toArray] [H,HD] [R] v K F) :
 ∃ H' a,K=[H',a]/\aE a dp (bp D L bs b nt).D/\eJ H' p dp (bp D L bs b nt).L (bp D L bs b nt).bs/\v=.int .i64 (bp D L bs b nt).e:=by
 obtain⟨n,u',b',nt',o,f,q,dp',L',bs',D',H',a,hx,g,h,i,j,k,hK,r,s,hv⟩:=hp;have hx:p=n/\u=u'/\aS nt=aS nt':=by simpa using hx
 obtain⟨e1,c,d⟩:=hx;have d:=lQ d;subst e1 c d;have g:H=o/\HD=f:=by simpa using g
 obtain⟨e1,c⟩:=g;subst e1 c;have h:R=q:=by simpa using h
 subst h;obtain⟨e1,c,d⟩:=i.uniq h1;subst e1 c d;have e:=j.uniq l;subst e;have e:=k.uniq m
 grind
def CG (h:qF H p dp L bs) (hb:bs.length<=1048576):bU.pre [p] [] [H,H]:=by
 obtain⟨sl,h1,a⟩:=h;exact⟨p,H,H,dp,sl,L,bs,rfl,rfl,h1,a,hb⟩
def Ac (h:qF H p dp L bs) (hp:bU.post [p] [] [H,H] v K F):c9 F 5 v bs:=by
 obtain⟨sl,h1,f⟩:=h;obtain⟨g,R1,R2,dp',sl',L',bs',hx,a,b,c,j⟩:=hp;have hx:p=g:=by simpa using hx
 subst hx;have a:H=R1/\H=R2:=by simpa using a
 obtain⟨e1,d⟩:=a;subst e1 d;obtain⟨e1,d,i⟩:=b.uniq h1;subst e1 d i;have e:=c.uniq f
 grind
def RQ (h:qF H p dp L bs) (hb:bs.length<=1048576):yB.pre [p] [] [H]:=by
 obtain⟨sl,h1,a⟩:=h;exact⟨p,H,dp,sl,L,bs.length,rfl,rfl,h1,pz.uO a,hb⟩
def N9 (h:qF H p dp L bs) (hp:yB.post [p] [] [H] v K F):v=.int .i64 (L.most-bs.length):=by
 obtain⟨sl,h1,c⟩:=h;obtain⟨d,R1,dp',sl',L',n',hx,a,b,hs,hv⟩:=hp;have hx:p=d:=by simpa using hx
 subst hx;have a:H=R1:=by simpa using a
 subst a;obtain⟨e1,f,g⟩:=b.uniq h1;subst e1 f g;have e:=hs.uniq (pz.uO c)
 grind
def Nu (h:qF H p dp L bs):qX.pre [p] [] [H]:=by
 obtain⟨sl,h1,a⟩:=h;exact⟨p,H,dp,sl,L,rfl,rfl,h1⟩
def Jo (h:qF H p dp L bs) (hp:qX.post [p] [] [H] v K F):v=.agg (aS L.note).toArray:=by
 obtain⟨sl,h1,d⟩:=h;obtain⟨c,R1,dp',sl',L',hx,a,b,hv⟩:=hp;have hx:p=c:=by simpa using hx
 subst hx;have a:H=R1:=by simpa using a
 subst a;obtain⟨e1,e,f⟩:=b.uniq h1
 grind
def wb (a:D.ok) (hn:3<=n/\n<=16384):((lP D frm n).length:Int)<=64*(n-2):=by
 have hm:0<=64*(n-2):=ah;have h0:=(pT a frm hm 0).2;have h1:=(pT a frm hm 1).2;have hs:(kQ D frm n).size<=64*(n-2):=by
  show(qz D frm n).getD 1 0<=_;unfold qz;split
  .exact h1
  .exact h0
 unfold lP zk;rw[ace];omega
end Go.Proofs.YtbdikjnpbnobcaaGreatDoor.D
namespace Go.Proofs.YtbdikjnpbnobcaaGreatDoor
open Go Go.Sx Go.Pk
open Go.Proofs.YtbdikjnpbnobcaaGreatDoor.D hiding aM aA fe
variable {J q:Env}{F H R R' RA:Hl}{L:LM}{rows:List (List Int)}{Hs K Rs:List Hl}{bs:List Int}{a n:Nat}{dp dp' p pa pb sl u v w:Value}
def Lb (h:qF H p dp L bs):Na.pre [p] [] [H]:=by
 obtain⟨sl,h1,a⟩:=h;exact⟨p,H,dp,sl,L,rfl,rfl,h1⟩
def Gi (h:qF H p dp L bs) (hp:Na.post [p] [] [H] v K F):v=.int .u64 (uk L):=by
 obtain⟨sl,h1,d⟩:=h;obtain⟨c,R1,dp',sl',L',hx,a,b,hv⟩:=hp;have hx:p=c:=by simpa using hx
 subst hx;have a:H=R1:=by simpa using a
 subst a;obtain⟨e1,e,f⟩:=b.uniq h1
 grind
def B7 (h:fE R u bs) (hp:xH.post [u] [] [R] v K F):bT F v (jL bs):=by
 obtain⟨u',bs',R',e1,b,a,c⟩:=hp;simp only[aae,abw]at e1 b;subst e1 b;rw[h.uniq a];exact c
structure SM where
 LA:LM
 bA:List Int
 LB:LM
 bB:List Int
 recs:List (List Int)
 over:Bool
variable {S S':SM}
def On (a:Nat) (pa pb sl:Value) (o:Bool):Hl:=Hl.one a (.cells #[pa,pb,sl,.bool o] 140 (0,0))
structure S4 (H:Hl) (a:Nat) (dp pa pb sl:Value) (HA HB HR:Hl) (S:SM):Prop where
 la:eJ HA pa dp S.LA S.bA
 lb:eJ HB pb dp S.LB S.bB
 rows:bT HR sl S.recs
 d1:(On a pa pb sl S.over).bq HA
 d2:(On a pa pb sl S.over).bq HB
 d3:(On a pa pb sl S.over).bq HR
 d4:HA.bq HB
 d5:HA.bq HR
 d6:HB.bq HR
 hl:H=bY [On a pa pb sl S.over,HA,HB,HR]
def jt (H:Hl) (p dp:Value) (S:SM):Prop:=∃ (a:Nat) (pa pb sl:Value) (HA HB HR:Hl),p=.pointer (some ⟨a,0,none⟩)/\S4 H a dp pa pb sl HA HB HR S
structure DL (H:Hl) (a:Nat) (dp pa pb sl:Value) (S:SM):Prop where
 bc:H a=some (.cells #[pa,pb,sl,.bool S.over] 140 (0,0))
 la:qF H pa dp S.LA S.bA
 lb:qF H pb dp S.LB S.bB
 rows:bT H sl S.recs
def nM (H:Hl) (p dp:Value) (S:SM):Prop:=∃ (a:Nat) (pa pb sl:Value),p=.pointer (some ⟨a,0,none⟩)/\DL H a dp pa pb sl S
def jt.rd (h:jt H p dp S):nM H p dp S:=by
 obtain⟨a,pa,pb,sl,HA,HB,HR,hp,h⟩:=h;obtain⟨b,c,d,e⟩:=Lh h.d1 h.d2 h.d3 h.d4 h.d5 h.d6;rw[<-h.hl]at b c d e;exact⟨a,pa,pb,sl,hp,b _ _ (Hl.aK _ _),h.la.rd.mono c,h.lb.rd.mono d,h.rows.mono e⟩
def nM.mono (hl:R.le R') (h:nM R p dp S):nM R' p dp S:=by
 obtain⟨a,pa,pb,sl,hp,h⟩:=h;exact⟨a,pa,pb,sl,hp,hl _ _ h.bc,h.la.mono hl,h.lb.mono hl,h.rows.mono hl⟩
def nM.uniq (h:nM H p dp S) (h':nM H p dp' S'):dp=dp'/\S=S':=by
 obtain⟨a,pa,pb,sl,rfl,h⟩:=h;obtain⟨a',b,c,sl',hp,h'⟩:=h';have e:a=a':=by simpa using hp
 subst e;have hb:=h.bc.symm.trans h'.bc;simp only[aa3,Obj.cells.injEq,acp,aae,Value.bool.injEq,abw]at hb;obtain⟨rfl,rfl,rfl,d⟩:=hb;obtain⟨e1,f,g⟩:=h.la.uniq h'.la;obtain⟨_,i,j⟩:=h.lb.uniq h'.lb;have k:=h.rows.uniq h'.rows;refine⟨e1,?_⟩;obtain⟨x1,l,m,n,o,q⟩:=S;simp_all
def gr (D:DM):Int:=if D.n/2<3 then 1 else if D.gone then 5 else 0
def uB (D:DM):LM:=kQ D 0 ((D.n/2:Nat):Int)
def pS (D:DM):List Int:=lP D 0 ((D.n/2:Nat):Int)
def mH (D:DM):LM:=kQ D ((D.n/2:Nat):Int) ((D.n/2:Nat):Int)
def jQ (D:DM):List Int:=lP D ((D.n/2:Nat):Int) ((D.n/2:Nat):Int)
def mkS (A:LM) (bA:List Int) (B:LM) (bB:List Int):SM:=⟨A,bA,B,bB,jL bA,false⟩
def jI (D:DM):SM:=if uk (uB D)<uk (mH D)then mkS (mH D) (jQ D) (uB D) (pS D)else mkS (uB D) (pS D) (mH D) (jQ D)
def xF:Sx.Spec where
 fn:=27
 own:=[.arg 0]
 rd:=[]
 res:=[.one .ptr,.one (.int .i64)]
 links:=[0]
 pre:=fun xs Hs Rs=>∃ dp H D,xs=[dp]/\Hs=[H]/\aE H dp D/\al (pS D)/\al (jQ D)
 post:=fun xs Hs Rs v Hs' F=>∃ dp H D H' a,xs=[dp]/\Hs=[H]/\aE H dp D/\Hs'=[H']/\aE H' dp D/\v=.tuple #[a,.int .i64 (gr D)]/\(gr D=0->jt F a dp (jI D))/\(gr D≠0->a=.pointer none)
def soΓ:List Sx.Spec:=[mX,yu,Na,bU,xH]
def YR:∀ t∈soΓ,t.OK Tryz.prog:=ak yG <| ak Q3 <| ak TN <| ak CF <| ak OC <| bu
def BZ:aD Tryz.prog soΓ xF.fn where
 Λ:=aA
 args:=[TP (.var 0) (.lit 0)]
 mem:=[.hp 1 [] [.var 0] []]
 nv:=2
def aeV:mX.res=[.one (.int .i64)]:=rfl
def aeW:yu.res=[.one .ptr,.one (.int .i64)]:=rfl
def aeX:Na.res=[.one (.int .u64)]:=rfl
def aeY:bU.res=[.one .sl]:=rfl
def aeZ:xH.res=[.one .sl]:=rfl
def rpi (n:Nat):(aL n [Cp.one .ptr,Cp.one (.int .i64)]≠[])=True:=by simp [aL,Cp.roots,Ck.root]
def CS (h:n<=16384):IntKind.i64.wrap ((n:Int).tdiv 2)=((n/2:Nat):Int):=by
 have e:(n:Int).tdiv 2=((n/2:Nat):Int):=rfl;rw[e];exact wrap_i64 ah ah
set_option maxRecDepth 4000 in
def Ox:xF.OK Tryz.prog:=by
 refine Spec.cM (Γ:=soΓ) YR ?_;rintro xs Hs Rs aL ad ⟨dp,H,D,rfl,rfl,N,ae,af⟩;have e1:Rs=[]:=aa1.1 ad;subst e1;obtain⟨da,s,m,es,clock,O,P⟩:=id N;have Q:=P.ok.n;have hok:=P.ok;refine⟨BZ,aM [(da:Int)] false [Hl.none,H],fun _ _=>True,fun _ _=>0,?_,⟨?_,?_,?_,?_⟩,(fun _ h=>nomatch h),?_⟩
 .show [Value.pointer (au (da:Int) 0)]=_;rw[ft,O]
 .intro r hr ho;simp [BZ]at hr;subst hr;exact⟨H,aC,Hl.le_refl _⟩
 .intro r hr ho;simp [BZ]at hr;subst hr;cases ho
 .simp [BZ]
 .intro r hr;simp [BZ]at hr;subst hr;trivial
 .refine aD.read [] [] [] ?_;generalize R:aM [(da:Int)] false [Hl.none,H]=J;obtain⟨⟨v0,_⟩,_,w1,_⟩:=jn R;clear R;have ep:Value.pointer (au (da:Int) 0)=dp:=by rw[ft,O]
  have bad:∀ (q:Env) (k:Nat) (vs:List Nat) (t:Mem) (x:E) (e:Int),aE (q.h k) dp D->aw q x=e->gr D=e->e≠0 ->
   postOf xF [dp] [H] [] q (.hp k vs [.var 0] []::t) (.tup [.one (.hptr (.lit (-1)) (.lit 0)),.one (.int .i64 x)]):=by
   intro q k vs t x e hq hx he S _;refine⟨[[0]],[],rfl,rfl,⟨(ba fun j=>[-1,0,e].getD j 0),?_,⟨by grind,aba _⟩,zzT,zzT⟩,dp,H,D,_,.pointer none,rfl,rfl,N,rfl,?_,?_,fun h=>absurd (he.symm.trans h) S,fun _=>rfl⟩
   .subst hx;rfl
   .show aE (bY [q.h k]) _ _;rw[aJ];exact hq
   .rw[he,<-hx];rfl
  simp only[go_sem,Nat.reduceAdd,soΓ,aeV,aeW,aeX,aeY,aeZ,Om,YJ,rpi,Li];rw[v0,w1,ep];refine⟨⟨dp,H,D,rfl,rfl,N⟩,fun q1 g1 ⟨F1,ag,_⟩=>?_⟩;obtain⟨z,o⟩:=EZ N ag;have o:q1.i 2=D.n:=by simpa using o
  rw[o,CS Q,g1.i 0,v0,ep];refine⟨fun T=>bad q1 2 _ _ _ 1 z (aq _ _) (by unfold gr;grind) az,fun U=>?_⟩;have aN:3<=D.n/2:=ah;have hE:gr D=if D.gone then 5 else 0:=by unfold gr;grind
  have aj:kP D 0 ((D.n/2:Nat):Int)=if D.gone then 5 else 0:=by unfold kP;grind
  have ak:kP D ((D.n/2:Nat):Int) ((D.n/2:Nat):Int)=if D.gone then 5 else 0:=by unfold kP;grind
  have V:3<=((D.n/2:Nat):Int)/\((D.n/2:Nat):Int)<=16384:=ah;refine⟨⟨dp,_,_,_,D,rfl,rfl,z⟩,fun q2 g2 ⟨F2,al,an,aO⟩=>?_⟩;obtain⟨pA,A,W,hA,_⟩:=De z al;simp only[Value.tuple.injEq,acp,aae,Value.int.injEq,acu,abw]at W;obtain⟨eA,e6⟩:=W;have G2:ai 2 J q2:=g1.tr g2;have ao:q2.i 2=D.n:=by rw[g2.i 2,o]
  rw[ao,CS Q,G2.i 0,v0,ep];refine⟨fun S=>bad q2 4 _ _ _ 5 A (by rw[ar,e6,aj,ab9];grind) (by grind) az,fun heq=>?_⟩;have f:D.gone=false:=by
   cases hg:D.gone with
   | false=>rfl
   | true=>grind
  have hA:eJ F2 pA dp (uB D) (pS D):=hA (by grind);rw[<-eA,<-an zzT]at hA;refine⟨⟨dp,_,_,_,D,rfl,rfl,A⟩,fun q3 g3 ⟨F3,ax,ay,aK⟩=>?_⟩;obtain⟨pB,aA,X,hB,_⟩:=De A ax;simp only[Value.tuple.injEq,acp,aae,Value.int.injEq,acu,abw]at X;obtain⟨eB,e9⟩:=X;have e9:q3.i 9=0:=by rw[e9,ak,f];rfl
  have hB:eJ F3 pB dp (mH D) (jQ D):=hB (by grind);rw[<-eB,<-ay zzT]at hB;refine⟨fun h=>absurd e9 h,fun _=>⟨Lb hB.rd,fun Y g4 ⟨F4,aB,_⟩=>?_⟩⟩;have aF:Y.i 10=uk (mH D):=by simpa using Gi hB.rd aB
  have G4:ai 7 q2 Y:=g3.tr g4;have B:eJ (Y.h 5) (.pointer (au (Y.i 4) (Y.i 5))) dp (uB D) (pS D):=by
   rw[G4.h 5,G4.i 4,G4.i 5];exact hA
  refine⟨Lb B.rd,fun d Z ⟨F5,aG,_⟩=>?_⟩;have aH:d.i 11=uk (uB D):=by simpa using Gi B.rd aG
  have aa:d.i 10=uk (mH D):=by rw[Z.i 10,aF]
  have p:eJ (d.h 5) (.pointer (au (d.i 4) (d.i 5))) dp (uB D) (pS D):=by
   rw[Z.h 5,Z.i 4,Z.i 5];exact B
  have u:ai 10 q3 d:=g4.tr Z;have v:eJ (d.h 8) (.pointer (au (d.i 7) (d.i 8))) dp (mH D) (jQ D):=by
   rw[u.h 8,u.i 7,u.i 8];exact hB
  have ab:aE (d.h 7) dp D:=by rw[u.h 7];exact aA
  have aP:((pS D).length:Int)<=_:=wb hok (frm:=0) V;have aQ:((jQ D).length:Int)<=_:=wb hok (frm:=((D.n/2:Nat):Int)) V;rw[aH,aa];have y:gr D=0:=by rw[hE,f];rfl
  refine⟨fun T=>⟨CG v.rd ah,fun q6 g6 ⟨F6,C,F,aI⟩=>?_⟩,fun U=>⟨CG p.rd ah,fun q6 g6 ⟨F6,C,F,aI⟩=>?_⟩⟩
  .have hO:=Ac v.rd C;rw[<-F zzT]at hO;have g:=hO.rd.w;refine⟨⟨_,_,_,rfl,rfl,g,af,ah⟩,fun q7 g7 ⟨F7,G,I,l⟩ a c p8 hd=>?_⟩;have hW:=B7 g G;rw[<-I zzT]at hW;have b:ai 12 d a:=g6.trans ((g7.tr c).mono ah);have l:-1<=q7.i 16/\0<=q7.i 17/\0<=q7.i 18/\0<=q7.i 19:=l.1;refine⟨[[0]],[5,2,1,4],rfl,rfl,⟨(ba fun j=>[a.i 20,0,0].getD j 0),rfl,⟨by grind,aba _⟩,zzT,zzT⟩,dp,H,D,_,Value.pointer (au (a.i 20) 0),rfl,rfl,N,rfl,?_,?_,fun _=>?_,fun h=>absurd y h⟩
   .show aE (bY [a.h 7]) _ _;rw[aJ,b.h 7];exact ab
   .rw[y];rfl
   .unfold jI;rw[ab9 T];have K:bT (a.h 16) (.slice (au (a.i 16) (a.i 17)) (a.i 18).toNat (a.i 19).toNat) (jL (jQ D)):=by
     rw[c.h 16,c.i 16,c.i 17,c.i 18,c.i 19];exact hW
    have L:eJ (a.h 5) (.pointer (au (a.i 4) (a.i 5))) dp (uB D) (pS D):=by
     rw[b.h 5,b.i 4,b.i 5];exact p
    have M:eJ (a.h 8) (.pointer (au (a.i 7) (a.i 8))) dp (mH D) (jQ D):=by
     rw[b.h 8,b.i 7,b.i 8];exact v
    exact⟨(a.i 20).toNat,_,_,_,_,_,_,by rw[av p8];rfl,⟨M,L,K,hd 5 2 _ _ az rfl rfl rfl,hd 5 1 _ _ az rfl rfl rfl,hd 5 4 _ _ az rfl rfl rfl,hd 2 1 _ _ az rfl rfl rfl,hd 2 4 _ _ az rfl rfl rfl,hd 1 4 _ _ az rfl rfl rfl,rfl⟩⟩
  .have hO:=Ac p.rd C;rw[<-F zzT]at hO;have g:=hO.rd.w;refine⟨⟨_,_,_,rfl,rfl,g,ae,ah⟩,fun q7 g7 ⟨F7,G,I,l⟩ a c p8 hd=>?_⟩;have hW:=B7 g G;rw[<-I zzT]at hW;have b:ai 12 d a:=g6.trans ((g7.tr c).mono ah);have l:-1<=q7.i 16/\0<=q7.i 17/\0<=q7.i 18/\0<=q7.i 19:=l.1;refine⟨[[0]],[5,1,2,4],rfl,rfl,⟨(ba fun j=>[a.i 20,0,0].getD j 0),rfl,⟨by grind,aba _⟩,zzT,zzT⟩,dp,H,D,_,Value.pointer (au (a.i 20) 0),rfl,rfl,N,rfl,?_,?_,fun _=>?_,fun h=>absurd y h⟩
   .show aE (bY [a.h 7]) _ _;rw[aJ,b.h 7];exact ab
   .rw[y];rfl
   .unfold jI;rw[aa8 U];have K:bT (a.h 16) (.slice (au (a.i 16) (a.i 17)) (a.i 18).toNat (a.i 19).toNat) (jL (pS D)):=by
     rw[c.h 16,c.i 16,c.i 17,c.i 18,c.i 19];exact hW
    have L:eJ (a.h 5) (.pointer (au (a.i 4) (a.i 5))) dp (uB D) (pS D):=by
     rw[b.h 5,b.i 4,b.i 5];exact p
    have M:eJ (a.h 8) (.pointer (au (a.i 7) (a.i 8))) dp (mH D) (jQ D):=by
     rw[b.h 8,b.i 7,b.i 8];exact v
    exact⟨(a.i 20).toNat,_,_,_,_,_,_,by rw[av p8];rfl,⟨L,M,K,hd 5 1 _ _ az rfl rfl rfl,hd 5 2 _ _ az rfl rfl rfl,hd 5 4 _ _ az rfl rfl rfl,hd 1 2 _ _ az rfl rfl rfl,hd 1 4 _ _ az rfl rfl rfl,hd 2 4 _ _ az rfl rfl rfl,rfl⟩⟩
def RF (o:Bool) (rows:List (List Int)) (e:Int):Prop:=(o=true->e=5)/\(o=false->jC rows->e=0)/\(o=false->¬jC rows->e=3)
def BK:Sx.Spec where
 fn:=156
 own:=[]
 rd:=[0,1,3000001]
 res:=[.one .sl,.one (.int .i64)]
 pre:=fun xs Hs Rs=>∃ p v a o R R1 RA rows,xs=[p,v]/\Rs=[R,R1,RA]/\p=.pointer (some ⟨a,0,none⟩)/\R.cell a 3=some (.bool o)/\kv R1 RA v rows/\rows.length<=1000000/\∀ r∈rows,0<=r.length
 post:=fun xs Hs Rs w Hs' F=>∃ p v a o R R1 RA rows u e,xs=[p,v]/\Rs=[R,R1,RA]/\p=.pointer (some ⟨a,0,none⟩)/\R.cell a 3=some (.bool o)/\kv R1 RA v rows/\w=.tuple #[u,.int .i64 e]/\RF o rows e/\(e=0->c9 F 5 u (bM rows))
def JV {o:Bool} {R1:Hl} (h1:R.cell a 3=some (.bool o)) (d:kv R1 RA v rows) (hp:BK.post [.pointer (some ⟨a,0,none⟩),v] [] [R,R1,RA] w K F) :
 ∃ u e,w=.tuple #[u,.int .i64 e]/\RF o rows e/\(e=0->c9 F 5 u (bM rows)):=by
 obtain⟨s,v',a',o',R',f,g,b,u,e,e1,c,h,i,j,hw,k,l⟩:=hp;simp only[aae,abw]at e1 c;obtain⟨m,ev⟩:=e1;obtain⟨x1,n,p⟩:=c;subst m ev x1 n p;have q:a=a':=by simpa using h
 subst q;have r:o=o':=by simpa using h1.symm.trans i
 subst r;obtain rfl:=d.uniq j;exact⟨u,e,hw,k,l⟩
def Hb (c:kv R RA v rows) (hp:wm.post [v] [] [R,RA] w K F) :
 ∃ u e,w=.tuple #[u,.int .i64 e]/\(jC rows->e=0/\c9 F 5 u (bM rows))/\(¬jC rows->e=3):=by
 obtain⟨v',R',d,a,u,e,e1,b,f,hw,g,h⟩:=hp;simp only[aae,abw]at e1 b;obtain⟨i,j⟩:=b;subst e1 i j;obtain rfl:=c.uniq f;exact⟨u,e,hw,g,h⟩
def RE:List Sx.Spec:=[wm]
def UQ:∀ t∈RE,t.OK Tryz.prog:=fun t a=>by
 simp only[RE,aaW,abd,acs]at a;rw[a];exact JN
def BL:aD Tryz.prog RE BK.fn where
 Λ:=aA
 args:=[TP (.var 0) (.lit 0),.sv (.one (.sl (.var 1) (.var 2) (.var 3) (.var 4)))]
 mem:=[.ro 5 [.var 0] false,.ro 6 [.var 1] false,.ro 7 [] true]
 nv:=8
def aes:wm.res=[.one .sl,.one (.int .i64)]:=rfl
open Classical in
def N3:BK.OK Tryz.prog:=by
 refine Spec.jN (Γ:=RE) UQ rfl ?_;rintro xs Rs ⟨p,v,a,o,R,R1,RA,rows,rfl,rfl,rfl,g,hB,hlen,aG⟩;obtain⟨us,x,y,c,rfl,hy,s,k,t⟩:=id hB;refine⟨BL,aM [(a:Int),x,y,us.length,c] false [Hl.none,Hl.none,Hl.none,Hl.none,Hl.none,R,R1,RA],fun _ _=>True,fun _ _=>0,?_,⟨?_,?_,?_,?_⟩,rfl,?_⟩
 .show [Value.pointer (au (a:Int) 0),Value.slice (au x y) ((us.length:Int)).toNat ((c:Int)).toNat]=_;rw[aac,aac,ft]
 .intro r hr ho;simp [BL]at hr;rcases hr with rfl | rfl | rfl<;>cases ho
 .intro r hr ho;simp [BL]at hr;rcases hr with rfl | rfl | rfl
  .exact⟨R,aC,Hl.le_refl _⟩
  .exact⟨R1,aC,Hl.le_refl _⟩
  .exact⟨RA,aC,Hl.le_refl _⟩
 .simp [BL,bo.own]
 .intro r hr;simp [BL]at hr;rcases hr with rfl | rfl | rfl<;>trivial
 .refine aD.read [] [] [] ?_;generalize b:aM [(a:Int),x,y,us.length,c] false [Hl.none,Hl.none,Hl.none,Hl.none,Hl.none,R,R1,RA]=J;obtain⟨⟨v0,v1,v2,w,v4,_⟩,_,_,_,_,_,z,w6,w7,_⟩:=jn b;clear b;have t3:Int.toNat 3=3:=rfl;simp only[go_sem,Nat.reduceAdd,RE,aes,rsi,t3];rw[v0,v1,v2,w,v4,z,w6,w7,aac,aac,aac,g];refine⟨ah,rfl,fun ho _=>?_,fun ho=>⟨⟨_,R1,RA,rows,rfl,rfl,hB,hlen,aG⟩,fun q1 B ⟨C,l,m,n⟩ _=>?_⟩⟩
  .have ho:o=true:=ho;refine⟨[],[],rfl,rfl,⟨(ba fun j=>[-1,0,0,0,5].getD j 0),rfl,⟨aba _,aba _,aba _,aba _⟩,zzT,zzT⟩,_,_,a,o,R,R1,RA,rows,.slice none 0 0,5,rfl,rfl,rfl,g,hB,rfl,⟨fun _=>rfl,fun h=>absurd (ho.symm.trans h) aC,fun h=>absurd (ho.symm.trans h) aC⟩,fun h=>absurd h az⟩
  .have ho:¬o=true:=ho;obtain⟨u,e,hw,d,f⟩:=Hb hB l;simp only[Value.tuple.injEq,acp,aae,Value.int.injEq,acu,abw]at hw;obtain⟨A,q⟩:=hw;have hn:-1<=q1.i 8/\0<=q1.i 9/\0<=q1.i 10/\0<=q1.i 11:=n.1;refine⟨[],[3],rfl,rfl,⟨(ba fun j=>[q1.i 8,q1.i 9,q1.i 10,q1.i 11,q1.i 12].getD j 0),rfl,hn,zzT,zzT⟩,_,_,a,o,R,R1,RA,rows,.slice (au (q1.i 8) (q1.i 9)) (q1.i 10).toNat (q1.i 11).toNat,q1.i 12,rfl,rfl,rfl,g,hB,rfl,⟨fun h=>absurd h ho,fun _ h=>?_,fun _ h=>?_⟩,fun h=>?_⟩
   .rw[q];exact(d h).1
   .rw[q];exact f h
   .show c9 (bY [q1.h 8]) _ _ _;rw[aJ,m trivial,A];by_cases hk:jC rows
    .exact(d hk).2
    .have:=f hk;omega
def bT.rep (h:bT F v rows):∃ (x:Int) (c:Nat),-1<=x/\v=.slice (au x 0) rows.length c:=by
 obtain⟨us,ho,_⟩:=h;rcases ho.2 with ⟨h,hn⟩ | ⟨g,cap,cur,h,_⟩
 .exact⟨-1,0,ah,by rw[dr,hn];exact h⟩
 .exact⟨g,cap,ah,by trivial⟩
structure AdR where
 e:Int
 D:DM
 S:SM
def Iz (D:DM) (S:SM) (rows:List (List Int)) (r:AR):AdR :=
 ⟨tu r.e,r.D,⟨r.L,r.bs,S.LB,S.bB,if tu r.e=0 then S.recs++rows else S.recs,if r.e≠0/\gi r.e=qx then true else S.over⟩⟩
open Classical in
noncomputable def dt (D:DM) (S:SM) (rows:List (List Int)):AdR :=
 if S.over=true then⟨5,D,S⟩
 else if ¬jC rows then⟨3,D,S⟩
 else if rows=[]then⟨0,D,S⟩
 else if S.LA.most-S.bA.length<(bM rows).length then⟨4,D,S⟩
 else Iz D S rows (bp D S.LA S.bA (bM rows) S.LA.note)
noncomputable def IA:Sx.Spec where
 fn:=113
 own:=[.arg 0,.link 0 0]
 rd:=[1,3000001,2000003]
 res:=[.one (.int .i64)]
 pre:=fun xs Hs Rs=>∃ p v H HD R RA RG g dp S D rows,xs=[p,v]/\Hs=[H,HD]/\Rs=[R,RA,RG]/\jt H p dp S/\aE HD dp D/\kv R RA v rows/\Gl RG g/\rows.length<=1000000/\(∀ r∈rows,0<=r.length)/\S.bA.length<=1048576/\0<=S.LA.serial/\S.recs.length<=1000000000
 post:=fun xs Hs Rs w Hs' F=>∃ p v H HD R RA RG dp S D rows H' a,xs=[p,v]/\Hs=[H,HD]/\Rs=[R,RA,RG]/\jt H p dp S/\aE HD dp D/\kv R RA v rows/\Hs'=[H',a]/\aE a dp (dt D S rows).D/\jt H' p dp (dt D S rows).S/\w=.int .i64 (dt D S rows).e
def UZ (h:Value.int .i64 (q.i n)=.int .i64 (L.most-bs.length)):q.i n=L.most-bs.length:=by simpa using h
noncomputable def adΓ:List Sx.Spec:=[BK,yB,qX,sj,Ci,Zf,sH,zl]
def Wh:∀ t∈adΓ,t.OK Tryz.prog:=ak N3 <| ak HF <| ak CY <| ak ID <| ak Ip <| ak Qy <| ak JC <| ak Ag <| bu
noncomputable def O1:aD Tryz.prog adΓ IA.fn where
 Λ:=fun p=>if QI p then some ⟨0,[(51,TI .i64 (.var 60))],[(0,.bc 0 [.hptr (.var 5) (.lit 0),.hptr (.var 6) (.lit 0),.sl (.var 61) (.lit 0) (.var 62) (.var 63),.bool (.bvar 65)] 140),(3,.hp 64 [] [.var 61] [])],66⟩else none
 args:=[TP (.var 0) (.lit 0),.sv (.one (.sl (.var 1) (.var 2) (.var 3) (.var 4)))]
 mem:=[.bc 0 [.hptr (.var 5) (.lit 0),.hptr (.var 6) (.lit 0),.sl (.var 7) (.lit 0) (.var 8) (.var 9),.bool (.bvar 10)] 140,.hp 12 [] [.var 5] [.var 11],.hp 13 [] [.var 6] [.var 11],.hp 14 [] [.var 7] [],.hp 15 [] [.var 11] [],.ro 16 [.var 1] false,.ro 17 [] true,.ro 18 [.lit 3,.lit 4,.lit 5] false]
 nv:=19
def acY:BK.res=[.one .sl,.one (.int .i64)]:=rfl
def acZ:yB.res=[.one (.int .i64)]:=rfl
def ac0:qX.res=[.agg (uX 16)]:=rfl
def ac2:sj.res=[.one (.int .i64)]:=rfl
def ac3:Ci.res=[.one .any]:=rfl
def ac4:Zf.res=[.one .bool]:=rfl
def ac5:sH.res=[.one (.int .i64)]:=rfl
def Zo:zl.res=[.one .sl]:=rfl
set_option maxRecDepth 8000 in
def S6:IA.OK Tryz.prog:=by
 refine kX (Γ:=adΓ) Wh ?_;rintro xs Hs Rs cx cy a4 ⟨p,v,H,HD,R,RA,RG,g,dp,S,D,rows,rfl,rfl,rfl,a5,hD,hB,hG,hlen,aG,a6,a7,bH⟩;obtain⟨a,pa,pb,sl,HA,HB,HR,rfl,hIn⟩:=id a5;obtain⟨us,x,y,c,rfl,hy,aA,aB,bI⟩:=id hB;obtain⟨da,s,m,es,clock,cz,cA⟩:=id hD;obtain⟨rx,rc,bJ,N⟩:=hIn.rows.rep;obtain⟨aa,_,_,bK,_⟩:=id hIn.la;obtain⟨ab,_,_,bL,_⟩:=id hIn.lb;obtain⟨l1,l2,l3,l4⟩:=Lh hIn.d1 hIn.d2 hIn.d3 hIn.d4 hIn.d5 hIn.d6;rw[<-hIn.hl]at l1 l2 l3 l4;have bN:H.bq HD:=a4 0 1 _ _ az rfl rfl;generalize d:aM [(a:Int),x,y,us.length,c,aa,ab,rx,S.recs.length,rc,0,da] S.over [Hl.none,Hl.none,Hl.none,Hl.none,Hl.none,Hl.none,Hl.none,Hl.none,Hl.none,Hl.none,Hl.none,Hl.none,HA,HB,HR,HD,R,RA,RG]=J;have v0:J.i 0=a:=by rw[<-d];rfl
 have v1:J.i 1=x:=by rw[<-d];rfl
 have v2:J.i 2=y:=by rw[<-d];rfl
 have v3:J.i 3=us.length:=by rw[<-d];rfl
 have v4:J.i 4=c:=by rw[<-d];rfl
 have v5:J.i 5=aa:=by rw[<-d];rfl
 have v6:J.i 6=ab:=by rw[<-d];rfl
 have v7:J.i 7=rx:=by rw[<-d];rfl
 have v8:J.i 8=S.recs.length:=by rw[<-d];rfl
 have v9:J.i 9=rc:=by rw[<-d];rfl
 have v11:J.i 11=da:=by rw[<-d];rfl
 have b10:J.b 10=S.over:=by rw[<-d];rfl
 have ae:J.h 12=HA:=by rw[<-d];rfl
 have O:J.h 13=HB:=by rw[<-d];rfl
 have z:J.h 14=HR:=by rw[<-d];rfl
 have G:J.h 15=HD:=by rw[<-d];rfl
 have aF:J.h 16=R:=by rw[<-d];rfl
 have aH:J.h 17=RA:=by rw[<-d];rfl
 have af:J.h 18=RG:=by rw[<-d];rfl
 clear d;have ea:Value.pointer (au (aa:Int) 0)=pa:=by rw[ft,bK]
 have eb:Value.pointer (au (ab:Int) 0)=pb:=by rw[ft,bL]
 have ao:∀ (q:Env) (cs:CV) (o:E),q.i 0=a->q.i 5=aa->q.i 6=ab->(bo.bc 0 [.hptr (.var 5) (.lit 0),.hptr (.var 6) (.lit 0),cs,.bool o] 140).hl q=On a pa pb (cs.ev q) (aY q o):=by
  intro q cs o h0 h5 h6;show Hl.one (q.i 0).toNat (.cells #[Value.pointer (au (q.i 5) 0),Value.pointer (au (q.i 6) 0),cs.ev q,.bool (aY q o)] _ (0,0))=_;rw[h0,h5,h6,ea,eb,aac];rfl
 have e0:(bo.bc 0 [.hptr (.var 5) (.lit 0),.hptr (.var 6) (.lit 0),.sl (.var 7) (.lit 0) (.var 8) (.var 9),.bool (.bvar 10)] 140).hl J=On a pa pb sl S.over:=by
  rw[ao J _ _ v0 v5 v6,bn,b10]
  congr 1
  show Value.slice (au (J.i 7) 0) (J.i 8).toNat (J.i 9).toNat=_;rw[v7,v8,v9,aac,aac,N]
 refine⟨O1,J,fun _ q=>∃ k:Nat,q.i 60=k/\k<=rows.length/\ -1<=q.i 61/\0<=q.i 62/\0<=q.i 63/\q.b 65=false/\bT (q.h 64) (.slice (au (q.i 61) 0) (q.i 62).toNat (q.i 63).toNat) (S.recs++rows.take k),fun _ q=>(rows.length-q.i 60).toNat,?_,⟨?_,?_,?_,?_⟩,(fun _ h=>nomatch h),?_⟩
 .show [Value.pointer (au (J.i 0) 0),Value.slice (au (J.i 1) (J.i 2)) (J.i 3).toNat (J.i 4).toNat]=_;rw[v0,v1,v2,v3,v4,aac,aac,ft]
 .intro r hr ho;simp only[O1,aaW,abd,acs]at hr;rcases hr with rfl | rfl | rfl | rfl | rfl | rfl | rfl | rfl
  .exact⟨H,aC,by rw[e0];exact l1⟩
  .exact⟨H,aC,by show(J.h 12).le H;rw[ae];exact l2⟩
  .exact⟨H,aC,by show(J.h 13).le H;rw[O];exact l3⟩
  .exact⟨H,aC,by show(J.h 14).le H;rw[z];exact l4⟩
  .exact⟨HD,aC,by show(J.h 15).le HD;rw[G];exact Hl.le_refl _⟩
  .cases ho
  .cases ho
  .cases ho
 .intro r hr ho;simp only[O1,aaW,abd,acs]at hr;rcases hr with rfl | rfl | rfl | rfl | rfl | rfl | rfl | rfl
  .cases ho
  .cases ho
  .cases ho
  .cases ho
  .cases ho
  .exact⟨R,aC,by show(J.h 16).le R;rw[aF];exact Hl.le_refl _⟩
  .exact⟨RA,aC,by show(J.h 17).le RA;rw[aH];exact Hl.le_refl _⟩
  .exact⟨RG,aC,by show(J.h 18).le RG;rw[af];exact Hl.le_refl _⟩
 .have dD:∀ K:Hl,K.le H->K.bq HD:=fun K hK=>Hl.kE (Hl.Aj (Hl.kE bN) hK);have a8:O1.mem=[.bc 0 [.hptr (.var 5) (.lit 0),.hptr (.var 6) (.lit 0),.sl (.var 7) (.lit 0) (.var 8) (.var 9),.bool (.bvar 10)] 140,.hp 12 [] [.var 5] [.var 11],.hp 13 [] [.var 6] [.var 11],.hp 14 [] [.var 7] [],.hp 15 [] [.var 11] [],.ro 16 [.var 1] false,.ro 17 [] true,.ro 18 [.lit 3,.lit 4,.lit 5] false]:=rfl;rw[a8];have bO:∀ (l:Mem),(∀ r∈l,r.own=false)->∀ K:bo,∀ r∈l,K.own=true->r.own=true->(K.hl J).bq (r.hl J):=fun l h K r hr _ ho=>by rw[h r hr]at ho;cases ho
  have P:∀ r∈([.ro 16 [.var 1] false,.ro 17 [] true,.ro 18 [.lit 3,.lit 4,.lit 5] false]:Mem),r.own=false:=by
   intro r hr;simp only[aaW,abd,acs]at hr;rcases hr with rfl | rfl | rfl<;>rfl
  refine List.Pairwise.cons (fun r hr hk ho=>?_) (List.Pairwise.cons (fun r hr hk ho=>?_) (List.Pairwise.cons (fun r hr hk ho=>?_) (List.Pairwise.cons (fun r hr hk ho=>?_) (List.Pairwise.cons (fun r hr hk ho=>bO _ P _ r hr hk ho) (List.Pairwise.cons (fun r hr hk ho=>by cases hk) (List.Pairwise.cons (fun r hr hk ho=>by cases hk) (List.Pairwise.cons (fun r hr=>by cases hr) List.Pairwise.nil)))))))
  .rw[e0];rw[aaW,aaW,aaW,aaW]at hr;rcases hr with rfl | rfl | rfl | rfl | hr
   .show(On a pa pb sl S.over).bq (J.h 12);rw[ae];exact hIn.d1
   .show(On a pa pb sl S.over).bq (J.h 13);rw[O];exact hIn.d2
   .show(On a pa pb sl S.over).bq (J.h 14);rw[z];exact hIn.d3
   .show(On a pa pb sl S.over).bq (J.h 15);rw[G];exact dD _ l1
   .rw[P r hr]at ho;cases ho
  .rw[aaW,aaW,aaW]at hr;show(J.h 12).bq _;rw[ae];rcases hr with rfl | rfl | rfl | hr
   .show HA.bq (J.h 13);rw[O];exact hIn.d4
   .show HA.bq (J.h 14);rw[z];exact hIn.d5
   .show HA.bq (J.h 15);rw[G];exact dD _ l2
   .rw[P r hr]at ho;cases ho
  .rw[aaW,aaW]at hr;show(J.h 13).bq _;rw[O];rcases hr with rfl | rfl | hr
   .show HB.bq (J.h 14);rw[z];exact hIn.d6
   .show HB.bq (J.h 15);rw[G];exact dD _ l3
   .rw[P r hr]at ho;cases ho
  .rw[aaW]at hr;show(J.h 14).bq _;rw[z];rcases hr with rfl | hr
   .show HR.bq (J.h 15);rw[G];exact dD _ l4
   .rw[P r hr]at ho;cases ho
 .intro r hr;simp only[O1,aaW,abd,acs]at hr;rcases hr with rfl | rfl | rfl | rfl | rfl | rfl | rfl | rfl
  .show(0:Int)<=J.i 0;omega
  all_goals trivial
 .refine aD.read [] [] [] ?_;have fin:∀ (q:Env) (hL hR hK:Nat) (vL vM vR vK:List Nat) (rL rM rR rK kL kM kR kK:List E) (cs:CV) (o rv:E) (t:Mem),ai 19 J q ->
   eJ (q.h hL) pa dp (dt D S rows).S.LA (dt D S rows).S.bA->(dt D S rows).S.LB=S.LB/\(dt D S rows).S.bB=S.bB->bT (q.h hR) (cs.ev q) (dt D S rows).S.recs->aY q o=(dt D S rows).S.over->aE (q.h hK) dp (dt D S rows).D->aw q rv=(dt D S rows).e ->
   postOf IA [.pointer (some ⟨a,0,none⟩),.slice (au x y) us.length c] [H,HD] [R,RA,RG] q (.bc 0 [.hptr (.var 5) (.lit 0),.hptr (.var 6) (.lit 0),cs,.bool o] 140::.hp hL vL rL kL::.hp 13 vM rM kM::.hp hR vR rR kR::.hp hK vK rK kK::t) (.sv (.one (.int .i64 rv))):=by
   intro q hL hR hK vL vM vR vK rL rM rR rK kL kM kR kK cs o rv t hg bP a9 bQ bS bU heq hd;have g0:q.i 0=a:=by rw[hg.i 0,v0]
   have g5:q.i 5=aa:=by rw[hg.i 5,v5]
   have g6:q.i 6=ab:=by rw[hg.i 6,v6]
   have Q:=ao q cs o g0 g5 g6;rw[bS]at Q;refine⟨[[0,1,2,3],[4]],[],rfl,rfl,⟨(ba fun _=>(dt D S rows).e),?_,zzT,zzT⟩,_,_,H,HD,R,RA,RG,dp,S,D,rows,_,_,rfl,rfl,rfl,a5,hD,hB,rfl,?_,?_,?_⟩
   .show Value.int .i64 (aw q rv)=.int .i64 (dt D S rows).e;rw[heq]
   .show aE (bY [q.h hK]) _ _;rw[aJ];exact bU
   .refine⟨a,pa,pb,cs.ev q,q.h hL,q.h 13,q.h hR,rfl,bP,?_,bQ,?_,?_,?_,hd 1 2 _ _ az rfl rfl rfl,hd 1 3 _ _ az rfl rfl rfl,hd 2 3 _ _ az rfl rfl rfl,?_⟩
    .rw[a9.1,a9.2,hg.h 13,O];exact hIn.lb
    .rw[<-Q];exact hd 0 1 _ _ az rfl rfl rfl
    .rw[<-Q];exact hd 0 2 _ _ az rfl rfl rfl
    .rw[<-Q];exact hd 0 3 _ _ az rfl rfl rfl
    .rw[<-Q];rfl
   .show Value.int .i64 (aw q rv)=.int .i64 (dt D S rows).e;rw[heq]
  simp only[go_sem,Nat.reduceAdd,adΓ,acY,acZ,ac0,ac2,ac3,ac4,ac5,Zo,Om,rsi];have bb:Value.slice (au (J.i 7) 0) (J.i 8).toNat (J.i 9).toNat=sl:=by rw[v7,v8,v9,aac,aac,N]
  have f:∀ q:Env,ai 19 J q->eJ (q.h 12) pa dp S.LA S.bA/\bT (q.h 14) (CV.ev q (.sl (.var 7) (.lit 0) (.var 8) (.var 9))) S.recs/\aY q (.bvar 10)=S.over/\aE (q.h 15) dp D:=by
   intro q hg;refine⟨by rw[hg.h 12,ae];exact hIn.la,?_,by rw[bn,hg.b 10,b10],by rw[hg.h 15,G];exact hD⟩;show bT (q.h 14) (.slice (au (q.i 7) 0) (q.i 8).toNat (q.i 9).toNat) _;rw[hg.h 14,hg.i 7,hg.i 8,hg.i 9,z,bb];exact hIn.rows
  have same:∀ (q:Env) (e:Int) (rv:E) (t:Mem),ai 19 J q->dt D S rows=⟨e,D,S⟩->aw q rv=e->postOf IA [.pointer (some ⟨a,0,none⟩),.slice (au x y) us.length c] [H,HD] [R,RA,RG] q (.bc 0 [.hptr (.var 5) (.lit 0),.hptr (.var 6) (.lit 0),.sl (.var 7) (.lit 0) (.var 8) (.var 9),.bool (.bvar 10)] 140::.hp 12 [] [.var 5] [.var 11]::.hp 13 [] [.var 6] [.var 11]::.hp 14 [] [.var 7] []::.hp 15 [] [.var 11] []::t) (.sv (.one (.int .i64 rv))):=by
   intro q e rv t hg he bV;obtain⟨k1,k2,k3,k4⟩:=f q hg;exact fin q 12 14 15 _ _ _ _ _ _ _ _ _ _ _ _ _ _ rv t hg (by rw[he];exact k1) (by rw[he];exact⟨rfl,rfl⟩) (by rw[he];exact k2) (by rw[he];exact k3) (by rw[he];exact k4) (by rw[he];exact bV)
  have bW:Value.pointer (au (J.i 0) 0)=.pointer (some ⟨a,0,none⟩):=by rw[v0,ft]
  have bX:Value.slice (au (J.i 1) (J.i 2)) (J.i 3).toNat (J.i 4).toNat=.slice (au x y) us.length c:=by rw[v1,v2,v3,v4,aac,aac]
  have bd:(On a pa pb sl S.over).cell a 3=some (.bool S.over):=by unfold On;rw[Hl.mP];rfl
  have bZ:Hl.one (J.i 0).toNat (.cells #[Value.pointer (au (J.i 5) 0),Value.pointer (au (J.i 6) 0),Value.slice (au (J.i 7) 0) (J.i 8).toNat (J.i 9).toNat,Value.bool (aY J (.bvar 10))] 140 (0,0))=On a pa pb sl S.over:=e0;rw[bW,bX,bZ,aF,aH];refine⟨⟨_,_,a,S.over,_,R,RA,rows,rfl,rfl,rfl,bd,hB,hlen,aG⟩,fun q1 g1 ⟨F1,b0,b1,b2⟩=>?_⟩;obtain⟨u1,e1,bf,T,b3⟩:=JV bd hB b0;simp only[Value.tuple.injEq,acp,aae,Value.int.injEq,acu,abw]at bf;obtain⟨eu,ee⟩:=bf;have U:-1<=q1.i 19/\0<=q1.i 20/\0<=q1.i 21/\0<=q1.i 22:=b2.1;refine⟨fun V=>?_,fun V=>same q1 (q1.i 23) _ _ g1 ?_ (ar _ _)⟩
  rotate_left
  .rw[ee]at V ⊢;unfold dt;cases ho:S.over with
   | true=>rw[ab9 rfl,T.1 ho]
   | false =>
    rw[aa8 aC];by_cases hk:jC rows
    .exact absurd (T.2.1 ho hk) V
    .rw[ab9 hk,T.2.2 ho hk]
  have b4:e1=0:=by rw[<-ee];exact V
  have ho:¬S.over=true:=fun h=>by have:=T.1 h;omega
  have aI:S.over=false:=aef.2 ho;have hk:jC rows:=aee fun h=>by have:=T.2.2 aI h;omega
  have bg:c9 (q1.h 19) 5 (.slice (au (q1.i 19) (q1.i 20)) (q1.i 21).toNat (q1.i 22).toNat) (bM rows):=by rw[b1 trivial,eu];exact b3 b4
  have b5:q1.i 21=(bM rows).length:=(bg.rd.at U.1 U.2.1 U.2.2.1).1;rw[g1.i 3,v3];refine⟨ah,fun hz=>same q1 0 _ _ g1 ?_ V,fun bh=>⟨ah,?_⟩⟩
  .have hz:(us.length:Int)=0:=hz;have b6:rows.length=0:=by rw[<-aA];omega
   have:rows=[]:=aa1.1 b6;unfold dt;rw[aa8 ho,aa8 (fun h=>h hk),ab9 this]
  have bj:rows≠[]:=fun h=>by
   have bh:¬(us.length:Int)=0:=bh;rw[h]at aA;have:us.length=0:=aA;omega
  have W:∀ q:Env,ai 19 J q->Value.pointer (au (q.i 5) 0)=pa:=fun q hg=>by rw[hg.i 5,v5,ea]
  have kA:∀ q:Env,ai 19 J q->eJ (q.h 12) pa dp S.LA S.bA:=fun q hg=>(f q hg).1;rw[W q1 g1];refine⟨RQ (kA q1 g1).rd a6,fun q2 g2 ⟨F2,b7,_⟩=>?_⟩;have G2:ai 19 J q2:=g1.tr g2;have bk:q2.i 24=S.LA.most-S.bA.length:=UZ (N9 (kA q1 g1).rd b7);have av:q2.i 21=(bM rows).length:=by rw[g2.i 21,b5]
  refine⟨fun aK=>same q2 4 _ _ G2 ?_ (aq _ _),fun aN=>?_⟩
  .rw[bk,av]at aK;unfold dt;rw[aa8 ho,aa8 (fun h=>h hk),aa8 bj,ab9 aK]
  rw[bk,av]at aN;have hAdd:dt D S rows=Iz D S rows (bp D S.LA S.bA (bM rows) S.LA.note):=by
   unfold dt;rw[aa8 ho,aa8 (fun h=>h hk),aa8 bj,aa8 aN]
  generalize hr:bp D S.LA S.bA (bM rows) S.LA.note=r at hAdd;rw[W q2 G2];refine⟨Nu (kA q2 G2).rd,fun I g3 ⟨F3,b8,_⟩=>?_⟩;have G3:ai 19 J I:=G2.tr g3;have b9:=Jo (kA q2 G2).rd b8;have ca:(aj 25 (List.replicate 16 (Ck.int .u8))).map (CV.ev I)=aS S.LA.note:=ab1 (Value.agg.inj b9);have bl:S.LA.note.length=16:=by obtain⟨_,⟨_,_,cb⟩,_⟩:=hIn.la.rd;exact cb.1.note
  have ax:fE (I.h 19) (.slice (au (I.i 19) (I.i 20)) (I.i 21).toNat (I.i 22).toNat) (bM rows):=by
   have X:ai 24 q1 I:=g2.tr g3;rw[X.h 19,X.i 19,X.i 20,X.i 21,X.i 22];exact bg.rd.w
  have bm:aE (I.h 15) dp D:=(f I G3).2.2.2;rw[W I G3,ca];refine⟨⟨_,_,_,_,_,_,_,dp,_,_,_,rfl,rfl,rfl,kA I G3,bm,ax,a6,bl,a7⟩,fun q4 g4 ⟨F4,cc,_⟩=>?_⟩;obtain⟨br,bs,hK,ag,ak,bt⟩:=FE (kA I G3) bm ax cc;rw[hr]at ag ak bt;have Y:q4.h 41=br/\q4.h 42=bs:=by
   have h1:[q4.h 41,q4.h 42]=[br,bs]:=hK;simpa using h1
  obtain⟨Y,aP⟩:=Y;have cd:q4.i 41=r.e:=by simpa using bt
  have G4:ai 19 J q4:=G3.tr g4;rw[cd,G4.h 18,af];refine⟨⟨_,_,RG,g,rfl,rfl,hG⟩,fun q5 g5 ⟨F5,⟨s5,c5,R5,x1,x2,Z⟩,_⟩=>?_⟩;simp only[aae,Value.string.injEq,Value.int.injEq,acu,abw]at x1 x2;obtain⟨x1,x3⟩:=x1;subst x1 x2 x3;have Z:nh g (q5.v 44) r.e:=Z g hG;have G5:ai 19 J q5:=G4.tr g5;have cL:RG.cell (Int.toNat 3) (Int.toNat 0)=some (gv g qx):=hG.cell qx (Or.inl rfl);rw[G5.h 18,af,cL];refine⟨rfl,⟨_,_,RG,g,r.e,qx,rfl,rfl,hG,Z,Or.inl rfl,rfl⟩,fun q6 g6 ⟨F6,cf,_⟩=>?_⟩;have r6:=Jk hG Z (Or.inl rfl) cf;rw[r6];have G6:ai 19 J q6:=G5.tr g6;have aQ:nh g (q6.v 44) r.e:=by rw[g6.v 44];exact Z
  have num:∀ (q7:Env),ai 46 q6 q7->(∃ F,sH.post [q6.v 44] [] [RG] (.int .i64 (q7.i 46)) [] F/\(aL 0 [Cp.one (Ck.int .i64)]≠[]->q7.h 46=F)/\bR 46 [Cp.one (Ck.int .i64)] q7)->q7.i 46=tu r.e/\ai 19 J q7/\ai 43 q4 q7:=by
   intro q7 g7 ⟨F7,⟨e7,R7,x1,x2,h7⟩,_⟩;simp only[aae,abw]at x1 x2;subst x1 x2;have:=h7 g r.e hG aQ;exact⟨by simpa using this,G6.tr g7,(g5.trans ((g6.tr g7).mono ah)).mono ah⟩
  rw[G6.h 18,af];refine⟨fun A=>⟨⟨_,RG,g,r.e,rfl,rfl,hG,aQ⟩,fun q7 g7 aR=>?_⟩,fun A=>⟨⟨_,RG,g,r.e,rfl,rfl,hG,aQ⟩,fun q7 g7 aR=>?_⟩⟩
  .obtain⟨n,B,C⟩:=num q7 g7 aR;have u:¬tu r.e=0:=by
    unfold tu;rw[aa8 A.1,aa8 (by rw[A.2];decide),aa8 (by rw[A.2];decide)];decide
   refine⟨fun _=>?_,fun h=>absurd (n.symm.trans h) u⟩;refine fin q7 41 14 42 _ _ _ _ _ _ _ _ _ _ _ _ (.sl (.var 7) (.lit 0) (.var 8) (.var 9)) _ _ _ B ?_ ?_ ?_ ?_ ?_ ?_
   .rw[hAdd,C.h 41,Y];exact ak
   .rw[hAdd];exact⟨rfl,rfl⟩
   .rw[hAdd];unfold Iz;rw[aa8 u];exact(f q7 B).2.1
   .rw[hAdd];show true=(if _ then true else S.over);rw[ab9 A]
   .rw[hAdd,C.h 42,aP];exact ag
   .rw[hAdd,ar,n];rfl
  .obtain⟨n,B,C⟩:=num q7 g7 aR;refine⟨fun u=>?_,fun bu=>?_⟩
   .refine fin q7 41 14 42 _ _ _ _ _ _ _ _ _ _ _ _ (.sl (.var 7) (.lit 0) (.var 8) (.var 9)) _ _ _ B ?_ ?_ ?_ ?_ ?_ ?_
    .rw[hAdd,C.h 41,Y];exact ak
    .rw[hAdd];exact⟨rfl,rfl⟩
    .rw[hAdd];unfold Iz;rw[aa8 (fun h=>u (n.trans h))];exact(f q7 B).2.1
    .rw[hAdd,(f q7 B).2.2.1];show S.over=(if _ then true else S.over);rw[aa8 A]
    .rw[hAdd,C.h 42,aP];exact ag
    .rw[hAdd,ar,n];rfl
   .clear num;refine⟨⟨0,rfl,acP _,by show -1<=q7.i 7;rw[B.i 7,v7];exact bJ,by show 0<=q7.i 8;rw[B.i 8,v8];omega,by show 0<=q7.i 9;rw[B.i 9,v9];omega,?_,?_⟩,fun L g8 ⟨k,ek,ot,bw,aT,cB,bx,ad⟩=>?_⟩
    .show aY q7 (.bvar 10)=false;rw[bn,B.b 10,b10,aI]
    .show bT (q7.h 14) (.slice (au (q7.i 7) 0) (q7.i 8).toNat (q7.i 9).toNat) _;rw[B.h 14,B.i 7,B.i 8,B.i 9,z,bb,afD,acD];exact hIn.rows
    have G8:ai 19 J L:=B.tr g8;have cC:L.i 62=S.recs.length+k:=by
     have:=(ad.at bw aT).1;rw[aaA,ace]at this;omega
    rw[G8.i 1,G8.i 2,G8.i 3,G8.h 16,G8.h 17,v1,v2,v3,aF,aH,ek];refine⟨fun aK=>?_,fun aN=>?_⟩
    .have cg:k<rows.length:=ah;have bz:rows[k]?=some rows[k]:=aad cg;have hu:us[k]?=some us[k]:=aad ah;obtain⟨ch,hc⟩:=aB k _ hu;have aU:=bI k _ _ hu bz;have N:∃ a l c,us[k]=Value.slice a l c:=(fE.parts aU).1;have cj:R.cell x.toNat (y+(k:Int)).toNat=some us[k]:=by rw[show(y+(k:Int)).toNat=y.toNat+k by omega];exact hc
     rw[cj,iH N];refine⟨ch,hy,ah,by obtain⟨_,_,_,e⟩:=N;rw[e];rfl,⟨_,_,RA,rfl,rfl,aU,acA (hk _ (acK _)) az⟩,fun q9 g9 ⟨F9,⟨u9,cD,R9,x1,x2,ck,bC⟩,cl,al⟩ aW aX _ M bD ⟨cm,ay⟩=>?_⟩;simp only[aae,abw]at x1 x2;subst x1 x2;obtain rfl:=aU.uniq ck;rw[<-cl zzT]at bC;have al:-1<=q9.i 66/\0<=q9.i 67/\0<=q9.i 68/\0<=q9.i 69:=al.1;have aZ:ai 66 L aW:=g9.tr aX;have an:ai 66 L M:=aZ.tr bD;have G9:ai 70 q9 M:=aX.tr bD;have cn:pG (aW.h 66) none (.slice (au (M.i 66) (M.i 67)) (M.i 68).toNat (M.i 69).toNat) rows[k]:=by
      rw[aX.h 66,G9.i 66,G9.i 67,G9.i 68,G9.i 69];exact pG.of bC.rd.w al.1 al.2.1
     rw[cm,aZ.h 64,an.i 61,an.i 62,an.i 63];rw[aZ.h 64]at ay;have bE:∃ xs,aO ((L.h 64).un (aW.h 66)) 22 1 (.slice (au (L.i 61) 0) (L.i 62).toNat (L.i 63).toNat) (L.i 62).toNat xs:=by
      obtain⟨cp,bF,_⟩:=ad;rw[show(L.i 62).toNat=(S.recs++rows.take k).length by rw[aaA,ace];omega]at bF ⊢;exact⟨cp,bF.mono (Hl.aV _ _)⟩
     refine⟨⟨bE,aT,by unfold maxLen;omega,ah⟩,fun j cq ⟨a1,a2,happ,cr,_,ct⟩=>?_⟩;have a0:ai 66 L j:=an.tr cq;have a3:=xz ad bw aT ay cn a1 happ cr ct;have cu:j.i 62+1=L.i 62+1:=by rw[a0.i 62]
     have cv:j.i 60=k:=by rw[a0.i 60,ek]
     have bG:IntKind.i64.wrap (j.i 60+1)=(k:Int)+1:=by rw[cv];exact wrap_i64 ah ah
     refine⟨⟨k+1,?_,ah,a1,?_,a2,?_,?_⟩,?_⟩
     .show IntKind.i64.wrap (j.i 60+1)=_;rw[bG];rfl
     .show 0<=j.i 62+1;omega
     .show j.b 65=false;rw[a0.b 65];exact bx
     .show bT (j.h 72) (.slice (au (j.i 72) 0) (j.i 62+1).toNat (j.i 73).toNat) _;rw[cu,adB,bz,afk,<-abS];exact a3
     .show((rows.length:Int)-IntKind.i64.wrap (j.i 60+1)).toNat<_;rw[bG];omega
    .have cw:k=rows.length:=ah;subst cw;rw[acS]at ad;refine fin L 41 64 42 _ _ _ _ _ _ _ _ _ _ _ _ (.sl (.var 61) (.lit 0) (.var 62) (.var 63)) _ _ _ G8 ?_ ?_ ?_ ?_ ?_ ?_
     .rw[hAdd,g8.h 41,C.h 41,Y];exact ak
     .rw[hAdd];exact⟨rfl,rfl⟩
     .rw[hAdd];unfold Iz;rw[ab9 (n.symm.trans bu)];exact ad
     .rw[bn,bx,hAdd];show false=(if _ then true else S.over);rw[aa8 A];exact aI.symm
     .rw[hAdd,g8.h 42,C.h 42,aP];exact ag
     .rw[hAdd,aq];exact(n.symm.trans bu).symm
def jX : Value.pointer (au (bD (some (Value.pointer (some ⟨a,0,none⟩))) 0) (bD (some (Value.pointer (some ⟨a,0,none⟩))) 1))=.pointer (some ⟨a,0,none⟩):=by
 show Value.pointer (au ((a:Nat):Int) 0)=_;rw[ft]
def DL.cells (h:DL H a dp pa pb sl S):H.cell a 0=some pa/\H.cell a 2=some sl:=by
 unfold Hl.cell;rw[h.bc];exact⟨rfl,rfl⟩
def H6:Sx.Spec where
 fn:=29
 own:=[]
 rd:=[0]
 res:=[.one .sl]
 pre:=fun xs Hs Rs=>∃ p R dp S,xs=[p]/\Rs=[R]/\nM R p dp S/\S.recs.length<=1000000000/\∀ r∈S.recs,r.length<=1000000
 post:=fun xs Hs Rs v Hs' F=>∃ p R dp S,xs=[p]/\Rs=[R]/\nM R p dp S/\bT F v S.recs
def Oy (h:nM R p dp S) (hp:H6.post [p] [] [R] v K F):bT F v S.recs:=by
 obtain⟨b,R',dp',S',e1,a,h',hv⟩:=hp;simp only[aae,abw]at e1 a;subst e1 a;obtain⟨_,rfl⟩:=h.uniq h';exact hv
def scΓ:List Sx.Spec:=[zl]
def YP:∀ t∈scΓ,t.OK Tryz.prog:=fun t a=>by
 simp only[scΓ,aaW,abd,acs]at a;rw[a];exact Ag
def abU:aD Tryz.prog scΓ H6.fn where
 Λ:=fun p=>if QI p then some ⟨0,[(11,TI .i64 (.var 50)),(3,.sv (.one (.sl (.var 53) (.lit 0) (.var 54) (.var 55))))],[(1,.hp 56 [] [.var 53] [])],60⟩else none
 args:=[TP (.var 0) (.lit 0)]
 mem:=[.ro 1 [.var 0] true]
 nv:=2
def Sw:H6.OK Tryz.prog:=by
 refine Spec.jN (Γ:=scΓ) YP rfl ?_;rintro xs Rs ⟨p,R,dp,S,rfl,rfl,hS,hlen,aG⟩;obtain⟨a,pa,pb,sl,rfl,hr⟩:=id hS;have hc:=hr.cells.2;obtain⟨rx,rc,m,rfl⟩:=hr.rows.rep;have O:=bT.at (l:=(S.recs.length:Int)) (c:=(rc:Int)) (rows:=S.recs) (by rw[aac,aac];exact hr.rows) m ah;refine⟨abU,aM [(a:Int)] false [Hl.none,R],fun _ q=>∃ k:Nat,q.i 50=k/\k<=S.recs.length/\ -1<=q.i 53/\0<=q.i 54/\0<=q.i 55/\bT (q.h 56) (.slice (au (q.i 53) 0) (q.i 54).toNat (q.i 55).toNat) (S.recs.take k),fun _ q=>(S.recs.length-q.i 50).toNat,?_,aT rfl rfl,rfl,?_⟩
 .show [Value.pointer (au (a:Int) 0)]=_;rw[ft]
 .refine aD.read [] [] [] ?_;generalize B:aM [(a:Int)] false [Hl.none,R]=J;obtain⟨⟨v0,_⟩,_,w1,_⟩:=jn B;clear B;have t2:Int.toNat 2=2:=rfl;simp only[go_sem,Nat.reduceAdd,scΓ,Zo,Om,t2];rw[v0,w1,aac,hc,px m];refine⟨ah,rfl,ah,⟨0,rfl,acP _,aba _,aba _,aba _,bT.nil _⟩,fun d g8 ⟨k,ek,ot,t,n,P,g⟩=>?_⟩;have ak:d.i 54=k:=by
   have:=(g.at t n).1;rw[ace]at this;omega
  rw[g8.i 0,g8.h 1,v0,w1,ek,aac,hc,px m];refine⟨fun al=>?_,fun an=>?_⟩
  .have Q:k<S.recs.length:=ah;have C:S.recs[k]?=some S.recs[k]:=aad Q;obtain⟨D,u,T,U⟩:=O.2 k _ C;have v:=U.rd;have E:∃ a l c,u=Value.slice a l c:=(fE.parts v).1;rw[Ce m,Ij D (aba _)];have V:R.cell rx.toNat (0+(k:Int)).toNat=some u:=by rw[show(0+(k:Int)).toNat=k by omega];exact T
   rw[V,iH E];refine⟨D,aba _,ah,by obtain⟨_,_,_,e⟩:=E;rw[e];rfl,⟨_,_,R,rfl,rfl,v,aG _ (acK _)⟩,fun F g9 ⟨F9,⟨u9,ao,R9,x1,x2,W,G⟩,X,o⟩ x y _ f H ⟨Y,s⟩=>?_⟩;simp only[aae,abw]at x1 x2;subst x1 x2;obtain rfl:=v.uniq W;rw[<-X zzT]at G;have o:-1<=F.i 60/\0<=F.i 61/\0<=F.i 62/\0<=F.i 63:=o.1;have z:ai 60 d x:=g9.tr y;have r:ai 60 d f:=z.tr H;have N:ai 64 F f:=y.tr H;have Z:pG (x.h 60) none (.slice (au (f.i 60) (f.i 61)) (f.i 62).toNat (f.i 63).toNat) S.recs[k]:=by
    rw[y.h 60,N.i 60,N.i 61,N.i 62,N.i 63];exact pG.of G.rd.w o.1 o.2.1
   rw[Y,z.h 56,r.i 53,r.i 54,r.i 55];rw[z.h 56]at s;have I:∃ xs,aO ((d.h 56).un (x.h 60)) 22 1 (.slice (au (d.i 53) 0) (d.i 54).toNat (d.i 55).toNat) (d.i 54).toNat xs:=by
    obtain⟨aa,K,_⟩:=g;rw[show(d.i 54).toNat=(S.recs.take k).length by rw[ace];omega]at K ⊢;exact⟨aa,K.mono (Hl.aV _ _)⟩
   refine⟨⟨I,n,by unfold maxLen;omega,ah⟩,fun b ab ⟨a1,a2,happ,ad,_,ae⟩=>?_⟩;have L:ai 60 d b:=r.tr ab;have A:=xz g t n s Z a1 happ ad ae;have af:b.i 54+1=d.i 54+1:=by rw[L.i 54]
   have ag:b.i 50=k:=by rw[L.i 50,ek]
   have M:IntKind.i64.wrap (b.i 50+1)=(k:Int)+1:=by rw[ag];exact wrap_i64 ah ah
   refine⟨⟨k+1,?_,ah,a1,?_,a2,?_⟩,?_⟩
   .show IntKind.i64.wrap (b.i 50+1)=_;rw[M];rfl
   .show 0<=b.i 54+1;omega
   .show bT (b.h 66) (.slice (au (b.i 66) 0) (b.i 54+1).toNat (b.i 67).toNat) _;rw[af,adB,C,afk];exact A
   .show((S.recs.length:Int)-IntKind.i64.wrap (b.i 50+1)).toNat<_;rw[M];omega
  .have aj:k=S.recs.length:=ah;subst aj;rw[acS]at g;intro _;refine⟨[],[1],rfl,rfl,⟨(ba fun j=>[d.i 53,0,d.i 54,d.i 55].getD j 0),rfl,⟨t,aba _,n,P⟩,zzT⟩,_,R,dp,S,rfl,rfl,hS,?_⟩;show bT (bY [d.h 56]) _ _;rw[aJ];exact g
def Iq:Env:=(ba fun _=>0)
def BN:Mem->Bool
 | []=>true
 | .ro _ _ _::l=>BN l
 | _=>false
def I2 {mem:Mem} (h1:∀ r∈mem,∃ k t a,r=.ro k t a) (b:mem.map (bo.hl J)=Rs):Entry J mem Hs Rs:=by
 refine⟨fun r hr ho=>?_,fun r hr _=>⟨r.hl J,by rw[<-b];exact acw.2 ⟨r,hr,rfl⟩,Hl.le_refl _⟩,?_,fun r hr=>?_⟩
 .obtain⟨k,t,a,rfl⟩:=h1 r hr;cases ho
 .refine afA.2 fun i j hi c _ ho=>?_;obtain⟨k,t,a,e⟩:=h1 mem[i] (acK hi);rw[e]at ho;cases ho
 .obtain⟨k,t,a,rfl⟩:=h1 r hr;trivial
end Go.Proofs.YtbdikjnpbnobcaaGreatDoor
