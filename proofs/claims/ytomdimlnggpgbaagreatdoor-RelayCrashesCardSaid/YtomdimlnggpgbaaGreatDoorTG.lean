/- RelayCrashes. -/
import Derived.Test.YtomdimlnggpgbaaGreatDoorTF
set_option linter.all false
set_option maxHeartbeats 4000000
namespace Go.Proofs.YtomdimlnggpgbaaGreatDoor
open Go Go.Sx Go.Pk
variable {bad bad' lg lg':Bool}{C N g:E}{q:Env}{A B F G H R R1 R2:Hl}{c c' l x y y' z:Int}{t7:List E}{Hs K Rs:List Hl}{b b2 bs bs' bs2:List Int}{v7:List Nat}{t:Mem}{a k m n:Nat}{p u v:Value}
def OJ (p:List Nat):Bool:=decide (p.length>1)&&!(p.head?==some 99)
def aC:r8:=fun _=>none
def gI (q:Env) (n:Nat):newHs q n 0=[]:=rfl
def iz (q:Env) (n:Nat):newHs q n 1=[q.h n]:=by unfold newHs;rw[List.range_one];rfl
def jD {α:Type} {a:α} {l:List α} : (a::l≠[])=True:=by simp
def gT (a:Nat):Value.pointer (az (a:Int) 0)=.pointer (some ⟨a,0,none⟩):=by rw[au ah];rfl
def aq (bs:List Int):Prop:=∀ b∈bs,0<=b/\b<256
def tj (hl:l=bs.length) (b:0<=y) (h:bs=[]\/0<=x/\∀ j z,bs[j]?=some z->R.cell x.toNat (y.toNat+j)=some (.int .u8 z)) :
 ((0<=x/\0<=y/\0<=l/\∀ j,j<l.toNat->∃ v,R.cell x.toNat (y.toNat+j)=some v/\v.oneCell'=true)\/l=0)/\cn R x.toNat y.toNat l.toNat=aM bs:=by
 subst hl;rw[aar];constructor
 .rcases h with h | ⟨hx,h⟩
  .subst h;exact Or.inr rfl
  .exact Or.inl ⟨hx,b,ah,fun j a=>⟨_,h j _ (aax a),rfl⟩⟩
 .unfold cn;apply aa2;intro j;rw[aaL,fT];rcases abn j bs.length with a | a
  .rcases h with h | ⟨hx,h⟩
   .subst h;cases a
   .rw[aaZ a,abe,h j _ (aax a),aax a];rfl
  .rw[aaK (by simpa using a),aaK ah];rfl
def FU (F:Hl) {a:Int} (h:0<=a) (b:F=Hl.one a.toNat (.cells #[] 5 (0,0))):aP F 5 1 (.slice (az a 0) (Int.toNat 0) (Int.toNat 0)) (Int.toNat 0) []:=by
 subst b;exact⟨rfl,Or.inr ⟨a.toNat,0,#[],by rw[au h];rfl,Hl.aU _ _,ah,aA,rfl,rfl⟩⟩
def gG:Sx.Spec where
 fn:=84
 own:=[]
 rd:=[0]
 res:=[.one .sl]
 pre:=fun xs Hs Rs=>∃ u bs R,xs=[u]/\Rs=[R]/\fL R u bs/\bs.length<=1000000
 post:=fun xs Hs Rs v Hs' F=>∃ u bs R,xs=[u]/\Rs=[R]/\fL R u bs/\bZ F 5 v bs
def tQ:aG Tryz.prog [] gG.fn where
 Λ:=aC
 args:=[.sv (.one (.sl (.var 0) (.var 1) (.var 2) (.var 3)))]
 mem:=[.ro 4 [.var 0] false]
 nv:=5
def mc:gG.OK Tryz.prog:=by
 refine Spec.aV (Γ:=[]) (fun _ h=>by cases h) ?_;rintro xs Hs Rs m p ⟨u,bs,R,rfl,rfl,b,hlen⟩;have q:Hs=[]:=aaz.1 m;subst q;obtain⟨x,y,c,rfl,s,n⟩:=id b;refine⟨tQ,aL [x,y,bs.length,c] false [Hl.none,Hl.none,Hl.none,Hl.none,R],fun _ _=>True,fun _ _=>0,?_,⟨?_,?_,?_,?_⟩,(fun _ h=>nomatch h),?_⟩
 .show [Value.slice (az x y) ((bs.length:Int)).toNat ((c:Int)).toNat]=_;rw[aar,aar]
 .intro r hr ho;simp [tQ]at hr;subst hr;cases ho
 .intro r hr ho;simp [tQ]at hr;subst hr;exact⟨R,aF,Hl.le_refl _⟩
 .simp [tQ]
 .intro r hr;simp [tQ]at hr;subst hr;trivial
 .refine aG.read [] [] [] ?_;generalize a:aL [x,y,bs.length,c] false [Hl.none,Hl.none,Hl.none,Hl.none,R]=J;have v0:J.i 0=x:=by rw[<-a];rfl
  have v1:J.i 1=y:=by rw[<-a];rfl
  have v2:J.i 2=bs.length:=by rw[<-a];rfl
  have t:J.h 4=R:=by rw[<-a];rfl
  clear a;simp only[go_sem,Nat.reduceAdd];refine⟨fun hx _=>?_,fun hx q1 d p5=>?_⟩
  .have e:bs=[]:=by
    rcases n with h | ⟨h,_⟩
    .exact h
    .omega
   refine⟨[],[],rfl,rfl,⟨(bf fun k=>if k=0 then -1 else 0),rfl,⟨aaM _,aaM _,aaM _,aaM _⟩,zzT⟩,_,bs,R,rfl,rfl,b,?_⟩;rw[e];exact⟨rfl,Or.inl ⟨rfl,rfl⟩⟩
  .obtain⟨hok,f⟩:=tj (R:=R) (x:=x) (y:=y) (l:=(bs.length:Int)) rfl s n;have g:=FU (Hl.one (q1.i 5).toNat (.cells #[] 5 (0,0))) p5 rfl;rw[d.i 0,d.i 1,d.i 2,d.h 4,v0,v1,v2,t];refine⟨⟨⟨_,g⟩,aaM _,by simpa using hok,by rw[aar];unfold maxLen;simp;omega,by rw[aar];simp;omega⟩,fun q2 o ⟨v,w,a3,_⟩=>fun _=>?_⟩;have j:=a3 _ g;rw[f,abU]at j;refine⟨[],[1],rfl,rfl,⟨(bf fun k=>[q2.i 6,0,q2.i 2,q2.i 7].getD k 0),rfl,⟨v,aaM _,?_,w⟩,zzT⟩,_,bs,R,rfl,rfl,b,?_⟩
   .show 0<=q2.i 2;rw[o.i 2,d.i 2,v2];omega
   .show bZ (di [q2.h 6]) _ (.slice (az (q2.i 6) 0) (q2.i 2).toNat (q2.i 7).toNat) bs;rw[aN,o.i 2,d.i 2,v2];unfold bZ;rw[aar];simpa using j
def dr (bs:List Int):Nat×Nat:=(uw bs).getD (0,0)
def Et (R1 R2:Hl) (p:Value) (bs:List Int) (bad:Bool):Prop:=∃ (a:Nat) (x y:Int) (c:Nat),p=.pointer (some ⟨a,0,none⟩)/\R1.cell a 0=some (.slice (az x y) bs.length c)/\R1.cell a 1=some (.bool bad)/\ -1<=x/\0<=y/\oI R2 (.slice (az x y) bs.length c) bs
def Et.uniq {a:List Int} {x y:Bool} (h:Et R1 R2 p a x) (h':Et R1 R2 p b y):a=b/\x=y:=by
 obtain⟨e,x1,f,c1,e1,h1,h2,_,_,d⟩:=h;obtain⟨g,i,j,c2,c,k1,k2,_,_,k3⟩:=h';rw[e1]at c;simp only[Value.pointer.injEq,aaF,Addr.mk.injEq,aaP]at c;subst c;rw[h1]at k1;have k1:=abp k1;rw[<-k1]at k3;rw[h2]at k2;simp only[aaF,Value.bool.injEq]at k2;exact⟨d.uniq k3,k2⟩
def mZ:Sx.Spec where
 fn:=124
 own:=[]
 rd:=[0,1000]
 res:=[.one (.int .u64),.one (.int .i64)]
 pre:=fun xs Hs Rs=>∃ p R1 R2 bs bad,xs=[p]/\Rs=[R1,R2]/\Et R1 R2 p bs bad/\aq bs/\bs.length<=1000000
 post:=fun xs Hs Rs v Hs' F=>∃ p R1 R2 bs bad,xs=[p]/\Rs=[R1,R2]/\Et R1 R2 p bs bad/\v=.tuple #[.int .u64 (dr bs).1,.int .i64 (dr bs).2]
def uy:aG Tryz.prog [] mZ.fn where
 Λ:=fun p=>if OJ p then some ⟨0,[(4,TI .u64 (.var 10)),(12,TI .i64 (.var 11))],[],12⟩else none
 args:=[TP (.var 0) (.lit 0)]
 mem:=[.ro 1 [.hP 2 (.var 0) (.lit 0) 0 0] false,.ro 2 [.var 0] false]
 nv:=3
def Mg (bs:List Int) (_:Nat) (q:Env):Prop:=∃ k y:Nat,q.i 11=k/\q.i 10=y/\k<=10/\y<128 ^ k/\uw bs=su (bs.drop k) k y
def VR (hx:-1<=x) (n c:Nat):bw (some (.slice (az x y) n c)) 0=x:=by
 rcases abQ x 0 with h | h
 .obtain rfl:x= -1:=ah;rfl
 .rw[au h];show((x.toNat:Nat):Int)=x;omega
def Xz (hx:0<=x) (a:0<=y) (n c:Nat):bw (some (.slice (az x y) n c)) 1=y:=by
 rw[au hx];show((y.toNat:Nat):Int)=y;omega
def Ss (hx:-1<=x) (n c:Nat):bw (some (.slice (az x y) n c)) 2=n:=by
 rcases abQ x 0 with h | h
 .obtain rfl:x= -1:=ah;rfl
 .rw[au h];rfl
def Iy {y c:Nat} (hc:bs[k]?=some (c:Int)):su (bs.drop k) k y=if(k=9/\1<c)\/9<k then none else if c<128 then(if c=0/\0<k then none else some (y+c*128 ^ k,k+1))else su (bs.drop (k+1)) (k+1) (y+(c%128)*128 ^ k):=by
 have hk:=(aaH.1 hc).1;have e:bs.drop k=(c:Int)::bs.drop (k+1):=by
  rw[adw hk,(aaH.1 hc).2]
 rw[e];show(if(k=9/\1<(c:Int))\/9<k then none else if(c:Int)<128 then(if(c:Int)=0/\0<k then none else some (y+((c:Int)).toNat*128 ^ k,k+1))else su (bs.drop (k+1)) (k+1) (y+(((c:Int)).toNat%128)*128 ^ k))=_;rw[aar];have h1:((1:Int)<(c:Int))↔1<c:=ah;have h2:((c:Int)<128)↔c<128:=ah;have a:((c:Int)=0)↔c=0:=ah;simp only[h1,h2,a]
def IA:mZ.OK Tryz.prog:=by
 refine Spec.aV (Γ:=[]) (fun _ h=>by cases h) ?_;rintro xs Hs Rs G P ⟨p,R1,R2,bs,bad,rfl,rfl,hIn,hby,hlen⟩;have Q:Hs=[]:=aaz.1 G;subst Q;obtain⟨a,x,y,c,rfl,t,R,hx,F,S⟩:=id hIn;refine⟨uy,aL [(a:Int)] false [Hl.none,R2,R1],Mg bs,fun _ q=>((bs.length:Int)-q.i 11).toNat,?_,⟨?_,?_,?_,?_⟩,(fun _ h=>nomatch h),?_⟩
 .show [Value.pointer (az (a:Int) 0)]=_;rw[gT]
 .intro r hr ho;simp [uy]at hr;rcases hr with rfl | rfl<;>cases ho
 .intro r hr ho;simp [uy]at hr;rcases hr with rfl | rfl
  .exact⟨R2,aF,Hl.le_refl _⟩
  .exact⟨R1,aF,Hl.le_refl _⟩
 .simp [uy,bL.own]
 .intro r hr;simp [uy]at hr;rcases hr with rfl | rfl<;>trivial
 .refine aG.read [] [] [] ?_;generalize m:aL [(a:Int)] false [Hl.none,R2,R1]=J;have v0:J.i 0=a:=by rw[<-m];rfl
  have O:J.h 1=R2:=by rw[<-m];rfl
  have H:J.h 2=R1:=by rw[<-m];rfl
  clear m;have out:∀ (q:Env) (mem:Mem) (e1 n:E),aB q e1=(dr bs).1->aB q n=(dr bs).2->postOf mZ [.pointer (some ⟨a,0,none⟩)] [] [R1,R2] q mem (.tup [.one (.int .u64 e1),.one (.int .i64 n)]):=fun q mem e1 n h1 h2 _ =>
   ⟨[],[],rfl,rfl,⟨(bf fun k=>if k=0 then(dr bs).1 else(dr bs).2),by show Value.tuple #[.int .u64 (aB q e1),.int .i64 (aB q n)]=_;rw[h1,h2];rfl,zzT,zzT,zzT⟩,_,R1,R2,bs,bad,rfl,rfl,hIn,by show Value.tuple #[.int .u64 (aB q e1),.int .i64 (aB q n)]=_;rw[h1,h2]⟩
  have b:∀ (q:Env) (mem:Mem),uw bs=none->postOf mZ [.pointer (some ⟨a,0,none⟩)] [] [R1,R2] q mem (.tup [.one (.int .u64 (.lit 0)),.one (.int .i64 (.lit 0))]):=fun q mem h=>out q mem _ _ (by unfold dr;rw[h];rfl) (by unfold dr;rw[h];rfl);have B:Int.toNat 0=0:=rfl;simp only[go_sem,Nat.reduceAdd,B];rw[v0,H,aar,t,Ss hx];refine⟨ah,rfl,ah,⟨0,0,rfl,rfl,ah,aA,rfl⟩,fun q g ⟨k,y',u,I,hk,K,s⟩=>?_⟩;rw[g.i 0,v0,g.h 2,H,g.h 1,O,aar,t,Ss hx,u];refine⟨fun T=>?_,fun U=>b q _ (by rw[s,adE ah];rfl)⟩;obtain⟨z,C⟩:∃ z,bs[k]?=some z:=⟨_,aax ah⟩;have V:=hby z (aaA C);obtain⟨e,rfl⟩:∃ e:Nat,z=e:=⟨z.toNat,ah⟩;obtain⟨v,o⟩:0<=x/\∀ j z,bs[j]?=some z->R2.cell x.toNat (y.toNat+j)=some (.int .u8 z):=by
   obtain⟨x',y',c',he,L,h⟩:=S;simp only[Value.slice.injEq]at he;obtain⟨hp,_,_⟩:=he;rcases h with ⟨_,h⟩ | ⟨h0,h⟩
   .rw[h]at C;simp at C
   .obtain⟨e1,n⟩:=lI hx F ah L hp;have n:=n ah;subst e1 n;exact⟨h0,h⟩
  have f:R2.cell x.toNat (y+(k:Int)).toNat=some (.int .u8 e):=by
   rw[<-o k _ C];congr 1;omega
  rw[VR hx,Xz v F,f];have d:=Iy (y:=y') C;rw[<-s]at d;have ev:cf (some (Value.int .u8 (e:Int)))=e:=rfl;rw[ev];have rest:∀ q':Env,q'=q->k<=9->(k=9->e<=1)->aB q' (.bits .or .u64 (.var 10) (.shl .u64 (.wrap .u64 (.bits .and .u8 (.hI 1 (.hP 2 (.var 0) (.lit 0) 0 0) (.add (.hP 2 (.var 0) (.lit 0) 0 1) (.var 11)) 0) (.lit 127))) (.wrap .i64 (.mul (.lit 7) (.var 11)))))=((y'+e%128*128 ^ k:Nat):Int):=by
   rintro q' rfl D w;have hn:=(W5 K D ah w).1;rw[ud,Rh,bP,bP,ud,fh,fG,bQ,fG,cG];simp only[al,ak];rw[g.i 0,v0,g.h 2,H,g.h 1,O,aar,B,abj,t,VR hx,Xz v F,abj,u,f,I];exact hn
  have hw:0<=IntKind.i64.wrap (7*(k:Int)):=by rw[wrap_i64 ah ah];omega
  have A:IntKind.i64.wrap (q.i 11+1)=k+1:=by rw[u,wrap_i64 ah ah]
  have fin:∀ mem,uw bs=some (y'+e*128 ^ k,k+1)->e<128->k<=9->(k=9->e<=1)->postOf mZ [.pointer (some ⟨a,0,none⟩)] [] [R1,R2] q mem (.tup [.one (.int .u64 (.bits .or .u64 (.var 10) (.shl .u64 (.wrap .u64 (.bits .and .u8 (.hI 1 (.hP 2 (.var 0) (.lit 0) 0 0) (.add (.hP 2 (.var 0) (.lit 0) 0 1) (.var 11)) 0) (.lit 127))) (.wrap .i64 (.mul (.lit 7) (.var 11)))))),.one (.int .i64 (.wrap .i64 (.add (.var 11) (.lit 1))))]):=by
   intro mem hn l D w;refine out q mem _ _ ?_ ?_
   .rw[rest q rfl D w,acC l];unfold dr;rw[hn];rfl
   .show IntKind.i64.wrap (q.i 11+1)=_;rw[A];unfold dr;rw[hn];rfl
  refine⟨v,F,ah,rfl,fun D=>⟨fun h1=>⟨hw,fun h0=>b q _ ?_,fun h0=>fin _ ?_ ah ah ah⟩,fun h1=>b q _ ?_⟩,fun D=>⟨fun M=>b q _ ?_,fun M=>⟨hw,fun l=>⟨fun h0=>⟨fun N=>b q _ ?_,fun N=>fin _ ?_ ah ah ah⟩,fun h0=>fin _ ?_ ah ah ah⟩,fun l=>⟨⟨k+1,y'+e%128*128 ^ k,?_,?_,ah,?_,?_⟩,?_⟩⟩⟩⟩
  .rw[d,aaG ah,aaR ah,aaR ah]
  .rw[d,aaG ah,aaR ah,aaG ah]
  .rw[d,aaR ah]
  .rw[d,aaR ah]
  .rw[d,aaG ah,aaR ah,aaR ah]
  .rw[d,aaG ah,aaR ah,aaG ah]
  .rw[d,aaG ah,aaR ah,aaG ah]
  .show IntKind.i64.wrap (q.i 11+1)=_;rw[A];omega
  .show aB q _=_;exact rest q rfl ah ah
  .rw[acL,acJ (128 ^ k) 128];have:e%128*128 ^ k<=127*128 ^ k:=acO _ ah;omega
  .rw[d,aaG ah,aaG ah]
  .show((bs.length:Int)-IntKind.i64.wrap (q.i 11+1)).toNat<_;rw[A];omega
def wW (h:Et R1 R2 p bs bad) (hp:mZ.post [p] Hs [R1,R2] v K F):v=.tuple #[.int .u64 (dr bs).1,.int .i64 (dr bs).2]:=by
 obtain⟨b,c,d,bs',bad',hx,a,hIn,hv⟩:=hp;have hx:p=b:=by simpa using hx
 have a:R1=c/\R2=d:=by simpa using a
 obtain⟨e1,e⟩:=a;subst hx e1 e;rw[(h.uniq hIn).1];exact hv
def J5 (a:Nat) (x y c:Int) (n:Nat) (bad:Bool):Hl:=Hl.one a (.cells #[.slice (az x y) ((n:Int)).toNat c.toNat,.bool bad] 203 (0,0))
structure Bf (H:Hl) (a:Nat) (x y c:Int) (F:Hl) (bs:List Int) (bad:Bool):Prop where
 rx:-1<=x
 ry:0<=y
 rc:(bs.length:Int)<=c
 byte:aq bs
 len:bs.length<=1000000
 rd:oI F (.slice (az x y) ((bs.length:Int)).toNat c.toNat) bs
 na:¬F.mem a
 hl:H=di [J5 a x y c bs.length bad,F]
def gZ (H:Hl) (p:Value) (bs:List Int) (bad:Bool):Prop:=∃ a x y c F,p=.pointer (some ⟨a,0,none⟩)/\Bf H a x y c F bs bad
def Gg (h:F.le G) (hr:oI F v bs):oI G v bs:=by
 obtain⟨x,y,c,e,b,hr⟩:=hr;refine⟨x,y,c,e,b,hr.imp id fun⟨h0,hc⟩=>⟨h0,fun j z d=>?_⟩⟩;have:=hc j z d;unfold Hl.cell at this ⊢;cases a:F x.toNat with
 | none=>rw[a]at this;cases this
 | some o=>rw[h _ _ a];rw[a]at this;exact this
section
variable {H F:Hl} {a:Nat} {x y c:Int} {bs:List Int} {bad:Bool}
def Bf.le (h:Bf H a x y c F bs bad):(J5 a x y c bs.length bad).le H/\F.le H:=by
 have hd:(J5 a x y c bs.length bad).bV F:=Hl.gJ.2 h.na;rw[h.hl];show(J5 a x y c bs.length bad).le ((J5 a x y c bs.length bad).un (F.un Hl.none))/\F.le ((J5 a x y c bs.length bad).un (F.un Hl.none));rw[Hl.ng];exact⟨Hl.bm _ _,Hl.bK hd⟩
def Bf.split (h:Bf H a x y c F bs bad):Et (J5 a x y c bs.length bad) F (.pointer (some ⟨a,0,none⟩)) bs bad:=by
 have b:=h.rd;rw[aar]at b;refine⟨a,x,y,c.toNat,rfl,?_,?_,h.rx,h.ry,b⟩
 .unfold J5 Hl.cell;rw[Hl.aU,aar];rfl
 .unfold J5 Hl.cell;rw[Hl.aU];rfl
def gZ.whole (h:gZ H p bs bad):Et H H p bs bad:=by
 obtain⟨a,x,y,c,F,rfl,h⟩:=h;obtain⟨b,d⟩:=h.le;obtain⟨k,x',y',c',e,h1,h2,f,g,i⟩:=h.split;simp only[Value.pointer.injEq,aaF,Addr.mk.injEq,aaP]at e;subst e;have up:∀ j v,(J5 a x y c bs.length bad).cell a j=some v->H.cell a j=some v:=by
  intro j v hv;have e:=b a _ (Hl.aU _ _);unfold J5 Hl.cell at hv;rw[Hl.aU]at hv;unfold Hl.cell;rw[e];exact hv
 exact⟨a,x',y',c',rfl,up 0 _ h1,up 1 _ h2,f,g,Gg d i⟩
def gZ.uniq (h:gZ H p bs bad) (h':gZ H p bs' bad'):bs=bs'/\bad=bad':=h.whole.uniq h'.whole
def gZ.byte (h:gZ H p bs bad):aq bs/\bs.length<=1000000:=by
 obtain⟨a,x,y,c,F,_,h⟩:=h;exact⟨h.byte,h.len⟩
end
def uh:Mem:=[.bj 0 [.sl (.var 1) (.var 2) (.var 3) (.var 4),.bool (.bvar 6)] 203,.hp 7 [] [.var 1] []]
def og (a:Nat) (x y c:Int) (bs:List Int) (bad:Bool) (F:Hl) (z:Int):Env:=aL [(a:Int),x,y,bs.length,c,z] bad [Hl.none,Hl.none,Hl.none,Hl.none,Hl.none,Hl.none,Hl.none,F]
section
variable {H F:Hl} {a:Nat} {x y c:Int} {bs:List Int} {bad:Bool}
def x7 (h:Bf H a x y c F bs bad) (z:Int):Entry (og a x y c bs bad F z) uh [H] []:=by
 obtain⟨b,d⟩:=h.le;have hb:(bL.bj 0 [.sl (.var 1) (.var 2) (.var 3) (.var 4),.bool (.bvar 6)] 203).hl (og a x y c bs bad F z)=J5 a x y c bs.length bad:=by
  show Hl.one ((a:Int)).toNat (.cells #[.slice (az x y) ((bs.length:Int)).toNat c.toNat,.bool bad] 203 (0,0))=_;rw[aar];rfl
 refine⟨fun r hr ho=>⟨H,aF,?_⟩,fun r hr ho=>?_,?_,fun r hr=>?_⟩
 .simp only[uh,aaN,aaX,abC]at hr;rcases hr with rfl | rfl
  .rw[hb];exact b
  .exact d
 .simp only[uh,aaN,aaX,abC]at hr;rcases hr with rfl | rfl<;>cases ho
 .unfold uh;refine List.Pairwise.cons (fun r hr _ _=>?_) (List.Pairwise.cons (fun r hr=>by cases hr) List.Pairwise.nil);rw[aaJ]at hr;subst hr;rw[hb];exact Hl.gJ.2 h.na
 .simp only[uh,aaN,aaX,abC]at hr;rcases hr with rfl | rfl
  .show(0:Int)<=(a:Int);omega
  .trivial
def zB (h:Bf H a x y c F bs bad) (b:ai 8 (og a x y c bs bad F z) q) {Y:E} (d:aB q Y=y') (hN:aB q N=bs'.length) (e:aB q C=c') (f:bh q g=bad') (j:0<=y') (hc:(bs'.length:Int)<=c') (hb:aq bs') (hl:bs'.length<=bs.length) (hr:oI F (.slice (az x y') ((bs'.length:Int)).toNat c'.toNat) bs') :
 gZ (xA q (.bj 0 [.sl (.var 1) Y N C,.bool g] 203::.hp 7 v7 t7 []::t) [0,1]) (.pointer (some ⟨a,0,none⟩)) bs' bad':=by
 have hlen:=h.len;refine⟨a,x,y',c',F,rfl,h.rx,j,hc,hb,ah,hr,h.na,?_⟩;show di [Hl.one (q.i 0).toNat (.cells #[.slice (az (q.i 1) (aB q Y)) (aB q N).toNat (aB q C).toNat,.bool (bh q g)] 203 (0,0)),q.h 7]=_;rw[d,hN,e,f,b.i 0,b.i 1,b.h 7];show di [Hl.one ((a:Int)).toNat _,F]=_;rw[aar];rfl
def ic (h:aq bs) (m:Nat):aq (bs.drop m):=fun b hb=>h b (abH hb)
def rG (h:Bf H a x y c F bs bad) (hm:m<=bs.length):oI F (.slice (az x (if c=m then y else y+m)) (((bs.drop m).length:Int)).toNat (c-m).toNat) (bs.drop m):=by
 obtain⟨_,hr⟩:=h.rd.at h.rx h.ry ah;have e:=h.ry;refine⟨x,if c=m then y else y+m,(c-m).toNat,by rw[aar],by split<;>omega,?_⟩;rcases hr with ⟨h1,h2⟩ | ⟨h0,hc⟩
 .left;exact⟨h1,by rw[h2];simp⟩
 .right;refine⟨h0,fun j z b=>?_⟩;rw[aa9]at b;have f:=(aaH.1 b).1;have d:=h.rc;rw[aaG ah,show(y+(m:Int)).toNat+j=y.toNat+(m+j)by omega];exact hc _ z b
end
def oc (q:Env) (C M Y:E):aB q (.ite (.eq C M) Y (.add Y M))=if aB q C=aB q M then aB q Y else aB q Y+aB q M:=by
 simp only[cO,gM,bQ]
def oh (bs:List Int) (bad:Bool) (most:Int):Int×List Int×Bool:=if bad=true\/(dr bs).2=0\/most<((dr bs).1:Int)then(0,bs,true)else((dr bs).1,bs.drop (dr bs).2,false)
def mW (bs:List Int) (bad:Bool) (n:Int):List Int×List Int×Bool:=if bad=true\/n<0\/(bs.length:Int)<n then([],bs,true)else(bs.take n.toNat,bs.drop n.toNat,false)
def bn (bs:List Int) (bad:Bool) (most:Int):List Int×List Int×Bool :=
 if bad=true\/(dr bs).2=0\/most<0\/min (min most 4096) ((bs.length:Int)-(dr bs).2)<((dr bs).1:Int)then([],bs,true)else((bs.drop (dr bs).2).take (dr bs).1,bs.drop ((dr bs).2+(dr bs).1),false)
def kT (bs:List Int) (bad:Bool):Bool×List Int×Bool:=if bad=true\/bs=[]\/1<bs.getD 0 0 then(false,bs,true)else(decide (bs.getD 0 0=1),bs.drop 1,false)
def Kn (hb:aq bs):(dr bs).2<=bs.length/\(dr bs).1<18446744073709551616:=by
 unfold dr;cases h:uw bs with
 | none=>exact⟨abJ _,aA⟩
 | some r =>
  obtain⟨x,m⟩:=r;obtain⟨_,h2,_,a⟩:=BV hb h;exact⟨h2,a⟩
def po:Sx.Spec where
 fn:=80
 own:=[]
 rd:=[0]
 res:=[.one .ptr]
 pre:=fun xs Hs Rs=>∃ u bs R,xs=[u]/\Rs=[R]/\fL R u bs/\aq bs/\bs.length<=1000000
 post:=fun xs Hs Rs v Hs' F=>∃ u bs R,xs=[u]/\Rs=[R]/\fL R u bs/\gZ F v bs false
def fP:Sx.Spec where
 fn:=110
 own:=[.arg 0]
 rd:=[]
 res:=[.one (.int .u64)]
 pre:=fun xs Hs Rs=>∃ p most H bs bad,xs=[p,.int .u64 most]/\Hs=[H]/\gZ H p bs bad
 post:=fun xs Hs Rs v Hs' F=>∃ p most H bs bad H',xs=[p,.int .u64 most]/\Hs=[H]/\gZ H p bs bad/\Hs'=[H']/\gZ H' p (oh bs bad most).2.1 (oh bs bad most).2.2/\v=.int .u64 (oh bs bad most).1
def H8:List Sx.Spec:=[mZ,gG]
def zD:∀ t∈H8,t.OK Tryz.prog:=av IA <| av mc <| bW
def Yc:mZ.res=[.one (.int .u64),.one (.int .i64)]:=rfl
def Yd:gG.res=[.one .sl]:=rfl
def WM:(aK 0 [Cp.one .sl]≠[])=True:=by simp [aK,Cp.roots,Ck.root]
def Up:aG Tryz.prog H8 fP.fn where
 Λ:=aC
 args:=[TP (.var 0) (.lit 0),TI .u64 (.var 5)]
 mem:=uh
 nv:=8
def Fm (h0:q.i 0=a) (h1:q.i 1=x) (h2:q.i 2=y) (d:q.i 3=n) (e:q.i 4=c) (f:q.b 6=bad) :
 Hl.one (q.i 0).toNat (.cells #[.slice (az (q.i 1) (q.i 2)) (q.i 3).toNat (q.i 4).toNat,.bool (bh q (.bvar 6))] 203 (0,0))=J5 a x y c n bad:=by
 rw[bD,h0,h1,h2,d,e,f,aar];rfl
def Ry:fP.OK Tryz.prog:=by
 refine Spec.aV (Γ:=H8) zD ?_;rintro xs Hs Rs B k ⟨p,most,H,bs,bad,rfl,rfl,a,x,y,c,F,rfl,h⟩;have e1:Rs=[]:=aaz.1 k;subst e1;refine⟨Up,og a x y c bs bad F most,fun _ _=>True,fun _ _=>0,?_,x7 h most,(fun _ h=>nomatch h),?_⟩
 .show [Value.pointer (az (a:Int) 0),Value.int .u64 most]=_;rw[gT]
 .refine aG.read [] [] [] ?_;generalize d:og a x y c bs bad F most=J;have v0:J.i 0=a:=by rw[<-d];rfl
  have v1:J.i 1=x:=by rw[<-d];rfl
  have v2:J.i 2=y:=by rw[<-d];rfl
  have v3:J.i 3=bs.length:=by rw[<-d];rfl
  have v4:J.i 4=c:=by rw[<-d];rfl
  have v5:J.i 5=most:=by rw[<-d];rfl
  have l:J.b 6=bad:=by rw[<-d];rfl
  have D:J.h 7=F:=by rw[<-d];rfl
  obtain⟨n,G⟩:=Kn h.byte;have I:=h.rx;have o:=h.ry;have s:=h.rc;have out:∀ (q:Env) (Y N C g e:E) (m:Nat) (t:Mem) (bad':Bool) (r:Int),ai 8 J q->m<=bs.length->aB q Y=(if c=m then y else y+m)->aB q N=bs.length-m->aB q C=c-m->bh q g=bad'->aB q e=r->oh bs bad most=(r,bs.drop m,bad') ->
   postOf fP [.pointer (some ⟨a,0,none⟩),.int .u64 most] [H] [] q (.bj 0 [.sl (.var 1) Y N C,.bool g] 203::.hp 7 [] [.var 1] []::t) (.sv (.one (.int .u64 e))):=by
   intro q Y N C g e m t bad' r f hm K hN L M he hs _;rw[<-d]at f;refine⟨[[0,1]],[],rfl,rfl,⟨(bf fun _=>r),by show Value.int .u64 (aB q e)=_;rw[he];rfl,zzT,zzT⟩,_,most,H,bs,bad,_,rfl,rfl,⟨a,x,y,c,F,rfl,h⟩,rfl,?_,by show Value.int .u64 (aB q e)=_;rw[hs,he]⟩;rw[hs];have hd:((bs.drop m).length:Int)=bs.length-m:=by rw[aa7];omega
   exact zB h f K (by rw[hN,hd]) L M (by split<;>omega) (by rw[hd];omega) (ic h.byte m) (by rw[aa7];omega) (rG h hm)
  have same:∀ (q:Env) (t:Mem),ai 8 J q->bad=true\/(dr bs).2=0\/most<((dr bs).1:Int)->postOf fP [.pointer (some ⟨a,0,none⟩),.int .u64 most] [H] [] q (.bj 0 [.sl (.var 1) (.var 2) (.var 3) (.var 4),.bool .tt] 203::.hp 7 [] [.var 1] []::t) (.sv (.one (.int .u64 (.lit 0)))):=by
   intro q t f hf;refine out q _ _ _ _ _ 0 t true 0 f (abJ _) ?_ ?_ ?_ rfl rfl ?_
   .show q.i 2=_;rw[f.i 2,v2];split<;>omega
   .show q.i 3=_;rw[f.i 3,v3];omega
   .show q.i 4=_;rw[f.i 4,v4];omega
   .unfold oh;rw[aaR hf];rfl
  simp only[go_sem,Nat.reduceAdd,H8,Yc,Yd,WM];rw[Fm v0 v1 v2 v3 v4 l,v0,gT,D];refine⟨⟨_,_,_,bs,bad,rfl,rfl,h.split,h.byte,h.len⟩,fun q g ⟨O,hp,_,_⟩=>?_⟩;have hv:=wW h.split hp;have hv:q.i 8=(dr bs).1/\q.i 9=(dr bs).2:=by simpa using hv
  obtain⟨z,j⟩:=hv;rw[g.b 6,l,j,g.i 5,v5,z,g.i 1,v1,g.i 2,v2,g.i 3,v3,g.i 4,v4];refine⟨fun hb=>⟨fun A=>⟨fun u=>same q _ g (Or.inr (Or.inr u)),fun v=>⟨ah,o,ah,ah,s,?_⟩⟩,fun A=>same q _ g (Or.inr (Or.inl ah))⟩,fun hb=>same q _ g (Or.inl hb)⟩;refine out q _ _ _ _ _ (dr bs).2 _ false (dr bs).1 g n ?_ ?_ ?_ ?_ z ?_
  .rw[oc,al,al,al,j,g.i 4,v4,g.i 2,v2]
  .show q.i 3-q.i 9=_;rw[j,g.i 3,v3]
  .show q.i 4-q.i 9=_;rw[j,g.i 4,v4]
  .show q.b 6=_;rw[g.b 6,l];exact abZ.2 hb
  .unfold oh;have w:¬(bad=true\/(dr bs).2=0\/most<((dr bs).1:Int)):=by
    rintro(e | e | e)
    .exact hb e
    .exact A ah
    .exact v e
   rw[aaG w]
def Ar:aG Tryz.prog H8 po.fn where
 Λ:=aC
 args:=[.sv (.one (.sl (.var 0) (.var 1) (.var 2) (.var 3)))]
 mem:=[.ro 4 [.var 0] false]
 nv:=5
def oS (h:fL R u bs) (hp:gG.post [u] Hs [R] v K F):bZ F 5 v bs:=by
 obtain⟨b,bs',R',hx,a,hB,c⟩:=hp;have hx:u=b:=by simpa using hx
 have a:R=R':=by simpa using a
 subst hx a;rw[h.uniq hB];exact c
def RD {e:TypeId} (h:bZ F e (.slice (az x y) l.toNat c.toNat) bs) (hl:0<=l) (hc:0<=c):l<=c:=by
 obtain⟨_,h⟩:=h;rcases h with ⟨h,_⟩ | ⟨g,cap,cur,h,_,hle,_⟩
 .simp only[Value.slice.injEq]at h;omega
 .simp only[Value.slice.injEq]at h;omega
def vJ:po.OK Tryz.prog:=by
 refine Spec.aV (Γ:=H8) zD ?_;rintro xs Hs Rs j m ⟨u,bs,R,rfl,rfl,b,hby,hlen⟩;have n:Hs=[]:=aaz.1 j;subst n;obtain⟨x,y,c,rfl,s,t⟩:=id b;refine⟨Ar,aL [x,y,bs.length,c] false [Hl.none,Hl.none,Hl.none,Hl.none,R],fun _ _=>True,fun _ _=>0,?_,⟨?_,?_,?_,?_⟩,(fun _ h=>nomatch h),?_⟩
 .show [Value.slice (az x y) ((bs.length:Int)).toNat ((c:Int)).toNat]=_;rw[aar,aar]
 .intro r hr ho;simp [Ar]at hr;subst hr;cases ho
 .intro r hr ho;simp [Ar]at hr;subst hr;exact⟨R,aF,Hl.le_refl _⟩
 .simp [Ar]
 .intro r hr;simp [Ar]at hr;subst hr;trivial
 .refine aG.read [] [] [] ?_;generalize a:aL [x,y,bs.length,c] false [Hl.none,Hl.none,Hl.none,Hl.none,R]=J;have v0:J.i 0=x:=by rw[<-a];rfl
  have v1:J.i 1=y:=by rw[<-a];rfl
  have v2:J.i 2=bs.length:=by rw[<-a];rfl
  have v3:J.i 3=c:=by rw[<-a];rfl
  have o:J.h 4=R:=by rw[<-a];rfl
  clear a;simp only[go_sem,Nat.reduceAdd,H8,Yc,Yd,WM];rw[v0,v1,v2,v3,o,aar,aar];refine⟨⟨_,bs,R,rfl,rfl,b,hlen⟩,fun q1 v ⟨w,hp,p,⟨⟨n5,n6,n7,n8⟩,_⟩⟩ q2 g q hd=>?_⟩;have l:=oS b hp;rw[<-p zzT]at l;have n5:-1<=q1.i 5:=n5;have n6:0<=q1.i 6:=n6;have n7:0<=q1.i 7:=n7;have n8:0<=q1.i 8:=n8;have e:=RD l n7 n8;have f:=l.rd;have hl:=(f.at n5 n6 n7).1;rw[hl]at f e;have d:=hd 2 1 _ _ aA rfl rfl rfl;have d:(Hl.one (q2.i 9).toNat _).bV (q2.h 5):=d;rw[g.h 5]at d;refine⟨[],[2,1],rfl,rfl,⟨(bf fun k=>if k=0 then q2.i 9 else 0),rfl,⟨by show -1<=q2.i 9;omega,aaM _⟩,zzT⟩,_,bs,R,rfl,rfl,b,(q2.i 9).toNat,q1.i 5,q1.i 6,q1.i 8,q1.h 5,?_,⟨n5,n6,e,hby,hlen,f,Hl.gJ.1 d,?_⟩⟩
  .show Value.pointer (az (q2.i 9) 0)=_;rw[au q];rfl
  .show di [Hl.one (q2.i 9).toNat (.cells #[.slice (az (q2.i 5) (q2.i 6)) (q2.i 7).toNat (q2.i 8).toNat,.bool false] 203 (0,0)),q2.h 5]=_;rw[g.i 5,g.i 6,g.i 7,g.i 8,g.h 5,hl];rfl
def KC (h:Bf H a x y c F bs bad) (hm:m+k<=bs.length) (c':Nat):fL F (.slice (az x (if c=m then y else y+m)) k c') ((bs.drop m).take k):=by
 obtain⟨x',y',c2,he,d,hr⟩:=(rG h (m:=m) ah).w;simp only[Value.slice.injEq]at he;refine⟨x',y',c',?_,d,?_⟩
 .rw[he.1,aaU,aa7,adK ah]
 .rcases hr with h0 | ⟨h0,hc⟩
  .left;rw[h0];simp
  .right;refine⟨h0,fun j z b=>hc j z ?_⟩;rw[abf]at b;split at b
   .exact b
   .cases b
def IQ:Sx.Spec where
 fn:=126
 own:=[.arg 0]
 rd:=[]
 res:=[.one .sl]
 pre:=fun xs Hs Rs=>∃ p n H bs bad,xs=[p,.int .i64 n]/\Hs=[H]/\gZ H p bs bad
 post:=fun xs Hs Rs v Hs' F=>∃ p n H bs bad H',xs=[p,.int .i64 n]/\Hs=[H]/\gZ H p bs bad/\Hs'=[H']/\gZ H' p (mW bs bad n).2.1 (mW bs bad n).2.2/\bZ F 5 v (mW bs bad n).1
def ZF:aG Tryz.prog H8 IQ.fn where
 Λ:=aC
 args:=[TP (.var 0) (.lit 0),TI .i64 (.var 5)]
 mem:=uh
 nv:=8
def qy (F:Hl) (e:TypeId):bZ F e (.slice none 0 0) []:=⟨rfl,Or.inl ⟨rfl,rfl⟩⟩
def R8:IQ.OK Tryz.prog:=by
 refine Spec.aV (Γ:=H8) zD ?_;rintro xs Hs Rs z l ⟨p,n,H,bs,bad,rfl,rfl,a,x,y,c,F,rfl,h⟩;have e1:Rs=[]:=aaz.1 l;subst e1;refine⟨ZF,og a x y c bs bad F n,fun _ _=>True,fun _ _=>0,?_,x7 h n,(fun _ h=>nomatch h),?_⟩
 .show [Value.pointer (az (a:Int) 0),Value.int .i64 n]=_;rw[gT]
 .refine aG.read [] [] [] ?_;generalize d:og a x y c bs bad F n=J;have v1:J.i 1=x:=by rw[<-d];rfl
  have v2:J.i 2=y:=by rw[<-d];rfl
  have v3:J.i 3=bs.length:=by rw[<-d];rfl
  have v4:J.i 4=c:=by rw[<-d];rfl
  have v5:J.i 5=n:=by rw[<-d];rfl
  have A:J.b 6=bad:=by rw[<-d];rfl
  have B:J.h 7=F:=by rw[<-d];rfl
  have o:=h.rx;have f:=h.ry;have j:=h.rc;have fail:∀ (t:Mem),bad=true\/n<0\/(bs.length:Int)<n->postOf IQ [.pointer (some ⟨a,0,none⟩),.int .i64 n] [H] [] J (.bj 0 [.sl (.var 1) (.var 2) (.var 3) (.var 4),.bool .tt] 203::.hp 7 [] [.var 1] []::t) (.sv (.one (.sl (.lit (-1)) (.lit 0) (.lit 0) (.lit 0)))):=by
   intro t hf _;have C:ai 8 (og a x y c bs bad F n) J:=by rw[d];exact ai.refl _ _
   have hs:mW bs bad n=([],bs,true):=by unfold mW;rw[aaR hf]
   refine⟨[[0,1]],[],rfl,rfl,⟨(bf fun k=>if k=0 then -1 else 0),rfl,⟨aaM _,aaM _,aaM _,aaM _⟩,zzT⟩,_,n,H,bs,bad,_,rfl,rfl,⟨a,x,y,c,F,rfl,h⟩,rfl,?_,?_⟩
   .rw[hs];exact zB h C (show aB J (.var 2)=y from v2) (show aB J (.var 3)=_ from v3) (show aB J (.var 4)=c from v4) rfl f j h.byte (aaS _) h.rd
   .rw[hs];exact qy _ _
  simp only[go_sem,Nat.reduceAdd,H8,Yc,Yd,WM];rw[A,v1,v2,v3,v4,v5,B];refine⟨fun hb=>⟨fun hn=>⟨ah,fun r=>fail _ (Or.inr (Or.inr r)),fun s=>⟨o,f,ah,?_⟩⟩,fun hn=>fail _ (Or.inr (Or.inl hn))⟩,fun hb=>fail _ (Or.inl hb)⟩;have u:=KC h (m:=0) (k:=n.toNat) ah c.toNat;rw[ac7,show(if c=((0:Nat):Int)then y else y+((0:Nat):Int))=y by split<;>omega]at u;refine⟨⟨_,_,F,rfl,rfl,u,by rw[aaU];have:=h.len;omega⟩,fun q g ⟨E,hp,D,v⟩=>?_⟩;have w:=oS u hp;rw[<-D zzT]at w;rw[g.i 5,g.i 3,g.i 4,v3,v4,v5];refine⟨ah,j,fun _=>?_⟩;have hs:mW bs bad n=(bs.take n.toNat,bs.drop n.toNat,false):=by
   unfold mW;have:¬(bad=true\/n<0\/(bs.length:Int)<n):=by
    rintro(e | e | e)
    .exact hb e
    .exact hn e
    .exact s e
   rw[aaG this]
  rw[<-d]at g;refine⟨[[0,1]],[2],rfl,rfl,⟨(bf fun k=>q.i (8+k)),rfl,v.1,zzT⟩,_,n,H,bs,bad,_,rfl,rfl,⟨a,x,y,c,F,rfl,h⟩,rfl,?_,?_⟩
  .rw[hs];have hd:((bs.drop n.toNat).length:Int)=bs.length-n:=by rw[aa7];omega
   have hr:=rG h (m:=n.toNat) ah;rw[show((n.toNat:Nat):Int)=n by omega]at hr;refine zB h g ?_ ?_ ?_ ?_ (y':=if c=n then y else y+n) (by split<;>omega) (c':=c-n) (by rw[hd];omega) (ic h.byte _) (by rw[aa7];omega) hr
   .rw[oc,al,al,al,g.i 4,g.i 5,g.i 2];rfl
   .show q.i 3-q.i 5=_;rw[hd,g.i 3,g.i 5];rfl
   .show q.i 4-q.i 5=_;rw[g.i 4,g.i 5];rfl
   .show q.b 6=_;rw[g.b 6];exact abZ.2 hb
  .rw[hs];show bZ (di [q.h 8]) _ _ _;rw[aN];exact w
def xx:Sx.Spec where
 fn:=82
 own:=[.arg 0]
 rd:=[]
 res:=[.one .sl]
 pre:=fun xs Hs Rs=>∃ p most H bs bad,xs=[p,.int .i64 most]/\Hs=[H]/\gZ H p bs bad/\most<=1000000
 post:=fun xs Hs Rs v Hs' F=>∃ p most H bs bad H',xs=[p,.int .i64 most]/\Hs=[H]/\gZ H p bs bad/\Hs'=[H']/\gZ H' p (bn bs bad most).2.1 (bn bs bad most).2.2/\bZ F 5 v (bn bs bad most).1
def XE:aG Tryz.prog H8 xx.fn where
 Λ:=aC
 args:=[TP (.var 0) (.lit 0),TI .i64 (.var 5)]
 mem:=uh
 nv:=8
def Rj {a b:Int} : (if a<b then a else b)=min a b:=by split<;>omega
def GN:xx.OK Tryz.prog:=by
 refine Spec.aV (Γ:=H8) zD ?_;rintro xs Hs Rs aa L ⟨p,most,H,bs,bad,rfl,rfl,⟨a,x,y,c,F,rfl,h⟩,M⟩;have e1:Rs=[]:=aaz.1 L;subst e1;refine⟨XE,og a x y c bs bad F most,fun _ _=>True,fun _ _=>0,?_,x7 h most,(fun _ h=>nomatch h),?_⟩
 .show [Value.pointer (az (a:Int) 0),Value.int .i64 most]=_;rw[gT]
 .refine aG.read [] [] [] ?_;generalize d:og a x y c bs bad F most=J;have v0:J.i 0=a:=by rw[<-d];rfl
  have v1:J.i 1=x:=by rw[<-d];rfl
  have v2:J.i 2=y:=by rw[<-d];rfl
  have v3:J.i 3=bs.length:=by rw[<-d];rfl
  have v4:J.i 4=c:=by rw[<-d];rfl
  have v5:J.i 5=most:=by rw[<-d];rfl
  have N:J.b 6=bad:=by rw[<-d];rfl
  have Z:J.h 7=F:=by rw[<-d];rfl
  obtain⟨ab,ad⟩:=Kn h.byte;have s:=h.rx;have v:=h.ry;have w:=h.rc;have hlen:=h.len;have fail:∀ (q:Env) (t:Mem),ai 8 J q->bad=true\/(dr bs).2=0\/most<0\/min (min most 4096) ((bs.length:Int)-(dr bs).2)<((dr bs).1:Int)->postOf xx [.pointer (some ⟨a,0,none⟩),.int .i64 most] [H] [] q (.bj 0 [.sl (.var 1) (.var 2) (.var 3) (.var 4),.bool .tt] 203::.hp 7 [] [.var 1] []::t) (.sv (.one (.sl (.lit (-1)) (.lit 0) (.lit 0) (.lit 0)))):=by
   intro q t z hf _;have hs:bn bs bad most=([],bs,true):=by unfold bn;rw[aaR hf]
   refine⟨[[0,1]],[],rfl,rfl,⟨(bf fun k=>if k=0 then -1 else 0),rfl,⟨aaM _,aaM _,aaM _,aaM _⟩,zzT⟩,_,most,H,bs,bad,_,rfl,rfl,⟨a,x,y,c,F,rfl,h⟩,rfl,?_,?_⟩
   .rw[hs];have k2:aB q (.var 2)=y:=by rw[al,z.i 2,v2]
    have k3:aB q (.var 3)=bs.length:=by rw[al,z.i 3,v3]
    have k4:aB q (.var 4)=c:=by rw[al,z.i 4,v4]
    rw[<-d]at z;exact zB h z k2 k3 k4 rfl v w h.byte (aaS _) h.rd
   .rw[hs];exact qy _ _
  simp only[go_sem,Nat.reduceAdd,H8,Yc,Yd,WM];rw[Fm v0 v1 v2 v3 v4 N,v0,gT,Z];refine⟨⟨_,_,_,bs,bad,rfl,rfl,h.split,h.byte,h.len⟩,fun q g ⟨F1,hp,_,_⟩=>?_⟩;have hv:=wW h.split hp;have hv:q.i 8=(dr bs).1/\q.i 9=(dr bs).2:=by simpa using hv
  obtain⟨O,r⟩:=hv;generalize hm:(dr bs).2=m at *;generalize hk:(dr bs).1=k at *;have j1:q.i 1=x:=by rw[g.i 1,v1]
  have P:q.i 2=y:=by rw[g.i 2,v2]
  have j3:q.i 3=bs.length:=by rw[g.i 3,v3]
  have Q:q.i 4=c:=by rw[g.i 4,v4]
  have j5:q.i 5=most:=by rw[g.i 5,v5]
  rw[g.b 6,N,r,O,j1,P,j3,Q,j5];rw[wrap_i64 (n:=(bs.length:Int)-(m:Int)) ah ah];simp only[Rj];have A:min ((bs.length:Int)-(m:Int)) (min 4096 most)=min (min most 4096) ((bs.length:Int)-(m:Int)):=ah;rw[A];refine⟨fun hb=>⟨fun hz=>⟨fun B=>⟨ah,fun C=>?_,fun D=>?_⟩,fun B=>fail q _ g (Or.inr (Or.inr (Or.inl B)))⟩,fun hz=>fail q _ g (Or.inr (Or.inl ah))⟩,fun hb=>fail q _ g (Or.inl hb)⟩
  .rw[oH ah ah]at C;exact fail q _ g (Or.inr (Or.inr (Or.inr C)))
  .rw[oH ah ah]at D;have j:IntKind.i64.wrap (k:Int)=k:=wrap_i64 ah ah;have hY:aB q (.ite (.eq (.var 4) (.var 9)) (.var 2) (.add (.var 2) (.var 9)))=if c=(m:Int)then y else y+m:=by
    rw[oc,al,al,al,Q,P,r]
   have S:∀ q',ai 10 q q'->aB q' (.ite (.eq (.var 4) (.var 9)) (.var 2) (.add (.var 2) (.var 9)))=if c=(m:Int)then y else y+m:=by
    intro q' T;rw[oc,al,al,al,T.i 4,T.i 2,T.i 9,Q,P,r]
   rw[j];refine⟨s,v,ah,ah,w,fun _=>⟨ah,fun E=>absurd E ah,fun _=>?_⟩,fun G=>absurd G ah⟩;have hs:bn bs bad most=((bs.drop m).take k,bs.drop (m+k),false):=by
    unfold bn;rw[hm,hk];have:¬(bad=true\/m=0\/most<0\/min (min most 4096) ((bs.length:Int)-(m:Int))<(k:Int)):=by
     rintro(e | e | e | e)
     .exact hb e
     .exact hz ah
     .omega
     .exact D e
    rw[aaG this]
   have U:m+k<=bs.length:=ah;have ht:=KC h (m:=m) (k:=k) U (c-m).toNat;have V:=rG h (m:=m) ah;have ae:((bs.drop m).length:Int)=bs.length-m:=by rw[aa7];omega
   have I:0<=(if c=(m:Int)then y else y+m):=by split<;>omega
   have h2:Bf (di [J5 a x (if c=(m:Int)then y else y+m) (c-m) (bs.drop m).length false,F]) a x (if c=(m:Int)then y else y+m) (c-m) F (bs.drop m) false :=
    ⟨s,I,ah,ic h.byte m,by rw[aa7];omega,V,h.na,rfl⟩
   have K:=rG h2 (m:=k) (by rw[aa7];omega);rw[acE]at K;rw[g.h 7,Z];refine⟨I,ah,⟨_,_,F,rfl,rfl,(by rw[aar];exact ht),by rw[aaU,aa7];omega⟩,fun q2 l ⟨F2,W,X,Y⟩=>?_⟩;have hO:=oS (R:=F) (u:=.slice (az x (if c=(m:Int)then y else y+m)) ((k:Int)).toNat (c-m).toNat) (by rw[aar];exact ht) W;rw[<-X zzT]at hO;have o:ai 8 J q2:=g.tr l;rw[l.i 8,l.i 9,o.i 3,o.i 4,O,r,v3,v4,j];refine⟨ah,ah,fun _=>?_⟩;have eC:aB q2 (.sub (.var 4) (.var 9))=c-m:=by
    show q2.i 4-q2.i 9=_;rw[o.i 4,l.i 9,v4,r]
   have eN:aB q2 (.sub (.var 3) (.var 9))=bs.length-m:=by
    show q2.i 3-q2.i 9=_;rw[o.i 3,l.i 9,v3,r]
   have eK:aB q2 (.wrap .i64 (.var 8))=k:=by
    show IntKind.i64.wrap (q2.i 8)=_;rw[l.i 8,O,j]
   have f:((bs.drop (m+k)).length:Int)=bs.length-m-k:=by rw[aa7];omega
   have g6:bh q2 (.bvar 6)=false:=by rw[bD,o.b 6,N];exact abZ.2 hb
   rw[<-d]at o;refine⟨[[0,1]],[2],rfl,rfl,⟨(bf fun k=>q2.i (10+k)),rfl,Y.1,zzT⟩,_,most,H,bs,bad,_,rfl,rfl,⟨a,x,y,c,F,rfl,h⟩,rfl,?_,?_⟩
   .rw[hs];refine zB h o ?_ ?_ ?_ g6 (y':=if c-(m:Int)=k then(if c=(m:Int)then y else y+m)else(if c=(m:Int)then y else y+m)+k) (by split<;>omega) (c':=c-m-k) (by rw[f];omega) (ic h.byte _) (by rw[aa7];omega) K
    .rw[oc,eC,eK,S q2 l]
    .rw[dm,eN,eK,f]
    .rw[dm,eC,eK]
   .rw[hs];show bZ (di [q2.h 10]) _ _ _;rw[aN];exact hO
def zl:Sx.Spec where
 fn:=113
 own:=[.arg 0]
 rd:=[]
 res:=[.one .bool]
 pre:=fun xs Hs Rs=>∃ p H bs bad,xs=[p]/\Hs=[H]/\gZ H p bs bad
 post:=fun xs Hs Rs v Hs' F=>∃ p H bs bad H',xs=[p]/\Hs=[H]/\gZ H p bs bad/\Hs'=[H']/\gZ H' p (kT bs bad).2.1 (kT bs bad).2.2/\v=.bool (kT bs bad).1
def Wx:aG Tryz.prog H8 zl.fn where
 Λ:=aC
 args:=[TP (.var 0) (.lit 0)]
 mem:=uh
 nv:=8
def N1:zl.OK Tryz.prog:=by
 refine Spec.aV (Γ:=H8) zD ?_;rintro xs Hs Rs E r ⟨p,H,bs,bad,rfl,rfl,a,x,y,c,F,rfl,h⟩;have e1:Rs=[]:=aaz.1 r;subst e1;refine⟨Wx,og a x y c bs bad F 0,fun _ _=>True,fun _ _=>0,?_,x7 h 0,(fun _ h=>nomatch h),?_⟩
 .show [Value.pointer (az (a:Int) 0)]=_;rw[gT]
 .refine aG.read [] [] [] ?_;generalize d:og a x y c bs bad F 0=J;have v1:J.i 1=x:=by rw[<-d];rfl
  have v2:J.i 2=y:=by rw[<-d];rfl
  have v3:J.i 3=bs.length:=by rw[<-d];rfl
  have v4:J.i 4=c:=by rw[<-d];rfl
  have B:J.b 6=bad:=by rw[<-d];rfl
  have C:J.h 7=F:=by rw[<-d];rfl
  have s:=h.rx;have g:=h.ry;have l:=h.rc;have D:ai 8 (og a x y c bs bad F 0) J:=by rw[d];exact ai.refl _ _
  have fail:∀ (t:Mem),bad=true\/bs=[]\/1<bs.getD 0 0->postOf zl [.pointer (some ⟨a,0,none⟩)] [H] [] J (.bj 0 [.sl (.var 1) (.var 2) (.var 3) (.var 4),.bool .tt] 203::.hp 7 [] [.var 1] []::t) (.sv (.one (.bool .ff))):=by
   intro t hf _;have hs:kT bs bad=(false,bs,true):=by unfold kT;rw[aaR hf]
   refine⟨[[0,1]],[],rfl,rfl,⟨(bf fun _=>0),rfl,zzT,zzT⟩,_,H,bs,bad,_,rfl,rfl,⟨a,x,y,c,F,rfl,h⟩,rfl,?_,by rw[hs];rfl⟩;rw[hs];exact zB h D (show aB J (.var 2)=y from v2) (show aB J (.var 3)=_ from v3) (show aB J (.var 4)=c from v4) rfl g l h.byte (aaS _) h.rd
  simp only[go_sem,Nat.reduceAdd];rw[B,v1,v2,v3,v4,C];refine⟨fun hb=>⟨ah,fun u=>?_,fun u=>fail _ (Or.inr (Or.inl (aaz.1 ah)))⟩,fun hb=>fail _ (Or.inl hb)⟩;obtain⟨z,k⟩:∃ z,bs[0]?=some z:=⟨_,aax ah⟩;obtain⟨v,hc⟩:0<=x/\∀ j z,bs[j]?=some z->F.cell x.toNat (y.toNat+j)=some (.int .u8 z):=by
   rcases(h.rd.at s g ah).2 with ⟨_,e⟩ | e
   .rw[e]at k;simp at k
   .exact e
  have f:=hc 0 z k;rw[abj]at f;have n:bs.getD 0 0=z:=by rw[aaD,k];rfl
  rw[f];have G:cf (some (Value.int .u8 z))=z:=rfl;rw[G];refine⟨v,g,ah,rfl,fun w=>fail _ (Or.inr (Or.inr (by rw[n];exact w))),fun hle=>⟨l,fun _=>?_⟩⟩;have hs:kT bs bad=(decide (z=1),bs.drop 1,false):=by
   unfold kT;rw[n];have:¬(bad=true\/bs=[]\/1<z):=by
    rintro(e | e | e)
    .exact hb e
    .rw[e]at k;simp at k
    .exact hle e
   rw[aaG this]
  have o:bh J (.eq (.hI 7 (.var 1) (.var 2) 0) (.lit 1))=decide (z=1):=by
   rw[sJ,fh,al,al,ak,v1,v2,C,abj,f];rfl
  have A:=rG h (m:=1) ah;have q:((bs.drop 1).length:Int)=bs.length-1:=by rw[aa7];omega
  refine⟨[[0,1]],[],rfl,rfl,⟨⟨fun _=>0,fun _=>decide (z=1),fun _=>.empty,fun _=>.tuple #[],fun _=>Hl.none⟩,by show Value.bool (bh J _)=_;rw[o];rfl,zzT,zzT⟩,_,H,bs,bad,_,rfl,rfl,⟨a,x,y,c,F,rfl,h⟩,rfl,?_,by show Value.bool (bh J _)=_;rw[o,hs]⟩;rw[hs];refine zB h D ?_ ?_ ?_ (by rw[bD,B];exact abZ.2 hb) (y':=if c=((1:Nat):Int)then y else y+((1:Nat):Int)) (by split<;>omega) (c':=c-((1:Nat):Int)) (by rw[q];omega) (ic h.byte _) (by rw[aa7];omega) A
  .rw[oc,al,al,ak,v4,v2];rfl
  .show J.i 3-1=_;rw[q,v3]
  .show J.i 4-1=_;rw[v4];rfl
def xa:Sx.Spec where
 fn:=116
 own:=[]
 rd:=[0]
 res:=[.one .bool]
 pre:=fun xs Hs Rs=>∃ p R bs bad,xs=[p]/\Rs=[R]/\gZ R p bs bad
 post:=fun xs Hs Rs v Hs' F=>∃ p R bs bad,xs=[p]/\Rs=[R]/\gZ R p bs bad/\v=.bool (!bad&&decide (bs=[]))
def FR:aG Tryz.prog [] xa.fn where
 Λ:=aC
 args:=[TP (.var 0) (.lit 0)]
 mem:=[.ro 1 [.var 0] false]
 nv:=2
def FQ:xa.OK Tryz.prog:=by
 refine Spec.aV (Γ:=[]) (fun _ h=>by cases h) ?_;rintro xs Hs Rs j o ⟨p,R,bs,bad,rfl,rfl,hIn⟩;have q:Hs=[]:=aaz.1 j;subst q;obtain⟨a,x,y,c,rfl,f,k,hx,s,t⟩:=hIn.whole;refine⟨FR,aL [(a:Int)] false [Hl.none,R],fun _ _=>True,fun _ _=>0,?_,⟨?_,?_,?_,?_⟩,(fun _ h=>nomatch h),?_⟩
 .show [Value.pointer (az (a:Int) 0)]=_;rw[gT]
 .intro r hr ho;simp [FR]at hr;subst hr;cases ho
 .intro r hr ho;simp [FR]at hr;subst hr;exact⟨R,aF,Hl.le_refl _⟩
 .simp [FR]
 .intro r hr;simp [FR]at hr;subst hr;trivial
 .refine aG.read [] [] [] ?_;generalize d:aL [(a:Int)] false [Hl.none,R]=J;have v0:J.i 0=a:=by rw[<-d];rfl
  have n:J.h 1=R:=by rw[<-d];rfl
  clear d;have out:∀ (mem:Mem) (e:E),bh J e=(!bad&&decide (bs=[]))->postOf xa [.pointer (some ⟨a,0,none⟩)] [] [R] J mem (.sv (.one (.bool e))):=fun mem e he _ =>
   ⟨[],[],rfl,rfl,⟨⟨fun _=>0,fun _=>bh J e,fun _=>.empty,fun _=>.tuple #[],fun _=>Hl.none⟩,rfl,zzT,zzT⟩,_,R,bs,bad,rfl,rfl,hIn,by show Value.bool (bh J e)=_;rw[he]⟩
  have g:Int.toNat 0=0:=rfl;have m:Int.toNat 1=1:=rfl;simp only[go_sem,Nat.reduceAdd,g,m];rw[v0,n,aar,f,k,Ss hx];refine⟨ah,rfl,fun hb=>⟨rfl,ah,out _ _ ?_⟩,fun hb=>out _ _ ?_⟩
  .have hb:bad=false:=abZ.2 hb;rw[sJ,fG,al,ak,v0,n,aar,g,abj,f,Ss hx,hb];cases bs with
   | nil=>rfl
   | cons b l =>
    simp;omega
  .have hb:bad=true:=hb;rw[hb];rfl
abbrev MU (x:Int) (n:Nat) (c:Int):Value:=.slice (az x 0) ((n:Int)).toNat c.toNat
def uC (a:Nat) (x c:Int) (n:Nat) (lg:Bool):Hl:=Hl.one a (.cells #[MU x n c,.bool lg] 208 (0,0))
structure Br (H:Hl) (a:Nat) (x c:Int) (F:Hl) (bs:List Int) (lg:Bool):Prop where
 rx:-1<=x
 rc:0<=c
 own:bZ F 5 (MU x bs.length c) bs
 na:¬F.mem a
 hl:H=di [uC a x c bs.length lg,F]
def bC (H:Hl) (p:Value) (bs:List Int) (lg:Bool):Prop:=∃ a x c F,p=.pointer (some ⟨a,0,none⟩)/\Br H a x c F bs lg
section
variable {H F:Hl} {a:Nat} {x c:Int} {bs:List Int} {lg:Bool}
def Br.le (h:Br H a x c F bs lg):(uC a x c bs.length lg).le H/\F.le H:=by
 have hd:(uC a x c bs.length lg).bV F:=Hl.gJ.2 h.na;rw[h.hl];show(uC a x c bs.length lg).le ((uC a x c bs.length lg).un (F.un Hl.none))/\F.le ((uC a x c bs.length lg).un (F.un Hl.none));rw[Hl.ng];exact⟨Hl.bm _ _,Hl.bK hd⟩
def bC.whole (h:bC H p bs lg):∃ (a:Nat) (x c:Int),p=.pointer (some ⟨a,0,none⟩)/\ -1<=x/\0<=c/\H.cell a 0=some (MU x bs.length c)/\H.cell a 1=some (.bool lg)/\oI H (MU x bs.length c) bs:=by
 obtain⟨a,x,c,F,rfl,h⟩:=h;obtain⟨b,d⟩:=h.le;have e:=b a _ (Hl.aU _ _);exact⟨a,x,c,rfl,h.rx,h.rc,by unfold Hl.cell;rw[e];rfl,by unfold Hl.cell;rw[e];rfl,Gg d h.own.rd⟩
def bC.uniq (h:bC H p bs lg) (h':bC H p bs' lg'):bs=bs'/\lg=lg':=by
 obtain⟨a,x,c,rfl,_,_,h0,h1,hr⟩:=h.whole;obtain⟨d,x',c',e,_,_,k0,k1,b⟩:=h'.whole;simp only[Value.pointer.injEq,aaF,Addr.mk.injEq,aaP]at e;subst e;rw[h0]at k0;rw[h1]at k1;simp only[aaF,Value.bool.injEq]at k0 k1;rw[<-k0]at b;exact⟨hr.uniq b,k1⟩
end
def bC.new (a:Nat):bC (Hl.one a (.cells #[.slice none 0 0,.bool false] 208 (0,0))) (.pointer (some ⟨a,0,none⟩)) [] false:=by
 refine⟨a,-1,0,Hl.none,rfl,⟨aaM _,aaM _,⟨rfl,Or.inl ⟨rfl,rfl⟩⟩,fun h=>(by simp [Hl.mem,Hl.none]at h),?_⟩⟩;show _=(uC a (-1) 0 0 false).un (Hl.none.un Hl.none);rw[Hl.ng,Hl.ng];rfl
def jA:Mem:=[.bj 0 [.sl (.var 1) (.lit 0) (.var 2) (.var 3),.bool (.bvar 6)] 208,.hp 7 [] [.var 1] []]
def nJ (a:Nat) (x c:Int) (n:Nat) (lg:Bool) (F:Hl) (z:Int) (l:List Int) (R:Hl):Env:=aL ([(a:Int),x,n,c,0,z,0,0]++l) lg [Hl.none,Hl.none,Hl.none,Hl.none,Hl.none,Hl.none,Hl.none,F,Hl.none,Hl.none,Hl.none,Hl.none,R]
section
variable {H F:Hl} {a:Nat} {x c:Int} {bs:List Int} {lg:Bool}
def Ae (h:Br H a x c F bs lg) (z:Int) (l:List Int) (R:Hl):Entry (nJ a x c bs.length lg F z l R) jA [H] []:=by
 obtain⟨b,d⟩:=h.le;have hb:(bL.bj 0 [.sl (.var 1) (.lit 0) (.var 2) (.var 3),.bool (.bvar 6)] 208).hl (nJ a x c bs.length lg F z l R)=uC a x c bs.length lg:=by
  show Hl.one ((a:Int)).toNat (.cells #[MU x bs.length c,.bool lg] 208 (0,0))=_;rw[aar];rfl
 refine⟨fun r hr ho=>⟨H,aF,?_⟩,fun r hr ho=>?_,?_,fun r hr=>?_⟩
 .simp only[jA,aaN,aaX,abC]at hr;rcases hr with rfl | rfl
  .rw[hb];exact b
  .exact d
 .simp only[jA,aaN,aaX,abC]at hr;rcases hr with rfl | rfl<;>cases ho
 .unfold jA;refine List.Pairwise.cons (fun r hr _ _=>?_) (List.Pairwise.cons (fun r hr=>by cases hr) List.Pairwise.nil);rw[aaJ]at hr;subst hr;rw[hb];exact Hl.gJ.2 h.na
 .simp only[jA,aaN,aaX,abC]at hr;rcases hr with rfl | rfl
  .show(0:Int)<=(a:Int);omega
  .trivial
def Mj (h:Br H a x c F bs lg) (z:Int) (l:List Int) (R:Hl) (t:List E):Entry (nJ a x c bs.length lg F z l R) (jA++[.ro 12 t false]) [H] [R]:=by
 obtain⟨h1,h2,b,d⟩:=Ae h z l R;refine⟨fun r hr ho=>?_,fun r hr ho=>?_,?_,fun r hr=>?_⟩
 .rcases aa4.1 hr with hr | hr
  .exact h1 r hr ho
  .rw[aaJ]at hr;subst hr;cases ho
 .rcases aa4.1 hr with hr | hr
  .obtain⟨R,e,_⟩:=h2 r hr ho;cases e
  .rw[aaJ]at hr;subst hr;exact⟨R,aF,Hl.le_refl _⟩
 .rw[adM];refine⟨b,aF,fun r _ s hs _ ho=>?_⟩;rw[aaJ]at hs;subst hs;cases ho
 .rcases aa4.1 hr with hr | hr
  .exact d r hr
  .rw[aaJ]at hr;subst hr;trivial
end
def ID {X:E} (h0:q.i 0=a) (c:-1<=aB q X) (hN:aB q N=bs.length) (d:0<=aB q C) (e:bh q g=lg) (ho:bZ (q.h k) 5 (MU (aB q X) bs.length (aB q C)) bs)
 (hd:∀ (p s:Nat) r u,p≠s->(.bj 0 [.sl X (.lit 0) N C,.bool g] 208::.hp k v7 t7 []::t:Mem)[p]?=some r->(.bj 0 [.sl X (.lit 0) N C,.bool g] 208::.hp k v7 t7 []::t:Mem)[s]?=some u->r.own=true->(r.hl q).bV (u.hl q)) :
 bC (xA q (.bj 0 [.sl X (.lit 0) N C,.bool g] 208::.hp k v7 t7 []::t) [0,1]) (.pointer (some ⟨a,0,none⟩)) bs lg:=by
 have hb:(bL.bj 0 [.sl X (.lit 0) N C,.bool g] 208).hl q=uC a (aB q X) (aB q C) bs.length lg:=by
  show Hl.one (q.i 0).toNat (.cells #[.slice (az (aB q X) 0) (aB q N).toNat (aB q C).toNat,.bool (bh q g)] 208 (0,0))=_;rw[h0,hN,e,aar];rfl
 have b:=hd 0 1 _ _ aA rfl rfl rfl;rw[hb]at b;refine⟨a,aB q X,aB q C,q.h k,rfl,c,d,ho,Hl.gJ.1 b,?_⟩;show di [(bL.bj 0 [.sl X (.lit 0) N C,.bool g] 208).hl q,q.h k]=_;rw[hb]
def rA {x1 c1:Int} (ho:bZ A 5 (.slice (az x 0) l.toNat c.toNat) bs) (hl:l=bs.length) (hm:m=bs2.length)
 (happ:∀ xs,aP A 5 1 (.slice (az x 0) l.toNat c.toNat) l.toNat xs->aP B 5 1 (.slice (az x1 0) (l.toNat+m) c1.toNat) (l.toNat+m) (xs++aM bs2)):bZ B 5 (MU x1 (bs++bs2).length c1) (bs++bs2):=by
 have hn:l.toNat=bs.length:=ah;have h1:aP A 5 1 (.slice (az x 0) l.toNat c.toNat) l.toNat (aM bs):=by rw[hn]at ho ⊢;exact ho
 have h2:=happ _ h1;unfold bZ MU;rw[aar,aay,ia,<-hm,<-hn];exact h2
def rB (ho:bZ A 5 (.slice (az x 0) l.toNat c.toNat) bs) (hl:l=bs.length):aP A 5 1 (.slice (az x 0) l.toNat c.toNat) l.toNat (aM bs):=by
 have hn:l.toNat=bs.length:=ah;rw[hn]at ho ⊢;exact ho
def O9 (f:FuncId) (ok:List Value->List Int->Prop) (act:List Value->List Int->List Int):Sx.Spec where
 fn:=f
 own:=[.arg 0]
 rd:=[]
 res:=[]
 pre:=fun xs Hs Rs=>∃ p z H bs lg,xs=[p,z]/\Hs=[H]/\bC H p bs lg/\ok [z] bs/\bs.length<=900000
 post:=fun xs Hs Rs v Hs' F=>∃ p z H bs lg H',xs=[p,z]/\Hs=[H]/\bC H p bs lg/\Hs'=[H']/\bC H' p (act [z] bs) lg
def Ix (l:List Value) (bs:List Int):List Int:=bs++aj (cf l[0]?).toNat
def W8 (l:List Value) (_:List Int):Prop:=∃ z:Int,l=[.int .u64 z]/\0<=z/\z<18446744073709551616
def Aa:Sx.Spec:=O9 156 W8 Ix
def Xa:aG Tryz.prog [] 156 where
 Λ:=fun p=>if OJ p then some ⟨0,[(1,TI .u64 (.var 24))],[(0,.bj 0 [.sl (.var 20) (.lit 0) (.var 22) (.var 23),.bool (.bvar 6)] 208),(1,.hp 25 [] [.var 20] [])],30⟩else none
 args:=[TP (.var 0) (.lit 0),TI .u64 (.var 5)]
 mem:=jA
 nv:=8
def Ko (all:List Int) (m:Nat) (_:Nat) (q:Env):Prop:=∃ (y:Nat) (done:List Int),q.i 24=y/\done++aj y=all/\done.length<=m/\q.i 22=done.length/\ -1<=q.i 20/\0<=q.i 23/\bZ (q.h 25) 5 (.slice (az (q.i 20) 0) (q.i 22).toNat (q.i 23).toNat) done
def ou {z:Nat} (h:z<18446744073709551616):(aj z).length<=10:=by
 refine FG 9 z (adt h aA)
def FJ:Aa.OK Tryz.prog:=by
 refine Spec.aV (Γ:=[]) (fun _ h=>by cases h) ?_;rintro xs Hs Rs E u ⟨p,I,H,bs,lg,rfl,rfl,⟨a,x,c,F,rfl,h⟩,⟨z,v,K,L⟩,hlen⟩;have v:I=.int .u64 z:=by simpa using v
 subst v;have e1:Rs=[]:=aaz.1 u;subst e1;have M:=ou (z:=z.toNat) ah;refine⟨Xa,nJ a x c bs.length lg F z [] Hl.none,Ko (bs++aj z.toNat) (bs.length+10),fun _ q=>(q.i 24).toNat,?_,Ae h z [] _,(fun _ h=>nomatch h),?_⟩
 .show [Value.pointer (az (a:Int) 0),Value.int .u64 z]=_;rw[gT]
 .refine aG.read [] [] [] ?_;generalize d:nJ a x c bs.length lg F z [] Hl.none=J;have v0:J.i 0=a:=by rw[<-d];rfl
  have v1:J.i 1=x:=by rw[<-d];rfl
  have v2:J.i 2=bs.length:=by rw[<-d];rfl
  have v3:J.i 3=c:=by rw[<-d];rfl
  have v5:J.i 5=z:=by rw[<-d];rfl
  have N:J.b 6=lg:=by rw[<-d];rfl
  have O:J.h 7=F:=by rw[<-d];rfl
  clear d;simp only[go_sem,Nat.reduceAdd];refine⟨⟨z.toNat,bs,?_,rfl,ah,?_,?_,?_,?_⟩,fun q g ⟨y,done,j,hall,P,f,Q,R,t⟩=>?_⟩
  .show J.i 5=_;rw[v5];omega
  .show J.i 2=_;exact v2
  .show -1<=J.i 1;rw[v1];exact h.rx
  .show 0<=J.i 3;rw[v3];exact h.rc
  .show bZ (J.h 7) _ (.slice (az (J.i 1) 0) (J.i 2).toNat (J.i 3).toNat) bs;rw[O,v1,v2,v3];exact h.own
  have n:=aa1 List.length hall;rw[aay,aay]at n;refine⟨fun w q1 e _=>?_,fun A q1 e _=>?_⟩
  .rw[e.h 25,e.i 20,e.i 22,e.i 23];refine⟨⟨⟨_,rB t f⟩,ah,by unfold maxLen;omega,ah⟩,fun q2 o ⟨B,C,a3,_⟩=>?_⟩;rw[j]at w;have r:aj y=((y%128+128:Nat):Int)::aj (y/128):=jT ah;have D:aB q1 (.bits .or .u8 (.wrap .u8 (.var 24)) (.lit 128))=((y%128+128:Nat):Int):=by
    show cQ .or .u8 (IntKind.u8.wrap (q1.i 24)) 128=_;rw[e.i 24,j];exact W1
   rw[D]at a3;have k:=rA (bs2:=[((y%128+128:Nat):Int)]) (m:=1) t f rfl a3;have l:aB q2 (.shr .u64 (.var 24) (.lit 7))=((y/128:Nat):Int):=by
    show(q2.i 24).fdiv (2 ^ (7:Int).toNat)=_;rw[o.i 24,e.i 24,j];exact Z9
   refine⟨⟨y/128,done++[((y%128+128:Nat):Int)],l,?_,?_,?_,B,C,?_⟩,?_⟩
   .rw[aaV,<-hall,r];rfl
   .rw[aay,aaW];rw[r,abc]at n;omega
   .show q2.i 22+1=_;rw[o.i 22,e.i 22,f,aay,aaW];omega
   .show bZ (q2.h 31) _ (.slice (az (q2.i 31) 0) (q2.i 22+1).toNat (q2.i 32).toNat) _;rw[o.i 22,e.i 22,f];have:=k;unfold MU at this;rw[aay,aaW]at this;exact this
   .show(aB q2 (.shr .u64 (.var 24) (.lit 7))).toNat<(q.i 24).toNat;rw[l,j];omega
  .rw[e.h 25,e.i 20,e.i 22,e.i 23];refine⟨⟨⟨_,rB t f⟩,ah,by unfold maxLen;omega,ah⟩,fun q2 o ⟨B,C,a3,_⟩ hd=>?_⟩;rw[j]at A;have s:aj y=[(y:Int)]:=kz ah;have D:IntKind.u8.wrap (q1.i 24)=(y:Int):=by
    rw[e.i 24,j,Tq];omega
   rw[D]at a3;have k:=rA (bs2:=[(y:Int)]) (m:=1) t f rfl a3;rw[<-s,hall]at k;have G:ai 8 J q2:=g.trans (e.mono.tr o);refine⟨[[0,1]],[],rfl,rfl,⟨(bf fun _=>0),rfl,zzT⟩,_,_,H,bs,lg,_,rfl,rfl,⟨a,x,c,F,rfl,h⟩,rfl,ID (by rw[G.i 0,v0]) B ?_ C (by rw[bD,G.b 6,N]) k hd⟩;show q2.i 22+1=((bs++aj z.toNat).length:Int);rw[o.i 22,e.i 22,f,aay];rw[s,aaW]at n;omega
def uz:Sx.Spec where
 fn:=157
 own:=[.arg 0]
 rd:=[1]
 res:=[]
 pre:=fun xs Hs Rs=>∃ p u H R bs lg b2,xs=[p,u]/\Hs=[H]/\Rs=[R]/\bC H p bs lg/\fL R u b2/\bs.length<=900000/\b2.length<=90000
 post:=fun xs Hs Rs v Hs' F=>∃ p u H R bs lg b2 H',xs=[p,u]/\Hs=[H]/\Rs=[R]/\bC H p bs lg/\fL R u b2/\Hs'=[H']/\bC H' p (bs++b2) lg
def Xb:aG Tryz.prog [] uz.fn where
 Λ:=aC
 args:=[TP (.var 0) (.lit 0),.sv (.one (.sl (.var 8) (.var 9) (.var 10) (.var 11)))]
 mem:=jA++[.ro 12 [.var 8] false]
 nv:=13
def FK:uz.OK Tryz.prog:=by
 refine Spec.aV (Γ:=[]) (fun _ h=>by cases h) ?_;rintro xs Hs Rs t v ⟨p,u,H,R,bs,lg,b2,rfl,rfl,rfl,⟨a,x,c,F,rfl,h⟩,e,hlen,r⟩;obtain⟨f,g,c2,rfl,n,w⟩:=id e;refine⟨Xb,nJ a x c bs.length lg F 0 [f,g,b2.length,c2] R,fun _ _=>True,fun _ _=>0,?_,Mj h 0 _ R _,(fun _ h=>nomatch h),?_⟩
 .show [Value.pointer (az (a:Int) 0),Value.slice (az f g) ((b2.length:Int)).toNat ((c2:Int)).toNat]=_;rw[gT,aar,aar]
 .refine aG.read [] [] [] ?_;generalize d:nJ a x c bs.length lg F 0 [f,g,b2.length,c2] R=J;have v0:J.i 0=a:=by rw[<-d];rfl
  have v1:J.i 1=x:=by rw[<-d];rfl
  have v2:J.i 2=bs.length:=by rw[<-d];rfl
  have v3:J.i 3=c:=by rw[<-d];rfl
  have z:J.i 8=f:=by rw[<-d];rfl
  have v9:J.i 9=g:=by rw[<-d];rfl
  have v10:J.i 10=b2.length:=by rw[<-d];rfl
  have A:J.b 6=lg:=by rw[<-d];rfl
  have B:J.h 7=F:=by rw[<-d];rfl
  have o:J.h 12=R:=by rw[<-d];rfl
  clear d;simp only[go_sem,Nat.reduceAdd];rw[v1,v2,v3,z,v9,v10,B,o];obtain⟨hok,j⟩:=tj (R:=R) (x:=f) (y:=g) (l:=(b2.length:Int)) rfl n w;have s:bZ F 5 (.slice (az x 0) ((bs.length:Int)).toNat c.toNat) bs:=h.own;refine⟨⟨⟨_,rB s rfl⟩,ah,by simpa using hok,by rw[aar,aar];unfold maxLen;omega,by rw[aar,aar];omega⟩,fun q2 k ⟨C,D,a3,_⟩ hd=>?_⟩;rw[j]at a3;have q:=rA (bs2:=b2) (m:=((b2.length:Int)).toNat) s rfl (aar _) a3;refine⟨[[0,1]],[],rfl,rfl,⟨(bf fun _=>0),rfl,zzT⟩,_,_,H,R,bs,lg,b2,_,rfl,rfl,rfl,⟨a,x,c,F,rfl,h⟩,e,rfl,ID (by rw[k.i 0,v0]) C ?_ D (by rw[bD,k.b 6,A]) q hd⟩;show q2.i 2+q2.i 10=((bs++b2).length:Int);rw[k.i 2,k.i 10,v2,v10,aay];omega
def JU (l:List Value) (bs:List Int):List Int:=bs++[if xI l[0]?=true then 1 else 0]
def Ud (l:List Value) (_:List Int):Prop:=∃ b:Bool,l=[.bool b]
def vG:Sx.Spec:=O9 199 Ud JU
def UN:aG Tryz.prog [] 199 where
 Λ:=aC
 args:=[TP (.var 0) (.lit 0),.sv (.one (.bool (.bvar 5)))]
 mem:=jA
 nv:=8
def Mk (h:Br H a x c F bs lg) (f:Bool):Entry {nJ a x c bs.length lg F 0 [] Hl.none with b:=fun k=>if k=5 then f else lg} jA [H] []:=by
 obtain⟨h1,h2,d,g⟩:=Ae h 0 [] Hl.none;refine⟨fun r hr ho=>?_,fun r hr ho=>?_,?_,fun r hr=>?_⟩
 .obtain⟨K,hK,hle⟩:=h1 r hr ho;refine⟨K,hK,?_⟩;simp only[jA,aaN,aaX,abC]at hr;rcases hr with rfl | rfl<;>exact hle
 .simp only[jA,aaN,aaX,abC]at hr;rcases hr with rfl | rfl<;>cases ho
 .exact d.imp (fun {r s} e=>e) |>fun _=>by
   unfold jA at d ⊢;refine List.Pairwise.cons (fun r hr _ _=>?_) (List.Pairwise.cons (fun r hr=>by cases hr) List.Pairwise.nil);rw[aaJ]at hr;subst hr;exact(List.pairwise_cons.1 d).1 _ (aaJ.2 rfl) rfl rfl
 .simp only[jA,aaN,aaX,abC]at hr;rcases hr with rfl | rfl
  .show(0:Int)<=(a:Int);omega
  .trivial
def Mh:vG.OK Tryz.prog:=by
 refine Spec.aV (Γ:=[]) (fun _ h=>by cases h) ?_;rintro xs Hs Rs q j ⟨p,r,H,bs,lg,rfl,rfl,⟨a,x,c,F,rfl,h⟩,⟨b,hb⟩,hlen⟩;have hb:r=.bool b:=by simpa using hb
 subst hb;have e1:Rs=[]:=aaz.1 j;subst e1;refine⟨UN,{nJ a x c bs.length lg F 0 [] Hl.none with b:=fun k=>if k=5 then b else lg},fun _ _=>True,fun _ _=>0,?_,Mk h b,(fun _ h=>nomatch h),?_⟩
 .show [Value.pointer (az (a:Int) 0),Value.bool b]=_;rw[gT]
 .refine aG.read [] [] [] ?_;generalize d:({nJ a x c bs.length lg F 0 [] Hl.none with b:=fun k=>if k=5 then b else lg} : Env)=J;have v0:J.i 0=a:=by rw[<-d];rfl
  have v1:J.i 1=x:=by rw[<-d];rfl
  have v2:J.i 2=bs.length:=by rw[<-d];rfl
  have v3:J.i 3=c:=by rw[<-d];rfl
  have s:J.b 5=b:=by rw[<-d];rfl
  have u:J.b 6=lg:=by rw[<-d];rfl
  have v:J.h 7=F:=by rw[<-d];rfl
  clear d;have n:bZ F 5 (.slice (az x 0) ((bs.length:Int)).toNat c.toNat) bs:=h.own;have fin:∀ (q2:Env) (z:Int) (t:Mem),ai 8 J q2-> -1<=q2.i 9->0<=q2.i 10->(if b=true then(1:Int)else 0)=z->(∀ xs,aP F 5 1 (.slice (az x 0) ((bs.length:Int)).toNat c.toNat) ((bs.length:Int)).toNat xs->aP (q2.h 9) 5 1 (.slice (az (q2.i 9) 0) (((bs.length:Int)).toNat+1) (q2.i 10).toNat) (((bs.length:Int)).toNat+1) (xs++aM [z])) ->
   postOf vG [.pointer (some ⟨a,0,none⟩),.bool b] [H] [] q2 (.bj 0 [.sl (.var 9) (.lit 0) (.add (.var 2) (.lit 1)) (.var 10),.bool (.bvar 6)] 208::.hp 9 [7] [.var 9,.var 1] []::t) (.tup []):=by
   intro q2 z t G f g w a3 hd;have l:=rA (bs2:=[z]) (m:=1) n rfl rfl a3;refine⟨[[0,1]],[],rfl,rfl,⟨(bf fun _=>0),rfl,zzT⟩,_,_,H,bs,lg,_,rfl,rfl,⟨a,x,c,F,rfl,h⟩,rfl,?_⟩;have y:JU [Value.bool b] bs=bs++[z]:=by rw[<-w];rfl
   rw[y];refine ID (by rw[G.i 0,v0]) f ?_ g (by rw[bD,G.b 6,u]) l hd;show q2.i 2+1=((bs++[z]).length:Int);rw[G.i 2,v2,aay,aaW];omega
  simp only[go_sem,Nat.reduceAdd];rw[s];refine⟨fun hb q1 e _=>?_,fun hb q1 e _=>?_⟩
  all_goals
   rw[e.i 1,e.i 2,e.i 3,e.h 7,v1,v2,v3,v];refine⟨⟨⟨_,rB n rfl⟩,ah,by rw[aar];unfold maxLen;omega,by rw[aar];omega⟩,fun q2 o ⟨f,g,a3,_⟩=>?_⟩
  .exact fin q2 1 _ (e.tr o) f g (aaR hb) a3
  .exact fin q2 0 _ (e.tr o) f g (aaG hb) a3
def aI (b:List Int):List Int:=aj b.length++b
def kg (bs:List Int) (lg:Bool) (b2:List Int):List Int×Bool:=if 4096<b2.length then(bs,true)else(bs++aI b2,lg)
def sX:Sx.Spec where
 fn:=127
 own:=[.arg 0]
 rd:=[1]
 res:=[]
 pre:=fun xs Hs Rs=>∃ p u H R bs lg b2,xs=[p,u]/\Hs=[H]/\Rs=[R]/\bC H p bs lg/\fL R u b2/\bs.length<=800000/\0<=b2.length
 post:=fun xs Hs Rs v Hs' F=>∃ p u H R bs lg b2 H',xs=[p,u]/\Hs=[H]/\Rs=[R]/\bC H p bs lg/\fL R u b2/\Hs'=[H']/\bC H' p (kg bs lg b2).1 (kg bs lg b2).2
def oΓ:List Sx.Spec:=[Aa,uz,gG]
def S8:∀ t∈oΓ,t.OK Tryz.prog:=av FJ <| av FK <| av mc <| bW
def Zw:oΓ[2]?=some gG:=rfl
def Zx:Aa.res=[]:=rfl
def Zy:uz.res=[]:=rfl
def Ab:aG Tryz.prog oΓ sX.fn where
 Λ:=aC
 args:=[TP (.var 0) (.lit 0),.sv (.one (.sl (.var 8) (.var 9) (.var 10) (.var 11)))]
 mem:=[.hp 1 [] [.var 0] [],.ro 12 [.var 8] false]
 nv:=13
def bC.Sp (h:bC H (.pointer (some ⟨a,0,none⟩)) bs lg):H.wr a 1 1=true/\bC (H.put a 1 [.bool true]) (.pointer (some ⟨a,0,none⟩)) bs true:=by
 obtain⟨i,x,c,F,e,h⟩:=h;simp only[Value.pointer.injEq,aaF,Addr.mk.injEq,aaP]at e;subst e;obtain⟨b,_⟩:=h.le;have e:=b a _ (Hl.aU _ _);refine⟨by unfold Hl.wr;rw[e];rfl,a,x,c,F,rfl,h.rx,h.rc,h.own,h.na,?_⟩;rw[h.hl]
 funext k
 unfold Hl.put;by_cases hk:k=a
 .subst hk;rw[aaR rfl];have d:di [uC k x c bs.length lg,F] k=some (.cells #[MU x bs.length c,.bool lg] 208 (0,0)):=by rw[<-h.hl];exact e
  have f:di [uC k x c bs.length true,F] k=some (.cells #[MU x bs.length c,.bool true] 208 (0,0)):=Hl.tB (Hl.aU _ _);rw[d];exact f.symm
 .rw[aaG hk];have n1:∀ g:Bool,¬(uC a x c bs.length g).mem k:=fun g hm=>hk (Hl.dJ.1 hm);show((uC a x c bs.length lg).un _) k=((uC a x c bs.length true).un _) k;rw[Hl.qU (n1 _),Hl.qU (n1 _)]
def DE {f:FuncId} {ok:List Value->List Int->Prop} {act:List Value->List Int->List Int} {z:Value} (h:bC H p bs lg) (hp:(O9 f ok act).post [p,z] [H] Rs v K F):∃ H',K=[H']/\bC H' p (act [z] bs) lg:=by
 obtain⟨d,e,g,bs',lg',H',hx,a,i,hK,b⟩:=hp;have hx:p=d/\z=e:=by simpa using hx
 obtain⟨e1,c⟩:=hx;have a:H=g:=by simpa using a
 subst e1 c a;obtain⟨e1,c⟩:=h.uniq i;subst e1 c;exact⟨H',hK,b⟩
def Gf (h:bC H p bs lg) (h2:fL R u b2) (hp:uz.post [p,u] [H] [R] v K F):∃ H',K=[H']/\bC H' p (bs++b2) lg:=by
 obtain⟨f,g,i,j,bs',lg',k,H',hx,a,b,l,hB,hK,c⟩:=hp;have hx:p=f/\u=g:=by simpa using hx
 obtain⟨e1,d⟩:=hx;have a:H=i:=by simpa using a
 have b:R=j:=by simpa using b
 subst e1 d a b;obtain⟨e1,d⟩:=h.uniq l;subst e1 d;have e:=h2.uniq hB;subst e;exact⟨H',hK,c⟩
def BY:sX.OK Tryz.prog:=by
 refine Spec.aV (Γ:=oΓ) S8 ?_;rintro xs Hs Rs y A ⟨p,u,H,R,bs,lg,b2,rfl,rfl,rfl,h,c,hlen,x⟩;obtain⟨a,_,_,rfl,_⟩:=h.whole;obtain⟨j,l,c2,rfl,B,I⟩:=id c;refine⟨Ab,aL [(a:Int),0,0,0,0,0,0,0,j,l,b2.length,c2] false [Hl.none,H,Hl.none,Hl.none,Hl.none,Hl.none,Hl.none,Hl.none,Hl.none,Hl.none,Hl.none,Hl.none,R],fun _ _=>True,fun _ _=>0,?_,⟨?_,?_,?_,?_⟩,(fun _ h=>nomatch h),?_⟩
 .show [Value.pointer (az (a:Int) 0),Value.slice (az j l) ((b2.length:Int)).toNat ((c2:Int)).toNat]=_;rw[gT,aar,aar]
 .intro r hr ho;simp [Ab]at hr;rcases hr with rfl | rfl
  .exact⟨H,aF,Hl.le_refl _⟩
  .cases ho
 .intro r hr ho;simp [Ab]at hr;rcases hr with rfl | rfl
  .cases ho
  .exact⟨R,aF,Hl.le_refl _⟩
 .simp [Ab,bL.own]
 .intro r hr;simp [Ab]at hr;rcases hr with rfl | rfl<;>trivial
 .refine aG.read [] [] [] ?_;generalize b:aL [(a:Int),0,0,0,0,0,0,0,j,l,b2.length,c2] false [Hl.none,H,Hl.none,Hl.none,Hl.none,Hl.none,Hl.none,Hl.none,Hl.none,Hl.none,Hl.none,Hl.none,R]=J;have v0:J.i 0=a:=by rw[<-b];rfl
  have C:J.i 8=j:=by rw[<-b];rfl
  have v9:J.i 9=l:=by rw[<-b];rfl
  have v10:J.i 10=b2.length:=by rw[<-b];rfl
  have v11:J.i 11=c2:=by rw[<-b];rfl
  have D:J.h 1=H:=by rw[<-b];rfl
  have n:J.h 12=R:=by rw[<-b];rfl
  clear b;have out:∀ (q:Env) (k:Nat) (vs:List Nat) (t:Mem) (r:List Int×Bool),kg bs lg b2=r->bC (q.h k) (.pointer (some ⟨a,0,none⟩)) r.1 r.2->postOf sX [.pointer (some ⟨a,0,none⟩),.slice (az j l) b2.length c2] [H] [R] q (.hp k vs [.var 0] []::t) (.tup []):=by
   intro q k vs t r hr ho _;refine⟨[[0]],[],rfl,rfl,⟨(bf fun _=>0),rfl,zzT⟩,_,_,H,R,bs,lg,b2,_,rfl,rfl,rfl,h,c,rfl,?_⟩;rw[hr];show bC (di [q.h k]) _ _ _;rw[aN];exact ho
  have o:Int.toNat 1=1:=rfl;simp only[go_sem,Nat.reduceAdd,oΓ,Zx,Zy,o];rw[v10,v0,D,aar];obtain⟨hw,m⟩:=h.Sp;refine⟨ah,fun E=>⟨ah,⟨ah,ah,hw⟩,fun q g s=>?_⟩,fun hle=>?_⟩
  .refine out q 13 _ _ (bs,true) (by unfold kg;rw[aaR ah]) ?_;rw[s];exact m
  .have hu:IntKind.u64.wrap ((b2.length:Nat):Int)=b2.length:=oH ah ah;rw[hu,gT];refine⟨⟨_,_,H,bs,lg,rfl,rfl,h,⟨_,rfl,ah,ah⟩,ah⟩,fun q g ⟨K,hp,_,_⟩=>?_⟩;obtain⟨H1,e,d⟩:=DE h hp;have e:q.h 13=H1:=by simpa using e
   rw[<-e]at d;have eN:Ix [Value.int .u64 ((b2.length:Nat):Int)] bs=bs++aj b2.length:=by
    unfold Ix;show bs++aj (((b2.length:Nat):Int)).toNat=_;rw[aar]
   rw[eN]at d;have F:=ou (z:=b2.length) ah;rw[g.i 0,v0,g.i 8,C,g.i 9,v9,g.i 10,v10,g.i 11,v11,g.h 12,n,gT,aar,aar];refine⟨⟨_,_,_,R,_,lg,b2,rfl,rfl,rfl,d,c,by rw[aay];omega,ah⟩,fun q2 L ⟨M,v,_,_⟩=>?_⟩;obtain⟨G,f,w⟩:=Gf d c v;have f:q2.h 15=G:=by simpa using f
   refine out q2 15 _ _ (bs++aI b2,lg) (by unfold kg;rw[aaG ah]) ?_;rw[f];unfold aI;rw[<-aaV];exact w
def rW (bs:List Int) (lg:Bool):List Int×Int:=if lg=true\/16384<bs.length then([],3)else(bs,0)
def sz:Sx.Spec where
 fn:=128
 own:=[]
 rd:=[0]
 res:=[.one .sl,.one (.int .i64)]
 pre:=fun xs Hs Rs=>∃ p R bs lg,xs=[p]/\Rs=[R]/\bC R p bs lg/\bs.length<=1000000
 post:=fun xs Hs Rs v Hs' F=>∃ p R bs lg u,xs=[p]/\Rs=[R]/\bC R p bs lg/\v=.tuple #[u,.int .i64 (rW bs lg).2]/\bZ F 5 u (rW bs lg).1
def FI:aG Tryz.prog oΓ sz.fn where
 Λ:=aC
 args:=[TP (.var 0) (.lit 0)]
 mem:=[.ro 1 [.hP 2 (.var 0) (.lit 0) 0 0] false,.ro 2 [.var 0] false]
 nv:=3
def Zz:gG.res=[.one .sl]:=rfl
def sl3 (hx:-1<=x) (n c:Nat):bw (some (.slice (az x y) n c)) 3=c:=by
 rcases abQ x 0 with h | h
 .obtain rfl:x= -1:=ah;rfl
 .rw[au h];rfl
def aaa (hx:-1<=x) (n c:Nat):bw (some (.slice (az x 0) n c)) 1=0:=by
 rcases abQ x 0 with h | h
 .obtain rfl:x= -1:=ah;rfl
 .rw[au h];rfl
def zZ:sz.OK Tryz.prog:=by
 refine Spec.aV (Γ:=oΓ) S8 ?_;rintro xs Hs Rs f u ⟨p,R,bs,lg,rfl,rfl,h,hlen⟩;have v:Hs=[]:=aaz.1 f;subst v;obtain⟨a,x,c,rfl,hx,hc,d,j,l⟩:=h.whole;unfold MU at d l;rw[aar]at d l;refine⟨FI,aL [(a:Int)] false [Hl.none,R,R],fun _ _=>True,fun _ _=>0,?_,⟨?_,?_,?_,?_⟩,(fun _ h=>nomatch h),?_⟩
 .show [Value.pointer (az (a:Int) 0)]=_;rw[gT]
 .intro r hr ho;simp [FI]at hr;rcases hr with rfl | rfl<;>cases ho
 .intro r hr ho;simp [FI]at hr;rcases hr with rfl | rfl<;>exact⟨R,aF,Hl.le_refl _⟩
 .simp [FI,bL.own]
 .intro r hr;simp [FI]at hr;rcases hr with rfl | rfl<;>trivial
 .refine aG.read [] [] [] ?_;generalize b:aL [(a:Int)] false [Hl.none,R,R]=J;have v0:J.i 0=a:=by rw[<-b];rfl
  have y:J.h 1=R:=by rw[<-b];rfl
  have z:J.h 2=R:=by rw[<-b];rfl
  clear b;have fail:∀ (mem:Mem),lg=true\/16384<bs.length->postOf sz [.pointer (some ⟨a,0,none⟩)] [] [R] J mem (.tup [.one (.sl (.lit (-1)) (.lit 0) (.lit 0) (.lit 0)),.one (.int .i64 (.lit 3))]):=by
   intro mem hf _;have hs:rW bs lg=([],3):=by unfold rW;rw[aaR hf]
   refine⟨[],[],rfl,rfl,⟨(bf fun k=>if k=0 then -1 else if k=4 then 3 else 0),rfl,⟨aaM _,aaM _,aaM _,aaM _⟩,zzT,zzT⟩,_,R,bs,lg,.slice none 0 0,rfl,rfl,h,?_,?_⟩
   .rw[hs];rfl
   .rw[hs];exact qy _ _
  have m:Int.toNat 0=0:=rfl;have n:Int.toNat 1=1:=rfl;simp only[go_sem,Nat.reduceAdd,Zw,Zz,WM,m,n];rw[v0,z,y,aar,d,j,Ss hx,VR hx,aaa hx,sl3 hx];refine⟨ah,rfl,fun hb=>⟨rfl,ah,fun A=>fail _ (Or.inr ah),fun B=>?_⟩,fun hb=>fail _ (Or.inl hb)⟩;have hb:lg=false:=abZ.2 hb;rw[aar,aar];have s:=l.w;refine⟨⟨_,bs,R,rfl,rfl,s,hlen⟩,fun q g ⟨D,hp,C,o⟩ _=>?_⟩;have t:=oS s hp;rw[<-C zzT]at t;have hs:rW bs lg=(bs,0):=by
   unfold rW;have:¬(lg=true\/16384<bs.length):=by
    rintro(e | e)
    .rw[hb]at e;cases e
    .omega
   rw[aaG this]
  refine⟨[],[2],rfl,rfl,⟨(bf fun k=>if k=4 then 0 else q.i (3+k)),rfl,o.1,zzT,zzT⟩,_,R,bs,lg,_,rfl,rfl,h,by rw[hs];rfl,?_⟩;rw[hs];show bZ (di [q.h 3]) _ _ _;rw[aN];exact t
def Ch:Sx.Spec where
 fn:=85
 own:=[]
 rd:=[]
 res:=[.one .sl]
 pre:=fun xs Hs Rs=>∃ z:Int,xs=[.int .u64 z]/\0<=z/\z<18446744073709551616
 post:=fun xs Hs Rs v Hs' F=>∃ z:Int,xs=[.int .u64 z]/\bZ F 5 v (aj z.toNat)
def Xl:aG Tryz.prog [] Ch.fn where
 Λ:=fun p=>if OJ p then some ⟨0,[(3,.sv (.one (.sl (.var 20) (.lit 0) (.var 22) (.var 23)))),(0,TI .u64 (.var 24))],[(0,.hp 25 [] [.var 20] [])],30⟩else none
 args:=[TI .u64 (.var 0)]
 mem:=[]
 nv:=1
def Po (y:Nat) (h:y<18446744073709551616):IntKind.u64.wrap ((y:Int).tdiv 128)=((y/128:Nat):Int):=by
 rw[acb ah,oH ah ah];omega
def Vc (y:Nat):IntKind.u8.wrap (IntKind.u64.wrap ((y:Int).tmod 128+128))=((y%128+128:Nat):Int):=by
 rw[abm ah,oH ah ah,Tq];omega
def Sh (all:List Int) (k:Nat) (q:Env):Prop:=Ko all 10 k q/\q.i 24<18446744073709551616
def PI:Ch.OK Tryz.prog:=by
 refine Spec.aV (Γ:=[]) (fun _ h=>by cases h) ?_;rintro xs Hs Rs u v ⟨z,rfl,C,w⟩;have D:Hs=[]:=aaz.1 u;have e1:Rs=[]:=aaz.1 v;subst D e1;have E:=ou (z:=z.toNat) ah;refine⟨Xl,aL [z] false [],Sh (aj z.toNat),fun _ q=>(q.i 24).toNat,rfl,⟨fun r hr=>(by cases hr),fun r hr=>(by cases hr),List.Pairwise.nil,fun r hr=>(by cases hr)⟩,(fun _ h=>nomatch h),?_⟩;refine aG.read [] [] [] ?_;generalize l:aL [z] false []=J;have v0:J.i 0=z:=by rw[<-l];rfl
 clear l;simp only[go_sem,Nat.reduceAdd,J3,ue];refine⟨⟨⟨z.toNat,[],?_,rfl,abJ _,rfl,aaM _,aaM _,⟨rfl,Or.inl ⟨rfl,rfl⟩⟩⟩,?_⟩,fun q g ⟨⟨y,done,d,hall,F,a,G,H,t⟩,x⟩=>?_⟩
 .show J.i 0=_;rw[v0];omega
 .show J.i 0<_;rw[v0];exact w
 have j:=aa1 List.length hall;rw[aay]at j;have f:y<18446744073709551616:=ah;rw[d,Po y f];refine⟨fun I q1 b _=>?_,fun K q1 b _=>?_⟩
 .rw[b.h 25,b.i 20,b.i 22,b.i 23,b.i 24,d,Vc];refine⟨⟨⟨_,rB t a⟩,ah,by unfold maxLen;omega,ah⟩,fun q2 n ⟨A,B,a3,_⟩=>?_⟩;have o:aj y=((y%128+128:Nat):Int)::aj (y/128):=jT ah;have e:=rA (bs2:=[((y%128+128:Nat):Int)]) (m:=1) t a rfl a3;have c:IntKind.u64.wrap ((q2.i 24).tdiv 128)=((y/128:Nat):Int):=by
   rw[n.i 24,b.i 24,d];exact Po y f
  refine⟨⟨⟨y/128,done++[((y%128+128:Nat):Int)],c,?_,?_,?_,A,B,?_⟩,?_⟩,?_⟩
  .rw[aaV,<-hall,o];rfl
  .rw[aay,aaW];rw[o,abc]at j;omega
  .show q2.i 22+1=_;rw[n.i 22,b.i 22,a,aay,aaW];omega
  .show bZ (q2.h 31) _ (.slice (az (q2.i 31) 0) (q2.i 22+1).toNat (q2.i 32).toNat) _;rw[n.i 22,b.i 22,a];have:=e;unfold MU at this;rw[aay,aaW]at this;exact this
  .show IntKind.u64.wrap ((q2.i 24).tdiv 128)<_;rw[c];omega
  .show(IntKind.u64.wrap ((q2.i 24).tdiv 128)).toNat<_;rw[c];omega
 .rw[b.h 25,b.i 20,b.i 22,b.i 23];refine⟨⟨⟨_,rB t a⟩,ah,by unfold maxLen;omega,ah⟩,fun q2 n ⟨A,B,a3,_⟩ hd=>?_⟩;have p:aj y=[(y:Int)]:=kz ah;have L:IntKind.u8.wrap (q1.i 24)=(y:Int):=by
   rw[b.i 24,d,Tq];omega
  rw[L]at a3;have e:=rA (bs2:=[(y:Int)]) (m:=1) t a rfl a3;rw[<-p,hall]at e;have s:q2.i 22+1=((aj z.toNat).length:Int):=by
   rw[n.i 22,b.i 22,a];rw[p,aaW]at j;omega
  refine⟨[],[0],rfl,rfl,⟨(bf fun k=>[q2.i 31,0,q2.i 22+1,q2.i 32].getD k 0),rfl,⟨A,aaM _,by show 0<=q2.i 22+1;omega,B⟩,zzT⟩,z,rfl,?_⟩;show bZ (di [q2.h 31]) _ (.slice (az (q2.i 31) 0) (q2.i 22+1).toNat (q2.i 32).toNat) _;rw[aN,s];exact e
open Go.Proofs.YtomdimlnggpgbaaGreatDoor.D hiding aL aC fP
def tR:Sx.Spec where
 fn:=55
 own:=[]
 rd:=[0]
 res:=[.one .sl]
 pre:=fun xs Hs Rs=>∃ u bs R,xs=[u]/\Rs=[R]/\fL R u bs/\bs.length<=1000000
 post:=fun xs Hs Rs v Hs' F=>∃ u bs R,xs=[u]/\Rs=[R]/\fL R u bs/\bZ F 5 v bs
def tS:aG Tryz.prog [] tR.fn where
 Λ:=aC
 args:=[.sv (.one (.sl (.var 0) (.var 1) (.var 2) (.var 3)))]
 mem:=[.ro 4 [.var 0] false]
 nv:=5
def yL:tR.OK Tryz.prog:=by
 refine Spec.aV (Γ:=[]) (fun _ h=>by cases h) ?_;rintro xs Hs Rs m p ⟨u,bs,R,rfl,rfl,b,hlen⟩;have q:Hs=[]:=aaz.1 m;subst q;obtain⟨x,y,c,rfl,s,n⟩:=id b;refine⟨tS,aL [x,y,bs.length,c] false [Hl.none,Hl.none,Hl.none,Hl.none,R],fun _ _=>True,fun _ _=>0,?_,⟨?_,?_,?_,?_⟩,(fun _ h=>nomatch h),?_⟩
 .show [Value.slice (az x y) ((bs.length:Int)).toNat ((c:Int)).toNat]=_;rw[aar,aar]
 .intro r hr ho;simp [tS]at hr;subst hr;cases ho
 .intro r hr ho;simp [tS]at hr;subst hr;exact⟨R,aF,Hl.le_refl _⟩
 .simp [tS]
 .intro r hr;simp [tS]at hr;subst hr;trivial
 .refine aG.read [] [] [] ?_;generalize a:aL [x,y,bs.length,c] false [Hl.none,Hl.none,Hl.none,Hl.none,R]=J;have v0:J.i 0=x:=by rw[<-a];rfl
  have v1:J.i 1=y:=by rw[<-a];rfl
  have v2:J.i 2=bs.length:=by rw[<-a];rfl
  have t:J.h 4=R:=by rw[<-a];rfl
  clear a;simp only[go_sem,Nat.reduceAdd];refine⟨fun hx _=>?_,fun hx q1 d p5=>?_⟩
  .have e:bs=[]:=by
    rcases n with h | ⟨h,_⟩
    .exact h
    .omega
   refine⟨[],[],rfl,rfl,⟨(bf fun k=>if k=0 then -1 else 0),rfl,⟨aaM _,aaM _,aaM _,aaM _⟩,zzT⟩,_,bs,R,rfl,rfl,b,?_⟩;rw[e];exact⟨rfl,Or.inl ⟨rfl,rfl⟩⟩
  .obtain⟨hok,f⟩:=tj (R:=R) (x:=x) (y:=y) (l:=(bs.length:Int)) rfl s n;have g:=FU (Hl.one (q1.i 5).toNat (.cells #[] 5 (0,0))) p5 rfl;rw[d.i 0,d.i 1,d.i 2,d.h 4,v0,v1,v2,t];refine⟨⟨⟨_,g⟩,aaM _,by simpa using hok,by rw[aar];unfold maxLen;simp;omega,by rw[aar];simp;omega⟩,fun q2 o ⟨v,w,a3,_⟩=>fun _=>?_⟩;have j:=a3 _ g;rw[f,abU]at j;refine⟨[],[1],rfl,rfl,⟨(bf fun k=>[q2.i 6,0,q2.i 2,q2.i 7].getD k 0),rfl,⟨v,aaM _,?_,w⟩,zzT⟩,_,bs,R,rfl,rfl,b,?_⟩
   .show 0<=q2.i 2;rw[o.i 2,d.i 2,v2];omega
   .show bZ (di [q2.h 6]) _ (.slice (az (q2.i 6) 0) (q2.i 2).toNat (q2.i 7).toNat) bs;rw[aN,o.i 2,d.i 2,v2];unfold bZ;rw[aar];simpa using j
def KP:Sx.Spec where
 fn:=79
 own:=[]
 rd:=[0]
 res:=[.one (.int .u64)]
 pre:=fun xs Hs Rs=>∃ u bs R,xs=[u]/\Rs=[R]/\fL R u bs/\bs.length<=1000
 post:=fun xs Hs Rs v Hs' F=>∃ u bs R,xs=[u]/\Rs=[R]/\fL R u bs/\v=.int .u64 (dZ bs)
def Gx:aG Tryz.prog [] KP.fn where
 Λ:=fun p=>if lp p then some ⟨0,[(3,TI .u64 (.var 10)),(8,TI .i64 (.var 11))],[],12⟩else none
 args:=[.sv (.one (.sl (.var 0) (.var 1) (.var 2) (.var 3)))]
 mem:=[.ro 4 [.var 0] false]
 nv:=5
def P0:KP.OK Tryz.prog:=by
 refine Spec.aV (Γ:=[]) (fun _ h=>by cases h) ?_;rintro xs Hs Rs l p ⟨u,bs,R,rfl,rfl,⟨x,y,cp,rfl,m,n⟩,hlen⟩;have s:Hs=[]:=aaz.1 l;subst s;refine⟨Gx,aL [x,y,bs.length,cp] false [Hl.none,Hl.none,Hl.none,Hl.none,R],Nv bs,fun _ q=>(bs.length-q.i 11).toNat,?_,⟨?_,?_,?_,?_⟩,(fun _ h=>nomatch h),?_⟩
 .show [Value.slice (az x y) ((bs.length:Int)).toNat ((cp:Int)).toNat]=_;rw[aar,aar]
 .intro r hr ho;simp [Gx]at hr;subst hr;cases ho
 .intro r hr ho;simp [Gx]at hr;subst hr;exact⟨R,aF,Hl.le_refl _⟩
 .simp [Gx]
 .intro r hr;simp [Gx]at hr;subst hr;trivial
 .refine aG.read [] [] [] ?_;generalize a:aL [x,y,bs.length,cp] false [Hl.none,Hl.none,Hl.none,Hl.none,R]=J;have v0:J.i 0=x:=by rw[<-a];rfl
  have v1:J.i 1=y:=by rw[<-a];rfl
  have v2:J.i 2=bs.length:=by rw[<-a];rfl
  have o:J.h 4=R:=by rw[<-a];rfl
  simp only[go_sem,Nat.reduceAdd];rw[v2];refine⟨ah,⟨0,ah,rfl,rfl⟩,fun q g ⟨k,hk,b,c⟩=>?_⟩;rw[g.i 0,g.i 1,g.i 2,g.h 4,v0,v1,v2,o,b];refine⟨fun t=>?_,fun v=>?_⟩
  .have d:k<bs.length:=ah;have f:0<=x/\∀ j z,bs[j]?=some z->R.cell x.toNat (y.toNat+j)=some (.int .u8 z):=by
    rcases n with h | h
    .subst h;simp at d
    .exact h
   have hc:R.cell x.toNat (y+k).toNat=some (.int .u8 bs[k]):=by
    rw[show(y+(k:Int)).toNat=y.toNat+k by omega];exact f.2 _ _ (aax d)
   rw[hc];refine⟨f.1,m,ah,rfl,⟨k+1,ah,?_,?_⟩,?_⟩
   .show IntKind.i64.wrap (q.i 11+1)=_;rw[b];exact wrap_i64 ah ah
   .show jK (q.i 10) (cf ((q.h 4).cell (q.i 0).toNat (q.i 1+q.i 11).toNat))=_;rw[c,g.i 0,g.i 1,g.h 4,v0,v1,o,b,hc,nP bs k d];rfl
   .show((bs.length:Int)-IntKind.i64.wrap (q.i 11+1)).toNat<_;rw[b,wrap_i64 ah ah];omega
  .have e:k=bs.length:=ah;subst e;rw[abG]at c;refine fun _=>⟨[],[],rfl,rfl,⟨(bf fun _=>q.i 10),rfl,zzT,zzT⟩,_,bs,R,rfl,rfl,⟨x,y,cp,rfl,m,n⟩,?_⟩;show Value.int .u64 (q.i 10)=_;rw[c]
def Ka:Sx.Spec where
 fn:=81
 own:=[]
 rd:=[0]
 res:=[.one (.int .i64)]
 pre:=fun xs Hs Rs=>∃ p R bs bad,xs=[p]/\Rs=[R]/\gZ R p bs bad
 post:=fun xs Hs Rs v Hs' F=>∃ p R bs bad,xs=[p]/\Rs=[R]/\gZ R p bs bad/\v=.int .i64 bs.length
def QK:Sx.Spec where
 fn:=83
 own:=[]
 rd:=[0]
 res:=[.one .bool]
 pre:=fun xs Hs Rs=>∃ p R bs bad,xs=[p]/\Rs=[R]/\gZ R p bs bad
 post:=fun xs Hs Rs v Hs' F=>∃ p R bs bad,xs=[p]/\Rs=[R]/\gZ R p bs bad/\v=.bool bad
def Fx:aG Tryz.prog [] Ka.fn where
 Λ:=aC
 args:=[TP (.var 0) (.lit 0)]
 mem:=[.ro 1 [.var 0] false]
 nv:=2
def Ns:aG Tryz.prog [] QK.fn where
 Λ:=aC
 args:=[TP (.var 0) (.lit 0)]
 mem:=[.ro 1 [.var 0] false]
 nv:=2
def OE:Ka.OK Tryz.prog:=by
 refine Spec.aV (Γ:=[]) (fun _ h=>by cases h) ?_;rintro xs Hs Rs f j ⟨p,R,bs,bad,rfl,rfl,hIn⟩;have k:Hs=[]:=aaz.1 f;subst k;obtain⟨a,x,y,c,rfl,d,l,hx,m,n⟩:=hIn.whole;refine⟨Fx,aL [(a:Int)] false [Hl.none,R],fun _ _=>True,fun _ _=>0,?_,⟨?_,?_,?_,?_⟩,(fun _ h=>nomatch h),?_⟩
 .show [Value.pointer (az (a:Int) 0)]=_;rw[gT]
 .intro r hr ho;simp [Fx]at hr;subst hr;cases ho
 .intro r hr ho;simp [Fx]at hr;subst hr;exact⟨R,aF,Hl.le_refl _⟩
 .simp [Fx]
 .intro r hr;simp [Fx]at hr;subst hr;trivial
 .refine aG.read [] [] [] ?_;generalize b:aL [(a:Int)] false [Hl.none,R]=J;have v0:J.i 0=a:=by rw[<-b];rfl
  have g:J.h 1=R:=by rw[<-b];rfl
  clear b;have e:Int.toNat 0=0:=rfl;simp only[go_sem,Nat.reduceAdd,e];rw[v0,g,aar,d,Ss hx];refine⟨ah,rfl,ah,fun _=>⟨[],[],rfl,rfl,⟨(bf fun _=>bs.length),?_,zzT,zzT⟩,_,R,bs,bad,rfl,rfl,hIn,?_⟩⟩
  all_goals
   show Value.int .i64 (bw (((J.h 1).cell (J.i 0).toNat (Int.toNat 0+0))) 2)=_;rw[v0,g,aar,e,abj,d,Ss hx]
   try rfl
def QL:QK.OK Tryz.prog:=by
 refine Spec.aV (Γ:=[]) (fun _ h=>by cases h) ?_;rintro xs Hs Rs f j ⟨p,R,bs,bad,rfl,rfl,hIn⟩;have k:Hs=[]:=aaz.1 f;subst k;obtain⟨a,x,y,c,rfl,l,d,hx,m,n⟩:=hIn.whole;refine⟨Ns,aL [(a:Int)] false [Hl.none,R],fun _ _=>True,fun _ _=>0,?_,⟨?_,?_,?_,?_⟩,(fun _ h=>nomatch h),?_⟩
 .show [Value.pointer (az (a:Int) 0)]=_;rw[gT]
 .intro r hr ho;simp [Ns]at hr;subst hr;cases ho
 .intro r hr ho;simp [Ns]at hr;subst hr;exact⟨R,aF,Hl.le_refl _⟩
 .simp [Ns]
 .intro r hr;simp [Ns]at hr;subst hr;trivial
 .refine aG.read [] [] [] ?_;generalize b:aL [(a:Int)] false [Hl.none,R]=J;have v0:J.i 0=a:=by rw[<-b];rfl
  have g:J.h 1=R:=by rw[<-b];rfl
  clear b;have e:Int.toNat 1=1:=rfl;simp only[go_sem,Nat.reduceAdd,e];rw[v0,g,aar,d];refine⟨ah,rfl,fun _=>⟨[],[],rfl,rfl,⟨⟨fun _=>0,fun _=>bad,fun _=>.empty,fun _=>.tuple #[],fun _=>Hl.none⟩,?_,zzT,zzT⟩,_,R,bs,bad,rfl,rfl,hIn,?_⟩⟩
  all_goals
   show Value.bool (xI (((J.h 1).cell (J.i 0).toNat (Int.toNat 1+0))))=_;rw[v0,g,aar,e,d]
   try rfl
def ig (L:LM):Int:=dZ (L.note.take 8)
def LF:Sx.Spec where
 fn:=45
 own:=[]
 rd:=[0]
 res:=[.one (.int .u64)]
 pre:=fun xs Hs Rs=>∃ p R dp sl L,xs=[p]/\Rs=[R]/\gh R p dp sl L
 post:=fun xs Hs Rs v Hs' F=>∃ p R dp sl L,xs=[p]/\Rs=[R]/\gh R p dp sl L/\v=.int .u64 (ig L)
def X7:List Sx.Spec:=[KP,ql]
def Ug:∀ t∈X7,t.OK Tryz.prog:=av P0 <| av BK <| bW
def N7:aG Tryz.prog X7 LF.fn where
 Λ:=aC
 args:=[TP (.var 0) (.lit 0)]
 mem:=[.ro 1 [.var 0] false]
 nv:=2
def Y9:KP.res=[.one (.int .u64)]:=rfl
def Za:ql.res=[.agg (tG 16)]:=rfl
def Q9:LF.OK Tryz.prog:=by
 refine Spec.aV (Γ:=X7) Ug ?_;rintro xs Hs Rs k t ⟨p,R,dp,sl,L,rfl,rfl,g⟩;have u:Hs=[]:=aaz.1 k;subst u;obtain⟨a,rfl,l⟩:=id g;refine⟨N7,aL [(a:Int)] false [Hl.none,R],fun _ _=>True,fun _ _=>0,?_,⟨?_,?_,?_,?_⟩,(fun _ h=>nomatch h),?_⟩
 .show [Value.pointer (az (a:Int) 0)]=_;rw[gT]
 .intro r hr ho;simp [N7]at hr;subst hr;cases ho
 .intro r hr ho;simp [N7]at hr;subst hr;exact⟨R,aF,Hl.le_refl _⟩
 .simp [N7]
 .intro r hr;simp [N7]at hr;subst hr;trivial
 .refine aG.read [] [] [] ?_;generalize c:aL [(a:Int)] false [Hl.none,R]=J;have v0:J.i 0=a:=by rw[<-c];rfl
  have v:J.h 1=R:=by rw[<-c];rfl
  clear c;simp only[go_sem,Nat.reduceAdd,X7,Y9,Za];rw[v0,v,gT];refine⟨⟨_,R,dp,sl,L,rfl,rfl,g⟩,fun q1 A ⟨B,⟨C,R',dp',sl',L',e1,d,m,hv⟩,_⟩ q2 w p2=>?_⟩;simp only[aaC,aaP]at e1 d;subst e1 d;obtain⟨_,_,rfl⟩:=g.uniq m;have x:(ar 2 (List.replicate 16 (Ck.int .u8))).map (CV.ev q1)=aM L.note:=aa5 (Value.agg.inj hv);have n:(ar 2 (List.replicate 16 (Ck.int .u8))).map (CV.ev q2)=aM L.note:=(CV.gF w _ aA).trans x;have e:=l.1.note;have f:fL (Hl.one (q2.i 18).toNat (.cells (aM L.note).toArray 60 (0,0))) (.slice (az (q2.i 18) 0) (Int.toNat 8) (Int.toNat 16)) (L.note.take 8):=by
   refine⟨q2.i 18,0,16,?_,aaM _,Or.inr ⟨p2,fun j z o=>?_⟩⟩
   .rw[aaU,e];rfl
   .have q:j<8:=by have:=(aaH.1 o).1;rw[aaU]at this;omega
    rw[abx q]at o;rw[Hl.one_cell,abI,fT,acT,aa6,o];rfl
  rw[n];refine⟨⟨_,_,_,rfl,rfl,f,by rw[aaU];omega⟩,fun y D ⟨E,⟨F,bs',G,e1,d,s,b⟩,_⟩ _=>?_⟩;simp only[aaC,aaP]at e1 d;subst e1 d;rw[<-f.uniq s]at b;have b:Value.int .u64 (y.i 19)=.int .u64 (ig L):=b;exact⟨[],[],rfl,rfl,⟨(bf fun _=>ig L),b,zzT,zzT⟩,_,R,dp,sl,L,rfl,rfl,g,b⟩
end Go.Proofs.YtomdimlnggpgbaaGreatDoor
namespace Go.Sx
open Go
variable {F G:Hl}{us ws:List Value}{b i k m n:Nat}{e:TypeId}{v:Value}
def aP.RH (h:aP F e k v n us) (hb:v.ownBlock=some b):F.mem b:=by
 rcases h.2 with ⟨h,_⟩ | ⟨a,cap,cur,h,c,_⟩
 .rw[h]at hb;cases hb
 .rw[h]at hb;have:a=b:=by simpa [Value.ownBlock] using hb
  subst this;unfold Hl.mem;rw[c];rfl
def aP.mono (hl:F.le G) (h:aP F e k v m us):aP G e k v m us:=by
 refine⟨h.1,h.2.imp id fun⟨g,cap,cur,hv,a,r⟩=>⟨g,cap,cur,hv,hl _ _ a,r⟩⟩
def aP.inj (h1:aP F e k v n us) (h2:aP F e k v m ws):n=m/\us=ws:=by
 obtain⟨c,h1⟩:=h1;obtain⟨d,h2⟩:=h2;rcases h1 with ⟨h1,hn⟩ | ⟨g,cap,cur,h1,i,_,_,_,j⟩<;>rcases h2 with ⟨h2,hm⟩ | ⟨p,f,h,h2,a,_,_,_,b⟩
 .subst hn;subst hm;refine⟨rfl,?_⟩;rw[ade]at c d;rw[aaz.1 c,aaz.1 d]
 .rw[h1]at h2;cases h2
 .rw[h1]at h2;cases h2
 .rw[h1]at h2;simp only[Value.slice.injEq,aaF,Addr.mk.injEq,aaP]at h2;obtain⟨l,o,_⟩:=h2;subst l;subst o;rw[i]at a;simp only[aaF,Obj.cells.injEq,aaP]at a;rw[<-j,<-b,a];exact⟨rfl,rfl⟩
def aP.cellAt {x l c:Int} (h:aP F e 1 (.slice (az x 0) l.toNat c.toNat) n us) (hx:-1<=x) (hi:i<n):0<=x/\F.cell x.toNat i=us[i]?:=by
 obtain⟨hl,h⟩:=h;rcases h with ⟨_,hn⟩ | ⟨g,cap,cur,hv,a,hle,hm,hs,b⟩
 .omega
 .simp only[Value.slice.injEq]at hv;obtain⟨hp,_,_⟩:=hv;have h0:0<=x:=by
   rcases abQ x 0 with d | h0
   .rw[show x= -1 by omega,fx]at hp;cases hp
   .exact h0
  rw[au h0]at hp;simp only[aaF,Addr.mk.injEq,aaP]at hp;refine⟨h0,?_⟩;rw[hp.1,<-b];unfold Hl.cell;rw[a,abx ah,acK]
end Go.Sx
namespace Go.Proofs.YtomdimlnggpgbaaGreatDoor
open Go Go.Sx Go.Pk
variable {B F G H R RA:Hl}{x x' y:Int}{a b rows:List (List Int)}{bs r:List Int}{c j k l:Nat}{o o':Option Nat}{u v v':Value}
def Su {a b:Int} (hx:0<=x) (d:0<=y) (hb:0<=b) (h:az a b=az x y):a=x/\b=y:=by
 rcases abQ a 0 with c | c
 .exfalso;rw[au hx]at h;unfold az at h;rw[aaG ah]at h;split at h
  .cases h
  .simp only[aaF,Addr.mk.injEq]at h;obtain⟨_,_,h⟩:=h;cases h
 .rw[au c,au hx]at h;simp only[aaF,Addr.mk.injEq]at h;omega
def Kq {a:Int} (h:0<=a):(Value.slice (az a y) l c).ownBlock=some a.toNat:=by
 rw[au h];rfl
def QI {l' c':Nat} (hx:-1<=x') (h:some x'.toNat=(Value.slice (az x 0) l c).ownBlock\/¬H.mem x'.toNat\/x'= -1):∀ b,H.mem b->some b≠(Value.slice (az x 0) l c).ownBlock->some b≠(Value.slice (az x' 0) l' c').ownBlock:=by
 intro b hb a he;rcases abQ x' 0 with hn | hn
 .rw[show x'= -1 by omega,fx]at he;cases he
 .rw[Kq hn]at he;have he:b=x'.toNat:=by simpa using he
  rcases h with h | h | h
  .exact a (by rw[he];exact h)
  .rw[<-he]at h;exact h hb
  .omega
def oK (F:Hl) (o:Option Nat) (u:Value) (r:List Int):Prop:=∃ (x y:Int) (c:Nat),u=.slice (az x y) r.length c/\ -1<=x/\0<=y/\(r=[]\/(0<=x/\some x.toNat≠o/\∀ j z,r[j]?=some z->F.cell x.toNat (y.toNat+j)=some (.int .u8 z)))
def NH {b:Nat} (h:F.cell b j=some v):F.mem b:=by
 unfold Hl.cell at h;unfold Hl.mem;cases a:F b with
 | none=>rw[a]at h;cases h
 | some o=>rfl
def cell_of {b:Nat} (h:F.cell b j=some v) (e:G b=F b):G.cell b j=some v:=by
 unfold Hl.cell at h ⊢;rw[e];exact h
def oK.fV (h:oK F o u r) (hk:∀ b,F.mem b->some b≠o->G b=F b) (hn:∀ b,F.mem b->some b≠o->some b≠o'):oK G o' u r:=by
 obtain⟨x,y,c,hu,hx,d,h⟩:=h;refine⟨x,y,c,hu,hx,d,?_⟩;cases r with
 | nil=>exact Or.inl rfl
 | cons z r =>
  rcases h with h | ⟨h0,a,hc⟩
  .cases h
  .have hm:F.mem x.toNat:=NH (hc 0 z rfl);exact Or.inr ⟨h0,hn _ hm a,fun j w e=>cell_of (hc j w e) (hk _ hm a)⟩
def oK.rd (h:oK F o u r):fL F u r:=by
 obtain⟨x,y,c,hu,_,a,h⟩:=h;exact⟨x,y,c,hu,a,h.imp id fun h=>⟨h.1,h.2.2⟩⟩
def oK.of {l c:Int} (h:fL F (.slice (az x y) l.toNat c.toNat) r) (hx:-1<=x) (d:0<=y):oK F none (.slice (az x y) l.toNat c.toNat) r:=by
 obtain⟨x',y',c',hu,a,h⟩:=h;simp only[Value.slice.injEq]at hu;obtain⟨h1,h2,e⟩:=hu;refine⟨x,y,c.toNat,by rw[h2],hx,d,h.imp id fun⟨h0,h⟩=>?_⟩;obtain⟨e1,b⟩:=lI hx d ah a h1;subst e1;have b:=b h0;subst b;exact⟨h0,aF,h⟩
def ck (F:Hl) (v:Value) (rows:List (List Int)):Prop:=∃ us:List Value,aP F 46 1 v rows.length us /\
 ∀ (j:Nat) (u:Value) (r:List Int),us[j]?=some u->rows[j]?=some r->oK F v.ownBlock u r
def ck.nil (F:Hl):ck F (.slice none 0 0) []:=⟨[],⟨rfl,Or.inl ⟨rfl,rfl⟩⟩,(fun j u r h=>by simp at h)⟩
def ck.len {us:List Value} (h:aP F 46 1 v rows.length us):us.length=rows.length:=by
 have:=h.1;omega
def ck.mono (hl:F.le G) (h:ck F v rows):ck G v rows:=by
 obtain⟨us,ho,hr⟩:=h;refine⟨us,aP.mono hl ho,fun j u r hu a=>(hr j u r hu a).fV (fun b hm _=>?_) (fun _ _ h=>h)⟩;obtain⟨o,ho⟩:=abw.1 hm;rw[hl _ _ ho,ho]
def ck.snoc (h:ck F v rows) (hd:F.bV B) (hu:oK B none u r)
 (happ:∀ xs,aP (F.un B) 46 1 v rows.length xs->aP G 46 1 v' (rows.length+1) (xs++[u]))
 (hk:∀ b,(F.un B).mem b->some b≠v.ownBlock->G b=(F.un B) b) (hn:∀ b,(F.un B).mem b->some b≠v.ownBlock->some b≠v'.ownBlock):ck G v' (rows++[r]):=by
 obtain⟨us,ho,hr⟩:=h;have d:=ck.len ho;have hold:∀ (j:Nat) (w:Value) (s:List Int),us[j]?=some w->rows[j]?=some s->oK (F.un B) v.ownBlock w s:=fun j w s a hs =>
  (hr j w s a hs).fV (fun b hm _=>by obtain⟨o,ho⟩:=abw.1 hm;rw[Hl.tB ho,ho]) (fun b _ h=>h)
 have c:oK (F.un B) v.ownBlock u r:=hu.fV (fun b hm _=>by rw[Hl.qU fun h2=>hd b ⟨h2,hm⟩]) fun b hm _ e=>hd b ⟨ho.RH e.symm,hm⟩;refine⟨us++[u],?_,fun j w s a hs=>?_⟩
 .rw[aay,aaW];exact happ us (ho.mono (Hl.bm _ _))
 .rcases abn j us.length with hl | hl
  .rw[aa0 hl]at a;rw[aa0 ah]at hs;exact(hold j w s a hs).fV hk hn
  .rw[aaQ hl]at a;rw[aaQ ah]at hs;have a:=aaA a;have hs:=aaA hs;rw[aaJ]at a hs;subst a;subst hs;exact c.fV hk hn
def ck.at {l c:Int} (h:ck F (.slice (az x 0) l.toNat c.toNat) rows) (hx:-1<=x) (hl:0<=l):l=rows.length/\∀ (i:Nat) r,rows[i]?=some r->0<=x/\∃ u,F.cell x.toNat i=some u/\oK F (some x.toNat) u r:=by
 obtain⟨us,ho,hr⟩:=h;have b:=ck.len ho;refine⟨?_,fun i r hi=>?_⟩
 .rcases ho.2 with ⟨h,hn⟩ | ⟨g,cap,cur,h,_⟩
  .simp only[Value.slice.injEq]at h;omega
  .simp only[Value.slice.injEq]at h;omega
 .have a:=(aaH.1 hi).1;obtain⟨h0,hc⟩:=ho.cellAt hx a;have hu:us[i]?=some us[i]:=aax ah;have:=hr i _ r hu hi;rw[Kq h0]at this;exact⟨h0,_,by rw[hc,hu],this⟩
def ck.uniq (h1:ck F v a) (h2:ck F v b):a=b:=by
 obtain⟨us,ho,hr⟩:=h1;obtain⟨ws,c,d⟩:=h2;obtain⟨el,e⟩:=ho.inj c;subst e;have g:=ck.len ho;apply aci el;intro j h f;have hu:us[j]?=some us[j]:=aax ah;exact(hr j _ _ hu (aax h)).rd.uniq (d j _ _ hu (aax f)).rd
def vU {l c c':Int} (h:ck F (.slice (az x 0) l.toNat c.toNat) rows) (hx:-1<=x) (hl:0<=l) (hd:F.bV B) (hu:oK B none u r) (a:-1<=x')
 (happ:∀ xs,aP (F.un B) 46 1 (.slice (az x 0) l.toNat c.toNat) l.toNat xs->aP G 46 1 (.slice (az x' 0) (l.toNat+1) c'.toNat) (l.toNat+1) (xs++[u]))
 (hkeep:∀ b,(F.un B).mem b->some b≠(Value.slice (az x 0) l.toNat c.toNat).ownBlock->G b=(F.un B) b) (hnew:some x'.toNat=(Value.slice (az x 0) l.toNat c.toNat).ownBlock\/¬(F.un B).mem x'.toNat\/x'= -1):ck G (.slice (az x' 0) (l+1).toNat c'.toNat) (rows++[r]):=by
 have e:l=rows.length:=(h.at hx hl).1;have e1:(l+1).toNat=rows.length+1:=ah;have d:l.toNat=rows.length:=ah;rw[d]at happ;rw[e1];rw[d]at h hkeep hnew;exact ck.snoc h hd hu happ hkeep (QI a hnew)
def tx (bs:List Int):List Int×List Int×Bool:=bn bs false 4096
def qQ:Nat->List Int->List (List Int)
 | 0,_=>[]
 | n+1,bs=>if bs=[]then []else if(tx bs).2.2=true then []else(tx bs).1::qQ n (tx bs).2.1
def jG (bs:List Int):List (List Int):=qQ bs.length bs
def Ee (h0:bs≠[]) (h:(tx bs).2.2=false):(tx bs).2.1.length<bs.length:=by
 have hl:0<bs.length:=adS.2 h0;unfold tx bn at h ⊢;split at h
 .cases h
 .rename_i hc;rw[aaG hc];have h2:(dr bs).2≠0:=fun e=>hc (Or.inr (Or.inl e));show(bs.drop _).length<_;rw[aa7];omega
def pz:∀ n,qQ n []=[]
 | 0=>rfl
 | _+1=>rfl
def xw:∀ (n m:Nat) (bs:List Int),bs.length<=n->bs.length<=m->qQ n bs=qQ m bs
 | 0,m,bs,h,_=>by
  have:bs=[]:=aaz.1 ah;rw[this,pz,pz]
 | n+1,0,bs,_,h=>by
  have:bs=[]:=aaz.1 ah;rw[this,pz,pz]
 | n+1,m+1,bs,h1,h2=>by
  unfold qQ;by_cases h0:bs=[]
  .rw[aaR h0,aaR h0]
  .rw[aaG h0,aaG h0];by_cases hb:(tx bs).2.2=true
   .rw[aaR hb,aaR hb]
   .rw[aaG hb,aaG hb];have:=Ee h0 (abZ.2 hb);rw[xw n m _ ah ah]
def xu (n:Nat) (bs:List Int) (h:bs.length<=n):qQ n bs=jG bs:=xw n bs.length bs h (aaS _)
def CA (h:bs≠[]):jG bs=if(tx bs).2.2=true then []else(tx bs).1::jG (tx bs).2.1:=by
 rw[<-xu (bs.length+1) bs ah];show(if bs=[]then []else if(tx bs).2.2=true then []else(tx bs).1::qQ bs.length (tx bs).2.1)=_;rw[aaG h];cases hb:(tx bs).2.2 with
 | true=>rfl
 | false=>rw[aaG aF,aaG aF,xu _ _ (by have:=Ee h hb;omega)]
def wa:Sx.Spec where
 fn:=46
 own:=[]
 rd:=[0]
 res:=[.one .sl]
 pre:=fun xs Hs Rs=>∃ u bs R,xs=[u]/\Rs=[R]/\fL R u bs/\aq bs/\bs.length<=1000000
 post:=fun xs Hs Rs v Hs' F=>∃ u bs R,xs=[u]/\Rs=[R]/\fL R u bs/\ck F v (jG bs)
def Yx:List Sx.Spec:=[po,Ka,xx,QK]
def VE:∀ t∈Yx,t.OK Tryz.prog:=av vJ <| av OE <| av GN <| av QL <| bW
def AO:aG Tryz.prog Yx wa.fn where
 Λ:=fun p=>if OJ p then some ⟨0,[(3,.sv (.one (.sl (.var 53) (.lit 0) (.var 54) (.var 55))))],[(1,.hp 51 [] [.var 5] []),(2,.hp 56 [] [.var 53] [])],60⟩else none
 args:=[.sv (.one (.sl (.var 0) (.var 1) (.var 2) (.var 3)))]
 mem:=[.ro 4 [.var 0] false]
 nv:=5
def aan:po.res=[.one .ptr]:=rfl
def aao:Ka.res=[.one (.int .i64)]:=rfl
def aap:xx.res=[.one .sl]:=rfl
def aaq:QK.res=[.one .bool]:=rfl
def KI (n:Nat):(aK n [Cp.one .sl]≠[])=True:=by simp [aK,Cp.roots,Ck.root]
def Vo (n:Nat):(aK n [Cp.one .ptr]≠[])=True:=by simp [aK,Cp.roots,Ck.root]
def MV:wa.OK Tryz.prog:=by
 refine Spec.aV (Γ:=Yx) VE ?_;rintro xs Hs Rs P al ⟨u,bs,R,rfl,rfl,o,hby,hlen⟩;have e0:Hs=[]:=aaz.1 P;subst e0;obtain⟨x,y,c,rfl,hy,hR⟩:=id o;refine⟨AO,aL [x,y,bs.length,c] false [Hl.none,Hl.none,Hl.none,Hl.none,R],fun _ q=>∃ rest rows,gZ (q.h 51) (.pointer (az (q.i 5) (q.i 6))) rest false/\ -1<=q.i 53/\0<=q.i 54/\0<=q.i 55/\ck (q.h 56) (.slice (az (q.i 53) 0) (q.i 54).toNat (q.i 55).toNat) rows/\rows++jG rest=jG bs/\rows.length+rest.length<=bs.length,fun _ q=>(bs.length-q.i 54).toNat,?_,⟨?_,?_,?_,?_⟩,(fun _ h=>nomatch h),?_⟩
 .show [Value.slice (az x y) ((bs.length:Int)).toNat ((c:Int)).toNat]=_;rw[aar,aar]
 .intro r hr ho;simp [AO]at hr;subst hr;cases ho
 .intro r hr ho;simp [AO]at hr;subst hr;exact⟨R,aF,Hl.le_refl _⟩
 .simp [AO]
 .intro r hr;simp [AO]at hr;subst hr;trivial
 .refine aG.read [] [] [] ?_;generalize e:aL [x,y,bs.length,c] false [Hl.none,Hl.none,Hl.none,Hl.none,R]=J;have v0:J.i 0=x:=by rw[<-e];rfl
  have v1:J.i 1=y:=by rw[<-e];rfl
  have v2:J.i 2=bs.length:=by rw[<-e];rfl
  have v3:J.i 3=c:=by rw[<-e];rfl
  have w4:J.h 4=R:=by rw[<-e];rfl
  clear e;have out:∀ {q:Env} {rows:List (List Int)} {mem:Mem},Kp mem [] [2]=true->(xA q mem [2])=q.h 56-> -1<=q.i 53->0<=q.i 54->0<=q.i 55->ck (q.h 56) (.slice (az (q.i 53) 0) (q.i 54).toNat (q.i 55).toNat) rows->rows=jG bs->postOf wa [.slice (az x y) bs.length c] [] [R] q mem (.sv (.one (.sl (.var 53) (.lit 0) (.var 54) (.var 55)))):=by
   intro q rows mem hok hu h1 h2 h3 hr he _;subst he;exact⟨[],[2],rfl,hok,⟨(bf fun k=>[q.i 53,0,q.i 54,q.i 55].getD k 0),rfl,⟨h1,aaM _,h2,h3⟩,zzT⟩,_,bs,R,rfl,rfl,o,by rw[hu];exact hr⟩
  simp only[go_sem,Nat.reduceAdd,Yx,aan,aao,aap,aaq,KI,Vo];rw[v0,v1,v2,v3,w4,aar,aar];refine⟨⟨_,bs,R,rfl,rfl,o,hby,hlen⟩,fun q1 g1 ⟨F1,⟨u',bs',R',e1,j,Q,hIn⟩,S,_⟩=>?_⟩;simp only[aaC,aaP]at e1 j;subst e1 j;obtain rfl:=o.uniq Q;rw[<-S zzT]at hIn;refine⟨⟨bs,[],hIn,aaM _,aaM _,aaM _,ck.nil _,rfl,aF⟩,fun q2 g2 ⟨rest,rows,hI,p,l,B,C,m,hle⟩=>?_⟩;have an:=(C.at p l).1;refine⟨⟨_,_,rest,false,rfl,rfl,hI⟩,fun q3 f ⟨F3,⟨p3,R3,ao,af,e1,j,T,v⟩,_⟩=>?_⟩;simp only[aaC,aaP]at e1 j;subst e1 j;obtain⟨L,_⟩:=hI.uniq T;subst L;have v:q3.i 60=rest.length:=by simpa using v
  rw[v];have D:rest.length=0->rows=jG bs:=fun h=>by
   have:rest=[]:=aaz.1 h;subst this;rw[<-m];exact(abA _).symm
  refine⟨fun E=>?_,fun ag=>out rfl (aN _) (by rw[f.i 53];exact p) (by rw[f.i 54];exact l) (by rw[f.i 55];exact B) (by rw[f.i 53,f.i 54,f.i 55,f.h 56];exact C) (D ah)⟩;have F:rest≠[]:=by rintro rfl;simp at E
  rw[f.i 5,f.i 6,f.h 51];refine⟨⟨_,4096,_,rest,false,rfl,rfl,hI,ah⟩,fun d U ⟨F4,⟨p4,m4,H4,aq,aj,ar,e1,j,V,L,a,s⟩,W,t⟩=>?_⟩;simp only[aaC,Value.int.injEq,abk,aaP]at e1 j L;obtain⟨e1,em⟩:=e1;subst e1 em j;obtain⟨e4,X⟩:=hI.uniq V;subst e4 X;rw[<-L]at a;rw[<-W zzT]at s;have a:gZ (d.h 61) (.pointer (az (q2.i 5) (q2.i 6))) (tx rest).2.1 (tx rest).2.2:=a;have s:bZ (d.h 62) 5 (.slice (az (d.i 61) (d.i 62)) (d.i 63).toNat (d.i 64).toNat) (tx rest).1:=s;have t:-1<=d.i 61/\0<=d.i 62/\0<=d.i 63/\0<=d.i 64:=t.1;rw[U.i 5,U.i 6,f.i 5,f.i 6];refine⟨⟨_,_,_,_,rfl,rfl,a⟩,fun Y g5 ⟨F5,⟨p5,R5,au,ak,e1,j,Z,z⟩,_⟩=>?_⟩;simp only[aaC,aaP]at e1 j;subst e1 j;obtain⟨_,X⟩:=a.uniq Z;subst X;have z:Y.b 65=(tx rest).2.2:=by simpa [bD] using z
  have H:=CA F;have G:ai 60 q2 Y:=f.trans ((U.tr g5).mono ah);have G4:ai 65 d Y:=g5;rw[z];refine⟨fun hb=>out rfl (aN _) (by rw[G.i 53];exact p) (by rw[G.i 54];exact l) (by rw[G.i 55];exact B) (by rw[G.i 53,G.i 54,G.i 55,G.h 56];exact C) (by rw[<-m,H,aaR hb,abA]),fun hb M N _ q7 g7 ⟨e7,I⟩=>?_⟩;have hb:(tx rest).2.2=false:=abZ.2 hb;have O:ai 60 q2 q7:=G.trans ((N.tr g7).mono ah);have n:ai 65 d q7:=G4.trans ((N.tr g7).mono ah);have aa:ai 65 d M:=G4.tr N;have G6:ai 60 q2 M:=G.tr N;have hu:oK (M.h 62) none (.slice (az (q7.i 61) (q7.i 62)) (q7.i 63).toNat (q7.i 64).toNat) (tx rest).1:=by
   rw[aa.h 62,n.i 61,n.i 62,n.i 63,n.i 64];exact oK.of s.rd.w t.1 t.2.1
  rw[e7,G6.h 56,O.i 53,O.i 54,O.i 55];rw[G6.h 56]at I;have K:∃ xs,aP ((q2.h 56).un (M.h 62)) 46 1 (.slice (az (q2.i 53) 0) (q2.i 54).toNat (q2.i 55).toNat) (q2.i 54).toNat xs:=by
   obtain⟨us,ho,_⟩:=C;rw[show(q2.i 54).toNat=rows.length by omega]at ho ⊢;exact⟨us,ho.mono (Hl.bm _ _)⟩
  refine⟨⟨K,l,by unfold maxLen;omega,ah⟩,fun g g8 ⟨a1,a2,happ,hk,_,hn⟩=>?_⟩;have G8:ai 60 q2 g:=O.tr g8;have ab:ai 65 d g:=n.tr g8;have A:=vU C p l I hu a1 happ hk hn;have ad:g.i 54+1=q2.i 54+1:=by rw[G8.i 54]
  have ae:=Ee F hb;refine⟨⟨(tx rest).2.1,rows++[(tx rest).1],?_,a1,?_,a2,?_,?_,?_⟩,?_⟩
  .show gZ (g.h 61) (.pointer (az (g.i 5) (g.i 6))) _ _;rw[ab.h 61,G8.i 5,G8.i 6,<-hb];exact a
  .show 0<=g.i 54+1;omega
  .show ck (g.h 68) (.slice (az (g.i 68) 0) (g.i 54+1).toNat (g.i 69).toNat) _;rw[ad];exact A
  .rw[aaV,<-m,H,aaG (by rw[hb];simp)];rfl
  .rw[aay,aaW];omega
  .show((bs.length:Int)-(g.i 54+1)).toNat<_;omega
def iN (h:∃ a l c,u=.slice a l c):Value.slice (az (bw (some u) 0) (bw (some u) 1)) (bw (some u) 2).toNat (bw (some u) 3).toNat=u:=by
 obtain⟨a,n,c,rfl⟩:=h;cases a with
 | none=>simp [bw,az]
 | some a =>
  obtain⟨b,o,s⟩:=a;cases s with
  | none=>simp [bw,az]
  | some s =>
   simp only[bw,aar];unfold az;rw[aaG ah,aaG ah,aar,GS,show(-(-(b:Int)-2)-2).toNat=b by omega]
def fL.parts (h:fL R u r):(∃ a l c,u=.slice a l c)/\bw (some u) 2=r.length /\
 (bw (some u) 0= -1\/bw (some u) 2=0\/0<=bw (some u) 0/\0<=bw (some u) 1/\bM R (bw (some u) 0).toNat (bw (some u) 1).toNat (bw (some u) 2).toNat=true) /\
 (if bw (some u) 0= -1 then ByteArray.empty else bytesOf (fU R (bw (some u) 0).toNat (bw (some u) 1).toNat (bw (some u) 2).toNat))=bytesOf r:=by
 obtain⟨x,y,c,rfl,d,h⟩:=h;have h2:bw (some (.slice (az x y) r.length c)) 2=r.length:=by
  cases hs:az x y with
  | none=>rfl
  | some a=>obtain⟨b,o,s⟩:=a;cases s<;>rfl
 refine⟨⟨_,_,_,rfl⟩,h2,?_⟩;rw[h2];rcases h with h | ⟨hx,hc⟩
 .subst h;refine⟨Or.inr (Or.inl rfl),?_⟩;show(if _ then ByteArray.empty else bytesOf (fU R _ _ 0))=ByteArray.empty;split<;>rfl
 .rw[VR ah,Xz hx d,aar];refine⟨Or.inr (Or.inr ⟨hx,d,df hc (aaS _)⟩),?_⟩;rw[aaG ah,oQ hc]
def jN (R RA:Hl) (v:Value) (rows:List (List Int)):Prop:=∃ (us:List Value) (x y:Int) (c:Nat),v=.slice (az x y) us.length c/\0<=y/\us.length=rows.length/\(∀ (j:Nat) (u:Value),us[j]?=some u->0<=x/\R.cell x.toNat (y.toNat+j)=some u)/\(∀ (j:Nat) (u:Value) (r:List Int),us[j]?=some u->rows[j]?=some r->fL RA u r)
def jN.uniq (h1:jN R RA v a) (h2:jN R RA v b):a=b:=by
 obtain⟨us,x,y,c,hv,o,hl,hc,hr⟩:=h1;obtain⟨d,x',y',c',e,i,p,k,l⟩:=h2;rw[hv]at e;simp only[Value.slice.injEq]at e;obtain⟨q,el,_⟩:=e;apply aci ah;intro j r m;have hu:us[j]?=some us[j]:=aax ah;have g:d[j]?=some d[j]:=aax ah;obtain⟨hx,e1⟩:=hc j _ hu;obtain⟨s,h⟩:=k j _ g;obtain⟨n,f⟩:=lI ah o ah i q;have f:=f hx;subst n;subst f;rw[e1]at h;have h:us[j]=d[j]:=by simpa using h
 have h1:=hr j _ _ hu (aax r);have h2:=l j _ _ g (aax m);rw[h]at h1;exact h1.uniq h2
def jN.at (h:jN R RA (.slice (az x y) l c) rows) (b:0<=y):l=rows.length/\∀ (i:Nat) r,rows[i]?=some r->0<=x/\∃ u,R.cell x.toNat (y.toNat+i)=some u/\fL RA u r:=by
 obtain⟨us,x',y',c',hv,a,hl,hc,hr⟩:=h;simp only[Value.slice.injEq]at hv;obtain⟨d,el,_⟩:=hv;refine⟨ah,fun i r hi=>?_⟩;have f:=(aaH.1 hi).1;have hu:us[i]?=some us[i]:=aax ah;obtain⟨hx,e⟩:=hc i _ hu;obtain⟨rfl,rfl⟩:=Su hx a b d;exact⟨hx,_,e,hr i _ r hu hi⟩
def bI (rows:List (List Int)):List Int:=(rows.map aI).flatten
def gK (rows:List (List Int)):Prop:=∀ r∈rows,r.length<=4096
def IF (h:rows[k]?=some r):bI (rows.take (k+1))=bI (rows.take k)++aI r:=by
 unfold bI;rw[abV,h,ab8,aba,acB];simp
def uF:Sx.Spec where
 fn:=86
 own:=[]
 rd:=[0,3000000]
 res:=[.one .sl,.one (.int .i64)]
 pre:=fun xs Hs Rs=>∃ v R RA rows,xs=[v]/\Rs=[R,RA]/\jN R RA v rows/\rows.length<=1000000/\∀ r∈rows,0<=r.length
 post:=fun xs Hs Rs w Hs' F=>∃ v R RA rows u e,xs=[v]/\Rs=[R,RA]/\jN R RA v rows/\w=.tuple #[u,.int .i64 e]/\(gK rows->e=0/\bZ F 5 u (bI rows))/\(¬gK rows->e=3)
def Yh:List Sx.Spec:=[sX,sz]
def UT:∀ t∈Yh,t.OK Tryz.prog:=av BY <| av zZ <| bW
def uG:aG Tryz.prog Yh uF.fn where
 Λ:=fun p=>if OJ p then some ⟨0,[(4,.sv (.one (.sl (.var 53) (.lit 0) (.var 54) (.var 55)))),(12,TI .i64 (.var 50))],[(2,.hp 56 [] [.var 53] [])],60⟩else none
 args:=[.sv (.one (.sl (.var 0) (.var 1) (.var 2) (.var 3)))]
 mem:=[.ro 4 [.var 0] false,.ro 5 [] true]
 nv:=6
def ZC:sX.res=[]:=rfl
def ZD:sz.res=[.one .sl,.one (.int .i64)]:=rfl
def Z1 (n:Nat):(aK n [Cp.one .sl,Cp.one (.int .i64)]≠[])=True:=by simp [aK,Cp.roots,Ck.root]
def IG:uF.OK Tryz.prog:=by
 refine Spec.aV (Γ:=Yh) UT ?_;rintro xs Hs Rs V aq ⟨v,R,RA,rows,rfl,rfl,hB,hlen,aE⟩;have e0:Hs=[]:=aaz.1 V;subst e0;obtain⟨us,x,y,c,rfl,hy,ar,t,W⟩:=id hB;refine⟨uG,aL [x,y,us.length,c] false [Hl.none,Hl.none,Hl.none,Hl.none,R,RA],fun _ q=>∃ k:Nat,q.i 50=k/\k<=rows.length/\(∀ r∈rows.take k,r.length<=4096)/\ -1<=q.i 53/\q.i 54=(bI (rows.take k)).length/\0<=q.i 55/\bZ (q.h 56) 5 (.slice (az (q.i 53) 0) (q.i 54).toNat (q.i 55).toNat) (bI (rows.take k))/\(bI (rows.take k)).length<=4106*k,fun _ q=>(rows.length-q.i 50).toNat,?_,⟨?_,?_,?_,?_⟩,(fun _ h=>nomatch h),?_⟩
 .show [Value.slice (az x y) ((us.length:Int)).toNat ((c:Int)).toNat]=_;rw[aar,aar]
 .intro r hr ho;simp [uG]at hr;rcases hr with rfl | rfl<;>cases ho
 .intro r hr ho;simp [uG]at hr;rcases hr with rfl | rfl
  .exact⟨R,aF,Hl.le_refl _⟩
  .exact⟨RA,aF,Hl.le_refl _⟩
 .simp [uG,bL.own]
 .intro r hr;simp [uG]at hr;rcases hr with rfl | rfl<;>trivial
 .refine aG.read [] [] [] ?_;generalize f:aL [x,y,us.length,c] false [Hl.none,Hl.none,Hl.none,Hl.none,R,RA]=J;have v0:J.i 0=x:=by rw[<-f];rfl
  have v1:J.i 1=y:=by rw[<-f];rfl
  have v2:J.i 2=us.length:=by rw[<-f];rfl
  have v3:J.i 3=c:=by rw[<-f];rfl
  have w4:J.h 4=R:=by rw[<-f];rfl
  have w5:J.h 5=RA:=by rw[<-f];rfl
  clear f;simp only[go_sem,Nat.reduceAdd,Yh,ZC,ZD,Z1];rw[v2];refine⟨ah,⟨0,rfl,abJ _,aF,aaM _,rfl,aaM _,⟨rfl,Or.inl ⟨rfl,rfl⟩⟩,by simp [bI]⟩,fun q g ⟨k,X,hk,u,Y,Z,aa,hO,hle⟩=>?_⟩;rw[g.i 0,g.i 1,g.i 2,g.h 4,v0,v1,v2,w4,X];refine⟨fun av=>?_,fun aw=>?_⟩
  .have B:k<rows.length:=ah;have hr:rows[k]?=some rows[k]:=aax B;have hu:us[k]?=some us[k]:=aax ah;obtain⟨ab,hc⟩:=t k _ hu;have w:=W k _ _ hu hr;have C:∃ a l c,us[k]=Value.slice a l c:=(fL.parts w).1;have D:R.cell x.toNat (y+(k:Int)).toNat=some us[k]:=by rw[show(y+(k:Int)).toNat=y.toNat+k by omega];exact hc
   refine⟨ab,hy,ah,by rw[D];obtain⟨_,_,_,e⟩:=C;rw[e];rfl,fun q1 g1 E=>?_⟩;have U:ai 6 J q1:=g.tr g1;rw[U.h 4,U.h 5,U.i 0,U.i 1,g1.i 50,v0,v1,w4,w5,X,D,iN C,au E];refine⟨⟨_,_,_,RA,[],false,rows[k],rfl,rfl,rfl,bC.new _,w,aF,aE _ (abM _)⟩,fun q2 g2 ⟨F2,⟨p2,u2,H2,R2,bs2,ax,b2,ay,e1,F,e3,ad,ae,e4,m⟩,_⟩=>?_⟩;simp only[aaC,aaP]at e1 F e3 e4;obtain⟨e1,af⟩:=e1;subst e1 af F e3;obtain⟨G,el⟩:=(bC.new _).uniq ad;subst G el;obtain rfl:=w.uniq ae;rw[<-e4]at m;have ag:kg [] false rows[k]=if 4096<rows[k].length then([],true)else(aI rows[k],false):=rfl
   rw[ag]at m;have H:rows[k].length<=4096->(aI rows[k]).length<=4106:=fun h=>by
    unfold aI;have:=ou (z:=rows[k].length) ah;rw[aay];omega
   have I:(if 4096<rows[k].length then(([]:List Int),true)else(aI rows[k],false)).1.length<=1000000:=by
    split
    .simp
    .have:=H ah;show(aI rows[k]).length<=_;omega
   rw[g2.i 60,au E];refine⟨⟨_,_,_,_,rfl,rfl,m,I⟩,fun b g3 ⟨F3,⟨p3,R3,aA,aB,u3,e1,F,aj,K,n⟩,ak,o⟩=>?_⟩;simp only[aaC,aaP]at e1 F;subst e1 F;obtain⟨G,el⟩:=m.uniq aj;subst G el;simp only[Value.tuple.injEq,abh,aaC,Value.int.injEq,abk,aaP]at K;obtain⟨eu,d⟩:=K;rw[<-eu,<-ak zzT]at n;have A:ai 60 q b:=g1.trans ((g2.tr g3).mono ah);have o:-1<=b.i 63/\0<=b.i 64/\0<=b.i 65/\0<=b.i 66:=o.1;by_cases s:4096<rows[k].length
   .rw[aaR s]at d;have d:b.i 67=3:=d;refine⟨fun _ _=>?_,fun h0=>ah⟩;refine⟨[],[],rfl,rfl,⟨(bf fun j=>[-1,0,0,0,3].getD j 0),?_,⟨aaM _,aaM _,aaM _,aaM _⟩,zzT,zzT⟩,_,R,RA,rows,.slice none 0 0,3,rfl,rfl,hB,?_,fun hok=>?_,fun _=>rfl⟩
    .show Value.tuple #[.slice (az (-1) 0) 0 0,.int .i64 (b.i 67)]=_;rw[d];rfl
    .show Value.tuple #[.slice (az (-1) 0) 0 0,.int .i64 (b.i 67)]=_;rw[d];rfl
    .have:=hok _ (abM B);omega
   .rw[aaG s]at d n;have aC:=H ah;have hE:rW (aI rows[k]) false=(aI rows[k],0):=by unfold rW;rw[aaG (by simp;omega)]
    have d:b.i 67=(rW (aI rows[k]) false).2:=d;have n:bZ (b.h 63) 5 (.slice (az (b.i 63) (b.i 64)) (b.i 65).toNat (b.i 66).toNat) (rW (aI rows[k]) false).1:=n;rw[hE]at d n;refine⟨fun h=>absurd d h,fun _=>?_⟩;have L:=n.rd.at o.1 o.2.1 o.2.2.1;have al:b.i 65=(aI rows[k]).length:=L.1;obtain⟨hok,M⟩:=tj (R:=b.h 63) (x:=b.i 63) (y:=b.i 64) (l:=b.i 65) (bs:=aI rows[k]) al o.2.1 (L.2.imp (·.2) id);rw[A.i 53,A.i 54,A.i 55,A.h 56];have N:aP (q.h 56) 5 1 (.slice (az (q.i 53) 0) (q.i 54).toNat (q.i 55).toNat) (q.i 54).toNat (aM (bI (rows.take k))):=by
     have:=hO;unfold bZ at this;rw[show(q.i 54).toNat=(bI (rows.take k)).length by omega]at this ⊢;exact this
    refine⟨⟨⟨_,N⟩,ah,hok,by unfold maxLen;omega,ah⟩,fun p g4 ⟨a1,a2,happ,_⟩=>?_⟩;have h2:=happ _ N;rw[M]at h2;have O:p.i 65=b.i 65:=g4.i 65;have P:p.i 54=q.i 54:=by rw[g4.i 54,A.i 54]
    have Q:p.i 50=k:=by rw[g4.i 50,A.i 50,X]
    have S:=IF hr;have aD:(bI (rows.take (k+1))).length=(bI (rows.take k)).length+(aI rows[k]).length:=by rw[S,aay]
    refine⟨⟨k+1,?_,ah,fun r T=>?_,a1,?_,a2,?_,ah⟩,?_⟩
    .show IntKind.i64.wrap (p.i 50+1)=_;rw[Q,IntWalk.i64_in _ ah];omega
    .rw[abV,hr,ab8]at T;rcases aa4.1 T with h | h
     .exact u r h
     .rw[aaJ]at h;subst h;omega
    .show p.i 54+p.i 65=_;rw[P,O];omega
    .show bZ (p.h 68) _ (.slice (az (p.i 68) 0) (p.i 54+p.i 65).toNat (p.i 69).toNat) _;unfold bZ;rw[P,O,S,ia,aay];have ea:(q.i 54).toNat+(b.i 65).toNat=(bI (rows.take k)).length+(aI rows[k]).length:=ah;have G:(q.i 54+b.i 65).toNat=(bI (rows.take k)).length+(aI rows[k]).length:=ah;rw[ea]at h2;rw[G];exact h2
    .show((rows.length:Int)-IntKind.i64.wrap (p.i 50+1)).toNat<_;rw[Q,IntWalk.i64_in _ ah];omega
  .have an:k=rows.length:=ah;subst an;rw[abG]at u Z hO;intro _;refine⟨[],[2],rfl,rfl,⟨(bf fun j=>[q.i 53,0,q.i 54,q.i 55,0].getD j 0),rfl,⟨Y,aaM _,by show 0<=q.i 54;omega,aa⟩,zzT,zzT⟩,_,R,RA,rows,.slice (az (q.i 53) 0) (q.i 54).toNat (q.i 55).toNat,0,rfl,rfl,hB,rfl,fun _=>⟨rfl,?_⟩,fun ao=>absurd u ao⟩;show bZ (di [q.h 56]) _ _ _;rw[aN];exact hO
end Go.Proofs.YtomdimlnggpgbaaGreatDoor
namespace Go.Proofs.YtomdimlnggpgbaaGreatDoor
open Go Go.Sx Go.Pk Go.RowKit
variable {F R:Hl}{c d:Int}{g n:Nat}{a b:Nat->Addr}{e v:Value}
def mT:Nat:=0
def nX:Nat:=1
def mh:Nat:=2
def Qz (g:Nat):Prop:=g=mT\/g=nX\/g=mh
def gv (a:Nat->Addr) (g:Nat):Value:=.iface 299 (.pointer (some (a g)))
structure Gl (R:Hl) (a:Nat->Addr):Prop where
 cell:∀ g,Qz g->R.cell g 0=some (gv a g)
 bj:∀ g,Qz g->∃ c t,R (a g).block=some (.cells c t (0,0))
 ne:∀ g h,Qz g->Qz h->g≠h->a g≠a h
def Gl.same (h:Gl R a) (k:Gl R b) (c:Qz g):a g=b g:=by
 have:=(h.cell g c).symm.trans (k.cell g c);simpa [gv] using this
def gi (c:Int):Nat:=if c=4 then nX else if c=14 then mh else mT
def Fa (c:Int):Qz (gi c):=by
 unfold gi Qz;split
 .exact Or.inr (Or.inl rfl)
 .split
  .exact Or.inr (Or.inr rfl)
  .exact Or.inl rfl
def mJ (a:Nat->Addr) (v:Value) (c:Int):Prop:=(c=0/\v=.nilIface)\/(c≠0/\∃ s:ByteArray,v=.iface 156 (.agg #[.string s,gv a (gi c)]))
def mJ.same (h:Gl R a) (k:Gl R b) (hc:mJ a v c) (hd:mJ b v d):(c=0↔d=0)/\(c≠0->gi c=gi d):=by
 rcases hc with ⟨hc,e⟩ | ⟨hc,s,e⟩<;>rcases hd with ⟨hd,f⟩ | ⟨hd,i,f⟩<;>rw[e]at f
 .exact⟨⟨fun _=>hd,fun _=>hc⟩,fun h=>absurd hc h⟩
 .cases f
 .cases f
 .refine⟨⟨fun h=>absurd h hc,fun h=>absurd h hd⟩,fun _=>?_⟩;simp only[Value.iface.injEq,Value.agg.injEq,abh,aaC,Value.string.injEq,gv,Value.pointer.injEq,aaF,abk,aaP]at f;rw[<-h.same k (Fa d)]at f;exact abT fun g=>h.ne _ _ (Fa c) (Fa d) g f.2
open Classical in
noncomputable def VN:Sx.Spec where
 fn:=87
 own:=[]
 rd:=[2000000]
 res:=[.one .bool]
 pre:=fun xs Hs Rs=>∃ e t R a c g,xs=[e,t]/\Rs=[R]/\Gl R a/\mJ a e c/\Qz g/\t=gv a g
 post:=fun xs Hs Rs v Hs' F=>∃ e t R,xs=[e,t]/\Rs=[R]/\∀ a c g,Gl R a->mJ a e c->Qz g->t=gv a g->v=.bool (decide (c≠0/\gi c=g))
def Ox:VN.OK Tryz.prog:=by
 refine oO rfl fun w xs Rs hs ⟨e,t,R,a,c,g,e1,x,d,r,j,y⟩=>?_;subst e1 x y;refine⟨.bool (decide (c≠0/\gi c=g)),⟨⟨fun _=>0,fun _=>decide (c≠0/\gi c=g),fun _=>.empty,fun _=>.tuple #[],fun _=>Hl.none⟩,rfl,zzT,zzT⟩,?_,_,_,R,rfl,rfl,fun z c' u f k i l=>?_⟩
 .have v:=hs R aF;obtain⟨A,tg,m⟩:=d.bj g j;rcases r with ⟨rfl,rfl⟩ | ⟨hc,s,rfl⟩
  .refine(Ur (a g) w).mono fun e w' ⟨h1,h2⟩=>⟨(by rw[h1];simp),(by rw[h2];exact Below.refl _ _)⟩
  .by_cases b:gi c=g
   .subst b;refine(Ds s (a (gi c)) w).mono fun e w' ⟨h1,h2⟩=>⟨(by rw[h1];simp [hc]),h2⟩
   .obtain⟨B,C,n⟩:=d.bj (gi c) (Fa c);refine(Bl s (a g) (a (gi c)) B A C tg w (d.ne _ _ (Fa c) j b) (v _ _ n) (v _ _ m)).mono fun e w' ⟨h1,h2⟩=>⟨(by rw[h1];simp [b]),h2⟩
 .obtain⟨s1,s2⟩:=r.same d f k;have o:g=u:=by
   have:a g=z u:=by simpa [gv] using l
   rw[<-d.same f i]at this;exact abT fun p=>d.ne _ _ j i p this
  subst o
  congr 1
  by_cases h0:c=0
  .have:=s1.1 h0;simp [h0,this]
  .have q:c'≠0:=fun h=>h0 (s1.2 h);rw[<-s2 h0];simp [h0,q]
def Bc:Sx.Spec where
 fn:=52
 own:=[]
 rd:=[2000000]
 res:=[.one .any]
 pre:=fun xs Hs Rs=>∃ (s:ByteArray) (c:Int) (R:Hl) (a:Nat->Addr),xs=[.string s,.int .i64 c]/\Rs=[R]/\Gl R a
 post:=fun xs Hs Rs v Hs' F=>∃ (s:ByteArray) (c:Int) (R:Hl),xs=[.string s,.int .i64 c]/\Rs=[R]/\∀ a,Gl R a->mJ a v c
set_option maxRecDepth 20000 in
def Em (s:ByteArray) (c:Int) (a:Nat->Addr) (w:World) (h0:w.cell? ⟨mT,0,none⟩=some (gv a mT)) (h1:w.cell? ⟨nX,0,none⟩=some (gv a nX)) (h2:w.cell? ⟨mh,0,none⟩=some (gv a mh)) :
 Calls Tryz.prog 52 #[.string s,.int .i64 c] w fun e w'=>e=.returned (if c=0 then .nilIface else .iface 156 (.agg #[.string s,if c=4 then gv a nX else if c=14 then gv a mh else gv a mT]))/\w'=w:=by
 unfold gv mT at h0;unfold gv nX at h1;unfold gv mh at h2;by_cases d:c=0
 .subst d
  go_enter Tryz.func52,Tryz.ntmps52
  go_wp2
  go_ret
  exact⟨rfl,rfl⟩
 .rw[aaG d];by_cases f:c=4
  .subst f
   go_enter Tryz.func52,Tryz.ntmps52
   go_wp2
   go_ret
   exact⟨rfl,rfl⟩
  .rw[aaG f];by_cases b:c=14
   .subst b
    go_enter Tryz.func52,Tryz.ntmps52
    go_wp2
    go_ret
    exact⟨rfl,rfl⟩
   .rw[aaG b]
    go_enter Tryz.func52,Tryz.ntmps52
    go_wp2
    go_ret
    exact⟨rfl,rfl⟩
def Qv (a:Nat->Addr) (s:ByteArray) (c:Int):Value:=if c=0 then .nilIface else .iface 156 (.agg #[.string s,if c=4 then gv a nX else if c=14 then gv a mh else gv a mT])
def GY:Bc.OK Tryz.prog:=by
 refine oO rfl fun w xs Rs hs ⟨s,c,R,a,e1,h,d⟩=>?_;subst e1 h;have g:=hs R aF;have hv:=Em s c a w (Hl.iu g (d.cell _ (Or.inl rfl))) (Hl.iu g (d.cell _ (Or.inr (Or.inl rfl)))) (Hl.iu g (d.cell _ (Or.inr (Or.inr rfl))));refine⟨Qv a s c,⟨⟨fun _=>0,fun _=>false,fun _=>.empty,fun _=>Qv a s c,fun _=>Hl.none⟩,rfl,zzT,zzT⟩,hv.mono fun e w' ⟨h1,h2⟩=>⟨h1,(by rw[h2];exact Below.refl _ _)⟩,s,c,R,rfl,rfl,fun i b=>?_⟩;unfold Qv;by_cases f:c=0
 .rw[aaR f];exact Or.inl ⟨f,rfl⟩
 .rw[aaG f];refine Or.inr ⟨f,s,?_⟩
  congr 3
  unfold gi;split
  .unfold gv;rw[d.same b (Or.inr (Or.inl rfl))]
  .split
   .unfold gv;rw[d.same b (Or.inr (Or.inr rfl))]
   .unfold gv;rw[d.same b (Or.inl rfl)]
def pO (c:Int):Int:=if c=0 then 0 else if gi c=nX then 4 else if gi c=mh then 14 else 5
def rz:Sx.Spec where
 fn:=88
 own:=[]
 rd:=[2000000]
 res:=[.one (.int .i64)]
 pre:=fun xs Hs Rs=>∃ e R a c,xs=[e]/\Rs=[R]/\Gl R a/\mJ a e c
 post:=fun xs Hs Rs v Hs' F=>∃ e R,xs=[e]/\Rs=[R]/\∀ a c,Gl R a->mJ a e c->v=.int .i64 (pO c)
noncomputable def W9:List Sx.Spec:=[VN]
def UM:∀ t∈W9,t.OK Tryz.prog:=fun t a=>by
 simp only[W9,aaN,aaX,abC]at a;rw[a];exact Ox
noncomputable def FH:aG Tryz.prog W9 rz.fn where
 Λ:=aC
 args:=[.sv (.one (.vr 0))]
 mem:=[.ro 1 [.lit 0,.lit 1,.lit 2] false]
 nv:=2
def Zu:VN.res=[.one .bool]:=rfl
def Md (h:Gl R a) (k:Gl R b) (hc:mJ a v c) (hd:mJ b v d):pO c=pO d:=by
 obtain⟨s1,s2⟩:=hc.same h k hd;unfold pO;by_cases h0:c=0
 .rw[aaR h0,aaR (s1.1 h0)]
 .rw[aaG h0,aaG (fun h=>h0 (s1.2 h)),s2 h0]
def Q4 (h:mJ a v c):pM v<=1/\(pM v=0↔c=0):=by
 rcases h with ⟨hc,rfl⟩ | ⟨hc,s,rfl⟩
 .exact⟨aA,fun _=>hc,fun _=>rfl⟩
 .exact⟨aaM 1,fun h=>absurd (show(1:Int)=0 from h) ah,fun h=>absurd h hc⟩
open Classical in
def Ia {q:Env} {K Hs:List Hl} (f:Gl R a) (i:mJ a e c) (j:Qz g) (hp:VN.post [e,gv a g] Hs [R] (.bool (bh q (.bvar n))) K F):(q.b n=true)=(c≠0/\gi c=g):=by
 obtain⟨k,t',R',e1,d,h⟩:=hp;simp only[aaC,aaP]at e1 d;obtain⟨rfl,rfl⟩:=e1;subst d;have:=h a c g f i j rfl;rw[bD]at this;simp only[Value.bool.injEq]at this;rw[this];simp
def Iz:rz.OK Tryz.prog:=by
 refine Spec.aV (Γ:=W9) UM ?_;rintro xs Hs Rs k t ⟨e,R,a,c,rfl,rfl,f,i⟩;have u:Hs=[]:=aaz.1 k;subst u;refine⟨FH,⟨fun _=>0,fun _=>false,fun _=>.empty,fun _=>e,fun _=>R⟩,fun _ _=>True,fun _ _=>0,rfl,⟨?_,?_,?_,?_⟩,(fun _ h=>nomatch h),?_⟩
 .intro r hr ho;simp [FH]at hr;subst hr;cases ho
 .intro r hr ho;simp [FH]at hr;subst hr;exact⟨R,aF,Hl.le_refl _⟩
 .simp [FH]
 .intro r hr;simp [FH]at hr;subst hr;trivial
 .refine aG.read [] [] [] ?_;generalize g:(⟨fun _=>0,fun _=>false,fun _=>.empty,fun _=>e,fun _=>R⟩:Env)=J;have v0:J.v 0=e:=by rw[<-g]
  have p:J.h 1=R:=by rw[<-g]
  clear g;have out:∀ {q:Env} {z:Int} {mem:Mem},z=pO c->postOf rz [e] [] [R] q mem (.sv (.one (.int .i64 (.lit z)))):=by
   rintro q z mem rfl _;exact⟨[],[],rfl,rfl,⟨(bf fun _=>pO c),rfl,zzT,zzT⟩,e,R,rfl,rfl,fun y c' l m=>by
    rw[<-Md f l i m];rfl⟩
  have b:=Q4 i;simp only[go_sem,Nat.reduceAdd,W9,Zu,uf];rw[v0,p];have w:R.cell (Int.toNat 1) (Int.toNat 0)=some (gv a nX):=f.cell nX (Or.inr (Or.inl rfl));have x:R.cell (Int.toNat 2) (Int.toNat 0)=some (gv a mh):=f.cell mh (Or.inr (Or.inr rfl));rw[w];refine⟨b.1,fun h0=>out (by unfold pO;rw[aaR (b.2.1 h0)]),fun h0=>⟨rfl,⟨e,_,R,a,c,nX,rfl,rfl,f,i,Or.inr (Or.inl rfl),rfl⟩,fun q1 s ⟨A,n,_⟩=>?_⟩⟩;have d:c≠0:=fun h=>h0 (b.2.2 h);have r1:=Ia f i (Or.inr (Or.inl rfl)) n;rw[r1,s.h 1,s.v 0,v0,p,x];refine⟨fun h=>out (by unfold pO;rw[aaG d,aaR h.2]),fun h=>⟨rfl,⟨e,_,R,a,c,mh,rfl,rfl,f,i,Or.inr (Or.inr rfl),rfl⟩,fun q2 B ⟨C,o,_⟩=>?_⟩⟩;have j:gi c≠nX:=fun e=>h ⟨d,e⟩;have r2:=Ia f i (Or.inr (Or.inr rfl)) o;rw[r2];exact⟨fun h=>out (by unfold pO;rw[aaG d,aaG j,aaR h.2]),fun h=>out (by unfold pO;rw[aaG d,aaG j,aaG fun e=>h ⟨d,e⟩])⟩
end Go.Proofs.YtomdimlnggpgbaaGreatDoor
namespace Go.Sx
open Go
def J1 {A B C D:Hl} (h1:A.bV B) (h2:A.bV C) (a:A.bV D) (b:B.bV C) (c:B.bV D) (d:C.bV D):A.le (di [A,B,C,D])/\B.le (di [A,B,C,D])/\C.le (di [A,B,C,D])/\D.le (di [A,B,C,D]):=by
 obtain⟨r1,r2,e⟩:=Dl b c d;have hd:A.bV (di [B,C,D]):=by
  show A.bV (B.un (C.un (D.un Hl.none)));exact Hl.yS h1 (Hl.yS h2 (Hl.yS a (Hl.EW _)))
 have hr:(di [B,C,D]).le (di [A,B,C,D]):=Hl.bK hd;exact⟨Hl.bm _ _,fun k o h=>hr k o (r1 k o h),fun k o h=>hr k o (r2 k o h),fun k o h=>hr k o (e k o h)⟩
def oI.mono {R R':Hl} (hl:R.le R') {u:Value} {bs:List Int} (h:oI R u bs):oI R' u bs:=by
 obtain⟨x,y,c,hv,a,h⟩:=h;refine⟨x,y,c,hv,a,h.imp id fun⟨h0,h⟩=>⟨h0,fun j z b=>?_⟩⟩;have:=h j z b;unfold Hl.cell at this ⊢;split at this
 .rename_i o c' T fr ho;rw[hl _ _ ho];exact this
 .cases this
end Go.Sx
namespace Go.Proofs.YtomdimlnggpgbaaGreatDoor.D
open Go Go.Sx
variable {D:DM}{F H H' R R':Hl}{frm n:Int}{L L':LM}{K:List Hl}{b bs bs' nt:List Int}{dp dp' p u v:Value}
def pT (H:Hl) (p dp:Value) (L:LM) (bs:List Int):Prop:=∃ sl,gh H p dp sl L/\oI H sl bs
def pT.mono (hl:R.le R') (h:pT R p dp L bs):pT R' p dp L bs:=by
 obtain⟨sl,h1,h2⟩:=h;exact⟨sl,gh.mono h1 hl,oI.mono hl h2⟩
def fy.rd (h:fy H p dp L bs):pT H p dp L bs:=h.parts
def pT.uniq (h:pT H p dp L bs) (h':pT H p dp' L' bs'):dp=dp'/\L=L'/\bs=bs':=by
 obtain⟨sl,h1,h2⟩:=h;obtain⟨sl',a,b⟩:=h';obtain⟨e1,rfl,c⟩:=h1.uniq a;exact⟨e1,c,h2.uniq b⟩
def DY (f:aD H dp D) (hp:mA.post [dp] [H] [] v [H'] F):aD H' dp D/\v=.int .i64 D.n:=by
 obtain⟨g,h,D',i,hx,d,c,a,b,hv⟩:=hp;simp only[aaC,aaP]at hx d a;subst hx d;have e:=c.uniq f;subst e;rw[<-a]at b;exact⟨b,hv⟩
def B7 (i:aD H dp D) (hp:wY.post [dp,.int .i64 frm,.int .i64 n] [H] [] v [H'] F) :
 ∃ b,aD H' dp D/\v=.tuple #[b,.int .i64 (kC D frm n)]/\(kC D frm n=0->fy F b dp (bc D frm n) (bk D frm n))/\(kC D frm n≠0->b=.pointer none):=by
 obtain⟨dp',c,n',j,D',d,b,hx,f,g,a,h,hv,hl⟩:=hp;have hx:dp=dp'/\frm=c/\n=n':=by simpa using hx
 obtain⟨e1,k,l⟩:=hx;subst e1 k l;have f:H=j:=by simpa using f
 subst f;have e:=g.uniq i;subst e;have a:H'=d:=by simpa using a
 subst a;exact⟨b,h,hv,hl⟩
def EC {HD:Hl} (h1:fy H p dp L bs) (h2:aD HD dp D) (n:fL R u b) (hp:qX.post [p,u,.agg (aM nt).toArray] [H,HD] [R] v K F) :
 ∃ H' a,K=[H',a]/\aD a dp (aT D L bs b nt).D/\fy H' p dp (aT D L bs b nt).L (aT D L bs b nt).bs/\v=.int .i64 (aT D L bs b nt).e:=by
 obtain⟨o,q,b',nt',r,f,s,dp',L',bs',D',H',a,hx,g,h,i,j,k,hK,l,m,hv⟩:=hp;have hx:p=o/\u=q/\aM nt=aM nt':=by simpa using hx
 obtain⟨e1,c,d⟩:=hx;have d:=ly d;subst e1 c d;have g:H=r/\HD=f:=by simpa using g
 obtain⟨e1,c⟩:=g;subst e1 c;have h:R=s:=by simpa using h
 subst h;obtain⟨e1,c,d⟩:=i.uniq h1;subst e1 c d;have e:=j.uniq h2;subst e;have e:=k.uniq n;subst e;exact⟨H',a,hK,l,m,hv⟩
def Bu (h:pT H p dp L bs) (hb:bs.length<=1048576):gl.pre [p] [] [H,H]:=by
 obtain⟨sl,h1,h2⟩:=h;exact⟨p,H,H,dp,sl,L,bs,rfl,rfl,h1,h2,hb⟩
def yH (h:pT H p dp L bs) (hp:gl.post [p] [] [H,H] v K F):bZ F 5 v bs:=by
 obtain⟨sl,h1,h2⟩:=h;obtain⟨f,R1,R2,dp',sl',L',bs',hx,a,b,c,g⟩:=hp;have hx:p=f:=by simpa using hx
 subst hx;have a:H=R1/\H=R2:=by simpa using a
 obtain⟨e1,d⟩:=a;subst e1 d;obtain⟨e1,d,i⟩:=b.uniq h1;subst e1 d i;have e:=c.uniq h2;subst e;exact g
def PK (h:pT H p dp L bs) (hb:bs.length<=1048576):xj.pre [p] [] [H]:=by
 obtain⟨sl,h1,h2⟩:=h;exact⟨p,H,dp,sl,L,bs.length,rfl,rfl,h1,oI.tq h2,hb⟩
def Mx (h:pT H p dp L bs) (hp:xj.post [p] [] [H] v K F):v=.int .i64 (L.most-bs.length):=by
 obtain⟨sl,h1,h2⟩:=h;obtain⟨c,R1,dp',sl',L',n',hx,a,b,hs,hv⟩:=hp;have hx:p=c:=by simpa using hx
 subst hx;have a:H=R1:=by simpa using a
 subst a;obtain⟨e1,d,f⟩:=b.uniq h1;subst e1 d f;have e:=hs.uniq (oI.tq h2);subst e;exact hv
def LV (h:pT H p dp L bs):ql.pre [p] [] [H]:=by
 obtain⟨sl,h1,h2⟩:=h;exact⟨p,H,dp,sl,L,rfl,rfl,h1⟩
def Ii (h:pT H p dp L bs) (hp:ql.post [p] [] [H] v K F):v=.agg (aM L.note).toArray:=by
 obtain⟨sl,h1,h2⟩:=h;obtain⟨c,R1,dp',sl',L',hx,a,b,hv⟩:=hp;have hx:p=c:=by simpa using hx
 subst hx;have a:H=R1:=by simpa using a
 subst a;obtain⟨e1,d,e⟩:=b.uniq h1;subst e1 d e;exact hv
def uA (a:D.ok) (hn:3<=n/\n<=16384):((bk D frm n).length:Int)<=64*(n-2):=by
 have hm:0<=64*(n-2):=ah;have h0:=(jS a frm hm 0).2;have h1:=(jS a frm hm 1).2;have hs:(bc D frm n).size<=64*(n-2):=by
  show(dg D frm n).getD 1 0<=_;unfold dg;split
  .exact h1
  .exact h0
 unfold bk j8;rw[aaU];omega
end Go.Proofs.YtomdimlnggpgbaaGreatDoor.D
namespace Go.Proofs.YtomdimlnggpgbaaGreatDoor
open Go Go.Sx Go.Pk
open Go.Proofs.YtomdimlnggpgbaaGreatDoor.D hiding aL aC fP
variable {F H R R' RA:Hl}{L:LM}{rows:List (List Int)}{K:List Hl}{bs:List Int}{a n:Nat}{dp dp' p u v w:Value}
def JW (h:pT H p dp L bs):LF.pre [p] [] [H]:=by
 obtain⟨sl,h1,h2⟩:=h;exact⟨p,H,dp,sl,L,rfl,rfl,h1⟩
def E8 (h:pT H p dp L bs) (hp:LF.post [p] [] [H] v K F):v=.int .u64 (ig L):=by
 obtain⟨sl,h1,h2⟩:=h;obtain⟨c,R1,dp',sl',L',hx,a,b,hv⟩:=hp;have hx:p=c:=by simpa using hx
 subst hx;have a:H=R1:=by simpa using a
 subst a;obtain⟨e1,d,e⟩:=b.uniq h1;subst e1 d e;exact hv
def AP (h:fL R u bs) (hp:wa.post [u] [] [R] v K F):ck F v (jG bs):=by
 obtain⟨d,bs',R',e1,b,a,c⟩:=hp;simp only[aaC,aaP]at e1 b;subst e1 b;rw[h.uniq a];exact c
structure SM where
 LA:LM
 bA:List Int
 LB:LM
 bB:List Int
 recs:List (List Int)
 over:Bool
variable {S S':SM}
def MJ (a:Nat) (pa pb sl:Value) (o:Bool):Hl:=Hl.one a (.cells #[pa,pb,sl,.bool o] 101 (0,0))
structure QE (H:Hl) (a:Nat) (dp pa pb sl:Value) (HA HB HR:Hl) (S:SM):Prop where
 la:fy HA pa dp S.LA S.bA
 lb:fy HB pb dp S.LB S.bB
 rows:ck HR sl S.recs
 d1:(MJ a pa pb sl S.over).bV HA
 d2:(MJ a pa pb sl S.over).bV HB
 d3:(MJ a pa pb sl S.over).bV HR
 d4:HA.bV HB
 d5:HA.bV HR
 d6:HB.bV HR
 hl:H=di [MJ a pa pb sl S.over,HA,HB,HR]
def jm (H:Hl) (p dp:Value) (S:SM):Prop:=∃ (a:Nat) (pa pb sl:Value) (HA HB HR:Hl),p=.pointer (some ⟨a,0,none⟩)/\QE H a dp pa pb sl HA HB HR S
structure CN (H:Hl) (a:Nat) (dp pa pb sl:Value) (S:SM):Prop where
 bj:H a=some (.cells #[pa,pb,sl,.bool S.over] 101 (0,0))
 la:pT H pa dp S.LA S.bA
 lb:pT H pb dp S.LB S.bB
 rows:ck H sl S.recs
def kN (H:Hl) (p dp:Value) (S:SM):Prop:=∃ (a:Nat) (pa pb sl:Value),p=.pointer (some ⟨a,0,none⟩)/\CN H a dp pa pb sl S
def jm.rd (h:jm H p dp S):kN H p dp S:=by
 obtain⟨a,pa,pb,sl,HA,HB,HR,hp,h⟩:=h;obtain⟨b,c,d,e⟩:=J1 h.d1 h.d2 h.d3 h.d4 h.d5 h.d6;rw[<-h.hl]at b c d e;exact⟨a,pa,pb,sl,hp,b _ _ (Hl.aU _ _),h.la.rd.mono c,h.lb.rd.mono d,h.rows.mono e⟩
def kN.mono (hl:R.le R') (h:kN R p dp S):kN R' p dp S:=by
 obtain⟨a,pa,pb,sl,hp,h⟩:=h;exact⟨a,pa,pb,sl,hp,hl _ _ h.bj,h.la.mono hl,h.lb.mono hl,h.rows.mono hl⟩
def kN.uniq (h:kN H p dp S) (h':kN H p dp' S'):dp=dp'/\S=S':=by
 obtain⟨a,pa,pb,sl,rfl,h⟩:=h;obtain⟨j,k,l,sl',hp,h'⟩:=h';have e:a=j:=by simpa using hp
 subst e;have hb:=h.bj.symm.trans h'.bj;simp only[aaF,Obj.cells.injEq,abh,aaC,Value.bool.injEq,aaP]at hb;obtain⟨rfl,rfl,rfl,b⟩:=hb;obtain⟨e1,c,d⟩:=h.la.uniq h'.la;obtain⟨_,f,g⟩:=h.lb.uniq h'.lb;have i:=h.rows.uniq h'.rows;refine⟨e1,?_⟩;obtain⟨x1,m,n,o,q,r⟩:=S;obtain⟨s,t,u,v,w,x⟩:=S';simp only at c d b f g i;subst c d b f g i;rfl
def fj (D:DM):Int:=if D.n/2<3 then 1 else if D.gone then 5 else 0
def qo (D:DM):LM:=bc D 0 ((D.n/2:Nat):Int)
def jR (D:DM):List Int:=bk D 0 ((D.n/2:Nat):Int)
def ku (D:DM):LM:=bc D ((D.n/2:Nat):Int) ((D.n/2:Nat):Int)
def gD (D:DM):List Int:=bk D ((D.n/2:Nat):Int) ((D.n/2:Nat):Int)
def UF (A:LM) (bA:List Int) (B:LM) (bB:List Int):SM:=⟨A,bA,B,bB,jG bA,false⟩
def cm (D:DM):SM:=if ig (qo D)<ig (ku D)then UF (ku D) (gD D) (qo D) (jR D)else UF (qo D) (jR D) (ku D) (gD D)
def tu:Sx.Spec where
 fn:=13
 own:=[.arg 0]
 rd:=[]
 res:=[.one .ptr,.one (.int .i64)]
 links:=[0]
 pre:=fun xs Hs Rs=>∃ dp H D,xs=[dp]/\Hs=[H]/\aD H dp D/\aq (jR D)/\aq (gD D)
 post:=fun xs Hs Rs v Hs' F=>∃ dp H D H' a,xs=[dp]/\Hs=[H]/\aD H dp D/\Hs'=[H']/\aD H' dp D/\v=.tuple #[a,.int .i64 (fj D)]/\(fj D=0->jm F a dp (cm D))/\(fj D≠0->a=.pointer none)
def Yv:List Sx.Spec:=[mA,wY,LF,gl,wa]
def Vy:∀ t∈Yv,t.OK Tryz.prog:=av xn <| av O4 <| av Q9 <| av Bt <| av MV <| bW
def AK:aG Tryz.prog Yv tu.fn where
 Λ:=aC
 args:=[TP (.var 0) (.lit 0)]
 mem:=[.hp 1 [] [.var 0] []]
 nv:=2
def aag:mA.res=[.one (.int .i64)]:=rfl
def aah:wY.res=[.one .ptr,.one (.int .i64)]:=rfl
def aai:LF.res=[.one (.int .u64)]:=rfl
def aaj:gl.res=[.one .sl]:=rfl
def aak:wa.res=[.one .sl]:=rfl
def ZY (n:Nat):(aK n [Cp.one .ptr,Cp.one (.int .i64)]≠[])=True:=by simp [aK,Cp.roots,Ck.root]
def BC (h:n<=16384):IntKind.i64.wrap ((n:Int).tdiv 2)=((n/2:Nat):Int):=by
 have e:(n:Int).tdiv 2=((n/2:Nat):Int):=rfl;rw[e];exact wrap_i64 ah ah
set_option maxRecDepth 4000 in
def Cv:tu.OK Tryz.prog:=by
 refine Spec.aV (Γ:=Yv) Vy ?_;rintro xs Hs Rs aJ ae ⟨dp,H,D,rfl,rfl,Q,af,ag⟩;have e1:Rs=[]:=aaz.1 ae;subst e1;obtain⟨da,s,m,es,clock,R,S⟩:=id Q;have T:=S.ok.n;have hok:=S.ok;refine⟨AK,aL [(da:Int)] false [Hl.none,H],fun _ _=>True,fun _ _=>0,?_,⟨?_,?_,?_,?_⟩,(fun _ h=>nomatch h),?_⟩
 .show [Value.pointer (az (da:Int) 0)]=_;rw[gT,R]
 .intro r hr ho;simp [AK]at hr;subst hr;exact⟨H,aF,Hl.le_refl _⟩
 .intro r hr ho;simp [AK]at hr;subst hr;cases ho
 .simp [AK]
 .intro r hr;simp [AK]at hr;subst hr;trivial
 .refine aG.read [] [] [] ?_;generalize B:aL [(da:Int)] false [Hl.none,H]=J;have v0:J.i 0=da:=by rw[<-B];rfl
  have w1:J.h 1=H:=by rw[<-B];rfl
  clear B;have ep:Value.pointer (az (da:Int) 0)=dp:=by rw[gT,R]
  have bad:∀ (q:Env) (k:Nat) (vs:List Nat) (t:Mem) (x:E) (e:Int),aD (q.h k) dp D->aB q x=e->fj D=e->e≠0 ->
   postOf tu [dp] [H] [] q (.hp k vs [.var 0] []::t) (.tup [.one (.hptr (.lit (-1)) (.lit 0)),.one (.int .i64 x)]):=by
   intro q k vs t x e hq hx he p _;refine⟨[[0]],[],rfl,rfl,⟨(bf fun j=>[-1,0,e].getD j 0),?_,⟨by show(-1:Int)<= -1;omega,aaM _⟩,zzT,zzT⟩,dp,H,D,_,.pointer none,rfl,rfl,Q,rfl,?_,?_,fun h=>absurd (he.symm.trans h) p,fun _=>rfl⟩
   .subst hx;rfl
   .show aD (di [q.h k]) _ _;rw[aN];exact hq
   .rw[he,<-hx];rfl
  simp only[go_sem,Nat.reduceAdd,Yv,aag,aah,aai,aaj,aak,KI,Vo,ZY,J3];rw[v0,w1,ep];refine⟨⟨dp,H,D,rfl,rfl,Q⟩,fun q1 g1 ⟨F1,aj,_⟩=>?_⟩;obtain⟨C,u⟩:=DY Q aj;have u:q1.i 2=D.n:=by simpa using u
  rw[u,BC T,g1.i 0,v0,ep];refine⟨fun U=>bad q1 2 _ _ _ 1 C (ak _ _) (by unfold fj;rw[aaR ah]) aA,fun V=>?_⟩;have aK:3<=D.n/2:=ah;have hE:fj D=if D.gone then 5 else 0:=by unfold fj;rw[aaG ah]
  have g:kC D 0 ((D.n/2:Nat):Int)=if D.gone then 5 else 0:=by unfold kC;rw[aaG ah]
  have W:kC D ((D.n/2:Nat):Int) ((D.n/2:Nat):Int)=if D.gone then 5 else 0:=by unfold kC;rw[aaG ah]
  have X:3<=((D.n/2:Nat):Int)/\((D.n/2:Nat):Int)<=16384:=ah;refine⟨⟨dp,_,_,_,D,rfl,rfl,C⟩,fun q2 g2 ⟨F2,an,ao,aM⟩=>?_⟩;obtain⟨pA,F,Y,hA,_⟩:=B7 C an;simp only[Value.tuple.injEq,abh,aaC,Value.int.injEq,abk,aaP]at Y;obtain⟨eA,e6⟩:=Y;have G2:ai 2 J q2:=g1.tr g2;have aq:q2.i 2=D.n:=by rw[g2.i 2,u]
  rw[aq,BC T,G2.i 0,v0,ep];refine⟨fun p=>bad q2 4 _ _ _ 5 F (by rw[al,e6,g,aaR];exact abT fun Z=>p (by rw[e6,g,aaG Z])) (by rw[hE,aaR];exact abT fun Z=>p (by rw[e6,g,aaG Z])) aA,fun heq=>?_⟩;have b:D.gone=false:=by
   cases Z:D.gone with
   | false=>rfl
   | true=>rw[e6,g,Z]at heq;cases heq
  have hA:fy F2 pA dp (qo D) (jR D):=hA (by rw[g,b];rfl);rw[<-eA,<-ao zzT]at hA;refine⟨⟨dp,_,_,_,D,rfl,rfl,F⟩,fun q3 g3 ⟨F3,ar,av,aI⟩=>?_⟩;obtain⟨pB,aw,aa,hB,_⟩:=B7 F ar;simp only[Value.tuple.injEq,abh,aaC,Value.int.injEq,abk,aaP]at aa;obtain⟨eB,e9⟩:=aa;have e9:q3.i 9=0:=by rw[e9,W,b];rfl
  have hB:fy F3 pB dp (ku D) (gD D):=hB (by rw[W,b];rfl);rw[<-eB,<-av zzT]at hB;refine⟨fun h=>absurd e9 h,fun _=>⟨JW hB.rd,fun q4 g4 ⟨F4,ax,_⟩=>?_⟩⟩;have ay:q4.i 10=ig (ku D):=by simpa using E8 hB.rd ax
  have G4:ai 7 q2 q4:=g3.tr g4;have G:fy (q4.h 5) (.pointer (az (q4.i 4) (q4.i 5))) dp (qo D) (jR D):=by
   rw[G4.h 5,G4.i 4,G4.i 5];exact hA
  refine⟨JW G.rd,fun f g5 ⟨F5,aC,_⟩=>?_⟩;have aE:f.i 11=ig (qo D):=by simpa using E8 G.rd aC
  have ab:f.i 10=ig (ku D):=by rw[g5.i 10,ay]
  have v:fy (f.h 5) (.pointer (az (f.i 4) (f.i 5))) dp (qo D) (jR D):=by
   rw[g5.h 5,g5.i 4,g5.i 5];exact G
  have y:ai 10 q3 f:=g4.tr g5;have z:fy (f.h 8) (.pointer (az (f.i 7) (f.i 8))) dp (ku D) (gD D):=by
   rw[y.h 8,y.i 7,y.i 8];exact hB
  have ad:aD (f.h 7) dp D:=by rw[y.h 7];exact aw
  have aO:((jR D).length:Int)<=_:=uA hok (frm:=0) X;have aP:((gD D).length:Int)<=_:=uA hok (frm:=((D.n/2:Nat):Int)) X;rw[aE,ab];have A:fj D=0:=by rw[hE,b];rfl
  refine⟨fun U=>⟨Bu z.rd ah,fun q6 g6 ⟨F6,I,K,aH⟩=>?_⟩,fun V=>⟨Bu v.rd ah,fun q6 g6 ⟨F6,I,K,aH⟩=>?_⟩⟩
  .have hO:=yH z.rd I;rw[<-K zzT]at hO;have l:=hO.rd.w;refine⟨⟨_,_,_,rfl,rfl,l,ag,ah⟩,fun q7 g7 ⟨F7,L,M,o⟩ a d p8 hd=>?_⟩;have hW:=AP l L;rw[<-M zzT]at hW;have c:ai 12 f a:=g6.trans ((g7.tr d).mono ah);have o:-1<=q7.i 16/\0<=q7.i 17/\0<=q7.i 18/\0<=q7.i 19:=o.1;refine⟨[[0]],[5,2,1,4],rfl,rfl,⟨(bf fun j=>[a.i 20,0,0].getD j 0),rfl,⟨by show -1<=a.i 20;omega,aaM _⟩,zzT,zzT⟩,dp,H,D,_,Value.pointer (az (a.i 20) 0),rfl,rfl,Q,rfl,?_,?_,fun _=>?_,fun h=>absurd A h⟩
   .show aD (di [a.h 7]) _ _;rw[aN,c.h 7];exact ad
   .rw[A];rfl
   .unfold cm;rw[aaR U];have N:ck (a.h 16) (.slice (az (a.i 16) (a.i 17)) (a.i 18).toNat (a.i 19).toNat) (jG (gD D)):=by
     rw[d.h 16,d.i 16,d.i 17,d.i 18,d.i 19];exact hW
    have O:fy (a.h 5) (.pointer (az (a.i 4) (a.i 5))) dp (qo D) (jR D):=by
     rw[c.h 5,c.i 4,c.i 5];exact v
    have P:fy (a.h 8) (.pointer (az (a.i 7) (a.i 8))) dp (ku D) (gD D):=by
     rw[c.h 8,c.i 7,c.i 8];exact z
    exact⟨(a.i 20).toNat,_,_,_,_,_,_,by rw[au p8];rfl,⟨P,O,N,hd 5 2 _ _ aA rfl rfl rfl,hd 5 1 _ _ aA rfl rfl rfl,hd 5 4 _ _ aA rfl rfl rfl,hd 2 1 _ _ aA rfl rfl rfl,hd 2 4 _ _ aA rfl rfl rfl,hd 1 4 _ _ aA rfl rfl rfl,rfl⟩⟩
  .have hO:=yH v.rd I;rw[<-K zzT]at hO;have l:=hO.rd.w;refine⟨⟨_,_,_,rfl,rfl,l,af,ah⟩,fun q7 g7 ⟨F7,L,M,o⟩ a d p8 hd=>?_⟩;have hW:=AP l L;rw[<-M zzT]at hW;have c:ai 12 f a:=g6.trans ((g7.tr d).mono ah);have o:-1<=q7.i 16/\0<=q7.i 17/\0<=q7.i 18/\0<=q7.i 19:=o.1;refine⟨[[0]],[5,1,2,4],rfl,rfl,⟨(bf fun j=>[a.i 20,0,0].getD j 0),rfl,⟨by show -1<=a.i 20;omega,aaM _⟩,zzT,zzT⟩,dp,H,D,_,Value.pointer (az (a.i 20) 0),rfl,rfl,Q,rfl,?_,?_,fun _=>?_,fun h=>absurd A h⟩
   .show aD (di [a.h 7]) _ _;rw[aN,c.h 7];exact ad
   .rw[A];rfl
   .unfold cm;rw[aaG V];have N:ck (a.h 16) (.slice (az (a.i 16) (a.i 17)) (a.i 18).toNat (a.i 19).toNat) (jG (jR D)):=by
     rw[d.h 16,d.i 16,d.i 17,d.i 18,d.i 19];exact hW
    have O:fy (a.h 5) (.pointer (az (a.i 4) (a.i 5))) dp (qo D) (jR D):=by
     rw[c.h 5,c.i 4,c.i 5];exact v
    have P:fy (a.h 8) (.pointer (az (a.i 7) (a.i 8))) dp (ku D) (gD D):=by
     rw[c.h 8,c.i 7,c.i 8];exact z
    exact⟨(a.i 20).toNat,_,_,_,_,_,_,by rw[au p8];rfl,⟨O,P,N,hd 5 1 _ _ aA rfl rfl rfl,hd 5 2 _ _ aA rfl rfl rfl,hd 5 4 _ _ aA rfl rfl rfl,hd 1 2 _ _ aA rfl rfl rfl,hd 1 4 _ _ aA rfl rfl rfl,hd 2 4 _ _ aA rfl rfl rfl,rfl⟩⟩
def PA (o:Bool) (rows:List (List Int)) (e:Int):Prop:=(o=true->e=5)/\(o=false->gK rows->e=0)/\(o=false->¬gK rows->e=3)
def Au:Sx.Spec where
 fn:=49
 own:=[]
 rd:=[0,1,3000001]
 res:=[.one .sl,.one (.int .i64)]
 pre:=fun xs Hs Rs=>∃ p v a o R R1 RA rows,xs=[p,v]/\Rs=[R,R1,RA]/\p=.pointer (some ⟨a,0,none⟩)/\R.cell a 3=some (.bool o)/\jN R1 RA v rows/\rows.length<=1000000/\∀ r∈rows,0<=r.length
 post:=fun xs Hs Rs w Hs' F=>∃ p v a o R R1 RA rows u e,xs=[p,v]/\Rs=[R,R1,RA]/\p=.pointer (some ⟨a,0,none⟩)/\R.cell a 3=some (.bool o)/\jN R1 RA v rows/\w=.tuple #[u,.int .i64 e]/\PA o rows e/\(e=0->bZ F 5 u (bI rows))
def IT {o:Bool} {R1:Hl} (h1:R.cell a 3=some (.bool o)) (h2:jN R1 RA v rows) (hp:Au.post [.pointer (some ⟨a,0,none⟩),v] [] [R,R1,RA] w K F) :
 ∃ u e,w=.tuple #[u,.int .i64 e]/\PA o rows e/\(e=0->bZ F 5 u (bI rows)):=by
 obtain⟨s,v',d,o',R',f,g,b,u,e,e1,c,h,i,j,hw,k,l⟩:=hp;simp only[aaC,aaP]at e1 c;obtain⟨m,ev⟩:=e1;obtain⟨x1,n,p⟩:=c;subst m ev x1 n p;have q:a=d:=by simpa using h
 subst q;have r:o=o':=by simpa using h1.symm.trans i
 subst r;obtain rfl:=h2.uniq j;exact⟨u,e,hw,k,l⟩
def FX (h2:jN R RA v rows) (hp:uF.post [v] [] [R,RA] w K F) :
 ∃ u e,w=.tuple #[u,.int .i64 e]/\(gK rows->e=0/\bZ F 5 u (bI rows))/\(¬gK rows->e=3):=by
 obtain⟨v',R',c,a,u,e,e1,b,d,hw,f,g⟩:=hp;simp only[aaC,aaP]at e1 b;obtain⟨h,i⟩:=b;subst e1 h i;obtain rfl:=h2.uniq d;exact⟨u,e,hw,f,g⟩
def Pz:List Sx.Spec:=[uF]
def Se:∀ t∈Pz,t.OK Tryz.prog:=fun t a=>by
 simp only[Pz,aaN,aaX,abC]at a;rw[a];exact IG
def Av:aG Tryz.prog Pz Au.fn where
 Λ:=aC
 args:=[TP (.var 0) (.lit 0),.sv (.one (.sl (.var 1) (.var 2) (.var 3) (.var 4)))]
 mem:=[.ro 5 [.var 0] false,.ro 6 [.var 1] false,.ro 7 [] true]
 nv:=8
def ZH:uF.res=[.one .sl,.one (.int .i64)]:=rfl
open Classical in
def Mv:Au.OK Tryz.prog:=by
 refine Spec.aV (Γ:=Pz) Se ?_;rintro xs Hs Rs g s ⟨p,v,a,o,R,R1,RA,rows,rfl,rfl,rfl,hc,hB,hlen,aE⟩;have t:Hs=[]:=aaz.1 g;subst t;obtain⟨us,x,y,c,rfl,E,w,k,z⟩:=id hB;refine⟨Av,aL [(a:Int),x,y,us.length,c] false [Hl.none,Hl.none,Hl.none,Hl.none,Hl.none,R,R1,RA],fun _ _=>True,fun _ _=>0,?_,⟨?_,?_,?_,?_⟩,(fun _ h=>nomatch h),?_⟩
 .show [Value.pointer (az (a:Int) 0),Value.slice (az x y) ((us.length:Int)).toNat ((c:Int)).toNat]=_;rw[aar,aar,gT]
 .intro r hr ho;simp [Av]at hr;rcases hr with rfl | rfl | rfl<;>cases ho
 .intro r hr ho;simp [Av]at hr;rcases hr with rfl | rfl | rfl
  .exact⟨R,aF,Hl.le_refl _⟩
  .exact⟨R1,aF,Hl.le_refl _⟩
  .exact⟨RA,aF,Hl.le_refl _⟩
 .simp [Av,bL.own]
 .intro r hr;simp [Av]at hr;rcases hr with rfl | rfl | rfl<;>trivial
 .refine aG.read [] [] [] ?_;generalize b:aL [(a:Int),x,y,us.length,c] false [Hl.none,Hl.none,Hl.none,Hl.none,Hl.none,R,R1,RA]=J;have v0:J.i 0=a:=by rw[<-b];rfl
  have v1:J.i 1=x:=by rw[<-b];rfl
  have v2:J.i 2=y:=by rw[<-b];rfl
  have v3:J.i 3=us.length:=by rw[<-b];rfl
  have v4:J.i 4=c:=by rw[<-b];rfl
  have A:J.h 5=R:=by rw[<-b];rfl
  have B:J.h 6=R1:=by rw[<-b];rfl
  have C:J.h 7=RA:=by rw[<-b];rfl
  clear b;have t3:Int.toNat 3=3:=rfl;simp only[go_sem,Nat.reduceAdd,Pz,ZH,Z1,t3];rw[v0,v1,v2,v3,v4,A,B,C,aar,aar,aar,hc];refine⟨ah,rfl,fun ho _=>?_,fun ho=>⟨⟨_,R1,RA,rows,rfl,rfl,hB,hlen,aE⟩,fun q1 F ⟨G,l,m,n⟩ _=>?_⟩⟩
  .have ho:o=true:=ho;refine⟨[],[],rfl,rfl,⟨(bf fun j=>[-1,0,0,0,5].getD j 0),rfl,⟨aaM _,aaM _,aaM _,aaM _⟩,zzT,zzT⟩,_,_,a,o,R,R1,RA,rows,.slice none 0 0,5,rfl,rfl,rfl,hc,hB,rfl,⟨fun _=>rfl,fun h=>absurd (ho.symm.trans h) aF,fun h=>absurd (ho.symm.trans h) aF⟩,fun h=>absurd h aA⟩
  .have ho:¬o=true:=ho;obtain⟨u,e,hw,d,f⟩:=FX hB l;simp only[Value.tuple.injEq,abh,aaC,Value.int.injEq,abk,aaP]at hw;obtain⟨D,q⟩:=hw;have hn:-1<=q1.i 8/\0<=q1.i 9/\0<=q1.i 10/\0<=q1.i 11:=n.1;refine⟨[],[3],rfl,rfl,⟨(bf fun j=>[q1.i 8,q1.i 9,q1.i 10,q1.i 11,q1.i 12].getD j 0),rfl,hn,zzT,zzT⟩,_,_,a,o,R,R1,RA,rows,.slice (az (q1.i 8) (q1.i 9)) (q1.i 10).toNat (q1.i 11).toNat,q1.i 12,rfl,rfl,rfl,hc,hB,rfl,⟨fun h=>absurd h ho,fun _ h=>?_,fun _ h=>?_⟩,fun h=>?_⟩
   .rw[q];exact(d h).1
   .rw[q];exact f h
   .show bZ (di [q1.h 8]) _ _ _;rw[aN,m trivial,D];by_cases hk:gK rows
    .exact(d hk).2
    .have:=f hk;omega
end Go.Proofs.YtomdimlnggpgbaaGreatDoor
