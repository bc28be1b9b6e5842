/- RelayCrashes. -/
import Derived.Test.YtomdimlnggpgbaaGreatDoorTK
set_option linter.all false
set_option maxHeartbeats 4000000
namespace Go.Proofs.YtomdimlnggpgbaaGreatDoor
open Go Go.Sx Go.Pk
open Go.Proofs.YtomdimlnggpgbaaGreatDoor.D hiding aL aC fP
variable {D:DM}{B F H K RG T U:Hl}{row:List Value}{r rt x:Nat}{st st':Nat->List Pc}{S S':SM}{dp dp' p v:Value}
def RP {a b:Int} (hb:0<=b) (h:Value.pointer (az a b)=.pointer (some ⟨r,0,none⟩)):a=r/\b=0 :=
 px (x:=(r:Int)) (y:=0) ah (aaM 0) hb ((Value.pointer.inj h).trans (by rw[au ah];rfl))
def cM.uniq (h:cM H p dp S st) (h':cM H p dp' S' st'):dp=dp'/\S=S'/\∀ i,i<6->st i=st' i:=by
 obtain⟨r,ps,x,HS,HI,hp,h⟩:=h;obtain⟨r',d,x',k,l,c,h'⟩:=h';obtain⟨e,f,g⟩:=qg h.d1 h.d2 h.d3;rw[<-h.hl]at e f g;obtain⟨m1,m2,m3⟩:=qg h'.d1 h'.d2 h'.d3;rw[<-h'.hl]at m1 m2 m3;rw[hp]at c;obtain rfl:r=r':=by simpa using c
 have e1:=e _ _ (Hl.aU _ _);have j:=m1 _ _ (Hl.aU _ _);rw[e1]at j;obtain⟨rfl,rfl⟩:ps=d/\x=x':=by simpa using j
 obtain⟨a,b⟩:=(h.so.rd.mono f).uniq (h'.so.rd.mono m2);exact⟨a,b,fun i hi=>(h.ix.rd.mono g).st (h'.ix.rd.mono m3) hi⟩
def cM.congr (h:cM H p dp S st) (e:∀ i,i<6->st i=st' i):cM H p dp S st':=by
 obtain⟨r,ps,x,HS,HI,hp,h⟩:=h;exact⟨r,ps,x,HS,HI,hp,h.so,h.ix.congr e,h.d1,h.d2,h.d3,h.hl⟩
def Pm (e:∀ i,i<6->st i=st' i) (c:Pc):(cC D S st c).e=(cC D S st' c).e/\(cC D S st c).D=(cC D S st' c).D/\(cC D S st c).S=(cC D S st' c).S/\∀ i,i<6->(cC D S st c).st i=(cC D S st' c).st i:=by
 unfold cC;rw[om e c];split
 .exact⟨rfl,rfl,rfl,e⟩
 .split
  .exact⟨rfl,rfl,rfl,e⟩
  .exact⟨rfl,rfl,rfl,fun i hi=>um e c hi⟩
def vH {HD:Hl} {c:Pc} (g:cM H p dp S st) (j:aD HD dp D) (hx:gY T B row c) {K1 K2:Hl} (h:(Al rt).post [p,.agg row.toArray] [H,HD] [T,B,RG] v [K1,K2] F) :
 cM K1 p dp (cC D S st c).S (cC D S st c).st/\aD K2 dp (cC D S st c).D/\v=.int .i64 (cC D S st c).e:=by
 obtain⟨m,H',k,row',n,o,l,dp',S',D',st',c',q,r,e1,b,d,r1,d1,x1,f,r2,d2,hv⟩:=h;simp only[aaC,aaP,Value.agg.injEq]at e1 b d f;obtain⟨rfl,e1⟩:=e1;obtain⟨rfl,rfl⟩:=b;obtain⟨rfl,rfl,rfl⟩:=d;obtain⟨rfl,rfl⟩:=f;have e1:=aa5 e1;subst e1;obtain rfl:=hx.uniq x1;obtain⟨rfl,rfl,a⟩:=g.uniq r1;obtain rfl:=j.uniq d1;obtain⟨f1,f2,f3,f4⟩:=Pm (D:=D) (S:=S) a c;rw[f1,f2,f3];exact⟨r2.congr fun i hi=>(f4 i hi).symm,d2,hv⟩
def jJ.uniq (hd:U.bV T) (h:jJ U T x st) (h':jJ U T x st'):∀ i,i<6->st i=st' i:=by
 obtain⟨sv,KB,h⟩:=h;obtain⟨g,k,h'⟩:=h';have f:U.le (T.un U):=Hl.bK (Hl.jv hd);intro i hi;have e:=(h.sl hi).1;rw[(h'.sl hi).1]at e;have e:=abp e;obtain⟨rows,h1,h2,l⟩:=h.row i hi;obtain⟨c,a,m,d⟩:=h'.row i hi;rw[e]at a;obtain rfl:=h1.rd.uniq a.rd;apply aci ah;intro j n p;have hr:rows[j]?=some rows[j]:=aax ah;exact((l j _ _ hr (aax n)).2 (T.un U) (Hl.bm _ _) fun b o hb=>f b o (h.kb b o hb)).uniq ((d j _ _ hr (aax p)).2 (T.un U) (Hl.bm _ _) fun b o hb=>f b o (h'.kb b o hb))
def jJ.congr (h:jJ U T x st) (e:∀ i,i<6->st i=st' i):jJ U T x st':=by
 obtain⟨sv,KB,h⟩:=h;exact⟨sv,KB,⟨h.bj,fun i hi=>by rw[<-e i hi];exact h.row i hi,h.kb⟩,h.kbx,h.own,fun i hi=>by rw[<-e i hi];exact h.form i hi⟩
def GZ.congr (h:GZ U T x st) (e:∀ i,i<6->st i=st' i):GZ U T x st':=by
 obtain⟨sv,KB,h⟩:=h;exact⟨sv,KB,h.bj,fun i hi=>by rw[<-e i hi];exact h.row i hi,h.kb⟩
def jJ.mono {H':Hl} (hl:H.le H') (h:jJ H T x st):jJ H' T x st:=by
 obtain⟨sv,KB,h⟩:=h;exact⟨sv,KB,h.mono hl⟩
def MD {p:Pc} (hd:H.bV B) (hI:jJ H T x st) (hx:Nf T B row p) (h:(NQ (Cm rt)).post [.pointer (some ⟨x,0,none⟩),.agg row.toArray] [H.un B] [T,RG] v [K] F) :
 v=.int .i64 (bG st p)/\jJ K T x (cR st p)/\Nf T K row p:=by
 obtain⟨⟨x',H',k,row',n,l,st',o,K',e1,d,e,d1,i1,x1,f,hv,i2,hl⟩,a⟩:=h;simp only[aaC,aaP,Value.pointer.injEq,aaF,Addr.mk.injEq,Value.agg.injEq]at e1 d e f;obtain⟨rfl,e1⟩:=e1;obtain⟨rfl,rfl⟩:=e;have e1:=aa5 e1;subst e1 f;have b:(H.un B).bV T:=a _ aF _ aF;have g:=i1.mono (Hl.bm H' k);rw[<-d]at g;have c:=(hI.mono (Hl.bm H B)).uniq b g;have j:(H.un B).le (T.un (H.un B)):=Hl.bK (Hl.jv b);have m:=(x1.mono (Hl.bK d1)).2 (T.un (H.un B)) (Hl.bm _ _) (by rw[<-d];exact j);obtain rfl:=((hx.mono (Hl.bK hd)).2 (T.un (H.un B)) (Hl.bm _ _) j).uniq m;refine⟨by rw[om c p];exact hv,i2.congr fun i hi=>(um c p hi).symm,x1.mono hl.1⟩
def Cn {p:Pc} (hd:H.bV B) (hI:jJ H T x st) (hx:Nf T B row p) (h:(NQ (Cm rt)).post [.pointer (some ⟨x,0,none⟩),.agg row.toArray] [H.un B] [T,RG] v [K] F)
 {o:Obj} (ho:(H.un B) x=some o) {y:Nat} {G:Hl} (h1:G y=some o) (h2:∀ b,b≠x->K.mem b->G b=K b):(GZ G T y st/\(y=x->jJ G T x st))/\Nf T G row p:=by
 obtain⟨⟨x',H',l,row',u,s,st',w,K',e1,g,m,d1,i1,x1,n,hv,i2,hl,hb⟩,a⟩:=h;simp only[aaC,aaP,Value.pointer.injEq,aaF,Addr.mk.injEq,Value.agg.injEq]at e1 g m n;obtain⟨rfl,e1⟩:=e1;obtain⟨rfl,rfl⟩:=m;have e1:=aa5 e1;subst e1 n;have d:(H.un B).bV T:=a _ aF _ aF;have q:=i1.mono (Hl.bm H' l);rw[<-g]at q;have f:=(hI.mono (Hl.bm H B)).uniq d q;have r:(H.un B).le (T.un (H.un B)):=Hl.bK (Hl.jv d);have t:=(x1.mono (Hl.bK d1)).2 (T.un (H.un B)) (Hl.bm _ _) (by rw[<-g];exact r);obtain rfl:=((hx.mono (Hl.bK hd)).2 (T.un (H.un B)) (Hl.bm _ _) r).uniq t;obtain⟨sv,KB,j⟩:=id i1;have k:H' x=some o:=by
  have:=Hl.bm H' l _ _ j.bj;rw[<-g,ho]at this;rw[j.bj,this]
 obtain⟨b1,b2⟩:=hb o y k G h1 h2;refine⟨⟨b1.congr fun i hi=>(f i hi).symm,fun e=>(b2 e).congr fun i hi=>(f i hi).symm⟩,x1.mono fun b c hc=>?_⟩;rw[h2 b (fun e=>d1 b ⟨by rw[e];exact Hl.mem_of j.bj,Hl.mem_of hc⟩) (Hl.mem_of (hl b c hc))];exact hl b c hc
end Go.Proofs.YtomdimlnggpgbaaGreatDoor
namespace Go.Proofs.YtomdimlnggpgbaaGreatDoor
open Go Go.Sx Go.Pk
variable {h:Hd}{R:Hl}{w:Int}{b l mH sum:List Int}{row:List Value}{n:Nat}
def Ni (c:List Value) (w:Int) (n k:Nat):Value:=.int .u64 (if w-1=k then(n:Int)else cI c (54+k))
def mw (c:List Value) (w:Int) (n:Nat) (mH:List Int):List Value:=([.int .i64 w,.int .u64 ((n:Int)+1)]++aM mH)++(c.drop 34).take 20
def qI (c:List Value) (w:Int) (n:Nat) (sum:List Int):List Value:=[Ni c w n 0,Ni c w n 1,Ni c w n 2,Ni c w n 3,Ni c w n 4,Ni c w n 5]++(aM sum++(.int .i64 80::(c.drop 93).take 32))
def gw (c:List Value) (w:Int) (n:Nat) (mH sum:List Int):List Value:=mw c w n mH++qI c w n sum
def fH (n:Nat) (b:List Int):List Int:=List.replicate 80 (match b with | []=>((n%256:Nat):Int) | z::_=>z)
noncomputable def kX (hs:List Hd) (w:Int) (p:Pc):Pc:=⟨⟨gw p.h.c w hs.length (jM hs) (gU (fH hs.length p.b)),p.h.t⟩,fH hs.length p.b⟩
def iC:∀ {a b:List Value} {c kb:List Kd},bo a c->bo b kb->bo (a++b) (c++kb)
 | [],b,[],kb,_,h=>h
 | v::a,b,k::c,kb,h,h2=>⟨h.1,iC h.2 h2⟩
def qL:∀ {n:Nat} {l:List Value} {ks:List Kd},bo l ks->bo (l.drop n) (ks.drop n)
 | 0,_,_,h=>h
 | n+1,[],[],h=>h
 | n+1,v::l,k::ks,h=>qL (n:=n) h.2
def MW (hs:List Hd):∀ z∈jM hs,0<=z/\z<256:=by
 unfold jM;split
 .intro z a;rw[acf a];omega
 .exact Cu _
def KF (h:∀ z∈l,0<=z/\z<256):∀ v∈aM l,xH v:=by
 intro v hv;obtain⟨z,a,rfl⟩:=abb.1 hv;exact h z a
def IV (hx:bU R row h) (a:mH.length=32):([.int .i64 w,.int .u64 ((n:Int)+1)]++aM mH:List Value).length=34/\(mw row w n mH).length=54:=by
 have hl:row.length=125:=gx hx.ok;have h1:([.int .i64 w,.int .u64 ((n:Int)+1)]++aM mH:List Value).length=34:=by rw[aay,cw,a];rfl
 refine⟨h1,?_⟩;unfold mw;rw[aay,h1,aaU,aa7];omega
def PG (hx:bU R row h) (hw:1<=w/\w<=6) (hn:n<=100000) (f:mH.length=32) (hs:sum.length=32) (g:∀ z∈mH,0<=z/\z<256) (bs:∀ z∈sum,0<=z/\z<256) :
 bU R (gw row w n mH sum) ⟨gw h.c w n mH sum,h.t⟩:=by
 have hl:row.length=125:=gx hx.ok;obtain⟨a,i⟩:=IV hx (w:=w) (n:=n) f;have hk:∀ k:Nat,k<6->Ni h.c w n k=Ni row w n k:=fun k hk=>by
  unfold Ni;rw[hx.I ah]
 have j:qI h.c w n sum=qI row w n sum:=by
  unfold qI;rw[hk 0 ah,hk 1 ah,hk 2 ah,hk 3 ah,hk 4 ah,hk 5 ah,hx.core,List.drop_set_of_lt ah]
 have l:mw h.c w n mH=(mw row w n mH).set 53 (.bool false):=by
  unfold mw;rw[adg _ _ (by rw[a];omega),a,hx.core,List.drop_set,aaG ah,<-List.take_set]
 have b:(gw row w n mH sum).getD 53 (.bool false)=row.getD 53 (.bool false):=by
  unfold gw;rw[aaD,aaD,aa0 ah];unfold mw;rw[aaQ (by rw[a];omega),a,abf,aaR ah,aa9]
 refine⟨?_,?_,?_,?_,hx.byte⟩
 .have e:fu=(([Kd.int .i64,.int .u64]++List.replicate 32 (.int .u8))++(fu.drop 34).take 20)++(List.replicate 6 (.int .u64)++(List.replicate 32 (.int .u8)++(.int .i64::(fu.drop 93).take 32))):=rfl;rw[e];unfold gw mw qI;exact iC (iC (iC ⟨rfl,rfl,zzT⟩ (Ec 32 mH f)) (jV (qL hx.ok))) (iC ⟨rfl,rfl,rfl,rfl,rfl,rfl,zzT⟩ (iC (Ec 32 sum hs) ⟨rfl,jV (qL hx.ok)⟩))
 .intro v hv;have hk:∀ k:Nat,k<6->xH (Ni row w n k):=fun k hk=>by
   unfold Ni;split
   .exact⟨ah,ah⟩
   .have d:fu[54+k]?=some (.int .u64):=by
     have:k=0\/k=1\/k=2\/k=3\/k=4\/k=5:=ah;rcases this with rfl | rfl | rfl | rfl | rfl | rfl<;>rfl
    exact hx.rng _ (aaA (uM hx.ok d))
  unfold gw mw qI at hv;simp only[aa4,aaN,aaX,abC]at hv;rcases hv with (((rfl | rfl) | hv) | hv) | ((rfl | rfl | rfl | rfl | rfl | rfl) | hv | rfl | hv)
  .show lu w;unfold lu;omega
  .exact⟨ah,ah⟩
  .exact KF g v hv
  .exact hx.rng v (abH (abo hv))
  .exact hk 0 ah
  .exact hk 1 ah
  .exact hk 2 ah
  .exact hk 3 ah
  .exact hk 4 ah
  .exact hk 5 ah
  .exact KF bs v hv
  .show lu 80;unfold lu;omega
  .exact hx.rng v (abH (abo hv))
 .show gw h.c w n mH sum=_;unfold gw;rw[List.set_append_left _ _ ah,l,j]
 .rw[b];exact hx.tok
def DS (n:Nat) (hb:aq b):(fH n b).length=80/\aq (fH n b):=by
 refine⟨aby,fun z a=>?_⟩;have:=acf a;cases b with
 | nil=>simp at this;omega
 | cons y b=>simp at this;rw[this];exact hb y (aa8 ..)
end Go.Proofs.YtomdimlnggpgbaaGreatDoor
