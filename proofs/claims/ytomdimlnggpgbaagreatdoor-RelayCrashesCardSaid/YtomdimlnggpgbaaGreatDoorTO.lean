/- RelayCrashes. -/
import Derived.ProofKit
import Derived.OpenShut
import Derived.Deep.Slices
import Derived.ChangeSame
import Derived.Test.YtomdimlnggpgbaaGreatDoorCards
import Derived.LaidMore
import Derived.LaidHandle
import Derived.Stop.Joined
import Derived.Stop.LaidErr
import Derived.LaidSub
import Derived.Test.YtomdimlnggpgbaaGreatDoorTN
set_option linter.all false
set_option maxHeartbeats 4000000
namespace Go.Proofs.YtomdimlnggpgbaaGreatDoor.D
open Go Go.Sx
variable {D E F G:DM}{f fk i k m most n:Int}{H S X a all b bs h l nt old:List Int}{B frm j o q s:Nat}
def gz (bs:List Int):Prop:=∀ b∈bs,0<=b/\b<256
def AN {m:List Int} {b:Int} (h:b∈br l o m):b∈l\/b∈m:=by
 unfold br at h;rcases aa4.1 h with h | h
 .rcases aa4.1 h with h | h
  .exact Or.inl (abo h)
  .exact Or.inr h
 .exact Or.inl (abH h)
structure xD (D:DM) (frm:Nat) (n:Int):Prop where
 sure:ni D
 loose:D.loose=[]
 byte:gz D.now
 rng:3<=n/\(frm:Int)+n<=D.n
def xD.head (h:xD D frm n):qf (dg D frm n)/\(dg D frm n).getD 1 0<=64*(n-2):=by
 have hm:0<=64*(n-2):=by have:=h.rng.1;omega
 unfold dg;split
 .exact jS h.sure.ok frm hm 1
 .exact jS h.sure.ok frm hm 0
def xD.len (h:xD D frm n):(((bk D frm n).length:Nat):Int)=(dg D frm n).getD 1 0:=by
 obtain⟨h1,h2⟩:=h.head;have h0:=h1.2.2.1;have hn:=h.sure.ok.now;obtain⟨r1,r2⟩:=h.rng;have hs:(bc D frm n).size=(dg D frm n).getD 1 0:=rfl;unfold bk j8;rw[aaU,aa7,hs];omega
def xD.at {D:DM} {frm:Nat} {n:Int} (_:xD D frm n) {t:Nat} (a:t<(bk D frm n).length):D.now[64*(frm+2)+t]?=(bk D frm n)[t]?:=by
 unfold bk j8 at a ⊢;rw[aaU]at a;rw[abf,aaR ah,aa9]
 congr 1
def EE (x:Int):gz (wo x):=by
 intro b hb;unfold wo at hb;simp only[aaN,aaX,abC]at hb;rcases hb with rfl | rfl | rfl | rfl | rfl | rfl | rfl | rfl<;>omega
def BB (hn:gz (h.drop 2)):gz (aZ h):=by
 intro b hb;unfold aZ at hb;rcases aa4.1 hb with hb | hb
 .rcases aa4.1 hb with hb | hb
  .exact EE _ b hb
  .exact EE _ b hb
 .exact hn b (abo hb)
def MM (h:gz all) (i:Nat):gz (jL all i):=by
 intro b hb;unfold jL at hb;obtain⟨j,_,rfl⟩:=abb.1 hb;cases a:all[64*i+j]? with
 | none=>exact⟨aaM _,aA⟩
 | some z=>exact h z (aaA a)
def xD.W6 (h:xD D frm n):gz ((dg D frm n).drop 2):=by
 have key:∀ p:Nat,p<2->gz ((aX D frm (64*(n-2)) (p:Int)).1.drop 2):=by
  intro p hp;obtain⟨r1,r2⟩:=h.rng;have hi:D.has ((frm:Int)+(p:Int))=true:=by unfold DM.has;simp only[aaB];omega
  rw[c9 h.sure hi];split
  .intro b hb;have hb:b∈(((D.aS ((frm:Int)+(p:Int))).take 32).drop 16).take 16:=hb;have hb:=abo (abH (abo hb));unfold DM.aS at hb;exact h.byte b (abH (abo hb))
  .intro b hb;have hb:b∈List.replicate 16 (0:Int):=hb;have:=acf hb;omega
 unfold dg;split
 .exact key 1 ah
 .exact key 0 ah
def xD.UK (h:xD D frm n):(bc D frm n).note.length=16:=by
 have:=h.head.1.1;show((dg D frm n).drop 2).length=16;rw[aa7];omega
def xD.size (h:xD D frm n):((bk D frm n).length:Int)<=64*(n-2)/\(bk D frm n).length<=1048576:=by
 have h1:=h.len;have h2:=h.head.2;have a:=h.rng;have b:=h.sure.ok.n;omega
def O0 (hm:0<=m/\m<=16384) (hn:3<=n) (hr:(frm:Int)+n<=m):xD (eJ m) frm n:=by
 have hs:ga m=m.toNat:=by unfold ga;omega
 have a:(eJ m).n=m.toNat:=hs;refine⟨BQ m,rfl,fun b hb=>?_,hn,by rw[a];omega⟩;have:=acf hb;omega
def oA (a b:List Int) (k:Int) (h:j<64):(cD a b k)[j]?=some (if stays k j then b.getD j 0 else a.getD j 0):=by
 unfold cD;rw[aaL,aaZ h,abe]
def tA (a b:List Int) (k:Int) (h:j<64):(cD a b k).getD j 0=if stays k j then b.getD j 0 else a.getD j 0:=by
 rw[aaD,oA a b k h];rfl
def Jp (h:X.length=32) (a:j<32):(X++X).getD j 0=X.getD j 0:=by
 rw[aaD,aaD,aa0 ah]
def Jo (h:X.length=32) : (X++X).getD (j+32) 0=X.getD j 0:=by
 rw[aaD,aaD,aaQ ah,h,Nat.add_sub_cancel]
def yt (hS:S.length=64) (a:X.length=32) (h1:∀ j,j<32->S.getD j 0=X.getD j 0) (h2:∀ j,j<32->S.getD (j+32) 0=X.getD j 0):S=X++X:=by
 apply aa2;intro j;have key:j<64->S.getD j 0=(X++X).getD j 0:=by
  intro b;rcases abn j 32 with h | h
  .rw[h1 j h,Jp a h]
  .obtain⟨i,rfl⟩:∃ i,j=i+32:=⟨j-32,ah⟩;rw[h2 i ah,Jo a]
 rcases abn j 64 with h | h
 .have e:=key h;rw[aaD,aaD,aax ah,aax (by rw[aay];omega)]at e;rw[aax ah,aax (by rw[aay];omega)];exact aa1 some e
 .rw[aaK ah,aaK (by rw[aay];omega)]
def MZ (b:X.length=32) (hh:h.length=32) (k:Int) (e:(cD (X++X) (h++h) k).take 32=(cD (X++X) (h++h) k).drop 32):cD (X++X) (h++h) k=X++X\/cD (X++X) (h++h) k=h++h:=by
 have hl:(cD (X++X) (h++h) k).length=64:=cE _ _ _;have c:∀ j,j<32->(cD (X++X) (h++h) k).getD j 0=(cD (X++X) (h++h) k).getD (j+32) 0:=by
  intro j a;have e1:((cD (X++X) (h++h) k).take 32)[j]?=((cD (X++X) (h++h) k).drop 32)[j]?:=aa1 (fun z:List Int=>z[j]?) e;rw[abf,aaR a,aa9]at e1;rw[aaD,aaD,e1,acY 32 j]
 have lo:∀ j,j<32->(cD (X++X) (h++h) k).getD j 0=if stays k j then h.getD j 0 else X.getD j 0:=fun j a=>by
  rw[tA _ _ _ ah,Jp b a,Jp hh a]
 have hi:∀ j,j<32->(cD (X++X) (h++h) k).getD (j+32) 0=if stays k (j+32)then h.getD j 0 else X.getD j 0:=fun j a=>by
  rw[tA _ _ _ ah,Jo b,Jo hh]
 have four:(∀ j,j<32->stays k j=false)\/(∀ j,j<32->stays k (j+32)=false)\/(∀ j,j<32->stays k j=true)\/(∀ j,j<32->stays k (j+32)=true):=by
  by_cases h1:k<128
  .by_cases h2:k<=32
   .refine Or.inr (Or.inl fun j a=>?_);unfold stays;rw[aaR h1];simp;omega
   .refine Or.inr (Or.inr (Or.inl fun j a=>?_));unfold stays;rw[aaR h1];simp;omega
  .by_cases h2:64-(k-128)<=32
   .refine Or.inr (Or.inr (Or.inr fun j a=>?_));unfold stays;rw[aaG h1];simp;omega
   .refine Or.inl fun j a=>?_;unfold stays;rw[aaG h1];simp;omega
 rcases four with f | f | f | f
 .refine Or.inl (yt hl b (fun j a=>?_) (fun j a=>?_))
  .rw[lo j a,f j a];rfl
  .rw[<-c j a,lo j a,f j a];rfl
 .refine Or.inl (yt hl b (fun j a=>?_) (fun j a=>?_))
  .rw[c j a,hi j a,f j a];rfl
  .rw[hi j a,f j a];rfl
 .refine Or.inr (yt hl hh (fun j a=>?_) (fun j a=>?_))
  .rw[lo j a,f j a];rfl
  .rw[<-c j a,lo j a,f j a];rfl
 .refine Or.inr (yt hl hh (fun j a=>?_) (fun j a=>?_))
  .rw[c j a,hi j a,f j a];rfl
  .rw[hi j a,f j a];rfl
def M0 (a b c:List Int) (k:Int):cD (cD a b k) c k=cD a c k:=by
 apply aa2;intro j;rcases abn j 64 with h | h
 .rw[oA _ _ _ h,oA _ _ _ h,tA _ _ _ h];cases stays k j<;>rfl
 .rw[aaK (by rw[cE];omega),aaK (by rw[cE];omega)]
def rS (b:a.length=64) (k:Int):cD a a k=a:=by
 apply aa2;intro j;rcases abn j 64 with h | h
 .rw[oA _ _ _ h];rw[aax ah,aaD,aax ah];cases stays k j<;>rfl
 .rw[aaK (by rw[cE];omega),aaK ah]
structure pV (D:DM) (B:Nat):Prop where
 ok:D.ok
 byte:gz D.now
 old:∀ p∈D.loose,gz p.2/\∀ j,j<64->64*p.1.toNat+j<B->p.2[j]?=D.now[64*p.1.toNat+j]?
def pV.gone (h:pV D B):pV {D with gone:=true} B:=⟨⟨h.ok.now,h.ok.n,h.ok.f0,h.ok.f1,h.ok.loose⟩,h.byte,h.old⟩
def GB (h:gz D.now) (i:Int):gz (D.aS i):=fun b hb=>by
 unfold DM.aS at hb;exact h b (abH (abo hb))
def Be (a:D.gone=false) (hi:D.has i=true) (hb:bs.length=64):cj D i bs=(5,{D with gone:=true})\/cj D i bs=(0,kW D i bs):=by
 unfold cj;rw[aaG (by rw[hi,hb];simp),aaG (by rw[a];simp)];split
 .exact Or.inl rfl
 .exact Or.inr rfl
def uc (h:D.ok):-1<=(if 0<D.bO then D.bO-1 else D.bO)/\(if 0<D.bO then D.bO-1 else D.bO)<=9223372036854775807:=by
 have:=h.f0;have:=h.f1;split<;>omega
def Cz (h:D.ok) (a:D.gone=false):bT D=(5,{D with gone:=true})\/∃ E:DM,bT D=(0,E)/\E.ok/\E.gone=false/\E.now=D.now/\E.n=D.n/\E.loose=[]:=by
 unfold bT;rw[aaG (by rw[a];simp)];split
 .exact Or.inl rfl
 .refine Or.inr ⟨_,rfl,⟨h.now,h.n,(uc h).1,(uc h).2,fun p hp=>by cases hp⟩,a,rfl,rfl,rfl⟩
def Cc (h:pV D B) (hi:D.has i=true) (hb:bs.length=64) (e:gz bs) (hs:∀ j,j<64->64*i.toNat+j<B->bs[j]?=D.now[64*i.toNat+j]?) :
 pV (kW D i bs) B/\∀ j,j<B->(kW D i bs).now[j]?=D.now[j]?:=by
 have g:=mo h.ok hi hb;have same:∀ j,j<B->(kW D i bs).now[j]?=D.now[j]?:=by
  intro j d;rw[g];split
  .rename_i hh;rw[hs _ ah ah]
   congr 1;omega
  .rfl
 refine⟨⟨yh h.ok hi hb,fun b c=>?_,fun p hp=>?_⟩,same⟩
 .rcases AN c with c | c
  .exact h.byte b c
  .exact e b c
 .have hp:p∈(if(gX i (lv D.loose) 0).isSome then D.loose else D.loose++[(i,D.aS i)]):=hp;have f:p∈D.loose\/p=(i,D.aS i):=by
   split at hp
   .exact Or.inl hp
   .rcases aa4.1 hp with hp | hp
    .exact Or.inl hp
    .exact Or.inr (by simpa using hp)
  rcases f with hp | rfl
  .obtain⟨a,b⟩:=h.old p hp;exact⟨a,fun j d hB=>by rw[same _ hB];exact b j d hB⟩
  .refine⟨GB h.byte i,fun j d hB=>?_⟩;rw[same _ hB];exact ti h.ok hi d
def IM (i:Int) (bs:List Int):(kW D i bs).loose.length<=D.loose.length+1:=by
 show(if(gX i (lv D.loose) 0).isSome then D.loose else D.loose++[(i,D.aS i)]).length<=_;split<;>simp
def HO (frm:Nat) (all:List Int) (x:gz all) (B:Nat) (hB:B<=64*(frm+2)+all.length):∀ (f i:Nat) (D:DM),pV D B->D.gone=false->all.length+64*(frm+2)<=64*D.n->all.length+1<=f+i ->
 (∀ t,64*i<=t->64*(frm+2)+t<B->D.now[64*(frm+2)+t]?=all[t]?) ->
 pV (bY frm all f i D).2 B/\(bY frm all f i D).2.n=D.n/\(bY frm all f i D).2.loose.length<=D.loose.length+f/\(∀ j,j<B->(bY frm all f i D).2.now[j]?=D.now[j]?)/\(∀ j,j<64*(frm+2+i)->(bY frm all f i D).2.now[j]?=D.now[j]?) /\
 (((bY frm all f i D).1=0/\(bY frm all f i D).2.gone=false/\(bY frm all f i D).2.loose=[]/\∀ t,64*i<=t->t<all.length->(bY frm all f i D).2.now[64*(frm+2)+t]?=all[t]?)\/(bY frm all f i D).1=5):=by
 intro f;have sync:∀ (g i:Nat) (D:DM),pV D B->D.gone=false->all.length<=64*i ->
  pV (bT D).2 B/\(bT D).2.n=D.n/\(bT D).2.loose.length<=D.loose.length+g/\(∀ j,j<B->(bT D).2.now[j]?=D.now[j]?)/\(∀ j,j<64*(frm+2+i)->(bT D).2.now[j]?=D.now[j]?) /\
  (((bT D).1=0/\(bT D).2.gone=false/\(bT D).2.loose=[]/\∀ t,64*i<=t->t<all.length->(bT D).2.now[64*(frm+2)+t]?=all[t]?)\/(bT D).1=5):=by
  intro g i D h c hi;rcases Cz h.ok c with e | ⟨E,e,y,z,m,A,o⟩
  .rw[e];exact⟨h.gone,rfl,by show D.loose.length<=_;omega,fun j _=>rfl,fun j _=>rfl,Or.inr rfl⟩
  .rw[e];exact⟨⟨y,by rw[m];exact h.byte,fun p hp=>by rw[o]at hp;cases hp⟩,A,by rw[o];simp,fun j _=>by rw[m],fun j _=>by rw[m],Or.inl ⟨rfl,z,o,fun t h1 h2=>ah⟩⟩
 induction f with
 | zero =>
  intro i D h c h1 h2 q;exact sync 0 i D h c ah
 | succ f ih =>
  intro i D h c h1 h2 q;by_cases d:64*i<all.length
  .have hi:D.has ((frm:Int)+2+i)=true:=by unfold DM.has;simp only[aaB];omega
   have r:((frm:Int)+2+i).toNat=frm+2+i:=ah;have a:bY frm all (f+1) i D=if(cj D (frm+2+i) (jL all i)).1≠0 then cj D (frm+2+i) (jL all i)else bY frm all f (i+1) (cj D (frm+2+i) (jL all i)).2:=by
    show(if 64*i<all.length then _ else _)=_;rw[aaR d]
   rcases Be c hi (fX all i)with e | e
   .rw[e]at a;have a:bY frm all (f+1) i D=(5,{D with gone:=true}):=by rw[a,aaR aF]
    rw[a];exact⟨h.gone,rfl,by show D.loose.length<=_;omega,fun j _=>rfl,fun j _=>rfl,Or.inr rfl⟩
   .rw[e]at a;have a:bY frm all (f+1) i D=bY frm all f (i+1) (kW D (frm+2+i) (jL all i)):=by rw[a,aaG aF]
    rw[a];obtain⟨hS,hsame⟩:=Cc h hi (fX all i) (MM x i) (fun j k s=>by
     rw[r]at s ⊢;rw[AF all i j k ah,show 64*(frm+2+i)+j=64*(frm+2)+(64*i+j)by omega];exact(q _ ah ah).symm)
    have v:=mo h.ok hi (fX all i);obtain⟨C,F,a3,a4,a5,G⟩:=ih (i+1) _ hS rfl h1 ah (fun t H l=>by rw[hsame _ l];exact q t ah l);have I:=IM (D:=D) (frm+2+i) (jL all i);refine⟨C,F,ah,fun j k=>by rw[a4 j k,hsame j k],fun j k=>by rw[a5 j ah,v,r,aaG ah],?_⟩;rcases G with ⟨b1,b2,J,K⟩ | b
    .refine Or.inl ⟨b1,b2,J,fun t H u=>?_⟩;rcases abn t (64*(i+1))with w | w
     .rw[a5 _ ah,v,r,aaR ah,AF all i _ ah ah]
      congr 1;omega
     .exact K t w u
    .exact Or.inr b
  .have e:bY frm all (f+1) i D=bT D:=by
    show(if 64*i<all.length then _ else _)=_;rw[aaG d]
   rw[e];exact sync (f+1) i D h c ah
def M6 {loose:List (Int×List Int)} (h:∃ p∈loose,p.1=k):(k,iQ loose k)∈loose:=by
 unfold iQ;cases hf:loose.find? (fun p=>p.1==k)with
 | none =>
  obtain⟨p,hp,e⟩:=h;have:=ace.1 hf p hp;simp [e]at this
 | some p =>
  have h1:=acR hf;have h2:=List.find?_some hf;have h2:p.1=k:=by simpa using h2
  obtain⟨a,b⟩:=p;simp only at h2;subst h2;exact h1
def sK (h:pV D B) (fate:List Int):ni (bX D fate)/\(bX D fate).loose=[]/\gz (bX D fate).now/\(bX D fate).n=D.n/\∀ j,j<B->(bX D fate).now[j]?=D.now[j]?:=by
 have hks:∀ k∈fg (D.loose.map (·.1)),∃ p∈D.loose,p.1=k:=fun k hk=>by
  obtain⟨p,hp,e⟩:=abb.1 (rP.1 hk);exact⟨p,hp,e⟩
 have f:∀ k∈fg (D.loose.map (·.1)),0<=k/\k<D.n:=fun k hk=>by
  obtain⟨p,hp,rfl⟩:=hks k hk;exact(h.ok.loose p hp).2
 have key:∀ i,i<=(fg (D.loose.map (·.1))).length->gz (gR D.loose fate D.now (fg (D.loose.map (·.1))) i)/\∀ j,j<B->(gR D.loose fate D.now (fg (D.loose.map (·.1))) i)[j]?=D.now[j]?:=by
  intro i
  induction i with
  | zero=>exact fun _=>⟨h.byte,fun j _=>rfl⟩
  | succ i ih =>
   intro hi;obtain⟨o,q⟩:=ih ah;have hm:(fg (D.loose.map (·.1))).getD i 0∈fg (D.loose.map (·.1)):=by
    rw[aaD,aax ah,abL];exact abM _
   have hl:=iJ h.ok fate _ f i ah;obtain⟨k,hk⟩:∃ k,k=(fg (D.loose.map (·.1))).getD i 0:=⟨_,rfl⟩;rw[<-hk]at hm;obtain⟨cur,d⟩:∃ c,c=gR D.loose fate D.now (fg (D.loose.map (·.1))) i:=⟨_,rfl⟩;rw[<-d]at o q hl;have e:gR D.loose fate D.now (fg (D.loose.map (·.1))) (i+1)=br cur (64*k.toNat) (cD (iQ D.loose k) (jF cur k) (bF fate i)):=by rw[hk,d];rfl
   rw[e];obtain⟨r,s⟩:=h.old _ (M6 (hks k hm));have r:gz (iQ D.loose k):=r;have s:∀ j,j<64->64*k.toNat+j<B->(iQ D.loose k)[j]?=D.now[64*k.toNat+j]?:=s;obtain⟨k0,k1⟩:=f k hm;have t:∀ j,j<64->(jF cur k)[j]?=cur[64*k.toNat+j]?:=fun j g=>by
    unfold jF;rw[abx g,aa9]
   refine⟨fun b hb=>?_,fun j g=>?_⟩
   .rcases AN hb with hb | hb
    .exact o b hb
    .unfold cD at hb;obtain⟨j,g,rfl⟩:=abb.1 hb;have gd:∀ l:List Int,gz l->0<=l.getD j 0/\l.getD j 0<256:=fun l hl=>by
      rw[aaD];cases w:l[j]? with
      | none=>exact⟨aaM _,aA⟩
      | some z=>exact hl z (aaA w)
     split
     .exact gd _ fun z x=>o z (abH (abo x))
     .exact gd _ r
   .rw[Sx.jW (by rw[cE,hl];omega),cE];split
    .rename_i hh;have u:j-64*k.toNat<64:=ah;have h1:=q j g;have h2:=s (j-64*k.toNat) u ah;have v:=t (j-64*k.toNat) u;rw[show 64*k.toNat+(j-64*k.toNat)=j by omega]at h2 v;have m:j<D.now.length:=by rw[h.ok.now];omega
     rw[oA _ _ _ u,aax m,aaD,aaD,h2,v,h1,aax m];cases stays (bF fate i) (j-64*k.toNat)<;>rfl
    .exact q j g
 have hl:(fg (D.loose.map (·.1))).length=D.loose.length:=by rw[py,aaT]
 obtain⟨a,b⟩:=key D.loose.length ah;exact⟨⟨Bx h.ok fate,rfl,rfl⟩,rfl,a,rfl,b⟩
def MR (x:Int):fg [x]=[x]:=List.mergeSort_singleton x
def Ls (h:D.loose=[(i,old)]) (fate:List Int):(bX D fate).now=br D.now (64*i.toNat) (cD old (jF D.now i) (bF fate 0)):=by
 show gR D.loose fate D.now (fg (D.loose.map (·.1))) D.loose.length=_;rw[h];show gR [(i,old)] fate D.now (fg [i]) 1=_;rw[MR];show br D.now (64*i.toNat) (cD (iQ [(i,old)] i) (jF D.now i) (bF fate 0))=_;have e:iQ [(i,old)] i=old:=by unfold iQ;simp
 rw[e]
def Cr (hS:S.length=64) (h:∀ j,j<64->D.now[64*i.toNat+j]?=S[j]?):D.aS i=S:=by
 unfold DM.aS;apply aa2;intro j;rw[abf];split
 .rename_i a;rw[aa9,h j a]
 .rw[aaK ah]
structure jn (D:DM) (frm:Nat) (n fk:Int) (s:Nat):Prop where
 mir:xD D frm n
 ser:(dg D frm n).getD 0 0=s
 cur:∃ C:List Int,C.length=32/\D.aS ((frm:Int)+((s%2:Nat):Int))=C++C/\dZ (C.take 8)=s
 at_:(aX D frm (64*(n-2)) ((s%2:Nat):Int)).1=dg D frm n
 oth:∃ X Y:List Int,X.length=32/\Y.length=32/\D.aS ((frm:Int)+(((s+1)%2:Nat):Int))=cD (X++X) (Y++Y) fk /\
  ((cD (X++X) (Y++Y) fk).take 32=(cD (X++X) (Y++Y) fk).drop 32->cD (X++X) (Y++Y) fk=X++X)/\dZ (X.take 8)<=s
def O8 (h:ni D) (hi:D.has ((frm:Int)+(((s+1)%2:Nat):Int))=true) (c:X.length=32) (hS:D.aS ((frm:Int)+(((s+1)%2:Nat):Int))=S) (hl:S.take 32=S.drop 32->S=X++X) (hb:dZ (X.take 8)<=s) :
 (aX D frm most (((s+1)%2:Nat):Int)).1.getD 0 0<s\/(aX D frm most (((s+1)%2:Nat):Int)).1.getD 0 0=0:=by
 rw[c9 h hi,hS];split
 .rename_i d;obtain⟨f,a,i⟩:=d;have e:=hl f;have b:S.take 32=X:=by rw[e,aco c]
  rw[b]at a;refine Or.inl ?_;show(wI (S.take 32)).getD 0 0<_;rw[b];show dZ (X.take 8)<_;rcases abQ (dZ (X.take 8)) s with h1 | h1
  .exact h1
  .have g:dZ (X.take 8)=s:=ah;rw[g,abm ah]at a;omega
 .exact Or.inr rfl
def FM (hc:(aX D frm (64*(n-2)) ((s%2:Nat):Int)).1=H) (h0:H.getD 0 0=s)
 (ho:(aX D frm (64*(n-2)) (((s+1)%2:Nat):Int)).1.getD 0 0<s\/(aX D frm (64*(n-2)) (((s+1)%2:Nat):Int)).1.getD 0 0=0):dg D frm n=H:=by
 unfold dg;rcases ads s with e | e
 .have a:(s+1)%2=1:=ah;rw[e]at hc;rw[a]at ho;have hc:(aX D frm (64*(n-2)) 0).1=H:=hc;have ho:(aX D frm (64*(n-2)) 1).1.getD 0 0<s\/(aX D frm (64*(n-2)) 1).1.getD 0 0=0:=ho;rw[hc,h0,aaG ah]
 .have a:(s+1)%2=0:=ah;rw[e]at hc;rw[a]at ho;have hc:(aX D frm (64*(n-2)) 1).1=H:=hc;have ho:(aX D frm (64*(n-2)) 0).1.getD 0 0<s\/(aX D frm (64*(n-2)) 0).1.getD 0 0=0:=ho;rw[hc,h0,aaR ah]
def jn.has (h:xD D frm n) (a:q<2):D.has ((frm:Int)+(q:Int))=true:=by
 obtain⟨r1,r2⟩:=h.rng;unfold DM.has;simp only[aaB];omega
def jn.stay (h:jn D frm n fk s) (b:xD E frm n)
 (hsame:∀ j,64*frm<=j->j<64*(frm+2)+(bk D frm n).length->¬(64*(frm+(s+1)%2)<=j/\j<64*(frm+(s+1)%2)+64)->E.now[j]?=D.now[j]?)
 {X Y:List Int} (k:X.length=32) (l:Y.length=32) (hS:E.aS ((frm:Int)+(((s+1)%2:Nat):Int))=cD (X++X) (Y++Y) fk)
 (hl:(cD (X++X) (Y++Y) fk).take 32=(cD (X++X) (Y++Y) fk).drop 32->cD (X++X) (Y++Y) fk=X++X) (hb:dZ (X.take 8)<=s) :
 jn E frm n fk s/\dg E frm n=dg D frm n/\bk E frm n=bk D frm n:=by
 obtain⟨r1,r2⟩:=h.mir.rng;have a:E.aS ((frm:Int)+((s%2:Nat):Int))=D.aS ((frm:Int)+((s%2:Nat):Int)):=by
  refine iq fun j h1 h2=>hsame j ah ah ah
 have d:=jn.has h.mir (q:=s%2) ah;have e:=jn.has b (q:=s%2) ah;have f:aX E frm (64*(n-2)) ((s%2:Nat):Int)=aX D frm (64*(n-2)) ((s%2:Nat):Int):=by
  rw[c9 h.mir.sure d,c9 b.sure e,a]
 have hc:(aX E frm (64*(n-2)) ((s%2:Nat):Int)).1=dg D frm n:=by rw[f];exact h.at_
 have c:dg E frm n=dg D frm n:=FM hc h.ser (O8 b.sure (jn.has b ah) k hS hl hb);have hB:bk E frm n=bk D frm n:=by
  have hlen:=h.mir.len;have g:(bc E frm n).size=(bc D frm n).size:=by
   show(dg E frm n).getD 1 0=(dg D frm n).getD 1 0;rw[c]
  have i:(bc D frm n).size=((bk D frm n).length:Nat):=hlen.symm;unfold bk j8;rw[g,i,aar];apply aa2;intro t;rw[abf,abf];split
  .rename_i m;rw[aa9,aa9];exact hsame _ ah ah ah
  .rfl
 refine⟨⟨b,by rw[c];exact h.ser,?_,by rw[c];exact hc,X,Y,k,l,hS,hl,hb⟩,c,hB⟩;obtain⟨C,c1,c2,c3⟩:=h.cur;exact⟨C,c1,by rw[a];exact c2,c3⟩
def jn.next (h:jn D frm n fk s) (d:xD E frm n) (hs:s<4611686018427387904) (x:(all.length:Int)<=64*(n-2)) (i:nt.length=16)
 (hsame:∀ j,64*(frm+s%2)<=j->j<64*(frm+s%2)+64->E.now[j]?=D.now[j]?)
 (hall:∀ t,t<all.length->E.now[64*(frm+2)+t]?=all[t]?)
 (hS:E.aS ((frm:Int)+(((s+1)%2:Nat):Int))=aZ (((s:Int)+1)::(all.length:Int)::nt)++aZ (((s:Int)+1)::(all.length:Int)::nt)) :
 jn E frm n fk (s+1)/\dg E frm n=((s:Int)+1)::(all.length:Int)::nt/\bk E frm n=all:=by
 obtain⟨r1,r2⟩:=h.mir.rng;have y:=h.mir.sure.ok.n;obtain⟨N,hN⟩:∃ N,N=((s:Int)+1)::(all.length:Int)::nt:=⟨_,rfl⟩;rw[<-hN]at hS ⊢;obtain⟨b1,b2,k,v⟩:=re (a:=(s:Int)+1) (b:=(all.length:Int)) (nt:=nt) ⟨ah,ah⟩ ⟨ah,ah⟩ i;rw[<-hN]at b1 b2 k v;have c:E.aS ((frm:Int)+((s%2:Nat):Int))=D.aS ((frm:Int)+((s%2:Nat):Int)):=by
  refine iq fun j h1 h2=>hsame j ah ah
 have l:=jn.has h.mir (q:=s%2) ah;have m:=jn.has d (q:=s%2) ah;have o:=jn.has d (q:=(s+1)%2) ah;have p:aX E frm (64*(n-2)) ((s%2:Nat):Int)=aX D frm (64*(n-2)) ((s%2:Nat):Int):=by
  rw[c9 h.mir.sure l,c9 d.sure m,c]
 have w:(s+1+1)%2=s%2:=ah;have e:N.getD 0 0=((s+1:Nat):Int):=by rw[hN];rfl
 have f:(aZ N++aZ N).take 32=aZ N:=by rw[aco b1]
 have r:(aZ N++aZ N).drop 32=aZ N:=by rw[acy b1]
 have hc:(aX E frm (64*(n-2)) (((s+1)%2:Nat):Int)).1=N:=by
  rw[c9 d.sure o,hS,aaR,f,b2,hN];unfold zq;rw[f,r,k,v];exact⟨rfl,by rw[abm ah];omega,x⟩
 have g:dg E frm n=N:=by
  refine FM (s:=s+1) hc e (Or.inl ?_);rw[w,p,h.at_,h.ser];omega
 have hB:bk E frm n=all:=by
  have u:(bc E frm n).size=(all.length:Nat):=by
   show(dg E frm n).getD 1 0=_;rw[g,hN];rfl
  unfold bk j8;rw[u,aar];apply aa2;intro t;rw[abf];split
  .rename_i f;rw[aa9,show 64*((frm:Int)+2).toNat+t=64*(frm+2)+t by omega];exact hall t f
  .rw[aaK ah]
 obtain⟨C,c1,c2,c3⟩:=h.cur;refine⟨⟨d,by rw[g];exact e,⟨aZ N,b1,hS,by rw[k];rfl⟩,by rw[g];exact hc,C,C,c1,c1,?_,fun _=>rS (by rw[aay,c1]) fk,ah⟩,g,hB⟩;rw[w,c,c2,rS (by rw[aay,c1])]
def Es (E:DM) (frm:Nat) (n fk:Int) (s:Nat) (all nt:List Int):Prop:=jn E frm n fk (s+1)/\(bc E frm n).serial=((s+1:Nat):Int)/\(bc E frm n).note=nt/\bk E frm n=all
def yv (D E:DM) (frm:Nat) (n fk:Int) (s:Nat):Prop:=jn E frm n fk s/\bc E frm n=bc D frm n/\bk E frm n=bk D frm n
def jn.fV (h:jn D frm n fk s) (c:pV G (64*(frm+2)+(bk D frm n).length)) (b:G.n=D.n)
 (hsame:∀ j,j<64*(frm+2)+(bk D frm n).length->G.now[j]?=D.now[j]?) (fate:List Int):yv D (bX G fate) frm n fk s:=by
 obtain⟨d,e,a3,a4,a5⟩:=sK c fate;obtain⟨r1,r2⟩:=h.mir.rng;have f:xD (bX G fate) frm n:=⟨d,e,a3,r1,by rw[a4,b];exact r2⟩;have hs:∀ j,j<64*(frm+2)+(bk D frm n).length->(bX G fate).now[j]?=D.now[j]?:=fun j a=>by rw[a5 j a,hsame j a]
 obtain⟨X,Y,x1,g,i,k,l⟩:=h.oth;obtain⟨b1,b2,m⟩:=h.stay f (fun j _ a _=>hs j a) x1 g (by rw[<-i];exact iq fun j h1 h2=>hs j ah) k l;exact⟨b1,by unfold bc;rw[b2],m⟩
def jn.Bq (h:jn D frm n fk s) (hs:s<4611686018427387904) (m:pV F (64*(frm+2)+(bk D frm n).length)) (k:F.n=D.n) (B:F.gone=false) (q:F.loose=[])
 (hsame:∀ j,j<64*(frm+2)+(bk D frm n).length->F.now[j]?=D.now[j]?) {all nt:List Int} (ha:(all.length:Int)<=64*(n-2)) (hall:∀ t,t<all.length->F.now[64*(frm+2)+t]?=all[t]?) (r:nt.length=16) (C:gz nt) (fate:List Int) (H:bF fate 0=fk) :
 (db F frm (((s:Int)+1)::(all.length:Int)::nt)).2.ok/\(db F frm (((s:Int)+1)::(all.length:Int)::nt)).2.loose.length<=1 /\
 (((db F frm (((s:Int)+1)::(all.length:Int)::nt)).1=0/\Es (bX (db F frm (((s:Int)+1)::(all.length:Int)::nt)).2 fate) frm n fk s all nt) \/
  ((db F frm (((s:Int)+1)::(all.length:Int)::nt)).1=5/\(Es (bX (db F frm (((s:Int)+1)::(all.length:Int)::nt)).2 fate) frm n fk s all nt\/yv D (bX (db F frm (((s:Int)+1)::(all.length:Int)::nt)).2 fate) frm n fk s))):=by
 obtain⟨r1,r2⟩:=h.mir.rng;have aa:=h.mir.sure.ok.n;obtain⟨N,hN⟩:∃ N,N=((s:Int)+1)::(all.length:Int)::nt:=⟨_,rfl⟩;obtain⟨b1,b2,b3,b4⟩:=re (a:=(s:Int)+1) (b:=(all.length:Int)) (nt:=nt) ⟨ah,ah⟩ ⟨ah,ah⟩ r;rw[<-hN]at b1 b2 b3 b4 ⊢;have hp:((s:Int)+1).tmod 2=(((s+1)%2:Nat):Int):=by
  rw[abm ah];omega
 have f:(aZ N++aZ N).length=64:=by rw[aay,b1]
 have I:gz (aZ N++aZ N):=fun b hb=>by
  have u:gz (N.drop 2):=by rw[hN];exact C
  rcases aa4.1 hb with hb | hb
  .exact BB u b hb
  .exact BB u b hb
 have hi:F.has ((frm:Int)+(((s+1)%2:Nat):Int))=true:=by unfold DM.has;rw[k];simp only[aaB];omega
 have y:((frm:Int)+(((s+1)%2:Nat):Int)).toNat=frm+(s+1)%2:=ah;have e0:N.getD 0 0=(s:Int)+1:=by rw[hN];rfl
 have g:db F frm N=if(cj F ((frm:Int)+(((s+1)%2:Nat):Int)) (aZ N++aZ N)).1≠0 then cj F ((frm:Int)+(((s+1)%2:Nat):Int)) (aZ N++aZ N)else bT (cj F ((frm:Int)+(((s+1)%2:Nat):Int)) (aZ N++aZ N)).2:=by
  unfold db;rw[e0,hp]
 have J:pV F 0:=⟨m.ok,m.byte,fun p hp=>⟨(m.old p hp).1,fun j _ K=>ah⟩⟩;have fin:∀ (E:DM) (S:List Int),ni E->E.loose=[]->gz E.now->E.n=D.n->S.length=64 ->
  (∀ j,E.now[j]?=if 64*(frm+(s+1)%2)<=j/\j<64*(frm+(s+1)%2)+64 then S[j-64*(frm+(s+1)%2)]? else F.now[j]?) ->
  (S=aZ N++aZ N->Es E frm n fk s all nt)/\(S=cD (D.aS ((frm:Int)+(((s+1)%2:Nat):Int))) (aZ N++aZ N) fk->Es E frm n fk s all nt\/yv D E frm n fk s):=by
  intro E S c1 c2 c3 c4 c5 z;have U:xD E frm n:=⟨c1,c2,c3,r1,by rw[c4];exact r2⟩;have c:E.aS ((frm:Int)+(((s+1)%2:Nat):Int))=S:=Cr c5 fun j K=>by
   rw[y,z,aaR ah]
   congr 1;omega
  have goes:S=aZ N++aZ N->Es E frm n fk s all nt:=by
   intro hS;rw[hS,hN]at c;obtain⟨d1,d2,d3⟩:=h.next U hs ha r (fun j h1 h2=>by rw[z,aaG ah];exact hsame j ah) (fun t ht=>by rw[z,aaG ah];exact hall t ht) c;refine⟨d1,?_,?_,d3⟩
   .show(dg E frm n).getD 0 0=_;rw[d2];rfl
   .show(dg E frm n).drop 2=_;rw[d2];rfl
  refine⟨goes,fun hS=>?_⟩;obtain⟨X,Y,x1,x2,x3,x4,x5⟩:=h.oth;rw[x3,M0]at hS;by_cases v:cD (X++X) (aZ N++aZ N) fk=aZ N++aZ N
  .exact Or.inl (goes (hS.trans v))
  .refine Or.inr ?_;rw[hS]at c;obtain⟨d1,d2,d3⟩:=h.stay U (fun j _ h1 h2=>by rw[z,aaG h2];exact hsame j h1) x1 b1 c (fun hl=>(MZ x1 b1 fk hl).resolve_right v) x5;exact⟨d1,by unfold bc;rw[d2],d3⟩
 rcases Be B hi f with e | e
 .have e5:db F frm N=(5,{F with gone:=true}):=by rw[g,e,aaR aF]
  rw[e5];exact⟨m.gone.ok,by show F.loose.length<=1;rw[q];simp,Or.inr ⟨rfl,Or.inr (h.fV m.gone k hsame fate)⟩⟩
 .have V:db F frm N=bT (kW F ((frm:Int)+(((s+1)%2:Nat):Int)) (aZ N++aZ N)):=by rw[g,e,aaG aF]
  obtain⟨G,o⟩:∃ G,G=kW F ((frm:Int)+(((s+1)%2:Nat):Int)) (aZ N++aZ N):=⟨_,rfl⟩;have i:pV G 0:=by rw[o];exact(Cc J hi f I (fun j _ K=>ah)).1
  have A:=mo m.ok hi f;rw[<-o,y]at A;have w:G.n=D.n:=by rw[o,<-k];rfl
  have L:G.gone=false:=by rw[o];rfl
  have x:G.loose=[((frm:Int)+(((s+1)%2:Nat):Int),F.aS ((frm:Int)+(((s+1)%2:Nat):Int)))]:=by
   rw[o];show(if(gX _ (lv F.loose) 0).isSome then F.loose else F.loose++_)=_;rw[q];rfl
  rw[<-o]at V;rw[V];rcases Cz i.ok L with M | ⟨E,M,W,o2,Z,o4,O⟩
  .rw[M];have hS:pV {G with gone:=true} 0:=i.gone;obtain⟨P,Q,a3,a4,_⟩:=sK hS fate;have d:=Ls (D:={G with gone:=true}) x fate;rw[H]at d;have d:(bX {G with gone:=true} fate).now=br G.now (64*(frm+(s+1)%2)) (cD (F.aS ((frm:Int)+(((s+1)%2:Nat):Int))) (jF G.now ((frm:Int)+(((s+1)%2:Nat):Int))) fk):=by rw[d,y]
   have R:jF G.now ((frm:Int)+(((s+1)%2:Nat):Int))=aZ N++aZ N:=by
    show G.aS _=_;refine Cr f fun j K=>?_;rw[y,A,aaR ah]
    congr 1;omega
   have T:F.aS ((frm:Int)+(((s+1)%2:Nat):Int))=D.aS ((frm:Int)+(((s+1)%2:Nat):Int)):=iq fun j h1 h2=>hsame j ah;rw[R,T]at d;have l:=i.ok.now;refine⟨hS.ok,by show G.loose.length<=1;rw[x];simp,Or.inr ⟨rfl,(fin _ _ P Q a3 (by rw[a4];exact w) (cE _ _ _) fun j=>?_).2 rfl⟩⟩;rw[d,Sx.jW (by rw[cE,l];omega),cE];split
   .rfl
   .rename_i hh;rw[A,aaG hh]
  .rw[M];have hS:pV E 0:=⟨W,by rw[Z];exact i.byte,fun p hp=>by rw[O]at hp;cases hp⟩;obtain⟨P,Q,a3,a4,_⟩:=sK hS fate;have d:(bX E fate).now=G.now:=by
    show gR E.loose fate E.now (fg (E.loose.map (·.1))) E.loose.length=_;rw[O,<-Z];rfl
   refine⟨W,by rw[O];simp,Or.inl ⟨rfl,(fin _ _ P Q a3 (by rw[a4,o4];exact w) f fun j=>?_).1 rfl⟩⟩;rw[d,A]
def xD.soft (h:xD D frm n) (f:Int) (hf:f<=9223372036854775807) (B:Nat):pV (bp D f) B:=⟨ua h.sure.ok hf,h.byte,fun p hp=>by
 have hp:p∈D.loose:=hp;rw[h.loose]at hp;cases hp⟩
def jn.append (h:jn D frm n fk s) (hs:s<4611686018427387904) (hb:((bk D frm n).length:Int)+b.length<=64*(n-2)) (hn:n<=1000) (u:nt.length=16) (v:gz b) (w:gz nt) (hf:f<=9223372036854775807) (fate:List Int) (x:bF fate 0=fk) :
 (aT (bp D f) (bc D frm n) (bk D frm n) b nt).D.ok/\(aT (bp D f) (bc D frm n) (bk D frm n) b nt).D.loose.length<=1000000 /\
 (((aT (bp D f) (bc D frm n) (bk D frm n) b nt).e=0/\(aT (bp D f) (bc D frm n) (bk D frm n) b nt).L.over=false/\Es (bX (aT (bp D f) (bc D frm n) (bk D frm n) b nt).D fate) frm n fk s (bk D frm n++b) nt) \/
  ((aT (bp D f) (bc D frm n) (bk D frm n) b nt).e=5/\(aT (bp D f) (bc D frm n) (bk D frm n) b nt).L=wZ (bc D frm n)/\(aT (bp D f) (bc D frm n) (bk D frm n) b nt).bs=bk D frm n /\
   (Es (bX (aT (bp D f) (bc D frm n) (bk D frm n) b nt).D fate) frm n fk s (bk D frm n++b) nt\/yv D (bX (aT (bp D f) (bc D frm n) (bk D frm n) b nt).D fate) frm n fk s))):=by
 obtain⟨r1,r2⟩:=h.mir.rng;have I:=h.mir.sure.ok.n;obtain⟨L,m⟩:∃ L,L=bc D frm n:=⟨_,rfl⟩;obtain⟨bs,a⟩:∃ bs,bs=bk D frm n:=⟨_,rfl⟩;have f1:L.frm=frm:=by rw[m];rfl
 have f2:L.most=64*(n-2):=by rw[m];rfl
 have f3:L.serial=s:=by rw[m];exact h.ser
 have f4:L.over=false:=by rw[m];rfl
 have j:=@xD.at D frm n h.mir;have y:(bs++b).length=bs.length+b.length:=aay;have o:gz bs:=by
  rw[a];intro z i;unfold bk j8 at i;exact h.mir.byte z (abH (abo i))
 have k:gz (bs++b):=fun z i=>by
  rcases aa4.1 i with i | i
  .exact o z i
  .exact v z i
 have l:=h.mir.soft f hf (64*(frm+2)+bs.length);rw[<-a]at hb j;rw[<-m,<-a];obtain⟨p,r,a3,a4,a5,A⟩:=HO frm (bs++b) k (64*(frm+2)+bs.length) ah ((bs++b).length+1) (bs.length/64) (bp D f) l h.mir.sure.gone (by show _<=64*D.n;omega) ah (fun t _ H=>by
  show D.now[_]?=_;rw[j ah,aa0 ah])
 have B:gr (bp D f) L.frm (bs++b) bs.length=bY frm (bs++b) ((bs++b).length+1) (bs.length/64) (bp D f):=by
  unfold gr;rw[f1,show(((bs.length:Nat):Int)/64).toNat=bs.length/64 by omega]
 rw[<-B]at p r a3 a4 a5 A;obtain⟨R,C⟩:∃ R,R=gr (bp D f) L.frm (bs++b) bs.length:=⟨_,rfl⟩;rw[<-C]at p r a3 a4 a5 A;have eN:kV L (bs++b) nt=((s:Int)+1)::((bs++b).length:Int)::nt:=by unfold kV;rw[f3]
 have d:aT (bp D f) L bs b nt=if(bN (bp D f) L (bs++b) nt bs.length).1=0 then⟨0,(bN (bp D f) L (bs++b) nt bs.length).2,nC L (bs++b) nt,bs++b⟩else⟨5,(bN (bp D f) L (bs++b) nt bs.length).2,wZ L,bs⟩:=by
  unfold aT;rw[f4,aaG aF,aaG (by rw[f3];omega),aaG (by rw[f2];omega)]
 have E:(bp D f).loose=[]:=h.mir.loose;rw[E]at a3;rcases A with ⟨c1,c2,c3,J⟩ | c
 .obtain⟨t1,t2,t3⟩:=h.Bq hs (F:=R.2) (all:=bs++b) (nt:=nt) (by rw[<-a];exact p) r c2 c3 (by rw[<-a];exact a4) (by rw[y];omega) (fun t H=>by
   rcases abn t (64*(bs.length/64))with h1 | h1
   .rw[a4 _ ah];show D.now[_]?=_;rw[j ah,aa0 ah]
   .exact J t h1 H) u w fate x
  rw[<-eN,<-f1]at t1 t2 t3;have g:bN (bp D f) L (bs++b) nt bs.length=if(db R.2 L.frm (kV L (bs++b) nt)).1≠0 then(5,(db R.2 L.frm (kV L (bs++b) nt)).2)else(0,(db R.2 L.frm (kV L (bs++b) nt)).2):=by
   unfold bN;rw[<-C,aaG (by rw[c1];simp)]
  rcases t3 with ⟨G,q⟩ | ⟨G,q⟩
  .have e:aT (bp D f) L bs b nt=⟨0,(db R.2 L.frm (kV L (bs++b) nt)).2,nC L (bs++b) nt,bs++b⟩:=by
    rw[d,g.trans (aaG (by rw[G];simp))];rfl
   rw[e];refine⟨t1,by show(db R.2 L.frm (kV L (bs++b) nt)).2.loose.length<=_;omega,Or.inl ⟨rfl,f4,?_⟩⟩;rw[f1]at q;rw[f1];exact q
  .have e:aT (bp D f) L bs b nt=⟨5,(db R.2 L.frm (kV L (bs++b) nt)).2,wZ L,bs⟩:=by
    rw[d,g.trans (aaR (by rw[G];simp))];rfl
   rw[e];refine⟨t1,by show(db R.2 L.frm (kV L (bs++b) nt)).2.loose.length<=_;omega,Or.inr ⟨rfl,rfl,rfl,?_⟩⟩;rw[f1]at q;rw[f1];exact q
 .have g:bN (bp D f) L (bs++b) nt bs.length=(5,R.2):=by
   unfold bN;rw[<-C,aaR (by rw[c];simp)]
  have e:aT (bp D f) L bs b nt=⟨5,R.2,wZ L,bs⟩:=by
   rw[d,g];rfl
  rw[e];refine⟨p.ok,by show R.2.loose.length<=_;simp only[abt]at a3;omega,Or.inr ⟨rfl,rfl,rfl,Or.inr ?_⟩⟩;exact h.fV (by rw[<-a];exact p) r (by rw[<-a];exact a4) fate
def BR (hm:0<=m/\m<=16384) (hn:3<=n) (hr:(frm:Int)+n<=m) (fk:Int):jn (eJ m) frm n fk 0:=by
 have c:=O0 hm hn hr;have hs:ga m=m.toNat:=by unfold ga;omega
 have b:dZ (List.replicate 8 0)=0:=by decide
 have a:∀ p:Nat,p<2->(eJ m).aS ((frm:Int)+(p:Int))=List.replicate 32 0++List.replicate 32 0:=by
  intro p hp;unfold DM.aS;show((List.replicate (64*ga m) (0:Int)).drop _).take 64=_;rw[adQ,adR,hs,List.replicate_append_replicate]
  congr 1;omega
 have hh:dg (eJ m) frm n=0::(([]:List Int).length:Int)::List.replicate 16 0:=(ik (frm:=frm) hm hn hr).dg;have hc:=(ik (m:=m) (n:=n) (frm:=frm) hm hn hr).cur;refine⟨c,by rw[hh];rfl,⟨List.replicate 32 0,aF,a 0 ah,b⟩,?_,List.replicate 32 0,List.replicate 32 0,aF,aF,?_,fun _=>rS aF fk,?_⟩
 .rw[hh,hc];rfl
 .rw[rS aF];exact a 1 ah
 .show dZ (List.replicate 8 0)<=_;rw[b];exact aaM 0
end Go.Proofs.YtomdimlnggpgbaaGreatDoor.D
namespace Go.Proofs.YtomdimlnggpgbaaGreatDoor
open Go Go.Sx Go.Pk
open Go.Proofs.YtomdimlnggpgbaaGreatDoor.D hiding aL aC fP
variable {E F:DM}{f fk i m:Int}{next recs rows:List (List Int)}{bs hd:List Int}{K K' fr fr' frm hi kA kB lo n s:Nat}
structure Wi (D E:DM) (lo hi:Nat):Prop where
 n:E.n=D.n
 ok:E.ok
 keys:∀ p∈E.loose,lo<=p.1.toNat/\p.1.toNat<hi
 out:∀ j,(j<64*lo\/64*hi<=j)->E.now[j]?=D.now[j]?
def Wi.self {D:DM} (h:D.ok) (hl:D.loose=[]) (lo hi:Nat):Wi D D lo hi:=⟨rfl,h,(fun p hp=>by rw[hl]at hp;cases hp),fun _ _=>rfl⟩
def Wi.put {D:DM} (h:Wi D E lo hi) (h0:E.has i=true) (h1:lo<=i.toNat) (h2:i.toNat<hi) (hb:bs.length=64):Wi D (kW E i bs) lo hi:=by
 refine⟨h.n,yh h.ok h0 hb,fun p hp=>?_,fun j b=>?_⟩
 .have hp:p∈(if(gX i (lv E.loose) 0).isSome then E.loose else E.loose++[(i,E.aS i)]):=hp;have a:p∈E.loose\/p=(i,E.aS i):=by
   split at hp
   .exact Or.inl hp
   .rcases aa4.1 hp with hp | hp
    .exact Or.inl hp
    .exact Or.inr (by simpa using hp)
  rcases a with hp | rfl
  .exact h.keys p hp
  .exact⟨h1,h2⟩
 .rw[mo h.ok h0 hb,aaG ah];exact h.out j b
def Wi.lost {D:DM} (h:Wi D E lo hi):Wi D {E with gone:=true} lo hi:=⟨h.n,⟨h.ok.now,h.ok.n,h.ok.f0,h.ok.f1,h.ok.loose⟩,h.keys,h.out⟩
def Wi.write {D:DM} (h:Wi D E lo hi) (h1:lo<=i.toNat) (h2:i.toNat<hi) (bs:List Int):Wi D (cj E i bs).2 lo hi:=by
 unfold cj;split
 .exact h
 .rename_i hh;split
  .exact h
  .split
   .exact h.lost
   .refine h.put (Bool.of_not_eq_false fun e=>hh (Or.inl e)) h1 h2 (Decidable.of_not_not fun e=>hh (Or.inr e))
def Wi.sync {D:DM} (h:Wi D E lo hi):Wi D (bT E).2 lo hi:=by
 unfold bT;split
 .exact h
 .split
  .exact h.lost
  .exact⟨h.n,⟨h.ok.now,h.ok.n,(uc h.ok).1,(uc h.ok).2,fun p hp=>(nomatch hp)⟩,fun p hp=>(nomatch hp),h.out⟩
def Wi.fill {D:DM} {lo hi frm:Nat} {all:List Int} (h1:lo<=frm) (h2:64*(frm+2)+all.length<=64*hi):∀ (f i:Nat) (E:DM),Wi D E lo hi->Wi D (bY frm all f i E).2 lo hi
 | 0,_,E,h=>h.sync
 | f+1,i,E,h=>by
  show Wi D (if 64*i<all.length then _ else _:Int×DM).2 lo hi;split
  .have hw:=h.write (i:=(frm:Int)+2+i) ah ah (jL all i);split
   .exact hw
   .exact Wi.fill h1 h2 f (i+1) _ hw
  .exact h.sync
def Wi.Bq {D:DM} (h:Wi D E lo hi) (h1:lo<=frm) (h2:frm+2<=hi) (h0:0<=hd.getD 0 0):Wi D (db E frm hd).2 lo hi:=by
 have e:(hd.getD 0 0).tmod 2=hd.getD 0 0%2:=abm h0;have hw:=h.write (i:=(frm:Int)+(hd.getD 0 0).tmod 2) (by rw[e];omega) (by rw[e];omega) (aZ hd++aZ hd);unfold db;split
 .exact hw
 .exact hw.sync
def Wi.append {D:DM} (h:Wi D E lo hi) {L:LM} (hf:L.frm=frm) (h1:lo<=frm) (h2:64*((frm:Int)+2)+L.most<=64*hi) (hm:0<=L.most) (h0:0<=L.serial) (bs b nt:List Int):Wi D (aT E L bs b nt).D lo hi:=by
 unfold aT;split
 .exact h
 split
 .exact h
 split
 .exact h
 .rename_i hr;have hB:Wi D (bN E L (bs++b) nt bs.length).2 lo hi:=by
   have a:Wi D (gr E L.frm (bs++b) bs.length).2 lo hi:=by
    unfold gr;rw[hf];exact Wi.fill h1 (by rw[aay];omega) _ _ _ h
   have hT:Wi D (db (gr E L.frm (bs++b) bs.length).2 L.frm (kV L (bs++b) nt)).2 lo hi:=by
    have:=a.Bq (frm:=frm) h1 ah (hd:=kV L (bs++b) nt) (by show 0<=L.serial+1;omega);rw[hf]at this ⊢;exact this
   unfold bN;split
   .exact a
   .split
    .exact hT
    .exact hT
  split
  .exact hB
  .exact hB
def Wi.SJ {D:DM} (h:Wi D E lo hi) (fate:List Int):∀ j,(j<64*lo\/64*hi<=j)->(bX E fate).now[j]?=D.now[j]?:=by
 have hks:∀ k∈fg (E.loose.map (·.1)),∃ p∈E.loose,p.1=k:=fun k hk=>by
  obtain⟨p,hp,e⟩:=abb.1 (rP.1 hk);exact⟨p,hp,e⟩
 have a:∀ k∈fg (E.loose.map (·.1)),0<=k/\k<E.n:=fun k hk=>by
  obtain⟨p,hp,rfl⟩:=hks k hk;exact(h.ok.loose p hp).2
 have key:∀ i,i<=(fg (E.loose.map (·.1))).length->∀ j,(j<64*lo\/64*hi<=j)->(gR E.loose fate E.now (fg (E.loose.map (·.1))) i)[j]?=D.now[j]?:=by
  intro i
  induction i with
  | zero=>exact fun _=>h.out
  | succ i ih =>
   intro b j c;have hm:(fg (E.loose.map (·.1))).getD i 0∈fg (E.loose.map (·.1)):=by
    rw[aaD,aax ah,abL];exact abM _
   obtain⟨p,hp,d⟩:=hks _ hm;have hk:=h.keys p hp;rw[d]at hk;have hb:=a _ hm;have hl:=iJ h.ok fate _ a i ah;show(br _ _ _)[j]?=_;rw[Sx.jW (by rw[cE,hl];omega),cE];split
   .omega
   .exact ih ah j c
 have hl:(fg (E.loose.map (·.1))).length=E.loose.length:=by rw[py,aaT]
 exact key E.loose.length ah
def D.jn.VK {D:DM} {n:Int} (h:jn D frm n fk s) (a:xD E frm n) (hs:∀ j,64*frm<=j->(j:Int)<64*(frm+n)->E.now[j]?=D.now[j]?):yv D E frm n fk s:=by
 obtain⟨r1,r2⟩:=h.mir.rng;have g:=h.mir.size.1;obtain⟨X,Y,x1,b,c,d,e⟩:=h.oth;obtain⟨b1,b2,f⟩:=h.stay a (fun j h0 h1 _=>hs j h0 ah) x1 b (by rw[<-c];exact iq fun j h1 h2=>hs j ah ah) d e;exact⟨b1,by unfold bc;rw[b2],f⟩
structure CP (D:DM) (recs:List (List Int)) (n:Nat) (fk:Int) (K:Nat) where
 fA:Nat
 kA:Nat
 fB:Nat
 kB:Nat
 hn:D.n/2=n
 n3:3<=n/\n<=1000
 place:(fA=0/\fB=n/\ig (bc D fB n)<=ig (bc D fA n))\/(fA=n/\fB=0/\ig (bc D fB n)<ig (bc D fA n))
 hA:jn D fA n fk kA
 hB:jn D fB n fk kB
 pk:bk D fA n=bI recs
 ok:gK recs
 g0:0<=ig (bc D fA n)/\ig (bc D fA n)<=K
 kK:kA<=K/\kB<=K
def CP.S {D:DM} (h:CP D recs n fk K):SM:=⟨bc D h.fA n,bk D h.fA n,bc D h.fB n,bk D h.fB n,recs,false⟩
def CP.open {D:DM} (h:CP D recs n fk K):fj D=0/\cm D=h.S/\aq (jR D)/\aq (gD D):=by
 have hb:∀ {frm:Nat} {m:Int},xD D frm m->aq (bk D frm m):=fun e z c=>by
  unfold bk j8 at c;exact e.byte z (abH (abo c))
 have d:fj D=0:=by
  have:=h.n3;unfold fj;rw[h.hn,h.hA.mir.sure.gone,aaG ah];rfl
 have b:h.S=UF (bc D h.fA n) (bk D h.fA n) (bc D h.fB n) (bk D h.fB n):=by
  unfold CP.S UF;rw[h.pk,qR h.ok]
 rw[b];obtain⟨fA,kA,fB,kB,hn,n3,place,hA,hB,pk,ok,g0,kK⟩:=h;simp only;rcases place with ⟨rfl,rfl,a⟩ | ⟨rfl,rfl,a⟩
 .refine⟨d,?_,by unfold jR;rw[hn];exact hb hA.mir,by unfold gD;rw[hn];exact hb hB.mir⟩;unfold cm qo ku jR gD;rw[hn];have a:ig (bc D fB fB)<=ig (bc D 0 fB):=a;rw[aaG ah];rfl
 .refine⟨d,?_,by unfold jR;rw[hn];exact hb hB.mir,by unfold gD;rw[hn];exact hb hA.mir⟩;unfold cm qo ku jR gD;rw[hn];have a:ig (bc D 0 fA)<ig (bc D fA fA):=a;rw[aaR a];rfl
theorem CP.more {D:DM} (h:CP D recs n fk K) (hK:K<=K'):Nonempty (CP D recs n fk K') :=
 ⟨{h with g0:=⟨h.g0.1,by have:=h.g0.2;omega⟩,kK:=⟨by have:=h.kK.1;omega,by have:=h.kK.2;omega⟩}⟩
def HF {D:DM} (h:ni D) (hl:D.loose=[]) (f:Int) (fate:List Int):bX (bp D f) fate=D:=by
 have e:bX (bp D f) fate=⟨D.n,D.now,[],-1,false⟩:=by unfold bX bp;simp only[hl];rfl
 rw[e];obtain⟨n,now,loose,bO,gone⟩:=D;have h1:=h.bO;have h2:=h.gone;simp only at h1 h2 hl;rw[h1,h2,hl]
def FW:∀ rows:List (List Int),rows.length<=(bI rows).length
 | []=>aaS _
 | r::rows=>by
  have:=FW rows;have hp:=ux r.length;rw[sZ,aay,abc];unfold aI;rw[aay];omega
section
variable {D:DM} {recs:List (List Int)} {n:Nat} {fate:List Int} {K:Nat}
def CP.still (h:CP D recs n (bF fate 0) K) (hf:f<=9223372036854775807):(bp D f).ok/\(bp D f).loose.length<=1000000/\Nonempty (CP (bX (bp D f) fate) recs n (bF fate 0) (K+2)) :=
 ⟨ua h.hA.mir.sure.ok hf,by show D.loose.length<=_;rw[h.hA.mir.loose];exact abJ _,by rw[HF h.hA.mir.sure h.hA.mir.loose];exact h.more ah⟩
theorem CP.of (h:CP D recs n fk K) (hn:E.n=D.n) (hA:jn E h.fA n fk kA) (hB:jn E h.fB n fk kB) (a:(bc E h.fA n).note=(bc D h.fA n).note) (b:(bc E h.fB n).note=(bc D h.fB n).note) (pk:bk E h.fA n=bI next) (ok:gK next) (k1:kA<=K+2) (k2:kB<=K+2):Nonempty (CP E next n fk (K+2)):=by
 have eA:ig (bc E h.fA n)=ig (bc D h.fA n):=by unfold ig;rw[a]
 have eB:ig (bc E h.fB n)=ig (bc D h.fB n):=by unfold ig;rw[b]
 exact⟨⟨h.fA,kA,h.fB,kB,by rw[hn];exact h.hn,h.n3,by rw[eA,eB];exact h.place,hA,hB,pk,ok,by rw[eA];exact⟨h.g0.1,by have:=h.g0.2;omega⟩,⟨k1,k2⟩⟩⟩
def CP.side (h:CP D recs n fk K) (a:(lo=h.fA/\fr=h.fB)\/(lo=h.fB/\fr=h.fA)) (hT:jn D fr n fk s) (hw:Wi (bp D f) F lo (lo+n)) (c:E=bX F fate) (b:xD E fr' m):yv D E fr n fk s:=by
 subst c;refine hT.VK ⟨b.sure,b.loose,b.byte,hT.mir.rng.1,by show _<=((bX F fate).n:Int);rw[show(bX F fate).n=D.n from hw.n];exact hT.mir.rng.2⟩ fun j h1 h2=>hw.SJ fate j ?_;rcases h.place with ⟨e1,d,_⟩ | ⟨e1,d,_⟩<;>rcases a with ⟨rfl,rfl⟩ | ⟨rfl,rfl⟩<;>omega
def CP.size (h:CP D recs n fk K):(bk D h.fA n).length<=1048576/\(bk D h.fB n).length<=1048576/\(bc D h.fA n).serial=h.kA/\(bc D h.fB n).serial=h.kB/\recs.length<=1048576:=by
 have h1:=h.hA.mir.size.2;have h2:=FW recs;rw[<-h.pk]at h2;exact⟨h1,h.hB.mir.size.2,h.hA.ser,h.hB.ser,acz h2 h1⟩
def CP.wi (h:CP D recs n (bF fate 0) K) (hf:f<=9223372036854775807) (lo hi:Nat):Wi (bp D f) (bp D f) lo hi:=Wi.self (ua h.hA.mir.sure.ok hf) h.hA.mir.loose lo hi
def CP.VT (h:CP D recs n (bF fate 0) K) (hf:f<=9223372036854775807) (hb:∀ r∈rows,aq r) (hK:K<1000000) (hk:gK rows) (g:rows≠[]) (hr:¬h.S.LA.most-(h.S.bA.length:Int)<(bI rows).length) :
 (cH (bp D f) h.S rows).D.ok/\(cH (bp D f) h.S rows).D.loose.length<=1000000/\(((cH (bp D f) h.S rows).e=0/\(cH (bp D f) h.S rows).S.over=false/\Nonempty (CP (bX (cH (bp D f) h.S rows).D fate) (recs++rows) n (bF fate 0) (K+2))) \/
 ((cH (bp D f) h.S rows).e=5/\(cH (bp D f) h.S rows).S.over=true/\(Nonempty (CP (bX (cH (bp D f) h.S rows).D fate) recs n (bF fate 0) (K+2))\/Nonempty (CP (bX (cH (bp D f) h.S rows).D fate) (recs++rows) n (bF fate 0) (K+2))))):=by
 obtain⟨s1,s2,u⟩:=h.still (fate:=fate) hf;have ov:h.S.over=false:=rfl;have i:h.S.LA.most=64*((n:Int)-2):=rfl;have j:h.S.bA=bk D h.fA n:=rfl;obtain⟨r,a⟩:∃ r,r=aT (bp D f) (bc D h.fA n) (bk D h.fA n) (bI rows) (bc D h.fA n).note:=⟨_,rfl⟩;have e:cH (bp D f) h.S rows=Ey (bp D f) h.S rows r:=by
  unfold cH;rw[ov,aaG aF,aaG (fun h'=>h' hk),aaG g,aaG hr,a];rfl
 have p:=h.kK.1;have c:=h.hA.mir.UK;obtain⟨m,o,a3⟩:=h.hA.append (b:=bI rows) (nt:=(bc D h.fA n).note) ah (by rw[j]at hr;omega) (by have:=h.n3;omega) c (fun z k=>xc hb z k) h.hA.mir.W6 hf fate rfl;rw[<-a]at m o a3;have n3:=h.n3;have w:=(h.wi (fate:=fate) hf h.fA (h.fA+n)).append (frm:=h.fA) (L:=bc D h.fA n) rfl (aaS _) (by show 64*((h.fA:Int)+2)+64*((n:Int)-2)<=_;omega) (by show 0<=64*((n:Int)-2);omega) (by have:(bc D h.fA n).serial=h.kA:=h.hA.ser;omega) (bk D h.fA n) (bI rows) (bc D h.fA n).note;rw[<-a]at w;have d:(bX r.D fate).n=D.n:=w.n;have l:gK (recs++rows):=fun z k=>(aa4.1 k).elim (h.ok z) (hk z);have goes:Es (bX r.D fate) h.fA n (bF fate 0) h.kA (bk D h.fA n++bI rows) (bc D h.fA n).note->Nonempty (CP (bX r.D fate) (recs++rows) n (bF fate 0) (K+2)):=fun⟨t,_,t2,t3⟩=>by
  obtain⟨b1,b2,q⟩:=h.side (fate:=fate) (Or.inl ⟨rfl,rfl⟩) h.hB w rfl t.mir;exact h.of d t b1 t2 (by rw[b2]) (by rw[t3,h.pk,lD]) l ah (by have:=h.kK.2;omega)
 have stays:yv D (bX r.D fate) h.fA n (bF fate 0) h.kA->Nonempty (CP (bX r.D fate) recs n (bF fate 0) (K+2)):=fun⟨t,t2,t3⟩=>by
  obtain⟨b1,b2,q⟩:=h.side (fate:=fate) (Or.inl ⟨rfl,rfl⟩) h.hB w rfl t.mir;exact h.of d t b1 (by rw[t2]) (by rw[b2]) (by rw[t3,h.pk]) h.ok ah (by have:=h.kK.2;omega)
 rw[e];refine⟨m,o,?_⟩;rcases a3 with ⟨c1,_,c3⟩ | ⟨c1,v,x,s⟩
 .refine Or.inl ⟨?_,?_,goes c3⟩
  .show pO r.e=0;rw[c1];rfl
  .show(if r.e≠0/\gi r.e=mT then true else h.S.over)=false;rw[c1,aaG (fun h=>h.1 rfl)];rfl
 .refine Or.inr ⟨?_,?_,s.symm.imp stays goes⟩
  .show pO r.e=5;rw[c1];decide
  .show(if r.e≠0/\gi r.e=mT then true else h.S.over)=true;rw[c1,aaR ⟨aA,aA⟩]
theorem CP.new {m:Nat} (h:6<=m/\m<=2000) (fk:Int):Nonempty (CP (eJ m) [] (m/2) fk 0):=by
 have hn:(eJ m).n=m:=by show ga m=m;unfold ga;omega
 have hA:Holds (eJ m) 0 ((m/2:Nat):Int) 0 [] Nk:=ik ah ah ah;have hB:Holds (eJ m) (m/2) ((m/2:Nat):Int) 0 [] Nk:=ik ah ah ah;have a:dZ (Nk.take 8)=0:=by decide
 have b:ig (bc (eJ m) ((0:Nat):Int) ((m/2:Nat):Int))=0:=by unfold ig;rw[hA.bc];exact a
 have c:ig (bc (eJ m) ((m/2:Nat):Int) ((m/2:Nat):Int))=0:=by unfold ig;rw[hB.bc];exact a
 exact⟨⟨0,0,m/2,0,by rw[hn],ah,Or.inl ⟨rfl,rfl,by rw[b,c];exact aaM 0⟩,BR ah ah ah fk,BR ah ah ah fk,hA.bk,fun r hr=>(by cases hr),by rw[b];exact⟨aaM 0,aaM 0⟩,⟨aaS _,aaS _⟩⟩⟩
end
def Ib (st:Nat->List Pc) (c:Pc):bG st c≠5:=by
 unfold bG gQ
 repeat' split
 all_goals decide
def Ic (st:Nat->List Pc) (c:Pc) (i:Nat):cR st c i=st i\/(cR st c i).length≠(st i).length:=by
 unfold cR;split
 .unfold vf;split
  .rename_i e;right;rw[e,aay,aaW];omega
  .exact Or.inl rfl
 .exact Or.inl rfl
structure CM (fk:Int) (k:Nat) (D:DM) (S:SM) (st:Nat->List Pc):Prop where
 cp:∃ recs K,∃ h:CP D recs 200 fk K,S=h.S/\K<=2*k/\(bI recs).length<=480*k/\recs.length<=k/\(∀ r∈recs,r.length<=4096/\aq r)/\Ld recs st
 ln:∀ i,i<6->(st i).length<=k
 gd:Good st
section
variable {k:Nat} {D:DM} {S:SM} {st:Nat->List Pc} {fate:List Int} {fk:Int}
def CM.short (h:CM fk k D S st) (hk:k<=100):mK st:=fun i hi=>by have:=h.ln i hi;omega
def CM.pre (h:CM fk k D S st) (hk:k<=100):S.bA.length<=1048576/\0<=S.LA.serial/\S.recs.length<=1000000000:=by
 obtain⟨recs,K,hc,rfl,hK,h1,h2,b,c⟩:=h.cp;obtain⟨a,d,z3,z4,z5⟩:=hc.size;exact⟨a,by show 0<=(bc D hc.fA _).serial;rw[z3];exact acr _,acz z5 ah⟩
def CM.open (h:CM fk k D S st):(fj D=0/\cm D=S/\aq (jR D)/\aq (gD D))/\Ld S.recs st/\S.recs.length<=k/\∀ r∈S.recs,r.length<=4096/\aq r:=by
 obtain⟨recs,K,hc,rfl,hK,h1,h2,a,b⟩:=h.cp;exact⟨hc.open,b,h2,a⟩
def CM.bO (h:CM fk k D S st):bp D (-1)=D:=by
 obtain⟨recs,K,hc,rfl,_⟩:=h.cp;have:=hc.hA.mir.sure.bO;obtain⟨n,now,loose,bO,gone⟩:=D;simp only at this;subst this;rfl
def CM.new (fk:Int):∃ S,cm (eJ 400)=S/\CM fk 0 (eJ 400) S (fun _=>[]):=by
 obtain⟨hc⟩:=CP.new (m:=400) ah fk;exact⟨_,hc.open.2.1,⟨[],0,hc,rfl,aaS _,aaS _,aaS _,(fun r hr=>by cases hr),Ld.nil⟩,fun _ _=>aaS _,fun _ _ _ h=>by cases h⟩
def CM.push (h:CM (bF fate 0) k D S st) (hk:k<25) (hf:f<=9223372036854775807) {R1 R2:Hl} {row:List Value} {c:Pc} (hx:gY R1 R2 row c) (hc:c.b.length=80) :
 (cC (bp D f) S st c).D.loose.length<=1000000/\∃ S' st',CM (bF fate 0) (k+1) (bX (cC (bp D f) S st c).D fate) S' st' /\
  (((cC (bp D f) S st c).e=bG st c/\(cC (bp D f) S st c).e≠5/\(cC (bp D f) S st c).S.over=false/\st'=cR st c) \/
  (bG st c=0/\(cC (bp D f) S st c).e=5/\(cC (bp D f) S st c).S.over=true/\(st'=st\/st'=cR st c))):=by
 obtain⟨recs,K,hP,rfl,hK,h1,h2,j,l⟩:=h.cp;have stay:∀ {E:DM},Nonempty (CP E recs 200 (bF fate 0) (K+2))->∃ S',CM (bF fate 0) (k+1) E S' st:=fun {E} ⟨q⟩ =>
  ⟨_,⟨recs,K+2,q,rfl,ah,ah,ah,j,l⟩,fun i hi=>by have:=h.ln i hi;omega,h.gd⟩
 by_cases e:bG st c=0
 .have m:=(DQ hx ah).2;have d:gK [fQ c]:=fun r hr=>by rw[aaJ.1 hr];omega
  have hb:∀ r∈[fQ c],aq r:=fun r hr=>by rw[aaJ.1 hr];exact vO hx
  have hlen:(bI [fQ c]).length<=480:=by
   have:=oz (b:=fQ c) ah;rw[sZ,aay];have o:(bI ([]:List (List Int))).length=0:=rfl;omega
  obtain⟨p,g,a3⟩:=hP.VT (fate:=fate) hf hb ah d aF (by
   show ¬(64*(((200:Nat):Int)-2)-((bk D hP.fA _).length:Int)<_);rw[hP.pk];omega)
  have gone:∀ {E:DM},Nonempty (CP E (recs++[fQ c]) 200 (bF fate 0) (K+2))->∃ S',CM (bF fate 0) (k+1) E S' (cR st c):=fun {E} ⟨q⟩=>by
   refine⟨_,⟨recs++[fQ c],K+2,q,rfl,ah,by rw[lD,aay];omega,by rw[aay,aaW];omega,fun r hr=>?_,l.put (US hx (oW e).1 ah) e⟩,fun i hi=>?_,h.gd.put ⟨hx.byte,ah⟩⟩
   .rcases aa4.1 hr with hr | hr
    .exact j r hr
    .rw[aaJ.1 hr];exact⟨ah,vO hx⟩
   .have:=h.ln i hi;have:=vv st c i;omega
  rcases a3 with ⟨b1,b2,a⟩ | ⟨b1,b2,a⟩
  .have hp:cC (bp D f) hP.S st c=⟨0,(cH (bp D f) hP.S [fQ c]).D,(cH (bp D f) hP.S [fQ c]).S,cR st c⟩:=by
    unfold cC;rw[aaG (fun h=>h e),aaG (fun h=>h b1)]
   rw[hp];obtain⟨S',hS⟩:=gone a;exact⟨g,S',_,hS,Or.inl ⟨e.symm,by show(0:Int)≠5;decide,b2,rfl⟩⟩
  .have hp:cC (bp D f) hP.S st c=⟨5,(cH (bp D f) hP.S [fQ c]).D,(cH (bp D f) hP.S [fQ c]).S,st⟩:=by
    unfold cC;rw[aaG (fun h=>h e),aaR (by rw[b1];decide),b1]
   rw[hp];rcases a with a | a
   .obtain⟨S',hS⟩:=stay a;exact⟨g,S',_,hS,Or.inr ⟨e,rfl,b2,Or.inl rfl⟩⟩
   .obtain⟨S',hS⟩:=gone a;exact⟨g,S',_,hS,Or.inr ⟨e,rfl,b2,Or.inr rfl⟩⟩
 .have hp:cC (bp D f) hP.S st c=⟨bG st c,bp D f,hP.S,st⟩:=by unfold cC;rw[aaR e]
  rw[hp];obtain⟨s1,s2,n⟩:=hP.still (fate:=fate) hf;obtain⟨S',hS⟩:=stay n;exact⟨s2,S',st,hS,Or.inl ⟨rfl,Ib st c,rfl,by unfold cR;rw[aaG e]⟩⟩
end
end Go.Proofs.YtomdimlnggpgbaaGreatDoor
namespace Go.Proofs.YtomdimlnggpgbaaGreatDoor.D
open Go Go.Sx
def E7:Sx.Spec where
 fn:=24
 own:=[.arg 0]
 rd:=[]
 res:=[]
 pre:=fun xs Hs Rs=>∃ p n H D,xs=[p,.int .i64 n]/\Hs=[H]/\aD H p D/\n<=9223372036854775807
 post:=fun xs Hs Rs v Hs' F=>∃ p n H D H',xs=[p,.int .i64 n]/\Hs=[H]/\aD H p D/\Hs'=[H']/\aD H' p (bp D n)
def WA:aG Tryz.prog [] E7.fn where
 Λ:=aC
 args:=[TP (.var 0) (.lit 0),TI .i64 (.var 1)]
 mem:=tV
 nv:=15
def N5:E7.OK Tryz.prog:=by
 refine Spec.aV (Γ:=[]) (fun _ h=>by cases h) ?_;rintro xs Hs Rs c b ⟨p,n,H,D,rfl,rfl,⟨a,s,m,es,clock,rfl,h⟩,hn⟩;have e1:Rs=[]:=aaz.1 b;subst e1;refine⟨WA,nT a s m D [n,0,0,0,0] es clock Hl.none,fun _ _=>True,fun _ _=>0,?_,yQ h _ rfl _,(fun _ h=>nomatch h),?_⟩
 .show [Value.pointer (az (a:Int) 0),Value.int .i64 n]=_;rw[ju]
 .refine aG.read [] [] [] ?_;simp only[Nd.holds];refine fun _=>⟨[[0,1,2]],[],rfl,rfl,⟨(bf fun _=>0),rfl,zzT⟩,_,n,H,D,_,rfl,rfl,⟨a,s,m,es,clock,rfl,h⟩,rfl,?_⟩;refine T4 h (ai.refl _ _) (ua h.ok hn) rfl h.map h.st ?_ rfl rfl rfl;rw[cO,nz];show(if decide (n< -1)=true then -1 else n)=max n (-1);by_cases hc:n< -1
  .rw[aaR (by simpa using hc)];omega
  .rw[aaG (by simpa using hc)];omega
end Go.Proofs.YtomdimlnggpgbaaGreatDoor.D
namespace Go.Proofs.YtomdimlnggpgbaaGreatDoor
open Go Go.Sx Go.Pk
open Go.Proofs.YtomdimlnggpgbaaGreatDoor.D hiding aL aC fP
variable {D:DM}{F H K R:Hl}{N a b e n x:Int}{k:Nat}{dp u v:Value}
def EU {fate:List Int} (d:aD H dp D) (hB:fL R u fate) (hp:yO.post [dp,u] [H] [R] v [K] F):aD K dp (bX D fate):=by
 obtain⟨e,f,bs,H',R',D',g,e1,a,b,d1,r1,c,d2⟩:=hp;simp only[aaC,aaP]at e1 a b c;obtain⟨rfl,rfl⟩:=e1;subst a b c;obtain rfl:=d.uniq d1;obtain rfl:=hB.uniq r1;exact d2
def LD (c:aD H dp D) (hp:E7.post [dp,.int .i64 n] [H] [] v [K] F):aD K dp (bp D n):=by
 obtain⟨d,n',H',D',e,e1,a,d1,b,d2⟩:=hp;simp only[aaC,aaP,Value.int.injEq,abk]at e1 a b;obtain⟨rfl,rfl⟩:=e1;subst a b;obtain rfl:=c.uniq d1;exact d2
def Pw:Sx.Spec where
 fn:=9
 own:=[]
 rd:=[0,2000000]
 res:=[.one .bool]
 pre:=fun xs Hs Rs=>∃ v v2 v3 T RG g rows bs fate,xs=[v,v2,v3]/\Rs=[T,RG]/\bq T v rE rows/\(∀ row∈rows,Er row 53<=20->Er row 125<=2100->∃ c,gY T T row c)/\(fL T v2 bs/\∀ b∈bs,0<=b/\b<256)/\(fL T v3 fate/\∀ b∈fate,0<=b/\b<256)/\(Gl RG g/\ve RG 5/\RG.cell 4 0=some yZ)/\ve RG 3
 post:=fun xs Hs Rs v Hs' F=>v=.bool true
noncomputable def QY:List Sx.Spec:=[Iu,m9,qH,NQ (Cm 100),vn,pX,M4 (Al 1001053) [6000000,6000004,2000000],DU,yO,M4 rI [0,1,100,6000004],E7]
def QZ:∀ t∈QY,t.OK Tryz.prog:=av Kk <| av IW <| av Cg <| av (Q0 (PV _)) <| av Lz <| av ED <| av (we (Ga _)) <| av Mz <| av Lr <| av (we IZ) <| av N5 <| bW
def QU:E7.res=[]:=rfl
noncomputable def Tf:aG Tryz.prog QY Pw.fn where
 Λ:=fun p=>if lp p&&p.head?==some 9 then some ⟨0,[(8,.sv (.one (.hptr (.var 70) (.var 71)))),(11,TI .i64 (.var 73))],[(2,.hp 60 [] [.var 16] []),(3,.hp 61 [] [.var 70] [.var 16]),(4,.hp 62 [] [.var 21,.lit (-7)] [])],80⟩
  else if cutAt p [9,1,1,1,1,1,1,0,1,0,0,1,0,0,1,1,1,1,0]then some ⟨1,[],[(2,.hp 240 [] [.var 16] [])],245⟩
  else if cutAt p [9,1,1,1,1,1,1,0,1,0,0,1,0,0,1,1,1,1,1,1,0]then some ⟨2,[],[],255⟩
  else if cutAt p [9,1,1,1,1,1,1,0,1,0,0,1,0,0,1,1,1,1,1,1,1,1,1,1,0]then some ⟨3,[],[(4,.hp 270 [] [.var 21,.lit (-7)] [])],275⟩else none
 args:=[.sv (.one (.sl (.var 0) (.var 1) (.var 2) (.var 3))),.sv (.one (.sl (.var 4) (.var 5) (.var 6) (.var 7))),.sv (.one (.sl (.var 8) (.var 9) (.var 10) (.var 11)))]
 mem:=[.ro 12 [.var 0,.var 4,.var 8] true,.ro 13 [.lit 0,.lit 1,.lit 2,.lit 3,.lit 4,.lit 5] false]
 nv:=14
structure LcI (fk:Int) (T:Hl) (dp pr:Value) (z:Nat) (HD HR HX:Hl) (k:Nat) (D:DM) (S:SM) (st:Nat->List Pc):Prop where
 dk:aD HD dp D
 ra:cM HR pr dp S st
 rf:jJ HX T z st
 pl:CM fk k D S st
def Py (T:Hl) (N:Nat) (fk:Int):Nat->Env->Prop
 | 0,q=>∃ (k z:Nat) (D:DM) (S:SM) (st:Nat->List Pc),q.i 73=k/\k<=N/\q.i 21=z/\LcI fk T (.pointer (az (q.i 16) (q.i 17))) (.pointer (az (q.i 70) (q.i 71))) z (q.h 60) (q.h 61) (q.h 62) k D S st
 | 1,q=>∃ (D:DM) (f:Int),aD (q.h 60) (.pointer (az (q.i 16) (q.i 17))) D/\aD (q.h 240) (.pointer (az (q.i 16) (q.i 17))) (bp D f)/\f<=9223372036854775807
 | 2,_=>True
 | _,q=>∃ (S:SM) (st:Nat->List Pc),cM (q.h 258) (.pointer (az (q.i 257) (q.i 258))) (.pointer (az (q.i 16) (q.i 17))) S st/\jJ (q.h 270) T (q.i 21).toNat st
def RC {o y:Bool} {p q:Prop} (hx:x=e) (c:y=o) (h:(e=a/\e≠5/\o=false/\p)\/(b=0/\e=5/\o=true/\q)):(x=5)=(y=true):=by
 subst hx c;rcases h with ⟨_,c1,c2,_⟩ | ⟨_,c1,c2,_⟩
 .rw[c2];exact propext ⟨fun h=>absurd h c1,fun h=>by cases h⟩
 .rw[c1,c2];exact propext ⟨fun _=>rfl,fun _=>rfl⟩
def XN (h:k<1000):IntKind.i64.wrap ((k:Int)+1)=((k+1:Nat):Int):=by rw[wrap_i64 ah ah];omega
def MX (h:(k:Int)<N):(N-((k+1:Nat):Int)).toNat<(N-(k:Int)).toNat:=ah
set_option maxRecDepth 20000 in
def Px:Pw.OK Tryz.prog:=by
 refine Spec.aV (Γ:=QY) QZ ?_;rintro xs Hs Rs cj ck ⟨v,v2,v3,T,RG,g,rows,bs,fate,rfl,rfl,hR,hP,⟨hB,hb⟩,⟨hF,hf⟩,hG,hK⟩;have e0:Hs=[]:=aaz.1 cj;subst e0;obtain⟨x,y,c,rfl,hy,a8⟩:=id hR;obtain⟨x2,y2,c2,rfl,cm,ba⟩:=id hB;obtain⟨x3,y3,c3,rfl,du,_⟩:=id hF;refine⟨Tf,aL [x,y,rows.length,c,x2,y2,bs.length,c2,x3,y3,fate.length,c3] false [Hl.none,Hl.none,Hl.none,Hl.none,Hl.none,Hl.none,Hl.none,Hl.none,Hl.none,Hl.none,Hl.none,Hl.none,T,RG],
  Py T rows.length (bF fate 0),fun j q=>(rows.length-q.i 73).toNat,?_,dw (by intro r hr;simp [Tf]at hr;rcases hr with rfl | rfl<;>exact⟨_,_,_,rfl⟩) rfl,(fun _ h=>nomatch h),?_⟩
 .show [Value.slice (az x y) ((rows.length:Int)).toNat ((c:Int)).toNat,Value.slice (az x2 y2) ((bs.length:Int)).toNat ((c2:Int)).toNat,Value.slice (az x3 y3) ((fate.length:Int)).toNat ((c3:Int)).toNat]=_;simp only[aar]
 refine aG.read [jU] [rE] [] ?_;generalize bL:aL [x,y,rows.length,c,x2,y2,bs.length,c2,x3,y3,fate.length,c3] false [Hl.none,Hl.none,Hl.none,Hl.none,Hl.none,Hl.none,Hl.none,Hl.none,Hl.none,Hl.none,Hl.none,Hl.none,T,RG]=J;have V:∀ q:Env,ai 14 J q->(q.i 0=x/\q.i 1=y/\q.i 2=rows.length/\q.i 3=c)/\(q.i 4=x2/\q.i 5=y2/\q.i 6=bs.length)/\(q.i 8=x3/\q.i 9=y3/\q.i 10=fate.length/\q.i 11=c3)/\q.h 12=T/\q.h 13=RG:=fun q g=>by
  rw[g.i 0,g.i 1,g.i 2,g.i 3,g.i 4,g.i 5,g.i 6,g.i 8,g.i 9,g.i 10,g.i 11,g.h 12,g.h 13,<-bL];exact⟨⟨rfl,rfl,rfl,rfl⟩,⟨rfl,rfl,rfl⟩,⟨rfl,rfl,rfl,rfl⟩,rfl,rfl⟩
 clear bL;simp only[go_sem,Nat.reduceAdd,QY,UU,UW,UX,UY,UZ,U0,U1,U2,U3,RM,QU,KI,Vo];have aw:∀ {q:Env},ai 14 J q->pX.pre [] [] [q.h 13,q.h 12]:=fun hg=>⟨RG,T,g,rfl,by rw[(V _ hg).2.2.2.1,(V _ hg).2.2.2.2],hG,hK⟩;have out:∀ {q:Env} {mem:Mem} {e:E},bh q e=true->postOf Pw [.slice (az x y) rows.length c,.slice (az x2 y2) bs.length c2,.slice (az x3 y3) fate.length c3] [] [T,RG] q mem (.sv (.one (.bool e))):=fun h=>Aw rfl (by show Value.bool _=_;rw[h]);refine⟨aw (ai.refl _ _),fun q1 g1 ⟨_,p1,_,_⟩=>⟨fun _=>?_,fun h=>absurd (Value.bool.inj p1) h⟩⟩;obtain⟨⟨v0,v1,v2,v3⟩,_,_,w9,cn⟩:=V q1 g1;rw[v0,v1,v2,v3,w9,aar,aar];refine⟨⟨_,25,T,rows,rfl,rfl,hR,aA⟩,fun q2 g2 ⟨_,p2,_,_⟩=>?_⟩;obtain⟨zz,hz,cp⟩:=p2 _ _ _ _ rfl rfl hR;have hz:q2.b 15=zz:=Value.bool.inj hz;have G2:ai 14 J q2:=g1.tr g2;obtain⟨_,_,⟨_,_,v10,_⟩,_,cn⟩:=V q2 G2;refine⟨fun bM=>⟨ah,fun _=>⟨aw G2,fun q3 _ ⟨_,p3,_,_⟩=>out (Value.bool.inj p3)⟩,fun _=>?_⟩,fun _=>⟨aw G2,fun q3 _ ⟨_,p3,_,_⟩=>out (Value.bool.inj p3)⟩⟩;rw[hz]at bM;obtain⟨dt,ad⟩:=cp bM;obtain⟨S0,cq,aH⟩:=CM.new (bF fate 0);have aR:∀ {v:Value} {F:Hl},Iu.post [.int .i64 400] [] [] v [] F->aD F v (eJ 400):=by
  rintro v F ⟨m,em,hD⟩;simp only[aaC,Value.int.injEq,abk,aaP]at em;subst em;exact hD
 generalize eJ 400=D0 at aH aR cq;refine⟨⟨400,rfl⟩,fun q3 g3 ⟨F3,p3,cr,_⟩=>?_⟩;have bb:=aR p3;rw[<-cr zzT]at bb;have G3:ai 14 J q3:=G2.tr g3;rw[(V q3 G3).2.2.2.2];have bN:∀ {k:Nat} {D:DM} {S:SM} {st:Nat->List Pc} {H:Hl} {dp:Value},CM (bF fate 0) k D S st->k<=100->aD H dp D->m9.pre [dp] [H] [RG]:=fun {k D S st H dp} h hk hd=>by
  obtain⟨⟨o1,o2,o3,o4⟩,_,o5,o6⟩:=h.open;refine⟨dp,_,D,RG,rfl,rfl,rfl,hd,o3,o4,o1,by rw[o2];omega,fun r hr=>?_,hG.2.1,hG.2.2⟩;rw[o2]at hr;have:=o6 r hr;exact⟨ah,this.2⟩
 have bR:∀ {k:Nat} {D:DM} {S:SM} {st:Nat->List Pc} {H K F:Hl} {dp:Value} {a b e:Int},CM (bF fate 0) k D S st->aD H dp D->m9.post [dp] [H] [RG] (.tuple #[.pointer (az a b),.int .i64 e]) [K] F->aD K dp D/\e=0/\cM F (.pointer (az a b)) dp S st:=fun {k D S st H K F dp a b e} h hd hp=>by
  obtain⟨d1,hc⟩:=Gp hd hp;obtain⟨⟨_,o2,_⟩,oL,_⟩:=h.open;rw[o2]at hc;rcases hc with ⟨pv,st',hv,hL,ct⟩ | ⟨cu,_⟩
  rotate_left
  .exact absurd oL (cu _)
  obtain rfl:=hL.uniq oL;simp only[Value.tuple.injEq,abh,aaC,Value.int.injEq,abk,aaP]at hv;obtain⟨rfl,e0⟩:=hv;exact⟨d1,e0,ct⟩
 refine⟨bN aH ah bb,fun q4 g4 ⟨F4,p4,cv,_⟩=>?_⟩;obtain⟨cw,cx,bS⟩:=bR aH bb p4;rw[<-cv (by simp [aK,Cp.roots,Ck.root])]at bS;refine⟨fun h=>absurd cx h,fun _ q5 g5 n5 R g6 cy=>?_⟩;have B:ai 21 q4 R:=g5.tr g6;have G6:ai 14 J R:=G3.trans (g4.mono.tr B);have dv:R.i 21=q5.i 21:=g6.i 21;refine⟨⟨0,(q5.i 21).toNat,D0,S0,fun _=>[],rfl,abJ _,by show R.i 21=_;omega,?_,?_,?_,aH⟩,fun q7 g7 ⟨k,z,D,S,st,ek,hk,ez,hI⟩=>?_⟩
 .show aD (R.h 18) (.pointer (az (R.i 16) (R.i 17))) _;rw[B.h 18,B.i 16,B.i 17,g4.i 16,g4.i 17];exact cw
 .show cM (R.h 19) (.pointer (az (R.i 18) (R.i 19))) (.pointer (az (R.i 16) (R.i 17))) _ _;rw[B.h 19,B.i 16,B.i 17,B.i 18,B.i 19,g4.i 16,g4.i 17];exact bS
 .show jJ (R.h 22) _ _ _;rw[cy];exact Vd T (Hl.aU _ _)
 have G7:ai 14 J q7:=G6.tr g7;obtain⟨⟨v0,v1,v2,v3⟩,⟨v4,v5,v6⟩,⟨v8,v9,v10,v11⟩,bc,bT⟩:=V q7 G7;rw[v2,ek];refine⟨ah,fun dx=>?_,fun dy=>out rfl⟩;have sj:k<rows.length:=ah;have bd:k<1000:=ah;have bU:rows[k]?=some rows[k]:=aax sj;have ae:rows[k]∈rows:=abM sj;obtain⟨p,hp⟩:=hP _ ae (ad _ ae).1 (ad _ ae).2;generalize rows[k]=row at bU hp;rcases a8 with h0 | ⟨cz,a8⟩
 .rw[h0]at sj;simp at sj
 obtain⟨hok,cA⟩:=a8 k row bU;have hc:∀ i u,row[i]?=some u->T.cell x.toNat ((y+(k:Int)*126).toNat+i)=some u:=fun i u hu=>by
  have:=cA i u hu;rw[m8]at this;rw[show(y+(k:Int)*126).toNat=y.toNat+k*126 by omega];exact this
 have W:∀ q,ai 80 q7 q->(q.i 73=k/\q.i 21=z/\q.i 4=x2/\q.i 5=y2/\q.i 6=bs.length)/\(q.i 16=q7.i 16/\q.i 17=q7.i 17/\q.i 70=q7.i 70/\q.i 71=q7.i 71)/\(q.i 8=x3/\q.i 9=y3/\q.i 10=fate.length/\q.i 11=c3)/\q.h 12=T/\q.h 13=RG/\q.h 60=q7.h 60/\q.h 61=q7.h 61/\q.h 62=q7.h 62:=fun q g=>by
  rw[g.i 73,g.i 21,g.i 4,g.i 5,g.i 6,g.i 16,g.i 17,g.i 70,g.i 71,g.i 8,g.i 9,g.i 10,g.i 11,g.h 12,g.h 13,g.h 60,g.h 61,g.h 62];exact⟨⟨ek,ez,v4,v5,v6⟩,⟨rfl,rfl,rfl,rfl⟩,⟨v8,v9,v10,v11⟩,bc,bT,rfl,rfl,rfl⟩
 have ew:aB q7 ((E.var 73).rem (E.lit 3))=((k%3:Nat):Int):=by
  show Int.tmod (q7.i 73) 3=_;rw[ek,abm ah];omega
 obtain⟨i,hi⟩:∃ i,k%3=i:=⟨_,rfl⟩;have bf:i<6:=ah;rw[hi]at ew;have e1:IntKind.i64.wrap (1+((i:Nat):Int))=((i+1:Nat):Int):=by rw[wrap_i64 ah ah];omega
 have e2:IntKind.i64.wrap (((i+1:Nat):Int)-1)=((i:Nat):Int):=by rw[wrap_i64 ah ah];omega
 have eR:(aY 12 (E.var 0) ((E.var 1).add ((E.var 73).mul (E.lit 126))) 0 rE).map (CV.ev q7)=row:=fw row rE 0 hok fun i u hu=>by
  rw[al,bQ,cG,al,al,ak,v0,v1,ek,bc,aa6];exact hc i u hu
 obtain⟨sv,KB,C⟩:=id hI.rf;obtain⟨cS,cB,cl,cs⟩:=C.sl bf;obtain⟨rws,ho,cD,cE⟩:=C.row i bf;have dz:=hI.pl.ln i bf;have aS:XT (q7.h 62) T (rws.map (List.take 125)) (mE st i):=by
  have hlen:(rws.map (List.take 125)).length=(mE st i).length:=by unfold mE;rw[aaT,aaT,cD]
  refine⟨hlen,fun U a b=>⟨hlen,fun j r h hr hh=>?_⟩⟩;unfold mE at hh;rw[aaL]at hr hh;obtain⟨r0,wM,rfl⟩:=aaI.1 hr;obtain⟨p0,cF,rfl⟩:=aaI.1 hh;exact((cE j r0 p0 wM cF).2 U b fun b' o hb=>a b' o (C.kb b' o hb)).hd
 have cH:(q7.h 62).cell ((z:Int)).toNat ((i:Nat):Int).toNat=some (sv i):=by rw[aar,aar];exact cS
 rw[ew,e1,e2,ez,cH,iN cB,eR,bc,bT,v0,v1];refine⟨ah,ah,ah,cs,cz,hy,ah,my _ hok hc,⟨sv i,((i+1:Nat):Int),row,_,T,RG,rws,mE st i,p,rfl,rfl,ho.rd,aS,ah,ah,hp,hK⟩,fun q8 g8 ⟨F8,⟨row',er,cI⟩,cJ,_⟩ q9 g9 n9=>?_⟩;have hx:=cI _ _ _ _ _ _ _ _ _ rfl rfl ho.rd aS hp;have er:=aa5 (Value.agg.inj er);rw[Ku]at er;rw[<-cJ aA]at hx;have aT:(kX (mE st i) ((i+1:Nat):Int) p).b.length=80:=aby;generalize kX (mE st i) ((i+1:Nat):Int) p=P at hx aT;have bV:∀ q,ai 212 q8 q->(ar 80 jU).map (CV.ev q)=row':=fun q g=>(aa1 Array.toList (Value.agg.inj (gn (ks:=jU) (n:=80) g aA))).trans er;have B9:ai 80 q7 q9:=g8.tr g9;obtain⟨⟨dA,cK,_⟩,_,_,dB,dC,_,_,cL⟩:=W q9 B9;have sl:∀ j:Nat,j<6->bz ((q9.h 62).cell (q9.i 21).toNat (Int.toNat 0+j)) .slice=true:=fun j hj=>by
  rw[cL,cK,aar,show Int.toNat 0+j=j from aa6 j,(C.sl hj).1];exact(C.sl hj).2.2.2
 refine⟨sl 0 ah,sl 1 ah,sl 2 ah,sl 3 ah,sl 4 ah,sl 5 ah,fun bg cN n10 aI bW ⟨aW,I⟩=>?_⟩;have bk:ai 212 q8 bg:=g9.tr cN;have bl:ai 212 q8 aI:=bk.tr bW;have cO:ai 80 q7 bg:=g8.tr bk;have cP:ai 80 q7 aI:=g8.tr bl;obtain⟨⟨_,cQ,_⟩,_,_,cR,cT,_⟩:=W aI cP;rw[(W bg cO).2.2.2.2.2.2.2,bk.h 80]at aW I;rw[bV aI bl,aW,cR,cT,cQ,gT z];have hS:=hI.pl.short ah;have cU:∀ i,i<6->(st i).length<=100000:=fun i hi=>by have:=hI.pl.ln i hi;omega
 refine⟨⟨z,_,_,row',T,RG,st,P,rfl,rfl,rfl,I,hI.rf,hS,cU,hx.u,ah,hK⟩,fun s bY ⟨dD,bn,_⟩=>?_⟩;obtain⟨bo,O,af⟩:=MD (K:=s.h 215) I hI.rf hx.u bn;have bo:s.i 215=bG st P:=by simpa using bo
 have bZ:ai 212 q8 s:=bl.tr bY;have ag:ai 80 q7 s:=g8.tr bZ;obtain⟨⟨d73,_,d4,d5,d6⟩,⟨d16,d17,_⟩,_,d12,_,d60,_⟩:=W s ag;have inv1:∀ (q:Env) (h:Nat) (f:Int),ai 80 q7 q->aD (q.h h) (.pointer (az (q7.i 16) (q7.i 17))) (bp D f)->f<=9223372036854775807->Py T rows.length (bF fate 0) 1 (assign q [] [(240,some h)]):=fun q h f g h1 h2=>by
  obtain⟨_,⟨d16,d17,_⟩,_,_,_,d60,_⟩:=W q g;refine⟨D,f,?_,?_,h2⟩
  .show aD (q.h 60) (.pointer (az (q.i 16) (q.i 17))) D;rw[d60,d16,d17];exact hI.dk
  .show aD (q.h h) (.pointer (az (q.i 16) (q.i 17))) _;rw[d16,d17];exact h1
 rw[d73,d6];refine⟨⟨ah,fun ck=>?_,fun _=>inv1 s 60 (-1) ag (by rw[d60,hI.pl.bO];exact hI.dk) aA⟩,fun X aj ⟨D',f,bq,aJ,b0⟩=>?_⟩
 .have br:k<bs.length:=ah;rcases ba with e | ⟨b1,ba⟩
  .rw[e]at br;simp at br
  have cV:(s.h 12).cell (s.i 4).toNat (s.i 5+(k:Int)).toNat=some (.int .u8 bs[k]):=by
   rw[d4,d5,d12,show(y2+(k:Int)).toNat=y2.toNat+k by omega];exact ba k _ (aax br)
  rw[cV,d4,d5,d16,d17,d60];refine⟨b1,cm,rfl,⟨_,_,_,D,rfl,rfl,hI.dk,by rw[IntKind.wrap_i64];omega⟩,fun b2 cW ⟨dE,cX,_⟩=>?_⟩;exact inv1 b2 217 _ (ag.tr cW) (LD (K:=b2.h 217) hI.dk cX) (by rw[IntKind.wrap_i64];omega)
 have b3:ai 80 q7 X:=ag.tr aj;have cY:ai 212 q8 X:=bZ.tr aj;obtain⟨_,⟨f16,f17,f70,f71⟩,_,f12,f13,f60,f61,_⟩:=W X b3;rw[f60,f16,f17]at bq;rw[f16,f17]at aJ;obtain rfl:=hI.dk.uniq bq;have f215:X.h 215=s.h 215:=aj.h 215;obtain⟨t1,t2,t3⟩:=hI.pl.pre ah;have bt:=hI.ra;generalize Y:Value.pointer (az (q7.i 16) (q7.i 17))=dp at bq aJ bt;rw[f12,f13,f61,f70,f71,f215,bV X cY];refine⟨fun U u=>⟨_,_,_,_,U,U,U,g,dp,S,bp D f,st,P,rfl,rfl,rfl,bt,aJ,af.2 U (u T aF) (u _ aF),ah,hS,⟨hG.1.mono (u RG aF),hG.2.1.mono (u RG aF),C3 (u RG aF) hG.2.2⟩,t1,t2,t3⟩,fun Z bu ⟨dF,⟨U,u,tF⟩,_⟩=>?_⟩;obtain⟨aX,aZ,aa⟩:=vH (K1:=Z.h 245) (K2:=Z.h 246) bt aJ (af.2 U (u T aF) (u _ aF)) tF;have aa:Z.i 245=(cC (bp D f) S st P).e:=by simpa using aa
 obtain⟨a1,S',st',L,A⟩:=hI.pl.push ah b0 (af.2 U (u T aF) (u _ aF)) aT;generalize cC (bp D f) S st P=Q at aX aZ aa a1 L A;have b4:ai 80 q7 Z:=b3.tr bu;have f15:Z.i 215=bG st P:=by rw[bu.i 215,aj.i 215,bo]
 rw[aa,f15];refine⟨⟨fun bw=>⟨fun h5=>?_,fun _=>trivial⟩,fun _=>trivial⟩,fun bx an _=>?_⟩
 .rcases A with ⟨c1,_⟩ | ⟨_,c1,_⟩
  .exact absurd c1 bw
  .exact absurd c1 h5
 have b5:ai 80 q7 bx:=b4.tr an;obtain⟨_,⟨i16,i17,_⟩,⟨i8,i9,i10,i11⟩,i12,_⟩:=W bx b5;have a2:aD (bx.h 246) dp Q.D:=by rw[an.h 246];exact aZ
 rw[i16,i17,Y,i8,i9,i10,i11,i12,aar,aar];refine⟨⟨_,_,fate,_,T,Q.D,rfl,rfl,rfl,a2,hF,hf,a1⟩,fun aM aN ⟨dG,IE,_⟩=>?_⟩;have ao:=EU (K:=aM.h 255) a2 hF IE;generalize bX Q.D fate=D2 at L ao;have cZ:ai 80 q7 aM:=b5.tr aN;obtain⟨_,⟨c4,c5,_⟩,_,_,c6,_⟩:=W aM cZ;rw[c4,c5,Y,c6];refine⟨bN L ah ao,fun d bA ⟨dH,c7,b6,_⟩=>?_⟩;obtain⟨b7,c8,t⟩:=bR (K:=d.h 257) L ao c7;rw[<-b6 (by simp [aK,Cp.roots,Ck.root])]at t;have c9:ai 245 X d:=bu.trans (an.mono.trans (aN.mono.tr bA));have bB:ai 216 s d:=aj.tr c9 |>.mono ah
 have aq:ai 80 q7 d:=ag.tr bB;have f245:d.i 245=Q.e:=by rw[bA.i 245,aN.i 245,an.i 245,aa]
 have av:d.h 215=s.h 215:=bB.h 215;have bC:=L.short ah;have mk:∀ (q:Env) (h:Nat),ai 260 d q->jJ (q.h h) T z st'->Py T rows.length (bF fate 0) 3 (assign q [] [(270,some h)]):=fun q h gq hr=>by
  obtain⟨⟨_,N,_⟩,⟨bD,bE,_⟩,_⟩:=W q (aq.tr gq);refine⟨S',st',?_,?_⟩
  .show cM (q.h 258) (.pointer (az (q.i 257) (q.i 258))) (.pointer (az (q.i 16) (q.i 17))) S' st';rw[bD,bE,Y,gq.h 258,gq.i 257,gq.i 258];exact t
  .show jJ (q.h h) T (q.i 21).toNat st';rw[N,aar];exact hr
 refine⟨fun hn=>absurd c8 hn,fun _=>⟨⟨fun h5=>?_,fun da=>?_⟩,fun ax w ⟨S3,dI,b8,ab⟩=>?_⟩⟩
 .rcases A with ⟨_,c1,_⟩ | ⟨c0,_,_,c3⟩
  .exact absurd (f245.symm.trans h5) c1
  obtain⟨⟨_,N,_⟩,_,_,bH,_,_,_,b9⟩:=W d aq;have n18:0<=d.i 213:=by rw[bB.i 213,bY.i 213,bW.i 213];exact n10
  have eV:∀ q:Env,ai 80 q7 q->(aY 62 (E.var 21) (E.lit 0) 0 (List.replicate 6 Kd.slice)).map (CV.ev q)=Mw sv:=fun q gq=>by
   obtain⟨⟨_,N,_⟩,_,_,_,_,_,_,b9⟩:=W q gq;exact fw (Mw sv) _ 0 (by
    have hs:∀ j:Nat,j<6->bz (some (sv j)) .slice=true:=fun j hj=>(C.sl hj).2.2.2;exact⟨hs 0 ah,hs 1 ah,hs 2 ah,hs 3 ah,hs 4 ah,hs 5 ah,zzT⟩) fun i u hu=>by
     have hi:i<6:=(aaH.1 hu).1;rw[PD sv hi]at hu;rw[al,ak,N,b9,aar,aa6,show Int.toNat 0+i=i from aa6 i,<-hu];exact(C.sl hi).1
  have a6:∀ i,i<6->st' i=st i\/(st' i).length≠(st i).length:=fun i _=>by
   rcases c3 with rfl | rfl
   .exact Or.inl rfl
   .exact Ic st P i
  have view:∀ {U:Hl},(d.h 215).le U->(Hl.one (d.i 213).toNat (.cells (Mw sv).toArray 57 (0,0))).le U->GZ U T (d.i 213).toNat st:=fun {U} a b=>by
   rw[av]at a;refine(Cn I hI.rf hx.u bn (o:=.cells (Mw sv).toArray 57 (0,0)) (Hl.bm _ _ _ _ C.bj) (G:=U) (b _ _ (Hl.aU _ _)) (fun k _ hm=>?_)).1.1;obtain⟨o,ho⟩:=abw.1 hm;rw[ho,a _ _ ho]
  rw[eV d aq,show Value.pointer (az (d.i 213) 0)=.pointer (some ⟨(d.i 213).toNat,0,none⟩)by rw[au n18];rfl,bH];refine⟨fun U u=>⟨_,_,U,T,st',st,rfl,rfl,lY.mono (u _ aF) t.rd,view (u _ aF) (u _ aF),u T aF,⟨bC,hS⟩,L.gd,a6⟩,fun ay aO ⟨dJ,⟨U,u,db⟩,_⟩=>?_⟩;have hsame:=Cq (lY.mono (u _ aF) t.rd) (view (u _ aF) (u _ aF)) a6 db;have ca:ai 80 q7 ay:=aq.tr aO;obtain⟨⟨_,cb,_⟩,_⟩:=W ay ca;have aC:ay.h 215=s.h 215:=by rw[aO.h 215,av]
  refine⟨fun hb=>⟨⟨ah,aaM 0,?_⟩,fun cc dc bI=>?_⟩,fun hb=>?_⟩
  .obtain⟨dd,de,aE⟩:=O;rw[cb,aC,aar];exact jI aE.bj (by show 0+6<=6;omega)
  .obtain⟨dd,de,aE⟩:=id O;rw[eV ay ca,cb,aC,aar]at bI;have cd:cc.h 261 z=some (.cells (Mw sv).toArray 57 (0,0)):=by
    rw[bI,Hl.qE aE.bj];rfl
   have f1:=(Cn I hI.rf hx.u bn (o:=.cells (Mw sv).toArray 57 (0,0)) (Hl.bm _ _ _ _ C.bj) cd (fun b hb _=>by rw[bI];exact Hl.pj hb)).1.2 rfl;rcases hsame with ⟨_,he⟩ | ⟨hv,_⟩
   .exact mk cc 261 (aO.tr dc |>.mono ah) (f1.congr fun i hi=>(he i hi).symm)
   .exact absurd (hb.symm.trans (Value.bool.inj hv)) aA
  .refine mk ay 215 aO.mono ?_;rw[aC];rcases hsame with ⟨hv,_⟩ | ⟨_,i,_,bw⟩
   .exact absurd (Value.bool.inj hv) hb
   .rcases c3 with rfl | rfl
    .exact absurd rfl bw
    .exact O
 .rcases A with ⟨_,_,_,rfl⟩ | ⟨_,c1,_⟩
  .exact mk d 215 (ai.refl _ _) (by rw[av];exact O)
  .exact absurd (f245.trans c1) da
 .have df:ai 80 q7 ax:=aq.tr w;obtain⟨⟨_,N,_⟩,⟨bD,bE,dK,dL⟩,_,bH,_⟩:=W ax df;rw[bD,bE,Y,w.h 258,w.i 257,w.i 258]at b8;rw[N,aar]at ab;obtain⟨_,_,e3⟩:=t.uniq b8;have ab:=ab.congr fun i hi=>(e3 i hi).symm;rw[N,gT z,bH,w.h 258,w.i 257,w.i 258];refine⟨fun U u=>⟨_,z,U,T,st',st',rfl,rfl,lY.mono (u _ aF) t.rd,ab.v.mono (u (ax.h 270) aF),u T aF,⟨bC,bC⟩,L.gd,fun _ _=>Or.inl rfl⟩,fun M bJ ⟨dM,⟨U,u,dg⟩,_⟩=>?_⟩;have dh:M.b 275=true:=by
   rcases Cq (lY.mono (u _ aF) t.rd) (ab.v.mono (u (ax.h 270) aF)) (fun _ _=>Or.inl rfl) dg with ⟨h,_⟩ | ⟨_,i,_,h⟩
   .exact Value.bool.inj h
   .exact absurd rfl h
  refine⟨fun _=>?_,fun h=>absurd dh h⟩;have di:ai 257 aM M:=bA.trans (w.mono.tr bJ) |>.mono ah
  have bK:ai 248 Z M:=an.trans (aN.mono.tr di);have cf:ai 80 q7 M:=b4.tr bK;obtain⟨_,⟨_,_,dj,dm⟩,_⟩:=W M cf;have a7:cM (M.h 245) (.pointer (az (M.i 70) (M.i 71))) dp Q.S Q.st:=by rw[dj,dm,bK.h 245];exact aX
  refine⟨⟨_,_,_,_,_,rfl,rfl,a7⟩,fun l aP ⟨dN,dn,_⟩=>?_⟩;have dq:l.b 276=Q.S.over:=Value.bool.inj (dn _ _ _ _ _ rfl rfl a7);have cg:l.i 245=Q.e:=by rw[aP.i 245,bK.i 245,aa]
  have heq:=RC cg dq A;have dr:ai 80 q7 l:=cf.tr aP;have aQ:ai 260 ax l:=bJ.mono.tr aP;obtain⟨⟨ds,n21,_⟩,⟨n16,n17,_⟩,_⟩:=W l dr;have ch:aB l (E.wrap .i64 ((E.var 73).add (E.lit 1)))=((k+1:Nat):Int):=by
   rw[bP,bQ,al,ak,ds];exact XN bd
  refine⟨fun h=>absurd heq h,fun _=>⟨⟨k+1,z,D2,S',st',ch,sj,n21,?_,?_,?_,L⟩,?_⟩⟩
  .show aD (l.h 257) (.pointer (az (l.i 16) (l.i 17))) _;rw[n16,n17,Y,aQ.h 257,w.h 257];exact b7
  .show cM (l.h 258) (.pointer (az (l.i 257) (l.i 258))) (.pointer (az (l.i 16) (l.i 17))) _ _;rw[n16,n17,Y,aQ.h 258,aQ.i 257,aQ.i 258,w.h 258,w.i 257,w.i 258];exact t
  .show jJ (l.h 270) _ _ _;rw[aP.h 270,bJ.h 270];exact ab
  .show((rows.length:Int)-aB l (E.wrap .i64 ((E.var 73).add (E.lit 1)))).toNat<((rows.length:Int)-(k:Int)).toNat;rw[ch];exact MX (Int.ofNat_lt.2 sj)
end Go.Proofs.YtomdimlnggpgbaaGreatDoor
namespace Go.Sx
open Go Go.ChangeShapes Go.WideShapes Go.ChangeAt Go.RowKit Go.Deep
variable {n:Int}{ks:List Kd}{cs xs:List Value}{b dp fuel y:Nat}{e t:TypeId}{v:Value}
def VQ (v:Value):Kd->Prop
 | .int k=>∃ n,v=.int k n/\(Lit.int k n).wf=true
 | .bool=>∃ b,v=.bool b
 | _=>False
def pP:List Value->List Kd->Prop
 | [],[]=>True
 | v::l,k::m=>VQ v k/\pP l m
 | _,_=>False
def qw:∀ {l m:List Value} {a b:List Kd},pP l a->pP m b->pP (l++m) (a++b)
 | [],m,[],b,_,h=>h
 | v::l,m,k::a,b,h,h2=>⟨h.1,qw h.2 h2⟩
 | [],_,_::_,_,h,_=>h.elim
 | _::_,_,[],_,h,_=>h.elim
def FL:∀ {l:List Value} {a:List Kd},pP l a->∀ (j:Nat) (k:Kd),a[j]?=some k->∃ v,l[j]?=some v/\VQ v k
 | _::l,_::a,h,0,k,hk=>by simp at hk;subst hk;exact⟨_,rfl,h.1⟩
 | _::l,_::a,h,j+1,k,hk=>by simpa using FL h.2 j k (by simpa using hk)
 | [],[],_,j,k,hk=>by simp at hk
 | [],_::_,h,_,_,_=>h.elim
 | _::_,[],h,_,_,_=>h.elim
def xW (f:TypeId->Option (List Kd)):List Field->Nat->Option (List Kd)
 | [],_=>some []
 | fl::l,o=>if fl.offset=o then match f fl.type with
  | some a=>match xW f l (o+a.length)with
   | some b=>some (a++b)
   | none=>none
  | none=>none
  else none
def Sf (a:List Kd):Nat->List Kd
 | 0=>[]
 | n+1=>a++Sf a n
def qi (P:Program):Nat->TypeId->Option (List Kd)
 | 0,_=>none
 | d+1,t=>match P.underlying t with
  | some (.int k)=>some [.int k]
  | some .bool=>some [.bool]
  | some (.array n e)=>match qi P d e with
   | some a=>if a.length=P.cellsOf e/\P.cellsOf t=n*a.length then some (Sf a n)else none
   | none=>none
  | some (.struct fs)=>match xW (fun u=>(qi P d u).bind fun a=>if a.length=P.cellsOf u then some a else none) fs.toList 0 with
   | some a=>if a.length=P.cellsOf t then some a else none
   | none=>none
  | _=>none
section
variable {H:Type} {enc:TypeId×Value->H} {P:Program} {w:World} {base:Nat} {spare:Nat->Bool} {held:Bool}
def xz {g:TypeId->Option (List Kd)} {cs:List Value} : ∀ (l:List Field) (o:Nat) (ks:List Kd),xW g l o=some ks ->
 (∀ (fl:Field) (a:List Kd),fl∈l->g fl.type=some a->pP ((cs.drop fl.offset).take a.length) a)->pP ((cs.drop o).take ks.length) ks
 | [],o,ks,h,_=>by cases h;simp [pP]
 | fl::l,o,ks,h,d=>by
  simp only[xW]at h;split at h
  .rename_i ho;subst ho;split at h
   .rename_i a i;split at h
    .rename_i b hb;cases h;have h1:=d fl a aF i;have h2:=xz l (fl.offset+a.length) b hb fun f c hf hc=>d f c (aaO _ hf) hc;have e:(cs.drop fl.offset).take (a++b).length=(cs.drop fl.offset).take a.length++(cs.drop (fl.offset+a.length)).take b.length:=by
      rw[aay,adm,acE]
     rw[e];exact qw h1 h2
    .cases h
   .cases h
  .cases h
def CE {cs:List Value} {a:List Kd} : ∀ (n:Nat) (o:Nat),(∀ i,i<n->pP ((cs.drop (o+i*a.length)).take a.length) a)->pP ((cs.drop o).take (n*a.length)) (Sf a n)
 | 0,o,_=>by simp [pP,Sf]
 | n+1,o,h=>by
  have h0:=h 0 ah;simp only[ade,abj]at h0;have ih:=CE n (o+a.length) fun i hi=>by
   have:=h (i+1) ah;rwa[acg,adU,acY (i*a.length),<-ab7]at this
  have e:(cs.drop o).take ((n+1)*a.length)=(cs.drop o).take a.length++(cs.drop (o+a.length)).take (n*a.length):=by
   rw[acg,adU,acY (n*a.length),adm,acE]
  rw[e];exact qw h0 ih
def Jm:∀ (d:Nat) (t:TypeId) (ks:List Kd) (fuel:Nat) (cs:List Value) (x:DataW H×List MemPlace),qi P d t=some ks->DataW.trod enc P w base spare held fuel t cs=some x->pP cs ks:=by
 intro d
 induction d with
 | zero=>intro t ks fuel cs x h;cases h
 | succ d ih =>
  intro t ks fuel cs x h hx;simp only[qi]at h;split at h
  .rename_i k hu;cases h;obtain⟨n,rfl,_,hw⟩:=DataW.trod_int hu hx;exact⟨⟨n,rfl,hw⟩,zzT⟩
  .rename_i hu;cases h;obtain⟨b,rfl,_⟩:=DataW.trod_bool hu hx;exact⟨⟨b,rfl⟩,zzT⟩
  .rename_i n e hu;split at h
   .rename_i a j;split at h
    .rename_i hc;cases h;obtain⟨xs,m,_,_,hl,f,c⟩:=DataW.trod_array hu hx;have key:=CE (cs:=cs) (a:=a) n 0 fun i hi=>by
      have h1:=c i hi;rw[<-hc.1,aax ah]at h1;rw[aa6];exact ih e a m _ _ j h1
     rw[ac7,<-hc.2,<-hl,abG]at key;exact key
    .cases h
   .cases h
  .rename_i fs hu;split at h
   .rename_i a j;split at h
    .rename_i hc;cases h;obtain⟨xs,m,_,_,hl,f,c⟩:=DataW.trod_struct hu hx;have key:=xz (cs:=cs) fs.toList 0 ks j fun fl b l hb=>by
      obtain⟨i,hi⟩:=abB l;have g:fs[i]?=some fl:=by simpa using hi
      have h1:=c i fl g;cases hk:qi P d fl.type with
      | none=>simp [hk]at hb
      | some b' =>
       simp only[hk,acp]at hb;split at hb
       .rename_i hlen;cases hb;have o:i<xs.length:=by rw[f];exact(abg.1 g).1
        rw[<-hlen,aax o]at h1;exact ih fl.type b m _ _ hk h1
       .cases hb
     rw[ac7,hc,<-hl,abG]at key;exact key
    .cases h
   .cases h
  .cases h
def Mi {k:Kd} (h:VQ v k):bz (some v) k=true:=by
 cases k with
 | int k=>obtain⟨n,rfl,_⟩:=h;simp [bz]
 | bool=>obtain⟨b,rfl⟩:=h;rfl
 | _=>exact h.elim
def B8 {x:DataW H×List MemPlace} (r:P.underlying t=some (.slice e)) (hk:qi P dp e=some ks) (s:P.cellsOf e=ks.length)
 (h:DataW.trod enc P w base spare held fuel t cs=some x) :
 cs=[.slice none 0 0]\/∃ (a:Addr) (len cap:Nat),cs=[.slice (some a) len cap]/\len<=cap/\cap<=maxLen /\
  ∀ i,i<len->∀ (j:Nat) (k:Kd),ks[j]?=some k->∃ v,w.cell? (a.add (i*ks.length+j))=some v/\VQ v k:=by
 rcases open_slice r h with h0 | ⟨a,len,cap,m,n,D,z,b,hb,hl,hm,c,hx,hi⟩
 .exact Or.inl h0.1
 .refine Or.inr ⟨a,len,cap,b,hl,hm,fun i u j k q=>?_⟩;have d:i<m:=by rw[c];split<;>omega
  obtain⟨f,hc,g⟩:=hi i d;rw[s]at hc;obtain⟨_,y,l⟩:=World.cells?_some hc;have hok:=Jm dp e ks n f _ hk g;obtain⟨v,hv,o⟩:=FL hok j k q;have p:j<ks.length:=(aaH.1 q).1;refine⟨v,?_,o⟩;rw[<-Go.Deep.add_add,l j p,hv]
end
def VG (h:(Lit.int .u64 n).wf=true):0<=n/\n<18446744073709551616:=by
 simp only[Lit.wf,IntKind.min,IntKind.max,IntKind.signed,IntKind.bits,aaE,aaB]at h;simp at h;omega
def Qr (h:(Lit.int .u8 n).wf=true):0<=n/\n<256:=by
 simp only[Lit.wf,IntKind.min,IntKind.max,IntKind.signed,IntKind.bits,aaE,aaB]at h;simp at h;omega
def Um (h:(Lit.int .i64 n).wf=true):-9223372036854775808<=n/\n<9223372036854775808:=by
 simp only[Lit.wf,IntKind.min,IntKind.max,IntKind.signed,IntKind.bits,aaE,aaB]at h;simp at h;omega
def Gr:∀ {row:List Value} {ks:List Kd},pP row ks->bo row ks
 | [],[],_=>trivial
 | _::_,_::_,h=>⟨Mi h.1,Gr h.2⟩
 | [],_::_,h=>h.elim
 | _::_,[],h=>h.elim
def wX:∀ {ks:List Kd} {row:List Value},row.length=ks.length->(∀ (j:Nat) (k:Kd),ks[j]?=some k->∃ v,row[j]?=some v/\VQ v k)->pP row ks
 | [],[],_,_=>trivial
 | k::ks,v::row,hl,h=>by
  refine⟨?_,wX (by simpa using hl) fun j a b=>?_⟩
  .obtain⟨u,hu,ho⟩:=h 0 k rfl;simp at hu;subst hu;exact ho
  .have:=h (j+1) a (by simpa using b);simpa using this
 | [],_::_,hl,_=>by simp at hl
 | _::_,[],hl,_=>by simp at hl
section
variable {H:Type} {enc:TypeId×Value->H} {P:Program} {W:World} {base:Nat} {spare:Nat->Bool} {held:Bool} {d:DataW H} {p:List MemPlace}
def nN (h:W.cell? ⟨b,y,none⟩=some v):(Hl.all W).cell b y=some v:=by
 unfold Hl.cell Hl.all;unfold World.cell? at h;split at h
 .rename_i c T fr hb;rw[hb];simpa using h
 .cases h
def vk {a:Addr} (hv:W.cell? a=some v):a.spot=none:=by
 unfold World.cell? at hv;split at hv
 .split at hv
  .cases hv
  .rename_i h;simpa using h
 .cases hv
def Ms (w:P.underlying t=some (.slice e)) (hk:qi P dp e=some ks) (z:P.cellsOf e=ks.length) (hks:0<ks.length) (hv:∃ a l c,v=.slice a l c) (h:DataW.Trod enc P W base spare held t v d p) :
 ∃ rows,bq (Hl.all W) v ks rows/\∀ row∈rows,pP row ks:=by
 obtain⟨a0,b,f,rfl⟩:=hv;obtain⟨fuel,hf⟩:=h;rcases B8 w hk z hf with h | ⟨a,len,cap,m,hl,hc,n⟩
 .simp only[Value.cells,aaC,Value.slice.injEq,aaP]at h;obtain⟨rfl,rfl,rfl⟩:=h;exact⟨[],⟨-1,0,0,rfl,ah,Or.inl rfl⟩,fun _ h=>nomatch h⟩
 .simp only[Value.cells,aaC,Value.slice.injEq,aaP]at m;obtain⟨rfl,rfl,rfl⟩:=m;rcases acG b with h0 | h0
  .subst h0;obtain⟨x,y,hx,A,_⟩:=rO (some a);exact⟨[],⟨x,y,f,by rw[hx];rfl,A,Or.inl rfl⟩,fun _ h=>nomatch h⟩
  .have o:a.spot=none:=by
    obtain⟨v,hv,_⟩:=n 0 h0 0 ks[0] (aax hks);simp only[ade,abj,Addr.add,ab6]at hv;exact vk hv
   obtain⟨bj,off,spot⟩:=a;simp only at o;subst o
   let row:Nat->List Value:=fun i=>(List.range ks.length).map fun j=>(W.cell? ⟨bj,off+(i*ks.length+j),none⟩).getD (.bool false)
   have aE:∀ i,i<b->pP (row i) ks/\∀ j u,(row i)[j]?=some u->W.cell? ⟨bj,off+(i*ks.length+j),none⟩=some u:=by
    intro i hi;have s:∀ (j:Nat) (k:Kd),ks[j]?=some k->∃ v,(row i)[j]?=some v/\W.cell? ⟨bj,off+(i*ks.length+j),none⟩=some v/\VQ v k:=by
     intro j k q;obtain⟨v,hv,ho⟩:=n i hi j k q;rw[fE]at hv;have g:j<ks.length:=(aaH.1 q).1;refine⟨v,?_,hv,ho⟩;simp only[row,aaL,aaZ g,abe,hv,abL]
    refine⟨wX (by simp [row]) fun j k q=>?_,fun j u hu=>?_⟩
    .obtain⟨v,h1,_,h2⟩:=s j k q;exact⟨v,h1,h2⟩
    .have g:j<ks.length:=by have:=(aaH.1 hu).1;simpa [row] using this
     obtain⟨v,h1,h2,_⟩:=s j ks[j] (aax g);rw[hu]at h1;cases h1;exact h2
   refine⟨(List.range b).map row,⟨bj,off,f,?_,ah,Or.inr ⟨ah,fun i r hr=>?_⟩⟩,fun r hr=>?_⟩
   .rw[au ah,aaT,ab5];rfl
   .have hi:i<b:=by have:=(aaH.1 hr).1;simpa using this
    rw[aaL,aaZ hi,abe,aaF]at hr;subst hr;obtain⟨h1,h2⟩:=aE i hi;refine⟨Gr h1,fun j u hu=>?_⟩;rw[aar,aar,ab7];exact nN (h2 j u hu)
   .obtain⟨i,hi,rfl⟩:=abb.1 hr;exact(aE i (abd.1 hi)).1
end
def Qh {P:Program} {s:Spec} (h:s.OK P) (ho:s.own=[]) {W:World} (c:s.pre xs [] (List.replicate s.rd.length (Hl.all W)))
 (hpost:∀ J F,s.post xs [] (List.replicate s.rd.length (Hl.all W)) ((kS 0 s.res).ev J) [] F->(kS 0 s.res).ev J=.bool true) :
 Calls P s.fn xs.toArray W fun e w'=>e=.returned (.bool true)/\Below W.heap.size W w':=by
 have:=h W xs [] (List.replicate s.rd.length (Hl.all W)) (by rw[ho];rfl) aF (fun _ h=>nomatch h) (fun R d=>by rw[(acI.1 d).2];exact Hl.QH W) (fun p _ H _ _ h=>by simp at h) (fun _ h=>nomatch h) c;refine this.mono ?_;rintro e w' ⟨J,Hs',F,rfl,_,a,hp⟩;have f:Hs'=[]:=aaz.1 a.len;subst f;exact⟨by rw[hpost J F hp],⟨a.os,a.tape,a.output,a.size,fun b hb=>a.block b hb (fun _ h=>nomatch h)⟩⟩
section
variable {H:Type} {enc:TypeId×Value->H} {P:Program} {W:World} {base:Nat} {spare:Nat->Bool} {held:Bool} {d:DataW H} {p:List MemPlace}
def yG (w:P.underlying t=some (.slice e)) (hk:qi P dp e=some [.int .u8]) (A:P.cellsOf e=1) (hv:∃ a l c,v=.slice a l c) (h:DataW.Trod enc P W base spare held t v d p) :
 ∃ bs,fL (Hl.all W) v bs/\∀ b∈bs,0<=b/\b<256:=by
 obtain⟨a0,f,m,rfl⟩:=hv;obtain⟨fuel,hf⟩:=h;rcases B8 w hk A hf with h | ⟨a,len,cap,q,hl,hc,u⟩
 .simp only[Value.cells,aaC,Value.slice.injEq,aaP]at h;obtain⟨rfl,rfl,rfl⟩:=h;exact⟨[],⟨-1,0,0,rfl,ah,Or.inl rfl⟩,fun _ h=>nomatch h⟩
 .simp only[Value.cells,aaC,Value.slice.injEq,aaP]at q;obtain⟨rfl,rfl,rfl⟩:=q;rcases acG f with h0 | h0
  .subst h0;obtain⟨x,y,hx,B,_⟩:=rO (some a);exact⟨[],⟨x,y,m,by rw[hx];rfl,B,Or.inl rfl⟩,fun _ h=>nomatch h⟩
  .have g:∀ i,i<f->∃ n,W.cell? (a.add i)=some (.int .u8 n)/\0<=n/\n<256:=by
    intro i hi;obtain⟨v,hv,ho⟩:=u i hi 0 _ rfl;obtain⟨n,rfl,hw⟩:=ho;refine⟨n,?_,Qr hw⟩;rw[show i=i*([Kd.int .u8]:List Kd).length+0 by simp];exact hv
   have r:a.spot=none:=by
    obtain⟨n,hn,_⟩:=g 0 h0;simp only[Addr.add,ab6,abj]at hn;exact vk hn
   obtain⟨bj,off,spot⟩:=a;simp only at r;subst r;have o:∀ j z,((List.range f).map fun i=>cf (W.cell? ⟨bj,off+i,none⟩))[j]?=some z->W.cell? ⟨bj,off+j,none⟩=some (.int .u8 z)/\0<=z/\z<256:=by
    intro j z k;have s:j<f:=by have:=(aaH.1 k).1;simpa using this
    rw[aaL,aaZ s]at k;simp only[abe,aaF]at k;obtain⟨n,hn,hr⟩:=g j s;rw[fE]at hn;rw[hn]at k;have k:n=z:=k;subst k;exact⟨hn,hr⟩
   refine⟨(List.range f).map fun i=>cf (W.cell? ⟨bj,off+i,none⟩),⟨bj,off,m,?_,ah,Or.inr ⟨ah,fun j z k=>?_⟩⟩,fun b hb=>?_⟩
   .rw[au ah,aaT,ab5];rfl
   .simp only[aar];exact nN (o j z k).1
   .obtain⟨j,s⟩:=ada.1 hb;exact(o j b s).2
end
section
variable {H:Type} {enc:TypeId×Value->H} {P:Program} {W:World} {base:Nat} {spare:Nat->Bool} {held:Bool} {d:DataW H} {p:List MemPlace}
end
end Go.Sx
namespace Go.Ex
open Go Go.ChangeShapes Go.WideShapes Go.ChangeAt Go.RowKit Go.Deep
inductive Kt | int (k:IntKind) | bool | other (t:TypeId)
def okK (Φ:Value->TypeId->Prop) (v:Value):Kt->Prop
 | .int k=>∃ n,v=.int k n/\(Lit.int k n).wf=true
 | .bool=>∃ b,v=.bool b
 | .other t=>Φ v t
variable {Φ:Value->TypeId->Prop}
def Ts (Φ:Value->TypeId->Prop):Prop:=∀ v t,Φ v t->∃ a len cap,v=.slice a len cap
def mF (Φ:Value->TypeId->Prop):List Value->List Kt->Prop
 | [],[]=>True
 | v::l,k::m=>okK Φ v k/\mF Φ l m
 | _,_=>False
def qx:∀ {l m:List Value} {a b:List Kt},mF Φ l a->mF Φ m b->mF Φ (l++m) (a++b)
 | [],m,[],b,_,h=>h
 | v::l,m,k::a,b,h,h2=>⟨h.1,qx h.2 h2⟩
 | [],_,_::_,_,h,_=>h.elim
 | _::_,_,[],_,h,_=>h.elim
def Ac:∀ {l:List Value} {a:List Kt},mF Φ l a->∀ (j:Nat) (k:Kt),a[j]?=some k->∃ v,l[j]?=some v/\okK Φ v k
 | _::l,_::a,h,0,k,hk=>by simp at hk;subst hk;exact⟨_,rfl,h.1⟩
 | _::l,_::a,h,j+1,k,hk=>by simpa using Ac h.2 j k (by simpa using hk)
 | [],[],_,j,k,hk=>by simp at hk
 | [],_::_,h,_,_,_=>h.elim
 | _::_,[],h,_,_,_=>h.elim
def tY (f:TypeId->Option (List Kt)):List Field->Nat->Option (List Kt)
 | [],_=>some []
 | fl::l,o=>if fl.offset=o then match f fl.type with
  | some a=>match tY f l (o+a.length)with
   | some b=>some (a++b)
   | none=>none
  | none=>none
  else none
def KE (a:List Kt):Nat->List Kt
 | 0=>[]
 | n+1=>a++KE a n
def oX (P:Program):Nat->TypeId->Option (List Kt)
 | 0,_=>none
 | d+1,t=>match P.underlying t with
  | some (.int k)=>some [.int k]
  | some .bool=>some [.bool]
  | some (.slice _)=>some [.other t]
  | some (.array n e)=>match oX P d e with
   | some a=>if a.length=P.cellsOf e/\P.cellsOf t=n*a.length then some (KE a n)else none
   | none=>none
  | some (.struct fs)=>match tY (fun u=>(oX P d u).bind fun a=>if a.length=P.cellsOf u then some a else none) fs.toList 0 with
   | some a=>if a.length=P.cellsOf t then some a else none
   | none=>none
  | _=>none
section
variable {H:Type} {enc:TypeId×Value->H} {P:Program} {w:World} {base:Nat} {spare:Nat->Bool} {held:Bool}
def uU {g:TypeId->Option (List Kt)} {cs:List Value} : ∀ (l:List Field) (o:Nat) (ks:List Kt),tY g l o=some ks ->
 (∀ (fl:Field) (a:List Kt),fl∈l->g fl.type=some a->mF Φ ((cs.drop fl.offset).take a.length) a)->mF Φ ((cs.drop o).take ks.length) ks
 | [],o,ks,h,_=>by cases h;simp [mF]
 | fl::l,o,ks,h,d=>by
  simp only[tY]at h;split at h
  .rename_i ho;subst ho;split at h
   .rename_i a i;split at h
    .rename_i b hb;cases h;have h1:=d fl a Sx.aF i;have h2:=uU l (fl.offset+a.length) b hb fun f c hf hc=>d f c (aaO _ hf) hc;have e:(cs.drop fl.offset).take (a++b).length=(cs.drop fl.offset).take a.length++(cs.drop (fl.offset+a.length)).take b.length:=by
      rw[aay,adm,acE]
     rw[e];exact qx h1 h2
    .cases h
   .cases h
  .cases h
def AU {cs:List Value} {a:List Kt} : ∀ (n:Nat) (o:Nat),(∀ i,i<n->mF Φ ((cs.drop (o+i*a.length)).take a.length) a)->mF Φ ((cs.drop o).take (n*a.length)) (KE a n)
 | 0,o,_=>by simp [mF,KE]
 | n+1,o,h=>by
  have h0:=h 0 Sx.ah;simp only[ade,abj]at h0;have ih:=AU n (o+a.length) fun i hi=>by
   have:=h (i+1) Sx.ah;rwa[acg,adU,acY (i*a.length),<-ab7]at this
  have e:(cs.drop o).take ((n+1)*a.length)=(cs.drop o).take a.length++(cs.drop (o+a.length)).take (n*a.length):=by
   rw[acg,adU,acY (n*a.length),adm,acE]
  rw[e];exact qx h0 ih
abbrev sG (enc:TypeId×Value->H) (P:Program) (w:World) (base:Nat) (spare:Nat->Bool) (held:Bool) (v:Value) (t:TypeId):Prop:=(∃ e,P.underlying t=some (.slice e))/\∃ m x,DataW.trod enc P w base spare held m t [v]=some x
def oB:Ts (sG enc P w base spare held):=by
 rintro v t ⟨⟨e,hu⟩,m,x,hx⟩;rcases open_slice hu hx with h0 | ⟨a,len,cap,m,n,D,c,b,_⟩
 .have h1:=h0.1;simp only[aaC,aaP]at h1;exact⟨none,0,0,h1⟩
 .simp only[aaC,aaP]at b;exact⟨some a,len,cap,b⟩
def GP:∀ (d:Nat) (t:TypeId) (ks:List Kt) (fuel:Nat) (cs:List Value) (x:DataW H×List MemPlace),oX P d t=some ks->DataW.trod enc P w base spare held fuel t cs=some x->mF (sG enc P w base spare held) cs ks:=by
 intro d
 induction d with
 | zero=>intro t ks fuel cs x h;cases h
 | succ d ih =>
  intro t ks fuel cs x h hx;simp only[oX]at h;split at h
  .rename_i k hu;cases h;obtain⟨n,rfl,_,hw⟩:=DataW.trod_int hu hx;exact⟨⟨n,rfl,hw⟩,trivial⟩
  .rename_i hu;cases h;obtain⟨b,rfl,_⟩:=DataW.trod_bool hu hx;exact⟨⟨b,rfl⟩,trivial⟩
  .rename_i e hu;cases h;rcases open_slice hu hx with h0 | ⟨a,len,cap,m,n,D,q,j,_⟩
   .have h1:=h0.1;subst h1;exact⟨⟨⟨_,hu⟩,fuel,x,hx⟩,trivial⟩
   .subst j;exact⟨⟨⟨_,hu⟩,fuel,x,hx⟩,trivial⟩
  .rename_i n e hu;split at h
   .rename_i a l;split at h
    .rename_i hc;cases h;obtain⟨xs,m,_,_,hl,f,c⟩:=DataW.trod_array hu hx;have key:=AU (cs:=cs) (a:=a) n 0 fun i hi=>by
      have h1:=c i hi;rw[<-hc.1,aax Sx.ah]at h1;rw[aa6];exact ih e a m _ _ l h1
     rw[ac7,<-hc.2,<-hl,abG]at key;exact key
    .cases h
   .cases h
  .rename_i fs hu;split at h
   .rename_i a l;split at h
    .rename_i hc;cases h;obtain⟨xs,m,_,_,hl,f,c⟩:=DataW.trod_struct hu hx;have key:=uU (cs:=cs) fs.toList 0 ks l fun fl b o hb=>by
      obtain⟨i,hi⟩:=abB o;have g:fs[i]?=some fl:=by simpa using hi
      have h1:=c i fl g;cases hk:oX P d fl.type with
      | none=>simp [hk]at hb
      | some b' =>
       simp only[hk,acp]at hb;split at hb
       .rename_i hlen;cases hb;have p:i<xs.length:=by rw[f];exact(abg.1 g).1
        rw[<-hlen,aax p]at h1;exact ih fl.type b m _ _ hk h1
       .cases hb
     rw[ac7,hc,<-hl,abG]at key;exact key
    .cases h
   .cases h
  .cases h
end
end Go.Ex
namespace Go.Sx
open Go Go.ChangeShapes Go.WideShapes Go.ChangeAt Go.RowKit Go.Deep
def LQ:Ex.Kt->Kd
 | .int k=>.int k
 | .bool=>.bool
 | .other _=>.slice
def uL {Φ:Value->TypeId->Prop} (d:Ex.Ts Φ):∀ {row:List Value} {ks:List Ex.Kt},Ex.mF Φ row ks->bo row (ks.map LQ)
 | [],[],_=>trivial
 | v::row,k::ks,h=>by
  refine⟨?_,uL d h.2⟩;have h1:=h.1;cases k with
  | int k=>obtain⟨n,rfl,_⟩:=h1;simp [bz,LQ]
  | bool=>obtain⟨b,rfl⟩:=h1;rfl
  | other t=>obtain⟨a,l,c,rfl⟩:=d v t h1;rfl
 | [],_::_,h=>h.elim
 | _::_,[],h=>h.elim
section
variable {H:Type} {enc:TypeId×Value->H} {P:Program} {W:World} {base:Nat} {spare:Nat->Bool} {held:Bool} {d:DataW H} {p:List MemPlace}
def Sb {t e:TypeId} {ks:List Ex.Kt} {dp:Nat} (C:P.underlying t=some (.slice e)) (hk:Ex.oX P dp e=some ks) (E:P.cellsOf e=ks.length) (hks:0<ks.length) {v:Value} (hv:∃ a l c,v=.slice a l c) (h:DataW.Trod enc P W base spare held t v d p) :
 ∃ rows,bq (Hl.all W) v (ks.map LQ) rows/\∀ row∈rows,Ex.mF (Ex.sG enc P W base spare held) row ks:=by
 obtain⟨a0,b,g,rfl⟩:=hv;obtain⟨fuel,hf⟩:=h;rcases open_slice C hf with h | ⟨a,len,cap,m,n,D,J,k,hb,hl,hm,w,hx,hi⟩
 .have h:=h.1;simp only[Value.cells,aaC,Value.slice.injEq,aaP]at h;obtain⟨rfl,rfl,rfl⟩:=h;exact⟨[],⟨-1,0,0,rfl,Sx.ah,Or.inl rfl⟩,fun _ h=>nomatch h⟩
 .simp only[Value.cells,aaC,Value.slice.injEq,aaP]at k;obtain⟨rfl,rfl,rfl⟩:=k;have F:b<=m:=by rw[w];split<;>omega
  have each:∀ i,i<b->∃ row,row.length=ks.length/\Ex.mF (Ex.sG enc P W base spare held) row ks/\∀ j,j<ks.length->W.cell? ((a.add (i*ks.length)).add j)=row[j]?:=by
   intro i f;obtain⟨o,hc,z⟩:=hi i Sx.ah;rw[E]at hc;obtain⟨_,A,B⟩:=World.cells?_some hc;exact⟨o,A,Ex.GP dp e ks n o _ hk z,fun j q=>B j q⟩
  rcases acG b with h0 | h0
  .subst h0;obtain⟨x,y,hx,G,_⟩:=rO (some a);exact⟨[],⟨x,y,g,by rw[hx];rfl,G,Or.inl rfl⟩,fun _ h=>nomatch h⟩
  .have s:a.spot=none:=by
    obtain⟨row,H,_,hc⟩:=each 0 h0;have:=hc 0 hks;simp only[ade,Addr.add,ab6]at this;rw[aax Sx.ah]at this;exact vk this
   obtain⟨bj,off,spot⟩:=a;simp only at s;subst s
   classical
   let row:Nat->List Value:=fun i=>if h:i<b then(each i h).choose else []
   have aE:∀ i,i<b->(row i).length=ks.length/\Ex.mF (Ex.sG enc P W base spare held) (row i) ks/\∀ j,j<ks.length->W.cell? ⟨bj,off+i*ks.length+j,none⟩=(row i)[j]?:=by
    intro i f;have:=(each i f).choose_spec;simp only[row,dif_pos f];refine⟨this.1,this.2.1,fun j q=>?_⟩;rw[<-this.2.2 j q,fE,fE]
   refine⟨(List.range b).map row,⟨bj,off,g,?_,Sx.ah,Or.inr ⟨Sx.ah,fun i r hr=>?_⟩⟩,fun r hr=>?_⟩
   .rw[au Sx.ah,aaT,ab5];rfl
   .have f:i<b:=by have:=(aaH.1 hr).1;simpa using this
    rw[aaL,aaZ f,abe,aaF]at hr;subst hr;obtain⟨h1,h2,I⟩:=aE i f;refine⟨uL Ex.oB h2,fun j u hu=>?_⟩;rw[aar,aar,aaT];have q:j<ks.length:=by rw[<-h1];exact(aaH.1 hu).1
    exact nN (by rw[I j q];exact hu)
   .obtain⟨i,f,rfl⟩:=abb.1 hr;exact(aE i (abd.1 f)).2.1
end
end Go.Sx
namespace Go.Proofs.YtomdimlnggpgbaaGreatDoor.opP
open Go Go.Sx Go.ChangeShapes Go.WideShapes Go.ChangeAt Go.RowKit Go.Deep
variable {row:List Value}{v:Value}
section
variable {H:Type} {enc:TypeId×Value->H} {W:World} {base b0:Nat} {spare:Nat->Bool} {held:Bool} {r:Reach}
def kh:List Ex.Kt:=[.int .i64,.int .u64]++List.replicate 32 (.int .u8)++[.int .i64,.bool,.int .u64]++List.replicate 16 (.int .u8)++[.other 62]++List.replicate 6 (.int .u64)++List.replicate 32 (.int .u8)++[.int .i64]++List.replicate 32 (.int .u8)
def kp:List Ex.Kt:=kh++[.other 46]
def WU:Ex.oX Tryz.prog 6 67=some kp:=by kernel_rfl
def Tj:∀ {n:Nat} {row:List Value},pP row (List.replicate n (Kd.int .u8))->∃ t:List Int,row=aM t/\t.length=n/\∀ b∈t,0<=b/\b<256
 | 0,[],_=>⟨[],rfl,rfl,fun _ h=>nomatch h⟩
 | n+1,v::row,h=>by
  obtain⟨t,e,hl,hb⟩:=Tj (n:=n) h.2;obtain⟨z,rfl,hw⟩:=h.1;refine⟨z::t,by rw[e];rfl,by rw[abc,hl],fun b a=>?_⟩;rcases aaN.1 a with rfl | a
  .exact Qr hw
  .exact hb b a
def KY:∀ {rows:List (List Value)},(∀ row∈rows,pP row pQ)->∃ T:List (List Int),rows=T.map aM/\∀ t∈T,t.length=16/\∀ b∈t,0<=b/\b<256
 | [],_=>⟨[],rfl,fun _ h=>nomatch h⟩
 | row::rows,h=>by
  obtain⟨T,e,hT⟩:=KY (rows:=rows) fun r hr=>h r (aaO _ hr);obtain⟨t,a,hl,hb⟩:=Tj (n:=16) (h row (aa8 ..));refine⟨t::T,by rw[e,a];rfl,fun x hx=>?_⟩;rcases aaN.1 hx with rfl | hx
  .exact⟨hl,hb⟩
  .exact hT x hx
def MY (ho:Ex.sG enc Tryz.prog W base spare held v 62):∃ (T:List (List Int)) (a:Option Addr) (c:Nat),v=.slice a T.length c/\bq (Hl.all W) v pQ (T.map aM)/\∀ t∈T,t.length=16/\aq t:=by
 obtain⟨a,l,c,rfl⟩:=Ex.oB v _ ho;obtain⟨_,m,x,hx⟩:=ho;obtain⟨rows,f,b⟩:=Ms Tryz.underlying62 (ks:=pQ) (dp:=3) (by kernel_rfl) (by kernel_rfl) aA ⟨a,l,c,rfl⟩ (d:=x.1) (p:=x.2) ⟨m,hx⟩;obtain⟨T,e,hT⟩:=KY b;subst e;have hl:l=(T.map aM).length:=by
  obtain⟨h,i,ac,g,_⟩:=id f;simp only[Value.slice.injEq]at g;exact g.2.1
 rw[aaT]at hl;subst hl;exact⟨T,a,c,rfl,f,hT⟩
def QR (ho:Ex.sG enc Tryz.prog W base spare held v 46):∃ (b:List Int) (a:Option Addr) (c:Nat),v=.slice a b.length c/\fL (Hl.all W) v b/\aq b:=by
 obtain⟨a,l,c,rfl⟩:=Ex.oB v _ ho;obtain⟨_,m,x,hx⟩:=ho;obtain⟨b,e,hb⟩:=yG Tryz.underlying46 (dp:=1) (by kernel_rfl) (by kernel_rfl) ⟨a,l,c,rfl⟩ (d:=x.1) (p:=x.2) ⟨m,hx⟩;have hl:l=b.length:=by
  obtain⟨g,h,ac,f,_⟩:=id e;simp only[Value.slice.injEq]at f;exact f.2.1
 subst hl;exact⟨b,a,c,rfl,e,hb⟩
def PH {Φ:Value->TypeId->Prop} (d:Ex.Ts Φ):∀ {row:List Value} {ks:List Ex.Kt},Ex.mF Φ row ks->∀ v∈row,xH v
 | [],[],_,_,h=>nomatch h
 | x::row,k::ks,h,v,hv=>by
  rcases aaN.1 hv with rfl | hv
  .have h1:=h.1;cases k with
   | int k =>
    obtain⟨n,rfl,hw⟩:=h1;cases k with
    | u8=>exact Qr hw
    | u64=>exact VG hw
    | i64=>exact Um hw
    | _=>trivial
   | bool=>obtain⟨b,rfl⟩:=h1;trivial
   | other t=>obtain⟨a,l,c,rfl⟩:=d _ t h1;trivial
  .exact PH d h.2 v hv
 | [],_::_,h,_,_=>h.elim
 | _::_,[],h,_,_=>h.elim
def BZ {Φ:Value->TypeId->Prop} : ∀ {n:Nat} {l:List Value} {ks:List Ex.Kt},Ex.mF Φ l ks->Ex.mF Φ (l.take n) (ks.take n)
 | 0,_,_,_=>trivial
 | _+1,[],[],_=>trivial
 | n+1,_::_,_::_,h=>⟨h.1,BZ (n:=n) h.2⟩
 | _+1,[],_::_,h=>h.elim
 | _+1,_::_,[],h=>h.elim
def Qf {k n c:Nat} {a:Option Addr} (h:row[k]?=some (.slice a n c)):Er row k=n:=by unfold Er;rw[h]
def WH (ho:Ex.mF (Ex.sG enc Tryz.prog W base spare held) row kh) (b:Er row 53<=20):∃ h,bU (Hl.all W) row h/\h.t.length<=20:=by
 have hok:bo row fu:=by
  have:=uL Ex.oB ho;rwa[show kh.map LQ=fu by kernel_rfl]at this
 obtain⟨v,hv,d⟩:=Ex.Ac ho 53 (.other 62) rfl;obtain⟨T,a,c,rfl,e,hT⟩:=MY d;rw[Qf hv]at b;refine⟨⟨row.set 53 DB,T⟩,⟨hok,PH Ex.oB ho,rfl,?_,by show T.length<=_;omega,hT⟩,b⟩;rw[aaD,hv];exact e
def Xf (ho:Ex.mF (Ex.sG enc Tryz.prog W base spare held) row kp) (f:Er row 53<=20) (e:Er row 125<=2100):∃ c,gY (Hl.all W) (Hl.all W) row c/\c.h.t.length<=20/\c.b.length<=2100:=by
 have hok:bo row rE:=by
  have:=uL Ex.oB ho;rwa[show kp.map LQ=rE by kernel_rfl]at this
 have h1:Ex.mF (Ex.sG enc Tryz.prog W base spare held) (row.take 125) kh:=by
  have:=BZ (n:=125) ho;rwa[show kp.take 125=kh by kernel_rfl]at this
 have g:Er (row.take 125) 53=Er row 53:=by unfold Er;rw[abx ah]
 obtain⟨h,hx,hh⟩:=WH h1 (by rw[g];exact f);obtain⟨v,hv,d⟩:=Ex.Ac ho 125 (.other 46) rfl;obtain⟨b,a,c,rfl,i,hb⟩:=QR d;rw[Qf hv]at e;refine⟨⟨h,b⟩,⟨hok,hx,?_,hb,by show b.length<=_;omega⟩,hh,e⟩;rw[aaD,hv];exact i
end
end Go.Proofs.YtomdimlnggpgbaaGreatDoor.opP
namespace Go.Proofs.YtomdimlnggpgbaaGreatDoor
open Go Go.Sx Go.Pk Go.RowKit
variable {g j:Nat}{W:World}
def SX:List (String×DataW Unit):=[("jalousie/store.errLost",Rows.laid_jalousie_store_errLost),("jalousie/store.errFull",Rows.laid_jalousie_store_errFull),("jalousie/store.errSpent",Rows.laid_jalousie_store_errSpent)]
def gN0:Tryz.prog.globalNamed "jalousie/store.errLost"= some 0:=by kernel_rfl
def gN1:Tryz.prog.globalNamed "jalousie/store.errFull"= some 1:=by kernel_rfl
def gN2:Tryz.prog.globalNamed "jalousie/store.errSpent"= some 2:=by kernel_rfl
def gT0:(Tryz.prog.globals[0]?).map (·.type)=some 107:=by kernel_rfl
def gT1:(Tryz.prog.globals[1]?).map (·.type)=some 107:=by kernel_rfl
def gT2:(Tryz.prog.globals[2]?).map (·.type)=some 107:=by kernel_rfl
def HT:Tryz.prog.cellsOf 319=1:=by kernel_rfl
def Di:Tryz.prog.cellsOf 9=1:=by kernel_rfl
def SN : "*"++ "errors.errorString"= "*errors.errorString":=by decide
def Uf (u:TypeId) (h:Tryz.prog.typeName? 3 u=some "*errors.errorString"):u=299 :=
 typeName_ptr_named (nm:= "errors.errorString") (by rw[SN];kernel_rfl) zzK aA u (by rw[SN];exact h)
set_option maxRecDepth 100000 in
def HU (h:laidMetH Tryz.prog SX W):∃ a,Gl (Hl.all W) a:=by
 rw[MakeChecks.laidMetH_plain _ _ _ zzK]at h;obtain⟨ps,⟨g0,t0,q,f0,p0,q0,Ol,r,f,s,⟨g1,t1,t,f1,p1,q1,H0,w,i,x,⟨g2,t2,y,f2,p2,q2,zx,z,j,A,_,H⟩,e1⟩,I⟩,c,b⟩:=h;obtain rfl:=abp (gN0.symm.trans Ol);obtain rfl:=abp (gN1.symm.trans H0);obtain rfl:=abp (gN2.symm.trans zx);obtain rfl:=abp (gT0.symm.trans r);obtain rfl:=abp (gT1.symm.trans w);obtain rfl:=abp (gT2.symm.trans z);subst H;subst e1;subst I;obtain⟨J⟩:=q;obtain⟨K⟩:=t;obtain⟨L⟩:=y;have B:∀ u v,J=[.iface u v]->Value.okWide Tryz.prog W .any 0 u v:=fun u v e=>by
  subst e;exact(b 0 0 (by simp [MemPlace.row])).2 u v (by simpa using World.var?_cell Ol f 0)
 have C:∀ u v,K=[.iface u v]->Value.okWide Tryz.prog W .any 0 u v:=fun u v e=>by
  subst e;exact(b 1 0 (by simp [MemPlace.row])).2 u v (by simpa using World.var?_cell H0 i 0)
 have D:∀ u v,L=[.iface u v]->Value.okWide Tryz.prog W .any 0 u v:=fun u v e=>by
  subst e;exact(b 2 0 (by simp [MemPlace.row])).2 u v (by simpa using World.var?_cell zx j 0)
 obtain⟨a0,s0,rfl,M,N,O,rfl⟩:=errorString_of_trod Tryz.underlying107 Uf Tryz.underlying299 Tryz.underlying319 rfl rfl Tryz.underlying9 HT Di s B;obtain⟨k,s1,rfl,P,Q,R,rfl⟩:=errorString_of_trod Tryz.underlying107 Uf Tryz.underlying299 Tryz.underlying319 rfl rfl Tryz.underlying9 HT Di x C;obtain⟨l,s2,rfl,S,T,U,rfl⟩:=errorString_of_trod Tryz.underlying107 Uf Tryz.underlying299 Tryz.underlying319 rfl rfl Tryz.underlying9 HT Di A D;obtain⟨b0,V,E⟩:=(b a0.block a0.off (by simp [MemPlace.row])).1;obtain⟨b1,X,F⟩:=(b k.block k.off (by simp [MemPlace.row])).1;obtain⟨b2,Y,G⟩:=(b l.block l.off (by simp [MemPlace.row])).1;have m:a0≠k:=by rintro rfl;simp [MemPlace.row]at c
 have n:a0≠l:=by rintro rfl;simp [MemPlace.row]at c
 have n12:k≠l:=by rintro rfl;simp [MemPlace.row]at c
 have cell:∀ {g:Nat} {v:Value},W.cell? ⟨g,0,none⟩=some v->(Hl.all W).cell g 0=some v:=by
  intro g v h;unfold World.cell? at h;unfold Hl.cell Hl.all;cases hh:W.heap[g]? with
  | none=>simp [hh]at h
  | some o=>cases o<;>simp_all
 have Z:=cell (World.var?_cell Ol f 0);have c1:=cell (World.var?_cell H0 i 0);have c2:=cell (World.var?_cell zx j 0);refine⟨fun g=>if g=mT then a0 else if g=nX then k else l,fun g p=>?_,fun g p=>?_,fun g h p hh d=>?_⟩
 .rcases p with rfl | rfl | rfl
  .exact Z
  .exact c1
  .exact c2
 .rcases p with rfl | rfl | rfl
  .exact⟨b0,V,E⟩
  .exact⟨b1,X,F⟩
  .exact⟨b2,Y,G⟩
 .rcases p with rfl | rfl | rfl<;>rcases hh with rfl | rfl | rfl
  .exact absurd rfl d
  .exact m
  .exact n
  .exact fun e=>m e.symm
  .exact absurd rfl d
  .exact n12
  .exact fun e=>n e.symm
  .exact fun e=>n12 e.symm
  .exact absurd rfl d
def pJ:List (String×DataW Unit):=[("jalousie/jalousieref01.words",Rows.laid_jalousie_jalousieref01_words),("errors.errorType",Rows.laid_errors_errorType),("jalousie/hash.rounds",Rows.laid_jalousie_hash_rounds),("jalousie/store.errLost",Rows.laid_jalousie_store_errLost),("jalousie/store.errFull",Rows.laid_jalousie_store_errFull),("jalousie/store.errSpent",Rows.laid_jalousie_store_errSpent)]
def nN {v:Value} (h:W.cell? ⟨g,j,none⟩=some v):(Hl.all W).cell g j=some v:=by
 unfold World.cell? at h;unfold Hl.cell Hl.all;cases hh:W.heap[g]? with
 | none=>simp [hh]at h
 | some o=>cases o<;>simp_all
def gl6 (h:laidMetH Tryz.prog pJ W):∃ a,Gl (Hl.all W) a:=by
 have b:=h.filter fun x=>x.1== "jalousie/store.errLost"|| x.1== "jalousie/store.errFull"|| x.1== "jalousie/store.errSpent"
 have e:(pJ.filter fun x=>x.1== "jalousie/store.errLost"|| x.1== "jalousie/store.errFull"|| x.1== "jalousie/store.errSpent")=SX:=by kernel_rfl
 rw[e]at b;exact HU b
def OA {n:String} (hn:Tryz.prog.globalNamed n=some g) (a:(Tryz.prog.globals[g]?).map (·.type)=some 172) (h:laidMet Tryz.prog [(n,.agg (D5.map fun z=>.lit (.int .u32 z)))] W):ve (Hl.all W) g:=by
 obtain⟨ps,⟨o,t',cs,fuel,p,q,d,f,hv,hd,_,_⟩,_,_⟩:=h;obtain rfl:=abp (hn.symm.trans d);obtain rfl:=abp (a.symm.trans f);obtain⟨xs,m,_,ex,_,hl,b⟩:=DataW.trod_array Tryz.underlying172 hd;have i:Tryz.prog.cellsOf 170=1:=by kernel_rfl
 have hlen:D5.length=64:=by kernel_rfl
 intro r hr;have e:=b r hr;rw[i,acA,aax ah]at e;obtain⟨z,e1,j,_⟩:=DataW.trod_int Tryz.underlying170 e;have k:(xs.map (·.1))=D5.map fun n=>.lit (.int .u32 n):=(DataW.agg.inj (Prod.mk.inj ex).1).symm;have c:(xs.map (·.1))[r]?=(D5.map fun n=>(DataW.lit (.int .u32 n):DataW Unit))[r]?:=by rw[k]
 rw[aaL,aaL,aax (by omega:r<xs.length),aax (by omega:r<D5.length),j]at c;have l:z=D5.getD r 0:=by
  simp only[abe,aaF,DataW.lit.injEq,Lit.int.injEq,abk]at c;rw[c,List.getD,aax (by omega:r<D5.length)];rfl
 refine nN ?_;rw[World.var?_cell d hv r,<-l];have:cs.toList[r]?=some (.int .u32 z):=by
  have h0:((cs.toList.drop r).take 1)[0]?=some (.int .u32 z):=by rw[e1];rfl
  simpa using h0
 simpa using this
def gNw:Tryz.prog.globalNamed "jalousie/jalousieref01.words"= some 3:=by kernel_rfl
def gNr:Tryz.prog.globalNamed "jalousie/hash.rounds"= some 5:=by kernel_rfl
def gTw:(Tryz.prog.globals[3]?).map (·.type)=some 172:=by kernel_rfl
def gTr:(Tryz.prog.globals[5]?).map (·.type)=some 172:=by kernel_rfl
def Zl (h:laidMetH Tryz.prog pJ W):ve (Hl.all W) 3:=by
 have a:=h.filter fun x=>x.1== "jalousie/jalousieref01.words";have e:(pJ.filter fun x=>x.1== "jalousie/jalousieref01.words")=[("jalousie/jalousieref01.words",.agg (D5.map fun z=>.lit (.int .u32 z)))]:=by kernel_rfl
 rw[e,MakeChecks.laidMetH_plain _ _ _ zzK]at a;exact OA gNw gTw a
def Zk (h:laidMetH Tryz.prog pJ W):ve (Hl.all W) 5:=by
 have a:=h.filter fun x=>x.1== "jalousie/hash.rounds";have e:(pJ.filter fun x=>x.1== "jalousie/hash.rounds")=[("jalousie/hash.rounds",.agg (D5.map fun z=>.lit (.int .u32 z)))]:=by kernel_rfl
 rw[e,MakeChecks.laidMetH_plain _ _ _ zzK]at a;exact OA gNr gTr a
def gNe:Tryz.prog.globalNamed "errors.errorType"= some 4:=by kernel_rfl
def gRt:(Tryz.prog.cutTypes.find? (·.1== "internal/reflectlite.rtype")).map (·.2)=some 243:=by kernel_rfl
def Y8:((List.range Tryz.prog.types.size).filter fun t=>Tryz.prog.rowNamed t [101,114,114,111,114])=[107]:=by kernel_rfl
def Y4 (h:laidMetH Tryz.prog pJ W):(Hl.all W).cell 4 0=some yZ:=by
 have a:=(laidMetH_iff.1 h).2;have e:(pJ.filter fun x=>x.2.handleName?.isSome)=[("errors.errorType",Rows.laid_errors_errorType)]:=by kernel_rfl
 rw[e]at a;obtain⟨name,u,ty,e1,c,d,f,b⟩:=a _ (aaJ.2 rfl);have g:name=[101,114,114,111,114]:=(abp e1).symm;subst g;obtain rfl:=abp (gRt.symm.trans c);have hm:ty∈(List.range Tryz.prog.types.size).filter fun t=>Tryz.prog.rowNamed t [101,114,114,111,114]:=abS.2 ⟨abd.2 d,f⟩;rw[Y8]at hm;obtain rfl:=aaJ.1 hm;have hh:typeHandle Tryz.prog 107=.pointer (some ⟨7,107,none⟩):=by kernel_rfl
 rw[hh]at b;refine nN ?_;unfold yZ;simpa using World.var?_cell gNe b 0
def Lu (os:Os) (args:Array Value):laidMetH Tryz.prog pJ ((World.doorLaid Tryz.prog 400 os).forCall (fun _ _=>0) ⟨#[],args,[]⟩).memory :=
 laidMetH_of_parts3 (fuel:=8) (laidMet_of_run' 8 zzK zzK) zzK zzK
end Go.Proofs.YtomdimlnggpgbaaGreatDoor
