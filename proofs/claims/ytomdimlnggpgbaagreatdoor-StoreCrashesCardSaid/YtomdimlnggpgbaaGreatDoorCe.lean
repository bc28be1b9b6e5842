/- Layer 8: what a fuse cuts off, and what a crash tears, of a log: plain facts. No condition. -/
import Derived.Test.YtomdimlnggpgbaaGreatDoorChecked
import Derived.WalkKit
import Derived.LaidEql
import Derived.Stop.Asserts
import Derived.RowKitTokens
import Derived.Test.YtomdimlnggpgbaaGreatDoorRows
import Derived.Test.YtomdimlnggpgbaaGreatDoorCd
set_option linter.unusedSimpArgs false
set_option linter.unusedVariables false
set_option linter.constructorNameAsVariable false
namespace Go.Proofs.YtomdimlnggpgbaaGreatDoor.D
open Go Go.Sx
def cm (bs:List Int):Prop:=∀ b∈bs,0≤b∧b<256
theorem jV {l m:List Int} {o:Nat} {b:Int} (h:b∈bG l o m):b∈l∨b∈m:=by
 unfold bG at h
 rcases List.mem_append.1 h with h | h
 ·rcases List.mem_append.1 h with h | h
  ·exact Or.inl (List.mem_of_mem_take h)
  ·exact Or.inr h
 ·exact Or.inl (List.mem_of_mem_drop h)
structure j9 (D:DM) (frm:Nat) (n:Int):Prop where
 sure:gG D
 loose:D.loose=[]
 byte:cm D.now
 rng:3≤n∧(frm:Int)+n≤D.n
theorem BQ (D:DM) (frm n:Int) (p:Nat) (hp:p<2):(aM D frm (64*(n-2)) (p:Int)).1.getD 0 0≤(bQ D frm n).getD 0 0:=by
 unfold bQ
 rcases(by omega:p=0∨p=1)with rfl | rfl
 ·show(aM D frm (64*(n-2)) 0).1.getD 0 0≤_
  split<;>omega
 ·show(aM D frm (64*(n-2)) 1).1.getD 0 0≤_
  split<;>omega
theorem j9.head {D:DM} {frm:Nat} {n:Int} (h:j9 D frm n):jF (bQ D frm n)∧(bQ D frm n).getD 1 0≤64*(n-2):=by
 have hm:0≤64*(n-2):=by have:=h.rng.1;omega
 unfold bQ
 split
 ·exact gm h.sure.ok frm hm 1
 ·exact gm h.sure.ok frm hm 0
theorem j9.len {D:DM} {frm:Nat} {n:Int} (h:j9 D frm n):(((aA D frm n).length:Nat):Int)=(bQ D frm n).getD 1 0:=by
 obtain⟨h1,h2⟩:=h.head
 have h0:=h1.2.2.1
 have hn:=h.sure.ok.now
 obtain⟨r1,r2⟩:=h.rng
 have hs:(an D frm n).size=(bQ D frm n).getD 1 0:=rfl
 unfold aA eJ
 rw[List.length_take,List.length_drop,hs]
 omega
theorem j9.at {D:DM} {frm:Nat} {n:Int} (_:j9 D frm n) {t:Nat} (ht:t<(aA D frm n).length):D.now[64*(frm+2)+t]?=(aA D frm n)[t]?:=by
 unfold aA eJ at ht ⊢
 rw[List.length_take]at ht
 rw[List.getElem?_take,if_pos (by omega),List.getElem?_drop]
 congr 1
theorem pW (x:Int):cm (nG x):=by
 intro b hb
 unfold nG at hb
 simp only[List.mem_cons,List.mem_nil_iff,or_false]at hb
 rcases hb with rfl | rfl | rfl | rfl | rfl | rfl | rfl | rfl<;>omega
theorem k8 {h:List Int} (hn:cm (h.drop 2)):cm (aG h):=by
 intro b hb
 unfold aG at hb
 rcases List.mem_append.1 hb with hb | hb
 ·rcases List.mem_append.1 hb with hb | hb
  ·exact pW _ b hb
  ·exact pW _ b hb
 ·exact hn b (List.mem_of_mem_take hb)
theorem tl {all:List Int} (h:cm all) (i:Nat):cm (fW all i):=by
 intro b hb
 unfold fW at hb
 obtain⟨j,_,rfl⟩:=List.mem_map.1 hb
 cases hg:all[64*i+j]? with
 | none=>exact⟨Int.le_refl _,by decide⟩
 | some z=>exact h z (List.mem_of_getElem? hg)
theorem wh (frm:Nat) (all:List Int) (ha:cm all):∀ (f i:Nat) (D:DM),gG D→cm D.now→all.length+64*(frm+2)≤64*D.n→cm (bH frm all f i D).2.now:=by
 intro f
 induction f with
 | zero =>
  intro i D h hb _
  obtain⟨_,_,c,_⟩:=dt h
  show cm (aX D).2.now
  rw[c];exact hb
 | succ f ih =>
  intro i D h hb h2
  by_cases hlt:64*i<all.length
  ·have hi:D.has ((frm:Int)+2+i)=true:=by unfold DM.has;simp only[decide_eq_true_eq];omega
   have hw:=eE h hi (cK all i)
   have e:bH frm all (f+1) i D=bH frm all f (i+1) (gf D ((frm:Int)+2+i) (fW all i)):=by
    show(if 64*i<all.length then _ else _)=_
    rw[if_pos hlt,hw];simp
   rw[e]
   refine ih (i+1) _ (gu h hi (cK all i)) (fun b hb'=>?_) h2
   rcases jV hb' with hb' | hb'
   ·exact hb b hb'
   ·exact tl ha i b hb'
  ·have e:bH frm all (f+1) i D=aX D:=by
    show(if 64*i<all.length then _ else _)=_
    rw[if_neg hlt]
   rw[e]
   obtain⟨_,_,c,_⟩:=dt h
   rw[c];exact hb
theorem xA {D:DM} (h:gG D):(aX D).2.loose=[]:=by
 unfold aX
 rw[if_neg (by rw[h.gone];simp),if_neg (by rw[h.fuse];decide)]
theorem j9.pw {D F:DM} {frm:Nat} {n k size:Int} {nt:List Int} (h:j9 D frm n) (hF:gG F) (hFn:F.n=D.n) (hFb:cm F.now) (hsame:∀ j,j<64*(frm+2)→F.now[j]?=D.now[j]?)
 (hk:k=(bQ D frm n).getD 0 0) (hk2:k<4611686018427387904) (hs:0≤size∧size≤64*(n-2)) (hnt:nt.length=16) (hnb:cm nt) :
 (br F frm ((k+1)::size::nt)).1=0∧j9 (br F frm ((k+1)::size::nt)).2 frm n∧(br F frm ((k+1)::size::nt)).2.n=D.n∧bQ (br F frm ((k+1)::size::nt)).2 frm n=(k+1)::size::nt∧∀ j,64*(frm+2)≤j→(br F frm ((k+1)::size::nt)).2.now[j]?=F.now[j]?:=by
 obtain⟨r1,r2⟩:=h.rng
 have hDn:=h.sure.ok.n
 obtain⟨hok,_⟩:=h.head
 have hk0:0≤k:=by rw[hk];exact hok.2.1.1
 obtain⟨K,rfl⟩:=Int.eq_ofNat_of_zero_le hk0
 obtain⟨N,hN⟩:∃ N,N=((K:Int)+1)::size::nt:=⟨_,rfl⟩
 rw[←hN]
 have hp:((K:Int)+1).tmod 2=(((K+1)%2:Nat):Int):=by
  rw[Int.tmod_eq_emod_of_nonneg (by omega)];omega
 obtain⟨p,hpp⟩:∃ p,p=(K+1)%2:=⟨_,rfl⟩
 have hp2:p<2:=by omega
 obtain⟨b1,b2,b3,b4⟩:=ig (a:=(K:Int)+1) (b:=size) (nt:=nt) ⟨by omega,by omega⟩ ⟨hs.1,by omega⟩ hnt
 rw[←hN]at b1 b2 b3 b4
 have hhl:(aG N++aG N).length=64:=by rw[List.length_append,b1]
 have ei:∀ q:Nat,(frm:Int)+((q:Nat):Int)=((frm+q:Nat):Int):=fun q=>by omega
 have hasF:∀ q:Nat,q<2→F.has ((frm:Int)+(q:Int))=true:=fun q hq=>by unfold DM.has;rw[hFn];simp only[decide_eq_true_eq];omega
 have hasD:∀ q:Nat,q<2→D.has ((frm:Int)+(q:Int))=true:=fun q hq=>by unfold DM.has;simp only[decide_eq_true_eq];omega
 have hw:=eE hF (hasF p hp2) hhl
 obtain⟨G,hG⟩:∃ G,G=gf F ((frm:Int)+(p:Int)) (aG N++aG N):=⟨_,rfl⟩
 rw[←hG]at hw
 have hGs:gG G:=by rw[hG];exact gu hF (hasF p hp2) hhl
 have hGn:G.n=D.n:=by rw[hG,←hFn];rfl
 have hGg:=fU hF.ok (hasF p hp2) hhl
 rw[←hG,ei p,Int.toNat_natCast]at hGg
 obtain⟨s1,s2,s3,s4⟩:=dt hGs
 have htn:br F frm N=aX G:=by
  unfold br
  have e0:N.getD 0 0=(K:Int)+1:=by rw[hN];rfl
  rw[e0,hp,←hpp,hw];simp
 rw[htn]
 have hlp:aM (aX G).2 frm (64*(n-2)) (p:Int)=(N,0):=by
  have hi:(aX G).2.has ((frm:Int)+(p:Int))=true:=by unfold DM.has;rw[s4,hGn];exact hasD p hp2
  have hsec:(aX G).2.aJ ((frm:Int)+(p:Int))=aG N++aG N:=by
   unfold DM.aJ
   rw[s3,ei p,Int.toNat_natCast]
   apply List.ext_getElem?
   intro j
   rw[List.getElem?_take]
   split
   ·rw[List.getElem?_drop,hGg,if_pos (by omega)]
    congr 1;omega
   ·rw[List.getElem?_eq_none (by omega)]
  rw[b5 s2 hi,hsec]
  have ht:(aG N++aG N).take 32=aG N:=by rw[List.take_left' b1]
  have hdr:(aG N++aG N).drop 32=aG N:=by rw[List.drop_left' b1]
  rw[if_pos,ht,b2,hN]
  unfold m5
  rw[ht,hdr,b3,b4]
  exact⟨rfl,by rw[hp,hpp],hs.2⟩
 have hlo:∀ c:Nat,c<2→c≠p→(aM (aX G).2 frm (64*(n-2)) (c:Int)).1.getD 0 0≤K:=by
  intro c hc2 hcp
  have hsec:(aX G).2.aJ ((frm:Int)+(c:Int))=D.aJ ((frm:Int)+(c:Int)):=by
   refine di fun j h1 h2=>?_
   rw[ei c,Int.toNat_natCast]at h1 h2
   rw[s3,hGg,if_neg (by omega)]
   exact hsame j (by omega)
  rw[jJ h.sure s2 (by rw[s4,hGn]) (hasD c hc2) hsec]
  have:=BQ D frm n c hc2
  rw[←hk]at this
  exact this
 have hN0:N.getD 0 0=(K:Int)+1:=by rw[hN];rfl
 refine⟨s1,⟨s2,xA hGs,?_,r1,by rw[s4,hGn];exact r2⟩,by rw[s4,hGn],?_,fun j hj=>?_⟩
 ·intro b hb
  rw[s3,hG]at hb
  rcases jV hb with hb | hb
  ·exact hFb b hb
  ·have hnd:cm (N.drop 2):=by rw[hN];exact hnb
   rcases List.mem_append.1 hb with hb | hb
   ·exact k8 hnd b hb
   ·exact k8 hnd b hb
 ·unfold bQ
  rcases(by omega:p=0∨p=1)with e | e
  ·have h0:aM (aX G).2 frm (64*(n-2)) 0=(N,0):=by rw[e]at hlp;exact hlp
   have h1:(aM (aX G).2 frm (64*(n-2)) 1).1.getD 0 0≤K:=hlo 1 (by omega) (by omega)
   rw[h0]
   show(if N.getD 0 0<_ then _ else N)=N
   rw[hN0,if_neg (by omega)]
  ·have h1:aM (aX G).2 frm (64*(n-2)) 1=(N,0):=by rw[e]at hlp;exact hlp
   have h0:(aM (aX G).2 frm (64*(n-2)) 0).1.getD 0 0≤K:=hlo 0 (by omega) (by omega)
   rw[h1]
   show(if _<N.getD 0 0 then N else _)=N
   rw[hN0,if_pos (by omega)]
 ·rw[s3,hGg,if_neg (by omega)]
theorem j9.append {D:DM} {frm:Nat} {n:Int} (h:j9 D frm n) {b nt:List Int} (hk:(bQ D frm n).getD 0 0<4611686018427387904) (hb:((aA D frm n).length:Int)+b.length≤64*(n-2)) (hnt:nt.length=16) (hbb:cm b) (hnb:cm nt) :
 (av D (an D frm n) (aA D frm n) b nt).e=0∧j9 (av D (an D frm n) (aA D frm n) b nt).D frm n∧(av D (an D frm n) (aA D frm n) b nt).D.n=D.n ∧
 (av D (an D frm n) (aA D frm n) b nt).L=an (av D (an D frm n) (aA D frm n) b nt).D frm n∧(av D (an D frm n) (aA D frm n) b nt).bs=aA (av D (an D frm n) (aA D frm n) b nt).D frm n ∧
 (av D (an D frm n) (aA D frm n) b nt).bs=aA D frm n++b∧(av D (an D frm n) (aA D frm n) b nt).L.serial=(an D frm n).serial+1∧(av D (an D frm n) (aA D frm n) b nt).L.note=nt:=by
 obtain⟨r1,r2⟩:=h.rng
 obtain⟨L,hL⟩:∃ L,L=an D frm n:=⟨_,rfl⟩
 obtain⟨bs,hbs⟩:∃ bs,bs=aA D frm n:=⟨_,rfl⟩
 have hat:=@j9.at D frm n h
 rw[←hbs]at hb hat
 have f1:L.frm=frm:=by rw[hL];rfl
 have f2:L.most=64*(n-2):=by rw[hL];rfl
 have f3:L.serial=(bQ D frm n).getD 0 0:=by rw[hL];rfl
 have f4:L.over=false:=by rw[hL];rfl
 rw[←hL,←hbs]
 have hal:(bs++b).length=bs.length+b.length:=List.length_append
 have hbsb:cm bs:=by
  rw[hbs]
  intro z hz
  unfold aA eJ at hz
  exact h.byte z (List.mem_of_mem_drop (List.mem_of_mem_take hz))
 have hallb:cm (bs++b):=fun z hz=>by
  rcases List.mem_append.1 hz with hz | hz
  ·exact hbsb z hz
  ·exact hbb z hz
 obtain⟨a1,a2,a3,a4,a5⟩:=km frm (bs++b) ((bs++b).length+1) (bs.length/64) D h.sure (by omega) (by omega)
 have a6:=wh frm (bs++b) hallb ((bs++b).length+1) (bs.length/64) D h.sure h.byte (by omega)
 have efr:dc D L.frm (bs++b) bs.length=bH frm (bs++b) ((bs++b).length+1) (bs.length/64) D:=by
  unfold dc
  rw[f1,show(((bs.length:Nat):Int)/64).toNat=bs.length/64 by omega]
 rw[←efr]at a1 a2 a3 a4 a5 a6
 obtain⟨F,hF⟩:∃ F,F=(dc D L.frm (bs++b) bs.length).2:=⟨_,rfl⟩
 rw[←hF]at a2 a3 a4 a5 a6
 obtain⟨t1,t2,t3,t4,t5⟩:=h.pw (F:=F) (k:=L.serial) (size:=(bs++b).length) (nt:=nt) a2 a3 a6 (fun j hj=>a4 j (by omega)) f3 (by rw[f3];exact hk) ⟨by omega,by rw[hal];omega⟩ hnt hnb
 have eN:cQ L (bs++b) nt=(L.serial+1)::((bs++b).length:Int)::nt:=rfl
 rw[←eN]at t1 t2 t3 t4 t5
 rw[←f1]at t1 t2 t3 t4 t5
 have hbec:bt D L (bs++b) nt bs.length=(0,(br F L.frm (cQ L (bs++b) nt)).2):=by
  unfold bt
  rw[if_neg (by rw[a1];simp),←hF,if_neg (by rw[t1];simp)]
 have happ:av D L bs b nt=⟨0,(br F L.frm (cQ L (bs++b) nt)).2,cU L (bs++b) nt,bs++b⟩:=by
  unfold av
  rw[f4,if_neg (by simp),if_neg (by rw[f3];omega),if_neg (by rw[f2];omega),hbec];rfl
 rw[happ]
 obtain⟨G,hG⟩:∃ G,G=(br F L.frm (cQ L (bs++b) nt)).2:=⟨_,rfl⟩
 rw[←hG]at t2 t3 t4 t5
 rw[←hG]
 rw[f1]at t4
 refine⟨rfl,t2,t3,?_,?_,rfl,rfl,rfl⟩
 ·show cU L (bs++b) nt=ko frm (64*(n-2)) (bQ G frm n)
  rw[t4,eN]
  unfold cU ko
  rw[f1,f2,f4];rfl
 ·show bs++b=aA G frm n
  have hsz:(an G frm n).size=((bs++b).length:Nat):=by
   show(bQ G frm n).getD 1 0=_
   rw[t4];rfl
  unfold aA eJ
  rw[hsz,Int.toNat_natCast]
  apply List.ext_getElem?
  intro t
  rw[List.getElem?_take]
  split
  ·rename_i ht
   rw[List.getElem?_drop,show 64*((frm:Int)+2).toNat+t=64*(frm+2)+t by omega,t5 _ (by rw[f1]at *;omega)]
   rcases Nat.lt_or_ge t (64*(bs.length/64))with h1 | h1
   ·rw[a4 _ (by omega),List.getElem?_append_left (by omega)]
    exact(hat (by omega)).symm
   ·exact(a5 t h1 ht).symm
  ·rw[List.getElem?_eq_none (by omega)]
theorem j9.DC {D:DM} {frm:Nat} {n:Int} (h:j9 D frm n):cm ((bQ D frm n).drop 2):=by
 have key:∀ p:Nat,p<2→cm ((aM D frm (64*(n-2)) (p:Int)).1.drop 2):=by
  intro p hp
  obtain⟨r1,r2⟩:=h.rng
  have hi:D.has ((frm:Int)+(p:Int))=true:=by unfold DM.has;simp only[decide_eq_true_eq];omega
  rw[b5 h.sure hi]
  split
  ·intro b hb
   have hb:b∈(((D.aJ ((frm:Int)+(p:Int))).take 32).drop 16).take 16:=hb
   have hb:=List.mem_of_mem_take (List.mem_of_mem_drop (List.mem_of_mem_take hb))
   unfold DM.aJ at hb
   exact h.byte b (List.mem_of_mem_drop (List.mem_of_mem_take hb))
  ·intro b hb
   have hb:b∈List.replicate 16 (0:Int):=hb
   have:=List.eq_of_mem_replicate hb
   omega
 unfold bQ
 split
 ·exact key 1 (by omega)
 ·exact key 0 (by omega)
theorem j9.y9 {D:DM} {frm:Nat} {n:Int} (h:j9 D frm n):(an D frm n).note.length=16:=by
 have:=h.head.1.1
 show((bQ D frm n).drop 2).length=16
 rw[List.length_drop];omega
theorem j9.clear {D:DM} {frm:Nat} {n:Int} (h:j9 D frm n) {bs:List Int} (hk:(bQ D frm n).getD 0 0<4611686018427387904) :
 (az D (an D frm n) bs).e=0∧j9 (az D (an D frm n) bs).D frm n∧(az D (an D frm n) bs).D.n=D.n ∧
 (az D (an D frm n) bs).L=an (az D (an D frm n) bs).D frm n∧(az D (an D frm n) bs).bs=aA (az D (an D frm n) bs).D frm n ∧
 (az D (an D frm n) bs).bs=[]∧(az D (an D frm n) bs).L.serial=(an D frm n).serial+1∧(az D (an D frm n) bs).L.note=(an D frm n).note:=by
 have hn16:=h.y9
 have hnb:cm (an D frm n).note:=h.DC
 obtain⟨r1,r2⟩:=h.rng
 obtain⟨L,hL⟩:∃ L,L=an D frm n:=⟨_,rfl⟩
 rw[←hL]at hn16 hnb
 have f1:L.frm=frm:=by rw[hL];rfl
 have f2:L.most=64*(n-2):=by rw[hL];rfl
 have f3:L.serial=(bQ D frm n).getD 0 0:=by rw[hL];rfl
 have f4:L.over=false:=by rw[hL];rfl
 rw[←hL]
 obtain⟨t1,t2,t3,t4,t5⟩:=h.pw (F:=D) (k:=L.serial) (size:=0) (nt:=L.note) h.sure rfl h.byte (fun j hj=>rfl) f3 (by rw[f3];exact hk) ⟨by omega,by omega⟩ hn16 hnb
 have eN:cQ L [] L.note=(L.serial+1)::0::L.note:=rfl
 rw[←eN]at t1 t2 t3 t4 t5
 rw[←f1]at t1 t2 t3 t4 t5
 have hc:az D L bs=⟨0,(br D L.frm (cQ L [] L.note)).2,cU L [] L.note,[]⟩:=by
  unfold az
  rw[f4,if_neg (by simp),if_neg (by rw[f3];omega),if_pos t1]
 rw[hc]
 obtain⟨G,hG⟩:∃ G,G=(br D L.frm (cQ L [] L.note)).2:=⟨_,rfl⟩
 rw[←hG]at t2 t3 t4
 rw[←hG]
 rw[f1]at t4
 refine⟨rfl,t2,t3,?_,?_,rfl,rfl,rfl⟩
 ·show cU L [] L.note=ko frm (64*(n-2)) (bQ G frm n)
  rw[t4,eN]
  unfold cU ko
  rw[f1,f2,f4];rfl
 ·show []=aA G frm n
  have hsz:(an G frm n).size=0:=by
   show(bQ G frm n).getD 1 0=_
   rw[t4];rfl
  unfold aA eJ
  rw[hsz];rfl
theorem j9.size {D:DM} {frm:Nat} {n:Int} (h:j9 D frm n):((aA D frm n).length:Int)≤64*(n-2)∧(aA D frm n).length≤1048576:=by
 have h1:=h.len
 have h2:=h.head.2
 have h3:=h.rng
 have h4:=h.sure.ok.n
 omega
theorem Dz {m n:Int} {frm:Nat} (hm:0≤m∧m≤16384) (hn:3≤n) (hr:(frm:Int)+n≤m):j9 (cw m) frm n:=by
 have hs:dj m=m.toNat:=by unfold dj;omega
 have hnn:(cw m).n=m.toNat:=hs
 refine⟨sX m,rfl,fun b hb=>?_,hn,by rw[hnn];omega⟩
 have:=List.eq_of_mem_replicate hb
 omega
theorem jx (a b:List Int) (k:Int) {j:Nat} (h:j<64):(bZ a b k)[j]?=some (if stays k j then b.getD j 0 else a.getD j 0):=by
 unfold bZ
 rw[List.getElem?_map,List.getElem?_range h,Option.map_some]
theorem mr (a b:List Int) (k:Int) {j:Nat} (h:j<64):(bZ a b k).getD j 0=if stays k j then b.getD j 0 else a.getD j 0:=by
 rw[List.getD_eq_getElem?_getD,jx a b k h];rfl
theorem zQ {X:List Int} (h:X.length=32) {j:Nat} (hj:j<32):(X++X).getD j 0=X.getD j 0:=by
 rw[List.getD_eq_getElem?_getD,List.getD_eq_getElem?_getD,List.getElem?_append_left (by omega)]
theorem zP {X:List Int} (h:X.length=32) {j:Nat} : (X++X).getD (j+32) 0=X.getD j 0:=by
 rw[List.getD_eq_getElem?_getD,List.getD_eq_getElem?_getD,List.getElem?_append_right (by omega),h,Nat.add_sub_cancel]
theorem pL {S X:List Int} (hS:S.length=64) (hX:X.length=32) (h1:∀ j,j<32→S.getD j 0=X.getD j 0) (h2:∀ j,j<32→S.getD (j+32) 0=X.getD j 0):S=X++X:=by
 apply List.ext_getElem?
 intro j
 have key:j<64→S.getD j 0=(X++X).getD j 0:=by
  intro hj
  rcases Nat.lt_or_ge j 32 with h | h
  ·rw[h1 j h,zQ hX h]
  ·obtain⟨i,rfl⟩:∃ i,j=i+32:=⟨j-32,by omega⟩
   rw[h2 i (by omega),zP hX]
 rcases Nat.lt_or_ge j 64 with h | h
 ·have e:=key h
  rw[List.getD_eq_getElem?_getD,List.getD_eq_getElem?_getD,List.getElem?_eq_getElem (by omega),List.getElem?_eq_getElem (by rw[List.length_append];omega)]at e
  rw[List.getElem?_eq_getElem (by omega),List.getElem?_eq_getElem (by rw[List.length_append];omega)]
  exact congrArg some e
 ·rw[List.getElem?_eq_none (by omega),List.getElem?_eq_none (by rw[List.length_append];omega)]
theorem BZ {X h:List Int} (hX:X.length=32) (hh:h.length=32) (k:Int) (e:(bZ (X++X) (h++h) k).take 32=(bZ (X++X) (h++h) k).drop 32):bZ (X++X) (h++h) k=X++X∨bZ (X++X) (h++h) k=h++h:=by
 have hl:(bZ (X++X) (h++h) k).length=64:=b7 _ _ _
 have lk:∀ j,j<32→(bZ (X++X) (h++h) k).getD j 0=(bZ (X++X) (h++h) k).getD (j+32) 0:=by
  intro j hj
  have e1:((bZ (X++X) (h++h) k).take 32)[j]?=((bZ (X++X) (h++h) k).drop 32)[j]?:=congrArg (fun z:List Int=>z[j]?) e
  rw[List.getElem?_take,if_pos hj,List.getElem?_drop]at e1
  rw[List.getD_eq_getElem?_getD,List.getD_eq_getElem?_getD,e1,Nat.add_comm 32 j]
 have lo:∀ j,j<32→(bZ (X++X) (h++h) k).getD j 0=if stays k j then h.getD j 0 else X.getD j 0:=fun j hj=>by
  rw[mr _ _ _ (by omega),zQ hX hj,zQ hh hj]
 have hi:∀ j,j<32→(bZ (X++X) (h++h) k).getD (j+32) 0=if stays k (j+32)then h.getD j 0 else X.getD j 0:=fun j hj=>by
  rw[mr _ _ _ (by omega),zP hX,zP hh]
 have four:(∀ j,j<32→stays k j=false)∨(∀ j,j<32→stays k (j+32)=false)∨(∀ j,j<32→stays k j=true)∨(∀ j,j<32→stays k (j+32)=true):=by
  by_cases h1:k<128
  ·by_cases h2:k≤32
   ·refine Or.inr (Or.inl fun j hj=>?_)
    unfold stays;rw[if_pos h1];simp;omega
   ·refine Or.inr (Or.inr (Or.inl fun j hj=>?_))
    unfold stays;rw[if_pos h1];simp;omega
  ·by_cases h2:64-(k-128)≤32
   ·refine Or.inr (Or.inr (Or.inr fun j hj=>?_))
    unfold stays;rw[if_neg h1];simp;omega
   ·refine Or.inl fun j hj=>?_
    unfold stays;rw[if_neg h1];simp;omega
 rcases four with f | f | f | f
 ·refine Or.inl (pL hl hX (fun j hj=>?_) (fun j hj=>?_))
  ·rw[lo j hj,f j hj];rfl
  ·rw[←lk j hj,lo j hj,f j hj];rfl
 ·refine Or.inl (pL hl hX (fun j hj=>?_) (fun j hj=>?_))
  ·rw[lk j hj,hi j hj,f j hj];rfl
  ·rw[hi j hj,f j hj];rfl
 ·refine Or.inr (pL hl hh (fun j hj=>?_) (fun j hj=>?_))
  ·rw[lo j hj,f j hj];rfl
  ·rw[←lk j hj,lo j hj,f j hj];rfl
 ·refine Or.inr (pL hl hh (fun j hj=>?_) (fun j hj=>?_))
  ·rw[lk j hj,hi j hj,f j hj];rfl
  ·rw[hi j hj,f j hj];rfl
theorem B0 (a b c:List Int) (k:Int):bZ (bZ a b k) c k=bZ a c k:=by
 apply List.ext_getElem?
 intro j
 rcases Nat.lt_or_ge j 64 with h | h
 ·rw[jx _ _ _ h,jx _ _ _ h,mr _ _ _ h]
  cases stays k j<;>rfl
 ·rw[List.getElem?_eq_none (by rw[b7];omega),List.getElem?_eq_none (by rw[b7];omega)]
theorem lH {a:List Int} (ha:a.length=64) (k:Int):bZ a a k=a:=by
 apply List.ext_getElem?
 intro j
 rcases Nat.lt_or_ge j 64 with h | h
 ·rw[jx _ _ _ h]
  rw[List.getElem?_eq_getElem (by omega),List.getD_eq_getElem?_getD,List.getElem?_eq_getElem (by omega)]
  cases stays k j<;>rfl
 ·rw[List.getElem?_eq_none (by rw[b7];omega),List.getElem?_eq_none (by omega)]
structure ka (D:DM) (B:Nat):Prop where
 ok:D.ok
 byte:cm D.now
 old:∀ p∈D.loose,cm p.2∧∀ j,j<64→64*p.1.toNat+j<B→p.2[j]?=D.now[64*p.1.toNat+j]?
theorem ka.gone {D:DM} {B:Nat} (h:ka D B):ka {D with gone:=true} B:=⟨⟨h.ok.now,h.ok.n,h.ok.f0,h.ok.f1,h.ok.loose⟩,h.byte,h.old⟩
theorem xr {D:DM} (h:cm D.now) (i:Int):cm (D.aJ i):=fun b hb=>by
 unfold DM.aJ at hb
 exact h b (List.mem_of_mem_drop (List.mem_of_mem_take hb))
theorem se {D:DM} (hg:D.gone=false) {i:Int} (hi:D.has i=true) {bs:List Int} (hb:bs.length=64):bV D i bs=(5,{D with gone:=true})∨bV D i bs=(0,gf D i bs):=by
 unfold bV
 rw[if_neg (by rw[hi,hb];simp),if_neg (by rw[hg];simp)]
 split
 ·exact Or.inl rfl
 ·exact Or.inr rfl
theorem mY {D:DM} (h:D.ok):-1≤(if 0<D.fuse then D.fuse-1 else D.fuse)∧(if 0<D.fuse then D.fuse-1 else D.fuse)≤9223372036854775807:=by
 have:=h.f0
 have:=h.f1
 split<;>omega
theorem tv {D:DM} (h:D.ok) (hg:D.gone=false):aX D=(5,{D with gone:=true})∨∃ E:DM,aX D=(0,E)∧E.ok∧E.gone=false∧E.now=D.now∧E.n=D.n∧E.loose=[]:=by
 unfold aX
 rw[if_neg (by rw[hg];simp)]
 split
 ·exact Or.inl rfl
 ·refine Or.inr ⟨_,rfl,⟨h.now,h.n,(mY h).1,(mY h).2,fun p hp=>by cases hp⟩,hg,rfl,rfl,rfl⟩
theorem th {D:DM} {B:Nat} (h:ka D B) {i:Int} (hi:D.has i=true) {bs:List Int} (hb:bs.length=64) (hbb:cm bs) (hs:∀ j,j<64→64*i.toNat+j<B→bs[j]?=D.now[64*i.toNat+j]?) :
 ka (gf D i bs) B∧∀ j,j<B→(gf D i bs).now[j]?=D.now[j]?:=by
 have gp:=fU h.ok hi hb
 have same:∀ j,j<B→(gf D i bs).now[j]?=D.now[j]?:=by
  intro j hj
  rw[gp]
  split
  ·rename_i hh
   rw[hs _ (by omega) (by omega)]
   congr 1;omega
  ·rfl
 refine⟨⟨pJ h.ok hi hb,fun b hb'=>?_,fun p hp=>?_⟩,same⟩
 ·rcases jV hb' with hb' | hb'
  ·exact h.byte b hb'
  ·exact hbb b hb'
 ·have hp:p∈(if(dP i (lv D.loose) 0).isSome then D.loose else D.loose++[(i,D.aJ i)]):=hp
  have hor:p∈D.loose∨p=(i,D.aJ i):=by
   split at hp
   ·exact Or.inl hp
   ·rcases List.mem_append.1 hp with hp | hp
    ·exact Or.inl hp
    ·exact Or.inr (by simpa using hp)
  rcases hor with hp | rfl
  ·obtain⟨a,b⟩:=h.old p hp
   exact⟨a,fun j hj hB=>by rw[same _ hB];exact b j hj hB⟩
  ·refine⟨xr h.byte i,fun j hj hB=>?_⟩
   rw[same _ hB]
   exact mh h.ok hi hj
theorem zl {D:DM} (i:Int) (bs:List Int):(gf D i bs).loose.length≤D.loose.length+1:=by
 show(if(dP i (lv D.loose) 0).isSome then D.loose else D.loose++[(i,D.aJ i)]).length≤_
 split<;>simp
theorem yu (frm:Nat) (all:List Int) (ha:cm all) (B:Nat) (hB:B≤64*(frm+2)+all.length):∀ (f i:Nat) (D:DM),ka D B→D.gone=false→all.length+64*(frm+2)≤64*D.n→all.length+1≤f+i →
 (∀ t,64*i≤t→64*(frm+2)+t<B→D.now[64*(frm+2)+t]?=all[t]?) →
 ka (bH frm all f i D).2 B∧(bH frm all f i D).2.n=D.n∧(bH frm all f i D).2.loose.length≤D.loose.length+f∧(∀ j,j<B→(bH frm all f i D).2.now[j]?=D.now[j]?)∧(∀ j,j<64*(frm+2+i)→(bH frm all f i D).2.now[j]?=D.now[j]?) ∧
 (((bH frm all f i D).1=0∧(bH frm all f i D).2.gone=false∧(bH frm all f i D).2.loose=[]∧∀ t,64*i≤t→t<all.length→(bH frm all f i D).2.now[64*(frm+2)+t]?=all[t]?)∨(bH frm all f i D).1=5):=by
 intro f
 have sync:∀ (g i:Nat) (D:DM),ka D B→D.gone=false→all.length≤64*i →
  ka (aX D).2 B∧(aX D).2.n=D.n∧(aX D).2.loose.length≤D.loose.length+g∧(∀ j,j<B→(aX D).2.now[j]?=D.now[j]?)∧(∀ j,j<64*(frm+2+i)→(aX D).2.now[j]?=D.now[j]?) ∧
  (((aX D).1=0∧(aX D).2.gone=false∧(aX D).2.loose=[]∧∀ t,64*i≤t→t<all.length→(aX D).2.now[64*(frm+2)+t]?=all[t]?)∨(aX D).1=5):=by
  intro g i D h hg hi
  rcases tv h.ok hg with e | ⟨E,e,o1,o2,o3,o4,o5⟩
  ·rw[e]
   exact⟨h.gone,rfl,by show D.loose.length≤_;omega,fun j _=>rfl,fun j _=>rfl,Or.inr rfl⟩
  ·rw[e]
   exact⟨⟨o1,by rw[o3];exact h.byte,fun p hp=>by rw[o5]at hp;cases hp⟩,o4,by rw[o5];simp,fun j _=>by rw[o3],fun j _=>by rw[o3],Or.inl ⟨rfl,o2,o5,fun t h1 h2=>by omega⟩⟩
 induction f with
 | zero =>
  intro i D h hg h1 h2 h3
  exact sync 0 i D h hg (by omega)
 | succ f ih =>
  intro i D h hg h1 h2 h3
  by_cases hlt:64*i<all.length
  ·have hi:D.has ((frm:Int)+2+i)=true:=by unfold DM.has;simp only[decide_eq_true_eq];omega
   have et:((frm:Int)+2+i).toNat=frm+2+i:=by omega
   have e0:bH frm all (f+1) i D=if(bV D (frm+2+i) (fW all i)).1≠0 then bV D (frm+2+i) (fW all i)else bH frm all f (i+1) (bV D (frm+2+i) (fW all i)).2:=by
    show(if 64*i<all.length then _ else _)=_
    rw[if_pos hlt]
   rcases se hg hi (cK all i)with e | e
   ·rw[e]at e0
    have e0:bH frm all (f+1) i D=(5,{D with gone:=true}):=by rw[e0,if_pos (by simp)]
    rw[e0]
    exact⟨h.gone,rfl,by show D.loose.length≤_;omega,fun j _=>rfl,fun j _=>rfl,Or.inr rfl⟩
   ·rw[e]at e0
    have e0:bH frm all (f+1) i D=bH frm all f (i+1) (gf D (frm+2+i) (fW all i)):=by rw[e0,if_neg (by simp)]
    rw[e0]
    obtain⟨hS,hsame⟩:=th h hi (cK all i) (tl ha i) (fun j hj hjB=>by
     rw[et]at hjB ⊢
     rw[rE all i j hj (by omega),show 64*(frm+2+i)+j=64*(frm+2)+(64*i+j)by omega]
     exact(h3 _ (by omega) (by omega)).symm)
    have gp:=fU h.ok hi (cK all i)
    obtain⟨a1,a2,a3,a4,a5,a6⟩:=ih (i+1) _ hS rfl h1 (by omega) (fun t ht htB=>by rw[hsame _ htB];exact h3 t (by omega) htB)
    have hlo:=zl (D:=D) (frm+2+i) (fW all i)
    refine⟨a1,a2,by omega,fun j hj=>by rw[a4 j hj,hsame j hj],fun j hj=>by rw[a5 j (by omega),gp,et,if_neg (by omega)],?_⟩
    rcases a6 with ⟨b1,b2,b3,b4⟩ | b
    ·refine Or.inl ⟨b1,b2,b3,fun t ht ht'=>?_⟩
     rcases Nat.lt_or_ge t (64*(i+1))with h4 | h4
     ·rw[a5 _ (by omega),gp,et,if_pos (by omega),rE all i _ (by omega) (by omega)]
      congr 1;omega
     ·exact b4 t h4 ht'
    ·exact Or.inr b
  ·have e:bH frm all (f+1) i D=aX D:=by
    show(if 64*i<all.length then _ else _)=_
    rw[if_neg hlt]
   rw[e]
   exact sync (f+1) i D h hg (by omega)
theorem B4 {loose:List (Int×List Int)} {k:Int} (h:∃ p∈loose,p.1=k):(k,fp loose k)∈loose:=by
 unfold fp
 cases hf:loose.find? (fun p=>p.1==k)with
 | none =>
  obtain⟨p,hp,e⟩:=h
  have:=List.find?_eq_none.1 hf p hp
  simp [e]at this
 | some p =>
  have h1:=List.mem_of_find?_eq_some hf
  have h2:=List.find?_some hf
  have h2:p.1=k:=by simpa using h2
  obtain⟨a,b⟩:=p
  simp only at h2
  subst h2
  exact h1
theorem l5 {D:DM} {B:Nat} (h:ka D B) (fate:List Int):gG (aZ D fate)∧(aZ D fate).loose=[]∧cm (aZ D fate).now∧(aZ D fate).n=D.n∧∀ j,j<B→(aZ D fate).now[j]?=D.now[j]?:=by
 have hks:∀ k∈cP (D.loose.map (·.1)),∃ p∈D.loose,p.1=k:=fun k hk=>by
  obtain⟨p,hp,e⟩:=List.mem_map.1 (lF.1 hk)
  exact⟨p,hp,e⟩
 have hrg:∀ k∈cP (D.loose.map (·.1)),0≤k∧k<D.n:=fun k hk=>by
  obtain⟨p,hp,rfl⟩:=hks k hk
  exact(h.ok.loose p hp).2
 have key:∀ i,i≤(cP (D.loose.map (·.1))).length→cm (dL D.loose fate D.now (cP (D.loose.map (·.1))) i)∧∀ j,j<B→(dL D.loose fate D.now (cP (D.loose.map (·.1))) i)[j]?=D.now[j]?:=by
  intro i
  induction i with
  | zero=>exact fun _=>⟨h.byte,fun j _=>rfl⟩
  | succ i ih =>
   intro hi
   obtain⟨ib,ij⟩:=ih (by omega)
   have hm:(cP (D.loose.map (·.1))).getD i 0∈cP (D.loose.map (·.1)):=by
    rw[List.getD_eq_getElem?_getD,List.getElem?_eq_getElem (by omega),Option.getD_some]
    exact List.getElem_mem _
   have hl:=fi h.ok fate _ hrg i (by omega)
   obtain⟨k,hk⟩:∃ k,k=(cP (D.loose.map (·.1))).getD i 0:=⟨_,rfl⟩
   rw[←hk]at hm
   obtain⟨cur,hcur⟩:∃ c,c=dL D.loose fate D.now (cP (D.loose.map (·.1))) i:=⟨_,rfl⟩
   rw[←hcur]at ib ij hl
   have e:dL D.loose fate D.now (cP (D.loose.map (·.1))) (i+1)=bG cur (64*k.toNat) (bZ (fp D.loose k) (fX cur k) (bl fate i)):=by rw[hk,hcur];rfl
   rw[e]
   obtain⟨ob,oj⟩:=h.old _ (B4 (hks k hm))
   have ob:cm (fp D.loose k):=ob
   have oj:∀ j,j<64→64*k.toNat+j<B→(fp D.loose k)[j]?=D.now[64*k.toNat+j]?:=oj
   obtain⟨k0,k1⟩:=hrg k hm
   have hsg:∀ j,j<64→(fX cur k)[j]?=cur[64*k.toNat+j]?:=fun j hj=>by
    unfold fX
    rw[List.getElem?_take_of_lt hj,List.getElem?_drop]
   refine⟨fun b hb=>?_,fun j hj=>?_⟩
   ·rcases jV hb with hb | hb
    ·exact ib b hb
    ·unfold bZ at hb
     obtain⟨j,hj,rfl⟩:=List.mem_map.1 hb
     have gd:∀ l:List Int,cm l→0≤l.getD j 0∧l.getD j 0<256:=fun l hl=>by
      rw[List.getD_eq_getElem?_getD]
      cases hg:l[j]? with
      | none=>exact⟨Int.le_refl _,by decide⟩
      | some z=>exact hl z (List.mem_of_getElem? hg)
     split
     ·exact gd _ fun z hz=>ib z (List.mem_of_mem_drop (List.mem_of_mem_take hz))
     ·exact gd _ ob
   ·rw[Sx.iB (by rw[b7,hl];omega),b7]
    split
    ·rename_i hh
     have hq:j-64*k.toNat<64:=by omega
     have h1:=ij j hj
     have h2:=oj (j-64*k.toNat) hq (by omega)
     have h3:=hsg (j-64*k.toNat) hq
     rw[show 64*k.toNat+(j-64*k.toNat)=j by omega]at h2 h3
     have hlt:j<D.now.length:=by rw[h.ok.now];omega
     rw[jx _ _ _ hq,List.getElem?_eq_getElem hlt,List.getD_eq_getElem?_getD,List.getD_eq_getElem?_getD,h2,h3,h1,List.getElem?_eq_getElem hlt]
     cases stays (bl fate i) (j-64*k.toNat)<;>rfl
    ·exact ij j hj
 have hl:(cP (D.loose.map (·.1))).length=D.loose.length:=by rw[jU,List.length_map]
 obtain⟨a,b⟩:=key D.loose.length (by omega)
 exact⟨⟨sD h.ok fate,rfl,rfl⟩,rfl,a,rfl,b⟩
theorem BV (x:Int):cP [x]=[x]:=List.mergeSort_singleton x
theorem Bb {D:DM} {i:Int} {old:List Int} (h:D.loose=[(i,old)]) (fate:List Int):(aZ D fate).now=bG D.now (64*i.toNat) (bZ old (fX D.now i) (bl fate 0)):=by
 show dL D.loose fate D.now (cP (D.loose.map (·.1))) D.loose.length=_
 rw[h]
 show dL [(i,old)] fate D.now (cP [i]) 1=_
 rw[BV]
 show bG D.now (64*i.toNat) (bZ (fp [(i,old)] i) (fX D.now i) (bl fate 0))=_
 have e:fp [(i,old)] i=old:=by unfold fp;simp
 rw[e]
theorem tm {D:DM} {i:Int} {S:List Int} (hS:S.length=64) (h:∀ j,j<64→D.now[64*i.toNat+j]?=S[j]?):D.aJ i=S:=by
 unfold DM.aJ
 apply List.ext_getElem?
 intro j
 rw[List.getElem?_take]
 split
 ·rename_i hj
  rw[List.getElem?_drop,h j hj]
 ·rw[List.getElem?_eq_none (by omega)]
structure eI (D:DM) (frm:Nat) (n fk:Int) (s:Nat):Prop where
 mir:j9 D frm n
 ser:(bQ D frm n).getD 0 0=s
 cur:∃ C:List Int,C.length=32∧D.aJ ((frm:Int)+((s%2:Nat):Int))=C++C∧cY (C.take 8)=s
 at_:(aM D frm (64*(n-2)) ((s%2:Nat):Int)).1=bQ D frm n
 oth:∃ X Y:List Int,X.length=32∧Y.length=32∧D.aJ ((frm:Int)+(((s+1)%2:Nat):Int))=bZ (X++X) (Y++Y) fk ∧
  ((bZ (X++X) (Y++Y) fk).take 32=(bZ (X++X) (Y++Y) fk).drop 32→bZ (X++X) (Y++Y) fk=X++X)∧cY (X.take 8)≤s
theorem DL {D:DM} (h:gG D) {frm:Nat} {most:Int} {s:Nat} (hi:D.has ((frm:Int)+(((s+1)%2:Nat):Int))=true) {X S:List Int} (hX:X.length=32) (hS:D.aJ ((frm:Int)+(((s+1)%2:Nat):Int))=S) (hl:S.take 32=S.drop 32→S=X++X) (hb:cY (X.take 8)≤s) :
 (aM D frm most (((s+1)%2:Nat):Int)).1.getD 0 0<s∨(aM D frm most (((s+1)%2:Nat):Int)).1.getD 0 0=0:=by
 rw[b5 h hi,hS]
 split
 ·rename_i hg
  obtain⟨g1,g2,g3⟩:=hg
  have e:=hl g1
  have ht:S.take 32=X:=by rw[e,List.take_left' hX]
  rw[ht]at g2
  refine Or.inl ?_
  show(oK (S.take 32)).getD 0 0<_
  rw[ht]
  show cY (X.take 8)<_
  rcases Int.lt_or_le (cY (X.take 8)) s with h1 | h1
  ·exact h1
  ·have e2:cY (X.take 8)=s:=by omega
   rw[e2,Int.tmod_eq_emod_of_nonneg (by omega)]at g2
   omega
 ·exact Or.inr rfl
theorem wX {D:DM} {frm:Nat} {n:Int} {s:Nat} {H:List Int} (hc:(aM D frm (64*(n-2)) ((s%2:Nat):Int)).1=H) (h0:H.getD 0 0=s)
 (ho:(aM D frm (64*(n-2)) (((s+1)%2:Nat):Int)).1.getD 0 0<s∨(aM D frm (64*(n-2)) (((s+1)%2:Nat):Int)).1.getD 0 0=0):bQ D frm n=H:=by
 unfold bQ
 rcases Nat.mod_two_eq_zero_or_one s with e | e
 ·have e':(s+1)%2=1:=by omega
  rw[e]at hc
  rw[e']at ho
  have hc:(aM D frm (64*(n-2)) 0).1=H:=hc
  have ho:(aM D frm (64*(n-2)) 1).1.getD 0 0<s∨(aM D frm (64*(n-2)) 1).1.getD 0 0=0:=ho
  rw[hc,h0,if_neg (by omega)]
 ·have e':(s+1)%2=0:=by omega
  rw[e]at hc
  rw[e']at ho
  have hc:(aM D frm (64*(n-2)) 1).1=H:=hc
  have ho:(aM D frm (64*(n-2)) 0).1.getD 0 0<s∨(aM D frm (64*(n-2)) 0).1.getD 0 0=0:=ho
  rw[hc,h0,if_pos (by omega)]
theorem eI.has {D:DM} {frm:Nat} {n:Int} (h:j9 D frm n) {q:Nat} (hq:q<2):D.has ((frm:Int)+(q:Int))=true:=by
 obtain⟨r1,r2⟩:=h.rng
 unfold DM.has;simp only[decide_eq_true_eq];omega
theorem eI.stay {D E:DM} {frm:Nat} {n fk:Int} {s:Nat} (h:eI D frm n fk s) (hM:j9 E frm n)
 (hsame:∀ j,64*frm≤j→j<64*(frm+2)+(aA D frm n).length→¬(64*(frm+(s+1)%2)≤j∧j<64*(frm+(s+1)%2)+64)→E.now[j]?=D.now[j]?)
 {X Y:List Int} (hX:X.length=32) (hY:Y.length=32) (hS:E.aJ ((frm:Int)+(((s+1)%2:Nat):Int))=bZ (X++X) (Y++Y) fk)
 (hl:(bZ (X++X) (Y++Y) fk).take 32=(bZ (X++X) (Y++Y) fk).drop 32→bZ (X++X) (Y++Y) fk=X++X) (hb:cY (X.take 8)≤s) :
 eI E frm n fk s∧bQ E frm n=bQ D frm n∧aA E frm n=aA D frm n:=by
 obtain⟨r1,r2⟩:=h.mir.rng
 have hsec:E.aJ ((frm:Int)+((s%2:Nat):Int))=D.aJ ((frm:Int)+((s%2:Nat):Int)):=by
  refine di fun j h1 h2=>hsame j (by omega) (by omega) (by omega)
 have hiD:=eI.has h.mir (q:=s%2) (by omega)
 have hiE:=eI.has hM (q:=s%2) (by omega)
 have hrd:aM E frm (64*(n-2)) ((s%2:Nat):Int)=aM D frm (64*(n-2)) ((s%2:Nat):Int):=by
  rw[b5 h.mir.sure hiD,b5 hM.sure hiE,hsec]
 have hc:(aM E frm (64*(n-2)) ((s%2:Nat):Int)).1=bQ D frm n:=by rw[hrd];exact h.at_
 have hH:bQ E frm n=bQ D frm n:=wX hc h.ser (DL hM.sure (eI.has hM (by omega)) hX hS hl hb)
 have hB:aA E frm n=aA D frm n:=by
  have hlen:=h.mir.len
  have hsz:(an E frm n).size=(an D frm n).size:=by
   show(bQ E frm n).getD 1 0=(bQ D frm n).getD 1 0
   rw[hH]
  have hsD:(an D frm n).size=((aA D frm n).length:Nat):=hlen.symm
  unfold aA eJ
  rw[hsz,hsD,Int.toNat_natCast]
  apply List.ext_getElem?
  intro t
  rw[List.getElem?_take,List.getElem?_take]
  split
  ·rename_i ht
   rw[List.getElem?_drop,List.getElem?_drop]
   exact hsame _ (by omega) (by omega) (by omega)
  ·rfl
 refine⟨⟨hM,by rw[hH];exact h.ser,?_,by rw[hH];exact hc,X,Y,hX,hY,hS,hl,hb⟩,hH,hB⟩
 obtain⟨C,c1,c2,c3⟩:=h.cur
 exact⟨C,c1,by rw[hsec];exact c2,c3⟩
theorem eI.next {D E:DM} {frm:Nat} {n fk:Int} {s:Nat} (h:eI D frm n fk s) (hM:j9 E frm n) (hs:s<4611686018427387904) {all nt:List Int} (ha:(all.length:Int)≤64*(n-2)) (hnt:nt.length=16)
 (hsame:∀ j,64*(frm+s%2)≤j→j<64*(frm+s%2)+64→E.now[j]?=D.now[j]?)
 (hall:∀ t,t<all.length→E.now[64*(frm+2)+t]?=all[t]?)
 (hS:E.aJ ((frm:Int)+(((s+1)%2:Nat):Int))=aG (((s:Int)+1)::(all.length:Int)::nt)++aG (((s:Int)+1)::(all.length:Int)::nt)) :
 eI E frm n fk (s+1)∧bQ E frm n=((s:Int)+1)::(all.length:Int)::nt∧aA E frm n=all:=by
 obtain⟨r1,r2⟩:=h.mir.rng
 have hDn:=h.mir.sure.ok.n
 obtain⟨N,hN⟩:∃ N,N=((s:Int)+1)::(all.length:Int)::nt:=⟨_,rfl⟩
 rw[←hN]at hS ⊢
 obtain⟨b1,b2,b3,b4⟩:=ig (a:=(s:Int)+1) (b:=(all.length:Int)) (nt:=nt) ⟨by omega,by omega⟩ ⟨by omega,by omega⟩ hnt
 rw[←hN]at b1 b2 b3 b4
 have hsec:E.aJ ((frm:Int)+((s%2:Nat):Int))=D.aJ ((frm:Int)+((s%2:Nat):Int)):=by
  refine di fun j h1 h2=>hsame j (by omega) (by omega)
 have hiD:=eI.has h.mir (q:=s%2) (by omega)
 have hiE:=eI.has hM (q:=s%2) (by omega)
 have hiP:=eI.has hM (q:=(s+1)%2) (by omega)
 have hrd:aM E frm (64*(n-2)) ((s%2:Nat):Int)=aM D frm (64*(n-2)) ((s%2:Nat):Int):=by
  rw[b5 h.mir.sure hiD,b5 hM.sure hiE,hsec]
 have e2:(s+1+1)%2=s%2:=by omega
 have hN0:N.getD 0 0=((s+1:Nat):Int):=by rw[hN];rfl
 have ht:(aG N++aG N).take 32=aG N:=by rw[List.take_left' b1]
 have hdr:(aG N++aG N).drop 32=aG N:=by rw[List.drop_left' b1]
 have hc:(aM E frm (64*(n-2)) (((s+1)%2:Nat):Int)).1=N:=by
  rw[b5 hM.sure hiP,hS,if_pos,ht,b2,hN]
  unfold m5
  rw[ht,hdr,b3,b4]
  exact⟨rfl,by rw[Int.tmod_eq_emod_of_nonneg (by omega)];omega,ha⟩
 have hH:bQ E frm n=N:=by
  refine wX (s:=s+1) hc hN0 (Or.inl ?_)
  rw[e2,hrd,h.at_,h.ser];omega
 have hB:aA E frm n=all:=by
  have hsz:(an E frm n).size=(all.length:Nat):=by
   show(bQ E frm n).getD 1 0=_
   rw[hH,hN];rfl
  unfold aA eJ
  rw[hsz,Int.toNat_natCast]
  apply List.ext_getElem?
  intro t
  rw[List.getElem?_take]
  split
  ·rename_i ht
   rw[List.getElem?_drop,show 64*((frm:Int)+2).toNat+t=64*(frm+2)+t by omega]
   exact hall t ht
  ·rw[List.getElem?_eq_none (by omega)]
 obtain⟨C,c1,c2,c3⟩:=h.cur
 refine⟨⟨hM,by rw[hH];exact hN0,⟨aG N,b1,hS,by rw[b3];rfl⟩,by rw[hH];exact hc,C,C,c1,c1,?_,fun _=>lH (by rw[List.length_append,c1]) fk,by omega⟩,hH,hB⟩
 rw[e2,hsec,c2,lH (by rw[List.length_append,c1])]
def pN (E:DM) (frm:Nat) (n fk:Int) (s:Nat) (all nt:List Int):Prop:=eI E frm n fk (s+1)∧(an E frm n).serial=((s+1:Nat):Int)∧(an E frm n).note=nt∧aA E frm n=all
def oz (D E:DM) (frm:Nat) (n fk:Int) (s:Nat):Prop:=eI E frm n fk s∧an E frm n=an D frm n∧aA E frm n=aA D frm n
theorem eI.cV {D G:DM} {frm:Nat} {n fk:Int} {s:Nat} (h:eI D frm n fk s) (hG:ka G (64*(frm+2)+(aA D frm n).length)) (hGn:G.n=D.n)
 (hsame:∀ j,j<64*(frm+2)+(aA D frm n).length→G.now[j]?=D.now[j]?) (fate:List Int):oz D (aZ G fate) frm n fk s:=by
 obtain⟨a1,a2,a3,a4,a5⟩:=l5 hG fate
 obtain⟨r1,r2⟩:=h.mir.rng
 have hM:j9 (aZ G fate) frm n:=⟨a1,a2,a3,r1,by rw[a4,hGn];exact r2⟩
 have hs:∀ j,j<64*(frm+2)+(aA D frm n).length→(aZ G fate).now[j]?=D.now[j]?:=fun j hj=>by rw[a5 j hj,hsame j hj]
 obtain⟨X,Y,x1,x2,x3,x4,x5⟩:=h.oth
 obtain⟨b1,b2,b3⟩:=h.stay hM (fun j _ hj _=>hs j hj) x1 x2 (by rw[←x3];exact di fun j h1 h2=>hs j (by omega)) x4 x5
 exact⟨b1,by unfold an;rw[b2],b3⟩
theorem eI.pw {D F:DM} {frm:Nat} {n fk:Int} {s:Nat} (h:eI D frm n fk s) (hs:s<4611686018427387904) (hF:ka F (64*(frm+2)+(aA D frm n).length)) (hFn:F.n=D.n) (hFg:F.gone=false) (hFl:F.loose=[])
 (hsame:∀ j,j<64*(frm+2)+(aA D frm n).length→F.now[j]?=D.now[j]?) {all nt:List Int} (ha:(all.length:Int)≤64*(n-2)) (hall:∀ t,t<all.length→F.now[64*(frm+2)+t]?=all[t]?) (hnt:nt.length=16) (hnb:cm nt) (fate:List Int) (hfk:bl fate 0=fk) :
 (br F frm (((s:Int)+1)::(all.length:Int)::nt)).2.ok∧(br F frm (((s:Int)+1)::(all.length:Int)::nt)).2.loose.length≤1 ∧
 (((br F frm (((s:Int)+1)::(all.length:Int)::nt)).1=0∧pN (aZ (br F frm (((s:Int)+1)::(all.length:Int)::nt)).2 fate) frm n fk s all nt) ∨
  ((br F frm (((s:Int)+1)::(all.length:Int)::nt)).1=5∧(pN (aZ (br F frm (((s:Int)+1)::(all.length:Int)::nt)).2 fate) frm n fk s all nt∨oz D (aZ (br F frm (((s:Int)+1)::(all.length:Int)::nt)).2 fate) frm n fk s))):=by
 obtain⟨r1,r2⟩:=h.mir.rng
 have hDn:=h.mir.sure.ok.n
 obtain⟨N,hN⟩:∃ N,N=((s:Int)+1)::(all.length:Int)::nt:=⟨_,rfl⟩
 obtain⟨b1,b2,b3,b4⟩:=ig (a:=(s:Int)+1) (b:=(all.length:Int)) (nt:=nt) ⟨by omega,by omega⟩ ⟨by omega,by omega⟩ hnt
 rw[←hN]at b1 b2 b3 b4 ⊢
 have hp:((s:Int)+1).tmod 2=(((s+1)%2:Nat):Int):=by
  rw[Int.tmod_eq_emod_of_nonneg (by omega)];omega
 have hhl:(aG N++aG N).length=64:=by rw[List.length_append,b1]
 have hhb:cm (aG N++aG N):=fun b hb=>by
  have hnd:cm (N.drop 2):=by rw[hN];exact hnb
  rcases List.mem_append.1 hb with hb | hb
  ·exact k8 hnd b hb
  ·exact k8 hnd b hb
 have hi:F.has ((frm:Int)+(((s+1)%2:Nat):Int))=true:=by unfold DM.has;rw[hFn];simp only[decide_eq_true_eq];omega
 have et:((frm:Int)+(((s+1)%2:Nat):Int)).toNat=frm+(s+1)%2:=by omega
 have e0:N.getD 0 0=(s:Int)+1:=by rw[hN];rfl
 have hturn:br F frm N=if(bV F ((frm:Int)+(((s+1)%2:Nat):Int)) (aG N++aG N)).1≠0 then bV F ((frm:Int)+(((s+1)%2:Nat):Int)) (aG N++aG N)else aX (bV F ((frm:Int)+(((s+1)%2:Nat):Int)) (aG N++aG N)).2:=by
  unfold br
  rw[e0,hp]
 have hF0:ka F 0:=⟨hF.ok,hF.byte,fun p hp=>⟨(hF.old p hp).1,fun j _ hj=>by omega⟩⟩
 have fin:∀ (E:DM) (S:List Int),gG E→E.loose=[]→cm E.now→E.n=D.n→S.length=64 →
  (∀ j,E.now[j]?=if 64*(frm+(s+1)%2)≤j∧j<64*(frm+(s+1)%2)+64 then S[j-64*(frm+(s+1)%2)]? else F.now[j]?) →
  (S=aG N++aG N→pN E frm n fk s all nt)∧(S=bZ (D.aJ ((frm:Int)+(((s+1)%2:Nat):Int))) (aG N++aG N) fk→pN E frm n fk s all nt∨oz D E frm n fk s):=by
  intro E S c1 c2 c3 c4 c5 hg
  have hM:j9 E frm n:=⟨c1,c2,c3,r1,by rw[c4];exact r2⟩
  have hsecE:E.aJ ((frm:Int)+(((s+1)%2:Nat):Int))=S:=tm c5 fun j hj=>by
   rw[et,hg,if_pos (by omega)]
   congr 1;omega
  have goes:S=aG N++aG N→pN E frm n fk s all nt:=by
   intro hS
   rw[hS,hN]at hsecE
   obtain⟨d1,d2,d3⟩:=h.next hM hs ha hnt (fun j h1 h2=>by rw[hg,if_neg (by omega)];exact hsame j (by omega)) (fun t ht=>by rw[hg,if_neg (by omega)];exact hall t ht) hsecE
   refine⟨d1,?_,?_,d3⟩
   ·show(bQ E frm n).getD 0 0=_
    rw[d2];rfl
   ·show(bQ E frm n).drop 2=_
    rw[d2];rfl
  refine⟨goes,fun hS=>?_⟩
  obtain⟨X,Y,x1,x2,x3,x4,x5⟩:=h.oth
  rw[x3,B0]at hS
  by_cases hlk:bZ (X++X) (aG N++aG N) fk=aG N++aG N
  ·exact Or.inl (goes (hS.trans hlk))
  ·refine Or.inr ?_
   rw[hS]at hsecE
   obtain⟨d1,d2,d3⟩:=h.stay hM (fun j _ h1 h2=>by rw[hg,if_neg h2];exact hsame j h1) x1 b1 hsecE (fun hl=>(BZ x1 b1 fk hl).resolve_right hlk) x5
   exact⟨d1,by unfold an;rw[d2],d3⟩
 rcases se hFg hi hhl with e | e
 ·have e5:br F frm N=(5,{F with gone:=true}):=by rw[hturn,e,if_pos (by simp)]
  rw[e5]
  exact⟨hF.gone.ok,by show F.loose.length≤1;rw[hFl];simp,Or.inr ⟨rfl,Or.inr (h.cV hF.gone hFn hsame fate)⟩⟩
 ·have e6:br F frm N=aX (gf F ((frm:Int)+(((s+1)%2:Nat):Int)) (aG N++aG N)):=by rw[hturn,e,if_neg (by simp)]
  obtain⟨G,hG⟩:∃ G,G=gf F ((frm:Int)+(((s+1)%2:Nat):Int)) (aG N++aG N):=⟨_,rfl⟩
  have hGS:ka G 0:=by rw[hG];exact(th hF0 hi hhl hhb (fun j _ hj=>by omega)).1
  have gp:=fU hF.ok hi hhl
  rw[←hG,et]at gp
  have hGn:G.n=D.n:=by rw[hG,←hFn];rfl
  have hGg:G.gone=false:=by rw[hG];rfl
  have hGl:G.loose=[((frm:Int)+(((s+1)%2:Nat):Int),F.aJ ((frm:Int)+(((s+1)%2:Nat):Int)))]:=by
   rw[hG]
   show(if(dP _ (lv F.loose) 0).isSome then F.loose else F.loose++_)=_
   rw[hFl];rfl
  rw[←hG]at e6
  rw[e6]
  rcases tv hGS.ok hGg with e7 | ⟨E,e7,o1,o2,o3,o4,o5⟩
  ·rw[e7]
   have hS:ka {G with gone:=true} 0:=hGS.gone
   obtain⟨a1,a2,a3,a4,_⟩:=l5 hS fate
   have hcr:=Bb (D:={G with gone:=true}) hGl fate
   rw[hfk]at hcr
   have hcr:(aZ {G with gone:=true} fate).now=bG G.now (64*(frm+(s+1)%2)) (bZ (F.aJ ((frm:Int)+(((s+1)%2:Nat):Int))) (fX G.now ((frm:Int)+(((s+1)%2:Nat):Int))) fk):=by rw[hcr,et]
   have hsG:fX G.now ((frm:Int)+(((s+1)%2:Nat):Int))=aG N++aG N:=by
    show G.aJ _=_
    refine tm hhl fun j hj=>?_
    rw[et,gp,if_pos (by omega)]
    congr 1;omega
   have hsF:F.aJ ((frm:Int)+(((s+1)%2:Nat):Int))=D.aJ ((frm:Int)+(((s+1)%2:Nat):Int)):=di fun j h1 h2=>hsame j (by omega)
   rw[hsG,hsF]at hcr
   have hGlen:=hGS.ok.now
   refine⟨hS.ok,by show G.loose.length≤1;rw[hGl];simp,Or.inr ⟨rfl,(fin _ _ a1 a2 a3 (by rw[a4];exact hGn) (b7 _ _ _) fun j=>?_).2 rfl⟩⟩
   rw[hcr,Sx.iB (by rw[b7,hGlen];omega),b7]
   split
   ·rfl
   ·rename_i hh
    rw[gp,if_neg hh]
  ·rw[e7]
   have hS:ka E 0:=⟨o1,by rw[o3];exact hGS.byte,fun p hp=>by rw[o5]at hp;cases hp⟩
   obtain⟨a1,a2,a3,a4,_⟩:=l5 hS fate
   have hcr:(aZ E fate).now=G.now:=by
    show dL E.loose fate E.now (cP (E.loose.map (·.1))) E.loose.length=_
    rw[o5,←o3];rfl
   refine⟨o1,by rw[o5];simp,Or.inl ⟨rfl,(fin _ _ a1 a2 a3 (by rw[a4,o4];exact hGn) hhl fun j=>?_).1 rfl⟩⟩
   rw[hcr,gp]
theorem j9.soft {D:DM} {frm:Nat} {n:Int} (h:j9 D frm n) (f:Int) (hf:f≤9223372036854775807) (B:Nat):ka (aW D f) B:=⟨mX h.sure.ok hf,h.byte,fun p hp=>by
 have hp:p∈D.loose:=hp
 rw[h.loose]at hp;cases hp⟩
theorem eI.append {D:DM} {frm:Nat} {n fk:Int} {s:Nat} (h:eI D frm n fk s) (hs:s<4611686018427387904) {b nt:List Int} (hb:((aA D frm n).length:Int)+b.length≤64*(n-2)) (hn:n≤1000) (hnt:nt.length=16) (hbb:cm b) (hnb:cm nt) {f:Int} (hf:f≤9223372036854775807) (fate:List Int) (hfk:bl fate 0=fk) :
 (av (aW D f) (an D frm n) (aA D frm n) b nt).D.ok∧(av (aW D f) (an D frm n) (aA D frm n) b nt).D.loose.length≤1000000 ∧
 (((av (aW D f) (an D frm n) (aA D frm n) b nt).e=0∧(av (aW D f) (an D frm n) (aA D frm n) b nt).L.over=false∧pN (aZ (av (aW D f) (an D frm n) (aA D frm n) b nt).D fate) frm n fk s (aA D frm n++b) nt) ∨
  ((av (aW D f) (an D frm n) (aA D frm n) b nt).e=5∧(av (aW D f) (an D frm n) (aA D frm n) b nt).L=iL (an D frm n)∧(av (aW D f) (an D frm n) (aA D frm n) b nt).bs=aA D frm n ∧
   (pN (aZ (av (aW D f) (an D frm n) (aA D frm n) b nt).D fate) frm n fk s (aA D frm n++b) nt∨oz D (aZ (av (aW D f) (an D frm n) (aA D frm n) b nt).D fate) frm n fk s))):=by
 obtain⟨r1,r2⟩:=h.mir.rng
 have hDn:=h.mir.sure.ok.n
 obtain⟨L,hL⟩:∃ L,L=an D frm n:=⟨_,rfl⟩
 obtain⟨bs,hbs⟩:∃ bs,bs=aA D frm n:=⟨_,rfl⟩
 have f1:L.frm=frm:=by rw[hL];rfl
 have f2:L.most=64*(n-2):=by rw[hL];rfl
 have f3:L.serial=s:=by rw[hL];exact h.ser
 have f4:L.over=false:=by rw[hL];rfl
 have hat:=@j9.at D frm n h.mir
 have hal:(bs++b).length=bs.length+b.length:=List.length_append
 have hbsb:cm bs:=by
  rw[hbs]
  intro z hz
  unfold aA eJ at hz
  exact h.mir.byte z (List.mem_of_mem_drop (List.mem_of_mem_take hz))
 have hallb:cm (bs++b):=fun z hz=>by
  rcases List.mem_append.1 hz with hz | hz
  ·exact hbsb z hz
  ·exact hbb z hz
 have hsoft:=h.mir.soft f hf (64*(frm+2)+bs.length)
 rw[←hbs]at hb hat
 rw[←hL,←hbs]
 obtain⟨a1,a2,a3,a4,a5,a6⟩:=yu frm (bs++b) hallb (64*(frm+2)+bs.length) (by omega) ((bs++b).length+1) (bs.length/64) (aW D f) hsoft h.mir.sure.gone (by show _≤64*D.n;omega) (by omega) (fun t _ ht=>by
  show D.now[_]?=_
  rw[hat (by omega),List.getElem?_append_left (by omega)])
 have efr:dc (aW D f) L.frm (bs++b) bs.length=bH frm (bs++b) ((bs++b).length+1) (bs.length/64) (aW D f):=by
  unfold dc
  rw[f1,show(((bs.length:Nat):Int)/64).toNat=bs.length/64 by omega]
 rw[←efr]at a1 a2 a3 a4 a5 a6
 obtain⟨R,hR⟩:∃ R,R=dc (aW D f) L.frm (bs++b) bs.length:=⟨_,rfl⟩
 rw[←hR]at a1 a2 a3 a4 a5 a6
 have eN:cQ L (bs++b) nt=((s:Int)+1)::((bs++b).length:Int)::nt:=by unfold cQ;rw[f3]
 have happ0:av (aW D f) L bs b nt=if(bt (aW D f) L (bs++b) nt bs.length).1=0 then⟨0,(bt (aW D f) L (bs++b) nt bs.length).2,cU L (bs++b) nt,bs++b⟩else⟨5,(bt (aW D f) L (bs++b) nt bs.length).2,iL L,bs⟩:=by
  unfold av
  rw[f4,if_neg (by simp),if_neg (by rw[f3];omega),if_neg (by rw[f2];omega)]
 have hlo:(aW D f).loose=[]:=h.mir.loose
 rw[hlo]at a3
 rcases a6 with ⟨c1,c2,c3,c4⟩ | c
 ·obtain⟨t1,t2,t3⟩:=h.pw hs (F:=R.2) (all:=bs++b) (nt:=nt) (by rw[←hbs];exact a1) a2 c2 c3 (by rw[←hbs];exact a4) (by rw[hal];omega) (fun t ht=>by
   rcases Nat.lt_or_ge t (64*(bs.length/64))with h1 | h1
   ·rw[a4 _ (by omega)]
    show D.now[_]?=_
    rw[hat (by omega),List.getElem?_append_left (by omega)]
   ·exact c4 t h1 ht) hnt hnb fate hfk
  rw[←eN,←f1]at t1 t2 t3
  have hbec:bt (aW D f) L (bs++b) nt bs.length=if(br R.2 L.frm (cQ L (bs++b) nt)).1≠0 then(5,(br R.2 L.frm (cQ L (bs++b) nt)).2)else(0,(br R.2 L.frm (cQ L (bs++b) nt)).2):=by
   unfold bt
   rw[←hR,if_neg (by rw[c1];simp)]
  rcases t3 with ⟨u1,u2⟩ | ⟨u1,u2⟩
  ·have e:av (aW D f) L bs b nt=⟨0,(br R.2 L.frm (cQ L (bs++b) nt)).2,cU L (bs++b) nt,bs++b⟩:=by
    rw[happ0,hbec.trans (if_neg (by rw[u1];simp))];rfl
   rw[e]
   refine⟨t1,by show(br R.2 L.frm (cQ L (bs++b) nt)).2.loose.length≤_;omega,Or.inl ⟨rfl,f4,?_⟩⟩
   rw[f1]at u2
   rw[f1];exact u2
  ·have e:av (aW D f) L bs b nt=⟨5,(br R.2 L.frm (cQ L (bs++b) nt)).2,iL L,bs⟩:=by
    rw[happ0,hbec.trans (if_pos (by rw[u1];simp))];rfl
   rw[e]
   refine⟨t1,by show(br R.2 L.frm (cQ L (bs++b) nt)).2.loose.length≤_;omega,Or.inr ⟨rfl,rfl,rfl,?_⟩⟩
   rw[f1]at u2
   rw[f1];exact u2
 ·have hbec:bt (aW D f) L (bs++b) nt bs.length=(5,R.2):=by
   unfold bt
   rw[←hR,if_pos (by rw[c];simp)]
  have e:av (aW D f) L bs b nt=⟨5,R.2,iL L,bs⟩:=by
   rw[happ0,hbec];rfl
  rw[e]
  refine⟨a1.ok,by show R.2.loose.length≤_;simp only[List.length_nil]at a3;omega,Or.inr ⟨rfl,rfl,rfl,Or.inr ?_⟩⟩
  exact h.cV (by rw[←hbs];exact a1) a2 (by rw[←hbs];exact a4) fate
theorem eI.clear {D:DM} {frm:Nat} {n fk:Int} {s:Nat} (h:eI D frm n fk s) (hs:s<4611686018427387904) {f:Int} (hf:f≤9223372036854775807) (fate:List Int) (hfk:bl fate 0=fk) :
 (az (aW D f) (an D frm n) (aA D frm n)).D.ok∧(az (aW D f) (an D frm n) (aA D frm n)).D.loose.length≤1000000 ∧
 (((az (aW D f) (an D frm n) (aA D frm n)).e=0∧(az (aW D f) (an D frm n) (aA D frm n)).L.over=false∧pN (aZ (az (aW D f) (an D frm n) (aA D frm n)).D fate) frm n fk s [] (an D frm n).note) ∨
  ((az (aW D f) (an D frm n) (aA D frm n)).e=5∧(az (aW D f) (an D frm n) (aA D frm n)).L=iL (an D frm n)∧(az (aW D f) (an D frm n) (aA D frm n)).bs=aA D frm n ∧
   (pN (aZ (az (aW D f) (an D frm n) (aA D frm n)).D fate) frm n fk s [] (an D frm n).note∨oz D (aZ (az (aW D f) (an D frm n) (aA D frm n)).D fate) frm n fk s))):=by
 have hn16:=h.mir.y9
 have hnb:cm (an D frm n).note:=h.mir.DC
 obtain⟨r1,r2⟩:=h.mir.rng
 obtain⟨t1,t2,t3⟩:=h.pw hs (F:=aW D f) (all:=[]) (nt:=(an D frm n).note) (h.mir.soft f hf _) rfl h.mir.sure.gone h.mir.loose (fun j _=>rfl) (by show(0:Int)≤_;omega) (fun t ht=>by cases ht) hn16 hnb fate hfk
 have hser:(an D frm n).serial=s:=h.ser
 have eN:cQ (an D frm n) [] (an D frm n).note=((s:Int)+1)::(([]:List Int).length:Int)::(an D frm n).note:=by unfold cQ;rw[hser]
 rw[←eN]at t1 t2 t3
 have e0:az (aW D f) (an D frm n) (aA D frm n)=if(br (aW D f) frm (cQ (an D frm n) [] (an D frm n).note)).1=0 then⟨0,(br (aW D f) frm (cQ (an D frm n) [] (an D frm n).note)).2,cU (an D frm n) [] (an D frm n).note,[]⟩else⟨5,(br (aW D f) frm (cQ (an D frm n) [] (an D frm n).note)).2,iL (an D frm n),aA D frm n⟩:=by
  have ho:(an D frm n).over=false:=rfl
  unfold az
  rw[ho,if_neg (by simp),if_neg (by rw[hser];omega)]
  rfl
 rcases t3 with ⟨u1,u2⟩ | ⟨u1,u2⟩
 ·rw[if_pos u1]at e0
  rw[e0]
  exact⟨t1,by show(br _ _ _).2.loose.length≤_;omega,Or.inl ⟨rfl,rfl,u2⟩⟩
 ·rw[if_neg (by rw[u1];decide)]at e0
  rw[e0]
  exact⟨t1,by show(br _ _ _).2.loose.length≤_;omega,Or.inr ⟨rfl,rfl,rfl,u2⟩⟩
theorem sY {m n:Int} {frm:Nat} (hm:0≤m∧m≤16384) (hn:3≤n) (hr:(frm:Int)+n≤m) (fk:Int):eI (cw m) frm n fk 0:=by
 have hM:=Dz hm hn hr
 have hs:dj m=m.toNat:=by unfold dj;omega
 have hz:cY (List.replicate 8 0)=0:=by decide
 have hsec:∀ p:Nat,p<2→(cw m).aJ ((frm:Int)+(p:Int))=List.replicate 32 0++List.replicate 32 0:=by
  intro p hp
  unfold DM.aJ
  show((List.replicate (64*dj m) (0:Int)).drop _).take 64=_
  rw[List.drop_replicate,List.take_replicate,hs,List.replicate_append_replicate]
  congr 1;omega
 have hh:bQ (cw m) frm n=0::(([]:List Int).length:Int)::List.replicate 16 0:=(c8 (frm:=frm) hm hn hr).bQ
 have hc:=(c8 (m:=m) (n:=n) (frm:=frm) hm hn hr).cur
 refine⟨hM,by rw[hh];rfl,⟨List.replicate 32 0,by simp,hsec 0 (by omega),hz⟩,?_,List.replicate 32 0,List.replicate 32 0,by simp,by simp,?_,fun _=>lH (by simp) fk,?_⟩
 ·rw[hh,hc];rfl
 ·rw[lH (by simp)];exact hsec 1 (by omega)
 ·show cY (List.replicate 8 0)≤_
  rw[hz];exact Int.le_refl 0
end Go.Proofs.YtomdimlnggpgbaaGreatDoor.D
namespace Go.Proofs.YtomdimlnggpgbaaGreatDoor
open Go Go.RowKit Go.Extern.Stop Go.Stop Go.Extern
theorem wC (v:Value) (w:World):(Extern.ReflectliteType.typeOf #[.iface 299 v]).run Tryz.prog w=.ok (.iface 243 (.agg #[.pointer (some ⟨7,299,none⟩)])) w:=by kernel_rfl
def yi:Array Value→Sem Value:=Extern.ReflectliteType.method fun t=>do Extern.Rtype.noPackHeld "Comparable" t;pure (.bool (←typeInfo t).comparable)
theorem m9 (w:World):(yi #[.agg #[.pointer (some ⟨7,299,none⟩)]]).run Tryz.prog w=.ok (.bool true) w:=by kernel_rfl
theorem iv (v:Value) (w:World):(Go.method 431 243 v "Comparable").run Tryz.prog w=.ok (238,v) w:=by kernel_rfl
theorem nc (v:Value) (w:World):(Go.method 431 156 v "Unwrap").run Tryz.prog w=.ok (229,v) w:=by kernel_rfl
theorem C':(Tryz.prog.info? 299).map (·.comparable)=some true:=by kernel_rfl
theorem Da:(Tryz.prog.info? 319).map (·.size)=some 1:=by kernel_rfl
theorem FB (v:Value) (xT:TypeId) (w:World):(Instr.typeAssert (.iface 299 v) xT 245 true).run Tryz.prog w=.ok (.tuple #[.nilIface,.bool false]) w:=run_typeAssert_lacksB Tryz.underlying245 (by kernel_rfl) (by kernel_rfl) v xT w
theorem sZ (v:Value) (xT:TypeId) (w:World):(Instr.typeAssert (.iface 299 v) xT 248 true).run Tryz.prog w=.ok (.tuple #[.nilIface,.bool false]) w:=run_typeAssert_lacksB Tryz.underlying248 (by kernel_rfl) (by kernel_rfl) v xT w
theorem qS (v:Value) (xT:TypeId) (w:World):(Instr.typeAssert (.iface 299 v) xT 250 true).run Tryz.prog w=.ok (.tuple #[.nilIface,.bool false]) w:=run_typeAssert_lacksB Tryz.underlying250 (by kernel_rfl) (by kernel_rfl) v xT w
theorem FC (v:Value) (xT:TypeId) (w:World):(Instr.typeAssert (.iface 156 v) xT 245 true).run Tryz.prog w=.ok (.tuple #[.nilIface,.bool false]) w:=run_typeAssert_lacksB Tryz.underlying245 (by kernel_rfl) (by kernel_rfl) v xT w
theorem qA (v:Value) (xT:TypeId) (w:World):(Instr.typeAssert (.iface 156 v) xT 248 true).run Tryz.prog w=.ok (.tuple #[.iface 156 v,.bool true]) w:=run_typeAssert_hasB Tryz.underlying248 (by kernel_rfl) v xT w
theorem Gj (b:Addr) (w:World) :
 Calls Tryz.prog 87 #[.nilIface,.iface 299 (.pointer (some b))] w fun e w'=>e=.returned (.bool false)∧w'=w:=by
 have hn:=run_eql_iface_nil_left (P:=Tryz.prog) w 299 (.pointer (some b)) Tryz.underlying107
 go_enter Tryz.func87,Tryz.ntmps87
 go_wp2
 go_ret
 exact⟨rfl,rfl⟩
set_option maxRecDepth 20000 in
theorem uy (s:ByteArray) (b:Addr) (w:World) :
 Calls Tryz.prog 87 #[.iface 156 (.agg #[.string s,.iface 299 (.pointer (some b))]),.iface 299 (.pointer (some b))] w fun e w'=>e=.returned (.bool true)∧Below w.heap.size w w':=by
 obtain⟨i,hi,hcmp⟩:=Option.map_eq_some_iff.1 C'
 obtain⟨j,hj,hjs⟩:=Option.map_eq_some_iff.1 Da
 have h8:=@run_callFunc_extern Tryz.prog 129 _ Extern.ReflectliteType.typeOf Tryz.func129 (by kernel_rfl) (by kernel_rfl) (by kernel_rfl) (by kernel_rfl)
 have h32:=@run_callFunc_extern Tryz.prog 238 _ yi Tryz.func238 (by kernel_rfl) (by kernel_rfl) (by kernel_rfl) (by kernel_rfl)
 have tT:=wC
 have cT:=m9
 have mR:=iv
 have mU:=nc
 have nE:=FB
 have uE:=sZ
 have vE:=qS
 have nW:=FC
 have uW:=qA
 have heq:=fun w=>run_eql_iface_ptr_same (P:=Tryz.prog) w b Tryz.underlying107 Tryz.underlying299 hi hcmp hj
 have hty:=run_eql_iface_types (P:=Tryz.prog) 156 299 (.agg #[.string s,.iface 299 (.pointer (some b))]) (.pointer (some b)) Tryz.underlying107 (by decide) w
 go_enter Tryz.func87,Tryz.ntmps87
 go_wp2
 refine wp_loop_rounds 2 ?_
 rw[rounds_succ]
 go_wp2
 rw[rounds_succ]
 go_wp2
 go_ret
 exact⟨rfl,(Below.refl _ _).alloc (Nat.le_refl _) _⟩
set_option maxRecDepth 20000 in
theorem sq (s:ByteArray) (b a:Addr) (ca cb:Array Value) (ta tb:TypeId) (w:World) (hne:a≠b) (ha:w.heap[a.block]?=some (.cells ca ta (0,0))) (hb:w.heap[b.block]?=some (.cells cb tb (0,0))) :
 Calls Tryz.prog 87 #[.iface 156 (.agg #[.string s,.iface 299 (.pointer (some a))]),.iface 299 (.pointer (some b))] w fun e w'=>e=.returned (.bool false)∧Below w.heap.size w w':=by
 obtain⟨i,hi,hcmp⟩:=Option.map_eq_some_iff.1 C'
 obtain⟨j,hj,hjs⟩:=Option.map_eq_some_iff.1 Da
 have h8:=@run_callFunc_extern Tryz.prog 129 _ Extern.ReflectliteType.typeOf Tryz.func129 (by kernel_rfl) (by kernel_rfl) (by kernel_rfl) (by kernel_rfl)
 have h32:=@run_callFunc_extern Tryz.prog 238 _ yi Tryz.func238 (by kernel_rfl) (by kernel_rfl) (by kernel_rfl) (by kernel_rfl)
 have tT:=wC
 have cT:=m9
 have mR:=iv
 have mU:=nc
 have nE:=FB
 have uE:=sZ
 have vE:=qS
 have nW:=FC
 have uW:=qA
 have ha':(w.alloc (.cells #[.string s,.iface 299 (.pointer (some a))] 156)).heap[a.block]?=some (.cells ca ta (0,0)):=(Below.heap_alloc _ _ _ (Array.getElem?_eq_some_iff.1 ha).1).trans ha
 have hb':(w.alloc (.cells #[.string s,.iface 299 (.pointer (some a))] 156)).heap[b.block]?=some (.cells cb tb (0,0)):=(Below.heap_alloc _ _ _ (Array.getElem?_eq_some_iff.1 hb).1).trans hb
 have heq:=run_eql_iface_ptr_other (P:=Tryz.prog) _ Tryz.underlying107 Tryz.underlying299 hi hcmp hj (by rw[hjs];decide) hne ha' hb'
 have hty:=run_eql_iface_types (P:=Tryz.prog) 156 299 (.agg #[.string s,.iface 299 (.pointer (some a))]) (.pointer (some b)) Tryz.underlying107 (by decide) w
 go_enter Tryz.func87,Tryz.ntmps87
 go_wp2
 refine wp_loop_rounds 2 ?_
 rw[rounds_succ]
 go_wp2
 rw[rounds_succ]
 go_wp2
 go_ret
 exact⟨rfl,(Below.refl _ _).alloc (Nat.le_refl _) _⟩
end Go.Proofs.YtomdimlnggpgbaaGreatDoor
namespace Go.Pk
open Go Go.Sx
def fe (x:Nat):List Int:=if x<128 then [(x:Int)]else((x%128+128:Nat):Int)::fe (x/128)
def lQ:List Int→Nat→Nat→Option (Nat×Nat)
 | [],_,_=>none
 | c::l,n,x=>if(n=9∧1<c)∨9<n then none else if c<128 then(if c=0∧0<n then none else some (x+c.toNat*128 ^ n,n+1))else lQ l (n+1) (x+(c.toNat%128)*128 ^ n)
def oS (l:List Int):Option (Nat×Nat):=lQ l 0 0
theorem fR {x:Nat} (h:x<128):fe x=[(x:Int)]:=by rw[fe,if_pos h]
theorem il {x:Nat} (h:¬x<128):fe x=((x%128+128:Nat):Int)::fe (x/128):=by rw[fe,if_neg h]
theorem BD:∀ (x:Nat),∀ b∈fe x,0≤b∧b<256:=by
 intro x
 induction x using Nat.strongRecOn with
 | _ x ih =>
  intro b hb
  by_cases h:x<128
  ·rw[fR h,List.mem_singleton]at hb
   omega
  ·rw[il h]at hb
   rcases List.mem_cons.1 hb with rfl | hb
   ·omega
   ·exact ih (x/128) (by omega) b hb
theorem qU (x:Nat):0<(fe x).length:=by
 by_cases h:x<128
 ·rw[fR h];exact Nat.one_pos
 ·rw[il h];exact Nat.succ_pos _
theorem wR:∀ (k x:Nat),x<128 ^ (k+1)→(fe x).length≤k+1
 | 0,x,h=>by rw[fR (by simpa using h)];exact Nat.le_refl _
 | k+1,x,h=>by
  by_cases h1:x<128
  ·rw[fR h1];simp
  ·rw[il h1,List.length_cons]
   have:=wR k (x/128) (by
    rw[Nat.pow_succ]at h
    exact Nat.div_lt_of_lt_mul (by omega))
   omega
theorem DO:(128:Nat) ^ 9=9223372036854775808:=by decide
theorem BF (t:List Int):∀ (x n y:Nat),(0<n→0<x)→n≤9→x*128 ^ n<18446744073709551616→lQ (fe x++t) n y=some (y+x*128 ^ n,n+(fe x).length):=by
 intro x
 induction x using Nat.strongRecOn with
 | _ x ih =>
  intro n y hx hn hlt
  have h9:n=9→x≤1:=fun e=>by
   subst e
   rw[DO]at hlt;omega
  by_cases h:x<128
  ·rw[fR h]
   show(if(n=9∧1<(x:Int))∨9<n then none else _)=_
   rw[if_neg (by omega),if_pos (by omega),if_neg (by omega),Int.toNat_natCast]
   rfl
  ·rw[il h]
   have hc:(((x%128+128:Nat):Int)).toNat%128=x%128:=by rw[Int.toNat_natCast];omega
   show(if(n=9∧1<((x%128+128:Nat):Int))∨9<n then none else _)=_
   have hn9:n≠9:=fun e=>by have:=h9 e;omega
   rw[if_neg (by omega),if_neg (by omega),hc]
   have hmul:x/128*128 ^ (n+1)+x%128*128 ^ n=x*128 ^ n:=by
    rw[Nat.pow_succ,←Nat.mul_assoc,Nat.mul_right_comm,←Nat.add_mul]
    congr 1
    omega
   show lQ (fe (x/128)++t) (n+1) (y+x%128*128 ^ n)=_
   rw[ih (x/128) (by omega) (n+1) _ (fun _=>by omega) (by omega) (by omega),List.length_cons]
   congr 1
   rw[Prod.mk.injEq]
   omega
theorem BC {x:Nat} (h:x<18446744073709551616) (t:List Int):oS (fe x++t)=some (x,(fe x).length):=by
 have:=BF t x 0 0 (fun h=>absurd h (by omega)) (by omega) (by simpa using h)
 unfold oS
 rw[this]
 simp
theorem s6:∀ (l:List Int) (n y z m:Nat),(∀ b∈l,0≤b∧b<256)→lQ l n y=some (z,m)→∃ x,z=y+x*128 ^ n∧n<m∧m-n≤l.length∧l.take (m-n)=fe x∧(0<n→0<x)∧x*128 ^ n<18446744073709551616
 | [],_,_,_,_,_,h=>by cases h
 | c::l,n,y,z,m,hb,h=>by
  have hc:=hb c (List.mem_cons_self ..)
  have hl:∀ b∈l,0≤b∧b<256:=fun b h=>hb b (List.mem_cons_of_mem _ h)
  have h:(if(n=9∧1<c)∨9<n then none else if c<128 then(if c=0∧0<n then none else some (y+c.toNat*128 ^ n,n+1))else lQ l (n+1) (y+(c.toNat%128)*128 ^ n))=some (z,m):=h
  split at h
  ·cases h
  ·rename_i h9
   have hpow:128 ^ n≤9223372036854775808:=by
    rw[←DO]
    exact Nat.pow_le_pow_right (by decide) (by omega)
   have hsmall:n<9→128 ^ n≤72057594037927936:=fun hn=>by
    have:(128:Nat) ^ 8=72057594037927936:=by decide
    rw[←this]
    exact Nat.pow_le_pow_right (by decide) (by omega)
   split at h
   ·rename_i h128
    split at h
    ·cases h
    ·rename_i h0
     simp only[Option.some.injEq,Prod.mk.injEq]at h
     obtain⟨h1,h2⟩:=h
     subst h1 h2
     refine⟨c.toNat,rfl,by omega,by rw[List.length_cons];omega,?_,by omega,?_⟩
     ·rw[show n+1-n=1 by omega,fR (by omega)]
      show [c]=_
      rw[Int.toNat_of_nonneg hc.1]
     ·rcases Nat.lt_or_ge n 9 with hn | hn
      ·have:=hsmall hn
       calc c.toNat*128 ^ n≤127*72057594037927936:=Nat.mul_le_mul (by omega) this
        _<_:=by decide
      ·have:c.toNat≤1:=by omega
       calc c.toNat*128 ^ n≤1*9223372036854775808:=Nat.mul_le_mul this hpow
        _<_:=by decide
   ·rename_i h128
    obtain⟨x,e1,e2,e3,e4,e5,e6⟩:=s6 l (n+1) _ z m hl h
    have hx:=e5 (by omega)
    have hdiv:(x*128+c.toNat%128)/128=x:=by omega
    have hmod:(x*128+c.toNat%128)%128=c.toNat%128:=by omega
    have hmul:(x*128+c.toNat%128)*128 ^ n=x*128 ^ (n+1)+(c.toNat%128)*128 ^ n:=by
     rw[Nat.add_mul,Nat.pow_succ,Nat.mul_assoc x 128,Nat.mul_comm 128]
    refine⟨x*128+c.toNat%128,by rw[e1,hmul];omega,by omega,by rw[List.length_cons];omega,?_,fun _=>by omega,?_⟩
    ·rw[show m-n=(m-(n+1))+1 by omega,List.take_succ_cons,e4,il (x:=x*128+c.toNat%128) (by omega),hdiv,hmod]
     congr 1
     omega
    ·rw[hmul]
     have h127:c.toNat%128*128 ^ n<128 ^ (n+1):=by
      rw[Nat.pow_succ,Nat.mul_comm (128 ^ n)]
      exact Nat.mul_lt_mul_of_pos_right (by omega) (Nat.pow_pos (by decide))
     have hn9:n<9:=by omega
     have hdvd:∃ q,18446744073709551616=q*128 ^ (n+1):=by
      refine⟨2 ^ (64-7*(n+1)),?_⟩
      have:(18446744073709551616:Nat)=2 ^ 64:=by decide
      rw[this,show(128:Nat)=2 ^ 7 by decide,←Nat.pow_mul,←Nat.pow_add]
      congr 1;omega
     obtain⟨q,hq⟩:=hdvd
     rw[hq]at e6 ⊢
     have hxq:x<q:=Nat.lt_of_mul_lt_mul_right e6
     calc x*128 ^ (n+1)+c.toNat%128*128 ^ n<x*128 ^ (n+1)+128 ^ (n+1):=by omega
      _=(x+1)*128 ^ (n+1):=by rw[Nat.succ_mul]
      _≤q*128 ^ (n+1):=Nat.mul_le_mul_right _ hxq
theorem BB {l:List Int} {x m:Nat} (hb:∀ b∈l,0≤b∧b<256) (h:oS l=some (x,m)):0<m∧m≤l.length∧l.take m=fe x∧x<18446744073709551616:=by
 obtain⟨z,e1,e2,e3,e4,_,e6⟩:=s6 l 0 0 x m hb h
 have ez:x=z:=by simpa using e1
 subst ez
 exact⟨e2,by simpa using e3,by simpa using e4,by simpa using e6⟩
end Go.Pk
namespace Go.Pk
open Go Go.Sx
theorem B6 {x:Int} (h0:0≤x) (h1:x<18446744073709551616):IntKind.u64.wrap x=x:=by
 show Int.emod x 18446744073709551616=x
 exact Int.emod_eq_of_lt h0 h1
theorem Iv (x:Int):IntKind.u8.wrap x=x%256:=rfl
theorem tR {w:Nat} {x:Nat} (h:x<2 ^ w):(BitVec.ofInt w (x:Int)).toNat=x:=by
 rw[BitVec.toNat_ofInt,Int.emod_eq_of_lt (by omega) (by exact_mod_cast h),Int.toNat_natCast]
theorem Cs {c:Nat} (h:c<256):kb .and .u8 (c:Int) 127=((c%128:Nat):Int):=by
 show IntKind.u8.wrap (((BitVec.ofInt 8 (c:Int) &&&BitVec.ofInt 8 127).toNat:Nat):Int)=_
 rw[BitVec.toNat_and,tR (by simpa using h),show(BitVec.ofInt 8 127).toNat=2 ^ 7-1 from rfl,Nat.and_two_pow_sub_one_eq_mod,Iv]
 have:c%2 ^ 7=c%128:=rfl
 omega
theorem EC {x y:Nat} (hx:x<18446744073709551616) (hy:y<18446744073709551616):kb .or .u64 (x:Int) (y:Int)=((x |||y:Nat):Int):=by
 show IntKind.u64.wrap (((BitVec.ofInt 64 (x:Int) |||BitVec.ofInt 64 (y:Int)).toNat:Nat):Int)=_
 have hx':x<2 ^ 64:=hx
 have hy':y<2 ^ 64:=hy
 rw[BitVec.toNat_or,tR hx',tR hy']
 have:=Nat.or_lt_two_pow hx' hy'
 exact B6 (by omega) (by have e:(2:Nat) ^ 64=18446744073709551616:=by decide
                         omega)
theorem DK {y a k:Nat} (hy:y<2 ^ k):y |||(a*2 ^ k)=y+a*2 ^ k:=by
 rw[Nat.or_comm,←Nat.shiftLeft_eq,←Nat.shiftLeft_add_eq_or_of_lt hy,Nat.add_comm]
theorem E7 (k:Nat):(2:Nat) ^ (7*k)=128 ^ k:=by rw[Nat.pow_mul]
theorem HP {y k c:Nat} (hy:y<128 ^ k) (hk:k≤9) (hc:c<256) (h9:k=9→c≤1) :
 kb .or .u64 (y:Int) (IntKind.u64.wrap (IntKind.u64.wrap (kb .and .u8 (c:Int) 127)*2 ^ (min (IntKind.i64.wrap (7*(k:Int))).toNat 64)))=((y+c%128*128 ^ k:Nat):Int)∧y+c%128*128 ^ k<18446744073709551616:=by
 have hpow:128 ^ k≤9223372036854775808:=by
  rw[←DO]
  exact Nat.pow_le_pow_right (by decide) hk
 have hz:c%128*128 ^ k≤9223372036854775808:=by
  rcases Nat.lt_or_ge k 9 with h | h
  ·have h8:128 ^ k≤72057594037927936:=by
    have:(128:Nat) ^ 8=72057594037927936:=by decide
    rw[←this]
    exact Nat.pow_le_pow_right (by decide) (by omega)
   calc c%128*128 ^ k≤127*72057594037927936:=Nat.mul_le_mul (by omega) h8
    _≤_:=by decide
  ·have:c%128≤1:=by have:=h9 (by omega);omega
   calc c%128*128 ^ k≤1*9223372036854775808:=Nat.mul_le_mul this hpow
    _≤_:=by decide
 have e1:(IntKind.i64.wrap (7*(k:Int))).toNat=7*k:=by rw[wrap_i64 (by omega) (by omega)];omega
 have e2:min (7*k) 64=7*k:=by omega
 rw[Cs hc,e1,e2,B6 (x:=((c%128:Nat):Int)) (by omega) (by omega)]
 have e3:((c%128:Nat):Int)*2 ^ (7*k)=((c%128*128 ^ k:Nat):Int):=by
  rw[←E7];push_cast;rfl
 rw[e3,B6 (by omega) (by omega),EC (by omega) (by omega),←E7,DK (by rw[E7];exact hy)]
 rw[E7]
 exact⟨rfl,by omega⟩
set_option maxRecDepth 20000 in
theorem HY:∀ v:Fin 256,v.val |||128=v.val%128+128:=by decide
theorem HM {x:Nat} : kb .or .u8 (IntKind.u8.wrap (x:Int)) 128=((x%128+128:Nat):Int):=by
 have e:IntKind.u8.wrap (x:Int)=((x%256:Nat):Int):=by rw[Iv];omega
 rw[e]
 show IntKind.u8.wrap (((BitVec.ofInt 8 ((x%256:Nat):Int) |||BitVec.ofInt 8 128).toNat:Nat):Int)=_
 rw[BitVec.toNat_or,tR (w:=8) (by have e:(2:Nat) ^ 8=256:=by decide
                                  omega),show(BitVec.ofInt 8 128).toNat=128 from rfl,HY ⟨x%256,Nat.mod_lt _ (by decide)⟩,Iv]
 show(((x%256%128+128:Nat)):Int)%256=_
 omega
theorem JP {x:Nat} : ((x:Int)).fdiv (2 ^ (7:Int).toNat)=((x/128:Nat):Int):=by
 rw[Int.fdiv_eq_ediv_of_nonneg _ (by decide)]
 rfl
end Go.Pk
namespace Go.Proofs.YtomdimlnggpgbaaGreatDoor
open Go Go.Sx Go.Pk
def ES (p:List Nat):Bool:=decide (p.length>1)&&!(p.head?==some 99)
def aH:lJ:=fun _=>none
theorem aU (q:Env) (n:Nat):newHs q n 0=[]:=rfl
theorem bm (q:Env) (n:Nat):newHs q n 1=[q.h n]:=by unfold newHs;rw[List.range_one];rfl
theorem bC {α:Type} {a:α} {l:List α} : (a::l≠[])=True:=by simp
theorem eV (a:Nat):Value.pointer (ar (a:Int) 0)=.pointer (some ⟨a,0,none⟩):=by rw[aq (by omega)];rfl
def bw (bs:List Int):Prop:=∀ b∈bs,0≤b∧b<256
theorem uZ {R:Hl} {x y l:Int} {bs:List Int} (hl:l=bs.length) (hy:0≤y) (h:bs=[]∨0≤x∧∀ j z,bs[j]?=some z→R.cell x.toNat (y.toNat+j)=some (.int .u8 z)) :
 ((0≤x∧0≤y∧0≤l∧∀ j,j<l.toNat→∃ v,R.cell x.toNat (y.toNat+j)=some v∧v.oneCell'=true)∨l=0)∧cl R x.toNat y.toNat l.toNat=cn bs:=by
 subst hl
 rw[Int.toNat_natCast]
 constructor
 ·rcases h with h | ⟨hx,h⟩
  ·subst h;exact Or.inr rfl
  ·exact Or.inl ⟨hx,hy,by omega,fun j hj=>⟨_,h j _ (List.getElem?_eq_getElem hj),rfl⟩⟩
 ·unfold cl
  apply List.ext_getElem?
  intro j
  rw[List.getElem?_map,dw]
  rcases Nat.lt_or_ge j bs.length with hj | hj
  ·rcases h with h | ⟨hx,h⟩
   ·subst h;cases hj
   ·rw[List.getElem?_range hj,Option.map_some,h j _ (List.getElem?_eq_getElem hj),List.getElem?_eq_getElem hj]
    rfl
  ·rw[List.getElem?_eq_none (by simpa using hj),List.getElem?_eq_none (by omega)];rfl
theorem HZ (F:Hl) {a:Int} (h:0≤a) (hF:F=Hl.one a.toNat (.cells #[] 5 (0,0))):bR F 5 1 (.slice (ar a 0) (Int.toNat 0) (Int.toNat 0)) (Int.toNat 0) []:=by
 subst hF
 exact⟨rfl,Or.inr ⟨a.toNat,0,#[],by rw[aq h];rfl,Hl.bE _ _,by omega,by decide,rfl,rfl⟩⟩
def gX:Sx.Spec where
 fn:=84
 own:=[]
 rd:=[0]
 res:=[.one .sl]
 pre:=fun xs Hs Rs=>∃ u bs R,xs=[u]∧Rs=[R]∧fw R u bs∧bs.length≤1000000
 post:=fun xs Hs Rs v Hs' F=>∃ u bs R,xs=[u]∧Rs=[R]∧fw R u bs∧dA F 5 v bs
def qf:Nd:=.and (.imp (.eq (.var 0) (.lit (-1))) (.post [.ro 4 [.var 0] false] (.sv (.one (.sl (.lit (-1)) (.lit 0) (.lit 0) (.lit 0)))))) (.imp (.not (.eq (.var 0) (.lit (-1)))) (.ext (.alloc 5) (.and (.pre (.app 6 5 1 1 (.sl (.var 5) (.lit 0) (.lit 0) (.lit 0)) (.lit 0) (.aS 5 [] 5) (.seg 4 (.var 0) (.var 1) (.var 2)))) (.ext (.app 6 5 1 1 (.sl (.var 5) (.lit 0) (.lit 0) (.lit 0)) (.lit 0) (.aS 5 [] 5) (.seg 4 (.var 0) (.var 1) (.var 2))) (.post [.ro 4 [.var 0] false,.hp 6 [] [.var 6,.var 5] []] (.sv (.one (.sl (.var 6) (.lit 0) (.var 2) (.var 7)))))))))
def mO:cy Tryz.prog [] gX.fn where
 Λ:=aH
 args:=[.sv (.one (.sl (.var 0) (.var 1) (.var 2) (.var 3)))]
 mem:=[.ro 4 [.var 0] false]
 nv:=5
 nd:=qf
 ok:=by kernel_rfl
theorem qg:gX.OK Tryz.prog:=by
 refine Spec.b8 (Γ:=[]) (fun _ h=>by cases h) ?_
 rintro xs Hs Rs hl1 hl2 ⟨u,bs,R,rfl,rfl,hRd,hlen⟩
 have e0:Hs=[]:=List.length_eq_zero_iff.1 hl1
 subst e0
 obtain⟨x,y,c,rfl,hy,hR⟩:=id hRd
 refine⟨mO,bx [x,y,bs.length,c] false [Hl.none,Hl.none,Hl.none,Hl.none,R],fun _ _=>True,fun _ _=>0,?_,⟨?_,?_,?_,?_⟩,(fun _ h=>nomatch h),?_⟩
 ·show [Value.slice (ar x y) ((bs.length:Int)).toNat ((c:Int)).toNat]=_
  rw[Int.toNat_natCast,Int.toNat_natCast]
 ·intro r hr ho;simp [mO]at hr;subst hr;cases ho
 ·intro r hr ho;simp [mO]at hr;subst hr;exact⟨R,by simp,Hl.le_refl _⟩
 ·simp [mO]
 ·intro r hr;simp [mO]at hr;subst hr;trivial
 ·show Nd.holds _ _ _ qf
  generalize hρ:bx [x,y,bs.length,c] false [Hl.none,Hl.none,Hl.none,Hl.none,R]=ρ
  have v0:ρ.i 0=x:=by rw[←hρ];rfl
  have v1:ρ.i 1=y:=by rw[←hρ];rfl
  have v2:ρ.i 2=bs.length:=by rw[←hρ];rfl
  have w4:ρ.h 4=R:=by rw[←hρ];rfl
  clear hρ
  unfold qf
  simp only[Nd.holds,X.pre,X.rel,X.n,Src.ok,Src.len,Src.bS,true_and,and_true,if_true,Nat.mul_one,Nat.add_zero,Nat.reduceAdd,List.length_cons,List.length_nil,bN,bK,aP,ba,bb,bM,bj,bJ,bI,bD,bd,bk,bL,bg,bf,aQ,bh,ah,ai,aE,aI,aK,ax,aF,aV,aT,au,aO,aC,aN,aB,TV.ev,SV.ev,CV.ev,List.map_cons,List.map_nil,bc.hl]
  refine⟨fun hx _=>?_,fun hx q1 g1 p5=>?_⟩
  ·have hnil:bs=[]:=by
    rcases hR with h | ⟨h,_⟩
    ·exact h
    ·omega
   refine⟨[],[],rfl,rfl,⟨⟨fun k=>if k=0 then -1 else 0,fun _=>false,fun _=>.empty,fun _=>.tuple #[],fun _=>Hl.none⟩,rfl,⟨Int.le_refl _,Int.le_refl _,Int.le_refl _,Int.le_refl _⟩,trivial⟩,_,bs,R,rfl,rfl,hRd,?_⟩
   rw[hnil]
   exact⟨rfl,Or.inl ⟨rfl,rfl⟩⟩
  ·obtain⟨hok,hseg⟩:=uZ (R:=R) (x:=x) (y:=y) (l:=(bs.length:Int)) rfl hy hR
   have ho0:=HZ (Hl.one (q1.i 5).toNat (.cells #[] 5 (0,0))) p5 rfl
   rw[g1.i 0 (by omega),g1.i 1 (by omega),g1.i 2 (by omega),g1.h 4 (by omega),v0,v1,v2,w4]
   refine⟨⟨⟨_,ho0⟩,Int.le_refl _,by simpa using hok,by rw[Int.toNat_natCast];unfold maxLen;simp;omega,by rw[Int.toNat_natCast];simp;omega⟩,fun q2 g2 ⟨a1,a2,a3,_⟩=>fun _=>?_⟩
   have hx2:=a3 _ ho0
   rw[hseg,List.nil_append]at hx2
   refine⟨[],[1],rfl,rfl,⟨⟨fun k=>[q2.i 6,0,q2.i 2,q2.i 7].getD k 0,fun _=>false,fun _=>.empty,fun _=>.tuple #[],fun _=>Hl.none⟩,rfl,⟨a1,Int.le_refl _,?_,a2⟩,trivial⟩,_,bs,R,rfl,rfl,hRd,?_⟩
   ·show 0≤q2.i 2
    rw[g2.i 2 (by omega),g1.i 2 (by omega),v2];omega
   ·show dA (dF [q2.h 6]) _ (.slice (ar (q2.i 6) 0) (q2.i 2).toNat (q2.i 7).toNat) bs
    rw[bp,g2.i 2 (by omega),g1.i 2 (by omega),v2]
    unfold dA
    rw[Int.toNat_natCast]
    simpa using hx2
def dQ (bs:List Int):Nat×Nat:=(oS bs).getD (0,0)
def vF (R1 R2:Hl) (p:Value) (bs:List Int) (bad:Bool):Prop:=∃ (a:Nat) (x y:Int) (c:Nat),p=.pointer (some ⟨a,0,none⟩)∧R1.cell a 0=some (.slice (ar x y) bs.length c)∧R1.cell a 1=some (.bool bad)∧ -1≤x∧0≤y∧mv R2 (.slice (ar x y) bs.length c) bs
theorem vF.uniq {R1 R2:Hl} {p:Value} {a b:List Int} {x y:Bool} (h:vF R1 R2 p a x) (h':vF R1 R2 p b y):a=b∧x=y:=by
 obtain⟨a1,x1,y1,c1,e1,h1,h2,_,_,h3⟩:=h
 obtain⟨a2,x2,y2,c2,e2,k1,k2,_,_,k3⟩:=h'
 rw[e1]at e2
 simp only[Value.pointer.injEq,Option.some.injEq,Addr.mk.injEq,and_true]at e2
 subst e2
 rw[h1]at k1
 have k1:=Option.some.inj k1
 rw[←k1]at k3
 rw[h2]at k2
 simp only[Option.some.injEq,Value.bool.injEq]at k2
 exact⟨h3.uniq k3,k2⟩
def hQ:Sx.Spec where
 fn:=124
 own:=[]
 rd:=[0,1000]
 res:=[.one (.int .u64),.one (.int .i64)]
 pre:=fun xs Hs Rs=>∃ p R1 R2 bs bad,xs=[p]∧Rs=[R1,R2]∧vF R1 R2 p bs bad∧bw bs∧bs.length≤1000000
 post:=fun xs Hs Rs v Hs' F=>∃ p R1 R2 bs bad,xs=[p]∧Rs=[R1,R2]∧vF R1 R2 p bs bad∧v=.tuple #[.int .u64 (dQ bs).1,.int .i64 (dQ bs).2]
def qW:Nd:=.and (.e (.le (.lit 0) (.var 0))) (.and (.e (.his 2 (.var 0) (.lit 0) 0 .slice)) (.and (.e (.le (.lit 0) (.hP 2 (.var 0) (.lit 0) 0 2))) (.and (.inv 0 [⟨10,0,.int .i64 (.lit 0)⟩,⟨11,0,.int .i64 (.lit 0)⟩] []) (.havoc 0 0 3 (.and (.imp (.lt (.var 11) (.hP 2 (.var 0) (.lit 0) 0 2)) (.and (.e (.le (.lit 0) (.hP 2 (.var 0) (.lit 0) 0 0))) (.and (.e (.le (.lit 0) (.hP 2 (.var 0) (.lit 0) 0 1))) (.and (.e (.le (.lit 0) (.var 11))) (.and (.e (.his 1 (.hP 2 (.var 0) (.lit 0) 0 0) (.add (.hP 2 (.var 0) (.lit 0) 0 1) (.var 11)) 0 (.int .u8))) (.and (.imp (.eq (.var 11) (.lit 9)) (.and (.imp (.not (.lt (.lit 1) (.hI 1 (.hP 2 (.var 0) (.lit 0) 0 0) (.add (.hP 2 (.var 0) (.lit 0) 0 1) (.var 11)) 0))) (.and (.e (.le (.lit 0) (.wrap .i64 (.mul (.lit 7) (.var 11))))) (.and (.imp (.eq (.hI 1 (.hP 2 (.var 0) (.lit 0) 0 0) (.add (.hP 2 (.var 0) (.lit 0) 0 1) (.var 11)) 0) (.lit 0)) (.post [.ro 1 [.hP 2 (.var 0) (.lit 0) 0 0] false,.ro 2 [.var 0] false] (.tup [.one (.int .u64 (.lit 0)),.one (.int .i64 (.lit 0))]))) (.imp (.not (.eq (.hI 1 (.hP 2 (.var 0) (.lit 0) 0 0) (.add (.hP 2 (.var 0) (.lit 0) 0 1) (.var 11)) 0) (.lit 0))) (.post [.ro 1 [.hP 2 (.var 0) (.lit 0) 0 0] false,.ro 2 [.var 0] false] (.tup [.one (.int .u64 (.bits .or .u64 (.var 10) (.shl .u64 (.wrap .u64 (.bits .and .u8 (.hI 1 (.hP 2 (.var 0) (.lit 0) 0 0) (.add (.hP 2 (.var 0) (.lit 0) 0 1) (.var 11)) 0) (.lit 127))) (.wrap .i64 (.mul (.lit 7) (.var 11)))))),.one (.int .i64 (.wrap .i64 (.add (.var 11) (.lit 1))))])))))) (.imp (.lt (.lit 1) (.hI 1 (.hP 2 (.var 0) (.lit 0) 0 0) (.add (.hP 2 (.var 0) (.lit 0) 0 1) (.var 11)) 0)) (.post [.ro 1 [.hP 2 (.var 0) (.lit 0) 0 0] false,.ro 2 [.var 0] false] (.tup [.one (.int .u64 (.lit 0)),.one (.int .i64 (.lit 0))]))))) (.imp (.not (.eq (.var 11) (.lit 9))) (.and (.imp (.lt (.lit 9) (.var 11)) (.post [.ro 1 [.hP 2 (.var 0) (.lit 0) 0 0] false,.ro 2 [.var 0] false] (.tup [.one (.int .u64 (.lit 0)),.one (.int .i64 (.lit 0))]))) (.imp (.not (.lt (.lit 9) (.var 11))) (.and (.e (.le (.lit 0) (.wrap .i64 (.mul (.lit 7) (.var 11))))) (.and (.imp (.lt (.hI 1 (.hP 2 (.var 0) (.lit 0) 0 0) (.add (.hP 2 (.var 0) (.lit 0) 0 1) (.var 11)) 0) (.lit 128)) (.and (.imp (.eq (.hI 1 (.hP 2 (.var 0) (.lit 0) 0 0) (.add (.hP 2 (.var 0) (.lit 0) 0 1) (.var 11)) 0) (.lit 0)) (.and (.imp (.lt (.lit 0) (.var 11)) (.post [.ro 1 [.hP 2 (.var 0) (.lit 0) 0 0] false,.ro 2 [.var 0] false] (.tup [.one (.int .u64 (.lit 0)),.one (.int .i64 (.lit 0))]))) (.imp (.not (.lt (.lit 0) (.var 11))) (.post [.ro 1 [.hP 2 (.var 0) (.lit 0) 0 0] false,.ro 2 [.var 0] false] (.tup [.one (.int .u64 (.bits .or .u64 (.var 10) (.shl .u64 (.wrap .u64 (.bits .and .u8 (.hI 1 (.hP 2 (.var 0) (.lit 0) 0 0) (.add (.hP 2 (.var 0) (.lit 0) 0 1) (.var 11)) 0) (.lit 127))) (.wrap .i64 (.mul (.lit 7) (.var 11)))))),.one (.int .i64 (.wrap .i64 (.add (.var 11) (.lit 1))))]))))) (.imp (.not (.eq (.hI 1 (.hP 2 (.var 0) (.lit 0) 0 0) (.add (.hP 2 (.var 0) (.lit 0) 0 1) (.var 11)) 0) (.lit 0))) (.post [.ro 1 [.hP 2 (.var 0) (.lit 0) 0 0] false,.ro 2 [.var 0] false] (.tup [.one (.int .u64 (.bits .or .u64 (.var 10) (.shl .u64 (.wrap .u64 (.bits .and .u8 (.hI 1 (.hP 2 (.var 0) (.lit 0) 0 0) (.add (.hP 2 (.var 0) (.lit 0) 0 1) (.var 11)) 0) (.lit 127))) (.wrap .i64 (.mul (.lit 7) (.var 11)))))),.one (.int .i64 (.wrap .i64 (.add (.var 11) (.lit 1))))]))))) (.imp (.not (.lt (.hI 1 (.hP 2 (.var 0) (.lit 0) 0 0) (.add (.hP 2 (.var 0) (.lit 0) 0 1) (.var 11)) 0) (.lit 128))) (.back 0 0 [⟨10,0,.int .i64 (.bits .or .u64 (.var 10) (.shl .u64 (.wrap .u64 (.bits .and .u8 (.hI 1 (.hP 2 (.var 0) (.lit 0) 0 0) (.add (.hP 2 (.var 0) (.lit 0) 0 1) (.var 11)) 0) (.lit 127))) (.wrap .i64 (.mul (.lit 7) (.var 11)))))⟩,⟨11,0,.int .i64 (.wrap .i64 (.add (.var 11) (.lit 1)))⟩] []))))))))))))) (.imp (.not (.lt (.var 11) (.hP 2 (.var 0) (.lit 0) 0 2))) (.post [.ro 1 [.hP 2 (.var 0) (.lit 0) 0 0] false,.ro 2 [.var 0] false] (.tup [.one (.int .u64 (.lit 0)),.one (.int .i64 (.lit 0))]))))))))
def ng:cy Tryz.prog [] hQ.fn where
 Λ:=fun p=>if ES p then some ⟨0,[(4,TI .u64 (.var 10)),(12,TI .i64 (.var 11))],[],12⟩else none
 args:=[TP (.var 0) (.lit 0)]
 mem:=[.ro 1 [.hP 2 (.var 0) (.lit 0) 0 0] false,.ro 2 [.var 0] false]
 nv:=3
 nd:=qW
 ok:=by kernel_rfl
def BG (bs:List Int) (_:Nat) (q:Env):Prop:=∃ k y:Nat,q.i 11=k∧q.i 10=y∧k≤10∧y<128 ^ k∧oS bs=lQ (bs.drop k) k y
theorem H9 {x y:Int} (hx:-1≤x) (n c:Nat):cH (some (.slice (ar x y) n c)) 0=x:=by
 rcases Int.lt_or_le x 0 with h | h
 ·obtain rfl:x= -1:=by omega
  rfl
 ·rw[aq h];show((x.toNat:Nat):Int)=x;omega
theorem Is {x y:Int} (hx:0≤x) (hy:0≤y) (n c:Nat):cH (some (.slice (ar x y) n c)) 1=y:=by
 rw[aq hx];show((y.toNat:Nat):Int)=y;omega
theorem Ia {x y:Int} (hx:-1≤x) (n c:Nat):cH (some (.slice (ar x y) n c)) 2=n:=by
 rcases Int.lt_or_le x 0 with h | h
 ·obtain rfl:x= -1:=by omega
  rfl
 ·rw[aq h];rfl
theorem zb {bs:List Int} {k y c:Nat} (hc:bs[k]?=some (c:Int)):lQ (bs.drop k) k y=if(k=9∧1<c)∨9<k then none else if c<128 then(if c=0∧0<k then none else some (y+c*128 ^ k,k+1))else lQ (bs.drop (k+1)) (k+1) (y+(c%128)*128 ^ k):=by
 have hk:=(List.getElem?_eq_some_iff.1 hc).1
 have e:bs.drop k=(c:Int)::bs.drop (k+1):=by
  rw[List.drop_eq_getElem_cons hk,(List.getElem?_eq_some_iff.1 hc).2]
 rw[e]
 show(if(k=9∧1<(c:Int))∨9<k then none else if(c:Int)<128 then(if(c:Int)=0∧0<k then none else some (y+((c:Int)).toNat*128 ^ k,k+1))else lQ (bs.drop (k+1)) (k+1) (y+(((c:Int)).toNat%128)*128 ^ k))=_
 rw[Int.toNat_natCast]
 have h1:((1:Int)<(c:Int))↔1<c:=by omega
 have h2:((c:Int)<128)↔c<128:=by omega
 have h3:((c:Int)=0)↔c=0:=by omega
 simp only[h1,h2,h3]
theorem zd:hQ.OK Tryz.prog:=by
 refine Spec.b8 (Γ:=[]) (fun _ h=>by cases h) ?_
 rintro xs Hs Rs hl1 hl2 ⟨p,R1,R2,bs,bad,rfl,rfl,hIn,hby,hlen⟩
 have e0:Hs=[]:=List.length_eq_zero_iff.1 hl1
 subst e0
 obtain⟨a,x,y,c,rfl,hc0,hc1,hx,hy,hR⟩:=id hIn
 refine⟨ng,bx [(a:Int)] false [Hl.none,R2,R1],BG bs,fun _ q=>((bs.length:Int)-q.i 11).toNat,?_,⟨?_,?_,?_,?_⟩,(fun _ h=>nomatch h),?_⟩
 ·show [Value.pointer (ar (a:Int) 0)]=_
  rw[eV]
 ·intro r hr ho;simp [ng]at hr;rcases hr with rfl | rfl<;>cases ho
 ·intro r hr ho;simp [ng]at hr
  rcases hr with rfl | rfl
  ·exact⟨R2,by simp,Hl.le_refl _⟩
  ·exact⟨R1,by simp,Hl.le_refl _⟩
 ·simp [ng,bc.own]
 ·intro r hr;simp [ng]at hr;rcases hr with rfl | rfl<;>trivial
 ·show Nd.holds _ _ _ qW
  generalize hρ:bx [(a:Int)] false [Hl.none,R2,R1]=ρ
  have v0:ρ.i 0=a:=by rw[←hρ];rfl
  have w1:ρ.h 1=R2:=by rw[←hρ];rfl
  have w2:ρ.h 2=R1:=by rw[←hρ];rfl
  clear hρ
  have out:∀ (q:Env) (mem:Mem) (e1 e2:E),ak q e1=(dQ bs).1→ak q e2=(dQ bs).2→postOf hQ [.pointer (some ⟨a,0,none⟩)] [] [R1,R2] q mem (.tup [.one (.int .u64 e1),.one (.int .i64 e2)]):=fun q mem e1 e2 h1 h2 _ =>
   ⟨[],[],rfl,rfl,⟨⟨fun k=>if k=0 then(dQ bs).1 else(dQ bs).2,fun _=>false,fun _=>.empty,fun _=>.tuple #[],fun _=>Hl.none⟩,by show Value.tuple #[.int .u64 (ak q e1),.int .i64 (ak q e2)]=_;rw[h1,h2];rfl,trivial,trivial,trivial⟩,_,R1,R2,bs,bad,rfl,rfl,hIn,by show Value.tuple #[.int .u64 (ak q e1),.int .i64 (ak q e2)]=_;rw[h1,h2]⟩
  have none0:∀ (q:Env) (mem:Mem),oS bs=none→postOf hQ [.pointer (some ⟨a,0,none⟩)] [] [R1,R2] q mem (.tup [.one (.int .u64 (.lit 0)),.one (.int .i64 (.lit 0))]):=fun q mem h=>out q mem _ _ (by unfold dQ;rw[h];rfl) (by unfold dQ;rw[h];rfl)
  have tn0:Int.toNat 0=0:=rfl
  unfold qW
  simp only[Nd.holds,X.pre,X.rel,X.n,Src.ok,Src.len,Src.bS,true_and,and_true,if_true,Nat.mul_one,Nat.add_zero,Nat.reduceAdd,List.length_cons,List.length_nil,bN,bK,aP,ba,bb,bM,bj,bJ,bI,bD,bd,bk,bL,bg,bf,aQ,bh,ah,ai,aE,aI,aK,ax,aF,aV,aT,au,aO,aC,aN,aB,TV.ev,SV.ev,CV.ev,List.map_cons,List.map_nil,bc.hl,tn0]
  rw[v0,w2,Int.toNat_natCast,hc0,Ia hx]
  refine⟨by omega,rfl,by omega,⟨0,0,rfl,rfl,by omega,by decide,rfl⟩,fun q g ⟨k,y',e11,e10,hk,hyk,hnum⟩=>?_⟩
  rw[g.i 0 (by omega),v0,g.h 2 (by omega),w2,g.h 1 (by omega),w1,Int.toNat_natCast,hc0,Ia hx,e11]
  refine⟨fun hlt=>?_,fun hge=>none0 q _ (by rw[hnum,List.drop_eq_nil_of_le (by omega)];rfl)⟩
  obtain⟨z,hz⟩:∃ z,bs[k]?=some z:=⟨_,List.getElem?_eq_getElem (by omega)⟩
  have hzr:=hby z (List.mem_of_getElem? hz)
  obtain⟨cz,rfl⟩:∃ cz:Nat,z=cz:=⟨z.toNat,by omega⟩
  obtain⟨hx0,hcells⟩:0≤x∧∀ j z,bs[j]?=some z→R2.cell x.toNat (y.toNat+j)=some (.int .u8 z):=by
   obtain⟨x',y',c',he,hy',h⟩:=hR
   simp only[Value.slice.injEq]at he
   obtain⟨hp,_,_⟩:=he
   rcases h with ⟨_,h⟩ | ⟨h0,h⟩
   ·rw[h]at hz;simp at hz
   ·obtain⟨e1,e2⟩:=jT hx hy (by omega) hy' hp
    have e2:=e2 (by omega)
    subst e1 e2
    exact⟨h0,h⟩
  have hcell:R2.cell x.toNat (y+(k:Int)).toNat=some (.int .u8 cz):=by
   rw[←hcells k _ hz];congr 1;omega
  rw[H9 hx,Is hx0 hy,hcell]
  have hst:=zb (y:=y') hz
  rw[←hnum]at hst
  have ev:fg (some (Value.int .u8 (cz:Int)))=cz:=rfl
  rw[ev]
  have rest:∀ q':Env,q'=q→k≤9→(k=9→cz≤1)→ak q' (.bits .or .u64 (.var 10) (.shl .u64 (.wrap .u64 (.bits .and .u8 (.hI 1 (.hP 2 (.var 0) (.lit 0) 0 0) (.add (.hP 2 (.var 0) (.lit 0) 0 1) (.var 11)) 0) (.lit 127))) (.wrap .i64 (.mul (.lit 7) (.var 11)))))=((y'+cz%128*128 ^ k:Nat):Int):=by
   rintro q' rfl h9 hc9
   have hn:=(HP hyk h9 (by omega) hc9).1
   rw[m7,EN,ax,ax,m7,aV,aT,aE,aT,aK]
   simp only[ai,ah]
   rw[g.i 0 (by omega),v0,g.h 2 (by omega),w2,g.h 1 (by omega),w1,Int.toNat_natCast,tn0,Nat.add_zero,hc0,H9 hx,Is hx0 hy,Nat.add_zero,e11,hcell,e10]
   exact hn
  have hw:0≤IntKind.i64.wrap (7*(k:Int)):=by rw[wrap_i64 (by omega) (by omega)];omega
  have m11:IntKind.i64.wrap (q.i 11+1)=k+1:=by rw[e11,wrap_i64 (by omega) (by omega)]
  have fin:∀ mem,oS bs=some (y'+cz*128 ^ k,k+1)→cz<128→k≤9→(k=9→cz≤1)→postOf hQ [.pointer (some ⟨a,0,none⟩)] [] [R1,R2] q mem (.tup [.one (.int .u64 (.bits .or .u64 (.var 10) (.shl .u64 (.wrap .u64 (.bits .and .u8 (.hI 1 (.hP 2 (.var 0) (.lit 0) 0 0) (.add (.hP 2 (.var 0) (.lit 0) 0 1) (.var 11)) 0) (.lit 127))) (.wrap .i64 (.mul (.lit 7) (.var 11)))))),.one (.int .i64 (.wrap .i64 (.add (.var 11) (.lit 1))))]):=by
   intro mem hn h128 h9 hc9
   refine out q mem _ _ ?_ ?_
   ·rw[rest q rfl h9 hc9,Nat.mod_eq_of_lt h128];unfold dQ;rw[hn];rfl
   ·show IntKind.i64.wrap (q.i 11+1)=_
    rw[m11];unfold dQ;rw[hn];rfl
  refine⟨hx0,hy,by omega,rfl,fun h9=>⟨fun h1=>⟨hw,fun h0=>none0 q _ ?_,fun h0=>fin _ ?_ (by omega) (by omega) (by omega)⟩,fun h1=>none0 q _ ?_⟩,fun h9=>⟨fun hg9=>none0 q _ ?_,fun hg9=>⟨hw,fun h128=>⟨fun h0=>⟨fun hk0=>none0 q _ ?_,fun hk0=>fin _ ?_ (by omega) (by omega) (by omega)⟩,fun h0=>fin _ ?_ (by omega) (by omega) (by omega)⟩,fun h128=>⟨⟨k+1,y'+cz%128*128 ^ k,?_,?_,by omega,?_,?_⟩,?_⟩⟩⟩⟩
  ·rw[hst,if_neg (by omega),if_pos (by omega),if_pos (by omega)]
  ·rw[hst,if_neg (by omega),if_pos (by omega),if_neg (by omega)]
  ·rw[hst,if_pos (by omega)]
  ·rw[hst,if_pos (by omega)]
  ·rw[hst,if_neg (by omega),if_pos (by omega),if_pos (by omega)]
  ·rw[hst,if_neg (by omega),if_pos (by omega),if_neg (by omega)]
  ·rw[hst,if_neg (by omega),if_pos (by omega),if_neg (by omega)]
  ·show IntKind.i64.wrap (q.i 11+1)=_
   rw[m11];omega
  ·show ak q _=_
   exact rest q rfl (by omega) (by omega)
  ·rw[Nat.pow_succ,Nat.mul_comm (128 ^ k) 128]
   have:cz%128*128 ^ k≤127*128 ^ k:=Nat.mul_le_mul_right _ (by omega)
   omega
  ·rw[hst,if_neg (by omega),if_neg (by omega)]
  ·show((bs.length:Int)-IntKind.i64.wrap (q.i 11+1)).toNat<_
   rw[m11];omega
theorem wU {p v:Value} {R1 R2 F:Hl} {Hs K:List Hl} {bs:List Int} {bad:Bool} (h:vF R1 R2 p bs bad) (hp:hQ.post [p] Hs [R1,R2] v K F):v=.tuple #[.int .u64 (dQ bs).1,.int .i64 (dQ bs).2]:=by
 obtain⟨p',S1,S2,bs',bad',hx,hR,hIn,hv⟩:=hp
 have hx:p=p':=by simpa using hx
 have hR:R1=S1∧R2=S2:=by simpa using hR
 obtain⟨e1,e2⟩:=hR
 subst hx e1 e2
 rw[(h.uniq hIn).1];exact hv
end Go.Proofs.YtomdimlnggpgbaaGreatDoor
namespace Go.Proofs.YtomdimlnggpgbaaGreatDoor
open Go Go.Sx Go.Pk
def Ar (a:Nat) (x y c:Int) (n:Nat) (bad:Bool):Hl:=Hl.one a (.cells #[.slice (ar x y) ((n:Int)).toNat c.toNat,.bool bad] 203 (0,0))
structure sg (H:Hl) (a:Nat) (x y c:Int) (F:Hl) (bs:List Int) (bad:Bool):Prop where
 rx:-1≤x
 ry:0≤y
 rc:(bs.length:Int)≤c
 byte:bw bs
 len:bs.length≤1000000
 rd:mv F (.slice (ar x y) ((bs.length:Int)).toNat c.toNat) bs
 na:¬F.mem a
 hl:H=dF [Ar a x y c bs.length bad,F]
def iC (H:Hl) (p:Value) (bs:List Int) (bad:Bool):Prop:=∃ a x y c F,p=.pointer (some ⟨a,0,none⟩)∧sg H a x y c F bs bad
theorem xf {F G:Hl} (h:F.le G) {v:Value} {bs:List Int} (hr:mv F v bs):mv G v bs:=by
 obtain⟨x,y,c,e,hy,hr⟩:=hr
 refine⟨x,y,c,e,hy,hr.imp id fun⟨h0,hc⟩=>⟨h0,fun j z hz=>?_⟩⟩
 have:=hc j z hz
 unfold Hl.cell at this ⊢
 cases hF:F x.toNat with
 | none=>rw[hF]at this;cases this
 | some o=>rw[h _ _ hF];rw[hF]at this;exact this
section
variable {H F:Hl} {a:Nat} {x y c:Int} {bs:List Int} {bad:Bool}
theorem sg.le (h:sg H a x y c F bs bad):(Ar a x y c bs.length bad).le H∧F.le H:=by
 have hd:(Ar a x y c bs.length bad).ch F:=Hl.eU.2 h.na
 rw[h.hl]
 show(Ar a x y c bs.length bad).le ((Ar a x y c bs.length bad).un (F.un Hl.none))∧F.le ((Ar a x y c bs.length bad).un (F.un Hl.none))
 rw[Hl.jX]
 exact⟨Hl.e8 _ _,Hl.ga hd⟩
theorem sg.split (h:sg H a x y c F bs bad):vF (Ar a x y c bs.length bad) F (.pointer (some ⟨a,0,none⟩)) bs bad:=by
 have hrd:=h.rd
 rw[Int.toNat_natCast]at hrd
 refine⟨a,x,y,c.toNat,rfl,?_,?_,h.rx,h.ry,hrd⟩
 ·unfold Ar Hl.cell;rw[Hl.bE,Int.toNat_natCast];rfl
 ·unfold Ar Hl.cell;rw[Hl.bE];rfl
theorem iC.whole {p:Value} (h:iC H p bs bad):vF H H p bs bad:=by
 obtain⟨a,x,y,c,F,rfl,h⟩:=h
 obtain⟨l1,l2⟩:=h.le
 obtain⟨a',x',y',c',e,h1,h2,h3,h4,h5⟩:=h.split
 simp only[Value.pointer.injEq,Option.some.injEq,Addr.mk.injEq,and_true]at e
 subst e
 have up:∀ j v,(Ar a x y c bs.length bad).cell a j=some v→H.cell a j=some v:=by
  intro j v hv
  have e:=l1 a _ (Hl.bE _ _)
  unfold Ar Hl.cell at hv
  rw[Hl.bE]at hv
  unfold Hl.cell;rw[e];exact hv
 exact⟨a,x',y',c',rfl,up 0 _ h1,up 1 _ h2,h3,h4,xf l2 h5⟩
theorem iC.uniq {p:Value} {bs':List Int} {bad':Bool} (h:iC H p bs bad) (h':iC H p bs' bad'):bs=bs'∧bad=bad':=h.whole.uniq h'.whole
theorem iC.byte {p:Value} (h:iC H p bs bad):bw bs∧bs.length≤1000000:=by
 obtain⟨a,x,y,c,F,_,h⟩:=h
 exact⟨h.byte,h.len⟩
end
def sL:Mem:=[.aS 0 [.sl (.var 1) (.var 2) (.var 3) (.var 4),.bool (.bvar 6)] 203,.hp 7 [] [.var 1] []]
def wB (a:Nat) (x y c:Int) (bs:List Int) (bad:Bool) (F:Hl) (z:Int):Env:=bx [(a:Int),x,y,bs.length,c,z] bad [Hl.none,Hl.none,Hl.none,Hl.none,Hl.none,Hl.none,Hl.none,F]
section
variable {H F:Hl} {a:Nat} {x y c:Int} {bs:List Int} {bad:Bool}
theorem EO (h:sg H a x y c F bs bad) (z:Int):Entry (wB a x y c bs bad F z) sL [H] []:=by
 obtain⟨l1,l2⟩:=h.le
 have hb:(bc.aS 0 [.sl (.var 1) (.var 2) (.var 3) (.var 4),.bool (.bvar 6)] 203).hl (wB a x y c bs bad F z)=Ar a x y c bs.length bad:=by
  show Hl.one ((a:Int)).toNat (.cells #[.slice (ar x y) ((bs.length:Int)).toNat c.toNat,.bool bad] 203 (0,0))=_
  rw[Int.toNat_natCast];rfl
 refine⟨fun r hr ho=>⟨H,by simp,?_⟩,fun r hr ho=>?_,?_,fun r hr=>?_⟩
 ·simp only[sL,List.mem_cons,List.mem_nil_iff,or_false]at hr
  rcases hr with rfl | rfl
  ·rw[hb];exact l1
  ·exact l2
 ·simp only[sL,List.mem_cons,List.mem_nil_iff,or_false]at hr
  rcases hr with rfl | rfl<;>cases ho
 ·unfold sL
  refine List.Pairwise.cons (fun r hr _ _=>?_) (List.Pairwise.cons (fun r hr=>by cases hr) List.Pairwise.nil)
  rw[List.mem_singleton]at hr
  subst hr
  rw[hb]
  exact Hl.eU.2 h.na
 ·simp only[sL,List.mem_cons,List.mem_nil_iff,or_false]at hr
  rcases hr with rfl | rfl
  ·show(0:Int)≤(a:Int);omega
  ·trivial
theorem Fy (h:sg H a x y c F bs bad) {z:Int} {q:Env} (hq:ae 8 (wB a x y c bs bad F z) q) {Y N C g:E} {y' c':Int} {bs':List Int} {bad':Bool} {v7:List Nat} {t7:List E} {t:Mem} (hY:ak q Y=y') (hN:ak q N=bs'.length) (hC:ak q C=c') (hg:bo q g=bad') (hy:0≤y') (hc:(bs'.length:Int)≤c') (hb:bw bs') (hl:bs'.length≤bs.length) (hr:mv F (.slice (ar x y') ((bs'.length:Int)).toNat c'.toNat) bs') :
 iC (tD q (.aS 0 [.sl (.var 1) Y N C,.bool g] 203::.hp 7 v7 t7 []::t) [0,1]) (.pointer (some ⟨a,0,none⟩)) bs' bad':=by
 have hlen:=h.len
 refine⟨a,x,y',c',F,rfl,h.rx,hy,hc,hb,by omega,hr,h.na,?_⟩
 show dF [Hl.one (q.i 0).toNat (.cells #[.slice (ar (q.i 1) (ak q Y)) (ak q N).toNat (ak q C).toNat,.bool (bo q g)] 203 (0,0)),q.h 7]=_
 rw[hY,hN,hC,hg,hq.i 0 (by omega),hq.i 1 (by omega),hq.h 7 (by omega)]
 show dF [Hl.one ((a:Int)).toNat _,F]=_
 rw[Int.toNat_natCast];rfl
theorem qb (h:bw bs) (m:Nat):bw (bs.drop m):=fun b hb=>h b (List.mem_of_mem_drop hb)
theorem uM (h:sg H a x y c F bs bad) {m:Nat} (hm:m≤bs.length):mv F (.slice (ar x (if c=m then y else y+m)) (((bs.drop m).length:Int)).toNat (c-m).toNat) (bs.drop m):=by
 obtain⟨_,hr⟩:=h.rd.at h.rx h.ry (by omega)
 have hy:=h.ry
 refine⟨x,if c=m then y else y+m,(c-m).toNat,by rw[Int.toNat_natCast],by split<;>omega,?_⟩
 rcases hr with ⟨h1,h2⟩ | ⟨h0,hc⟩
 ·left
  exact⟨h1,by rw[h2];simp⟩
 ·right
  refine⟨h0,fun j z hz=>?_⟩
  rw[List.getElem?_drop]at hz
  have hj:=(List.getElem?_eq_some_iff.1 hz).1
  have hrc:=h.rc
  rw[if_neg (by omega),show(y+(m:Int)).toNat+j=y.toNat+(m+j)by omega]
  exact hc _ z hz
end
theorem qC (q:Env) (C M Y:E):ak q (.ite (.eq C M) Y (.add Y M))=if ak q C=ak q M then ak q Y else ak q Y+ak q M:=by
 simp only[aF,bD,aE]
def C8 (bs:List Int) (bad:Bool) (most:Int):Int×List Int×Bool:=if bad=true∨(dQ bs).2=0∨most<((dQ bs).1:Int)then(0,bs,true)else((dQ bs).1,bs.drop (dQ bs).2,false)
def iW (bs:List Int) (bad:Bool) (most:Int):List Int×List Int×Bool :=
 if bad=true∨(dQ bs).2=0∨most<0∨min (min most 4096) ((bs.length:Int)-(dQ bs).2)<((dQ bs).1:Int)then([],bs,true)else((bs.drop (dQ bs).2).take (dQ bs).1,bs.drop ((dQ bs).2+(dQ bs).1),false)
theorem EZ {bs:List Int} (hb:bw bs):(dQ bs).2≤bs.length∧(dQ bs).1<18446744073709551616:=by
 unfold dQ
 cases h:oS bs with
 | none=>exact⟨Nat.zero_le _,by decide⟩
 | some r =>
  obtain⟨x,m⟩:=r
  obtain⟨_,h2,_,h4⟩:=BB hb h
  exact⟨h2,h4⟩
def rp:Sx.Spec where
 fn:=80
 own:=[]
 rd:=[0]
 res:=[.one .ptr]
 pre:=fun xs Hs Rs=>∃ u bs R,xs=[u]∧Rs=[R]∧fw R u bs∧bw bs∧bs.length≤1000000
 post:=fun xs Hs Rs v Hs' F=>∃ u bs R,xs=[u]∧Rs=[R]∧fw R u bs∧iC F v bs false
def hJ:Sx.Spec where
 fn:=110
 own:=[.arg 0]
 rd:=[]
 res:=[.one (.int .u64)]
 pre:=fun xs Hs Rs=>∃ p most H bs bad,xs=[p,.int .u64 most]∧Hs=[H]∧iC H p bs bad
 post:=fun xs Hs Rs v Hs' F=>∃ p most H bs bad H',xs=[p,.int .u64 most]∧Hs=[H]∧iC H p bs bad∧Hs'=[H']∧iC H' p (C8 bs bad most).2.1 (C8 bs bad most).2.2∧v=.int .u64 (C8 bs bad most).1
def Fz:List Sx.Spec:=[hQ,gX]
theorem C9:∀ t∈Fz,t.OK Tryz.prog:=fun t ht=>by
 simp only[Fz,List.mem_cons,List.mem_nil_iff,or_false]at ht
 rcases ht with rfl | rfl
 ·exact zd
 ·exact qg
theorem Ke:Fz[0]?=some hQ:=rfl
theorem Kf:Fz[1]?=some gX:=rfl
theorem Kg:hQ.res=[.one (.int .u64),.one (.int .i64)]:=rfl
theorem Kh:gX.res=[.one .sl]:=rfl
theorem Ja:(bO 0 [Cp.one .sl]≠[])=True:=by simp [bO,Cp.roots,Ck.root]
theorem C7 {q:Env} {a:Nat} {x y c:Int} {n:Nat} {bad:Bool} (h0:q.i 0=a) (h1:q.i 1=x) (h2:q.i 2=y) (h3:q.i 3=n) (h4:q.i 4=c) (h6:q.b 6=bad) :
 Hl.one (q.i 0).toNat (.cells #[.slice (ar (q.i 1) (q.i 2)) (q.i 3).toNat (q.i 4).toNat,.bool (bo q (.bvar 6))] 203 (0,0))=Ar a x y c n bad:=by
 rw[bY,h0,h1,h2,h3,h4,h6,Int.toNat_natCast];rfl
end Go.Proofs.YtomdimlnggpgbaaGreatDoor
namespace Go.Proofs.YtomdimlnggpgbaaGreatDoor
open Go Go.Sx Go.Pk
def uO:Nd:=.and (.pre (.call 1 5 [.sv (.one (.sl (.var 0) (.var 1) (.var 2) (.var 3)))] [] [.ro 4 [.var 0] false])) (.ext (.call 1 5 [.sv (.one (.sl (.var 0) (.var 1) (.var 2) (.var 3)))] [] [.ro 4 [.var 0] false]) (.ext (.alloc 9) (.post [.ro 4 [.var 0] false,.hp 5 [] [.var 5] [],.aS 9 [.sl (.var 5) (.var 6) (.var 7) (.var 8),.bool .ff] 203] (.sv (.one (.hptr (.var 9) (.lit 0)))))))
def rq:cy Tryz.prog Fz rp.fn where
 Λ:=aH
 args:=[.sv (.one (.sl (.var 0) (.var 1) (.var 2) (.var 3)))]
 mem:=[.ro 4 [.var 0] false]
 nv:=5
 nd:=uO
 ok:=by kernel_rfl
theorem lZ {u v:Value} {bs:List Int} {R F:Hl} {Hs K:List Hl} (h:fw R u bs) (hp:gX.post [u] Hs [R] v K F):dA F 5 v bs:=by
 obtain⟨u',bs',R',hx,hR,hB,hO⟩:=hp
 have hx:u=u':=by simpa using hx
 have hR:R=R':=by simpa using hR
 subst hx hR
 rw[h.uniq hB];exact hO
theorem E4 {F:Hl} {e:TypeId} {x y l c:Int} {bs:List Int} (h:dA F e (.slice (ar x y) l.toNat c.toNat) bs) (hl:0≤l) (hc:0≤c):l≤c:=by
 obtain⟨_,h⟩:=h
 rcases h with ⟨h,_⟩ | ⟨g,cap,cur,h,_,hle,_⟩
 ·simp only[Value.slice.injEq]at h;omega
 ·simp only[Value.slice.injEq]at h;omega
theorem BK:rp.OK Tryz.prog:=by
 refine Spec.b8 (Γ:=Fz) C9 ?_
 rintro xs Hs Rs hl1 hl2 ⟨u,bs,R,rfl,rfl,hRd,hby,hlen⟩
 have e0:Hs=[]:=List.length_eq_zero_iff.1 hl1
 subst e0
 obtain⟨x,y,c,rfl,hy,hR⟩:=id hRd
 refine⟨rq,bx [x,y,bs.length,c] false [Hl.none,Hl.none,Hl.none,Hl.none,R],fun _ _=>True,fun _ _=>0,?_,⟨?_,?_,?_,?_⟩,(fun _ h=>nomatch h),?_⟩
 ·show [Value.slice (ar x y) ((bs.length:Int)).toNat ((c:Int)).toNat]=_
  rw[Int.toNat_natCast,Int.toNat_natCast]
 ·intro r hr ho;simp [rq]at hr;subst hr;cases ho
 ·intro r hr ho;simp [rq]at hr;subst hr;exact⟨R,by simp,Hl.le_refl _⟩
 ·simp [rq]
 ·intro r hr;simp [rq]at hr;subst hr;trivial
 ·show Nd.holds _ _ _ uO
  generalize hρ:bx [x,y,bs.length,c] false [Hl.none,Hl.none,Hl.none,Hl.none,R]=ρ
  have v0:ρ.i 0=x:=by rw[←hρ];rfl
  have v1:ρ.i 1=y:=by rw[←hρ];rfl
  have v2:ρ.i 2=bs.length:=by rw[←hρ];rfl
  have v3:ρ.i 3=c:=by rw[←hρ];rfl
  have w4:ρ.h 4=R:=by rw[←hρ];rfl
  clear hρ
  unfold uO
  simp only[Nd.holds,X.pre,X.rel,X.n,Src.ok,Src.len,Src.bS,true_and,and_true,if_true,Nat.mul_one,Nat.add_zero,Nat.reduceAdd,List.length_cons,List.length_nil,bN,bK,aP,ba,bb,bM,bj,bJ,bI,bD,bd,bk,bL,bg,bf,aQ,bh,ah,ai,aE,aI,aK,ax,aF,aV,aT,au,aO,aC,aN,aB,TV.ev,SV.ev,CV.ev,List.map_cons,List.map_nil,bc.hl,df,Cp.sv,Ck.cv,ct,Cp.len,Ck.len,aU,bm,bC,Ke,Kf,Kg,Kh,Ja]
  rw[v0,v1,v2,v3,w4,Int.toNat_natCast,Int.toNat_natCast]
  refine⟨⟨_,bs,R,rfl,rfl,hRd,hlen⟩,fun q1 g1 ⟨F1,hp,hF,⟨⟨n5,n6,n7,n8⟩,_⟩⟩ q2 g2 p9 hd=>?_⟩
  have hO:=lZ hRd hp
  rw[←hF trivial]at hO
  have n5:-1≤q1.i 5:=n5
  have n6:0≤q1.i 6:=n6
  have n7:0≤q1.i 7:=n7
  have n8:0≤q1.i 8:=n8
  have hcap:=E4 hO n7 n8
  have hrd:=hO.rd
  have hl:=(hrd.at n5 n6 n7).1
  rw[hl]at hrd hcap
  have h12:=hd 2 1 _ _ (by decide) rfl rfl rfl
  have h12:(Hl.one (q2.i 9).toNat _).ch (q2.h 5):=h12
  rw[g2.h 5 (by omega)]at h12
  refine⟨[],[2,1],rfl,rfl,⟨⟨fun k=>if k=0 then q2.i 9 else 0,fun _=>false,fun _=>.empty,fun _=>.tuple #[],fun _=>Hl.none⟩,rfl,⟨by show -1≤q2.i 9;omega,Int.le_refl _⟩,trivial⟩,_,bs,R,rfl,rfl,hRd,(q2.i 9).toNat,q1.i 5,q1.i 6,q1.i 8,q1.h 5,?_,⟨n5,n6,hcap,hby,hlen,hrd,Hl.eU.1 h12,?_⟩⟩
  ·show Value.pointer (ar (q2.i 9) 0)=_
   rw[aq p9];rfl
  ·show dF [Hl.one (q2.i 9).toNat (.cells #[.slice (ar (q2.i 5) (q2.i 6)) (q2.i 7).toNat (q2.i 8).toNat,.bool false] 203 (0,0)),q2.h 5]=_
   rw[g2.i 5 (by omega),g2.i 6 (by omega),g2.i 7 (by omega),g2.i 8 (by omega),g2.h 5 (by omega),hl]
   rfl
theorem E' {H F:Hl} {a:Nat} {x y c:Int} {bs:List Int} {bad:Bool} (h:sg H a x y c F bs bad) {m k:Nat} (hm:m+k≤bs.length) (c':Nat):fw F (.slice (ar x (if c=m then y else y+m)) k c') ((bs.drop m).take k):=by
 obtain⟨x',y',c2,he,hy',hr⟩:=(uM h (m:=m) (by omega)).w
 simp only[Value.slice.injEq]at he
 refine⟨x',y',c',?_,hy',?_⟩
 ·rw[he.1,List.length_take,List.length_drop,Nat.min_eq_left (by omega)]
 ·rcases hr with h0 | ⟨h0,hc⟩
  ·left;rw[h0];simp
  ·right
   refine⟨h0,fun j z hz=>hc j z ?_⟩
   rw[List.getElem?_take]at hz
   split at hz
   ·exact hz
   ·cases hz
theorem xa (F:Hl) (e:TypeId):dA F e (.slice none 0 0) []:=⟨rfl,Or.inl ⟨rfl,rfl⟩⟩
end Go.Proofs.YtomdimlnggpgbaaGreatDoor
namespace Go.Proofs.YtomdimlnggpgbaaGreatDoor
open Go Go.Sx Go.Pk
def tz:Sx.Spec where
 fn:=82
 own:=[.arg 0]
 rd:=[]
 res:=[.one .sl]
 pre:=fun xs Hs Rs=>∃ p most H bs bad,xs=[p,.int .i64 most]∧Hs=[H]∧iC H p bs bad∧most≤1000000
 post:=fun xs Hs Rs v Hs' F=>∃ p most H bs bad H',xs=[p,.int .i64 most]∧Hs=[H]∧iC H p bs bad∧Hs'=[H']∧iC H' p (iW bs bad most).2.1 (iW bs bad most).2.2∧dA F 5 v (iW bs bad most).1
def zK:Nd:=.and (.pre (.call 0 8 [.sv (.one (.hptr (.var 0) (.lit 0)))] [] [.aS 0 [.sl (.var 1) (.var 2) (.var 3) (.var 4),.bool (.bvar 6)] 203,.hp 7 [] [.var 1] []])) (.ext (.call 0 8 [.sv (.one (.hptr (.var 0) (.lit 0)))] [] [.aS 0 [.sl (.var 1) (.var 2) (.var 3) (.var 4),.bool (.bvar 6)] 203,.hp 7 [] [.var 1] []]) (.and (.imp (.not (.bvar 6)) (.and (.imp (.not (.eq (.var 9) (.lit 0))) (.and (.imp (.not (.lt (.var 5) (.lit 0))) (.and (.e (.le (.lit 0) (.var 3))) (.and (.imp (.lt (.wrap .u64 (.ite (.lt (.wrap .i64 (.sub (.var 3) (.var 9))) (.ite (.lt (.lit 4096) (.var 5)) (.lit 4096) (.var 5))) (.wrap .i64 (.sub (.var 3) (.var 9))) (.ite (.lt (.lit 4096) (.var 5)) (.lit 4096) (.var 5)))) (.var 8)) (.post [.aS 0 [.sl (.var 1) (.var 2) (.var 3) (.var 4),.bool .tt] 203,.hp 7 [] [.var 1] []] (.sv (.one (.sl (.lit (-1)) (.lit 0) (.lit 0) (.lit 0)))))) (.imp (.not (.lt (.wrap .u64 (.ite (.lt (.wrap .i64 (.sub (.var 3) (.var 9))) (.ite (.lt (.lit 4096) (.var 5)) (.lit 4096) (.var 5))) (.wrap .i64 (.sub (.var 3) (.var 9))) (.ite (.lt (.lit 4096) (.var 5)) (.lit 4096) (.var 5)))) (.var 8))) (.and (.e (.le (.lit (-1)) (.var 1))) (.and (.e (.le (.lit 0) (.var 2))) (.and (.e (.le (.lit 0) (.var 9))) (.and (.e (.le (.var 9) (.var 3))) (.and (.e (.le (.var 3) (.var 4))) (.and (.imp (.not (.lt (.wrap .i64 (.var 8)) (.lit 0))) (.and (.e (.le (.lit 0) (.sub (.var 3) (.var 9)))) (.and (.imp (.lt (.sub (.var 3) (.var 9)) (.wrap .i64 (.var 8))) (.post [.aS 0 [.sl (.var 1) (.ite (.eq (.var 4) (.var 9)) (.var 2) (.add (.var 2) (.var 9))) (.sub (.var 3) (.var 9)) (.sub (.var 4) (.var 9)),.bool .tt] 203,.hp 7 [] [.var 1] []] (.sv (.one (.sl (.lit (-1)) (.lit 0) (.lit 0) (.lit 0)))))) (.imp (.not (.lt (.sub (.var 3) (.var 9)) (.wrap .i64 (.var 8)))) (.and (.e (.le (.lit 0) (.ite (.eq (.var 4) (.var 9)) (.var 2) (.add (.var 2) (.var 9))))) (.and (.e (.le (.wrap .i64 (.var 8)) (.sub (.var 4) (.var 9)))) (.and (.pre (.call 1 10 [.sv (.one (.sl (.var 1) (.ite (.eq (.var 4) (.var 9)) (.var 2) (.add (.var 2) (.var 9))) (.wrap .i64 (.var 8)) (.sub (.var 4) (.var 9))))] [] [.hp 7 [] [.var 1] []])) (.ext (.call 1 10 [.sv (.one (.sl (.var 1) (.ite (.eq (.var 4) (.var 9)) (.var 2) (.add (.var 2) (.var 9))) (.wrap .i64 (.var 8)) (.sub (.var 4) (.var 9))))] [] [.hp 7 [] [.var 1] []]) (.and (.e (.le (.wrap .i64 (.var 8)) (.sub (.var 3) (.var 9)))) (.and (.e (.le (.sub (.var 3) (.var 9)) (.sub (.var 4) (.var 9)))) (.post [.aS 0 [.sl (.var 1) (.ite (.eq (.sub (.var 4) (.var 9)) (.wrap .i64 (.var 8))) (.ite (.eq (.var 4) (.var 9)) (.var 2) (.add (.var 2) (.var 9))) (.add (.ite (.eq (.var 4) (.var 9)) (.var 2) (.add (.var 2) (.var 9))) (.wrap .i64 (.var 8)))) (.sub (.sub (.var 3) (.var 9)) (.wrap .i64 (.var 8))) (.sub (.sub (.var 4) (.var 9)) (.wrap .i64 (.var 8))),.bool (.bvar 6)] 203,.hp 7 [] [.var 1] [],.hp 10 [] [.var 10] []] (.sv (.one (.sl (.var 10) (.var 11) (.var 12) (.var 13))))))))))))))) (.imp (.lt (.wrap .i64 (.var 8)) (.lit 0)) (.post [.aS 0 [.sl (.var 1) (.ite (.eq (.var 4) (.var 9)) (.var 2) (.add (.var 2) (.var 9))) (.sub (.var 3) (.var 9)) (.sub (.var 4) (.var 9)),.bool .tt] 203,.hp 7 [] [.var 1] []] (.sv (.one (.sl (.lit (-1)) (.lit 0) (.lit 0) (.lit 0)))))))))))))))) (.imp (.lt (.var 5) (.lit 0)) (.post [.aS 0 [.sl (.var 1) (.var 2) (.var 3) (.var 4),.bool .tt] 203,.hp 7 [] [.var 1] []] (.sv (.one (.sl (.lit (-1)) (.lit 0) (.lit 0) (.lit 0)))))))) (.imp (.eq (.var 9) (.lit 0)) (.post [.aS 0 [.sl (.var 1) (.var 2) (.var 3) (.var 4),.bool .tt] 203,.hp 7 [] [.var 1] []] (.sv (.one (.sl (.lit (-1)) (.lit 0) (.lit 0) (.lit 0)))))))) (.imp (.bvar 6) (.post [.aS 0 [.sl (.var 1) (.var 2) (.var 3) (.var 4),.bool .tt] 203,.hp 7 [] [.var 1] []] (.sv (.one (.sl (.lit (-1)) (.lit 0) (.lit 0) (.lit 0))))))))
def Ii:cy Tryz.prog Fz tz.fn where
 Λ:=aH
 args:=[TP (.var 0) (.lit 0),TI .i64 (.var 5)]
 mem:=sL
 nv:=8
 nd:=zK
 ok:=by kernel_rfl
theorem EP {a b:Int} : (if a<b then a else b)=min a b:=by split<;>omega
theorem Ec:tz.OK Tryz.prog:=by
 refine Spec.b8 (Γ:=Fz) C9 ?_
 rintro xs Hs Rs hl1 hl2 ⟨p,most,H,bs,bad,rfl,rfl,⟨a,x,y,c,F,rfl,h⟩,hmost⟩
 have e1:Rs=[]:=List.length_eq_zero_iff.1 hl2
 subst e1
 refine⟨Ii,wB a x y c bs bad F most,fun _ _=>True,fun _ _=>0,?_,EO h most,(fun _ h=>nomatch h),?_⟩
 ·show [Value.pointer (ar (a:Int) 0),Value.int .i64 most]=_
  rw[eV]
 ·show Nd.holds _ _ _ zK
  generalize hρ:wB a x y c bs bad F most=ρ
  have v0:ρ.i 0=a:=by rw[←hρ];rfl
  have v1:ρ.i 1=x:=by rw[←hρ];rfl
  have v2:ρ.i 2=y:=by rw[←hρ];rfl
  have v3:ρ.i 3=bs.length:=by rw[←hρ];rfl
  have v4:ρ.i 4=c:=by rw[←hρ];rfl
  have v5:ρ.i 5=most:=by rw[←hρ];rfl
  have b6:ρ.b 6=bad:=by rw[←hρ];rfl
  have w7:ρ.h 7=F:=by rw[←hρ];rfl
  obtain⟨hn1,hn2⟩:=EZ h.byte
  have hrx:=h.rx
  have hry:=h.ry
  have hrc:=h.rc
  have hlen:=h.len
  have fail:∀ (q:Env) (t:Mem),ae 8 ρ q→bad=true∨(dQ bs).2=0∨most<0∨min (min most 4096) ((bs.length:Int)-(dQ bs).2)<((dQ bs).1:Int)→postOf tz [.pointer (some ⟨a,0,none⟩),.int .i64 most] [H] [] q (.aS 0 [.sl (.var 1) (.var 2) (.var 3) (.var 4),.bool .tt] 203::.hp 7 [] [.var 1] []::t) (.sv (.one (.sl (.lit (-1)) (.lit 0) (.lit 0) (.lit 0)))):=by
   intro q t hq hf _
   have hs:iW bs bad most=([],bs,true):=by unfold iW;rw[if_pos hf]
   refine⟨[[0,1]],[],rfl,rfl,⟨⟨fun k=>if k=0 then -1 else 0,fun _=>false,fun _=>.empty,fun _=>.tuple #[],fun _=>Hl.none⟩,rfl,⟨Int.le_refl _,Int.le_refl _,Int.le_refl _,Int.le_refl _⟩,trivial⟩,_,most,H,bs,bad,_,rfl,rfl,⟨a,x,y,c,F,rfl,h⟩,rfl,?_,?_⟩
   ·rw[hs]
    have k2:ak q (.var 2)=y:=by rw[ai,hq.i 2 (by omega),v2]
    have k3:ak q (.var 3)=bs.length:=by rw[ai,hq.i 3 (by omega),v3]
    have k4:ak q (.var 4)=c:=by rw[ai,hq.i 4 (by omega),v4]
    rw[←hρ]at hq
    exact Fy h hq k2 k3 k4 rfl hry hrc h.byte (Nat.le_refl _) h.rd
   ·rw[hs];exact xa _ _
  unfold zK
  simp only[Nd.holds,X.pre,X.rel,X.n,Src.ok,Src.len,Src.bS,true_and,and_true,if_true,Nat.mul_one,Nat.add_zero,Nat.reduceAdd,List.length_cons,List.length_nil,bN,bK,aP,ba,bb,bM,bj,bJ,bI,bD,bd,bk,bL,bg,bf,aQ,bh,ah,ai,aE,aI,aK,ax,aF,aV,aT,au,aO,aC,aN,aB,TV.ev,SV.ev,CV.ev,List.map_cons,List.map_nil,bc.hl,df,Cp.sv,Ck.cv,ct,Cp.len,Ck.len,aU,bm,bC,Ke,Kf,Kg,Kh,Ja]
  rw[C7 v0 v1 v2 v3 v4 b6,v0,eV,w7]
  refine⟨⟨_,_,_,bs,bad,rfl,rfl,h.split,h.byte,h.len⟩,fun q g ⟨F1,hp,_,_⟩=>?_⟩
  have hv:=wU h.split hp
  have hv:q.i 8=(dQ bs).1∧q.i 9=(dQ bs).2:=by simpa using hv
  obtain⟨h8,h9⟩:=hv
  generalize hm:(dQ bs).2=m at *
  generalize hk:(dQ bs).1=k at *
  have j1:q.i 1=x:=by rw[g.i 1 (by omega),v1]
  have j2:q.i 2=y:=by rw[g.i 2 (by omega),v2]
  have j3:q.i 3=bs.length:=by rw[g.i 3 (by omega),v3]
  have j4:q.i 4=c:=by rw[g.i 4 (by omega),v4]
  have j5:q.i 5=most:=by rw[g.i 5 (by omega),v5]
  rw[g.b 6 (by omega),b6,h9,h8,j1,j2,j3,j4,j5]
  rw[wrap_i64 (n:=(bs.length:Int)-(m:Int)) (by omega) (by omega)]
  simp only[EP]
  have emin:min ((bs.length:Int)-(m:Int)) (min 4096 most)=min (min most 4096) ((bs.length:Int)-(m:Int)):=by omega
  rw[emin]
  refine⟨fun hb=>⟨fun hz=>⟨fun hmn=>⟨by omega,fun hlt=>?_,fun hge=>?_⟩,fun hmn=>fail q _ g (Or.inr (Or.inr (Or.inl hmn)))⟩,fun hz=>fail q _ g (Or.inr (Or.inl (by omega)))⟩,fun hb=>fail q _ g (Or.inl hb)⟩
  ·rw[B6 (by omega) (by omega)]at hlt
   exact fail q _ g (Or.inr (Or.inr (Or.inr hlt)))
  ·rw[B6 (by omega) (by omega)]at hge
   have hwk:IntKind.i64.wrap (k:Int)=k:=wrap_i64 (by omega) (by omega)
   have hY:ak q (.ite (.eq (.var 4) (.var 9)) (.var 2) (.add (.var 2) (.var 9)))=if c=(m:Int)then y else y+m:=by
    rw[qC,ai,ai,ai,j4,j2,h9]
   have hYq:∀ q',ae 10 q q'→ak q' (.ite (.eq (.var 4) (.var 9)) (.var 2) (.add (.var 2) (.var 9)))=if c=(m:Int)then y else y+m:=by
    intro q' g'
    rw[qC,ai,ai,ai,g'.i 4 (by omega),g'.i 2 (by omega),g'.i 9 (by omega),j4,j2,h9]
   rw[hwk]
   refine⟨hrx,hry,by omega,by omega,hrc,fun _=>⟨by omega,fun hlt2=>absurd hlt2 (by omega),fun _=>?_⟩,fun hneg=>absurd hneg (by omega)⟩
   have hs:iW bs bad most=((bs.drop m).take k,bs.drop (m+k),false):=by
    unfold iW
    rw[hm,hk]
    have:¬(bad=true∨m=0∨most<0∨min (min most 4096) ((bs.length:Int)-(m:Int))<(k:Int)):=by
     rintro(e | e | e | e)
     ·exact hb e
     ·exact hz (by omega)
     ·omega
     ·exact hge e
    rw[if_neg this]
   have hmk:m+k≤bs.length:=by omega
   have ht:=E' h (m:=m) (k:=k) hmk (c-m).toNat
   have hd1:=uM h (m:=m) (by omega)
   have hdl:((bs.drop m).length:Int)=bs.length-m:=by rw[List.length_drop];omega
   have hY0:0≤(if c=(m:Int)then y else y+m):=by split<;>omega
   have h2:sg (dF [Ar a x (if c=(m:Int)then y else y+m) (c-m) (bs.drop m).length false,F]) a x (if c=(m:Int)then y else y+m) (c-m) F (bs.drop m) false :=
    ⟨hrx,hY0,by omega,qb h.byte m,by rw[List.length_drop];omega,hd1,h.na,rfl⟩
   have hd2:=uM h2 (m:=k) (by rw[List.length_drop];omega)
   rw[List.drop_drop]at hd2
   rw[g.h 7 (by omega),w7]
   refine⟨hY0,by omega,⟨_,_,F,rfl,rfl,(by rw[Int.toNat_natCast];exact ht),by rw[List.length_take,List.length_drop];omega⟩,fun q2 g2 ⟨F2,hp2,hF2,hnm⟩=>?_⟩
   have hO:=lZ (R:=F) (u:=.slice (ar x (if c=(m:Int)then y else y+m)) ((k:Int)).toNat (c-m).toNat) (by rw[Int.toNat_natCast];exact ht) hp2
   rw[←hF2 trivial]at hO
   have G2:ae 8 ρ q2:=g.trans (g2.mono (by omega))
   rw[g2.i 8 (by omega),g2.i 9 (by omega),G2.i 3 (by omega),G2.i 4 (by omega),h8,h9,v3,v4,hwk]
   refine⟨by omega,by omega,fun _=>?_⟩
   have eC:ak q2 (.sub (.var 4) (.var 9))=c-m:=by
    show q2.i 4-q2.i 9=_
    rw[G2.i 4 (by omega),g2.i 9 (by omega),v4,h9]
   have eN:ak q2 (.sub (.var 3) (.var 9))=bs.length-m:=by
    show q2.i 3-q2.i 9=_
    rw[G2.i 3 (by omega),g2.i 9 (by omega),v3,h9]
   have eK:ak q2 (.wrap .i64 (.var 8))=k:=by
    show IntKind.i64.wrap (q2.i 8)=_
    rw[g2.i 8 (by omega),h8,hwk]
   have hlast:((bs.drop (m+k)).length:Int)=bs.length-m-k:=by rw[List.length_drop];omega
   have g6:bo q2 (.bvar 6)=false:=by rw[bY,G2.b 6 (by omega),b6];exact Bool.eq_false_iff.2 hb
   rw[←hρ]at G2
   refine⟨[[0,1]],[2],rfl,rfl,⟨⟨fun k=>q2.i (10+k),fun _=>false,fun _=>.empty,fun _=>.tuple #[],fun _=>Hl.none⟩,rfl,hnm.1,trivial⟩,_,most,H,bs,bad,_,rfl,rfl,⟨a,x,y,c,F,rfl,h⟩,rfl,?_,?_⟩
   ·rw[hs]
    refine Fy h G2 ?_ ?_ ?_ g6 (y':=if c-(m:Int)=k then(if c=(m:Int)then y else y+m)else(if c=(m:Int)then y else y+m)+k) (by split<;>omega) (c':=c-m-k) (by rw[hlast];omega) (qb h.byte _) (by rw[List.length_drop];omega) hd2
    ·rw[qC,eC,eK,hYq q2 g2]
    ·rw[aI,eN,eK,hlast]
    ·rw[aI,eC,eK]
   ·rw[hs]
    show dA (dF [q2.h 10]) _ _ _
    rw[bp];exact hO
end Go.Proofs.YtomdimlnggpgbaaGreatDoor
namespace Go.Proofs.YtomdimlnggpgbaaGreatDoor
open Go Go.Sx Go.Pk
abbrev Cb (x:Int) (n:Nat) (c:Int):Value:=.slice (ar x 0) ((n:Int)).toNat c.toNat
def nj (a:Nat) (x c:Int) (n:Nat) (lg:Bool):Hl:=Hl.one a (.cells #[Cb x n c,.bool lg] 208 (0,0))
structure vI (H:Hl) (a:Nat) (x c:Int) (F:Hl) (bs:List Int) (lg:Bool):Prop where
 rx:-1≤x
 rc:0≤c
 own:dA F 5 (Cb x bs.length c) bs
 na:¬F.mem a
 hl:H=dF [nj a x c bs.length lg,F]
def db (H:Hl) (p:Value) (bs:List Int) (lg:Bool):Prop:=∃ a x c F,p=.pointer (some ⟨a,0,none⟩)∧vI H a x c F bs lg
section
variable {H F:Hl} {a:Nat} {x c:Int} {bs:List Int} {lg:Bool}
theorem vI.le (h:vI H a x c F bs lg):(nj a x c bs.length lg).le H∧F.le H:=by
 have hd:(nj a x c bs.length lg).ch F:=Hl.eU.2 h.na
 rw[h.hl]
 show(nj a x c bs.length lg).le ((nj a x c bs.length lg).un (F.un Hl.none))∧F.le ((nj a x c bs.length lg).un (F.un Hl.none))
 rw[Hl.jX]
 exact⟨Hl.e8 _ _,Hl.ga hd⟩
theorem db.whole {p:Value} (h:db H p bs lg):∃ (a:Nat) (x c:Int),p=.pointer (some ⟨a,0,none⟩)∧ -1≤x∧0≤c∧H.cell a 0=some (Cb x bs.length c)∧H.cell a 1=some (.bool lg)∧mv H (Cb x bs.length c) bs:=by
 obtain⟨a,x,c,F,rfl,h⟩:=h
 obtain⟨l1,l2⟩:=h.le
 have e:=l1 a _ (Hl.bE _ _)
 exact⟨a,x,c,rfl,h.rx,h.rc,by unfold Hl.cell;rw[e];rfl,by unfold Hl.cell;rw[e];rfl,xf l2 h.own.rd⟩
theorem db.uniq {p:Value} {bs':List Int} {lg':Bool} (h:db H p bs lg) (h':db H p bs' lg'):bs=bs'∧lg=lg':=by
 obtain⟨a,x,c,rfl,_,_,h0,h1,hr⟩:=h.whole
 obtain⟨a',x',c',e,_,_,k0,k1,kr⟩:=h'.whole
 simp only[Value.pointer.injEq,Option.some.injEq,Addr.mk.injEq,and_true]at e
 subst e
 rw[h0]at k0
 rw[h1]at k1
 simp only[Option.some.injEq,Value.bool.injEq]at k0 k1
 rw[←k0]at kr
 exact⟨hr.uniq kr,k1⟩
end
theorem db.new (a:Nat):db (Hl.one a (.cells #[.slice none 0 0,.bool false] 208 (0,0))) (.pointer (some ⟨a,0,none⟩)) [] false:=by
 refine⟨a,-1,0,Hl.none,rfl,⟨Int.le_refl _,Int.le_refl _,⟨rfl,Or.inl ⟨rfl,rfl⟩⟩,fun h=>(by simp [Hl.mem,Hl.none]at h),?_⟩⟩
 show _=(nj a (-1) 0 0 false).un (Hl.none.un Hl.none)
 rw[Hl.jX,Hl.jX]
 rfl
def kG:Mem:=[.aS 0 [.sl (.var 1) (.lit 0) (.var 2) (.var 3),.bool (.bvar 6)] 208,.hp 7 [] [.var 1] []]
def mg (a:Nat) (x c:Int) (n:Nat) (lg:Bool) (F:Hl) (z:Int) (l:List Int) (R:Hl):Env:=bx ([(a:Int),x,n,c,0,z,0,0]++l) lg [Hl.none,Hl.none,Hl.none,Hl.none,Hl.none,Hl.none,Hl.none,F,Hl.none,Hl.none,Hl.none,Hl.none,R]
section
variable {H F:Hl} {a:Nat} {x c:Int} {bs:List Int} {lg:Bool}
theorem wZ (h:vI H a x c F bs lg) (z:Int) (l:List Int) (R:Hl):Entry (mg a x c bs.length lg F z l R) kG [H] []:=by
 obtain⟨l1,l2⟩:=h.le
 have hb:(bc.aS 0 [.sl (.var 1) (.lit 0) (.var 2) (.var 3),.bool (.bvar 6)] 208).hl (mg a x c bs.length lg F z l R)=nj a x c bs.length lg:=by
  show Hl.one ((a:Int)).toNat (.cells #[Cb x bs.length c,.bool lg] 208 (0,0))=_
  rw[Int.toNat_natCast];rfl
 refine⟨fun r hr ho=>⟨H,by simp,?_⟩,fun r hr ho=>?_,?_,fun r hr=>?_⟩
 ·simp only[kG,List.mem_cons,List.mem_nil_iff,or_false]at hr
  rcases hr with rfl | rfl
  ·rw[hb];exact l1
  ·exact l2
 ·simp only[kG,List.mem_cons,List.mem_nil_iff,or_false]at hr
  rcases hr with rfl | rfl<;>cases ho
 ·unfold kG
  refine List.Pairwise.cons (fun r hr _ _=>?_) (List.Pairwise.cons (fun r hr=>by cases hr) List.Pairwise.nil)
  rw[List.mem_singleton]at hr
  subst hr
  rw[hb]
  exact Hl.eU.2 h.na
 ·simp only[kG,List.mem_cons,List.mem_nil_iff,or_false]at hr
  rcases hr with rfl | rfl
  ·show(0:Int)≤(a:Int);omega
  ·trivial
theorem BJ (h:vI H a x c F bs lg) (z:Int) (l:List Int) (R:Hl) (t:List E):Entry (mg a x c bs.length lg F z l R) (kG++[.ro 12 t false]) [H] [R]:=by
 obtain⟨h1,h2,h3,h4⟩:=wZ h z l R
 refine⟨fun r hr ho=>?_,fun r hr ho=>?_,?_,fun r hr=>?_⟩
 ·rcases List.mem_append.1 hr with hr | hr
  ·exact h1 r hr ho
  ·rw[List.mem_singleton]at hr;subst hr;cases ho
 ·rcases List.mem_append.1 hr with hr | hr
  ·obtain⟨R,hR,_⟩:=h2 r hr ho;cases hR
  ·rw[List.mem_singleton]at hr;subst hr
   exact⟨R,by simp,Hl.le_refl _⟩
 ·rw[List.pairwise_append]
  refine⟨h3,by simp,fun r _ s hs _ ho=>?_⟩
  rw[List.mem_singleton]at hs;subst hs;cases ho
 ·rcases List.mem_append.1 hr with hr | hr
  ·exact h4 r hr
  ·rw[List.mem_singleton]at hr;subst hr;trivial
end
theorem DN {q:Env} {a:Nat} {X N C g:E} {k:Nat} {v7:List Nat} {t7:List E} {t:Mem} {bs:List Int} {lg:Bool} (h0:q.i 0=a) (hX:-1≤ak q X) (hN:ak q N=bs.length) (hC:0≤ak q C) (hg:bo q g=lg) (ho:dA (q.h k) 5 (Cb (ak q X) bs.length (ak q C)) bs)
 (hd:∀ (p s:Nat) r u,p≠s→(.aS 0 [.sl X (.lit 0) N C,.bool g] 208::.hp k v7 t7 []::t:Mem)[p]?=some r→(.aS 0 [.sl X (.lit 0) N C,.bool g] 208::.hp k v7 t7 []::t:Mem)[s]?=some u→r.own=true→(r.hl q).ch (u.hl q)) :
 db (tD q (.aS 0 [.sl X (.lit 0) N C,.bool g] 208::.hp k v7 t7 []::t) [0,1]) (.pointer (some ⟨a,0,none⟩)) bs lg:=by
 have hb:(bc.aS 0 [.sl X (.lit 0) N C,.bool g] 208).hl q=nj a (ak q X) (ak q C) bs.length lg:=by
  show Hl.one (q.i 0).toNat (.cells #[.slice (ar (ak q X) 0) (ak q N).toNat (ak q C).toNat,.bool (bo q g)] 208 (0,0))=_
  rw[h0,hN,hg,Int.toNat_natCast];rfl
 have d01:=hd 0 1 _ _ (by decide) rfl rfl rfl
 rw[hb]at d01
 refine⟨a,ak q X,ak q C,q.h k,rfl,hX,hC,ho,Hl.eU.1 d01,?_⟩
 show dF [(bc.aS 0 [.sl X (.lit 0) N C,.bool g] 208).hl q,q.h k]=_
 rw[hb]
theorem uI {A B:Hl} {x l c x1 c1:Int} {bs bs2:List Int} (ho:dA A 5 (.slice (ar x 0) l.toNat c.toNat) bs) (hl:l=bs.length) {m:Nat} (hm:m=bs2.length)
 (happ:∀ xs,bR A 5 1 (.slice (ar x 0) l.toNat c.toNat) l.toNat xs→bR B 5 1 (.slice (ar x1 0) (l.toNat+m) c1.toNat) (l.toNat+m) (xs++cn bs2)):dA B 5 (Cb x1 (bs++bs2).length c1) (bs++bs2):=by
 have hn:l.toNat=bs.length:=by omega
 have h1:bR A 5 1 (.slice (ar x 0) l.toNat c.toNat) l.toNat (cn bs):=by rw[hn]at ho ⊢;exact ho
 have h2:=happ _ h1
 unfold dA Cb
 rw[Int.toNat_natCast,List.length_append,ft,←hm,←hn]
 exact h2
theorem uJ {A:Hl} {x l c:Int} {bs:List Int} (ho:dA A 5 (.slice (ar x 0) l.toNat c.toNat) bs) (hl:l=bs.length):bR A 5 1 (.slice (ar x 0) l.toNat c.toNat) l.toNat (cn bs):=by
 have hn:l.toNat=bs.length:=by omega
 rw[hn]at ho ⊢;exact ho
def FD (f:FuncId) (ok:List Value→List Int→Prop) (act:List Value→List Int→List Int):Sx.Spec where
 fn:=f
 own:=[.arg 0]
 rd:=[]
 res:=[]
 pre:=fun xs Hs Rs=>∃ p z H bs lg,xs=[p,z]∧Hs=[H]∧db H p bs lg∧ok [z] bs∧bs.length≤900000
 post:=fun xs Hs Rs v Hs' F=>∃ p z H bs lg H',xs=[p,z]∧Hs=[H]∧db H p bs lg∧Hs'=[H']∧db H' p (act [z] bs) lg
def za (l:List Value) (bs:List Int):List Int:=bs++fe (fg l[0]?).toNat
def HQ (l:List Value) (_:List Int):Prop:=∃ z:Int,l=[.int .u64 z]∧0≤z∧z<18446744073709551616
def AF:Sx.Spec:=FD 156 HQ za
def zf:Nd:=.and (.inv 0 [⟨24,0,.int .i64 (.var 5)⟩,⟨20,0,.int .i64 (.var 1)⟩,⟨22,0,.int .i64 (.var 2)⟩,⟨23,0,.int .i64 (.var 3)⟩] [(25,some 7)]) (.havoc 0 0 8 (.and (.imp (.le (.lit 128) (.var 24)) (.ext (.alloc 30) (.and (.pre (.app 31 5 1 1 (.sl (.var 20) (.lit 0) (.var 22) (.var 23)) (.var 22) (.hp 25 [] [.var 20] []) (.cvs [.int .u8 (.bits .or .u8 (.wrap .u8 (.var 24)) (.lit 128))] 1))) (.ext (.app 31 5 1 1 (.sl (.var 20) (.lit 0) (.var 22) (.var 23)) (.var 22) (.hp 25 [] [.var 20] []) (.cvs [.int .u8 (.bits .or .u8 (.wrap .u8 (.var 24)) (.lit 128))] 1)) (.back 0 0 [⟨24,0,.int .i64 (.shr .u64 (.var 24) (.lit 7))⟩,⟨20,0,.int .i64 (.var 31)⟩,⟨22,0,.int .i64 (.add (.var 22) (.lit 1))⟩,⟨23,0,.int .i64 (.var 32)⟩] [(25,some 31)]))))) (.imp (.not (.le (.lit 128) (.var 24))) (.ext (.alloc 30) (.and (.pre (.app 31 5 1 1 (.sl (.var 20) (.lit 0) (.var 22) (.var 23)) (.var 22) (.hp 25 [] [.var 20] []) (.cvs [.int .u8 (.wrap .u8 (.var 24))] 1))) (.ext (.app 31 5 1 1 (.sl (.var 20) (.lit 0) (.var 22) (.var 23)) (.var 22) (.hp 25 [] [.var 20] []) (.cvs [.int .u8 (.wrap .u8 (.var 24))] 1)) (.post [.aS 0 [.sl (.var 31) (.lit 0) (.add (.var 22) (.lit 1)) (.var 32),.bool (.bvar 6)] 208,.hp 31 [25] [.var 31,.var 20] [],.dead] (.tup []))))))))
def HU:cy Tryz.prog [] 156 where
 Λ:=fun p=>if ES p then some ⟨0,[(1,TI .u64 (.var 24))],[(0,.aS 0 [.sl (.var 20) (.lit 0) (.var 22) (.var 23),.bool (.bvar 6)] 208),(1,.hp 25 [] [.var 20] [])],30⟩else none
 args:=[TP (.var 0) (.lit 0),TI .u64 (.var 5)]
 mem:=kG
 nv:=8
 nd:=zf
 ok:=by kernel_rfl
def E0 (all:List Int) (m:Nat) (_:Nat) (q:Env):Prop:=∃ (y:Nat) (done:List Int),q.i 24=y∧done++fe y=all∧done.length≤m∧q.i 22=done.length∧ -1≤q.i 20∧0≤q.i 23∧dA (q.h 25) 5 (.slice (ar (q.i 20) 0) (q.i 22).toNat (q.i 23).toNat) done
theorem nZ {z:Nat} (h:z<18446744073709551616):(fe z).length≤10:=by
 refine wR 9 z (Nat.lt_of_lt_of_le h (by decide))
theorem DE:AF.OK Tryz.prog:=by
 refine Spec.b8 (Γ:=[]) (fun _ h=>by cases h) ?_
 rintro xs Hs Rs hl1 hl2 ⟨p,zv,H,bs,lg,rfl,rfl,⟨a,x,c,F,rfl,h⟩,⟨z,hz,hz0,hz1⟩,hlen⟩
 have hz:zv=.int .u64 z:=by simpa using hz
 subst hz
 have e1:Rs=[]:=List.length_eq_zero_iff.1 hl2
 subst e1
 have hnb:=nZ (z:=z.toNat) (by omega)
 refine⟨HU,mg a x c bs.length lg F z [] Hl.none,E0 (bs++fe z.toNat) (bs.length+10),fun _ q=>(q.i 24).toNat,?_,wZ h z [] _,(fun _ h=>nomatch h),?_⟩
 ·show [Value.pointer (ar (a:Int) 0),Value.int .u64 z]=_
  rw[eV]
 ·show Nd.holds _ _ _ zf
  generalize hρ:mg a x c bs.length lg F z [] Hl.none=ρ
  have v0:ρ.i 0=a:=by rw[←hρ];rfl
  have v1:ρ.i 1=x:=by rw[←hρ];rfl
  have v2:ρ.i 2=bs.length:=by rw[←hρ];rfl
  have v3:ρ.i 3=c:=by rw[←hρ];rfl
  have v5:ρ.i 5=z:=by rw[←hρ];rfl
  have b6:ρ.b 6=lg:=by rw[←hρ];rfl
  have w7:ρ.h 7=F:=by rw[←hρ];rfl
  clear hρ
  unfold zf
  simp only[Nd.holds,X.pre,X.rel,X.n,Src.ok,Src.len,Src.bS,true_and,and_true,if_true,Nat.mul_one,Nat.add_zero,Nat.reduceAdd,List.length_cons,List.length_nil,bN,bK,aP,ba,bb,bM,bj,bJ,bI,bD,bd,bk,bL,bg,bf,aQ,bh,ah,ai,aE,aI,aK,ax,aF,aV,aT,au,aO,aC,aN,aB,TV.ev,SV.ev,CV.ev,List.map_cons,List.map_nil,bc.hl]
  refine⟨⟨z.toNat,bs,?_,rfl,by omega,?_,?_,?_,?_⟩,fun q g ⟨y,done,e24,hall,hdl,e22,r20,r23,hO⟩=>?_⟩
  ·show ρ.i 5=_
   rw[v5];omega
  ·show ρ.i 2=_
   exact v2
  ·show -1≤ρ.i 1
   rw[v1];exact h.rx
  ·show 0≤ρ.i 3
   rw[v3];exact h.rc
  ·show dA (ρ.h 7) _ (.slice (ar (ρ.i 1) 0) (ρ.i 2).toNat (ρ.i 3).toNat) bs
   rw[w7,v1,v2,v3];exact h.own
  have hal:=congrArg List.length hall
  rw[List.length_append,List.length_append]at hal
  refine⟨fun hge q1 g1 _=>?_,fun hlt q1 g1 _=>?_⟩
  ·rw[g1.h 25 (by omega),g1.i 20 (by omega),g1.i 22 (by omega),g1.i 23 (by omega)]
   refine⟨⟨⟨_,uJ hO e22⟩,by omega,by unfold maxLen;omega,by omega⟩,fun q2 g2 ⟨a1,a2,a3,_⟩=>?_⟩
   rw[e24]at hge
   have hyh:fe y=((y%128+128:Nat):Int)::fe (y/128):=il (by omega)
   have eb:ak q1 (.bits .or .u8 (.wrap .u8 (.var 24)) (.lit 128))=((y%128+128:Nat):Int):=by
    show kb .or .u8 (IntKind.u8.wrap (q1.i 24)) 128=_
    rw[g1.i 24 (by omega),e24];exact HM
   rw[eb]at a3
   have hO2:=uI (bs2:=[((y%128+128:Nat):Int)]) (m:=1) hO e22 rfl a3
   have e24':ak q2 (.shr .u64 (.var 24) (.lit 7))=((y/128:Nat):Int):=by
    show(q2.i 24).fdiv (2 ^ (7:Int).toNat)=_
    rw[g2.i 24 (by omega),g1.i 24 (by omega),e24];exact JP
   refine⟨⟨y/128,done++[((y%128+128:Nat):Int)],e24',?_,?_,?_,a1,a2,?_⟩,?_⟩
   ·rw[List.append_assoc,←hall,hyh];rfl
   ·rw[List.length_append,List.length_singleton]
    rw[hyh,List.length_cons]at hal
    omega
   ·show q2.i 22+1=_
    rw[g2.i 22 (by omega),g1.i 22 (by omega),e22,List.length_append,List.length_singleton];omega
   ·show dA (q2.h 31) _ (.slice (ar (q2.i 31) 0) (q2.i 22+1).toNat (q2.i 32).toNat) _
    rw[g2.i 22 (by omega),g1.i 22 (by omega),e22]
    have:=hO2
    unfold Cb at this
    rw[List.length_append,List.length_singleton]at this
    exact this
   ·show(ak q2 (.shr .u64 (.var 24) (.lit 7))).toNat<(q.i 24).toNat
    rw[e24',e24];omega
  ·rw[g1.h 25 (by omega),g1.i 20 (by omega),g1.i 22 (by omega),g1.i 23 (by omega)]
   refine⟨⟨⟨_,uJ hO e22⟩,by omega,by unfold maxLen;omega,by omega⟩,fun q2 g2 ⟨a1,a2,a3,_⟩ hd=>?_⟩
   rw[e24]at hlt
   have hyl:fe y=[(y:Int)]:=fR (by omega)
   have eb:IntKind.u8.wrap (q1.i 24)=(y:Int):=by
    rw[g1.i 24 (by omega),e24,Iv];omega
   rw[eb]at a3
   have hO2:=uI (bs2:=[(y:Int)]) (m:=1) hO e22 rfl a3
   rw[←hyl,hall]at hO2
   have G:ae 8 ρ q2:=g.trans ((g1.mono (by omega)).trans (g2.mono (by omega)))
   refine⟨[[0,1]],[],rfl,rfl,⟨⟨fun _=>0,fun _=>false,fun _=>.empty,fun _=>.tuple #[],fun _=>Hl.none⟩,rfl,trivial⟩,_,_,H,bs,lg,_,rfl,rfl,⟨a,x,c,F,rfl,h⟩,rfl,DN (by rw[G.i 0 (by omega),v0]) a1 ?_ a2 (by rw[bY,G.b 6 (by omega),b6]) hO2 hd⟩
   show q2.i 22+1=((bs++fe z.toNat).length:Int)
   rw[g2.i 22 (by omega),g1.i 22 (by omega),e22,List.length_append]
   rw[hyl,List.length_singleton]at hal
   omega
end Go.Proofs.YtomdimlnggpgbaaGreatDoor
namespace Go.Proofs.YtomdimlnggpgbaaGreatDoor
open Go Go.Sx Go.Pk
def s9:Sx.Spec where
 fn:=157
 own:=[.arg 0]
 rd:=[1]
 res:=[]
 pre:=fun xs Hs Rs=>∃ p u H R bs lg b2,xs=[p,u]∧Hs=[H]∧Rs=[R]∧db H p bs lg∧fw R u b2∧bs.length≤900000∧b2.length≤90000
 post:=fun xs Hs Rs v Hs' F=>∃ p u H R bs lg b2 H',xs=[p,u]∧Hs=[H]∧Rs=[R]∧db H p bs lg∧fw R u b2∧Hs'=[H']∧db H' p (bs++b2) lg
def zg:Nd:=.and (.pre (.app 13 5 1 1 (.sl (.var 1) (.lit 0) (.var 2) (.var 3)) (.var 2) (.hp 7 [] [.var 1] []) (.seg 12 (.var 8) (.var 9) (.var 10)))) (.ext (.app 13 5 1 1 (.sl (.var 1) (.lit 0) (.var 2) (.var 3)) (.var 2) (.hp 7 [] [.var 1] []) (.seg 12 (.var 8) (.var 9) (.var 10))) (.post [.aS 0 [.sl (.var 13) (.lit 0) (.add (.var 2) (.var 10)) (.var 14),.bool (.bvar 6)] 208,.hp 13 [7] [.var 13,.var 1] [],.ro 12 [.var 8] false] (.tup [])))
def HV:cy Tryz.prog [] s9.fn where
 Λ:=aH
 args:=[TP (.var 0) (.lit 0),.sv (.one (.sl (.var 8) (.var 9) (.var 10) (.var 11)))]
 mem:=kG++[.ro 12 [.var 8] false]
 nv:=13
 nd:=zg
 ok:=by kernel_rfl
theorem DF:s9.OK Tryz.prog:=by
 refine Spec.b8 (Γ:=[]) (fun _ h=>by cases h) ?_
 rintro xs Hs Rs hl1 hl2 ⟨p,u,H,R,bs,lg,b2,rfl,rfl,rfl,⟨a,x,c,F,rfl,h⟩,hRd,hlen,hl2'⟩
 obtain⟨x2,y2,c2,rfl,hy2,hR⟩:=id hRd
 refine⟨HV,mg a x c bs.length lg F 0 [x2,y2,b2.length,c2] R,fun _ _=>True,fun _ _=>0,?_,BJ h 0 _ R _,(fun _ h=>nomatch h),?_⟩
 ·show [Value.pointer (ar (a:Int) 0),Value.slice (ar x2 y2) ((b2.length:Int)).toNat ((c2:Int)).toNat]=_
  rw[eV,Int.toNat_natCast,Int.toNat_natCast]
 ·show Nd.holds _ _ _ zg
  generalize hρ:mg a x c bs.length lg F 0 [x2,y2,b2.length,c2] R=ρ
  have v0:ρ.i 0=a:=by rw[←hρ];rfl
  have v1:ρ.i 1=x:=by rw[←hρ];rfl
  have v2:ρ.i 2=bs.length:=by rw[←hρ];rfl
  have v3:ρ.i 3=c:=by rw[←hρ];rfl
  have v8:ρ.i 8=x2:=by rw[←hρ];rfl
  have v9:ρ.i 9=y2:=by rw[←hρ];rfl
  have v10:ρ.i 10=b2.length:=by rw[←hρ];rfl
  have b6:ρ.b 6=lg:=by rw[←hρ];rfl
  have w7:ρ.h 7=F:=by rw[←hρ];rfl
  have w12:ρ.h 12=R:=by rw[←hρ];rfl
  clear hρ
  unfold zg
  simp only[Nd.holds,X.pre,X.rel,X.n,Src.ok,Src.len,Src.bS,true_and,and_true,if_true,Nat.mul_one,Nat.add_zero,Nat.reduceAdd,List.length_cons,List.length_nil,bN,bK,aP,ba,bb,bM,bj,bJ,bI,bD,bd,bk,bL,bg,bf,aQ,bh,ah,ai,aE,aI,aK,ax,aF,aV,aT,au,aO,aC,aN,aB,TV.ev,SV.ev,CV.ev,List.map_cons,List.map_nil,bc.hl]
  rw[v1,v2,v3,v8,v9,v10,w7,w12]
  obtain⟨hok,hseg⟩:=uZ (R:=R) (x:=x2) (y:=y2) (l:=(b2.length:Int)) rfl hy2 hR
  have hO:dA F 5 (.slice (ar x 0) ((bs.length:Int)).toNat c.toNat) bs:=h.own
  refine⟨⟨⟨_,uJ hO rfl⟩,by omega,by simpa using hok,by rw[Int.toNat_natCast,Int.toNat_natCast];unfold maxLen;omega,by rw[Int.toNat_natCast,Int.toNat_natCast];omega⟩,fun q2 g2 ⟨a1,a2,a3,_⟩ hd=>?_⟩
  rw[hseg]at a3
  have hO2:=uI (bs2:=b2) (m:=((b2.length:Int)).toNat) hO rfl (Int.toNat_natCast _) a3
  refine⟨[[0,1]],[],rfl,rfl,⟨⟨fun _=>0,fun _=>false,fun _=>.empty,fun _=>.tuple #[],fun _=>Hl.none⟩,rfl,trivial⟩,_,_,H,R,bs,lg,b2,_,rfl,rfl,rfl,⟨a,x,c,F,rfl,h⟩,hRd,rfl,DN (by rw[g2.i 0 (by omega),v0]) a1 ?_ a2 (by rw[bY,g2.b 6 (by omega),b6]) hO2 hd⟩
  show q2.i 2+q2.i 10=((bs++b2).length:Int)
  rw[g2.i 2 (by omega),g2.i 10 (by omega),v2,v10,List.length_append];omega
def aR (b:List Int):List Int:=fe b.length++b
def lx (bs:List Int) (lg:Bool) (b2:List Int):List Int×Bool:=if 4096<b2.length then(bs,true)else(bs++aR b2,lg)
def n4:Sx.Spec where
 fn:=127
 own:=[.arg 0]
 rd:=[1]
 res:=[]
 pre:=fun xs Hs Rs=>∃ p u H R bs lg b2,xs=[p,u]∧Hs=[H]∧Rs=[R]∧db H p bs lg∧fw R u b2∧bs.length≤800000∧0≤b2.length
 post:=fun xs Hs Rs v Hs' F=>∃ p u H R bs lg b2 H',xs=[p,u]∧Hs=[H]∧Rs=[R]∧db H p bs lg∧fw R u b2∧Hs'=[H']∧db H' p (lx bs lg b2).1 (lx bs lg b2).2
def uH:Nd:=.and (.e (.le (.lit 0) (.var 10))) (.and (.imp (.lt (.lit 4096) (.var 10)) (.and (.e (.le (.lit 0) (.var 0))) (.and (.pre (.put 13 1 (.var 0) (.lit 1) [.bool .tt])) (.ext (.put 13 1 (.var 0) (.lit 1) [.bool .tt]) (.post [.hp 13 [1] [.var 0] [],.ro 12 [.var 8] false] (.tup [])))))) (.imp (.not (.lt (.lit 4096) (.var 10))) (.and (.pre (.call 0 13 [.sv (.one (.hptr (.var 0) (.lit 0))),.sv (.one (.int .u64 (.wrap .u64 (.var 10))))] [.hp 1 [] [.var 0] []] [])) (.ext (.call 0 13 [.sv (.one (.hptr (.var 0) (.lit 0))),.sv (.one (.int .u64 (.wrap .u64 (.var 10))))] [.hp 1 [] [.var 0] []] []) (.and (.pre (.call 1 15 [.sv (.one (.hptr (.var 0) (.lit 0))),.sv (.one (.sl (.var 8) (.var 9) (.var 10) (.var 11)))] [.hp 13 [1] [.var 0] []] [.ro 12 [.var 8] false])) (.ext (.call 1 15 [.sv (.one (.hptr (.var 0) (.lit 0))),.sv (.one (.sl (.var 8) (.var 9) (.var 10) (.var 11)))] [.hp 13 [1] [.var 0] []] [.ro 12 [.var 8] false]) (.post [.hp 15 [13,1] [.var 0] [],.ro 12 [.var 8] false] (.tup []))))))))
def oΓ:List Sx.Spec:=[AF,s9,gX]
theorem FE:∀ t∈oΓ,t.OK Tryz.prog:=fun t ht=>by
 simp only[oΓ,List.mem_cons,List.mem_nil_iff,or_false]at ht
 rcases ht with rfl | rfl | rfl
 ·exact DE
 ·exact DF
 ·exact qg
theorem Jn:oΓ[0]?=some AF:=rfl
theorem Jo:oΓ[1]?=some s9:=rfl
theorem Jp:oΓ[2]?=some gX:=rfl
theorem Jr:AF.res=[]:=rfl
theorem Js:s9.res=[]:=rfl
def qX:cy Tryz.prog oΓ n4.fn where
 Λ:=aH
 args:=[TP (.var 0) (.lit 0),.sv (.one (.sl (.var 8) (.var 9) (.var 10) (.var 11)))]
 mem:=[.hp 1 [] [.var 0] [],.ro 12 [.var 8] false]
 nv:=13
 nd:=uH
 ok:=by kernel_rfl
theorem db.Fi {H:Hl} {a:Nat} {bs:List Int} {lg:Bool} (h:db H (.pointer (some ⟨a,0,none⟩)) bs lg):H.wr a 1 1=true∧db (H.put a 1 [.bool true]) (.pointer (some ⟨a,0,none⟩)) bs true:=by
 obtain⟨a',x,c,F,e,h⟩:=h
 simp only[Value.pointer.injEq,Option.some.injEq,Addr.mk.injEq,and_true]at e
 subst e
 obtain⟨l1,_⟩:=h.le
 have e:=l1 a _ (Hl.bE _ _)
 refine⟨by unfold Hl.wr;rw[e];rfl,a,x,c,F,rfl,h.rx,h.rc,h.own,h.na,?_⟩
 rw[h.hl]
 funext k
 unfold Hl.put
 by_cases hk:k=a
 ·subst hk
  rw[if_pos rfl]
  have e2:dF [nj k x c bs.length lg,F] k=some (.cells #[Cb x bs.length c,.bool lg] 208 (0,0)):=by rw[←h.hl];exact e
  have e3:dF [nj k x c bs.length true,F] k=some (.cells #[Cb x bs.length c,.bool true] 208 (0,0)):=Hl.r5 (Hl.bE _ _)
  rw[e2]
  exact e3.symm
 ·rw[if_neg hk]
  have n1:∀ g:Bool,¬(nj a x c bs.length g).mem k:=fun g hm=>hk (Hl.cI.1 hm)
  show((nj a x c bs.length lg).un _) k=((nj a x c bs.length true).un _) k
  rw[Hl.kX (n1 _),Hl.kX (n1 _)]
theorem E3 {f:FuncId} {ok:List Value→List Int→Prop} {act:List Value→List Int→List Int} {p z v:Value} {H F:Hl} {K Rs:List Hl} {bs:List Int} {lg:Bool} (h:db H p bs lg) (hp:(FD f ok act).post [p,z] [H] Rs v K F):∃ H',K=[H']∧db H' p (act [z] bs) lg:=by
 obtain⟨p',z',Hx,bs',lg',H',hx,hH,hO,hK,hO'⟩:=hp
 have hx:p=p'∧z=z':=by simpa using hx
 obtain⟨e1,e2⟩:=hx
 have hH:H=Hx:=by simpa using hH
 subst e1 e2 hH
 obtain⟨e1,e2⟩:=h.uniq hO
 subst e1 e2
 exact⟨H',hK,hO'⟩
theorem DP {p u v:Value} {H R F:Hl} {K:List Hl} {bs b2:List Int} {lg:Bool} (h:db H p bs lg) (h2:fw R u b2) (hp:s9.post [p,u] [H] [R] v K F):∃ H',K=[H']∧db H' p (bs++b2) lg:=by
 obtain⟨p',z',Hx,Rx,bs',lg',b2',H',hx,hH,hR,hO,hB,hK,hO'⟩:=hp
 have hx:p=p'∧u=z':=by simpa using hx
 obtain⟨e1,e2⟩:=hx
 have hH:H=Hx:=by simpa using hH
 have hR:R=Rx:=by simpa using hR
 subst e1 e2 hH hR
 obtain⟨e1,e2⟩:=h.uniq hO
 subst e1 e2
 have e:=h2.uniq hB
 subst e
 exact⟨H',hK,hO'⟩
theorem BH:n4.OK Tryz.prog:=by
 refine Spec.b8 (Γ:=oΓ) FE ?_
 rintro xs Hs Rs hl1 hl2 ⟨p,u,H,R,bs,lg,b2,rfl,rfl,rfl,h,hRd,hlen,hl2'⟩
 obtain⟨a,_,_,rfl,_⟩:=h.whole
 obtain⟨x2,y2,c2,rfl,hy2,hR⟩:=id hRd
 refine⟨qX,bx [(a:Int),0,0,0,0,0,0,0,x2,y2,b2.length,c2] false [Hl.none,H,Hl.none,Hl.none,Hl.none,Hl.none,Hl.none,Hl.none,Hl.none,Hl.none,Hl.none,Hl.none,R],fun _ _=>True,fun _ _=>0,?_,⟨?_,?_,?_,?_⟩,(fun _ h=>nomatch h),?_⟩
 ·show [Value.pointer (ar (a:Int) 0),Value.slice (ar x2 y2) ((b2.length:Int)).toNat ((c2:Int)).toNat]=_
  rw[eV,Int.toNat_natCast,Int.toNat_natCast]
 ·intro r hr ho;simp [qX]at hr
  rcases hr with rfl | rfl
  ·exact⟨H,by simp,Hl.le_refl _⟩
  ·cases ho
 ·intro r hr ho;simp [qX]at hr
  rcases hr with rfl | rfl
  ·cases ho
  ·exact⟨R,by simp,Hl.le_refl _⟩
 ·simp [qX,bc.own]
 ·intro r hr;simp [qX]at hr;rcases hr with rfl | rfl<;>trivial
 ·show Nd.holds _ _ _ uH
  generalize hρ:bx [(a:Int),0,0,0,0,0,0,0,x2,y2,b2.length,c2] false [Hl.none,H,Hl.none,Hl.none,Hl.none,Hl.none,Hl.none,Hl.none,Hl.none,Hl.none,Hl.none,Hl.none,R]=ρ
  have v0:ρ.i 0=a:=by rw[←hρ];rfl
  have v8:ρ.i 8=x2:=by rw[←hρ];rfl
  have v9:ρ.i 9=y2:=by rw[←hρ];rfl
  have v10:ρ.i 10=b2.length:=by rw[←hρ];rfl
  have v11:ρ.i 11=c2:=by rw[←hρ];rfl
  have w1:ρ.h 1=H:=by rw[←hρ];rfl
  have w12:ρ.h 12=R:=by rw[←hρ];rfl
  clear hρ
  have out:∀ (q:Env) (k:Nat) (vs:List Nat) (t:Mem) (r:List Int×Bool),lx bs lg b2=r→db (q.h k) (.pointer (some ⟨a,0,none⟩)) r.1 r.2→postOf n4 [.pointer (some ⟨a,0,none⟩),.slice (ar x2 y2) b2.length c2] [H] [R] q (.hp k vs [.var 0] []::t) (.tup []):=by
   intro q k vs t r hr ho _
   refine⟨[[0]],[],rfl,rfl,⟨⟨fun _=>0,fun _=>false,fun _=>.empty,fun _=>.tuple #[],fun _=>Hl.none⟩,rfl,trivial⟩,_,_,H,R,bs,lg,b2,_,rfl,rfl,rfl,h,hRd,rfl,?_⟩
   rw[hr]
   show db (dF [q.h k]) _ _ _
   rw[bp];exact ho
  have tn1:Int.toNat 1=1:=rfl
  unfold uH
  simp only[Nd.holds,X.pre,X.rel,X.n,Src.ok,Src.len,Src.bS,true_and,and_true,if_true,Nat.mul_one,Nat.add_zero,Nat.reduceAdd,List.length_cons,List.length_nil,bN,bK,aP,ba,bb,bM,bj,bJ,bI,bD,bd,bk,bL,bg,bf,aQ,bh,ah,ai,aE,aI,aK,ax,aF,aV,aT,au,aO,aC,aN,aB,TV.ev,SV.ev,CV.ev,List.map_cons,List.map_nil,bc.hl,df,Cp.sv,Ck.cv,ct,Cp.len,Ck.len,aU,bm,bC,Jn,Jo,Jr,Js,tn1]
  rw[v10,v0,w1,Int.toNat_natCast]
  obtain⟨hw,hset⟩:=h.Fi
  refine⟨by omega,fun hgt=>⟨by omega,⟨by omega,by omega,hw⟩,fun q g h13=>?_⟩,fun hle=>?_⟩
  ·refine out q 13 _ _ (bs,true) (by unfold lx;rw[if_pos (by omega)]) ?_
   rw[h13];exact hset
  ·have hu:IntKind.u64.wrap ((b2.length:Nat):Int)=b2.length:=B6 (by omega) (by omega)
   rw[hu,eV]
   refine⟨⟨_,_,H,bs,lg,rfl,rfl,h,⟨_,rfl,by omega,by omega⟩,by omega⟩,fun q g ⟨F1,hp,_,_⟩=>?_⟩
   obtain⟨H1,hK1,hO1⟩:=E3 h hp
   have hK1:q.h 13=H1:=by simpa using hK1
   rw[←hK1]at hO1
   have eN:za [Value.int .u64 ((b2.length:Nat):Int)] bs=bs++fe b2.length:=by
    unfold za
    show bs++fe (((b2.length:Nat):Int)).toNat=_
    rw[Int.toNat_natCast]
   rw[eN]at hO1
   have hnb:=nZ (z:=b2.length) (by omega)
   rw[g.i 0 (by omega),v0,g.i 8 (by omega),v8,g.i 9 (by omega),v9,g.i 10 (by omega),v10,g.i 11 (by omega),v11,g.h 12 (by omega),w12,eV,Int.toNat_natCast,Int.toNat_natCast]
   refine⟨⟨_,_,_,R,_,lg,b2,rfl,rfl,rfl,hO1,hRd,by rw[List.length_append];omega,by omega⟩,fun q2 g2 ⟨F2,hp2,_,_⟩=>?_⟩
   obtain⟨H2,hK2,hO2⟩:=DP hO1 hRd hp2
   have hK2:q2.h 15=H2:=by simpa using hK2
   refine out q2 15 _ _ (bs++aR b2,lg) (by unfold lx;rw[if_neg (by omega)]) ?_
   rw[hK2]
   unfold aR
   rw[←List.append_assoc];exact hO2
end Go.Proofs.YtomdimlnggpgbaaGreatDoor
namespace Go.Proofs.YtomdimlnggpgbaaGreatDoor
open Go Go.Sx Go.Pk
def so (bs:List Int) (lg:Bool):List Int×Int:=if lg=true∨16384<bs.length then([],3)else(bs,0)
def s7:Sx.Spec where
 fn:=128
 own:=[]
 rd:=[0]
 res:=[.one .sl,.one (.int .i64)]
 pre:=fun xs Hs Rs=>∃ p R bs lg,xs=[p]∧Rs=[R]∧db R p bs lg∧bs.length≤1000000
 post:=fun xs Hs Rs v Hs' F=>∃ p R bs lg u,xs=[p]∧Rs=[R]∧db R p bs lg∧v=.tuple #[u,.int .i64 (so bs lg).2]∧dA F 5 u (so bs lg).1
def ze:Nd:=.and (.e (.le (.lit 0) (.var 0))) (.and (.e (.his 2 (.var 0) (.lit 1) 0 .bool)) (.and (.imp (.not (.hB 2 (.var 0) (.lit 1) 0)) (.and (.e (.his 2 (.var 0) (.lit 0) 0 .slice)) (.and (.e (.le (.lit 0) (.hP 2 (.var 0) (.lit 0) 0 2))) (.and (.imp (.lt (.lit 16384) (.hP 2 (.var 0) (.lit 0) 0 2)) (.post [.ro 1 [.hP 2 (.var 0) (.lit 0) 0 0] false,.ro 2 [.var 0] false] (.tup [.one (.sl (.lit (-1)) (.lit 0) (.lit 0) (.lit 0)),.one (.int .i64 (.lit 3))]))) (.imp (.not (.lt (.lit 16384) (.hP 2 (.var 0) (.lit 0) 0 2))) (.and (.pre (.call 2 3 [.sv (.one (.sl (.hP 2 (.var 0) (.lit 0) 0 0) (.hP 2 (.var 0) (.lit 0) 0 1) (.hP 2 (.var 0) (.lit 0) 0 2) (.hP 2 (.var 0) (.lit 0) 0 3)))] [] [.ro 1 [.hP 2 (.var 0) (.lit 0) 0 0] false])) (.ext (.call 2 3 [.sv (.one (.sl (.hP 2 (.var 0) (.lit 0) 0 0) (.hP 2 (.var 0) (.lit 0) 0 1) (.hP 2 (.var 0) (.lit 0) 0 2) (.hP 2 (.var 0) (.lit 0) 0 3)))] [] [.ro 1 [.hP 2 (.var 0) (.lit 0) 0 0] false]) (.post [.ro 1 [.hP 2 (.var 0) (.lit 0) 0 0] false,.ro 2 [.var 0] false,.hp 3 [] [.var 3] []] (.tup [.one (.sl (.var 3) (.var 4) (.var 5) (.var 6)),.one (.int .i64 (.lit 0))]))))))))) (.imp (.hB 2 (.var 0) (.lit 1) 0) (.post [.ro 1 [.hP 2 (.var 0) (.lit 0) 0 0] false,.ro 2 [.var 0] false] (.tup [.one (.sl (.lit (-1)) (.lit 0) (.lit 0) (.lit 0)),.one (.int .i64 (.lit 3))])))))
def wV:cy Tryz.prog oΓ s7.fn where
 Λ:=aH
 args:=[TP (.var 0) (.lit 0)]
 mem:=[.ro 1 [.hP 2 (.var 0) (.lit 0) 0 0] false,.ro 2 [.var 0] false]
 nv:=3
 nd:=ze
 ok:=by kernel_rfl
theorem Jt:gX.res=[.one .sl]:=rfl
theorem KP {x y:Int} (hx:-1≤x) (n c:Nat):cH (some (.slice (ar x y) n c)) 3=c:=by
 rcases Int.lt_or_le x 0 with h | h
 ·obtain rfl:x= -1:=by omega
  rfl
 ·rw[aq h];rfl
theorem JQ {x:Int} (hx:-1≤x) (n c:Nat):cH (some (.slice (ar x 0) n c)) 1=0:=by
 rcases Int.lt_or_le x 0 with h | h
 ·obtain rfl:x= -1:=by omega
  rfl
 ·rw[aq h];rfl
theorem DD:s7.OK Tryz.prog:=by
 refine Spec.b8 (Γ:=oΓ) FE ?_
 rintro xs Hs Rs hl1 hl2 ⟨p,R,bs,lg,rfl,rfl,h,hlen⟩
 have e0:Hs=[]:=List.length_eq_zero_iff.1 hl1
 subst e0
 obtain⟨a,x,c,rfl,hx,hc,hc0,hc1,hR⟩:=h.whole
 unfold Cb at hc0 hR
 rw[Int.toNat_natCast]at hc0 hR
 refine⟨wV,bx [(a:Int)] false [Hl.none,R,R],fun _ _=>True,fun _ _=>0,?_,⟨?_,?_,?_,?_⟩,(fun _ h=>nomatch h),?_⟩
 ·show [Value.pointer (ar (a:Int) 0)]=_
  rw[eV]
 ·intro r hr ho;simp [wV]at hr;rcases hr with rfl | rfl<;>cases ho
 ·intro r hr ho;simp [wV]at hr
  rcases hr with rfl | rfl<;>exact⟨R,by simp,Hl.le_refl _⟩
 ·simp [wV,bc.own]
 ·intro r hr;simp [wV]at hr;rcases hr with rfl | rfl<;>trivial
 ·show Nd.holds _ _ _ ze
  generalize hρ:bx [(a:Int)] false [Hl.none,R,R]=ρ
  have v0:ρ.i 0=a:=by rw[←hρ];rfl
  have w1:ρ.h 1=R:=by rw[←hρ];rfl
  have w2:ρ.h 2=R:=by rw[←hρ];rfl
  clear hρ
  have fail:∀ (mem:Mem),lg=true∨16384<bs.length→postOf s7 [.pointer (some ⟨a,0,none⟩)] [] [R] ρ mem (.tup [.one (.sl (.lit (-1)) (.lit 0) (.lit 0) (.lit 0)),.one (.int .i64 (.lit 3))]):=by
   intro mem hf _
   have hs:so bs lg=([],3):=by unfold so;rw[if_pos hf]
   refine⟨[],[],rfl,rfl,⟨⟨fun k=>if k=0 then -1 else if k=4 then 3 else 0,fun _=>false,fun _=>.empty,fun _=>.tuple #[],fun _=>Hl.none⟩,rfl,⟨Int.le_refl _,Int.le_refl _,Int.le_refl _,Int.le_refl _⟩,trivial,trivial⟩,_,R,bs,lg,.slice none 0 0,rfl,rfl,h,?_,?_⟩
   ·rw[hs];rfl
   ·rw[hs];exact xa _ _
  have tn0:Int.toNat 0=0:=rfl
  have tn1:Int.toNat 1=1:=rfl
  unfold ze
  simp only[Nd.holds,X.pre,X.rel,X.n,Src.ok,Src.len,Src.bS,true_and,and_true,if_true,Nat.mul_one,Nat.add_zero,Nat.reduceAdd,List.length_cons,List.length_nil,bN,bK,aP,ba,bb,bM,bj,bJ,bI,bD,bd,bk,bL,bg,bf,aQ,bh,ah,ai,aE,aI,aK,ax,aF,aV,aT,au,aO,aC,aN,aB,TV.ev,SV.ev,CV.ev,List.map_cons,List.map_nil,bc.hl,df,Cp.sv,Ck.cv,ct,Cp.len,Ck.len,aU,bm,bC,Jp,Jt,Ja,tn0,tn1]
  rw[v0,w2,w1,Int.toNat_natCast,hc0,hc1,Ia hx,H9 hx,JQ hx,KP hx]
  refine⟨by omega,rfl,fun hb=>⟨rfl,by omega,fun hlt=>fail _ (Or.inr (by omega)),fun hge=>?_⟩,fun hb=>fail _ (Or.inl hb)⟩
  have hb:lg=false:=Bool.eq_false_iff.2 hb
  rw[Int.toNat_natCast,Int.toNat_natCast]
  have hW:=hR.w
  refine⟨⟨_,bs,R,rfl,rfl,hW,hlen⟩,fun q g ⟨F1,hp,hF,hnm⟩ _=>?_⟩
  have hO:=lZ hW hp
  rw[←hF trivial]at hO
  have hs:so bs lg=(bs,0):=by
   unfold so
   have:¬(lg=true∨16384<bs.length):=by
    rintro(e | e)
    ·rw[hb]at e;cases e
    ·omega
   rw[if_neg this]
  refine⟨[],[2],rfl,rfl,⟨⟨fun k=>if k=4 then 0 else q.i (3+k),fun _=>false,fun _=>.empty,fun _=>.tuple #[],fun _=>Hl.none⟩,rfl,hnm.1,trivial,trivial⟩,_,R,bs,lg,_,rfl,rfl,h,by rw[hs];rfl,?_⟩
  rw[hs]
  show dA (dF [q.h 3]) _ _ _
  rw[bp];exact hO
end Go.Proofs.YtomdimlnggpgbaaGreatDoor
namespace Go.Proofs.YtomdimlnggpgbaaGreatDoor
open Go Go.Sx Go.Pk
open Go.Proofs.YtomdimlnggpgbaaGreatDoor.D hiding bx aH hJ
def gY:Sx.Spec where
 fn:=55
 own:=[]
 rd:=[0]
 res:=[.one .sl]
 pre:=fun xs Hs Rs=>∃ u bs R,xs=[u]∧Rs=[R]∧fw R u bs∧bs.length≤1000000
 post:=fun xs Hs Rs v Hs' F=>∃ u bs R,xs=[u]∧Rs=[R]∧fw R u bs∧dA F 5 v bs
def qh:Nd:=.and (.imp (.eq (.var 0) (.lit (-1))) (.post [.ro 4 [.var 0] false] (.sv (.one (.sl (.lit (-1)) (.lit 0) (.lit 0) (.lit 0)))))) (.imp (.not (.eq (.var 0) (.lit (-1)))) (.ext (.alloc 5) (.and (.pre (.app 6 5 1 1 (.sl (.var 5) (.lit 0) (.lit 0) (.lit 0)) (.lit 0) (.aS 5 [] 5) (.seg 4 (.var 0) (.var 1) (.var 2)))) (.ext (.app 6 5 1 1 (.sl (.var 5) (.lit 0) (.lit 0) (.lit 0)) (.lit 0) (.aS 5 [] 5) (.seg 4 (.var 0) (.var 1) (.var 2))) (.post [.ro 4 [.var 0] false,.hp 6 [] [.var 6,.var 5] []] (.sv (.one (.sl (.var 6) (.lit 0) (.var 2) (.var 7)))))))))
def mP:cy Tryz.prog [] gY.fn where
 Λ:=aH
 args:=[.sv (.one (.sl (.var 0) (.var 1) (.var 2) (.var 3)))]
 mem:=[.ro 4 [.var 0] false]
 nv:=5
 nd:=qh
 ok:=by kernel_rfl
theorem lY:gY.OK Tryz.prog:=by
 refine Spec.b8 (Γ:=[]) (fun _ h=>by cases h) ?_
 rintro xs Hs Rs hl1 hl2 ⟨u,bs,R,rfl,rfl,hRd,hlen⟩
 have e0:Hs=[]:=List.length_eq_zero_iff.1 hl1
 subst e0
 obtain⟨x,y,c,rfl,hy,hR⟩:=id hRd
 refine⟨mP,bx [x,y,bs.length,c] false [Hl.none,Hl.none,Hl.none,Hl.none,R],fun _ _=>True,fun _ _=>0,?_,⟨?_,?_,?_,?_⟩,(fun _ h=>nomatch h),?_⟩
 ·show [Value.slice (ar x y) ((bs.length:Int)).toNat ((c:Int)).toNat]=_
  rw[Int.toNat_natCast,Int.toNat_natCast]
 ·intro r hr ho;simp [mP]at hr;subst hr;cases ho
 ·intro r hr ho;simp [mP]at hr;subst hr;exact⟨R,by simp,Hl.le_refl _⟩
 ·simp [mP]
 ·intro r hr;simp [mP]at hr;subst hr;trivial
 ·show Nd.holds _ _ _ qh
  generalize hρ:bx [x,y,bs.length,c] false [Hl.none,Hl.none,Hl.none,Hl.none,R]=ρ
  have v0:ρ.i 0=x:=by rw[←hρ];rfl
  have v1:ρ.i 1=y:=by rw[←hρ];rfl
  have v2:ρ.i 2=bs.length:=by rw[←hρ];rfl
  have w4:ρ.h 4=R:=by rw[←hρ];rfl
  clear hρ
  unfold qh
  simp only[Nd.holds,X.pre,X.rel,X.n,Src.ok,Src.len,Src.bS,true_and,and_true,if_true,Nat.mul_one,Nat.add_zero,Nat.reduceAdd,List.length_cons,List.length_nil,bN,bK,aP,ba,bb,bM,bj,bJ,bI,bD,bd,bk,bL,bg,bf,aQ,bh,ah,ai,aE,aI,aK,ax,aF,aV,aT,au,aO,aC,aN,aB,TV.ev,SV.ev,CV.ev,List.map_cons,List.map_nil,bc.hl]
  refine⟨fun hx _=>?_,fun hx q1 g1 p5=>?_⟩
  ·have hnil:bs=[]:=by
    rcases hR with h | ⟨h,_⟩
    ·exact h
    ·omega
   refine⟨[],[],rfl,rfl,⟨⟨fun k=>if k=0 then -1 else 0,fun _=>false,fun _=>.empty,fun _=>.tuple #[],fun _=>Hl.none⟩,rfl,⟨Int.le_refl _,Int.le_refl _,Int.le_refl _,Int.le_refl _⟩,trivial⟩,_,bs,R,rfl,rfl,hRd,?_⟩
   rw[hnil]
   exact⟨rfl,Or.inl ⟨rfl,rfl⟩⟩
  ·obtain⟨hok,hseg⟩:=uZ (R:=R) (x:=x) (y:=y) (l:=(bs.length:Int)) rfl hy hR
   have ho0:=HZ (Hl.one (q1.i 5).toNat (.cells #[] 5 (0,0))) p5 rfl
   rw[g1.i 0 (by omega),g1.i 1 (by omega),g1.i 2 (by omega),g1.h 4 (by omega),v0,v1,v2,w4]
   refine⟨⟨⟨_,ho0⟩,Int.le_refl _,by simpa using hok,by rw[Int.toNat_natCast];unfold maxLen;simp;omega,by rw[Int.toNat_natCast];simp;omega⟩,fun q2 g2 ⟨a1,a2,a3,_⟩=>fun _=>?_⟩
   have hx2:=a3 _ ho0
   rw[hseg,List.nil_append]at hx2
   refine⟨[],[1],rfl,rfl,⟨⟨fun k=>[q2.i 6,0,q2.i 2,q2.i 7].getD k 0,fun _=>false,fun _=>.empty,fun _=>.tuple #[],fun _=>Hl.none⟩,rfl,⟨a1,Int.le_refl _,?_,a2⟩,trivial⟩,_,bs,R,rfl,rfl,hRd,?_⟩
   ·show 0≤q2.i 2
    rw[g2.i 2 (by omega),g1.i 2 (by omega),v2];omega
   ·show dA (dF [q2.h 6]) _ (.slice (ar (q2.i 6) 0) (q2.i 2).toNat (q2.i 7).toNat) bs
    rw[bp,g2.i 2 (by omega),g1.i 2 (by omega),v2]
    unfold dA
    rw[Int.toNat_natCast]
    simpa using hx2
def xo:Sx.Spec where
 fn:=79
 own:=[]
 rd:=[0]
 res:=[.one (.int .u64)]
 pre:=fun xs Hs Rs=>∃ u bs R,xs=[u]∧Rs=[R]∧fw R u bs∧bs.length≤1000
 post:=fun xs Hs Rs v Hs' F=>∃ u bs R,xs=[u]∧Rs=[R]∧fw R u bs∧v=.int .u64 (cY bs)
def zp:Nd:=.and (.e (.le (.lit 0) (.var 2))) (.and (.inv 0 [⟨10,0,.int .i64 (.lit 0)⟩,⟨11,0,.int .i64 (.lit 0)⟩] []) (.havoc 0 0 5 (.and (.imp (.lt (.var 11) (.var 2)) (.and (.e (.le (.lit 0) (.var 0))) (.and (.e (.le (.lit 0) (.var 1))) (.and (.e (.le (.lit 0) (.var 11))) (.and (.e (.his 4 (.var 0) (.add (.var 1) (.var 11)) 0 (.int .u8))) (.back 0 0 [⟨10,0,.int .i64 (.bits .or .u64 (.shl .u64 (.var 10) (.lit 8)) (.wrap .u64 (.hI 4 (.var 0) (.add (.var 1) (.var 11)) 0)))⟩,⟨11,0,.int .i64 (.wrap .i64 (.add (.var 11) (.lit 1)))⟩] [])))))) (.imp (.not (.lt (.var 11) (.var 2))) (.post [.ro 4 [.var 0] false] (.sv (.one (.int .u64 (.var 10)))))))))
def xp:cy Tryz.prog [] xo.fn where
 Λ:=fun p=>if lp p then some ⟨0,[(3,TI .u64 (.var 10)),(8,TI .i64 (.var 11))],[],12⟩else none
 args:=[.sv (.one (.sl (.var 0) (.var 1) (.var 2) (.var 3)))]
 mem:=[.ro 4 [.var 0] false]
 nv:=5
 nd:=zp
 ok:=by kernel_rfl
theorem DY:xo.OK Tryz.prog:=by
 refine Spec.b8 (Γ:=[]) (fun _ h=>by cases h) ?_
 rintro xs Hs Rs hl1 hl2 ⟨u,bs,R,rfl,rfl,⟨x,y,cp,rfl,hy,hR⟩,hlen⟩
 have e0:Hs=[]:=List.length_eq_zero_iff.1 hl1
 subst e0
 refine⟨xp,bx [x,y,bs.length,cp] false [Hl.none,Hl.none,Hl.none,Hl.none,R],Cn bs,fun _ q=>(bs.length-q.i 11).toNat,?_,⟨?_,?_,?_,?_⟩,(fun _ h=>nomatch h),?_⟩
 ·show [Value.slice (ar x y) ((bs.length:Int)).toNat ((cp:Int)).toNat]=_
  rw[Int.toNat_natCast,Int.toNat_natCast]
 ·intro r hr ho;simp [xp]at hr;subst hr;cases ho
 ·intro r hr ho;simp [xp]at hr;subst hr;exact⟨R,by simp,Hl.le_refl _⟩
 ·simp [xp]
 ·intro r hr;simp [xp]at hr;subst hr;trivial
 ·show Nd.holds _ _ _ zp
  generalize hρ:bx [x,y,bs.length,cp] false [Hl.none,Hl.none,Hl.none,Hl.none,R]=ρ
  have v0:ρ.i 0=x:=by rw[←hρ];rfl
  have v1:ρ.i 1=y:=by rw[←hρ];rfl
  have v2:ρ.i 2=bs.length:=by rw[←hρ];rfl
  have w4:ρ.h 4=R:=by rw[←hρ];rfl
  unfold zp
  simp only[Nd.holds,X.pre,X.rel,X.n,Src.ok,Src.len,Src.bS,true_and,and_true,if_true,Nat.mul_one,Nat.add_zero,Nat.reduceAdd,List.length_cons,List.length_nil,bN,bK,aP,ba,bb,bM,bj,bJ,bI,bD,bd,bk,bL,bg,bf,aQ,bh,ah,ai,aE,aI,aK,ax,aF,aV,aT,au,aO,aC,aN,aB,TV.ev,SV.ev,CV.ev,List.map_cons,List.map_nil,bc.hl]
  rw[v2]
  refine⟨by omega,⟨0,by omega,rfl,rfl⟩,fun q g ⟨k,hk,h11,h10⟩=>?_⟩
  rw[g.i 0 (by omega),g.i 1 (by omega),g.i 2 (by omega),g.h 4 (by omega),v0,v1,v2,w4,h11]
  refine⟨fun hlt=>?_,fun hge=>?_⟩
  ·have hk':k<bs.length:=by omega
   have hxr:0≤x∧∀ j z,bs[j]?=some z→R.cell x.toNat (y.toNat+j)=some (.int .u8 z):=by
    rcases hR with h | h
    ·subst h;simp at hk'
    ·exact h
   have hc:R.cell x.toNat (y+k).toNat=some (.int .u8 bs[k]):=by
    rw[show(y+(k:Int)).toNat=y.toNat+k by omega]
    exact hxr.2 _ _ (List.getElem?_eq_getElem hk')
   rw[hc]
   refine⟨hxr.1,hy,by omega,rfl,⟨k+1,by omega,?_,?_⟩,?_⟩
   ·show IntKind.i64.wrap (q.i 11+1)=_
    rw[h11];exact wrap_i64 (by omega) (by omega)
   ·show jh (q.i 10) (fg ((q.h 4).cell (q.i 0).toNat (q.i 1+q.i 11).toNat))=_
    rw[h10,g.i 0 (by omega),g.i 1 (by omega),g.h 4 (by omega),v0,v1,w4,h11,hc,sz bs k hk']
    rfl
   ·show((bs.length:Int)-IntKind.i64.wrap (q.i 11+1)).toNat<_
    rw[h11,wrap_i64 (by omega) (by omega)];omega
  ·have e:k=bs.length:=by omega
   subst e
   rw[List.take_length]at h10
   refine fun _=>⟨[],[],rfl,rfl,⟨⟨fun _=>q.i 10,fun _=>false,fun _=>.empty,fun _=>.tuple #[],fun _=>Hl.none⟩,rfl,trivial,trivial⟩,_,bs,R,rfl,rfl,⟨x,y,cp,rfl,hy,hR⟩,?_⟩
   show Value.int .u64 (q.i 10)=_
   rw[h10]
def wE:Sx.Spec where
 fn:=81
 own:=[]
 rd:=[0]
 res:=[.one (.int .i64)]
 pre:=fun xs Hs Rs=>∃ p R bs bad,xs=[p]∧Rs=[R]∧iC R p bs bad
 post:=fun xs Hs Rs v Hs' F=>∃ p R bs bad,xs=[p]∧Rs=[R]∧iC R p bs bad∧v=.int .i64 bs.length
def Cj:Sx.Spec where
 fn:=83
 own:=[]
 rd:=[0]
 res:=[.one .bool]
 pre:=fun xs Hs Rs=>∃ p R bs bad,xs=[p]∧Rs=[R]∧iC R p bs bad
 post:=fun xs Hs Rs v Hs' F=>∃ p R bs bad,xs=[p]∧Rs=[R]∧iC R p bs bad∧v=.bool bad
def yM:Nd:=.and (.e (.le (.lit 0) (.var 0))) (.and (.e (.his 1 (.var 0) (.lit 0) 0 .slice)) (.and (.e (.le (.lit 0) (.hP 1 (.var 0) (.lit 0) 0 2))) (.post [.ro 1 [.var 0] false] (.sv (.one (.int .i64 (.hP 1 (.var 0) (.lit 0) 0 2)))))))
def wF:cy Tryz.prog [] wE.fn where
 Λ:=aH
 args:=[TP (.var 0) (.lit 0)]
 mem:=[.ro 1 [.var 0] false]
 nv:=2
 nd:=yM
 ok:=by kernel_rfl
def Ci:Nd:=.and (.e (.le (.lit 0) (.var 0))) (.and (.e (.his 1 (.var 0) (.lit 1) 0 .bool)) (.post [.ro 1 [.var 0] false] (.sv (.one (.bool (.hB 1 (.var 0) (.lit 1) 0))))))
def Cl:cy Tryz.prog [] Cj.fn where
 Λ:=aH
 args:=[TP (.var 0) (.lit 0)]
 mem:=[.ro 1 [.var 0] false]
 nv:=2
 nd:=Ci
 ok:=by kernel_rfl
theorem Df:wE.OK Tryz.prog:=by
 refine Spec.b8 (Γ:=[]) (fun _ h=>by cases h) ?_
 rintro xs Hs Rs hl1 hl2 ⟨p,R,bs,bad,rfl,rfl,hIn⟩
 have e0:Hs=[]:=List.length_eq_zero_iff.1 hl1
 subst e0
 obtain⟨a,x,y,c,rfl,hc0,hc1,hx,hy,hR⟩:=hIn.whole
 refine⟨wF,bx [(a:Int)] false [Hl.none,R],fun _ _=>True,fun _ _=>0,?_,⟨?_,?_,?_,?_⟩,(fun _ h=>nomatch h),?_⟩
 ·show [Value.pointer (ar (a:Int) 0)]=_
  rw[eV]
 ·intro r hr ho;simp [wF]at hr;subst hr;cases ho
 ·intro r hr ho;simp [wF]at hr;subst hr;exact⟨R,by simp,Hl.le_refl _⟩
 ·simp [wF]
 ·intro r hr;simp [wF]at hr;subst hr;trivial
 ·show Nd.holds _ _ _ yM
  generalize hρ:bx [(a:Int)] false [Hl.none,R]=ρ
  have v0:ρ.i 0=a:=by rw[←hρ];rfl
  have w1:ρ.h 1=R:=by rw[←hρ];rfl
  clear hρ
  have tn0:Int.toNat 0=0:=rfl
  unfold yM
  simp only[Nd.holds,X.pre,X.rel,X.n,Src.ok,Src.len,Src.bS,true_and,and_true,if_true,Nat.mul_one,Nat.add_zero,Nat.reduceAdd,List.length_cons,List.length_nil,bN,bK,aP,ba,bb,bM,bj,bJ,bI,bD,bd,bk,bL,bg,bf,aQ,bh,ah,ai,aE,aI,aK,ax,aF,aV,aT,au,aO,aC,aN,aB,TV.ev,SV.ev,CV.ev,List.map_cons,List.map_nil,bc.hl,tn0]
  rw[v0,w1,Int.toNat_natCast,hc0,Ia hx]
  refine⟨by omega,rfl,by omega,fun _=>⟨[],[],rfl,rfl,⟨⟨fun _=>bs.length,fun _=>false,fun _=>.empty,fun _=>.tuple #[],fun _=>Hl.none⟩,?_,trivial,trivial⟩,_,R,bs,bad,rfl,rfl,hIn,?_⟩⟩
  all_goals
   show Value.int .i64 (cH (((ρ.h 1).cell (ρ.i 0).toNat (Int.toNat 0+0))) 2)=_
   rw[v0,w1,Int.toNat_natCast,tn0,Nat.add_zero,hc0,Ia hx]
   try rfl
theorem Ew:Cj.OK Tryz.prog:=by
 refine Spec.b8 (Γ:=[]) (fun _ h=>by cases h) ?_
 rintro xs Hs Rs hl1 hl2 ⟨p,R,bs,bad,rfl,rfl,hIn⟩
 have e0:Hs=[]:=List.length_eq_zero_iff.1 hl1
 subst e0
 obtain⟨a,x,y,c,rfl,hc0,hc1,hx,hy,hR⟩:=hIn.whole
 refine⟨Cl,bx [(a:Int)] false [Hl.none,R],fun _ _=>True,fun _ _=>0,?_,⟨?_,?_,?_,?_⟩,(fun _ h=>nomatch h),?_⟩
 ·show [Value.pointer (ar (a:Int) 0)]=_
  rw[eV]
 ·intro r hr ho;simp [Cl]at hr;subst hr;cases ho
 ·intro r hr ho;simp [Cl]at hr;subst hr;exact⟨R,by simp,Hl.le_refl _⟩
 ·simp [Cl]
 ·intro r hr;simp [Cl]at hr;subst hr;trivial
 ·show Nd.holds _ _ _ Ci
  generalize hρ:bx [(a:Int)] false [Hl.none,R]=ρ
  have v0:ρ.i 0=a:=by rw[←hρ];rfl
  have w1:ρ.h 1=R:=by rw[←hρ];rfl
  clear hρ
  have tn1:Int.toNat 1=1:=rfl
  unfold Ci
  simp only[Nd.holds,X.pre,X.rel,X.n,Src.ok,Src.len,Src.bS,true_and,and_true,if_true,Nat.mul_one,Nat.add_zero,Nat.reduceAdd,List.length_cons,List.length_nil,bN,bK,aP,ba,bb,bM,bj,bJ,bI,bD,bd,bk,bL,bg,bf,aQ,bh,ah,ai,aE,aI,aK,ax,aF,aV,aT,au,aO,aC,aN,aB,TV.ev,SV.ev,CV.ev,List.map_cons,List.map_nil,bc.hl,tn1]
  rw[v0,w1,Int.toNat_natCast,hc1]
  refine⟨by omega,rfl,fun _=>⟨[],[],rfl,rfl,⟨⟨fun _=>0,fun _=>bad,fun _=>.empty,fun _=>.tuple #[],fun _=>Hl.none⟩,?_,trivial,trivial⟩,_,R,bs,bad,rfl,rfl,hIn,?_⟩⟩
  all_goals
   show Value.bool (vv (((ρ.h 1).cell (ρ.i 0).toNat (Int.toNat 1+0))))=_
   rw[v0,w1,Int.toNat_natCast,tn1,hc1]
   try rfl
def bU (L:LM):Int:=cY (L.note.take 8)
def um:Sx.Spec where
 fn:=45
 own:=[]
 rd:=[0]
 res:=[.one (.int .u64)]
 pre:=fun xs Hs Rs=>∃ p R dp sl L,xs=[p]∧Rs=[R]∧c6 R p dp sl L
 post:=fun xs Hs Rs v Hs' F=>∃ p R dp sl L,xs=[p]∧Rs=[R]∧c6 R p dp sl L∧v=.int .u64 (bU L)
def GU:List Sx.Spec:=[xo,iZ]
theorem Gh:∀ t∈GU,t.OK Tryz.prog:=fun t ht=>by
 simp only[GU,List.mem_cons,List.mem_nil_iff,or_false]at ht
 rcases ht with rfl | rfl
 ·exact DY
 ·exact sQ
def CZ:Nd:=.and (.pre (.call 1 2 [.sv (.one (.hptr (.var 0) (.lit 0)))] [] [.ro 1 [.var 0] false])) (.ext (.call 1 2 [.sv (.one (.hptr (.var 0) (.lit 0)))] [] [.ro 1 [.var 0] false]) (.ext (.alloc 18) (.and (.pre (.call 0 19 [.sv (.one (.sl (.var 18) (.lit 0) (.lit 8) (.lit 16)))] [] [.aS 18 (al 2 (List.replicate 16 (Ck.int .u8))) 60])) (.ext (.call 0 19 [.sv (.one (.sl (.var 18) (.lit 0) (.lit 8) (.lit 16)))] [] [.aS 18 (al 2 (List.replicate 16 (Ck.int .u8))) 60]) (.post [.ro 1 [.var 0] false,.dead] (.sv (.one (.int .u64 (.var 19)))))))))
def C0:cy Tryz.prog GU um.fn where
 Λ:=aH
 args:=[TP (.var 0) (.lit 0)]
 mem:=[.ro 1 [.var 0] false]
 nv:=2
 nd:=CZ
 ok:=by kernel_rfl
theorem I7:GU[0]?=some xo:=rfl
theorem I8:GU[1]?=some iZ:=rfl
theorem I9:xo.res=[.one (.int .u64)]:=rfl
theorem I':iZ.res=[.agg (mw 16)]:=rfl
theorem Al:um.OK Tryz.prog:=by
 refine Spec.b8 (Γ:=GU) Gh ?_
 rintro xs Hs Rs hl1 hl2 ⟨p,R,dp,sl,L,rfl,rfl,hL⟩
 have e0:Hs=[]:=List.length_eq_zero_iff.1 hl1
 subst e0
 obtain⟨a,rfl,hLi⟩:=id hL
 refine⟨C0,bx [(a:Int)] false [Hl.none,R],fun _ _=>True,fun _ _=>0,?_,⟨?_,?_,?_,?_⟩,(fun _ h=>nomatch h),?_⟩
 ·show [Value.pointer (ar (a:Int) 0)]=_
  rw[eV]
 ·intro r hr ho;simp [C0]at hr;subst hr;cases ho
 ·intro r hr ho;simp [C0]at hr;subst hr;exact⟨R,by simp,Hl.le_refl _⟩
 ·simp [C0]
 ·intro r hr;simp [C0]at hr;subst hr;trivial
 ·show Nd.holds _ _ _ CZ
  generalize hρ:bx [(a:Int)] false [Hl.none,R]=ρ
  have v0:ρ.i 0=a:=by rw[←hρ];rfl
  have w1:ρ.h 1=R:=by rw[←hρ];rfl
  clear hρ
  unfold CZ
  simp only[Nd.holds,X.pre,X.rel,X.n,Src.ok,Src.len,Src.bS,true_and,and_true,if_true,Nat.mul_one,Nat.add_zero,Nat.reduceAdd,List.length_cons,List.length_nil,bN,bK,aP,ba,bb,bM,bj,bJ,bI,bD,bd,bk,bL,bg,bf,aQ,bh,ah,ai,aE,aI,aK,ax,aF,aV,aT,au,aO,aC,aN,aB,TV.ev,SV.ev,CV.ev,List.map_cons,List.map_nil,bc.hl,df,Cp.sv,Ck.cv,ct,Cp.len,Ck.len,aU,bm,bC,I7,I8,I9,I']
  rw[v0,w1,eV]
  refine⟨⟨_,R,dp,sl,L,rfl,rfl,hL⟩,fun q1 g1 ⟨F1,⟨p',R',dp',sl',L',e1,e2,hL',hv⟩,_⟩ q2 g2 p2=>?_⟩
  simp only[List.cons.injEq,and_true]at e1 e2
  subst e1 e2
  obtain⟨_,_,rfl⟩:=hL.uniq hL'
  have ec:(al 2 (List.replicate 16 (Ck.int .u8))).map (CV.ev q1)=cn L.note:=List.toArray_inj (Value.agg.inj hv)
  have ec2:(al 2 (List.replicate 16 (Ck.int .u8))).map (CV.ev q2)=cn L.note:=(CV.dJ g2 _ (by decide)).trans ec
  have hn16:=hLi.1.note
  have hRd:fw (Hl.one (q2.i 18).toNat (.cells (cn L.note).toArray 60 (0,0))) (.slice (ar (q2.i 18) 0) (Int.toNat 8) (Int.toNat 16)) (L.note.take 8):=by
   refine⟨q2.i 18,0,16,?_,Int.le_refl _,Or.inr ⟨p2,fun j z hj=>?_⟩⟩
   ·rw[List.length_take,hn16];rfl
   ·have hj8:j<8:=by have:=(List.getElem?_eq_some_iff.1 hj).1;rw[List.length_take]at this;omega
    rw[List.getElem?_take_of_lt hj8]at hj
    rw[Hl.one_cell,List.getElem?_toArray,dw,Int.toNat_zero,Nat.zero_add,hj];rfl
  rw[ec2]
  refine⟨⟨_,_,_,rfl,rfl,hRd,by rw[List.length_take];omega⟩,fun q3 g3 ⟨F3,⟨u',bs',R3,e1,e2,hR3,hv3⟩,_⟩ _=>?_⟩
  simp only[List.cons.injEq,and_true]at e1 e2
  subst e1 e2
  rw[←hRd.uniq hR3]at hv3
  have hv3:Value.int .u64 (q3.i 19)=.int .u64 (bU L):=hv3
  exact⟨[],[],rfl,rfl,⟨⟨fun _=>bU L,fun _=>false,fun _=>.empty,fun _=>.tuple #[],fun _=>Hl.none⟩,hv3,trivial,trivial⟩,_,R,dp,sl,L,rfl,rfl,hL,hv3⟩
end Go.Proofs.YtomdimlnggpgbaaGreatDoor
namespace Go.Sx
open Go
theorem bR.E6 {F:Hl} {e:TypeId} {k:Nat} {v:Value} {n:Nat} {us:List Value} (h:bR F e k v n us) {b:Nat} (hb:v.ownBlock=some b):F.mem b:=by
 rcases h.2 with ⟨h,_⟩ | ⟨gg,cap,cur,h,hg,_⟩
 ·rw[h]at hb;cases hb
 ·rw[h]at hb
  have:gg=b:=by simpa [Value.ownBlock] using hb
  subst this
  unfold Hl.mem;rw[hg];rfl
theorem bR.mono {F G:Hl} (hl:F.le G) {e:TypeId} {k:Nat} {v:Value} {m:Nat} {us:List Value} (h:bR F e k v m us):bR G e k v m us:=by
 refine⟨h.1,h.2.imp id fun⟨g,cap,cur,hv,hg,r⟩=>⟨g,cap,cur,hv,hl _ _ hg,r⟩⟩
theorem bR.inj {F:Hl} {e:TypeId} {k:Nat} {v:Value} {n m:Nat} {us ws:List Value} (h1:bR F e k v n us) (h2:bR F e k v m ws):n=m∧us=ws:=by
 obtain⟨l1,h1⟩:=h1
 obtain⟨l2,h2⟩:=h2
 rcases h1 with ⟨h1,hn⟩ | ⟨g,cap,cur,h1,hg,_,_,_,ht⟩<;>rcases h2 with ⟨h2,hm⟩ | ⟨g',cap',cur',h2,hg',_,_,_,ht'⟩
 ·subst hn;subst hm
  refine⟨rfl,?_⟩
  rw[Nat.zero_mul]at l1 l2
  rw[List.length_eq_zero_iff.1 l1,List.length_eq_zero_iff.1 l2]
 ·rw[h1]at h2;cases h2
 ·rw[h1]at h2;cases h2
 ·rw[h1]at h2
  simp only[Value.slice.injEq,Option.some.injEq,Addr.mk.injEq,and_true]at h2
  obtain⟨eg,en,_⟩:=h2
  subst eg;subst en
  rw[hg]at hg'
  simp only[Option.some.injEq,Obj.cells.injEq,and_true]at hg'
  rw[←ht,←ht',hg']
  exact⟨rfl,rfl⟩
theorem bR.cellAt {F:Hl} {e:TypeId} {x l c:Int} {n:Nat} {us:List Value} (h:bR F e 1 (.slice (ar x 0) l.toNat c.toNat) n us) (hx:-1≤x) {i:Nat} (hi:i<n):0≤x∧F.cell x.toNat i=us[i]?:=by
 obtain⟨hl,h⟩:=h
 rcases h with ⟨_,hn⟩ | ⟨g,cap,cur,hv,hg,hle,hm,hs,ht⟩
 ·omega
 ·simp only[Value.slice.injEq]at hv
  obtain⟨hp,_,_⟩:=hv
  have h0:0≤x:=by
   rcases Int.lt_or_le x 0 with hlt | h0
   ·rw[show x= -1 by omega,cW]at hp;cases hp
   ·exact h0
  rw[aq h0]at hp
  simp only[Option.some.injEq,Addr.mk.injEq,and_true]at hp
  refine⟨h0,?_⟩
  rw[hp.1,←ht];unfold Hl.cell;rw[hg,List.getElem?_take_of_lt (by omega),Array.getElem?_toList]
end Go.Sx
namespace Go.Proofs.YtomdimlnggpgbaaGreatDoor
open Go Go.Sx Go.Pk
theorem AQ {a b x y:Int} (hx:0≤x) (hy:0≤y) (hb:0≤b) (h:ar a b=ar x y):a=x∧b=y:=by
 rcases Int.lt_or_le a 0 with ha | ha
 ·exfalso
  rw[aq hx]at h
  unfold ar at h
  rw[if_neg (by omega)]at h
  split at h
  ·cases h
  ·simp only[Option.some.injEq,Addr.mk.injEq]at h
   obtain⟨_,_,h⟩:=h
   cases h
 ·rw[aq ha,aq hx]at h
  simp only[Option.some.injEq,Addr.mk.injEq]at h
  omega
theorem AH {a y:Int} {l c:Nat} (h:0≤a):(Value.slice (ar a y) l c).ownBlock=some a.toNat:=by
 rw[aq h];rfl
theorem Ev {H:Hl} {x x':Int} {l c l' c':Nat} (hx:-1≤x') (h:some x'.toNat=(Value.slice (ar x 0) l c).ownBlock∨¬H.mem x'.toNat∨x'= -1):∀ b,H.mem b→some b≠(Value.slice (ar x 0) l c).ownBlock→some b≠(Value.slice (ar x' 0) l' c').ownBlock:=by
 intro b hb hne he
 rcases Int.lt_or_le x' 0 with hn | hn
 ·rw[show x'= -1 by omega,cW]at he;cases he
 ·rw[AH hn]at he
  have he:b=x'.toNat:=by simpa using he
  rcases h with h | h | h
  ·exact hne (by rw[he];exact h)
  ·rw[←he]at h;exact h hb
  ·omega
def iS (F:Hl) (o:Option Nat) (u:Value) (r:List Int):Prop:=∃ (x y:Int) (c:Nat),u=.slice (ar x y) r.length c∧ -1≤x∧0≤y∧(r=[]∨(0≤x∧some x.toNat≠o∧∀ j z,r[j]?=some z→F.cell x.toNat (y.toNat+j)=some (.int .u8 z)))
theorem Cz {F:Hl} {b j:Nat} {v:Value} (h:F.cell b j=some v):F.mem b:=by
 unfold Hl.cell at h
 unfold Hl.mem
 cases hF:F b with
 | none=>rw[hF]at h;cases h
 | some o=>rfl
theorem cell_of {F G:Hl} {b j:Nat} {v:Value} (h:F.cell b j=some v) (e:G b=F b):G.cell b j=some v:=by
 unfold Hl.cell at h ⊢
 rw[e];exact h
theorem iS.cV {F G:Hl} {o o':Option Nat} {u:Value} {r:List Int} (h:iS F o u r) (hk:∀ b,F.mem b→some b≠o→G b=F b) (hn:∀ b,F.mem b→some b≠o→some b≠o'):iS G o' u r:=by
 obtain⟨x,y,c,hu,hx,hy,h⟩:=h
 refine⟨x,y,c,hu,hx,hy,?_⟩
 cases r with
 | nil=>exact Or.inl rfl
 | cons z r =>
  rcases h with h | ⟨h0,hne,hc⟩
  ·cases h
  ·have hm:F.mem x.toNat:=Cz (hc 0 z rfl)
   exact Or.inr ⟨h0,hn _ hm hne,fun j w hj=>cell_of (hc j w hj) (hk _ hm hne)⟩
theorem iS.rd {F:Hl} {o:Option Nat} {u:Value} {r:List Int} (h:iS F o u r):fw F u r:=by
 obtain⟨x,y,c,hu,_,hy,h⟩:=h
 exact⟨x,y,c,hu,hy,h.imp id fun h=>⟨h.1,h.2.2⟩⟩
theorem iS.of {F:Hl} {x y l c:Int} {r:List Int} (h:fw F (.slice (ar x y) l.toNat c.toNat) r) (hx:-1≤x) (hy:0≤y):iS F none (.slice (ar x y) l.toNat c.toNat) r:=by
 obtain⟨x',y',c',hu,hy',h⟩:=h
 simp only[Value.slice.injEq]at hu
 obtain⟨h1,h2,h3⟩:=hu
 refine⟨x,y,c.toNat,by rw[h2],hx,hy,h.imp id fun⟨h0,h⟩=>?_⟩
 obtain⟨e1,e2⟩:=jT hx hy (by omega) hy' h1
 subst e1
 have e2:=e2 h0
 subst e2
 exact⟨h0,by simp,h⟩
def bF (F:Hl) (v:Value) (rows:List (List Int)):Prop:=∃ us:List Value,bR F 46 1 v rows.length us ∧
 ∀ (j:Nat) (u:Value) (r:List Int),us[j]?=some u→rows[j]?=some r→iS F v.ownBlock u r
theorem bF.nil (F:Hl):bF F (.slice none 0 0) []:=⟨[],⟨rfl,Or.inl ⟨rfl,rfl⟩⟩,(fun j u r h=>by simp at h)⟩
theorem bF.len {F:Hl} {v:Value} {rows:List (List Int)} {us:List Value} (h:bR F 46 1 v rows.length us):us.length=rows.length:=by
 have:=h.1;omega
theorem bF.mono {F G:Hl} (hl:F.le G) {v:Value} {rows:List (List Int)} (h:bF F v rows):bF G v rows:=by
 obtain⟨us,ho,hr⟩:=h
 refine⟨us,bR.mono hl ho,fun j u r hu hrr=>(hr j u r hu hrr).cV (fun b hm _=>?_) (fun _ _ h=>h)⟩
 obtain⟨o,ho⟩:=Option.isSome_iff_exists.1 hm
 rw[hl _ _ ho,ho]
theorem bF.snoc {F B G:Hl} {v v' u:Value} {rows:List (List Int)} {r:List Int} (h:bF F v rows) (hd:F.ch B) (hu:iS B none u r)
 (happ:∀ xs,bR (F.un B) 46 1 v rows.length xs→bR G 46 1 v' (rows.length+1) (xs++[u]))
 (hk:∀ b,(F.un B).mem b→some b≠v.ownBlock→G b=(F.un B) b) (hn:∀ b,(F.un B).mem b→some b≠v.ownBlock→some b≠v'.ownBlock):bF G v' (rows++[r]):=by
 obtain⟨us,ho,hr⟩:=h
 have hul:=bF.len ho
 have hold:∀ (j:Nat) (w:Value) (s:List Int),us[j]?=some w→rows[j]?=some s→iS (F.un B) v.ownBlock w s:=fun j w s hj hs =>
  (hr j w s hj hs).cV (fun b hm _=>by obtain⟨o,ho⟩:=Option.isSome_iff_exists.1 hm;rw[Hl.r5 ho,ho]) (fun b _ h=>h)
 have hun:iS (F.un B) v.ownBlock u r:=hu.cV (fun b hm _=>by rw[Hl.kX fun h2=>hd b ⟨h2,hm⟩]) fun b hm _ e=>hd b ⟨ho.E6 e.symm,hm⟩
 refine⟨us++[u],?_,fun j w s hj hs=>?_⟩
 ·rw[List.length_append,List.length_singleton]
  exact happ us (ho.mono (Hl.e8 _ _))
 ·rcases Nat.lt_or_ge j us.length with hl | hl
  ·rw[List.getElem?_append_left hl]at hj
   rw[List.getElem?_append_left (by omega)]at hs
   exact(hold j w s hj hs).cV hk hn
  ·rw[List.getElem?_append_right hl]at hj
   rw[List.getElem?_append_right (by omega)]at hs
   have hj:=List.mem_of_getElem? hj
   have hs:=List.mem_of_getElem? hs
   rw[List.mem_singleton]at hj hs
   subst hj;subst hs
   exact hun.cV hk hn
theorem bF.at {F:Hl} {x l c:Int} {rows:List (List Int)} (h:bF F (.slice (ar x 0) l.toNat c.toNat) rows) (hx:-1≤x) (hl:0≤l):l=rows.length∧∀ (i:Nat) r,rows[i]?=some r→0≤x∧∃ u,F.cell x.toNat i=some u∧iS F (some x.toNat) u r:=by
 obtain⟨us,ho,hr⟩:=h
 have hul:=bF.len ho
 refine⟨?_,fun i r hi=>?_⟩
 ·rcases ho.2 with ⟨h,hn⟩ | ⟨g,cap,cur,h,_⟩
  ·simp only[Value.slice.injEq]at h;omega
  ·simp only[Value.slice.injEq]at h;omega
 ·have hi':=(List.getElem?_eq_some_iff.1 hi).1
  obtain⟨h0,hc⟩:=ho.cellAt hx hi'
  have hu:us[i]?=some us[i]:=List.getElem?_eq_getElem (by omega)
  have:=hr i _ r hu hi
  rw[AH h0]at this
  exact⟨h0,_,by rw[hc,hu],this⟩
theorem bF.uniq {F:Hl} {v:Value} {a b:List (List Int)} (h1:bF F v a) (h2:bF F v b):a=b:=by
 obtain⟨us,ho,hr⟩:=h1
 obtain⟨ws,ho',hr'⟩:=h2
 obtain⟨el,e⟩:=ho.inj ho'
 subst e
 have hul:=bF.len ho
 apply List.ext_getElem el
 intro j hj hj'
 have hu:us[j]?=some us[j]:=List.getElem?_eq_getElem (by omega)
 exact(hr j _ _ hu (List.getElem?_eq_getElem hj)).rd.uniq (hr' j _ _ hu (List.getElem?_eq_getElem hj')).rd
theorem lA {G F B:Hl} {x l c x' c':Int} {rows:List (List Int)} {u:Value} {r:List Int} (h:bF F (.slice (ar x 0) l.toNat c.toNat) rows) (hx:-1≤x) (hl:0≤l) (hd:F.ch B) (hu:iS B none u r) (hx':-1≤x')
 (happ:∀ xs,bR (F.un B) 46 1 (.slice (ar x 0) l.toNat c.toNat) l.toNat xs→bR G 46 1 (.slice (ar x' 0) (l.toNat+1) c'.toNat) (l.toNat+1) (xs++[u]))
 (hkeep:∀ b,(F.un B).mem b→some b≠(Value.slice (ar x 0) l.toNat c.toNat).ownBlock→G b=(F.un B) b) (hnew:some x'.toNat=(Value.slice (ar x 0) l.toNat c.toNat).ownBlock∨¬(F.un B).mem x'.toNat∨x'= -1):bF G (.slice (ar x' 0) (l+1).toNat c'.toNat) (rows++[r]):=by
 have hlr:l=rows.length:=(h.at hx hl).1
 have e1:(l+1).toNat=rows.length+1:=by omega
 have e2:l.toNat=rows.length:=by omega
 rw[e2]at happ
 rw[e1]
 rw[e2]at h hkeep hnew
 exact bF.snoc h hd hu happ hkeep (Ev hx' hnew)
end Go.Proofs.YtomdimlnggpgbaaGreatDoor
namespace Go.Proofs.YtomdimlnggpgbaaGreatDoor
open Go Go.Sx Go.Pk
def tx (bs:List Int):List Int×List Int×Bool:=iW bs false 4096
def kV:Nat→List Int→List (List Int)
 | 0,_=>[]
 | n+1,bs=>if bs=[]then []else if(tx bs).2.2=true then []else(tx bs).1::kV n (tx bs).2.1
def fZ (bs:List Int):List (List Int):=kV bs.length bs
theorem vo {bs:List Int} (h0:bs≠[]) (h:(tx bs).2.2=false):(tx bs).2.1.length<bs.length:=by
 have hl:0<bs.length:=List.length_pos_iff.2 h0
 unfold tx iW at h ⊢
 split at h
 ·cases h
 ·rename_i hc
  rw[if_neg hc]
  have h2:(dQ bs).2≠0:=fun e=>hc (Or.inr (Or.inl e))
  show(bs.drop _).length<_
  rw[List.length_drop];omega
theorem jW:∀ n,kV n []=[]
 | 0=>rfl
 | _+1=>rfl
theorem ph:∀ (n m:Nat) (bs:List Int),bs.length≤n→bs.length≤m→kV n bs=kV m bs
 | 0,m,bs,h,_=>by
  have:bs=[]:=List.length_eq_zero_iff.1 (by omega)
  rw[this,jW,jW]
 | n+1,0,bs,_,h=>by
  have:bs=[]:=List.length_eq_zero_iff.1 (by omega)
  rw[this,jW,jW]
 | n+1,m+1,bs,h1,h2=>by
  unfold kV
  by_cases h0:bs=[]
  ·rw[if_pos h0,if_pos h0]
  ·rw[if_neg h0,if_neg h0]
   by_cases hb:(tx bs).2.2=true
   ·rw[if_pos hb,if_pos hb]
   ·rw[if_neg hb,if_neg hb]
    have:=vo h0 (Bool.eq_false_iff.2 hb)
    rw[ph n m _ (by omega) (by omega)]
theorem pg (n:Nat) (bs:List Int) (h:bs.length≤n):kV n bs=fZ bs:=ph n bs.length bs h (Nat.le_refl _)
theorem tw {bs:List Int} (h:bs≠[]):fZ bs=if(tx bs).2.2=true then []else(tx bs).1::fZ (tx bs).2.1:=by
 rw[←pg (bs.length+1) bs (by omega)]
 show(if bs=[]then []else if(tx bs).2.2=true then []else(tx bs).1::kV bs.length (tx bs).2.1)=_
 rw[if_neg h]
 cases hb:(tx bs).2.2 with
 | true=>rfl
 | false=>rw[if_neg (by simp),if_neg (by simp),pg _ _ (by have:=vo h hb;omega)]
def mq:Sx.Spec where
 fn:=46
 own:=[]
 rd:=[0]
 res:=[.one .sl]
 pre:=fun xs Hs Rs=>∃ u bs R,xs=[u]∧Rs=[R]∧fw R u bs∧bw bs∧bs.length≤1000000
 post:=fun xs Hs Rs v Hs' F=>∃ u bs R,xs=[u]∧Rs=[R]∧fw R u bs∧bF F v (fZ bs)
def FH:List Sx.Spec:=[rp,wE,tz,Cj]
theorem GO:∀ t∈FH,t.OK Tryz.prog:=fun t ht=>by
 simp only[FH,List.mem_cons,List.mem_nil_iff,or_false]at ht
 rcases ht with rfl | rfl | rfl | rfl
 ·exact BK
 ·exact Df
 ·exact Ec
 ·exact Ew
def vn:Nd:=.and (.pre (.call 0 5 [.sv (.one (.sl (.var 0) (.var 1) (.var 2) (.var 3)))] [] [.ro 4 [.var 0] false])) (.ext (.call 0 5 [.sv (.one (.sl (.var 0) (.var 1) (.var 2) (.var 3)))] [] [.ro 4 [.var 0] false]) (.and (.inv 0 [⟨53,0,.int .i64 (.lit (-1))⟩,⟨54,0,.int .i64 (.lit 0)⟩,⟨55,0,.int .i64 (.lit 0)⟩] [(51,some 5),(56,none)]) (.havoc 0 0 7 (.and (.pre (.call 1 60 [.sv (.one (.hptr (.var 5) (.var 6)))] [] [.hp 51 [] [.var 5] []])) (.ext (.call 1 60 [.sv (.one (.hptr (.var 5) (.var 6)))] [] [.hp 51 [] [.var 5] []]) (.and (.imp (.lt (.lit 0) (.var 60)) (.and (.pre (.call 2 61 [.sv (.one (.hptr (.var 5) (.var 6))),.sv (.one (.int .i64 (.lit 4096)))] [.hp 51 [] [.var 5] []] [])) (.ext (.call 2 61 [.sv (.one (.hptr (.var 5) (.var 6))),.sv (.one (.int .i64 (.lit 4096)))] [.hp 51 [] [.var 5] []] []) (.and (.pre (.call 3 65 [.sv (.one (.hptr (.var 5) (.var 6)))] [] [.hp 61 [51] [.var 5] []])) (.ext (.call 3 65 [.sv (.one (.hptr (.var 5) (.var 6)))] [] [.hp 61 [51] [.var 5] []]) (.and (.imp (.bvar 65) (.post [.ro 4 [.var 0] false,.hp 61 [51] [.var 5] [],.hp 56 [] [.var 53] [],.hp 62 [] [.var 61] []] (.sv (.one (.sl (.var 53) (.lit 0) (.var 54) (.var 55)))))) (.imp (.not (.bvar 65)) (.ext (.alloc 66) (.ext (.Bx 67 (.hp 56 [] [.var 53] []) (.hp 62 [] [.var 61] [])) (.and (.pre (.app 68 46 1 24 (.sl (.var 53) (.lit 0) (.var 54) (.var 55)) (.var 54) (.hp 67 [56,62] [.var 53,.var 61,.var 61] []) (.cvs [.sl (.var 61) (.var 62) (.var 63) (.var 64)] 1))) (.ext (.app 68 46 1 24 (.sl (.var 53) (.lit 0) (.var 54) (.var 55)) (.var 54) (.hp 67 [56,62] [.var 53,.var 61,.var 61] []) (.cvs [.sl (.var 61) (.var 62) (.var 63) (.var 64)] 1)) (.back 0 0 [⟨53,0,.int .i64 (.var 68)⟩,⟨54,0,.int .i64 (.add (.var 54) (.lit 1))⟩,⟨55,0,.int .i64 (.var 69)⟩] [(51,some 61),(56,some 68)])))))))))))) (.imp (.not (.lt (.lit 0) (.var 60))) (.post [.ro 4 [.var 0] false,.hp 51 [] [.var 5] [],.hp 56 [] [.var 53] []] (.sv (.one (.sl (.var 53) (.lit 0) (.var 54) (.var 55))))))))))))
def rT:cy Tryz.prog FH mq.fn where
 Λ:=fun p=>if ES p then some ⟨0,[(3,.sv (.one (.sl (.var 53) (.lit 0) (.var 54) (.var 55))))],[(1,.hp 51 [] [.var 5] []),(2,.hp 56 [] [.var 53] [])],60⟩else none
 args:=[.sv (.one (.sl (.var 0) (.var 1) (.var 2) (.var 3)))]
 mem:=[.ro 4 [.var 0] false]
 nv:=5
 nd:=vn
 ok:=by kernel_rfl
theorem J0:FH[0]?=some rp:=rfl
theorem J1:FH[1]?=some wE:=rfl
theorem J2:FH[2]?=some tz:=rfl
theorem J3:FH[3]?=some Cj:=rfl
theorem J4:rp.res=[.one .ptr]:=rfl
theorem J5:wE.res=[.one (.int .i64)]:=rfl
theorem J6:tz.res=[.one .sl]:=rfl
theorem J7:Cj.res=[.one .bool]:=rfl
theorem GC (n:Nat):(bO n [Cp.one .sl]≠[])=True:=by simp [bO,Cp.roots,Ck.root]
theorem Ff (n:Nat):(bO n [Cp.one .ptr]≠[])=True:=by simp [bO,Cp.roots,Ck.root]
theorem BY:mq.OK Tryz.prog:=by
 refine Spec.b8 (Γ:=FH) GO ?_
 rintro xs Hs Rs hl1 hl2 ⟨u,bs,R,rfl,rfl,hRd,hby,hlen⟩
 have e0:Hs=[]:=List.length_eq_zero_iff.1 hl1
 subst e0
 obtain⟨x,y,c,rfl,hy,hR⟩:=id hRd
 refine⟨rT,bx [x,y,bs.length,c] false [Hl.none,Hl.none,Hl.none,Hl.none,R],fun _ q=>∃ rest rows,iC (q.h 51) (.pointer (ar (q.i 5) (q.i 6))) rest false∧ -1≤q.i 53∧0≤q.i 54∧0≤q.i 55∧bF (q.h 56) (.slice (ar (q.i 53) 0) (q.i 54).toNat (q.i 55).toNat) rows∧rows++fZ rest=fZ bs∧rows.length+rest.length≤bs.length,fun _ q=>(bs.length-q.i 54).toNat,?_,⟨?_,?_,?_,?_⟩,(fun _ h=>nomatch h),?_⟩
 ·show [Value.slice (ar x y) ((bs.length:Int)).toNat ((c:Int)).toNat]=_
  rw[Int.toNat_natCast,Int.toNat_natCast]
 ·intro r hr ho;simp [rT]at hr;subst hr;cases ho
 ·intro r hr ho;simp [rT]at hr;subst hr;exact⟨R,by simp,Hl.le_refl _⟩
 ·simp [rT]
 ·intro r hr;simp [rT]at hr;subst hr;trivial
 ·show Nd.holds _ _ _ vn
  generalize hρ:bx [x,y,bs.length,c] false [Hl.none,Hl.none,Hl.none,Hl.none,R]=ρ
  have v0:ρ.i 0=x:=by rw[←hρ];rfl
  have v1:ρ.i 1=y:=by rw[←hρ];rfl
  have v2:ρ.i 2=bs.length:=by rw[←hρ];rfl
  have v3:ρ.i 3=c:=by rw[←hρ];rfl
  have w4:ρ.h 4=R:=by rw[←hρ];rfl
  clear hρ
  have out:∀ {q:Env} {rows:List (List Int)} {mem:Mem},AG mem [] [2]=true→(tD q mem [2])=q.h 56→ -1≤q.i 53→0≤q.i 54→0≤q.i 55→bF (q.h 56) (.slice (ar (q.i 53) 0) (q.i 54).toNat (q.i 55).toNat) rows→rows=fZ bs→postOf mq [.slice (ar x y) bs.length c] [] [R] q mem (.sv (.one (.sl (.var 53) (.lit 0) (.var 54) (.var 55)))):=by
   intro q rows mem hok hu h1 h2 h3 hr he _
   subst he
   exact⟨[],[2],rfl,hok,⟨⟨fun k=>[q.i 53,0,q.i 54,q.i 55].getD k 0,fun _=>false,fun _=>.empty,fun _=>.tuple #[],fun _=>Hl.none⟩,rfl,⟨h1,Int.le_refl _,h2,h3⟩,trivial⟩,_,bs,R,rfl,rfl,hRd,by rw[hu];exact hr⟩
  unfold vn
  simp only[Nd.holds,X.pre,X.rel,X.n,Src.ok,Src.len,Src.bS,true_and,and_true,if_true,Nat.mul_one,Nat.add_zero,Nat.reduceAdd,List.length_cons,List.length_nil,bN,bK,aP,ba,bb,bM,bj,bJ,bI,bD,bd,bk,bL,bg,bf,aQ,bh,ah,ai,aE,aI,aK,ax,aF,aV,aT,au,aO,aC,aN,aB,TV.ev,SV.ev,CV.ev,List.map_cons,List.map_nil,bc.hl,df,Cp.sv,Ck.cv,ct,Cp.len,Ck.len,aU,bm,bC,J0,J1,J2,J3,J4,J5,J6,J7,GC,Ff]
  rw[v0,v1,v2,v3,w4,Int.toNat_natCast,Int.toNat_natCast]
  refine⟨⟨_,bs,R,rfl,rfl,hRd,hby,hlen⟩,fun q1 g1 ⟨F1,⟨u',bs',R',e1,e2,hR',hIn⟩,hF1,_⟩=>?_⟩
  simp only[List.cons.injEq,and_true]at e1 e2
  subst e1 e2
  obtain rfl:=hRd.uniq hR'
  rw[←hF1 trivial]at hIn
  refine⟨⟨bs,[],hIn,Int.le_refl _,Int.le_refl _,Int.le_refl _,bF.nil _,rfl,by simp⟩,fun q2 g2 ⟨rest,rows,hI,x53,x54,x55,hO,hsum,hle⟩=>?_⟩
  have hlr:=(hO.at x53 x54).1
  refine⟨⟨_,_,rest,false,rfl,rfl,hI⟩,fun q3 g3 ⟨F3,⟨p3,R3,bs3,bad3,e1,e2,hI3,hv3⟩,_⟩=>?_⟩
  simp only[List.cons.injEq,and_true]at e1 e2
  subst e1 e2
  obtain⟨e3,_⟩:=hI.uniq hI3
  subst e3
  have hv3:q3.i 60=rest.length:=by simpa using hv3
  rw[hv3]
  have hend:rest.length=0→rows=fZ bs:=fun h=>by
   have:rest=[]:=List.length_eq_zero_iff.1 h
   subst this
   rw[←hsum];exact(List.append_nil _).symm
  refine⟨fun hpos=>?_,fun hneg=>out rfl (bp _) (by rw[g3.i 53 (by omega)];exact x53) (by rw[g3.i 54 (by omega)];exact x54) (by rw[g3.i 55 (by omega)];exact x55) (by rw[g3.i 53 (by omega),g3.i 54 (by omega),g3.i 55 (by omega),g3.h 56 (by omega)];exact hO) (hend (by omega))⟩
  have hne:rest≠[]:=by rintro rfl;simp at hpos
  rw[g3.i 5 (by omega),g3.i 6 (by omega),g3.h 51 (by omega)]
  refine⟨⟨_,4096,_,rest,false,rfl,rfl,hI,by omega⟩,fun q4 g4 ⟨F4,⟨p4,m4,H4,bs4,bad4,H4',e1,e2,hI4,e3,hI4',hv4⟩,hF4,hn4⟩=>?_⟩
  simp only[List.cons.injEq,Value.int.injEq,true_and,and_true]at e1 e2 e3
  obtain⟨e1,em⟩:=e1
  subst e1 em e2
  obtain⟨e4,e5⟩:=hI.uniq hI4
  subst e4 e5
  rw[←e3]at hI4'
  rw[←hF4 trivial]at hv4
  have hI4':iC (q4.h 61) (.pointer (ar (q2.i 5) (q2.i 6))) (tx rest).2.1 (tx rest).2.2:=hI4'
  have hv4:dA (q4.h 62) 5 (.slice (ar (q4.i 61) (q4.i 62)) (q4.i 63).toNat (q4.i 64).toNat) (tx rest).1:=hv4
  have hn4:-1≤q4.i 61∧0≤q4.i 62∧0≤q4.i 63∧0≤q4.i 64:=hn4.1
  rw[g4.i 5 (by omega),g4.i 6 (by omega),g3.i 5 (by omega),g3.i 6 (by omega)]
  refine⟨⟨_,_,_,_,rfl,rfl,hI4'⟩,fun q5 g5 ⟨F5,⟨p5,R5,bs5,bad5,e1,e2,hI5,hv5⟩,_⟩=>?_⟩
  simp only[List.cons.injEq,and_true]at e1 e2
  subst e1 e2
  obtain⟨_,e5⟩:=hI4'.uniq hI5
  subst e5
  have hv5:q5.b 65=(tx rest).2.2:=by simpa [bY] using hv5
  have hat:=tw hne
  have G:ae 60 q2 q5:=g3.trans ((g4.trans (g5.mono (by omega))).mono (by omega))
  have G4:ae 65 q4 q5:=g5
  rw[hv5]
  refine⟨fun hb=>out rfl (bp _) (by rw[G.i 53 (by omega)];exact x53) (by rw[G.i 54 (by omega)];exact x54) (by rw[G.i 55 (by omega)];exact x55) (by rw[G.i 53 (by omega),G.i 54 (by omega),G.i 55 (by omega),G.h 56 (by omega)];exact hO) (by rw[←hsum,hat,if_pos hb,List.append_nil]),fun hb q6 g6 _ q7 g7 ⟨e7,hd7⟩=>?_⟩
  have hb:(tx rest).2.2=false:=Bool.eq_false_iff.2 hb
  have G7:ae 60 q2 q7:=G.trans ((g6.trans (g7.mono (by omega))).mono (by omega))
  have G47:ae 65 q4 q7:=G4.trans ((g6.trans (g7.mono (by omega))).mono (by omega))
  have G46:ae 65 q4 q6:=G4.trans (g6.mono (by omega))
  have G6:ae 60 q2 q6:=G.trans (g6.mono (by omega))
  have hu:iS (q6.h 62) none (.slice (ar (q7.i 61) (q7.i 62)) (q7.i 63).toNat (q7.i 64).toNat) (tx rest).1:=by
   rw[G46.h 62 (by omega),G47.i 61 (by omega),G47.i 62 (by omega),G47.i 63 (by omega),G47.i 64 (by omega)]
   exact iS.of hv4.rd.w hn4.1 hn4.2.1
  rw[e7,G6.h 56 (by omega),G7.i 53 (by omega),G7.i 54 (by omega),G7.i 55 (by omega)]
  rw[G6.h 56 (by omega)]at hd7
  have hpre:∃ xs,bR ((q2.h 56).un (q6.h 62)) 46 1 (.slice (ar (q2.i 53) 0) (q2.i 54).toNat (q2.i 55).toNat) (q2.i 54).toNat xs:=by
   obtain⟨us,ho,_⟩:=hO
   rw[show(q2.i 54).toNat=rows.length by omega]at ho ⊢
   exact⟨us,ho.mono (Hl.e8 _ _)⟩
  refine⟨⟨hpre,x54,by unfold maxLen;omega,by omega⟩,fun q8 g8 ⟨a1,a2,happ,hk,_,hn⟩=>?_⟩
  have G8:ae 60 q2 q8:=G7.trans (g8.mono (by omega))
  have G48:ae 65 q4 q8:=G47.trans (g8.mono (by omega))
  have hrows:=lA hO x53 x54 hd7 hu a1 happ hk hn
  have e54:q8.i 54+1=q2.i 54+1:=by rw[G8.i 54 (by omega)]
  have hless:=vo hne hb
  refine⟨⟨(tx rest).2.1,rows++[(tx rest).1],?_,a1,?_,a2,?_,?_,?_⟩,?_⟩
  ·show iC (q8.h 61) (.pointer (ar (q8.i 5) (q8.i 6))) _ _
   rw[G48.h 61 (by omega),G8.i 5 (by omega),G8.i 6 (by omega),←hb];exact hI4'
  ·show 0≤q8.i 54+1
   omega
  ·show bF (q8.h 68) (.slice (ar (q8.i 68) 0) (q8.i 54+1).toNat (q8.i 69).toNat) _
   rw[e54];exact hrows
  ·rw[List.append_assoc,←hsum,hat,if_neg (by rw[hb];simp)];rfl
  ·rw[List.length_append,List.length_singleton];omega
  ·show((bs.length:Int)-(q8.i 54+1)).toNat<_
   omega
end Go.Proofs.YtomdimlnggpgbaaGreatDoor
namespace Go.Proofs.YtomdimlnggpgbaaGreatDoor
open Go Go.Sx Go.Pk
theorem iA {u:Value} (h:∃ a l c,u=.slice a l c):Value.slice (ar (cH (some u) 0) (cH (some u) 1)) (cH (some u) 2).toNat (cH (some u) 3).toNat=u:=by
 obtain⟨a,n,c,rfl⟩:=h
 cases a with
 | none=>simp [cH,ar]
 | some a =>
  obtain⟨b,o,s⟩:=a
  cases s with
  | none=>simp [cH,ar]
  | some s =>
   simp only[cH,Int.toNat_natCast]
   unfold ar
   rw[if_neg (by omega),if_neg (by omega),Int.toNat_natCast,xH,show(-(-(b:Int)-2)-2).toNat=b by omega]
theorem fw.parts {R:Hl} {u:Value} {r:List Int} (h:fw R u r):(∃ a l c,u=.slice a l c)∧cH (some u) 2=r.length ∧
 (cH (some u) 0= -1∨cH (some u) 2=0∨0≤cH (some u) 0∧0≤cH (some u) 1∧cN R (cH (some u) 0).toNat (cH (some u) 1).toNat (cH (some u) 2).toNat=true) ∧
 (if cH (some u) 0= -1 then ByteArray.empty else bytesOf (dV R (cH (some u) 0).toNat (cH (some u) 1).toNat (cH (some u) 2).toNat))=bytesOf r:=by
 obtain⟨x,y,c,rfl,hy,h⟩:=h
 have h2:cH (some (.slice (ar x y) r.length c)) 2=r.length:=by
  cases hs:ar x y with
  | none=>rfl
  | some a=>obtain⟨b,o,s⟩:=a;cases s<;>rfl
 refine⟨⟨_,_,_,rfl⟩,h2,?_⟩
 rw[h2]
 rcases h with h | ⟨hx,hc⟩
 ·subst h
  refine⟨Or.inr (Or.inl rfl),?_⟩
  show(if _ then ByteArray.empty else bytesOf (dV R _ _ 0))=ByteArray.empty
  split<;>rfl
 ·rw[H9 (by omega),Is hx hy,Int.toNat_natCast]
  refine⟨Or.inr (Or.inr ⟨hx,hy,dB hc (Nat.le_refl _)⟩),?_⟩
  rw[if_neg (by omega),yf hc]
def bu (R RA:Hl) (v:Value) (rows:List (List Int)):Prop:=∃ (us:List Value) (x y:Int) (c:Nat),v=.slice (ar x y) us.length c∧0≤y∧us.length=rows.length∧(∀ (j:Nat) (u:Value),us[j]?=some u→0≤x∧R.cell x.toNat (y.toNat+j)=some u)∧(∀ (j:Nat) (u:Value) (r:List Int),us[j]?=some u→rows[j]?=some r→fw RA u r)
theorem bu.uniq {R RA:Hl} {v:Value} {a b:List (List Int)} (h1:bu R RA v a) (h2:bu R RA v b):a=b:=by
 obtain⟨us,x,y,c,hv,hy,hl,hc,hr⟩:=h1
 obtain⟨us',x',y',c',hv',hy',hl',hc',hr'⟩:=h2
 rw[hv]at hv'
 simp only[Value.slice.injEq]at hv'
 obtain⟨ep,el,_⟩:=hv'
 apply List.ext_getElem (by omega)
 intro j hj hj'
 have hu:us[j]?=some us[j]:=List.getElem?_eq_getElem (by omega)
 have hu':us'[j]?=some us'[j]:=List.getElem?_eq_getElem (by omega)
 obtain⟨hx,e1⟩:=hc j _ hu
 obtain⟨hx',e2⟩:=hc' j _ hu'
 obtain⟨exx,eyy⟩:=jT (by omega) hy (by omega) hy' ep
 have eyy:=eyy hx
 subst exx;subst eyy
 rw[e1]at e2
 have e2:us[j]=us'[j]:=by simpa using e2
 have h1:=hr j _ _ hu (List.getElem?_eq_getElem hj)
 have h2:=hr' j _ _ hu' (List.getElem?_eq_getElem hj')
 rw[e2]at h1
 exact h1.uniq h2
theorem bu.at {R RA:Hl} {x y:Int} {l c:Nat} {rows:List (List Int)} (h:bu R RA (.slice (ar x y) l c) rows) (hy:0≤y):l=rows.length∧∀ (i:Nat) r,rows[i]?=some r→0≤x∧∃ u,R.cell x.toNat (y.toNat+i)=some u∧fw RA u r:=by
 obtain⟨us,x',y',c',hv,hy',hl,hc,hr⟩:=h
 simp only[Value.slice.injEq]at hv
 obtain⟨ep,el,_⟩:=hv
 refine⟨by omega,fun i r hi=>?_⟩
 have hi':=(List.getElem?_eq_some_iff.1 hi).1
 have hu:us[i]?=some us[i]:=List.getElem?_eq_getElem (by omega)
 obtain⟨hx,e⟩:=hc i _ hu
 obtain⟨rfl,rfl⟩:=AQ hx hy' hy ep
 exact⟨hx,_,e,hr i _ r hu hi⟩
theorem fw.slice {R:Hl} {u:Value} {r:List Int} (h:fw R u r):∃ (x y:Int) (c:Nat),u=.slice (ar x y) r.length c∧0≤y:=by
 obtain⟨x,y,c,e,hy,_⟩:=h
 exact⟨x,y,c,e,hy⟩
def aD (rows:List (List Int)):List Int:=(rows.map aR).flatten
def cC (rows:List (List Int)):Prop:=∀ r∈rows,r.length≤4096
theorem rf {rows:List (List Int)} {k:Nat} {r:List Int} (h:rows[k]?=some r):aD (rows.take (k+1))=aD (rows.take k)++aR r:=by
 unfold aD
 rw[List.take_add_one,h,Option.toList_some,List.map_append,List.flatten_append]
 simp
def ly:Sx.Spec where
 fn:=86
 own:=[]
 rd:=[0,3000000]
 res:=[.one .sl,.one (.int .i64)]
 pre:=fun xs Hs Rs=>∃ v R RA rows,xs=[v]∧Rs=[R,RA]∧bu R RA v rows∧rows.length≤1000000∧∀ r∈rows,0≤r.length
 post:=fun xs Hs Rs w Hs' F=>∃ v R RA rows u e,xs=[v]∧Rs=[R,RA]∧bu R RA v rows∧w=.tuple #[u,.int .i64 e]∧(cC rows→e=0∧dA F 5 u (aD rows))∧(¬cC rows→e=3)
def GX:List Sx.Spec:=[n4,s7]
theorem GA:∀ t∈GX,t.OK Tryz.prog:=fun t ht=>by
 simp only[GX,List.mem_cons,List.mem_nil_iff,or_false]at ht
 rcases ht with rfl | rfl
 ·exact BH
 ·exact DD
def ri:Nd:=.and (.e (.le (.lit 0) (.var 2))) (.and (.inv 0 [⟨53,0,.int .i64 (.lit (-1))⟩,⟨54,0,.int .i64 (.lit 0)⟩,⟨55,0,.int .i64 (.lit 0)⟩,⟨50,0,.int .i64 (.lit 0)⟩] [(56,none)]) (.havoc 0 0 6 (.and (.imp (.lt (.var 50) (.var 2)) (.and (.e (.le (.lit 0) (.var 0))) (.and (.e (.le (.lit 0) (.var 1))) (.and (.e (.le (.lit 0) (.var 50))) (.and (.e (.his 4 (.var 0) (.add (.var 1) (.var 50)) 0 .slice)) (.ext (.alloc 60) (.and (.pre (.call 0 61 [.sv (.one (.hptr (.var 60) (.lit 0))),.sv (.one (.sl (.hP 4 (.var 0) (.add (.var 1) (.var 50)) 0 0) (.hP 4 (.var 0) (.add (.var 1) (.var 50)) 0 1) (.hP 4 (.var 0) (.add (.var 1) (.var 50)) 0 2) (.hP 4 (.var 0) (.add (.var 1) (.var 50)) 0 3)))] [.aS 60 [.sl (.lit (-1)) (.lit 0) (.lit 0) (.lit 0),.bool .ff] 208] [.ro 5 [] true])) (.ext (.call 0 61 [.sv (.one (.hptr (.var 60) (.lit 0))),.sv (.one (.sl (.hP 4 (.var 0) (.add (.var 1) (.var 50)) 0 0) (.hP 4 (.var 0) (.add (.var 1) (.var 50)) 0 1) (.hP 4 (.var 0) (.add (.var 1) (.var 50)) 0 2) (.hP 4 (.var 0) (.add (.var 1) (.var 50)) 0 3)))] [.aS 60 [.sl (.lit (-1)) (.lit 0) (.lit 0) (.lit 0),.bool .ff] 208] [.ro 5 [] true]) (.and (.pre (.call 1 63 [.sv (.one (.hptr (.var 60) (.lit 0)))] [] [.hp 61 [] [.var 60] []])) (.ext (.call 1 63 [.sv (.one (.hptr (.var 60) (.lit 0)))] [] [.hp 61 [] [.var 60] []]) (.and (.imp (.not (.eq (.var 67) (.lit 0))) (.post [.ro 4 [.var 0] false,.ro 5 [] true,.hp 56 [] [.var 53] [],.hp 61 [] [.var 60] [],.hp 63 [] [.var 63] []] (.tup [.one (.sl (.lit (-1)) (.lit 0) (.lit 0) (.lit 0)),.one (.int .i64 (.var 67))]))) (.imp (.eq (.var 67) (.lit 0)) (.and (.pre (.app 68 5 1 1 (.sl (.var 53) (.lit 0) (.var 54) (.var 55)) (.var 54) (.hp 56 [] [.var 53] []) (.seg 63 (.var 63) (.var 64) (.var 65)))) (.ext (.app 68 5 1 1 (.sl (.var 53) (.lit 0) (.var 54) (.var 55)) (.var 54) (.hp 56 [] [.var 53] []) (.seg 63 (.var 63) (.var 64) (.var 65))) (.back 0 0 [⟨53,0,.int .i64 (.var 68)⟩,⟨54,0,.int .i64 (.add (.var 54) (.var 65))⟩,⟨55,0,.int .i64 (.var 69)⟩,⟨50,0,.int .i64 (.wrap .i64 (.add (.var 50) (.lit 1)))⟩] [(56,some 68)]))))))))))))))) (.imp (.not (.lt (.var 50) (.var 2))) (.post [.ro 4 [.var 0] false,.ro 5 [] true,.hp 56 [] [.var 53] []] (.tup [.one (.sl (.var 53) (.lit 0) (.var 54) (.var 55)),.one (.int .i64 (.lit 0))]))))))
def np:cy Tryz.prog GX ly.fn where
 Λ:=fun p=>if ES p then some ⟨0,[(4,.sv (.one (.sl (.var 53) (.lit 0) (.var 54) (.var 55)))),(12,TI .i64 (.var 50))],[(2,.hp 56 [] [.var 53] [])],60⟩else none
 args:=[.sv (.one (.sl (.var 0) (.var 1) (.var 2) (.var 3)))]
 mem:=[.ro 4 [.var 0] false,.ro 5 [] true]
 nv:=6
 nd:=ri
 ok:=by kernel_rfl
theorem Ju:GX[0]?=some n4:=rfl
theorem Jv:GX[1]?=some s7:=rfl
theorem Jw:n4.res=[]:=rfl
theorem Jx:s7.res=[.one .sl,.one (.int .i64)]:=rfl
theorem Ir (n:Nat):(bO n [Cp.one .sl,Cp.one (.int .i64)]≠[])=True:=by simp [bO,Cp.roots,Ck.root]
theorem zi:ly.OK Tryz.prog:=by
 refine Spec.b8 (Γ:=GX) GA ?_
 rintro xs Hs Rs hl1 hl2 ⟨v,R,RA,rows,rfl,rfl,hB,hlen,hrow⟩
 have e0:Hs=[]:=List.length_eq_zero_iff.1 hl1
 subst e0
 obtain⟨us,x,y,c,rfl,hy,hul,hcell,hrd⟩:=id hB
 refine⟨np,bx [x,y,us.length,c] false [Hl.none,Hl.none,Hl.none,Hl.none,R,RA],fun _ q=>∃ k:Nat,q.i 50=k∧k≤rows.length∧(∀ r∈rows.take k,r.length≤4096)∧ -1≤q.i 53∧q.i 54=(aD (rows.take k)).length∧0≤q.i 55∧dA (q.h 56) 5 (.slice (ar (q.i 53) 0) (q.i 54).toNat (q.i 55).toNat) (aD (rows.take k))∧(aD (rows.take k)).length≤4106*k,fun _ q=>(rows.length-q.i 50).toNat,?_,⟨?_,?_,?_,?_⟩,(fun _ h=>nomatch h),?_⟩
 ·show [Value.slice (ar x y) ((us.length:Int)).toNat ((c:Int)).toNat]=_
  rw[Int.toNat_natCast,Int.toNat_natCast]
 ·intro r hr ho;simp [np]at hr;rcases hr with rfl | rfl<;>cases ho
 ·intro r hr ho;simp [np]at hr
  rcases hr with rfl | rfl
  ·exact⟨R,by simp,Hl.le_refl _⟩
  ·exact⟨RA,by simp,Hl.le_refl _⟩
 ·simp [np,bc.own]
 ·intro r hr;simp [np]at hr;rcases hr with rfl | rfl<;>trivial
 ·show Nd.holds _ _ _ ri
  generalize hρ:bx [x,y,us.length,c] false [Hl.none,Hl.none,Hl.none,Hl.none,R,RA]=ρ
  have v0:ρ.i 0=x:=by rw[←hρ];rfl
  have v1:ρ.i 1=y:=by rw[←hρ];rfl
  have v2:ρ.i 2=us.length:=by rw[←hρ];rfl
  have v3:ρ.i 3=c:=by rw[←hρ];rfl
  have w4:ρ.h 4=R:=by rw[←hρ];rfl
  have w5:ρ.h 5=RA:=by rw[←hρ];rfl
  clear hρ
  unfold ri
  simp only[Nd.holds,X.pre,X.rel,X.n,Src.ok,Src.len,Src.bS,true_and,and_true,if_true,Nat.mul_one,Nat.add_zero,Nat.reduceAdd,List.length_cons,List.length_nil,bN,bK,aP,ba,bb,bM,bj,bJ,bI,bD,bd,bk,bL,bg,bf,aQ,bh,ah,ai,aE,aI,aK,ax,aF,aV,aT,au,aO,aC,aN,aB,TV.ev,SV.ev,CV.ev,List.map_cons,List.map_nil,bc.hl,df,Cp.sv,Ck.cv,ct,Cp.len,Ck.len,aU,bm,bC,Ju,Jv,Jw,Jx,Ir]
  rw[v2]
  refine⟨by omega,⟨0,rfl,Nat.zero_le _,(by simp),Int.le_refl _,rfl,Int.le_refl _,⟨rfl,Or.inl ⟨rfl,rfl⟩⟩,by simp [aD]⟩,fun q g ⟨k,ek,hk,h4k,x53,y54,x55,hO,hle⟩=>?_⟩
  rw[g.i 0 (by omega),g.i 1 (by omega),g.i 2 (by omega),g.h 4 (by omega),v0,v1,v2,w4,ek]
  refine⟨fun hlt=>?_,fun hge=>?_⟩
  ·have hkr:k<rows.length:=by omega
   have hr:rows[k]?=some rows[k]:=List.getElem?_eq_getElem hkr
   have hu:us[k]?=some us[k]:=List.getElem?_eq_getElem (by omega)
   obtain⟨hx0,hc⟩:=hcell k _ hu
   have hRr:=hrd k _ _ hu hr
   have hsl:∃ a l c,us[k]=Value.slice a l c:=(fw.parts hRr).1
   have hck:R.cell x.toNat (y+(k:Int)).toNat=some us[k]:=by rw[show(y+(k:Int)).toNat=y.toNat+k by omega];exact hc
   refine⟨hx0,hy,by omega,by rw[hck];obtain⟨_,_,_,e⟩:=hsl;rw[e];rfl,fun q1 g1 p60=>?_⟩
   have G1:ae 6 ρ q1:=g.trans (g1.mono (by omega))
   rw[G1.h 4 (by omega),G1.h 5 (by omega),G1.i 0 (by omega),G1.i 1 (by omega),g1.i 50 (by omega),v0,v1,w4,w5,ek,hck,iA hsl,aq p60]
   refine⟨⟨_,_,_,RA,[],false,rows[k],rfl,rfl,rfl,db.new _,hRr,by simp,hrow _ (List.getElem_mem _)⟩,fun q2 g2 ⟨F2,⟨p2,u2,H2,R2,bs2,lg2,b2,H2',e1,e2,e3,hO2,hR2,e4,hO2'⟩,_⟩=>?_⟩
   simp only[List.cons.injEq,and_true]at e1 e2 e3 e4
   obtain⟨e1,e1'⟩:=e1
   subst e1 e1' e2 e3
   obtain⟨eb,el⟩:=(db.new _).uniq hO2
   subst eb el
   obtain rfl:=hRr.uniq hR2
   rw[←e4]at hO2'
   have hOT:lx [] false rows[k]=if 4096<rows[k].length then([],true)else(aR rows[k],false):=rfl
   rw[hOT]at hO2'
   have htl:rows[k].length≤4096→(aR rows[k]).length≤4106:=fun h=>by
    unfold aR
    have:=nZ (z:=rows[k].length) (by omega)
    rw[List.length_append];omega
   have hbnd:(if 4096<rows[k].length then(([]:List Int),true)else(aR rows[k],false)).1.length≤1000000:=by
    split
    ·simp
    ·have:=htl (by omega);show(aR rows[k]).length≤_;omega
   rw[g2.i 60 (by omega),aq p60]
   refine⟨⟨_,_,_,_,rfl,rfl,hO2',hbnd⟩,fun q3 g3 ⟨F3,⟨p3,R3,bs3,lg3,u3,e1,e2,hO3,hv3,hw3⟩,hF3,hn3⟩=>?_⟩
   simp only[List.cons.injEq,and_true]at e1 e2
   subst e1 e2
   obtain⟨eb,el⟩:=hO2'.uniq hO3
   subst eb el
   simp only[Value.tuple.injEq,Array.mk.injEq,List.cons.injEq,Value.int.injEq,true_and,and_true]at hv3
   obtain⟨eu,e67⟩:=hv3
   rw[←eu,←hF3 trivial]at hw3
   have G3:ae 60 q q3:=g1.trans ((g2.trans (g3.mono (by omega))).mono (by omega))
   have hn3:-1≤q3.i 63∧0≤q3.i 64∧0≤q3.i 65∧0≤q3.i 66:=hn3.1
   by_cases hbig:4096<rows[k].length
   ·rw[if_pos hbig]at e67
    have e67:q3.i 67=3:=e67
    refine⟨fun _ _=>?_,fun h0=>(by omega)⟩
    refine⟨[],[],rfl,rfl,⟨⟨fun j=>[-1,0,0,0,3].getD j 0,fun _=>false,fun _=>.empty,fun _=>.tuple #[],fun _=>Hl.none⟩,?_,⟨Int.le_refl _,Int.le_refl _,Int.le_refl _,Int.le_refl _⟩,trivial,trivial⟩,_,R,RA,rows,.slice none 0 0,3,rfl,rfl,hB,?_,fun hok=>?_,fun _=>rfl⟩
    ·show Value.tuple #[.slice (ar (-1) 0) 0 0,.int .i64 (q3.i 67)]=_
     rw[e67];rfl
    ·show Value.tuple #[.slice (ar (-1) 0) 0 0,.int .i64 (q3.i 67)]=_
     rw[e67];rfl
    ·have:=hok _ (List.getElem_mem hkr);omega
   ·rw[if_neg hbig]at e67 hw3
    have hl4:=htl (by omega)
    have hE:so (aR rows[k]) false=(aR rows[k],0):=by unfold so;rw[if_neg (by simp;omega)]
    have e67:q3.i 67=(so (aR rows[k]) false).2:=e67
    have hw3:dA (q3.h 63) 5 (.slice (ar (q3.i 63) (q3.i 64)) (q3.i 65).toNat (q3.i 66).toNat) (so (aR rows[k]) false).1:=hw3
    rw[hE]at e67 hw3
    refine⟨fun h=>absurd e67 h,fun _=>?_⟩
    have hat:=hw3.rd.at hn3.1 hn3.2.1 hn3.2.2.1
    have h65:q3.i 65=(aR rows[k]).length:=hat.1
    obtain⟨hok,hseg⟩:=uZ (R:=q3.h 63) (x:=q3.i 63) (y:=q3.i 64) (l:=q3.i 65) (bs:=aR rows[k]) h65 hn3.2.1 (hat.2.imp (·.2) id)
    rw[G3.i 53 (by omega),G3.i 54 (by omega),G3.i 55 (by omega),G3.h 56 (by omega)]
    have hOw:bR (q.h 56) 5 1 (.slice (ar (q.i 53) 0) (q.i 54).toNat (q.i 55).toNat) (q.i 54).toNat (cn (aD (rows.take k))):=by
     have:=hO
     unfold dA at this
     rw[show(q.i 54).toNat=(aD (rows.take k)).length by omega]at this ⊢
     exact this
    refine⟨⟨⟨_,hOw⟩,by omega,hok,by unfold maxLen;omega,by omega⟩,fun q4 g4 ⟨a1,a2,happ,_⟩=>?_⟩
    have h2:=happ _ hOw
    rw[hseg]at h2
    have e65:q4.i 65=q3.i 65:=g4.i 65 (by omega)
    have e54:q4.i 54=q.i 54:=by rw[g4.i 54 (by omega),G3.i 54 (by omega)]
    have e50:q4.i 50=k:=by rw[g4.i 50 (by omega),G3.i 50 (by omega),ek]
    have hpk:=rf hr
    have hpl:(aD (rows.take (k+1))).length=(aD (rows.take k)).length+(aR rows[k]).length:=by rw[hpk,List.length_append]
    refine⟨⟨k+1,?_,by omega,fun r hrm=>?_,a1,?_,a2,?_,by omega⟩,?_⟩
    ·show IntKind.i64.wrap (q4.i 50+1)=_
     rw[e50,IntWalk.i64_in _ (by omega)];omega
    ·rw[List.take_add_one,hr,Option.toList_some]at hrm
     rcases List.mem_append.1 hrm with h | h
     ·exact h4k r h
     ·rw[List.mem_singleton]at h;subst h;omega
    ·show q4.i 54+q4.i 65=_
     rw[e54,e65];omega
    ·show dA (q4.h 68) _ (.slice (ar (q4.i 68) 0) (q4.i 54+q4.i 65).toNat (q4.i 69).toNat) _
     unfold dA
     rw[e54,e65,hpk,ft,List.length_append]
     have ea:(q.i 54).toNat+(q3.i 65).toNat=(aD (rows.take k)).length+(aR rows[k]).length:=by omega
     have eb:(q.i 54+q3.i 65).toNat=(aD (rows.take k)).length+(aR rows[k]).length:=by omega
     rw[ea]at h2
     rw[eb]
     exact h2
    ·show((rows.length:Int)-IntKind.i64.wrap (q4.i 50+1)).toNat<_
     rw[e50,IntWalk.i64_in _ (by omega)];omega
  ·have hke:k=rows.length:=by omega
   subst hke
   rw[List.take_length]at h4k y54 hO
   intro _
   refine⟨[],[2],rfl,rfl,⟨⟨fun j=>[q.i 53,0,q.i 54,q.i 55,0].getD j 0,fun _=>false,fun _=>.empty,fun _=>.tuple #[],fun _=>Hl.none⟩,rfl,⟨x53,Int.le_refl _,by show 0≤q.i 54;omega,x55⟩,trivial,trivial⟩,_,R,RA,rows,.slice (ar (q.i 53) 0) (q.i 54).toNat (q.i 55).toNat,0,rfl,rfl,hB,rfl,fun _=>⟨rfl,?_⟩,fun hno=>absurd h4k hno⟩
   show dA (dF [q.h 56]) _ _ _
   rw[bp];exact hO
end Go.Proofs.YtomdimlnggpgbaaGreatDoor
namespace Go.Proofs.YtomdimlnggpgbaaGreatDoor
open Go Go.Sx Go.Pk Go.RowKit
def fO:Nat:=0
def jn:Nat:=1
def ir:Nat:=2
def Eo (g:Nat):Prop:=g=fO∨g=jn∨g=ir
def gv (a:Nat→Addr) (g:Nat):Value:=.iface 299 (.pointer (some (a g)))
structure Gl (R:Hl) (a:Nat→Addr):Prop where
 cell:∀ g,Eo g→R.cell g 0=some (gv a g)
 aS:∀ g,Eo g→∃ c t,R (a g).block=some (.cells c t (0,0))
 ne:∀ g h,Eo g→Eo h→g≠h→a g≠a h
theorem Gl.same {R:Hl} {a b:Nat→Addr} (h:Gl R a) (k:Gl R b) {g:Nat} (hg:Eo g):a g=b g:=by
 have:=(h.cell g hg).symm.trans (k.cell g hg)
 simpa [gv] using this
def gi (c:Int):Nat:=if c=4 then jn else if c=14 then ir else fO
theorem wv (c:Int):Eo (gi c):=by
 unfold gi Eo
 split
 ·exact Or.inr (Or.inl rfl)
 ·split
  ·exact Or.inr (Or.inr rfl)
  ·exact Or.inl rfl
def gh (a:Nat→Addr) (v:Value) (c:Int):Prop:=(c=0∧v=.nilIface)∨(c≠0∧∃ s:ByteArray,v=.iface 156 (.agg #[.string s,gv a (gi c)]))
theorem gh.same {R:Hl} {a b:Nat→Addr} (h:Gl R a) (k:Gl R b) {v:Value} {c d:Int} (hc:gh a v c) (hd:gh b v d):(c=0↔d=0)∧(c≠0→gi c=gi d):=by
 rcases hc with ⟨hc,e⟩ | ⟨hc,s,e⟩<;>rcases hd with ⟨hd,e'⟩ | ⟨hd,s',e'⟩<;>rw[e]at e'
 ·exact⟨⟨fun _=>hd,fun _=>hc⟩,fun h=>absurd hc h⟩
 ·cases e'
 ·cases e'
 ·refine⟨⟨fun h=>absurd h hc,fun h=>absurd h hd⟩,fun _=>?_⟩
  simp only[Value.iface.injEq,Value.agg.injEq,Array.mk.injEq,List.cons.injEq,Value.string.injEq,gv,Value.pointer.injEq,Option.some.injEq,true_and,and_true]at e'
  rw[←h.same k (wv d)]at e'
  exact Classical.byContradiction fun hne=>h.ne _ _ (wv c) (wv d) hne e'.2
open Classical in
noncomputable def Ep:Sx.Spec where
 fn:=87
 own:=[]
 rd:=[2000000]
 res:=[.one .bool]
 pre:=fun xs Hs Rs=>∃ e t R a c g,xs=[e,t]∧Rs=[R]∧Gl R a∧gh a e c∧Eo g∧t=gv a g
 post:=fun xs Hs Rs v Hs' F=>∃ e t R,xs=[e,t]∧Rs=[R]∧∀ a c g,Gl R a→gh a e c→Eo g→t=gv a g→v=.bool (decide (c≠0∧gi c=g))
theorem yK:Ep.OK Tryz.prog:=by
 refine qc rfl fun w xs Rs hs ⟨e,t,R,a,c,g,e1,e2,hG,hE,hg,ht⟩=>?_
 subst e1 e2 ht
 refine⟨.bool (decide (c≠0∧gi c=g)),⟨⟨fun _=>0,fun _=>decide (c≠0∧gi c=g),fun _=>.empty,fun _=>.tuple #[],fun _=>Hl.none⟩,rfl,trivial,trivial⟩,?_,_,_,R,rfl,rfl,fun a' c' g' hG' hE' hg' ht'=>?_⟩
 ·have hR:=hs R (by simp)
  obtain⟨cg,tg,hbg⟩:=hG.aS g hg
  rcases hE with ⟨rfl,rfl⟩ | ⟨hc,s,rfl⟩
  ·refine(Gj (a g) w).mono fun e w' ⟨h1,h2⟩=>⟨(by rw[h1];simp),(by rw[h2];exact Below.refl _ _)⟩
  ·by_cases hgc:gi c=g
   ·subst hgc
    refine(uy s (a (gi c)) w).mono fun e w' ⟨h1,h2⟩=>⟨(by rw[h1];simp [hc]),h2⟩
   ·obtain⟨cc,tc,hbc⟩:=hG.aS (gi c) (wv c)
    refine(sq s (a g) (a (gi c)) cc cg tc tg w (hG.ne _ _ (wv c) hg hgc) (hR _ _ hbc) (hR _ _ hbg)).mono fun e w' ⟨h1,h2⟩=>⟨(by rw[h1];simp [hgc]),h2⟩
 ·obtain⟨s1,s2⟩:=hE.same hG hG' hE'
  have hgg:g=g':=by
   have:a g=a' g':=by simpa [gv] using ht'
   rw[←hG.same hG' hg']at this
   exact Classical.byContradiction fun hne=>hG.ne _ _ hg hg' hne this
  subst hgg
  congr 1
  by_cases h0:c=0
  ·have:=s1.1 h0
   simp [h0,this]
  ·have h0':c'≠0:=fun h=>h0 (s1.2 h)
   rw[←s2 h0]
   simp [h0,h0']
def jA:Sx.Spec where
 fn:=52
 own:=[]
 rd:=[2000000]
 res:=[.one .any]
 pre:=fun xs Hs Rs=>∃ (s:ByteArray) (c:Int) (R:Hl) (a:Nat→Addr),xs=[.string s,.int .i64 c]∧Rs=[R]∧Gl R a
 post:=fun xs Hs Rs v Hs' F=>∃ (s:ByteArray) (c:Int) (R:Hl),xs=[.string s,.int .i64 c]∧Rs=[R]∧∀ a,Gl R a→gh a v c
set_option maxRecDepth 20000 in
theorem vz (s:ByteArray) (c:Int) (a:Nat→Addr) (w:World) (h0:w.cell? ⟨fO,0,none⟩=some (gv a fO)) (h1:w.cell? ⟨jn,0,none⟩=some (gv a jn)) (h2:w.cell? ⟨ir,0,none⟩=some (gv a ir)) :
 Calls Tryz.prog 52 #[.string s,.int .i64 c] w fun e w'=>e=.returned (if c=0 then .nilIface else .iface 156 (.agg #[.string s,if c=4 then gv a jn else if c=14 then gv a ir else gv a fO]))∧w'=w:=by
 unfold gv fO at h0
 unfold gv jn at h1
 unfold gv ir at h2
 by_cases c0:c=0
 ·subst c0
  go_enter Tryz.func52,Tryz.ntmps52
  go_wp2
  go_ret
  exact⟨rfl,rfl⟩
 ·rw[if_neg c0]
  by_cases c4:c=4
  ·subst c4
   go_enter Tryz.func52,Tryz.ntmps52
   go_wp2
   go_ret
   exact⟨rfl,rfl⟩
  ·rw[if_neg c4]
   by_cases c14:c=14
   ·subst c14
    go_enter Tryz.func52,Tryz.ntmps52
    go_wp2
    go_ret
    exact⟨rfl,rfl⟩
   ·rw[if_neg c14]
    go_enter Tryz.func52,Tryz.ntmps52
    go_wp2
    go_ret
    exact⟨rfl,rfl⟩
def Ek (a:Nat→Addr) (s:ByteArray) (c:Int):Value:=if c=0 then .nilIface else .iface 156 (.agg #[.string s,if c=4 then gv a jn else if c=14 then gv a ir else gv a fO])
theorem pq:jA.OK Tryz.prog:=by
 refine qc rfl fun w xs Rs hs ⟨s,c,R,a,e1,e2,hG⟩=>?_
 subst e1 e2
 have hR:=hs R (by simp)
 have hv:=vz s c a w (Hl.fm hR (hG.cell _ (Or.inl rfl))) (Hl.fm hR (hG.cell _ (Or.inr (Or.inl rfl)))) (Hl.fm hR (hG.cell _ (Or.inr (Or.inr rfl))))
 refine⟨Ek a s c,⟨⟨fun _=>0,fun _=>false,fun _=>.empty,fun _=>Ek a s c,fun _=>Hl.none⟩,rfl,trivial,trivial⟩,hv.mono fun e w' ⟨h1,h2⟩=>⟨h1,(by rw[h2];exact Below.refl _ _)⟩,s,c,R,rfl,rfl,fun a' hG'=>?_⟩
 unfold Ek
 by_cases c0:c=0
 ·rw[if_pos c0];exact Or.inl ⟨c0,rfl⟩
 ·rw[if_neg c0]
  refine Or.inr ⟨c0,s,?_⟩
  congr 3
  unfold gi
  split
  ·unfold gv;rw[hG.same hG' (Or.inr (Or.inl rfl))]
  ·split
   ·unfold gv;rw[hG.same hG' (Or.inr (Or.inr rfl))]
   ·unfold gv;rw[hG.same hG' (Or.inl rfl)]
def fS (c:Int):Int:=if c=0 then 0 else if gi c=jn then 4 else if gi c=ir then 14 else 5
def gC:Sx.Spec where
 fn:=88
 own:=[]
 rd:=[2000000]
 res:=[.one (.int .i64)]
 pre:=fun xs Hs Rs=>∃ e R a c,xs=[e]∧Rs=[R]∧Gl R a∧gh a e c
 post:=fun xs Hs Rs v Hs' F=>∃ e R,xs=[e]∧Rs=[R]∧∀ a c,Gl R a→gh a e c→v=.int .i64 (fS c)
noncomputable def HT:List Sx.Spec:=[Ep]
theorem Gy:∀ t∈HT,t.OK Tryz.prog:=fun t ht=>by
 simp only[HT,List.mem_cons,List.mem_nil_iff,or_false]at ht
 rw[ht];exact yK
def zc:Nd:=.and (.e (.le (.vint 0) (.lit 1))) (.and (.imp (.eq (.vint 0) (.lit 0)) (.post [.ro 1 [.lit 0,.lit 1,.lit 2] false] (.sv (.one (.int .i64 (.lit 0)))))) (.imp (.not (.eq (.vint 0) (.lit 0))) (.and (.e (.his 1 (.lit 1) (.lit 0) 0 .any)) (.and (.pre (.call 0 2 [.sv (.one (.vr 0)),.sv (.one (.hv 1 (.lit 1) (.lit 0) 0))] [] [.ro 1 [.lit 0,.lit 1,.lit 2] false])) (.ext (.call 0 2 [.sv (.one (.vr 0)),.sv (.one (.hv 1 (.lit 1) (.lit 0) 0))] [] [.ro 1 [.lit 0,.lit 1,.lit 2] false]) (.and (.imp (.bvar 2) (.post [.ro 1 [.lit 0,.lit 1,.lit 2] false] (.sv (.one (.int .i64 (.lit 4)))))) (.imp (.not (.bvar 2)) (.and (.e (.his 1 (.lit 2) (.lit 0) 0 .any)) (.and (.pre (.call 0 3 [.sv (.one (.vr 0)),.sv (.one (.hv 1 (.lit 2) (.lit 0) 0))] [] [.ro 1 [.lit 0,.lit 1,.lit 2] false])) (.ext (.call 0 3 [.sv (.one (.vr 0)),.sv (.one (.hv 1 (.lit 2) (.lit 0) 0))] [] [.ro 1 [.lit 0,.lit 1,.lit 2] false]) (.and (.imp (.bvar 3) (.post [.ro 1 [.lit 0,.lit 1,.lit 2] false] (.sv (.one (.int .i64 (.lit 14)))))) (.imp (.not (.bvar 3)) (.post [.ro 1 [.lit 0,.lit 1,.lit 2] false] (.sv (.one (.int .i64 (.lit 5)))))))))))))))))
noncomputable def wT:cy Tryz.prog HT gC.fn where
 Λ:=aH
 args:=[.sv (.one (.vr 0))]
 mem:=[.ro 1 [.lit 0,.lit 1,.lit 2] false]
 nv:=2
 nd:=zc
 ok:=by kernel_rfl
theorem Jk:HT[0]?=some Ep:=rfl
theorem Jl:Ep.res=[.one .bool]:=rfl
theorem BE {R:Hl} {a b:Nat→Addr} (h:Gl R a) (k:Gl R b) {v:Value} {c d:Int} (hc:gh a v c) (hd:gh b v d):fS c=fS d:=by
 obtain⟨s1,s2⟩:=hc.same h k hd
 unfold fS
 by_cases h0:c=0
 ·rw[if_pos h0,if_pos (s1.1 h0)]
 ·rw[if_neg h0,if_neg (fun h=>h0 (s1.2 h)),s2 h0]
theorem Ah {a:Nat→Addr} {v:Value} {c:Int} (h:gh a v c):j8 v≤1∧(j8 v=0↔c=0):=by
 rcases h with ⟨hc,rfl⟩ | ⟨hc,s,rfl⟩
 ·exact⟨(by decide),fun _=>hc,fun _=>rfl⟩
 ·exact⟨Int.le_refl 1,fun h=>absurd (show(1:Int)=0 from h) (by omega),fun h=>absurd h hc⟩
open Classical in
theorem ux {e:Value} {R:Hl} {a:Nat→Addr} {c:Int} {g n:Nat} {q:Env} {K Hs:List Hl} {F:Hl} (hG:Gl R a) (hE:gh a e c) (hg:Eo g) (hp:Ep.post [e,gv a g] Hs [R] (.bool (bo q (.bvar n))) K F):(q.b n=true)=(c≠0∧gi c=g):=by
 obtain⟨e',t',R',e1,e2,h⟩:=hp
 simp only[List.cons.injEq,and_true]at e1 e2
 obtain⟨rfl,rfl⟩:=e1
 subst e2
 have:=h a c g hG hE hg rfl
 rw[bY]at this
 simp only[Value.bool.injEq]at this
 rw[this];simp
theorem qV:gC.OK Tryz.prog:=by
 refine Spec.b8 (Γ:=HT) Gy ?_
 rintro xs Hs Rs hl1 hl2 ⟨e,R,a,c,rfl,rfl,hG,hE⟩
 have e0:Hs=[]:=List.length_eq_zero_iff.1 hl1
 subst e0
 refine⟨wT,⟨fun _=>0,fun _=>false,fun _=>.empty,fun _=>e,fun _=>R⟩,fun _ _=>True,fun _ _=>0,rfl,⟨?_,?_,?_,?_⟩,(fun _ h=>nomatch h),?_⟩
 ·intro r hr ho;simp [wT]at hr;subst hr;cases ho
 ·intro r hr ho;simp [wT]at hr;subst hr;exact⟨R,by simp,Hl.le_refl _⟩
 ·simp [wT]
 ·intro r hr;simp [wT]at hr;subst hr;trivial
 ·show Nd.holds _ _ _ zc
  generalize hρ:(⟨fun _=>0,fun _=>false,fun _=>.empty,fun _=>e,fun _=>R⟩:Env)=ρ
  have v0:ρ.v 0=e:=by rw[←hρ]
  have w1:ρ.h 1=R:=by rw[←hρ]
  clear hρ
  have out:∀ {q:Env} {z:Int} {mem:Mem},z=fS c→postOf gC [e] [] [R] q mem (.sv (.one (.int .i64 (.lit z)))):=by
   rintro q z mem rfl _
   exact⟨[],[],rfl,rfl,⟨⟨fun _=>fS c,fun _=>false,fun _=>.empty,fun _=>.tuple #[],fun _=>Hl.none⟩,rfl,trivial,trivial⟩,e,R,rfl,rfl,fun a' c' hG' hE'=>by
    rw[←BE hG hG' hE hE'];rfl⟩
  have hcode:=Ah hE
  unfold zc
  simp only[Nd.holds,X.pre,X.rel,X.n,Src.ok,Src.len,Src.bS,true_and,and_true,if_true,Nat.mul_one,Nat.add_zero,Nat.reduceAdd,List.length_cons,List.length_nil,bN,bK,aP,ba,bb,bM,bj,bJ,bI,bD,bd,bk,bL,bg,bf,aQ,bh,ah,ai,aE,aI,aK,ax,aF,aV,aT,au,aO,aC,aN,aB,TV.ev,SV.ev,CV.ev,List.map_cons,List.map_nil,bc.hl,df,Cp.sv,Ck.cv,ct,Cp.len,Ck.len,aU,bm,bC,Jk,Jl,C6]
  rw[v0,w1]
  have cF:R.cell (Int.toNat 1) (Int.toNat 0)=some (gv a jn):=hG.cell jn (Or.inr (Or.inl rfl))
  have cS:R.cell (Int.toNat 2) (Int.toNat 0)=some (gv a ir):=hG.cell ir (Or.inr (Or.inr rfl))
  rw[cF]
  refine⟨hcode.1,fun h0=>out (by unfold fS;rw[if_pos (hcode.2.1 h0)]),fun h0=>⟨rfl,⟨e,_,R,a,c,jn,rfl,rfl,hG,hE,Or.inr (Or.inl rfl),rfl⟩,fun q1 g1 ⟨F1,hp1,_⟩=>?_⟩⟩
  have hc0:c≠0:=fun h=>h0 (hcode.2.2 h)
  have r1:=ux hG hE (Or.inr (Or.inl rfl)) hp1
  rw[r1,g1.h 1 (by omega),g1.v 0 (by omega),v0,w1,cS]
  refine⟨fun h=>out (by unfold fS;rw[if_neg hc0,if_pos h.2]),fun h=>⟨rfl,⟨e,_,R,a,c,ir,rfl,rfl,hG,hE,Or.inr (Or.inr rfl),rfl⟩,fun q2 g2 ⟨F2,hp2,_⟩=>?_⟩⟩
  have hn1:gi c≠jn:=fun e=>h ⟨hc0,e⟩
  have r2:=ux hG hE (Or.inr (Or.inr rfl)) hp2
  rw[r2]
  exact⟨fun h=>out (by unfold fS;rw[if_neg hc0,if_neg hn1,if_pos h.2]),fun h=>out (by unfold fS;rw[if_neg hc0,if_neg hn1,if_neg fun e=>h ⟨hc0,e⟩])⟩
end Go.Proofs.YtomdimlnggpgbaaGreatDoor
