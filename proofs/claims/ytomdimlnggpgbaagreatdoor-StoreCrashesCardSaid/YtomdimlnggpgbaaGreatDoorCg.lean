/- Layer 9: what a store holds behind each call, on a disk of full power: plain law. Condition: bytes below 256, and few calls. -/
import Derived.Test.YtomdimlnggpgbaaGreatDoorRows
import Derived.ProofKit
import Derived.LaidMore
import Derived.LaidHandle
import Derived.OpenShut
import Derived.Stop.Joined
import Derived.Stop.LaidErr
import Derived.Deep.Slices
import Derived.ChangeSame
import Derived.SevenTiedAt
import Derived.Test.YtomdimlnggpgbaaGreatDoorCf
set_option linter.unusedSimpArgs false
set_option linter.unusedVariables false
set_option linter.constructorNameAsVariable false
namespace Go.Proofs.YtomdimlnggpgbaaGreatDoor
open Go Go.Sx Go.Pk
open Go.Proofs.YtomdimlnggpgbaaGreatDoor.D hiding bx aH hJ
structure SP (D:DM) (S:SM) (n:Nat) (g:Int) (K:Nat) where
 fA:Nat
 kA:Nat
 ntA:List Int
 fB:Nat
 kB:Nat
 ntB:List Int
 hn:D.n/2=n
 n3:3≤n
 place:(fA=0∧fB=n∧cY (ntB.take 8)≤g)∨(fA=n∧fB=0∧cY (ntB.take 8)<g)
 hA:Holds D fA n kA S.bA ntA
 hB:Holds D fB n kB S.bB ntB
 eA:S.LA=⟨fA,64*((n:Int)-2),kA,S.bA.length,ntA,false⟩
 eB:S.LB=⟨fB,64*((n:Int)-2),kB,S.bB.length,ntB,false⟩
 pk:S.bA=aD S.recs
 ok:cC S.recs
 ov:S.over=false
 gen:cY (ntA.take 8)=g
 g0:0≤g∧g≤K
 kK:kA≤K∧kB≤K
 loose:D.loose=[]
 b1:bw S.bA
 b2:bw S.bB
theorem SP.open {D:DM} {S:SM} {n:Nat} {g:Int} {K:Nat} (h:SP D S n g K):c9 D=0∧dW D=S∧bw (gM D)∧bw (dG D):=by
 obtain⟨fA,kA,ntA,fB,kB,ntB,hn,n3,place,hA,hB,eA,eB,pk,ok,ov,gen,g0,kK,loose,b1,b2⟩:=h
 have hE:c9 D=0:=by
  unfold c9
  rw[hn,hA.sure.gone,if_neg (by omega)];rfl
 have hSx:S=AA S.LA S.bA S.LB S.bB:=by
  unfold AA
  rw[pk,iP ok,←pk,←ov]
 have gA:bU S.LA=g:=by unfold bU;rw[eA];exact gen
 rcases place with ⟨rfl,rfl,hg⟩ | ⟨rfl,rfl,hg⟩
 ·have e1:jI D=S.LA:=by unfold jI;rw[hn,eA];exact hA.an
  have e2:fP D=S.LB:=by unfold fP;rw[hn,eB];exact hB.an
  have e3:gM D=S.bA:=by unfold gM;rw[hn];exact hA.aA
  have e4:dG D=S.bB:=by unfold dG;rw[hn];exact hB.aA
  refine⟨hE,?_,by rw[e3];exact b1,by rw[e4];exact b2⟩
  unfold dW
  rw[e1,e2,e3,e4,gA,if_neg (by show ¬g<bU S.LB;unfold bU;rw[eB];show ¬g<cY (ntB.take 8);omega)]
  exact hSx.symm
 ·have e1:jI D=S.LB:=by unfold jI;rw[hn,eB];exact hB.an
  have e2:fP D=S.LA:=by unfold fP;rw[hn,eA];exact hA.an
  have e3:gM D=S.bB:=by unfold gM;rw[hn];exact hB.aA
  have e4:dG D=S.bA:=by unfold dG;rw[hn];exact hA.aA
  refine⟨hE,?_,by rw[e3];exact b2,by rw[e4];exact b1⟩
  unfold dW
  rw[e1,e2,e3,e4,gA,if_pos (by show bU S.LB<g;unfold bU;rw[eB];exact hg)]
  exact hSx.symm
def SP.more {D:DM} {S:SM} {n:Nat} {g:Int} {K K':Nat} (h:SP D S n g K) (hK:K≤K'):SP D S n g K' :=
 {h with g0:=⟨h.g0.1,by have:=h.g0.2;omega⟩,kK:=⟨by have:=h.kK.1;omega,by have:=h.kK.2;omega⟩}
theorem SP.apart {D:DM} {S:SM} {n:Nat} {g:Int} {K:Nat} (h:SP D S n g K):(h.fA:Int)+n≤h.fB∨(h.fB:Int)+n≤h.fA:=by
 rcases h.place with ⟨h1,h2,_⟩ | ⟨h1,h2,_⟩<;>omega
theorem SP.add {D:DM} {S:SM} {n:Nat} {g:Int} {K:Nat} (h:SP D S n g K) {rows:List (List Int)} (hk:cC rows) (hr:((aD rows).length:Int)≤64*((n:Int)-2)-S.bA.length) (hb:∀ r∈rows,bw r) (hK:K<1000000) :
 (cA D S rows).e=0∧(cA D S rows).S.recs=S.recs++rows∧Nonempty (SP (cA D S rows).D (cA D S rows).S n g (K+1)):=by
 by_cases hne:rows=[]
 ·subst hne
  have e:cA D S []=⟨0,D,S⟩:=by
   unfold cA
   rw[if_neg (by rw[h.ov];simp),if_neg (fun h'=>h' hk),if_pos rfl]
  rw[e]
  exact⟨rfl,(List.append_nil _).symm,⟨h.more (by omega)⟩⟩
 have hcap:((S.bA.length:Nat):Int)+((aD rows).length:Nat)≤64*((n:Int)-2):=by omega
 have hkA:h.kA<1000000:=by have:=h.kK.1;omega
 obtain⟨a1,a2,a3,a4⟩:=h.hA.append (b:=aD rows) (nt':=h.ntA) hcap hkA h.hA.note
 obtain⟨o1,o2⟩:=h.hA.out (b:=aD rows) (nt':=h.ntA) hcap hkA h.hA.note
 rw[←h.eA]at a1 a2 a3 a4 o1 o2
 have eN:S.LA.note=h.ntA:=by rw[h.eA]
 have eM:S.LA.most=64*((n:Int)-2):=by rw[h.eA]
 obtain⟨c1,c2,c3⟩:=px (D:=D) (S:=S) (rows:=rows) h.ov hk hne (by rw[eM];exact hr) (by rw[eN];exact a1)
 rw[eN]at c2 c3
 have hpb:S.bA++aD rows=aD (S.recs++rows):=by rw[h.pk,nk]
 refine⟨c1,by rw[c3],⟨?_⟩⟩
 rw[c2,c3,a3,a4]
 refine⟨h.fA,h.kA+1,h.ntA,h.fB,h.kB,h.ntB,by rw[o1];exact h.hn,h.n3,h.place,a2,h.hB.cV a2.sure o1 fun j h1 h2=>o2 j ?_,rfl,h.eB,hpb,fun r hr=>?_,rfl,h.gen,⟨h.g0.1,by have:=h.g0.2;omega⟩,⟨by have:=h.kK.1;omega,by have:=h.kK.2;omega⟩,mC a1,fun z hz=>?_,h.b2⟩
 ·rcases h.apart with hp | hp<;>omega
 ·rcases List.mem_append.1 hr with h1 | h1
  ·exact h.ok r h1
  ·exact hk r h1
 ·rcases List.mem_append.1 hz with h1 | h1
  ·exact h.b1 z h1
  ·exact iM hb z h1
theorem wQ {g:Int} (h0:0≤g) (h1:g<1000000):cY ((iD g).take 8)=g+1∧(iD g).length=16:=by
 have hw:IntKind.u64.wrap (g+1)=g+1:=wrap_u64 (by omega) (by omega)
 unfold iD
 rw[hw]
 exact⟨mE (by omega) (by omega),rfl⟩
theorem SP.comp {D:DM} {S:SM} {n:Nat} {g:Int} {K:Nat} (h:SP D S n g K) {rows:List (List Int)} (hk:cC rows) (hr:((aD rows).length:Int)≤64*((n:Int)-2)) (hb:∀ r∈rows,bw r) (hK:K<100000) :
 (bP D S rows).e=0∧(bP D S rows).S.recs=rows∧Nonempty (SP (bP D S rows).D (bP D S rows).S n (g+1) (K+2)):=by
 have hkB:h.kB<1000000:=by have:=h.kK.2;omega
 have gA:bU S.LA=g:=by unfold bU;rw[h.eA];exact h.gen
 have gR:=h.g0
 obtain⟨gn,gl⟩:=wQ (g:=g) gR.1 (by omega)
 obtain⟨a1,a2,a3,a4,a5,a6⟩:=h.hB.clear hkB
 rw[←h.eB]at a1 a2 a3 a4 a5 a6
 have hcap:(((([]:List Int).length:Nat)):Int)+((aD rows).length:Nat)≤64*((n:Int)-2):=by simpa using hr
 obtain⟨c1,c2,c3,c4⟩:=a2.append (b:=aD rows) (nt':=iD g) hcap (by have:=h.kK.2;omega) gl
 obtain⟨o1,o2⟩:=a2.out (b:=aD rows) (nt':=iD g) hcap (by have:=h.kK.2;omega) gl
 have eL:(az D S.LB S.bB).L=⟨h.fB,64*((n:Int)-2),((h.kB+1:Nat):Int),(([]:List Int).length:Nat),h.ntB,false⟩:=a4
 rw[←eL]at c1 c2 c3 c4 o1 o2
 have eR:dr D (bU S.LA) S.LB S.bB (aD rows)=av (az D S.LB S.bB).D (az D S.LB S.bB).L [] (aD rows) (iD g):=by
  unfold dr
  rw[if_neg (by simp [a1]),a3,gA]
 have eM:S.LB.most=64*((n:Int)-2):=by rw[h.eB]
 have eC:bP D S rows=⟨0,(av (az D S.LB S.bB).D (az D S.LB S.bB).L [] (aD rows) (iD g)).D,⟨(av (az D S.LB S.bB).D (az D S.LB S.bB).L [] (aD rows) (iD g)).L,(av (az D S.LB S.bB).D (az D S.LB S.bB).L [] (aD rows) (iD g)).bs,S.LA,S.bA,rows,S.over⟩⟩:=by
  unfold bP
  rw[if_neg (by rw[h.ov];simp),if_neg (fun h'=>h' hk),if_neg (by rw[eM];omega),eR]
  unfold jY
  rw[c1,if_pos nY]
 rw[eC,c3,c4]
 refine⟨rfl,rfl,⟨?_⟩⟩
 have keepA:=h.hA.cV (D':=(av (az D S.LB S.bB).D (az D S.LB S.bB).L [] (aD rows) (iD g)).D) c2.sure (o1.trans a5) fun j h1 h2=>by
  have hp:(j:Int)<64*h.fB∨64*(h.fB+(n:Int))≤(j:Int):=by rcases h.apart with hp | hp<;>omega
  exact(o2 j hp).trans (a6 j hp)
 refine⟨h.fB,h.kB+1+1,iD g,h.fA,h.kA,h.ntA,by show(av _ _ _ _ _).D.n/2=n;rw[o1,a5];exact h.hn,h.n3,?_,c2,keepA,rfl,h.eA,rfl,hk,h.ov,gn,⟨by omega,by omega⟩,⟨by have:=h.kK.2;omega,by have:=h.kK.1;omega⟩,mC c1,fun z hz=>iM hb z hz,h.b1⟩
 have hgen:=h.gen
 rcases h.place with ⟨h1,h2,h3⟩ | ⟨h1,h2,h3⟩
 ·exact Or.inr ⟨h2,h1,by omega⟩
 ·exact Or.inl ⟨h2,h1,by omega⟩
theorem SP.new {m:Nat} (h:6≤m∧m≤16384):Nonempty (SP (cw m) (dW (cw m)) (m/2) 0 0)∧(dW (cw m)).recs=[]∧c9 (cw m)=0:=by
 obtain⟨e1,e2⟩:=tk h
 rw[e2]
 have hn:(cw m).n=m:=by show dj m=m;unfold dj;omega
 have hA:Holds (cw m) 0 ((m/2:Nat):Int) 0 [] my:=c8 (by omega) (by omega) (by omega)
 have hB:Holds (cw m) (m/2) ((m/2:Nat):Int) 0 [] my:=c8 (by omega) (by omega) (by omega)
 have hz:cY (my.take 8)=0:=by decide
 exact⟨⟨⟨0,0,my,m/2,0,my,by rw[hn],by omega,Or.inl ⟨rfl,rfl,by rw[hz];exact Int.le_refl 0⟩,hA,hB,rfl,rfl,rfl,fun r hr=>(by cases hr),rfl,hz,⟨Int.le_refl 0,Int.le_refl 0⟩,⟨Nat.le_refl _,Nat.le_refl _⟩,rfl,fun z hz=>(by cases hz),fun z hz=>(by cases hz)⟩⟩,rfl,e1⟩
end Go.Proofs.YtomdimlnggpgbaaGreatDoor
namespace Go.Proofs.YtomdimlnggpgbaaGreatDoor
open Go Go.Sx Go.Pk
open Go.Proofs.YtomdimlnggpgbaaGreatDoor.D hiding bx aH hJ
theorem vX {p u dp v:Value} {H HD H' HD' R RA RG F:Hl} {S:SM} {D:DM} {rows:List (List Int)} (h1:bT H p dp S) (h2:aj HD dp D) (h3:bu R RA u rows) (hp:tY.post [p,u] [H,HD] [R,RA,RG] v [H',HD'] F) :
 aj HD' dp (bP D S rows).D∧bT H' p dp (bP D S rows).S∧v=.int .i64 (bP D S rows).e:=by
 obtain⟨p',u',Hx,HDx,Rx,RAx,RGx,dp',S',D',rows',H2,HD2,e1,e2,e3,k1,k2,k3,e4,k4,k5,hv⟩:=hp
 simp only[List.cons.injEq,and_true]at e1 e2 e3 e4
 obtain⟨a1,a2⟩:=e1
 obtain⟨a3,a4⟩:=e2
 obtain⟨a5,a6,a7⟩:=e3
 obtain⟨a8,a9⟩:=e4
 subst a1 a2 a3 a4 a5 a6 a7 a8 a9
 obtain⟨rfl,rfl⟩:=h1.rd.uniq k1.rd
 obtain rfl:=h2.uniq k2
 obtain rfl:=h3.uniq k3
 exact⟨k4,k5,hv⟩
theorem Jy:tY.res=[.one (.int .i64)]:=rfl
theorem Jz:rP.res=[.one .bool]:=rfl
theorem JA:qk.res=[]:=rfl
theorem JB:nH.res=[.one .bool]:=rfl
theorem H0:oH.res=[.one .bool]:=rfl
structure KU (R:Hl) (dp:Value) (m:Nat) (HD HS HW:Hl) (ps w:Value) (room gen:Int) (K:Nat) (rows:List (List Int)):Prop where
 ex:∃ D S,aj HD dp D∧bT HS ps dp S∧S.recs=rows∧Nonempty (SP D S (m/2) gen K)∧room=64*(((m/2:Nat):Int)-2)-S.bA.length
 want:∃ Rw,(Rw=HW∨Rw=R)∧bu Rw R w rows
 len:rows.length≤30*K
end Go.Proofs.YtomdimlnggpgbaaGreatDoor
namespace Go.Proofs.YtomdimlnggpgbaaGreatDoor
open Go Go.Sx Go.Pk
open Go.Proofs.YtomdimlnggpgbaaGreatDoor.D hiding bx aH hJ
structure Wi (D E:DM) (lo hi:Nat):Prop where
 n:E.n=D.n
 ok:E.ok
 keys:∀ p∈E.loose,lo≤p.1.toNat∧p.1.toNat<hi
 out:∀ j,(j<64*lo∨64*hi≤j)→E.now[j]?=D.now[j]?
theorem Wi.self {D:DM} (h:D.ok) (hl:D.loose=[]) (lo hi:Nat):Wi D D lo hi:=⟨rfl,h,(fun p hp=>by rw[hl]at hp;cases hp),fun _ _=>rfl⟩
theorem Wi.put {D E:DM} {lo hi:Nat} (h:Wi D E lo hi) {i:Int} (h0:E.has i=true) (h1:lo≤i.toNat) (h2:i.toNat<hi) {bs:List Int} (hb:bs.length=64):Wi D (gf E i bs) lo hi:=by
 refine⟨h.n,pJ h.ok h0 hb,fun p hp=>?_,fun j hj=>?_⟩
 ·have hp:p∈(if(dP i (lv E.loose) 0).isSome then E.loose else E.loose++[(i,E.aJ i)]):=hp
  have hor:p∈E.loose∨p=(i,E.aJ i):=by
   split at hp
   ·exact Or.inl hp
   ·rcases List.mem_append.1 hp with hp | hp
    ·exact Or.inl hp
    ·exact Or.inr (by simpa using hp)
  rcases hor with hp | rfl
  ·exact h.keys p hp
  ·exact⟨h1,h2⟩
 ·rw[fU h.ok h0 hb,if_neg (by omega)]
  exact h.out j hj
theorem Wi.lost {D E:DM} {lo hi:Nat} (h:Wi D E lo hi):Wi D {E with gone:=true} lo hi:=⟨h.n,⟨h.ok.now,h.ok.n,h.ok.f0,h.ok.f1,h.ok.loose⟩,h.keys,h.out⟩
theorem Wi.write {D E:DM} {lo hi:Nat} (h:Wi D E lo hi) {i:Int} (h1:lo≤i.toNat) (h2:i.toNat<hi) (bs:List Int):Wi D (bV E i bs).2 lo hi:=by
 unfold bV
 split
 ·exact h
 ·rename_i hh
  split
  ·exact h
  ·split
   ·exact h.lost
   ·refine h.put (Bool.of_not_eq_false fun e=>hh (Or.inl e)) h1 h2 (Decidable.of_not_not fun e=>hh (Or.inr e))
theorem Wi.sync {D E:DM} {lo hi:Nat} (h:Wi D E lo hi):Wi D (aX E).2 lo hi:=by
 unfold aX
 split
 ·exact h
 ·split
  ·exact h.lost
  ·exact⟨h.n,⟨h.ok.now,h.ok.n,(mY h.ok).1,(mY h.ok).2,fun p hp=>(nomatch hp)⟩,fun p hp=>(nomatch hp),h.out⟩
theorem Wi.fill {D:DM} {lo hi frm:Nat} {all:List Int} (h1:lo≤frm) (h2:64*(frm+2)+all.length≤64*hi):∀ (f i:Nat) (E:DM),Wi D E lo hi→Wi D (bH frm all f i E).2 lo hi
 | 0,_,E,h=>h.sync
 | f+1,i,E,h=>by
  show Wi D (if 64*i<all.length then _ else _:Int×DM).2 lo hi
  split
  ·have hw:=h.write (i:=(frm:Int)+2+i) (by omega) (by omega) (fW all i)
   split
   ·exact hw
   ·exact Wi.fill h1 h2 f (i+1) _ hw
  ·exact h.sync
theorem Wi.pw {D E:DM} {lo hi frm:Nat} (h:Wi D E lo hi) (h1:lo≤frm) (h2:frm+2≤hi) {hd:List Int} (h0:0≤hd.getD 0 0):Wi D (br E frm hd).2 lo hi:=by
 have e:(hd.getD 0 0).tmod 2=hd.getD 0 0%2:=Int.tmod_eq_emod_of_nonneg h0
 have hw:=h.write (i:=(frm:Int)+(hd.getD 0 0).tmod 2) (by rw[e];omega) (by rw[e];omega) (aG hd++aG hd)
 unfold br
 split
 ·exact hw
 ·exact hw.sync
theorem Wi.append {D E:DM} {lo hi frm:Nat} (h:Wi D E lo hi) {L:LM} (hf:L.frm=frm) (h1:lo≤frm) (h2:64*((frm:Int)+2)+L.most≤64*hi) (hm:0≤L.most) (h0:0≤L.serial) (bs b nt:List Int):Wi D (av E L bs b nt).D lo hi:=by
 unfold av
 split
 ·exact h
 split
 ·exact h
 split
 ·exact h
 ·rename_i hr
  have hB:Wi D (bt E L (bs++b) nt bs.length).2 lo hi:=by
   have hF:Wi D (dc E L.frm (bs++b) bs.length).2 lo hi:=by
    unfold dc
    rw[hf]
    exact Wi.fill h1 (by rw[List.length_append];omega) _ _ _ h
   have hT:Wi D (br (dc E L.frm (bs++b) bs.length).2 L.frm (cQ L (bs++b) nt)).2 lo hi:=by
    have:=hF.pw (frm:=frm) h1 (by omega) (hd:=cQ L (bs++b) nt) (by show 0≤L.serial+1;omega)
    rw[hf]at this ⊢
    exact this
   unfold bt
   split
   ·exact hF
   ·split
    ·exact hT
    ·exact hT
  split
  ·exact hB
  ·exact hB
theorem Wi.clear {D E:DM} {lo hi frm:Nat} (h:Wi D E lo hi) {L:LM} (hf:L.frm=frm) (h1:lo≤frm) (h2:frm+2≤hi) (h0:0≤L.serial) (bs:List Int):Wi D (az E L bs).D lo hi:=by
 have hT:=h.pw (frm:=frm) h1 h2 (hd:=cQ L [] L.note) (by show 0≤L.serial+1;omega)
 rw[←hf]at hT
 unfold az
 split
 ·exact h
 split
 ·exact h
 split
 ·exact hT
 ·exact hT
theorem Wi.Fv {D E:DM} {lo hi:Nat} (h:Wi D E lo hi) (fate:List Int):∀ j,(j<64*lo∨64*hi≤j)→(aZ E fate).now[j]?=D.now[j]?:=by
 have hks:∀ k∈cP (E.loose.map (·.1)),∃ p∈E.loose,p.1=k:=fun k hk=>by
  obtain⟨p,hp,e⟩:=List.mem_map.1 (lF.1 hk)
  exact⟨p,hp,e⟩
 have hrg:∀ k∈cP (E.loose.map (·.1)),0≤k∧k<E.n:=fun k hk=>by
  obtain⟨p,hp,rfl⟩:=hks k hk
  exact(h.ok.loose p hp).2
 have key:∀ i,i≤(cP (E.loose.map (·.1))).length→∀ j,(j<64*lo∨64*hi≤j)→(dL E.loose fate E.now (cP (E.loose.map (·.1))) i)[j]?=D.now[j]?:=by
  intro i
  induction i with
  | zero=>exact fun _=>h.out
  | succ i ih =>
   intro hi' j hj
   have hm:(cP (E.loose.map (·.1))).getD i 0∈cP (E.loose.map (·.1)):=by
    rw[List.getD_eq_getElem?_getD,List.getElem?_eq_getElem (by omega),Option.getD_some]
    exact List.getElem_mem _
   obtain⟨p,hp,ep⟩:=hks _ hm
   have hk:=h.keys p hp
   rw[ep]at hk
   have hb:=hrg _ hm
   have hl:=fi h.ok fate _ hrg i (by omega)
   show(bG _ _ _)[j]?=_
   rw[Sx.iB (by rw[b7,hl];omega),b7]
   split
   ·omega
   ·exact ih (by omega) j hj
 have hl:(cP (E.loose.map (·.1))).length=E.loose.length:=by rw[jU,List.length_map]
 exact key E.loose.length (by omega)
theorem D.eI.Io {D E:DM} {frm:Nat} {n fk:Int} {s:Nat} (h:eI D frm n fk s) (hM:j9 E frm n) (hs:∀ j,64*frm≤j→(j:Int)<64*(frm+n)→E.now[j]?=D.now[j]?):oz D E frm n fk s:=by
 obtain⟨r1,r2⟩:=h.mir.rng
 have hz:=h.mir.size.1
 obtain⟨X,Y,x1,x2,x3,x4,x5⟩:=h.oth
 obtain⟨b1,b2,b3⟩:=h.stay hM (fun j h0 h1 _=>hs j h0 (by omega)) x1 x2 (by rw[←x3];exact di fun j h1 h2=>hs j (by omega) (by omega)) x4 x5
 exact⟨b1,by unfold an;rw[b2],b3⟩
structure CP (D:DM) (recs:List (List Int)) (n:Nat) (fk:Int) (K:Nat) where
 fA:Nat
 kA:Nat
 fB:Nat
 kB:Nat
 hn:D.n/2=n
 n3:3≤n∧n≤1000
 place:(fA=0∧fB=n∧bU (an D fB n)≤bU (an D fA n))∨(fA=n∧fB=0∧bU (an D fB n)<bU (an D fA n))
 hA:eI D fA n fk kA
 hB:eI D fB n fk kB
 pk:aA D fA n=aD recs
 ok:cC recs
 g0:0≤bU (an D fA n)∧bU (an D fA n)≤K
 kK:kA≤K∧kB≤K
def CP.S {D:DM} {recs:List (List Int)} {n:Nat} {fk:Int} {K:Nat} (h:CP D recs n fk K):SM:=⟨an D h.fA n,aA D h.fA n,an D h.fB n,aA D h.fB n,recs,false⟩
theorem CP.open {D:DM} {recs:List (List Int)} {n:Nat} {fk:Int} {K:Nat} (h:CP D recs n fk K):c9 D=0∧dW D=h.S∧bw (gM D)∧bw (dG D):=by
 have hb:∀ {frm:Nat} {m:Int},j9 D frm m→bw (aA D frm m):=fun hM z hz=>by
  unfold aA eJ at hz
  exact hM.byte z (List.mem_of_mem_drop (List.mem_of_mem_take hz))
 have hE:c9 D=0:=by
  have:=h.n3
  unfold c9
  rw[h.hn,h.hA.mir.sure.gone,if_neg (by omega)];rfl
 have hSx:h.S=AA (an D h.fA n) (aA D h.fA n) (an D h.fB n) (aA D h.fB n):=by
  unfold CP.S AA
  rw[h.pk,iP h.ok]
 rw[hSx]
 obtain⟨fA,kA,fB,kB,hn,n3,place,hA,hB,pk,ok,g0,kK⟩:=h
 simp only
 rcases place with ⟨rfl,rfl,hg⟩ | ⟨rfl,rfl,hg⟩
 ·refine⟨hE,?_,by unfold gM;rw[hn];exact hb hA.mir,by unfold dG;rw[hn];exact hb hB.mir⟩
  unfold dW jI fP gM dG
  rw[hn]
  have hg:bU (an D fB fB)≤bU (an D 0 fB):=hg
  rw[if_neg (by omega)];rfl
 ·refine⟨hE,?_,by unfold gM;rw[hn];exact hb hB.mir,by unfold dG;rw[hn];exact hb hA.mir⟩
  unfold dW jI fP gM dG
  rw[hn]
  have hg:bU (an D 0 fA)<bU (an D fA fA):=hg
  rw[if_pos hg];rfl
theorem CP.more {D:DM} {recs:List (List Int)} {n:Nat} {fk:Int} {K K':Nat} (h:CP D recs n fk K) (hK:K≤K'):Nonempty (CP D recs n fk K') :=
 ⟨{h with g0:=⟨h.g0.1,by have:=h.g0.2;omega⟩,kK:=⟨by have:=h.kK.1;omega,by have:=h.kK.2;omega⟩}⟩
theorem LM.eq {L M:LM} (h1:L.frm=M.frm) (h2:L.most=M.most) (h3:L.serial=M.serial) (h4:L.size=M.size) (h5:L.note=M.note) (h6:L.over=M.over):L=M:=by
 cases L;cases M
 simp only at h1 h2 h3 h4 h5 h6
 rw[h1,h2,h3,h4,h5,h6]
theorem Fp {D:DM} (h:(aX D).1=0):(aX D).2.gone=false∧(aX D).2.loose=[]:=by
 unfold aX at h ⊢
 split
 ·rename_i hh;rw[if_pos hh]at h;cases h
 ·rename_i hh
  split
  ·rename_i h2;rw[if_neg hh,if_pos h2]at h;cases h
  ·exact⟨Bool.of_not_eq_true hh,rfl⟩
theorem Fq {D:DM} {frm:Int} {hd:List Int} (h:(br D frm hd).1=0):(br D frm hd).2.gone=false∧(br D frm hd).2.loose=[]:=by
 unfold br at h ⊢
 split
 ·rename_i hh;rw[if_pos hh]at h;exact absurd h hh
 ·rename_i hh;rw[if_neg hh]at h;exact Fp h
theorem CE {D:DM} {L:LM} {bs:List Int} (h:(az D L bs).e=0):(az D L bs).D.gone=false∧(az D L bs).D.loose=[]∧(az D L bs).L=cU L [] L.note∧(az D L bs).bs=[]:=by
 unfold az at h ⊢
 split
 ·rename_i hh;rw[if_pos hh]at h;cases h
 rename_i h1
 rw[if_neg h1]at h
 split
 ·rename_i hh;rw[if_pos hh]at h;cases h
 rename_i h2
 rw[if_neg h2]at h
 split
 ·rename_i h3
  obtain⟨a,b⟩:=Fq h3
  exact⟨a,b,rfl,rfl⟩
 ·rename_i h3;rw[if_neg h3]at h;cases h
theorem ym {D:DM} (h:gG D) (hl:D.loose=[]) (f:Int) (fate:List Int):aZ (aW D f) fate=D:=by
 have e:aZ (aW D f) fate=⟨D.n,D.now,[],-1,false⟩:=by unfold aZ aW;simp only[hl];rfl
 rw[e]
 obtain⟨n,now,loose,fuse,gone⟩:=D
 have h1:=h.fuse
 have h2:=h.gone
 simp only at h1 h2 hl
 rw[h1,h2,hl]
theorem yz {E:DM} (hg:E.gone=false) (hl:E.loose=[]) (hf:-1≤E.fuse) (fate:List Int):aW (aZ E fate) E.fuse=E:=by
 have e:aZ E fate=⟨E.n,E.now,[],-1,false⟩:=by unfold aZ;rw[hl];rfl
 rw[e]
 obtain⟨n,now,loose,fuse,gone⟩:=E
 simp only at hg hl hf
 subst hg hl
 unfold aW
 simp only[DM.mk.injEq,true_and,and_true]
 omega
theorem BA (g:Int):cm (iD g):=fun z hz=>by
 unfold iD at hz
 rcases List.mem_append.1 hz with h | h
 ·exact pW _ z h
 ·rw[(List.mem_replicate.1 h).2];omega
structure Small (S:SM):Prop where
 a:S.bA.length≤1048576
 b:S.bB.length≤1048576
 sa:0≤S.LA.serial∧S.LA.serial<dz
 sb:0≤S.LB.serial∧S.LB.serial<dz
 g:bU S.LA<dz
 r:S.recs.length≤1048576
theorem re:∀ rows:List (List Int),rows.length≤(aD rows).length
 | []=>Nat.le_refl _
 | r::rows=>by
  have:=re rows
  have hp:=qU r.length
  rw[jR,List.length_append,List.length_cons]
  unfold aR
  rw[List.length_append];omega
def vJ (r:GS) (recs next:List (List Int)) (n:Nat) (fate:List Int) (K:Nat):Prop :=
 r.D.ok∧r.D.loose.length≤1000000∧((r.e=0∧r.S.over=false∧Nonempty (CP (aZ r.D fate) next n (bl fate 0) K)) ∨
 (r.e≠0∧r.e≠5∧r.S.over=false∧Nonempty (CP (aZ r.D fate) recs n (bl fate 0) K)) ∨
 (r.e=5∧r.S.over=true∧Small r.S∧(Nonempty (CP (aZ r.D fate) recs n (bl fate 0) K)∨Nonempty (CP (aZ r.D fate) next n (bl fate 0) K))))
section
variable {D:DM} {recs:List (List Int)} {n:Nat} {fate:List Int} {K:Nat}
theorem CP.still (h:CP D recs n (bl fate 0) K) {f:Int} (hf:f≤9223372036854775807):(aW D f).ok∧(aW D f).loose.length≤1000000∧Nonempty (CP (aZ (aW D f) fate) recs n (bl fate 0) (K+2)) :=
 ⟨mX h.hA.mir.sure.ok hf,by show D.loose.length≤_;rw[h.hA.mir.loose];exact Nat.zero_le _,by rw[ym h.hA.mir.sure h.hA.mir.loose];exact h.more (by omega)⟩
theorem CP.of {E:DM} {fk:Int} (h:CP D recs n fk K) {next:List (List Int)} {kA kB:Nat} (hn:E.n=D.n) (hA:eI E h.fA n fk kA) (hB:eI E h.fB n fk kB) (gA:(an E h.fA n).note=(an D h.fA n).note) (gB:(an E h.fB n).note=(an D h.fB n).note) (pk:aA E h.fA n=aD next) (ok:cC next) (k1:kA≤K+2) (k2:kB≤K+2):Nonempty (CP E next n fk (K+2)):=by
 have eA:bU (an E h.fA n)=bU (an D h.fA n):=by unfold bU;rw[gA]
 have eB:bU (an E h.fB n)=bU (an D h.fB n):=by unfold bU;rw[gB]
 exact⟨⟨h.fA,kA,h.fB,kB,by rw[hn];exact h.hn,h.n3,by rw[eA,eB];exact h.place,hA,hB,pk,ok,by rw[eA];exact⟨h.g0.1,by have:=h.g0.2;omega⟩,⟨k1,k2⟩⟩⟩
theorem CP.swap {E:DM} {fk:Int} (h:CP D recs n fk K) {next:List (List Int)} {kA kB:Nat} (hn:E.n=D.n) (hA:eI E h.fA n fk kA) (hB:eI E h.fB n fk kB) (gA:(an E h.fA n).note=(an D h.fA n).note) (gB:bU (an E h.fB n)=bU (an D h.fA n)+1) (pk:aA E h.fB n=aD next) (ok:cC next) (k1:kA≤K+2) (k2:kB≤K+2):Nonempty (CP E next n fk (K+2)):=by
 have eA:bU (an E h.fA n)=bU (an D h.fA n):=by unfold bU;rw[gA]
 have g:=h.g0
 refine⟨⟨h.fB,kB,h.fA,kA,by rw[hn];exact h.hn,h.n3,?_,hB,hA,pk,ok,by rw[gB];omega,⟨k2,k1⟩⟩⟩
 rw[eA,gB]
 rcases h.place with ⟨h1,h2,_⟩ | ⟨h1,h2,_⟩
 ·exact Or.inr ⟨h2,h1,by omega⟩
 ·exact Or.inl ⟨h2,h1,by omega⟩
theorem CP.side {E F:DM} {fk:Int} (h:CP D recs n fk K) {lo:Nat} {s fr:Nat} (hlo:(lo=h.fA∧fr=h.fB)∨(lo=h.fB∧fr=h.fA)) (hT:eI D fr n fk s) {f:Int} (hw:Wi (aW D f) F lo (lo+n)) (hE:E=aZ F fate) {fr':Nat} {m:Int} (hM:j9 E fr' m):oz D E fr n fk s:=by
 subst hE
 refine hT.Io ⟨hM.sure,hM.loose,hM.byte,hT.mir.rng.1,by show _≤((aZ F fate).n:Int);rw[show(aZ F fate).n=D.n from hw.n];exact hT.mir.rng.2⟩ fun j h1 h2=>hw.Fv fate j ?_
 rcases h.place with ⟨e1,e2,_⟩ | ⟨e1,e2,_⟩<;>rcases hlo with ⟨rfl,rfl⟩ | ⟨rfl,rfl⟩<;>omega
theorem CP.size {fk:Int} (h:CP D recs n fk K):(aA D h.fA n).length≤1048576∧(aA D h.fB n).length≤1048576∧(an D h.fA n).serial=h.kA∧(an D h.fB n).serial=h.kB∧recs.length≤1048576:=by
 have h1:=h.hA.mir.size.2
 have h2:=re recs
 rw[←h.pk]at h2
 exact⟨h1,h.hB.mir.size.2,h.hA.ser,h.hB.ser,Nat.le_trans h2 h1⟩
theorem CP.small {fk:Int} (h:CP D recs n fk K) (hK:K<1000000):Small h.S:=by
 obtain⟨z1,z2,z3,z4,z5⟩:=h.size
 have:=h.kK
 have:=h.g0
 unfold CP.S
 refine⟨z1,z2,?_,?_,?_,z5⟩<;>unfold dz<;>simp only<;>omega
theorem CP.wi (h:CP D recs n (bl fate 0) K) {f:Int} (hf:f≤9223372036854775807) (lo hi:Nat):Wi (aW D f) (aW D f) lo hi:=Wi.self (mX h.hA.mir.sure.ok hf) h.hA.mir.loose lo hi
theorem CP.add (h:CP D recs n (bl fate 0) K) {f:Int} (hf:f≤9223372036854775807) {rows:List (List Int)} (hb:∀ r∈rows,bw r) (hK:K<1000000):vJ (cA (aW D f) h.S rows) recs (recs++rows) n fate (K+2):=by
 obtain⟨s1,s2,s3⟩:=h.still (fate:=fate) hf
 have ov:h.S.over=false:=rfl
 by_cases hk:cC rows
 rotate_left
 ·have e:cA (aW D f) h.S rows=⟨3,aW D f,h.S⟩:=by unfold cA;rw[ov,if_neg (by simp),if_pos hk]
  rw[e];exact⟨s1,s2,Or.inr (Or.inl ⟨by show(3:Int)≠0;decide,by show(3:Int)≠5;decide,rfl,s3⟩)⟩
 by_cases hne:rows=[]
 ·have e:cA (aW D f) h.S rows=⟨0,aW D f,h.S⟩:=by unfold cA;rw[ov,if_neg (by simp),if_neg (fun h'=>h' hk),if_pos hne]
  rw[e,hne,List.append_nil];exact⟨s1,s2,Or.inl ⟨rfl,rfl,s3⟩⟩
 by_cases hr:h.S.LA.most-(h.S.bA.length:Int)<(aD rows).length
 ·have e:cA (aW D f) h.S rows=⟨4,aW D f,h.S⟩:=by unfold cA;rw[ov,if_neg (by simp),if_neg (fun h'=>h' hk),if_neg hne,if_pos hr]
  rw[e];exact⟨s1,s2,Or.inr (Or.inl ⟨by show(4:Int)≠0;decide,by show(4:Int)≠5;decide,rfl,s3⟩)⟩
 have hmost:h.S.LA.most=64*((n:Int)-2):=rfl
 have hbA:h.S.bA=aA D h.fA n:=rfl
 obtain⟨r,hr'⟩:∃ r,r=av (aW D f) (an D h.fA n) (aA D h.fA n) (aD rows) (an D h.fA n).note:=⟨_,rfl⟩
 have e:cA (aW D f) h.S rows=vO (aW D f) h.S rows r:=by
  unfold cA
  rw[ov,if_neg (by simp),if_neg (fun h'=>h' hk),if_neg hne,if_neg hr,hr'];rfl
 have hkA:=h.kK.1
 have hn16:=h.hA.mir.y9
 obtain⟨a1,a2,a3⟩:=h.hA.append (b:=aD rows) (nt:=(an D h.fA n).note) (by omega) (by rw[hbA]at hr;omega) (by have:=h.n3;omega) hn16 (fun z hz=>iM hb z hz) h.hA.mir.DC hf fate rfl
 rw[←hr']at a1 a2 a3
 have n3:=h.n3
 have w:=(h.wi (fate:=fate) hf h.fA (h.fA+n)).append (frm:=h.fA) (L:=an D h.fA n) rfl (Nat.le_refl _) (by show 64*((h.fA:Int)+2)+64*((n:Int)-2)≤_;omega) (by show 0≤64*((n:Int)-2);omega) (by have:(an D h.fA n).serial=h.kA:=h.hA.ser;omega) (aA D h.fA n) (aD rows) (an D h.fA n).note
 rw[←hr']at w
 have hEn:(aZ r.D fate).n=D.n:=w.n
 have okN:cC (recs++rows):=fun z hz=>(List.mem_append.1 hz).elim (h.ok z) (hk z)
 have goes:pN (aZ r.D fate) h.fA n (bl fate 0) h.kA (aA D h.fA n++aD rows) (an D h.fA n).note→Nonempty (CP (aZ r.D fate) (recs++rows) n (bl fate 0) (K+2)):=fun⟨t,_,t2,t3⟩=>by
  obtain⟨b1,b2,b3⟩:=h.side (fate:=fate) (Or.inl ⟨rfl,rfl⟩) h.hB w rfl t.mir
  exact h.of hEn t b1 t2 (by rw[b2]) (by rw[t3,h.pk,nk]) okN (by omega) (by have:=h.kK.2;omega)
 have stays:oz D (aZ r.D fate) h.fA n (bl fate 0) h.kA→Nonempty (CP (aZ r.D fate) recs n (bl fate 0) (K+2)):=fun⟨t,t2,t3⟩=>by
  obtain⟨b1,b2,b3⟩:=h.side (fate:=fate) (Or.inl ⟨rfl,rfl⟩) h.hB w rfl t.mir
  exact h.of hEn t b1 (by rw[t2]) (by rw[b2]) (by rw[t3,h.pk]) h.ok (by omega) (by have:=h.kK.2;omega)
 rw[e]
 refine⟨a1,a2,?_⟩
 rcases a3 with ⟨c1,_,c3⟩ | ⟨c1,cL,cb,c4⟩
 ·refine Or.inl ⟨?_,?_,goes c3⟩
  ·show fS r.e=0;rw[c1];rfl
  ·show(if r.e≠0∧gi r.e=fO then true else h.S.over)=false
   rw[c1,if_neg (fun h=>h.1 rfl)];rfl
 ·refine Or.inr (Or.inr ⟨?_,?_,?_,c4.symm.imp stays goes⟩)
  ·show fS r.e=5;rw[c1];decide
  ·show(if r.e≠0∧gi r.e=fO then true else h.S.over)=true
   rw[c1,if_pos ⟨by decide,by decide⟩]
  ·have hz:=h.small hK
   refine⟨?_,hz.b,?_,hz.sb,?_,?_⟩
   ·show r.bs.length≤_;rw[cb];exact hz.a
   ·show 0≤r.L.serial∧r.L.serial<dz;rw[cL];exact hz.sa
   ·show bU r.L<dz;rw[cL];exact hz.g
   ·show(if fS r.e=0 then recs++rows else recs).length≤_
    rw[c1,if_neg (by decide)];exact hz.r
theorem CP.comp (h:CP D recs n (bl fate 0) K) {f:Int} (hf:f≤9223372036854775807) {rows:List (List Int)} (hb:∀ r∈rows,bw r) (hK:K<100000):vJ (bP (aW D f) h.S rows) recs rows n fate (K+2):=by
 obtain⟨s1,s2,s3⟩:=h.still (fate:=fate) hf
 have ov:h.S.over=false:=rfl
 by_cases hk:cC rows
 rotate_left
 ·have e:bP (aW D f) h.S rows=⟨3,aW D f,h.S⟩:=by unfold bP;rw[ov,if_neg (by simp),if_pos hk]
  rw[e];exact⟨s1,s2,Or.inr (Or.inl ⟨by show(3:Int)≠0;decide,by show(3:Int)≠5;decide,rfl,s3⟩)⟩
 by_cases hr:h.S.LB.most<(aD rows).length
 ·have e:bP (aW D f) h.S rows=⟨4,aW D f,h.S⟩:=by unfold bP;rw[ov,if_neg (by simp),if_neg (fun h'=>h' hk),if_pos hr]
  rw[e];exact⟨s1,s2,Or.inr (Or.inl ⟨by show(4:Int)≠0;decide,by show(4:Int)≠5;decide,rfl,s3⟩)⟩
 have hmost:h.S.LB.most=64*((n:Int)-2):=rfl
 have n3:=h.n3
 have hkB:=h.kK.2
 have hkA:=h.kK.1
 have g0:=h.g0
 obtain⟨g,hg⟩:∃ g,g=bU (an D h.fA n):=⟨_,rfl⟩
 rw[←hg]at g0
 obtain⟨gn,gl⟩:=wQ (g:=g) g0.1 (by omega)
 obtain⟨r1,hr1⟩:∃ r,r=az (aW D f) (an D h.fB n) (aA D h.fB n):=⟨_,rfl⟩
 obtain⟨r,hr'⟩:∃ r,r=dr (aW D f) g (an D h.fB n) (aA D h.fB n) (aD rows):=⟨_,rfl⟩
 have e:bP (aW D f) h.S rows=jY h.S rows r:=by
  unfold bP
  rw[ov,if_neg (by simp),if_neg (fun h'=>h' hk),if_neg hr,hr',hg];rfl
 rw[e]
 obtain⟨a1,a2,a3⟩:=h.hB.clear (by omega) hf fate rfl
 rw[←hr1]at a1 a2 a3
 have hsB:(an D h.fB n).serial=h.kB:=h.hB.ser
 have w1:=(h.wi (fate:=fate) hf h.fB (h.fB+n)).clear (frm:=h.fB) (L:=an D h.fB n) rfl (Nat.le_refl _) (by omega) (by omega) (aA D h.fB n)
 rw[←hr1]at w1
 have same:∀ {F:DM} {kB:Nat},Wi (aW D f) F h.fB (h.fB+n)→eI (aZ F fate) h.fB n (bl fate 0) kB→kB≤K+2→(an (aZ F fate) h.fB n).note=(an D h.fB n).note→Nonempty (CP (aZ F fate) recs n (bl fate 0) (K+2)):=fun hw t hk2 t2=>by
  obtain⟨b1,b2,b3⟩:=h.side (fate:=fate) (Or.inr ⟨rfl,rfl⟩) h.hA hw rfl t.mir
  exact h.of hw.n b1 t (by rw[b2]) t2 (by rw[b3,h.pk]) h.ok (by omega) hk2
 rcases a3 with ⟨c1,_,c3⟩ | ⟨c1,c2,c3,c4⟩
 rotate_left
 ·have er:r=r1:=by rw[hr',hr1];unfold dr;rw[←hr1,if_pos (by rw[c1];decide)]
  rw[er]
  have ec:jY h.S rows r1=⟨5,r1.D,⟨h.S.LA,h.S.bA,r1.L,r1.bs,recs,true⟩⟩:=by
   unfold jY
   rw[c1,if_neg (by decide),if_pos ⟨by decide,by decide⟩];rfl
  rw[ec]
  have hz:=h.small (by omega)
  refine⟨a1,a2,Or.inr (Or.inr ⟨rfl,rfl,⟨hz.a,by show r1.bs.length≤_;rw[c3];exact hz.b,hz.sa,by show 0≤r1.L.serial∧r1.L.serial<dz;rw[c2];exact hz.sb,hz.g,hz.r⟩,Or.inl ?_⟩)⟩
  rcases c4 with ⟨t,_,t2,_⟩ | ⟨t,t2,_⟩
  ·exact same w1 t (by omega) t2
  ·exact same w1 t (by omega) (by rw[t2])
 obtain⟨d1,d2,d3,d4⟩:=CE (D:=aW D f) (L:=an D h.fB n) (bs:=aA D h.fB n) (by rw[←hr1];exact c1)
 rw[←hr1]at d1 d2 d3 d4
 obtain⟨t,u1,u2,u3⟩:=c3
 obtain⟨D2,hD2⟩:∃ D2,D2=aZ r1.D fate:=⟨_,rfl⟩
 rw[←hD2]at t u1 u2 u3
 have eD:aW D2 r1.D.fuse=r1.D:=by rw[hD2];exact yz d1 d2 a1.f0 fate
 have eL:r1.L=an D2 h.fB n:=by
  rw[d3]
  refine LM.eq rfl rfl ?_ ?_ u2.symm rfl
  ·show(an D h.fB n).serial+1=_
   rw[u1,hsB];rfl
  ·show(((([]:List Int).length:Nat)):Int)=(bQ D2 h.fB n).getD 1 0
   rw[←t.mir.len,u3]
 have er:r=av (aW D2 r1.D.fuse) (an D2 h.fB n) (aA D2 h.fB n) (aD rows) (iD g):=by
  rw[hr'];unfold dr
  rw[←hr1,if_neg (by rw[c1];decide),eD,←eL,d4,u3]
 obtain⟨x1,x2,x3⟩:=t.append (b:=aD rows) (nt:=iD g) (by omega) (by rw[u3];simp only[List.length_nil];omega) (by omega) gl (fun z hz=>iM hb z hz) (BA g) (f:=r1.D.fuse) a1.f1 fate rfl
 have w2:=w1.append (frm:=h.fB) (L:=an D2 h.fB n) rfl (Nat.le_refl _) (by show 64*((h.fB:Int)+2)+64*((n:Int)-2)≤_;omega) (by show 0≤64*((n:Int)-2);omega) (by omega) (aA D2 h.fB n) (aD rows) (iD g)
 rw[←er]at x1 x2 x3
 rw[←eD,←er]at w2
 have gone:pN (aZ r.D fate) h.fB n (bl fate 0) (h.kB+1) (aA D2 h.fB n++aD rows) (iD g)→Nonempty (CP (aZ r.D fate) rows n (bl fate 0) (K+2)):=fun⟨t,_,t2,t3⟩=>by
  obtain⟨b1,b2,b3⟩:=h.side (fate:=fate) (Or.inr ⟨rfl,rfl⟩) h.hA w2 rfl t.mir
  refine h.swap w2.n b1 t (by rw[b2]) ?_ (by rw[t3,u3];rfl) hk (by omega) (by omega)
  unfold bU at hg ⊢
  rw[t2,gn,hg]
 rcases x3 with ⟨c1,_,c3⟩ | ⟨c1,cL,cb,c4⟩
 ·have ec:jY h.S rows r=⟨0,r.D,⟨r.L,r.bs,h.S.LA,h.S.bA,rows,h.S.over⟩⟩:=by unfold jY;rw[c1,if_pos nY]
  rw[ec]
  exact⟨x1,x2,Or.inl ⟨rfl,rfl,gone c3⟩⟩
 ·have ec:jY h.S rows r=⟨5,r.D,⟨h.S.LA,h.S.bA,r.L,r.bs,recs,true⟩⟩:=by
   unfold jY
   rw[c1,if_neg (by decide),if_pos ⟨by decide,by decide⟩];rfl
  rw[ec]
  have hz:=h.small (by omega)
  have hs2:(an D2 h.fB n).serial=((h.kB+1:Nat):Int):=u1
  refine⟨x1,x2,Or.inr (Or.inr ⟨rfl,rfl,⟨hz.a,by show r.bs.length≤_;rw[cb,u3];exact Nat.zero_le _,hz.sa,by show 0≤r.L.serial∧r.L.serial<dz;rw[cL];show 0≤(an D2 h.fB n).serial∧(an D2 h.fB n).serial<dz;rw[hs2];unfold dz;omega,hz.g,hz.r⟩,?_⟩)⟩
  rcases c4 with c4 | ⟨t',t2,_⟩
  ·exact Or.inr (gone c4)
  ·exact Or.inl (same w2 t' (by omega) (by rw[t2,u2]))
theorem CP.new {m:Nat} (h:6≤m∧m≤2000) (fk:Int):Nonempty (CP (cw m) [] (m/2) fk 0):=by
 have hn:(cw m).n=m:=by show dj m=m;unfold dj;omega
 have hA:Holds (cw m) 0 ((m/2:Nat):Int) 0 [] my:=c8 (by omega) (by omega) (by omega)
 have hB:Holds (cw m) (m/2) ((m/2:Nat):Int) 0 [] my:=c8 (by omega) (by omega) (by omega)
 have hz:cY (my.take 8)=0:=by decide
 have gA:bU (an (cw m) ((0:Nat):Int) ((m/2:Nat):Int))=0:=by unfold bU;rw[hA.an];exact hz
 have gB:bU (an (cw m) ((m/2:Nat):Int) ((m/2:Nat):Int))=0:=by unfold bU;rw[hB.an];exact hz
 exact⟨⟨0,0,m/2,0,by rw[hn],by omega,Or.inl ⟨rfl,rfl,by rw[gA,gB];exact Int.le_refl 0⟩,sY (by omega) (by omega) (by omega) fk,sY (by omega) (by omega) (by omega) fk,hA.aA,fun r hr=>(by cases hr),by rw[gA];exact⟨Int.le_refl 0,Int.le_refl 0⟩,⟨Nat.le_refl _,Nat.le_refl _⟩⟩⟩
end
end Go.Proofs.YtomdimlnggpgbaaGreatDoor
namespace Go.Proofs.YtomdimlnggpgbaaGreatDoor
open Go Go.Sx Go.Pk
open Go.Proofs.YtomdimlnggpgbaaGreatDoor.D hiding bx aH hJ
def Us (Rs:List Hl):Hl:=Rs.foldr Hl.un Hl.none
theorem FK:∀ {Rs:List Hl} {U:Hl},(∀ R∈Rs,R.le U)→(Us Rs).le U
 | [],U,_=>fun k o h=>by cases h
 | R::Rs,U,h=>fun k o hk=>by
  have hk:(R k).or (Us Rs k)=some o:=hk
  cases hR:R k with
  | some o'=>rw[hR]at hk;cases hk;exact h R (List.mem_cons_self ..) k _ hR
  | none=>rw[hR]at hk;exact FK (fun S hS=>h S (List.mem_cons_of_mem _ hS)) k o hk
theorem De:∀ {Rs:List Hl} {w:World},(∀ R∈Rs,R.sub w)→(∀ R∈Rs,R.le (Us Rs))∧(Us Rs).sub w
 | [],w,_=>⟨fun R h=>(nomatch h),fun k o h=>by cases h⟩
 | R::Rs,w,h=>by
  obtain⟨h1,h2⟩:=De (Rs:=Rs) (w:=w) fun S hS=>h S (List.mem_cons_of_mem _ hS)
  have hR:=h R (List.mem_cons_self ..)
  refine⟨fun S hS k o hk=>?_,fun k o hk=>?_⟩
  ·show(R k).or (Us Rs k)=some o
   rcases List.mem_cons.1 hS with rfl | hS
   ·rw[hk];rfl
   ·have hu:=h1 S hS k o hk
    cases hRk:R k with
    | none=>exact hu
    | some o' =>
     have e1:=hR k o' hRk
     have e2:=h2 k o hu
     rw[e1]at e2
     exact e2
  ·have hk:(R k).or (Us Rs k)=some o:=hk
   cases hRk:R k with
   | some o'=>rw[hRk]at hk;cases hk;exact hR k _ hRk
   | none=>rw[hRk]at hk;exact h2 k o hk
def mz (Rs:List Hl) (v:Value) (rows:List (List Int)):Prop:=∀ U:Hl,(∀ R∈Rs,R.le U)→bu U U v rows
def AL (rd:List Nat):Sx.Spec where
 fn:=19
 own:=[]
 rd:=rd
 res:=[.one .bool]
 pre:=fun xs Hs Rs=>∃ a b ra rb,xs=[a,b]∧mz Rs a ra∧mz Rs b rb∧ra.length≤1000000000
 post:=fun xs Hs Rs v Hs' F=>∀ a b ra rb,xs=[a,b]→mz Rs a ra→mz Rs b rb→∃ z,v=.bool z∧(ra=rb→z=true)
theorem DX (rd:List Nat):(AL rd).OK Tryz.prog:=by
 rintro w xs Hs Rs hl1 hl2 hs1 hs2 hd1 hd2 ⟨a,b,ra,rb,rfl,h1,h2,hl⟩
 obtain⟨u1,u2⟩:=De hs2
 have k1:=h1 _ u1
 have k2:=h2 _ u1
 refine(B8 w [a,b] Hs [Us Rs,Us Rs,Us Rs] hl1 rfl hs1 (fun R hR=>?_) hd1 (fun H hH=>?_) ⟨a,b,_,_,_,_,ra,rb,rfl,rfl,Or.inl rfl,k1,k2,hl⟩).mono ?_
 ·simp only[List.mem_cons,List.mem_nil_iff,or_false,or_self]at hR;subst hR;exact u2
 ·rw[List.length_eq_zero_iff.1 hl1]at hH;cases hH
 ·rintro e w' ⟨ρ,Hs',F,he,hn,ht,hp⟩
  refine⟨ρ,Hs',F,he,hn,ht,fun a' b' ra' rb' e1 h1' h2'=>?_⟩
  simp only[List.cons.injEq,and_true]at e1
  obtain⟨rfl,rfl⟩:=e1
  exact hp _ _ _ _ _ _ ra' rb' rfl rfl (Or.inl rfl) (h1' _ u1) (h2' _ u1)
def zW (rd:List Nat):Sx.Spec where
 fn:=16
 own:=[]
 rd:=rd
 res:=[.one .sl]
 pre:=fun xs Hs Rs=>∃ a b ra rb,xs=[a,b]∧mz Rs a ra∧mz Rs b rb∧ra.length≤1000000∧rb.length≤1000000
 post:=fun xs Hs Rs v Hs' F=>∀ a b ra rb,xs=[a,b]→mz Rs a ra→mz Rs b rb→mz (F::Rs) v (ra++rb)
theorem Cx (rd:List Nat):(zW rd).OK Tryz.prog:=by
 rintro w xs Hs Rs hl1 hl2 hs1 hs2 hd1 hd2 ⟨a,b,ra,rb,rfl,h1,h2,l1,l2⟩
 obtain⟨u1,u2⟩:=De hs2
 have k1:=h1 _ u1
 have k2:=h2 _ u1
 refine(Cw w [a,b] Hs [Us Rs,Us Rs,Us Rs] hl1 rfl hs1 (fun R hR=>?_) hd1 (fun H hH=>?_) ⟨a,b,_,_,_,_,ra,rb,rfl,rfl,Or.inl rfl,k1,k2,l1,l2⟩).mono ?_
 ·simp only[List.mem_cons,List.mem_nil_iff,or_false,or_self]at hR;subst hR;exact u2
 ·rw[List.length_eq_zero_iff.1 hl1]at hH;cases hH
 ·rintro e w' ⟨ρ,Hs',F,he,hn,ht,hp⟩
  refine⟨ρ,Hs',F,he,hn,ht,fun a' b' ra' rb' e1 h1' h2' U hU=>?_⟩
  simp only[List.cons.injEq,and_true]at e1
  obtain⟨rfl,rfl⟩:=e1
  have hr:=hp _ _ _ _ _ _ ra' rb' rfl rfl (Or.inl rfl) (h1' _ u1) (h2' _ u1)
  exact hr.mono (hU F (List.mem_cons_self ..)) (FK fun R hR=>hU R (List.mem_cons_of_mem _ hR))
theorem mz.of {Rs:List Hl} {R RA:Hl} {v:Value} {rows:List (List Int)} (h:bu R RA v rows) (h1:R∈Rs) (h2:RA∈Rs):mz Rs v rows:=fun U hU=>h.mono (hU _ h1) (hU _ h2)
end Go.Proofs.YtomdimlnggpgbaaGreatDoor
namespace Go.Proofs.YtomdimlnggpgbaaGreatDoor.D
open Go Go.Sx
def wq:Sx.Spec where
 fn:=24
 own:=[.arg 0]
 rd:=[]
 res:=[]
 pre:=fun xs Hs Rs=>∃ p n H D,xs=[p,.int .i64 n]∧Hs=[H]∧aj H p D∧n≤9223372036854775807
 post:=fun xs Hs Rs v Hs' F=>∃ p n H D H',xs=[p,.int .i64 n]∧Hs=[H]∧aj H p D∧Hs'=[H']∧aj H' p (aW D n)
def yy:Nd:=.post [.aS 0 [.sl (.var 6) (.var 7) (.var 8) (.var 9),.map (.var 10),.int .i64 (.ite (.lt (.var 1) (.lit (-1))) (.lit (-1)) (.var 1)),.bool (.bvar 12)] 93,.hp 13 [] [.var 6] [],.hp 14 [] [.var 10] []] (.tup [])
def Ht:cy Tryz.prog [] wq.fn where
 Λ:=aH
 args:=[TP (.var 0) (.lit 0),TI .i64 (.var 1)]
 mem:=mQ
 nv:=15
 nd:=yy
 ok:=by kernel_rfl
theorem CY:wq.OK Tryz.prog:=by
 refine Spec.b8 (Γ:=[]) (fun _ h=>by cases h) ?_
 rintro xs Hs Rs hl1 hl2 ⟨p,n,H,D,rfl,rfl,⟨a,s,m,es,clock,rfl,h⟩,hn⟩
 have e1:Rs=[]:=List.length_eq_zero_iff.1 hl2
 subst e1
 refine⟨Ht,jk a s m D [n,0,0,0,0] es clock Hl.none,fun _ _=>True,fun _ _=>0,?_,qm h _ rfl _,(fun _ h=>nomatch h),?_⟩
 ·show [Value.pointer (ar (a:Int) 0),Value.int .i64 n]=_;rw[fc]
 ·show Nd.holds _ _ _ yy
  unfold yy
  simp only[Nd.holds]
  refine fun _=>⟨[[0,1,2]],[],rfl,rfl,⟨⟨fun _=>0,fun _=>false,fun _=>.empty,fun _=>.tuple #[],fun _=>Hl.none⟩,rfl,trivial⟩,_,n,H,D,_,rfl,rfl,⟨a,s,m,es,clock,rfl,h⟩,rfl,?_⟩
  refine Gb h (ae.refl _ _) (mX h.ok hn) rfl h.map h.st ?_ rfl rfl rfl
  rw[aF,iU]
  show(if decide (n< -1)=true then -1 else n)=max n (-1)
  by_cases hc:n< -1
  ·rw[if_pos (by simpa using hc)];omega
  ·rw[if_neg (by simpa using hc)];omega
end Go.Proofs.YtomdimlnggpgbaaGreatDoor.D
namespace Go.Proofs.YtomdimlnggpgbaaGreatDoor
open Go Go.Sx Go.Pk
open Go.Proofs.YtomdimlnggpgbaaGreatDoor.D hiding bx aH hJ
def Aa:Sx.Spec:=yes 4 (fun xs Rs=>∃ v u R R2 RG g ops fate,xs=[v,u]∧Rs=[R,R2,RG]∧vH R v ops∧(∀ o∈ops,(∀ r∈o.rows,bw r)∧0≤o.k∧o.k<256∧o.f≤9223372036854775807)∧fw R2 u fate∧cm fate∧Gl RG g) [100,1,2000000]
noncomputable def xM:List Sx.Spec:=[wN,jd,sh,tY,pe,rP,qk,wq,nH,oH,zW [0,100],AL [0,6000007,6000006,100]]
theorem Ga:∀ t∈xM,t.OK Tryz.prog:=fun t ht=>by
 simp only[xM,List.mem_cons,List.mem_nil_iff,or_false]at ht
 rcases ht with rfl | rfl | rfl | rfl | rfl | rfl | rfl | rfl | rfl | rfl | rfl | rfl
 ·exact AB
 ·exact tq
 ·exact zU
 ·exact ED
 ·exact xx
 ·exact BW
 ·exact Ba
 ·exact CY
 ·exact AZ
 ·exact CT
 ·exact Cx _
 ·exact DX _
def F0:Nd:=.and (.pre (.call 8 11 [] [] [.ro 10 [.lit 0,.lit 1,.lit 2] false])) (.ext (.call 8 11 [] [] [.ro 10 [.lit 0,.lit 1,.lit 2] false]) (.and (.imp (.bvar 11) (.and (.pre (.call 9 12 [.sv (.one (.sl (.var 0) (.var 1) (.var 2) (.var 3))),.sv (.one (.int .i64 (.lit 30)))] [] [.ro 8 [.var 0] true])) (.ext (.call 9 12 [.sv (.one (.sl (.var 0) (.var 1) (.var 2) (.var 3))),.sv (.one (.int .i64 (.lit 30)))] [] [.ro 8 [.var 0] true]) (.and (.imp (.bvar 12) (.and (.e (.le (.lit 0) (.var 6))) (.and (.imp (.lt (.lit 50) (.var 6)) (.and (.pre (.call 8 13 [] [] [.ro 10 [.lit 0,.lit 1,.lit 2] false])) (.ext (.call 8 13 [] [] [.ro 10 [.lit 0,.lit 1,.lit 2] false]) (.post [.ro 8 [.var 0] true,.ro 9 [.var 4] false,.ro 10 [.lit 0,.lit 1,.lit 2] false] (.sv (.one (.bool (.bvar 13)))))))) (.imp (.not (.lt (.lit 50) (.var 6))) (.and (.pre (.call 0 13 [.sv (.one (.int .i64 (.lit 300)))] [] [])) (.ext (.call 0 13 [.sv (.one (.int .i64 (.lit 300)))] [] []) (.and (.pre (.call 1 15 [.sv (.one (.hptr (.var 13) (.var 14)))] [.hp 13 [] [.var 13] []] [])) (.ext (.call 1 15 [.sv (.one (.hptr (.var 13) (.var 14)))] [.hp 13 [] [.var 13] []] []) (.and (.imp (.not (.eq (.var 17) (.lit 0))) (.post [.ro 8 [.var 0] true,.ro 9 [.var 4] false,.ro 10 [.lit 0,.lit 1,.lit 2] false,.hp 15 [13] [.var 13] [],.hp 16 [] [.var 15] [.var 13]] (.sv (.one (.bool .ff))))) (.imp (.eq (.var 17) (.lit 0)) (.and (.inv 0 [⟨70,0,.int .i64 (.var 15)⟩,⟨71,0,.int .i64 (.var 16)⟩,⟨72,0,.int .i64 (.lit 0)⟩] [(80,some 15),(81,some 16)]) (.havoc 0 0 18 (.and (.e (.le (.lit 0) (.var 2))) (.and (.imp (.lt (.var 72) (.var 2)) (.and (.e (.le (.lit 0) (.var 0))) (.and (.e (.le (.lit 0) (.var 1))) (.and (.e (.le (.lit 0) (.var 72))) (.and (.e (.his 8 (.var 0) (.add (.var 1) (.mul (.var 72) (.lit 3))) 0 (.int .u8))) (.and (.e (.his 8 (.var 0) (.add (.var 1) (.mul (.var 72) (.lit 3))) 1 .slice)) (.and (.e (.his 8 (.var 0) (.add (.var 1) (.mul (.var 72) (.lit 3))) 2 (.int .i64))) (.ext (.alloc 100) (.and (.pre (.call 4 101 [.sv (.one (.hptr (.var 70) (.var 71)))] [] [.hp 81 [] [.var 70] [.var 13]])) (.ext (.call 4 101 [.sv (.one (.hptr (.var 70) (.var 71)))] [] [.hp 81 [] [.var 70] [.var 13]]) (.and (.pre (.call 10 105 [.sv (.one (.sl (.var 101) (.var 102) (.var 103) (.var 104))),.sv (.one (.sl (.hP 8 (.var 0) (.add (.var 1) (.mul (.var 72) (.lit 3))) 1 0) (.hP 8 (.var 0) (.add (.var 1) (.mul (.var 72) (.lit 3))) 1 1) (.hP 8 (.var 0) (.add (.var 1) (.mul (.var 72) (.lit 3))) 1 2) (.hP 8 (.var 0) (.add (.var 1) (.mul (.var 72) (.lit 3))) 1 3)))] [] [.hp 101 [] [.var 101] [],.ro 8 [.var 0] true])) (.ext (.call 10 105 [.sv (.one (.sl (.var 101) (.var 102) (.var 103) (.var 104))),.sv (.one (.sl (.hP 8 (.var 0) (.add (.var 1) (.mul (.var 72) (.lit 3))) 1 0) (.hP 8 (.var 0) (.add (.var 1) (.mul (.var 72) (.lit 3))) 1 1) (.hP 8 (.var 0) (.add (.var 1) (.mul (.var 72) (.lit 3))) 1 2) (.hP 8 (.var 0) (.add (.var 1) (.mul (.var 72) (.lit 3))) 1 3)))] [] [.hp 101 [] [.var 101] [],.ro 8 [.var 0] true]) (.and (.pre (.call 7 109 [.sv (.one (.hptr (.var 13) (.var 14))),.sv (.one (.int .i64 (.hI 8 (.var 0) (.add (.var 1) (.mul (.var 72) (.lit 3))) 2)))] [.hp 80 [] [.var 13] []] [])) (.ext (.call 7 109 [.sv (.one (.hptr (.var 13) (.var 14))),.sv (.one (.int .i64 (.hI 8 (.var 0) (.add (.var 1) (.mul (.var 72) (.lit 3))) 2)))] [.hp 80 [] [.var 13] []] []) (.and (.and (.imp (.eq (.rem (.hI 8 (.var 0) (.add (.var 1) (.mul (.var 72) (.lit 3))) 0) (.lit 2)) (.lit 0)) (.and (.pre (.call 2 111 [.sv (.one (.hptr (.var 70) (.var 71))),.sv (.one (.sl (.hP 8 (.var 0) (.add (.var 1) (.mul (.var 72) (.lit 3))) 1 0) (.hP 8 (.var 0) (.add (.var 1) (.mul (.var 72) (.lit 3))) 1 1) (.hP 8 (.var 0) (.add (.var 1) (.mul (.var 72) (.lit 3))) 1 2) (.hP 8 (.var 0) (.add (.var 1) (.mul (.var 72) (.lit 3))) 1 3)))] [.hp 81 [] [.var 70] [.var 13],.hp 109 [80] [.var 13] []] [.ro 8 [.var 0] true,.ro 8 [.var 0] true,.ro 10 [.lit 0,.lit 1,.lit 2] false])) (.ext (.call 2 111 [.sv (.one (.hptr (.var 70) (.var 71))),.sv (.one (.sl (.hP 8 (.var 0) (.add (.var 1) (.mul (.var 72) (.lit 3))) 1 0) (.hP 8 (.var 0) (.add (.var 1) (.mul (.var 72) (.lit 3))) 1 1) (.hP 8 (.var 0) (.add (.var 1) (.mul (.var 72) (.lit 3))) 1 2) (.hP 8 (.var 0) (.add (.var 1) (.mul (.var 72) (.lit 3))) 1 3)))] [.hp 81 [] [.var 70] [.var 13],.hp 109 [80] [.var 13] []] [.ro 8 [.var 0] true,.ro 8 [.var 0] true,.ro 10 [.lit 0,.lit 1,.lit 2] false]) (.inv 1 [⟨120,0,.int .i64 (.var 105)⟩,⟨121,0,.int .i64 (.var 106)⟩,⟨122,0,.int .i64 (.var 107)⟩,⟨123,0,.int .i64 (.var 108)⟩,⟨124,0,.int .i64 (.var 111)⟩] [(125,some 112),(126,some 111)])))) (.imp (.not (.eq (.rem (.hI 8 (.var 0) (.add (.var 1) (.mul (.var 72) (.lit 3))) 0) (.lit 2)) (.lit 0))) (.and (.pre (.call 3 111 [.sv (.one (.hptr (.var 70) (.var 71))),.sv (.one (.sl (.hP 8 (.var 0) (.add (.var 1) (.mul (.var 72) (.lit 3))) 1 0) (.hP 8 (.var 0) (.add (.var 1) (.mul (.var 72) (.lit 3))) 1 1) (.hP 8 (.var 0) (.add (.var 1) (.mul (.var 72) (.lit 3))) 1 2) (.hP 8 (.var 0) (.add (.var 1) (.mul (.var 72) (.lit 3))) 1 3)))] [.hp 81 [] [.var 70] [.var 13],.hp 109 [80] [.var 13] []] [.ro 8 [.var 0] true,.ro 8 [.var 0] true,.ro 10 [.lit 0,.lit 1,.lit 2] false])) (.ext (.call 3 111 [.sv (.one (.hptr (.var 70) (.var 71))),.sv (.one (.sl (.hP 8 (.var 0) (.add (.var 1) (.mul (.var 72) (.lit 3))) 1 0) (.hP 8 (.var 0) (.add (.var 1) (.mul (.var 72) (.lit 3))) 1 1) (.hP 8 (.var 0) (.add (.var 1) (.mul (.var 72) (.lit 3))) 1 2) (.hP 8 (.var 0) (.add (.var 1) (.mul (.var 72) (.lit 3))) 1 3)))] [.hp 81 [] [.var 70] [.var 13],.hp 109 [80] [.var 13] []] [.ro 8 [.var 0] true,.ro 8 [.var 0] true,.ro 10 [.lit 0,.lit 1,.lit 2] false]) (.inv 1 [⟨120,0,.int .i64 (.hP 8 (.var 0) (.add (.var 1) (.mul (.var 72) (.lit 3))) 1 0)⟩,⟨121,0,.int .i64 (.hP 8 (.var 0) (.add (.var 1) (.mul (.var 72) (.lit 3))) 1 1)⟩,⟨122,0,.int .i64 (.hP 8 (.var 0) (.add (.var 1) (.mul (.var 72) (.lit 3))) 1 2)⟩,⟨123,0,.int .i64 (.hP 8 (.var 0) (.add (.var 1) (.mul (.var 72) (.lit 3))) 1 3)⟩,⟨124,0,.int .i64 (.var 111)⟩] [(125,some 112),(126,some 111)]))))) (.havoc 1 1 111 (.and (.and (.imp (.not (.eq (.var 124) (.lit 0))) (.and (.imp (.not (.eq (.var 124) (.lit 5))) (.inv 2 [⟨130,0,.int .i64 (.var 101)⟩,⟨131,0,.int .i64 (.var 102)⟩,⟨132,0,.int .i64 (.var 103)⟩,⟨133,0,.int .i64 (.var 104)⟩] [])) (.imp (.eq (.var 124) (.lit 5)) (.inv 2 [⟨130,0,.int .i64 (.var 120)⟩,⟨131,0,.int .i64 (.var 121)⟩,⟨132,0,.int .i64 (.var 122)⟩,⟨133,0,.int .i64 (.var 123)⟩] [])))) (.imp (.eq (.var 124) (.lit 0)) (.inv 2 [⟨130,0,.int .i64 (.var 120)⟩,⟨131,0,.int .i64 (.var 121)⟩,⟨132,0,.int .i64 (.var 122)⟩,⟨133,0,.int .i64 (.var 123)⟩] []))) (.havoc 1 2 130 (.and (.and (.pre (.call 5 140 [.sv (.one (.hptr (.var 70) (.var 71)))] [] [.hp 126 [] [.var 70] [.var 13]])) (.ext (.call 5 140 [.sv (.one (.hptr (.var 70) (.var 71)))] [] [.hp 126 [] [.var 70] [.var 13]]) (.and (.imp (.beq (.bvar 140) (.eq (.var 124) (.lit 5))) (.and (.imp (.eq (.var 124) (.lit 5)) (.ext (.alloc 141) (.ext (.cbs 142 141 [.int .u8 (.lit 120)] 5) (.ext (.alloc 143) (.and (.pre (.call 2 144 [.sv (.one (.hptr (.var 70) (.var 71))),.sv (.one (.sl (.var 143) (.lit 0) (.lit 1) (.lit 1)))] [.hp 126 [] [.var 70] [.var 13],.hp 125 [] [.var 13] []] [.aS 143 [.sl (.var 141) (.lit 0) (.lit 1) (.lit 1)] 46,.hp 142 [] [.var 141] [],.ro 10 [.lit 0,.lit 1,.lit 2] false])) (.ext (.call 2 144 [.sv (.one (.hptr (.var 70) (.var 71))),.sv (.one (.sl (.var 143) (.lit 0) (.lit 1) (.lit 1)))] [.hp 126 [] [.var 70] [.var 13],.hp 125 [] [.var 13] []] [.aS 143 [.sl (.var 141) (.lit 0) (.lit 1) (.lit 1)] 46,.hp 142 [] [.var 141] [],.ro 10 [.lit 0,.lit 1,.lit 2] false]) (.and (.imp (.eq (.var 144) (.lit 5)) (.and (.pre (.call 3 147 [.sv (.one (.hptr (.var 70) (.var 71))),.sv (.one (.sl (.lit (-1)) (.lit 0) (.lit 0) (.lit 0)))] [.hp 144 [126] [.var 70] [.var 13],.hp 145 [125] [.var 13] []] [.ro 8 [.var 0] true,.ro 8 [.var 0] true,.ro 10 [.lit 0,.lit 1,.lit 2] false])) (.ext (.call 3 147 [.sv (.one (.hptr (.var 70) (.var 71))),.sv (.one (.sl (.lit (-1)) (.lit 0) (.lit 0) (.lit 0)))] [.hp 144 [126] [.var 70] [.var 13],.hp 145 [125] [.var 13] []] [.ro 8 [.var 0] true,.ro 8 [.var 0] true,.ro 10 [.lit 0,.lit 1,.lit 2] false]) (.and (.imp (.not (.eq (.var 147) (.lit 5))) (.post [.ro 8 [.var 0] true,.ro 9 [.var 4] false,.ro 10 [.lit 0,.lit 1,.lit 2] false,.hp 148 [145,125] [.var 13] [],.hp 147 [144,126] [.var 70] [.var 13],.dead,.hp 101 [] [.var 101] [],.hp 105 [] [.var 105] [],.hp 142 [] [.var 141] [],.dead] (.sv (.one (.bool .ff))))) (.imp (.eq (.var 147) (.lit 5)) (.inv 3 [] [(165,some 148),(166,some 147)])))))) (.imp (.not (.eq (.var 144) (.lit 5))) (.post [.ro 8 [.var 0] true,.ro 9 [.var 4] false,.ro 10 [.lit 0,.lit 1,.lit 2] false,.hp 145 [125] [.var 13] [],.hp 144 [126] [.var 70] [.var 13],.dead,.hp 101 [] [.var 101] [],.hp 105 [] [.var 105] [],.hp 142 [] [.var 141] [],.dead] (.sv (.one (.bool .ff)))))))))))) (.imp (.not (.eq (.var 124) (.lit 5))) (.inv 3 [] [(165,some 125),(166,some 126)])))) (.imp (.not (.beq (.bvar 140) (.eq (.var 124) (.lit 5)))) (.post [.ro 8 [.var 0] true,.ro 9 [.var 4] false,.ro 10 [.lit 0,.lit 1,.lit 2] false,.hp 125 [] [.var 13] [],.hp 126 [] [.var 70] [.var 13],.dead,.hp 101 [] [.var 101] [],.hp 105 [] [.var 105] []] (.sv (.one (.bool .ff)))))))) (.havoc 1 3 140 (.and (.pre (.call 6 170 [.sv (.one (.hptr (.var 13) (.var 14))),.sv (.one (.sl (.var 4) (.var 5) (.var 6) (.var 7)))] [.hp 165 [] [.var 13] []] [.ro 9 [.var 4] false])) (.ext (.call 6 170 [.sv (.one (.hptr (.var 13) (.var 14))),.sv (.one (.sl (.var 4) (.var 5) (.var 6) (.var 7)))] [.hp 165 [] [.var 13] []] [.ro 9 [.var 4] false]) (.and (.pre (.call 1 172 [.sv (.one (.hptr (.var 13) (.var 14)))] [.hp 170 [165] [.var 13] []] [])) (.ext (.call 1 172 [.sv (.one (.hptr (.var 13) (.var 14)))] [.hp 170 [165] [.var 13] []] []) (.and (.imp (.not (.eq (.var 174) (.lit 0))) (.post [.ro 8 [.var 0] true,.ro 9 [.var 4] false,.ro 10 [.lit 0,.lit 1,.lit 2] false,.hp 172 [170,165] [.var 13] [],.hp 166 [] [.var 70] [.var 13],.dead,.hp 101 [] [.var 101] [],.hp 105 [] [.var 105] [],.hp 173 [] [.var 172] [.var 13]] (.sv (.one (.bool .ff))))) (.imp (.eq (.var 174) (.lit 0)) (.and (.pre (.call 4 175 [.sv (.one (.hptr (.var 172) (.var 173)))] [] [.hp 173 [] [.var 172] [.var 13]])) (.ext (.call 4 175 [.sv (.one (.hptr (.var 172) (.var 173)))] [] [.hp 173 [] [.var 172] [.var 13]]) (.and (.imp (.not (.eq (.var 124) (.lit 5))) (.and (.pre (.call 11 179 [.sv (.one (.sl (.var 175) (.var 176) (.var 177) (.var 178))),.sv (.one (.sl (.var 130) (.var 131) (.var 132) (.var 133)))] [] [.hp 175 [] [.var 175] [],.hp 105 [] [.var 105] [],.hp 101 [] [.var 101] [],.ro 8 [.var 0] true])) (.ext (.call 11 179 [.sv (.one (.sl (.var 175) (.var 176) (.var 177) (.var 178))),.sv (.one (.sl (.var 130) (.var 131) (.var 132) (.var 133)))] [] [.hp 175 [] [.var 175] [],.hp 105 [] [.var 105] [],.hp 101 [] [.var 101] [],.ro 8 [.var 0] true]) (.and (.imp (.bvar 179) (.and (.pre (.call 11 180 [.sv (.one (.sl (.var 175) (.var 176) (.var 177) (.var 178))),.sv (.one (.sl (.var 130) (.var 131) (.var 132) (.var 133)))] [] [.hp 175 [] [.var 175] [],.hp 105 [] [.var 105] [],.hp 101 [] [.var 101] [],.ro 8 [.var 0] true])) (.ext (.call 11 180 [.sv (.one (.sl (.var 175) (.var 176) (.var 177) (.var 178))),.sv (.one (.sl (.var 130) (.var 131) (.var 132) (.var 133)))] [] [.hp 175 [] [.var 175] [],.hp 105 [] [.var 105] [],.hp 101 [] [.var 101] [],.ro 8 [.var 0] true]) (.and (.imp (.not (.bvar 180)) (.and (.pre (.call 11 181 [.sv (.one (.sl (.var 175) (.var 176) (.var 177) (.var 178))),.sv (.one (.sl (.var 101) (.var 102) (.var 103) (.var 104)))] [] [.hp 175 [] [.var 175] [],.hp 105 [] [.var 105] [],.hp 101 [] [.var 101] [],.ro 8 [.var 0] true])) (.ext (.call 11 181 [.sv (.one (.sl (.var 175) (.var 176) (.var 177) (.var 178))),.sv (.one (.sl (.var 101) (.var 102) (.var 103) (.var 104)))] [] [.hp 175 [] [.var 175] [],.hp 105 [] [.var 105] [],.hp 101 [] [.var 101] [],.ro 8 [.var 0] true]) (.and (.imp (.not (.bvar 181)) (.post [.ro 8 [.var 0] true,.ro 9 [.var 4] false,.ro 10 [.lit 0,.lit 1,.lit 2] false,.hp 172 [170,165] [.var 13] [],.hp 166 [] [.var 70] [.var 13],.dead,.hp 101 [] [.var 101] [],.hp 105 [] [.var 105] [],.hp 173 [] [.var 172] [.var 13],.hp 175 [] [.var 175] []] (.sv (.one (.bool .ff))))) (.imp (.bvar 181) (.back 0 0 [⟨70,0,.int .i64 (.var 172)⟩,⟨71,0,.int .i64 (.var 173)⟩,⟨72,0,.int .i64 (.wrap .i64 (.add (.var 72) (.lit 1)))⟩] [(80,some 172),(81,some 173)])))))) (.imp (.bvar 180) (.back 0 0 [⟨70,0,.int .i64 (.var 172)⟩,⟨71,0,.int .i64 (.var 173)⟩,⟨72,0,.int .i64 (.wrap .i64 (.add (.var 72) (.lit 1)))⟩] [(80,some 172),(81,some 173)])))))) (.imp (.not (.bvar 179)) (.post [.ro 8 [.var 0] true,.ro 9 [.var 4] false,.ro 10 [.lit 0,.lit 1,.lit 2] false,.hp 172 [170,165] [.var 13] [],.hp 166 [] [.var 70] [.var 13],.dead,.hp 101 [] [.var 101] [],.hp 105 [] [.var 105] [],.hp 173 [] [.var 172] [.var 13],.hp 175 [] [.var 175] []] (.sv (.one (.bool .ff))))))))) (.imp (.eq (.var 124) (.lit 5)) (.and (.pre (.call 11 179 [.sv (.one (.sl (.var 175) (.var 176) (.var 177) (.var 178))),.sv (.one (.sl (.var 130) (.var 131) (.var 132) (.var 133)))] [] [.hp 175 [] [.var 175] [],.hp 105 [] [.var 105] [],.hp 101 [] [.var 101] [],.ro 8 [.var 0] true])) (.ext (.call 11 179 [.sv (.one (.sl (.var 175) (.var 176) (.var 177) (.var 178))),.sv (.one (.sl (.var 130) (.var 131) (.var 132) (.var 133)))] [] [.hp 175 [] [.var 175] [],.hp 105 [] [.var 105] [],.hp 101 [] [.var 101] [],.ro 8 [.var 0] true]) (.and (.imp (.not (.bvar 179)) (.and (.pre (.call 11 180 [.sv (.one (.sl (.var 175) (.var 176) (.var 177) (.var 178))),.sv (.one (.sl (.var 101) (.var 102) (.var 103) (.var 104)))] [] [.hp 175 [] [.var 175] [],.hp 105 [] [.var 105] [],.hp 101 [] [.var 101] [],.ro 8 [.var 0] true])) (.ext (.call 11 180 [.sv (.one (.sl (.var 175) (.var 176) (.var 177) (.var 178))),.sv (.one (.sl (.var 101) (.var 102) (.var 103) (.var 104)))] [] [.hp 175 [] [.var 175] [],.hp 105 [] [.var 105] [],.hp 101 [] [.var 101] [],.ro 8 [.var 0] true]) (.and (.imp (.not (.bvar 180)) (.post [.ro 8 [.var 0] true,.ro 9 [.var 4] false,.ro 10 [.lit 0,.lit 1,.lit 2] false,.hp 172 [170,165] [.var 13] [],.hp 166 [] [.var 70] [.var 13],.dead,.hp 101 [] [.var 101] [],.hp 105 [] [.var 105] [],.hp 173 [] [.var 172] [.var 13],.hp 175 [] [.var 175] []] (.sv (.one (.bool .ff))))) (.imp (.bvar 180) (.back 0 0 [⟨70,0,.int .i64 (.var 172)⟩,⟨71,0,.int .i64 (.var 173)⟩,⟨72,0,.int .i64 (.wrap .i64 (.add (.var 72) (.lit 1)))⟩] [(80,some 172),(81,some 173)])))))) (.imp (.bvar 179) (.back 0 0 [⟨70,0,.int .i64 (.var 172)⟩,⟨71,0,.int .i64 (.var 173)⟩,⟨72,0,.int .i64 (.wrap .i64 (.add (.var 72) (.lit 1)))⟩] [(80,some 172),(81,some 173)]))))))))))))))))))))))))))))))))))) (.imp (.not (.lt (.var 72) (.var 2))) (.post [.ro 8 [.var 0] true,.ro 9 [.var 4] false,.ro 10 [.lit 0,.lit 1,.lit 2] false,.hp 80 [] [.var 13] [],.hp 81 [] [.var 70] [.var 13]] (.sv (.one (.bool .tt))))))))))))))))))) (.imp (.not (.bvar 12)) (.and (.pre (.call 8 13 [] [] [.ro 10 [.lit 0,.lit 1,.lit 2] false])) (.ext (.call 8 13 [] [] [.ro 10 [.lit 0,.lit 1,.lit 2] false]) (.post [.ro 8 [.var 0] true,.ro 9 [.var 4] false,.ro 10 [.lit 0,.lit 1,.lit 2] false] (.sv (.one (.bool (.bvar 13)))))))))))) (.imp (.not (.bvar 11)) (.and (.pre (.call 8 12 [] [] [.ro 10 [.lit 0,.lit 1,.lit 2] false])) (.ext (.call 8 12 [] [] [.ro 10 [.lit 0,.lit 1,.lit 2] false]) (.post [.ro 8 [.var 0] true,.ro 9 [.var 4] false,.ro 10 [.lit 0,.lit 1,.lit 2] false] (.sv (.one (.bool (.bvar 12))))))))))
noncomputable def Ka:cy Tryz.prog xM Aa.fn where
 Λ:=fun p=>if cutAt p [4,1,1,1,1,1,0,1,0,0,1,0,0,1,1,1,1,1,0]then some ⟨1,[(11,.sv (.one (.sl (.var 120) (.var 121) (.var 122) (.var 123)))),(12,TI .i64 (.var 124))],[(3,.hp 125 [] [.var 13] []),(4,.hp 126 [] [.var 70] [.var 13])],130⟩else if cutAt p [4,1,1,1,1,1,0,1,0,0,1,0,0,1,1,1,1,1,1,0]then some ⟨2,[(11,.sv (.one (.sl (.var 130) (.var 131) (.var 132) (.var 133))))],[],140⟩else if cutAt p [4,1,1,1,1,1,0,1,0,0,1,0,0,1,1,1,1,1,1,1,0]then some ⟨3,[],[(3,.hp 165 [] [.var 13] []),(4,.hp 166 [] [.var 70] [.var 13])],170⟩else if lp p then some ⟨0,[(6,TP (.var 70) (.var 71)),(8,TI .i64 (.var 72))],[(3,.hp 80 [] [.var 13] []),(4,.hp 81 [] [.var 70] [.var 13])],100⟩else none
 args:=[.sv (.one (.sl (.var 0) (.var 1) (.var 2) (.var 3))),.sv (.one (.sl (.var 4) (.var 5) (.var 6) (.var 7)))]
 mem:=[.ro 8 [.var 0] true,.ro 9 [.var 4] false,.ro 10 [.lit 0,.lit 1,.lit 2] false]
 nv:=11
 nd:=F0
 ok:=by kernel_rfl
theorem IU:xM[0]?=some wN:=rfl
theorem IV:xM[1]?=some jd:=rfl
theorem IW:xM[2]?=some sh:=rfl
theorem IX:xM[3]?=some tY:=rfl
theorem IY:xM[4]?=some pe:=rfl
theorem IZ:xM[5]?=some rP:=rfl
theorem I0:xM[6]?=some qk:=rfl
theorem I1:xM[7]?=some wq:=rfl
theorem I2:xM[8]?=some nH:=rfl
theorem I3:xM[9]?=some oH:=rfl
theorem Hj:xM[10]?=some (zW [0,100]):=rfl
theorem Hk:xM[11]?=some (AL [0,6000007,6000006,100]):=rfl
theorem I4:wq.res=[]:=rfl
theorem Hm:(zW [0,100]).res=[.one .sl]:=rfl
theorem Hn:(AL [0,6000007,6000006,100]).res=[.one .bool]:=rfl
def CA (R Rw F HD HS:Hl) (dp ps was next:Value) (e:Int) (fate:List Int) (K:Nat):Prop:=∃ recs nx r,bu Rw Rw was recs∧mz [F,Rw,R] next nx∧aj HD dp r.D∧bT HS ps dp r.S∧e=r.e∧vJ r recs nx 150 fate K
def CB (R Rw F HD HS:Hl) (dp ps was next:Value) (e:Int) (fate:List Int) (K:Nat):Prop:=∃ recs nx,∃ r:GS,bu Rw Rw was recs∧mz [F,Rw,R] next nx∧aj HD dp r.D∧bT HS ps dp r.S∧r.D.ok∧r.D.loose.length≤1000000 ∧
 ((e≠5∧r.S.over=false∧Nonempty (CP (aZ r.D fate) nx 150 (bl fate 0) K))∨(e=5∧r.S.over=true∧Small r.S∧(Nonempty (CP (aZ r.D fate) recs 150 (bl fate 0) K)∨Nonempty (CP (aZ r.D fate) nx 150 (bl fate 0) K))))
def CC (R Rw F HD:Hl) (dp was next:Value) (e:Int) (fate:List Int) (K:Nat):Prop:=∃ recs nx,∃ E:DM,bu Rw Rw was recs∧mz [F,Rw,R] next nx∧aj HD dp E∧E.ok∧E.loose.length≤1000000 ∧
 ((e≠5∧Nonempty (CP (aZ E fate) nx 150 (bl fate 0) K))∨(e=5∧(Nonempty (CP (aZ E fate) recs 150 (bl fate 0) K)∨Nonempty (CP (aZ E fate) nx 150 (bl fate 0) K))))
theorem CP.len {D:DM} {recs:List (List Int)} {fk:Int} {K:Nat} (h:CP D recs 150 fk K):recs.length≤10000:=by
 have h1:=h.hA.mir.size.1
 have h2:=re recs
 rw[←h.pk]at h2
 omega
set_option maxHeartbeats 4000000 in
theorem yl:Aa.OK Tryz.prog:=by
 refine Spec.b8 (Γ:=xM) Ga ?_
 rintro xs Hs Rs hl1 hl2 ⟨v,u,R,R2,RG,g,ops,fate,rfl,rfl,hO,hby,hF,hfb,hG⟩
 have e0:Hs=[]:=List.length_eq_zero_iff.1 hl1
 subst e0
 obtain⟨x,y,c,hv,hy,_⟩:=id hO.1
 rw[List.length_map]at hv
 subst hv
 obtain⟨x2,y2,c2,hu,hy2,_⟩:=id hF
 subst hu
 have hat:=(hO.at hy).2
 refine⟨Ka,bx [x,y,ops.length,c,x2,y2,fate.length,c2] false [Hl.none,Hl.none,Hl.none,Hl.none,Hl.none,Hl.none,Hl.none,Hl.none,R,R2,RG],
  fun j q=>match j with
   | 0=>∃ (i:Nat) (recs:List (List Int)) (D:DM) (h:CP D recs 150 (bl fate 0) (2*i)),q.i 72=i∧i≤ops.length∧aj (q.h 80) (.pointer (ar (q.i 13) (q.i 14))) D∧bT (q.h 81) (.pointer (ar (q.i 70) (q.i 71))) (.pointer (ar (q.i 13) (q.i 14))) h.S
   | 1=>CA (q.h 8) (q.h 101) (q.h 105) (q.h 125) (q.h 126) (.pointer (ar (q.i 13) (q.i 14))) (.pointer (ar (q.i 70) (q.i 71))) (.slice (ar (q.i 101) (q.i 102)) (q.i 103).toNat (q.i 104).toNat) (.slice (ar (q.i 120) (q.i 121)) (q.i 122).toNat (q.i 123).toNat) (q.i 124) fate (2*(q.i 72).toNat+2)
   | 2=>CB (q.h 8) (q.h 101) (q.h 105) (q.h 125) (q.h 126) (.pointer (ar (q.i 13) (q.i 14))) (.pointer (ar (q.i 70) (q.i 71))) (.slice (ar (q.i 101) (q.i 102)) (q.i 103).toNat (q.i 104).toNat) (.slice (ar (q.i 130) (q.i 131)) (q.i 132).toNat (q.i 133).toNat) (q.i 124) fate (2*(q.i 72).toNat+2)
   | _=>CC (q.h 8) (q.h 101) (q.h 105) (q.h 165) (.pointer (ar (q.i 13) (q.i 14))) (.slice (ar (q.i 101) (q.i 102)) (q.i 103).toNat (q.i 104).toNat) (.slice (ar (q.i 130) (q.i 131)) (q.i 132).toNat (q.i 133).toNat) (q.i 124) fate (2*(q.i 72).toNat+2),
  fun j q=>(ops.length-q.i 72).toNat,?_,CR (by intro r hr;simp [Ka]at hr;rcases hr with rfl | rfl | rfl<;>exact⟨_,_,_,rfl⟩) rfl,(fun _ h=>nomatch h),?_⟩
 ·show [Value.slice (ar x y) ((ops.length:Int)).toNat ((c:Int)).toNat,Value.slice (ar x2 y2) ((fate.length:Int)).toNat ((c2:Int)).toNat]=_
  simp only[Int.toNat_natCast]
 show Nd.holds _ _ _ F0
 generalize hρ:bx [x,y,ops.length,c,x2,y2,fate.length,c2] false [Hl.none,Hl.none,Hl.none,Hl.none,Hl.none,Hl.none,Hl.none,Hl.none,R,R2,RG]=ρ
 have V:∀ q:Env,ae 11 ρ q→q.i 0=x∧q.i 1=y∧q.i 2=ops.length∧q.i 3=c∧q.i 4=x2∧q.i 5=y2∧q.i 6=fate.length∧q.i 7=c2∧q.h 8=R∧q.h 9=R2∧q.h 10=RG:=fun q hg=>by
  rw[hg.i 0 (by omega),hg.i 1 (by omega),hg.i 2 (by omega),hg.i 3 (by omega),hg.i 4 (by omega),hg.i 5 (by omega),hg.i 6 (by omega),hg.i 7 (by omega),hg.h 8 (by omega),hg.h 9 (by omega),hg.h 10 (by omega),←hρ]
  exact⟨rfl,rfl,rfl,rfl,rfl,rfl,rfl,rfl,rfl,rfl,rfl⟩
 clear hρ
 unfold F0
 simp only[Nd.holds,X.pre,X.rel,X.n,Src.ok,Src.len,Src.bS,true_and,and_true,if_true,Nat.mul_one,Nat.add_zero,Nat.reduceAdd,List.length_cons,List.length_nil,bN,bK,aP,ba,bb,bM,bj,bJ,bI,bD,bd,bk,bL,bg,bf,aQ,bh,ah,ai,aE,aI,aK,ax,aF,aV,aT,au,aO,aC,aN,aB,TV.ev,SV.ev,CV.ev,List.map_cons,List.map_nil,bc.hl,df,Cp.sv,Ck.cv,ct,Cp.len,Ck.len,aU,bm,bC,IU,IV,IW,IX,IY,IZ,I0,I1,I2,I3,Hj,Hk,HG,HH,HI,HJ,Jy,Jz,JA,JB,H0,I4,Hm,Hn,GC,Ff]
 have aw:∀ {q:Env},ae 11 ρ q→nH.pre [] [] [q.h 10]:=fun hg=>⟨RG,g,rfl,by rw[(V _ hg).2.2.2.2.2.2.2.2.2.2],hG⟩
 refine⟨aw (ae.refl _ _),fun q1 g1 ⟨_,p1,_,_⟩=>⟨fun _=>?_,fun h=>absurd (Value.bool.inj p1) h⟩⟩
 obtain⟨v0,v1,v2,v3,v4,v5,v6,v7,w8,w9,w10⟩:=V q1 g1
 rw[v0,v1,v2,v3,w8,Int.toNat_natCast,Int.toNat_natCast]
 refine⟨⟨_,30,R,ops,rfl,rfl,hO,by omega⟩,fun q2 g2 ⟨_,p2,_,_⟩=>?_⟩
 obtain⟨z,hz,hz2⟩:=p2 _ 30 R ops rfl rfl hO
 have hz:q2.b 12=z:=Value.bool.inj hz
 have G2:ae 11 ρ q2:=g1.trans (g2.mono (by omega))
 have awd:∀ {q:Env},ae 11 ρ q→True:=fun _=>trivial
 refine⟨fun h12=>⟨by rw[(V q2 G2).2.2.2.2.2.2.1];omega,fun _=>⟨aw G2,fun q3 _ ⟨_,p3,_,_⟩=>vD (Value.bool.inj p3)⟩,fun _=>?_⟩,fun _=>⟨aw G2,fun q3 _ ⟨_,p3,_,_⟩=>vD (Value.bool.inj p3)⟩⟩
 rw[hz]at h12
 obtain⟨hl30,hrows⟩:=hz2 h12
 have hl30:ops.length≤30:=by omega
 refine⟨⟨_,rfl⟩,fun q3 g3 ⟨F3,p3,hF3,hn3⟩=>?_⟩
 have G3:ae 11 ρ q3:=G2.trans (g3.mono (by omega))
 have hD3:=wO p3
 rw[←hF3 trivial]at hD3
 obtain⟨hC⟩:Nonempty (CP (cw 300) [] 150 (bl fate 0) 0):=CP.new (m:=300) (by omega) (bl fate 0)
 obtain⟨hE0,hop,hb1,hb2⟩:=hC.open
 refine⟨tu hD3 hb1 hb2,fun q4 g4 ⟨F4,p4,hF4,hn4⟩=>?_⟩
 have G4:ae 11 ρ q4:=G3.trans (g4.mono (by omega))
 obtain⟨pv,hD4,hv4,hS4,_⟩:=ml hD3 p4
 simp only[Value.tuple.injEq,Array.mk.injEq,List.cons.injEq,Value.int.injEq,true_and,and_true]at hv4
 obtain⟨rfl,e17⟩:=hv4
 have hS4:=hS4 hE0
 rw[hE0]at e17
 rw[←hF4 (by simp [bO,Cp.roots,Ck.root]),hop]at hS4
 refine⟨fun h=>absurd e17 h,fun _=>⟨⟨0,[],cw 300,hC,rfl,Nat.zero_le _,?_,?_⟩,fun q5 g5 ⟨i,recs,D,hC,ei,hi,hD,hS⟩=>?_⟩⟩
 ·show aj (q4.h 15) (.pointer (ar (q4.i 13) (q4.i 14))) _
  rw[g4.i 13 (by omega),g4.i 14 (by omega)];exact hD4
 ·show bT (q4.h 16) (.pointer (ar (q4.i 15) (q4.i 16))) (.pointer (ar (q4.i 13) (q4.i 14))) _
  rw[g4.i 13 (by omega),g4.i 14 (by omega)];exact hS4
 have G5:ae 11 ρ q5:=G4.trans (g5.mono (by omega))
 obtain⟨v0,v1,v2,v3,v4,v5,v6,v7,w8,w9,w10⟩:=V q5 G5
 rw[v2,ei]
 refine⟨by omega,fun hlt=>?_,fun hge=>vD (cq _)⟩
 have hio:ops[i]?=some ops[i]:=List.getElem?_eq_getElem (by omega)
 obtain⟨hx,c0,c1,c2',hB⟩:=hat i _ hio
 obtain⟨hby1,hk0,hk1,hf1⟩:=hby _ (List.getElem_mem (show i<ops.length by omega))
 have hr30:=hrows _ (List.getElem_mem (show i<ops.length by omega))
 have z0:R.cell x.toNat (y+(i:Int)*3).toNat=some (.int .u8 ops[i].k):=by rw[show(y+(i:Int)*3).toNat=y.toNat+i*3 by omega];exact c0
 have hslU:∃ a l c,ops[i].u=Value.slice a l c:=by obtain⟨us,x2,y2,c2,hu,_⟩:=id hB;exact⟨_,_,_,hu⟩
 have cu:∀ {q:Env},ae 79 q5 q→(q.h 8).cell (q.i 0).toNat ((q.i 1+q.i 72*3).toNat+1)=some ops[i].u:=fun {q} hg=>by
  rw[hg.h 8 (by omega),hg.i 0 (by omega),hg.i 1 (by omega),hg.i 72 (by omega),w8,v0,v1,ei,show(y+(i:Int)*3).toNat+1=y.toNat+i*3+1 by omega];exact c1
 have cf:∀ {q:Env},ae 79 q5 q→(q.h 8).cell (q.i 0).toNat ((q.i 1+q.i 72*3).toNat+2)=some (.int .i64 ops[i].f):=fun {q} hg=>by
  rw[hg.h 8 (by omega),hg.i 0 (by omega),hg.i 1 (by omega),hg.i 72 (by omega),w8,v0,v1,ei,show(y+(i:Int)*3).toNat+2=y.toNat+i*3+2 by omega];exact c2'
 have ck:∀ {q:Env},ae 79 q5 q→ak q ((E.hI 8 (E.var 0) ((E.var 1).add ((E.var 72).mul (E.lit 3))) 0).rem (E.lit 2))=ops[i].k.tmod 2:=fun {q} hg=>by
  show(fg ((q.h 8).cell (q.i 0).toNat ((q.i 1+q.i 72*3).toNat+0))).tmod 2=_
  rw[hg.h 8 (by omega),hg.i 0 (by omega),hg.i 1 (by omega),hg.i 72 (by omega),w8,v0,v1,ei,Nat.add_zero,z0];rfl
 refine⟨by rw[v0];exact hx,by rw[v1];exact hy,by omega,by rw[w8,v0,v1,z0];rfl,by have:=cu (ae.refl 79 q5);rw[ei]at this;rw[this];obtain⟨_,_,_,e⟩:=hslU;rw[e];rfl,by have:=cf (ae.refl 79 q5);rw[ei]at this;rw[this];rfl,fun q6 g6 _=>?_⟩
 have G6:ae 11 ρ q6:=G5.trans (g6.mono (by omega))
 have hlen:=hC.len
 have DS:∀ {q:Env},ae 100 q5 q→aj (q.h 80) (.pointer (ar (q.i 13) (q.i 14))) D∧bT (q.h 81) (.pointer (ar (q.i 70) (q.i 71))) (.pointer (ar (q.i 13) (q.i 14))) hC.S∧q.i 72=i∧q.h 8=R:=fun {q} hg=>by
  rw[hg.h 80 (by omega),hg.h 81 (by omega),hg.h 8 (by omega),hg.i 13 (by omega),hg.i 14 (by omega),hg.i 70 (by omega),hg.i 71 (by omega),hg.i 72 (by omega)]
  exact⟨hD,hS,ei,w8⟩
 obtain⟨hD6,hS6,_,_⟩:=DS g6
 refine⟨⟨_,_,_,hC.S,rfl,rfl,hS6.rd,by show recs.length≤_;omega,fun r hr=>Nat.le_trans (hC.ok r hr) (by decide)⟩,fun q7 g7 ⟨F7,p7,hF7,hn7⟩=>?_⟩
 have A7:ae 100 q5 q7:=g6.trans (g7.mono (by omega))
 have hwas:=oq hS6.rd p7
 rw[←hF7 trivial]at hwas
 have hwB:bu (q7.h 101) (q7.h 101) (.slice (ar (q7.i 101) (q7.i 102)) (q7.i 103).toNat (q7.i 104).toNat) recs:=hwas.b
 rw[cu (A7.mono (by omega)),iA hslU,(DS A7).2.2.2]
 have hW7:mz [q7.h 101,R] (.slice (ar (q7.i 101) (q7.i 102)) (q7.i 103).toNat (q7.i 104).toNat) recs:=mz.of hwB (by simp) (by simp)
 have hB7:mz [q7.h 101,R] ops[i].u ops[i].rows:=mz.of hB (by simp) (by simp)
 refine⟨⟨_,_,recs,ops[i].rows,rfl,hW7,hB7,by omega,by omega⟩,fun q8 g8 ⟨F8,p8,hF8,hn8⟩=>?_⟩
 have hN8:=p8 _ _ recs ops[i].rows rfl hW7 hB7
 rw[←hF8 trivial]at hN8
 have A8:ae 100 q5 q8:=A7.trans (g8.mono (by omega))
 obtain⟨hD8,hS8,e72,_⟩:=DS A8
 rw[cf (A8.mono (by omega))]
 refine⟨⟨_,_,_,D,rfl,rfl,hD8,hf1⟩,fun q9 g9 ⟨_,p9,_,_⟩=>?_⟩
 obtain⟨p',n',H',D',H2,e1,e2,d1,e3,d3⟩:=p9
 simp only[List.cons.injEq,Value.int.injEq,true_and,and_true]at e1 e2
 obtain⟨rfl,ef⟩:=e1
 subst e2
 rw[d1.uniq hD8]at d3
 have e3:[q9.h 109]=[H2]:=e3
 simp only[List.cons.injEq,and_true]at e3
 subst e3
 have ef:ops[i].f=n':=ef
 rw[←ef]at d3
 have A9:ae 100 q5 q9:=A8.trans (g9.mono (by omega))
 have G9:ae 11 ρ q9:=G5.trans (A9.mono (by omega))
 obtain⟨_,hS9,i9,r9⟩:=DS A9
 have hD9:aj (q9.h 109) (.pointer (ar (q9.i 13) (q9.i 14))) (aW D ops[i].f):=by rw[g9.i 13 (by omega),g9.i 14 (by omega)];exact d3
 have hwas9:bu (q9.h 101) (q9.h 101) (.slice (ar (q9.i 101) (q9.i 102)) (q9.i 103).toNat (q9.i 104).toNat) recs:=by
  rw[g9.h 101 (by omega),g9.i 101 (by omega),g9.i 102 (by omega),g9.i 103 (by omega),g9.i 104 (by omega),g8.h 101 (by omega),g8.i 101 (by omega),g8.i 102 (by omega),g8.i 103 (by omega),g8.i 104 (by omega)]
  exact hwB
 have hN9:mz [q9.h 105,q9.h 101,R] (.slice (ar (q9.i 105) (q9.i 106)) (q9.i 107).toNat (q9.i 108).toNat) (recs++ops[i].rows):=by
  rw[g9.h 105 (by omega),g9.h 101 (by omega),g9.i 105 (by omega),g9.i 106 (by omega),g9.i 107 (by omega),g9.i 108 (by omega),g8.h 101 (by omega)]
  exact hN8
 rw[ck (q:=q9) (A9.mono (by omega)),cu (q:=q9) (A9.mono (by omega)),iA hslU,r9,(V q9 G9).2.2.2.2.2.2.2.2.2.2]
 obtain⟨z1,z2,z3,z4,z5⟩:=hC.size
 have hkK:=hC.kK
 have Em:=hC.g0
 have hi30:i<30:=by omega
 have hlen2:recs.length≤1000000000:=by omega
 refine⟨⟨fun h0=>?_,fun h0=>?_⟩,fun q12 g12 hI1=>?_⟩
 ·refine⟨⟨_,_,_,_,R,R,RG,g,_,hC.S,aW D ops[i].f,ops[i].rows,rfl,rfl,rfl,hS9,hD9,hB,hG,by omega,fun _ _=>Nat.zero_le _,z1,by show 0≤(an D hC.fA (150:Nat)).serial;rw[z3];omega,hlen2⟩,fun q10 g10 ⟨_,p10,_,_⟩=>?_⟩
  obtain⟨hD10,hS10,e10⟩:=pP (H':=q10.h 111) (HD':=q10.h 112) hS9 hD9 hB p10
  have e10:q10.i 111=(cA (aW D ops[i].f) hC.S ops[i].rows).e:=by simpa using e10
  refine⟨recs,recs++ops[i].rows,cA (aW D ops[i].f) hC.S ops[i].rows,?_,?_,?_,?_,e10,?_⟩
  ·show bu (q10.h 101) (q10.h 101) (.slice (ar (q10.i 101) (q10.i 102)) (q10.i 103).toNat (q10.i 104).toNat) recs
   rw[g10.h 101 (by omega),g10.i 101 (by omega),g10.i 102 (by omega),g10.i 103 (by omega),g10.i 104 (by omega)];exact hwas9
  ·show mz [q10.h 105,q10.h 101,q10.h 8] (.slice (ar (q10.i 105) (q10.i 106)) (q10.i 107).toNat (q10.i 108).toNat) _
   rw[g10.h 105 (by omega),g10.h 101 (by omega),g10.h 8 (by omega),g10.i 105 (by omega),g10.i 106 (by omega),g10.i 107 (by omega),g10.i 108 (by omega),r9];exact hN9
  ·show aj (q10.h 112) (.pointer (ar (q10.i 13) (q10.i 14))) _
   rw[g10.i 13 (by omega),g10.i 14 (by omega)];exact hD10
  ·show bT (q10.h 111) (.pointer (ar (q10.i 70) (q10.i 71))) (.pointer (ar (q10.i 13) (q10.i 14))) _
   rw[g10.i 13 (by omega),g10.i 14 (by omega),g10.i 70 (by omega),g10.i 71 (by omega)];exact hS10
  ·show vJ _ _ _ _ _ (2*(q10.i 72).toNat+2)
   rw[g10.i 72 (by omega),i9,Int.toNat_natCast];exact hC.add hf1 hby1 (by omega)
 ·refine⟨⟨_,_,_,_,R,R,RG,g,_,hC.S,aW D ops[i].f,ops[i].rows,rfl,rfl,rfl,hS9,hD9,hB,hG,by omega,fun _ _=>Nat.zero_le _,z1,z2,by show 0≤(an D hC.fB (150:Nat)).serial;rw[z4];omega,by show(an D hC.fB (150:Nat)).serial<_;rw[z4];unfold dz;omega,by show(an D hC.fA (150:Nat)).serial<_;rw[z3];unfold dz;omega,by show bU (an D hC.fA (150:Nat))<_;unfold dz;omega⟩,fun q10 g10 ⟨_,p10,_,_⟩=>?_⟩
  obtain⟨hD10,hS10,e10⟩:=vX (H':=q10.h 111) (HD':=q10.h 112) hS9 hD9 hB p10
  have e10:q10.i 111=(bP (aW D ops[i].f) hC.S ops[i].rows).e:=by simpa using e10
  refine⟨recs,ops[i].rows,bP (aW D ops[i].f) hC.S ops[i].rows,?_,?_,?_,?_,e10,?_⟩
  ·show bu (q10.h 101) (q10.h 101) (.slice (ar (q10.i 101) (q10.i 102)) (q10.i 103).toNat (q10.i 104).toNat) recs
   rw[g10.h 101 (by omega),g10.i 101 (by omega),g10.i 102 (by omega),g10.i 103 (by omega),g10.i 104 (by omega)];exact hwas9
  ·have hw:mz [q10.h 105,q10.h 101,q10.h 8] (.slice (ar (cH (some ops[i].u) 0) (cH (some ops[i].u) 1)) (cH (some ops[i].u) 2).toNat (cH (some ops[i].u) 3).toNat) ops[i].rows:=by
    rw[iA hslU,g10.h 8 (by omega),r9];exact mz.of hB (by simp) (by simp)
   have A10:ae 100 q5 q10:=A9.trans (g10.mono (by omega))
   rw[←cu (q:=q10) (A10.mono (by omega))]at hw
   exact hw
  ·show aj (q10.h 112) (.pointer (ar (q10.i 13) (q10.i 14))) _
   rw[g10.i 13 (by omega),g10.i 14 (by omega)];exact hD10
  ·show bT (q10.h 111) (.pointer (ar (q10.i 70) (q10.i 71))) (.pointer (ar (q10.i 13) (q10.i 14))) _
   rw[g10.i 13 (by omega),g10.i 14 (by omega),g10.i 70 (by omega),g10.i 71 (by omega)];exact hS10
  ·show vJ _ _ _ _ _ (2*(q10.i 72).toNat+2)
   rw[g10.i 72 (by omega),i9,Int.toNat_natCast];exact hC.comp hf1 hby1 (by omega)
 obtain⟨recs2,nx,r,hw12,hn12,hD12,hS12,e12,t1,t2,t3⟩:=hI1
 have A12:ae 100 q5 q12:=A9.trans (g12.mono (by omega))
 refine⟨⟨fun hne=>⟨fun hn5=>?_,fun h5=>?_⟩,fun h0=>?_⟩,fun q13 g13 hI2=>?_⟩
 ·rcases t3 with ⟨b1,b2,b3⟩ | ⟨b1,b2,b3,b4⟩ | ⟨b1,b2,b3,b4⟩
  ·exact absurd (e12.trans b1) hne
  ·have hr:mz [q12.h 105,q12.h 101,q12.h 8] (.slice (ar (q12.i 101) (q12.i 102)) (q12.i 103).toNat (q12.i 104).toNat) recs2:=mz.of hw12 (by simp) (by simp)
   exact⟨recs2,recs2,r,hw12,hr,hD12,hS12,t1,t2,Or.inl ⟨hn5,b3,b4⟩⟩
  ·exact absurd (e12.trans b1) hn5
 ·rcases t3 with ⟨b1,b2,b3⟩ | ⟨b1,b2,b3,b4⟩ | ⟨b1,b2,b3,b4⟩
  ·exact absurd (e12.trans b1) hne
  ·exact absurd (e12.symm.trans h5) b2
  ·exact⟨recs2,nx,r,hw12,hn12,hD12,hS12,t1,t2,Or.inr ⟨h5,b2,b3,b4⟩⟩
 ·have h0:q12.i 124=0:=h0
  rcases t3 with ⟨b1,b2,b3⟩ | ⟨b1,b2,b3,b4⟩ | ⟨b1,b2,b3,b4⟩
  ·refine⟨recs2,nx,r,hw12,hn12,hD12,hS12,t1,t2,Or.inl ⟨?_,b2,b3⟩⟩
   show q12.i 124≠5
   omega
  ·exact absurd (e12.symm.trans h0) b1
  ·omega
 clear t1 t2 t3 hw12 hn12 hD12 hS12 e12 r nx recs2
 obtain⟨recs2,nx,r,hw13,hn13,hD13,hS13,t1,t2,t3⟩:=hI2
 have A13:ae 100 q5 q13:=A12.trans (g13.mono (by omega))
 have G13:ae 11 ρ q13:=G5.trans (A13.mono (by omega))
 refine⟨⟨⟨_,_,_,r.S,rfl,rfl,hS13.rd⟩,fun q14 g14 ⟨_,p14,_,_⟩=>?_⟩,fun q20 g20 hI3=>?_⟩
 ·have e14:q14.b 140=r.S.over:=Value.bool.inj (p14 _ _ _ r.S rfl rfl hS13.rd)
  have j124:q14.i 124=q13.i 124:=g14.i 124 (by omega)
  have hov:(q14.b 140=true)=(q14.i 124=5):=by
   rw[e14,j124]
   rcases t3 with ⟨b1,b2,_⟩ | ⟨b1,b2,_⟩
   ·rw[b2];simp [b1]
   ·rw[b2];simp [b1]
  have A14:ae 100 q5 q14:=A13.trans (g14.mono (by omega))
  have G14:ae 11 ρ q14:=G5.trans (A14.mono (by omega))
  have hD14:aj (q14.h 125) (.pointer (ar (q14.i 13) (q14.i 14))) r.D:=by rw[g14.h 125 (by omega),g14.i 13 (by omega),g14.i 14 (by omega)];exact hD13
  have hS14:bT (q14.h 126) (.pointer (ar (q14.i 70) (q14.i 71))) (.pointer (ar (q14.i 13) (q14.i 14))) r.S:=by rw[g14.h 126 (by omega),g14.i 13 (by omega),g14.i 14 (by omega),g14.i 70 (by omega),g14.i 71 (by omega)];exact hS13
  have cV:∀ {q:Env} {HD:Hl} {E:DM},ae 140 q13 q→E=r.D→aj HD (.pointer (ar (q.i 13) (q.i 14))) E→CC (q.h 8) (q.h 101) (q.h 105) HD (.pointer (ar (q.i 13) (q.i 14))) (.slice (ar (q.i 101) (q.i 102)) (q.i 103).toNat (q.i 104).toNat) (.slice (ar (q.i 130) (q.i 131)) (q.i 132).toNat (q.i 133).toNat) (q.i 124) fate (2*(q.i 72).toNat+2):=fun {q HD E} hg hE hd=>by
   subst hE
   refine⟨recs2,nx,r.D,?_,?_,hd,t1,t2,?_⟩
   ·rw[hg.h 101 (by omega),hg.i 101 (by omega),hg.i 102 (by omega),hg.i 103 (by omega),hg.i 104 (by omega)];exact hw13
   ·rw[hg.h 8 (by omega),hg.h 101 (by omega),hg.h 105 (by omega),hg.i 130 (by omega),hg.i 131 (by omega),hg.i 132 (by omega),hg.i 133 (by omega)];exact hn13
   ·rw[hg.i 124 (by omega),hg.i 72 (by omega)]
    rcases t3 with ⟨b1,_,b3⟩ | ⟨b1,_,_,b4⟩
    ·exact Or.inl ⟨b1,b3⟩
    ·exact Or.inr ⟨b1,b4⟩
  refine⟨fun _=>⟨fun h5=>?_,fun hn5=>?_⟩,fun h=>?_⟩
  ·have h5:q14.i 124=5:=h5
   have hov5:r.S.over=true:=by rw[←e14];rw[hov];exact h5
   have hsm:Small r.S:=by
    rcases t3 with ⟨b1,b2,_⟩ | ⟨_,_,b3,_⟩
    ·rw[hov5]at b2;cases b2
    ·exact b3
   intro q15 g15 p141 q16 g16 h142 q17 g17 p143
   have G17:ae 141 q14 q17:=g15.trans ((g16.trans (g17.mono (by omega))).mono (by omega))
   have e141:q17.i 141=q15.i 141:=by rw[g17.i 141 (by omega),g16.i 141 (by omega)]
   have hrows:bu (Hl.one (q17.i 143).toNat (.cells #[Value.slice (ar (q17.i 141) 0) (Int.toNat 1) (Int.toNat 1)] 46 (0,0))) (q17.h 142) (.slice (ar (q17.i 143) 0) (Int.toNat 1) (Int.toNat 1)) [[120]]:=by
    refine⟨[Value.slice (ar (q17.i 141) 0) (Int.toNat 1) (Int.toNat 1)],q17.i 143,0,1,rfl,Int.le_refl _,rfl,fun j u hj=>?_,fun j u r hj hr=>?_⟩
    ·refine⟨p143,?_⟩
     rw[Hl.one_cell]
     match j with
     | 0=>exact hj
    ·match j with
     | 0 =>
      have hj:Value.slice (ar (q17.i 141) 0) (Int.toNat 1) (Int.toNat 1)=u:=by simpa using hj
      have hr:[120]=r:=by simpa using hr
      subst hj hr
      refine⟨q17.i 141,0,1,rfl,Int.le_refl _,Or.inr ⟨by rw[e141];exact p141,fun j z hz=>?_⟩⟩
      rw[g17.h 142 (by omega),h142,e141,Hl.one_cell]
      match j with
      | 0=>cases hz;rfl
   have G17':ae 11 ρ q17:=G14.trans (G17.mono (by omega))
   have hD17:aj (q17.h 125) (.pointer (ar (q17.i 13) (q17.i 14))) r.D:=by rw[G17.h 125 (by omega),G17.i 13 (by omega),G17.i 14 (by omega)];exact hD14
   have hS17:bT (q17.h 126) (.pointer (ar (q17.i 70) (q17.i 71))) (.pointer (ar (q17.i 13) (q17.i 14))) r.S:=by rw[G17.h 126 (by omega),G17.i 13 (by omega),G17.i 14 (by omega),G17.i 70 (by omega),G17.i 71 (by omega)];exact hS14
   rw[(V q17 G17').2.2.2.2.2.2.2.2.2.2]
   have ea:cA r.D r.S [[120]]=⟨5,r.D,r.S⟩:=by unfold cA;rw[if_pos hov5]
   have ec:bP r.D r.S []=⟨5,r.D,r.S⟩:=by unfold bP;rw[if_pos hov5]
   have hrr:=hsm.r
   refine⟨⟨_,_,_,_,_,_,RG,g,_,r.S,r.D,[[120]],rfl,rfl,rfl,hS17,hD17,hrows,hG,by decide,fun _ _=>Nat.zero_le _,hsm.a,hsm.sa.1,by omega⟩,fun q18 g18 ⟨_,p18,_,_⟩=>?_⟩
   obtain⟨hD18,hS18,e18⟩:=pP (H':=q18.h 144) (HD':=q18.h 145) hS17 hD17 hrows p18
   rw[ea]at hD18 hS18 e18
   have e18:q18.i 144=5:=by simpa using e18
   have G18':ae 11 ρ q18:=G17'.trans (g18.mono (by omega))
   have hD18:aj (q18.h 145) (.pointer (ar (q18.i 13) (q18.i 14))) r.D:=by rw[g18.i 13 (by omega),g18.i 14 (by omega)];exact hD18
   have hS18:bT (q18.h 144) (.pointer (ar (q18.i 70) (q18.i 71))) (.pointer (ar (q18.i 13) (q18.i 14))) r.S:=by rw[g18.i 13 (by omega),g18.i 14 (by omega),g18.i 70 (by omega),g18.i 71 (by omega)];exact hS18
   refine⟨fun _=>?_,fun h=>absurd e18 h⟩
   rw[(V q18 G18').2.2.2.2.2.2.2.2.1,(V q18 G18').2.2.2.2.2.2.2.2.2.2]
   have hnil:bu R R (.slice (ar (-1) 0) (Int.toNat 0) (Int.toNat 0)) []:=⟨[],-1,0,0,rfl,Int.le_refl _,rfl,fun j u h=>by simp at h,fun j u r h=>by simp at h⟩
   refine⟨⟨_,_,_,_,R,R,RG,g,_,r.S,r.D,[],rfl,rfl,rfl,hS18,hD18,hnil,hG,Nat.zero_le _,fun _ _=>Nat.zero_le _,hsm.a,hsm.b,hsm.sb.1,hsm.sb.2,hsm.sa.2,hsm.g⟩,fun q19 g19 ⟨_,p19,_,_⟩=>?_⟩
   obtain⟨hD19,hS19,e19⟩:=vX (H':=q19.h 147) (HD':=q19.h 148) hS18 hD18 hnil p19
   rw[ec]at hD19 hS19 e19
   have e19:q19.i 147=5:=by simpa using e19
   have A19:ae 140 q13 q19:=g14.trans (((G17.trans (g18.mono (by omega))).trans (g19.mono (by omega))).mono (by omega))
   refine⟨fun h=>absurd e19 h,fun _=>?_⟩
   have k:=cV (q:=q19) (HD:=q19.h 148) A19 rfl (by rw[g19.i 13 (by omega),g19.i 14 (by omega)];exact hD19)
   exact k
  ·have k:=cV (q:=q14) (HD:=q14.h 125) g14 rfl hD14
   exact k
  ·exact absurd hov h
 clear t1 t2 t3 hw13 hn13 hD13 hS13
 obtain⟨recs2,nx,E,hw20,hn20,hD20,t1,t2,t3⟩:=hI3
 have A20:ae 100 q5 q20:=A13.trans (g20.mono (by omega))
 have G20:ae 11 ρ q20:=G5.trans (A20.mono (by omega))
 obtain⟨v0,v1,v2,v3,v4,v5,v6,v7,w8,w9,w10⟩:=V q20 G20
 rw[v4,v5,v6,v7,w9,Int.toNat_natCast,Int.toNat_natCast]
 refine⟨⟨_,_,fate,_,R2,E,rfl,rfl,rfl,hD20,hF,hfb,t2⟩,fun q21 g21 ⟨_,p21,_,_⟩=>?_⟩
 obtain⟨p',u',bs',H',R',D',H2,e1,e2,e3,d1,d2,e4,d3⟩:=p21
 simp only[List.cons.injEq,and_true]at e1 e2 e3
 obtain⟨rfl,rfl⟩:=e1
 subst e2 e3
 obtain rfl:=d1.uniq hD20
 obtain rfl:=d2.uniq hF
 have e4:[q21.h 170]=[H2]:=e4
 simp only[List.cons.injEq,and_true]at e4
 subst e4
 have d3:aj (q21.h 170) (.pointer (ar (q21.i 13) (q21.i 14))) (aZ D' bs'):=by rw[g21.i 13 (by omega),g21.i 14 (by omega)];exact d3
 obtain⟨now,hnow,⟨hC2⟩⟩:∃ now,((q20.i 124≠5∧now=nx)∨(q20.i 124=5∧(now=recs2∨now=nx)))∧Nonempty (CP (aZ D' bs') now 150 (bl bs' 0) (2*(q20.i 72).toNat+2)):=by
  rcases t3 with ⟨b1,b2⟩ | ⟨b1,b2 | b2⟩
  ·exact⟨nx,Or.inl ⟨b1,rfl⟩,b2⟩
  ·exact⟨recs2,Or.inr ⟨b1,Or.inl rfl⟩,b2⟩
  ·exact⟨nx,Or.inr ⟨b1,Or.inr rfl⟩,b2⟩
 obtain⟨hE2,hop2,hb1,hb2⟩:=hC2.open
 refine⟨tu d3 hb1 hb2,fun q22 g22 ⟨F22,p22,hF22,hn22⟩=>?_⟩
 obtain⟨pv,hD22,hv22,hS22,_⟩:=ml d3 p22
 simp only[Value.tuple.injEq,Array.mk.injEq,List.cons.injEq,Value.int.injEq,true_and,and_true]at hv22
 obtain⟨rfl,e174⟩:=hv22
 have hS22:=hS22 hE2
 rw[hE2]at e174
 rw[←hF22 (by simp [bO,Cp.roots,Ck.root]),hop2]at hS22
 refine⟨fun h=>absurd e174 h,fun _=>?_⟩
 have hlen2:=hC2.len
 have hS22:bT (q22.h 173) (.pointer (ar (q22.i 172) (q22.i 173))) (.pointer (ar (q22.i 13) (q22.i 14))) hC2.S:=by rw[g22.i 13 (by omega),g22.i 14 (by omega)];exact hS22
 have hD22:aj (q22.h 172) (.pointer (ar (q22.i 13) (q22.i 14))) (aZ D' bs'):=by rw[g22.i 13 (by omega),g22.i 14 (by omega)];exact hD22
 refine⟨⟨_,_,_,hC2.S,rfl,rfl,hS22.rd,by show now.length≤_;omega,fun r hr=>Nat.le_trans (hC2.ok r hr) (by decide)⟩,fun q23 g23 ⟨F23,p23,hF23,hn23⟩=>?_⟩
 have hnw:=oq hS22.rd p23
 rw[←hF23 trivial]at hnw
 have hnw:bu (q23.h 175) (q23.h 175) (.slice (ar (q23.i 175) (q23.i 176)) (q23.i 177).toNat (q23.i 178).toNat) now:=hnw.b
 have B23:ae 170 q20 q23:=g21.trans ((g22.trans (g23.mono (by omega))).mono (by omega))
 have j124:q23.i 124=q20.i 124:=B23.i 124 (by omega)
 rw[←j124]at hnow
 have S1:∀ {q:Env},ae 179 q23 q→mz [q.h 175,q.h 105,q.h 101,q.h 8] (.slice (ar (q.i 175) (q.i 176)) (q.i 177).toNat (q.i 178).toNat) now:=fun {q} hg=>by
  rw[hg.h 175 (by omega),hg.i 175 (by omega),hg.i 176 (by omega),hg.i 177 (by omega),hg.i 178 (by omega)]
  exact mz.of hnw (by simp) (by simp)
 have S2:∀ {q:Env},ae 179 q23 q→mz [q.h 175,q.h 105,q.h 101,q.h 8] (.slice (ar (q.i 130) (q.i 131)) (q.i 132).toNat (q.i 133).toNat) nx:=fun {q} hg=>by
  have B:ae 170 q20 q:=B23.trans (hg.mono (by omega))
  rw[B.h 105 (by omega),B.h 101 (by omega),B.h 8 (by omega),B.i 130 (by omega),B.i 131 (by omega),B.i 132 (by omega),B.i 133 (by omega)]
  exact fun U hU=>hn20 U fun X hX=>hU X (List.mem_cons_of_mem _ hX)
 have S3:∀ {q:Env},ae 179 q23 q→mz [q.h 175,q.h 105,q.h 101,q.h 8] (.slice (ar (q.i 101) (q.i 102)) (q.i 103).toNat (q.i 104).toNat) recs2:=fun {q} hg=>by
  have B:ae 170 q20 q:=B23.trans (hg.mono (by omega))
  rw[B.h 105 (by omega),B.h 101 (by omega),B.h 8 (by omega),B.i 101 (by omega),B.i 102 (by omega),B.i 103 (by omega),B.i 104 (by omega)]
  exact mz.of hw20 (by simp) (by simp)
 have back:∀ {q:Env},ae 179 q23 q→(∃ (i':Nat) (recs':List (List Int)) (D2:DM) (h:CP D2 recs' 150 (bl bs' 0) (2*i')),IntKind.i64.wrap (q.i 72+1)=i'∧i'≤ops.length∧aj (q.h 172) (.pointer (ar (q.i 13) (q.i 14))) D2∧bT (q.h 173) (.pointer (ar (q.i 172) (q.i 173))) (.pointer (ar (q.i 13) (q.i 14))) h.S)∧((ops.length:Int)-IntKind.i64.wrap (q.i 72+1)).toNat<((ops.length:Int)-i).toNat:=fun {q} hg=>by
  have B:ae 170 q20 q:=B23.trans (hg.mono (by omega))
  have e72:q.i 72=i:=by rw[B.i 72 (by omega),A20.i 72 (by omega),ei]
  have f72:q20.i 72=i:=by rw[A20.i 72 (by omega),ei]
  have ew:IntKind.i64.wrap (q.i 72+1)=((i+1:Nat):Int):=by rw[e72,wrap_i64 (by omega) (by omega)];rfl
  have hK:2*(q20.i 72).toNat+2=2*(i+1):=by rw[f72,Int.toNat_natCast];omega
  have B22:ae 175 q22 q:=g23.trans (hg.mono (by omega))
  refine⟨⟨i+1,now,aZ D' bs',hK▸hC2,ew,by omega,?_,?_⟩,?_⟩
  ·rw[B22.h 172 (by omega),B22.i 13 (by omega),B22.i 14 (by omega)];exact hD22
  ·rw[B22.h 173 (by omega),B22.i 13 (by omega),B22.i 14 (by omega),B22.i 172 (by omega),B22.i 173 (by omega)]
   have:(hK▸hC2:CP (aZ D' bs') now 150 (bl bs' 0) (2*(i+1))).S=hC2.S:=by
    generalize 2*(i+1)=K' at hK
    subst hK;rfl
   rw[this];exact hS22
  ·rw[ew];omega
 refine⟨fun hn5=>?_,fun h5=>?_⟩
 ·have hn5:q23.i 124≠5:=hn5
  have hnx:now=nx:=by
   rcases hnow with ⟨_,h⟩ | ⟨h,_⟩
   ·exact h
   ·exact absurd h hn5
  refine⟨⟨_,_,now,nx,rfl,S1 (ae.refl _ _),S2 (ae.refl _ _),by omega⟩,fun q24 g24 ⟨_,p24,_,_⟩=>?_⟩
  obtain⟨z,ez,hz⟩:=p24 _ _ now nx rfl (S1 (ae.refl _ _)) (S2 (ae.refl _ _))
  have ez:q24.b 179=true:=(Value.bool.inj ez).trans (hz hnx)
  refine⟨fun _=>⟨⟨_,_,now,nx,rfl,S1 g24,S2 g24,by omega⟩,fun q25 g25 ⟨_,p25,_,_⟩=>?_⟩,fun h=>absurd ez h⟩
  obtain⟨z,ez',hz⟩:=p25 _ _ now nx rfl (S1 g24) (S2 g24)
  have ez':q25.b 180=true:=(Value.bool.inj ez').trans (hz hnx)
  exact⟨fun h=>absurd ez' h,fun _=>back (g24.trans (g25.mono (by omega)))⟩
 ·refine⟨⟨_,_,now,nx,rfl,S1 (ae.refl _ _),S2 (ae.refl _ _),by omega⟩,fun q24 g24 ⟨_,p24,_,_⟩=>?_⟩
  obtain⟨z,ez,hz⟩:=p24 _ _ now nx rfl (S1 (ae.refl _ _)) (S2 (ae.refl _ _))
  have ez:q24.b 179=z:=Value.bool.inj ez
  refine⟨fun hf=>?_,fun _=>back g24⟩
  have hnr:now=recs2:=by
   rcases hnow with ⟨h,_⟩ | ⟨_,h | h⟩
   ·exact absurd h5 h
   ·exact h
   ·exact absurd (ez.trans (hz h)) hf
  refine⟨⟨_,_,now,recs2,rfl,S1 g24,S3 g24,by omega⟩,fun q25 g25 ⟨_,p25,_,_⟩=>?_⟩
  obtain⟨z',ez',hz'⟩:=p25 _ _ now recs2 rfl (S1 g24) (S3 g24)
  have ez':q25.b 180=true:=(Value.bool.inj ez').trans (hz' hnr)
  exact⟨fun h=>absurd ez' h,fun _=>back (g24.trans (g25.mono (by omega)))⟩
end Go.Proofs.YtomdimlnggpgbaaGreatDoor
namespace Go.Proofs.YtomdimlnggpgbaaGreatDoor
open Go Go.Sx Go.Pk Go.RowKit
def wD:List (String×DataW Unit):=[("jalousie/store.errLost",Rows.laid_jalousie_store_errLost),("jalousie/store.errFull",Rows.laid_jalousie_store_errFull),("jalousie/store.errSpent",Rows.laid_jalousie_store_errSpent)]
theorem Kz:Tryz.prog.globalNamed "jalousie/store.errLost"= some 0:=by kernel_rfl
theorem KA:Tryz.prog.globalNamed "jalousie/store.errFull"= some 1:=by kernel_rfl
theorem KB:Tryz.prog.globalNamed "jalousie/store.errSpent"= some 2:=by kernel_rfl
theorem KC:(Tryz.prog.globals[0]?).map (·.type)=some 107:=by kernel_rfl
theorem KD:(Tryz.prog.globals[1]?).map (·.type)=some 107:=by kernel_rfl
theorem KE:(Tryz.prog.globals[2]?).map (·.type)=some 107:=by kernel_rfl
theorem yC:Tryz.prog.cellsOf 319=1:=by kernel_rfl
theorem uk:Tryz.prog.cellsOf 9=1:=by kernel_rfl
theorem Fx : "*"++ "errors.errorString"= "*errors.errorString":=by decide
theorem Gg (u:TypeId) (h:Tryz.prog.typeName? 3 u=some "*errors.errorString"):u=299 :=
 typeName_ptr_named (nm:= "errors.errorString") (by rw[Fx];kernel_rfl) (by kernel_rfl) (by decide) u (by rw[Fx];exact h)
set_option maxRecDepth 100000 in
theorem yE {W:World} (h:laidMetH Tryz.prog wD W):∃ a,Gl (Hl.all W) a:=by
 rw[MakeChecks.laidMetH_plain _ _ _ (by kernel_rfl)]at h
 obtain⟨ps,⟨g0,t0,cs0,f0,p0,q0,Em,ht0,hv0,hd0,⟨g1,t1,cs1,f1,p1,q1,hg1,ht1,hv1,hd1,⟨g2,t2,cs2,f2,p2,q2,hg2,ht2,hv2,hd2,_,e2⟩,e1⟩,e0⟩,hnd,hrows⟩:=h
 obtain rfl:=Option.some.inj (Kz.symm.trans Em)
 obtain rfl:=Option.some.inj (KA.symm.trans hg1)
 obtain rfl:=Option.some.inj (KB.symm.trans hg2)
 obtain rfl:=Option.some.inj (KC.symm.trans ht0)
 obtain rfl:=Option.some.inj (KD.symm.trans ht1)
 obtain rfl:=Option.some.inj (KE.symm.trans ht2)
 subst e2
 subst e1
 subst e0
 obtain⟨l0⟩:=cs0
 obtain⟨l1⟩:=cs1
 obtain⟨l2⟩:=cs2
 have ok0:∀ u v,l0=[.iface u v]→Value.okWide Tryz.prog W .any 0 u v:=fun u v e=>by
  subst e
  exact(hrows 0 0 (by simp [MemPlace.row])).2 u v (by simpa using World.var?_cell Em hv0 0)
 have ok1:∀ u v,l1=[.iface u v]→Value.okWide Tryz.prog W .any 0 u v:=fun u v e=>by
  subst e
  exact(hrows 1 0 (by simp [MemPlace.row])).2 u v (by simpa using World.var?_cell hg1 hv1 0)
 have ok2:∀ u v,l2=[.iface u v]→Value.okWide Tryz.prog W .any 0 u v:=fun u v e=>by
  subst e
  exact(hrows 2 0 (by simp [MemPlace.row])).2 u v (by simpa using World.var?_cell hg2 hv2 0)
 obtain⟨a0,s0,rfl,hc0,hs0,hz0,rfl⟩:=errorString_of_trod Tryz.underlying107 Gg Tryz.underlying299 Tryz.underlying319 rfl rfl Tryz.underlying9 yC uk hd0 ok0
 obtain⟨a1,s1,rfl,hc1,hs1,hz1,rfl⟩:=errorString_of_trod Tryz.underlying107 Gg Tryz.underlying299 Tryz.underlying319 rfl rfl Tryz.underlying9 yC uk hd1 ok1
 obtain⟨a2,s2,rfl,hc2,hs2,hz2,rfl⟩:=errorString_of_trod Tryz.underlying107 Gg Tryz.underlying299 Tryz.underlying319 rfl rfl Tryz.underlying9 yC uk hd2 ok2
 obtain⟨b0,y0,hb0⟩:=(hrows a0.block a0.off (by simp [MemPlace.row])).1
 obtain⟨b1,y1,hb1⟩:=(hrows a1.block a1.off (by simp [MemPlace.row])).1
 obtain⟨b2,y2,hb2⟩:=(hrows a2.block a2.off (by simp [MemPlace.row])).1
 have n01:a0≠a1:=by rintro rfl;simp [MemPlace.row]at hnd
 have n02:a0≠a2:=by rintro rfl;simp [MemPlace.row]at hnd
 have n12:a1≠a2:=by rintro rfl;simp [MemPlace.row]at hnd
 have cell:∀ {g:Nat} {v:Value},W.cell? ⟨g,0,none⟩=some v→(Hl.all W).cell g 0=some v:=by
  intro g v h
  unfold World.cell? at h
  unfold Hl.cell Hl.all
  cases hh:W.heap[g]? with
  | none=>simp [hh]at h
  | some o=>cases o<;>simp_all
 have c0:=cell (World.var?_cell Em hv0 0)
 have c1:=cell (World.var?_cell hg1 hv1 0)
 have c2:=cell (World.var?_cell hg2 hv2 0)
 refine⟨fun g=>if g=fO then a0 else if g=jn then a1 else a2,fun g hg=>?_,fun g hg=>?_,fun g h hg hh hne=>?_⟩
 ·rcases hg with rfl | rfl | rfl
  ·exact c0
  ·exact c1
  ·exact c2
 ·rcases hg with rfl | rfl | rfl
  ·exact⟨b0,y0,hb0⟩
  ·exact⟨b1,y1,hb1⟩
  ·exact⟨b2,y2,hb2⟩
 ·rcases hg with rfl | rfl | rfl<;>rcases hh with rfl | rfl | rfl
  ·exact absurd rfl hne
  ·exact n01
  ·exact n02
  ·exact fun e=>n01 e.symm
  ·exact absurd rfl hne
  ·exact n12
  ·exact fun e=>n02 e.symm
  ·exact fun e=>n12 e.symm
  ·exact absurd rfl hne
theorem CQ (os:Os) (args:Array Value):laidMetH Tryz.prog wD ((World.doorLaid Tryz.prog 400 os).forCall (fun _ _=>0) ⟨#[],args,[]⟩).memory :=
 laidMetH_of_parts3 (fuel:=8) (laidMet_of_run' 8 (by kernel_rfl) (by kernel_rfl)) (by kernel_rfl) (by kernel_rfl)
end Go.Proofs.YtomdimlnggpgbaaGreatDoor
namespace Go.Sx
open Go Go.ChangeShapes Go.WideShapes Go.ChangeAt Go.RowKit Go.Deep
def Jq (v:Value):Kd→Prop
 | .int k=>∃ n,v=.int k n∧(Lit.int k n).wf=true
 | .bool=>∃ b,v=.bool b
 | _=>False
def pt:List Value→List Kd→Prop
 | [],[]=>True
 | v::l,k::m=>Jq v k∧pt l m
 | _,_=>False
theorem kE:∀ {l m:List Value} {a b:List Kd},pt l a→pt m b→pt (l++m) (a++b)
 | [],m,[],b,_,h=>h
 | v::l,m,k::a,b,h,h2=>⟨h.1,kE h.2 h2⟩
 | [],_,_::_,_,h,_=>h.elim
 | _::_,_,[],_,h,_=>h.elim
theorem wW:∀ {l:List Value} {a:List Kd},pt l a→∀ (j:Nat) (k:Kd),a[j]?=some k→∃ v,l[j]?=some v∧Jq v k
 | _::l,_::a,h,0,k,hk=>by simp at hk;subst hk;exact⟨_,rfl,h.1⟩
 | _::l,_::a,h,j+1,k,hk=>by simpa using wW h.2 j k (by simpa using hk)
 | [],[],_,j,k,hk=>by simp at hk
 | [],_::_,h,_,_,_=>h.elim
 | _::_,[],h,_,_,_=>h.elim
def pD (f:TypeId→Option (List Kd)):List Field→Nat→Option (List Kd)
 | [],_=>some []
 | fl::l,o=>if fl.offset=o then match f fl.type with
  | some a=>match pD f l (o+a.length)with
   | some b=>some (a++b)
   | none=>none
  | none=>none
  else none
def Fb (a:List Kd):Nat→List Kd
 | 0=>[]
 | n+1=>a++Fb a n
def ku (P:Program):Nat→TypeId→Option (List Kd)
 | 0,_=>none
 | d+1,t=>match P.underlying t with
  | some (.int k)=>some [.int k]
  | some .bool=>some [.bool]
  | some (.array n e)=>match ku P d e with
   | some a=>if a.length=P.cellsOf e∧P.cellsOf t=n*a.length then some (Fb a n)else none
   | none=>none
  | some (.struct fs)=>match pD (fun u=>(ku P d u).bind fun a=>if a.length=P.cellsOf u then some a else none) fs.toList 0 with
   | some a=>if a.length=P.cellsOf t then some a else none
   | none=>none
  | _=>none
section
variable {H:Type} {enc:TypeId×Value→H} {P:Program} {w:World} {base:Nat} {spare:Nat→Bool} {held:Bool}
theorem pj {g:TypeId→Option (List Kd)} {cs:List Value} : ∀ (l:List Field) (o:Nat) (ks:List Kd),pD g l o=some ks →
 (∀ (fl:Field) (a:List Kd),fl∈l→g fl.type=some a→pt ((cs.drop fl.offset).take a.length) a)→pt ((cs.drop o).take ks.length) ks
 | [],o,ks,h,_=>by cases h;simp [pt]
 | fl::l,o,ks,h,hq=>by
  simp only[pD]at h
  split at h
  ·rename_i ho;subst ho
   split at h
   ·rename_i a ha
    split at h
    ·rename_i b hb
     cases h
     have h1:=hq fl a (by simp) ha
     have h2:=pj l (fl.offset+a.length) b hb fun f c hf hc=>hq f c (List.mem_cons_of_mem _ hf) hc
     have e:(cs.drop fl.offset).take (a++b).length=(cs.drop fl.offset).take a.length++(cs.drop (fl.offset+a.length)).take b.length:=by
      rw[List.length_append,List.take_add,List.drop_drop]
     rw[e]
     exact kE h1 h2
    ·cases h
   ·cases h
  ·cases h
theorem tB {cs:List Value} {a:List Kd} : ∀ (n:Nat) (o:Nat),(∀ i,i<n→pt ((cs.drop (o+i*a.length)).take a.length) a)→pt ((cs.drop o).take (n*a.length)) (Fb a n)
 | 0,o,_=>by simp [pt,Fb]
 | n+1,o,h=>by
  have h0:=h 0 (by omega)
  simp only[Nat.zero_mul,Nat.add_zero]at h0
  have ih:=tB n (o+a.length) fun i hi=>by
   have:=h (i+1) (by omega)
   rwa[Nat.add_mul,Nat.one_mul,Nat.add_comm (i*a.length),←Nat.add_assoc]at this
  have e:(cs.drop o).take ((n+1)*a.length)=(cs.drop o).take a.length++(cs.drop (o+a.length)).take (n*a.length):=by
   rw[Nat.add_mul,Nat.one_mul,Nat.add_comm (n*a.length),List.take_add,List.drop_drop]
  rw[e]
  exact kE h0 ih
theorem zM:∀ (d:Nat) (t:TypeId) (ks:List Kd) (fuel:Nat) (cs:List Value) (x:DataW H×List MemPlace),ku P d t=some ks→DataW.trod enc P w base spare held fuel t cs=some x→pt cs ks:=by
 intro d
 induction d with
 | zero=>intro t ks fuel cs x h;cases h
 | succ d ih =>
  intro t ks fuel cs x h hx
  simp only[ku]at h
  split at h
  ·rename_i k hu
   cases h
   obtain⟨n,rfl,_,hw⟩:=DataW.trod_int hu hx
   exact⟨⟨n,rfl,hw⟩,trivial⟩
  ·rename_i hu
   cases h
   obtain⟨b,rfl,_⟩:=DataW.trod_bool hu hx
   exact⟨⟨b,rfl⟩,trivial⟩
  ·rename_i n e hu
   split at h
   ·rename_i a ha
    split at h
    ·rename_i hc
     cases h
     obtain⟨xs,m,_,_,hl,hxl,hxi⟩:=DataW.trod_array hu hx
     have key:=tB (cs:=cs) (a:=a) n 0 fun i hi=>by
      have h1:=hxi i hi
      rw[←hc.1,List.getElem?_eq_getElem (by omega)]at h1
      rw[Nat.zero_add]
      exact ih e a m _ _ ha h1
     rw[List.drop_zero,←hc.2,←hl,List.take_length]at key
     exact key
    ·cases h
   ·cases h
  ·rename_i fs hu
   split at h
   ·rename_i a ha
    split at h
    ·rename_i hc
     cases h
     obtain⟨xs,m,_,_,hl,hxl,hxi⟩:=DataW.trod_struct hu hx
     have key:=pj (cs:=cs) fs.toList 0 ks ha fun fl b hfl hb=>by
      obtain⟨i,hi⟩:=List.getElem?_of_mem hfl
      have hi':fs[i]?=some fl:=by simpa using hi
      have h1:=hxi i fl hi'
      cases hk:ku P d fl.type with
      | none=>simp [hk]at hb
      | some b' =>
       simp only[hk,Option.bind_some]at hb
       split at hb
       ·rename_i hlen
        cases hb
        have hlt:i<xs.length:=by rw[hxl];exact(Array.getElem?_eq_some_iff.1 hi').1
        rw[←hlen,List.getElem?_eq_getElem hlt]at h1
        exact ih fl.type b m _ _ hk h1
       ·cases hb
     rw[List.drop_zero,hc,←hl,List.take_length]at key
     exact key
    ·cases h
   ·cases h
  ·cases h
theorem BI {t e:TypeId} {ks:List Kd} {dp:Nat} {fuel:Nat} {cs:List Value} {x:DataW H×List MemPlace} (ht:P.underlying t=some (.slice e)) (hk:ku P dp e=some ks) (hC:P.cellsOf e=ks.length)
 (h:DataW.trod enc P w base spare held fuel t cs=some x) :
 cs=[.slice none 0 0]∨∃ (a:Addr) (len cap:Nat),cs=[.slice (some a) len cap]∧len≤cap∧cap≤maxLen ∧
  ∀ i,i<len→∀ (j:Nat) (k:Kd),ks[j]?=some k→∃ v,w.cell? (a.add (i*ks.length+j))=some v∧Jq v k:=by
 rcases open_slice ht h with h0 | ⟨a,len,cap,m,n,D,Pl,hcs,hb,hl,hm,hmm,hx,hi⟩
 ·exact Or.inl h0.1
 ·refine Or.inr ⟨a,len,cap,hcs,hl,hm,fun i hil j k hj=>?_⟩
  have him:i<m:=by rw[hmm];split<;>omega
  obtain⟨cs',hc,ht'⟩:=hi i him
  rw[hC]at hc
  obtain⟨_,hcl,hat⟩:=World.cells?_some hc
  have hok:=zM dp e ks n cs' _ hk ht'
  obtain⟨v,hv,hov⟩:=wW hok j k hj
  have hjl:j<ks.length:=(List.getElem?_eq_some_iff.1 hj).1
  refine⟨v,?_,hov⟩
  rw[←Go.Deep.add_add,hat j hjl,hv]
end
end Go.Sx
namespace Go.Sx
open Go Go.ChangeShapes Go.WideShapes Go.ChangeAt Go.RowKit Go.Deep
theorem Eh {n:Int} (h:(Lit.int .u8 n).wf=true):0≤n∧n<256:=by
 simp only[Lit.wf,IntKind.min,IntKind.max,IntKind.signed,IntKind.bits,Bool.and_eq_true,decide_eq_true_eq]at h
 simp at h
 omega
theorem Gi {n:Int} (h:(Lit.int .i64 n).wf=true):-9223372036854775808≤n∧n<9223372036854775808:=by
 simp only[Lit.wf,IntKind.min,IntKind.max,IntKind.signed,IntKind.bits,Bool.and_eq_true,decide_eq_true_eq]at h
 simp at h
 omega
section
variable {H:Type} {enc:TypeId×Value→H} {P:Program} {W:World} {base:Nat} {spare:Nat→Bool} {held:Bool} {d:DataW H} {p:List MemPlace}
theorem pR {b y:Nat} {v:Value} (h:W.cell? ⟨b,y,none⟩=some v):(Hl.all W).cell b y=some v:=by
 unfold Hl.cell Hl.all
 unfold World.cell? at h
 split at h
 ·rename_i c T fr hb
  rw[hb]
  simpa using h
 ·cases h
theorem nM {a:Addr} {v:Value} (hv:W.cell? a=some v):a.spot=none:=by
 unfold World.cell? at hv
 split at hv
 ·split at hv
  ·cases hv
  ·rename_i h;simpa using h
 ·cases hv
end
theorem D9 {P:Program} {s:Spec} (h:s.OK P) (ho:s.own=[]) {W:World} {xs:List Value} (hpre:s.pre xs [] (List.replicate s.rd.length (Hl.all W)))
 (hpost:∀ ρ F,s.post xs [] (List.replicate s.rd.length (Hl.all W)) ((df 0 s.res).ev ρ) [] F→(df 0 s.res).ev ρ=.bool true) :
 Calls P s.fn xs.toArray W fun e w'=>e=.returned (.bool true)∧Below W.heap.size W w':=by
 have:=h W xs [] (List.replicate s.rd.length (Hl.all W)) (by rw[ho];rfl) (by simp) (fun _ h=>nomatch h) (fun R hR=>by rw[(List.mem_replicate.1 hR).2];exact Hl.Eu W) (fun p _ H _ _ h=>by simp at h) (fun _ h=>nomatch h) hpre
 refine this.mono ?_
 rintro e w' ⟨ρ,Hs',F,rfl,_,ht,hp⟩
 have e0:Hs'=[]:=List.length_eq_zero_iff.1 ht.len
 subst e0
 exact⟨by rw[hpost ρ F hp],⟨ht.os,ht.tape,ht.output,ht.size,fun b hb=>ht.block b hb (fun _ h=>nomatch h)⟩⟩
end Go.Sx
namespace Go.Sx
open Go Go.ChangeShapes Go.WideShapes Go.ChangeAt Go.RowKit Go.Deep
section
variable {H:Type} {enc:TypeId×Value→H} {P:Program} {W:World} {base:Nat} {spare:Nat→Bool} {held:Bool} {d:DataW H} {p:List MemPlace}
theorem vU {t e:TypeId} {dp:Nat} (ht:P.underlying t=some (.slice e)) (hk:ku P dp e=some [.int .u8]) (hC:P.cellsOf e=1) {v:Value} (hv:∃ a l c,v=.slice a l c) (h:DataW.Trod enc P W base spare held t v d p) :
 ∃ bs,fw (Hl.all W) v bs∧∀ b∈bs,0≤b∧b<256:=by
 obtain⟨a0,len0,cap0,rfl⟩:=hv
 obtain⟨fuel,hf⟩:=h
 rcases BI ht hk hC hf with h | ⟨a,len,cap,hcs,hl,hc,hat⟩
 ·simp only[Value.cells,List.cons.injEq,Value.slice.injEq,and_true]at h
  obtain⟨rfl,rfl,rfl⟩:=h
  exact⟨[],⟨-1,0,0,rfl,by omega,Or.inl rfl⟩,fun _ h=>nomatch h⟩
 ·simp only[Value.cells,List.cons.injEq,Value.slice.injEq,and_true]at hcs
  obtain⟨rfl,rfl,rfl⟩:=hcs
  rcases Nat.eq_zero_or_pos len0 with h0 | h0
  ·subst h0
   obtain⟨x,y,hx,hy,_⟩:=lE (some a)
   exact⟨[],⟨x,y,cap0,by rw[hx];rfl,hy,Or.inl rfl⟩,fun _ h=>nomatch h⟩
  ·have hcell:∀ i,i<len0→∃ n,W.cell? (a.add i)=some (.int .u8 n)∧0≤n∧n<256:=by
    intro i hi
    obtain⟨v,hv,ho⟩:=hat i hi 0 _ rfl
    obtain⟨n,rfl,hw⟩:=ho
    refine⟨n,?_,Eh hw⟩
    rw[show i=i*([Kd.int .u8]:List Kd).length+0 by simp];exact hv
   have hsp:a.spot=none:=by
    obtain⟨n,hn,_⟩:=hcell 0 h0
    simp only[Addr.add,if_true,Nat.add_zero]at hn
    exact nM hn
   obtain⟨aS,off,spot⟩:=a
   simp only at hsp
   subst hsp
   have hget:∀ j z,((List.range len0).map fun i=>fg (W.cell? ⟨aS,off+i,none⟩))[j]?=some z→W.cell? ⟨aS,off+j,none⟩=some (.int .u8 z)∧0≤z∧z<256:=by
    intro j z hz
    have hj:j<len0:=by have:=(List.getElem?_eq_some_iff.1 hz).1;simpa using this
    rw[List.getElem?_map,List.getElem?_range hj]at hz
    simp only[Option.map_some,Option.some.injEq]at hz
    obtain⟨n,hn,hr⟩:=hcell j hj
    rw[c7]at hn
    rw[hn]at hz
    have hz:n=z:=hz
    subst hz
    exact⟨hn,hr⟩
   refine⟨(List.range len0).map fun i=>fg (W.cell? ⟨aS,off+i,none⟩),⟨aS,off,cap0,?_,by omega,Or.inr ⟨by omega,fun j z hz=>?_⟩⟩,fun b hb=>?_⟩
   ·rw[aq (by omega),List.length_map,List.length_range];rfl
   ·simp only[Int.toNat_natCast]
    exact pR (hget j z hz).1
   ·obtain⟨j,hj⟩:=List.mem_iff_getElem?.1 hb
    exact(hget j b hj).2
end
end Go.Sx
namespace Go.Sx
open Go Go.ChangeShapes Go.WideShapes Go.ChangeAt Go.RowKit Go.Deep
section
variable {H:Type} {enc:TypeId×Value→H} {P:Program} {W:World} {base:Nat} {spare:Nat→Bool} {held:Bool} {d:DataW H} {p:List MemPlace}
theorem GH {t e e2:TypeId} {dp:Nat} (ht:P.underlying t=some (.slice e)) (he:P.underlying e=some (.slice e2)) (hk:ku P dp e2=some [.int .u8]) (hC:P.cellsOf e=1) (hC2:P.cellsOf e2=1) {v:Value} (hv:∃ a l c,v=.slice a l c) (h:DataW.Trod enc P W base spare held t v d p) :
 ∃ (us:List Value) (rows:List (List Int)) (x y:Int) (c:Nat),v=.slice (ar x y) us.length c∧0≤y∧us.length=rows.length∧(∀ (j:Nat) (u:Value),us[j]?=some u→0≤x∧(Hl.all W).cell x.toNat (y.toNat+j)=some u)∧(∀ (j:Nat) (u:Value) (r:List Int),us[j]?=some u→rows[j]?=some r→fw (Hl.all W) u r)∧∀ r∈rows,∀ b∈r,0≤b∧b<256:=by
 obtain⟨a0,len0,cap0,rfl⟩:=hv
 obtain⟨fuel,hf⟩:=h
 rcases open_slice ht hf with h | ⟨a,len,cap,m,n,D,Pl,hcs,hb,hl,hm,hmm,hx,hi⟩
 ·have h:=h.1
  simp only[Value.cells,List.cons.injEq,Value.slice.injEq,and_true]at h
  obtain⟨rfl,rfl,rfl⟩:=h
  exact⟨[],[],-1,0,0,rfl,by omega,rfl,(fun _ _ h=>nomatch h),(fun _ _ _ h=>nomatch h),fun _ h=>nomatch h⟩
 ·simp only[Value.cells,List.cons.injEq,Value.slice.injEq,and_true]at hcs
  obtain⟨rfl,rfl,rfl⟩:=hcs
  have hlm:len0≤m:=by rw[hmm];split<;>omega
  have each:∀ i,i<len0→∃ (u:Value) (bs:List Int),W.cell? (a.add i)=some u∧fw (Hl.all W) u bs∧∀ b∈bs,0≤b∧b<256:=by
   intro i hil
   obtain⟨cs',hc,ht'⟩:=hi i (by omega)
   rw[hC,Nat.mul_one]at hc
   obtain⟨_,hcl,hat⟩:=World.cells?_some hc
   obtain⟨u,rfl,hu⟩:∃ u,cs'=[u]∧∃ a l c,u=.slice a l c:=by
    rcases open_slice he ht' with h | ⟨a,len,cap,m,n,D,Pl,hcs,_⟩
    ·exact⟨_,h.1,_,_,_,rfl⟩
    ·exact⟨_,hcs,_,_,_,rfl⟩
   have h0:=hat 0 (by omega)
   have ha:(a.add i).add 0=a.add i:=by
    obtain⟨aS,off,spot⟩:=a
    cases spot<;>simp [Addr.add]
   rw[ha]at h0
   obtain⟨a1,l1,c1,rfl⟩:=hu
   obtain⟨bs,hr,hb⟩:=vU (enc:=enc) (W:=W) (base:=base) (spare:=spare) (held:=held) he hk hC2 ⟨a1,l1,c1,rfl⟩ ⟨n,by simpa [Value.cells] using ht'⟩
   exact⟨_,bs,by simpa using h0,hr,hb⟩
  rcases Nat.eq_zero_or_pos len0 with h0 | h0
  ·subst h0
   obtain⟨x,y,hx,hy,_⟩:=lE (some a)
   exact⟨[],[],x,y,cap0,by rw[hx];rfl,hy,rfl,(fun _ _ h=>nomatch h),(fun _ _ _ h=>nomatch h),fun _ h=>nomatch h⟩
  ·have hsp:a.spot=none:=by
    obtain⟨u,bs,hc,_⟩:=each 0 h0
    simp only[Addr.add,if_true]at hc
    exact nM hc
   obtain⟨aS,off,spot⟩:=a
   simp only at hsp
   subst hsp
   classical
   let un:Nat→Value:=fun i=>if h:i<len0 then(each i h).choose else .bool false
   let bn:Nat→List Int:=fun i=>if h:i<len0 then(each i h).choose_spec.choose else []
   have hub:∀ i,i<len0→W.cell? ⟨aS,off+i,none⟩=some (un i)∧fw (Hl.all W) (un i) (bn i)∧∀ b∈bn i,0≤b∧b<256:=by
    intro i hil
    have:=(each i hil).choose_spec.choose_spec
    simp only[un,bn,dif_pos hil]
    refine⟨?_,this.2⟩
    rw[←c7]
    exact this.1
   have get:∀ (j:Nat) (u:Value),((List.range len0).map un)[j]?=some u→j<len0∧u=un j:=by
    intro j u hj
    have hl:j<len0:=by have:=(List.getElem?_eq_some_iff.1 hj).1;simpa using this
    rw[List.getElem?_map,List.getElem?_range hl,Option.map_some,Option.some.injEq]at hj
    exact⟨hl,hj.symm⟩
   refine⟨(List.range len0).map un,(List.range len0).map bn,aS,off,cap0,?_,by omega,by simp,fun j u hj=>?_,fun j u r hj hr=>?_,fun r hr=>?_⟩
   ·rw[aq (by omega),List.length_map,List.length_range];rfl
   ·obtain⟨hl,rfl⟩:=get j u hj
    refine⟨by omega,?_⟩
    simp only[Int.toNat_natCast]
    exact pR (hub j hl).1
   ·obtain⟨hl,rfl⟩:=get j u hj
    rw[List.getElem?_map,List.getElem?_range hl,Option.map_some,Option.some.injEq]at hr
    subst hr
    exact(hub j hl).2.1
   ·obtain⟨i,hi,rfl⟩:=List.mem_map.1 hr
    exact(hub i (List.mem_range.1 hi)).2.2
end
end Go.Sx
namespace Go.Ex
open Go Go.ChangeShapes Go.WideShapes Go.ChangeAt Go.RowKit Go.Deep
inductive Kt | int (k:IntKind) | bool | other (t:TypeId)
def KL (Φ:Value→TypeId→Prop) (v:Value):Kt→Prop
 | .int k=>∃ n,v=.int k n∧(Lit.int k n).wf=true
 | .bool=>∃ b,v=.bool b
 | .other t=>Φ v t
variable {Φ:Value→TypeId→Prop}
def GZ (Φ:Value→TypeId→Prop):Prop:=∀ v t,Φ v t→∃ a len cap,v=.slice a len cap
def jQ (Φ:Value→TypeId→Prop):List Value→List Kt→Prop
 | [],[]=>True
 | v::l,k::m=>KL Φ v k∧jQ Φ l m
 | _,_=>False
theorem kF:∀ {l m:List Value} {a b:List Kt},jQ Φ l a→jQ Φ m b→jQ Φ (l++m) (a++b)
 | [],m,[],b,_,h=>h
 | v::l,m,k::a,b,h,h2=>⟨h.1,kF h.2 h2⟩
 | [],_,_::_,_,h,_=>h.elim
 | _::_,_,[],_,h,_=>h.elim
theorem oT:∀ {l:List Value} {a:List Kt},jQ Φ l a→l.length=a.length
 | [],[],_=>rfl
 | _::l,_::a,h=>by simp [oT h.2]
 | [],_::_,h=>h.elim
 | _::_,[],h=>h.elim
def mV (f:TypeId→Option (List Kt)):List Field→Nat→Option (List Kt)
 | [],_=>some []
 | fl::l,o=>if fl.offset=o then match f fl.type with
  | some a=>match mV f l (o+a.length)with
   | some b=>some (a++b)
   | none=>none
  | none=>none
  else none
def AK (a:List Kt):Nat→List Kt
 | 0=>[]
 | n+1=>a++AK a n
def lf (P:Program):Nat→TypeId→Option (List Kt)
 | 0,_=>none
 | d+1,t=>match P.underlying t with
  | some (.int k)=>some [.int k]
  | some .bool=>some [.bool]
  | some (.slice _)=>some [.other t]
  | some (.array n e)=>match lf P d e with
   | some a=>if a.length=P.cellsOf e∧P.cellsOf t=n*a.length then some (AK a n)else none
   | none=>none
  | some (.struct fs)=>match mV (fun u=>(lf P d u).bind fun a=>if a.length=P.cellsOf u then some a else none) fs.toList 0 with
   | some a=>if a.length=P.cellsOf t then some a else none
   | none=>none
  | _=>none
section
variable {H:Type} {enc:TypeId×Value→H} {P:Program} {w:World} {base:Nat} {spare:Nat→Bool} {held:Bool}
theorem nB {g:TypeId→Option (List Kt)} {cs:List Value} : ∀ (l:List Field) (o:Nat) (ks:List Kt),mV g l o=some ks →
 (∀ (fl:Field) (a:List Kt),fl∈l→g fl.type=some a→jQ Φ ((cs.drop fl.offset).take a.length) a)→jQ Φ ((cs.drop o).take ks.length) ks
 | [],o,ks,h,_=>by cases h;simp [jQ]
 | fl::l,o,ks,h,hq=>by
  simp only[mV]at h
  split at h
  ·rename_i ho;subst ho
   split at h
   ·rename_i a ha
    split at h
    ·rename_i b hb
     cases h
     have h1:=hq fl a (by simp) ha
     have h2:=nB l (fl.offset+a.length) b hb fun f c hf hc=>hq f c (List.mem_cons_of_mem _ hf) hc
     have e:(cs.drop fl.offset).take (a++b).length=(cs.drop fl.offset).take a.length++(cs.drop (fl.offset+a.length)).take b.length:=by
      rw[List.length_append,List.take_add,List.drop_drop]
     rw[e]
     exact kF h1 h2
    ·cases h
   ·cases h
  ·cases h
theorem rY {cs:List Value} {a:List Kt} : ∀ (n:Nat) (o:Nat),(∀ i,i<n→jQ Φ ((cs.drop (o+i*a.length)).take a.length) a)→jQ Φ ((cs.drop o).take (n*a.length)) (AK a n)
 | 0,o,_=>by simp [jQ,AK]
 | n+1,o,h=>by
  have h0:=h 0 (by omega)
  simp only[Nat.zero_mul,Nat.add_zero]at h0
  have ih:=rY n (o+a.length) fun i hi=>by
   have:=h (i+1) (by omega)
   rwa[Nat.add_mul,Nat.one_mul,Nat.add_comm (i*a.length),←Nat.add_assoc]at this
  have e:(cs.drop o).take ((n+1)*a.length)=(cs.drop o).take a.length++(cs.drop (o+a.length)).take (n*a.length):=by
   rw[Nat.add_mul,Nat.one_mul,Nat.add_comm (n*a.length),List.take_add,List.drop_drop]
  rw[e]
  exact kF h0 ih
abbrev pn (enc:TypeId×Value→H) (P:Program) (w:World) (base:Nat) (spare:Nat→Bool) (held:Bool) (v:Value) (t:TypeId):Prop:=(∃ e,P.underlying t=some (.slice e))∧∃ m x,DataW.trod enc P w base spare held m t [v]=some x
theorem xE:GZ (pn enc P w base spare held):=by
 rintro v t ⟨⟨e,hu⟩,m,x,hx⟩
 rcases open_slice hu hx with h0 | ⟨a,len,cap,m,n,D,Pl,hcs,_⟩
 ·have h1:=h0.1
  simp only[List.cons.injEq,and_true]at h1
  exact⟨none,0,0,h1⟩
 ·simp only[List.cons.injEq,and_true]at hcs
  exact⟨some a,len,cap,hcs⟩
theorem xD:∀ (d:Nat) (t:TypeId) (ks:List Kt) (fuel:Nat) (cs:List Value) (x:DataW H×List MemPlace),lf P d t=some ks→DataW.trod enc P w base spare held fuel t cs=some x→jQ (pn enc P w base spare held) cs ks:=by
 intro d
 induction d with
 | zero=>intro t ks fuel cs x h;cases h
 | succ d ih =>
  intro t ks fuel cs x h hx
  simp only[lf]at h
  split at h
  ·rename_i k hu
   cases h
   obtain⟨n,rfl,_,hw⟩:=DataW.trod_int hu hx
   exact⟨⟨n,rfl,hw⟩,trivial⟩
  ·rename_i hu
   cases h
   obtain⟨b,rfl,_⟩:=DataW.trod_bool hu hx
   exact⟨⟨b,rfl⟩,trivial⟩
  ·rename_i e hu
   cases h
   rcases open_slice hu hx with h0 | ⟨a,len,cap,m,n,D,Pl,hcs,_⟩
   ·have h1:=h0.1
    subst h1
    exact⟨⟨⟨_,hu⟩,fuel,x,hx⟩,trivial⟩
   ·subst hcs
    exact⟨⟨⟨_,hu⟩,fuel,x,hx⟩,trivial⟩
  ·rename_i n e hu
   split at h
   ·rename_i a ha
    split at h
    ·rename_i hc
     cases h
     obtain⟨xs,m,_,_,hl,hxl,hxi⟩:=DataW.trod_array hu hx
     have key:=rY (cs:=cs) (a:=a) n 0 fun i hi=>by
      have h1:=hxi i hi
      rw[←hc.1,List.getElem?_eq_getElem (by omega)]at h1
      rw[Nat.zero_add]
      exact ih e a m _ _ ha h1
     rw[List.drop_zero,←hc.2,←hl,List.take_length]at key
     exact key
    ·cases h
   ·cases h
  ·rename_i fs hu
   split at h
   ·rename_i a ha
    split at h
    ·rename_i hc
     cases h
     obtain⟨xs,m,_,_,hl,hxl,hxi⟩:=DataW.trod_struct hu hx
     have key:=nB (cs:=cs) fs.toList 0 ks ha fun fl b hfl hb=>by
      obtain⟨i,hi⟩:=List.getElem?_of_mem hfl
      have hi':fs[i]?=some fl:=by simpa using hi
      have h1:=hxi i fl hi'
      cases hk:lf P d fl.type with
      | none=>simp [hk]at hb
      | some b' =>
       simp only[hk,Option.bind_some]at hb
       split at hb
       ·rename_i hlen
        cases hb
        have hlt:i<xs.length:=by rw[hxl];exact(Array.getElem?_eq_some_iff.1 hi').1
        rw[←hlen,List.getElem?_eq_getElem hlt]at h1
        exact ih fl.type b m _ _ hk h1
       ·cases hb
     rw[List.drop_zero,hc,←hl,List.take_length]at key
     exact key
    ·cases h
   ·cases h
  ·cases h
end
end Go.Ex
namespace Go.Sx
open Go Go.ChangeShapes Go.WideShapes Go.ChangeAt Go.RowKit Go.Deep
def Gm:Ex.Kt→Kd
 | .int k=>.int k
 | .bool=>.bool
 | .other _=>.slice
theorem xl {Φ:Value→TypeId→Prop} (hΦ:Ex.GZ Φ):∀ {row:List Value} {ks:List Ex.Kt},Ex.jQ Φ row ks→j7 row (ks.map Gm)
 | [],[],_=>trivial
 | v::row,k::ks,h=>by
  refine⟨?_,xl hΦ h.2⟩
  have h1:=h.1
  cases k with
  | int k=>obtain⟨n,rfl,_⟩:=h1;simp [cx,Gm]
  | bool=>obtain⟨b,rfl⟩:=h1;rfl
  | other t=>obtain⟨a,l,c,rfl⟩:=hΦ v t h1;rfl
 | [],_::_,h=>h.elim
 | _::_,[],h=>h.elim
section
variable {H:Type} {enc:TypeId×Value→H} {P:Program} {W:World} {base:Nat} {spare:Nat→Bool} {held:Bool} {d:DataW H} {p:List MemPlace}
theorem E9 {t e:TypeId} {ks:List Ex.Kt} {dp:Nat} (ht:P.underlying t=some (.slice e)) (hk:Ex.lf P dp e=some ks) (hC:P.cellsOf e=ks.length) (hks:0<ks.length) {v:Value} (hv:∃ a l c,v=.slice a l c) (h:DataW.Trod enc P W base spare held t v d p) :
 ∃ rows,im (Hl.all W) v (ks.map Gm) rows∧∀ row∈rows,Ex.jQ (Ex.pn enc P W base spare held) row ks:=by
 obtain⟨a0,len0,cap0,rfl⟩:=hv
 obtain⟨fuel,hf⟩:=h
 rcases open_slice ht hf with h | ⟨a,len,cap,m,n,D,Pl,hcs,hb,hl,hm,hmm,hx,hi⟩
 ·have h:=h.1
  simp only[Value.cells,List.cons.injEq,Value.slice.injEq,and_true]at h
  obtain⟨rfl,rfl,rfl⟩:=h
  exact⟨[],⟨-1,0,0,rfl,by omega,Or.inl rfl⟩,fun _ h=>nomatch h⟩
 ·simp only[Value.cells,List.cons.injEq,Value.slice.injEq,and_true]at hcs
  obtain⟨rfl,rfl,rfl⟩:=hcs
  have hlm:len0≤m:=by rw[hmm];split<;>omega
  have each:∀ i,i<len0→∃ row,row.length=ks.length∧Ex.jQ (Ex.pn enc P W base spare held) row ks∧∀ j,j<ks.length→W.cell? ((a.add (i*ks.length)).add j)=row[j]?:=by
   intro i hil
   obtain⟨cs',hc,ht'⟩:=hi i (by omega)
   rw[hC]at hc
   obtain⟨_,hcl,hat⟩:=World.cells?_some hc
   exact⟨cs',hcl,Ex.xD dp e ks n cs' _ hk ht',fun j hj=>hat j hj⟩
  rcases Nat.eq_zero_or_pos len0 with h0 | h0
  ·subst h0
   obtain⟨x,y,hx,hy,_⟩:=lE (some a)
   exact⟨[],⟨x,y,cap0,by rw[hx];rfl,hy,Or.inl rfl⟩,fun _ h=>nomatch h⟩
  ·have hsp:a.spot=none:=by
    obtain⟨row,hl',_,hc⟩:=each 0 h0
    have:=hc 0 hks
    simp only[Nat.zero_mul,Addr.add,if_true]at this
    rw[List.getElem?_eq_getElem (by omega)]at this
    exact nM this
   obtain⟨aS,off,spot⟩:=a
   simp only at hsp
   subst hsp
   classical
   let row:Nat→List Value:=fun i=>if h:i<len0 then(each i h).choose else []
   have hrow:∀ i,i<len0→(row i).length=ks.length∧Ex.jQ (Ex.pn enc P W base spare held) (row i) ks∧∀ j,j<ks.length→W.cell? ⟨aS,off+i*ks.length+j,none⟩=(row i)[j]?:=by
    intro i hil
    have:=(each i hil).choose_spec
    simp only[row,dif_pos hil]
    refine⟨this.1,this.2.1,fun j hj=>?_⟩
    rw[←this.2.2 j hj,c7,c7]
   refine⟨(List.range len0).map row,⟨aS,off,cap0,?_,by omega,Or.inr ⟨by omega,fun i r hr=>?_⟩⟩,fun r hr=>?_⟩
   ·rw[aq (by omega),List.length_map,List.length_range];rfl
   ·have hil:i<len0:=by have:=(List.getElem?_eq_some_iff.1 hr).1;simpa using this
    rw[List.getElem?_map,List.getElem?_range hil,Option.map_some,Option.some.injEq]at hr
    subst hr
    obtain⟨h1,h2,h3⟩:=hrow i hil
    refine⟨xl Ex.xE h2,fun j u hu=>?_⟩
    rw[Int.toNat_natCast,Int.toNat_natCast,List.length_map]
    have hj:j<ks.length:=by rw[←h1];exact(List.getElem?_eq_some_iff.1 hu).1
    exact pR (by rw[h3 j hj];exact hu)
   ·obtain⟨i,hil,rfl⟩:=List.mem_map.1 hr
    exact(hrow i (List.mem_range.1 hil)).2.1
end
end Go.Sx
namespace Go.Proofs.YtomdimlnggpgbaaGreatDoor.playsP
open Go Go.Sx Go.ChangeShapes Go.WideShapes Go.ChangeAt Go.RowKit Go.Deep
def k9:List Ex.Kt:=[.int .u8,.other 31,.int .i64]
section
variable {H:Type} {enc:TypeId×Value→H} {W:World} {base:Nat} {spare:Nat→Bool} {held:Bool}
theorem JM {P:Program} {t:TypeId} {row:List Value} (h:Ex.jQ (Ex.pn enc P W base spare held) row [.int .u8,.other t,.int .i64]) :
 ∃ k u z,row=[.int .u8 k,u,.int .i64 z]∧(Lit.int .u8 k).wf=true∧(Lit.int .i64 z).wf=true∧(∃ a l c,u=Value.slice a l c)∧∃ d p,DataW.Trod enc P W base spare held t u d p:=by
 match row,Ex.oT h with
 | [a,u,c],_ =>
  obtain⟨⟨k,rfl,hk⟩,hu,⟨z,rfl,hz⟩,_⟩:=h
  have hsl:∃ a l c,u=Value.slice a l c:=Ex.xE u t hu
  obtain⟨_,fuel,x,hx⟩:=hu
  refine⟨k,u,z,rfl,hk,hz,hsl,x.1,x.2,fuel,?_⟩
  obtain⟨a,l,c,rfl⟩:=hsl
  exact hx
theorem JN {row:List Value} (h:Ex.jQ (Ex.pn enc Tryz.prog W base spare held) row k9):∃ o:B9,row=o.row∧bu (Hl.all W) (Hl.all W) o.u o.rows∧(∀ r∈o.rows,bw r)∧0≤o.k∧o.k<256∧o.f≤9223372036854775807:=by
 obtain⟨k,u,z,e,w1,w3,hsl,d,p,hu⟩:=JM h
 obtain⟨us,rows,x',y,c,e0,hy,hlen,hcell,hrow,hbyte⟩:=GH Tryz.underlying31 Tryz.underlying46 (dp:=1) (by kernel_rfl) (by kernel_rfl) (by kernel_rfl) hsl hu
 exact⟨⟨k,u,z,rows⟩,e,⟨us,x',y,c,e0,hy,hlen,hcell,hrow⟩,hbyte,(Eh w1).1,(Eh w1).2,Int.le_of_lt_add_one (Gi w3).2⟩
theorem DW:∀ {rows:List (List Value)},(∀ row∈rows,Ex.jQ (Ex.pn enc Tryz.prog W base spare held) row k9)→∃ ops:List B9,rows=ops.map B9.row∧(∀ o∈ops,bu (Hl.all W) (Hl.all W) o.u o.rows)∧∀ o∈ops,(∀ r∈o.rows,bw r)∧0≤o.k∧o.k<256∧o.f≤9223372036854775807
 | [],_=>⟨[],rfl,(fun _ h=>nomatch h),(fun _ h=>nomatch h)⟩
 | row::rows,h=>by
  obtain⟨o,e,h1,h2⟩:=JN (h row (List.mem_cons_self ..))
  obtain⟨ops,e',h3,h4⟩:=DW (rows:=rows) fun r hr=>h r (List.mem_cons_of_mem _ hr)
  refine⟨o::ops,by rw[e,e'];rfl,fun x hx=>?_,fun x hx=>?_⟩
  ·rcases List.mem_cons.1 hx with rfl | hx
   ·exact h1
   ·exact h3 x hx
  ·rcases List.mem_cons.1 hx with rfl | hx
   ·exact h2
   ·exact h4 x hx
end
end Go.Proofs.YtomdimlnggpgbaaGreatDoor.playsP
