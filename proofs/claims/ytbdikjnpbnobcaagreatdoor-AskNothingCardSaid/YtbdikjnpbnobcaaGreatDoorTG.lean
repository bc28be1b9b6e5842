/- Bytes that are no request are told nothing and change nothing: a part of the proof. No condition. -/
import Derived.Test.YtbdikjnpbnobcaaGreatDoorChecked
import Derived.LaidEql
import Derived.Stop.Asserts
import Derived.RowKitTokens
import Derived.Test.YtbdikjnpbnobcaaGreatDoorTF
set_option linter.all false
set_option maxHeartbeats 4000000
namespace Go.Proofs.YtbdikjnpbnobcaaGreatDoor.D
open Go Go.Sx
variable {D D':DM}{a i m most n place:Int}{L:LM}{all b bs h nt nt':List Int}{frm k:Nat}
structure Sure (D:DM):Prop where
 ok:D.ok
 fuse:D.fuse= -1
 gone:D.gone=false
def putD_sure (h:Sure D) (hi:D.has i=true) (hb:bs.length=64):Sure (putD D i bs):=⟨putD_ok h.ok hi hb,by show(if 0<D.fuse then D.fuse-1 else D.fuse)= -1;rw[h.fuse];rfl,rfl⟩
def writeR_sure (h:Sure D) (hi:D.has i=true) (hb:bs.length=64):writeR D i bs=(0,putD D i bs):=by
 unfold writeR;rw[MM (by rw[hi,hb];simp),MM (by rw[h.gone];simp),MM (by rw[h.fuse];decide)]
def syncR_sure (h:Sure D):(syncR D).1=0/\Sure (syncR D).2/\(syncR D).2.now=D.now/\(syncR D).2.n=D.n:=by
 have e:syncR D=(0,⟨D.n,D.now,[],if 0<D.fuse then D.fuse-1 else D.fuse,D.gone⟩):=by
  unfold syncR;rw[MM (by rw[h.gone];simp),MM (by rw[h.fuse];decide)]
 rw[e];refine⟨rfl,⟨⟨h.ok.now,h.ok.n,?_,?_,fun p hp=>by cases hp⟩,?_,h.gone⟩,rfl,rfl⟩
 .show -1<=(if 0<D.fuse then D.fuse-1 else D.fuse);rw[h.fuse];decide
 .show(if 0<D.fuse then D.fuse-1 else D.fuse)<=_;rw[h.fuse];decide
 .show(if 0<D.fuse then D.fuse-1 else D.fuse)= -1;rw[h.fuse];rfl
def putD_get (h:D.ok) (hi:D.has i=true) (hb:bs.length=64) (j:Nat):(putD D i bs).now[j]?=if 64*i.toNat<=j/\j<64*i.toNat+64 then bs[j-64*i.toNat]? else D.now[j]?:=by
 have hh:0<=i/\i<D.n:=by unfold DM.has at hi;simpa using hi
 show(splice D.now (64*i.toNat) bs)[j]?=_;rw[Sx.splice_get (by rw[h.now,hb];omega),hb]
def secA_length (all:List Int) (i:Nat):(secA all i).length=64:=by simp [secA]
def secA_get (all:List Int) (i j:Nat) (h:j<64) (a:64*i+j<all.length):(secA all i)[j]?=all[64*i+j]?:=by
 unfold secA;rw[MU,Nf h,Nl,ME a,Oe]
def fillGo_sure (frm:Nat) (all:List Int):∀ (f i:Nat) (D:DM),Sure D->all.length+1<=f+i->all.length+64*(frm+2)<=64*D.n ->
 (fillGo frm all f i D).1=0/\Sure (fillGo frm all f i D).2/\(fillGo frm all f i D).2.n=D.n/\(∀ j,j<64*(frm+2+i)->(fillGo frm all f i D).2.now[j]?=D.now[j]?)/\(∀ t,64*i<=t->t<all.length->(fillGo frm all f i D).2.now[64*(frm+2)+t]?=all[t]?):=by
 intro f
 induction f with
 | zero =>
  intro i D h h1 h2;obtain⟨a,b,c,d⟩:=syncR_sure h;show(syncR D).1=0/\_;refine⟨a,b,d,fun j _=>?_,fun t m k=>ae⟩;show(syncR D).2.now[j]?=_;rw[c]
 | succ f ih =>
  intro i D h h1 h2;have o:(frm:Int)+2+i=((frm+2+i:Nat):Int):=ae;by_cases l:64*i<all.length
  .have hi:D.has ((frm:Int)+2+i)=true:=by unfold DM.has;simp only[MI];omega
   have hw:=writeR_sure h hi (secA_length all i);have e:fillGo frm all (f+1) i D=fillGo frm all f (i+1) (putD D ((frm:Int)+2+i) (secA all i)):=by
    show(if 64*i<all.length then _ else _)=_;rw[M0 l,hw];simp
   rw[e];have hS:=putD_sure h hi (secA_length all i);obtain⟨a,b,c,d,g⟩:=ih (i+1) _ hS ae h2;have p:=putD_get h.ok hi (secA_length all i);refine⟨a,b,c,fun j r=>?_,fun t m k=>?_⟩
   .rw[d j ae,p,o,MD,MM ae]
   .rcases ND t (64*(i+1))with q | q
    .rw[d _ ae,p,o,MD,M0 ae,secA_get all i _ ae ae]
     congr 1;omega
    .exact g t q k
  .have e:fillGo frm all (f+1) i D=syncR D:=by
    show(if 64*i<all.length then _ else _)=_;rw[MM l]
   rw[e];obtain⟨a,b,c,d⟩:=syncR_sure h;exact⟨a,b,d,fun j _=>by rw[c],fun t m k=>ae⟩
structure Holds (D:DM) (frm:Nat) (n:Int) (k:Nat) (all nt:List Int):Prop where
 sure:Sure D
 rng:3<=n/\(frm:Int)+n<=D.n
 len:(all.length:Int)<=64*(n-2)
 note:nt.length=16
 cur:lreadR D frm (64*(n-2)) ((k%2:Nat):Int)=((k:Int)::(all.length:Int)::nt,0)
 oth:(lreadR D frm (64*(n-2)) (((k+1)%2:Nat):Int)).1.getD 0 0<k\/(k=0/\(lreadR D frm (64*(n-2)) 1).1.getD 0 0=0)
 bytes:∀ t z,all[t]?=some z->D.now[64*(frm+2)+t]?=some z
def Holds.openH (h:Holds D frm n k all nt):openH D frm n=(k:Int)::(all.length:Int)::nt:=by
 have a:=h.cur;have ho:=h.oth;unfold Go.Proofs.YtbdikjnpbnobcaaGreatDoor.D.openH;rcases Nat.mod_two_eq_zero_or_one k with e | e
 .have b:(k+1)%2=1:=ae;rw[e]at a;rw[b]at ho;have a:lreadR D frm (64*(n-2)) 0=_:=a;rw[a];show(if(k:Int)<_ then _ else _)=_;rw[MM];rcases ho with ho | ⟨hk,ho⟩
  .have ho:(lreadR D frm (64*(n-2)) 1).1.getD 0 0<k:=ho;omega
  .rw[ho];omega
 .have b:(k+1)%2=0:=ae;rw[e]at a;rw[b]at ho;have a:lreadR D frm (64*(n-2)) 1=_:=a;rw[a];show(if _<(k:Int)then _ else _)=_;rw[M0];rcases ho with ho | ⟨hk,ho⟩
  .exact ho
  .omega
def Holds.openL (h:Holds D frm n k all nt):openL D frm n=⟨frm,64*(n-2),k,all.length,nt,false⟩:=by
 unfold Go.Proofs.YtbdikjnpbnobcaaGreatDoor.D.openL headL;rw[h.openH];rfl
def Holds.openB (h:Holds D frm n k all nt):openB D frm n=all:=by
 obtain⟨h1,h2⟩:=h.rng;have hl:=h.len;unfold Go.Proofs.YtbdikjnpbnobcaaGreatDoor.D.openB bytesAt;rw[h.openL];show(D.now.drop (64*((frm:Int)+2).toNat)).take ((all.length:Int)).toNat=all;rw[show((frm:Int)+2).toNat=frm+2 by omega,MD];apply Ni;intro j;rw[NB];split
 .rename_i a;rw[Nm,h.bytes j _ (ME a),ME a]
 .rw[MS ae]
def lread_sector (h:Sure D) {frm:Int} (hi:D.has (frm+place)=true):lreadR D frm most place=if goodH (D.sector (frm+place)) most place then(headI ((D.sector (frm+place)).take 32),0)else(zeros18,0):=by
 unfold lreadR;rw[readR_in hi h.gone];simp
def lread_same (h:Sure D) (h':Sure D') (hn:D'.n=D.n) {frm:Int} (hi:D.has (frm+place)=true) (hs:D'.sector (frm+place)=D.sector (frm+place)):lreadR D' frm most place=lreadR D frm most place:=by
 have a:D'.has (frm+place)=true:=by unfold DM.has at hi ⊢;rw[hn];exact hi
 rw[lread_sector h hi,lread_sector h' a,hs]
def sector_same (h:∀ j,64*i.toNat<=j->j<64*i.toNat+64->D'.now[j]?=D.now[j]?):D'.sector i=D.sector i:=by
 unfold DM.sector;apply Ni;intro j;rw[NB,NB];split
 .rw[Nm,Nm];exact h _ ae ae
 .rfl
def be8_length (x:Int):(be8 x).length=8:=rfl
def half_head {b:Int} (c:0<=a/\a<18446744073709551616) (hb:0<=b/\b<18446744073709551616) (hn:nt.length=16) :
 (halfL (a::b::nt)).length=32/\headI (halfL (a::b::nt))=a::b::nt/\bigI ((halfL (a::b::nt)).take 8)=a/\bigI (((halfL (a::b::nt)).drop 8).take 8)=b:=by
 have e:halfL (a::b::nt)=be8 a++be8 b++nt:=by
  unfold halfL;show be8 a++be8 b++nt.take 16=_;rw[Od ae]
 have h1:((be8 a++be8 b++nt).take 8)=be8 a:=by rw[MY,Ot (by rw[be8_length];omega),Od (by rw[be8_length];omega)]
 have h2:((be8 a++be8 b++nt).drop 8)=be8 b++nt:=by rw[MY,OY (be8_length a)]
 have d:(((be8 a++be8 b++nt).drop 8).take 8)=be8 b:=by rw[h2,Ot (by rw[be8_length];omega),Od (by rw[be8_length];omega)]
 have f:((be8 a++be8 b++nt).drop 16).take 16=nt:=by
  rw[OY (by rw[MJ,be8_length,be8_length]),Od ae]
 rw[e];refine⟨by simp [be8_length,hn],?_,?_,?_⟩
 .unfold headI;rw[h1,d,f,big_be8 c.1 c.2,big_be8 hb.1 hb.2];rfl
 .rw[h1,big_be8 c.1 c.2]
 .rw[d,big_be8 hb.1 hb.2]
def Holds.append (h:Holds D frm n k all nt) (hb:(all.length:Int)+b.length<=64*(n-2)) (hk:k<1000000) (v:nt'.length=16) :
 (appendR D ⟨frm,64*(n-2),k,all.length,nt,false⟩ all b nt').e=0/\Holds (appendR D ⟨frm,64*(n-2),k,all.length,nt,false⟩ all b nt').D frm n (k+1) (all++b) nt' /\
 (appendR D ⟨frm,64*(n-2),k,all.length,nt,false⟩ all b nt').bs=all++b/\(appendR D ⟨frm,64*(n-2),k,all.length,nt,false⟩ all b nt').L=⟨frm,64*(n-2),(k+1:Nat),(all++b).length,nt',false⟩:=by
 obtain⟨r1,r2⟩:=h.rng;have W:=h.sure.ok.n;have C:(all++b).length=all.length+b.length:=MJ;obtain⟨L,w⟩:∃ L:LM,L=⟨frm,64*(n-2),k,all.length,nt,false⟩:=⟨_,rfl⟩;rw[<-w];have f1:L.frm=frm:=by rw[w]
 have f2:L.most=64*(n-2):=by rw[w]
 have f3:L.serial=k:=by rw[w]
 have f4:L.over=false:=by rw[w]
 obtain⟨F,T⟩:∃ F,F=(fillR D L.frm (all++b) all.length).2:=⟨_,rfl⟩;obtain⟨a1,a2,y,A,E⟩:=fillGo_sure frm (all++b) ((all++b).length+1) (all.length/64) D h.sure ae ae;have H:fillR D L.frm (all++b) all.length=fillGo frm (all++b) ((all++b).length+1) (all.length/64) D:=by
  unfold fillR;rw[f1,show(((all.length:Nat):Int)/64).toNat=all.length/64 by omega]
 rw[<-H]at a1 a2 y A E;rw[<-T]at a2 y A E;obtain⟨N,hN⟩:∃ N,N=newH L (all++b) nt':=⟨_,rfl⟩;have eN:N=((k+1:Nat):Int)::((all++b).length:Int)::nt':=by
  rw[hN];unfold newH;rw[f3];rfl
 have hp:((k+1:Nat):Int).tmod 2=(((k+1)%2:Nat):Int):=by
  rw[OC ae];omega
 obtain⟨p,o⟩:∃ p,p=(k+1)%2:=⟨_,rfl⟩;have g:p<2:=ae;obtain⟨b1,b2,U,V⟩:=half_head (a:=((k+1:Nat):Int)) (b:=((all++b).length:Int)) (nt:=nt') ⟨ae,ae⟩ ⟨ae,ae⟩ v;rw[<-eN]at b1 b2 U V;have r:(halfL N++halfL N).length=64:=by rw[MJ,b1]
 have I:∀ q:Nat,(frm:Int)+((q:Nat):Int)=((frm+q:Nat):Int):=fun q=>ae;have d:∀ q:Nat,q<2->F.has ((frm:Int)+(q:Int))=true:=fun q J=>by unfold DM.has;rw[y];simp only[MI];omega
 have l:∀ q:Nat,q<2->D.has ((frm:Int)+(q:Int))=true:=fun q J=>by unfold DM.has;simp only[MI];omega
 have hw:=writeR_sure a2 (d p g) r;obtain⟨G,B⟩:∃ G,G=putD F ((frm:Int)+(p:Int)) (halfL N++halfL N):=⟨_,rfl⟩;rw[<-B]at hw;have K:Sure G:=by rw[B];exact putD_sure a2 (d p g) r
 have s:G.n=D.n:=by rw[B,<-y];rfl
 have i:=putD_get a2.ok (d p g) r;rw[<-B,I p,MD]at i;obtain⟨s1,s2,M,O⟩:=syncR_sure K;have P:turnR F L.frm N=syncR G:=by
  unfold turnR;have e0:N.getD 0 0=((k+1:Nat):Int):=by rw[eN];rfl
  rw[f1,e0,hp,<-o,hw];simp
 have x:becomeR D L (all++b) nt' all.length=(0,(syncR G).2):=by
  unfold becomeR;rw[MM (by rw[a1];simp),<-T,<-hN,P,MM (by rw[s1];simp)]
 have happ:appendR D L all b nt'=⟨0,(syncR G).2,grownL L (all++b) nt',all++b⟩:=by
  unfold appendR;rw[f4,f3,f2,MM ar,MM ae,MM ae,x];rfl
 rw[happ];refine⟨rfl,⟨s2,⟨r1,by show(frm:Int)+n<=((syncR G).2.n:Int);rw[O,s];exact r2⟩,by rw[C];omega,v,?_,Or.inl ?_,?_⟩,rfl,by unfold grownL;rw[f1,f2,f3,f4];rfl⟩
 .rw[<-o];have hi:(syncR G).2.has ((frm:Int)+(p:Int))=true:=by unfold DM.has;rw[O,s];exact l p g
  have f:(syncR G).2.sector ((frm:Int)+(p:Int))=halfL N++halfL N:=by
   unfold DM.sector;rw[M,I p,MD];apply Ni;intro j;rw[NB];split
   .rename_i Z;rw[Nm,i,M0 ae]
    congr 1;omega
   .rw[MS ae]
  show lreadR (syncR G).2 frm (64*(n-2)) (p:Int)=_;rw[lread_sector s2 hi,f];have u:(halfL N++halfL N).take 32=halfL N:=by rw[OZ b1]
  have Q:(halfL N++halfL N).drop 32=halfL N:=by rw[OY b1]
  rw[M0,u,b2,eN];unfold goodH;rw[u,Q,U,V];exact⟨rfl,by rw[hp,o],ae⟩
 .have J:(k+1+1)%2=k%2:=ae;rw[J];obtain⟨c,X⟩:∃ c,c=k%2:=⟨_,rfl⟩;have m:=h.cur;rw[<-X]at m ⊢;have R:c<2:=ae;have Y:c≠p:=ae;have f:(syncR G).2.sector ((frm:Int)+(c:Int))=D.sector ((frm:Int)+(c:Int)):=by
   refine sector_same fun j h1 h2=>?_;rw[I c,MD]at h1 h2;rw[M,i,MM ae];exact A j ae
  rw[lread_same h.sure s2 (by rw[O,s]) (l c R) f,m];show(k:Int)<((k+1:Nat):Int);omega
 .intro t z u;have S:=(MK.1 u).1;show(syncR G).2.now[64*(frm+2)+t]?=some z;rw[M,i,MM ae];rcases ND t (64*(all.length/64))with h1 | h1
  .rw[A _ ae];refine h.bytes t z ?_;rw[M5 ae]at u;exact u
  .rw[E t h1 S];exact u
def newD_sure (n:Int):Sure (newD n):=by
 refine⟨⟨?_,?_,?_,?_,fun p hp=>by cases hp⟩,rfl,rfl⟩
 .show(List.replicate (64*sects n) (0:Int)).length=64*sects n;rw[Og]
 .show sects n<=16384;unfold sects;omega
 .exact MT (-1)
 .show(-1:Int)<=_;omega
def newD_holds (hm:0<=m/\m<=16384) (hn:3<=n) (hr:(frm:Int)+n<=m):Holds (newD m) frm n 0 [] (List.replicate 16 0):=by
 have hs:sects m=m.toNat:=by unfold sects;omega
 have a:(newD m).n=m.toNat:=hs;have hS:=newD_sure m;have b:∀ p:Nat,p<2->(newD m).sector ((frm:Int)+(p:Int))=List.replicate 64 0:=by
  intro p hp;unfold DM.sector;show((List.replicate (64*sects m) (0:Int)).drop _).take 64=_;rw[List.drop_replicate,List.take_replicate,hs]
  congr 1;omega
 have hz:bigI (List.replicate 8 0)=0:=by decide
 have c:∀ p:Nat,p<2->lreadR (newD m) frm (64*(n-2)) (p:Int)=(zeros18,0):=by
  intro p hp;have hi:(newD m).has ((frm:Int)+(p:Int))=true:=by unfold DM.has;rw[a];simp only[MI];omega
  rw[lread_sector hS hi,b p hp];split
  .rfl
  .rfl
 refine⟨hS,⟨hn,by rw[a];omega⟩,by show(0:Int)<=_;omega,rfl,?_,Or.inr ⟨rfl,?_⟩,fun t z h=>by cases h⟩
 .exact c 0 ae
 .have:=c 1 ae;have this:lreadR (newD m) frm (64*(n-2)) 1=(zeros18,0):=this;rw[this];rfl
def uN (e:(syncR D).1=0):(syncR D).2.loose=[]:=by
 unfold syncR at e ⊢;split at e
 .cases e
 .split at e
  .cases e
  .rename_i h1 h2;rw[MM h1,MM h2]
def uT {frm:Int} (e:(turnR D frm h).1=0):(turnR D frm h).2.loose=[]:=by
 unfold turnR at e ⊢;split at e
 .rename_i h1;exact absurd e h1
 .rename_i h1;rw[MM h1];exact uN e
def pT {n:Nat} (e:(becomeR D L all nt n).1=0):(becomeR D L all nt n).2.loose=[]:=by
 unfold becomeR at e ⊢;split at e
 .cases e
 .rename_i h1;rw[MM h1];split at e
  .cases e
  .rename_i h2;rw[MM h2];exact uT (by simpa using h2)
def pR (e:(appendR D L bs b nt).e=0):(appendR D L bs b nt).D.loose=[]:=by
 unfold appendR at e ⊢;split at e
 .cases e
 .rename_i h1;rw[MM h1];split at e
  .cases e
  .rename_i h2;rw[MM h2];split at e
   .cases e
   .rename_i c;rw[MM c];split at e
    .rename_i a;rw[M0 a];exact pT a
    .cases e
end Go.Proofs.YtbdikjnpbnobcaaGreatDoor.D
namespace Go.Proofs.YtbdikjnpbnobcaaGreatDoor
open Go Go.RowKit Go.Extern.Stop Go.Stop Go.Extern
def rQ (v:Value) (w:World):(Extern.ReflectliteType.typeOf #[.iface 297 v]).run Tryz.prog w=.ok (.iface 254 (.agg #[.pointer (some ⟨9,297,none⟩)])) w:=by kernel_rfl
def tv:Array Value->Sem Value:=Extern.ReflectliteType.method fun t=>do Extern.Rtype.noPackHeld "Comparable" t;pure (.bool (<-typeInfo t).comparable)
def jP (w:World):(tv #[.agg #[.pointer (some ⟨9,297,none⟩)]]).run Tryz.prog w=.ok (.bool true) w:=by kernel_rfl
def ft (v:Value) (w:World):(Go.method 430 254 v "Comparable").run Tryz.prog w=.ok (235,v) w:=by kernel_rfl
def jS (v:Value) (w:World):(Go.method 430 274 v "Unwrap").run Tryz.prog w=.ok (245,v) w:=by kernel_rfl
def zR:(Tryz.prog.info? 297).map (·.comparable)=some true:=by kernel_rfl
def zT:(Tryz.prog.info? 318).map (·.size)=some 1:=by kernel_rfl
def DN (v:Value) (a:TypeId) (w:World):(Instr.typeAssert (.iface 297 v) a 291 true).run Tryz.prog w=.ok (.tuple #[.nilIface,.bool false]) w:=run_typeAssert_lacksB Tryz.underlying291 (by kernel_rfl) (by kernel_rfl) v a w
def pn (v:Value) (a:TypeId) (w:World):(Instr.typeAssert (.iface 297 v) a 262 true).run Tryz.prog w=.ok (.tuple #[.nilIface,.bool false]) w:=run_typeAssert_lacksB Tryz.underlying262 (by kernel_rfl) (by kernel_rfl) v a w
def nz (v:Value) (a:TypeId) (w:World):(Instr.typeAssert (.iface 297 v) a 264 true).run Tryz.prog w=.ok (.tuple #[.nilIface,.bool false]) w:=run_typeAssert_lacksB Tryz.underlying264 (by kernel_rfl) (by kernel_rfl) v a w
def DO (v:Value) (a:TypeId) (w:World):(Instr.typeAssert (.iface 274 v) a 291 true).run Tryz.prog w=.ok (.tuple #[.nilIface,.bool false]) w:=run_typeAssert_lacksB Tryz.underlying291 (by kernel_rfl) (by kernel_rfl) v a w
def mZ (v:Value) (a:TypeId) (w:World):(Instr.typeAssert (.iface 274 v) a 262 true).run Tryz.prog w=.ok (.tuple #[.iface 274 v,.bool true]) w:=run_typeAssert_hasB Tryz.underlying262 (by kernel_rfl) v a w
def Fg (b:Addr) (w:World) :
 Calls Tryz.prog 184 #[.nilIface,.iface 297 (.pointer (some b))] w fun e w'=>e=.returned (.bool false)/\w'=w:=by
 have hn:=run_eql_iface_nil_left (P:=Tryz.prog) w 297 (.pointer (some b)) Tryz.underlying82
 go_enter Tryz.func184,Tryz.ntmps184
 go_wp2
 go_ret
 exact⟨rfl,rfl⟩
set_option maxRecDepth 20000 in
def qg (s:ByteArray) (b:Addr) (w:World) :
 Calls Tryz.prog 184 #[.iface 274 (.agg #[.string s,.iface 297 (.pointer (some b))]),.iface 297 (.pointer (some b))] w fun e w'=>e=.returned (.bool true)/\Below w.heap.size w w':=by
 obtain⟨i,hi,a⟩:=MN.1 zR;obtain⟨j,c,d⟩:=MN.1 zT;have h:=@run_callFunc_extern Tryz.prog 170 _ Extern.ReflectliteType.typeOf Tryz.func170 (by kernel_rfl) (by kernel_rfl) (by kernel_rfl) (by kernel_rfl);have f:=@run_callFunc_extern Tryz.prog 235 _ tv Tryz.func235 (by kernel_rfl) (by kernel_rfl) (by kernel_rfl) (by kernel_rfl);have k:=rQ;have l:=jP;have m:=ft;have n:=jS;have o:=DN;have p:=pn;have q:=nz;have r:=DO;have t:=mZ;have heq:=fun w=>run_eql_iface_ptr_same (P:=Tryz.prog) w b Tryz.underlying82 Tryz.underlying297 hi a c;have g:=run_eql_iface_types (P:=Tryz.prog) 274 297 (.agg #[.string s,.iface 297 (.pointer (some b))]) (.pointer (some b)) Tryz.underlying82 Sx.aj w
 go_enter Tryz.func184,Tryz.ntmps184
 go_wp2
 refine wp_loop_rounds 2 ?_;rw[rounds_succ]
 go_wp2
 rw[rounds_succ]
 go_wp2
 go_ret
 exact⟨rfl,(Below.refl _ _).alloc (M1 _) _⟩
set_option maxRecDepth 20000 in
def oJ (s:ByteArray) (b a:Addr) (k l:Array Value) (m n:TypeId) (w:World) (d:a≠b) (o:w.heap[a.block]?=some (.cells k m (0,0))) (hb:w.heap[b.block]?=some (.cells l n (0,0))) :
 Calls Tryz.prog 184 #[.iface 274 (.agg #[.string s,.iface 297 (.pointer (some a))]),.iface 297 (.pointer (some b))] w fun e w'=>e=.returned (.bool false)/\Below w.heap.size w w':=by
 obtain⟨i,hi,c⟩:=MN.1 zR;obtain⟨j,p,f⟩:=MN.1 zT;have t:=@run_callFunc_extern Tryz.prog 170 _ Extern.ReflectliteType.typeOf Tryz.func170 (by kernel_rfl) (by kernel_rfl) (by kernel_rfl) (by kernel_rfl);have q:=@run_callFunc_extern Tryz.prog 235 _ tv Tryz.func235 (by kernel_rfl) (by kernel_rfl) (by kernel_rfl) (by kernel_rfl);have u:=rQ;have v:=jP;have x:=ft;have y:=jS;have z:=DN;have A:=pn;have B:=nz;have C:=DO;have D:=mZ;have g:(w.alloc (.cells #[.string s,.iface 297 (.pointer (some a))] 274)).heap[a.block]?=some (.cells k m (0,0)):=(Below.heap_alloc _ _ _ (Ng.1 o).1).trans o;have h:(w.alloc (.cells #[.string s,.iface 297 (.pointer (some a))] 274)).heap[b.block]?=some (.cells l n (0,0)):=(Below.heap_alloc _ _ _ (Ng.1 hb).1).trans hb;have heq:=run_eql_iface_ptr_other (P:=Tryz.prog) _ Tryz.underlying82 Tryz.underlying297 hi c p (by rw[f];decide) d g h;have r:=run_eql_iface_types (P:=Tryz.prog) 274 297 (.agg #[.string s,.iface 297 (.pointer (some a))]) (.pointer (some b)) Tryz.underlying82 Sx.aj w
 go_enter Tryz.func184,Tryz.ntmps184
 go_wp2
 refine wp_loop_rounds 2 ?_;rw[rounds_succ]
 go_wp2
 rw[rounds_succ]
 go_wp2
 go_ret
 exact⟨rfl,(Below.refl _ _).alloc (M1 _) _⟩
end Go.Proofs.YtbdikjnpbnobcaaGreatDoor
namespace Go.Proofs.YtbdikjnpbnobcaaGreatDoor
open Go Go.Sx Go.Pk
variable {bad' lg':Bool}{C N g:E}{q:Env}{A B G R R1 R2:Hl}{c' l y' z:Int}{t7:List E}{Hs K Rs:List Hl}{b b2 bs' bs2:List Int}{v7:List Nat}{t:Mem}{k m n:Nat}{p u v:Value}
def xF (p:List Nat):Bool:=decide (p.length>1)&&!(p.head?==some 99)
def noLoops:Loops:=fun _=>none
def newHs_zero (q:Env) (n:Nat):newHs q n 0=[]:=rfl
def newHs_one (q:Env) (n:Nat):newHs q n 1=[q.h n]:=by unfold newHs;rw[List.range_one];rfl
def roots_ne {α:Type} {a:α} {l:List α} : (a::l≠[])=True:=by simp
def aY (a:Nat):Value.pointer (slP (a:Int) 0)=.pointer (some ⟨a,0,none⟩):=by rw[slP_pos ae];rfl
def ah (bs:List Int):Prop:=∀ b∈bs,0<=b/\b<256
def oa {x y:Int} {bs:List Int} (hl:l=bs.length) (hy:0<=y) (h:bs=[]\/0<=x/\∀ j z,bs[j]?=some z->R.cell x.toNat (y.toNat+j)=some (.int .u8 z)) :
 ((0<=x/\0<=y/\0<=l/\∀ j,j<l.toNat->∃ v,R.cell x.toNat (y.toNat+j)=some v/\v.oneCell'=true)\/l=0)/\segVals R x.toNat y.toNat l.toNat=bys bs:=by
 subst hl;rw[MD];constructor
 .rcases h with h | ⟨hx,h⟩
  .subst h;exact Or.inr rfl
  .exact Or.inl ⟨hx,hy,ae,fun j a=>⟨_,h j _ (ME a),rfl⟩⟩
 .unfold segVals;apply Ni;intro j;rw[MU,bys_get];rcases ND j bs.length with a | a
  .rcases h with h | ⟨hx,h⟩
   .subst h;cases a
   .rw[Nf a,Nl,h j _ (ME a),ME a];rfl
  .rw[MS (by simpa using a),MS ae];rfl
def Al (F:Hl) {a:Int} (h:0<=a) (b:F=Hl.one a.toNat (.cells #[] 5 (0,0))):OwnsH F 5 1 (.slice (slP a 0) (Int.toNat 0) (Int.toNat 0)) (Int.toNat 0) []:=by
 subst b;exact⟨rfl,Or.inr ⟨a.toNat,0,#[],by rw[slP_pos h];rfl,Hl.one_self _ _,ae,aj,rfl,rfl⟩⟩
def bK:Sx.Spec where
 fn:=82
 own:=[]
 rd:=[0]
 res:=[.one .sl]
 pre:=fun xs Hs Rs=>∃ u bs R,xs=[u]/\Rs=[R]/\RdW R u bs/\bs.length<=1000000
 post:=fun xs Hs Rs v Hs' F=>∃ u bs R,xs=[u]/\Rs=[R]/\RdW R u bs/\OwB F 5 v bs
def jF:Walk Tryz.prog [] bK.fn where
 Λ:=noLoops
 args:=[.sv (.one (.sl (.var 0) (.var 1) (.var 2) (.var 3)))]
 mem:=[.ro 4 [.var 0] false]
 nv:=5
def fi:bK.OK Tryz.prog:=by
 refine Spec.of_fn (Γ:=[]) (fun _ h=>by cases h) ?_;rintro xs Hs Rs m p ⟨u,bs,R,rfl,rfl,b,hlen⟩;have e0:Hs=[]:=MF.1 m;subst e0;obtain⟨x,y,c,rfl,hy,n⟩:=id b;refine⟨jF,envI [x,y,bs.length,c] false [Hl.none,Hl.none,Hl.none,Hl.none,R],fun _ _=>True,fun _ _=>0,?_,⟨?_,?_,?_,?_⟩,(fun _ h=>nomatch h),?_⟩
 .show [Value.slice (slP x y) ((bs.length:Int)).toNat ((c:Int)).toNat]=_;rw[MD,MD]
 .intro r hr ho;simp [jF]at hr;subst hr;cases ho
 .intro r hr ho;simp [jF]at hr;subst hr;exact⟨R,ar,Hl.le_refl _⟩
 .simp [jF]
 .intro r hr;simp [jF]at hr;subst hr;trivial
 .refine Walk.read [] [] [] ?_;generalize a:envI [x,y,bs.length,c] false [Hl.none,Hl.none,Hl.none,Hl.none,R]=J;have v0:J.i 0=x:=by rw[<-a];rfl
  have v1:J.i 1=y:=by rw[<-a];rfl
  have v2:J.i 2=bs.length:=by rw[<-a];rfl
  have q:J.h 4=R:=by rw[<-a];rfl
  clear a;simp only[go_sem,Nat.reduceAdd];refine⟨fun hx _=>?_,fun hx q1 d p5=>?_⟩
  .have e:bs=[]:=by
    rcases n with h | ⟨h,_⟩
    .exact h
    .omega
   refine⟨[],[],rfl,rfl,⟨(ay fun k=>if k=0 then -1 else 0),rfl,⟨MT _,MT _,MT _,MT _⟩,zzT⟩,_,bs,R,rfl,rfl,b,?_⟩;rw[e];exact⟨rfl,Or.inl ⟨rfl,rfl⟩⟩
  .obtain⟨hok,f⟩:=oa (R:=R) (x:=x) (y:=y) (l:=(bs.length:Int)) rfl hy n;have g:=Al (Hl.one (q1.i 5).toNat (.cells #[] 5 (0,0))) p5 rfl;rw[d.i 0,d.i 1,d.i 2,d.h 4,v0,v1,v2,q];refine⟨⟨⟨_,g⟩,MT _,by simpa using hok,by rw[MD];unfold maxLen;simp;omega,by rw[MD];simp;omega⟩,fun q2 o ⟨a1,a2,s,_⟩=>fun _=>?_⟩;have j:=s _ g;rw[f,N1]at j;refine⟨[],[1],rfl,rfl,⟨(ay fun k=>[q2.i 6,0,q2.i 2,q2.i 7].getD k 0),rfl,⟨a1,MT _,?_,a2⟩,zzT⟩,_,bs,R,rfl,rfl,b,?_⟩
   .show 0<=q2.i 2;rw[o.i 2,d.i 2,v2];omega
   .show OwB (hls [q2.h 6]) _ (.slice (slP (q2.i 6) 0) (q2.i 2).toNat (q2.i 7).toNat) bs;rw[hls_one,o.i 2,d.i 2,v2];unfold OwB;rw[MD];simpa using j
def aJ (bs:List Int):Nat×Nat:=(jf bs).getD (0,0)
def qV (R1 R2:Hl) (p:Value) (bs:List Int) (bad:Bool):Prop:=∃ (a:Nat) (x y:Int) (c:Nat),p=.pointer (some ⟨a,0,none⟩)/\R1.cell a 0=some (.slice (slP x y) bs.length c)/\R1.cell a 1=some (.bool bad)/\ -1<=x/\0<=y/\RdB R2 (.slice (slP x y) bs.length c) bs
def qV.uniq {a:List Int} {x y:Bool} (h:qV R1 R2 p a x) (h':qV R1 R2 p b y):a=b/\x=y:=by
 obtain⟨a1,x1,e,c1,e1,h1,h2,_,_,d⟩:=h;obtain⟨a2,f,g,c2,c,k1,k2,_,_,k3⟩:=h';rw[e1]at c;simp only[Value.pointer.injEq,MP,Addr.mk.injEq,MZ]at c;subst c;rw[h1]at k1;have k1:=Nx k1;rw[<-k1]at k3;rw[h2]at k2;simp only[MP,Value.bool.injEq]at k2;exact⟨d.uniq k3,k2⟩
def fJ:Sx.Spec where
 fn:=83
 own:=[]
 rd:=[0,1000]
 res:=[.one (.int .u64),.one (.int .i64)]
 pre:=fun xs Hs Rs=>∃ p R1 R2 bs bad,xs=[p]/\Rs=[R1,R2]/\qV R1 R2 p bs bad/\ah bs/\bs.length<=1000000
 post:=fun xs Hs Rs v Hs' F=>∃ p R1 R2 bs bad,xs=[p]/\Rs=[R1,R2]/\qV R1 R2 p bs bad/\v=.tuple #[.int .u64 (aJ bs).1,.int .i64 (aJ bs).2]
def jZ:Walk Tryz.prog [] fJ.fn where
 Λ:=fun p=>if xF p then some ⟨0,[(4,TI .u64 (.var 10)),(12,TI .i64 (.var 11))],[],12⟩else none
 args:=[TP (.var 0) (.lit 0)]
 mem:=[.ro 1 [.hP 2 (.var 0) (.lit 0) 0 0] false,.ro 2 [.var 0] false]
 nv:=3
def xJ (bs:List Int) (_:Nat) (q:Env):Prop:=∃ k y:Nat,q.i 11=k/\q.i 10=y/\k<=10/\y<128 ^ k/\jf bs=jg (bs.drop k) k y
def IT {x y:Int} (hx:-1<=x) (n c:Nat):valP (some (.slice (slP x y) n c)) 0=x:=by
 rcases NU x 0 with h | h
 .obtain rfl:x= -1:=ae;rfl
 .rw[slP_pos h];show((x.toNat:Nat):Int)=x;omega
def JD {x y:Int} (hx:0<=x) (hy:0<=y) (n c:Nat):valP (some (.slice (slP x y) n c)) 1=y:=by
 rw[slP_pos hx];show((y.toNat:Nat):Int)=y;omega
def Db {x y:Int} (hx:-1<=x) (n c:Nat):valP (some (.slice (slP x y) n c)) 2=n:=by
 rcases NU x 0 with h | h
 .obtain rfl:x= -1:=ae;rfl
 .rw[slP_pos h];rfl
def tS {bs:List Int} {y c:Nat} (a:bs[k]?=some (c:Int)):jg (bs.drop k) k y=if(k=9/\1<c)\/9<k then none else if c<128 then(if c=0/\0<k then none else some (y+c*128 ^ k,k+1))else jg (bs.drop (k+1)) (k+1) (y+(c%128)*128 ^ k):=by
 have hk:=(MK.1 a).1;have e:bs.drop k=(c:Int)::bs.drop (k+1):=by
  rw[O5 hk,(MK.1 a).2]
 rw[e];show(if(k=9/\1<(c:Int))\/9<k then none else if(c:Int)<128 then(if(c:Int)=0/\0<k then none else some (y+((c:Int)).toNat*128 ^ k,k+1))else jg (bs.drop (k+1)) (k+1) (y+(((c:Int)).toNat%128)*128 ^ k))=_;rw[MD];have h1:((1:Int)<(c:Int))↔1<c:=ae;have h2:((c:Int)<128)↔c<128:=ae;have b:((c:Int)=0)↔c=0:=ae;simp only[h1,h2,b]
def tV:fJ.OK Tryz.prog:=by
 refine Spec.of_fn (Γ:=[]) (fun _ h=>by cases h) ?_;rintro xs Hs Rs D L ⟨p,R1,R2,bs,bad,rfl,rfl,hIn,hby,hlen⟩;have e0:Hs=[]:=MF.1 D;subst e0;obtain⟨a,x,y,c,rfl,t,M,hx,hy,N⟩:=id hIn;refine⟨jZ,envI [(a:Int)] false [Hl.none,R2,R1],xJ bs,fun _ q=>((bs.length:Int)-q.i 11).toNat,?_,⟨?_,?_,?_,?_⟩,(fun _ h=>nomatch h),?_⟩
 .show [Value.pointer (slP (a:Int) 0)]=_;rw[aY]
 .intro r hr ho;simp [jZ]at hr;rcases hr with rfl | rfl<;>cases ho
 .intro r hr ho;simp [jZ]at hr;rcases hr with rfl | rfl
  .exact⟨R2,ar,Hl.le_refl _⟩
  .exact⟨R1,ar,Hl.le_refl _⟩
 .simp [jZ,Res.own]
 .intro r hr;simp [jZ]at hr;rcases hr with rfl | rfl<;>trivial
 .refine Walk.read [] [] [] ?_;generalize m:envI [(a:Int)] false [Hl.none,R2,R1]=J;have v0:J.i 0=a:=by rw[<-m];rfl
  have w1:J.h 1=R2:=by rw[<-m];rfl
  have w2:J.h 2=R1:=by rw[<-m];rfl
  clear m;have out:∀ (q:Env) (mem:Mem) (e1 n:E),iev q e1=(aJ bs).1->iev q n=(aJ bs).2->postOf fJ [.pointer (some ⟨a,0,none⟩)] [] [R1,R2] q mem (.tup [.one (.int .u64 e1),.one (.int .i64 n)]):=fun q mem e1 n h1 h2 _ =>
   ⟨[],[],rfl,rfl,⟨(ay fun k=>if k=0 then(aJ bs).1 else(aJ bs).2),by show Value.tuple #[.int .u64 (iev q e1),.int .i64 (iev q n)]=_;rw[h1,h2];rfl,zzT,zzT,zzT⟩,_,R1,R2,bs,bad,rfl,rfl,hIn,by show Value.tuple #[.int .u64 (iev q e1),.int .i64 (iev q n)]=_;rw[h1,h2]⟩
  have b:∀ (q:Env) (mem:Mem),jf bs=none->postOf fJ [.pointer (some ⟨a,0,none⟩)] [] [R1,R2] q mem (.tup [.one (.int .u64 (.lit 0)),.one (.int .i64 (.lit 0))]):=fun q mem h=>out q mem _ _ (by unfold aJ;rw[h];rfl) (by unfold aJ;rw[h];rfl);have B:Int.toNat 0=0:=rfl;simp only[go_sem,Nat.reduceAdd,B];rw[v0,w2,MD,t,Db hx];refine⟨ae,rfl,ae,⟨0,0,rfl,rfl,ae,aj,rfl⟩,fun q g ⟨k,y',u,F,hk,G,s⟩=>?_⟩;rw[g.i 0,v0,g.h 2,w2,g.h 1,w1,MD,t,Db hx,u];refine⟨fun O=>?_,fun P=>b q _ (by rw[s,Pd ae];rfl)⟩;obtain⟨z,hz⟩:∃ z,bs[k]?=some z:=⟨_,ME ae⟩;have Q:=hby z (MG hz);obtain⟨e,rfl⟩:∃ e:Nat,z=e:=⟨z.toNat,ae⟩;obtain⟨v,o⟩:0<=x/\∀ j z,bs[j]?=some z->R2.cell x.toNat (y.toNat+j)=some (.int .u8 z):=by
   obtain⟨x',y',c',he,H,h⟩:=N;simp only[Value.slice.injEq]at he;obtain⟨hp,_,_⟩:=he;rcases h with ⟨_,h⟩ | ⟨h0,h⟩
   .rw[h]at hz;simp at hz
   .obtain⟨e1,n⟩:=slP_inj hx hy ae H hp;have n:=n ae;subst e1 n;exact⟨h0,h⟩
  have f:R2.cell x.toNat (y+(k:Int)).toNat=some (.int .u8 e):=by
   rw[<-o k _ hz];congr 1;omega
  rw[IT hx,JD v hy,f];have d:=tS (y:=y') hz;rw[<-s]at d;have ev:valI (some (Value.int .u8 (e:Int)))=e:=rfl;rw[ev];have rest:∀ q':Env,q'=q->k<=9->(k=9->e<=1)->iev q' (.bits .or .u64 (.var 10) (.shl .u64 (.wrap .u64 (.bits .and .u8 (.hI 1 (.hP 2 (.var 0) (.lit 0) 0 0) (.add (.hP 2 (.var 0) (.lit 0) 0 1) (.var 11)) 0) (.lit 127))) (.wrap .i64 (.mul (.lit 7) (.var 11)))))=((y'+e%128*128 ^ k:Nat):Int):=by
   rintro q' rfl C w;have hn:=(Ij G C ae w).1;rw[iev_bits,iev_shl,iev_wrap,iev_wrap,iev_bits,iev_hI,iev_hP,iev_add,iev_hP,iev_mul];simp only[iev_var,iev_lit];rw[g.i 0,v0,g.h 2,w2,g.h 1,w1,MD,B,NH,t,IT hx,JD v hy,NH,u,f,F];exact hn
  have hw:0<=IntKind.i64.wrap (7*(k:Int)):=by rw[wrap_i64 ae ae];omega
  have A:IntKind.i64.wrap (q.i 11+1)=k+1:=by rw[u,wrap_i64 ae ae]
  have fin:∀ mem,jf bs=some (y'+e*128 ^ k,k+1)->e<128->k<=9->(k=9->e<=1)->postOf fJ [.pointer (some ⟨a,0,none⟩)] [] [R1,R2] q mem (.tup [.one (.int .u64 (.bits .or .u64 (.var 10) (.shl .u64 (.wrap .u64 (.bits .and .u8 (.hI 1 (.hP 2 (.var 0) (.lit 0) 0 0) (.add (.hP 2 (.var 0) (.lit 0) 0 1) (.var 11)) 0) (.lit 127))) (.wrap .i64 (.mul (.lit 7) (.var 11)))))),.one (.int .i64 (.wrap .i64 (.add (.var 11) (.lit 1))))]):=by
   intro mem hn l C w;refine out q mem _ _ ?_ ?_
   .rw[rest q rfl C w,ON l];unfold aJ;rw[hn];rfl
   .show IntKind.i64.wrap (q.i 11+1)=_;rw[A];unfold aJ;rw[hn];rfl
  refine⟨v,hy,ae,rfl,fun C=>⟨fun h1=>⟨hw,fun h0=>b q _ ?_,fun h0=>fin _ ?_ ae ae ae⟩,fun h1=>b q _ ?_⟩,fun C=>⟨fun I=>b q _ ?_,fun I=>⟨hw,fun l=>⟨fun h0=>⟨fun K=>b q _ ?_,fun K=>fin _ ?_ ae ae ae⟩,fun h0=>fin _ ?_ ae ae ae⟩,fun l=>⟨⟨k+1,y'+e%128*128 ^ k,?_,?_,ae,?_,?_⟩,?_⟩⟩⟩⟩
  .rw[d,MM ae,M0 ae,M0 ae]
  .rw[d,MM ae,M0 ae,MM ae]
  .rw[d,M0 ae]
  .rw[d,M0 ae]
  .rw[d,MM ae,M0 ae,M0 ae]
  .rw[d,MM ae,M0 ae,MM ae]
  .rw[d,MM ae,M0 ae,MM ae]
  .show IntKind.i64.wrap (q.i 11+1)=_;rw[A];omega
  .show iev q _=_;exact rest q rfl ae ae
  .rw[OX,OV (128 ^ k) 128];have:e%128*128 ^ k<=127*128 ^ k:=O1 _ ae;omega
  .rw[d,MM ae,MM ae]
  .show((bs.length:Int)-IntKind.i64.wrap (q.i 11+1)).toNat<_;rw[A];omega
def lE {F:Hl} {bs:List Int} {bad:Bool} (h:qV R1 R2 p bs bad) (hp:fJ.post [p] Hs [R1,R2] v K F):v=.tuple #[.int .u64 (aJ bs).1,.int .i64 (aJ bs).2]:=by
 obtain⟨b,S1,S2,bs',bad',hx,a,hIn,hv⟩:=hp;have hx:p=b:=by simpa using hx
 have a:R1=S1/\R2=S2:=by simpa using a
 obtain⟨e1,c⟩:=a;subst hx e1 c;rw[(h.uniq hIn).1];exact hv
def vC (a:Nat) (x y c:Int) (n:Nat) (bad:Bool):Hl:=Hl.one a (.cells #[.slice (slP x y) ((n:Int)).toNat c.toNat,.bool bad] 152 (0,0))
structure oC (H:Hl) (a:Nat) (x y c:Int) (F:Hl) (bs:List Int) (bad:Bool):Prop where
 rx:-1<=x
 ry:0<=y
 rc:(bs.length:Int)<=c
 byte:ah bs
 len:bs.length<=1000000
 rd:RdB F (.slice (slP x y) ((bs.length:Int)).toNat c.toNat) bs
 na:¬F.mem a
 hl:H=hls [vC a x y c bs.length bad,F]
def cV (H:Hl) (p:Value) (bs:List Int) (bad:Bool):Prop:=∃ a x y c F,p=.pointer (some ⟨a,0,none⟩)/\oC H a x y c F bs bad
def sF {F:Hl} (h:F.le G) {bs:List Int} (hr:RdB F v bs):RdB G v bs:=by
 obtain⟨x,y,c,e,hy,hr⟩:=hr;refine⟨x,y,c,e,hy,hr.imp id fun⟨h0,b⟩=>⟨h0,fun j z hz=>?_⟩⟩;have:=b j z hz;unfold Hl.cell at this ⊢;cases a:F x.toNat with
 | none=>rw[a]at this;cases this
 | some o=>rw[h _ _ a];rw[a]at this;exact this
section
variable {H F:Hl} {a:Nat} {x y c:Int} {bs:List Int} {bad:Bool}
def oC.le (h:oC H a x y c F bs bad):(vC a x y c bs.length bad).le H/\F.le H:=by
 have hd:(vC a x y c bs.length bad).dis F:=Hl.one_dis.2 h.na;rw[h.hl];show(vC a x y c bs.length bad).le ((vC a x y c bs.length bad).un (F.un Hl.none))/\F.le ((vC a x y c bs.length bad).un (F.un Hl.none));rw[Hl.un_none];exact⟨Hl.un_left _ _,Hl.un_right hd⟩
def oC.split (h:oC H a x y c F bs bad):qV (vC a x y c bs.length bad) F (.pointer (some ⟨a,0,none⟩)) bs bad:=by
 have b:=h.rd;rw[MD]at b;refine⟨a,x,y,c.toNat,rfl,?_,?_,h.rx,h.ry,b⟩
 .unfold vC Hl.cell;rw[Hl.one_self,MD];rfl
 .unfold vC Hl.cell;rw[Hl.one_self];rfl
def cV.whole (h:cV H p bs bad):qV H H p bs bad:=by
 obtain⟨a,x,y,c,F,rfl,h⟩:=h;obtain⟨b,d⟩:=h.le;obtain⟨a',x',y',c',e,h1,h2,f,g,i⟩:=h.split;simp only[Value.pointer.injEq,MP,Addr.mk.injEq,MZ]at e;subst e;have up:∀ j v,(vC a x y c bs.length bad).cell a j=some v->H.cell a j=some v:=by
  intro j v hv;have e:=b a _ (Hl.one_self _ _);unfold vC Hl.cell at hv;rw[Hl.one_self]at hv;unfold Hl.cell;rw[e];exact hv
 exact⟨a,x',y',c',rfl,up 0 _ h1,up 1 _ h2,f,g,sF d i⟩
def cV.uniq (h:cV H p bs bad) (h':cV H p bs' bad'):bs=bs'/\bad=bad':=h.whole.uniq h'.whole
end
def jN:Mem:=[.blk 0 [.sl (.var 1) (.var 2) (.var 3) (.var 4),.bool (.bvar 6)] 152,.hp 7 [] [.var 1] []]
def fY (a:Nat) (x y c:Int) (bs:List Int) (bad:Bool) (F:Hl) (z:Int):Env:=envI [(a:Int),x,y,bs.length,c,z] bad [Hl.none,Hl.none,Hl.none,Hl.none,Hl.none,Hl.none,Hl.none,F]
section
variable {H F:Hl} {a:Nat} {x y c:Int} {bs:List Int} {bad:Bool}
def ml (h:oC H a x y c F bs bad) (z:Int):Entry (fY a x y c bs bad F z) jN [H] []:=by
 obtain⟨b,d⟩:=h.le;have hb:(Res.blk 0 [.sl (.var 1) (.var 2) (.var 3) (.var 4),.bool (.bvar 6)] 152).hl (fY a x y c bs bad F z)=vC a x y c bs.length bad:=by
  show Hl.one ((a:Int)).toNat (.cells #[.slice (slP x y) ((bs.length:Int)).toNat c.toNat,.bool bad] 152 (0,0))=_;rw[MD];rfl
 refine⟨fun r hr ho=>⟨H,ar,?_⟩,fun r hr ho=>?_,?_,fun r hr=>?_⟩
 .simp only[jN,MQ,MV,Nt]at hr;rcases hr with rfl | rfl
  .rw[hb];exact b
  .exact d
 .simp only[jN,MQ,MV,Nt]at hr;rcases hr with rfl | rfl<;>cases ho
 .unfold jN;refine List.Pairwise.cons (fun r hr _ _=>?_) (List.Pairwise.cons (fun r hr=>by cases hr) List.Pairwise.nil);rw[MO]at hr;subst hr;rw[hb];exact Hl.one_dis.2 h.na
 .simp only[jN,MQ,MV,Nt]at hr;rcases hr with rfl | rfl
  .show(0:Int)<=(a:Int);omega
  .trivial
def ni (h:oC H a x y c F bs bad) (b:Agree 8 (fY a x y c bs bad F z) q) {Y:E} (hY:iev q Y=y') (hN:iev q N=bs'.length) (d:iev q C=c') (hg:bev q g=bad') (hy:0<=y') (e:(bs'.length:Int)<=c') (hb:ah bs') (hl:bs'.length<=bs.length) (hr:RdB F (.slice (slP x y') ((bs'.length:Int)).toNat c'.toNat) bs') :
 cV (uni q (.blk 0 [.sl (.var 1) Y N C,.bool g] 152::.hp 7 v7 t7 []::t) [0,1]) (.pointer (some ⟨a,0,none⟩)) bs' bad':=by
 have hlen:=h.len;refine⟨a,x,y',c',F,rfl,h.rx,hy,e,hb,ae,hr,h.na,?_⟩;show hls [Hl.one (q.i 0).toNat (.cells #[.slice (slP (q.i 1) (iev q Y)) (iev q N).toNat (iev q C).toNat,.bool (bev q g)] 152 (0,0)),q.h 7]=_;rw[hY,hN,d,hg,b.i 0,b.i 1,b.h 7];show hls [Hl.one ((a:Int)).toNat _,F]=_;rw[MD];rfl
def bJ (h:ah bs) (m:Nat):ah (bs.drop m):=fun b hb=>h b (Ps hb)
def iS (h:oC H a x y c F bs bad) (hm:m<=bs.length):RdB F (.slice (slP x (if c=m then y else y+m)) (((bs.drop m).length:Int)).toNat (c-m).toNat) (bs.drop m):=by
 obtain⟨_,hr⟩:=h.rd.at h.rx h.ry ae;have hy:=h.ry;refine⟨x,if c=m then y else y+m,(c-m).toNat,by rw[MD],by split<;>omega,?_⟩;rcases hr with ⟨h1,h2⟩ | ⟨h0,b⟩
 .left;exact⟨h1,by rw[h2];simp⟩
 .right;refine⟨h0,fun j z hz=>?_⟩;rw[Nm]at hz;have e:=(MK.1 hz).1;have d:=h.rc;rw[MM ae,show(y+(m:Int)).toNat+j=y.toNat+(m+j)by omega];exact b _ z hz
end
def fX (q:Env) (C M Y:E):iev q (.ite (.eq C M) Y (.add Y M))=if iev q C=iev q M then iev q Y else iev q Y+iev q M:=by
 simp only[iev_ite,bT_eq,iev_add]
def fZ (bs:List Int) (bad:Bool) (most:Int):Int×List Int×Bool:=if bad=true\/(aJ bs).2=0\/most<((aJ bs).1:Int)then(0,bs,true)else((aJ bs).1,bs.drop (aJ bs).2,false)
def fI (bs:List Int) (bad:Bool) (n:Int):List Int×List Int×Bool:=if bad=true\/n<0\/(bs.length:Int)<n then([],bs,true)else(bs.take n.toNat,bs.drop n.toNat,false)
def bW (bs:List Int) (bad:Bool) (most:Int):List Int×List Int×Bool :=
 if bad=true\/(aJ bs).2=0\/most<0\/min (min most 4096) ((bs.length:Int)-(aJ bs).2)<((aJ bs).1:Int)then([],bs,true)else((bs.drop (aJ bs).2).take (aJ bs).1,bs.drop ((aJ bs).2+(aJ bs).1),false)
def dZ (bs:List Int) (bad:Bool):Bool×List Int×Bool:=if bad=true\/bs=[]\/1<bs.getD 0 0 then(false,bs,true)else(decide (bs.getD 0 0=1),bs.drop 1,false)
def vU {bs:List Int} (hb:ah bs):(aJ bs).2<=bs.length/\(aJ bs).1<18446744073709551616:=by
 unfold aJ;cases h:jf bs with
 | none=>exact⟨NO _,aj⟩
 | some r =>
  obtain⟨x,m⟩:=r;obtain⟨_,h2,_,a⟩:=kI hb h;exact⟨h2,a⟩
def gH:Sx.Spec where
 fn:=31
 own:=[]
 rd:=[0]
 res:=[.one .ptr]
 pre:=fun xs Hs Rs=>∃ u bs R,xs=[u]/\Rs=[R]/\RdW R u bs/\ah bs/\bs.length<=1000000
 post:=fun xs Hs Rs v Hs' F=>∃ u bs R,xs=[u]/\Rs=[R]/\RdW R u bs/\cV F v bs false
def numS:Sx.Spec where
 fn:=32
 own:=[.arg 0]
 rd:=[]
 res:=[.one (.int .u64)]
 pre:=fun xs Hs Rs=>∃ p most H bs bad,xs=[p,.int .u64 most]/\Hs=[H]/\cV H p bs bad
 post:=fun xs Hs Rs v Hs' F=>∃ p most H bs bad H',xs=[p,.int .u64 most]/\Hs=[H]/\cV H p bs bad/\Hs'=[H']/\cV H' p (fZ bs bad most).2.1 (fZ bs bad most).2.2/\v=.int .u64 (fZ bs bad most).1
def tM:List Sx.Spec:=[fJ,bK]
def nj:∀ t∈tM,t.OK Tryz.prog:=ai tV <| ai fi <| aD
def Jp:fJ.res=[.one (.int .u64),.one (.int .i64)]:=rfl
def Jq:bK.res=[.one .sl]:=rfl
def HV:(cpRoots 0 [Cp.one .sl]≠[])=True:=by simp [cpRoots,Cp.roots,Ck.root]
def Fc:Walk Tryz.prog tM numS.fn where
 Λ:=noLoops
 args:=[TP (.var 0) (.lit 0),TI .u64 (.var 5)]
 mem:=jN
 nv:=8
def rO {a:Nat} {x y c:Int} {bad:Bool} (h0:q.i 0=a) (h1:q.i 1=x) (h2:q.i 2=y) (d:q.i 3=n) (e:q.i 4=c) (f:q.b 6=bad) :
 Hl.one (q.i 0).toNat (.cells #[.slice (slP (q.i 1) (q.i 2)) (q.i 3).toNat (q.i 4).toNat,.bool (bev q (.bvar 6))] 152 (0,0))=vC a x y c n bad:=by
 rw[bev_bvar,h0,h1,h2,d,e,f,MD];rfl
def mo:numS.OK Tryz.prog:=by
 refine Spec.of_fn (Γ:=tM) nj ?_;rintro xs Hs Rs A l ⟨p,most,H,bs,bad,rfl,rfl,a,x,y,c,F,rfl,h⟩;have e1:Rs=[]:=MF.1 l;subst e1;refine⟨Fc,fY a x y c bs bad F most,fun _ _=>True,fun _ _=>0,?_,ml h most,(fun _ h=>nomatch h),?_⟩
 .show [Value.pointer (slP (a:Int) 0),Value.int .u64 most]=_;rw[aY]
 .refine Walk.read [] [] [] ?_;generalize d:fY a x y c bs bad F most=J;have v0:J.i 0=a:=by rw[<-d];rfl
  have v1:J.i 1=x:=by rw[<-d];rfl
  have v2:J.i 2=y:=by rw[<-d];rfl
  have j:J.i 3=bs.length:=by rw[<-d];rfl
  have v4:J.i 4=c:=by rw[<-d];rfl
  have B:J.i 5=most:=by rw[<-d];rfl
  have b6:J.b 6=bad:=by rw[<-d];rfl
  have w7:J.h 7=F:=by rw[<-d];rfl
  obtain⟨n,D⟩:=vU h.byte;have G:=h.rx;have o:=h.ry;have s:=h.rc;have out:∀ (q:Env) (Y N C g e:E) (m:Nat) (t:Mem) (bad':Bool) (r:Int),Agree 8 J q->m<=bs.length->iev q Y=(if c=m then y else y+m)->iev q N=bs.length-m->iev q C=c-m->bev q g=bad'->iev q e=r->fZ bs bad most=(r,bs.drop m,bad') ->
   postOf numS [.pointer (some ⟨a,0,none⟩),.int .u64 most] [H] [] q (.blk 0 [.sl (.var 1) Y N C,.bool g] 152::.hp 7 [] [.var 1] []::t) (.sv (.one (.int .u64 e))):=by
   intro q Y N C g e m t bad' r f hm hY hN I hg he hs _;rw[<-d]at f;refine⟨[[0,1]],[],rfl,rfl,⟨(ay fun _=>r),by show Value.int .u64 (iev q e)=_;rw[he];rfl,zzT,zzT⟩,_,most,H,bs,bad,_,rfl,rfl,⟨a,x,y,c,F,rfl,h⟩,rfl,?_,by show Value.int .u64 (iev q e)=_;rw[hs,he]⟩;rw[hs];have hd:((bs.drop m).length:Int)=bs.length-m:=by rw[Nj];omega
   exact ni h f hY (by rw[hN,hd]) I hg (by split<;>omega) (by rw[hd];omega) (bJ h.byte m) (by rw[Nj];omega) (iS h hm)
  have same:∀ (q:Env) (t:Mem),Agree 8 J q->bad=true\/(aJ bs).2=0\/most<((aJ bs).1:Int)->postOf numS [.pointer (some ⟨a,0,none⟩),.int .u64 most] [H] [] q (.blk 0 [.sl (.var 1) (.var 2) (.var 3) (.var 4),.bool .tt] 152::.hp 7 [] [.var 1] []::t) (.sv (.one (.int .u64 (.lit 0)))):=by
   intro q t f hf;refine out q _ _ _ _ _ 0 t true 0 f (NO _) ?_ ?_ ?_ rfl rfl ?_
   .show q.i 2=_;rw[f.i 2,v2];split<;>omega
   .show q.i 3=_;rw[f.i 3,j];omega
   .show q.i 4=_;rw[f.i 4,v4];omega
   .unfold fZ;rw[M0 hf];rfl
  simp only[go_sem,Nat.reduceAdd,tM,Jp,Jq,HV];rw[rO v0 v1 v2 j v4 b6,v0,aY,w7];refine⟨⟨_,_,_,bs,bad,rfl,rfl,h.split,h.byte,h.len⟩,fun q g ⟨K,hp,_,_⟩=>?_⟩;have hv:=lE h.split hp;have hv:q.i 8=(aJ bs).1/\q.i 9=(aJ bs).2:=by simpa using hv
  obtain⟨z,k⟩:=hv;rw[g.b 6,b6,k,g.i 5,B,z,g.i 1,v1,g.i 2,v2,g.i 3,j,g.i 4,v4];refine⟨fun hb=>⟨fun hz=>⟨fun u=>same q _ g (Or.inr (Or.inr u)),fun v=>⟨ae,o,ae,ae,s,?_⟩⟩,fun hz=>same q _ g (Or.inr (Or.inl ae))⟩,fun hb=>same q _ g (Or.inl hb)⟩;refine out q _ _ _ _ _ (aJ bs).2 _ false (aJ bs).1 g n ?_ ?_ ?_ ?_ z ?_
  .rw[fX,iev_var,iev_var,iev_var,k,g.i 4,v4,g.i 2,v2]
  .show q.i 3-q.i 9=_;rw[k,g.i 3,j]
  .show q.i 4-q.i 9=_;rw[k,g.i 4,v4]
  .show q.b 6=_;rw[g.b 6,b6];exact N4.2 hb
  .unfold fZ;have w:¬(bad=true\/(aJ bs).2=0\/most<((aJ bs).1:Int)):=by
    rintro(e | e | e)
    .exact hb e
    .exact hz ae
    .exact v e
   rw[MM w]
def nP:Walk Tryz.prog tM gH.fn where
 Λ:=noLoops
 args:=[.sv (.one (.sl (.var 0) (.var 1) (.var 2) (.var 3)))]
 mem:=[.ro 4 [.var 0] false]
 nv:=5
def gE {bs:List Int} {F:Hl} (h:RdW R u bs) (hp:bK.post [u] Hs [R] v K F):OwB F 5 v bs:=by
 obtain⟨b,bs',R',hx,a,hB,c⟩:=hp;have hx:u=b:=by simpa using hx
 have a:R=R':=by simpa using a
 subst hx a;rw[h.uniq hB];exact c
def vV {F:Hl} {e:TypeId} {x y c:Int} {bs:List Int} (h:OwB F e (.slice (slP x y) l.toNat c.toNat) bs) (hl:0<=l) (a:0<=c):l<=c:=by
 obtain⟨_,h⟩:=h;rcases h with ⟨h,_⟩ | ⟨g,cap,cur,h,_,hle,_⟩
 .simp only[Value.slice.injEq]at h;omega
 .simp only[Value.slice.injEq]at h;omega
def gl:gH.OK Tryz.prog:=by
 refine Spec.of_fn (Γ:=tM) nj ?_;rintro xs Hs Rs l o ⟨u,bs,R,rfl,rfl,b,hby,hlen⟩;have e0:Hs=[]:=MF.1 l;subst e0;obtain⟨x,y,c,rfl,hy,v⟩:=id b;refine⟨nP,envI [x,y,bs.length,c] false [Hl.none,Hl.none,Hl.none,Hl.none,R],fun _ _=>True,fun _ _=>0,?_,⟨?_,?_,?_,?_⟩,(fun _ h=>nomatch h),?_⟩
 .show [Value.slice (slP x y) ((bs.length:Int)).toNat ((c:Int)).toNat]=_;rw[MD,MD]
 .intro r hr ho;simp [nP]at hr;subst hr;cases ho
 .intro r hr ho;simp [nP]at hr;subst hr;exact⟨R,ar,Hl.le_refl _⟩
 .simp [nP]
 .intro r hr;simp [nP]at hr;subst hr;trivial
 .refine Walk.read [] [] [] ?_;generalize a:envI [x,y,bs.length,c] false [Hl.none,Hl.none,Hl.none,Hl.none,R]=J;have v0:J.i 0=x:=by rw[<-a];rfl
  have v1:J.i 1=y:=by rw[<-a];rfl
  have v2:J.i 2=bs.length:=by rw[<-a];rfl
  have p:J.i 3=c:=by rw[<-a];rfl
  have q:J.h 4=R:=by rw[<-a];rfl
  clear a;simp only[go_sem,Nat.reduceAdd,tM,Jp,Jq,HV];rw[v0,v1,v2,p,q,MD,MD];refine⟨⟨_,bs,R,rfl,rfl,b,hlen⟩,fun q1 w ⟨z,hp,s,⟨⟨j,n6,n7,m⟩,_⟩⟩ q2 g t hd=>?_⟩;have n:=gE b hp;rw[<-s zzT]at n;have j:-1<=q1.i 5:=j;have n6:0<=q1.i 6:=n6;have n7:0<=q1.i 7:=n7;have m:0<=q1.i 8:=m;have e:=vV n n7 m;have f:=n.rd;have hl:=(f.at j n6 n7).1;rw[hl]at f e;have d:=hd 2 1 _ _ aj rfl rfl rfl;have d:(Hl.one (q2.i 9).toNat _).dis (q2.h 5):=d;rw[g.h 5]at d;refine⟨[],[2,1],rfl,rfl,⟨(ay fun k=>if k=0 then q2.i 9 else 0),rfl,⟨by show -1<=q2.i 9;omega,MT _⟩,zzT⟩,_,bs,R,rfl,rfl,b,(q2.i 9).toNat,q1.i 5,q1.i 6,q1.i 8,q1.h 5,?_,⟨j,n6,e,hby,hlen,f,Hl.one_dis.1 d,?_⟩⟩
  .show Value.pointer (slP (q2.i 9) 0)=_;rw[slP_pos t];rfl
  .show hls [Hl.one (q2.i 9).toNat (.cells #[.slice (slP (q2.i 5) (q2.i 6)) (q2.i 7).toNat (q2.i 8).toNat,.bool false] 152 (0,0)),q2.h 5]=_;rw[g.i 5,g.i 6,g.i 7,g.i 8,g.h 5,hl];rfl
def wq {H F:Hl} {a:Nat} {x y c:Int} {bs:List Int} {bad:Bool} (h:oC H a x y c F bs bad) (hm:m+k<=bs.length) (c':Nat):RdW F (.slice (slP x (if c=m then y else y+m)) k c') ((bs.drop m).take k):=by
 obtain⟨x',y',c2,he,b,hr⟩:=(iS h (m:=m) ae).w;simp only[Value.slice.injEq]at he;refine⟨x',y',c',?_,b,?_⟩
 .rw[he.1,M3,Nj,Py ae]
 .rcases hr with h0 | ⟨h0,d⟩
  .left;rw[h0];simp
  .right;refine⟨h0,fun j z hz=>d j z ?_⟩;rw[NB]at hz;split at hz
   .exact hz
   .cases hz
def oL:Sx.Spec where
 fn:=88
 own:=[.arg 0]
 rd:=[]
 res:=[.one .sl]
 pre:=fun xs Hs Rs=>∃ p n H bs bad,xs=[p,.int .i64 n]/\Hs=[H]/\cV H p bs bad
 post:=fun xs Hs Rs v Hs' F=>∃ p n H bs bad H',xs=[p,.int .i64 n]/\Hs=[H]/\cV H p bs bad/\Hs'=[H']/\cV H' p (fI bs bad n).2.1 (fI bs bad n).2.2/\OwB F 5 v (fI bs bad n).1
def K8:Walk Tryz.prog tM oL.fn where
 Λ:=noLoops
 args:=[TP (.var 0) (.lit 0),TI .i64 (.var 5)]
 mem:=jN
 nv:=8
def iq (F:Hl) (e:TypeId):OwB F e (.slice none 0 0) []:=⟨rfl,Or.inl ⟨rfl,rfl⟩⟩
def qz:oL.OK Tryz.prog:=by
 refine Spec.of_fn (Γ:=tM) nj ?_;rintro xs Hs Rs B l ⟨p,n,H,bs,bad,rfl,rfl,a,x,y,c,F,rfl,h⟩;have e1:Rs=[]:=MF.1 l;subst e1;refine⟨K8,fY a x y c bs bad F n,fun _ _=>True,fun _ _=>0,?_,ml h n,(fun _ h=>nomatch h),?_⟩
 .show [Value.pointer (slP (a:Int) 0),Value.int .i64 n]=_;rw[aY]
 .refine Walk.read [] [] [] ?_;generalize d:fY a x y c bs bad F n=J;have v1:J.i 1=x:=by rw[<-d];rfl
  have v2:J.i 2=y:=by rw[<-d];rfl
  have o:J.i 3=bs.length:=by rw[<-d];rfl
  have v4:J.i 4=c:=by rw[<-d];rfl
  have z:J.i 5=n:=by rw[<-d];rfl
  have b6:J.b 6=bad:=by rw[<-d];rfl
  have w7:J.h 7=F:=by rw[<-d];rfl
  have r:=h.rx;have f:=h.ry;have j:=h.rc;have fail:∀ (t:Mem),bad=true\/n<0\/(bs.length:Int)<n->postOf oL [.pointer (some ⟨a,0,none⟩),.int .i64 n] [H] [] J (.blk 0 [.sl (.var 1) (.var 2) (.var 3) (.var 4),.bool .tt] 152::.hp 7 [] [.var 1] []::t) (.sv (.one (.sl (.lit (-1)) (.lit 0) (.lit 0) (.lit 0)))):=by
   intro t hf _;have C:Agree 8 (fY a x y c bs bad F n) J:=by rw[d];exact Agree.refl _ _
   have hs:fI bs bad n=([],bs,true):=by unfold fI;rw[M0 hf]
   refine⟨[[0,1]],[],rfl,rfl,⟨(ay fun k=>if k=0 then -1 else 0),rfl,⟨MT _,MT _,MT _,MT _⟩,zzT⟩,_,n,H,bs,bad,_,rfl,rfl,⟨a,x,y,c,F,rfl,h⟩,rfl,?_,?_⟩
   .rw[hs];exact ni h C (show iev J (.var 2)=y from v2) (show iev J (.var 3)=_ from o) (show iev J (.var 4)=c from v4) rfl f j h.byte (M1 _) h.rd
   .rw[hs];exact iq _ _
  simp only[go_sem,Nat.reduceAdd,tM,Jp,Jq,HV];rw[b6,v1,v2,o,v4,z,w7];refine⟨fun hb=>⟨fun hn=>⟨ae,fun s=>fail _ (Or.inr (Or.inr s)),fun u=>⟨r,f,ae,?_⟩⟩,fun hn=>fail _ (Or.inr (Or.inl hn))⟩,fun hb=>fail _ (Or.inl hb)⟩;have v:=wq h (m:=0) (k:=n.toNat) ae c.toNat;rw[Qb,show(if c=((0:Nat):Int)then y else y+((0:Nat):Int))=y by split<;>omega]at v;refine⟨⟨_,_,F,rfl,rfl,v,by rw[M3];have:=h.len;omega⟩,fun q g ⟨E,hp,D,w⟩=>?_⟩;have A:=gE v hp;rw[<-D zzT]at A;rw[g.i 5,g.i 3,g.i 4,o,v4,z];refine⟨ae,j,fun _=>?_⟩;have hs:fI bs bad n=(bs.take n.toNat,bs.drop n.toNat,false):=by
   unfold fI;have:¬(bad=true\/n<0\/(bs.length:Int)<n):=by
    rintro(e | e | e)
    .exact hb e
    .exact hn e
    .exact u e
   rw[MM this]
  rw[<-d]at g;refine⟨[[0,1]],[2],rfl,rfl,⟨(ay fun k=>q.i (8+k)),rfl,w.1,zzT⟩,_,n,H,bs,bad,_,rfl,rfl,⟨a,x,y,c,F,rfl,h⟩,rfl,?_,?_⟩
  .rw[hs];have hd:((bs.drop n.toNat).length:Int)=bs.length-n:=by rw[Nj];omega
   have hr:=iS h (m:=n.toNat) ae;rw[show((n.toNat:Nat):Int)=n by omega]at hr;refine ni h g ?_ ?_ ?_ ?_ (y':=if c=n then y else y+n) (by split<;>omega) (c':=c-n) (by rw[hd];omega) (bJ h.byte _) (by rw[Nj];omega) hr
   .rw[fX,iev_var,iev_var,iev_var,g.i 4,g.i 5,g.i 2];rfl
   .show q.i 3-q.i 5=_;rw[hd,g.i 3,g.i 5];rfl
   .show q.i 4-q.i 5=_;rw[g.i 4,g.i 5];rfl
   .show q.b 6=_;rw[g.b 6];exact N4.2 hb
  .rw[hs];show OwB (hls [q.h 8]) _ _ _;rw[hls_one];exact A
def jk:Sx.Spec where
 fn:=86
 own:=[.arg 0]
 rd:=[]
 res:=[.one .sl]
 pre:=fun xs Hs Rs=>∃ p most H bs bad,xs=[p,.int .i64 most]/\Hs=[H]/\cV H p bs bad/\most<=1000000
 post:=fun xs Hs Rs v Hs' F=>∃ p most H bs bad H',xs=[p,.int .i64 most]/\Hs=[H]/\cV H p bs bad/\Hs'=[H']/\cV H' p (bW bs bad most).2.1 (bW bs bad most).2.2/\OwB F 5 v (bW bs bad most).1
def IV:Walk Tryz.prog tM jk.fn where
 Λ:=noLoops
 args:=[TP (.var 0) (.lit 0),TI .i64 (.var 5)]
 mem:=jN
 nv:=8
def Ch {a b:Int} : (if a<b then a else b)=min a b:=by split<;>omega
def oq:jk.OK Tryz.prog:=by
 refine Spec.of_fn (Γ:=tM) nj ?_;rintro xs Hs Rs aa M ⟨p,most,H,bs,bad,rfl,rfl,⟨a,x,y,c,F,rfl,h⟩,N⟩;have e1:Rs=[]:=MF.1 M;subst e1;refine⟨IV,fY a x y c bs bad F most,fun _ _=>True,fun _ _=>0,?_,ml h most,(fun _ h=>nomatch h),?_⟩
 .show [Value.pointer (slP (a:Int) 0),Value.int .i64 most]=_;rw[aY]
 .refine Walk.read [] [] [] ?_;generalize d:fY a x y c bs bad F most=J;have v0:J.i 0=a:=by rw[<-d];rfl
  have v1:J.i 1=x:=by rw[<-d];rfl
  have v2:J.i 2=y:=by rw[<-d];rfl
  have s:J.i 3=bs.length:=by rw[<-d];rfl
  have v4:J.i 4=c:=by rw[<-d];rfl
  have v5:J.i 5=most:=by rw[<-d];rfl
  have b6:J.b 6=bad:=by rw[<-d];rfl
  have w7:J.h 7=F:=by rw[<-d];rfl
  obtain⟨ab,ad⟩:=vU h.byte;have v:=h.rx;have w:=h.ry;have z:=h.rc;have hlen:=h.len;have fail:∀ (q:Env) (t:Mem),Agree 8 J q->bad=true\/(aJ bs).2=0\/most<0\/min (min most 4096) ((bs.length:Int)-(aJ bs).2)<((aJ bs).1:Int)->postOf jk [.pointer (some ⟨a,0,none⟩),.int .i64 most] [H] [] q (.blk 0 [.sl (.var 1) (.var 2) (.var 3) (.var 4),.bool .tt] 152::.hp 7 [] [.var 1] []::t) (.sv (.one (.sl (.lit (-1)) (.lit 0) (.lit 0) (.lit 0)))):=by
   intro q t A hf _;have hs:bW bs bad most=([],bs,true):=by unfold bW;rw[M0 hf]
   refine⟨[[0,1]],[],rfl,rfl,⟨(ay fun k=>if k=0 then -1 else 0),rfl,⟨MT _,MT _,MT _,MT _⟩,zzT⟩,_,most,H,bs,bad,_,rfl,rfl,⟨a,x,y,c,F,rfl,h⟩,rfl,?_,?_⟩
   .rw[hs];have k2:iev q (.var 2)=y:=by rw[iev_var,A.i 2,v2]
    have k3:iev q (.var 3)=bs.length:=by rw[iev_var,A.i 3,s]
    have k4:iev q (.var 4)=c:=by rw[iev_var,A.i 4,v4]
    rw[<-d]at A;exact ni h A k2 k3 k4 rfl w z h.byte (M1 _) h.rd
   .rw[hs];exact iq _ _
  simp only[go_sem,Nat.reduceAdd,tM,Jp,Jq,HV];rw[rO v0 v1 v2 s v4 b6,v0,aY,w7];refine⟨⟨_,_,_,bs,bad,rfl,rfl,h.split,h.byte,h.len⟩,fun q g ⟨F1,hp,_,_⟩=>?_⟩;have hv:=lE h.split hp;have hv:q.i 8=(aJ bs).1/\q.i 9=(aJ bs).2:=by simpa using hv
  obtain⟨O,r⟩:=hv;generalize hm:(aJ bs).2=m at *;generalize hk:(aJ bs).1=k at *;have j1:q.i 1=x:=by rw[g.i 1,v1]
  have P:q.i 2=y:=by rw[g.i 2,v2]
  have j3:q.i 3=bs.length:=by rw[g.i 3,s]
  have Q:q.i 4=c:=by rw[g.i 4,v4]
  have j5:q.i 5=most:=by rw[g.i 5,v5]
  rw[g.b 6,b6,r,O,j1,P,j3,Q,j5];rw[wrap_i64 (n:=(bs.length:Int)-(m:Int)) ae ae];simp only[Ch];have B:min ((bs.length:Int)-(m:Int)) (min 4096 most)=min (min most 4096) ((bs.length:Int)-(m:Int)):=ae;rw[B];refine⟨fun hb=>⟨fun hz=>⟨fun C=>⟨ae,fun D=>?_,fun E=>?_⟩,fun C=>fail q _ g (Or.inr (Or.inr (Or.inl C)))⟩,fun hz=>fail q _ g (Or.inr (Or.inl ae))⟩,fun hb=>fail q _ g (Or.inl hb)⟩
  .rw[iG ae ae]at D;exact fail q _ g (Or.inr (Or.inr (Or.inr D)))
  .rw[iG ae ae]at E;have j:IntKind.i64.wrap (k:Int)=k:=wrap_i64 ae ae;have hY:iev q (.ite (.eq (.var 4) (.var 9)) (.var 2) (.add (.var 2) (.var 9)))=if c=(m:Int)then y else y+m:=by
    rw[fX,iev_var,iev_var,iev_var,Q,P,r]
   have S:∀ q',Agree 10 q q'->iev q' (.ite (.eq (.var 4) (.var 9)) (.var 2) (.add (.var 2) (.var 9)))=if c=(m:Int)then y else y+m:=by
    intro q' T;rw[fX,iev_var,iev_var,iev_var,T.i 4,T.i 2,T.i 9,Q,P,r]
   rw[j];refine⟨v,w,ae,ae,z,fun _=>⟨ae,fun G=>absurd G ae,fun _=>?_⟩,fun I=>absurd I ae⟩;have hs:bW bs bad most=((bs.drop m).take k,bs.drop (m+k),false):=by
    unfold bW;rw[hm,hk];have:¬(bad=true\/m=0\/most<0\/min (min most 4096) ((bs.length:Int)-(m:Int))<(k:Int)):=by
     rintro(e | e | e | e)
     .exact hb e
     .exact hz ae
     .omega
     .exact E e
    rw[MM this]
   have U:m+k<=bs.length:=ae;have Z:=wq h (m:=m) (k:=k) U (c-m).toNat;have V:=iS h (m:=m) ae;have af:((bs.drop m).length:Int)=bs.length-m:=by rw[Nj];omega
   have K:0<=(if c=(m:Int)then y else y+m):=by split<;>omega
   have h2:oC (hls [vC a x (if c=(m:Int)then y else y+m) (c-m) (bs.drop m).length false,F]) a x (if c=(m:Int)then y else y+m) (c-m) F (bs.drop m) false :=
    ⟨v,K,ae,bJ h.byte m,by rw[Nj];omega,V,h.na,rfl⟩
   have L:=iS h2 (m:=k) (by rw[Nj];omega);rw[OO]at L;rw[g.h 7,w7];refine⟨K,ae,⟨_,_,F,rfl,rfl,(by rw[MD];exact Z),by rw[M3,Nj];omega⟩,fun q2 l ⟨F2,W,X,Y⟩=>?_⟩;have hO:=gE (R:=F) (u:=.slice (slP x (if c=(m:Int)then y else y+m)) ((k:Int)).toNat (c-m).toNat) (by rw[MD];exact Z) W;rw[<-X zzT]at hO;have o:Agree 8 J q2:=g.tr l;rw[l.i 8,l.i 9,o.i 3,o.i 4,O,r,s,v4,j];refine⟨ae,ae,fun _=>?_⟩;have eC:iev q2 (.sub (.var 4) (.var 9))=c-m:=by
    show q2.i 4-q2.i 9=_;rw[o.i 4,l.i 9,v4,r]
   have eN:iev q2 (.sub (.var 3) (.var 9))=bs.length-m:=by
    show q2.i 3-q2.i 9=_;rw[o.i 3,l.i 9,s,r]
   have eK:iev q2 (.wrap .i64 (.var 8))=k:=by
    show IntKind.i64.wrap (q2.i 8)=_;rw[l.i 8,O,j]
   have f:((bs.drop (m+k)).length:Int)=bs.length-m-k:=by rw[Nj];omega
   have g6:bev q2 (.bvar 6)=false:=by rw[bev_bvar,o.b 6,b6];exact N4.2 hb
   rw[<-d]at o;refine⟨[[0,1]],[2],rfl,rfl,⟨(ay fun k=>q2.i (10+k)),rfl,Y.1,zzT⟩,_,most,H,bs,bad,_,rfl,rfl,⟨a,x,y,c,F,rfl,h⟩,rfl,?_,?_⟩
   .rw[hs];refine ni h o ?_ ?_ ?_ g6 (y':=if c-(m:Int)=k then(if c=(m:Int)then y else y+m)else(if c=(m:Int)then y else y+m)+k) (by split<;>omega) (c':=c-m-k) (by rw[f];omega) (bJ h.byte _) (by rw[Nj];omega) L
    .rw[fX,eC,eK,S q2 l]
    .rw[iev_sub,eN,eK,f]
    .rw[iev_sub,eC,eK]
   .rw[hs];show OwB (hls [q2.h 10]) _ _ _;rw[hls_one];exact hO
def jd:Sx.Spec where
 fn:=87
 own:=[.arg 0]
 rd:=[]
 res:=[.one .bool]
 pre:=fun xs Hs Rs=>∃ p H bs bad,xs=[p]/\Hs=[H]/\cV H p bs bad
 post:=fun xs Hs Rs v Hs' F=>∃ p H bs bad H',xs=[p]/\Hs=[H]/\cV H p bs bad/\Hs'=[H']/\cV H' p (dZ bs bad).2.1 (dZ bs bad).2.2/\v=.bool (dZ bs bad).1
def HF:Walk Tryz.prog tM jd.fn where
 Λ:=noLoops
 args:=[TP (.var 0) (.lit 0)]
 mem:=jN
 nv:=8
def mX:jd.OK Tryz.prog:=by
 refine Spec.of_fn (Γ:=tM) nj ?_;rintro xs Hs Rs C q ⟨p,H,bs,bad,rfl,rfl,a,x,y,c,F,rfl,h⟩;have e1:Rs=[]:=MF.1 q;subst e1;refine⟨HF,fY a x y c bs bad F 0,fun _ _=>True,fun _ _=>0,?_,ml h 0,(fun _ h=>nomatch h),?_⟩
 .show [Value.pointer (slP (a:Int) 0)]=_;rw[aY]
 .refine Walk.read [] [] [] ?_;generalize d:fY a x y c bs bad F 0=J;have v1:J.i 1=x:=by rw[<-d];rfl
  have v2:J.i 2=y:=by rw[<-d];rfl
  have r:J.i 3=bs.length:=by rw[<-d];rfl
  have v4:J.i 4=c:=by rw[<-d];rfl
  have b6:J.b 6=bad:=by rw[<-d];rfl
  have w7:J.h 7=F:=by rw[<-d];rfl
  have s:=h.rx;have g:=h.ry;have k:=h.rc;have B:Agree 8 (fY a x y c bs bad F 0) J:=by rw[d];exact Agree.refl _ _
  have fail:∀ (t:Mem),bad=true\/bs=[]\/1<bs.getD 0 0->postOf jd [.pointer (some ⟨a,0,none⟩)] [H] [] J (.blk 0 [.sl (.var 1) (.var 2) (.var 3) (.var 4),.bool .tt] 152::.hp 7 [] [.var 1] []::t) (.sv (.one (.bool .ff))):=by
   intro t hf _;have hs:dZ bs bad=(false,bs,true):=by unfold dZ;rw[M0 hf]
   refine⟨[[0,1]],[],rfl,rfl,⟨(ay fun _=>0),rfl,zzT,zzT⟩,_,H,bs,bad,_,rfl,rfl,⟨a,x,y,c,F,rfl,h⟩,rfl,?_,by rw[hs];rfl⟩;rw[hs];exact ni h B (show iev J (.var 2)=y from v2) (show iev J (.var 3)=_ from r) (show iev J (.var 4)=c from v4) rfl g k h.byte (M1 _) h.rd
  simp only[go_sem,Nat.reduceAdd];rw[b6,v1,v2,r,v4,w7];refine⟨fun hb=>⟨ae,fun u=>?_,fun u=>fail _ (Or.inr (Or.inl (MF.1 ae)))⟩,fun hb=>fail _ (Or.inl hb)⟩;obtain⟨z,hz⟩:∃ z,bs[0]?=some z:=⟨_,ME ae⟩;obtain⟨v,D⟩:0<=x/\∀ j z,bs[j]?=some z->F.cell x.toNat (y.toNat+j)=some (.int .u8 z):=by
   rcases(h.rd.at s g ae).2 with ⟨_,e⟩ | e
   .rw[e]at hz;simp at hz
   .exact e
  have f:=D 0 z hz;rw[NH]at f;have l:bs.getD 0 0=z:=by rw[MR,hz];rfl
  rw[f];have E:valI (some (Value.int .u8 z))=z:=rfl;rw[E];refine⟨v,g,ae,rfl,fun w=>fail _ (Or.inr (Or.inr (by rw[l];exact w))),fun hle=>⟨k,fun _=>?_⟩⟩;have hs:dZ bs bad=(decide (z=1),bs.drop 1,false):=by
   unfold dZ;rw[l];have:¬(bad=true\/bs=[]\/1<z):=by
    rintro(e | e | e)
    .exact hb e
    .rw[e]at hz;simp at hz
    .exact hle e
   rw[MM this]
  have n:bev J (.eq (.hI 7 (.var 1) (.var 2) 0) (.lit 1))=decide (z=1):=by
   rw[bev_eq,iev_hI,iev_var,iev_var,iev_lit,v1,v2,w7,NH,f];rfl
  have A:=iS h (m:=1) ae;have o:((bs.drop 1).length:Int)=bs.length-1:=by rw[Nj];omega
  refine⟨[[0,1]],[],rfl,rfl,⟨⟨fun _=>0,fun _=>decide (z=1),fun _=>.empty,fun _=>.tuple #[],fun _=>Hl.none⟩,by show Value.bool (bev J _)=_;rw[n];rfl,zzT,zzT⟩,_,H,bs,bad,_,rfl,rfl,⟨a,x,y,c,F,rfl,h⟩,rfl,?_,by show Value.bool (bev J _)=_;rw[n,hs]⟩;rw[hs];refine ni h B ?_ ?_ ?_ (by rw[bev_bvar,b6];exact N4.2 hb) (y':=if c=((1:Nat):Int)then y else y+((1:Nat):Int)) (by split<;>omega) (c':=c-((1:Nat):Int)) (by rw[o];omega) (bJ h.byte _) (by rw[Nj];omega) A
  .rw[fX,iev_var,iev_var,iev_lit,v4,v2];rfl
  .show J.i 3-1=_;rw[o,r]
  .show J.i 4-1=_;rw[v4];rfl
def gS:Sx.Spec where
 fn:=36
 own:=[]
 rd:=[0]
 res:=[.one .bool]
 pre:=fun xs Hs Rs=>∃ p R bs bad,xs=[p]/\Rs=[R]/\cV R p bs bad
 post:=fun xs Hs Rs v Hs' F=>∃ p R bs bad,xs=[p]/\Rs=[R]/\cV R p bs bad/\v=.bool (!bad&&decide (bs=[]))
def sd:Walk Tryz.prog [] gS.fn where
 Λ:=noLoops
 args:=[TP (.var 0) (.lit 0)]
 mem:=[.ro 1 [.var 0] false]
 nv:=2
def kc:gS.OK Tryz.prog:=by
 refine Spec.of_fn (Γ:=[]) (fun _ h=>by cases h) ?_;rintro xs Hs Rs j n ⟨p,R,bs,bad,rfl,rfl,hIn⟩;have e0:Hs=[]:=MF.1 j;subst e0;obtain⟨a,x,y,c,rfl,f,k,hx,hy,o⟩:=hIn.whole;refine⟨sd,envI [(a:Int)] false [Hl.none,R],fun _ _=>True,fun _ _=>0,?_,⟨?_,?_,?_,?_⟩,(fun _ h=>nomatch h),?_⟩
 .show [Value.pointer (slP (a:Int) 0)]=_;rw[aY]
 .intro r hr ho;simp [sd]at hr;subst hr;cases ho
 .intro r hr ho;simp [sd]at hr;subst hr;exact⟨R,ar,Hl.le_refl _⟩
 .simp [sd]
 .intro r hr;simp [sd]at hr;subst hr;trivial
 .refine Walk.read [] [] [] ?_;generalize d:envI [(a:Int)] false [Hl.none,R]=J;have v0:J.i 0=a:=by rw[<-d];rfl
  have w1:J.h 1=R:=by rw[<-d];rfl
  clear d;have out:∀ (mem:Mem) (e:E),bev J e=(!bad&&decide (bs=[]))->postOf gS [.pointer (some ⟨a,0,none⟩)] [] [R] J mem (.sv (.one (.bool e))):=fun mem e he _ =>
   ⟨[],[],rfl,rfl,⟨⟨fun _=>0,fun _=>bev J e,fun _=>.empty,fun _=>.tuple #[],fun _=>Hl.none⟩,rfl,zzT,zzT⟩,_,R,bs,bad,rfl,rfl,hIn,by show Value.bool (bev J e)=_;rw[he]⟩
  have g:Int.toNat 0=0:=rfl;have m:Int.toNat 1=1:=rfl;simp only[go_sem,Nat.reduceAdd,g,m];rw[v0,w1,MD,f,k,Db hx];refine⟨ae,rfl,fun hb=>⟨rfl,ae,out _ _ ?_⟩,fun hb=>out _ _ ?_⟩
  .have hb:bad=false:=N4.2 hb;rw[bev_eq,iev_hP,iev_var,iev_lit,v0,w1,MD,g,NH,f,Db hx,hb];cases bs with
   | nil=>rfl
   | cons b l =>
    simp;omega
  .have hb:bad=true:=hb;rw[hb];rfl
abbrev yD (x:Int) (n:Nat) (c:Int):Value:=.slice (slP x 0) ((n:Int)).toNat c.toNat
def j8 (a:Nat) (x c:Int) (n:Nat) (lg:Bool):Hl:=Hl.one a (.cells #[yD x n c,.bool lg] 124 (0,0))
structure oO (H:Hl) (a:Nat) (x c:Int) (F:Hl) (bs:List Int) (lg:Bool):Prop where
 rx:-1<=x
 rc:0<=c
 own:OwB F 5 (yD x bs.length c) bs
 na:¬F.mem a
 hl:H=hls [j8 a x c bs.length lg,F]
def ax (H:Hl) (p:Value) (bs:List Int) (lg:Bool):Prop:=∃ a x c F,p=.pointer (some ⟨a,0,none⟩)/\oO H a x c F bs lg
section
variable {H F:Hl} {a:Nat} {x c:Int} {bs:List Int} {lg:Bool}
def oO.le (h:oO H a x c F bs lg):(j8 a x c bs.length lg).le H/\F.le H:=by
 have hd:(j8 a x c bs.length lg).dis F:=Hl.one_dis.2 h.na;rw[h.hl];show(j8 a x c bs.length lg).le ((j8 a x c bs.length lg).un (F.un Hl.none))/\F.le ((j8 a x c bs.length lg).un (F.un Hl.none));rw[Hl.un_none];exact⟨Hl.un_left _ _,Hl.un_right hd⟩
def ax.whole (h:ax H p bs lg):∃ (a:Nat) (x c:Int),p=.pointer (some ⟨a,0,none⟩)/\ -1<=x/\0<=c/\H.cell a 0=some (yD x bs.length c)/\H.cell a 1=some (.bool lg)/\RdB H (yD x bs.length c) bs:=by
 obtain⟨a,x,c,F,rfl,h⟩:=h;obtain⟨b,d⟩:=h.le;have e:=b a _ (Hl.one_self _ _);exact⟨a,x,c,rfl,h.rx,h.rc,by unfold Hl.cell;rw[e];rfl,by unfold Hl.cell;rw[e];rfl,sF d h.own.rd⟩
def ax.uniq (h:ax H p bs lg) (h':ax H p bs' lg'):bs=bs'/\lg=lg':=by
 obtain⟨a,x,c,rfl,_,_,h0,h1,hr⟩:=h.whole;obtain⟨a',x',c',e,_,_,k0,k1,b⟩:=h'.whole;simp only[Value.pointer.injEq,MP,Addr.mk.injEq,MZ]at e;subst e;rw[h0]at k0;rw[h1]at k1;simp only[MP,Value.bool.injEq]at k0 k1;rw[<-k0]at b;exact⟨hr.uniq b,k1⟩
end
def ax.new (a:Nat):ax (Hl.one a (.cells #[.slice none 0 0,.bool false] 124 (0,0))) (.pointer (some ⟨a,0,none⟩)) [] false:=by
 refine⟨a,-1,0,Hl.none,rfl,⟨MT _,MT _,⟨rfl,Or.inl ⟨rfl,rfl⟩⟩,fun h=>(by simp [Hl.mem,Hl.none]at h),?_⟩⟩;show _=(j8 a (-1) 0 0 false).un (Hl.none.un Hl.none);rw[Hl.un_none,Hl.un_none];rfl
def cY:Mem:=[.blk 0 [.sl (.var 1) (.lit 0) (.var 2) (.var 3),.bool (.bvar 6)] 124,.hp 7 [] [.var 1] []]
def fQ (a:Nat) (x c:Int) (n:Nat) (lg:Bool) (F:Hl) (z:Int) (l:List Int) (R:Hl):Env:=envI ([(a:Int),x,n,c,0,z,0,0]++l) lg [Hl.none,Hl.none,Hl.none,Hl.none,Hl.none,Hl.none,Hl.none,F,Hl.none,Hl.none,Hl.none,Hl.none,R]
section
variable {H F:Hl} {a:Nat} {x c:Int} {bs:List Int} {lg:Bool}
def nD (h:oO H a x c F bs lg) (z:Int) (l:List Int) (R:Hl):Entry (fQ a x c bs.length lg F z l R) cY [H] []:=by
 obtain⟨b,d⟩:=h.le;have hb:(Res.blk 0 [.sl (.var 1) (.lit 0) (.var 2) (.var 3),.bool (.bvar 6)] 124).hl (fQ a x c bs.length lg F z l R)=j8 a x c bs.length lg:=by
  show Hl.one ((a:Int)).toNat (.cells #[yD x bs.length c,.bool lg] 124 (0,0))=_;rw[MD];rfl
 refine⟨fun r hr ho=>⟨H,ar,?_⟩,fun r hr ho=>?_,?_,fun r hr=>?_⟩
 .simp only[cY,MQ,MV,Nt]at hr;rcases hr with rfl | rfl
  .rw[hb];exact b
  .exact d
 .simp only[cY,MQ,MV,Nt]at hr;rcases hr with rfl | rfl<;>cases ho
 .unfold cY;refine List.Pairwise.cons (fun r hr _ _=>?_) (List.Pairwise.cons (fun r hr=>by cases hr) List.Pairwise.nil);rw[MO]at hr;subst hr;rw[hb];exact Hl.one_dis.2 h.na
 .simp only[cY,MQ,MV,Nt]at hr;rcases hr with rfl | rfl
  .show(0:Int)<=(a:Int);omega
  .trivial
def xN (h:oO H a x c F bs lg) (z:Int) (l:List Int) (R:Hl) (t:List E):Entry (fQ a x c bs.length lg F z l R) (cY++[.ro 12 t false]) [H] [R]:=by
 obtain⟨h1,h2,b,d⟩:=nD h z l R;refine⟨fun r hr ho=>?_,fun r hr ho=>?_,?_,fun r hr=>?_⟩
 .rcases Nb.1 hr with hr | hr
  .exact h1 r hr ho
  .rw[MO]at hr;subst hr;cases ho
 .rcases Nb.1 hr with hr | hr
  .obtain⟨R,e,_⟩:=h2 r hr ho;cases e
  .rw[MO]at hr;subst hr;exact⟨R,ar,Hl.le_refl _⟩
 .rw[PW];refine⟨b,ar,fun r _ s hs _ ho=>?_⟩;rw[MO]at hs;subst hs;cases ho
 .rcases Nb.1 hr with hr | hr
  .exact d r hr
  .rw[MO]at hr;subst hr;trivial
end
def tZ {a:Nat} {X:E} {bs:List Int} {lg:Bool} (h0:q.i 0=a) (hX:-1<=iev q X) (hN:iev q N=bs.length) (c:0<=iev q C) (hg:bev q g=lg) (ho:OwB (q.h k) 5 (yD (iev q X) bs.length (iev q C)) bs)
 (hd:∀ (p s:Nat) r u,p≠s->(.blk 0 [.sl X (.lit 0) N C,.bool g] 124::.hp k v7 t7 []::t:Mem)[p]?=some r->(.blk 0 [.sl X (.lit 0) N C,.bool g] 124::.hp k v7 t7 []::t:Mem)[s]?=some u->r.own=true->(r.hl q).dis (u.hl q)) :
 ax (uni q (.blk 0 [.sl X (.lit 0) N C,.bool g] 124::.hp k v7 t7 []::t) [0,1]) (.pointer (some ⟨a,0,none⟩)) bs lg:=by
 have hb:(Res.blk 0 [.sl X (.lit 0) N C,.bool g] 124).hl q=j8 a (iev q X) (iev q C) bs.length lg:=by
  show Hl.one (q.i 0).toNat (.cells #[.slice (slP (iev q X) 0) (iev q N).toNat (iev q C).toNat,.bool (bev q g)] 124 (0,0))=_;rw[h0,hN,hg,MD];rfl
 have b:=hd 0 1 _ _ aj rfl rfl rfl;rw[hb]at b;refine⟨a,iev q X,iev q C,q.h k,rfl,hX,c,ho,Hl.one_dis.1 b,?_⟩;show hls [(Res.blk 0 [.sl X (.lit 0) N C,.bool g] 124).hl q,q.h k]=_;rw[hb]
def mv {x c x1 c1:Int} {bs:List Int} (ho:OwB A 5 (.slice (slP x 0) l.toNat c.toNat) bs) (hl:l=bs.length) (hm:m=bs2.length)
 (happ:∀ xs,OwnsH A 5 1 (.slice (slP x 0) l.toNat c.toNat) l.toNat xs->OwnsH B 5 1 (.slice (slP x1 0) (l.toNat+m) c1.toNat) (l.toNat+m) (xs++bys bs2)):OwB B 5 (yD x1 (bs++bs2).length c1) (bs++bs2):=by
 have hn:l.toNat=bs.length:=ae;have h1:OwnsH A 5 1 (.slice (slP x 0) l.toNat c.toNat) l.toNat (bys bs):=by rw[hn]at ho ⊢;exact ho
 have h2:=happ _ h1;unfold OwB yD;rw[MD,MJ,bys_append,<-hm,<-hn];exact h2
def mw {x c:Int} {bs:List Int} (ho:OwB A 5 (.slice (slP x 0) l.toNat c.toNat) bs) (hl:l=bs.length):OwnsH A 5 1 (.slice (slP x 0) l.toNat c.toNat) l.toNat (bys bs):=by
 have hn:l.toNat=bs.length:=ae;rw[hn]at ho ⊢;exact ho
def Ai (f:FuncId) (ok:List Value->List Int->Prop) (act:List Value->List Int->List Int):Sx.Spec where
 fn:=f
 own:=[.arg 0]
 rd:=[]
 res:=[]
 pre:=fun xs Hs Rs=>∃ p z H bs lg,xs=[p,z]/\Hs=[H]/\ax H p bs lg/\ok [z] bs/\bs.length<=900000
 post:=fun xs Hs Rs v Hs' F=>∃ p z H bs lg H',xs=[p,z]/\Hs=[H]/\ax H p bs lg/\Hs'=[H']/\ax H' p (act [z] bs) lg
def tR (l:List Value) (bs:List Int):List Int:=bs++aq (valI l[0]?).toNat
def Ik (l:List Value) (_:List Int):Prop:=∃ z:Int,l=[.int .u64 z]/\0<=z/\z<18446744073709551616
def gh:Sx.Spec:=Ai 63 Ik tR
def Im:Walk Tryz.prog [] 63 where
 Λ:=fun p=>if xF p then some ⟨0,[(1,TI .u64 (.var 24))],[(0,.blk 0 [.sl (.var 20) (.lit 0) (.var 22) (.var 23),.bool (.bvar 6)] 124),(1,.hp 25 [] [.var 20] [])],30⟩else none
 args:=[TP (.var 0) (.lit 0),TI .u64 (.var 5)]
 mem:=cY
 nv:=8
def Cr (all:List Int) (m:Nat) (_:Nat) (q:Env):Prop:=∃ (y:Nat) (done:List Int),q.i 24=y/\done++aq y=all/\done.length<=m/\q.i 22=done.length/\ -1<=q.i 20/\0<=q.i 23/\OwB (q.h 25) 5 (.slice (slP (q.i 20) 0) (q.i 22).toNat (q.i 23).toNat) done
def iN {z:Nat} (h:z<18446744073709551616):(aq z).length<=10:=by
 refine rY 9 z (Oi h aj)
def il:gh.OK Tryz.prog:=by
 refine Spec.of_fn (Γ:=[]) (fun _ h=>by cases h) ?_;rintro xs Hs Rs D v ⟨p,E,H,bs,lg,rfl,rfl,⟨a,x,c,F,rfl,h⟩,⟨z,hz,I,K⟩,hlen⟩;have hz:E=.int .u64 z:=by simpa using hz
 subst hz;have e1:Rs=[]:=MF.1 v;subst e1;have L:=iN (z:=z.toNat) ae;refine⟨Im,fQ a x c bs.length lg F z [] Hl.none,Cr (bs++aq z.toNat) (bs.length+10),fun _ q=>(q.i 24).toNat,?_,nD h z [] _,(fun _ h=>nomatch h),?_⟩
 .show [Value.pointer (slP (a:Int) 0),Value.int .u64 z]=_;rw[aY]
 .refine Walk.read [] [] [] ?_;generalize d:fQ a x c bs.length lg F z [] Hl.none=J;have v0:J.i 0=a:=by rw[<-d];rfl
  have v1:J.i 1=x:=by rw[<-d];rfl
  have v2:J.i 2=bs.length:=by rw[<-d];rfl
  have C:J.i 3=c:=by rw[<-d];rfl
  have M:J.i 5=z:=by rw[<-d];rfl
  have b6:J.b 6=lg:=by rw[<-d];rfl
  have w7:J.h 7=F:=by rw[<-d];rfl
  clear d;simp only[go_sem,Nat.reduceAdd];refine⟨⟨z.toNat,bs,?_,rfl,ae,?_,?_,?_,?_⟩,fun q g ⟨y,done,j,hall,N,f,O,P,u⟩=>?_⟩
  .show J.i 5=_;rw[M];omega
  .show J.i 2=_;exact v2
  .show -1<=J.i 1;rw[v1];exact h.rx
  .show 0<=J.i 3;rw[C];exact h.rc
  .show OwB (J.h 7) _ (.slice (slP (J.i 1) 0) (J.i 2).toNat (J.i 3).toNat) bs;rw[w7,v1,v2,C];exact h.own
  have n:=Ns List.length hall;rw[MJ,MJ]at n;refine⟨fun w q1 e _=>?_,fun A q1 e _=>?_⟩
  .rw[e.h 25,e.i 20,e.i 22,e.i 23];refine⟨⟨⟨_,mw u f⟩,ae,by unfold maxLen;omega,ae⟩,fun q2 o ⟨a1,a2,r,_⟩=>?_⟩;rw[j]at w;have s:aq y=((y%128+128:Nat):Int)::aq (y/128):=fe ae;have B:iev q1 (.bits .or .u8 (.wrap .u8 (.var 24)) (.lit 128))=((y%128+128:Nat):Int):=by
    show bitsI .or .u8 (IntKind.u8.wrap (q1.i 24)) 128=_;rw[e.i 24,j];exact Ig
   rw[B]at r;have k:=mv (bs2:=[((y%128+128:Nat):Int)]) (m:=1) u f rfl r;have l:iev q2 (.shr .u64 (.var 24) (.lit 7))=((y/128:Nat):Int):=by
    show(q2.i 24).fdiv (2 ^ (7:Int).toNat)=_;rw[o.i 24,e.i 24,j];exact Lt
   refine⟨⟨y/128,done++[((y%128+128:Nat):Int)],l,?_,?_,?_,a1,a2,?_⟩,?_⟩
   .rw[MY,<-hall,s];rfl
   .rw[MJ,Nq];rw[s,Nk]at n;omega
   .show q2.i 22+1=_;rw[o.i 22,e.i 22,f,MJ,Nq];omega
   .show OwB (q2.h 31) _ (.slice (slP (q2.i 31) 0) (q2.i 22+1).toNat (q2.i 32).toNat) _;rw[o.i 22,e.i 22,f];have:=k;unfold yD at this;rw[MJ,Nq]at this;exact this
   .show(iev q2 (.shr .u64 (.var 24) (.lit 7))).toNat<(q.i 24).toNat;rw[l,j];omega
  .rw[e.h 25,e.i 20,e.i 22,e.i 23];refine⟨⟨⟨_,mw u f⟩,ae,by unfold maxLen;omega,ae⟩,fun q2 o ⟨a1,a2,r,_⟩ hd=>?_⟩;rw[j]at A;have t:aq y=[(y:Int)]:=dL ae;have B:IntKind.u8.wrap (q1.i 24)=(y:Int):=by
    rw[e.i 24,j,I4];omega
   rw[B]at r;have k:=mv (bs2:=[(y:Int)]) (m:=1) u f rfl r;rw[<-t,hall]at k;have G:Agree 8 J q2:=g.trans (e.mono.tr o);refine⟨[[0,1]],[],rfl,rfl,⟨(ay fun _=>0),rfl,zzT⟩,_,_,H,bs,lg,_,rfl,rfl,⟨a,x,c,F,rfl,h⟩,rfl,tZ (by rw[G.i 0,v0]) a1 ?_ a2 (by rw[bev_bvar,G.b 6,b6]) k hd⟩;show q2.i 22+1=((bs++aq z.toNat).length:Int);rw[o.i 22,e.i 22,f,MJ];rw[t,Nq]at n;omega
def jh:Sx.Spec where
 fn:=67
 own:=[.arg 0]
 rd:=[1]
 res:=[]
 pre:=fun xs Hs Rs=>∃ p u H R bs lg b2,xs=[p,u]/\Hs=[H]/\Rs=[R]/\ax H p bs lg/\RdW R u b2/\bs.length<=900000/\b2.length<=90000
 post:=fun xs Hs Rs v Hs' F=>∃ p u H R bs lg b2 H',xs=[p,u]/\Hs=[H]/\Rs=[R]/\ax H p bs lg/\RdW R u b2/\Hs'=[H']/\ax H' p (bs++b2) lg
def Io:Walk Tryz.prog [] jh.fn where
 Λ:=noLoops
 args:=[TP (.var 0) (.lit 0),.sv (.one (.sl (.var 8) (.var 9) (.var 10) (.var 11)))]
 mem:=cY++[.ro 12 [.var 8] false]
 nv:=13
def nB:jh.OK Tryz.prog:=by
 refine Spec.of_fn (Γ:=[]) (fun _ h=>by cases h) ?_;rintro xs Hs Rs v w ⟨p,u,H,R,bs,lg,b2,rfl,rfl,rfl,⟨a,x,c,F,rfl,h⟩,e,hlen,r⟩;obtain⟨f,g,c2,rfl,n,z⟩:=id e;refine⟨Io,fQ a x c bs.length lg F 0 [f,g,b2.length,c2] R,fun _ _=>True,fun _ _=>0,?_,xN h 0 _ R _,(fun _ h=>nomatch h),?_⟩
 .show [Value.pointer (slP (a:Int) 0),Value.slice (slP f g) ((b2.length:Int)).toNat ((c2:Int)).toNat]=_;rw[aY,MD,MD]
 .refine Walk.read [] [] [] ?_;generalize d:fQ a x c bs.length lg F 0 [f,g,b2.length,c2] R=J;have v0:J.i 0=a:=by rw[<-d];rfl
  have v1:J.i 1=x:=by rw[<-d];rfl
  have v2:J.i 2=bs.length:=by rw[<-d];rfl
  have A:J.i 3=c:=by rw[<-d];rfl
  have B:J.i 8=f:=by rw[<-d];rfl
  have C:J.i 9=g:=by rw[<-d];rfl
  have v10:J.i 10=b2.length:=by rw[<-d];rfl
  have b6:J.b 6=lg:=by rw[<-d];rfl
  have w7:J.h 7=F:=by rw[<-d];rfl
  have o:J.h 12=R:=by rw[<-d];rfl
  clear d;simp only[go_sem,Nat.reduceAdd];rw[v1,v2,A,B,C,v10,w7,o];obtain⟨hok,j⟩:=oa (R:=R) (x:=f) (y:=g) (l:=(b2.length:Int)) rfl n z;have s:OwB F 5 (.slice (slP x 0) ((bs.length:Int)).toNat c.toNat) bs:=h.own;refine⟨⟨⟨_,mw s rfl⟩,ae,by simpa using hok,by rw[MD,MD];unfold maxLen;omega,by rw[MD,MD];omega⟩,fun q2 k ⟨a1,a2,t,_⟩ hd=>?_⟩;rw[j]at t;have q:=mv (bs2:=b2) (m:=((b2.length:Int)).toNat) s rfl (MD _) t;refine⟨[[0,1]],[],rfl,rfl,⟨(ay fun _=>0),rfl,zzT⟩,_,_,H,R,bs,lg,b2,_,rfl,rfl,rfl,⟨a,x,c,F,rfl,h⟩,e,rfl,tZ (by rw[k.i 0,v0]) a1 ?_ a2 (by rw[bev_bvar,k.b 6,b6]) q hd⟩;show q2.i 2+q2.i 10=((bs++b2).length:Int);rw[k.i 2,k.i 10,v2,v10,MJ];omega
def vq (l:List Value) (bs:List Int):List Int:=bs++[if valB l[0]?=true then 1 else 0]
def E3 (l:List Value) (_:List Int):Prop:=∃ b:Bool,l=[.bool b]
def fx:Sx.Spec:=Ai 66 E3 vq
def Fv:Walk Tryz.prog [] 66 where
 Λ:=noLoops
 args:=[TP (.var 0) (.lit 0),.sv (.one (.bool (.bvar 5)))]
 mem:=cY
 nv:=8
def xO {H F:Hl} {a:Nat} {x c:Int} {bs:List Int} {lg:Bool} (h:oO H a x c F bs lg) (f:Bool):Entry {fQ a x c bs.length lg F 0 [] Hl.none with b:=fun k=>if k=5 then f else lg} cY [H] []:=by
 obtain⟨h1,h2,d,g⟩:=nD h 0 [] Hl.none;refine⟨fun r hr ho=>?_,fun r hr ho=>?_,?_,fun r hr=>?_⟩
 .obtain⟨K,hK,hle⟩:=h1 r hr ho;refine⟨K,hK,?_⟩;simp only[cY,MQ,MV,Nt]at hr;rcases hr with rfl | rfl<;>exact hle
 .simp only[cY,MQ,MV,Nt]at hr;rcases hr with rfl | rfl<;>cases ho
 .exact d.imp (fun {r s} e=>e) |>fun _=>by
   unfold cY at d ⊢;refine List.Pairwise.cons (fun r hr _ _=>?_) (List.Pairwise.cons (fun r hr=>by cases hr) List.Pairwise.nil);rw[MO]at hr;subst hr;exact(PF.1 d).1 _ (MO.2 rfl) rfl rfl
 .simp only[cY,MQ,MV,Nt]at hr;rcases hr with rfl | rfl
  .show(0:Int)<=(a:Int);omega
  .trivial
def kN:fx.OK Tryz.prog:=by
 refine Spec.of_fn (Γ:=[]) (fun _ h=>by cases h) ?_;rintro xs Hs Rs o g ⟨p,q,H,bs,lg,rfl,rfl,⟨a,x,c,F,rfl,h⟩,⟨b,hb⟩,hlen⟩;have hb:q=.bool b:=by simpa using hb
 subst hb;have e1:Rs=[]:=MF.1 g;subst e1;refine⟨Fv,{fQ a x c bs.length lg F 0 [] Hl.none with b:=fun k=>if k=5 then b else lg},fun _ _=>True,fun _ _=>0,?_,xO h b,(fun _ h=>nomatch h),?_⟩
 .show [Value.pointer (slP (a:Int) 0),Value.bool b]=_;rw[aY]
 .refine Walk.read [] [] [] ?_;generalize d:({fQ a x c bs.length lg F 0 [] Hl.none with b:=fun k=>if k=5 then b else lg} : Env)=J;have v0:J.i 0=a:=by rw[<-d];rfl
  have v1:J.i 1=x:=by rw[<-d];rfl
  have v2:J.i 2=bs.length:=by rw[<-d];rfl
  have r:J.i 3=c:=by rw[<-d];rfl
  have s:J.b 5=b:=by rw[<-d];rfl
  have b6:J.b 6=lg:=by rw[<-d];rfl
  have w7:J.h 7=F:=by rw[<-d];rfl
  clear d;have l:OwB F 5 (.slice (slP x 0) ((bs.length:Int)).toNat c.toNat) bs:=h.own;have fin:∀ (q2:Env) (z:Int) (t:Mem),Agree 8 J q2-> -1<=q2.i 9->0<=q2.i 10->(if b=true then(1:Int)else 0)=z->(∀ xs,OwnsH F 5 1 (.slice (slP x 0) ((bs.length:Int)).toNat c.toNat) ((bs.length:Int)).toNat xs->OwnsH (q2.h 9) 5 1 (.slice (slP (q2.i 9) 0) (((bs.length:Int)).toNat+1) (q2.i 10).toNat) (((bs.length:Int)).toNat+1) (xs++bys [z])) ->
   postOf fx [.pointer (some ⟨a,0,none⟩),.bool b] [H] [] q2 (.blk 0 [.sl (.var 9) (.lit 0) (.add (.var 2) (.lit 1)) (.var 10),.bool (.bvar 6)] 124::.hp 9 [7] [.var 9,.var 1] []::t) (.tup []):=by
   intro q2 z t G a1 a2 hz f hd;have j:=mv (bs2:=[z]) (m:=1) l rfl rfl f;refine⟨[[0,1]],[],rfl,rfl,⟨(ay fun _=>0),rfl,zzT⟩,_,_,H,bs,lg,_,rfl,rfl,⟨a,x,c,F,rfl,h⟩,rfl,?_⟩;have u:vq [Value.bool b] bs=bs++[z]:=by rw[<-hz];rfl
   rw[u];refine tZ (by rw[G.i 0,v0]) a1 ?_ a2 (by rw[bev_bvar,G.b 6,b6]) j hd;show q2.i 2+1=((bs++[z]).length:Int);rw[G.i 2,v2,MJ,Nq];omega
  simp only[go_sem,Nat.reduceAdd];rw[s];refine⟨fun hb q1 e _=>?_,fun hb q1 e _=>?_⟩
  all_goals
   rw[e.i 1,e.i 2,e.i 3,e.h 7,v1,v2,r,w7];refine⟨⟨⟨_,mw l rfl⟩,ae,by rw[MD];unfold maxLen;omega,by rw[MD];omega⟩,fun q2 n ⟨a1,a2,f,_⟩=>?_⟩
  .exact fin q2 1 _ (e.tr n) a1 a2 (M0 hb) f
  .exact fin q2 0 _ (e.tr n) a1 a2 (MM hb) f
def ak (b:List Int):List Int:=aq b.length++b
def bT (bs:List Int) (lg:Bool) (b2:List Int):List Int×Bool:=if 4096<b2.length then(bs,true)else(bs++ak b2,lg)
def ef:Sx.Spec where
 fn:=115
 own:=[.arg 0]
 rd:=[1]
 res:=[]
 pre:=fun xs Hs Rs=>∃ p u H R bs lg b2,xs=[p,u]/\Hs=[H]/\Rs=[R]/\ax H p bs lg/\RdW R u b2/\bs.length<=800000/\0<=b2.length
 post:=fun xs Hs Rs v Hs' F=>∃ p u H R bs lg b2 H',xs=[p,u]/\Hs=[H]/\Rs=[R]/\ax H p bs lg/\RdW R u b2/\Hs'=[H']/\ax H' p (bT bs lg b2).1 (bT bs lg b2).2
def oΓ:List Sx.Spec:=[gh,jh,bK]
def DQ:∀ t∈oΓ,t.OK Tryz.prog:=ai il <| ai nB <| ai fi <| aD
def og2:oΓ[2]?=some bK:=rfl
def or0:gh.res=[]:=rfl
def or1:jh.res=[]:=rfl
def nC:Walk Tryz.prog oΓ ef.fn where
 Λ:=noLoops
 args:=[TP (.var 0) (.lit 0),.sv (.one (.sl (.var 8) (.var 9) (.var 10) (.var 11)))]
 mem:=[.hp 1 [] [.var 0] [],.ro 12 [.var 8] false]
 nv:=13
def ax.Da {H:Hl} {a:Nat} {bs:List Int} {lg:Bool} (h:ax H (.pointer (some ⟨a,0,none⟩)) bs lg):H.wr a 1 1=true/\ax (H.put a 1 [.bool true]) (.pointer (some ⟨a,0,none⟩)) bs true:=by
 obtain⟨a',x,c,F,e,h⟩:=h;simp only[Value.pointer.injEq,MP,Addr.mk.injEq,MZ]at e;subst e;obtain⟨b,_⟩:=h.le;have e:=b a _ (Hl.one_self _ _);refine⟨by unfold Hl.wr;rw[e];rfl,a,x,c,F,rfl,h.rx,h.rc,h.own,h.na,?_⟩;rw[h.hl]
 funext k
 unfold Hl.put;by_cases hk:k=a
 .subst hk;rw[M0 rfl];have d:hls [j8 k x c bs.length lg,F] k=some (.cells #[yD x bs.length c,.bool lg] 124 (0,0)):=by rw[<-h.hl];exact e
  have f:hls [j8 k x c bs.length true,F] k=some (.cells #[yD x bs.length c,.bool true] 124 (0,0)):=Hl.un_at_left (Hl.one_self _ _);rw[d];exact f.symm
 .rw[MM hk];have n1:∀ g:Bool,¬(j8 a x c bs.length g).mem k:=fun g hm=>hk (Hl.one_mem.1 hm);show((j8 a x c bs.length lg).un _) k=((j8 a x c bs.length true).un _) k;rw[Hl.un_at_right (n1 _),Hl.un_at_right (n1 _)]
def qm {f:FuncId} {ok:List Value->List Int->Prop} {act:List Value->List Int->List Int} {z:Value} {H F:Hl} {bs:List Int} {lg:Bool} (h:ax H p bs lg) (hp:(Ai f ok act).post [p,z] [H] Rs v K F):∃ H',K=[H']/\ax H' p (act [z] bs) lg:=by
 obtain⟨d,e,g,bs',lg',H',hx,a,i,hK,b⟩:=hp;have hx:p=d/\z=e:=by simpa using hx
 obtain⟨e1,c⟩:=hx;have a:H=g:=by simpa using a
 subst e1 c a;obtain⟨e1,c⟩:=h.uniq i;subst e1 c;exact⟨H',hK,b⟩
def sE {H F:Hl} {bs:List Int} {lg:Bool} (h:ax H p bs lg) (h2:RdW R u b2) (hp:jh.post [p,u] [H] [R] v K F):∃ H',K=[H']/\ax H' p (bs++b2) lg:=by
 obtain⟨f,g,i,j,bs',lg',k,H',hx,a,b,l,hB,hK,c⟩:=hp;have hx:p=f/\u=g:=by simpa using hx
 obtain⟨e1,d⟩:=hx;have a:H=i:=by simpa using a
 have b:R=j:=by simpa using b
 subst e1 d a b;obtain⟨e1,d⟩:=h.uniq l;subst e1 d;have e:=h2.uniq hB;subst e;exact⟨H',hK,c⟩
def kO:ef.OK Tryz.prog:=by
 refine Spec.of_fn (Γ:=oΓ) DQ ?_;rintro xs Hs Rs y A ⟨p,u,H,R,bs,lg,b2,rfl,rfl,rfl,h,c,hlen,x⟩;obtain⟨a,_,_,rfl,_⟩:=h.whole;obtain⟨j,l,c2,rfl,B,I⟩:=id c;refine⟨nC,envI [(a:Int),0,0,0,0,0,0,0,j,l,b2.length,c2] false [Hl.none,H,Hl.none,Hl.none,Hl.none,Hl.none,Hl.none,Hl.none,Hl.none,Hl.none,Hl.none,Hl.none,R],fun _ _=>True,fun _ _=>0,?_,⟨?_,?_,?_,?_⟩,(fun _ h=>nomatch h),?_⟩
 .show [Value.pointer (slP (a:Int) 0),Value.slice (slP j l) ((b2.length:Int)).toNat ((c2:Int)).toNat]=_;rw[aY,MD,MD]
 .intro r hr ho;simp [nC]at hr;rcases hr with rfl | rfl
  .exact⟨H,ar,Hl.le_refl _⟩
  .cases ho
 .intro r hr ho;simp [nC]at hr;rcases hr with rfl | rfl
  .cases ho
  .exact⟨R,ar,Hl.le_refl _⟩
 .simp [nC,Res.own]
 .intro r hr;simp [nC]at hr;rcases hr with rfl | rfl<;>trivial
 .refine Walk.read [] [] [] ?_;generalize b:envI [(a:Int),0,0,0,0,0,0,0,j,l,b2.length,c2] false [Hl.none,H,Hl.none,Hl.none,Hl.none,Hl.none,Hl.none,Hl.none,Hl.none,Hl.none,Hl.none,Hl.none,R]=J;have v0:J.i 0=a:=by rw[<-b];rfl
  have C:J.i 8=j:=by rw[<-b];rfl
  have D:J.i 9=l:=by rw[<-b];rfl
  have v10:J.i 10=b2.length:=by rw[<-b];rfl
  have v11:J.i 11=c2:=by rw[<-b];rfl
  have w1:J.h 1=H:=by rw[<-b];rfl
  have n:J.h 12=R:=by rw[<-b];rfl
  clear b;have out:∀ (q:Env) (k:Nat) (vs:List Nat) (t:Mem) (r:List Int×Bool),bT bs lg b2=r->ax (q.h k) (.pointer (some ⟨a,0,none⟩)) r.1 r.2->postOf ef [.pointer (some ⟨a,0,none⟩),.slice (slP j l) b2.length c2] [H] [R] q (.hp k vs [.var 0] []::t) (.tup []):=by
   intro q k vs t r hr ho _;refine⟨[[0]],[],rfl,rfl,⟨(ay fun _=>0),rfl,zzT⟩,_,_,H,R,bs,lg,b2,_,rfl,rfl,rfl,h,c,rfl,?_⟩;rw[hr];show ax (hls [q.h k]) _ _ _;rw[hls_one];exact ho
  have o:Int.toNat 1=1:=rfl;simp only[go_sem,Nat.reduceAdd,oΓ,or0,or1,o];rw[v10,v0,w1,MD];obtain⟨hw,m⟩:=h.Da;refine⟨ae,fun E=>⟨ae,⟨ae,ae,hw⟩,fun q g s=>?_⟩,fun hle=>?_⟩
  .refine out q 13 _ _ (bs,true) (by unfold bT;rw[M0 ae]) ?_;rw[s];exact m
  .have hu:IntKind.u64.wrap ((b2.length:Nat):Int)=b2.length:=iG ae ae;rw[hu,aY];refine⟨⟨_,_,H,bs,lg,rfl,rfl,h,⟨_,rfl,ae,ae⟩,ae⟩,fun q g ⟨K,hp,_,_⟩=>?_⟩;obtain⟨H1,e,d⟩:=qm h hp;have e:q.h 13=H1:=by simpa using e
   rw[<-e]at d;have eN:tR [Value.int .u64 ((b2.length:Nat):Int)] bs=bs++aq b2.length:=by
    unfold tR;show bs++aq (((b2.length:Nat):Int)).toNat=_;rw[MD]
   rw[eN]at d;have F:=iN (z:=b2.length) ae;rw[g.i 0,v0,g.i 8,C,g.i 9,D,g.i 10,v10,g.i 11,v11,g.h 12,n,aY,MD,MD];refine⟨⟨_,_,_,R,_,lg,b2,rfl,rfl,rfl,d,c,by rw[MJ];omega,ae⟩,fun q2 L ⟨M,v,_,_⟩=>?_⟩;obtain⟨G,f,w⟩:=sE d c v;have f:q2.h 15=G:=by simpa using f
   refine out q2 15 _ _ (bs++ak b2,lg) (by unfold bT;rw[MM ae]) ?_;rw[f];unfold ak;rw[<-MY];exact w
def fk (bs:List Int) (lg:Bool):List Int×Int:=if lg=true\/16384<bs.length then([],3)else(bs,0)
def fw:Sx.Spec where
 fn:=68
 own:=[]
 rd:=[0]
 res:=[.one .sl,.one (.int .i64)]
 pre:=fun xs Hs Rs=>∃ p R bs lg,xs=[p]/\Rs=[R]/\ax R p bs lg/\bs.length<=1000000
 post:=fun xs Hs Rs v Hs' F=>∃ p R bs lg u,xs=[p]/\Rs=[R]/\ax R p bs lg/\v=.tuple #[u,.int .i64 (fk bs lg).2]/\OwB F 5 u (fk bs lg).1
def r8:Walk Tryz.prog oΓ fw.fn where
 Λ:=noLoops
 args:=[TP (.var 0) (.lit 0)]
 mem:=[.ro 1 [.hP 2 (.var 0) (.lit 0) 0 0] false,.ro 2 [.var 0] false]
 nv:=3
def or2:bK.res=[.one .sl]:=rfl
def Mx {x y:Int} (hx:-1<=x) (n c:Nat):valP (some (.slice (slP x y) n c)) 3=c:=by
 rcases NU x 0 with h | h
 .obtain rfl:x= -1:=ae;rfl
 .rw[slP_pos h];rfl
def Lu {x:Int} (hx:-1<=x) (n c:Nat):valP (some (.slice (slP x 0) n c)) 1=0:=by
 rcases NU x 0 with h | h
 .obtain rfl:x= -1:=ae;rfl
 .rw[slP_pos h];rfl
def gb:fw.OK Tryz.prog:=by
 refine Spec.of_fn (Γ:=oΓ) DQ ?_;rintro xs Hs Rs f u ⟨p,R,bs,lg,rfl,rfl,h,hlen⟩;have e0:Hs=[]:=MF.1 f;subst e0;obtain⟨a,x,c,rfl,hx,A,d,j,l⟩:=h.whole;unfold yD at d l;rw[MD]at d l;refine⟨r8,envI [(a:Int)] false [Hl.none,R,R],fun _ _=>True,fun _ _=>0,?_,⟨?_,?_,?_,?_⟩,(fun _ h=>nomatch h),?_⟩
 .show [Value.pointer (slP (a:Int) 0)]=_;rw[aY]
 .intro r hr ho;simp [r8]at hr;rcases hr with rfl | rfl<;>cases ho
 .intro r hr ho;simp [r8]at hr;rcases hr with rfl | rfl<;>exact⟨R,ar,Hl.le_refl _⟩
 .simp [r8,Res.own]
 .intro r hr;simp [r8]at hr;rcases hr with rfl | rfl<;>trivial
 .refine Walk.read [] [] [] ?_;generalize b:envI [(a:Int)] false [Hl.none,R,R]=J;have v0:J.i 0=a:=by rw[<-b];rfl
  have w1:J.h 1=R:=by rw[<-b];rfl
  have w2:J.h 2=R:=by rw[<-b];rfl
  clear b;have fail:∀ (mem:Mem),lg=true\/16384<bs.length->postOf fw [.pointer (some ⟨a,0,none⟩)] [] [R] J mem (.tup [.one (.sl (.lit (-1)) (.lit 0) (.lit 0) (.lit 0)),.one (.int .i64 (.lit 3))]):=by
   intro mem hf _;have hs:fk bs lg=([],3):=by unfold fk;rw[M0 hf]
   refine⟨[],[],rfl,rfl,⟨(ay fun k=>if k=0 then -1 else if k=4 then 3 else 0),rfl,⟨MT _,MT _,MT _,MT _⟩,zzT,zzT⟩,_,R,bs,lg,.slice none 0 0,rfl,rfl,h,?_,?_⟩
   .rw[hs];rfl
   .rw[hs];exact iq _ _
  have m:Int.toNat 0=0:=rfl;have n:Int.toNat 1=1:=rfl;simp only[go_sem,Nat.reduceAdd,og2,or2,HV,m,n];rw[v0,w2,w1,MD,d,j,Db hx,IT hx,Lu hx,Mx hx];refine⟨ae,rfl,fun hb=>⟨rfl,ae,fun v=>fail _ (Or.inr ae),fun y=>?_⟩,fun hb=>fail _ (Or.inl hb)⟩;have hb:lg=false:=N4.2 hb;rw[MD,MD];have s:=l.w;refine⟨⟨_,bs,R,rfl,rfl,s,hlen⟩,fun q g ⟨B,hp,z,o⟩ _=>?_⟩;have t:=gE s hp;rw[<-z zzT]at t;have hs:fk bs lg=(bs,0):=by
   unfold fk;have:¬(lg=true\/16384<bs.length):=by
    rintro(e | e)
    .rw[hb]at e;cases e
    .omega
   rw[MM this]
  refine⟨[],[2],rfl,rfl,⟨(ay fun k=>if k=4 then 0 else q.i (3+k)),rfl,o.1,zzT,zzT⟩,_,R,bs,lg,_,rfl,rfl,h,by rw[hs];rfl,?_⟩;rw[hs];show OwB (hls [q.h 3]) _ _ _;rw[hls_one];exact t
open Go.Proofs.YtbdikjnpbnobcaaGreatDoor.D hiding envI noLoops numS
def jG:Sx.Spec where
 fn:=80
 own:=[]
 rd:=[0]
 res:=[.one .sl]
 pre:=fun xs Hs Rs=>∃ u bs R,xs=[u]/\Rs=[R]/\RdW R u bs/\bs.length<=1000000
 post:=fun xs Hs Rs v Hs' F=>∃ u bs R,xs=[u]/\Rs=[R]/\RdW R u bs/\OwB F 5 v bs
def jH:Walk Tryz.prog [] jG.fn where
 Λ:=noLoops
 args:=[.sv (.one (.sl (.var 0) (.var 1) (.var 2) (.var 3)))]
 mem:=[.ro 4 [.var 0] false]
 nv:=5
def mP:jG.OK Tryz.prog:=by
 refine Spec.of_fn (Γ:=[]) (fun _ h=>by cases h) ?_;rintro xs Hs Rs m p ⟨u,bs,R,rfl,rfl,b,hlen⟩;have e0:Hs=[]:=MF.1 m;subst e0;obtain⟨x,y,c,rfl,hy,n⟩:=id b;refine⟨jH,envI [x,y,bs.length,c] false [Hl.none,Hl.none,Hl.none,Hl.none,R],fun _ _=>True,fun _ _=>0,?_,⟨?_,?_,?_,?_⟩,(fun _ h=>nomatch h),?_⟩
 .show [Value.slice (slP x y) ((bs.length:Int)).toNat ((c:Int)).toNat]=_;rw[MD,MD]
 .intro r hr ho;simp [jH]at hr;subst hr;cases ho
 .intro r hr ho;simp [jH]at hr;subst hr;exact⟨R,ar,Hl.le_refl _⟩
 .simp [jH]
 .intro r hr;simp [jH]at hr;subst hr;trivial
 .refine Walk.read [] [] [] ?_;generalize a:envI [x,y,bs.length,c] false [Hl.none,Hl.none,Hl.none,Hl.none,R]=J;have v0:J.i 0=x:=by rw[<-a];rfl
  have v1:J.i 1=y:=by rw[<-a];rfl
  have v2:J.i 2=bs.length:=by rw[<-a];rfl
  have q:J.h 4=R:=by rw[<-a];rfl
  clear a;simp only[go_sem,Nat.reduceAdd];refine⟨fun hx _=>?_,fun hx q1 d p5=>?_⟩
  .have e:bs=[]:=by
    rcases n with h | ⟨h,_⟩
    .exact h
    .omega
   refine⟨[],[],rfl,rfl,⟨(ay fun k=>if k=0 then -1 else 0),rfl,⟨MT _,MT _,MT _,MT _⟩,zzT⟩,_,bs,R,rfl,rfl,b,?_⟩;rw[e];exact⟨rfl,Or.inl ⟨rfl,rfl⟩⟩
  .obtain⟨hok,f⟩:=oa (R:=R) (x:=x) (y:=y) (l:=(bs.length:Int)) rfl hy n;have g:=Al (Hl.one (q1.i 5).toNat (.cells #[] 5 (0,0))) p5 rfl;rw[d.i 0,d.i 1,d.i 2,d.h 4,v0,v1,v2,q];refine⟨⟨⟨_,g⟩,MT _,by simpa using hok,by rw[MD];unfold maxLen;simp;omega,by rw[MD];simp;omega⟩,fun q2 o ⟨a1,a2,s,_⟩=>fun _=>?_⟩;have j:=s _ g;rw[f,N1]at j;refine⟨[],[1],rfl,rfl,⟨(ay fun k=>[q2.i 6,0,q2.i 2,q2.i 7].getD k 0),rfl,⟨a1,MT _,?_,a2⟩,zzT⟩,_,bs,R,rfl,rfl,b,?_⟩
   .show 0<=q2.i 2;rw[o.i 2,d.i 2,v2];omega
   .show OwB (hls [q2.h 6]) _ (.slice (slP (q2.i 6) 0) (q2.i 2).toNat (q2.i 7).toNat) bs;rw[hls_one,o.i 2,d.i 2,v2];unfold OwB;rw[MD];simpa using j
def wE:Sx.Spec where
 fn:=126
 own:=[]
 rd:=[0]
 res:=[.one (.int .u64)]
 pre:=fun xs Hs Rs=>∃ u bs R,xs=[u]/\Rs=[R]/\RdW R u bs/\bs.length<=1000
 post:=fun xs Hs Rs v Hs' F=>∃ u bs R,xs=[u]/\Rs=[R]/\RdW R u bs/\v=.int .u64 (bigI bs)
def sM:Walk Tryz.prog [] wE.fn where
 Λ:=fun p=>if lp p then some ⟨0,[(3,TI .u64 (.var 10)),(8,TI .i64 (.var 11))],[],12⟩else none
 args:=[.sv (.one (.sl (.var 0) (.var 1) (.var 2) (.var 3)))]
 mem:=[.ro 4 [.var 0] false]
 nv:=5
def A8:wE.OK Tryz.prog:=by
 refine Spec.of_fn (Γ:=[]) (fun _ h=>by cases h) ?_;rintro xs Hs Rs m s ⟨u,bs,R,rfl,rfl,⟨x,y,l,rfl,hy,n⟩,hlen⟩;have e0:Hs=[]:=MF.1 m;subst e0;refine⟨sM,envI [x,y,bs.length,l] false [Hl.none,Hl.none,Hl.none,Hl.none,R],bigInv bs,fun _ q=>(bs.length-q.i 11).toNat,?_,⟨?_,?_,?_,?_⟩,(fun _ h=>nomatch h),?_⟩
 .show [Value.slice (slP x y) ((bs.length:Int)).toNat ((l:Int)).toNat]=_;rw[MD,MD]
 .intro r hr ho;simp [sM]at hr;subst hr;cases ho
 .intro r hr ho;simp [sM]at hr;subst hr;exact⟨R,ar,Hl.le_refl _⟩
 .simp [sM]
 .intro r hr;simp [sM]at hr;subst hr;trivial
 .refine Walk.read [] [] [] ?_;generalize a:envI [x,y,bs.length,l] false [Hl.none,Hl.none,Hl.none,Hl.none,R]=J;have v0:J.i 0=x:=by rw[<-a];rfl
  have v1:J.i 1=y:=by rw[<-a];rfl
  have v2:J.i 2=bs.length:=by rw[<-a];rfl
  have o:J.h 4=R:=by rw[<-a];rfl
  simp only[go_sem,Nat.reduceAdd];rw[v2];refine⟨ae,⟨0,ae,rfl,rfl⟩,fun q g ⟨k,hk,b,c⟩=>?_⟩;rw[g.i 0,g.i 1,g.i 2,g.h 4,v0,v1,v2,o,b];refine⟨fun t=>?_,fun v=>?_⟩
  .have d:k<bs.length:=ae;have f:0<=x/\∀ j z,bs[j]?=some z->R.cell x.toNat (y.toNat+j)=some (.int .u8 z):=by
    rcases n with h | h
    .subst h;simp at d
    .exact h
   have p:R.cell x.toNat (y+k).toNat=some (.int .u8 bs[k]):=by
    rw[show(y+(k:Int)).toNat=y.toNat+k by omega];exact f.2 _ _ (ME d)
   rw[p];refine⟨f.1,hy,ae,rfl,⟨k+1,ae,?_,?_⟩,?_⟩
   .show IntKind.i64.wrap (q.i 11+1)=_;rw[b];exact wrap_i64 ae ae
   .show bigB (q.i 10) (valI ((q.h 4).cell (q.i 0).toNat (q.i 1+q.i 11).toNat))=_;rw[c,g.i 0,g.i 1,g.h 4,v0,v1,o,b,p,bigI_take bs k d];rfl
   .show((bs.length:Int)-IntKind.i64.wrap (q.i 11+1)).toNat<_;rw[b,wrap_i64 ae ae];omega
  .have e:k=bs.length:=ae;subst e;rw[NZ]at c;refine fun _=>⟨[],[],rfl,rfl,⟨(ay fun _=>q.i 10),rfl,zzT,zzT⟩,_,bs,R,rfl,rfl,⟨x,y,l,rfl,hy,n⟩,?_⟩;show Value.int .u64 (q.i 10)=_;rw[c]
def vP:Sx.Spec where
 fn:=127
 own:=[]
 rd:=[0]
 res:=[.one (.int .i64)]
 pre:=fun xs Hs Rs=>∃ p R bs bad,xs=[p]/\Rs=[R]/\cV R p bs bad
 post:=fun xs Hs Rs v Hs' F=>∃ p R bs bad,xs=[p]/\Rs=[R]/\cV R p bs bad/\v=.int .i64 bs.length
def BQ:Sx.Spec where
 fn:=128
 own:=[]
 rd:=[0]
 res:=[.one .bool]
 pre:=fun xs Hs Rs=>∃ p R bs bad,xs=[p]/\Rs=[R]/\cV R p bs bad
 post:=fun xs Hs Rs v Hs' F=>∃ p R bs bad,xs=[p]/\Rs=[R]/\cV R p bs bad/\v=.bool bad
def rU:Walk Tryz.prog [] vP.fn where
 Λ:=noLoops
 args:=[TP (.var 0) (.lit 0)]
 mem:=[.ro 1 [.var 0] false]
 nv:=2
def yR:Walk Tryz.prog [] BQ.fn where
 Λ:=noLoops
 args:=[TP (.var 0) (.lit 0)]
 mem:=[.ro 1 [.var 0] false]
 nv:=2
def zW:vP.OK Tryz.prog:=by
 refine Spec.of_fn (Γ:=[]) (fun _ h=>by cases h) ?_;rintro xs Hs Rs f g ⟨p,R,bs,bad,rfl,rfl,hIn⟩;have e0:Hs=[]:=MF.1 f;subst e0;obtain⟨a,x,y,c,rfl,d,j,hx,hy,k⟩:=hIn.whole;refine⟨rU,envI [(a:Int)] false [Hl.none,R],fun _ _=>True,fun _ _=>0,?_,⟨?_,?_,?_,?_⟩,(fun _ h=>nomatch h),?_⟩
 .show [Value.pointer (slP (a:Int) 0)]=_;rw[aY]
 .intro r hr ho;simp [rU]at hr;subst hr;cases ho
 .intro r hr ho;simp [rU]at hr;subst hr;exact⟨R,ar,Hl.le_refl _⟩
 .simp [rU]
 .intro r hr;simp [rU]at hr;subst hr;trivial
 .refine Walk.read [] [] [] ?_;generalize b:envI [(a:Int)] false [Hl.none,R]=J;have v0:J.i 0=a:=by rw[<-b];rfl
  have w1:J.h 1=R:=by rw[<-b];rfl
  clear b;have e:Int.toNat 0=0:=rfl;simp only[go_sem,Nat.reduceAdd,e];rw[v0,w1,MD,d,Db hx];refine⟨ae,rfl,ae,fun _=>⟨[],[],rfl,rfl,⟨(ay fun _=>bs.length),?_,zzT,zzT⟩,_,R,bs,bad,rfl,rfl,hIn,?_⟩⟩
  all_goals
   show Value.int .i64 (valP (((J.h 1).cell (J.i 0).toNat (Int.toNat 0+0))) 2)=_;rw[v0,w1,MD,e,NH,d,Db hx]
   try rfl
def BR:BQ.OK Tryz.prog:=by
 refine Spec.of_fn (Γ:=[]) (fun _ h=>by cases h) ?_;rintro xs Hs Rs f g ⟨p,R,bs,bad,rfl,rfl,hIn⟩;have e0:Hs=[]:=MF.1 f;subst e0;obtain⟨a,x,y,c,rfl,j,d,hx,hy,k⟩:=hIn.whole;refine⟨yR,envI [(a:Int)] false [Hl.none,R],fun _ _=>True,fun _ _=>0,?_,⟨?_,?_,?_,?_⟩,(fun _ h=>nomatch h),?_⟩
 .show [Value.pointer (slP (a:Int) 0)]=_;rw[aY]
 .intro r hr ho;simp [yR]at hr;subst hr;cases ho
 .intro r hr ho;simp [yR]at hr;subst hr;exact⟨R,ar,Hl.le_refl _⟩
 .simp [yR]
 .intro r hr;simp [yR]at hr;subst hr;trivial
 .refine Walk.read [] [] [] ?_;generalize b:envI [(a:Int)] false [Hl.none,R]=J;have v0:J.i 0=a:=by rw[<-b];rfl
  have w1:J.h 1=R:=by rw[<-b];rfl
  clear b;have e:Int.toNat 1=1:=rfl;simp only[go_sem,Nat.reduceAdd,e];rw[v0,w1,MD,d];refine⟨ae,rfl,fun _=>⟨[],[],rfl,rfl,⟨⟨fun _=>0,fun _=>bad,fun _=>.empty,fun _=>.tuple #[],fun _=>Hl.none⟩,?_,zzT,zzT⟩,_,R,bs,bad,rfl,rfl,hIn,?_⟩⟩
  all_goals
   show Value.bool (valB (((J.h 1).cell (J.i 0).toNat (Int.toNat 1+0))))=_;rw[v0,w1,MD,e,d]
   try rfl
def js (L:LM):Int:=bigI (L.note.take 8)
def xt:Sx.Spec where
 fn:=73
 own:=[]
 rd:=[0]
 res:=[.one (.int .u64)]
 pre:=fun xs Hs Rs=>∃ p R dp sl L,xs=[p]/\Rs=[R]/\LogRd R p dp sl L
 post:=fun xs Hs Rs v Hs' F=>∃ p R dp sl L,xs=[p]/\Rs=[R]/\LogRd R p dp sl L/\v=.int .u64 (js L)
def Ji:List Sx.Spec:=[wE,lnoteS]
def E5:∀ t∈Ji,t.OK Tryz.prog:=ai A8 <| ai lnoteS_ok <| aD
def zy:Walk Tryz.prog Ji xt.fn where
 Λ:=noLoops
 args:=[TP (.var 0) (.lit 0)]
 mem:=[.ro 1 [.var 0] false]
 nv:=2
def Kt:wE.res=[.one (.int .u64)]:=rfl
def Ku:lnoteS.res=[.agg (u8s 16)]:=rfl
def Cd:xt.OK Tryz.prog:=by
 refine Spec.of_fn (Γ:=Ji) E5 ?_;rintro xs Hs Rs k t ⟨p,R,dp,sl,L,rfl,rfl,g⟩;have e0:Hs=[]:=MF.1 k;subst e0;obtain⟨a,rfl,l⟩:=id g;refine⟨zy,envI [(a:Int)] false [Hl.none,R],fun _ _=>True,fun _ _=>0,?_,⟨?_,?_,?_,?_⟩,(fun _ h=>nomatch h),?_⟩
 .show [Value.pointer (slP (a:Int) 0)]=_;rw[aY]
 .intro r hr ho;simp [zy]at hr;subst hr;cases ho
 .intro r hr ho;simp [zy]at hr;subst hr;exact⟨R,ar,Hl.le_refl _⟩
 .simp [zy]
 .intro r hr;simp [zy]at hr;subst hr;trivial
 .refine Walk.read [] [] [] ?_;generalize c:envI [(a:Int)] false [Hl.none,R]=J;have v0:J.i 0=a:=by rw[<-c];rfl
  have w1:J.h 1=R:=by rw[<-c];rfl
  clear c;simp only[go_sem,Nat.reduceAdd,Ji,Kt,Ku];rw[v0,w1,aY];refine⟨⟨_,R,dp,sl,L,rfl,rfl,g⟩,fun q1 x ⟨y,⟨A,R',dp',sl',L',e1,d,m,hv⟩,_⟩ q2 u p2=>?_⟩;simp only[MH,MZ]at e1 d;subst e1 d;obtain⟨_,_,rfl⟩:=g.uniq m;have v:(ckCVs 2 (List.replicate 16 (Ck.int .u8))).map (CV.ev q1)=bys L.note:=M4 (Value.agg.inj hv);have n:(ckCVs 2 (List.replicate 16 (Ck.int .u8))).map (CV.ev q2)=bys L.note:=(CV.agreeL u _ aj).trans v;have e:=l.1.note;have f:RdW (Hl.one (q2.i 18).toNat (.cells (bys L.note).toArray 33 (0,0))) (.slice (slP (q2.i 18) 0) (Int.toNat 8) (Int.toNat 16)) (L.note.take 8):=by
   refine⟨q2.i 18,0,16,?_,MT _,Or.inr ⟨p2,fun j z o=>?_⟩⟩
   .rw[M3,e];rfl
   .have q:j<8:=by have:=(MK.1 o).1;rw[M3]at this;omega
    rw[Nv q]at o;rw[Hl.one_cell,N7,bys_get,PZ,Nw,o];rfl
  rw[n];refine⟨⟨_,_,_,rfl,rfl,f,by rw[M3];omega⟩,fun w g3 ⟨B,⟨C,bs',R3,e1,d,s,b⟩,_⟩ _=>?_⟩;simp only[MH,MZ]at e1 d;subst e1 d;rw[<-f.uniq s]at b;have b:Value.int .u64 (w.i 19)=.int .u64 (js L):=b;exact⟨[],[],rfl,rfl,⟨(ay fun _=>js L),b,zzT,zzT⟩,_,R,dp,sl,L,rfl,rfl,g,b⟩
end Go.Proofs.YtbdikjnpbnobcaaGreatDoor
namespace Go.Sx
open Go
variable {F G:Hl}{us ws:List Value}{b i k m n:Nat}{e:TypeId}{v:Value}
def OwnsH.qp (h:OwnsH F e k v n us) (hb:v.ownBlock=some b):F.mem b:=by
 rcases h.2 with ⟨h,_⟩ | ⟨a,cap,cur,h,hg,_⟩
 .rw[h]at hb;cases hb
 .rw[h]at hb;have:a=b:=by simpa [Value.ownBlock] using hb
  subst this;unfold Hl.mem;rw[hg];rfl
def OwnsH.mono (hl:F.le G) (h:OwnsH F e k v m us):OwnsH G e k v m us:=by
 refine⟨h.1,h.2.imp id fun⟨g,cap,cur,hv,hg,r⟩=>⟨g,cap,cur,hv,hl _ _ hg,r⟩⟩
def OwnsH.inj (h1:OwnsH F e k v n us) (h2:OwnsH F e k v m ws):n=m/\us=ws:=by
 obtain⟨c,h1⟩:=h1;obtain⟨d,h2⟩:=h2;rcases h1 with ⟨h1,hn⟩ | ⟨g,cap,cur,h1,hg,_,_,_,h⟩<;>rcases h2 with ⟨h2,hm⟩ | ⟨l,f,cur',h2,a,_,_,_,b⟩
 .subst hn;subst hm;refine⟨rfl,?_⟩;rw[Qj]at c d;rw[MF.1 c,MF.1 d]
 .rw[h1]at h2;cases h2
 .rw[h1]at h2;cases h2
 .rw[h1]at h2;simp only[Value.slice.injEq,MP,Addr.mk.injEq,MZ]at h2;obtain⟨i,j,_⟩:=h2;subst i;subst j;rw[hg]at a;simp only[MP,Obj.cells.injEq,MZ]at a;rw[<-h,<-b,a];exact⟨rfl,rfl⟩
def OwnsH.cellAt {x l c:Int} (h:OwnsH F e 1 (.slice (slP x 0) l.toNat c.toNat) n us) (hx:-1<=x) (hi:i<n):0<=x/\F.cell x.toNat i=us[i]?:=by
 obtain⟨hl,h⟩:=h;rcases h with ⟨_,hn⟩ | ⟨g,cap,cur,hv,hg,hle,hm,hs,a⟩
 .omega
 .simp only[Value.slice.injEq]at hv;obtain⟨hp,_,_⟩:=hv;have h0:0<=x:=by
   rcases NU x 0 with b | h0
   .rw[show x= -1 by omega,slP_nil]at hp;cases hp
   .exact h0
  rw[slP_pos h0]at hp;simp only[MP,Addr.mk.injEq,MZ]at hp;refine⟨h0,?_⟩;rw[hp.1,<-a];unfold Hl.cell;rw[hg,Nv ae,OW]
end Go.Sx
namespace Go.Proofs.YtbdikjnpbnobcaaGreatDoor
open Go Go.Sx Go.Pk
variable {B F G H R RA:Hl}{x x' y:Int}{a b rows:List (List Int)}{bs r:List Int}{c j k l:Nat}{o o':Option Nat}{u v v':Value}
def Dc {a b:Int} (hx:0<=x) (hy:0<=y) (hb:0<=b) (h:slP a b=slP x y):a=x/\b=y:=by
 rcases NU a 0 with c | c
 .exfalso;rw[slP_pos hx]at h;unfold slP at h;rw[MM ae]at h;split at h
  .cases h
  .simp only[MP,Addr.mk.injEq]at h;obtain⟨_,_,h⟩:=h;cases h
 .rw[slP_pos c,slP_pos hx]at h;simp only[MP,Addr.mk.injEq]at h;omega
def vX {a:Int} (h:0<=a):(Value.slice (slP a y) l c).ownBlock=some a.toNat:=by
 rw[slP_pos h];rfl
def uV {l' c':Nat} (hx:-1<=x') (h:some x'.toNat=(Value.slice (slP x 0) l c).ownBlock\/¬H.mem x'.toNat\/x'= -1):∀ b,H.mem b->some b≠(Value.slice (slP x 0) l c).ownBlock->some b≠(Value.slice (slP x' 0) l' c').ownBlock:=by
 intro b hb a he;rcases NU x' 0 with hn | hn
 .rw[show x'= -1 by omega,slP_nil]at he;cases he
 .rw[vX hn]at he;have he:b=x'.toNat:=by simpa using he
  rcases h with h | h | h
  .exact a (by rw[he];exact h)
  .rw[<-he]at h;exact h hb
  .omega
def gz (F:Hl) (o:Option Nat) (u:Value) (r:List Int):Prop:=∃ (x y:Int) (c:Nat),u=.slice (slP x y) r.length c/\ -1<=x/\0<=y/\(r=[]\/(0<=x/\some x.toNat≠o/\∀ j z,r[j]?=some z->F.cell x.toNat (y.toNat+j)=some (.int .u8 z)))
def y9 {b:Nat} (h:F.cell b j=some v):F.mem b:=by
 unfold Hl.cell at h;unfold Hl.mem;cases a:F b with
 | none=>rw[a]at h;cases h
 | some o=>rfl
def cell_of {b:Nat} (h:F.cell b j=some v) (e:G b=F b):G.cell b j=some v:=by
 unfold Hl.cell at h ⊢;rw[e];exact h
def gz.keep (h:gz F o u r) (hk:∀ b,F.mem b->some b≠o->G b=F b) (hn:∀ b,F.mem b->some b≠o->some b≠o'):gz G o' u r:=by
 obtain⟨x,y,c,hu,hx,hy,h⟩:=h;refine⟨x,y,c,hu,hx,hy,?_⟩;cases r with
 | nil=>exact Or.inl rfl
 | cons z r =>
  rcases h with h | ⟨h0,a,d⟩
  .cases h
  .have hm:F.mem x.toNat:=y9 (d 0 z rfl);exact Or.inr ⟨h0,hn _ hm a,fun j w e=>cell_of (d j w e) (hk _ hm a)⟩
def gz.rd (h:gz F o u r):RdW F u r:=by
 obtain⟨x,y,c,hu,_,hy,h⟩:=h;exact⟨x,y,c,hu,hy,h.imp id fun h=>⟨h.1,h.2.2⟩⟩
def gz.of {l c:Int} (h:RdW F (.slice (slP x y) l.toNat c.toNat) r) (hx:-1<=x) (hy:0<=y):gz F none (.slice (slP x y) l.toNat c.toNat) r:=by
 obtain⟨x',y',c',hu,a,h⟩:=h;simp only[Value.slice.injEq]at hu;obtain⟨h1,h2,d⟩:=hu;refine⟨x,y,c.toNat,by rw[h2],hx,hy,h.imp id fun⟨h0,h⟩=>?_⟩;obtain⟨e1,b⟩:=slP_inj hx hy ae a h1;subst e1;have b:=b h0;subst b;exact⟨h0,ar,h⟩
def aM (F:Hl) (v:Value) (rows:List (List Int)):Prop:=∃ us:List Value,OwnsH F 22 1 v rows.length us /\
 ∀ (j:Nat) (u:Value) (r:List Int),us[j]?=some u->rows[j]?=some r->gz F v.ownBlock u r
def aM.nil (F:Hl):aM F (.slice none 0 0) []:=⟨[],⟨rfl,Or.inl ⟨rfl,rfl⟩⟩,(fun j u r h=>by simp at h)⟩
def aM.len {us:List Value} (h:OwnsH F 22 1 v rows.length us):us.length=rows.length:=by
 have:=h.1;omega
def aM.mono (hl:F.le G) (h:aM F v rows):aM G v rows:=by
 obtain⟨us,ho,hr⟩:=h;refine⟨us,OwnsH.mono hl ho,fun j u r hu a=>(hr j u r hu a).keep (fun b hm _=>?_) (fun _ _ h=>h)⟩;obtain⟨o,ho⟩:=NJ.1 hm;rw[hl _ _ ho,ho]
def aM.snoc (h:aM F v rows) (hd:F.dis B) (hu:gz B none u r)
 (happ:∀ xs,OwnsH (F.un B) 22 1 v rows.length xs->OwnsH G 22 1 v' (rows.length+1) (xs++[u]))
 (hk:∀ b,(F.un B).mem b->some b≠v.ownBlock->G b=(F.un B) b) (hn:∀ b,(F.un B).mem b->some b≠v.ownBlock->some b≠v'.ownBlock):aM G v' (rows++[r]):=by
 obtain⟨us,ho,hr⟩:=h;have d:=aM.len ho;have hold:∀ (j:Nat) (w:Value) (s:List Int),us[j]?=some w->rows[j]?=some s->gz (F.un B) v.ownBlock w s:=fun j w s a hs =>
  (hr j w s a hs).keep (fun b hm _=>by obtain⟨o,ho⟩:=NJ.1 hm;rw[Hl.un_at_left ho,ho]) (fun b _ h=>h)
 have c:gz (F.un B) v.ownBlock u r:=hu.keep (fun b hm _=>by rw[Hl.un_at_right fun h2=>hd b ⟨h2,hm⟩]) fun b hm _ e=>hd b ⟨ho.qp e.symm,hm⟩;refine⟨us++[u],?_,fun j w s a hs=>?_⟩
 .rw[MJ,Nq];exact happ us (ho.mono (Hl.un_left _ _))
 .rcases ND j us.length with hl | hl
  .rw[M5 hl]at a;rw[M5 ae]at hs;exact(hold j w s a hs).keep hk hn
  .rw[MX hl]at a;rw[MX ae]at hs;have a:=MG a;have hs:=MG hs;rw[MO]at a hs;subst a;subst hs;exact c.keep hk hn
def aM.at {l c:Int} (h:aM F (.slice (slP x 0) l.toNat c.toNat) rows) (hx:-1<=x) (hl:0<=l):l=rows.length/\∀ (i:Nat) r,rows[i]?=some r->0<=x/\∃ u,F.cell x.toNat i=some u/\gz F (some x.toNat) u r:=by
 obtain⟨us,ho,hr⟩:=h;have b:=aM.len ho;refine⟨?_,fun i r hi=>?_⟩
 .rcases ho.2 with ⟨h,hn⟩ | ⟨g,cap,cur,h,_⟩
  .simp only[Value.slice.injEq]at h;omega
  .simp only[Value.slice.injEq]at h;omega
 .have a:=(MK.1 hi).1;obtain⟨h0,d⟩:=ho.cellAt hx a;have hu:us[i]?=some us[i]:=ME ae;have:=hr i _ r hu hi;rw[vX h0]at this;exact⟨h0,_,by rw[d,hu],this⟩
def aM.uniq (h1:aM F v a) (h2:aM F v b):a=b:=by
 obtain⟨us,ho,hr⟩:=h1;obtain⟨ws,c,d⟩:=h2;obtain⟨el,e⟩:=ho.inj c;subst e;have g:=aM.len ho;apply Oq el;intro j h f;have hu:us[j]?=some us[j]:=ME ae;exact(hr j _ _ hu (ME h)).rd.uniq (d j _ _ hu (ME f)).rd
def kX {l c c':Int} (h:aM F (.slice (slP x 0) l.toNat c.toNat) rows) (hx:-1<=x) (hl:0<=l) (hd:F.dis B) (hu:gz B none u r) (a:-1<=x')
 (happ:∀ xs,OwnsH (F.un B) 22 1 (.slice (slP x 0) l.toNat c.toNat) l.toNat xs->OwnsH G 22 1 (.slice (slP x' 0) (l.toNat+1) c'.toNat) (l.toNat+1) (xs++[u]))
 (hkeep:∀ b,(F.un B).mem b->some b≠(Value.slice (slP x 0) l.toNat c.toNat).ownBlock->G b=(F.un B) b) (hnew:some x'.toNat=(Value.slice (slP x 0) l.toNat c.toNat).ownBlock\/¬(F.un B).mem x'.toNat\/x'= -1):aM G (.slice (slP x' 0) (l+1).toNat c'.toNat) (rows++[r]):=by
 have e:l=rows.length:=(h.at hx hl).1;have e1:(l+1).toNat=rows.length+1:=ae;have d:l.toNat=rows.length:=ae;rw[d]at happ;rw[e1];rw[d]at h hkeep hnew;exact aM.snoc h hd hu happ hkeep (uV a hnew)
def tx (bs:List Int):List Int×List Int×Bool:=bW bs false 4096
def iD:Nat->List Int->List (List Int)
 | 0,_=>[]
 | n+1,bs=>if bs=[]then []else if(tx bs).2.2=true then []else(tx bs).1::iD n (tx bs).2.1
def db (bs:List Int):List (List Int):=iD bs.length bs
def qO (h0:bs≠[]) (h:(tx bs).2.2=false):(tx bs).2.1.length<bs.length:=by
 have hl:0<bs.length:=List.length_pos_iff.2 h0;unfold tx bW at h ⊢;split at h
 .cases h
 .rename_i a;rw[MM a];have h2:(aJ bs).2≠0:=fun e=>a (Or.inr (Or.inl e));show(bs.drop _).length<_;rw[Nj];omega
def gL:∀ n,iD n []=[]
 | 0=>rfl
 | _+1=>rfl
def lS:∀ (n m:Nat) (bs:List Int),bs.length<=n->bs.length<=m->iD n bs=iD m bs
 | 0,m,bs,h,_=>by
  have:bs=[]:=MF.1 ae;rw[this,gL,gL]
 | n+1,0,bs,_,h=>by
  have:bs=[]:=MF.1 ae;rw[this,gL,gL]
 | n+1,m+1,bs,h1,h2=>by
  unfold iD;by_cases h0:bs=[]
  .rw[M0 h0,M0 h0]
  .rw[MM h0,MM h0];by_cases hb:(tx bs).2.2=true
   .rw[M0 hb,M0 hb]
   .rw[MM hb,MM hb];have:=qO h0 (N4.2 hb);rw[lS n m _ ae ae]
def lQ (n:Nat) (bs:List Int) (h:bs.length<=n):iD n bs=db bs:=lS n bs.length bs h (M1 _)
def pI (h:bs≠[]):db bs=if(tx bs).2.2=true then []else(tx bs).1::db (tx bs).2.1:=by
 rw[<-lQ (bs.length+1) bs ae];show(if bs=[]then []else if(tx bs).2.2=true then []else(tx bs).1::iD bs.length (tx bs).2.1)=_;rw[MM h];cases hb:(tx bs).2.2 with
 | true=>rfl
 | false=>rw[MM ar,MM ar,lQ _ _ (by have:=qO h hb;omega)]
def lh:Sx.Spec where
 fn:=74
 own:=[]
 rd:=[0]
 res:=[.one .sl]
 pre:=fun xs Hs Rs=>∃ u bs R,xs=[u]/\Rs=[R]/\RdW R u bs/\ah bs/\bs.length<=1000000
 post:=fun xs Hs Rs v Hs' F=>∃ u bs R,xs=[u]/\Rs=[R]/\RdW R u bs/\aM F v (db bs)
def JG:List Sx.Spec:=[gH,vP,jk,BQ]
def Gs:∀ t∈JG,t.OK Tryz.prog:=ai gl <| ai zW <| ai oq <| ai BR <| aD
def oj:Walk Tryz.prog JG lh.fn where
 Λ:=fun p=>if xF p then some ⟨0,[(3,.sv (.one (.sl (.var 53) (.lit 0) (.var 54) (.var 55))))],[(1,.hp 51 [] [.var 5] []),(2,.hp 56 [] [.var 53] [])],60⟩else none
 args:=[.sv (.one (.sl (.var 0) (.var 1) (.var 2) (.var 3)))]
 mem:=[.ro 4 [.var 0] false]
 nv:=5
def LK:gH.res=[.one .ptr]:=rfl
def LL:vP.res=[.one (.int .i64)]:=rfl
def LN:jk.res=[.one .sl]:=rfl
def LO:BQ.res=[.one .bool]:=rfl
def BB (n:Nat):(cpRoots n [Cp.one .sl]≠[])=True:=by simp [cpRoots,Cp.roots,Ck.root]
def Ge (n:Nat):(cpRoots n [Cp.one .ptr]≠[])=True:=by simp [cpRoots,Cp.roots,Ck.root]
def yq:lh.OK Tryz.prog:=by
 refine Spec.of_fn (Γ:=JG) Gs ?_;rintro xs Hs Rs O aj ⟨u,bs,R,rfl,rfl,n,hby,hlen⟩;have e0:Hs=[]:=MF.1 O;subst e0;obtain⟨x,y,c,rfl,hy,hR⟩:=id n;refine⟨oj,envI [x,y,bs.length,c] false [Hl.none,Hl.none,Hl.none,Hl.none,R],fun _ q=>∃ rest rows,cV (q.h 51) (.pointer (slP (q.i 5) (q.i 6))) rest false/\ -1<=q.i 53/\0<=q.i 54/\0<=q.i 55/\aM (q.h 56) (.slice (slP (q.i 53) 0) (q.i 54).toNat (q.i 55).toNat) rows/\rows++db rest=db bs/\rows.length+rest.length<=bs.length,fun _ q=>(bs.length-q.i 54).toNat,?_,⟨?_,?_,?_,?_⟩,(fun _ h=>nomatch h),?_⟩
 .show [Value.slice (slP x y) ((bs.length:Int)).toNat ((c:Int)).toNat]=_;rw[MD,MD]
 .intro r hr ho;simp [oj]at hr;subst hr;cases ho
 .intro r hr ho;simp [oj]at hr;subst hr;exact⟨R,ar,Hl.le_refl _⟩
 .simp [oj]
 .intro r hr;simp [oj]at hr;subst hr;trivial
 .refine Walk.read [] [] [] ?_;generalize e:envI [x,y,bs.length,c] false [Hl.none,Hl.none,Hl.none,Hl.none,R]=J;have v0:J.i 0=x:=by rw[<-e];rfl
  have v1:J.i 1=y:=by rw[<-e];rfl
  have v2:J.i 2=bs.length:=by rw[<-e];rfl
  have v3:J.i 3=c:=by rw[<-e];rfl
  have w4:J.h 4=R:=by rw[<-e];rfl
  clear e;have out:∀ {q:Env} {rows:List (List Int)} {mem:Mem},okIdx mem [] [2]=true->(uni q mem [2])=q.h 56-> -1<=q.i 53->0<=q.i 54->0<=q.i 55->aM (q.h 56) (.slice (slP (q.i 53) 0) (q.i 54).toNat (q.i 55).toNat) rows->rows=db bs->postOf lh [.slice (slP x y) bs.length c] [] [R] q mem (.sv (.one (.sl (.var 53) (.lit 0) (.var 54) (.var 55)))):=by
   intro q rows mem hok hu h1 h2 h3 hr he _;subst he;exact⟨[],[2],rfl,hok,⟨(ay fun k=>[q.i 53,0,q.i 54,q.i 55].getD k 0),rfl,⟨h1,MT _,h2,h3⟩,zzT⟩,_,bs,R,rfl,rfl,n,by rw[hu];exact hr⟩
  simp only[go_sem,Nat.reduceAdd,JG,LK,LL,LN,LO,BB,Ge];rw[v0,v1,v2,v3,w4,MD,MD];refine⟨⟨_,bs,R,rfl,rfl,n,hby,hlen⟩,fun q1 g1 ⟨F1,⟨u',bs',R',e1,g,P,hIn⟩,Q,_⟩=>?_⟩;simp only[MH,MZ]at e1 g;subst e1 g;obtain rfl:=n.uniq P;rw[<-Q zzT]at hIn;refine⟨⟨bs,[],hIn,MT _,MT _,MT _,aM.nil _,rfl,ar⟩,fun q2 g2 ⟨rest,rows,hI,o,j,A,B,l,hle⟩=>?_⟩;have ak:=(B.at o j).1;refine⟨⟨_,_,rest,false,rfl,rfl,hI⟩,fun q3 g3 ⟨F3,⟨p3,R3,al,af,e1,g,S,t⟩,_⟩=>?_⟩;simp only[MH,MZ]at e1 g;subst e1 g;obtain⟨K,_⟩:=hI.uniq S;subst K;have t:q3.i 60=rest.length:=by simpa using t
  rw[t];have C:rest.length=0->rows=db bs:=fun h=>by
   have:rest=[]:=MF.1 h;subst this;rw[<-l];exact(Nu _).symm
  refine⟨fun D=>?_,fun ag=>out rfl (hls_one _) (by rw[g3.i 53];exact o) (by rw[g3.i 54];exact j) (by rw[g3.i 55];exact A) (by rw[g3.i 53,g3.i 54,g3.i 55,g3.h 56];exact B) (C ae)⟩;have E:rest≠[]:=by rintro rfl;simp at D
  rw[g3.i 5,g3.i 6,g3.h 51];refine⟨⟨_,4096,_,rest,false,rfl,rfl,hI,ae⟩,fun d g4 ⟨F4,⟨p4,m4,H4,an,ah,ao,e1,g,T,K,a,p⟩,U,s⟩=>?_⟩;simp only[MH,Value.int.injEq,Nz,MZ]at e1 g K;obtain⟨e1,em⟩:=e1;subst e1 em g;obtain⟨e4,V⟩:=hI.uniq T;subst e4 V;rw[<-K]at a;rw[<-U zzT]at p;have a:cV (d.h 61) (.pointer (slP (q2.i 5) (q2.i 6))) (tx rest).2.1 (tx rest).2.2:=a;have p:OwB (d.h 62) 5 (.slice (slP (d.i 61) (d.i 62)) (d.i 63).toNat (d.i 64).toNat) (tx rest).1:=p;have s:-1<=d.i 61/\0<=d.i 62/\0<=d.i 63/\0<=d.i 64:=s.1;rw[g4.i 5,g4.i 6,g3.i 5,g3.i 6];refine⟨⟨_,_,_,_,rfl,rfl,a⟩,fun W g5 ⟨F5,⟨p5,R5,aq,ai,e1,g,X,v⟩,_⟩=>?_⟩;simp only[MH,MZ]at e1 g;subst e1 g;obtain⟨_,V⟩:=a.uniq X;subst V;have v:W.b 65=(tx rest).2.2:=by simpa [bev_bvar] using v
  have F:=pI E;have G:Agree 60 q2 W:=g3.trans ((g4.tr g5).mono ae);have G4:Agree 65 d W:=g5;rw[v];refine⟨fun hb=>out rfl (hls_one _) (by rw[G.i 53];exact o) (by rw[G.i 54];exact j) (by rw[G.i 55];exact A) (by rw[G.i 53,G.i 54,G.i 55,G.h 56];exact B) (by rw[<-l,F,M0 hb,Nu]),fun hb L M _ q7 g7 ⟨e7,H⟩=>?_⟩;have hb:(tx rest).2.2=false:=N4.2 hb;have N:Agree 60 q2 q7:=G.trans ((M.tr g7).mono ae);have m:Agree 65 d q7:=G4.trans ((M.tr g7).mono ae);have Y:Agree 65 d L:=G4.tr M;have G6:Agree 60 q2 L:=G.tr M;have hu:gz (L.h 62) none (.slice (slP (q7.i 61) (q7.i 62)) (q7.i 63).toNat (q7.i 64).toNat) (tx rest).1:=by
   rw[Y.h 62,m.i 61,m.i 62,m.i 63,m.i 64];exact gz.of p.rd.w s.1 s.2.1
  rw[e7,G6.h 56,N.i 53,N.i 54,N.i 55];rw[G6.h 56]at H;have I:∃ xs,OwnsH ((q2.h 56).un (L.h 62)) 22 1 (.slice (slP (q2.i 53) 0) (q2.i 54).toNat (q2.i 55).toNat) (q2.i 54).toNat xs:=by
   obtain⟨us,ho,_⟩:=B;rw[show(q2.i 54).toNat=rows.length by omega]at ho ⊢;exact⟨us,ho.mono (Hl.un_left _ _)⟩
  refine⟨⟨I,j,by unfold maxLen;omega,ae⟩,fun f g8 ⟨a1,a2,happ,hk,_,hn⟩=>?_⟩;have Z:Agree 60 q2 f:=N.tr g8;have aa:Agree 65 d f:=m.tr g8;have z:=kX B o j H hu a1 happ hk hn;have ab:f.i 54+1=q2.i 54+1:=by rw[Z.i 54]
  have ad:=qO E hb;refine⟨⟨(tx rest).2.1,rows++[(tx rest).1],?_,a1,?_,a2,?_,?_,?_⟩,?_⟩
  .show cV (f.h 61) (.pointer (slP (f.i 5) (f.i 6))) _ _;rw[aa.h 61,Z.i 5,Z.i 6,<-hb];exact a
  .show 0<=f.i 54+1;omega
  .show aM (f.h 68) (.slice (slP (f.i 68) 0) (f.i 54+1).toNat (f.i 69).toNat) _;rw[ab];exact z
  .rw[MY,<-l,F,MM (by rw[hb];simp)];rfl
  .rw[MJ,Nq];omega
  .show((bs.length:Int)-(f.i 54+1)).toNat<_;omega
def fC (h:∃ a l c,u=.slice a l c):Value.slice (slP (valP (some u) 0) (valP (some u) 1)) (valP (some u) 2).toNat (valP (some u) 3).toNat=u:=by
 obtain⟨a,n,c,rfl⟩:=h;cases a with
 | none=>simp [valP,slP]
 | some a =>
  obtain⟨b,o,s⟩:=a;cases s with
  | none=>simp [valP,slP]
  | some s =>
   simp only[valP,MD];unfold slP;rw[MM ae,MM ae,MD,unp_pair,show(-(-(b:Int)-2)-2).toNat=b by omega]
def RdW.parts (h:RdW R u r):(∃ a l c,u=.slice a l c)/\valP (some u) 2=r.length /\
 (valP (some u) 0= -1\/valP (some u) 2=0\/0<=valP (some u) 0/\0<=valP (some u) 1/\cellBytes R (valP (some u) 0).toNat (valP (some u) 1).toNat (valP (some u) 2).toNat=true) /\
 (if valP (some u) 0= -1 then ByteArray.empty else bytesOf (cellInts R (valP (some u) 0).toNat (valP (some u) 1).toNat (valP (some u) 2).toNat))=bytesOf r:=by
 obtain⟨x,y,c,rfl,hy,h⟩:=h;have h2:valP (some (.slice (slP x y) r.length c)) 2=r.length:=by
  cases hs:slP x y with
  | none=>rfl
  | some a=>obtain⟨b,o,s⟩:=a;cases s<;>rfl
 refine⟨⟨_,_,_,rfl⟩,h2,?_⟩;rw[h2];rcases h with h | ⟨hx,d⟩
 .subst h;refine⟨Or.inr (Or.inl rfl),?_⟩;show(if _ then ByteArray.empty else bytesOf (cellInts R _ _ 0))=ByteArray.empty;split<;>rfl
 .rw[IT ae,JD hx hy,MD];refine⟨Or.inr (Or.inr ⟨hx,hy,cells_bytes d (M1 _)⟩),?_⟩;rw[MM ae,cells_ints d]
def dz (R RA:Hl) (v:Value) (rows:List (List Int)):Prop:=∃ (us:List Value) (x y:Int) (c:Nat),v=.slice (slP x y) us.length c/\0<=y/\us.length=rows.length/\(∀ (j:Nat) (u:Value),us[j]?=some u->0<=x/\R.cell x.toNat (y.toNat+j)=some u)/\(∀ (j:Nat) (u:Value) (r:List Int),us[j]?=some u->rows[j]?=some r->RdW RA u r)
def dz.uniq (h1:dz R RA v a) (h2:dz R RA v b):a=b:=by
 obtain⟨us,x,y,c,hv,hy,hl,o,hr⟩:=h1;obtain⟨d,x',y',c',e,i,p,k,l⟩:=h2;rw[hv]at e;simp only[Value.slice.injEq]at e;obtain⟨q,el,_⟩:=e;apply Oq ae;intro j r m;have hu:us[j]?=some us[j]:=ME ae;have g:d[j]?=some d[j]:=ME ae;obtain⟨hx,e1⟩:=o j _ hu;obtain⟨s,h⟩:=k j _ g;obtain⟨n,f⟩:=slP_inj ae hy ae i q;have f:=f hx;subst n;subst f;rw[e1]at h;have h:us[j]=d[j]:=by simpa using h
 have h1:=hr j _ _ hu (ME r);have h2:=l j _ _ g (ME m);rw[h]at h1;exact h1.uniq h2
def dz.at (h:dz R RA (.slice (slP x y) l c) rows) (hy:0<=y):l=rows.length/\∀ (i:Nat) r,rows[i]?=some r->0<=x/\∃ u,R.cell x.toNat (y.toNat+i)=some u/\RdW RA u r:=by
 obtain⟨us,x',y',c',hv,a,hl,b,hr⟩:=h;simp only[Value.slice.injEq]at hv;obtain⟨d,el,_⟩:=hv;refine⟨ae,fun i r hi=>?_⟩;have f:=(MK.1 hi).1;have hu:us[i]?=some us[i]:=ME ae;obtain⟨hx,e⟩:=b i _ hu;obtain⟨rfl,rfl⟩:=Dc hx a hy d;exact⟨hx,_,e,hr i _ r hu hi⟩
def aH (rows:List (List Int)):List Int:=(rows.map ak).flatten
def c9 (rows:List (List Int)):Prop:=∀ r∈rows,r.length<=4096
def ud (h:rows[k]?=some r):aH (rows.take (k+1))=aH (rows.take k)++ak r:=by
 unfold aH;rw[Oh,h,OT,M9,O8];simp
def ke:Sx.Spec where
 fn:=183
 own:=[]
 rd:=[0,3000000]
 res:=[.one .sl,.one (.int .i64)]
 pre:=fun xs Hs Rs=>∃ v R RA rows,xs=[v]/\Rs=[R,RA]/\dz R RA v rows/\rows.length<=1000000/\∀ r∈rows,0<=r.length
 post:=fun xs Hs Rs w Hs' F=>∃ v R RA rows u e,xs=[v]/\Rs=[R,RA]/\dz R RA v rows/\w=.tuple #[u,.int .i64 e]/\(c9 rows->e=0/\OwB F 5 u (aH rows))/\(¬c9 rows->e=3)
def Ju:List Sx.Spec:=[ef,fw]
def Fz:∀ t∈Ju,t.OK Tryz.prog:=ai kO <| ai gb <| aD
def kf:Walk Tryz.prog Ju ke.fn where
 Λ:=fun p=>if xF p then some ⟨0,[(4,.sv (.one (.sl (.var 53) (.lit 0) (.var 54) (.var 55)))),(12,TI .i64 (.var 50))],[(2,.hp 56 [] [.var 53] [])],60⟩else none
 args:=[.sv (.one (.sl (.var 0) (.var 1) (.var 2) (.var 3)))]
 mem:=[.ro 4 [.var 0] false,.ro 5 [] true]
 nv:=6
def KV:ef.res=[]:=rfl
def KW:fw.res=[.one .sl,.one (.int .i64)]:=rfl
def Lq (n:Nat):(cpRoots n [Cp.one .sl,Cp.one (.int .i64)]≠[])=True:=by simp [cpRoots,Cp.roots,Ck.root]
def ue:ke.OK Tryz.prog:=by
 refine Spec.of_fn (Γ:=Ju) Fz ?_;rintro xs Hs Rs V aq ⟨v,R,RA,rows,rfl,rfl,hB,hlen,av⟩;have e0:Hs=[]:=MF.1 V;subst e0;obtain⟨us,x,y,c,rfl,hy,au,t,W⟩:=id hB;refine⟨kf,envI [x,y,us.length,c] false [Hl.none,Hl.none,Hl.none,Hl.none,R,RA],fun _ q=>∃ k:Nat,q.i 50=k/\k<=rows.length/\(∀ r∈rows.take k,r.length<=4096)/\ -1<=q.i 53/\q.i 54=(aH (rows.take k)).length/\0<=q.i 55/\OwB (q.h 56) 5 (.slice (slP (q.i 53) 0) (q.i 54).toNat (q.i 55).toNat) (aH (rows.take k))/\(aH (rows.take k)).length<=4106*k,fun _ q=>(rows.length-q.i 50).toNat,?_,⟨?_,?_,?_,?_⟩,(fun _ h=>nomatch h),?_⟩
 .show [Value.slice (slP x y) ((us.length:Int)).toNat ((c:Int)).toNat]=_;rw[MD,MD]
 .intro r hr ho;simp [kf]at hr;rcases hr with rfl | rfl<;>cases ho
 .intro r hr ho;simp [kf]at hr;rcases hr with rfl | rfl
  .exact⟨R,ar,Hl.le_refl _⟩
  .exact⟨RA,ar,Hl.le_refl _⟩
 .simp [kf,Res.own]
 .intro r hr;simp [kf]at hr;rcases hr with rfl | rfl<;>trivial
 .refine Walk.read [] [] [] ?_;generalize f:envI [x,y,us.length,c] false [Hl.none,Hl.none,Hl.none,Hl.none,R,RA]=J;have v0:J.i 0=x:=by rw[<-f];rfl
  have v1:J.i 1=y:=by rw[<-f];rfl
  have v2:J.i 2=us.length:=by rw[<-f];rfl
  have v3:J.i 3=c:=by rw[<-f];rfl
  have w4:J.h 4=R:=by rw[<-f];rfl
  have w5:J.h 5=RA:=by rw[<-f];rfl
  clear f;simp only[go_sem,Nat.reduceAdd,Ju,KV,KW,Lq];rw[v2];refine⟨ae,⟨0,rfl,NO _,ar,MT _,rfl,MT _,⟨rfl,Or.inl ⟨rfl,rfl⟩⟩,by simp [aH]⟩,fun q g ⟨k,X,hk,u,Y,Z,aa,hO,hle⟩=>?_⟩;rw[g.i 0,g.i 1,g.i 2,g.h 4,v0,v1,v2,w4,X];refine⟨fun aw=>?_,fun az=>?_⟩
  .have B:k<rows.length:=ae;have hr:rows[k]?=some rows[k]:=ME B;have hu:us[k]?=some us[k]:=ME ae;obtain⟨ab,hc⟩:=t k _ hu;have w:=W k _ _ hu hr;have C:∃ a l c,us[k]=Value.slice a l c:=(RdW.parts w).1;have D:R.cell x.toNat (y+(k:Int)).toNat=some us[k]:=by rw[show(y+(k:Int)).toNat=y.toNat+k by omega];exact hc
   refine⟨ab,hy,ae,by rw[D];obtain⟨_,_,_,e⟩:=C;rw[e];rfl,fun q1 g1 E=>?_⟩;have U:Agree 6 J q1:=g.tr g1;rw[U.h 4,U.h 5,U.i 0,U.i 1,g1.i 50,v0,v1,w4,w5,X,D,fC C,slP_pos E];refine⟨⟨_,_,_,RA,[],false,rows[k],rfl,rfl,rfl,ax.new _,w,ar,av _ (NM _)⟩,fun q2 g2 ⟨F2,⟨p2,u2,H2,R2,bs2,aA,b2,aB,e1,F,e3,ad,af,e4,m⟩,_⟩=>?_⟩;simp only[MH,MZ]at e1 F e3 e4;obtain⟨e1,ag⟩:=e1;subst e1 ag F e3;obtain⟨G,el⟩:=(ax.new _).uniq ad;subst G el;obtain rfl:=w.uniq af;rw[<-e4]at m;have ah:bT [] false rows[k]=if 4096<rows[k].length then([],true)else(ak rows[k],false):=rfl
   rw[ah]at m;have H:rows[k].length<=4096->(ak rows[k]).length<=4106:=fun h=>by
    unfold ak;have:=iN (z:=rows[k].length) ae;rw[MJ];omega
   have I:(if 4096<rows[k].length then(([]:List Int),true)else(ak rows[k],false)).1.length<=1000000:=by
    split
    .simp
    .have:=H ae;show(ak rows[k]).length<=_;omega
   rw[g2.i 60,slP_pos E];refine⟨⟨_,_,_,_,rfl,rfl,m,I⟩,fun b g3 ⟨F3,⟨p3,R3,aC,aD,u3,e1,F,ai,K,n⟩,aj,o⟩=>?_⟩;simp only[MH,MZ]at e1 F;subst e1 F;obtain⟨G,el⟩:=m.uniq ai;subst G el;simp only[Value.tuple.injEq,Nc,MH,Value.int.injEq,Nz,MZ]at K;obtain⟨eu,d⟩:=K;rw[<-eu,<-aj zzT]at n;have A:Agree 60 q b:=g1.trans ((g2.tr g3).mono ae);have o:-1<=b.i 63/\0<=b.i 64/\0<=b.i 65/\0<=b.i 66:=o.1;by_cases s:4096<rows[k].length
   .rw[M0 s]at d;have d:b.i 67=3:=d;refine⟨fun _ _=>?_,fun h0=>ae⟩;refine⟨[],[],rfl,rfl,⟨(ay fun j=>[-1,0,0,0,3].getD j 0),?_,⟨MT _,MT _,MT _,MT _⟩,zzT,zzT⟩,_,R,RA,rows,.slice none 0 0,3,rfl,rfl,hB,?_,fun hok=>?_,fun _=>rfl⟩
    .show Value.tuple #[.slice (slP (-1) 0) 0 0,.int .i64 (b.i 67)]=_;rw[d];rfl
    .show Value.tuple #[.slice (slP (-1) 0) 0 0,.int .i64 (b.i 67)]=_;rw[d];rfl
    .have:=hok _ (NM B);omega
   .rw[MM s]at d n;have aE:=H ae;have hE:fk (ak rows[k]) false=(ak rows[k],0):=by unfold fk;rw[MM (by simp;omega)]
    have d:b.i 67=(fk (ak rows[k]) false).2:=d;have n:OwB (b.h 63) 5 (.slice (slP (b.i 63) (b.i 64)) (b.i 65).toNat (b.i 66).toNat) (fk (ak rows[k]) false).1:=n;rw[hE]at d n;refine⟨fun h=>absurd d h,fun _=>?_⟩;have L:=n.rd.at o.1 o.2.1 o.2.2.1;have al:b.i 65=(ak rows[k]).length:=L.1;obtain⟨hok,M⟩:=oa (R:=b.h 63) (x:=b.i 63) (y:=b.i 64) (l:=b.i 65) (bs:=ak rows[k]) al o.2.1 (L.2.imp (·.2) id);rw[A.i 53,A.i 54,A.i 55,A.h 56];have N:OwnsH (q.h 56) 5 1 (.slice (slP (q.i 53) 0) (q.i 54).toNat (q.i 55).toNat) (q.i 54).toNat (bys (aH (rows.take k))):=by
     have:=hO;unfold OwB at this;rw[show(q.i 54).toNat=(aH (rows.take k)).length by omega]at this ⊢;exact this
    refine⟨⟨⟨_,N⟩,ae,hok,by unfold maxLen;omega,ae⟩,fun p g4 ⟨a1,a2,happ,_⟩=>?_⟩;have h2:=happ _ N;rw[M]at h2;have O:p.i 65=b.i 65:=g4.i 65;have P:p.i 54=q.i 54:=by rw[g4.i 54,A.i 54]
    have Q:p.i 50=k:=by rw[g4.i 50,A.i 50,X]
    have S:=ud hr;have aF:(aH (rows.take (k+1))).length=(aH (rows.take k)).length+(ak rows[k]).length:=by rw[S,MJ]
    refine⟨⟨k+1,?_,ae,fun r T=>?_,a1,?_,a2,?_,ae⟩,?_⟩
    .show IntKind.i64.wrap (p.i 50+1)=_;rw[Q,IntWalk.i64_in _ ae];omega
    .rw[Oh,hr,OT]at T;rcases Nb.1 T with h | h
     .exact u r h
     .rw[MO]at h;subst h;omega
    .show p.i 54+p.i 65=_;rw[P,O];omega
    .show OwB (p.h 68) _ (.slice (slP (p.i 68) 0) (p.i 54+p.i 65).toNat (p.i 69).toNat) _;unfold OwB;rw[P,O,S,bys_append,MJ];have ea:(q.i 54).toNat+(b.i 65).toNat=(aH (rows.take k)).length+(ak rows[k]).length:=ae;have G:(q.i 54+b.i 65).toNat=(aH (rows.take k)).length+(ak rows[k]).length:=ae;rw[ea]at h2;rw[G];exact h2
    .show((rows.length:Int)-IntKind.i64.wrap (p.i 50+1)).toNat<_;rw[Q,IntWalk.i64_in _ ae];omega
  .have an:k=rows.length:=ae;subst an;rw[NZ]at u Z hO;intro _;refine⟨[],[2],rfl,rfl,⟨(ay fun j=>[q.i 53,0,q.i 54,q.i 55,0].getD j 0),rfl,⟨Y,MT _,by show 0<=q.i 54;omega,aa⟩,zzT,zzT⟩,_,R,RA,rows,.slice (slP (q.i 53) 0) (q.i 54).toNat (q.i 55).toNat,0,rfl,rfl,hB,rfl,fun _=>⟨rfl,?_⟩,fun ao=>absurd u ao⟩;show OwB (hls [q.h 56]) _ _ _;rw[hls_one];exact hO
end Go.Proofs.YtbdikjnpbnobcaaGreatDoor
namespace Go.Proofs.YtbdikjnpbnobcaaGreatDoor
open Go Go.Sx Go.Pk Go.RowKit
variable {F R:Hl}{c d:Int}{g n:Nat}{a b:Nat->Addr}{e v:Value}
def gQ:Nat:=3
def fV:Nat:=4
def fm:Nat:=5
def Bz (g:Nat):Prop:=g=gQ\/g=fV\/g=fm
def gv (a:Nat->Addr) (g:Nat):Value:=.iface 297 (.pointer (some (a g)))
structure Gl (R:Hl) (a:Nat->Addr):Prop where
 cell:∀ g,Bz g->R.cell g 0=some (gv a g)
 blk:∀ g,Bz g->∃ c t,R (a g).block=some (.cells c t (0,0))
 ne:∀ g h,Bz g->Bz h->g≠h->a g≠a h
def Gl.same (h:Gl R a) (k:Gl R b) (hg:Bz g):a g=b g:=by
 have:=(h.cell g hg).symm.trans (k.cell g hg);simpa [gv] using this
def gi (c:Int):Nat:=if c=4 then fV else if c=14 then fm else gQ
def rB (c:Int):Bz (gi c):=by
 unfold gi Bz;split
 .exact Or.inr (Or.inl rfl)
 .split
  .exact Or.inr (Or.inr rfl)
  .exact Or.inl rfl
def fH (a:Nat->Addr) (v:Value) (c:Int):Prop:=(c=0/\v=.nilIface)\/(c≠0/\∃ s:ByteArray,v=.iface 274 (.agg #[.string s,gv a (gi c)]))
def fH.same (h:Gl R a) (k:Gl R b) (g:fH a v c) (hd:fH b v d):(c=0↔d=0)/\(c≠0->gi c=gi d):=by
 rcases g with ⟨g,e⟩ | ⟨g,s,e⟩<;>rcases hd with ⟨hd,f⟩ | ⟨hd,j,f⟩<;>rw[e]at f
 .exact⟨⟨fun _=>hd,fun _=>g⟩,fun h=>absurd g h⟩
 .cases f
 .cases f
 .refine⟨⟨fun h=>absurd h g,fun h=>absurd h hd⟩,fun _=>?_⟩;simp only[Value.iface.injEq,Value.agg.injEq,Nc,MH,Value.string.injEq,gv,Value.pointer.injEq,MP,Nz,MZ]at f;rw[<-h.same k (rB d)]at f;exact NR fun i=>h.ne _ _ (rB c) (rB d) i f.2
open Classical in
noncomputable def GA:Sx.Spec where
 fn:=184
 own:=[]
 rd:=[2000003]
 res:=[.one .bool]
 pre:=fun xs Hs Rs=>∃ e t R a c g,xs=[e,t]/\Rs=[R]/\Gl R a/\fH a e c/\Bz g/\t=gv a g
 post:=fun xs Hs Rs v Hs' F=>∃ e t R,xs=[e,t]/\Rs=[R]/\∀ a c g,Gl R a->fH a e c->Bz g->t=gv a g->v=.bool (decide (c≠0/\gi c=g))
def zS:GA.OK Tryz.prog:=by
 refine calls_spec rfl fun w xs Rs hs ⟨e,t,R,a,c,g,e1,v,d,q,hg,x⟩=>?_;subst e1 v x;refine⟨.bool (decide (c≠0/\gi c=g)),⟨⟨fun _=>0,fun _=>decide (c≠0/\gi c=g),fun _=>.empty,fun _=>.tuple #[],fun _=>Hl.none⟩,rfl,zzT,zzT⟩,?_,_,_,R,rfl,rfl,fun a' c' r f j i k=>?_⟩
 .have u:=hs R ar;obtain⟨y,tg,l⟩:=d.blk g hg;rcases q with ⟨rfl,rfl⟩ | ⟨z,s,rfl⟩
  .refine(Fg (a g) w).mono fun e w' ⟨h1,h2⟩=>⟨(by rw[h1];simp),(by rw[h2];exact Below.refl _ _)⟩
  .by_cases b:gi c=g
   .subst b;refine(qg s (a (gi c)) w).mono fun e w' ⟨h1,h2⟩=>⟨(by rw[h1];simp [z]),h2⟩
   .obtain⟨A,B,m⟩:=d.blk (gi c) (rB c);refine(oJ s (a g) (a (gi c)) A y B tg w (d.ne _ _ (rB c) hg b) (u _ _ m) (u _ _ l)).mono fun e w' ⟨h1,h2⟩=>⟨(by rw[h1];simp [b]),h2⟩
 .obtain⟨s1,s2⟩:=q.same d f j;have n:g=r:=by
   have:a g=a' r:=by simpa [gv] using k
   rw[<-d.same f i]at this;exact NR fun o=>d.ne _ _ hg i o this
  subst n
  congr 1
  by_cases h0:c=0
  .have:=s1.1 h0;simp [h0,this]
  .have p:c'≠0:=fun h=>h0 (s1.2 h);rw[<-s2 h0];simp [h0,p]
def oA:Sx.Spec where
 fn:=159
 own:=[]
 rd:=[2000003]
 res:=[.one .any]
 pre:=fun xs Hs Rs=>∃ (s:ByteArray) (c:Int) (R:Hl) (a:Nat->Addr),xs=[.string s,.int .i64 c]/\Rs=[R]/\Gl R a
 post:=fun xs Hs Rs v Hs' F=>∃ (s:ByteArray) (c:Int) (R:Hl),xs=[.string s,.int .i64 c]/\Rs=[R]/\∀ a,Gl R a->fH a v c
set_option maxRecDepth 20000 in
def qQ (s:ByteArray) (c:Int) (a:Nat->Addr) (w:World) (h0:w.cell? ⟨gQ,0,none⟩=some (gv a gQ)) (h1:w.cell? ⟨fV,0,none⟩=some (gv a fV)) (h2:w.cell? ⟨fm,0,none⟩=some (gv a fm)) :
 Calls Tryz.prog 159 #[.string s,.int .i64 c] w fun e w'=>e=.returned (if c=0 then .nilIface else .iface 274 (.agg #[.string s,if c=4 then gv a fV else if c=14 then gv a fm else gv a gQ]))/\w'=w:=by
 unfold gv gQ at h0;unfold gv fV at h1;unfold gv fm at h2;by_cases c0:c=0
 .subst c0
  go_enter Tryz.func159,Tryz.ntmps159
  go_wp2
  go_ret
  exact⟨rfl,rfl⟩
 .rw[MM c0];by_cases d:c=4
  .subst d
   go_enter Tryz.func159,Tryz.ntmps159
   go_wp2
   go_ret
   exact⟨rfl,rfl⟩
  .rw[MM d];by_cases b:c=14
   .subst b
    go_enter Tryz.func159,Tryz.ntmps159
    go_wp2
    go_ret
    exact⟨rfl,rfl⟩
   .rw[MM b]
    go_enter Tryz.func159,Tryz.ntmps159
    go_wp2
    go_ret
    exact⟨rfl,rfl⟩
def Bw (a:Nat->Addr) (s:ByteArray) (c:Int):Value:=if c=0 then .nilIface else .iface 274 (.agg #[.string s,if c=4 then gv a fV else if c=14 then gv a fm else gv a gQ])
def sZ:oA.OK Tryz.prog:=by
 refine calls_spec rfl fun w xs Rs hs ⟨s,c,R,a,e1,g,d⟩=>?_;subst e1 g;have f:=hs R ar;have hv:=qQ s c a w (Hl.sub_cell f (d.cell _ (Or.inl rfl))) (Hl.sub_cell f (d.cell _ (Or.inr (Or.inl rfl)))) (Hl.sub_cell f (d.cell _ (Or.inr (Or.inr rfl))));refine⟨Bw a s c,⟨⟨fun _=>0,fun _=>false,fun _=>.empty,fun _=>Bw a s c,fun _=>Hl.none⟩,rfl,zzT,zzT⟩,hv.mono fun e w' ⟨h1,h2⟩=>⟨h1,(by rw[h2];exact Below.refl _ _)⟩,s,c,R,rfl,rfl,fun a' b=>?_⟩;unfold Bw;by_cases c0:c=0
 .rw[M0 c0];exact Or.inl ⟨c0,rfl⟩
 .rw[MM c0];refine Or.inr ⟨c0,s,?_⟩
  congr 3
  unfold gi;split
  .unfold gv;rw[d.same b (Or.inr (Or.inl rfl))]
  .split
   .unfold gv;rw[d.same b (Or.inr (Or.inr rfl))]
   .unfold gv;rw[d.same b (Or.inl rfl)]
def jb (c:Int):Int:=if c=0 then 0 else if gi c=fV then 4 else if gi c=fm then 14 else 5
def iO:Sx.Spec where
 fn:=185
 own:=[]
 rd:=[2000003]
 res:=[.one (.int .i64)]
 pre:=fun xs Hs Rs=>∃ e R a c,xs=[e]/\Rs=[R]/\Gl R a/\fH a e c
 post:=fun xs Hs Rs v Hs' F=>∃ e R,xs=[e]/\Rs=[R]/\∀ a c,Gl R a->fH a e c->v=.int .i64 (jb c)
noncomputable def Il:List Sx.Spec:=[GA]
def Fu:∀ t∈Il,t.OK Tryz.prog:=fun t a=>by
 simp only[Il,MQ,MV,Nt]at a;rw[a];exact zS
noncomputable def rZ:Walk Tryz.prog Il iO.fn where
 Λ:=noLoops
 args:=[.sv (.one (.vr 0))]
 mem:=[.ro 1 [.lit 3,.lit 4,.lit 5] false]
 nv:=2
def KO:GA.res=[.one .bool]:=rfl
def xG (h:Gl R a) (k:Gl R b) (e:fH a v c) (hd:fH b v d):jb c=jb d:=by
 obtain⟨s1,s2⟩:=e.same h k hd;unfold jb;by_cases h0:c=0
 .rw[M0 h0,M0 (s1.1 h0)]
 .rw[MM h0,MM (fun h=>h0 (s1.2 h)),s2 h0]
def B8 (h:fH a v c):vcode v<=1/\(vcode v=0↔c=0):=by
 rcases h with ⟨b,rfl⟩ | ⟨b,s,rfl⟩
 .exact⟨aj,fun _=>b,fun _=>rfl⟩
 .exact⟨MT 1,fun h=>absurd (show(1:Int)=0 from h) ae,fun h=>absurd h b⟩
open Classical in
def tN {q:Env} {K Hs:List Hl} (f:Gl R a) (i:fH a e c) (hg:Bz g) (hp:GA.post [e,gv a g] Hs [R] (.bool (bev q (.bvar n))) K F):(q.b n=true)=(c≠0/\gi c=g):=by
 obtain⟨j,t',R',e1,d,h⟩:=hp;simp only[MH,MZ]at e1 d;obtain⟨rfl,rfl⟩:=e1;subst d;have:=h a c g f i hg rfl;rw[bev_bvar]at this;simp only[Value.bool.injEq]at this;rw[this];simp
def tU:iO.OK Tryz.prog:=by
 refine Spec.of_fn (Γ:=Il) Fu ?_;rintro xs Hs Rs k s ⟨e,R,a,c,rfl,rfl,f,i⟩;have e0:Hs=[]:=MF.1 k;subst e0;refine⟨rZ,⟨fun _=>0,fun _=>false,fun _=>.empty,fun _=>e,fun _=>R⟩,fun _ _=>True,fun _ _=>0,rfl,⟨?_,?_,?_,?_⟩,(fun _ h=>nomatch h),?_⟩
 .intro r hr ho;simp [rZ]at hr;subst hr;cases ho
 .intro r hr ho;simp [rZ]at hr;subst hr;exact⟨R,ar,Hl.le_refl _⟩
 .simp [rZ]
 .intro r hr;simp [rZ]at hr;subst hr;trivial
 .refine Walk.read [] [] [] ?_;generalize g:(⟨fun _=>0,fun _=>false,fun _=>.empty,fun _=>e,fun _=>R⟩:Env)=J;have v0:J.v 0=e:=by rw[<-g]
  have w1:J.h 1=R:=by rw[<-g]
  clear g;have out:∀ {q:Env} {z:Int} {mem:Mem},z=jb c->postOf iO [e] [] [R] q mem (.sv (.one (.int .i64 (.lit z)))):=by
   rintro q z mem rfl _;exact⟨[],[],rfl,rfl,⟨(ay fun _=>jb c),rfl,zzT,zzT⟩,e,R,rfl,rfl,fun a' c' l m=>by
    rw[<-xG f l i m];rfl⟩
  have b:=B8 i;simp only[go_sem,Nat.reduceAdd,Il,KO,iev_vint];rw[v0,w1];have t:R.cell (Int.toNat 4) (Int.toNat 0)=some (gv a fV):=f.cell fV (Or.inr (Or.inl rfl));have u:R.cell (Int.toNat 5) (Int.toNat 0)=some (gv a fm):=f.cell fm (Or.inr (Or.inr rfl));rw[t];refine⟨b.1,fun h0=>out (by unfold jb;rw[M0 (b.2.1 h0)]),fun h0=>⟨rfl,⟨e,_,R,a,c,fV,rfl,rfl,f,i,Or.inr (Or.inl rfl),rfl⟩,fun q1 p ⟨w,n,_⟩=>?_⟩⟩;have d:c≠0:=fun h=>h0 (b.2.2 h);have r1:=tN f i (Or.inr (Or.inl rfl)) n;rw[r1,p.h 1,p.v 0,v0,w1,u];refine⟨fun h=>out (by unfold jb;rw[MM d,M0 h.2]),fun h=>⟨rfl,⟨e,_,R,a,c,fm,rfl,rfl,f,i,Or.inr (Or.inr rfl),rfl⟩,fun q2 x ⟨y,o,_⟩=>?_⟩⟩;have j:gi c≠fV:=fun e=>h ⟨d,e⟩;have r2:=tN f i (Or.inr (Or.inr rfl)) o;rw[r2];exact⟨fun h=>out (by unfold jb;rw[MM d,MM j,M0 h.2]),fun h=>out (by unfold jb;rw[MM d,MM j,MM fun e=>h ⟨d,e⟩])⟩
end Go.Proofs.YtbdikjnpbnobcaaGreatDoor
namespace Go.Sx
open Go
def vw {A B C D:Hl} (h1:A.dis B) (h2:A.dis C) (a:A.dis D) (b:B.dis C) (c:B.dis D) (d:C.dis D):A.le (hls [A,B,C,D])/\B.le (hls [A,B,C,D])/\C.le (hls [A,B,C,D])/\D.le (hls [A,B,C,D]):=by
 obtain⟨r1,r2,e⟩:=hls3_le b c d;have hd:A.dis (hls [B,C,D]):=by
  show A.dis (B.un (C.un (D.un Hl.none)));exact Hl.dis_un h1 (Hl.dis_un h2 (Hl.dis_un a (Hl.dis_none _)))
 have hr:(hls [B,C,D]).le (hls [A,B,C,D]):=Hl.un_right hd;exact⟨Hl.un_left _ _,fun k o h=>hr k o (r1 k o h),fun k o h=>hr k o (r2 k o h),fun k o h=>hr k o (e k o h)⟩
def RdB.mono {R R':Hl} (hl:R.le R') {u:Value} {bs:List Int} (h:RdB R u bs):RdB R' u bs:=by
 obtain⟨x,y,c,hv,hy,h⟩:=h;refine⟨x,y,c,hv,hy,h.imp id fun⟨h0,h⟩=>⟨h0,fun j z hz=>?_⟩⟩;have:=h j z hz;unfold Hl.cell at this ⊢;split at this
 .rename_i o c' T a ho;rw[hl _ _ ho];exact this
 .cases this
end Go.Sx
namespace Go.Proofs.YtbdikjnpbnobcaaGreatDoor.D
open Go Go.Sx
variable {D:DM}{F H H' R R':Hl}{frm n:Int}{L L':LM}{K:List Hl}{b bs bs' nt:List Int}{dp dp' p u v:Value}
def gW (H:Hl) (p dp:Value) (L:LM) (bs:List Int):Prop:=∃ sl,LogRd H p dp sl L/\RdB H sl bs
def gW.mono (hl:R.le R') (h:gW R p dp L bs):gW R' p dp L bs:=by
 obtain⟨sl,h1,h2⟩:=h;exact⟨sl,LogRd.mono h1 hl,RdB.mono hl h2⟩
def LogAt.rd (h:LogAt H p dp L bs):gW H p dp L bs:=h.parts
def gW.uniq (h:gW H p dp L bs) (h':gW H p dp' L' bs'):dp=dp'/\L=L'/\bs=bs':=by
 obtain⟨sl,h1,h2⟩:=h;obtain⟨sl',a,b⟩:=h';obtain⟨e1,rfl,c⟩:=h1.uniq a;exact⟨e1,c,h2.uniq b⟩
def qH (f:DiskAt H dp D) (hp:sectorsS.post [dp] [H] [] v [H'] F):DiskAt H' dp D/\v=.int .i64 D.n:=by
 obtain⟨g,h,D',i,hx,d,c,a,b,hv⟩:=hp;simp only[MH,MZ]at hx d a;subst hx d;have e:=c.uniq f;subst e;rw[<-a]at b;exact⟨b,hv⟩
def pw (i:DiskAt H dp D) (hp:openS.post [dp,.int .i64 frm,.int .i64 n] [H] [] v [H'] F) :
 ∃ b,DiskAt H' dp D/\v=.tuple #[b,.int .i64 (openE D frm n)]/\(openE D frm n=0->LogAt F b dp (openL D frm n) (openB D frm n))/\(openE D frm n≠0->b=.pointer none):=by
 obtain⟨dp',c,n',j,D',d,b,hx,f,g,a,h,hv,hl⟩:=hp;have hx:dp=dp'/\frm=c/\n=n':=by simpa using hx
 obtain⟨e1,k,l⟩:=hx;subst e1 k l;have f:H=j:=by simpa using f
 subst f;have e:=g.uniq i;subst e;have a:H'=d:=by simpa using a
 subst a;exact⟨b,h,hv,hl⟩
def qX {f:Hl} (h1:LogAt H p dp L bs) (h2:DiskAt f dp D) (o:RdW R u b) (hp:appendS.post [p,u,.agg (bys nt).toArray] [H,f] [R] v K F) :
 ∃ H' a,K=[H',a]/\DiskAt a dp (appendR D L bs b nt).D/\LogAt H' p dp (appendR D L bs b nt).L (appendR D L bs b nt).bs/\v=.int .i64 (appendR D L bs b nt).e:=by
 obtain⟨q,r,b',nt',s,g,t,dp',L',bs',D',H',a,hx,h,i,j,k,l,hK,m,n,hv⟩:=hp;have hx:p=q/\u=r/\bys nt=bys nt':=by simpa using hx
 obtain⟨e1,c,d⟩:=hx;have d:=bys_inj d;subst e1 c d;have h:H=s/\f=g:=by simpa using h
 obtain⟨e1,c⟩:=h;subst e1 c;have i:R=t:=by simpa using i
 subst i;obtain⟨e1,c,d⟩:=j.uniq h1;subst e1 c d;have e:=k.uniq h2;subst e;have e:=l.uniq o;subst e;exact⟨H',a,hK,m,n,hv⟩
def oV (h:gW H p dp L bs) (hb:bs.length<=1048576):bytesS.pre [p] [] [H,H]:=by
 obtain⟨sl,h1,h2⟩:=h;exact⟨p,H,H,dp,sl,L,bs,rfl,rfl,h1,h2,hb⟩
def mM (h:gW H p dp L bs) (hp:bytesS.post [p] [] [H,H] v K F):OwB F 5 v bs:=by
 obtain⟨sl,h1,h2⟩:=h;obtain⟨f,R1,R2,dp',sl',L',bs',hx,a,b,c,g⟩:=hp;have hx:p=f:=by simpa using hx
 subst hx;have a:H=R1/\H=R2:=by simpa using a
 obtain⟨e1,d⟩:=a;subst e1 d;obtain⟨e1,d,i⟩:=b.uniq h1;subst e1 d i;have e:=c.uniq h2;subst e;exact g
def AM (h:gW H p dp L bs) (hb:bs.length<=1048576):roomS.pre [p] [] [H]:=by
 obtain⟨sl,h1,h2⟩:=h;exact⟨p,H,dp,sl,L,bs.length,rfl,rfl,h1,RdB.slOf h2,hb⟩
def yc (h:gW H p dp L bs) (hp:roomS.post [p] [] [H] v K F):v=.int .i64 (L.most-bs.length):=by
 obtain⟨sl,h1,h2⟩:=h;obtain⟨c,R1,dp',sl',L',n',hx,a,b,hs,hv⟩:=hp;have hx:p=c:=by simpa using hx
 subst hx;have a:H=R1:=by simpa using a
 subst a;obtain⟨e1,d,f⟩:=b.uniq h1;subst e1 d f;have e:=hs.uniq (RdB.slOf h2);subst e;exact hv
def xD (h:gW H p dp L bs):lnoteS.pre [p] [] [H]:=by
 obtain⟨sl,h1,h2⟩:=h;exact⟨p,H,dp,sl,L,rfl,rfl,h1⟩
def tP (h:gW H p dp L bs) (hp:lnoteS.post [p] [] [H] v K F):v=.agg (bys L.note).toArray:=by
 obtain⟨sl,h1,h2⟩:=h;obtain⟨c,R1,dp',sl',L',hx,a,b,hv⟩:=hp;have hx:p=c:=by simpa using hx
 subst hx;have a:H=R1:=by simpa using a
 subst a;obtain⟨e1,d,e⟩:=b.uniq h1;subst e1 d e;exact hv
def j7 (a:D.ok) (hn:3<=n/\n<=16384):((openB D frm n).length:Int)<=64*(n-2):=by
 have hm:0<=64*(n-2):=ae;have h0:=(lread_head a frm hm 0).2;have h1:=(lread_head a frm hm 1).2;have hs:(openL D frm n).size<=64*(n-2):=by
  show(openH D frm n).getD 1 0<=_;unfold openH;split
  .exact h1
  .exact h0
 unfold openB bytesAt;rw[M3];omega
end Go.Proofs.YtbdikjnpbnobcaaGreatDoor.D
namespace Go.Proofs.YtbdikjnpbnobcaaGreatDoor
open Go Go.Sx Go.Pk
open Go.Proofs.YtbdikjnpbnobcaaGreatDoor.D hiding envI noLoops numS
variable {F H R R' RA:Hl}{L:LM}{rows:List (List Int)}{K:List Hl}{bs:List Int}{a n:Nat}{dp dp' p u v w:Value}
def vv (h:gW H p dp L bs):xt.pre [p] [] [H]:=by
 obtain⟨sl,h1,h2⟩:=h;exact⟨p,H,dp,sl,L,rfl,rfl,h1⟩
def rA (h:gW H p dp L bs) (hp:xt.post [p] [] [H] v K F):v=.int .u64 (js L):=by
 obtain⟨sl,h1,h2⟩:=h;obtain⟨c,R1,dp',sl',L',hx,a,b,hv⟩:=hp;have hx:p=c:=by simpa using hx
 subst hx;have a:H=R1:=by simpa using a
 subst a;obtain⟨e1,d,e⟩:=b.uniq h1;subst e1 d e;exact hv
def om (h:RdW R u bs) (hp:lh.post [u] [] [R] v K F):aM F v (db bs):=by
 obtain⟨d,bs',R',e1,b,a,c⟩:=hp;simp only[MH,MZ]at e1 b;subst e1 b;rw[h.uniq a];exact c
structure SM where
 LA:LM
 bA:List Int
 LB:LM
 bB:List Int
 recs:List (List Int)
 over:Bool
variable {S S':SM}
def yk (a:Nat) (pa pb sl:Value) (o:Bool):Hl:=Hl.one a (.cells #[pa,pb,sl,.bool o] 140 (0,0))
structure BG (H:Hl) (a:Nat) (dp pa pb sl:Value) (HA HB HR:Hl) (S:SM):Prop where
 la:LogAt HA pa dp S.LA S.bA
 lb:LogAt HB pb dp S.LB S.bB
 rows:aM HR sl S.recs
 d1:(yk a pa pb sl S.over).dis HA
 d2:(yk a pa pb sl S.over).dis HB
 d3:(yk a pa pb sl S.over).dis HR
 d4:HA.dis HB
 d5:HA.dis HR
 d6:HB.dis HR
 hl:H=hls [yk a pa pb sl S.over,HA,HB,HR]
def cW (H:Hl) (p dp:Value) (S:SM):Prop:=∃ (a:Nat) (pa pb sl:Value) (HA HB HR:Hl),p=.pointer (some ⟨a,0,none⟩)/\BG H a dp pa pb sl HA HB HR S
structure pQ (H:Hl) (a:Nat) (dp pa pb sl:Value) (S:SM):Prop where
 blk:H a=some (.cells #[pa,pb,sl,.bool S.over] 140 (0,0))
 la:gW H pa dp S.LA S.bA
 lb:gW H pb dp S.LB S.bB
 rows:aM H sl S.recs
def fP (H:Hl) (p dp:Value) (S:SM):Prop:=∃ (a:Nat) (pa pb sl:Value),p=.pointer (some ⟨a,0,none⟩)/\pQ H a dp pa pb sl S
def cW.rd (h:cW H p dp S):fP H p dp S:=by
 obtain⟨a,pa,pb,sl,HA,HB,HR,hp,h⟩:=h;obtain⟨b,c,d,e⟩:=vw h.d1 h.d2 h.d3 h.d4 h.d5 h.d6;rw[<-h.hl]at b c d e;exact⟨a,pa,pb,sl,hp,b _ _ (Hl.one_self _ _),h.la.rd.mono c,h.lb.rd.mono d,h.rows.mono e⟩
def fP.mono (hl:R.le R') (h:fP R p dp S):fP R' p dp S:=by
 obtain⟨a,pa,pb,sl,hp,h⟩:=h;exact⟨a,pa,pb,sl,hp,hl _ _ h.blk,h.la.mono hl,h.lb.mono hl,h.rows.mono hl⟩
def fP.uniq (h:fP H p dp S) (h':fP H p dp' S'):dp=dp'/\S=S':=by
 obtain⟨a,pa,pb,sl,rfl,h⟩:=h;obtain⟨a',j,k,sl',hp,h'⟩:=h';have e:a=a':=by simpa using hp
 subst e;have hb:=h.blk.symm.trans h'.blk;simp only[MP,Obj.cells.injEq,Nc,MH,Value.bool.injEq,MZ]at hb;obtain⟨rfl,rfl,rfl,b⟩:=hb;obtain⟨e1,c,d⟩:=h.la.uniq h'.la;obtain⟨_,f,g⟩:=h.lb.uniq h'.lb;have i:=h.rows.uniq h'.rows;refine⟨e1,?_⟩;obtain⟨x1,l,m,n,o,q⟩:=S;obtain⟨r,s,t,u,v,w⟩:=S';simp only at c d b f g i;subst c d b f g i;rfl
def bN (D:DM):Int:=if D.n/2<3 then 1 else if D.gone then 5 else 0
def ju (D:DM):LM:=openL D 0 ((D.n/2:Nat):Int)
def gF (D:DM):List Int:=openB D 0 ((D.n/2:Nat):Int)
def fp (D:DM):LM:=openL D ((D.n/2:Nat):Int) ((D.n/2:Nat):Int)
def dj (D:DM):List Int:=openB D ((D.n/2:Nat):Int) ((D.n/2:Nat):Int)
def Ie (A:LM) (bA:List Int) (B:LM) (bB:List Int):SM:=⟨A,bA,B,bB,db bA,false⟩
def cU (D:DM):SM:=if js (ju D)<js (fp D)then Ie (fp D) (dj D) (ju D) (gF D)else Ie (ju D) (gF D) (fp D) (dj D)
def kY:Sx.Spec where
 fn:=27
 own:=[.arg 0]
 rd:=[]
 res:=[.one .ptr,.one (.int .i64)]
 links:=[0]
 pre:=fun xs Hs Rs=>∃ dp H D,xs=[dp]/\Hs=[H]/\DiskAt H dp D/\ah (gF D)/\ah (dj D)
 post:=fun xs Hs Rs v Hs' F=>∃ dp H D H' a,xs=[dp]/\Hs=[H]/\DiskAt H dp D/\Hs'=[H']/\DiskAt H' dp D/\v=.tuple #[a,.int .i64 (bN D)]/\(bN D=0->cW F a dp (cU D))/\(bN D≠0->a=.pointer none)
def JE:List Sx.Spec:=[sectorsS,openS,xt,bytesS,lh]
def Gm:∀ t∈JE,t.OK Tryz.prog:=ai sectorsS_ok <| ai openS_ok <| ai Cd <| ai bytesS_ok <| ai yq <| aD
def oc:Walk Tryz.prog JE kY.fn where
 Λ:=noLoops
 args:=[TP (.var 0) (.lit 0)]
 mem:=[.hp 1 [] [.var 0] []]
 nv:=2
def Lv:sectorsS.res=[.one (.int .i64)]:=rfl
def Lw:openS.res=[.one .ptr,.one (.int .i64)]:=rfl
def Lx:xt.res=[.one (.int .u64)]:=rfl
def Ly:bytesS.res=[.one .sl]:=rfl
def Lz:lh.res=[.one .sl]:=rfl
def LZ (n:Nat):(cpRoots n [Cp.one .ptr,Cp.one (.int .i64)]≠[])=True:=by simp [cpRoots,Cp.roots,Ck.root]
def pe (h:n<=16384):IntKind.i64.wrap ((n:Int).tdiv 2)=((n/2:Nat):Int):=by
 have e:(n:Int).tdiv 2=((n/2:Nat):Int):=rfl;rw[e];exact wrap_i64 ae ae
set_option maxRecDepth 4000 in
def yn:kY.OK Tryz.prog:=by
 refine Spec.of_fn (Γ:=JE) Gm ?_;rintro xs Hs Rs aB ad ⟨dp,H,D,rfl,rfl,Q,af,ag⟩;have e1:Rs=[]:=MF.1 ad;subst e1;obtain⟨da,s,m,es,clock,R,S⟩:=id Q;have T:=S.ok.n;have hok:=S.ok;refine⟨oc,envI [(da:Int)] false [Hl.none,H],fun _ _=>True,fun _ _=>0,?_,⟨?_,?_,?_,?_⟩,(fun _ h=>nomatch h),?_⟩
 .show [Value.pointer (slP (da:Int) 0)]=_;rw[aY,R]
 .intro r hr ho;simp [oc]at hr;subst hr;exact⟨H,ar,Hl.le_refl _⟩
 .intro r hr ho;simp [oc]at hr;subst hr;cases ho
 .simp [oc]
 .intro r hr;simp [oc]at hr;subst hr;trivial
 .refine Walk.read [] [] [] ?_;generalize B:envI [(da:Int)] false [Hl.none,H]=J;have v0:J.i 0=da:=by rw[<-B];rfl
  have w1:J.h 1=H:=by rw[<-B];rfl
  clear B;have ep:Value.pointer (slP (da:Int) 0)=dp:=by rw[aY,R]
  have bad:∀ (q:Env) (k:Nat) (vs:List Nat) (t:Mem) (x:E) (e:Int),DiskAt (q.h k) dp D->iev q x=e->bN D=e->e≠0 ->
   postOf kY [dp] [H] [] q (.hp k vs [.var 0] []::t) (.tup [.one (.hptr (.lit (-1)) (.lit 0)),.one (.int .i64 x)]):=by
   intro q k vs t x e hq hx he p _;refine⟨[[0]],[],rfl,rfl,⟨(ay fun j=>[-1,0,e].getD j 0),?_,⟨by show(-1:Int)<= -1;omega,MT _⟩,zzT,zzT⟩,dp,H,D,_,.pointer none,rfl,rfl,Q,rfl,?_,?_,fun h=>absurd (he.symm.trans h) p,fun _=>rfl⟩
   .subst hx;rfl
   .show DiskAt (hls [q.h k]) _ _;rw[hls_one];exact hq
   .rw[he,<-hx];rfl
  simp only[go_sem,Nat.reduceAdd,JE,Lv,Lw,Lx,Ly,Lz,BB,Ge,LZ,iev_quo];rw[v0,w1,ep];refine⟨⟨dp,H,D,rfl,rfl,Q⟩,fun q1 g1 ⟨F1,ah,_⟩=>?_⟩;obtain⟨C,u⟩:=qH Q ah;have u:q1.i 2=D.n:=by simpa using u
  rw[u,pe T,g1.i 0,v0,ep];refine⟨fun U=>bad q1 2 _ _ _ 1 C (iev_lit _ _) (by unfold bN;rw[M0 ae]) aj,fun V=>?_⟩;have aC:3<=D.n/2:=ae;have hE:bN D=if D.gone then 5 else 0:=by unfold bN;rw[MM ae]
  have g:openE D 0 ((D.n/2:Nat):Int)=if D.gone then 5 else 0:=by unfold openE;rw[MM ae]
  have W:openE D ((D.n/2:Nat):Int) ((D.n/2:Nat):Int)=if D.gone then 5 else 0:=by unfold openE;rw[MM ae]
  have X:3<=((D.n/2:Nat):Int)/\((D.n/2:Nat):Int)<=16384:=ae;refine⟨⟨dp,_,_,_,D,rfl,rfl,C⟩,fun q2 g2 ⟨F2,ai,ak,aD⟩=>?_⟩;obtain⟨pA,F,Y,hA,_⟩:=pw C ai;simp only[Value.tuple.injEq,Nc,MH,Value.int.injEq,Nz,MZ]at Y;obtain⟨eA,e6⟩:=Y;have G2:Agree 2 J q2:=g1.tr g2;have al:q2.i 2=D.n:=by rw[g2.i 2,u]
  rw[al,pe T,G2.i 0,v0,ep];refine⟨fun p=>bad q2 4 _ _ _ 5 F (by rw[iev_var,e6,g,M0];exact NR fun hg=>p (by rw[e6,g,MM hg])) (by rw[hE,M0];exact NR fun hg=>p (by rw[e6,g,MM hg])) aj,fun heq=>?_⟩;have b:D.gone=false:=by
   cases hg:D.gone with
   | false=>rfl
   | true=>rw[e6,g,hg]at heq;cases heq
  have hA:LogAt F2 pA dp (ju D) (gF D):=hA (by rw[g,b];rfl);rw[<-eA,<-ak zzT]at hA;refine⟨⟨dp,_,_,_,D,rfl,rfl,F⟩,fun q3 g3 ⟨F3,an,ao,aA⟩=>?_⟩;obtain⟨pB,aq,Z,hB,_⟩:=pw F an;simp only[Value.tuple.injEq,Nc,MH,Value.int.injEq,Nz,MZ]at Z;obtain⟨eB,e9⟩:=Z;have e9:q3.i 9=0:=by rw[e9,W,b];rfl
  have hB:LogAt F3 pB dp (fp D) (dj D):=hB (by rw[W,b];rfl);rw[<-eB,<-ao zzT]at hB;refine⟨fun h=>absurd e9 h,fun _=>⟨vv hB.rd,fun q4 g4 ⟨F4,au,_⟩=>?_⟩⟩;have av:q4.i 10=js (fp D):=by simpa using rA hB.rd au
  have G4:Agree 7 q2 q4:=g3.tr g4;have G:LogAt (q4.h 5) (.pointer (slP (q4.i 4) (q4.i 5))) dp (ju D) (gF D):=by
   rw[G4.h 5,G4.i 4,G4.i 5];exact hA
  refine⟨vv G.rd,fun f g5 ⟨F5,aw,_⟩=>?_⟩;have ax:f.i 11=js (ju D):=by simpa using rA G.rd aw
  have aa:f.i 10=js (fp D):=by rw[g5.i 10,av]
  have v:LogAt (f.h 5) (.pointer (slP (f.i 4) (f.i 5))) dp (ju D) (gF D):=by
   rw[g5.h 5,g5.i 4,g5.i 5];exact G
  have y:Agree 10 q3 f:=g4.tr g5;have z:LogAt (f.h 8) (.pointer (slP (f.i 7) (f.i 8))) dp (fp D) (dj D):=by
   rw[y.h 8,y.i 7,y.i 8];exact hB
  have ab:DiskAt (f.h 7) dp D:=by rw[y.h 7];exact aq
  have aE:((gF D).length:Int)<=_:=j7 hok (frm:=0) X;have aF:((dj D).length:Int)<=_:=j7 hok (frm:=((D.n/2:Nat):Int)) X;rw[ax,aa];have A:bN D=0:=by rw[hE,b];rfl
  refine⟨fun U=>⟨oV z.rd ae,fun q6 g6 ⟨F6,I,K,az⟩=>?_⟩,fun V=>⟨oV v.rd ae,fun q6 g6 ⟨F6,I,K,az⟩=>?_⟩⟩
  .have hO:=mM z.rd I;rw[<-K zzT]at hO;have l:=hO.rd.w;refine⟨⟨_,_,_,rfl,rfl,l,ag,ae⟩,fun q7 g7 ⟨F7,L,M,o⟩ a d p8 hd=>?_⟩;have hW:=om l L;rw[<-M zzT]at hW;have c:Agree 12 f a:=g6.trans ((g7.tr d).mono ae);have o:-1<=q7.i 16/\0<=q7.i 17/\0<=q7.i 18/\0<=q7.i 19:=o.1;refine⟨[[0]],[5,2,1,4],rfl,rfl,⟨(ay fun j=>[a.i 20,0,0].getD j 0),rfl,⟨by show -1<=a.i 20;omega,MT _⟩,zzT,zzT⟩,dp,H,D,_,Value.pointer (slP (a.i 20) 0),rfl,rfl,Q,rfl,?_,?_,fun _=>?_,fun h=>absurd A h⟩
   .show DiskAt (hls [a.h 7]) _ _;rw[hls_one,c.h 7];exact ab
   .rw[A];rfl
   .unfold cU;rw[M0 U];have N:aM (a.h 16) (.slice (slP (a.i 16) (a.i 17)) (a.i 18).toNat (a.i 19).toNat) (db (dj D)):=by
     rw[d.h 16,d.i 16,d.i 17,d.i 18,d.i 19];exact hW
    have O:LogAt (a.h 5) (.pointer (slP (a.i 4) (a.i 5))) dp (ju D) (gF D):=by
     rw[c.h 5,c.i 4,c.i 5];exact v
    have P:LogAt (a.h 8) (.pointer (slP (a.i 7) (a.i 8))) dp (fp D) (dj D):=by
     rw[c.h 8,c.i 7,c.i 8];exact z
    exact⟨(a.i 20).toNat,_,_,_,_,_,_,by rw[slP_pos p8];rfl,⟨P,O,N,hd 5 2 _ _ aj rfl rfl rfl,hd 5 1 _ _ aj rfl rfl rfl,hd 5 4 _ _ aj rfl rfl rfl,hd 2 1 _ _ aj rfl rfl rfl,hd 2 4 _ _ aj rfl rfl rfl,hd 1 4 _ _ aj rfl rfl rfl,rfl⟩⟩
  .have hO:=mM v.rd I;rw[<-K zzT]at hO;have l:=hO.rd.w;refine⟨⟨_,_,_,rfl,rfl,l,af,ae⟩,fun q7 g7 ⟨F7,L,M,o⟩ a d p8 hd=>?_⟩;have hW:=om l L;rw[<-M zzT]at hW;have c:Agree 12 f a:=g6.trans ((g7.tr d).mono ae);have o:-1<=q7.i 16/\0<=q7.i 17/\0<=q7.i 18/\0<=q7.i 19:=o.1;refine⟨[[0]],[5,1,2,4],rfl,rfl,⟨(ay fun j=>[a.i 20,0,0].getD j 0),rfl,⟨by show -1<=a.i 20;omega,MT _⟩,zzT,zzT⟩,dp,H,D,_,Value.pointer (slP (a.i 20) 0),rfl,rfl,Q,rfl,?_,?_,fun _=>?_,fun h=>absurd A h⟩
   .show DiskAt (hls [a.h 7]) _ _;rw[hls_one,c.h 7];exact ab
   .rw[A];rfl
   .unfold cU;rw[MM V];have N:aM (a.h 16) (.slice (slP (a.i 16) (a.i 17)) (a.i 18).toNat (a.i 19).toNat) (db (gF D)):=by
     rw[d.h 16,d.i 16,d.i 17,d.i 18,d.i 19];exact hW
    have O:LogAt (a.h 5) (.pointer (slP (a.i 4) (a.i 5))) dp (ju D) (gF D):=by
     rw[c.h 5,c.i 4,c.i 5];exact v
    have P:LogAt (a.h 8) (.pointer (slP (a.i 7) (a.i 8))) dp (fp D) (dj D):=by
     rw[c.h 8,c.i 7,c.i 8];exact z
    exact⟨(a.i 20).toNat,_,_,_,_,_,_,by rw[slP_pos p8];rfl,⟨O,P,N,hd 5 1 _ _ aj rfl rfl rfl,hd 5 2 _ _ aj rfl rfl rfl,hd 5 4 _ _ aj rfl rfl rfl,hd 1 2 _ _ aj rfl rfl rfl,hd 1 4 _ _ aj rfl rfl rfl,hd 2 4 _ _ aj rfl rfl rfl,rfl⟩⟩
def AL (o:Bool) (rows:List (List Int)) (e:Int):Prop:=(o=true->e=5)/\(o=false->c9 rows->e=0)/\(o=false->¬c9 rows->e=3)
def nQ:Sx.Spec where
 fn:=156
 own:=[]
 rd:=[0,1,3000001]
 res:=[.one .sl,.one (.int .i64)]
 pre:=fun xs Hs Rs=>∃ p v a o R R1 RA rows,xs=[p,v]/\Rs=[R,R1,RA]/\p=.pointer (some ⟨a,0,none⟩)/\R.cell a 3=some (.bool o)/\dz R1 RA v rows/\rows.length<=1000000/\∀ r∈rows,0<=r.length
 post:=fun xs Hs Rs w Hs' F=>∃ p v a o R R1 RA rows u e,xs=[p,v]/\Rs=[R,R1,RA]/\p=.pointer (some ⟨a,0,none⟩)/\R.cell a 3=some (.bool o)/\dz R1 RA v rows/\w=.tuple #[u,.int .i64 e]/\AL o rows e/\(e=0->OwB F 5 u (aH rows))
def uu {o:Bool} {R1:Hl} (h1:R.cell a 3=some (.bool o)) (h2:dz R1 RA v rows) (hp:nQ.post [.pointer (some ⟨a,0,none⟩),v] [] [R,R1,RA] w K F) :
 ∃ u e,w=.tuple #[u,.int .i64 e]/\AL o rows e/\(e=0->OwB F 5 u (aH rows)):=by
 obtain⟨r,v',a',o',R',d,f,b,u,e,e1,c,g,h,i,hw,j,k⟩:=hp;simp only[MH,MZ]at e1 c;obtain⟨l,ev⟩:=e1;obtain⟨x1,m,n⟩:=c;subst l ev x1 m n;have p:a=a':=by simpa using g
 subst p;have q:o=o':=by simpa using h1.symm.trans h
 subst q;obtain rfl:=h2.uniq i;exact⟨u,e,hw,j,k⟩
def sf (h2:dz R RA v rows) (hp:ke.post [v] [] [R,RA] w K F) :
 ∃ u e,w=.tuple #[u,.int .i64 e]/\(c9 rows->e=0/\OwB F 5 u (aH rows))/\(¬c9 rows->e=3):=by
 obtain⟨v',R',c,a,u,e,e1,b,d,hw,f,g⟩:=hp;simp only[MH,MZ]at e1 b;obtain⟨h,i⟩:=b;subst e1 h i;obtain rfl:=h2.uniq d;exact⟨u,e,hw,f,g⟩
def AK:List Sx.Spec:=[ke]
def CU:∀ t∈AK,t.OK Tryz.prog:=fun t a=>by
 simp only[AK,MQ,MV,Nt]at a;rw[a];exact ue
def nR:Walk Tryz.prog AK nQ.fn where
 Λ:=noLoops
 args:=[TP (.var 0) (.lit 0),.sv (.one (.sl (.var 1) (.var 2) (.var 3) (.var 4)))]
 mem:=[.ro 5 [.var 0] false,.ro 6 [.var 1] false,.ro 7 [] true]
 nv:=8
def K9:ke.res=[.one .sl,.one (.int .i64)]:=rfl
open Classical in
def x7:nQ.OK Tryz.prog:=by
 refine Spec.of_fn (Γ:=AK) CU ?_;rintro xs Hs Rs g t ⟨p,v,a,o,R,R1,RA,rows,rfl,rfl,rfl,k,hB,hlen,av⟩;have e0:Hs=[]:=MF.1 g;subst e0;obtain⟨us,x,y,c,rfl,hy,w,l,z⟩:=id hB;refine⟨nR,envI [(a:Int),x,y,us.length,c] false [Hl.none,Hl.none,Hl.none,Hl.none,Hl.none,R,R1,RA],fun _ _=>True,fun _ _=>0,?_,⟨?_,?_,?_,?_⟩,(fun _ h=>nomatch h),?_⟩
 .show [Value.pointer (slP (a:Int) 0),Value.slice (slP x y) ((us.length:Int)).toNat ((c:Int)).toNat]=_;rw[MD,MD,aY]
 .intro r hr ho;simp [nR]at hr;rcases hr with rfl | rfl | rfl<;>cases ho
 .intro r hr ho;simp [nR]at hr;rcases hr with rfl | rfl | rfl
  .exact⟨R,ar,Hl.le_refl _⟩
  .exact⟨R1,ar,Hl.le_refl _⟩
  .exact⟨RA,ar,Hl.le_refl _⟩
 .simp [nR,Res.own]
 .intro r hr;simp [nR]at hr;rcases hr with rfl | rfl | rfl<;>trivial
 .refine Walk.read [] [] [] ?_;generalize b:envI [(a:Int),x,y,us.length,c] false [Hl.none,Hl.none,Hl.none,Hl.none,Hl.none,R,R1,RA]=J;have v0:J.i 0=a:=by rw[<-b];rfl
  have v1:J.i 1=x:=by rw[<-b];rfl
  have v2:J.i 2=y:=by rw[<-b];rfl
  have A:J.i 3=us.length:=by rw[<-b];rfl
  have v4:J.i 4=c:=by rw[<-b];rfl
  have B:J.h 5=R:=by rw[<-b];rfl
  have w6:J.h 6=R1:=by rw[<-b];rfl
  have w7:J.h 7=RA:=by rw[<-b];rfl
  clear b;have t3:Int.toNat 3=3:=rfl;simp only[go_sem,Nat.reduceAdd,AK,K9,Lq,t3];rw[v0,v1,v2,A,v4,B,w6,w7,MD,MD,MD,k];refine⟨ae,rfl,fun ho _=>?_,fun ho=>⟨⟨_,R1,RA,rows,rfl,rfl,hB,hlen,av⟩,fun q1 D ⟨E,m,n,q⟩ _=>?_⟩⟩
  .have ho:o=true:=ho;refine⟨[],[],rfl,rfl,⟨(ay fun j=>[-1,0,0,0,5].getD j 0),rfl,⟨MT _,MT _,MT _,MT _⟩,zzT,zzT⟩,_,_,a,o,R,R1,RA,rows,.slice none 0 0,5,rfl,rfl,rfl,k,hB,rfl,⟨fun _=>rfl,fun h=>absurd (ho.symm.trans h) ar,fun h=>absurd (ho.symm.trans h) ar⟩,fun h=>absurd h aj⟩
  .have ho:¬o=true:=ho;obtain⟨u,e,hw,d,f⟩:=sf hB m;simp only[Value.tuple.injEq,Nc,MH,Value.int.injEq,Nz,MZ]at hw;obtain⟨C,s⟩:=hw;have hn:-1<=q1.i 8/\0<=q1.i 9/\0<=q1.i 10/\0<=q1.i 11:=q.1;refine⟨[],[3],rfl,rfl,⟨(ay fun j=>[q1.i 8,q1.i 9,q1.i 10,q1.i 11,q1.i 12].getD j 0),rfl,hn,zzT,zzT⟩,_,_,a,o,R,R1,RA,rows,.slice (slP (q1.i 8) (q1.i 9)) (q1.i 10).toNat (q1.i 11).toNat,q1.i 12,rfl,rfl,rfl,k,hB,rfl,⟨fun h=>absurd h ho,fun _ h=>?_,fun _ h=>?_⟩,fun h=>?_⟩
   .rw[s];exact(d h).1
   .rw[s];exact f h
   .show OwB (hls [q1.h 8]) _ _ _;rw[hls_one,n trivial,C];by_cases hk:c9 rows
    .exact(d hk).2
    .have:=f hk;omega
end Go.Proofs.YtbdikjnpbnobcaaGreatDoor
