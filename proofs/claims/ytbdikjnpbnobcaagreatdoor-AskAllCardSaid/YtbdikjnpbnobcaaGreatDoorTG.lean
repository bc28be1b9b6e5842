/- Pull after pull, for all and with bodies, brings every piece laid in a door once, each whole and in its writer's order: a part of the proof. No condition. -/
import Derived.Lib.Hide
import Derived.WalkSpells
import Derived.WalkLawsBesides
import Derived.Lib.BytesEntry
import Derived.Test.YtbdikjnpbnobcaaGreatDoorTF
set_option linter.all false
set_option maxHeartbeats 4000000
namespace Go.Proofs.YtbdikjnpbnobcaaGreatDoor
open Go Go.Sx Go.Pk
open Go.Proofs.YtbdikjnpbnobcaaGreatDoor.D hiding aM aA fe
variable {D:DM}{F H H' R R':Hl}{rows:List (List Int)}{b j m:Nat}{S:SM}{dp p u v:Value}
def MQ (hl:R.le R') (h:R.cell b j=some v):R'.cell b j=some v:=by
 unfold Hl.cell at h ⊢;cases a:R b with
 | none=>rw[a]at h;cases h
 | some o=>rw[a]at h;rw[hl _ _ a];exact h
def jE {bs:List Int} (h:fE R v bs) (hl:R.le R'):fE R' v bs:=by
 obtain⟨x,y,c,e,hy,h⟩:=h;exact⟨x,y,c,e,hy,h.imp id fun⟨hx,h⟩=>⟨hx,fun j z hz=>MQ hl (h j z hz)⟩⟩
def Vt:List Int:=List.replicate 16 0
def Oo (h:6<=m/\m<=16384):gr (gS m)=0/\jI (gS m)=mkS ⟨0,64*(((m/2:Nat):Int)-2),0,0,Vt,false⟩ [] ⟨((m/2:Nat):Int),64*(((m/2:Nat):Int)-2),0,0,Vt,false⟩ []:=by
 have hs:(gS m).n=m:=by
  show iF m=m;unfold iF;omega
 have h1:iw (gS m) 0 ((m/2:Nat):Int) 0 [] (List.replicate 16 0):=qb ah ah ah;have a:iw (gS m) (m/2) ((m/2:Nat):Int) 0 [] (List.replicate 16 0):=qb ah ah ah;have e1:uB (gS m)=⟨0,64*(((m/2:Nat):Int)-2),0,0,Vt,false⟩:=by unfold uB;rw[hs];exact h1.kQ
 have b:mH (gS m)=⟨((m/2:Nat):Int),64*(((m/2:Nat):Int)-2),0,0,Vt,false⟩:=by unfold mH;rw[hs];exact a.kQ
 have c:pS (gS m)=[]:=by unfold pS;rw[hs];exact h1.lP
 have d:jQ (gS m)=[]:=by unfold jQ;rw[hs];exact a.lP
 refine⟨?_,?_⟩
 .unfold gr;rw[hs,aa8 ah];rfl
 .unfold jI;rw[e1,b,c,d,aa8 (by show ¬fY _<fY _;exact Int.lt_irrefl _)]
def NM:tu 0=0:=rfl
def S5 (ho:S.over=false) (hk:jC rows) (a:rows≠[]) (hr:((bM rows).length:Int)<=S.LA.most-S.bA.length) (he:(bp D S.LA S.bA (bM rows) S.LA.note).e=0) :
 (dt D S rows).e=0/\(dt D S rows).D=(bp D S.LA S.bA (bM rows) S.LA.note).D/\(dt D S rows).S=⟨(bp D S.LA S.bA (bM rows) S.LA.note).L,(bp D S.LA S.bA (bM rows) S.LA.note).bs,S.LB,S.bB,S.recs++rows,false⟩:=by
 have e:dt D S rows=Iz D S rows (bp D S.LA S.bA (bM rows) S.LA.note):=by
  unfold dt;rw[aa8 (by rw[ho];simp),aa8 (fun h=>h hk),aa8 a,aa8 ah]
 rw[e];unfold Iz;rw[he,NM,ab9 rfl,aa8 (fun h=>h.1 rfl),ho];exact⟨rfl,rfl,rfl⟩
def Kh (f:aE H dp D) (hp:xF.post [dp] [H] [] v [H'] F):∃ a,aE H' dp D/\v=.tuple #[a,.int .i64 (gr D)]/\(gr D=0->jt F a dp (jI D))/\(gr D≠0->a=.pointer none):=by
 obtain⟨dp',h,D',i,a,e1,d,b,e,c,hv,h1,g⟩:=hp;simp only[aae,abw]at e1 d e;subst e1 d e;obtain rfl:=b.uniq f;exact⟨a,c,hv,h1,g⟩
def O2 {HD a RA RG:Hl} (h1:jt H p dp S) (g:aE HD dp D) (h:kv R RA u rows) (hp:IA.post [p,u] [H,HD] [R,RA,RG] v [H',a] F) :
 aE a dp (dt D S rows).D/\jt H' p dp (dt D S rows).S/\v=.int .i64 (dt D S rows).e:=by
 obtain⟨r,u',s,i,t,j,k,dp',S',D',b,w,l,e1,c,d,k1,k2,k3,f,k4,k5,hv⟩:=hp;simp only[aae,abw]at e1 c d f;obtain⟨a1,a2⟩:=e1;obtain⟨a3,a4⟩:=c;obtain⟨a5,m,n⟩:=d;obtain⟨o,q⟩:=f;subst a1 a2 a3 a4 a5 m n o q;obtain⟨rfl,rfl⟩:=h1.rd.uniq k1.rd;obtain rfl:=g.uniq k2;obtain rfl:=h.uniq k3;exact⟨k4,k5,hv⟩
def yes (fn:FuncId) (pre:List Value->List Hl->Prop) (rd:List Nat):Sx.Spec where
 fn:=fn
 own:=[]
 rd:=rd
 res:=[.one .bool]
 pre:=fun xs Hs Rs=>pre xs Rs
 post:=fun xs Hs Rs v Hs' F=>v=.bool true
end Go.Proofs.YtbdikjnpbnobcaaGreatDoor
namespace Go.Proofs.YtbdikjnpbnobcaaGreatDoor.D
open Go Go.Sx
variable {D D':DM}{i n:Int}{all b bs nt nt':List Int}{frm j k:Nat}
def Hi (h:D.ok) (hi:D.has i=true) (hb:bs.length=64) (a:¬(64*i.toNat<=j/\j<64*i.toNat+64)):(tz D i bs).now[j]?=D.now[j]?:=by
 rw[BF h hi hb,aa8 a]
def I8 (frm:Nat) (all:List Int) (B:Nat):∀ (f i:Nat) (D:DM),ti D->all.length+1<=f+i->all.length+64*(frm+2)<=64*D.n->64*(frm+2)+all.length<=64*B ->
 ∀ j,(j<64*frm\/64*B<=j)->(gl frm all f i D).2.now[j]?=D.now[j]?:=by
 intro f
 induction f with
 | zero =>
  intro i D h h1 b c j d;show(cP D).2.now[j]?=_;rw[(j9 h).2.2.1]
 | succ f ih =>
  intro i D h h1 b c j d;have g:(frm:Int)+2+i=((frm+2+i:Nat):Int):=ah;by_cases a:64*i<all.length
  .have hi:D.has ((frm:Int)+2+i)=true:=by unfold DM.has;simp only[aas];omega
   have hw:=nJ h hi (jl all i);have e:gl frm all (f+1) i D=gl frm all f (i+1) (tz D ((frm:Int)+2+i) (pj all i)):=by
    show(if 64*i<all.length then _ else _)=_;rw[ab9 a,hw];simp
   rw[e,ih (i+1) _ (sP h hi (jl all i)) ah b c j d,Hi h.ok hi (jl all i)];rw[g,aac];omega
  .have e:gl frm all (f+1) i D=cP D:=by
    show(if 64*i<all.length then _ else _)=_;rw[aa8 a]
   rw[e,(j9 h).2.2.1]
def iw.out (h:iw D frm n k all nt) (hb:(all.length:Int)+b.length<=64*(n-2)) (hk:k<1000000) (i:nt'.length=16) :
 (bp D ⟨frm,64*(n-2),k,all.length,nt,false⟩ all b nt').D.n=D.n/\∀ j:Nat,((j:Int)<64*frm\/64*(frm+n)<=(j:Int))->(bp D ⟨frm,64*(n-2),k,all.length,nt,false⟩ all b nt').D.now[j]?=D.now[j]?:=by
 obtain⟨r1,r2⟩:=h.rng;have v:=h.sure.ok.n;have w:(all++b).length=all.length+b.length:=aaA;obtain⟨L,e⟩:∃ L:LM,L=⟨frm,64*(n-2),k,all.length,nt,false⟩:=⟨_,rfl⟩;rw[<-e];have f1:L.frm=frm:=by rw[e]
 have f2:L.most=64*(n-2):=by rw[e]
 have f3:L.serial=k:=by rw[e]
 have f4:L.over=false:=by rw[e]
 obtain⟨F,u⟩:∃ F,F=(iD D L.frm (all++b) all.length).2:=⟨_,rfl⟩;obtain⟨a1,a2,a3,_,_⟩:=yf frm (all++b) ((all++b).length+1) (all.length/64) D h.sure ah ah;have l:=I8 frm (all++b) (frm+n.toNat) ((all++b).length+1) (all.length/64) D h.sure ah ah ah;have m:iD D L.frm (all++b) all.length=gl frm (all++b) ((all++b).length+1) (all.length/64) D:=by
  unfold iD;rw[f1,show(((all.length:Nat):Int)/64).toNat=all.length/64 by omega]
 rw[<-m]at a1 a2 a3 l;rw[<-u]at a2 a3 l;obtain⟨N,hN⟩:∃ N,N=vX L (all++b) nt':=⟨_,rfl⟩;have eN:N=((k+1:Nat):Int)::((all++b).length:Int)::nt':=by
  rw[hN];unfold vX;rw[f3];rfl
 have hp:((k+1:Nat):Int).tmod 2=(((k+1)%2:Nat):Int):=by
  rw[acT ah];omega
 obtain⟨p,o⟩:∃ p,p=(k+1)%2:=⟨_,rfl⟩;have x:p<2:=ah;obtain⟨b1,_⟩:=CR (a:=((k+1:Nat):Int)) (b:=((all++b).length:Int)) (nt:=nt') ⟨ah,ah⟩ ⟨ah,ah⟩ i;rw[<-eN]at b1;have d:(cw N++cw N).length=64:=by rw[aaA,b1]
 have y:∀ q:Nat,(frm:Int)+((q:Nat):Int)=((frm+q:Nat):Int):=fun q=>ah;have c:F.has ((frm:Int)+(p:Int))=true:=by unfold DM.has;rw[a3];simp only[aas];omega
 have hw:=nJ a2 c d;obtain⟨G,g⟩:∃ G,G=tz F ((frm:Int)+(p:Int)) (cw N++cw N):=⟨_,rfl⟩;rw[<-g]at hw;have r:ti G:=by rw[g];exact sP a2 c d
 have s:G.n=D.n:=by rw[g,<-a3];rfl
 obtain⟨s1,s2,z,A⟩:=j9 r;have t:jS F L.frm N=cP G:=by
  unfold jS;have e0:N.getD 0 0=((k+1:Nat):Int):=by rw[eN];rfl
  rw[f1,e0,hp,<-o,hw];simp
 have f:bW D L (all++b) nt' all.length=(0,(cP G).2):=by
  unfold bW;rw[aa8 (by rw[a1];simp),<-u,<-hN,t,aa8 (by rw[s1];simp)]
 have happ:bp D L all b nt'=⟨0,(cP G).2,qP L (all++b) nt',all++b⟩:=by
  unfold bp;rw[f4,f3,f2,aa8 aC,aa8 ah,aa8 ah,f];rfl
 rw[happ];refine⟨A.trans s,fun j B=>?_⟩;show(cP G).2.now[j]?=_;rw[z,g,Hi a2.ok c d (by rw[y p,aac];omega)];exact l j ah
def iw.cJ (h:iw D frm n k all nt) (hs:ti D') (hn:D'.n=D.n) (a:∀ j:Nat,64*(frm:Int)<=j->(j:Int)<64*(frm+n)->D'.now[j]?=D.now[j]?):iw D' frm n k all nt:=by
 obtain⟨r1,r2⟩:=h.rng;have hl:=h.len;have rd:∀ q:Nat,q<2->bw D' frm (64*(n-2)) (q:Int)=bw D frm (64*(n-2)) (q:Int):=by
  intro q d;refine Bf h.sure hs hn (by unfold DM.has;simp only[aas];omega) (yF fun j h1 e=>a j ?_ ?_)
  .omega
  .omega
 refine⟨hs,⟨r1,by rw[hn];exact r2⟩,hl,h.note,?_,?_,fun t z b=>?_⟩
 .rw[rd _ ah];exact h.cur
 .have e1:bw D' frm (64*(n-2)) 1=bw D frm (64*(n-2)) 1:=rd 1 ah;rw[rd _ ah,e1];exact h.oth
 .have c:=(aaG.1 b).1;rw[a _ ah ah];exact h.bytes t z b
end Go.Proofs.YtbdikjnpbnobcaaGreatDoor.D
namespace Go.Proofs.YtbdikjnpbnobcaaGreatDoor
open Go Go.Sx Go.Pk
open Go.Proofs.YtbdikjnpbnobcaaGreatDoor.D hiding aM aA fe
variable {D:DM}{g:Int}{rows:List (List Int)}{K K' m n:Nat}{S:SM}
def Vn {r rest:List Int} (h:r.length<=4096):tx (aB r++rest)=(r,rest,false):=by
 have e:ck (aB r++rest)=(r.length,(aF r.length).length):=by
  unfold ck aB;rw[abS,oW ah];rfl
 have hp:=vZ r.length;unfold tx gR;rw[e,aa8]
 .show(((aB r++rest).drop (aF r.length).length).take r.length,(aB r++rest).drop ((aF r.length).length+r.length),false)=_;unfold aB;rw[abS,afT rfl,afU rfl,<-aft,afT rfl,afT rfl]
 .show ¬(false=true\/(aF r.length).length=0\/(4096:Int)<0\/min (min 4096 4096) (((aB r++rest).length:Int)-((aF r.length).length:Nat))<((r.length:Nat):Int));have:(aB r++rest).length=(aF r.length).length+r.length+rest.length:=by unfold aB;simp;omega
  rw[this];simp only[acQ,false_or];omega
def JL (r:List Int) (rows:List (List Int)):bM (r::rows)=aB r++bM rows:=rfl
def wj (a b:List (List Int)):bM (a++b)=bM a++bM b:=by unfold bM;rw[acm,afH]
def yP:∀ {rows:List (List Int)},jC rows->jL (bM rows)=rows
 | [],_=>rfl
 | r::rows,h=>by
  have hr:=h r (acj ..);have hp:=vZ r.length;rw[JL,DA (by intro e;have:=ach List.length e;unfold aB at this;rw[aaA,aaA]at this;simp only[acO]at this;omega),Vn hr,aa8 aC];show r::jL (bM rows)=_;rw[yP fun s hs=>h s (abq _ hs)]
def Ha (h:∀ r∈rows,al r):al (bM rows):=by
 intro z hz;unfold bM at hz;obtain⟨l,hl,hz⟩:=agh.1 hz;obtain⟨r,hr,rfl⟩:=acw.1 hl;unfold aB at hz;rcases acg.1 hz with h1 | h1
 .exact C9 _ z h1
 .exact h r hr z h1
structure SP (D:DM) (S:SM) (n:Nat) (g:Int) (K:Nat) where
 fA:Nat
 kA:Nat
 ntA:List Int
 fB:Nat
 kB:Nat
 ntB:List Int
 hn:D.n/2=n
 n3:3<=n
 place:(fA=0/\fB=n/\fY (ntB.take 8)<=g)\/(fA=n/\fB=0/\fY (ntB.take 8)<g)
 hA:iw D fA n kA S.bA ntA
 hB:iw D fB n kB S.bB ntB
 eA:S.LA=⟨fA,64*((n:Int)-2),kA,S.bA.length,ntA,false⟩
 eB:S.LB=⟨fB,64*((n:Int)-2),kB,S.bB.length,ntB,false⟩
 pk:S.bA=bM S.recs
 ok:jC S.recs
 ov:S.over=false
 gen:fY (ntA.take 8)=g
 g0:0<=g/\g<=K
 kK:kA<=K/\kB<=K
 loose:D.loose=[]
 b1:al S.bA
 b2:al S.bB
def SP.open (h:SP D S n g K):gr D=0/\jI D=S/\al (pS D)/\al (jQ D):=by
 obtain⟨fA,kA,ntA,fB,kB,ntB,hn,n3,place,hA,hB,eA,eB,pk,ok,ov,gen,g0,kK,loose,b1,b2⟩:=h;have e:gr D=0:=by
  unfold gr;rw[hn,hA.sure.gone,aa8 ah];rfl
 have a:S=mkS S.LA S.bA S.LB S.bB:=by
  unfold mkS;rw[pk,yP ok,<-pk,<-ov]
 have f:uk S.LA=g:=by unfold uk;rw[eA];exact gen
 rcases place with ⟨rfl,rfl,hg⟩ | ⟨rfl,rfl,hg⟩
 .have e1:uB D=S.LA:=by unfold uB;rw[hn,eA];exact hA.kQ
  have d:mH D=S.LB:=by unfold mH;rw[hn,eB];exact hB.kQ
  have b:pS D=S.bA:=by unfold pS;rw[hn];exact hA.lP
  have c:jQ D=S.bB:=by unfold jQ;rw[hn];exact hB.lP
  refine⟨e,?_,by rw[b];exact b1,by rw[c];exact b2⟩;unfold jI;rw[e1,d,b,c,f,aa8 (by show ¬g<uk S.LB;unfold uk;rw[eB];show ¬g<fY (ntB.take 8);omega)];exact a.symm
 .have e1:uB D=S.LB:=by unfold uB;rw[hn,eB];exact hB.kQ
  have d:mH D=S.LA:=by unfold mH;rw[hn,eA];exact hA.kQ
  have b:pS D=S.bB:=by unfold pS;rw[hn];exact hB.lP
  have c:jQ D=S.bA:=by unfold jQ;rw[hn];exact hA.lP
  refine⟨e,?_,by rw[b];exact b2,by rw[c];exact b1⟩;unfold jI;rw[e1,d,b,c,f,ab9 (by show uk S.LB<g;unfold uk;rw[eB];exact hg)];exact a.symm
def SP.more (h:SP D S n g K) (hK:K<=K'):SP D S n g K' :=
 {h with g0:=⟨h.g0.1,by have:=h.g0.2;omega⟩,kK:=⟨by have:=h.kK.1;omega,by have:=h.kK.2;omega⟩}
def SP.apart (h:SP D S n g K):(h.fA:Int)+n<=h.fB\/(h.fB:Int)+n<=h.fA:=by
 rcases h.place with ⟨h1,a,_⟩ | ⟨h1,a,_⟩<;>omega
def SP.add (h:SP D S n g K) (hk:jC rows) (hr:((bM rows).length:Int)<=64*((n:Int)-2)-S.bA.length) (hb:∀ r∈rows,al r) (hK:K<1000000) :
 (dt D S rows).e=0/\(dt D S rows).S.recs=S.recs++rows/\Nonempty (SP (dt D S rows).D (dt D S rows).S n g (K+1)):=by
 by_cases c:rows=[]
 .subst c;have e:dt D S []=⟨0,D,S⟩:=by
   unfold dt;rw[aa8 (by rw[h.ov];simp),aa8 (fun h'=>h' hk),ab9 rfl]
  rw[e];exact⟨rfl,(acD _).symm,⟨h.more ah⟩⟩
 have a:((S.bA.length:Nat):Int)+((bM rows).length:Nat)<=64*((n:Int)-2):=ah;have d:h.kA<1000000:=by have:=h.kK.1;omega
 obtain⟨a1,a2,a3,a4⟩:=h.hA.append (b:=bM rows) (nt':=h.ntA) a d h.hA.note;obtain⟨o1,o2⟩:=h.hA.out (b:=bM rows) (nt':=h.ntA) a d h.hA.note;rw[<-h.eA]at a1 a2 a3 a4 o1 o2;have eN:S.LA.note=h.ntA:=by rw[h.eA]
 have eM:S.LA.most=64*((n:Int)-2):=by rw[h.eA]
 obtain⟨c1,c2,c3⟩:=S5 (D:=D) (S:=S) (rows:=rows) h.ov hk c (by rw[eM];exact hr) (by rw[eN];exact a1);rw[eN]at c2 c3;have f:S.bA++bM rows=bM (S.recs++rows):=by rw[h.pk,wj]
 refine⟨c1,by rw[c3],⟨?_⟩⟩;rw[c2,c3,a3,a4];refine⟨h.fA,h.kA+1,h.ntA,h.fB,h.kB,h.ntB,by rw[o1];exact h.hn,h.n3,h.place,a2,h.hB.cJ a2.sure o1 fun j h1 i=>o2 j ?_,rfl,h.eB,f,fun r hr=>?_,rfl,h.gen,⟨h.g0.1,by have:=h.g0.2;omega⟩,⟨by have:=h.kK.1;omega,by have:=h.kK.2;omega⟩,DO a1,fun z hz=>?_,h.b2⟩
 .rcases h.apart with hp | hp<;>omega
 .rcases acg.1 hr with h1 | h1
  .exact h.ok r h1
  .exact hk r h1
 .rcases acg.1 hz with h1 | h1
  .exact h.b1 z h1
  .exact Ha hb z h1
def SP.new (h:6<=m/\m<=16384):Nonempty (SP (gS m) (jI (gS m)) (m/2) 0 0)/\(jI (gS m)).recs=[]/\gr (gS m)=0:=by
 obtain⟨e1,a⟩:=Oo h;rw[a];have hn:(gS m).n=m:=by show iF m=m;unfold iF;omega
 have hA:iw (gS m) 0 ((m/2:Nat):Int) 0 [] Vt:=qb ah ah ah;have hB:iw (gS m) (m/2) ((m/2:Nat):Int) 0 [] Vt:=qb ah ah ah;have hz:fY (Vt.take 8)=0:=by decide
 exact⟨⟨⟨0,0,Vt,m/2,0,Vt,by rw[hn],ah,Or.inl ⟨rfl,rfl,by rw[hz];exact aba 0⟩,hA,hB,rfl,rfl,rfl,fun r hr=>(by cases hr),rfl,hz,⟨aba 0,aba 0⟩,⟨ab8 _,ab8 _⟩,rfl,fun z hz=>(by cases hz),fun z hz=>(by cases hz)⟩⟩,rfl,e1⟩
end Go.Proofs.YtbdikjnpbnobcaaGreatDoor
namespace Go.Proofs.YtbdikjnpbnobcaaGreatDoor
open Go Go.Sx Go.Pk
open Go.Proofs.YtbdikjnpbnobcaaGreatDoor.D (fY ky wZ)
abbrev xY:Ck:=.int .u32
def ab2 (xs:List Value):Value:=match xs with
 | [.int _ x,.int _ n]=>.int .u32 (bC n.toNat x)
 | _=>.bool false
def ab3 (xs:List Value):Prop:=match xs with
 | [.int _ x,.int _ n]=>okW x/\0<=n/\n<=32
 | _=>False
def se:Sx.Spec:=rG 101 [.one xY,.one (.int .i64)] [.one xY] ab3 ab2
def Cd:aD Tryz.prog [] 101 where
 Λ:=fun p=>if lp p then some ⟨0,[(0,.sv (.one (.int .u32 (.var 10)))),(5,TI .i64 (.var 11))],[],20⟩else none
 args:=(bQ 0 [.one xY,.one (.int .i64)]).map .sv
 mem:=[]
 nv:=2
def Dd (z:Int):∃ J:Env,Value.int .u32 z=((jO 0 [.one xY]).ev J)/\bR 0 [.one xY] J:=⟨(ba fun _=>z),rfl,zzT,zzT⟩
def Cc:se.OK Tryz.prog:=by
 refine ko (fun t h=>by cases h) Cd rfl rfl rfl (fun q _ hN=>?_) (fun q p hN=>⟨fun _ e=>∃ k:Nat,e.i 11=k/\(k:Int)<=q.i 1/\e.i 10=bC k (q.i 0),fun _ e=>(q.i 1-e.i 11).toNat,?_⟩)
 .obtain⟨J,h1,l⟩:=Dd (bC (q.i 1).toNat (q.i 0));exact⟨J,h1,l⟩
 .have hN:okW (q.i 0)/\0<=q.i 1/\q.i 1<=32:=hN;obtain⟨h0,h1,l⟩:=hN;refine aD.read [] [] [] ?_;simp only[go_sem,Nat.reduceAdd];refine⟨⟨0,rfl,h1,rfl⟩,fun e g ⟨k,f,hk,c⟩=>?_⟩;rw[g.i 1,f];refine⟨fun n=>⟨⟨k+1,?_,ah,?_⟩,?_⟩,fun o=>?_⟩
  .show IntKind.i64.wrap (e.i 11+1)=_;rw[f,wrap_i64 ah ah];rfl
  .show IntKind.u32.wrap (IntKind.u32.wrap ((e.i 10).tdiv 2)+IntKind.u32.wrap ((e.i 10).tmod 2*2147483648))=tZ (bC k (q.i 0));have hx:=Ig h0 k ah;have hy:=Ig h0 (k+1) ah;rw[c];have hy:okW (tZ (bC k (q.i 0))):=hy;generalize bC k (q.i 0)=x at hx hy;unfold okW at hx hy;unfold tZ at hy ⊢;have d:x.tdiv 2=x/2:=afn hx.1;have m:x.tmod 2=x%2:=acT hx.1;rw[d,m];have a:=sg (x:=x/2) ⟨ah,ah⟩;have b:=sg (x:=x%2*2147483648) ⟨ah,ah⟩;unfold dL at a b;rw[a,b];exact sg hy
  .show(q.i 1-IntKind.i64.wrap (e.i 11+1)).toNat<(q.i 1-(k:Int)).toNat;rw[f,wrap_i64 ah ah];omega
  .have j:(k:Int)=q.i 1:=ah;show Value.int .u32 (e.i 10)=Value.int .u32 (bC (q.i 1).toNat (q.i 0));rw[c,<-j,aac]
def abE (xs:List Value):Value:=match xs with
 | [.int _ x,.int _ n]=>.int .u32 (bC (-n).toNat x)
 | _=>.bool false
def aeE (xs:List Value):Prop:=match xs with
 | [.int _ x,.int _ n]=>okW x/\n∈([-2,-6,-7,-11,-13,-17,-18,-19,-22,-25]:List Int)
 | _=>False
def RV:Sx.Spec:=rG 165 [.one xY,.one (.int .i64)] [.one xY] aeE abE
def aeF:aD Tryz.prog [] 165 where
 Λ:=aA
 args:=(bQ 0 [.one xY,.one (.int .i64)]).map .sv
 mem:=[]
 nv:=2
def YE {n:Nat} (h1:1<=n) (c:n<=31) {x:Int} (hx:okW x) {s r:Int} (hs:s=((32-n:Nat):Int)) (hr:r=(n:Int)):ct .or .u32 (IntKind.u32.wrap (x*2 ^ (min s.toNat IntKind.u32.bits))) (x.fdiv (2 ^ (min r.toNat IntKind.u32.bits)))=bC n x:=by
 subst hs hr;have a:min ((32-n:Nat):Int).toNat IntKind.u32.bits=32-n:=by show min _ 32=_;omega
 have b:min ((n:Nat):Int).toNat IntKind.u32.bits=n:=by show min _ 32=_;omega
 rw[a,b];exact RW hx h1 c
def L9:RV.OK Tryz.prog:=by
 refine ko (fun t h=>by cases h) aeF rfl rfl rfl (fun q _ hN=>?_) (fun q b hN=>⟨fun _ _=>True,fun _ _=>0,?_⟩)
 .obtain⟨J,h1,a⟩:=Dd (bC (-(q.i 1)).toNat (q.i 0));exact⟨J,h1,a⟩
 .have hN:okW (q.i 0)/\q.i 1∈([-2,-6,-7,-11,-13,-17,-18,-19,-22,-25]:List Int):=hN;obtain⟨h0,h1⟩:=hN;refine aD.read [] [] [] ?_;simp only[go_sem,Nat.reduceAdd];have key:∀ k:Nat,1<=k->k<=31->q.i 1= -(k:Int)->ct .and .u64 (IntKind.u64.wrap (-(k:Int))) 31=((32-k:Nat):Int) ->
   0<=ct .and .u64 (IntKind.u64.wrap (q.i 1)) 31 /\
   Value.int .u32 (ct .or .u32 (IntKind.u32.wrap (q.i 0*2 ^ (min (ct .and .u64 (IntKind.u64.wrap (q.i 1)) 31).toNat IntKind.u32.bits))) ((q.i 0).fdiv (2 ^ (min (IntKind.u64.wrap (32-ct .and .u64 (IntKind.u64.wrap (q.i 1)) 31)).toNat IntKind.u32.bits))))=Value.int .u32 (bC (-(q.i 1)).toNat (q.i 0)):=by
   intro k k1 k2 e hb;rw[e,hb];have hw:IntKind.u64.wrap (32-((32-k:Nat):Int))=k:=by rw[m9 ah ah];omega
   rw[hw,YE k1 k2 h0 rfl rfl];exact⟨ah,by rw[show(-(-(k:Int))).toNat=k by omega]⟩
  simp only[aaW,abd,acs]at h1;rcases h1 with h | h | h | h | h | h | h | h | h | h
  .exact key 2 az az h az
  .exact key 6 az az h az
  .exact key 7 az az h az
  .exact key 11 az az h az
  .exact key 13 az az h az
  .exact key 17 az az h az
  .exact key 18 az az h az
  .exact key 19 az az h az
  .exact key 22 az az h az
  .exact key 25 az az h az
end Go.Proofs.YtbdikjnpbnobcaaGreatDoor
namespace Go.Proofs.YtbdikjnpbnobcaaGreatDoor
open Go Go.Sx Go.Pk
open Go.Proofs.YtbdikjnpbnobcaaGreatDoor.D (fY ky wZ fO)
variable {F R:Hl}{a d x y' z:Int}{bs l:List Int}{b c j k n o y:Nat}{T:TypeId}
def Ld:Sx.Spec:=D.MM 187
def Qg:Ld.OK Tryz.prog:=D.DW.2.2
def adi {b c:Int} (e:0<=a/\a<256) (hb:0<=b/\b<256) (f:0<=c/\c<256) (hd:0<=d/\d<256):fY [a,b,c,d]=a*16777216+b*65536+c*256+d:=by
 show ky (ky (ky (ky 0 a) b) c) d=_;have e1:ky 0 a=a:=by rw[fO ah ah e.1 e.2];omega
 rw[e1,fO (n:=a) (c:=b) e.1 ah hb.1 hb.2];rw[fO (n:=a*256+b) (c:=c) ah ah f.1 f.2];rw[fO (n:=(a*256+b)*256+c) (c:=d) ah ah hd.1 hd.2];omega
def TK (hl:bs.length=64) (hk:k<16):(bs.drop (4*k)).take 4=[bs.getD (4*k) 0,bs.getD (4*k+1) 0,bs.getD (4*k+2) 0,bs.getD (4*k+3) 0]:=by
 apply ack;intro j;rw[acC];have key:∀ i,i<4->(bs.drop (4*k))[i]?=some (bs.getD (4*k+i) 0):=fun i hi=>by
  rw[acR,abv,aad ah];rfl
 match j with
 | 0=>exact key 0 ah
 | 1=>exact key 1 ah
 | 2=>exact key 2 ah
 | 3=>exact key 3 ah
 | j+4=>rw[aa8 ah];rfl
def OL (hl:bs.length=64) (hb:al bs) (hk:k<16):IntKind.u32.wrap (fY ((bs.drop (4*k)).take 4))=Io bs k:=by
 have g:∀ i,i<64->0<=bs.getD i 0/\bs.getD i 0<256:=fun i hi=>by
  rw[abv,aad ah,afb];exact hb _ (acK _)
 rw[TK hl hk,adi (g _ ah) (g _ ah) (g _ ah) (g _ ah)];rfl
def L0 {y:Int} {l:Nat} (h:fE R (.slice (au x y) l c) bs) (hx:-1<=x) (hy:0<=y) (hn:o+n<=bs.length) (b:n=0\/y'=y+o) (h0:0<=y') (c':Nat):fE R (.slice (au x y') n c') ((bs.drop o).take n):=by
 have hl:((bs.drop o).take n).length=n:=by rw[ace,acy];omega
 obtain⟨x1,m,c1,e,d,h⟩:=h;rcases b with rfl | rfl
 .exact⟨x,y',c',by rw[afD];rfl,h0,Or.inl (afD ..)⟩
 .refine⟨x,y+o,c',by rw[hl],h0,?_⟩;by_cases hz:n=0
  .subst hz;exact Or.inl (afD ..)
  simp only[Value.slice.injEq]at e;obtain⟨g,el,_⟩:=e;rcases h with rfl | ⟨a,i⟩
  .simp at hn;omega
  obtain⟨rfl,f⟩:=ma hx hy ah d g;obtain rfl:=f a;refine Or.inr ⟨a,fun j z hz=>?_⟩;have k:j<n:=by have:=(aaG.1 hz).1;omega
  rw[ad4 k,acR]at hz;have:=i _ _ hz;rw[show(y+(o:Int)).toNat+j=y.toNat+(o+j)by omega];exact this
def KC (l:List Int):List Value:=l.map (Value.int .u32)
def wH (b:Nat) (l:List Int) (T:TypeId):Hl:=Hl.one b (.cells (KC l).toArray T (0,0))
def Mx (b:Nat) (l:List Int) (T:TypeId) (j:Nat):(wH b l T).cell b j=(l[j]?).map (Value.int .u32):=by
 unfold wH KC;rw[Hl.mP,aec,abl]
def DF (h:l[j]?=some z):(wH b l T).cell b j=some (.int .u32 z):=by rw[Mx,h];rfl
def Fj (h:y<l.length) (z:Int):(wH b l T).put b y [Value.int .u32 z]=wH b (l.set y z) T:=by
 unfold wH KC;rw[Hl.zF]
 congr 2
 apply ach;apply ack;intro j;rw[Sx.uP (by simp;omega),agX];simp only[acn,acO,agA,aca,abl];by_cases a:j=y
 .subst a;rw[ab9 ah,ab9 rfl,ab9 h];simp
 .rw[aa8 ah,aa8 ah]
def My (h:y<l.length):(wH b l T).wr b y 1=true:=Hl.JH _ _ _ _ _ (by simp [KC];omega)
def xx:∀ {n:Nat} (l:List Int),l.length=n->aR (KC l) (List.replicate n (Kd.int .u32))
 | 0,[],_=>trivial
 | n+1,z::l,h=>⟨by simp [bh],xx l (by simpa using h)⟩
def J1 (l:List Int) (h:l.length=n):aR (KC l) ((List.replicate n xY).map gY):=by rw[afN];exact xx l h
def ME (bs:List Int) (k:Nat) (l:List Int):Prop:=l.length=64/\∀ j,j<k->l[j]?=some ((aP bs 64).getD j 0)
def ME.set (h:ME bs k l) (hk:k<64) (hz:z=if k<16 then Io bs k else DG (aP bs k) k):ME bs (k+1) (l.set k z):=by
 refine⟨by rw[List.length_set];exact h.1,fun j a=>?_⟩;rw[agA];by_cases e:k=j
 .subst e;rw[ab9 rfl,ab9 (by rw[h.1];exact hk),mW bs 64 k hk,hz]
 .rw[aa8 e];exact h.2 j ah
def HU (n j:Nat) (h:j<n):okW ((aP bs n).getD j 0):=by
 rw[mW bs n j h];split
 .exact Cg _
 .exact Cg _
def zN:Sx.Spec where
 fn:=164
 own:=[]
 rd:=[0]
 res:=[.agg (List.replicate 64 xY)]
 pre:=fun xs Hs Rs=>∃ x y c bs R,xs=[.slice (au x y) 64 c]/\Rs=[R]/\fE R (.slice (au x y) 64 c) bs/\bs.length=64/\64<=c/\al bs/\0<=y/\ -1<=x
 post:=fun xs Hs Rs v Hs' F=>∀ u bs R,xs=[u]->Rs=[R]->fE R u bs->v=.agg (KC (aP bs 64)).toArray
def spΓ:List Sx.Spec:=[RV,Ld]
def YS:∀ t∈spΓ,t.OK Tryz.prog:=ak L9 <| ak Qg <| bu
def Vi:aD Tryz.prog spΓ zN.fn where
 Λ:=fun p=>if lp p then(if Iv p [164,1,1,0,1,0]then some ⟨0,[(10,TI .i64 (.var 50))],[(2,.hp 51 [] [.var 6] [])],60⟩else some ⟨1,[(5,TI .i64 (.var 70))],[(2,.hp 71 [] [.var 6] [])],80⟩)else none
 args:=[.sv (.one (.sl (.var 0) (.var 1) (.var 2) (.var 3)))]
 mem:=[.ro 4 [.var 0] true]
 nv:=5
def abT:RV.res=[.one xY]:=rfl
def ae0:Ld.res=[.one (.int .u64)]:=rfl
def ku (h:okW x) {n:Int} (hn:n∈([-2,-6,-7,-11,-13,-17,-18,-19,-22,-25]:List Int)):RV.pre [.int .u32 x,.int .i64 n] [] []:=⟨⟨(ba fun i=>if i=0 then x else n),⟨zzT,zzT,zzT⟩,rfl⟩,h,hn⟩
def Nb {u v:Value} {K:List Hl} (h:fE R u bs) (hp:Ld.post [u] [] [R] v K F):v=.int .u64 (fY bs):=by
 obtain⟨u',bs',R',e1,a,h',hv⟩:=hp;simp only[aae,abw]at e1 a;subst e1 a;rw[hv,h'.uniq h]
def ME.get (h:ME bs k l) (a:j<k) (hk:k<=64):l[j]?=some ((aP bs k).getD j 0):=by
 rw[h.2 j a,HT bs ah a]
def ME.all (h:ME bs 64 l):l=aP bs 64:=by
 apply ack;intro j;by_cases a:j<64
 .rw[h.2 j a,abv,aad (by rw[cZ];exact a)];rfl
 .rw[abA (by rw[h.1];omega),abA (by rw[cZ];omega)]
def aeS (h:okW x):x.fdiv (2 ^ (min (Int.toNat 3) IntKind.u32.bits))=x/8:=aed _ az
def abR (h:okW x):x.fdiv (2 ^ (min (Int.toNat 10) IntKind.u32.bits))=x/1024:=aed _ az
def Kj:zN.OK Tryz.prog:=by
 refine Spec.jN (Γ:=spΓ) YS rfl ?_;rintro xs Rs ⟨x,y,c,bs,R,rfl,rfl,hR,hlen,hc,hb,hy,hx⟩;refine⟨Vi,aM [x,y,64,c] false [Hl.none,Hl.none,Hl.none,Hl.none,R],
  fun j q=>match j with
   | 0=>∃ (k:Nat) (l:List Int),q.i 50=k/\k<=16/\ME bs k l/\q.h 51=wH (q.i 6).toNat l 175
   | _=>∃ (k:Nat) (l:List Int),q.i 70=k/\16<=k/\k<=64/\ME bs k l/\q.h 71=wH (q.i 6).toNat l 175,
  fun j q=>match j with
   | 0=>(16-q.i 50).toNat
   | _=>(64-q.i 70).toNat,?_,aT rfl rfl,rfl,?_⟩
 .show [Value.slice (au x y) (Int.toNat 64) ((c:Int)).toNat]=_;rw[aac];rfl
 .refine aD.read [] [] [] ?_;generalize A:aM [x,y,64,c] false [Hl.none,Hl.none,Hl.none,Hl.none,R]=J;have V:∀ q:Env,ai 5 J q->q.i 0=x/\q.i 1=y/\q.i 2=64/\q.i 3=c/\q.h 4=R:=fun q hg=>by
   rw[hg.i 0,hg.i 1,hg.i 2,hg.i 3,hg.h 4,<-A];exact⟨rfl,rfl,rfl,rfl,rfl⟩
  clear A;simp only[go_sem,Nat.reduceAdd,spΓ,abT,ae0];intro q1 g1 _ q2 g2 p6 X g3 h7;have G3:ai 5 J X:=g1.trans (g2.mono.tr g3);refine⟨⟨0,List.replicate 64 0,rfl,ah,⟨aC,fun j hj=>ah⟩,?_⟩,fun U g4 ⟨k,l,B,hk,s,hh⟩=>?_⟩
  .show X.h 7=wH (X.i 6).toNat _ _;rw[h7,g3.i 6];rfl
  have G4:ai 5 J U:=G3.tr g4;obtain⟨v0,v1,v2,v3,w4⟩:=V U G4;have t:0<=U.i 6:=by rw[g4.i 6,g3.i 6];exact p6
  rw[v0,v1,v3,w4,B];refine⟨fun Y=>?_,fun Z=>?_⟩
  .have aa:IntKind.i64.wrap (4*(k:Int))=4*k:=wrap_i64 ah ah;have ab:IntKind.i64.wrap (4*(k:Int)+4)=4*k+4:=wrap_i64 ah ah;rw[aa,ab];have hsub:=L0 hR hx hy (o:=4*k) (n:=4) ah (y':=y+(4*k:Nat)) (Or.inr rfl) ah ((c:Int)-4*k).toNat;have e4:((4:Int)*k+4-4*k).toNat=4:=ah;rw[aa8 ah,e4];rw[show y+((4*k:Nat):Int)=y+4*(k:Int)by omega]at hsub;refine⟨ah,hy,ah,ah,ah,⟨_,_,R,rfl,rfl,hsub,by rw[ace];omega⟩,fun a C ⟨F,p5,_,_⟩=>?_⟩;have ad:a.i 60=fY ((bs.drop (4*k)).take 4):=by
    have:=Nb hsub p5;simpa using this
   have D:a.i 50=k:=by rw[C.i 50,B]
   have G:a.i 6=U.i 6:=C.i 6;have hl:=s.1;rw[G,D,C.h 51,hh,aac];refine⟨t,ah,⟨t,ah,My ah⟩,fun w H ae=>?_⟩;have I:IntKind.i64.wrap (w.i 50+1)=((k+1:Nat):Int):=by rw[H.i 50,D,wrap_i64 ah ah];rfl
   refine⟨⟨k+1,_,I,ah,s.set (z:=IntKind.u32.wrap (a.i 60)) ah ?_,?_⟩,?_⟩
   .rw[ab9 ah,ad];exact OL hlen hb ah
   .show w.h 61=wH (w.i 6).toNat _ _;rw[ae,Fj ah,H.i 6,G]
   .show(16-IntKind.i64.wrap (w.i 50+1)).toNat<_;rw[I];omega
  .refine⟨⟨16,l,rfl,ab8 _,ah,?_,hh⟩,fun a C ⟨k,l,m,av,bJ,s,hh⟩=>?_⟩
   .have:k=16:=ah;subst this;exact s
   have e:0<=a.i 6:=by rw[C.i 6];exact t
   have hl:=s.1;refine⟨fun Y=>?_,fun Z=>?_⟩
   .have rd:∀ {q:Env},ai 80 a q->∀ d:Nat,1<=d->d<=16->(q.h 71).cell (q.i 6).toNat (IntKind.i64.wrap (q.i 70-d)).toNat=some (.int .u32 ((aP bs k).getD (k-d) 0)):=fun {q} hg d h1 K=>by
     rw[hg.h 71,hg.i 6,hg.i 70,m,hh,wrap_i64 ah ah,show((k:Int)-d).toNat=k-d by omega];exact DF (s.get ah ah)
    have ok:∀ d:Nat,1<=d->d<=16->okW ((aP bs k).getD (k-d) 0):=fun d h1 K=>HU _ _ ah;have wd:∀ d:Nat,1<=d->d<=16->IntKind.i64.wrap (a.i 70-d)=(k:Int)-d:=fun d h1 K=>by rw[m,wrap_i64 ah ah]
    have L:=fun {q:Env} (hg:ai 80 a q)=>rd hg 15 ah ah;have r2:=fun {q:Env} (hg:ai 80 a q)=>rd hg 2 ah ah;have af:=fun {q:Env} (hg:ai 80 a q)=>rd hg 16 ah ah;have r7:=fun {q:Env} (hg:ai 80 a q)=>rd hg 7 ah ah;have M:IntKind.i64.wrap (a.i 70-15)=(k:Int)-15:=wd 15 ah ah;have w2:IntKind.i64.wrap (a.i 70-2)=(k:Int)-2:=wd 2 ah ah;have N:∀ {q:Env},ai 80 a q->bO ((q.h 71).cell (q.i 6).toNat (IntKind.i64.wrap (q.i 70-15)).toNat)=(aP bs k).getD (k-15) 0:=fun hg=>by
     have:=L hg;rw[show((15:Nat):Int)=15 from rfl]at this;rw[this];rfl
    have v2:∀ {q:Env},ai 80 a q->bO ((q.h 71).cell (q.i 6).toNat (IntKind.i64.wrap (q.i 70-2)).toNat)=(aP bs k).getD (k-2) 0:=fun hg=>by
     have:=r2 hg;rw[show((2:Nat):Int)=2 from rfl]at this;rw[this];rfl
    have ag:∀ {q:Env},ai 80 a q->(q.h 71).cell (q.i 6).toNat (IntKind.i64.wrap (q.i 70-16)).toNat=some (.int .u32 ((aP bs k).getD (k-16) 0)):=fun hg=>af hg;have v7:∀ {q:Env},ai 80 a q->(q.h 71).cell (q.i 6).toNat (IntKind.i64.wrap (q.i 70-7)).toNat=some (.int .u32 ((aP bs k).getD (k-7) 0)):=fun hg=>r7 hg;have ak:(a.h 71).cell (a.i 6).toNat ((k:Int)-15).toNat=some (.int .u32 ((aP bs k).getD (k-15) 0)):=by rw[<-M];exact L (ai.refl _ _)
    have u2:(a.h 71).cell (a.i 6).toNat ((k:Int)-2).toNat=some (.int .u32 ((aP bs k).getD (k-2) 0)):=by rw[<-w2];exact r2 (ai.refl _ _)
    rw[M,w2,ak,u2];refine⟨e,ah,ah,rfl,ah,ah,rfl,ku (ok 15 ah ah) az,fun w H ⟨_,p6,_,_⟩=>?_⟩;rw[N H];refine⟨ku (ok 15 ah ah) az,fun q7 g7 ⟨_,p7,_,_⟩=>?_⟩;have G7:ai 80 a q7:=H.tr g7;rw[v2 G7];refine⟨ku (ok 2 ah ah) az,fun q8 g8 ⟨_,p8,_,_⟩=>?_⟩;have G8:ai 80 a q8:=G7.tr g8;rw[v2 G8];refine⟨ku (ok 2 ah ah) az,fun b W ⟨_,p9,_,_⟩=>?_⟩;have v:ai 80 a b:=G8.tr W;have al:b.i 80=bC 7 ((aP bs k).getD (k-15) 0):=by
     rw[W.i 80,g8.i 80,g7.i 80];have h:Value.int .u32 (w.i 80)=.int .u32 (bC 7 (bO (some (Value.int .u32 ((aP bs k).getD (k-15) 0))))):=p6;simpa [bO] using h
    have an:b.i 81=bC 18 ((aP bs k).getD (k-15) 0):=by
     rw[W.i 81,g8.i 81];have h:Value.int .u32 (q7.i 81)=.int .u32 (bC 18 ((aP bs k).getD (k-15) 0)):=p7;simpa using h
    have ao:b.i 82=bC 17 ((aP bs k).getD (k-2) 0):=by
     rw[W.i 82];have h:Value.int .u32 (q8.i 82)=.int .u32 (bC 17 ((aP bs k).getD (k-2) 0)):=p8;simpa using h
    have aq:b.i 83=bC 19 ((aP bs k).getD (k-2) 0):=by
     have h:Value.int .u32 (b.i 83)=.int .u32 (bC 19 ((aP bs k).getD (k-2) 0)):=p9;simpa using h
    have p:b.i 70=k:=by rw[v.i 70,m]
    have G:b.i 6=a.i 6:=v.i 6;have O:IntKind.i64.wrap (b.i 70-16)=(k:Int)-16:=by rw[p,wrap_i64 ah ah]
    have w7:IntKind.i64.wrap (b.i 70-7)=(k:Int)-7:=by rw[p,wrap_i64 ah ah]
    have u16:=ag v;have u7:=v7 v;rw[O]at u16;rw[w7]at u7;have vz:IntKind.u32.wrap (IntKind.u32.wrap (IntKind.u32.wrap ((aP bs k).getD (k-16) 0+me (b.i 80) (b.i 81) ((aP bs k).getD (k-15) 0/8))+(aP bs k).getD (k-7) 0)+me (b.i 82) (b.i 83) ((aP bs k).getD (k-2) 0/1024))=DG (aP bs k) k:=by
     rw[al,an,ao,aq];rfl
    have x1:aw b (E.bits BinOp.xor IntKind.u32 (E.bits BinOp.xor IntKind.u32 (E.var 80) (E.var 81)) (E.shr IntKind.u32 (E.hI 71 (E.var 6) (E.wrap IntKind.i64 ((E.var 70).sub (E.lit 15))) 0) (E.lit 3)))=me (b.i 80) (b.i 81) ((aP bs k).getD (k-15) 0/8):=by
     show me (b.i 80) (b.i 81) ((bO ((b.h 71).cell (b.i 6).toNat ((IntKind.i64.wrap (b.i 70-15)).toNat))).fdiv (2 ^ (min (Int.toNat 3) IntKind.u32.bits)))=_;rw[N v,aeS (ok 15 ah ah)]
    have x2:aw b (E.bits BinOp.xor IntKind.u32 (E.bits BinOp.xor IntKind.u32 (E.var 82) (E.var 83)) (E.shr IntKind.u32 (E.hI 71 (E.var 6) (E.wrap IntKind.i64 ((E.var 70).sub (E.lit 2))) 0) (E.lit 10)))=me (b.i 82) (b.i 83) ((aP bs k).getD (k-2) 0/1024):=by
     show me (b.i 82) (b.i 83) ((bO ((b.h 71).cell (b.i 6).toNat ((IntKind.i64.wrap (b.i 70-2)).toNat))).fdiv (2 ^ (min (Int.toNat 10) IntKind.u32.bits)))=_;rw[v2 v,abR (ok 2 ah ah)]
    have ar:b.h 71=wH (a.i 6).toNat l 175:=by rw[v.h 71,hh]
    rw[O,w7,u16,u7,x1,x2,G,p,aac,ar];refine⟨ah,ah,rfl,ah,ah,rfl,ah,⟨e,ah,My ah⟩,fun f P r=>?_⟩;have r:f.h 84=(wH (a.i 6).toNat l 175).put (a.i 6).toNat k [Value.int .u32 (IntKind.u32.wrap (IntKind.u32.wrap (IntKind.u32.wrap ((aP bs k).getD (k-16) 0+me (b.i 80) (b.i 81) ((aP bs k).getD (k-15) 0/8))+(aP bs k).getD (k-7) 0)+me (b.i 82) (b.i 83) ((aP bs k).getD (k-2) 0/1024)))]:=r;rw[vz,Fj ah]at r;have I:IntKind.i64.wrap (f.i 70+1)=((k+1:Nat):Int):=by rw[P.i 70,p,wrap_i64 ah ah];rfl
    refine⟨⟨k+1,_,I,ah,ah,s.set ah (by rw[aa8 ah]),?_⟩,?_⟩
    .show f.h 84=wH (f.i 6).toNat _ _;rw[r,P.i 6,G]
    .show(64-IntKind.i64.wrap (f.i 70+1)).toNat<(64-a.i 70).toNat;rw[I,m];omega
   .have ek:k=64:=ah;subst ek;obtain⟨S,hS⟩:∃ S,S=aP bs 64:=⟨_,rfl⟩;have Q:S.length=64:=by rw[hS];exact cZ bs 64
    have el:l=S:=by rw[hS];exact s.all
    have aG:aR (KC S) (List.replicate 64 (Kd.int .u32)):=xx S Q;have g:∀ j u,(KC S)[j]?=some u->(a.h 71).cell (a.i 6).toNat (0+j)=some u:=fun j u hu=>by
     rw[hh,el,Mx,aco,<-abl];exact hu
    have ev:(aU 71 (E.var 6) (E.lit 0) 0 (List.replicate 64 (Kd.int .u32))).map (CV.ev a)=KC S:=cD _ _ 0 aG fun i u hu=>by
     show(a.h 71).cell (a.i 6).toNat (Int.toNat 0+(0+i))=_;rw[show Int.toNat 0+(0+i)=0+i from aco _];exact g i u hu
    obtain⟨T,_,_,e2⟩:=cE (List.replicate 64 xY) 0 (KC S) a (J1 S Q);refine⟨e,jG 0 aG g,fun _=>⟨[],[],rfl,rfl,⟨T,?_,cf _ _ _ az,zzT⟩,fun u bs' R' h1 K h'=>?_⟩⟩
    .show Value.agg ((aU 71 (E.var 6) (E.lit 0) 0 (List.replicate 64 (Kd.int .u32))).map (CV.ev a)).toArray=Value.agg ((aj 0 (List.replicate 64 xY)).map (CV.ev T)).toArray;rw[ev,e2]
    .simp only[aae,abw]at h1 K;subst h1 K;obtain rfl:=h'.uniq hR;show Value.agg ((aU 71 (E.var 6) (E.lit 0) 0 (List.replicate 64 (Kd.int .u32))).map (CV.ev a)).toArray=_;rw[ev,hS]
end Go.Proofs.YtbdikjnpbnobcaaGreatDoor
namespace Go.Proofs.YtbdikjnpbnobcaaGreatDoor
open Go Go.Sx Go.Pk
variable {e y:E}{J q':Env}{A F R:Hl}{s:Int}{B' b bs2 l l':List Int}{N a c m n x:Nat}{v v':Wd}
def s8 (v:Wd):List Int:=(List.range 8).map v
def YO (h:s8 v=s8 v'):∀ j,j<8->v j=v' j:=fun j a=>by
 have e:=ach (fun l=>l[j]?) h;unfold s8 at e
 grind
def Se (h:∀ j,j<8->v j=v' j):s8 v=s8 v':=acL fun j a=>h j (acv.1 a)
def wy {v v':Wd} (h:∀ j,j<8->v j=v' j) (w:List Int):∀ n j,j<8->cY v w n j=cY v' w n j
 | 0,j,a=>h j a
 | n+1,j,a=>by
  have ih:=wy h w n;have eT:∀ k x,Ke (cY v w n) k x=Ke (cY v' w n) k x:=fun k x=>by
   unfold Ke
   grind
  have eU:SY (cY v w n)=SY (cY v' w n):=by
   unfold SY
   grind
  match j,a with
  | 0,_=>show dL (Ke _ _ _+SY _)=dL (Ke _ _ _+SY _);rw[eT,eU]
  | 4,_=>show dL (cY v w n 3+Ke _ _ _)=dL (cY v' w n 3+Ke _ _ _);grind
  | 1,_=>exact ih 0 ah
  | 2,_=>exact ih 1 ah
  | 3,_=>exact ih 2 ah
  | 5,_=>exact ih 4 ah
  | 6,_=>exact ih 5 ah
  | 7,_=>exact ih 6 ah
def Jv (h:∀ j,j<8->v j=v' j) (m:List Int):∀ j,j<8->qB v m j=qB v' m j:=fun j a=>by
 unfold qB;rw[h j a,wy h _ _ j a]
def Y5 {b:Nat} {T:TypeId} (h:wH b l T=wH b l' T):l=l':=by
 have e:=congrFun h b;unfold wH at e;rw[Hl.aK,Hl.aK]at e;simp only[aa3,Obj.cells.injEq,ab1,acp,abw]at e;unfold KC at e;exact(List.map_inj_right fun a b h=>by simpa using h).1 e
def yT (R:Hl) (g:Nat):Prop:=∀ j,j<64->R.cell g j=some (.int .u32 (E4.getD j 0))
def T8:Sx.Spec where
 fn:=120
 own:=[.arg 0]
 rd:=[1,2000002]
 res:=[]
 pre:=fun xs Hs Rs=>∃ (a:Nat) (v:Wd) (x y:Int) (c:Nat) (bs:List Int) (R RG:Hl),xs=[.pointer (some ⟨a,0,none⟩),.slice (au x y) 64 c]/\Hs=[wH a (s8 v) 188]/\Rs=[R,RG]/\(∀ j,j<8->okW (v j))/\fE R (.slice (au x y) 64 c) bs/\bs.length=64/\64<=c/\al bs/\0<=y/\ -1<=x/\yT RG 2
 post:=fun xs Hs Rs w Hs' F=>∀ (a:Nat) (u:Value) (v:Wd) (bs:List Int) (R RG:Hl),xs=[.pointer (some ⟨a,0,none⟩),u]->Hs=[wH a (s8 v) 188]->Rs=[R,RG]->fE R u bs->Hs'=[wH a (s8 (qB v bs)) 188]
def VP:Nd:=(fun f o n d k p q=>(fun a b c=>(fun g h i j l m=>(.and (.pre d) (.ext d (.ext (.alloc 84) (.ext (.alloc 85) (.ext (.OR 86 (.bc 84 (aj 20 (List.replicate 64 (Ck.int .u32))) 175)) (.and (.inv 0 (([⟨110,0,.int .i64 (.lit 0)⟩]:List As)++(VO 87 (aj 120 k) (aj 10 k))) [(111,some 86)]) (.havoc 0 0 87 (.and (.imp (.lt f (.lit 64)) (.and (.pre l) (.ext l (.and (.pre g) (.ext g (.and (.pre h) (.ext h (.and (.e (.le (.lit 0) f)) (.and (.e (.his 6 (.lit 2) f 0 (.int .u32))) (.and (.e (.le (.lit 0) (.var 84))) (.and (.e (.his 111 (.var 84) f 0 (.int .u32))) (.and (.pre m) (.ext m (.and (.pre i) (.ext i (.and (.pre j) (.ext j (.back 0 0 (([⟨110,0,.int .i64 (.wrap .i64 (.add f (.lit 1)))⟩]:List As)++(VO 87 (aj 120 k) [.int .u32 (.wrap .u32 (.add a (.wrap .u32 (.add (.bits .xor .u32 (.bits .xor .u32 (.var 203) (.var 204)) (.var 205)) (.bits .xor .u32 (.bits .xor .u32 (.bits .and .u32 n p) (.bits .and .u32 n q)) (.bits .and .u32 p q)))))),.int .u32 n,.int .u32 p,.int .u32 q,.int .u32 (.wrap .u32 (.add (.var 123) a)),.int .u32 o,.int .u32 (.var 125),.int .u32 (.var 126)])) [(111,some 111)])))))))))))))))))) (.imp (.not (.lt f (.lit 64))) (.post [.bc 0 [.int .u32 (.wrap .u32 (.add (.var 10) n)),.int .u32 (.wrap .u32 (.add (.var 11) p)),.int .u32 (.wrap .u32 (.add (.var 12) q)),.int .u32 (.wrap .u32 (.add (.var 13) (.var 123))),.int .u32 (.wrap .u32 (.add (.var 14) o)),.int .u32 (.wrap .u32 (.add (.var 15) (.var 125))),.int .u32 (.wrap .u32 (.add (.var 16) (.var 126))),.int .u32 (.wrap .u32 (.add (.var 17) (.var 127)))] 188,.ro 5 [.var 1] true,.ro 6 [.lit 2] false,.hp 111 [] [.var 84] [],.dead] (.tup [])))))))))):Nd)) (.call 0 201 [.sv b,.sv (.one (.int .i64 (.lit (-11))))] [] []) (.call 0 202 [.sv b,.sv (.one (.int .i64 (.lit (-25))))] [] []) (.call 0 204 [.sv c,.sv (.one (.int .i64 (.lit (-13))))] [] []) (.call 0 205 [.sv c,.sv (.one (.int .i64 (.lit (-22))))] [] []) (.call 0 200 [.sv b,.sv (.one (.int .i64 (.lit (-6))))] [] []) (.call 0 203 [.sv c,.sv (.one (.int .i64 (.lit (-2))))] [] [])) (.wrap .u32 (.add (.wrap .u32 (.add (.wrap .u32 (.add (.wrap .u32 (.add (.var 127) (.bits .xor .u32 (.bits .xor .u32 (.var 200) (.var 201)) (.var 202)))) (.bits .xor .u32 (.bits .and .u32 o (.var 125)) (.bits .and .u32 (.bits .xor .u32 (.lit 4294967295) o) (.var 126))))) (.hI 6 (.lit 2) f 0))) (.hI 111 (.var 84) f 0))) (.one (.int .u32 o)) (.one (.int .u32 n))) (.var 110) (.var 124) (.var 120) (.call 1 20 [.sv (.one (.sl (.var 1) (.var 2) (.var 3) (.var 4)))] [] [.ro 5 [.var 1] true]) (List.replicate 8 (Ck.int .u32)) (.var 121) (.var 122)
def mxΓ:List Sx.Spec:=[RV,zN]
def X0:∀ t∈mxΓ,t.OK Tryz.prog:=ak L9 <| ak Kj <| bu
def QP:aD Tryz.prog mxΓ T8.fn where
 Λ:=fun p=>if Iv p [120,1,1,0,1,0]then some ⟨0,[(17,TI .i64 (.var 110))],[(3,.hp 111 [] [.var 84] []),(4,.bc 85 (aj 120 (List.replicate 8 xY)) 188)],200⟩else none
 args:=[TP (.var 0) (.lit 0),.sv (.one (.sl (.var 1) (.var 2) (.var 3) (.var 4)))]
 mem:=[.bc 0 (aj 10 (List.replicate 8 xY)) 188,.ro 5 [.var 1] true,.ro 6 [.lit 2] false]
 nv:=20
def ad8:zN.res=[.agg (List.replicate 64 xY)]:=rfl
def KE (q:Env) (n:Nat) (v:Wd):Prop:=∀ j,j<8->q.i (n+j)=v j
def Oz {q:Env} (h:KE q n v):(aj n (List.replicate 8 xY)).map (CV.ev q)=KC (s8 v):=by
 show [Value.int .u32 (q.i n),Value.int .u32 (q.i (n+1)),Value.int .u32 (q.i (n+1+1)),Value.int .u32 (q.i (n+1+1+1)),Value.int .u32 (q.i (n+1+1+1+1)),Value.int .u32 (q.i (n+1+1+1+1+1)),Value.int .u32 (q.i (n+1+1+1+1+1+1)),Value.int .u32 (q.i (n+1+1+1+1+1+1+1))]=[Value.int .u32 (v 0),Value.int .u32 (v 1),Value.int .u32 (v 2),Value.int .u32 (v 3),Value.int .u32 (v 4),Value.int .u32 (v 5),Value.int .u32 (v 6),Value.int .u32 (v 7)];rw[show q.i n=v 0 from h 0 ah,show q.i (n+1)=v 1 from h 1 ah,show q.i (n+1+1)=v 2 from h 2 ah,show q.i (n+1+1+1)=v 3 from h 3 ah,show q.i (n+1+1+1+1)=v 4 from h 4 ah,show q.i (n+1+1+1+1+1)=v 5 from h 5 ah,show q.i (n+1+1+1+1+1+1)=v 6 from h 6 ah,show q.i (n+1+1+1+1+1+1+1)=v 7 from h 7 ah]
def KE.mono {q:Env} (h:KE q n v) (g:ai m q q') (hm:n+8<=m):KE q' n v:=fun j a=>by rw[g.i _ ah];exact h j a
def T9:T8.OK Tryz.prog:=by
 refine Spec.cM (Γ:=mxΓ) X0 ?_;rintro xs Hs Rs ak al ⟨a,v,x,y,c,bs,R,RG,rfl,rfl,rfl,hv,X,hlen,hc,hb,hy,hx,hK⟩;refine⟨QP,aM [a,x,y,64,c,0,0,0,0,0,v 0,v 1,v 2,v 3,v 4,v 5,v 6,v 7] false [Hl.none,Hl.none,Hl.none,Hl.none,Hl.none,R,RG],
  fun _ q=>∃ k:Nat,q.i 110=k/\k<=64/\KE q 120 (cY v (aP bs 64) k)/\q.h 111=wH (q.i 84).toNat (aP bs 64) 175,
  fun _ q=>(64-q.i 110).toNat,?_,⟨?_,?_,?_,?_⟩,(fun _ h=>nomatch h),?_⟩
 .show [Value.pointer (au (a:Int) 0),Value.slice (au x y) (Int.toNat 64) ((c:Int)).toNat]=_;rw[aac,ft];rfl
 .intro r hr ho;simp [QP]at hr;rcases hr with rfl | rfl | rfl
  .exact⟨wH a (s8 v) _,aaQ.2 rfl,Hl.le_refl (wH a (s8 v) 188)⟩
  .cases ho
  .cases ho
 .intro r hr ho;simp [QP]at hr;rcases hr with rfl | rfl | rfl
  .cases ho
  .exact⟨R,aC,Hl.le_refl _⟩
  .exact⟨RG,aC,Hl.le_refl _⟩
 .simp [QP,bo.own]
 .intro r hr;simp [QP]at hr;rcases hr with rfl | rfl | rfl
  .show(0:Int)<=a;omega
  .trivial
  .trivial
 .refine aD.lit (x:=VP) ?_;generalize C:aM [a,x,y,64,c,0,0,0,0,0,v 0,v 1,v 2,v 3,v 4,v 5,v 6,v 7] false [Hl.none,Hl.none,Hl.none,Hl.none,Hl.none,R,RG]=J;have V:∀ q:Env,ai 20 J q->q.i 0=a/\q.i 1=x/\q.i 2=y/\q.i 3=64/\q.i 4=c/\q.h 5=R/\q.h 6=RG/\KE q 10 v:=fun q hg=>by
   rw[hg.i 0,hg.i 1,hg.i 2,hg.i 3,hg.i 4,hg.h 5,hg.h 6];have h8:KE J 10 v:=fun j G=>by
    rw[<-C]
    match j with
    | 0=>rfl
    | 1=>rfl
    | 2=>rfl
    | 3=>rfl
    | 4=>rfl
    | 5=>rfl
    | 6=>rfl
    | 7=>rfl
   refine⟨?_,?_,?_,?_,?_,?_,?_,h8.mono hg ah⟩<;>rw[<-C]<;>rfl
  clear C;unfold VP;simp only[go_sem,Nat.reduceAdd,mxΓ,abT,ad8];obtain⟨v0,v1,v2,v3,v4,w5,w6,h8⟩:=V J (ai.refl _ _);rw[v1,v2,v3,v4,w5,aac];refine⟨⟨x,y,c,bs,R,rfl,rfl,X,hlen,hc,hb,hy,hx⟩,fun q1 g1 ⟨_,p1,_,_⟩ q2 g2 D Y g3 _ K g4 Z=>?_⟩;have p1:=p1 _ bs R rfl rfl X;simp only[Value.agg.injEq,ab1,acp]at p1;have G4:ai 20 J K:=g1.trans (g2.mono.trans (g3.mono.tr g4));have A3:ai 84 q1 Y:=g2.tr g3;obtain⟨S,hS⟩:∃ S,S=aP bs 64:=⟨_,rfl⟩;rw[<-hS]at p1 ⊢;have aa:K.h 86=wH (K.i 84).toNat S 175:=by
   rw[Z,g4.i 84];unfold wH;rw[<-p1];have ag:(aj 20 (List.replicate 64 xY)).map (CV.ev Y)=(aj 20 (List.replicate 64 xY)).map (CV.ev q1):=by
    have h:Value.agg ((aj 20 (List.replicate 64 xY)).map (CV.ev Y)).toArray=Value.agg ((aj 20 (List.replicate 64 xY)).map (CV.ev q1)).toArray:=fQ (n:=20) (ks:=List.replicate 64 xY) A3 az;rw[Value.agg.injEq]at h;exact ach Array.toList h
   rw[<-ag]
  obtain⟨_,_,_,_,_,_,_,E⟩:=V K G4;have D:0<=K.i 84:=by rw[g4.i 84,g3.i 84];exact D
  refine⟨⟨0,rfl,ah,fun j G=>?_,aa⟩,fun d g5 ⟨k,f,hk,w,A⟩=>?_⟩
  .show _=v j;rw[<-E j G]
   match j,G with
   | 0,_=>rfl
   | 1,_=>rfl
   | 2,_=>rfl
   | 3,_=>rfl
   | 4,_=>rfl
   | 5,_=>rfl
   | 6,_=>rfl
   | 7,_=>rfl
  have G5:ai 20 J d:=G4.tr g5;have af:0<=d.i 84:=by rw[g5.i 84];exact D
  obtain⟨r,hr⟩:∃ r,r=cY v S k:=⟨_,rfl⟩;rw[<-hr]at w;have p:∀ j,j<8->okW (r j):=by rw[hr];exact uL hv S k
  refine⟨fun an=>?_,fun ao=>?_⟩
  .have B:k<64:=ah;have r4:∀ {q:Env},ai 200 d q->q.i 124=r 4:=fun hg=>(w.mono hg ah) 4 ah;have r0:∀ {q:Env},ai 200 d q->q.i 120=r 0:=fun hg=>(w.mono hg ah) 0 ah;rw[r4 (ai.refl _ _)];refine⟨ku (p 4 ah) az,fun q6 g6 ⟨_,p6,_,_⟩=>?_⟩;rw[r4 g6];refine⟨ku (p 4 ah) az,fun q7 g7 ⟨_,p7,_,_⟩=>?_⟩;have G7:ai 200 d q7:=g6.tr g7;rw[r4 G7];refine⟨ku (p 4 ah) az,fun L g8 ⟨_,p8,_,_⟩=>?_⟩;have H:ai 200 d L:=G7.tr g8;have cK:∀ {q:Env},ai 200 d q->(q.h 6).cell 2 (q.i 110).toNat=some (.int .u32 (E4.getD k 0)):=fun {q} hg=>by
    rw[hg.i 110,hg.h 6,(V d G5).2.2.2.2.2.2.1,f,aac];exact hK k B
   have cS:∀ {q:Env},ai 200 d q->(q.h 111).cell (q.i 84).toNat (q.i 110).toNat=some (.int .u32 (S.getD k 0)):=fun {q} hg=>by
    rw[hg.i 110,hg.i 84,hg.h 111,A,f,aac];refine DF ?_;rw[abv,aad (by rw[hS,cZ];exact B)];rfl
   have e8:L.i 110=k:=by rw[H.i 110,f]
   have aq:L.i 84=d.i 84:=H.i 84;have F:=cK H;have F:(L.h 6).cell (Int.toNat 2) (L.i 110).toNat=some (.int .u32 (E4.getD k 0)):=F;rw[F,cS H,r0 H];refine⟨ah,rfl,ah,rfl,ku (p 0 ah) az,fun q9 W ⟨_,p9,_,_⟩=>?_⟩;have G9:ai 200 d q9:=H.tr W;rw[r0 G9];refine⟨ku (p 0 ah) az,fun ab z ⟨_,ad,_,_⟩=>?_⟩;have M:ai 200 d ab:=G9.tr z;rw[r0 M];refine⟨ku (p 0 ah) az,fun b s ⟨_,ae,_,_⟩=>?_⟩;have t:ai 200 d b:=M.tr s;have I:∀ {q:Env} {n m:Nat} {x:Int},abE [Value.int .u32 x,.int .i64 (-(m:Int))]=Value.int .u32 (q.i n)->q.i n=bC m x:=fun {q n m x} h=>by
    have h:Value.int .u32 (bC (-(-(m:Int))).toNat x)=Value.int .u32 (q.i n):=h;rw[show(-(-(m:Int))).toNat=m by omega]at h;simpa using h.symm
   have N:b.i 200=bC 6 (r 4):=by rw[s.i 200,z.i 200,W.i 200,g8.i 200,g7.i 200];exact I (m:=6) p6.symm
   have O:b.i 201=bC 11 (r 4):=by rw[s.i 201,z.i 201,W.i 201,g8.i 201];exact I (m:=11) p7.symm
   have P:b.i 202=bC 25 (r 4):=by rw[s.i 202,z.i 202,W.i 202];exact I (m:=25) p8.symm
   have Q:b.i 203=bC 2 (r 0):=by rw[s.i 203,z.i 203];exact I (m:=2) p9.symm
   have T:b.i 204=bC 13 (r 0):=by rw[s.i 204];exact I (m:=13) ad.symm
   have U:b.i 205=bC 22 (r 0):=I (m:=22) ae.symm;have e:KE b 120 r:=w.mono t ah;have eT:dL (dL (dL (dL (b.i 127+me (b.i 200) (b.i 201) (b.i 202))+ct .xor .u32 (ju (b.i 124) (b.i 125)) (ju (ct .xor .u32 4294967295 (b.i 124)) (b.i 126)))+bO ((b.h 6).cell 2 (b.i 110).toNat))+bO ((b.h 111).cell (b.i 84).toNat (b.i 110).toNat))=Ke r (E4.getD k 0) (S.getD k 0):=by
    rw[cK t,cS t,N,O,P,show b.i 127=r 7 from e 7 ah,show b.i 124=r 4 from e 4 ah,show b.i 125=r 5 from e 5 ah,show b.i 126=r 6 from e 6 ah,xor_not (p 4 ah)];rfl
   have eU:dL (me (b.i 203) (b.i 204) (b.i 205)+ct .xor .u32 (ct .xor .u32 (ju (b.i 120) (b.i 121)) (ju (b.i 120) (b.i 122))) (ju (b.i 121) (b.i 122)))=SY r:=by
    rw[Q,T,U,show b.i 120=r 0 from e 0 ah,show b.i 121=r 1 from e 1 ah,show b.i 122=r 2 from e 2 ah];rfl
   have ew:IntKind.i64.wrap (b.i 110+1)=((k+1:Nat):Int):=by rw[t.i 110,f,wrap_i64 ah ah];rfl
   refine⟨⟨k+1,ew,ah,fun j G=>?_,?_⟩,?_⟩
   .show _=wF (cY v S k) (E4.getD k 0) (S.getD k 0) j;rw[<-hr]
    match j,G with
    | 0,_ =>
     show dL (dL (dL (dL (dL (b.i 127+me (b.i 200) (b.i 201) (b.i 202))+ct .xor .u32 (ju (b.i 124) (b.i 125)) (ju (ct .xor .u32 4294967295 (b.i 124)) (b.i 126)))+bO ((b.h 6).cell 2 (b.i 110).toNat))+bO ((b.h 111).cell (b.i 84).toNat (b.i 110).toNat))+dL (me (b.i 203) (b.i 204) (b.i 205)+ct .xor .u32 (ct .xor .u32 (ju (b.i 120) (b.i 121)) (ju (b.i 120) (b.i 122))) (ju (b.i 121) (b.i 122))))=dL (Ke r _ _+SY r);rw[eT,eU]
    | 4,_ =>
     show dL (b.i 123+dL (dL (dL (dL (b.i 127+me (b.i 200) (b.i 201) (b.i 202))+ct .xor .u32 (ju (b.i 124) (b.i 125)) (ju (ct .xor .u32 4294967295 (b.i 124)) (b.i 126)))+bO ((b.h 6).cell 2 (b.i 110).toNat))+bO ((b.h 111).cell (b.i 84).toNat (b.i 110).toNat)))=dL (r 3+Ke r _ _);rw[eT,show b.i 123=r 3 from e 3 ah]
    | 1,_=>exact e 0 ah
    | 2,_=>exact e 1 ah
    | 3,_=>exact e 2 ah
    | 5,_=>exact e 4 ah
    | 6,_=>exact e 5 ah
    | 7,_=>exact e 6 ah
   .show b.h 111=wH (b.i 84).toNat S _;rw[t.h 111,A,t.i 84]
   .show(64-IntKind.i64.wrap (b.i 110+1)).toNat<(64-d.i 110).toNat;rw[ew,f];omega
  .have ek:k=64:=ah;subst ek;obtain⟨v0,_,_,_,_,_,_,E⟩:=V d G5;refine fun _=>⟨[[0]],[],rfl,rfl,⟨(ba fun _=>0),rfl,zzT⟩,fun a' u v' bs' R' ar e1 e2 e3 h'=>?_⟩;simp only[aae,Value.pointer.injEq,aa3,Addr.mk.injEq,abw]at e1 e2 e3;obtain⟨rfl,rfl⟩:=e1;obtain⟨rfl,rfl⟩:=e3;obtain rfl:=h'.uniq X;have ev:=YO (Y5 e2);rw[<-Se (Jv ev bs')];have g:∀ j,j<8->qB v bs' j=dL (v j+r j):=fun j G=>by unfold qB;rw[<-hS,<-hr]
   have e8:[Value.int .u32 (dL (d.i 10+d.i 120)),Value.int .u32 (dL (d.i 11+d.i 121)),Value.int .u32 (dL (d.i 12+d.i 122)),Value.int .u32 (dL (d.i 13+d.i 123)),Value.int .u32 (dL (d.i 14+d.i 124)),Value.int .u32 (dL (d.i 15+d.i 125)),Value.int .u32 (dL (d.i 16+d.i 126)),Value.int .u32 (dL (d.i 17+d.i 127))]=KC (s8 (qB v bs')):=by
    show _=[Value.int .u32 (qB v bs' 0),Value.int .u32 (qB v bs' 1),Value.int .u32 (qB v bs' 2),Value.int .u32 (qB v bs' 3),Value.int .u32 (qB v bs' 4),Value.int .u32 (qB v bs' 5),Value.int .u32 (qB v bs' 6),Value.int .u32 (qB v bs' 7)];have l:∀ j,j<8->d.i (10+j)=v j:=E;have o:∀ j,j<8->d.i (120+j)=r j:=w;rw[show d.i 10=v 0 from l 0 ah,show d.i 120=r 0 from o 0 ah,show d.i 11=v 1 from l 1 ah,show d.i 121=r 1 from o 1 ah,show d.i 12=v 2 from l 2 ah,show d.i 122=r 2 from o 2 ah,show d.i 13=v 3 from l 3 ah,show d.i 123=r 3 from o 3 ah,show d.i 14=v 4 from l 4 ah,show d.i 124=r 4 from o 4 ah,show d.i 15=v 5 from l 5 ah,show d.i 125=r 5 from o 5 ah,show d.i 16=v 6 from l 6 ah,show d.i 126=r 6 from o 6 ah,show d.i 17=v 7 from l 7 ah,show d.i 127=r 7 from o 7 ah];rw[g 0 ah,g 1 ah,g 2 ah,g 3 ah,g 4 ah,g 5 ah,g 6 ah,g 7 ah]
   refine ach (fun x=>[x]) ((Hl.iQ _).trans ?_);show Hl.one (d.i 0).toNat (.cells [Value.int .u32 (dL (d.i 10+d.i 120)),Value.int .u32 (dL (d.i 11+d.i 121)),Value.int .u32 (dL (d.i 12+d.i 122)),Value.int .u32 (dL (d.i 13+d.i 123)),Value.int .u32 (dL (d.i 14+d.i 124)),Value.int .u32 (dL (d.i 15+d.i 125)),Value.int .u32 (dL (d.i 16+d.i 126)),Value.int .u32 (dL (d.i 17+d.i 127))].toArray _ (0,0))=_;rw[e8,v0,aac];rfl
structure Acc (N:Nat) (J q:Env) (a x:Nat) (y:E) (c:Nat) (e:E) (B:List Int) (k:Nat):Prop where
 G:ai N J q
 o:c9 (q.h a) 5 (.slice (au (q.i x) (aw q y)) ((B.length:Int)).toNat (q.i c).toNat) B
 l:aw q e=B.length
 k:B.length<=k
 x:-1<=q.i x
 c:0<=q.i c
def Acc.mv {q:Env} {k:Nat} {B:List Int} (h:Acc N J q a x y c e B k) (g:ai m q q') (w:(decide (N<=m)&&(decide (a<m)&&(decide (x<m)&&(decide (c<m)&&(y.upto m&&e.upto m)))))=true:=by rfl):Acc N J q' a x y c e B k:=by
 simp only[aaM,aas]at w;obtain⟨w1,w2,b,d,f,w6⟩:=w;exact⟨h.G.trans (g.mono w1),by rw[g.h a w2,g.i x b,g.i c d,bz g f];exact h.o,(bz g w6).trans h.l,h.k,by rw[g.i x b];exact h.x,by rw[g.i c d];exact h.c⟩
def Q8 {B:Hl} {x y c x1 c1:Int} {bs:List Int} (ho:c9 A 5 (.slice (au x y) ((bs.length:Int)).toNat c.toNat) bs) (hm:m=bs2.length)
 (happ:∀ xs,aO A 5 1 (.slice (au x y) ((bs.length:Int)).toNat c.toNat) ((bs.length:Int)).toNat xs->aO B 5 1 (.slice (au x1 0) (((bs.length:Int)).toNat+m) c1.toNat) (((bs.length:Int)).toNat+m) (xs++aS bs2)):c9 B 5 (.slice (au x1 0) (((bs++bs2).length:Int)).toNat c1.toNat) (bs++bs2):=by
 unfold c9 at ho ⊢;rw[aac]at ho happ ⊢;rw[aaA,gQ,<-hm];exact happ _ ho
def Acc.app {q:Env} {k j:Nat} {f:E} {B:List Int} (h:Acc N J q a x y c e B k) (hb:b.length<=j) (l:aw q f=b.length) (g:ai n q q') (w:decide (N<=n)&&(e.upto n&&f.upto n)=true) (a1:-1<=q'.i n) (a2:0<=q'.i (n+1)) (hm:m=b.length)
 (a3:∀ xs,aO (q.h a) 5 1 (.slice (au (q.i x) (aw q y)) (aw q e).toNat (q.i c).toNat) (aw q e).toNat xs->aO (q'.h n) 5 1 (.slice (au (q'.i n) 0) ((aw q e).toNat+m) (q'.i (n+1)).toNat) ((aw q e).toNat+m) (xs++aS b)):Acc N J q' n n (.lit 0) (n+1) (e.add f) (B++b) (k+j):=by
 simp only[aaM,aas]at w;obtain⟨w1,w2,d⟩:=w;rw[h.l]at a3;exact⟨h.G.trans (g.mono w1),Q8 h.o hm a3,by show aw q' e+aw q' f=_;rw[bz g w2,bz g d,h.l,l,aaA];rfl,by rw[aaA];exact ac6 h.k hb,a1,a2⟩
def Acc.ow {q:Env} {k:Nat} {B:List Int} (h:Acc N J q a x y c e B k):∃ xs,aO (q.h a) 5 1 (.slice (au (q.i x) (aw q y)) (aw q e).toNat (q.i c).toNat) (aw q e).toNat xs:=by
 refine⟨aS B,?_⟩;have:=h.o;unfold c9 at this;rw[h.l];rwa[aac]at this ⊢
def Acc.cv {q:Env} {k:Nat} {B:List Int} {vs:List Value} {D K:Env->Prop} (h:Acc N J q a x y c e B k) (hv:vs=aS b) (hm:b.length=m) (kk:∀ q',ai n q q'->Acc N J q' n n (.lit 0) (n+1) (e.add (.lit m)) (B++b) (k+200)->K q') (w:decide (N<=n)&&(e.upto n&&true)=true:=by rfl) (d:k<=9000000/\m<=200:=by decide) :
 ((∃ xs,aO (q.h a) 5 1 (.slice (au (q.i x) (aw q y)) (aw q e).toNat (q.i c).toNat) (aw q e).toNat xs)/\0<=aw q e/\(aw q e).toNat+m<=maxLen/\(aw q e).toNat+m<=140737488355328) /\
 ∀ q',ai n q q'->(-1<=q'.i n/\0<=q'.i (n+1)/\(∀ xs,aO (q.h a) 5 1 (.slice (au (q.i x) (aw q y)) (aw q e).toNat (q.i c).toNat) (aw q e).toNat xs->aO (q'.h n) 5 1 (.slice (au (q'.i n) 0) ((aw q e).toNat+m) (q'.i (n+1)).toNat) ((aw q e).toNat+m) (xs++vs))/\D q')->K q':=by
 have hk:=h.k;have he:=h.l;subst hv;exact⟨⟨h.ow,ah,by unfold maxLen;omega,ah⟩,fun q' g ⟨a1,a2,a3,_⟩=>kk q' g (h.app ah (by show(m:Int)=_;rw[hm]) g w a1 a2 hm.symm a3)⟩
def Acc.as {q:Env} {k:Nat} {B:List Int} (h:Acc N J q a x y c e B k) (w:B=B'):Acc N J q a x y c e B' k:=w▸h
def Acc.ce {q:Env} {k:Nat} {B:List Int} (h:Acc N J q a x y c e B k) (b:E) (w:aw q b=aw q e:=by simp only[bP,ar,aq];omega):Acc N J q a x y c b B k:=⟨h.G,h.o,w.trans h.l,h.k,h.x,h.c⟩
def Xy (n:Nat):(aL n [Cp.one .sl]≠[])=True:=by simp [aL,Cp.roots,Ck.root]
def Gm {u v:Value} {bs:List Int} {K:List Hl} (h:fE R u bs) (hp:gI.post [u] [] [R] v K F):c9 F 5 v bs:=by
 obtain⟨u',bs',R',e1,a,h',ho⟩:=hp;simp only[aae,abw]at e1 a;subst e1 a;rw[h.uniq h'];exact ho
def DQ {k:Nat} (hn:n<18446744073709551616) (hs:s=(k:Int)) (hk:k<=63) {x:Int} (hx:x=(n:Int)):IntKind.u8.wrap (x.fdiv (2 ^ (min s.toNat IntKind.u64.bits)))=((n/2 ^ k%256:Nat):Int):=by
 subst hs hx;have e:min ((k:Nat):Int).toNat IntKind.u64.bits=k:=by show min _ 64=_;omega
 have a:((2:Int) ^ k)=((2 ^ k:Nat):Int):=by push_cast;rfl
 rw[e,a,aed _ (ad7 _)];exact Wc _
def ZH {q:Env} {k:Nat} (hw:IntKind.u64.wrap (8*IntKind.u64.wrap (q.i 2))=(n:Int)) (hn:n<18446744073709551616) (hs:s=(k:Int)) (hk:k<=63):IntKind.u8.wrap (aw q (E.shr .u64 (E.wrap .u64 ((E.lit 8).mul (E.wrap .u64 (E.var 2)))) (E.lit s)))=((n/2 ^ k%256:Nat):Int):=DQ hn hs hk hw
def Hc:Sx.Spec where
 fn:=118
 own:=[]
 rd:=[0]
 res:=[.one .sl]
 pre:=fun xs Hs Rs=>∃ u bs R,xs=[u]/\Rs=[R]/\fE R u bs/\bs.length<=1000000
 post:=fun xs Hs Rs v Hs' F=>∃ u bs R,xs=[u]/\Rs=[R]/\fE R u bs/\c9 F 5 v (gM bs)
def paΓ:List Sx.Spec:=[gI]
def X8:∀ t∈paΓ,t.OK Tryz.prog:=fun t a=>by
 simp only[paΓ,aaW,abd,acs]at a;subst a;exact mC
def abk:aD Tryz.prog paΓ Hc.fn where
 Λ:=fun p=>if Iv p [118,1,1,0,0]then some ⟨0,[(3,.sv (.one (.sl (.var 50) (.lit 0) (.var 51) (.var 52))))],[(1,.hp 53 [] [.var 50] [])],60⟩else none
 args:=[.sv (.one (.sl (.var 0) (.var 1) (.var 2) (.var 3)))]
 mem:=[.ro 4 [.var 0] true]
 nv:=5
def aeh:gI.res=[.one .sl]:=rfl
def Q9:Hc.OK Tryz.prog:=by
 refine Spec.jN (Γ:=paΓ) X8 rfl ?_;rintro xs Rs ⟨u,bs,R,rfl,rfl,v,hlen⟩;obtain⟨x,y,c,rfl,hy,_⟩:=id v;refine⟨abk,aM [x,y,bs.length,c] false [Hl.none,Hl.none,Hl.none,Hl.none,R],
  fun _ q=>∃ m:Nat,m<=(119-bs.length%64)%64/\Acc 0 q q 53 50 (.lit 0) 52 (.var 51) (bs++[128]++List.replicate m 0) 1001000,
  fun _ q=>((bs.length:Int)+100-q.i 51).toNat,?_,aT rfl rfl,rfl,?_⟩
 .show [Value.slice (au x y) ((bs.length:Int)).toNat ((c:Int)).toNat]=_;simp only[aac]
 .refine aD.read [] [] [] ?_;generalize p:aM [x,y,bs.length,c] false [Hl.none,Hl.none,Hl.none,Hl.none,R]=J;have V:∀ q:Env,ai 5 J q->q.i 0=x/\q.i 1=y/\q.i 2=bs.length/\q.i 3=c/\q.h 4=R:=fun q hg=>by
   rw[hg.i 0,hg.i 1,hg.i 2,hg.i 3,hg.h 4,<-p];exact⟨rfl,rfl,rfl,rfl,rfl⟩
  clear p;simp only[go_sem,Nat.reduceAdd,paΓ,aeh,Xy];obtain⟨v0,v1,v2,H,I⟩:=V J (ai.refl _ _);rw[v0,v1,v2,H,I,aac,aac];refine⟨⟨_,bs,R,rfl,rfl,v,hlen⟩,fun q1 K ⟨F,p1,L,f⟩ q2 M _=>?_⟩;have o1:=Gm v p1;rw[<-L zzT]at o1;have f:-1<=q1.i 5/\0<=q1.i 6/\0<=q1.i 7/\0<=q1.i 8:=f.1;have r:q1.i 7=bs.length:=by
   obtain⟨_,_,_,e,_⟩:=o1.rd;simp only[Value.slice.injEq]at e;omega
  rw[r]at o1;have a1:Acc 5 J q1 5 5 (.var 6) 8 (.var 7) bs 1000000:=⟨K,o1,r,hlen,f.1,f.2.2.2⟩;refine(a1.mv M).cv (b:=[128]) rfl rfl fun Q g3 a3=>?_;refine⟨⟨0,ah,?_⟩,fun j g4 ⟨m,hm,a4⟩=>?_⟩
  .rw[agR,acD];exact⟨ai.refl _ _,a3.o,a3.l,acA a3.k ah,a3.x,a3.c⟩
  have A:(bs++[128]++List.replicate m 0).length=bs.length+1+m:=by rw[aaA,aaA,acz];rfl
  have e51:j.i 51=((bs.length+1+m:Nat):Int):=a4.l.trans (by rw[A]);have a4:Acc 5 J j 53 50 (.lit 0) 52 (.var 51) _ _:=⟨a3.G.tr g4,a4.o,a4.l,a4.k,a4.x,a4.c⟩;have B:(j.i 51).tmod 64=((bs.length+1+m)%64:Nat):=by rw[e51,acT ah];omega
  refine⟨ah,fun n=>?_,fun heq=>?_⟩
  .have n:(j.i 51).tmod 64≠56:=n;rw[B]at n;intro N w _;refine(a4.mv w).cv (b:=[0]) rfl rfl fun O P t=>?_;rw[abS,<-agN]at t;refine⟨⟨m+1,ah,ai.refl _ _,t.o,t.l,?_,t.x,t.c⟩,?_⟩
   .rw[aaA,aaA,acz];show bs.length+1+(m+1)<=_;omega
   .show((bs.length:Int)+100-(O.i 51+1)).toNat<((bs.length:Int)+100-j.i 51).toNat;rw[P.i 51,w.i 51,e51];omega
  .have heq:(j.i 51).tmod 64=56:=heq;rw[B]at heq;have em:m=(119-bs.length%64)%64:=ah;have hz:∀ {q:Env} (k:Nat) {s:Int},ai 5 J q->s=k->k<=63->[Value.int .u8 (IntKind.u8.wrap (aw q (E.shr .u64 (E.wrap .u64 ((E.lit 8).mul (E.wrap .u64 (E.var 2)))) (E.lit s))))]=aS [((8*bs.length/2 ^ k%256:Nat):Int)]:=fun {q} k s g e h=>ach (fun z=>[Value.int .u8 z]) (ZH (by rw[(V q g).2.2.1,m9 (x:=(bs.length:Int)) ah ah,m9 ah ah];omega) ah e h);refine⟨by rw[(V j a4.G).2.2.1];omega,?_⟩;intro N w _;have c0:=a4.mv w;refine c0.cv (hz 56 c0.G rfl ah) rfl fun q g d q' a _=>?_;have c1:=(d.mv a).ce ((E.var 51).add (.lit 1));refine c1.cv (hz 48 c1.G rfl ah) rfl fun q g d q' a _=>?_;have c2:=(d.mv a).ce ((E.var 51).add (.lit 2));refine c2.cv (hz 40 c2.G rfl ah) rfl fun q g d q' a _=>?_;have c3:=(d.mv a).ce ((E.var 51).add (.lit 3));refine c3.cv (hz 32 c3.G rfl ah) rfl fun q g d q' a _=>?_;have C:=(d.mv a).ce ((E.var 51).add (.lit 4));refine C.cv (hz 24 C.G rfl ah) rfl fun q g d q' a _=>?_;have D:=(d.mv a).ce ((E.var 51).add (.lit 5));refine D.cv (hz 16 D.G rfl ah) rfl fun q g d q' a _=>?_;have c6:=(d.mv a).ce ((E.var 51).add (.lit 6));refine c6.cv (hz 8 c6.G rfl ah) rfl fun q g d q' a _=>?_;have c7:=(d.mv a).ce ((E.var 51).add (.lit 7));refine c7.cv (hz 0 c7.G rfl ah) rfl fun q g d=>?_;have d:=d.ce ((E.var 51).add (.lit 8));have d:=d.as (B':=gM bs) (by unfold gM;rw[<-em];simp only[abS];rfl);refine fun _=>⟨[],[1],rfl,rfl,⟨(ba fun k=>[q.i 82,0,q.i 51+8,q.i 83].getD k 0),rfl,⟨d.x,aba _,agZ (ad7 _) (ag0 d.l.symm),d.c⟩,zzT⟩,_,bs,R,rfl,rfl,v,?_⟩;have o:=d.o;rw[<-d.l]at o;show c9 (bY [q.h 82]) _ _ _;rw[aJ];exact o
open Go.Proofs.YtbdikjnpbnobcaaGreatDoor.D hiding aM aA fe
variable {F R RG:Hl}{c x:Int}{Hs K:List Hl}{l:List Int}{b j m n s y:Nat}{T e:TypeId}{u v:Value}
def UP {bs:List Int} (h:fE R u bs):bD (some u) 2=bs.length/\((0<=bD (some u) 0/\0<=bD (some u) 1/\0<=bD (some u) 2/\∀ j,j<(bD (some u) 2).toNat->∃ v,R.cell (bD (some u) 0).toNat ((bD (some u) 1).toNat+j)=some v/\v.oneCell'=true)\/bD (some u) 2=0)/\bK R (bD (some u) 0).toNat (bD (some u) 1).toNat (bD (some u) 2).toNat=aS bs/\bh (some u) .slice=true:=by
 obtain⟨x,y,c,rfl,hy,h⟩:=h;by_cases hx:0<=x
 .have hs:=xC (R:=R) (x:=x) (y:=y) (l:=(bs.length:Int)) rfl hy h;rw[sl0 ah,sl1 hx hy,Vg ah];exact⟨rfl,hs.1,hs.2,rfl⟩
 .rcases h with rfl | ⟨h,_⟩
  .have e:bD (some (.slice (au x y) ([]:List Int).length c)) 2=(([]:List Int).length:Nat):=by
    cases au x y with
    | none=>rfl
    | some a=>obtain⟨b,o,s⟩:=a;cases s<;>rfl
   rw[e];exact⟨rfl,Or.inr rfl,rfl,rfl⟩
  .omega
def Sz {q:Env} (hx:okW x) (a:(q.h 51).cell (q.i 9).toNat (Int.toNat 0+j)=some (.int .u32 x)) (hs:s<=24):(CV.int .u8 (.wrap .u8 (.shr .u64 (.wrap .u64 (.hI 51 (.var 9) (.lit 0) j)) (.lit (s:Int))))).ev q=Value.int .u8 (x/2 ^ s%256):=by
 show Value.int .u8 (IntKind.u8.wrap ((IntKind.u64.wrap (bO ((q.h 51).cell (q.i 9).toNat (Int.toNat 0+j)))).fdiv (2 ^ (min ((s:Int)).toNat IntKind.u64.bits))))=_;rw[a];unfold okW at hx;obtain⟨n,rfl⟩:∃ n:Nat,x=n:=⟨x.toNat,ah⟩;rw[show bO (some (Value.int .u32 (n:Int)))=(n:Int)from rfl,m9 ah ah,DQ (n:=n) (k:=s) ah rfl ah rfl];have b:((2:Int) ^ s)=((2 ^ s:Nat):Int):=by push_cast;rfl
 rw[b];rfl
def suL:List CV:=(List.range 32).map fun i=>.int .u8 (.wrap .u8 (.shr .u64 (.wrap .u64 (.hI 51 (.var 9) (.lit 0) (i/4))) (.lit ((24-8*(i%4):Nat):Int))))
def yk:Sx.Spec where
 fn:=69
 own:=[]
 rd:=[0,3000000,2000002]
 res:=[.agg (List.replicate 32 (Ck.int .u8))]
 pre:=fun xs Hs Rs=>∃ (x y:Int) (c:Nat) (R RA RG:Hl) (bs:List Int),xs=[.slice (au x y) 1 c]/\Rs=[R,RA,RG]/\kv R RA (.slice (au x y) 1 c) [bs]/\0<=y/\al bs/\bs.length<=900000/\yT RG 2
 post:=fun xs Hs Rs v Hs' F=>∀ u R RA RG bs,xs=[u]->Rs=[R,RA,RG]->kv R RA u [bs]->v=.agg (aS (jq bs)).toArray
def hsΓ:List Sx.Spec:=[Hc,T8]
def Xz:∀ t∈hsΓ,t.OK Tryz.prog:=ak Q9 <| ak T9 <| bu
def aaI:aD Tryz.prog hsΓ yk.fn where
 Λ:=fun p=>if Iv p [69,1,1,1,0,1,0]then some ⟨0,[(5,TI .i64 (.var 50))],[(5,.hp 51 [] [.var 9] [])],60⟩else none
 args:=[.sv (.one (.sl (.var 0) (.var 1) (.lit 1) (.var 2)))]
 mem:=[.ro 4 [.var 0] false,.ro 5 [] true,.ro 6 [.lit 2] false]
 nv:=7
def adR:Hc.res=[.one .sl]:=rfl
def adS:T8.res=[]:=rfl
def NS {bs:List Int} (h:fE R u bs) (hp:Hc.post [u] [] [R] v K F):c9 F 5 v (gM bs):=by
 obtain⟨u',bs',R',e1,a,h',ho⟩:=hp;simp only[aae,abw]at e1 a;subst e1 a;rw[h.uniq h'];exact ho
def qh:∀ (n:Nat) (bs:List Int),bs.length=n->aR (aS bs) ((List.replicate n (Ck.int .u8)).map gY)
 | 0,[],_=>trivial
 | n+1,z::l,h=>⟨rfl,qh n l (by simpa using h)⟩
def BC {bs:List Int} (h:al bs):al (gM bs):=fun z hz=>by
 unfold gM at hz;rcases acg.1 hz with hz | hz
 .rcases acg.1 hz with hz | hz
  .rcases acg.1 hz with hz | hz
   .exact h z hz
   .rw[aaQ.1 hz];omega
  .rw[(afO.1 hz).2];omega
 .unfold Wz at hz;obtain⟨i,_,rfl⟩:=acw.1 hz;omega
def pY (all:List Int) (k:Nat):∀ j,j<8->okW (oV dm all k j):=T7 Kb all k
def Ul {y l:Int} {bs:List Int} (h:c9 F e (.slice (au x y) l.toNat c.toNat) bs) (hl:0<=l) (b:0<=c):l=bs.length/\l<=c:=by
 obtain⟨_,a⟩:=h;rcases a with ⟨e,e0⟩ | ⟨g,cap,cur,e,_,hle,_⟩
 .simp only[Value.slice.injEq]at e;omega
 .simp only[Value.slice.injEq]at e;omega
def Gt:yk.OK Tryz.prog:=by
 refine Spec.jN (Γ:=hsΓ) Xz rfl ?_;rintro xs Rs ⟨x,y,c,R,RA,RG,bs,rfl,rfl,Z,hy,hb,hlen,hK⟩;refine⟨aaI,aM [x,y,c] false [Hl.none,Hl.none,Hl.none,Hl.none,R,RA,RG],
  fun _ q=>∃ k:Nat,q.i 50=((64*k:Nat):Int)/\64*k<=(gM bs).length/\q.h 51=wH (q.i 9).toNat (s8 (oV dm (gM bs) k)) 188,
  fun _ q=>((gM bs).length-q.i 50).toNat,?_,aT rfl rfl,rfl,?_⟩
 .show [Value.slice (au x y) (Int.toNat 1) ((c:Int)).toNat]=_;rw[aac];rfl
 .refine aD.read [] [] [] ?_;generalize p:aM [x,y,c] false [Hl.none,Hl.none,Hl.none,Hl.none,R,RA,RG]=J;have V:∀ q:Env,ai 7 J q->q.i 0=x/\q.i 1=y/\q.h 4=R/\q.h 5=RA/\q.h 6=RG:=fun q hg=>by
   rw[hg.i 0,hg.i 1,hg.h 4,hg.h 5,hg.h 6,<-p];exact⟨rfl,rfl,rfl,rfl,rfl⟩
  clear p;have t1:Int.toNat 1=1:=rfl;obtain⟨_,aG⟩:=Z.at hy;obtain⟨I,u,f,K⟩:=aG 0 bs rfl;simp only[go_sem,Nat.reduceAdd,hsΓ,adR,adS,Xy];intro q1 g1 _ q2 g2 _ q3 g3 p9;have G3:ai 7 J q3:=g1.trans (g2.mono.tr g3);obtain⟨v0,v1,L,w5,w6⟩:=V q3 G3;have f:R.cell x.toNat y.toNat=some u:=f;obtain⟨u2,r,t,M⟩:=UP K;rw[v0,v1,L,w5,f];have t0:Int.toNat 0=0:=rfl;have JJ:aO Hl.none 5 1 (.slice (au (-1) 0) (Int.toNat 0) (Int.toNat 0)) (Int.toNat 0) []:=⟨rfl,Or.inl ⟨rfl,rfl⟩⟩;have ul:(bD (some u) 2).toNat=bs.length:=by rw[u2,aac]
  refine⟨I,hy,M,⟨⟨[],JJ⟩,aba _,r,by rw[ul,t0];unfold maxLen;omega,by rw[ul,t0];omega⟩,fun v g4 ⟨r1,r2,r3,_⟩=>?_⟩;have G:=r3 [] JJ;rw[t,ul,t0,aco,adk]at G;have G4:ai 7 J v:=G3.tr g4;obtain⟨v0,v1,L,w5,w6⟩:=V v G4;rw[v0,v1,L,f,ul];have G:c9 (v.h 10) 5 (.slice (au (v.i 10) 0) bs.length (v.i 11).toNat) bs:=G;have A:=G.rd.w;refine⟨⟨_,bs,_,rfl,rfl,A,ah⟩,fun d g5 ⟨F5,p5,N,a⟩ q6 g6 O=>?_⟩;have H:=NS A p5;rw[<-N zzT]at H;have a:-1<=d.i 12/\0<=d.i 13/\0<=d.i 14/\0<=d.i 15:=a.1;obtain⟨P,hP⟩:∃ P,P=gM bs:=⟨_,rfl⟩;have Q:al P:=by rw[hP];exact BC hb
  have S:=yv bs;rw[<-hP]at H S ⊢;obtain⟨c1,c2⟩:=Ul H a.2.2.1 a.2.2.2;have oR:=H.rd.w;refine⟨⟨0,rfl,acP _,?_⟩,fun q7 g7 ⟨k,B,hk,C⟩=>?_⟩
  .show q6.h 16=wH (q6.i 9).toNat (s8 dm) _;rw[O,g6.i 9];rfl
  have g:ai 16 d q7:=g6.tr g7;have G7:ai 7 J q7:=G4.trans (g5.mono.tr g);have D:0<=q7.i 9:=by rw[g.i 9,g5.i 9,g4.i 9];exact p9
  have T:q7.i 14=P.length:=by rw[g.i 14,c1]
  have U:q7.i 15=d.i 15:=g.i 15;rw[T,B];refine⟨ah,fun aa=>?_,fun ab=>?_⟩
  .have bJ:64*k+64<=P.length:=ah;have hw:IntKind.i64.wrap (((64*k:Nat):Int)+64)=((64*k:Nat):Int)+64:=wrap_i64 ah ah;rw[hw,U,g.i 12,g.i 13,g.h 12,(V q7 G7).2.2.2.2,C];have hsub:=L0 oR a.1 a.2.1 (o:=64*k) (n:=64) bJ (y':=d.i 13+((64*k:Nat):Int)) (Or.inr rfl) ah (d.i 15-((64*k:Nat):Int)).toNat;have W:(((64*k:Nat):Int)+64-((64*k:Nat):Int)).toNat=64:=ah;have X:¬d.i 15=((64*k:Nat):Int):=ah;have Y:((P.drop (64*k)).take 64).length=64:=by rw[ace,acy];omega
   rw[aa8 X,W];have hptr:Value.pointer (au (q7.i 9) 0)=.pointer (some ⟨(q7.i 9).toNat,0,none⟩):=by rw[av D];rfl
   refine⟨a.1,a.2.1,ah,ah,ah,⟨(q7.i 9).toNat,oV dm P k,d.i 12,d.i 13+((64*k:Nat):Int),(d.i 15-((64*k:Nat):Int)).toNat,_,_,_,by rw[hptr],rfl,rfl,pY P k,hsub,Y,ah,fun z hz=>Q z (afs (ady hz)),ah,a.1,hK⟩,fun b m ⟨_,p8,_,_⟩=>?_⟩;have l:=p8 _ _ (oV dm P k) _ _ _ (by rw[hptr]) rfl rfl hsub;have l:b.h 60=wH (q7.i 9).toNat (s8 (qB (oV dm P k) ((P.drop (64*k)).take 64))) 188:=by simpa using l
   have ew:IntKind.i64.wrap (b.i 50+64)=((64*(k+1):Nat):Int):=by rw[m.i 50,B,hw];omega
   refine⟨⟨k+1,ew,ah,?_⟩,?_⟩
   .show b.h 60=wH (b.i 9).toNat (s8 (qB _ _)) _;rw[l,m.i 9]
   .show((P.length:Int)-IntKind.i64.wrap (b.i 50+64)).toNat<_;rw[ew];omega
  .intro b m _;have ek:k=P.length/64:=ah;have hc:∀ j,j<8->(b.h 51).cell (b.i 9).toNat (Int.toNat 0+j)=some (.int .u32 (E5 bs j)):=fun j E=>by
    rw[m.h 51,m.i 9,C,ek,hP];refine DF ?_;rw[show Int.toNat 0+j=j from aco j];unfold s8;rw[abl,acf E];rfl
   have hok:∀ j,j<8->okW (E5 bs j):=fun j E=>pY _ _ j E;have hres:suL.map (CV.ev b)=aS (jq bs):=by
    unfold suL jq aS;rw[adv,adv];exact acL fun i hi=>by
     have hi:=acv.1 hi;exact Sz (s:=24-8*(i%4)) (hok (i/4) ah) (hc _ ah) ah
   have hv:∀ j,j<8->bh ((b.h 51).cell (b.i 9).toNat (Int.toNat 0+j)) (.int .u32)=true:=fun j E=>by rw[hc j E];rfl
   obtain⟨F,_,_,e2⟩:=cE (List.replicate 32 (Ck.int .u8)) 0 (aS (jq bs)) b (qh 32 _ (gU bs));refine⟨by rw[m.i 9];exact D,hv 0 ah,hv 1 ah,hv 2 ah,hv 3 ah,hv 4 ah,hv 5 ah,hv 6 ah,hv 7 ah,fun _=>⟨[],[],rfl,rfl,⟨F,?_,cf _ _ _ az,zzT⟩,fun u' R' ad ae bs' h1 h2 h'=>?_⟩⟩
   .show Value.agg (suL.map (CV.ev b)).toArray=Value.agg ((aj 0 (List.replicate 32 (Ck.int .u8))).map (CV.ev F)).toArray;rw[hres,e2]
   .simp only[aae,abw]at h1 h2;subst h1;obtain⟨rfl,rfl,rfl⟩:=h2;have e:=h'.uniq Z;simp only[aae,abw]at e;subst e;show Value.agg (suL.map (CV.ev b)).toArray=_;rw[hres]
def WA {q:Env} {k:Nat} {s:Int} (hw:IntKind.u64.wrap (IntKind.u64.wrap (q.i 2)*8)=(n:Int)) (hn:n<18446744073709551616) (hs:s=(k:Int)) (hk:k<=63):IntKind.u8.wrap (aw q (E.shr .u64 (E.wrap .u64 ((E.wrap .u64 (E.var 2)).mul (E.lit 8))) (E.lit s)))=((n/2 ^ k%256:Nat):Int):=DQ hn hs hk hw
def kV:Sx.Spec where
 fn:=45
 own:=[]
 rd:=[0,2000000]
 res:=[.agg (List.replicate 32 (Ck.int .u8))]
 pre:=fun xs Hs Rs=>∃ u bs R RG,xs=[u]/\Rs=[R,RG]/\fE R u bs/\al bs/\bs.length<=900000/\yT RG 0
 post:=fun xs Hs Rs v Hs' F=>∀ u bs R RG,xs=[u]->Rs=[R,RG]->fE R u bs->v=.agg (aS (jq bs)).toArray
def Mg:Nd:=(fun d m l n o=>(fun a b c=>(fun f g h i j k=>(.and (.imp (.lt d (.lit 64)) (.and (.e (.le (.lit 0) d)) (.and (.e (.his 5 (.lit 0) d 0 (.int .u32))) (.and (.e (.le (.lit 0) (.var 120))) (.and (.e (.his 131 (.var 120) d 0 (.int .u32))) (.and (.pre j) (.ext j (.and (.pre f) (.ext f (.and (.pre g) (.ext g (.and (.pre k) (.ext k (.and (.pre h) (.ext h (.and (.pre i) (.ext i (.back 1 3 [⟨151,0,.int .i64 (.wrap .u32 (.add a (.wrap .u32 (.add (.bits .xor .u32 (.bits .xor .u32 (.var 173) (.var 174)) (.var 175)) (.bits .xor .u32 (.bits .xor .u32 (.bits .and .u32 l n) (.bits .and .u32 l o)) (.bits .and .u32 n o))))))⟩,⟨152,0,.int .i64 l⟩,⟨153,0,.int .i64 n⟩,⟨154,0,.int .i64 o⟩,⟨155,0,.int .i64 (.wrap .u32 (.add (.var 154) a))⟩,⟨156,0,.int .i64 m⟩,⟨157,0,.int .i64 (.var 156)⟩,⟨158,0,.int .i64 (.var 157)⟩,⟨150,0,.int .i64 (.wrap .i64 (.add d (.lit 1)))⟩] [])))))))))))))))))) (.imp (.not (.lt d (.lit 64))) (.back 0 1 (([⟨100,0,.int .i64 (.wrap .i64 (.add (.var 100) (.lit 64)))⟩]:List As)++(VO 85 (aj 110 (List.replicate 8 (Ck.int .u32))) [.int .u32 (.wrap .u32 (.add (.var 110) l)),.int .u32 (.wrap .u32 (.add (.var 111) n)),.int .u32 (.wrap .u32 (.add (.var 112) o)),.int .u32 (.wrap .u32 (.add (.var 113) (.var 154))),.int .u32 (.wrap .u32 (.add (.var 114) m)),.int .u32 (.wrap .u32 (.add (.var 115) (.var 156))),.int .u32 (.wrap .u32 (.add (.var 116) (.var 157))),.int .u32 (.wrap .u32 (.add (.var 117) (.var 158)))])) [])):Nd)) (.call 0 171 [.sv b,.sv (.one (.int .i64 (.lit 11)))] [] []) (.call 0 172 [.sv b,.sv (.one (.int .i64 (.lit 25)))] [] []) (.call 0 174 [.sv c,.sv (.one (.int .i64 (.lit 13)))] [] []) (.call 0 175 [.sv c,.sv (.one (.int .i64 (.lit 22)))] [] []) (.call 0 170 [.sv b,.sv (.one (.int .i64 (.lit 6)))] [] []) (.call 0 173 [.sv c,.sv (.one (.int .i64 (.lit 2)))] [] [])) (.wrap .u32 (.add (.wrap .u32 (.add (.wrap .u32 (.add (.wrap .u32 (.add (.var 158) (.bits .xor .u32 (.bits .xor .u32 (.var 170) (.var 171)) (.var 172)))) (.bits .xor .u32 (.bits .and .u32 m (.var 156)) (.bits .and .u32 (.wrap .u32 (.sub (.lit 4294967295) m)) (.var 157))))) (.hI 5 (.lit 0) d 0))) (.hI 131 (.var 120) d 0))) (.one (.int .u32 m)) (.one (.int .u32 l))) (.var 150) (.var 155) (.var 151) (.var 152) (.var 153)
def EY:Nd:=(fun d i r p q x y=>(fun a h k o j w=>(fun b n m l f g=>(fun c s t u v=>(.and (.imp (.lt d x) (.and (.imp (.lt d (.lit 16)) (.and (.e (.le p r)) (.and (.e (.le p a)) (.and (.e (.lt a q)) (.and (.e (.his 82 r a 0 (.int .u8))) (.and (.e (.le p l)) (.and (.e (.lt l q)) (.and (.e (.his 82 r l 0 (.int .u8))) (.and (.e (.le p m)) (.and (.e (.lt m q)) (.and (.e (.his 82 r m 0 (.int .u8))) (.and (.e (.le p n)) (.and (.e (.lt n q)) (.and (.e (.his 82 r n 0 (.int .u8))) (.and (.e (.le p i)) (.and (.e (.le p d)) (.and (.pre c) (.ext c (.back 1 2 w [(131,some 140)]))))))))))))))))))) (.imp (.not (.lt d (.lit 16))) (.and (.e (.le p i)) (.and (.e (.le p h)) (.and (.e (.lt h x)) (.and (.e (.his 131 i h 0 y)) (.and (.pre v) (.ext v (.and (.pre s) (.ext s (.and (.e (.le p j)) (.and (.e (.lt j x)) (.and (.e (.his 131 i j 0 y)) (.and (.pre t) (.ext t (.and (.pre u) (.ext u (.and (.e (.le p k)) (.and (.e (.lt k x)) (.and (.e (.his 131 i k 0 y)) (.and (.e (.le p o)) (.and (.e (.lt o x)) (.and (.e (.his 131 i o 0 y)) (.and (.pre b) (.ext b (.back 1 2 w [(131,some 144)]))))))))))))))))))))))))))) (.imp (.not (.lt d x)) (.and (.inv 3 [⟨151,0,.int .i64 (.var 110)⟩,⟨152,0,.int .i64 (.var 111)⟩,⟨153,0,.int .i64 (.var 112)⟩,⟨154,0,.int .i64 (.var 113)⟩,⟨155,0,.int .i64 (.var 114)⟩,⟨156,0,.int .i64 (.var 115)⟩,⟨157,0,.int .i64 (.var 116)⟩,⟨158,0,.int .i64 (.var 117)⟩,⟨150,0,.int .i64 p⟩] []) (.havoc 1 3 140 Mg))):Nd)) (.put 140 131 i d [.int .u32 (.wrap .u32 (.add (.wrap .u32 (.add (.wrap .u32 (.add (.wrap .u32 (.mul (.wrap .u32 (.hI 82 r a 0)) (.lit 16777216))) (.wrap .u32 (.mul (.wrap .u32 (.hI 82 r l 0)) (.lit 65536))))) (.wrap .u32 (.mul (.wrap .u32 (.hI 82 r m 0)) (.lit 256))))) (.wrap .u32 (.hI 82 r n 0))))]) (.call 0 141 [.sv f,.sv (.one (.int .i64 (.lit 18)))] [] []) (.call 0 142 [.sv g,.sv (.one (.int .i64 (.lit 17)))] [] []) (.call 0 143 [.sv g,.sv (.one (.int .i64 (.lit 19)))] [] []) (.call 0 140 [.sv f,.sv (.one (.int .i64 (.lit 7)))] [] [])) (.put 144 131 i d [.int .u32 (.wrap .u32 (.add (.wrap .u32 (.add (.wrap .u32 (.add (.hI 131 i k 0) (.bits .xor .u32 (.bits .xor .u32 (.var 140) (.var 141)) (.wrap .u32 (.quo (.hI 131 i h 0) (.lit 8)))))) (.hI 131 i o 0))) (.bits .xor .u32 (.bits .xor .u32 (.var 142) (.var 143)) (.wrap .u32 (.quo (.hI 131 i j 0) (.lit 1024))))))]) (.wrap .i64 (.add a (.lit 3))) (.wrap .i64 (.add a (.lit 2))) (.wrap .i64 (.add a (.lit 1))) (.one (.int .u32 (.hI 131 i h 0))) (.one (.int .u32 (.hI 131 i j 0)))) (.wrap .i64 (.add (.var 100) (.wrap .i64 (.mul (.lit 4) d)))) (.wrap .i64 (.sub d (.lit 15))) (.wrap .i64 (.sub d (.lit 16))) (.wrap .i64 (.sub d (.lit 7))) (.wrap .i64 (.sub d (.lit 2))) [⟨130,0,.int .i64 (.wrap .i64 (.add d (.lit 1)))⟩]) (.var 130) (.var 120) (.var 82) (.lit 0) (.add (.var 51) (.lit 8)) (.lit 64) (.int .u32)
def Mf:Nd:=(fun d g f=>(fun b c=>(fun a=>(.and (.imp (.lt d (.lit 32)) (.and (.e (.le f (.var 84))) (.and (.e (.le f b)) (.and (.e (.lt b (.lit 8))) (.and (.e (.his 202 (.var 84) b 0 (.int .u32))) (.and (.e (.le f c)) (.and (.e (.le f g)) (.and (.e (.le f d)) (.and (.pre a) (.ext a (.back 0 4 [⟨200,0,.int .i64 (.wrap .i64 (.add d (.lit 1)))⟩] [(202,some 202),(201,some 210)]))))))))))) (.imp (.not (.lt d (.lit 32))) (.and (.e (.le f g)) (.and (.e (.hby 201 g f (.lit 32))) (.post [.ro 4 [.var 0] true,.ro 5 [.lit 0] false,.dead,.hp 82 [79,76,73,70,67,64,61,53] [.var 82,.var 79,.var 76,.var 73,.var 70,.var 67,.var 64,.var 61,.var 50] [],.dead,.dead,.dead,.dead,.dead,.dead,.dead,.dead,.dead,.hp 202 [] [.var 84] [],.hp 201 [] [.var 120] []] (.sv (.agg (aU 201 g f 0 (List.replicate 32 (Kd.int .u8))))))))):Nd)) (.put 210 201 g d [.int .u8 (.wrap .u8 (.shr .u32 (.hI 202 (.var 84) b 0) c))])) (.wrap .i64 (.quo d (.lit 4))) (.wrap .u32 (.wrap .i64 (.sub (.lit 24) (.wrap .i64 (.mul (.lit 8) (.rem d (.lit 4)))))))) (.var 200) (.var 120) (.lit 0)
def Me:Nd:=(fun a=>(.and (.imp a (.ext (.alloc 120) (.ext (.OR 121 (.bc 120 (List.replicate 64 (CV.int .u32 (.lit 0))) 175)) (.and (.inv 2 [⟨130,0,.int .i64 (.lit 0)⟩] [(131,some 121)]) (.havoc 1 2 122 EY))))) (.imp (.not a) (.ext (.alloc 120) (.ext (.OR 121 (.bc 120 (List.replicate 32 (CV.int .u8 (.lit 0))) 31)) (.ext (.OR 122 (.bc 84 (aj 110 (List.replicate 8 (Ck.int .u32))) 174)) (.and (.inv 4 [⟨200,0,.int .i64 (.lit 0)⟩] [(202,some 122),(201,some 121)]) (.havoc 0 4 123 Mf)))))):Nd)) (.lt (.var 100) (.add (.var 51) (.lit 8)))
def Sd:Nd:=(fun p b h=>(fun a r s m o q=>(fun c d f g i j k l n=>(.ext (.alloc 6) (.and (.pre o) (.ext o (.ext (.alloc 9) (.and (.pre m) (.ext m (.and (.inv 0 [⟨50,0,.int .i64 (.var 10)⟩,⟨51,0,.int .i64 (.add p (.lit 1))⟩,⟨52,0,.int .i64 (.var 11)⟩] [(53,some 10)]) (.havoc 0 0 12 (.and (.e (.le h b)) (.and (.imp (.not q) (.ext (.alloc 60) (.and (.pre n) (.ext n (.back 0 0 [⟨50,0,.int .i64 (.var 61)⟩,⟨51,0,.int .i64 r⟩,⟨52,0,.int .i64 (.var 62)⟩] [(53,some 61)]))))) (.imp q (.and (.e (.le h p)) (.ext (.alloc 60) (.and (.pre l) (.ext l (.ext (.alloc 63) (.and (.pre k) (.ext k (.ext (.alloc 66) (.and (.pre j) (.ext j (.ext (.alloc 69) (.and (.pre i) (.ext i (.ext (.alloc 72) (.and (.pre g) (.ext g (.ext (.alloc 75) (.and (.pre f) (.ext f (.ext (.alloc 78) (.and (.pre d) (.ext d (.ext (.alloc 81) (.and (.pre c) (.ext c (.ext (.alloc 84) (.and (.inv 1 (([⟨100,0,.int .i64 h⟩]:List As)++(VO 85 (aj 110 (List.replicate 8 (Ck.int .u32))) [.int .u32 (.lit 1779033703),.int .u32 (.lit 3144134277),.int .u32 (.lit 1013904242),.int .u32 (.lit 2773480762),.int .u32 (.lit 1359893119),.int .u32 (.lit 2600822924),.int .u32 (.lit 528734635),.int .u32 (.lit 1541459225)])) []) (.havoc 0 1 85 Me)))))))))))))))))))))))))))))))))))))):Nd)) (.app 82 5 1 1 (.sl (.var 79) h (.add b (.lit 7)) (.var 80)) (.add b (.lit 7)) (.hp 79 [76,73,70,67,64,61,53] [.var 79,.var 76,.var 73,.var 70,.var 67,.var 64,.var 61,.var 50] []) (.cvs [.int .u8 (.wrap .u8 (.shr .u64 a h))] 1)) (.app 79 5 1 1 (.sl (.var 76) h (.add b (.lit 6)) (.var 77)) (.add b (.lit 6)) (.hp 76 [73,70,67,64,61,53] [.var 76,.var 73,.var 70,.var 67,.var 64,.var 61,.var 50] []) (.cvs [.int .u8 (.wrap .u8 (.shr .u64 a (.lit 8)))] 1)) (.app 76 5 1 1 (.sl (.var 73) h (.add b (.lit 5)) (.var 74)) (.add b (.lit 5)) (.hp 73 [70,67,64,61,53] [.var 73,.var 70,.var 67,.var 64,.var 61,.var 50] []) (.cvs [.int .u8 (.wrap .u8 (.shr .u64 a (.lit 16)))] 1)) (.app 73 5 1 1 (.sl (.var 70) h (.add b (.lit 4)) (.var 71)) (.add b (.lit 4)) (.hp 70 [67,64,61,53] [.var 70,.var 67,.var 64,.var 61,.var 50] []) (.cvs [.int .u8 (.wrap .u8 (.shr .u64 a (.lit 24)))] 1)) (.app 70 5 1 1 (.sl (.var 67) h (.add b (.lit 3)) (.var 68)) (.add b (.lit 3)) (.hp 67 [64,61,53] [.var 67,.var 64,.var 61,.var 50] []) (.cvs [.int .u8 (.wrap .u8 (.shr .u64 a (.lit 32)))] 1)) (.app 67 5 1 1 (.sl (.var 64) h (.add b (.lit 2)) (.var 65)) (.add b (.lit 2)) (.hp 64 [61,53] [.var 64,.var 61,.var 50] []) (.cvs [.int .u8 (.wrap .u8 (.shr .u64 a (.lit 40)))] 1)) (.app 64 5 1 1 (.sl (.var 61) h r (.var 62)) r (.hp 61 [53] [.var 61,.var 50] []) (.cvs [.int .u8 (.wrap .u8 (.shr .u64 a (.lit 48)))] 1)) (.app 61 5 1 1 s b (.hp 53 [] [.var 50] []) (.cvs [.int .u8 (.wrap .u8 (.shr .u64 a (.lit 56)))] 1)) (.app 61 5 1 1 s b (.hp 53 [] [.var 50] []) (.cvs [.int .u8 h] 1))) (.wrap .u64 (.mul (.wrap .u64 p) (.lit 8))) (.add b (.lit 1)) (.sl (.var 50) h b (.var 52)) (.app 10 5 1 1 (.sl (.var 7) h p (.var 8)) p (.hp 7 [] [.var 7] []) (.cvs [.int .u8 (.lit 128)] 1)) (.app 7 5 1 1 (.sl (.lit (-1)) h h h) h .dead (.seg 4 (.var 0) (.var 1) p)) (.eq (.rem b (.lit 64)) (.lit 56))) (.var 2) (.var 51) (.lit 0)
def Mh:List Sx.Spec:=[se]
def YM:∀ t∈Mh,t.OK Tryz.prog:=fun t a=>by
 simp only[Mh,aaW,abd,acs]at a;subst a;exact Cc
def abF:aD Tryz.prog Mh kV.fn where
 Λ:=fun p=>if Iv p [45,1,1,1,1,0,0]then some ⟨0,[(3,.sv (.one (.sl (.var 50) (.lit 0) (.var 51) (.var 52))))],[(3,.hp 53 [] [.var 50] [])],60⟩
  else if Iv p [45,1,1,1,1,1,1,1,1,0,1,0]then some ⟨1,[(7,TI .i64 (.var 100))],[(13,.bc 84 (aj 110 (List.replicate 8 xY)) 174)],120⟩
  else if Iv p [45,1,1,1,1,1,1,1,1,0,1,0,0,1,0,0,1,0,1,0]then some ⟨2,[(9,TI .i64 (.var 130))],[(14,.hp 131 [] [.var 120] [])],140⟩
  else if Iv p [45,1,1,1,1,1,1,1,1,0,1,0,0,1,0,0,1,1,1,0,1,0]then some ⟨3,[(21,TI .i64 (.var 150)),(13,.sv (.one (.int .u32 (.var 151)))),(14,.sv (.one (.int .u32 (.var 152)))),(15,.sv (.one (.int .u32 (.var 153)))),(16,.sv (.one (.int .u32 (.var 154)))),(17,.sv (.one (.int .u32 (.var 155)))),(18,.sv (.one (.int .u32 (.var 156)))),(19,.sv (.one (.int .u32 (.var 157)))),(20,.sv (.one (.int .u32 (.var 158))))],[],170⟩
  else if Iv p [45,1,1,1,1,1,1,1,1,1,1,0,1,0]then some ⟨4,[(25,TI .i64 (.var 200))],[(14,.hp 201 [] [.var 120] []),(13,.hp 202 [] [.var 84] [])],210⟩else none
 args:=[.sv (.one (.sl (.var 0) (.var 1) (.var 2) (.var 3)))]
 mem:=[.ro 4 [.var 0] true,.ro 5 [.lit 0] false]
 nv:=6
def Sc:se.res=[.one xY]:=rfl
def Dq (bs:List Int) (j:Nat) (q:Env):Prop:=match j with
 | 0=>∃ m:Nat,m<=(119-bs.length%64)%64/\Acc 0 q q 53 50 (.lit 0) 52 (.var 51) (bs++[128]++List.replicate m 0) 1001000
 | 1=>∃ k:Nat,q.i 100=((64*k:Nat):Int)/\64*k<=(gM bs).length/\KE q 110 (oV dm (gM bs) k)
 | 2=>∃ (k:Nat) (l:List Int),q.i 130=k/\k<=64/\ME (((gM bs).drop (q.i 100).toNat).take 64) k l/\q.h 131=wH (q.i 120).toNat l 175
 | 4=>∃ (k:Nat) (l:List Int),q.i 200=k/\k<=32/\l.length=32/\(∀ j,j<k->l[j]?=some ((jq bs).getD j 0))/\q.h 201=Hl.one (q.i 120).toNat (.cells (aS l).toArray 31 (0,0))/\q.h 202=wH (q.i 84).toNat (s8 (E5 bs)) 174
 | _=>∃ k:Nat,q.i 150=k/\k<=64/\KE q 151 (cY (oV dm (gM bs) ((q.i 100).toNat/64)) (aP (((gM bs).drop (q.i 100).toNat).take 64) 64) k)
def Oi (bs:List Int) (j:Nat) (q:Env):Nat:=match j with
 | 0=>((bs.length:Int)+100-q.i 51).toNat
 | 1=>((gM bs).length-q.i 100).toNat
 | 2=>(64-q.i 130).toNat
 | 4=>(32-q.i 200).toNat
 | _=>(64-q.i 150).toNat
def rsC (bs:List Int) (xs:List Value) (Rs:List Hl):Ctx:=⟨Mh,Dq bs,Oi bs,postOf kV xs [] Rs⟩
def iI (h:okW x) {n:Int} (h0:0<=n) (h1:n<=32):se.pre [.int .u32 x,.int .i64 n] [] []:=⟨⟨(ba fun i=>if i=0 then x else n),⟨zzT,zzT,zzT⟩,rfl⟩,h,h0,h1⟩
def gE {q:Env} {xs:List Value} {Rs:List Hl} (hx:xs=[.int .u32 x,.int .i64 (m:Int)]) (h:se.post xs Hs Rs (Value.int .u32 (q.i n)) K F):q.i n=bC m x:=by
 subst hx;have h:Value.int .u32 (q.i n)=Value.int .u32 (bC ((m:Int)).toNat x):=h
 grind
section
variable {bs:List Int} {xs:List Value} {Rs:List Hl} {ms:Nat->Nat} {q:Env} {P B S:List Int} {k:Nat}
structure tD (bs P B:List Int) (k:Nat) (q:Env):Prop where
 p:P=gM bs
 b:B=(P.drop (64*k)).take 64
 k2:64*k+64<=P.length
 le:P.length<=1000000
 bb:al B
 e100:q.i 100=((64*k:Nat):Int)
 s:KE q 110 (oV dm P k)
 p120:0<=q.i 120
 kat:yT (q.h 5) 0
 cell:∀ j z,P[j]?=some z->(q.h 82).cell (q.i 82).toNat j=some (.int .u8 z)
 x82:0<=q.i 82
 e51:q.i 51+8=P.length
def tD.mono {q':Env} (h:tD bs P B k q) (g:ai n q q') (hn:121<=n):tD bs P B k q':=by
 obtain⟨a1,a2,a3,a4,a5,d,e,f,j,a,b,c⟩:=h;exact⟨a1,a2,a3,a4,a5,by rw[g.i 100];exact d,e.mono g ah,by rw[g.i 120];exact f,by rw[g.h 5];exact j,by rw[g.h 82,g.i 82];exact a,by rw[g.i 82];exact b,by rw[g.i 51];exact c⟩
def tD.len (h:tD bs P B k q):B.length=64:=by
 have:=h.k2;rw[h.b,ace,acy];omega
def tD.get (h:tD bs P B k q) (a:j<64):B.getD j 0=P.getD (64*k+j) 0:=by
 rw[h.b,abv,ad4 a,acR,<-abv]
def Ok (hB:tD bs P B k q) (hS:S=aP B 64) (t:q.h 131=wH (q.i 120).toNat S 175) (d:q.i 150=n) (hn:n<=64) (u:KE q 151 (cY (oV dm P k) S n)) (Y:ms 0=(P.length-q.i 100).toNat) (m1:ms 1=(64-q.i 150).toNat):Mg.holds (rsC bs xs Rs) ms q:=by
 show Nd.holds ⟨Mh,Dq bs,Oi bs,postOf kV xs [] Rs⟩ ms q Mg;have hle:=hB.le;have bJ:=hB.k2;unfold Mg;simp only[Nd.holds,X.pre,X.rel,X.n,Src.ok,Src.len,Src.iX,acu,abw,afm,afB,acJ,Nat.reduceAdd,acn,acO,tH,tE,kc,lh,jv,tG,nR,nu,nq,ik,nN,nS,tF,nP,nO,ke,nQ,aq,ar,bP,dZ,cN,bL,dY,fi,fC,fT,jJ,gy,iP,fW,TV.ev,SV.ev,CV.ev,abW,acI,bo.hl,jO,Cp.sv,Ck.cv,bQ,Cp.len,Ck.len,gm,ia,jF,Mh,Sc];obtain⟨r,hr⟩:∃ r,r=cY (oV dm P k) S n:=⟨_,rfl⟩;rw[<-hr]at u;have e:∀ j,j<8->okW (r j):=by rw[hr];exact uL (pY P k) S n
 rw[d];refine⟨fun Z=>?_,fun aa=>?_⟩
 .have o:n<64:=ah;have O:∀ {q':Env},ai 170 q q'->(q'.h 5).cell 0 (q'.i 150).toNat=some (.int .u32 (E4.getD n 0)):=fun {q'} hg=>by
   rw[hg.i 150,hg.h 5,d,aac];exact hB.kat n o
  have Q:∀ {q':Env},ai 170 q q'->(q'.h 131).cell (q'.i 120).toNat (q'.i 150).toNat=some (.int .u32 (S.getD n 0)):=fun {q'} hg=>by
   rw[hg.i 150,hg.i 120,hg.h 131,t,d,aac];refine DF ?_;rw[abv,aad (by rw[hS,cZ];exact o)];rfl
  have G:∀ {q':Env},ai 170 q q'->q'.i 155=r 4:=fun hg=>(u.mono hg ah) 4 ah;have H:∀ {q':Env},ai 170 q q'->q'.i 151=r 0:=fun hg=>(u.mono hg ah) 0 ah;have I:(q.h 5).cell (Int.toNat 0) ((n:Int)).toNat=some (.int .u32 (E4.getD n 0)):=by rw[<-d];exact O (ai.refl _ _)
  have J:(q.h 131).cell (q.i 120).toNat ((n:Int)).toNat=some (.int .u32 (S.getD n 0)):=by rw[<-d];exact Q (ai.refl _ _)
  rw[I,J,G (ai.refl _ _)];refine⟨ah,rfl,hB.p120,rfl,iI (e 4 ah) ah ah,fun q6 R ⟨_,p6,_,_⟩=>?_⟩;rw[G R];refine⟨iI (e 4 ah) ah ah,fun q7 T ⟨_,p7,_,_⟩=>?_⟩;have U:ai 170 q q7:=R.tr T;rw[G U];refine⟨iI (e 4 ah) ah ah,fun q8 K ⟨_,p8,_,_⟩=>?_⟩;have V:ai 170 q q8:=U.tr K;rw[H V];refine⟨iI (e 0 ah) ah ah,fun q9 F ⟨_,p9,_,_⟩=>?_⟩;have W:ai 170 q q9:=V.tr F;rw[H W];refine⟨iI (e 0 ah) ah ah,fun L g ⟨_,M,_,_⟩=>?_⟩;have v:ai 170 q L:=W.tr g;rw[H v];refine⟨iI (e 0 ah) ah ah,fun a f ⟨_,N,_,_⟩=>?_⟩;have l:ai 170 q a:=v.tr f;have w:a.i 170=bC 6 (r 4):=by rw[f.i 170,g.i 170,F.i 170,K.i 170,T.i 170];exact gE (m:=6) rfl p6
  have x:a.i 171=bC 11 (r 4):=by rw[f.i 171,g.i 171,F.i 171,K.i 171];exact gE (m:=11) rfl p7
  have y:a.i 172=bC 25 (r 4):=by rw[f.i 172,g.i 172,F.i 172];exact gE (m:=25) rfl p8
  have z:a.i 173=bC 2 (r 0):=by rw[f.i 173,g.i 173];exact gE (m:=2) rfl p9
  have A:a.i 174=bC 13 (r 0):=by rw[f.i 174];exact gE (m:=13) rfl M
  have C:a.i 175=bC 22 (r 0):=gE (m:=22) rfl N;have c:KE a 151 r:=u.mono l ah;have nE:IntKind.u32.wrap (4294967295-r 4)=4294967295-r 4:=by
   have:=e 4 ah;unfold okW at this;exact sg ⟨ah,ah⟩
  have eT:dL (dL (dL (dL (a.i 158+me (a.i 170) (a.i 171) (a.i 172))+ct .xor .u32 (ju (a.i 155) (a.i 156)) (ju (IntKind.u32.wrap (4294967295-a.i 155)) (a.i 157)))+bO ((a.h 5).cell 0 (a.i 150).toNat))+bO ((a.h 131).cell (a.i 120).toNat (a.i 150).toNat))=Ke r (E4.getD n 0) (S.getD n 0):=by
   rw[O l,Q l,w,x,y,show a.i 158=r 7 from c 7 ah,show a.i 155=r 4 from c 4 ah,show a.i 156=r 5 from c 5 ah,show a.i 157=r 6 from c 6 ah,nE];rfl
  have eU:dL (me (a.i 173) (a.i 174) (a.i 175)+ct .xor .u32 (ct .xor .u32 (ju (a.i 151) (a.i 152)) (ju (a.i 151) (a.i 153))) (ju (a.i 152) (a.i 153)))=SY r:=by
   rw[z,A,C,show a.i 151=r 0 from c 0 ah,show a.i 152=r 1 from c 1 ah,show a.i 153=r 2 from c 2 ah];rfl
  have D:IntKind.i64.wrap (a.i 150+1)=((n+1:Nat):Int):=by rw[l.i 150,d,wrap_i64 ah ah];rfl
  have f100:a.i 100=((64*k:Nat):Int):=by rw[l.i 100,hB.e100]
  refine⟨⟨n+1,D,ah,fun j E=>?_⟩,?_⟩
  .show _=cY (oV dm (gM bs) ((a.i 100).toNat/64)) (aP (((gM bs).drop (a.i 100).toNat).take 64) 64) (n+1) j;rw[f100,aac,show 64*k/64=k by omega,<-hB.p,<-hB.b,<-hS];show _=wF (cY (oV dm P k) S n) (E4.getD n 0) (S.getD n 0) j;rw[<-hr]
   match j,E with
   | 0,_ =>
    show dL (dL (dL (dL (dL (a.i 158+me (a.i 170) (a.i 171) (a.i 172))+ct .xor .u32 (ju (a.i 155) (a.i 156)) (ju (IntKind.u32.wrap (4294967295-a.i 155)) (a.i 157)))+bO ((a.h 5).cell 0 (a.i 150).toNat))+bO ((a.h 131).cell (a.i 120).toNat (a.i 150).toNat))+dL (me (a.i 173) (a.i 174) (a.i 175)+ct .xor .u32 (ct .xor .u32 (ju (a.i 151) (a.i 152)) (ju (a.i 151) (a.i 153))) (ju (a.i 152) (a.i 153))))=dL (Ke r _ _+SY r);rw[eT,eU]
   | 4,_ =>
    show dL (a.i 154+dL (dL (dL (dL (a.i 158+me (a.i 170) (a.i 171) (a.i 172))+ct .xor .u32 (ju (a.i 155) (a.i 156)) (ju (IntKind.u32.wrap (4294967295-a.i 155)) (a.i 157)))+bO ((a.h 5).cell 0 (a.i 150).toNat))+bO ((a.h 131).cell (a.i 120).toNat (a.i 150).toNat)))=dL (r 3+Ke r _ _);rw[eT,show a.i 154=r 3 from c 3 ah]
   | 1,_=>exact c 0 ah
   | 2,_=>exact c 1 ah
   | 3,_=>exact c 2 ah
   | 5,_=>exact c 4 ah
   | 6,_=>exact c 5 ah
   | 7,_=>exact c 6 ah
  .rw[m1,d];show(64-IntKind.i64.wrap (a.i 150+1)).toNat<_;rw[D];omega
 .have en:n=64:=ah;subst en;have D:IntKind.i64.wrap (q.i 100+64)=((64*(k+1):Nat):Int):=by rw[hB.e100,wrap_i64 ah ah];omega
  refine⟨⟨k+1,D,by rw[<-hB.p];omega,fun j E=>?_⟩,?_⟩
  .rw[<-hB.p];show _=dL (oV dm P k j+cY (oV dm P k) (aP ((P.drop (64*k)).take 64) 64) 64 j);rw[<-hB.b,<-hS,<-hr,<-hB.s j E,<-u j E]
   match j,E with
   | 0,_=>rfl
   | 1,_=>rfl
   | 2,_=>rfl
   | 3,_=>rfl
   | 4,_=>rfl
   | 5,_=>rfl
   | 6,_=>rfl
   | 7,_=>rfl
  .rw[Y];show(((gM bs).length:Int)-IntKind.i64.wrap (q.i 100+64)).toNat<_;rw[D,<-hB.p,hB.e100];omega
def OM (a b c d:Int) (e:0<=a/\a<256) (hb:0<=b/\b<256) (f:0<=c/\c<256) (hd:0<=d/\d<256):dL (dL (dL (dL (dL a*16777216)+dL (dL b*65536))+dL (dL c*256))+dL d)=dL (a*16777216+b*65536+c*256+d):=by
 simp only[wW];omega
def V0 (h:okW x) {n:Int} (hn:0<n):IntKind.u32.wrap (x.tdiv n)=x/n:=by
 unfold okW at h;rw[afn h.1];refine sg ⟨Int.ediv_nonneg h.1 ah,Int.lt_of_le_of_lt (Int.ediv_le_self _ h.1) h.2⟩
def Ol (hB:tD bs P B k q) (C:ME B n l) (e:q.h 131=wH (q.i 120).toNat l 175) (a:q.i 130=n) (hn:n<=64) (m0:ms 0=(P.length-q.i 100).toNat) (m1:ms 1=(64-q.i 130).toNat):EY.holds (rsC bs xs Rs) ms q:=by
 show Nd.holds ⟨Mh,Dq bs,Oi bs,postOf kV xs [] Rs⟩ ms q EY;have hle:=hB.le;have bJ:=hB.k2;have ag:=hB.len;have hl:=C.1;have f100:=hB.e100;have fold:∀ q':Env,ai 131 q q'->(((gM bs).drop (q'.i 100).toNat).take 64)=B:=fun q' hg=>by
  rw[hg.i 100,f100,aac,<-hB.p,<-hB.b]
 unfold EY;simp only[Nd.holds,X.pre,X.rel,X.n,Src.ok,Src.len,Src.iX,acu,abw,afm,afB,acJ,Nat.reduceAdd,acn,acO,tH,tE,kc,lh,jv,tG,nR,nu,nq,ik,nN,nS,tF,nP,nO,ke,nQ,aq,ar,bP,dZ,cN,bL,dY,fi,fC,fT,jJ,gy,iP,fW,TV.ev,SV.ev,CV.ev,abW,acI,bo.hl,jO,Cp.sv,Ck.cv,bQ,Cp.len,Ck.len,gm,ia,jF,Mh,Sc];rw[a];refine⟨fun ae=>⟨fun Q=>?_,fun Q=>?_⟩,fun af=>?_⟩
 .have v:∀ {d:Nat},d<4->(q.h 82).cell (q.i 82).toNat (((64*k:Nat):Int)+4*(n:Int)+(d:Int)).toNat=some (.int .u8 (B.getD (4*n+d) 0)):=fun {d} hd=>by
   rw[show(((64*k:Nat):Int)+4*(n:Int)+(d:Int)).toNat=64*k+(4*n+d)by omega,hB.get ah];refine hB.cell _ _ ?_;rw[abv,aad ah];rfl
  have w0:IntKind.i64.wrap (q.i 100+IntKind.i64.wrap (4*(n:Int)))=((64*k:Nat):Int)+4*(n:Int):=by rw[f100,wrap_i64 (n:=4*(n:Int)) ah ah,wrap_i64 ah ah]
  have w1:∀ d:Nat,d<4->IntKind.i64.wrap (((64*k:Nat):Int)+4*(n:Int)+(d:Int))=((64*k:Nat):Int)+4*(n:Int)+(d:Int):=fun d hd=>wrap_i64 ah ah;have c0:=v (d:=0) ah;rw[show((64*k:Nat):Int)+4*(n:Int)+((0:Nat):Int)=((64*k:Nat):Int)+4*(n:Int)by omega]at c0;have c1:(q.h 82).cell (q.i 82).toNat (((64*k:Nat):Int)+4*(n:Int)+1).toNat=some (.int .u8 (B.getD (4*n+1) 0)):=v (d:=1) ah;have c2:(q.h 82).cell (q.i 82).toNat (((64*k:Nat):Int)+4*(n:Int)+2).toNat=some (.int .u8 (B.getD (4*n+2) 0)):=v (d:=2) ah;have c3:(q.h 82).cell (q.i 82).toNat (((64*k:Nat):Int)+4*(n:Int)+3).toNat=some (.int .u8 (B.getD (4*n+3) 0)):=v (d:=3) ah;have x1:IntKind.i64.wrap (((64*k:Nat):Int)+4*(n:Int)+1)=((64*k:Nat):Int)+4*(n:Int)+1:=w1 1 ah;have R:IntKind.i64.wrap (((64*k:Nat):Int)+4*(n:Int)+2)=((64*k:Nat):Int)+4*(n:Int)+2:=w1 2 ah;have x3:IntKind.i64.wrap (((64*k:Nat):Int)+4*(n:Int)+3)=((64*k:Nat):Int)+4*(n:Int)+3:=w1 3 ah;have N:∀ j,j<64->0<=B.getD j 0/\B.getD j 0<256:=fun j T=>by
   rw[abv,aad ah,afb];exact hB.bb _ (acK _)
  rw[w0,x1,R,x3,c0,c1,c2,c3,hB.e51];refine⟨hB.x82,ah,ah,rfl,ah,ah,rfl,ah,ah,rfl,ah,ah,rfl,hB.p120,ah,⟨hB.p120,ah,?_⟩,fun f g r=>?_⟩
  .rw[e,aac];exact My ah
  have r:f.h 140=(wH (q.i 120).toNat l 175).put (q.i 120).toNat n [Value.int .u32 (dL (dL (dL (dL (dL (B.getD (4*n) 0)*16777216)+dL (dL (B.getD (4*n+1) 0)*65536))+dL (dL (B.getD (4*n+2) 0)*256))+dL (B.getD (4*n+3) 0)))]:=by
   rw[r,e,aac];rfl
  rw[OM _ _ _ _ (N _ ah) (N _ ah) (N _ ah) (N _ ah),Fj ah]at r;have D:IntKind.i64.wrap (f.i 130+1)=((n+1:Nat):Int):=by rw[g.i 130,a,wrap_i64 ah ah];rfl
  refine⟨⟨n+1,l.set n (Io B n),D,ah,?_,?_⟩,?_⟩
  .show ME (((gM bs).drop (f.i 100).toNat).take 64) _ _;rw[fold f g.mono];exact C.set ah (by rw[ab9 ah])
  .show f.h 140=wH (f.i 120).toNat _ _;rw[r,g.i 120];rfl
  .rw[m1,a];show(64-IntKind.i64.wrap (f.i 130+1)).toNat<_;rw[D];omega
 .have rd:∀ {q':Env},ai 140 q q'->∀ d:Nat,1<=d->d<=16->(q'.h 131).cell (q'.i 120).toNat ((n:Int)-d).toNat=some (.int .u32 ((aP B n).getD (n-d) 0)):=fun {q'} hg d h1 h2=>by
   rw[hg.h 131,hg.i 120,e,show((n:Int)-d).toNat=n-d by omega];exact DF (C.get ah ah)
  have ok:∀ d:Nat,1<=d->d<=16->okW ((aP B n).getD (n-d) 0):=fun d h1 h2=>HU _ _ ah;have wd:∀ {q':Env},ai 140 q q'->∀ d:Nat,1<=d->d<=16->IntKind.i64.wrap (q'.i 130-d)=(n:Int)-d:=fun hg d h1 h2=>by rw[hg.i 130,a,wrap_i64 ah ah]
  have y:∀ {q':Env},ai 140 q q'->IntKind.i64.wrap (q'.i 130-15)=(n:Int)-15:=fun hg=>wd hg 15 ah ah;have w2:∀ {q':Env},ai 140 q q'->IntKind.i64.wrap (q'.i 130-2)=(n:Int)-2:=fun hg=>wd hg 2 ah ah;have U:∀ {q':Env},ai 140 q q'->IntKind.i64.wrap (q'.i 130-16)=(n:Int)-16:=fun hg=>wd hg 16 ah ah;have w7:∀ {q':Env},ai 140 q q'->IntKind.i64.wrap (q'.i 130-7)=(n:Int)-7:=fun hg=>wd hg 7 ah ah;have z:∀ {q':Env},ai 140 q q'->(q'.h 131).cell (q'.i 120).toNat ((n:Int)-15).toNat=some (.int .u32 ((aP B n).getD (n-15) 0)):=fun hg=>rd hg 15 ah ah;have r2:∀ {q':Env},ai 140 q q'->(q'.h 131).cell (q'.i 120).toNat ((n:Int)-2).toNat=some (.int .u32 ((aP B n).getD (n-2) 0)):=fun hg=>rd hg 2 ah ah;have V:∀ {q':Env},ai 140 q q'->(q'.h 131).cell (q'.i 120).toNat ((n:Int)-16).toNat=some (.int .u32 ((aP B n).getD (n-16) 0)):=fun hg=>rd hg 16 ah ah;have r7:∀ {q':Env},ai 140 q q'->(q'.h 131).cell (q'.i 120).toNat ((n:Int)-7).toNat=some (.int .u32 ((aP B n).getD (n-7) 0)):=fun hg=>rd hg 7 ah ah;have F:=y (ai.refl 140 q);rw[a]at F;rw[F,z (ai.refl _ _)];refine⟨hB.p120,ah,ah,rfl,iI (ok 15 ah ah) ah ah,fun q6 W ⟨_,p6,_,_⟩=>?_⟩;rw[y W,z W];refine⟨iI (ok 15 ah ah) ah ah,fun q7 g7 ⟨_,p7,_,_⟩=>?_⟩;have Y:ai 140 q q7:=W.tr g7;rw[w2 Y,r2 Y];refine⟨ah,ah,rfl,iI (ok 2 ah ah) ah ah,fun q8 Z ⟨_,p8,_,_⟩=>?_⟩;have G8:ai 140 q q8:=Y.tr Z;rw[w2 G8,r2 G8];refine⟨iI (ok 2 ah ah) ah ah,fun c O ⟨_,p9,_,_⟩=>?_⟩;have u:ai 140 q c:=G8.tr O;have G:c.i 140=bC 7 ((aP B n).getD (n-15) 0):=by rw[O.i 140,Z.i 140,g7.i 140];exact gE (m:=7) rfl p6
  have H:c.i 141=bC 18 ((aP B n).getD (n-15) 0):=by rw[O.i 141,Z.i 141];exact gE (m:=18) rfl p7
  have I:c.i 142=bC 17 ((aP B n).getD (n-2) 0):=by rw[O.i 142];exact gE (m:=17) rfl p8
  have J:c.i 143=bC 19 ((aP B n).getD (n-2) 0):=gE (m:=19) rfl p9;have x1:aw c (E.bits BinOp.xor IntKind.u32 (E.bits BinOp.xor IntKind.u32 (E.var 140) (E.var 141)) (E.wrap IntKind.u32 ((E.hI 131 (E.var 120) (E.wrap IntKind.i64 ((E.var 130).sub (E.lit 15))) 0).quo (E.lit 8))))=loS ((aP B n).getD (n-15) 0):=by
   show me (c.i 140) (c.i 141) (IntKind.u32.wrap ((bO ((c.h 131).cell (c.i 120).toNat ((IntKind.i64.wrap (c.i 130-15)).toNat))).tdiv 8))=_;rw[y u,z u,show bO (some (Value.int .u32 ((aP B n).getD (n-15) 0)))=(aP B n).getD (n-15) 0 from rfl,V0 (ok 15 ah ah) ah,G,H];rfl
  have R:aw c (E.bits BinOp.xor IntKind.u32 (E.bits BinOp.xor IntKind.u32 (E.var 142) (E.var 143)) (E.wrap IntKind.u32 ((E.hI 131 (E.var 120) (E.wrap IntKind.i64 ((E.var 130).sub (E.lit 2))) 0).quo (E.lit 1024))))=Zd ((aP B n).getD (n-2) 0):=by
   show me (c.i 142) (c.i 143) (IntKind.u32.wrap ((bO ((c.h 131).cell (c.i 120).toNat ((IntKind.i64.wrap (c.i 130-2)).toNat))).tdiv 1024))=_;rw[w2 u,r2 u,show bO (some (Value.int .u32 ((aP B n).getD (n-2) 0)))=(aP B n).getD (n-2) 0 from rfl,V0 (ok 2 ah ah) ah,I,J];rfl
  have w:c.i 130=n:=by rw[u.i 130,a]
  have x:c.i 120=q.i 120:=u.i 120;have aa:c.h 131=wH (q.i 120).toNat l 175:=by rw[u.h 131,e]
  rw[U u,w7 u,V u,r7 u,x1,R,w,x,aac,aa];refine⟨ah,ah,rfl,ah,ah,rfl,⟨hB.p120,ah,My ah⟩,fun o A t=>?_⟩;have t:o.h 144=(wH (q.i 120).toNat l 175).put (q.i 120).toNat n [Value.int .u32 (DG (aP B n) n)]:=t;rw[Fj ah]at t;have D:IntKind.i64.wrap (o.i 130+1)=((n+1:Nat):Int):=by rw[A.i 130,w,wrap_i64 ah ah];rfl
  have ab:ai 140 q o:=u.tr A;refine⟨⟨n+1,l.set n (DG (aP B n) n),D,ah,?_,?_⟩,?_⟩
  .show ME (((gM bs).drop (o.i 100).toNat).take 64) _ _;rw[fold o ab.mono];exact C.set ah (by rw[aa8 ah])
  .show o.h 144=wH (o.i 120).toNat _ _;rw[t,A.i 120,x]
  .rw[m1,a];show(64-IntKind.i64.wrap (o.i 130+1)).toNat<_;rw[D];omega
 .have en:n=64:=ah;subst en;have el:=C.all;refine⟨⟨0,rfl,ah,fun j T=>?_⟩,fun f g ⟨n',K,ad,L⟩=>?_⟩
  .show _=cY (oV dm (gM bs) ((q.i 100).toNat/64)) (aP (((gM bs).drop (q.i 100).toNat).take 64) 64) 0 j;rw[f100,aac,show 64*k/64=k by omega,<-hB.p];show _=oV dm P k j;rw[<-hB.s j T]
   match j,T with
   | 0,_=>rfl
   | 1,_=>rfl
   | 2,_=>rfl
   | 3,_=>rfl
   | 4,_=>rfl
   | 5,_=>rfl
   | 6,_=>rfl
   | 7,_=>rfl
  .have M:=hB.mono g ah;refine Ok M (S:=aP B 64) rfl ?_ K ad ?_ ?_ rfl
   .rw[g.h 131,e,g.i 120,el]
   .rw[M.e100,aac,show 64*k/64=k by omega,<-hB.p,<-hB.b]at L;exact L
   .show ms 0=_;rw[m0,g.i 100]
def bH (b:Nat) (l:List Int) (T:TypeId):Hl:=Hl.one b (.cells (aS l).toArray T (0,0))
def Ww (h:y<l.length) (z:Int):(bH b l T).put b y [Value.int .u8 z]=bH b (l.set y z) T:=by
 unfold bH aS;rw[Hl.zF]
 congr 2
 apply ach;apply ack;intro j;rw[Sx.uP (by simp;omega),agX]
 grind
def ZD (h:y<l.length):(bH b l T).wr b y 1=true:=Hl.JH _ _ _ _ _ (by simp [aS];omega)
def Td (b:Nat) (l:List Int) (T:TypeId) (j:Nat):(bH b l T).cell b j=(l[j]?).map (Value.int .u8):=by
 unfold bH aS;rw[Hl.mP,aec,abl]
def Sp (bs:List Int) (h:j<32):(jq bs).getD j 0=E5 bs (j/4)/2 ^ (24-8*(j%4))%256:=by
 unfold jq
 grind
def Sq (hx:okW x) (hs:s<=24):IntKind.u8.wrap (x.fdiv (2 ^ (min ((s:Int)).toNat IntKind.u32.bits)))=x/2 ^ s%256:=by
 unfold okW at hx;have e:min ((s:Nat):Int).toNat IntKind.u32.bits=s:=by show min _ 32=_;omega
 have a:(0:Int)<=2 ^ s:=Int.le_of_lt (Int.pow_pos az);rw[e,aed _ a];exact Wc _
def Oj (m:xs=[u]) (o:Rs=[R,RG]) (B:fE R u bs) (p:0<=q.i 84) (p120:0<=q.i 120) (a:q.i 200=n) (hn:n<=32) (hl:l.length=32) (s:∀ j,j<n->l[j]?=some ((jq bs).getD j 0)) (b:q.h 201=bH (q.i 120).toNat l 31) (c:q.h 202=wH (q.i 84).toNat (s8 (E5 bs)) 174) (C:ms 0=(32-q.i 200).toNat):Mf.holds (rsC bs xs Rs) ms q:=by
 show Nd.holds ⟨Mh,Dq bs,Oi bs,postOf kV xs [] Rs⟩ ms q Mf;unfold Mf;simp only[Nd.holds,X.pre,X.rel,X.n,Src.ok,Src.len,Src.iX,acu,abw,afm,afB,acJ,Nat.reduceAdd,acn,acO,tH,tE,kc,lh,jv,tG,nR,nu,nq,ik,nN,nS,tF,nP,nO,ke,nQ,aq,ar,bP,dZ,cN,bL,dY,fi,fC,fT,jJ,gy,iP,fW,TV.ev,SV.ev,CV.ev,abW,acI,bo.hl,jO,Cp.sv,Ck.cv,bQ,Cp.len,Ck.len,gm,ia,jF,Mh,Sc];rw[a];refine⟨fun D=>?_,fun F=>?_⟩
 .have f:n<32:=ah;have t:IntKind.i64.wrap (aw q ((E.var 200).quo (E.lit 4)))=((n/4:Nat):Int):=by
   show IntKind.i64.wrap ((q.i 200).tdiv 4)=_;rw[a,afn ah,wrap_i64 ah ah];omega
  have wr:aw q ((E.var 200).rem (E.lit 4))=((n%4:Nat):Int):=by
   show(q.i 200).tmod 4=_;rw[a,acT ah];omega
  have ws:IntKind.u32.wrap (IntKind.i64.wrap (24-IntKind.i64.wrap (8*((n%4:Nat):Int))))=((24-8*(n%4):Nat):Int):=by
   rw[wrap_i64 (n:=8*((n%4:Nat):Int)) ah ah,wrap_i64 ah ah];have:=sg (x:=24-8*((n%4:Nat):Int)) ⟨ah,ah⟩;unfold dL at this;rw[this];omega
  have r:okW (E5 bs (n/4)):=pY _ _ _ ah;have cv:(q.h 202).cell (q.i 84).toNat (((n/4:Nat):Int)).toNat=some (.int .u32 (E5 bs (n/4))):=by
   rw[c,aac];refine DF ?_;unfold s8;rw[abl,acf ah];rfl
  have G:IntKind.u8.wrap (aw q (E.shr IntKind.u32 (E.hI 202 (E.var 84) (E.wrap IntKind.i64 ((E.var 200).quo (E.lit 4))) 0) (E.wrap IntKind.u32 (E.wrap IntKind.i64 ((E.lit 24).sub (E.wrap IntKind.i64 ((E.lit 8).mul ((E.var 200).rem (E.lit 4)))))))))=(jq bs).getD n 0:=by
   show IntKind.u8.wrap ((bO ((q.h 202).cell (q.i 84).toNat ((IntKind.i64.wrap (aw q ((E.var 200).quo (E.lit 4)))).toNat))).fdiv (2 ^ (min (IntKind.u32.wrap (IntKind.i64.wrap (24-IntKind.i64.wrap (8*aw q ((E.var 200).rem (E.lit 4)))))).toNat IntKind.u32.bits)))=_;rw[t,wr,ws,cv,Sp bs f];exact Sq r ah
  rw[t,wr,ws,cv,G,b,aac];refine⟨p,ah,ah,rfl,ah,p120,ah,⟨p120,ah,ZD ah⟩,fun q1 k d=>?_⟩;rw[Ww ah]at d;have v:IntKind.i64.wrap (q1.i 200+1)=((n+1:Nat):Int):=by rw[k.i 200,a,wrap_i64 ah ah];rfl
  refine⟨⟨n+1,l.set n ((jq bs).getD n 0),v,ah,by rw[List.length_set];exact hl,fun j w=>?_,?_,?_⟩,?_⟩
  .rw[agA];by_cases e:n=j
   .subst e;rw[ab9 rfl,ab9 ah]
   .rw[aa8 e];exact s j ah
  .show q1.h 210=bH (q1.i 120).toNat _ _;rw[d,k.i 120]
  .show q1.h 202=wH (q1.i 84).toNat _ _;rw[k.h 202,k.i 84,c]
  .rw[C,a];show(32-IntKind.i64.wrap (q1.i 200+1)).toNat<_;rw[v];omega
 .have H:n=32:=ah;subst H;have hS:=gU bs;have el:l=jq bs:=by
   apply ack;intro j;by_cases w:j<32
   .rw[s j w,abv,aad ah];rfl
   .rw[abA ah,abA ah]
  have y:∀ j z,(jq bs)[j]?=some z->(q.h 201).cell (q.i 120).toNat (Int.toNat 0+j)=some (.int .u8 z):=fun j z hz=>by
   rw[b,el,Td,show Int.toNat 0+j=j from aco j,hz];rfl
  have ev:(aU 201 (E.var 120) (E.lit 0) 0 (List.replicate 32 (Kd.int .u8))).map (CV.ev q)=aS (jq bs):=jk 32 0 _ hS fun i z hz=>by
   show(q.h 201).cell (q.i 120).toNat (Int.toNat 0+(0+i))=_;rw[aco i];exact y i z hz
  obtain⟨g,_,_,I⟩:=cE (List.replicate 32 (Ck.int .u8)) 0 (aS (jq bs)) q (qh 32 _ hS);refine⟨p120,dd y (by rw[hS];decide),fun _=>⟨[],[],rfl,rfl,⟨g,?_,cf _ _ _ az,zzT⟩,fun u' bs' R' J h1 A h'=>?_⟩⟩
  .show Value.agg ((aU 201 (E.var 120) (E.lit 0) 0 (List.replicate 32 (Kd.int .u8))).map (CV.ev q)).toArray=Value.agg ((aj 0 (List.replicate 32 (Ck.int .u8))).map (CV.ev g)).toArray;rw[ev,I]
  .subst m o;simp only[aae,abw]at h1 A;subst h1;obtain⟨rfl,rfl⟩:=A;obtain rfl:=h'.uniq B;show Value.agg ((aU 201 (E.var 120) (E.lit 0) 0 (List.replicate 32 (Kd.int .u8))).map (CV.ev q)).toArray=_;rw[ev]
def Oh (B:xs=[u]) (C:Rs=[R,RG]) (I:fE R u bs) (hP:P=gM bs) (J:P.length%64=0) (hle:P.length<=1000000) (D:al P) (E:0<=q.i 84) (hK:yT (q.h 5) 0) (K:∀ j z,P[j]?=some z->(q.h 82).cell (q.i 82).toNat j=some (.int .u8 z)) (x82:0<=q.i 82) (e51:q.i 51+8=P.length) (e100:q.i 100=((64*k:Nat):Int)) (hk:64*k<=P.length) (H:KE q 110 (oV dm P k)) (L:ms 0=(P.length-q.i 100).toNat):Me.holds (rsC bs xs Rs) ms q:=by
 show Nd.holds ⟨Mh,Dq bs,Oi bs,postOf kV xs [] Rs⟩ ms q Me;unfold Me;simp only[Nd.holds,X.pre,X.rel,X.n,Src.ok,Src.len,Src.iX,acu,abw,afm,afB,acJ,Nat.reduceAdd,acn,acO,tH,tE,kc,lh,jv,tG,nR,nu,nq,ik,nN,nS,tF,nP,nO,ke,nQ,aq,ar,bP,dZ,cN,bL,dY,fi,fC,fT,jJ,gy,iP,fW,TV.ev,SV.ev,CV.ev,abW,acI,bo.hl,jO,Cp.sv,Ck.cv,bQ,Cp.len,Ck.len,gm,ia,jF,Mh,Sc];rw[e51,e100];refine⟨fun M=>?_,fun N=>?_⟩
 .have bJ:64*k+64<=P.length:=ah;intro F m p120 a b g;have c:ai 120 q a:=m.tr b;have o:0<=a.i 120:=by rw[b.i 120];exact p120
  have hB:tD bs P ((P.drop (64*k)).take 64) k a:=⟨hP,rfl,bJ,hle,fun z hz=>D z (afs (ady hz)),by rw[c.i 100];exact e100,H.mono c ah,o,by rw[c.h 5];exact hK,by rw[c.h 82,c.i 82];exact K,by rw[c.i 82];exact x82,by rw[c.i 51];exact e51⟩;refine⟨⟨0,List.replicate 64 0,rfl,ah,⟨aC,fun j O=>ah⟩,?_⟩,fun f d ⟨n,l,r,hn,A,s⟩=>?_⟩
  .show a.h 121=wH (a.i 120).toNat _ _;rw[g,b.i 120];rfl
  have p:=hB.mono d ah;rw[p.e100,aac,<-hP]at A;refine Ol p A s r hn ?_ rfl;show ms 0=_;rw[L,p.e100,e100]
 .intro F m p120 a b g f d t;have G:ai 120 q f:=m.trans (b.mono.tr d);have Q:k=P.length/64:=ah;refine⟨⟨0,List.replicate 32 0,rfl,ah,aC,fun j O=>ah,?_,?_⟩,fun S v ⟨n,l,w,hn,hl,A,x,y⟩=>?_⟩
  .show f.h 121=bH (f.i 120).toNat _ _;rw[d.h 121,g,d.i 120,b.i 120];rfl
  .show f.h 122=wH (f.i 84).toNat _ _;have e:(aj 110 (List.replicate 8 xY)).map (CV.ev a)=KC (s8 (E5 bs)):=by
    refine Oz ?_;have:=H.mono (m.tr b) ah;rw[Q,hP]at this;exact this
   rw[t,d.i 84];show Hl.one _ (.cells ((aj 110 (List.replicate 8 xY)).map (CV.ev a)).toArray _ (0,0))=_;rw[e];rfl
  .exact Oj B C I (by rw[v.i 84,G.i 84];exact E) (by rw[v.i 120,d.i 120,b.i 120];exact p120) w hn hl A x y rfl
end
def BS:kV.OK Tryz.prog:=by
 refine Spec.jN (Γ:=Mh) YM rfl ?_;rintro xs Rs ⟨u,bs,R,RG,rfl,rfl,Y,hb,hlen,hK⟩;obtain⟨x,y,c,rfl,hy,K⟩:=id Y;refine⟨abF,aM [x,y,bs.length,c] false [Hl.none,Hl.none,Hl.none,Hl.none,R,RG],
  Dq bs,Oi bs,?_,aT rfl rfl,rfl,?_⟩
 .show [Value.slice (au x y) ((bs.length:Int)).toNat ((c:Int)).toNat]=_;simp only[aac]
 .refine aD.lit (x:=Sd) ?_;generalize B:aM [x,y,bs.length,c] false [Hl.none,Hl.none,Hl.none,Hl.none,R,RG]=J;have V:∀ q:Env,ai 6 J q->q.i 0=x/\q.i 1=y/\q.i 2=bs.length/\q.i 3=c/\q.h 4=R/\q.h 5=RG:=fun q hg=>by
   rw[hg.i 0,hg.i 1,hg.i 2,hg.i 3,hg.h 4,hg.h 5,<-B];exact⟨rfl,rfl,rfl,rfl,rfl,rfl⟩
  clear B;unfold Sd;simp only[go_sem,Nat.reduceAdd,Mh,Sc,Xy];have t0:Int.toNat 0=0:=rfl;have JJ:aO Hl.none 5 1 (.slice (au (-1) 0) (Int.toNat 0) (Int.toNat 0)) (Int.toNat 0) []:=⟨rfl,Or.inl ⟨rfl,rfl⟩⟩;intro q1 g1 p6;have L:ai 6 J q1:=g1;obtain⟨v0,v1,v2,v3,w4,w5⟩:=V q1 L;have n:=xC (R:=R) (x:=x) (y:=y) (l:=(bs.length:Int)) rfl hy K;rw[v0,v1,v2,w4];refine⟨⟨⟨[],JJ⟩,aba _,by have:=n.1;simpa using this,by rw[t0,aac];unfold maxLen;omega,by rw[t0,aac];omega⟩,fun q2 Z ⟨r1,r2,r3,_⟩ aa M _=>?_⟩;have o2:=r3 [] JJ;rw[n.2,t0,aac,aco,adk]at o2;have a2:Acc 6 J q2 7 7 (.lit 0) 8 (.var 2) bs 900000:=⟨L.tr Z,by rw[aac];exact o2,(V q2 (L.tr Z)).2.2.1,hlen,r1,r2⟩;refine(a2.mv M).cv (b:=[128]) rfl rfl fun q3 g3 a3=>?_;refine⟨⟨0,ah,?_⟩,fun p g4 ⟨m,hm,a4⟩=>?_⟩
  .rw[agR,acD];exact⟨ai.refl _ _,a3.o,a3.l,acA a3.k ah,a3.x,a3.c⟩
  have C:(bs++[128]++List.replicate m 0).length=bs.length+1+m:=by rw[aaA,aaA,acz];rfl
  have e51:p.i 51=((bs.length+1+m:Nat):Int):=a4.l.trans (by rw[C]);have a4:Acc 6 J p 53 50 (.lit 0) 52 (.var 51) _ _:=⟨a3.G.tr g4,a4.o,a4.l,a4.k,a4.x,a4.c⟩;have N:(p.i 51).tmod 64=((bs.length+1+m)%64:Nat):=by rw[e51,acT ah];omega
  refine⟨ah,fun r=>?_,fun heq=>?_⟩
  .have r:(p.i 51).tmod 64≠56:=r;rw[N]at r;intro q5 H _;refine(a4.mv H).cv (b:=[0]) rfl rfl fun q6 g6 D=>?_;rw[abS,<-agN]at D;refine⟨⟨m+1,ah,ai.refl _ _,D.o,D.l,?_,D.x,D.c⟩,?_⟩
   .rw[aaA,aaA,acz];show bs.length+1+(m+1)<=_;omega
   .show((bs.length:Int)+100-(q6.i 51+1)).toNat<((bs.length:Int)+100-p.i 51).toNat;rw[g6.i 51,H.i 51,e51];omega
  .have heq:(p.i 51).tmod 64=56:=heq;rw[N]at heq;have em:m=(119-bs.length%64)%64:=ah;have hz:∀ {q:Env} (k:Nat) {s:Int},ai 6 J q->s=k->k<=63->[Value.int .u8 (IntKind.u8.wrap (aw q (E.shr .u64 (E.wrap .u64 ((E.wrap .u64 (E.var 2)).mul (E.lit 8))) (E.lit s))))]=aS [((8*bs.length/2 ^ k%256:Nat):Int)]:=fun {q} k s g e h=>ach (fun z=>[Value.int .u8 z]) (WA (by rw[(V q g).2.2.1,m9 (x:=(bs.length:Int)) ah ah,m9 ah ah];omega) ah e h);refine⟨by rw[(V p a4.G).2.2.1];omega,?_⟩;intro q5 H _;have c0:=a4.mv H;refine c0.cv (hz 56 c0.G rfl ah) rfl fun q g d q' a _=>?_;have c1:=(d.mv a).ce ((E.var 51).add (.lit 1));refine c1.cv (hz 48 c1.G rfl ah) rfl fun q g d q' a _=>?_;have c2:=(d.mv a).ce ((E.var 51).add (.lit 2));refine c2.cv (hz 40 c2.G rfl ah) rfl fun q g d q' a _=>?_;have c3:=(d.mv a).ce ((E.var 51).add (.lit 3));refine c3.cv (hz 32 c3.G rfl ah) rfl fun q g d q' a _=>?_;have c4:=(d.mv a).ce ((E.var 51).add (.lit 4));refine c4.cv (hz 24 c4.G rfl ah) rfl fun q g d q' a _=>?_;have c5:=(d.mv a).ce ((E.var 51).add (.lit 5));refine c5.cv (hz 16 c5.G rfl ah) rfl fun q g d q' a _=>?_;have c6:=(d.mv a).ce ((E.var 51).add (.lit 6));refine c6.cv (hz 8 c6.G rfl ah) rfl fun q g d q' a _=>?_;have c7:=(d.mv a).ce ((E.var 51).add (.lit 7));refine c7.cv (hz 0 c7.G rfl ah) rfl fun q g d=>?_;have d:=d.ce ((E.var 51).add (.lit 8));have d:=d.as (B':=gM bs) (by unfold gM;rw[<-em];simp only[abS];rfl);obtain⟨P,hP⟩:∃ P,P=gM bs:=⟨_,rfl⟩;have O:al P:=by rw[hP];exact BC hb
   have t:=yv bs;rw[<-hP]at d t;clear C N;intro v Q S;have I:=d.mv Q;have T:=I.G;have dx:=I.x;have eL:=I.l;have F:0<=v.i 82/\∀ j z,P[j]?=some z->(v.h 82).cell (v.i 82).toNat j=some (.int .u8 z):=by
    obtain⟨x1,y1,c1,e,U,h⟩:=I.o.rd.w;simp only[Value.slice.injEq]at e;rcases h with h | ⟨h0,hc⟩
    .exfalso;have:=t.1;rw[h]at this;simp only[acO]at this;omega
    .obtain⟨rfl,W⟩:=ma dx (aba 0) ah U e.1;obtain rfl:=W h0;refine⟨h0,fun j z hz=>?_⟩;have:=hc j z hz;rw[show Int.toNat 0+j=j from aco j]at this;exact this
   refine⟨⟨0,rfl,acP _,fun j hj=>?_⟩,fun A f ⟨k,e100,hk,h8⟩=>?_⟩
   .match j,hj with
    | 0,_=>rfl
    | 1,_=>rfl
    | 2,_=>rfl
    | 3,_=>rfl
    | 4,_=>rfl
    | 5,_=>rfl
    | 6,_=>rfl
    | 7,_=>rfl
   have X:ai 6 J A:=T.tr f;rw[<-hP]at hk h8;exact Oh rfl rfl Y hP t.2 ah O (by rw[f.i 84];exact S) (by rw[(V A X).2.2.2.2.2];exact hK) (by rw[f.h 82,f.i 82];exact F.2) (by rw[f.i 82];exact F.1) (by rw[f.i 51];exact eL) e100 hk h8 (by show((gM bs).length-A.i 100).toNat=_;rw[hP])
end Go.Proofs.YtbdikjnpbnobcaaGreatDoor
namespace Go.Proofs.YtbdikjnpbnobcaaGreatDoor
open Go Go.Sx Go.Pk Go.RowKit
variable {X e:E}{J q q2:Env}{F R:Hl}{x y:Int}{T:List (List Int)}{Hs K Rs:List Hl}{a b bs l t xs ys:List Int}{b' c c' h i n n' o o':Nat}{P:Program}{u v:Value}{w:World}
def tr8{q:Prop}(h:q):True/\True/\True/\True/\True/\True/\True/\True/\q:=⟨zzT,zzT,zzT,zzT,zzT,zzT,zzT,zzT,h⟩
def lex:List Int->List Int->Int
 | x::xs,y::ys=>if x<y then -1 else if y<x then 1 else lex xs ys
 | _,_=>0
def nj (T:List (List Int)):Prop:=∀ i,i+1<T.length->lex (T.getD i []) (T.getD (i+1) [])<0
def si (w:World) (b o:Nat) (xs:List Int):Prop:=∀ i x,xs[i]?=some x->w.cell? ⟨b,o+i,none⟩=some (.int .u8 x)
def yD {b:Nat} (h:si w b o xs) (hn:xs.length=n):(Extern.Bytes.bytesOf (.slice (some ⟨b,o,none⟩) n c)).run P w=.ok ⟨(Lib.bytesOf xs).toArray⟩ w:=by
 have hl:=Lib.run_loadBytesX (P:=P) w xs ⟨b,o,none⟩ .empty (fun j x a=>by
  have e:(⟨b,o,none⟩:Addr).add j=⟨b,o+j,none⟩:=by unfold Addr.add;grind
  rw[e,h j x a])
 rw[hn]at hl;simp only[Extern.Bytes.bytesOf,hl];simp_all
def KO (xs ys:List Int):Int:=Lib.compareBytes (Lib.bytesOf xs) (Lib.bytesOf ys)
def Cx {b:Nat} (h:si w b o xs) (hn:xs.length=n) (h':si w b' o' ys) (a:ys.length=n') :
 (Extern.BytealgCompare.compare #[.slice (some ⟨b,o,none⟩) n c,.slice (some ⟨b',o',none⟩) n' c']).run P w=.ok (.int .i64 (KO xs ys)) w:=by
 change Sem.run P (do pure (goInt (Extern.BytealgCompare.cmp (<-Extern.Bytes.bytesOf (.slice (some ⟨b,o,none⟩) n c)) (<-Extern.Bytes.bytesOf (.slice (some ⟨b',o',none⟩) n' c'))))) w=_;simp only[Sem.run_bind,yD h hn,yD h' a,Result.andThen_ok,Sem.run_pure,Lib.cmp_eq];rfl
set_option maxRecDepth 20000 in
def DZ {b:Nat} (h:si w b o xs) (hn:xs.length=n) (h':si w b' o' ys) (a:ys.length=n') :
 Calls Tryz.prog 191 #[.slice (some ⟨b,o,none⟩) n c,.slice (some ⟨b',o',none⟩) n' c'] w fun e w'=>e=.returned (.int .i64 (KO xs ys))/\Below w.heap.size w w':=by
 go_enter Tryz.func191,Tryz.ntmps191
 go_wp2
 rw[run_callFunc_extern Tryz.func199 zzK zzK zzK (e:=Extern.BytealgCompare.compare) zzK,Cx h hn h' a];simp only[Result.andThen];rw[Oper.upon_value]
 go_wp2
 go_ret
 exact⟨rfl,Below.refl _ _⟩
def Wa (hx:0<=x/\x<256) (hy:0<=y/\y<256):(UInt8.ofNat x.toNat<UInt8.ofNat y.toNat)=(x<y):=by
 rw[UInt8.lt_iff_toNat_lt,agB (by simp;omega),agB (by simp;omega)]
 grind
def KP:∀ (xs ys:List Int),xs.length=ys.length->al xs->al ys->KO xs ys=lex xs ys
 | [],[],_,_,_=>rfl
 | x::xs,y::ys,h,hx,hy=>by
  have ih:=KP xs ys (by simpa using h) (fun z hz=>hx z (by simp [hz])) (fun z hz=>hy z (by simp [hz]));unfold KO Lib.bytesOf at ih ⊢;simp only[abW,Lib.compareBytes,lex,Wa (hx x aC) (hy y aC),Wa (hy y aC) (hx x aC),ih]
 | [],_::_,h,_,_=>by simp at h
 | _::_,[],h,_,_=>by simp at h
def qp:Sx.Spec where
 fn:=191
 own:=[]
 rd:=[0,1]
 res:=[.one (.int .i64)]
 pre:=fun xs Hs Rs=>∃ u v a b R1 R2,xs=[u,v]/\Rs=[R1,R2]/\pz R1 u a/\pz R2 v b/\a≠[]/\a.length=b.length/\al a/\al b
 post:=fun xs Hs Rs w Hs' F=>∃ u v a b R1 R2,xs=[u,v]/\Rs=[R1,R2]/\pz R1 u a/\pz R2 v b/\w=.int .i64 (lex a b)
def Vx (hs:R.sub w) (h:∀ j z,bs[j]?=some z->R.cell x.toNat (y.toNat+j)=some (.int .u8 z)):si w x.toNat y.toNat bs:=fun j z hz=>Hl.gW hs (h j z hz)
def Ca:qp.OK Tryz.prog:=by
 refine pK rfl fun w xs Rs hs ⟨u,v,a,b,R1,R2,e1,k,h1,j,l,hl,f,g⟩=>?_;subst e1 k;obtain⟨x,y,c,rfl,hy,d⟩:=id h1;obtain⟨x',y',c',rfl,m,e⟩:=id j;rcases d with ⟨_,h⟩ | ⟨hx,d⟩
 .grind
 rcases e with ⟨_,h⟩ | ⟨i,e⟩
 .grind
 refine⟨.int .i64 (lex a b),⟨(ba fun _=>lex a b),rfl,zzT,zzT⟩,?_,_,_,a,b,R1,R2,rfl,rfl,h1,j,rfl⟩;rw[av hx,av i,<-KP a b hl f g];exact DZ (Vx (hs R1 aC) d) rfl (Vx (hs R2 aC) e) rfl
def tk:List Ck:=List.replicate 16 (.int .u8)
def qm:List Kd:=List.replicate 16 (.int .u8)
def tA (v:Value):List Int:=match v with
 | .agg a=>a.toList.map fun v=>bO (some v)
 | _=>[]
def ab0 (xs:List Value):Prop:=∀ v∈xs,al (tA v)
def VB (xs:List Value):Value:=match xs with
 | [a,b]=>.int .i64 (lex (tA a) (tA b))
 | _=>.int .i64 0
def VN (xs:List Value):Value:=match xs with
 | [a,b]=>.bool (decide (lex (tA a) (tA b)<0))
 | _=>.bool false
def KQ:Sx.Spec:=rG 173 [.agg tk,.agg tk] [.one (.int .i64)] ab0 VB
def Lr:Sx.Spec:=rG 103 [.agg tk,.agg tk] [.one .bool] (fun _=>True) VN
def aaa:aD Tryz.prog [qp] 173 where
 Λ:=aA
 args:=(bQ 0 [.agg tk,.agg tk]).map .sv
 mem:=[]
 nv:=32
def lE (q:Env) (n:Nat):List Int:=(List.range 16).map fun j=>q.i (n+j)
def Kv (q:Env):vO [.agg tk,.agg tk] q=[.agg ((lE q 0).map (Value.int .u8)).toArray,.agg ((lE q 16).map (Value.int .u8)).toArray]:=rfl
def pq (l:List Int):tA (.agg (l.map (Value.int .u8)).toArray)=l:=by
 show((l.map (Value.int .u8)).toArray.toList).map _=l;rw[adv];exact List.map_id'' (fun _=>rfl) l
def sY (z:Int):sX [.one (.int .i64)] (.int .i64 z):=⟨(ba fun _=>z),rfl,zzT,zzT⟩
def qj (b:Bool):sX [.one .bool] (.bool b):=⟨⟨fun _=>0,fun _=>b,fun _=>.empty,fun _=>.tuple #[],fun _=>Hl.none⟩,rfl,zzT,zzT⟩
def zH {T:TypeId} {a:Nat} (h0:0<=q.i a) {cs:List CV} (b:∀ j z,l[j]?=some z->(cs.map (CV.ev q))[o+j]?=some (.int .u8 z)) (hn:n=l.length) {c:Int} : pz ((bo.bc a cs T).hl q) (.slice (au (q.i a) (o:Int)) ((n:Int)).toNat c.toNat) l:=by
 subst hn;refine⟨q.i a,o,c.toNat,by grind,ah,Or.inr ⟨h0,fun j z hz=>?_⟩⟩;show(Hl.one (q.i a).toNat (.cells (cs.map (CV.ev q)).toArray T (0,0))).cell (q.i a).toNat _=_;unfold Hl.cell;rw[Hl.aK,aac]
 grind
def kg0:[qp][0]?=some qp:=rfl
def kr0:qp.res=[.one (.int .i64)]:=rfl
def kc0:(aL 34 [Cp.one (.int .i64)]≠[])=False:=by trivial
def DC (g:ai 32 q q2) (hn:n+16<=32):(aj n tk).map (CV.ev q2)=(lE q n).map (Value.int .u8):=by
 show [Value.int .u8 (q2.i n),.int .u8 (q2.i (n+1)),.int .u8 (q2.i (n+2)),.int .u8 (q2.i (n+3)),.int .u8 (q2.i (n+4)),.int .u8 (q2.i (n+5)),.int .u8 (q2.i (n+6)),.int .u8 (q2.i (n+7)),.int .u8 (q2.i (n+8)),.int .u8 (q2.i (n+9)),.int .u8 (q2.i (n+10)),.int .u8 (q2.i (n+11)),.int .u8 (q2.i (n+12)),.int .u8 (q2.i (n+13)),.int .u8 (q2.i (n+14)),.int .u8 (q2.i (n+15))]=_;rw[g.i n,g.i (n+1),g.i (n+2),g.i (n+3),g.i (n+4),g.i (n+5),g.i (n+6),g.i (n+7),g.i (n+8),g.i (n+9),g.i (n+10),g.i (n+11),g.i (n+12),g.i (n+13),g.i (n+14),g.i (n+15)];rfl
def PE:KQ.OK Tryz.prog:=by
 refine ko (Γ:=[qp]) (fun t e=>by rw[aaQ]at e;subst e;exact Ca) aaa rfl rfl rfl (fun q _ _=>?_) (fun q p hN=>⟨fun _ _=>True,fun _ _=>0,?_⟩)
 .exact sY _
 .rw[Kv]at hN ⊢;have h1:al (lE q 0):=by
   have:=hN _ (acj ..);trivial
  have k:al (lE q 16):=by
   have:=hN _ (abq _ (acj ..));trivial
  have l:VB [.agg ((lE q 0).map (Value.int .u8)).toArray,.agg ((lE q 16).map (Value.int .u8)).toArray]=.int .i64 (lex (lE q 0) (lE q 16)):=by
   show Value.int .i64 (lex (tA _) (tA _))=_;trivial
  simp only[l];refine aD.read [] [] [] ?_;simp only[go_sem,Nat.reduceAdd,kg0,kr0,kc0];intro q1 m p1 q2 f p2;have g:ai 32 q q2:=m.tr f;have c1:∀ j z,(lE q 0)[j]?=some z->((aj 0 tk).map (CV.ev q2))[0+j]?=some (.int .u8 z):=by
   rw[DC g ah];intro j z hz;rw[aco,abl,hz];rfl
  have c2:∀ j z,(lE q 16)[j]?=some z->((aj 16 tk).map (CV.ev q2))[0+j]?=some (.int .u8 z):=by
   rw[DC g ah];intro j z hz;rw[aco,abl,hz];rfl
  have d:0<=q2.i 32:=by rw[f.i 32];exact p1
  have r1:=zH (T:=34) (n:=16) (c:=16) d c1 rfl;have r2:=zH (T:=34) (n:=16) (c:=16) p2 c2 rfl;refine⟨⟨_,_,lE q 0,lE q 16,_,_,rfl,rfl,r1,r2,(by simp [lE]),rfl,h1,k⟩,fun r g3 ⟨F,⟨u,v,a,b,R1,R2,hx,h,o,hb,hv⟩,_⟩=>?_⟩;simp only[aae,abw]at hx h;obtain⟨rfl,rfl⟩:=hx;obtain⟨rfl,rfl⟩:=h;rw[<-o.uniq r1,<-hb.uniq r2];exact hv
def aa0:aD Tryz.prog [] 103 where
 Λ:=aA
 args:=(bQ 0 [.agg tk,.agg tk]).map .sv
 mem:=[]
 nv:=32
def XO {a b:Int} (h:¬a=b):decide (a<b)=decide (lex (a::xs) (b::ys)<0):=by
 unfold lex
 grind
def XN {a b:Int} (h:a=b):lex (a::xs) (b::ys)=lex xs ys:=by
 subst h;show(if a<a then _ else if a<a then _ else _)=_
 grind
def lO {a b:Int} {Y:Prop} (hu:u=.bool (decide (a<b))) (hv:v=.bool (decide (lex (a::xs) (b::ys)<0))) (h:v=.bool (decide (lex xs ys<0))->Y):(¬a=b->u=v)/\(a=b->Y) :=
 ⟨fun hn=>by rw[hu,hv,XO hn],fun he=>h (by rw[hv,XN he])⟩
def DB (q:Env) (n:Nat):lE q n=[q.i n,q.i (n+1),q.i (n+2),q.i (n+3),q.i (n+4),q.i (n+5),q.i (n+6),q.i (n+7),q.i (n+8),q.i (n+9),q.i (n+10),q.i (n+11),q.i (n+12),q.i (n+13),q.i (n+14),q.i (n+15)]:=rfl
def QE:Lr.OK Tryz.prog:=by
 refine ko (Γ:=[]) (fun t l=>by cases l) aa0 rfl rfl rfl (fun q _ _=>?_) (fun q A hN=>⟨fun _ _=>True,fun _ _=>0,?_⟩)
 .exact qj _
 .rw[Kv];have m:VN [.agg ((lE q 0).map (Value.int .u8)).toArray,.agg ((lE q 16).map (Value.int .u8)).toArray]=.bool (decide (lex (lE q 0) (lE q 16)<0)):=by
   show Value.bool (decide (lex (tA _) (tA _)<0))=_;trivial
  simp only[m];refine aD.read [] [] [] ?_;simp only[go_sem,Nat.reduceAdd];intro q1 o p1 q2 p p2;have g:ai 32 q q2:=o.tr p;have e:∀ n,n+16<=32->lE q n=lE q2 n:=fun n hn=>acL fun j B=>(g.i (n+j) (by grind)).symm;rw[e 0 ah,e 16 ah,DB,DB];generalize a:Value.bool (decide (lex _ _<0))=V;have a:=a.symm;exact lO rfl a fun h0=>lO rfl h0 fun h1=>lO rfl h1 fun r=>lO rfl r fun s=>lO rfl s fun u=>lO rfl u fun v=>lO rfl v fun w=>lO rfl w fun x=>lO rfl x fun y=>lO rfl y fun z=>lO rfl z fun b=>lO rfl b fun c=>lO rfl c fun d=>lO rfl d fun f=>lO rfl f fun h=>lO rfl h fun k=>(k.trans rfl).symm
def Fb (T:List (List Int)):Prop:=T.length<=1000000/\∀ t∈T,t.length=16/\al t
open Classical in
noncomputable def rZ (f:FuncId):Sx.Spec where
 fn:=f
 own:=[]
 rd:=[0]
 res:=[.one .bool]
 pre:=fun xs Hs Rs=>∃ u R T,xs=[u]/\Rs=[R]/\bd R u qm (T.map aS)/\Fb T
 post:=fun xs Hs Rs v Hs' F=>∃ u R T,xs=[u]/\Rs=[R]/\bd R u qm (T.map aS)/\v=.bool (decide (nj T))
def Kl:List Sx.Spec:=[qp,KQ,Lr]
def Mo:∀ t∈Kl,t.OK Tryz.prog:=ak Ca <| ak PE <| ak QE <| bu
def sr1:KQ.res=[.one (.int .i64)]:=rfl
def sr2:Lr.res=[.one .bool]:=rfl
def sc1 (n:Nat):(aL n [Cp.one (.int .i64)]≠[])=False:=by simp [aL,Cp.roots,Ck.root]
def U7 (n:Nat):(aL n [Cp.one .bool]≠[])=False:=by simp [aL,Cp.roots,Ck.root]
def Mn:List TV:=[.sv (.one (.sl (.var 0) (.var 1) (.var 2) (.var 3)))]
def XJ:aD Tryz.prog Kl 140 where
 Λ:=fun p=>if QI p then some ⟨0,[(3,TI .i64 (.var 10))],[],12⟩else none
 args:=Mn
 mem:=[.ro 4 [.var 0] false]
 nv:=5
def Yj:aD Tryz.prog Kl 47 where
 Λ:=fun p=>if QI p then some ⟨0,[(3,TI .i64 (.var 10))],[],12⟩else none
 args:=Mn
 mem:=[.ro 4 [.var 0] false]
 nv:=5
def V8 (f:a.length=16) (hb:b.length=16) (h1:al a) (d:al b):(∃ q,oF 0 [.agg tk,.agg tk] q/\[.agg (aS a).toArray,.agg (aS b).toArray]=vO [.agg tk,.agg tk] q)/\ab0 [.agg (aS a).toArray,.agg (aS b).toArray]:=by
 refine⟨⟨aM (a++b) false [],by trivial,?_⟩,?_⟩
 .rw[Kv];have e1:lE (aM (a++b) false []) 0=a:=by
   apply ack;intro j;unfold lE;rw[abl];by_cases c:j<16
   .rw[acf c,aad ah];show some ((a++b).getD (0+j) 0)=_
    grind
   .grind
  have e:lE (aM (a++b) false []) 16=b:=by
   apply ack;intro j;unfold lE;rw[abl];by_cases c:j<16
   .rw[acf c,aad ah];show some ((a++b).getD (16+j) 0)=_
    grind
   .grind
  rw[e1,e];rfl
 .intro v hv;simp only[aaW,abd,acs]at hv;rcases hv with rfl | rfl
  .show al (tA (.agg (a.map (Value.int .u8)).toArray));rw[pq];exact h1
  .show al (tA (.agg (b.map (Value.int .u8)).toArray));rw[pq];exact d
def Dn (h:t.length=16):aR (aS t) qm:=by
 match t,h with
 | [_,_,_,_,_,_,_,_,_,_,_,_,_,_,_,_],_=>trivial
def xI (hx:0<=x) (hy:0<=y) (c:∀ (i:Nat) row,(T.map aS)[i]?=some row->aR row qm/\∀ j u,row[j]?=some u->R.cell x.toNat (y.toNat+i*qm.length+j)=some u) (d:T[i]?=some t) (hl:t.length=16) (e:J.h h=R) {Y:E} (hX:aw J X=x) (hY:aw J Y=y+i*16) :
 bx R x.toNat (y+(i:Int)*16).toNat (Int.toNat 16)=true/\(aU h X Y 0 (List.replicate 16 (Kd.int .u8))).map (CV.ev J)=aS t:=by
 have h1:=(c i (aS t) (by grind)).2;have hlen:qm.length=16:=rfl;rw[hlen]at h1;have a:(y+(i:Int)*16).toNat=y.toNat+i*16:=ah;constructor
 .unfold bx;rw[acd];intro j b;have b:j<16:=acv.1 b;rw[a,h1 j (.int .u8 (t[j])) (by unfold aS;grind)];rfl
 .refine cD (aS t) _ 0 (Dn hl) fun j u hu=>?_
  grind
def MV (hp:KQ.post [.agg (aS a).toArray,.agg (aS b).toArray] Hs Rs v K F):v=.int .i64 (lex a b):=by
 have hp:v=.int .i64 (lex (tA (.agg (a.map (Value.int .u8)).toArray)) (tA (.agg (b.map (Value.int .u8)).toArray))):=hp;rw[pq,pq]at hp;exact hp
def Nt (hp:Lr.post [.agg (aS a).toArray,.agg (aS b).toArray] Hs Rs v K F):v=.bool (decide (lex a b<0)):=by
 have hp:v=.bool (decide (lex (tA (.agg (a.map (Value.int .u8)).toArray)) (tA (.agg (b.map (Value.int .u8)).toArray))<0)):=hp;rw[pq,pq]at hp;exact hp
open Classical in
def wG {f:FuncId} {b:Bool} (h:bd R (.slice (au x y) (T.map aS).length c) qm (T.map aS)) (hb:b=true↔nj T) (he:aY q e=b) {mem:Mem} : postOf (rZ f) [.slice (au x y) (T.map aS).length c] [] [R] q mem (.sv (.one (.bool e))):=by
 intro _;refine⟨[],[],rfl,rfl,⟨⟨fun _=>0,fun _=>b,fun _=>.empty,fun _=>.tuple #[],fun _=>Hl.none⟩,by show Value.bool (aY q e)=_;rw[he];rfl,zzT,zzT⟩,_,R,T,rfl,rfl,h,?_⟩;show Value.bool (aY q e)=_
 grind
def CU:(rZ 140).OK Tryz.prog:=by
 refine Spec.jN (Γ:=Kl) Mo rfl ?_;rintro xs Rs ⟨u,R,T,rfl,rfl,l,hT⟩;obtain⟨x,y,c,rfl,hy,a⟩:=id l;refine⟨XJ,aM [x,y,T.length,c] false [Hl.none,Hl.none,Hl.none,Hl.none,R],fun _ q=>∃ i:Nat,q.i 10=i/\1<=i/\i<=T.length+1/\∀ k,k+1<i->k+1<T.length->lex (T.getD k []) (T.getD (k+1) [])<0,fun _ q=>(T.length-q.i 10).toNat,?_,aT rfl rfl,rfl,?_⟩
 .rw[aca];trivial
 .refine aD.read [] [] [] ?_;generalize f:aM [x,y,T.length,c] false [Hl.none,Hl.none,Hl.none,Hl.none,R]=J;obtain⟨⟨v0,v1,v2,_⟩,_,_,_,_,m,_⟩:=jn f;clear f;simp only[go_sem,Nat.reduceAdd,Kl,sr1,sc1];refine⟨⟨1,rfl,ab8 _,ah,fun k h=>ah⟩,fun q g ⟨i,j,t,v,n⟩=>?_⟩;have w:=hT.1;rw[g.i 2,v2,j,g.i 0,v0,g.i 1,v1,g.h 4,m];have r:IntKind.i64.wrap ((i:Int)-1)=((i-1:Nat):Int):=by rw[IntWalk.i64_in _ ah];omega
  rw[r];refine⟨ah,fun h=>?_,fun h=>?_⟩
  .have o:i<T.length:=ah;rcases a with hn | ⟨hx,s⟩
   .grind
   have d:T[i-1]?=some (T[i-1]):=aad ah;have e:T[i]?=some (T[i]):=aad o;have m1:=hT.2 _ (aah d);have m2:=hT.2 _ (aah e);obtain⟨b1,r1⟩:=xI (J:=q) (h:=4) (X:=.var 0) (Y:=(E.var 1).add ((E.wrap IntKind.i64 ((E.var 10).sub (E.lit 1))).mul (E.lit 16))) hx hy s d m1.1 (by rw[g.h 4,m]) (by rw[ar,g.i 0,v0]) (by
    simp only[bP,cN,bL,dZ,ar,aq];rw[g.i 1,v1,j,r])
   obtain⟨b2,r2⟩:=xI (J:=q) (h:=4) (X:=.var 0) (Y:=(E.var 1).add ((E.var 10).mul (E.lit 16))) hx hy s e m2.1 (by rw[g.h 4,m]) (by rw[ar,g.i 0,v0]) (by
    simp only[bP,cN,ar,aq];rw[g.i 1,v1,j])
   rw[r1,r2];refine⟨hx,hy,ah,ah,b1,ah,b2,V8 m1.1 m2.1 m1.2 m2.2,fun q1 z ⟨F,hp,_⟩=>?_⟩;have hv:=MV hp;have hv:q1.i 12=lex T[i-1] T[i]:=by simpa using hv
   have d1:T.getD (i-1) []=T[i-1]:=by rw[abv,d];rfl
   have d2:T.getD (i-1+1) []=T[i]:=by rw[show i-1+1=i by omega,abv,e];rfl
   have p:IntKind.i64.wrap (q1.i 10+1)=((i+1:Nat):Int):=by rw[z.i 10,j,IntWalk.i64_in _ ah];omega
   rw[hv];refine⟨fun A=>wG (b:=false) l ⟨aC,fun hS=>?_⟩ rfl,fun hl=>⟨⟨i+1,p,ah,ah,fun k hk B=>?_⟩,?_⟩⟩
   .have:=hS (i-1) ah
    grind
   .grind
   .show((T.length:Int)-IntKind.i64.wrap (q1.i 10+1)).toNat<_
    grind
  .exact wG (b:=true) l ⟨fun _ k hk=>n k ah hk,fun _=>rfl⟩ rfl
def NZ:(rZ 47).OK Tryz.prog:=by
 refine Spec.jN (Γ:=Kl) Mo rfl ?_;rintro xs Rs ⟨u,R,T,rfl,rfl,l,hT⟩;obtain⟨x,y,c,rfl,hy,a⟩:=id l;refine⟨Yj,aM [x,y,T.length,c] false [Hl.none,Hl.none,Hl.none,Hl.none,R],fun _ q=>∃ i:Nat,q.i 10=i/\i<=T.length/\∀ k,k<i->k+1<T.length->lex (T.getD k []) (T.getD (k+1) [])<0,fun _ q=>(T.length-q.i 10).toNat,?_,aT rfl rfl,rfl,?_⟩
 .rw[aca];trivial
 .refine aD.read [] [] [] ?_;generalize f:aM [x,y,T.length,c] false [Hl.none,Hl.none,Hl.none,Hl.none,R]=J;obtain⟨⟨v0,v1,v2,_⟩,_,_,_,_,m,_⟩:=jn f;clear f;simp only[go_sem,Nat.reduceAdd,Kl,sr2,U7];refine⟨⟨0,rfl,ah,fun k h=>ah⟩,fun q g ⟨i,j,t,n⟩=>?_⟩;have v:=hT.1;rw[g.i 2,v2,j,g.i 0,v0,g.i 1,v1,g.h 4,m];have o:IntKind.i64.wrap ((i:Int)+1)=((i+1:Nat):Int):=by rw[IntWalk.i64_in _ ah];omega
  rw[o];refine⟨ah,fun h=>?_,fun h=>?_⟩
  .have p:i+1<T.length:=ah;rcases a with hn | ⟨hx,s⟩
   .grind
   have d:T[i]?=some (T[i]):=aad ah;have e:T[i+1]?=some (T[i+1]):=aad p;have m1:=hT.2 _ (aah d);have m2:=hT.2 _ (aah e);obtain⟨b1,r1⟩:=xI (J:=q) (h:=4) (X:=.var 0) (Y:=(E.var 1).add ((E.var 10).mul (E.lit 16))) hx hy s d m1.1 (by rw[g.h 4,m]) (by rw[ar,g.i 0,v0]) (by
    simp only[bP,cN,ar,aq];rw[g.i 1,v1,j])
   obtain⟨b2,r2⟩:=xI (J:=q) (h:=4) (X:=.var 0) (Y:=(E.var 1).add ((E.wrap IntKind.i64 ((E.var 10).add (E.lit 1))).mul (E.lit 16))) hx hy s e m2.1 (by rw[g.h 4,m]) (by rw[ar,g.i 0,v0]) (by
    simp only[bP,cN,bL,ar,aq];rw[g.i 1,v1,j,o])
   rw[r1,r2];refine⟨hx,hy,ah,ah,b1,ah,b2,⟨(V8 m1.1 m2.1 m1.2 m2.2).1,zzT⟩,fun q1 w ⟨F,hp,_⟩=>?_⟩;have hv:=Nt hp;have hv:q1.b 12=decide (lex T[i] T[i+1]<0):=by simpa [bn] using hv
   have d1:T.getD i []=T[i]:=by rw[abv,d];rfl
   have d2:T.getD (i+1) []=T[i+1]:=by rw[abv,e];rfl
   have r:IntKind.i64.wrap (q1.i 10+1)=((i+1:Nat):Int):=by rw[w.i 10,j,o]
   rw[hv,aas];refine⟨fun z=>wG (b:=false) l ⟨aC,fun hS=>?_⟩ rfl,fun hl=>⟨⟨i+1,r,ah,fun k hk A=>?_⟩,?_⟩⟩
   .have:=hS i ah
    grind
   .grind
   .show((T.length:Int)-IntKind.i64.wrap (q1.i 10+1)).toNat<_
    grind
  .exact wG (b:=true) l ⟨fun _ k hk=>n k ah hk,fun _=>rfl⟩ rfl
end Go.Proofs.YtbdikjnpbnobcaaGreatDoor
namespace Go.Proofs.YtbdikjnpbnobcaaGreatDoor
open Go Go.Sx Go.Pk
variable {q q1:Env}{f:FuncId}{F R R':Hl}{z:Int}{T:List (List Int)}{ks:List Kd}{row:List Value}{c k n:Nat}{u v:Value}
def i64:Ck:=.int .i64
def bJ:List Ck:=[i64,.int .u64]++List.replicate 32 (.int .u8)++[i64,.bool,.int .u64]++List.replicate 16 (.int .u8)++[.sl]++List.replicate 6 (.int .u64)++List.replicate 32 (.int .u8)++[i64]++List.replicate 32 (.int .u8)
def dz:List Kd:=bJ.map gY
def cI (l:List Value) (k:Nat):Int:=bO l[k]?
def cB (l:List Value) (k:Nat):Bool:=yX l[k]?
def iE (z:Int):Prop:=z=64\/z=128\/z=256\/z=512\/z=1024\/z=2048
instance (z:Int):Decidable (iE z):=by unfold iE;exact inferInstance
def MO (z:Int):Int:=if z<64 then 64 else if z<128 then 128 else if z<256 then 256 else if z<512 then 512 else if z<1024 then 1024 else if z<2048 then 2048 else 0
def lN (z:Int):Prop:= -9223372036854775808<=z/\z<9223372036854775808
def abj (xs:List Value):Value:=.bool (decide (iE (bO xs[0]?)))
def X6:Sx.Spec:=rG 141 [.one i64] [.one .bool] (fun xs=>lN (bO xs[0]?)) abj
def Vz (xs:List Value):Value:=.int .i64 (MO (bO xs[0]?))
def Po:Sx.Spec:=rG 102 [.one i64] [.one i64] (fun _=>True) Vz
def aeg:aD Tryz.prog [] 141 where
 Λ:=aA
 args:=(bQ 0 [.one i64]).map .sv
 mem:=[]
 nv:=1
def ZO:aD Tryz.prog [] 102 where
 Λ:=aA
 args:=(bQ 0 [.one i64]).map .sv
 mem:=[]
 nv:=1
def OO (h:lN z):IntKind.i64.wrap (z-1)=z-1\/IntKind.i64.wrap (z-1)=9223372036854775807/\z= -9223372036854775808:=by
 unfold lN at h;by_cases h1:z= -9223372036854775808
 .right;subst h1;exact⟨az,rfl⟩
 .left;exact IntWalk.i64_in _ ah
def vj {b:Bool} {p:Prop} {_:Decidable p} (h:b=true↔p):Value.bool b=.bool (decide p):=by
 congr 1
 rw[afP,aas];exact h
def Um:X6.OK Tryz.prog:=by
 refine ko (Γ:=[]) (fun t b=>by cases b) aeg rfl rfl rfl (fun q _ _=>qj _) (fun q d hN=>⟨fun _ _=>True,fun _ _=>0,?_⟩);have hN:lN (q.i 0):=hN;have c:abj (vO [.one i64] q)=.bool (decide (iE (q.i 0))):=rfl;simp only[c];refine aD.read [] [] [] ?_;simp only[go_sem,Nat.reduceAdd,dc,du];have hw:=OO hN;generalize IntKind.i64.wrap (q.i 0-1)=y at hw ⊢;have a:∀ {m:Int},(m=q.i 0↔iE (q.i 0))->Value.bool (aY q (.eq (.lit m) (.var 0)))=.bool (decide (iE (q.i 0))):=fun {m} h=>vj (by rw[ik,aq,ar];exact h);have ff:¬iE (q.i 0)->Value.bool false=.bool (decide (iE (q.i 0))):=fun h=>vj ⟨fun e=>(by cases e),fun e=>absurd e h⟩;unfold iE at a ff ⊢;exact⟨fun h=>ff ah,fun h0=>⟨fun h=>a ah,fun h1=>⟨fun h=>a ah,fun f=>⟨fun h=>a ah,fun g=>⟨fun h=>a ah,fun j=>⟨fun h=>a ah,fun k=>⟨fun h=>a ah,fun l=>ff ah⟩⟩⟩⟩⟩⟩⟩
def Pp:Po.OK Tryz.prog:=by
 refine ko (Γ:=[]) (fun t d=>by cases d) ZO rfl rfl rfl (fun q _ _=>sY _) (fun q j hN=>⟨fun _ _=>True,fun _ _=>0,?_⟩);have e:Vz (vO [.one i64] q)=.int .i64 (MO (q.i 0)):=rfl;simp only[e];refine aD.read [] [] [] ?_;simp only[go_sem,Nat.reduceAdd];intro q1 f _;rw[f.i 0];unfold MO;exact⟨fun h=>by rw[ab9 h],fun h0=>⟨fun h=>by rw[aa8 h0,ab9 h],fun h1=>⟨fun h=>by rw[aa8 h0,aa8 h1,ab9 h],fun a=>⟨fun h=>by rw[aa8 h0,aa8 h1,aa8 a,ab9 h],fun b=>⟨fun h=>by rw[aa8 h0,aa8 h1,aa8 a,aa8 b,ab9 h],fun c=>⟨fun h=>by rw[aa8 h0,aa8 h1,aa8 a,aa8 b,aa8 c,ab9 h],fun g=>by rw[aa8 h0,aa8 h1,aa8 a,aa8 b,aa8 c,aa8 g]⟩⟩⟩⟩⟩⟩
def tB (f:Nat->Int):Nat->Nat->Prop
 | _,0=>True
 | n,1=>f n=0
 | n,k+2=>f n=0/\tB f (n+1) (k+1)
def Fq {f:Nat->Int} : ∀ (k n:Nat),tB f n k↔∀ j,j<k->f (n+j)=0
 | 0,n=>⟨fun _ j h=>ah,fun _=>trivial⟩
 | 1,n=>⟨fun h j a=>(by cases j with
  | zero=>exact h
  | succ j=>omega),fun h=>h 0 ah⟩
 | k+2,n=>by
  show(f n=0/\tB f (n+1) (k+1))↔_;rw[Fq (k+1) (n+1)];constructor
  .rintro⟨h0,h⟩ j a;cases j with
   | zero=>exact h0
   | succ j=>have:=h j ah;rwa[show n+1+j=n+(j+1)by omega]at this
  .exact fun h=>⟨h 0 ah,fun j a=>by have:=h (j+1) ah;rwa[show n+(j+1)=n+1+j by omega]at this⟩
instance zerDec (f:Nat->Int):∀ (k n:Nat),Decidable (tB f n k)
 | 0,_=>isTrue trivial
 | 1,n=>(inferInstance:Decidable (f n=0))
 | k+2,n=>have:=zerDec f (k+1) (n+1);(inferInstance:Decidable (f n=0/\tB f (n+1) (k+1)))
def di (l:List Value):Prop:=(1<=cI l 0/\cI l 0<=6)/\(1<=cI l 1/\cI l 1<=1048576)/\(0<=cI l 34/\cI l 34<=255)/\cI l 36<=1099511627776/\cI l (54+(cI l 0-1).toNat)=cI l 1-1/\(cI l 54<=1048576/\cI l 55<=1048576/\cI l 56<=1048576/\cI l 57<=1048576/\cI l 58<=1048576/\cI l 59<=1048576)/\(1<cI l 1\/tB (cI l) 2 32)
instance (l:List Value):Decidable (di l):=by unfold di;exact inferInstance
def aeG (v:Value):List Value:=match v with
 | .agg a=>a.toList
 | _=>[]
def LQ (xs:List Value):Value:=.bool (decide (di (aeG (xs.getD 0 (.bool false)))))
def EK:Sx.Spec:=rG 139 [.agg bJ] [.one .bool] (fun _=>True) LQ
def Ut:aD Tryz.prog [] 139 where
 Λ:=aA
 args:=(bQ 0 [.agg bJ]).map .sv
 mem:=[]
 nv:=128
def aG (q:Env) (n:Nat):List Value:=(aj n bJ).map (CV.ev q)
def GA (q:Env) (h:1<=q.i 0/\q.i 0<=6):cI (aG q 0) (54+(q.i 0-1).toNat)=if q.i 0-1=0 then q.i 57 else if q.i 0-1=1 then q.i 58 else if q.i 0-1=2 then q.i 59 else if q.i 0-1=3 then q.i 60 else if q.i 0-1=4 then q.i 61 else q.i 62:=by
 have:q.i 0=1\/q.i 0=2\/q.i 0=3\/q.i 0=4\/q.i 0=5\/q.i 0=6:=ah;rcases this with e | e | e | e | e | e<;>rw[e]<;>rfl
def cy (g:ai 128 q q1):aG q1 0=aG q 0:=by
 have h:=fQ (n:=0) (ks:=bJ) g (adg zzK);exact ab1 (Value.agg.inj h)
def JQ:EK.OK Tryz.prog:=by
 refine ko (Γ:=[]) (fun t g=>by cases g) Ut rfl rfl rfl (fun q _ _=>qj _) (fun q k hN=>⟨fun _ _=>True,fun _ _=>0,?_⟩);have j:LQ (vO [.agg bJ] q)=.bool (decide (di (aG q 0))):=rfl;simp only[j];refine aD.read [] [] [] ?_;simp only[go_sem,Nat.reduceAdd,dc,du];intro q1 b _;rw[<-cy b];clear b;have c:di (aG q1 0)↔((1<=q1.i 0/\q1.i 0<=6)/\(1<=q1.i 1/\q1.i 1<=1048576)/\(0<=q1.i 34/\q1.i 34<=255)/\q1.i 36<=1099511627776/\cI (aG q1 0) (54+(q1.i 0-1).toNat)=q1.i 1-1/\(q1.i 57<=1048576/\q1.i 58<=1048576/\q1.i 59<=1048576/\q1.i 60<=1048576/\q1.i 61<=1048576/\q1.i 62<=1048576)/\(1<q1.i 1\/tB (cI (aG q1 0)) 2 32)):=agD;have eK:=GA q1;have d:aY q1 (.and (.eq (.var 2) (.lit 0)) (.and (.eq (.var 3) (.lit 0)) (.and (.eq (.var 4) (.lit 0)) (.and (.eq (.var 5) (.lit 0)) (.and (.eq (.var 6) (.lit 0)) (.and (.eq (.var 7) (.lit 0)) (.and (.eq (.var 8) (.lit 0)) (.and (.eq (.var 9) (.lit 0)) (.and (.eq (.var 10) (.lit 0)) (.and (.eq (.var 11) (.lit 0)) (.and (.eq (.var 12) (.lit 0)) (.and (.eq (.var 13) (.lit 0)) (.and (.eq (.var 14) (.lit 0)) (.and (.eq (.var 15) (.lit 0)) (.and (.eq (.var 16) (.lit 0)) (.and (.eq (.var 17) (.lit 0)) (.and (.eq (.var 18) (.lit 0)) (.and (.eq (.var 19) (.lit 0)) (.and (.eq (.var 20) (.lit 0)) (.and (.eq (.var 21) (.lit 0)) (.and (.eq (.var 22) (.lit 0)) (.and (.eq (.var 23) (.lit 0)) (.and (.eq (.var 24) (.lit 0)) (.and (.eq (.var 25) (.lit 0)) (.and (.eq (.var 26) (.lit 0)) (.and (.eq (.var 27) (.lit 0)) (.and (.eq (.var 28) (.lit 0)) (.and (.eq (.var 29) (.lit 0)) (.and (.eq (.var 30) (.lit 0)) (.and (.eq (.var 31) (.lit 0)) (.and (.eq (.var 32) (.lit 0)) (.eq (.var 33) (.lit 0)))))))))))))))))))))))))))))))))=true↔tB (cI (aG q1 0)) 2 32:=by
  simp only[jv,ik,ar,aq];exact agD
 have ff:¬di (aG q1 0)->Value.bool false=.bool (decide (di (aG q1 0))):=fun h=>vj ⟨fun e=>(by cases e),fun e=>absurd e h⟩;have tt:di (aG q1 0)->Value.bool true=.bool (decide (di (aG q1 0))):=fun h=>vj ⟨fun _=>h,fun _=>rfl⟩;have a:(tB (cI (aG q1 0)) 2 32↔di (aG q1 0))->Value.bool (aY q1 (.and (.eq (.var 2) (.lit 0)) (.and (.eq (.var 3) (.lit 0)) (.and (.eq (.var 4) (.lit 0)) (.and (.eq (.var 5) (.lit 0)) (.and (.eq (.var 6) (.lit 0)) (.and (.eq (.var 7) (.lit 0)) (.and (.eq (.var 8) (.lit 0)) (.and (.eq (.var 9) (.lit 0)) (.and (.eq (.var 10) (.lit 0)) (.and (.eq (.var 11) (.lit 0)) (.and (.eq (.var 12) (.lit 0)) (.and (.eq (.var 13) (.lit 0)) (.and (.eq (.var 14) (.lit 0)) (.and (.eq (.var 15) (.lit 0)) (.and (.eq (.var 16) (.lit 0)) (.and (.eq (.var 17) (.lit 0)) (.and (.eq (.var 18) (.lit 0)) (.and (.eq (.var 19) (.lit 0)) (.and (.eq (.var 20) (.lit 0)) (.and (.eq (.var 21) (.lit 0)) (.and (.eq (.var 22) (.lit 0)) (.and (.eq (.var 23) (.lit 0)) (.and (.eq (.var 24) (.lit 0)) (.and (.eq (.var 25) (.lit 0)) (.and (.eq (.var 26) (.lit 0)) (.and (.eq (.var 27) (.lit 0)) (.and (.eq (.var 28) (.lit 0)) (.and (.eq (.var 29) (.lit 0)) (.and (.eq (.var 30) (.lit 0)) (.and (.eq (.var 31) (.lit 0)) (.and (.eq (.var 32) (.lit 0)) (.eq (.var 33) (.lit 0))))))))))))))))))))))))))))))))))=.bool (decide (di (aG q1 0))):=fun h=>vj (d.trans h);generalize Value.bool (decide (di (aG q1 0)))=V at ff tt a ⊢;rw[c]at ff tt a;clear c d;refine⟨fun h=>ff ah,fun h0=>⟨fun h=>ff ah,fun h1=>?_⟩⟩;have eK:=eK ah;have w0:IntKind.i64.wrap (q1.i 0-1)=q1.i 0-1:=IntWalk.i64_in _ ah;rw[w0];rw[<-eK];generalize cI (aG q1 0) (54+(q1.i 0-1).toNat)=K at ff tt a ⊢;generalize tB (cI (aG q1 0)) 2 32=Z at ff tt a;refine⟨fun h=>ff ah,fun l=>⟨fun h=>ff ah,fun m=>?_⟩⟩;have w1:IntKind.u64.wrap (q1.i 1-1)=q1.i 1-1:=m9 ah ah;rw[w1];refine⟨fun h=>ff ah,fun n=>⟨fun h=>ff ah,fun o=>⟨fun h=>ff ah,fun p=>⟨ah,ah,fun h=>ff ah,fun f=>?_⟩⟩⟩⟩;refine⟨fun h=>ff ah,fun k0=>⟨fun h=>ff ah,fun k1=>⟨fun h=>ff ah,fun k2=>⟨fun h=>ff ah,fun k3=>⟨fun h=>ff ah,fun k4=>⟨fun h=>ff ah,fun k5=>⟨fun h=>a ⟨fun z=>?_,fun z=>?_⟩,fun h=>tt ?_⟩⟩⟩⟩⟩⟩⟩
 .exact⟨ah,ah,ah,ah,f,ah,Or.inr z⟩
 .rcases z.2.2.2.2.2.2 with z | z
  .omega
  .exact z
 .exact⟨ah,ah,ah,ah,f,ah,Or.inl h⟩
def uJ:Value->Prop
 | .int .u8 z=>0<=z/\z<256
 | .int .u64 z=>0<=z/\z<18446744073709551616
 | .int .i64 z=>lN z
 | _=>True
structure Hd where
 c:List Value
 t:List (List Int)
variable {h h':Hd}
def Hd.Form (h:Hd):Prop:=di h.c/\h.t.length<=8/\nj h.t/\iE (cI h.c 92-16)/\(cB h.c 35=true->h.t=[]/\tB (cI h.c) 37 16)
structure br (R:Hl) (row:List Value) (h:Hd):Prop where
 ok:aR row dz
 rng:∀ v∈row,uJ v
 core:h.c=row.set 53 (.bool false)
 tok:bd R (row.getD 53 (.bool false)) qm (h.t.map aS)
 byte:Fb h.t
def gb {rows:List (List Value)} (h:bd R v ks rows) (hl:R.le R'):bd R' v ks rows:=by
 obtain⟨x,y,c,e,hy,h⟩:=h;refine⟨x,y,c,e,hy,h.imp id fun⟨hx,h⟩=>⟨hx,fun i row hr=>⟨(h i row hr).1,fun j u hu=>?_⟩⟩⟩;have a:=(h i row hr).2 j u hu;unfold Hl.cell at a ⊢;cases b:R x.toNat with
 | none=>rw[b]at a;cases a
 | some o=>rw[hl _ _ b];rw[b]at a;exact a
def br.mono (x:br R row h) (hl:R.le R'):br R' row h:=⟨x.ok,x.rng,x.core,gb x.tok hl,x.byte⟩
def jT:∀ {a b:List (List Int)},a.map aS=b.map aS->a=b
 | [],[],_=>rfl
 | [],_::_,h=>by cases h
 | _::_,[],h=>by cases h
 | u::a,v::b,h=>by
  simp only[abW,aae]at h;rw[lQ h.1,jT h.2]
def br.uniq (x:br R row h) (y:br R row h'):h=h':=by
 obtain⟨c,t⟩:=h;obtain⟨c',t'⟩:=h';have e1:c=c':=x.core.trans y.core.symm;have a:t=t':=jT (x.tok.uniq y.tok);rw[e1,a]
def W7 (h:k≠53):cI (row.set 53 (.bool false)) k=cI row k:=by
 unfold cI;rw[adx ah]
def W6 (h:k≠53):cB (row.set 53 (.bool false)) k=cB row k:=by
 unfold cB;rw[adx ah]
def br.I (x:br R row h) (hk:k≠53):cI h.c k=cI row k:=by rw[x.core,W7 hk]
def br.B (x:br R row h) (hk:k≠53):cB h.c k=cB row k:=by rw[x.core,W6 hk]
def xS {f g:Nat->Int} (h:∀ j,j<k->f (n+j)=g (n+j)):tB f n k↔tB g n k:=by
 rw[Fq,Fq];exact⟨fun hf j a=>by rw[<-h j a];exact hf j a,fun hg j a=>by rw[h j a];exact hg j a⟩
def br.form (x:br R row h):h.Form↔(di row/\h.t.length<=8/\nj h.t/\iE (cI row 92-16)/\(cB row 35=true->h.t=[]/\tB (cI row) 37 16)):=by
 have e1:di h.c↔di row:=by
  unfold di;have hz:tB (cI h.c) 2 32↔tB (cI row) 2 32:=xS fun j a=>x.I ah;have hk:cI h.c (54+(cI row 0-1).toNat)=cI row (54+(cI row 0-1).toNat):=x.I ah;rw[x.I (k:=0) az,x.I (k:=1) az,x.I (k:=34) az,x.I (k:=36) az,x.I (k:=54) az,x.I (k:=55) az,x.I (k:=56) az,x.I (k:=57) az,x.I (k:=58) az,x.I (k:=59) az,hz,hk]
 have b:tB (cI h.c) 37 16↔tB (cI row) 37 16:=xS fun j a=>x.I ah;unfold Hd.Form;rw[e1,b,x.I (k:=92) az,x.B (k:=35) az]
def pO (h:aR row dz):∃ q:Env,row=aG q 0/\q.h 130=R/\bk 0 bJ q/\0<=q.i 54/\0<=q.i 55/\0<=q.i 56:=by
 obtain⟨q,_,hn,e⟩:=cE bJ 0 row (ba fun _=>0) h;have hs:∀ (a b:List Ck) (n:Nat),bk n (a++b) q->bk (n+aQ a) b q:=by
  intro a
  induction a with
  | nil=>intro b n h;simpa [aQ] using h
  | cons k a ih =>
   intro b n h;have:=ih b (n+k.len) h.2;rw[show n+k.len+aQ a=n+aQ (k::a)by simp [aQ];omega]at this;exact this
 have c:=hn;have hn:bk 0 (bJ.take 53++(.sl::bJ.drop 54)) q:=hn;have hs:=(hs (bJ.take 53) (.sl::bJ.drop 54) 0 hn).1;exact⟨⟨q.i,q.b,q.s,q.v,fun k=>if k=130 then R else Hl.none⟩,e.symm,rfl,c,hs.2.1,hs.2.2.1,hs.2.2.2⟩
open Classical in
noncomputable def fS (f:FuncId):Sx.Spec where
 fn:=f
 own:=[]
 rd:=[10053]
 res:=[.one .bool]
 pre:=fun xs Hs Rs=>∃ row R h,xs=[.agg row.toArray]/\Rs=[R]/\br R row h
 post:=fun xs Hs Rs v Hs' F=>∃ row R h,xs=[.agg row.toArray]/\Rs=[R]/\br R row h/\v=.bool (decide h.Form)
noncomputable def Gh:List Sx.Spec:=[rZ 140,rZ 47,X6,Po,EK]
def K9:∀ t∈Gh,t.OK Tryz.prog:=ak CU <| ak NZ <| ak Um <| ak Pp <| ak JQ <| bu
def fg1:Gh[1]?=some (rZ 47):=rfl
def fr0 (f:FuncId):(rZ f).res=[.one .bool]:=rfl
def fr2:X6.res=[.one .bool]:=rfl
def fr3:Po.res=[.one (.int .i64)]:=rfl
def fr4:EK.res=[.one .bool]:=rfl
noncomputable def Xc:aD Tryz.prog Gh 91 where
 Λ:=aA
 args:=(bQ 0 [.agg bJ]).map .sv
 mem:=[.ro 130 [.var 53] false]
 nv:=131
def ot:0+aQ bJ<=128:=adg zzK
def EO {p:Option Addr} (h:bd R (.slice p n c) ks (T.map aS)):n=T.length:=by
 obtain⟨x,y,c',e,_⟩:=h;simp only[Value.slice.injEq,aca]at e;exact e.2.1
def Vs (z:Int):lN (IntKind.i64.wrap z):=by
 unfold lN;rw[IntKind.wrap_i64];omega
def Ra (h:lN z):iE (IntKind.i64.wrap (z-16))↔iE (z-16):=by
 unfold lN at h;unfold iE;rw[IntKind.wrap_i64];omega
def vS (h:iE (z-16)):80<=z/\z<=2064:=by
 unfold iE at h;omega
def Pq (h1:80<=z) (a:z<=2064):MO (IntKind.i64.wrap (z-17))=IntKind.i64.wrap (z-16)↔iE (z-16):=by
 rw[IntWalk.i64_in (z-17) ah,IntWalk.i64_in (z-16) ah];unfold MO iE
 repeat' split
 all_goals omega
def zU (P:Prop):∃ z:Int,P↔z=1:=by
 by_cases h:P
 .exact⟨1,fun _=>rfl,fun _=>h⟩
 .exact⟨0,fun x=>absurd x h,fun x=>absurd x az⟩
open Classical in
def oH (hx:br R row h) {e:E} (hb:aY q e=true↔h.Form) {mem:Mem} : postOf (fS f) [.agg row.toArray] [] [R] q mem (.sv (.one (.bool e))):=by
 intro _;exact⟨[],[],rfl,rfl,⟨⟨fun _=>0,fun _=>aY q e,fun _=>.empty,fun _=>.tuple #[],fun _=>Hl.none⟩,rfl,zzT,zzT⟩,_,R,h,rfl,rfl,hx,vj hb⟩
open Classical in
def Dz {Hs K:List Hl} (h:bd R u qm (T.map aS)) (hp:(rZ f).post [u] Hs [R] v K F):v=.bool (decide (nj T)):=by
 obtain⟨u',R',c,e1,a,b,hv⟩:=hp;simp only[aae,abw]at e1 a;subst e1 a;rw[jT (h.uniq b)];exact hv
open Classical in
def mj:(fS 91).OK Tryz.prog:=by
 refine Spec.jN (Γ:=Gh) K9 rfl ?_;rintro xs Rs ⟨row,R,h,rfl,rfl,hx⟩;obtain⟨J,rfl,j,p,C,r,D⟩:=pO (R:=R) hx.ok;refine⟨Xc,J,fun _ _=>True,fun _ _=>0,?_,aT rfl (ach (fun x=>[x]) j),rfl,?_⟩
 .rfl
 .refine aD.read [bJ] [] [] ?_;simp only[go_sem,Nat.reduceAdd,Gh,fr0,fr2,fr4,U7];have k:=hx.form;have hT:=hx.tok;have hT:bd R (.slice (au (J.i 53) (J.i 54)) (J.i 55).toNat (J.i 56).toNat) qm (h.t.map aS):=hT;have hlen:(J.i 55).toNat=h.t.length:=EO hT;have s:cI (aG J 0) 92=J.i 95:=rfl;have u:cB (aG J 0) 35=J.b 35:=rfl;have l:lN (J.i 95):=hx.rng (.int .i64 (J.i 95)) (aah (i:=92) rfl);rw[s,u]at k;intro q1 v _;have hr1:aG q1 0=aG J 0:=cy v.mono;refine⟨⟨⟨q1,⟨jx v.mono bJ 0 ot p,zzT⟩,rfl⟩,zzT⟩,fun q2 E ⟨H,a,_⟩=>?_⟩;have a:Value.bool (q2.b 132)=.bool (decide (di (aG q1 0))):=a;rw[hr1]at a;simp only[Value.bool.injEq]at a;rw[a,aas];have m:ai 131 J q2:=v.tr E;rw[m.i 55,m.i 53,m.i 54,m.i 56,m.h 130,j];have ff:∀ {q:Env} {mem:Mem},¬h.Form->postOf (fS 91) [.agg (aG J 0).toArray] [] [R] q mem (.sv (.one (.bool .ff))):=fun hf=>oH hx ⟨fun e=>(by rw[du]at e;cases e),fun e=>absurd e hf⟩;refine⟨fun c=>⟨r,fun F=>⟨⟨_,R,h.t,rfl,rfl,hT,hx.byte⟩,fun A g3 ⟨I,w,_⟩=>?_⟩,fun F=>ff fun hf=>?_⟩,fun c=>ff fun hf=>c (k.1 hf).1⟩
  .have hs:=Dz hT w;have hs:A.b 133=decide (nj h.t):=by simpa [bn] using hs
   rw[hs,aas];have B:ai 131 J A:=m.tr g3;rw[B.i 95];refine⟨fun d=>⟨⟨⟨aM [IntKind.i64.wrap (J.i 95-16)] false [],⟨zzT,zzT⟩,rfl⟩,Vs _⟩,fun n g4 ⟨K,f,_⟩=>?_⟩,fun d=>ff fun hf=>d (k.1 hf).2.2.1⟩;have f:Value.bool (n.b 134)=.bool (decide (iE (IntKind.i64.wrap (J.i 95-16)))):=f;simp only[Value.bool.injEq]at f;rw[f,aas,Ra l];have y:ai 131 J n:=B.tr g4;rw[y.b 35,y.i 55];refine⟨fun g=>ff fun hf=>g (k.1 hf).2.2.2.1,fun g=>⟨fun o=>⟨fun hz=>oH hx ?_,fun hz=>ff fun hf=>?_⟩,fun o=>oH hx ?_⟩⟩
   .have G:aY n (.and (.eq (.var 37) (.lit 0)) (.and (.eq (.var 38) (.lit 0)) (.and (.eq (.var 39) (.lit 0)) (.and (.eq (.var 40) (.lit 0)) (.and (.eq (.var 41) (.lit 0)) (.and (.eq (.var 42) (.lit 0)) (.and (.eq (.var 43) (.lit 0)) (.and (.eq (.var 44) (.lit 0)) (.and (.eq (.var 45) (.lit 0)) (.and (.eq (.var 46) (.lit 0)) (.and (.eq (.var 47) (.lit 0)) (.and (.eq (.var 48) (.lit 0)) (.and (.eq (.var 49) (.lit 0)) (.and (.eq (.var 50) (.lit 0)) (.and (.eq (.var 51) (.lit 0)) (.eq (.var 52) (.lit 0)))))))))))))))))=true↔tB (cI (aG n 0)) 37 16:=by
     simp only[jv,ik,ar,aq];exact agD
    rw[G,cy y.mono,k];refine⟨fun z=>⟨c,ah,d,g,fun _=>⟨aa1.1 ah,z⟩⟩,fun hf=>(hf.2.2.2.2 o).2⟩
   .have:=((k.1 hf).2.2.2.2 o).1;rw[this]at hlen;exact hz (by simpa using (show J.i 55=0 by simp at hlen;omega))
   .rw[dc,k];exact⟨fun _=>⟨c,ah,d,g,fun h=>absurd h o⟩,fun _=>rfl⟩
  .have:=(k.1 hf).2.1;omega
noncomputable def Yi:aD Tryz.prog Gh 46 where
 Λ:=aA
 args:=(bQ 0 [.agg bJ]).map .sv
 mem:=[.ro 130 [.var 53] false]
 nv:=131
def WU (q:Env):(q.i 2=0/\q.i 3=0/\q.i 4=0/\q.i 5=0/\q.i 6=0/\q.i 7=0/\q.i 8=0/\q.i 9=0/\q.i 10=0/\q.i 11=0/\q.i 12=0/\q.i 13=0/\q.i 14=0/\q.i 15=0/\q.i 16=0/\q.i 17=0/\q.i 18=0/\q.i 19=0/\q.i 20=0/\q.i 21=0/\q.i 22=0/\q.i 23=0/\q.i 24=0/\q.i 25=0/\q.i 26=0/\q.i 27=0/\q.i 28=0/\q.i 29=0/\q.i 30=0/\q.i 31=0/\q.i 32=0/\q.i 33=0)↔tB (cI (aG q 0)) 2 32:=agD
def WV (q:Env):(q.i 37=0/\q.i 38=0/\q.i 39=0/\q.i 40=0/\q.i 41=0/\q.i 42=0/\q.i 43=0/\q.i 44=0/\q.i 45=0/\q.i 46=0/\q.i 47=0/\q.i 48=0/\q.i 49=0/\q.i 50=0/\q.i 51=0/\q.i 52=0)↔tB (cI (aG q 0)) 37 16:=agD
open Classical in
def xt:(fS 46).OK Tryz.prog:=by
 refine Spec.jN (Γ:=Gh) K9 rfl ?_;rintro xs Rs ⟨row,R,h,rfl,rfl,hx⟩;obtain⟨J,rfl,k,B,C,u,D⟩:=pO (R:=R) hx.ok;refine⟨Yi,J,fun _ _=>True,fun _ _=>0,?_,aT rfl (ach (fun x=>[x]) k),rfl,?_⟩
 .rfl
 .refine aD.read [] [] [] ?_;simp only[go_sem,Nat.reduceAdd,fg1,fr0,Gh,fr3,sc1,U7,WU,WV];have l:=hx.form;have hT:=hx.tok;have hT:bd R (.slice (au (J.i 53) (J.i 54)) (J.i 55).toNat (J.i 56).toNat) qm (h.t.map aS):=hT;have hlen:(J.i 55).toNat=h.t.length:=EO hT;have v:cI (aG J 0) 92=J.i 95:=rfl;have w:cB (aG J 0) 35=J.b 35:=rfl;rw[v,w]at l;have A:di (aG J 0)↔((1<=J.i 0/\J.i 0<=6)/\(1<=J.i 1/\J.i 1<=1048576)/\(0<=J.i 34/\J.i 34<=255)/\J.i 36<=1099511627776/\cI (aG J 0) (54+(J.i 0-1).toNat)=J.i 1-1/\(J.i 57<=1048576/\J.i 58<=1048576/\J.i 59<=1048576/\J.i 60<=1048576/\J.i 61<=1048576/\J.i 62<=1048576)/\(1<J.i 1\/tB (cI (aG J 0)) 2 32)):=agD;have eK:=GA J;have eB:=@Pq (J.i 95);have eI:=@vS (J.i 95);have eN:h.t=[]↔J.i 55=0:=by rw[<-aa1];omega
  rw[A,eN]at l;clear A eN;obtain⟨F,m⟩:=zU (tB (cI (aG J 0)) 2 32);obtain⟨G,n⟩:=zU (tB (cI (aG J 0)) 37 16);obtain⟨H,g⟩:=zU (J.b 35=true);obtain⟨I,o⟩:=zU (nj h.t);obtain⟨K,p⟩:=zU (iE (J.i 95-16));rw[m,n,g,o,p]at l;rw[p]at eB eI;have ff:∀ {q:Env} {mem:Mem},¬h.Form->postOf (fS 46) [.agg (aG J 0).toArray] [] [R] q mem (.sv (.one (.bool .ff))):=fun hf=>oH hx ⟨fun e=>(by rw[du]at e;cases e),fun e=>absurd e hf⟩;rw[l]at ff;intro q1 f _;rw[f.i 0,f.i 1,f.i 34,f.i 36,f.i 55,f.i 53,f.i 54,f.i 56,f.h 130,k];refine⟨fun c0=>⟨fun c1=>⟨fun c2=>⟨fun c3=>⟨fun L=>⟨fun M=>⟨fun c6=>⟨u,fun c7=>⟨⟨_,R,h.t,rfl,rfl,hT,hx.byte⟩,fun q2 E ⟨N,y,_⟩=>?_⟩,fun c=>ff ah⟩,fun c=>ff ah⟩,fun c=>ff ah⟩,fun c=>ff ah⟩,fun c=>ff ah⟩,fun c=>ff ah⟩,fun c=>ff ah⟩,fun c=>ff ah⟩;have d:ai 131 J q2:=f.tr E;have hs:=Dz hT y;have hs:q2.b 132=decide (nj h.t):=by simpa [bn] using hs
  rw[hs,aas,o];simp only[d.i 0,d.i 1,d.i 34,d.i 36,d.i 55,d.i 57,d.i 58,d.i 59,d.i 60,d.i 61,d.i 62,d.i 95,d.b 35];refine⟨fun c=>ff ah,fun d0=>⟨fun c=>ff ah,fun d1=>⟨fun c=>ff ah,fun d2=>⟨fun c=>ff ah,fun d3=>⟨fun c=>ff ah,fun d4=>⟨fun c=>ff ah,fun d5=>⟨fun c=>ff ah,fun d6=>⟨fun e0=>⟨fun e1=>⟨⟨⟨aM [IntKind.i64.wrap (J.i 95-17)] false [],⟨zzT,zzT⟩,rfl⟩,zzT⟩,fun s g3 ⟨O,j,_⟩=>?_⟩,fun c=>?_⟩,fun c=>?_⟩⟩⟩⟩⟩⟩⟩⟩
  rotate_left
  .rw[g];exact⟨fun f0=>⟨fun f1=>⟨fun f2=>ff ah,fun f2=>ff ah⟩,fun f1=>ff ah⟩,fun f0=>⟨fun f1=>⟨fun f2=>ff ah,fun f2=>ff ah⟩,fun f1=>ff ah⟩⟩
  .rw[g];exact⟨fun f0=>⟨fun f1=>⟨fun f2=>ff ah,fun f2=>ff ah⟩,fun f1=>ff ah⟩,fun f0=>⟨fun f1=>⟨fun f2=>ff ah,fun f2=>ff ah⟩,fun f1=>ff ah⟩⟩
  have a:ai 131 J s:=d.tr g3;have j:Value.int .i64 (s.i 133)=.int .i64 (MO (IntKind.i64.wrap (J.i 95-17))):=j;simp only[Value.int.injEq,acu]at j;have z:aG s 0=aG J 0:=cy a.mono;have eB:=eB e0 e1;simp only[j,z,m,n,eB,a.i 0,a.i 1,a.i 34,a.i 36,a.i 55,a.i 57,a.i 58,a.i 59,a.i 60,a.i 61,a.i 62,a.i 95,a.b 35];rw[g];have w0:IntKind.i64.wrap (J.i 0-1)=J.i 0-1:=IntWalk.i64_in _ ah;have w1:IntKind.u64.wrap (J.i 1-1)=J.i 1-1:=m9 ah ah;have r:∀ {mem:Mem},(cI (aG J 0) (54+(J.i 0-1).toNat)=J.i 1-1↔h.Form)->postOf (fS 46) [.agg (aG J 0).toArray] [] [R] s mem (.sv (.one (.bool (.eq (.ite (.eq (.wrap .i64 (.sub (.var 0) (.lit 1))) (.lit 0)) (.var 57) (.ite (.eq (.wrap .i64 (.sub (.var 0) (.lit 1))) (.lit 1)) (.var 58) (.ite (.eq (.wrap .i64 (.sub (.var 0) (.lit 1))) (.lit 2)) (.var 59) (.ite (.eq (.wrap .i64 (.sub (.var 0) (.lit 1))) (.lit 3)) (.var 60) (.ite (.eq (.wrap .i64 (.sub (.var 0) (.lit 1))) (.lit 4)) (.var 61) (.var 62)))))) (.wrap .u64 (.sub (.var 1) (.lit 1))))))):=fun {mem} hh=>oH hx (by
   rw[<-hh,eK ah];simp only[ik,dY,bL,dZ,ar,aq,a.i 0,a.i 1,a.i 57,a.i 58,a.i 59,a.i 60,a.i 61,a.i 62,w0,w1])
  rw[l]at r;rw[w0];exact⟨fun f0=>⟨fun f1=>⟨fun f2=>⟨fun f3=>⟨fun f4=>⟨fun f5=>⟨ah,ah,r ah⟩,fun f5=>ff ah⟩,fun f4=>ff ah⟩,fun f3=>ff ah⟩,fun f2=>⟨fun f3=>⟨fun f4=>ff ah,fun f4=>ff ah⟩,fun f3=>ff ah⟩⟩,fun f1=>⟨fun f3=>⟨fun f4=>⟨ah,ah,r ah⟩,fun f4=>ff ah⟩,fun f3=>ff ah⟩⟩,
   fun f0=>⟨fun f1=>⟨fun f2=>⟨fun f3=>⟨fun f5=>⟨ah,ah,r ah⟩,fun f5=>ff ah⟩,fun f3=>ff ah⟩,fun f2=>⟨fun f3=>ff ah,fun f3=>ff ah⟩⟩,fun f1=>⟨fun f3=>⟨ah,ah,r ah⟩,fun f3=>ff ah⟩⟩⟩
end Go.Proofs.YtbdikjnpbnobcaaGreatDoor
