/- RelayTwice. -/
import Derived.Test.YtomdimlnggpgbaaGreatDoorTE
set_option linter.all false
set_option maxHeartbeats 4000000
namespace Go.Proofs.YtomdimlnggpgbaaGreatDoor
open Go Go.Sx Go.Pk
open Go.Proofs.YtomdimlnggpgbaaGreatDoor.D hiding bw aM gC
theorem fK {a:Nat} : Value.pointer (aA (bM (some (Value.pointer (some ⟨a,0,none⟩))) 0) (bM (some (Value.pointer (some ⟨a,0,none⟩))) 1))=.pointer (some ⟨a,0,none⟩):=by
 show Value.pointer (aA ((a:Nat):Int) 0)=_;rw[gM]
theorem zZ.cells {H:Hl} {a:Nat} {dp pa pb sl:Value} {S:SM} (h:zZ H a dp pa pb sl S):H.cell a 0=some pa/\H.cell a 2=some sl:=by
 unfold Hl.cell;rw[h.bD];exact⟨rfl,rfl⟩
def zK:Sx.Spec where
 fn:=20
 own:=[]
 rd:=[0]
 res:=[.one .sl]
 pre:=fun xs Hs Rs=>∃ p R dp S,xs=[p]/\Rs=[R]/\kS R p dp S/\S.recs.length<=1000000000/\∀ r∈S.recs,r.length<=1000000
 post:=fun xs Hs Rs v Hs' F=>∃ p R dp S,xs=[p]/\Rs=[R]/\kS R p dp S/\cO F v S.recs
theorem JV {p dp v:Value} {R F:Hl} {K:List Hl} {S:SM} (h:kS R p dp S) (hp:zK.post [p] [] [R] v K F):cO F v S.recs:=by
 obtain⟨p',R',dp',S',e1,e2,h',hv⟩:=hp;simp only[Ze,Zm]at e1 e2;subst e1 e2;obtain⟨_,rfl⟩:=h.uniq h';exact hv
def TK:List Sx.Spec:=[mD]
theorem RH:∀ t∈TK,t.OK Tryz.prog:=fun t ht=>by
 simp only[TK,Zl,Zq,ZO]at ht;rw[ht];exact vu
def Gv:Nd:=(fun i k j f=>(fun b d h g=>(fun a c=>(.and (.e (.le f i)) (.and (.e (.his 1 i k 0 .slice)) (.and (.e (.le f g)) (.and (.inv 0 [⟨53,0,.int .i64 (.lit (-1))⟩,⟨54,0,.int .i64 f⟩,⟨55,0,.int .i64 f⟩,⟨50,0,.int .i64 f⟩] [(56,none)]) (.havoc 0 0 2 (.and (.imp (.lt j g) (.and (.e (.le f d)) (.and (.e (.le f (.hP 1 i k 0 1))) (.and (.e (.le f j)) (.and (.e (.his 1 d b 0 .slice)) (.and (.pre a) (.ext a (.ext (.alloc 64) (.ext (.L8 65 (.hp 56 [] [.var 53] []) (.hp 60 [] [.var 60] [])) (.and (.pre c) (.ext c (.back 0 0 [⟨53,0,.int .i64 (.var 66)⟩,⟨54,0,.int .i64 (.add (.var 54) (.lit 1))⟩,⟨55,0,.int .i64 (.var 67)⟩,⟨50,0,.int .i64 (.wrap .i64 (.add j (.lit 1)))⟩] [(56,some 66)])))))))))))) (.imp (.not (.lt j g)) (.post [.ro 1 [.var 0] true,.hp 56 [] [.var 53] []] (.sv (.one h))))))))):Nd)) (.call 0 60 [.sv (.one (.sl (.hP 1 d b 0 0) (.hP 1 d b 0 1) (.hP 1 d b 0 2) (.hP 1 d b 0 3)))] [] [.ro 1 [.var 0] true]) (.app 66 46 1 24 h (.var 54) (.hp 65 [56,60] [.var 53,.var 60,.var 60] []) (.cvs [.sl (.var 60) (.var 61) (.var 62) (.var 63)] 1))) (.add (.hP 1 i k 0 1) j) (.hP 1 i k 0 0) (.sl (.var 53) f (.var 54) (.var 55)) (.hP 1 i k 0 2)) (.var 0) (.lit 2) (.var 50) (.lit 0)
def DU:bU Tryz.prog TK zK.fn where
 Λ:=fun p=>if LL p then some ⟨0,[(11,TI .i64 (.var 50)),(3,.sv (.one (.sl (.var 53) (.lit 0) (.var 54) (.var 55))))],[(1,.hp 56 [] [.var 53] [])],60⟩else none
 args:=[TP (.var 0) (.lit 0)]
 mem:=[.ro 1 [.var 0] true]
 nv:=2
 nd:=Gv
 ok:=by kernel_rfl
theorem WI:TK[0]?=some mD:=rfl
theorem M0:zK.OK Tryz.prog:=by
 refine Spec.bJ (Γ:=TK) RH ?_;rintro xs Hs Rs hl1 hl2 ⟨p,R,dp,S,rfl,rfl,hS,hlen,aL⟩;have e0:Hs=[]:=Za.1 hl1;subst e0;obtain⟨a,pa,pb,sl,rfl,hr⟩:=id hS;have hc:=hr.cells.2;obtain⟨rx,rc,hrx,rfl⟩:=hr.rows.rep;have hat:=cO.at (l:=(S.recs.length:Int)) (c:=(rc:Int)) (rows:=S.recs) (by rw[Y7,Y7];exact hr.rows) hrx (by omega);refine⟨DU,bw [(a:Int)] false [Hl.none,R],fun _ q=>∃ k:Nat,q.i 50=k/\k<=S.recs.length/\ -1<=q.i 53/\0<=q.i 54/\0<=q.i 55/\cO (q.h 56) (.slice (aA (q.i 53) 0) (q.i 54).toNat (q.i 55).toNat) (S.recs.take k),fun _ q=>(S.recs.length-q.i 50).toNat,?_,⟨?_,?_,?_,?_⟩,(fun _ h=>nomatch h),?_⟩
 .show [Value.pointer (aA (a:Int) 0)]=_;rw[gM]
 .intro r hr ho;simp [DU]at hr;subst hr;cases ho
 .intro r hr ho;simp [DU]at hr;subst hr;exact⟨R,by simp,Hl.le_refl _⟩
 .simp [DU]
 .intro r hr;simp [DU]at hr;subst hr;trivial
 .show Nd.holds _ _ _ Gv;generalize hρ:bw [(a:Int)] false [Hl.none,R]=ρ;have v0:ρ.i 0=a:=by rw[<-hρ];rfl
  have w1:ρ.h 1=R:=by rw[<-hρ];rfl
  clear hρ;have t2:Int.toNat 2=2:=rfl;unfold Gv;simp only[Nd.holds,X.pre,X.rel,X.n,Src.ok,Src.len,Src.bG,Zy,Zm,ZG,Zx,Zp,Nat.reduceAdd,Zd,Zh,bn,bj,aJ,aU,aR,bm,aZ,bh,bg,bd,aV,ba,bk,aX,aW,aK,aY,ai,aj,aB,aF,aD,ar,aG,aQ,aP,aq,aI,az,aH,av,TV.ev,SV.ev,CV.ev,Zf,Zr,bx.hl,cu,Cp.sv,Ck.cv,bf,Cp.len,Ck.len,aE,aN,aT,WI,Sr,Kk,t2];rw[v0,w1,Y7,hc,mm hrx];refine⟨by omega,rfl,by omega,⟨0,rfl,aam _,Zw _,Zw _,Zw _,cO.nil _⟩,fun q8 g8 ⟨k,ek,qH,x61,x62,x63,hRk⟩=>?_⟩;have h62:q8.i 54=k:=by
   have:=(hRk.at x61 x62).1;rw[ZE]at this;omega
  rw[g8.i 0,g8.h 1,v0,w1,ek,Y7,hc,mm hrx];refine⟨fun hlt=>?_,fun hge=>?_⟩
  .have hkr:k<S.recs.length:=by omega
   have hrk:S.recs[k]?=some S.recs[k]:=Y8 hkr;obtain⟨hx0,u,hcu,hRu⟩:=hat.2 k _ hrk;have hRr:=hRu.rd;have hsl:∃ a l c,u=Value.slice a l c:=(fp.parts hRr).1;rw[yg hrx,D7 hx0 (Zw _)];have hck:R.cell rx.toNat (0+(k:Int)).toNat=some u:=by rw[show(0+(k:Int)).toNat=k by omega];exact hcu
   rw[hck,iB hsl];refine⟨hx0,Zw _,by omega,by obtain⟨_,_,_,e⟩:=hsl;rw[e];rfl,⟨_,_,R,rfl,rfl,hRr,aL _ (aay _)⟩,fun q9 g9 ⟨F9,⟨u9,bs9,R9,x1,x2,hR9,hO9⟩,hF9,hn9⟩ q10 g10 _ q11 g11 ⟨e11,hd11⟩=>?_⟩;simp only[Ze,Zm]at x1 x2;subst x1 x2;obtain rfl:=hRr.uniq hR9;rw[<-hF9 trivial]at hO9;have hn9:-1<=q9.i 60/\0<=q9.i 61/\0<=q9.i 62/\0<=q9.i 63:=hn9.1;have G10:ah 60 q8 q10:=g9.tr g10;have G11:ah 60 q8 q11:=G10.tr g11;have G9:ah 64 q9 q11:=g10.tr g11;have hu9:mv (q10.h 60) none (.slice (aA (q11.i 60) (q11.i 61)) (q11.i 62).toNat (q11.i 63).toNat) S.recs[k]:=by
    rw[g10.h 60,G9.i 60,G9.i 61,G9.i 62,G9.i 63];exact mv.of hO9.rd.w hn9.1 hn9.2.1
   rw[e11,G10.h 56,G11.i 53,G11.i 54,G11.i 55];rw[G10.h 56]at hd11;have hpre:∃ xs,bE ((q8.h 56).un (q10.h 60)) 46 1 (.slice (aA (q8.i 53) 0) (q8.i 54).toNat (q8.i 55).toNat) (q8.i 54).toNat xs:=by
    obtain⟨us',ho',_⟩:=hRk;rw[show(q8.i 54).toNat=(S.recs.take k).length by rw[ZE];omega]at ho' ⊢;exact⟨us',ho'.mono (Hl.cC _ _)⟩
   refine⟨⟨hpre,x62,by unfold maxLen;omega,by omega⟩,fun q12 g12 ⟨a1,a2,happ,hkp,_,hnw⟩=>?_⟩;have G12:ah 60 q8 q12:=G11.tr g12;have hrows:=sV hRk x61 x62 hd11 hu9 a1 happ hkp hnw;have e62:q12.i 54+1=q8.i 54+1:=by rw[G12.i 54]
   have e60:q12.i 50=k:=by rw[G12.i 50,ek]
   have w60:IntKind.i64.wrap (q12.i 50+1)=(k:Int)+1:=by rw[e60];exact wrap_i64 (by omega) (by omega)
   refine⟨⟨k+1,?_,by omega,a1,?_,a2,?_⟩,?_⟩
   .show IntKind.i64.wrap (q12.i 50+1)=_;rw[w60];rfl
   .show 0<=q12.i 54+1;omega
   .show cO (q12.h 66) (.slice (aA (q12.i 66) 0) (q12.i 54+1).toNat (q12.i 67).toNat) _;rw[e62,aaC,hrk,aaE];exact hrows
   .show((S.recs.length:Int)-IntKind.i64.wrap (q12.i 50+1)).toNat<_;rw[w60];omega
  .have hke:k=S.recs.length:=by omega
   subst hke;rw[aad]at hRk;intro _;refine⟨[],[1],rfl,rfl,⟨⟨fun j=>[q8.i 53,0,q8.i 54,q8.i 55].getD j 0,fun _=>false,fun _=>.empty,fun _=>.tuple #[],fun _=>Hl.none⟩,rfl,⟨x61,Zw _,x62,x63⟩,trivial⟩,_,R,dp,S,rfl,rfl,hS,?_⟩;show cO (dC [q8.h 56]) _ _;rw[bz];exact hRk
def XC:Env:=⟨fun _=>0,fun _=>false,fun _=>.empty,fun _=>.tuple #[],fun _=>Hl.none⟩
theorem dB {ρ:Env} {mem:Mem} {Hs Rs:List Hl} (h1:∀ r∈mem,∃ k t a,r=.ro k t a) (h2:mem.map (bx.hl ρ)=Rs):Entry ρ mem Hs Rs:=by
 refine⟨fun r hr ho=>?_,fun r hr _=>⟨r.hl ρ,by rw[<-h2];exact ZV.2 ⟨r,hr,rfl⟩,Hl.le_refl _⟩,?_,fun r hr=>?_⟩
 .obtain⟨k,t,a,rfl⟩:=h1 r hr;cases ho
 .refine abf.2 fun i j hi hj _ ho=>?_;obtain⟨k,t,a,e⟩:=h1 mem[i] (aay hi);rw[e]at ho;cases ho
 .obtain⟨k,t,a,rfl⟩:=h1 r hr;trivial
theorem IJ {R R':Hl} (hl:R.le R') {b j:Nat} {v:Value} (h:R.cell b j=some v):R'.cell b j=some v:=by
 unfold Hl.cell at h ⊢;cases hR:R b with
 | none=>rw[hR]at h;cases h
 | some o=>rw[hR]at h;rw[hl _ _ hR];exact h
theorem gD {R R':Hl} {v:Value} {bs:List Int} (h:fp R v bs) (hl:R.le R'):fp R' v bs:=by
 obtain⟨x,y,c,e,hy,h⟩:=h;exact⟨x,y,c,e,hy,h.imp id fun⟨hx,h⟩=>⟨hx,fun j z hz=>IJ hl (h j z hz)⟩⟩
def Pa:List Int:=List.replicate 16 0
theorem JP {m:Nat} (h:6<=m/\m<=16384):fm (fb m)=0/\fT (fb m)=Tj ⟨0,64*(((m/2:Nat):Int)-2),0,0,Pa,false⟩ [] ⟨((m/2:Nat):Int),64*(((m/2:Nat):Int)-2),0,0,Pa,false⟩ []:=by
 have hs:(fb m).n=m:=by
  show gE m=m;unfold gE;omega
 have h1:gw (fb m) 0 ((m/2:Nat):Int) 0 [] (List.replicate 16 0):=mV (by omega) (by omega) (by omega);have h2:gw (fb m) (m/2) ((m/2:Nat):Int) 0 [] (List.replicate 16 0):=mV (by omega) (by omega) (by omega);have e1:qj (fb m)=⟨0,64*(((m/2:Nat):Int)-2),0,0,Pa,false⟩:=by unfold qj;rw[hs];exact h1.je
 have e2:jU (fb m)=⟨((m/2:Nat):Int),64*(((m/2:Nat):Int)-2),0,0,Pa,false⟩:=by unfold jU;rw[hs];exact h2.je
 have e3:kZ (fb m)=[]:=by unfold kZ;rw[hs];exact h1.jw
 have e4:gT (fb m)=[]:=by unfold gT;rw[hs];exact h2.jw
 refine⟨?_,?_⟩
 .unfold fm;rw[hs,Zo (by omega)];rfl
 .unfold fT;rw[e1,e2,e3,e4,Zo (by show ¬fk _<fk _;exact acf _)]
theorem Jm:py 0=0:=rfl
theorem Nr {D:DM} {S:SM} {rows:List (List Int)} (ho:S.over=false) (hk:iu rows) (hne:rows≠[]) (hr:((cE rows).length:Int)<=S.LA.most-S.bA.length) (he:(bW D S.LA S.bA (cE rows) S.LA.note).e=0) :
 (dM D S rows).e=0/\(dM D S rows).D=(bW D S.LA S.bA (cE rows) S.LA.note).D/\(dM D S rows).S=⟨(bW D S.LA S.bA (cE rows) S.LA.note).L,(bW D S.LA S.bA (cE rows) S.LA.note).bs,S.LB,S.bB,S.recs++rows,false⟩:=by
 have e:dM D S rows=Eb D S rows (bW D S.LA S.bA (cE rows) S.LA.note):=by
  unfold dM;rw[Zo (by rw[ho];simp),Zo (fun h=>h hk),Zo hne,Zo (by omega)]
 rw[e];unfold Eb;rw[he,Jm,ZA rfl,Zo (fun h=>h.1 rfl),ho];exact⟨rfl,rfl,rfl⟩
theorem Gs {dp v:Value} {H H' F:Hl} {D:DM} (hD:aO H dp D) (hp:qA.post [dp] [H] [] v [H'] F):∃ pv,aO H' dp D/\v=.tuple #[pv,.int .i64 (fm D)]/\(fm D=0->ig F pv dp (fT D))/\(fm D≠0->pv=.pointer none):=by
 obtain⟨dp',Hx,D',H2,pv,e1,e2,hD',e3,hD2,hv,h1,h2⟩:=hp;simp only[Ze,Zm]at e1 e2 e3;subst e1 e2 e3;obtain rfl:=hD'.uniq hD;exact⟨pv,hD2,hv,h1,h2⟩
theorem Kq {p u dp v:Value} {H HD H' HD' R RA RG F:Hl} {S:SM} {D:DM} {rows:List (List Int)} (h1:ig H p dp S) (h2:aO HD dp D) (h3:iW R RA u rows) (hp:BX.post [p,u] [H,HD] [R,RA,RG] v [H',HD'] F) :
 aO HD' dp (dM D S rows).D/\ig H' p dp (dM D S rows).S/\v=.int .i64 (dM D S rows).e:=by
 obtain⟨p',u',Hx,HDx,Rx,RAx,RGx,dp',S',D',rows',H2,HD2,e1,e2,e3,k1,k2,k3,e4,k4,k5,hv⟩:=hp;simp only[Ze,Zm]at e1 e2 e3 e4;obtain⟨a1,a2⟩:=e1;obtain⟨a3,a4⟩:=e2;obtain⟨a5,a6,a7⟩:=e3;obtain⟨a8,a9⟩:=e4;subst a1 a2 a3 a4 a5 a6 a7 a8 a9;obtain⟨rfl,rfl⟩:=h1.rd.uniq k1.rd;obtain rfl:=h2.uniq k2;obtain rfl:=h3.uniq k3;exact⟨k4,k5,hv⟩
def yes (fn:FuncId) (pre:List Value->List Hl->Prop) (rd:List Nat):Sx.Spec where
 fn:=fn
 own:=[]
 rd:=rd
 res:=[.one .bool]
 pre:=fun xs Hs Rs=>pre xs Rs
 post:=fun xs Hs Rs v Hs' F=>v=.bool true
end Go.Proofs.YtomdimlnggpgbaaGreatDoor
namespace Go.Proofs.YtomdimlnggpgbaaGreatDoor.D
open Go Go.Sx
theorem Dt {D:DM} (h:D.ok) {i:Int} (hi:D.has i=true) {bs:List Int} (hb:bs.length=64) {j:Nat} (hj:¬(64*i.toNat<=j/\j<64*i.toNat+64)):(pz D i bs).now[j]?=D.now[j]?:=by
 rw[xm h hi hb,Zo hj]
theorem EN (frm:Nat) (all:List Int) (B:Nat):∀ (f i:Nat) (D:DM),pt D->all.length+1<=f+i->all.length+64*(frm+2)<=64*D.n->64*(frm+2)+all.length<=64*B ->
 ∀ j,(j<64*frm\/64*B<=j)->(fG frm all f i D).2.now[j]?=D.now[j]?:=by
 intro f
 induction f with
 | zero =>
  intro i D h h1 h2 h3 j hj;show(dm D).2.now[j]?=_;rw[(iO h).2.2.1]
 | succ f ih =>
  intro i D h h1 h2 h3 j hj;have ec:(frm:Int)+2+i=((frm+2+i:Nat):Int):=by omega
  by_cases hlt:64*i<all.length
  .have hi:D.has ((frm:Int)+2+i)=true:=by unfold DM.has;simp only[Zc];omega
   have hw:=kQ h hi (ie all i);have e:fG frm all (f+1) i D=fG frm all f (i+1) (pz D ((frm:Int)+2+i) (mg all i)):=by
    show(if 64*i<all.length then _ else _)=_;rw[ZA hlt,hw];simp
   rw[e,ih (i+1) _ (pd h hi (ie all i)) (by omega) h2 h3 j hj,Dt h.ok hi (ie all i)];rw[ec,Y7];omega
  .have e:fG frm all (f+1) i D=dm D:=by
    show(if 64*i<all.length then _ else _)=_;rw[Zo hlt]
   rw[e,(iO h).2.2.1]
theorem gw.out {D:DM} {frm:Nat} {n:Int} {k:Nat} {all nt:List Int} (h:gw D frm n k all nt) {b nt':List Int} (hb:(all.length:Int)+b.length<=64*(n-2)) (hk:k<1000000) (hn':nt'.length=16) :
 (bW D ⟨frm,64*(n-2),k,all.length,nt,false⟩ all b nt').D.n=D.n/\∀ j:Nat,((j:Int)<64*frm\/64*(frm+n)<=(j:Int))->(bW D ⟨frm,64*(n-2),k,all.length,nt,false⟩ all b nt').D.now[j]?=D.now[j]?:=by
 obtain⟨r1,r2⟩:=h.rng;have hDn:=h.sure.ok.n;have hal:(all++b).length=all.length+b.length:=Y9;obtain⟨L,hL⟩:∃ L:LM,L=⟨frm,64*(n-2),k,all.length,nt,false⟩:=⟨_,rfl⟩;rw[<-hL];have f1:L.frm=frm:=by rw[hL]
 have f2:L.most=64*(n-2):=by rw[hL]
 have f3:L.serial=k:=by rw[hL]
 have f4:L.over=false:=by rw[hL]
 obtain⟨F,hF⟩:∃ F,F=(gy D L.frm (all++b) all.length).2:=⟨_,rfl⟩;obtain⟨a1,a2,a3,_,_⟩:=tC frm (all++b) ((all++b).length+1) (all.length/64) D h.sure (by omega) (by omega);have ao:=EN frm (all++b) (frm+n.toNat) ((all++b).length+1) (all.length/64) D h.sure (by omega) (by omega) (by omega);have efr:gy D L.frm (all++b) all.length=fG frm (all++b) ((all++b).length+1) (all.length/64) D:=by
  unfold gy;rw[f1,show(((all.length:Nat):Int)/64).toNat=all.length/64 by omega]
 rw[<-efr]at a1 a2 a3 ao;rw[<-hF]at a2 a3 ao;obtain⟨N,hN⟩:∃ N,N=rz L (all++b) nt':=⟨_,rfl⟩;have eN:N=((k+1:Nat):Int)::((all++b).length:Int)::nt':=by
  rw[hN];unfold rz;rw[f3];rfl
 have hp:((k+1:Nat):Int).tmod 2=(((k+1)%2:Nat):Int):=by
  rw[aai (by omega)];omega
 obtain⟨p,hpp⟩:∃ p,p=(k+1)%2:=⟨_,rfl⟩;have hp2:p<2:=by omega
 obtain⟨b1,_⟩:=yM (a:=((k+1:Nat):Int)) (b:=((all++b).length:Int)) (nt:=nt') ⟨by omega,by omega⟩ ⟨by omega,by omega⟩ hn';rw[<-eN]at b1;have hhl:(cY N++cY N).length=64:=by rw[Y9,b1]
 have ei:∀ q:Nat,(frm:Int)+((q:Nat):Int)=((frm+q:Nat):Int):=fun q=>by omega
 have hasF:F.has ((frm:Int)+(p:Int))=true:=by unfold DM.has;rw[a3];simp only[Zc];omega
 have hw:=kQ a2 hasF hhl;obtain⟨G,hG⟩:∃ G,G=pz F ((frm:Int)+(p:Int)) (cY N++cY N):=⟨_,rfl⟩;rw[<-hG]at hw;have hGs:pt G:=by rw[hG];exact pd a2 hasF hhl
 have hGn:G.n=D.n:=by rw[hG,<-a3];rfl
 obtain⟨s1,s2,s3,s4⟩:=iO hGs;have htn:iG F L.frm N=dm G:=by
  unfold iG;have e0:N.getD 0 0=((k+1:Nat):Int):=by rw[eN];rfl
  rw[f1,e0,hp,<-hpp,hw];simp
 have hbec:cQ D L (all++b) nt' all.length=(0,(dm G).2):=by
  unfold cQ;rw[Zo (by rw[a1];simp),<-hF,<-hN,htn,Zo (by rw[s1];simp)]
 have happ:bW D L all b nt'=⟨0,(dm G).2,nQ L (all++b) nt',all++b⟩:=by
  unfold bW;rw[f4,f3,f2,Zo (by simp),Zo (by omega),Zo (by omega),hbec];rfl
 rw[happ];refine⟨s4.trans hGn,fun j hj=>?_⟩;show(dm G).2.now[j]?=_;rw[s3,hG,Dt a2.ok hasF hhl (by rw[ei p,Y7];omega)];exact ao j (by omega)
theorem gw.fz {D D':DM} {frm:Nat} {n:Int} {k:Nat} {all nt:List Int} (h:gw D frm n k all nt) (hs:pt D') (hn:D'.n=D.n) (hsame:∀ j:Nat,64*(frm:Int)<=j->(j:Int)<64*(frm+n)->D'.now[j]?=D.now[j]?):gw D' frm n k all nt:=by
 obtain⟨r1,r2⟩:=h.rng;have hl:=h.len;have rd:∀ q:Nat,q<2->bZ D' frm (64*(n-2)) (q:Int)=bZ D frm (64*(n-2)) (q:Int):=by
  intro q hq;refine wG h.sure hs hn (by unfold DM.has;simp only[Zc];omega) (uf fun j h1 h2=>hsame j ?_ ?_)
  .omega
  .omega
 refine⟨hs,⟨r1,by rw[hn];exact r2⟩,hl,h.note,?_,?_,fun t z ht=>?_⟩
 .rw[rd _ (by omega)];exact h.cur
 .have e1:bZ D' frm (64*(n-2)) 1=bZ D frm (64*(n-2)) 1:=rd 1 (by omega);rw[rd _ (by omega),e1];exact h.oth
 .have hlt:=(Zi.1 ht).1;rw[hsame _ (by omega) (by omega)];exact h.bytes t z ht
end Go.Proofs.YtomdimlnggpgbaaGreatDoor.D
namespace Go.Proofs.YtomdimlnggpgbaaGreatDoor
open Go Go.Sx Go.Pk
open Go.Proofs.YtomdimlnggpgbaaGreatDoor.D hiding bw aM gC
theorem O6 {r rest:List Int} (h:r.length<=4096):tx (bq r++rest)=(r,rest,false):=by
 have e:fV (bq r++rest)=(r.length,(ak r.length).length):=by
  unfold fV bq;rw[ZK,sM (by omega)];rfl
 have hp:=C3 r.length;unfold tx kV;rw[e,Zo]
 .show(((bq r++rest).drop (ak r.length).length).take r.length,(bq r++rest).drop ((ak r.length).length+r.length),false)=_;unfold bq;rw[ZK,aba rfl,abq rfl,<-aaZ,aba rfl,aba rfl]
 .show ¬(false=true\/(ak r.length).length=0\/(4096:Int)<0\/min (min 4096 4096) (((bq r++rest).length:Int)-((ak r.length).length:Nat))<((r.length:Nat):Int));have:(bq r++rest).length=(ak r.length).length+r.length+rest.length:=by unfold bq;simp;omega
  rw[this];simp only[Z5,false_or];omega
theorem FI (r:List Int) (rows:List (List Int)):cE (r::rows)=bq r++cE rows:=rfl
theorem rN (a b:List (List Int)):cE (a++b)=cE a++cE b:=by unfold cE;rw[ZP,abi]
theorem um:∀ {rows:List (List Int)},iu rows->iC (cE rows)=rows
 | [],_=>rfl
 | r::rows,h=>by
  have hr:=h r (ZJ ..);have hp:=C3 r.length;rw[FI,zL (by intro e;have:=ZW List.length e;unfold bq at this;rw[Y9,Y9]at this;simp only[Zh]at this;omega),O6 hr,Zo (by simp)];show r::iC (cE rows)=_;rw[um fun s hs=>h s (Zu _ hs)]
theorem Dl {rows:List (List Int)} (h:∀ r∈rows,aS r):aS (cE rows):=by
 intro z hz;unfold cE at hz;obtain⟨l,hl,hz⟩:=abE.1 hz;obtain⟨r,hr,rfl⟩:=ZV.1 hl;unfold bq at hz;rcases ZT.1 hz with h1 | h1
 .exact zh _ z h1
 .exact h r hr z h1
structure SP (D:DM) (S:SM) (n:Nat) (g:Int) (K:Nat) where
 fA:Nat
 kA:Nat
 ntA:List Int
 fB:Nat
 kB:Nat
 ntB:List Int
 hn:D.n/2=n
 n3:3<=n
 place:(fA=0/\fB=n/\fk (ntB.take 8)<=g)\/(fA=n/\fB=0/\fk (ntB.take 8)<g)
 hA:gw D fA n kA S.bA ntA
 hB:gw D fB n kB S.bB ntB
 eA:S.LA=⟨fA,64*((n:Int)-2),kA,S.bA.length,ntA,false⟩
 eB:S.LB=⟨fB,64*((n:Int)-2),kB,S.bB.length,ntB,false⟩
 pk:S.bA=cE S.recs
 ok:iu S.recs
 ov:S.over=false
 gen:fk (ntA.take 8)=g
 g0:0<=g/\g<=K
 kK:kA<=K/\kB<=K
 loose:D.loose=[]
 b1:aS S.bA
 b2:aS S.bB
theorem SP.open {D:DM} {S:SM} {n:Nat} {g:Int} {K:Nat} (h:SP D S n g K):fm D=0/\fT D=S/\aS (kZ D)/\aS (gT D):=by
 obtain⟨fA,kA,ntA,fB,kB,ntB,hn,n3,place,hA,hB,eA,eB,pk,ok,ov,gen,g0,kK,loose,b1,b2⟩:=h;have hE:fm D=0:=by
  unfold fm;rw[hn,hA.sure.gone,Zo (by omega)];rfl
 have hSx:S=Tj S.LA S.bA S.LB S.bB:=by
  unfold Tj;rw[pk,um ok,<-pk,<-ov]
 have gA:qd S.LA=g:=by unfold qd;rw[eA];exact gen
 rcases place with ⟨rfl,rfl,hg⟩ | ⟨rfl,rfl,hg⟩
 .have e1:qj D=S.LA:=by unfold qj;rw[hn,eA];exact hA.je
  have e2:jU D=S.LB:=by unfold jU;rw[hn,eB];exact hB.je
  have e3:kZ D=S.bA:=by unfold kZ;rw[hn];exact hA.jw
  have e4:gT D=S.bB:=by unfold gT;rw[hn];exact hB.jw
  refine⟨hE,?_,by rw[e3];exact b1,by rw[e4];exact b2⟩;unfold fT;rw[e1,e2,e3,e4,gA,Zo (by show ¬g<qd S.LB;unfold qd;rw[eB];show ¬g<fk (ntB.take 8);omega)];exact hSx.symm
 .have e1:qj D=S.LB:=by unfold qj;rw[hn,eB];exact hB.je
  have e2:jU D=S.LA:=by unfold jU;rw[hn,eA];exact hA.je
  have e3:kZ D=S.bB:=by unfold kZ;rw[hn];exact hB.jw
  have e4:gT D=S.bA:=by unfold gT;rw[hn];exact hA.jw
  refine⟨hE,?_,by rw[e3];exact b2,by rw[e4];exact b1⟩;unfold fT;rw[e1,e2,e3,e4,gA,ZA (by show qd S.LB<g;unfold qd;rw[eB];exact hg)];exact hSx.symm
def SP.more {D:DM} {S:SM} {n:Nat} {g:Int} {K K':Nat} (h:SP D S n g K) (hK:K<=K'):SP D S n g K' :=
 {h with g0:=⟨h.g0.1,by have:=h.g0.2;omega⟩,kK:=⟨by have:=h.kK.1;omega,by have:=h.kK.2;omega⟩}
theorem SP.apart {D:DM} {S:SM} {n:Nat} {g:Int} {K:Nat} (h:SP D S n g K):(h.fA:Int)+n<=h.fB\/(h.fB:Int)+n<=h.fA:=by
 rcases h.place with ⟨h1,h2,_⟩ | ⟨h1,h2,_⟩<;>omega
theorem SP.add {D:DM} {S:SM} {n:Nat} {g:Int} {K:Nat} (h:SP D S n g K) {rows:List (List Int)} (hk:iu rows) (hr:((cE rows).length:Int)<=64*((n:Int)-2)-S.bA.length) (hb:∀ r∈rows,aS r) (hK:K<1000000) :
 (dM D S rows).e=0/\(dM D S rows).S.recs=S.recs++rows/\Nonempty (SP (dM D S rows).D (dM D S rows).S n g (K+1)):=by
 by_cases hne:rows=[]
 .subst hne;have e:dM D S []=⟨0,D,S⟩:=by
   unfold dM;rw[Zo (by rw[h.ov];simp),Zo (fun h'=>h' hk),ZA rfl]
  rw[e];exact⟨rfl,(aau _).symm,⟨h.more (by omega)⟩⟩
 have hcap:((S.bA.length:Nat):Int)+((cE rows).length:Nat)<=64*((n:Int)-2):=by omega
 have hkA:h.kA<1000000:=by have:=h.kK.1;omega
 obtain⟨a1,a2,a3,a4⟩:=h.hA.append (b:=cE rows) (nt':=h.ntA) hcap hkA h.hA.note;obtain⟨o1,o2⟩:=h.hA.out (b:=cE rows) (nt':=h.ntA) hcap hkA h.hA.note;rw[<-h.eA]at a1 a2 a3 a4 o1 o2;have eN:S.LA.note=h.ntA:=by rw[h.eA]
 have eM:S.LA.most=64*((n:Int)-2):=by rw[h.eA]
 obtain⟨c1,c2,c3⟩:=Nr (D:=D) (S:=S) (rows:=rows) h.ov hk hne (by rw[eM];exact hr) (by rw[eN];exact a1);rw[eN]at c2 c3;have hpb:S.bA++cE rows=cE (S.recs++rows):=by rw[h.pk,rN]
 refine⟨c1,by rw[c3],⟨?_⟩⟩;rw[c2,c3,a3,a4];refine⟨h.fA,h.kA+1,h.ntA,h.fB,h.kB,h.ntB,by rw[o1];exact h.hn,h.n3,h.place,a2,h.hB.fz a2.sure o1 fun j h1 h2=>o2 j ?_,rfl,h.eB,hpb,fun r hr=>?_,rfl,h.gen,⟨h.g0.1,by have:=h.g0.2;omega⟩,⟨by have:=h.kK.1;omega,by have:=h.kK.2;omega⟩,Aa a1,fun z hz=>?_,h.b2⟩
 .rcases h.apart with hp | hp<;>omega
 .rcases ZT.1 hr with h1 | h1
  .exact h.ok r h1
  .exact hk r h1
 .rcases ZT.1 hz with h1 | h1
  .exact h.b1 z h1
  .exact Dl hb z h1
theorem SP.new {m:Nat} (h:6<=m/\m<=16384):Nonempty (SP (fb m) (fT (fb m)) (m/2) 0 0)/\(fT (fb m)).recs=[]/\fm (fb m)=0:=by
 obtain⟨e1,e2⟩:=JP h;rw[e2];have hn:(fb m).n=m:=by show gE m=m;unfold gE;omega
 have hA:gw (fb m) 0 ((m/2:Nat):Int) 0 [] Pa:=mV (by omega) (by omega) (by omega);have hB:gw (fb m) (m/2) ((m/2:Nat):Int) 0 [] Pa:=mV (by omega) (by omega) (by omega);have hz:fk (Pa.take 8)=0:=by decide
 exact⟨⟨⟨0,0,Pa,m/2,0,Pa,by rw[hn],by omega,Or.inl ⟨rfl,rfl,by rw[hz];exact Zw 0⟩,hA,hB,rfl,rfl,rfl,fun r hr=>(by cases hr),rfl,hz,⟨Zw 0,Zw 0⟩,⟨ZB _,ZB _⟩,rfl,fun z hz=>(by cases hz),fun z hz=>(by cases hz)⟩⟩,rfl,e1⟩
end Go.Proofs.YtomdimlnggpgbaaGreatDoor
namespace Go.Proofs.YtomdimlnggpgbaaGreatDoor
open Go Go.Sx Go.Pk
open Go.Proofs.YtomdimlnggpgbaaGreatDoor.D (fk iD lC)
abbrev tv:Ck:=.int .u32
def TY (xs:List Value):Value:=match xs with
 | [.int _ x,.int _ n]=>.int .u32 (cm n.toNat x)
 | _=>.bool false
def TZ (xs:List Value):Prop:=match xs with
 | [.int _ x,.int _ n]=>okW x/\0<=n/\n<=32
 | _=>False
def mj:Sx.Spec:=pQ 102 [.one tv,.one (.int .i64)] [.one tv] TZ TY
def qG:Nd:=.and (.inv 0 [⟨10,0,.int .i64 (.var 0)⟩,⟨11,0,.int .i64 (.lit 0)⟩] []) (.havoc 0 0 2 (.and (.imp (.lt (.var 11) (.var 1)) (.back 0 0 [⟨10,0,.int .i64 (.wrap .u32 (.add (.wrap .u32 (.quo (.var 10) (.lit 2))) (.wrap .u32 (.mul (.rem (.var 10) (.lit 2)) (.lit 2147483648)))))⟩,⟨11,0,.int .i64 (.wrap .i64 (.add (.var 11) (.lit 1)))⟩] [])) (.imp (.not (.lt (.var 11) (.var 1))) (.post [] (.sv (.one (.int .u32 (.var 10))))))))
def yc:bU Tryz.prog [] 102 where
 Λ:=fun p=>if lp p then some ⟨0,[(0,.sv (.one (.int .u32 (.var 10)))),(5,TI .i64 (.var 11))],[],20⟩else none
 args:=(bf 0 [.one tv,.one (.int .i64)]).map .sv
 mem:=[]
 nv:=2
 nd:=qG
 ok:=by kernel_rfl
theorem zl (z:Int):∃ ρ:Env,Value.int .u32 z=((cu 0 [.one tv]).ev ρ)/\fg 0 [.one tv] ρ:=⟨⟨fun _=>z,fun _=>false,fun _=>.empty,fun _=>.tuple #[],fun _=>Hl.none⟩,rfl,trivial,trivial⟩
theorem ya:mj.OK Tryz.prog:=by
 refine jE (fun t h=>by cases h) yc rfl rfl rfl (fun q _ hN=>?_) (fun q hq hN=>⟨fun _ e=>∃ k:Nat,e.i 11=k/\(k:Int)<=q.i 1/\e.i 10=cm k (q.i 0),fun _ e=>(q.i 1-e.i 11).toNat,?_⟩)
 .obtain⟨ρ,h1,h2⟩:=zl (cm (q.i 1).toNat (q.i 0));exact⟨ρ,h1,h2⟩
 .have hN:okW (q.i 0)/\0<=q.i 1/\q.i 1<=32:=hN;obtain⟨h0,h1,h2⟩:=hN;show Nd.holds _ _ _ qG;unfold qG;simp only[Nd.holds,X.pre,X.rel,X.n,Src.ok,Src.len,Src.bG,Zy,Zm,ZG,Zx,Zp,Nat.reduceAdd,Zd,Zh,bn,bj,aJ,aU,aR,bm,aZ,bh,bg,bd,aV,ba,bk,aX,aW,aK,aY,ai,aj,aB,aF,aD,ar,aG,aQ,aP,aq,aI,az,aH,av,TV.ev,SV.ev,CV.ev,Zf,Zr,bx.hl];refine⟨⟨0,rfl,h1,rfl⟩,fun e g ⟨k,ek,hk,e10⟩=>?_⟩;rw[g.i 1,ek];refine⟨fun hlt=>⟨⟨k+1,?_,by omega,?_⟩,?_⟩,fun hge=>?_⟩
  .show IntKind.i64.wrap (e.i 11+1)=_;rw[ek,wrap_i64 (by omega) (by omega)];rfl
  .show IntKind.u32.wrap (IntKind.u32.wrap ((e.i 10).tdiv 2)+IntKind.u32.wrap ((e.i 10).tmod 2*2147483648))=pX (cm k (q.i 0));have hx:=D4 h0 k (by omega);have hy:=D4 h0 (k+1) (by omega);rw[e10];have hy:okW (pX (cm k (q.i 0))):=hy;generalize cm k (q.i 0)=x at hx hy;unfold okW at hx hy;unfold pX at hy ⊢;have d:x.tdiv 2=x/2:=aaH hx.1;have m:x.tmod 2=x%2:=aai hx.1;rw[d,m];have a:=oI (x:=x/2) ⟨by omega,by omega⟩;have b:=oI (x:=x%2*2147483648) ⟨by omega,by omega⟩;unfold dR at a b;rw[a,b];exact oI hy
  .show(q.i 1-IntKind.i64.wrap (e.i 11+1)).toNat<(q.i 1-(k:Int)).toNat;rw[ek,wrap_i64 (by omega) (by omega)];omega
  .have hk':(k:Int)=q.i 1:=by omega
   show Value.int .u32 (e.i 10)=Value.int .u32 (cm (q.i 1).toNat (q.i 0));rw[e10,<-hk',Y7]
def TH (xs:List Value):Value:=match xs with
 | [.int _ x,.int _ n]=>.int .u32 (cm (-n).toNat x)
 | _=>.bool false
def Wk (xs:List Value):Prop:=match xs with
 | [.int _ x,.int _ n]=>okW x/\n∈([-2,-6,-7,-11,-13,-17,-18,-19,-22,-25]:List Int)
 | _=>False
def F0:Sx.Spec:=pQ 207 [.one tv,.one (.int .i64)] [.one tv] Wk TH
def MI:Nd:=(fun a=>(fun b=>(.and (.e (.le (.lit 0) a)) (.and (.e (.le (.lit 0) b)) (.post [] (.sv (.one (.int .u32 (.bits .or .u32 (.shl .u32 (.var 0) a) (.shr .u32 (.var 0) b))))))):Nd)) (.wrap .u64 (.sub (.lit 32) a))) (.bits .and .u64 (.wrap .u64 (.var 1)) (.lit 31))
def Wl:bU Tryz.prog [] 207 where
 Λ:=aM
 args:=(bf 0 [.one tv,.one (.int .i64)]).map .sv
 mem:=[]
 nv:=2
 nd:=MI
 ok:=by kernel_rfl
theorem Rw {n:Nat} (h1:1<=n) (h2:n<=31) {x:Int} (hx:okW x) {s r:Int} (hs:s=((32-n:Nat):Int)) (hr:r=(n:Int)):cU .or .u32 (IntKind.u32.wrap (x*2 ^ (min s.toNat IntKind.u32.bits))) (x.fdiv (2 ^ (min r.toNat IntKind.u32.bits)))=cm n x:=by
 subst hs hr;have a:min ((32-n:Nat):Int).toNat IntKind.u32.bits=32-n:=by show min _ 32=_;omega
 have b:min ((n:Nat):Int).toNat IntKind.u32.bits=n:=by show min _ 32=_;omega
 rw[a,b];exact MJ hx h1 h2
theorem Ic:F0.OK Tryz.prog:=by
 refine jE (fun t h=>by cases h) Wl rfl rfl rfl (fun q _ hN=>?_) (fun q hq hN=>⟨fun _ _=>True,fun _ _=>0,?_⟩)
 .obtain⟨ρ,h1,h2⟩:=zl (cm (-(q.i 1)).toNat (q.i 0));exact⟨ρ,h1,h2⟩
 .have hN:okW (q.i 0)/\q.i 1∈([-2,-6,-7,-11,-13,-17,-18,-19,-22,-25]:List Int):=hN;obtain⟨h0,h1⟩:=hN;show Nd.holds _ _ _ MI;unfold MI;simp only[Nd.holds,X.pre,X.rel,X.n,Src.ok,Src.len,Src.bG,Zy,Zm,ZG,Zx,Zp,Nat.reduceAdd,Zd,Zh,bn,bj,aJ,aU,aR,bm,aZ,bh,bg,bd,aV,ba,bk,aX,aW,aK,aY,ai,aj,aB,aF,aD,ar,aG,aQ,aP,aq,aI,az,aH,av,TV.ev,SV.ev,CV.ev,Zf,Zr,bx.hl];have key:∀ k:Nat,1<=k->k<=31->q.i 1= -(k:Int)->cU .and .u64 (IntKind.u64.wrap (-(k:Int))) 31=((32-k:Nat):Int) ->
   0<=cU .and .u64 (IntKind.u64.wrap (q.i 1)) 31/\0<=IntKind.u64.wrap (32-cU .and .u64 (IntKind.u64.wrap (q.i 1)) 31) /\
   Value.int .u32 (cU .or .u32 (IntKind.u32.wrap (q.i 0*2 ^ (min (cU .and .u64 (IntKind.u64.wrap (q.i 1)) 31).toNat IntKind.u32.bits))) ((q.i 0).fdiv (2 ^ (min (IntKind.u64.wrap (32-cU .and .u64 (IntKind.u64.wrap (q.i 1)) 31)).toNat IntKind.u32.bits))))=Value.int .u32 (cm (-(q.i 1)).toNat (q.i 0)):=by
   intro k k1 k2 e hb;rw[e,hb];have hw:IntKind.u64.wrap (32-((32-k:Nat):Int))=k:=by rw[nD (by omega) (by omega)];omega
   rw[hw,Rw k1 k2 h0 rfl rfl];exact⟨by omega,by omega,by rw[show(-(-(k:Int))).toNat=k by omega]⟩
  simp only[Zl,Zq,ZO]at h1;rcases h1 with h | h | h | h | h | h | h | h | h | h
  .exact key 2 (by decide) (by decide) h (by decide)
  .exact key 6 (by decide) (by decide) h (by decide)
  .exact key 7 (by decide) (by decide) h (by decide)
  .exact key 11 (by decide) (by decide) h (by decide)
  .exact key 13 (by decide) (by decide) h (by decide)
  .exact key 17 (by decide) (by decide) h (by decide)
  .exact key 18 (by decide) (by decide) h (by decide)
  .exact key 19 (by decide) (by decide) h (by decide)
  .exact key 22 (by decide) (by decide) h (by decide)
  .exact key 25 (by decide) (by decide) h (by decide)
end Go.Proofs.YtomdimlnggpgbaaGreatDoor
namespace Go.Proofs.YtomdimlnggpgbaaGreatDoor
open Go Go.Sx Go.Pk
open Go.Proofs.YtomdimlnggpgbaaGreatDoor.D (fk iD lC fx)
def yO:Sx.Spec where
 fn:=209
 own:=[]
 rd:=[0]
 res:=[.one (.int .u64)]
 pre:=fun xs Hs Rs=>∃ u bs R,xs=[u]/\Rs=[R]/\fp R u bs/\bs.length<=1000
 post:=fun xs Hs Rs v Hs' F=>∃ u bs R,xs=[u]/\Rs=[R]/\fp R u bs/\v=.int .u64 (fk bs)
def EV:Nd:=(fun a b=>(.and (.e (.le b (.var 2))) (.and (.inv 0 [⟨10,0,.int .i64 b⟩,⟨11,0,.int .i64 b⟩] []) (.havoc 0 0 5 (.and (.imp (.lt a (.var 2)) (.and (.e (.le b (.var 0))) (.and (.e (.le b (.var 1))) (.and (.e (.le b a)) (.and (.e (.his 4 (.var 0) (.add (.var 1) a) 0 (.int .u8))) (.back 0 0 [⟨10,0,.int .i64 (.bits .or .u64 (.shl .u64 (.var 10) (.lit 8)) (.wrap .u64 (.hI 4 (.var 0) (.add (.var 1) a) 0)))⟩,⟨11,0,.int .i64 (.wrap .i64 (.add a (.lit 1)))⟩] [])))))) (.imp (.not (.lt a (.var 2))) (.post [.ro 4 [.var 0] true] (.sv (.one (.int .u64 (.var 10))))))))):Nd)) (.var 11) (.lit 0)
def CA:bU Tryz.prog [] yO.fn where
 Λ:=fun p=>if lp p then some ⟨0,[(3,TI .u64 (.var 10)),(8,TI .i64 (.var 11))],[],12⟩else none
 args:=[.sv (.one (.sl (.var 0) (.var 1) (.var 2) (.var 3)))]
 mem:=[.ro 4 [.var 0] true]
 nv:=5
 nd:=EV
 ok:=by kernel_rfl
def NU (bs:List Int) (_:Nat) (q:Env):Prop:=∃ k:Nat,k<=bs.length/\q.i 11=k/\q.i 10=fk (bs.take k)
theorem Lf:yO.OK Tryz.prog:=by
 refine Spec.bJ (Γ:=[]) (fun _ h=>by cases h) ?_;rintro xs Hs Rs hl1 hl2 ⟨u,bs,R,rfl,rfl,⟨x,y,cp,rfl,hy,hR⟩,hlen⟩;have e0:Hs=[]:=Za.1 hl1;subst e0;refine⟨CA,bw [x,y,bs.length,cp] false [Hl.none,Hl.none,Hl.none,Hl.none,R],NU bs,fun _ q=>(bs.length-q.i 11).toNat,?_,⟨?_,?_,?_,?_⟩,(fun _ h=>nomatch h),?_⟩
 .show [Value.slice (aA x y) ((bs.length:Int)).toNat ((cp:Int)).toNat]=_;rw[Y7,Y7]
 .intro r hr ho;simp [CA]at hr;subst hr;cases ho
 .intro r hr ho;simp [CA]at hr;subst hr;exact⟨R,by simp,Hl.le_refl _⟩
 .simp [CA]
 .intro r hr;simp [CA]at hr;subst hr;trivial
 .show Nd.holds _ _ _ EV;generalize hρ:bw [x,y,bs.length,cp] false [Hl.none,Hl.none,Hl.none,Hl.none,R]=ρ;have v0:ρ.i 0=x:=by rw[<-hρ];rfl
  have v1:ρ.i 1=y:=by rw[<-hρ];rfl
  have v2:ρ.i 2=bs.length:=by rw[<-hρ];rfl
  have w4:ρ.h 4=R:=by rw[<-hρ];rfl
  unfold EV;simp only[Nd.holds,X.pre,X.rel,X.n,Src.ok,Src.len,Src.bG,Zy,Zm,ZG,Zx,Zp,Nat.reduceAdd,Zd,Zh,bn,bj,aJ,aU,aR,bm,aZ,bh,bg,bd,aV,ba,bk,aX,aW,aK,aY,ai,aj,aB,aF,aD,ar,aG,aQ,aP,aq,aI,az,aH,av,TV.ev,SV.ev,CV.ev,Zf,Zr,bx.hl];rw[v2];refine⟨by omega,⟨0,by omega,rfl,rfl⟩,fun q g ⟨k,hk,h11,h10⟩=>?_⟩;rw[g.i 0,g.i 1,g.i 2,g.h 4,v0,v1,v2,w4,h11];refine⟨fun hlt=>?_,fun hge=>?_⟩
  .have hk':k<bs.length:=by omega
   have hxr:0<=x/\∀ j z,bs[j]?=some z->R.cell x.toNat (y.toNat+j)=some (.int .u8 z):=by
    rcases hR with h | h
    .subst h;simp at hk'
    .exact h
   have hc:R.cell x.toNat (y+k).toNat=some (.int .u8 bs[k]):=by
    rw[show(y+(k:Int)).toNat=y.toNat+k by omega];exact hxr.2 _ _ (Y8 hk')
   rw[hc];refine⟨hxr.1,hy,by omega,rfl,⟨k+1,by omega,?_,?_⟩,?_⟩
   .show IntKind.i64.wrap (q.i 11+1)=_;rw[h11];exact wrap_i64 (by omega) (by omega)
   .show iD (q.i 10) (cW ((q.h 4).cell (q.i 0).toNat (q.i 1+q.i 11).toNat))=_;rw[h10,g.i 0,g.i 1,g.h 4,v0,v1,w4,h11,hc,lC bs k hk'];rfl
   .show((bs.length:Int)-IntKind.i64.wrap (q.i 11+1)).toNat<_;rw[h11,wrap_i64 (by omega) (by omega)];omega
  .have e:k=bs.length:=by omega
   subst e;rw[aad]at h10;refine fun _=>⟨[],[],rfl,rfl,⟨⟨fun _=>q.i 10,fun _=>false,fun _=>.empty,fun _=>.tuple #[],fun _=>Hl.none⟩,rfl,trivial,trivial⟩,_,bs,R,rfl,rfl,⟨x,y,cp,rfl,hy,hR⟩,?_⟩;show Value.int .u64 (q.i 10)=_;rw[h10]
theorem UJ {a b c d:Int} (ha:0<=a/\a<256) (hb:0<=b/\b<256) (hc:0<=c/\c<256) (hd:0<=d/\d<256):fk [a,b,c,d]=a*16777216+b*65536+c*256+d:=by
 show iD (iD (iD (iD 0 a) b) c) d=_;have e1:iD 0 a=a:=by rw[fx (by omega) (by omega) ha.1 ha.2];omega
 rw[e1,fx (n:=a) (c:=b) ha.1 (by omega) hb.1 hb.2];rw[fx (n:=a*256+b) (c:=c) (by omega) (by omega) hc.1 hc.2];rw[fx (n:=(a*256+b)*256+c) (c:=d) (by omega) (by omega) hd.1 hd.2];omega
theorem NS {bs:List Int} (hl:bs.length=64) {k:Nat} (hk:k<16):(bs.drop (4*k)).take 4=[bs.getD (4*k) 0,bs.getD (4*k+1) 0,bs.getD (4*k+2) 0,bs.getD (4*k+3) 0]:=by
 apply ZN;intro j;rw[Z2];have key:∀ i,i<4->(bs.drop (4*k))[i]?=some (bs.getD (4*k+i) 0):=fun i hi=>by
  rw[ZZ,Zt,Y8 (by omega)];rfl
 match j with
 | 0=>exact key 0 (by omega)
 | 1=>exact key 1 (by omega)
 | 2=>exact key 2 (by omega)
 | 3=>exact key 3 (by omega)
 | j+4=>rw[Zo (by omega)];rfl
theorem J6 {bs:List Int} (hl:bs.length=64) (hb:aS bs) {k:Nat} (hk:k<16):IntKind.u32.wrap (fk ((bs.drop (4*k)).take 4))=D9 bs k:=by
 have g:∀ i,i<64->0<=bs.getD i 0/\bs.getD i 0<256:=fun i hi=>by
  rw[Zt,Y8 (by omega),aav];exact hb _ (aay _)
 rw[NS hl hk,UJ (g _ (by omega)) (g _ (by omega)) (g _ (by omega)) (g _ (by omega))];rfl
theorem H7 {R:Hl} {x y:Int} {l c:Nat} {bs:List Int} (h:fp R (.slice (aA x y) l c) bs) (hx:-1<=x) (hy:0<=y) {o n:Nat} (hn:o+n<=bs.length) {y':Int} (hy':n=0\/y'=y+o) (h0:0<=y') (c':Nat):fp R (.slice (aA x y') n c') ((bs.drop o).take n):=by
 have hl:((bs.drop o).take n).length=n:=by rw[ZE,ZX];omega
 obtain⟨x1,y1,c1,e,hy1,h⟩:=h;rcases hy' with rfl | rfl
 .exact⟨x,y',c',by rw[aa0];rfl,h0,Or.inl (aa0 ..)⟩
 .refine⟨x,y+o,c',by rw[hl],h0,?_⟩;by_cases hz:n=0
  .subst hz;exact Or.inl (aa0 ..)
  simp only[Value.slice.injEq]at e;obtain⟨ep,el,_⟩:=e;rcases h with rfl | ⟨hx1,hc⟩
  .simp at hn;omega
  obtain⟨rfl,hyy⟩:=jG hx hy (by omega) hy1 ep;obtain rfl:=hyy hx1;refine Or.inr ⟨hx1,fun j z hz=>?_⟩;have hj:j<n:=by have:=(Zi.1 hz).1;omega
  rw[Z9 hj,ZZ]at hz;have:=hc _ _ hz;rw[show(y+(o:Int)).toNat+j=y.toNat+(o+j)by omega];exact this
def GM (l:List Int):List Value:=l.map (Value.int .u32)
def wH (b:Nat) (l:List Int) (T:TypeId):Hl:=Hl.one b (.cells (GM l).toArray T (0,0))
theorem Ix (b:Nat) (l:List Int) (T:TypeId) (j:Nat):(wH b l T).cell b j=(l[j]?).map (Value.int .u32):=by
 unfold wH GM;rw[Hl.j7,aae,Zs]
theorem zR {b:Nat} {l:List Int} {T:TypeId} {j:Nat} {z:Int} (h:l[j]?=some z):(wH b l T).cell b j=some (.int .u32 z):=by rw[Ix,h];rfl
theorem BM {b:Nat} {l:List Int} {T:TypeId} {y:Nat} (h:y<l.length) (z:Int):(wH b l T).put b y [Value.int .u32 z]=wH b (l.set y z) T:=by
 unfold wH GM;rw[Hl.AY]
 congr 2
 apply ZW;apply ZN;intro j;rw[Sx.qB (by simp;omega),ach];simp only[Zd,Zh,abt,ZD,Zs];by_cases h2:j=y
 .subst h2;rw[ZA (by omega),ZA rfl,ZA h];simp
 .rw[Zo (by omega),Zo (by omega)]
theorem Iy {b:Nat} {l:List Int} {T:TypeId} {y:Nat} (h:y<l.length):(wH b l T).wr b y 1=true:=Hl.FF _ _ _ _ _ (by simp [GM];omega)
theorem sS:∀ {n:Nat} (l:List Int),l.length=n->bS (GM l) (List.replicate n (Kd.int .u32))
 | 0,[],_=>trivial
 | n+1,z::l,h=>⟨by simp [bY],sS l (by simpa using h)⟩
theorem Ga {n:Nat} (l:List Int) (h:l.length=n):bS (GM l) ((List.replicate n tv).map jA):=by rw[abp];exact sS l h
def IB (bs:List Int) (k:Nat) (l:List Int):Prop:=l.length=64/\∀ j,j<k->l[j]?=some ((bu bs 64).getD j 0)
theorem IB.set {bs l:List Int} {k:Nat} (h:IB bs k l) (hk:k<64) {z:Int} (hz:z=if k<16 then D9 bs k else zS (bu bs k) k):IB bs (k+1) (l.set k z):=by
 refine⟨by rw[List.length_set];exact h.1,fun j hj=>?_⟩;rw[abt];by_cases e:k=j
 .subst e;rw[ZA rfl,ZA (by rw[h.1];exact hk),kg bs 64 k hk,hz]
 .rw[Zo e];exact h.2 j (by omega)
theorem DP {bs:List Int} (n j:Nat) (h:j<n):okW ((bu bs n).getD j 0):=by
 rw[kg bs n j h];split
 .exact yi _
 .exact yi _
def rZ:Sx.Spec where
 fn:=206
 own:=[]
 rd:=[0]
 res:=[.agg (List.replicate 64 tv)]
 pre:=fun xs Hs Rs=>∃ x y c bs R,xs=[.slice (aA x y) 64 c]/\Rs=[R]/\fp R (.slice (aA x y) 64 c) bs/\bs.length=64/\64<=c/\aS bs/\0<=y/\ -1<=x
 post:=fun xs Hs Rs v Hs' F=>∀ u bs R,xs=[u]->Rs=[R]->fp R u bs->v=.agg (GM (bu bs 64)).toArray
def xW:Nd:=(fun m g t j u v w=>(fun h i c d b s=>(fun a r k l=>(fun f n o p q=>(.ext (.alloc 5) (.ext (.alloc 6) (.ext (.IX 7 (.bD 6 (List.replicate 64 (CV.int .u32 j)) 172)) (.and (.inv 0 [⟨50,0,.int .i64 j⟩] [(51,some 7)]) (.havoc 0 0 8 (.and (.imp (.lt t (.lit 16)) (.and (.e (.le (.lit (-1)) (.var 0))) (.and (.e (.le j (.var 1))) (.and (.e (.le j b)) (.and (.e (.le b r)) (.and (.e (.le r (.var 3))) (.and (.pre f) (.ext f (.and (.e (.le j g)) (.and (.e (.le j t)) (.and (.pre s) (.ext s (.back 0 0 [⟨50,0,.int .i64 (.wrap .i64 (.add t (.lit 1)))⟩] [(51,some 61)]))))))))))))) (.imp (.not (.lt t (.lit 16))) (.and (.inv 1 [⟨70,0,.int .i64 (.lit 16)⟩] [(71,some 51)]) (.havoc 0 1 60 (.and (.imp (.lt m u) (.and (.e (.le j g)) (.and (.e (.le j c)) (.and (.e (.lt c u)) (.and (.e (.his 71 g c 0 w)) (.and (.e (.le j d)) (.and (.e (.lt d u)) (.and (.e (.his 71 g d 0 w)) (.and (.pre q) (.ext q (.and (.pre n) (.ext n (.and (.pre o) (.ext o (.and (.pre p) (.ext p (.and (.e (.le j h)) (.and (.e (.lt h u)) (.and (.e (.his 71 g h 0 w)) (.and (.e (.le j i)) (.and (.e (.lt i u)) (.and (.e (.his 71 g i 0 w)) (.and (.e (.le j m)) (.and (.pre a) (.ext a (.back 0 1 [⟨70,0,.int .i64 (.wrap .i64 (.add m (.lit 1)))⟩] [(71,some 84)])))))))))))))))))))))))))) (.imp (.not (.lt m u)) (.and (.e (.le j g)) (.and (.e (.hks 71 g j v)) (.post [.ro 4 [.var 0] true,.dead,.hp 71 [] [.var 6] []] (.sv (.agg (bo 71 g j 0 v)))))))))))))))):Nd)) (.call 1 60 [.sv (.one (.sl (.var 0) (.ite (.eq (.var 3) b) (.var 1) (.add (.var 1) b)) (.sub r b) (.sub (.var 3) b)))] [] [.ro 4 [.var 0] true]) (.call 0 81 [.sv k,.sv (.one (.int .i64 (.lit (-18))))] [] []) (.call 0 82 [.sv l,.sv (.one (.int .i64 (.lit (-17))))] [] []) (.call 0 83 [.sv l,.sv (.one (.int .i64 (.lit (-19))))] [] []) (.call 0 80 [.sv k,.sv (.one (.int .i64 (.lit (-7))))] [] [])) (.put 84 71 g m [.int .u32 (.wrap .u32 (.add (.wrap .u32 (.add (.wrap .u32 (.add (.hI 71 g h 0) (.bits .xor .u32 (.bits .xor .u32 (.var 80) (.var 81)) (.shr .u32 (.hI 71 g c 0) (.lit 3))))) (.hI 71 g i 0))) (.bits .xor .u32 (.bits .xor .u32 (.var 82) (.var 83)) (.shr .u32 (.hI 71 g d 0) (.lit 10)))))]) (.wrap .i64 (.add b (.lit 4))) (.one (.int .u32 (.hI 71 g c 0))) (.one (.int .u32 (.hI 71 g d 0)))) (.wrap .i64 (.sub m (.lit 16))) (.wrap .i64 (.sub m (.lit 7))) (.wrap .i64 (.sub m (.lit 15))) (.wrap .i64 (.sub m (.lit 2))) (.wrap .i64 (.mul (.lit 4) t)) (.put 61 51 g t [.int .u32 (.wrap .u32 (.var 60))])) (.var 70) (.var 6) (.var 50) (.lit 0) (.lit 64) (List.replicate 64 (Kd.int .u32)) (.int .u32)
def So:List Sx.Spec:=[F0,yO]
theorem RM:∀ t∈So,t.OK Tryz.prog:=fun t ht=>by
 simp only[So,Zl,Zq,ZO]at ht;rcases ht with rfl | rfl
 .exact Ic
 .exact Lf
def r5:bU Tryz.prog So rZ.fn where
 Λ:=fun p=>if lp p then(if Kg p [206,1,1,0,1,0]then some ⟨0,[(10,TI .i64 (.var 50))],[(2,.hp 51 [] [.var 6] [])],60⟩else some ⟨1,[(5,TI .i64 (.var 70))],[(2,.hp 71 [] [.var 6] [])],80⟩)else none
 args:=[.sv (.one (.sl (.var 0) (.var 1) (.var 2) (.var 3)))]
 mem:=[.ro 4 [.var 0] true]
 nv:=5
 nd:=xW
 ok:=by kernel_rfl
theorem W7:So[0]?=some F0:=rfl
theorem W8:So[1]?=some yO:=rfl
theorem TO:F0.res=[.one tv]:=rfl
theorem W9:yO.res=[.one (.int .u64)]:=rfl
theorem iV {x:Int} (h:okW x) {n:Int} (hn:n∈([-2,-6,-7,-11,-13,-17,-18,-19,-22,-25]:List Int)):F0.pre [.int .u32 x,.int .i64 n] [] []:=⟨⟨⟨fun i=>if i=0 then x else n,fun _=>false,fun _=>.empty,fun _=>.tuple #[],fun _=>Hl.none⟩,⟨trivial,trivial,trivial⟩,rfl⟩,h,hn⟩
theorem IW {u v:Value} {bs:List Int} {R F:Hl} {K:List Hl} (h:fp R u bs) (hp:yO.post [u] [] [R] v K F):v=.int .u64 (fk bs):=by
 obtain⟨u',bs',R',e1,e2,h',hv⟩:=hp;simp only[Ze,Zm]at e1 e2;subst e1 e2;rw[hv,h'.uniq h]
theorem IB.get {bs l:List Int} {k:Nat} (h:IB bs k l) {j:Nat} (hj:j<k) (hk:k<=64):l[j]?=some ((bu bs k).getD j 0):=by
 rw[h.2 j hj,DO bs (by omega) hj]
theorem IB.all {bs l:List Int} (h:IB bs 64 l):l=bu bs 64:=by
 apply ZN;intro j;by_cases hj:j<64
 .rw[h.2 j hj,Zt,Y8 (by rw[dz];exact hj)];rfl
 .rw[Zv (by rw[h.1];omega),Zv (by rw[dz];omega)]
theorem WJ {x:Int} (h:okW x):x.fdiv (2 ^ (min (Int.toNat 3) IntKind.u32.bits))=x/8:=aap _ (by decide)
theorem TM {x:Int} (h:okW x):x.fdiv (2 ^ (min (Int.toNat 10) IntKind.u32.bits))=x/1024:=aap _ (by decide)
theorem Gu:rZ.OK Tryz.prog:=by
 refine Spec.bJ (Γ:=So) RM ?_;rintro xs Hs Rs hl1 hl2 ⟨x,y,c,bs,R,rfl,rfl,hR,hlen,hc,hb,hy,hx⟩;have e0:Hs=[]:=Za.1 hl1;subst e0;refine⟨r5,bw [x,y,64,c] false [Hl.none,Hl.none,Hl.none,Hl.none,R],
  fun j q=>match j with
   | 0=>∃ (k:Nat) (l:List Int),q.i 50=k/\k<=16/\IB bs k l/\q.h 51=wH (q.i 6).toNat l 172
   | _=>∃ (k:Nat) (l:List Int),q.i 70=k/\16<=k/\k<=64/\IB bs k l/\q.h 71=wH (q.i 6).toNat l 172,
  fun j q=>match j with
   | 0=>(16-q.i 50).toNat
   | _=>(64-q.i 70).toNat,?_,⟨?_,?_,?_,?_⟩,(fun _ h=>nomatch h),?_⟩
 .show [Value.slice (aA x y) (Int.toNat 64) ((c:Int)).toNat]=_;rw[Y7];rfl
 .intro r hr ho;simp [r5]at hr;subst hr;cases ho
 .intro r hr ho;simp [r5]at hr;subst hr;exact⟨R,by simp,Hl.le_refl _⟩
 .simp [r5]
 .intro r hr;simp [r5]at hr;subst hr;trivial
 .show Nd.holds _ _ _ xW;generalize hρ:bw [x,y,64,c] false [Hl.none,Hl.none,Hl.none,Hl.none,R]=ρ;have V:∀ q:Env,ah 5 ρ q->q.i 0=x/\q.i 1=y/\q.i 2=64/\q.i 3=c/\q.h 4=R:=fun q hg=>by
   rw[hg.i 0,hg.i 1,hg.i 2,hg.i 3,hg.h 4,<-hρ];exact⟨rfl,rfl,rfl,rfl,rfl⟩
  clear hρ;unfold xW;simp only[Nd.holds,X.pre,X.rel,X.n,Src.ok,Src.len,Src.bG,Zy,Zm,ZG,Zx,Zp,Nat.reduceAdd,Zd,Zh,bn,bj,aJ,aU,aR,bm,aZ,bh,bg,bd,aV,ba,bk,aX,aW,aK,aY,ai,aj,aB,aF,aD,ar,aG,aQ,aP,aq,aI,az,aH,av,TV.ev,SV.ev,CV.ev,Zf,Zr,bx.hl,cu,Cp.sv,Ck.cv,bf,Cp.len,Ck.len,aE,aN,aT,W7,W8,TO,W9];intro q1 g1 _ q2 g2 p6 q3 g3 h7;have G3:ah 5 ρ q3:=g1.trans (g2.mono.tr g3);refine⟨⟨0,List.replicate 64 0,rfl,by omega,⟨by simp,fun j hj=>by omega⟩,?_⟩,fun q4 g4 ⟨k,l,e50,hk,hW,hh⟩=>?_⟩
  .show q3.h 7=wH (q3.i 6).toNat _ _;rw[h7,g3.i 6];rfl
  have G4:ah 5 ρ q4:=G3.tr g4;obtain⟨v0,v1,v2,v3,w4⟩:=V q4 G4;have p6':0<=q4.i 6:=by rw[g4.i 6,g3.i 6];exact p6
  rw[v0,v1,v3,w4,e50];refine⟨fun hlt=>?_,fun hge=>?_⟩
  .have hk4:IntKind.i64.wrap (4*(k:Int))=4*k:=wrap_i64 (by omega) (by omega);have hk5:IntKind.i64.wrap (4*(k:Int)+4)=4*k+4:=wrap_i64 (by omega) (by omega);rw[hk4,hk5];have hsub:=H7 hR hx hy (o:=4*k) (n:=4) (by omega) (y':=y+(4*k:Nat)) (Or.inr rfl) (by omega) ((c:Int)-4*k).toNat;have e4:((4:Int)*k+4-4*k).toNat=4:=by omega
   rw[Zo (by omega),e4];rw[show y+((4*k:Nat):Int)=y+4*(k:Int)by omega]at hsub;refine⟨by omega,hy,by omega,by omega,by omega,⟨_,_,R,rfl,rfl,hsub,by rw[ZE];omega⟩,fun q5 g5 ⟨F,p5,_,_⟩=>?_⟩;have e60:q5.i 60=fk ((bs.drop (4*k)).take 4):=by
    have:=IW hsub p5;simpa using this
   have j50:q5.i 50=k:=by rw[g5.i 50,e50]
   have j6:q5.i 6=q4.i 6:=g5.i 6;have hl:=hW.1;rw[j6,j50,g5.h 51,hh,Y7];refine⟨p6',by omega,⟨p6',by omega,Iy (by omega)⟩,fun q6 g6 h61=>?_⟩;have ew:IntKind.i64.wrap (q6.i 50+1)=((k+1:Nat):Int):=by rw[g6.i 50,j50,wrap_i64 (by omega) (by omega)];rfl
   refine⟨⟨k+1,_,ew,by omega,hW.set (z:=IntKind.u32.wrap (q5.i 60)) (by omega) ?_,?_⟩,?_⟩
   .rw[ZA (by omega),e60];exact J6 hlen hb (by omega)
   .show q6.h 61=wH (q6.i 6).toNat _ _;rw[h61,BM (by omega),g6.i 6,j6]
   .show(16-IntKind.i64.wrap (q6.i 50+1)).toNat<_;rw[ew];omega
  .refine⟨⟨16,l,rfl,ZB _,by omega,?_,hh⟩,fun q5 g5 ⟨k,l,e70,hk1,cX,hW,hh⟩=>?_⟩
   .have:k=16:=by omega
    subst this;exact hW
   have p6'':0<=q5.i 6:=by rw[g5.i 6];exact p6'
   have hl:=hW.1;refine⟨fun hlt=>?_,fun hge=>?_⟩
   .have rd:∀ {q:Env},ah 80 q5 q->∀ d:Nat,1<=d->d<=16->(q.h 71).cell (q.i 6).toNat (IntKind.i64.wrap (q.i 70-d)).toNat=some (.int .u32 ((bu bs k).getD (k-d) 0)):=fun {q} hg d h1 h2=>by
     rw[hg.h 71,hg.i 6,hg.i 70,e70,hh,wrap_i64 (by omega) (by omega),show((k:Int)-d).toNat=k-d by omega];exact zR (hW.get (by omega) (by omega))
    have ok:∀ d:Nat,1<=d->d<=16->okW ((bu bs k).getD (k-d) 0):=fun d h1 h2=>DP _ _ (by omega);have wd:∀ d:Nat,1<=d->d<=16->IntKind.i64.wrap (q5.i 70-d)=(k:Int)-d:=fun d h1 h2=>by rw[e70,wrap_i64 (by omega) (by omega)]
    have r15:=fun {q:Env} (hg:ah 80 q5 q)=>rd hg 15 (by omega) (by omega);have r2:=fun {q:Env} (hg:ah 80 q5 q)=>rd hg 2 (by omega) (by omega);have r16:=fun {q:Env} (hg:ah 80 q5 q)=>rd hg 16 (by omega) (by omega);have r7:=fun {q:Env} (hg:ah 80 q5 q)=>rd hg 7 (by omega) (by omega);have w15:IntKind.i64.wrap (q5.i 70-15)=(k:Int)-15:=wd 15 (by omega) (by omega);have w2:IntKind.i64.wrap (q5.i 70-2)=(k:Int)-2:=wd 2 (by omega) (by omega);have v15:∀ {q:Env},ah 80 q5 q->cW ((q.h 71).cell (q.i 6).toNat (IntKind.i64.wrap (q.i 70-15)).toNat)=(bu bs k).getD (k-15) 0:=fun hg=>by
     have:=r15 hg;rw[show((15:Nat):Int)=15 from rfl]at this;rw[this];rfl
    have v2:∀ {q:Env},ah 80 q5 q->cW ((q.h 71).cell (q.i 6).toNat (IntKind.i64.wrap (q.i 70-2)).toNat)=(bu bs k).getD (k-2) 0:=fun hg=>by
     have:=r2 hg;rw[show((2:Nat):Int)=2 from rfl]at this;rw[this];rfl
    have v16:∀ {q:Env},ah 80 q5 q->(q.h 71).cell (q.i 6).toNat (IntKind.i64.wrap (q.i 70-16)).toNat=some (.int .u32 ((bu bs k).getD (k-16) 0)):=fun hg=>r16 hg;have v7:∀ {q:Env},ah 80 q5 q->(q.h 71).cell (q.i 6).toNat (IntKind.i64.wrap (q.i 70-7)).toNat=some (.int .u32 ((bu bs k).getD (k-7) 0)):=fun hg=>r7 hg;have u15:(q5.h 71).cell (q5.i 6).toNat ((k:Int)-15).toNat=some (.int .u32 ((bu bs k).getD (k-15) 0)):=by rw[<-w15];exact r15 (ah.refl _ _)
    have u2:(q5.h 71).cell (q5.i 6).toNat ((k:Int)-2).toNat=some (.int .u32 ((bu bs k).getD (k-2) 0)):=by rw[<-w2];exact r2 (ah.refl _ _)
    rw[w15,w2,u15,u2];refine⟨p6'',by omega,by omega,rfl,by omega,by omega,rfl,iV (ok 15 (by omega) (by omega)) (by decide),fun q6 g6 ⟨_,p6,_,_⟩=>?_⟩;rw[v15 g6];refine⟨iV (ok 15 (by omega) (by omega)) (by decide),fun q7 g7 ⟨_,p7,_,_⟩=>?_⟩;have G7:ah 80 q5 q7:=g6.tr g7;rw[v2 G7];refine⟨iV (ok 2 (by omega) (by omega)) (by decide),fun q8 g8 ⟨_,p8,_,_⟩=>?_⟩;have G8:ah 80 q5 q8:=G7.tr g8;rw[v2 G8];refine⟨iV (ok 2 (by omega) (by omega)) (by decide),fun q9 g9 ⟨_,p9,_,_⟩=>?_⟩;have G9:ah 80 q5 q9:=G8.tr g9;have e80:q9.i 80=cm 7 ((bu bs k).getD (k-15) 0):=by
     rw[g9.i 80,g8.i 80,g7.i 80];have h:Value.int .u32 (q6.i 80)=.int .u32 (cm 7 (cW (some (Value.int .u32 ((bu bs k).getD (k-15) 0))))):=p6;simpa [cW] using h
    have e81:q9.i 81=cm 18 ((bu bs k).getD (k-15) 0):=by
     rw[g9.i 81,g8.i 81];have h:Value.int .u32 (q7.i 81)=.int .u32 (cm 18 ((bu bs k).getD (k-15) 0)):=p7;simpa using h
    have e82:q9.i 82=cm 17 ((bu bs k).getD (k-2) 0):=by
     rw[g9.i 82];have h:Value.int .u32 (q8.i 82)=.int .u32 (cm 17 ((bu bs k).getD (k-2) 0)):=p8;simpa using h
    have e83:q9.i 83=cm 19 ((bu bs k).getD (k-2) 0):=by
     have h:Value.int .u32 (q9.i 83)=.int .u32 (cm 19 ((bu bs k).getD (k-2) 0)):=p9;simpa using h
    have j70:q9.i 70=k:=by rw[G9.i 70,e70]
    have j6:q9.i 6=q5.i 6:=G9.i 6;have w16:IntKind.i64.wrap (q9.i 70-16)=(k:Int)-16:=by rw[j70,wrap_i64 (by omega) (by omega)]
    have w7:IntKind.i64.wrap (q9.i 70-7)=(k:Int)-7:=by rw[j70,wrap_i64 (by omega) (by omega)]
    have u16:=v16 G9;have u7:=v7 G9;rw[w16]at u16;rw[w7]at u7;have vz:IntKind.u32.wrap (IntKind.u32.wrap (IntKind.u32.wrap ((bu bs k).getD (k-16) 0+jJ (q9.i 80) (q9.i 81) ((bu bs k).getD (k-15) 0/8))+(bu bs k).getD (k-7) 0)+jJ (q9.i 82) (q9.i 83) ((bu bs k).getD (k-2) 0/1024))=zS (bu bs k) k:=by
     rw[e80,e81,e82,e83];rfl
    have x1:aC q9 (E.bits BinOp.xor IntKind.u32 (E.bits BinOp.xor IntKind.u32 (E.var 80) (E.var 81)) (E.shr IntKind.u32 (E.hI 71 (E.var 6) (E.wrap IntKind.i64 ((E.var 70).sub (E.lit 15))) 0) (E.lit 3)))=jJ (q9.i 80) (q9.i 81) ((bu bs k).getD (k-15) 0/8):=by
     show jJ (q9.i 80) (q9.i 81) ((cW ((q9.h 71).cell (q9.i 6).toNat ((IntKind.i64.wrap (q9.i 70-15)).toNat))).fdiv (2 ^ (min (Int.toNat 3) IntKind.u32.bits)))=_;rw[v15 G9,WJ (ok 15 (by omega) (by omega))]
    have x2:aC q9 (E.bits BinOp.xor IntKind.u32 (E.bits BinOp.xor IntKind.u32 (E.var 82) (E.var 83)) (E.shr IntKind.u32 (E.hI 71 (E.var 6) (E.wrap IntKind.i64 ((E.var 70).sub (E.lit 2))) 0) (E.lit 10)))=jJ (q9.i 82) (q9.i 83) ((bu bs k).getD (k-2) 0/1024):=by
     show jJ (q9.i 82) (q9.i 83) ((cW ((q9.h 71).cell (q9.i 6).toNat ((IntKind.i64.wrap (q9.i 70-2)).toNat))).fdiv (2 ^ (min (Int.toNat 10) IntKind.u32.bits)))=_;rw[v2 G9,TM (ok 2 (by omega) (by omega))]
    have hh9:q9.h 71=wH (q5.i 6).toNat l 172:=by rw[G9.h 71,hh]
    rw[w16,w7,u16,u7,x1,x2,j6,j70,Y7,hh9];refine⟨by omega,by omega,rfl,by omega,by omega,rfl,by omega,⟨p6'',by omega,Iy (by omega)⟩,fun q10 g10 h84=>?_⟩;have h84:q10.h 84=(wH (q5.i 6).toNat l 172).put (q5.i 6).toNat k [Value.int .u32 (IntKind.u32.wrap (IntKind.u32.wrap (IntKind.u32.wrap ((bu bs k).getD (k-16) 0+jJ (q9.i 80) (q9.i 81) ((bu bs k).getD (k-15) 0/8))+(bu bs k).getD (k-7) 0)+jJ (q9.i 82) (q9.i 83) ((bu bs k).getD (k-2) 0/1024)))]:=h84;rw[vz,BM (by omega)]at h84;have ew:IntKind.i64.wrap (q10.i 70+1)=((k+1:Nat):Int):=by rw[g10.i 70,j70,wrap_i64 (by omega) (by omega)];rfl
    refine⟨⟨k+1,_,ew,by omega,by omega,hW.set (by omega) (by rw[Zo (by omega)]),?_⟩,?_⟩
    .show q10.h 84=wH (q10.i 6).toNat _ _;rw[h84,g10.i 6,j6]
    .show(64-IntKind.i64.wrap (q10.i 70+1)).toNat<(64-q5.i 70).toNat;rw[ew,e70];omega
   .have ek:k=64:=by omega
    subst ek;obtain⟨S,hS⟩:∃ S,S=bu bs 64:=⟨_,rfl⟩;have hSl:S.length=64:=by rw[hS];exact dz bs 64
    have el:l=S:=by rw[hS];exact hW.all
    have aL:bS (GM S) (List.replicate 64 (Kd.int .u32)):=sS S hSl;have hcell:∀ j u,(GM S)[j]?=some u->(q5.h 71).cell (q5.i 6).toNat (0+j)=some u:=fun j u hu=>by
     rw[hh,el,Ix,ZM,<-Zs];exact hu
    have ev:(bo 71 (E.var 6) (E.lit 0) 0 (List.replicate 64 (Kd.int .u32))).map (CV.ev q5)=GM S:=fj _ _ 0 aL fun i u hu=>by
     show(q5.h 71).cell (q5.i 6).toNat (Int.toNat 0+(0+i))=_;rw[show Int.toNat 0+(0+i)=0+i from ZM _];exact hcell i u hu
    obtain⟨ρ2,_,_,e2⟩:=dI (List.replicate 64 tv) 0 (GM S) q5 (Ga S hSl);refine⟨p6'',ke 0 aL hcell,fun _=>⟨[],[],rfl,rfl,⟨ρ2,?_,de _ _ _ (by decide),trivial⟩,fun u bs' R' h1 h2 h'=>?_⟩⟩
    .show Value.agg ((bo 71 (E.var 6) (E.lit 0) 0 (List.replicate 64 (Kd.int .u32))).map (CV.ev q5)).toArray=Value.agg ((al 0 (List.replicate 64 tv)).map (CV.ev ρ2)).toArray;rw[ev,e2]
    .simp only[Ze,Zm]at h1 h2;subst h1 h2;obtain rfl:=h'.uniq hR;show Value.agg ((bo 71 (E.var 6) (E.lit 0) 0 (List.replicate 64 (Kd.int .u32))).map (CV.ev q5)).toArray=_;rw[ev,hS]
end Go.Proofs.YtomdimlnggpgbaaGreatDoor
namespace Go.Proofs.YtomdimlnggpgbaaGreatDoor
open Go Go.Sx Go.Pk
def s8 (v:Wd):List Int:=(List.range 8).map v
theorem RF {v v':Wd} (h:s8 v=s8 v'):∀ j,j<8->v j=v' j:=fun j hj=>by
 have e:=ZW (fun l=>l[j]?) h;unfold s8 at e;simp only[Zs,ZI hj,ZS,Zj]at e;exact e
theorem MP {v v':Wd} (h:∀ j,j<8->v j=v' j):s8 v=s8 v':=aac fun j hj=>h j (ZQ.1 hj)
theorem rU {v v':Wd} (h:∀ j,j<8->v j=v' j) (w:List Int):∀ n j,j<8->dy v w n j=dy v' w n j
 | 0,j,hj=>h j hj
 | n+1,j,hj=>by
  have ih:=rU h w n;have eT:∀ k x,Gq (dy v w n) k x=Gq (dy v' w n) k x:=fun k x=>by
   unfold Gq;rw[ih 7 (by omega),ih 4 (by omega),ih 5 (by omega),ih 6 (by omega)]
  have eU:Nl (dy v w n)=Nl (dy v' w n):=by
   unfold Nl;rw[ih 0 (by omega),ih 1 (by omega),ih 2 (by omega)]
  match j,hj with
  | 0,_=>show dR (Gq _ _ _+Nl _)=dR (Gq _ _ _+Nl _);rw[eT,eU]
  | 4,_=>show dR (dy v w n 3+Gq _ _ _)=dR (dy v' w n 3+Gq _ _ _);rw[eT,ih 3 (by omega)]
  | 1,_=>exact ih 0 (by omega)
  | 2,_=>exact ih 1 (by omega)
  | 3,_=>exact ih 2 (by omega)
  | 5,_=>exact ih 4 (by omega)
  | 6,_=>exact ih 5 (by omega)
  | 7,_=>exact ih 6 (by omega)
theorem Fp {v v':Wd} (h:∀ j,j<8->v j=v' j) (m:List Int):∀ j,j<8->nA v m j=nA v' m j:=fun j hj=>by
 unfold nA;rw[h j hj,rU h _ _ j hj]
theorem RY {b:Nat} {l l':List Int} {T:TypeId} (h:wH b l T=wH b l' T):l=l':=by
 have e:=congrFun h b;unfold wH at e;rw[Hl.bF,Hl.bF]at e;simp only[Zj,Obj.cells.injEq,ZL,ZY,Zm]at e;unfold GM at e;exact(List.map_inj_right fun a b h=>by simpa using h).1 e
def uz (R:Hl) (g:Nat):Prop:=∀ j,j<64->R.cell g j=some (.int .u32 (BA.getD j 0))
def LV:Sx.Spec where
 fn:=197
 own:=[.arg 0]
 rd:=[1,2000005]
 res:=[]
 pre:=fun xs Hs Rs=>∃ (a:Nat) (v:Wd) (x y:Int) (c:Nat) (bs:List Int) (R RG:Hl),xs=[.pointer (some ⟨a,0,none⟩),.slice (aA x y) 64 c]/\Hs=[wH a (s8 v) 285]/\Rs=[R,RG]/\(∀ j,j<8->okW (v j))/\fp R (.slice (aA x y) 64 c) bs/\bs.length=64/\64<=c/\aS bs/\0<=y/\ -1<=x/\uz RG 5
 post:=fun xs Hs Rs w Hs' F=>∀ (a:Nat) (u:Value) (v:Wd) (bs:List Int) (R RG:Hl),xs=[.pointer (some ⟨a,0,none⟩),u]->Hs=[wH a (s8 v) 285]->Rs=[R,RG]->fp R u bs->Hs'=[wH a (s8 (nA v bs)) 285]
def LU:Nd:=(fun o f n d k p q=>(fun a b c=>(fun g h i j l m=>(.and (.pre d) (.ext d (.ext (.alloc 84) (.ext (.alloc 85) (.ext (.IX 86 (.bD 84 (al 20 (List.replicate 64 (Ck.int .u32))) 172)) (.and (.inv 0 (([⟨110,0,.int .i64 (.lit 0)⟩]:List As)++(Ub 87 (al 120 k) (al 10 k))) [(111,some 86)]) (.havoc 0 0 87 (.and (.imp (.lt f (.lit 64)) (.and (.pre l) (.ext l (.and (.pre g) (.ext g (.and (.pre h) (.ext h (.and (.e (.le (.lit 0) f)) (.and (.e (.his 6 (.lit 5) f 0 (.int .u32))) (.and (.e (.le (.lit 0) (.var 84))) (.and (.e (.his 111 (.var 84) f 0 (.int .u32))) (.and (.pre m) (.ext m (.and (.pre i) (.ext i (.and (.pre j) (.ext j (.back 0 0 (([⟨110,0,.int .i64 (.wrap .i64 (.add f (.lit 1)))⟩]:List As)++(Ub 87 (al 120 k) [.int .u32 (.wrap .u32 (.add a (.wrap .u32 (.add (.bits .xor .u32 (.bits .xor .u32 (.var 203) (.var 204)) (.var 205)) (.bits .xor .u32 (.bits .xor .u32 (.bits .and .u32 n p) (.bits .and .u32 n q)) (.bits .and .u32 p q)))))),.int .u32 n,.int .u32 p,.int .u32 q,.int .u32 (.wrap .u32 (.add (.var 123) a)),.int .u32 o,.int .u32 (.var 125),.int .u32 (.var 126)])) [(111,some 111)])))))))))))))))))) (.imp (.not (.lt f (.lit 64))) (.post [.bD 0 [.int .u32 (.wrap .u32 (.add (.var 10) n)),.int .u32 (.wrap .u32 (.add (.var 11) p)),.int .u32 (.wrap .u32 (.add (.var 12) q)),.int .u32 (.wrap .u32 (.add (.var 13) (.var 123))),.int .u32 (.wrap .u32 (.add (.var 14) o)),.int .u32 (.wrap .u32 (.add (.var 15) (.var 125))),.int .u32 (.wrap .u32 (.add (.var 16) (.var 126))),.int .u32 (.wrap .u32 (.add (.var 17) (.var 127)))] 285,.ro 5 [.var 1] true,.ro 6 [.lit 5] false,.hp 111 [] [.var 84] [],.dead] (.tup [])))))))))):Nd)) (.call 0 201 [.sv b,.sv (.one (.int .i64 (.lit (-11))))] [] []) (.call 0 202 [.sv b,.sv (.one (.int .i64 (.lit (-25))))] [] []) (.call 0 204 [.sv c,.sv (.one (.int .i64 (.lit (-13))))] [] []) (.call 0 205 [.sv c,.sv (.one (.int .i64 (.lit (-22))))] [] []) (.call 0 200 [.sv b,.sv (.one (.int .i64 (.lit (-6))))] [] []) (.call 0 203 [.sv c,.sv (.one (.int .i64 (.lit (-2))))] [] [])) (.wrap .u32 (.add (.wrap .u32 (.add (.wrap .u32 (.add (.wrap .u32 (.add (.var 127) (.bits .xor .u32 (.bits .xor .u32 (.var 200) (.var 201)) (.var 202)))) (.bits .xor .u32 (.bits .and .u32 o (.var 125)) (.bits .and .u32 (.bits .xor .u32 (.lit 4294967295) o) (.var 126))))) (.hI 6 (.lit 5) f 0))) (.hI 111 (.var 84) f 0))) (.one (.int .u32 o)) (.one (.int .u32 n))) (.var 124) (.var 110) (.var 120) (.call 1 20 [.sv (.one (.sl (.var 1) (.var 2) (.var 3) (.var 4)))] [] [.ro 5 [.var 1] true]) (List.replicate 8 (Ck.int .u32)) (.var 121) (.var 122)
def Sg:List Sx.Spec:=[F0,rZ]
theorem Q4:∀ t∈Sg,t.OK Tryz.prog:=fun t ht=>by
 simp only[Sg,Zl,Zq,ZO]at ht;rcases ht with rfl | rfl
 .exact Ic
 .exact Gu
def LW:bU Tryz.prog Sg LV.fn where
 Λ:=fun p=>if Kg p [197,1,1,0,1,0]then some ⟨0,[(17,TI .i64 (.var 110))],[(3,.hp 111 [] [.var 84] []),(4,.bD 85 (al 120 (List.replicate 8 tv)) 285)],200⟩else none
 args:=[TP (.var 0) (.lit 0),.sv (.one (.sl (.var 1) (.var 2) (.var 3) (.var 4)))]
 mem:=[.bD 0 (al 10 (List.replicate 8 tv)) 285,.ro 5 [.var 1] true,.ro 6 [.lit 5] false]
 nv:=20
 nd:=LU
 ok:=by kernel_rfl
theorem Vy:Sg[0]?=some F0:=rfl
theorem Vz:Sg[1]?=some rZ:=rfl
theorem VA:rZ.res=[.agg (List.replicate 64 tv)]:=rfl
def GP (q:Env) (n:Nat) (v:Wd):Prop:=∀ j,j<8->q.i (n+j)=v j
theorem JW {q:Env} {n:Nat} {v:Wd} (h:GP q n v):(al n (List.replicate 8 tv)).map (CV.ev q)=GM (s8 v):=by
 show [Value.int .u32 (q.i n),Value.int .u32 (q.i (n+1)),Value.int .u32 (q.i (n+1+1)),Value.int .u32 (q.i (n+1+1+1)),Value.int .u32 (q.i (n+1+1+1+1)),Value.int .u32 (q.i (n+1+1+1+1+1)),Value.int .u32 (q.i (n+1+1+1+1+1+1)),Value.int .u32 (q.i (n+1+1+1+1+1+1+1))]=[Value.int .u32 (v 0),Value.int .u32 (v 1),Value.int .u32 (v 2),Value.int .u32 (v 3),Value.int .u32 (v 4),Value.int .u32 (v 5),Value.int .u32 (v 6),Value.int .u32 (v 7)];rw[show q.i n=v 0 from h 0 (by omega),show q.i (n+1)=v 1 from h 1 (by omega),show q.i (n+1+1)=v 2 from h 2 (by omega),show q.i (n+1+1+1)=v 3 from h 3 (by omega),show q.i (n+1+1+1+1)=v 4 from h 4 (by omega),show q.i (n+1+1+1+1+1)=v 5 from h 5 (by omega),show q.i (n+1+1+1+1+1+1)=v 6 from h 6 (by omega),show q.i (n+1+1+1+1+1+1+1)=v 7 from h 7 (by omega)]
theorem GP.mono {q q':Env} {n m:Nat} {v:Wd} (h:GP q n v) (g:ah m q q') (hm:n+8<=m):GP q' n v:=fun j hj=>by rw[g.i _ (by omega)];exact h j hj
theorem Oc:LV.OK Tryz.prog:=by
 refine Spec.bJ (Γ:=Sg) Q4 ?_;rintro xs Hs Rs hl1 hl2 ⟨a,v,x,y,c,bs,R,RG,rfl,rfl,rfl,hv,hR,hlen,hc,hb,hy,hx,hK⟩;refine⟨LW,bw [a,x,y,64,c,0,0,0,0,0,v 0,v 1,v 2,v 3,v 4,v 5,v 6,v 7] false [Hl.none,Hl.none,Hl.none,Hl.none,Hl.none,R,RG],
  fun _ q=>∃ k:Nat,q.i 110=k/\k<=64/\GP q 120 (dy v (bu bs 64) k)/\q.h 111=wH (q.i 84).toNat (bu bs 64) 172,
  fun _ q=>(64-q.i 110).toNat,?_,⟨?_,?_,?_,?_⟩,(fun _ h=>nomatch h),?_⟩
 .show [Value.pointer (aA (a:Int) 0),Value.slice (aA x y) (Int.toNat 64) ((c:Int)).toNat]=_;rw[Y7,gM];rfl
 .intro r hr ho;simp [LW]at hr;rcases hr with rfl | rfl | rfl
  .exact⟨wH a (s8 v) _,Zn.2 rfl,Hl.le_refl (wH a (s8 v) 285)⟩
  .cases ho
  .cases ho
 .intro r hr ho;simp [LW]at hr;rcases hr with rfl | rfl | rfl
  .cases ho
  .exact⟨R,by simp,Hl.le_refl _⟩
  .exact⟨RG,by simp,Hl.le_refl _⟩
 .simp [LW,bx.own]
 .intro r hr;simp [LW]at hr;rcases hr with rfl | rfl | rfl
  .show(0:Int)<=a;omega
  .trivial
  .trivial
 .show Nd.holds _ _ _ LU;generalize hρ:bw [a,x,y,64,c,0,0,0,0,0,v 0,v 1,v 2,v 3,v 4,v 5,v 6,v 7] false [Hl.none,Hl.none,Hl.none,Hl.none,Hl.none,R,RG]=ρ;have V:∀ q:Env,ah 20 ρ q->q.i 0=a/\q.i 1=x/\q.i 2=y/\q.i 3=64/\q.i 4=c/\q.h 5=R/\q.h 6=RG/\GP q 10 v:=fun q hg=>by
   rw[hg.i 0,hg.i 1,hg.i 2,hg.i 3,hg.i 4,hg.h 5,hg.h 6];have h8:GP ρ 10 v:=fun j hj=>by
    rw[<-hρ]
    match j with
    | 0=>rfl
    | 1=>rfl
    | 2=>rfl
    | 3=>rfl
    | 4=>rfl
    | 5=>rfl
    | 6=>rfl
    | 7=>rfl
   refine⟨?_,?_,?_,?_,?_,?_,?_,h8.mono hg (by omega)⟩<;>rw[<-hρ]<;>rfl
  clear hρ;unfold LU;simp only[Nd.holds,X.pre,X.rel,X.n,Src.ok,Src.len,Src.bG,Zy,Zm,ZG,Zx,Zp,Nat.reduceAdd,Zd,Zh,bn,bj,aJ,aU,aR,bm,aZ,bh,bg,bd,aV,ba,bk,aX,aW,aK,aY,ai,aj,aB,aF,aD,ar,aG,aQ,aP,aq,aI,az,aH,av,TV.ev,SV.ev,CV.ev,Zf,Zr,bx.hl,cu,Cp.sv,Ck.cv,bf,Cp.len,Ck.len,aE,aN,aT,Vy,Vz,TO,VA];obtain⟨v0,v1,v2,v3,v4,w5,w6,h8⟩:=V ρ (ah.refl _ _);rw[v1,v2,v3,v4,w5,Y7];refine⟨⟨x,y,c,bs,R,rfl,rfl,hR,hlen,hc,hb,hy,hx⟩,fun q1 g1 ⟨_,p1,_,_⟩ q2 g2 p84 q3 g3 _ q4 g4 h86=>?_⟩;have p1:=p1 _ bs R rfl rfl hR;simp only[Value.agg.injEq,ZL,ZY]at p1;have G4:ah 20 ρ q4:=g1.trans (g2.mono.trans (g3.mono.tr g4));have A3:ah 84 q1 q3:=g2.tr g3;obtain⟨S,hS⟩:∃ S,S=bu bs 64:=⟨_,rfl⟩;rw[<-hS]at p1 ⊢;have h84:q4.h 86=wH (q4.i 84).toNat S 172:=by
   rw[h86,g4.i 84];unfold wH;rw[<-p1];have ag:(al 20 (List.replicate 64 tv)).map (CV.ev q3)=(al 20 (List.replicate 64 tv)).map (CV.ev q1):=by
    have h:Value.agg ((al 20 (List.replicate 64 tv)).map (CV.ev q3)).toArray=Value.agg ((al 20 (List.replicate 64 tv)).map (CV.ev q1)).toArray:=fQ (n:=20) (ks:=List.replicate 64 tv) A3 (by decide);rw[Value.agg.injEq]at h;exact ZW Array.toList h
   rw[<-ag]
  obtain⟨_,_,_,_,_,_,_,h10⟩:=V q4 G4;have p84:0<=q4.i 84:=by rw[g4.i 84,g3.i 84];exact p84
  refine⟨⟨0,rfl,by omega,fun j hj=>?_,h84⟩,fun q5 g5 ⟨k,e110,hk,h8k,h111⟩=>?_⟩
  .show _=v j;rw[<-h10 j hj]
   match j,hj with
   | 0,_=>rfl
   | 1,_=>rfl
   | 2,_=>rfl
   | 3,_=>rfl
   | 4,_=>rfl
   | 5,_=>rfl
   | 6,_=>rfl
   | 7,_=>rfl
  have G5:ah 20 ρ q5:=G4.tr g5;have p84':0<=q5.i 84:=by rw[g5.i 84];exact p84
  obtain⟨r,hr⟩:∃ r,r=dy v S k:=⟨_,rfl⟩;rw[<-hr]at h8k;have okr:∀ j,j<8->okW (r j):=by rw[hr];exact qw hv S k
  refine⟨fun hlt=>?_,fun hge=>?_⟩
  .have hk64:k<64:=by omega
   have r4:∀ {q:Env},ah 200 q5 q->q.i 124=r 4:=fun hg=>(h8k.mono hg (by omega)) 4 (by omega);have r0:∀ {q:Env},ah 200 q5 q->q.i 120=r 0:=fun hg=>(h8k.mono hg (by omega)) 0 (by omega);rw[r4 (ah.refl _ _)];refine⟨iV (okr 4 (by omega)) (by decide),fun q6 g6 ⟨_,p6,_,_⟩=>?_⟩;rw[r4 g6];refine⟨iV (okr 4 (by omega)) (by decide),fun q7 g7 ⟨_,p7,_,_⟩=>?_⟩;have G7:ah 200 q5 q7:=g6.tr g7;rw[r4 G7];refine⟨iV (okr 4 (by omega)) (by decide),fun q8 g8 ⟨_,p8,_,_⟩=>?_⟩;have G8:ah 200 q5 q8:=G7.tr g8;have cK:∀ {q:Env},ah 200 q5 q->(q.h 6).cell 5 (q.i 110).toNat=some (.int .u32 (BA.getD k 0)):=fun {q} hg=>by
    rw[hg.i 110,hg.h 6,(V q5 G5).2.2.2.2.2.2.1,e110,Y7];exact hK k hk64
   have cS:∀ {q:Env},ah 200 q5 q->(q.h 111).cell (q.i 84).toNat (q.i 110).toNat=some (.int .u32 (S.getD k 0)):=fun {q} hg=>by
    rw[hg.i 110,hg.i 84,hg.h 111,h111,e110,Y7];refine zR ?_;rw[Zt,Y8 (by rw[hS,dz];exact hk64)];rfl
   have e8:q8.i 110=k:=by rw[G8.i 110,e110]
   have j84:q8.i 84=q5.i 84:=G8.i 84;have cK8:=cK G8;have cK8:(q8.h 6).cell (Int.toNat 5) (q8.i 110).toNat=some (.int .u32 (BA.getD k 0)):=cK8;rw[cK8,cS G8,r0 G8];refine⟨by omega,rfl,by omega,rfl,iV (okr 0 (by omega)) (by decide),fun q9 g9 ⟨_,p9,_,_⟩=>?_⟩;have G9:ah 200 q5 q9:=G8.tr g9;rw[r0 G9];refine⟨iV (okr 0 (by omega)) (by decide),fun q10 g10 ⟨_,p10,_,_⟩=>?_⟩;have G10:ah 200 q5 q10:=G9.tr g10;rw[r0 G10];refine⟨iV (okr 0 (by omega)) (by decide),fun q11 g11 ⟨_,p11,_,_⟩=>?_⟩;have G11:ah 200 q5 q11:=G10.tr g11;have tn:∀ {q:Env} {n m:Nat} {x:Int},TH [Value.int .u32 x,.int .i64 (-(m:Int))]=Value.int .u32 (q.i n)->q.i n=cm m x:=fun {q n m x} h=>by
    have h:Value.int .u32 (cm (-(-(m:Int))).toNat x)=Value.int .u32 (q.i n):=h;rw[show(-(-(m:Int))).toNat=m by omega]at h;simpa using h.symm
   have e200:q11.i 200=cm 6 (r 4):=by rw[g11.i 200,g10.i 200,g9.i 200,g8.i 200,g7.i 200];exact tn (m:=6) p6.symm
   have e201:q11.i 201=cm 11 (r 4):=by rw[g11.i 201,g10.i 201,g9.i 201,g8.i 201];exact tn (m:=11) p7.symm
   have e202:q11.i 202=cm 25 (r 4):=by rw[g11.i 202,g10.i 202,g9.i 202];exact tn (m:=25) p8.symm
   have e203:q11.i 203=cm 2 (r 0):=by rw[g11.i 203,g10.i 203];exact tn (m:=2) p9.symm
   have e204:q11.i 204=cm 13 (r 0):=by rw[g11.i 204];exact tn (m:=13) p10.symm
   have e205:q11.i 205=cm 22 (r 0):=tn (m:=22) p11.symm;have s11:GP q11 120 r:=h8k.mono G11 (by omega);have eT:dR (dR (dR (dR (q11.i 127+jJ (q11.i 200) (q11.i 201) (q11.i 202))+cU .xor .u32 (ij (q11.i 124) (q11.i 125)) (ij (cU .xor .u32 4294967295 (q11.i 124)) (q11.i 126)))+cW ((q11.h 6).cell 5 (q11.i 110).toNat))+cW ((q11.h 111).cell (q11.i 84).toNat (q11.i 110).toNat))=Gq r (BA.getD k 0) (S.getD k 0):=by
    rw[cK G11,cS G11,e200,e201,e202,show q11.i 127=r 7 from s11 7 (by omega),show q11.i 124=r 4 from s11 4 (by omega),show q11.i 125=r 5 from s11 5 (by omega),show q11.i 126=r 6 from s11 6 (by omega),xor_not (okr 4 (by omega))];rfl
   have eU:dR (jJ (q11.i 203) (q11.i 204) (q11.i 205)+cU .xor .u32 (cU .xor .u32 (ij (q11.i 120) (q11.i 121)) (ij (q11.i 120) (q11.i 122))) (ij (q11.i 121) (q11.i 122)))=Nl r:=by
    rw[e203,e204,e205,show q11.i 120=r 0 from s11 0 (by omega),show q11.i 121=r 1 from s11 1 (by omega),show q11.i 122=r 2 from s11 2 (by omega)];rfl
   have ew:IntKind.i64.wrap (q11.i 110+1)=((k+1:Nat):Int):=by rw[G11.i 110,e110,wrap_i64 (by omega) (by omega)];rfl
   refine⟨⟨k+1,ew,by omega,fun j hj=>?_,?_⟩,?_⟩
   .show _=rY (dy v S k) (BA.getD k 0) (S.getD k 0) j;rw[<-hr]
    match j,hj with
    | 0,_ =>
     show dR (dR (dR (dR (dR (q11.i 127+jJ (q11.i 200) (q11.i 201) (q11.i 202))+cU .xor .u32 (ij (q11.i 124) (q11.i 125)) (ij (cU .xor .u32 4294967295 (q11.i 124)) (q11.i 126)))+cW ((q11.h 6).cell 5 (q11.i 110).toNat))+cW ((q11.h 111).cell (q11.i 84).toNat (q11.i 110).toNat))+dR (jJ (q11.i 203) (q11.i 204) (q11.i 205)+cU .xor .u32 (cU .xor .u32 (ij (q11.i 120) (q11.i 121)) (ij (q11.i 120) (q11.i 122))) (ij (q11.i 121) (q11.i 122))))=dR (Gq r _ _+Nl r);rw[eT,eU]
    | 4,_ =>
     show dR (q11.i 123+dR (dR (dR (dR (q11.i 127+jJ (q11.i 200) (q11.i 201) (q11.i 202))+cU .xor .u32 (ij (q11.i 124) (q11.i 125)) (ij (cU .xor .u32 4294967295 (q11.i 124)) (q11.i 126)))+cW ((q11.h 6).cell 5 (q11.i 110).toNat))+cW ((q11.h 111).cell (q11.i 84).toNat (q11.i 110).toNat)))=dR (r 3+Gq r _ _);rw[eT,show q11.i 123=r 3 from s11 3 (by omega)]
    | 1,_=>exact s11 0 (by omega)
    | 2,_=>exact s11 1 (by omega)
    | 3,_=>exact s11 2 (by omega)
    | 5,_=>exact s11 4 (by omega)
    | 6,_=>exact s11 5 (by omega)
    | 7,_=>exact s11 6 (by omega)
   .show q11.h 111=wH (q11.i 84).toNat S _;rw[G11.h 111,h111,G11.i 84]
   .show(64-IntKind.i64.wrap (q11.i 110+1)).toNat<(64-q5.i 110).toNat;rw[ew,e110];omega
  .have ek:k=64:=by omega
   subst ek;obtain⟨v0,_,_,_,_,_,_,h10⟩:=V q5 G5;refine fun _=>⟨[[0]],[],rfl,rfl,⟨⟨fun _=>0,fun _=>false,fun _=>.empty,fun _=>.tuple #[],fun _=>Hl.none⟩,rfl,trivial⟩,fun a' u v' bs' R' RG' e1 e2 e3 h'=>?_⟩;simp only[Ze,Value.pointer.injEq,Zj,Addr.mk.injEq,Zm]at e1 e2 e3;obtain⟨rfl,rfl⟩:=e1;obtain⟨rfl,rfl⟩:=e3;obtain rfl:=h'.uniq hR;have ev:=RF (RY e2);rw[<-MP (Fp ev bs')];have hr':∀ j,j<8->nA v bs' j=dR (v j+r j):=fun j hj=>by unfold nA;rw[<-hS,<-hr]
   have e8:[Value.int .u32 (dR (q5.i 10+q5.i 120)),Value.int .u32 (dR (q5.i 11+q5.i 121)),Value.int .u32 (dR (q5.i 12+q5.i 122)),Value.int .u32 (dR (q5.i 13+q5.i 123)),Value.int .u32 (dR (q5.i 14+q5.i 124)),Value.int .u32 (dR (q5.i 15+q5.i 125)),Value.int .u32 (dR (q5.i 16+q5.i 126)),Value.int .u32 (dR (q5.i 17+q5.i 127))]=GM (s8 (nA v bs')):=by
    show _=[Value.int .u32 (nA v bs' 0),Value.int .u32 (nA v bs' 1),Value.int .u32 (nA v bs' 2),Value.int .u32 (nA v bs' 3),Value.int .u32 (nA v bs' 4),Value.int .u32 (nA v bs' 5),Value.int .u32 (nA v bs' 6),Value.int .u32 (nA v bs' 7)];have k10:∀ j,j<8->q5.i (10+j)=v j:=h10;have k12:∀ j,j<8->q5.i (120+j)=r j:=h8k;rw[show q5.i 10=v 0 from k10 0 (by omega),show q5.i 120=r 0 from k12 0 (by omega),show q5.i 11=v 1 from k10 1 (by omega),show q5.i 121=r 1 from k12 1 (by omega),show q5.i 12=v 2 from k10 2 (by omega),show q5.i 122=r 2 from k12 2 (by omega),show q5.i 13=v 3 from k10 3 (by omega),show q5.i 123=r 3 from k12 3 (by omega),show q5.i 14=v 4 from k10 4 (by omega),show q5.i 124=r 4 from k12 4 (by omega),show q5.i 15=v 5 from k10 5 (by omega),show q5.i 125=r 5 from k12 5 (by omega),show q5.i 16=v 6 from k10 6 (by omega),show q5.i 126=r 6 from k12 6 (by omega),show q5.i 17=v 7 from k10 7 (by omega),show q5.i 127=r 7 from k12 7 (by omega)];rw[hr' 0 (by omega),hr' 1 (by omega),hr' 2 (by omega),hr' 3 (by omega),hr' 4 (by omega),hr' 5 (by omega),hr' 6 (by omega),hr' 7 (by omega)]
   refine ZW (fun x=>[x]) ((Hl.kP _).trans ?_);show Hl.one (q5.i 0).toNat (.cells [Value.int .u32 (dR (q5.i 10+q5.i 120)),Value.int .u32 (dR (q5.i 11+q5.i 121)),Value.int .u32 (dR (q5.i 12+q5.i 122)),Value.int .u32 (dR (q5.i 13+q5.i 123)),Value.int .u32 (dR (q5.i 14+q5.i 124)),Value.int .u32 (dR (q5.i 15+q5.i 125)),Value.int .u32 (dR (q5.i 16+q5.i 126)),Value.int .u32 (dR (q5.i 17+q5.i 127))].toArray _ (0,0))=_;rw[e8,v0,Y7];rfl
theorem Mi {F F':Hl} {v:Value} {L:Nat} {bs:List Int} {x' c' z:Int} {e:TypeId} (h:cH F e v bs) (hl:L=bs.length) (hr:∀ xs,bE F e 1 v L xs->bE F' e 1 (.slice (aA x' 0) (L+1) c'.toNat) (L+1) (xs++[Value.int .u8 z])):cH F' e (.slice (aA x' 0) (L+1) c'.toNat) (bs++[z]):=by
 unfold cH at h ⊢;subst hl;have:=hr _ h;rw[Y9,ZC];unfold bK at this ⊢;rw[ZP];exact this
def Ob (q:Env) (h a c:Nat) (L:Int) (bs:List Int):Prop:=cH (q.h h) 5 (.slice (aA (q.i a) 0) L.toNat (q.i c).toNat) bs/\L=bs.length/\ -1<=q.i a/\0<=q.i c
section
variable {q q':Env} {h a c n:Nat} {L L':Int} {bs:List Int}
theorem Ob.mono (o:Ob q h a c L bs) (g:ah n q q') (h1:h<n) (h2:a<n) (h3:c<n):Ob q' h a c L bs:=by
 unfold Ob;rw[g.h h h1,g.i a h2,g.i c h3];exact o
theorem Ob.cast (o:Ob q h a c L bs) (e:L=L'):Ob q h a c L' bs:=e▸o
theorem Ob.pre (o:Ob q h a c L bs) (hl:bs.length<=2000000):(∃ xs,bE (q.h h) 5 1 (.slice (aA (q.i a) 0) L.toNat (q.i c).toNat) L.toNat xs)/\0<=L/\L.toNat+1<=maxLen/\L.toNat+1<=140737488355328:=by
 obtain⟨o1,o2,_,_⟩:=o;have e:L.toNat=bs.length:=by omega
 refine⟨⟨bK bs,?_⟩,by omega,by unfold maxLen;omega,by omega⟩;unfold cH at o1;rw[e]at o1 ⊢;exact o1
theorem Ob.app (o:Ob q h a c L bs) {z:Int} (r:-1<=q'.i n/\0<=q'.i (n+1)/\(∀ xs,bE (q.h h) 5 1 (.slice (aA (q.i a) 0) L.toNat (q.i c).toNat) L.toNat xs->bE (q'.h n) 5 1 (.slice (aA (q'.i n) 0) (L.toNat+1) (q'.i (n+1)).toNat) (L.toNat+1) (xs++[Value.int .u8 z]))) (e:L'=L+1):Ob q' n n (n+1) L' (bs++[z]):=by
 subst e;obtain⟨r1,r2,r3⟩:=r;obtain⟨o1,o2,_,_⟩:=o;have hs:=Mi o1 (by omega) r3;refine⟨?_,by rw[Y9,ZC];omega,r1,r2⟩;rw[show(L+1).toNat=L.toNat+1 by omega];exact hs
end
theorem QH (n:Nat):(br n [Cp.one .sl]≠[])=True:=by simp [br,Cp.roots,Ck.root]
theorem CB {u v:Value} {bs:List Int} {R F:Hl} {K:List Hl} (h:fp R u bs) (hp:eX.post [u] [] [R] v K F):cH F 5 v bs:=by
 obtain⟨u',bs',R',e1,e2,h',ho⟩:=hp;simp only[Ze,Zm]at e1 e2;subst e1 e2;rw[h.uniq h'];exact ho
theorem Ab {n k:Nat} (hn:n<18446744073709551616) {s:Int} (hs:s=(k:Int)) (hk:k<=63) {x:Int} (hx:x=(n:Int)):IntKind.u8.wrap (x.fdiv (2 ^ (min s.toNat IntKind.u64.bits)))=((n/2 ^ k%256:Nat):Int):=by
 subst hs hx;have e:min ((k:Nat):Int).toNat IntKind.u64.bits=k:=by show min _ 64=_;omega
 have e2:((2:Int) ^ k)=((2 ^ k:Nat):Int):=by push_cast;rfl
 rw[e,e2,aap _ (aa4 _)];exact PO _
theorem tl {q:Env} {n k:Nat} {s:Int} (hw:IntKind.u64.wrap (8*IntKind.u64.wrap (q.i 2))=(n:Int)) (hn:n<18446744073709551616) (hs:s=(k:Int)) (hk:k<=63):IntKind.u8.wrap (aC q (E.shr .u64 (E.wrap .u64 ((E.lit 8).mul (E.wrap .u64 (E.var 2)))) (E.lit s)))=((n/2 ^ k%256:Nat):Int):=Ab hn hs hk hw
def zp:Sx.Spec where
 fn:=195
 own:=[]
 rd:=[0]
 res:=[.one .sl]
 pre:=fun xs Hs Rs=>∃ u bs R,xs=[u]/\Rs=[R]/\fp R u bs/\bs.length<=1000000
 post:=fun xs Hs Rs v Hs' F=>∃ u bs R,xs=[u]/\Rs=[R]/\fp R u bs/\cH F 5 v (fO bs)
def FL:Nd:=(fun a b n l o=>(fun c d f g h i q r p=>(fun j k m=>(.and (.pre o) (.ext o (.ext (.alloc 9) (.and (.pre l) (.ext l (.and (.inv 0 [⟨50,0,.int .i64 (.var 10)⟩,⟨51,0,.int .i64 (.add (.var 7) (.lit 1))⟩,⟨52,0,.int .i64 (.var 11)⟩] [(53,some 10)]) (.havoc 0 0 12 (.and (.e (.le n b)) (.and (.imp (.not p) (.ext (.alloc 60) (.and (.pre m) (.ext m (.back 0 0 [⟨50,0,.int .i64 (.var 61)⟩,⟨51,0,.int .i64 q⟩,⟨52,0,.int .i64 (.var 62)⟩] [(53,some 61)]))))) (.imp p (.and (.e (.le n (.var 2))) (.ext (.alloc 60) (.and (.pre k) (.ext k (.ext (.alloc 63) (.and (.pre j) (.ext j (.ext (.alloc 66) (.and (.pre i) (.ext i (.ext (.alloc 69) (.and (.pre h) (.ext h (.ext (.alloc 72) (.and (.pre g) (.ext g (.ext (.alloc 75) (.and (.pre f) (.ext f (.ext (.alloc 78) (.and (.pre d) (.ext d (.ext (.alloc 81) (.and (.pre c) (.ext c (.post [.ro 4 [.var 0] true,.hp 82 [79,76,73,70,67,64,61,53] [.var 82,.var 79,.var 76,.var 73,.var 70,.var 67,.var 64,.var 61,.var 50] [],.dead,.dead,.dead,.dead,.dead,.dead,.dead,.dead,.dead] (.sv (.one (.sl (.var 82) n (.add b (.lit 8)) (.var 83))))))))))))))))))))))))))))))))))))))):Nd)) (.app 64 5 1 1 (.sl (.var 61) n q (.var 62)) q (.hp 61 [53] [.var 61,.var 50] []) (.cvs [.int .u8 (.wrap .u8 (.shr .u64 a (.lit 48)))] 1)) (.app 61 5 1 1 r b (.hp 53 [] [.var 50] []) (.cvs [.int .u8 (.wrap .u8 (.shr .u64 a (.lit 56)))] 1)) (.app 61 5 1 1 r b (.hp 53 [] [.var 50] []) (.cvs [.int .u8 n] 1))) (.app 82 5 1 1 (.sl (.var 79) n (.add b (.lit 7)) (.var 80)) (.add b (.lit 7)) (.hp 79 [76,73,70,67,64,61,53] [.var 79,.var 76,.var 73,.var 70,.var 67,.var 64,.var 61,.var 50] []) (.cvs [.int .u8 (.wrap .u8 (.shr .u64 a n))] 1)) (.app 79 5 1 1 (.sl (.var 76) n (.add b (.lit 6)) (.var 77)) (.add b (.lit 6)) (.hp 76 [73,70,67,64,61,53] [.var 76,.var 73,.var 70,.var 67,.var 64,.var 61,.var 50] []) (.cvs [.int .u8 (.wrap .u8 (.shr .u64 a (.lit 8)))] 1)) (.app 76 5 1 1 (.sl (.var 73) n (.add b (.lit 5)) (.var 74)) (.add b (.lit 5)) (.hp 73 [70,67,64,61,53] [.var 73,.var 70,.var 67,.var 64,.var 61,.var 50] []) (.cvs [.int .u8 (.wrap .u8 (.shr .u64 a (.lit 16)))] 1)) (.app 73 5 1 1 (.sl (.var 70) n (.add b (.lit 4)) (.var 71)) (.add b (.lit 4)) (.hp 70 [67,64,61,53] [.var 70,.var 67,.var 64,.var 61,.var 50] []) (.cvs [.int .u8 (.wrap .u8 (.shr .u64 a (.lit 24)))] 1)) (.app 70 5 1 1 (.sl (.var 67) n (.add b (.lit 3)) (.var 68)) (.add b (.lit 3)) (.hp 67 [64,61,53] [.var 67,.var 64,.var 61,.var 50] []) (.cvs [.int .u8 (.wrap .u8 (.shr .u64 a (.lit 32)))] 1)) (.app 67 5 1 1 (.sl (.var 64) n (.add b (.lit 2)) (.var 65)) (.add b (.lit 2)) (.hp 64 [61,53] [.var 64,.var 61,.var 50] []) (.cvs [.int .u8 (.wrap .u8 (.shr .u64 a (.lit 40)))] 1)) (.add b (.lit 1)) (.sl (.var 50) n b (.var 52)) (.eq (.rem b (.lit 64)) (.lit 56))) (.wrap .u64 (.mul (.lit 8) (.wrap .u64 (.var 2)))) (.var 51) (.lit 0) (.app 10 5 1 1 (.sl (.var 5) (.var 6) (.var 7) (.var 8)) (.var 7) (.hp 5 [] [.var 5] []) (.cvs [.int .u8 (.lit 128)] 1)) (.call 0 5 [.sv (.one (.sl (.var 0) (.var 1) (.var 2) (.var 3)))] [] [.ro 4 [.var 0] true])
def Tv:List Sx.Spec:=[eX]
theorem Ra:∀ t∈Tv,t.OK Tryz.prog:=fun t ht=>by
 simp only[Tv,Zl,Zq,ZO]at ht;subst ht;exact jQ
def Dn:bU Tryz.prog Tv zp.fn where
 Λ:=fun p=>if Kg p [195,1,1,0,0]then some ⟨0,[(3,.sv (.one (.sl (.var 50) (.lit 0) (.var 51) (.var 52))))],[(1,.hp 53 [] [.var 50] [])],60⟩else none
 args:=[.sv (.one (.sl (.var 0) (.var 1) (.var 2) (.var 3)))]
 mem:=[.ro 4 [.var 0] true]
 nv:=5
 nd:=FL
 ok:=by kernel_rfl
theorem VL:Tv[0]?=some eX:=rfl
theorem VM:eX.res=[.one .sl]:=rfl
theorem Ml:zp.OK Tryz.prog:=by
 refine Spec.bJ (Γ:=Tv) Ra ?_;rintro xs Hs Rs hl1 hl2 ⟨u,bs,R,rfl,rfl,hR,hlen⟩;have e0:Hs=[]:=Za.1 hl1;subst e0;obtain⟨x,y,c,rfl,hy,_⟩:=id hR;refine⟨Dn,bw [x,y,bs.length,c] false [Hl.none,Hl.none,Hl.none,Hl.none,R],
  fun _ q=>∃ m:Nat,m<=(119-bs.length%64)%64/\q.i 51=bs.length+1+m/\ -1<=q.i 50/\0<=q.i 52/\cH (q.h 53) 5 (.slice (aA (q.i 50) 0) (q.i 51).toNat (q.i 52).toNat) (bs++[128]++List.replicate m 0),
  fun _ q=>((bs.length:Int)+100-q.i 51).toNat,?_,⟨?_,?_,?_,?_⟩,(fun _ h=>nomatch h),?_⟩
 .show [Value.slice (aA x y) ((bs.length:Int)).toNat ((c:Int)).toNat]=_;simp only[Y7]
 .intro r hr ho;simp [Dn]at hr;subst hr;cases ho
 .intro r hr ho;simp [Dn]at hr;subst hr;exact⟨R,by simp,Hl.le_refl _⟩
 .simp [Dn]
 .intro r hr;simp [Dn]at hr;subst hr;trivial
 .show Nd.holds _ _ _ FL;generalize hρ:bw [x,y,bs.length,c] false [Hl.none,Hl.none,Hl.none,Hl.none,R]=ρ;have V:∀ q:Env,ah 5 ρ q->q.i 0=x/\q.i 1=y/\q.i 2=bs.length/\q.i 3=c/\q.h 4=R:=fun q hg=>by
   rw[hg.i 0,hg.i 1,hg.i 2,hg.i 3,hg.h 4,<-hρ];exact⟨rfl,rfl,rfl,rfl,rfl⟩
  clear hρ;unfold FL;simp only[Nd.holds,X.pre,X.rel,X.n,Src.ok,Src.len,Src.bG,Zy,Zm,ZG,Zx,Zp,Nat.reduceAdd,Zd,Zh,bn,bj,aJ,aU,aR,bm,aZ,bh,bg,bd,aV,ba,bk,aX,aW,aK,aY,ai,aj,aB,aF,aD,ar,aG,aQ,aP,aq,aI,az,aH,av,TV.ev,SV.ev,CV.ev,Zf,Zr,bx.hl,cu,Cp.sv,Ck.cv,bf,Cp.len,Ck.len,aE,aN,aT,VL,VM,QH];obtain⟨v0,v1,v2,v3,w4⟩:=V ρ (ah.refl _ _);rw[v0,v1,v2,v3,w4,Y7,Y7];refine⟨⟨_,bs,R,rfl,rfl,hR,hlen⟩,fun q1 g1 ⟨F,p1,hF,hn1⟩ q2 g2 _=>?_⟩;have o1:=CB hR p1;rw[<-hF trivial]at o1;have hn1:-1<=q1.i 5/\0<=q1.i 6/\0<=q1.i 7/\0<=q1.i 8:=hn1.1;have hsh:=cH.shape o1;have hl7:q1.i 7=bs.length:=by
   obtain⟨_,hc⟩:=o1;rcases hc with ⟨e,e0⟩ | ⟨g,cap,cur,e,_⟩
   .simp only[Value.slice.injEq]at e;omega
   .simp only[Value.slice.injEq]at e;omega
  have hy6:aA (q1.i 5) (q1.i 6)=aA (q1.i 5) 0:=by
   rcases hsh with (h | ⟨h1,h2⟩) | h
   .rw[h];rfl
   .rw[show q1.i 6=0 by omega]
   .omega
  rw[hy6]at o1;have b2:Ob q2 5 5 8 (q2.i 7) bs:=by
   have o:Ob q1 5 5 8 (q1.i 7) bs:=⟨o1,hl7,hn1.1,hn1.2.2.2⟩;have:=o.mono g2 (by omega) (by omega) (by omega);rw[g2.i 7];exact this
  have e6:aA (q2.i 5) (q2.i 6)=aA (q2.i 5) 0:=by rw[g2.i 5,g2.i 6];exact hy6
  rw[e6];refine⟨b2.pre (by omega),fun q3 g3 ⟨r1,r2,r3,_⟩=>?_⟩;have b3:=b2.app ⟨r1,r2,r3⟩ rfl;have g7:q3.i 7=bs.length:=by rw[g3.i 7,g2.i 7,hl7]
  rw[show q2.i 7=q3.i 7 from (g3.i 7).symm]at b3;obtain⟨b31,b32,b33,b34⟩:=b3;refine⟨⟨0,by omega,?_,b33,b34,?_⟩,fun q4 g4 ⟨m,hm,e51,h50,h52,hO⟩=>?_⟩
  .show q3.i 7+1=_;rw[g7];omega
  .rw[acb,aau];exact b31
  have G4:ah 5 ρ q4:=g1.trans (g2.mono.trans (g3.mono.tr g4));have hml:(bs++[128]++List.replicate m 0).length=bs.length+1+m:=by rw[Y9,Y9,Z8];rfl
  have b4:Ob q4 53 50 52 (q4.i 51) (bs++[128]++List.replicate m 0):=⟨hO,by rw[hml,e51];omega,h50,h52⟩;have tm:(q4.i 51).tmod 64=((bs.length+1+m)%64:Nat):=by rw[e51,aai (by omega)];omega
  refine⟨by omega,fun hne=>?_,fun heq=>?_⟩
  .have hne:(q4.i 51).tmod 64≠56:=hne;rw[tm]at hne;intro q5 g5 _;have b5:=b4.mono g5 (by omega) (by omega) (by omega);rw[show q4.i 51=q5.i 51 from (g5.i 51).symm]at b5;refine⟨b5.pre (by rw[hml];omega),fun q6 g6 ⟨r1,r2,r3,_⟩=>?_⟩;have b6:=b5.app ⟨r1,r2,r3⟩ rfl;obtain⟨b61,b62,b63,b64⟩:=b6;have e6:q6.i 51=bs.length+1+m:=by rw[g6.i 51,g5.i 51,e51]
   rw[show q5.i 51=q6.i 51 from (g6.i 51).symm]at b61;refine⟨⟨m+1,by omega,?_,b63,b64,?_⟩,?_⟩
   .show q6.i 51+1=_;rw[e6];omega
   .rw[ab7,<-ZK];exact b61
   .show((bs.length:Int)+100-(q6.i 51+1)).toNat<((bs.length:Int)+100-q4.i 51).toNat;rw[e6,e51];omega
  .have heq:(q4.i 51).tmod 64=56:=heq;rw[tm]at heq;have em:m=(119-bs.length%64)%64:=by omega
   obtain⟨M,hM⟩:∃ M,M=bs++[128]++List.replicate m 0:=⟨_,rfl⟩;rw[<-hM]at b4 hml;have v2':q4.i 2=bs.length:=(V q4 G4).2.2.1;refine⟨by rw[v2'];omega,?_⟩;have wlen:∀ {q:Env},ah 5 ρ q->IntKind.u64.wrap (8*IntKind.u64.wrap (q.i 2))=((8*bs.length:Nat):Int):=fun {q} hg=>by
    rw[(V q hg).2.2.1,nD (x:=(bs.length:Int)) (by omega) (by omega),nD (by omega) (by omega)];omega
   intro q5 g5 _;have c0:=b4.mono g5 (by omega) (by omega) (by omega);rw[show q4.i 51=q5.i 51 from (g5.i 51).symm]at c0;have G5:ah 5 ρ q5:=G4.tr g5;refine⟨c0.pre (by omega),fun q6 g6 ⟨r1,r2,r3,_⟩=>?_⟩;have G6:ah 5 ρ q6:=G5.tr g6;rw[tl (q:=q5) (n:=8*bs.length) (k:=56) (s:=56) (wlen G5) (by omega) rfl (by omega)]at r3;have d0:=c0.app ⟨r1,r2,r3⟩ (L':=q5.i 51+1) rfl;intro q7 g7 _;have J7:q7.i 51=q5.i 51:=by rw[g7.i 51,g6.i 51]
   have c1:=(d0.mono g7 (by omega) (by omega) (by omega)).cast (L':=q7.i 51+1) (by rw[J7]);have G7:ah 5 ρ q7:=G6.tr g7;refine⟨c1.pre (by simp only[Y9,ZC];omega),fun q8 g8 ⟨r1,r2,r3,_⟩=>?_⟩;have G8:ah 5 ρ q8:=G7.tr g8;rw[tl (q:=q7) (n:=8*bs.length) (k:=48) (s:=48) (wlen G7) (by omega) rfl (by omega)]at r3;have d1:=c1.app ⟨r1,r2,r3⟩ (L':=q5.i 51+2) (by rw[J7];omega);intro q9 g9 _;have J9:q9.i 51=q5.i 51:=by rw[g9.i 51,g8.i 51,J7]
   have c2:=(d1.mono g9 (by omega) (by omega) (by omega)).cast (L':=q9.i 51+2) (by rw[J9]);have G9:ah 5 ρ q9:=G8.tr g9;refine⟨c2.pre (by simp only[Y9,ZC];omega),fun q10 g10 ⟨r1,r2,r3,_⟩=>?_⟩;have G10:ah 5 ρ q10:=G9.tr g10;rw[tl (q:=q9) (n:=8*bs.length) (k:=40) (s:=40) (wlen G9) (by omega) rfl (by omega)]at r3;have d2:=c2.app ⟨r1,r2,r3⟩ (L':=q5.i 51+3) (by rw[J9];omega);intro q11 g11 _;have J11:q11.i 51=q5.i 51:=by rw[g11.i 51,g10.i 51,J9]
   have c3:=(d2.mono g11 (by omega) (by omega) (by omega)).cast (L':=q11.i 51+3) (by rw[J11]);have G11:ah 5 ρ q11:=G10.tr g11;refine⟨c3.pre (by simp only[Y9,ZC];omega),fun q12 g12 ⟨r1,r2,r3,_⟩=>?_⟩;have G12:ah 5 ρ q12:=G11.tr g12;rw[tl (q:=q11) (n:=8*bs.length) (k:=32) (s:=32) (wlen G11) (by omega) rfl (by omega)]at r3;have d3:=c3.app ⟨r1,r2,r3⟩ (L':=q5.i 51+4) (by rw[J11];omega);intro q13 g13 _;have J13:q13.i 51=q5.i 51:=by rw[g13.i 51,g12.i 51,J11]
   have c4:=(d3.mono g13 (by omega) (by omega) (by omega)).cast (L':=q13.i 51+4) (by rw[J13]);have G13:ah 5 ρ q13:=G12.tr g13;refine⟨c4.pre (by simp only[Y9,ZC];omega),fun q14 g14 ⟨r1,r2,r3,_⟩=>?_⟩;have G14:ah 5 ρ q14:=G13.tr g14;rw[tl (q:=q13) (n:=8*bs.length) (k:=24) (s:=24) (wlen G13) (by omega) rfl (by omega)]at r3;have d4:=c4.app ⟨r1,r2,r3⟩ (L':=q5.i 51+5) (by rw[J13];omega);intro q15 g15 _;have J15:q15.i 51=q5.i 51:=by rw[g15.i 51,g14.i 51,J13]
   have c5:=(d4.mono g15 (by omega) (by omega) (by omega)).cast (L':=q15.i 51+5) (by rw[J15]);have G15:ah 5 ρ q15:=G14.tr g15;refine⟨c5.pre (by simp only[Y9,ZC];omega),fun q16 g16 ⟨r1,r2,r3,_⟩=>?_⟩;have G16:ah 5 ρ q16:=G15.tr g16;rw[tl (q:=q15) (n:=8*bs.length) (k:=16) (s:=16) (wlen G15) (by omega) rfl (by omega)]at r3;have d5:=c5.app ⟨r1,r2,r3⟩ (L':=q5.i 51+6) (by rw[J15];omega);intro q17 g17 _;have J17:q17.i 51=q5.i 51:=by rw[g17.i 51,g16.i 51,J15]
   have c6:=(d5.mono g17 (by omega) (by omega) (by omega)).cast (L':=q17.i 51+6) (by rw[J17]);have G17:ah 5 ρ q17:=G16.tr g17;refine⟨c6.pre (by simp only[Y9,ZC];omega),fun q18 g18 ⟨r1,r2,r3,_⟩=>?_⟩;have G18:ah 5 ρ q18:=G17.tr g18;rw[tl (q:=q17) (n:=8*bs.length) (k:=8) (s:=8) (wlen G17) (by omega) rfl (by omega)]at r3;have d6:=c6.app ⟨r1,r2,r3⟩ (L':=q5.i 51+7) (by rw[J17];omega);intro q19 g19 _;have J19:q19.i 51=q5.i 51:=by rw[g19.i 51,g18.i 51,J17]
   have c7:=(d6.mono g19 (by omega) (by omega) (by omega)).cast (L':=q19.i 51+7) (by rw[J19]);have G19:ah 5 ρ q19:=G18.tr g19;refine⟨c7.pre (by simp only[Y9,ZC];omega),fun q20 g20 ⟨r1,r2,r3,_⟩=>?_⟩;have G20:ah 5 ρ q20:=G19.tr g20;rw[tl (q:=q19) (n:=8*bs.length) (k:=0) (s:=0) (wlen G19) (by omega) rfl (by omega)]at r3;have d7:=c7.app ⟨r1,r2,r3⟩ (L':=q5.i 51+8) (by rw[J19];omega);have hp:M++[((8*bs.length/2 ^ 56%256:Nat):Int)]++[((8*bs.length/2 ^ 48%256:Nat):Int)]++[((8*bs.length/2 ^ 40%256:Nat):Int)]++[((8*bs.length/2 ^ 32%256:Nat):Int)]++[((8*bs.length/2 ^ 24%256:Nat):Int)]++[((8*bs.length/2 ^ 16%256:Nat):Int)]++[((8*bs.length/2 ^ 8%256:Nat):Int)]++[((8*bs.length/2 ^ 0%256:Nat):Int)]=fO bs:=by
    unfold fO;rw[<-em,<-hM];simp only[ZK];rfl
   obtain⟨d1,d2,d3,d4⟩:=d7;rw[hp]at d1 d2;have J20:q20.i 51=q5.i 51:=by rw[g20.i 51,J19]
   refine fun _=>⟨[],[1],rfl,rfl,⟨⟨fun k=>[q20.i 82,0,q20.i 51+8,q20.i 83].getD k 0,fun _=>false,fun _=>.empty,fun _=>.tuple #[],fun _=>Hl.none⟩,rfl,⟨d3,Zw _,by show 0<=q20.i 51+8;rw[J20];omega,d4⟩,trivial⟩,_,bs,R,rfl,rfl,hR,?_⟩;show cH (dC [q20.h 82]) _ (.slice (aA (q20.i 82) 0) (q20.i 51+8).toNat (q20.i 83).toNat) (fO bs);rw[bz,J20];exact d1
open Go.Proofs.YtomdimlnggpgbaaGreatDoor.D hiding bw aM gC
theorem OL {R:Hl} {u:Value} {bs:List Int} (h:fp R u bs):bM (some u) 2=bs.length/\((0<=bM (some u) 0/\0<=bM (some u) 1/\0<=bM (some u) 2/\∀ j,j<(bM (some u) 2).toNat->∃ v,R.cell (bM (some u) 0).toNat ((bM (some u) 1).toNat+j)=some v/\v.oneCell'=true)\/bM (some u) 2=0)/\cJ R (bM (some u) 0).toNat (bM (some u) 1).toNat (bM (some u) 2).toNat=bK bs/\bY (some u) .slice=true:=by
 obtain⟨x,y,c,rfl,hy,h⟩:=h;by_cases hx:0<=x
 .have hs:=qx (R:=R) (x:=x) (y:=y) (l:=(bs.length:Int)) rfl hy h;rw[Sn (by omega),TN hx hy,RJ (by omega)];exact⟨rfl,hs.1,hs.2,rfl⟩
 .rcases h with rfl | ⟨h,_⟩
  .have e:bM (some (.slice (aA x y) ([]:List Int).length c)) 2=(([]:List Int).length:Nat):=by
    cases aA x y with
    | none=>rfl
    | some a=>obtain⟨b,o,s⟩:=a;cases s<;>rfl
   rw[e];exact⟨rfl,Or.inr rfl,rfl,rfl⟩
  .omega
theorem dX {α:Type} {a b:α} {l m:List α} (h:a=b) (h':l=m):a::l=b::m:=by rw[h,h']
theorem bT {q:Env} {x:Int} {j s:Nat} (hx:okW x) (hc:(q.h 51).cell (q.i 9).toNat (Int.toNat 0+j)=some (.int .u32 x)) (hs:s<=24):(CV.int .u8 (.wrap .u8 (.shr .u64 (.wrap .u64 (.hI 51 (.var 9) (.lit 0) j)) (.lit (s:Int))))).ev q=Value.int .u8 (x/2 ^ s%256):=by
 show Value.int .u8 (IntKind.u8.wrap ((IntKind.u64.wrap (cW ((q.h 51).cell (q.i 9).toNat (Int.toNat 0+j)))).fdiv (2 ^ (min ((s:Int)).toNat IntKind.u64.bits))))=_;rw[hc];unfold okW at hx;obtain⟨n,rfl⟩:∃ n:Nat,x=n:=⟨x.toNat,by omega⟩;rw[show cW (some (Value.int .u32 (n:Int)))=(n:Int)from rfl,nD (by omega) (by omega),Ab (n:=n) (k:=s) (by omega) rfl (by omega) rfl];have e2:((2:Int) ^ s)=((2 ^ s:Nat):Int):=by push_cast;rfl
 rw[e2];rfl
def rj:Sx.Spec where
 fn:=176
 own:=[]
 rd:=[0,3000000,2000005]
 res:=[.agg (List.replicate 32 (Ck.int .u8))]
 pre:=fun xs Hs Rs=>∃ (x y:Int) (c:Nat) (R RA RG:Hl) (bs:List Int),xs=[.slice (aA x y) 1 c]/\Rs=[R,RA,RG]/\iW R RA (.slice (aA x y) 1 c) [bs]/\0<=y/\aS bs/\bs.length<=900000/\uz RG 5
 post:=fun xs Hs Rs v Hs' F=>∀ u R RA RG bs,xs=[u]->Rs=[R,RA,RG]->iW R RA u [bs]->v=.agg (bK (fP bs)).toArray
def E1:Nd:=(fun a c q v u p r s t=>(fun f d g h i j k l m n o=>(fun b=>(.ext (.alloc 7) (.ext (.alloc 8) (.ext (.alloc 9) (.and (.e (.le a u)) (.and (.e (.le a v)) (.and (.e (.his 4 u v 0 .slice)) (.and (.pre d) (.ext d (.and (.pre g) (.ext g (.ext (.IX 16 (.bD 9 [.int .u32 (.lit 1779033703),.int .u32 (.lit 3144134277),.int .u32 (.lit 1013904242),.int .u32 (.lit 2773480762),.int .u32 (.lit 1359893119),.int .u32 (.lit 2600822924),.int .u32 (.lit 528734635),.int .u32 (.lit 1541459225)] 285)) (.and (.inv 0 [⟨50,0,.int .i64 a⟩] [(51,some 16)]) (.havoc 0 0 17 (.and (.e (.le a (.var 14))) (.and (.imp (.lt q (.var 14)) (.and (.e (.le (.lit (-1)) (.var 12))) (.and (.e (.le a (.var 13))) (.and (.e (.le a q)) (.and (.e (.le q f)) (.and (.e (.le f (.var 15))) (.and (.pre b) (.ext b (.back 0 0 [⟨50,0,.int .i64 f⟩] [(51,some 60)]))))))))) (.imp (.not (.lt q (.var 14))) (.ext (.alloc 60) (.and (.e (.le a c)) (.and (.e (.his 51 c a 0 p)) (.and (.e (.his 51 c a 1 p)) (.and (.e (.his 51 c a 2 p)) (.and (.e (.his 51 c a 3 p)) (.and (.e (.his 51 c a 4 p)) (.and (.e (.his 51 c a 5 p)) (.and (.e (.his 51 c a 6 p)) (.and (.e (.his 51 c a 7 p)) (.post [.ro 4 [.var 0] false,.ro 5 [] true,.ro 6 [.lit 5] false,.dead,.dead,.hp 51 [] [.var 9] [],.hp 10 [] [.var 10] [],.hp 12 [] [.var 12] [],.dead] (.sv (.agg [.int .u8 (.wrap .u8 (.shr .u64 h r)),.int .u8 (.wrap .u8 (.shr .u64 h s)),.int .u8 (.wrap .u8 (.shr .u64 h t)),.int .u8 (.wrap .u8 (.shr .u64 h a)),.int .u8 (.wrap .u8 (.shr .u64 i r)),.int .u8 (.wrap .u8 (.shr .u64 i s)),.int .u8 (.wrap .u8 (.shr .u64 i t)),.int .u8 (.wrap .u8 (.shr .u64 i a)),.int .u8 (.wrap .u8 (.shr .u64 j r)),.int .u8 (.wrap .u8 (.shr .u64 j s)),.int .u8 (.wrap .u8 (.shr .u64 j t)),.int .u8 (.wrap .u8 (.shr .u64 j a)),.int .u8 (.wrap .u8 (.shr .u64 k r)),.int .u8 (.wrap .u8 (.shr .u64 k s)),.int .u8 (.wrap .u8 (.shr .u64 k t)),.int .u8 (.wrap .u8 (.shr .u64 k a)),.int .u8 (.wrap .u8 (.shr .u64 l r)),.int .u8 (.wrap .u8 (.shr .u64 l s)),.int .u8 (.wrap .u8 (.shr .u64 l t)),.int .u8 (.wrap .u8 (.shr .u64 l a)),.int .u8 (.wrap .u8 (.shr .u64 m r)),.int .u8 (.wrap .u8 (.shr .u64 m s)),.int .u8 (.wrap .u8 (.shr .u64 m t)),.int .u8 (.wrap .u8 (.shr .u64 m a)),.int .u8 (.wrap .u8 (.shr .u64 n r)),.int .u8 (.wrap .u8 (.shr .u64 n s)),.int .u8 (.wrap .u8 (.shr .u64 n t)),.int .u8 (.wrap .u8 (.shr .u64 n a)),.int .u8 (.wrap .u8 (.shr .u64 o r)),.int .u8 (.wrap .u8 (.shr .u64 o s)),.int .u8 (.wrap .u8 (.shr .u64 o t)),.int .u8 (.wrap .u8 (.shr .u64 o a))])))))))))))))))))))))))))))):Nd)) (.call 1 60 [.sv (.one (.hptr c a)),.sv (.one (.sl (.var 12) (.ite (.eq (.var 15) q) (.var 13) (.add (.var 13) q)) (.sub f q) (.sub (.var 15) q)))] [.hp 51 [] [.var 9] []] [.hp 12 [] [.var 12] [],.ro 6 [.lit 5] false])) (.wrap .i64 (.add q (.lit 64))) (.app 10 5 1 1 (.sl (.lit (-1)) a a a) a .dead (.seg 5 (.hP 4 u v 0 0) (.hP 4 u v 0 1) (.hP 4 u v 0 2))) (.call 0 12 [.sv (.one (.sl (.var 10) a (.hP 4 u v 0 2) (.var 11)))] [] [.hp 10 [] [.var 10] []]) (.wrap .u64 (.hI 51 c a 0)) (.wrap .u64 (.hI 51 c a 1)) (.wrap .u64 (.hI 51 c a 2)) (.wrap .u64 (.hI 51 c a 3)) (.wrap .u64 (.hI 51 c a 4)) (.wrap .u64 (.hI 51 c a 5)) (.wrap .u64 (.hI 51 c a 6)) (.wrap .u64 (.hI 51 c a 7))) (.lit 0) (.var 9) (.var 50) (.var 1) (.var 0) (.int .u32) (.lit 24) (.lit 16) (.lit 8)
def Sc:List Sx.Spec:=[zp,LV]
theorem QI:∀ t∈Sc,t.OK Tryz.prog:=fun t ht=>by
 simp only[Sc,Zl,Zq,ZO]at ht;rcases ht with rfl | rfl
 .exact Ml
 .exact Oc
def Pn:bU Tryz.prog Sc rj.fn where
 Λ:=fun p=>if Kg p [176,1,1,1,0,1,0]then some ⟨0,[(5,TI .i64 (.var 50))],[(5,.hp 51 [] [.var 9] [])],60⟩else none
 args:=[.sv (.one (.sl (.var 0) (.var 1) (.lit 1) (.var 2)))]
 mem:=[.ro 4 [.var 0] false,.ro 5 [] true,.ro 6 [.lit 5] false]
 nv:=7
 nd:=E1
 ok:=by kernel_rfl
theorem Vb:Sc[0]?=some zp:=rfl
theorem Vc:Sc[1]?=some LV:=rfl
theorem Vd:zp.res=[.one .sl]:=rfl
theorem Ve:LV.res=[]:=rfl
theorem Jt {u v:Value} {bs:List Int} {R F:Hl} {K:List Hl} (h:fp R u bs) (hp:zp.post [u] [] [R] v K F):cH F 5 v (fO bs):=by
 obtain⟨u',bs',R',e1,e2,h',ho⟩:=hp;simp only[Ze,Zm]at e1 e2;subst e1 e2;rw[h.uniq h'];exact ho
theorem m9:∀ (n:Nat) (bs:List Int),bs.length=n->bS (bK bs) ((List.replicate n (Ck.int .u8)).map jA)
 | 0,[],_=>trivial
 | n+1,z::l,h=>⟨rfl,m9 n l (by simpa using h)⟩
theorem xi {bs:List Int} (h:aS bs):aS (fO bs):=fun z hz=>by
 unfold fO at hz;rcases ZT.1 hz with hz | hz
 .rcases ZT.1 hz with hz | hz
  .rcases ZT.1 hz with hz | hz
   .exact h z hz
   .rw[Zn.1 hz];omega
  .rw[(abQ.1 hz).2];omega
 .unfold P1 at hz;obtain⟨i,_,rfl⟩:=ZV.1 hz;omega
theorem mP (all:List Int) (k:Nat):∀ j,j<8->okW (lZ dJ all k j):=Oa Gp all k
theorem Om {F:Hl} {e:TypeId} {x y l c:Int} {bs:List Int} (h:cH F e (.slice (aA x y) l.toNat c.toNat) bs) (hl:0<=l) (hc:0<=c):l=bs.length/\l<=c:=by
 obtain⟨_,hc'⟩:=h;rcases hc' with ⟨e,e0⟩ | ⟨g,cap,cur,e,_,hle,_⟩
 .simp only[Value.slice.injEq]at e;omega
 .simp only[Value.slice.injEq]at e;omega
theorem CF:rj.OK Tryz.prog:=by
 refine Spec.bJ (Γ:=Sc) QI ?_;rintro xs Hs Rs hl1 hl2 ⟨x,y,c,R,RA,RG,bs,rfl,rfl,hR,hy,hb,hlen,hK⟩;have e0:Hs=[]:=Za.1 hl1;subst e0;refine⟨Pn,bw [x,y,c] false [Hl.none,Hl.none,Hl.none,Hl.none,R,RA,RG],
  fun _ q=>∃ k:Nat,q.i 50=((64*k:Nat):Int)/\64*k<=(fO bs).length/\q.h 51=wH (q.i 9).toNat (s8 (lZ dJ (fO bs) k)) 285,
  fun _ q=>((fO bs).length-q.i 50).toNat,?_,dB (by intro r hr;simp [Pn]at hr;rcases hr with rfl | rfl | rfl<;>exact⟨_,_,_,rfl⟩) rfl,(fun _ h=>nomatch h),?_⟩
 .show [Value.slice (aA x y) (Int.toNat 1) ((c:Int)).toNat]=_;rw[Y7];rfl
 .show Nd.holds _ _ _ E1;generalize hρ:bw [x,y,c] false [Hl.none,Hl.none,Hl.none,Hl.none,R,RA,RG]=ρ;have V:∀ q:Env,ah 7 ρ q->q.i 0=x/\q.i 1=y/\q.h 4=R/\q.h 5=RA/\q.h 6=RG:=fun q hg=>by
   rw[hg.i 0,hg.i 1,hg.h 4,hg.h 5,hg.h 6,<-hρ];exact⟨rfl,rfl,rfl,rfl,rfl⟩
  clear hρ;have t1:Int.toNat 1=1:=rfl;obtain⟨_,aL⟩:=hR.at hy;obtain⟨hx0,u,hcu,hru⟩:=aL 0 bs rfl;unfold E1;simp only[Nd.holds,X.pre,X.rel,X.n,Src.ok,Src.len,Src.bG,Zy,Zm,ZG,Zx,Zp,Nat.reduceAdd,Zd,Zh,bn,bj,aJ,aU,aR,bm,aZ,bh,bg,bd,aV,ba,bk,aX,aW,aK,aY,ai,aj,aB,aF,aD,ar,aG,aQ,aP,aq,aI,az,aH,av,TV.ev,SV.ev,CV.ev,Zf,Zr,bx.hl,cu,Cp.sv,Ck.cv,bf,Cp.len,Ck.len,aE,aN,aT,Vb,Vc,Vd,Ve,QH];intro q1 g1 _ q2 g2 _ q3 g3 p9;have G3:ah 7 ρ q3:=g1.trans (g2.mono.tr g3);obtain⟨v0,v1,w4,w5,w6⟩:=V q3 G3;have hcu:R.cell x.toNat y.toNat=some u:=hcu;obtain⟨u2,useg,uval,uis⟩:=OL hru;rw[v0,v1,w4,w5,hcu];have t0:Int.toNat 0=0:=rfl;have Di:bE Hl.none 5 1 (.slice (aA (-1) 0) (Int.toNat 0) (Int.toNat 0)) (Int.toNat 0) []:=⟨rfl,Or.inl ⟨rfl,rfl⟩⟩;have ul:(bM (some u) 2).toNat=bs.length:=by rw[u2,Y7]
  refine⟨hx0,hy,uis,⟨⟨[],Di⟩,Zw _,useg,by rw[ul,t0];unfold maxLen;omega,by rw[ul,t0];omega⟩,fun q4 g4 ⟨r1,r2,r3,_⟩=>?_⟩;have o4:=r3 [] Di;rw[uval,ul,t0,ZM,aax]at o4;have G4:ah 7 ρ q4:=G3.tr g4;obtain⟨v0,v1,w4,w5,w6⟩:=V q4 G4;rw[v0,v1,w4,hcu,ul];have o4:cH (q4.h 10) 5 (.slice (aA (q4.i 10) 0) bs.length (q4.i 11).toNat) bs:=o4;have hr4:=o4.rd.w;refine⟨⟨_,bs,_,rfl,rfl,hr4,by omega⟩,fun q5 g5 ⟨F5,p5,hF5,hn5⟩ q6 g6 h16=>?_⟩;have oP:=Jt hr4 p5;rw[<-hF5 trivial]at oP;have hn5:-1<=q5.i 12/\0<=q5.i 13/\0<=q5.i 14/\0<=q5.i 15:=hn5.1;obtain⟨P,hP⟩:∃ P,P=fO bs:=⟨_,rfl⟩;have hPb:aS P:=by rw[hP];exact xi hb
  have hPl:=tQ bs;rw[<-hP]at oP hPl ⊢;obtain⟨c1,c2⟩:=Om oP hn5.2.2.1 hn5.2.2.2;have oR:=oP.rd.w;refine⟨⟨0,rfl,aam _,?_⟩,fun q7 g7 ⟨k,e50,hk,h51⟩=>?_⟩
  .show q6.h 16=wH (q6.i 9).toNat (s8 dJ) _;rw[h16,g6.i 9];rfl
  have A7:ah 16 q5 q7:=g6.tr g7;have G7:ah 7 ρ q7:=G4.trans (g5.mono.tr A7);have p9':0<=q7.i 9:=by rw[A7.i 9,g5.i 9,g4.i 9];exact p9
  have e14:q7.i 14=P.length:=by rw[A7.i 14,c1]
  have e15:q7.i 15=q5.i 15:=A7.i 15;rw[e14,e50];refine⟨by omega,fun hlt=>?_,fun hge=>?_⟩
  .have cX:64*k+64<=P.length:=by omega
   have hw:IntKind.i64.wrap (((64*k:Nat):Int)+64)=((64*k:Nat):Int)+64:=wrap_i64 (by omega) (by omega);rw[hw,e15,A7.i 12,A7.i 13,A7.h 12,(V q7 G7).2.2.2.2,h51];have hsub:=H7 oR hn5.1 hn5.2.1 (o:=64*k) (n:=64) cX (y':=q5.i 13+((64*k:Nat):Int)) (Or.inr rfl) (by omega) (q5.i 15-((64*k:Nat):Int)).toNat;have e64:(((64*k:Nat):Int)+64-((64*k:Nat):Int)).toNat=64:=by omega
   have hne:¬q5.i 15=((64*k:Nat):Int):=by omega
   have hbl:((P.drop (64*k)).take 64).length=64:=by rw[ZE,ZX];omega
   rw[Zo hne,e64];have hptr:Value.pointer (aA (q7.i 9) 0)=.pointer (some ⟨(q7.i 9).toNat,0,none⟩):=by rw[au p9'];rfl
   refine⟨hn5.1,hn5.2.1,by omega,by omega,by omega,⟨(q7.i 9).toNat,lZ dJ P k,q5.i 12,q5.i 13+((64*k:Nat):Int),(q5.i 15-((64*k:Nat):Int)).toNat,_,_,_,by rw[hptr],rfl,rfl,mP P k,hsub,hbl,by omega,fun z hz=>hPb z (aaU (aaN hz)),by omega,hn5.1,hK⟩,fun q8 g8 ⟨_,p8,_,_⟩=>?_⟩;have h60:=p8 _ _ (lZ dJ P k) _ _ _ (by rw[hptr]) rfl rfl hsub;have h60:q8.h 60=wH (q7.i 9).toNat (s8 (nA (lZ dJ P k) ((P.drop (64*k)).take 64))) 285:=by simpa using h60
   have ew:IntKind.i64.wrap (q8.i 50+64)=((64*(k+1):Nat):Int):=by rw[g8.i 50,e50,hw];omega
   refine⟨⟨k+1,ew,by omega,?_⟩,?_⟩
   .show q8.h 60=wH (q8.i 9).toNat (s8 (nA _ _)) _;rw[h60,g8.i 9]
   .show((P.length:Int)-IntKind.i64.wrap (q8.i 50+64)).toNat<_;rw[ew];omega
  .intro q8 g8 _;have ek:k=P.length/64:=by omega
   have hc:∀ j,j<8->(q8.h 51).cell (q8.i 9).toNat (Int.toNat 0+j)=some (.int .u32 (BB bs j)):=fun j hj=>by
    rw[g8.h 51,g8.i 9,h51,ek,hP];refine zR ?_;rw[show Int.toNat 0+j=j from ZM j];unfold s8;rw[Zs,ZI hj];rfl
   have hok:∀ j,j<8->okW (BB bs j):=fun j hj=>mP _ _ j hj;have hres:([.int .u8 (.wrap .u8 (.shr .u64 (.wrap .u64 (.hI 51 (.var 9) (.lit 0) 0)) (.lit 24))),.int .u8 (.wrap .u8 (.shr .u64 (.wrap .u64 (.hI 51 (.var 9) (.lit 0) 0)) (.lit 16))),.int .u8 (.wrap .u8 (.shr .u64 (.wrap .u64 (.hI 51 (.var 9) (.lit 0) 0)) (.lit 8))),.int .u8 (.wrap .u8 (.shr .u64 (.wrap .u64 (.hI 51 (.var 9) (.lit 0) 0)) (.lit 0))),.int .u8 (.wrap .u8 (.shr .u64 (.wrap .u64 (.hI 51 (.var 9) (.lit 0) 1)) (.lit 24))),.int .u8 (.wrap .u8 (.shr .u64 (.wrap .u64 (.hI 51 (.var 9) (.lit 0) 1)) (.lit 16))),.int .u8 (.wrap .u8 (.shr .u64 (.wrap .u64 (.hI 51 (.var 9) (.lit 0) 1)) (.lit 8))),.int .u8 (.wrap .u8 (.shr .u64 (.wrap .u64 (.hI 51 (.var 9) (.lit 0) 1)) (.lit 0))),.int .u8 (.wrap .u8 (.shr .u64 (.wrap .u64 (.hI 51 (.var 9) (.lit 0) 2)) (.lit 24))),.int .u8 (.wrap .u8 (.shr .u64 (.wrap .u64 (.hI 51 (.var 9) (.lit 0) 2)) (.lit 16))),.int .u8 (.wrap .u8 (.shr .u64 (.wrap .u64 (.hI 51 (.var 9) (.lit 0) 2)) (.lit 8))),.int .u8 (.wrap .u8 (.shr .u64 (.wrap .u64 (.hI 51 (.var 9) (.lit 0) 2)) (.lit 0))),.int .u8 (.wrap .u8 (.shr .u64 (.wrap .u64 (.hI 51 (.var 9) (.lit 0) 3)) (.lit 24))),.int .u8 (.wrap .u8 (.shr .u64 (.wrap .u64 (.hI 51 (.var 9) (.lit 0) 3)) (.lit 16))),.int .u8 (.wrap .u8 (.shr .u64 (.wrap .u64 (.hI 51 (.var 9) (.lit 0) 3)) (.lit 8))),.int .u8 (.wrap .u8 (.shr .u64 (.wrap .u64 (.hI 51 (.var 9) (.lit 0) 3)) (.lit 0))),.int .u8 (.wrap .u8 (.shr .u64 (.wrap .u64 (.hI 51 (.var 9) (.lit 0) 4)) (.lit 24))),.int .u8 (.wrap .u8 (.shr .u64 (.wrap .u64 (.hI 51 (.var 9) (.lit 0) 4)) (.lit 16))),.int .u8 (.wrap .u8 (.shr .u64 (.wrap .u64 (.hI 51 (.var 9) (.lit 0) 4)) (.lit 8))),.int .u8 (.wrap .u8 (.shr .u64 (.wrap .u64 (.hI 51 (.var 9) (.lit 0) 4)) (.lit 0))),.int .u8 (.wrap .u8 (.shr .u64 (.wrap .u64 (.hI 51 (.var 9) (.lit 0) 5)) (.lit 24))),.int .u8 (.wrap .u8 (.shr .u64 (.wrap .u64 (.hI 51 (.var 9) (.lit 0) 5)) (.lit 16))),.int .u8 (.wrap .u8 (.shr .u64 (.wrap .u64 (.hI 51 (.var 9) (.lit 0) 5)) (.lit 8))),.int .u8 (.wrap .u8 (.shr .u64 (.wrap .u64 (.hI 51 (.var 9) (.lit 0) 5)) (.lit 0))),.int .u8 (.wrap .u8 (.shr .u64 (.wrap .u64 (.hI 51 (.var 9) (.lit 0) 6)) (.lit 24))),.int .u8 (.wrap .u8 (.shr .u64 (.wrap .u64 (.hI 51 (.var 9) (.lit 0) 6)) (.lit 16))),.int .u8 (.wrap .u8 (.shr .u64 (.wrap .u64 (.hI 51 (.var 9) (.lit 0) 6)) (.lit 8))),.int .u8 (.wrap .u8 (.shr .u64 (.wrap .u64 (.hI 51 (.var 9) (.lit 0) 6)) (.lit 0))),.int .u8 (.wrap .u8 (.shr .u64 (.wrap .u64 (.hI 51 (.var 9) (.lit 0) 7)) (.lit 24))),.int .u8 (.wrap .u8 (.shr .u64 (.wrap .u64 (.hI 51 (.var 9) (.lit 0) 7)) (.lit 16))),.int .u8 (.wrap .u8 (.shr .u64 (.wrap .u64 (.hI 51 (.var 9) (.lit 0) 7)) (.lit 8))),.int .u8 (.wrap .u8 (.shr .u64 (.wrap .u64 (.hI 51 (.var 9) (.lit 0) 7)) (.lit 0)))].map (CV.ev q8))=bK (fP bs):=dX (bT (s:=24) (hok 0 (by omega)) (hc 0 (by omega)) (by omega)) (dX (bT (s:=16) (hok 0 (by omega)) (hc 0 (by omega)) (by omega)) (dX (bT (s:=8) (hok 0 (by omega)) (hc 0 (by omega)) (by omega)) (dX (bT (s:=0) (hok 0 (by omega)) (hc 0 (by omega)) (by omega)) (dX (bT (s:=24) (hok 1 (by omega)) (hc 1 (by omega)) (by omega)) (dX (bT (s:=16) (hok 1 (by omega)) (hc 1 (by omega)) (by omega)) (dX (bT (s:=8) (hok 1 (by omega)) (hc 1 (by omega)) (by omega)) (dX (bT (s:=0) (hok 1 (by omega)) (hc 1 (by omega)) (by omega)) (dX (bT (s:=24) (hok 2 (by omega)) (hc 2 (by omega)) (by omega)) (dX (bT (s:=16) (hok 2 (by omega)) (hc 2 (by omega)) (by omega)) (dX (bT (s:=8) (hok 2 (by omega)) (hc 2 (by omega)) (by omega)) (dX (bT (s:=0) (hok 2 (by omega)) (hc 2 (by omega)) (by omega)) (dX (bT (s:=24) (hok 3 (by omega)) (hc 3 (by omega)) (by omega)) (dX (bT (s:=16) (hok 3 (by omega)) (hc 3 (by omega)) (by omega)) (dX (bT (s:=8) (hok 3 (by omega)) (hc 3 (by omega)) (by omega)) (dX (bT (s:=0) (hok 3 (by omega)) (hc 3 (by omega)) (by omega)) (dX (bT (s:=24) (hok 4 (by omega)) (hc 4 (by omega)) (by omega)) (dX (bT (s:=16) (hok 4 (by omega)) (hc 4 (by omega)) (by omega)) (dX (bT (s:=8) (hok 4 (by omega)) (hc 4 (by omega)) (by omega)) (dX (bT (s:=0) (hok 4 (by omega)) (hc 4 (by omega)) (by omega)) (dX (bT (s:=24) (hok 5 (by omega)) (hc 5 (by omega)) (by omega)) (dX (bT (s:=16) (hok 5 (by omega)) (hc 5 (by omega)) (by omega)) (dX (bT (s:=8) (hok 5 (by omega)) (hc 5 (by omega)) (by omega)) (dX (bT (s:=0) (hok 5 (by omega)) (hc 5 (by omega)) (by omega)) (dX (bT (s:=24) (hok 6 (by omega)) (hc 6 (by omega)) (by omega)) (dX (bT (s:=16) (hok 6 (by omega)) (hc 6 (by omega)) (by omega)) (dX (bT (s:=8) (hok 6 (by omega)) (hc 6 (by omega)) (by omega)) (dX (bT (s:=0) (hok 6 (by omega)) (hc 6 (by omega)) (by omega)) (dX (bT (s:=24) (hok 7 (by omega)) (hc 7 (by omega)) (by omega)) (dX (bT (s:=16) (hok 7 (by omega)) (hc 7 (by omega)) (by omega)) (dX (bT (s:=8) (hok 7 (by omega)) (hc 7 (by omega)) (by omega)) (dX (bT (s:=0) (hok 7 (by omega)) (hc 7 (by omega)) (by omega)) (rfl))))))))))))))))))))))))))))))));obtain⟨ρ2,_,_,e2⟩:=dI (List.replicate 32 (Ck.int .u8)) 0 (bK (fP bs)) q8 (m9 32 _ (fE bs));refine⟨by rw[g8.i 9];exact p9',by rw[show(q8.h 51).cell (q8.i 9).toNat (Int.toNat 0)=_ from hc 0 (by omega)];rfl,by rw[show(q8.h 51).cell (q8.i 9).toNat (Int.toNat 0+1)=_ from hc 1 (by omega)];rfl,by rw[show(q8.h 51).cell (q8.i 9).toNat (Int.toNat 0+2)=_ from hc 2 (by omega)];rfl,by rw[show(q8.h 51).cell (q8.i 9).toNat (Int.toNat 0+3)=_ from hc 3 (by omega)];rfl,by rw[show(q8.h 51).cell (q8.i 9).toNat (Int.toNat 0+4)=_ from hc 4 (by omega)];rfl,by rw[show(q8.h 51).cell (q8.i 9).toNat (Int.toNat 0+5)=_ from hc 5 (by omega)];rfl,by rw[show(q8.h 51).cell (q8.i 9).toNat (Int.toNat 0+6)=_ from hc 6 (by omega)];rfl,by rw[show(q8.h 51).cell (q8.i 9).toNat (Int.toNat 0+7)=_ from hc 7 (by omega)];rfl,fun _=>⟨[],[],rfl,rfl,⟨ρ2,?_,de _ _ _ (by decide),trivial⟩,fun u' R' RA' RG' bs' h1 h2 h'=>?_⟩⟩
   .show Value.agg ([.int .u8 (.wrap .u8 (.shr .u64 (.wrap .u64 (.hI 51 (.var 9) (.lit 0) 0)) (.lit 24))),.int .u8 (.wrap .u8 (.shr .u64 (.wrap .u64 (.hI 51 (.var 9) (.lit 0) 0)) (.lit 16))),.int .u8 (.wrap .u8 (.shr .u64 (.wrap .u64 (.hI 51 (.var 9) (.lit 0) 0)) (.lit 8))),.int .u8 (.wrap .u8 (.shr .u64 (.wrap .u64 (.hI 51 (.var 9) (.lit 0) 0)) (.lit 0))),.int .u8 (.wrap .u8 (.shr .u64 (.wrap .u64 (.hI 51 (.var 9) (.lit 0) 1)) (.lit 24))),.int .u8 (.wrap .u8 (.shr .u64 (.wrap .u64 (.hI 51 (.var 9) (.lit 0) 1)) (.lit 16))),.int .u8 (.wrap .u8 (.shr .u64 (.wrap .u64 (.hI 51 (.var 9) (.lit 0) 1)) (.lit 8))),.int .u8 (.wrap .u8 (.shr .u64 (.wrap .u64 (.hI 51 (.var 9) (.lit 0) 1)) (.lit 0))),.int .u8 (.wrap .u8 (.shr .u64 (.wrap .u64 (.hI 51 (.var 9) (.lit 0) 2)) (.lit 24))),.int .u8 (.wrap .u8 (.shr .u64 (.wrap .u64 (.hI 51 (.var 9) (.lit 0) 2)) (.lit 16))),.int .u8 (.wrap .u8 (.shr .u64 (.wrap .u64 (.hI 51 (.var 9) (.lit 0) 2)) (.lit 8))),.int .u8 (.wrap .u8 (.shr .u64 (.wrap .u64 (.hI 51 (.var 9) (.lit 0) 2)) (.lit 0))),.int .u8 (.wrap .u8 (.shr .u64 (.wrap .u64 (.hI 51 (.var 9) (.lit 0) 3)) (.lit 24))),.int .u8 (.wrap .u8 (.shr .u64 (.wrap .u64 (.hI 51 (.var 9) (.lit 0) 3)) (.lit 16))),.int .u8 (.wrap .u8 (.shr .u64 (.wrap .u64 (.hI 51 (.var 9) (.lit 0) 3)) (.lit 8))),.int .u8 (.wrap .u8 (.shr .u64 (.wrap .u64 (.hI 51 (.var 9) (.lit 0) 3)) (.lit 0))),.int .u8 (.wrap .u8 (.shr .u64 (.wrap .u64 (.hI 51 (.var 9) (.lit 0) 4)) (.lit 24))),.int .u8 (.wrap .u8 (.shr .u64 (.wrap .u64 (.hI 51 (.var 9) (.lit 0) 4)) (.lit 16))),.int .u8 (.wrap .u8 (.shr .u64 (.wrap .u64 (.hI 51 (.var 9) (.lit 0) 4)) (.lit 8))),.int .u8 (.wrap .u8 (.shr .u64 (.wrap .u64 (.hI 51 (.var 9) (.lit 0) 4)) (.lit 0))),.int .u8 (.wrap .u8 (.shr .u64 (.wrap .u64 (.hI 51 (.var 9) (.lit 0) 5)) (.lit 24))),.int .u8 (.wrap .u8 (.shr .u64 (.wrap .u64 (.hI 51 (.var 9) (.lit 0) 5)) (.lit 16))),.int .u8 (.wrap .u8 (.shr .u64 (.wrap .u64 (.hI 51 (.var 9) (.lit 0) 5)) (.lit 8))),.int .u8 (.wrap .u8 (.shr .u64 (.wrap .u64 (.hI 51 (.var 9) (.lit 0) 5)) (.lit 0))),.int .u8 (.wrap .u8 (.shr .u64 (.wrap .u64 (.hI 51 (.var 9) (.lit 0) 6)) (.lit 24))),.int .u8 (.wrap .u8 (.shr .u64 (.wrap .u64 (.hI 51 (.var 9) (.lit 0) 6)) (.lit 16))),.int .u8 (.wrap .u8 (.shr .u64 (.wrap .u64 (.hI 51 (.var 9) (.lit 0) 6)) (.lit 8))),.int .u8 (.wrap .u8 (.shr .u64 (.wrap .u64 (.hI 51 (.var 9) (.lit 0) 6)) (.lit 0))),.int .u8 (.wrap .u8 (.shr .u64 (.wrap .u64 (.hI 51 (.var 9) (.lit 0) 7)) (.lit 24))),.int .u8 (.wrap .u8 (.shr .u64 (.wrap .u64 (.hI 51 (.var 9) (.lit 0) 7)) (.lit 16))),.int .u8 (.wrap .u8 (.shr .u64 (.wrap .u64 (.hI 51 (.var 9) (.lit 0) 7)) (.lit 8))),.int .u8 (.wrap .u8 (.shr .u64 (.wrap .u64 (.hI 51 (.var 9) (.lit 0) 7)) (.lit 0)))].map (CV.ev q8)).toArray=Value.agg ((al 0 (List.replicate 32 (Ck.int .u8))).map (CV.ev ρ2)).toArray;rw[hres,e2]
   .simp only[Ze,Zm]at h1 h2;subst h1;obtain⟨rfl,rfl,rfl⟩:=h2;have e:=h'.uniq hR;simp only[Ze,Zm]at e;subst e;show Value.agg ([.int .u8 (.wrap .u8 (.shr .u64 (.wrap .u64 (.hI 51 (.var 9) (.lit 0) 0)) (.lit 24))),.int .u8 (.wrap .u8 (.shr .u64 (.wrap .u64 (.hI 51 (.var 9) (.lit 0) 0)) (.lit 16))),.int .u8 (.wrap .u8 (.shr .u64 (.wrap .u64 (.hI 51 (.var 9) (.lit 0) 0)) (.lit 8))),.int .u8 (.wrap .u8 (.shr .u64 (.wrap .u64 (.hI 51 (.var 9) (.lit 0) 0)) (.lit 0))),.int .u8 (.wrap .u8 (.shr .u64 (.wrap .u64 (.hI 51 (.var 9) (.lit 0) 1)) (.lit 24))),.int .u8 (.wrap .u8 (.shr .u64 (.wrap .u64 (.hI 51 (.var 9) (.lit 0) 1)) (.lit 16))),.int .u8 (.wrap .u8 (.shr .u64 (.wrap .u64 (.hI 51 (.var 9) (.lit 0) 1)) (.lit 8))),.int .u8 (.wrap .u8 (.shr .u64 (.wrap .u64 (.hI 51 (.var 9) (.lit 0) 1)) (.lit 0))),.int .u8 (.wrap .u8 (.shr .u64 (.wrap .u64 (.hI 51 (.var 9) (.lit 0) 2)) (.lit 24))),.int .u8 (.wrap .u8 (.shr .u64 (.wrap .u64 (.hI 51 (.var 9) (.lit 0) 2)) (.lit 16))),.int .u8 (.wrap .u8 (.shr .u64 (.wrap .u64 (.hI 51 (.var 9) (.lit 0) 2)) (.lit 8))),.int .u8 (.wrap .u8 (.shr .u64 (.wrap .u64 (.hI 51 (.var 9) (.lit 0) 2)) (.lit 0))),.int .u8 (.wrap .u8 (.shr .u64 (.wrap .u64 (.hI 51 (.var 9) (.lit 0) 3)) (.lit 24))),.int .u8 (.wrap .u8 (.shr .u64 (.wrap .u64 (.hI 51 (.var 9) (.lit 0) 3)) (.lit 16))),.int .u8 (.wrap .u8 (.shr .u64 (.wrap .u64 (.hI 51 (.var 9) (.lit 0) 3)) (.lit 8))),.int .u8 (.wrap .u8 (.shr .u64 (.wrap .u64 (.hI 51 (.var 9) (.lit 0) 3)) (.lit 0))),.int .u8 (.wrap .u8 (.shr .u64 (.wrap .u64 (.hI 51 (.var 9) (.lit 0) 4)) (.lit 24))),.int .u8 (.wrap .u8 (.shr .u64 (.wrap .u64 (.hI 51 (.var 9) (.lit 0) 4)) (.lit 16))),.int .u8 (.wrap .u8 (.shr .u64 (.wrap .u64 (.hI 51 (.var 9) (.lit 0) 4)) (.lit 8))),.int .u8 (.wrap .u8 (.shr .u64 (.wrap .u64 (.hI 51 (.var 9) (.lit 0) 4)) (.lit 0))),.int .u8 (.wrap .u8 (.shr .u64 (.wrap .u64 (.hI 51 (.var 9) (.lit 0) 5)) (.lit 24))),.int .u8 (.wrap .u8 (.shr .u64 (.wrap .u64 (.hI 51 (.var 9) (.lit 0) 5)) (.lit 16))),.int .u8 (.wrap .u8 (.shr .u64 (.wrap .u64 (.hI 51 (.var 9) (.lit 0) 5)) (.lit 8))),.int .u8 (.wrap .u8 (.shr .u64 (.wrap .u64 (.hI 51 (.var 9) (.lit 0) 5)) (.lit 0))),.int .u8 (.wrap .u8 (.shr .u64 (.wrap .u64 (.hI 51 (.var 9) (.lit 0) 6)) (.lit 24))),.int .u8 (.wrap .u8 (.shr .u64 (.wrap .u64 (.hI 51 (.var 9) (.lit 0) 6)) (.lit 16))),.int .u8 (.wrap .u8 (.shr .u64 (.wrap .u64 (.hI 51 (.var 9) (.lit 0) 6)) (.lit 8))),.int .u8 (.wrap .u8 (.shr .u64 (.wrap .u64 (.hI 51 (.var 9) (.lit 0) 6)) (.lit 0))),.int .u8 (.wrap .u8 (.shr .u64 (.wrap .u64 (.hI 51 (.var 9) (.lit 0) 7)) (.lit 24))),.int .u8 (.wrap .u8 (.shr .u64 (.wrap .u64 (.hI 51 (.var 9) (.lit 0) 7)) (.lit 16))),.int .u8 (.wrap .u8 (.shr .u64 (.wrap .u64 (.hI 51 (.var 9) (.lit 0) 7)) (.lit 8))),.int .u8 (.wrap .u8 (.shr .u64 (.wrap .u64 (.hI 51 (.var 9) (.lit 0) 7)) (.lit 0)))].map (CV.ev q8)).toArray=_;rw[hres]
theorem nH {q:Env} {n k:Nat} {s:Int} (hw:IntKind.u64.wrap (IntKind.u64.wrap (q.i 2)*8)=(n:Int)) (hn:n<18446744073709551616) (hs:s=(k:Int)) (hk:k<=63):IntKind.u8.wrap (aC q (E.shr .u64 (E.wrap .u64 ((E.wrap .u64 (E.var 2)).mul (E.lit 8))) (E.lit s)))=((n/2 ^ k%256:Nat):Int):=Ab hn hs hk hw
def iz:Sx.Spec where
 fn:=64
 own:=[]
 rd:=[0,2000003]
 res:=[.agg (List.replicate 32 (Ck.int .u8))]
 pre:=fun xs Hs Rs=>∃ u bs R RG,xs=[u]/\Rs=[R,RG]/\fp R u bs/\aS bs/\bs.length<=900000/\uz RG 3
 post:=fun xs Hs Rs v Hs' F=>∀ u bs R RG,xs=[u]->Rs=[R,RG]->fp R u bs->v=.agg (bK (fP bs)).toArray
def Ih:Nd:=(fun m d l n o=>(fun a b c=>(fun f g h i j k=>(.and (.imp (.lt d (.lit 64)) (.and (.e (.le (.lit 0) d)) (.and (.e (.his 5 (.lit 3) d 0 (.int .u32))) (.and (.e (.le (.lit 0) (.var 120))) (.and (.e (.his 131 (.var 120) d 0 (.int .u32))) (.and (.pre j) (.ext j (.and (.pre f) (.ext f (.and (.pre g) (.ext g (.and (.pre k) (.ext k (.and (.pre h) (.ext h (.and (.pre i) (.ext i (.back 1 3 [⟨151,0,.int .i64 (.wrap .u32 (.add a (.wrap .u32 (.add (.bits .xor .u32 (.bits .xor .u32 (.var 173) (.var 174)) (.var 175)) (.bits .xor .u32 (.bits .xor .u32 (.bits .and .u32 l n) (.bits .and .u32 l o)) (.bits .and .u32 n o))))))⟩,⟨152,0,.int .i64 l⟩,⟨153,0,.int .i64 n⟩,⟨154,0,.int .i64 o⟩,⟨155,0,.int .i64 (.wrap .u32 (.add (.var 154) a))⟩,⟨156,0,.int .i64 m⟩,⟨157,0,.int .i64 (.var 156)⟩,⟨158,0,.int .i64 (.var 157)⟩,⟨150,0,.int .i64 (.wrap .i64 (.add d (.lit 1)))⟩] [])))))))))))))))))) (.imp (.not (.lt d (.lit 64))) (.back 0 1 (([⟨100,0,.int .i64 (.wrap .i64 (.add (.var 100) (.lit 64)))⟩]:List As)++(Ub 85 (al 110 (List.replicate 8 (Ck.int .u32))) [.int .u32 (.wrap .u32 (.add (.var 110) l)),.int .u32 (.wrap .u32 (.add (.var 111) n)),.int .u32 (.wrap .u32 (.add (.var 112) o)),.int .u32 (.wrap .u32 (.add (.var 113) (.var 154))),.int .u32 (.wrap .u32 (.add (.var 114) m)),.int .u32 (.wrap .u32 (.add (.var 115) (.var 156))),.int .u32 (.wrap .u32 (.add (.var 116) (.var 157))),.int .u32 (.wrap .u32 (.add (.var 117) (.var 158)))])) [])):Nd)) (.call 0 171 [.sv b,.sv (.one (.int .i64 (.lit 11)))] [] []) (.call 0 172 [.sv b,.sv (.one (.int .i64 (.lit 25)))] [] []) (.call 0 174 [.sv c,.sv (.one (.int .i64 (.lit 13)))] [] []) (.call 0 175 [.sv c,.sv (.one (.int .i64 (.lit 22)))] [] []) (.call 0 170 [.sv b,.sv (.one (.int .i64 (.lit 6)))] [] []) (.call 0 173 [.sv c,.sv (.one (.int .i64 (.lit 2)))] [] [])) (.wrap .u32 (.add (.wrap .u32 (.add (.wrap .u32 (.add (.wrap .u32 (.add (.var 158) (.bits .xor .u32 (.bits .xor .u32 (.var 170) (.var 171)) (.var 172)))) (.bits .xor .u32 (.bits .and .u32 m (.var 156)) (.bits .and .u32 (.wrap .u32 (.sub (.lit 4294967295) m)) (.var 157))))) (.hI 5 (.lit 3) d 0))) (.hI 131 (.var 120) d 0))) (.one (.int .u32 m)) (.one (.int .u32 l))) (.var 155) (.var 150) (.var 151) (.var 152) (.var 153)
def Bv:Nd:=(fun d i r p q x y=>(fun a h k j o w=>(fun b l n m f g=>(fun c s t u v=>(.and (.imp (.lt d x) (.and (.imp (.lt d (.lit 16)) (.and (.e (.le p r)) (.and (.e (.le p a)) (.and (.e (.lt a q)) (.and (.e (.his 82 r a 0 (.int .u8))) (.and (.e (.le p l)) (.and (.e (.lt l q)) (.and (.e (.his 82 r l 0 (.int .u8))) (.and (.e (.le p m)) (.and (.e (.lt m q)) (.and (.e (.his 82 r m 0 (.int .u8))) (.and (.e (.le p n)) (.and (.e (.lt n q)) (.and (.e (.his 82 r n 0 (.int .u8))) (.and (.e (.le p i)) (.and (.e (.le p d)) (.and (.pre c) (.ext c (.back 1 2 w [(131,some 140)]))))))))))))))))))) (.imp (.not (.lt d (.lit 16))) (.and (.e (.le p i)) (.and (.e (.le p h)) (.and (.e (.lt h x)) (.and (.e (.his 131 i h 0 y)) (.and (.pre v) (.ext v (.and (.pre s) (.ext s (.and (.e (.le p j)) (.and (.e (.lt j x)) (.and (.e (.his 131 i j 0 y)) (.and (.pre t) (.ext t (.and (.pre u) (.ext u (.and (.e (.le p k)) (.and (.e (.lt k x)) (.and (.e (.his 131 i k 0 y)) (.and (.e (.le p o)) (.and (.e (.lt o x)) (.and (.e (.his 131 i o 0 y)) (.and (.pre b) (.ext b (.back 1 2 w [(131,some 144)]))))))))))))))))))))))))))) (.imp (.not (.lt d x)) (.and (.inv 3 [⟨151,0,.int .i64 (.var 110)⟩,⟨152,0,.int .i64 (.var 111)⟩,⟨153,0,.int .i64 (.var 112)⟩,⟨154,0,.int .i64 (.var 113)⟩,⟨155,0,.int .i64 (.var 114)⟩,⟨156,0,.int .i64 (.var 115)⟩,⟨157,0,.int .i64 (.var 116)⟩,⟨158,0,.int .i64 (.var 117)⟩,⟨150,0,.int .i64 p⟩] []) (.havoc 1 3 140 Ih))):Nd)) (.put 140 131 i d [.int .u32 (.wrap .u32 (.add (.wrap .u32 (.add (.wrap .u32 (.add (.wrap .u32 (.mul (.wrap .u32 (.hI 82 r a 0)) (.lit 16777216))) (.wrap .u32 (.mul (.wrap .u32 (.hI 82 r l 0)) (.lit 65536))))) (.wrap .u32 (.mul (.wrap .u32 (.hI 82 r m 0)) (.lit 256))))) (.wrap .u32 (.hI 82 r n 0))))]) (.call 0 141 [.sv f,.sv (.one (.int .i64 (.lit 18)))] [] []) (.call 0 142 [.sv g,.sv (.one (.int .i64 (.lit 17)))] [] []) (.call 0 143 [.sv g,.sv (.one (.int .i64 (.lit 19)))] [] []) (.call 0 140 [.sv f,.sv (.one (.int .i64 (.lit 7)))] [] [])) (.put 144 131 i d [.int .u32 (.wrap .u32 (.add (.wrap .u32 (.add (.wrap .u32 (.add (.hI 131 i k 0) (.bits .xor .u32 (.bits .xor .u32 (.var 140) (.var 141)) (.wrap .u32 (.quo (.hI 131 i h 0) (.lit 8)))))) (.hI 131 i o 0))) (.bits .xor .u32 (.bits .xor .u32 (.var 142) (.var 143)) (.wrap .u32 (.quo (.hI 131 i j 0) (.lit 1024))))))]) (.wrap .i64 (.add a (.lit 1))) (.wrap .i64 (.add a (.lit 3))) (.wrap .i64 (.add a (.lit 2))) (.one (.int .u32 (.hI 131 i h 0))) (.one (.int .u32 (.hI 131 i j 0)))) (.wrap .i64 (.add (.var 100) (.wrap .i64 (.mul (.lit 4) d)))) (.wrap .i64 (.sub d (.lit 15))) (.wrap .i64 (.sub d (.lit 16))) (.wrap .i64 (.sub d (.lit 2))) (.wrap .i64 (.sub d (.lit 7))) [⟨130,0,.int .i64 (.wrap .i64 (.add d (.lit 1)))⟩]) (.var 130) (.var 120) (.var 82) (.lit 0) (.add (.var 51) (.lit 8)) (.lit 64) (.int .u32)
def Ig:Nd:=(fun d g f=>(fun b c=>(fun a=>(.and (.imp (.lt d (.lit 32)) (.and (.e (.le f (.var 84))) (.and (.e (.le f b)) (.and (.e (.lt b (.lit 8))) (.and (.e (.his 202 (.var 84) b 0 (.int .u32))) (.and (.e (.le f c)) (.and (.e (.le f g)) (.and (.e (.le f d)) (.and (.pre a) (.ext a (.back 0 4 [⟨200,0,.int .i64 (.wrap .i64 (.add d (.lit 1)))⟩] [(202,some 202),(201,some 210)]))))))))))) (.imp (.not (.lt d (.lit 32))) (.and (.e (.le f g)) (.and (.e (.hby 201 g f (.lit 32))) (.post [.ro 4 [.var 0] true,.ro 5 [.lit 3] false,.dead,.hp 82 [79,76,73,70,67,64,61,53] [.var 82,.var 79,.var 76,.var 73,.var 70,.var 67,.var 64,.var 61,.var 50] [],.dead,.dead,.dead,.dead,.dead,.dead,.dead,.dead,.dead,.hp 202 [] [.var 84] [],.hp 201 [] [.var 120] []] (.sv (.agg (bo 201 g f 0 (List.replicate 32 (Kd.int .u8))))))))):Nd)) (.put 210 201 g d [.int .u8 (.wrap .u8 (.shr .u32 (.hI 202 (.var 84) b 0) c))])) (.wrap .i64 (.quo d (.lit 4))) (.wrap .u32 (.wrap .i64 (.sub (.lit 24) (.wrap .i64 (.mul (.lit 8) (.rem d (.lit 4)))))))) (.var 200) (.var 120) (.lit 0)
def Ie:Nd:=(fun a=>(.and (.imp a (.ext (.alloc 120) (.ext (.IX 121 (.bD 120 (List.replicate 64 (CV.int .u32 (.lit 0))) 172)) (.and (.inv 2 [⟨130,0,.int .i64 (.lit 0)⟩] [(131,some 121)]) (.havoc 1 2 122 Bv))))) (.imp (.not a) (.ext (.alloc 120) (.ext (.IX 121 (.bD 120 (List.replicate 32 (CV.int .u8 (.lit 0))) 58)) (.ext (.IX 122 (.bD 84 (al 110 (List.replicate 8 (Ck.int .u32))) 171)) (.and (.inv 4 [⟨200,0,.int .i64 (.lit 0)⟩] [(202,some 122),(201,some 121)]) (.havoc 0 4 123 Ig)))))):Nd)) (.lt (.var 100) (.add (.var 51) (.lit 8)))
def Gc:Nd:=(fun p b h=>(fun a r s m o q=>(fun c d f g i j k l n=>(.ext (.alloc 6) (.and (.pre o) (.ext o (.ext (.alloc 9) (.and (.pre m) (.ext m (.and (.inv 0 [⟨50,0,.int .i64 (.var 10)⟩,⟨51,0,.int .i64 (.add p (.lit 1))⟩,⟨52,0,.int .i64 (.var 11)⟩] [(53,some 10)]) (.havoc 0 0 12 (.and (.e (.le h b)) (.and (.imp (.not q) (.ext (.alloc 60) (.and (.pre n) (.ext n (.back 0 0 [⟨50,0,.int .i64 (.var 61)⟩,⟨51,0,.int .i64 r⟩,⟨52,0,.int .i64 (.var 62)⟩] [(53,some 61)]))))) (.imp q (.and (.e (.le h p)) (.ext (.alloc 60) (.and (.pre l) (.ext l (.ext (.alloc 63) (.and (.pre k) (.ext k (.ext (.alloc 66) (.and (.pre j) (.ext j (.ext (.alloc 69) (.and (.pre i) (.ext i (.ext (.alloc 72) (.and (.pre g) (.ext g (.ext (.alloc 75) (.and (.pre f) (.ext f (.ext (.alloc 78) (.and (.pre d) (.ext d (.ext (.alloc 81) (.and (.pre c) (.ext c (.ext (.alloc 84) (.and (.inv 1 (([⟨100,0,.int .i64 h⟩]:List As)++(Ub 85 (al 110 (List.replicate 8 (Ck.int .u32))) [.int .u32 (.lit 1779033703),.int .u32 (.lit 3144134277),.int .u32 (.lit 1013904242),.int .u32 (.lit 2773480762),.int .u32 (.lit 1359893119),.int .u32 (.lit 2600822924),.int .u32 (.lit 528734635),.int .u32 (.lit 1541459225)])) []) (.havoc 0 1 85 Ie)))))))))))))))))))))))))))))))))))))):Nd)) (.app 82 5 1 1 (.sl (.var 79) h (.add b (.lit 7)) (.var 80)) (.add b (.lit 7)) (.hp 79 [76,73,70,67,64,61,53] [.var 79,.var 76,.var 73,.var 70,.var 67,.var 64,.var 61,.var 50] []) (.cvs [.int .u8 (.wrap .u8 (.shr .u64 a h))] 1)) (.app 79 5 1 1 (.sl (.var 76) h (.add b (.lit 6)) (.var 77)) (.add b (.lit 6)) (.hp 76 [73,70,67,64,61,53] [.var 76,.var 73,.var 70,.var 67,.var 64,.var 61,.var 50] []) (.cvs [.int .u8 (.wrap .u8 (.shr .u64 a (.lit 8)))] 1)) (.app 76 5 1 1 (.sl (.var 73) h (.add b (.lit 5)) (.var 74)) (.add b (.lit 5)) (.hp 73 [70,67,64,61,53] [.var 73,.var 70,.var 67,.var 64,.var 61,.var 50] []) (.cvs [.int .u8 (.wrap .u8 (.shr .u64 a (.lit 16)))] 1)) (.app 73 5 1 1 (.sl (.var 70) h (.add b (.lit 4)) (.var 71)) (.add b (.lit 4)) (.hp 70 [67,64,61,53] [.var 70,.var 67,.var 64,.var 61,.var 50] []) (.cvs [.int .u8 (.wrap .u8 (.shr .u64 a (.lit 24)))] 1)) (.app 70 5 1 1 (.sl (.var 67) h (.add b (.lit 3)) (.var 68)) (.add b (.lit 3)) (.hp 67 [64,61,53] [.var 67,.var 64,.var 61,.var 50] []) (.cvs [.int .u8 (.wrap .u8 (.shr .u64 a (.lit 32)))] 1)) (.app 67 5 1 1 (.sl (.var 64) h (.add b (.lit 2)) (.var 65)) (.add b (.lit 2)) (.hp 64 [61,53] [.var 64,.var 61,.var 50] []) (.cvs [.int .u8 (.wrap .u8 (.shr .u64 a (.lit 40)))] 1)) (.app 64 5 1 1 (.sl (.var 61) h r (.var 62)) r (.hp 61 [53] [.var 61,.var 50] []) (.cvs [.int .u8 (.wrap .u8 (.shr .u64 a (.lit 48)))] 1)) (.app 61 5 1 1 s b (.hp 53 [] [.var 50] []) (.cvs [.int .u8 (.wrap .u8 (.shr .u64 a (.lit 56)))] 1)) (.app 61 5 1 1 s b (.hp 53 [] [.var 50] []) (.cvs [.int .u8 h] 1))) (.wrap .u64 (.mul (.wrap .u64 p) (.lit 8))) (.add b (.lit 1)) (.sl (.var 50) h b (.var 52)) (.app 10 5 1 1 (.sl (.var 7) h p (.var 8)) p (.hp 7 [] [.var 7] []) (.cvs [.int .u8 (.lit 128)] 1)) (.app 7 5 1 1 (.sl (.lit (-1)) h h h) h .dead (.seg 4 (.var 0) (.var 1) p)) (.eq (.rem b (.lit 64)) (.lit 56))) (.var 2) (.var 51) (.lit 0)
def Nk:List Sx.Spec:=[mj]
theorem RD:∀ t∈Nk,t.OK Tryz.prog:=fun t ht=>by
 simp only[Nk,Zl,Zq,ZO]at ht;subst ht;exact ya
def PF:bU Tryz.prog Nk iz.fn where
 Λ:=fun p=>if Kg p [64,1,1,1,1,0,0]then some ⟨0,[(3,.sv (.one (.sl (.var 50) (.lit 0) (.var 51) (.var 52))))],[(3,.hp 53 [] [.var 50] [])],60⟩
  else if Kg p [64,1,1,1,1,1,1,1,1,0,1,0]then some ⟨1,[(7,TI .i64 (.var 100))],[(13,.bD 84 (al 110 (List.replicate 8 tv)) 171)],120⟩
  else if Kg p [64,1,1,1,1,1,1,1,1,0,1,0,0,1,0,0,1,0,1,0]then some ⟨2,[(9,TI .i64 (.var 130))],[(14,.hp 131 [] [.var 120] [])],140⟩
  else if Kg p [64,1,1,1,1,1,1,1,1,0,1,0,0,1,0,0,1,1,1,0,1,0]then some ⟨3,[(21,TI .i64 (.var 150)),(13,.sv (.one (.int .u32 (.var 151)))),(14,.sv (.one (.int .u32 (.var 152)))),(15,.sv (.one (.int .u32 (.var 153)))),(16,.sv (.one (.int .u32 (.var 154)))),(17,.sv (.one (.int .u32 (.var 155)))),(18,.sv (.one (.int .u32 (.var 156)))),(19,.sv (.one (.int .u32 (.var 157)))),(20,.sv (.one (.int .u32 (.var 158))))],[],170⟩
  else if Kg p [64,1,1,1,1,1,1,1,1,1,1,0,1,0]then some ⟨4,[(25,TI .i64 (.var 200))],[(14,.hp 201 [] [.var 120] []),(13,.hp 202 [] [.var 84] [])],210⟩else none
 args:=[.sv (.one (.sl (.var 0) (.var 1) (.var 2) (.var 3)))]
 mem:=[.ro 4 [.var 0] true,.ro 5 [.lit 3] false]
 nv:=6
 nd:=Gc
 ok:=by kernel_rfl
theorem MN:Nk[0]?=some mj:=rfl
theorem MO:mj.res=[.one tv]:=rfl
def zE (bs:List Int) (j:Nat) (q:Env):Prop:=match j with
 | 0=>∃ m:Nat,m<=(119-bs.length%64)%64/\q.i 51=bs.length+1+m/\ -1<=q.i 50/\0<=q.i 52/\cH (q.h 53) 5 (.slice (aA (q.i 50) 0) (q.i 51).toNat (q.i 52).toNat) (bs++[128]++List.replicate m 0)
 | 1=>∃ k:Nat,q.i 100=((64*k:Nat):Int)/\64*k<=(fO bs).length/\GP q 110 (lZ dJ (fO bs) k)
 | 2=>∃ (k:Nat) (l:List Int),q.i 130=k/\k<=64/\IB (((fO bs).drop (q.i 100).toNat).take 64) k l/\q.h 131=wH (q.i 120).toNat l 172
 | 4=>∃ (k:Nat) (l:List Int),q.i 200=k/\k<=32/\l.length=32/\(∀ j,j<k->l[j]?=some ((fP bs).getD j 0))/\q.h 201=Hl.one (q.i 120).toNat (.cells (bK l).toArray 58 (0,0))/\q.h 202=wH (q.i 84).toNat (s8 (BB bs)) 171
 | _=>∃ k:Nat,q.i 150=k/\k<=64/\GP q 151 (dy (lZ dJ (fO bs) ((q.i 100).toNat/64)) (bu (((fO bs).drop (q.i 100).toNat).take 64) 64) k)
def JK (bs:List Int) (j:Nat) (q:Env):Nat:=match j with
 | 0=>((bs.length:Int)+100-q.i 51).toNat
 | 1=>((fO bs).length-q.i 100).toNat
 | 2=>(64-q.i 130).toNat
 | 4=>(32-q.i 200).toNat
 | _=>(64-q.i 150).toNat
def Ud (bs:List Int) (xs:List Value) (Rs:List Hl):Ctx:=⟨Nk,zE bs,JK bs,postOf iz xs [] Rs⟩
theorem gH {x:Int} (h:okW x) {n:Int} (h0:0<=n) (h1:n<=32):mj.pre [.int .u32 x,.int .i64 n] [] []:=⟨⟨⟨fun i=>if i=0 then x else n,fun _=>false,fun _=>.empty,fun _=>.tuple #[],fun _=>Hl.none⟩,⟨trivial,trivial,trivial⟩,rfl⟩,h,h0,h1⟩
theorem fN {q:Env} {n m:Nat} {x:Int} {xs:List Value} {Hs Rs K:List Hl} {F:Hl} (hx:xs=[.int .u32 x,.int .i64 (m:Int)]) (h:mj.post xs Hs Rs (Value.int .u32 (q.i n)) K F):q.i n=cm m x:=by
 subst hx;have h:Value.int .u32 (q.i n)=Value.int .u32 (cm ((m:Int)).toNat x):=h;rw[Y7]at h;simpa using h
section
variable {bs:List Int} {xs:List Value} {Rs:List Hl} {ms:Nat->Nat} {q:Env} {P B S:List Int} {k:Nat}
structure pE (bs P B:List Int) (k:Nat) (q:Env):Prop where
 p:P=fO bs
 b:B=(P.drop (64*k)).take 64
 k2:64*k+64<=P.length
 le:P.length<=1000000
 bb:aS B
 e100:q.i 100=((64*k:Nat):Int)
 s:GP q 110 (lZ dJ P k)
 p120:0<=q.i 120
 kat:uz (q.h 5) 3
 cell:∀ j z,P[j]?=some z->(q.h 82).cell (q.i 82).toNat j=some (.int .u8 z)
 x82:0<=q.i 82
 e51:q.i 51+8=P.length
theorem pE.mono {q':Env} {n:Nat} (h:pE bs P B k q) (g:ah n q q') (hn:121<=n):pE bs P B k q':=by
 obtain⟨a1,a2,a3,a4,a5,a6,a7,a8,a9,a10,a11,a12⟩:=h;exact⟨a1,a2,a3,a4,a5,by rw[g.i 100];exact a6,a7.mono g (by omega),by rw[g.i 120];exact a8,by rw[g.h 5];exact a9,by rw[g.h 82,g.i 82];exact a10,by rw[g.i 82];exact a11,by rw[g.i 51];exact a12⟩
theorem pE.len (h:pE bs P B k q):B.length=64:=by
 have:=h.k2;rw[h.b,ZE,ZX];omega
theorem pE.get (h:pE bs P B k q) {j:Nat} (hj:j<64):B.getD j 0=P.getD (64*k+j) 0:=by
 rw[h.b,Zt,Z9 hj,ZZ,<-Zt]
theorem JM (hB:pE bs P B k q) (hS:S=bu B 64) (h131:q.h 131=wH (q.i 120).toNat S 172) {n:Nat} (e150:q.i 150=n) (hn:n<=64) (h8:GP q 151 (dy (lZ dJ P k) S n)) (m0:ms 0=(P.length-q.i 100).toNat) (m1:ms 1=(64-q.i 150).toNat):Ih.holds (Ud bs xs Rs) ms q:=by
 show Nd.holds ⟨Nk,zE bs,JK bs,postOf iz xs [] Rs⟩ ms q Ih;have hle:=hB.le;have cX:=hB.k2;unfold Ih;simp only[Nd.holds,X.pre,X.rel,X.n,Src.ok,Src.len,Src.bG,Zy,Zm,ZG,Zx,Zp,Nat.reduceAdd,Zd,Zh,bn,bj,aJ,aU,aR,bm,aZ,bh,bg,bd,aV,ba,bk,aX,aW,aK,aY,ai,aj,aB,aF,aD,ar,aG,aQ,aP,aq,aI,az,aH,av,TV.ev,SV.ev,CV.ev,Zf,Zr,bx.hl,cu,Cp.sv,Ck.cv,bf,Cp.len,Ck.len,aE,aN,aT,MN,MO];obtain⟨r,hr⟩:∃ r,r=dy (lZ dJ P k) S n:=⟨_,rfl⟩;rw[<-hr]at h8;have okr:∀ j,j<8->okW (r j):=by rw[hr];exact qw (mP P k) S n
 rw[e150];refine⟨fun hlt=>?_,fun hge=>?_⟩
 .have hn64:n<64:=by omega
  have cK:∀ {q':Env},ah 170 q q'->(q'.h 5).cell 3 (q'.i 150).toNat=some (.int .u32 (BA.getD n 0)):=fun {q'} hg=>by
   rw[hg.i 150,hg.h 5,e150,Y7];exact hB.kat n hn64
  have cS:∀ {q':Env},ah 170 q q'->(q'.h 131).cell (q'.i 120).toNat (q'.i 150).toNat=some (.int .u32 (S.getD n 0)):=fun {q'} hg=>by
   rw[hg.i 150,hg.i 120,hg.h 131,h131,e150,Y7];refine zR ?_;rw[Zt,Y8 (by rw[hS,dz];exact hn64)];rfl
  have r4:∀ {q':Env},ah 170 q q'->q'.i 155=r 4:=fun hg=>(h8.mono hg (by omega)) 4 (by omega);have r0:∀ {q':Env},ah 170 q q'->q'.i 151=r 0:=fun hg=>(h8.mono hg (by omega)) 0 (by omega);have cK0:(q.h 5).cell (Int.toNat 3) ((n:Int)).toNat=some (.int .u32 (BA.getD n 0)):=by rw[<-e150];exact cK (ah.refl _ _)
  have cS0:(q.h 131).cell (q.i 120).toNat ((n:Int)).toNat=some (.int .u32 (S.getD n 0)):=by rw[<-e150];exact cS (ah.refl _ _)
  rw[cK0,cS0,r4 (ah.refl _ _)];refine⟨by omega,rfl,hB.p120,rfl,gH (okr 4 (by omega)) (by omega) (by omega),fun q6 g6 ⟨_,p6,_,_⟩=>?_⟩;rw[r4 g6];refine⟨gH (okr 4 (by omega)) (by omega) (by omega),fun q7 g7 ⟨_,p7,_,_⟩=>?_⟩;have G7:ah 170 q q7:=g6.tr g7;rw[r4 G7];refine⟨gH (okr 4 (by omega)) (by omega) (by omega),fun q8 g8 ⟨_,p8,_,_⟩=>?_⟩;have G8:ah 170 q q8:=G7.tr g8;rw[r0 G8];refine⟨gH (okr 0 (by omega)) (by omega) (by omega),fun q9 g9 ⟨_,p9,_,_⟩=>?_⟩;have G9:ah 170 q q9:=G8.tr g9;rw[r0 G9];refine⟨gH (okr 0 (by omega)) (by omega) (by omega),fun q10 g10 ⟨_,p10,_,_⟩=>?_⟩;have G10:ah 170 q q10:=G9.tr g10;rw[r0 G10];refine⟨gH (okr 0 (by omega)) (by omega) (by omega),fun q11 g11 ⟨_,p11,_,_⟩=>?_⟩;have G11:ah 170 q q11:=G10.tr g11;have e170:q11.i 170=cm 6 (r 4):=by rw[g11.i 170,g10.i 170,g9.i 170,g8.i 170,g7.i 170];exact fN (m:=6) rfl p6
  have e171:q11.i 171=cm 11 (r 4):=by rw[g11.i 171,g10.i 171,g9.i 171,g8.i 171];exact fN (m:=11) rfl p7
  have e172:q11.i 172=cm 25 (r 4):=by rw[g11.i 172,g10.i 172,g9.i 172];exact fN (m:=25) rfl p8
  have e173:q11.i 173=cm 2 (r 0):=by rw[g11.i 173,g10.i 173];exact fN (m:=2) rfl p9
  have e174:q11.i 174=cm 13 (r 0):=by rw[g11.i 174];exact fN (m:=13) rfl p10
  have e175:q11.i 175=cm 22 (r 0):=fN (m:=22) rfl p11;have s11:GP q11 151 r:=h8.mono G11 (by omega);have nE:IntKind.u32.wrap (4294967295-r 4)=4294967295-r 4:=by
   have:=okr 4 (by omega);unfold okW at this;exact oI ⟨by omega,by omega⟩
  have eT:dR (dR (dR (dR (q11.i 158+jJ (q11.i 170) (q11.i 171) (q11.i 172))+cU .xor .u32 (ij (q11.i 155) (q11.i 156)) (ij (IntKind.u32.wrap (4294967295-q11.i 155)) (q11.i 157)))+cW ((q11.h 5).cell 3 (q11.i 150).toNat))+cW ((q11.h 131).cell (q11.i 120).toNat (q11.i 150).toNat))=Gq r (BA.getD n 0) (S.getD n 0):=by
   rw[cK G11,cS G11,e170,e171,e172,show q11.i 158=r 7 from s11 7 (by omega),show q11.i 155=r 4 from s11 4 (by omega),show q11.i 156=r 5 from s11 5 (by omega),show q11.i 157=r 6 from s11 6 (by omega),nE];rfl
  have eU:dR (jJ (q11.i 173) (q11.i 174) (q11.i 175)+cU .xor .u32 (cU .xor .u32 (ij (q11.i 151) (q11.i 152)) (ij (q11.i 151) (q11.i 153))) (ij (q11.i 152) (q11.i 153)))=Nl r:=by
   rw[e173,e174,e175,show q11.i 151=r 0 from s11 0 (by omega),show q11.i 152=r 1 from s11 1 (by omega),show q11.i 153=r 2 from s11 2 (by omega)];rfl
  have ew:IntKind.i64.wrap (q11.i 150+1)=((n+1:Nat):Int):=by rw[G11.i 150,e150,wrap_i64 (by omega) (by omega)];rfl
  have f100:q11.i 100=((64*k:Nat):Int):=by rw[G11.i 100,hB.e100]
  refine⟨⟨n+1,ew,by omega,fun j hj=>?_⟩,?_⟩
  .show _=dy (lZ dJ (fO bs) ((q11.i 100).toNat/64)) (bu (((fO bs).drop (q11.i 100).toNat).take 64) 64) (n+1) j;rw[f100,Y7,show 64*k/64=k by omega,<-hB.p,<-hB.b,<-hS];show _=rY (dy (lZ dJ P k) S n) (BA.getD n 0) (S.getD n 0) j;rw[<-hr]
   match j,hj with
   | 0,_ =>
    show dR (dR (dR (dR (dR (q11.i 158+jJ (q11.i 170) (q11.i 171) (q11.i 172))+cU .xor .u32 (ij (q11.i 155) (q11.i 156)) (ij (IntKind.u32.wrap (4294967295-q11.i 155)) (q11.i 157)))+cW ((q11.h 5).cell 3 (q11.i 150).toNat))+cW ((q11.h 131).cell (q11.i 120).toNat (q11.i 150).toNat))+dR (jJ (q11.i 173) (q11.i 174) (q11.i 175)+cU .xor .u32 (cU .xor .u32 (ij (q11.i 151) (q11.i 152)) (ij (q11.i 151) (q11.i 153))) (ij (q11.i 152) (q11.i 153))))=dR (Gq r _ _+Nl r);rw[eT,eU]
   | 4,_ =>
    show dR (q11.i 154+dR (dR (dR (dR (q11.i 158+jJ (q11.i 170) (q11.i 171) (q11.i 172))+cU .xor .u32 (ij (q11.i 155) (q11.i 156)) (ij (IntKind.u32.wrap (4294967295-q11.i 155)) (q11.i 157)))+cW ((q11.h 5).cell 3 (q11.i 150).toNat))+cW ((q11.h 131).cell (q11.i 120).toNat (q11.i 150).toNat)))=dR (r 3+Gq r _ _);rw[eT,show q11.i 154=r 3 from s11 3 (by omega)]
   | 1,_=>exact s11 0 (by omega)
   | 2,_=>exact s11 1 (by omega)
   | 3,_=>exact s11 2 (by omega)
   | 5,_=>exact s11 4 (by omega)
   | 6,_=>exact s11 5 (by omega)
   | 7,_=>exact s11 6 (by omega)
  .rw[m1,e150];show(64-IntKind.i64.wrap (q11.i 150+1)).toNat<_;rw[ew];omega
 .have en:n=64:=by omega
  subst en;have ew:IntKind.i64.wrap (q.i 100+64)=((64*(k+1):Nat):Int):=by rw[hB.e100,wrap_i64 (by omega) (by omega)];omega
  refine⟨⟨k+1,ew,by rw[<-hB.p];omega,fun j hj=>?_⟩,?_⟩
  .rw[<-hB.p];show _=dR (lZ dJ P k j+dy (lZ dJ P k) (bu ((P.drop (64*k)).take 64) 64) 64 j);rw[<-hB.b,<-hS,<-hr,<-hB.s j hj,<-h8 j hj]
   match j,hj with
   | 0,_=>rfl
   | 1,_=>rfl
   | 2,_=>rfl
   | 3,_=>rfl
   | 4,_=>rfl
   | 5,_=>rfl
   | 6,_=>rfl
   | 7,_=>rfl
  .rw[m0];show(((fO bs).length:Int)-IntKind.i64.wrap (q.i 100+64)).toNat<_;rw[ew,<-hB.p,hB.e100];omega
theorem J8 (a b c d:Int) (ha:0<=a/\a<256) (hb:0<=b/\b<256) (hc:0<=c/\c<256) (hd:0<=d/\d<256):dR (dR (dR (dR (dR a*16777216)+dR (dR b*65536))+dR (dR c*256))+dR d)=dR (a*16777216+b*65536+c*256+d):=by
 simp only[sj];omega
theorem PB {x:Int} (h:okW x) {n:Int} (hn:0<n):IntKind.u32.wrap (x.tdiv n)=x/n:=by
 unfold okW at h;rw[aaH h.1];refine oI ⟨Int.ediv_nonneg h.1 (by omega),Int.lt_of_le_of_lt (Int.ediv_le_self _ h.1) h.2⟩
theorem JN (hB:pE bs P B k q) {l:List Int} {n:Nat} (hW:IB B n l) (h131:q.h 131=wH (q.i 120).toNat l 172) (e130:q.i 130=n) (hn:n<=64) (m0:ms 0=(P.length-q.i 100).toNat) (m1:ms 1=(64-q.i 130).toNat):Bv.holds (Ud bs xs Rs) ms q:=by
 show Nd.holds ⟨Nk,zE bs,JK bs,postOf iz xs [] Rs⟩ ms q Bv;have hle:=hB.le;have cX:=hB.k2;have hBl:=hB.len;have hl:=hW.1;have f100:=hB.e100;have fold:∀ q':Env,ah 131 q q'->(((fO bs).drop (q'.i 100).toNat).take 64)=B:=fun q' hg=>by
  rw[hg.i 100,f100,Y7,<-hB.p,<-hB.b]
 unfold Bv;simp only[Nd.holds,X.pre,X.rel,X.n,Src.ok,Src.len,Src.bG,Zy,Zm,ZG,Zx,Zp,Nat.reduceAdd,Zd,Zh,bn,bj,aJ,aU,aR,bm,aZ,bh,bg,bd,aV,ba,bk,aX,aW,aK,aY,ai,aj,aB,aF,aD,ar,aG,aQ,aP,aq,aI,az,aH,av,TV.ev,SV.ev,CV.ev,Zf,Zr,bx.hl,cu,Cp.sv,Ck.cv,bf,Cp.len,Ck.len,aE,aN,aT,MN,MO];rw[e130];refine⟨fun hlt2=>⟨fun h16=>?_,fun h16=>?_⟩,fun hge2=>?_⟩
 .have rdB:∀ {d:Nat},d<4->(q.h 82).cell (q.i 82).toNat (((64*k:Nat):Int)+4*(n:Int)+(d:Int)).toNat=some (.int .u8 (B.getD (4*n+d) 0)):=fun {d} hd=>by
   rw[show(((64*k:Nat):Int)+4*(n:Int)+(d:Int)).toNat=64*k+(4*n+d)by omega,hB.get (by omega)];refine hB.cell _ _ ?_;rw[Zt,Y8 (by omega)];rfl
  have w0:IntKind.i64.wrap (q.i 100+IntKind.i64.wrap (4*(n:Int)))=((64*k:Nat):Int)+4*(n:Int):=by rw[f100,wrap_i64 (n:=4*(n:Int)) (by omega) (by omega),wrap_i64 (by omega) (by omega)]
  have w1:∀ d:Nat,d<4->IntKind.i64.wrap (((64*k:Nat):Int)+4*(n:Int)+(d:Int))=((64*k:Nat):Int)+4*(n:Int)+(d:Int):=fun d hd=>wrap_i64 (by omega) (by omega);have c0:=rdB (d:=0) (by omega);rw[show((64*k:Nat):Int)+4*(n:Int)+((0:Nat):Int)=((64*k:Nat):Int)+4*(n:Int)by omega]at c0;have c1:(q.h 82).cell (q.i 82).toNat (((64*k:Nat):Int)+4*(n:Int)+1).toNat=some (.int .u8 (B.getD (4*n+1) 0)):=rdB (d:=1) (by omega);have c2:(q.h 82).cell (q.i 82).toNat (((64*k:Nat):Int)+4*(n:Int)+2).toNat=some (.int .u8 (B.getD (4*n+2) 0)):=rdB (d:=2) (by omega);have c3:(q.h 82).cell (q.i 82).toNat (((64*k:Nat):Int)+4*(n:Int)+3).toNat=some (.int .u8 (B.getD (4*n+3) 0)):=rdB (d:=3) (by omega);have x1:IntKind.i64.wrap (((64*k:Nat):Int)+4*(n:Int)+1)=((64*k:Nat):Int)+4*(n:Int)+1:=w1 1 (by omega);have x2:IntKind.i64.wrap (((64*k:Nat):Int)+4*(n:Int)+2)=((64*k:Nat):Int)+4*(n:Int)+2:=w1 2 (by omega);have x3:IntKind.i64.wrap (((64*k:Nat):Int)+4*(n:Int)+3)=((64*k:Nat):Int)+4*(n:Int)+3:=w1 3 (by omega);have gB:∀ j,j<64->0<=B.getD j 0/\B.getD j 0<256:=fun j hj=>by
   rw[Zt,Y8 (by omega),aav];exact hB.bb _ (aay _)
  rw[w0,x1,x2,x3,c0,c1,c2,c3,hB.e51];refine⟨hB.x82,by omega,by omega,rfl,by omega,by omega,rfl,by omega,by omega,rfl,by omega,by omega,rfl,hB.p120,by omega,⟨hB.p120,by omega,?_⟩,fun q26 g26 h140=>?_⟩
  .rw[h131,Y7];exact Iy (by omega)
  have h140:q26.h 140=(wH (q.i 120).toNat l 172).put (q.i 120).toNat n [Value.int .u32 (dR (dR (dR (dR (dR (B.getD (4*n) 0)*16777216)+dR (dR (B.getD (4*n+1) 0)*65536))+dR (dR (B.getD (4*n+2) 0)*256))+dR (B.getD (4*n+3) 0)))]:=by
   rw[h140,h131,Y7];rfl
  rw[J8 _ _ _ _ (gB _ (by omega)) (gB _ (by omega)) (gB _ (by omega)) (gB _ (by omega)),BM (by omega)]at h140;have ew:IntKind.i64.wrap (q26.i 130+1)=((n+1:Nat):Int):=by rw[g26.i 130,e130,wrap_i64 (by omega) (by omega)];rfl
  refine⟨⟨n+1,l.set n (D9 B n),ew,by omega,?_,?_⟩,?_⟩
  .show IB (((fO bs).drop (q26.i 100).toNat).take 64) _ _;rw[fold q26 g26.mono];exact hW.set (by omega) (by rw[ZA (by omega)])
  .show q26.h 140=wH (q26.i 120).toNat _ _;rw[h140,g26.i 120];rfl
  .rw[m1,e130];show(64-IntKind.i64.wrap (q26.i 130+1)).toNat<_;rw[ew];omega
 .have rd:∀ {q':Env},ah 140 q q'->∀ d:Nat,1<=d->d<=16->(q'.h 131).cell (q'.i 120).toNat ((n:Int)-d).toNat=some (.int .u32 ((bu B n).getD (n-d) 0)):=fun {q'} hg d h1 h2=>by
   rw[hg.h 131,hg.i 120,h131,show((n:Int)-d).toNat=n-d by omega];exact zR (hW.get (by omega) (by omega))
  have ok:∀ d:Nat,1<=d->d<=16->okW ((bu B n).getD (n-d) 0):=fun d h1 h2=>DP _ _ (by omega);have wd:∀ {q':Env},ah 140 q q'->∀ d:Nat,1<=d->d<=16->IntKind.i64.wrap (q'.i 130-d)=(n:Int)-d:=fun hg d h1 h2=>by rw[hg.i 130,e130,wrap_i64 (by omega) (by omega)]
  have w15:∀ {q':Env},ah 140 q q'->IntKind.i64.wrap (q'.i 130-15)=(n:Int)-15:=fun hg=>wd hg 15 (by omega) (by omega);have w2:∀ {q':Env},ah 140 q q'->IntKind.i64.wrap (q'.i 130-2)=(n:Int)-2:=fun hg=>wd hg 2 (by omega) (by omega);have w16:∀ {q':Env},ah 140 q q'->IntKind.i64.wrap (q'.i 130-16)=(n:Int)-16:=fun hg=>wd hg 16 (by omega) (by omega);have w7:∀ {q':Env},ah 140 q q'->IntKind.i64.wrap (q'.i 130-7)=(n:Int)-7:=fun hg=>wd hg 7 (by omega) (by omega);have r15:∀ {q':Env},ah 140 q q'->(q'.h 131).cell (q'.i 120).toNat ((n:Int)-15).toNat=some (.int .u32 ((bu B n).getD (n-15) 0)):=fun hg=>rd hg 15 (by omega) (by omega);have r2:∀ {q':Env},ah 140 q q'->(q'.h 131).cell (q'.i 120).toNat ((n:Int)-2).toNat=some (.int .u32 ((bu B n).getD (n-2) 0)):=fun hg=>rd hg 2 (by omega) (by omega);have r16:∀ {q':Env},ah 140 q q'->(q'.h 131).cell (q'.i 120).toNat ((n:Int)-16).toNat=some (.int .u32 ((bu B n).getD (n-16) 0)):=fun hg=>rd hg 16 (by omega) (by omega);have r7:∀ {q':Env},ah 140 q q'->(q'.h 131).cell (q'.i 120).toNat ((n:Int)-7).toNat=some (.int .u32 ((bu B n).getD (n-7) 0)):=fun hg=>rd hg 7 (by omega) (by omega);have a15:=w15 (ah.refl 140 q);rw[e130]at a15;rw[a15,r15 (ah.refl _ _)];refine⟨hB.p120,by omega,by omega,rfl,gH (ok 15 (by omega) (by omega)) (by omega) (by omega),fun q6 g6 ⟨_,p6,_,_⟩=>?_⟩;rw[w15 g6,r15 g6];refine⟨gH (ok 15 (by omega) (by omega)) (by omega) (by omega),fun q7 g7 ⟨_,p7,_,_⟩=>?_⟩;have G7:ah 140 q q7:=g6.tr g7;rw[w2 G7,r2 G7];refine⟨by omega,by omega,rfl,gH (ok 2 (by omega) (by omega)) (by omega) (by omega),fun q8 g8 ⟨_,p8,_,_⟩=>?_⟩;have G8:ah 140 q q8:=G7.tr g8;rw[w2 G8,r2 G8];refine⟨gH (ok 2 (by omega) (by omega)) (by omega) (by omega),fun q9 g9 ⟨_,p9,_,_⟩=>?_⟩;have G9:ah 140 q q9:=G8.tr g9;have e140:q9.i 140=cm 7 ((bu B n).getD (n-15) 0):=by rw[g9.i 140,g8.i 140,g7.i 140];exact fN (m:=7) rfl p6
  have e141:q9.i 141=cm 18 ((bu B n).getD (n-15) 0):=by rw[g9.i 141,g8.i 141];exact fN (m:=18) rfl p7
  have e142:q9.i 142=cm 17 ((bu B n).getD (n-2) 0):=by rw[g9.i 142];exact fN (m:=17) rfl p8
  have e143:q9.i 143=cm 19 ((bu B n).getD (n-2) 0):=fN (m:=19) rfl p9;have x1:aC q9 (E.bits BinOp.xor IntKind.u32 (E.bits BinOp.xor IntKind.u32 (E.var 140) (E.var 141)) (E.wrap IntKind.u32 ((E.hI 131 (E.var 120) (E.wrap IntKind.i64 ((E.var 130).sub (E.lit 15))) 0).quo (E.lit 8))))=XT ((bu B n).getD (n-15) 0):=by
   show jJ (q9.i 140) (q9.i 141) (IntKind.u32.wrap ((cW ((q9.h 131).cell (q9.i 120).toNat ((IntKind.i64.wrap (q9.i 130-15)).toNat))).tdiv 8))=_;rw[w15 G9,r15 G9,show cW (some (Value.int .u32 ((bu B n).getD (n-15) 0)))=(bu B n).getD (n-15) 0 from rfl,PB (ok 15 (by omega) (by omega)) (by omega),e140,e141];rfl
  have x2:aC q9 (E.bits BinOp.xor IntKind.u32 (E.bits BinOp.xor IntKind.u32 (E.var 142) (E.var 143)) (E.wrap IntKind.u32 ((E.hI 131 (E.var 120) (E.wrap IntKind.i64 ((E.var 130).sub (E.lit 2))) 0).quo (E.lit 1024))))=R8 ((bu B n).getD (n-2) 0):=by
   show jJ (q9.i 142) (q9.i 143) (IntKind.u32.wrap ((cW ((q9.h 131).cell (q9.i 120).toNat ((IntKind.i64.wrap (q9.i 130-2)).toNat))).tdiv 1024))=_;rw[w2 G9,r2 G9,show cW (some (Value.int .u32 ((bu B n).getD (n-2) 0)))=(bu B n).getD (n-2) 0 from rfl,PB (ok 2 (by omega) (by omega)) (by omega),e142,e143];rfl
  have j130:q9.i 130=n:=by rw[G9.i 130,e130]
  have j120:q9.i 120=q.i 120:=G9.i 120;have hh9:q9.h 131=wH (q.i 120).toNat l 172:=by rw[G9.h 131,h131]
  rw[w16 G9,w7 G9,r16 G9,r7 G9,x1,x2,j130,j120,Y7,hh9];refine⟨by omega,by omega,rfl,by omega,by omega,rfl,⟨hB.p120,by omega,Iy (by omega)⟩,fun q10 g10 h144=>?_⟩;have h144:q10.h 144=(wH (q.i 120).toNat l 172).put (q.i 120).toNat n [Value.int .u32 (zS (bu B n) n)]:=h144;rw[BM (by omega)]at h144;have ew:IntKind.i64.wrap (q10.i 130+1)=((n+1:Nat):Int):=by rw[g10.i 130,j130,wrap_i64 (by omega) (by omega)];rfl
  have G10:ah 140 q q10:=G9.tr g10;refine⟨⟨n+1,l.set n (zS (bu B n) n),ew,by omega,?_,?_⟩,?_⟩
  .show IB (((fO bs).drop (q10.i 100).toNat).take 64) _ _;rw[fold q10 G10.mono];exact hW.set (by omega) (by rw[Zo (by omega)])
  .show q10.h 144=wH (q10.i 120).toNat _ _;rw[h144,g10.i 120,j120]
  .rw[m1,e130];show(64-IntKind.i64.wrap (q10.i 130+1)).toNat<_;rw[ew];omega
 .have en:n=64:=by omega
  subst en;have el:=hW.all;refine⟨⟨0,rfl,by omega,fun j hj=>?_⟩,fun q26 g26 ⟨n',e150,hn',s8'⟩=>?_⟩
  .show _=dy (lZ dJ (fO bs) ((q.i 100).toNat/64)) (bu (((fO bs).drop (q.i 100).toNat).take 64) 64) 0 j;rw[f100,Y7,show 64*k/64=k by omega,<-hB.p];show _=lZ dJ P k j;rw[<-hB.s j hj]
   match j,hj with
   | 0,_=>rfl
   | 1,_=>rfl
   | 2,_=>rfl
   | 3,_=>rfl
   | 4,_=>rfl
   | 5,_=>rfl
   | 6,_=>rfl
   | 7,_=>rfl
  .have hB6:=hB.mono g26 (by omega);refine JM hB6 (S:=bu B 64) rfl ?_ e150 hn' ?_ ?_ rfl
   .rw[g26.h 131,h131,g26.i 120,el]
   .rw[hB6.e100,Y7,show 64*k/64=k by omega,<-hB.p,<-hB.b]at s8';exact s8'
   .show ms 0=_;rw[m0,g26.i 100]
def bH (b:Nat) (l:List Int) (T:TypeId):Hl:=Hl.one b (.cells (bK l).toArray T (0,0))
theorem PY {b:Nat} {l:List Int} {T:TypeId} {y:Nat} (h:y<l.length) (z:Int):(bH b l T).put b y [Value.int .u8 z]=bH b (l.set y z) T:=by
 unfold bH bK;rw[Hl.AY]
 congr 2
 apply ZW;apply ZN;intro j;rw[Sx.qB (by simp;omega),ach];simp only[Zd,Zh,abt,ZD,Zs];by_cases h2:j=y
 .subst h2;rw[ZA (by omega),ZA rfl,ZA h];simp
 .rw[Zo (by omega),Zo (by omega)]
theorem SB {b:Nat} {l:List Int} {T:TypeId} {y:Nat} (h:y<l.length):(bH b l T).wr b y 1=true:=Hl.FF _ _ _ _ _ (by simp [bK];omega)
theorem Nw (b:Nat) (l:List Int) (T:TypeId) (j:Nat):(bH b l T).cell b j=(l[j]?).map (Value.int .u8):=by
 unfold bH bK;rw[Hl.j7,aae,Zs]
theorem MV (bs:List Int) {j:Nat} (h:j<32):(fP bs).getD j 0=BB bs (j/4)/2 ^ (24-8*(j%4))%256:=by
 unfold fP;rw[Zt,Zs,ZI h];rfl
theorem MW {x:Int} (hx:okW x) {s:Nat} (hs:s<=24):IntKind.u8.wrap (x.fdiv (2 ^ (min ((s:Int)).toNat IntKind.u32.bits)))=x/2 ^ s%256:=by
 unfold okW at hx;have e:min ((s:Nat):Int).toNat IntKind.u32.bits=s:=by show min _ 32=_;omega
 have e2:(0:Int)<=2 ^ s:=Int.le_of_lt (Int.pow_pos (by decide));rw[e,aap _ e2];exact PO _
theorem JL {R RG:Hl} {u:Value} (hxs:xs=[u]) (hRs:Rs=[R,RG]) (hR:fp R u bs) (p84:0<=q.i 84) (p120:0<=q.i 120) {l:List Int} {n:Nat} (e200:q.i 200=n) (hn:n<=32) (hl:l.length=32) (hW:∀ j,j<n->l[j]?=some ((fP bs).getD j 0)) (h201:q.h 201=bH (q.i 120).toNat l 58) (h202:q.h 202=wH (q.i 84).toNat (s8 (BB bs)) 171) (m0:ms 0=(32-q.i 200).toNat):Ig.holds (Ud bs xs Rs) ms q:=by
 show Nd.holds ⟨Nk,zE bs,JK bs,postOf iz xs [] Rs⟩ ms q Ig;unfold Ig;simp only[Nd.holds,X.pre,X.rel,X.n,Src.ok,Src.len,Src.bG,Zy,Zm,ZG,Zx,Zp,Nat.reduceAdd,Zd,Zh,bn,bj,aJ,aU,aR,bm,aZ,bh,bg,bd,aV,ba,bk,aX,aW,aK,aY,ai,aj,aB,aF,aD,ar,aG,aQ,aP,aq,aI,az,aH,av,TV.ev,SV.ev,CV.ev,Zf,Zr,bx.hl,cu,Cp.sv,Ck.cv,bf,Cp.len,Ck.len,aE,aN,aT,MN,MO];rw[e200];refine⟨fun hlt=>?_,fun hge=>?_⟩
 .have hn32:n<32:=by omega
  have w4:IntKind.i64.wrap (aC q ((E.var 200).quo (E.lit 4)))=((n/4:Nat):Int):=by
   show IntKind.i64.wrap ((q.i 200).tdiv 4)=_;rw[e200,aaH (by omega),wrap_i64 (by omega) (by omega)];omega
  have wr:aC q ((E.var 200).rem (E.lit 4))=((n%4:Nat):Int):=by
   show(q.i 200).tmod 4=_;rw[e200,aai (by omega)];omega
  have ws:IntKind.u32.wrap (IntKind.i64.wrap (24-IntKind.i64.wrap (8*((n%4:Nat):Int))))=((24-8*(n%4):Nat):Int):=by
   rw[wrap_i64 (n:=8*((n%4:Nat):Int)) (by omega) (by omega),wrap_i64 (by omega) (by omega)];have:=oI (x:=24-8*((n%4:Nat):Int)) ⟨by omega,by omega⟩;unfold dR at this;rw[this];omega
  have okv:okW (BB bs (n/4)):=mP _ _ _ (by omega);have cv:(q.h 202).cell (q.i 84).toNat (((n/4:Nat):Int)).toNat=some (.int .u32 (BB bs (n/4))):=by
   rw[h202,Y7];refine zR ?_;unfold s8;rw[Zs,ZI (by omega)];rfl
  have xv:IntKind.u8.wrap (aC q (E.shr IntKind.u32 (E.hI 202 (E.var 84) (E.wrap IntKind.i64 ((E.var 200).quo (E.lit 4))) 0) (E.wrap IntKind.u32 (E.wrap IntKind.i64 ((E.lit 24).sub (E.wrap IntKind.i64 ((E.lit 8).mul ((E.var 200).rem (E.lit 4)))))))))=(fP bs).getD n 0:=by
   show IntKind.u8.wrap ((cW ((q.h 202).cell (q.i 84).toNat ((IntKind.i64.wrap (aC q ((E.var 200).quo (E.lit 4)))).toNat))).fdiv (2 ^ (min (IntKind.u32.wrap (IntKind.i64.wrap (24-IntKind.i64.wrap (8*aC q ((E.var 200).rem (E.lit 4)))))).toNat IntKind.u32.bits)))=_;rw[w4,wr,ws,cv,MV bs hn32];exact MW okv (by omega)
  rw[w4,wr,ws,cv,xv,h201,Y7];refine⟨p84,by omega,by omega,rfl,by omega,p120,by omega,⟨p120,by omega,SB (by omega)⟩,fun q1 g1 h210=>?_⟩;rw[PY (by omega)]at h210;have ew:IntKind.i64.wrap (q1.i 200+1)=((n+1:Nat):Int):=by rw[g1.i 200,e200,wrap_i64 (by omega) (by omega)];rfl
  refine⟨⟨n+1,l.set n ((fP bs).getD n 0),ew,by omega,by rw[List.length_set];exact hl,fun j hj=>?_,?_,?_⟩,?_⟩
  .rw[abt];by_cases e:n=j
   .subst e;rw[ZA rfl,ZA (by omega)]
   .rw[Zo e];exact hW j (by omega)
  .show q1.h 210=bH (q1.i 120).toNat _ _;rw[h210,g1.i 120]
  .show q1.h 202=wH (q1.i 84).toNat _ _;rw[g1.h 202,g1.i 84,h202]
  .rw[m0,e200];show(32-IntKind.i64.wrap (q1.i 200+1)).toNat<_;rw[ew];omega
 .have en:n=32:=by omega
  subst en;have hS:=fE bs;have el:l=fP bs:=by
   apply ZN;intro j;by_cases hj:j<32
   .rw[hW j hj,Zt,Y8 (by omega)];rfl
   .rw[Zv (by omega),Zv (by omega)]
  have hc:∀ j z,(fP bs)[j]?=some z->(q.h 201).cell (q.i 120).toNat (Int.toNat 0+j)=some (.int .u8 z):=fun j z hz=>by
   rw[h201,el,Nw,show Int.toNat 0+j=j from ZM j,hz];rfl
  have ev:(bo 201 (E.var 120) (E.lit 0) 0 (List.replicate 32 (Kd.int .u8))).map (CV.ev q)=bK (fP bs):=ib 32 0 _ hS fun i z hz=>by
   show(q.h 201).cell (q.i 120).toNat (Int.toNat 0+(0+i))=_;rw[ZM i];exact hc i z hz
  obtain⟨ρ2,_,_,e2⟩:=dI (List.replicate 32 (Ck.int .u8)) 0 (bK (fP bs)) q (m9 32 _ hS);refine⟨p120,dA hc (by rw[hS];decide),fun _=>⟨[],[],rfl,rfl,⟨ρ2,?_,de _ _ _ (by decide),trivial⟩,fun u' bs' R' RG' h1 h2 h'=>?_⟩⟩
  .show Value.agg ((bo 201 (E.var 120) (E.lit 0) 0 (List.replicate 32 (Kd.int .u8))).map (CV.ev q)).toArray=Value.agg ((al 0 (List.replicate 32 (Ck.int .u8))).map (CV.ev ρ2)).toArray;rw[ev,e2]
  .subst hxs hRs;simp only[Ze,Zm]at h1 h2;subst h1;obtain⟨rfl,rfl⟩:=h2;obtain rfl:=h'.uniq hR;show Value.agg ((bo 201 (E.var 120) (E.lit 0) 0 (List.replicate 32 (Kd.int .u8))).map (CV.ev q)).toArray=_;rw[ev]
theorem JJ {R RG:Hl} {u:Value} (hxs:xs=[u]) (hRs:Rs=[R,RG]) (hR:fp R u bs) (hP:P=fO bs) (hPm:P.length%64=0) (hle:P.length<=1000000) (hPb:aS P) (p84:0<=q.i 84) (hK:uz (q.h 5) 3) (hc:∀ j z,P[j]?=some z->(q.h 82).cell (q.i 82).toNat j=some (.int .u8 z)) (x82:0<=q.i 82) (e51:q.i 51+8=P.length) (e100:q.i 100=((64*k:Nat):Int)) (hk:64*k<=P.length) (h8:GP q 110 (lZ dJ P k)) (m0:ms 0=(P.length-q.i 100).toNat):Ie.holds (Ud bs xs Rs) ms q:=by
 show Nd.holds ⟨Nk,zE bs,JK bs,postOf iz xs [] Rs⟩ ms q Ie;unfold Ie;simp only[Nd.holds,X.pre,X.rel,X.n,Src.ok,Src.len,Src.bG,Zy,Zm,ZG,Zx,Zp,Nat.reduceAdd,Zd,Zh,bn,bj,aJ,aU,aR,bm,aZ,bh,bg,bd,aV,ba,bk,aX,aW,aK,aY,ai,aj,aB,aF,aD,ar,aG,aQ,aP,aq,aI,az,aH,av,TV.ev,SV.ev,CV.ev,Zf,Zr,bx.hl,cu,Cp.sv,Ck.cv,bf,Cp.len,Ck.len,aE,aN,aT,MN,MO];rw[e51,e100];refine⟨fun hlt=>?_,fun hge=>?_⟩
 .have cX:64*k+64<=P.length:=by omega
  intro q23 g23 p120 q24 g24 h121;have B24:ah 120 q q24:=g23.tr g24;have p120':0<=q24.i 120:=by rw[g24.i 120];exact p120
  have hB:pE bs P ((P.drop (64*k)).take 64) k q24:=⟨hP,rfl,cX,hle,fun z hz=>hPb z (aaU (aaN hz)),by rw[B24.i 100];exact e100,h8.mono B24 (by omega),p120',by rw[B24.h 5];exact hK,by rw[B24.h 82,B24.i 82];exact hc,by rw[B24.i 82];exact x82,by rw[B24.i 51];exact e51⟩;refine⟨⟨0,List.replicate 64 0,rfl,by omega,⟨by simp,fun j hj=>by omega⟩,?_⟩,fun q25 g25 ⟨n,l,e130,hn,hW,h131⟩=>?_⟩
  .show q24.h 121=wH (q24.i 120).toNat _ _;rw[h121,g24.i 120];rfl
  have hB5:=hB.mono g25 (by omega);rw[hB5.e100,Y7,<-hP]at hW;refine JN hB5 hW h131 e130 hn ?_ rfl;show ms 0=_;rw[m0,hB5.e100,e100]
 .intro q23 g23 p120 q24 g24 h121 q25 g25 h122;have B25:ah 120 q q25:=g23.trans (g24.mono.tr g25);have ek:k=P.length/64:=by omega
  refine⟨⟨0,List.replicate 32 0,rfl,by omega,by simp,fun j hj=>by omega,?_,?_⟩,fun q26 g26 ⟨n,l,e200,hn,hl,hW,h201,h202⟩=>?_⟩
  .show q25.h 121=bH (q25.i 120).toNat _ _;rw[g25.h 121,h121,g25.i 120,g24.i 120];rfl
  .show q25.h 122=wH (q25.i 84).toNat _ _;have e:(al 110 (List.replicate 8 tv)).map (CV.ev q24)=GM (s8 (BB bs)):=by
    refine JW ?_;have:=h8.mono (g23.tr g24) (by omega);rw[ek,hP]at this;exact this
   rw[h122,g25.i 84];show Hl.one _ (.cells ((al 110 (List.replicate 8 tv)).map (CV.ev q24)).toArray _ (0,0))=_;rw[e];rfl
  .exact JL hxs hRs hR (by rw[g26.i 84,B25.i 84];exact p84) (by rw[g26.i 120,g25.i 120,g24.i 120];exact p120) e200 hn hl hW h201 h202 rfl
end
theorem xI:iz.OK Tryz.prog:=by
 refine Spec.bJ (Γ:=Nk) RD ?_;rintro xs Hs Rs hl1 hl2 ⟨u,bs,R,RG,rfl,rfl,hR,hb,hlen,hK⟩;have e0:Hs=[]:=Za.1 hl1;subst e0;obtain⟨x,y,c,rfl,hy,hRc⟩:=id hR;refine⟨PF,bw [x,y,bs.length,c] false [Hl.none,Hl.none,Hl.none,Hl.none,R,RG],
  zE bs,JK bs,?_,dB (by intro r hr;simp [PF]at hr;rcases hr with rfl | rfl<;>exact⟨_,_,_,rfl⟩) rfl,(fun _ h=>nomatch h),?_⟩
 .show [Value.slice (aA x y) ((bs.length:Int)).toNat ((c:Int)).toNat]=_;simp only[Y7]
 .show Nd.holds _ _ _ Gc;generalize hρ:bw [x,y,bs.length,c] false [Hl.none,Hl.none,Hl.none,Hl.none,R,RG]=ρ;have V:∀ q:Env,ah 6 ρ q->q.i 0=x/\q.i 1=y/\q.i 2=bs.length/\q.i 3=c/\q.h 4=R/\q.h 5=RG:=fun q hg=>by
   rw[hg.i 0,hg.i 1,hg.i 2,hg.i 3,hg.h 4,hg.h 5,<-hρ];exact⟨rfl,rfl,rfl,rfl,rfl,rfl⟩
  clear hρ;unfold Gc;simp only[Nd.holds,X.pre,X.rel,X.n,Src.ok,Src.len,Src.bG,Zy,Zm,ZG,Zx,Zp,Nat.reduceAdd,Zd,Zh,bn,bj,aJ,aU,aR,bm,aZ,bh,bg,bd,aV,ba,bk,aX,aW,aK,aY,ai,aj,aB,aF,aD,ar,aG,aQ,aP,aq,aI,az,aH,av,TV.ev,SV.ev,CV.ev,Zf,Zr,bx.hl,cu,Cp.sv,Ck.cv,bf,Cp.len,Ck.len,aE,aN,aT,MN,MO,QH];have t0:Int.toNat 0=0:=rfl;have Di:bE Hl.none 5 1 (.slice (aA (-1) 0) (Int.toNat 0) (Int.toNat 0)) (Int.toNat 0) []:=⟨rfl,Or.inl ⟨rfl,rfl⟩⟩;intro q1 g1 p6;have G1:ah 6 ρ q1:=g1;obtain⟨v0,v1,v2,v3,w4,w5⟩:=V q1 G1;have hseg:=qx (R:=R) (x:=x) (y:=y) (l:=(bs.length:Int)) rfl hy hRc;rw[v0,v1,v2,w4];refine⟨⟨⟨[],Di⟩,Zw _,by have:=hseg.1;simpa using this,by rw[t0,Y7];unfold maxLen;omega,by rw[t0,Y7];omega⟩,fun q2 g2 ⟨r1,r2,r3,_⟩ q2' g2' _=>?_⟩;have o2:=r3 [] Di;rw[hseg.2,t0,Y7,ZM,aax]at o2;have b2:Ob q2 7 7 8 (bs.length:Int) bs:=⟨by rw[Y7];exact o2,rfl,r1,r2⟩;have G2':ah 6 ρ q2':=G1.trans (g2.mono.tr g2');have b2:=b2.mono g2' (by omega) (by omega) (by omega);have v2':q2'.i 2=bs.length:=(V q2' G2').2.2.1;rw[<-v2']at b2;refine⟨b2.pre (by omega),fun q3 g3 ⟨r1,r2,r3,_⟩=>?_⟩;have b3:=b2.app ⟨r1,r2,r3⟩ rfl;have G3:ah 6 ρ q3:=G2'.tr g3;rw[v2',<-(V q3 G3).2.2.1]at b3;obtain⟨b31,b32,b33,b34⟩:=b3;refine⟨⟨0,by omega,?_,b33,b34,?_⟩,fun q4 g4 ⟨m,hm,e51,h50,h52,hO⟩=>?_⟩
  .show q3.i 2+1=_;rw[(V q3 G3).2.2.1];omega
  .rw[acb,aau];exact b31
  have G4:ah 6 ρ q4:=G3.tr g4;have hml:(bs++[128]++List.replicate m 0).length=bs.length+1+m:=by rw[Y9,Y9,Z8];rfl
  have b4:Ob q4 53 50 52 (q4.i 51) (bs++[128]++List.replicate m 0):=⟨hO,by rw[hml,e51];omega,h50,h52⟩;have tm:(q4.i 51).tmod 64=((bs.length+1+m)%64:Nat):=by rw[e51,aai (by omega)];omega
  refine⟨by omega,fun hne=>?_,fun heq=>?_⟩
  .have hne:(q4.i 51).tmod 64≠56:=hne;rw[tm]at hne;intro q5 g5 _;have b5:=b4.mono g5 (by omega) (by omega) (by omega);rw[show q4.i 51=q5.i 51 from (g5.i 51).symm]at b5;refine⟨b5.pre (by rw[hml];omega),fun q6 g6 ⟨r1,r2,r3,_⟩=>?_⟩;have b6:=b5.app ⟨r1,r2,r3⟩ rfl;obtain⟨b61,b62,b63,b64⟩:=b6;have e6:q6.i 51=bs.length+1+m:=by rw[g6.i 51,g5.i 51,e51]
   rw[show q5.i 51=q6.i 51 from (g6.i 51).symm]at b61;refine⟨⟨m+1,by omega,?_,b63,b64,?_⟩,?_⟩
   .show q6.i 51+1=_;rw[e6];omega
   .rw[ab7,<-ZK];exact b61
   .show((bs.length:Int)+100-(q6.i 51+1)).toNat<((bs.length:Int)+100-q4.i 51).toNat;rw[e6,e51];omega
  .have heq:(q4.i 51).tmod 64=56:=heq;rw[tm]at heq;have em:m=(119-bs.length%64)%64:=by omega
   obtain⟨M,hM⟩:∃ M,M=bs++[128]++List.replicate m 0:=⟨_,rfl⟩;rw[<-hM]at b4 hml;have v2':q4.i 2=bs.length:=(V q4 G4).2.2.1;refine⟨by rw[v2'];omega,?_⟩;have wlen:∀ {q:Env},ah 6 ρ q->IntKind.u64.wrap (IntKind.u64.wrap (q.i 2)*8)=((8*bs.length:Nat):Int):=fun {q} hg=>by
    rw[(V q hg).2.2.1,nD (x:=(bs.length:Int)) (by omega) (by omega),nD (by omega) (by omega)];omega
   intro q5 g5 _;have c0:=b4.mono g5 (by omega) (by omega) (by omega);rw[show q4.i 51=q5.i 51 from (g5.i 51).symm]at c0;have G5:ah 6 ρ q5:=G4.tr g5;refine⟨c0.pre (by omega),fun q6 g6 ⟨r1,r2,r3,_⟩=>?_⟩;have G6:ah 6 ρ q6:=G5.tr g6;rw[nH (q:=q5) (n:=8*bs.length) (k:=56) (s:=56) (wlen G5) (by omega) rfl (by omega)]at r3;have d0:=c0.app ⟨r1,r2,r3⟩ (L':=q5.i 51+1) rfl;intro q7 g7 _;have J7:q7.i 51=q5.i 51:=by rw[g7.i 51,g6.i 51]
   have c1:=(d0.mono g7 (by omega) (by omega) (by omega)).cast (L':=q7.i 51+1) (by rw[J7]);have G7:ah 6 ρ q7:=G6.tr g7;refine⟨c1.pre (by simp only[Y9,ZC];omega),fun q8 g8 ⟨r1,r2,r3,_⟩=>?_⟩;have G8:ah 6 ρ q8:=G7.tr g8;rw[nH (q:=q7) (n:=8*bs.length) (k:=48) (s:=48) (wlen G7) (by omega) rfl (by omega)]at r3;have d1:=c1.app ⟨r1,r2,r3⟩ (L':=q5.i 51+2) (by rw[J7];omega);intro q9 g9 _;have J9:q9.i 51=q5.i 51:=by rw[g9.i 51,g8.i 51,J7]
   have c2:=(d1.mono g9 (by omega) (by omega) (by omega)).cast (L':=q9.i 51+2) (by rw[J9]);have G9:ah 6 ρ q9:=G8.tr g9;refine⟨c2.pre (by simp only[Y9,ZC];omega),fun q10 g10 ⟨r1,r2,r3,_⟩=>?_⟩;have G10:ah 6 ρ q10:=G9.tr g10;rw[nH (q:=q9) (n:=8*bs.length) (k:=40) (s:=40) (wlen G9) (by omega) rfl (by omega)]at r3;have d2:=c2.app ⟨r1,r2,r3⟩ (L':=q5.i 51+3) (by rw[J9];omega);intro q11 g11 _;have J11:q11.i 51=q5.i 51:=by rw[g11.i 51,g10.i 51,J9]
   have c3:=(d2.mono g11 (by omega) (by omega) (by omega)).cast (L':=q11.i 51+3) (by rw[J11]);have G11:ah 6 ρ q11:=G10.tr g11;refine⟨c3.pre (by simp only[Y9,ZC];omega),fun q12 g12 ⟨r1,r2,r3,_⟩=>?_⟩;have G12:ah 6 ρ q12:=G11.tr g12;rw[nH (q:=q11) (n:=8*bs.length) (k:=32) (s:=32) (wlen G11) (by omega) rfl (by omega)]at r3;have d3:=c3.app ⟨r1,r2,r3⟩ (L':=q5.i 51+4) (by rw[J11];omega);intro q13 g13 _;have J13:q13.i 51=q5.i 51:=by rw[g13.i 51,g12.i 51,J11]
   have c4:=(d3.mono g13 (by omega) (by omega) (by omega)).cast (L':=q13.i 51+4) (by rw[J13]);have G13:ah 6 ρ q13:=G12.tr g13;refine⟨c4.pre (by simp only[Y9,ZC];omega),fun q14 g14 ⟨r1,r2,r3,_⟩=>?_⟩;have G14:ah 6 ρ q14:=G13.tr g14;rw[nH (q:=q13) (n:=8*bs.length) (k:=24) (s:=24) (wlen G13) (by omega) rfl (by omega)]at r3;have d4:=c4.app ⟨r1,r2,r3⟩ (L':=q5.i 51+5) (by rw[J13];omega);intro q15 g15 _;have J15:q15.i 51=q5.i 51:=by rw[g15.i 51,g14.i 51,J13]
   have c5:=(d4.mono g15 (by omega) (by omega) (by omega)).cast (L':=q15.i 51+5) (by rw[J15]);have G15:ah 6 ρ q15:=G14.tr g15;refine⟨c5.pre (by simp only[Y9,ZC];omega),fun q16 g16 ⟨r1,r2,r3,_⟩=>?_⟩;have G16:ah 6 ρ q16:=G15.tr g16;rw[nH (q:=q15) (n:=8*bs.length) (k:=16) (s:=16) (wlen G15) (by omega) rfl (by omega)]at r3;have d5:=c5.app ⟨r1,r2,r3⟩ (L':=q5.i 51+6) (by rw[J15];omega);intro q17 g17 _;have J17:q17.i 51=q5.i 51:=by rw[g17.i 51,g16.i 51,J15]
   have c6:=(d5.mono g17 (by omega) (by omega) (by omega)).cast (L':=q17.i 51+6) (by rw[J17]);have G17:ah 6 ρ q17:=G16.tr g17;refine⟨c6.pre (by simp only[Y9,ZC];omega),fun q18 g18 ⟨r1,r2,r3,_⟩=>?_⟩;have G18:ah 6 ρ q18:=G17.tr g18;rw[nH (q:=q17) (n:=8*bs.length) (k:=8) (s:=8) (wlen G17) (by omega) rfl (by omega)]at r3;have d6:=c6.app ⟨r1,r2,r3⟩ (L':=q5.i 51+7) (by rw[J17];omega);intro q19 g19 _;have J19:q19.i 51=q5.i 51:=by rw[g19.i 51,g18.i 51,J17]
   have c7:=(d6.mono g19 (by omega) (by omega) (by omega)).cast (L':=q19.i 51+7) (by rw[J19]);have G19:ah 6 ρ q19:=G18.tr g19;refine⟨c7.pre (by simp only[Y9,ZC];omega),fun q20 g20 ⟨r1,r2,r3,_⟩=>?_⟩;have G20:ah 6 ρ q20:=G19.tr g20;rw[nH (q:=q19) (n:=8*bs.length) (k:=0) (s:=0) (wlen G19) (by omega) rfl (by omega)]at r3;have d7:=c7.app ⟨r1,r2,r3⟩ (L':=q5.i 51+8) (by rw[J19];omega);have hp:M++[((8*bs.length/2 ^ 56%256:Nat):Int)]++[((8*bs.length/2 ^ 48%256:Nat):Int)]++[((8*bs.length/2 ^ 40%256:Nat):Int)]++[((8*bs.length/2 ^ 32%256:Nat):Int)]++[((8*bs.length/2 ^ 24%256:Nat):Int)]++[((8*bs.length/2 ^ 16%256:Nat):Int)]++[((8*bs.length/2 ^ 8%256:Nat):Int)]++[((8*bs.length/2 ^ 0%256:Nat):Int)]=fO bs:=by
    unfold fO;rw[<-em,<-hM];simp only[ZK];rfl
   have J20:q20.i 51=q5.i 51:=by rw[g20.i 51,J19]
   obtain⟨P,hP⟩:∃ P,P=fO bs:=⟨_,rfl⟩;have hPb:aS P:=by rw[hP];exact xi hb
   have hPl:=tQ bs;rw[hp]at d7;rw[<-hP]at d7 hPl;clear hp hM b4 hml tm;intro q21 g21 p84;have G21:ah 6 ρ q21:=G20.tr g21;have dP:Ob q21 82 82 83 (q21.i 51+8) P:=(d7.mono g21 (by omega) (by omega) (by omega)).cast (by rw[g21.i 51,J20]);obtain⟨dP1,eL,dx,dc⟩:=dP;have hx0:0<=q21.i 82/\∀ j z,P[j]?=some z->(q21.h 82).cell (q21.i 82).toNat j=some (.int .u8 z):=by
    obtain⟨x1,y1,c1,e,hy1,h⟩:=dP1.rd.w;simp only[Value.slice.injEq]at e;rcases h with h | ⟨h0,hc⟩
    .exfalso;have:=hPl.1;rw[h]at this;simp only[Zh]at this;omega
    .obtain⟨rfl,hyy⟩:=jG dx (Zw 0) (by omega) hy1 e.1;obtain rfl:=hyy h0;refine⟨h0,fun j z hz=>?_⟩;have:=hc j z hz;rw[show Int.toNat 0+j=j from ZM j]at this;exact this
   refine⟨⟨0,rfl,aam _,fun j hj=>?_⟩,fun q22 g22 ⟨k,e100,hk,h8⟩=>?_⟩
   .match j,hj with
    | 0,_=>rfl
    | 1,_=>rfl
    | 2,_=>rfl
    | 3,_=>rfl
    | 4,_=>rfl
    | 5,_=>rfl
    | 6,_=>rfl
    | 7,_=>rfl
   have G22:ah 6 ρ q22:=G21.tr g22;rw[<-hP]at hk h8;exact JJ rfl rfl hR hP hPl.2 (by omega) hPb (by rw[g22.i 84];exact p84) (by rw[(V q22 G22).2.2.2.2.2];exact hK) (by rw[g22.h 82,g22.i 82];exact hx0.2) (by rw[g22.i 82];exact hx0.1) (by rw[g22.i 51];exact eL) e100 hk h8 (by show((fO bs).length-q22.i 100).toNat=_;rw[hP])
end Go.Proofs.YtomdimlnggpgbaaGreatDoor
