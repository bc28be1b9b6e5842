/- RelayTwice. -/
import Derived.Test.YtomdimlnggpgbaaGreatDoorChecked
import Derived.LaidEql
import Derived.Stop.Asserts
import Derived.RowKitTokens
import Derived.Test.YtomdimlnggpgbaaGreatDoorTC
set_option linter.all false
namespace Go.Proofs.YtomdimlnggpgbaaGreatDoor.D
open Go Go.Sx
def iD (n c:Int):Int:=cU .or .u64 (IntKind.u64.wrap (n*2 ^ (min (Int.toNat 8) IntKind.u64.bits))) (IntKind.u64.wrap c)
def fk (bs:List Int):Int:=bs.foldl iD 0
theorem lC (bs:List Int) (k:Nat) (h:k<bs.length):fk (bs.take (k+1))=iD (fk (bs.take k)) bs[k]:=by
 unfold fk;rw[aaC,Y8 h,List.foldl_append];rfl
def KA:Sx.Spec where
 fn:=155
 own:=[]
 rd:=[0]
 res:=[.one (.int .u64)]
 pre:=fun xs Hs Rs=>∃ u bs R,xs=[u]/\Rs=[R]/\fp R u bs/\bs.length<=1000
 post:=fun xs Hs Rs v Hs' F=>∃ u bs R,xs=[u]/\Rs=[R]/\fp R u bs/\v=.int .u64 (fk bs)
def Kz:Nd:=(fun a b=>(.and (.e (.le b (.var 2))) (.and (.inv 0 [⟨10,0,.int .i64 b⟩,⟨11,0,.int .i64 b⟩] []) (.havoc 0 0 5 (.and (.imp (.lt a (.var 2)) (.and (.e (.le b (.var 0))) (.and (.e (.le b (.var 1))) (.and (.e (.le b a)) (.and (.e (.his 4 (.var 0) (.add (.var 1) a) 0 (.int .u8))) (.back 0 0 [⟨10,0,.int .i64 (.bits .or .u64 (.shl .u64 (.var 10) (.lit 8)) (.wrap .u64 (.hI 4 (.var 0) (.add (.var 1) a) 0)))⟩,⟨11,0,.int .i64 (.wrap .i64 (.add a (.lit 1)))⟩] [])))))) (.imp (.not (.lt a (.var 2))) (.post [.ro 4 [.var 0] false] (.sv (.one (.int .u64 (.var 10))))))))):Nd)) (.var 11) (.lit 0)
def KC:bU Tryz.prog [] KA.fn where
 Λ:=fun p=>if lp p then some ⟨0,[(3,TI .u64 (.var 10)),(8,TI .i64 (.var 11))],[],12⟩else none
 args:=[.sv (.one (.sl (.var 0) (.var 1) (.var 2) (.var 3)))]
 mem:=[.ro 4 [.var 0] false]
 nv:=5
 nd:=Kz
 ok:=by kernel_rfl
def Ky (bs:List Int) (_:Nat) (q:Env):Prop:=∃ k:Nat,k<=bs.length/\q.i 11=k/\q.i 10=fk (bs.take k)
theorem NB:KA.OK Tryz.prog:=by
 refine Spec.bJ (Γ:=[]) (fun _ h=>by cases h) ?_;rintro xs Hs Rs hl1 hl2 ⟨u,bs,R,rfl,rfl,⟨x,y,cp,rfl,hy,hR⟩,hlen⟩;have e0:Hs=[]:=Za.1 hl1;subst e0;refine⟨KC,bw [x,y,bs.length,cp] false [Hl.none,Hl.none,Hl.none,Hl.none,R],Ky bs,fun _ q=>(bs.length-q.i 11).toNat,?_,⟨?_,?_,?_,?_⟩,(fun _ h=>nomatch h),?_⟩
 .show [Value.slice (aA x y) ((bs.length:Int)).toNat ((cp:Int)).toNat]=_;rw[Y7,Y7]
 .intro r hr ho;simp [KC]at hr;subst hr;cases ho
 .intro r hr ho;simp [KC]at hr;subst hr;exact⟨R,by simp,Hl.le_refl _⟩
 .simp [KC]
 .intro r hr;simp [KC]at hr;subst hr;trivial
 .show Nd.holds _ _ _ Kz;generalize hρ:bw [x,y,bs.length,cp] false [Hl.none,Hl.none,Hl.none,Hl.none,R]=ρ;have v0:ρ.i 0=x:=by rw[<-hρ];rfl
  have v1:ρ.i 1=y:=by rw[<-hρ];rfl
  have v2:ρ.i 2=bs.length:=by rw[<-hρ];rfl
  have w4:ρ.h 4=R:=by rw[<-hρ];rfl
  unfold Kz;simp only[Nd.holds,X.pre,X.rel,X.n,Src.ok,Src.len,Src.bG,Zy,Zm,ZG,Zx,Zp,Nat.reduceAdd,Zd,Zh,bn,bj,aJ,aU,aR,bm,aZ,bh,bg,bd,aV,ba,bk,aX,aW,aK,aY,ai,aj,aB,aF,aD,ar,aG,aQ,aP,aq,aI,az,aH,av,TV.ev,SV.ev,CV.ev,Zf,Zr,bx.hl];rw[v2];refine⟨by omega,⟨0,by omega,rfl,rfl⟩,fun q g ⟨k,hk,h11,h10⟩=>?_⟩;rw[g.i 0,g.i 1,g.i 2,g.h 4,v0,v1,v2,w4,h11];refine⟨fun hlt=>?_,fun hge=>?_⟩
  .have hk':k<bs.length:=by omega
   have hxr:0<=x/\∀ j z,bs[j]?=some z->R.cell x.toNat (y.toNat+j)=some (.int .u8 z):=by
    rcases hR with h | h
    .subst h;simp at hk'
    .exact h
   have hc:R.cell x.toNat (y+k).toNat=some (.int .u8 bs[k]):=by
    rw[show(y+(k:Int)).toNat=y.toNat+k by omega];exact hxr.2 _ _ (Y8 hk')
   rw[hc];refine⟨hxr.1,hy,by omega,rfl,⟨k+1,by omega,?_,?_⟩,?_⟩
   .show IntKind.i64.wrap (q.i 11+1)=_;rw[h11];exact wrap_i64 (by omega) (by omega)
   .show iD (q.i 10) (cW ((q.h 4).cell (q.i 0).toNat (q.i 1+q.i 11).toNat))=_;rw[h10,g.i 0,g.i 1,g.h 4,v0,v1,w4,h11,hc,lC bs k hk'];rfl
   .show((bs.length:Int)-IntKind.i64.wrap (q.i 11+1)).toNat<_;rw[h11,wrap_i64 (by omega) (by omega)];omega
  .have e:k=bs.length:=by omega
   subst e;rw[aad]at h10;refine fun _=>⟨[],[],rfl,rfl,⟨⟨fun _=>q.i 10,fun _=>false,fun _=>.empty,fun _=>.tuple #[],fun _=>Hl.none⟩,rfl,trivial,trivial⟩,_,bs,R,rfl,rfl,⟨x,y,cp,rfl,hy,hR⟩,?_⟩;show Value.int .u64 (q.i 10)=_;rw[h10]
theorem wrap_u64 {x:Int} (h0:0<=x) (h1:x<18446744073709551616):IntKind.u64.wrap x=x:=by
 show Int.emod x 18446744073709551616=x;exact abV h0 h1
theorem fx {n c:Int} (n0:0<=n) (n1:n<72057594037927936) (c0:0<=c) (c1:c<256):iD n c=n*256+c:=by
 unfold iD;rw[show n*2 ^ (min (Int.toNat 8) IntKind.u64.bits)=n*256 from rfl,wrap_u64 (by omega) (by omega),wrap_u64 c0 (by omega)];obtain⟨m,rfl⟩:=aaq n0;obtain⟨d,rfl⟩:=aaq c0;show IntKind.u64.wrap (((BitVec.ofInt 64 ((m:Int)*256)) |||(BitVec.ofInt 64 (d:Int))).toNat:Int)=_;have e1:(BitVec.ofInt 64 ((m:Int)*256)).toNat=m*256:=by
  rw[show((m:Int)*256)=((m*256:Nat):Int)by omega,aaT,aa5];exact aaY (by omega)
 have e2:(BitVec.ofInt 64 (d:Int)).toNat=d:=by
  rw[aaT,aa5];exact aaY (by omega)
 rw[abN,e1,e2];have e3:m*256 |||d=m*256+d:=by
  have:=abF (i:=8) (b:=d) (by omega) m;rw[Nat.shiftLeft_eq]at this;exact this.symm
 rw[e3,wrap_u64 (by omega) (by omega)];omega
def uB (x:Int):List Int:=[x/72057594037927936%256,x/281474976710656%256,x/1099511627776%256,x/4294967296%256,x/16777216%256,x/65536%256,x/256%256,x%256]
theorem IG {a b c d e f g h:Int} (ha:0<=a/\a<256) (hb:0<=b/\b<256) (hc:0<=c/\c<256) (hd:0<=d/\d<256) (he:0<=e/\e<256) (hf:0<=f/\f<256) (hg:0<=g/\g<256) (hh:0<=h/\h<256) :
 fk [a,b,c,d,e,f,g,h]=((((((a*256+b)*256+c)*256+d)*256+e)*256+f)*256+g)*256+h:=by
 show iD (iD (iD (iD (iD (iD (iD (iD 0 a) b) c) d) e) f) g) h=_;have e1:iD 0 a=a:=by rw[fx (by omega) (by omega) ha.1 ha.2];omega
 rw[e1,fx (n:=a) (c:=b) ha.1 (by omega) hb.1 hb.2];rw[fx (n:=a*256+b) (c:=c) (by omega) (by omega) hc.1 hc.2];rw[fx (n:=(a*256+b)*256+c) (c:=d) (by omega) (by omega) hd.1 hd.2];rw[fx (n:=((a*256+b)*256+c)*256+d) (c:=e) (by omega) (by omega) he.1 he.2];rw[fx (n:=(((a*256+b)*256+c)*256+d)*256+e) (c:=f) (by omega) (by omega) hf.1 hf.2];rw[fx (n:=((((a*256+b)*256+c)*256+d)*256+e)*256+f) (c:=g) (by omega) (by omega) hg.1 hg.2];rw[fx (n:=(((((a*256+b)*256+c)*256+d)*256+e)*256+f)*256+g) (c:=h) (by omega) (by omega) hh.1 hh.2]
theorem uF {x:Int} (h0:0<=x) (h1:x<18446744073709551616):fk (uB x)=x:=by
 unfold uB;rw[IG (by omega) (by omega) (by omega) (by omega) (by omega) (by omega) (by omega) (by omega)];omega
def qI (n:Nat):List Ck:=List.replicate n (.int .u8)
def jz:List Ck:=[.int .u64,.int .u64]++qI 16
def cY (l:List Int):List Int:=uB (l.getD 0 0)++uB (l.getD 1 0)++(l.drop 2).take 16
def SY (xs:List Value):Value:=match xs with
 | [v]=>.agg (bK (cY (gr v))).toArray
 | _=>.bool false
def SZ (xs:List Value):Prop:=match xs with
 | [v]=>(0<=(gr v).getD 0 0/\(gr v).getD 0 0<18446744073709551616)/\0<=(gr v).getD 1 0/\(gr v).getD 1 0<18446744073709551616
 | _=>False
def Cz:Sx.Spec:=pQ 160 [.agg jz] [.agg (qI 32)] SZ SY
def EU:Nd:=(fun a b=>(.ext (.alloc 18) (.ext (.alloc 19) (.ext (.alloc 20) (.post [.dead,.dead,.dead] (.sv (.agg ([.int .u8 (.wrap .u8 (.shr .u64 a (.lit 56))),.int .u8 (.wrap .u8 (.shr .u64 a (.lit 48))),.int .u8 (.wrap .u8 (.shr .u64 a (.lit 40))),.int .u8 (.wrap .u8 (.shr .u64 a (.lit 32))),.int .u8 (.wrap .u8 (.shr .u64 a (.lit 24))),.int .u8 (.wrap .u8 (.shr .u64 a (.lit 16))),.int .u8 (.wrap .u8 (.shr .u64 a (.lit 8))),.int .u8 (.wrap .u8 (.shr .u64 a (.lit 0))),.int .u8 (.wrap .u8 (.shr .u64 b (.lit 56))),.int .u8 (.wrap .u8 (.shr .u64 b (.lit 48))),.int .u8 (.wrap .u8 (.shr .u64 b (.lit 40))),.int .u8 (.wrap .u8 (.shr .u64 b (.lit 32))),.int .u8 (.wrap .u8 (.shr .u64 b (.lit 24))),.int .u8 (.wrap .u8 (.shr .u64 b (.lit 16))),.int .u8 (.wrap .u8 (.shr .u64 b (.lit 8))),.int .u8 (.wrap .u8 (.shr .u64 b (.lit 0)))]++al 2 (List.replicate 16 (Ck.int .u8)))))))):Nd)) (.var 0) (.var 1)
def S0:bU Tryz.prog [] 160 where
 Λ:=aM
 args:=(bf 0 [.agg jz]).map .sv
 mem:=[]
 nv:=18
 nd:=EU
 ok:=by kernel_rfl
theorem wrap_u8 (x:Int):IntKind.u8.wrap x=x%256:=rfl
theorem OY {q:Env} {n:Nat} {x:Int} (h:q.i n=x) (h0:0<=x) (k:Nat):aC q (.wrap .u8 (.shr .u64 (.var n) (.lit k)))=x/2 ^ (min k 64)%256:=by
 rw[ar,wrap_u8,N1,aj,h];show x.fdiv (2 ^ (min ((k:Int)).toNat 64))%256=_;rw[Y7,aap _ (Int.le_of_lt (Int.pow_pos (by omega)))]
theorem Kw {q:Env} {n:Nat} {x:Int} (h:q.i n=x) (h0:0<=x):[Value.int .u8 (aC q (.wrap .u8 (.shr .u64 (.var n) (.lit 56)))),Value.int .u8 (aC q (.wrap .u8 (.shr .u64 (.var n) (.lit 48)))),Value.int .u8 (aC q (.wrap .u8 (.shr .u64 (.var n) (.lit 40)))),Value.int .u8 (aC q (.wrap .u8 (.shr .u64 (.var n) (.lit 32)))),Value.int .u8 (aC q (.wrap .u8 (.shr .u64 (.var n) (.lit 24)))),Value.int .u8 (aC q (.wrap .u8 (.shr .u64 (.var n) (.lit 16)))),Value.int .u8 (aC q (.wrap .u8 (.shr .u64 (.var n) (.lit 8)))),Value.int .u8 (aC q (.wrap .u8 (.shr .u64 (.var n) (.lit 0))))]=(uB x).map (Value.int .u8):=by
 have s:=fun k=>OY h h0 k;have s56:aC q (.wrap .u8 (.shr .u64 (.var n) (.lit 56)))=x/72057594037927936%256:=s 56;have s48:aC q (.wrap .u8 (.shr .u64 (.var n) (.lit 48)))=x/281474976710656%256:=s 48;have s40:aC q (.wrap .u8 (.shr .u64 (.var n) (.lit 40)))=x/1099511627776%256:=s 40;have s32:aC q (.wrap .u8 (.shr .u64 (.var n) (.lit 32)))=x/4294967296%256:=s 32;have s24:aC q (.wrap .u8 (.shr .u64 (.var n) (.lit 24)))=x/16777216%256:=s 24;have s16:aC q (.wrap .u8 (.shr .u64 (.var n) (.lit 16)))=x/65536%256:=s 16;have s8:aC q (.wrap .u8 (.shr .u64 (.var n) (.lit 8)))=x/256%256:=s 8;have s0:aC q (.wrap .u8 (.shr .u64 (.var n) (.lit 0)))=x/1%256:=s 0;rw[s56,s48,s40,s32,s24,s16,s8,s0,Int.ediv_one];rfl
set_option maxRecDepth 20000 in
theorem Lc:Cz.OK Tryz.prog:=by
 refine jE (fun t h=>by cases h) S0 rfl rfl rfl (fun q _ _=>?_) (fun q hq hN=>⟨fun _ _=>True,fun _ _=>0,?_⟩)
 .obtain⟨ρ,_,_,e⟩:=dI (qI 32) 0 (bK (cY (gr ((SV.agg (al 0 jz)).ev q)))) q (jM 32 _ rfl);exact⟨ρ,by show Value.agg _=Value.agg ((al 0 (qI 32)).map (CV.ev ρ)).toArray;rw[e];rfl,de _ _ _ (by decide),trivial⟩
 .have hN:(0<=q.i 0/\q.i 0<18446744073709551616)/\0<=q.i 1/\q.i 1<18446744073709551616:=hN;obtain⟨⟨a0,a1⟩,b0,b1⟩:=hN;show Nd.holds _ _ _ EU;unfold EU;simp only[Nd.holds,X.pre,X.rel,X.n];intro q1 g1 _ q2 g2 _ q3 g3 _;have G:ah 18 q q3:=(g1.tr g2).tr g3;have e0:q3.i 0=q.i 0:=G.i 0;have e1:q3.i 1=q.i 1:=G.i 1;show Value.agg (List.map (CV.ev q3) (_++_)).toArray=Value.agg (bK (uB (q.i 0)++uB (q.i 1)++(List.range 16).map fun j=>q.i (2+j))).toArray
  congr 2
  rw[ZP];unfold bK;rw[ZP]
  congr 1
  .rw[ZP,<-Kw e0 a0,<-Kw e1 b0];rfl
  .have:=CV.gn (G.mono (by decide)) _ (du (qI 16) 2);unfold qI at this;rw[this];rfl
def tF (l:List Int):List Value:=[.int .u64 (fk (l.take 8)),.int .u64 (fk ((l.drop 8).take 8))]++bK ((l.drop 16).take 16)
def NX (xs:List Value):Value:=match xs with
 | [v]=>.agg (tF (gr v)).toArray
 | _=>.bool false
def re:Sx.Spec:=pQ 123 [.agg (qI 32)] [.agg jz] (fun _=>True) NX
def wc:Nd:=(fun a=>(fun b c=>(.ext (.alloc 32) (.ext (.alloc 33) (.and (.pre b) (.ext b (.and (.pre c) (.ext c (.post [.dead,.dead] (.sv (.agg ([.int .u64 (.var 34),.int .u64 (.var 35)]++al 16 (List.replicate 16 (Ck.int .u8))))))))))):Nd)) (.call 0 34 [.sv (.one (.sl (.var 32) (.lit 0) (.lit 8) (.lit 32)))] [] a) (.call 0 35 [.sv (.one (.sl (.var 32) (.lit 8) (.lit 8) (.lit 24)))] [] a)) [.bD 32 (al 0 (List.replicate 32 (Ck.int .u8))) 199]
def Hr:List Sx.Spec:=[KA]
theorem Lk:∀ t∈Hr,t.OK Tryz.prog:=fun t ht=>by
 rw[Hr,Zn]at ht;subst ht;exact NB
def NY:bU Tryz.prog Hr 123 where
 Λ:=aM
 args:=(bf 0 [.agg (qI 32)]).map .sv
 mem:=[]
 nv:=32
 nd:=wc
 ok:=by kernel_rfl
theorem Ll:Hr[0]?=some KA:=rfl
theorem ri:KA.res=[.one (.int .u64)]:=rfl
theorem H6 {a:Int} (h0:0<=a) (vs:List Int) (o n c:Nat) (T:TypeId) (hn:o+n<=vs.length):fp (Hl.one a.toNat (.cells (bK vs).toArray T (0,0))) (.slice (aA a (o:Int)) n c) ((vs.drop o).take n):=by
 have hl:((vs.drop o).take n).length=n:=by rw[ZE,ZX];omega
 refine⟨a,o,c,by rw[hl],by omega,Or.inr ⟨h0,fun j z hz=>?_⟩⟩;rw[Hl.j7,aae,ft,Y7];rw[Z2]at hz;split at hz
 .rw[ZZ]at hz;rw[hz];rfl
 .cases hz
set_option maxRecDepth 20000 in
theorem EX:re.OK Tryz.prog:=by
 refine jE Lk NY rfl rfl rfl (fun q _ _=>?_) (fun q hq hN=>⟨fun _ _=>True,fun _ _=>0,?_⟩)
 .obtain⟨ρ,_,_,e⟩:=dI jz 0 (tF (gr ((SV.agg (al 0 (qI 32))).ev q))) q ⟨by simp [bY,jA],by simp [bY,jA],jM 16 _ rfl⟩;exact⟨ρ,by show Value.agg _=Value.agg ((al 0 jz).map (CV.ev ρ)).toArray;rw[e];rfl,de _ _ _ (by decide),trivial⟩
 .show Nd.holds _ _ _ wc;unfold wc;simp only[Nd.holds,X.pre,X.rel,X.n,Ll,ri,aE,cu,Cp.sv,Ck.cv,bf,Cp.len,Ck.len,aE,aN,aT,TV.ev,SV.ev,CV.ev,Zf,Zr,bx.hl,aj,ai];intro q1 g1 a1 q2 g2 a2;obtain⟨L,hL⟩:∃ L,L=(List.range 32).map fun j=>q.i j:=⟨_,rfl⟩;have hLl:L.length=32:=by rw[hL];rfl
  have G2:ah 32 q q2:=g1.tr g2;have cells:∀ q',ah 32 q q'->List.map (CV.ev q') (al 0 (List.replicate 32 (Ck.int .u8)))=bK L:=by
   intro q' g;have:=CV.gn (g.mono (by decide)) _ (du (qI 32) 0);unfold qI at this;rw[this,hL];rfl
  rw[cells q2 G2];have p2:0<=q2.i 32:=by rw[g2.i 32];exact a1
  refine⟨⟨_,L.take 8,_,rfl,rfl,H6 p2 L 0 8 32 _ (by omega),by rw[ZE];omega⟩,fun q3 g3 ⟨_,⟨u,bs,R,hx,hR,hrd,hv⟩,_⟩=>?_⟩;cases hx;cases hR;have e1:=hrd.uniq (H6 p2 L 0 8 32 _ (by omega));have G3:ah 32 q q3:=G2.tr g3;rw[cells q3 G3];have p3:0<=q3.i 32:=by rw[g3.i 32];exact p2
  refine⟨⟨_,(L.drop 8).take 8,_,rfl,rfl,H6 p3 L 8 8 24 _ (by omega),by rw[ZE];omega⟩,fun q4 g4 ⟨_,⟨u,bs2,R,hx,hR,hrd2,hv2⟩,_⟩=>?_⟩;cases hx;cases hR;have e2:=hrd2.uniq (H6 p3 L 8 8 24 _ (by omega));have G4:ah 32 q q4:=G3.tr g4;simp only[Value.int.injEq,Zy]at hv hv2;have hv:q4.i 34=fk (L.take 8):=by rw[g4.i 34,hv,e1];rfl
  have hv2:q4.i 35=fk ((L.drop 8).take 8):=by rw[hv2,e2]
  show Value.agg (List.map (CV.ev q4) (_++_)).toArray=Value.agg (tF ((List.range 32).map fun j=>q.i j)).toArray;rw[<-hL]
  congr 2
  rw[ZP];unfold tF
  congr 1
  .show [Value.int .u64 (q4.i 34),Value.int .u64 (q4.i 35)]=_;rw[hv,hv2]
  .have:=CV.gn (G4.mono (by decide)) _ (du (qI 16) 16);unfold qI at this;rw[this,hL];rfl
structure LM where
 frm:Int
 most:Int
 serial:Int
 size:Int
 note:List Int
 over:Bool
structure LM.ok (L:LM):Prop where
 frm:0<=L.frm/\L.frm<=16384
 most:0<=L.most/\L.most<=1048576
 note:L.note.length=16
def jX (dp sl:Value) (L:LM):List Value:=[dp,.int .i64 L.frm,.int .i64 L.most,.int .u64 L.serial,.int .u64 L.size]++(bK L.note++[sl,.bool L.over])
def jt (R:Hl) (a:Nat) (dp sl:Value) (L:LM):Prop:=L.ok/\R a=some (.cells (jX dp sl L).toArray 145 (0,0))
def fv (R:Hl) (p dp sl:Value) (L:LM):Prop:=∃ a:Nat,p=.pointer (some ⟨a,0,none⟩)/\jt R a dp sl L
theorem Fa {dp sl dp' sl':Value} {L L':LM} (h1:L.note.length=16) (h2:L'.note.length=16) (h:jX dp sl L=jX dp' sl' L'):dp=dp'/\sl=sl'/\L=L':=by
 unfold jX at h;obtain⟨ha,hb⟩:=aa9 h rfl;obtain⟨hc,hd⟩:=aa9 hb (by rw[cP,cP,h1,h2]);simp only[Ze,Value.int.injEq,Value.bool.injEq,Zy,Zm]at ha hd;obtain⟨e0,e1,e2,e3,e4⟩:=ha;have e5:=jy hc;obtain⟨x1,x2,x3,x4,x5,x6⟩:=L;obtain⟨y1,y2,y3,y4,y5,y6⟩:=L';simp only at e1 e2 e3 e4 e5 hd;obtain⟨e6,e7⟩:=hd;subst e1 e2 e3 e4 e5 e7;exact⟨e0,e6,rfl⟩
theorem fv.uniq {R:Hl} {p dp sl dp' sl':Value} {L L':LM} (h:fv R p dp sl L) (h':fv R p dp' sl' L'):dp=dp'/\sl=sl'/\L=L':=by
 obtain⟨a,rfl,ho,h⟩:=h;obtain⟨a',he,ho',h'⟩:=h';simp only[Value.pointer.injEq,Zj,Addr.mk.injEq,Zm]at he;subst he;rw[h]at h';simp only[Zj,Obj.cells.injEq,Zm]at h';exact Fa ho.note ho'.note (ZW Array.toList h')
theorem jt.cell {R:Hl} {a:Nat} {dp sl:Value} {L:LM} (h:jt R a dp sl L) (j:Nat):R.cell a j=(jX dp sl L)[j]?:=by
 unfold Hl.cell;rw[h.2];simp
theorem jt.mono {R R':Hl} {a:Nat} {dp sl:Value} {L:LM} (h:jt R a dp sl L) (hl:R.le R'):jt R' a dp sl L:=⟨h.1,hl _ _ h.2⟩
theorem fv.mono {R R':Hl} {p dp sl:Value} {L:LM} (h:fv R p dp sl L) (hl:R.le R'):fv R' p dp sl L:=by
 obtain⟨a,e,h⟩:=h;exact⟨a,e,h.mono hl⟩
def gj:List Int:=List.replicate 18 0
def wa (x:List Int):List Int:=[fk (x.take 8),fk ((x.drop 8).take 8)]++(x.drop 16).take 16
def mE (h:List Int):List Value:=[.int .u64 (h.getD 0 0),.int .u64 (h.getD 1 0)]++bK (h.drop 2)
def yL (b:List Int) (most place:Int):Prop:=b.take 32=b.drop 32/\(fk ((b.take 32).take 8)).tmod 2=place/\fk (((b.take 32).drop 8).take 8)<=most
instance (b:List Int) (most place:Int):Decidable (yL b most place):=by unfold yL;infer_instance
def bZ (D:DM) (frm most place:Int):List Int×Int :=
 if(gl D (frm+place)).2≠0 then(gj,(gl D (frm+place)).2)
 else if yL (gl D (frm+place)).1 most place then(wa ((gl D (frm+place)).1.take 32),0)else(gj,0)
def jY:Sx.Spec where
 fn:=77
 own:=[.link 0 0]
 rd:=[0]
 res:=[.agg jz,.one (.int .i64)]
 pre:=fun xs Hs Rs=>∃ p place H R dp sl L D,xs=[p,.int .u64 place]/\Hs=[H]/\Rs=[R]/\fv R p dp sl L/\aO H dp D/\(place=0\/place=1)
 post:=fun xs Hs Rs v Hs' F=>∃ p place H R dp sl L D H',xs=[p,.int .u64 place]/\Hs=[H]/\Rs=[R]/\fv R p dp sl L/\aO H dp D/\Hs'=[H']/\aO H' dp D /\
  v=.tuple #[.agg (mE (bZ D L.frm L.most place).1).toArray,.int .i64 (bZ D L.frm L.most place).2]
def zt:E:=.ite (.eq (.var 8) (.lit 32)) (.var 6) (.add (.var 6) (.lit 32))
def SQ (f g:Nat->E):Nat->Nat->E
 | 0,j=>.eq (f j) (g j)
 | n+1,j=>.and (.eq (f j) (g j)) (SQ f g n (j+1))
theorem Hh {q:Env} {f g:Nat->E} : ∀ (n j:Nat),bN q (SQ f g n j)=true↔∀ i,j<=i->i<=j+n->aC q (f i)=aC q (g i)
 | 0,j=>by
  unfold SQ;rw[bd]
  exact⟨fun h i h1 h2=>by obtain rfl:i=j:=by omega
                          exact h,fun h=>h j (by omega) (by omega)⟩
 | n+1,j=>by
  unfold SQ;rw[aR,bd,Hh n (j+1)];refine⟨fun⟨h1,h2⟩ i a b=>?_,fun h=>⟨h j (by omega) (by omega),fun i a b=>h i (by omega) (by omega)⟩⟩;rcases aaa j i with h | h
  .exact h2 i (by omega) (by omega)
  .obtain rfl:i=j:=by omega
   exact h1
def Bl:E:=SQ (fun j=>.hI 6 (.var 5) (.var 6) j) (fun j=>.hI 6 (.var 5) zt j) 31 0
def AP:Nd:=(fun c g m j k=>(fun h l f i=>(fun d b=>(fun a=>(.ext (.alloc 4) (.and (.e (.le c g)) (.and (.e (.his 2 g c 0 .ptr)) (.and (.e (.his 2 g (.lit 1) 0 (.int .i64))) (.and (.pre b) (.ext b (.and (.imp (.not (.eq (.var 9) c)) (.post [.hp 5 [3] l [],.ro 2 [.var 0] false,.dead,.hp 6 [] [.var 5] []] (.tup [.agg h,.one (.int .i64 (.var 9))]))) (.imp (.eq (.var 9) c) (.and (.e (.le (.lit (-1)) m)) (.and (.e (.le c (.var 6))) (.and (.e (.le j (.var 8))) (.and (.e (.le c m)) (.and (.e (.hby 6 m (.var 6) j)) (.and (.e (.le j (.var 7))) (.and (.e (.le (.var 7) (.var 8))) (.and (.e (.le j (.sub (.var 7) j))) (.and (.e (.le c zt)) (.and (.e (.hby 6 m zt j)) (.ext (.alloc 10) (.ext (.alloc 11) (.and (.pre f) (.ext f (.ext (.alloc 30) (.and (.imp (.not Bl) a) (.imp Bl (.and (.imp (.not k) a) (.imp k (.and (.e (.his 2 g (.lit 2) 0 (.int .i64))) (.and (.imp i a) (.imp (.not i) (.post d (.tup [.agg (al 12 ([Ck.int .u64,Ck.int .u64]++List.replicate 16 (Ck.int .u8))),.one (.int .i64 c)]))))))))))))))))))))))))))))))):Nd)) (.post d (.tup [.agg h,.one (.int .i64 c)]))) [.hp 5 [3] l [],.ro 2 [.var 0] false,.dead,.hp 6 [] [.var 5] [],.dead,.dead,.dead] (.call 0 5 [.sv (.one (.hptr (.hP 2 g c 0 0) (.hP 2 g c 0 1))),.sv (.one (.int .i64 (.wrap .i64 (.add (.hI 2 g (.lit 1) 0) (.wrap .i64 (.var 1))))))] [.hp 3 [] l []] [])) ([.int .u64 c,.int .u64 c]++List.replicate 16 (CV.int .u8 c)) [.hP 2 g c 0 0] (.call 1 12 [.sv (.agg (bo 6 m (.var 6) 0 (List.replicate 32 (Kd.int .u8))))] [] []) (.lt (.wrap .u64 (.hI 2 g (.lit 2) 0)) (.var 13))) (.lit 0) (.var 0) (.var 5) (.lit 32) (.eq (.rem (.var 12) (.lit 2)) (.var 1))
def sG:List Sx.Spec:=[tX,re]
theorem Ja:∀ t∈sG,t.OK Tryz.prog:=fun t ht=>by
 simp only[sG,Zl,Zq,ZO]at ht;rcases ht with rfl | rfl
 .exact DD
 .exact EX
def wE:bU Tryz.prog sG jY.fn where
 Λ:=aM
 args:=[TP (.var 0) (.lit 0),TI .u64 (.var 1)]
 mem:=[.hp 3 [] [.hP 2 (.var 0) (.lit 0) 0 0] [],.ro 2 [.var 0] false]
 nv:=4
 nd:=AP
 ok:=by kernel_rfl
theorem YP:sG[0]?=some tX:=rfl
theorem YQ:sG[1]?=some re:=rfl
theorem XZ:tX.res=[.one .sl,.one (.int .i64)]:=rfl
theorem YR:re.res=[.agg jz]:=rfl
theorem XV:(br 0 [Cp.one .sl,Cp.one (.int .i64)]≠[])=True:=by simp [br,Cp.roots,Ck.root]
theorem mW (q:Env):∀ (m n:Nat),ck n (List.replicate m (Ck.int .u8)) q
 | 0,_=>trivial
 | m+1,n=>⟨trivial,mW q m (n+1)⟩
theorem cH.cap {F:Hl} {e:TypeId} {x y l c:Int} {bs:List Int} (h:cH F e (.slice (aA x y) l.toNat c.toNat) bs) (hl:0<=l) (hc:0<=c):l<=c:=by
 obtain⟨_,h⟩:=h;rcases h with ⟨h,_⟩ | ⟨g,cap,cur,h,_,hle,_⟩
 .simp only[Value.slice.injEq]at h;omega
 .simp only[Value.slice.injEq]at h;omega
theorem DC {D:DM} (h:D.ok) {i:Int} (e:(gl D i).2=0):D.has i=true/\D.gone=false/\(gl D i).1=D.cw i/\(D.cw i).length=64:=by
 unfold gl at e ⊢;split at e
 .cases e
 .rename_i h1;have h1:D.has i=true:=by simpa using h1
  rw[Zo (by simp [h1])];split at e
  .cases e
  .rename_i h2;rw[Zo h2];exact⟨h1,by simpa using h2,rfl,fM h h1⟩
theorem EY {x:List Int} (h:x.length=32):re.pre [.agg (bK x).toArray] [] []:=by
 obtain⟨c,_,_,ec⟩:=dI (qI 32) 0 (bK x) ⟨fun _=>0,fun _=>false,fun _=>.empty,fun _=>.tuple #[],fun _=>Hl.none⟩ (jM 32 _ h);refine⟨⟨c,⟨mW c 32 0,trivial⟩,?_⟩,trivial⟩;show [Value.agg (bK x).toArray]=[Value.agg ((al 0 (qI 32)).map (CV.ev c)).toArray];rw[ec]
theorem I9:jY.OK Tryz.prog:=by
 refine Spec.bJ (Γ:=sG) Ja ?_;rintro xs Hs Rs hl1 hl2 ⟨p,place,H,R,dp,sl,L,D,rfl,rfl,rfl,⟨a,rfl,hL⟩,hD,hpl⟩;obtain⟨da,s,m,es,clock,rfl,hDi⟩:=hD;refine⟨wE,bw [a,place] false [Hl.none,Hl.none,R,H],fun _ _=>True,fun _ _=>0,?_,⟨?_,?_,?_,?_⟩,(fun _ h=>nomatch h),?_⟩
 .show [Value.pointer (aA (a:Int) 0),Value.int .u64 place]=_;rw[iI]
 .intro r hr ho;simp [wE]at hr;rcases hr with rfl | rfl
  .exact⟨H,by simp,Hl.le_refl _⟩
  .cases ho
 .intro r hr ho;simp [wE]at hr;rcases hr with rfl | rfl
  .cases ho
  .exact⟨R,by simp,Hl.le_refl _⟩
 .simp [wE,bx.own]
 .intro r hr;simp [wE]at hr;rcases hr with rfl | rfl<;>trivial
 .show Nd.holds _ _ _ AP;generalize hρ:bw [(a:Int),place] false [Hl.none,Hl.none,R,H]=ρ;have v0:ρ.i 0=a:=by rw[<-hρ];rfl
  have v1:ρ.i 1=place:=by rw[<-hρ];rfl
  have w2:ρ.h 2=R:=by rw[<-hρ];rfl
  have w3:ρ.h 3=H:=by rw[<-hρ];rfl
  unfold AP;simp only[Nd.holds,X.pre,X.rel,X.n,Src.ok,Src.len,Src.bG,Zy,Zm,ZG,Zx,Zp,Nat.reduceAdd,Zd,Zh,bn,bj,aJ,aU,aR,bm,aZ,bh,bg,bd,aV,ba,bk,aX,aW,aK,aY,ai,aj,aB,aF,aD,ar,aG,aQ,aP,aq,aI,az,aH,av,TV.ev,SV.ev,CV.ev,Zf,Zr,bx.hl,cu,Cp.sv,Ck.cv,bf,Cp.len,Ck.len,aE,aN,aT,YP,YQ,XZ,YR,XV];intro q0 g0 _;have hDA:aO H (.pointer (some ⟨da,0,none⟩)) D:=⟨da,s,m,es,clock,rfl,hDi⟩;have t0:Int.toNat 0=0:=rfl;have t1:Int.toNat 1=1:=rfl;have t2:Int.toNat 2=2:=rfl;have t32:Int.toNat 32=32:=rfl;have c0:R.cell a 0=some (.pointer (some ⟨da,0,none⟩)):=by rw[hL.cell];rfl
  have c1:R.cell a 1=some (.int .i64 L.frm):=by rw[hL.cell];rfl
  have c2:R.cell a 2=some (.int .i64 L.most):=by rw[hL.cell];rfl
  obtain⟨f0,f1⟩:=hL.1.frm;obtain⟨m0,m1⟩:=hL.1.most;have ep:Value.pointer (aA (bM (R.cell a 0) 0) (bM (R.cell a 0) 1))=.pointer (some ⟨da,0,none⟩):=by rw[c0];exact iI da
  have ei:IntKind.i64.wrap (cW (R.cell a 1)+IntKind.i64.wrap place)=L.frm+place:=by
   rw[c1];show IntKind.i64.wrap (L.frm+IntKind.i64.wrap place)=_;rw[wrap_i64 (n:=place) (by omega) (by omega)];exact wrap_i64 (by omega) (by omega)
  rw[g0.i 0,v0,g0.h 2,w2,g0.i 1,v1,g0.h 3,w3,Y7,t0,t1,ep,ei];refine⟨by omega,by rw[c0];rfl,by rw[c1];rfl,⟨_,L.frm+place,H,D,rfl,rfl,hDA⟩,fun q1 g1 ⟨F,⟨p',i',H',D',H2,u,hx,hH,hD',hH2,hD2,hv,hO⟩,hF,hn⟩=>?_⟩;cases hx;cases hH;have e:=hD'.uniq hDA;subst e;obtain⟨⟨n5,n6,n7,n8⟩,_⟩:=hn;have n6:0<=q1.i 6:=n6;have n7:0<=q1.i 7:=n7;have n8:0<=q1.i 8:=n8;simp only[Value.tuple.injEq,ZY,Ze,Value.int.injEq,Zy,Zm]at hv hH2;obtain⟨rfl,h9⟩:=hv;have hF:=hF trivial;subst hF;have out:∀ (q:Env) (t:Mem) (r:TV) (h:List Int) (e:Int) (ρ2:Env),ah 10 q1 q->bZ D' L.frm L.most place=(h,e)->r.ev q=(cu 0 jY.res).ev ρ2->r.ev q=.tuple #[.agg (mE h).toArray,.int .i64 e] ->
   postOf jY [.pointer (some ⟨a,0,none⟩),.int .u64 place] [H] [R] q (.hp 5 [3] [.hP 2 (.var 0) (.lit 0) 0 0] []::t) r:=by
   intro q t r h e ρ2 hq hr h1 h2 _;refine⟨[[0]],[],rfl,rfl,⟨ρ2,h1,de _ _ _ (by decide),trivial,trivial⟩,_,place,H,R,_,sl,L,D',_,rfl,rfl,rfl,⟨a,rfl,hL⟩,hDA,rfl,?_,?_⟩
   .show aO (dC [q.h 5]) _ _;rw[bz,hq.h 5,hH2];exact hD2
   .rw[h2,hr]
  have zero:∀ (q:Env) (t:Mem) (x:E) (e:Int),ah 10 q1 q->bZ D' L.frm L.most place=(gj,e)->aC q x=e ->
   postOf jY [.pointer (some ⟨a,0,none⟩),.int .u64 place] [H] [R] q (.hp 5 [3] [.hP 2 (.var 0) (.lit 0) 0 0] []::t) (.tup [.agg ([.int .u64 (.lit 0),.int .u64 (.lit 0)]++List.replicate 16 (CV.int .u8 (.lit 0))),.one (.int .i64 x)]):=by
   intro q t x e hq hr hx;refine out q t _ gj e ⟨fun k=>if k=18 then e else 0,fun _=>false,fun _=>.empty,fun _=>.tuple #[],fun _=>Hl.none⟩ hq hr ?_ ?_
   .subst hx;rfl
   .subst hx;rfl
  refine⟨fun h=>zero q1 _ _ _ (ah.refl _ _) ?_ (by rw[aj]),fun h=>?_⟩
  .unfold bZ;rw[<-h9,ZA h]
  .rw[h]at h9;obtain⟨hh,hg,hs,hl⟩:=DC hDi.ok h9.symm;obtain⟨b,hb⟩:∃ b,b=(gl D' (L.frm+place)).1:=⟨_,rfl⟩;rw[<-hb]at hO hs;have hbl:b.length=64:=by rw[hs];exact hl
   have hat:=hO.rd.at n5 n6 n7;obtain⟨e7,hc⟩:=hat;rw[hbl]at e7;have hc:0<=q1.i 5/\∀ j z,b[j]?=some z->(q1.h 6).cell (q1.i 5).toNat ((q1.i 6).toNat+j)=some (.int .u8 z):=by
    rcases hc with ⟨_,hc⟩ | hc
    .rw[hc]at hbl;cases hbl
    .exact hc
   obtain⟨p5,hc⟩:=hc;have hcap:=cH.cap hO n7 n8;have eY:∀ q,ah 10 q1 q->aC q zt=q1.i 6+32:=by
    intro q g;unfold zt;rw[aG,Zo (by rw[bd,aj,ai,g.i 8];omega),aB,aj,ai,g.i 6]
   rw[eY q1 (ah.refl _ _),t32];refine⟨n5,n6,by omega,p5,dA hc (by omega),by omega,by omega,by omega,by omega,?_,fun q2 g2 _ q3 g3 _=>?_⟩
   .refine dA (bs:=b.drop 32) (fun j z hz=>?_) (by rw[ZX];omega);rw[ZZ]at hz;have:=hc _ _ hz;rw[show(q1.i 6+32).toNat+j=(q1.i 6).toNat+(32+j)by omega];exact this
   have G3:ah 10 q1 q3:=g2.tr g3;have hxl:(b.take 32).length=32:=by rw[ZE];omega
   have hrom:(bo 6 (E.var 5) (E.var 6) 0 (List.replicate 32 (Kd.int IntKind.u8))).map (CV.ev q3)=bK (b.take 32):=by
    refine ib 32 0 _ hxl fun i z hz=>?_;rw[Z2]at hz;split at hz
    .rw[aj,aj,G3.h 6,G3.i 5,G3.i 6,ZM];exact hc _ _ hz
    .cases hz
   rw[hrom];refine⟨EY hxl,fun q4 g4 ⟨F4,hp4,_,_⟩ q5 g5 _=>?_⟩;have hp4:Value.agg (List.map (CV.ev q4) (al 12 jz)).toArray=Value.agg (tF (gr (.agg (bK (b.take 32)).toArray))).toArray:=hp4;rw[E6]at hp4;have hp4:List.map (CV.ev q4) (al 12 jz)=tF (b.take 32):=by simpa using hp4
   have i12:q4.i 12=fk ((b.take 32).take 8):=by
    have:=ZW (fun l=>l[0]?) hp4;simpa [jz,al,Ck.cv,CV.ev,tF,aj] using this
   have i13:q4.i 13=fk (((b.take 32).drop 8).take 8):=by
    have:=ZW (fun l=>l[1]?) hp4;simpa [jz,al,Ck.cv,CV.ev,tF,aj,Ck.len] using this
   have G5:ah 10 q1 q5:=(G3.tr g4).tr g5;have j12:q5.i 12=fk ((b.take 32).take 8):=by rw[g5.i 12,i12]
   have j13:q5.i 13=fk (((b.take 32).drop 8).take 8):=by rw[g5.i 13,i13]
   have heq:bN q5 Bl=true↔b.take 32=b.drop 32:=by
    unfold Bl;rw[Hh];have ex:∀ i:Nat,i<=31->aC q5 (.hI 6 (.var 5) (.var 6) i)=b.getD i 0/\aC q5 (.hI 6 (.var 5) zt i)=b.getD (32+i) 0:=by
     intro i hi;rw[aQ,aQ,aj,aj,eY q5 G5,G5.i 5,G5.i 6,G5.h 6];rw[hc i _ (Y8 (by omega)),show(q1.i 6+32).toNat+i=(q1.i 6).toNat+(32+i)by omega,hc (32+i) _ (Y8 (by omega))];simp only[Zt];rw[Y8 (by omega),Y8 (by omega)];exact⟨rfl,rfl⟩
    constructor
    .intro h;apply ZN;intro j;rcases aaa j 32 with hj | hj
     .have:=h j (by omega) (by omega);rw[(ex j (by omega)).1,(ex j (by omega)).2]at this;rw[Z9 hj,ZZ,Y8 (by omega),Y8 (by omega)];simp only[Zt]at this;rw[Y8 (by omega),Y8 (by omega)]at this;exact ZW some this
     .rw[Zv (by rw[ZE];omega),Zv (by rw[ZX];omega)]
    .intro h i _ hi;rw[(ex i (by omega)).1,(ex i (by omega)).2];have this:(b.take 32)[i]?=(b.drop 32)[i]?:=ZW (fun l=>l[i]?) h;rw[Z9 (by omega),ZZ]at this;rw[Zt,Zt,this]
   rw[heq,AJ,aj,ai,j12,j13,g5.i 1,g4.i 1,g3.i 1,g2.i 1,g1.i 1,g0.i 1,v1];rw[g5.i 0,g4.i 0,g3.i 0,g2.i 0,g1.i 0,g0.i 0,v0];rw[g5.h 2,g4.h 2,g3.h 2,g2.h 2,g1.h 2,g0.h 2,w2,Y7,t2,c2];have hw:IntKind.u64.wrap (cW (some (.int .i64 L.most)))=L.most:=by show IntKind.u64.wrap L.most=_;exact wrap_u64 m0 (by omega)
   rw[hw];have hl:bZ D' L.frm L.most place=if yL b L.most place then(wa (b.take 32),0)else(gj,0):=by
    unfold bZ;rw[Zo (by rw[<-h9];simp),<-hb]
   refine⟨fun h1=>zero q5 _ _ _ G5 (by rw[hl,Zo fun h=>h1 h.1]) (ai _ _),fun h1=>⟨fun h2=>zero q5 _ _ _ G5 (by rw[hl,Zo fun h=>h2 h.2.1]) (ai _ _),fun h2=>⟨rfl,fun(h3:L.most<fk (((b.take 32).drop 8).take 8))=>zero q5 _ _ _ G5 (by rw[hl,Zo fun h=>Int.not_le.2 h3 h.2.2]) (ai _ _),fun(h3:¬L.most<fk (((b.take 32).drop 8).take 8))=>?_⟩⟩⟩;refine out q5 _ _ (wa (b.take 32)) 0 ⟨fun k=>if k=18 then 0 else q5.i (12+k),fun _=>false,fun _=>.empty,fun _=>.tuple #[],fun _=>Hl.none⟩ G5 (by rw[hl,ZA ⟨h1,h2,Int.not_lt.1 h3⟩]) ?_ ?_
   .rfl
   .show Value.tuple #[Value.agg (List.map (CV.ev q5) (al 12 jz)).toArray,_]=_;have e5:List.map (CV.ev q5) (al 12 jz)=List.map (CV.ev q4) (al 12 jz):=CV.gn (g5.mono (by decide)) _ (du jz 12);rw[e5,hp4];rfl
theorem cH.rep {F:Hl} {e:TypeId} {v:Value} {bs:List Int} (h:cH F e v bs):∃ (x:Int) (c:Nat),-1<=x/\v=.slice (aA x 0) bs.length c/\bs.length<=c/\((x= -1/\bs=[])\/(0<=x/\∀ j z,bs[j]?=some z->F.cell x.toNat j=some (.int .u8 z))):=by
 obtain⟨hl,h⟩:=h;rcases h with ⟨rfl,hn⟩ | ⟨g,cap,cur,rfl,hg,hle,hm,hs,ht⟩
 .exact⟨-1,0,by omega,by rw[fa,hn],by omega,Or.inl ⟨rfl,Za.1 hn⟩⟩
 .refine⟨g,cap,by omega,by rw[au (by omega)];simp,hle,Or.inr ⟨by omega,fun j z hz=>?_⟩⟩;have hj:=(Zi.1 hz).1;simp only[Y7,Hl.cell,hg];have e1:(cur.toList.take (bs.length*1))[j]?=some (.int .u8 z):=by rw[ht,ft,hz];rfl
  rw[Z9 (by omega),aa7]at e1;exact e1
def mg (all:List Int) (i:Nat):List Int:=(List.range 64).map fun j=>(all[64*i+j]?).getD 0
def fG (frm:Int) (all:List Int):Nat->Nat->DM->Int×DM
 | 0,_,D=>dm D
 | f+1,i,D=>if 64*i<all.length then(if(dO D (frm+2+i) (mg all i)).1≠0 then dO D (frm+2+i) (mg all i)else fG frm all f (i+1) (dO D (frm+2+i) (mg all i)).2)else dm D
def gy (D:DM) (frm:Int) (all:List Int) (from_:Int):Int×DM:=fG frm all (all.length+1) (from_/64).toNat D
def yI:Sx.Spec where
 fn:=131
 own:=[.link 0 0]
 rd:=[0,1]
 res:=[.one (.int .i64)]
 pre:=fun xs Hs Rs=>∃ p u all fr H R1 R2 dp sl L D,xs=[p,u,.int .i64 fr]/\Hs=[H]/\Rs=[R1,R2]/\fv R1 p dp sl L/\cH R2 5 u all/\aO H dp D/\0<=fr/\fr<=1073741824/\all.length<=1073741824
 post:=fun xs Hs Rs v Hs' F=>∃ p u all fr H R1 R2 dp sl L D H',xs=[p,u,.int .i64 fr]/\Hs=[H]/\Rs=[R1,R2]/\fv R1 p dp sl L/\cH R2 5 u all/\aO H dp D/\Hs'=[H']/\aO H' dp (gy D L.frm all fr).2/\v=.int .i64 (gy D L.frm all fr).1
def oS:E:=.wrap .i64 (.mul (.var 20) (.lit 64))
def yH:E:=.ite (.lt (.sub (.var 3) oS) (.lit 64)) (.sub (.var 3) oS) (.lit 64)
def yJ:E:=.ite (.eq (.var 4) oS) (.var 2) (.add (.var 2) oS)
def EM:List CV:=(List.range 64).map fun(j:Nat)=>.int .u8 (.ite (.lt (.lit (j:Int)) yH) (.hI 7 (.var 1) yJ j) (.lit 0))
def EO:Nd:=(fun c f g i=>(fun j h b k=>(fun a d=>(.and (.inv 0 [⟨20,0,.int .i64 (.wrap .i64 (.quo (.var 5) g))⟩] [(21,some 6)]) (.havoc 0 0 9 (.and (.e (.le c i)) (.and (.imp (.lt b i) (.and (.pre k) (.ext k (.and (.e (.le (.lit (-1)) (.var 1))) (.and (.e (.le c (.var 2))) (.and (.e (.le c b)) (.and (.e (.le b i)) (.and (.e (.le i (.var 4))) (.and (.e (.and (.or (.and (.eq (.var 1) (.lit (-1))) (.eq (.sub i b) c)) (.and (.le c (.var 1)) (.and (.le c yJ) (.hby 7 (.var 1) yJ yH)))) (.and (.le c (.sub i b)) (.le yH g)))) (.and (.e (.le c f)) (.and (.e (.his 8 f c 0 .ptr)) (.and (.e (.his 8 f (.lit 1) 0 (.int .i64))) (.and (.pre a) (.ext a (.and (.imp (.not (.eq (.var 23) c)) (.post [.hp 23 [21] j [],.ro 7 [.var 1] false,.ro 8 [.var 0] false,.dead] (.sv (.one (.int .i64 (.var 23)))))) (.imp (.eq (.var 23) c) (.back 0 0 [⟨20,0,.int .i64 (.wrap .i64 (.add (.var 20) (.lit 1)))⟩] [(21,some 23)]))))))))))))))))) (.imp (.not (.lt b i)) (.and (.e (.le c f)) (.and (.e (.his 8 f c 0 .ptr)) (.and (.pre d) (.ext d (.post [.hp 22 [21] j [],.ro 7 [.var 1] false,.ro 8 [.var 0] false] (.sv (.one (.int .i64 (.var 22))))))))))))):Nd)) (.call 0 23 [.sv h,.sv (.one (.int .i64 (.wrap .i64 (.add (.wrap .i64 (.add (.hI 8 f (.lit 1) 0) (.lit 2))) (.var 20))))),.sv (.one (.sl (.var 22) c g g))] [.hp 21 [] j []] [.bD 22 EM 5]) (.call 1 22 [.sv h] [.hp 21 [] j []] [])) [.hP 8 f c 0 0] (.one (.hptr (.hP 8 f c 0 0) (.hP 8 f c 0 1))) (.wrap .i64 (.mul (.var 20) g)) (.mk 22 5 [.int .u8 c] 1 g)) (.lit 0) (.var 0) (.lit 64) (.var 3)
def yK:List Sx.Spec:=[th,sd]
theorem K7:∀ t∈yK,t.OK Tryz.prog:=fun t ht=>by
 simp only[yK,Zl,Zq,ZO]at ht;rcases ht with rfl | rfl
 .exact zV
 .exact DY
def Cu:bU Tryz.prog yK yI.fn where
 Λ:=fun p=>if lp p then some ⟨0,[(7,TI .i64 (.var 20))],[(0,.hp 21 [] [.hP 8 (.var 0) (.lit 0) 0 0] [])],22⟩else none
 args:=[TP (.var 0) (.lit 0),.sv (.one (.sl (.var 1) (.var 2) (.var 3) (.var 4))),TI .i64 (.var 5)]
 mem:=[.hp 6 [] [.hP 8 (.var 0) (.lit 0) 0 0] [],.ro 7 [.var 1] false,.ro 8 [.var 0] false]
 nv:=9
 nd:=EO
 ok:=by kernel_rfl
theorem U4:yK[0]?=some th:=rfl
theorem U5:yK[1]?=some sd:=rfl
theorem SX:th.res=[.one (.int .i64)]:=rfl
theorem XK:sd.res=[.one (.int .i64)]:=rfl
def NQ (D:DM) (frm:Int) (all:List Int) (dp:Value) (fr:Int) (_:Nat) (q:Env):Prop:=∃ (f i:Nat) (D1:DM),q.i 20=i/\aO (q.h 21) dp D1/\fG frm all f i D1=gy D frm all fr/\all.length+1<=f+i/\i<=all.length+16777217
theorem K6:yI.OK Tryz.prog:=by
 refine Spec.bJ (Γ:=yK) K7 ?_;rintro xs Hs Rs hl1 hl2 ⟨p,u,all,fr,H,R1,R2,dp,sl,L,D,rfl,rfl,rfl,⟨a,rfl,hL⟩,hO,hD,hf0,hf1,hall⟩;obtain⟨x,c,hx,rfl,hc,hcell⟩:=cH.rep hO;refine⟨Cu,bw [a,x,0,all.length,c,fr] false [Hl.none,Hl.none,Hl.none,Hl.none,Hl.none,Hl.none,H,R2,R1],NQ D L.frm all dp fr,fun _ q=>(all.length-q.i 20).toNat,?_,⟨?_,?_,?_,?_⟩,(fun _ h=>nomatch h),?_⟩
 .show [Value.pointer (aA (a:Int) 0),Value.slice (aA x 0) ((all.length:Int)).toNat ((c:Int)).toNat,Value.int .i64 fr]=_;rw[iI,Y7,Y7]
 .intro r hr ho;simp [Cu]at hr;rcases hr with rfl | rfl | rfl
  .exact⟨H,by simp,Hl.le_refl _⟩
  .cases ho
  .cases ho
 .intro r hr ho;simp [Cu]at hr;rcases hr with rfl | rfl | rfl
  .cases ho
  .exact⟨R2,by simp,Hl.le_refl _⟩
  .exact⟨R1,by simp,Hl.le_refl _⟩
 .simp [Cu,bx.own]
 .intro r hr;simp [Cu]at hr;rcases hr with rfl | rfl | rfl<;>trivial
 .show Nd.holds _ _ _ EO;generalize hρ:bw [(a:Int),x,0,all.length,c,fr] false [Hl.none,Hl.none,Hl.none,Hl.none,Hl.none,Hl.none,H,R2,R1]=ρ;have v0:ρ.i 0=a:=by rw[<-hρ];rfl
  have v1:ρ.i 1=x:=by rw[<-hρ];rfl
  have v2:ρ.i 2=0:=by rw[<-hρ];rfl
  have v3:ρ.i 3=all.length:=by rw[<-hρ];rfl
  have v4:ρ.i 4=c:=by rw[<-hρ];rfl
  have v5:ρ.i 5=fr:=by rw[<-hρ];rfl
  have w6:ρ.h 6=H:=by rw[<-hρ];rfl
  have w7:ρ.h 7=R2:=by rw[<-hρ];rfl
  have w8:ρ.h 8=R1:=by rw[<-hρ];rfl
  unfold EO;simp only[Nd.holds,X.pre,X.rel,X.n,Src.ok,Src.len,Src.bG,Zy,Zm,ZG,Zx,Zp,Nat.reduceAdd,Zd,Zh,bn,bj,aJ,aU,aR,bm,aZ,bh,bg,bd,aV,ba,bk,aX,aW,aK,aY,ai,aj,aB,aF,aD,ar,aG,aQ,aP,aq,aI,az,aH,av,TV.ev,SV.ev,CV.ev,Zf,Zr,bx.hl,cu,Cp.sv,Ck.cv,bf,Cp.len,Ck.len,aE,aN,aT,U4,U5,SX,XK];have t0:Int.toNat 0=0:=rfl;have t1:Int.toNat 1=1:=rfl;have t64:Int.toNat 64=64:=rfl;obtain⟨da,s,m,es,clock,hdp,hDi⟩:=id hD;have c0:R1.cell a 0=some dp:=by rw[hL.cell];rfl
  have c1:R1.cell a 1=some (.int .i64 L.frm):=by rw[hL.cell];rfl
  obtain⟨f0,f1⟩:=hL.1.frm;have ep:Value.pointer (aA (bM (R1.cell a 0) 0) (bM (R1.cell a 0) 1))=dp:=by rw[c0,hdp];exact iI da
  have wk:bY (R1.cell a 0) Kd.ptr=true:=by rw[c0,hdp];rfl
  refine⟨⟨all.length+1,(fr/64).toNat,D,?_,?_,rfl,by omega,by omega⟩,fun q g ⟨f,i,D1,e20,hD1,hgo,hfi,hi⟩=>?_⟩
  .show IntKind.i64.wrap ((ρ.i 5).tdiv 64)=_;rw[v5,aaH hf0,wrap_i64 (by omega) (by omega)];omega
  .show aO (ρ.h 6) dp D;rw[w6];exact hD
  .have u0:q.i 0=a:=by rw[g.i 0,v0]
   have u3:q.i 3=all.length:=by rw[g.i 3,v3]
   have y8:q.h 8=R1:=by rw[g.h 8,w8]
   have ew:IntKind.i64.wrap ((i:Int)*64)=64*i:=by rw[wrap_i64 (by omega) (by omega)];omega
   have out:∀ (q':Env) (n:Nat) (vs:List Nat) (t:Mem) (r:Int×DM),ah 9 ρ q'->gy D L.frm all fr=r->aO (q'.h n) dp r.2->q'.i n=r.1 ->
    postOf yI [.pointer (some ⟨a,0,none⟩),.slice (aA x 0) all.length c,.int .i64 fr] [H] [R1,R2] q' (.hp n vs [.hP 8 (.var 0) (.lit 0) 0 0] []::t) (.sv (.one (.int .i64 (.var n)))):=by
    intro q' n vs t r hq hr h1 h2 _;refine⟨[[0]],[],rfl,rfl,⟨⟨fun _=>q'.i n,fun _=>false,fun _=>.empty,fun _=>.tuple #[],fun _=>Hl.none⟩,rfl,trivial,trivial⟩,_,_,all,fr,H,R1,R2,dp,sl,L,D,_,rfl,rfl,rfl,⟨a,rfl,hL⟩,hO,hD,rfl,?_,?_⟩
    .show aO (dC [q'.h n]) _ _;rw[bz,hr];exact h1
    .show Value.int .i64 (q'.i n)=_;rw[h2,hr]
   rw[u0,u3,e20,ew,y8,Y7,t0,ep];refine⟨by omega,fun hlt=>⟨⟨by omega,by omega,by omega⟩,fun q1 g1 ⟨p22,_⟩=>?_⟩,fun hge=>⟨by omega,wk,⟨_,_,D1,rfl,rfl,hD1⟩,fun q1 g1 ⟨F,⟨p',H',D',H2,hx,hH,hD',hH2,hD2,hv⟩,_,_⟩=>?_⟩⟩
   .have G1:ah 9 ρ q1:=g.tr g1;have x1:q1.i 1=x:=by rw[G1.i 1,v1]
    have x2:q1.i 2=0:=by rw[G1.i 2,v2]
    have x3:q1.i 3=all.length:=by rw[G1.i 3,v3]
    have x4:q1.i 4=c:=by rw[G1.i 4,v4]
    have x20:q1.i 20=i:=by rw[g1.i 20,e20]
    have z7:q1.h 7=R2:=by rw[G1.h 7,w7]
    have hcell:0<=x/\∀ (j:Nat) (z:Int),all[j]?=some z->R2.cell x.toNat j=some (.int .u8 z):=by
     rcases hcell with ⟨_,h⟩ | h
     .rw[h]at hlt;simp only[Zh]at hlt;omega
     .exact h
    obtain⟨hx0,hcell⟩:=hcell;have eW:aC q1 oS=64*i:=by
     unfold oS;rw[ar,aD,aj,ai,x20,ew]
    have eM:aC q1 yH=min (all.length-64*i:Int) 64:=by
     unfold yH;rw[aG,ss,aF,aj,ai,eW,x3];simp only[Zc];split<;>omega
    have eY:aC q1 yJ=64*i:=by
     unfold yJ;rw[aG,Ae,aB,aj,aj,eW,x2,x4];simp only[Zc];split<;>omega
    have eC:(EM.map (CV.ev q1))=bK (mg all i):=by
     unfold EM mg bK;rw[aaF,aaF];refine aac fun j hj=>?_;have hj:=ZQ.1 hj;show Value.int .u8 (aC q1 (.ite (.lt (.lit (j:Int)) yH) (.hI 7 (.var 1) yJ j) (.lit 0)))=Value.int .u8 _;rw[aG,ss,aQ,ai,ai,eM,eY,aj,x1,z7];simp only[Zc];rcases aaa (64*i+j) all.length with h | h
     .rw[ZA (by omega),Y8 h,show(64*(i:Int)).toNat+j=64*i+j by omega,hcell _ _ (Y8 h)];rfl
     .rw[Zo (by omega),Zv h];rfl
    have ei:IntKind.i64.wrap (IntKind.i64.wrap (cW (R1.cell a 1)+2)+i)=L.frm+2+i:=by
     rw[c1];show IntKind.i64.wrap (IntKind.i64.wrap (L.frm+2)+i)=_;rw[wrap_i64 (n:=L.frm+2) (by omega) (by omega),wrap_i64 (by omega) (by omega)]
    have wk1:bY (R1.cell a 1) (Kd.int .i64)=true:=by rw[c1];rfl
    have hrd:mo (Hl.one (q1.i 22).toNat (.cells (bK (mg all i)).toArray 5 (0,0))) (.slice (aA (q1.i 22) 0) 64 64) (mg all i):=by
     refine⟨q1.i 22,0,64,by simp [mg],by omega,Or.inr ⟨p22,fun j z hz=>?_⟩⟩;rw[Hl.j7,aae,ft,abv,ZM,hz];rfl
    rw[x1,x2,x3,x4,x20,ew,eY,eM,eC,z7,G1.i 0,v0,G1.h 8,w8,Y7,t1,t64,ep,ei];refine⟨hx,by omega,by omega,by omega,by omega,⟨Or.inr ⟨hx0,by omega,?_⟩,by omega,by omega⟩,by omega,wk,wk1,⟨dp,L.frm+2+i,_,mg all i,q1.h 21,_,D1,rfl,rfl,rfl,?_,hrd⟩,fun q2 g2 ⟨F,⟨p',i',u',bs',H',R',D',H2,hx,hH,hR,hD',hrd',hH2,hD2,hv⟩,_,_⟩=>?_⟩
    .refine dA (bs:=all.drop (64*i)) (fun j z hz=>?_) (by rw[ZX];omega);rw[ZZ]at hz;rw[show(64*(i:Int)).toNat+j=64*i+j by omega];exact hcell _ _ hz
    .rw[g1.h 21];exact hD1
    .cases hx;cases hH;cases hR;rw[g1.h 21]at hD';have e:=hD'.uniq hD1;subst e;have e:=hrd'.uniq hrd;subst e;simp only[Value.int.injEq,Zy,Ze,Zm]at hv hH2;rw[<-hH2]at hD2;have G2:ah 9 ρ q2:=G1.tr g2;have step:fG L.frm all f i D'=if(dO D' (L.frm+2+i) (mg all i)).1≠0 then dO D' (L.frm+2+i) (mg all i)else fG L.frm all (f-1) (i+1) (dO D' (L.frm+2+i) (mg all i)).2:=by
      obtain⟨k,rfl⟩:∃ k,f=k+1:=⟨f-1,by omega⟩;show(if 64*i<all.length then _ else _)=_;rw[ZA (by omega)];rfl
     refine⟨fun h=>out q2 23 _ _ (dO D' (L.frm+2+i) (mg all i)) G2 ?_ hD2 hv,fun h=>?_⟩
     .rw[<-hgo,step,ZA (by rw[<-hv];exact h)]
     .have e20':(assign q2 [⟨20,0,.int .i64 (.wrap .i64 (.add (.var 20) (.lit 1)))⟩] [(21,some 23)]).i 20=i+1:=by
       show IntKind.i64.wrap (q2.i 20+1)=_;rw[g2.i 20,x20,wrap_i64 (by omega) (by omega)]
      refine⟨⟨f-1,i+1,(dO D' (L.frm+2+i) (mg all i)).2,by rw[e20'];omega,hD2,?_,by omega,by omega⟩,by rw[e20'];omega⟩;rw[<-hgo,step,Zo (by rw[<-hv,h];simp)]
   .cases hx;cases hH;have e:=hD'.uniq hD1;subst e;simp only[Value.int.injEq,Zy,Ze,Zm]at hv hH2;rw[<-hH2]at hD2;refine out q1 22 _ _ (dm D') (g.tr g1) ?_ hD2 hv;rw[<-hgo];cases f with
    | zero=>rfl
    | succ k =>
     show(if 64*i<all.length then _ else _)=_;rw[Zo (by omega)]
def iG (D:DM) (frm:Int) (h:List Int):Int×DM :=
 if(dO D (frm+(h.getD 0 0).tmod 2) (cY h++cY h)).1≠0 then dO D (frm+(h.getD 0 0).tmod 2) (cY h++cY h)else dm (dO D (frm+(h.getD 0 0).tmod 2) (cY h++cY h)).2
def qf (h:List Int):Prop:=h.length=18/\(0<=h.getD 0 0/\h.getD 0 0<18446744073709551616)/\0<=h.getD 1 0/\h.getD 1 0<18446744073709551616
def mj:Sx.Spec where
 fn:=132
 own:=[.link 0 0]
 rd:=[0]
 res:=[.one (.int .i64)]
 pre:=fun xs Hs Rs=>∃ p h H R dp sl L D,xs=[p,.agg (mE h).toArray]/\Hs=[H]/\Rs=[R]/\fv R p dp sl L/\aO H dp D/\qf h
 post:=fun xs Hs Rs v Hs' F=>∃ p h H R dp sl L D H',xs=[p,.agg (mE h).toArray]/\Hs=[H]/\Rs=[R]/\fv R p dp sl L/\aO H dp D/\qf h/\Hs'=[H']/\aO H' dp (iG D L.frm h).2/\v=.int .i64 (iG D L.frm h).1
theorem Ff {h:List Int} (hl:h.length=18):∃ a b t,h=a::b::t/\t.length=16:=by
 match h,hl with
 | a::b::t,hl=>exact⟨a,b,t,rfl,by simpa using hl⟩
theorem mG {h:List Int} (hl:h.length=18):gr (.agg (mE h).toArray)=h:=by
 obtain⟨a,b,t,rfl,ht⟩:=Ff hl;show([Value.int .u64 a,Value.int .u64 b]++t.map (Value.int .u8)).map (fun c=>cW (some c))=_;rw[ZP,aaF];show [a,b]++t.map id=_;rw[List.map_id];rfl
theorem NW {h k:List Int} (h1:h.length=18) (h2:k.length=18) (e:Value.agg (mE h).toArray=Value.agg (mE k).toArray):h=k:=by
 rw[<-mG h1,<-mG h2,e]
theorem JF {h:List Int} (hl:h.length=18):bS (mE h) (jz.map jA):=by
 obtain⟨a,b,t,rfl,ht⟩:=Ff hl;exact⟨by simp [bY,jA],by simp [bY,jA],jM 16 _ ht⟩
theorem Fu (q:Env) (n:Nat):ck n jz q:=⟨trivial,trivial,mW q 16 (n+2)⟩
theorem Ld {h:List Int} (hh:qf h):Cz.pre [.agg (mE h).toArray] [] []:=by
 obtain⟨c,_,_,ec⟩:=dI jz 0 (mE h) ⟨fun _=>0,fun _=>false,fun _=>.empty,fun _=>.tuple #[],fun _=>Hl.none⟩ (JF hh.1);refine⟨⟨c,⟨Fu c 0,trivial⟩,?_⟩,?_⟩
 .show [Value.agg (mE h).toArray]=[Value.agg ((al 0 jz).map (CV.ev c)).toArray];rw[ec]
 .show(0<=(gr (.agg (mE h).toArray)).getD 0 0/\(gr (.agg (mE h).toArray)).getD 0 0<_)/\0<=(gr (.agg (mE h).toArray)).getD 1 0/\(gr (.agg (mE h).toArray)).getD 1 0<_;rw[mG hh.1];exact hh.2
theorem AF {h:List Int} (hl:h.length=18):(cY h).length=32:=by
 unfold cY uB;simp [hl]
def qG:Nd:=(fun h g c f=>(fun b d j=>(fun a i=>(.ext (.alloc 21) (.and (.pre f) (.ext f (.ext (.alloc 54) (.and (.e (.le g h)) (.and (.e (.his 20 h g 0 .ptr)) (.and (.e (.his 20 h (.lit 1) 0 (.int .i64))) (.and (.pre j) (.ext j (.and (.pre a) (.ext a (.and (.imp (.not (.eq (.var 57) g)) (.post [.hp 57 [19] d [],.ro 20 [.var 0] false,.dead,.dead,.hp 55 [] [.var 55] []] (.sv (.one (.int .i64 (.var 57)))))) (.imp (.eq (.var 57) g) (.and (.pre i) (.ext i (.post [.hp 59 [57,19] d [],.ro 20 [.var 0] false,.dead,.dead,.hp 55 [] [.var 55] []] (.sv (.one (.int .i64 (.var 59))))))))))))))))))):Nd)) (.call 0 57 [.sv b,.sv (.one (.int .i64 (.wrap .i64 (.add (.hI 20 h (.lit 1) 0) (.wrap .i64 (.rem (.var 1) (.lit 2))))))),.sv (.one (.sl (.var 55) g (.lit 64) (.var 56)))] [.hp 19 [] d []] [.hp 55 [] [.var 55] []]) (.call 1 59 [.sv b] [.hp 57 [19] d []] [])) (.one (.hptr (.hP 20 h g 0 0) (.hP 20 h g 0 1))) [.hP 20 h g 0 0] (.grow 55 5 1 1 c 32 32 (.cvs c 32))) (.var 0) (.lit 0) (al 22 (List.replicate 32 (Ck.int .u8))) (.call 2 22 [.sv (.agg (al 1 ([Ck.int .u64,Ck.int .u64]++List.replicate 16 (Ck.int .u8))))] [] [])
def ye:List Sx.Spec:=[th,sd,Cz]
theorem M7:∀ t∈ye,t.OK Tryz.prog:=fun t ht=>by
 simp only[ye,Zl,Zq,ZO]at ht;rcases ht with rfl | rfl | rfl
 .exact zV
 .exact DY
 .exact Lc
def yc:bU Tryz.prog ye mj.fn where
 Λ:=aM
 args:=[TP (.var 0) (.lit 0),.sv (.agg (al 1 jz))]
 mem:=[.hp 19 [] [.hP 20 (.var 0) (.lit 0) 0 0] [],.ro 20 [.var 0] false]
 nv:=21
 nd:=qG
 ok:=by kernel_rfl
theorem Y0:ye[0]?=some th:=rfl
theorem Y1:ye[1]?=some sd:=rfl
theorem Y4:ye[2]?=some Cz:=rfl
theorem X4:Cz.res=[.agg (qI 32)]:=rfl
theorem ya:mj.OK Tryz.prog:=by
 refine Spec.bJ (Γ:=ye) M7 ?_;rintro xs Hs Rs hl1 hl2 ⟨p,h,H,R,dp,sl,L,D,rfl,rfl,rfl,⟨a,rfl,hL⟩,hD,hh⟩;obtain⟨b0,b1,t,hht,htl⟩:=Ff hh.1;have Ll:h.getD 0 0=b0:=by rw[hht];rfl
 refine⟨yc,⟨fun k=>if k=0 then(a:Int)else h.getD (k-1) 0,fun _=>false,fun _=>.empty,fun _=>.tuple #[],fun k=>if k=19 then H else R⟩,fun _ _=>True,fun _ _=>0,?_,⟨?_,?_,?_,?_⟩,(fun _ h=>nomatch h),?_⟩
 .generalize hq:(⟨fun k=>if k=0 then(a:Int)else h.getD (k-1) 0,fun _=>false,fun _=>.empty,fun _=>.tuple #[],fun k=>if k=19 then H else R⟩:Env)=q;show [Value.pointer (aA (q.i 0) 0),Value.agg ((al 1 jz).map (CV.ev q)).toArray]=_;have e0:q.i 0=a:=by rw[<-hq];rfl
  have e1:(al 1 jz).map (CV.ev q)=mE h:=by
   rw[<-hq,hht]
   match t,htl with
   | [a1,a2,a3,a4,a5,a6,a7,a8,a9,a10,a11,a12,a13,a14,a15,a16],_=>rfl
  rw[e0,iI,e1]
 .intro r hr ho;simp [yc]at hr;rcases hr with rfl | rfl
  .exact⟨H,by simp,Hl.le_refl _⟩
  .cases ho
 .intro r hr ho;simp [yc]at hr;rcases hr with rfl | rfl
  .cases ho
  .exact⟨R,by simp,Hl.le_refl _⟩
 .simp [yc,bx.own]
 .intro r hr;simp [yc]at hr;rcases hr with rfl | rfl<;>trivial
 .show Nd.holds _ _ _ qG;generalize hρ:(⟨fun k=>if k=0 then(a:Int)else h.getD (k-1) 0,fun _=>false,fun _=>.empty,fun _=>.tuple #[],fun k=>if k=19 then H else R⟩:Env)=ρ;have v0:ρ.i 0=a:=by rw[<-hρ];rfl
  have v1:ρ.i 1=b0:=by rw[<-hρ,<-Ll];rfl
  have w19:ρ.h 19=H:=by rw[<-hρ];rfl
  have w20:ρ.h 20=R:=by rw[<-hρ];rfl
  have eH:(al 1 jz).map (CV.ev ρ)=mE h:=by
   rw[<-hρ,hht]
   match t,htl with
   | [a1,a2,a3,a4,a5,a6,a7,a8,a9,a10,a11,a12,a13,a14,a15,a16],_=>rfl
  unfold qG;simp only[Nd.holds,X.pre,X.rel,X.n,Src.ok,Src.len,Src.bG,Zy,Zm,ZG,Zx,Zp,Nat.reduceAdd,Zd,Zh,bn,bj,aJ,aU,aR,bm,aZ,bh,bg,bd,aV,ba,bk,aX,aW,aK,aY,ai,aj,aB,aF,aD,ar,aG,aQ,aP,aq,aI,az,aH,av,TV.ev,SV.ev,CV.ev,Zf,Zr,bx.hl,cu,Cp.sv,Ck.cv,bf,Cp.len,Ck.len,aE,aN,aT,Y0,Y1,Y4,SX,XK,X4];intro q1 g1 _;have t0:Int.toNat 0=0:=rfl;have t1:Int.toNat 1=1:=rfl;have t64:Int.toNat 64=64:=rfl;obtain⟨da,s,m,es,clock,hdp,hDi⟩:=id hD;have c0:R.cell a 0=some dp:=by rw[hL.cell];rfl
  have c1:R.cell a 1=some (.int .i64 L.frm):=by rw[hL.cell];rfl
  obtain⟨f0,f1⟩:=hL.1.frm;have ep:Value.pointer (aA (bM (R.cell a 0) 0) (bM (R.cell a 0) 1))=dp:=by rw[c0,hdp];exact iI da
  have wk:bY (R.cell a 0) Kd.ptr=true:=by rw[c0,hdp];rfl
  have wk1:bY (R.cell a 1) (Kd.int .i64)=true:=by rw[c1];rfl
  have⟨hb0,hb1⟩:0<=b0/\b0<18446744073709551616:=by rw[<-Ll];exact hh.2.1
  have r0:=Int.tmod_nonneg 2 hb0;have r1:=Int.tmod_lt_of_pos b0 (by decide:(0:Int)<2);have ei:IntKind.i64.wrap (cW (R.cell a 1)+IntKind.i64.wrap (b0.tmod 2))=L.frm+(h.getD 0 0).tmod 2:=by
   rw[c1,Ll];show IntKind.i64.wrap (L.frm+IntKind.i64.wrap (b0.tmod 2))=_;rw[wrap_i64 (n:=b0.tmod 2) (by omega) (by omega)];exact wrap_i64 (by omega) (by omega)
  have e1:(al 1 ([Ck.int IntKind.u64,Ck.int IntKind.u64]++List.replicate 16 (Ck.int IntKind.u8))).map (CV.ev q1)=mE h:=by
   rw[<-eH];exact CV.gn (g1.mono (by decide)) _ (du jz 1)
  rw[e1];refine⟨Ld hh,fun q2 g2 ⟨F2,hp2,_,_⟩ q3 g3 _=>?_⟩;have hp2:Value.agg (List.map (CV.ev q2) (al 22 (qI 32))).toArray=Value.agg (bK (cY (gr (.agg (mE h).toArray)))).toArray:=hp2;rw[mG hh.1]at hp2;have hp2:List.map (CV.ev q2) (al 22 (qI 32))=bK (cY h):=by simpa using hp2
  have e3:List.map (CV.ev q3) (al 22 (List.replicate 32 (Ck.int IntKind.u8)))=bK (cY h):=by
   rw[<-hp2];exact CV.gn (g3.mono (by decide)) _ (du (qI 32) 22)
  have G3:ah 21 ρ q3:=(g1.tr g2).tr g3;rw[e3,G3.i 0,v0,G3.h 20,w20,Y7,t0,t1];refine⟨by omega,wk,wk1,⟨by omega,by decide,by decide⟩,fun q4 g4 ⟨p55,p56,hO,_⟩=>?_⟩;have G4:ah 21 ρ q4:=G3.tr g4;have hbl:(cY h++cY h).length=64:=by rw[Y9,AF hh.1]
  have hO:cH (q4.h 55) 5 (.slice (aA (q4.i 55) 0) (Int.toNat 64) (q4.i 56).toNat) (cY h++cY h):=by
   unfold cH;rw[hbl,fY];exact hO
  rw[AJ,aj,ai,G4.i 0,v0,G4.i 1,v1,G4.h 20,w20,G4.h 19,w19,Y7,ep,ei];refine⟨⟨dp,_,_,cY h++cY h,H,_,D,rfl,rfl,rfl,hD,hO.rd⟩,fun q5 g5 ⟨F,⟨p',i',u',bs',H',R',D',H2,hx,hH,hR,hD',hrd',hH2,hD2,hv⟩,_,_⟩=>?_⟩;cases hx;cases hH;cases hR;have e:=hD'.uniq hD;subst e;have e:=hrd'.uniq hO.rd;subst e;simp only[Value.int.injEq,Zy,Ze,Zm]at hv hH2;rw[<-hH2]at hD2;have G5:ah 21 ρ q5:=G4.tr g5;have out:∀ (q':Env) (n:Nat) (vs:List Nat) (t:Mem) (r:Int×DM),iG D' L.frm h=r->aO (q'.h n) dp r.2->q'.i n=r.1 ->
   postOf mj [.pointer (some ⟨a,0,none⟩),.agg (mE h).toArray] [H] [R] q' (.hp n vs [.hP 20 (.var 0) (.lit 0) 0 0] []::t) (.sv (.one (.int .i64 (.var n)))):=by
   intro q' n vs t r hr h1 h2 _;refine⟨[[0]],[],rfl,rfl,⟨⟨fun _=>q'.i n,fun _=>false,fun _=>.empty,fun _=>.tuple #[],fun _=>Hl.none⟩,rfl,trivial,trivial⟩,_,h,H,R,dp,sl,L,D',_,rfl,rfl,rfl,⟨a,rfl,hL⟩,hD,hh,rfl,?_,?_⟩
   .show aO (dC [q'.h n]) _ _;rw[bz,hr];exact h1
   .show Value.int .i64 (q'.i n)=_;rw[h2,hr]
  rw[G5.i 0,v0,G5.h 20,w20,Y7,ep];refine⟨fun hne=>out q5 57 _ _ _ ?_ hD2 hv,fun heq=>⟨⟨dp,_,_,rfl,rfl,hD2⟩,fun q6 g6 ⟨F,⟨p',H',D2,H3,hx,hH,hD3,hH3,hD4,hv3⟩,_,_⟩=>?_⟩⟩
  .unfold iG;rw[ZA (by rw[<-hv];exact hne)]
  .cases hx;cases hH;have e:=hD3.uniq hD2;subst e;simp only[Value.int.injEq,Zy,Ze,Zm]at hv3 hH3;rw[<-hH3]at hD4;refine out q6 59 _ _ _ ?_ hD4 hv3;unfold iG;rw[Zo (by rw[<-hv,heq];simp)]
def iJ (dp sl:Value) (L:LM):Obj:=.cells (jX dp sl L).toArray 145 (0,0)
def dW (H:Hl) (p dp:Value) (L:LM) (bs:List Int):Prop:=∃ (a:Nat) (sl:Value) (HB:Hl),p=.pointer (some ⟨a,0,none⟩)/\L.ok/\cH HB 5 sl bs/\(Hl.one a (iJ dp sl L)).cG HB/\H=dC [Hl.one a (iJ dp sl L),HB]
theorem dW.parts {H:Hl} {p dp:Value} {L:LM} {bs:List Int} (h:dW H p dp L bs):∃ sl,fv H p dp sl L/\mo H sl bs:=by
 obtain⟨a,sl,HB,rfl,hok,hO,hd,rfl⟩:=h;refine⟨sl,⟨a,rfl,hok,?_⟩,?_⟩
 .exact Hl.cC _ _ _ _ (Hl.bF _ _)
 .obtain⟨x,y,c,hv,hy,h⟩:=hO.rd;refine⟨x,y,c,hv,hy,h.imp id fun⟨h0,h⟩=>⟨h0,fun j z hz=>?_⟩⟩;have hle:HB.le (dC [Hl.one a (iJ dp sl L),HB]):=by
   show HB.le ((Hl.one a (iJ dp sl L)).un (dC [HB]));rw[bz];exact Hl.cD hd
  have:=h j z hz;unfold Hl.cell at this ⊢;split at this
  .rename_i o c' T fr ho;rw[hle _ _ ho];exact this
  .cases this
theorem dW.uniq {H:Hl} {p dp dp':Value} {L L':LM} {bs bs':List Int} (h:dW H p dp L bs) (h':dW H p dp' L' bs'):dp=dp'/\L=L'/\bs=bs':=by
 obtain⟨sl,h1,h2⟩:=h.parts;obtain⟨sl',h1',h2'⟩:=h'.parts;obtain⟨e1,rfl,e3⟩:=h1.uniq h1';exact⟨e1,e3,h2.uniq h2'⟩
theorem cH.pre {F:Hl} {e:TypeId} {x l c:Int} {bs:List Int} (h:cH F e (.slice (aA x 0) l.toNat c.toNat) bs) (hx:-1<=x) {n:Int} (h0:0<=n) (hn:n.toNat<=bs.length):cH F e (.slice (aA x 0) n.toNat c.toNat) (bs.take n.toNat):=by
 obtain⟨hl,h⟩:=h;have e1:(bs.take n.toNat).length=n.toNat:=by rw[ZE];omega
 refine⟨by rw[cP];omega,?_⟩;rw[e1];rcases h with ⟨h,hb⟩ | ⟨g,cap,cur,h,hg,hle,hm,hs,ht⟩
 .simp only[Value.slice.injEq]at h;refine Or.inl ⟨?_,by omega⟩;rw[h.1,h.2.2,show n.toNat=0 by omega]
 .simp only[Value.slice.injEq]at h;refine Or.inr ⟨g,cap,cur,by rw[h.1,h.2.2],hg,by omega,hm,hs,?_⟩;have:=ZW (List.take n.toNat) ht;rw[List.take_take]at this;rw[Zx];rw[show min n.toNat (bs.length*1)=n.toNat by omega]at this;rw[this];unfold bK;rw[abn]
def px:List Ck:=[.ptr,.int .i64,.int .i64,.int .u64,.int .u64]++List.replicate 16 (.int .u8)
def gW (da:Nat) (L:LM):List Int:=[(da:Int),0,L.frm,L.most,L.serial,L.size]++L.note
theorem QW {l:List Int} (h:l.length=16):∃ a1 a2 a3 a4 a5 a6 a7 a8 a9 a10 a11 a12 a13 a14 a15 a16,l=[a1,a2,a3,a4,a5,a6,a7,a8,a9,a10,a11,a12,a13,a14,a15,a16]:=by
 match l,h with
 | [a1,a2,a3,a4,a5,a6,a7,a8,a9,a10,a11,a12,a13,a14,a15,a16],_=>exact⟨a1,a2,a3,a4,a5,a6,a7,a8,a9,a10,a11,a12,a13,a14,a15,a16,rfl⟩
theorem uL {q:Env} {n da:Nat} {L:LM} (hL:L.ok) (h:∀ k,k<22->q.i (n+k)=(gW da L).getD k 0):(al n px).map (CV.ev q)=[Value.pointer (some ⟨da,0,none⟩),.int .i64 L.frm,.int .i64 L.most,.int .u64 L.serial,.int .u64 L.size]++bK L.note:=by
 obtain⟨a1,a2,a3,a4,a5,a6,a7,a8,a9,a10,a11,a12,a13,a14,a15,a16,hn⟩:=QW hL.note;have hq:=ah.refl 0 q;have key:∀ (q':Env),(∀ k,k<22->q'.i k=(gW da L).getD k 0)->(al 0 px).map (CV.ev q')=[Value.pointer (some ⟨da,0,none⟩),.int .i64 L.frm,.int .i64 L.most,.int .u64 L.serial,.int .u64 L.size]++bK L.note:=by
  intro q' h;have ag:ah 22 (⟨fun k=>(gW da L).getD k 0,fun _=>false,fun _=>.empty,fun _=>.tuple #[],fun _=>Hl.none⟩:Env) ⟨q'.i,fun _=>false,fun _=>.empty,fun _=>.tuple #[],fun _=>Hl.none⟩:=⟨fun k hk=>h k hk,fun _ _=>rfl,fun _ _=>rfl,fun _ _=>rfl,fun _ _=>rfl⟩;have e1:(al 0 px).map (CV.ev q')=(al 0 px).map (CV.ev ⟨q'.i,fun _=>false,fun _=>.empty,fun _=>.tuple #[],fun _=>Hl.none⟩):=rfl;rw[e1,CV.gn ag _ (du px 0)];unfold gW;rw[hn];have ed:Value.pointer (aA (da:Int) 0)=.pointer (some ⟨da,0,none⟩):=iI da;show [Value.pointer (aA (da:Int) 0)]++_=_;rw[ed];rfl
 have:=key ⟨fun k=>q.i (n+k),q.b,q.s,q.v,q.h⟩ h;rw[<-this];rfl
theorem jh {P:Program} {s:Sx.Spec} {Γ:List Sx.Spec} (hΓ:∀ t∈Γ,t.OK P)
 (h:∀ xs Hs Rs,Hs.length=s.own.length->Rs.length=s.rd.length->(∀ (p q:Nat) H K,p≠q->Hs[p]?=some H->Hs[q]?=some K->H.cG K)->s.pre xs Hs Rs->∃ (W:bU P Γ s.fn) (ρ:Env) (inv:Nat->Env->Prop) (mu:Nat->Env->Nat),
  W.args.map (TV.ev ρ)=xs/\Entry ρ W.mem Hs Rs/\Path ρ W.path/\W.nd.holds ⟨Γ,inv,mu,postOf s xs Hs Rs⟩ (fun _=>0) ρ):s.OK P:=by
 intro w xs Hs Rs hl1 hl2 hs1 hs2 hd1 hd2 hpre;obtain⟨W,ρ,inv,mu,hx,hE,hp,hn⟩:=h xs Hs Rs hl1 hl2 hd1 hpre;have hm:=hE.Tm hs1 hs2 hd2;have:=vW (C:=⟨Γ,inv,mu,postOf s xs Hs Rs⟩) hΓ (KZ (C:=⟨Γ,inv,mu,postOf s xs Hs Rs⟩) hΓ) W.ok hm hp hn;rw[hx]at this;refine this.mono ?_;rintro e w' ⟨ρ',mem',r,rfl,hg,hm',hp'⟩;obtain⟨gs,f,hl,hok,⟨ρ2,h2,h3⟩,hpost⟩:=hp' hm'.cG;refine⟨ρ2,gs.map (uu ρ' mem'),uu ρ' mem' f,by rw[h2],h3,uU.of hm' hl hok,?_⟩;rw[<-h2];exact hpost
def uG (D:DM) (frm:Int) (n:Int):List Int:=(D.now.drop (64*(frm+2).toNat)).take n.toNat
def wD:Sx.Spec where
 fn:=78
 own:=[.arg 0,.link 0 0]
 rd:=[]
 res:=[.one (.int .i64)]
 pre:=fun xs Hs Rs=>∃ p a HL HD dp L D,xs=[p]/\Hs=[HL,HD]/\p=.pointer (some ⟨a,0,none⟩)/\jt HL a dp (.slice none 0 0) L/\aO HD dp D/\D.gone=false/\0<=L.size/\64*(L.frm+2)+L.size<=64*D.n
 post:=fun xs Hs Rs v Hs' F=>∃ p a HL HD dp L D HL' HD',xs=[p]/\Hs=[HL,HD]/\p=.pointer (some ⟨a,0,none⟩)/\jt HL a dp (.slice none 0 0) L/\aO HD dp D/\Hs'=[HL',HD']/\aO HD' dp D/\dW HL' p dp L (uG D L.frm L.size)/\v=.int .i64 0
def Fh:Nd:=(fun a d f c g=>(fun b=>(.and (.inv 0 [⟨40,0,.int .i64 d⟩,⟨41,0,.int .i64 (.lit (-1))⟩,⟨43,0,.int .i64 d⟩,⟨44,0,.int .i64 d⟩] [(45,some 24),(46,none)]) (.havoc 0 0 25 (.and (.e (.le d f)) (.and (.imp (.lt f (.wrap .i64 g)) (.and (.pre a) (.ext a (.and (.imp (.not (.eq (.var 51) d)) (.post [.bD 0 (al 1 c++[.sl (.var 41) d f (.var 44),.bool (.bvar 23)]) 145,.hp 47 [45] [.var 1] [],.hp 46 [] [.var 41] [],.hp 48 [] [.var 47] []] (.sv (.one (.int .i64 (.var 51)))))) (.imp (.eq (.var 51) d) (.and (.pre b) (.ext b (.back 0 0 [⟨40,0,.int .i64 (.wrap .i64 (.add (.var 40) (.lit 1)))⟩,⟨41,0,.int .i64 (.var 52)⟩,⟨43,0,.int .i64 (.add f (.var 49))⟩,⟨44,0,.int .i64 (.var 53)⟩] [(45,some 47),(46,some 52)])))))))) (.imp (.not (.lt f (.wrap .i64 g))) (.and (.e (.le (.lit (-1)) (.var 41))) (.and (.e (.le d g)) (.and (.e (.le g (.var 44))) (.post [.bD 0 (al 1 c++[.sl (.var 41) d g (.var 44),.bool (.bvar 23)]) 145,.hp 45 [] [.var 1] [],.hp 46 [] [.var 41] []] (.sv (.one (.int .i64 d))))))))))):Nd)) (.app 52 5 1 1 (.sl (.var 41) d f (.var 44)) f (.hp 46 [] [.var 41] []) (.seg 48 (.var 47) (.var 48) (.var 49)))) (.call 0 47 [.sv (.one (.hptr (.var 1) (.var 2))),.sv (.one (.int .i64 (.wrap .i64 (.add (.wrap .i64 (.add (.var 3) (.lit 2))) (.var 40)))))] [.hp 45 [] [.var 1] []] []) (.lit 0) (.var 43) ([Ck.ptr,Ck.int .i64,Ck.int .i64,Ck.int .u64,Ck.int .u64]++List.replicate 16 (Ck.int .u8)) (.var 6)
def CR:List Sx.Spec:=[tX]
theorem LK:∀ t∈CR,t.OK Tryz.prog:=fun t ht=>by
 rw[CR,Zn]at ht;subst ht;exact DD
def HJ:bU Tryz.prog CR wD.fn where
 Λ:=fun p=>if lp p then some ⟨0,[(3,TI .i64 (.var 40))],[(0,.bD 0 (al 1 px++[.sl (.var 41) (.lit 0) (.var 43) (.var 44),.bool (.bvar 23)]) 145),(1,.hp 45 [] [.var 1] []),(2,.hp 46 [] [.var 41] [])],47⟩else none
 args:=[TP (.var 0) (.lit 0)]
 mem:=[.bD 0 (al 1 px++[.sl (.lit (-1)) (.lit 0) (.lit 0) (.lit 0),.bool (.bvar 23)]) 145,.hp 24 [] [.var 1] []]
 nv:=25
 nd:=Fh
 ok:=by kernel_rfl
theorem YO:CR[0]?=some tX:=rfl
theorem DB {D:DM} {i:Int} (h:D.has i=true) (hg:D.gone=false):gl D i=(D.cw i,0):=by
 unfold gl;rw[Zo (by simp [h]),Zo (by simp [hg])]
def N7 (D:DM) (L:LM) (dp:Value) (_:Nat) (q:Env):Prop:=∃ i:Nat,q.i 40=i/\q.i 43=64*i/\ -1<=q.i 41/\0<=q.i 44/\(i=0\/(64*(i:Int)-64<L.size))/\aO (q.h 45) dp D/\cH (q.h 46) 5 (.slice (aA (q.i 41) 0) (q.i 43).toNat (q.i 44).toNat) ((D.now.drop (64*(L.frm+2).toNat)).take (64*i))
theorem LJ:wD.OK Tryz.prog:=by
 refine jh (Γ:=CR) LK ?_;rintro xs Hs Rs hl1 hl2 hdis ⟨p,a,HL,HD,dp,L,D,rfl,rfl,rfl,hL,hD,hgone,hs0,hs1⟩;have e1:Rs=[]:=Za.1 hl2;subst e1;obtain⟨da,s,m,es,clock,hdp,hDi⟩:=id hD;have hnl:=hL.1.note;obtain⟨f0,f1⟩:=hL.1.frm;have hnn:=hDi.ok.n;have hnow:=hDi.ok.now;have eB:∀ (q:Env) (sl:CV),q.i 0=a->(∀ k,k<22->q.i (1+k)=(gW da L).getD k 0)->q.b 23=L.over->(bx.bD 0 (al 1 px++[sl,.bool (.bvar 23)]) 145).hl q=Hl.one a (iJ dp (sl.ev q) L):=by
  intro q sl h0 h1 h2;show Hl.one (q.i 0).toNat (.cells ((al 1 px++[sl,.bool (.bvar 23)]).map (CV.ev q)).toArray _ (0,0))=_;rw[ZP,uL hL.1 h1,h0,Y7];unfold iJ jX;rw[hdp,<-h2,ZK];rfl
 refine⟨HJ,⟨fun k=>if k=0 then(a:Int)else(gW da L).getD (k-1) 0,fun _=>L.over,fun _=>.empty,fun _=>.tuple #[],fun _=>HD⟩,N7 D L dp,fun _ q=>(L.size-64*q.i 40+64).toNat,?_,⟨?_,?_,?_,?_⟩,(fun _ h=>nomatch h),?_⟩
 .show [Value.pointer (aA (a:Int) 0)]=_;rw[iI]
 .intro r hr ho;simp only[HJ,Zl,Zq,ZO]at hr;rcases hr with rfl | rfl
  .refine⟨HL,by simp,?_⟩;rw[eB _ _ rfl (fun k hk=>by show(if 1+k=0 then(a:Int)else(gW da L).getD (1+k-1) 0)=_;rw[Zo (by omega),show 1+k-1=k by omega]) rfl];intro b o hb;obtain⟨rfl,rfl⟩:=Hl.mZ hb;exact hL.2
  .exact⟨HD,by simp,Hl.le_refl _⟩
 .intro r hr ho;simp only[HJ,Zl,Zq,ZO]at hr;rcases hr with rfl | rfl<;>cases ho
 .have hd:HL.cG HD:=hdis 0 1 _ _ (by decide) rfl rfl;have hm:HL.mem a:=by unfold Hl.mem;rw[hL.2];rfl
  refine List.Pairwise.cons (fun r hr _ _=>?_) (List.Pairwise.cons (fun r hr=>by cases hr) List.Pairwise.nil);rw[Zn]at hr;subst hr;exact Hl.fH.2 fun h=>hd a ⟨hm,h⟩
 .intro r hr;simp only[HJ,Zl,Zq,ZO]at hr;rcases hr with rfl | rfl
  .show(0:Int)<=(a:Int);omega
  .trivial
 .show Nd.holds _ _ _ Fh;generalize hρ:(⟨fun k=>if k=0 then(a:Int)else(gW da L).getD (k-1) 0,fun _=>L.over,fun _=>.empty,fun _=>.tuple #[],fun _=>HD⟩:Env)=ρ;unfold Fh;simp only[Nd.holds,X.pre,X.rel,X.n,Src.ok,Src.len,Src.bG,Zy,Zm,ZG,Zx,Zp,Nat.reduceAdd,Zd,Zh,bn,bj,aJ,aU,aR,bm,aZ,bh,bg,bd,aV,ba,bk,aX,aW,aK,aY,ai,aj,aB,aF,aD,ar,aG,aQ,aP,aq,aI,az,aH,av,TV.ev,SV.ev,CV.ev,Zf,Zr,bx.hl,cu,Cp.sv,Ck.cv,bf,Cp.len,Ck.len,aE,aN,aT,YO,XZ,XV];have r0:ρ.i 0=a:=by rw[<-hρ];rfl
  have rk:∀ k,k<22->ρ.i (1+k)=(gW da L).getD k 0:=by
   intro k hk;rw[<-hρ];show(if 1+k=0 then(a:Int)else(gW da L).getD (1+k-1) 0)=_;rw[Zo (by omega),show 1+k-1=k by omega]
  have rb:ρ.b 23=L.over:=by rw[<-hρ]
  have rh:ρ.h 24=HD:=by rw[<-hρ]
  refine⟨⟨0,rfl,rfl,Zw _,Zw _,Or.inl rfl,?_,⟨rfl,Or.inl ⟨rfl,rfl⟩⟩⟩,fun q g ⟨i,e40,e43,e41,e44,hi,hDq,hO⟩=>?_⟩
  .show aO (ρ.h 24) dp D;rw[rh];exact hD
  .have u1:q.i 1=da:=by rw[g.i 1];exact rk 0 (by omega)
   have u2:q.i 2=0:=by rw[g.i 2];exact rk 1 (by omega)
   have u3:q.i 3=L.frm:=by rw[g.i 3];exact rk 2 (by omega)
   have u6:q.i 6=L.size:=by rw[g.i 6];exact rk 5 (by omega)
   have ep:Value.pointer (aA (da:Int) 0)=dp:=by rw[iI,hdp]
   have es:IntKind.i64.wrap L.size=L.size:=wrap_i64 (by omega) (by omega);rw[u1,u2,u3,u6,e40,e43,es,ep];refine⟨by omega,fun hlt=>?_,fun hge=>⟨e41,hs0,?_,fun hd=>?_⟩⟩
   .have ei:IntKind.i64.wrap (IntKind.i64.wrap (L.frm+2)+i)=L.frm+2+i:=by
     rw[wrap_i64 (n:=L.frm+2) (by omega) (by omega),wrap_i64 (by omega) (by omega)]
    rw[ei];have hh:D.has (L.frm+2+i)=true:=by unfold DM.has;simp only[Zc];omega
    have hr:=DB hh hgone;have hsl:=fM hDi.ok hh;refine⟨⟨dp,_,_,D,rfl,rfl,hDq⟩,fun q1 g1 ⟨F,⟨p',i',H',D',H2,u,hx,hH,hD',hH2,hD2,hv,hOu⟩,hF,hn⟩=>?_⟩;cases hx;cases hH;have e:=hD'.uniq hDq;subst e;have hF:=hF trivial;subst hF;rw[hr]at hv hOu;simp only[Value.tuple.injEq,ZY,Ze,Value.int.injEq,Zy,Zm]at hv hH2;obtain⟨rfl,h51⟩:=hv;obtain⟨⟨n47,n48,n49,n50⟩,_⟩:=hn;have n48:0<=q1.i 48:=n48;have n49:0<=q1.i 49:=n49;obtain⟨e49,hc⟩:=hOu.rd.at n47 n48 n49;have e49:q1.i 49=64:=by rw[e49];show(((D'.cw (L.frm+2+i)).length:Nat):Int)=64;rw[hsl];rfl
    have hc:0<=q1.i 47/\∀ j z,(D'.cw (L.frm+2+i))[j]?=some z->(q1.h 48).cell (q1.i 47).toNat ((q1.i 48).toNat+j)=some (.int .u8 z):=by
     rcases hc with ⟨_,hc⟩ | hc
     .have hc:D'.cw (L.frm+2+i)=[]:=hc;rw[hc]at hsl;cases hsl
     .exact hc
    obtain⟨p47,hc⟩:=hc;have x43:q1.i 43=64*i:=by rw[g1.i 43,e43]
    rw[g1.h 46,g1.i 41,g1.i 44,x43,e49];rw[e43]at hO;have hTl:((D'.now.drop (64*(L.frm+2).toNat)).take (64*i)).length=64*i:=by rw[ZE,ZX];omega
    have hO':bE (q.h 46) 5 1 (.slice (aA (q.i 41) 0) (64*(i:Int)).toNat (q.i 44).toNat) (64*(i:Int)).toNat (bK ((D'.now.drop (64*(L.frm+2).toNat)).take (64*i))):=by
     unfold cH at hO;rw[hTl]at hO;rw[show(64*(i:Int)).toNat=64*i by omega]at hO ⊢;exact hO
    refine⟨fun h=>absurd h51 h,fun _=>⟨⟨⟨_,hO'⟩,by omega,Or.inl ⟨p47,n48,by omega,fun j hj=>?_⟩,by unfold maxLen;omega,by omega⟩,fun q2 g2 ⟨a1,a2,a3,_⟩=>?_⟩⟩
    .have hj:j<(D'.cw (L.frm+2+i)).length:=by have:(64:Int).toNat=64:=rfl;omega
     exact⟨_,hc j _ (Y8 hj),rfl⟩
    .have hseg:cJ (q1.h 48) (q1.i 47).toNat (q1.i 48).toNat (Int.toNat 64)=bK (D'.cw (L.frm+2+i)):=by
      unfold cJ;apply ZN;intro j;rw[Zs,ft];rcases aaa j 64 with hj | hj
      .rw[show(64:Int).toNat=64 from rfl,ZI hj,ZS,hc j _ (Y8 (by omega)),Y8 (by omega)];rfl
      .rw[Zv (by simpa using hj),Zv (by omega)];rfl
     have hx:=a3 _ hO';rw[hseg]at hx;have hcat:(D'.now.drop (64*(L.frm+2).toNat)).take (64*(i+1))=(D'.now.drop (64*(L.frm+2).toNat)).take (64*i)++D'.cw (L.frm+2+i):=by
      rw[show 64*(i+1)=64*i+64 by omega,abJ,aaZ];unfold DM.cw;rw[show 64*(L.frm+2).toNat+64*i=64*(L.frm+2+i).toNat by omega]
     have m40:(assign q2 [⟨40,0,.int .i64 (.wrap .i64 (.add (.var 40) (.lit 1)))⟩,⟨41,0,.int .i64 (.var 52)⟩,⟨43,0,.int .i64 (.add (.var 43) (.var 49))⟩,⟨44,0,.int .i64 (.var 53)⟩] [(45,some 47),(46,some 52)]).i 40=i+1:=by
      show IntKind.i64.wrap (q2.i 40+1)=_;rw[g2.i 40,g1.i 40,e40,wrap_i64 (by omega) (by omega)]
     have m43:(assign q2 [⟨40,0,.int .i64 (.wrap .i64 (.add (.var 40) (.lit 1)))⟩,⟨41,0,.int .i64 (.var 52)⟩,⟨43,0,.int .i64 (.add (.var 43) (.var 49))⟩,⟨44,0,.int .i64 (.var 53)⟩] [(45,some 47),(46,some 52)]).i 43=64*i+64:=by
      show q2.i 43+q2.i 49=_;rw[g2.i 43,g2.i 49,x43,e49]
     refine⟨⟨i+1,by rw[m40];omega,by rw[m43];omega,a1,a2,Or.inr (by omega),?_,?_⟩,by rw[m40];omega⟩
     .show aO (q2.h 47) dp D';rw[g2.h 47,hH2];exact hD2
     .rw[m43];show cH (q2.h 52) _ (.slice (aA (q2.i 52) 0) (64*(i:Int)+64).toNat (q2.i 53).toNat) _;rw[hcat];unfold cH;rw[fY,Y9,hTl,hsl];rw[show(64*(i:Int)).toNat+Int.toNat 64=64*i+64 by have:(64:Int).toNat=64:=rfl;omega]at hx;rw[show(64*(i:Int)+64).toNat=64*i+64 by omega];exact hx
   .have:=cH.cap hO (by omega) e44;omega
   .have hd02:=hd 0 2 _ _ (by decide) rfl rfl rfl;have eb:=eB q (.sl (.var 41) (.lit 0) (.var 6) (.var 44)) (by rw[g.i 0,r0]) (fun k hk=>by rw[g.i (1+k)];exact rk k hk) (by rw[g.b 23,rb]);have ev:CV.ev q (.sl (.var 41) (.lit 0) (.var 6) (.var 44))=.slice (aA (q.i 41) 0) L.size.toNat (q.i 44).toNat:=by
     simp only[CV.ev,aj,ai,u6]
    rw[ev]at eb;refine⟨[[0,2],[1]],[],rfl,rfl,⟨⟨fun _=>0,fun _=>false,fun _=>.empty,fun _=>.tuple #[],fun _=>Hl.none⟩,rfl,trivial,trivial⟩,_,a,HL,HD,dp,L,D,_,_,rfl,rfl,rfl,hL,hD,rfl,?_,?_,rfl⟩
    .show aO (dC [q.h 45]) _ _;rw[bz];exact hDq
    .refine⟨a,.slice (aA (q.i 41) 0) L.size.toNat (q.i 44).toNat,q.h 46,rfl,hL.1,?_,?_,?_⟩
     .rw[e43]at hO;have hTl:((D.now.drop (64*(L.frm+2).toNat)).take (64*i)).length=64*i:=by
       rw[ZE,ZX];rcases hi with rfl | hi<;>omega
      have:=cH.pre hO e41 hs0 (by rw[hTl];omega);rw[List.take_take,show min L.size.toNat (64*i)=L.size.toNat by omega]at this;exact this
     .rw[<-eb];exact hd02
     .exact ZW (fun z=>dC [z,q.h 46]) eb
theorem En (n c:Int):0<=iD n c/\iD n c<18446744073709551616:=by
 unfold iD;have h:∀ x:Int,0<=IntKind.u64.wrap x/\IntKind.u64.wrap x<18446744073709551616:=fun x=>⟨Int.emod_nonneg _ (by decide),Int.emod_lt_of_pos _ (by decide)⟩;exact h _
theorem vf (l:List Int):0<=fk l/\fk l<18446744073709551616:=by
 have h:∀ (l:List Int) (n:Int),(0<=n/\n<18446744073709551616)->0<=l.foldl iD n/\l.foldl iD n<18446744073709551616:=by
  intro l
  induction l with
  | nil=>exact fun n h=>h
  | cons c l ih=>exact fun n _=>ih _ (En n c)
 exact h l 0 (by omega)
theorem mJ {D:DM} (hD:D.ok) (frm:Int) {most:Int} (hm:0<=most) (place:Int):qf (bZ D frm most place).1/\(bZ D frm most place).1.getD 1 0<=most:=by
 have hz:qf gj/\gj.getD 1 0<=most:=⟨⟨rfl,⟨Zw _,by decide⟩,Zw _,by decide⟩,hm⟩;unfold bZ;split
 .exact hz
 .rename_i h;have h:(gl D (frm+place)).2=0:=by simpa using h
  obtain⟨_,_,e,hl⟩:=DC hD h;split
  .rename_i hg;have r0:=vf (((gl D (frm+place)).1.take 32).take 8);have r1:=vf ((((gl D (frm+place)).1.take 32).drop 8).take 8);refine⟨⟨?_,r0,r1⟩,hg.2.2⟩;unfold wa;rw[e];simp only[Y9,Zd,Zh,ZE,ZX,hl];rfl
  .exact hz
theorem wF {D:DM} {frm most place:Int} (h:D.has (frm+place)=true):(bZ D frm most place).2=if D.gone then 5 else 0:=by
 unfold bZ gl;rw[h];cases D.gone with
 | true=>simp
 | false=>simp;split<;>rfl
def wb (frm most:Int) (h:List Int):LM:=⟨frm,most,h.getD 0 0,h.getD 1 0,h.drop 2,false⟩
def jd (D:DM) (frm n:Int):Int:=if n<3\/frm<0\/(D.n:Int)<frm\/(D.n:Int)-frm<n then 1 else if D.gone then 5 else 0
def nx (D:DM) (frm n:Int):List Int:=if(bZ D frm (64*(n-2)) 0).1.getD 0 0<(bZ D frm (64*(n-2)) 1).1.getD 0 0 then(bZ D frm (64*(n-2)) 1).1 else(bZ D frm (64*(n-2)) 0).1
def je (D:DM) (frm n:Int):LM:=wb frm (64*(n-2)) (nx D frm n)
def jw (D:DM) (frm n:Int):List Int:=uG D frm (je D frm n).size
def rG:Sx.Spec where
 fn:=44
 own:=[.arg 0]
 rd:=[]
 res:=[.one .ptr,.one (.int .i64)]
 links:=[0]
 pre:=fun xs Hs Rs=>∃ dp frm n H D,xs=[dp,.int .i64 frm,.int .i64 n]/\Hs=[H]/\aO H dp D
 post:=fun xs Hs Rs v Hs' F=>∃ dp frm n H D H' pv,xs=[dp,.int .i64 frm,.int .i64 n]/\Hs=[H]/\aO H dp D/\Hs'=[H']/\aO H' dp D/\v=.tuple #[pv,.int .i64 (jd D frm n)]/\(jd D frm n=0->dW F pv dp (je D frm n) (jw D frm n))/\(jd D frm n≠0->pv=.pointer none)
def FG:Nd:=(fun c j h r p=>(fun n q t m k l s u=>(fun d f b e g v=>(fun i o=>(fun a=>(.and (.imp (.not (.lt (.var 2) (.lit 3))) (.and (.imp (.not (.lt r c)) (.and (.pre (.call 0 4 l u [])) (.ext (.call 0 4 l u []) (.and (.imp (.not (.lt (.var 4) r)) (.and (.pre v) (.ext v (.and (.imp s (.post [.hp 6 [4,3] j []] g)) (.imp (.not s) (.ext (.alloc 8) (.and (.pre e) (.ext e (.ext (.alloc 28) (.and (.imp (.not (.eq (.var 27) c)) (.post [.hp 9 [6,4,3] j [],.dead,.dead] (.tup [.one q,.one (.int .i64 (.var 27))]))) (.imp (.eq (.var 27) c) (.and (.imp (.lt c (.var 9)) a) (.imp (.not (.lt c (.var 9))) a))))))))))))) (.imp (.lt (.var 4) r) (.post [.hp 4 [3] j []] g)))))) (.imp (.lt r c) (.post u g)))) (.imp (.lt (.var 2) (.lit 3)) (.post u g)):Nd)) (.and (.pre i) (.ext i (.ext (.alloc 48) (.and (.imp (.not (.eq (.var 47) c)) (.post [.hp 29 [9,6,4,3] j [],.dead,.dead,.dead] (.tup [.one q,.one (.int .i64 (.var 47))]))) (.imp (.eq (.var 47) c) (.and (.imp (.lt (.var 9) (.var 29)) (.and (.pre f) (.ext f d))) (.imp (.not (.lt (.var 9) (.var 29))) (.and (.pre o) (.ext o d)))))))))) (.call 1 29 [.sv k,.sv (.one (.int .u64 (.lit 1)))] [.hp 9 [6,4,3] j []] [.bD 8 b 145]) (.call 2 49 [.sv k] [.bD 8 b 145,.hp 29 [9,6,4,3] j []] [])) (.and (.imp (.not (.eq (.var 49) c)) (.post n (.tup [.one q,.one (.int .i64 (.var 49))]))) (.imp (.eq (.var 49) c) (.post n (.tup [.one (.hptr (.var 8) c),.one (.int .i64 c)])))) (.call 2 49 [.sv k] [.bD 8 (t++al 29 p++m) 145,.hp 29 [9,6,4,3] j []] []) (t++al 9 p++m) (.call 1 9 [.sv k,.sv (.one (.int .u64 c))] [.hp 6 [4,3] j []] [.bD 8 ([.hptr (.var 0) c,.int .i64 r,.int .i64 h,.int .u64 c,.int .u64 c]++List.replicate 16 (CV.int .u8 c)++m) 145]) (.tup [.one q,.one (.int .i64 (.lit 1))]) (.call 0 6 l [.hp 4 [3] j []] [])) [.hp 50 [29,9,6,4,3] j [],.hp 49 [] [.var 8] [],.dead,.dead] (.hptr (.lit (-1)) c) [.hptr (.var 0) c,.int .i64 r,.int .i64 h] [.sl (.lit (-1)) c c c,.bool .ff] (.one (.hptr (.var 8) c)) [.sv (.one (.hptr (.var 0) c))] (.lt (.wrap .i64 (.sub (.var 6) r)) (.var 2)) [.hp 3 [] j []]) (.lit 0) [.var 0] (.wrap .i64 (.mul (.lit 64) (.wrap .i64 (.sub (.var 2) (.lit 2))))) (.var 1) ([Ck.int .u64,Ck.int .u64]++List.replicate 16 (Ck.int .u8))
def xd:List Sx.Spec:=[iA,jY,wD]
theorem Mf:∀ t∈xd,t.OK Tryz.prog:=fun t ht=>by
 simp only[xd,Zl,Zq,ZO]at ht;rcases ht with rfl | rfl | rfl
 .exact ug
 .exact I9
 .exact LJ
def Df:bU Tryz.prog xd rG.fn where
 Λ:=aM
 args:=[TP (.var 0) (.lit 0),TI .i64 (.var 1),TI .i64 (.var 2)]
 mem:=[.hp 3 [] [.var 0] []]
 nv:=4
 nd:=FG
 ok:=by kernel_rfl
theorem VE:xd[0]?=some iA:=rfl
theorem VF:xd[1]?=some jY:=rfl
theorem VG:xd[2]?=some wD:=rfl
theorem VH:iA.res=[.one (.int .i64)]:=rfl
theorem VI:jY.res=[.agg jz,.one (.int .i64)]:=rfl
theorem VJ:wD.res=[.one (.int .i64)]:=rfl
def Kj (l:List CV):List CV:=[.hptr (.var 0) (.lit 0),.int .i64 (.var 1),.int .i64 (.wrap .i64 (.mul (.lit 64) (.wrap .i64 (.sub (.var 2) (.lit 2)))))]++l++[.sl (.lit (-1)) (.lit 0) (.lit 0) (.lit 0),.bool .ff]
theorem VD {q:Env} {l:List CV} {da:Nat} {frm n:Int} {h:List Int} (h0:q.i 0=da) (h1:q.i 1=frm) (h2:q.i 2=n) (hn:3<=n/\n<=16384) (hh:h.length=18) (hl:l.map (CV.ev q)=mE h) :
 (bx.bD 8 (Kj l) 145).hl q=Hl.one (q.i 8).toNat (iJ (.pointer (some ⟨da,0,none⟩)) (.slice none 0 0) (wb frm (64*(n-2)) h)):=by
 show Hl.one (q.i 8).toNat (.cells ((Kj l).map (CV.ev q)).toArray _ (0,0))=_;have e:(Kj l).map (CV.ev q)=jX (.pointer (some ⟨da,0,none⟩)) (.slice none 0 0) (wb frm (64*(n-2)) h):=by
  unfold Kj;rw[ZP,ZP,hl];have ep:Value.pointer (aA (q.i 0) 0)=.pointer (some ⟨da,0,none⟩):=by rw[h0,iI]
  have em:IntKind.i64.wrap (64*IntKind.i64.wrap (q.i 2-2))=64*(n-2):=by
   rw[h2,wrap_i64 (n:=n-2) (by omega) (by omega),wrap_i64 (by omega) (by omega)]
  show [Value.pointer (aA (q.i 0) 0),Value.int .i64 (q.i 1),Value.int .i64 (IntKind.i64.wrap (64*IntKind.i64.wrap (q.i 2-2)))]++mE h++[Value.slice (aA (-1) 0) 0 0,Value.bool false]=_;rw[ep,em,h1,fa];unfold jX wb mE;simp only[abg,aax,ZK]
 rw[e];rfl
theorem CC {q:Env} {n:Nat} {h:List Int} (e:(al n jz).map (CV.ev q)=mE h):q.i n=h.getD 0 0:=by
 have:=ZW (fun l=>l[0]?) e;simpa [jz,al,Ck.cv,CV.ev,mE,aj] using this
theorem Lj {frm n:Int} {h:List Int} (hf:0<=frm/\frm<=16384) (hn:3<=n/\n<=16384) (hh:h.length=18):(wb frm (64*(n-2)) h).ok:=⟨hf,⟨by show 0<=64*(n-2);omega,by show 64*(n-2)<=_;omega⟩,by show(h.drop 2).length=16;rw[ZX];omega⟩
theorem Me:rG.OK Tryz.prog:=by
 refine Spec.bJ (Γ:=xd) Mf ?_;rintro xs Hs Rs hl1 hl2 ⟨dp,frm,n,H,D,rfl,rfl,hD⟩;have e1:Rs=[]:=Za.1 hl2;subst e1;obtain⟨da,s,m,es,clock,hdp,hDi⟩:=id hD;have hDn:=hDi.ok.n;refine⟨Df,bw [da,frm,n] false [Hl.none,Hl.none,Hl.none,H],fun _ _=>True,fun _ _=>0,?_,⟨?_,?_,?_,?_⟩,(fun _ h=>nomatch h),?_⟩
 .show [Value.pointer (aA (da:Int) 0),Value.int .i64 frm,Value.int .i64 n]=_;rw[iI,hdp]
 .intro r hr ho;simp [Df]at hr;subst hr;exact⟨H,by simp,Hl.le_refl _⟩
 .intro r hr ho;simp [Df]at hr;subst hr;cases ho
 .simp [Df]
 .intro r hr;simp [Df]at hr;subst hr;trivial
 .show Nd.holds _ _ _ FG;generalize hρ:bw [(da:Int),frm,n] false [Hl.none,Hl.none,Hl.none,H]=ρ;have v0:ρ.i 0=da:=by rw[<-hρ];rfl
  have v1:ρ.i 1=frm:=by rw[<-hρ];rfl
  have v2:ρ.i 2=n:=by rw[<-hρ];rfl
  have w3:ρ.h 3=H:=by rw[<-hρ];rfl
  have ep:Value.pointer (aA (da:Int) 0)=dp:=by rw[iI,hdp]
  have bad:∀ (q:Env) (k:Nat) (vs:List Nat) (t:Mem) (x:E) (e:Int),aO (q.h k) dp D->aC q x=e->jd D frm n=e->e≠0 ->
   postOf rG [dp,.int .i64 frm,.int .i64 n] [H] [] q (.hp k vs [.var 0] []::t) (.tup [.one (.hptr (.lit (-1)) (.lit 0)),.one (.int .i64 x)]):=by
   intro q k vs t x e hq hx he hne _;refine⟨[[0]],[],rfl,rfl,⟨⟨fun j=>[-1,0,e].getD j 0,fun _=>false,fun _=>.empty,fun _=>.tuple #[],fun _=>Hl.none⟩,?_,⟨by show(-1:Int)<= -1;omega,Zw _⟩,trivial,trivial⟩,dp,frm,n,H,D,_,.pointer none,rfl,rfl,hD,rfl,?_,?_,fun h=>absurd (he.symm.trans h) hne,fun _=>rfl⟩
   .subst hx;rfl
   .show aO (dC [q.h k]) _ _;rw[bz];exact hq
   .rw[he,<-hx];rfl
  unfold FG;simp only[Nd.holds,X.pre,X.rel,X.n,Src.ok,Src.len,Src.bG,Zy,Zm,ZG,Zx,Zp,Nat.reduceAdd,Zd,Zh,bn,bj,aJ,aU,aR,bm,aZ,bh,bg,bd,aV,ba,bk,aX,aW,aK,aY,ai,aj,aB,aF,aD,ar,aG,aQ,aP,aq,aI,az,aH,av,TV.ev,SV.ev,CV.ev,Zf,Zr,bx.hl,cu,Cp.sv,Ck.cv,bf,Cp.len,Ck.len,aE,aN,aT,VE,VF,VG,VH,VI,VJ];rw[v0,v1,v2,w3,ep];refine⟨fun h3=>⟨fun h0=>⟨⟨dp,H,D,rfl,rfl,hD⟩,fun q1 g1 ⟨F,⟨p',H',D',H2,hx,hH,hD',hH2,hD2,hv⟩,_,_⟩=>?_⟩,fun h0=>bad _ 3 _ _ _ 1 (by rw[w3];exact hD) (ai _ _) (by unfold jd;rw[ZA (Or.inr (Or.inl h0))]) (by decide)⟩,fun h3=>bad _ 3 _ _ _ 1 (by rw[w3];exact hD) (ai _ _) (by unfold jd;rw[ZA (Or.inl h3)]) (by decide)⟩;cases hx;cases hH;have e:=hD'.uniq hD;subst e;simp only[Value.int.injEq,Zy,Ze,Zm]at hv hH2;rw[<-hH2]at hD2;have hv:q1.i 4=D'.n:=hv;rw[g1.i 0,g1.i 1,v0,v1,hv,ep];refine⟨fun hlt=>⟨⟨dp,_,D',rfl,rfl,hD2⟩,fun q2 g2 ⟨F,⟨p',H',D1,H3,hx,hH,hD',hH3,hD3,hv3⟩,_,_⟩=>?_⟩,fun hlt=>bad _ 4 _ _ _ 1 hD2 (ai _ _) (by unfold jd;rw[ZA (Or.inr (Or.inr (Or.inl hlt)))]) (by decide)⟩;cases hx;cases hH;have e:=hD'.uniq hD2;subst e;simp only[Value.int.injEq,Zy,Ze,Zm]at hv3 hH3;rw[<-hH3]at hD3;have hv3:q2.i 6=D1.n:=hv3;have h3:3<=n:=by omega
  have h0:0<=frm:=by omega
  have hlt:frm<=D1.n:=by omega
  have esub:IntKind.i64.wrap ((D1.n:Int)-frm)=D1.n-frm:=wrap_i64 (by omega) (by omega);rw[g2.i 1,g2.i 2,g1.i 1,g1.i 2,v1,v2,hv3,esub];refine⟨fun hr=>bad _ 6 _ _ _ 1 hD3 (ai _ _) (by unfold jd;rw[ZA (Or.inr (Or.inr (Or.inr hr)))]) (by decide),fun hr q3 g3 p8=>?_⟩;have hr:n<=D1.n-frm:=by omega
  have G3:ah 4 ρ q3:=(g1.tr g2).tr g3;have hn16:3<=n/\n<=16384:=⟨h3,by omega⟩;have hf16:0<=frm/\frm<=16384:=⟨h0,by omega⟩;have hm0:0<=64*(n-2):=by omega
  have ep8:∀ q:Env,0<=q.i 8->Value.pointer (aA (q.i 8) 0)=.pointer (some ⟨(q.i 8).toNat,0,none⟩):=fun q h=>by rw[au h];rfl
  have rd:∀ (q:Env) (l:List CV) (h:List Int),ah 4 ρ q->h.length=18->l.map (CV.ev q)=mE h->0<=q.i 8 ->
   jt ((bx.bD 8 (Kj l) 145).hl q) (q.i 8).toNat dp (.slice none 0 0) (wb frm (64*(n-2)) h):=by
   intro q l h hq hh hl h8;refine⟨Lj hf16 hn16 hh,?_⟩;rw[VD (by rw[hq.i 0,v0]) (by rw[hq.i 1,v1]) (by rw[hq.i 2,v2]) hn16 hh hl,hdp];exact Hl.bF _ _
  have call:∀ (q:Env) (l:List CV) (h:List Int) (k:Nat) (place:Int),ah 4 ρ q->h.length=18->l.map (CV.ev q)=mE h->0<=q.i 8->aO (q.h k) dp D1->(place=0\/place=1) ->
   jY.pre [.pointer (aA (q.i 8) 0),.int .u64 place] [q.h k] [(bx.bD 8 (Kj l) 145).hl q]:=by
   intro q l h k place hq hh hl h8 hd hp;exact⟨_,place,_,_,dp,_,_,D1,rfl,rfl,rfl,⟨_,ep8 q h8,rd q l h hq hh hl h8⟩,hd,hp⟩
  have back:∀ (q:Env) (l:List CV) (h:List Int) (k:Nat) (place:Int) (v:Value) (H' F:Hl),ah 4 ρ q->h.length=18->l.map (CV.ev q)=mE h->0<=q.i 8->aO (q.h k) dp D1 ->
   jY.post [.pointer (aA (q.i 8) 0),.int .u64 place] [q.h k] [(bx.bD 8 (Kj l) 145).hl q] v [H'] F ->
   aO H' dp D1/\v=.tuple #[.agg (mE (bZ D1 frm (64*(n-2)) place).1).toArray,.int .i64 (bZ D1 frm (64*(n-2)) place).2]:=by
   intro q l h k place v H' F hq hh hl h8 hd ⟨p',place',Hx,R,dp',sl',L',Dx,H'',hx,hH,hR,hL,hDx,hH',hDy,hvq⟩;cases hx;cases hH;have hR:(bx.bD 8 (Kj l) 145).hl q=R:=by simpa using hR
   subst hR;obtain⟨e1,e2,e3⟩:=hL.uniq ⟨_,ep8 q h8,rd q l h hq hh hl h8⟩;subst e1 e2 e3;have e:=hDx.uniq hd;subst e;simp only[Ze,Zm]at hH';subst hH';exact⟨hDy,hvq⟩
  have inr:∀ place:Int,place=0\/place=1->D1.has (frm+place)=true:=by
   intro place hp;unfold DM.has;simp only[Zc];omega
  have oE:jd D1 frm n=if D1.gone then 5 else 0:=by
   unfold jd;rw[Zo (by omega)]
  have leaf:∀ (q:Env) (l:List CV) (h:List Int),ah 4 ρ q->qf h->h.getD 1 0<=64*(n-2)->l.map (CV.ev q)=mE h->0<=q.i 8->aO (q.h 29) dp D1->D1.gone=false->nx D1 frm n=h ->
   (wD.pre [.pointer (aA (q.i 8) 0)] [(bx.bD 8 (Kj l) 145).hl q,q.h 29] [] /\
   ∀ q':Env,ah 49 q q'->(∃ F,wD.post [.pointer (aA (q.i 8) 0)] [(bx.bD 8 (Kj l) 145).hl q,q.h 29] [] (.int .i64 (q'.i 49)) (newHs q' 49 2) F/\(br 0 [Cp.one (Ck.int .i64)]≠[]->q'.h 51=F)/\fg 49 [Cp.one (Ck.int .i64)] q') ->
    (¬q'.i 49=0->postOf rG [dp,.int .i64 frm,.int .i64 n] [H] [] q' [.hp 50 [29,9,6,4,3] [.var 0] [],.hp 49 [] [.var 8] [],.dead,.dead] (.tup [.one (.hptr (.lit (-1)) (.lit 0)),.one (.int .i64 (.var 49))])) /\
    (q'.i 49=0->postOf rG [dp,.int .i64 frm,.int .i64 n] [H] [] q' [.hp 50 [29,9,6,4,3] [.var 0] [],.hp 49 [] [.var 8] [],.dead,.dead] (.tup [.one (.hptr (.var 8) (.lit 0)),.one (.int .i64 (.lit 0))]))):=by
   intro q l h hq hh hmost hl h8 hd hgone hoH;refine⟨⟨_,_,_,_,dp,_,D1,rfl,rfl,ep8 q h8,rd q l h hq hh.1 hl h8,hd,hgone,hh.2.2.1,?_⟩,fun q' g' ⟨F,⟨p',a',HL,HDk,dp',L',Dx,HL',HD',hx,hH,hp,hL,hDx,hH',hDy,hAt,hvq⟩,_,_⟩=>?_⟩
   .show 64*(frm+2)+h.getD 1 0<=64*(D1.n:Int);omega
   .have hx:Value.pointer (aA (q.i 8) 0)=p':=by simpa using hx
    subst hx;have hH:(bx.bD 8 (Kj l) 145).hl q=HL/\q.h 29=HDk:=by simpa using hH
    obtain⟨hH1,hH2⟩:=hH;subst hH1 hH2;have e:=hDx;obtain⟨e1,e2,e3⟩:=fv.uniq ⟨a',hp,hL⟩ ⟨_,ep8 q h8,rd q l h hq hh.1 hl h8⟩;subst e1 e3;have e:=hDx.uniq hd;subst e;have hH':q'.h 49=HL'/\q'.h 50=HD':=by
     have h1:[q'.h 49,q'.h 50]=[HL',HD']:=hH';simpa using h1
    obtain⟨h49,h50⟩:=hH';simp only[Value.int.injEq,Zy]at hvq;refine⟨fun h=>absurd hvq h,fun _ _=>⟨[[0]],[1],rfl,rfl,⟨⟨fun j=>[q'.i 8,0,0].getD j 0,fun _=>false,fun _=>.empty,fun _=>.tuple #[],fun _=>Hl.none⟩,rfl,⟨?_,Zw _⟩,trivial,trivial⟩,_,frm,n,H,Dx,_,Value.pointer (aA (q'.i 8) 0),rfl,rfl,hD,rfl,?_,?_,fun _=>?_,fun h=>absurd (by rw[oE,hgone];rfl) h⟩⟩
    .show -1<=q'.i 8;rw[g'.i 8];omega
    .show aO (dC [q'.h 50]) _ _;rw[bz,h50];exact hDy
    .rw[oE,hgone];rfl
    .show dW (dC [q'.h 49]) _ _ _ _;rw[bz,h49,g'.i 8];unfold jw je;rw[hoH];exact hAt
  have z18:∀ q:Env,([CV.int .u64 (.lit 0),CV.int .u64 (.lit 0)]++List.replicate 16 (CV.int .u8 (.lit 0))).map (CV.ev q)=mE gj:=fun q=>rfl;obtain⟨ok0,le0⟩:=mJ hDi.ok frm hm0 0;obtain⟨ok1,le1⟩:=mJ hDi.ok frm hm0 1;have hD6:aO (q3.h 6) dp D1:=by rw[g3.h 6];exact hD3
  refine⟨call q3 _ gj 6 0 G3 rfl (z18 q3) p8 hD6 (Or.inl rfl),fun q4 g4 ⟨F,hp4,_,_⟩ q5 g5 _=>?_⟩;obtain⟨hD9,hv4⟩:=back q3 _ gj 6 0 _ _ _ G3 rfl (z18 q3) p8 hD6 hp4;simp only[Value.tuple.injEq,ZY,Ze,Value.int.injEq,Value.agg.injEq,Zy,Zm]at hv4;obtain⟨hh4,hc4⟩:=hv4;have hc4:q4.i 27=(bZ D1 frm (64*(n-2)) 0).2:=hc4;rw[wF (inr 0 (Or.inl rfl))]at hc4;have G5:ah 4 ρ q5:=(G3.tr g4).tr g5;have hh5:List.map (CV.ev q5) (al 9 jz)=mE (bZ D1 frm (64*(n-2)) 0).1:=by
   rw[CV.gn (g5.mono (by decide)) _ (du jz 9)];exact hh4
  have p85:0<=q5.i 8:=by rw[g5.i 8,g4.i 8];exact p8
  have hD95:aO (q5.h 9) dp D1:=by rw[g5.h 9];exact hD9
  refine⟨fun h27=>bad q5 9 _ _ _ 5 hD95 (by rw[aj,g5.i 27,hc4,ZA];exact aak fun hg=>h27 (by rw[g5.i 27,hc4,Zo hg])) (by rw[oE,ZA];exact aak fun hg=>h27 (by rw[g5.i 27,hc4,Zo hg])) (by decide),fun h27=>?_⟩;have hgone:D1.gone=false:=by
   cases hg:D1.gone with
   | false=>rfl
   | true=>rw[g5.i 27,hc4,hg]at h27;cases h27
  have mid:∀ (q6:Env),ah 29 q5 q6->∀ F,jY.post [.pointer (aA (q5.i 8) 0),.int .u64 1] [q5.h 9] [(bx.bD 8 (Kj (al 9 jz)) 145).hl q5] (.tuple #[.agg (List.map (CV.ev q6) (al 29 jz)).toArray,.int .i64 (q6.i 47)]) [q6.h 29] F ->
   ∀ q7,ah 48 q6 q7->q7.i 47=0/\ah 4 ρ q7/\0<=q7.i 8/\aO (q7.h 29) dp D1/\List.map (CV.ev q7) (al 29 jz)=mE (bZ D1 frm (64*(n-2)) 1).1/\List.map (CV.ev q7) (al 9 jz)=mE (bZ D1 frm (64*(n-2)) 0).1:=by
   intro q6 g6 F hp6 q7 g7;obtain⟨hD29,hv6⟩:=back q5 _ _ 9 1 _ _ _ G5 ok0.1 hh5 p85 hD95 hp6;simp only[Value.tuple.injEq,ZY,Ze,Value.int.injEq,Value.agg.injEq,Zy,Zm]at hv6;obtain⟨hh6,hc6⟩:=hv6;rw[wF (inr 1 (Or.inr rfl)),hgone]at hc6;refine⟨by rw[g7.i 47,hc6];rfl,(G5.tr g6).tr g7,by rw[g7.i 8,g6.i 8];exact p85,by rw[g7.h 29];exact hD29,?_,?_⟩
   .rw[CV.gn (g7.mono (by decide)) _ (du jz 29)];exact hh6
   .rw[CV.gn ((g6.tr g7).mono (by decide)) _ (du jz 9)];exact hh5
  have both:∀ (q7:Env),ah 4 ρ q7->0<=q7.i 8->aO (q7.h 29) dp D1->List.map (CV.ev q7) (al 29 jz)=mE (bZ D1 frm (64*(n-2)) 1).1->List.map (CV.ev q7) (al 9 jz)=mE (bZ D1 frm (64*(n-2)) 0).1 ->
   (q7.i 9<q7.i 29->nx D1 frm n=(bZ D1 frm (64*(n-2)) 1).1)/\(¬q7.i 9<q7.i 29->nx D1 frm n=(bZ D1 frm (64*(n-2)) 0).1):=by
   intro q7 _ _ _ h1 h2;rw[CC h1,CC h2];exact⟨fun h=>by unfold nx;rw[ZA h],fun h=>by unfold nx;rw[Zo h]⟩
  constructor
  .intro _;refine⟨call q5 _ _ 9 1 G5 ok0.1 hh5 p85 hD95 (Or.inr rfl),fun q6 g6 ⟨F,hp6,_,_⟩ q7 g7 _=>?_⟩;obtain⟨z1,z2,z3,z4,z5,z6⟩:=mid q6 g6 F hp6 q7 g7;obtain⟨b1,b2⟩:=both q7 z2 z3 z4 z5 z6;exact⟨fun h=>absurd z1 h,fun _=>⟨fun hlt=>leaf q7 (al 29 jz) _ z2 ok1 le1 z5 z3 z4 hgone (b1 hlt),fun hge=>leaf q7 (al 9 jz) _ z2 ok0 le0 z6 z3 z4 hgone (b2 hge)⟩⟩
  .intro _;refine⟨call q5 _ _ 9 1 G5 ok0.1 hh5 p85 hD95 (Or.inr rfl),fun q6 g6 ⟨F,hp6,_,_⟩ q7 g7 _=>?_⟩;obtain⟨z1,z2,z3,z4,z5,z6⟩:=mid q6 g6 F hp6 q7 g7;obtain⟨b1,b2⟩:=both q7 z2 z3 z4 z5 z6;exact⟨fun h=>absurd z1 h,fun _=>⟨fun hlt=>leaf q7 (al 29 jz) _ z2 ok1 le1 z5 z3 z4 hgone (b1 hlt),fun hge=>leaf q7 (al 9 jz) _ z2 ok0 le0 z6 z3 z4 hgone (b2 hge)⟩⟩
def qz (sl:Value) (n:Nat):Prop:=∃ (x y:Int) (c:Nat),sl=.slice (aA x y) n c/\ -1<=x/\0<=y
theorem cH.qz {F:Hl} {e:TypeId} {v:Value} {bs:List Int} (h:cH F e v bs):qz v bs.length:=by
 obtain⟨x,c,hx,hv,_⟩:=cH.rep h;exact⟨x,0,c,hv,hx,Zw _⟩
theorem mo.qz {F:Hl} {v:Value} {bs:List Int} (h:mo F v bs):qz v bs.length:=by
 obtain⟨x,y,c,hv,hy,h⟩:=h;exact⟨x,y,c,hv,by rcases h with ⟨h,_⟩ | ⟨h,_⟩<;>omega,hy⟩
theorem qz.uniq {sl:Value} {n m:Nat} (h:qz sl n) (h':qz sl m):n=m:=by
 obtain⟨x,y,c,rfl,_⟩:=h;obtain⟨x',y',c',he,_⟩:=h';simp only[Value.slice.injEq]at he;exact he.2.1
theorem yg {x y:Int} (hx:-1<=x) (n c:Nat):bM (some (.slice (aA x y) n c)) 0=x:=by
 rcases aal x 0 with h | h
 .obtain rfl:x= -1:=by omega
  rfl
 .rw[au h];show((x.toNat:Nat):Int)=x;omega
theorem D7 {x y:Int} (hx:0<=x) (hy:0<=y) (n c:Nat):bM (some (.slice (aA x y) n c)) 1=y:=by
 rw[au hx];show((y.toNat:Nat):Int)=y;omega
theorem mm {x y:Int} (hx:-1<=x) (n c:Nat):bM (some (.slice (aA x y) n c)) 2=n:=by
 rcases aal x 0 with h | h
 .obtain rfl:x= -1:=by omega
  rfl
 .rw[au h];rfl
def pR (a:Nat) (R1 R2:Hl):Env:=bw [(a:Int)] false [Hl.none,R2,R1]
def tU:Mem:=[.ro 1 [.hP 2 (.var 0) (.lit 21) 0 0] false,.ro 2 [.var 0] false]
theorem Bi (a:Nat) (R1 R2:Hl) (Rs:List Hl) (h1:R1∈Rs) (h2:R2∈Rs):Entry (pR a R1 R2) tU [] Rs:=by
 refine⟨fun r hr ho=>?_,fun r hr ho=>?_,?_,fun r hr=>?_⟩
 .simp [tU]at hr;rcases hr with rfl | rfl<;>cases ho
 .simp [tU]at hr;rcases hr with rfl | rfl
  .exact⟨R2,h2,Hl.le_refl _⟩
  .exact⟨R1,h1,Hl.le_refl _⟩
 .simp [tU,bx.own]
 .simp [tU]at hr;rcases hr with rfl | rfl<;>trivial
def pT:Sx.Spec where
 fn:=50
 own:=[]
 rd:=[0]
 res:=[.one (.int .i64)]
 pre:=fun xs Hs Rs=>∃ p R dp sl L n,xs=[p]/\Rs=[R]/\fv R p dp sl L/\qz sl n/\n<=1048576
 post:=fun xs Hs Rs v Hs' F=>∃ p R dp sl L n,xs=[p]/\Rs=[R]/\fv R p dp sl L/\qz sl n/\v=.int .i64 (L.most-n)
def FZ:Nd:=(fun a=>(.and (.e (.le (.lit 0) a)) (.and (.e (.his 2 a (.lit 2) 0 (.int .i64))) (.and (.e (.his 2 a (.lit 21) 0 .slice)) (.and (.e (.le (.lit 0) (.hP 2 a (.lit 21) 0 2))) (.post [.ro 1 [.hP 2 a (.lit 21) 0 0] false,.ro 2 [.var 0] false] (.sv (.one (.int .i64 (.wrap .i64 (.sub (.hI 2 a (.lit 2) 0) (.hP 2 a (.lit 21) 0 2)))))))))):Nd)) (.var 0)
def TG:bU Tryz.prog [] pT.fn where
 Λ:=aM
 args:=[TP (.var 0) (.lit 0)]
 mem:=tU
 nv:=3
 nd:=FZ
 ok:=by kernel_rfl
def kY:Sx.Spec where
 fn:=54
 own:=[]
 rd:=[0]
 res:=[.agg (qI 16)]
 pre:=fun xs Hs Rs=>∃ p R dp sl L,xs=[p]/\Rs=[R]/\fv R p dp sl L
 post:=fun xs Hs Rs v Hs' F=>∃ p R dp sl L,xs=[p]/\Rs=[R]/\fv R p dp sl L/\v=.agg (bK L.note).toArray
def AO:Nd:=.ext (.alloc 3) (.and (.e (.le (.lit 0) (.var 0))) (.and (.e (.hby 2 (.var 0) (.lit 5) (.lit 16))) (.post [.ro 1 [.hP 2 (.var 0) (.lit 21) 0 0] false,.ro 2 [.var 0] false,.dead] (.sv (.agg (bo 2 (.var 0) (.lit 5) 0 (List.replicate 16 (Kd.int .u8))))))))
def QX:bU Tryz.prog [] kY.fn where
 Λ:=aM
 args:=[TP (.var 0) (.lit 0)]
 mem:=tU
 nv:=3
 nd:=AO
 ok:=by kernel_rfl
theorem jt.Su {R:Hl} {a:Nat} {dp sl:Value} {L:LM} (h:jt R a dp sl L):R.cell a 21=some sl:=by
 rw[h.cell];unfold jX;rw[Zz (by simp),Zz (by rw[cP,h.1.note];simp)];rw[cP,h.1.note];rfl
theorem jt.Oh {R:Hl} {a:Nat} {dp sl:Value} {L:LM} (h:jt R a dp sl L):∀ j z,L.note[j]?=some z->R.cell a (5+j)=some (.int .u8 z):=by
 intro j z hz;rw[h.cell];unfold jX;have hj:=(Zi.1 hz).1;rw[Zz (by simp),ZH (by rw[cP];simp;omega),ft];rw[show 5+j-_=j from by simp,hz];rfl
theorem DF:pT.OK Tryz.prog:=by
 refine Spec.bJ (Γ:=[]) (fun _ h=>by cases h) ?_;rintro xs Hs Rs hl1 hl2 ⟨p,R,dp,sl,L,n,rfl,rfl,⟨a,rfl,hL⟩,hs,hn⟩;have e0:Hs=[]:=Za.1 hl1;subst e0;refine⟨TG,pR a R R,fun _ _=>True,fun _ _=>0,?_,Bi a R R _ (by simp) (by simp),(fun _ h=>nomatch h),?_⟩
 .show [Value.pointer (aA (a:Int) 0)]=_;rw[iI]
 .show Nd.holds _ _ _ FZ;unfold FZ;simp only[Nd.holds,X.pre,X.rel,X.n,Src.ok,Src.len,Src.bG,Zy,Zm,ZG,Zx,Zp,Nat.reduceAdd,Zd,Zh,bn,bj,aJ,aU,aR,bm,aZ,bh,bg,bd,aV,ba,bk,aX,aW,aK,aY,ai,aj,aB,aF,aD,ar,aG,aQ,aP,aq,aI,az,aH,av,TV.ev,SV.ev,CV.ev,Zf,Zr,bx.hl];have v0:(pR a R R).i 0=a:=rfl;have w2:(pR a R R).h 2=R:=rfl;have c2:R.cell a 2=some (.int .i64 L.most):=by rw[hL.cell];rfl
  have c21:=hL.Su;obtain⟨x,y,c,hsl,hx,hy⟩:=id hs;obtain⟨m0,m1⟩:=hL.1.most;rw[v0,w2,Y7,show Int.toNat 2=2 from rfl,show Int.toNat 21=21 from rfl,c2,c21,hsl];refine⟨by omega,rfl,rfl,by rw[mm hx];omega,fun _=>⟨[],[],rfl,rfl,⟨⟨fun _=>L.most-n,fun _=>false,fun _=>.empty,fun _=>.tuple #[],fun _=>Hl.none⟩,?_,trivial,trivial⟩,_,R,dp,sl,L,n,rfl,rfl,⟨a,rfl,hL⟩,hs,?_⟩⟩
  all_goals
   show Value.int .i64 (IntKind.i64.wrap (cW (R.cell ((a:Int)).toNat 2)-bM (R.cell ((a:Int)).toNat 21) 2))=Value.int .i64 (L.most-n);rw[Y7,c2,c21,hsl];rw[mm hx];show Value.int .i64 (IntKind.i64.wrap (L.most-(n:Int)))=_;rw[wrap_i64 (by omega) (by omega)]
theorem yX:kY.OK Tryz.prog:=by
 refine Spec.bJ (Γ:=[]) (fun _ h=>by cases h) ?_;rintro xs Hs Rs hl1 hl2 ⟨p,R,dp,sl,L,rfl,rfl,⟨a,rfl,hL⟩⟩;have e0:Hs=[]:=Za.1 hl1;subst e0;refine⟨QX,pR a R R,fun _ _=>True,fun _ _=>0,?_,Bi a R R _ (by simp) (by simp),(fun _ h=>nomatch h),?_⟩
 .show [Value.pointer (aA (a:Int) 0)]=_;rw[iI]
 .show Nd.holds _ _ _ AO;unfold AO;simp only[Nd.holds,X.pre,X.rel,X.n,Src.ok,Src.len,Src.bG,Zy,Zm,ZG,Zx,Zp,Nat.reduceAdd,Zd,Zh,bn,bj,aJ,aU,aR,bm,aZ,bh,bg,bd,aV,ba,bk,aX,aW,aK,aY,ai,aj,aB,aF,aD,ar,aG,aQ,aP,aq,aI,az,aH,av,TV.ev,SV.ev,CV.ev,Zf,Zr,bx.hl];intro q g _;have v0:q.i 0=a:=g.i 0;have w2:q.h 2=R:=g.h 2;have hc:=hL.Oh;rw[v0,w2,Y7,show Int.toNat 5=5 from rfl,show Int.toNat 16=16 from rfl];have er:(bo 2 (E.var 0) (E.lit 5) 0 (List.replicate 16 (Kd.int IntKind.u8))).map (CV.ev q)=bK L.note:=by
   refine ib 16 0 _ hL.1.note fun i z hz=>?_;rw[aj,ai,v0,w2,Y7,ZM];exact hc _ _ hz
  refine⟨by omega,dA hc (by rw[hL.1.note];omega),fun _=>⟨[],[],rfl,rfl,?_,_,R,dp,sl,L,rfl,rfl,⟨a,rfl,hL⟩,?_⟩⟩
  .obtain⟨c,_,_,ec⟩:=dI (qI 16) 0 (bK L.note) ⟨fun _=>0,fun _=>false,fun _=>.empty,fun _=>.tuple #[],fun _=>Hl.none⟩ (jM 16 _ hL.1.note);refine⟨c,?_,de _ _ _ (by decide),trivial⟩;show Value.agg (List.map (CV.ev q) _).toArray=Value.agg ((al 0 (qI 16)).map (CV.ev c)).toArray;rw[er,ec]
  .show Value.agg (List.map (CV.ev q) _).toArray=_;rw[er]
def dt:Sx.Spec where
 fn:=47
 own:=[]
 rd:=[0,1021]
 res:=[.one .sl]
 pre:=fun xs Hs Rs=>∃ p R1 R2 dp sl L bs,xs=[p]/\Rs=[R1,R2]/\fv R1 p dp sl L/\mo R2 sl bs/\bs.length<=1048576
 post:=fun xs Hs Rs v Hs' F=>∃ p R1 R2 dp sl L bs,xs=[p]/\Rs=[R1,R2]/\fv R1 p dp sl L/\mo R2 sl bs/\cH F 5 v bs
def Ak:Nd:=(fun b c d=>(fun a f=>(.and (.e (.le d c)) (.and (.e (.his 2 c b 0 .slice)) (.and (.imp f (.post [.ro 1 [.hP 2 c b 0 0] false,.ro 2 [.var 0] false] (.sv (.one (.sl (.lit (-1)) d d d))))) (.imp (.not f) (.ext (.alloc 3) (.and (.pre a) (.ext a (.post [.ro 1 [.hP 2 c b 0 0] false,.ro 2 [.var 0] false,.hp 4 [] [.var 4,.var 3] []] (.sv (.one (.sl (.var 4) d (.hP 2 c b 0 2) (.var 5))))))))))):Nd)) (.app 4 5 1 1 (.sl (.var 3) d d d) d (.bD 3 [] 5) (.seg 1 (.hP 2 c b 0 0) (.hP 2 c b 0 1) (.hP 2 c b 0 2))) (.eq (.hP 2 c b 0 0) (.lit (-1)))) (.lit 21) (.var 0) (.lit 0)
def Qg:bU Tryz.prog [] dt.fn where
 Λ:=aM
 args:=[TP (.var 0) (.lit 0)]
 mem:=tU
 nv:=3
 nd:=Ak
 ok:=by kernel_rfl
theorem yC:dt.OK Tryz.prog:=by
 refine Spec.bJ (Γ:=[]) (fun _ h=>by cases h) ?_;rintro xs Hs Rs hl1 hl2 ⟨p,R1,R2,dp,sl,L,bs,rfl,rfl,⟨a,rfl,hL⟩,hB,hn⟩;have e0:Hs=[]:=Za.1 hl1;subst e0;refine⟨Qg,pR a R1 R2,fun _ _=>True,fun _ _=>0,?_,Bi a R1 R2 _ (by simp) (by simp),(fun _ h=>nomatch h),?_⟩
 .show [Value.pointer (aA (a:Int) 0)]=_;rw[iI]
 .show Nd.holds _ _ _ Ak;unfold Ak;simp only[Nd.holds,X.pre,X.rel,X.n,Src.ok,Src.len,Src.bG,Zy,Zm,ZG,Zx,Zp,Nat.reduceAdd,Zd,Zh,bn,bj,aJ,aU,aR,bm,aZ,bh,bg,bd,aV,ba,bk,aX,aW,aK,aY,ai,aj,aB,aF,aD,ar,aG,aQ,aP,aq,aI,az,aH,av,TV.ev,SV.ev,CV.ev,Zf,Zr,bx.hl];have c21:=hL.Su;obtain⟨x,y,c,hsl,hy,hc⟩:=id hB;have hx:-1<=x:=by rcases hc with ⟨h,_⟩ | ⟨h,_⟩<;>omega
  have w2:(pR a R1 R2).h 2=R1:=rfl;have v0:(pR a R1 R2).i 0=a:=rfl;have t0:Int.toNat 0=0:=rfl;rw[v0,w2,Y7,show Int.toNat 21=21 from rfl,c21,hsl,yg hx];refine⟨by omega,rfl,fun h=>fun _=>?_,fun h q g p3=>?_⟩
  .have hbs:bs=[]:=by
    rcases hc with ⟨_,h'⟩ | ⟨h',_⟩
    .exact h'
    .omega
   subst hbs;exact⟨[],[],rfl,rfl,⟨⟨fun k=>[-1,0,0,0].getD k 0,fun _=>false,fun _=>.empty,fun _=>.tuple #[],fun _=>Hl.none⟩,rfl,⟨by show(-1:Int)<= -1;omega,Zw _,Zw _,Zw _⟩,trivial⟩,_,R1,R2,dp,sl,L,[],rfl,rfl,⟨a,rfl,hL⟩,hB,⟨rfl,Or.inl ⟨rfl,rfl⟩⟩⟩
  .have hx0:0<=x:=by omega
   have hcell:∀ (j:Nat) (z:Int),bs[j]?=some z->R2.cell x.toNat (y.toNat+j)=some (.int .u8 z):=by
    rcases hc with ⟨h',_⟩ | ⟨_,h'⟩
    .omega
    .exact h'
   have hsl':=hsl;rw[g.i 0,v0,g.h 2,w2,g.h 1,show(pR a R1 R2).h 1=R2 from rfl,Y7,c21,hsl,yg hx,D7 hx0 hy,mm hx,t0,Y7];have hnil:bE (Hl.one (q.i 3).toNat (.cells #[] 5 (0,0))) 5 1 (.slice (aA (q.i 3) 0) 0 0) 0 []:=⟨rfl,Or.inr ⟨(q.i 3).toNat,0,#[],by rw[au p3];rfl,Hl.bF _ _,by omega,by decide,rfl,rfl⟩⟩;refine⟨⟨⟨[],hnil⟩,by omega,Or.inl ⟨hx0,hy,by omega,fun j hj=>?_⟩,by unfold maxLen;omega,by omega⟩,fun q2 g2 ⟨a1,a2,a3,_⟩=>?_⟩
   .exact⟨_,hcell j _ (Y8 hj),rfl⟩
   .have hseg:cJ R2 x.toNat y.toNat bs.length=bK bs:=by
     unfold cJ;apply ZN;intro j;rw[Zs,ft];rcases aaa j bs.length with hj | hj
     .rw[ZI hj,ZS,hcell j _ (Y8 hj),Y8 hj];rfl
     .rw[Zv (by simpa using hj),Zv (by omega)];rfl
    have hx':=a3 _ hnil;rw[hseg,aax,ZM]at hx';have G2:ah 3 (pR a R1 R2) q2:=g.tr g2;have ev:(TV.sv (SV.one (CV.sl (.var 4) (.lit 0) (.hP 2 (.var 0) (.lit 21) 0 2) (.var 5)))).ev q2=.slice (aA (q2.i 4) 0) bs.length (q2.i 5).toNat:=by
     show Value.slice (aA (q2.i 4) 0) (aC q2 (.hP 2 (.var 0) (.lit 21) 0 2)).toNat (q2.i 5).toNat=_;rw[aP,aj,ai,G2.i 0,v0,G2.h 2,w2,Y7,show Int.toNat 21+0=21 from rfl,c21,hsl,mm hx,Y7]
    refine fun _=>⟨[],[2],rfl,rfl,⟨⟨fun k=>[q2.i 4,0,bs.length,q2.i 5].getD k 0,fun _=>false,fun _=>.empty,fun _=>.tuple #[],fun _=>Hl.none⟩,?_,⟨a1,Zw _,by show(0:Int)<=(bs.length:Int);omega,a2⟩,trivial⟩,_,R1,R2,dp,sl,L,bs,rfl,rfl,⟨a,rfl,hL⟩,hB,?_⟩
    .rw[ev];show _=Value.slice (aA (q2.i 4) 0) ((bs.length:Int)).toNat (q2.i 5).toNat;rw[Y7]
    .rw[ev];show cH (dC [q2.h 4]) _ _ _;rw[bz];exact hx'
theorem D5 {q:Env} : ∀ (m n:Nat) (l:List Int),l.length=m->(∀ k,k<m->q.i (n+k)=l.getD k 0)->(al n (List.replicate m (Ck.int .u8))).map (CV.ev q)=bK l
 | 0,n,[],_,_=>rfl
 | m+1,n,z::l,hl,h=>by
  rw[abM];show CV.ev q (.int .u8 (.var n))::(al (n+1) (List.replicate m (Ck.int .u8))).map (CV.ev q)=Value.int .u8 z::bK l;rw[D5 m (n+1) l (by simpa using hl) fun k hk=>by rw[show n+1+k=n+(k+1)by omega,h (k+1) (by omega)];rfl]
  congr 1
  show Value.int .u8 (q.i n)=_;have:=h 0 (by omega);rw[Zp]at this;rw[this];rfl
 | 0,_,_::_,h,_=>by simp at h
 | _+1,_,[],h,_=>by simp at h
def rz (L:LM) (all nt:List Int):List Int:=(L.serial+1)::(all.length:Int)::nt
def cQ (D:DM) (L:LM) (all nt:List Int) (n:Nat):Int×DM :=
 if(gy D L.frm all n).1≠0 then(5,(gy D L.frm all n).2)
 else if(iG (gy D L.frm all n).2 L.frm (rz L all nt)).1≠0 then(5,(iG (gy D L.frm all n).2 L.frm (rz L all nt)).2)
 else(0,(iG (gy D L.frm all n).2 L.frm (rz L all nt)).2)
def nQ (L:LM) (all nt:List Int):LM:=⟨L.frm,L.most,L.serial+1,all.length,nt,L.over⟩
def HU (L:LM):LM:={L with over:=true}
def oK:Sx.Spec where
 fn:=89
 own:=[.arg 0,.arg 1,.link 0 0]
 rd:=[]
 res:=[.one (.int .i64)]
 pre:=fun xs Hs Rs=>∃ p a u all nt H HA HD dp sl L n D,xs=[p,u,.agg (bK nt).toArray,.bool true]/\Hs=[H,HA,HD]/\p=.pointer (some ⟨a,0,none⟩)/\jt H a dp sl L/\qz sl n/\n<=1048576/\cH HA 5 u all/\all.length<=1048576/\nt.length=16/\aO HD dp D/\0<=L.serial/\L.serial<4611686018427387904
 post:=fun xs Hs Rs v Hs' F=>∃ p a u all nt H HA HD dp sl L n D H' HA' HD',xs=[p,u,.agg (bK nt).toArray,.bool true]/\Hs=[H,HA,HD]/\p=.pointer (some ⟨a,0,none⟩)/\jt H a dp sl L/\qz sl n/\cH HA 5 u all/\aO HD dp D/\Hs'=[H',HA',HD']/\aO HD' dp (cQ D L all nt n).2/\v=.int .i64 (cQ D L all nt n).1 /\
  ((cQ D L all nt n).1=0->dW H' p dp (nQ L all nt) all)/\((cQ D L all nt n).1≠0->H'=Hl.one a (iJ dp sl (HU L)))
def vc:Nd:=(fun n j h m q i r p=>(fun a b o g d s=>(fun c f k l=>(.ext (.alloc 61) (.and (.e (.le h q)) (.ext (.alloc 62) (.and (.imp (.bvar 60) (.and (.e (.le h (.var 45))) (.and (.pre f) (.ext f (.and (.imp o (.and (.pre k) (.ext k (.and (.imp (.not (.eq (.var 65) h)) (.post [.bD 0 g 145,.hp 48 [] r [],.hp 65 [63,49] i [],.dead,.dead] p)) (.imp (.eq (.var 65) h) (.post [.bD 0 d 145,.hp 48 [] r [],.hp 65 [63,49] i [],.dead,.dead] s)))))) c))))) (.imp (.not (.bvar 60)) (.and (.pre l) (.ext l (.and c (.imp o (.post [.bD 0 d 145,.hp 48 [] r [],.hp 63 [49] i [],.dead,.dead] s))))))))):Nd)) (.imp (.not o) (.post [.bD 0 g 145,.hp 48 [] r [],.hp 63 [49] i [],.dead,.dead] p)) (.call 0 63 [.sv (.one (.hptr (.var 0) h)),.sv (.one (.sl (.var 1) (.var 2) q (.var 4))),.sv (.one (.int .i64 (.var 45)))] [.hp 49 [] i []] [.bD 0 a 145,.hp 48 [] r []]) (.call 1 65 b [.hp 63 [49] i []] [.bD 0 a 145]) (.call 1 63 b [.hp 49 [] i []] [.bD 0 a 145])) (al 21 (j++List.replicate 16 n++[Ck.sl,Ck.bool])) [.sv (.one (.hptr (.var 0) h)),.sv (.agg ([.int .u64 m,.int .u64 (.wrap .u64 q)]++al 5 (List.replicate 16 n)))] (.eq (.var 63) h) (al 21 (j++List.replicate 16 n++[Ck.sl])++[.bool .tt]) ([.hptr (.var 21) (.var 22),.int .i64 (.var 23),.int .i64 (.var 24),.int .u64 m,.int .u64 (.wrap .u64 q)]++al 5 (List.replicate 16 n)++[.sl (.var 1) (.var 2) q (.var 4),.bool (.bvar 47)]) (.sv (.one (.int .i64 h)))) (Ck.int .u8) [Ck.ptr,Ck.int .i64,Ck.int .i64,Ck.int .u64,Ck.int .u64] (.lit 0) (.wrap .u64 (.add (.var 25) (.lit 1))) (.var 3) [.var 21] [.var 1] (.sv (.one (.int .i64 (.lit 5))))
def oL:List Sx.Spec:=[yI,mj]
theorem El:∀ t∈oL,t.OK Tryz.prog:=fun t ht=>by
 simp only[oL,Zl,Zq,ZO]at ht;rcases ht with rfl | rfl
 .exact K6
 .exact ya
def uC:bU Tryz.prog oL oK.fn where
 Λ:=aM
 args:=[TP (.var 0) (.lit 0),.sv (.one (.sl (.var 1) (.var 2) (.var 3) (.var 4))),.sv (.agg (al 5 (qI 16))),.sv (.one (.bool (.bvar 60)))]
 mem:=[.bD 0 (al 21 px++[.sl (.var 43) (.var 44) (.var 45) (.var 46),.bool (.bvar 47)]) 145,.hp 48 [] [.var 1] [],.hp 49 [] [.var 21] []]
 nv:=61
 nd:=vc
 ok:=by kernel_rfl
theorem Yf:oL[0]?=some yI:=rfl
theorem Yg:oL[1]?=some mj:=rfl
theorem Yh:yI.res=[.one (.int .i64)]:=rfl
theorem Yi:mj.res=[.one (.int .i64)]:=rfl
def Ej (a:Nat) (x:Int) (n c:Nat) (nt:List Int) (da:Nat) (L:LM) (sx sy:Int) (sn sc:Nat) (HA HD:Hl):Env :=
 ⟨fun k=>if k<5 then [(a:Int),x,0,n,c].getD k 0 else if k<21 then nt.getD (k-5) 0 else if k<43 then(gW da L).getD (k-21) 0 else [sx,sy,(sn:Int),(sc:Int)].getD (k-43) 0,fun k=>if k=60 then true else L.over,fun _=>.empty,fun _=>.tuple #[],fun k=>if k=48 then HA else HD⟩
theorem Ek:oK.OK Tryz.prog:=by
 refine jh (Γ:=oL) El ?_;rintro xs Hs Rs hl1 hl2 hdis ⟨p,a,u,all,nt,H,HA,HD,dp,sl,L,n,D,rfl,rfl,rfl,hL,hsl,hn,hO,hall,hnt,hD,hs0,hs1⟩;have e1:Rs=[]:=Za.1 hl2;subst e1;obtain⟨da,s,m,es,clock,hdp,hDi⟩:=id hD;obtain⟨x,c,hx,hu,hc,hcell⟩:=cH.rep hO;obtain⟨sx,sy,sc,hsl',hsx,hsy⟩:=id hsl;have eB:∀ (q:Env),ah 61 (Ej a x all.length c nt da L sx sy n sc HA HD) q->(bx.bD 0 (al 21 px++[.sl (.var 43) (.var 44) (.var 45) (.var 46),.bool (.bvar 47)]) 145).hl q=Hl.one a (iJ dp sl L):=by
  intro q g;have h1:∀ k,k<22->q.i (21+k)=(gW da L).getD k 0:=fun k hk=>by
   rw[g.i _ (by omega)];show(if 21+k<5 then _ else if 21+k<21 then _ else if 21+k<43 then(gW da L).getD (21+k-21) 0 else _)=_;rw[Zo (by omega),Zo (by omega),ZA (by omega),show 21+k-21=k by omega]
  show Hl.one (q.i 0).toNat (.cells ((al 21 px++[CV.sl (.var 43) (.var 44) (.var 45) (.var 46),.bool (.bvar 47)]).map (CV.ev q)).toArray _ (0,0))=_;rw[ZP,uL hL.1 h1,g.i 0];have e1:CV.ev q (.sl (.var 43) (.var 44) (.var 45) (.var 46))=sl:=by
   simp only[CV.ev,aj,g.i 43,g.i 44,g.i 45,g.i 46];rw[hsl'];show Value.slice (aA sx sy) ((n:Int)).toNat ((sc:Int)).toNat=_;rw[Y7,Y7]
  have e2:CV.ev q (.bool (.bvar 47))=.bool L.over:=by
   show Value.bool (q.b 47)=_;rw[g.b 47];rfl
  rw[Zf,Zf,Zr,e1,e2,ZK,<-hdp];rfl
 refine⟨uC,Ej a x all.length c nt da L sx sy n sc HA HD,fun _ _=>True,fun _ _=>0,?_,⟨?_,?_,?_,?_⟩,(fun _ h=>nomatch h),?_⟩
 .show [Value.pointer (aA (a:Int) 0),Value.slice (aA x 0) ((all.length:Int)).toNat ((c:Int)).toNat,Value.agg ((al 5 (qI 16)).map (CV.ev _)).toArray,Value.bool true]=_;unfold qI;rw[iI,Y7,Y7,<-hu,D5 16 5 nt hnt fun k hk=>?_];show(if 5+k<5 then _ else if 5+k<21 then nt.getD (5+k-5) 0 else _)=_;rw[Zo (by omega),ZA (by omega),show 5+k-5=k by omega]
 .intro r hr ho;simp only[uC,Zl,Zq,ZO]at hr;rcases hr with rfl | rfl | rfl
  .refine⟨H,by simp,?_⟩;rw[eB _ (ah.refl _ _)];intro b o hb;obtain⟨rfl,rfl⟩:=Hl.mZ hb;exact hL.2
  .exact⟨HA,by simp,Hl.le_refl _⟩
  .exact⟨HD,by simp,Hl.le_refl _⟩
 .intro r hr ho;simp only[uC,Zl,Zq,ZO]at hr;rcases hr with rfl | rfl | rfl<;>cases ho
 .have d1:H.cG HA:=hdis 0 1 _ _ (by decide) rfl rfl;have d2:H.cG HD:=hdis 0 2 _ _ (by decide) rfl rfl;have d3:HA.cG HD:=hdis 1 2 _ _ (by decide) rfl rfl;have hm:H.mem a:=by unfold Hl.mem;rw[hL.2];rfl
  refine List.Pairwise.cons (fun r hr _ _=>?_) (List.Pairwise.cons (fun r hr _ _=>?_) (List.Pairwise.cons (fun r hr=>by cases hr) List.Pairwise.nil))
  .simp only[Zl,Zq,ZO]at hr;rw[eB _ (ah.refl _ _)];rcases hr with rfl | rfl
   .exact Hl.fH.2 fun h=>d1 a ⟨hm,h⟩
   .exact Hl.fH.2 fun h=>d2 a ⟨hm,h⟩
  .rw[Zn]at hr;subst hr;exact d3
 .intro r hr;simp only[uC,Zl,Zq,ZO]at hr;rcases hr with rfl | rfl | rfl
  .show(0:Int)<=(a:Int);omega
  .trivial
  .trivial
 .show Nd.holds _ _ _ vc;generalize hρ:Ej a x all.length c nt da L sx sy n sc HA HD=ρ at eB ⊢;have v0:ρ.i 0=a:=by rw[<-hρ];rfl
  have v1:ρ.i 1=x:=by rw[<-hρ];rfl
  have v2:ρ.i 2=0:=by rw[<-hρ];rfl
  have v3:ρ.i 3=all.length:=by rw[<-hρ];rfl
  have v4:ρ.i 4=c:=by rw[<-hρ];rfl
  have v45:ρ.i 45=n:=by rw[<-hρ];rfl
  have b60:ρ.b 60=true:=by rw[<-hρ];rfl
  have w48:ρ.h 48=HA:=by rw[<-hρ];rfl
  have w49:ρ.h 49=HD:=by rw[<-hρ];rfl
  have rk:∀ k,k<22->ρ.i (21+k)=(gW da L).getD k 0:=fun k hk=>by
   rw[<-hρ];show(if 21+k<5 then _ else if 21+k<21 then _ else if 21+k<43 then(gW da L).getD (21+k-21) 0 else _)=_;rw[Zo (by omega),Zo (by omega),ZA (by omega),show 21+k-21=k by omega]
  have rn:∀ k,k<16->ρ.i (5+k)=nt.getD k 0:=fun k hk=>by
   rw[<-hρ];show(if 5+k<5 then _ else if 5+k<21 then nt.getD (5+k-5) 0 else _)=_;rw[Zo (by omega),ZA (by omega),show 5+k-5=k by omega]
  unfold vc;simp only[Nd.holds,X.pre,X.rel,X.n,Src.ok,Src.len,Src.bG,Zy,Zm,ZG,Zx,Zp,Nat.reduceAdd,Zd,Zh,bn,bj,aJ,aU,aR,bm,aZ,bh,bg,bd,aV,ba,bk,aX,aW,aK,aY,ai,aj,aB,aF,aD,ar,aG,aQ,aP,aq,aI,az,aH,av,TV.ev,SV.ev,CV.ev,Zf,Zr,bx.hl,cu,Cp.sv,Ck.cv,bf,Cp.len,Ck.len,aE,aN,aT,Yf,Yg,Yh,Yi];intro q1 g1 _;rw[g1.i 3,v3];refine⟨by omega,fun q2 g2 _=>?_⟩;have G2:ah 61 ρ q2:=g1.tr g2;rw[G2.b 60,b60];refine⟨fun _=>?_,fun h=>absurd rfl h⟩;rw[G2.i 0,v0,G2.i 1,v1,G2.i 2,v2,G2.i 3,v3,G2.i 4,v4,G2.i 45,v45,G2.h 48,w48,G2.h 49,w49,iI,Y7,Y7,<-hu];have ls:∀ q:Env,ah 61 ρ q->CV.ev q (.sl (.var 43) (.var 44) (.var 45) (.var 46))=sl:=by
   intro q g;simp only[CV.ev,aj,g.i 43,g.i 44,g.i 45,g.i 46];rw[<-hρ,hsl'];show Value.slice (aA sx sy) ((n:Int)).toNat ((sc:Int)).toNat=_;rw[Y7,Y7]
  have lk:∀ q:Env,ah 61 ρ q->∀ k,k<22->q.i (21+k)=(gW da L).getD k 0:=fun q g k hk=>by rw[g.i _ (by omega)];exact rk k hk
  have eB2:∀ q:Env,ah 61 ρ q->Hl.one a (Obj.cells (List.map (CV.ev q) (al 21 ([Ck.ptr,Ck.int IntKind.i64,Ck.int IntKind.i64,Ck.int IntKind.u64,Ck.int IntKind.u64]++List.replicate 16 (Ck.int IntKind.u8)++[Ck.sl,Ck.bool]))).toArray 145 (0,0))=Hl.one a (iJ dp sl L):=by
   intro q g;have h:Hl.one (q.i 0).toNat (Obj.cells (List.map (CV.ev q) (al 21 ([Ck.ptr,Ck.int IntKind.i64,Ck.int IntKind.i64,Ck.int IntKind.u64,Ck.int IntKind.u64]++List.replicate 16 (Ck.int IntKind.u8)++[Ck.sl,Ck.bool]))).toArray 145 (0,0))=Hl.one a (iJ dp sl L):=eB q g;rw[g.i 0,v0,Y7]at h;exact h
  have eT:∀ q:Env,ah 61 ρ q->(bx.bD 0 (al 21 ([Ck.ptr,Ck.int IntKind.i64,Ck.int IntKind.i64,Ck.int IntKind.u64,Ck.int IntKind.u64]++List.replicate 16 (Ck.int IntKind.u8)++[Ck.sl])++[CV.bool E.tt]) 145).hl q=Hl.one a (iJ dp sl (HU L)):=by
   intro q g;have h:(bx.bD 0 (al 21 ([Ck.ptr,Ck.int IntKind.i64,Ck.int IntKind.i64,Ck.int IntKind.u64,Ck.int IntKind.u64]++List.replicate 16 (Ck.int IntKind.u8)++[Ck.sl])++[CV.bool E.tt]) 145).hl q=Hl.one (q.i 0).toNat (.cells ((al 21 px++[CV.sl (.var 43) (.var 44) (.var 45) (.var 46),.bool .tt]).map (CV.ev q)).toArray 145 (0,0)):=rfl;rw[h,ZP,uL hL.1 (lk q g),g.i 0,v0,Zf,Zf,Zr,ls q g,ZK,<-hdp,Y7];rfl
  have eN:∀ q:Env,ah 61 ρ q->(al 5 (List.replicate 16 (Ck.int IntKind.u8))).map (CV.ev q)=bK nt:=fun q g=>D5 16 5 nt hnt fun k hk=>by rw[g.i _ (by omega)];exact rn k hk
  have i23:∀ q:Env,ah 61 ρ q->q.i 21=da/\q.i 22=0/\q.i 23=L.frm/\q.i 24=L.most/\q.i 25=L.serial:=fun q g=>⟨lk q g 0 (by omega),lk q g 1 (by omega),lk q g 2 (by omega),lk q g 3 (by omega),lk q g 4 (by omega)⟩;have wS:IntKind.u64.wrap (L.serial+1)=L.serial+1:=wrap_u64 (by omega) (by omega);have wL:IntKind.u64.wrap (all.length:Int)=all.length:=wrap_u64 (by omega) (by omega);have eH:∀ q:Env,ah 61 ρ q->List.map (CV.ev q) ([CV.int IntKind.u64 (E.wrap IntKind.u64 ((E.var 25).add (E.lit 1))),CV.int IntKind.u64 (E.wrap IntKind.u64 (E.var 3))]++al 5 (List.replicate 16 (Ck.int IntKind.u8)))=mE (rz L all nt):=by
   intro q g;rw[ZP,eN q g];show [Value.int .u64 (IntKind.u64.wrap (q.i 25+1)),Value.int .u64 (IntKind.u64.wrap (q.i 3))]++bK nt=_;rw[(i23 q g).2.2.2.2,g.i 3,v3,wS,wL];rfl
  have eG:∀ q:Env,ah 61 ρ q->(bx.bD 0 ([CV.hptr (E.var 21) (E.var 22),CV.int IntKind.i64 (E.var 23),CV.int IntKind.i64 (E.var 24),CV.int IntKind.u64 (E.wrap IntKind.u64 ((E.var 25).add (E.lit 1))),CV.int IntKind.u64 (E.wrap IntKind.u64 (E.var 3))]++al 5 (List.replicate 16 (Ck.int IntKind.u8))++[CV.sl (E.var 1) (E.var 2) (E.var 3) (E.var 4),CV.bool (E.bvar 47)]) 145).hl q=Hl.one a (iJ dp u (nQ L all nt)):=by
   intro q g;show Hl.one (q.i 0).toNat (.cells (List.map (CV.ev q) _).toArray _ (0,0))=_;rw[ZP,ZP,eN q g];obtain⟨j0,j1,j2,j3,j4⟩:=i23 q g;have eb:q.b 47=L.over:=by rw[g.b 47,<-hρ];rfl
   show Hl.one (q.i 0).toNat (.cells ([Value.pointer (aA (q.i 21) (q.i 22)),.int .i64 (q.i 23),.int .i64 (q.i 24),.int .u64 (IntKind.u64.wrap (q.i 25+1)),.int .u64 (IntKind.u64.wrap (q.i 3))]++bK nt++[Value.slice (aA (q.i 1) (q.i 2)) (q.i 3).toNat (q.i 4).toNat,.bool (q.b 47)]).toArray _ (0,0))=_;rw[j0,j1,j2,j3,j4,eb,g.i 0,v0,g.i 1,v1,g.i 2,v2,g.i 3,v3,g.i 4,v4,wS,wL,iI,<-hdp,Y7,Y7,Y7,<-hu,ZK];rfl
  have hRd:fv (Hl.one a (iJ dp sl L)) (.pointer (some ⟨a,0,none⟩)) dp sl L:=⟨a,rfl,hL.1,Hl.bF _ _⟩;have bad:∀ (q:Env) (k:Nat) (vs:List Nat) (t:Mem) (r:Int×DM),ah 61 ρ q->cQ D L all nt n=r->r.1=5->aO (q.h k) dp r.2 ->
   postOf oK [.pointer (some ⟨a,0,none⟩),u,.agg (bK nt).toArray,.bool true] [H,HA,HD] [] q (.bD 0 (al 21 ([Ck.ptr,Ck.int IntKind.i64,Ck.int IntKind.i64,Ck.int IntKind.u64,Ck.int IntKind.u64]++List.replicate 16 (Ck.int IntKind.u8)++[Ck.sl])++[CV.bool E.tt]) 145::.hp 48 [] [.var 1] []::.hp k vs [.var 21] []::t) (.sv (.one (.int .i64 (.lit 5)))):=by
   intro q k vs t r hq hr h5 hd _;refine⟨[[0],[1],[2]],[],rfl,rfl,⟨⟨fun _=>5,fun _=>false,fun _=>.empty,fun _=>.tuple #[],fun _=>Hl.none⟩,rfl,trivial,trivial⟩,_,a,u,all,nt,H,HA,HD,dp,sl,L,n,D,_,_,_,rfl,rfl,rfl,hL,hsl,hO,hD,rfl,?_,?_,fun h=>?_,fun _=>?_⟩
   .show aO (dC [q.h k]) _ _;rw[bz,hr];exact hd
   .rw[hr,h5];rfl
   .rw[hr,h5]at h;cases h
   .show dC [_]=_;rw[bz];exact eT q hq
  rw[Y7,eB2 q2 G2];refine⟨by omega,⟨_,u,all,n,HD,_,HA,dp,sl,L,D,rfl,rfl,rfl,hRd,hO,hD,by omega,by omega,by omega⟩,fun q3 g3 ⟨F,⟨p',u',all',fr',Hx,R1,R2,dp',sl',L',Dx,H2,hx,hH,hR,hLx,hOx,hDx,hH2,hD2,hvq⟩,_,_⟩=>?_⟩;have hx:Value.pointer (some ⟨a,0,none⟩)=p'/\u=u'/\(n:Int)=fr':=by simpa using hx
  obtain⟨rfl,rfl,rfl⟩:=hx;have hH:HD=Hx:=by simpa using hH
  subst hH;have hR:Hl.one a (iJ dp sl L)=R1/\HA=R2:=by simpa using hR
  obtain⟨rfl,rfl⟩:=hR;obtain⟨rfl,rfl,rfl⟩:=hRd.uniq hLx;have e:=hOx.rd.uniq hO.rd;subst e;have e:=hDx.uniq hD;subst e;have hH2:q3.h 63=H2:=by simpa using hH2
  rw[<-hH2]at hD2;have hvq:q3.i 63=(gy Dx L.frm all' n).1:=by simpa using hvq
  have G3:ah 61 ρ q3:=G2.tr g3;rw[G3.i 0,v0,iI,Y7,eB2 q3 G3,eH q3 G3];have hNH:qf (rz L all' nt):=⟨by simp [rz,hnt],⟨by show 0<=L.serial+1;omega,by show L.serial+1<_;omega⟩,by show(0:Int)<=(all'.length:Int);omega,by show(all'.length:Int)<_;omega⟩;refine⟨fun h63=>⟨⟨_,_,_,_,dp,sl,L,_,rfl,rfl,rfl,hRd,hD2,hNH⟩,fun q4 g4 ⟨F,⟨p',h',Hx,R1,dp',sl',L',Dy,H3,hx,hH,hR,hLy,hDy,hh',hH3,hD3,hvt⟩,_,_⟩=>?_⟩,fun h63=>bad q3 63 _ _ (5,(gy Dx L.frm all' n).2) G3 (by unfold cQ;rw[ZA (by rw[<-hvq];exact h63)]) rfl hD2⟩;have hx:Value.pointer (some ⟨a,0,none⟩)=p'/\Value.agg (mE (rz L all' nt)).toArray=Value.agg (mE h').toArray:=by simpa using hx
  obtain⟨rfl,hx2⟩:=hx;have e:=NW hNH.1 hh'.1 hx2;subst e;have hH:q3.h 63=Hx:=by simpa using hH
  subst hH;have hR:Hl.one a (iJ dp sl L)=R1:=by simpa using hR
  subst hR;obtain⟨rfl,rfl,rfl⟩:=hRd.uniq hLy;have e:=hDy.uniq hD2;subst e;have hH3:q4.h 65=H3:=by simpa using hH3
  rw[<-hH3]at hD3;have hvt:q4.i 65=(iG (gy Dx L.frm all' n).2 L.frm (rz L all' nt)).1:=by simpa using hvt
  have G4:ah 61 ρ q4:=G3.tr g4;have hnb:¬(gy Dx L.frm all' n).1≠0:=by rw[<-hvq,h63];simp
  refine⟨fun h65=>bad q4 65 _ _ (5,(iG (gy Dx L.frm all' n).2 L.frm (rz L all' nt)).2) G4 (by unfold cQ;rw[Zo hnb,ZA (by rw[<-hvt];exact h65)]) rfl hD3,fun h65 hd=>?_⟩;have hr:cQ Dx L all' nt n=(0,(iG (gy Dx L.frm all' n).2 L.frm (rz L all' nt)).2):=by
   unfold cQ;rw[Zo hnb,Zo (by rw[<-hvt,h65];simp)]
  have hd01:=hd 0 1 _ _ (by decide) rfl rfl rfl;rw[eG q4 G4]at hd01;refine⟨[[0,1],[],[2]],[],rfl,rfl,⟨⟨fun _=>0,fun _=>false,fun _=>.empty,fun _=>.tuple #[],fun _=>Hl.none⟩,rfl,trivial,trivial⟩,_,a,u,all',nt,H,HA,HD,dp,sl,L,n,Dx,_,_,_,rfl,rfl,rfl,hL,hsl,hO,hD,rfl,?_,?_,fun _=>?_,fun h=>?_⟩
  .show aO (dC [q4.h 65]) _ _;rw[bz,hr];exact hD3
  .rw[hr];rfl
  .have e48:q4.h 48=HA:=by rw[G4.h 48,w48]
   have hd01:(Hl.one a (iJ dp u (nQ L all' nt))).cG (q4.h 48):=hd01;rw[e48]at hd01;refine⟨a,u,HA,rfl,⟨hL.1.frm,hL.1.most,hnt⟩,hO,hd01,?_⟩;rw[<-e48];exact ZW (fun z=>dC [z,q4.h 48]) (eG q4 G4)
  .rw[hr]at h;exact absurd rfl h
structure AR where
 e:Int
 D:DM
 L:LM
 bs:List Int
def bW (D:DM) (L:LM) (bs b nt:List Int):AR :=
 if L.over then⟨5,D,L,bs⟩
 else if 4611686018427387904<=L.serial then⟨14,D,L,bs⟩
 else if L.most-bs.length<b.length then⟨4,D,L,bs⟩
 else if(cQ D L (bs++b) nt bs.length).1=0 then⟨0,(cQ D L (bs++b) nt bs.length).2,nQ L (bs++b) nt,bs++b⟩
 else⟨5,(cQ D L (bs++b) nt bs.length).2,HU L,bs⟩
theorem Ac (D:DM) (L:LM) (all nt:List Int) (n:Nat):(cQ D L all nt n).1=0\/(cQ D L all nt n).1=5:=by
 unfold cQ;split
 .exact Or.inr rfl
 .split
  .exact Or.inr rfl
  .exact Or.inl rfl
def mw:Sx.Spec where
 fn:=53
 own:=[.arg 0,.link 0 0]
 rd:=[1]
 res:=[.one (.int .i64)]
 pre:=fun xs Hs Rs=>∃ p u b nt H HD R dp L bs D,xs=[p,u,.agg (bK nt).toArray]/\Hs=[H,HD]/\Rs=[R]/\dW H p dp L bs/\aO HD dp D/\fp R u b/\bs.length<=1048576/\nt.length=16/\0<=L.serial
 post:=fun xs Hs Rs v Hs' F=>∃ p u b nt H HD R dp L bs D H' HD',xs=[p,u,.agg (bK nt).toArray]/\Hs=[H,HD]/\Rs=[R]/\dW H p dp L bs/\aO HD dp D/\fp R u b/\Hs'=[H',HD']/\aO HD' dp (bW D L bs b nt).D/\dW H' p dp (bW D L bs b nt).L (bW D L bs b nt).bs/\v=.int .i64 (bW D L bs b nt).e
def uY:Nd:=(fun a j f h=>(fun b c d g i=>(.ext (.alloc 51) (.and (.imp (.bvar 47) (.post c (.sv (.one (.int .i64 (.lit 5)))))) (.imp (.not (.bvar 47)) (.and (.imp h (.post c (.sv (.one (.int .i64 (.lit 14)))))) (.imp (.not h) (.and (.e (.le (.lit 0) j)) (.and (.pre i) (.ext i (.and (.imp (.lt (.var 52) j) (.post c (.sv (.one (.int .i64 (.lit 4)))))) (.imp (.not (.lt (.var 52) j)) (.and (.pre g) (.ext g (.and (.pre d) (.ext d (.and (.pre b) (.ext b (.post [.hp 59 [] [.var 0] [],.hp 61 [48] [.var 21] [],.hp 49 [] [.var 43] [],.ro 50 [.var 1] false,.dead,.hp 60 [57,53] [.var 57,.var 53] []] (.sv (.one (.int .i64 (.var 59)))))))))))))))))))):Nd)) (.call 2 59 [.sv f,.sv (.one (.sl (.var 57) (.lit 0) (.add (.var 55) j) (.var 58))),.sv (.agg (al 5 (List.replicate 16 (Ck.int .u8)))),.sv (.one (.bool .tt))] [.bD 0 a 145,.hp 57 [53] [.var 57,.var 53] [],.hp 48 [] [.var 21] []] []) [.bD 0 a 145,.hp 48 [] [.var 21] [],.hp 49 [] [.var 43] [],.ro 50 [.var 1] false,.dead] (.app 57 5 1 1 (.sl (.var 53) (.var 54) (.var 55) (.var 56)) (.var 55) (.hp 53 [] [.var 53] []) (.seg 50 (.var 1) (.var 2) j)) (.call 1 53 [.sv f] [] [.bD 0 a 145,.hp 49 [] [.var 43] []]) (.call 0 52 [.sv f] [] [.bD 0 a 145])) (al 21 ([Ck.ptr,Ck.int .i64,Ck.int .i64,Ck.int .u64,Ck.int .u64]++List.replicate 16 (Ck.int .u8)++[Ck.sl,Ck.bool])) (.var 3) (.one (.hptr (.var 0) (.lit 0))) (.le (.lit 4611686018427387904) (.var 25))
def my:List Sx.Spec:=[pT,dt,oK]
theorem Eh:∀ t∈my,t.OK Tryz.prog:=fun t ht=>by
 simp only[my,Zl,Zq,ZO]at ht;rcases ht with rfl | rfl | rfl
 .exact DF
 .exact yC
 .exact Ek
def uA:bU Tryz.prog my mw.fn where
 Λ:=aM
 args:=[TP (.var 0) (.lit 0),.sv (.one (.sl (.var 1) (.var 2) (.var 3) (.var 4))),.sv (.agg (al 5 (qI 16)))]
 mem:=[.bD 0 (al 21 px++[.sl (.var 43) (.var 44) (.var 45) (.var 46),.bool (.bvar 47)]) 145,.hp 48 [] [.var 21] [],.hp 49 [] [.var 43] [],.ro 50 [.var 1] false]
 nv:=51
 nd:=uY
 ok:=by kernel_rfl
theorem X8:my[0]?=some pT:=rfl
theorem X9:my[1]?=some dt:=rfl
theorem Ya:my[2]?=some oK:=rfl
theorem Yc:pT.res=[.one (.int .i64)]:=rfl
theorem Yd:dt.res=[.one .sl]:=rfl
theorem Ye:oK.res=[.one (.int .i64)]:=rfl
theorem X7:(br 0 [Cp.one .sl]≠[])=True:=by simp [br,Cp.roots,Ck.root]
def PU (a:Nat) (x y:Int) (n c:Nat) (nt:List Int) (da:Nat) (L:LM) (sx:Int) (sn sc:Nat) (HD HB R:Hl):Env :=
 ⟨fun k=>if k<5 then [(a:Int),x,y,n,c].getD k 0 else if k<21 then nt.getD (k-5) 0 else if k<43 then(gW da L).getD (k-21) 0 else [sx,0,(sn:Int),(sc:Int)].getD (k-43) 0,fun _=>L.over,fun _=>.empty,fun _=>.tuple #[],fun k=>if k=48 then HD else if k=49 then HB else R⟩
theorem Ef:mw.OK Tryz.prog:=by
 refine jh (Γ:=my) Eh ?_;rintro xs Hs Rs hl1 hl2 hdis ⟨p,u,b,nt,H,HD,R,dp,L,bs,D,rfl,rfl,rfl,hAt,hD,hB,hbs,hnt,hs0⟩;obtain⟨a,sl,HB,rfl,hok,hO,hone,hH⟩:=id hAt;obtain⟨da,s,m,es,clock,hdp,hDi⟩:=id hD;obtain⟨x,y,c,hu,hy,hcell⟩:=id hB;obtain⟨sx,sc,hsx,hsl,hsc,_⟩:=cH.rep hO;generalize hρ:PU a x y b.length c nt da L sx bs.length sc HD HB R=ρ;have v0:ρ.i 0=a:=by rw[<-hρ];rfl
 have v1:ρ.i 1=x:=by rw[<-hρ];rfl
 have v2:ρ.i 2=y:=by rw[<-hρ];rfl
 have v3:ρ.i 3=b.length:=by rw[<-hρ];rfl
 have v4:ρ.i 4=c:=by rw[<-hρ];rfl
 have w48:ρ.h 48=HD:=by rw[<-hρ];rfl
 have w49:ρ.h 49=HB:=by rw[<-hρ];rfl
 have w50:ρ.h 50=R:=by rw[<-hρ];rfl
 have b47:ρ.b 47=L.over:=by rw[<-hρ];rfl
 have rk:∀ k,k<22->ρ.i (21+k)=(gW da L).getD k 0:=fun k hk=>by
  rw[<-hρ];show(if 21+k<5 then _ else if 21+k<21 then _ else if 21+k<43 then(gW da L).getD (21+k-21) 0 else _)=_;rw[Zo (by omega),Zo (by omega),ZA (by omega),show 21+k-21=k by omega]
 have rn:∀ k,k<16->ρ.i (5+k)=nt.getD k 0:=fun k hk=>by
  rw[<-hρ];show(if 5+k<5 then _ else if 5+k<21 then nt.getD (5+k-5) 0 else _)=_;rw[Zo (by omega),ZA (by omega),show 5+k-5=k by omega]
 have lk:∀ q:Env,ah 51 ρ q->∀ k,k<22->q.i (21+k)=(gW da L).getD k 0:=fun q g k hk=>by rw[g.i _ (by omega)];exact rk k hk
 have ls:∀ q:Env,ah 51 ρ q->CV.ev q (.sl (.var 43) (.var 44) (.var 45) (.var 46))=sl:=by
  intro q g;simp only[CV.ev,aj,g.i 43,g.i 44,g.i 45,g.i 46];rw[<-hρ,hsl];show Value.slice (aA sx 0) ((bs.length:Int)).toNat ((sc:Int)).toNat=_;rw[Y7,Y7]
 have eB:∀ (q:Env),ah 51 ρ q->(bx.bD 0 (al 21 px++[.sl (.var 43) (.var 44) (.var 45) (.var 46),.bool (.bvar 47)]) 145).hl q=Hl.one a (iJ dp sl L):=by
  intro q g;show Hl.one (q.i 0).toNat (.cells ((al 21 px++[CV.sl (.var 43) (.var 44) (.var 45) (.var 46),.bool (.bvar 47)]).map (CV.ev q)).toArray _ (0,0))=_;have e2:CV.ev q (.bool (.bvar 47))=.bool L.over:=by
   show Value.bool (q.b 47)=_;rw[g.b 47,b47]
  rw[ZP,uL hok (lk q g),g.i 0,v0,Zf,Zf,Zr,ls q g,e2,ZK,<-hdp,Y7];rfl
 have hle1:(Hl.one a (iJ dp sl L)).le H:=by rw[hH];exact Hl.cC _ _
 have hle2:HB.le H:=by
  rw[hH];show HB.le ((Hl.one a (iJ dp sl L)).un (dC [HB]));rw[bz];exact Hl.cD hone
 have hHD:H.cG HD:=hdis 0 1 _ _ (by decide) rfl rfl;refine⟨uA,ρ,fun _ _=>True,fun _ _=>0,?_,⟨?_,?_,?_,?_⟩,(fun _ h=>nomatch h),?_⟩
 .show [Value.pointer (aA (ρ.i 0) 0),Value.slice (aA (ρ.i 1) (ρ.i 2)) (ρ.i 3).toNat (ρ.i 4).toNat,Value.agg ((al 5 (qI 16)).map (CV.ev ρ)).toArray]=_;unfold qI;rw[v0,v1,v2,v3,v4,iI,Y7,Y7,<-hu,D5 16 5 nt hnt rn]
 .intro r hr ho;simp only[uA,Zl,Zq,ZO]at hr;rcases hr with rfl | rfl | rfl | rfl
  .refine⟨H,by simp,?_⟩;rw[eB ρ (ah.refl _ _)];exact hle1
  .refine⟨HD,by simp,?_⟩;show(ρ.h 48).le HD;rw[w48];exact Hl.le_refl _
  .refine⟨H,by simp,?_⟩;show(ρ.h 49).le H;rw[w49];exact hle2
  .cases ho
 .intro r hr ho;simp only[uA,Zl,Zq,ZO]at hr;rcases hr with rfl | rfl | rfl | rfl
  .cases ho
  .cases ho
  .cases ho
  .refine⟨R,by simp,?_⟩;show(ρ.h 50).le R;rw[w50];exact Hl.le_refl _
 .have d1:HD.cG HB:=fun k ⟨h1,h2⟩=>hHD k ⟨Hl.dU hle2 h2,h1⟩;refine List.Pairwise.cons (fun r hr _ ho=>?_) (List.Pairwise.cons (fun r hr _ ho=>?_) (List.Pairwise.cons (fun r hr _ ho=>?_) (List.Pairwise.cons (fun r hr=>by cases hr) List.Pairwise.nil)))
  .simp only[Zl,Zq,ZO]at hr;rw[eB ρ (ah.refl _ _)];rcases hr with rfl | rfl | rfl
   .show Hl.cG _ (ρ.h 48);rw[w48];exact fun k ⟨h1,h2⟩=>hHD k ⟨Hl.dU hle1 h1,h2⟩
   .show Hl.cG _ (ρ.h 49);rw[w49];exact hone
   .cases ho
  .simp only[Zl,Zq,ZO]at hr;rcases hr with rfl | rfl
   .show(ρ.h 48).cG (ρ.h 49);rw[w48,w49];exact d1
   .cases ho
  .rw[Zn]at hr;subst hr;cases ho
 .intro r hr;simp only[uA,Zl,Zq,ZO]at hr;rcases hr with rfl | rfl | rfl | rfl
  .show(0:Int)<=ρ.i 0;rw[v0];omega
  .trivial
  .trivial
  .trivial
 .show Nd.holds _ _ _ uY;have eB2:∀ q:Env,ah 51 ρ q->Hl.one a (Obj.cells (List.map (CV.ev q) (al 21 ([Ck.ptr,Ck.int IntKind.i64,Ck.int IntKind.i64,Ck.int IntKind.u64,Ck.int IntKind.u64]++List.replicate 16 (Ck.int IntKind.u8)++[Ck.sl,Ck.bool]))).toArray 145 (0,0))=Hl.one a (iJ dp sl L):=by
   intro q g;have h:Hl.one (q.i 0).toNat (Obj.cells (List.map (CV.ev q) (al 21 ([Ck.ptr,Ck.int IntKind.i64,Ck.int IntKind.i64,Ck.int IntKind.u64,Ck.int IntKind.u64]++List.replicate 16 (Ck.int IntKind.u8)++[Ck.sl,Ck.bool]))).toArray 145 (0,0))=Hl.one a (iJ dp sl L):=eB q g;rw[g.i 0,v0,Y7]at h;exact h
  have eN:∀ q:Env,ah 51 ρ q->(al 5 (List.replicate 16 (Ck.int IntKind.u8))).map (CV.ev q)=bK nt:=fun q g=>D5 16 5 nt hnt fun k hk=>by rw[g.i _ (by omega)];exact rn k hk
  have i25:∀ q:Env,ah 51 ρ q->q.i 25=L.serial:=fun q g=>lk q g 4 (by omega);have hIn:jt (Hl.one a (iJ dp sl L)) a dp sl L:=⟨hok,Hl.bF _ _⟩;have hRd:fv (Hl.one a (iJ dp sl L)) (.pointer (some ⟨a,0,none⟩)) dp sl L:=⟨a,rfl,hIn⟩;have hslO:qz sl bs.length:=cH.qz hO;obtain⟨m0,m1⟩:=hok.most;have out:∀ (q:Env) (t:Mem) (e:Int),ah 51 ρ q->bW D L bs b nt=⟨e,D,L,bs⟩ ->
   postOf mw [.pointer (some ⟨a,0,none⟩),u,.agg (bK nt).toArray] [H,HD] [R] q (.bD 0 (al 21 ([Ck.ptr,Ck.int IntKind.i64,Ck.int IntKind.i64,Ck.int IntKind.u64,Ck.int IntKind.u64]++List.replicate 16 (Ck.int IntKind.u8)++[Ck.sl,Ck.bool])) 145::.hp 48 [] [.var 21] []::.hp 49 [] [.var 43] []::t) (.sv (.one (.int .i64 (.lit e)))):=by
   intro q t e hq hr _;refine⟨[[0,2],[1]],[],rfl,rfl,⟨⟨fun _=>e,fun _=>false,fun _=>.empty,fun _=>.tuple #[],fun _=>Hl.none⟩,rfl,trivial,trivial⟩,_,u,b,nt,H,HD,R,dp,L,bs,D,_,_,rfl,rfl,rfl,hAt,hD,hB,rfl,?_,?_,?_⟩
   .show aO (dC [q.h 48]) _ _;rw[bz,hr,hq.h 48,w48];exact hD
   .rw[hr];refine⟨a,sl,HB,rfl,hok,hO,hone,?_⟩;have e49:q.h 49=HB:=by rw[hq.h 49,w49]
    rw[<-e49];exact ZW (fun z=>dC [z,q.h 49]) (eB q hq)
   .rw[hr];rfl
  unfold uY;simp only[Nd.holds,X.pre,X.rel,X.n,Src.ok,Src.len,Src.bG,Zy,Zm,ZG,Zx,Zp,Nat.reduceAdd,Zd,Zh,bn,bj,aJ,aU,aR,bm,aZ,bh,bg,bd,aV,ba,bk,aX,aW,aK,aY,ai,aj,aB,aF,aD,ar,aG,aQ,aP,aq,aI,az,aH,av,TV.ev,SV.ev,CV.ev,Zf,Zr,bx.hl,cu,Cp.sv,Ck.cv,bf,Cp.len,Ck.len,aE,aN,aT,X8,X9,Ya,Yc,Yd,Ye,X7];intro q1 g1 _;rw[g1.b 47,b47,i25 q1 g1,g1.i 3,v3,g1.i 0,v0,iI,Y7,eB2 q1 g1];refine⟨fun ho=>out q1 _ 5 g1 ?_,fun ho=>⟨fun hs=>out q1 _ 14 g1 ?_,fun hs=>⟨by omega,⟨_,_,dp,sl,L,bs.length,rfl,rfl,hRd,hslO,hbs⟩,fun q2 g2 ⟨F,⟨p',R',dp',sl',L',n',hx,hR,hLx,hsx',hvq⟩,_,_⟩=>?_⟩⟩⟩
  .unfold bW;rw[ZA ho]
  .unfold bW;rw[Zo ho,ZA hs]
  have hx:Value.pointer (some ⟨a,0,none⟩)=p':=by simpa using hx
  subst hx;have hR:Hl.one a (iJ dp sl L)=R':=by simpa using hR
  subst hR;obtain⟨rfl,rfl,rfl⟩:=hRd.uniq hLx;have e:=hsx'.uniq hslO;subst e;have hvq:q2.i 52=L.most-bs.length:=by simpa using hvq
  have G2:ah 51 ρ q2:=g1.tr g2;rw[hvq,G2.i 3,v3];refine⟨fun hlt=>out q2 _ 4 G2 ?_,fun hlt=>?_⟩
  .unfold bW;rw[Zo ho,Zo hs,ZA hlt]
  rw[G2.i 0,v0,iI,Y7,eB2 q2 G2,G2.h 49,w49];refine⟨⟨_,_,_,dp,sl,L,bs,rfl,rfl,hRd,hO.rd,hbs⟩,fun q3 g3 ⟨F,⟨p',R1,R2,dp',sl',L',bs',hx,hR,hLx,hBx,hO3⟩,hF,hn3⟩=>?_⟩;have hx:Value.pointer (some ⟨a,0,none⟩)=p':=by simpa using hx
  subst hx;have hR:Hl.one a (iJ dp sl L)=R1/\HB=R2:=by simpa using hR
  obtain⟨rfl,rfl⟩:=hR;obtain⟨rfl,rfl,rfl⟩:=hRd.uniq hLx;have e:=hBx.uniq hO.rd;subst e;have hF:=hF trivial;subst hF;obtain⟨⟨n53,n54,n55,n56⟩,_⟩:=hn3;have n54:0<=q3.i 54:=n54;have n55:0<=q3.i 55:=n55;obtain⟨e55,_⟩:=hO3.rd.at n53 n54 n55;have G3:ah 51 ρ q3:=G2.tr g3;rw[G3.i 1,v1,G3.i 2,v2,G3.i 3,v3,G3.h 50,w50,e55];rw[e55]at hO3;have hO3':bE (q3.h 53) 5 1 (.slice (aA (q3.i 53) (q3.i 54)) ((bs'.length:Int)).toNat (q3.i 56).toNat) ((bs'.length:Int)).toNat (bK bs'):=by
   unfold cH at hO3;rw[Y7]at hO3 ⊢;exact hO3
  have hsum:(bs'.length:Int)+b.length<=1048576:=by omega
  refine⟨⟨⟨_,hO3'⟩,by omega,?_,by unfold maxLen;omega,by omega⟩,fun q4 g4 ⟨a1,a2,a3,_⟩=>?_⟩
  .rcases hcell with hb | ⟨hx0,hcell⟩
   .subst hb;exact Or.inr rfl
   .refine Or.inl ⟨hx0,hy,by omega,fun j hj=>?_⟩;have hj:j<b.length:=by omega
    exact⟨_,hcell j _ (Y8 hj),rfl⟩
  have hseg:cJ R x.toNat y.toNat ((b.length:Int)).toNat=bK b:=by
   rw[Y7];unfold cJ;apply ZN;intro j;rw[Zs,ft];rcases aaa j b.length with hj | hj
   .rcases hcell with hb | ⟨hx0,hcell⟩
    .subst hb;cases hj
    .rw[ZI hj,ZS,hcell j _ (Y8 hj),Y8 hj];rfl
   .rw[Zv (by simpa using hj),Zv (by omega)];rfl
  have hx4:=a3 _ hO3';rw[hseg]at hx4;have G4:ah 51 ρ q4:=G3.tr g4;have x55:q4.i 55=bs'.length:=by rw[g4.i 55,e55]
  have hO4:cH (q4.h 57) 5 (.slice (aA (q4.i 57) 0) ((bs'.length:Int)+b.length).toNat (q4.i 58).toNat) (bs'++b):=by
   unfold cH;rw[fY,Y9];rw[show((bs'.length:Int)+b.length).toNat=bs'.length+b.length by omega];rw[Y7,Y7]at hx4;exact hx4
  rw[G4.i 0,v0,iI,Y7,eB2 q4 G4,eN q4 G4,x55,G4.i 3,v3,G4.h 48,w48];refine⟨⟨_,a,_,bs'++b,nt,_,_,HD,dp,sl,L,bs'.length,D,rfl,rfl,rfl,hIn,hslO,hbs,hO4,by rw[Y9];omega,hnt,hD,hs0,by omega⟩,fun q5 g5 ⟨F,⟨p',a',u',all',nt',H1,HA,HDx,dp',sl',L',n',D',H',HA',HD',hx,hH,hp,hLx,hsx',hOx,hDx,hHs,hDy,hvb,hok0,hbad⟩,_,_⟩=>?_⟩;have hx:Value.pointer (some ⟨a,0,none⟩)=p'/\Value.slice (aA (q4.i 57) 0) ((bs'.length:Int)+b.length).toNat (q4.i 58).toNat=u'/\bK nt=bK nt'/\bN q4 E.tt=true:=by simpa using hx
  obtain⟨hx1,hx2,hx3,_⟩:=hx;have hx3:=jy hx3;subst hx1 hx2 hx3;have hH:Hl.one a (iJ dp sl L)=H1/\q4.h 57=HA/\HD=HDx:=by simpa using hH
  obtain⟨hH1,hH2,hH3⟩:=hH;subst hH1 hH2 hH3;have hp:a=a':=by simpa using hp
  subst hp;obtain⟨rfl,rfl,rfl⟩:=fv.uniq hRd ⟨a,rfl,hLx⟩;have e:=hsx'.uniq hslO;subst e;have e:=hOx.rd.uniq hO4.rd;subst e;have e:=hDx.uniq hD;subst e;have hHs:q5.h 59=H'/\q5.h 60=HA'/\q5.h 61=HD':=by
   have h1:[q5.h 59,q5.h 60,q5.h 61]=[H',HA',HD']:=hHs;simpa using h1
  obtain⟨h59,h60,h61⟩:=hHs;have hvb:q5.i 59=(cQ D' L (bs'++b) nt bs'.length).1:=by simpa using hvb
  have G5:ah 51 ρ q5:=G4.tr g5;have e49:q5.h 49=HB:=by rw[G5.h 49,w49]
  intro hd;by_cases hz:(cQ D' L (bs'++b) nt bs'.length).1=0
  .have hr:bW D' L bs' b nt=⟨0,(cQ D' L (bs'++b) nt bs'.length).2,nQ L (bs'++b) nt,bs'++b⟩:=by
    unfold bW;rw[Zo ho,Zo hs,Zo hlt,ZA hz]
   refine⟨[[0],[1]],[],rfl,rfl,⟨⟨fun _=>q5.i 59,fun _=>false,fun _=>.empty,fun _=>.tuple #[],fun _=>Hl.none⟩,rfl,trivial,trivial⟩,_,u,b,nt,H,HD,R,dp,L,bs',D',_,_,rfl,rfl,rfl,hAt,hD,hB,rfl,?_,?_,?_⟩
   .show aO (dC [q5.h 61]) _ _;rw[bz,hr,h61];exact hDy
   .show dW (dC [q5.h 59]) _ _ _ _;rw[bz,hr,h59];exact hok0 hz
   .show Value.int .i64 (q5.i 59)=_;rw[hr,hvb,hz]
  .have h5:=(Ac D' L (bs'++b) nt bs'.length).resolve_left hz;have hr:bW D' L bs' b nt=⟨5,(cQ D' L (bs'++b) nt bs'.length).2,HU L,bs'⟩:=by
    unfold bW;rw[Zo ho,Zo hs,Zo hlt,Zo hz]
   have hd02:(q5.h 59).cG (q5.h 49):=hd 0 2 _ _ (by decide) rfl rfl rfl;have hH':=hbad hz;rw[h59,hH',e49]at hd02;refine⟨[[0,2],[1]],[],rfl,rfl,⟨⟨fun _=>q5.i 59,fun _=>false,fun _=>.empty,fun _=>.tuple #[],fun _=>Hl.none⟩,rfl,trivial,trivial⟩,_,u,b,nt,H,HD,R,dp,L,bs',D',_,_,rfl,rfl,rfl,hAt,hD,hB,rfl,?_,?_,?_⟩
   .show aO (dC [q5.h 61]) _ _;rw[bz,hr,h61];exact hDy
   .rw[hr];refine⟨a,sl,HB,rfl,⟨hok.frm,hok.most,hok.note⟩,hO,hd02,?_⟩;show dC [q5.h 59,q5.h 49]=_;rw[h59,hH',e49]
   .show Value.int .i64 (q5.i 59)=_;rw[hr,hvb,h5]
structure pt (D:DM):Prop where
 ok:D.ok
 fuse:D.fuse= -1
 gone:D.gone=false
theorem pd {D:DM} (h:pt D) {i:Int} (hi:D.has i=true) {bs:List Int} (hb:bs.length=64):pt (pz D i bs):=⟨H0 h.ok hi hb,by show(if 0<D.fuse then D.fuse-1 else D.fuse)= -1;rw[h.fuse];rfl,rfl⟩
theorem kQ {D:DM} (h:pt D) {i:Int} (hi:D.has i=true) {bs:List Int} (hb:bs.length=64):dO D i bs=(0,pz D i bs):=by
 unfold dO;rw[Zo (by rw[hi,hb];simp),Zo (by rw[h.gone];simp),Zo (by rw[h.fuse];decide)]
theorem iO {D:DM} (h:pt D):(dm D).1=0/\pt (dm D).2/\(dm D).2.now=D.now/\(dm D).2.n=D.n:=by
 have e:dm D=(0,⟨D.n,D.now,[],if 0<D.fuse then D.fuse-1 else D.fuse,D.gone⟩):=by
  unfold dm;rw[Zo (by rw[h.gone];simp),Zo (by rw[h.fuse];decide)]
 rw[e];refine⟨rfl,⟨⟨h.ok.now,h.ok.n,?_,?_,fun p hp=>by cases hp⟩,?_,h.gone⟩,rfl,rfl⟩
 .show -1<=(if 0<D.fuse then D.fuse-1 else D.fuse);rw[h.fuse];decide
 .show(if 0<D.fuse then D.fuse-1 else D.fuse)<=_;rw[h.fuse];decide
 .show(if 0<D.fuse then D.fuse-1 else D.fuse)= -1;rw[h.fuse];rfl
theorem xm {D:DM} (h:D.ok) {i:Int} (hi:D.has i=true) {bs:List Int} (hb:bs.length=64) (j:Nat):(pz D i bs).now[j]?=if 64*i.toNat<=j/\j<64*i.toNat+64 then bs[j-64*i.toNat]? else D.now[j]?:=by
 have hh:0<=i/\i<D.n:=by unfold DM.has at hi;simpa using hi
 show(cf D.now (64*i.toNat) bs)[j]?=_;rw[Sx.qB (by rw[h.now,hb];omega),hb]
theorem ie (all:List Int) (i:Nat):(mg all i).length=64:=by simp [mg]
theorem MS (all:List Int) (i j:Nat) (h:j<64) (hj:64*i+j<all.length):(mg all i)[j]?=all[64*i+j]?:=by
 unfold mg;rw[Zs,ZI h,ZS,Y8 hj,aav]
theorem tC (frm:Nat) (all:List Int):∀ (f i:Nat) (D:DM),pt D->all.length+1<=f+i->all.length+64*(frm+2)<=64*D.n ->
 (fG frm all f i D).1=0/\pt (fG frm all f i D).2/\(fG frm all f i D).2.n=D.n/\(∀ j,j<64*(frm+2+i)->(fG frm all f i D).2.now[j]?=D.now[j]?)/\(∀ t,64*i<=t->t<all.length->(fG frm all f i D).2.now[64*(frm+2)+t]?=all[t]?):=by
 intro f
 induction f with
 | zero =>
  intro i D h h1 h2;obtain⟨a,b,c,d⟩:=iO h;show(dm D).1=0/\_;refine⟨a,b,d,fun j _=>?_,fun t ht ht'=>by omega⟩;show(dm D).2.now[j]?=_;rw[c]
 | succ f ih =>
  intro i D h h1 h2;have ec:(frm:Int)+2+i=((frm+2+i:Nat):Int):=by omega
  by_cases hlt:64*i<all.length
  .have hi:D.has ((frm:Int)+2+i)=true:=by unfold DM.has;simp only[Zc];omega
   have hw:=kQ h hi (ie all i);have e:fG frm all (f+1) i D=fG frm all f (i+1) (pz D ((frm:Int)+2+i) (mg all i)):=by
    show(if 64*i<all.length then _ else _)=_;rw[ZA hlt,hw];simp
   rw[e];have hS:=pd h hi (ie all i);obtain⟨a,b,c,d,g⟩:=ih (i+1) _ hS (by omega) h2;have gp:=xm h.ok hi (ie all i);refine⟨a,b,c,fun j hj=>?_,fun t ht ht'=>?_⟩
   .rw[d j (by omega),gp,ec,Y7,Zo (by omega)]
   .rcases aaa t (64*(i+1))with h3 | h3
    .rw[d _ (by omega),gp,ec,Y7,ZA (by omega),MS all i _ (by omega) (by omega)]
     congr 1;omega
    .exact g t h3 ht'
  .have e:fG frm all (f+1) i D=dm D:=by
    show(if 64*i<all.length then _ else _)=_;rw[Zo hlt]
   rw[e];obtain⟨a,b,c,d⟩:=iO h;exact⟨a,b,d,fun j _=>by rw[c],fun t ht ht'=>by omega⟩
structure gw (D:DM) (frm:Nat) (n:Int) (k:Nat) (all nt:List Int):Prop where
 sure:pt D
 rng:3<=n/\(frm:Int)+n<=D.n
 len:(all.length:Int)<=64*(n-2)
 note:nt.length=16
 cur:bZ D frm (64*(n-2)) ((k%2:Nat):Int)=((k:Int)::(all.length:Int)::nt,0)
 oth:(bZ D frm (64*(n-2)) (((k+1)%2:Nat):Int)).1.getD 0 0<k\/(k=0/\(bZ D frm (64*(n-2)) 1).1.getD 0 0=0)
 bytes:∀ t z,all[t]?=some z->D.now[64*(frm+2)+t]?=some z
theorem gw.nx {D:DM} {frm:Nat} {n:Int} {k:Nat} {all nt:List Int} (h:gw D frm n k all nt):nx D frm n=(k:Int)::(all.length:Int)::nt:=by
 have hc:=h.cur;have ho:=h.oth;unfold Go.Proofs.YtomdimlnggpgbaaGreatDoor.D.nx;rcases Nat.mod_two_eq_zero_or_one k with e | e
 .have e':(k+1)%2=1:=by omega
  rw[e]at hc;rw[e']at ho;have hc:bZ D frm (64*(n-2)) 0=_:=hc;rw[hc];show(if(k:Int)<_ then _ else _)=_;rw[Zo];rcases ho with ho | ⟨hk,ho⟩
  .have ho:(bZ D frm (64*(n-2)) 1).1.getD 0 0<k:=ho;omega
  .rw[ho];omega
 .have e':(k+1)%2=0:=by omega
  rw[e]at hc;rw[e']at ho;have hc:bZ D frm (64*(n-2)) 1=_:=hc;rw[hc];show(if _<(k:Int)then _ else _)=_;rw[ZA];rcases ho with ho | ⟨hk,ho⟩
  .exact ho
  .omega
theorem gw.je {D:DM} {frm:Nat} {n:Int} {k:Nat} {all nt:List Int} (h:gw D frm n k all nt):je D frm n=⟨frm,64*(n-2),k,all.length,nt,false⟩:=by
 unfold Go.Proofs.YtomdimlnggpgbaaGreatDoor.D.je wb;rw[h.nx];rfl
theorem gw.jw {D:DM} {frm:Nat} {n:Int} {k:Nat} {all nt:List Int} (h:gw D frm n k all nt):jw D frm n=all:=by
 obtain⟨h1,h2⟩:=h.rng;have hl:=h.len;unfold Go.Proofs.YtomdimlnggpgbaaGreatDoor.D.jw uG;rw[h.je];show(D.now.drop (64*((frm:Int)+2).toNat)).take ((all.length:Int)).toNat=all;rw[show((frm:Int)+2).toNat=frm+2 by omega,Y7];apply ZN;intro j;rw[Z2];split
 .rename_i hj;rw[ZZ,h.bytes j _ (Y8 hj),Y8 hj]
 .rw[Zv (by omega)]
theorem jB {D:DM} (h:pt D) {frm most place:Int} (hi:D.has (frm+place)=true):bZ D frm most place=if yL (D.cw (frm+place)) most place then(wa ((D.cw (frm+place)).take 32),0)else(gj,0):=by
 unfold bZ;rw[DB hi h.gone];simp
theorem wG {D D':DM} (h:pt D) (h':pt D') (hn:D'.n=D.n) {frm most place:Int} (hi:D.has (frm+place)=true) (hs:D'.cw (frm+place)=D.cw (frm+place)):bZ D' frm most place=bZ D frm most place:=by
 have hi':D'.has (frm+place)=true:=by unfold DM.has at hi ⊢;rw[hn];exact hi
 rw[jB h hi,jB h' hi',hs]
theorem uf {D D':DM} {i:Int} (h:∀ j,64*i.toNat<=j->j<64*i.toNat+64->D'.now[j]?=D.now[j]?):D'.cw i=D.cw i:=by
 unfold DM.cw;apply ZN;intro j;rw[Z2,Z2];split
 .rw[ZZ,ZZ];exact h _ (by omega) (by omega)
 .rfl
theorem fX (x:Int):(uB x).length=8:=rfl
theorem yM {a b:Int} {nt:List Int} (ha:0<=a/\a<18446744073709551616) (hb:0<=b/\b<18446744073709551616) (hn:nt.length=16) :
 (cY (a::b::nt)).length=32/\wa (cY (a::b::nt))=a::b::nt/\fk ((cY (a::b::nt)).take 8)=a/\fk (((cY (a::b::nt)).drop 8).take 8)=b:=by
 have e:cY (a::b::nt)=uB a++uB b++nt:=by
  unfold cY;show uB a++uB b++nt.take 16=_;rw[aa1 (by omega)]
 have h1:((uB a++uB b++nt).take 8)=uB a:=by rw[ZK,abG (by rw[fX];omega),aa1 (by rw[fX];omega)]
 have h2:((uB a++uB b++nt).drop 8)=uB b++nt:=by rw[ZK,aba (fX a)]
 have h3:(((uB a++uB b++nt).drop 8).take 8)=uB b:=by rw[h2,abG (by rw[fX];omega),aa1 (by rw[fX];omega)]
 have h4:((uB a++uB b++nt).drop 16).take 16=nt:=by
  rw[aba (by rw[Y9,fX,fX]),aa1 (by omega)]
 rw[e];refine⟨by simp [fX,hn],?_,?_,?_⟩
 .unfold wa;rw[h1,h3,h4,uF ha.1 ha.2,uF hb.1 hb.2];rfl
 .rw[h1,uF ha.1 ha.2]
 .rw[h3,uF hb.1 hb.2]
theorem gw.append {D:DM} {frm:Nat} {n:Int} {k:Nat} {all nt:List Int} (h:gw D frm n k all nt) {b nt':List Int} (hb:(all.length:Int)+b.length<=64*(n-2)) (hk:k<1000000) (hn':nt'.length=16) :
 (bW D ⟨frm,64*(n-2),k,all.length,nt,false⟩ all b nt').e=0/\gw (bW D ⟨frm,64*(n-2),k,all.length,nt,false⟩ all b nt').D frm n (k+1) (all++b) nt' /\
 (bW D ⟨frm,64*(n-2),k,all.length,nt,false⟩ all b nt').bs=all++b/\(bW D ⟨frm,64*(n-2),k,all.length,nt,false⟩ all b nt').L=⟨frm,64*(n-2),(k+1:Nat),(all++b).length,nt',false⟩:=by
 obtain⟨r1,r2⟩:=h.rng;have hDn:=h.sure.ok.n;have hal:(all++b).length=all.length+b.length:=Y9;obtain⟨L,hL⟩:∃ L:LM,L=⟨frm,64*(n-2),k,all.length,nt,false⟩:=⟨_,rfl⟩;rw[<-hL];have f1:L.frm=frm:=by rw[hL]
 have f2:L.most=64*(n-2):=by rw[hL]
 have f3:L.serial=k:=by rw[hL]
 have f4:L.over=false:=by rw[hL]
 obtain⟨F,hF⟩:∃ F,F=(gy D L.frm (all++b) all.length).2:=⟨_,rfl⟩;obtain⟨a1,a2,a3,a4,a5⟩:=tC frm (all++b) ((all++b).length+1) (all.length/64) D h.sure (by omega) (by omega);have efr:gy D L.frm (all++b) all.length=fG frm (all++b) ((all++b).length+1) (all.length/64) D:=by
  unfold gy;rw[f1,show(((all.length:Nat):Int)/64).toNat=all.length/64 by omega]
 rw[<-efr]at a1 a2 a3 a4 a5;rw[<-hF]at a2 a3 a4 a5;obtain⟨N,hN⟩:∃ N,N=rz L (all++b) nt':=⟨_,rfl⟩;have eN:N=((k+1:Nat):Int)::((all++b).length:Int)::nt':=by
  rw[hN];unfold rz;rw[f3];rfl
 have hp:((k+1:Nat):Int).tmod 2=(((k+1)%2:Nat):Int):=by
  rw[aai (by omega)];omega
 obtain⟨p,hpp⟩:∃ p,p=(k+1)%2:=⟨_,rfl⟩;have hp2:p<2:=by omega
 obtain⟨b1,b2,b3,b4⟩:=yM (a:=((k+1:Nat):Int)) (b:=((all++b).length:Int)) (nt:=nt') ⟨by omega,by omega⟩ ⟨by omega,by omega⟩ hn';rw[<-eN]at b1 b2 b3 b4;have hhl:(cY N++cY N).length=64:=by rw[Y9,b1]
 have ei:∀ q:Nat,(frm:Int)+((q:Nat):Int)=((frm+q:Nat):Int):=fun q=>by omega
 have hasF:∀ q:Nat,q<2->F.has ((frm:Int)+(q:Int))=true:=fun q hq=>by unfold DM.has;rw[a3];simp only[Zc];omega
 have hasD:∀ q:Nat,q<2->D.has ((frm:Int)+(q:Int))=true:=fun q hq=>by unfold DM.has;simp only[Zc];omega
 have hw:=kQ a2 (hasF p hp2) hhl;obtain⟨G,hG⟩:∃ G,G=pz F ((frm:Int)+(p:Int)) (cY N++cY N):=⟨_,rfl⟩;rw[<-hG]at hw;have hGs:pt G:=by rw[hG];exact pd a2 (hasF p hp2) hhl
 have hGn:G.n=D.n:=by rw[hG,<-a3];rfl
 have hGg:=xm a2.ok (hasF p hp2) hhl;rw[<-hG,ei p,Y7]at hGg;obtain⟨s1,s2,s3,s4⟩:=iO hGs;have htn:iG F L.frm N=dm G:=by
  unfold iG;have e0:N.getD 0 0=((k+1:Nat):Int):=by rw[eN];rfl
  rw[f1,e0,hp,<-hpp,hw];simp
 have hbec:cQ D L (all++b) nt' all.length=(0,(dm G).2):=by
  unfold cQ;rw[Zo (by rw[a1];simp),<-hF,<-hN,htn,Zo (by rw[s1];simp)]
 have happ:bW D L all b nt'=⟨0,(dm G).2,nQ L (all++b) nt',all++b⟩:=by
  unfold bW;rw[f4,f3,f2,Zo (by simp),Zo (by omega),Zo (by omega),hbec];rfl
 rw[happ];refine⟨rfl,⟨s2,⟨r1,by show(frm:Int)+n<=((dm G).2.n:Int);rw[s4,hGn];exact r2⟩,by rw[hal];omega,hn',?_,Or.inl ?_,?_⟩,rfl,by unfold nQ;rw[f1,f2,f3,f4];rfl⟩
 .rw[<-hpp];have hi:(dm G).2.has ((frm:Int)+(p:Int))=true:=by unfold DM.has;rw[s4,hGn];exact hasD p hp2
  have hsec:(dm G).2.cw ((frm:Int)+(p:Int))=cY N++cY N:=by
   unfold DM.cw;rw[s3,ei p,Y7];apply ZN;intro j;rw[Z2];split
   .rename_i hj;rw[ZZ,hGg,ZA (by omega)]
    congr 1;omega
   .rw[Zv (by omega)]
  show bZ (dm G).2 frm (64*(n-2)) (p:Int)=_;rw[jB s2 hi,hsec];have ht:(cY N++cY N).take 32=cY N:=by rw[abq b1]
  have hdr:(cY N++cY N).drop 32=cY N:=by rw[aba b1]
  rw[ZA,ht,b2,eN];unfold yL;rw[ht,hdr,b3,b4];exact⟨rfl,by rw[hp,hpp],by omega⟩
 .have hq:(k+1+1)%2=k%2:=by omega
  rw[hq];obtain⟨c,hc⟩:∃ c,c=k%2:=⟨_,rfl⟩;have hcur:=h.cur;rw[<-hc]at hcur ⊢;have hc2:c<2:=by omega
  have hcp:c≠p:=by omega
  have hsec:(dm G).2.cw ((frm:Int)+(c:Int))=D.cw ((frm:Int)+(c:Int)):=by
   refine uf fun j h1 h2=>?_;rw[ei c,Y7]at h1 h2;rw[s3,hGg,Zo (by omega)];exact a4 j (by omega)
  rw[wG h.sure s2 (by rw[s4,hGn]) (hasD c hc2) hsec,hcur];show(k:Int)<((k+1:Nat):Int);omega
 .intro t z ht;have hlt:=(Zi.1 ht).1;show(dm G).2.now[64*(frm+2)+t]?=some z;rw[s3,hGg,Zo (by omega)];rcases aaa t (64*(all.length/64))with h1 | h1
  .rw[a4 _ (by omega)];refine h.bytes t z ?_;rw[ZH (by omega)]at ht;exact ht
  .rw[a5 t h1 hlt];exact ht
theorem Ji (n:Int):pt (fb n):=by
 refine⟨⟨?_,?_,?_,?_,fun p hp=>by cases hp⟩,rfl,rfl⟩
 .show(List.replicate (64*gE n) (0:Int)).length=64*gE n;rw[Z8]
 .show gE n<=16384;unfold gE;omega
 .exact Zw (-1)
 .show(-1:Int)<=_;omega
theorem mV {m n:Int} {frm:Nat} (hm:0<=m/\m<=16384) (hn:3<=n) (hr:(frm:Int)+n<=m):gw (fb m) frm n 0 [] (List.replicate 16 0):=by
 have hs:gE m=m.toNat:=by unfold gE;omega
 have hnn:(fb m).n=m.toNat:=hs;have hS:=Ji m;have hsec:∀ p:Nat,p<2->(fb m).cw ((frm:Int)+(p:Int))=List.replicate 64 0:=by
  intro p hp;unfold DM.cw;show((List.replicate (64*gE m) (0:Int)).drop _).take 64=_;rw[List.drop_replicate,List.take_replicate,hs]
  congr 1;omega
 have hz:fk (List.replicate 8 0)=0:=by decide
 have hrd:∀ p:Nat,p<2->bZ (fb m) frm (64*(n-2)) (p:Int)=(gj,0):=by
  intro p hp;have hi:(fb m).has ((frm:Int)+(p:Int))=true:=by unfold DM.has;rw[hnn];simp only[Zc];omega
  rw[jB hS hi,hsec p hp];split
  .rfl
  .rfl
 refine⟨hS,⟨hn,by rw[hnn];omega⟩,by show(0:Int)<=_;omega,rfl,?_,Or.inr ⟨rfl,?_⟩,fun t z h=>by cases h⟩
 .exact hrd 0 (by omega)
 .have:=hrd 1 (by omega);have this:bZ (fb m) frm (64*(n-2)) 1=(gj,0):=this;rw[this];rfl
theorem GA {D:DM} (e:(dm D).1=0):(dm D).2.loose=[]:=by
 unfold dm at e ⊢;split at e
 .cases e
 .split at e
  .cases e
  .rename_i h1 h2;rw[Zo h1,Zo h2]
theorem GH {D:DM} {frm:Int} {h:List Int} (e:(iG D frm h).1=0):(iG D frm h).2.loose=[]:=by
 unfold iG at e ⊢;split at e
 .rename_i h1;exact absurd e h1
 .rename_i h1;rw[Zo h1];exact GA e
theorem Ad {D:DM} {L:LM} {all nt:List Int} {n:Nat} (e:(cQ D L all nt n).1=0):(cQ D L all nt n).2.loose=[]:=by
 unfold cQ at e ⊢;split at e
 .cases e
 .rename_i h1;rw[Zo h1];split at e
  .cases e
  .rename_i h2;rw[Zo h2];exact GH (by simpa using h2)
theorem Aa {D:DM} {L:LM} {bs b nt:List Int} (e:(bW D L bs b nt).e=0):(bW D L bs b nt).D.loose=[]:=by
 unfold bW at e ⊢;split at e
 .cases e
 .rename_i h1;rw[Zo h1];split at e
  .cases e
  .rename_i h2;rw[Zo h2];split at e
   .cases e
   .rename_i h3;rw[Zo h3];split at e
    .rename_i h4;rw[ZA h4];exact Ad h4
    .cases e
end Go.Proofs.YtomdimlnggpgbaaGreatDoor.D
namespace Go.Proofs.YtomdimlnggpgbaaGreatDoor
open Go Go.RowKit Go.Extern.Stop Go.Stop Go.Extern
theorem CL (v:Value) (w:World):(Extern.ReflectliteType.typeOf #[.iface 299 v]).run Tryz.prog w=.ok (.iface 243 (.agg #[.pointer (some ⟨7,299,none⟩)])) w:=by kernel_rfl
def EA:Array Value->Sem Value:=Extern.ReflectliteType.method fun t=>do Extern.Rtype.noPackHeld "Comparable" t;pure (.bool (<-typeInfo t).comparable)
theorem rp (w:World):(EA #[.agg #[.pointer (some ⟨7,299,none⟩)]]).run Tryz.prog w=.ok (.bool true) w:=by kernel_rfl
theorem jW (v:Value) (w:World):(Go.method 431 243 v "Comparable").run Tryz.prog w=.ok (238,v) w:=by kernel_rfl
theorem rq (v:Value) (w:World):(Go.method 431 156 v "Unwrap").run Tryz.prog w=.ok (229,v) w:=by kernel_rfl
theorem Lw:(Tryz.prog.info? 299).map (·.comparable)=some true:=by kernel_rfl
theorem Ly:(Tryz.prog.info? 319).map (·.size)=some 1:=by kernel_rfl
theorem Px (v:Value) (xT:TypeId) (w:World):(Instr.typeAssert (.iface 299 v) xT 245 true).run Tryz.prog w=.ok (.tuple #[.nilIface,.bool false]) w:=run_typeAssert_lacksB Tryz.underlying245 (by kernel_rfl) (by kernel_rfl) v xT w
theorem zd (v:Value) (xT:TypeId) (w:World):(Instr.typeAssert (.iface 299 v) xT 248 true).run Tryz.prog w=.ok (.tuple #[.nilIface,.bool false]) w:=run_typeAssert_lacksB Tryz.underlying248 (by kernel_rfl) (by kernel_rfl) v xT w
theorem wV (v:Value) (xT:TypeId) (w:World):(Instr.typeAssert (.iface 299 v) xT 250 true).run Tryz.prog w=.ok (.tuple #[.nilIface,.bool false]) w:=run_typeAssert_lacksB Tryz.underlying250 (by kernel_rfl) (by kernel_rfl) v xT w
theorem Py (v:Value) (xT:TypeId) (w:World):(Instr.typeAssert (.iface 156 v) xT 245 true).run Tryz.prog w=.ok (.tuple #[.nilIface,.bool false]) w:=run_typeAssert_lacksB Tryz.underlying245 (by kernel_rfl) (by kernel_rfl) v xT w
theorem vZ (v:Value) (xT:TypeId) (w:World):(Instr.typeAssert (.iface 156 v) xT 248 true).run Tryz.prog w=.ok (.tuple #[.iface 156 v,.bool true]) w:=run_typeAssert_hasB Tryz.underlying248 (by kernel_rfl) v xT w
theorem QP (b:Addr) (w:World) :
 Calls Tryz.prog 87 #[.nilIface,.iface 299 (.pointer (some b))] w fun e w'=>e=.returned (.bool false)/\w'=w:=by
 have hn:=run_eql_iface_nil_left (P:=Tryz.prog) w 299 (.pointer (some b)) Tryz.underlying107
 go_enter Tryz.func87,Tryz.ntmps87
 go_wp2
 go_ret
 exact⟨rfl,rfl⟩
set_option maxRecDepth 20000 in
theorem AM (s:ByteArray) (b:Addr) (w:World) :
 Calls Tryz.prog 87 #[.iface 156 (.agg #[.string s,.iface 299 (.pointer (some b))]),.iface 299 (.pointer (some b))] w fun e w'=>e=.returned (.bool true)/\Below w.heap.size w w':=by
 obtain⟨i,hi,hcmp⟩:=Zk.1 Lw;obtain⟨j,hj,hjs⟩:=Zk.1 Ly;have h8:=@run_callFunc_extern Tryz.prog 129 _ Extern.ReflectliteType.typeOf Tryz.func129 (by kernel_rfl) (by kernel_rfl) (by kernel_rfl) (by kernel_rfl);have h32:=@run_callFunc_extern Tryz.prog 238 _ EA Tryz.func238 (by kernel_rfl) (by kernel_rfl) (by kernel_rfl) (by kernel_rfl);have tT:=CL;have cT:=rp;have mR:=jW;have mU:=rq;have nE:=Px;have uE:=zd;have vE:=wV;have nW:=Py;have uW:=vZ;have heq:=fun w=>run_eql_iface_ptr_same (P:=Tryz.prog) w b Tryz.underlying107 Tryz.underlying299 hi hcmp hj;have hty:=run_eql_iface_types (P:=Tryz.prog) 156 299 (.agg #[.string s,.iface 299 (.pointer (some b))]) (.pointer (some b)) Tryz.underlying107 (by decide) w
 go_enter Tryz.func87,Tryz.ntmps87
 go_wp2
 refine wp_loop_rounds 2 ?_;rw[rounds_succ]
 go_wp2
 rw[rounds_succ]
 go_wp2
 go_ret
 exact⟨rfl,(Below.refl _ _).alloc (ZB _) _⟩
set_option maxRecDepth 20000 in
theorem yv (s:ByteArray) (b a:Addr) (ca cb:Array Value) (ta tb:TypeId) (w:World) (hne:a≠b) (ha:w.heap[a.block]?=some (.cells ca ta (0,0))) (hb:w.heap[b.block]?=some (.cells cb tb (0,0))) :
 Calls Tryz.prog 87 #[.iface 156 (.agg #[.string s,.iface 299 (.pointer (some a))]),.iface 299 (.pointer (some b))] w fun e w'=>e=.returned (.bool false)/\Below w.heap.size w w':=by
 obtain⟨i,hi,hcmp⟩:=Zk.1 Lw;obtain⟨j,hj,hjs⟩:=Zk.1 Ly;have h8:=@run_callFunc_extern Tryz.prog 129 _ Extern.ReflectliteType.typeOf Tryz.func129 (by kernel_rfl) (by kernel_rfl) (by kernel_rfl) (by kernel_rfl);have h32:=@run_callFunc_extern Tryz.prog 238 _ EA Tryz.func238 (by kernel_rfl) (by kernel_rfl) (by kernel_rfl) (by kernel_rfl);have tT:=CL;have cT:=rp;have mR:=jW;have mU:=rq;have nE:=Px;have uE:=zd;have vE:=wV;have nW:=Py;have uW:=vZ;have ha':(w.alloc (.cells #[.string s,.iface 299 (.pointer (some a))] 156)).heap[a.block]?=some (.cells ca ta (0,0)):=(Below.heap_alloc _ _ _ (ZU.1 ha).1).trans ha;have hb':(w.alloc (.cells #[.string s,.iface 299 (.pointer (some a))] 156)).heap[b.block]?=some (.cells cb tb (0,0)):=(Below.heap_alloc _ _ _ (ZU.1 hb).1).trans hb;have heq:=run_eql_iface_ptr_other (P:=Tryz.prog) _ Tryz.underlying107 Tryz.underlying299 hi hcmp hj (by rw[hjs];decide) hne ha' hb';have hty:=run_eql_iface_types (P:=Tryz.prog) 156 299 (.agg #[.string s,.iface 299 (.pointer (some a))]) (.pointer (some b)) Tryz.underlying107 (by decide) w
 go_enter Tryz.func87,Tryz.ntmps87
 go_wp2
 refine wp_loop_rounds 2 ?_;rw[rounds_succ]
 go_wp2
 rw[rounds_succ]
 go_wp2
 go_ret
 exact⟨rfl,(Below.refl _ _).alloc (ZB _) _⟩
end Go.Proofs.YtomdimlnggpgbaaGreatDoor
namespace Go.Proofs.YtomdimlnggpgbaaGreatDoor
open Go Go.Sx Go.Pk
def LL (p:List Nat):Bool:=decide (p.length>1)&&!(p.head?==some 99)
def aM:pF:=fun _=>none
theorem aE (q:Env) (n:Nat):newHs q n 0=[]:=rfl
theorem aN (q:Env) (n:Nat):newHs q n 1=[q.h n]:=by unfold newHs;rw[List.range_one];rfl
theorem aT {α:Type} {a:α} {l:List α} : (a::l≠[])=True:=by simp
theorem gM (a:Nat):Value.pointer (aA (a:Int) 0)=.pointer (some ⟨a,0,none⟩):=by rw[au (by omega)];rfl
def aS (bs:List Int):Prop:=∀ b∈bs,0<=b/\b<256
theorem qx {R:Hl} {x y l:Int} {bs:List Int} (hl:l=bs.length) (hy:0<=y) (h:bs=[]\/0<=x/\∀ j z,bs[j]?=some z->R.cell x.toNat (y.toNat+j)=some (.int .u8 z)) :
 ((0<=x/\0<=y/\0<=l/\∀ j,j<l.toNat->∃ v,R.cell x.toNat (y.toNat+j)=some v/\v.oneCell'=true)\/l=0)/\cJ R x.toNat y.toNat l.toNat=bK bs:=by
 subst hl;rw[Y7];constructor
 .rcases h with h | ⟨hx,h⟩
  .subst h;exact Or.inr rfl
  .exact Or.inl ⟨hx,hy,by omega,fun j hj=>⟨_,h j _ (Y8 hj),rfl⟩⟩
 .unfold cJ;apply ZN;intro j;rw[Zs,ft];rcases aaa j bs.length with hj | hj
  .rcases h with h | ⟨hx,h⟩
   .subst h;cases hj
   .rw[ZI hj,ZS,h j _ (Y8 hj),Y8 hj];rfl
  .rw[Zv (by simpa using hj),Zv (by omega)];rfl
theorem Di (F:Hl) {a:Int} (h:0<=a) (hF:F=Hl.one a.toNat (.cells #[] 5 (0,0))):bE F 5 1 (.slice (aA a 0) (Int.toNat 0) (Int.toNat 0)) (Int.toNat 0) []:=by
 subst hF;exact⟨rfl,Or.inr ⟨a.toNat,0,#[],by rw[au h];rfl,Hl.bF _ _,by omega,by decide,rfl,rfl⟩⟩
def eX:Sx.Spec where
 fn:=84
 own:=[]
 rd:=[0]
 res:=[.one .sl]
 pre:=fun xs Hs Rs=>∃ u bs R,xs=[u]/\Rs=[R]/\fp R u bs/\bs.length<=1000000
 post:=fun xs Hs Rs v Hs' F=>∃ u bs R,xs=[u]/\Rs=[R]/\fp R u bs/\cH F 5 v bs
def vp:Nd:=(fun b c=>(fun a=>(.and (.imp c (.post [.ro 4 [.var 0] false] (.sv (.one (.sl (.lit (-1)) b b b))))) (.imp (.not c) (.ext (.alloc 5) (.and (.pre a) (.ext a (.post [.ro 4 [.var 0] false,.hp 6 [] [.var 6,.var 5] []] (.sv (.one (.sl (.var 6) b (.var 2) (.var 7))))))))):Nd)) (.app 6 5 1 1 (.sl (.var 5) b b b) b (.bD 5 [] 5) (.seg 4 (.var 0) (.var 1) (.var 2)))) (.lit 0) (.eq (.var 0) (.lit (-1)))
def qT:bU Tryz.prog [] eX.fn where
 Λ:=aM
 args:=[.sv (.one (.sl (.var 0) (.var 1) (.var 2) (.var 3)))]
 mem:=[.ro 4 [.var 0] false]
 nv:=5
 nd:=vp
 ok:=by kernel_rfl
theorem jQ:eX.OK Tryz.prog:=by
 refine Spec.bJ (Γ:=[]) (fun _ h=>by cases h) ?_;rintro xs Hs Rs hl1 hl2 ⟨u,bs,R,rfl,rfl,hRd,hlen⟩;have e0:Hs=[]:=Za.1 hl1;subst e0;obtain⟨x,y,c,rfl,hy,hR⟩:=id hRd;refine⟨qT,bw [x,y,bs.length,c] false [Hl.none,Hl.none,Hl.none,Hl.none,R],fun _ _=>True,fun _ _=>0,?_,⟨?_,?_,?_,?_⟩,(fun _ h=>nomatch h),?_⟩
 .show [Value.slice (aA x y) ((bs.length:Int)).toNat ((c:Int)).toNat]=_;rw[Y7,Y7]
 .intro r hr ho;simp [qT]at hr;subst hr;cases ho
 .intro r hr ho;simp [qT]at hr;subst hr;exact⟨R,by simp,Hl.le_refl _⟩
 .simp [qT]
 .intro r hr;simp [qT]at hr;subst hr;trivial
 .show Nd.holds _ _ _ vp;generalize hρ:bw [x,y,bs.length,c] false [Hl.none,Hl.none,Hl.none,Hl.none,R]=ρ;have v0:ρ.i 0=x:=by rw[<-hρ];rfl
  have v1:ρ.i 1=y:=by rw[<-hρ];rfl
  have v2:ρ.i 2=bs.length:=by rw[<-hρ];rfl
  have w4:ρ.h 4=R:=by rw[<-hρ];rfl
  clear hρ;unfold vp;simp only[Nd.holds,X.pre,X.rel,X.n,Src.ok,Src.len,Src.bG,Zy,Zm,ZG,Zx,Zp,Nat.reduceAdd,Zd,Zh,bn,bj,aJ,aU,aR,bm,aZ,bh,bg,bd,aV,ba,bk,aX,aW,aK,aY,ai,aj,aB,aF,aD,ar,aG,aQ,aP,aq,aI,az,aH,av,TV.ev,SV.ev,CV.ev,Zf,Zr,bx.hl];refine⟨fun hx _=>?_,fun hx q1 g1 p5=>?_⟩
  .have hnil:bs=[]:=by
    rcases hR with h | ⟨h,_⟩
    .exact h
    .omega
   refine⟨[],[],rfl,rfl,⟨⟨fun k=>if k=0 then -1 else 0,fun _=>false,fun _=>.empty,fun _=>.tuple #[],fun _=>Hl.none⟩,rfl,⟨Zw _,Zw _,Zw _,Zw _⟩,trivial⟩,_,bs,R,rfl,rfl,hRd,?_⟩;rw[hnil];exact⟨rfl,Or.inl ⟨rfl,rfl⟩⟩
  .obtain⟨hok,hseg⟩:=qx (R:=R) (x:=x) (y:=y) (l:=(bs.length:Int)) rfl hy hR;have ho0:=Di (Hl.one (q1.i 5).toNat (.cells #[] 5 (0,0))) p5 rfl;rw[g1.i 0,g1.i 1,g1.i 2,g1.h 4,v0,v1,v2,w4];refine⟨⟨⟨_,ho0⟩,Zw _,by simpa using hok,by rw[Y7];unfold maxLen;simp;omega,by rw[Y7];simp;omega⟩,fun q2 g2 ⟨a1,a2,a3,_⟩=>fun _=>?_⟩;have hx2:=a3 _ ho0;rw[hseg,aax]at hx2;refine⟨[],[1],rfl,rfl,⟨⟨fun k=>[q2.i 6,0,q2.i 2,q2.i 7].getD k 0,fun _=>false,fun _=>.empty,fun _=>.tuple #[],fun _=>Hl.none⟩,rfl,⟨a1,Zw _,?_,a2⟩,trivial⟩,_,bs,R,rfl,rfl,hRd,?_⟩
   .show 0<=q2.i 2;rw[g2.i 2,g1.i 2,v2];omega
   .show cH (dC [q2.h 6]) _ (.slice (aA (q2.i 6) 0) (q2.i 2).toNat (q2.i 7).toNat) bs;rw[bz,g2.i 2,g1.i 2,v2];unfold cH;rw[Y7];simpa using hx2
def fV (bs:List Int):Nat×Nat:=(tO bs).getD (0,0)
def BU (R1 R2:Hl) (p:Value) (bs:List Int) (bad:Bool):Prop:=∃ (a:Nat) (x y:Int) (c:Nat),p=.pointer (some ⟨a,0,none⟩)/\R1.cell a 0=some (.slice (aA x y) bs.length c)/\R1.cell a 1=some (.bool bad)/\ -1<=x/\0<=y/\mo R2 (.slice (aA x y) bs.length c) bs
theorem BU.uniq {R1 R2:Hl} {p:Value} {a b:List Int} {x y:Bool} (h:BU R1 R2 p a x) (h':BU R1 R2 p b y):a=b/\x=y:=by
 obtain⟨a1,x1,y1,c1,e1,h1,h2,_,_,h3⟩:=h;obtain⟨a2,x2,y2,c2,e2,k1,k2,_,_,k3⟩:=h';rw[e1]at e2;simp only[Value.pointer.injEq,Zj,Addr.mk.injEq,Zm]at e2;subst e2;rw[h1]at k1;have k1:=Z1 k1;rw[<-k1]at k3;rw[h2]at k2;simp only[Zj,Value.bool.injEq]at k2;exact⟨h3.uniq k3,k2⟩
def jC:Sx.Spec where
 fn:=124
 own:=[]
 rd:=[0,1000]
 res:=[.one (.int .u64),.one (.int .i64)]
 pre:=fun xs Hs Rs=>∃ p R1 R2 bs bad,xs=[p]/\Rs=[R1,R2]/\BU R1 R2 p bs bad/\aS bs/\bs.length<=1000000
 post:=fun xs Hs Rs v Hs' F=>∃ p R1 R2 bs bad,xs=[p]/\Rs=[R1,R2]/\BU R1 R2 p bs bad/\v=.tuple #[.int .u64 (fV bs).1,.int .i64 (fV bs).2]
def wX:Nd:=(fun h d f=>(fun n m k j i l=>(fun a c=>(fun g=>(fun b=>(.and (.e (.le d h)) (.and (.e (.his 2 h d 0 .slice)) (.and (.e (.le d l)) (.and (.inv 0 [⟨10,0,.int .i64 d⟩,⟨11,0,.int .i64 d⟩] []) (.havoc 0 0 3 (.and (.imp (.lt f l) (.and (.e (.le d m)) (.and (.e (.le d n)) (.and (.e (.le d f)) (.and (.e (.his 1 m (.add n f) 0 (.int .u8))) (.and (.imp (.eq f (.lit 9)) (.and (.imp (.not (.lt (.lit 1) a)) (.and (.e (.le d i)) (.and (.imp (.eq a d) c) (.imp (.not (.eq a d)) b)))) (.imp (.lt (.lit 1) a) c))) (.imp (.not (.eq f (.lit 9))) (.and (.imp (.lt (.lit 9) f) c) (.imp (.not (.lt (.lit 9) f)) (.and (.e (.le d i)) (.and (.imp (.lt a (.lit 128)) (.and (.imp (.eq a d) (.and (.imp (.lt d f) c) (.imp (.not (.lt d f)) b))) (.imp (.not (.eq a d)) b))) (.imp (.not (.lt a (.lit 128))) (.back 0 0 [⟨10,0,.int .i64 g⟩,⟨11,0,.int .i64 k⟩] []))))))))))))) (.imp (.not (.lt f l)) c)))))):Nd)) (.post j (.tup [.one (.int .u64 g),.one (.int .i64 k)]))) (.bits .or .u64 (.var 10) (.shl .u64 (.wrap .u64 (.bits .and .u8 a (.lit 127))) i))) (.hI 1 m (.add n f) 0) (.post j (.tup [.one (.int .u64 d),.one (.int .i64 d)]))) (.hP 2 h d 0 1) (.hP 2 h d 0 0) (.wrap .i64 (.add f (.lit 1))) [.ro 1 [.hP 2 h d 0 0] false,.ro 2 [.var 0] false] (.wrap .i64 (.mul (.lit 7) f)) (.hP 2 h d 0 2)) (.var 0) (.lit 0) (.var 11)
def rD:bU Tryz.prog [] jC.fn where
 Λ:=fun p=>if LL p then some ⟨0,[(4,TI .u64 (.var 10)),(12,TI .i64 (.var 11))],[],12⟩else none
 args:=[TP (.var 0) (.lit 0)]
 mem:=[.ro 1 [.hP 2 (.var 0) (.lit 0) 0 0] false,.ro 2 [.var 0] false]
 nv:=3
 nd:=wX
 ok:=by kernel_rfl
def Jo (bs:List Int) (_:Nat) (q:Env):Prop:=∃ k y:Nat,q.i 11=k/\q.i 10=y/\k<=10/\y<128 ^ k/\tO bs=pP (bs.drop k) k y
theorem Sn {x y:Int} (hx:-1<=x) (n c:Nat):bM (some (.slice (aA x y) n c)) 0=x:=by
 rcases aal x 0 with h | h
 .obtain rfl:x= -1:=by omega
  rfl
 .rw[au h];show((x.toNat:Nat):Int)=x;omega
theorem TN {x y:Int} (hx:0<=x) (hy:0<=y) (n c:Nat):bM (some (.slice (aA x y) n c)) 1=y:=by
 rw[au hx];show((y.toNat:Nat):Int)=y;omega
theorem RJ {x y:Int} (hx:-1<=x) (n c:Nat):bM (some (.slice (aA x y) n c)) 2=n:=by
 rcases aal x 0 with h | h
 .obtain rfl:x= -1:=by omega
  rfl
 .rw[au h];rfl
theorem Fw {bs:List Int} {k y c:Nat} (hc:bs[k]?=some (c:Int)):pP (bs.drop k) k y=if(k=9/\1<c)\/9<k then none else if c<128 then(if c=0/\0<k then none else some (y+c*128 ^ k,k+1))else pP (bs.drop (k+1)) (k+1) (y+(c%128)*128 ^ k):=by
 have hk:=(Zi.1 hc).1;have e:bs.drop k=(c:Int)::bs.drop (k+1):=by
  rw[List.drop_eq_getElem_cons hk,(Zi.1 hc).2]
 rw[e];show(if(k=9/\1<(c:Int))\/9<k then none else if(c:Int)<128 then(if(c:Int)=0/\0<k then none else some (y+((c:Int)).toNat*128 ^ k,k+1))else pP (bs.drop (k+1)) (k+1) (y+(((c:Int)).toNat%128)*128 ^ k))=_;rw[Y7];have h1:((1:Int)<(c:Int))↔1<c:=by omega
 have h2:((c:Int)<128)↔c<128:=by omega
 have h3:((c:Int)=0)↔c=0:=by omega
 simp only[h1,h2,h3]
theorem Fz:jC.OK Tryz.prog:=by
 refine Spec.bJ (Γ:=[]) (fun _ h=>by cases h) ?_;rintro xs Hs Rs hl1 hl2 ⟨p,R1,R2,bs,bad,rfl,rfl,hIn,hby,hlen⟩;have e0:Hs=[]:=Za.1 hl1;subst e0;obtain⟨a,x,y,c,rfl,hc0,hc1,hx,hy,hR⟩:=id hIn;refine⟨rD,bw [(a:Int)] false [Hl.none,R2,R1],Jo bs,fun _ q=>((bs.length:Int)-q.i 11).toNat,?_,⟨?_,?_,?_,?_⟩,(fun _ h=>nomatch h),?_⟩
 .show [Value.pointer (aA (a:Int) 0)]=_;rw[gM]
 .intro r hr ho;simp [rD]at hr;rcases hr with rfl | rfl<;>cases ho
 .intro r hr ho;simp [rD]at hr;rcases hr with rfl | rfl
  .exact⟨R2,by simp,Hl.le_refl _⟩
  .exact⟨R1,by simp,Hl.le_refl _⟩
 .simp [rD,bx.own]
 .intro r hr;simp [rD]at hr;rcases hr with rfl | rfl<;>trivial
 .show Nd.holds _ _ _ wX;generalize hρ:bw [(a:Int)] false [Hl.none,R2,R1]=ρ;have v0:ρ.i 0=a:=by rw[<-hρ];rfl
  have w1:ρ.h 1=R2:=by rw[<-hρ];rfl
  have w2:ρ.h 2=R1:=by rw[<-hρ];rfl
  clear hρ;have out:∀ (q:Env) (mem:Mem) (e1 e2:E),aC q e1=(fV bs).1->aC q e2=(fV bs).2->postOf jC [.pointer (some ⟨a,0,none⟩)] [] [R1,R2] q mem (.tup [.one (.int .u64 e1),.one (.int .i64 e2)]):=fun q mem e1 e2 h1 h2 _ =>
   ⟨[],[],rfl,rfl,⟨⟨fun k=>if k=0 then(fV bs).1 else(fV bs).2,fun _=>false,fun _=>.empty,fun _=>.tuple #[],fun _=>Hl.none⟩,by show Value.tuple #[.int .u64 (aC q e1),.int .i64 (aC q e2)]=_;rw[h1,h2];rfl,trivial,trivial,trivial⟩,_,R1,R2,bs,bad,rfl,rfl,hIn,by show Value.tuple #[.int .u64 (aC q e1),.int .i64 (aC q e2)]=_;rw[h1,h2]⟩
  have none0:∀ (q:Env) (mem:Mem),tO bs=none->postOf jC [.pointer (some ⟨a,0,none⟩)] [] [R1,R2] q mem (.tup [.one (.int .u64 (.lit 0)),.one (.int .i64 (.lit 0))]):=fun q mem h=>out q mem _ _ (by unfold fV;rw[h];rfl) (by unfold fV;rw[h];rfl);have tn0:Int.toNat 0=0:=rfl;unfold wX;simp only[Nd.holds,X.pre,X.rel,X.n,Src.ok,Src.len,Src.bG,Zy,Zm,ZG,Zx,Zp,Nat.reduceAdd,Zd,Zh,bn,bj,aJ,aU,aR,bm,aZ,bh,bg,bd,aV,ba,bk,aX,aW,aK,aY,ai,aj,aB,aF,aD,ar,aG,aQ,aP,aq,aI,az,aH,av,TV.ev,SV.ev,CV.ev,Zf,Zr,bx.hl,tn0];rw[v0,w2,Y7,hc0,RJ hx];refine⟨by omega,rfl,by omega,⟨0,0,rfl,rfl,by omega,by decide,rfl⟩,fun q g ⟨k,y',e11,e10,hk,hyk,hnum⟩=>?_⟩;rw[g.i 0,v0,g.h 2,w2,g.h 1,w1,Y7,hc0,RJ hx,e11];refine⟨fun hlt=>?_,fun hge=>none0 q _ (by rw[hnum,abZ (by omega)];rfl)⟩;obtain⟨z,hz⟩:∃ z,bs[k]?=some z:=⟨_,Y8 (by omega)⟩;have hzr:=hby z (Zb hz);obtain⟨cz,rfl⟩:∃ cz:Nat,z=cz:=⟨z.toNat,by omega⟩;obtain⟨hx0,hcells⟩:0<=x/\∀ j z,bs[j]?=some z->R2.cell x.toNat (y.toNat+j)=some (.int .u8 z):=by
   obtain⟨x',y',c',he,hy',h⟩:=hR;simp only[Value.slice.injEq]at he;obtain⟨hp,_,_⟩:=he;rcases h with ⟨_,h⟩ | ⟨h0,h⟩
   .rw[h]at hz;simp at hz
   .obtain⟨e1,e2⟩:=jG hx hy (by omega) hy' hp;have e2:=e2 (by omega);subst e1 e2;exact⟨h0,h⟩
  have hcell:R2.cell x.toNat (y+(k:Int)).toNat=some (.int .u8 cz):=by
   rw[<-hcells k _ hz];congr 1;omega
  rw[Sn hx,TN hx0 hy,hcell];have hst:=Fw (y:=y') hz;rw[<-hnum]at hst;have ev:cW (some (Value.int .u8 (cz:Int)))=cz:=rfl;rw[ev];have rest:∀ q':Env,q'=q->k<=9->(k=9->cz<=1)->aC q' (.bits .or .u64 (.var 10) (.shl .u64 (.wrap .u64 (.bits .and .u8 (.hI 1 (.hP 2 (.var 0) (.lit 0) 0 0) (.add (.hP 2 (.var 0) (.lit 0) 0 1) (.var 11)) 0) (.lit 127))) (.wrap .i64 (.mul (.lit 7) (.var 11)))))=((y'+cz%128*128 ^ k:Nat):Int):=by
   rintro q' rfl h9 hc9;have hn:=(To hyk h9 (by omega) hc9).1;rw[rl,N0,ar,ar,rl,aQ,aP,aB,aP,aD];simp only[aj,ai];rw[g.i 0,v0,g.h 2,w2,g.h 1,w1,Y7,tn0,Zp,hc0,Sn hx,TN hx0 hy,Zp,e11,hcell,e10];exact hn
  have hw:0<=IntKind.i64.wrap (7*(k:Int)):=by rw[wrap_i64 (by omega) (by omega)];omega
  have m11:IntKind.i64.wrap (q.i 11+1)=k+1:=by rw[e11,wrap_i64 (by omega) (by omega)]
  have fin:∀ mem,tO bs=some (y'+cz*128 ^ k,k+1)->cz<128->k<=9->(k=9->cz<=1)->postOf jC [.pointer (some ⟨a,0,none⟩)] [] [R1,R2] q mem (.tup [.one (.int .u64 (.bits .or .u64 (.var 10) (.shl .u64 (.wrap .u64 (.bits .and .u8 (.hI 1 (.hP 2 (.var 0) (.lit 0) 0 0) (.add (.hP 2 (.var 0) (.lit 0) 0 1) (.var 11)) 0) (.lit 127))) (.wrap .i64 (.mul (.lit 7) (.var 11)))))),.one (.int .i64 (.wrap .i64 (.add (.var 11) (.lit 1))))]):=by
   intro mem hn h128 h9 hc9;refine out q mem _ _ ?_ ?_
   .rw[rest q rfl h9 hc9,aaY h128];unfold fV;rw[hn];rfl
   .show IntKind.i64.wrap (q.i 11+1)=_;rw[m11];unfold fV;rw[hn];rfl
  refine⟨hx0,hy,by omega,rfl,fun h9=>⟨fun h1=>⟨hw,fun h0=>none0 q _ ?_,fun h0=>fin _ ?_ (by omega) (by omega) (by omega)⟩,fun h1=>none0 q _ ?_⟩,fun h9=>⟨fun hg9=>none0 q _ ?_,fun hg9=>⟨hw,fun h128=>⟨fun h0=>⟨fun hk0=>none0 q _ ?_,fun hk0=>fin _ ?_ (by omega) (by omega) (by omega)⟩,fun h0=>fin _ ?_ (by omega) (by omega) (by omega)⟩,fun h128=>⟨⟨k+1,y'+cz%128*128 ^ k,?_,?_,by omega,?_,?_⟩,?_⟩⟩⟩⟩
  .rw[hst,Zo (by omega),ZA (by omega),ZA (by omega)]
  .rw[hst,Zo (by omega),ZA (by omega),Zo (by omega)]
  .rw[hst,ZA (by omega)]
  .rw[hst,ZA (by omega)]
  .rw[hst,Zo (by omega),ZA (by omega),ZA (by omega)]
  .rw[hst,Zo (by omega),ZA (by omega),Zo (by omega)]
  .rw[hst,Zo (by omega),ZA (by omega),Zo (by omega)]
  .show IntKind.i64.wrap (q.i 11+1)=_;rw[m11];omega
  .show aC q _=_;exact rest q rfl (by omega) (by omega)
  .rw[aa8,aa6 (128 ^ k) 128];have:cz%128*128 ^ k<=127*128 ^ k:=abd _ (by omega);omega
  .rw[hst,Zo (by omega),Zo (by omega)]
  .show((bs.length:Int)-IntKind.i64.wrap (q.i 11+1)).toNat<_;rw[m11];omega
theorem C8 {p v:Value} {R1 R2 F:Hl} {Hs K:List Hl} {bs:List Int} {bad:Bool} (h:BU R1 R2 p bs bad) (hp:jC.post [p] Hs [R1,R2] v K F):v=.tuple #[.int .u64 (fV bs).1,.int .i64 (fV bs).2]:=by
 obtain⟨p',S1,S2,bs',bad',hx,hR,hIn,hv⟩:=hp;have hx:p=p':=by simpa using hx
 have hR:R1=S1/\R2=S2:=by simpa using hR
 obtain⟨e1,e2⟩:=hR;subst hx e1 e2;rw[(h.uniq hIn).1];exact hv
end Go.Proofs.YtomdimlnggpgbaaGreatDoor
