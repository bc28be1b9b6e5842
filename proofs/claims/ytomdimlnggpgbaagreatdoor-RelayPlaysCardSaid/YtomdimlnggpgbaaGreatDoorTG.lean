/- RelayPlays. -/
import Derived.Test.YtomdimlnggpgbaaGreatDoorChecked
import Derived.LaidEql
import Derived.Stop.Asserts
import Derived.RowKitTokens
import Derived.Test.YtomdimlnggpgbaaGreatDoorTF
set_option linter.all false
set_option maxHeartbeats 4000000
namespace Go.Proofs.YtomdimlnggpgbaaGreatDoor
open Go Go.RowKit Go.Extern.Stop Go.Stop Go.Extern
def E1 (v:Value) (w:World):(Extern.ReflectliteType.typeOf #[.iface 299 v]).run Tryz.prog w=.ok (.iface 243 (.agg #[.pointer (some ⟨7,299,none⟩)])) w:=by kernel_rfl
def GU:Array Value->Sem Value:=Extern.ReflectliteType.method fun t=>do Extern.Rtype.noPackHeld "Comparable" t;pure (.bool (<-typeInfo t).comparable)
def tM (w:World):(GU #[.agg #[.pointer (some ⟨7,299,none⟩)]]).run Tryz.prog w=.ok (.bool true) w:=by kernel_rfl
def lx (v:Value) (w:World):(Go.method 431 243 v "Comparable").run Tryz.prog w=.ok (238,v) w:=by kernel_rfl
def tP (v:Value) (w:World):(Go.method 431 156 v "Unwrap").run Tryz.prog w=.ok (229,v) w:=by kernel_rfl
def NU:(Tryz.prog.info? 299).map (·.comparable)=some true:=by kernel_rfl
def NW:(Tryz.prog.info? 319).map (·.size)=some 1:=by kernel_rfl
def Sq (v:Value) (xT:TypeId) (w:World):(Instr.typeAssert (.iface 299 v) xT 245 true).run Tryz.prog w=.ok (.tuple #[.nilIface,.bool false]) w:=run_typeAssert_lacksB Tryz.underlying245 (by kernel_rfl) (by kernel_rfl) v xT w
def Bz (v:Value) (xT:TypeId) (w:World):(Instr.typeAssert (.iface 299 v) xT 248 true).run Tryz.prog w=.ok (.tuple #[.nilIface,.bool false]) w:=run_typeAssert_lacksB Tryz.underlying248 (by kernel_rfl) (by kernel_rfl) v xT w
def zE (v:Value) (xT:TypeId) (w:World):(Instr.typeAssert (.iface 299 v) xT 250 true).run Tryz.prog w=.ok (.tuple #[.nilIface,.bool false]) w:=run_typeAssert_lacksB Tryz.underlying250 (by kernel_rfl) (by kernel_rfl) v xT w
def Sr (v:Value) (xT:TypeId) (w:World):(Instr.typeAssert (.iface 156 v) xT 245 true).run Tryz.prog w=.ok (.tuple #[.nilIface,.bool false]) w:=run_typeAssert_lacksB Tryz.underlying245 (by kernel_rfl) (by kernel_rfl) v xT w
def yU (v:Value) (xT:TypeId) (w:World):(Instr.typeAssert (.iface 156 v) xT 248 true).run Tryz.prog w=.ok (.tuple #[.iface 156 v,.bool true]) w:=run_typeAssert_hasB Tryz.underlying248 (by kernel_rfl) v xT w
def TO (b:Addr) (w:World) :
 Calls Tryz.prog 87 #[.nilIface,.iface 299 (.pointer (some b))] w fun e w'=>e=.returned (.bool false)/\w'=w:=by
 have hn:=run_eql_iface_nil_left (P:=Tryz.prog) w 299 (.pointer (some b)) Tryz.underlying107
 go_enter Tryz.func87,Tryz.ntmps87
 go_wp2
 go_ret
 exact⟨rfl,rfl⟩
set_option maxRecDepth 20000 in
def CU (s:ByteArray) (b:Addr) (w:World) :
 Calls Tryz.prog 87 #[.iface 156 (.agg #[.string s,.iface 299 (.pointer (some b))]),.iface 299 (.pointer (some b))] w fun e w'=>e=.returned (.bool true)/\Below w.heap.size w w':=by
 obtain⟨i,hi,hcmp⟩:=aam.1 NU;obtain⟨j,hj,hjs⟩:=aam.1 NW;have h8:=@run_callFunc_extern Tryz.prog 129 _ Extern.ReflectliteType.typeOf Tryz.func129 (by kernel_rfl) (by kernel_rfl) (by kernel_rfl) (by kernel_rfl);have h32:=@run_callFunc_extern Tryz.prog 238 _ GU Tryz.func238 (by kernel_rfl) (by kernel_rfl) (by kernel_rfl) (by kernel_rfl);have tT:=E1;have cT:=tM;have mR:=lx;have mU:=tP;have nE:=Sq;have uE:=Bz;have vE:=zE;have nW:=Sr;have uW:=yU;have heq:=fun w=>run_eql_iface_ptr_same (P:=Tryz.prog) w b Tryz.underlying107 Tryz.underlying299 hi hcmp hj;have hty:=run_eql_iface_types (P:=Tryz.prog) 156 299 (.agg #[.string s,.iface 299 (.pointer (some b))]) (.pointer (some b)) Tryz.underlying107 Sx.aA w
 go_enter Tryz.func87,Tryz.ntmps87
 go_wp2
 refine wp_loop_rounds 2 ?_;rw[rounds_succ]
 go_wp2
 rw[rounds_succ]
 go_wp2
 go_ret
 exact⟨rfl,(Below.refl _ _).alloc (aaw _) _⟩
set_option maxRecDepth 20000 in
def AV (s:ByteArray) (b a:Addr) (ca cb:Array Value) (ta tb:TypeId) (w:World) (hne:a≠b) (ha:w.heap[a.block]?=some (.cells ca ta (0,0))) (hb:w.heap[b.block]?=some (.cells cb tb (0,0))) :
 Calls Tryz.prog 87 #[.iface 156 (.agg #[.string s,.iface 299 (.pointer (some a))]),.iface 299 (.pointer (some b))] w fun e w'=>e=.returned (.bool false)/\Below w.heap.size w w':=by
 obtain⟨i,hi,hcmp⟩:=aam.1 NU;obtain⟨j,hj,hjs⟩:=aam.1 NW;have h8:=@run_callFunc_extern Tryz.prog 129 _ Extern.ReflectliteType.typeOf Tryz.func129 (by kernel_rfl) (by kernel_rfl) (by kernel_rfl) (by kernel_rfl);have h32:=@run_callFunc_extern Tryz.prog 238 _ GU Tryz.func238 (by kernel_rfl) (by kernel_rfl) (by kernel_rfl) (by kernel_rfl);have tT:=E1;have cT:=tM;have mR:=lx;have mU:=tP;have nE:=Sq;have uE:=Bz;have vE:=zE;have nW:=Sr;have uW:=yU;have ha':(w.alloc (.cells #[.string s,.iface 299 (.pointer (some a))] 156)).heap[a.block]?=some (.cells ca ta (0,0)):=(Below.heap_alloc _ _ _ (aaS.1 ha).1).trans ha;have hb':(w.alloc (.cells #[.string s,.iface 299 (.pointer (some a))] 156)).heap[b.block]?=some (.cells cb tb (0,0)):=(Below.heap_alloc _ _ _ (aaS.1 hb).1).trans hb;have heq:=run_eql_iface_ptr_other (P:=Tryz.prog) _ Tryz.underlying107 Tryz.underlying299 hi hcmp hj (by rw[hjs];decide) hne ha' hb';have hty:=run_eql_iface_types (P:=Tryz.prog) 156 299 (.agg #[.string s,.iface 299 (.pointer (some a))]) (.pointer (some b)) Tryz.underlying107 Sx.aA w
 go_enter Tryz.func87,Tryz.ntmps87
 go_wp2
 refine wp_loop_rounds 2 ?_;rw[rounds_succ]
 go_wp2
 rw[rounds_succ]
 go_wp2
 go_ret
 exact⟨rfl,(Below.refl _ _).alloc (aaw _) _⟩
end Go.Proofs.YtomdimlnggpgbaaGreatDoor
namespace Go.Proofs.YtomdimlnggpgbaaGreatDoor
open Go Go.Sx Go.Pk
variable {bad bad' lg lg':Bool}{C N g:E}{q:Env}{A B F G H R R1 R2:Hl}{c c' l x y y' z:Int}{t7:List E}{Hs K Rs:List Hl}{b b2 bs bs' bs2:List Int}{v7:List Nat}{t:Mem}{a k m n:Nat}{p u v:Value}
def Oa (p:List Nat):Bool:=decide (p.length>1)&&!(p.head?==some 99)
def aD:rD:=fun _=>none
def gk (q:Env) (n:Nat):newHs q n 0=[]:=rfl
def gV (q:Env) (n:Nat):newHs q n 1=[q.h n]:=by unfold newHs;rw[List.range_one];rfl
def jh {α:Type} {a:α} {l:List α} : (a::l≠[])=True:=by simp
def gz (a:Nat):Value.pointer (az (a:Int) 0)=.pointer (some ⟨a,0,none⟩):=by rw[au ah];rfl
def ar (bs:List Int):Prop:=∀ b∈bs,0<=b/\b<256
def qp (hl:l=bs.length) (hy:0<=y) (h:bs=[]\/0<=x/\∀ j z,bs[j]?=some z->R.cell x.toNat (y.toNat+j)=some (.int .u8 z)) :
 ((0<=x/\0<=y/\0<=l/\∀ j,j<l.toNat->∃ v,R.cell x.toNat (y.toNat+j)=some v/\v.oneCell'=true)\/l=0)/\bR R x.toNat y.toNat l.toNat=aM bs:=by
 subst hl;rw[aaa];constructor
 .rcases h with h | ⟨hx,h⟩
  .subst h;exact Or.inr rfl
  .exact Or.inl ⟨hx,hy,ah,fun j hj=>⟨_,h j _ (aab hj),rfl⟩⟩
 .unfold bR;apply aaL;intro j;rw[aao,fF];rcases aa9 j bs.length with hj | hj
  .rcases h with h | ⟨hx,h⟩
   .subst h;cases hj
   .rw[aaE hj,aaP,h j _ (aab hj),aab hj];rfl
  .rw[aaq (by simpa using hj),aaq ah];rfl
def Fq (F:Hl) {a:Int} (h:0<=a) (hF:F=Hl.one a.toNat (.cells #[] 5 (0,0))):aN F 5 1 (.slice (az a 0) (Int.toNat 0) (Int.toNat 0)) (Int.toNat 0) []:=by
 subst hF;exact⟨rfl,Or.inr ⟨a.toNat,0,#[],by rw[au h];rfl,Hl.aT _ _,ah,aA,rfl,rfl⟩⟩
def gf:Sx.Spec where
 fn:=84
 own:=[]
 rd:=[0]
 res:=[.one .sl]
 pre:=fun xs Hs Rs=>∃ u bs R,xs=[u]/\Rs=[R]/\fu R u bs/\bs.length<=1000000
 post:=fun xs Hs Rs v Hs' F=>∃ u bs R,xs=[u]/\Rs=[R]/\fu R u bs/\bO F 5 v bs
def tw:aG Tryz.prog [] gf.fn where
 Λ:=aD
 args:=[.sv (.one (.sl (.var 0) (.var 1) (.var 2) (.var 3)))]
 mem:=[.ro 4 [.var 0] false]
 nv:=5
def kX:gf.OK Tryz.prog:=by
 refine Spec.aS (Γ:=[]) (fun _ h=>by cases h) ?_;rintro xs Hs Rs hl1 hl2 ⟨u,bs,R,rfl,rfl,hRd,hlen⟩;have e0:Hs=[]:=aad.1 hl1;subst e0;obtain⟨x,y,c,rfl,hy,hR⟩:=id hRd;refine⟨tw,aO [x,y,bs.length,c] false [Hl.none,Hl.none,Hl.none,Hl.none,R],fun _ _=>True,fun _ _=>0,?_,⟨?_,?_,?_,?_⟩,(fun _ h=>nomatch h),?_⟩
 .show [Value.slice (az x y) ((bs.length:Int)).toNat ((c:Int)).toNat]=_;rw[aaa,aaa]
 .intro r hr ho;simp [tw]at hr;subst hr;cases ho
 .intro r hr ho;simp [tw]at hr;subst hr;exact⟨R,aF,Hl.le_refl _⟩
 .simp [tw]
 .intro r hr;simp [tw]at hr;subst hr;trivial
 .refine aG.read [] [] [] ?_;generalize hρ:aO [x,y,bs.length,c] false [Hl.none,Hl.none,Hl.none,Hl.none,R]=J;have v0:J.i 0=x:=by rw[<-hρ];rfl
  have v1:J.i 1=y:=by rw[<-hρ];rfl
  have v2:J.i 2=bs.length:=by rw[<-hρ];rfl
  have w4:J.h 4=R:=by rw[<-hρ];rfl
  clear hρ;simp only[go_sem,Nat.reduceAdd];refine⟨fun hx _=>?_,fun hx q1 g1 p5=>?_⟩
  .have hnil:bs=[]:=by
    rcases hR with h | ⟨h,_⟩
    .exact h
    .omega
   refine⟨[],[],rfl,rfl,⟨(aY fun k=>if k=0 then -1 else 0),rfl,⟨aap _,aap _,aap _,aap _⟩,zzT⟩,_,bs,R,rfl,rfl,hRd,?_⟩;rw[hnil];exact⟨rfl,Or.inl ⟨rfl,rfl⟩⟩
  .obtain⟨hok,hseg⟩:=qp (R:=R) (x:=x) (y:=y) (l:=(bs.length:Int)) rfl hy hR;have ho0:=Fq (Hl.one (q1.i 5).toNat (.cells #[] 5 (0,0))) p5 rfl;rw[g1.i 0,g1.i 1,g1.i 2,g1.h 4,v0,v1,v2,w4];refine⟨⟨⟨_,ho0⟩,aap _,by simpa using hok,by rw[aaa];unfold maxLen;simp;omega,by rw[aaa];simp;omega⟩,fun q2 g2 ⟨a1,a2,a3,_⟩=>fun _=>?_⟩;have hx2:=a3 _ ho0;rw[hseg,abw]at hx2;refine⟨[],[1],rfl,rfl,⟨(aY fun k=>[q2.i 6,0,q2.i 2,q2.i 7].getD k 0),rfl,⟨a1,aap _,?_,a2⟩,zzT⟩,_,bs,R,rfl,rfl,hRd,?_⟩
   .show 0<=q2.i 2;rw[g2.i 2,g1.i 2,v2];omega
   .show bO (cP [q2.h 6]) _ (.slice (az (q2.i 6) 0) (q2.i 2).toNat (q2.i 7).toNat) bs;rw[aL,g2.i 2,g1.i 2,v2];unfold bO;rw[aaa];simpa using hx2
def c8 (bs:List Int):Nat×Nat:=(tU bs).getD (0,0)
def D5 (R1 R2:Hl) (p:Value) (bs:List Int) (bad:Bool):Prop:=∃ (a:Nat) (x y:Int) (c:Nat),p=.pointer (some ⟨a,0,none⟩)/\R1.cell a 0=some (.slice (az x y) bs.length c)/\R1.cell a 1=some (.bool bad)/\ -1<=x/\0<=y/\nX R2 (.slice (az x y) bs.length c) bs
def D5.uniq {a:List Int} {x y:Bool} (h:D5 R1 R2 p a x) (h':D5 R1 R2 p b y):a=b/\x=y:=by
 obtain⟨a1,x1,y1,c1,e1,h1,h2,_,_,h3⟩:=h;obtain⟨a2,x2,y2,c2,e2,k1,k2,_,_,k3⟩:=h';rw[e1]at e2;simp only[Value.pointer.injEq,aai,Addr.mk.injEq,aat]at e2;subst e2;rw[h1]at k1;have k1:=aa0 k1;rw[<-k1]at k3;rw[h2]at k2;simp only[aai,Value.bool.injEq]at k2;exact⟨h3.uniq k3,k2⟩
def mo:Sx.Spec where
 fn:=124
 own:=[]
 rd:=[0,1000]
 res:=[.one (.int .u64),.one (.int .i64)]
 pre:=fun xs Hs Rs=>∃ p R1 R2 bs bad,xs=[p]/\Rs=[R1,R2]/\D5 R1 R2 p bs bad/\ar bs/\bs.length<=1000000
 post:=fun xs Hs Rs v Hs' F=>∃ p R1 R2 bs bad,xs=[p]/\Rs=[R1,R2]/\D5 R1 R2 p bs bad/\v=.tuple #[.int .u64 (c8 bs).1,.int .i64 (c8 bs).2]
def tV:aG Tryz.prog [] mo.fn where
 Λ:=fun p=>if Oa p then some ⟨0,[(4,TI .u64 (.var 10)),(12,TI .i64 (.var 11))],[],12⟩else none
 args:=[TP (.var 0) (.lit 0)]
 mem:=[.ro 1 [.hP 2 (.var 0) (.lit 0) 0 0] false,.ro 2 [.var 0] false]
 nv:=3
def LL (bs:List Int) (_:Nat) (q:Env):Prop:=∃ k y:Nat,q.i 11=k/\q.i 10=y/\k<=10/\y<128 ^ k/\tU bs=rU (bs.drop k) k y
def Vg (hx:-1<=x) (n c:Nat):bm (some (.slice (az x y) n c)) 0=x:=by
 rcases abu x 0 with h | h
 .obtain rfl:x= -1:=ah;rfl
 .rw[au h];show((x.toNat:Nat):Int)=x;omega
def WX (hx:0<=x) (hy:0<=y) (n c:Nat):bm (some (.slice (az x y) n c)) 1=y:=by
 rw[au hx];show((y.toNat:Nat):Int)=y;omega
def RM (hx:-1<=x) (n c:Nat):bm (some (.slice (az x y) n c)) 2=n:=by
 rcases abu x 0 with h | h
 .obtain rfl:x= -1:=ah;rfl
 .rw[au h];rfl
def HW {y c:Nat} (hc:bs[k]?=some (c:Int)):rU (bs.drop k) k y=if(k=9/\1<c)\/9<k then none else if c<128 then(if c=0/\0<k then none else some (y+c*128 ^ k,k+1))else rU (bs.drop (k+1)) (k+1) (y+(c%128)*128 ^ k):=by
 have hk:=(aaj.1 hc).1;have e:bs.drop k=(c:Int)::bs.drop (k+1):=by
  rw[ac8 hk,(aaj.1 hc).2]
 rw[e];show(if(k=9/\1<(c:Int))\/9<k then none else if(c:Int)<128 then(if(c:Int)=0/\0<k then none else some (y+((c:Int)).toNat*128 ^ k,k+1))else rU (bs.drop (k+1)) (k+1) (y+(((c:Int)).toNat%128)*128 ^ k))=_;rw[aaa];have h1:((1:Int)<(c:Int))↔1<c:=ah;have h2:((c:Int)<128)↔c<128:=ah;have h3:((c:Int)=0)↔c=0:=ah;simp only[h1,h2,h3]
def HZ:mo.OK Tryz.prog:=by
 refine Spec.aS (Γ:=[]) (fun _ h=>by cases h) ?_;rintro xs Hs Rs hl1 hl2 ⟨p,R1,R2,bs,bad,rfl,rfl,hIn,hby,hlen⟩;have e0:Hs=[]:=aad.1 hl1;subst e0;obtain⟨a,x,y,c,rfl,hc0,hc1,hx,hy,hR⟩:=id hIn;refine⟨tV,aO [(a:Int)] false [Hl.none,R2,R1],LL bs,fun _ q=>((bs.length:Int)-q.i 11).toNat,?_,⟨?_,?_,?_,?_⟩,(fun _ h=>nomatch h),?_⟩
 .show [Value.pointer (az (a:Int) 0)]=_;rw[gz]
 .intro r hr ho;simp [tV]at hr;rcases hr with rfl | rfl<;>cases ho
 .intro r hr ho;simp [tV]at hr;rcases hr with rfl | rfl
  .exact⟨R2,aF,Hl.le_refl _⟩
  .exact⟨R1,aF,Hl.le_refl _⟩
 .simp [tV,bD.own]
 .intro r hr;simp [tV]at hr;rcases hr with rfl | rfl<;>trivial
 .refine aG.read [] [] [] ?_;generalize hρ:aO [(a:Int)] false [Hl.none,R2,R1]=J;have v0:J.i 0=a:=by rw[<-hρ];rfl
  have w1:J.h 1=R2:=by rw[<-hρ];rfl
  have w2:J.h 2=R1:=by rw[<-hρ];rfl
  clear hρ;have out:∀ (q:Env) (mem:Mem) (e1 e2:E),aB q e1=(c8 bs).1->aB q e2=(c8 bs).2->postOf mo [.pointer (some ⟨a,0,none⟩)] [] [R1,R2] q mem (.tup [.one (.int .u64 e1),.one (.int .i64 e2)]):=fun q mem e1 e2 h1 h2 _ =>
   ⟨[],[],rfl,rfl,⟨(aY fun k=>if k=0 then(c8 bs).1 else(c8 bs).2),by show Value.tuple #[.int .u64 (aB q e1),.int .i64 (aB q e2)]=_;rw[h1,h2];rfl,zzT,zzT,zzT⟩,_,R1,R2,bs,bad,rfl,rfl,hIn,by show Value.tuple #[.int .u64 (aB q e1),.int .i64 (aB q e2)]=_;rw[h1,h2]⟩
  have none0:∀ (q:Env) (mem:Mem),tU bs=none->postOf mo [.pointer (some ⟨a,0,none⟩)] [] [R1,R2] q mem (.tup [.one (.int .u64 (.lit 0)),.one (.int .i64 (.lit 0))]):=fun q mem h=>out q mem _ _ (by unfold c8;rw[h];rfl) (by unfold c8;rw[h];rfl);have tn0:Int.toNat 0=0:=rfl;simp only[go_sem,Nat.reduceAdd,tn0];rw[v0,w2,aaa,hc0,RM hx];refine⟨ah,rfl,ah,⟨0,0,rfl,rfl,ah,aA,rfl⟩,fun q g ⟨k,y',e11,e10,hk,hyk,hnum⟩=>?_⟩;rw[g.i 0,v0,g.h 2,w2,g.h 1,w1,aaa,hc0,RM hx,e11];refine⟨fun hlt=>?_,fun hge=>none0 q _ (by rw[hnum,adi ah];rfl)⟩;obtain⟨z,hz⟩:∃ z,bs[k]?=some z:=⟨_,aab ah⟩;have hzr:=hby z (aae hz);obtain⟨cz,rfl⟩:∃ cz:Nat,z=cz:=⟨z.toNat,ah⟩;obtain⟨hx0,hcells⟩:0<=x/\∀ j z,bs[j]?=some z->R2.cell x.toNat (y.toNat+j)=some (.int .u8 z):=by
   obtain⟨x',y',c',he,hy',h⟩:=hR;simp only[Value.slice.injEq]at he;obtain⟨hp,_,_⟩:=he;rcases h with ⟨_,h⟩ | ⟨h0,h⟩
   .rw[h]at hz;simp at hz
   .obtain⟨e1,e2⟩:=kG hx hy ah hy' hp;have e2:=e2 ah;subst e1 e2;exact⟨h0,h⟩
  have hcell:R2.cell x.toNat (y+(k:Int)).toNat=some (.int .u8 cz):=by
   rw[<-hcells k _ hz];congr 1;omega
  rw[Vg hx,WX hx0 hy,hcell];have hst:=HW (y:=y') hz;rw[<-hnum]at hst;have ev:bS (some (Value.int .u8 (cz:Int)))=cz:=rfl;rw[ev];have rest:∀ q':Env,q'=q->k<=9->(k=9->cz<=1)->aB q' (.bits .or .u64 (.var 10) (.shl .u64 (.wrap .u64 (.bits .and .u8 (.hI 1 (.hP 2 (.var 0) (.lit 0) 0 0) (.add (.hP 2 (.var 0) (.lit 0) 0 1) (.var 11)) 0) (.lit 127))) (.wrap .i64 (.mul (.lit 7) (.var 11)))))=((y'+cz%128*128 ^ k:Nat):Int):=by
   rintro q' rfl h9 hc9;have hn:=(Ws hyk h9 ah hc9).1;rw[tG,QJ,bx,bx,tG,dw,fk,bJ,fk,cj];simp only[ak,aq];rw[g.i 0,v0,g.h 2,w2,g.h 1,w1,aaa,tn0,aaW,hc0,Vg hx,WX hx0 hy,aaW,e11,hcell,e10];exact hn
  have hw:0<=IntKind.i64.wrap (7*(k:Int)):=by rw[wrap_i64 ah ah];omega
  have m11:IntKind.i64.wrap (q.i 11+1)=k+1:=by rw[e11,wrap_i64 ah ah]
  have fin:∀ mem,tU bs=some (y'+cz*128 ^ k,k+1)->cz<128->k<=9->(k=9->cz<=1)->postOf mo [.pointer (some ⟨a,0,none⟩)] [] [R1,R2] q mem (.tup [.one (.int .u64 (.bits .or .u64 (.var 10) (.shl .u64 (.wrap .u64 (.bits .and .u8 (.hI 1 (.hP 2 (.var 0) (.lit 0) 0 0) (.add (.hP 2 (.var 0) (.lit 0) 0 1) (.var 11)) 0) (.lit 127))) (.wrap .i64 (.mul (.lit 7) (.var 11)))))),.one (.int .i64 (.wrap .i64 (.add (.var 11) (.lit 1))))]):=by
   intro mem hn h128 h9 hc9;refine out q mem _ _ ?_ ?_
   .rw[rest q rfl h9 hc9,aca h128];unfold c8;rw[hn];rfl
   .show IntKind.i64.wrap (q.i 11+1)=_;rw[m11];unfold c8;rw[hn];rfl
  refine⟨hx0,hy,ah,rfl,fun h9=>⟨fun h1=>⟨hw,fun h0=>none0 q _ ?_,fun h0=>fin _ ?_ ah ah ah⟩,fun h1=>none0 q _ ?_⟩,fun h9=>⟨fun hg9=>none0 q _ ?_,fun hg9=>⟨hw,fun h128=>⟨fun h0=>⟨fun hk0=>none0 q _ ?_,fun hk0=>fin _ ?_ ah ah ah⟩,fun h0=>fin _ ?_ ah ah ah⟩,fun h128=>⟨⟨k+1,y'+cz%128*128 ^ k,?_,?_,ah,?_,?_⟩,?_⟩⟩⟩⟩
  .rw[hst,aan ah,aav ah,aav ah]
  .rw[hst,aan ah,aav ah,aan ah]
  .rw[hst,aav ah]
  .rw[hst,aav ah]
  .rw[hst,aan ah,aav ah,aav ah]
  .rw[hst,aan ah,aav ah,aan ah]
  .rw[hst,aan ah,aav ah,aan ah]
  .show IntKind.i64.wrap (q.i 11+1)=_;rw[m11];omega
  .show aB q _=_;exact rest q rfl ah ah
  .rw[ack,aci (128 ^ k) 128];have:cz%128*128 ^ k<=127*128 ^ k:=acq _ ah;omega
  .rw[hst,aan ah,aan ah]
  .show((bs.length:Int)-IntKind.i64.wrap (q.i 11+1)).toNat<_;rw[m11];omega
def wB (h:D5 R1 R2 p bs bad) (hp:mo.post [p] Hs [R1,R2] v K F):v=.tuple #[.int .u64 (c8 bs).1,.int .i64 (c8 bs).2]:=by
 obtain⟨p',S1,S2,bs',bad',hx,hR,hIn,hv⟩:=hp;have hx:p=p':=by simpa using hx
 have hR:R1=S1/\R2=S2:=by simpa using hR
 obtain⟨e1,e2⟩:=hR;subst hx e1 e2;rw[(h.uniq hIn).1];exact hv
def JC (a:Nat) (x y c:Int) (n:Nat) (bad:Bool):Hl:=Hl.one a (.cells #[.slice (az x y) ((n:Int)).toNat c.toNat,.bool bad] 203 (0,0))
structure AO (H:Hl) (a:Nat) (x y c:Int) (F:Hl) (bs:List Int) (bad:Bool):Prop where
 rx:-1<=x
 ry:0<=y
 rc:(bs.length:Int)<=c
 byte:ar bs
 len:bs.length<=1000000
 rd:nX F (.slice (az x y) ((bs.length:Int)).toNat c.toNat) bs
 na:¬F.mem a
 hl:H=cP [JC a x y c bs.length bad,F]
def gH (H:Hl) (p:Value) (bs:List Int) (bad:Bool):Prop:=∃ a x y c F,p=.pointer (some ⟨a,0,none⟩)/\AO H a x y c F bs bad
def FE (h:F.le G) (hr:nX F v bs):nX G v bs:=by
 obtain⟨x,y,c,e,hy,hr⟩:=hr;refine⟨x,y,c,e,hy,hr.imp id fun⟨h0,hc⟩=>⟨h0,fun j z hz=>?_⟩⟩;have:=hc j z hz;unfold Hl.cell at this ⊢;cases hF:F x.toNat with
 | none=>rw[hF]at this;cases this
 | some o=>rw[h _ _ hF];rw[hF]at this;exact this
section
variable {H F:Hl} {a:Nat} {x y c:Int} {bs:List Int} {bad:Bool}
def AO.le (h:AO H a x y c F bs bad):(JC a x y c bs.length bad).le H/\F.le H:=by
 have hd:(JC a x y c bs.length bad).bP F:=Hl.gl.2 h.na;rw[h.hl];show(JC a x y c bs.length bad).le ((JC a x y c bs.length bad).un (F.un Hl.none))/\F.le ((JC a x y c bs.length bad).un (F.un Hl.none));rw[Hl.my];exact⟨Hl.bh _ _,Hl.bC hd⟩
def AO.split (h:AO H a x y c F bs bad):D5 (JC a x y c bs.length bad) F (.pointer (some ⟨a,0,none⟩)) bs bad:=by
 have hrd:=h.rd;rw[aaa]at hrd;refine⟨a,x,y,c.toNat,rfl,?_,?_,h.rx,h.ry,hrd⟩
 .unfold JC Hl.cell;rw[Hl.aT,aaa];rfl
 .unfold JC Hl.cell;rw[Hl.aT];rfl
def gH.whole (h:gH H p bs bad):D5 H H p bs bad:=by
 obtain⟨a,x,y,c,F,rfl,h⟩:=h;obtain⟨l1,l2⟩:=h.le;obtain⟨a',x',y',c',e,h1,h2,h3,h4,h5⟩:=h.split;simp only[Value.pointer.injEq,aai,Addr.mk.injEq,aat]at e;subst e;have up:∀ j v,(JC a x y c bs.length bad).cell a j=some v->H.cell a j=some v:=by
  intro j v hv;have e:=l1 a _ (Hl.aT _ _);unfold JC Hl.cell at hv;rw[Hl.aT]at hv;unfold Hl.cell;rw[e];exact hv
 exact⟨a,x',y',c',rfl,up 0 _ h1,up 1 _ h2,h3,h4,FE l2 h5⟩
def gH.uniq (h:gH H p bs bad) (h':gH H p bs' bad'):bs=bs'/\bad=bad':=h.whole.uniq h'.whole
def gH.byte (h:gH H p bs bad):ar bs/\bs.length<=1000000:=by
 obtain⟨a,x,y,c,F,_,h⟩:=h;exact⟨h.byte,h.len⟩
end
def tK:Mem:=[.bd 0 [.sl (.var 1) (.var 2) (.var 3) (.var 4),.bool (.bvar 6)] 203,.hp 7 [] [.var 1] []]
def nA (a:Nat) (x y c:Int) (bs:List Int) (bad:Bool) (F:Hl) (z:Int):Env:=aO [(a:Int),x,y,bs.length,c,z] bad [Hl.none,Hl.none,Hl.none,Hl.none,Hl.none,Hl.none,Hl.none,F]
section
variable {H F:Hl} {a:Nat} {x y c:Int} {bs:List Int} {bad:Bool}
def xH (h:AO H a x y c F bs bad) (z:Int):Entry (nA a x y c bs bad F z) tK [H] []:=by
 obtain⟨l1,l2⟩:=h.le;have hb:(bD.bd 0 [.sl (.var 1) (.var 2) (.var 3) (.var 4),.bool (.bvar 6)] 203).hl (nA a x y c bs bad F z)=JC a x y c bs.length bad:=by
  show Hl.one ((a:Int)).toNat (.cells #[.slice (az x y) ((bs.length:Int)).toNat c.toNat,.bool bad] 203 (0,0))=_;rw[aaa];rfl
 refine⟨fun r hr ho=>⟨H,aF,?_⟩,fun r hr ho=>?_,?_,fun r hr=>?_⟩
 .simp only[tK,aar,aaB,abe]at hr;rcases hr with rfl | rfl
  .rw[hb];exact l1
  .exact l2
 .simp only[tK,aar,aaB,abe]at hr;rcases hr with rfl | rfl<;>cases ho
 .unfold tK;refine List.Pairwise.cons (fun r hr _ _=>?_) (List.Pairwise.cons (fun r hr=>by cases hr) List.Pairwise.nil);rw[aal]at hr;subst hr;rw[hb];exact Hl.gl.2 h.na
 .simp only[tK,aar,aaB,abe]at hr;rcases hr with rfl | rfl
  .show(0:Int)<=(a:Int);omega
  .trivial
def zc (h:AO H a x y c F bs bad) (hq:ai 8 (nA a x y c bs bad F z) q) {Y:E} (hY:aB q Y=y') (hN:aB q N=bs'.length) (hC:aB q C=c') (hg:ba q g=bad') (hy:0<=y') (hc:(bs'.length:Int)<=c') (hb:ar bs') (hl:bs'.length<=bs.length) (hr:nX F (.slice (az x y') ((bs'.length:Int)).toNat c'.toNat) bs') :
 gH (xg q (.bd 0 [.sl (.var 1) Y N C,.bool g] 203::.hp 7 v7 t7 []::t) [0,1]) (.pointer (some ⟨a,0,none⟩)) bs' bad':=by
 have hlen:=h.len;refine⟨a,x,y',c',F,rfl,h.rx,hy,hc,hb,ah,hr,h.na,?_⟩;show cP [Hl.one (q.i 0).toNat (.cells #[.slice (az (q.i 1) (aB q Y)) (aB q N).toNat (aB q C).toNat,.bool (ba q g)] 203 (0,0)),q.h 7]=_;rw[hY,hN,hC,hg,hq.i 0,hq.i 1,hq.h 7];show cP [Hl.one ((a:Int)).toNat _,F]=_;rw[aaa];rfl
def gL (h:ar bs) (m:Nat):ar (bs.drop m):=fun b hb=>h b (abU hb)
def qT (h:AO H a x y c F bs bad) (hm:m<=bs.length):nX F (.slice (az x (if c=m then y else y+m)) (((bs.drop m).length:Int)).toNat (c-m).toNat) (bs.drop m):=by
 obtain⟨_,hr⟩:=h.rd.at h.rx h.ry ah;have hy:=h.ry;refine⟨x,if c=m then y else y+m,(c-m).toNat,by rw[aaa],by split<;>omega,?_⟩;rcases hr with ⟨h1,h2⟩ | ⟨h0,hc⟩
 .left;exact⟨h1,by rw[h2];simp⟩
 .right;refine⟨h0,fun j z hz=>?_⟩;rw[aaV]at hz;have hj:=(aaj.1 hz).1;have hrc:=h.rc;rw[aan ah,show(y+(m:Int)).toNat+j=y.toNat+(m+j)by omega];exact hc _ z hz
end
def nx (q:Env) (C M Y:E):aB q (.ite (.eq C M) Y (.add Y M))=if aB q C=aB q M then aB q Y else aB q Y+aB q M:=by
 simp only[cG,gn,bJ]
def nC (bs:List Int) (bad:Bool) (most:Int):Int×List Int×Bool:=if bad=true\/(c8 bs).2=0\/most<((c8 bs).1:Int)then(0,bs,true)else((c8 bs).1,bs.drop (c8 bs).2,false)
def ml (bs:List Int) (bad:Bool) (n:Int):List Int×List Int×Bool:=if bad=true\/n<0\/(bs.length:Int)<n then([],bs,true)else(bs.take n.toNat,bs.drop n.toNat,false)
def bf (bs:List Int) (bad:Bool) (most:Int):List Int×List Int×Bool :=
 if bad=true\/(c8 bs).2=0\/most<0\/min (min most 4096) ((bs.length:Int)-(c8 bs).2)<((c8 bs).1:Int)then([],bs,true)else((bs.drop (c8 bs).2).take (c8 bs).1,bs.drop ((c8 bs).2+(c8 bs).1),false)
def j9 (bs:List Int) (bad:Bool):Bool×List Int×Bool:=if bad=true\/bs=[]\/1<bs.getD 0 0 then(false,bs,true)else(decide (bs.getD 0 0=1),bs.drop 1,false)
def JQ (hb:ar bs):(c8 bs).2<=bs.length/\(c8 bs).1<18446744073709551616:=by
 unfold c8;cases h:tU bs with
 | none=>exact⟨abi _,aA⟩
 | some r =>
  obtain⟨x,m⟩:=r;obtain⟨_,h2,_,h4⟩:=BD hb h;exact⟨h2,h4⟩
def oL:Sx.Spec where
 fn:=80
 own:=[]
 rd:=[0]
 res:=[.one .ptr]
 pre:=fun xs Hs Rs=>∃ u bs R,xs=[u]/\Rs=[R]/\fu R u bs/\ar bs/\bs.length<=1000000
 post:=fun xs Hs Rs v Hs' F=>∃ u bs R,xs=[u]/\Rs=[R]/\fu R u bs/\gH F v bs false
def fN:Sx.Spec where
 fn:=110
 own:=[.arg 0]
 rd:=[]
 res:=[.one (.int .u64)]
 pre:=fun xs Hs Rs=>∃ p most H bs bad,xs=[p,.int .u64 most]/\Hs=[H]/\gH H p bs bad
 post:=fun xs Hs Rs v Hs' F=>∃ p most H bs bad H',xs=[p,.int .u64 most]/\Hs=[H]/\gH H p bs bad/\Hs'=[H']/\gH H' p (nC bs bad most).2.1 (nC bs bad most).2.2/\v=.int .u64 (nC bs bad most).1
def Ht:List Sx.Spec:=[mo,gf]
def zd:∀ t∈Ht,t.OK Tryz.prog:=av HZ <| av kX <| bQ
def Xx:mo.res=[.one (.int .u64),.one (.int .i64)]:=rfl
def Xy:gf.res=[.one .sl]:=rfl
def V8:(aK 0 [Cp.one .sl]≠[])=True:=by simp [aK,Cp.roots,Ck.root]
def TM:aG Tryz.prog Ht fN.fn where
 Λ:=aD
 args:=[TP (.var 0) (.lit 0),TI .u64 (.var 5)]
 mem:=tK
 nv:=8
def EV (h0:q.i 0=a) (h1:q.i 1=x) (h2:q.i 2=y) (h3:q.i 3=n) (h4:q.i 4=c) (h6:q.b 6=bad) :
 Hl.one (q.i 0).toNat (.cells #[.slice (az (q.i 1) (q.i 2)) (q.i 3).toNat (q.i 4).toNat,.bool (ba q (.bvar 6))] 203 (0,0))=JC a x y c n bad:=by
 rw[br,h0,h1,h2,h3,h4,h6,aaa];rfl
def QY:fN.OK Tryz.prog:=by
 refine Spec.aS (Γ:=Ht) zd ?_;rintro xs Hs Rs hl1 hl2 ⟨p,most,H,bs,bad,rfl,rfl,a,x,y,c,F,rfl,h⟩;have e1:Rs=[]:=aad.1 hl2;subst e1;refine⟨TM,nA a x y c bs bad F most,fun _ _=>True,fun _ _=>0,?_,xH h most,(fun _ h=>nomatch h),?_⟩
 .show [Value.pointer (az (a:Int) 0),Value.int .u64 most]=_;rw[gz]
 .refine aG.read [] [] [] ?_;generalize hρ:nA a x y c bs bad F most=J;have v0:J.i 0=a:=by rw[<-hρ];rfl
  have v1:J.i 1=x:=by rw[<-hρ];rfl
  have v2:J.i 2=y:=by rw[<-hρ];rfl
  have v3:J.i 3=bs.length:=by rw[<-hρ];rfl
  have v4:J.i 4=c:=by rw[<-hρ];rfl
  have v5:J.i 5=most:=by rw[<-hρ];rfl
  have b6:J.b 6=bad:=by rw[<-hρ];rfl
  have w7:J.h 7=F:=by rw[<-hρ];rfl
  obtain⟨hn1,hn2⟩:=JQ h.byte;have hrx:=h.rx;have hry:=h.ry;have hrc:=h.rc;have out:∀ (q:Env) (Y N C g e:E) (m:Nat) (t:Mem) (bad':Bool) (r:Int),ai 8 J q->m<=bs.length->aB q Y=(if c=m then y else y+m)->aB q N=bs.length-m->aB q C=c-m->ba q g=bad'->aB q e=r->nC bs bad most=(r,bs.drop m,bad') ->
   postOf fN [.pointer (some ⟨a,0,none⟩),.int .u64 most] [H] [] q (.bd 0 [.sl (.var 1) Y N C,.bool g] 203::.hp 7 [] [.var 1] []::t) (.sv (.one (.int .u64 e))):=by
   intro q Y N C g e m t bad' r hq hm hY hN hC hg he hs _;rw[<-hρ]at hq;refine⟨[[0,1]],[],rfl,rfl,⟨(aY fun _=>r),by show Value.int .u64 (aB q e)=_;rw[he];rfl,zzT,zzT⟩,_,most,H,bs,bad,_,rfl,rfl,⟨a,x,y,c,F,rfl,h⟩,rfl,?_,by show Value.int .u64 (aB q e)=_;rw[hs,he]⟩;rw[hs];have hd:((bs.drop m).length:Int)=bs.length-m:=by rw[aaK];omega
   exact zc h hq hY (by rw[hN,hd]) hC hg (by split<;>omega) (by rw[hd];omega) (gL h.byte m) (by rw[aaK];omega) (qT h hm)
  have same:∀ (q:Env) (t:Mem),ai 8 J q->bad=true\/(c8 bs).2=0\/most<((c8 bs).1:Int)->postOf fN [.pointer (some ⟨a,0,none⟩),.int .u64 most] [H] [] q (.bd 0 [.sl (.var 1) (.var 2) (.var 3) (.var 4),.bool .tt] 203::.hp 7 [] [.var 1] []::t) (.sv (.one (.int .u64 (.lit 0)))):=by
   intro q t hq hf;refine out q _ _ _ _ _ 0 t true 0 hq (abi _) ?_ ?_ ?_ rfl rfl ?_
   .show q.i 2=_;rw[hq.i 2,v2];split<;>omega
   .show q.i 3=_;rw[hq.i 3,v3];omega
   .show q.i 4=_;rw[hq.i 4,v4];omega
   .unfold nC;rw[aav hf];rfl
  simp only[go_sem,Nat.reduceAdd,Ht,Xx,Xy,V8];rw[EV v0 v1 v2 v3 v4 b6,v0,gz,w7];refine⟨⟨_,_,_,bs,bad,rfl,rfl,h.split,h.byte,h.len⟩,fun q g ⟨F1,hp,_,_⟩=>?_⟩;have hv:=wB h.split hp;have hv:q.i 8=(c8 bs).1/\q.i 9=(c8 bs).2:=by simpa using hv
  obtain⟨h8,h9⟩:=hv;rw[g.b 6,b6,h9,g.i 5,v5,h8,g.i 1,v1,g.i 2,v2,g.i 3,v3,g.i 4,v4];refine⟨fun hb=>⟨fun hz=>⟨fun hlt=>same q _ g (Or.inr (Or.inr hlt)),fun hge=>⟨ah,hry,ah,ah,hrc,?_⟩⟩,fun hz=>same q _ g (Or.inr (Or.inl ah))⟩,fun hb=>same q _ g (Or.inl hb)⟩;refine out q _ _ _ _ _ (c8 bs).2 _ false (c8 bs).1 g hn1 ?_ ?_ ?_ ?_ h8 ?_
  .rw[nx,ak,ak,ak,h9,g.i 4,v4,g.i 2,v2]
  .show q.i 3-q.i 9=_;rw[h9,g.i 3,v3]
  .show q.i 4-q.i 9=_;rw[h9,g.i 4,v4]
  .show q.b 6=_;rw[g.b 6,b6];exact abC.2 hb
  .unfold nC;have hne:¬(bad=true\/(c8 bs).2=0\/most<((c8 bs).1:Int)):=by
    rintro(e | e | e)
    .exact hb e
    .exact hz ah
    .exact hge e
   rw[aan hne]
def Ab:aG Tryz.prog Ht oL.fn where
 Λ:=aD
 args:=[.sv (.one (.sl (.var 0) (.var 1) (.var 2) (.var 3)))]
 mem:=[.ro 4 [.var 0] false]
 nv:=5
def oh (h:fu R u bs) (hp:gf.post [u] Hs [R] v K F):bO F 5 v bs:=by
 obtain⟨u',bs',R',hx,hR,hB,hO⟩:=hp;have hx:u=u':=by simpa using hx
 have hR:R=R':=by simpa using hR
 subst hx hR;rw[h.uniq hB];exact hO
def Q1 {e:TypeId} (h:bO F e (.slice (az x y) l.toNat c.toNat) bs) (hl:0<=l) (hc:0<=c):l<=c:=by
 obtain⟨_,h⟩:=h;rcases h with ⟨h,_⟩ | ⟨g,cap,cur,h,_,hle,_⟩
 .simp only[Value.slice.injEq]at h;omega
 .simp only[Value.slice.injEq]at h;omega
def vl:oL.OK Tryz.prog:=by
 refine Spec.aS (Γ:=Ht) zd ?_;rintro xs Hs Rs hl1 hl2 ⟨u,bs,R,rfl,rfl,hRd,hby,hlen⟩;have e0:Hs=[]:=aad.1 hl1;subst e0;obtain⟨x,y,c,rfl,hy,hR⟩:=id hRd;refine⟨Ab,aO [x,y,bs.length,c] false [Hl.none,Hl.none,Hl.none,Hl.none,R],fun _ _=>True,fun _ _=>0,?_,⟨?_,?_,?_,?_⟩,(fun _ h=>nomatch h),?_⟩
 .show [Value.slice (az x y) ((bs.length:Int)).toNat ((c:Int)).toNat]=_;rw[aaa,aaa]
 .intro r hr ho;simp [Ab]at hr;subst hr;cases ho
 .intro r hr ho;simp [Ab]at hr;subst hr;exact⟨R,aF,Hl.le_refl _⟩
 .simp [Ab]
 .intro r hr;simp [Ab]at hr;subst hr;trivial
 .refine aG.read [] [] [] ?_;generalize hρ:aO [x,y,bs.length,c] false [Hl.none,Hl.none,Hl.none,Hl.none,R]=J;have v0:J.i 0=x:=by rw[<-hρ];rfl
  have v1:J.i 1=y:=by rw[<-hρ];rfl
  have v2:J.i 2=bs.length:=by rw[<-hρ];rfl
  have v3:J.i 3=c:=by rw[<-hρ];rfl
  have w4:J.h 4=R:=by rw[<-hρ];rfl
  clear hρ;simp only[go_sem,Nat.reduceAdd,Ht,Xx,Xy,V8];rw[v0,v1,v2,v3,w4,aaa,aaa];refine⟨⟨_,bs,R,rfl,rfl,hRd,hlen⟩,fun q1 g1 ⟨F1,hp,hF,⟨⟨n5,n6,n7,n8⟩,_⟩⟩ q2 g2 p9 hd=>?_⟩;have hO:=oh hRd hp;rw[<-hF zzT]at hO;have n5:-1<=q1.i 5:=n5;have n6:0<=q1.i 6:=n6;have n7:0<=q1.i 7:=n7;have n8:0<=q1.i 8:=n8;have hcap:=Q1 hO n7 n8;have hrd:=hO.rd;have hl:=(hrd.at n5 n6 n7).1;rw[hl]at hrd hcap;have h12:=hd 2 1 _ _ aA rfl rfl rfl;have h12:(Hl.one (q2.i 9).toNat _).bP (q2.h 5):=h12;rw[g2.h 5]at h12;refine⟨[],[2,1],rfl,rfl,⟨(aY fun k=>if k=0 then q2.i 9 else 0),rfl,⟨by show -1<=q2.i 9;omega,aap _⟩,zzT⟩,_,bs,R,rfl,rfl,hRd,(q2.i 9).toNat,q1.i 5,q1.i 6,q1.i 8,q1.h 5,?_,⟨n5,n6,hcap,hby,hlen,hrd,Hl.gl.1 h12,?_⟩⟩
  .show Value.pointer (az (q2.i 9) 0)=_;rw[au p9];rfl
  .show cP [Hl.one (q2.i 9).toNat (.cells #[.slice (az (q2.i 5) (q2.i 6)) (q2.i 7).toNat (q2.i 8).toNat,.bool false] 203 (0,0)),q2.h 5]=_;rw[g2.i 5,g2.i 6,g2.i 7,g2.i 8,g2.h 5,hl];rfl
def J6 (h:AO H a x y c F bs bad) (hm:m+k<=bs.length) (c':Nat):fu F (.slice (az x (if c=m then y else y+m)) k c') ((bs.drop m).take k):=by
 obtain⟨x',y',c2,he,hy',hr⟩:=(qT h (m:=m) ah).w;simp only[Value.slice.injEq]at he;refine⟨x',y',c',?_,hy',?_⟩
 .rw[he.1,aaA,aaK,ado ah]
 .rcases hr with h0 | ⟨h0,hc⟩
  .left;rw[h0];simp
  .right;refine⟨h0,fun j z hz=>hc j z ?_⟩;rw[aaX]at hz;split at hz
   .exact hz
   .cases hz
def Ij:Sx.Spec where
 fn:=126
 own:=[.arg 0]
 rd:=[]
 res:=[.one .sl]
 pre:=fun xs Hs Rs=>∃ p n H bs bad,xs=[p,.int .i64 n]/\Hs=[H]/\gH H p bs bad
 post:=fun xs Hs Rs v Hs' F=>∃ p n H bs bad H',xs=[p,.int .i64 n]/\Hs=[H]/\gH H p bs bad/\Hs'=[H']/\gH H' p (ml bs bad n).2.1 (ml bs bad n).2.2/\bO F 5 v (ml bs bad n).1
def Y8:aG Tryz.prog Ht Ij.fn where
 Λ:=aD
 args:=[TP (.var 0) (.lit 0),TI .i64 (.var 5)]
 mem:=tK
 nv:=8
def nJ (F:Hl) (e:TypeId):bO F e (.slice none 0 0) []:=⟨rfl,Or.inl ⟨rfl,rfl⟩⟩
def Rq:Ij.OK Tryz.prog:=by
 refine Spec.aS (Γ:=Ht) zd ?_;rintro xs Hs Rs hl1 hl2 ⟨p,n,H,bs,bad,rfl,rfl,a,x,y,c,F,rfl,h⟩;have e1:Rs=[]:=aad.1 hl2;subst e1;refine⟨Y8,nA a x y c bs bad F n,fun _ _=>True,fun _ _=>0,?_,xH h n,(fun _ h=>nomatch h),?_⟩
 .show [Value.pointer (az (a:Int) 0),Value.int .i64 n]=_;rw[gz]
 .refine aG.read [] [] [] ?_;generalize hρ:nA a x y c bs bad F n=J;have v1:J.i 1=x:=by rw[<-hρ];rfl
  have v2:J.i 2=y:=by rw[<-hρ];rfl
  have v3:J.i 3=bs.length:=by rw[<-hρ];rfl
  have v4:J.i 4=c:=by rw[<-hρ];rfl
  have v5:J.i 5=n:=by rw[<-hρ];rfl
  have b6:J.b 6=bad:=by rw[<-hρ];rfl
  have w7:J.h 7=F:=by rw[<-hρ];rfl
  have hrx:=h.rx;have hry:=h.ry;have hrc:=h.rc;have fail:∀ (t:Mem),bad=true\/n<0\/(bs.length:Int)<n->postOf Ij [.pointer (some ⟨a,0,none⟩),.int .i64 n] [H] [] J (.bd 0 [.sl (.var 1) (.var 2) (.var 3) (.var 4),.bool .tt] 203::.hp 7 [] [.var 1] []::t) (.sv (.one (.sl (.lit (-1)) (.lit 0) (.lit 0) (.lit 0)))):=by
   intro t hf _;have hq:ai 8 (nA a x y c bs bad F n) J:=by rw[hρ];exact ai.refl _ _
   have hs:ml bs bad n=([],bs,true):=by unfold ml;rw[aav hf]
   refine⟨[[0,1]],[],rfl,rfl,⟨(aY fun k=>if k=0 then -1 else 0),rfl,⟨aap _,aap _,aap _,aap _⟩,zzT⟩,_,n,H,bs,bad,_,rfl,rfl,⟨a,x,y,c,F,rfl,h⟩,rfl,?_,?_⟩
   .rw[hs];exact zc h hq (show aB J (.var 2)=y from v2) (show aB J (.var 3)=_ from v3) (show aB J (.var 4)=c from v4) rfl hry hrc h.byte (aaw _) h.rd
   .rw[hs];exact nJ _ _
  simp only[go_sem,Nat.reduceAdd,Ht,Xx,Xy,V8];rw[b6,v1,v2,v3,v4,v5,w7];refine⟨fun hb=>⟨fun hn=>⟨ah,fun hlt=>fail _ (Or.inr (Or.inr hlt)),fun hge=>⟨hrx,hry,ah,?_⟩⟩,fun hn=>fail _ (Or.inr (Or.inl hn))⟩,fun hb=>fail _ (Or.inl hb)⟩;have ht:=J6 h (m:=0) (k:=n.toNat) ah c.toNat;rw[acI,show(if c=((0:Nat):Int)then y else y+((0:Nat):Int))=y by split<;>omega]at ht;refine⟨⟨_,_,F,rfl,rfl,ht,by rw[aaA];have:=h.len;omega⟩,fun q g ⟨F1,hp,hF,hnm⟩=>?_⟩;have hO:=oh ht hp;rw[<-hF zzT]at hO;rw[g.i 5,g.i 3,g.i 4,v3,v4,v5];refine⟨ah,hrc,fun _=>?_⟩;have hs:ml bs bad n=(bs.take n.toNat,bs.drop n.toNat,false):=by
   unfold ml;have:¬(bad=true\/n<0\/(bs.length:Int)<n):=by
    rintro(e | e | e)
    .exact hb e
    .exact hn e
    .exact hge e
   rw[aan this]
  rw[<-hρ]at g;refine⟨[[0,1]],[2],rfl,rfl,⟨(aY fun k=>q.i (8+k)),rfl,hnm.1,zzT⟩,_,n,H,bs,bad,_,rfl,rfl,⟨a,x,y,c,F,rfl,h⟩,rfl,?_,?_⟩
  .rw[hs];have hd:((bs.drop n.toNat).length:Int)=bs.length-n:=by rw[aaK];omega
   have hr:=qT h (m:=n.toNat) ah;rw[show((n.toNat:Nat):Int)=n by omega]at hr;refine zc h g ?_ ?_ ?_ ?_ (y':=if c=n then y else y+n) (by split<;>omega) (c':=c-n) (by rw[hd];omega) (gL h.byte _) (by rw[aaK];omega) hr
   .rw[nx,ak,ak,ak,g.i 4,g.i 5,g.i 2];rfl
   .show q.i 3-q.i 5=_;rw[hd,g.i 3,g.i 5];rfl
   .show q.i 4-q.i 5=_;rw[g.i 4,g.i 5];rfl
   .show q.b 6=_;rw[g.b 6];exact abC.2 hb
  .rw[hs];show bO (cP [q.h 8]) _ _ _;rw[aL];exact hO
def xd:Sx.Spec where
 fn:=82
 own:=[.arg 0]
 rd:=[]
 res:=[.one .sl]
 pre:=fun xs Hs Rs=>∃ p most H bs bad,xs=[p,.int .i64 most]/\Hs=[H]/\gH H p bs bad/\most<=1000000
 post:=fun xs Hs Rs v Hs' F=>∃ p most H bs bad H',xs=[p,.int .i64 most]/\Hs=[H]/\gH H p bs bad/\Hs'=[H']/\gH H' p (bf bs bad most).2.1 (bf bs bad most).2.2/\bO F 5 v (bf bs bad most).1
def W2:aG Tryz.prog Ht xd.fn where
 Λ:=aD
 args:=[TP (.var 0) (.lit 0),TI .i64 (.var 5)]
 mem:=tK
 nv:=8
def QL {a b:Int} : (if a<b then a else b)=min a b:=by split<;>omega
def Gj:xd.OK Tryz.prog:=by
 refine Spec.aS (Γ:=Ht) zd ?_;rintro xs Hs Rs hl1 hl2 ⟨p,most,H,bs,bad,rfl,rfl,⟨a,x,y,c,F,rfl,h⟩,hmost⟩;have e1:Rs=[]:=aad.1 hl2;subst e1;refine⟨W2,nA a x y c bs bad F most,fun _ _=>True,fun _ _=>0,?_,xH h most,(fun _ h=>nomatch h),?_⟩
 .show [Value.pointer (az (a:Int) 0),Value.int .i64 most]=_;rw[gz]
 .refine aG.read [] [] [] ?_;generalize hρ:nA a x y c bs bad F most=J;have v0:J.i 0=a:=by rw[<-hρ];rfl
  have v1:J.i 1=x:=by rw[<-hρ];rfl
  have v2:J.i 2=y:=by rw[<-hρ];rfl
  have v3:J.i 3=bs.length:=by rw[<-hρ];rfl
  have v4:J.i 4=c:=by rw[<-hρ];rfl
  have v5:J.i 5=most:=by rw[<-hρ];rfl
  have b6:J.b 6=bad:=by rw[<-hρ];rfl
  have w7:J.h 7=F:=by rw[<-hρ];rfl
  obtain⟨hn1,hn2⟩:=JQ h.byte;have hrx:=h.rx;have hry:=h.ry;have hrc:=h.rc;have hlen:=h.len;have fail:∀ (q:Env) (t:Mem),ai 8 J q->bad=true\/(c8 bs).2=0\/most<0\/min (min most 4096) ((bs.length:Int)-(c8 bs).2)<((c8 bs).1:Int)->postOf xd [.pointer (some ⟨a,0,none⟩),.int .i64 most] [H] [] q (.bd 0 [.sl (.var 1) (.var 2) (.var 3) (.var 4),.bool .tt] 203::.hp 7 [] [.var 1] []::t) (.sv (.one (.sl (.lit (-1)) (.lit 0) (.lit 0) (.lit 0)))):=by
   intro q t hq hf _;have hs:bf bs bad most=([],bs,true):=by unfold bf;rw[aav hf]
   refine⟨[[0,1]],[],rfl,rfl,⟨(aY fun k=>if k=0 then -1 else 0),rfl,⟨aap _,aap _,aap _,aap _⟩,zzT⟩,_,most,H,bs,bad,_,rfl,rfl,⟨a,x,y,c,F,rfl,h⟩,rfl,?_,?_⟩
   .rw[hs];have k2:aB q (.var 2)=y:=by rw[ak,hq.i 2,v2]
    have k3:aB q (.var 3)=bs.length:=by rw[ak,hq.i 3,v3]
    have k4:aB q (.var 4)=c:=by rw[ak,hq.i 4,v4]
    rw[<-hρ]at hq;exact zc h hq k2 k3 k4 rfl hry hrc h.byte (aaw _) h.rd
   .rw[hs];exact nJ _ _
  simp only[go_sem,Nat.reduceAdd,Ht,Xx,Xy,V8];rw[EV v0 v1 v2 v3 v4 b6,v0,gz,w7];refine⟨⟨_,_,_,bs,bad,rfl,rfl,h.split,h.byte,h.len⟩,fun q g ⟨F1,hp,_,_⟩=>?_⟩;have hv:=wB h.split hp;have hv:q.i 8=(c8 bs).1/\q.i 9=(c8 bs).2:=by simpa using hv
  obtain⟨h8,h9⟩:=hv;generalize hm:(c8 bs).2=m at *;generalize hk:(c8 bs).1=k at *;have j1:q.i 1=x:=by rw[g.i 1,v1]
  have j2:q.i 2=y:=by rw[g.i 2,v2]
  have j3:q.i 3=bs.length:=by rw[g.i 3,v3]
  have j4:q.i 4=c:=by rw[g.i 4,v4]
  have j5:q.i 5=most:=by rw[g.i 5,v5]
  rw[g.b 6,b6,h9,h8,j1,j2,j3,j4,j5];rw[wrap_i64 (n:=(bs.length:Int)-(m:Int)) ah ah];simp only[QL];have emin:min ((bs.length:Int)-(m:Int)) (min 4096 most)=min (min most 4096) ((bs.length:Int)-(m:Int)):=ah;rw[emin];refine⟨fun hb=>⟨fun hz=>⟨fun hmn=>⟨ah,fun hlt=>?_,fun hge=>?_⟩,fun hmn=>fail q _ g (Or.inr (Or.inr (Or.inl hmn)))⟩,fun hz=>fail q _ g (Or.inr (Or.inl ah))⟩,fun hb=>fail q _ g (Or.inl hb)⟩
  .rw[mY ah ah]at hlt;exact fail q _ g (Or.inr (Or.inr (Or.inr hlt)))
  .rw[mY ah ah]at hge;have hwk:IntKind.i64.wrap (k:Int)=k:=wrap_i64 ah ah;have hY:aB q (.ite (.eq (.var 4) (.var 9)) (.var 2) (.add (.var 2) (.var 9)))=if c=(m:Int)then y else y+m:=by
    rw[nx,ak,ak,ak,j4,j2,h9]
   have hYq:∀ q',ai 10 q q'->aB q' (.ite (.eq (.var 4) (.var 9)) (.var 2) (.add (.var 2) (.var 9)))=if c=(m:Int)then y else y+m:=by
    intro q' g';rw[nx,ak,ak,ak,g'.i 4,g'.i 2,g'.i 9,j4,j2,h9]
   rw[hwk];refine⟨hrx,hry,ah,ah,hrc,fun _=>⟨ah,fun hlt2=>absurd hlt2 ah,fun _=>?_⟩,fun hneg=>absurd hneg ah⟩;have hs:bf bs bad most=((bs.drop m).take k,bs.drop (m+k),false):=by
    unfold bf;rw[hm,hk];have:¬(bad=true\/m=0\/most<0\/min (min most 4096) ((bs.length:Int)-(m:Int))<(k:Int)):=by
     rintro(e | e | e | e)
     .exact hb e
     .exact hz ah
     .omega
     .exact hge e
    rw[aan this]
   have hmk:m+k<=bs.length:=ah;have ht:=J6 h (m:=m) (k:=k) hmk (c-m).toNat;have hd1:=qT h (m:=m) ah;have hdl:((bs.drop m).length:Int)=bs.length-m:=by rw[aaK];omega
   have hY0:0<=(if c=(m:Int)then y else y+m):=by split<;>omega
   have h2:AO (cP [JC a x (if c=(m:Int)then y else y+m) (c-m) (bs.drop m).length false,F]) a x (if c=(m:Int)then y else y+m) (c-m) F (bs.drop m) false :=
    ⟨hrx,hY0,ah,gL h.byte m,by rw[aaK];omega,hd1,h.na,rfl⟩
   have hd2:=qT h2 (m:=k) (by rw[aaK];omega);rw[acd]at hd2;rw[g.h 7,w7];refine⟨hY0,ah,⟨_,_,F,rfl,rfl,(by rw[aaa];exact ht),by rw[aaA,aaK];omega⟩,fun q2 g2 ⟨F2,hp2,hF2,hnm⟩=>?_⟩;have hO:=oh (R:=F) (u:=.slice (az x (if c=(m:Int)then y else y+m)) ((k:Int)).toNat (c-m).toNat) (by rw[aaa];exact ht) hp2;rw[<-hF2 zzT]at hO;have G2:ai 8 J q2:=g.tr g2;rw[g2.i 8,g2.i 9,G2.i 3,G2.i 4,h8,h9,v3,v4,hwk];refine⟨ah,ah,fun _=>?_⟩;have eC:aB q2 (.sub (.var 4) (.var 9))=c-m:=by
    show q2.i 4-q2.i 9=_;rw[G2.i 4,g2.i 9,v4,h9]
   have eN:aB q2 (.sub (.var 3) (.var 9))=bs.length-m:=by
    show q2.i 3-q2.i 9=_;rw[G2.i 3,g2.i 9,v3,h9]
   have eK:aB q2 (.wrap .i64 (.var 8))=k:=by
    show IntKind.i64.wrap (q2.i 8)=_;rw[g2.i 8,h8,hwk]
   have hlast:((bs.drop (m+k)).length:Int)=bs.length-m-k:=by rw[aaK];omega
   have g6:ba q2 (.bvar 6)=false:=by rw[br,G2.b 6,b6];exact abC.2 hb
   rw[<-hρ]at G2;refine⟨[[0,1]],[2],rfl,rfl,⟨(aY fun k=>q2.i (10+k)),rfl,hnm.1,zzT⟩,_,most,H,bs,bad,_,rfl,rfl,⟨a,x,y,c,F,rfl,h⟩,rfl,?_,?_⟩
   .rw[hs];refine zc h G2 ?_ ?_ ?_ g6 (y':=if c-(m:Int)=k then(if c=(m:Int)then y else y+m)else(if c=(m:Int)then y else y+m)+k) (by split<;>omega) (c':=c-m-k) (by rw[hlast];omega) (gL h.byte _) (by rw[aaK];omega) hd2
    .rw[nx,eC,eK,hYq q2 g2]
    .rw[cQ,eN,eK,hlast]
    .rw[cQ,eC,eK]
   .rw[hs];show bO (cP [q2.h 10]) _ _ _;rw[aL];exact hO
def yQ:Sx.Spec where
 fn:=113
 own:=[.arg 0]
 rd:=[]
 res:=[.one .bool]
 pre:=fun xs Hs Rs=>∃ p H bs bad,xs=[p]/\Hs=[H]/\gH H p bs bad
 post:=fun xs Hs Rs v Hs' F=>∃ p H bs bad H',xs=[p]/\Hs=[H]/\gH H p bs bad/\Hs'=[H']/\gH H' p (j9 bs bad).2.1 (j9 bs bad).2.2/\v=.bool (j9 bs bad).1
def VU:aG Tryz.prog Ht yQ.fn where
 Λ:=aD
 args:=[TP (.var 0) (.lit 0)]
 mem:=tK
 nv:=8
def Nx:yQ.OK Tryz.prog:=by
 refine Spec.aS (Γ:=Ht) zd ?_;rintro xs Hs Rs hl1 hl2 ⟨p,H,bs,bad,rfl,rfl,a,x,y,c,F,rfl,h⟩;have e1:Rs=[]:=aad.1 hl2;subst e1;refine⟨VU,nA a x y c bs bad F 0,fun _ _=>True,fun _ _=>0,?_,xH h 0,(fun _ h=>nomatch h),?_⟩
 .show [Value.pointer (az (a:Int) 0)]=_;rw[gz]
 .refine aG.read [] [] [] ?_;generalize hρ:nA a x y c bs bad F 0=J;have v1:J.i 1=x:=by rw[<-hρ];rfl
  have v2:J.i 2=y:=by rw[<-hρ];rfl
  have v3:J.i 3=bs.length:=by rw[<-hρ];rfl
  have v4:J.i 4=c:=by rw[<-hρ];rfl
  have b6:J.b 6=bad:=by rw[<-hρ];rfl
  have w7:J.h 7=F:=by rw[<-hρ];rfl
  have hrx:=h.rx;have hry:=h.ry;have hrc:=h.rc;have hq:ai 8 (nA a x y c bs bad F 0) J:=by rw[hρ];exact ai.refl _ _
  have fail:∀ (t:Mem),bad=true\/bs=[]\/1<bs.getD 0 0->postOf yQ [.pointer (some ⟨a,0,none⟩)] [H] [] J (.bd 0 [.sl (.var 1) (.var 2) (.var 3) (.var 4),.bool .tt] 203::.hp 7 [] [.var 1] []::t) (.sv (.one (.bool .ff))):=by
   intro t hf _;have hs:j9 bs bad=(false,bs,true):=by unfold j9;rw[aav hf]
   refine⟨[[0,1]],[],rfl,rfl,⟨(aY fun _=>0),rfl,zzT,zzT⟩,_,H,bs,bad,_,rfl,rfl,⟨a,x,y,c,F,rfl,h⟩,rfl,?_,by rw[hs];rfl⟩;rw[hs];exact zc h hq (show aB J (.var 2)=y from v2) (show aB J (.var 3)=_ from v3) (show aB J (.var 4)=c from v4) rfl hry hrc h.byte (aaw _) h.rd
  simp only[go_sem,Nat.reduceAdd];rw[b6,v1,v2,v3,v4,w7];refine⟨fun hb=>⟨ah,fun hn0=>?_,fun hn0=>fail _ (Or.inr (Or.inl (aad.1 ah)))⟩,fun hb=>fail _ (Or.inl hb)⟩;obtain⟨z,hz⟩:∃ z,bs[0]?=some z:=⟨_,aab ah⟩;obtain⟨hx0,hc⟩:0<=x/\∀ j z,bs[j]?=some z->F.cell x.toNat (y.toNat+j)=some (.int .u8 z):=by
   rcases(h.rd.at hrx hry ah).2 with ⟨_,e⟩ | e
   .rw[e]at hz;simp at hz
   .exact e
  have hcell:=hc 0 z hz;rw[aaW]at hcell;have hzD:bs.getD 0 0=z:=by rw[aak,hz];rfl
  rw[hcell];have ez:bS (some (Value.int .u8 z))=z:=rfl;rw[ez];refine⟨hx0,hry,ah,rfl,fun hgt=>fail _ (Or.inr (Or.inr (by rw[hzD];exact hgt))),fun hle=>⟨hrc,fun _=>?_⟩⟩;have hs:j9 bs bad=(decide (z=1),bs.drop 1,false):=by
   unfold j9;rw[hzD];have:¬(bad=true\/bs=[]\/1<z):=by
    rintro(e | e | e)
    .exact hb e
    .rw[e]at hz;simp at hz
    .exact hle e
   rw[aan this]
  have hbv:ba J (.eq (.hI 7 (.var 1) (.var 2) 0) (.lit 1))=decide (z=1):=by
   rw[sf,dw,ak,ak,aq,v1,v2,w7,aaW,hcell];rfl
  have hd1:=qT h (m:=1) ah;have hdl:((bs.drop 1).length:Int)=bs.length-1:=by rw[aaK];omega
  refine⟨[[0,1]],[],rfl,rfl,⟨⟨fun _=>0,fun _=>decide (z=1),fun _=>.empty,fun _=>.tuple #[],fun _=>Hl.none⟩,by show Value.bool (ba J _)=_;rw[hbv];rfl,zzT,zzT⟩,_,H,bs,bad,_,rfl,rfl,⟨a,x,y,c,F,rfl,h⟩,rfl,?_,by show Value.bool (ba J _)=_;rw[hbv,hs]⟩;rw[hs];refine zc h hq ?_ ?_ ?_ (by rw[br,b6];exact abC.2 hb) (y':=if c=((1:Nat):Int)then y else y+((1:Nat):Int)) (by split<;>omega) (c':=c-((1:Nat):Int)) (by rw[hdl];omega) (gL h.byte _) (by rw[aaK];omega) hd1
  .rw[nx,ak,ak,aq,v4,v2];rfl
  .show J.i 3-1=_;rw[hdl,v3]
  .show J.i 4-1=_;rw[v4];rfl
def wE:Sx.Spec where
 fn:=116
 own:=[]
 rd:=[0]
 res:=[.one .bool]
 pre:=fun xs Hs Rs=>∃ p R bs bad,xs=[p]/\Rs=[R]/\gH R p bs bad
 post:=fun xs Hs Rs v Hs' F=>∃ p R bs bad,xs=[p]/\Rs=[R]/\gH R p bs bad/\v=.bool (!bad&&decide (bs=[]))
def Fp:aG Tryz.prog [] wE.fn where
 Λ:=aD
 args:=[TP (.var 0) (.lit 0)]
 mem:=[.ro 1 [.var 0] false]
 nv:=2
def Fo:wE.OK Tryz.prog:=by
 refine Spec.aS (Γ:=[]) (fun _ h=>by cases h) ?_;rintro xs Hs Rs hl1 hl2 ⟨p,R,bs,bad,rfl,rfl,hIn⟩;have e0:Hs=[]:=aad.1 hl1;subst e0;obtain⟨a,x,y,c,rfl,hc0,hc1,hx,hy,hR⟩:=hIn.whole;refine⟨Fp,aO [(a:Int)] false [Hl.none,R],fun _ _=>True,fun _ _=>0,?_,⟨?_,?_,?_,?_⟩,(fun _ h=>nomatch h),?_⟩
 .show [Value.pointer (az (a:Int) 0)]=_;rw[gz]
 .intro r hr ho;simp [Fp]at hr;subst hr;cases ho
 .intro r hr ho;simp [Fp]at hr;subst hr;exact⟨R,aF,Hl.le_refl _⟩
 .simp [Fp]
 .intro r hr;simp [Fp]at hr;subst hr;trivial
 .refine aG.read [] [] [] ?_;generalize hρ:aO [(a:Int)] false [Hl.none,R]=J;have v0:J.i 0=a:=by rw[<-hρ];rfl
  have w1:J.h 1=R:=by rw[<-hρ];rfl
  clear hρ;have out:∀ (mem:Mem) (e:E),ba J e=(!bad&&decide (bs=[]))->postOf wE [.pointer (some ⟨a,0,none⟩)] [] [R] J mem (.sv (.one (.bool e))):=fun mem e he _ =>
   ⟨[],[],rfl,rfl,⟨⟨fun _=>0,fun _=>ba J e,fun _=>.empty,fun _=>.tuple #[],fun _=>Hl.none⟩,rfl,zzT,zzT⟩,_,R,bs,bad,rfl,rfl,hIn,by show Value.bool (ba J e)=_;rw[he]⟩
  have tn0:Int.toNat 0=0:=rfl;have tn1:Int.toNat 1=1:=rfl;simp only[go_sem,Nat.reduceAdd,tn0,tn1];rw[v0,w1,aaa,hc0,hc1,RM hx];refine⟨ah,rfl,fun hb=>⟨rfl,ah,out _ _ ?_⟩,fun hb=>out _ _ ?_⟩
  .have hb:bad=false:=abC.2 hb;rw[sf,fk,ak,aq,v0,w1,aaa,tn0,aaW,hc0,RM hx,hb];cases bs with
   | nil=>rfl
   | cons b l =>
    simp;omega
  .have hb:bad=true:=hb;rw[hb];rfl
abbrev Mx (x:Int) (n:Nat) (c:Int):Value:=.slice (az x 0) ((n:Int)).toNat c.toNat
def tZ (a:Nat) (x c:Int) (n:Nat) (lg:Bool):Hl:=Hl.one a (.cells #[Mx x n c,.bool lg] 208 (0,0))
structure AZ (H:Hl) (a:Nat) (x c:Int) (F:Hl) (bs:List Int) (lg:Bool):Prop where
 rx:-1<=x
 rc:0<=c
 own:bO F 5 (Mx x bs.length c) bs
 na:¬F.mem a
 hl:H=cP [tZ a x c bs.length lg,F]
def bq (H:Hl) (p:Value) (bs:List Int) (lg:Bool):Prop:=∃ a x c F,p=.pointer (some ⟨a,0,none⟩)/\AZ H a x c F bs lg
section
variable {H F:Hl} {a:Nat} {x c:Int} {bs:List Int} {lg:Bool}
def AZ.le (h:AZ H a x c F bs lg):(tZ a x c bs.length lg).le H/\F.le H:=by
 have hd:(tZ a x c bs.length lg).bP F:=Hl.gl.2 h.na;rw[h.hl];show(tZ a x c bs.length lg).le ((tZ a x c bs.length lg).un (F.un Hl.none))/\F.le ((tZ a x c bs.length lg).un (F.un Hl.none));rw[Hl.my];exact⟨Hl.bh _ _,Hl.bC hd⟩
def bq.whole (h:bq H p bs lg):∃ (a:Nat) (x c:Int),p=.pointer (some ⟨a,0,none⟩)/\ -1<=x/\0<=c/\H.cell a 0=some (Mx x bs.length c)/\H.cell a 1=some (.bool lg)/\nX H (Mx x bs.length c) bs:=by
 obtain⟨a,x,c,F,rfl,h⟩:=h;obtain⟨l1,l2⟩:=h.le;have e:=l1 a _ (Hl.aT _ _);exact⟨a,x,c,rfl,h.rx,h.rc,by unfold Hl.cell;rw[e];rfl,by unfold Hl.cell;rw[e];rfl,FE l2 h.own.rd⟩
def bq.uniq (h:bq H p bs lg) (h':bq H p bs' lg'):bs=bs'/\lg=lg':=by
 obtain⟨a,x,c,rfl,_,_,h0,h1,hr⟩:=h.whole;obtain⟨a',x',c',e,_,_,k0,k1,kr⟩:=h'.whole;simp only[Value.pointer.injEq,aai,Addr.mk.injEq,aat]at e;subst e;rw[h0]at k0;rw[h1]at k1;simp only[aai,Value.bool.injEq]at k0 k1;rw[<-k0]at kr;exact⟨hr.uniq kr,k1⟩
end
def bq.new (a:Nat):bq (Hl.one a (.cells #[.slice none 0 0,.bool false] 208 (0,0))) (.pointer (some ⟨a,0,none⟩)) [] false:=by
 refine⟨a,-1,0,Hl.none,rfl,⟨aap _,aap _,⟨rfl,Or.inl ⟨rfl,rfl⟩⟩,fun h=>(by simp [Hl.mem,Hl.none]at h),?_⟩⟩;show _=(tZ a (-1) 0 0 false).un (Hl.none.un Hl.none);rw[Hl.my,Hl.my];rfl
def je:Mem:=[.bd 0 [.sl (.var 1) (.lit 0) (.var 2) (.var 3),.bool (.bvar 6)] 208,.hp 7 [] [.var 1] []]
def mV (a:Nat) (x c:Int) (n:Nat) (lg:Bool) (F:Hl) (z:Int) (l:List Int) (R:Hl):Env:=aO ([(a:Int),x,n,c,0,z,0,0]++l) lg [Hl.none,Hl.none,Hl.none,Hl.none,Hl.none,Hl.none,Hl.none,F,Hl.none,Hl.none,Hl.none,Hl.none,R]
section
variable {H F:Hl} {a:Nat} {x c:Int} {bs:List Int} {lg:Bool}
def zN (h:AZ H a x c F bs lg) (z:Int) (l:List Int) (R:Hl):Entry (mV a x c bs.length lg F z l R) je [H] []:=by
 obtain⟨l1,l2⟩:=h.le;have hb:(bD.bd 0 [.sl (.var 1) (.lit 0) (.var 2) (.var 3),.bool (.bvar 6)] 208).hl (mV a x c bs.length lg F z l R)=tZ a x c bs.length lg:=by
  show Hl.one ((a:Int)).toNat (.cells #[Mx x bs.length c,.bool lg] 208 (0,0))=_;rw[aaa];rfl
 refine⟨fun r hr ho=>⟨H,aF,?_⟩,fun r hr ho=>?_,?_,fun r hr=>?_⟩
 .simp only[je,aar,aaB,abe]at hr;rcases hr with rfl | rfl
  .rw[hb];exact l1
  .exact l2
 .simp only[je,aar,aaB,abe]at hr;rcases hr with rfl | rfl<;>cases ho
 .unfold je;refine List.Pairwise.cons (fun r hr _ _=>?_) (List.Pairwise.cons (fun r hr=>by cases hr) List.Pairwise.nil);rw[aal]at hr;subst hr;rw[hb];exact Hl.gl.2 h.na
 .simp only[je,aar,aaB,abe]at hr;rcases hr with rfl | rfl
  .show(0:Int)<=(a:Int);omega
  .trivial
def LP (h:AZ H a x c F bs lg) (z:Int) (l:List Int) (R:Hl) (t:List E):Entry (mV a x c bs.length lg F z l R) (je++[.ro 12 t false]) [H] [R]:=by
 obtain⟨h1,h2,h3,h4⟩:=zN h z l R;refine⟨fun r hr ho=>?_,fun r hr ho=>?_,?_,fun r hr=>?_⟩
 .rcases aaR.1 hr with hr | hr
  .exact h1 r hr ho
  .rw[aal]at hr;subst hr;cases ho
 .rcases aaR.1 hr with hr | hr
  .obtain⟨R,hR,_⟩:=h2 r hr ho;cases hR
  .rw[aal]at hr;subst hr;exact⟨R,aF,Hl.le_refl _⟩
 .rw[adq];refine⟨h3,aF,fun r _ s hs _ ho=>?_⟩;rw[aal]at hs;subst hs;cases ho
 .rcases aaR.1 hr with hr | hr
  .exact h4 r hr
  .rw[aal]at hr;subst hr;trivial
end
def H6 {X:E} (h0:q.i 0=a) (hX:-1<=aB q X) (hN:aB q N=bs.length) (hC:0<=aB q C) (hg:ba q g=lg) (ho:bO (q.h k) 5 (Mx (aB q X) bs.length (aB q C)) bs)
 (hd:∀ (p s:Nat) r u,p≠s->(.bd 0 [.sl X (.lit 0) N C,.bool g] 208::.hp k v7 t7 []::t:Mem)[p]?=some r->(.bd 0 [.sl X (.lit 0) N C,.bool g] 208::.hp k v7 t7 []::t:Mem)[s]?=some u->r.own=true->(r.hl q).bP (u.hl q)) :
 bq (xg q (.bd 0 [.sl X (.lit 0) N C,.bool g] 208::.hp k v7 t7 []::t) [0,1]) (.pointer (some ⟨a,0,none⟩)) bs lg:=by
 have hb:(bD.bd 0 [.sl X (.lit 0) N C,.bool g] 208).hl q=tZ a (aB q X) (aB q C) bs.length lg:=by
  show Hl.one (q.i 0).toNat (.cells #[.slice (az (aB q X) 0) (aB q N).toNat (aB q C).toNat,.bool (ba q g)] 208 (0,0))=_;rw[h0,hN,hg,aaa];rfl
 have d01:=hd 0 1 _ _ aA rfl rfl rfl;rw[hb]at d01;refine⟨a,aB q X,aB q C,q.h k,rfl,hX,hC,ho,Hl.gl.1 d01,?_⟩;show cP [(bD.bd 0 [.sl X (.lit 0) N C,.bool g] 208).hl q,q.h k]=_;rw[hb]
def qP {x1 c1:Int} (ho:bO A 5 (.slice (az x 0) l.toNat c.toNat) bs) (hl:l=bs.length) (hm:m=bs2.length)
 (happ:∀ xs,aN A 5 1 (.slice (az x 0) l.toNat c.toNat) l.toNat xs->aN B 5 1 (.slice (az x1 0) (l.toNat+m) c1.toNat) (l.toNat+m) (xs++aM bs2)):bO B 5 (Mx x1 (bs++bs2).length c1) (bs++bs2):=by
 have hn:l.toNat=bs.length:=ah;have h1:aN A 5 1 (.slice (az x 0) l.toNat c.toNat) l.toNat (aM bs):=by rw[hn]at ho ⊢;exact ho
 have h2:=happ _ h1;unfold bO Mx;rw[aaa,aac,gK,<-hm,<-hn];exact h2
def qQ (ho:bO A 5 (.slice (az x 0) l.toNat c.toNat) bs) (hl:l=bs.length):aN A 5 1 (.slice (az x 0) l.toNat c.toNat) l.toNat (aM bs):=by
 have hn:l.toNat=bs.length:=ah;rw[hn]at ho ⊢;exact ho
def OB (f:FuncId) (ok:List Value->List Int->Prop) (act:List Value->List Int->List Int):Sx.Spec where
 fn:=f
 own:=[.arg 0]
 rd:=[]
 res:=[]
 pre:=fun xs Hs Rs=>∃ p z H bs lg,xs=[p,z]/\Hs=[H]/\bq H p bs lg/\ok [z] bs/\bs.length<=900000
 post:=fun xs Hs Rs v Hs' F=>∃ p z H bs lg H',xs=[p,z]/\Hs=[H]/\bq H p bs lg/\Hs'=[H']/\bq H' p (act [z] bs) lg
def HV (l:List Value) (bs:List Int):List Int:=bs++aj (bS l[0]?).toNat
def Wu (l:List Value) (_:List Int):Prop:=∃ z:Int,l=[.int .u64 z]/\0<=z/\z<18446744073709551616
def zJ:Sx.Spec:=OB 156 Wu HV
def Ww:aG Tryz.prog [] 156 where
 Λ:=fun p=>if Oa p then some ⟨0,[(1,TI .u64 (.var 24))],[(0,.bd 0 [.sl (.var 20) (.lit 0) (.var 22) (.var 23),.bool (.bvar 6)] 208),(1,.hp 25 [] [.var 20] [])],30⟩else none
 args:=[TP (.var 0) (.lit 0),TI .u64 (.var 5)]
 mem:=je
 nv:=8
def JR (all:List Int) (m:Nat) (_:Nat) (q:Env):Prop:=∃ (y:Nat) (done:List Int),q.i 24=y/\done++aj y=all/\done.length<=m/\q.i 22=done.length/\ -1<=q.i 20/\0<=q.i 23/\bO (q.h 25) 5 (.slice (az (q.i 20) 0) (q.i 22).toNat (q.i 23).toNat) done
def nI {z:Nat} (h:z<18446744073709551616):(aj z).length<=10:=by
 refine zG 9 z (ac4 h aA)
def Fh:zJ.OK Tryz.prog:=by
 refine Spec.aS (Γ:=[]) (fun _ h=>by cases h) ?_;rintro xs Hs Rs hl1 hl2 ⟨p,zv,H,bs,lg,rfl,rfl,⟨a,x,c,F,rfl,h⟩,⟨z,hz,hz0,hz1⟩,hlen⟩;have hz:zv=.int .u64 z:=by simpa using hz
 subst hz;have e1:Rs=[]:=aad.1 hl2;subst e1;have hnb:=nI (z:=z.toNat) ah;refine⟨Ww,mV a x c bs.length lg F z [] Hl.none,JR (bs++aj z.toNat) (bs.length+10),fun _ q=>(q.i 24).toNat,?_,zN h z [] _,(fun _ h=>nomatch h),?_⟩
 .show [Value.pointer (az (a:Int) 0),Value.int .u64 z]=_;rw[gz]
 .refine aG.read [] [] [] ?_;generalize hρ:mV a x c bs.length lg F z [] Hl.none=J;have v0:J.i 0=a:=by rw[<-hρ];rfl
  have v1:J.i 1=x:=by rw[<-hρ];rfl
  have v2:J.i 2=bs.length:=by rw[<-hρ];rfl
  have v3:J.i 3=c:=by rw[<-hρ];rfl
  have v5:J.i 5=z:=by rw[<-hρ];rfl
  have b6:J.b 6=lg:=by rw[<-hρ];rfl
  have w7:J.h 7=F:=by rw[<-hρ];rfl
  clear hρ;simp only[go_sem,Nat.reduceAdd];refine⟨⟨z.toNat,bs,?_,rfl,ah,?_,?_,?_,?_⟩,fun q g ⟨y,done,e24,hall,hdl,e22,r20,r23,hO⟩=>?_⟩
  .show J.i 5=_;rw[v5];omega
  .show J.i 2=_;exact v2
  .show -1<=J.i 1;rw[v1];exact h.rx
  .show 0<=J.i 3;rw[v3];exact h.rc
  .show bO (J.h 7) _ (.slice (az (J.i 1) 0) (J.i 2).toNat (J.i 3).toNat) bs;rw[w7,v1,v2,v3];exact h.own
  have hal:=aaD List.length hall;rw[aac,aac]at hal;refine⟨fun hge q1 g1 _=>?_,fun hlt q1 g1 _=>?_⟩
  .rw[g1.h 25,g1.i 20,g1.i 22,g1.i 23];refine⟨⟨⟨_,qQ hO e22⟩,ah,by unfold maxLen;omega,ah⟩,fun q2 g2 ⟨a1,a2,a3,_⟩=>?_⟩;rw[e24]at hge;have hyh:aj y=((y%128+128:Nat):Int)::aj (y/128):=iN ah;have eb:aB q1 (.bits .or .u8 (.wrap .u8 (.var 24)) (.lit 128))=((y%128+128:Nat):Int):=by
    show ct .or .u8 (IntKind.u8.wrap (q1.i 24)) 128=_;rw[g1.i 24,e24];exact Wo
   rw[eb]at a3;have hO2:=qP (bs2:=[((y%128+128:Nat):Int)]) (m:=1) hO e22 rfl a3;have e24':aB q2 (.shr .u64 (.var 24) (.lit 7))=((y/128:Nat):Int):=by
    show(q2.i 24).fdiv (2 ^ (7:Int).toNat)=_;rw[g2.i 24,g1.i 24,e24];exact ZE
   refine⟨⟨y/128,done++[((y%128+128:Nat):Int)],e24',?_,?_,?_,a1,a2,?_⟩,?_⟩
   .rw[aax,<-hall,hyh];rfl
   .rw[aac,aay];rw[hyh,aaN]at hal;omega
   .show q2.i 22+1=_;rw[g2.i 22,g1.i 22,e22,aac,aay];omega
   .show bO (q2.h 31) _ (.slice (az (q2.i 31) 0) (q2.i 22+1).toNat (q2.i 32).toNat) _;rw[g2.i 22,g1.i 22,e22];have:=hO2;unfold Mx at this;rw[aac,aay]at this;exact this
   .show(aB q2 (.shr .u64 (.var 24) (.lit 7))).toNat<(q.i 24).toNat;rw[e24',e24];omega
  .rw[g1.h 25,g1.i 20,g1.i 22,g1.i 23];refine⟨⟨⟨_,qQ hO e22⟩,ah,by unfold maxLen;omega,ah⟩,fun q2 g2 ⟨a1,a2,a3,_⟩ hd=>?_⟩;rw[e24]at hlt;have hyl:aj y=[(y:Int)]:=jd ah;have eb:IntKind.u8.wrap (q1.i 24)=(y:Int):=by
    rw[g1.i 24,e24,PT];omega
   rw[eb]at a3;have hO2:=qP (bs2:=[(y:Int)]) (m:=1) hO e22 rfl a3;rw[<-hyl,hall]at hO2;have G:ai 8 J q2:=g.trans (g1.mono.tr g2);refine⟨[[0,1]],[],rfl,rfl,⟨(aY fun _=>0),rfl,zzT⟩,_,_,H,bs,lg,_,rfl,rfl,⟨a,x,c,F,rfl,h⟩,rfl,H6 (by rw[G.i 0,v0]) a1 ?_ a2 (by rw[br,G.b 6,b6]) hO2 hd⟩;show q2.i 22+1=((bs++aj z.toNat).length:Int);rw[g2.i 22,g1.i 22,e22,aac];rw[hyl,aay]at hal;omega
def tW:Sx.Spec where
 fn:=157
 own:=[.arg 0]
 rd:=[1]
 res:=[]
 pre:=fun xs Hs Rs=>∃ p u H R bs lg b2,xs=[p,u]/\Hs=[H]/\Rs=[R]/\bq H p bs lg/\fu R u b2/\bs.length<=900000/\b2.length<=90000
 post:=fun xs Hs Rs v Hs' F=>∃ p u H R bs lg b2 H',xs=[p,u]/\Hs=[H]/\Rs=[R]/\bq H p bs lg/\fu R u b2/\Hs'=[H']/\bq H' p (bs++b2) lg
def Wx:aG Tryz.prog [] tW.fn where
 Λ:=aD
 args:=[TP (.var 0) (.lit 0),.sv (.one (.sl (.var 8) (.var 9) (.var 10) (.var 11)))]
 mem:=je++[.ro 12 [.var 8] false]
 nv:=13
def Fi:tW.OK Tryz.prog:=by
 refine Spec.aS (Γ:=[]) (fun _ h=>by cases h) ?_;rintro xs Hs Rs hl1 hl2 ⟨p,u,H,R,bs,lg,b2,rfl,rfl,rfl,⟨a,x,c,F,rfl,h⟩,hRd,hlen,hl2'⟩;obtain⟨x2,y2,c2,rfl,hy2,hR⟩:=id hRd;refine⟨Wx,mV a x c bs.length lg F 0 [x2,y2,b2.length,c2] R,fun _ _=>True,fun _ _=>0,?_,LP h 0 _ R _,(fun _ h=>nomatch h),?_⟩
 .show [Value.pointer (az (a:Int) 0),Value.slice (az x2 y2) ((b2.length:Int)).toNat ((c2:Int)).toNat]=_;rw[gz,aaa,aaa]
 .refine aG.read [] [] [] ?_;generalize hρ:mV a x c bs.length lg F 0 [x2,y2,b2.length,c2] R=J;have v0:J.i 0=a:=by rw[<-hρ];rfl
  have v1:J.i 1=x:=by rw[<-hρ];rfl
  have v2:J.i 2=bs.length:=by rw[<-hρ];rfl
  have v3:J.i 3=c:=by rw[<-hρ];rfl
  have v8:J.i 8=x2:=by rw[<-hρ];rfl
  have v9:J.i 9=y2:=by rw[<-hρ];rfl
  have v10:J.i 10=b2.length:=by rw[<-hρ];rfl
  have b6:J.b 6=lg:=by rw[<-hρ];rfl
  have w7:J.h 7=F:=by rw[<-hρ];rfl
  have w12:J.h 12=R:=by rw[<-hρ];rfl
  clear hρ;simp only[go_sem,Nat.reduceAdd];rw[v1,v2,v3,v8,v9,v10,w7,w12];obtain⟨hok,hseg⟩:=qp (R:=R) (x:=x2) (y:=y2) (l:=(b2.length:Int)) rfl hy2 hR;have hO:bO F 5 (.slice (az x 0) ((bs.length:Int)).toNat c.toNat) bs:=h.own;refine⟨⟨⟨_,qQ hO rfl⟩,ah,by simpa using hok,by rw[aaa,aaa];unfold maxLen;omega,by rw[aaa,aaa];omega⟩,fun q2 g2 ⟨a1,a2,a3,_⟩ hd=>?_⟩;rw[hseg]at a3;have hO2:=qP (bs2:=b2) (m:=((b2.length:Int)).toNat) hO rfl (aaa _) a3;refine⟨[[0,1]],[],rfl,rfl,⟨(aY fun _=>0),rfl,zzT⟩,_,_,H,R,bs,lg,b2,_,rfl,rfl,rfl,⟨a,x,c,F,rfl,h⟩,hRd,rfl,H6 (by rw[g2.i 0,v0]) a1 ?_ a2 (by rw[br,g2.b 6,b6]) hO2 hd⟩;show q2.i 2+q2.i 10=((bs++b2).length:Int);rw[g2.i 2,g2.i 10,v2,v10,aac];omega
def Jr (l:List Value) (bs:List Int):List Int:=bs++[if xm l[0]?=true then 1 else 0]
def Ty (l:List Value) (_:List Int):Prop:=∃ b:Bool,l=[.bool b]
def vf:Sx.Spec:=OB 199 Ty Jr
def Uc:aG Tryz.prog [] 199 where
 Λ:=aD
 args:=[TP (.var 0) (.lit 0),.sv (.one (.bool (.bvar 5)))]
 mem:=je
 nv:=8
def LQ (h:AZ H a x c F bs lg) (b5:Bool):Entry {mV a x c bs.length lg F 0 [] Hl.none with b:=fun k=>if k=5 then b5 else lg} je [H] []:=by
 obtain⟨h1,h2,h3,h4⟩:=zN h 0 [] Hl.none;refine⟨fun r hr ho=>?_,fun r hr ho=>?_,?_,fun r hr=>?_⟩
 .obtain⟨K,hK,hle⟩:=h1 r hr ho;refine⟨K,hK,?_⟩;simp only[je,aar,aaB,abe]at hr;rcases hr with rfl | rfl<;>exact hle
 .simp only[je,aar,aaB,abe]at hr;rcases hr with rfl | rfl<;>cases ho
 .exact h3.imp (fun {r s} hrs=>hrs) |>fun _=>by
   unfold je at h3 ⊢;refine List.Pairwise.cons (fun r hr _ _=>?_) (List.Pairwise.cons (fun r hr=>by cases hr) List.Pairwise.nil);rw[aal]at hr;subst hr;exact(List.pairwise_cons.1 h3).1 _ (aal.2 rfl) rfl rfl
 .simp only[je,aar,aaB,abe]at hr;rcases hr with rfl | rfl
  .show(0:Int)<=(a:Int);omega
  .trivial
def LN:vf.OK Tryz.prog:=by
 refine Spec.aS (Γ:=[]) (fun _ h=>by cases h) ?_;rintro xs Hs Rs hl1 hl2 ⟨p,zv,H,bs,lg,rfl,rfl,⟨a,x,c,F,rfl,h⟩,⟨b,hb⟩,hlen⟩;have hb:zv=.bool b:=by simpa using hb
 subst hb;have e1:Rs=[]:=aad.1 hl2;subst e1;refine⟨Uc,{mV a x c bs.length lg F 0 [] Hl.none with b:=fun k=>if k=5 then b else lg},fun _ _=>True,fun _ _=>0,?_,LQ h b,(fun _ h=>nomatch h),?_⟩
 .show [Value.pointer (az (a:Int) 0),Value.bool b]=_;rw[gz]
 .refine aG.read [] [] [] ?_;generalize hρ:({mV a x c bs.length lg F 0 [] Hl.none with b:=fun k=>if k=5 then b else lg} : Env)=J;have v0:J.i 0=a:=by rw[<-hρ];rfl
  have v1:J.i 1=x:=by rw[<-hρ];rfl
  have v2:J.i 2=bs.length:=by rw[<-hρ];rfl
  have v3:J.i 3=c:=by rw[<-hρ];rfl
  have b5:J.b 5=b:=by rw[<-hρ];rfl
  have b6:J.b 6=lg:=by rw[<-hρ];rfl
  have w7:J.h 7=F:=by rw[<-hρ];rfl
  clear hρ;have hO:bO F 5 (.slice (az x 0) ((bs.length:Int)).toNat c.toNat) bs:=h.own;have fin:∀ (q2:Env) (z:Int) (t:Mem),ai 8 J q2-> -1<=q2.i 9->0<=q2.i 10->(if b=true then(1:Int)else 0)=z->(∀ xs,aN F 5 1 (.slice (az x 0) ((bs.length:Int)).toNat c.toNat) ((bs.length:Int)).toNat xs->aN (q2.h 9) 5 1 (.slice (az (q2.i 9) 0) (((bs.length:Int)).toNat+1) (q2.i 10).toNat) (((bs.length:Int)).toNat+1) (xs++aM [z])) ->
   postOf vf [.pointer (some ⟨a,0,none⟩),.bool b] [H] [] q2 (.bd 0 [.sl (.var 9) (.lit 0) (.add (.var 2) (.lit 1)) (.var 10),.bool (.bvar 6)] 208::.hp 9 [7] [.var 9,.var 1] []::t) (.tup []):=by
   intro q2 z t G a1 a2 hz a3 hd;have hO2:=qP (bs2:=[z]) (m:=1) hO rfl rfl a3;refine⟨[[0,1]],[],rfl,rfl,⟨(aY fun _=>0),rfl,zzT⟩,_,_,H,bs,lg,_,rfl,rfl,⟨a,x,c,F,rfl,h⟩,rfl,?_⟩;have ea:Jr [Value.bool b] bs=bs++[z]:=by rw[<-hz];rfl
   rw[ea];refine H6 (by rw[G.i 0,v0]) a1 ?_ a2 (by rw[br,G.b 6,b6]) hO2 hd;show q2.i 2+1=((bs++[z]).length:Int);rw[G.i 2,v2,aac,aay];omega
  simp only[go_sem,Nat.reduceAdd];rw[b5];refine⟨fun hb q1 g1 _=>?_,fun hb q1 g1 _=>?_⟩
  all_goals
   rw[g1.i 1,g1.i 2,g1.i 3,g1.h 7,v1,v2,v3,w7];refine⟨⟨⟨_,qQ hO rfl⟩,ah,by rw[aaa];unfold maxLen;omega,by rw[aaa];omega⟩,fun q2 g2 ⟨a1,a2,a3,_⟩=>?_⟩
  .exact fin q2 1 _ (g1.tr g2) a1 a2 (aav hb) a3
  .exact fin q2 0 _ (g1.tr g2) a1 a2 (aan hb) a3
def aI (b:List Int):List Int:=aj b.length++b
def jG (bs:List Int) (lg:Bool) (b2:List Int):List Int×Bool:=if 4096<b2.length then(bs,true)else(bs++aI b2,lg)
def sD:Sx.Spec where
 fn:=127
 own:=[.arg 0]
 rd:=[1]
 res:=[]
 pre:=fun xs Hs Rs=>∃ p u H R bs lg b2,xs=[p,u]/\Hs=[H]/\Rs=[R]/\bq H p bs lg/\fu R u b2/\bs.length<=800000/\0<=b2.length
 post:=fun xs Hs Rs v Hs' F=>∃ p u H R bs lg b2 H',xs=[p,u]/\Hs=[H]/\Rs=[R]/\bq H p bs lg/\fu R u b2/\Hs'=[H']/\bq H' p (jG bs lg b2).1 (jG bs lg b2).2
def oΓ:List Sx.Spec:=[zJ,tW,gf]
def Ss:∀ t∈oΓ,t.OK Tryz.prog:=av Fh <| av Fi <| av kX <| bQ
def YV:oΓ[2]?=some gf:=rfl
def YW:zJ.res=[]:=rfl
def YX:tW.res=[]:=rfl
def zK:aG Tryz.prog oΓ sD.fn where
 Λ:=aD
 args:=[TP (.var 0) (.lit 0),.sv (.one (.sl (.var 8) (.var 9) (.var 10) (.var 11)))]
 mem:=[.hp 1 [] [.var 0] [],.ro 12 [.var 8] false]
 nv:=13
def bq.RJ (h:bq H (.pointer (some ⟨a,0,none⟩)) bs lg):H.wr a 1 1=true/\bq (H.put a 1 [.bool true]) (.pointer (some ⟨a,0,none⟩)) bs true:=by
 obtain⟨a',x,c,F,e,h⟩:=h;simp only[Value.pointer.injEq,aai,Addr.mk.injEq,aat]at e;subst e;obtain⟨l1,_⟩:=h.le;have e:=l1 a _ (Hl.aT _ _);refine⟨by unfold Hl.wr;rw[e];rfl,a,x,c,F,rfl,h.rx,h.rc,h.own,h.na,?_⟩;rw[h.hl]
 funext k
 unfold Hl.put;by_cases hk:k=a
 .subst hk;rw[aav rfl];have e2:cP [tZ k x c bs.length lg,F] k=some (.cells #[Mx x bs.length c,.bool lg] 208 (0,0)):=by rw[<-h.hl];exact e
  have e3:cP [tZ k x c bs.length true,F] k=some (.cells #[Mx x bs.length c,.bool true] 208 (0,0)):=Hl.sW (Hl.aT _ _);rw[e2];exact e3.symm
 .rw[aan hk];have n1:∀ g:Bool,¬(tZ a x c bs.length g).mem k:=fun g hm=>hk (Hl.dj.1 hm);show((tZ a x c bs.length lg).un _) k=((tZ a x c bs.length true).un _) k;rw[Hl.qA (n1 _),Hl.qA (n1 _)]
def C9 {f:FuncId} {ok:List Value->List Int->Prop} {act:List Value->List Int->List Int} {z:Value} (h:bq H p bs lg) (hp:(OB f ok act).post [p,z] [H] Rs v K F):∃ H',K=[H']/\bq H' p (act [z] bs) lg:=by
 obtain⟨p',z',Hx,bs',lg',H',hx,hH,hO,hK,hO'⟩:=hp;have hx:p=p'/\z=z':=by simpa using hx
 obtain⟨e1,e2⟩:=hx;have hH:H=Hx:=by simpa using hH
 subst e1 e2 hH;obtain⟨e1,e2⟩:=h.uniq hO;subst e1 e2;exact⟨H',hK,hO'⟩
def FD (h:bq H p bs lg) (h2:fu R u b2) (hp:tW.post [p,u] [H] [R] v K F):∃ H',K=[H']/\bq H' p (bs++b2) lg:=by
 obtain⟨p',z',Hx,Rx,bs',lg',b2',H',hx,hH,hR,hO,hB,hK,hO'⟩:=hp;have hx:p=p'/\u=z':=by simpa using hx
 obtain⟨e1,e2⟩:=hx;have hH:H=Hx:=by simpa using hH
 have hR:R=Rx:=by simpa using hR
 subst e1 e2 hH hR;obtain⟨e1,e2⟩:=h.uniq hO;subst e1 e2;have e:=h2.uniq hB;subst e;exact⟨H',hK,hO'⟩
def BG:sD.OK Tryz.prog:=by
 refine Spec.aS (Γ:=oΓ) Ss ?_;rintro xs Hs Rs hl1 hl2 ⟨p,u,H,R,bs,lg,b2,rfl,rfl,rfl,h,hRd,hlen,hl2'⟩;obtain⟨a,_,_,rfl,_⟩:=h.whole;obtain⟨x2,y2,c2,rfl,hy2,hR⟩:=id hRd;refine⟨zK,aO [(a:Int),0,0,0,0,0,0,0,x2,y2,b2.length,c2] false [Hl.none,H,Hl.none,Hl.none,Hl.none,Hl.none,Hl.none,Hl.none,Hl.none,Hl.none,Hl.none,Hl.none,R],fun _ _=>True,fun _ _=>0,?_,⟨?_,?_,?_,?_⟩,(fun _ h=>nomatch h),?_⟩
 .show [Value.pointer (az (a:Int) 0),Value.slice (az x2 y2) ((b2.length:Int)).toNat ((c2:Int)).toNat]=_;rw[gz,aaa,aaa]
 .intro r hr ho;simp [zK]at hr;rcases hr with rfl | rfl
  .exact⟨H,aF,Hl.le_refl _⟩
  .cases ho
 .intro r hr ho;simp [zK]at hr;rcases hr with rfl | rfl
  .cases ho
  .exact⟨R,aF,Hl.le_refl _⟩
 .simp [zK,bD.own]
 .intro r hr;simp [zK]at hr;rcases hr with rfl | rfl<;>trivial
 .refine aG.read [] [] [] ?_;generalize hρ:aO [(a:Int),0,0,0,0,0,0,0,x2,y2,b2.length,c2] false [Hl.none,H,Hl.none,Hl.none,Hl.none,Hl.none,Hl.none,Hl.none,Hl.none,Hl.none,Hl.none,Hl.none,R]=J;have v0:J.i 0=a:=by rw[<-hρ];rfl
  have v8:J.i 8=x2:=by rw[<-hρ];rfl
  have v9:J.i 9=y2:=by rw[<-hρ];rfl
  have v10:J.i 10=b2.length:=by rw[<-hρ];rfl
  have v11:J.i 11=c2:=by rw[<-hρ];rfl
  have w1:J.h 1=H:=by rw[<-hρ];rfl
  have w12:J.h 12=R:=by rw[<-hρ];rfl
  clear hρ;have out:∀ (q:Env) (k:Nat) (vs:List Nat) (t:Mem) (r:List Int×Bool),jG bs lg b2=r->bq (q.h k) (.pointer (some ⟨a,0,none⟩)) r.1 r.2->postOf sD [.pointer (some ⟨a,0,none⟩),.slice (az x2 y2) b2.length c2] [H] [R] q (.hp k vs [.var 0] []::t) (.tup []):=by
   intro q k vs t r hr ho _;refine⟨[[0]],[],rfl,rfl,⟨(aY fun _=>0),rfl,zzT⟩,_,_,H,R,bs,lg,b2,_,rfl,rfl,rfl,h,hRd,rfl,?_⟩;rw[hr];show bq (cP [q.h k]) _ _ _;rw[aL];exact ho
  have tn1:Int.toNat 1=1:=rfl;simp only[go_sem,Nat.reduceAdd,oΓ,YW,YX,tn1];rw[v10,v0,w1,aaa];obtain⟨hw,hset⟩:=h.RJ;refine⟨ah,fun hgt=>⟨ah,⟨ah,ah,hw⟩,fun q g h13=>?_⟩,fun hle=>?_⟩
  .refine out q 13 _ _ (bs,true) (by unfold jG;rw[aav ah]) ?_;rw[h13];exact hset
  .have hu:IntKind.u64.wrap ((b2.length:Nat):Int)=b2.length:=mY ah ah;rw[hu,gz];refine⟨⟨_,_,H,bs,lg,rfl,rfl,h,⟨_,rfl,ah,ah⟩,ah⟩,fun q g ⟨F1,hp,_,_⟩=>?_⟩;obtain⟨H1,hK1,hO1⟩:=C9 h hp;have hK1:q.h 13=H1:=by simpa using hK1
   rw[<-hK1]at hO1;have eN:HV [Value.int .u64 ((b2.length:Nat):Int)] bs=bs++aj b2.length:=by
    unfold HV;show bs++aj (((b2.length:Nat):Int)).toNat=_;rw[aaa]
   rw[eN]at hO1;have hnb:=nI (z:=b2.length) ah;rw[g.i 0,v0,g.i 8,v8,g.i 9,v9,g.i 10,v10,g.i 11,v11,g.h 12,w12,gz,aaa,aaa];refine⟨⟨_,_,_,R,_,lg,b2,rfl,rfl,rfl,hO1,hRd,by rw[aac];omega,ah⟩,fun q2 g2 ⟨F2,hp2,_,_⟩=>?_⟩;obtain⟨H2,hK2,hO2⟩:=FD hO1 hRd hp2;have hK2:q2.h 15=H2:=by simpa using hK2
   refine out q2 15 _ _ (bs++aI b2,lg) (by unfold jG;rw[aan ah]) ?_;rw[hK2];unfold aI;rw[<-aax];exact hO2
def rp (bs:List Int) (lg:Bool):List Int×Int:=if lg=true\/16384<bs.length then([],3)else(bs,0)
def rV:Sx.Spec where
 fn:=128
 own:=[]
 rd:=[0]
 res:=[.one .sl,.one (.int .i64)]
 pre:=fun xs Hs Rs=>∃ p R bs lg,xs=[p]/\Rs=[R]/\bq R p bs lg/\bs.length<=1000000
 post:=fun xs Hs Rs v Hs' F=>∃ p R bs lg u,xs=[p]/\Rs=[R]/\bq R p bs lg/\v=.tuple #[u,.int .i64 (rp bs lg).2]/\bO F 5 u (rp bs lg).1
def Fg:aG Tryz.prog oΓ rV.fn where
 Λ:=aD
 args:=[TP (.var 0) (.lit 0)]
 mem:=[.ro 1 [.hP 2 (.var 0) (.lit 0) 0 0] false,.ro 2 [.var 0] false]
 nv:=3
def YY:gf.res=[.one .sl]:=rfl
def sl3 (hx:-1<=x) (n c:Nat):bm (some (.slice (az x y) n c)) 3=c:=by
 rcases abu x 0 with h | h
 .obtain rfl:x= -1:=ah;rfl
 .rw[au h];rfl
def ZF (hx:-1<=x) (n c:Nat):bm (some (.slice (az x 0) n c)) 1=0:=by
 rcases abu x 0 with h | h
 .obtain rfl:x= -1:=ah;rfl
 .rw[au h];rfl
def zI:rV.OK Tryz.prog:=by
 refine Spec.aS (Γ:=oΓ) Ss ?_;rintro xs Hs Rs hl1 hl2 ⟨p,R,bs,lg,rfl,rfl,h,hlen⟩;have e0:Hs=[]:=aad.1 hl1;subst e0;obtain⟨a,x,c,rfl,hx,hc,hc0,hc1,hR⟩:=h.whole;unfold Mx at hc0 hR;rw[aaa]at hc0 hR;refine⟨Fg,aO [(a:Int)] false [Hl.none,R,R],fun _ _=>True,fun _ _=>0,?_,⟨?_,?_,?_,?_⟩,(fun _ h=>nomatch h),?_⟩
 .show [Value.pointer (az (a:Int) 0)]=_;rw[gz]
 .intro r hr ho;simp [Fg]at hr;rcases hr with rfl | rfl<;>cases ho
 .intro r hr ho;simp [Fg]at hr;rcases hr with rfl | rfl<;>exact⟨R,aF,Hl.le_refl _⟩
 .simp [Fg,bD.own]
 .intro r hr;simp [Fg]at hr;rcases hr with rfl | rfl<;>trivial
 .refine aG.read [] [] [] ?_;generalize hρ:aO [(a:Int)] false [Hl.none,R,R]=J;have v0:J.i 0=a:=by rw[<-hρ];rfl
  have w1:J.h 1=R:=by rw[<-hρ];rfl
  have w2:J.h 2=R:=by rw[<-hρ];rfl
  clear hρ;have fail:∀ (mem:Mem),lg=true\/16384<bs.length->postOf rV [.pointer (some ⟨a,0,none⟩)] [] [R] J mem (.tup [.one (.sl (.lit (-1)) (.lit 0) (.lit 0) (.lit 0)),.one (.int .i64 (.lit 3))]):=by
   intro mem hf _;have hs:rp bs lg=([],3):=by unfold rp;rw[aav hf]
   refine⟨[],[],rfl,rfl,⟨(aY fun k=>if k=0 then -1 else if k=4 then 3 else 0),rfl,⟨aap _,aap _,aap _,aap _⟩,zzT,zzT⟩,_,R,bs,lg,.slice none 0 0,rfl,rfl,h,?_,?_⟩
   .rw[hs];rfl
   .rw[hs];exact nJ _ _
  have tn0:Int.toNat 0=0:=rfl;have tn1:Int.toNat 1=1:=rfl;simp only[go_sem,Nat.reduceAdd,YV,YY,V8,tn0,tn1];rw[v0,w2,w1,aaa,hc0,hc1,RM hx,Vg hx,ZF hx,sl3 hx];refine⟨ah,rfl,fun hb=>⟨rfl,ah,fun hlt=>fail _ (Or.inr ah),fun hge=>?_⟩,fun hb=>fail _ (Or.inl hb)⟩;have hb:lg=false:=abC.2 hb;rw[aaa,aaa];have hW:=hR.w;refine⟨⟨_,bs,R,rfl,rfl,hW,hlen⟩,fun q g ⟨F1,hp,hF,hnm⟩ _=>?_⟩;have hO:=oh hW hp;rw[<-hF zzT]at hO;have hs:rp bs lg=(bs,0):=by
   unfold rp;have:¬(lg=true\/16384<bs.length):=by
    rintro(e | e)
    .rw[hb]at e;cases e
    .omega
   rw[aan this]
  refine⟨[],[2],rfl,rfl,⟨(aY fun k=>if k=4 then 0 else q.i (3+k)),rfl,hnm.1,zzT,zzT⟩,_,R,bs,lg,_,rfl,rfl,h,by rw[hs];rfl,?_⟩;rw[hs];show bO (cP [q.h 3]) _ _ _;rw[aL];exact hO
def wM:Sx.Spec where
 fn:=85
 own:=[]
 rd:=[]
 res:=[.one .sl]
 pre:=fun xs Hs Rs=>∃ z:Int,xs=[.int .u64 z]/\0<=z/\z<18446744073709551616
 post:=fun xs Hs Rs v Hs' F=>∃ z:Int,xs=[.int .u64 z]/\bO F 5 v (aj z.toNat)
def WI:aG Tryz.prog [] wM.fn where
 Λ:=fun p=>if Oa p then some ⟨0,[(3,.sv (.one (.sl (.var 20) (.lit 0) (.var 22) (.var 23)))),(0,TI .u64 (.var 24))],[(0,.hp 25 [] [.var 20] [])],30⟩else none
 args:=[TI .u64 (.var 0)]
 mem:=[]
 nv:=1
def ON (y:Nat) (h:y<18446744073709551616):IntKind.u64.wrap ((y:Int).tdiv 128)=((y/128:Nat):Int):=by
 rw[abA ah,mY ah ah];omega
def Uz (y:Nat):IntKind.u8.wrap (IntKind.u64.wrap ((y:Int).tmod 128+128))=((y%128+128:Nat):Int):=by
 rw[abf ah,mY ah ah,PT];omega
def RB (all:List Int) (k:Nat) (q:Env):Prop:=JR all 10 k q/\q.i 24<18446744073709551616
def FI:wM.OK Tryz.prog:=by
 refine Spec.aS (Γ:=[]) (fun _ h=>by cases h) ?_;rintro xs Hs Rs hl1 hl2 ⟨z,rfl,hz0,hz1⟩;have e0:Hs=[]:=aad.1 hl1;have e1:Rs=[]:=aad.1 hl2;subst e0 e1;have hnb:=nI (z:=z.toNat) ah;refine⟨WI,aO [z] false [],RB (aj z.toNat),fun _ q=>(q.i 24).toNat,rfl,⟨fun r hr=>(by cases hr),fun r hr=>(by cases hr),List.Pairwise.nil,fun r hr=>(by cases hr)⟩,(fun _ h=>nomatch h),?_⟩;refine aG.read [] [] [] ?_;generalize hρ:aO [z] false []=J;have v0:J.i 0=z:=by rw[<-hρ];rfl
 clear hρ;simp only[go_sem,Nat.reduceAdd,JA,tH];refine⟨⟨⟨z.toNat,[],?_,rfl,abi _,rfl,aap _,aap _,⟨rfl,Or.inl ⟨rfl,rfl⟩⟩⟩,?_⟩,fun q g ⟨⟨y,done,e24,hall,hdl,e22,r20,r23,hO⟩,hlt24⟩=>?_⟩
 .show J.i 0=_;rw[v0];omega
 .show J.i 0<_;rw[v0];exact hz1
 have hal:=aaD List.length hall;rw[aac]at hal;have hy64:y<18446744073709551616:=ah;rw[e24,ON y hy64];refine⟨fun hge q1 g1 _=>?_,fun hlt q1 g1 _=>?_⟩
 .rw[g1.h 25,g1.i 20,g1.i 22,g1.i 23,g1.i 24,e24,Uz];refine⟨⟨⟨_,qQ hO e22⟩,ah,by unfold maxLen;omega,ah⟩,fun q2 g2 ⟨a1,a2,a3,_⟩=>?_⟩;have hyh:aj y=((y%128+128:Nat):Int)::aj (y/128):=iN ah;have hO2:=qP (bs2:=[((y%128+128:Nat):Int)]) (m:=1) hO e22 rfl a3;have e24':IntKind.u64.wrap ((q2.i 24).tdiv 128)=((y/128:Nat):Int):=by
   rw[g2.i 24,g1.i 24,e24];exact ON y hy64
  refine⟨⟨⟨y/128,done++[((y%128+128:Nat):Int)],e24',?_,?_,?_,a1,a2,?_⟩,?_⟩,?_⟩
  .rw[aax,<-hall,hyh];rfl
  .rw[aac,aay];rw[hyh,aaN]at hal;omega
  .show q2.i 22+1=_;rw[g2.i 22,g1.i 22,e22,aac,aay];omega
  .show bO (q2.h 31) _ (.slice (az (q2.i 31) 0) (q2.i 22+1).toNat (q2.i 32).toNat) _;rw[g2.i 22,g1.i 22,e22];have:=hO2;unfold Mx at this;rw[aac,aay]at this;exact this
  .show IntKind.u64.wrap ((q2.i 24).tdiv 128)<_;rw[e24'];omega
  .show(IntKind.u64.wrap ((q2.i 24).tdiv 128)).toNat<_;rw[e24'];omega
 .rw[g1.h 25,g1.i 20,g1.i 22,g1.i 23];refine⟨⟨⟨_,qQ hO e22⟩,ah,by unfold maxLen;omega,ah⟩,fun q2 g2 ⟨a1,a2,a3,_⟩ hd=>?_⟩;have hyl:aj y=[(y:Int)]:=jd ah;have eb:IntKind.u8.wrap (q1.i 24)=(y:Int):=by
   rw[g1.i 24,e24,PT];omega
  rw[eb]at a3;have hO2:=qP (bs2:=[(y:Int)]) (m:=1) hO e22 rfl a3;rw[<-hyl,hall]at hO2;have e22':q2.i 22+1=((aj z.toNat).length:Int):=by
   rw[g2.i 22,g1.i 22,e22];rw[hyl,aay]at hal;omega
  refine⟨[],[0],rfl,rfl,⟨(aY fun k=>[q2.i 31,0,q2.i 22+1,q2.i 32].getD k 0),rfl,⟨a1,aap _,by show 0<=q2.i 22+1;omega,a2⟩,zzT⟩,z,rfl,?_⟩;show bO (cP [q2.h 31]) _ (.slice (az (q2.i 31) 0) (q2.i 22+1).toNat (q2.i 32).toNat) _;rw[aL,e22'];exact hO2
open Go.Proofs.YtomdimlnggpgbaaGreatDoor.D hiding aO aD fN
def tz:Sx.Spec where
 fn:=55
 own:=[]
 rd:=[0]
 res:=[.one .sl]
 pre:=fun xs Hs Rs=>∃ u bs R,xs=[u]/\Rs=[R]/\fu R u bs/\bs.length<=1000000
 post:=fun xs Hs Rs v Hs' F=>∃ u bs R,xs=[u]/\Rs=[R]/\fu R u bs/\bO F 5 v bs
def tA:aG Tryz.prog [] tz.fn where
 Λ:=aD
 args:=[.sv (.one (.sl (.var 0) (.var 1) (.var 2) (.var 3)))]
 mem:=[.ro 4 [.var 0] false]
 nv:=5
def yo:tz.OK Tryz.prog:=by
 refine Spec.aS (Γ:=[]) (fun _ h=>by cases h) ?_;rintro xs Hs Rs hl1 hl2 ⟨u,bs,R,rfl,rfl,hRd,hlen⟩;have e0:Hs=[]:=aad.1 hl1;subst e0;obtain⟨x,y,c,rfl,hy,hR⟩:=id hRd;refine⟨tA,aO [x,y,bs.length,c] false [Hl.none,Hl.none,Hl.none,Hl.none,R],fun _ _=>True,fun _ _=>0,?_,⟨?_,?_,?_,?_⟩,(fun _ h=>nomatch h),?_⟩
 .show [Value.slice (az x y) ((bs.length:Int)).toNat ((c:Int)).toNat]=_;rw[aaa,aaa]
 .intro r hr ho;simp [tA]at hr;subst hr;cases ho
 .intro r hr ho;simp [tA]at hr;subst hr;exact⟨R,aF,Hl.le_refl _⟩
 .simp [tA]
 .intro r hr;simp [tA]at hr;subst hr;trivial
 .refine aG.read [] [] [] ?_;generalize hρ:aO [x,y,bs.length,c] false [Hl.none,Hl.none,Hl.none,Hl.none,R]=J;have v0:J.i 0=x:=by rw[<-hρ];rfl
  have v1:J.i 1=y:=by rw[<-hρ];rfl
  have v2:J.i 2=bs.length:=by rw[<-hρ];rfl
  have w4:J.h 4=R:=by rw[<-hρ];rfl
  clear hρ;simp only[go_sem,Nat.reduceAdd];refine⟨fun hx _=>?_,fun hx q1 g1 p5=>?_⟩
  .have hnil:bs=[]:=by
    rcases hR with h | ⟨h,_⟩
    .exact h
    .omega
   refine⟨[],[],rfl,rfl,⟨(aY fun k=>if k=0 then -1 else 0),rfl,⟨aap _,aap _,aap _,aap _⟩,zzT⟩,_,bs,R,rfl,rfl,hRd,?_⟩;rw[hnil];exact⟨rfl,Or.inl ⟨rfl,rfl⟩⟩
  .obtain⟨hok,hseg⟩:=qp (R:=R) (x:=x) (y:=y) (l:=(bs.length:Int)) rfl hy hR;have ho0:=Fq (Hl.one (q1.i 5).toNat (.cells #[] 5 (0,0))) p5 rfl;rw[g1.i 0,g1.i 1,g1.i 2,g1.h 4,v0,v1,v2,w4];refine⟨⟨⟨_,ho0⟩,aap _,by simpa using hok,by rw[aaa];unfold maxLen;simp;omega,by rw[aaa];simp;omega⟩,fun q2 g2 ⟨a1,a2,a3,_⟩=>fun _=>?_⟩;have hx2:=a3 _ ho0;rw[hseg,abw]at hx2;refine⟨[],[1],rfl,rfl,⟨(aY fun k=>[q2.i 6,0,q2.i 2,q2.i 7].getD k 0),rfl,⟨a1,aap _,?_,a2⟩,zzT⟩,_,bs,R,rfl,rfl,hRd,?_⟩
   .show 0<=q2.i 2;rw[g2.i 2,g1.i 2,v2];omega
   .show bO (cP [q2.h 6]) _ (.slice (az (q2.i 6) 0) (q2.i 2).toNat (q2.i 7).toNat) bs;rw[aL,g2.i 2,g1.i 2,v2];unfold bO;rw[aaa];simpa using hx2
def Km:Sx.Spec where
 fn:=79
 own:=[]
 rd:=[0]
 res:=[.one (.int .u64)]
 pre:=fun xs Hs Rs=>∃ u bs R,xs=[u]/\Rs=[R]/\fu R u bs/\bs.length<=1000
 post:=fun xs Hs Rs v Hs' F=>∃ u bs R,xs=[u]/\Rs=[R]/\fu R u bs/\v=.int .u64 (fK bs)
def FW:aG Tryz.prog [] Km.fn where
 Λ:=fun p=>if lp p then some ⟨0,[(3,TI .u64 (.var 10)),(8,TI .i64 (.var 11))],[],12⟩else none
 args:=[.sv (.one (.sl (.var 0) (.var 1) (.var 2) (.var 3)))]
 mem:=[.ro 4 [.var 0] false]
 nv:=5
def Pt:Km.OK Tryz.prog:=by
 refine Spec.aS (Γ:=[]) (fun _ h=>by cases h) ?_;rintro xs Hs Rs hl1 hl2 ⟨u,bs,R,rfl,rfl,⟨x,y,cp,rfl,hy,hR⟩,hlen⟩;have e0:Hs=[]:=aad.1 hl1;subst e0;refine⟨FW,aO [x,y,bs.length,cp] false [Hl.none,Hl.none,Hl.none,Hl.none,R],MY bs,fun _ q=>(bs.length-q.i 11).toNat,?_,⟨?_,?_,?_,?_⟩,(fun _ h=>nomatch h),?_⟩
 .show [Value.slice (az x y) ((bs.length:Int)).toNat ((cp:Int)).toNat]=_;rw[aaa,aaa]
 .intro r hr ho;simp [FW]at hr;subst hr;cases ho
 .intro r hr ho;simp [FW]at hr;subst hr;exact⟨R,aF,Hl.le_refl _⟩
 .simp [FW]
 .intro r hr;simp [FW]at hr;subst hr;trivial
 .refine aG.read [] [] [] ?_;generalize hρ:aO [x,y,bs.length,cp] false [Hl.none,Hl.none,Hl.none,Hl.none,R]=J;have v0:J.i 0=x:=by rw[<-hρ];rfl
  have v1:J.i 1=y:=by rw[<-hρ];rfl
  have v2:J.i 2=bs.length:=by rw[<-hρ];rfl
  have w4:J.h 4=R:=by rw[<-hρ];rfl
  simp only[go_sem,Nat.reduceAdd];rw[v2];refine⟨ah,⟨0,ah,rfl,rfl⟩,fun q g ⟨k,hk,h11,h10⟩=>?_⟩;rw[g.i 0,g.i 1,g.i 2,g.h 4,v0,v1,v2,w4,h11];refine⟨fun hlt=>?_,fun hge=>?_⟩
  .have hk':k<bs.length:=ah;have hxr:0<=x/\∀ j z,bs[j]?=some z->R.cell x.toNat (y.toNat+j)=some (.int .u8 z):=by
    rcases hR with h | h
    .subst h;simp at hk'
    .exact h
   have hc:R.cell x.toNat (y+k).toNat=some (.int .u8 bs[k]):=by
    rw[show(y+(k:Int)).toNat=y.toNat+k by omega];exact hxr.2 _ _ (aab hk')
   rw[hc];refine⟨hxr.1,hy,ah,rfl,⟨k+1,ah,?_,?_⟩,?_⟩
   .show IntKind.i64.wrap (q.i 11+1)=_;rw[h11];exact wrap_i64 ah ah
   .show jn (q.i 10) (bS ((q.h 4).cell (q.i 0).toNat (q.i 1+q.i 11).toNat))=_;rw[h10,g.i 0,g.i 1,g.h 4,v0,v1,w4,h11,hc,m8 bs k hk'];rfl
   .show((bs.length:Int)-IntKind.i64.wrap (q.i 11+1)).toNat<_;rw[h11,wrap_i64 ah ah];omega
  .have e:k=bs.length:=ah;subst e;rw[abk]at h10;refine fun _=>⟨[],[],rfl,rfl,⟨(aY fun _=>q.i 10),rfl,zzT,zzT⟩,_,bs,R,rfl,rfl,⟨x,y,cp,rfl,hy,hR⟩,?_⟩;show Value.int .u64 (q.i 10)=_;rw[h10]
def JF:Sx.Spec where
 fn:=81
 own:=[]
 rd:=[0]
 res:=[.one (.int .i64)]
 pre:=fun xs Hs Rs=>∃ p R bs bad,xs=[p]/\Rs=[R]/\gH R p bs bad
 post:=fun xs Hs Rs v Hs' F=>∃ p R bs bad,xs=[p]/\Rs=[R]/\gH R p bs bad/\v=.int .i64 bs.length
def Qg:Sx.Spec where
 fn:=83
 own:=[]
 rd:=[0]
 res:=[.one .bool]
 pre:=fun xs Hs Rs=>∃ p R bs bad,xs=[p]/\Rs=[R]/\gH R p bs bad
 post:=fun xs Hs Rs v Hs' F=>∃ p R bs bad,xs=[p]/\Rs=[R]/\gH R p bs bad/\v=.bool bad
def E4:aG Tryz.prog [] JF.fn where
 Λ:=aD
 args:=[TP (.var 0) (.lit 0)]
 mem:=[.ro 1 [.var 0] false]
 nv:=2
def MV:aG Tryz.prog [] Qg.fn where
 Λ:=aD
 args:=[TP (.var 0) (.lit 0)]
 mem:=[.ro 1 [.var 0] false]
 nv:=2
def N4:JF.OK Tryz.prog:=by
 refine Spec.aS (Γ:=[]) (fun _ h=>by cases h) ?_;rintro xs Hs Rs hl1 hl2 ⟨p,R,bs,bad,rfl,rfl,hIn⟩;have e0:Hs=[]:=aad.1 hl1;subst e0;obtain⟨a,x,y,c,rfl,hc0,hc1,hx,hy,hR⟩:=hIn.whole;refine⟨E4,aO [(a:Int)] false [Hl.none,R],fun _ _=>True,fun _ _=>0,?_,⟨?_,?_,?_,?_⟩,(fun _ h=>nomatch h),?_⟩
 .show [Value.pointer (az (a:Int) 0)]=_;rw[gz]
 .intro r hr ho;simp [E4]at hr;subst hr;cases ho
 .intro r hr ho;simp [E4]at hr;subst hr;exact⟨R,aF,Hl.le_refl _⟩
 .simp [E4]
 .intro r hr;simp [E4]at hr;subst hr;trivial
 .refine aG.read [] [] [] ?_;generalize hρ:aO [(a:Int)] false [Hl.none,R]=J;have v0:J.i 0=a:=by rw[<-hρ];rfl
  have w1:J.h 1=R:=by rw[<-hρ];rfl
  clear hρ;have tn0:Int.toNat 0=0:=rfl;simp only[go_sem,Nat.reduceAdd,tn0];rw[v0,w1,aaa,hc0,RM hx];refine⟨ah,rfl,ah,fun _=>⟨[],[],rfl,rfl,⟨(aY fun _=>bs.length),?_,zzT,zzT⟩,_,R,bs,bad,rfl,rfl,hIn,?_⟩⟩
  all_goals
   show Value.int .i64 (bm (((J.h 1).cell (J.i 0).toNat (Int.toNat 0+0))) 2)=_;rw[v0,w1,aaa,tn0,aaW,hc0,RM hx]
   try rfl
def Qh:Qg.OK Tryz.prog:=by
 refine Spec.aS (Γ:=[]) (fun _ h=>by cases h) ?_;rintro xs Hs Rs hl1 hl2 ⟨p,R,bs,bad,rfl,rfl,hIn⟩;have e0:Hs=[]:=aad.1 hl1;subst e0;obtain⟨a,x,y,c,rfl,hc0,hc1,hx,hy,hR⟩:=hIn.whole;refine⟨MV,aO [(a:Int)] false [Hl.none,R],fun _ _=>True,fun _ _=>0,?_,⟨?_,?_,?_,?_⟩,(fun _ h=>nomatch h),?_⟩
 .show [Value.pointer (az (a:Int) 0)]=_;rw[gz]
 .intro r hr ho;simp [MV]at hr;subst hr;cases ho
 .intro r hr ho;simp [MV]at hr;subst hr;exact⟨R,aF,Hl.le_refl _⟩
 .simp [MV]
 .intro r hr;simp [MV]at hr;subst hr;trivial
 .refine aG.read [] [] [] ?_;generalize hρ:aO [(a:Int)] false [Hl.none,R]=J;have v0:J.i 0=a:=by rw[<-hρ];rfl
  have w1:J.h 1=R:=by rw[<-hρ];rfl
  clear hρ;have tn1:Int.toNat 1=1:=rfl;simp only[go_sem,Nat.reduceAdd,tn1];rw[v0,w1,aaa,hc1];refine⟨ah,rfl,fun _=>⟨[],[],rfl,rfl,⟨⟨fun _=>0,fun _=>bad,fun _=>.empty,fun _=>.tuple #[],fun _=>Hl.none⟩,?_,zzT,zzT⟩,_,R,bs,bad,rfl,rfl,hIn,?_⟩⟩
  all_goals
   show Value.bool (xm (((J.h 1).cell (J.i 0).toNat (Int.toNat 1+0))))=_;rw[v0,w1,aaa,tn1,hc1]
   try rfl
def si (L:LM):Int:=fK (L.note.take 8)
def Lc:Sx.Spec where
 fn:=45
 own:=[]
 rd:=[0]
 res:=[.one (.int .u64)]
 pre:=fun xs Hs Rs=>∃ p R dp sl L,xs=[p]/\Rs=[R]/\fQ R p dp sl L
 post:=fun xs Hs Rs v Hs' F=>∃ p R dp sl L,xs=[p]/\Rs=[R]/\fQ R p dp sl L/\v=.int .u64 (si L)
def Xs:List Sx.Spec:=[Km,pS]
def TC:∀ t∈Xs,t.OK Tryz.prog:=av Pt <| av Bt <| bQ
def Nz:aG Tryz.prog Xs Lc.fn where
 Λ:=aD
 args:=[TP (.var 0) (.lit 0)]
 mem:=[.ro 1 [.var 0] false]
 nv:=2
def Yy:Km.res=[.one (.int .u64)]:=rfl
def Yz:pS.res=[.agg (td 16)]:=rfl
def QC:Lc.OK Tryz.prog:=by
 refine Spec.aS (Γ:=Xs) TC ?_;rintro xs Hs Rs hl1 hl2 ⟨p,R,dp,sl,L,rfl,rfl,hL⟩;have e0:Hs=[]:=aad.1 hl1;subst e0;obtain⟨a,rfl,hLi⟩:=id hL;refine⟨Nz,aO [(a:Int)] false [Hl.none,R],fun _ _=>True,fun _ _=>0,?_,⟨?_,?_,?_,?_⟩,(fun _ h=>nomatch h),?_⟩
 .show [Value.pointer (az (a:Int) 0)]=_;rw[gz]
 .intro r hr ho;simp [Nz]at hr;subst hr;cases ho
 .intro r hr ho;simp [Nz]at hr;subst hr;exact⟨R,aF,Hl.le_refl _⟩
 .simp [Nz]
 .intro r hr;simp [Nz]at hr;subst hr;trivial
 .refine aG.read [] [] [] ?_;generalize hρ:aO [(a:Int)] false [Hl.none,R]=J;have v0:J.i 0=a:=by rw[<-hρ];rfl
  have w1:J.h 1=R:=by rw[<-hρ];rfl
  clear hρ;simp only[go_sem,Nat.reduceAdd,Xs,Yy,Yz];rw[v0,w1,gz];refine⟨⟨_,R,dp,sl,L,rfl,rfl,hL⟩,fun q1 g1 ⟨F1,⟨p',R',dp',sl',L',e1,e2,hL',hv⟩,_⟩ q2 g2 p2=>?_⟩;simp only[aag,aat]at e1 e2;subst e1 e2;obtain⟨_,_,rfl⟩:=hL.uniq hL';have ec:(al 2 (List.replicate 16 (Ck.int .u8))).map (CV.ev q1)=aM L.note:=aaG (Value.agg.inj hv);have ec2:(al 2 (List.replicate 16 (Ck.int .u8))).map (CV.ev q2)=aM L.note:=(CV.ga g2 _ aA).trans ec;have hn16:=hLi.1.note;have hRd:fu (Hl.one (q2.i 18).toNat (.cells (aM L.note).toArray 60 (0,0))) (.slice (az (q2.i 18) 0) (Int.toNat 8) (Int.toNat 16)) (L.note.take 8):=by
   refine⟨q2.i 18,0,16,?_,aap _,Or.inr ⟨p2,fun j z hj=>?_⟩⟩
   .rw[aaA,hn16];rfl
   .have hj8:j<8:=by have:=(aaj.1 hj).1;rw[aaA]at this;omega
    rw[abd hj8]at hj;rw[Hl.one_cell,abl,fF,acv,aaI,hj];rfl
  rw[ec2];refine⟨⟨_,_,_,rfl,rfl,hRd,by rw[aaA];omega⟩,fun q3 g3 ⟨F3,⟨u',bs',R3,e1,e2,hR3,hv3⟩,_⟩ _=>?_⟩;simp only[aag,aat]at e1 e2;subst e1 e2;rw[<-hRd.uniq hR3]at hv3;have hv3:Value.int .u64 (q3.i 19)=.int .u64 (si L):=hv3;exact⟨[],[],rfl,rfl,⟨(aY fun _=>si L),hv3,zzT,zzT⟩,_,R,dp,sl,L,rfl,rfl,hL,hv3⟩
end Go.Proofs.YtomdimlnggpgbaaGreatDoor
namespace Go.Sx
open Go
variable {F G:Hl}{us ws:List Value}{b i k m n:Nat}{e:TypeId}{v:Value}
def aN.Q3 (h:aN F e k v n us) (hb:v.ownBlock=some b):F.mem b:=by
 rcases h.2 with ⟨h,_⟩ | ⟨gg,cap,cur,h,hg,_⟩
 .rw[h]at hb;cases hb
 .rw[h]at hb;have:gg=b:=by simpa [Value.ownBlock] using hb
  subst this;unfold Hl.mem;rw[hg];rfl
def aN.mono (hl:F.le G) (h:aN F e k v m us):aN G e k v m us:=by
 refine⟨h.1,h.2.imp id fun⟨g,cap,cur,hv,hg,r⟩=>⟨g,cap,cur,hv,hl _ _ hg,r⟩⟩
def aN.inj (h1:aN F e k v n us) (h2:aN F e k v m ws):n=m/\us=ws:=by
 obtain⟨l1,h1⟩:=h1;obtain⟨l2,h2⟩:=h2;rcases h1 with ⟨h1,hn⟩ | ⟨g,cap,cur,h1,hg,_,_,_,ht⟩<;>rcases h2 with ⟨h2,hm⟩ | ⟨g',cap',cur',h2,hg',_,_,_,ht'⟩
 .subst hn;subst hm;refine⟨rfl,?_⟩;rw[acO]at l1 l2;rw[aad.1 l1,aad.1 l2]
 .rw[h1]at h2;cases h2
 .rw[h1]at h2;cases h2
 .rw[h1]at h2;simp only[Value.slice.injEq,aai,Addr.mk.injEq,aat]at h2;obtain⟨eg,en,_⟩:=h2;subst eg;subst en;rw[hg]at hg';simp only[aai,Obj.cells.injEq,aat]at hg';rw[<-ht,<-ht',hg'];exact⟨rfl,rfl⟩
def aN.cellAt {x l c:Int} (h:aN F e 1 (.slice (az x 0) l.toNat c.toNat) n us) (hx:-1<=x) (hi:i<n):0<=x/\F.cell x.toNat i=us[i]?:=by
 obtain⟨hl,h⟩:=h;rcases h with ⟨_,hn⟩ | ⟨g,cap,cur,hv,hg,hle,hm,hs,ht⟩
 .omega
 .simp only[Value.slice.injEq]at hv;obtain⟨hp,_,_⟩:=hv;have h0:0<=x:=by
   rcases abu x 0 with hlt | h0
   .rw[show x= -1 by omega,fb]at hp;cases hp
   .exact h0
  rw[au h0]at hp;simp only[aai,Addr.mk.injEq,aat]at hp;refine⟨h0,?_⟩;rw[hp.1,<-ht];unfold Hl.cell;rw[hg,abd ah,acj]
end Go.Sx
namespace Go.Proofs.YtomdimlnggpgbaaGreatDoor
open Go Go.Sx Go.Pk
variable {B F G H R RA:Hl}{x x' y:Int}{a b rows:List (List Int)}{bs r:List Int}{c j k l:Nat}{o o':Option Nat}{u v v':Value}
def Kq {a b:Int} (hx:0<=x) (hy:0<=y) (hb:0<=b) (h:az a b=az x y):a=x/\b=y:=by
 rcases abu a 0 with ha | ha
 .exfalso;rw[au hx]at h;unfold az at h;rw[aan ah]at h;split at h
  .cases h
  .simp only[aai,Addr.mk.injEq]at h;obtain⟨_,_,h⟩:=h;cases h
 .rw[au ha,au hx]at h;simp only[aai,Addr.mk.injEq]at h;omega
def JV {a:Int} (h:0<=a):(Value.slice (az a y) l c).ownBlock=some a.toNat:=by
 rw[au h];rfl
def Qe {l' c':Nat} (hx:-1<=x') (h:some x'.toNat=(Value.slice (az x 0) l c).ownBlock\/¬H.mem x'.toNat\/x'= -1):∀ b,H.mem b->some b≠(Value.slice (az x 0) l c).ownBlock->some b≠(Value.slice (az x' 0) l' c').ownBlock:=by
 intro b hb hne he;rcases abu x' 0 with hn | hn
 .rw[show x'= -1 by omega,fb]at he;cases he
 .rw[JV hn]at he;have he:b=x'.toNat:=by simpa using he
  rcases h with h | h | h
  .exact hne (by rw[he];exact h)
  .rw[<-he]at h;exact h hb
  .omega
def oa (F:Hl) (o:Option Nat) (u:Value) (r:List Int):Prop:=∃ (x y:Int) (c:Nat),u=.slice (az x y) r.length c/\ -1<=x/\0<=y/\(r=[]\/(0<=x/\some x.toNat≠o/\∀ j z,r[j]?=some z->F.cell x.toNat (y.toNat+j)=some (.int .u8 z)))
def Na {b:Nat} (h:F.cell b j=some v):F.mem b:=by
 unfold Hl.cell at h;unfold Hl.mem;cases hF:F b with
 | none=>rw[hF]at h;cases h
 | some o=>rfl
def cell_of {b:Nat} (h:F.cell b j=some v) (e:G b=F b):G.cell b j=some v:=by
 unfold Hl.cell at h ⊢;rw[e];exact h
def oa.fU (h:oa F o u r) (hk:∀ b,F.mem b->some b≠o->G b=F b) (hn:∀ b,F.mem b->some b≠o->some b≠o'):oa G o' u r:=by
 obtain⟨x,y,c,hu,hx,hy,h⟩:=h;refine⟨x,y,c,hu,hx,hy,?_⟩;cases r with
 | nil=>exact Or.inl rfl
 | cons z r =>
  rcases h with h | ⟨h0,hne,hc⟩
  .cases h
  .have hm:F.mem x.toNat:=Na (hc 0 z rfl);exact Or.inr ⟨h0,hn _ hm hne,fun j w hj=>cell_of (hc j w hj) (hk _ hm hne)⟩
def oa.rd (h:oa F o u r):fu F u r:=by
 obtain⟨x,y,c,hu,_,hy,h⟩:=h;exact⟨x,y,c,hu,hy,h.imp id fun h=>⟨h.1,h.2.2⟩⟩
def oa.of {l c:Int} (h:fu F (.slice (az x y) l.toNat c.toNat) r) (hx:-1<=x) (hy:0<=y):oa F none (.slice (az x y) l.toNat c.toNat) r:=by
 obtain⟨x',y',c',hu,hy',h⟩:=h;simp only[Value.slice.injEq]at hu;obtain⟨h1,h2,h3⟩:=hu;refine⟨x,y,c.toNat,by rw[h2],hx,hy,h.imp id fun⟨h0,h⟩=>?_⟩;obtain⟨e1,e2⟩:=kG hx hy ah hy' h1;subst e1;have e2:=e2 h0;subst e2;exact⟨h0,aF,h⟩
def bU (F:Hl) (v:Value) (rows:List (List Int)):Prop:=∃ us:List Value,aN F 46 1 v rows.length us /\
 ∀ (j:Nat) (u:Value) (r:List Int),us[j]?=some u->rows[j]?=some r->oa F v.ownBlock u r
def bU.nil (F:Hl):bU F (.slice none 0 0) []:=⟨[],⟨rfl,Or.inl ⟨rfl,rfl⟩⟩,(fun j u r h=>by simp at h)⟩
def bU.len {us:List Value} (h:aN F 46 1 v rows.length us):us.length=rows.length:=by
 have:=h.1;omega
def bU.mono (hl:F.le G) (h:bU F v rows):bU G v rows:=by
 obtain⟨us,ho,hr⟩:=h;refine⟨us,aN.mono hl ho,fun j u r hu hrr=>(hr j u r hu hrr).fU (fun b hm _=>?_) (fun _ _ h=>h)⟩;obtain⟨o,ho⟩:=aa5.1 hm;rw[hl _ _ ho,ho]
def bU.snoc (h:bU F v rows) (hd:F.bP B) (hu:oa B none u r)
 (happ:∀ xs,aN (F.un B) 46 1 v rows.length xs->aN G 46 1 v' (rows.length+1) (xs++[u]))
 (hk:∀ b,(F.un B).mem b->some b≠v.ownBlock->G b=(F.un B) b) (hn:∀ b,(F.un B).mem b->some b≠v.ownBlock->some b≠v'.ownBlock):bU G v' (rows++[r]):=by
 obtain⟨us,ho,hr⟩:=h;have hul:=bU.len ho;have hold:∀ (j:Nat) (w:Value) (s:List Int),us[j]?=some w->rows[j]?=some s->oa (F.un B) v.ownBlock w s:=fun j w s hj hs =>
  (hr j w s hj hs).fU (fun b hm _=>by obtain⟨o,ho⟩:=aa5.1 hm;rw[Hl.sW ho,ho]) (fun b _ h=>h)
 have hun:oa (F.un B) v.ownBlock u r:=hu.fU (fun b hm _=>by rw[Hl.qA fun h2=>hd b ⟨h2,hm⟩]) fun b hm _ e=>hd b ⟨ho.Q3 e.symm,hm⟩;refine⟨us++[u],?_,fun j w s hj hs=>?_⟩
 .rw[aac,aay];exact happ us (ho.mono (Hl.bh _ _))
 .rcases aa9 j us.length with hl | hl
  .rw[aaH hl]at hj;rw[aaH ah]at hs;exact(hold j w s hj hs).fU hk hn
  .rw[aau hl]at hj;rw[aau ah]at hs;have hj:=aae hj;have hs:=aae hs;rw[aal]at hj hs;subst hj;subst hs;exact hun.fU hk hn
def bU.at {l c:Int} (h:bU F (.slice (az x 0) l.toNat c.toNat) rows) (hx:-1<=x) (hl:0<=l):l=rows.length/\∀ (i:Nat) r,rows[i]?=some r->0<=x/\∃ u,F.cell x.toNat i=some u/\oa F (some x.toNat) u r:=by
 obtain⟨us,ho,hr⟩:=h;have hul:=bU.len ho;refine⟨?_,fun i r hi=>?_⟩
 .rcases ho.2 with ⟨h,hn⟩ | ⟨g,cap,cur,h,_⟩
  .simp only[Value.slice.injEq]at h;omega
  .simp only[Value.slice.injEq]at h;omega
 .have hi':=(aaj.1 hi).1;obtain⟨h0,hc⟩:=ho.cellAt hx hi';have hu:us[i]?=some us[i]:=aab ah;have:=hr i _ r hu hi;rw[JV h0]at this;exact⟨h0,_,by rw[hc,hu],this⟩
def bU.uniq (h1:bU F v a) (h2:bU F v b):a=b:=by
 obtain⟨us,ho,hr⟩:=h1;obtain⟨ws,ho',hr'⟩:=h2;obtain⟨el,e⟩:=ho.inj ho';subst e;have hul:=bU.len ho;apply abS el;intro j hj hj';have hu:us[j]?=some us[j]:=aab ah;exact(hr j _ _ hu (aab hj)).rd.uniq (hr' j _ _ hu (aab hj')).rd
def vu {l c c':Int} (h:bU F (.slice (az x 0) l.toNat c.toNat) rows) (hx:-1<=x) (hl:0<=l) (hd:F.bP B) (hu:oa B none u r) (hx':-1<=x')
 (happ:∀ xs,aN (F.un B) 46 1 (.slice (az x 0) l.toNat c.toNat) l.toNat xs->aN G 46 1 (.slice (az x' 0) (l.toNat+1) c'.toNat) (l.toNat+1) (xs++[u]))
 (hkeep:∀ b,(F.un B).mem b->some b≠(Value.slice (az x 0) l.toNat c.toNat).ownBlock->G b=(F.un B) b) (hnew:some x'.toNat=(Value.slice (az x 0) l.toNat c.toNat).ownBlock\/¬(F.un B).mem x'.toNat\/x'= -1):bU G (.slice (az x' 0) (l+1).toNat c'.toNat) (rows++[r]):=by
 have hlr:l=rows.length:=(h.at hx hl).1;have e1:(l+1).toNat=rows.length+1:=ah;have e2:l.toNat=rows.length:=ah;rw[e2]at happ;rw[e1];rw[e2]at h hkeep hnew;exact bU.snoc h hd hu happ hkeep (Qe hx' hnew)
def tx (bs:List Int):List Int×List Int×Bool:=bf bs false 4096
def qx:Nat->List Int->List (List Int)
 | 0,_=>[]
 | n+1,bs=>if bs=[]then []else if(tx bs).2.2=true then []else(tx bs).1::qx n (tx bs).2.1
def jk (bs:List Int):List (List Int):=qx bs.length bs
def DO (h0:bs≠[]) (h:(tx bs).2.2=false):(tx bs).2.1.length<bs.length:=by
 have hl:0<bs.length:=adu.2 h0;unfold tx bf at h ⊢;split at h
 .cases h
 .rename_i hc;rw[aan hc];have h2:(c8 bs).2≠0:=fun e=>hc (Or.inr (Or.inl e));show(bs.drop _).length<_;rw[aaK];omega
def oS:∀ n,qx n []=[]
 | 0=>rfl
 | _+1=>rfl
def xa:∀ (n m:Nat) (bs:List Int),bs.length<=n->bs.length<=m->qx n bs=qx m bs
 | 0,m,bs,h,_=>by
  have:bs=[]:=aad.1 ah;rw[this,oS,oS]
 | n+1,0,bs,_,h=>by
  have:bs=[]:=aad.1 ah;rw[this,oS,oS]
 | n+1,m+1,bs,h1,h2=>by
  unfold qx;by_cases h0:bs=[]
  .rw[aav h0,aav h0]
  .rw[aan h0,aan h0];by_cases hb:(tx bs).2.2=true
   .rw[aav hb,aav hb]
   .rw[aan hb,aan hb];have:=DO h0 (abC.2 hb);rw[xa n m _ ah ah]
def wZ (n:Nat) (bs:List Int) (h:bs.length<=n):qx n bs=jk bs:=xa n bs.length bs h (aaw _)
def Ca (h:bs≠[]):jk bs=if(tx bs).2.2=true then []else(tx bs).1::jk (tx bs).2.1:=by
 rw[<-wZ (bs.length+1) bs ah];show(if bs=[]then []else if(tx bs).2.2=true then []else(tx bs).1::qx bs.length (tx bs).2.1)=_;rw[aan h];cases hb:(tx bs).2.2 with
 | true=>rfl
 | false=>rw[aan aF,aan aF,wZ _ _ (by have:=DO h hb;omega)]
def vD:Sx.Spec where
 fn:=46
 own:=[]
 rd:=[0]
 res:=[.one .sl]
 pre:=fun xs Hs Rs=>∃ u bs R,xs=[u]/\Rs=[R]/\fu R u bs/\ar bs/\bs.length<=1000000
 post:=fun xs Hs Rs v Hs' F=>∃ u bs R,xs=[u]/\Rs=[R]/\fu R u bs/\bU F v (jk bs)
def XV:List Sx.Spec:=[oL,JF,xd,Qg]
def U2:∀ t∈XV,t.OK Tryz.prog:=av vl <| av N4 <| av Gj <| av Qh <| bQ
def Ax:aG Tryz.prog XV vD.fn where
 Λ:=fun p=>if Oa p then some ⟨0,[(3,.sv (.one (.sl (.var 53) (.lit 0) (.var 54) (.var 55))))],[(1,.hp 51 [] [.var 5] []),(2,.hp 56 [] [.var 53] [])],60⟩else none
 args:=[.sv (.one (.sl (.var 0) (.var 1) (.var 2) (.var 3)))]
 mem:=[.ro 4 [.var 0] false]
 nv:=5
def ZS:oL.res=[.one .ptr]:=rfl
def ZT:JF.res=[.one (.int .i64)]:=rfl
def ZU:xd.res=[.one .sl]:=rfl
def ZV:Qg.res=[.one .bool]:=rfl
def Gw (n:Nat):(aK n [Cp.one .sl]≠[])=True:=by simp [aK,Cp.roots,Ck.root]
def UL (n:Nat):(aK n [Cp.one .ptr]≠[])=True:=by simp [aK,Cp.roots,Ck.root]
def My:vD.OK Tryz.prog:=by
 refine Spec.aS (Γ:=XV) U2 ?_;rintro xs Hs Rs hl1 hl2 ⟨u,bs,R,rfl,rfl,hRd,hby,hlen⟩;have e0:Hs=[]:=aad.1 hl1;subst e0;obtain⟨x,y,c,rfl,hy,hR⟩:=id hRd;refine⟨Ax,aO [x,y,bs.length,c] false [Hl.none,Hl.none,Hl.none,Hl.none,R],fun _ q=>∃ rest rows,gH (q.h 51) (.pointer (az (q.i 5) (q.i 6))) rest false/\ -1<=q.i 53/\0<=q.i 54/\0<=q.i 55/\bU (q.h 56) (.slice (az (q.i 53) 0) (q.i 54).toNat (q.i 55).toNat) rows/\rows++jk rest=jk bs/\rows.length+rest.length<=bs.length,fun _ q=>(bs.length-q.i 54).toNat,?_,⟨?_,?_,?_,?_⟩,(fun _ h=>nomatch h),?_⟩
 .show [Value.slice (az x y) ((bs.length:Int)).toNat ((c:Int)).toNat]=_;rw[aaa,aaa]
 .intro r hr ho;simp [Ax]at hr;subst hr;cases ho
 .intro r hr ho;simp [Ax]at hr;subst hr;exact⟨R,aF,Hl.le_refl _⟩
 .simp [Ax]
 .intro r hr;simp [Ax]at hr;subst hr;trivial
 .refine aG.read [] [] [] ?_;generalize hρ:aO [x,y,bs.length,c] false [Hl.none,Hl.none,Hl.none,Hl.none,R]=J;have v0:J.i 0=x:=by rw[<-hρ];rfl
  have v1:J.i 1=y:=by rw[<-hρ];rfl
  have v2:J.i 2=bs.length:=by rw[<-hρ];rfl
  have v3:J.i 3=c:=by rw[<-hρ];rfl
  have w4:J.h 4=R:=by rw[<-hρ];rfl
  clear hρ;have out:∀ {q:Env} {rows:List (List Int)} {mem:Mem},JS mem [] [2]=true->(xg q mem [2])=q.h 56-> -1<=q.i 53->0<=q.i 54->0<=q.i 55->bU (q.h 56) (.slice (az (q.i 53) 0) (q.i 54).toNat (q.i 55).toNat) rows->rows=jk bs->postOf vD [.slice (az x y) bs.length c] [] [R] q mem (.sv (.one (.sl (.var 53) (.lit 0) (.var 54) (.var 55)))):=by
   intro q rows mem hok hu h1 h2 h3 hr he _;subst he;exact⟨[],[2],rfl,hok,⟨(aY fun k=>[q.i 53,0,q.i 54,q.i 55].getD k 0),rfl,⟨h1,aap _,h2,h3⟩,zzT⟩,_,bs,R,rfl,rfl,hRd,by rw[hu];exact hr⟩
  simp only[go_sem,Nat.reduceAdd,XV,ZS,ZT,ZU,ZV,Gw,UL];rw[v0,v1,v2,v3,w4,aaa,aaa];refine⟨⟨_,bs,R,rfl,rfl,hRd,hby,hlen⟩,fun q1 g1 ⟨F1,⟨u',bs',R',e1,e2,hR',hIn⟩,hF1,_⟩=>?_⟩;simp only[aag,aat]at e1 e2;subst e1 e2;obtain rfl:=hRd.uniq hR';rw[<-hF1 zzT]at hIn;refine⟨⟨bs,[],hIn,aap _,aap _,aap _,bU.nil _,rfl,aF⟩,fun q2 g2 ⟨rest,rows,hI,x53,x54,x55,hO,hsum,hle⟩=>?_⟩;have hlr:=(hO.at x53 x54).1;refine⟨⟨_,_,rest,false,rfl,rfl,hI⟩,fun q3 g3 ⟨F3,⟨p3,R3,bs3,bad3,e1,e2,hI3,hv3⟩,_⟩=>?_⟩;simp only[aag,aat]at e1 e2;subst e1 e2;obtain⟨e3,_⟩:=hI.uniq hI3;subst e3;have hv3:q3.i 60=rest.length:=by simpa using hv3
  rw[hv3];have hend:rest.length=0->rows=jk bs:=fun h=>by
   have:rest=[]:=aad.1 h;subst this;rw[<-hsum];exact(aa6 _).symm
  refine⟨fun hpos=>?_,fun hneg=>out rfl (aL _) (by rw[g3.i 53];exact x53) (by rw[g3.i 54];exact x54) (by rw[g3.i 55];exact x55) (by rw[g3.i 53,g3.i 54,g3.i 55,g3.h 56];exact hO) (hend ah)⟩;have hne:rest≠[]:=by rintro rfl;simp at hpos
  rw[g3.i 5,g3.i 6,g3.h 51];refine⟨⟨_,4096,_,rest,false,rfl,rfl,hI,ah⟩,fun q4 g4 ⟨F4,⟨p4,m4,H4,bs4,bad4,H4',e1,e2,hI4,e3,hI4',hv4⟩,hF4,hn4⟩=>?_⟩;simp only[aag,Value.int.injEq,aaY,aat]at e1 e2 e3;obtain⟨e1,em⟩:=e1;subst e1 em e2;obtain⟨e4,e5⟩:=hI.uniq hI4;subst e4 e5;rw[<-e3]at hI4';rw[<-hF4 zzT]at hv4;have hI4':gH (q4.h 61) (.pointer (az (q2.i 5) (q2.i 6))) (tx rest).2.1 (tx rest).2.2:=hI4';have hv4:bO (q4.h 62) 5 (.slice (az (q4.i 61) (q4.i 62)) (q4.i 63).toNat (q4.i 64).toNat) (tx rest).1:=hv4;have hn4:-1<=q4.i 61/\0<=q4.i 62/\0<=q4.i 63/\0<=q4.i 64:=hn4.1;rw[g4.i 5,g4.i 6,g3.i 5,g3.i 6];refine⟨⟨_,_,_,_,rfl,rfl,hI4'⟩,fun q5 g5 ⟨F5,⟨p5,R5,bs5,bad5,e1,e2,hI5,hv5⟩,_⟩=>?_⟩;simp only[aag,aat]at e1 e2;subst e1 e2;obtain⟨_,e5⟩:=hI4'.uniq hI5;subst e5;have hv5:q5.b 65=(tx rest).2.2:=by simpa [br] using hv5
  have hat:=Ca hne;have G:ai 60 q2 q5:=g3.trans ((g4.tr g5).mono ah);have G4:ai 65 q4 q5:=g5;rw[hv5];refine⟨fun hb=>out rfl (aL _) (by rw[G.i 53];exact x53) (by rw[G.i 54];exact x54) (by rw[G.i 55];exact x55) (by rw[G.i 53,G.i 54,G.i 55,G.h 56];exact hO) (by rw[<-hsum,hat,aav hb,aa6]),fun hb q6 g6 _ q7 g7 ⟨e7,hd7⟩=>?_⟩;have hb:(tx rest).2.2=false:=abC.2 hb;have G7:ai 60 q2 q7:=G.trans ((g6.tr g7).mono ah);have G47:ai 65 q4 q7:=G4.trans ((g6.tr g7).mono ah);have G46:ai 65 q4 q6:=G4.tr g6;have G6:ai 60 q2 q6:=G.tr g6;have hu:oa (q6.h 62) none (.slice (az (q7.i 61) (q7.i 62)) (q7.i 63).toNat (q7.i 64).toNat) (tx rest).1:=by
   rw[G46.h 62,G47.i 61,G47.i 62,G47.i 63,G47.i 64];exact oa.of hv4.rd.w hn4.1 hn4.2.1
  rw[e7,G6.h 56,G7.i 53,G7.i 54,G7.i 55];rw[G6.h 56]at hd7;have hpre:∃ xs,aN ((q2.h 56).un (q6.h 62)) 46 1 (.slice (az (q2.i 53) 0) (q2.i 54).toNat (q2.i 55).toNat) (q2.i 54).toNat xs:=by
   obtain⟨us,ho,_⟩:=hO;rw[show(q2.i 54).toNat=rows.length by omega]at ho ⊢;exact⟨us,ho.mono (Hl.bh _ _)⟩
  refine⟨⟨hpre,x54,by unfold maxLen;omega,ah⟩,fun q8 g8 ⟨a1,a2,happ,hk,_,hn⟩=>?_⟩;have G8:ai 60 q2 q8:=G7.tr g8;have G48:ai 65 q4 q8:=G47.tr g8;have hrows:=vu hO x53 x54 hd7 hu a1 happ hk hn;have e54:q8.i 54+1=q2.i 54+1:=by rw[G8.i 54]
  have hless:=DO hne hb;refine⟨⟨(tx rest).2.1,rows++[(tx rest).1],?_,a1,?_,a2,?_,?_,?_⟩,?_⟩
  .show gH (q8.h 61) (.pointer (az (q8.i 5) (q8.i 6))) _ _;rw[G48.h 61,G8.i 5,G8.i 6,<-hb];exact hI4'
  .show 0<=q8.i 54+1;omega
  .show bU (q8.h 68) (.slice (az (q8.i 68) 0) (q8.i 54+1).toNat (q8.i 69).toNat) _;rw[e54];exact hrows
  .rw[aax,<-hsum,hat,aan (by rw[hb];simp)];rfl
  .rw[aac,aay];omega
  .show((bs.length:Int)-(q8.i 54+1)).toNat<_;omega
def iq (h:∃ a l c,u=.slice a l c):Value.slice (az (bm (some u) 0) (bm (some u) 1)) (bm (some u) 2).toNat (bm (some u) 3).toNat=u:=by
 obtain⟨a,n,c,rfl⟩:=h;cases a with
 | none=>simp [bm,az]
 | some a =>
  obtain⟨b,o,s⟩:=a;cases s with
  | none=>simp [bm,az]
  | some s =>
   simp only[bm,aaa];unfold az;rw[aan ah,aan ah,aaa,Gq,show(-(-(b:Int)-2)-2).toNat=b by omega]
def fu.parts (h:fu R u r):(∃ a l c,u=.slice a l c)/\bm (some u) 2=r.length /\
 (bm (some u) 0= -1\/bm (some u) 2=0\/0<=bm (some u) 0/\0<=bm (some u) 1/\bG R (bm (some u) 0).toNat (bm (some u) 1).toNat (bm (some u) 2).toNat=true) /\
 (if bm (some u) 0= -1 then ByteArray.empty else bytesOf (fG R (bm (some u) 0).toNat (bm (some u) 1).toNat (bm (some u) 2).toNat))=bytesOf r:=by
 obtain⟨x,y,c,rfl,hy,h⟩:=h;have h2:bm (some (.slice (az x y) r.length c)) 2=r.length:=by
  cases hs:az x y with
  | none=>rfl
  | some a=>obtain⟨b,o,s⟩:=a;cases s<;>rfl
 refine⟨⟨_,_,_,rfl⟩,h2,?_⟩;rw[h2];rcases h with h | ⟨hx,hc⟩
 .subst h;refine⟨Or.inr (Or.inl rfl),?_⟩;show(if _ then ByteArray.empty else bytesOf (fG R _ _ 0))=ByteArray.empty;split<;>rfl
 .rw[Vg ah,WX hx hy,aaa];refine⟨Or.inr (Or.inr ⟨hx,hy,cW hc (aaw _)⟩),?_⟩;rw[aan ah,og hc]
def js (R RA:Hl) (v:Value) (rows:List (List Int)):Prop:=∃ (us:List Value) (x y:Int) (c:Nat),v=.slice (az x y) us.length c/\0<=y/\us.length=rows.length/\(∀ (j:Nat) (u:Value),us[j]?=some u->0<=x/\R.cell x.toNat (y.toNat+j)=some u)/\(∀ (j:Nat) (u:Value) (r:List Int),us[j]?=some u->rows[j]?=some r->fu RA u r)
def js.uniq (h1:js R RA v a) (h2:js R RA v b):a=b:=by
 obtain⟨us,x,y,c,hv,hy,hl,hc,hr⟩:=h1;obtain⟨us',x',y',c',hv',hy',hl',hc',hr'⟩:=h2;rw[hv]at hv';simp only[Value.slice.injEq]at hv';obtain⟨ep,el,_⟩:=hv';apply abS ah;intro j hj hj';have hu:us[j]?=some us[j]:=aab ah;have hu':us'[j]?=some us'[j]:=aab ah;obtain⟨hx,e1⟩:=hc j _ hu;obtain⟨hx',e2⟩:=hc' j _ hu';obtain⟨exx,eyy⟩:=kG ah hy ah hy' ep;have eyy:=eyy hx;subst exx;subst eyy;rw[e1]at e2;have e2:us[j]=us'[j]:=by simpa using e2
 have h1:=hr j _ _ hu (aab hj);have h2:=hr' j _ _ hu' (aab hj');rw[e2]at h1;exact h1.uniq h2
def js.at (h:js R RA (.slice (az x y) l c) rows) (hy:0<=y):l=rows.length/\∀ (i:Nat) r,rows[i]?=some r->0<=x/\∃ u,R.cell x.toNat (y.toNat+i)=some u/\fu RA u r:=by
 obtain⟨us,x',y',c',hv,hy',hl,hc,hr⟩:=h;simp only[Value.slice.injEq]at hv;obtain⟨ep,el,_⟩:=hv;refine⟨ah,fun i r hi=>?_⟩;have hi':=(aaj.1 hi).1;have hu:us[i]?=some us[i]:=aab ah;obtain⟨hx,e⟩:=hc i _ hu;obtain⟨rfl,rfl⟩:=Kq hx hy' hy ep;exact⟨hx,_,e,hr i _ r hu hi⟩
def bF (rows:List (List Int)):List Int:=(rows.map aI).flatten
def ib (rows:List (List Int)):Prop:=∀ r∈rows,r.length<=4096
def H9 (h:rows[k]?=some r):bF (rows.take (k+1))=bF (rows.take k)++aI r:=by
 unfold bF;rw[abx,h,abN,aaM,ab9];simp
def uc:Sx.Spec where
 fn:=86
 own:=[]
 rd:=[0,3000000]
 res:=[.one .sl,.one (.int .i64)]
 pre:=fun xs Hs Rs=>∃ v R RA rows,xs=[v]/\Rs=[R,RA]/\js R RA v rows/\rows.length<=1000000/\∀ r∈rows,0<=r.length
 post:=fun xs Hs Rs w Hs' F=>∃ v R RA rows u e,xs=[v]/\Rs=[R,RA]/\js R RA v rows/\w=.tuple #[u,.int .i64 e]/\(ib rows->e=0/\bO F 5 u (bF rows))/\(¬ib rows->e=3)
def XC:List Sx.Spec:=[sD,rV]
def Ui:∀ t∈XC,t.OK Tryz.prog:=av BG <| av zI <| bQ
def ud:aG Tryz.prog XC uc.fn where
 Λ:=fun p=>if Oa p then some ⟨0,[(4,.sv (.one (.sl (.var 53) (.lit 0) (.var 54) (.var 55)))),(12,TI .i64 (.var 50))],[(2,.hp 56 [] [.var 53] [])],60⟩else none
 args:=[.sv (.one (.sl (.var 0) (.var 1) (.var 2) (.var 3)))]
 mem:=[.ro 4 [.var 0] false,.ro 5 [] true]
 nv:=6
def Y1:sD.res=[]:=rfl
def Y4:rV.res=[.one .sl,.one (.int .i64)]:=rfl
def Zu (n:Nat):(aK n [Cp.one .sl,Cp.one (.int .i64)]≠[])=True:=by simp [aK,Cp.roots,Ck.root]
def Ia:uc.OK Tryz.prog:=by
 refine Spec.aS (Γ:=XC) Ui ?_;rintro xs Hs Rs hl1 hl2 ⟨v,R,RA,rows,rfl,rfl,hB,hlen,aC⟩;have e0:Hs=[]:=aad.1 hl1;subst e0;obtain⟨us,x,y,c,rfl,hy,hul,hcell,hrd⟩:=id hB;refine⟨ud,aO [x,y,us.length,c] false [Hl.none,Hl.none,Hl.none,Hl.none,R,RA],fun _ q=>∃ k:Nat,q.i 50=k/\k<=rows.length/\(∀ r∈rows.take k,r.length<=4096)/\ -1<=q.i 53/\q.i 54=(bF (rows.take k)).length/\0<=q.i 55/\bO (q.h 56) 5 (.slice (az (q.i 53) 0) (q.i 54).toNat (q.i 55).toNat) (bF (rows.take k))/\(bF (rows.take k)).length<=4106*k,fun _ q=>(rows.length-q.i 50).toNat,?_,⟨?_,?_,?_,?_⟩,(fun _ h=>nomatch h),?_⟩
 .show [Value.slice (az x y) ((us.length:Int)).toNat ((c:Int)).toNat]=_;rw[aaa,aaa]
 .intro r hr ho;simp [ud]at hr;rcases hr with rfl | rfl<;>cases ho
 .intro r hr ho;simp [ud]at hr;rcases hr with rfl | rfl
  .exact⟨R,aF,Hl.le_refl _⟩
  .exact⟨RA,aF,Hl.le_refl _⟩
 .simp [ud,bD.own]
 .intro r hr;simp [ud]at hr;rcases hr with rfl | rfl<;>trivial
 .refine aG.read [] [] [] ?_;generalize hρ:aO [x,y,us.length,c] false [Hl.none,Hl.none,Hl.none,Hl.none,R,RA]=J;have v0:J.i 0=x:=by rw[<-hρ];rfl
  have v1:J.i 1=y:=by rw[<-hρ];rfl
  have v2:J.i 2=us.length:=by rw[<-hρ];rfl
  have v3:J.i 3=c:=by rw[<-hρ];rfl
  have w4:J.h 4=R:=by rw[<-hρ];rfl
  have w5:J.h 5=RA:=by rw[<-hρ];rfl
  clear hρ;simp only[go_sem,Nat.reduceAdd,XC,Y1,Y4,Zu];rw[v2];refine⟨ah,⟨0,rfl,abi _,aF,aap _,rfl,aap _,⟨rfl,Or.inl ⟨rfl,rfl⟩⟩,by simp [bF]⟩,fun q g ⟨k,ek,hk,h4k,x53,y54,x55,hO,hle⟩=>?_⟩;rw[g.i 0,g.i 1,g.i 2,g.h 4,v0,v1,v2,w4,ek];refine⟨fun hlt=>?_,fun hge=>?_⟩
  .have hkr:k<rows.length:=ah;have hr:rows[k]?=some rows[k]:=aab hkr;have hu:us[k]?=some us[k]:=aab ah;obtain⟨hx0,hc⟩:=hcell k _ hu;have hRr:=hrd k _ _ hu hr;have hsl:∃ a l c,us[k]=Value.slice a l c:=(fu.parts hRr).1;have hck:R.cell x.toNat (y+(k:Int)).toNat=some us[k]:=by rw[show(y+(k:Int)).toNat=y.toNat+k by omega];exact hc
   refine⟨hx0,hy,ah,by rw[hck];obtain⟨_,_,_,e⟩:=hsl;rw[e];rfl,fun q1 g1 p60=>?_⟩;have G1:ai 6 J q1:=g.tr g1;rw[G1.h 4,G1.h 5,G1.i 0,G1.i 1,g1.i 50,v0,v1,w4,w5,ek,hck,iq hsl,au p60];refine⟨⟨_,_,_,RA,[],false,rows[k],rfl,rfl,rfl,bq.new _,hRr,aF,aC _ (abp _)⟩,fun q2 g2 ⟨F2,⟨p2,u2,H2,R2,bs2,lg2,b2,H2',e1,e2,e3,hO2,hR2,e4,hO2'⟩,_⟩=>?_⟩;simp only[aag,aat]at e1 e2 e3 e4;obtain⟨e1,e1'⟩:=e1;subst e1 e1' e2 e3;obtain⟨eb,el⟩:=(bq.new _).uniq hO2;subst eb el;obtain rfl:=hRr.uniq hR2;rw[<-e4]at hO2';have hOT:jG [] false rows[k]=if 4096<rows[k].length then([],true)else(aI rows[k],false):=rfl
   rw[hOT]at hO2';have htl:rows[k].length<=4096->(aI rows[k]).length<=4106:=fun h=>by
    unfold aI;have:=nI (z:=rows[k].length) ah;rw[aac];omega
   have hbnd:(if 4096<rows[k].length then(([]:List Int),true)else(aI rows[k],false)).1.length<=1000000:=by
    split
    .simp
    .have:=htl ah;show(aI rows[k]).length<=_;omega
   rw[g2.i 60,au p60];refine⟨⟨_,_,_,_,rfl,rfl,hO2',hbnd⟩,fun q3 g3 ⟨F3,⟨p3,R3,bs3,lg3,u3,e1,e2,hO3,hv3,hw3⟩,hF3,hn3⟩=>?_⟩;simp only[aag,aat]at e1 e2;subst e1 e2;obtain⟨eb,el⟩:=hO2'.uniq hO3;subst eb el;simp only[Value.tuple.injEq,aaT,aag,Value.int.injEq,aaY,aat]at hv3;obtain⟨eu,e67⟩:=hv3;rw[<-eu,<-hF3 zzT]at hw3;have G3:ai 60 q q3:=g1.trans ((g2.tr g3).mono ah);have hn3:-1<=q3.i 63/\0<=q3.i 64/\0<=q3.i 65/\0<=q3.i 66:=hn3.1;by_cases hbig:4096<rows[k].length
   .rw[aav hbig]at e67;have e67:q3.i 67=3:=e67;refine⟨fun _ _=>?_,fun h0=>ah⟩;refine⟨[],[],rfl,rfl,⟨(aY fun j=>[-1,0,0,0,3].getD j 0),?_,⟨aap _,aap _,aap _,aap _⟩,zzT,zzT⟩,_,R,RA,rows,.slice none 0 0,3,rfl,rfl,hB,?_,fun hok=>?_,fun _=>rfl⟩
    .show Value.tuple #[.slice (az (-1) 0) 0 0,.int .i64 (q3.i 67)]=_;rw[e67];rfl
    .show Value.tuple #[.slice (az (-1) 0) 0 0,.int .i64 (q3.i 67)]=_;rw[e67];rfl
    .have:=hok _ (abp hkr);omega
   .rw[aan hbig]at e67 hw3;have hl4:=htl ah;have hE:rp (aI rows[k]) false=(aI rows[k],0):=by unfold rp;rw[aan (by simp;omega)]
    have e67:q3.i 67=(rp (aI rows[k]) false).2:=e67;have hw3:bO (q3.h 63) 5 (.slice (az (q3.i 63) (q3.i 64)) (q3.i 65).toNat (q3.i 66).toNat) (rp (aI rows[k]) false).1:=hw3;rw[hE]at e67 hw3;refine⟨fun h=>absurd e67 h,fun _=>?_⟩;have hat:=hw3.rd.at hn3.1 hn3.2.1 hn3.2.2.1;have h65:q3.i 65=(aI rows[k]).length:=hat.1;obtain⟨hok,hseg⟩:=qp (R:=q3.h 63) (x:=q3.i 63) (y:=q3.i 64) (l:=q3.i 65) (bs:=aI rows[k]) h65 hn3.2.1 (hat.2.imp (·.2) id);rw[G3.i 53,G3.i 54,G3.i 55,G3.h 56];have hOw:aN (q.h 56) 5 1 (.slice (az (q.i 53) 0) (q.i 54).toNat (q.i 55).toNat) (q.i 54).toNat (aM (bF (rows.take k))):=by
     have:=hO;unfold bO at this;rw[show(q.i 54).toNat=(bF (rows.take k)).length by omega]at this ⊢;exact this
    refine⟨⟨⟨_,hOw⟩,ah,hok,by unfold maxLen;omega,ah⟩,fun q4 g4 ⟨a1,a2,happ,_⟩=>?_⟩;have h2:=happ _ hOw;rw[hseg]at h2;have e65:q4.i 65=q3.i 65:=g4.i 65;have e54:q4.i 54=q.i 54:=by rw[g4.i 54,G3.i 54]
    have e50:q4.i 50=k:=by rw[g4.i 50,G3.i 50,ek]
    have hpk:=H9 hr;have hpl:(bF (rows.take (k+1))).length=(bF (rows.take k)).length+(aI rows[k]).length:=by rw[hpk,aac]
    refine⟨⟨k+1,?_,ah,fun r hrm=>?_,a1,?_,a2,?_,ah⟩,?_⟩
    .show IntKind.i64.wrap (q4.i 50+1)=_;rw[e50,IntWalk.i64_in _ ah];omega
    .rw[abx,hr,abN]at hrm;rcases aaR.1 hrm with h | h
     .exact h4k r h
     .rw[aal]at h;subst h;omega
    .show q4.i 54+q4.i 65=_;rw[e54,e65];omega
    .show bO (q4.h 68) _ (.slice (az (q4.i 68) 0) (q4.i 54+q4.i 65).toNat (q4.i 69).toNat) _;unfold bO;rw[e54,e65,hpk,gK,aac];have ea:(q.i 54).toNat+(q3.i 65).toNat=(bF (rows.take k)).length+(aI rows[k]).length:=ah;have eb:(q.i 54+q3.i 65).toNat=(bF (rows.take k)).length+(aI rows[k]).length:=ah;rw[ea]at h2;rw[eb];exact h2
    .show((rows.length:Int)-IntKind.i64.wrap (q4.i 50+1)).toNat<_;rw[e50,IntWalk.i64_in _ ah];omega
  .have hke:k=rows.length:=ah;subst hke;rw[abk]at h4k y54 hO;intro _;refine⟨[],[2],rfl,rfl,⟨(aY fun j=>[q.i 53,0,q.i 54,q.i 55,0].getD j 0),rfl,⟨x53,aap _,by show 0<=q.i 54;omega,x55⟩,zzT,zzT⟩,_,R,RA,rows,.slice (az (q.i 53) 0) (q.i 54).toNat (q.i 55).toNat,0,rfl,rfl,hB,rfl,fun _=>⟨rfl,?_⟩,fun hno=>absurd h4k hno⟩;show bO (cP [q.h 56]) _ _ _;rw[aL];exact hO
end Go.Proofs.YtomdimlnggpgbaaGreatDoor
namespace Go.Proofs.YtomdimlnggpgbaaGreatDoor
open Go Go.Sx Go.Pk Go.RowKit
variable {F R:Hl}{c d:Int}{g n:Nat}{a b:Nat->Addr}{e v:Value}
def oZ:Nat:=0
def nj:Nat:=1
def lj:Nat:=2
def PW (g:Nat):Prop:=g=oZ\/g=nj\/g=lj
def gv (a:Nat->Addr) (g:Nat):Value:=.iface 299 (.pointer (some (a g)))
structure Gl (R:Hl) (a:Nat->Addr):Prop where
 cell:∀ g,PW g->R.cell g 0=some (gv a g)
 bd:∀ g,PW g->∃ c t,R (a g).block=some (.cells c t (0,0))
 ne:∀ g h,PW g->PW h->g≠h->a g≠a h
def Gl.same (h:Gl R a) (k:Gl R b) (hg:PW g):a g=b g:=by
 have:=(h.cell g hg).symm.trans (k.cell g hg);simpa [gv] using this
def gi (c:Int):Nat:=if c=4 then nj else if c=14 then lj else oZ
def EJ (c:Int):PW (gi c):=by
 unfold gi PW;split
 .exact Or.inr (Or.inl rfl)
 .split
  .exact Or.inr (Or.inr rfl)
  .exact Or.inl rfl
def lZ (a:Nat->Addr) (v:Value) (c:Int):Prop:=(c=0/\v=.nilIface)\/(c≠0/\∃ s:ByteArray,v=.iface 156 (.agg #[.string s,gv a (gi c)]))
def lZ.same (h:Gl R a) (k:Gl R b) (hc:lZ a v c) (hd:lZ b v d):(c=0↔d=0)/\(c≠0->gi c=gi d):=by
 rcases hc with ⟨hc,e⟩ | ⟨hc,s,e⟩<;>rcases hd with ⟨hd,e'⟩ | ⟨hd,s',e'⟩<;>rw[e]at e'
 .exact⟨⟨fun _=>hd,fun _=>hc⟩,fun h=>absurd hc h⟩
 .cases e'
 .cases e'
 .refine⟨⟨fun h=>absurd h hc,fun h=>absurd h hd⟩,fun _=>?_⟩;simp only[Value.iface.injEq,Value.agg.injEq,aaT,aag,Value.string.injEq,gv,Value.pointer.injEq,aai,aaY,aat]at e';rw[<-h.same k (EJ d)]at e';exact abv fun hne=>h.ne _ _ (EJ c) (EJ d) hne e'.2
open Classical in
noncomputable def Vc:Sx.Spec where
 fn:=87
 own:=[]
 rd:=[2000000]
 res:=[.one .bool]
 pre:=fun xs Hs Rs=>∃ e t R a c g,xs=[e,t]/\Rs=[R]/\Gl R a/\lZ a e c/\PW g/\t=gv a g
 post:=fun xs Hs Rs v Hs' F=>∃ e t R,xs=[e,t]/\Rs=[R]/\∀ a c g,Gl R a->lZ a e c->PW g->t=gv a g->v=.bool (decide (c≠0/\gi c=g))
def NV:Vc.OK Tryz.prog:=by
 refine oe rfl fun w xs Rs hs ⟨e,t,R,a,c,g,e1,e2,hG,hE,hg,ht⟩=>?_;subst e1 e2 ht;refine⟨.bool (decide (c≠0/\gi c=g)),⟨⟨fun _=>0,fun _=>decide (c≠0/\gi c=g),fun _=>.empty,fun _=>.tuple #[],fun _=>Hl.none⟩,rfl,zzT,zzT⟩,?_,_,_,R,rfl,rfl,fun a' c' g' hG' hE' hg' ht'=>?_⟩
 .have hR:=hs R aF;obtain⟨cg,tg,hbg⟩:=hG.bd g hg;rcases hE with ⟨rfl,rfl⟩ | ⟨hc,s,rfl⟩
  .refine(TO (a g) w).mono fun e w' ⟨h1,h2⟩=>⟨(by rw[h1];simp),(by rw[h2];exact Below.refl _ _)⟩
  .by_cases hgc:gi c=g
   .subst hgc;refine(CU s (a (gi c)) w).mono fun e w' ⟨h1,h2⟩=>⟨(by rw[h1];simp [hc]),h2⟩
   .obtain⟨cc,tc,hbc⟩:=hG.bd (gi c) (EJ c);refine(AV s (a g) (a (gi c)) cc cg tc tg w (hG.ne _ _ (EJ c) hg hgc) (hR _ _ hbc) (hR _ _ hbg)).mono fun e w' ⟨h1,h2⟩=>⟨(by rw[h1];simp [hgc]),h2⟩
 .obtain⟨s1,s2⟩:=hE.same hG hG' hE';have hgg:g=g':=by
   have:a g=a' g':=by simpa [gv] using ht'
   rw[<-hG.same hG' hg']at this;exact abv fun hne=>hG.ne _ _ hg hg' hne this
  subst hgg
  congr 1
  by_cases h0:c=0
  .have:=s1.1 h0;simp [h0,this]
  .have h0':c'≠0:=fun h=>h0 (s1.2 h);rw[<-s2 h0];simp [h0,h0']
def AL:Sx.Spec where
 fn:=52
 own:=[]
 rd:=[2000000]
 res:=[.one .any]
 pre:=fun xs Hs Rs=>∃ (s:ByteArray) (c:Int) (R:Hl) (a:Nat->Addr),xs=[.string s,.int .i64 c]/\Rs=[R]/\Gl R a
 post:=fun xs Hs Rs v Hs' F=>∃ (s:ByteArray) (c:Int) (R:Hl),xs=[.string s,.int .i64 c]/\Rs=[R]/\∀ a,Gl R a->lZ a v c
set_option maxRecDepth 20000 in
def DW (s:ByteArray) (c:Int) (a:Nat->Addr) (w:World) (h0:w.cell? ⟨oZ,0,none⟩=some (gv a oZ)) (h1:w.cell? ⟨nj,0,none⟩=some (gv a nj)) (h2:w.cell? ⟨lj,0,none⟩=some (gv a lj)) :
 Calls Tryz.prog 52 #[.string s,.int .i64 c] w fun e w'=>e=.returned (if c=0 then .nilIface else .iface 156 (.agg #[.string s,if c=4 then gv a nj else if c=14 then gv a lj else gv a oZ]))/\w'=w:=by
 unfold gv oZ at h0;unfold gv nj at h1;unfold gv lj at h2;by_cases c0:c=0
 .subst c0
  go_enter Tryz.func52,Tryz.ntmps52
  go_wp2
  go_ret
  exact⟨rfl,rfl⟩
 .rw[aan c0];by_cases c4:c=4
  .subst c4
   go_enter Tryz.func52,Tryz.ntmps52
   go_wp2
   go_ret
   exact⟨rfl,rfl⟩
  .rw[aan c4];by_cases c14:c=14
   .subst c14
    go_enter Tryz.func52,Tryz.ntmps52
    go_wp2
    go_ret
    exact⟨rfl,rfl⟩
   .rw[aan c14]
    go_enter Tryz.func52,Tryz.ntmps52
    go_wp2
    go_ret
    exact⟨rfl,rfl⟩
def PR (a:Nat->Addr) (s:ByteArray) (c:Int):Value:=if c=0 then .nilIface else .iface 156 (.agg #[.string s,if c=4 then gv a nj else if c=14 then gv a lj else gv a oZ])
def Gv:AL.OK Tryz.prog:=by
 refine oe rfl fun w xs Rs hs ⟨s,c,R,a,e1,e2,hG⟩=>?_;subst e1 e2;have hR:=hs R aF;have hv:=DW s c a w (Hl.gQ hR (hG.cell _ (Or.inl rfl))) (Hl.gQ hR (hG.cell _ (Or.inr (Or.inl rfl)))) (Hl.gQ hR (hG.cell _ (Or.inr (Or.inr rfl))));refine⟨PR a s c,⟨⟨fun _=>0,fun _=>false,fun _=>.empty,fun _=>PR a s c,fun _=>Hl.none⟩,rfl,zzT,zzT⟩,hv.mono fun e w' ⟨h1,h2⟩=>⟨h1,(by rw[h2];exact Below.refl _ _)⟩,s,c,R,rfl,rfl,fun a' hG'=>?_⟩;unfold PR;by_cases c0:c=0
 .rw[aav c0];exact Or.inl ⟨c0,rfl⟩
 .rw[aan c0];refine Or.inr ⟨c0,s,?_⟩
  congr 3
  unfold gi;split
  .unfold gv;rw[hG.same hG' (Or.inr (Or.inl rfl))]
  .split
   .unfold gv;rw[hG.same hG' (Or.inr (Or.inr rfl))]
   .unfold gv;rw[hG.same hG' (Or.inl rfl)]
def ru (c:Int):Int:=if c=0 then 0 else if gi c=nj then 4 else if gi c=lj then 14 else 5
def qO:Sx.Spec where
 fn:=88
 own:=[]
 rd:=[2000000]
 res:=[.one (.int .i64)]
 pre:=fun xs Hs Rs=>∃ e R a c,xs=[e]/\Rs=[R]/\Gl R a/\lZ a e c
 post:=fun xs Hs Rs v Hs' F=>∃ e R,xs=[e]/\Rs=[R]/\∀ a c,Gl R a->lZ a e c->v=.int .i64 (ru c)
noncomputable def Wv:List Sx.Spec:=[Vc]
def Ub:∀ t∈Wv,t.OK Tryz.prog:=fun t ht=>by
 simp only[Wv,aar,aaB,abe]at ht;rw[ht];exact NV
noncomputable def Ff:aG Tryz.prog Wv qO.fn where
 Λ:=aD
 args:=[.sv (.one (.vr 0))]
 mem:=[.ro 1 [.lit 0,.lit 1,.lit 2] false]
 nv:=2
def YT:Vc.res=[.one .bool]:=rfl
def LI (h:Gl R a) (k:Gl R b) (hc:lZ a v c) (hd:lZ b v d):ru c=ru d:=by
 obtain⟨s1,s2⟩:=hc.same h k hd;unfold ru;by_cases h0:c=0
 .rw[aav h0,aav (s1.1 h0)]
 .rw[aan h0,aan (fun h=>h0 (s1.2 h)),s2 h0]
def Qx (h:lZ a v c):pj v<=1/\(pj v=0↔c=0):=by
 rcases h with ⟨hc,rfl⟩ | ⟨hc,s,rfl⟩
 .exact⟨aA,fun _=>hc,fun _=>rfl⟩
 .exact⟨aap 1,fun h=>absurd (show(1:Int)=0 from h) ah,fun h=>absurd h hc⟩
open Classical in
def Hv {q:Env} {K Hs:List Hl} (hG:Gl R a) (hE:lZ a e c) (hg:PW g) (hp:Vc.post [e,gv a g] Hs [R] (.bool (ba q (.bvar n))) K F):(q.b n=true)=(c≠0/\gi c=g):=by
 obtain⟨e',t',R',e1,e2,h⟩:=hp;simp only[aag,aat]at e1 e2;obtain⟨rfl,rfl⟩:=e1;subst e2;have:=h a c g hG hE hg rfl;rw[br]at this;simp only[Value.bool.injEq]at this;rw[this];simp
def HY:qO.OK Tryz.prog:=by
 refine Spec.aS (Γ:=Wv) Ub ?_;rintro xs Hs Rs hl1 hl2 ⟨e,R,a,c,rfl,rfl,hG,hE⟩;have e0:Hs=[]:=aad.1 hl1;subst e0;refine⟨Ff,⟨fun _=>0,fun _=>false,fun _=>.empty,fun _=>e,fun _=>R⟩,fun _ _=>True,fun _ _=>0,rfl,⟨?_,?_,?_,?_⟩,(fun _ h=>nomatch h),?_⟩
 .intro r hr ho;simp [Ff]at hr;subst hr;cases ho
 .intro r hr ho;simp [Ff]at hr;subst hr;exact⟨R,aF,Hl.le_refl _⟩
 .simp [Ff]
 .intro r hr;simp [Ff]at hr;subst hr;trivial
 .refine aG.read [] [] [] ?_;generalize hρ:(⟨fun _=>0,fun _=>false,fun _=>.empty,fun _=>e,fun _=>R⟩:Env)=J;have v0:J.v 0=e:=by rw[<-hρ]
  have w1:J.h 1=R:=by rw[<-hρ]
  clear hρ;have out:∀ {q:Env} {z:Int} {mem:Mem},z=ru c->postOf qO [e] [] [R] q mem (.sv (.one (.int .i64 (.lit z)))):=by
   rintro q z mem rfl _;exact⟨[],[],rfl,rfl,⟨(aY fun _=>ru c),rfl,zzT,zzT⟩,e,R,rfl,rfl,fun a' c' hG' hE'=>by
    rw[<-LI hG hG' hE hE'];rfl⟩
  have hcode:=Qx hE;simp only[go_sem,Nat.reduceAdd,Wv,YT,tI];rw[v0,w1];have cF:R.cell (Int.toNat 1) (Int.toNat 0)=some (gv a nj):=hG.cell nj (Or.inr (Or.inl rfl));have cS:R.cell (Int.toNat 2) (Int.toNat 0)=some (gv a lj):=hG.cell lj (Or.inr (Or.inr rfl));rw[cF];refine⟨hcode.1,fun h0=>out (by unfold ru;rw[aav (hcode.2.1 h0)]),fun h0=>⟨rfl,⟨e,_,R,a,c,nj,rfl,rfl,hG,hE,Or.inr (Or.inl rfl),rfl⟩,fun q1 g1 ⟨F1,hp1,_⟩=>?_⟩⟩;have hc0:c≠0:=fun h=>h0 (hcode.2.2 h);have r1:=Hv hG hE (Or.inr (Or.inl rfl)) hp1;rw[r1,g1.h 1,g1.v 0,v0,w1,cS];refine⟨fun h=>out (by unfold ru;rw[aan hc0,aav h.2]),fun h=>⟨rfl,⟨e,_,R,a,c,lj,rfl,rfl,hG,hE,Or.inr (Or.inr rfl),rfl⟩,fun q2 g2 ⟨F2,hp2,_⟩=>?_⟩⟩;have hn1:gi c≠nj:=fun e=>h ⟨hc0,e⟩;have r2:=Hv hG hE (Or.inr (Or.inr rfl)) hp2;rw[r2];exact⟨fun h=>out (by unfold ru;rw[aan hc0,aan hn1,aav h.2]),fun h=>out (by unfold ru;rw[aan hc0,aan hn1,aan fun e=>h ⟨hc0,e⟩])⟩
end Go.Proofs.YtomdimlnggpgbaaGreatDoor
namespace Go.Sx
open Go
def Jy {A B C D:Hl} (h1:A.bP B) (h2:A.bP C) (h3:A.bP D) (h4:B.bP C) (h5:B.bP D) (h6:C.bP D):A.le (cP [A,B,C,D])/\B.le (cP [A,B,C,D])/\C.le (cP [A,B,C,D])/\D.le (cP [A,B,C,D]):=by
 obtain⟨r1,r2,r3⟩:=CP h4 h5 h6;have hd:A.bP (cP [B,C,D]):=by
  show A.bP (B.un (C.un (D.un Hl.none)));exact Hl.yx h1 (Hl.yx h2 (Hl.yx h3 (Hl.Ev _)))
 have hr:(cP [B,C,D]).le (cP [A,B,C,D]):=Hl.bC hd;exact⟨Hl.bh _ _,fun k o h=>hr k o (r1 k o h),fun k o h=>hr k o (r2 k o h),fun k o h=>hr k o (r3 k o h)⟩
def nX.mono {R R':Hl} (hl:R.le R') {u:Value} {bs:List Int} (h:nX R u bs):nX R' u bs:=by
 obtain⟨x,y,c,hv,hy,h⟩:=h;refine⟨x,y,c,hv,hy,h.imp id fun⟨h0,h⟩=>⟨h0,fun j z hz=>?_⟩⟩;have:=h j z hz;unfold Hl.cell at this ⊢;split at this
 .rename_i o c' T fr ho;rw[hl _ _ ho];exact this
 .cases this
end Go.Sx
namespace Go.Proofs.YtomdimlnggpgbaaGreatDoor.D
open Go Go.Sx
variable {D:DM}{F H H' R R':Hl}{frm n:Int}{L L':LM}{K:List Hl}{b bs bs' nt:List Int}{dp dp' p u v:Value}
def py (H:Hl) (p dp:Value) (L:LM) (bs:List Int):Prop:=∃ sl,fQ H p dp sl L/\nX H sl bs
def py.mono (hl:R.le R') (h:py R p dp L bs):py R' p dp L bs:=by
 obtain⟨sl,h1,h2⟩:=h;exact⟨sl,fQ.mono h1 hl,nX.mono hl h2⟩
def fc.rd (h:fc H p dp L bs):py H p dp L bs:=h.parts
def py.uniq (h:py H p dp L bs) (h':py H p dp' L' bs'):dp=dp'/\L=L'/\bs=bs':=by
 obtain⟨sl,h1,h2⟩:=h;obtain⟨sl',h1',h2'⟩:=h';obtain⟨e1,rfl,e3⟩:=h1.uniq h1';exact⟨e1,e3,h2.uniq h2'⟩
def Dw (hD:aE H dp D) (hp:lN.post [dp] [H] [] v [H'] F):aE H' dp D/\v=.int .i64 D.n:=by
 obtain⟨p',Hx,D',H2,hx,hH,hD',hH2,hD2,hv⟩:=hp;simp only[aag,aat]at hx hH hH2;subst hx hH;have e:=hD'.uniq hD;subst e;rw[<-hH2]at hD2;exact⟨hD2,hv⟩
def BJ (hD:aE H dp D) (hp:wD.post [dp,.int .i64 frm,.int .i64 n] [H] [] v [H'] F) :
 ∃ pv,aE H' dp D/\v=.tuple #[pv,.int .i64 (jP D frm n)]/\(jP D frm n=0->fc F pv dp (jQ D frm n) (kv D frm n))/\(jP D frm n≠0->pv=.pointer none):=by
 obtain⟨dp',frm',n',Hx,D',H'',pv,hx,hH,hDx,hH',hDy,hv,hl⟩:=hp;have hx:dp=dp'/\frm=frm'/\n=n':=by simpa using hx
 obtain⟨e1,e2,e3⟩:=hx;subst e1 e2 e3;have hH:H=Hx:=by simpa using hH
 subst hH;have e:=hDx.uniq hD;subst e;have hH':H'=H'':=by simpa using hH'
 subst hH';exact⟨pv,hDy,hv,hl⟩
def Ec {HD:Hl} (h1:fc H p dp L bs) (h2:aE HD dp D) (h3:fu R u b) (hp:qD.post [p,u,.agg (aM nt).toArray] [H,HD] [R] v K F) :
 ∃ H' HD',K=[H',HD']/\aE HD' dp (bu D L bs b nt).D/\fc H' p dp (bu D L bs b nt).L (bu D L bs b nt).bs/\v=.int .i64 (bu D L bs b nt).e:=by
 obtain⟨p',u',b',nt',Hx,HDx,Rx,dp',L',bs',D',H',HD',hx,hH,hR,hLx,hDx,hBx,hK,hDy,hLy,hv⟩:=hp;have hx:p=p'/\u=u'/\aM nt=aM nt':=by simpa using hx
 obtain⟨e1,e2,e3⟩:=hx;have e3:=ky e3;subst e1 e2 e3;have hH:H=Hx/\HD=HDx:=by simpa using hH
 obtain⟨e1,e2⟩:=hH;subst e1 e2;have hR:R=Rx:=by simpa using hR
 subst hR;obtain⟨e1,e2,e3⟩:=hLx.uniq h1;subst e1 e2 e3;have e:=hDx.uniq h2;subst e;have e:=hBx.uniq h3;subst e;exact⟨H',HD',hK,hDy,hLy,hv⟩
def Bb (h:py H p dp L bs) (hb:bs.length<=1048576):fx.pre [p] [] [H,H]:=by
 obtain⟨sl,h1,h2⟩:=h;exact⟨p,H,H,dp,sl,L,bs,rfl,rfl,h1,h2,hb⟩
def yk (h:py H p dp L bs) (hp:fx.post [p] [] [H,H] v K F):bO F 5 v bs:=by
 obtain⟨sl,h1,h2⟩:=h;obtain⟨p',R1,R2,dp',sl',L',bs',hx,hR,hLx,hBx,hO⟩:=hp;have hx:p=p':=by simpa using hx
 subst hx;have hR:H=R1/\H=R2:=by simpa using hR
 obtain⟨e1,e2⟩:=hR;subst e1 e2;obtain⟨e1,e2,e3⟩:=hLx.uniq h1;subst e1 e2 e3;have e:=hBx.uniq h2;subst e;exact hO
def O8 (h:py H p dp L bs) (hb:bs.length<=1048576):wO.pre [p] [] [H]:=by
 obtain⟨sl,h1,h2⟩:=h;exact⟨p,H,dp,sl,L,bs.length,rfl,rfl,h1,nX.sL h2,hb⟩
def Ma (h:py H p dp L bs) (hp:wO.post [p] [] [H] v K F):v=.int .i64 (L.most-bs.length):=by
 obtain⟨sl,h1,h2⟩:=h;obtain⟨p',R1,dp',sl',L',n',hx,hR,hLx,hs,hv⟩:=hp;have hx:p=p':=by simpa using hx
 subst hx;have hR:H=R1:=by simpa using hR
 subst hR;obtain⟨e1,e2,e3⟩:=hLx.uniq h1;subst e1 e2 e3;have e:=hs.uniq (nX.sL h2);subst e;exact hv
def Lr (h:py H p dp L bs):pS.pre [p] [] [H]:=by
 obtain⟨sl,h1,h2⟩:=h;exact⟨p,H,dp,sl,L,rfl,rfl,h1⟩
def HE (h:py H p dp L bs) (hp:pS.post [p] [] [H] v K F):v=.agg (aM L.note).toArray:=by
 obtain⟨sl,h1,h2⟩:=h;obtain⟨p',R1,dp',sl',L',hx,hR,hLx,hv⟩:=hp;have hx:p=p':=by simpa using hx
 subst hx;have hR:H=R1:=by simpa using hR
 subst hR;obtain⟨e1,e2,e3⟩:=hLx.uniq h1;subst e1 e2 e3;exact hv
def tX (hD:D.ok) (hn:3<=n/\n<=16384):((kv D frm n).length:Int)<=64*(n-2):=by
 have hm:0<=64*(n-2):=ah;have h0:=(ow hD frm hm 0).2;have h1:=(ow hD frm hm 1).2;have hs:(jQ D frm n).size<=64*(n-2):=by
  show(pe D frm n).getD 1 0<=_;unfold pe;split
  .exact h1
  .exact h0
 unfold kv xz;rw[aaA];omega
end Go.Proofs.YtomdimlnggpgbaaGreatDoor.D
namespace Go.Proofs.YtomdimlnggpgbaaGreatDoor
open Go Go.Sx Go.Pk
open Go.Proofs.YtomdimlnggpgbaaGreatDoor.D hiding aO aD fN
variable {F H R R' RA:Hl}{L:LM}{rows:List (List Int)}{K:List Hl}{bs:List Int}{a n:Nat}{dp dp' p u v w:Value}
def Jt (h:py H p dp L bs):Lc.pre [p] [] [H]:=by
 obtain⟨sl,h1,h2⟩:=h;exact⟨p,H,dp,sl,L,rfl,rfl,h1⟩
def EH (h:py H p dp L bs) (hp:Lc.post [p] [] [H] v K F):v=.int .u64 (si L):=by
 obtain⟨sl,h1,h2⟩:=h;obtain⟨p',R1,dp',sl',L',hx,hR,hLx,hv⟩:=hp;have hx:p=p':=by simpa using hx
 subst hx;have hR:H=R1:=by simpa using hR
 subst hR;obtain⟨e1,e2,e3⟩:=hLx.uniq h1;subst e1 e2 e3;exact hv
def Ay (h:fu R u bs) (hp:vD.post [u] [] [R] v K F):bU F v (jk bs):=by
 obtain⟨u',bs',R',e1,e2,hR',hO⟩:=hp;simp only[aag,aat]at e1 e2;subst e1 e2;rw[h.uniq hR'];exact hO
structure SM where
 LA:LM
 bA:List Int
 LB:LM
 bB:List Int
 recs:List (List Int)
 over:Bool
variable {S S':SM}
def Mn (a:Nat) (pa pb sl:Value) (o:Bool):Hl:=Hl.one a (.cells #[pa,pb,sl,.bool o] 101 (0,0))
structure P1 (H:Hl) (a:Nat) (dp pa pb sl:Value) (HA HB HR:Hl) (S:SM):Prop where
 la:fc HA pa dp S.LA S.bA
 lb:fc HB pb dp S.LB S.bB
 rows:bU HR sl S.recs
 d1:(Mn a pa pb sl S.over).bP HA
 d2:(Mn a pa pb sl S.over).bP HB
 d3:(Mn a pa pb sl S.over).bP HR
 d4:HA.bP HB
 d5:HA.bP HR
 d6:HB.bP HR
 hl:H=cP [Mn a pa pb sl S.over,HA,HB,HR]
def iU (H:Hl) (p dp:Value) (S:SM):Prop:=∃ (a:Nat) (pa pb sl:Value) (HA HB HR:Hl),p=.pointer (some ⟨a,0,none⟩)/\P1 H a dp pa pb sl HA HB HR S
structure Cn (H:Hl) (a:Nat) (dp pa pb sl:Value) (S:SM):Prop where
 bd:H a=some (.cells #[pa,pb,sl,.bool S.over] 101 (0,0))
 la:py H pa dp S.LA S.bA
 lb:py H pb dp S.LB S.bB
 rows:bU H sl S.recs
def jX (H:Hl) (p dp:Value) (S:SM):Prop:=∃ (a:Nat) (pa pb sl:Value),p=.pointer (some ⟨a,0,none⟩)/\Cn H a dp pa pb sl S
def iU.rd (h:iU H p dp S):jX H p dp S:=by
 obtain⟨a,pa,pb,sl,HA,HB,HR,hp,h⟩:=h;obtain⟨l1,l2,l3,l4⟩:=Jy h.d1 h.d2 h.d3 h.d4 h.d5 h.d6;rw[<-h.hl]at l1 l2 l3 l4;exact⟨a,pa,pb,sl,hp,l1 _ _ (Hl.aT _ _),h.la.rd.mono l2,h.lb.rd.mono l3,h.rows.mono l4⟩
def jX.mono (hl:R.le R') (h:jX R p dp S):jX R' p dp S:=by
 obtain⟨a,pa,pb,sl,hp,h⟩:=h;exact⟨a,pa,pb,sl,hp,hl _ _ h.bd,h.la.mono hl,h.lb.mono hl,h.rows.mono hl⟩
def jX.uniq (h:jX H p dp S) (h':jX H p dp' S'):dp=dp'/\S=S':=by
 obtain⟨a,pa,pb,sl,rfl,h⟩:=h;obtain⟨a',pa',pb',sl',hp,h'⟩:=h';have e:a=a':=by simpa using hp
 subst e;have hb:=h.bd.symm.trans h'.bd;simp only[aai,Obj.cells.injEq,aaT,aag,Value.bool.injEq,aat]at hb;obtain⟨rfl,rfl,rfl,e4⟩:=hb;obtain⟨e1,e2,e3⟩:=h.la.uniq h'.la;obtain⟨_,e5,e6⟩:=h.lb.uniq h'.lb;have e7:=h.rows.uniq h'.rows;refine⟨e1,?_⟩;obtain⟨x1,x2,x3,x4,x5,x6⟩:=S;obtain⟨y1,y2,y3,y4,y5,y6⟩:=S';simp only at e2 e3 e4 e5 e6 e7;subst e2 e3 e4 e5 e6 e7;rfl
def fz (D:DM):Int:=if D.n/2<3 then 1 else if D.gone then 5 else 0
def su (D:DM):LM:=jQ D 0 ((D.n/2:Nat):Int)
def lV (D:DM):List Int:=kv D 0 ((D.n/2:Nat):Int)
def lr (D:DM):LM:=jQ D ((D.n/2:Nat):Int) ((D.n/2:Nat):Int)
def ij (D:DM):List Int:=kv D ((D.n/2:Nat):Int) ((D.n/2:Nat):Int)
def Wm (A:LM) (bA:List Int) (B:LM) (bB:List Int):SM:=⟨A,bA,B,bB,jk bA,false⟩
def bY (D:DM):SM:=if si (su D)<si (lr D)then Wm (lr D) (ij D) (su D) (lV D)else Wm (su D) (lV D) (lr D) (ij D)
def sM:Sx.Spec where
 fn:=13
 own:=[.arg 0]
 rd:=[]
 res:=[.one .ptr,.one (.int .i64)]
 links:=[0]
 pre:=fun xs Hs Rs=>∃ dp H D,xs=[dp]/\Hs=[H]/\aE H dp D/\ar (lV D)/\ar (ij D)
 post:=fun xs Hs Rs v Hs' F=>∃ dp H D H' pv,xs=[dp]/\Hs=[H]/\aE H dp D/\Hs'=[H']/\aE H' dp D/\v=.tuple #[pv,.int .i64 (fz D)]/\(fz D=0->iU F pv dp (bY D))/\(fz D≠0->pv=.pointer none)
def XT:List Sx.Spec:=[lN,wD,Lc,fx,vD]
def UW:∀ t∈XT,t.OK Tryz.prog:=av wU <| av Oy <| av QC <| av Ba <| av My <| bQ
def Au:aG Tryz.prog XT sM.fn where
 Λ:=aD
 args:=[TP (.var 0) (.lit 0)]
 mem:=[.hp 1 [] [.var 0] []]
 nv:=2
def ZL:lN.res=[.one (.int .i64)]:=rfl
def ZM:wD.res=[.one .ptr,.one (.int .i64)]:=rfl
def ZN:Lc.res=[.one (.int .u64)]:=rfl
def ZO:fx.res=[.one .sl]:=rfl
def ZP:vD.res=[.one .sl]:=rfl
def Zr (n:Nat):(aK n [Cp.one .ptr,Cp.one (.int .i64)]≠[])=True:=by simp [aK,Cp.roots,Ck.root]
def Bj (h:n<=16384):IntKind.i64.wrap ((n:Int).tdiv 2)=((n/2:Nat):Int):=by
 have e:(n:Int).tdiv 2=((n/2:Nat):Int):=rfl;rw[e];exact wrap_i64 ah ah
set_option maxRecDepth 4000 in
def BZ:sM.OK Tryz.prog:=by
 refine Spec.aS (Γ:=XT) UW ?_;rintro xs Hs Rs hl1 hl2 ⟨dp,H,D,rfl,rfl,hD,hlo,hhi⟩;have e1:Rs=[]:=aad.1 hl2;subst e1;obtain⟨da,s,m,es,clock,hdp,hDi⟩:=id hD;have hDn:=hDi.ok.n;have hok:=hDi.ok;refine⟨Au,aO [(da:Int)] false [Hl.none,H],fun _ _=>True,fun _ _=>0,?_,⟨?_,?_,?_,?_⟩,(fun _ h=>nomatch h),?_⟩
 .show [Value.pointer (az (da:Int) 0)]=_;rw[gz,hdp]
 .intro r hr ho;simp [Au]at hr;subst hr;exact⟨H,aF,Hl.le_refl _⟩
 .intro r hr ho;simp [Au]at hr;subst hr;cases ho
 .simp [Au]
 .intro r hr;simp [Au]at hr;subst hr;trivial
 .refine aG.read [] [] [] ?_;generalize hρ:aO [(da:Int)] false [Hl.none,H]=J;have v0:J.i 0=da:=by rw[<-hρ];rfl
  have w1:J.h 1=H:=by rw[<-hρ];rfl
  clear hρ;have ep:Value.pointer (az (da:Int) 0)=dp:=by rw[gz,hdp]
  have bad:∀ (q:Env) (k:Nat) (vs:List Nat) (t:Mem) (x:E) (e:Int),aE (q.h k) dp D->aB q x=e->fz D=e->e≠0 ->
   postOf sM [dp] [H] [] q (.hp k vs [.var 0] []::t) (.tup [.one (.hptr (.lit (-1)) (.lit 0)),.one (.int .i64 x)]):=by
   intro q k vs t x e hq hx he hne _;refine⟨[[0]],[],rfl,rfl,⟨(aY fun j=>[-1,0,e].getD j 0),?_,⟨by show(-1:Int)<= -1;omega,aap _⟩,zzT,zzT⟩,dp,H,D,_,.pointer none,rfl,rfl,hD,rfl,?_,?_,fun h=>absurd (he.symm.trans h) hne,fun _=>rfl⟩
   .subst hx;rfl
   .show aE (cP [q.h k]) _ _;rw[aL];exact hq
   .rw[he,<-hx];rfl
  simp only[go_sem,Nat.reduceAdd,XT,ZL,ZM,ZN,ZO,ZP,Gw,UL,Zr,JA];rw[v0,w1,ep];refine⟨⟨dp,H,D,rfl,rfl,hD⟩,fun q1 g1 ⟨F1,hp1,_⟩=>?_⟩;obtain⟨hD1,hv1⟩:=Dw hD hp1;have hv1:q1.i 2=D.n:=by simpa using hv1
  rw[hv1,Bj hDn,g1.i 0,v0,ep];refine⟨fun hlt=>bad q1 2 _ _ _ 1 hD1 (aq _ _) (by unfold fz;rw[aav ah]) aA,fun hge=>?_⟩;have hn3:3<=D.n/2:=ah;have hE:fz D=if D.gone then 5 else 0:=by unfold fz;rw[aan ah]
  have hEA:jP D 0 ((D.n/2:Nat):Int)=if D.gone then 5 else 0:=by unfold jP;rw[aan ah]
  have hEB:jP D ((D.n/2:Nat):Int) ((D.n/2:Nat):Int)=if D.gone then 5 else 0:=by unfold jP;rw[aan ah]
  have hnn:3<=((D.n/2:Nat):Int)/\((D.n/2:Nat):Int)<=16384:=ah;refine⟨⟨dp,_,_,_,D,rfl,rfl,hD1⟩,fun q2 g2 ⟨F2,hp2,hF2,hn2⟩=>?_⟩;obtain⟨pA,hD2,hv2,hA,_⟩:=BJ hD1 hp2;simp only[Value.tuple.injEq,aaT,aag,Value.int.injEq,aaY,aat]at hv2;obtain⟨eA,e6⟩:=hv2;have G2:ai 2 J q2:=g1.tr g2;have hq2:q2.i 2=D.n:=by rw[g2.i 2,hv1]
  rw[hq2,Bj hDn,G2.i 0,v0,ep];refine⟨fun hne=>bad q2 4 _ _ _ 5 hD2 (by rw[ak,e6,hEA,aav];exact abv fun hg=>hne (by rw[e6,hEA,aan hg])) (by rw[hE,aav];exact abv fun hg=>hne (by rw[e6,hEA,aan hg])) aA,fun heq=>?_⟩;have hgone:D.gone=false:=by
   cases hg:D.gone with
   | false=>rfl
   | true=>rw[e6,hEA,hg]at heq;cases heq
  have hA:fc F2 pA dp (su D) (lV D):=hA (by rw[hEA,hgone];rfl);rw[<-eA,<-hF2 zzT]at hA;refine⟨⟨dp,_,_,_,D,rfl,rfl,hD2⟩,fun q3 g3 ⟨F3,hp3,hF3,hn3'⟩=>?_⟩;obtain⟨pB,hD3,hv3,hB,_⟩:=BJ hD2 hp3;simp only[Value.tuple.injEq,aaT,aag,Value.int.injEq,aaY,aat]at hv3;obtain⟨eB,e9⟩:=hv3;have e9:q3.i 9=0:=by rw[e9,hEB,hgone];rfl
  have hB:fc F3 pB dp (lr D) (ij D):=hB (by rw[hEB,hgone];rfl);rw[<-eB,<-hF3 zzT]at hB;refine⟨fun h=>absurd e9 h,fun _=>⟨Jt hB.rd,fun q4 g4 ⟨F4,hp4,_⟩=>?_⟩⟩;have hv4:q4.i 10=si (lr D):=by simpa using EH hB.rd hp4
  have G4:ai 7 q2 q4:=g3.tr g4;have hA4:fc (q4.h 5) (.pointer (az (q4.i 4) (q4.i 5))) dp (su D) (lV D):=by
   rw[G4.h 5,G4.i 4,G4.i 5];exact hA
  refine⟨Jt hA4.rd,fun q5 g5 ⟨F5,hp5,_⟩=>?_⟩;have hv5:q5.i 11=si (su D):=by simpa using EH hA4.rd hp5
  have hv5':q5.i 10=si (lr D):=by rw[g5.i 10,hv4]
  have hA5:fc (q5.h 5) (.pointer (az (q5.i 4) (q5.i 5))) dp (su D) (lV D):=by
   rw[g5.h 5,g5.i 4,g5.i 5];exact hA4
  have G35:ai 10 q3 q5:=g4.tr g5;have hB5:fc (q5.h 8) (.pointer (az (q5.i 7) (q5.i 8))) dp (lr D) (ij D):=by
   rw[G35.h 8,G35.i 7,G35.i 8];exact hB
  have hD5:aE (q5.h 7) dp D:=by rw[G35.h 7];exact hD3
  have hLA:((lV D).length:Int)<=_:=tX hok (frm:=0) hnn;have hLB:((ij D).length:Int)<=_:=tX hok (frm:=((D.n/2:Nat):Int)) hnn;rw[hv5,hv5'];have hsE:fz D=0:=by rw[hE,hgone];rfl
  refine⟨fun hlt=>⟨Bb hB5.rd ah,fun q6 g6 ⟨F6,hp6,hF6,hn6⟩=>?_⟩,fun hge=>⟨Bb hA5.rd ah,fun q6 g6 ⟨F6,hp6,hF6,hn6⟩=>?_⟩⟩
  .have hO:=yk hB5.rd hp6;rw[<-hF6 zzT]at hO;have hRd:=hO.rd.w;refine⟨⟨_,_,_,rfl,rfl,hRd,hhi,ah⟩,fun q7 g7 ⟨F7,hp7,hF7,hn7⟩ q8 g8 p8 hd=>?_⟩;have hW:=Ay hRd hp7;rw[<-hF7 zzT]at hW;have G7:ai 12 q5 q8:=g6.trans ((g7.tr g8).mono ah);have hn7:-1<=q7.i 16/\0<=q7.i 17/\0<=q7.i 18/\0<=q7.i 19:=hn7.1;refine⟨[[0]],[5,2,1,4],rfl,rfl,⟨(aY fun j=>[q8.i 20,0,0].getD j 0),rfl,⟨by show -1<=q8.i 20;omega,aap _⟩,zzT,zzT⟩,dp,H,D,_,Value.pointer (az (q8.i 20) 0),rfl,rfl,hD,rfl,?_,?_,fun _=>?_,fun h=>absurd hsE h⟩
   .show aE (cP [q8.h 7]) _ _;rw[aL,G7.h 7];exact hD5
   .rw[hsE];rfl
   .unfold bY;rw[aav hlt];have hW8:bU (q8.h 16) (.slice (az (q8.i 16) (q8.i 17)) (q8.i 18).toNat (q8.i 19).toNat) (jk (ij D)):=by
     rw[g8.h 16,g8.i 16,g8.i 17,g8.i 18,g8.i 19];exact hW
    have hA8:fc (q8.h 5) (.pointer (az (q8.i 4) (q8.i 5))) dp (su D) (lV D):=by
     rw[G7.h 5,G7.i 4,G7.i 5];exact hA5
    have hB8:fc (q8.h 8) (.pointer (az (q8.i 7) (q8.i 8))) dp (lr D) (ij D):=by
     rw[G7.h 8,G7.i 7,G7.i 8];exact hB5
    exact⟨(q8.i 20).toNat,_,_,_,_,_,_,by rw[au p8];rfl,⟨hB8,hA8,hW8,hd 5 2 _ _ aA rfl rfl rfl,hd 5 1 _ _ aA rfl rfl rfl,hd 5 4 _ _ aA rfl rfl rfl,hd 2 1 _ _ aA rfl rfl rfl,hd 2 4 _ _ aA rfl rfl rfl,hd 1 4 _ _ aA rfl rfl rfl,rfl⟩⟩
  .have hO:=yk hA5.rd hp6;rw[<-hF6 zzT]at hO;have hRd:=hO.rd.w;refine⟨⟨_,_,_,rfl,rfl,hRd,hlo,ah⟩,fun q7 g7 ⟨F7,hp7,hF7,hn7⟩ q8 g8 p8 hd=>?_⟩;have hW:=Ay hRd hp7;rw[<-hF7 zzT]at hW;have G7:ai 12 q5 q8:=g6.trans ((g7.tr g8).mono ah);have hn7:-1<=q7.i 16/\0<=q7.i 17/\0<=q7.i 18/\0<=q7.i 19:=hn7.1;refine⟨[[0]],[5,1,2,4],rfl,rfl,⟨(aY fun j=>[q8.i 20,0,0].getD j 0),rfl,⟨by show -1<=q8.i 20;omega,aap _⟩,zzT,zzT⟩,dp,H,D,_,Value.pointer (az (q8.i 20) 0),rfl,rfl,hD,rfl,?_,?_,fun _=>?_,fun h=>absurd hsE h⟩
   .show aE (cP [q8.h 7]) _ _;rw[aL,G7.h 7];exact hD5
   .rw[hsE];rfl
   .unfold bY;rw[aan hge];have hW8:bU (q8.h 16) (.slice (az (q8.i 16) (q8.i 17)) (q8.i 18).toNat (q8.i 19).toNat) (jk (lV D)):=by
     rw[g8.h 16,g8.i 16,g8.i 17,g8.i 18,g8.i 19];exact hW
    have hA8:fc (q8.h 5) (.pointer (az (q8.i 4) (q8.i 5))) dp (su D) (lV D):=by
     rw[G7.h 5,G7.i 4,G7.i 5];exact hA5
    have hB8:fc (q8.h 8) (.pointer (az (q8.i 7) (q8.i 8))) dp (lr D) (ij D):=by
     rw[G7.h 8,G7.i 7,G7.i 8];exact hB5
    exact⟨(q8.i 20).toNat,_,_,_,_,_,_,by rw[au p8];rfl,⟨hA8,hB8,hW8,hd 5 1 _ _ aA rfl rfl rfl,hd 5 2 _ _ aA rfl rfl rfl,hd 5 4 _ _ aA rfl rfl rfl,hd 1 2 _ _ aA rfl rfl rfl,hd 1 4 _ _ aA rfl rfl rfl,hd 2 4 _ _ aA rfl rfl rfl,rfl⟩⟩
def OW (o:Bool) (rows:List (List Int)) (e:Int):Prop:=(o=true->e=5)/\(o=false->ib rows->e=0)/\(o=false->¬ib rows->e=3)
def Ac:Sx.Spec where
 fn:=49
 own:=[]
 rd:=[0,1,3000001]
 res:=[.one .sl,.one (.int .i64)]
 pre:=fun xs Hs Rs=>∃ p v a o R R1 RA rows,xs=[p,v]/\Rs=[R,R1,RA]/\p=.pointer (some ⟨a,0,none⟩)/\R.cell a 3=some (.bool o)/\js R1 RA v rows/\rows.length<=1000000/\∀ r∈rows,0<=r.length
 post:=fun xs Hs Rs w Hs' F=>∃ p v a o R R1 RA rows u e,xs=[p,v]/\Rs=[R,R1,RA]/\p=.pointer (some ⟨a,0,none⟩)/\R.cell a 3=some (.bool o)/\js R1 RA v rows/\w=.tuple #[u,.int .i64 e]/\OW o rows e/\(e=0->bO F 5 u (bF rows))
def Il {o:Bool} {R1:Hl} (h1:R.cell a 3=some (.bool o)) (h2:js R1 RA v rows) (hp:Ac.post [.pointer (some ⟨a,0,none⟩),v] [] [R,R1,RA] w K F) :
 ∃ u e,w=.tuple #[u,.int .i64 e]/\OW o rows e/\(e=0->bO F 5 u (bF rows)):=by
 obtain⟨p',v',a',o',R',R1',RA',rows',u,e,e1,e2,e3,e4,e5,hw,hE,hO⟩:=hp;simp only[aag,aat]at e1 e2;obtain⟨ep,ev⟩:=e1;obtain⟨x1,x2,x3⟩:=e2;subst ep ev x1 x2 x3;have ea:a=a':=by simpa using e3
 subst ea;have eo:o=o':=by simpa using h1.symm.trans e4
 subst eo;obtain rfl:=h2.uniq e5;exact⟨u,e,hw,hE,hO⟩
def Fu (h2:js R RA v rows) (hp:uc.post [v] [] [R,RA] w K F) :
 ∃ u e,w=.tuple #[u,.int .i64 e]/\(ib rows->e=0/\bO F 5 u (bF rows))/\(¬ib rows->e=3):=by
 obtain⟨v',R',RA',rows',u,e,e1,e2,e5,hw,hE,hO⟩:=hp;simp only[aag,aat]at e1 e2;obtain⟨x2,x3⟩:=e2;subst e1 x2 x3;obtain rfl:=h2.uniq e5;exact⟨u,e,hw,hE,hO⟩
def OV:List Sx.Spec:=[uc]
def Rw:∀ t∈OV,t.OK Tryz.prog:=fun t ht=>by
 simp only[OV,aar,aaB,abe]at ht;rw[ht];exact Ia
def Ad:aG Tryz.prog OV Ac.fn where
 Λ:=aD
 args:=[TP (.var 0) (.lit 0),.sv (.one (.sl (.var 1) (.var 2) (.var 3) (.var 4)))]
 mem:=[.ro 5 [.var 0] false,.ro 6 [.var 1] false,.ro 7 [] true]
 nv:=8
def Za:uc.res=[.one .sl,.one (.int .i64)]:=rfl
open Classical in
def L6:Ac.OK Tryz.prog:=by
 refine Spec.aS (Γ:=OV) Rw ?_;rintro xs Hs Rs hl1 hl2 ⟨p,v,a,o,R,R1,RA,rows,rfl,rfl,rfl,hc,hB,hlen,aC⟩;have e0:Hs=[]:=aad.1 hl1;subst e0;obtain⟨us,x,y,c,rfl,hy,hul,hcell,hrd⟩:=id hB;refine⟨Ad,aO [(a:Int),x,y,us.length,c] false [Hl.none,Hl.none,Hl.none,Hl.none,Hl.none,R,R1,RA],fun _ _=>True,fun _ _=>0,?_,⟨?_,?_,?_,?_⟩,(fun _ h=>nomatch h),?_⟩
 .show [Value.pointer (az (a:Int) 0),Value.slice (az x y) ((us.length:Int)).toNat ((c:Int)).toNat]=_;rw[aaa,aaa,gz]
 .intro r hr ho;simp [Ad]at hr;rcases hr with rfl | rfl | rfl<;>cases ho
 .intro r hr ho;simp [Ad]at hr;rcases hr with rfl | rfl | rfl
  .exact⟨R,aF,Hl.le_refl _⟩
  .exact⟨R1,aF,Hl.le_refl _⟩
  .exact⟨RA,aF,Hl.le_refl _⟩
 .simp [Ad,bD.own]
 .intro r hr;simp [Ad]at hr;rcases hr with rfl | rfl | rfl<;>trivial
 .refine aG.read [] [] [] ?_;generalize hρ:aO [(a:Int),x,y,us.length,c] false [Hl.none,Hl.none,Hl.none,Hl.none,Hl.none,R,R1,RA]=J;have v0:J.i 0=a:=by rw[<-hρ];rfl
  have v1:J.i 1=x:=by rw[<-hρ];rfl
  have v2:J.i 2=y:=by rw[<-hρ];rfl
  have v3:J.i 3=us.length:=by rw[<-hρ];rfl
  have v4:J.i 4=c:=by rw[<-hρ];rfl
  have w5:J.h 5=R:=by rw[<-hρ];rfl
  have w6:J.h 6=R1:=by rw[<-hρ];rfl
  have w7:J.h 7=RA:=by rw[<-hρ];rfl
  clear hρ;have t3:Int.toNat 3=3:=rfl;simp only[go_sem,Nat.reduceAdd,OV,Za,Zu,t3];rw[v0,v1,v2,v3,v4,w5,w6,w7,aaa,aaa,aaa,hc];refine⟨ah,rfl,fun ho _=>?_,fun ho=>⟨⟨_,R1,RA,rows,rfl,rfl,hB,hlen,aC⟩,fun q1 g1 ⟨F1,hp1,hF1,hn1⟩ _=>?_⟩⟩
  .have ho:o=true:=ho;refine⟨[],[],rfl,rfl,⟨(aY fun j=>[-1,0,0,0,5].getD j 0),rfl,⟨aap _,aap _,aap _,aap _⟩,zzT,zzT⟩,_,_,a,o,R,R1,RA,rows,.slice none 0 0,5,rfl,rfl,rfl,hc,hB,rfl,⟨fun _=>rfl,fun h=>absurd (ho.symm.trans h) aF,fun h=>absurd (ho.symm.trans h) aF⟩,fun h=>absurd h aA⟩
  .have ho:¬o=true:=ho;obtain⟨u,e,hw,hy1,hy2⟩:=Fu hB hp1;simp only[Value.tuple.injEq,aaT,aag,Value.int.injEq,aaY,aat]at hw;obtain⟨eu,ee⟩:=hw;have hn:-1<=q1.i 8/\0<=q1.i 9/\0<=q1.i 10/\0<=q1.i 11:=hn1.1;refine⟨[],[3],rfl,rfl,⟨(aY fun j=>[q1.i 8,q1.i 9,q1.i 10,q1.i 11,q1.i 12].getD j 0),rfl,hn,zzT,zzT⟩,_,_,a,o,R,R1,RA,rows,.slice (az (q1.i 8) (q1.i 9)) (q1.i 10).toNat (q1.i 11).toNat,q1.i 12,rfl,rfl,rfl,hc,hB,rfl,⟨fun h=>absurd h ho,fun _ h=>?_,fun _ h=>?_⟩,fun h=>?_⟩
   .rw[ee];exact(hy1 h).1
   .rw[ee];exact hy2 h
   .show bO (cP [q1.h 8]) _ _ _;rw[aL,hF1 trivial,eu];by_cases hk:ib rows
    .exact(hy1 hk).2
    .have:=hy2 hk;omega
end Go.Proofs.YtomdimlnggpgbaaGreatDoor
