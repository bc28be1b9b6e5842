/- RelayTwice. -/
import Derived.Lib.Hide
import Derived.WalkSpells
import Derived.WalkLawsBesides
import Derived.Lib.BytesEntry
import Derived.Test.YtomdimlnggpgbaaGreatDoorTF
set_option linter.all false
set_option maxHeartbeats 4000000
namespace Go.Proofs.YtomdimlnggpgbaaGreatDoor
theorem tr8{q:Prop}(h:q):True/\True/\True/\True/\True/\True/\True/\True/\q:=⟨trivial,trivial,trivial,trivial,trivial,trivial,trivial,trivial,h⟩
open Go Go.Sx Go.Pk Go.RowKit
def lex:List Int->List Int->Int
 | x::xs,y::ys=>if x<y then -1 else if y<x then 1 else lex xs ys
 | _,_=>0
def kv (T:List (List Int)):Prop:=∀ i,i+1<T.length->lex (T.getD i []) (T.getD (i+1) [])<0
def oJ (w:World) (b o:Nat) (xs:List Int):Prop:=∀ i x,xs[i]?=some x->w.cell? ⟨b,o+i,none⟩=some (.int .u8 x)
theorem ud {P:Program} {w:World} {b o n c:Nat} {xs:List Int} (h:oJ w b o xs) (hn:xs.length=n):(Extern.Bytes.bytesOf (.slice (some ⟨b,o,none⟩) n c)).run P w=.ok ⟨(Lib.bytesOf xs).toArray⟩ w:=by
 have hl:=Lib.run_loadBytesX (P:=P) w xs ⟨b,o,none⟩ .empty (fun j x hj=>by
  have e:(⟨b,o,none⟩:Addr).add j=⟨b,o+j,none⟩:=by unfold Addr.add;split<;>simp_all
  rw[e,h j x hj])
 rw[hn]at hl;simp only[Extern.Bytes.bytesOf,hl]
 congr 1
 apply ByteArray.ext;show(#[]:Array UInt8)++(Lib.bytesOf xs).toArray=(Lib.bytesOf xs).toArray;simp
def GY (xs ys:List Int):Int:=Lib.compareBytes (Lib.bytesOf xs) (Lib.bytesOf ys)
theorem yx {P:Program} {w:World} {b o n c b' o' n' c':Nat} {xs ys:List Int} (h:oJ w b o xs) (hn:xs.length=n) (h':oJ w b' o' ys) (hn':ys.length=n') :
 (Extern.BytealgCompare.compare #[.slice (some ⟨b,o,none⟩) n c,.slice (some ⟨b',o',none⟩) n' c']).run P w=.ok (.int .i64 (GY xs ys)) w:=by
 change Sem.run P (do pure (goInt (Extern.BytealgCompare.cmp (<-Extern.Bytes.bytesOf (.slice (some ⟨b,o,none⟩) n c)) (<-Extern.Bytes.bytesOf (.slice (some ⟨b',o',none⟩) n' c'))))) w=_;simp only[Sem.run_bind,ud h hn,ud h' hn',Result.andThen_ok,Sem.run_pure,Lib.cmp_eq];rfl
set_option maxRecDepth 20000 in
theorem Aj {w:World} {b o n c b' o' n' c':Nat} {xs ys:List Int} (h:oJ w b o xs) (hn:xs.length=n) (h':oJ w b' o' ys) (hn':ys.length=n') :
 Calls Tryz.prog 200 #[.slice (some ⟨b,o,none⟩) n c,.slice (some ⟨b',o',none⟩) n' c'] w fun e w'=>e=.returned (.int .i64 (GY xs ys))/\Below w.heap.size w w':=by
 go_enter Tryz.func200,Tryz.ntmps200
 go_wp2
 rw[run_callFunc_extern Tryz.func208 (by kernel_rfl) (by kernel_rfl) (by kernel_rfl) (e:=Extern.BytealgCompare.compare) (by kernel_rfl),yx h hn h' hn'];simp only[Result.andThen];rw[Oper.upon_value]
 go_wp2
 go_ret
 exact⟨rfl,Below.refl _ _⟩
theorem PM {x y:Int} (hx:0<=x/\x<256) (hy:0<=y/\y<256):(UInt8.ofNat x.toNat<UInt8.ofNat y.toNat)=(x<y):=by
 rw[UInt8.lt_iff_toNat_lt,abW (by simp;omega),abW (by simp;omega)];exact propext (by omega)
theorem GZ:∀ (xs ys:List Int),xs.length=ys.length->aS xs->aS ys->GY xs ys=lex xs ys
 | [],[],_,_,_=>rfl
 | x::xs,y::ys,h,hx,hy=>by
  have ih:=GZ xs ys (by simpa using h) (fun z hz=>hx z (by simp [hz])) (fun z hz=>hy z (by simp [hz]));unfold GY Lib.bytesOf at ih ⊢;simp only[Zf,Lib.compareBytes,lex,PM (hx x (by simp)) (hy y (by simp)),PM (hy y (by simp)) (hx x (by simp)),ih]
 | [],_::_,h,_,_=>by simp at h
 | _::_,[],h,_,_=>by simp at h
def ni:Sx.Spec where
 fn:=200
 own:=[]
 rd:=[0,1]
 res:=[.one (.int .i64)]
 pre:=fun xs Hs Rs=>∃ u v a b R1 R2,xs=[u,v]/\Rs=[R1,R2]/\mo R1 u a/\mo R2 v b/\a≠[]/\a.length=b.length/\aS a/\aS b
 post:=fun xs Hs Rs w Hs' F=>∃ u v a b R1 R2,xs=[u,v]/\Rs=[R1,R2]/\mo R1 u a/\mo R2 v b/\w=.int .i64 (lex a b)
theorem Pb {R:Hl} {w:World} (hs:R.sub w) {x y:Int} {bs:List Int} (h:∀ j z,bs[j]?=some z->R.cell x.toNat (y.toNat+j)=some (.int .u8 z)):oJ w x.toNat y.toNat bs:=fun j z hz=>Hl.gG hs (h j z hz)
theorem x7:ni.OK Tryz.prog:=by
 refine mA rfl fun w xs Rs hs ⟨u,v,a,b,R1,R2,e1,e2,h1,h2,hne,hl,hb1,hb2⟩=>?_;subst e1 e2;obtain⟨x,y,c,rfl,hy,h1'⟩:=id h1;obtain⟨x',y',c',rfl,hy',h2'⟩:=id h2;rcases h1' with ⟨_,h⟩ | ⟨hx,h1'⟩
 .exact absurd h hne
 rcases h2' with ⟨_,h⟩ | ⟨hx',h2'⟩
 .rw[h]at hl;exact absurd (Za.1 hl) hne
 refine⟨.int .i64 (lex a b),⟨⟨fun _=>lex a b,fun _=>false,fun _=>.empty,fun _=>.tuple #[],fun _=>Hl.none⟩,rfl,trivial,trivial⟩,?_,_,_,a,b,R1,R2,rfl,rfl,h1,h2,rfl⟩;rw[au hx,au hx',<-GZ a b hl hb1 hb2];exact Aj (Pb (hs R1 (by simp)) h1') rfl (Pb (hs R2 (by simp)) h2') rfl
def tk:List Ck:=List.replicate 16 (.int .u8)
def oG:List Kd:=List.replicate 16 (.int .u8)
def pD (v:Value):List Int:=match v with
 | .agg a=>a.toList.map fun v=>cW (some v)
 | _=>[]
def TW (xs:List Value):Prop:=∀ v∈xs,aS (pD v)
def Pg (xs:List Value):Value:=match xs with
 | [a,b]=>.int .i64 (lex (pD a) (pD b))
 | _=>.int .i64 0
def Pw (xs:List Value):Value:=match xs with
 | [a,b]=>.bool (decide (lex (pD a) (pD b)<0))
 | _=>.bool false
def Ch:Sx.Spec:=pQ 178 [.agg tk,.agg tk] [.one (.int .i64)] TW Pg
def CP:Sx.Spec:=pQ 143 [.agg tk,.agg tk] [.one .bool] (fun _=>True) Pw
def EC:Nd:=(fun b=>(fun a=>(.ext (.alloc 32) (.ext (.alloc 33) (.and (.pre a) (.ext a (.post [.dead,.dead] (.sv (.one (.int .i64 (.var 34)))))))):Nd)) (.call 0 34 [.sv (.one (.sl (.var 32) (.lit 0) (.lit 16) (.lit 16))),.sv (.one (.sl (.var 33) (.lit 0) (.lit 16) (.lit 16)))] [] [.bD 32 (al 0 b) 61,.bD 33 (al 16 b) 61])) (List.replicate 16 (Ck.int .u8))
def SJ:bU Tryz.prog [ni] 178 where
 Λ:=aM
 args:=(bf 0 [.agg tk,.agg tk]).map .sv
 mem:=[]
 nv:=32
 nd:=EC
 ok:=by kernel_rfl
def js (q:Env) (n:Nat):List Int:=(List.range 16).map fun j=>q.i (n+j)
theorem GF (q:Env):sE [.agg tk,.agg tk] q=[.agg ((js q 0).map (Value.int .u8)).toArray,.agg ((js q 16).map (Value.int .u8)).toArray]:=rfl
theorem fJ (l:List Int):pD (.agg (l.map (Value.int .u8)).toArray)=l:=by
 show((l.map (Value.int .u8)).toArray.toList).map _=l;rw[aaF];exact List.map_id'' (fun _=>rfl) l
theorem sZ (z:Int):pg [.one (.int .i64)] (.int .i64 z):=⟨⟨fun _=>z,fun _=>false,fun _=>.empty,fun _=>.tuple #[],fun _=>Hl.none⟩,rfl,trivial,trivial⟩
theorem nf (b:Bool):pg [.one .bool] (.bool b):=⟨⟨fun _=>0,fun _=>b,fun _=>.empty,fun _=>.tuple #[],fun _=>Hl.none⟩,rfl,trivial,trivial⟩
theorem uR {q:Env} {l:List Int} {T:TypeId} {a o n:Nat} (h0:0<=q.i a) {cs:List CV} (hc:∀ j z,l[j]?=some z->(cs.map (CV.ev q))[o+j]?=some (.int .u8 z)) (hn:n=l.length) {c:Int} : mo ((bx.bD a cs T).hl q) (.slice (aA (q.i a) (o:Int)) ((n:Int)).toNat c.toNat) l:=by
 subst hn;refine⟨q.i a,o,c.toNat,by rw[Y7],by omega,Or.inr ⟨h0,fun j z hz=>?_⟩⟩;show(Hl.one (q.i a).toNat (.cells (cs.map (CV.ev q)).toArray T (0,0))).cell (q.i a).toNat _=_;unfold Hl.cell;rw[Hl.bF,Y7];show(cs.map (CV.ev q)).toArray[o+j]?=_;rw[aae];exact hc j z hz
theorem YM:[ni][0]?=some ni:=rfl
theorem YN:ni.res=[.one (.int .i64)]:=rfl
theorem YL:(br 34 [Cp.one (.int .i64)]≠[])=False:=by simp [br,Cp.roots,Ck.root]
theorem zO {q q2:Env} (g:ah 32 q q2) {n:Nat} (hn:n+16<=32):(al n tk).map (CV.ev q2)=(js q n).map (Value.int .u8):=by
 show [Value.int .u8 (q2.i n),.int .u8 (q2.i (n+1)),.int .u8 (q2.i (n+2)),.int .u8 (q2.i (n+3)),.int .u8 (q2.i (n+4)),.int .u8 (q2.i (n+5)),.int .u8 (q2.i (n+6)),.int .u8 (q2.i (n+7)),.int .u8 (q2.i (n+8)),.int .u8 (q2.i (n+9)),.int .u8 (q2.i (n+10)),.int .u8 (q2.i (n+11)),.int .u8 (q2.i (n+12)),.int .u8 (q2.i (n+13)),.int .u8 (q2.i (n+14)),.int .u8 (q2.i (n+15))]=_;rw[g.i n,g.i (n+1),g.i (n+2),g.i (n+3),g.i (n+4),g.i (n+5),g.i (n+6),g.i (n+7),g.i (n+8),g.i (n+9),g.i (n+10),g.i (n+11),g.i (n+12),g.i (n+13),g.i (n+14),g.i (n+15)];rfl
theorem KQ:Ch.OK Tryz.prog:=by
 refine jE (Γ:=[ni]) (fun t ht=>by rw[Zn]at ht;subst ht;exact x7) SJ rfl rfl rfl (fun q _ _=>?_) (fun q hq hN=>⟨fun _ _=>True,fun _ _=>0,?_⟩)
 .exact sZ _
 .rw[GF]at hN ⊢;have h1:aS (js q 0):=by
   have:=hN _ (ZJ ..);rwa[fJ]at this
  have h2:aS (js q 16):=by
   have:=hN _ (Zu _ (ZJ ..));rwa[fJ]at this
  have eG:Pg [.agg ((js q 0).map (Value.int .u8)).toArray,.agg ((js q 16).map (Value.int .u8)).toArray]=.int .i64 (lex (js q 0) (js q 16)):=by
   show Value.int .i64 (lex (pD _) (pD _))=_;rw[fJ,fJ]
  simp only[eG];show Nd.holds _ _ _ EC;unfold EC;simp only[Nd.holds,X.pre,X.rel,X.n,Src.ok,Src.len,Src.bG,Zy,Zm,ZG,Zx,Zp,Nat.reduceAdd,Zd,Zh,bn,bj,aJ,aU,aR,bm,aZ,bh,bg,bd,aV,ba,bk,aX,aW,aK,aY,ai,aj,aB,aF,aD,ar,aG,aQ,aP,aq,aI,az,aH,av,TV.ev,SV.ev,CV.ev,Zf,Zr,bx.hl,cu,Cp.sv,Ck.cv,bf,Cp.len,Ck.len,aE,aN,aT,YM,YN,YL];intro q1 g1 p1 q2 g2 p2;have g:ah 32 q q2:=g1.tr g2;have c1:∀ j z,(js q 0)[j]?=some z->((al 0 tk).map (CV.ev q2))[0+j]?=some (.int .u8 z):=by
   rw[zO g (by omega)];intro j z hz;rw[ZM,Zs,hz];rfl
  have c2:∀ j z,(js q 16)[j]?=some z->((al 16 tk).map (CV.ev q2))[0+j]?=some (.int .u8 z):=by
   rw[zO g (by omega)];intro j z hz;rw[ZM,Zs,hz];rfl
  have p1':0<=q2.i 32:=by rw[g2.i 32];exact p1
  have r1:=uR (T:=61) (n:=16) (c:=16) p1' c1 rfl;have r2:=uR (T:=61) (n:=16) (c:=16) p2 c2 rfl;refine⟨⟨_,_,js q 0,js q 16,_,_,rfl,rfl,r1,r2,(by simp [js]),rfl,h1,h2⟩,fun q3 g3 ⟨F,⟨u,v,a,b,R1,R2,hx,hR,ha,hb,hv⟩,_⟩=>?_⟩;simp only[Ze,Zm]at hx hR;obtain⟨rfl,rfl⟩:=hx;obtain⟨rfl,rfl⟩:=hR;rw[<-ha.uniq r1,<-hb.uniq r2];exact hv
def Fe:Nd:=(fun a=>(.ext (.alloc 32) (.ext (.alloc 33) (.and (.imp (.not (.eq (.var 0) (.var 16))) (.post a (.sv (.one (.bool (.lt (.var 0) (.var 16))))))) (.imp (.eq (.var 0) (.var 16)) (.and (.imp (.not (.eq (.var 1) (.var 17))) (.post a (.sv (.one (.bool (.lt (.var 1) (.var 17))))))) (.imp (.eq (.var 1) (.var 17)) (.and (.imp (.not (.eq (.var 2) (.var 18))) (.post a (.sv (.one (.bool (.lt (.var 2) (.var 18))))))) (.imp (.eq (.var 2) (.var 18)) (.and (.imp (.not (.eq (.var 3) (.var 19))) (.post a (.sv (.one (.bool (.lt (.var 3) (.var 19))))))) (.imp (.eq (.var 3) (.var 19)) (.and (.imp (.not (.eq (.var 4) (.var 20))) (.post a (.sv (.one (.bool (.lt (.var 4) (.var 20))))))) (.imp (.eq (.var 4) (.var 20)) (.and (.imp (.not (.eq (.var 5) (.var 21))) (.post a (.sv (.one (.bool (.lt (.var 5) (.var 21))))))) (.imp (.eq (.var 5) (.var 21)) (.and (.imp (.not (.eq (.var 6) (.var 22))) (.post a (.sv (.one (.bool (.lt (.var 6) (.var 22))))))) (.imp (.eq (.var 6) (.var 22)) (.and (.imp (.not (.eq (.var 7) (.var 23))) (.post a (.sv (.one (.bool (.lt (.var 7) (.var 23))))))) (.imp (.eq (.var 7) (.var 23)) (.and (.imp (.not (.eq (.var 8) (.var 24))) (.post a (.sv (.one (.bool (.lt (.var 8) (.var 24))))))) (.imp (.eq (.var 8) (.var 24)) (.and (.imp (.not (.eq (.var 9) (.var 25))) (.post a (.sv (.one (.bool (.lt (.var 9) (.var 25))))))) (.imp (.eq (.var 9) (.var 25)) (.and (.imp (.not (.eq (.var 10) (.var 26))) (.post a (.sv (.one (.bool (.lt (.var 10) (.var 26))))))) (.imp (.eq (.var 10) (.var 26)) (.and (.imp (.not (.eq (.var 11) (.var 27))) (.post a (.sv (.one (.bool (.lt (.var 11) (.var 27))))))) (.imp (.eq (.var 11) (.var 27)) (.and (.imp (.not (.eq (.var 12) (.var 28))) (.post a (.sv (.one (.bool (.lt (.var 12) (.var 28))))))) (.imp (.eq (.var 12) (.var 28)) (.and (.imp (.not (.eq (.var 13) (.var 29))) (.post a (.sv (.one (.bool (.lt (.var 13) (.var 29))))))) (.imp (.eq (.var 13) (.var 29)) (.and (.imp (.not (.eq (.var 14) (.var 30))) (.post a (.sv (.one (.bool (.lt (.var 14) (.var 30))))))) (.imp (.eq (.var 14) (.var 30)) (.and (.imp (.not (.eq (.var 15) (.var 31))) (.post a (.sv (.one (.bool (.lt (.var 15) (.var 31))))))) (.imp (.eq (.var 15) (.var 31)) (.post a (.sv (.one (.bool .ff))))))))))))))))))))))))))))))))))))):Nd)) [.dead,.dead]
def Tg:bU Tryz.prog [] 143 where
 Λ:=aM
 args:=(bf 0 [.agg tk,.agg tk]).map .sv
 mem:=[]
 nv:=32
 nd:=Fe
 ok:=by kernel_rfl
theorem QV {a b:Int} {xs ys:List Int} (h:¬a=b):decide (a<b)=decide (lex (a::xs) (b::ys)<0):=by
 unfold lex;by_cases h1:a<b
 .simp [h1]
 .have h2:b<a:=by omega
  simp [h1,h2]
theorem QU {a b:Int} {xs ys:List Int} (h:a=b):lex (a::xs) (b::ys)=lex xs ys:=by
 subst h;show(if a<a then _ else if a<a then _ else _)=_;rw[Zo (acf _),Zo (acf _)]
theorem jv {a b:Int} {xs ys:List Int} {u v:Value} {Y:Prop} (hu:u=.bool (decide (a<b))) (hv:v=.bool (decide (lex (a::xs) (b::ys)<0))) (h:v=.bool (decide (lex xs ys<0))->Y):(¬a=b->u=v)/\(a=b->Y) :=
 ⟨fun hn=>by rw[hu,hv,QV hn],fun he=>h (by rw[hv,QU he])⟩
theorem zN (q:Env) (n:Nat):js q n=[q.i n,q.i (n+1),q.i (n+2),q.i (n+3),q.i (n+4),q.i (n+5),q.i (n+6),q.i (n+7),q.i (n+8),q.i (n+9),q.i (n+10),q.i (n+11),q.i (n+12),q.i (n+13),q.i (n+14),q.i (n+15)]:=rfl
theorem LI:CP.OK Tryz.prog:=by
 refine jE (Γ:=[]) (fun t ht=>by cases ht) Tg rfl rfl rfl (fun q _ _=>?_) (fun q hq hN=>⟨fun _ _=>True,fun _ _=>0,?_⟩)
 .exact nf _
 .rw[GF];have eG:Pw [.agg ((js q 0).map (Value.int .u8)).toArray,.agg ((js q 16).map (Value.int .u8)).toArray]=.bool (decide (lex (js q 0) (js q 16)<0)):=by
   show Value.bool (decide (lex (pD _) (pD _)<0))=_;rw[fJ,fJ]
  simp only[eG];show Nd.holds _ _ _ Fe;unfold Fe;simp only[Nd.holds,X.pre,X.rel,X.n,Src.ok,Src.len,Src.bG,Zy,Zm,ZG,Zx,Zp,Nat.reduceAdd,Zd,Zh,bn,bj,aJ,aU,aR,bm,aZ,bh,bg,bd,aV,ba,bk,aX,aW,aK,aY,ai,aj,aB,aF,aD,ar,aG,aQ,aP,aq,aI,az,aH,av,TV.ev,SV.ev,CV.ev,Zf,Zr,bx.hl,cu,Cp.sv,Ck.cv,bf,Cp.len,Ck.len,aE,aN,aT];intro q1 g1 p1 q2 g2 p2;have g:ah 32 q q2:=g1.tr g2;have e:∀ n,n+16<=32->js q n=js q2 n:=fun n hn=>aac fun j hj=>(g.i (n+j) (by have:=ZQ.1 hj;omega)).symm;rw[e 0 (by omega),e 16 (by omega),zN,zN];generalize hV:Value.bool (decide (lex _ _<0))=V;have hV:=hV.symm;exact jv rfl hV fun h0=>jv rfl h0 fun h1=>jv rfl h1 fun h2=>jv rfl h2 fun h3=>jv rfl h3 fun h4=>jv rfl h4 fun h5=>jv rfl h5 fun h6=>jv rfl h6 fun h7=>jv rfl h7 fun h8=>jv rfl h8 fun h9=>jv rfl h9 fun h10=>jv rfl h10 fun h11=>jv rfl h11 fun h12=>jv rfl h12 fun h13=>jv rfl h13 fun h14=>jv rfl h14 fun h15=>(h15.trans rfl).symm
def BI (T:List (List Int)):Prop:=T.length<=1000000/\∀ t∈T,t.length=16/\aS t
open Classical in
noncomputable def ny (f:FuncId):Sx.Spec where
 fn:=f
 own:=[]
 rd:=[0]
 res:=[.one .bool]
 pre:=fun xs Hs Rs=>∃ u R T,xs=[u]/\Rs=[R]/\bO R u oG (T.map bK)/\BI T
 post:=fun xs Hs Rs v Hs' F=>∃ u R T,xs=[u]/\Rs=[R]/\bO R u oG (T.map bK)/\v=.bool (decide (kv T))
def AN:Nd:=(fun c h i g f d=>(fun b=>(fun a=>(.and (.inv 0 [⟨10,0,.int .i64 (.lit 1)⟩] []) (.havoc 0 0 5 (.and (.e (.le d (.var 2))) (.and (.imp (.lt c (.var 2)) (.and (.e (.le d h)) (.and (.e (.le d i)) (.and (.e (.le d b)) (.and (.e (.lt b (.var 2))) (.and (.e (.hby 4 h (.add i (.mul b f)) f)) (.and (.e (.le d c)) (.and (.e (.hby 4 h (.add i (.mul c f)) f)) (.and (.pre a) (.ext a (.and (.imp (.le d (.var 12)) (.post [.ro 4 [.var 0] false] (.sv (.one (.bool .ff))))) (.imp (.not (.le d (.var 12))) (.back 0 0 [⟨10,0,.int .i64 (.wrap .i64 (.add c (.lit 1)))⟩] []))))))))))))) (.imp (.not (.lt c (.var 2))) (.post [.ro 4 [.var 0] false] (.sv (.one (.bool .tt)))))))):Nd)) (.call 1 12 [.sv (.agg (bo 4 h (.add i (.mul b f)) 0 g)),.sv (.agg (bo 4 h (.add i (.mul c f)) 0 g))] [] [])) (.wrap .i64 (.sub c (.lit 1)))) (.var 10) (.var 0) (.var 1) (List.replicate 16 (Kd.int .u8)) (.lit 16) (.lit 0)
def Bg:Nd:=(fun h c g b d=>(fun f=>(fun a=>(.and (.inv 0 [⟨10,0,.int .i64 d⟩] []) (.havoc 0 0 5 (.and (.e (.le d (.var 2))) (.and (.imp (.lt b (.var 2)) (.and (.e (.le d h)) (.and (.e (.le d (.var 1))) (.and (.e (.le d (.var 10))) (.and (.e (.lt (.var 10) (.var 2))) (.and (.e (.hby 4 h c (.lit 16))) (.and (.e (.le d b)) (.and (.e (.hby 4 h f (.lit 16))) (.and (.pre a) (.ext a (.and (.imp (.not (.bvar 12)) (.post [.ro 4 [.var 0] false] (.sv (.one (.bool .ff))))) (.imp (.bvar 12) (.back 0 0 [⟨10,0,.int .i64 b⟩] []))))))))))))) (.imp (.not (.lt b (.var 2))) (.post [.ro 4 [.var 0] false] (.sv (.one (.bool .tt)))))))):Nd)) (.call 2 12 [.sv (.agg (bo 4 h c 0 g)),.sv (.agg (bo 4 h f 0 g))] [] [])) (.add (.var 1) (.mul b (.lit 16)))) (.var 0) (.add (.var 1) (.mul (.var 10) (.lit 16))) (List.replicate 16 (Kd.int .u8)) (.wrap .i64 (.add (.var 10) (.lit 1))) (.lit 0)
def DV:List Sx.Spec:=[ni,Ch,CP]
theorem Ir:∀ t∈DV,t.OK Tryz.prog:=fun t ht=>by
 simp only[DV,Zl,Zq,ZO]at ht;rcases ht with rfl | rfl | rfl
 .exact x7
 .exact KQ
 .exact LI
theorem YS:DV[1]?=some Ch:=rfl
theorem YT:DV[2]?=some CP:=rfl
theorem YZ:Ch.res=[.one (.int .i64)]:=rfl
theorem X1:CP.res=[.one .bool]:=rfl
theorem X0 (n:Nat):(br n [Cp.one (.int .i64)]≠[])=False:=by simp [br,Cp.roots,Ck.root]
theorem Sm (n:Nat):(br n [Cp.one .bool]≠[])=False:=by simp [br,Cp.roots,Ck.root]
def Iq:List TV:=[.sv (.one (.sl (.var 0) (.var 1) (.var 2) (.var 3)))]
def wz:bU Tryz.prog DV 148 where
 Λ:=fun p=>if LL p then some ⟨0,[(3,TI .i64 (.var 10))],[],12⟩else none
 args:=Iq
 mem:=[.ro 4 [.var 0] false]
 nv:=5
 nd:=AN
 ok:=by kernel_rfl
def xt:bU Tryz.prog DV 103 where
 Λ:=fun p=>if LL p then some ⟨0,[(3,TI .i64 (.var 10))],[],12⟩else none
 args:=Iq
 mem:=[.ro 4 [.var 0] false]
 nv:=5
 nd:=Bg
 ok:=by kernel_rfl
theorem PK {a b:List Int} (ha:a.length=16) (hb:b.length=16) (h1:aS a) (h2:aS b):(∃ q,jR 0 [.agg tk,.agg tk] q/\[.agg (bK a).toArray,.agg (bK b).toArray]=sE [.agg tk,.agg tk] q)/\TW [.agg (bK a).toArray,.agg (bK b).toArray]:=by
 refine⟨⟨bw (a++b) false [],by simp [jR,Hb,tk,ck,iP,dd,il,List.replicate],?_⟩,?_⟩
 .rw[GF];have e1:js (bw (a++b) false []) 0=a:=by
   apply ZN;intro j;unfold js;rw[Zs];by_cases hj:j<16
   .rw[ZI hj,Y8 (by omega)];show some ((a++b).getD (0+j) 0)=_;rw[ZM,Zt,ZH (by omega),Y8 (by omega)];rfl
   .rw[Zv (by simp;omega),Zv (by omega)];rfl
  have e2:js (bw (a++b) false []) 16=b:=by
   apply ZN;intro j;unfold js;rw[Zs];by_cases hj:j<16
   .rw[ZI hj,Y8 (by omega)];show some ((a++b).getD (16+j) 0)=_;rw[Zt,Zz (by omega),show 16+j-a.length=j by omega,Y8 (by omega)];rfl
   .rw[Zv (by simp;omega),Zv (by omega)];rfl
  rw[e1,e2];rfl
 .intro v hv;simp only[Zl,Zq,ZO]at hv;rcases hv with rfl | rfl
  .show aS (pD (.agg (a.map (Value.int .u8)).toArray));rw[fJ];exact h1
  .show aS (pD (.agg (b.map (Value.int .u8)).toArray));rw[fJ];exact h2
theorem JG {t:List Int} (h:t.length=16):bS (bK t) oG:=by
 match t,h with
 | [_,_,_,_,_,_,_,_,_,_,_,_,_,_,_,_],_=>exact⟨rfl,rfl,rfl,rfl,rfl,rfl,rfl,rfl,rfl,rfl,rfl,rfl,rfl,rfl,rfl,rfl,trivial⟩
theorem s9 {R:Hl} {x y:Int} {T:List (List Int)} (hx:0<=x) (hy:0<=y) (hc:∀ (i:Nat) row,(T.map bK)[i]?=some row->bS row oG/\∀ j u,row[j]?=some u->R.cell x.toNat (y.toNat+i*oG.length+j)=some u) {i:Nat} {t:List Int} (ht:T[i]?=some t) (hl:t.length=16) {ρ:Env} {h:Nat} (hR:ρ.h h=R) {X Y:E} (hX:aC ρ X=x) (hY:aC ρ Y=y+i*16) :
 cy R x.toNat (y+(i:Int)*16).toNat (Int.toNat 16)=true/\(bo h X Y 0 (List.replicate 16 (Kd.int .u8))).map (CV.ev ρ)=bK t:=by
 have h1:=(hc i (bK t) (by rw[Zs,ht];rfl)).2;have hlen:oG.length=16:=rfl;rw[hlen]at h1;have hyi:(y+(i:Int)*16).toNat=y.toNat+i*16:=by omega
 constructor
 .unfold cy;rw[ZF];intro j hj;have hj:j<16:=ZQ.1 hj;rw[hyi,h1 j (.int .u8 (t[j])) (by unfold bK;rw[Zs,Y8 (by omega)];rfl)];rfl
 .refine fj (bK t) _ 0 (JG hl) fun j u hu=>?_;rw[hR,hX,hY,hyi,ZM];exact h1 j u hu
theorem IN {a b:List Int} {v:Value} {F:Hl} {Hs Rs K:List Hl} (hp:Ch.post [.agg (bK a).toArray,.agg (bK b).toArray] Hs Rs v K F):v=.int .i64 (lex a b):=by
 have hp:v=.int .i64 (lex (pD (.agg (a.map (Value.int .u8)).toArray)) (pD (.agg (b.map (Value.int .u8)).toArray))):=hp;rw[fJ,fJ]at hp;exact hp
theorem I7 {a b:List Int} {v:Value} {F:Hl} {Hs Rs K:List Hl} (hp:CP.post [.agg (bK a).toArray,.agg (bK b).toArray] Hs Rs v K F):v=.bool (decide (lex a b<0)):=by
 have hp:v=.bool (decide (lex (pD (.agg (a.map (Value.int .u8)).toArray)) (pD (.agg (b.map (Value.int .u8)).toArray))<0)):=hp;rw[fJ,fJ]at hp;exact hp
open Classical in
theorem r8 {f:FuncId} {x y:Int} {c:Nat} {T:List (List Int)} {R:Hl} {b:Bool} (h:bO R (.slice (aA x y) (T.map bK).length c) oG (T.map bK)) (hb:b=true↔kv T) {q:Env} {e:E} (he:bN q e=b) {mem:Mem} : postOf (ny f) [.slice (aA x y) (T.map bK).length c] [] [R] q mem (.sv (.one (.bool e))):=by
 intro _;refine⟨[],[],rfl,rfl,⟨⟨fun _=>0,fun _=>b,fun _=>.empty,fun _=>.tuple #[],fun _=>Hl.none⟩,by show Value.bool (bN q e)=_;rw[he];rfl,trivial,trivial⟩,_,R,T,rfl,rfl,h,?_⟩;show Value.bool (bN q e)=_;rw[he]
 congr 1
 rw[aaW,Zc];exact hb
theorem yU:(ny 148).OK Tryz.prog:=by
 refine Spec.bJ (Γ:=DV) Ir ?_;rintro xs Hs Rs hl1 hl2 ⟨u,R,T,rfl,rfl,hR,hT⟩;have e0:Hs=[]:=Za.1 hl1;subst e0;obtain⟨x,y,c,rfl,hy,hrows⟩:=id hR;refine⟨wz,bw [x,y,T.length,c] false [Hl.none,Hl.none,Hl.none,Hl.none,R],fun _ q=>∃ i:Nat,q.i 10=i/\1<=i/\i<=T.length+1/\∀ k,k+1<i->k+1<T.length->lex (T.getD k []) (T.getD (k+1) [])<0,fun _ q=>(T.length-q.i 10).toNat,?_,⟨?_,?_,?_,?_⟩,(fun _ h=>nomatch h),?_⟩
 .rw[ZD];show [Value.slice (aA x y) ((T.length:Int)).toNat ((c:Int)).toNat]=_;rw[Y7,Y7]
 .intro r hr ho;simp [wz]at hr;subst hr;cases ho
 .intro r hr ho;simp [wz]at hr;subst hr;exact⟨R,by simp,Hl.le_refl _⟩
 .simp [wz]
 .intro r hr;simp [wz]at hr;subst hr;trivial
 .show Nd.holds _ _ _ AN;generalize hρ:bw [x,y,T.length,c] false [Hl.none,Hl.none,Hl.none,Hl.none,R]=ρ;have v0:ρ.i 0=x:=by rw[<-hρ];rfl
  have v1:ρ.i 1=y:=by rw[<-hρ];rfl
  have v2:ρ.i 2=T.length:=by rw[<-hρ];rfl
  have w4:ρ.h 4=R:=by rw[<-hρ];rfl
  clear hρ;unfold AN;simp only[Nd.holds,X.pre,X.rel,X.n,Src.ok,Src.len,Src.bG,Zy,Zm,ZG,Zx,Zp,Nat.reduceAdd,Zd,Zh,bn,bj,aJ,aU,aR,bm,aZ,bh,bg,bd,aV,ba,bk,aX,aW,aK,aY,ai,aj,aB,aF,aD,ar,aG,aQ,aP,aq,aI,az,aH,av,TV.ev,SV.ev,CV.ev,Zf,Zr,bx.hl,cu,Cp.sv,Ck.cv,bf,Cp.len,Ck.len,aE,aN,aT,YS,YZ,X0];refine⟨⟨1,rfl,ZB _,by omega,fun k h=>by omega⟩,fun q g ⟨i,ei,hi1,hi2,hlt⟩=>?_⟩;have hTl:=hT.1;rw[g.i 2,v2,ei,g.i 0,v0,g.i 1,v1,g.h 4,w4];have ew:IntKind.i64.wrap ((i:Int)-1)=((i-1:Nat):Int):=by rw[IntWalk.i64_in _ (by omega)];omega
  rw[ew];refine⟨by omega,fun h=>?_,fun h=>?_⟩
  .have hiT:i<T.length:=by omega
   rcases hrows with hn | ⟨hx,hc⟩
   .rw[aaz]at hn;rw[hn]at hiT;cases hiT
   have ht1:T[i-1]?=some (T[i-1]):=Y8 (by omega);have ht2:T[i]?=some (T[i]):=Y8 hiT;have m1:=hT.2 _ (Zb ht1);have m2:=hT.2 _ (Zb ht2);obtain⟨b1,r1⟩:=s9 (ρ:=q) (h:=4) (X:=.var 0) (Y:=(E.var 1).add ((E.wrap IntKind.i64 ((E.var 10).sub (E.lit 1))).mul (E.lit 16))) hx hy hc ht1 m1.1 (by rw[g.h 4,w4]) (by rw[aj,g.i 0,v0]) (by
    simp only[aB,aD,ar,aF,aj,ai];rw[g.i 1,v1,ei,ew])
   obtain⟨b2,r2⟩:=s9 (ρ:=q) (h:=4) (X:=.var 0) (Y:=(E.var 1).add ((E.var 10).mul (E.lit 16))) hx hy hc ht2 m2.1 (by rw[g.h 4,w4]) (by rw[aj,g.i 0,v0]) (by
    simp only[aB,aD,aj,ai];rw[g.i 1,v1,ei])
   rw[r1,r2];refine⟨hx,hy,by omega,by omega,b1,by omega,b2,PK m1.1 m2.1 m1.2 m2.2,fun q1 g1 ⟨F,hp,_⟩=>?_⟩;have hv:=IN hp;have hv:q1.i 12=lex T[i-1] T[i]:=by simpa using hv
   have d1:T.getD (i-1) []=T[i-1]:=by rw[Zt,ht1];rfl
   have d2:T.getD (i-1+1) []=T[i]:=by rw[show i-1+1=i by omega,Zt,ht2];rfl
   have ew2:IntKind.i64.wrap (q1.i 10+1)=((i+1:Nat):Int):=by rw[g1.i 10,ei,IntWalk.i64_in _ (by omega)];omega
   rw[hv];refine⟨fun hge=>r8 (b:=false) hR ⟨(by simp),fun hS=>?_⟩ rfl,fun hl=>⟨⟨i+1,ew2,by omega,by omega,fun k hk hkT=>?_⟩,?_⟩⟩
   .have:=hS (i-1) (by omega);rw[d1,d2]at this;omega
   .rcases aaa (k+1) i with h1 | h1
    .exact hlt k h1 hkT
    .obtain rfl:k=i-1:=by omega
     rw[d1,d2];omega
   .show((T.length:Int)-IntKind.i64.wrap (q1.i 10+1)).toNat<_;rw[ew2];omega
  .exact r8 (b:=true) hR ⟨fun _ k hk=>hlt k (by omega) hk,fun _=>rfl⟩ rfl
theorem Jv:(ny 103).OK Tryz.prog:=by
 refine Spec.bJ (Γ:=DV) Ir ?_;rintro xs Hs Rs hl1 hl2 ⟨u,R,T,rfl,rfl,hR,hT⟩;have e0:Hs=[]:=Za.1 hl1;subst e0;obtain⟨x,y,c,rfl,hy,hrows⟩:=id hR;refine⟨xt,bw [x,y,T.length,c] false [Hl.none,Hl.none,Hl.none,Hl.none,R],fun _ q=>∃ i:Nat,q.i 10=i/\i<=T.length/\∀ k,k<i->k+1<T.length->lex (T.getD k []) (T.getD (k+1) [])<0,fun _ q=>(T.length-q.i 10).toNat,?_,⟨?_,?_,?_,?_⟩,(fun _ h=>nomatch h),?_⟩
 .rw[ZD];show [Value.slice (aA x y) ((T.length:Int)).toNat ((c:Int)).toNat]=_;rw[Y7,Y7]
 .intro r hr ho;simp [xt]at hr;subst hr;cases ho
 .intro r hr ho;simp [xt]at hr;subst hr;exact⟨R,by simp,Hl.le_refl _⟩
 .simp [xt]
 .intro r hr;simp [xt]at hr;subst hr;trivial
 .show Nd.holds _ _ _ Bg;generalize hρ:bw [x,y,T.length,c] false [Hl.none,Hl.none,Hl.none,Hl.none,R]=ρ;have v0:ρ.i 0=x:=by rw[<-hρ];rfl
  have v1:ρ.i 1=y:=by rw[<-hρ];rfl
  have v2:ρ.i 2=T.length:=by rw[<-hρ];rfl
  have w4:ρ.h 4=R:=by rw[<-hρ];rfl
  clear hρ;unfold Bg;simp only[Nd.holds,X.pre,X.rel,X.n,Src.ok,Src.len,Src.bG,Zy,Zm,ZG,Zx,Zp,Nat.reduceAdd,Zd,Zh,bn,bj,aJ,aU,aR,bm,aZ,bh,bg,bd,aV,ba,bk,aX,aW,aK,aY,ai,aj,aB,aF,aD,ar,aG,aQ,aP,aq,aI,az,aH,av,TV.ev,SV.ev,CV.ev,Zf,Zr,bx.hl,cu,Cp.sv,Ck.cv,bf,Cp.len,Ck.len,aE,aN,aT,YT,X1,Sm];refine⟨⟨0,rfl,by omega,fun k h=>by omega⟩,fun q g ⟨i,ei,hi2,hlt⟩=>?_⟩;have hTl:=hT.1;rw[g.i 2,v2,ei,g.i 0,v0,g.i 1,v1,g.h 4,w4];have ew:IntKind.i64.wrap ((i:Int)+1)=((i+1:Nat):Int):=by rw[IntWalk.i64_in _ (by omega)];omega
  rw[ew];refine⟨by omega,fun h=>?_,fun h=>?_⟩
  .have hiT:i+1<T.length:=by omega
   rcases hrows with hn | ⟨hx,hc⟩
   .rw[aaz]at hn;rw[hn]at hiT;cases hiT
   have ht1:T[i]?=some (T[i]):=Y8 (by omega);have ht2:T[i+1]?=some (T[i+1]):=Y8 hiT;have m1:=hT.2 _ (Zb ht1);have m2:=hT.2 _ (Zb ht2);obtain⟨b1,r1⟩:=s9 (ρ:=q) (h:=4) (X:=.var 0) (Y:=(E.var 1).add ((E.var 10).mul (E.lit 16))) hx hy hc ht1 m1.1 (by rw[g.h 4,w4]) (by rw[aj,g.i 0,v0]) (by
    simp only[aB,aD,aj,ai];rw[g.i 1,v1,ei])
   obtain⟨b2,r2⟩:=s9 (ρ:=q) (h:=4) (X:=.var 0) (Y:=(E.var 1).add ((E.wrap IntKind.i64 ((E.var 10).add (E.lit 1))).mul (E.lit 16))) hx hy hc ht2 m2.1 (by rw[g.h 4,w4]) (by rw[aj,g.i 0,v0]) (by
    simp only[aB,aD,ar,aj,ai];rw[g.i 1,v1,ei,ew])
   rw[r1,r2];refine⟨hx,hy,by omega,by omega,b1,by omega,b2,⟨(PK m1.1 m2.1 m1.2 m2.2).1,trivial⟩,fun q1 g1 ⟨F,hp,_⟩=>?_⟩;have hv:=I7 hp;have hv:q1.b 12=decide (lex T[i] T[i+1]<0):=by simpa [cn] using hv
   have d1:T.getD i []=T[i]:=by rw[Zt,ht1];rfl
   have d2:T.getD (i+1) []=T[i+1]:=by rw[Zt,ht2];rfl
   have ew2:IntKind.i64.wrap (q1.i 10+1)=((i+1:Nat):Int):=by rw[g1.i 10,ei,ew]
   rw[hv,Zc];refine⟨fun hge=>r8 (b:=false) hR ⟨(by simp),fun hS=>?_⟩ rfl,fun hl=>⟨⟨i+1,ew2,by omega,fun k hk hkT=>?_⟩,?_⟩⟩
   .have:=hS i (by omega);rw[d1,d2]at this;exact absurd this hge
   .rcases aaa k i with h1 | h1
    .exact hlt k h1 hkT
    .obtain rfl:k=i:=by omega
     rw[d1,d2];exact hl
   .show((T.length:Int)-IntKind.i64.wrap (q1.i 10+1)).toNat<_;rw[ew2];omega
  .exact r8 (b:=true) hR ⟨fun _ k hk=>hlt k (by omega) hk,fun _=>rfl⟩ rfl
end Go.Proofs.YtomdimlnggpgbaaGreatDoor
namespace Go.Proofs.YtomdimlnggpgbaaGreatDoor
open Go Go.Sx Go.Pk
def i64:Ck:=.int .i64
def cX:List Ck:=[i64,.int .u64]++List.replicate 32 (.int .u8)++[i64,.bool,.int .u64]++List.replicate 16 (.int .u8)++[.sl]++List.replicate 6 (.int .u64)++List.replicate 32 (.int .u8)++[i64]++List.replicate 32 (.int .u8)
def dQ:List Kd:=cX.map jA
def cI (l:List Value) (k:Nat):Int:=cW l[k]?
def cB (l:List Value) (k:Nat):Bool:=yA l[k]?
def gz (z:Int):Prop:=z=64\/z=128\/z=256\/z=512\/z=1024\/z=2048
instance (z:Int):Decidable (gz z):=by unfold gz;exact inferInstance
def II (z:Int):Int:=if z<64 then 64 else if z<128 then 128 else if z<256 then 256 else if z<512 then 512 else if z<1024 then 1024 else if z<2048 then 2048 else 0
def ju (z:Int):Prop:= -9223372036854775808<=z/\z<9223372036854775808
def Tu (xs:List Value):Value:=.bool (decide (gz (cW xs[0]?)))
def Oq:Sx.Spec:=pQ 149 [.one i64] [.one .bool] (fun xs=>ju (cW xs[0]?)) Tu
def Pd (xs:List Value):Value:=.int .i64 (II (cW xs[0]?))
def GS:Sx.Spec:=pQ 104 [.one i64] [.one i64] (fun _=>True) Pd
def Mk:Nd:=(fun b c=>(fun a=>(.and (.imp (.lt a (.lit 0)) c) (.imp (.not (.lt a (.lit 0))) (.and (.imp (.lt a (.lit 64)) (.post [] (.sv (.one (.bool (.eq (.lit 64) b)))))) (.imp (.not (.lt a (.lit 64))) (.and (.imp (.lt a (.lit 128)) (.post [] (.sv (.one (.bool (.eq (.lit 128) b)))))) (.imp (.not (.lt a (.lit 128))) (.and (.imp (.lt a (.lit 256)) (.post [] (.sv (.one (.bool (.eq (.lit 256) b)))))) (.imp (.not (.lt a (.lit 256))) (.and (.imp (.lt a (.lit 512)) (.post [] (.sv (.one (.bool (.eq (.lit 512) b)))))) (.imp (.not (.lt a (.lit 512))) (.and (.imp (.lt a (.lit 1024)) (.post [] (.sv (.one (.bool (.eq (.lit 1024) b)))))) (.imp (.not (.lt a (.lit 1024))) (.and (.imp (.lt a (.lit 2048)) (.post [] (.sv (.one (.bool (.eq (.lit 2048) b)))))) (.imp (.not (.lt a (.lit 2048))) c))))))))))))):Nd)) (.wrap .i64 (.sub b (.lit 1)))) (.var 0) (.post [] (.sv (.one (.bool .ff))))
def VK:bU Tryz.prog [] 149 where
 Λ:=aM
 args:=(bf 0 [.one i64]).map .sv
 mem:=[]
 nv:=1
 nd:=Mk
 ok:=by kernel_rfl
def Eu:Nd:=(fun a b=>(.ext (.alloc 1) (.and (.imp (.lt a (.lit 64)) (.post b (.sv (.one (.int .i64 (.lit 64)))))) (.imp (.not (.lt a (.lit 64))) (.and (.imp (.lt a (.lit 128)) (.post b (.sv (.one (.int .i64 (.lit 128)))))) (.imp (.not (.lt a (.lit 128))) (.and (.imp (.lt a (.lit 256)) (.post b (.sv (.one (.int .i64 (.lit 256)))))) (.imp (.not (.lt a (.lit 256))) (.and (.imp (.lt a (.lit 512)) (.post b (.sv (.one (.int .i64 (.lit 512)))))) (.imp (.not (.lt a (.lit 512))) (.and (.imp (.lt a (.lit 1024)) (.post b (.sv (.one (.int .i64 (.lit 1024)))))) (.imp (.not (.lt a (.lit 1024))) (.and (.imp (.lt a (.lit 2048)) (.post b (.sv (.one (.int .i64 (.lit 2048)))))) (.imp (.not (.lt a (.lit 2048))) (.post b (.sv (.one (.int .i64 (.lit 0))))))))))))))))):Nd)) (.var 0) [.dead]
def SC:bU Tryz.prog [] 104 where
 Λ:=aM
 args:=(bf 0 [.one i64]).map .sv
 mem:=[]
 nv:=1
 nd:=Eu
 ok:=by kernel_rfl
theorem Ka {z:Int} (h:ju z):IntKind.i64.wrap (z-1)=z-1\/IntKind.i64.wrap (z-1)=9223372036854775807/\z= -9223372036854775808:=by
 unfold ju at h;by_cases h1:z= -9223372036854775808
 .right;subst h1;exact⟨by decide,rfl⟩
 .left;exact IntWalk.i64_in _ (by omega)
theorem tu {b:Bool} {p:Prop} {_:Decidable p} (h:b=true↔p):Value.bool b=.bool (decide p):=by
 congr 1
 rw[aaW,Zc];exact h
theorem Ot:Oq.OK Tryz.prog:=by
 refine jE (Γ:=[]) (fun t ht=>by cases ht) VK rfl rfl rfl (fun q _ _=>nf _) (fun q hq hN=>⟨fun _ _=>True,fun _ _=>0,?_⟩);have hN:ju (q.i 0):=hN;have eG:Tu (sE [.one i64] q)=.bool (decide (gz (q.i 0))):=rfl;simp only[eG];show Nd.holds _ _ _ Mk;unfold Mk;simp only[Nd.holds,X.pre,X.rel,X.n,Src.ok,Src.len,Src.bG,Zy,Zm,ZG,Zx,Zp,Nat.reduceAdd,Zd,Zh,bn,bj,aJ,aU,aR,bm,aZ,bh,bg,bd,aV,ba,bk,aX,aW,aK,aY,ai,aj,aB,aF,aD,ar,aG,aQ,aP,aq,aI,az,aH,av,TV.ev,SV.ev,CV.ev,Zf,Zr,bx.hl,cu,Cp.sv,Ck.cv,bf,Cp.len,Ck.len,aE,aN,aT,c8,dq];have hw:=Ka hN;generalize IntKind.i64.wrap (q.i 0-1)=y at hw ⊢;have lf:∀ {m:Int},(m=q.i 0↔gz (q.i 0))->Value.bool (bN q (.eq (.lit m) (.var 0)))=.bool (decide (gz (q.i 0))):=fun {m} h=>tu (by rw[bd,ai,aj];exact h);have ff:¬gz (q.i 0)->Value.bool false=.bool (decide (gz (q.i 0))):=fun h=>tu ⟨fun e=>(by cases e),fun e=>absurd e h⟩;unfold gz at lf ff ⊢;exact⟨fun h=>ff (by omega),fun h0=>⟨fun h=>lf (by omega),fun h1=>⟨fun h=>lf (by omega),fun h2=>⟨fun h=>lf (by omega),fun h3=>⟨fun h=>lf (by omega),fun h4=>⟨fun h=>lf (by omega),fun h5=>⟨fun h=>lf (by omega),fun h6=>ff (by omega)⟩⟩⟩⟩⟩⟩⟩
theorem KF:GS.OK Tryz.prog:=by
 refine jE (Γ:=[]) (fun t ht=>by cases ht) SC rfl rfl rfl (fun q _ _=>sZ _) (fun q hq hN=>⟨fun _ _=>True,fun _ _=>0,?_⟩);have eG:Pd (sE [.one i64] q)=.int .i64 (II (q.i 0)):=rfl;simp only[eG];show Nd.holds _ _ _ Eu;unfold Eu;simp only[Nd.holds,X.pre,X.rel,X.n,Src.ok,Src.len,Src.bG,Zy,Zm,ZG,Zx,Zp,Nat.reduceAdd,Zd,Zh,bn,bj,aJ,aU,aR,bm,aZ,bh,bg,bd,aV,ba,bk,aX,aW,aK,aY,ai,aj,aB,aF,aD,ar,aG,aQ,aP,aq,aI,az,aH,av,TV.ev,SV.ev,CV.ev,Zf,Zr,bx.hl,cu,Cp.sv,Ck.cv,bf,Cp.len,Ck.len,aE,aN,aT];intro q1 g1 _;rw[g1.i 0];unfold II;exact⟨fun h=>by rw[ZA h],fun h0=>⟨fun h=>by rw[Zo h0,ZA h],fun h1=>⟨fun h=>by rw[Zo h0,Zo h1,ZA h],fun h2=>⟨fun h=>by rw[Zo h0,Zo h1,Zo h2,ZA h],fun h3=>⟨fun h=>by rw[Zo h0,Zo h1,Zo h2,Zo h3,ZA h],fun h4=>⟨fun h=>by rw[Zo h0,Zo h1,Zo h2,Zo h3,Zo h4,ZA h],fun h5=>by rw[Zo h0,Zo h1,Zo h2,Zo h3,Zo h4,Zo h5]⟩⟩⟩⟩⟩⟩
def uy (f:Nat->Int):Nat->Nat->Prop
 | _,0=>True
 | n,1=>f n=0
 | n,k+2=>f n=0/\uy f (n+1) (k+1)
theorem BR {f:Nat->Int} : ∀ (k n:Nat),uy f n k↔∀ j,j<k->f (n+j)=0
 | 0,n=>⟨fun _ j h=>(by omega),fun _=>trivial⟩
 | 1,n=>⟨fun h j hj=>(by cases j with
  | zero=>exact h
  | succ j=>omega),fun h=>h 0 (by omega)⟩
 | k+2,n=>by
  show(f n=0/\uy f (n+1) (k+1))↔_;rw[BR (k+1) (n+1)];constructor
  .rintro⟨h0,h⟩ j hj;cases j with
   | zero=>exact h0
   | succ j=>have:=h j (by omega);rwa[show n+1+j=n+(j+1)by omega]at this
  .exact fun h=>⟨h 0 (by omega),fun j hj=>by have:=h (j+1) (by omega);rwa[show n+(j+1)=n+1+j by omega]at this⟩
instance zerDec (f:Nat->Int):∀ (k n:Nat),Decidable (uy f n k)
 | 0,_=>isTrue trivial
 | 1,n=>(inferInstance:Decidable (f n=0))
 | k+2,n=>have:=zerDec f (k+1) (n+1);(inferInstance:Decidable (f n=0/\uy f (n+1) (k+1)))
def dV (l:List Value):Prop:=(1<=cI l 0/\cI l 0<=6)/\(1<=cI l 1/\cI l 1<=1048576)/\(0<=cI l 34/\cI l 34<=255)/\cI l 36<=1099511627776/\cI l (54+(cI l 0-1).toNat)=cI l 1-1/\(cI l 54<=1048576/\cI l 55<=1048576/\cI l 56<=1048576/\cI l 57<=1048576/\cI l 58<=1048576/\cI l 59<=1048576)/\(1<cI l 1\/uy (cI l) 2 32)
instance (l:List Value):Decidable (dV l):=by unfold dV;exact inferInstance
def Wm (v:Value):List Value:=match v with
 | .agg a=>a.toList
 | _=>[]
def HY (xs:List Value):Value:=.bool (decide (dV (Wm (xs.getD 0 (.bool false)))))
def uP:Sx.Spec:=pQ 147 [.agg cX] [.one .bool] (fun _=>True) HY
def xk:Nd:=(fun a h c j g f i k=>(fun d=>(fun b=>(.ext (.alloc 128) (.and (.imp (.lt j g) a) (.imp (.not (.lt j g)) (.and (.imp (.lt (.lit 6) j) a) (.imp (.not (.lt (.lit 6) j)) (.and (.imp (.lt h g) a) (.imp (.not (.lt h g)) (.and (.imp (.lt f h) a) (.imp (.not (.lt f h)) (.and (.imp (.lt (.var 34) c) a) (.imp (.not (.lt (.var 34) c)) (.and (.imp k a) (.imp (.not k) (.and (.imp i a) (.imp (.not i) (.and (.e (.le c d)) (.and (.e (.lt d (.lit 6))) (.and (.imp (.not b) a) (.imp b (.and (.imp (.lt f (.var 57)) a) (.imp (.not (.lt f (.var 57))) (.and (.imp (.lt f (.var 58)) a) (.imp (.not (.lt f (.var 58))) (.and (.imp (.lt f (.var 59)) a) (.imp (.not (.lt f (.var 59))) (.and (.imp (.lt f (.var 60)) a) (.imp (.not (.lt f (.var 60))) (.and (.imp (.lt f (.var 61)) a) (.imp (.not (.lt f (.var 61))) (.and (.imp (.lt f (.var 62)) a) (.imp (.not (.lt f (.var 62))) (.and (.imp (.not (.lt g h)) (.post [.dead] (.sv (.one (.bool (.and (.eq (.var 2) c) (.and (.eq (.var 3) c) (.and (.eq (.var 4) c) (.and (.eq (.var 5) c) (.and (.eq (.var 6) c) (.and (.eq (.var 7) c) (.and (.eq (.var 8) c) (.and (.eq (.var 9) c) (.and (.eq (.var 10) c) (.and (.eq (.var 11) c) (.and (.eq (.var 12) c) (.and (.eq (.var 13) c) (.and (.eq (.var 14) c) (.and (.eq (.var 15) c) (.and (.eq (.var 16) c) (.and (.eq (.var 17) c) (.and (.eq (.var 18) c) (.and (.eq (.var 19) c) (.and (.eq (.var 20) c) (.and (.eq (.var 21) c) (.and (.eq (.var 22) c) (.and (.eq (.var 23) c) (.and (.eq (.var 24) c) (.and (.eq (.var 25) c) (.and (.eq (.var 26) c) (.and (.eq (.var 27) c) (.and (.eq (.var 28) c) (.and (.eq (.var 29) c) (.and (.eq (.var 30) c) (.and (.eq (.var 31) c) (.and (.eq (.var 32) c) (.eq (.var 33) c))))))))))))))))))))))))))))))))))))) (.imp (.lt g h) (.post [.dead] (.sv (.one (.bool .tt)))))))))))))))))))))))))))))))))))):Nd)) (.eq (.ite (.eq d c) (.var 57) (.ite (.eq d g) (.var 58) (.ite (.eq d (.lit 2)) (.var 59) (.ite (.eq d (.lit 3)) (.var 60) (.ite (.eq d (.lit 4)) (.var 61) (.var 62)))))) (.wrap .u64 (.sub h g)))) (.wrap .i64 (.sub j g))) (.post [.dead] (.sv (.one (.bool .ff)))) (.var 1) (.lit 0) (.var 0) (.lit 1) (.lit 1048576) (.lt (.lit 1099511627776) (.var 36)) (.lt (.lit 255) (.var 34))
def Ov:bU Tryz.prog [] 147 where
 Λ:=aM
 args:=(bf 0 [.agg cX]).map .sv
 mem:=[]
 nv:=128
 nd:=xk
 ok:=by kernel_rfl
def aL (q:Env) (n:Nat):List Value:=(al n cX).map (CV.ev q)
theorem CM (q:Env) (h:1<=q.i 0/\q.i 0<=6):cI (aL q 0) (54+(q.i 0-1).toNat)=if q.i 0-1=0 then q.i 57 else if q.i 0-1=1 then q.i 58 else if q.i 0-1=2 then q.i 59 else if q.i 0-1=3 then q.i 60 else if q.i 0-1=4 then q.i 61 else q.i 62:=by
 have:q.i 0=1\/q.i 0=2\/q.i 0=3\/q.i 0=4\/q.i 0=5\/q.i 0=6:=by omega
 rcases this with e | e | e | e | e | e<;>rw[e]<;>rfl
theorem cZ {q q1:Env} (g:ah 128 q q1):aL q1 0=aL q 0:=by
 have h:=fQ (n:=0) (ks:=cX) g (abB (by kernel_rfl));exact ZL (Value.agg.inj h)
theorem FM:uP.OK Tryz.prog:=by
 refine jE (Γ:=[]) (fun t ht=>by cases ht) Ov rfl rfl rfl (fun q _ _=>nf _) (fun q hq hN=>⟨fun _ _=>True,fun _ _=>0,?_⟩);have eG:HY (sE [.agg cX] q)=.bool (decide (dV (aL q 0))):=rfl;simp only[eG];show Nd.holds _ _ _ xk;unfold xk;simp only[Nd.holds,X.pre,X.rel,X.n,Src.ok,Src.len,Src.bG,Zy,Zm,ZG,Zx,Zp,Nat.reduceAdd,Zd,Zh,bn,bj,aJ,aU,aR,bm,aZ,bh,bg,bd,aV,ba,bk,aX,aW,aK,aY,ai,aj,aB,aF,aD,ar,aG,aQ,aP,aq,aI,az,aH,av,TV.ev,SV.ev,CV.ev,Zf,Zr,bx.hl,cu,Cp.sv,Ck.cv,bf,Cp.len,Ck.len,aE,aN,aT,c8,dq];intro q1 g1 _;rw[<-cZ g1];clear g1;have eP:dV (aL q1 0)↔((1<=q1.i 0/\q1.i 0<=6)/\(1<=q1.i 1/\q1.i 1<=1048576)/\(0<=q1.i 34/\q1.i 34<=255)/\q1.i 36<=1099511627776/\cI (aL q1 0) (54+(q1.i 0-1).toNat)=q1.i 1-1/\(q1.i 57<=1048576/\q1.i 58<=1048576/\q1.i 59<=1048576/\q1.i 60<=1048576/\q1.i 61<=1048576/\q1.i 62<=1048576)/\(1<q1.i 1\/uy (cI (aL q1 0)) 2 32)):=abX;have eK:=CM q1;have eZ:bN q1 (.and (.eq (.var 2) (.lit 0)) (.and (.eq (.var 3) (.lit 0)) (.and (.eq (.var 4) (.lit 0)) (.and (.eq (.var 5) (.lit 0)) (.and (.eq (.var 6) (.lit 0)) (.and (.eq (.var 7) (.lit 0)) (.and (.eq (.var 8) (.lit 0)) (.and (.eq (.var 9) (.lit 0)) (.and (.eq (.var 10) (.lit 0)) (.and (.eq (.var 11) (.lit 0)) (.and (.eq (.var 12) (.lit 0)) (.and (.eq (.var 13) (.lit 0)) (.and (.eq (.var 14) (.lit 0)) (.and (.eq (.var 15) (.lit 0)) (.and (.eq (.var 16) (.lit 0)) (.and (.eq (.var 17) (.lit 0)) (.and (.eq (.var 18) (.lit 0)) (.and (.eq (.var 19) (.lit 0)) (.and (.eq (.var 20) (.lit 0)) (.and (.eq (.var 21) (.lit 0)) (.and (.eq (.var 22) (.lit 0)) (.and (.eq (.var 23) (.lit 0)) (.and (.eq (.var 24) (.lit 0)) (.and (.eq (.var 25) (.lit 0)) (.and (.eq (.var 26) (.lit 0)) (.and (.eq (.var 27) (.lit 0)) (.and (.eq (.var 28) (.lit 0)) (.and (.eq (.var 29) (.lit 0)) (.and (.eq (.var 30) (.lit 0)) (.and (.eq (.var 31) (.lit 0)) (.and (.eq (.var 32) (.lit 0)) (.eq (.var 33) (.lit 0)))))))))))))))))))))))))))))))))=true↔uy (cI (aL q1 0)) 2 32:=by
  simp only[aR,bd,aj,ai];exact abX
 have ff:¬dV (aL q1 0)->Value.bool false=.bool (decide (dV (aL q1 0))):=fun h=>tu ⟨fun e=>(by cases e),fun e=>absurd e h⟩;have tt:dV (aL q1 0)->Value.bool true=.bool (decide (dV (aL q1 0))):=fun h=>tu ⟨fun _=>h,fun _=>rfl⟩;have zz:(uy (cI (aL q1 0)) 2 32↔dV (aL q1 0))->Value.bool (bN q1 (.and (.eq (.var 2) (.lit 0)) (.and (.eq (.var 3) (.lit 0)) (.and (.eq (.var 4) (.lit 0)) (.and (.eq (.var 5) (.lit 0)) (.and (.eq (.var 6) (.lit 0)) (.and (.eq (.var 7) (.lit 0)) (.and (.eq (.var 8) (.lit 0)) (.and (.eq (.var 9) (.lit 0)) (.and (.eq (.var 10) (.lit 0)) (.and (.eq (.var 11) (.lit 0)) (.and (.eq (.var 12) (.lit 0)) (.and (.eq (.var 13) (.lit 0)) (.and (.eq (.var 14) (.lit 0)) (.and (.eq (.var 15) (.lit 0)) (.and (.eq (.var 16) (.lit 0)) (.and (.eq (.var 17) (.lit 0)) (.and (.eq (.var 18) (.lit 0)) (.and (.eq (.var 19) (.lit 0)) (.and (.eq (.var 20) (.lit 0)) (.and (.eq (.var 21) (.lit 0)) (.and (.eq (.var 22) (.lit 0)) (.and (.eq (.var 23) (.lit 0)) (.and (.eq (.var 24) (.lit 0)) (.and (.eq (.var 25) (.lit 0)) (.and (.eq (.var 26) (.lit 0)) (.and (.eq (.var 27) (.lit 0)) (.and (.eq (.var 28) (.lit 0)) (.and (.eq (.var 29) (.lit 0)) (.and (.eq (.var 30) (.lit 0)) (.and (.eq (.var 31) (.lit 0)) (.and (.eq (.var 32) (.lit 0)) (.eq (.var 33) (.lit 0))))))))))))))))))))))))))))))))))=.bool (decide (dV (aL q1 0))):=fun h=>tu (eZ.trans h);generalize Value.bool (decide (dV (aL q1 0)))=V at ff tt zz ⊢;rw[eP]at ff tt zz;clear eP eZ;refine⟨fun h=>ff (by omega),fun h0=>⟨fun h=>ff (by omega),fun h1=>?_⟩⟩;have eK:=eK (by omega);have w0:IntKind.i64.wrap (q1.i 0-1)=q1.i 0-1:=IntWalk.i64_in _ (by omega);rw[w0];rw[<-eK];generalize cI (aL q1 0) (54+(q1.i 0-1).toNat)=K at ff tt zz ⊢;generalize uy (cI (aL q1 0)) 2 32=Z at ff tt zz;refine⟨fun h=>ff (by omega),fun h2=>⟨fun h=>ff (by omega),fun h3=>?_⟩⟩;have w1:IntKind.u64.wrap (q1.i 1-1)=q1.i 1-1:=nD (by omega) (by omega);rw[w1];refine⟨fun h=>ff (by omega),fun h4=>⟨fun h=>ff (by omega),fun h5=>⟨fun h=>ff (by omega),fun h6=>⟨by omega,by omega,fun h=>ff (by omega),fun h7=>?_⟩⟩⟩⟩;refine⟨fun h=>ff (by omega),fun k0=>⟨fun h=>ff (by omega),fun k1=>⟨fun h=>ff (by omega),fun k2=>⟨fun h=>ff (by omega),fun k3=>⟨fun h=>ff (by omega),fun k4=>⟨fun h=>ff (by omega),fun k5=>⟨fun h=>zz ⟨fun z=>?_,fun z=>?_⟩,fun h=>tt ?_⟩⟩⟩⟩⟩⟩⟩
 .exact⟨by omega,by omega,by omega,by omega,h7,by omega,Or.inr z⟩
 .rcases z.2.2.2.2.2.2 with z | z
  .omega
  .exact z
 .exact⟨by omega,by omega,by omega,by omega,h7,by omega,Or.inl h⟩
def JD:Value->Prop
 | .int .u8 z=>0<=z/\z<256
 | .int .u64 z=>0<=z/\z<18446744073709551616
 | .int .i64 z=>ju z
 | _=>True
structure Hd where
 c:List Value
 t:List (List Int)
def Hd.Form (h:Hd):Prop:=dV h.c/\h.t.length<=8/\kv h.t/\gz (cI h.c 92-16)/\(cB h.c 35=true->h.t=[]/\uy (cI h.c) 37 16)
structure cN (R:Hl) (row:List Value) (h:Hd):Prop where
 ok:bS row dQ
 rng:∀ v∈row,JD v
 core:h.c=row.set 53 (.bool false)
 tok:bO R (row.getD 53 (.bool false)) oG (h.t.map bK)
 byte:BI h.t
theorem oj {R R':Hl} {v:Value} {ks:List Kd} {rows:List (List Value)} (h:bO R v ks rows) (hl:R.le R'):bO R' v ks rows:=by
 obtain⟨x,y,c,e,hy,h⟩:=h;refine⟨x,y,c,e,hy,h.imp id fun⟨hx,h⟩=>⟨hx,fun i row hr=>⟨(h i row hr).1,fun j u hu=>?_⟩⟩⟩;have hc:=(h i row hr).2 j u hu;unfold Hl.cell at hc ⊢;cases hR:R x.toNat with
 | none=>rw[hR]at hc;cases hc
 | some o=>rw[hl _ _ hR];rw[hR]at hc;exact hc
theorem cN.mono {R R':Hl} {row:List Value} {h:Hd} (x:cN R row h) (hl:R.le R'):cN R' row h:=⟨x.ok,x.rng,x.core,oj x.tok hl,x.byte⟩
theorem iH:∀ {a b:List (List Int)},a.map bK=b.map bK->a=b
 | [],[],_=>rfl
 | [],_::_,h=>by cases h
 | _::_,[],h=>by cases h
 | u::a,v::b,h=>by
  simp only[Zf,Ze]at h;rw[jy h.1,iH h.2]
theorem cN.uniq {R:Hl} {row:List Value} {h h':Hd} (x:cN R row h) (y:cN R row h'):h=h':=by
 obtain⟨c,t⟩:=h;obtain⟨c',t'⟩:=h';have e1:c=c':=x.core.trans y.core.symm;have e3:t=t':=iH (x.tok.uniq y.tok);rw[e1,e3]
theorem Qs {row:List Value} {k:Nat} (h:k≠53):cI (row.set 53 (.bool false)) k=cI row k:=by
 unfold cI;rw[aab (by omega)]
theorem Qr {row:List Value} {k:Nat} (h:k≠53):cB (row.set 53 (.bool false)) k=cB row k:=by
 unfold cB;rw[aab (by omega)]
theorem cN.I {R:Hl} {row:List Value} {h:Hd} (x:cN R row h) {k:Nat} (hk:k≠53):cI h.c k=cI row k:=by rw[x.core,Qs hk]
theorem cN.B {R:Hl} {row:List Value} {h:Hd} (x:cN R row h) {k:Nat} (hk:k≠53):cB h.c k=cB row k:=by rw[x.core,Qr hk]
theorem zW {f g:Nat->Int} {n k:Nat} (h:∀ j,j<k->f (n+j)=g (n+j)):uy f n k↔uy g n k:=by
 rw[BR,BR];exact⟨fun hf j hj=>by rw[<-h j hj];exact hf j hj,fun hg j hj=>by rw[h j hj];exact hg j hj⟩
theorem cN.form {R:Hl} {row:List Value} {h:Hd} (x:cN R row h):h.Form↔(dV row/\h.t.length<=8/\kv h.t/\gz (cI row 92-16)/\(cB row 35=true->h.t=[]/\uy (cI row) 37 16)):=by
 have e1:dV h.c↔dV row:=by
  unfold dV;have hz:uy (cI h.c) 2 32↔uy (cI row) 2 32:=zW fun j hj=>x.I (by omega);have hk:cI h.c (54+(cI row 0-1).toNat)=cI row (54+(cI row 0-1).toNat):=x.I (by omega);rw[x.I (k:=0) (by decide),x.I (k:=1) (by decide),x.I (k:=34) (by decide),x.I (k:=36) (by decide),x.I (k:=54) (by decide),x.I (k:=55) (by decide),x.I (k:=56) (by decide),x.I (k:=57) (by decide),x.I (k:=58) (by decide),x.I (k:=59) (by decide),hz,hk]
 have e2:uy (cI h.c) 37 16↔uy (cI row) 37 16:=zW fun j hj=>x.I (by omega);unfold Hd.Form;rw[e1,e2,x.I (k:=92) (by decide),x.B (k:=35) (by decide)]
theorem kE {R:Hl} {row:List Value} (h:bS row dQ):∃ q:Env,row=aL q 0/\q.h 130=R/\ck 0 cX q/\0<=q.i 54/\0<=q.i 55/\0<=q.i 56:=by
 obtain⟨q,_,hn,e⟩:=dI cX 0 row ⟨fun _=>0,fun _=>false,fun _=>.empty,fun _=>.tuple #[],fun _=>Hl.none⟩ h;have hs:∀ (a b:List Ck) (n:Nat),ck n (a++b) q->ck (n+bR a) b q:=by
  intro a
  induction a with
  | nil=>intro b n h;simpa [bR] using h
  | cons k a ih =>
   intro b n h;have:=ih b (n+k.len) h.2;rw[show n+k.len+bR a=n+bR (k::a)by simp [bR];omega]at this;exact this
 have hn0:=hn;have hn:ck 0 (cX.take 53++(.sl::cX.drop 54)) q:=hn;have hs:=(hs (cX.take 53) (.sl::cX.drop 54) 0 hn).1;exact⟨⟨q.i,q.b,q.s,q.v,fun k=>if k=130 then R else Hl.none⟩,e.symm,rfl,hn0,hs.2.1,hs.2.2.1,hs.2.2.2⟩
open Classical in
noncomputable def fR (f:FuncId):Sx.Spec where
 fn:=f
 own:=[]
 rd:=[10053]
 res:=[.one .bool]
 pre:=fun xs Hs Rs=>∃ row R h,xs=[.agg row.toArray]/\Rs=[R]/\cN R row h
 post:=fun xs Hs Rs v Hs' F=>∃ row R h,xs=[.agg row.toArray]/\Rs=[R]/\cN R row h/\v=.bool (decide h.Form)
noncomputable def vY:List Sx.Spec:=[ny 148,ny 103,Oq,GS,uP]
theorem Hp:∀ t∈vY,t.OK Tryz.prog:=fun t ht=>by
 simp only[vY,Zl,Zq,ZO]at ht;rcases ht with rfl | rfl | rfl | rfl | rfl
 .exact yU
 .exact Jv
 .exact Ot
 .exact KF
 .exact FM
theorem U4:vY[0]?=some (ny 148):=rfl
theorem U5:vY[1]?=some (ny 103):=rfl
theorem Ys:vY[2]?=some Oq:=rfl
theorem Yt:vY[3]?=some GS:=rfl
theorem Yu:vY[4]?=some uP:=rfl
theorem SX (f:FuncId):(ny f).res=[.one .bool]:=rfl
theorem Yv:Oq.res=[.one .bool]:=rfl
theorem Yw:GS.res=[.one (.int .i64)]:=rfl
theorem Yx:uP.res=[.one .bool]:=rfl
def Au:Nd:=(fun f b h d g=>(fun a c=>(.ext (.alloc 131) (.and (.pre g) (.ext g (.and (.imp (.bvar 132) (.and (.e (.le b h)) (.and (.imp (.not (.lt (.lit 8) h)) (.and (.pre c) (.ext c (.and (.imp (.bvar 133) (.and (.pre d) (.ext d (.and (.imp (.not (.bvar 134)) a) (.imp (.bvar 134) (.and (.imp (.bvar 35) (.and (.imp (.eq h b) (.post f (.sv (.one (.bool (.and (.eq (.var 37) b) (.and (.eq (.var 38) b) (.and (.eq (.var 39) b) (.and (.eq (.var 40) b) (.and (.eq (.var 41) b) (.and (.eq (.var 42) b) (.and (.eq (.var 43) b) (.and (.eq (.var 44) b) (.and (.eq (.var 45) b) (.and (.eq (.var 46) b) (.and (.eq (.var 47) b) (.and (.eq (.var 48) b) (.and (.eq (.var 49) b) (.and (.eq (.var 50) b) (.and (.eq (.var 51) b) (.eq (.var 52) b))))))))))))))))))))) (.imp (.not (.eq h b)) a))) (.imp (.not (.bvar 35)) (.post f (.sv (.one (.bool .tt))))))))))) (.imp (.not (.bvar 133)) a))))) (.imp (.lt (.lit 8) h) a)))) (.imp (.not (.bvar 132)) a)))):Nd)) (.post f (.sv (.one (.bool .ff)))) (.call 0 133 [.sv (.one (.sl (.var 53) (.var 54) h (.var 56)))] [] [.ro 130 [.var 53] false])) [.ro 130 [.var 53] false,.dead] (.lit 0) (.var 55) (.call 2 134 [.sv (.one (.int .i64 (.wrap .i64 (.sub (.var 95) (.lit 16)))))] [] []) (.call 4 132 [.sv (.agg (al 0 cX))] [] [])
noncomputable def vF:bU Tryz.prog vY 117 where
 Λ:=aM
 args:=(bf 0 [.agg cX]).map .sv
 mem:=[.ro 130 [.var 53] false]
 nv:=131
 nd:=Au
 ok:=by kernel_rfl
theorem qH:0+bR cX<=128:=abB (by kernel_rfl)
theorem Bk {R:Hl} {p:Option Addr} {n c:Nat} {ks:List Kd} {T:List (List Int)} (h:bO R (.slice p n c) ks (T.map bK)):n=T.length:=by
 obtain⟨x,y,c',e,_⟩:=h;simp only[Value.slice.injEq,ZD]at e;exact e.2.1
theorem O9 (z:Int):ju (IntKind.i64.wrap z):=by
 unfold ju;rw[IntKind.wrap_i64];omega
theorem Mm {z:Int} (h:ju z):gz (IntKind.i64.wrap (z-16))↔gz (z-16):=by
 unfold ju at h;unfold gz;rw[IntKind.wrap_i64];omega
theorem wx {z:Int} (h:gz (z-16)):80<=z/\z<=2064:=by
 unfold gz at h;omega
theorem KG {z:Int} (h1:80<=z) (h2:z<=2064):II (IntKind.i64.wrap (z-17))=IntKind.i64.wrap (z-16)↔gz (z-16):=by
 rw[IntWalk.i64_in (z-17) (by omega),IntWalk.i64_in (z-16) (by omega)];unfold II gz
 repeat' split
 all_goals omega
theorem uZ (P:Prop):∃ z:Int,P↔z=1:=by
 by_cases h:P
 .exact⟨1,fun _=>rfl,fun _=>h⟩
 .exact⟨0,fun x=>absurd x h,fun x=>absurd x (by decide)⟩
open Classical in
theorem lO {f:FuncId} {row:List Value} {R:Hl} {h:Hd} (hx:cN R row h) {q:Env} {e:E} (hb:bN q e=true↔h.Form) {mem:Mem} : postOf (fR f) [.agg row.toArray] [] [R] q mem (.sv (.one (.bool e))):=by
 intro _;exact⟨[],[],rfl,rfl,⟨⟨fun _=>0,fun _=>bN q e,fun _=>.empty,fun _=>.tuple #[],fun _=>Hl.none⟩,rfl,trivial,trivial⟩,_,R,h,rfl,rfl,hx,tu hb⟩
open Classical in
theorem zJ {f:FuncId} {u v:Value} {R:Hl} {T:List (List Int)} {Hs K:List Hl} {F:Hl} (h:bO R u oG (T.map bK)) (hp:(ny f).post [u] Hs [R] v K F):v=.bool (decide (kv T)):=by
 obtain⟨u',R',T',e1,e2,hR,hv⟩:=hp;simp only[Ze,Zm]at e1 e2;subst e1 e2;rw[iH (h.uniq hR)];exact hv
open Classical in
theorem oQ:(fR 117).OK Tryz.prog:=by
 refine Spec.bJ (Γ:=vY) Hp ?_;rintro xs Hs Rs hl1 hl2 ⟨row,R,h,rfl,rfl,hx⟩;have e0:Hs=[]:=Za.1 hl1;subst e0;obtain⟨ρ,rfl,w130,hnw,n54,n55,n56⟩:=kE (R:=R) hx.ok;refine⟨vF,ρ,fun _ _=>True,fun _ _=>0,?_,⟨?_,?_,?_,?_⟩,(fun _ h=>nomatch h),?_⟩
 .rfl
 .intro r hr ho;simp [vF]at hr;subst hr;cases ho
 .intro r hr ho;simp [vF]at hr;subst hr;exact⟨R,by simp,by show(ρ.h 130).le R;rw[w130];exact Hl.le_refl _⟩
 .simp [vF]
 .intro r hr;simp [vF]at hr;subst hr;trivial
 .show Nd.holds _ _ _ Au;unfold Au;simp only[Nd.holds,X.pre,X.rel,X.n,Src.ok,Src.len,Src.bG,Zy,Zm,ZG,Zx,Zp,Nat.reduceAdd,Zd,Zh,bn,bj,aJ,aU,aR,bm,aZ,bh,bg,bd,aV,ba,bk,aX,aW,aK,aY,ai,aj,aB,aF,aD,ar,aG,aQ,aP,aq,aI,az,aH,av,TV.ev,SV.ev,CV.ev,Zf,Zr,bx.hl,cu,Cp.sv,Ck.cv,bf,Cp.len,Ck.len,aE,aN,aT,U4,SX,Ys,Yv,Yu,Yx,Sm];have hF:=hx.form;have hT:=hx.tok;have hT:bO R (.slice (aA (ρ.i 53) (ρ.i 54)) (ρ.i 55).toNat (ρ.i 56).toNat) oG (h.t.map bK):=hT;have hlen:(ρ.i 55).toNat=h.t.length:=Bk hT;have h92:cI (aL ρ 0) 92=ρ.i 95:=rfl;have h35:cB (aL ρ 0) 35=ρ.b 35:=rfl;have h92in:ju (ρ.i 95):=hx.rng (.int .i64 (ρ.i 95)) (Zb (i:=92) rfl);rw[h92,h35]at hF;intro q1 g1 _;have S7:aL q1 0=aL ρ 0:=cZ g1.mono;refine⟨⟨⟨q1,⟨jP g1.mono cX 0 qH hnw,trivial⟩,rfl⟩,trivial⟩,fun q2 g2 ⟨F2,hp2,_⟩=>?_⟩;have hp2:Value.bool (q2.b 132)=.bool (decide (dV (aL q1 0))):=hp2;rw[S7]at hp2;simp only[Value.bool.injEq]at hp2;rw[hp2,Zc];have G2:ah 131 ρ q2:=g1.tr g2;rw[G2.i 55,G2.i 53,G2.i 54,G2.i 56,G2.h 130,w130];have ff:∀ {q:Env} {mem:Mem},¬h.Form->postOf (fR 117) [.agg (aL ρ 0).toArray] [] [R] q mem (.sv (.one (.bool .ff))):=fun hf=>lO hx ⟨fun e=>(by rw[dq]at e;cases e),fun e=>absurd e hf⟩;refine⟨fun hpl=>⟨n55,fun h8=>⟨⟨_,R,h.t,rfl,rfl,hT,hx.byte⟩,fun q3 g3 ⟨F3,hp3,_⟩=>?_⟩,fun h8=>ff fun hf=>?_⟩,fun hpl=>ff fun hf=>hpl (hF.1 hf).1⟩
  .have hs:=zJ hT hp3;have hs:q3.b 133=decide (kv h.t):=by simpa [cn] using hs
   rw[hs,Zc];have G3:ah 131 ρ q3:=G2.tr g3;rw[G3.i 95];refine⟨fun hso=>⟨⟨⟨bw [IntKind.i64.wrap (ρ.i 95-16)] false [],⟨trivial,trivial⟩,rfl⟩,O9 _⟩,fun q4 g4 ⟨F4,hp4,_⟩=>?_⟩,fun hso=>ff fun hf=>hso (hF.1 hf).2.2.1⟩;have hp4:Value.bool (q4.b 134)=.bool (decide (gz (IntKind.i64.wrap (ρ.i 95-16)))):=hp4;simp only[Value.bool.injEq]at hp4;rw[hp4,Zc,Mm h92in];have G4:ah 131 ρ q4:=G3.tr g4;rw[G4.b 35,G4.i 55];refine⟨fun hpd=>ff fun hf=>hpd (hF.1 hf).2.2.2.1,fun hpd=>⟨fun hc=>⟨fun hz=>lO hx ?_,fun hz=>ff fun hf=>?_⟩,fun hc=>lO hx ?_⟩⟩
   .have eZ:bN q4 (.and (.eq (.var 37) (.lit 0)) (.and (.eq (.var 38) (.lit 0)) (.and (.eq (.var 39) (.lit 0)) (.and (.eq (.var 40) (.lit 0)) (.and (.eq (.var 41) (.lit 0)) (.and (.eq (.var 42) (.lit 0)) (.and (.eq (.var 43) (.lit 0)) (.and (.eq (.var 44) (.lit 0)) (.and (.eq (.var 45) (.lit 0)) (.and (.eq (.var 46) (.lit 0)) (.and (.eq (.var 47) (.lit 0)) (.and (.eq (.var 48) (.lit 0)) (.and (.eq (.var 49) (.lit 0)) (.and (.eq (.var 50) (.lit 0)) (.and (.eq (.var 51) (.lit 0)) (.eq (.var 52) (.lit 0)))))))))))))))))=true↔uy (cI (aL q4 0)) 37 16:=by
     simp only[aR,bd,aj,ai];exact abX
    rw[eZ,cZ G4.mono,hF];refine⟨fun hzz=>⟨hpl,by omega,hso,hpd,fun _=>⟨Za.1 (by omega),hzz⟩⟩,fun hf=>(hf.2.2.2.2 hc).2⟩
   .have:=((hF.1 hf).2.2.2.2 hc).1;rw[this]at hlen;exact hz (by simpa using (show ρ.i 55=0 by simp at hlen;omega))
   .rw[c8,hF];exact⟨fun _=>⟨hpl,by omega,hso,hpd,fun h=>absurd h hc⟩,fun _=>rfl⟩
  .have:=(hF.1 hf).2.1;omega
def Bf:Nd:=(fun g x p s r y q j t=>(fun a b i d f n k l m=>(fun c h o w=>(fun u v=>(.ext (.alloc 131) (.and (.imp (.not (.lt (.var 0) p)) (.and (.imp (.not (.lt (.lit 6) (.var 0))) (.and (.imp (.not (.lt s p)) (.and (.imp (.not (.lt j s)) (.and (.imp (.not (.lt (.var 34) g)) (.and (.imp (.not (.lt (.lit 255) (.var 34))) (.and (.imp (.not t) (.and (.e (.le g y)) (.and (.imp (.not (.lt (.lit 8) y)) (.and (.pre l) (.ext l (.and (.imp (.not (.bvar 132)) b) (.imp (.bvar 132) (.and (.imp (.lt j (.var 57)) b) (.imp (.not (.lt j (.var 57))) (.and (.imp (.lt j (.var 58)) b) (.imp (.not (.lt j (.var 58))) (.and (.imp (.lt j (.var 59)) b) (.imp (.not (.lt j (.var 59))) (.and (.imp (.lt j (.var 60)) b) (.imp (.not (.lt j (.var 60))) (.and (.imp (.lt j (.var 61)) b) (.imp (.not (.lt j (.var 61))) (.and (.imp (.lt j (.var 62)) b) (.imp (.not (.lt j (.var 62))) (.and (.imp (.le (.lit 80) r) (.and (.imp (.le r (.lit 2064)) (.and (.pre m) (.ext m (.and (.imp (.not k) (.and (.imp q (.and (.imp n (.and (.imp f (.and (.imp a u) w)) o)) (.imp (.not n) (.and (.imp f (.and (.imp a b) w)) o)))) (.imp (.not q) (.and (.imp f (.and (.imp a c) w)) o)))) (.imp k (.and (.imp q (.and (.imp n (.and (.imp f u) o)) (.imp (.not n) (.and (.imp f b) o)))) (.imp (.not q) (.and (.imp f c) o)))))))) (.imp (.not (.le r (.lit 2064))) v))) (.imp (.not (.le (.lit 80) r)) v))))))))))))))))))) (.imp (.lt (.lit 8) y) b)))) (.imp t b))) (.imp (.lt (.lit 255) (.var 34)) b))) (.imp (.lt (.var 34) g) b))) (.imp (.lt j s) b))) (.imp (.lt s p) b))) (.imp (.lt (.lit 6) (.var 0)) b))) (.imp (.lt (.var 0) p) b)):Nd)) (.and (.imp d c) (.imp (.not d) b)) (.and (.imp (.not k) h) (.imp k h))) (.and (.e (.le g i)) (.and (.e (.lt i (.lit 6))) (.post x (.sv (.one (.bool (.eq (.ite (.eq i g) (.var 57) (.ite (.eq i p) (.var 58) (.ite (.eq i (.lit 2)) (.var 59) (.ite (.eq i (.lit 3)) (.var 60) (.ite (.eq i (.lit 4)) (.var 61) (.var 62)))))) (.wrap .u64 (.sub s p))))))))) (.and (.imp q (.and (.imp n b) (.imp (.not n) b))) (.imp (.not q) b)) (.imp (.not f) b) (.imp (.not a) b)) (.and (.eq (.var 2) g) (.and (.eq (.var 3) g) (.and (.eq (.var 4) g) (.and (.eq (.var 5) g) (.and (.eq (.var 6) g) (.and (.eq (.var 7) g) (.and (.eq (.var 8) g) (.and (.eq (.var 9) g) (.and (.eq (.var 10) g) (.and (.eq (.var 11) g) (.and (.eq (.var 12) g) (.and (.eq (.var 13) g) (.and (.eq (.var 14) g) (.and (.eq (.var 15) g) (.and (.eq (.var 16) g) (.and (.eq (.var 17) g) (.and (.eq (.var 18) g) (.and (.eq (.var 19) g) (.and (.eq (.var 20) g) (.and (.eq (.var 21) g) (.and (.eq (.var 22) g) (.and (.eq (.var 23) g) (.and (.eq (.var 24) g) (.and (.eq (.var 25) g) (.and (.eq (.var 26) g) (.and (.eq (.var 27) g) (.and (.eq (.var 28) g) (.and (.eq (.var 29) g) (.and (.eq (.var 30) g) (.and (.eq (.var 31) g) (.and (.eq (.var 32) g) (.eq (.var 33) g)))))))))))))))))))))))))))))))) (.post x (.sv (.one (.bool .ff)))) (.wrap .i64 (.sub (.var 0) p)) (.and (.eq (.var 37) g) (.and (.eq (.var 38) g) (.and (.eq (.var 39) g) (.and (.eq (.var 40) g) (.and (.eq (.var 41) g) (.and (.eq (.var 42) g) (.and (.eq (.var 43) g) (.and (.eq (.var 44) g) (.and (.eq (.var 45) g) (.and (.eq (.var 46) g) (.and (.eq (.var 47) g) (.and (.eq (.var 48) g) (.and (.eq (.var 49) g) (.and (.eq (.var 50) g) (.and (.eq (.var 51) g) (.eq (.var 52) g)))))))))))))))) (.eq (.var 133) (.wrap .i64 (.sub r (.lit 16)))) (.eq y g) (.lt p s) (.call 1 132 [.sv (.one (.sl (.var 53) (.var 54) y (.var 56)))] [] [.ro 130 [.var 53] false]) (.call 3 133 [.sv (.one (.int .i64 (.wrap .i64 (.sub r (.lit 17)))))] [] [])) (.lit 0) [.ro 130 [.var 53] false,.dead] (.lit 1) (.var 1) (.var 95) (.var 55) (.bvar 35) (.lit 1048576) (.lt (.lit 1099511627776) (.var 36))
noncomputable def xq:bU Tryz.prog vY 65 where
 Λ:=aM
 args:=(bf 0 [.agg cX]).map .sv
 mem:=[.ro 130 [.var 53] false]
 nv:=131
 nd:=Bf
 ok:=by kernel_rfl
theorem Qn (q:Env):(q.i 2=0/\q.i 3=0/\q.i 4=0/\q.i 5=0/\q.i 6=0/\q.i 7=0/\q.i 8=0/\q.i 9=0/\q.i 10=0/\q.i 11=0/\q.i 12=0/\q.i 13=0/\q.i 14=0/\q.i 15=0/\q.i 16=0/\q.i 17=0/\q.i 18=0/\q.i 19=0/\q.i 20=0/\q.i 21=0/\q.i 22=0/\q.i 23=0/\q.i 24=0/\q.i 25=0/\q.i 26=0/\q.i 27=0/\q.i 28=0/\q.i 29=0/\q.i 30=0/\q.i 31=0/\q.i 32=0/\q.i 33=0)↔uy (cI (aL q 0)) 2 32:=abX
theorem Qo (q:Env):(q.i 37=0/\q.i 38=0/\q.i 39=0/\q.i 40=0/\q.i 41=0/\q.i 42=0/\q.i 43=0/\q.i 44=0/\q.i 45=0/\q.i 46=0/\q.i 47=0/\q.i 48=0/\q.i 49=0/\q.i 50=0/\q.i 51=0/\q.i 52=0)↔uy (cI (aL q 0)) 37 16:=abX
open Classical in
theorem sN:(fR 65).OK Tryz.prog:=by
 refine Spec.bJ (Γ:=vY) Hp ?_;rintro xs Hs Rs hl1 hl2 ⟨row,R,h,rfl,rfl,hx⟩;have e0:Hs=[]:=Za.1 hl1;subst e0;obtain⟨ρ,rfl,w130,hnw,n54,n55,n56⟩:=kE (R:=R) hx.ok;refine⟨xq,ρ,fun _ _=>True,fun _ _=>0,?_,⟨?_,?_,?_,?_⟩,(fun _ h=>nomatch h),?_⟩
 .rfl
 .intro r hr ho;simp [xq]at hr;subst hr;cases ho
 .intro r hr ho;simp [xq]at hr;subst hr;exact⟨R,by simp,by show(ρ.h 130).le R;rw[w130];exact Hl.le_refl _⟩
 .simp [xq]
 .intro r hr;simp [xq]at hr;subst hr;trivial
 .show Nd.holds _ _ _ Bf;unfold Bf;simp only[Nd.holds,X.pre,X.rel,X.n,Src.ok,Src.len,Src.bG,Zy,Zm,ZG,Zx,Zp,Nat.reduceAdd,Zd,Zh,bn,bj,aJ,aU,aR,bm,aZ,bh,bg,bd,aV,ba,bk,aX,aW,aK,aY,ai,aj,aB,aF,aD,ar,aG,aQ,aP,aq,aI,az,aH,av,TV.ev,SV.ev,CV.ev,Zf,Zr,bx.hl,cu,Cp.sv,Ck.cv,bf,Cp.len,Ck.len,aE,aN,aT,U5,SX,Yt,Yw,X0,Sm,Qn,Qo];have hF:=hx.form;have hT:=hx.tok;have hT:bO R (.slice (aA (ρ.i 53) (ρ.i 54)) (ρ.i 55).toNat (ρ.i 56).toNat) oG (h.t.map bK):=hT;have hlen:(ρ.i 55).toNat=h.t.length:=Bk hT;have h92:cI (aL ρ 0) 92=ρ.i 95:=rfl;have h35:cB (aL ρ 0) 35=ρ.b 35:=rfl;rw[h92,h35]at hF;have eP:dV (aL ρ 0)↔((1<=ρ.i 0/\ρ.i 0<=6)/\(1<=ρ.i 1/\ρ.i 1<=1048576)/\(0<=ρ.i 34/\ρ.i 34<=255)/\ρ.i 36<=1099511627776/\cI (aL ρ 0) (54+(ρ.i 0-1).toNat)=ρ.i 1-1/\(ρ.i 57<=1048576/\ρ.i 58<=1048576/\ρ.i 59<=1048576/\ρ.i 60<=1048576/\ρ.i 61<=1048576/\ρ.i 62<=1048576)/\(1<ρ.i 1\/uy (cI (aL ρ 0)) 2 32)):=abX;have eK:=CM ρ;have eB:=@KG (ρ.i 95);have eI:=@wx (ρ.i 95);have eN:h.t=[]↔ρ.i 55=0:=by rw[<-Za];omega
  rw[eP,eN]at hF;clear eP eN;obtain⟨z1,hz1⟩:=uZ (uy (cI (aL ρ 0)) 2 32);obtain⟨z2,hz2⟩:=uZ (uy (cI (aL ρ 0)) 37 16);obtain⟨z3,hz3⟩:=uZ (ρ.b 35=true);obtain⟨z4,hz4⟩:=uZ (kv h.t);obtain⟨z5,hz5⟩:=uZ (gz (ρ.i 95-16));rw[hz1,hz2,hz3,hz4,hz5]at hF;rw[hz5]at eB eI;have ff:∀ {q:Env} {mem:Mem},¬h.Form->postOf (fR 65) [.agg (aL ρ 0).toArray] [] [R] q mem (.sv (.one (.bool .ff))):=fun hf=>lO hx ⟨fun e=>(by rw[dq]at e;cases e),fun e=>absurd e hf⟩;rw[hF]at ff;intro q1 g1 _;rw[g1.i 0,g1.i 1,g1.i 34,g1.i 36,g1.i 55,g1.i 53,g1.i 54,g1.i 56,g1.h 130,w130];refine⟨fun c0=>⟨fun c1=>⟨fun c2=>⟨fun c3=>⟨fun c4=>⟨fun c5=>⟨fun c6=>⟨n55,fun c7=>⟨⟨_,R,h.t,rfl,rfl,hT,hx.byte⟩,fun q2 g2 ⟨F2,hp2,_⟩=>?_⟩,fun c=>ff (by omega)⟩,fun c=>ff (by omega)⟩,fun c=>ff (by omega)⟩,fun c=>ff (by omega)⟩,fun c=>ff (by omega)⟩,fun c=>ff (by omega)⟩,fun c=>ff (by omega)⟩,fun c=>ff (by omega)⟩;have G2:ah 131 ρ q2:=g1.tr g2;have hs:=zJ hT hp2;have hs:q2.b 132=decide (kv h.t):=by simpa [cn] using hs
  rw[hs,Zc,hz4];simp only[G2.i 0,G2.i 1,G2.i 34,G2.i 36,G2.i 55,G2.i 57,G2.i 58,G2.i 59,G2.i 60,G2.i 61,G2.i 62,G2.i 95,G2.b 35];refine⟨fun c=>ff (by omega),fun d0=>⟨fun c=>ff (by omega),fun d1=>⟨fun c=>ff (by omega),fun d2=>⟨fun c=>ff (by omega),fun d3=>⟨fun c=>ff (by omega),fun d4=>⟨fun c=>ff (by omega),fun d5=>⟨fun c=>ff (by omega),fun d6=>⟨fun e0=>⟨fun e1=>⟨⟨⟨bw [IntKind.i64.wrap (ρ.i 95-17)] false [],⟨trivial,trivial⟩,rfl⟩,trivial⟩,fun q3 g3 ⟨F3,hp3,_⟩=>?_⟩,fun c=>?_⟩,fun c=>?_⟩⟩⟩⟩⟩⟩⟩⟩
  rotate_left
  .rw[hz3];exact⟨fun f0=>⟨fun f1=>⟨fun f2=>ff (by omega),fun f2=>ff (by omega)⟩,fun f1=>ff (by omega)⟩,fun f0=>⟨fun f1=>⟨fun f2=>ff (by omega),fun f2=>ff (by omega)⟩,fun f1=>ff (by omega)⟩⟩
  .rw[hz3];exact⟨fun f0=>⟨fun f1=>⟨fun f2=>ff (by omega),fun f2=>ff (by omega)⟩,fun f1=>ff (by omega)⟩,fun f0=>⟨fun f1=>⟨fun f2=>ff (by omega),fun f2=>ff (by omega)⟩,fun f1=>ff (by omega)⟩⟩
  have G3:ah 131 ρ q3:=G2.tr g3;have hp3:Value.int .i64 (q3.i 133)=.int .i64 (II (IntKind.i64.wrap (ρ.i 95-17))):=hp3;simp only[Value.int.injEq,Zy]at hp3;have hr3:aL q3 0=aL ρ 0:=cZ G3.mono;have eB:=eB e0 e1;simp only[hp3,hr3,hz1,hz2,eB,G3.i 0,G3.i 1,G3.i 34,G3.i 36,G3.i 55,G3.i 57,G3.i 58,G3.i 59,G3.i 60,G3.i 61,G3.i 62,G3.i 95,G3.b 35];rw[hz3];have w0:IntKind.i64.wrap (ρ.i 0-1)=ρ.i 0-1:=IntWalk.i64_in _ (by omega);have w1:IntKind.u64.wrap (ρ.i 1-1)=ρ.i 1-1:=nD (by omega) (by omega);have kf:∀ {mem:Mem},(cI (aL ρ 0) (54+(ρ.i 0-1).toNat)=ρ.i 1-1↔h.Form)->postOf (fR 65) [.agg (aL ρ 0).toArray] [] [R] q3 mem (.sv (.one (.bool (.eq (.ite (.eq (.wrap .i64 (.sub (.var 0) (.lit 1))) (.lit 0)) (.var 57) (.ite (.eq (.wrap .i64 (.sub (.var 0) (.lit 1))) (.lit 1)) (.var 58) (.ite (.eq (.wrap .i64 (.sub (.var 0) (.lit 1))) (.lit 2)) (.var 59) (.ite (.eq (.wrap .i64 (.sub (.var 0) (.lit 1))) (.lit 3)) (.var 60) (.ite (.eq (.wrap .i64 (.sub (.var 0) (.lit 1))) (.lit 4)) (.var 61) (.var 62)))))) (.wrap .u64 (.sub (.var 1) (.lit 1))))))):=fun {mem} hh=>lO hx (by
   rw[<-hh,eK (by omega)];simp only[bd,aG,ar,aF,aj,ai,G3.i 0,G3.i 1,G3.i 57,G3.i 58,G3.i 59,G3.i 60,G3.i 61,G3.i 62,w0,w1])
  rw[hF]at kf;rw[w0];exact⟨fun f0=>⟨fun f1=>⟨fun f2=>⟨fun f3=>⟨fun f4=>⟨fun f5=>⟨by omega,by omega,kf (by omega)⟩,fun f5=>ff (by omega)⟩,fun f4=>ff (by omega)⟩,fun f3=>ff (by omega)⟩,fun f2=>⟨fun f3=>⟨fun f4=>ff (by omega),fun f4=>ff (by omega)⟩,fun f3=>ff (by omega)⟩⟩,fun f1=>⟨fun f3=>⟨fun f4=>⟨by omega,by omega,kf (by omega)⟩,fun f4=>ff (by omega)⟩,fun f3=>ff (by omega)⟩⟩,
   fun f0=>⟨fun f1=>⟨fun f2=>⟨fun f3=>⟨fun f5=>⟨by omega,by omega,kf (by omega)⟩,fun f5=>ff (by omega)⟩,fun f3=>ff (by omega)⟩,fun f2=>⟨fun f3=>ff (by omega),fun f3=>ff (by omega)⟩⟩,fun f1=>⟨fun f3=>⟨by omega,by omega,kf (by omega)⟩,fun f3=>ff (by omega)⟩⟩⟩
end Go.Proofs.YtomdimlnggpgbaaGreatDoor
