/- RelayPlays. -/
import Derived.Test.YtomdimlnggpgbaaGreatDoorProg
import Derived.Test.YtomdimlnggpgbaaGreatDoorRows
import Derived.MapKept
import Derived.Test.YtomdimlnggpgbaaGreatDoorTE
set_option linter.all false
set_option maxHeartbeats 4000000
namespace Go.Pk
open Go
variable {i j k m n:Nat}{cur:Nat->Nat}
section
variable {α:Type}
def fx (st:Nat->List α) (cur:Nat->Nat) (k i:Nat):List α:=(List.range i).filterMap fun j=>(st j)[cur j+k]?
def eJ (st:Nat->List α) (cur:Nat->Nat):Nat->List α
 | 0=>[]
 | k+1=>eJ st cur k++fx st cur k 6
def ej (st:Nat->List α) (cur:Nat->Nat) (k i:Nat):fx st cur k (i+1)=fx st cur k i++((st i)[cur i+k]?).toList:=by
 unfold fx;rw[List.range_succ,List.filterMap_append];cases h:(st i)[cur i+k]?<;>simp [h]
def qG {st:Nat->List α} : fx st cur k i=[]↔∀ j,j<i->(st j).length<=cur j+k:=by
 induction i with
 | zero=>simp [fx]
 | succ i ih =>
  rw[ej];constructor
  .intro h j hj;obtain⟨h1,h2⟩:=List.append_eq_nil_iff.1 h;by_cases e:j=i
   .subst e;cases hg:(st j)[cur j+k]? with
    | none=>exact abF.1 hg
    | some v=>rw[hg]at h2;simp at h2
   .exact ih.1 h1 j Sx.ah
  .intro h;rw[ih.2 fun j hj=>h j Sx.ah,abF.2 (h i Sx.ah)];rfl
def E5 {st:Nat->List α} (h:fx st cur k 6=[]) (hk:k<=m):fx st cur m 6=[] :=
 qG.2 fun j hj=>by have:=qG.1 h j hj;omega
def wA {st:Nat->List α} (h:fx st cur k 6=[]):∀ {m:Nat},k<=m->eJ st cur m=eJ st cur k:=by
 intro m hm
 induction m with
 | zero=>rw[show k=0 by omega]
 | succ m ih =>
  by_cases e:k=m+1
  .rw[e]
  .rw[eJ,E5 h (show k<=m by omega),abl,ih Sx.ah]
def Bq {st:Nat->List α} (h:∀ j,j<6->(st j).length<=n) (hm:n<=m):eJ st cur m=eJ st cur n :=
 wA (qG.2 fun j hj=>by have:=h j hj;omega) hm
def HJ {st:Nat->List α} (h:k<=m):eJ st cur k <+: eJ st cur m:=by
 induction m with
 | zero=>rw[show k=0 by omega];exact acT _
 | succ m ih =>
  by_cases e:k=m+1
  .rw[e];exact acT _
  .exact(ih Sx.ah).trans (List.prefix_append _ _)
def CM {st:Nat->List α} (h:i<=j):fx st cur k i <+: fx st cur k j:=by
 induction j with
 | zero=>rw[show i=0 by omega];exact acT _
 | succ j ih =>
  by_cases e:i=j+1
  .rw[e];exact acT _
  .rw[ej];exact(ih Sx.ah).trans (List.prefix_append _ _)
def before (st:Nat->List α) (cur:Nat->Nat) (k i:Nat):List α:=eJ st cur k++fx st cur k i
def Ag {st:Nat->List α} (hi:i<=6) (hk:k<m):before st cur k i <+: eJ st cur m :=
 ((List.prefix_append_right_inj _).2 (CM hi)).trans (HJ (k:=k+1) hk)
def zM {l m:List α} (h:l <+: m) (hl:l.length=n):m.take n=l:=by
 obtain⟨t,rfl⟩:=h;rw[<-hl,acI]
end
end Go.Pk
namespace Go.Proofs.YtomdimlnggpgbaaGreatDoor
open Go Go.Sx Go.Pk
variable {a:Act}{N b1 b2 dn t:Nat}{s:Option Bool}{i k:Option Int}{y:Value}{W w:World}{L X:World->Prop}
def fv (cv:Nat->Int) (i:Nat):Nat:=(min (cv i) 1048576).toNat
def kN:Code->Code
 | .seq a _=>a
 | .block _ c=>c
 | .loop c=>c
 | c=>c
def gY:Code->Code
 | .seq _ b=>b
 | c=>c
noncomputable def Ah:Code:=match Tryz.f151.body with
 | some c=>kN (kN (gY (kN (gY (kN (kN (kN (kN (gY c)))))))))
 | none=>.skip
noncomputable def UD:Code:=kN (kN (gY (gY Ah)))
noncomputable def Rc:Code:=match Tryz.f151.body with
 | some c=>c
 | none=>.skip
noncomputable def UE:Code:=kN (kN (gY Rc))
noncomputable def O6:Code:=kN (kN UE)
noncomputable def XE:List Code:=[kN UD,kN (gY UD),kN (gY (gY UD)),kN (gY (gY (gY UD)))]
def C2 (l:List (Nat×TV)):List (Option TV):=(List.range 36).map fun i=>(l.find? fun p=>p.1==i).map (·.2)
def UG:St:=⟨C2 [(0,.sv (.one (.vr 0))),(1,.sv (.one (.hptr (.var 0) (.lit 0)))),(2,.sv (.one (.hptr (.var 1) (.lit 0)))),(4,.sv (.one (.int .u64 (.var 2)))),(5,.sv (.one (.bool (.bvar 3)))),(11,.sv (.one (.int .i64 (.var 4))))],[.ro 10 [.var 0,.var 1] true],11,[]⟩
def UF:Tag->List Nat
 | .norm=>[0,1,2,4,5,7,11]
 | _=>[0,1,2,4,5,11]
def BR:List (Nat×TV):=[(0,.sv (.one (.vr 0))),(1,.sv (.one (.hptr (.var 0) (.lit 0)))),(2,.sv (.one (.hptr (.var 1) (.lit 0))))]
def kk:Nat×TV:=(4,.sv (.one (.int .u64 (.var 2))))
def ss:Nat×TV:=(5,.sv (.one (.bool (.bvar 3))))
def ii:Nat×TV:=(11,.sv (.one (.int .i64 (.var 4))))
def Ub (l:List (Nat×TV)):St:=⟨C2 (BR++l),[],11,[]⟩
noncomputable def f0:ft Tryz.prog [] where
 cs:=[kN Rc]
 st:=Ub []
 outs:=fun _=>[0,1,2,4]
noncomputable def f2:ft Tryz.prog [] where
 cs:=[kN O6,kN (kN (gY O6))]
 st:=Ub [kk]
 outs:=fun _=>[0,1,2,4,5,11]
noncomputable def f4:ft Tryz.prog [] where
 cs:=[kN Ah,kN (gY Ah)]
 st:=Ub [kk,ss,ii]
 outs:=fun _=>[0,1,2,4,5,11]
noncomputable def f10:ft Tryz.prog [] where
 cs:=[gY (gY (gY Ah))]
 st:=Ub [kk,ss,ii]
 outs:=fun _=>[0,1,2,4,5,11]
noncomputable def f11:ft Tryz.prog [] where
 cs:=[gY (gY O6)]
 st:=Ub [kk,ss,ii]
 outs:=fun _=>[0,1,2,4,5,11]
noncomputable def f1:ft Tryz.prog [] where
 cs:=[gY UE]
 st:=Ub [kk,ss,ii]
 outs:=fun _=>[0,1,2,4,5,11]
def su {l:List (Nat×TV)} {v:TV} (h:(C2 l)[t]?=some (some v)):(t,v)∈l:=by
 unfold C2 at h;simp only[aao,aai]at h;obtain⟨i,hi,⟨n,x⟩,hf,rfl⟩:=h;have h1:=acs hf;have h2:=adl hf;obtain⟨hi1,hi2⟩:=aah.1 hi;rw[List.getElem_range]at hi2;simp only[acF]at h2;rw[<-hi2]at h2;rw[<-h2];exact h1
def Gr (i:List Int) (b:Bool) (v:Value) (h:Hl):Env:=⟨fun n=>i.getD n 0,fun _=>b,fun _=>.empty,fun _=>v,fun _=>h⟩
structure cX (y:Value) (b1 b2:Nat) (a:Act) (k:Option Int) (s:Option Bool) (i:Option Int):Prop where
 sz:a.tmps.size=36
 df:a.defers=[]
 t0:a.tmps[0]?=some y
 t1:a.tmps[1]?=some (.pointer (some ⟨b1,0,none⟩))
 t2:a.tmps[2]?=some (.pointer (some ⟨b2,0,none⟩))
 t4:∀ x,k=some x->a.tmps[4]?=some (.int .u64 x)
 t5:∀ x,s=some x->a.tmps[5]?=some (.bool x)
 t11:∀ x,i=some x->a.tmps[11]?=some (.int .i64 x)
def jV:∀ {t u:Tag},Fx t=Fx u->t=u
 | .norm,.norm,_=>rfl
 | .ret,.ret,_=>rfl
 | .exit i,.exit j,h=>by have:(2:Int)+i=2+j:=h;rw[show i=j by omega]
 | .norm,.ret,h=>absurd h Sx.aA
 | .ret,.norm,h=>absurd h Sx.aA
 | .norm,.exit i,h=>absurd h (show ¬(0:Int)=2+i by omega)
 | .exit i,.norm,h=>absurd h (show ¬(2:Int)+i=0 by omega)
 | .ret,.exit i,h=>absurd h (show ¬(1:Int)=2+i by omega)
 | .exit i,.ret,h=>absurd h (show ¬(2:Int)+i=1 by omega)
def VN (k:Option Int) (s:Option Bool) (i:Option Int):List (Nat×TV):=(k.map fun _=>kk).toList++(s.map fun _=>ss).toList++(i.map fun _=>ii).toList
def PE (y:Value) (b1 b2:Nat) (k:Option Int) (s:Option Bool) (i:Option Int):Env:=Gr [b1,b2,k.getD 0,0,i.getD 0] (s.getD false) y Hl.none
def QR (y:Value) (b1 b2:Nat) (t:Tag) (k:Int) (s:Bool) (i:Int):Value:=.tuple #[.int .i64 (Fx t),y,.pointer (ar (b1:Int) 0),.pointer (ar (b2:Int) 0),.int .u64 k,.bool s,.int .i64 i]
def cX.run (h:cX y b1 b2 a k s i) (W:ft Tryz.prog []) (hst:W.st=Ub (VN k s i)) (hout:∀ t,W.outs t=[0,1,2,4,5,11])
 {T:Tag->Int->Bool->Int->Prop}
 (hn:W.Gq ⟨[],fun _ _=>True,fun _ _=>0,mN (fun v _ _=>∃ t k' s' i',T t k' s' i'/\v=QR y b1 b2 t k' s' i') []⟩ (fun _=>0) (PE y b1 b2 k s i)) :
 wN (FW none) dn Tryz.prog (fun e a' w'=>∃ t k' s' i',e=iw t/\T t k' s' i'/\cX y b1 b2 a' (some k') (some s') (some i')/\gK (fun _=>False) w w') W.cs a w:=by
 refine iq ?_ (ft.pure Sx.aC W (by rw[hst];rfl) (by rw[hst];rfl) (by rw[hst];exact h.sz) h.df ?_ hn)
 .rintro e a' w' ⟨t,vs,rfl,hsz,hdf,hm,hk,t',k',s',i',hT,hv⟩;rw[hout]at hm;unfold QR at hv;rw[al Sx.ah,al Sx.ah]at hv;simp only[Value.tuple.injEq,aaH,aag,Value.int.injEq,aaZ]at hv;obtain⟨ht,rfl⟩:=hv;obtain rfl:=jV ht;simp only[aax,aa8,aag,aau]at hm;obtain⟨m0,m1,m2,m4,m5,m11⟩:=hm;exact⟨t,k',s',i',rfl,hT,⟨hsz.trans h.sz,hdf,m0,m1,m2,fun x hx=>by cases hx;exact m4,fun x hx=>by cases hx;exact m5,fun x hx=>by cases hx;exact m11⟩,hk⟩
 .intro t v ht;rw[hst]at ht;have:=su ht;simp only[BR,VN,aaU,aan,aat,aaX,aaS,Option.mem_toList,Option.mem_def,aai]at this;rcases this with (⟨rfl,rfl⟩ | ⟨rfl,rfl⟩ | ⟨rfl,rfl⟩) | (⟨x,rfl,hx⟩ | ⟨x,rfl,hx⟩) | ⟨x,rfl,hx⟩
  .exact h.t0
  .exact h.t1.trans (by show _=some (Value.pointer (ar (b1:Int) 0));rw[al Sx.ah];rfl)
  .exact h.t2.trans (by show _=some (Value.pointer (ar (b2:Int) 0));rw[al Sx.ah];rfl)
  .cases hx;exact h.t4 _ rfl
  .cases hx;exact h.t5 _ rfl
  .cases hx;exact h.t11 _ rfl
def U9 {k i:Int} {s:Bool} (h:cX y b1 b2 a (some k) (some s) (some i)) :
 wN (FW none) dn Tryz.prog (fun e a' w'=>∃ t k' s' i',e=iw t/\(((t=.norm/\i<6)\/(t=.exit 2/\¬i<6))/\k'=k/\s'=s/\i'=i)/\cX y b1 b2 a' (some k') (some s') (some i')/\gK (fun _=>False) w w') f4.cs a w:=by
 refine h.run f4 rfl (fun _=>rfl) (T:=fun t k' s' i'=>((t=.norm/\i<6)\/(t=.exit 2/\¬i<6))/\k'=k/\s'=s/\i'=i) ?_;refine ft.read [] [] [] ?_;simp only[go_sem];refine⟨fun hi=>fun _=>⟨[],[],rfl,rfl,.norm,k,s,i,⟨Or.inl ⟨rfl,hi⟩,rfl,rfl,rfl⟩,rfl⟩,fun hi=>fun _=>⟨[],[],rfl,rfl,.exit 2,k,s,i,⟨Or.inr ⟨rfl,hi⟩,rfl,rfl,rfl⟩,rfl⟩⟩
def U8 {k:Int} (h:cX y b1 b2 a (some k) none none) :
 wN (FW none) dn Tryz.prog (fun e a' w'=>∃ t k' s' i',e=iw t/\(t=.norm/\k'=k/\s'=false/\i'=0)/\cX y b1 b2 a' (some k') (some s') (some i')/\gK (fun _=>False) w w') f2.cs a w:=by
 refine h.run f2 rfl (fun _=>rfl) (T:=fun t k' s' i'=>t=.norm/\k'=k/\s'=false/\i'=0) ?_;refine ft.read [] [] [] ?_;simp only[go_sem];exact fun _=>⟨[],[],rfl,rfl,.norm,k,false,0,⟨rfl,rfl,rfl,rfl⟩,rfl⟩
def SJ {k i:Int} {s:Bool} (h:cX y b1 b2 a (some k) (some s) (some i)) :
 wN (FW none) dn Tryz.prog (fun e a' w'=>∃ t k' s' i',e=iw t/\(t=.norm/\k'=k/\s'=s/\i'=IntKind.i64.wrap (i+1))/\cX y b1 b2 a' (some k') (some s') (some i')/\gK (fun _=>False) w w') f10.cs a w:=by
 refine h.run f10 rfl (fun _=>rfl) (T:=fun t k' s' i'=>t=.norm/\k'=k/\s'=s/\i'=IntKind.i64.wrap (i+1)) ?_;refine ft.read [] [] [] ?_;simp only[go_sem];exact fun _=>⟨[],[],rfl,rfl,.norm,k,s,_,⟨rfl,rfl,rfl,rfl⟩,rfl⟩
def U7 {k i:Int} {s:Bool} (h:cX y b1 b2 a (some k) (some s) (some i)) :
 wN (FW none) dn Tryz.prog (fun e a' w'=>∃ t k' s' i',e=iw t/\(t=.norm/\k'=IntKind.u64.wrap (k+1)/\s'=s/\i'=i)/\cX y b1 b2 a' (some k') (some s') (some i')/\gK (fun _=>False) w w') f1.cs a w:=by
 refine h.run f1 rfl (fun _=>rfl) (T:=fun t k' s' i'=>t=.norm/\k'=IntKind.u64.wrap (k+1)/\s'=s/\i'=i) ?_;refine ft.read [] [] [] ?_;simp only[go_sem];exact fun _=>⟨[],[],rfl,rfl,.norm,_,s,i,⟨rfl,rfl,rfl,rfl⟩,rfl⟩
def SK {k i:Int} {s:Bool} (h:cX y b1 b2 a (some k) (some s) (some i)) :
 wN (FW none) dn Tryz.prog (fun e a' w'=>∃ t k' s' i',e=iw t/\(((t=.norm/\s=true)\/(t=.ret/\s=false))/\k'=k/\s'=s/\i'=i)/\cX y b1 b2 a' (some k') (some s') (some i')/\gK (fun _=>False) w w') f11.cs a w:=by
 refine h.run f11 rfl (fun _=>rfl) (T:=fun t k' s' i'=>((t=.norm/\s=true)\/(t=.ret/\s=false))/\k'=k/\s'=s/\i'=i) ?_;refine ft.read [] [] [] ?_;simp only[go_sem];exact⟨fun hs _=>⟨[],[],rfl,rfl,.ret,k,s,i,⟨Or.inr ⟨rfl,by simpa [PE,Gr] using hs⟩,rfl,rfl,rfl⟩,rfl⟩,fun hs _=>⟨[],[],rfl,rfl,.norm,k,s,i,⟨Or.inl ⟨rfl,by simpa [PE,Gr] using hs⟩,rfl,rfl,rfl⟩,rfl⟩⟩
open RowKit
section
variable {α:Type} {st:Nat->List α} {cur:Nat->Nat} {y:Value} {b1 b2 l dn:Nat}
structure Xn (st:Nat->List α) (cur:Nat->Nat) (y:Value) (b1 b2 dn N:Nat) (I:List α->World->Prop) (L X:World->Prop):Prop where
 cH:∀ W W',L W->gK (fun _=>False) W W'->L W'
 ikeep:∀ pre W W',I pre W->gK (fun _=>False) W W'->I pre W'
 round:∀ a W (k:Nat) (s:Bool) (i:Nat),i<6->k<=N->cX y b1 b2 a (some (k+1)) (some s) (some i)->I (before st cur k i) W->L W ->
  (kN (kN (gY (gY Ah)))).wpIn Fence.wide dn Tryz.prog (fun e a' W' =>
   (e=.exit 3/\(st i)[cur i+k]?=none/\cX y b1 b2 a' (some (k+1)) (some s) (some i)/\I (before st cur k i) W'/\L W') \/
   (e=.normal/\(st i)[cur i+k]?≠none/\cX y b1 b2 a' (some (k+1)) (some true) (some i)/\I (before st cur k (i+1)) W'/\L W') \/
   (e=.ret/\a'.defers=[]/\X W')) a W
def NF (a:Act) (_:World):Nat:=match a.tmps[11]? with
 | some (Value.int _ x)=>(6-x).toNat
 | _=>0
def cX.mu {i:Nat} (h:cX y b1 b2 a k s (some (i:Int))):NF a W=6-i:=by
 unfold NF;rw[h.t11 _ rfl];show(6-(i:Int)).toNat=_;omega
def M6 {I:List α->World->Prop} (H:Xn st cur y b1 b2 dn N I L X) {k:Nat} (hkN:k<=N) (h:cX y b1 b2 a (some (k+1)) (some false) (some 0)) (hI:I (eJ st cur k) W) (hL:L W) :
 (gY (kN (gY O6))).wpIn Fence.wide dn Tryz.prog (fun e a' W' =>
  (e=.normal/\∃ s:Bool,(s=false↔fx st cur k 6=[])/\cX y b1 b2 a' (some (k+1)) (some s) (some 6)/\I (eJ st cur (k+1)) W'/\L W')\/(e=.ret/\a'.defers=[]/\X W')) a W:=by
 show(Code.block 2 (Code.loop Ah)).wpIn _ _ _ _ _ _;refine wpIn_block (wpIn_loop (fun a W=>∃ (i:Nat) (s:Bool),i<=6/\(s=false↔fx st cur k i=[])/\cX y b1 b2 a (some (k+1)) (some s) (some i)/\I (before st cur k i) W/\L W) NF ⟨0,false,Sx.ah,by simp [fx],h,by simpa [before,fx] using hI,hL⟩ ?_);rintro a W ⟨i,s,hi,hs,hA,hI,hL⟩;show(QX f4.cs (.seq (.block 3 (kN (kN (gY (gY Ah))))) (gY (gY (gY Ah))))).wpIn _ _ _ _ _ _;refine vn (iq ?_ (U9 hA));rintro e a1 W1 ⟨t,k',s',i',rfl,⟨hc,e1,e2,e3⟩,hA1,hk1⟩;rw[e1,e2,e3]at hA1;rcases hc with ⟨rfl,hc⟩ | ⟨rfl,hc⟩
 rotate_left
 .have e6:i=6:=Sx.ah;subst e6;exact Or.inl ⟨rfl,s,hs,hA1,H.ikeep _ _ _ hI hk1,H.cH _ _ hL hk1⟩
 have hi6:i<6:=Sx.ah;refine wpIn_seq (wpIn_block (wpIn_mono (H.round a1 W1 k s i hi6 hkN hA1 (H.ikeep _ _ _ hI hk1) (H.cH _ _ hL hk1)) ?_));have nx:∀ (s':Bool) (a2:Act) (W2:World),(s'=false↔fx st cur k (i+1)=[])->cX y b1 b2 a2 (some (k+1)) (some s') (some i)->I (before st cur k (i+1)) W2->L W2 ->
  ∀ Q,(gY (gY (gY Ah))).wpIn (FW none) dn Tryz.prog (Exit.then (fun a' W'=>(∃ (i:Nat) (s:Bool),i<=6/\(s=false↔fx st cur k i=[])/\cX y b1 b2 a' (some (k+1)) (some s) (some i)/\I (before st cur k i) W'/\L W')/\NF a' W'<NF a W) Q) a2 W2:=fun s' a2 W2 h1 h2 h3 h4 Q=>by
  have h5:wN (FW none) dn Tryz.prog _ [gY (gY (gY Ah))] a2 W2:=SJ h2;refine wpIn_mono h5 ?_;intro e a3 W3 h6;cases e with
  | normal =>
   obtain⟨t,k',s2,i',_,⟨_,e1,e2,e3⟩,hA3,IS⟩:=h6;rw[e1,e2,e3,show IntKind.i64.wrap ((i:Int)+1)=((i+1:Nat):Int)by rw[IntKind.wrap_i64];omega]at hA3;exact⟨⟨i+1,s',Sx.ah,h1,hA3,H.ikeep _ _ _ h3 IS,H.cH _ _ h4 IS⟩,by rw[hA3.mu,hA.mu];omega⟩
  | _=>obtain⟨t,k',s2,i',e0,⟨e1,_⟩,_⟩:=h6;rw[e1]at e0;cases e0
 rintro e a2 W2 (⟨rfl,hn,h2,h3,h4⟩ | ⟨rfl,hn,h2,h3,h4⟩ | ⟨rfl,h2,h3⟩)
 .refine nx s a2 W2 ?_ h2 ?_ h4 _
  .rw[ej,hn];simpa using hs
  .unfold before;rw[ej,hn];simpa [before] using h3
 .refine nx true a2 W2 ?_ h2 h3 h4 _;rw[ej];cases hg:(st i)[cur i+k]? with
  | none=>exact absurd hg hn
  | some v=>simp
 .exact Or.inr ⟨rfl,h2,h3⟩
def Yj (N:Nat) (a:Act) (_:World):Nat:=match a.tmps[4]? with
 | some (Value.int _ x)=>(N+1-x).toNat
 | _=>0
def cX.VG {k:Nat} (h:cX y b1 b2 a (some (k+1)) s i):Yj N a W=N-k:=by
 unfold _root_.Go.Proofs.YtomdimlnggpgbaaGreatDoor.Yj;rw[h.t4 _ rfl];show((N:Int)+1-(k+1)).toNat=_;omega
def NO {I:List α->World->Prop} (H:Xn st cur y b1 b2 dn N I L X) (hN:∀ j,j<6->(st j).length<=N) (hN2:N<=2000000) (h:cX y b1 b2 a (some 1) none none) (hI:I [] W) (hL:L W) :
 (kN (gY Rc)).wpIn Fence.wide dn Tryz.prog (fun e a' W'=>e=.ret/\a'.defers=[]/\(((∃ k,fx st cur k 6=[]/\I (eJ st cur k) W')/\L W')\/X W')) a W:=by
 show(Code.loop UE).wpIn _ _ _ _ _ _;refine wpIn_loop (fun a W=>∃ k:Nat,k<=N/\cX y b1 b2 a (some (k+1)) none none/\I (eJ st cur k) W/\L W) (Yj N) ⟨0,Sx.ah,by simpa using h,hI,hL⟩ ?_;rintro a W ⟨k,hk,hA,hI,hL⟩;show(Code.seq (.block 1 O6) (gY UE)).wpIn _ _ _ _ _ _;refine wpIn_seq (wpIn_block ?_);show(Code.seq (kN O6) (.seq (.seq (kN (kN (gY O6))) (gY (kN (gY O6)))) (gY (gY O6)))).wpIn _ _ _ _ _ _;refine wpIn_seq (wpIn_mono (U8 hA) ?_);intro e a1 W1 h1;cases e with
 | normal =>
  refine wpIn_seq (wpIn_seq (wpIn_mono h1 ?_));intro e a2 W2 h2;cases e with
  | normal =>
   obtain⟨t,k',s',i',_,⟨_,e1,e2,e3⟩,hA2,bU⟩:=h2;rw[e1,e2,e3]at hA2;refine wpIn_mono (M6 H hk hA2 (H.ikeep _ _ _ hI bU) (H.cH _ _ hL bU)) ?_;rintro e a3 W3 (⟨rfl,s,hs,hA3,hI3,hL3⟩ | ⟨rfl,hd,hX⟩)
   .have h11:wN (FW none) dn Tryz.prog _ [gY (gY O6)] a3 W3:=SK hA3;refine wpIn_mono h11 ?_;intro e a4 W4 h4;cases e with
    | normal =>
     obtain⟨t,k',s',i',et,⟨hc,e1,e2,e3⟩,hA4,hk4⟩:=h4;rw[e1,e2,e3]at hA4;have hst:s=true:=by
      rcases hc with ⟨_,h⟩ | ⟨h,_⟩
      .exact h
      .subst h;cases et
     have hne:fx st cur k 6≠[]:=fun h=>by rw[hs.2 h]at hst;cases hst
     have hlt:k<N:=by
      refine abj fun hc=>hne (qG.2 fun j hj=>?_);have:=hN j hj;omega
     have h1:wN (FW none) dn Tryz.prog _ [gY UE] a4 W4:=U7 hA4;refine wpIn_mono h1 ?_;intro e a5 W5 h5;cases e with
     | normal =>
      obtain⟨t,k',s',i',_,⟨_,e1,e2,e3⟩,hA5,hk5⟩:=h5;rw[e1,e2,e3,show IntKind.u64.wrap ((k:Int)+1+1)=((k+1:Nat):Int)+1 by rw[IntKind.wrap_u64];omega]at hA5;have hA5:cX y b1 b2 a5 (some (((k+1:Nat):Int)+1)) none none:=⟨hA5.sz,hA5.df,hA5.t0,hA5.t1,hA5.t2,hA5.t4,(fun _ h=>by cases h),(fun _ h=>by cases h)⟩;exact⟨⟨k+1,hlt,hA5,H.ikeep _ _ _ (H.ikeep _ _ _ hI3 hk4) hk5,H.cH _ _ (H.cH _ _ hL3 hk4) hk5⟩,by rw[hA5.VG,hA.VG];omega⟩
     | _=>obtain⟨t,k',s',i',e0,⟨e1,_⟩,_⟩:=h5;rw[e1]at e0;cases e0
    | ret =>
     obtain⟨t,k',s',i',et,⟨hc,e1,e2,e3⟩,hA4,hk4⟩:=h4;have hst:s=false:=by
      rcases hc with ⟨h,_⟩ | ⟨_,h⟩
      .subst h;cases et
      .exact h
     have hr:=hs.1 hst;refine⟨rfl,hA4.df,Or.inl ⟨⟨k,hr,?_⟩,H.cH _ _ hL3 hk4⟩⟩;have:=H.ikeep _ _ _ hI3 hk4;rwa[eJ,hr,abl]at this
    | _ =>
     obtain⟨t,k',s',i',et,⟨hc,_⟩,_⟩:=h4;rcases hc with ⟨h,_⟩ | ⟨h,_⟩<;>subst h<;>cases et
   .exact⟨rfl,hd,Or.inr hX⟩
  | _=>obtain⟨t,k',s',i',e0,⟨e1,_⟩,_⟩:=h2;rw[e1]at e0;cases e0
 | _=>obtain⟨t,k',s',i',e0,⟨e1,_⟩,_⟩:=h1;rw[e1]at e0;cases e0
end
end Go.Proofs.YtomdimlnggpgbaaGreatDoor
namespace Go.Pk
open Go Go.Sx
variable {a c k m w x y:Nat}
def aj (x:Nat):List Int:=if x<128 then [(x:Int)]else((x%128+128:Nat):Int)::aj (x/128)
def ru:List Int->Nat->Nat->Option (Nat×Nat)
 | [],_,_=>none
 | c::l,n,x=>if(n=9/\1<c)\/9<n then none else if c<128 then(if c=0/\0<n then none else some (x+c.toNat*128 ^ n,n+1))else ru l (n+1) (x+(c.toNat%128)*128 ^ n)
def vW (l:List Int):Option (Nat×Nat):=ru l 0 0
def jM (h:x<128):aj x=[(x:Int)]:=by rw[aj,aay h]
def jr (h:¬x<128):aj x=((x%128+128:Nat):Int)::aj (x/128):=by rw[aj,aal h]
def AV:∀ (x:Nat),∀ b∈aj x,0<=b/\b<256:=by
 intro x
 induction x using Nat.strongRecOn with
 | _ x ih =>
  intro b hb;by_cases h:x<128
  .rw[jM h,aam]at hb;omega
  .rw[jr h]at hb;rcases aan.1 hb with rfl | hb
   .omega
   .exact ih (x/128) ah b hb
def Ez (x:Nat):0<(aj x).length:=by
 by_cases h:x<128
 .rw[jM h];exact Nat.one_pos
 .rw[jr h];exact Nat.succ_pos _
def Ey:∀ (k x:Nat),x<128 ^ (k+1)->(aj x).length<=k+1
 | 0,x,h=>by rw[jM (by simpa using h)];exact aaz _
 | k+1,x,h=>by
  by_cases h1:x<128
  .rw[jM h1];simp
  .rw[jr h1,aaL];have:=Ey k (x/128) (by
    rw[ack]at h;exact Nat.div_lt_of_lt_mul ah)
   omega
def NU:(128:Nat) ^ 9=9223372036854775808:=by decide
def KU (t:List Int):∀ (x n y:Nat),(0<n->0<x)->n<=9->x*128 ^ n<18446744073709551616->ru (aj x++t) n y=some (y+x*128 ^ n,n+(aj x).length):=by
 intro x
 induction x using Nat.strongRecOn with
 | _ x ih =>
  intro n y hx hn hlt;have h9:n=9->x<=1:=fun e=>by
   subst e;rw[NU]at hlt;omega
  by_cases h:x<128
  .rw[jM h];show(if(n=9/\1<(x:Int))\/9<n then none else _)=_;rw[aal ah,aay ah,aal ah,aaa];rfl
  .rw[jr h];have hc:(((x%128+128:Nat):Int)).toNat%128=x%128:=by rw[aaa];omega
   show(if(n=9/\1<((x%128+128:Nat):Int))\/9<n then none else _)=_;have hn9:n≠9:=fun e=>by have:=h9 e;omega
   rw[aal ah,aal ah,hc];have hmul:x/128*128 ^ (n+1)+x%128*128 ^ n=x*128 ^ n:=by
    rw[ack,<-Nat.mul_assoc,Nat.mul_right_comm,<-abS]
    congr 1
    omega
   show ru (aj (x/128)++t) (n+1) (y+x%128*128 ^ n)=_;rw[ih (x/128) ah (n+1) _ (fun _=>ah) ah ah,aaL]
   congr 1
   rw[aaS];omega
def uM (h:x<18446744073709551616) (t:List Int):vW (aj x++t)=some (x,(aj x).length):=by
 have:=KU t x 0 0 (fun h=>absurd h ah) ah (by simpa using h);unfold vW;rw[this];simp
def AW:∀ (l:List Int) (n y z m:Nat),(∀ b∈l,0<=b/\b<256)->ru l n y=some (z,m)->∃ x,z=y+x*128 ^ n/\n<m/\m-n<=l.length/\l.take (m-n)=aj x/\(0<n->0<x)/\x*128 ^ n<18446744073709551616
 | [],_,_,_,_,_,h=>by cases h
 | c::l,n,y,z,m,hb,h=>by
  have hc:=hb c (aaI ..);have hl:∀ b∈l,0<=b/\b<256:=fun b h=>hb b (aaq _ h);have h:(if(n=9/\1<c)\/9<n then none else if c<128 then(if c=0/\0<n then none else some (y+c.toNat*128 ^ n,n+1))else ru l (n+1) (y+(c.toNat%128)*128 ^ n))=some (z,m):=h;split at h
  .cases h
  .rename_i h9;have hpow:128 ^ n<=9223372036854775808:=by
    rw[<-NU];exact acr aA ah
   have hsmall:n<9->128 ^ n<=72057594037927936:=fun hn=>by
    have:(128:Nat) ^ 8=72057594037927936:=by decide
    rw[<-this];exact acr aA ah
   split at h
   .rename_i h128;split at h
    .cases h
    .rename_i h0;simp only[aak,aaS]at h;obtain⟨h1,h2⟩:=h;subst h1 h2;refine⟨c.toNat,rfl,ah,by rw[aaL];omega,?_,ah,?_⟩
     .rw[show n+1-n=1 by omega,jM ah];show [c]=_;rw[acw hc.1]
     .rcases aa5 n 9 with hn | hn
      .have:=hsmall hn
       calc c.toNat*128 ^ n<=127*72057594037927936:=ac5 ah this
        _<_:=by decide
      .have:c.toNat<=1:=ah
       calc c.toNat*128 ^ n<=1*9223372036854775808:=ac5 this hpow
        _<_:=by decide
   .rename_i h128;obtain⟨x,e1,e2,e3,e4,e5,e6⟩:=AW l (n+1) _ z m hl h;have hx:=e5 ah;have hdiv:(x*128+c.toNat%128)/128=x:=ah;have hmod:(x*128+c.toNat%128)%128=c.toNat%128:=ah;have hmul:(x*128+c.toNat%128)*128 ^ n=x*128 ^ (n+1)+(c.toNat%128)*128 ^ n:=by
     rw[abS,ack,Nat.mul_assoc x 128,ach 128]
    refine⟨x*128+c.toNat%128,by rw[e1,hmul];omega,ah,by rw[aaL];omega,?_,fun _=>ah,?_⟩
    .rw[show m-n=(m-(n+1))+1 by omega,List.take_succ_cons,e4,jr (x:=x*128+c.toNat%128) ah,hdiv,hmod]
     congr 1
     omega
    .rw[hmul];have h127:c.toNat%128*128 ^ n<128 ^ (n+1):=by
      rw[ack,ach (128 ^ n)];exact Nat.mul_lt_mul_of_pos_right ah (Nat.pow_pos aA)
     have hn9:n<9:=ah;have hdvd:∃ q,18446744073709551616=q*128 ^ (n+1):=by
      refine⟨2 ^ (64-7*(n+1)),?_⟩;have:(18446744073709551616:Nat)=2 ^ 64:=by decide
      rw[this,show(128:Nat)=2 ^ 7 by decide,<-Nat.pow_mul,<-adA]
      congr 1;omega
     obtain⟨q,hq⟩:=hdvd;rw[hq]at e6 ⊢;have hxq:x<q:=Nat.lt_of_mul_lt_mul_right e6
     calc x*128 ^ (n+1)+c.toNat%128*128 ^ n<x*128 ^ (n+1)+128 ^ (n+1):=ah
      _=(x+1)*128 ^ (n+1):=by rw[adz]
      _<=q*128 ^ (n+1):=acq _ hxq
def KQ {l:List Int} (hb:∀ b∈l,0<=b/\b<256) (h:vW l=some (x,m)):0<m/\m<=l.length/\l.take m=aj x/\x<18446744073709551616:=by
 obtain⟨z,e1,e2,e3,e4,_,e6⟩:=AW l 0 0 x m hb h;have ez:x=z:=by simpa using e1
 subst ez;exact⟨e2,by simpa using e3,by simpa using e4,by simpa using e6⟩
def oW {x:Int} (h0:0<=x) (h1:x<18446744073709551616):IntKind.u64.wrap x=x:=by
 show Int.emod x 18446744073709551616=x;exact ac8 h0 h1
def RU (x:Int):IntKind.u8.wrap x=x%256:=rfl
def BT (h:x<2 ^ w):(BitVec.ofInt w (x:Int)).toNat=x:=by
 rw[BitVec.toNat_ofInt,ac8 ah (by exact_mod_cast h),aaa]
def Mh (h:c<256):cn .and .u8 (c:Int) 127=((c%128:Nat):Int):=by
 show IntKind.u8.wrap (((BitVec.ofInt 8 (c:Int) &&&BitVec.ofInt 8 127).toNat:Nat):Int)=_;rw[BitVec.toNat_and,BT (by simpa using h),show(BitVec.ofInt 8 127).toNat=2 ^ 7-1 from rfl,Nat.and_two_pow_sub_one_eq_mod,RU];have:c%2 ^ 7=c%128:=rfl;omega
def Pu (hx:x<18446744073709551616) (hy:y<18446744073709551616):cn .or .u64 (x:Int) (y:Int)=((x |||y:Nat):Int):=by
 show IntKind.u64.wrap (((BitVec.ofInt 64 (x:Int) |||BitVec.ofInt 64 (y:Int)).toNat:Nat):Int)=_;have hx':x<2 ^ 64:=hx;have hy':y<2 ^ 64:=hy;rw[ac1,BT hx',BT hy'];have:=Nat.or_lt_two_pow hx' hy'
 exact oW (by omega) (by have e:(2:Nat) ^ 64=18446744073709551616:=by decide
                         omega)
def EJ (hy:y<2 ^ k):y |||(a*2 ^ k)=y+a*2 ^ k:=by
 rw[Nat.or_comm,<-Nat.shiftLeft_eq,<-acU hy,acL]
def Qt (k:Nat):(2:Nat) ^ (7*k)=128 ^ k:=by rw[Nat.pow_mul]
def VI (hy:y<128 ^ k) (hk:k<=9) (hc:c<256) (h9:k=9->c<=1) :
 cn .or .u64 (y:Int) (IntKind.u64.wrap (IntKind.u64.wrap (cn .and .u8 (c:Int) 127)*2 ^ (min (IntKind.i64.wrap (7*(k:Int))).toNat 64)))=((y+c%128*128 ^ k:Nat):Int)/\y+c%128*128 ^ k<18446744073709551616:=by
 have hpow:128 ^ k<=9223372036854775808:=by
  rw[<-NU];exact acr aA hk
 have hz:c%128*128 ^ k<=9223372036854775808:=by
  rcases aa5 k 9 with h | h
  .have h8:128 ^ k<=72057594037927936:=by
    have:(128:Nat) ^ 8=72057594037927936:=by decide
    rw[<-this];exact acr aA ah
   calc c%128*128 ^ k<=127*72057594037927936:=ac5 ah h8
    _<=_:=by decide
  .have:c%128<=1:=by have:=h9 ah;omega
   calc c%128*128 ^ k<=1*9223372036854775808:=ac5 this hpow
    _<=_:=by decide
 have e1:(IntKind.i64.wrap (7*(k:Int))).toNat=7*k:=by rw[wrap_i64 ah ah];omega
 have e2:min (7*k) 64=7*k:=ah;rw[Mh hc,e1,e2,oW (x:=((c%128:Nat):Int)) ah ah];have e3:((c%128:Nat):Int)*2 ^ (7*k)=((c%128*128 ^ k:Nat):Int):=by
  rw[<-Qt];push_cast;rfl
 rw[e3,oW ah ah,Pu ah ah,<-Qt,EJ (by rw[Qt];exact hy)];rw[Qt];exact⟨rfl,ah⟩
set_option maxRecDepth 20000 in
def VO:∀ v:Fin 256,v.val |||128=v.val%128+128:=by decide
def VE : cn .or .u8 (IntKind.u8.wrap (x:Int)) 128=((x%128+128:Nat):Int):=by
 have e:IntKind.u8.wrap (x:Int)=((x%256:Nat):Int):=by rw[RU];omega
 rw[e];show IntKind.u8.wrap (((BitVec.ofInt 8 ((x%256:Nat):Int) |||BitVec.ofInt 8 128).toNat:Nat):Int)=_
 rw[BitVec.toNat_or,BT (w:=8) (by have e:(2:Nat) ^ 8=256:=by decide
                                  omega),show(BitVec.ofInt 8 128).toNat=128 from rfl,VO ⟨x%256,adw _ aA⟩,RU]
 show(((x%256%128+128:Nat)):Int)%256=_;omega
def YY : ((x:Int)).fdiv (2 ^ (7:Int).toNat)=((x/128:Nat):Int):=by
 rw[abt _ aA];rfl
end Go.Pk
namespace Go.Proofs.YtomdimlnggpgbaaGreatDoor
open Go Go.Sx Go.Pk
variable {x:Int}{j k n:Nat}
abbrev dg (x:Int):Int:=IntKind.u32.wrap x
def tZ (x:Int):dg x=x%4294967296:=by
 unfold dg IntKind.wrap;simp [IntKind.bits,IntKind.signed]
def okW (x:Int):Prop:=0<=x/\x<4294967296
def zY (x:Int):okW (dg x):=by
 rw[tZ];unfold okW;omega
def ql (h:okW x):dg x=x:=by
 rw[tZ];unfold okW at h;omega
def rF (x:Int):Int:=x/2+x%2*2147483648
def bE:Nat->Int->Int
 | 0,x=>x
 | n+1,x=>rF (bE n x)
def BA (x:Nat) (hx:x<4294967296):∀ n,n<=32->bE n (x:Int)=((x/2 ^ n+x%2 ^ n*2 ^ (32-n):Nat):Int)
 | 0,_=>by
  show(x:Int)=_;have:x/2 ^ 0+x%2 ^ 0*2 ^ (32-0)=x:=by simp [Nat.mod_one]
  rw[this]
 | n+1,h=>by
  have ih:=BA x hx n ah;show rF (bE n x)=_;rw[ih];obtain⟨T,hT⟩:∃ T,T=x/2 ^ n+x%2 ^ n*2 ^ (32-n):=⟨_,rfl⟩;rw[<-hT];have e1:rF (T:Int)=((T/2+T%2*2147483648:Nat):Int):=by unfold rF;omega
  rw[e1]
  congr 1
  have h2:2 ^ (32-n)=2*2 ^ (31-n):=by rw[show 32-n=(31-n)+1 by omega,ack,ach]
  have hd:x/2 ^ (n+1)=x/2 ^ n/2:=by rw[ack,Nat.div_div_eq_div_mul]
  have hm:x%2 ^ (n+1)=x%2 ^ n+2 ^ n*(x/2 ^ n%2):=by rw[ack,Nat.mod_mul]
  have hp:2 ^ n*2 ^ (31-n)=2147483648:=by rw[<-adA,show n+(31-n)=31 by omega]
  rw[hd,hm,show 32-(n+1)=31-n by omega,abS,Nat.mul_right_comm,hp];rw[h2]at hT;obtain⟨A,hA⟩:∃ A,A=x/2 ^ n:=⟨_,rfl⟩;obtain⟨B,hB⟩:∃ B,B=x%2 ^ n*2 ^ (31-n):=⟨_,rfl⟩;have hT:T=A+2*B:=by rw[hT,hA,hB,Nat.mul_left_comm]
  rw[<-hA,<-hB];omega
def FA (h:okW x) (n:Nat) (hn:n<=32):okW (bE n x):=by
 obtain⟨h0,h1⟩:=h
 induction n with
 | zero=>exact⟨h0,h1⟩
 | succ n ih =>
  have:=ih ah;unfold okW at this ⊢;show 0<=rF (bE n x)/\rF (bE n x)<_;unfold rF;omega
def Oo (h:okW x) (h1:1<=n) (h2:n<=31):cn .or .u32 (IntKind.u32.wrap (x*2 ^ (32-n))) (x.fdiv (2 ^ n))=bE n x:=by
 obtain⟨h0,h3⟩:=h;obtain⟨m,rfl⟩:∃ m:Nat,x=m:=⟨x.toNat,ah⟩;have hm:m<4294967296:=ah;rw[BA m hm n ah];have hp:2 ^ n*2 ^ (32-n)=4294967296:=by rw[<-adA,show n+(32-n)=32 by omega]
 have ha:IntKind.u32.wrap ((m:Int)*2 ^ (32-n))=((m%2 ^ n*2 ^ (32-n):Nat):Int):=by
  have e0:((m:Int)*2 ^ (32-n))=((m*2 ^ (32-n):Nat):Int):=by push_cast;rfl
  show dg _=_;rw[e0,tZ];have:m*2 ^ (32-n)%4294967296=m%2 ^ n*2 ^ (32-n):=by rw[<-hp,Nat.mul_mod_mul_right]
  rw[<-this];rfl
 have hb:(m:Int).fdiv (2 ^ n)=((m/2 ^ n:Nat):Int):=by
  have:((2:Int) ^ n)=((2 ^ n:Nat):Int):=by push_cast;rfl
  rw[this,abt _ (abR _)];rfl
 rw[ha,hb];have hlt:m/2 ^ n<2 ^ (32-n):=by
  rw[Nat.div_lt_iff_lt_mul (Nat.two_pow_pos n),ach,hp];exact hm
 have hor:(m%2 ^ n*2 ^ (32-n)) |||(m/2 ^ n)=m/2 ^ n+m%2 ^ n*2 ^ (32-n):=by
  rw[Nat.or_comm];exact EJ hlt
 have hdl:m/2 ^ n<=m:=Nat.div_le_self _ _;have hs:m/2 ^ n+m%2 ^ n*2 ^ (32-n)<4294967296:=by
  have h1:m%2 ^ n<2 ^ n:=adw _ (Nat.two_pow_pos n);have h2:m%2 ^ n+1<=2 ^ n:=h1;have h3:=acq (2 ^ (32-n)) h2;rw[hp,abS]at h3;omega
 have hA:m%2 ^ n*2 ^ (32-n)<4294967296:=Nat.lt_of_le_of_lt (Nat.le_add_left _ _) hs;show IntKind.u32.wrap (((BitVec.ofInt 32 ((m%2 ^ n*2 ^ (32-n):Nat):Int)) |||(BitVec.ofInt 32 ((m/2 ^ n:Nat):Int))).toNat:Int)=_;have ea:(BitVec.ofInt 32 ((m%2 ^ n*2 ^ (32-n):Nat):Int)).toNat=m%2 ^ n*2 ^ (32-n):=by
  rw[ab2,acf,ab8 (by rw[show 2 ^ 32=4294967296 from rfl];exact hA)]
 have eb:(BitVec.ofInt 32 ((m/2 ^ n:Nat):Int)).toNat=m/2 ^ n:=by
  rw[ab2,acf,ab8 (by rw[show 2 ^ 32=4294967296 from rfl];omega)]
 rw[ac1,ea,eb,hor];exact ql ⟨abR _,Int.ofNat_lt.2 hs⟩
def xor_not (h:okW x):cn .xor .u32 4294967295 x=4294967295-x:=by
 obtain⟨h0,h3⟩:=h;obtain⟨m,rfl⟩:∃ m:Nat,x=m:=⟨x.toNat,ah⟩;have hm:m<4294967296:=ah;show IntKind.u32.wrap (((BitVec.ofInt 32 4294967295) ^^^ (BitVec.ofInt 32 (m:Int))).toNat:Int)=_;have e:(BitVec.ofInt 32 4294967295:BitVec 32)=BitVec.allOnes 32:=by decide
 rw[e,BitVec.allOnes_xor,BitVec.toNat_not,ab2,acf,ab8 (by rw[show 2 ^ 32=4294967296 from rfl];omega)];show dg _=_;rw[ql ⟨ah,ah⟩];omega
def kI (a b c:Int):Int:=cn .xor .u32 (cn .xor .u32 a b) c
def iQ (a b:Int):Int:=cn .and .u32 a b
def ZA (x:Int):Int:=kI (bE 7 x) (bE 18 x) (x/8)
def Um (x:Int):Int:=kI (bE 17 x) (bE 19 x) (x/1024)
def smE (x:Int):Int:=kI (bE 6 x) (bE 11 x) (bE 25 x)
def smA (x:Int):Int:=kI (bE 2 x) (bE 13 x) (bE 22 x)
def shC (e f g:Int):Int:=cn .xor .u32 (iQ e f) (iQ (4294967295-e) g)
def shM (a b c:Int):Int:=cn .xor .u32 (cn .xor .u32 (iQ a b) (iQ a c)) (iQ b c)
def FG (m:List Int) (k:Nat):Int:=dg (m.getD (4*k) 0*16777216+m.getD (4*k+1) 0*65536+m.getD (4*k+2) 0*256+m.getD (4*k+3) 0)
def BC (w:List Int) (i:Nat):Int:=dg (dg (dg (w.getD (i-16) 0+ZA (w.getD (i-15) 0))+w.getD (i-7) 0)+Um (w.getD (i-2) 0))
def aP (m:List Int):Nat->List Int
 | 0=>[]
 | n+1=>aP m n++[if n<16 then FG m n else BC (aP m n) n]
def cV (m:List Int):∀ n,(aP m n).length=n
 | 0=>rfl
 | n+1=>by show(_++[_]).length=_;rw[aac,cV m n];rfl
def lJ (m:List Int):∀ (n j:Nat),j<n->(aP m n).getD j 0=if j<16 then FG m j else BC (aP m j) j
 | n+1,j,h=>by
  show(aP m n++[_]).getD j 0=_;rw[aap];by_cases hj:j<n
  .rw[aaC (by rw[cV];exact hj),<-aap];exact lJ m n j hj
  .have:j=n:=ah;subst this;rw[aav (by rw[cV];omega),cV,adh];rfl
def Fj (m:List Int) (h1:j<n) (h2:j<k):(aP m n).getD j 0=(aP m k).getD j 0:=by
 rw[lJ m n j h1,lJ m k j h2]
def CT:List Int:=[1116352408,1899447441,3049323471,3921009573,961987163,1508970993,2453635748,2870763221,3624381080,310598401,607225278,1426881987,1925078388,2162078206,2614888103,3248222580,3835390401,4022224774,264347078,604807628,770255983,1249150122,1555081692,1996064986,2554220882,2821834349,2952996808,3210313671,3336571891,3584528711,113926993,338241895,666307205,773529912,1294757372,1396182291,1695183700,1986661051,2177026350,2456956037,2730485921,2820302411,3259730800,3345764771,3516065817,3600352804,4094571909,275423344,430227734,506948616,659060556,883997877,958139571,1322822218,1537002063,1747873779,1955562222,2024104815,2227730452,2361852424,2428436474,2756734187,3204031479,3329325298]
abbrev Wd:=Nat->Int
def HO (v:Wd) (k w:Int):Int:=dg (dg (dg (dg (v 7+smE (v 4))+shC (v 4) (v 5) (v 6))+k)+w)
def O9 (v:Wd):Int:=dg (smA (v 0)+shM (v 0) (v 1) (v 2))
def tP (v:Wd) (k w:Int):Wd:=fun j=>match j with
 | 0=>dg (HO v k w+O9 v)
 | 4=>dg (v 3+HO v k w)
 | j+1=>v j
def cR (v:Wd) (w:List Int):Nat->Wd
 | 0=>v
 | n+1=>tP (cR v w n) (CT.getD n 0) (w.getD n 0)
def oU (v:Wd) (m:List Int):Wd:=fun j=>dg (v j+cR v (aP m 64) 64 j)
def c8:Wd:=fun j=>[1779033703,3144134277,1013904242,2773480762,1359893119,2600822924,528734635,1541459225].getD j 0
def Sd (x:Nat):List Int:=(List.range 8).map fun i=>((x/2 ^ (8*(7-i))%256:Nat):Int)
def gl (b:List Int):List Int:=b++[128]++List.replicate ((119-b.length%64)%64) 0++Sd (8*b.length)
def nC (v:Wd) (all:List Int):Nat->Wd
 | 0=>v
 | n+1=>oU (nC v all n) ((all.drop (64*n)).take 64)
def CU (b:List Int):Wd:=nC c8 (gl b) ((gl b).length/64)
def gm (b:List Int):List Int:=(List.range 32).map fun i=>CU b (i/4)/2 ^ (24-8*(i%4))%256
def fT (b:List Int):(gm b).length=32:=by simp [gm]
def Bt (b:List Int):∀ z∈gm b,0<=z/\z<256:=fun z hz=>by
 unfold gm at hz;obtain⟨i,_,rfl⟩:=aaW.1 hz;omega
def wa (b:List Int):(gl b).length=b.length+9+(119-b.length%64)%64/\(gl b).length%64=0:=by
 have h:(gl b).length=b.length+9+(119-b.length%64)%64:=by
  unfold gl Sd;simp only[aac,aba,aaw,abH,aaL,aa9];omega
 exact⟨h,by rw[h];omega⟩
def sd {v:Wd} (h:∀ j,j<8->okW (v j)) (w:List Int):∀ n j,j<8->okW (cR v w n j)
 | 0,j,hj=>h j hj
 | n+1,j,hj=>by
  have ih:=sd h w n;show okW (tP _ _ _ j);unfold tP;split
  .exact zY _
  .exact zY _
  .exact ih _ ah
def Qc {v:Wd} (h:∀ j,j<8->okW (v j)) (all:List Int):∀ n j,j<8->okW (nC v all n j)
 | 0,j,hj=>h j hj
 | n+1,j,hj=>zY _
def HN:∀ j,j<8->okW (c8 j):=by unfold okW;decide
end Go.Proofs.YtomdimlnggpgbaaGreatDoor
namespace Go.Proofs.YtomdimlnggpgbaaGreatDoor.D
open Go Go.Sx
variable {es es':Array MapEntry}{f g:E}{q:Env}{F H R R':Hl}{c frm fuse i most x y:Int}{k:IntKind}{bs bs' h:List Int}{mem t:Mem}{a clock clock' da j k1 k2 m n s:Nat}{e:TypeId}{dp dp' p sl sl' v:Value}
def aD:mT:=fun _=>none
def aQ (l:List Int) (b:Bool) (hs:List Hl):Env:=⟨fun k=>l.getD k 0,fun _=>b,fun _=>.empty,fun _=>.tuple #[],fun k=>hs.getD k Hl.none⟩
def KL {l:List (Int×Value)} (h:lW k es l) (hn:jk i l 0=none) (v:Value) (hs:MapKept.Stamped es clock) :
 ∃ es',rY (.int k) (.int k i) v es clock=.map es' (clock+1)/\lW k es' (l++[(i,v)])/\MapKept.Stamped es' (clock+1):=by
 refine⟨es.push ⟨.int k i,v,clock⟩,?_,?_,MapKept.stamped_push hs fun x hx he=>?_⟩
 .unfold rY;rw[mi h,hn]
 .unfold lW at h ⊢;rw[Array.toList_push,aaK,aaK,h];rfl
 .have:(x.key,x.val)∈l.map fun p=>(Value.int k p.1,p.2):=by
   rw[<-show es.toList.map (fun e=>(e.key,e.val))=_ from h];exact aaW.2 ⟨x,hx,rfl⟩
  obtain⟨q,hq,e⟩:=aaW.1 this;have h1:=yQ.1 hn q hq;rw[aaS]at e;rw[he]at e;exact h1 (Value.int.inj e.1).2
structure DM where
 n:Nat
 now:List Int
 loose:List (Int×List Int)
 fuse:Int
 gone:Bool
variable {D D':DM}
structure DM.ok (D:DM):Prop where
 now:D.now.length=64*D.n
 n:D.n<=16384
 f0:-1<=D.fuse
 f1:D.fuse<=9223372036854775807
 loose:∀ p∈D.loose,p.2.length=64/\0<=p.1/\p.1<D.n
def lv (l:List (Int×List Int)):List (Int×Value):=l.map fun p=>(p.1,.agg (aS p.2).toArray)
def jz (a s m n:Nat) (fuse:Int) (gone:Bool):Hl:=Hl.one a (.cells #[.slice (some ⟨s,0,none⟩) n n,.map (some m),.int .i64 fuse,.bool gone] 93 (0,0))
def mC (s:Nat) (now:List Int):Hl:=Hl.one s (.cells (aS now).toArray 119 (0,0))
structure rG (H:Hl) (a s m:Nat) (es:Array MapEntry) (clock:Nat) (D:DM):Prop where
 ok:D.ok
 map:lW .i64 es (lv D.loose)
 st:MapKept.Stamped es clock
 nas:a≠s
 nam:a≠m
 nsm:s≠m
 hl:H=cu [jz a s m D.n D.fuse D.gone,mC s D.now,Hl.one m (.map es clock)]
def aE (H:Hl) (v:Value) (D:DM):Prop:=∃ a s m es clock,v=.pointer (some ⟨a,0,none⟩)/\rG H a s m es clock D
def wM:Mem:=[.bd 0 [.sl (.var 6) (.var 7) (.var 8) (.var 9),.map (.var 10),.int .i64 (.var 11),.bool (.bvar 12)] 93,.hp 13 [] [.var 6] [],.hp 14 [] [.var 10] []]
def pn (a s m:Nat) (D:DM) (l:List Int) (es:Array MapEntry) (clock:Nat) (R:Hl):Env :=
 aQ (([(a:Int)]++l++[(s:Int),0,D.n,D.n,m,D.fuse])) D.gone (List.replicate 13 Hl.none++[mC s D.now,Hl.one m (.map es clock),R])
def Mz {gone:Bool} (h0:q.i 0=a) (h6:q.i 6=s) (h7:q.i 7=0) (h8:q.i 8=n) (h9:q.i 9=n) (h10:q.i 10=m) (hf:az q f=fuse) (hg:aY q g=gone) :
 (bm.bd 0 [.sl (.var 6) (.var 7) (.var 8) (.var 9),.map (.var 10),.int .i64 f,.bool g] 93).hl q=jz a s m n fuse gone:=by
 simp only[bm.hl,aax,aa8,CV.ev,au,h0,h6,h7,h8,h9,h10,hf,hg,aaa];rw[al ah,aal ah];rfl
def B7 (h:rG H a s m es clock D) (l:List Int) (hl:l.length=5) (R:Hl):Entry (pn a s m D l es clock R) wM [H] []:=by
 obtain⟨x1,x2,x3,x4,x5,rfl⟩:∃ x1 x2 x3 x4 x5,l=[x1,x2,x3,x4,x5]:=by
  match l,hl with
  | [x1,x2,x3,x4,x5],_=>exact⟨x1,x2,x3,x4,x5,rfl⟩
 have hb:(bm.bd 0 [.sl (.var 6) (.var 7) (.var 8) (.var 9),.map (.var 10),.int .i64 (.var 11),.bool (.bvar 12)] 93).hl (pn a s m D [x1,x2,x3,x4,x5] es clock R)=jz a s m D.n D.fuse D.gone:=Mz rfl rfl rfl rfl rfl rfl rfl rfl;have d1:(jz a s m D.n D.fuse D.gone).bq (mC s D.now):=Hl.iK h.nas;have d2:(jz a s m D.n D.fuse D.gone).bq (Hl.one m (.map es clock)):=Hl.iK h.nam;have d3:(mC s D.now).bq (Hl.one m (.map es clock)):=Hl.iK h.nsm;obtain⟨l1,l2,l3⟩:=Cg d1 d2 d3;refine⟨fun r hr ho=>⟨H,aC,?_⟩,fun r hr ho=>?_,?_,fun r hr=>?_⟩
 .rw[h.hl];simp only[wM,aan,aat,aaX]at hr;rcases hr with rfl | rfl | rfl
  .rw[hb];exact l1
  .exact l2
  .exact l3
 .simp only[wM,aan,aat,aaX]at hr;rcases hr with rfl | rfl | rfl<;>cases ho
 .unfold wM;refine List.Pairwise.cons (fun r hr _ _=>?_) (List.Pairwise.cons (fun r hr _ _=>?_) (List.Pairwise.cons (fun r hr=>by cases hr) List.Pairwise.nil))
  .rw[hb];simp only[aan,aat,aaX]at hr;rcases hr with rfl | rfl
   .exact d1
   .exact d2
  .simp only[aan,aat,aaX]at hr;subst hr;exact d3
 .simp only[wM,aan,aat,aaX]at hr;rcases hr with rfl | rfl | rfl
  .show(0:Int)<=(a:Int);omega
  .trivial
  .trivial
def PA (h:rG H a s m es clock D) (l:List Int) (hl:l.length=5) (R:Hl) (t:List E):Entry (pn a s m D l es clock R) (wM++[.ro 15 t false]) [H] [R]:=by
 obtain⟨h1,h2,h3,h4⟩:=B7 h l hl R;refine⟨fun r hr ho=>?_,fun r hr ho=>?_,?_,fun r hr=>?_⟩
 .rcases aaU.1 hr with hr | hr
  .exact h1 r hr ho
  .rw[aam]at hr;subst hr;cases ho
 .rcases aaU.1 hr with hr | hr
  .obtain⟨R,hR,_⟩:=h2 r hr ho;cases hR
  .rw[aam]at hr;subst hr;exact⟨R,aC,Hl.le_refl _⟩
 .rw[adn];refine⟨h3,aC,fun r _ s hs _ ho=>?_⟩;rw[aam]at hs;subst hs;cases ho
 .rcases aaU.1 hr with hr | hr
  .exact h4 r hr
  .rw[aam]at hr;subst hr;trivial
def ie (n:Int):Nat:=(min (max n 0) 16384).toNat
def fO (n:Int):DM:=⟨ie n,List.replicate (64*ie n) 0,[],-1,false⟩
def Eu:Sx.Spec where
 fn:=12
 own:=[]
 rd:=[]
 res:=[.one .ptr]
 pre:=fun xs Hs Rs=>∃ n,xs=[.int .i64 n]
 post:=fun xs Hs Rs v Hs' F=>∃ n,xs=[.int .i64 n]/\aE F v (fO n)
def KP:aF Tryz.prog [] Eu.fn where
 Λ:=aD
 args:=[TI .i64 (.var 0)]
 mem:=[]
 nv:=1
def Ns (k n:Nat) (hk:0<k) (z:Value):madeCells (List.replicate k z).toArray n=(List.replicate n z).toArray:=by
 apply Array.ext
 .simp [madeCells]
 .intro i h1 h2;simp [madeCells,ab7,adw _ hk]
def GQ (n:Nat):madeCells (List.replicate 64 (Value.int .u8 0)).toArray (n*64)=(aS (List.replicate (64*n) 0)).toArray:=by
 rw[Ns 64 _ ah,ach];unfold aS;rw[acD]
def Jc:Eu.OK Tryz.prog:=by
 refine Spec.aV (Γ:=[]) (fun _ h=>by cases h) ?_;rintro xs Hs Rs hl1 hl2 ⟨n,rfl⟩;have e0:Hs=[]:=aad.1 hl1;have e1:Rs=[]:=aad.1 hl2;subst e0;subst e1;refine⟨KP,aQ [n] false [],fun _ _=>True,fun _ _=>0,?_,⟨?_,?_,?_,?_⟩,(fun _ h=>nomatch h),?_⟩
 .simp [KP,TI,TV.ev,SV.ev,CV.ev,au,aQ]
 .intro r hr;simp [KP]at hr
 .intro r hr;simp [KP]at hr
 .simp [KP]
 .intro r hr;simp [KP]at hr
 .refine aF.read [] [] [] ?_;simp only[go_sem,Nat.reduceAdd];have e:(if(16384:Int)<if n<0 then 0 else n then 16384 else if n<0 then 0 else n)=(ie n:Int):=by
   unfold ie;split<;>split<;>omega
  have hs:ie n<=16384:=by unfold ie;omega
  have hn0:(aQ [n] false []).i 0=n:=rfl;rw[hn0];simp only[e];refine⟨⟨ah,ah,ah⟩,fun q1 g1 ⟨p1,hh1⟩ q2 g2 ⟨p2,hh2⟩ q3 g3 p3 hd=>?_⟩;have i0:q3.i 0=n:=by rw[g3.i 0,g2.i 0,g1.i 0];rfl
  have i1:q3.i 1=q1.i 1:=by rw[g3.i 1,g2.i 1]
  have i2:q3.i 2=q2.i 2:=by rw[g3.i 2]
  obtain⟨s,hs1⟩:=abu p1;obtain⟨m,hm1⟩:=abu p2;obtain⟨a,ha1⟩:=abu p3;rw[hs1]at i1 hh1;rw[hm1]at i2 hh2;rw[aaa]at hh1 hh2;have ez:(List.replicate 64 (CV.int IntKind.u8 (E.lit 0))).map (CV.ev (aQ [n] false []))=List.replicate 64 (Value.int .u8 0):=rfl;rw[ez]at hh1;have h1:q3.h 1=mC s (fO n).now:=by
   rw[g3.h 1,g2.h 1,hh1,aba,aaa,GQ];rfl
  have h2:q3.h 2=Hl.one m (.map #[] 0):=by rw[g3.h 2,hh2]
  have h3:(bm.bd 3 [.sl (.var 1) (.lit 0) (.ite (.lt (.lit 16384) (.ite (.lt (.var 0) (.lit 0)) (.lit 0) (.var 0))) (.lit 16384) (.ite (.lt (.var 0) (.lit 0)) (.lit 0) (.var 0))) (.ite (.lt (.lit 16384) (.ite (.lt (.var 0) (.lit 0)) (.lit 0) (.var 0))) (.lit 16384) (.ite (.lt (.var 0) (.lit 0)) (.lit 0) (.var 0))),.map (.var 2),.int .i64 (.lit (-1)),.bool .ff] 93).hl q3=jz a s m (ie n) (-1) false:=by
   simp only[bm.hl,aax,aa8,CV.ev,qX,qU,jv,jZ,iR,qW,my,oK,lZ,ga,mo,mz,qV,mv,mq,jw,mw,aq,au,bQ,dj,cx,bJ,fg,fL,fM,fN,je,gb,iv,fR,cq,ui,aaf,i0,i1,i2,ha1,e,aaa];rw[al ah,aal ah];rfl
  have d01:=hd 0 1 _ _ aA rfl rfl rfl;have d02:=hd 0 2 _ _ aA rfl rfl rfl;have d12:=hd 1 2 _ _ aA rfl rfl rfl;rw[h3]at d02 d12;have d01:(q3.h 1).bq (q3.h 2):=d01;have d02:(q3.h 1).bq (jz a s m (ie n) (-1) false):=d02;have d12:(q3.h 2).bq (jz a s m (ie n) (-1) false):=d12;rw[h1]at d01 d02;rw[h2]at d01 d12;have nsm:s≠m:=fun e=>Hl.fE.1 d01 (Hl.cm.2 e);have nas:a≠s:=fun e=>Hl.fE.1 d02 (Hl.cm.2 e.symm);have nam:a≠m:=fun e=>Hl.fE.1 d12 (Hl.cm.2 e.symm);refine⟨[],[2,0,1],rfl,rfl,⟨q3.fz 0 (q3.i 3) |>.fz 1 0,rfl,⟨by show -1<=q3.i 3;omega,aar _⟩,zzT⟩,n,rfl,a,s,m,#[],0,?_,⟨⟨?_,hs,by show(-1:Int)<= -1;omega,by show(-1:Int)<=_;omega,fun p hp=>by cases hp⟩,rfl,MapKept.stamped_empty _,nas,nam,nsm,?_⟩⟩
  .simp only[TV.ev,SV.ev,CV.ev,au,aq,ha1];rw[al ah];rfl
  .show(List.replicate (64*ie n) (0:Int)).length=_;rw[aba];rfl
  .show cu [_,q3.h 1,q3.h 2]=_;rw[h1,h2]
   congr 1
   congr 1
def Tf {a b:List (Int×List Int)} (h:lv a=lv b):a=b:=by
 apply aaN;intro j;have:=aaQ (fun l=>l[j]?) h;simp only[lv,aao]at this;cases ha:a[j]? with
 | none =>
  cases hb:b[j]? with
  | none=>rfl
  | some q=>simp [ha,hb]at this
 | some p =>
  cases hb:b[j]? with
  | none=>simp [ha,hb]at this
  | some q =>
   simp only[ha,hb,aaT,aak,aaS,Value.agg.injEq]at this;obtain⟨h1,h2⟩:=this;have h3:=aaQ Array.toList h2;have h4:=jx h3;obtain⟨p1,p2⟩:=p;obtain⟨q1,q2⟩:=q;simp only at h1 h4;rw[h1,h4]
def lW.inj {a b:List (Int×Value)} (h1:lW k es a) (h2:lW k es b):a=b:=by
 unfold lW at h1 h2;rw[h1]at h2;apply aaN;intro j;have:=aaQ (fun l=>l[j]?) h2;simp only[aao]at this;cases ha:a[j]?<;>cases hb:b[j]?<;>simp [ha,hb]at this ⊢
 exact Prod.ext this.1 this.2
def rG.at (h:rG H a s m es clock D) :
 H a=some (.cells #[.slice (some ⟨s,0,none⟩) D.n D.n,.map (some m),.int .i64 D.fuse,.bool D.gone] 93 (0,0))/\H s=some (.cells (aS D.now).toArray 119 (0,0))/\H m=some (.map es clock):=by
 obtain⟨l1,l2,l3⟩:=Cg (A:=jz a s m D.n D.fuse D.gone) (B:=mC s D.now) (C:=Hl.one m (.map es clock)) (Hl.iK h.nas) (Hl.iK h.nam) (Hl.iK h.nsm);rw[h.hl];exact⟨l1 _ _ (Hl.aN _ _),l2 _ _ (Hl.aN _ _),l3 _ _ (Hl.aN _ _)⟩
def aE.uniq (h:aE H v D) (h':aE H v D'):D=D':=by
 obtain⟨a,s,m,es,clock,rfl,h⟩:=h;obtain⟨a',s',m',es',clock',he,h'⟩:=h';simp only[Value.pointer.injEq,aak,Addr.mk.injEq,aau]at he;subst he;obtain⟨x1,x2,x3⟩:=h.at;obtain⟨y1,y2,y3⟩:=h'.at;rw[x1]at y1;simp only[aak,Obj.cells.injEq,aaH,aag,Value.slice.injEq,Addr.mk.injEq,Value.map.injEq,Value.int.injEq,Value.bool.injEq,aau,aaZ]at y1;obtain⟨⟨rfl,hn,_⟩,rfl,hf,hg⟩:=y1;rw[x2]at y2;rw[x3]at y3;simp only[aak,Obj.cells.injEq,aaO,aau]at y2;simp only[aak,Obj.map.injEq]at y3;obtain⟨rfl,rfl⟩:=y3;have e1:=jx (aaQ Array.toList y2);have e2:=Tf (lW.inj h.map h'.map);obtain⟨n,now,loose,fuse,gone⟩:=D;obtain⟨n',now',loose',fuse',gone'⟩:=D';simp only at hn hf hg e1 e2;subst hn hf hg e1 e2;rfl
def Iz (hok:D.ok) (hm:lW .i64 es (lv D.loose)) (hst:MapKept.Stamped es clock) (h1:a≠s) (h2:a≠m) (h3:s≠m)
 (e1:pT q mem 0=jz a s m D.n D.fuse D.gone) (e2:pT q mem 1=mC s D.now) (e3:pT q mem 2=Hl.one m (.map es clock)):rG (ue q mem [0,1,2]) a s m es clock D :=
 ⟨hok,hm,hst,h1,h2,h3,by show cu [pT q mem 0,pT q mem 1,pT q mem 2]=_;rw[e1,e2,e3]⟩
def jm (a:Nat):Value.pointer (ar (a:Int) 0)=.pointer (some ⟨a,0,none⟩):=by rw[al ah];rfl
def ib (f:FuncId) (num:DM->Int):Sx.Spec where
 fn:=f
 own:=[.arg 0]
 rd:=[]
 res:=[.one (.int .i64)]
 pre:=fun xs Hs Rs=>∃ p H D,xs=[p]/\Hs=[H]/\aE H p D
 post:=fun xs Hs Rs v Hs' F=>∃ p H D H',xs=[p]/\Hs=[H]/\aE H p D/\Hs'=[H']/\aE H' p D/\v=.int .i64 (num D)
def lL:=ib 43 fun D=>D.n
def OE:aF Tryz.prog [] lL.fn where
 Λ:=aD
 args:=[TP (.var 0) (.lit 0)]
 mem:=wM
 nv:=15
def wy:lL.OK Tryz.prog:=by
 refine Spec.aV (Γ:=[]) (fun _ h=>by cases h) ?_;rintro xs Hs Rs hl1 hl2 ⟨p,H,D,rfl,rfl,a,s,m,es,clock,rfl,h⟩;have e1:Rs=[]:=aad.1 hl2;subst e1;refine⟨OE,pn a s m D [0,0,0,0,0] es clock Hl.none,fun _ _=>True,fun _ _=>0,?_,B7 h _ rfl _,(fun _ h=>nomatch h),?_⟩
 .show [Value.pointer (ar (a:Int) 0)]=_;rw[jm]
 .refine aF.read [] [] [] ?_;simp only[go_sem,Nat.reduceAdd];refine⟨by show(0:Int)<=(D.n:Int);omega,fun _=>⟨[[0,1,2]],[],rfl,rfl,⟨(bh fun _=>D.n),rfl,zzT,zzT⟩,_,H,D,_,rfl,rfl,⟨a,s,m,es,clock,rfl,h⟩,rfl,⟨a,s,m,es,clock,rfl,?_⟩,rfl⟩⟩;exact Iz h.ok h.map h.st h.nas h.nam h.nsm (Mz rfl rfl rfl rfl rfl rfl rfl rfl) rfl rfl
def DM.has (D:DM) (i:Int):Bool:=decide (0<=i/\i<D.n)
def DM.bG (D:DM) (i:Int):List Int:=(D.now.drop (64*i.toNat)).take 64
def gT (D:DM) (i:Int):List Int×Int:=if D.has i=false then([],1)else if D.gone then([],5)else(D.bG i,0)
def gj (h:D.ok) (hi:D.has i=true):(D.bG i).length=64:=by
 unfold DM.has at hi;simp only[aaf]at hi;unfold DM.bG;rw[aaA,aaV,h.now];omega
def zG (h:D.ok) (hi:D.has i=true) (hj:j<64):(D.bG i)[j]?=D.now[64*i.toNat+j]?:=by
 unfold DM.bG;rw[abc hj,aa0]
def yX (s y:Nat):(mC s D.now).cell s y=(D.now[y]?).map (Value.int .u8):=by
 unfold mC;rw[Hl.lD,abi,fD]
def Bf:Sx.Spec where
 fn:=122
 own:=[.arg 0]
 rd:=[]
 res:=[.one .sl,.one (.int .i64)]
 pre:=fun xs Hs Rs=>∃ p i H D,xs=[p,.int .i64 i]/\Hs=[H]/\aE H p D
 post:=fun xs Hs Rs v Hs' F=>∃ p i H D H' u,xs=[p,.int .i64 i]/\Hs=[H]/\aE H p D/\Hs'=[H']/\aE H' p D/\v=.tuple #[u,.int .i64 (gT D i).2]/\bM F 5 u (gT D i).1
def Wa:aF Tryz.prog [] Bf.fn where
 Λ:=aD
 args:=[TP (.var 0) (.lit 0),TI .i64 (.var 1)]
 mem:=wM
 nv:=15
def E4:Bf.OK Tryz.prog:=by
 refine Spec.aV (Γ:=[]) (fun _ h=>by cases h) ?_;rintro xs Hs Rs hl1 hl2 ⟨p,i,H,D,rfl,rfl,a,s,m,es,clock,rfl,h⟩;have e1:Rs=[]:=aad.1 hl2;subst e1;refine⟨Wa,pn a s m D [i,0,0,0,0] es clock Hl.none,fun _ _=>True,fun _ _=>0,?_,B7 h _ rfl _,(fun _ h=>nomatch h),?_⟩
 .show [Value.pointer (ar (a:Int) 0),Value.int .i64 i]=_;rw[jm]
 .refine aF.read [] [] [] ?_;simp only[go_sem,Nat.reduceAdd];have v1:(pn a s m D [i,0,0,0,0] es clock Hl.none).i 1=i:=rfl;have v6:(pn a s m D [i,0,0,0,0] es clock Hl.none).i 6=s:=rfl;have v7:(pn a s m D [i,0,0,0,0] es clock Hl.none).i 7=0:=rfl;have v8:(pn a s m D [i,0,0,0,0] es clock Hl.none).i 8=D.n:=rfl;have vb:(pn a s m D [i,0,0,0,0] es clock Hl.none).b 12=D.gone:=rfl;rw[v1,v6,v7,v8,vb];have cH:∀ (q:Env) (t:Mem),ai 15 (pn a s m D [i,0,0,0,0] es clock Hl.none) q->aE (ue q (wM++t) [0,1,2]) (.pointer (some ⟨a,0,none⟩)) D:=fun q t g =>
   ⟨a,s,m,es,clock,rfl,Iz h.ok h.map h.st h.nas h.nam h.nsm (Mz (f:=.var 11) (g:=.bvar 12) (g.i 0) (g.i 6) (g.i 7) (g.i 8) (g.i 9) (g.i 10) (g.i 11) (g.b 12)) (g.h 13) (g.h 14)⟩
  have bad:∀ e:Int,gT D i=([],e)->postOf Bf [.pointer (some ⟨a,0,none⟩),.int .i64 i] [H] [] (pn a s m D [i,0,0,0,0] es clock Hl.none) wM (.tup [.one (.sl (.lit (-1)) (.lit 0) (.lit 0) (.lit 0)),.one (.int .i64 (.lit e))]):=fun e he _ =>
   ⟨[[0,1,2]],[],rfl,rfl,⟨(bh fun k=>[-1,0,0,0,e].getD k 0),rfl,⟨by show(-1:Int)<= -1;omega,aar _,aar _,aar _⟩,zzT,zzT⟩,_,i,H,D,_,_,rfl,rfl,⟨a,s,m,es,clock,rfl,h⟩,rfl,cH _ [] (ai.refl _ _),by rw[he];rfl,by rw[he];exact⟨rfl,Or.inl ⟨rfl,rfl⟩⟩⟩
  refine⟨fun h0=>⟨ah,fun hn=>bad 1 ?_,fun hn=>⟨fun hg=>bad 5 ?_,fun hg=>⟨ah,ah,fun q1 g1 p1=>⟨⟨⟨[],?_⟩,ah,Or.inl ⟨?_,?_,ah,?_⟩,aA,aA⟩,fun q2 g2 ⟨a1,a2,a3,_⟩ _=>?_⟩⟩⟩⟩,fun h0=>bad 1 ?_⟩
  .unfold gT DM.has;rw[aay (by simp only[aa6];omega)]
  .have hh:D.has i=true:=by unfold DM.has;simpa using ⟨h0,hn⟩
   unfold gT;rw[hh,hg];rfl
  .refine⟨rfl,Or.inr ⟨(q1.i 15).toNat,0,#[],by rw[al p1];rfl,Hl.aN _ _,ah,aA,rfl,rfl⟩⟩
  .rw[g1.i 6,v6];omega
  .rw[g1.i 7,g1.i 1,v7,v1];omega
  .intro j hj;have hj:j<64:=hj;rw[g1.h 13,g1.i 6,g1.i 7,g1.i 1,v6,v7,v1];show ∃ v,(mC s D.now).cell s _=some v/\_;rw[yX,aab (by rw[h.ok.now];omega)];exact⟨_,rfl,rfl⟩
  .have hh:D.has i=true:=by unfold DM.has;simpa using ⟨h0,hn⟩
   have hr:gT D i=(D.bG i,0):=by
    unfold gT;rw[hh];simp only[Bool.true_eq_false,abP];rw[aal hg]
   have hsl:=gj h.ok hh;have hseg:bR (q1.h 13) (q1.i 6).toNat (q1.i 7+q1.i 1*64).toNat (Int.toNat 64)=aS (D.bG i):=by
    rw[g1.h 13,g1.i 6,g1.i 7,g1.i 1,v6,v7,v1];show bR (mC s D.now) s _ 64=_;unfold bR;apply aaN;intro j;rw[aao,fD];rcases aa5 j 64 with hj | hj
    .rw[aaJ hj,aaT,yX,zG h.ok hh hj,show(0+i*64).toNat+j=64*i.toNat+j by omega,aab (by rw[h.ok.now];omega)];rfl
    .rw[aas (by simpa using hj),aas ah];rfl
   have hx:=a3 [] ⟨rfl,Or.inr ⟨(q1.i 15).toNat,0,#[],by rw[al p1];rfl,Hl.aN _ _,ah,aA,rfl,rfl⟩⟩;rw[hseg,abE]at hx;refine⟨[[0,1,2]],[3],rfl,rfl,⟨(bh fun k=>[q2.i 16,0,64,q2.i 17,0].getD k 0),rfl,⟨a1,aar _,by show(0:Int)<=64;omega,a2⟩,zzT,zzT⟩,_,i,H,D,_,_,rfl,rfl,⟨a,s,m,es,clock,rfl,h⟩,rfl,cH q2 _ (g1.tr g2),by rw[hr];rfl,?_⟩;rw[hr];show aK (cu [q2.h 16]) _ _ _ _ _;rw[aL,hsl];exact hx
  .unfold gT DM.has;rw[aay (by simp only[aa6];omega)]
def qQ (D:DM) (i:Int) (bs:List Int):DM:=⟨D.n,bz D.now (64*i.toNat) bs,if(jk i (lv D.loose) 0).isSome then D.loose else D.loose++[(i,D.bG i)],if 0<D.fuse then D.fuse-1 else D.fuse,false⟩
def dd (D:DM) (i:Int) (bs:List Int):Int×DM :=
 if D.has i=false\/bs.length≠64 then(1,D)else if D.gone then(5,D)else if D.fuse=0 then(5,{D with gone:=true})else(0,qQ D i bs)
def Ac (rdP:Hl->Value->List Int->Prop):Sx.Spec where
 fn:=158
 own:=[.arg 0]
 rd:=[2]
 res:=[.one (.int .i64)]
 pre:=fun xs Hs Rs=>∃ p i u bs H R D,xs=[p,.int .i64 i,u]/\Hs=[H]/\Rs=[R]/\aE H p D/\rdP R u bs
 post:=fun xs Hs Rs v Hs' F=>∃ p i u bs H R D H',xs=[p,.int .i64 i,u]/\Hs=[H]/\Rs=[R]/\aE H p D/\rdP R u bs/\Hs'=[H']/\aE H' p (dd D i bs).2/\v=.int .i64 (dd D i bs).1
def Dd:Sx.Spec:=Ac nN
def qL (f:E):Nd:=(fun a k h i j=>(fun b c d g l=>(.and (.pre c) (.ext c (.ext (.alloc 81) (.and (.imp (.not (.bvar 80)) (.and (.e (.le h i)) (.and (.e (.le h (.var 7))) (.and (.e (.hby 13 i a (.lit 64))) (.and (.pre d) (.ext d (.and (.e (.le h (.var 2))) (.and (.e (.le h (.var 3))) (.and j (.and (.pre (.put 83 13 i a b)) (.ext (.put 83 13 i a b) (.post [.bd 0 g 93,.hp 83 [13] [.var 6] [],.hp 82 [14] [.var 10] [],.ro 15 [.var 2] false,.dead] l)))))))))))) (.imp (.bvar 80) (.and (.e (.le h (.var 2))) (.and (.e (.le h (.var 3))) (.and j (.and (.e (.le h i)) (.and (.e (.le h (.var 7))) (.and (.pre (.put 82 13 i a b)) (.ext (.put 82 13 i a b) (.post [.bd 0 g 93,.hp 82 [13] [.var 6] [],.hp 14 [] [.var 10] [],.ro 15 [.var 2] false,.dead] l)))))))))))):Nd)) (aU 15 (.var 2) (.var 3) 0 k) (.mget 16 14 (.var 10) (.int .i64) (.int .i64 (.var 1)) (.agg (List.replicate 64 (CV.int .u8 h))) (List.replicate 64 (Ck.int .u8)) true) (.mset 82 14 (.var 10) (.int .i64) (.int .i64 (.var 1)) (.agg (aU 13 i a 0 k))) [.sl i (.var 7) (.var 8) (.var 9),.map (.var 10),.int .i64 f,.bool (.bvar 12)] (.sv (.one (.int .i64 h)))) (.add (.var 7) (.mul (.var 1) (.lit 64))) (List.replicate 64 (Kd.int .u8)) (.lit 0) (.var 6) (.e (.hby 15 (.var 2) (.var 3) (.lit 64)))
def JT:Nd:=(fun g c d f=>(fun a=>(fun b=>(.and (.imp (.le d (.var 1)) (.and (.e (.le d g)) (.and (.imp (.lt (.var 1) g) (.and (.e (.le d (.var 4))) (.and (.imp (.not (.eq (.var 4) (.lit 64))) b) (.imp (.eq (.var 4) (.lit 64)) (.and (.imp (.not (.bvar 12)) (.and (.imp (.eq c d) (.post [.bd 0 [.sl (.var 6) (.var 7) g (.var 9),.map (.var 10),.int .i64 c,.bool .tt] 93,.hp 13 [] [.var 6] [],.hp 14 [] [.var 10] [],.ro 15 [.var 2] false] f)) (.imp (.not (.eq c d)) (.and (.imp (.lt d c) (qL (.wrap .i64 (.sub c (.lit 1))))) (.imp (.not (.lt d c)) (qL c)))))) (.imp (.bvar 12) (.post a f))))))) (.imp (.not (.lt (.var 1) g)) b)))) (.imp (.not (.le d (.var 1))) b):Nd)) (.post a (.sv (.one (.int .i64 (.lit 1)))))) [.bd 0 [.sl (.var 6) (.var 7) g (.var 9),.map (.var 10),.int .i64 c,.bool (.bvar 12)] 93,.hp 13 [] [.var 6] [],.hp 14 [] [.var 10] [],.ro 15 [.var 2] false]) (.var 8) (.var 11) (.lit 0) (.sv (.one (.int .i64 (.lit 5))))
def Uj:aF Tryz.prog [] 158 where
 Λ:=aD
 args:=[TP (.var 0) (.lit 0),TI .i64 (.var 1),.sv (.one (.sl (.var 2) (.var 3) (.var 4) (.var 5)))]
 mem:=wM++[.ro 15 [.var 2] false]
 nv:=16
def Mr (l:List Int):(aS l).map lQ=List.replicate l.length (.int .u8):=by
 unfold aS;rw[abI]
 induction l with
 | nil=>rfl
 | cons a l ih=>rw[aax,aaL,ac0,ih];rfl
def Jo (h:D.ok) (hi:D.has i=true) (hb:bs.length=64):(qQ D i bs).ok:=by
 have hh:0<=i/\i<D.n:=by unfold DM.has at hi;simpa using hi
 refine⟨?_,h.n,?_,?_,fun p hp=>?_⟩
 .show(bz D.now (64*i.toNat) bs).length=_;rw[Ap (by rw[h.now];omega),h.now];rfl
 .have:=h.f0;show(-1:Int)<=if 0<D.fuse then D.fuse-1 else D.fuse
  split<;>omega
 .have:=h.f1;show(if 0<D.fuse then D.fuse-1 else D.fuse)<=(9223372036854775807:Int);split<;>omega
 .have hp:p∈(if(jk i (lv D.loose) 0).isSome then D.loose else D.loose++[(i,D.bG i)]):=hp;split at hp
  .exact h.loose p hp
  .rcases aaU.1 hp with hp | hp
   .exact h.loose p hp
   .rw[aam]at hp;subst hp;exact⟨gj h hi,hh.1,hh.2⟩
def KI (a:List (Int×List Int)) (i:Int) (l:List Int):lv (a++[(i,l)])=lv a++[(i,.agg (aS l).toArray)]:=by simp [lv]
def MB (s y:Nat) (now bs:List Int):(mC s now).put s y (aS bs)=mC s (bz now y bs):=by
 unfold mC;rw[Hl.Cv,<-HT]
def Je (h:D.ok) (hi:D.has i=true) (s:Nat):∀ j z,(D.bG i)[j]?=some z->(mC s D.now).cell s (64*i.toNat+j)=some (.int .u8 z):=by
 intro j z hz;have hl:=gj h hi;have hj:j<64:=by have:=(aah.1 hz).1;omega
 rw[yX,<-zG h hi hj,hz];rfl
def LP {rdP:Hl->Value->List Int->Prop} (hw:∀ {R u bs},rdP R u bs->fC R u bs):(Ac rdP).OK Tryz.prog:=by
 refine Spec.aV (Γ:=[]) (fun _ h=>by cases h) ?_;rintro xs Hs Rs hl1 hl2 ⟨p,i,u,bs,H,R,D,rfl,rfl,rfl,⟨a,s,m,es,clock,rfl,h⟩,hRd⟩;obtain⟨x,y,cp,rfl,hy,hR⟩:=hw hRd;refine⟨Uj,pn a s m D [i,x,y,bs.length,cp] es clock R,fun _ _=>True,fun _ _=>0,?_,PA h _ rfl _ _,(fun _ h=>nomatch h),?_⟩
 .show [Value.pointer (ar (a:Int) 0),Value.int .i64 i,Value.slice (ar x y) ((bs.length:Int)).toNat ((cp:Int)).toNat]=_;rw[jm,aaa,aaa]
 .refine aF.lit (x:=JT) ?_;generalize hρ:pn a s m D [i,x,y,bs.length,cp] es clock R=J;have v0:J.i 0=a:=by rw[<-hρ];rfl
  have v1:J.i 1=i:=by rw[<-hρ];rfl
  have v2:J.i 2=x:=by rw[<-hρ];rfl
  have v3:J.i 3=y:=by rw[<-hρ];rfl
  have v4:J.i 4=bs.length:=by rw[<-hρ];rfl
  have v6:J.i 6=s:=by rw[<-hρ];rfl
  have v7:J.i 7=0:=by rw[<-hρ];rfl
  have v8:J.i 8=D.n:=by rw[<-hρ];rfl
  have v9:J.i 9=D.n:=by rw[<-hρ];rfl
  have v10:J.i 10=m:=by rw[<-hρ];rfl
  have v11:J.i 11=D.fuse:=by rw[<-hρ];rfl
  have vb:J.b 12=D.gone:=by rw[<-hρ];rfl
  have vh:J.h 13=mC s D.now:=by rw[<-hρ];rfl
  have vm:J.h 14=Hl.one m (.map es clock):=by rw[<-hρ];rfl
  have vr:J.h 15=R:=by rw[<-hρ];rfl
  have hI:∀ q,ai 16 J q->∀ k,k<16->q.i k=J.i k:=fun q g k h=>g.i k h;have ent:aE H (.pointer (some ⟨a,0,none⟩)) D:=⟨a,s,m,es,clock,rfl,h⟩;have out:∀ (q:Env) (f g:E) (k1 k2:Nat) (t:Mem) (ts:List E) (v1 v2:List Nat) (c:Int) (D':DM) (es':Array MapEntry) (clock':Nat),ai 16 J q->dd D i bs=(c,D')->D'.ok->D'.n=D.n->(lW .i64 es' (lv D'.loose)/\MapKept.Stamped es' clock')->az q f=D'.fuse->aY q g=D'.gone->q.h k1=mC s D'.now->q.h k2=Hl.one m (.map es' clock') ->
   postOf (Ac rdP) [.pointer (some ⟨a,0,none⟩),.int .i64 i,.slice (ar x y) bs.length cp] [H] [R] q
    (.bd 0 [.sl (.var 6) (.var 7) (.var 8) (.var 9),.map (.var 10),.int .i64 f,.bool g] 93::.hp k1 v1 [.var 6] []::.hp k2 v2 [.var 10] []::t) (.sv (.one (.int .i64 (.lit c)))):=by
   intro q f g k1 k2 t ts w1 w2 c D' es' clock' hq hw hok hn hm hf hg h1 h2 _;refine⟨[[0,1,2]],[],rfl,rfl,⟨(bh fun _=>c),rfl,zzT,zzT⟩,_,i,_,bs,H,R,D,_,rfl,rfl,rfl,ent,hRd,rfl,⟨a,s,m,es',clock',rfl,?_⟩,by rw[hw];rfl⟩;rw[hw];refine Iz hok hm.1 hm.2 h.nas h.nam h.nsm (Mz ?_ ?_ ?_ ?_ ?_ ?_ hf hg) h1 h2
   .rw[hq.i 0,v0]
   .rw[hq.i 6,v6]
   .rw[hq.i 7,v7]
   .rw[hq.i 8,v8];show(D.n:Int)=(D'.n:Int);rw[hn]
   .rw[hq.i 9,v9];show(D.n:Int)=(D'.n:Int);rw[hn]
   .rw[hq.i 10,v10]
  have tail:∀ f:E,(∀ q,ai 16 J q->az q f=if 0<D.fuse then D.fuse-1 else D.fuse)->D.has i=true->bs.length=64->D.gone=false->D.fuse≠0->(qL f).holds ⟨[],fun _ _=>True,fun _ _=>0,postOf (Ac rdP) [.pointer (some ⟨a,0,none⟩),.int .i64 i,.slice (ar x y) bs.length cp] [H] [R]⟩ (fun _=>0) J:=by
   intro f hf hi hb hg hz;have hh:0<=i/\i<D.n:=by unfold DM.has at hi;simpa using hi
   have hw:dd D i bs=(0,qQ D i bs):=by
    unfold dd;rw[aal (by rw[hi,hb];simp),aal (by rw[hg];simp),aal hz]
   have hx:0<=x/\∀ j z,bs[j]?=some z->R.cell x.toNat (y.toNat+j)=some (.int .u8 z):=by
    rcases hR with h | h
    .rw[h]at hb;cases hb
    .exact h
   have hpok:=Jo h.ok hi hb;have hsl:=gj h.ok hi;unfold qL;simp only[go_sem,Nat.reduceAdd];rw[v10,v1,vm];have hmem:(Hl.one m (.map es clock)) ((m:Int)).toNat=some (.map es clock):=by rw[aaa];exact Hl.aN _ _
   refine⟨⟨ah,es,clock,_,hmem,mi h.map i,?_⟩,fun q1 g1 hq1 q2 g2 _=>?_⟩
   .intro j v hv;obtain⟨_,hv⟩:=yR hv;unfold lv at hv;rw[aao,aai]at hv;obtain⟨p,hp,he⟩:=hv;cases he;have:=(h.ok.loose p (aae hp)).1;refine⟨_,rfl,?_⟩;show(aS p.2).map lQ=_;rw[Mr,this]
   .obtain⟨_,hb80⟩:=hq1 es clock _ hmem (mi h.map i);have hb80:q1.b 80=(jk i (lv D.loose) 0).isSome:=hb80;have e80:q2.b 80=(jk i (lv D.loose) 0).isSome:=by rw[g2.b 80,hb80]
    have g12:ai 16 J q2:=g1.tr g2;have hby:∀ q,ai 16 J q->bC (q.h 15) (q.i 2).toNat (q.i 3).toNat (Int.toNat 64)=true:=by
     intro q g;rw[g.h 15,g.i 2,g.i 3,vr,v2,v3];exact cW hx.2 (by rw[hb];decide)
    have hcs:∀ q,ai 16 J q->(aU 15 (.var 2) (.var 3) 0 (List.replicate 64 (Kd.int .u8))).map (CV.ev q)=aS bs:=by
     intro q g;refine iM 64 0 bs hb fun j z hz=>?_;rw[g.h 15,au,au,g.i 2,g.i 3,vr,v2,v3,aaM];exact hx.2 j z hz
    have hat:∀ q,ai 16 J q->(q.i 7+q.i 1*64).toNat=64*i.toNat:=by
     intro q g;rw[g.i 7,g.i 1,v7,v1];omega
    have hwr:∀ q,ai 16 J q->0<=q.i 6/\0<=q.i 7+q.i 1*64/\(q.h 13).wr (q.i 6).toNat (q.i 7+q.i 1*64).toNat (aU 15 (.var 2) (.var 3) 0 (List.replicate 64 (Kd.int .u8))).length=true:=by
     intro q g;have:=hat q g;refine⟨by rw[g.i 6,v6];omega,by rw[g.i 7,g.i 1,v7,v1];omega,?_⟩;rw[this,g.h 13,g.i 6,vh,v6,kj,aba,aaa];exact Hl.Hi _ _ _ _ _ (by rw[ab6,bY,h.ok.now];omega)
    have hput:∀ q,ai 16 J q->(q.h 13).put (q.i 6).toNat (q.i 7+q.i 1*64).toNat (aS bs)=mC s (qQ D i bs).now:=by
     intro q g;rw[hat q g,g.h 13,g.i 6,vh,v6,aaa,MB];rfl
    have n2:∀ q,ai 16 J q->0<=q.i 2/\0<=q.i 3/\0<=q.i 6/\0<=q.i 7:=by
     intro q g;rw[g.i 2,g.i 3,g.i 6,g.i 7,v2,v3,v6,v7];exact⟨hx.1,hy,ah,ah⟩
    refine⟨fun hnb=>?_,fun hyb=>?_⟩
    .have hnone:jk i (lv D.loose) 0=none:=by
      rw[e80]at hnb;cases hgo:jk i (lv D.loose) 0 with
      | none=>rfl
      | some v=>rw[hgo]at hnb;simp at hnb
     obtain⟨es',hmp,hmi,hmst⟩:=KL h.map hnone (.agg (aS (D.bG i)).toArray) h.st;have c13:bC (q2.h 13) (q2.i 6).toNat (q2.i 7+q2.i 1*64).toNat (Int.toNat 64)=true:=by
      rw[hat q2 g12,g12.h 13,g12.i 6,vh,v6,aaa];exact cW (Je h.ok hi s) (by rw[hsl];decide)
     have hsec:(aU 13 (.var 6) (.add (.var 7) (.mul (.var 1) (.lit 64))) 0 (List.replicate 64 (Kd.int .u8))).map (CV.ev q2)=aS (D.bG i):=by
      refine iM 64 0 _ hsl fun j z hz=>?_;simp only[bQ,cx,au,aq];rw[hat q2 g12,g12.h 13,g12.i 6,vh,v6,aaa,aaM];exact Je h.ok hi s j z hz
     have hm2:q2.h 14 (q2.i 10).toNat=some (.map es clock):=by
      rw[g12.h 14,g12.i 10,vm,v10];exact hmem
     refine⟨(n2 q2 g12).2.2.1,(n2 q2 g12).2.2.2,c13,⟨by rw[g12.i 10,v10];omega,es,clock,_,hm2,mi h.map _⟩,fun q3 g3 hq3=>?_⟩;have g13:ai 16 J q3:=g12.tr g3;have h82:=hq3 es clock hm2;rw[hsec,g12.i 1,v1,hmp,g12.h 14,g12.i 10,vm,v10,aaa,Hl.zd]at h82;refine⟨(n2 q3 g13).1,(n2 q3 g13).2.1,hby q3 g13,hwr q3 g13,fun q4 g4 hq4=>?_⟩;have g14:ai 16 J q4:=g13.tr g4;rw[hcs q3 g13,hput q3 g13]at hq4;refine out q4 _ _ _ _ _ [] _ _ 0 (qQ D i bs) es' (clock+1) g14 hw hpok rfl ?_ (hf q4 g14) (by rw[bF,g14.b 12,vb,hg];rfl) hq4 (by rw[g4.h 82,h82]);have el:(qQ D i bs).loose=D.loose++[(i,D.bG i)]:=by
      show(if(jk i (lv D.loose) 0).isSome then D.loose else D.loose++[(i,D.bG i)])=_;rw[hnone];rfl
     rw[el,KI];exact⟨hmi,hmst⟩
    .have el:(qQ D i bs).loose=D.loose:=by
      show(if(jk i (lv D.loose) 0).isSome then D.loose else D.loose++[(i,D.bG i)])=_;rw[<-e80,hyb];rfl
     refine⟨(n2 q2 g12).1,(n2 q2 g12).2.1,hby q2 g12,(n2 q2 g12).2.2.1,(n2 q2 g12).2.2.2,hwr q2 g12,fun q3 g3 hq3=>?_⟩;have g13:ai 16 J q3:=g12.tr g3;rw[hcs q2 g12,hput q2 g12]at hq3;exact out q3 _ _ _ _ _ [] _ _ 0 (qQ D i bs) es clock g13 hw hpok rfl (by rw[el];exact⟨h.map,h.st⟩) (hf q3 g13) (by rw[bF,g13.b 12,vb,hg];rfl) hq3 (by rw[g13.h 14,vm])
  unfold JT;simp only[go_sem,Nat.reduceAdd];rw[v1,v4,v8,v11,vb];have bad:∀ c:Int,dd D i bs=(c,D)->postOf (Ac rdP) [.pointer (some ⟨a,0,none⟩),.int .i64 i,.slice (ar x y) bs.length cp] [H] [R] J
   (.bd 0 [.sl (.var 6) (.var 7) (.var 8) (.var 9),.map (.var 10),.int .i64 (.var 11),.bool (.bvar 12)] 93::.hp 13 [] [.var 6] []::.hp 14 [] [.var 10] []::[.ro 15 [.var 2] false]) (.sv (.one (.int .i64 (.lit c)))):=fun c hc =>
   out J _ _ _ _ _ [] _ _ c D es clock (ai.refl _ _) hc h.ok rfl ⟨h.map,h.st⟩ (by rw[au,v11]) (by rw[bF,vb]) vh vm
  have yes:0<=i->i<D.n->D.has i=true:=fun h0 h1=>by unfold DM.has;simp [h0,h1]
  refine⟨fun h0=>⟨ah,fun hn=>⟨ah,fun hb=>bad 1 ?_,fun hb=>⟨fun hg=>⟨fun hz=>?_,fun hz=>⟨fun hp=>?_,fun hp=>?_⟩⟩,fun hg=>bad 5 ?_⟩⟩,fun hn=>bad 1 ?_⟩,fun h0=>bad 1 ?_⟩
  .unfold dd;rw[aay (Or.inr ah)]
  .have hw:dd D i bs=(5,{D with gone:=true}):=by
    unfold dd;rw[aal (by rw[yes h0 hn];simp;omega),aal hg,aay hz]
   exact out J _ _ _ _ _ [] _ _ 5 {D with gone:=true} es clock (ai.refl _ _) hw ⟨h.ok.now,h.ok.n,h.ok.f0,h.ok.f1,h.ok.loose⟩ rfl ⟨h.map,h.st⟩ (by rw[au,v11]) (by rw[bO]) vh vm
  .refine tail _ (fun q g=>?_) (yes h0 hn) ah (by simpa using hg) hz;have:=h.ok.f1;rw[bJ,dj,au,aq,g.i 11,v11,aay hp,wrap_i64 ah ah]
  .refine tail _ (fun q g=>?_) (yes h0 hn) ah (by simpa using hg) hz;rw[au,g.i 11,v11,aal hp]
  .unfold dd;rw[aal (by rw[yes h0 hn];simp;omega),aay hg]
  .unfold dd DM.has;rw[aay (Or.inl (by simp only[aa6];omega))]
  .unfold dd DM.has;rw[aay (Or.inl (by simp only[aa6];omega))]
def BE:Dd.OK Tryz.prog:=LP fun h=>h.w
def cM (D:DM):Int×DM:=if D.gone then(5,D)else if D.fuse=0 then(5,{D with gone:=true})else(0,⟨D.n,D.now,[],if 0<D.fuse then D.fuse-1 else D.fuse,D.gone⟩)
def XP {x1 x2 x3 x4 x5:Int} (h:rG H a s m es clock D) (hq:ai 15 (pn a s m D [x1,x2,x3,x4,x5] es clock R) q) {v1 v2:List Nat} 
 (hok:D'.ok) (hn:D'.n=D.n) (hm:lW .i64 es' (lv D'.loose)) (hst:MapKept.Stamped es' clock') (hf:az q f=D'.fuse) (hg:aY q g=D'.gone) (h1:q.h k1=mC s D'.now) (h2:q.h k2=Hl.one m (.map es' clock')) :
 aE (ue q (.bd 0 [.sl (.var 6) (.var 7) (.var 8) (.var 9),.map (.var 10),.int .i64 f,.bool g] 93::.hp k1 v1 [.var 6] []::.hp k2 v2 [.var 10] []::t) [0,1,2]) (.pointer (some ⟨a,0,none⟩)) D':=by
 refine⟨a,s,m,es',clock',rfl,Iz hok hm hst h.nas h.nam h.nsm (Mz (hq.i 0) (hq.i 6) (hq.i 7) ?_ ?_ (hq.i 10) hf hg) h1 h2⟩
 .rw[hq.i 8];show(D.n:Int)=(D'.n:Int);rw[hn]
 .rw[hq.i 9];show(D.n:Int)=(D'.n:Int);rw[hn]
def wD:Sx.Spec where
 fn:=159
 own:=[.arg 0]
 rd:=[]
 res:=[.one (.int .i64)]
 pre:=fun xs Hs Rs=>∃ p H D,xs=[p]/\Hs=[H]/\aE H p D
 post:=fun xs Hs Rs v Hs' F=>∃ p H D H',xs=[p]/\Hs=[H]/\aE H p D/\Hs'=[H']/\aE H' p (cM D).2/\v=.int .i64 (cM D).1
def Wq:aF Tryz.prog [] wD.fn where
 Λ:=aD
 args:=[TP (.var 0) (.lit 0)]
 mem:=wM
 nv:=15
def Fw:wD.OK Tryz.prog:=by
 refine Spec.aV (Γ:=[]) (fun _ h=>by cases h) ?_;rintro xs Hs Rs hl1 hl2 ⟨p,H,D,rfl,rfl,a,s,m,es,clock,rfl,h⟩;have e1:Rs=[]:=aad.1 hl2;subst e1;refine⟨Wq,pn a s m D [0,0,0,0,0] es clock Hl.none,fun _ _=>True,fun _ _=>0,?_,B7 h _ rfl _,(fun _ h=>nomatch h),?_⟩
 .show [Value.pointer (ar (a:Int) 0)]=_;rw[jm]
 .refine aF.read [] [] [] ?_;simp only[go_sem,Nat.reduceAdd];generalize hρ:pn a s m D [0,0,0,0,0] es clock Hl.none=J;have v10:J.i 10=m:=by rw[<-hρ];rfl
  have v11:J.i 11=D.fuse:=by rw[<-hρ];rfl
  have vb:J.b 12=D.gone:=by rw[<-hρ];rfl
  have vh:J.h 13=mC s D.now:=by rw[<-hρ];rfl
  have vm:J.h 14=Hl.one m (.map es clock):=by rw[<-hρ];rfl
  have out:∀ (q:Env) (f g:E) (k1 k2:Nat) (w1 w2:List Nat) (t:Mem) (c:Int) (D':DM) (es':Array MapEntry) (clock':Nat),ai 15 J q->cM D=(c,D')->D'.ok->D'.n=D.n->lW .i64 es' (lv D'.loose)->MapKept.Stamped es' clock'->az q f=D'.fuse->aY q g=D'.gone->q.h k1=mC s D'.now->q.h k2=Hl.one m (.map es' clock') ->
   postOf wD [.pointer (some ⟨a,0,none⟩)] [H] [] q (.bd 0 [.sl (.var 6) (.var 7) (.var 8) (.var 9),.map (.var 10),.int .i64 f,.bool g] 93::.hp k1 w1 [.var 6] []::.hp k2 w2 [.var 10] []::t) (.sv (.one (.int .i64 (.lit c)))):=by
   intro q f g k1 k2 w1 w2 t c D' es' clock' hq hs hok hn hm hst hf hg h1 h2 _;rw[<-hρ]at hq;refine⟨[[0,1,2]],[],rfl,rfl,⟨(bh fun _=>c),rfl,zzT,zzT⟩,_,H,D,_,rfl,rfl,⟨a,s,m,es,clock,rfl,h⟩,rfl,?_,by rw[hs];rfl⟩;rw[hs];exact XP h hq hok hn hm hst hf hg h1 h2
  have hmem:(Hl.one m (.map es clock)) ((m:Int)).toNat=some (.map es clock):=by rw[aaa];exact Hl.aN _ _
  have tail:∀ (f:E),(∀ q,ai 15 J q->az q f=if 0<D.fuse then D.fuse-1 else D.fuse)->D.gone=false->D.fuse≠0->(0<=J.i 10/\∃ es clock,J.h 14 (J.i 10).toNat=some (.map es clock))/\∀ J',ai 15 J J'->(∀ es clock,J.h 14 (J.i 10).toNat=some (.map es clock)->J'.h 15=(J.h 14).setObj (J.i 10).toNat (.map #[] clock)) ->
   postOf wD [.pointer (some ⟨a,0,none⟩)] [H] [] J' [.bd 0 [.sl (.var 6) (.var 7) (.var 8) (.var 9),.map (.var 10),.int .i64 f,.bool (.bvar 12)] 93,.hp 13 [] [.var 6] [],.hp 15 [14] [.var 10] []] (.sv (.one (.int .i64 (.lit 0)))):=by
   intro f hf hg hz;rw[v10,vm];refine⟨⟨ah,es,clock,hmem⟩,fun q gq hq=>?_⟩;have hq:=hq es clock hmem;rw[aaa,Hl.zd]at hq;refine out q f (.bvar 12) 13 15 _ _ _ 0 ⟨D.n,D.now,[],if 0<D.fuse then D.fuse-1 else D.fuse,D.gone⟩ #[] clock gq ?_ ⟨h.ok.now,h.ok.n,?_,?_,fun p hp=>by cases hp⟩ rfl rfl (MapKept.stamped_empty _) (hf q gq) (by rw[bF,gq.b 12,vb]) (by rw[gq.h 13,vh]) hq
   .unfold cM;rw[aal (by rw[hg];simp),aal hz]
   .have:=h.ok.f0;show -1<=(if 0<D.fuse then D.fuse-1 else D.fuse);split<;>omega
   .have:=h.ok.f1;show(if 0<D.fuse then D.fuse-1 else D.fuse)<=_;split<;>omega
  rw[vb,v11];have f0:=h.ok.f0;have f1:=h.ok.f1;refine⟨fun hg=>⟨fun hz=>?_,fun hz=>⟨fun hp=>tail _ (fun q gq=>?_) (abW.2 hg) hz,fun hp=>tail _ (fun q gq=>?_) (abW.2 hg) hz⟩⟩,fun hg=>?_⟩
  .refine out J _ _ _ _ _ _ _ 5 {D with gone:=true} es clock (ai.refl _ _) ?_ ⟨h.ok.now,h.ok.n,h.ok.f0,h.ok.f1,h.ok.loose⟩ rfl h.map h.st (by rw[au,v11]) (bO _) vh vm;unfold cM;rw[aal hg,aay hz]
  .rw[aay hp,bJ,dj,au,aq,gq.i 11,v11];exact wrap_i64 ah ah
  .rw[aal hp,au,gq.i 11,v11]
  .refine out J _ _ _ _ _ _ _ 5 D es clock (ai.refl _ _) ?_ h.ok rfl h.map h.st (by rw[au,v11]) (by rw[bF,vb]) vh vm;unfold cM;rw[aay hg]
def gV (v:Value):List Int:=(Sr v).map fun c=>bV (some c)
def GI (l:List Int):gV (.agg (aS l).toArray)=l:=by
 show((l.map (Value.int .u8)).map fun c=>bV (some c))=l;rw[abI];exact List.map_id l
def kT:∀ (n:Nat) (l:List Int),l.length=n->bf (aS l) ((List.replicate n (Ck.int .u8)).map j8)
 | 0,[],_=>trivial
 | n+1,x::l,h=>⟨by simp [bw,j8],kT n l (by simpa using h)⟩
 | 0,_::_,h=>by simp at h
 | _+1,[],h=>by simp at h
def jh (n c:Int):Int:=cn .or .u64 (IntKind.u64.wrap (n*2 ^ (min (Int.toNat 8) IntKind.u64.bits))) (IntKind.u64.wrap c)
def fu (bs:List Int):Int:=bs.foldl jh 0
def mX (bs:List Int) (k:Nat) (h:k<bs.length):fu (bs.take (k+1))=jh (fu (bs.take k)) bs[k]:=by
 unfold fu;rw[abJ,aab h,List.foldl_append];rfl
def Mf:Sx.Spec where
 fn:=155
 own:=[]
 rd:=[0]
 res:=[.one (.int .u64)]
 pre:=fun xs Hs Rs=>∃ u bs R,xs=[u]/\Rs=[R]/\fC R u bs/\bs.length<=1000
 post:=fun xs Hs Rs v Hs' F=>∃ u bs R,xs=[u]/\Rs=[R]/\fC R u bs/\v=.int .u64 (fu bs)
def Mg:aF Tryz.prog [] Mf.fn where
 Λ:=fun p=>if lp p then some ⟨0,[(3,TI .u64 (.var 10)),(8,TI .i64 (.var 11))],[],12⟩else none
 args:=[.sv (.one (.sl (.var 0) (.var 1) (.var 2) (.var 3)))]
 mem:=[.ro 4 [.var 0] false]
 nv:=5
def Me (bs:List Int) (_:Nat) (q:Env):Prop:=∃ k:Nat,k<=bs.length/\q.i 11=k/\q.i 10=fu (bs.take k)
def Pt:Mf.OK Tryz.prog:=by
 refine Spec.aV (Γ:=[]) (fun _ h=>by cases h) ?_;rintro xs Hs Rs hl1 hl2 ⟨u,bs,R,rfl,rfl,⟨x,y,cp,rfl,hy,hR⟩,hlen⟩;have e0:Hs=[]:=aad.1 hl1;subst e0;refine⟨Mg,aQ [x,y,bs.length,cp] false [Hl.none,Hl.none,Hl.none,Hl.none,R],Me bs,fun _ q=>(bs.length-q.i 11).toNat,?_,⟨?_,?_,?_,?_⟩,(fun _ h=>nomatch h),?_⟩
 .show [Value.slice (ar x y) ((bs.length:Int)).toNat ((cp:Int)).toNat]=_;rw[aaa,aaa]
 .intro r hr ho;simp [Mg]at hr;subst hr;cases ho
 .intro r hr ho;simp [Mg]at hr;subst hr;exact⟨R,aC,Hl.le_refl _⟩
 .simp [Mg]
 .intro r hr;simp [Mg]at hr;subst hr;trivial
 .refine aF.read [] [] [] ?_;generalize hρ:aQ [x,y,bs.length,cp] false [Hl.none,Hl.none,Hl.none,Hl.none,R]=J;have v0:J.i 0=x:=by rw[<-hρ];rfl
  have v1:J.i 1=y:=by rw[<-hρ];rfl
  have v2:J.i 2=bs.length:=by rw[<-hρ];rfl
  have w4:J.h 4=R:=by rw[<-hρ];rfl
  simp only[go_sem,Nat.reduceAdd];rw[v2];refine⟨ah,⟨0,ah,rfl,rfl⟩,fun q g ⟨k,hk,h11,h10⟩=>?_⟩;rw[g.i 0,g.i 1,g.i 2,g.h 4,v0,v1,v2,w4,h11];refine⟨fun hlt=>?_,fun hge=>?_⟩
  .have hk':k<bs.length:=ah;have hxr:0<=x/\∀ j z,bs[j]?=some z->R.cell x.toNat (y.toNat+j)=some (.int .u8 z):=by
    rcases hR with h | h
    .subst h;simp at hk'
    .exact h
   have hc:R.cell x.toNat (y+k).toNat=some (.int .u8 bs[k]):=by
    rw[show(y+(k:Int)).toNat=y.toNat+k by omega];exact hxr.2 _ _ (aab hk')
   rw[hc];refine⟨hxr.1,hy,ah,rfl,⟨k+1,ah,?_,?_⟩,?_⟩
   .show IntKind.i64.wrap (q.i 11+1)=_;rw[h11];exact wrap_i64 ah ah
   .show jh (q.i 10) (bV ((q.h 4).cell (q.i 0).toNat (q.i 1+q.i 11).toNat))=_;rw[h10,g.i 0,g.i 1,g.h 4,v0,v1,w4,h11,hc,mX bs k hk'];rfl
   .show((bs.length:Int)-IntKind.i64.wrap (q.i 11+1)).toNat<_;rw[h11,wrap_i64 ah ah];omega
  .have e:k=bs.length:=ah;subst e;rw[abg]at h10;refine fun _=>⟨[],[],rfl,rfl,⟨(bh fun _=>q.i 10),rfl,zzT,zzT⟩,_,bs,R,rfl,rfl,⟨x,y,cp,rfl,hy,hR⟩,?_⟩;show Value.int .u64 (q.i 10)=_;rw[h10]
def wrap_u64 (h0:0<=x) (h1:x<18446744073709551616):IntKind.u64.wrap x=x:=by
 show Int.emod x 18446744073709551616=x;exact ac8 h0 h1
def fI {n:Int} (n0:0<=n) (n1:n<72057594037927936) (c0:0<=c) (c1:c<256):jh n c=n*256+c:=by
 unfold jh;rw[show n*2 ^ (min (Int.toNat 8) IntKind.u64.bits)=n*256 from rfl,wrap_u64 ah ah,wrap_u64 c0 ah];obtain⟨m,rfl⟩:=abu n0;obtain⟨d,rfl⟩:=abu c0;show IntKind.u64.wrap (((BitVec.ofInt 64 ((m:Int)*256)) |||(BitVec.ofInt 64 (d:Int))).toNat:Int)=_;have e1:(BitVec.ofInt 64 ((m:Int)*256)).toNat=m*256:=by
  rw[show((m:Int)*256)=((m*256:Nat):Int)by omega,ab2,acf];exact ab8 ah
 have e2:(BitVec.ofInt 64 (d:Int)).toNat=d:=by
  rw[ab2,acf];exact ab8 ah
 rw[ac1,e1,e2];have e3:m*256 |||d=m*256+d:=by
  have:=acU (i:=8) (b:=d) ah m;rw[Nat.shiftLeft_eq]at this;exact this.symm
 rw[e3,wrap_u64 ah ah];omega
def wU (x:Int):List Int:=[x/72057594037927936%256,x/281474976710656%256,x/1099511627776%256,x/4294967296%256,x/16777216%256,x/65536%256,x/256%256,x%256]
def J3 {a b d e f g h:Int} (ha:0<=a/\a<256) (hb:0<=b/\b<256) (hc:0<=c/\c<256) (hd:0<=d/\d<256) (he:0<=e/\e<256) (hf:0<=f/\f<256) (hg:0<=g/\g<256) (hh:0<=h/\h<256) :
 fu [a,b,c,d,e,f,g,h]=((((((a*256+b)*256+c)*256+d)*256+e)*256+f)*256+g)*256+h:=by
 show jh (jh (jh (jh (jh (jh (jh (jh 0 a) b) c) d) e) f) g) h=_;have e1:jh 0 a=a:=by rw[fI ah ah ha.1 ha.2];omega
 rw[e1,fI (n:=a) (c:=b) ha.1 ah hb.1 hb.2];rw[fI (n:=a*256+b) (c:=c) ah ah hc.1 hc.2];rw[fI (n:=(a*256+b)*256+c) (c:=d) ah ah hd.1 hd.2];rw[fI (n:=((a*256+b)*256+c)*256+d) (c:=e) ah ah he.1 he.2];rw[fI (n:=(((a*256+b)*256+c)*256+d)*256+e) (c:=f) ah ah hf.1 hf.2];rw[fI (n:=((((a*256+b)*256+c)*256+d)*256+e)*256+f) (c:=g) ah ah hg.1 hg.2];rw[fI (n:=(((((a*256+b)*256+c)*256+d)*256+e)*256+f)*256+g) (c:=h) ah ah hh.1 hh.2]
def wY (h0:0<=x) (h1:x<18446744073709551616):fu (wU x)=x:=by
 unfold wU;rw[J3 ah ah ah ah ah ah ah ah];omega
def sF (n:Nat):List Ck:=List.replicate n (.int .u8)
def jn:List Ck:=[.int .u64,.int .u64]++sF 16
def ct (l:List Int):List Int:=wU (l.getD 0 0)++wU (l.getD 1 0)++(l.drop 2).take 16
def Vh (xs:List Value):Value:=match xs with
 | [v]=>.agg (aS (ct (gV v))).toArray
 | _=>.bool false
def Vi (xs:List Value):Prop:=match xs with
 | [v]=>(0<=(gV v).getD 0 0/\(gV v).getD 0 0<18446744073709551616)/\0<=(gV v).getD 1 0/\(gV v).getD 1 0<18446744073709551616
 | _=>False
def IN:Sx.Spec:=rA 160 [.agg jn] [.agg (sF 32)] Vi Vh
def Vj:aF Tryz.prog [] 160 where
 Λ:=aD
 args:=(bW 0 [.agg jn]).map .sv
 mem:=[]
 nv:=18
def wrap_u8 (x:Int):IntKind.u8.wrap x=x%256:=rfl
def Q0 (h:q.i n=x) (h0:0<=x) (k:Nat):az q (.wrap .u8 (.shr .u64 (.var n) (.lit k)))=x/2 ^ (min k 64)%256:=by
 rw[bJ,wrap_u8,PX,au,h];show x.fdiv (2 ^ (min ((k:Int)).toNat 64))%256=_;rw[aaa,abt _ (Int.le_of_lt (Int.pow_pos ah))]
def Mb (h:q.i n=x) (h0:0<=x):[Value.int .u8 (az q (.wrap .u8 (.shr .u64 (.var n) (.lit 56)))),Value.int .u8 (az q (.wrap .u8 (.shr .u64 (.var n) (.lit 48)))),Value.int .u8 (az q (.wrap .u8 (.shr .u64 (.var n) (.lit 40)))),Value.int .u8 (az q (.wrap .u8 (.shr .u64 (.var n) (.lit 32)))),Value.int .u8 (az q (.wrap .u8 (.shr .u64 (.var n) (.lit 24)))),Value.int .u8 (az q (.wrap .u8 (.shr .u64 (.var n) (.lit 16)))),Value.int .u8 (az q (.wrap .u8 (.shr .u64 (.var n) (.lit 8)))),Value.int .u8 (az q (.wrap .u8 (.shr .u64 (.var n) (.lit 0))))]=(wU x).map (Value.int .u8):=by
 have s:=fun k=>Q0 h h0 k;have s56:az q (.wrap .u8 (.shr .u64 (.var n) (.lit 56)))=x/72057594037927936%256:=s 56;have s48:az q (.wrap .u8 (.shr .u64 (.var n) (.lit 48)))=x/281474976710656%256:=s 48;have s40:az q (.wrap .u8 (.shr .u64 (.var n) (.lit 40)))=x/1099511627776%256:=s 40;have s32:az q (.wrap .u8 (.shr .u64 (.var n) (.lit 32)))=x/4294967296%256:=s 32;have s24:az q (.wrap .u8 (.shr .u64 (.var n) (.lit 24)))=x/16777216%256:=s 24;have s16:az q (.wrap .u8 (.shr .u64 (.var n) (.lit 16)))=x/65536%256:=s 16;have s8:az q (.wrap .u8 (.shr .u64 (.var n) (.lit 8)))=x/256%256:=s 8;have s0:az q (.wrap .u8 (.shr .u64 (.var n) (.lit 0)))=x/1%256:=s 0;rw[s56,s48,s40,s32,s24,s16,s8,s0,Int.ediv_one];rfl
set_option maxRecDepth 20000 in
def MO:IN.OK Tryz.prog:=by
 refine kE (fun t h=>by cases h) Vj rfl rfl rfl (fun q _ _=>?_) (fun q hq hN=>⟨fun _ _=>True,fun _ _=>0,?_⟩)
 .obtain⟨J,_,_,e⟩:=cU (sF 32) 0 (aS (ct (gV ((SV.agg (ak 0 jn)).ev q)))) q (kT 32 _ rfl);exact⟨J,by show Value.agg _=Value.agg ((ak 0 (sF 32)).map (CV.ev J)).toArray;rw[e];rfl,cC _ _ _ aA,zzT⟩
 .have hN:(0<=q.i 0/\q.i 0<18446744073709551616)/\0<=q.i 1/\q.i 1<18446744073709551616:=hN;obtain⟨⟨a0,a1⟩,b0,b1⟩:=hN;refine aF.read [] [] [] ?_;simp only[Nd.holds,X.pre,X.rel,X.n];intro q1 g1 _ q2 g2 _ q3 g3 _;have G:ai 18 q q3:=(g1.tr g2).tr g3;have e0:q3.i 0=q.i 0:=G.i 0;have e1:q3.i 1=q.i 1:=G.i 1;show Value.agg (List.map (CV.ev q3) (_++_)).toArray=Value.agg (aS (wU (q.i 0)++wU (q.i 1)++(List.range 16).map fun j=>q.i (2+j))).toArray
  congr 2
  rw[aaK];unfold aS;rw[aaK]
  congr 1
  .rw[aaK,<-Mb e0 a0,<-Mb e1 b0];rfl
  .have:=CV.gU (G.mono aA) _ (cP (sF 16) 2);unfold sF at this;rw[this];rfl
def vO (l:List Int):List Value:=[.int .u64 (fu (l.take 8)),.int .u64 (fu ((l.drop 8).take 8))]++aS ((l.drop 16).take 16)
def PT (xs:List Value):Value:=match xs with
 | [v]=>.agg (vO (gV v)).toArray
 | _=>.bool false
def xf:Sx.Spec:=rA 123 [.agg (sF 32)] [.agg jn] (fun _=>True) PT
def IP:List Sx.Spec:=[Mf]
def MW:∀ t∈IP,t.OK Tryz.prog:=fun t ht=>by
 rw[IP,aam]at ht;subst ht;exact Pt
def PU:aF Tryz.prog IP 123 where
 Λ:=aD
 args:=(bW 0 [.agg (sF 32)]).map .sv
 mem:=[]
 nv:=32
def MX:IP[0]?=some Mf:=rfl
def ud:Mf.res=[.one (.int .u64)]:=rfl
def Jq {a:Int} (h0:0<=a) (vs:List Int) (o n c:Nat) (T:TypeId) (hn:o+n<=vs.length):fC (Hl.one a.toNat (.cells (aS vs).toArray T (0,0))) (.slice (ar a (o:Int)) n c) ((vs.drop o).take n):=by
 have hl:((vs.drop o).take n).length=n:=by rw[aaA,aaV];omega
 refine⟨a,o,c,by rw[hl],ah,Or.inr ⟨h0,fun j z hz=>?_⟩⟩;rw[Hl.lD,abi,fD,aaa];rw[aa2]at hz;split at hz
 .rw[aa0]at hz;rw[hz];rfl
 .cases hz
set_option maxRecDepth 20000 in
def GB:xf.OK Tryz.prog:=by
 refine kE MW PU rfl rfl rfl (fun q _ _=>?_) (fun q hq hN=>⟨fun _ _=>True,fun _ _=>0,?_⟩)
 .obtain⟨J,_,_,e⟩:=cU jn 0 (vO (gV ((SV.agg (ak 0 (sF 32))).ev q))) q ⟨by simp [bw,j8],by simp [bw,j8],kT 16 _ rfl⟩;exact⟨J,by show Value.agg _=Value.agg ((ak 0 jn).map (CV.ev J)).toArray;rw[e];rfl,cC _ _ _ aA,zzT⟩
 .refine aF.read [] [] [] ?_;simp only[Nd.holds,X.pre,X.rel,X.n,MX,ud,fX,j7,Cp.sv,Ck.cv,bW,Cp.len,Ck.len,gO,jc,TV.ev,SV.ev,CV.ev,aax,aa8,bm.hl,au,aq];intro q1 g1 a1 q2 g2 a2;obtain⟨L,hL⟩:∃ L,L=(List.range 32).map fun j=>q.i j:=⟨_,rfl⟩;have hLl:L.length=32:=by rw[hL];rfl
  have G2:ai 32 q q2:=g1.tr g2;have cells:∀ q',ai 32 q q'->List.map (CV.ev q') (ak 0 (List.replicate 32 (Ck.int .u8)))=aS L:=by
   intro q' g;have:=CV.gU (g.mono aA) _ (cP (sF 32) 0);unfold sF at this;rw[this,hL];rfl
  rw[cells q2 G2];have p2:0<=q2.i 32:=by rw[g2.i 32];exact a1
  refine⟨⟨_,L.take 8,_,rfl,rfl,Jq p2 L 0 8 32 _ ah,by rw[aaA];omega⟩,fun q3 g3 ⟨_,⟨u,bs,R,hx,hR,hrd,hv⟩,_⟩=>?_⟩;cases hx;cases hR;have e1:=hrd.uniq (Jq p2 L 0 8 32 _ ah);have G3:ai 32 q q3:=G2.tr g3;rw[cells q3 G3];have p3:0<=q3.i 32:=by rw[g3.i 32];exact p2
  refine⟨⟨_,(L.drop 8).take 8,_,rfl,rfl,Jq p3 L 8 8 24 _ ah,by rw[aaA];omega⟩,fun q4 g4 ⟨_,⟨u,bs2,R,hx,hR,hrd2,hv2⟩,_⟩=>?_⟩;cases hx;cases hR;have e2:=hrd2.uniq (Jq p3 L 8 8 24 _ ah);have G4:ai 32 q q4:=G3.tr g4;simp only[Value.int.injEq,aaZ]at hv hv2;have hv:q4.i 34=fu (L.take 8):=by rw[g4.i 34,hv,e1];rfl
  have hv2:q4.i 35=fu ((L.drop 8).take 8):=by rw[hv2,e2]
  show Value.agg (List.map (CV.ev q4) (_++_)).toArray=Value.agg (vO ((List.range 32).map fun j=>q.i j)).toArray;rw[<-hL]
  congr 2
  rw[aaK];unfold vO
  congr 1
  .show [Value.int .u64 (q4.i 34),Value.int .u64 (q4.i 35)]=_;rw[hv,hv2]
  .have:=CV.gU (G4.mono aA) _ (cP (sF 16) 16);unfold sF at this;rw[this,hL];rfl
structure LM where
 frm:Int
 most:Int
 serial:Int
 size:Int
 note:List Int
 over:Bool
variable {L L':LM}
structure LM.ok (L:LM):Prop where
 frm:0<=L.frm/\L.frm<=16384
 most:0<=L.most/\L.most<=1048576
 note:L.note.length=16
def ly (dp sl:Value) (L:LM):List Value:=[dp,.int .i64 L.frm,.int .i64 L.most,.int .u64 L.serial,.int .u64 L.size]++(aS L.note++[sl,.bool L.over])
def kq (R:Hl) (a:Nat) (dp sl:Value) (L:LM):Prop:=L.ok/\R a=some (.cells (ly dp sl L).toArray 145 (0,0))
def fF (R:Hl) (p dp sl:Value) (L:LM):Prop:=∃ a:Nat,p=.pointer (some ⟨a,0,none⟩)/\kq R a dp sl L
def GL (h1:L.note.length=16) (h2:L'.note.length=16) (h:ly dp sl L=ly dp' sl' L'):dp=dp'/\sl=sl'/\L=L':=by
 unfold ly at h;obtain⟨ha,hb⟩:=acm h rfl;obtain⟨hc,hd⟩:=acm hb (by rw[bY,bY,h1,h2]);simp only[aag,Value.int.injEq,Value.bool.injEq,aaZ,aau]at ha hd;obtain⟨e0,e1,e2,e3,e4⟩:=ha;have e5:=jx hc;obtain⟨x1,x2,x3,x4,x5,x6⟩:=L;obtain⟨y1,y2,y3,y4,y5,y6⟩:=L';simp only at e1 e2 e3 e4 e5 hd;obtain⟨e6,e7⟩:=hd;subst e1 e2 e3 e4 e5 e7;exact⟨e0,e6,rfl⟩
def fF.uniq (h:fF R p dp sl L) (h':fF R p dp' sl' L'):dp=dp'/\sl=sl'/\L=L':=by
 obtain⟨a,rfl,ho,h⟩:=h;obtain⟨a',he,ho',h'⟩:=h';simp only[Value.pointer.injEq,aak,Addr.mk.injEq,aau]at he;subst he;rw[h]at h';simp only[aak,Obj.cells.injEq,aau]at h';exact GL ho.note ho'.note (aaQ Array.toList h')
def kq.cell (h:kq R a dp sl L) (j:Nat):R.cell a j=(ly dp sl L)[j]?:=by
 unfold Hl.cell;rw[h.2];simp
def kq.mono (h:kq R a dp sl L) (hl:R.le R'):kq R' a dp sl L:=⟨h.1,hl _ _ h.2⟩
def fF.mono (h:fF R p dp sl L) (hl:R.le R'):fF R' p dp sl L:=by
 obtain⟨a,e,h⟩:=h;exact⟨a,e,h.mono hl⟩
def gR:List Int:=List.replicate 18 0
def yp (x:List Int):List Int:=[fu (x.take 8),fu ((x.drop 8).take 8)]++(x.drop 16).take 16
def nY (h:List Int):List Value:=[.int .u64 (h.getD 0 0),.int .u64 (h.getD 1 0)]++aS (h.drop 2)
def AA (b:List Int) (most place:Int):Prop:=b.take 32=b.drop 32/\(fu ((b.take 32).take 8)).tmod 2=place/\fu (((b.take 32).drop 8).take 8)<=most
instance (b:List Int) (most place:Int):Decidable (AA b most place):=by unfold AA;infer_instance
def bx (D:DM) (frm most place:Int):List Int×Int :=
 if(gT D (frm+place)).2≠0 then(gR,(gT D (frm+place)).2)
 else if AA (gT D (frm+place)).1 most place then(yp ((gT D (frm+place)).1.take 32),0)else(gR,0)
def mH:Sx.Spec where
 fn:=77
 own:=[.link 0 0]
 rd:=[0]
 res:=[.agg jn,.one (.int .i64)]
 pre:=fun xs Hs Rs=>∃ p place H R dp sl L D,xs=[p,.int .u64 place]/\Hs=[H]/\Rs=[R]/\fF R p dp sl L/\aE H dp D/\(place=0\/place=1)
 post:=fun xs Hs Rs v Hs' F=>∃ p place H R dp sl L D H',xs=[p,.int .u64 place]/\Hs=[H]/\Rs=[R]/\fF R p dp sl L/\aE H dp D/\Hs'=[H']/\aE H' dp D /\
  v=.tuple #[.agg (nY (bx D L.frm L.most place).1).toArray,.int .i64 (bx D L.frm L.most place).2]
def Bg:E:=.ite (.eq (.var 8) (.lit 32)) (.var 6) (.add (.var 6) (.lit 32))
def U1 (f g:Nat->E):Nat->Nat->E
 | 0,j=>.eq (f j) (g j)
 | n+1,j=>.and (.eq (f j) (g j)) (U1 f g n (j+1))
def ID {q:Env} {f g:Nat->E} : ∀ (n j:Nat),aY q (U1 f g n j)=true↔∀ i,j<=i->i<=j+n->az q (f i)=az q (g i)
 | 0,j=>by
  unfold U1;rw[ga]
  exact⟨fun h i h1 h2=>by obtain rfl:i=j:=by omega
                          exact h,fun h=>h j ah ah⟩
 | n+1,j=>by
  unfold U1;rw[iR,ga,ID n (j+1)];refine⟨fun⟨h1,h2⟩ i a b=>?_,fun h=>⟨h j ah ah,fun i a b=>h i ah ah⟩⟩;rcases aa5 j i with h | h
  .exact h2 i ah ah
  .obtain rfl:i=j:=ah;exact h1
def CI:E:=U1 (fun j=>.hI 6 (.var 5) (.var 6) j) (fun j=>.hI 6 (.var 5) Bg j) 31 0
def Ja:Nd:=(fun g c m j k=>(fun l h f i=>(fun d b=>(fun a=>(.ext (.alloc 4) (.and (.e (.le c g)) (.and (.e (.his 2 g c 0 .ptr)) (.and (.e (.his 2 g (.lit 1) 0 (.int .i64))) (.and (.pre b) (.ext b (.and (.imp (.not (.eq (.var 9) c)) (.post [.hp 5 [3] l [],.ro 2 [.var 0] false,.dead,.hp 6 [] [.var 5] []] (.tup [.agg h,.one (.int .i64 (.var 9))]))) (.imp (.eq (.var 9) c) (.and (.e (.le (.lit (-1)) m)) (.and (.e (.le c (.var 6))) (.and (.e (.le j (.var 8))) (.and (.e (.le c m)) (.and (.e (.hby 6 m (.var 6) j)) (.and (.e (.le j (.var 7))) (.and (.e (.le (.var 7) (.var 8))) (.and (.e (.le j (.sub (.var 7) j))) (.and (.e (.le c Bg)) (.and (.e (.hby 6 m Bg j)) (.ext (.alloc 10) (.ext (.alloc 11) (.and (.pre f) (.ext f (.ext (.alloc 30) (.and (.imp (.not CI) a) (.imp CI (.and (.imp (.not k) a) (.imp k (.and (.e (.his 2 g (.lit 2) 0 (.int .i64))) (.and (.imp i a) (.imp (.not i) (.post d (.tup [.agg (ak 12 ([Ck.int .u64,Ck.int .u64]++List.replicate 16 (Ck.int .u8))),.one (.int .i64 c)]))))))))))))))))))))))))))))))):Nd)) (.post d (.tup [.agg h,.one (.int .i64 c)]))) [.hp 5 [3] l [],.ro 2 [.var 0] false,.dead,.hp 6 [] [.var 5] [],.dead,.dead,.dead] (.call 0 5 [.sv (.one (.hptr (.hP 2 g c 0 0) (.hP 2 g c 0 1))),.sv (.one (.int .i64 (.wrap .i64 (.add (.hI 2 g (.lit 1) 0) (.wrap .i64 (.var 1))))))] [.hp 3 [] l []] [])) [.hP 2 g c 0 0] ([.int .u64 c,.int .u64 c]++List.replicate 16 (CV.int .u8 c)) (.call 1 12 [.sv (.agg (aU 6 m (.var 6) 0 (List.replicate 32 (Kd.int .u8))))] [] []) (.lt (.wrap .u64 (.hI 2 g (.lit 2) 0)) (.var 13))) (.var 0) (.lit 0) (.var 5) (.lit 32) (.eq (.rem (.var 12) (.lit 2)) (.var 1))
def Cm:List Sx.Spec:=[Bf,xf]
def KH:∀ t∈Cm,t.OK Tryz.prog:=av E4 <| av GB <| bN
def yJ:aF Tryz.prog Cm mH.fn where
 Λ:=aD
 args:=[TP (.var 0) (.lit 0),TI .u64 (.var 1)]
 mem:=[.hp 3 [] [.hP 2 (.var 0) (.lit 0) 0 0] [],.ro 2 [.var 0] false]
 nv:=4
def ZH:Bf.res=[.one .sl,.one (.int .i64)]:=rfl
def rr1:xf.res=[.agg jn]:=rfl
def ZD:(aT 0 [Cp.one .sl,Cp.one (.int .i64)]≠[])=True:=by simp [aT,Cp.roots,Ck.root]
def ow (q:Env):∀ (m n:Nat),bu n (List.replicate m (Ck.int .u8)) q
 | 0,_=>trivial
 | m+1,n=>⟨zzT,ow q m (n+1)⟩
def bM.cap {l:Int} (h:bM F e (.slice (ar x y) l.toNat c.toNat) bs) (hl:0<=l) (hc:0<=c):l<=c:=by
 obtain⟨_,h⟩:=h;rcases h with ⟨h,_⟩ | ⟨g,cap,cur,h,_,hle,_⟩
 .simp only[Value.slice.injEq]at h;omega
 .simp only[Value.slice.injEq]at h;omega
def E3 (h:D.ok) (e:(gT D i).2=0):D.has i=true/\D.gone=false/\(gT D i).1=D.bG i/\(D.bG i).length=64:=by
 unfold gT at e ⊢;split at e
 .cases e
 .rename_i h1;have h1:D.has i=true:=by simpa using h1
  rw[aal (by simp [h1])];split at e
  .cases e
  .rename_i h2;rw[aal h2];exact⟨h1,by simpa using h2,rfl,gj h h1⟩
def GC {x:List Int} (h:x.length=32):xf.pre [.agg (aS x).toArray] [] []:=by
 obtain⟨c,_,_,ec⟩:=cU (sF 32) 0 (aS x) (bh fun _=>0) (kT 32 _ h);refine⟨⟨c,⟨ow c 32 0,zzT⟩,?_⟩,zzT⟩;show [Value.agg (aS x).toArray]=[Value.agg ((ak 0 (sF 32)).map (CV.ev c)).toArray];rw[ec]
def KG:mH.OK Tryz.prog:=by
 refine Spec.aV (Γ:=Cm) KH ?_;rintro xs Hs Rs hl1 hl2 ⟨p,place,H,R,dp,sl,L,D,rfl,rfl,rfl,⟨a,rfl,hL⟩,hD,hpl⟩;obtain⟨da,s,m,es,clock,rfl,hDi⟩:=hD;refine⟨yJ,aQ [a,place] false [Hl.none,Hl.none,R,H],fun _ _=>True,fun _ _=>0,?_,⟨?_,?_,?_,?_⟩,(fun _ h=>nomatch h),?_⟩
 .show [Value.pointer (ar (a:Int) 0),Value.int .u64 place]=_;rw[jm]
 .intro r hr ho;simp [yJ]at hr;rcases hr with rfl | rfl
  .exact⟨H,aC,Hl.le_refl _⟩
  .cases ho
 .intro r hr ho;simp [yJ]at hr;rcases hr with rfl | rfl
  .cases ho
  .exact⟨R,aC,Hl.le_refl _⟩
 .simp [yJ,bm.own]
 .intro r hr;simp [yJ]at hr;rcases hr with rfl | rfl<;>trivial
 .refine aF.lit (x:=Ja) ?_;generalize hρ:aQ [(a:Int),place] false [Hl.none,Hl.none,R,H]=J;have v0:J.i 0=a:=by rw[<-hρ];rfl
  have v1:J.i 1=place:=by rw[<-hρ];rfl
  have w2:J.h 2=R:=by rw[<-hρ];rfl
  have w3:J.h 3=H:=by rw[<-hρ];rfl
  unfold Ja;simp only[go_sem,Nat.reduceAdd,Cm,ZH,rr1,ZD];intro q0 g0 _;have hDA:aE H (.pointer (some ⟨da,0,none⟩)) D:=⟨da,s,m,es,clock,rfl,hDi⟩;have t0:Int.toNat 0=0:=rfl;have t1:Int.toNat 1=1:=rfl;have t2:Int.toNat 2=2:=rfl;have t32:Int.toNat 32=32:=rfl;have c0:R.cell a 0=some (.pointer (some ⟨da,0,none⟩)):=by rw[hL.cell];rfl
  have c1:R.cell a 1=some (.int .i64 L.frm):=by rw[hL.cell];rfl
  have c2:R.cell a 2=some (.int .i64 L.most):=by rw[hL.cell];rfl
  obtain⟨f0,f1⟩:=hL.1.frm;obtain⟨m0,m1⟩:=hL.1.most;have ep:Value.pointer (ar (bo (R.cell a 0) 0) (bo (R.cell a 0) 1))=.pointer (some ⟨da,0,none⟩):=by rw[c0];exact jm da
  have ei:IntKind.i64.wrap (bV (R.cell a 1)+IntKind.i64.wrap place)=L.frm+place:=by
   rw[c1];show IntKind.i64.wrap (L.frm+IntKind.i64.wrap place)=_;rw[wrap_i64 (n:=place) ah ah];exact wrap_i64 ah ah
  rw[g0.i 0,v0,g0.h 2,w2,g0.i 1,v1,g0.h 3,w3,aaa,t0,t1,ep,ei];refine⟨ah,by rw[c0];rfl,by rw[c1];rfl,⟨_,L.frm+place,H,D,rfl,rfl,hDA⟩,fun q1 g1 ⟨F,⟨p',i',H',D',H2,u,hx,hH,hD',hH2,hD2,hv,hO⟩,hF,hn⟩=>?_⟩;cases hx;cases hH;have e:=hD'.uniq hDA;subst e;obtain⟨⟨n5,n6,n7,n8⟩,_⟩:=hn;have n6:0<=q1.i 6:=n6;have n7:0<=q1.i 7:=n7;have n8:0<=q1.i 8:=n8;simp only[Value.tuple.injEq,aaH,aag,Value.int.injEq,aaZ,aau]at hv hH2;obtain⟨rfl,h9⟩:=hv;have hF:=hF trivial;subst hF;have out:∀ (q:Env) (t:Mem) (r:TV) (h:List Int) (e:Int) (ρ2:Env),ai 10 q1 q->bx D' L.frm L.most place=(h,e)->r.ev q=(j7 0 mH.res).ev ρ2->r.ev q=.tuple #[.agg (nY h).toArray,.int .i64 e] ->
   postOf mH [.pointer (some ⟨a,0,none⟩),.int .u64 place] [H] [R] q (.hp 5 [3] [.hP 2 (.var 0) (.lit 0) 0 0] []::t) r:=by
   intro q t r h e ρ2 hq hr h1 h2 _;refine⟨[[0]],[],rfl,rfl,⟨ρ2,h1,cC _ _ _ aA,zzT,zzT⟩,_,place,H,R,_,sl,L,D',_,rfl,rfl,rfl,⟨a,rfl,hL⟩,hDA,rfl,?_,?_⟩
   .show aE (cu [q.h 5]) _ _;rw[aL,hq.h 5,hH2];exact hD2
   .rw[h2,hr]
  have zero:∀ (q:Env) (t:Mem) (x:E) (e:Int),ai 10 q1 q->bx D' L.frm L.most place=(gR,e)->az q x=e ->
   postOf mH [.pointer (some ⟨a,0,none⟩),.int .u64 place] [H] [R] q (.hp 5 [3] [.hP 2 (.var 0) (.lit 0) 0 0] []::t) (.tup [.agg ([.int .u64 (.lit 0),.int .u64 (.lit 0)]++List.replicate 16 (CV.int .u8 (.lit 0))),.one (.int .i64 x)]):=by
   intro q t x e hq hr hx;refine out q t _ gR e (bh fun k=>if k=18 then e else 0) hq hr ?_ ?_
   .subst hx;rfl
   .subst hx;rfl
  refine⟨fun h=>zero q1 _ _ _ (ai.refl _ _) ?_ (by rw[au]),fun h=>?_⟩
  .unfold bx;rw[<-h9,aay h]
  .rw[h]at h9;obtain⟨hh,hg,hs,hl⟩:=E3 hDi.ok h9.symm;obtain⟨b,hb⟩:∃ b,b=(gT D' (L.frm+place)).1:=⟨_,rfl⟩;rw[<-hb]at hO hs;have hbl:b.length=64:=by rw[hs];exact hl
   have hat:=hO.rd.at n5 n6 n7;obtain⟨e7,hc⟩:=hat;rw[hbl]at e7;have hc:0<=q1.i 5/\∀ j z,b[j]?=some z->(q1.h 6).cell (q1.i 5).toNat ((q1.i 6).toNat+j)=some (.int .u8 z):=by
    rcases hc with ⟨_,hc⟩ | hc
    .rw[hc]at hbl;cases hbl
    .exact hc
   obtain⟨p5,hc⟩:=hc;have hcap:=bM.cap hO n7 n8;have eY:∀ q,ai 10 q1 q->az q Bg=q1.i 6+32:=by
    intro q g;unfold Bg;rw[fg,aal (by rw[ga,au,aq,g.i 8];omega),bQ,au,aq,g.i 6]
   rw[eY q1 (ai.refl _ _),t32];refine⟨n5,n6,ah,p5,cW hc ah,ah,ah,ah,ah,?_,fun q2 g2 _ q3 g3 _=>?_⟩
   .refine cW (bs:=b.drop 32) (fun j z hz=>?_) (by rw[aaV];omega);rw[aa0]at hz;have:=hc _ _ hz;rw[show(q1.i 6+32).toNat+j=(q1.i 6).toNat+(32+j)by omega];exact this
   have G3:ai 10 q1 q3:=g2.tr g3;have hxl:(b.take 32).length=32:=by rw[aaA];omega
   have hrom:(aU 6 (E.var 5) (E.var 6) 0 (List.replicate 32 (Kd.int IntKind.u8))).map (CV.ev q3)=aS (b.take 32):=by
    refine iM 32 0 _ hxl fun i z hz=>?_;rw[aa2]at hz;split at hz
    .rw[au,au,G3.h 6,G3.i 5,G3.i 6,aaM];exact hc _ _ hz
    .cases hz
   rw[hrom];refine⟨GC hxl,fun q4 g4 ⟨F4,hp4,_,_⟩ q5 g5 _=>?_⟩;have hp4:Value.agg (List.map (CV.ev q4) (ak 12 jn)).toArray=Value.agg (vO (gV (.agg (aS (b.take 32)).toArray))).toArray:=hp4;rw[GI]at hp4;have hp4:List.map (CV.ev q4) (ak 12 jn)=vO (b.take 32):=by simpa using hp4
   have i12:q4.i 12=fu ((b.take 32).take 8):=by
    have:=aaQ (fun l=>l[0]?) hp4;simpa [jn,ak,Ck.cv,CV.ev,vO,au] using this
   have i13:q4.i 13=fu (((b.take 32).drop 8).take 8):=by
    have:=aaQ (fun l=>l[1]?) hp4;simpa [jn,ak,Ck.cv,CV.ev,vO,au,Ck.len] using this
   have G5:ai 10 q1 q5:=(G3.tr g4).tr g5;have j12:q5.i 12=fu ((b.take 32).take 8):=by rw[g5.i 12,i12]
   have j13:q5.i 13=fu (((b.take 32).drop 8).take 8):=by rw[g5.i 13,i13]
   have heq:aY q5 CI=true↔b.take 32=b.drop 32:=by
    unfold CI;rw[ID];have ex:∀ i:Nat,i<=31->az q5 (.hI 6 (.var 5) (.var 6) i)=b.getD i 0/\az q5 (.hI 6 (.var 5) Bg i)=b.getD (32+i) 0:=by
     intro i hi;rw[fL,fL,au,au,eY q5 G5,G5.i 5,G5.i 6,G5.h 6];rw[hc i _ (aab ah),show(q1.i 6+32).toNat+i=(q1.i 6).toNat+(32+i)by omega,hc (32+i) _ (aab ah)];simp only[aap];rw[aab ah,aab ah];exact⟨rfl,rfl⟩
    constructor
    .intro h;apply aaN;intro j;rcases aa5 j 32 with hj | hj
     .have:=h j ah ah;rw[(ex j ah).1,(ex j ah).2]at this;rw[abc hj,aa0,aab ah,aab ah];simp only[aap]at this;rw[aab ah,aab ah]at this;exact aaQ some this
     .rw[aas (by rw[aaA];omega),aas (by rw[aaV];omega)]
    .intro h i _ hi;rw[(ex i ah).1,(ex i ah).2];have this:(b.take 32)[i]?=(b.drop 32)[i]?:=aaQ (fun l=>l[i]?) h;rw[abc ah,aa0]at this;rw[aap,aap,this]
   rw[heq,Ch,au,aq,j12,j13,g5.i 1,g4.i 1,g3.i 1,g2.i 1,g1.i 1,g0.i 1,v1];rw[g5.i 0,g4.i 0,g3.i 0,g2.i 0,g1.i 0,g0.i 0,v0];rw[g5.h 2,g4.h 2,g3.h 2,g2.h 2,g1.h 2,g0.h 2,w2,aaa,t2,c2];have hw:IntKind.u64.wrap (bV (some (.int .i64 L.most)))=L.most:=by show IntKind.u64.wrap L.most=_;exact wrap_u64 m0 ah
   rw[hw];have hl:bx D' L.frm L.most place=if AA b L.most place then(yp (b.take 32),0)else(gR,0):=by
    unfold bx;rw[aal (by rw[<-h9];simp),<-hb]
   refine⟨fun h1=>zero q5 _ _ _ G5 (by rw[hl,aal fun h=>h1 h.1]) (aq _ _),fun h1=>⟨fun h2=>zero q5 _ _ _ G5 (by rw[hl,aal fun h=>h2 h.2.1]) (aq _ _),fun h2=>⟨rfl,fun(h3:L.most<fu (((b.take 32).drop 8).take 8))=>zero q5 _ _ _ G5 (by rw[hl,aal fun h=>Int.not_le.2 h3 h.2.2]) (aq _ _),fun(h3:¬L.most<fu (((b.take 32).drop 8).take 8))=>?_⟩⟩⟩;refine out q5 _ _ (yp (b.take 32)) 0 (bh fun k=>if k=18 then 0 else q5.i (12+k)) G5 (by rw[hl,aay ⟨h1,h2,Int.not_lt.1 h3⟩]) ?_ ?_
   .rfl
   .show Value.tuple #[Value.agg (List.map (CV.ev q5) (ak 12 jn)).toArray,_]=_;have e5:List.map (CV.ev q5) (ak 12 jn)=List.map (CV.ev q4) (ak 12 jn):=CV.gU (g5.mono aA) _ (cP jn 12);rw[e5,hp4];rfl
def bM.rep (h:bM F e v bs):∃ (x:Int) (c:Nat),-1<=x/\v=.slice (ar x 0) bs.length c/\bs.length<=c/\((x= -1/\bs=[])\/(0<=x/\∀ j z,bs[j]?=some z->F.cell x.toNat j=some (.int .u8 z))):=by
 obtain⟨hl,h⟩:=h;rcases h with ⟨rfl,hn⟩ | ⟨g,cap,cur,rfl,hg,hle,hm,hs,ht⟩
 .exact⟨-1,0,ah,by rw[dr,hn],ah,Or.inl ⟨rfl,aad.1 hn⟩⟩
 .refine⟨g,cap,ah,by rw[al ah];simp,hle,Or.inr ⟨ah,fun j z hz=>?_⟩⟩;have hj:=(aah.1 hz).1;simp only[aaa,Hl.cell,hg];have e1:(cur.toList.take (bs.length*1))[j]?=some (.int .u8 z):=by rw[ht,fD,hz];rfl
  rw[abc ah,aci]at e1;exact e1
def nG (all:List Int) (i:Nat):List Int:=(List.range 64).map fun j=>(all[64*i+j]?).getD 0
def fW (frm:Int) (all:List Int):Nat->Nat->DM->Int×DM
 | 0,_,D=>cM D
 | f+1,i,D=>if 64*i<all.length then(if(dd D (frm+2+i) (nG all i)).1≠0 then dd D (frm+2+i) (nG all i)else fW frm all f (i+1) (dd D (frm+2+i) (nG all i)).2)else cM D
def hJ (D:DM) (frm:Int) (all:List Int) (from_:Int):Int×DM:=fW frm all (all.length+1) (from_/64).toNat D
def DU:Sx.Spec where
 fn:=131
 own:=[.link 0 0]
 rd:=[0,1]
 res:=[.one (.int .i64)]
 pre:=fun xs Hs Rs=>∃ p u all fr H R1 R2 dp sl L D,xs=[p,u,.int .i64 fr]/\Hs=[H]/\Rs=[R1,R2]/\fF R1 p dp sl L/\bM R2 5 u all/\aE H dp D/\0<=fr/\fr<=1073741824/\all.length<=1073741824
 post:=fun xs Hs Rs v Hs' F=>∃ p u all fr H R1 R2 dp sl L D H',xs=[p,u,.int .i64 fr]/\Hs=[H]/\Rs=[R1,R2]/\fF R1 p dp sl L/\bM R2 5 u all/\aE H dp D/\Hs'=[H']/\aE H' dp (hJ D L.frm all fr).2/\v=.int .i64 (hJ D L.frm all fr).1
def qu:E:=.wrap .i64 (.mul (.var 20) (.lit 64))
def Ay:E:=.ite (.lt (.sub (.var 3) qu) (.lit 64)) (.sub (.var 3) qu) (.lit 64)
def Az:E:=.ite (.eq (.var 4) qu) (.var 2) (.add (.var 2) qu)
def Gw:List CV:=(List.range 64).map fun(j:Nat)=>.int .u8 (.ite (.lt (.lit (j:Int)) Ay) (.hI 7 (.var 1) Az j) (.lit 0))
def MH:Nd:=(fun f c g i=>(fun j h b k=>(fun a d=>(.and (.inv 0 [⟨20,0,.int .i64 (.wrap .i64 (.quo (.var 5) g))⟩] [(21,some 6)]) (.havoc 0 0 9 (.and (.e (.le c i)) (.and (.imp (.lt b i) (.and (.pre k) (.ext k (.and (.e (.le (.lit (-1)) (.var 1))) (.and (.e (.le c (.var 2))) (.and (.e (.le c b)) (.and (.e (.le b i)) (.and (.e (.le i (.var 4))) (.and (.e (.and (.or (.and (.eq (.var 1) (.lit (-1))) (.eq (.sub i b) c)) (.and (.le c (.var 1)) (.and (.le c Az) (.hby 7 (.var 1) Az Ay)))) (.and (.le c (.sub i b)) (.le Ay g)))) (.and (.e (.le c f)) (.and (.e (.his 8 f c 0 .ptr)) (.and (.e (.his 8 f (.lit 1) 0 (.int .i64))) (.and (.pre a) (.ext a (.and (.imp (.not (.eq (.var 23) c)) (.post [.hp 23 [21] j [],.ro 7 [.var 1] false,.ro 8 [.var 0] false,.dead] (.sv (.one (.int .i64 (.var 23)))))) (.imp (.eq (.var 23) c) (.back 0 0 [⟨20,0,.int .i64 (.wrap .i64 (.add (.var 20) (.lit 1)))⟩] [(21,some 23)]))))))))))))))))) (.imp (.not (.lt b i)) (.and (.e (.le c f)) (.and (.e (.his 8 f c 0 .ptr)) (.and (.pre d) (.ext d (.post [.hp 22 [21] j [],.ro 7 [.var 1] false,.ro 8 [.var 0] false] (.sv (.one (.int .i64 (.var 22))))))))))))):Nd)) (.call 0 23 [.sv h,.sv (.one (.int .i64 (.wrap .i64 (.add (.wrap .i64 (.add (.hI 8 f (.lit 1) 0) (.lit 2))) (.var 20))))),.sv (.one (.sl (.var 22) c g g))] [.hp 21 [] j []] [.bd 22 Gw 5]) (.call 1 22 [.sv h] [.hp 21 [] j []] [])) [.hP 8 f c 0 0] (.one (.hptr (.hP 8 f c 0 0) (.hP 8 f c 0 1))) (.wrap .i64 (.mul (.var 20) g)) (.mk 22 5 [.int .u8 c] 1 g)) (.var 0) (.lit 0) (.lit 64) (.var 3)
def DW:List Sx.Spec:=[Dd,wD]
def MJ:∀ t∈DW,t.OK Tryz.prog:=av BE <| av Fw <| bN
def DV:aF Tryz.prog DW DU.fn where
 Λ:=fun p=>if lp p then some ⟨0,[(7,TI .i64 (.var 20))],[(0,.hp 21 [] [.hP 8 (.var 0) (.lit 0) 0 0] [])],22⟩else none
 args:=[TP (.var 0) (.lit 0),.sv (.one (.sl (.var 1) (.var 2) (.var 3) (.var 4))),TI .i64 (.var 5)]
 mem:=[.hp 6 [] [.hP 8 (.var 0) (.lit 0) 0 0] [],.ro 7 [.var 1] false,.ro 8 [.var 0] false]
 nv:=9
def XW:DW[1]?=some wD:=rfl
def Vd:Dd.res=[.one (.int .i64)]:=rfl
def Zu:wD.res=[.one (.int .i64)]:=rfl
def PJ (D:DM) (frm:Int) (all:List Int) (dp:Value) (fr:Int) (_:Nat) (q:Env):Prop:=∃ (f i:Nat) (D1:DM),q.i 20=i/\aE (q.h 21) dp D1/\fW frm all f i D1=hJ D frm all fr/\all.length+1<=f+i/\i<=all.length+16777217
def MI:DU.OK Tryz.prog:=by
 refine Spec.aV (Γ:=DW) MJ ?_;rintro xs Hs Rs hl1 hl2 ⟨p,u,all,fr,H,R1,R2,dp,sl,L,D,rfl,rfl,rfl,⟨a,rfl,hL⟩,hO,hD,hf0,hf1,hall⟩;obtain⟨x,c,hx,rfl,hc,hcell⟩:=bM.rep hO;refine⟨DV,aQ [a,x,0,all.length,c,fr] false [Hl.none,Hl.none,Hl.none,Hl.none,Hl.none,Hl.none,H,R2,R1],PJ D L.frm all dp fr,fun _ q=>(all.length-q.i 20).toNat,?_,⟨?_,?_,?_,?_⟩,(fun _ h=>nomatch h),?_⟩
 .show [Value.pointer (ar (a:Int) 0),Value.slice (ar x 0) ((all.length:Int)).toNat ((c:Int)).toNat,Value.int .i64 fr]=_;rw[jm,aaa,aaa]
 .intro r hr ho;simp [DV]at hr;rcases hr with rfl | rfl | rfl
  .exact⟨H,aC,Hl.le_refl _⟩
  .cases ho
  .cases ho
 .intro r hr ho;simp [DV]at hr;rcases hr with rfl | rfl | rfl
  .cases ho
  .exact⟨R2,aC,Hl.le_refl _⟩
  .exact⟨R1,aC,Hl.le_refl _⟩
 .simp [DV,bm.own]
 .intro r hr;simp [DV]at hr;rcases hr with rfl | rfl | rfl<;>trivial
 .refine aF.lit (x:=MH) ?_;generalize hρ:aQ [(a:Int),x,0,all.length,c,fr] false [Hl.none,Hl.none,Hl.none,Hl.none,Hl.none,Hl.none,H,R2,R1]=J;have v0:J.i 0=a:=by rw[<-hρ];rfl
  have v1:J.i 1=x:=by rw[<-hρ];rfl
  have v2:J.i 2=0:=by rw[<-hρ];rfl
  have v3:J.i 3=all.length:=by rw[<-hρ];rfl
  have v4:J.i 4=c:=by rw[<-hρ];rfl
  have v5:J.i 5=fr:=by rw[<-hρ];rfl
  have w6:J.h 6=H:=by rw[<-hρ];rfl
  have w7:J.h 7=R2:=by rw[<-hρ];rfl
  have w8:J.h 8=R1:=by rw[<-hρ];rfl
  unfold MH;simp only[go_sem,Nat.reduceAdd,DW,XW,Vd,Zu];have t0:Int.toNat 0=0:=rfl;have t1:Int.toNat 1=1:=rfl;have t64:Int.toNat 64=64:=rfl;obtain⟨da,s,m,es,clock,hdp,hDi⟩:=id hD;have c0:R1.cell a 0=some dp:=by rw[hL.cell];rfl
  have c1:R1.cell a 1=some (.int .i64 L.frm):=by rw[hL.cell];rfl
  obtain⟨f0,f1⟩:=hL.1.frm;have ep:Value.pointer (ar (bo (R1.cell a 0) 0) (bo (R1.cell a 0) 1))=dp:=by rw[c0,hdp];exact jm da
  have wk:bw (R1.cell a 0) Kd.ptr=true:=by rw[c0,hdp];rfl
  refine⟨⟨all.length+1,(fr/64).toNat,D,?_,?_,rfl,ah,ah⟩,fun q g ⟨f,i,D1,e20,hD1,hgo,hfi,hi⟩=>?_⟩
  .show IntKind.i64.wrap ((J.i 5).tdiv 64)=_;rw[v5,abQ hf0,wrap_i64 ah ah];omega
  .show aE (J.h 6) dp D;rw[w6];exact hD
  .have u0:q.i 0=a:=by rw[g.i 0,v0]
   have u3:q.i 3=all.length:=by rw[g.i 3,v3]
   have y8:q.h 8=R1:=by rw[g.h 8,w8]
   have ew:IntKind.i64.wrap ((i:Int)*64)=64*i:=by rw[wrap_i64 ah ah];omega
   have out:∀ (q':Env) (n:Nat) (vs:List Nat) (t:Mem) (r:Int×DM),ai 9 J q'->hJ D L.frm all fr=r->aE (q'.h n) dp r.2->q'.i n=r.1 ->
    postOf DU [.pointer (some ⟨a,0,none⟩),.slice (ar x 0) all.length c,.int .i64 fr] [H] [R1,R2] q' (.hp n vs [.hP 8 (.var 0) (.lit 0) 0 0] []::t) (.sv (.one (.int .i64 (.var n)))):=by
    intro q' n vs t r hq hr h1 h2 _;refine⟨[[0]],[],rfl,rfl,⟨(bh fun _=>q'.i n),rfl,zzT,zzT⟩,_,_,all,fr,H,R1,R2,dp,sl,L,D,_,rfl,rfl,rfl,⟨a,rfl,hL⟩,hO,hD,rfl,?_,?_⟩
    .show aE (cu [q'.h n]) _ _;rw[aL,hr];exact h1
    .show Value.int .i64 (q'.i n)=_;rw[h2,hr]
   rw[u0,u3,e20,ew,y8,aaa,t0,ep];refine⟨ah,fun hlt=>⟨⟨ah,ah,ah⟩,fun q1 g1 ⟨p22,_⟩=>?_⟩,fun hge=>⟨ah,wk,⟨_,_,D1,rfl,rfl,hD1⟩,fun q1 g1 ⟨F,⟨p',H',D',H2,hx,hH,hD',hH2,hD2,hv⟩,_,_⟩=>?_⟩⟩
   .have G1:ai 9 J q1:=g.tr g1;have x1:q1.i 1=x:=by rw[G1.i 1,v1]
    have x2:q1.i 2=0:=by rw[G1.i 2,v2]
    have x3:q1.i 3=all.length:=by rw[G1.i 3,v3]
    have x4:q1.i 4=c:=by rw[G1.i 4,v4]
    have x20:q1.i 20=i:=by rw[g1.i 20,e20]
    have z7:q1.h 7=R2:=by rw[G1.h 7,w7]
    have hcell:0<=x/\∀ (j:Nat) (z:Int),all[j]?=some z->R2.cell x.toNat j=some (.int .u8 z):=by
     rcases hcell with ⟨_,h⟩ | h
     .rw[h]at hlt;simp only[aa9]at hlt;omega
     .exact h
    obtain⟨hx0,hcell⟩:=hcell;have eW:az q1 qu=64*i:=by
     unfold qu;rw[bJ,cx,au,aq,x20,ew]
    have eM:az q1 Ay=min (all.length-64*i:Int) 64:=by
     unfold Ay;rw[fg,ui,dj,au,aq,eW,x3];simp only[aaf];split<;>omega
    have eY:az q1 Az=64*i:=by
     unfold Az;rw[fg,BO,bQ,au,au,eW,x2,x4];simp only[aaf];split<;>omega
    have eC:(Gw.map (CV.ev q1))=aS (nG all i):=by
     unfold Gw nG aS;rw[abI,abI];refine abf fun j hj=>?_;have hj:=aaP.1 hj;show Value.int .u8 (az q1 (.ite (.lt (.lit (j:Int)) Ay) (.hI 7 (.var 1) Az j) (.lit 0)))=Value.int .u8 _;rw[fg,ui,fL,aq,aq,eM,eY,au,x1,z7];simp only[aaf];rcases aa5 (64*i+j) all.length with h | h
     .rw[aay ah,aab h,show(64*(i:Int)).toNat+j=64*i+j by omega,hcell _ _ (aab h)];rfl
     .rw[aal ah,aas h];rfl
    have ei:IntKind.i64.wrap (IntKind.i64.wrap (bV (R1.cell a 1)+2)+i)=L.frm+2+i:=by
     rw[c1];show IntKind.i64.wrap (IntKind.i64.wrap (L.frm+2)+i)=_;rw[wrap_i64 (n:=L.frm+2) ah ah,wrap_i64 ah ah]
    have wk1:bw (R1.cell a 1) (Kd.int .i64)=true:=by rw[c1];rfl
    have hrd:nN (Hl.one (q1.i 22).toNat (.cells (aS (nG all i)).toArray 5 (0,0))) (.slice (ar (q1.i 22) 0) 64 64) (nG all i):=by
     refine⟨q1.i 22,0,64,by simp [nG],ah,Or.inr ⟨p22,fun j z hz=>?_⟩⟩;rw[Hl.lD,abi,fD,acJ,aaM,hz];rfl
    rw[x1,x2,x3,x4,x20,ew,eY,eM,eC,z7,G1.i 0,v0,G1.h 8,w8,aaa,t1,t64,ep,ei];refine⟨hx,ah,ah,ah,ah,⟨Or.inr ⟨hx0,ah,?_⟩,ah,ah⟩,ah,wk,wk1,⟨dp,L.frm+2+i,_,nG all i,q1.h 21,_,D1,rfl,rfl,rfl,?_,hrd⟩,fun q2 g2 ⟨F,⟨p',i',u',bs',H',R',D',H2,hx,hH,hR,hD',hrd',hH2,hD2,hv⟩,_,_⟩=>?_⟩
    .refine cW (bs:=all.drop (64*i)) (fun j z hz=>?_) (by rw[aaV];omega);rw[aa0]at hz;rw[show(64*(i:Int)).toNat+j=64*i+j by omega];exact hcell _ _ hz
    .rw[g1.h 21];exact hD1
    .cases hx;cases hH;cases hR;rw[g1.h 21]at hD';have e:=hD'.uniq hD1;subst e;have e:=hrd'.uniq hrd;subst e;simp only[Value.int.injEq,aaZ,aag,aau]at hv hH2;rw[<-hH2]at hD2;have G2:ai 9 J q2:=G1.tr g2;have step:fW L.frm all f i D'=if(dd D' (L.frm+2+i) (nG all i)).1≠0 then dd D' (L.frm+2+i) (nG all i)else fW L.frm all (f-1) (i+1) (dd D' (L.frm+2+i) (nG all i)).2:=by
      obtain⟨k,rfl⟩:∃ k,f=k+1:=⟨f-1,ah⟩;show(if 64*i<all.length then _ else _)=_;rw[aay ah];rfl
     refine⟨fun h=>out q2 23 _ _ (dd D' (L.frm+2+i) (nG all i)) G2 ?_ hD2 hv,fun h=>?_⟩
     .rw[<-hgo,step,aay (by rw[<-hv];exact h)]
     .have e20':(assign q2 [⟨20,0,.int .i64 (.wrap .i64 (.add (.var 20) (.lit 1)))⟩] [(21,some 23)]).i 20=i+1:=by
       show IntKind.i64.wrap (q2.i 20+1)=_;rw[g2.i 20,x20,wrap_i64 ah ah]
      refine⟨⟨f-1,i+1,(dd D' (L.frm+2+i) (nG all i)).2,by rw[e20'];omega,hD2,?_,ah,ah⟩,by rw[e20'];omega⟩;rw[<-hgo,step,aal (by rw[<-hv,h];simp)]
   .cases hx;cases hH;have e:=hD'.uniq hD1;subst e;simp only[Value.int.injEq,aaZ,aag,aau]at hv hH2;rw[<-hH2]at hD2;refine out q1 22 _ _ (cM D') (g.tr g1) ?_ hD2 hv;rw[<-hgo];cases f with
    | zero=>rfl
    | succ k =>
     show(if 64*i<all.length then _ else _)=_;rw[aal ah]
def jl (D:DM) (frm:Int) (h:List Int):Int×DM :=
 if(dd D (frm+(h.getD 0 0).tmod 2) (ct h++ct h)).1≠0 then dd D (frm+(h.getD 0 0).tmod 2) (ct h++ct h)else cM (dd D (frm+(h.getD 0 0).tmod 2) (ct h++ct h)).2
def rS (h:List Int):Prop:=h.length=18/\(0<=h.getD 0 0/\h.getD 0 0<18446744073709551616)/\0<=h.getD 1 0/\h.getD 1 0<18446744073709551616
def qj:Sx.Spec where
 fn:=132
 own:=[.link 0 0]
 rd:=[0]
 res:=[.one (.int .i64)]
 pre:=fun xs Hs Rs=>∃ p h H R dp sl L D,xs=[p,.agg (nY h).toArray]/\Hs=[H]/\Rs=[R]/\fF R p dp sl L/\aE H dp D/\rS h
 post:=fun xs Hs Rs v Hs' F=>∃ p h H R dp sl L D H',xs=[p,.agg (nY h).toArray]/\Hs=[H]/\Rs=[R]/\fF R p dp sl L/\aE H dp D/\rS h/\Hs'=[H']/\aE H' dp (jl D L.frm h).2/\v=.int .i64 (jl D L.frm h).1
def GN (hl:h.length=18):∃ a b t,h=a::b::t/\t.length=16:=by
 match h,hl with
 | a::b::t,hl=>exact⟨a,b,t,rfl,by simpa using hl⟩
def oa (hl:h.length=18):gV (.agg (nY h).toArray)=h:=by
 obtain⟨a,b,t,rfl,ht⟩:=GN hl;show([Value.int .u64 a,Value.int .u64 b]++t.map (Value.int .u8)).map (fun c=>bV (some c))=_;rw[aaK,abI];show [a,b]++t.map id=_;rw[List.map_id];rfl
def PS {k:List Int} (h1:h.length=18) (h2:k.length=18) (e:Value.agg (nY h).toArray=Value.agg (nY k).toArray):h=k:=by
 rw[<-oa h1,<-oa h2,e]
def Lf (hl:h.length=18):bf (nY h) (jn.map j8):=by
 obtain⟨a,b,t,rfl,ht⟩:=GN hl;exact⟨by simp [bw,j8],by simp [bw,j8],kT 16 _ ht⟩
def Ha (q:Env) (n:Nat):bu n jn q:=⟨zzT,zzT,ow q 16 (n+2)⟩
def MP (hh:rS h):IN.pre [.agg (nY h).toArray] [] []:=by
 obtain⟨c,_,_,ec⟩:=cU jn 0 (nY h) (bh fun _=>0) (Lf hh.1);refine⟨⟨c,⟨Ha c 0,zzT⟩,?_⟩,?_⟩
 .show [Value.agg (nY h).toArray]=[Value.agg ((ak 0 jn).map (CV.ev c)).toArray];rw[ec]
 .show(0<=(gV (.agg (nY h).toArray)).getD 0 0/\(gV (.agg (nY h).toArray)).getD 0 0<_)/\0<=(gV (.agg (nY h).toArray)).getD 1 0/\(gV (.agg (nY h).toArray)).getD 1 0<_;rw[oa hh.1];exact hh.2
def Cf (hl:h.length=18):(ct h).length=32:=by
 unfold ct wU;simp [hl]
def JN:List Sx.Spec:=[Dd,wD,IN]
def OU:∀ t∈JN,t.OK Tryz.prog:=av BE <| av Fw <| av MO <| bN
def zU:aF Tryz.prog JN qj.fn where
 Λ:=aD
 args:=[TP (.var 0) (.lit 0),.sv (.agg (ak 1 jn))]
 mem:=[.hp 19 [] [.hP 20 (.var 0) (.lit 0) 0 0] [],.ro 20 [.var 0] false]
 nv:=21
def ZK:IN.res=[.agg (sF 32)]:=rfl
def zT:qj.OK Tryz.prog:=by
 refine Spec.aV (Γ:=JN) OU ?_;rintro xs Hs Rs hl1 hl2 ⟨p,h,H,R,dp,sl,L,D,rfl,rfl,rfl,⟨a,rfl,hL⟩,hD,hh⟩;obtain⟨b0,b1,t,hht,htl⟩:=GN hh.1;have MX:h.getD 0 0=b0:=by rw[hht];rfl
 refine⟨zU,⟨fun k=>if k=0 then(a:Int)else h.getD (k-1) 0,fun _=>false,fun _=>.empty,fun _=>.tuple #[],fun k=>if k=19 then H else R⟩,fun _ _=>True,fun _ _=>0,?_,⟨?_,?_,?_,?_⟩,(fun _ h=>nomatch h),?_⟩
 .generalize hq:(⟨fun k=>if k=0 then(a:Int)else h.getD (k-1) 0,fun _=>false,fun _=>.empty,fun _=>.tuple #[],fun k=>if k=19 then H else R⟩:Env)=q;show [Value.pointer (ar (q.i 0) 0),Value.agg ((ak 1 jn).map (CV.ev q)).toArray]=_;have e0:q.i 0=a:=by rw[<-hq];rfl
  have e1:(ak 1 jn).map (CV.ev q)=nY h:=by
   rw[<-hq,hht]
   match t,htl with
   | [a1,a2,a3,a4,a5,a6,a7,a8,a9,a10,a11,a12,a13,a14,a15,a16],_=>rfl
  rw[e0,jm,e1]
 .intro r hr ho;simp [zU]at hr;rcases hr with rfl | rfl
  .exact⟨H,aC,Hl.le_refl _⟩
  .cases ho
 .intro r hr ho;simp [zU]at hr;rcases hr with rfl | rfl
  .cases ho
  .exact⟨R,aC,Hl.le_refl _⟩
 .simp [zU,bm.own]
 .intro r hr;simp [zU]at hr;rcases hr with rfl | rfl<;>trivial
 .refine aF.read [] [] [] ?_;generalize hρ:(⟨fun k=>if k=0 then(a:Int)else h.getD (k-1) 0,fun _=>false,fun _=>.empty,fun _=>.tuple #[],fun k=>if k=19 then H else R⟩:Env)=J;have v0:J.i 0=a:=by rw[<-hρ];rfl
  have v1:J.i 1=b0:=by rw[<-hρ,<-MX];rfl
  have w19:J.h 19=H:=by rw[<-hρ];rfl
  have w20:J.h 20=R:=by rw[<-hρ];rfl
  have eH:(ak 1 jn).map (CV.ev J)=nY h:=by
   rw[<-hρ,hht]
   match t,htl with
   | [a1,a2,a3,a4,a5,a6,a7,a8,a9,a10,a11,a12,a13,a14,a15,a16],_=>rfl
  simp only[go_sem,Nat.reduceAdd,JN,Vd,Zu,ZK];intro q1 g1 _;have t0:Int.toNat 0=0:=rfl;have t1:Int.toNat 1=1:=rfl;have t64:Int.toNat 64=64:=rfl;obtain⟨da,s,m,es,clock,hdp,hDi⟩:=id hD;have c0:R.cell a 0=some dp:=by rw[hL.cell];rfl
  have c1:R.cell a 1=some (.int .i64 L.frm):=by rw[hL.cell];rfl
  obtain⟨f0,f1⟩:=hL.1.frm;have ep:Value.pointer (ar (bo (R.cell a 0) 0) (bo (R.cell a 0) 1))=dp:=by rw[c0,hdp];exact jm da
  have wk:bw (R.cell a 0) Kd.ptr=true:=by rw[c0,hdp];rfl
  have wk1:bw (R.cell a 1) (Kd.int .i64)=true:=by rw[c1];rfl
  have⟨hb0,hb1⟩:0<=b0/\b0<18446744073709551616:=by rw[<-MX];exact hh.2.1
  have r0:=Int.tmod_nonneg 2 hb0;have r1:=Int.tmod_lt_of_pos b0 (by decide:(0:Int)<2);have ei:IntKind.i64.wrap (bV (R.cell a 1)+IntKind.i64.wrap (b0.tmod 2))=L.frm+(h.getD 0 0).tmod 2:=by
   rw[c1,MX];show IntKind.i64.wrap (L.frm+IntKind.i64.wrap (b0.tmod 2))=_;rw[wrap_i64 (n:=b0.tmod 2) ah ah];exact wrap_i64 ah ah
  have e1:(ak 1 ([Ck.int IntKind.u64,Ck.int IntKind.u64]++List.replicate 16 (Ck.int IntKind.u8))).map (CV.ev q1)=nY h:=by
   rw[<-eH];exact CV.gU (g1.mono aA) _ (cP jn 1)
  rw[e1];refine⟨MP hh,fun q2 g2 ⟨F2,hp2,_,_⟩ q3 g3 _=>?_⟩;have hp2:Value.agg (List.map (CV.ev q2) (ak 22 (sF 32))).toArray=Value.agg (aS (ct (gV (.agg (nY h).toArray)))).toArray:=hp2;rw[oa hh.1]at hp2;have hp2:List.map (CV.ev q2) (ak 22 (sF 32))=aS (ct h):=by simpa using hp2
  have e3:List.map (CV.ev q3) (ak 22 (List.replicate 32 (Ck.int IntKind.u8)))=aS (ct h):=by
   rw[<-hp2];exact CV.gU (g3.mono aA) _ (cP (sF 32) 22)
  have G3:ai 21 J q3:=(g1.tr g2).tr g3;rw[e3,G3.i 0,v0,G3.h 20,w20,aaa,t0,t1];refine⟨ah,wk,wk1,⟨ah,aA,aA⟩,fun q4 g4 ⟨p55,p56,hO,_⟩=>?_⟩;have G4:ai 21 J q4:=G3.tr g4;have hbl:(ct h++ct h).length=64:=by rw[aac,Cf hh.1]
  have hO:bM (q4.h 55) 5 (.slice (ar (q4.i 55) 0) (Int.toNat 64) (q4.i 56).toNat) (ct h++ct h):=by
   unfold bM;rw[hbl,gE];exact hO
  rw[Ch,au,aq,G4.i 0,v0,G4.i 1,v1,G4.h 20,w20,G4.h 19,w19,aaa,ep,ei];refine⟨⟨dp,_,_,ct h++ct h,H,_,D,rfl,rfl,rfl,hD,hO.rd⟩,fun q5 g5 ⟨F,⟨p',i',u',bs',H',R',D',H2,hx,hH,hR,hD',hrd',hH2,hD2,hv⟩,_,_⟩=>?_⟩;cases hx;cases hH;cases hR;have e:=hD'.uniq hD;subst e;have e:=hrd'.uniq hO.rd;subst e;simp only[Value.int.injEq,aaZ,aag,aau]at hv hH2;rw[<-hH2]at hD2;have G5:ai 21 J q5:=G4.tr g5;have out:∀ (q':Env) (n:Nat) (vs:List Nat) (t:Mem) (r:Int×DM),jl D' L.frm h=r->aE (q'.h n) dp r.2->q'.i n=r.1 ->
   postOf qj [.pointer (some ⟨a,0,none⟩),.agg (nY h).toArray] [H] [R] q' (.hp n vs [.hP 20 (.var 0) (.lit 0) 0 0] []::t) (.sv (.one (.int .i64 (.var n)))):=by
   intro q' n vs t r hr h1 h2 _;refine⟨[[0]],[],rfl,rfl,⟨(bh fun _=>q'.i n),rfl,zzT,zzT⟩,_,h,H,R,dp,sl,L,D',_,rfl,rfl,rfl,⟨a,rfl,hL⟩,hD,hh,rfl,?_,?_⟩
   .show aE (cu [q'.h n]) _ _;rw[aL,hr];exact h1
   .show Value.int .i64 (q'.i n)=_;rw[h2,hr]
  rw[G5.i 0,v0,G5.h 20,w20,aaa,ep];refine⟨fun hne=>out q5 57 _ _ _ ?_ hD2 hv,fun heq=>⟨⟨dp,_,_,rfl,rfl,hD2⟩,fun q6 g6 ⟨F,⟨p',H',D2,H3,hx,hH,hD3,hH3,hD4,hv3⟩,_,_⟩=>?_⟩⟩
  .unfold jl;rw[aay (by rw[<-hv];exact hne)]
  .cases hx;cases hH;have e:=hD3.uniq hD2;subst e;simp only[Value.int.injEq,aaZ,aag,aau]at hv3 hH3;rw[<-hH3]at hD4;refine out q6 59 _ _ _ ?_ hD4 hv3;unfold jl;rw[aal (by rw[<-hv,heq];simp)]
def jq (dp sl:Value) (L:LM):Obj:=.cells (ly dp sl L).toArray 145 (0,0)
def dt (H:Hl) (p dp:Value) (L:LM) (bs:List Int):Prop:=∃ (a:Nat) (sl:Value) (HB:Hl),p=.pointer (some ⟨a,0,none⟩)/\L.ok/\bM HB 5 sl bs/\(Hl.one a (jq dp sl L)).bq HB/\H=cu [Hl.one a (jq dp sl L),HB]
def dt.parts (h:dt H p dp L bs):∃ sl,fF H p dp sl L/\nN H sl bs:=by
 obtain⟨a,sl,HB,rfl,hok,hO,hd,rfl⟩:=h;refine⟨sl,⟨a,rfl,hok,?_⟩,?_⟩
 .exact Hl.aX _ _ _ _ (Hl.aN _ _)
 .obtain⟨x,y,c,hv,hy,h⟩:=hO.rd;refine⟨x,y,c,hv,hy,h.imp id fun⟨h0,h⟩=>⟨h0,fun j z hz=>?_⟩⟩;have hle:HB.le (cu [Hl.one a (jq dp sl L),HB]):=by
   show HB.le ((Hl.one a (jq dp sl L)).un (cu [HB]));rw[aL];exact Hl.bj hd
  have:=h j z hz;unfold Hl.cell at this ⊢;split at this
  .rename_i o c' T fr ho;rw[hle _ _ ho];exact this
  .cases this
def dt.uniq (h:dt H p dp L bs) (h':dt H p dp' L' bs'):dp=dp'/\L=L'/\bs=bs':=by
 obtain⟨sl,h1,h2⟩:=h.parts;obtain⟨sl',h1',h2'⟩:=h'.parts;obtain⟨e1,rfl,e3⟩:=h1.uniq h1';exact⟨e1,e3,h2.uniq h2'⟩
def bM.pre {l:Int} (h:bM F e (.slice (ar x 0) l.toNat c.toNat) bs) (hx:-1<=x) {n:Int} (h0:0<=n) (hn:n.toNat<=bs.length):bM F e (.slice (ar x 0) n.toNat c.toNat) (bs.take n.toNat):=by
 obtain⟨hl,h⟩:=h;have e1:(bs.take n.toNat).length=n.toNat:=by rw[aaA];omega
 refine⟨by rw[bY];omega,?_⟩;rw[e1];rcases h with ⟨h,hb⟩ | ⟨g,cap,cur,h,hg,hle,hm,hs,ht⟩
 .simp only[Value.slice.injEq]at h;refine Or.inl ⟨?_,ah⟩;rw[h.1,h.2.2,show n.toNat=0 by omega]
 .simp only[Value.slice.injEq]at h;refine Or.inr ⟨g,cap,cur,by rw[h.1,h.2.2],hg,ah,hm,hs,?_⟩;have:=aaQ (List.take n.toNat) ht;rw[List.take_take]at this;rw[acj];rw[show min n.toNat (bs.length*1)=n.toNat by omega]at this;rw[this];unfold aS;rw[acB]
def qO:List Ck:=[.ptr,.int .i64,.int .i64,.int .u64,.int .u64]++List.replicate 16 (.int .u8)
def iH (da:Nat) (L:LM):List Int:=[(da:Int),0,L.frm,L.most,L.serial,L.size]++L.note
def Td {l:List Int} (h:l.length=16):∃ a1 a2 a3 a4 a5 a6 a7 a8 a9 a10 a11 a12 a13 a14 a15 a16,l=[a1,a2,a3,a4,a5,a6,a7,a8,a9,a10,a11,a12,a13,a14,a15,a16]:=by
 match l,h with
 | [a1,a2,a3,a4,a5,a6,a7,a8,a9,a10,a11,a12,a13,a14,a15,a16],_=>exact⟨a1,a2,a3,a4,a5,a6,a7,a8,a9,a10,a11,a12,a13,a14,a15,a16,rfl⟩
def xk (hL:L.ok) (h:∀ k,k<22->q.i (n+k)=(iH da L).getD k 0):(ak n qO).map (CV.ev q)=[Value.pointer (some ⟨da,0,none⟩),.int .i64 L.frm,.int .i64 L.most,.int .u64 L.serial,.int .u64 L.size]++aS L.note:=by
 obtain⟨a1,a2,a3,a4,a5,a6,a7,a8,a9,a10,a11,a12,a13,a14,a15,a16,hn⟩:=Td hL.note;have hq:=ai.refl 0 q;have key:∀ (q':Env),(∀ k,k<22->q'.i k=(iH da L).getD k 0)->(ak 0 qO).map (CV.ev q')=[Value.pointer (some ⟨da,0,none⟩),.int .i64 L.frm,.int .i64 L.most,.int .u64 L.serial,.int .u64 L.size]++aS L.note:=by
  intro q' h;have ag:ai 22 ((bh fun k=>(iH da L).getD k 0):Env) (bh (q'.i)):=⟨fun k hk=>h k hk,fun _ _=>rfl,fun _ _=>rfl,fun _ _=>rfl,fun _ _=>rfl⟩;have e1:(ak 0 qO).map (CV.ev q')=(ak 0 qO).map (CV.ev (bh (q'.i))):=rfl;rw[e1,CV.gU ag _ (cP qO 0)];unfold iH;rw[hn];have ed:Value.pointer (ar (da:Int) 0)=.pointer (some ⟨da,0,none⟩):=jm da;show [Value.pointer (ar (da:Int) 0)]++_=_;rw[ed];rfl
 have:=key ⟨fun k=>q.i (n+k),q.b,q.s,q.v,q.h⟩ h;rw[<-this];rfl
def jU {P:Program} {s:Sx.Spec} {Γ:List Sx.Spec} (hΓ:∀ t∈Γ,t.OK P)
 (h:∀ xs Hs Rs,Hs.length=s.own.length->Rs.length=s.rd.length->(∀ (p q:Nat) H K,p≠q->Hs[p]?=some H->Hs[q]?=some K->H.bq K)->s.pre xs Hs Rs->∃ (W:aF P Γ s.fn) (J:Env) (inv:Nat->Env->Prop) (mu:Nat->Env->Nat),
  W.args.map (TV.ev J)=xs/\Entry J W.mem Hs Rs/\Path J W.path/\W.mN ⟨Γ,inv,mu,postOf s xs Hs Rs⟩ (fun _=>0) J):s.OK P:=by
 intro w xs Hs Rs hl1 hl2 hs1 hs2 hd1 hd2 hpre;obtain⟨W,J,inv,mu,hx,hE,hp,hn⟩:=h xs Hs Rs hl1 hl2 hd1 hpre;unfold aF.mN at hn;obtain⟨nd,hV,hn⟩:=hn;have hm:=hE.Tk hs1 hs2 hd2;have:=ym (C:=⟨Γ,inv,mu,postOf s xs Hs Rs⟩) hΓ (DO (C:=⟨Γ,inv,mu,postOf s xs Hs Rs⟩) hΓ) hV hm hp hn;rw[hx]at this;refine this.mono ?_;rintro e w' ⟨J',mem',r,rfl,hg,hm',hp'⟩;obtain⟨gs,f,hl,hok,⟨ρ2,h2,h3⟩,hpost⟩:=hp' hm'.bq;refine⟨ρ2,gs.map (ue J' mem'),ue J' mem' f,by rw[h2],h3,fh.of hm' hl hok,?_⟩;rw[<-h2];exact hpost
def wZ (D:DM) (frm:Int) (n:Int):List Int:=(D.now.drop (64*(frm+2).toNat)).take n.toNat
def yI:Sx.Spec where
 fn:=78
 own:=[.arg 0,.link 0 0]
 rd:=[]
 res:=[.one (.int .i64)]
 pre:=fun xs Hs Rs=>∃ p a HL HD dp L D,xs=[p]/\Hs=[HL,HD]/\p=.pointer (some ⟨a,0,none⟩)/\kq HL a dp (.slice none 0 0) L/\aE HD dp D/\D.gone=false/\0<=L.size/\64*(L.frm+2)+L.size<=64*D.n
 post:=fun xs Hs Rs v Hs' F=>∃ p a HL HD dp L D HL' HD',xs=[p]/\Hs=[HL,HD]/\p=.pointer (some ⟨a,0,none⟩)/\kq HL a dp (.slice none 0 0) L/\aE HD dp D/\Hs'=[HL',HD']/\aE HD' dp D/\dt HL' p dp L (wZ D L.frm L.size)/\v=.int .i64 0
def Eo:List Sx.Spec:=[Bf]
def Nn:∀ t∈Eo,t.OK Tryz.prog:=fun t ht=>by
 rw[Eo,aam]at ht;subst ht;exact E4
def I7:aF Tryz.prog Eo yI.fn where
 Λ:=fun p=>if lp p then some ⟨0,[(3,TI .i64 (.var 40))],[(0,.bd 0 (ak 1 qO++[.sl (.var 41) (.lit 0) (.var 43) (.var 44),.bool (.bvar 23)]) 145),(1,.hp 45 [] [.var 1] []),(2,.hp 46 [] [.var 41] [])],47⟩else none
 args:=[TP (.var 0) (.lit 0)]
 mem:=[.bd 0 (ak 1 qO++[.sl (.lit (-1)) (.lit 0) (.lit 0) (.lit 0),.bool (.bvar 23)]) 145,.hp 24 [] [.var 1] []]
 nv:=25
def E0 (h:D.has i=true) (hg:D.gone=false):gT D i=(D.bG i,0):=by
 unfold gT;rw[aal (by simp [h]),aal (by simp [hg])]
def P0 (D:DM) (L:LM) (dp:Value) (_:Nat) (q:Env):Prop:=∃ i:Nat,q.i 40=i/\q.i 43=64*i/\ -1<=q.i 41/\0<=q.i 44/\(i=0\/(64*(i:Int)-64<L.size))/\aE (q.h 45) dp D/\bM (q.h 46) 5 (.slice (ar (q.i 41) 0) (q.i 43).toNat (q.i 44).toNat) ((D.now.drop (64*(L.frm+2).toNat)).take (64*i))
def Nm:yI.OK Tryz.prog:=by
 refine jU (Γ:=Eo) Nn ?_;rintro xs Hs Rs hl1 hl2 hdis ⟨p,a,HL,HD,dp,L,D,rfl,rfl,rfl,hL,hD,hgone,hs0,hs1⟩;have e1:Rs=[]:=aad.1 hl2;subst e1;obtain⟨da,s,m,es,clock,hdp,hDi⟩:=id hD;have hnl:=hL.1.note;obtain⟨f0,f1⟩:=hL.1.frm;have hnn:=hDi.ok.n;have hnow:=hDi.ok.now;have eB:∀ (q:Env) (sl:CV),q.i 0=a->(∀ k,k<22->q.i (1+k)=(iH da L).getD k 0)->q.b 23=L.over->(bm.bd 0 (ak 1 qO++[sl,.bool (.bvar 23)]) 145).hl q=Hl.one a (jq dp (sl.ev q) L):=by
  intro q sl h0 h1 h2;show Hl.one (q.i 0).toNat (.cells ((ak 1 qO++[sl,.bool (.bvar 23)]).map (CV.ev q)).toArray _ (0,0))=_;rw[aaK,xk hL.1 h1,h0,aaa];unfold jq ly;rw[hdp,<-h2,aaF];rfl
 refine⟨I7,⟨fun k=>if k=0 then(a:Int)else(iH da L).getD (k-1) 0,fun _=>L.over,fun _=>.empty,fun _=>.tuple #[],fun _=>HD⟩,P0 D L dp,fun _ q=>(L.size-64*q.i 40+64).toNat,?_,⟨?_,?_,?_,?_⟩,(fun _ h=>nomatch h),?_⟩
 .show [Value.pointer (ar (a:Int) 0)]=_;rw[jm]
 .intro r hr ho;simp only[I7,aan,aat,aaX]at hr;rcases hr with rfl | rfl
  .refine⟨HL,aC,?_⟩;rw[eB _ _ rfl (fun k hk=>by show(if 1+k=0 then(a:Int)else(iH da L).getD (1+k-1) 0)=_;rw[aal ah,show 1+k-1=k by omega]) rfl];intro b o hb;obtain⟨rfl,rfl⟩:=Hl.mK hb;exact hL.2
  .exact⟨HD,aC,Hl.le_refl _⟩
 .intro r hr ho;simp only[I7,aan,aat,aaX]at hr;rcases hr with rfl | rfl<;>cases ho
 .have hd:HL.bq HD:=hdis 0 1 _ _ aA rfl rfl;have hm:HL.mem a:=by unfold Hl.mem;rw[hL.2];rfl
  refine List.Pairwise.cons (fun r hr _ _=>?_) (List.Pairwise.cons (fun r hr=>by cases hr) List.Pairwise.nil);rw[aam]at hr;subst hr;exact Hl.fE.2 fun h=>hd a ⟨hm,h⟩
 .intro r hr;simp only[I7,aan,aat,aaX]at hr;rcases hr with rfl | rfl
  .show(0:Int)<=(a:Int);omega
  .trivial
 .refine aF.read [] [] [] ?_;generalize hρ:(⟨fun k=>if k=0 then(a:Int)else(iH da L).getD (k-1) 0,fun _=>L.over,fun _=>.empty,fun _=>.tuple #[],fun _=>HD⟩:Env)=J;simp only[go_sem,Nat.reduceAdd,Eo,ZH,ZD];have r0:J.i 0=a:=by rw[<-hρ];rfl
  have rk:∀ k,k<22->J.i (1+k)=(iH da L).getD k 0:=by
   intro k hk;rw[<-hρ];show(if 1+k=0 then(a:Int)else(iH da L).getD (1+k-1) 0)=_;rw[aal ah,show 1+k-1=k by omega]
  have rb:J.b 23=L.over:=by rw[<-hρ]
  have rh:J.h 24=HD:=by rw[<-hρ]
  refine⟨⟨0,rfl,rfl,aar _,aar _,Or.inl rfl,?_,⟨rfl,Or.inl ⟨rfl,rfl⟩⟩⟩,fun q g ⟨i,e40,e43,e41,e44,hi,hDq,hO⟩=>?_⟩
  .show aE (J.h 24) dp D;rw[rh];exact hD
  .have u1:q.i 1=da:=by rw[g.i 1];exact rk 0 ah
   have u2:q.i 2=0:=by rw[g.i 2];exact rk 1 ah
   have u3:q.i 3=L.frm:=by rw[g.i 3];exact rk 2 ah
   have u6:q.i 6=L.size:=by rw[g.i 6];exact rk 5 ah
   have ep:Value.pointer (ar (da:Int) 0)=dp:=by rw[jm,hdp]
   have es:IntKind.i64.wrap L.size=L.size:=wrap_i64 ah ah;rw[u1,u2,u3,u6,e40,e43,es,ep];refine⟨ah,fun hlt=>?_,fun hge=>⟨e41,hs0,?_,fun hd=>?_⟩⟩
   .have ei:IntKind.i64.wrap (IntKind.i64.wrap (L.frm+2)+i)=L.frm+2+i:=by
     rw[wrap_i64 (n:=L.frm+2) ah ah,wrap_i64 ah ah]
    rw[ei];have hh:D.has (L.frm+2+i)=true:=by unfold DM.has;simp only[aaf];omega
    have hr:=E0 hh hgone;have hsl:=gj hDi.ok hh;refine⟨⟨dp,_,_,D,rfl,rfl,hDq⟩,fun q1 g1 ⟨F,⟨p',i',H',D',H2,u,hx,hH,hD',hH2,hD2,hv,hOu⟩,hF,hn⟩=>?_⟩;cases hx;cases hH;have e:=hD'.uniq hDq;subst e;have hF:=hF trivial;subst hF;rw[hr]at hv hOu;simp only[Value.tuple.injEq,aaH,aag,Value.int.injEq,aaZ,aau]at hv hH2;obtain⟨rfl,h51⟩:=hv;obtain⟨⟨n47,n48,n49,n50⟩,_⟩:=hn;have n48:0<=q1.i 48:=n48;have n49:0<=q1.i 49:=n49;obtain⟨e49,hc⟩:=hOu.rd.at n47 n48 n49;have e49:q1.i 49=64:=by rw[e49];show(((D'.bG (L.frm+2+i)).length:Nat):Int)=64;rw[hsl];rfl
    have hc:0<=q1.i 47/\∀ j z,(D'.bG (L.frm+2+i))[j]?=some z->(q1.h 48).cell (q1.i 47).toNat ((q1.i 48).toNat+j)=some (.int .u8 z):=by
     rcases hc with ⟨_,hc⟩ | hc
     .have hc:D'.bG (L.frm+2+i)=[]:=hc;rw[hc]at hsl;cases hsl
     .exact hc
    obtain⟨p47,hc⟩:=hc;have x43:q1.i 43=64*i:=by rw[g1.i 43,e43]
    rw[g1.h 46,g1.i 41,g1.i 44,x43,e49];rw[e43]at hO;have hTl:((D'.now.drop (64*(L.frm+2).toNat)).take (64*i)).length=64*i:=by rw[aaA,aaV];omega
    have hO':aK (q.h 46) 5 1 (.slice (ar (q.i 41) 0) (64*(i:Int)).toNat (q.i 44).toNat) (64*(i:Int)).toNat (aS ((D'.now.drop (64*(L.frm+2).toNat)).take (64*i))):=by
     unfold bM at hO;rw[hTl]at hO;rw[show(64*(i:Int)).toNat=64*i by omega]at hO ⊢;exact hO
    refine⟨fun h=>absurd h51 h,fun _=>⟨⟨⟨_,hO'⟩,ah,Or.inl ⟨p47,n48,ah,fun j hj=>?_⟩,by unfold maxLen;omega,ah⟩,fun q2 g2 ⟨a1,a2,a3,_⟩=>?_⟩⟩
    .have hj:j<(D'.bG (L.frm+2+i)).length:=by have:(64:Int).toNat=64:=rfl;omega
     exact⟨_,hc j _ (aab hj),rfl⟩
    .have hseg:bR (q1.h 48) (q1.i 47).toNat (q1.i 48).toNat (Int.toNat 64)=aS (D'.bG (L.frm+2+i)):=by
      unfold bR;apply aaN;intro j;rw[aao,fD];rcases aa5 j 64 with hj | hj
      .rw[show(64:Int).toNat=64 from rfl,aaJ hj,aaT,hc j _ (aab ah),aab ah];rfl
      .rw[aas (by simpa using hj),aas ah];rfl
     have hx:=a3 _ hO';rw[hseg]at hx;have hcat:(D'.now.drop (64*(L.frm+2).toNat)).take (64*(i+1))=(D'.now.drop (64*(L.frm+2).toNat)).take (64*i)++D'.bG (L.frm+2+i):=by
      rw[show 64*(i+1)=64*i+64 by omega,acX,aca];unfold DM.bG;rw[show 64*(L.frm+2).toNat+64*i=64*(L.frm+2+i).toNat by omega]
     have m40:(assign q2 [⟨40,0,.int .i64 (.wrap .i64 (.add (.var 40) (.lit 1)))⟩,⟨41,0,.int .i64 (.var 52)⟩,⟨43,0,.int .i64 (.add (.var 43) (.var 49))⟩,⟨44,0,.int .i64 (.var 53)⟩] [(45,some 47),(46,some 52)]).i 40=i+1:=by
      show IntKind.i64.wrap (q2.i 40+1)=_;rw[g2.i 40,g1.i 40,e40,wrap_i64 ah ah]
     have m43:(assign q2 [⟨40,0,.int .i64 (.wrap .i64 (.add (.var 40) (.lit 1)))⟩,⟨41,0,.int .i64 (.var 52)⟩,⟨43,0,.int .i64 (.add (.var 43) (.var 49))⟩,⟨44,0,.int .i64 (.var 53)⟩] [(45,some 47),(46,some 52)]).i 43=64*i+64:=by
      show q2.i 43+q2.i 49=_;rw[g2.i 43,g2.i 49,x43,e49]
     refine⟨⟨i+1,by rw[m40];omega,by rw[m43];omega,a1,a2,Or.inr ah,?_,?_⟩,by rw[m40];omega⟩
     .show aE (q2.h 47) dp D';rw[g2.h 47,hH2];exact hD2
     .rw[m43];show bM (q2.h 52) _ (.slice (ar (q2.i 52) 0) (64*(i:Int)+64).toNat (q2.i 53).toNat) _;rw[hcat];unfold bM;rw[gE,aac,hTl,hsl];rw[show(64*(i:Int)).toNat+Int.toNat 64=64*i+64 by have:(64:Int).toNat=64:=rfl;omega]at hx;rw[show(64*(i:Int)+64).toNat=64*i+64 by omega];exact hx
   .have:=bM.cap hO ah e44;omega
   .have hd02:=hd 0 2 _ _ aA rfl rfl rfl;have eb:=eB q (.sl (.var 41) (.lit 0) (.var 6) (.var 44)) (by rw[g.i 0,r0]) (fun k hk=>by rw[g.i (1+k)];exact rk k hk) (by rw[g.b 23,rb]);have ev:CV.ev q (.sl (.var 41) (.lit 0) (.var 6) (.var 44))=.slice (ar (q.i 41) 0) L.size.toNat (q.i 44).toNat:=by
     simp only[CV.ev,au,aq,u6]
    rw[ev]at eb;refine⟨[[0,2],[1]],[],rfl,rfl,⟨(bh fun _=>0),rfl,zzT,zzT⟩,_,a,HL,HD,dp,L,D,_,_,rfl,rfl,rfl,hL,hD,rfl,?_,?_,rfl⟩
    .show aE (cu [q.h 45]) _ _;rw[aL];exact hDq
    .refine⟨a,.slice (ar (q.i 41) 0) L.size.toNat (q.i 44).toNat,q.h 46,rfl,hL.1,?_,?_,?_⟩
     .rw[e43]at hO;have hTl:((D.now.drop (64*(L.frm+2).toNat)).take (64*i)).length=64*i:=by
       rw[aaA,aaV];rcases hi with rfl | hi<;>omega
      have:=bM.pre hO e41 hs0 (by rw[hTl];omega);rw[List.take_take,show min L.size.toNat (64*i)=L.size.toNat by omega]at this;exact this
     .rw[<-eb];exact hd02
     .exact aaQ (fun z=>cu [z,q.h 46]) eb
def Gb (n c:Int):0<=jh n c/\jh n c<18446744073709551616:=by
 unfold jh;have h:∀ x:Int,0<=IntKind.u64.wrap x/\IntKind.u64.wrap x<18446744073709551616:=fun x=>⟨Int.emod_nonneg _ aA,Int.emod_lt_of_pos _ aA⟩;exact h _
def xG (l:List Int):0<=fu l/\fu l<18446744073709551616:=by
 have h:∀ (l:List Int) (n:Int),(0<=n/\n<18446744073709551616)->0<=l.foldl jh n/\l.foldl jh n<18446744073709551616:=by
  intro l
  induction l with
  | nil=>exact fun n h=>h
  | cons c l ih=>exact fun n _=>ih _ (Gb n c)
 exact h l 0 ah
def oc (hD:D.ok) (frm:Int) (hm:0<=most) (place:Int):rS (bx D frm most place).1/\(bx D frm most place).1.getD 1 0<=most:=by
 have hz:rS gR/\gR.getD 1 0<=most:=⟨⟨rfl,⟨aar _,aA⟩,aar _,aA⟩,hm⟩;unfold bx;split
 .exact hz
 .rename_i h;have h:(gT D (frm+place)).2=0:=by simpa using h
  obtain⟨_,_,e,hl⟩:=E3 hD h;split
  .rename_i hg;have r0:=xG (((gT D (frm+place)).1.take 32).take 8);have r1:=xG ((((gT D (frm+place)).1.take 32).drop 8).take 8);refine⟨⟨?_,r0,r1⟩,hg.2.2⟩;unfold yp;rw[e];simp only[aac,aaL,aa9,aaA,aaV,hl];rfl
  .exact hz
def yK {place:Int} (h:D.has (frm+place)=true):(bx D frm most place).2=if D.gone then 5 else 0:=by
 unfold bx gT;rw[h];cases D.gone with
 | true=>simp
 | false=>simp;split<;>rfl
def yq (frm most:Int) (h:List Int):LM:=⟨frm,most,h.getD 0 0,h.getD 1 0,h.drop 2,false⟩
def jN (D:DM) (frm n:Int):Int:=if n<3\/frm<0\/(D.n:Int)<frm\/(D.n:Int)-frm<n then 1 else if D.gone then 5 else 0
def oS (D:DM) (frm n:Int):List Int:=if(bx D frm (64*(n-2)) 0).1.getD 0 0<(bx D frm (64*(n-2)) 1).1.getD 0 0 then(bx D frm (64*(n-2)) 1).1 else(bx D frm (64*(n-2)) 0).1
def jO (D:DM) (frm n:Int):LM:=yq frm (64*(n-2)) (oS D frm n)
def ky (D:DM) (frm n:Int):List Int:=wZ D frm (jO D frm n).size
def vZ:Sx.Spec where
 fn:=44
 own:=[.arg 0]
 rd:=[]
 res:=[.one .ptr,.one (.int .i64)]
 links:=[0]
 pre:=fun xs Hs Rs=>∃ dp frm n H D,xs=[dp,.int .i64 frm,.int .i64 n]/\Hs=[H]/\aE H dp D
 post:=fun xs Hs Rs v Hs' F=>∃ dp frm n H D H' pv,xs=[dp,.int .i64 frm,.int .i64 n]/\Hs=[H]/\aE H dp D/\Hs'=[H']/\aE H' dp D/\v=.tuple #[pv,.int .i64 (jN D frm n)]/\(jN D frm n=0->dt F pv dp (jO D frm n) (ky D frm n))/\(jN D frm n≠0->pv=.pointer none)
def EI:List Sx.Spec:=[lL,mH,yI]
def NL:∀ t∈EI,t.OK Tryz.prog:=av wy <| av KG <| av Nm <| bN
def EH:aF Tryz.prog EI vZ.fn where
 Λ:=aD
 args:=[TP (.var 0) (.lit 0),TI .i64 (.var 1),TI .i64 (.var 2)]
 mem:=[.hp 3 [] [.var 0] []]
 nv:=4
def Yn:EI[2]?=some yI:=rfl
def Yo:lL.res=[.one (.int .i64)]:=rfl
def Yp:mH.res=[.agg jn,.one (.int .i64)]:=rfl
def Yq:yI.res=[.one (.int .i64)]:=rfl
def LW (l:List CV):List CV:=[.hptr (.var 0) (.lit 0),.int .i64 (.var 1),.int .i64 (.wrap .i64 (.mul (.lit 64) (.wrap .i64 (.sub (.var 2) (.lit 2)))))]++l++[.sl (.lit (-1)) (.lit 0) (.lit 0) (.lit 0),.bool .ff]
def Ym {l:List CV} {n:Int} (h0:q.i 0=da) (h1:q.i 1=frm) (h2:q.i 2=n) (hn:3<=n/\n<=16384) (hh:h.length=18) (hl:l.map (CV.ev q)=nY h) :
 (bm.bd 8 (LW l) 145).hl q=Hl.one (q.i 8).toNat (jq (.pointer (some ⟨da,0,none⟩)) (.slice none 0 0) (yq frm (64*(n-2)) h)):=by
 show Hl.one (q.i 8).toNat (.cells ((LW l).map (CV.ev q)).toArray _ (0,0))=_;have e:(LW l).map (CV.ev q)=ly (.pointer (some ⟨da,0,none⟩)) (.slice none 0 0) (yq frm (64*(n-2)) h):=by
  unfold LW;rw[aaK,aaK,hl];have ep:Value.pointer (ar (q.i 0) 0)=.pointer (some ⟨da,0,none⟩):=by rw[h0,jm]
  have em:IntKind.i64.wrap (64*IntKind.i64.wrap (q.i 2-2))=64*(n-2):=by
   rw[h2,wrap_i64 (n:=n-2) ah ah,wrap_i64 ah ah]
  show [Value.pointer (ar (q.i 0) 0),Value.int .i64 (q.i 1),Value.int .i64 (IntKind.i64.wrap (64*IntKind.i64.wrap (q.i 2-2)))]++nY h++[Value.slice (ar (-1) 0) 0 0,Value.bool false]=_;rw[ep,em,h1,dr];unfold ly yq nY;simp only[acv,abE,aaF]
 rw[e];rfl
def D8 (e:(ak n jn).map (CV.ev q)=nY h):q.i n=h.getD 0 0:=by
 have:=aaQ (fun l=>l[0]?) e;simpa [jn,ak,Ck.cv,CV.ev,nY,au] using this
def MV {n:Int} (hf:0<=frm/\frm<=16384) (hn:3<=n/\n<=16384) (hh:h.length=18):(yq frm (64*(n-2)) h).ok:=⟨hf,⟨by show 0<=64*(n-2);omega,by show 64*(n-2)<=_;omega⟩,by show(h.drop 2).length=16;rw[aaV];omega⟩
def NK:vZ.OK Tryz.prog:=by
 refine Spec.aV (Γ:=EI) NL ?_;rintro xs Hs Rs hl1 hl2 ⟨dp,frm,n,H,D,rfl,rfl,hD⟩;have e1:Rs=[]:=aad.1 hl2;subst e1;obtain⟨da,s,m,es,clock,hdp,hDi⟩:=id hD;have hDn:=hDi.ok.n;refine⟨EH,aQ [da,frm,n] false [Hl.none,Hl.none,Hl.none,H],fun _ _=>True,fun _ _=>0,?_,⟨?_,?_,?_,?_⟩,(fun _ h=>nomatch h),?_⟩
 .show [Value.pointer (ar (da:Int) 0),Value.int .i64 frm,Value.int .i64 n]=_;rw[jm,hdp]
 .intro r hr ho;simp [EH]at hr;subst hr;exact⟨H,aC,Hl.le_refl _⟩
 .intro r hr ho;simp [EH]at hr;subst hr;cases ho
 .simp [EH]
 .intro r hr;simp [EH]at hr;subst hr;trivial
 .refine aF.read [] [] [] ?_;generalize hρ:aQ [(da:Int),frm,n] false [Hl.none,Hl.none,Hl.none,H]=J;have v0:J.i 0=da:=by rw[<-hρ];rfl
  have v1:J.i 1=frm:=by rw[<-hρ];rfl
  have v2:J.i 2=n:=by rw[<-hρ];rfl
  have w3:J.h 3=H:=by rw[<-hρ];rfl
  have ep:Value.pointer (ar (da:Int) 0)=dp:=by rw[jm,hdp]
  have bad:∀ (q:Env) (k:Nat) (vs:List Nat) (t:Mem) (x:E) (e:Int),aE (q.h k) dp D->az q x=e->jN D frm n=e->e≠0 ->
   postOf vZ [dp,.int .i64 frm,.int .i64 n] [H] [] q (.hp k vs [.var 0] []::t) (.tup [.one (.hptr (.lit (-1)) (.lit 0)),.one (.int .i64 x)]):=by
   intro q k vs t x e hq hx he hne _;refine⟨[[0]],[],rfl,rfl,⟨(bh fun j=>[-1,0,e].getD j 0),?_,⟨by show(-1:Int)<= -1;omega,aar _⟩,zzT,zzT⟩,dp,frm,n,H,D,_,.pointer none,rfl,rfl,hD,rfl,?_,?_,fun h=>absurd (he.symm.trans h) hne,fun _=>rfl⟩
   .subst hx;rfl
   .show aE (cu [q.h k]) _ _;rw[aL];exact hq
   .rw[he,<-hx];rfl
  simp only[go_sem,Nat.reduceAdd,EI,Yn,Yo,Yp,Yq];rw[v0,v1,v2,w3,ep];refine⟨fun h3=>⟨fun h0=>⟨⟨dp,H,D,rfl,rfl,hD⟩,fun q1 g1 ⟨F,⟨p',H',D',H2,hx,hH,hD',hH2,hD2,hv⟩,_,_⟩=>?_⟩,fun h0=>bad _ 3 _ _ _ 1 (by rw[w3];exact hD) (aq _ _) (by unfold jN;rw[aay (Or.inr (Or.inl h0))]) aA⟩,fun h3=>bad _ 3 _ _ _ 1 (by rw[w3];exact hD) (aq _ _) (by unfold jN;rw[aay (Or.inl h3)]) aA⟩;cases hx;cases hH;have e:=hD'.uniq hD;subst e;simp only[Value.int.injEq,aaZ,aag,aau]at hv hH2;rw[<-hH2]at hD2;have hv:q1.i 4=D'.n:=hv;rw[g1.i 0,g1.i 1,v0,v1,hv,ep];refine⟨fun hlt=>⟨⟨dp,_,D',rfl,rfl,hD2⟩,fun q2 g2 ⟨F,⟨p',H',D1,H3,hx,hH,hD',hH3,hD3,hv3⟩,_,_⟩=>?_⟩,fun hlt=>bad _ 4 _ _ _ 1 hD2 (aq _ _) (by unfold jN;rw[aay (Or.inr (Or.inr (Or.inl hlt)))]) aA⟩;cases hx;cases hH;have e:=hD'.uniq hD2;subst e;simp only[Value.int.injEq,aaZ,aag,aau]at hv3 hH3;rw[<-hH3]at hD3;have hv3:q2.i 6=D1.n:=hv3;have h3:3<=n:=ah;have h0:0<=frm:=ah;have hlt:frm<=D1.n:=ah;have esub:IntKind.i64.wrap ((D1.n:Int)-frm)=D1.n-frm:=wrap_i64 ah ah;rw[g2.i 1,g2.i 2,g1.i 1,g1.i 2,v1,v2,hv3,esub];refine⟨fun hr=>bad _ 6 _ _ _ 1 hD3 (aq _ _) (by unfold jN;rw[aay (Or.inr (Or.inr (Or.inr hr)))]) aA,fun hr q3 g3 p8=>?_⟩;have hr:n<=D1.n-frm:=ah;have G3:ai 4 J q3:=(g1.tr g2).tr g3;have hn16:3<=n/\n<=16384:=⟨h3,ah⟩;have hf16:0<=frm/\frm<=16384:=⟨h0,ah⟩;have hm0:0<=64*(n-2):=ah;have ep8:∀ q:Env,0<=q.i 8->Value.pointer (ar (q.i 8) 0)=.pointer (some ⟨(q.i 8).toNat,0,none⟩):=fun q h=>by rw[al h];rfl
  have rd:∀ (q:Env) (l:List CV) (h:List Int),ai 4 J q->h.length=18->l.map (CV.ev q)=nY h->0<=q.i 8 ->
   kq ((bm.bd 8 (LW l) 145).hl q) (q.i 8).toNat dp (.slice none 0 0) (yq frm (64*(n-2)) h):=by
   intro q l h hq hh hl h8;refine⟨MV hf16 hn16 hh,?_⟩;rw[Ym (by rw[hq.i 0,v0]) (by rw[hq.i 1,v1]) (by rw[hq.i 2,v2]) hn16 hh hl,hdp];exact Hl.aN _ _
  have call:∀ (q:Env) (l:List CV) (h:List Int) (k:Nat) (place:Int),ai 4 J q->h.length=18->l.map (CV.ev q)=nY h->0<=q.i 8->aE (q.h k) dp D1->(place=0\/place=1) ->
   mH.pre [.pointer (ar (q.i 8) 0),.int .u64 place] [q.h k] [(bm.bd 8 (LW l) 145).hl q]:=by
   intro q l h k place hq hh hl h8 hd hp;exact⟨_,place,_,_,dp,_,_,D1,rfl,rfl,rfl,⟨_,ep8 q h8,rd q l h hq hh hl h8⟩,hd,hp⟩
  have back:∀ (q:Env) (l:List CV) (h:List Int) (k:Nat) (place:Int) (v:Value) (H' F:Hl),ai 4 J q->h.length=18->l.map (CV.ev q)=nY h->0<=q.i 8->aE (q.h k) dp D1 ->
   mH.post [.pointer (ar (q.i 8) 0),.int .u64 place] [q.h k] [(bm.bd 8 (LW l) 145).hl q] v [H'] F ->
   aE H' dp D1/\v=.tuple #[.agg (nY (bx D1 frm (64*(n-2)) place).1).toArray,.int .i64 (bx D1 frm (64*(n-2)) place).2]:=by
   intro q l h k place v H' F hq hh hl h8 hd ⟨p',place',Hx,R,dp',sl',L',Dx,H'',hx,hH,hR,hL,hDx,hH',hDy,hvq⟩;cases hx;cases hH;have hR:(bm.bd 8 (LW l) 145).hl q=R:=by simpa using hR
   subst hR;obtain⟨e1,e2,e3⟩:=hL.uniq ⟨_,ep8 q h8,rd q l h hq hh hl h8⟩;subst e1 e2 e3;have e:=hDx.uniq hd;subst e;simp only[aag,aau]at hH';subst hH';exact⟨hDy,hvq⟩
  have inr:∀ place:Int,place=0\/place=1->D1.has (frm+place)=true:=by
   intro place hp;unfold DM.has;simp only[aaf];omega
  have oE:jN D1 frm n=if D1.gone then 5 else 0:=by
   unfold jN;rw[aal ah]
  have leaf:∀ (q:Env) (l:List CV) (h:List Int),ai 4 J q->rS h->h.getD 1 0<=64*(n-2)->l.map (CV.ev q)=nY h->0<=q.i 8->aE (q.h 29) dp D1->D1.gone=false->oS D1 frm n=h ->
   (yI.pre [.pointer (ar (q.i 8) 0)] [(bm.bd 8 (LW l) 145).hl q,q.h 29] [] /\
   ∀ q':Env,ai 49 q q'->(∃ F,yI.post [.pointer (ar (q.i 8) 0)] [(bm.bd 8 (LW l) 145).hl q,q.h 29] [] (.int .i64 (q'.i 49)) (newHs q' 49 2) F/\(aT 0 [Cp.one (Ck.int .i64)]≠[]->q'.h 51=F)/\fe 49 [Cp.one (Ck.int .i64)] q') ->
    (¬q'.i 49=0->postOf vZ [dp,.int .i64 frm,.int .i64 n] [H] [] q' [.hp 50 [29,9,6,4,3] [.var 0] [],.hp 49 [] [.var 8] [],.dead,.dead] (.tup [.one (.hptr (.lit (-1)) (.lit 0)),.one (.int .i64 (.var 49))])) /\
    (q'.i 49=0->postOf vZ [dp,.int .i64 frm,.int .i64 n] [H] [] q' [.hp 50 [29,9,6,4,3] [.var 0] [],.hp 49 [] [.var 8] [],.dead,.dead] (.tup [.one (.hptr (.var 8) (.lit 0)),.one (.int .i64 (.lit 0))]))):=by
   intro q l h hq hh hmost hl h8 hd hgone hoH;refine⟨⟨_,_,_,_,dp,_,D1,rfl,rfl,ep8 q h8,rd q l h hq hh.1 hl h8,hd,hgone,hh.2.2.1,?_⟩,fun q' g' ⟨F,⟨p',a',HL,HDk,dp',L',Dx,HL',HD',hx,hH,hp,hL,hDx,hH',hDy,hAt,hvq⟩,_,_⟩=>?_⟩
   .show 64*(frm+2)+h.getD 1 0<=64*(D1.n:Int);omega
   .have hx:Value.pointer (ar (q.i 8) 0)=p':=by simpa using hx
    subst hx;have hH:(bm.bd 8 (LW l) 145).hl q=HL/\q.h 29=HDk:=by simpa using hH
    obtain⟨hH1,hH2⟩:=hH;subst hH1 hH2;have e:=hDx;obtain⟨e1,e2,e3⟩:=fF.uniq ⟨a',hp,hL⟩ ⟨_,ep8 q h8,rd q l h hq hh.1 hl h8⟩;subst e1 e3;have e:=hDx.uniq hd;subst e;have hH':q'.h 49=HL'/\q'.h 50=HD':=by
     have h1:[q'.h 49,q'.h 50]=[HL',HD']:=hH';simpa using h1
    obtain⟨h49,h50⟩:=hH';simp only[Value.int.injEq,aaZ]at hvq;refine⟨fun h=>absurd hvq h,fun _ _=>⟨[[0]],[1],rfl,rfl,⟨(bh fun j=>[q'.i 8,0,0].getD j 0),rfl,⟨?_,aar _⟩,zzT,zzT⟩,_,frm,n,H,Dx,_,Value.pointer (ar (q'.i 8) 0),rfl,rfl,hD,rfl,?_,?_,fun _=>?_,fun h=>absurd (by rw[oE,hgone];rfl) h⟩⟩
    .show -1<=q'.i 8;rw[g'.i 8];omega
    .show aE (cu [q'.h 50]) _ _;rw[aL,h50];exact hDy
    .rw[oE,hgone];rfl
    .show dt (cu [q'.h 49]) _ _ _ _;rw[aL,h49,g'.i 8];unfold ky jO;rw[hoH];exact hAt
  have z18:∀ q:Env,([CV.int .u64 (.lit 0),CV.int .u64 (.lit 0)]++List.replicate 16 (CV.int .u8 (.lit 0))).map (CV.ev q)=nY gR:=fun q=>rfl;obtain⟨ok0,le0⟩:=oc hDi.ok frm hm0 0;obtain⟨ok1,le1⟩:=oc hDi.ok frm hm0 1;have hD6:aE (q3.h 6) dp D1:=by rw[g3.h 6];exact hD3
  refine⟨call q3 _ gR 6 0 G3 rfl (z18 q3) p8 hD6 (Or.inl rfl),fun q4 g4 ⟨F,hp4,_,_⟩ q5 g5 _=>?_⟩;obtain⟨hD9,hv4⟩:=back q3 _ gR 6 0 _ _ _ G3 rfl (z18 q3) p8 hD6 hp4;simp only[Value.tuple.injEq,aaH,aag,Value.int.injEq,Value.agg.injEq,aaZ,aau]at hv4;obtain⟨hh4,hc4⟩:=hv4;have hc4:q4.i 27=(bx D1 frm (64*(n-2)) 0).2:=hc4;rw[yK (inr 0 (Or.inl rfl))]at hc4;have G5:ai 4 J q5:=(G3.tr g4).tr g5;have hh5:List.map (CV.ev q5) (ak 9 jn)=nY (bx D1 frm (64*(n-2)) 0).1:=by
   rw[CV.gU (g5.mono aA) _ (cP jn 9)];exact hh4
  have p85:0<=q5.i 8:=by rw[g5.i 8,g4.i 8];exact p8
  have hD95:aE (q5.h 9) dp D1:=by rw[g5.h 9];exact hD9
  refine⟨fun h27=>bad q5 9 _ _ _ 5 hD95 (by rw[au,g5.i 27,hc4,aay];exact abj fun hg=>h27 (by rw[g5.i 27,hc4,aal hg])) (by rw[oE,aay];exact abj fun hg=>h27 (by rw[g5.i 27,hc4,aal hg])) aA,fun h27=>?_⟩;have hgone:D1.gone=false:=by
   cases hg:D1.gone with
   | false=>rfl
   | true=>rw[g5.i 27,hc4,hg]at h27;cases h27
  have mid:∀ (q6:Env),ai 29 q5 q6->∀ F,mH.post [.pointer (ar (q5.i 8) 0),.int .u64 1] [q5.h 9] [(bm.bd 8 (LW (ak 9 jn)) 145).hl q5] (.tuple #[.agg (List.map (CV.ev q6) (ak 29 jn)).toArray,.int .i64 (q6.i 47)]) [q6.h 29] F ->
   ∀ q7,ai 48 q6 q7->q7.i 47=0/\ai 4 J q7/\0<=q7.i 8/\aE (q7.h 29) dp D1/\List.map (CV.ev q7) (ak 29 jn)=nY (bx D1 frm (64*(n-2)) 1).1/\List.map (CV.ev q7) (ak 9 jn)=nY (bx D1 frm (64*(n-2)) 0).1:=by
   intro q6 g6 F hp6 q7 g7;obtain⟨hD29,hv6⟩:=back q5 _ _ 9 1 _ _ _ G5 ok0.1 hh5 p85 hD95 hp6;simp only[Value.tuple.injEq,aaH,aag,Value.int.injEq,Value.agg.injEq,aaZ,aau]at hv6;obtain⟨hh6,hc6⟩:=hv6;rw[yK (inr 1 (Or.inr rfl)),hgone]at hc6;refine⟨by rw[g7.i 47,hc6];rfl,(G5.tr g6).tr g7,by rw[g7.i 8,g6.i 8];exact p85,by rw[g7.h 29];exact hD29,?_,?_⟩
   .rw[CV.gU (g7.mono aA) _ (cP jn 29)];exact hh6
   .rw[CV.gU ((g6.tr g7).mono aA) _ (cP jn 9)];exact hh5
  have both:∀ (q7:Env),ai 4 J q7->0<=q7.i 8->aE (q7.h 29) dp D1->List.map (CV.ev q7) (ak 29 jn)=nY (bx D1 frm (64*(n-2)) 1).1->List.map (CV.ev q7) (ak 9 jn)=nY (bx D1 frm (64*(n-2)) 0).1 ->
   (q7.i 9<q7.i 29->oS D1 frm n=(bx D1 frm (64*(n-2)) 1).1)/\(¬q7.i 9<q7.i 29->oS D1 frm n=(bx D1 frm (64*(n-2)) 0).1):=by
   intro q7 _ _ _ h1 h2;rw[D8 h1,D8 h2];exact⟨fun h=>by unfold oS;rw[aay h],fun h=>by unfold oS;rw[aal h]⟩
  constructor
  .intro _;refine⟨call q5 _ _ 9 1 G5 ok0.1 hh5 p85 hD95 (Or.inr rfl),fun q6 g6 ⟨F,hp6,_,_⟩ q7 g7 _=>?_⟩;obtain⟨z1,z2,z3,z4,z5,z6⟩:=mid q6 g6 F hp6 q7 g7;obtain⟨b1,b2⟩:=both q7 z2 z3 z4 z5 z6;exact⟨fun h=>absurd z1 h,fun _=>⟨fun hlt=>leaf q7 (ak 29 jn) _ z2 ok1 le1 z5 z3 z4 hgone (b1 hlt),fun hge=>leaf q7 (ak 9 jn) _ z2 ok0 le0 z6 z3 z4 hgone (b2 hge)⟩⟩
  .intro _;refine⟨call q5 _ _ 9 1 G5 ok0.1 hh5 p85 hD95 (Or.inr rfl),fun q6 g6 ⟨F,hp6,_,_⟩ q7 g7 _=>?_⟩;obtain⟨z1,z2,z3,z4,z5,z6⟩:=mid q6 g6 F hp6 q7 g7;obtain⟨b1,b2⟩:=both q7 z2 z3 z4 z5 z6;exact⟨fun h=>absurd z1 h,fun _=>⟨fun hlt=>leaf q7 (ak 29 jn) _ z2 ok1 le1 z5 z3 z4 hgone (b1 hlt),fun hge=>leaf q7 (ak 9 jn) _ z2 ok0 le0 z6 z3 z4 hgone (b2 hge)⟩⟩
def sg (sl:Value) (n:Nat):Prop:=∃ (x y:Int) (c:Nat),sl=.slice (ar x y) n c/\ -1<=x/\0<=y
def bM.sg (h:bM F e v bs):sg v bs.length:=by
 obtain⟨x,c,hx,hv,_⟩:=bM.rep h;exact⟨x,0,c,hv,hx,aar _⟩
def nN.sg (h:nN F v bs):sg v bs.length:=by
 obtain⟨x,y,c,hv,hy,h⟩:=h;exact⟨x,y,c,hv,by rcases h with ⟨h,_⟩ | ⟨h,_⟩<;>omega,hy⟩
def sg.uniq (h:sg sl n) (h':sg sl m):n=m:=by
 obtain⟨x,y,c,rfl,_⟩:=h;obtain⟨x',y',c',he,_⟩:=h';simp only[Value.slice.injEq]at he;exact he.2.1
def zW (hx:-1<=x) (n c:Nat):bo (some (.slice (ar x y) n c)) 0=x:=by
 rcases abp x 0 with h | h
 .obtain rfl:x= -1:=ah;rfl
 .rw[al h];show((x.toNat:Nat):Int)=x;omega
def FD (hx:0<=x) (hy:0<=y) (n c:Nat):bo (some (.slice (ar x y) n c)) 1=y:=by
 rw[al hx];show((y.toNat:Nat):Int)=y;omega
def nL (hx:-1<=x) (n c:Nat):bo (some (.slice (ar x y) n c)) 2=n:=by
 rcases abp x 0 with h | h
 .obtain rfl:x= -1:=ah;rfl
 .rw[al h];rfl
def rB (a:Nat) (R1 R2:Hl):Env:=aQ [(a:Int)] false [Hl.none,R2,R1]
def we:Mem:=[.ro 1 [.hP 2 (.var 0) (.lit 21) 0 0] false,.ro 2 [.var 0] false]
def CF (a:Nat) (R1 R2:Hl) (Rs:List Hl) (h1:R1∈Rs) (h2:R2∈Rs):Entry (rB a R1 R2) we [] Rs:=by
 refine⟨fun r hr ho=>?_,fun r hr ho=>?_,?_,fun r hr=>?_⟩
 .simp [we]at hr;rcases hr with rfl | rfl<;>cases ho
 .simp [we]at hr;rcases hr with rfl | rfl
  .exact⟨R2,h2,Hl.le_refl _⟩
  .exact⟨R1,h1,Hl.le_refl _⟩
 .simp [we,bm.own]
 .simp [we]at hr;rcases hr with rfl | rfl<;>trivial
def wm:Sx.Spec where
 fn:=50
 own:=[]
 rd:=[0]
 res:=[.one (.int .i64)]
 pre:=fun xs Hs Rs=>∃ p R dp sl L n,xs=[p]/\Rs=[R]/\fF R p dp sl L/\sg sl n/\n<=1048576
 post:=fun xs Hs Rs v Hs' F=>∃ p R dp sl L n,xs=[p]/\Rs=[R]/\fF R p dp sl L/\sg sl n/\v=.int .i64 (L.most-n)
def Wc:aF Tryz.prog [] wm.fn where
 Λ:=aD
 args:=[TP (.var 0) (.lit 0)]
 mem:=we
 nv:=3
def pE:Sx.Spec where
 fn:=54
 own:=[]
 rd:=[0]
 res:=[.agg (sF 16)]
 pre:=fun xs Hs Rs=>∃ p R dp sl L,xs=[p]/\Rs=[R]/\fF R p dp sl L
 post:=fun xs Hs Rs v Hs' F=>∃ p R dp sl L,xs=[p]/\Rs=[R]/\fF R p dp sl L/\v=.agg (aS L.note).toArray
def Te:aF Tryz.prog [] pE.fn where
 Λ:=aD
 args:=[TP (.var 0) (.lit 0)]
 mem:=we
 nv:=3
def kq.UA (h:kq R a dp sl L):R.cell a 21=some sl:=by
 rw[h.cell];unfold ly;rw[aav aC,aav (by rw[bY,h.1.note];simp)];rw[bY,h.1.note];rfl
def kq.Qj (h:kq R a dp sl L):∀ j z,L.note[j]?=some z->R.cell a (5+j)=some (.int .u8 z):=by
 intro j z hz;rw[h.cell];unfold ly;have hj:=(aah.1 hz).1;rw[aav aC,aaC (by rw[bY];simp;omega),fD];rw[show 5+j-_=j from by simp,hz];rfl
def E8:wm.OK Tryz.prog:=by
 refine Spec.aV (Γ:=[]) (fun _ h=>by cases h) ?_;rintro xs Hs Rs hl1 hl2 ⟨p,R,dp,sl,L,n,rfl,rfl,⟨a,rfl,hL⟩,hs,hn⟩;have e0:Hs=[]:=aad.1 hl1;subst e0;refine⟨Wc,rB a R R,fun _ _=>True,fun _ _=>0,?_,CF a R R _ aC aC,(fun _ h=>nomatch h),?_⟩
 .show [Value.pointer (ar (a:Int) 0)]=_;rw[jm]
 .refine aF.read [] [] [] ?_;simp only[go_sem,Nat.reduceAdd];have v0:(rB a R R).i 0=a:=rfl;have w2:(rB a R R).h 2=R:=rfl;have c2:R.cell a 2=some (.int .i64 L.most):=by rw[hL.cell];rfl
  have c21:=hL.UA;obtain⟨x,y,c,hsl,hx,hy⟩:=id hs;obtain⟨m0,m1⟩:=hL.1.most;rw[v0,w2,aaa,show Int.toNat 2=2 from rfl,show Int.toNat 21=21 from rfl,c2,c21,hsl];refine⟨ah,rfl,rfl,by rw[nL hx];omega,fun _=>⟨[],[],rfl,rfl,⟨(bh fun _=>L.most-n),?_,zzT,zzT⟩,_,R,dp,sl,L,n,rfl,rfl,⟨a,rfl,hL⟩,hs,?_⟩⟩
  all_goals
   show Value.int .i64 (IntKind.i64.wrap (bV (R.cell ((a:Int)).toNat 2)-bo (R.cell ((a:Int)).toNat 21) 2))=Value.int .i64 (L.most-n);rw[aaa,c2,c21,hsl];rw[nL hx];show Value.int .i64 (IntKind.i64.wrap (L.most-(n:Int)))=_;rw[wrap_i64 ah ah]
def AK:pE.OK Tryz.prog:=by
 refine Spec.aV (Γ:=[]) (fun _ h=>by cases h) ?_;rintro xs Hs Rs hl1 hl2 ⟨p,R,dp,sl,L,rfl,rfl,⟨a,rfl,hL⟩⟩;have e0:Hs=[]:=aad.1 hl1;subst e0;refine⟨Te,rB a R R,fun _ _=>True,fun _ _=>0,?_,CF a R R _ aC aC,(fun _ h=>nomatch h),?_⟩
 .show [Value.pointer (ar (a:Int) 0)]=_;rw[jm]
 .refine aF.read [] [] [] ?_;simp only[go_sem,Nat.reduceAdd];intro q g _;have v0:q.i 0=a:=g.i 0;have w2:q.h 2=R:=g.h 2;have hc:=hL.Qj;rw[v0,w2,aaa,show Int.toNat 5=5 from rfl,show Int.toNat 16=16 from rfl];have er:(aU 2 (E.var 0) (E.lit 5) 0 (List.replicate 16 (Kd.int IntKind.u8))).map (CV.ev q)=aS L.note:=by
   refine iM 16 0 _ hL.1.note fun i z hz=>?_;rw[au,aq,v0,w2,aaa,aaM];exact hc _ _ hz
  refine⟨ah,cW hc (by rw[hL.1.note];omega),fun _=>⟨[],[],rfl,rfl,?_,_,R,dp,sl,L,rfl,rfl,⟨a,rfl,hL⟩,?_⟩⟩
  .obtain⟨c,_,_,ec⟩:=cU (sF 16) 0 (aS L.note) (bh fun _=>0) (kT 16 _ hL.1.note);refine⟨c,?_,cC _ _ _ aA,zzT⟩;show Value.agg (List.map (CV.ev q) _).toArray=Value.agg ((ak 0 (sF 16)).map (CV.ev c)).toArray;rw[er,ec]
  .show Value.agg (List.map (CV.ev q) _).toArray=_;rw[er]
def fJ:Sx.Spec where
 fn:=47
 own:=[]
 rd:=[0,1021]
 res:=[.one .sl]
 pre:=fun xs Hs Rs=>∃ p R1 R2 dp sl L bs,xs=[p]/\Rs=[R1,R2]/\fF R1 p dp sl L/\nN R2 sl bs/\bs.length<=1048576
 post:=fun xs Hs Rs v Hs' F=>∃ p R1 R2 dp sl L bs,xs=[p]/\Rs=[R1,R2]/\fF R1 p dp sl L/\nN R2 sl bs/\bM F 5 v bs
def Sn:aF Tryz.prog [] fJ.fn where
 Λ:=aD
 args:=[TP (.var 0) (.lit 0)]
 mem:=we
 nv:=3
def Ar:fJ.OK Tryz.prog:=by
 refine Spec.aV (Γ:=[]) (fun _ h=>by cases h) ?_;rintro xs Hs Rs hl1 hl2 ⟨p,R1,R2,dp,sl,L,bs,rfl,rfl,⟨a,rfl,hL⟩,hB,hn⟩;have e0:Hs=[]:=aad.1 hl1;subst e0;refine⟨Sn,rB a R1 R2,fun _ _=>True,fun _ _=>0,?_,CF a R1 R2 _ aC aC,(fun _ h=>nomatch h),?_⟩
 .show [Value.pointer (ar (a:Int) 0)]=_;rw[jm]
 .refine aF.read [] [] [] ?_;simp only[go_sem,Nat.reduceAdd];have c21:=hL.UA;obtain⟨x,y,c,hsl,hy,hc⟩:=id hB;have hx:-1<=x:=by rcases hc with ⟨h,_⟩ | ⟨h,_⟩<;>omega
  have w2:(rB a R1 R2).h 2=R1:=rfl;have v0:(rB a R1 R2).i 0=a:=rfl;have t0:Int.toNat 0=0:=rfl;rw[v0,w2,aaa,show Int.toNat 21=21 from rfl,c21,hsl,zW hx];refine⟨ah,rfl,fun h=>fun _=>?_,fun h q g p3=>?_⟩
  .have hbs:bs=[]:=by
    rcases hc with ⟨_,h'⟩ | ⟨h',_⟩
    .exact h'
    .omega
   subst hbs;exact⟨[],[],rfl,rfl,⟨(bh fun k=>[-1,0,0,0].getD k 0),rfl,⟨by show(-1:Int)<= -1;omega,aar _,aar _,aar _⟩,zzT⟩,_,R1,R2,dp,sl,L,[],rfl,rfl,⟨a,rfl,hL⟩,hB,⟨rfl,Or.inl ⟨rfl,rfl⟩⟩⟩
  .have hx0:0<=x:=ah;have hcell:∀ (j:Nat) (z:Int),bs[j]?=some z->R2.cell x.toNat (y.toNat+j)=some (.int .u8 z):=by
    rcases hc with ⟨h',_⟩ | ⟨_,h'⟩
    .omega
    .exact h'
   have hsl':=hsl;rw[g.i 0,v0,g.h 2,w2,g.h 1,show(rB a R1 R2).h 1=R2 from rfl,aaa,c21,hsl,zW hx,FD hx0 hy,nL hx,t0,aaa];have hnil:aK (Hl.one (q.i 3).toNat (.cells #[] 5 (0,0))) 5 1 (.slice (ar (q.i 3) 0) 0 0) 0 []:=⟨rfl,Or.inr ⟨(q.i 3).toNat,0,#[],by rw[al p3];rfl,Hl.aN _ _,ah,aA,rfl,rfl⟩⟩;refine⟨⟨⟨[],hnil⟩,ah,Or.inl ⟨hx0,hy,ah,fun j hj=>?_⟩,by unfold maxLen;omega,ah⟩,fun q2 g2 ⟨a1,a2,a3,_⟩=>?_⟩
   .exact⟨_,hcell j _ (aab hj),rfl⟩
   .have hseg:bR R2 x.toNat y.toNat bs.length=aS bs:=by
     unfold bR;apply aaN;intro j;rw[aao,fD];rcases aa5 j bs.length with hj | hj
     .rw[aaJ hj,aaT,hcell j _ (aab hj),aab hj];rfl
     .rw[aas (by simpa using hj),aas ah];rfl
    have hx':=a3 _ hnil;rw[hseg,abE,aaM]at hx';have G2:ai 3 (rB a R1 R2) q2:=g.tr g2;have ev:(TV.sv (SV.one (CV.sl (.var 4) (.lit 0) (.hP 2 (.var 0) (.lit 21) 0 2) (.var 5)))).ev q2=.slice (ar (q2.i 4) 0) bs.length (q2.i 5).toNat:=by
     show Value.slice (ar (q2.i 4) 0) (az q2 (.hP 2 (.var 0) (.lit 21) 0 2)).toNat (q2.i 5).toNat=_;rw[fM,au,aq,G2.i 0,v0,G2.h 2,w2,aaa,show Int.toNat 21+0=21 from rfl,c21,hsl,nL hx,aaa]
    refine fun _=>⟨[],[2],rfl,rfl,⟨(bh fun k=>[q2.i 4,0,bs.length,q2.i 5].getD k 0),?_,⟨a1,aar _,by show(0:Int)<=(bs.length:Int);omega,a2⟩,zzT⟩,_,R1,R2,dp,sl,L,bs,rfl,rfl,⟨a,rfl,hL⟩,hB,?_⟩
    .rw[ev];show _=Value.slice (ar (q2.i 4) 0) ((bs.length:Int)).toNat (q2.i 5).toNat;rw[aaa]
    .rw[ev];show bM (cu [q2.h 4]) _ _ _;rw[aL];exact hx'
end Go.Proofs.YtomdimlnggpgbaaGreatDoor.D
