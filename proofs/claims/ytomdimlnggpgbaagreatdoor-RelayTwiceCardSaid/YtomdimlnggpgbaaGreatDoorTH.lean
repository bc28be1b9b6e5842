/- RelayTwice. -/
import Derived.Test.YtomdimlnggpgbaaGreatDoorTG
set_option linter.all false
set_option maxHeartbeats 4000000
namespace Go.Proofs.YtomdimlnggpgbaaGreatDoor
open Go Go.Sx Go.Pk
def bL (l:List Value) (a n:Nat):List Int:=(List.range n).map fun j=>cI l (a+j)
def bX (z:Int):Nat:=(IntKind.u64.wrap z).toNat
def fh (b:Bool):List Int:=[if b=true then 1 else 0]
def bP (l:List Value) (n:Nat):List Int:=ak (bX (cI l 0))++ak (cI l 1).toNat++bL l 2 32++ak (bX (cI l 34))++fh (cB l 35)++ak (cI l 36).toNat++bL l 37 16++ak n
def pI (l:List Value) (bs:List Int):List Int:=bs++ak (cI l 54).toNat++ak (cI l 55).toNat++ak (cI l 56).toNat++ak (cI l 57).toNat++ak (cI l 58).toNat++ak (cI l 59).toNat++bL l 60 32++ak (bX (cI l 92))
def lI (h:Hd):List Int:=pI h.c (bP h.c h.t.length++h.t.flatten)
theorem jH (z:Int):bX z<18446744073709551616:=by
 unfold bX;rw[IntKind.wrap_u64];omega
theorem u64_in (z:Int):0<=IntKind.u64.wrap z/\IntKind.u64.wrap z<18446744073709551616:=by
 rw[IntKind.wrap_u64];omega
theorem ic:∀ {row:List Value} {ks:List Kd} {k:Nat} {kd:Kd},bS row ks->ks[k]?=some kd->∃ v,row[k]?=some v/\bY (some v) kd=true
 | [],[],k,kd,_,h=>by simp at h
 | v::l,kd'::m,0,kd,h,e=>⟨v,rfl,by rw[Z6,Zj]at e;subst e;exact h.1⟩
 | v::l,kd'::m,k+1,kd,h,e=>by
  rw[Z3]at e ⊢;exact ic h.2 e
theorem Ry {row:List Value} (h:bS row dQ) {k:Nat} (hk:dQ[k]?=some (.int .u8)):row[k]?=some (.int .u8 (cI row k)):=by
 obtain⟨v,hv,hi⟩:=ic h hk;unfold cI;rw[hv];cases v<;>simp [bY]at hi
 subst hi;rfl
theorem uS {row:List Value} (h:bS row dQ) {k:Nat} (hk:dQ[k]?=some (.int .u64)):row[k]?=some (.int .u64 (cI row k)):=by
 obtain⟨v,hv,hi⟩:=ic h hk;unfold cI;rw[hv];cases v<;>simp [bY]at hi
 subst hi;rfl
theorem QS:∀ j,j<32->dQ[2+j]?=some (.int .u8):=by decide
theorem QR:∀ j,j<16->dQ[37+j]?=some (.int .u8):=by decide
theorem Tc:∀ j,j<32->dQ[60+j]?=some (.int .u8):=by decide
theorem bC (l:List Value) (a n:Nat):(bL l a n).length=n:=by unfold bL;simp
theorem OU {row:List Value} (h:bS row dQ) {a n:Nat} (hk:∀ j,j<n->dQ[a+j]?=some (.int .u8)):∀ j z,(bL row a n)[j]?=some z->row[a+j]?=some (.int .u8 z):=by
 intro j z hz;have hj:j<n:=by have:=(Zi.1 hz).1;rwa[bC]at this
 unfold bL at hz;rw[Zs,ZI hj,ZS,Zj]at hz;subst hz;exact Ry h (hk j hj)
theorem Bh {q:Env} {a:Nat} (h0:0<=q.i a) (hr:bS (aL q 0) dQ) {o n:Nat} (hk:∀ j,j<n->dQ[o+j]?=some (.int .u8)):mo ((bx.bD a (al 0 cX) 65).hl q) (.slice (aA (q.i a) (o:Int)) ((n:Int)).toNat ((n:Int)).toNat) (bL (aL q 0) o n) :=
 uR h0 (OU hr hk) (bC _ _ _).symm
theorem gK {q:Env} {n:Nat} {p v:Value} {z:Int} {H:Hl} {bs:List Int} {lg:Bool} {A:Env->Hl->Prop} {K:Env->Prop} (h:bV H p bs lg) (hz:0<=z/\z<18446744073709551616) (hl:bs.length<=900000) (k:∀ q',ah n q q'->bV (q'.h n) p (bs++ak z.toNat) lg->K q') :
 rE.pre [p,.int .u64 z] [H] []/\∀ q',ah n q q'->(∃ F,rE.post [p,.int .u64 z] [H] [] v [q'.h n] F/\A q' F)->K q':=by
 refine⟨⟨_,_,H,bs,lg,rfl,rfl,h,⟨z,rfl,hz⟩,hl⟩,fun q' g ⟨F,hp,_⟩=>k q' g ?_⟩;obtain⟨H',hK,hO⟩:=AZ h hp;have hK:q'.h n=H':=by simpa using hK
 rw[hK];exact hO
theorem K9 {q:Env} {n:Nat} {p v:Value} {b:Bool} {H:Hl} {bs:List Int} {lg:Bool} {A:Env->Hl->Prop} {K:Env->Prop} (h:bV H p bs lg) (hl:bs.length<=900000) (k:∀ q',ah n q q'->bV (q'.h n) p (bs++fh b) lg->K q') :
 qn.pre [p,.bool b] [H] []/\∀ q',ah n q q'->(∃ F,qn.post [p,.bool b] [H] [] v [q'.h n] F/\A q' F)->K q':=by
 refine⟨⟨_,_,H,bs,lg,rfl,rfl,h,⟨b,rfl⟩,hl⟩,fun q' g ⟨F,hp,_⟩=>k q' g ?_⟩;obtain⟨H',hK,hO⟩:=AZ h hp;have hK:q'.h n=H':=by simpa using hK
 rw[hK];exact hO
theorem uQ {q:Env} {n:Nat} {p u v:Value} {H R:Hl} {bs b2:List Int} {lg:Bool} {A:Env->Hl->Prop} {K:Env->Prop} (h:bV H p bs lg) (h2:fp R u b2) (hl:bs.length<=900000) (hl2:b2.length<=90000) (k:∀ q',ah n q q'->bV (q'.h n) p (bs++b2) lg->K q') :
 oc.pre [p,u] [H] [R]/\∀ q',ah n q q'->(∃ F,oc.post [p,u] [H] [R] v [q'.h n] F/\A q' F)->K q':=by
 refine⟨⟨_,_,H,R,bs,lg,b2,rfl,rfl,rfl,h,h2,hl,hl2⟩,fun q' g ⟨F,hp,_⟩=>k q' g ?_⟩;obtain⟨H',hK,hO⟩:=Dw h h2 hp;have hK:q'.h n=H':=by simpa using hK
 rw[hK];exact hO
theorem AB:∀ {T:List (List Int)},(∀ t∈T,t.length=16)->T.flatten.length=T.length*16
 | [],_=>rfl
 | t::T,h=>by
  rw[aar,Y9,h t (ZJ ..),AB (fun u hu=>h u (Zu _ hu)),Zd];omega
theorem oA {a b x y:Int} (hx:0<=x) (hy:0<=y) (hb:0<=b) (h:aA a b=aA x y):a=x/\b=y:=by
 rcases aal a 0 with ha | ha
 .exfalso;rw[au hx]at h;unfold aA at h;rw[Zo (by omega)]at h;split at h
  .cases h
  .simp only[Zj,Addr.mk.injEq]at h;obtain⟨_,_,h⟩:=h;cases h
 .rw[au ha,au hx]at h;simp only[Zj,Addr.mk.injEq]at h;omega
theorem iq {z:Nat} (h:z<18446744073709551616):(ak z).length<=10:=ma h
noncomputable def coreS (f:FuncId):Sx.Spec where
 fn:=f
 own:=[]
 rd:=[10053]
 res:=[.one .sl]
 pre:=fun xs Hs Rs=>∃ row R h,xs=[.agg row.toArray]/\Rs=[R]/\cN R row h/\h.t.length<=8
 post:=fun xs Hs Rs v Hs' F=>∃ row R h,xs=[.agg row.toArray]/\Rs=[R]/\cN R row h/\cH F 5 v (lI h)
def At:Nd:=(fun v b y x w z=>(fun a=>(fun c d f g h i j k l m n o p q r s t u=>(.ext (.alloc 131) (.ext (.alloc 132) (.and (.pre g) (.ext g (.and (.pre u) (.ext u (.and (.pre h) (.ext h (.and (.pre l) (.ext l (.and (.pre p) (.ext p (.and (.pre m) (.ext m (.and (.pre f) (.ext f (.and (.e (.le v (.var 55))) (.and (.pre j) (.ext j (.and (.inv 0 [⟨201,0,.int .i64 v⟩] [(202,some 147)]) (.havoc 0 0 149 (.and (.imp (.lt y (.var 55)) (.and (.e (.le v (.var 53))) (.and (.e (.le v (.var 54))) (.and (.e (.le v y)) (.and (.e (.hby 130 (.var 53) (.add (.var 54) (.mul y x)) x)) (.ext (.alloc 210) (.and (.pre c) (.ext c (.back 0 0 [⟨201,0,.int .i64 (.wrap .i64 (.add y (.lit 1)))⟩] [(202,some 211)]))))))))) (.imp (.not (.lt y (.var 55))) (.and (.pre t) (.ext t (.and (.pre s) (.ext s (.and (.pre q) (.ext q (.and (.pre o) (.ext o (.and (.pre n) (.ext n (.and (.pre k) (.ext k (.and (.pre d) (.ext d (.and (.pre i) (.ext i (.and (.pre r) (.ext r (.post [.ro 130 [.var 53] false,.dead,.hp 224 z b [],.hp 226 [] [.var 226] []] (.sv (.one (.sl (.var 226) (.var 227) (.var 228) (.var 229))))))))))))))))))))))))))))))))))))))))))))):Nd)) (.call 1 211 [.sv a,.sv (.one (.sl (.var 210) v x x))] [.hp 202 [] b []] [.bD 210 (bo 130 (.var 53) (.add (.var 54) (.mul y x)) 0 (List.replicate 16 (Kd.int .u8))) 61]) (.call 1 222 [.sv a,.sv (.one (.sl (.var 131) (.lit 60) (.lit 32) (.lit 32)))] [.hp 220 [218,216,214,212,210,202] b []] w) (.call 1 145 [.sv a,.sv (.one (.sl (.var 131) (.lit 37) x x))] [.hp 143 [141,139,137,135,133] b []] w) (.call 0 133 [.sv a,.sv (.one (.int .u64 (.wrap .u64 (.var 0))))] [.bD 132 [.sl (.lit (-1)) v v v,.bool .ff] 208] []) (.call 1 137 [.sv a,.sv (.one (.sl (.var 131) (.lit 2) (.lit 32) (.lit 32)))] [.hp 135 [133] b []] w) (.call 0 224 [.sv a,.sv (.one (.int .u64 (.wrap .u64 (.var 95))))] [.hp 222 [220,218,216,214,212,210,202] b []] []) (.call 0 147 [.sv a,.sv (.one (.int .u64 (.wrap .u64 (.var 55))))] [.hp 145 [143,141,139,137,135,133] b []] []) (.call 0 220 [.sv a,.sv (.one (.int .u64 (.var 62)))] [.hp 218 [216,214,212,210,202] b []] []) (.call 0 139 [.sv a,.sv (.one (.int .u64 (.wrap .u64 (.var 34))))] [.hp 137 [135,133] b []] []) (.call 0 143 [.sv a,.sv (.one (.int .u64 (.var 36)))] [.hp 141 [139,137,135,133] b []] []) (.call 0 218 [.sv a,.sv (.one (.int .u64 (.var 61)))] [.hp 216 [214,212,210,202] b []] []) (.call 0 216 [.sv a,.sv (.one (.int .u64 (.var 60)))] [.hp 214 [212,210,202] b []] []) (.call 2 141 [.sv a,.sv (.one (.bool (.bvar 35)))] [.hp 139 [137,135,133] b []] []) (.call 0 214 [.sv a,.sv (.one (.int .u64 (.var 59)))] [.hp 212 [210,202] b []] []) (.call 3 226 [.sv a] [] [.hp 224 z b []]) (.call 0 212 [.sv a,.sv (.one (.int .u64 (.var 58)))] [.hp 210 [202] b []] []) (.call 0 210 [.sv a,.sv (.one (.int .u64 (.var 57)))] [.hp 202 [] b []] []) (.call 0 135 [.sv a,.sv (.one (.int .u64 (.var 1)))] [.hp 133 [] b []] [])) (.one (.hptr (.var 132) v))) (.lit 0) [.var 132] (.var 201) (.lit 16) [.bD 131 (al 0 cX) 65] [222,220,218,216,214,212,210,202]
def Ph:List Sx.Spec:=[rE,oc,qn,mc]
theorem Qy:∀ t∈Ph,t.OK Tryz.prog:=fun t ht=>by
 simp only[Ph,Zl,Zq,ZO]at ht;rcases ht with rfl | rfl | rfl | rfl
 .exact Dc
 .exact Dd
 .exact Jp
 .exact wY
theorem Yk:Ph[0]?=some rE:=rfl
theorem Yl:Ph[1]?=some oc:=rfl
theorem Ym:Ph[2]?=some qn:=rfl
theorem Yn:Ph[3]?=some mc:=rfl
theorem Yo:rE.res=[]:=rfl
theorem Yp:oc.res=[]:=rfl
theorem Yq:qn.res=[]:=rfl
theorem Yr:mc.res=[.one .sl,.one (.int .i64)]:=rfl
def vD:bU Tryz.prog Ph 177 where
 Λ:=fun p=>if decide (p.length=14)&&!(p.head?==some 99)then some ⟨0,[(41,TI .i64 (.var 201))],[(2,.hp 202 [] [.var 132] [])],210⟩else none
 args:=(bf 0 [.agg cX]).map .sv
 mem:=[.ro 130 [.var 53] false]
 nv:=131
 nd:=At
 ok:=by kernel_rfl
theorem K3 {p v n:Value} {R F:Hl} {bs:List Int} {lg:Bool} {K:List Hl} (h:bV R p bs lg) (hp:mc.post [p] [] [R] (.tuple #[v,n]) K F):cH F 5 v (pw bs lg).1:=by
 obtain⟨p',R',bs',lg',u,e1,e2,hO,hv,hw⟩:=hp;simp only[Ze,Zm]at e1 e2;subst e1 e2;obtain⟨e1,e2⟩:=h.uniq hO;subst e1 e2;simp only[Value.tuple.injEq,ZY,Ze,Zm]at hv;rw[hv.1];exact hw
theorem Cn {R:Hl} {row:List Value} {h:Hd} (x:cN R row h):lI h=pI row (bP row h.t.length++h.t.flatten):=by
 have hs:∀ a n,(∀ j,j<n->a+j≠53)->bL h.c a n=bL row a n:=fun a n ha=>aac fun j hj=>x.I (ha j (ZQ.1 hj));unfold lI pI bP;rw[hs 2 32 (fun j hj=>by omega),hs 37 16 (fun j hj=>by omega),hs 60 32 (fun j hj=>by omega),x.I (k:=0) (by decide),x.I (k:=1) (by decide),x.I (k:=34) (by decide),x.B (k:=35) (by decide),x.I (k:=36) (by decide),x.I (k:=54) (by decide),x.I (k:=55) (by decide),x.I (k:=56) (by decide),x.I (k:=57) (by decide),x.I (k:=58) (by decide),x.I (k:=59) (by decide),x.I (k:=92) (by decide)]
theorem IQ:(coreS 177).OK Tryz.prog:=by
 refine Spec.bJ (Γ:=Ph) Qy ?_;rintro xs Hs Rs hl1 hl2 ⟨row,R,h,rfl,rfl,hx,h8⟩;have e0:Hs=[]:=Za.1 hl1;subst e0;obtain⟨ρ,rfl,w130,hnw,n54,n55,n56⟩:=kE (R:=R) hx.ok;refine⟨vD,ρ,fun _ q=>∃ i:Nat,q.i 201=i/\i<=h.t.length/\bV (q.h 202) (.pointer (aA (q.i 132) 0)) (bP (aL ρ 0) h.t.length++(h.t.take i).flatten) false,fun _ q=>(h.t.length-q.i 201).toNat,rfl,⟨?_,?_,?_,?_⟩,(fun _ h=>nomatch h),?_⟩
 .intro r hr ho;simp [vD]at hr;subst hr;cases ho
 .intro r hr ho;simp [vD]at hr;subst hr;exact⟨R,by simp,by show(ρ.h 130).le R;rw[w130];exact Hl.le_refl _⟩
 .simp [vD]
 .intro r hr;simp [vD]at hr;subst hr;trivial
 .show Nd.holds _ _ _ At;unfold At;simp only[Nd.holds,X.pre,X.rel,X.n,Src.ok,Src.len,Src.bG,Zy,Zm,ZG,Zx,Zp,Nat.reduceAdd,Zd,Zh,bn,bj,aJ,aU,aR,bm,aZ,bh,bg,bd,aV,ba,bk,aX,aW,aK,aY,ai,aj,aB,aF,aD,ar,aG,aQ,aP,aq,aI,az,aH,av,TV.ev,SV.ev,CV.ev,Zf,Zr,bx.hl,cu,Cp.sv,Ck.cv,bf,Cp.len,Ck.len,aE,aN,aT,Yk,Yo,Yl,Yp,Ym,Yq,Yn,Yr];intro q1 g1 p1 q2 g2 p2;have hrg:=hx.rng;have r1:0<=ρ.i 1/\ρ.i 1<18446744073709551616:=hrg (.int .u64 (ρ.i 1)) (Zb (i:=1) rfl);have r36:0<=ρ.i 36/\ρ.i 36<18446744073709551616:=hrg (.int .u64 (ρ.i 36)) (Zb (i:=36) rfl);have r57:0<=ρ.i 57/\ρ.i 57<18446744073709551616:=hrg (.int .u64 (ρ.i 57)) (Zb (i:=54) rfl);have r58:0<=ρ.i 58/\ρ.i 58<18446744073709551616:=hrg (.int .u64 (ρ.i 58)) (Zb (i:=55) rfl);have r59:0<=ρ.i 59/\ρ.i 59<18446744073709551616:=hrg (.int .u64 (ρ.i 59)) (Zb (i:=56) rfl);have r60:0<=ρ.i 60/\ρ.i 60<18446744073709551616:=hrg (.int .u64 (ρ.i 60)) (Zb (i:=57) rfl);have r61:0<=ρ.i 61/\ρ.i 61<18446744073709551616:=hrg (.int .u64 (ρ.i 61)) (Zb (i:=58) rfl);have r62:0<=ρ.i 62/\ρ.i 62<18446744073709551616:=hrg (.int .u64 (ρ.i 62)) (Zb (i:=59) rfl);have hlen:(ρ.i 55).toNat=h.t.length:=Bk hx.tok;have G2:ah 131 ρ q2:=g1.tr g2;have P2:0<=q2.i 131:=by rw[g2.i 131];exact p1
  have h2:bV (Hl.one (q2.i 132).toNat (Obj.cells #[Value.slice (aA (-1) 0) (Int.toNat 0) (Int.toNat 0),Value.bool (bN q2 E.ff)] 208 (0,0))) (Value.pointer (aA (q2.i 132) 0)) [] false:=by rw[au p2];exact bV.new _
  have l2:([]:List Int).length<=0:=ZB 0;rw[G2.i 0];refine gK h2 (u64_in _) (by omega) fun q3 g3 h3=>?_;have G3:ah 131 ρ q3:=G2.tr g3;have P3:0<=q3.i 131:=by rw[g3.i 131];exact P2
  rw[<-g3.i 132]at h3;have h3:bV (q3.h _) (.pointer (aA (q3.i 132) 0)) (ak (bX (ρ.i 0))) false:=h3;have b3:(ak (bX (ρ.i 0))).length<=10:=iq (jH _);have l3:=ZR l2 b3;have l3:=b3;rw[G3.i 1];refine gK h3 r1 (by omega) fun q4 g4 h4=>?_;have G4:ah 131 ρ q4:=G3.tr g4;have P4:0<=q4.i 131:=by rw[g4.i 131];exact P3
  rw[<-g4.i 132]at h4;have h4:bV (q4.h _) (.pointer (aA (q4.i 132) 0)) (ak (bX (ρ.i 0))++ak (ρ.i 1).toNat) false:=h4;have b4:(ak (ρ.i 1).toNat).length<=10:=iq (z:=(ρ.i 1).toNat) (by omega);have l4:=ZR l3 b4;rw[<-Y9]at l4;have rd4:=Bh (n:=32) P4 (by rw[cZ G4.mono];exact hx.ok) QS;rw[cZ G4.mono]at rd4;refine uQ h4 rd4.w (by omega) (by rw[bC];omega) fun q5 g5 h5=>?_;have G5:ah 131 ρ q5:=G4.tr g5;have P5:0<=q5.i 131:=by rw[g5.i 131];exact P4
  rw[<-g5.i 132]at h5;have h5:bV (q5.h _) (.pointer (aA (q5.i 132) 0)) (ak (bX (ρ.i 0))++ak (ρ.i 1).toNat++bL (aL ρ 0) 2 32) false:=h5;have b5:(bL (aL ρ 0) 2 32).length<=32:=abC (bC _ _ _);have l5:=ZR l4 b5;rw[<-Y9]at l5;rw[G5.i 34];refine gK h5 (u64_in _) (by omega) fun q6 g6 h6=>?_;have G6:ah 131 ρ q6:=G5.tr g6;have P6:0<=q6.i 131:=by rw[g6.i 131];exact P5
  rw[<-g6.i 132]at h6;have h6:bV (q6.h _) (.pointer (aA (q6.i 132) 0)) (ak (bX (ρ.i 0))++ak (ρ.i 1).toNat++bL (aL ρ 0) 2 32++ak (bX (ρ.i 34))) false:=h6;have b6:(ak (bX (ρ.i 34))).length<=10:=iq (jH _);have l6:=ZR l5 b6;rw[<-Y9]at l6;rw[cn,G6.b 35];refine K9 h6 (by omega) fun q7 g7 h7=>?_;have G7:ah 131 ρ q7:=G6.tr g7;have P7:0<=q7.i 131:=by rw[g7.i 131];exact P6
  rw[<-g7.i 132]at h7;have h7:bV (q7.h _) (.pointer (aA (q7.i 132) 0)) (ak (bX (ρ.i 0))++ak (ρ.i 1).toNat++bL (aL ρ 0) 2 32++ak (bX (ρ.i 34))++fh (ρ.b 35)) false:=h7;have b7:(fh (ρ.b 35)).length<=1:=ZB 1;have l7:=ZR l6 b7;rw[<-Y9]at l7;rw[G7.i 36];refine gK h7 r36 (by omega) fun q8 g8 h8=>?_;have G8:ah 131 ρ q8:=G7.tr g8;have P8:0<=q8.i 131:=by rw[g8.i 131];exact P7
  rw[<-g8.i 132]at h8;have h8:bV (q8.h _) (.pointer (aA (q8.i 132) 0)) (ak (bX (ρ.i 0))++ak (ρ.i 1).toNat++bL (aL ρ 0) 2 32++ak (bX (ρ.i 34))++fh (ρ.b 35)++ak (ρ.i 36).toNat) false:=h8;have b8:(ak (ρ.i 36).toNat).length<=10:=iq (z:=(ρ.i 36).toNat) (by omega);have l8:=ZR l7 b8;rw[<-Y9]at l8;have rd8:=Bh (n:=16) P8 (by rw[cZ G8.mono];exact hx.ok) QR;rw[cZ G8.mono]at rd8;refine uQ h8 rd8.w (by omega) (by rw[bC];omega) fun q9 g9 h9=>?_;have G9:ah 131 ρ q9:=G8.tr g9;have P9:0<=q9.i 131:=by rw[g9.i 131];exact P8
  rw[<-g9.i 132]at h9;have h9:bV (q9.h _) (.pointer (aA (q9.i 132) 0)) (ak (bX (ρ.i 0))++ak (ρ.i 1).toNat++bL (aL ρ 0) 2 32++ak (bX (ρ.i 34))++fh (ρ.b 35)++ak (ρ.i 36).toNat++bL (aL ρ 0) 37 16) false:=h9;have b9:(bL (aL ρ 0) 37 16).length<=16:=abC (bC _ _ _);have l9:=ZR l8 b9;rw[<-Y9]at l9;rw[G9.i 55];refine⟨n55,?_⟩;have ew:IntKind.u64.wrap (ρ.i 55)=h.t.length:=by rw[nD (by omega) (by omega)];omega
  rw[ew];refine gK h9 (by omega) (by omega) fun q10 g10 h10=>?_;rw[Y7]at h10;have G10:ah 131 ρ q10:=G9.tr g10;have P10:0<=q10.i 131:=by rw[g10.i 131];exact P9
  rw[<-g10.i 132]at h10;have h10:bV (q10.h _) (.pointer (aA (q10.i 132) 0)) (ak (bX (ρ.i 0))++ak (ρ.i 1).toNat++bL (aL ρ 0) 2 32++ak (bX (ρ.i 34))++fh (ρ.b 35)++ak (ρ.i 36).toNat++bL (aL ρ 0) 37 16++ak h.t.length) false:=h10;have b10:(ak h.t.length).length<=10:=iq (z:=h.t.length) (by omega);have l10:=ZR l9 b10;rw[<-Y9]at l10;have hA:bV (q10.h 147) (.pointer (aA (q10.i 132) 0)) (bP (aL ρ 0) h.t.length) false:=h10;have lA:(bP (aL ρ 0) h.t.length).length<=99:=l10;refine⟨⟨0,rfl,aam _,?_⟩,fun q g ⟨i,ei,hi,hO⟩=>?_⟩
  .show bV (q10.h 147) (.pointer (aA (q10.i 132) 0)) (bP (aL ρ 0) h.t.length++(h.t.take 0).flatten) false;rw[aa0,aaR,aau];exact hA
  have G:ah 131 ρ q:=G10.tr g;have P:0<=q.i 131:=by rw[g.i 131];exact P10
  have ht16:∀ t∈h.t,t.length=16:=fun t ht=>(hx.byte.2 t ht).1;have lF:∀ i,i<=h.t.length->((h.t.take i).flatten).length<=128:=fun i hi=>by
   rw[AB (fun t ht=>ht16 t (aaN ht)),ZE];omega
  rw[G.i 55,ei];refine⟨fun hlt=>?_,fun hge=>?_⟩
  .have hiT:i<h.t.length:=by omega
   obtain⟨x,y,c,eS,hy,hrows⟩:=id hx.tok;have eS:Value.slice (aA (ρ.i 53) (ρ.i 54)) (ρ.i 55).toNat (ρ.i 56).toNat=.slice (aA x y) (h.t.map bK).length c:=eS;rcases hrows with hn | ⟨hx0,hc⟩
   .rw[aaz]at hn;rw[hn]at hiT;cases hiT
   simp only[Value.slice.injEq]at eS;obtain⟨hx53,hy54⟩:=oA hx0 hy n54 eS.1;have ht:=Y8 hiT;have m1:=hx.byte.2 _ (Zb ht);obtain⟨b1,r1⟩:=s9 (ρ:=q) (h:=130) (X:=.var 53) (Y:=(E.var 54).add ((E.var 201).mul (E.lit 16))) hx0 hy hc ht m1.1 (by rw[G.h 130,w130]) (by rw[aj,G.i 53,hx53]) (by
    simp only[aB,aD,aj,ai];rw[G.i 54,hy54,ei])
   rw[G.i 53,G.i 54,G.h 130,w130,hx53,hy54];refine⟨hx0,hy,by omega,b1,fun q1 g1 p210=>?_⟩;have r1':(bo 130 (E.var 53) ((E.var 54).add ((E.var 201).mul (E.lit 16))) 0 (List.replicate 16 (Kd.int .u8))).map (CV.ev q1)=bK h.t[i]:=by
    have:=s9 (ρ:=q1) (h:=130) (X:=.var 53) (Y:=(E.var 54).add ((E.var 201).mul (E.lit 16))) hx0 hy hc ht m1.1 (by rw[g1.h 130,G.h 130,w130]) (by rw[aj,g1.i 53,G.i 53,hx53]) (by
     simp only[aB,aD,aj,ai];rw[g1.i 54,g1.i 201,G.i 54,hy54,ei])
    exact this.2
   have rdT:=uR (q:=q1) (T:=61) (l:=h.t[i]) (a:=210) (o:=0) (n:=16) (c:=16) p210 (cs:=bo 130 (E.var 53) ((E.var 54).add ((E.var 201).mul (E.lit 16))) 0 (List.replicate 16 (Kd.int .u8))) (by
    intro j z hz;rw[r1',ZM];unfold bK;rw[Zs,hz];rfl) m1.1.symm
   rw[<-g1.i 132,<-g1.h 202]at hO;have:=lF i hi;refine uQ hO rdT.w (by rw[Y9];omega) (by omega) fun q2 g2 h2=>?_;rw[<-g2.i 132]at h2;have ew:IntKind.i64.wrap (q2.i 201+1)=((i+1:Nat):Int):=by rw[g2.i 201,g1.i 201,ei,IntWalk.i64_in _ (by omega)];omega
   refine⟨⟨i+1,ew,by omega,?_⟩,?_⟩
   .show bV (q2.h 211) (.pointer (aA (q2.i 132) 0)) _ false;rw[aaC,ht,aaE,abi,aar,aaR,aau,<-ZK];exact h2
   .show((h.t.length:Int)-IntKind.i64.wrap (q2.i 201+1)).toNat<_;rw[ew];omega
  have hi':i=h.t.length:=by omega
  rw[hi',aad]at hO;have lF:=lF h.t.length (ZB _);rw[aad]at lF;have l20:=ZR lA lF;rw[<-Y9]at l20;have h20:=hO;have G20:=G;have P20:=P;clear hO G P hA lA h2 l2 h3 l3 h4 l4 h5 l5 h6 l6 h7 l7 h8 l8 h9 l9 h10 l10;rw[G20.i 57];refine gK h20 r57 (by omega) fun q21 g21 h21=>?_;have G21:ah 131 ρ q21:=G20.tr g21;have P21:0<=q21.i 131:=by rw[g21.i 131];exact P20
  rw[<-g21.i 132]at h21;have h21:bV (q21.h _) (.pointer (aA (q21.i 132) 0)) (bP (aL ρ 0) h.t.length++h.t.flatten++ak (ρ.i 57).toNat) false:=h21;have b21:(ak (ρ.i 57).toNat).length<=10:=iq (z:=(ρ.i 57).toNat) (by omega);have l21:=ZR l20 b21;rw[<-Y9]at l21;rw[G21.i 58];refine gK h21 r58 (by omega) fun q22 g22 h22=>?_;have G22:ah 131 ρ q22:=G21.tr g22;have P22:0<=q22.i 131:=by rw[g22.i 131];exact P21
  rw[<-g22.i 132]at h22;have h22:bV (q22.h _) (.pointer (aA (q22.i 132) 0)) (bP (aL ρ 0) h.t.length++h.t.flatten++ak (ρ.i 57).toNat++ak (ρ.i 58).toNat) false:=h22;have b22:(ak (ρ.i 58).toNat).length<=10:=iq (z:=(ρ.i 58).toNat) (by omega);have l22:=ZR l21 b22;rw[<-Y9]at l22;rw[G22.i 59];refine gK h22 r59 (by omega) fun q23 g23 h23=>?_;have G23:ah 131 ρ q23:=G22.tr g23;have P23:0<=q23.i 131:=by rw[g23.i 131];exact P22
  rw[<-g23.i 132]at h23;have h23:bV (q23.h _) (.pointer (aA (q23.i 132) 0)) (bP (aL ρ 0) h.t.length++h.t.flatten++ak (ρ.i 57).toNat++ak (ρ.i 58).toNat++ak (ρ.i 59).toNat) false:=h23;have b23:(ak (ρ.i 59).toNat).length<=10:=iq (z:=(ρ.i 59).toNat) (by omega);have l23:=ZR l22 b23;rw[<-Y9]at l23;rw[G23.i 60];refine gK h23 r60 (by omega) fun q24 g24 h24=>?_;have G24:ah 131 ρ q24:=G23.tr g24;have P24:0<=q24.i 131:=by rw[g24.i 131];exact P23
  rw[<-g24.i 132]at h24;have h24:bV (q24.h _) (.pointer (aA (q24.i 132) 0)) (bP (aL ρ 0) h.t.length++h.t.flatten++ak (ρ.i 57).toNat++ak (ρ.i 58).toNat++ak (ρ.i 59).toNat++ak (ρ.i 60).toNat) false:=h24;have b24:(ak (ρ.i 60).toNat).length<=10:=iq (z:=(ρ.i 60).toNat) (by omega);have l24:=ZR l23 b24;rw[<-Y9]at l24;rw[G24.i 61];refine gK h24 r61 (by omega) fun q25 g25 h25=>?_;have G25:ah 131 ρ q25:=G24.tr g25;have P25:0<=q25.i 131:=by rw[g25.i 131];exact P24
  rw[<-g25.i 132]at h25;have h25:bV (q25.h _) (.pointer (aA (q25.i 132) 0)) (bP (aL ρ 0) h.t.length++h.t.flatten++ak (ρ.i 57).toNat++ak (ρ.i 58).toNat++ak (ρ.i 59).toNat++ak (ρ.i 60).toNat++ak (ρ.i 61).toNat) false:=h25;have b25:(ak (ρ.i 61).toNat).length<=10:=iq (z:=(ρ.i 61).toNat) (by omega);have l25:=ZR l24 b25;rw[<-Y9]at l25;rw[G25.i 62];refine gK h25 r62 (by omega) fun q26 g26 h26=>?_;have G26:ah 131 ρ q26:=G25.tr g26;have P26:0<=q26.i 131:=by rw[g26.i 131];exact P25
  rw[<-g26.i 132]at h26;have h26:bV (q26.h _) (.pointer (aA (q26.i 132) 0)) (bP (aL ρ 0) h.t.length++h.t.flatten++ak (ρ.i 57).toNat++ak (ρ.i 58).toNat++ak (ρ.i 59).toNat++ak (ρ.i 60).toNat++ak (ρ.i 61).toNat++ak (ρ.i 62).toNat) false:=h26;have b26:(ak (ρ.i 62).toNat).length<=10:=iq (z:=(ρ.i 62).toNat) (by omega);have l26:=ZR l25 b26;rw[<-Y9]at l26;have rd26:=Bh (n:=32) P26 (by rw[cZ G26.mono];exact hx.ok) Tc;rw[cZ G26.mono]at rd26;refine uQ h26 rd26.w (by omega) (by rw[bC];omega) fun q27 g27 h27=>?_;have G27:ah 131 ρ q27:=G26.tr g27;have P27:0<=q27.i 131:=by rw[g27.i 131];exact P26
  rw[<-g27.i 132]at h27;have h27:bV (q27.h _) (.pointer (aA (q27.i 132) 0)) (bP (aL ρ 0) h.t.length++h.t.flatten++ak (ρ.i 57).toNat++ak (ρ.i 58).toNat++ak (ρ.i 59).toNat++ak (ρ.i 60).toNat++ak (ρ.i 61).toNat++ak (ρ.i 62).toNat++bL (aL ρ 0) 60 32) false:=h27;have b27:(bL (aL ρ 0) 60 32).length<=32:=abC (bC _ _ _);have l27:=ZR l26 b27;rw[<-Y9]at l27;rw[G27.i 95];refine gK h27 (u64_in _) (by omega) fun q28 g28 h28=>?_;have G28:ah 131 ρ q28:=G27.tr g28;have P28:0<=q28.i 131:=by rw[g28.i 131];exact P27
  rw[<-g28.i 132]at h28;have h28:bV (q28.h _) (.pointer (aA (q28.i 132) 0)) (bP (aL ρ 0) h.t.length++h.t.flatten++ak (ρ.i 57).toNat++ak (ρ.i 58).toNat++ak (ρ.i 59).toNat++ak (ρ.i 60).toNat++ak (ρ.i 61).toNat++ak (ρ.i 62).toNat++bL (aL ρ 0) 60 32++ak (bX (ρ.i 95))) false:=h28;have b28:(ak (bX (ρ.i 95))).length<=10:=iq (jH _);have l28:=ZR l27 b28;rw[<-Y9]at l28;refine⟨⟨_,_,_,false,rfl,rfl,h28,by omega⟩,fun q g ⟨F,hp,hF,hn⟩=>?_⟩;have hO:=K3 h28 hp;have eR:pw (pI (aL ρ 0) (bP (aL ρ 0) h.t.length++h.t.flatten)) false=(pI (aL ρ 0) (bP (aL ρ 0) h.t.length++h.t.flatten),0):=by
   unfold pw;have l28:(pI (aL ρ 0) (bP (aL ρ 0) h.t.length++h.t.flatten)).length<=1000:=abk l28 (by omega);rw[Zo (by rintro(e | e);exact absurd e (by decide);omega)]
  have hO:cH F _ _ (pw (pI (aL ρ 0) (bP (aL ρ 0) h.t.length++h.t.flatten)) false).1:=hO;rw[eR,<-Cn hx]at hO;have hF:q.h 226=F:=hF (by simp [br,Cp.roots,Ck.root]);refine fun _=>⟨[],[3],rfl,rfl,⟨⟨fun k=>q.i (226+k),fun _=>false,fun _=>.empty,fun _=>.tuple #[],fun _=>Hl.none⟩,rfl,hn.1,trivial⟩,_,R,h,rfl,rfl,hx,?_⟩;show cH (dC [q.h 226]) _ _ _;rw[bz,hF];exact hO
def Be:Nd:=(fun a2 b3 x q b2 b7 b6 t y z a0 a1 a3 a4 a5 a6 a7 a8 a9 b0=>(fun b1 b i m b9=>(fun c b8 n p r v=>(fun b4 w k s=>(fun a f h l=>(fun b5 o=>(fun u j=>(fun d g=>(.ext (.alloc 131) (.and (.pre a1) (.ext a1 (.and (.pre b0) (.ext b0 (.and (.pre t) (.ext t (.and (.pre m) (.ext m (.and (.pre y) (.ext y (.and (.pre i) (.ext i (.and (.and (.imp (.bvar 35) (.inv 1 [⟨200,0,.int .i64 (.lit 1)⟩] [])) (.imp (.not (.bvar 35)) (.inv 1 [⟨200,0,.int .i64 q⟩] []))) (.havoc 0 1 150 (.ext (.alloc 201) (.and (.pre r) (.ext r (.and (.pre a3) (.ext a3 (.and (.pre k) (.ext k (.and (.pre h) (.ext h (.and (.e (.le q (.var 55))) (.and (.pre z) (.ext z (.and (.pre f) (.ext f (.and (.inv 0 [⟨310,0,.int .i64 (.var 216)⟩,⟨311,0,.int .i64 (.add (.add w b2) (.var 214))⟩,⟨312,0,.int .i64 (.var 217)⟩,⟨313,0,.int .i64 q⟩] [(314,some 216)]) (.havoc 0 0 218 (.and (.imp (.lt b6 (.var 55)) (.and (.e (.le q (.var 53))) (.and (.e (.le q (.var 54))) (.and (.e (.le q b6)) (.and (.pre p) (.ext p (.back 0 0 [⟨310,0,.int .i64 (.var 320)⟩,⟨311,0,.int .i64 (.add a2 b2)⟩,⟨312,0,.int .i64 (.var 321)⟩,⟨313,0,.int .i64 (.wrap .i64 (.add b6 (.lit 1)))⟩] [(314,some 320)]))))))) (.imp (.not (.lt b6 (.var 55))) (.and (.pre a4) (.ext a4 (.and (.pre v) (.ext v (.and (.pre a5) (.ext a5 (.and (.pre n) (.ext n (.and (.pre a6) (.ext a6 (.and (.pre s) (.ext s (.and (.pre a7) (.ext a7 (.and (.pre l) (.ext l (.and (.pre a8) (.ext a8 (.and (.pre o) (.ext o (.and (.pre a9) (.ext a9 (.and (.pre j) (.ext j (.and (.pre g) (.ext g (.and (.pre a0) (.ext a0 (.and (.pre d) (.ext d (.post [.ro 130 [.var 53] false,.dead,.hp 362 [356,354,348,342,336,330,324,314] [.var 362,.var 356,.var 354,.var 348,.var 342,.var 336,.var 330,.var 324,.var 310] [],.hp 136 [] [.var 136] [],.hp 144 [] [.var 144] [],.dead,.hp 204 [] [.var 204] [],.hp 212 [] [.var 212] [],.hp 320 [] [.var 320] [],.hp 326 [] [.var 326] [],.hp 332 [] [.var 332] [],.hp 338 [] [.var 338] [],.hp 344 [] [.var 344] [],.hp 350 [] [.var 350] [],.hp 358 [] [.var 358] []] (.sv (.one (.sl (.var 362) q (.add (.add u b3) (.var 360)) (.var 363))))))))))))))))))))))))))))))))))))))))))))))))))))))))))))))))))):Nd)) (.app 362 5 1 1 (.sl (.var 356) q (.add u b3) (.var 357)) (.add u b3) (.hp 356 [354,348,342,336,330,324,314] [.var 356,.var 354,.var 348,.var 342,.var 336,.var 330,.var 324,.var 310] []) (.seg 358 (.var 358) (.var 359) (.var 360))) (.app 356 5 1 1 (.sl (.var 354) q u (.var 355)) u (.hp 354 [348,342,336,330,324,314] [.var 354,.var 348,.var 342,.var 336,.var 330,.var 324,.var 310] []) (.cvs (al 63 b7) 32))) (.add b5 (.var 352)) (.app 354 5 1 1 (.sl (.var 348) q b5 (.var 349)) b5 (.hp 348 [342,336,330,324,314] [.var 348,.var 342,.var 336,.var 330,.var 324,.var 310] []) (.seg 350 (.var 350) (.var 351) (.var 352)))) (.add a (.var 346)) (.app 348 5 1 1 (.sl (.var 342) q a (.var 343)) a (.hp 342 [336,330,324,314] [.var 342,.var 336,.var 330,.var 324,.var 310] []) (.seg 344 (.var 344) (.var 345) (.var 346)))) (.add b4 (.var 340)) (.app 216 5 1 1 (.sl (.var 210) q (.add w b2) (.var 211)) (.add w b2) (.hp 210 [208,202,148,142,140,132] [.var 210,.var 208,.var 202,.var 148,.var 142,.var 140,.var 132] []) (.seg 212 (.var 212) (.var 213) (.var 214))) (.app 210 5 1 1 (.sl (.var 208) q w (.var 209)) w (.hp 208 [202,148,142,140,132] [.var 208,.var 202,.var 148,.var 142,.var 140,.var 132] []) (.cvs (al 37 (List.replicate 16 (Ck.int .u8))) 16)) (.app 342 5 1 1 (.sl (.var 336) q b4 (.var 337)) b4 (.hp 336 [330,324,314] [.var 336,.var 330,.var 324,.var 310] []) (.seg 338 (.var 338) (.var 339) (.var 340)))) (.add c (.var 334)) (.add b8 (.var 206)) (.app 208 5 1 1 (.sl (.var 202) q b8 (.var 203)) b8 (.hp 202 [148,142,140,132] [.var 202,.var 148,.var 142,.var 140,.var 132] []) (.seg 204 (.var 204) (.var 205) (.var 206))) (.app 336 5 1 1 (.sl (.var 330) q c (.var 331)) c (.hp 330 [324,314] [.var 330,.var 324,.var 310] []) (.seg 332 (.var 332) (.var 333) (.var 334)))) (.add b1 (.var 328)) (.add b (.lit 1)) (.app 330 5 1 1 (.sl (.var 324) q b1 (.var 325)) b1 (.hp 324 [314] [.var 324,.var 310] []) (.seg 326 (.var 326) (.var 327) (.var 328))) (.app 320 5 1 1 b9 a2 (.hp 314 [] [.var 310] []) (.seg 130 (.var 53) (.add (.var 54) (.mul b6 b2)) b2)) (.app 202 5 1 1 (.sl (.var 148) q b (.var 149)) b (.hp 148 [142,140,132] [.var 148,.var 142,.var 140,.var 132] []) (.cvs [.int .u8 (.var 200)] 1)) (.app 324 5 1 1 b9 a2 (.hp 314 [] [.var 310] []) (.seg 320 (.var 320) (.var 321) (.var 322)))) (.add a2 (.var 322)) (.add (.add x b3) (.var 146)) (.app 148 5 1 1 (.sl (.var 142) q (.add x b3) (.var 143)) (.add x b3) (.hp 142 [140,132] [.var 142,.var 140,.var 132] []) (.seg 144 (.var 144) (.var 145) (.var 146))) (.app 142 5 1 1 (.sl (.var 140) q x (.var 141)) x (.hp 140 [132] [.var 140,.var 132] []) (.cvs (al 2 b7) 32)) (.sl (.var 310) q a2 (.var 312))) (.var 311) (.lit 32) (.add (.var 134) (.var 138)) (.lit 0) (.lit 16) (List.replicate 32 (Ck.int .u8)) (.var 313) (.app 140 5 1 1 (.sl (.var 132) (.var 133) (.var 134) (.var 135)) (.var 134) (.hp 132 [] [.var 132] []) (.seg 136 (.var 136) (.var 137) (.var 138))) (.call 0 144 [.sv (.one (.int .u64 (.wrap .u64 (.var 34))))] [] []) (.call 0 212 [.sv (.one (.int .u64 (.wrap .u64 (.var 55))))] [] []) (.call 0 358 [.sv (.one (.int .u64 (.wrap .u64 (.var 95))))] [] []) (.call 0 132 [.sv (.one (.int .u64 (.wrap .u64 (.var 0))))] [] []) (.call 0 204 [.sv (.one (.int .u64 (.var 36)))] [] []) (.call 0 320 [.sv (.one (.int .u64 (.var 57)))] [] []) (.call 0 326 [.sv (.one (.int .u64 (.var 58)))] [] []) (.call 0 332 [.sv (.one (.int .u64 (.var 59)))] [] []) (.call 0 338 [.sv (.one (.int .u64 (.var 60)))] [] []) (.call 0 344 [.sv (.one (.int .u64 (.var 61)))] [] []) (.call 0 350 [.sv (.one (.int .u64 (.var 62)))] [] []) (.call 0 136 [.sv (.one (.int .u64 (.var 1)))] [] [])
def TA:List Sx.Spec:=[xE]
theorem Rj:∀ t∈TA,t.OK Tryz.prog:=fun t ht=>by
 simp only[TA,Zl,Zq,ZO]at ht;subst ht;exact MG
theorem VS:TA[0]?=some xE:=rfl
theorem VT:xE.res=[.one .sl]:=rfl
theorem Ri (n:Nat):(br n [Cp.one .sl]≠[])=True:=by simp [br,Cp.roots,Ck.root]
def xp:bU Tryz.prog TA 108 where
 Λ:=fun p=>if cutAt p [108,1,1,1,1,1,1,0]then some ⟨1,[(4,TI .u8 (.var 200))],[],201⟩else if decide (p.length=15)&&!(p.head?==some 99)then some ⟨0,[(3,.sv (.one (.sl (.var 310) (.lit 0) (.var 311) (.var 312)))),(5,TI .i64 (.var 313))],[(2,.hp 314 [] [.var 310] [])],320⟩else none
 args:=(bf 0 [.agg cX]).map .sv
 mem:=[.ro 130 [.var 53] false]
 nv:=131
 nd:=Be
 ok:=by kernel_rfl
theorem jn {q:Env} {n:Nat} {z:Int} {K:Env->Prop} (hz:0<=z/\z<18446744073709551616) (k:∀ q',ah n q q'->q'.i (n+2)=(ak z.toNat).length-> -1<=q'.i n->0<=q'.i (n+1)->cH (q'.h n) 5 (.slice (aA (q'.i n) (q'.i (n+1))) (((ak z.toNat).length:Int)).toNat (q'.i (n+3)).toNat) (ak z.toNat)->K q') :
 xE.pre [.int .u64 z] [] []/\∀ q',ah n q q'->(∃ F,xE.post [.int .u64 z] [] [] (.slice (aA (q'.i n) (q'.i (n+1))) (q'.i (n+2)).toNat (q'.i (n+3)).toNat) [] F/\(True->q'.h n=F)/\fg n [.one .sl] q')->K q':=by
 refine⟨⟨z,rfl,hz⟩,fun q' g ⟨F,⟨z',hz',hO⟩,hF,hn,_⟩=>?_⟩;simp only[Ze,Value.int.injEq,Zy,Zm]at hz';subst hz';have hn:-1<=q'.i n/\0<=q'.i (n+1)/\0<=q'.i (n+2)/\0<=q'.i (n+3):=hn;rw[<-hF trivial]at hO;have e:(q'.i (n+2)).toNat=(ak z.toNat).length:=by
  obtain⟨x,y,c,e,_⟩:=hO.rd;simp only[Value.slice.injEq]at e;exact e.2.1
 have e2:q'.i (n+2)=(ak z.toNat).length:=by omega
 refine k q' g e2 hn.1 hn.2.1 ?_;rw[<-e2];exact hO
theorem Dh {A B:Hl} {x y c x1 c1:Int} {bs bs2:List Int} (ho:cH A 5 (.slice (aA x y) ((bs.length:Int)).toNat c.toNat) bs) {m:Nat} (hm:m=bs2.length)
 (happ:∀ xs,bE A 5 1 (.slice (aA x y) ((bs.length:Int)).toNat c.toNat) ((bs.length:Int)).toNat xs->bE B 5 1 (.slice (aA x1 0) (((bs.length:Int)).toNat+m) c1.toNat) (((bs.length:Int)).toNat+m) (xs++bK bs2)):cH B 5 (.slice (aA x1 0) (((bs++bs2).length:Int)).toNat c1.toNat) (bs++bs2):=by
 have h1:bE A 5 1 (.slice (aA x y) ((bs.length:Int)).toNat c.toNat) ((bs.length:Int)).toNat (bK bs):=by
  have:=ho;unfold cH at this;rwa[Y7]at this ⊢
 have h2:=happ _ h1;unfold cH;rw[Y7,Y9,fY];rw[Y7,hm]at h2;exact h2
theorem jl {q:Env} {n:Nat} {A S:Hl} {x y c sx sy:Int} {sc:Nat} {B b2:List Int} {D:Env->Prop} {K:Env->Prop} (h:cH A 5 (.slice (aA x y) ((B.length:Int)).toNat c.toNat) B) (hsx:-1<=sx) (hsy:0<=sy) (h2:mo S (.slice (aA sx sy) b2.length sc) b2) (hl:B.length<=900000) (hl2:b2.length<=90000)
 (k:∀ q',ah n q q'-> -1<=q'.i n->0<=q'.i (n+1)->cH (q'.h n) 5 (.slice (aA (q'.i n) 0) (((B++b2).length:Int)).toNat (q'.i (n+1)).toNat) (B++b2)->K q') :
 ((∃ xs,bE A 5 1 (.slice (aA x y) ((B.length:Int)).toNat c.toNat) ((B.length:Int)).toNat xs)/\0<=(B.length:Int)/\((0<=sx/\0<=sy/\0<=(b2.length:Int)/\∀ j:Nat,j<((b2.length:Int)).toNat->∃ v,S.cell sx.toNat (sy.toNat+j)=some v/\v.oneCell'=true)\/(b2.length:Int)=0)/\((B.length:Int)).toNat+((b2.length:Int)).toNat<=maxLen/\((B.length:Int)).toNat+((b2.length:Int)).toNat<=140737488355328) /\
 ∀ q',ah n q q'->(-1<=q'.i n/\0<=q'.i (n+1)/\(∀ xs,bE A 5 1 (.slice (aA x y) ((B.length:Int)).toNat c.toNat) ((B.length:Int)).toNat xs->bE (q'.h n) 5 1 (.slice (aA (q'.i n) 0) (((B.length:Int)).toNat+((b2.length:Int)).toNat) (q'.i (n+1)).toNat) (((B.length:Int)).toNat+((b2.length:Int)).toNat) (xs++cJ S sx.toNat sy.toNat ((b2.length:Int)).toNat))/\D q')->K q':=by
 have hr:b2=[]\/0<=sx/\∀ j z,b2[j]?=some z->S.cell sx.toNat (sy.toNat+j)=some (.int .u8 z):=by
  have h2':mo S (.slice (aA sx sy) ((b2.length:Int)).toNat ((sc:Int)).toNat) b2:=by rw[Y7,Y7];exact h2
  obtain⟨_,hr⟩:=h2'.at hsx hsy (by omega);exact hr.imp (·.2) id
 obtain⟨hok,hseg⟩:=qx (R:=S) (x:=sx) (y:=sy) (l:=(b2.length:Int)) rfl hsy hr;refine⟨⟨⟨bK B,?_⟩,by omega,hok,by rw[Y7,Y7];unfold maxLen;omega,by rw[Y7,Y7];omega⟩,fun q' g ⟨a1,a2,a3,_⟩=>k q' g a1 a2 ?_⟩
 .have:=h;unfold cH at this;rwa[Y7]at this ⊢
 .rw[hseg]at a3;exact Dh h (Y7 _) a3
theorem sq {q:Env} {n m:Nat} {A:Hl} {x y c:Int} {B b2:List Int} {vs:List Value} {D:Env->Prop} {K:Env->Prop} (h:cH A 5 (.slice (aA x y) ((B.length:Int)).toNat c.toNat) B) (hv:vs=bK b2) (hm:m=b2.length) (hl:B.length<=900000) (hl2:b2.length<=90000)
 (k:∀ q',ah n q q'-> -1<=q'.i n->0<=q'.i (n+1)->cH (q'.h n) 5 (.slice (aA (q'.i n) 0) (((B++b2).length:Int)).toNat (q'.i (n+1)).toNat) (B++b2)->K q') :
 ((∃ xs,bE A 5 1 (.slice (aA x y) ((B.length:Int)).toNat c.toNat) ((B.length:Int)).toNat xs)/\0<=(B.length:Int)/\((B.length:Int)).toNat+m<=maxLen/\((B.length:Int)).toNat+m<=140737488355328) /\
 ∀ q',ah n q q'->(-1<=q'.i n/\0<=q'.i (n+1)/\(∀ xs,bE A 5 1 (.slice (aA x y) ((B.length:Int)).toNat c.toNat) ((B.length:Int)).toNat xs->bE (q'.h n) 5 1 (.slice (aA (q'.i n) 0) (((B.length:Int)).toNat+m) (q'.i (n+1)).toNat) (((B.length:Int)).toNat+m) (xs++vs))/\D q')->K q':=by
 refine⟨⟨⟨bK B,?_⟩,by omega,by rw[Y7];unfold maxLen;omega,by rw[Y7];omega⟩,fun q' g ⟨a1,a2,a3,_⟩=>k q' g a1 a2 ?_⟩
 .have:=h;unfold cH at this;rwa[Y7]at this ⊢
 .rw[hv]at a3;exact Dh h hm a3
theorem xg {F:Hl} {p:Option Addr} {n:Nat} {c:Nat} {bs:List Int} (h:cH F 5 (.slice p ((n:Int)).toNat c) bs) (hn:n=bs.length):mo F (.slice p bs.length c) bs:=by
 subst hn;have:=h.rd;rwa[Y7]at this
theorem NJ (q:Env):(al 2 (List.replicate 32 (Ck.int .u8))).map (CV.ev q)=bK (bL (aL q 0) 2 32):=rfl
theorem NI (q:Env):(al 37 (List.replicate 16 (Ck.int .u8))).map (CV.ev q)=bK (bL (aL q 0) 37 16):=rfl
theorem Qt (q:Env):(al 63 (List.replicate 32 (Ck.int .u8))).map (CV.ev q)=bK (bL (aL q 0) 60 32):=rfl
theorem Hc (q:Env):(al 96 (List.replicate 32 (Ck.int .u8))).map (CV.ev q)=bK (bL (aL q 0) 93 32):=rfl
theorem Ju:(coreS 108).OK Tryz.prog:=by
 refine Spec.bJ (Γ:=TA) Rj ?_;rintro xs Hs Rs hl1 hl2 ⟨row,R,h,rfl,rfl,hx,h8⟩;have e0:Hs=[]:=Za.1 hl1;subst e0;obtain⟨ρ,rfl,w130,hnw,n54,n55,n56⟩:=kE (R:=R) hx.ok;refine⟨xp,ρ,fun j q=>if j=1 then q.i 200=(if ρ.b 35=true then 1 else 0)else ∃ i:Nat,q.i 313=i/\i<=h.t.length/\ -1<=q.i 310/\0<=q.i 312/\q.i 311=((bP (aL ρ 0) h.t.length++(h.t.take i).flatten).length:Int)/\cH (q.h 314) 5 (.slice (aA (q.i 310) 0) (((bP (aL ρ 0) h.t.length++(h.t.take i).flatten).length:Int)).toNat (q.i 312).toNat) (bP (aL ρ 0) h.t.length++(h.t.take i).flatten),fun _ q=>(h.t.length-q.i 313).toNat,rfl,⟨?_,?_,?_,?_⟩,(fun _ h=>nomatch h),?_⟩
 .intro r hr ho;simp [xp]at hr;subst hr;cases ho
 .intro r hr ho;simp [xp]at hr;subst hr;exact⟨R,by simp,by show(ρ.h 130).le R;rw[w130];exact Hl.le_refl _⟩
 .simp [xp]
 .intro r hr;simp [xp]at hr;subst hr;trivial
 .show Nd.holds _ _ _ Be;unfold Be;simp only[Nd.holds,X.pre,X.rel,X.n,Src.ok,Src.len,Src.bG,Zy,Zm,ZG,Zx,Zp,Nat.reduceAdd,Zd,Zh,bn,bj,aJ,aU,aR,bm,aZ,bh,bg,bd,aV,ba,bk,aX,aW,aK,aY,ai,aj,aB,aF,aD,ar,aG,aQ,aP,aq,aI,az,aH,av,TV.ev,SV.ev,CV.ev,Zf,Zr,bx.hl,cu,Cp.sv,Ck.cv,bf,Cp.len,Ck.len,aE,aN,aT,VS,VT,Ri];intro q1 g1 p1;have hrg:=hx.rng;have r1:0<=ρ.i 1/\ρ.i 1<18446744073709551616:=hrg (.int .u64 (ρ.i 1)) (Zb (i:=1) rfl);have r36:0<=ρ.i 36/\ρ.i 36<18446744073709551616:=hrg (.int .u64 (ρ.i 36)) (Zb (i:=36) rfl);have r57:0<=ρ.i 57/\ρ.i 57<18446744073709551616:=hrg (.int .u64 (ρ.i 57)) (Zb (i:=54) rfl);have r58:0<=ρ.i 58/\ρ.i 58<18446744073709551616:=hrg (.int .u64 (ρ.i 58)) (Zb (i:=55) rfl);have r59:0<=ρ.i 59/\ρ.i 59<18446744073709551616:=hrg (.int .u64 (ρ.i 59)) (Zb (i:=56) rfl);have r60:0<=ρ.i 60/\ρ.i 60<18446744073709551616:=hrg (.int .u64 (ρ.i 60)) (Zb (i:=57) rfl);have r61:0<=ρ.i 61/\ρ.i 61<18446744073709551616:=hrg (.int .u64 (ρ.i 61)) (Zb (i:=58) rfl);have r62:0<=ρ.i 62/\ρ.i 62<18446744073709551616:=hrg (.int .u64 (ρ.i 62)) (Zb (i:=59) rfl);have hlen:(ρ.i 55).toNat=h.t.length:=Bk hx.tok;have G1:ah 131 ρ q1:=g1.mono;rw[G1.i 0];refine jn (u64_in _) fun q2 g2 N2 X2 Y2 h2=>?_;have G2:ah 131 ρ q2:=G1.tr g2;have N2:q2.i 134=((ak (bX (ρ.i 0))).length:Int):=N2;have h2:cH (q2.h 132) _ (.slice (aA (q2.i 132) (q2.i 133)) (((ak (bX (ρ.i 0))).length:Int)).toNat (q2.i 135).toNat) (ak (bX (ρ.i 0))):=h2;have b2:(ak (bX (ρ.i 0))).length<=10:=iq (jH (ρ.i 0));rw[G2.i 1];refine jn r1 fun q3 g3 N3 X3 Y3 h3=>?_;have G3:ah 131 ρ q3:=G2.tr g3;have N3:q3.i 138=((ak (ρ.i 1).toNat).length:Int):=N3;have h3:cH (q3.h 136) _ (.slice (aA (q3.i 136) (q3.i 137)) (((ak (ρ.i 1).toNat).length:Int)).toNat (q3.i 139).toNat) (ak (ρ.i 1).toNat):=h3;have b3:(ak (ρ.i 1).toNat).length<=10:=iq (z:=(ρ.i 1).toNat) (by omega);rw[<-g3.h 132,<-g3.i 132,<-g3.i 135,<-g3.i 133]at h2;rw[<-g3.i 134]at N2;rw[N2,N3];refine jl h2 X3 Y3 (xg h3 rfl) (by omega) (by omega) fun q4 g4 A4 C4 h4=>?_;have G4:ah 131 ρ q4:=G3.tr g4;have h4:cH (q4.h 140) _ (.slice (aA (q4.i 140) 0) (((ak (bX (ρ.i 0))++ak (ρ.i 1).toNat).length:Int)).toNat (q4.i 141).toNat) (ak (bX (ρ.i 0))++ak (ρ.i 1).toNat):=h4;have b4x:(ak (bX (ρ.i 0))++ak (ρ.i 1).toNat).length<=20:=by rw[Y9];exact ZR b2 b3
  have L4:q4.i 134+q4.i 138=((ak (bX (ρ.i 0))++ak (ρ.i 1).toNat).length:Int):=by rw[g4.i 134,g4.i 138,N2,N3,Y9 (bs:=ak (ρ.i 1).toNat)];first | (rw[bC];omega) | (show _=((_+1:Nat):Int);omega) | omega
  rw[L4];refine sq (b2:=bL (aL ρ 0) 2 32) h4 (by rw[<-cZ G4.mono];exact NJ q4) (bC _ _ _).symm (by omega) (by rw[bC];omega) fun q5 g5 A5 C5 h5=>?_;have G5:ah 131 ρ q5:=G4.tr g5;have h5:cH (q5.h 142) _ (.slice (aA (q5.i 142) 0) (((ak (bX (ρ.i 0))++ak (ρ.i 1).toNat++bL (aL ρ 0) 2 32).length:Int)).toNat (q5.i 143).toNat) (ak (bX (ρ.i 0))++ak (ρ.i 1).toNat++bL (aL ρ 0) 2 32):=h5;have b5x:(ak (bX (ρ.i 0))++ak (ρ.i 1).toNat++bL (aL ρ 0) 2 32).length<=52:=by rw[Y9];exact ZR b4x (abC (bC _ _ _))
  have L5:q5.i 134+q5.i 138+32=((ak (bX (ρ.i 0))++ak (ρ.i 1).toNat++bL (aL ρ 0) 2 32).length:Int):=by rw[g5.i 134,g5.i 138,L4,Y9 (bs:=bL (aL ρ 0) 2 32)];first | (rw[bC];omega) | (show _=((_+1:Nat):Int);omega) | omega
  rw[G5.i 34];refine jn (u64_in _) fun q6 g6 N6 X6 Y6 h6=>?_;have G6:ah 131 ρ q6:=G5.tr g6;have N6:q6.i 146=((ak (bX (ρ.i 34))).length:Int):=N6;have h6:cH (q6.h 144) _ (.slice (aA (q6.i 144) (q6.i 145)) (((ak (bX (ρ.i 34))).length:Int)).toNat (q6.i 147).toNat) (ak (bX (ρ.i 34))):=h6;have b6:(ak (bX (ρ.i 34))).length<=10:=iq (jH (ρ.i 34));rw[<-g6.h 142,<-g6.i 142,<-g6.i 143]at h5;rw[<-g6.i 134,<-g6.i 138]at L5;rw[L5,N6];refine jl h5 X6 Y6 (xg h6 rfl) (by omega) (by omega) fun q7 g7 A7 C7 h7=>?_;have G7:ah 131 ρ q7:=G6.tr g7;have h7:cH (q7.h 148) _ (.slice (aA (q7.i 148) 0) (((ak (bX (ρ.i 0))++ak (ρ.i 1).toNat++bL (aL ρ 0) 2 32++ak (bX (ρ.i 34))).length:Int)).toNat (q7.i 149).toNat) (ak (bX (ρ.i 0))++ak (ρ.i 1).toNat++bL (aL ρ 0) 2 32++ak (bX (ρ.i 34))):=h7;have b7x:(ak (bX (ρ.i 0))++ak (ρ.i 1).toNat++bL (aL ρ 0) 2 32++ak (bX (ρ.i 34))).length<=62:=by rw[Y9];exact ZR b5x b6
  have L7:q7.i 134+q7.i 138+32+q7.i 146=((ak (bX (ρ.i 0))++ak (ρ.i 1).toNat++bL (aL ρ 0) 2 32++ak (bX (ρ.i 34))).length:Int):=by rw[g7.i 134,g7.i 138,g7.i 146,L5,N6,Y9 (bs:=ak (bX (ρ.i 34)))];first | (rw[bC];omega) | (show _=((_+1:Nat):Int);omega) | omega
  rw[G7.b 35];refine⟨⟨fun hc=>?_,fun hc=>?_⟩,fun q8 g8 hcut=>?_⟩
  .show(1:Int)=_;rw[ZA hc]
  .show(0:Int)=_;rw[Zo hc]
  have G8:ah 131 ρ q8:=G7.tr g8;rw[<-g8.h 148,<-g8.i 148,<-g8.i 149]at h7;rw[<-g8.i 134,<-g8.i 138,<-g8.i 146]at L7;intro q9 g9 _;rw[<-g9.i 200]at hcut;have G9:ah 131 ρ q9:=G8.tr g9;rw[<-g9.h 148,<-g9.i 148,<-g9.i 149]at h7;rw[<-g9.i 134,<-g9.i 138,<-g9.i 146]at L7;rw[L7];refine sq (b2:=fh (ρ.b 35)) h7 (by show [Value.int .u8 (q9.i 200)]=_;rw[hcut];rfl) rfl (by omega) (by show 1<=90000;omega) fun q10 g10 A10 C10 h10=>?_;have G10:ah 131 ρ q10:=G9.tr g10;have h10:cH (q10.h 202) _ (.slice (aA (q10.i 202) 0) (((ak (bX (ρ.i 0))++ak (ρ.i 1).toNat++bL (aL ρ 0) 2 32++ak (bX (ρ.i 34))++fh (ρ.b 35)).length:Int)).toNat (q10.i 203).toNat) (ak (bX (ρ.i 0))++ak (ρ.i 1).toNat++bL (aL ρ 0) 2 32++ak (bX (ρ.i 34))++fh (ρ.b 35)):=h10;have b10x:(ak (bX (ρ.i 0))++ak (ρ.i 1).toNat++bL (aL ρ 0) 2 32++ak (bX (ρ.i 34))++fh (ρ.b 35)).length<=63:=by rw[Y9];exact ZR b7x (ZB 1)
  have L10:q10.i 134+q10.i 138+32+q10.i 146+1=((ak (bX (ρ.i 0))++ak (ρ.i 1).toNat++bL (aL ρ 0) 2 32++ak (bX (ρ.i 34))++fh (ρ.b 35)).length:Int):=by rw[g10.i 134,g10.i 138,g10.i 146,L7,Y9 (bs:=fh (ρ.b 35))];first | (rw[bC];omega) | (show _=((_+1:Nat):Int);omega) | omega
  rw[G10.i 36];refine jn r36 fun q11 g11 N11 X11 Y11 h11=>?_;have G11:ah 131 ρ q11:=G10.tr g11;have N11:q11.i 206=((ak (ρ.i 36).toNat).length:Int):=N11;have h11:cH (q11.h 204) _ (.slice (aA (q11.i 204) (q11.i 205)) (((ak (ρ.i 36).toNat).length:Int)).toNat (q11.i 207).toNat) (ak (ρ.i 36).toNat):=h11;have b11:(ak (ρ.i 36).toNat).length<=10:=iq (z:=(ρ.i 36).toNat) (by omega);rw[<-g11.h 202,<-g11.i 202,<-g11.i 203]at h10;rw[<-g11.i 134,<-g11.i 138,<-g11.i 146]at L10;rw[L10,N11];refine jl h10 X11 Y11 (xg h11 rfl) (by omega) (by omega) fun q12 g12 A12 C12 h12=>?_;have G12:ah 131 ρ q12:=G11.tr g12;have h12:cH (q12.h 208) _ (.slice (aA (q12.i 208) 0) (((ak (bX (ρ.i 0))++ak (ρ.i 1).toNat++bL (aL ρ 0) 2 32++ak (bX (ρ.i 34))++fh (ρ.b 35)++ak (ρ.i 36).toNat).length:Int)).toNat (q12.i 209).toNat) (ak (bX (ρ.i 0))++ak (ρ.i 1).toNat++bL (aL ρ 0) 2 32++ak (bX (ρ.i 34))++fh (ρ.b 35)++ak (ρ.i 36).toNat):=h12;have b12x:(ak (bX (ρ.i 0))++ak (ρ.i 1).toNat++bL (aL ρ 0) 2 32++ak (bX (ρ.i 34))++fh (ρ.b 35)++ak (ρ.i 36).toNat).length<=73:=by rw[Y9];exact ZR b10x b11
  have L12:q12.i 134+q12.i 138+32+q12.i 146+1+q12.i 206=((ak (bX (ρ.i 0))++ak (ρ.i 1).toNat++bL (aL ρ 0) 2 32++ak (bX (ρ.i 34))++fh (ρ.b 35)++ak (ρ.i 36).toNat).length:Int):=by rw[g12.i 134,g12.i 138,g12.i 146,g12.i 206,L10,N11,Y9 (bs:=ak (ρ.i 36).toNat)];first | (rw[bC];omega) | (show _=((_+1:Nat):Int);omega) | omega
  rw[L12];refine sq (b2:=bL (aL ρ 0) 37 16) h12 (by rw[<-cZ G12.mono];exact NI q12) (bC _ _ _).symm (by omega) (by rw[bC];omega) fun q13 g13 A13 C13 h13=>?_;have G13:ah 131 ρ q13:=G12.tr g13;have h13:cH (q13.h 210) _ (.slice (aA (q13.i 210) 0) (((ak (bX (ρ.i 0))++ak (ρ.i 1).toNat++bL (aL ρ 0) 2 32++ak (bX (ρ.i 34))++fh (ρ.b 35)++ak (ρ.i 36).toNat++bL (aL ρ 0) 37 16).length:Int)).toNat (q13.i 211).toNat) (ak (bX (ρ.i 0))++ak (ρ.i 1).toNat++bL (aL ρ 0) 2 32++ak (bX (ρ.i 34))++fh (ρ.b 35)++ak (ρ.i 36).toNat++bL (aL ρ 0) 37 16):=h13;have b13x:(ak (bX (ρ.i 0))++ak (ρ.i 1).toNat++bL (aL ρ 0) 2 32++ak (bX (ρ.i 34))++fh (ρ.b 35)++ak (ρ.i 36).toNat++bL (aL ρ 0) 37 16).length<=89:=by rw[Y9];exact ZR b12x (abC (bC _ _ _))
  have L13:q13.i 134+q13.i 138+32+q13.i 146+1+q13.i 206+16=((ak (bX (ρ.i 0))++ak (ρ.i 1).toNat++bL (aL ρ 0) 2 32++ak (bX (ρ.i 34))++fh (ρ.b 35)++ak (ρ.i 36).toNat++bL (aL ρ 0) 37 16).length:Int):=by rw[g13.i 134,g13.i 138,g13.i 146,g13.i 206,L12,Y9 (bs:=bL (aL ρ 0) 37 16)];first | (rw[bC];omega) | (show _=((_+1:Nat):Int);omega) | omega
  rw[G13.i 55];refine⟨n55,?_⟩;have ew:IntKind.u64.wrap (ρ.i 55)=h.t.length:=by rw[nD (by omega) (by omega)];omega
  rw[ew];refine jn (by omega) fun q14 g14 N14 X14 Y14 h14=>?_;rw[Y7]at N14 h14;have G14:ah 131 ρ q14:=G13.tr g14;have N14:q14.i 214=((ak h.t.length).length:Int):=N14;have h14:cH (q14.h 212) _ (.slice (aA (q14.i 212) (q14.i 213)) (((ak h.t.length).length:Int)).toNat (q14.i 215).toNat) (ak h.t.length):=h14;have b14:(ak h.t.length).length<=10:=iq (z:=h.t.length) (by omega);rw[<-g14.h 210,<-g14.i 210,<-g14.i 211]at h13;rw[<-g14.i 134,<-g14.i 138,<-g14.i 146,<-g14.i 206]at L13;rw[L13,N14];refine jl h13 X14 Y14 (xg h14 rfl) (by omega) (by omega) fun q15 g15 A15 C15 h15=>?_;have G15:ah 131 ρ q15:=G14.tr g15;have h15:cH (q15.h 216) _ (.slice (aA (q15.i 216) 0) (((ak (bX (ρ.i 0))++ak (ρ.i 1).toNat++bL (aL ρ 0) 2 32++ak (bX (ρ.i 34))++fh (ρ.b 35)++ak (ρ.i 36).toNat++bL (aL ρ 0) 37 16++ak h.t.length).length:Int)).toNat (q15.i 217).toNat) (ak (bX (ρ.i 0))++ak (ρ.i 1).toNat++bL (aL ρ 0) 2 32++ak (bX (ρ.i 34))++fh (ρ.b 35)++ak (ρ.i 36).toNat++bL (aL ρ 0) 37 16++ak h.t.length):=h15;have b15x:(ak (bX (ρ.i 0))++ak (ρ.i 1).toNat++bL (aL ρ 0) 2 32++ak (bX (ρ.i 34))++fh (ρ.b 35)++ak (ρ.i 36).toNat++bL (aL ρ 0) 37 16++ak h.t.length).length<=99:=by rw[Y9];exact ZR b13x b14
  have L15:q15.i 134+q15.i 138+32+q15.i 146+1+q15.i 206+16+q15.i 214=((ak (bX (ρ.i 0))++ak (ρ.i 1).toNat++bL (aL ρ 0) 2 32++ak (bX (ρ.i 34))++fh (ρ.b 35)++ak (ρ.i 36).toNat++bL (aL ρ 0) 37 16++ak h.t.length).length:Int):=by rw[g15.i 134,g15.i 138,g15.i 146,g15.i 206,g15.i 214,L13,N14,Y9 (bs:=ak h.t.length)];first | (rw[bC];omega) | (show _=((_+1:Nat):Int);omega) | omega
  have hA:cH (q15.h 216) _ (.slice (aA (q15.i 216) 0) (((bP (aL ρ 0) h.t.length).length:Int)).toNat (q15.i 217).toNat) (bP (aL ρ 0) h.t.length):=h15;have lA:(bP (aL ρ 0) h.t.length).length<=99:=b15x;have LA:q15.i 134+q15.i 138+32+q15.i 146+1+q15.i 206+16+q15.i 214=((bP (aL ρ 0) h.t.length).length:Int):=L15;have ht16:∀ t∈h.t,t.length=16:=fun t ht=>(hx.byte.2 t ht).1;have lF:∀ i,i<=h.t.length->((h.t.take i).flatten).length<=128:=fun i hi=>by
   rw[AB (fun t ht=>ht16 t (aaN ht)),ZE];omega
  refine⟨⟨0,rfl,aam _,A15,C15,?_,?_⟩,fun q g hinv=>?_⟩
  .show q15.i 134+q15.i 138+32+q15.i 146+1+q15.i 206+16+q15.i 214=_;rw[aa0,aaR,aau];exact LA
  .show cH (q15.h 216) _ (.slice (aA (q15.i 216) 0) _ (q15.i 217).toNat) _;rw[aa0,aaR,aau];exact hA
  have G:ah 131 ρ q:=G15.tr g;clear h2 h3 h4 h5 h6 h7 h10 h11 h12 h13 h14 h15 hA LA;obtain⟨i,ei,hi,A0,C0,e311,hO⟩:=hinv;rw[G.i 55,ei];refine⟨fun hlt=>?_,fun hge=>?_⟩
  .have hiT:i<h.t.length:=by omega
   obtain⟨x,y,c,eS,hy,hrows⟩:=id hx.tok;have eS:Value.slice (aA (ρ.i 53) (ρ.i 54)) (ρ.i 55).toNat (ρ.i 56).toNat=.slice (aA x y) (h.t.map bK).length c:=eS;rcases hrows with hn | ⟨hx0,hc⟩
   .rw[aaz]at hn;rw[hn]at hiT;cases hiT
   simp only[Value.slice.injEq]at eS;obtain⟨hx53,hy54⟩:=oA hx0 hy n54 eS.1;have ht:=Y8 hiT;have m1:=hx.byte.2 _ (Zb ht);have hcell:=(hc i (bK h.t[i]) (by rw[Zs,ht];rfl)).2;have hlen16:oG.length=16:=rfl;rw[hlen16]at hcell;have rdT:mo R (.slice (aA x (y+(i:Int)*16)) h.t[i].length 16) h.t[i]:=⟨x,y+(i:Int)*16,16,rfl,by omega,Or.inr ⟨hx0,fun j z hz=>by
    rw[show(y+(i:Int)*16).toNat+j=y.toNat+i*16+j by omega];exact hcell j _ (by unfold bK;rw[Zs,hz];rfl)⟩⟩
   have h16:(16:Int)=(h.t[i].length:Int):=by rw[m1.1];rfl
   have:=lF i hi;rw[G.i 53,G.i 54,G.h 130,w130,hx53,hy54,e311];refine⟨hx0,hy,by omega,?_⟩;have key:=fun K k=>jl (q:=q) (n:=320) (D:=fun q'=>(∀ b:Nat,(q.h 314).mem b->some b≠(Value.slice (aA (q.i 310) 0) (((bP (aL ρ 0) h.t.length++(List.take i h.t).flatten).length:Int)).toNat (q.i 312).toNat).ownBlock->q'.h 320 b=q.h 314 b)/\(∀ b:Nat,(q'.h 320).mem b->(q.h 314).mem b\/b=(q'.i 320).toNat/\0<=q'.i 320)/\(some (q'.i 320).toNat=(Value.slice (aA (q.i 310) 0) (((bP (aL ρ 0) h.t.length++(List.take i h.t).flatten).length:Int)).toNat (q.i 312).toNat).ownBlock\/¬(q.h 314).mem (q'.i 320).toNat\/q'.i 320= -1)) (K:=K) hO (by omega) (by omega) rdT (by rw[Y9];omega) (by omega) k;rw[m1.1]at key;refine key _ fun q1 g1 A1 C1 h1=>?_;have ew:IntKind.i64.wrap (q1.i 313+1)=((i+1:Nat):Int):=by rw[g1.i 313,ei,IntWalk.i64_in _ (by omega)];omega
   have eB:bP (aL ρ 0) h.t.length++(h.t.take i).flatten++h.t[i]=bP (aL ρ 0) h.t.length++(h.t.take (i+1)).flatten:=by rw[aaC,ht,aaE,abi,aar,aaR,aau,ZK]
   have lB:((bP (aL ρ 0) h.t.length++(h.t.take i).flatten).length:Int)+16=((bP (aL ρ 0) h.t.length++(h.t.take (i+1)).flatten).length:Int):=by rw[<-eB,Y9 (bs:=h.t[i])];omega
   rw[eB]at h1;refine⟨⟨i+1,ew,by omega,A1,C1,?_,h1⟩,?_⟩
   .show q1.i 311+16=_;rw[g1.i 311,e311,lB]
   .show((h.t.length:Int)-IntKind.i64.wrap (q1.i 313+1)).toNat<_;rw[ew];omega
  have hi':i=h.t.length:=by omega
  rw[hi',aad]at hO e311;have lF:=lF h.t.length (ZB _);rw[aad]at lF;have b20:(bP (aL ρ 0) h.t.length++h.t.flatten).length<=227:=by rw[Y9];exact ZR lA lF
  have G20:=G;clear G lA lF;obtain⟨q20,e20⟩:∃ q20,q20=q:=⟨_,rfl⟩;rw[<-e20]at hO e311 G20 ⊢;have hge':True:=trivial;rw[G20.i 57];refine jn r57 fun q21 g21 N21 X21 Y21 h21=>?_;have G21:ah 131 ρ q21:=G20.tr g21;have N21:q21.i 322=((ak (ρ.i 57).toNat).length:Int):=N21;have h21:cH (q21.h 320) _ (.slice (aA (q21.i 320) (q21.i 321)) (((ak (ρ.i 57).toNat).length:Int)).toNat (q21.i 323).toNat) (ak (ρ.i 57).toNat):=h21;have b21:(ak (ρ.i 57).toNat).length<=10:=iq (z:=(ρ.i 57).toNat) (by omega);rw[<-g21.h 314,<-g21.i 310,<-g21.i 312]at hO;rw[<-g21.i 311]at e311;rw[e311,N21];refine jl hO X21 Y21 (xg h21 rfl) (by omega) (by omega) fun q22 g22 A22 C22 h22=>?_;have G22:ah 131 ρ q22:=G21.tr g22;have h22:cH (q22.h 324) _ (.slice (aA (q22.i 324) 0) (((bP (aL ρ 0) h.t.length++h.t.flatten++ak (ρ.i 57).toNat).length:Int)).toNat (q22.i 325).toNat) (bP (aL ρ 0) h.t.length++h.t.flatten++ak (ρ.i 57).toNat):=h22;have b22x:(bP (aL ρ 0) h.t.length++h.t.flatten++ak (ρ.i 57).toNat).length<=237:=by rw[Y9];exact ZR b20 b21
  have L22:q22.i 311+q22.i 322=((bP (aL ρ 0) h.t.length++h.t.flatten++ak (ρ.i 57).toNat).length:Int):=by rw[g22.i 311,g22.i 322,e311,N21,Y9 (bs:=ak (ρ.i 57).toNat)];first | (rw[bC];omega) | (show _=((_+1:Nat):Int);omega) | omega
  rw[G22.i 58];refine jn r58 fun q23 g23 N23 X23 Y23 h23=>?_;have G23:ah 131 ρ q23:=G22.tr g23;have N23:q23.i 328=((ak (ρ.i 58).toNat).length:Int):=N23;have h23:cH (q23.h 326) _ (.slice (aA (q23.i 326) (q23.i 327)) (((ak (ρ.i 58).toNat).length:Int)).toNat (q23.i 329).toNat) (ak (ρ.i 58).toNat):=h23;have b23:(ak (ρ.i 58).toNat).length<=10:=iq (z:=(ρ.i 58).toNat) (by omega);rw[<-g23.h 324,<-g23.i 324,<-g23.i 325]at h22;rw[<-g23.i 311,<-g23.i 322]at L22;rw[L22,N23];refine jl h22 X23 Y23 (xg h23 rfl) (by omega) (by omega) fun q24 g24 A24 C24 h24=>?_;have G24:ah 131 ρ q24:=G23.tr g24;have h24:cH (q24.h 330) _ (.slice (aA (q24.i 330) 0) (((bP (aL ρ 0) h.t.length++h.t.flatten++ak (ρ.i 57).toNat++ak (ρ.i 58).toNat).length:Int)).toNat (q24.i 331).toNat) (bP (aL ρ 0) h.t.length++h.t.flatten++ak (ρ.i 57).toNat++ak (ρ.i 58).toNat):=h24;have b24x:(bP (aL ρ 0) h.t.length++h.t.flatten++ak (ρ.i 57).toNat++ak (ρ.i 58).toNat).length<=247:=by rw[Y9];exact ZR b22x b23
  have L24:q24.i 311+q24.i 322+q24.i 328=((bP (aL ρ 0) h.t.length++h.t.flatten++ak (ρ.i 57).toNat++ak (ρ.i 58).toNat).length:Int):=by rw[g24.i 311,g24.i 322,g24.i 328,L22,N23,Y9 (bs:=ak (ρ.i 58).toNat)];first | (rw[bC];omega) | (show _=((_+1:Nat):Int);omega) | omega
  rw[G24.i 59];refine jn r59 fun q25 g25 N25 X25 Y25 h25=>?_;have G25:ah 131 ρ q25:=G24.tr g25;have N25:q25.i 334=((ak (ρ.i 59).toNat).length:Int):=N25;have h25:cH (q25.h 332) _ (.slice (aA (q25.i 332) (q25.i 333)) (((ak (ρ.i 59).toNat).length:Int)).toNat (q25.i 335).toNat) (ak (ρ.i 59).toNat):=h25;have b25:(ak (ρ.i 59).toNat).length<=10:=iq (z:=(ρ.i 59).toNat) (by omega);rw[<-g25.h 330,<-g25.i 330,<-g25.i 331]at h24;rw[<-g25.i 311,<-g25.i 322,<-g25.i 328]at L24;rw[L24,N25];refine jl h24 X25 Y25 (xg h25 rfl) (by omega) (by omega) fun q26 g26 A26 C26 h26=>?_;have G26:ah 131 ρ q26:=G25.tr g26;have h26:cH (q26.h 336) _ (.slice (aA (q26.i 336) 0) (((bP (aL ρ 0) h.t.length++h.t.flatten++ak (ρ.i 57).toNat++ak (ρ.i 58).toNat++ak (ρ.i 59).toNat).length:Int)).toNat (q26.i 337).toNat) (bP (aL ρ 0) h.t.length++h.t.flatten++ak (ρ.i 57).toNat++ak (ρ.i 58).toNat++ak (ρ.i 59).toNat):=h26;have b26x:(bP (aL ρ 0) h.t.length++h.t.flatten++ak (ρ.i 57).toNat++ak (ρ.i 58).toNat++ak (ρ.i 59).toNat).length<=257:=by rw[Y9];exact ZR b24x b25
  have L26:q26.i 311+q26.i 322+q26.i 328+q26.i 334=((bP (aL ρ 0) h.t.length++h.t.flatten++ak (ρ.i 57).toNat++ak (ρ.i 58).toNat++ak (ρ.i 59).toNat).length:Int):=by rw[g26.i 311,g26.i 322,g26.i 328,g26.i 334,L24,N25,Y9 (bs:=ak (ρ.i 59).toNat)];first | (rw[bC];omega) | (show _=((_+1:Nat):Int);omega) | omega
  rw[G26.i 60];refine jn r60 fun q27 g27 N27 X27 Y27 h27=>?_;have G27:ah 131 ρ q27:=G26.tr g27;have N27:q27.i 340=((ak (ρ.i 60).toNat).length:Int):=N27;have h27:cH (q27.h 338) _ (.slice (aA (q27.i 338) (q27.i 339)) (((ak (ρ.i 60).toNat).length:Int)).toNat (q27.i 341).toNat) (ak (ρ.i 60).toNat):=h27;have b27:(ak (ρ.i 60).toNat).length<=10:=iq (z:=(ρ.i 60).toNat) (by omega);rw[<-g27.h 336,<-g27.i 336,<-g27.i 337]at h26;rw[<-g27.i 311,<-g27.i 322,<-g27.i 328,<-g27.i 334]at L26;rw[L26,N27];refine jl h26 X27 Y27 (xg h27 rfl) (by omega) (by omega) fun q28 g28 A28 C28 h28=>?_;have G28:ah 131 ρ q28:=G27.tr g28;have h28:cH (q28.h 342) _ (.slice (aA (q28.i 342) 0) (((bP (aL ρ 0) h.t.length++h.t.flatten++ak (ρ.i 57).toNat++ak (ρ.i 58).toNat++ak (ρ.i 59).toNat++ak (ρ.i 60).toNat).length:Int)).toNat (q28.i 343).toNat) (bP (aL ρ 0) h.t.length++h.t.flatten++ak (ρ.i 57).toNat++ak (ρ.i 58).toNat++ak (ρ.i 59).toNat++ak (ρ.i 60).toNat):=h28;have b28x:(bP (aL ρ 0) h.t.length++h.t.flatten++ak (ρ.i 57).toNat++ak (ρ.i 58).toNat++ak (ρ.i 59).toNat++ak (ρ.i 60).toNat).length<=267:=by rw[Y9];exact ZR b26x b27
  have L28:q28.i 311+q28.i 322+q28.i 328+q28.i 334+q28.i 340=((bP (aL ρ 0) h.t.length++h.t.flatten++ak (ρ.i 57).toNat++ak (ρ.i 58).toNat++ak (ρ.i 59).toNat++ak (ρ.i 60).toNat).length:Int):=by rw[g28.i 311,g28.i 322,g28.i 328,g28.i 334,g28.i 340,L26,N27,Y9 (bs:=ak (ρ.i 60).toNat)];first | (rw[bC];omega) | (show _=((_+1:Nat):Int);omega) | omega
  rw[G28.i 61];refine jn r61 fun q29 g29 N29 X29 Y29 h29=>?_;have G29:ah 131 ρ q29:=G28.tr g29;have N29:q29.i 346=((ak (ρ.i 61).toNat).length:Int):=N29;have h29:cH (q29.h 344) _ (.slice (aA (q29.i 344) (q29.i 345)) (((ak (ρ.i 61).toNat).length:Int)).toNat (q29.i 347).toNat) (ak (ρ.i 61).toNat):=h29;have b29:(ak (ρ.i 61).toNat).length<=10:=iq (z:=(ρ.i 61).toNat) (by omega);rw[<-g29.h 342,<-g29.i 342,<-g29.i 343]at h28;rw[<-g29.i 311,<-g29.i 322,<-g29.i 328,<-g29.i 334,<-g29.i 340]at L28;rw[L28,N29];refine jl h28 X29 Y29 (xg h29 rfl) (by omega) (by omega) fun q30 g30 A30 C30 h30=>?_;have G30:ah 131 ρ q30:=G29.tr g30;have h30:cH (q30.h 348) _ (.slice (aA (q30.i 348) 0) (((bP (aL ρ 0) h.t.length++h.t.flatten++ak (ρ.i 57).toNat++ak (ρ.i 58).toNat++ak (ρ.i 59).toNat++ak (ρ.i 60).toNat++ak (ρ.i 61).toNat).length:Int)).toNat (q30.i 349).toNat) (bP (aL ρ 0) h.t.length++h.t.flatten++ak (ρ.i 57).toNat++ak (ρ.i 58).toNat++ak (ρ.i 59).toNat++ak (ρ.i 60).toNat++ak (ρ.i 61).toNat):=h30;have b30x:(bP (aL ρ 0) h.t.length++h.t.flatten++ak (ρ.i 57).toNat++ak (ρ.i 58).toNat++ak (ρ.i 59).toNat++ak (ρ.i 60).toNat++ak (ρ.i 61).toNat).length<=277:=by rw[Y9];exact ZR b28x b29
  have L30:q30.i 311+q30.i 322+q30.i 328+q30.i 334+q30.i 340+q30.i 346=((bP (aL ρ 0) h.t.length++h.t.flatten++ak (ρ.i 57).toNat++ak (ρ.i 58).toNat++ak (ρ.i 59).toNat++ak (ρ.i 60).toNat++ak (ρ.i 61).toNat).length:Int):=by rw[g30.i 311,g30.i 322,g30.i 328,g30.i 334,g30.i 340,g30.i 346,L28,N29,Y9 (bs:=ak (ρ.i 61).toNat)];first | (rw[bC];omega) | (show _=((_+1:Nat):Int);omega) | omega
  rw[G30.i 62];refine jn r62 fun q31 g31 N31 X31 Y31 h31=>?_;have G31:ah 131 ρ q31:=G30.tr g31;have N31:q31.i 352=((ak (ρ.i 62).toNat).length:Int):=N31;have h31:cH (q31.h 350) _ (.slice (aA (q31.i 350) (q31.i 351)) (((ak (ρ.i 62).toNat).length:Int)).toNat (q31.i 353).toNat) (ak (ρ.i 62).toNat):=h31;have b31:(ak (ρ.i 62).toNat).length<=10:=iq (z:=(ρ.i 62).toNat) (by omega);rw[<-g31.h 348,<-g31.i 348,<-g31.i 349]at h30;rw[<-g31.i 311,<-g31.i 322,<-g31.i 328,<-g31.i 334,<-g31.i 340,<-g31.i 346]at L30;rw[L30,N31];refine jl h30 X31 Y31 (xg h31 rfl) (by omega) (by omega) fun q32 g32 A32 C32 h32=>?_;have G32:ah 131 ρ q32:=G31.tr g32;have h32:cH (q32.h 354) _ (.slice (aA (q32.i 354) 0) (((bP (aL ρ 0) h.t.length++h.t.flatten++ak (ρ.i 57).toNat++ak (ρ.i 58).toNat++ak (ρ.i 59).toNat++ak (ρ.i 60).toNat++ak (ρ.i 61).toNat++ak (ρ.i 62).toNat).length:Int)).toNat (q32.i 355).toNat) (bP (aL ρ 0) h.t.length++h.t.flatten++ak (ρ.i 57).toNat++ak (ρ.i 58).toNat++ak (ρ.i 59).toNat++ak (ρ.i 60).toNat++ak (ρ.i 61).toNat++ak (ρ.i 62).toNat):=h32;have b32x:(bP (aL ρ 0) h.t.length++h.t.flatten++ak (ρ.i 57).toNat++ak (ρ.i 58).toNat++ak (ρ.i 59).toNat++ak (ρ.i 60).toNat++ak (ρ.i 61).toNat++ak (ρ.i 62).toNat).length<=287:=by rw[Y9];exact ZR b30x b31
  have L32:q32.i 311+q32.i 322+q32.i 328+q32.i 334+q32.i 340+q32.i 346+q32.i 352=((bP (aL ρ 0) h.t.length++h.t.flatten++ak (ρ.i 57).toNat++ak (ρ.i 58).toNat++ak (ρ.i 59).toNat++ak (ρ.i 60).toNat++ak (ρ.i 61).toNat++ak (ρ.i 62).toNat).length:Int):=by rw[g32.i 311,g32.i 322,g32.i 328,g32.i 334,g32.i 340,g32.i 346,g32.i 352,L30,N31,Y9 (bs:=ak (ρ.i 62).toNat)];first | (rw[bC];omega) | (show _=((_+1:Nat):Int);omega) | omega
  rw[L32];refine sq (b2:=bL (aL ρ 0) 60 32) h32 (by rw[<-cZ G32.mono];exact Qt q32) (bC _ _ _).symm (by omega) (by rw[bC];omega) fun q33 g33 A33 C33 h33=>?_;have G33:ah 131 ρ q33:=G32.tr g33;have h33:cH (q33.h 356) _ (.slice (aA (q33.i 356) 0) (((bP (aL ρ 0) h.t.length++h.t.flatten++ak (ρ.i 57).toNat++ak (ρ.i 58).toNat++ak (ρ.i 59).toNat++ak (ρ.i 60).toNat++ak (ρ.i 61).toNat++ak (ρ.i 62).toNat++bL (aL ρ 0) 60 32).length:Int)).toNat (q33.i 357).toNat) (bP (aL ρ 0) h.t.length++h.t.flatten++ak (ρ.i 57).toNat++ak (ρ.i 58).toNat++ak (ρ.i 59).toNat++ak (ρ.i 60).toNat++ak (ρ.i 61).toNat++ak (ρ.i 62).toNat++bL (aL ρ 0) 60 32):=h33;have b33x:(bP (aL ρ 0) h.t.length++h.t.flatten++ak (ρ.i 57).toNat++ak (ρ.i 58).toNat++ak (ρ.i 59).toNat++ak (ρ.i 60).toNat++ak (ρ.i 61).toNat++ak (ρ.i 62).toNat++bL (aL ρ 0) 60 32).length<=319:=by rw[Y9];exact ZR b32x (abC (bC _ _ _))
  have L33:q33.i 311+q33.i 322+q33.i 328+q33.i 334+q33.i 340+q33.i 346+q33.i 352+32=((bP (aL ρ 0) h.t.length++h.t.flatten++ak (ρ.i 57).toNat++ak (ρ.i 58).toNat++ak (ρ.i 59).toNat++ak (ρ.i 60).toNat++ak (ρ.i 61).toNat++ak (ρ.i 62).toNat++bL (aL ρ 0) 60 32).length:Int):=by rw[g33.i 311,g33.i 322,g33.i 328,g33.i 334,g33.i 340,g33.i 346,g33.i 352,L32,Y9 (bs:=bL (aL ρ 0) 60 32)];first | (rw[bC];omega) | (show _=((_+1:Nat):Int);omega) | omega
  rw[G33.i 95];refine jn (u64_in _) fun q34 g34 N34 X34 Y34 h34=>?_;have G34:ah 131 ρ q34:=G33.tr g34;have N34:q34.i 360=((ak (bX (ρ.i 95))).length:Int):=N34;have h34:cH (q34.h 358) _ (.slice (aA (q34.i 358) (q34.i 359)) (((ak (bX (ρ.i 95))).length:Int)).toNat (q34.i 361).toNat) (ak (bX (ρ.i 95))):=h34;have b34:(ak (bX (ρ.i 95))).length<=10:=iq (jH (ρ.i 95));rw[<-g34.h 356,<-g34.i 356,<-g34.i 357]at h33;rw[<-g34.i 311,<-g34.i 322,<-g34.i 328,<-g34.i 334,<-g34.i 340,<-g34.i 346,<-g34.i 352]at L33;rw[L33,N34];refine jl h33 X34 Y34 (xg h34 rfl) (by omega) (by omega) fun q35 g35 A35 C35 h35=>?_;have G35:ah 131 ρ q35:=G34.tr g35;have h35:cH (q35.h 362) _ (.slice (aA (q35.i 362) 0) (((bP (aL ρ 0) h.t.length++h.t.flatten++ak (ρ.i 57).toNat++ak (ρ.i 58).toNat++ak (ρ.i 59).toNat++ak (ρ.i 60).toNat++ak (ρ.i 61).toNat++ak (ρ.i 62).toNat++bL (aL ρ 0) 60 32++ak (bX (ρ.i 95))).length:Int)).toNat (q35.i 363).toNat) (bP (aL ρ 0) h.t.length++h.t.flatten++ak (ρ.i 57).toNat++ak (ρ.i 58).toNat++ak (ρ.i 59).toNat++ak (ρ.i 60).toNat++ak (ρ.i 61).toNat++ak (ρ.i 62).toNat++bL (aL ρ 0) 60 32++ak (bX (ρ.i 95))):=h35;have b35x:(bP (aL ρ 0) h.t.length++h.t.flatten++ak (ρ.i 57).toNat++ak (ρ.i 58).toNat++ak (ρ.i 59).toNat++ak (ρ.i 60).toNat++ak (ρ.i 61).toNat++ak (ρ.i 62).toNat++bL (aL ρ 0) 60 32++ak (bX (ρ.i 95))).length<=329:=by rw[Y9];exact ZR b33x b34
  have L35:q35.i 311+q35.i 322+q35.i 328+q35.i 334+q35.i 340+q35.i 346+q35.i 352+32+q35.i 360=((bP (aL ρ 0) h.t.length++h.t.flatten++ak (ρ.i 57).toNat++ak (ρ.i 58).toNat++ak (ρ.i 59).toNat++ak (ρ.i 60).toNat++ak (ρ.i 61).toNat++ak (ρ.i 62).toNat++bL (aL ρ 0) 60 32++ak (bX (ρ.i 95))).length:Int):=by rw[g35.i 311,g35.i 322,g35.i 328,g35.i 334,g35.i 340,g35.i 346,g35.i 352,g35.i 360,L33,N34,Y9 (bs:=ak (bX (ρ.i 95)))];first | (rw[bC];omega) | (show _=((_+1:Nat):Int);omega) | omega
  refine fun _=>⟨[],[2],rfl,rfl,⟨⟨fun k=>[q35.i 362,0,q35.i 311+q35.i 322+q35.i 328+q35.i 334+q35.i 340+q35.i 346+q35.i 352+32+q35.i 360,q35.i 363].getD k 0,fun _=>false,fun _=>.empty,fun _=>.tuple #[],fun _=>Hl.none⟩,rfl,⟨A35,Zw _,by show 0<=q35.i 311+q35.i 322+q35.i 328+q35.i 334+q35.i 340+q35.i 346+q35.i 352+32+q35.i 360;omega,C35⟩,trivial⟩,_,R,h,rfl,rfl,hx,?_⟩;show cH (dC [q35.h 362]) _ (.slice (aA (q35.i 362) 0) (q35.i 311+q35.i 322+q35.i 328+q35.i 334+q35.i 340+q35.i 346+q35.i 352+32+q35.i 360).toNat (q35.i 363).toNat) _;rw[bz,L35,Cn hx];exact h35
def Kh (h:Hd):List Int:=lI h++bL h.c 93 32
open Classical in
noncomputable def cj (h:Hd):List Int:=if h.Form then Kh h else []
noncomputable def dt (f:FuncId):Sx.Spec where
 fn:=f
 own:=[]
 rd:=[10053]
 res:=[.one .sl]
 pre:=fun xs Hs Rs=>∃ row R h,xs=[.agg row.toArray]/\Rs=[R]/\cN R row h
 post:=fun xs Hs Rs v Hs' F=>∃ row R h,xs=[.agg row.toArray]/\Rs=[R]/\cN R row h/\cH F 5 v (cj h)
noncomputable def Nh:List Sx.Spec:=[fR 117,coreS 177,fR 65,coreS 108]
theorem Lg:∀ t∈Nh,t.OK Tryz.prog:=fun t ht=>by
 simp only[Nh,Zl,Zq,ZO]at ht;rcases ht with rfl | rfl | rfl | rfl
 .exact oQ
 .exact IQ
 .exact sN
 .exact Ju
theorem Ll:Nh[0]?=some (fR 117):=rfl
theorem EZ:Nh[1]?=some (coreS 177):=rfl
theorem wh:Nh[2]?=some (fR 65):=rfl
theorem QF:Nh[3]?=some (coreS 108):=rfl
theorem ri (f:FuncId):(fR f).res=[.one .bool]:=rfl
theorem S7 (f:FuncId):(coreS f).res=[.one .sl]:=rfl
def EG:Nd:=(fun a b c=>(.ext (.alloc 131) (.and (.pre (.call 0 132 b [] c)) (.ext (.call 0 132 b [] c) (.and (.imp (.not (.bvar 132)) (.post [.ro 130 [.var 53] false,.dead] (.sv (.one (.sl (.lit (-1)) (.lit 0) (.lit 0) (.lit 0)))))) (.imp (.bvar 132) (.and (.pre (.call 1 133 b [] c)) (.ext (.call 1 133 b [] c) (.and (.pre a) (.ext a (.post [.ro 130 [.var 53] false,.dead,.hp 137 [133] [.var 137,.var 133] []] (.sv (.one (.sl (.var 137) (.lit 0) (.add (.var 135) (.lit 32)) (.var 138))))))))))))):Nd)) (.app 137 5 1 1 (.sl (.var 133) (.var 134) (.var 135) (.var 136)) (.var 135) (.hp 133 [] [.var 133] []) (.cvs (al 96 (List.replicate 32 (Ck.int .u8))) 32)) [.sv (.agg (al 0 cX))] [.ro 130 [.var 53] false]
def FP:Nd:=(fun a b c=>(.ext (.alloc 131) (.and (.pre (.call 2 132 b [] c)) (.ext (.call 2 132 b [] c) (.and (.imp (.not (.bvar 132)) (.post [.ro 130 [.var 53] false,.dead] (.sv (.one (.sl (.lit (-1)) (.lit 0) (.lit 0) (.lit 0)))))) (.imp (.bvar 132) (.and (.pre (.call 3 133 b [] c)) (.ext (.call 3 133 b [] c) (.and (.pre a) (.ext a (.post [.ro 130 [.var 53] false,.dead,.hp 137 [133] [.var 137,.var 133] []] (.sv (.one (.sl (.var 137) (.lit 0) (.add (.var 135) (.lit 32)) (.var 138))))))))))))):Nd)) (.app 137 5 1 1 (.sl (.var 133) (.var 134) (.var 135) (.var 136)) (.var 135) (.hp 133 [] [.var 133] []) (.cvs (al 96 (List.replicate 32 (Ck.int .u8))) 32)) [.sv (.agg (al 0 cX))] [.ro 130 [.var 53] false]
noncomputable def Cr:bU Tryz.prog Nh 146 where
 Λ:=aM
 args:=(bf 0 [.agg cX]).map .sv
 mem:=[.ro 130 [.var 53] false]
 nv:=131
 nd:=EG
 ok:=by kernel_rfl
noncomputable def Du:bU Tryz.prog Nh 71 where
 Λ:=aM
 args:=(bf 0 [.agg cX]).map .sv
 mem:=[.ro 130 [.var 53] false]
 nv:=131
 nd:=FP
 ok:=by kernel_rfl
open Classical in
theorem lP {f:FuncId} {row:List Value} {R:Hl} {h:Hd} {Hs K:List Hl} {v:Value} {F:Hl} (hx:cN R row h) (hp:(fR f).post [.agg row.toArray] Hs [R] v K F):v=.bool (decide h.Form):=by
 obtain⟨row',R',h',e1,e2,hx',hv⟩:=hp;simp only[Ze,Value.agg.injEq,Zm]at e1 e2;have e1:=ZL e1;subst e1 e2;rw[hx.uniq hx'];exact hv
theorem Cm {f:FuncId} {row:List Value} {R:Hl} {h:Hd} {Hs K:List Hl} {v:Value} {F:Hl} (hx:cN R row h) (hp:(coreS f).post [.agg row.toArray] Hs [R] v K F):cH F 5 v (lI h):=by
 obtain⟨row',R',h',e1,e2,hx',hv⟩:=hp;simp only[Ze,Value.agg.injEq,Zm]at e1 e2;have e1:=ZL e1;subst e1 e2;rw[hx.uniq hx'];exact hv
theorem mz {f:FuncId} {row:List Value} {R:Hl} {h:Hd} {Hs K:List Hl} {v:Value} {F:Hl} (hx:cN R row h) (hp:(dt f).post [.agg row.toArray] Hs [R] v K F):cH F 5 v (cj h):=by
 obtain⟨row',R',h',e1,e2,hx',hv⟩:=hp;simp only[Ze,Value.agg.injEq,Zm]at e1 e2;have e1:=ZL e1;subst e1 e2;rw[hx.uniq hx'];exact hv
theorem qV {R:Hl} {row:List Value} {h:Hd} (hx:cN R row h) (h8:h.t.length<=8):(lI h).length<=900:=by
 have lz:∀ k,cI h.c k<18446744073709551616->(ak (cI h.c k).toNat).length<=10:=fun k hk=>iq (by omega);have hu:∀ {k:Nat},dQ[k]?=some (.int .u64)->k≠53->cI h.c k<18446744073709551616:=fun {k} hk h53=>by
  rw[hx.I h53];exact(hx.rng _ (Zb (uS hx.ok hk))).2
 have l16:=AB (T:=h.t) (fun t ht=>(hx.byte.2 t ht).1);have a1:=iq (jH (cI h.c 0));have a2:=lz 1 (hu rfl (by decide));have a3:=iq (jH (cI h.c 34));have a4:=lz 36 (hu rfl (by decide));have a5:=iq (z:=h.t.length) (by omega);have a6:=lz 54 (hu rfl (by decide));have a7:=lz 55 (hu rfl (by decide));have a8:=lz 56 (hu rfl (by decide));have a9:=lz 57 (hu rfl (by decide));have b1:=lz 58 (hu rfl (by decide));have b2:=lz 59 (hu rfl (by decide));have b3:=iq (jH (cI h.c 92));have b4:(fh (cB h.c 35)).length=1:=rfl;unfold lI pI bP;simp only[Y9,bC];omega
open Classical in
theorem Cq:(dt 146).OK Tryz.prog:=by
 refine Spec.bJ (Γ:=Nh) Lg ?_;rintro xs Hs Rs hl1 hl2 ⟨row,R,h,rfl,rfl,hx⟩;have e0:Hs=[]:=Za.1 hl1;subst e0;obtain⟨ρ,rfl,w130,hnw,n54,n55,n56⟩:=kE (R:=R) hx.ok;refine⟨Cr,ρ,fun _ _=>True,fun _ _=>0,rfl,⟨?_,?_,?_,?_⟩,(fun _ h=>nomatch h),?_⟩
 .intro r hr ho;simp [Cr]at hr;subst hr;cases ho
 .intro r hr ho;simp [Cr]at hr;subst hr;exact⟨R,by simp,by show(ρ.h 130).le R;rw[w130];exact Hl.le_refl _⟩
 .simp [Cr]
 .intro r hr;simp [Cr]at hr;subst hr;trivial
 .show Nd.holds _ _ _ EG;unfold EG;simp only[Nd.holds,X.pre,X.rel,X.n,Src.ok,Src.len,Src.bG,Zy,Zm,ZG,Zx,Zp,Nat.reduceAdd,Zd,Zh,bn,bj,aJ,aU,aR,bm,aZ,bh,bg,bd,aV,ba,bk,aX,aW,aK,aY,ai,aj,aB,aF,aD,ar,aG,aQ,aP,aq,aI,az,aH,av,TV.ev,SV.ev,CV.ev,Zf,Zr,bx.hl,cu,Cp.sv,Ck.cv,bf,Cp.len,Ck.len,aE,aN,aT,Ll,ri,EZ,S7,Sm,Ri];intro q1 g1 p1;have r1:(al 0 cX).map (CV.ev q1)=aL ρ 0:=cZ g1.mono;rw[r1,g1.h 130,w130];refine⟨⟨_,R,h,rfl,rfl,hx⟩,fun q2 g2 ⟨F2,hp2,_⟩=>?_⟩;have hv:=lP hx hp2;have hv:q2.b 132=decide h.Form:=by simpa [cn] using hv
  have G2:ah 131 ρ q2:=g1.mono.tr g2;have r2:(al 0 cX).map (CV.ev q2)=aL ρ 0:=cZ G2.mono;rw[hv,Zc,r2,G2.h 130,w130];refine⟨fun hf _=>⟨[],[],rfl,rfl,⟨⟨fun k=>if k=0 then -1 else 0,fun _=>false,fun _=>.empty,fun _=>.tuple #[],fun _=>Hl.none⟩,rfl,⟨Zw _,Zw _,Zw _,Zw _⟩,trivial⟩,_,R,h,rfl,rfl,hx,?_⟩,fun hf=>?_⟩
  .unfold cj;rw[Zo hf];exact rJ _ _
  have h8:=hf.2.1;have hcl:=qV hx h8;refine⟨⟨_,R,h,rfl,rfl,hx,h8⟩,fun q3 g3 ⟨F3,hp3,hF3,hn3⟩=>?_⟩;have hO:=Cm hx hp3;rw[<-hF3 trivial]at hO;have hn3:-1<=q3.i 133/\0<=q3.i 134/\0<=q3.i 135/\0<=q3.i 136:=hn3.1;have e:(q3.i 135).toNat=(lI h).length:=by
   obtain⟨x,y,c,e,_⟩:=hO.rd;simp only[Value.slice.injEq]at e;exact e.2.1
  have e2:q3.i 135=((lI h).length:Int):=by omega
  rw[e2]at hO ⊢;have G3:ah 131 ρ q3:=G2.tr g3;have hcode:(al 96 (List.replicate 32 (Ck.int .u8))).map (CV.ev q3)=bK (bL h.c 93 32):=by
   rw[Hc,cZ G3.mono]
   congr 1
   exact aac fun j hj=>(hx.I (by omega)).symm
  refine sq (b2:=bL h.c 93 32) hO hcode (bC _ _ _).symm (by omega) (by rw[bC];omega) fun q4 g4 A4 C4 h4=>?_;have hl:q4.i 135+32=((Kh h).length:Int):=by
   rw[g4.i 135,e2];unfold Kh;rw[Y9,bC];omega
  refine fun _=>⟨[],[2],rfl,rfl,⟨⟨fun k=>[q4.i 137,0,q4.i 135+32,q4.i 138].getD k 0,fun _=>false,fun _=>.empty,fun _=>.tuple #[],fun _=>Hl.none⟩,rfl,⟨A4,Zw _,by show 0<=q4.i 135+32;omega,C4⟩,trivial⟩,_,R,h,rfl,rfl,hx,?_⟩;show cH (dC [q4.h 137]) _ (.slice (aA (q4.i 137) 0) (q4.i 135+32).toNat (q4.i 138).toNat) _;unfold cj;rw[bz,ZA hf,hl];exact h4
open Classical in
theorem xo:(dt 71).OK Tryz.prog:=by
 refine Spec.bJ (Γ:=Nh) Lg ?_;rintro xs Hs Rs hl1 hl2 ⟨row,R,h,rfl,rfl,hx⟩;have e0:Hs=[]:=Za.1 hl1;subst e0;obtain⟨ρ,rfl,w130,hnw,n54,n55,n56⟩:=kE (R:=R) hx.ok;refine⟨Du,ρ,fun _ _=>True,fun _ _=>0,rfl,⟨?_,?_,?_,?_⟩,(fun _ h=>nomatch h),?_⟩
 .intro r hr ho;simp [Du]at hr;subst hr;cases ho
 .intro r hr ho;simp [Du]at hr;subst hr;exact⟨R,by simp,by show(ρ.h 130).le R;rw[w130];exact Hl.le_refl _⟩
 .simp [Du]
 .intro r hr;simp [Du]at hr;subst hr;trivial
 .show Nd.holds _ _ _ FP;unfold FP;simp only[Nd.holds,X.pre,X.rel,X.n,Src.ok,Src.len,Src.bG,Zy,Zm,ZG,Zx,Zp,Nat.reduceAdd,Zd,Zh,bn,bj,aJ,aU,aR,bm,aZ,bh,bg,bd,aV,ba,bk,aX,aW,aK,aY,ai,aj,aB,aF,aD,ar,aG,aQ,aP,aq,aI,az,aH,av,TV.ev,SV.ev,CV.ev,Zf,Zr,bx.hl,cu,Cp.sv,Ck.cv,bf,Cp.len,Ck.len,aE,aN,aT,wh,ri,QF,S7,Sm,Ri];intro q1 g1 p1;have r1:(al 0 cX).map (CV.ev q1)=aL ρ 0:=cZ g1.mono;rw[r1,g1.h 130,w130];refine⟨⟨_,R,h,rfl,rfl,hx⟩,fun q2 g2 ⟨F2,hp2,_⟩=>?_⟩;have hv:=lP hx hp2;have hv:q2.b 132=decide h.Form:=by simpa [cn] using hv
  have G2:ah 131 ρ q2:=g1.mono.tr g2;have r2:(al 0 cX).map (CV.ev q2)=aL ρ 0:=cZ G2.mono;rw[hv,Zc,r2,G2.h 130,w130];refine⟨fun hf _=>⟨[],[],rfl,rfl,⟨⟨fun k=>if k=0 then -1 else 0,fun _=>false,fun _=>.empty,fun _=>.tuple #[],fun _=>Hl.none⟩,rfl,⟨Zw _,Zw _,Zw _,Zw _⟩,trivial⟩,_,R,h,rfl,rfl,hx,?_⟩,fun hf=>?_⟩
  .unfold cj;rw[Zo hf];exact rJ _ _
  have h8:=hf.2.1;have hcl:=qV hx h8;refine⟨⟨_,R,h,rfl,rfl,hx,h8⟩,fun q3 g3 ⟨F3,hp3,hF3,hn3⟩=>?_⟩;have hO:=Cm hx hp3;rw[<-hF3 trivial]at hO;have hn3:-1<=q3.i 133/\0<=q3.i 134/\0<=q3.i 135/\0<=q3.i 136:=hn3.1;have e:(q3.i 135).toNat=(lI h).length:=by
   obtain⟨x,y,c,e,_⟩:=hO.rd;simp only[Value.slice.injEq]at e;exact e.2.1
  have e2:q3.i 135=((lI h).length:Int):=by omega
  rw[e2]at hO ⊢;have G3:ah 131 ρ q3:=G2.tr g3;have hcode:(al 96 (List.replicate 32 (Ck.int .u8))).map (CV.ev q3)=bK (bL h.c 93 32):=by
   rw[Hc,cZ G3.mono]
   congr 1
   exact aac fun j hj=>(hx.I (by omega)).symm
  refine sq (b2:=bL h.c 93 32) hO hcode (bC _ _ _).symm (by omega) (by rw[bC];omega) fun q4 g4 A4 C4 h4=>?_;have hl:q4.i 135+32=((Kh h).length:Int):=by
   rw[g4.i 135,e2];unfold Kh;rw[Y9,bC];omega
  refine fun _=>⟨[],[2],rfl,rfl,⟨⟨fun k=>[q4.i 137,0,q4.i 135+32,q4.i 138].getD k 0,fun _=>false,fun _=>.empty,fun _=>.tuple #[],fun _=>Hl.none⟩,rfl,⟨A4,Zw _,by show 0<=q4.i 135+32;omega,C4⟩,trivial⟩,_,R,h,rfl,rfl,hx,?_⟩;show cH (dC [q4.h 137]) _ (.slice (aA (q4.i 137) 0) (q4.i 135+32).toNat (q4.i 138).toNat) _;unfold cj;rw[bz,ZA hf,hl];exact h4
def Av:List Ck:=cX++[Ck.sl]
theorem mf:∀ {row:List Value} {ks:List Kd} {u:Value} {k:Kd},bS row ks->bY (some u) k=true->bS (row++[u]) (ks++[k])
 | [],[],_,_,_,h=>⟨h,trivial⟩
 | v::l,k::ks,_,_,h,h'=>⟨h.1,mf h.2 h'⟩
theorem fL:∀ {row:List Value} {ks:List Kd},bS row ks->row.length=ks.length
 | [],[],_=>rfl
 | v::l,k::ks,h=>by rw[Zd,Zd,fL h.2]
set_option maxRecDepth 20000 in
theorem Hf {R G:Hl} {row:List Value} {x y:Int} {n c:Nat} (h:bS row dQ) (hy:0<=y):∃ q:Env,row=aL q 0/\(.slice (aA x y) n c:Value)=(CV.sl (.var 128) (.var 129) (.var 130) (.var 131)).ev q/\q.h 132=R/\q.h 133=G/\ck 0 cX q/\0<=q.i 129/\0<=q.i 130/\0<=q.i 131:=by
 have hk:bS (row++[.slice (aA x y) n c]) (Av.map jA):=by
  unfold Av;rw[ZP];exact mf h rfl
 obtain⟨q,_,hn,e⟩:=dI Av 0 _ ⟨fun _=>0,fun _=>false,fun _=>.empty,fun _=>.tuple #[],fun _=>Hl.none⟩ hk;have e:aL q 0++[(CV.sl (.var 128) (.var 129) (.var 130) (.var 131)).ev q]=row++[.slice (aA x y) n c]:=e;obtain⟨e1,e2⟩:=abY e rfl;have hs:∀ (a b:List Ck) (n:Nat),ck n (a++b) q->ck n a q/\ck (n+bR a) b q:=by
  intro a
  induction a with
  | nil=>intro b n h;exact⟨trivial,by simpa [bR] using h⟩
  | cons k a ih =>
   intro b n h;have:=ih b (n+k.len) h.2;rw[show n+k.len+bR a=n+bR (k::a)by simp [bR];omega]at this;exact⟨⟨h.1,this.1⟩,this.2⟩
 obtain⟨h1,h2⟩:=hs cX [Ck.sl] 0 hn;have h2:=h2.1;refine⟨⟨q.i,q.b,q.s,q.v,fun k=>if k=132 then R else if k=133 then G else Hl.none⟩,e1.symm,?_,rfl,rfl,h1,h2.2.1,h2.2.2.1,h2.2.2.2⟩;simp only[Ze,Zm]at e2;exact e2.symm
def eQ (row:List Value) (bs:List Int):Bool:=decide ((bs.length:Int)=cI row 92/\fP bs=bL row 60 32)
def yj:Sx.Spec where
 fn:=145
 own:=[]
 rd:=[1000125,2000005]
 res:=[.one .bool]
 pre:=fun xs Hs Rs=>∃ row u bs R RG,xs=[.agg (row++[u]).toArray]/\Rs=[R,RG]/\bS row dQ/\fp R u bs/\aS bs/\bs.length<=900000/\uz RG 5
 post:=fun xs Hs Rs v Hs' F=>∀ row u bs R RG,xs=[.agg (row++[u]).toArray]->Rs=[R,RG]->fp R u bs->v=.bool (eQ row bs)
def rW:Sx.Spec where
 fn:=67
 own:=[]
 rd:=[1000125,2000003]
 res:=[.one .bool]
 pre:=fun xs Hs Rs=>∃ row u bs R RG,xs=[.agg (row++[u]).toArray]/\Rs=[R,RG]/\bS row dQ/\fp R u bs/\aS bs/\bs.length<=900000/\uz RG 3
 post:=fun xs Hs Rs v Hs' F=>∀ row u bs R RG,xs=[.agg (row++[u]).toArray]->Rs=[R,RG]->fp R u bs->v=.bool (eQ row bs)
def BO:Nd:=(fun b=>(fun a=>(.ext (.alloc 134) (.and (.e (.le (.lit 0) b)) (.and (.imp (.eq b (.var 95)) (.ext (.alloc 135) (.and (.pre a) (.ext a (.post [.ro 132 [.var 128] true,.ro 133 [.lit 5] false,.dead,.dead] (.sv (.one (.bool (.and (.eq (.var 136) (.var 63)) (.and (.eq (.var 137) (.var 64)) (.and (.eq (.var 138) (.var 65)) (.and (.eq (.var 139) (.var 66)) (.and (.eq (.var 140) (.var 67)) (.and (.eq (.var 141) (.var 68)) (.and (.eq (.var 142) (.var 69)) (.and (.eq (.var 143) (.var 70)) (.and (.eq (.var 144) (.var 71)) (.and (.eq (.var 145) (.var 72)) (.and (.eq (.var 146) (.var 73)) (.and (.eq (.var 147) (.var 74)) (.and (.eq (.var 148) (.var 75)) (.and (.eq (.var 149) (.var 76)) (.and (.eq (.var 150) (.var 77)) (.and (.eq (.var 151) (.var 78)) (.and (.eq (.var 152) (.var 79)) (.and (.eq (.var 153) (.var 80)) (.and (.eq (.var 154) (.var 81)) (.and (.eq (.var 155) (.var 82)) (.and (.eq (.var 156) (.var 83)) (.and (.eq (.var 157) (.var 84)) (.and (.eq (.var 158) (.var 85)) (.and (.eq (.var 159) (.var 86)) (.and (.eq (.var 160) (.var 87)) (.and (.eq (.var 161) (.var 88)) (.and (.eq (.var 162) (.var 89)) (.and (.eq (.var 163) (.var 90)) (.and (.eq (.var 164) (.var 91)) (.and (.eq (.var 165) (.var 92)) (.and (.eq (.var 166) (.var 93)) (.eq (.var 167) (.var 94))))))))))))))))))))))))))))))))))))))))) (.imp (.not (.eq b (.var 95))) (.post [.ro 132 [.var 128] true,.ro 133 [.lit 5] false,.dead] (.sv (.one (.bool .ff))))))):Nd)) (.call 0 136 [.sv (.one (.sl (.var 135) (.lit 0) (.lit 1) (.lit 1)))] [] [.bD 135 [.sl (.var 128) (.var 129) b (.var 131)] 46,.ro 132 [.var 128] true,.ro 133 [.lit 5] false])) (.var 130)
def xJ:Nd:=(fun c b=>(fun a=>(.ext (.alloc 134) (.and (.e (.le (.lit 0) c)) (.and (.imp (.eq c (.var 95)) (.and (.pre a) (.ext a (.post b (.sv (.one (.bool (.and (.eq (.var 135) (.var 63)) (.and (.eq (.var 136) (.var 64)) (.and (.eq (.var 137) (.var 65)) (.and (.eq (.var 138) (.var 66)) (.and (.eq (.var 139) (.var 67)) (.and (.eq (.var 140) (.var 68)) (.and (.eq (.var 141) (.var 69)) (.and (.eq (.var 142) (.var 70)) (.and (.eq (.var 143) (.var 71)) (.and (.eq (.var 144) (.var 72)) (.and (.eq (.var 145) (.var 73)) (.and (.eq (.var 146) (.var 74)) (.and (.eq (.var 147) (.var 75)) (.and (.eq (.var 148) (.var 76)) (.and (.eq (.var 149) (.var 77)) (.and (.eq (.var 150) (.var 78)) (.and (.eq (.var 151) (.var 79)) (.and (.eq (.var 152) (.var 80)) (.and (.eq (.var 153) (.var 81)) (.and (.eq (.var 154) (.var 82)) (.and (.eq (.var 155) (.var 83)) (.and (.eq (.var 156) (.var 84)) (.and (.eq (.var 157) (.var 85)) (.and (.eq (.var 158) (.var 86)) (.and (.eq (.var 159) (.var 87)) (.and (.eq (.var 160) (.var 88)) (.and (.eq (.var 161) (.var 89)) (.and (.eq (.var 162) (.var 90)) (.and (.eq (.var 163) (.var 91)) (.and (.eq (.var 164) (.var 92)) (.and (.eq (.var 165) (.var 93)) (.eq (.var 166) (.var 94)))))))))))))))))))))))))))))))))))))))) (.imp (.not (.eq c (.var 95))) (.post b (.sv (.one (.bool .ff))))))):Nd)) (.call 0 135 [.sv (.one (.sl (.var 128) (.var 129) c (.var 131)))] [] [.ro 132 [.var 128] true,.ro 133 [.lit 3] false])) (.var 130) [.ro 132 [.var 128] true,.ro 133 [.lit 3] false,.dead]
def Na:bU Tryz.prog [rj] yj.fn where
 Λ:=aM
 args:=(bf 0 [.agg Av]).map .sv
 mem:=[.ro 132 [.var 128] true,.ro 133 [.lit 5] false]
 nv:=134
 nd:=BO
 ok:=by kernel_rfl
def Ii:bU Tryz.prog [iz] rW.fn where
 Λ:=aM
 args:=(bf 0 [.agg Av]).map .sv
 mem:=[.ro 132 [.var 128] true,.ro 133 [.lit 3] false]
 nv:=134
 nd:=xJ
 ok:=by kernel_rfl
theorem XA:[rj][0]?=some rj:=rfl
theorem T3:rj.res=[.agg (List.replicate 32 (Ck.int .u8))]:=rfl
theorem XB:[iz][0]?=some iz:=rfl
theorem T4:iz.res=[.agg (List.replicate 32 (Ck.int .u8))]:=rfl
def gF (q:Env) (n:Nat):List Int:=(List.range 32).map fun j=>q.i (n+j)
theorem DQ (q:Env):bL (aL q 0) 60 32=gF q 63:=rfl
theorem Gj (q q':Env) (n m:Nat):gF q n=gF q' m↔(q.i (n+0)=q'.i (m+0)/\q.i (n+1)=q'.i (m+1)/\q.i (n+2)=q'.i (m+2)/\q.i (n+3)=q'.i (m+3)/\q.i (n+4)=q'.i (m+4)/\q.i (n+5)=q'.i (m+5)/\q.i (n+6)=q'.i (m+6)/\q.i (n+7)=q'.i (m+7)/\q.i (n+8)=q'.i (m+8)/\q.i (n+9)=q'.i (m+9)/\q.i (n+10)=q'.i (m+10)/\q.i (n+11)=q'.i (m+11)/\q.i (n+12)=q'.i (m+12)/\q.i (n+13)=q'.i (m+13)/\q.i (n+14)=q'.i (m+14)/\q.i (n+15)=q'.i (m+15)/\q.i (n+16)=q'.i (m+16)/\q.i (n+17)=q'.i (m+17)/\q.i (n+18)=q'.i (m+18)/\q.i (n+19)=q'.i (m+19)/\q.i (n+20)=q'.i (m+20)/\q.i (n+21)=q'.i (m+21)/\q.i (n+22)=q'.i (m+22)/\q.i (n+23)=q'.i (m+23)/\q.i (n+24)=q'.i (m+24)/\q.i (n+25)=q'.i (m+25)/\q.i (n+26)=q'.i (m+26)/\q.i (n+27)=q'.i (m+27)/\q.i (n+28)=q'.i (m+28)/\q.i (n+29)=q'.i (m+29)/\q.i (n+30)=q'.i (m+30)/\q.i (n+31)=q'.i (m+31)):=by
 have e:List.range 32=[0,1,2,3,4,5,6,7,8,9,10,11,12,13,14,15,16,17,18,19,20,21,22,23,24,25,26,27,28,29,30,31]:=rfl;unfold gF;rw[e];simp only[Zf,Zr,Ze,Zm]
theorem Bx {q q':Env} {k n:Nat} (g:ah k q q') (h:n+32<=k):gF q' n=gF q n:=by
 unfold gF;refine aac fun j hj=>g.i _ ?_;have:=ZQ.1 hj;omega
theorem oN {s:Sx.Spec} {xs:List Value} {Rs:List Hl} {q:Env} {mem:Mem} {e:E} {b:Bool} (hr:s.res=[.one .bool]) (he:bN q e=b) (h:∀ F,s.post xs [] Rs (.bool b) [] F):postOf s xs [] Rs q mem (.sv (.one (.bool e))):=by
 intro _;refine⟨[],[],rfl,rfl,⟨⟨fun _=>0,fun _=>b,fun _=>.empty,fun _=>.tuple #[],fun _=>Hl.none⟩,?_,?_⟩,?_⟩
 .rw[hr,<-he];rfl
 .rw[hr];exact⟨trivial,trivial⟩
 .have:=h (uu q mem []);rw[<-he]at this;exact this
theorem sU {x:Int} {u:Value} {bs:List Int} {T:TypeId} {RA:Hl} (hx:0<=x) (h:fp RA u bs):iW (Hl.one x.toNat (.cells #[u] T)) RA (.slice (aA x 0) 1 1) [bs]:=by
 refine⟨[u],x,0,1,rfl,Zw _,rfl,fun j v hv=>⟨hx,?_⟩,fun j v r hv hr=>?_⟩
 .cases j with
  | zero=>simp only[Z6,Zj]at hv;subst hv;simp [Hl.cell,Hl.one]
  | succ j=>simp at hv
 .cases j with
  | zero=>simp only[Z6,Zj]at hv hr;subst hv hr;exact h
  | succ j=>simp at hv
def Y5 (xs:List Value) (Rs:List Hl) (v:Value):Prop:=∀ row u bs R RG,xs=[.agg (row++[u]).toArray]->Rs=[R,RG]->fp R u bs->v=.bool (eQ row bs)
theorem BN {row:List Value} {u:Value} {bs:List Int} {R RG:Hl} (h:fp R u bs) {b:Bool} (hb:b=eQ row bs):Y5 [.agg (row++[u]).toArray] [R,RG] (.bool b):=by
 intro row' u' bs' R' RG' e1 e2 h';simp only[Ze,Zm,Value.agg.injEq,ZL]at e1 e2;have e1:row++[u]=row'++[u']:=ZW Array.toList e1;obtain⟨rfl,e⟩:=abY e1 rfl;simp only[Ze,Zm]at e;obtain⟨rfl,rfl⟩:=e2;subst e;rw[hb,h.uniq h']
set_option maxRecDepth 20000 in
theorem Ge:rW.OK Tryz.prog:=by
 refine Spec.bJ (Γ:=[iz]) (fun t ht=>by rw[Zn]at ht;subst ht;exact xI) ?_;rintro xs Hs Rs hl1 hl2 ⟨row,u,bs,R,RG,rfl,rfl,hr,hR,hb,hlen,hK⟩;have e0:Hs=[]:=Za.1 hl1;subst e0;obtain⟨x,y,c,rfl,hy,_⟩:=id hR;obtain⟨ρ,rfl,eu,w2,w3,hnw,n9,n0,n1⟩:=Hf (R:=R) (G:=RG) (x:=x) (n:=bs.length) (c:=c) hr hy;refine⟨Ii,ρ,fun _ _=>True,fun _ _=>0,?_,dB (by intro r hr;simp [Ii]at hr;rcases hr with rfl | rfl<;>exact⟨_,_,_,rfl⟩) (by show [ρ.h 132,ρ.h 133]=_;rw[w2,w3]),(fun _ h=>nomatch h),?_⟩
 .rw[eu];rfl
 .show Nd.holds _ _ _ xJ;unfold xJ;simp only[Nd.holds,X.pre,X.rel,X.n,Src.ok,Src.len,Src.bG,Zy,Zm,ZG,Zx,Zp,Nat.reduceAdd,Zd,Zh,bn,bj,aJ,aU,aR,bm,aZ,bh,bg,bd,aV,ba,bk,aX,aW,aK,aY,ai,aj,aB,aF,aD,ar,aG,aQ,aP,aq,aI,az,aH,av,TV.ev,SV.ev,CV.ev,Zf,Zr,bx.hl,cu,Cp.sv,Ck.cv,bf,Cp.len,Ck.len,aE,aN,aT,XB,T4];intro q1 g1 p1;have eu':Value.slice (aA (ρ.i 128) (ρ.i 129)) (ρ.i 130).toNat (ρ.i 131).toNat=.slice (aA x y) bs.length c:=eu.symm;have e130:ρ.i 130=bs.length:=by
   simp only[Value.slice.injEq]at eu';have:=eu'.2.1;omega
  have h92:cI (aL ρ 0) 92=ρ.i 95:=rfl;rw[g1.i 128,g1.i 129,g1.i 130,g1.i 131,g1.i 95,g1.h 132,g1.h 133,eu',w2,w3];refine⟨n0,fun h1=>⟨⟨_,bs,R,RG,rfl,rfl,hR,hb,hlen,hK⟩,fun q2 g2 ⟨F,hp,_⟩=>?_⟩,fun h1=>?_⟩
  .have hp:=hp _ _ _ _ rfl rfl hR;have hs:gF q2 135=fP bs:=by
    have hp:Value.agg (bK (gF q2 135)).toArray=.agg (bK (fP bs)).toArray:=hp;exact jy (ZW Array.toList (Value.agg.inj hp))
   have G:ah 134 ρ q2:=g1.tr g2;refine oN (b:=eQ (aL ρ 0) bs) rfl ?_ fun F=>BN hR rfl;rw[aaW];unfold eQ;rw[Zc,h92,DQ,<-hs,<-Bx G (by omega),Gj,<-h1,e130];simp only[bn,bj,aJ,aU,aR,bm,aZ,bh,bg,bd,aV,ba,bk,aX,aW,aK,aY,ai,aj,aB,aF,aD,ar,aG,aQ,aP,aq,aI,az,aH,av,Zy,Nat.reduceAdd]
  .refine oN (b:=eQ (aL ρ 0) bs) rfl ?_ fun F=>BN hR rfl;unfold eQ;rw[h92,<-e130,dq];simp [h1]
set_option maxRecDepth 20000 in
theorem J5:yj.OK Tryz.prog:=by
 refine Spec.bJ (Γ:=[rj]) (fun t ht=>by rw[Zn]at ht;subst ht;exact CF) ?_;rintro xs Hs Rs hl1 hl2 ⟨row,u,bs,R,RG,rfl,rfl,hr,hR,hb,hlen,hK⟩;have e0:Hs=[]:=Za.1 hl1;subst e0;obtain⟨x,y,c,rfl,hy,_⟩:=id hR;obtain⟨ρ,rfl,eu,w2,w3,hnw,n9,n0,n1⟩:=Hf (R:=R) (G:=RG) (x:=x) (n:=bs.length) (c:=c) hr hy;refine⟨Na,ρ,fun _ _=>True,fun _ _=>0,?_,dB (by intro r hr;simp [Na]at hr;rcases hr with rfl | rfl<;>exact⟨_,_,_,rfl⟩) (by show [ρ.h 132,ρ.h 133]=_;rw[w2,w3]),(fun _ h=>nomatch h),?_⟩
 .rw[eu];rfl
 .show Nd.holds _ _ _ BO;unfold BO;simp only[Nd.holds,X.pre,X.rel,X.n,Src.ok,Src.len,Src.bG,Zy,Zm,ZG,Zx,Zp,Nat.reduceAdd,Zd,Zh,bn,bj,aJ,aU,aR,bm,aZ,bh,bg,bd,aV,ba,bk,aX,aW,aK,aY,ai,aj,aB,aF,aD,ar,aG,aQ,aP,aq,aI,az,aH,av,TV.ev,SV.ev,CV.ev,Zf,Zr,bx.hl,cu,Cp.sv,Ck.cv,bf,Cp.len,Ck.len,aE,aN,aT,XA,T3];intro q1 g1 p1;have eu':Value.slice (aA (ρ.i 128) (ρ.i 129)) (ρ.i 130).toNat (ρ.i 131).toNat=.slice (aA x y) bs.length c:=eu.symm;have e130:ρ.i 130=bs.length:=by
   simp only[Value.slice.injEq]at eu';have:=eu'.2.1;omega
  have h92:cI (aL ρ 0) 92=ρ.i 95:=rfl;refine⟨by rw[g1.i 130];exact n0,fun h1 q2 g2 p2=>?_,fun h1=>?_⟩
  .have G2:ah 134 ρ q2:=g1.tr g2;rw[g1.i 130,g1.i 95]at h1;rw[G2.i 128,G2.i 129,G2.i 130,G2.i 131,G2.h 132,G2.h 133,eu',w2,w3];have hRB:=sU (T:=46) p2 hR;refine⟨⟨q2.i 135,0,1,_,R,RG,bs,rfl,rfl,hRB,Zw _,hb,hlen,hK⟩,fun q3 g3 ⟨F,hp,_⟩=>?_⟩;have hp:=hp _ _ _ _ _ rfl rfl hRB;have hs:gF q3 136=fP bs:=by
    have hp:Value.agg (bK (gF q3 136)).toArray=.agg (bK (fP bs)).toArray:=hp;exact jy (ZW Array.toList (Value.agg.inj hp))
   have G:ah 134 ρ q3:=G2.tr g3;refine oN (b:=eQ (aL ρ 0) bs) rfl ?_ fun F=>BN hR rfl;rw[aaW];unfold eQ;rw[Zc,h92,DQ,<-hs,<-Bx G (by omega),Gj,<-h1,e130];simp only[bn,bj,aJ,aU,aR,bm,aZ,bh,bg,bd,aV,ba,bk,aX,aW,aK,aY,ai,aj,aB,aF,aD,ar,aG,aQ,aP,aq,aI,az,aH,av,Zy,Nat.reduceAdd]
  .rw[g1.i 130,g1.i 95]at h1;refine oN (b:=eQ (aL ρ 0) bs) rfl ?_ fun F=>BN hR rfl;unfold eQ;rw[h92,<-e130,dq];simp [h1]
def GC:Sx.Spec where
 fn:=180
 own:=[]
 rd:=[100]
 res:=[.one .sl]
 pre:=fun xs Hs Rs=>∃ (v:Value) (T:List (List Int)) (R:Hl),xs=[v]/\Rs=[R]/\bO R v oG (T.map bK)/\(∀ t∈T,t.length=16)/\T.length<=1000000
 post:=fun xs Hs Rs u Hs' F=>∃ (v:Value) (T:List (List Int)) (R:Hl),xs=[v]/\Rs=[R]/\bO R v oG (T.map bK)/\bO F u oG (T.map bK)
def M4:Nd:=(fun b c=>(fun a=>(.and (.imp c (.post [.ro 4 [.var 0] false] (.sv (.one (.sl (.lit (-1)) b b b))))) (.imp (.not c) (.ext (.alloc 5) (.and (.pre a) (.ext a (.post [.ro 4 [.var 0] false,.hp 6 [] [.var 6,.var 5] []] (.sv (.one (.sl (.var 6) b (.var 2) (.var 7))))))))):Nd)) (.app 6 61 16 16 (.sl (.var 5) b b b) b (.bD 5 [] 61) (.seg 4 (.var 0) (.var 1) (.var 2)))) (.lit 0) (.eq (.var 0) (.lit (-1)))
def M5:bU Tryz.prog [] GC.fn where
 Λ:=aM
 args:=[.sv (.one (.sl (.var 0) (.var 1) (.var 2) (.var 3)))]
 mem:=[.ro 4 [.var 0] false]
 nv:=5
 nd:=M4
 ok:=by kernel_rfl
theorem RP (F:Hl) (e:TypeId) (size:Nat) {a:Int} (h:0<=a) (hF:F=Hl.one a.toNat (.cells #[] e (0,0))):bE F e size (.slice (aA a 0) (Int.toNat 0) (Int.toNat 0)) (Int.toNat 0) []:=by
 subst hF;refine⟨by simp,Or.inr ⟨a.toNat,0,#[],by rw[au h];rfl,Hl.bF _ _,by omega,by decide,by simp,by simp⟩⟩
theorem BH:∀ (n:Nat) (l:List Int),l.length=n->bS (bK l) (List.replicate n (Kd.int .u8))
 | 0,[],_=>trivial
 | n+1,z::l,h=>⟨by simp [bY],BH n l (by simpa using h)⟩
theorem RQ {R:Hl} {x y:Nat} {T:List (List Int)} (h16:∀ t∈T,t.length=16) (h:∀ (i:Nat) row,(T.map bK)[i]?=some row->bS row oG/\∀ j u,row[j]?=some u->R.cell x (y+i*oG.length+j)=some u) :
 cJ R x y (T.length*16)=(T.map bK).flatten/\∀ j,j<T.length*16->∃ v,R.cell x (y+j)=some v/\v.oneCell'=true:=by
 have lt16:oG.length=16:=rfl;have len:∀ r∈T.map bK,r.length=16:=fun r hr=>by
  obtain⟨t,ht,rfl⟩:=ZV.1 hr;rw[cP];exact h16 t ht
 have key:∀ j,j<T.length*16->∃ z,R.cell x (y+j)=some (.int .u8 z)/\(T.map bK).flatten[j]?=some (.int .u8 z):=by
  intro j hj;have hi:j/16<T.length:=by omega
  have e1:T[j/16]?=some T[j/16]:=Y8 hi;have hl:=h16 _ (aay hi);have e2:T[j/16][j%16]?=some (T[j/16][j%16]'(by omega)):=Y8 (by omega);have er:(T.map bK)[j/16]?=some (bK T[j/16]):=by rw[Zs,e1];rfl
  have eu:(bK T[j/16])[j%16]?=some (.int .u8 (T[j/16][j%16]'(by omega))):=by rw[ft,e2];rfl
  refine⟨T[j/16][j%16]'(by omega),?_,?_⟩
  rotate_left
  .have:=vV (n:=16) len er eu;rw[show j/16*16+j%16=j by omega]at this;exact this
  .have:=(h _ _ er).2 _ _ eu;rw[lt16,show y+j/16*16+j%16=y+j by omega]at this;exact this
 refine⟨?_,fun j hj=>?_⟩
 .unfold cJ;apply ZN;intro j;rw[Zs];rcases aaa j (T.length*16)with hj | hj
  .obtain⟨z,e1,e2⟩:=key j hj;rw[ZI hj,ZS,e1,e2];rfl
  .have hfl:(T.map bK).flatten.length=T.length*16:=by
    have:∀ (rows:List (List Value)),(∀ r∈rows,r.length=16)->rows.flatten.length=rows.length*16:=by
     intro rows
     induction rows with
     | nil=>intro _;rfl
     | cons r rows ih =>
      intro hl;rw[aar,Y9,ih fun r hr=>hl r (Zu _ hr),hl r (ZJ ..),Zd];omega
    rw[this _ len,ZD]
   rw[Zv (by simpa using hj),Zv (by omega)];rfl
 .obtain⟨z,e1,_⟩:=key j hj;exact⟨_,e1,rfl⟩
theorem O2:GC.OK Tryz.prog:=by
 refine Spec.bJ (Γ:=[]) (fun _ h=>by cases h) ?_;rintro xs Hs Rs hl1 hl2 ⟨v,T,R,rfl,rfl,hRd,h16,hT⟩;have e0:Hs=[]:=Za.1 hl1;subst e0;obtain⟨x,y,c,rfl,hy,hrows⟩:=id hRd;have hlm:(T.map bK).length=T.length:=ZD ..;refine⟨M5,bw [x,y,(T.map bK).length,c] false [Hl.none,Hl.none,Hl.none,Hl.none,R],fun _ _=>True,fun _ _=>0,?_,⟨?_,?_,?_,?_⟩,(fun _ h=>nomatch h),?_⟩
 .show [Value.slice (aA x y) (((T.map bK).length:Int)).toNat ((c:Int)).toNat]=_;rw[Y7,Y7]
 .intro r hr ho;simp [M5]at hr;subst hr;cases ho
 .intro r hr ho;simp [M5]at hr;subst hr;exact⟨R,by simp,Hl.le_refl _⟩
 .simp [M5]
 .intro r hr;simp [M5]at hr;subst hr;trivial
 .show Nd.holds _ _ _ M4;unfold M4;generalize hρ:bw [x,y,(T.map bK).length,c] false [Hl.none,Hl.none,Hl.none,Hl.none,R]=ρ;have v0:ρ.i 0=x:=by rw[<-hρ];rfl
  have v1:ρ.i 1=y:=by rw[<-hρ];rfl
  have v2:ρ.i 2=(T.map bK).length:=by rw[<-hρ];rfl
  have w4:ρ.h 4=R:=by rw[<-hρ];rfl
  simp only[Nd.holds,X.pre,X.rel,X.n,Src.ok,Src.len,Src.bG,Zy,Zm,ZG,Zx,Zp,Nat.reduceAdd,Zd,Zh,bn,bj,aJ,aU,aR,bm,aZ,bh,bg,bd,aV,ba,bk,aX,aW,aK,aY,ai,aj,aB,aF,aD,ar,aG,aQ,aP,aq,aI,az,aH,av,TV.ev,SV.ev,CV.ev,Zf,Zr,bx.hl];rw[v0];refine⟨fun hx=>?_,fun hx q1 g1 p1=>?_⟩
  .have hT0:T=[]:=by
    rcases hrows with h | ⟨h,_⟩
    .exact aaz.1 h
    .omega
   intro _;refine⟨[],[],rfl,rfl,⟨⟨fun k=>if k=0 then -1 else 0,fun _=>false,fun _=>.empty,fun _=>.tuple #[],fun _=>Hl.none⟩,rfl,?_,trivial⟩,_,T,R,rfl,rfl,hRd,?_⟩
   .exact⟨by decide,by decide,by decide,by decide⟩
   .subst hT0;exact⟨-1,0,0,rfl,Zw _,Or.inl rfl⟩
  .have hnil:=RP (Hl.one (q1.i 5).toNat (.cells #[] 61 (0,0))) 61 16 p1 rfl;rw[g1.i 0,v0,g1.i 1,v1,g1.i 2,v2,g1.h 4,w4];have hRd':=hRd;rw[hlm]at hRd';rw[Y7,hlm];have sA:cJ R x.toNat y.toNat (T.length*16)=(T.map bK).flatten/\((0<=x/\0<=y/\(0:Int)<=T.length/\∀ j,j<T.length*16->∃ v,R.cell x.toNat (y.toNat+j)=some v/\v.oneCell'=true)\/(T.length:Int)=0):=by
    rcases hrows with h | ⟨hx0,h⟩
    .have hT0:T=[]:=aaz.1 h;subst hT0;exact⟨rfl,Or.inr rfl⟩
    .obtain⟨s1,s2⟩:=RQ h16 h;exact⟨s1,Or.inl ⟨hx0,hy,by omega,s2⟩⟩
   refine⟨⟨⟨[],hnil⟩,Zw _,sA.2,by unfold maxLen;omega,by omega⟩,fun q2 g2 ⟨a1,a2,a3,_⟩=>?_⟩;have hx2:=a3 _ hnil;rw[sA.1,aax,show Int.toNat 0+T.length=T.length by omega]at hx2;intro _;have P2:ah 5 ρ q2:=g1.tr g2;have hO:uw (q2.h 6) 61 oG (.slice (aA (q2.i 6) 0) T.length (q2.i 7).toNat) (T.map bK):=by
    refine⟨fun row hr=>?_,?_⟩
    .obtain⟨t,ht,rfl⟩:=ZV.1 hr;exact BH 16 t (h16 t ht)
    .rw[hlm];exact hx2
   have er:TV.ev q2 (.sv (.one (.sl (.var 6) (.lit 0) (.var 2) (.var 7))))=.slice (aA (q2.i 6) 0) T.length (q2.i 7).toNat:=by
    show Value.slice (aA (q2.i 6) 0) (q2.i 2).toNat (q2.i 7).toNat=_;rw[P2.i 2,v2,hlm,Y7]
   refine⟨[],[1],rfl,rfl,⟨⟨fun k=>match k with | 0=>q2.i 6 | 1=>0 | 2=>T.length | _=>q2.i 7,fun _=>false,fun _=>.empty,fun _=>.tuple #[],fun _=>Hl.none⟩,?_,?_,trivial⟩,_,T,R,rfl,rfl,hRd',?_⟩
   .rw[er];show _=Value.slice (aA (q2.i 6) 0) ((T.length:Int)).toNat (q2.i 7).toNat;rw[Y7]
   .exact⟨a1,Zw 0,by show(0:Int)<=T.length;omega,a2⟩
   .rw[er];show bO (dC [q2.h 6]) _ _ _;rw[bz];exact hO.rd
theorem zA:∀ {l:List Value} {ks:List Kd} {v:Value} {j:Nat} {k:Kd},bS l ks->ks[j]?=some k->bY (some v) k=true->bS (l.set j v) ks
 | [],_,_,_,_,h,_,_=>h
 | _::_,[],_,_,_,h,_,_=>h.elim
 | a::l,k0::ks,v,0,k,h,hk,hv=>by
  simp only[Z6,Zj]at hk;subst hk;exact⟨hv,h.2⟩
 | a::l,k0::ks,v,j+1,k,h,hk,hv=>⟨h.1,zA h.2 (by simpa using hk) hv⟩
theorem cN.clone {A B:Hl} {row:List Value} {h:Hd} (x:cN A row h) {u:Value} (hu:bO B u oG (h.t.map bK)):cN B (row.set 53 u) h:=by
 have hl:=iy x.ok;have h125:dQ.length=125:=rfl;refine⟨zA x.ok (k:=.slice) rfl ?_,?_,?_,?_,x.byte⟩
 .obtain⟨a,y,c,e,_⟩:=hu;rw[e];rfl
 .intro v hv;rcases aaS hv with h | h
  .exact x.rng v h
  .obtain⟨a,y,c,e,_⟩:=hu;rw[h,e];trivial
 .rw[List.set_set];exact x.core
 .rw[Zt,aag (by omega)];exact hu
def ED:Sx.Spec where
 fn:=150
 own:=[]
 rd:=[10053]
 res:=[.agg cX]
 pre:=fun xs Hs Rs=>∃ row R h,xs=[.agg row.toArray]/\Rs=[R]/\cN R row h
 post:=fun xs Hs Rs v Hs' F=>∀ row R h,xs=[.agg row.toArray]->Rs=[R]->cN R row h->∃ row',v=.agg row'.toArray/\cN F row' h
def KS:Nd:=(fun a b=>(.ext (.alloc 131) (.ext (.alloc 132) (.and (.pre a) (.ext a (.post [.ro 130 [.var 53] true,.dead,.dead,.hp 133 [] [.var 133] []] (.sv (.agg (al 0 ([Ck.int .i64,Ck.int .u64]++List.replicate 32 b++[Ck.int .i64,Ck.bool,Ck.int .u64]++List.replicate 16 b)++[.sl (.var 133) (.var 134) (.var 135) (.var 136)]++al 57 (List.replicate 6 (Ck.int .u64)++List.replicate 32 b++[Ck.int .i64]++List.replicate 32 b)))))))):Nd)) (.call 0 133 [.sv (.one (.sl (.var 53) (.var 54) (.var 55) (.var 56)))] [] [.ro 130 [.var 53] true]) (Ck.int .u8)
def SK:bU Tryz.prog [GC] ED.fn where
 Λ:=aM
 args:=(bf 0 [.agg cX]).map .sv
 mem:=[.ro 130 [.var 53] true]
 nv:=131
 nd:=KS
 ok:=by kernel_rfl
theorem UX:[GC][0]?=some GC:=rfl
theorem UY:GC.res=[.one .sl]:=rfl
theorem Qq:(br 0 [Cp.one .sl]≠[])=True:=by simp [br,Cp.roots,Ck.root]
set_option maxRecDepth 20000 in
theorem Ln (q:Env) (n:Nat):(TV.sv (.agg (al 0 ([Ck.int .i64,Ck.int .u64]++List.replicate 32 (Ck.int .u8)++[Ck.int .i64,Ck.bool,Ck.int .u64]++List.replicate 16 (Ck.int .u8))++[.sl (.var n) (.var (n+1)) (.var (n+2)) (.var (n+3))]++al 57 (List.replicate 6 (Ck.int .u64)++List.replicate 32 (Ck.int .u8)++[Ck.int .i64]++List.replicate 32 (Ck.int .u8))))).ev q=.agg ((aL q 0).set 53 (.slice (aA (q.i n) (q.i (n+1))) (q.i (n+2)).toNat (q.i (n+3)).toNat)).toArray:=rfl
set_option maxRecDepth 20000 in
theorem G0:ED.OK Tryz.prog:=by
 refine Spec.bJ (Γ:=[GC]) (fun t ht=>by rw[Zn]at ht;subst ht;exact O2) ?_;rintro xs Hs Rs hl1 hl2 ⟨row,R,h,rfl,rfl,hx⟩;have e0:Hs=[]:=Za.1 hl1;subst e0;obtain⟨ρ,rfl,w130,hnw,n54,n55,n56⟩:=kE (R:=R) hx.ok;refine⟨SK,ρ,fun _ _=>True,fun _ _=>0,?_,dB (by intro r hr;simp [SK]at hr;subst hr;exact⟨_,_,_,rfl⟩) (by show [ρ.h 130]=_;rw[w130]),(fun _ h=>nomatch h),?_⟩
 .rfl
 .show Nd.holds _ _ _ KS;unfold KS;simp only[Nd.holds,X.pre,X.rel,X.n,Src.ok,Src.len,Src.bG,Zy,Zm,ZG,Zx,Zp,Nat.reduceAdd,Zd,Zh,bn,bj,aJ,aU,aR,bm,aZ,bh,bg,bd,aV,ba,bk,aX,aW,aK,aY,ai,aj,aB,aF,aD,ar,aG,aQ,aP,aq,aI,az,aH,av,TV.ev,SV.ev,CV.ev,Zf,Zr,bx.hl,cu,Cp.sv,Ck.cv,bf,Cp.len,Ck.len,aE,aN,aT,UX,UY,Qq];have hT:bO R (.slice (aA (ρ.i 53) (ρ.i 54)) (ρ.i 55).toNat (ρ.i 56).toNat) oG (h.t.map bK):=hx.tok;intro q1 g1 _ q2 g2 _;have G2:ah 131 ρ q2:=g1.tr g2;rw[G2.i 53,G2.i 54,G2.i 55,G2.i 56,G2.h 130,w130];refine⟨⟨_,h.t,R,rfl,rfl,hT,fun t ht=>(hx.byte.2 t ht).1,hx.byte.1⟩,fun q3 g3 ⟨F,⟨v',T',R',e1,e2,hA,hF⟩,hF3,hn3⟩=>?_⟩;simp only[Ze,Zm]at e1 e2;subst e1 e2;have hF3:=hF3 trivial;have eT:T'=h.t:=iH (hA.uniq hT);subst eT;have G3:ah 131 ρ q3:=G2.tr g3;have hr3:aL q3 0=aL ρ 0:=cZ G3.mono;have hE:=hx.clone hF;obtain⟨⟨m0,m1,m2,m3⟩,_⟩:=hn3;intro _;refine⟨[],[3],rfl,rfl,⟨⟨fun k=>if 53<=k/\k<57 then q3.i (k+80)else q3.i k,q3.b,q3.s,q3.v,q3.h⟩,rfl,(tr8 (tr8 (tr8 (tr8 (tr8 (tr8 ⟨trivial,trivial,trivial,trivial,trivial,⟨m0,m1,m2,m3⟩,tr8 (tr8 (tr8 (tr8 (tr8 (tr8 (tr8 (tr8 ⟨trivial,trivial,trivial,trivial,trivial,trivial,trivial,trivial⟩)))))))⟩)))))),trivial⟩,fun row' R2 h' e3 e4 hx'=>?_⟩
  .simp only[Ze,Zm,Value.agg.injEq]at e3 e4;have e3:aL ρ 0=row':=ZW Array.toList e3;subst e3 e4;rw[hx'.uniq hx,Ln,hr3];refine⟨_,rfl,?_⟩;show cN (dC [q3.h 133]) _ _;rw[bz,hF3];exact hE
theorem gQ {a b:List Int} (h1:aS a) (h2:aS b):aS (a++b):=fun z hz=>(ZT.1 hz).elim (h1 z) (h2 z)
theorem kz (n:Nat):aS (ak n):=fun z hz=>zh n z hz
theorem PZ (b:Bool):aS (fh b):=by
 intro z hz;unfold fh at hz;rw[Zn]at hz;subst hz;cases b<;>simp
theorem P0 {T:List (List Int)} (h:∀ t∈T,aS t):aS T.flatten:=by
 intro z hz;obtain⟨t,ht,hz⟩:=abE.1 hz;exact h t ht z hz
theorem GR {R:Hl} {row:List Value} {h:Hd} (hx:cN R row h) {a n:Nat} (hk:∀ j,j<n->dQ[a+j]?=some (.int .u8)) (h53:∀ j,j<n->a+j≠53):aS (bL h.c a n):=by
 intro z hz;obtain⟨j,hj,rfl⟩:=ZV.1 hz;have hj:=ZQ.1 hj;rw[hx.I (h53 j hj)];obtain⟨v,hv,hi⟩:=ic hx.ok (hk j hj);have hr:=hx.rng v (Zb hv);unfold cI;rw[hv];cases v<;>simp [bY]at hi
 subst hi;exact hr
theorem UI {R:Hl} {row:List Value} {h:Hd} (hx:cN R row h):aS (Kh h):=by
 have s1:=GR hx (a:=2) (n:=32) (by decide) (by omega);have s2:=GR hx (a:=37) (n:=16) (by decide) (by omega);have s3:=GR hx (a:=60) (n:=32) (by decide) (by omega);have s4:=GR hx (a:=93) (n:=32) (by decide) (by omega);unfold Kh lI pI bP;exact gQ (gQ (gQ (gQ (gQ (gQ (gQ (gQ (gQ (gQ (gQ (gQ (gQ (gQ (gQ (gQ (gQ (kz _) (kz _)) s1) (kz _)) (PZ _)) (kz _)) s2) (kz _)) (P0 fun t ht=>(hx.byte.2 t ht).2)) (kz _)) (kz _)) (kz _)) (kz _)) (kz _)) (kz _)) s3) (kz _)) s4
theorem Kr {R:Hl} {row:List Value} {h:Hd} (hx:cN R row h):aS (cj h)/\(cj h).length<=900000:=by
 unfold cj;split
 .rename_i hf;refine⟨UI hx,?_⟩;have:=qV hx hf.2.1;unfold Kh;rw[Y9,bC];omega
 .exact⟨fun z hz=>(by cases hz),aam _⟩
noncomputable def lU (h:Hd):List Int:=fP (cj h)
theorem CD {R G:Hl} {row:List Value} (h:bS row dQ):∃ q:Env,row=aL q 0/\q.h 130=R/\q.h 131=G/\ck 0 cX q:=by
 obtain⟨q,e,_,hn,_⟩:=kE (R:=R) h;exact⟨⟨q.i,q.b,q.s,q.v,fun k=>if k=130 then R else if k=131 then G else Hl.none⟩,e,rfl,rfl,hn⟩
noncomputable def SN:Sx.Spec where
 fn:=172
 own:=[]
 rd:=[10053,2000005]
 res:=[.agg (List.replicate 32 (Ck.int .u8))]
 pre:=fun xs Hs Rs=>∃ row R RG h,xs=[.agg row.toArray]/\Rs=[R,RG]/\cN R row h/\uz RG 5
 post:=fun xs Hs Rs v Hs' F=>∀ row R RG h,xs=[.agg row.toArray]->Rs=[R,RG]->cN R row h->v=.agg (bK (lU h)).toArray
noncomputable def TD:Sx.Spec where
 fn:=142
 own:=[]
 rd:=[10053,2000003]
 res:=[.agg (List.replicate 32 (Ck.int .u8))]
 pre:=fun xs Hs Rs=>∃ row R RG h,xs=[.agg row.toArray]/\Rs=[R,RG]/\cN R row h/\uz RG 3
 post:=fun xs Hs Rs v Hs' F=>∀ row R RG h,xs=[.agg row.toArray]->Rs=[R,RG]->cN R row h->v=.agg (bK (lU h)).toArray
def Qv:Nd:=(fun a b=>(.ext (.alloc 132) (.ext (.alloc 133) (.and (.pre b) (.ext b (.ext (.alloc 138) (.and (.pre a) (.ext a (.post [.ro 130 [.var 53] true,.ro 131 [.lit 5] false,.dead,.dead,.hp 134 [] [.var 134] [],.dead] (.sv (.agg (al 139 (List.replicate 32 (Ck.int .u8)))))))))))):Nd)) (.call 1 139 [.sv (.one (.sl (.var 138) (.lit 0) (.lit 1) (.lit 1)))] [] [.bD 138 [.sl (.var 134) (.var 135) (.var 136) (.var 137)] 46,.hp 134 [] [.var 134] [],.ro 131 [.lit 5] false]) (.call 0 134 [.sv (.agg (al 0 cX))] [] [.ro 130 [.var 53] true])
def Rn:Nd:=(fun a b=>(.ext (.alloc 132) (.ext (.alloc 133) (.and (.pre b) (.ext b (.and (.pre a) (.ext a (.post [.ro 130 [.var 53] true,.ro 131 [.lit 3] false,.dead,.dead,.hp 134 [] [.var 134] []] (.sv (.agg (al 138 (List.replicate 32 (Ck.int .u8))))))))))):Nd)) (.call 1 138 [.sv (.one (.sl (.var 134) (.var 135) (.var 136) (.var 137)))] [] [.hp 134 [] [.var 134] [],.ro 131 [.lit 3] false]) (.call 0 134 [.sv (.agg (al 0 cX))] [] [.ro 130 [.var 53] true])
noncomputable def R4:List Sx.Spec:=[dt 146,rj]
noncomputable def Sk:List Sx.Spec:=[dt 71,iz]
theorem Qx:∀ t∈R4,t.OK Tryz.prog:=fun t ht=>by
 simp only[R4,Zl,Zq,ZO]at ht;rcases ht with rfl | rfl
 .exact Cq
 .exact CF
theorem Rp:∀ t∈Sk,t.OK Tryz.prog:=fun t ht=>by
 simp only[Sk,Zl,Zq,ZO]at ht;rcases ht with rfl | rfl
 .exact xo
 .exact xI
theorem U0:R4[0]?=some (dt 146):=rfl
theorem U1:R4[1]?=some rj:=rfl
theorem VW:Sk[0]?=some (dt 71):=rfl
theorem VX:Sk[1]?=some iz:=rfl
theorem SO (f:FuncId):(dt f).res=[.one .sl]:=rfl
noncomputable def XJ:bU Tryz.prog R4 SN.fn where
 Λ:=aM
 args:=(bf 0 [.agg cX]).map .sv
 mem:=[.ro 130 [.var 53] true,.ro 131 [.lit 5] false]
 nv:=132
 nd:=Qv
 ok:=by kernel_rfl
noncomputable def XW:bU Tryz.prog Sk TD.fn where
 Λ:=aM
 args:=(bf 0 [.agg cX]).map .sv
 mem:=[.ro 130 [.var 53] true,.ro 131 [.lit 3] false]
 nv:=132
 nd:=Rn
 ok:=by kernel_rfl
theorem DX {s:Sx.Spec} {xs:List Value} {Rs:List Hl} {q:Env} {mem:Mem} {n:Nat} {bs:List Int} (hr:s.res=[.agg (List.replicate 32 (Ck.int .u8))]) (he:Value.agg (List.map (CV.ev q) (al n (List.replicate 32 (Ck.int .u8)))).toArray=.agg (bK bs).toArray) (hl:bs.length=32) (h:∀ F,s.post xs [] Rs (.agg (bK bs).toArray) [] F):postOf s xs [] Rs q mem (.sv (.agg (al n (List.replicate 32 (Ck.int .u8))))):=by
 intro _;obtain⟨ρ2,_,hn2,e2⟩:=dI (List.replicate 32 (Ck.int .u8)) 0 (bK bs) q (m9 32 _ hl);refine⟨[],[],rfl,rfl,⟨ρ2,?_,?_⟩,?_⟩
 .rw[hr];show Value.agg (List.map (CV.ev q) (al n (List.replicate 32 (Ck.int .u8)))).toArray=Value.agg ((al 0 (List.replicate 32 (Ck.int .u8))).map (CV.ev ρ2)).toArray;rw[he,e2]
 .rw[hr];exact⟨(tr8 (tr8 (tr8 (tr8 trivial)))),trivial⟩
 .have:=h (uu q mem []);rw[<-he]at this;exact this
theorem Ro:TD.OK Tryz.prog:=by
 refine Spec.bJ (Γ:=Sk) Rp ?_;rintro xs Hs Rs hl1 hl2 ⟨row,R,RG,h,rfl,rfl,hx,hK⟩;have e0:Hs=[]:=Za.1 hl1;subst e0;obtain⟨ρ,rfl,w130,w131,hnw⟩:=CD (R:=R) (G:=RG) hx.ok;refine⟨XW,ρ,fun _ _=>True,fun _ _=>0,?_,dB (by intro r hr;simp [XW]at hr;rcases hr with rfl | rfl<;>exact⟨_,_,_,rfl⟩) (by show [ρ.h 130,ρ.h 131]=_;rw[w130,w131]),(fun _ h=>nomatch h),?_⟩
 .rfl
 .show Nd.holds _ _ _ Rn;unfold Rn;simp only[Nd.holds,X.pre,X.rel,X.n,Src.ok,Src.len,Src.bG,Zy,Zm,ZG,Zx,Zp,Nat.reduceAdd,Zd,Zh,bn,bj,aJ,aU,aR,bm,aZ,bh,bg,bd,aV,ba,bk,aX,aW,aK,aY,ai,aj,aB,aF,aD,ar,aG,aQ,aP,aq,aI,az,aH,av,TV.ev,SV.ev,CV.ev,Zf,Zr,bx.hl,cu,Cp.sv,Ck.cv,bf,Cp.len,Ck.len,aE,aN,aT,VW,SO,VX,T4,Qq];intro q1 g1 _ q2 g2 _;have G2:ah 132 ρ q2:=g1.tr g2;have er:aL q2 0=aL ρ 0:=cZ G2.mono;have er:List.map (CV.ev q2) (al 0 cX)=aL ρ 0:=er;rw[er,G2.h 130,w130];refine⟨⟨_,R,h,rfl,rfl,hx⟩,fun q3 g3 ⟨F,hp,hF,_⟩=>?_⟩;have hF:=hF trivial;have hB:=mz hx hp;have G3:ah 132 ρ q3:=G2.tr g3;rw[hF,G3.h 131,w131];have hR:=hB.rd.w;have hb:=Kr hx;refine⟨⟨_,cj h,F,RG,rfl,rfl,hR,hb.1,hb.2,hK⟩,fun q4 g4 ⟨F4,hp4,_⟩=>?_⟩;have hp4:=hp4 _ _ _ _ rfl rfl hR;refine DX rfl hp4 (fE _) fun F5 row' R' RG' h' e1 e2 hx'=>?_;simp only[Ze,Zm,Value.agg.injEq]at e1 e2;have e1:aL ρ 0=row':=ZW Array.toList e1;obtain⟨e2,_⟩:=e2;subst e1 e2;rw[hx'.uniq hx];rfl
theorem Qw:SN.OK Tryz.prog:=by
 refine Spec.bJ (Γ:=R4) Qx ?_;rintro xs Hs Rs hl1 hl2 ⟨row,R,RG,h,rfl,rfl,hx,hK⟩;have e0:Hs=[]:=Za.1 hl1;subst e0;obtain⟨ρ,rfl,w130,w131,hnw⟩:=CD (R:=R) (G:=RG) hx.ok;refine⟨XJ,ρ,fun _ _=>True,fun _ _=>0,?_,dB (by intro r hr;simp [XJ]at hr;rcases hr with rfl | rfl<;>exact⟨_,_,_,rfl⟩) (by show [ρ.h 130,ρ.h 131]=_;rw[w130,w131]),(fun _ h=>nomatch h),?_⟩
 .rfl
 .show Nd.holds _ _ _ Qv;unfold Qv;simp only[Nd.holds,X.pre,X.rel,X.n,Src.ok,Src.len,Src.bG,Zy,Zm,ZG,Zx,Zp,Nat.reduceAdd,Zd,Zh,bn,bj,aJ,aU,aR,bm,aZ,bh,bg,bd,aV,ba,bk,aX,aW,aK,aY,ai,aj,aB,aF,aD,ar,aG,aQ,aP,aq,aI,az,aH,av,TV.ev,SV.ev,CV.ev,Zf,Zr,bx.hl,cu,Cp.sv,Ck.cv,bf,Cp.len,Ck.len,aE,aN,aT,U0,SO,U1,T3,Qq];intro q1 g1 _ q2 g2 _;have G2:ah 132 ρ q2:=g1.tr g2;have er:aL q2 0=aL ρ 0:=cZ G2.mono;have er:List.map (CV.ev q2) (al 0 cX)=aL ρ 0:=er;rw[er,G2.h 130,w130];refine⟨⟨_,R,h,rfl,rfl,hx⟩,fun q3 g3 ⟨F,hp,hF,_⟩ q4 g4 p4=>?_⟩;have hF:=hF trivial;have hB:=mz hx hp;have G4:ah 132 ρ q4:=G2.trans (g3.mono.tr g4);rw[G4.h 131,w131,g4.h 134,hF,g4.i 134,g4.i 135,g4.i 136,g4.i 137];have hR:=sU (T:=46) p4 hB.rd.w;have hb:=Kr hx;refine⟨⟨q4.i 138,0,1,_,F,RG,cj h,rfl,rfl,hR,Zw _,hb.1,hb.2,hK⟩,fun q5 g5 ⟨F5,hp5,_⟩=>?_⟩;have hp5:=hp5 _ _ _ _ _ rfl rfl hR;refine DX rfl hp5 (fE _) fun F6 row' R' RG' h' e1 e2 hx'=>?_;simp only[Ze,Zm,Value.agg.injEq]at e1 e2;have e1:aL ρ 0=row':=ZW Array.toList e1;obtain⟨e2,_⟩:=e2;subst e1 e2;rw[hx'.uniq hx];rfl
def fu (R:Hl) (rows:List (List Value)) (hs:List Hd):Prop:=rows.length=hs.length/\∀ (i:Nat) row h,rows[i]?=some row->hs[i]?=some h->cN R row h
theorem fu.nil (R:Hl):fu R [] []:=⟨rfl,fun i row h hr=>by simp at hr⟩
theorem fu.snoc {R:Hl} {rows:List (List Value)} {hs:List Hd} {row:List Value} {h:Hd} (a:fu R rows hs) (x:cN R row h):fu R (rows++[row]) (hs++[h]):=by
 refine⟨by rw[Y9,Y9,a.1];rfl,fun i r g hr hg=>?_⟩;rcases aaa i rows.length with hi | hi
 .rw[ZH hi]at hr;rw[ZH (by rw[<-a.1];exact hi)]at hg;exact a.2 i r g hr hg
 .rw[Zz hi]at hr;rw[Zz (by rw[<-a.1];exact hi),<-a.1]at hg;have e:i-rows.length=0:=by
   have:=(Zi.1 hr).1;simpa using this
  rw[e]at hr hg;have hr:row=r:=by simpa using hr
  have hg:h=g:=by simpa using hg
  subst hr;subst hg;exact x
theorem fu.mono {R R':Hl} {rows:List (List Value)} {hs:List Hd} (a:fu R rows hs) (hl:R.le R'):fu R' rows hs:=⟨a.1,fun i row h hr hh=>(a.2 i row h hr hh).mono hl⟩
theorem fu.uniq {R:Hl} {rows:List (List Value)} {hs hs':List Hd} (a:fu R rows hs) (b:fu R rows hs'):hs=hs':=by
 apply aaL (by rw[<-a.1,<-b.1]);intro i h1 h2;have hr:rows[i]?=some (rows[i]'(by rw[a.1];exact h1)):=Y8 _;exact(a.2 i _ _ hr (Y8 h1)).uniq (b.2 i _ _ hr (Y8 h2))
noncomputable def iE (hs:List Hd):List Int:=match hs.getLast? with
 | none=>List.replicate 32 0
 | some h=>lU h
theorem oF (hs:List Hd):(iE hs).length=32:=by
 unfold iE;split
 .rfl
 .exact fE _
def gJ (K:Hl) (a:Nat) (w:Int) (hs:List Hd):Prop:=∃ (x:Int) (c:Nat) (rows:List (List Value)),
 K a=some (.cells (([.int .i64 w,.slice (aA x 0) hs.length c]:List Value)++bK (iE hs)).toArray 237 (0,0)) /\
 uw K 65 dQ (.slice (aA x 0) hs.length c) rows/\fu K rows hs/\ -1<=x /\
 ∃ KT,KT.le K/\fu KT rows hs/\¬KT.mem a/\∀ b:Nat,x=b->¬KT.mem b
def c9 (R:Hl) (a:Nat) (w:Int) (hs:List Hd):Prop:=∃ K,K.le R/\gJ K a w hs
theorem lY {s:Sx.Spec} {xs:List Value} {Rs:List Hl} {q:Env} {mem:Mem} {e:E} {k:IntKind} {z:Int} (hr:s.res=[.one (.int k)]) (he:aC q e=z) (h:∀ F,s.post xs [] Rs (.int k z) [] F):postOf s xs [] Rs q mem (.sv (.one (.int k e))):=by
 intro _;refine⟨[],[],rfl,rfl,⟨⟨fun _=>z,fun _=>false,fun _=>.empty,fun _=>.tuple #[],fun _=>Hl.none⟩,?_,?_⟩,?_⟩
 .rw[hr,<-he];rfl
 .rw[hr];exact⟨trivial,trivial⟩
 .have:=h (uu q mem []);rw[<-he]at this;exact this
def pL:Sx.Spec where
 fn:=107
 own:=[]
 rd:=[0]
 res:=[.one (.int .u64)]
 pre:=fun xs Hs Rs=>∃ a R w hs,xs=[.pointer (some ⟨a,0,none⟩)]/\Rs=[R]/\c9 R a w hs
 post:=fun xs Hs Rs v Hs' F=>∀ a R w hs,xs=[.pointer (some ⟨a,0,none⟩)]->Rs=[R]->c9 R a w hs->v=.int .u64 (IntKind.u64.wrap hs.length)
def EW:Nd:=.and (.e (.le (.lit 0) (.var 0))) (.and (.e (.his 1 (.var 0) (.lit 1) 0 .slice)) (.and (.e (.le (.lit 0) (.hP 1 (.var 0) (.lit 1) 0 2))) (.post [.ro 1 [.var 0] false] (.sv (.one (.int .u64 (.wrap .u64 (.hP 1 (.var 0) (.lit 1) 0 2))))))))
def Pm:bU Tryz.prog [] pL.fn where
 Λ:=aM
 args:=[TP (.var 0) (.lit 0)]
 mem:=[.ro 1 [.var 0] false]
 nv:=2
 nd:=EW
 ok:=by kernel_rfl
theorem c9.sl {R:Hl} {a:Nat} {w:Int} {hs:List Hd} (h:c9 R a w hs):∃ (x:Int) (c:Nat),-1<=x/\R.cell a 0=some (.int .i64 w)/\R.cell a 1=some (.slice (aA x 0) hs.length c):=by
 obtain⟨K,hl,x,c,rows,hK,_,_,hx,_⟩:=h;have hR:=hl _ _ hK;exact⟨x,c,hx,by simp [Hl.cell,hR],by simp [Hl.cell,hR]⟩
theorem we:pL.OK Tryz.prog:=by
 refine Spec.bJ (Γ:=[]) (fun _ h=>by cases h) ?_;rintro xs Hs Rs hl1 hl2 ⟨a,R,w,hs,rfl,rfl,hc⟩;have e0:Hs=[]:=Za.1 hl1;subst e0;obtain⟨x,c,hx,c0,c1⟩:=hc.sl;refine⟨Pm,bw [a] false [Hl.none,R],fun _ _=>True,fun _ _=>0,?_,dB (by intro r hr;simp [Pm]at hr;subst hr;exact⟨_,_,_,rfl⟩) rfl,(fun _ h=>nomatch h),?_⟩
 .show [Value.pointer (aA (a:Int) 0)]=_;rw[au (by omega)];rfl
 .show Nd.holds _ _ _ EW;unfold EW;generalize hρ:bw [(a:Int)] false [Hl.none,R]=ρ;have v0:ρ.i 0=a:=by rw[<-hρ];rfl
  have w1:ρ.h 1=R:=by rw[<-hρ];rfl
  simp only[Nd.holds,X.pre,X.rel,X.n,Src.ok,Src.len,Src.bG,Zy,Zm,ZG,Zx,Zp,Nat.reduceAdd,Zd,Zh,bn,bj,aJ,aU,aR,bm,aZ,bh,bg,bd,aV,ba,bk,aX,aW,aK,aY,ai,aj,aB,aF,aD,ar,aG,aQ,aP,aq,aI,az,aH,av,TV.ev,SV.ev,CV.ev,Zf,Zr,bx.hl];rw[v0,w1];have e1:R.cell ((a:Int)).toNat (Int.toNat 1)=some (.slice (aA x 0) hs.length c):=by rw[Y7];exact c1
  have e2:bM (some (Value.slice (aA x 0) hs.length c)) 2=hs.length:=by
   cases aA x 0 with
   | none=>rfl
   | some b=>obtain⟨b,o,s⟩:=b;cases s<;>rfl
  rw[e1,e2];refine⟨by omega,rfl,by omega,lY rfl (z:=IntKind.u64.wrap hs.length) ?_ fun F a' R' w' hs' h1 h2 h'=>?_⟩
  .show IntKind.u64.wrap (bM ((ρ.h 1).cell (ρ.i 0).toNat (Int.toNat 1+0)) 2)=_;rw[v0,w1,Zp,e1,e2]
  .simp only[Ze,Zm,Value.pointer.injEq,Zj,Addr.mk.injEq]at h1 h2;subst h1 h2;obtain⟨x',c',_,_,c1'⟩:=h'.sl;rw[c1]at c1';simp only[Zj,Value.slice.injEq]at c1';rw[c1'.2.1]
def zU:Sx.Spec where
 fn:=136
 own:=[]
 rd:=[]
 res:=[.one .ptr]
 pre:=fun xs Hs Rs=>∃ w,xs=[.int .i64 w]
 post:=fun xs Hs Rs v Hs' F=>∀ w,xs=[.int .i64 w]->∃ b:Nat,v=.pointer (some ⟨b,0,none⟩)/\gJ F b w []
def GN:Nd:=.ext (.alloc 1) (.post [.bD 1 ([.int .i64 (.var 0),.sl (.lit (-1)) (.lit 0) (.lit 0) (.lit 0)]++List.replicate 32 (CV.int .u8 (.lit 0))) 237] (.sv (.one (.hptr (.var 1) (.lit 0)))))
def PN:bU Tryz.prog [] zU.fn where
 Λ:=aM
 args:=[TI .i64 (.var 0)]
 mem:=[]
 nv:=1
 nd:=GN
 ok:=by kernel_rfl
set_option maxRecDepth 20000 in
theorem Nb:zU.OK Tryz.prog:=by
 refine Spec.bJ (Γ:=[]) (fun _ h=>by cases h) ?_;rintro xs Hs Rs hl1 hl2 ⟨w,rfl⟩;have e0:Hs=[]:=Za.1 hl1;have e1:Rs=[]:=Za.1 hl2;subst e0 e1;refine⟨PN,bw [w] false [],fun _ _=>True,fun _ _=>0,rfl,dB (by intro r hr;simp [PN]at hr) rfl,(fun _ h=>nomatch h),?_⟩;show Nd.holds _ _ _ GN;unfold GN;generalize hρ:bw [w] false []=ρ;have v0:ρ.i 0=w:=by rw[<-hρ];rfl
 simp only[Nd.holds,X.pre,X.rel,X.n,Src.ok,Src.len,Src.bG,Zy,Zm,ZG,Zx,Zp,Nat.reduceAdd,Zd,Zh,bn,bj,aJ,aU,aR,bm,aZ,bh,bg,bd,aV,ba,bk,aX,aW,aK,aY,ai,aj,aB,aF,aD,ar,aG,aQ,aP,aq,aI,az,aH,av,TV.ev,SV.ev,CV.ev,Zf,Zr,bx.hl];intro q1 g1 p1 _;have v1:q1.i 0=w:=by rw[g1.i 0,v0]
 have p1:0<=q1.i 1:=p1;refine⟨[],[0],rfl,rfl,⟨⟨fun k=>if k=0 then q1.i 1 else 0,fun _=>false,fun _=>.empty,fun _=>.tuple #[],fun _=>Hl.none⟩,rfl,⟨by show -1<=q1.i 1;omega,Zw 0⟩,trivial⟩,fun w' e=>⟨(q1.i 1).toNat,?_,-1,0,[],?_,uw.nil _ _ _,fu.nil _,Zw _,Hl.none,(fun _ _ h=>by cases h),fu.nil _,(fun h=>by cases h),fun b h=>by omega⟩⟩
 .show Value.pointer (aA (q1.i 1) 0)=_;rw[au p1];rfl
 .simp only[Ze,Value.int.injEq,Zy,Zm]at e;subst e;show(dC [Hl.one (q1.i 1).toNat _]) _=_;rw[bz,Hl.bF,<-v1];rfl
def Ce:Sx.Spec where
 fn:=118
 own:=[]
 rd:=[0]
 res:=[.agg cX,.one .bool]
 pre:=fun xs Hs Rs=>∃ a R w hs n,xs=[.pointer (some ⟨a,0,none⟩),.int .u64 n]/\Rs=[R]/\c9 R a w hs/\(0<=n/\n<18446744073709551616)/\hs.length<1000000
 post:=fun xs Hs Rs v Hs' F=>∃ a R w hs n,xs=[.pointer (some ⟨a,0,none⟩),.int .u64 n]/\Rs=[R]/\c9 R a w hs /\
  ((1<=n/\n<=hs.length/\∃ row h,hs[(n-1).toNat]?=some h/\v=.tuple #[.agg row.toArray,.bool true]/\cN F row h)\/(¬(1<=n/\n<=hs.length)/\∃ u,v=.tuple #[u,.bool false]))
def KK:Nd:=(fun c k f g=>(fun j d l h=>(fun a i=>(fun b=>(.ext (.alloc 3) (.and (.imp (.not (.lt k f)) (.and (.pre h) (.ext h (.and (.imp (.lt (.var 4) k) a) (.imp (.not (.lt (.var 4) k)) (.and (.e (.le c g)) (.and (.e (.his 2 g f 0 .slice)) (.and (.e (.le c l)) (.and (.e (.le c (.hP 2 g f 0 1))) (.and (.e (.le c d)) (.and (.e (.lt d (.hP 2 g f 0 2))) (.and (.e (.hks 2 l i dQ)) (.and (.pre b) (.ext b (.post [.ro 2 [.var 0] true,.dead,.hp 5 [] [.var 58] []] (.tup [.agg (al 5 cX),.one (.bool .tt)])))))))))))))))) (.imp (.lt k f) a)):Nd)) (.call 1 5 [.sv (.agg (bo 2 l i 0 dQ))] [] [.ro 2 [.var 0] true])) (.post [.ro 2 [.var 0] true,.dead] (.tup [.agg ([.int .i64 c,.int .u64 c]++List.replicate 32 j++[.int .i64 c,.bool .ff,.int .u64 c]++List.replicate 16 j++[.sl (.lit (-1)) c c c,.int .u64 c,.int .u64 c,.int .u64 c,.int .u64 c,.int .u64 c,.int .u64 c]++List.replicate 32 j++[.int .i64 c]++List.replicate 32 j),.one (.bool .ff)])) (.add (.hP 2 g f 0 1) (.mul d (.lit 125)))) (CV.int .u8 c) (.wrap .u64 (.sub k f)) (.hP 2 g f 0 0) (.call 0 4 [.sv (.one (.hptr g c))] [] [.ro 2 [.var 0] true])) (.lit 0) (.var 1) (.lit 1) (.var 0)
def R0:List Sx.Spec:=[pL,ED]
theorem Qi:∀ t∈R0,t.OK Tryz.prog:=fun t ht=>by
 simp only[R0,Zl,Zq,ZO]at ht;rcases ht with rfl | rfl
 .exact we
 .exact G0
theorem UK:R0[0]?=some pL:=rfl
theorem UL:R0[1]?=some ED:=rfl
theorem Qh:pL.res=[.one (.int .u64)]:=rfl
theorem SF:ED.res=[.agg cX]:=rfl
set_option maxRecDepth 20000 in
theorem SE:(br 0 [Cp.agg cX]≠[])=True:=eq_true (by decide)
def SG:bU Tryz.prog R0 Ce.fn where
 Λ:=aM
 args:=[TP (.var 0) (.lit 0),.sv (.one (.int .u64 (.var 1)))]
 mem:=[.ro 2 [.var 0] true]
 nv:=3
 nd:=KK
 ok:=by kernel_rfl
set_option maxRecDepth 20000 in
theorem KL {a:Nat} {n w:Int} {R:Hl} {hs:List Hd} (hc:c9 R a w hs) (hno:¬(1<=n/\n<=hs.length)) {q:Env} {mem:Mem} : postOf Ce [.pointer (some ⟨a,0,none⟩),.int .u64 n] [] [R] q mem (.tup [.agg ([.int .i64 (.lit 0),.int .u64 (.lit 0)]++List.replicate 32 (CV.int .u8 (.lit 0))++[.int .i64 (.lit 0),.bool .ff,.int .u64 (.lit 0)]++List.replicate 16 (CV.int .u8 (.lit 0))++[.sl (.lit (-1)) (.lit 0) (.lit 0) (.lit 0),.int .u64 (.lit 0),.int .u64 (.lit 0),.int .u64 (.lit 0),.int .u64 (.lit 0),.int .u64 (.lit 0),.int .u64 (.lit 0)]++List.replicate 32 (CV.int .u8 (.lit 0))++[.int .i64 (.lit 0)]++List.replicate 32 (CV.int .u8 (.lit 0))),.one (.bool .ff)]):=by
 intro _;refine⟨[],[],rfl,rfl,⟨⟨fun k=>if k=53 then -1 else 0,fun _=>false,fun _=>.empty,fun _=>.tuple #[],fun _=>Hl.none⟩,rfl,(tr8 (tr8 (tr8 (tr8 (tr8 (tr8 ⟨trivial,trivial,trivial,trivial,trivial,⟨by decide,by decide,by decide,by decide⟩,tr8 (tr8 (tr8 (tr8 (tr8 (tr8 (tr8 (tr8 ⟨trivial,trivial,trivial,trivial,trivial,trivial,trivial,trivial⟩)))))))⟩)))))),trivial,trivial⟩,a,R,w,hs,n,rfl,rfl,hc,Or.inr ⟨hno,_,rfl⟩⟩
theorem iZ {a:Nat} {R:Hl} {w n:Int} {hs:List Hd} {Hs K:List Hl} {F:Hl} (hc:c9 R a w hs) (hl:hs.length<1000000) (hp:pL.post [.pointer (some ⟨a,0,none⟩)] Hs [R] (.int .u64 n) K F):n=hs.length:=by
 have:=hp _ _ _ _ rfl rfl hc;simp only[Value.int.injEq,Zy]at this;rw[this,IntKind.wrap_u64];omega
set_option maxRecDepth 20000 in
theorem GU:Ce.OK Tryz.prog:=by
 refine Spec.bJ (Γ:=R0) Qi ?_;rintro xs Hs Rs hl1 hl2 ⟨a,R,w,hs,n,rfl,rfl,hc,hn,hlen⟩;have e0:Hs=[]:=Za.1 hl1;subst e0;refine⟨SG,bw [a,n] false [Hl.none,Hl.none,R],fun _ _=>True,fun _ _=>0,?_,dB (by intro r hr;simp [SG]at hr;subst hr;exact⟨_,_,_,rfl⟩) rfl,(fun _ h=>nomatch h),?_⟩
 .show [Value.pointer (aA (a:Int) 0),.int .u64 n]=_;rw[au (by omega)];rfl
 .show Nd.holds _ _ _ KK;unfold KK;generalize hρ:bw [(a:Int),n] false [Hl.none,Hl.none,R]=ρ;simp only[Nd.holds,X.pre,X.rel,X.n,Src.ok,Src.len,Src.bG,Zy,Zm,ZG,Zx,Zp,Nat.reduceAdd,Zd,Zh,bn,bj,aJ,aU,aR,bm,aZ,bh,bg,bd,aV,ba,bk,aX,aW,aK,aY,ai,aj,aB,aF,aD,ar,aG,aQ,aP,aq,aI,az,aH,av,TV.ev,SV.ev,CV.ev,Zf,Zr,bx.hl,cu,Cp.sv,Ck.cv,bf,Cp.len,Ck.len,aE,aN,aT,UK,UL,Qh,SF,SE];have v0:ρ.i 0=a:=by rw[<-hρ];rfl
  have v1:ρ.i 1=n:=by rw[<-hρ];rfl
  have w2:ρ.h 2=R:=by rw[<-hρ];rfl
  intro q1 g1 _;have ep:Value.pointer (aA (a:Int) 0)=.pointer (some ⟨a,0,none⟩):=by rw[au (by omega)];rfl
  rw[g1.i 0,g1.i 1,g1.h 2,v0,v1,w2,ep];refine⟨fun h1=>⟨⟨a,R,w,hs,rfl,rfl,hc⟩,fun q2 g2 ⟨F,hp,_⟩=>?_⟩,fun h1=>KL hc (by omega)⟩;have e4:=iZ hc hlen hp;have G2:ah 3 ρ q2:=g1.tr g2;rw[e4,G2.i 0,G2.i 1,G2.h 2,v0,v1,w2];refine⟨fun h2=>KL hc (by omega),fun h2=>?_⟩;obtain⟨K,hl,x,c,rows,hK,hO,hA,hx,_⟩:=id hc;have c1:R.cell a 1=some (.slice (aA x 0) hs.length c):=by simp [Hl.cell,hl _ _ hK]
  have hr:bO R (.slice (aA x 0) ((hs.length:Int)).toNat ((c:Int)).toNat) dQ rows:=by rw[Y7,Y7];exact oj hO.rd hl
  obtain⟨el,hat⟩:=hr.at hx (Zw _) (by omega);have hlr:=hA.1;obtain⟨row,aL⟩:∃ row,rows[(n-1).toNat]?=some row:=⟨_,Y8 (by omega)⟩;obtain⟨h,hh⟩:∃ h,hs[(n-1).toNat]?=some h:=⟨_,Y8 (by omega)⟩;obtain⟨hx0,rok,cells⟩:=hat _ _ aL;have hI:=(hA.mono hl).2 _ _ _ aL hh;have hw:IntKind.u64.wrap (n-1)=n-1:=by rw[IntKind.wrap_u64];omega
  have e1:R.cell ((a:Int)).toNat (Int.toNat 1)=some (.slice (aA x 0) hs.length c):=by rw[Y7];exact c1
  have p0:bM (some (Value.slice (aA x 0) hs.length c)) 0=x:=by rw[au hx0];show((x.toNat:Nat):Int)=x;omega
  have p1:bM (some (Value.slice (aA x 0) hs.length c)) 1=0:=by rw[au hx0];rfl
  have p2:bM (some (Value.slice (aA x 0) hs.length c)) 2=hs.length:=by rw[au hx0];rfl
  have cells':∀ j u,row[j]?=some u->R.cell x.toNat ((0+(n-1)*125).toNat+j)=some u:=fun j u hu=>by
   have:=cells j u hu;have e:(0:Int).toNat+(n-1).toNat*dQ.length+j=(0+(n-1)*125).toNat+j:=by
    rw[show dQ.length=125 from rfl];omega
   rw[e]at this;exact this
  have eR:List.map (CV.ev q2) (bo 2 (E.hP 2 (E.var 0) (E.lit 1) 0 0) ((E.hP 2 (E.var 0) (E.lit 1) 0 1).add ((E.wrap IntKind.u64 ((E.var 1).sub (E.lit 1))).mul (E.lit 125))) 0 dQ)=row:=by
   refine fj row dQ 0 rok fun i u hu=>?_;have:=cells' i u hu;simp only[aP,aB,aD,ar,aF,aj,ai,G2.i 0 (by omega:0<3),G2.i 1 (by omega:1<3),G2.h 2 (by omega:2<3),v0,v1,w2,Zp,ZM];rw[e1,p0,p1,hw];exact this
  rw[eR,e1,p0,p1,p2,hw];refine⟨by omega,rfl,hx0,Zw _,by omega,by omega,ke _ rok cells',⟨row,R,h,rfl,rfl,hI⟩,fun q3 g3 ⟨F3,hp3,hF3,hn3⟩=>?_⟩;obtain⟨row',er,hI'⟩:=hp3 _ _ _ rfl rfl hI;intro _;refine⟨[],[2],rfl,rfl,?_,a,R,w,hs,n,rfl,rfl,hc,Or.inl ⟨by omega,by omega,row',h,hh,?_,?_⟩⟩
  .obtain⟨m0,m1,m2,m3⟩:=hn3.1.2.2.2.2.2.2.2.2.2.2.2.2.2.2.2.2.2.2.2.2.2.2.2.2.2.2.2.2.2.2.2.2.2.2.2.2.2.2.2.2.2.2.2.2.2.2.2.2.2.2.2.2.2.1;exact⟨⟨fun k=>q3.i (k+5),fun k=>if k=128 then true else q3.b (k+5),q3.s,q3.v,q3.h⟩,rfl,(tr8 (tr8 (tr8 (tr8 (tr8 (tr8 ⟨trivial,trivial,trivial,trivial,trivial,⟨m0,m1,m2,m3⟩,tr8 (tr8 (tr8 (tr8 (tr8 (tr8 (tr8 (tr8 ⟨trivial,trivial,trivial,trivial,trivial,trivial,trivial,trivial⟩)))))))⟩)))))),trivial,trivial⟩
  .show Value.tuple #[.agg (List.map (CV.ev q3) (al 5 cX)).toArray,.bool true]=_;rw[er]
  .show cN (dC [q3.h 5]) _ _;rw[bz,hF3 trivial];exact hI'
def eqs (f g:Nat->Int):Nat->Nat->Prop
 | _,0=>True
 | n,1=>f n=g n
 | n,k+2=>f n=g n/\eqs f g (n+1) (k+1)
theorem Hk {f g:Nat->Int} : ∀ (k n:Nat),eqs f g n k↔∀ j,j<k->f (n+j)=g (n+j)
 | 0,n=>⟨fun _ j h=>(by omega),fun _=>trivial⟩
 | 1,n=>⟨fun h j hj=>(by cases j with
  | zero=>exact h
  | succ j=>omega),fun h=>h 0 (by omega)⟩
 | k+2,n=>by
  show(f n=g n/\eqs f g (n+1) (k+1))↔_;rw[Hk (k+1) (n+1)];constructor
  .rintro⟨h0,h⟩ j hj;cases j with
   | zero=>exact h0
   | succ j=>have:=h j (by omega);rwa[show n+1+j=n+(j+1)by omega]at this
  .exact fun h=>⟨h 0 (by omega),fun j hj=>by have:=h (j+1) (by omega);rwa[show n+(j+1)=n+1+j by omega]at this⟩
theorem NN {f g:Nat->Int} {s t:List Int} (hs:s.length=16) (ht:t.length=16) (hf:∀ j,j<16->f j=s.getD j 0) (hg:∀ j,j<16->g j=t.getD j 0):eqs f g 0 16↔s=t:=by
 rw[Hk];constructor
 .intro h;apply ZN;intro j;by_cases hj:j<16
  .have e:=h j hj;rw[ZM,hf j hj,hg j hj,Zt,Zt,Y8 (by omega),Y8 (by omega)]at e;rw[Y8 (by omega),Y8 (by omega)];exact ZW some e
  .rw[Zv (by omega),Zv (by omega)]
 .rintro rfl j hj;rw[ZM,hf j hj,hg j hj]
open Classical in
noncomputable def equalS:Sx.Spec where
 fn:=193
 own:=[]
 rd:=[0,1]
 res:=[.one .bool]
 pre:=fun xs Hs Rs=>∃ (u v:Value) (R1 R2:Hl) (S T:List (List Int)),xs=[u,v]/\Rs=[R1,R2]/\bO R1 u oG (S.map bK)/\bO R2 v oG (T.map bK)/\BI S/\BI T
 post:=fun xs Hs Rs w Hs' F=>∃ (u v:Value) (R1 R2:Hl) (S T:List (List Int)),xs=[u,v]/\Rs=[R1,R2]/\bO R1 u oG (S.map bK)/\bO R2 v oG (T.map bK)/\w=.bool (decide (S=T))
def Ax:Nd:=(fun j g f h i l=>(fun b k=>(fun c d=>(fun a=>(.and (.e (.le i l)) (.and (.e (.le i (.var 6))) (.and (.imp (.not (.eq l (.var 6))) k) (.imp (.eq l (.var 6)) (.and (.inv 0 [⟨20,0,.int .i64 i⟩] []) (.havoc 0 0 10 (.and (.imp (.lt j l) (.and (.e (.le i f)) (.and (.e (.le i (.var 1))) (.and (.e (.le i j)) (.and (.e (.hby 8 f c (.lit 16))) (.and (.e (.le i g)) (.and (.e (.le i (.var 5))) (.and (.e (.lt j (.var 6))) (.and (.e (.hby 9 g d (.lit 16))) (.and (.imp (.not a) k) (.imp a (.back 0 0 [⟨20,0,.int .i64 (.wrap .i64 (.add j (.lit 1)))⟩] [])))))))))))) (.imp (.not (.lt j l)) (.post h (.sv (.one (.bool .tt))))))))))):Nd)) (.and (.eq (.hI 8 f c 0) (.hI 9 g d 0)) (.and (.eq (.hI 8 f c 1) (.hI 9 g d 1)) (.and (.eq (.hI 8 f c 2) (.hI 9 g d 2)) (.and (.eq (.hI 8 f c 3) (.hI 9 g d 3)) (.and (.eq (.hI 8 f c 4) (.hI 9 g d 4)) (.and (.eq (.hI 8 f c 5) (.hI 9 g d 5)) (.and (.eq (.hI 8 f c 6) (.hI 9 g d 6)) (.and (.eq (.hI 8 f c 7) (.hI 9 g d 7)) (.and (.eq (.hI 8 f c 8) (.hI 9 g d 8)) (.and (.eq (.hI 8 f c 9) (.hI 9 g d 9)) (.and (.eq (.hI 8 f c 10) (.hI 9 g d 10)) (.and (.eq (.hI 8 f c 11) (.hI 9 g d 11)) (.and (.eq (.hI 8 f c 12) (.hI 9 g d 12)) (.and (.eq (.hI 8 f c 13) (.hI 9 g d 13)) (.and (.eq (.hI 8 f c 14) (.hI 9 g d 14)) (.eq (.hI 8 f c 15) (.hI 9 g d 15)))))))))))))))))) (.add (.var 1) b) (.add (.var 5) b)) (.mul j (.lit 16)) (.post h (.sv (.one (.bool .ff))))) (.var 20) (.var 4) (.var 0) [.ro 8 [.var 0] false,.ro 9 [.var 4] false] (.lit 0) (.var 2)
def vH:bU Tryz.prog [] 193 where
 Λ:=fun p=>if LL p then some ⟨0,[(13,TI .i64 (.var 20))],[],22⟩else none
 args:=[.sv (.one (.sl (.var 0) (.var 1) (.var 2) (.var 3))),.sv (.one (.sl (.var 4) (.var 5) (.var 6) (.var 7)))]
 mem:=[.ro 8 [.var 0] false,.ro 9 [.var 4] false]
 nv:=10
 nd:=Ax
 ok:=by kernel_rfl
theorem uo {R:Hl} {x y:Int} {T:List (List Int)} (hy:0<=y) (hc:∀ (i:Nat) row,(T.map bK)[i]?=some row->bS row oG/\∀ j u,row[j]?=some u->R.cell x.toNat (y.toNat+i*oG.length+j)=some u) {i:Nat} {t:List Int} (ht:T[i]?=some t) (hl:t.length=16) :
 cy R x.toNat (y+(i:Int)*16).toNat 16=true/\∀ j,j<16->cW (R.cell x.toNat ((y+(i:Int)*16).toNat+j))=t.getD j 0:=by
 have h1:=(hc i (bK t) (by rw[Zs,ht];rfl)).2;have hlen:oG.length=16:=rfl;rw[hlen]at h1;have hyi:(y+(i:Int)*16).toNat=y.toNat+i*16:=by omega
 have c:∀ j,j<16->R.cell x.toNat (y.toNat+i*16+j)=some (.int .u8 (t.getD j 0)):=fun j hj=>by
  rw[h1 j (.int .u8 (t[j])) (by unfold bK;rw[Zs,Y8 (by omega)];rfl),Zt,Y8 (by omega)];rfl
 rw[hyi];constructor
 .unfold cy;rw[ZF];intro j hj;rw[c j (ZQ.1 hj)];rfl
 .intro j hj;rw[c j hj];rfl
theorem SR (f g:Nat->Int):(f 0=g 0/\f 1=g 1/\f 2=g 2/\f 3=g 3/\f 4=g 4/\f 5=g 5/\f 6=g 6/\f 7=g 7/\f 8=g 8/\f 9=g 9/\f 10=g 10/\f 11=g 11/\f 12=g 12/\f 13=g 13/\f 14=g 14/\f 15=g 15)↔eqs f g 0 16:=abX
theorem IS:equalS.OK Tryz.prog:=by
 refine Spec.bJ (Γ:=[]) (fun _ h=>by cases h) ?_;rintro xs Hs Rs hl1 hl2 ⟨u,v,R1,R2,S,T,rfl,rfl,hR,hQ,hS,hT⟩;have e0:Hs=[]:=Za.1 hl1;subst e0;obtain⟨x,y,c,rfl,hy,hrows⟩:=id hR;obtain⟨x',y',c',rfl,hy',hrows'⟩:=id hQ;refine⟨vH,bw [x,y,S.length,c,x',y',T.length,c'] false [Hl.none,Hl.none,Hl.none,Hl.none,Hl.none,Hl.none,Hl.none,Hl.none,R1,R2],fun _ q=>∃ i:Nat,q.i 20=i/\i<=S.length/\∀ k,k<i->S[k]?=T[k]?,fun _ q=>(S.length-q.i 20).toNat,?_,⟨?_,?_,?_,?_⟩,(fun _ h=>nomatch h),?_⟩
 .rw[ZD,ZD];show [Value.slice (aA x y) ((S.length:Int)).toNat ((c:Int)).toNat,Value.slice (aA x' y') ((T.length:Int)).toNat ((c':Int)).toNat]=_;rw[Y7,Y7,Y7,Y7]
 .intro r hr ho;simp [vH]at hr;rcases hr with rfl | rfl<;>cases ho
 .intro r hr ho;simp [vH]at hr;rcases hr with rfl | rfl
  .exact⟨R1,by simp,Hl.le_refl _⟩
  .exact⟨R2,by simp,Hl.le_refl _⟩
 .simp [vH,bx.own]
 .intro r hr;simp [vH]at hr;rcases hr with rfl | rfl<;>trivial
 .show Nd.holds _ _ _ Ax;generalize hρ:bw [x,y,S.length,c,x',y',T.length,c'] false [Hl.none,Hl.none,Hl.none,Hl.none,Hl.none,Hl.none,Hl.none,Hl.none,R1,R2]=ρ;have v0:ρ.i 0=x:=by rw[<-hρ];rfl
  have v1:ρ.i 1=y:=by rw[<-hρ];rfl
  have v2:ρ.i 2=S.length:=by rw[<-hρ];rfl
  have v4:ρ.i 4=x':=by rw[<-hρ];rfl
  have v5:ρ.i 5=y':=by rw[<-hρ];rfl
  have v6:ρ.i 6=T.length:=by rw[<-hρ];rfl
  have w8:ρ.h 8=R1:=by rw[<-hρ];rfl
  have w9:ρ.h 9=R2:=by rw[<-hρ];rfl
  clear hρ;have out:∀ {q:Env} {e:E} {mem:Mem},(bN q e=true↔S=T)->postOf equalS [.slice (aA x y) (S.map bK).length c,.slice (aA x' y') (T.map bK).length c'] [] [R1,R2] q mem (.sv (.one (.bool e))):=by
   intro q e mem he _;exact⟨[],[],rfl,rfl,⟨⟨fun _=>0,fun _=>bN q e,fun _=>.empty,fun _=>.tuple #[],fun _=>Hl.none⟩,rfl,trivial,trivial⟩,_,_,R1,R2,S,T,rfl,rfl,hR,hQ,tu he⟩
  unfold Ax;simp only[Nd.holds,X.pre,X.rel,X.n,Src.ok,Src.len,Src.bG,Zy,Zm,ZG,Zx,Zp,Nat.reduceAdd,Zd,Zh,bn,bj,aJ,aU,aR,bm,aZ,bh,bg,bd,aV,ba,bk,aX,aW,aK,aY,ai,aj,aB,aF,aD,ar,aG,aQ,aP,aq,aI,az,aH,av,TV.ev,SV.ev,CV.ev,Zf,Zr,bx.hl,cu,Cp.sv,Ck.cv,bf,Cp.len,Ck.len,aE,aN,aT];rw[v2,v6];refine⟨by omega,by omega,fun hne=>out ⟨fun e=>(by rw[dq]at e;cases e),fun e=>absurd (by rw[e]) hne⟩,fun hl=>⟨⟨0,rfl,aam _,fun k hk=>by omega⟩,fun q g ⟨i,ei,hi,hk⟩=>?_⟩⟩;rw[g.i 2,v2,ei,g.i 0,v0,g.i 1,v1,g.h 8,w8,g.i 4,v4,g.i 5,v5,g.h 9,w9,g.i 6,v6];have hSl:=hS.1;have ew:IntKind.i64.wrap (q.i 20+1)=((i+1:Nat):Int):=by rw[ei,IntWalk.i64_in _ (by omega)];omega
  refine⟨fun h=>?_,fun h=>out ⟨fun _=>?_,fun _=>c8 q⟩⟩
  .have R8:i<S.length:=by omega
   have hiT:i<T.length:=by omega
   rcases hrows with hn | ⟨hx,hc⟩
   .rw[aaz]at hn;rw[hn]at R8;cases R8
   rcases hrows' with hn | ⟨hx',hc'⟩
   .rw[aaz]at hn;rw[hn]at hiT;cases hiT
   have hs:S[i]?=some S[i]:=Y8 R8;have ht:T[i]?=some T[i]:=Y8 hiT;have m1:=(hS.2 _ (Zb hs)).1;have m2:=(hT.2 _ (Zb ht)).1;obtain⟨b1,c1⟩:=uo hy hc hs m1;obtain⟨b2,c2⟩:=uo hy' hc' ht m2;have E:=(SR (fun j=>cW (R1.cell x.toNat ((y+(i:Int)*16).toNat+j))) (fun j=>cW (R2.cell x'.toNat ((y'+(i:Int)*16).toNat+j)))).trans (NN m1 m2 c1 c2);refine⟨hx,hy,by omega,b1,hx',hy',by omega,b2,fun hn=>out ⟨fun e=>(by rw[dq]at e;cases e),fun e=>absurd (E.2 ?_) hn⟩,fun he=>⟨⟨i+1,ew,by omega,fun k hk'=>?_⟩,?_⟩⟩
   .have:=hs.symm.trans ((ZW (fun l=>l[i]?) e).trans ht);exact Z1 this
   .rcases aaa k i with h1 | h1
    .exact hk k h1
    .obtain rfl:k=i:=by omega
     rw[hs,ht,E.1 he]
   .show((S.length:Int)-IntKind.i64.wrap (q.i 20+1)).toNat<_;rw[ew];omega
  .apply ZN;intro k;by_cases hkS:k<S.length
   .exact hk k (by omega)
   .rw[Zv (by omega),Zv (by omega)]
open Classical in
noncomputable def zF:Sx.Spec where
 fn:=175
 own:=[]
 rd:=[10053,10153]
 res:=[.one .bool]
 pre:=fun xs Hs Rs=>∃ r1 r2 R1 R2 h1 h2,xs=[.agg r1.toArray,.agg r2.toArray]/\Rs=[R1,R2]/\cN R1 r1 h1/\cN R2 r2 h2
 post:=fun xs Hs Rs v Hs' F=>∃ r1 r2 R1 R2 h1 h2,xs=[.agg r1.toArray,.agg r2.toArray]/\Rs=[R1,R2]/\cN R1 r1 h1/\cN R2 r2 h2/\v=.bool (decide (h1=h2))
def Gg:Nd:=(fun a b g d e f h i j k=>(fun c=>(.ext (.alloc 302) (.ext (.alloc 303) (.and (.pre f) (.ext f (.and (.imp (.not (.bvar 304)) c) (.imp (.bvar 304) (.and (.imp (.eq (.var 0) (.var 128)) (.and (.imp (.eq (.var 1) (.var 129)) (.and (.imp b (.and (.imp i (.and (.imp h (.and (.imp j (.and (.imp d (.and (.imp e (.and (.imp a (.and (.imp k (.post g (.sv (.one (.bool (.and (.eq (.var 96) (.var 224)) (.and (.eq (.var 97) (.var 225)) (.and (.eq (.var 98) (.var 226)) (.and (.eq (.var 99) (.var 227)) (.and (.eq (.var 100) (.var 228)) (.and (.eq (.var 101) (.var 229)) (.and (.eq (.var 102) (.var 230)) (.and (.eq (.var 103) (.var 231)) (.and (.eq (.var 104) (.var 232)) (.and (.eq (.var 105) (.var 233)) (.and (.eq (.var 106) (.var 234)) (.and (.eq (.var 107) (.var 235)) (.and (.eq (.var 108) (.var 236)) (.and (.eq (.var 109) (.var 237)) (.and (.eq (.var 110) (.var 238)) (.and (.eq (.var 111) (.var 239)) (.and (.eq (.var 112) (.var 240)) (.and (.eq (.var 113) (.var 241)) (.and (.eq (.var 114) (.var 242)) (.and (.eq (.var 115) (.var 243)) (.and (.eq (.var 116) (.var 244)) (.and (.eq (.var 117) (.var 245)) (.and (.eq (.var 118) (.var 246)) (.and (.eq (.var 119) (.var 247)) (.and (.eq (.var 120) (.var 248)) (.and (.eq (.var 121) (.var 249)) (.and (.eq (.var 122) (.var 250)) (.and (.eq (.var 123) (.var 251)) (.and (.eq (.var 124) (.var 252)) (.and (.eq (.var 125) (.var 253)) (.and (.eq (.var 126) (.var 254)) (.eq (.var 127) (.var 255)))))))))))))))))))))))))))))))))))))) (.imp (.not k) c))) (.imp (.not a) c))) (.imp (.not e) c))) (.imp (.not d) c))) (.imp (.not j) c))) (.imp (.not h) c))) (.imp (.not i) c))) (.imp (.not b) c))) (.imp (.not (.eq (.var 1) (.var 129))) c))) (.imp (.not (.eq (.var 0) (.var 128))) c))))))):Nd)) (.post g (.sv (.one (.bool .ff))))) (.and (.eq (.var 63) (.var 191)) (.and (.eq (.var 64) (.var 192)) (.and (.eq (.var 65) (.var 193)) (.and (.eq (.var 66) (.var 194)) (.and (.eq (.var 67) (.var 195)) (.and (.eq (.var 68) (.var 196)) (.and (.eq (.var 69) (.var 197)) (.and (.eq (.var 70) (.var 198)) (.and (.eq (.var 71) (.var 199)) (.and (.eq (.var 72) (.var 200)) (.and (.eq (.var 73) (.var 201)) (.and (.eq (.var 74) (.var 202)) (.and (.eq (.var 75) (.var 203)) (.and (.eq (.var 76) (.var 204)) (.and (.eq (.var 77) (.var 205)) (.and (.eq (.var 78) (.var 206)) (.and (.eq (.var 79) (.var 207)) (.and (.eq (.var 80) (.var 208)) (.and (.eq (.var 81) (.var 209)) (.and (.eq (.var 82) (.var 210)) (.and (.eq (.var 83) (.var 211)) (.and (.eq (.var 84) (.var 212)) (.and (.eq (.var 85) (.var 213)) (.and (.eq (.var 86) (.var 214)) (.and (.eq (.var 87) (.var 215)) (.and (.eq (.var 88) (.var 216)) (.and (.eq (.var 89) (.var 217)) (.and (.eq (.var 90) (.var 218)) (.and (.eq (.var 91) (.var 219)) (.and (.eq (.var 92) (.var 220)) (.and (.eq (.var 93) (.var 221)) (.eq (.var 94) (.var 222))))))))))))))))))))))))))))))))) (.and (.eq (.var 2) (.var 130)) (.and (.eq (.var 3) (.var 131)) (.and (.eq (.var 4) (.var 132)) (.and (.eq (.var 5) (.var 133)) (.and (.eq (.var 6) (.var 134)) (.and (.eq (.var 7) (.var 135)) (.and (.eq (.var 8) (.var 136)) (.and (.eq (.var 9) (.var 137)) (.and (.eq (.var 10) (.var 138)) (.and (.eq (.var 11) (.var 139)) (.and (.eq (.var 12) (.var 140)) (.and (.eq (.var 13) (.var 141)) (.and (.eq (.var 14) (.var 142)) (.and (.eq (.var 15) (.var 143)) (.and (.eq (.var 16) (.var 144)) (.and (.eq (.var 17) (.var 145)) (.and (.eq (.var 18) (.var 146)) (.and (.eq (.var 19) (.var 147)) (.and (.eq (.var 20) (.var 148)) (.and (.eq (.var 21) (.var 149)) (.and (.eq (.var 22) (.var 150)) (.and (.eq (.var 23) (.var 151)) (.and (.eq (.var 24) (.var 152)) (.and (.eq (.var 25) (.var 153)) (.and (.eq (.var 26) (.var 154)) (.and (.eq (.var 27) (.var 155)) (.and (.eq (.var 28) (.var 156)) (.and (.eq (.var 29) (.var 157)) (.and (.eq (.var 30) (.var 158)) (.and (.eq (.var 31) (.var 159)) (.and (.eq (.var 32) (.var 160)) (.eq (.var 33) (.var 161))))))))))))))))))))))))))))))))) [.ro 300 [.var 53] false,.ro 301 [.var 181] false,.dead,.dead] (.and (.eq (.var 37) (.var 165)) (.and (.eq (.var 38) (.var 166)) (.and (.eq (.var 39) (.var 167)) (.and (.eq (.var 40) (.var 168)) (.and (.eq (.var 41) (.var 169)) (.and (.eq (.var 42) (.var 170)) (.and (.eq (.var 43) (.var 171)) (.and (.eq (.var 44) (.var 172)) (.and (.eq (.var 45) (.var 173)) (.and (.eq (.var 46) (.var 174)) (.and (.eq (.var 47) (.var 175)) (.and (.eq (.var 48) (.var 176)) (.and (.eq (.var 49) (.var 177)) (.and (.eq (.var 50) (.var 178)) (.and (.eq (.var 51) (.var 179)) (.eq (.var 52) (.var 180))))))))))))))))) (.and (.eq (.var 57) (.var 185)) (.and (.eq (.var 58) (.var 186)) (.and (.eq (.var 59) (.var 187)) (.and (.eq (.var 60) (.var 188)) (.and (.eq (.var 61) (.var 189)) (.eq (.var 62) (.var 190))))))) (.call 2 304 [.sv (.one (.sl (.var 53) (.var 54) (.var 55) (.var 56))),.sv (.one (.sl (.var 181) (.var 182) (.var 183) (.var 184)))] [] [.ro 300 [.var 53] false,.ro 301 [.var 181] false]) (.beq (.bvar 35) (.bvar 163)) (.eq (.var 34) (.var 162)) (.eq (.var 36) (.var 164)) (.eq (.var 95) (.var 223))
noncomputable def DK:bU Tryz.prog [fR 117,ny 148,equalS] 175 where
 Λ:=aM
 args:=(bf 0 [.agg cX,.agg cX]).map .sv
 mem:=[.ro 300 [.var 53] false,.ro 301 [.var 181] false]
 nv:=302
 nd:=Gg
 ok:=by kernel_rfl
theorem OS {q:Env} : (aL q 0).set 53 (.bool false)=(aL q 128).set 53 (.bool false)↔q.i 0=q.i 128/\q.i 1=q.i 129/\eqs q.i (fun k=>q.i (k+128)) 2 32/\q.i 34=q.i 162/\(q.b 35=q.b 163)/\q.i 36=q.i 164/\eqs q.i (fun k=>q.i (k+128)) 37 16/\eqs q.i (fun k=>q.i (k+128)) 57 6/\eqs q.i (fun k=>q.i (k+128)) 63 32/\q.i 95=q.i 223/\eqs q.i (fun k=>q.i (k+128)) 96 32:=by
 simp only[aL,cX,List.replicate,abg,aax,al,Ck.cv,Ck.len,i64,Zf,Zr,List.set_cons_succ,List.set_cons_zero,CV.ev,aj,cn,ZM,aaD,Nat.reduceAdd,Ze,Value.int.injEq,Value.bool.injEq,Zy,Zm,eqs,and_assoc]
theorem O5 {R1 R2:Hl} {r1 r2:List Value} (h1:bS r1 dQ) (h2:bS r2 dQ):∃ q:Env,r1=aL q 0/\r2=aL q 128/\q.h 300=R1/\q.h 301=R2:=by
 obtain⟨q1,_,_,e1⟩:=dI cX 0 r1 ⟨fun _=>0,fun _=>false,fun _=>.empty,fun _=>.tuple #[],fun _=>Hl.none⟩ h1;obtain⟨q2,g2,_,e2⟩:=dI cX 128 r2 q1 h2;have e1':aL q2 0=r1:=(cZ g2).trans e1;exact⟨⟨q2.i,q2.b,q2.s,q2.v,fun k=>if k=300 then R1 else if k=301 then R2 else Hl.none⟩,e1'.symm,e2.symm,rfl,rfl⟩
theorem S3 {R1 R2:Hl} {r1 r2:List Value} {h1 h2:Hd} (x:cN R1 r1 h1) (y:cN R2 r2 h2):h1=h2↔h1.t=h2.t/\r1.set 53 (.bool false)=r2.set 53 (.bool false):=by
 rw[<-x.core,<-y.core];cases h1;cases h2;simp [and_comm]
theorem Yb:[fR 117,ny 148,equalS][2]?=some equalS:=rfl
theorem UC:equalS.res=[.one .bool]:=rfl
theorem EK {S T:List (List Int)} {u v w:Value} {R1 R2:Hl} {Hs K:List Hl} {F:Hl} (h1:bO R1 u oG (S.map bK)) (h2:bO R2 v oG (T.map bK)) (hp:equalS.post [u,v] Hs [R1,R2] w K F):(w=.bool true->S=T)/\(S=T->w=.bool true):=by
 obtain⟨u',v',R1',R2',S',T',e1,e2,hR,hQ,hv⟩:=hp;simp only[Ze,Zm]at e1 e2;obtain⟨rfl,rfl⟩:=e1;obtain⟨rfl,rfl⟩:=e2;obtain rfl:=iH (h1.uniq hR);obtain rfl:=iH (h2.uniq hQ);rw[hv];simp
theorem MQ:zF.OK Tryz.prog:=by
 refine Spec.bJ (Γ:=[fR 117,ny 148,equalS]) (fun t ht=>?_) ?_
 .simp only[Zl,Zq,ZO]at ht;rcases ht with rfl | rfl | rfl
  .exact oQ
  .exact yU
  .exact IS
 rintro xs Hs Rs hl1 hl2 ⟨r1,r2,R1,R2,h1,h2,rfl,rfl,hx,hy⟩;have e0:Hs=[]:=Za.1 hl1;subst e0;obtain⟨ρ,rfl,rfl,w300,w301⟩:=O5 (R1:=R1) (R2:=R2) hx.ok hy.ok;refine⟨DK,ρ,fun _ _=>True,fun _ _=>0,by kernel_rfl,⟨?_,?_,?_,?_⟩,(fun _ h=>nomatch h),?_⟩
 .intro r hr ho;simp [DK]at hr;rcases hr with rfl | rfl<;>cases ho
 .intro r hr ho;simp [DK]at hr;rcases hr with rfl | rfl
  .exact⟨R1,by simp,by show(ρ.h 300).le R1;rw[w300];exact Hl.le_refl _⟩
  .exact⟨R2,by simp,by show(ρ.h 301).le R2;rw[w301];exact Hl.le_refl _⟩
 .simp [DK,bx.own]
 .intro r hr;simp [DK]at hr;rcases hr with rfl | rfl<;>trivial
 .show Nd.holds _ _ _ Gg;have out:∀ {q:Env} {e:E} {mem:Mem},(bN q e=true↔h1=h2)->postOf zF [.agg (aL ρ 0).toArray,.agg (aL ρ 128).toArray] [] [R1,R2] q mem (.sv (.one (.bool e))):=by
   intro q e mem he _;exact⟨[],[],rfl,rfl,⟨⟨fun _=>0,fun _=>bN q e,fun _=>.empty,fun _=>.tuple #[],fun _=>Hl.none⟩,rfl,trivial,trivial⟩,_,_,R1,R2,h1,h2,rfl,rfl,hx,hy,tu he⟩
  have ff:∀ {q:Env} {mem:Mem},¬h1=h2->postOf zF [.agg (aL ρ 0).toArray,.agg (aL ρ 128).toArray] [] [R1,R2] q mem (.sv (.one (.bool .ff))):=fun hf=>out ⟨fun e=>(by rw[dq]at e;cases e),fun e=>absurd e hf⟩;unfold Gg;simp only[Nd.holds,X.pre,X.rel,X.n,Src.ok,Src.len,Src.bG,Zy,Zm,ZG,Zx,Zp,Nat.reduceAdd,Zd,Zh,bn,bj,aJ,aU,aR,bm,aZ,bh,bg,bd,aV,ba,bk,aX,aW,aK,aY,ai,aj,aB,aF,aD,ar,aG,aQ,aP,aq,aI,az,aH,av,TV.ev,SV.ev,CV.ev,Zf,Zr,bx.hl,cu,Cp.sv,Ck.cv,bf,Cp.len,Ck.len,aE,aN,aT,Yb,UC,Sm];have hS:bO R1 (.slice (aA (ρ.i 53) (ρ.i 54)) (ρ.i 55).toNat (ρ.i 56).toNat) oG (h1.t.map bK):=hx.tok;have hT:bO R2 (.slice (aA (ρ.i 181) (ρ.i 182)) (ρ.i 183).toNat (ρ.i 184).toNat) oG (h2.t.map bK):=hy.tok;intro q1 g1 _ q2 g2 _;have G2:ah 302 ρ q2:=g1.tr g2;rw[G2.i 53,G2.i 54,G2.i 55,G2.i 56,G2.i 181,G2.i 182,G2.i 183,G2.i 184,G2.h 300,G2.h 301,w300,w301];refine⟨⟨_,_,R1,R2,h1.t,h2.t,rfl,rfl,hS,hT,hx.byte,hy.byte⟩,fun q3 g3 ⟨F,hp,_⟩=>?_⟩;have hv:=EK hS hT hp;have hv:q3.b 304=true↔h1.t=h2.t:=by
   have:(q3.b 304=true)=(Value.bool (bN q3 (.bvar 304))=.bool true):=by rw[cn];simp
   rw[this];exact⟨hv.1,hv.2⟩
  have G3:ah 302 ρ q3:=G2.tr g3;have a0:aL q3 0=aL ρ 0:=cZ G3.mono;have a1:aL q3 128=aL ρ 128:=ZL (Value.agg.inj (fQ (n:=128) (ks:=cX) G3 (abB (by kernel_rfl))));have E:=S3 hx hy;rw[<-a0,<-a1,OS,<-hv]at E;refine⟨fun c=>ff fun e=>c (E.1 e).1,fun hb=>?_⟩;have eB:(q3.b 35=true)=(q3.b 163=true)↔q3.b 35=q3.b 163:=by cases q3.b 35<;>cases q3.b 163<;>simp
  rw[eB];refine⟨fun k0=>⟨fun k1=>⟨fun k2=>⟨fun k3=>⟨fun k4=>⟨fun k5=>⟨fun k6=>⟨fun k7=>⟨fun k8=>⟨fun k9=>out ?_,fun c=>ff fun e=>c (E.1 e).2.2.2.2.2.2.2.2.2.2.1⟩,fun c=>ff fun e=>c (E.1 e).2.2.2.2.2.2.2.2.2.1⟩,fun c=>ff fun e=>c (E.1 e).2.2.2.2.2.2.2.2.1⟩,fun c=>ff fun e=>c (E.1 e).2.2.2.2.2.2.2.1⟩,fun c=>ff fun e=>c (E.1 e).2.2.2.2.2.2.1⟩,fun c=>ff fun e=>c (E.1 e).2.2.2.2.2.1⟩,fun c=>ff fun e=>c (E.1 e).2.2.2.2.1⟩,fun c=>ff fun e=>c (E.1 e).2.2.2.1⟩,fun c=>ff fun e=>c (E.1 e).2.2.1⟩,fun c=>ff fun e=>c (E.1 e).2.1⟩;have eZ:bN q3 (.and (.eq (.var 96) (.var 224)) (.and (.eq (.var 97) (.var 225)) (.and (.eq (.var 98) (.var 226)) (.and (.eq (.var 99) (.var 227)) (.and (.eq (.var 100) (.var 228)) (.and (.eq (.var 101) (.var 229)) (.and (.eq (.var 102) (.var 230)) (.and (.eq (.var 103) (.var 231)) (.and (.eq (.var 104) (.var 232)) (.and (.eq (.var 105) (.var 233)) (.and (.eq (.var 106) (.var 234)) (.and (.eq (.var 107) (.var 235)) (.and (.eq (.var 108) (.var 236)) (.and (.eq (.var 109) (.var 237)) (.and (.eq (.var 110) (.var 238)) (.and (.eq (.var 111) (.var 239)) (.and (.eq (.var 112) (.var 240)) (.and (.eq (.var 113) (.var 241)) (.and (.eq (.var 114) (.var 242)) (.and (.eq (.var 115) (.var 243)) (.and (.eq (.var 116) (.var 244)) (.and (.eq (.var 117) (.var 245)) (.and (.eq (.var 118) (.var 246)) (.and (.eq (.var 119) (.var 247)) (.and (.eq (.var 120) (.var 248)) (.and (.eq (.var 121) (.var 249)) (.and (.eq (.var 122) (.var 250)) (.and (.eq (.var 123) (.var 251)) (.and (.eq (.var 124) (.var 252)) (.and (.eq (.var 125) (.var 253)) (.and (.eq (.var 126) (.var 254)) (.eq (.var 127) (.var 255)))))))))))))))))))))))))))))))))=true↔eqs q3.i (fun k=>q3.i (k+128)) 96 32:=by
   simp only[aR,bd,aj];exact abX
  rw[eZ,E];exact⟨fun h=>⟨hb,k0,k1,k2,k3,k4,k5,k6,k7,k8,k9,h⟩,fun h=>h.2.2.2.2.2.2.2.2.2.2.2⟩
open Classical in
noncomputable def fU (w:Int) (hs:List Hd) (h:Hd):Int :=
 if ¬h.Form\/cI h.c 0≠w then 1
 else if cI h.c 1<=hs.length then(if hs[(cI h.c 1-1).toNat]?=some h then 13 else 8)
 else if hs.length+1<cI h.c 1 then 12
 else if bL h.c 2 32≠iE hs then 7 else 0
def lV (q:Env) (n:Nat):List Value:=(al n cX).map (CV.ev q)
theorem Li {A B:Hl} {a:Int} {row:List Value} (h:bS row dQ):∃ q:Env,q.i 0=a/\row=lV q 1/\q.h 129=A/\q.h 130=B/\ck 1 cX q:=by
 obtain⟨q,g,hn,e⟩:=dI cX 1 row ⟨fun _=>a,fun _=>false,fun _=>.empty,fun _=>.tuple #[],fun _=>Hl.none⟩ h;refine⟨⟨q.i,q.b,q.s,q.v,fun k=>if k=129 then A else if k=130 then B else Hl.none⟩,g.i 0,e.symm,rfl,rfl,hn⟩
theorem c9.facts {R:Hl} {a:Nat} {w:Int} {hs:List Hd} (h:c9 R a w hs):∃ (x:Int) (c:Nat) (rows:List (List Value)),R a=some (.cells (([.int .i64 w,.slice (aA x 0) hs.length c]:List Value)++bK (iE hs)).toArray 237 (0,0))/\bO R (.slice (aA x 0) hs.length c) dQ rows/\fu R rows hs:=by
 obtain⟨K,hl,x,c,rows,hK,hO,hA,_⟩:=h;exact⟨x,c,rows,hl _ _ hK,oj hO.rd hl,hA.mono hl⟩
theorem c9.uniq {R:Hl} {a:Nat} {w w':Int} {hs hs':List Hd} (h:c9 R a w hs) (h':c9 R a w' hs'):w=w'/\hs=hs':=by
 obtain⟨x,c,rows,e,hr,hA⟩:=h.facts;obtain⟨x',c',rows',e',hr',hA'⟩:=h'.facts;rw[e]at e';simp only[Zj,Obj.cells.injEq,Zm]at e';have e':=ZW Array.toList e';have h0:some (Value.int .i64 w)=some (.int .i64 w'):=ZW (fun l=>l[0]?) e';have h1:some (Value.slice (aA x 0) hs.length c)=some (.slice (aA x' 0) hs'.length c'):=ZW (fun l=>l[1]?) e';rw[<-Z1 h1]at hr';obtain rfl:=hr.uniq hr';simp only[Zj,Value.int.injEq,Zy]at h0;exact⟨h0,hA.uniq hA'⟩
theorem TL (q:Env) (n:Nat) (f:Nat->Int):gF q n=(List.range 32).map f↔(q.i (n+0)=f 0/\q.i (n+1)=f 1/\q.i (n+2)=f 2/\q.i (n+3)=f 3/\q.i (n+4)=f 4/\q.i (n+5)=f 5/\q.i (n+6)=f 6/\q.i (n+7)=f 7/\q.i (n+8)=f 8/\q.i (n+9)=f 9/\q.i (n+10)=f 10/\q.i (n+11)=f 11/\q.i (n+12)=f 12/\q.i (n+13)=f 13/\q.i (n+14)=f 14/\q.i (n+15)=f 15/\q.i (n+16)=f 16/\q.i (n+17)=f 17/\q.i (n+18)=f 18/\q.i (n+19)=f 19/\q.i (n+20)=f 20/\q.i (n+21)=f 21/\q.i (n+22)=f 22/\q.i (n+23)=f 23/\q.i (n+24)=f 24/\q.i (n+25)=f 25/\q.i (n+26)=f 26/\q.i (n+27)=f 27/\q.i (n+28)=f 28/\q.i (n+29)=f 29/\q.i (n+30)=f 30/\q.i (n+31)=f 31):=by
 have e:List.range 32=[0,1,2,3,4,5,6,7,8,9,10,11,12,13,14,15,16,17,18,19,20,21,22,23,24,25,26,27,28,29,30,31]:=rfl;unfold gF;rw[e];simp only[Zf,Zr,Ze,Zm]
theorem c9.ko {R:Hl} {a:Nat} {w:Int} {hs:List Hd} (h:c9 R a w hs):R.cell a 0=some (.int .i64 w)/\cy R a 2 32=true/\(List.range 32).map (fun j=>cW (R.cell a (2+j)))=iE hs:=by
 obtain⟨x,c,rows,e,_,_⟩:=h.facts;have hc:∀ j z,(iE hs)[j]?=some z->R.cell a (2+j)=some (.int .u8 z):=fun j z hz=>by
  unfold Hl.cell;rw[e];simp only[aae];rw[Zz (by simp)];simp only[Zd,Zh];rw[show 2+j-(0+1+1)=j by omega,ft,hz];rfl
 refine⟨by unfold Hl.cell;rw[e];rfl,dA hc (by rw[oF];decide),?_⟩;have:=mC (y:=2) hc;rw[oF]at this;exact this
noncomputable def qO:Sx.Spec where
 fn:=144
 own:=[]
 rd:=[0,10153]
 res:=[.one (.int .i64)]
 pre:=fun xs Hs Rs=>∃ a R w hs row T h,xs=[.pointer (some ⟨a,0,none⟩),.agg row.toArray]/\Rs=[R,T]/\c9 R a w hs/\hs.length<1000000/\cN T row h
 post:=fun xs Hs Rs v Hs' F=>∃ a R w hs row T h,xs=[.pointer (some ⟨a,0,none⟩),.agg row.toArray]/\Rs=[R,T]/\c9 R a w hs/\cN T row h/\v=.int .i64 (fU w hs h)
def Ey:Nd:=(fun c d b f l h j k=>(fun a g i m=>(.ext (.alloc 131) (.and (.pre j) (.ext j (.and (.imp (.not (.bvar 132)) h) (.imp (.bvar 132) (.and (.e (.le l c)) (.and (.e (.his 129 c l 0 (.int .i64))) (.and (.imp (.not m) h) (.imp m (.and (.pre g) (.ext g (.ext (.alloc 262) (.and (.imp (.bvar 261) (.and (.pre f) (.ext f (.and (.imp (.bvar 263) (.post b (.sv (.one (.int .i64 (.lit 13)))))) (.imp (.not (.bvar 263)) (.post b (.sv (.one (.int .i64 (.lit 8)))))))))) (.imp (.not (.bvar 261)) (.and (.pre i) (.ext i (.and (.imp k (.post b (.sv (.one (.int .i64 (.lit 12)))))) (.imp (.not k) (.and (.e (.hby 129 c d (.lit 32))) (.and (.imp (.not a) (.post b (.sv (.one (.int .i64 (.lit 7)))))) (.imp a (.post b (.sv (.one (.int .i64 l)))))))))))))))))))))))):Nd)) (.and (.eq (.var 3) (.hI 129 c d 0)) (.and (.eq (.var 4) (.hI 129 c d 1)) (.and (.eq (.var 5) (.hI 129 c d 2)) (.and (.eq (.var 6) (.hI 129 c d 3)) (.and (.eq (.var 7) (.hI 129 c d 4)) (.and (.eq (.var 8) (.hI 129 c d 5)) (.and (.eq (.var 9) (.hI 129 c d 6)) (.and (.eq (.var 10) (.hI 129 c d 7)) (.and (.eq (.var 11) (.hI 129 c d 8)) (.and (.eq (.var 12) (.hI 129 c d 9)) (.and (.eq (.var 13) (.hI 129 c d 10)) (.and (.eq (.var 14) (.hI 129 c d 11)) (.and (.eq (.var 15) (.hI 129 c d 12)) (.and (.eq (.var 16) (.hI 129 c d 13)) (.and (.eq (.var 17) (.hI 129 c d 14)) (.and (.eq (.var 18) (.hI 129 c d 15)) (.and (.eq (.var 19) (.hI 129 c d 16)) (.and (.eq (.var 20) (.hI 129 c d 17)) (.and (.eq (.var 21) (.hI 129 c d 18)) (.and (.eq (.var 22) (.hI 129 c d 19)) (.and (.eq (.var 23) (.hI 129 c d 20)) (.and (.eq (.var 24) (.hI 129 c d 21)) (.and (.eq (.var 25) (.hI 129 c d 22)) (.and (.eq (.var 26) (.hI 129 c d 23)) (.and (.eq (.var 27) (.hI 129 c d 24)) (.and (.eq (.var 28) (.hI 129 c d 25)) (.and (.eq (.var 29) (.hI 129 c d 26)) (.and (.eq (.var 30) (.hI 129 c d 27)) (.and (.eq (.var 31) (.hI 129 c d 28)) (.and (.eq (.var 32) (.hI 129 c d 29)) (.and (.eq (.var 33) (.hI 129 c d 30)) (.eq (.var 34) (.hI 129 c d 31))))))))))))))))))))))))))))))))) (.call 2 133 [.sv (.one (.hptr c l)),.sv (.one (.int .u64 (.var 2)))] [] [.ro 129 [.var 0] false]) (.call 1 263 [.sv (.one (.hptr c l))] [] [.ro 129 [.var 0] false]) (.eq (.var 1) (.hI 129 c l 0))) (.var 0) (.lit 2) [.ro 129 [.var 0] false,.ro 130 [.var 54] true,.dead,.hp 133 [] [.var 186] [],.dead] (.call 3 263 [.sv (.agg (al 133 cX)),.sv (.agg (al 1 cX))] [] [.hp 133 [] [.var 186] [],.ro 130 [.var 54] true]) (.lit 0) (.post [.ro 129 [.var 0] false,.ro 130 [.var 54] true,.dead] (.sv (.one (.int .i64 (.lit 1))))) (.call 0 132 [.sv (.agg (al 1 cX))] [] [.ro 130 [.var 54] true]) (.lt (.wrap .u64 (.add (.var 263) (.lit 1))) (.var 2))
noncomputable def Pf:List Sx.Spec:=[fR 117,pL,Ce,zF]
theorem Qp:∀ t∈Pf,t.OK Tryz.prog:=fun t ht=>by
 simp only[Pf,Zl,Zq,ZO]at ht;rcases ht with rfl | rfl | rfl | rfl
 .exact oQ
 .exact we
 .exact GU
 .exact MQ
theorem UR:Pf[0]?=some (fR 117):=rfl
theorem US:Pf[1]?=some pL:=rfl
theorem UT:Pf[2]?=some Ce:=rfl
theorem UU:Pf[3]?=some zF:=rfl
theorem NH (f:FuncId):(fR f).res=[.one .bool]:=rfl
theorem SI:Ce.res=[.agg cX,.one .bool]:=rfl
theorem UW:zF.res=[.one .bool]:=rfl
set_option maxRecDepth 20000 in
theorem SH:(br 0 [Cp.agg cX,Cp.one .bool]≠[])=True:=eq_true (by decide)
noncomputable def Pe:bU Tryz.prog Pf qO.fn where
 Λ:=aM
 args:=TP (.var 0) (.lit 0)::(bf 1 [.agg cX]).map .sv
 mem:=[.ro 129 [.var 0] false,.ro 130 [.var 54] true]
 nv:=131
 nd:=Ey
 ok:=by kernel_rfl
open Classical in
set_option maxRecDepth 20000 in
theorem Cd:qO.OK Tryz.prog:=by
 refine Spec.bJ (Γ:=Pf) Qp ?_;rintro xs Hs Rs hl1 hl2 ⟨a,R,w,hs,row,T,h,rfl,rfl,hc,hlen,hx⟩;have e0:Hs=[]:=Za.1 hl1;subst e0;obtain⟨ρ,va,rfl,w1,w2,hnw⟩:=Li (A:=R) (B:=T) (a:=(a:Int)) hx.ok;refine⟨Pe,ρ,fun _ _=>True,fun _ _=>0,?_,dB (by intro r hr;simp [Pe]at hr;rcases hr with rfl | rfl<;>exact⟨_,_,_,rfl⟩) (by show [ρ.h 129,ρ.h 130]=_;rw[w1,w2]),(fun _ h=>nomatch h),?_⟩
 .show [Value.pointer (aA (ρ.i 0) 0),.agg (lV ρ 1).toArray]=_;rw[va,au (by omega)];rfl
 .show Nd.holds _ _ _ Ey;unfold Ey;simp only[Nd.holds,X.pre,X.rel,X.n,Src.ok,Src.len,Src.bG,Zy,Zm,ZG,Zx,Zp,Nat.reduceAdd,Zd,Zh,bn,bj,aJ,aU,aR,bm,aZ,bh,bg,bd,aV,ba,bk,aX,aW,aK,aY,ai,aj,aB,aF,aD,ar,aG,aQ,aP,aq,aI,az,aH,av,TV.ev,SV.ev,CV.ev,Zf,Zr,bx.hl,cu,Cp.sv,Ck.cv,bf,Cp.len,Ck.len,aE,aN,aT,UR,US,UT,UU,NH,Qh,SI,UW,SH];have V:∀ q:Env,ah 131 ρ q->q.i 0=a/\q.h 129=R/\q.h 130=T/\lV q 1=lV ρ 1:=fun q g=>by
   refine⟨by rw[g.i 0,va],by rw[g.h 129,w1],by rw[g.h 130,w2],?_⟩;have:=fQ (ks:=cX) (n:=1) g (by decide);exact ZW Array.toList (Value.agg.inj this)
  have ep:Value.pointer (aA (a:Int) 0)=.pointer (some ⟨a,0,none⟩):=by rw[au (by omega)];rfl
  have out:∀ {q:Env} {mem:Mem} {e:E},aC q e=fU w hs h->postOf qO [.pointer (some ⟨a,0,none⟩),.agg (lV ρ 1).toArray] [] [R,T] q mem (.sv (.one (.int .i64 e))):=fun {q mem e} he =>
   lY rfl he fun F=>⟨a,R,w,hs,lV ρ 1,T,h,rfl,rfl,hc,hx,rfl⟩
  obtain⟨t0,t1,t2⟩:=hc.ko;have hI:∀ {k:Nat},k≠53->cI h.c k=cI (lV ρ 1) k:=fun hk=>hx.I hk;have h0:cI h.c 0=ρ.i 1:=hI (by decide);have h1:cI h.c 1=ρ.i 2:=hI (by decide);have h2:bL h.c 2 32=gF ρ 3:=by
   have:bL h.c 2 32=bL (lV ρ 1) 2 32:=by
    unfold bL;refine aac fun j hj=>hI ?_;have:=ZQ.1 hj;omega
   rw[this];rfl
  have hu:0<=ρ.i 2/\ρ.i 2<18446744073709551616:=by
   have:=hx.rng _ (Zb (uS hx.ok (k:=1) rfl));exact this
  have A1:∀ (k:Nat) (q:Env),ah k ρ q->131<=k->q.i 1=ρ.i 1/\q.i 2=ρ.i 2/\gF q 3=gF ρ 3:=fun k q g hk=>⟨g.i 1,g.i 2,Bx g (by omega)⟩;have t0':R.cell ((a:Int)).toNat (Int.toNat 0)=some (.int .i64 w):=by rw[Y7];exact t0
  intro q1 g1 p1;obtain⟨v0,x1,x2,x3⟩:=V q1 g1;have x3':(al 1 cX).map (CV.ev q1)=lV ρ 1:=x3;rw[x3',x2];refine⟨⟨_,T,h,rfl,rfl,hx⟩,fun q2 g2 ⟨F2,hp2,_⟩=>?_⟩;have G2:ah 131 ρ q2:=g1.tr g2;have hb2:q2.b 132=decide h.Form:=Value.bool.inj (lP hx hp2);obtain⟨y0,y1,y2,y3⟩:=V q2 G2;obtain⟨r1,r2,r3⟩:=A1 _ q2 G2 (by omega);refine⟨fun hb=>out ?_,fun hb=>?_⟩
  .have hF:¬h.Form:=by rw[hb2]at hb;simpa using hb
   unfold fU;rw[ZA (Or.inl hF)];rfl
  have hF:h.Form:=by rw[hb2]at hb;simpa using hb
  have hseq:1<=cI h.c 1:=hF.1.2.1.1;rw[y0,y1,t0',r1,r2,ep];refine⟨by omega,rfl,fun hne=>out ?_,fun heq=>?_⟩
  .have hne:¬ρ.i 1=w:=hne;unfold fU;rw[ZA (Or.inr (by rw[h0];exact hne))];rfl
  have heq:ρ.i 1=w:=heq;have hn1:¬(¬h.Form\/cI h.c 0≠w):=by rw[h0];exact fun hh=>hh.elim (fun g=>g hF) (fun g=>g heq)
  refine⟨⟨a,R,w,hs,_,rfl,rfl,hc,hu,hlen⟩,fun q3 g3 ⟨F3,⟨a',R',w',hs',n',e1,e2,hc',hcase⟩,hF3,hn3⟩ q4 g4 p4=>?_⟩;simp only[Ze,Zm,Value.pointer.injEq,Zj,Addr.mk.injEq,Value.int.injEq,Zy]at e1 e2;obtain⟨rfl,rfl⟩:=e1;subst e2;obtain⟨rfl,rfl⟩:=hc.uniq hc';have G3:ah 132 q1 q3:=g2.tr g3;have G4:ah 131 ρ q4:=G2.trans (g3.mono.tr g4);obtain⟨z0,z1,z2,z3⟩:=V q4 G4;obtain⟨s1,s2,s3⟩:=A1 _ q4 G4 (by omega);have hb4:q4.b 261=q3.b 261:=g4.b 261;have rowA:(al 133 cX).map (CV.ev q4)=(al 133 cX).map (CV.ev q3):=ZW Array.toList (Value.agg.inj (fQ (ks:=cX) (n:=133) g4 (by decide)));have z3':(al 1 cX).map (CV.ev q4)=lV ρ 1:=z3;rw[rowA,z3',z0,z1,z2,hb4,g4.h 133,ep];refine⟨fun hb=>?_,fun hb=>?_⟩
  .rcases hcase with ⟨n1,n2,row',h',hh',ev,hI'⟩ | ⟨_,u,ev⟩
   rotate_left
   .simp only[Value.tuple.injEq,ZY,Ze,Value.bool.injEq,Zm]at ev;exact absurd (ev.2.symm.trans hb) (by decide)
   simp only[Value.tuple.injEq,ZY,Ze,Value.bool.injEq,Zm,Value.agg.injEq]at ev;have er:=ev.1;rw[er];rw[<-hF3 trivial]at hI';have hn2:¬¬cI h.c 1<=hs.length:=by rw[h1];omega
   refine⟨⟨_,_,_,_,_,_,rfl,rfl,hI',hx⟩,fun q5 g5 ⟨F5,⟨r1',r2',R1',R2',h1',h2',f1,f2,i1,i2,hv⟩,_⟩=>?_⟩;simp only[Ze,Zm,Value.agg.injEq]at f1 f2;obtain⟨rfl,rfl⟩:=f2;have f1a:=ZL f1.1;have f1b:=ZL f1.2;subst f1a f1b;obtain rfl:=hI'.uniq i1;obtain rfl:=hx.uniq i2;have hb5:q5.b 263=decide (h'=h):=Value.bool.inj hv;have key:(hs[(cI h.c 1-1).toNat]?=some h)↔h'=h:=by rw[h1,hh',Zj]
   refine⟨fun hb=>out ?_,fun hb=>out ?_⟩
   .unfold fU;rw[Zo hn1,ZA (by rw[h1];omega),ZA (key.2 (by rw[hb5]at hb;simpa using hb))];rfl
   .unfold fU;rw[Zo hn1,ZA (by rw[h1];omega),Zo (fun g=>hb (by rw[hb5];simpa using key.1 g))];rfl
  .rcases hcase with ⟨n1,n2,row',h',hh',ev,hI'⟩ | ⟨hno,u,ev⟩
   .simp only[Value.tuple.injEq,ZY,Ze,Value.bool.injEq,Zm]at ev;exact absurd ev.2 hb
   have hgt:¬cI h.c 1<=hs.length:=by rw[h1]at hseq ⊢;omega
   refine⟨⟨a,R,w,hs,rfl,rfl,hc⟩,fun q5 g5 ⟨F5,hp5,_⟩=>?_⟩;have e5:=iZ hc hlen hp5;have G5:ah 131 ρ q5:=G4.tr g5;obtain⟨u0,u1,u2,u3⟩:=V q5 G5;obtain⟨k1,k2,k3⟩:=A1 _ q5 G5 (by omega);have e5:q5.i 263=hs.length:=e5;have hw:IntKind.u64.wrap ((hs.length:Int)+1)=(hs.length:Int)+1:=by rw[IntKind.wrap_u64];omega
   rw[e5,k2,hw,u0,u1];have hcb:cy R ((a:Int)).toNat (Int.toNat 2) (Int.toNat 32)=true:=by rw[Y7];exact t1
   refine⟨fun hlt=>out ?_,fun hge=>⟨hcb,?_⟩⟩
   .unfold fU;rw[Zo hn1,Zo hgt,ZA (by rw[h1];omega)];rfl
   have hge':¬((hs.length:Int)+1<cI h.c 1):=by rw[h1];omega
   have key:=TL q5 3 (fun j=>cW (R.cell ((a:Int)).toNat (Int.toNat 2+j)));have et:(List.range 32).map (fun j=>cW (R.cell ((a:Int)).toNat (Int.toNat 2+j)))=iE hs:=by rw[Y7];exact t2
   rw[et,k3,<-h2]at key;refine⟨fun hne=>out ?_,fun heq=>out ?_⟩
   .have hne:¬bL h.c 2 32=iE hs:=fun g=>hne (key.1 g);unfold fU;rw[Zo hn1,Zo hgt,Zo hge',ZA hne];rfl
   .have heq:bL h.c 2 32=iE hs:=key.2 heq;unfold fU;rw[Zo hn1,Zo hgt,Zo hge',Zo (fun g=>g heq)];rfl
end Go.Proofs.YtomdimlnggpgbaaGreatDoor
