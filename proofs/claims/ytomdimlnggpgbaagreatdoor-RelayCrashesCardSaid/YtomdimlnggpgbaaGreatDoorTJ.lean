/- RelayCrashes. -/
import Derived.Test.YtomdimlnggpgbaaGreatDoorTI
set_option linter.all false
set_option maxHeartbeats 4000000
namespace Go.Proofs.YtomdimlnggpgbaaGreatDoor
open Go Go.Sx Go.Pk
variable {b lg:Bool}{e:E}{q q':Env}{A:Env->Hl->Prop}{D K:Env->Prop}{f:FuncId}{h h1 h2:Hd}{F G H R R' R1 R2 RA RG:Hl}{w w' x y z:Int}{S T:List (List Int)}{rows:List (List Value)}{hs hs':List Hd}{Hs Rs:List Hl}{B b2 bs bs2 t:List Int}{r1 r2 row vs xs:List Value}{mem:Mem}{a c i k m n o sc:Nat}{s:Sx.Spec}{p u v:Value}
def aW (l:List Value) (a n:Nat):List Int:=(List.range n).map fun j=>cI l (a+j)
def bJ (z:Int):Nat:=(IntKind.u64.wrap z).toNat
def dq (b:Bool):List Int:=[if b=true then 1 else 0]
def bg (l:List Value) (n:Nat):List Int:=aj (bJ (cI l 0))++aj (cI l 1).toNat++aW l 2 32++aj (bJ (cI l 34))++dq (cB l 35)++aj (cI l 36).toNat++aW l 37 16++aj n
def pH (l:List Value) (bs:List Int):List Int:=bs++aj (cI l 54).toNat++aj (cI l 55).toNat++aj (cI l 56).toNat++aj (cI l 57).toNat++aj (cI l 58).toNat++aj (cI l 59).toNat++aW l 60 32++aj (bJ (cI l 92))
def me (h:Hd):List Int:=pH h.c (bg h.c h.t.length++h.t.flatten)
def lJ (z:Int):bJ z<18446744073709551616:=by
 unfold bJ;rw[IntKind.wrap_u64];omega
def u64_in (z:Int):0<=IntKind.u64.wrap z/\IntKind.u64.wrap z<18446744073709551616:=by
 rw[IntKind.wrap_u64];omega
def jl:∀ {row:List Value} {ks:List Kd} {k:Nat} {kd:Kd},bo row ks->ks[k]?=some kd->∃ v,row[k]?=some v/\bz (some v) kd=true
 | [],[],k,kd,_,h=>by simp at h
 | v::l,a::m,0,kd,h,e=>⟨v,rfl,by rw[abv,aaF]at e;subst e;exact h.1⟩
 | v::l,a::m,k+1,kd,h,e=>by
  rw[abq]at e ⊢;exact jl h.2 e
def Vm (h:bo row fu) (hk:fu[k]?=some (.int .u8)):row[k]?=some (.int .u8 (cI row k)):=by
 obtain⟨v,hv,hi⟩:=jl h hk;unfold cI;rw[hv];cases v<;>simp [bz]at hi
 subst hi;rfl
def uM (h:bo row fu) (hk:fu[k]?=some (.int .u64)):row[k]?=some (.int .u64 (cI row k)):=by
 obtain⟨v,hv,hi⟩:=jl h hk;unfold cI;rw[hv];cases v<;>simp [bz]at hi
 subst hi;rfl
def Uu:∀ j,j<32->fu[2+j]?=some (.int .u8):=by decide
def Ut:∀ j,j<16->fu[37+j]?=some (.int .u8):=by decide
def WS:∀ j,j<32->fu[60+j]?=some (.int .u8):=by decide
def aJ (l:List Value) (a n:Nat):(aW l a n).length=n:=by unfold aW;simp
def Sk (h:bo row fu) (hk:∀ j,j<n->fu[a+j]?=some (.int .u8)):∀ j z,(aW row a n)[j]?=some z->row[a+j]?=some (.int .u8 z):=by
 intro j z b;have c:j<n:=by have:=(aaH.1 b).1;rwa[aJ]at this
 unfold aW at b;rw[aaL,aaZ c,abe,aaF]at b;subst b;exact Vm h (hk j c)
def DL (h0:0<=q.i a) (hr:bo (aE q 0) fu) (hk:∀ j,j<n->fu[o+j]?=some (.int .u8)):oI ((bL.bj a (ar 0 cy) 65).hl q) (.slice (az (q.i a) (o:Int)) ((n:Int)).toNat ((n:Int)).toNat) (aW (aE q 0) o n) :=
 yk h0 (Sk hr hk) (aJ _ _ _).symm
def iS (h:bC H p bs lg) (a:0<=z/\z<18446744073709551616) (hl:bs.length<=900000) (k:∀ q',ai n q q'->bC (q'.h n) p (bs++aj z.toNat) lg->K q') :
 Aa.pre [p,.int .u64 z] [H] []/\∀ q',ai n q q'->(∃ F,Aa.post [p,.int .u64 z] [H] [] v [q'.h n] F/\A q' F)->K q':=by
 refine⟨⟨_,_,H,bs,lg,rfl,rfl,h,⟨z,rfl,a⟩,hl⟩,fun q' g ⟨F,hp,_⟩=>k q' g ?_⟩;obtain⟨H',hK,b⟩:=DE h hp;have hK:q'.h n=H':=by simpa using hK
 rw[hK];exact b
def N4 (h:bC H p bs lg) (hl:bs.length<=900000) (k:∀ q',ai n q q'->bC (q'.h n) p (bs++dq b) lg->K q') :
 vG.pre [p,.bool b] [H] []/\∀ q',ai n q q'->(∃ F,vG.post [p,.bool b] [H] [] v [q'.h n] F/\A q' F)->K q':=by
 refine⟨⟨_,_,H,bs,lg,rfl,rfl,h,⟨b,rfl⟩,hl⟩,fun q' g ⟨F,hp,_⟩=>k q' g ?_⟩;obtain⟨H',hK,a⟩:=DE h hp;have hK:q'.h n=H':=by simpa using hK
 rw[hK];exact a
def yi (h:bC H p bs lg) (h2:fL R u b2) (hl:bs.length<=900000) (a:b2.length<=90000) (k:∀ q',ai n q q'->bC (q'.h n) p (bs++b2) lg->K q') :
 uz.pre [p,u] [H] [R]/\∀ q',ai n q q'->(∃ F,uz.post [p,u] [H] [R] v [q'.h n] F/\A q' F)->K q':=by
 refine⟨⟨_,_,H,R,bs,lg,b2,rfl,rfl,rfl,h,h2,hl,a⟩,fun q' g ⟨F,hp,_⟩=>k q' g ?_⟩;obtain⟨H',hK,b⟩:=Gf h h2 hp;have hK:q'.h n=H':=by simpa using hK
 rw[hK];exact b
def Dg:∀ {T:List (List Int)},(∀ t∈T,t.length=16)->T.flatten.length=T.length*16
 | [],_=>rfl
 | t::T,h=>by
  rw[abR,aay,h t (aa8 ..),Dg (fun u hu=>h u (aaO _ hu)),abc];omega
def px {a b:Int} (hx:0<=x) (d:0<=y) (hb:0<=b) (h:az a b=az x y):a=x/\b=y:=by
 rcases abQ a 0 with c | c
 .exfalso;rw[au hx]at h;unfold az at h;rw[aaG ah]at h;split at h
  .cases h
  .simp only[aaF,Addr.mk.injEq]at h;obtain⟨_,_,h⟩:=h;cases h
 .rw[au c,au hx]at h;simp only[aaF,Addr.mk.injEq]at h;omega
def jy {z:Nat} (h:z<18446744073709551616):(aj z).length<=10:=ou h
noncomputable def coreS (f:FuncId):Sx.Spec where
 fn:=f
 own:=[]
 rd:=[10053]
 res:=[.one .sl]
 pre:=fun xs Hs Rs=>∃ row R h,xs=[.agg row.toArray]/\Rs=[R]/\bU R row h/\h.t.length<=8
 post:=fun xs Hs Rs v Hs' F=>∃ row R h,xs=[.agg row.toArray]/\Rs=[R]/\bU R row h/\bZ F 5 v (me h)
def X4:List Sx.Spec:=[Aa,uz,vG,sz]
def T8:∀ t∈X4,t.OK Tryz.prog:=av FJ <| av FK <| av Mh <| av zZ <| bW
def er0:Aa.res=[]:=rfl
def er1:uz.res=[]:=rfl
def er2:vG.res=[]:=rfl
def er3:sz.res=[.one .sl,.one (.int .i64)]:=rfl
def yV:aG Tryz.prog X4 177 where
 Λ:=fun p=>if decide (p.length=14)&&!(p.head?==some 99)then some ⟨0,[(41,TI .i64 (.var 201))],[(2,.hp 202 [] [.var 132] [])],210⟩else none
 args:=(cA 0 [.agg cy]).map .sv
 mem:=[.ro 130 [.var 53] false]
 nv:=131
def NU {n:Value} {K:List Hl} (h:bC R p bs lg) (hp:sz.post [p] [] [R] (.tuple #[v,n]) K F):bZ F 5 v (rW bs lg).1:=by
 obtain⟨c,R',bs',lg',u,e1,a,b,hv,hw⟩:=hp;simp only[aaC,aaP]at e1 a;subst e1 a;obtain⟨e1,a⟩:=h.uniq b;subst e1 a;simp only[Value.tuple.injEq,abh,aaC,aaP]at hv;rw[hv.1];exact hw
def ES (x:bU R row h):me h=pH row (bg row h.t.length++h.t.flatten):=by
 have hs:∀ a n,(∀ j,j<n->a+j≠53)->aW h.c a n=aW row a n:=fun a n d=>abr fun j b=>x.I (d j (abd.1 b));unfold me pH bg;rw[hs 2 32 (fun j b=>ah),hs 37 16 (fun j b=>ah),hs 60 32 (fun j b=>ah),x.I (k:=0) aA,x.I (k:=1) aA,x.I (k:=34) aA,x.B (k:=35) aA,x.I (k:=36) aA,x.I (k:=54) aA,x.I (k:=55) aA,x.I (k:=56) aA,x.I (k:=57) aA,x.I (k:=58) aA,x.I (k:=59) aA,x.I (k:=92) aA]
def Lv:(coreS 177).OK Tryz.prog:=by
 refine Spec.aV (Γ:=X4) T8 ?_;rintro xs Hs Rs bc bT ⟨row,R,h,rfl,rfl,hx,h8⟩;have e0:Hs=[]:=aaz.1 bc;subst e0;obtain⟨J,rfl,m,bU,bd,bj,bV⟩:=mV (R:=R) hx.ok;refine⟨yV,J,fun _ q=>∃ i:Nat,q.i 201=i/\i<=h.t.length/\bC (q.h 202) (.pointer (az (q.i 132) 0)) (bg (aE J 0) h.t.length++(h.t.take i).flatten) false,fun _ q=>(h.t.length-q.i 201).toNat,rfl,⟨?_,?_,?_,?_⟩,(fun _ h=>nomatch h),?_⟩
 .intro r hr ho;simp [yV]at hr;subst hr;cases ho
 .intro r hr ho;simp [yV]at hr;subst hr;exact⟨R,aF,by show(J.h 130).le R;rw[m];exact Hl.le_refl _⟩
 .simp [yV]
 .intro r hr;simp [yV]at hr;subst hr;trivial
 .refine aG.read [cy] [] [] ?_;simp only[go_sem,Nat.reduceAdd,X4,er0,er1,er2,er3];intro q1 B p1 q2 g2 p2;have d:=hx.rng;have r1:0<=J.i 1/\J.i 1<18446744073709551616:=d (.int .u64 (J.i 1)) (aaA (i:=1) rfl);have bk:0<=J.i 36/\J.i 36<18446744073709551616:=d (.int .u64 (J.i 36)) (aaA (i:=36) rfl);have bl:0<=J.i 57/\J.i 57<18446744073709551616:=d (.int .u64 (J.i 57)) (aaA (i:=54) rfl);have bm:0<=J.i 58/\J.i 58<18446744073709551616:=d (.int .u64 (J.i 58)) (aaA (i:=55) rfl);have bn:0<=J.i 59/\J.i 59<18446744073709551616:=d (.int .u64 (J.i 59)) (aaA (i:=56) rfl);have bo:0<=J.i 60/\J.i 60<18446744073709551616:=d (.int .u64 (J.i 60)) (aaA (i:=57) rfl);have bp:0<=J.i 61/\J.i 61<18446744073709551616:=d (.int .u64 (J.i 61)) (aaA (i:=58) rfl);have bq:0<=J.i 62/\J.i 62<18446744073709551616:=d (.int .u64 (J.i 62)) (aaA (i:=59) rfl);have hlen:(J.i 55).toNat=h.t.length:=DO hx.tok;have G2:ai 131 J q2:=B.tr g2;have P2:0<=q2.i 131:=by rw[g2.i 131];exact p1
  have h2:bC (Hl.one (q2.i 132).toNat (Obj.cells #[Value.slice (az (-1) 0) (Int.toNat 0) (Int.toNat 0),Value.bool (bh q2 E.ff)] 208 (0,0))) (Value.pointer (az (q2.i 132) 0)) [] false:=by rw[au p2];exact bC.new _
  have l2:([]:List Int).length<=0:=aaS 0;rw[G2.i 0];refine iS h2 (u64_in _) ah fun q3 g3 h3=>?_;have G3:ai 131 J q3:=G2.tr g3;have P3:0<=q3.i 131:=by rw[g3.i 131];exact P2
  rw[<-g3.i 132]at h3;have h3:bC (q3.h _) (.pointer (az (q3.i 132) 0)) (aj (bJ (J.i 0))) false:=h3;have b3:(aj (bJ (J.i 0))).length<=10:=jy (lJ _);have l3:=abi l2 b3;have l3:=b3;rw[G3.i 1];refine iS h3 r1 ah fun q4 g4 h4=>?_;have G4:ai 131 J q4:=G3.tr g4;have P4:0<=q4.i 131:=by rw[g4.i 131];exact P3
  rw[<-g4.i 132]at h4;have h4:bC (q4.h _) (.pointer (az (q4.i 132) 0)) (aj (bJ (J.i 0))++aj (J.i 1).toNat) false:=h4;have b4:(aj (J.i 1).toNat).length<=10:=jy (z:=(J.i 1).toNat) ah;have l4:=abi l3 b4;rw[<-aay]at l4;have aD:=DL (n:=32) P4 (by rw[cX G4.mono];exact hx.ok) Uu;rw[cX G4.mono]at aD;refine yi h4 aD.w ah (by rw[aJ];omega) fun q5 g5 h5=>?_;have G5:ai 131 J q5:=G4.tr g5;have P5:0<=q5.i 131:=by rw[g5.i 131];exact P4
  rw[<-g5.i 132]at h5;have h5:bC (q5.h _) (.pointer (az (q5.i 132) 0)) (aj (bJ (J.i 0))++aj (J.i 1).toNat++aW (aE J 0) 2 32) false:=h5;have b5:(aW (aE J 0) 2 32).length<=32:=adf (aJ _ _ _);have l5:=abi l4 b5;rw[<-aay]at l5;rw[G5.i 34];refine iS h5 (u64_in _) ah fun q6 g6 h6=>?_;have G6:ai 131 J q6:=G5.tr g6;have P6:0<=q6.i 131:=by rw[g6.i 131];exact P5
  rw[<-g6.i 132]at h6;have h6:bC (q6.h _) (.pointer (az (q6.i 132) 0)) (aj (bJ (J.i 0))++aj (J.i 1).toNat++aW (aE J 0) 2 32++aj (bJ (J.i 34))) false:=h6;have b6:(aj (bJ (J.i 34))).length<=10:=jy (lJ _);have l6:=abi l5 b6;rw[<-aay]at l6;rw[bD,G6.b 35];refine N4 h6 ah fun q7 g7 h7=>?_;have G7:ai 131 J q7:=G6.tr g7;have P7:0<=q7.i 131:=by rw[g7.i 131];exact P6
  rw[<-g7.i 132]at h7;have h7:bC (q7.h _) (.pointer (az (q7.i 132) 0)) (aj (bJ (J.i 0))++aj (J.i 1).toNat++aW (aE J 0) 2 32++aj (bJ (J.i 34))++dq (J.b 35)) false:=h7;have b7:(dq (J.b 35)).length<=1:=aaS 1;have l7:=abi l6 b7;rw[<-aay]at l7;rw[G7.i 36];refine iS h7 bk ah fun q8 g8 h8=>?_;have G8:ai 131 J q8:=G7.tr g8;have P8:0<=q8.i 131:=by rw[g8.i 131];exact P7
  rw[<-g8.i 132]at h8;have h8:bC (q8.h _) (.pointer (az (q8.i 132) 0)) (aj (bJ (J.i 0))++aj (J.i 1).toNat++aW (aE J 0) 2 32++aj (bJ (J.i 34))++dq (J.b 35)++aj (J.i 36).toNat) false:=h8;have b8:(aj (J.i 36).toNat).length<=10:=jy (z:=(J.i 36).toNat) ah;have l8:=abi l7 b8;rw[<-aay]at l8;have aH:=DL (n:=16) P8 (by rw[cX G8.mono];exact hx.ok) Ut;rw[cX G8.mono]at aH;refine yi h8 aH.w ah (by rw[aJ];omega) fun q9 g9 h9=>?_;have G9:ai 131 J q9:=G8.tr g9;have P9:0<=q9.i 131:=by rw[g9.i 131];exact P8
  rw[<-g9.i 132]at h9;have h9:bC (q9.h _) (.pointer (az (q9.i 132) 0)) (aj (bJ (J.i 0))++aj (J.i 1).toNat++aW (aE J 0) 2 32++aj (bJ (J.i 34))++dq (J.b 35)++aj (J.i 36).toNat++aW (aE J 0) 37 16) false:=h9;have b9:(aW (aE J 0) 37 16).length<=16:=adf (aJ _ _ _);have l9:=abi l8 b9;rw[<-aay]at l9;rw[G9.i 55];refine⟨bj,?_⟩;have ew:IntKind.u64.wrap (J.i 55)=h.t.length:=by rw[oH ah ah];omega
  rw[ew];refine iS h9 ah ah fun f ad p=>?_;rw[aar]at p;have br:ai 131 J f:=G9.tr ad;have bs:0<=f.i 131:=by rw[ad.i 131];exact P9
  rw[<-ad.i 132]at p;have p:bC (f.h _) (.pointer (az (f.i 132) 0)) (aj (bJ (J.i 0))++aj (J.i 1).toNat++aW (aE J 0) 2 32++aj (bJ (J.i 34))++dq (J.b 35)++aj (J.i 36).toNat++aW (aE J 0) 37 16++aj h.t.length) false:=p;have bt:(aj h.t.length).length<=10:=jy (z:=h.t.length) ah;have ae:=abi l9 bt;rw[<-aay]at ae;have hA:bC (f.h 147) (.pointer (az (f.i 132) 0)) (bg (aE J 0) h.t.length) false:=p;have lA:(bg (aE J 0) h.t.length).length<=99:=ae;refine⟨⟨0,rfl,abJ _,?_⟩,fun q g ⟨i,ei,hi,A⟩=>?_⟩
  .show bC (f.h 147) (.pointer (az (f.i 132) 0)) (bg (aE J 0) h.t.length++(h.t.take 0).flatten) false;rw[acF,ab9,abA];exact hA
  have G:ai 131 J q:=br.tr g;have P:0<=q.i 131:=by rw[g.i 131];exact bs
  have aI:∀ t∈h.t,t.length=16:=fun t ht=>(hx.byte.2 t ht).1;have lF:∀ i,i<=h.t.length->((h.t.take i).flatten).length<=128:=fun i hi=>by
   rw[Dg (fun t ht=>aI t (abo ht)),aaU];omega
  rw[G.i 55,ei];refine⟨fun bW=>?_,fun bX=>?_⟩
  .have af:i<h.t.length:=ah;obtain⟨x,y,c,eS,hy,ag⟩:=id hx.tok;have eS:Value.slice (az (J.i 53) (J.i 54)) (J.i 55).toNat (J.i 56).toNat=.slice (az x y) (h.t.map aM).length c:=eS;rcases ag with hn | ⟨C,hc⟩
   .rw[ab4]at hn;rw[hn]at af;cases af
   simp only[Value.slice.injEq]at eS;obtain⟨s,u⟩:=px C hy bd eS.1;have ht:=aax af;have m1:=hx.byte.2 _ (aaA ht);obtain⟨b1,r1⟩:=wb (J:=q) (h:=130) (X:=.var 53) (Y:=(E.var 54).add ((E.var 201).mul (E.lit 16))) C hy hc ht m1.1 (by rw[G.h 130,m]) (by rw[al,G.i 53,s]) (by
    simp only[bQ,cG,al,ak];rw[G.i 54,u,ei])
   rw[G.i 53,G.i 54,G.h 130,m,s,u];refine⟨C,hy,ah,b1,fun q1 B aL=>?_⟩;have bu:(aY 130 (E.var 53) ((E.var 54).add ((E.var 201).mul (E.lit 16))) 0 (List.replicate 16 (Kd.int .u8))).map (CV.ev q1)=aM h.t[i]:=by
    have:=wb (J:=q1) (h:=130) (X:=.var 53) (Y:=(E.var 54).add ((E.var 201).mul (E.lit 16))) C hy hc ht m1.1 (by rw[B.h 130,G.h 130,m]) (by rw[al,B.i 53,G.i 53,s]) (by
     simp only[bQ,cG,al,ak];rw[B.i 54,B.i 201,G.i 54,u,ei])
    exact this.2
   have bw:=yk (q:=q1) (T:=61) (l:=h.t[i]) (a:=210) (o:=0) (n:=16) (c:=16) aL (cs:=aY 130 (E.var 53) ((E.var 54).add ((E.var 201).mul (E.lit 16))) 0 (List.replicate 16 (Kd.int .u8))) (by
    intro j z hz;rw[bu,aa6];unfold aM;rw[aaL,hz];rfl) m1.1.symm
   rw[<-B.i 132,<-B.h 202]at A;have:=lF i hi;refine yi A bw.w (by rw[aay];omega) ah fun q2 g2 h2=>?_;rw[<-g2.i 132]at h2;have ew:IntKind.i64.wrap (q2.i 201+1)=((i+1:Nat):Int):=by rw[g2.i 201,B.i 201,ei,IntWalk.i64_in _ ah];omega
   refine⟨⟨i+1,ew,ah,?_⟩,?_⟩
   .show bC (q2.h 211) (.pointer (az (q2.i 132) 0)) _ false;rw[abV,ht,ab8,acB,abR,ab9,abA,<-aaV];exact h2
   .show((h.t.length:Int)-IntKind.i64.wrap (q2.i 201+1)).toNat<_;rw[ew];omega
  have bx:i=h.t.length:=ah;rw[bx,abG]at A;have lF:=lF h.t.length (aaS _);rw[abG]at lF;have aO:=abi lA lF;rw[<-aay]at aO;have bz:=A;have aP:=G;have bA:=P;clear A G P hA lA h2 l2 h3 l3 h4 l4 h5 l5 h6 l6 h7 l7 h8 l8 h9 l9 p ae;rw[aP.i 57];refine iS bz bl ah fun D an H=>?_;have aQ:ai 131 J D:=aP.tr an;have bB:0<=D.i 131:=by rw[an.i 131];exact bA
  rw[<-an.i 132]at H;have H:bC (D.h _) (.pointer (az (D.i 132) 0)) (bg (aE J 0) h.t.length++h.t.flatten++aj (J.i 57).toNat) false:=H;have bE:(aj (J.i 57).toNat).length<=10:=jy (z:=(J.i 57).toNat) ah;have aR:=abi aO bE;rw[<-aay]at aR;rw[aQ.i 58];refine iS H bm ah fun I ao K=>?_;have aS:ai 131 J I:=aQ.tr ao;have bF:0<=I.i 131:=by rw[ao.i 131];exact bB
  rw[<-ao.i 132]at K;have K:bC (I.h _) (.pointer (az (I.i 132) 0)) (bg (aE J 0) h.t.length++h.t.flatten++aj (J.i 57).toNat++aj (J.i 58).toNat) false:=K;have bG:(aj (J.i 58).toNat).length<=10:=jy (z:=(J.i 58).toNat) ah;have aT:=abi aR bG;rw[<-aay]at aT;rw[aS.i 59];refine iS K bn ah fun L aq M=>?_;have aU:ai 131 J L:=aS.tr aq;have bH:0<=L.i 131:=by rw[aq.i 131];exact bF
  rw[<-aq.i 132]at M;have M:bC (L.h _) (.pointer (az (L.i 132) 0)) (bg (aE J 0) h.t.length++h.t.flatten++aj (J.i 57).toNat++aj (J.i 58).toNat++aj (J.i 59).toNat) false:=M;have bI:(aj (J.i 59).toNat).length<=10:=jy (z:=(J.i 59).toNat) ah;have aX:=abi aT bI;rw[<-aay]at aX;rw[aU.i 60];refine iS M bo ah fun N ar O=>?_;have aZ:ai 131 J N:=aU.tr ar;have bK:0<=N.i 131:=by rw[ar.i 131];exact bH
  rw[<-ar.i 132]at O;have O:bC (N.h _) (.pointer (az (N.i 132) 0)) (bg (aE J 0) h.t.length++h.t.flatten++aj (J.i 57).toNat++aj (J.i 58).toNat++aj (J.i 59).toNat++aj (J.i 60).toNat) false:=O;have bL:(aj (J.i 60).toNat).length<=10:=jy (z:=(J.i 60).toNat) ah;have a1:=abi aX bL;rw[<-aay]at a1;rw[aZ.i 61];refine iS O bp ah fun Q av S=>?_;have a2:ai 131 J Q:=aZ.tr av;have bM:0<=Q.i 131:=by rw[av.i 131];exact bK
  rw[<-av.i 132]at S;have S:bC (Q.h _) (.pointer (az (Q.i 132) 0)) (bg (aE J 0) h.t.length++h.t.flatten++aj (J.i 57).toNat++aj (J.i 58).toNat++aj (J.i 59).toNat++aj (J.i 60).toNat++aj (J.i 61).toNat) false:=S;have bN:(aj (J.i 61).toNat).length<=10:=jy (z:=(J.i 61).toNat) ah;have a6:=abi a1 bN;rw[<-aay]at a6;rw[a2.i 62];refine iS S bq ah fun U aw V=>?_;have ax:ai 131 J U:=a2.tr aw;have a7:0<=U.i 131:=by rw[aw.i 131];exact bM
  rw[<-aw.i 132]at V;have V:bC (U.h _) (.pointer (az (U.i 132) 0)) (bg (aE J 0) h.t.length++h.t.flatten++aj (J.i 57).toNat++aj (J.i 58).toNat++aj (J.i 59).toNat++aj (J.i 60).toNat++aj (J.i 61).toNat++aj (J.i 62).toNat) false:=V;have bO:(aj (J.i 62).toNat).length<=10:=jy (z:=(J.i 62).toNat) ah;have a8:=abi a6 bO;rw[<-aay]at a8;have ab:=DL (n:=32) a7 (by rw[cX ax.mono];exact hx.ok) WS;rw[cX ax.mono]at ab;refine yi V ab.w ah (by rw[aJ];omega) fun W ay Z=>?_;have ba:ai 131 J W:=ax.tr ay;have bP:0<=W.i 131:=by rw[ay.i 131];exact a7
  rw[<-ay.i 132]at Z;have Z:bC (W.h _) (.pointer (az (W.i 132) 0)) (bg (aE J 0) h.t.length++h.t.flatten++aj (J.i 57).toNat++aj (J.i 58).toNat++aj (J.i 59).toNat++aj (J.i 60).toNat++aj (J.i 61).toNat++aj (J.i 62).toNat++aW (aE J 0) 60 32) false:=Z;have bR:(aW (aE J 0) 60 32).length<=32:=adf (aJ _ _ _);have bb:=abi a8 bR;rw[<-aay]at bb;rw[ba.i 95];refine iS Z (u64_in _) ah fun aa aB v=>?_;have bY:ai 131 J aa:=ba.tr aB;have b0:0<=aa.i 131:=by rw[aB.i 131];exact bP
  rw[<-aB.i 132]at v;have v:bC (aa.h _) (.pointer (az (aa.i 132) 0)) (bg (aE J 0) h.t.length++h.t.flatten++aj (J.i 57).toNat++aj (J.i 58).toNat++aj (J.i 59).toNat++aj (J.i 60).toNat++aj (J.i 61).toNat++aj (J.i 62).toNat++aW (aE J 0) 60 32++aj (bJ (J.i 95))) false:=v;have bS:(aj (bJ (J.i 95))).length<=10:=jy (lJ _);have aC:=abi bb bS;rw[<-aay]at aC;refine⟨⟨_,_,_,false,rfl,rfl,v,ah⟩,fun q g ⟨F,hp,hF,hn⟩=>?_⟩;have A:=NU v hp;have eR:rW (pH (aE J 0) (bg (aE J 0) h.t.length++h.t.flatten)) false=(pH (aE J 0) (bg (aE J 0) h.t.length++h.t.flatten),0):=by
   unfold rW;have aC:(pH (aE J 0) (bg (aE J 0) h.t.length++h.t.flatten)).length<=1000:=acz aC ah;rw[aaG (by rintro(e | e);exact absurd e aA;omega)]
  have A:bZ F _ _ (rW (pH (aE J 0) (bg (aE J 0) h.t.length++h.t.flatten)) false).1:=A;rw[eR,<-ES hx]at A;have hF:q.h 226=F:=hF (by simp [aK,Cp.roots,Ck.root]);refine fun _=>⟨[],[3],rfl,rfl,⟨(bf fun k=>q.i (226+k)),rfl,hn.1,zzT⟩,_,R,h,rfl,rfl,hx,?_⟩;show bZ (di [q.h 226]) _ _ _;rw[aN,hF];exact A
def Xj:List Sx.Spec:=[Ch]
def Vb:∀ t∈Xj,t.OK Tryz.prog:=fun t a=>by
 simp only[Xj,aaN,aaX,abC]at a;subst a;exact PI
def ZG:Ch.res=[.one .sl]:=rfl
def Sa (n:Nat):(aK n [Cp.one .sl]≠[])=True:=by simp [aK,Cp.roots,Ck.root]
def Ao:aG Tryz.prog Xj 108 where
 Λ:=fun p=>if cutAt p [108,1,1,1,1,1,1,0]then some ⟨1,[(4,TI .u8 (.var 200))],[],201⟩else if decide (p.length=15)&&!(p.head?==some 99)then some ⟨0,[(3,.sv (.one (.sl (.var 310) (.lit 0) (.var 311) (.var 312)))),(5,TI .i64 (.var 313))],[(2,.hp 314 [] [.var 310] [])],320⟩else none
 args:=(cA 0 [.agg cy]).map .sv
 mem:=[.ro 130 [.var 53] false]
 nv:=131
def kY (f:0<=z/\z<18446744073709551616) (k:∀ q',ai n q q'->q'.i (n+2)=(aj z.toNat).length-> -1<=q'.i n->0<=q'.i (n+1)->bZ (q'.h n) 5 (.slice (az (q'.i n) (q'.i (n+1))) (((aj z.toNat).length:Int)).toNat (q'.i (n+3)).toNat) (aj z.toNat)->K q') :
 Ch.pre [.int .u64 z] [] []/\∀ q',ai n q q'->(∃ F,Ch.post [.int .u64 z] [] [] (.slice (az (q'.i n) (q'.i (n+1))) (q'.i (n+2)).toNat (q'.i (n+3)).toNat) [] F/\(True->q'.h n=F)/\ft n [.one .sl] q')->K q':=by
 refine⟨⟨z,rfl,f⟩,fun q' g ⟨F,⟨l,a,b⟩,j,hn,_⟩=>?_⟩;simp only[aaC,Value.int.injEq,abk,aaP]at a;subst a;have hn:-1<=q'.i n/\0<=q'.i (n+1)/\0<=q'.i (n+2)/\0<=q'.i (n+3):=hn;rw[<-j zzT]at b;have e:(q'.i (n+2)).toNat=(aj z.toNat).length:=by
  obtain⟨x,y,c,e,_⟩:=b.rd;simp only[Value.slice.injEq]at e;exact e.2.1
 have d:q'.i (n+2)=(aj z.toNat).length:=ah;refine k q' g d hn.1 hn.2.1 ?_;rw[<-d];exact b
def FT {A B:Hl} {c x1 c1:Int} (ho:bZ A 5 (.slice (az x y) ((bs.length:Int)).toNat c.toNat) bs) (hm:m=bs2.length)
 (happ:∀ xs,aP A 5 1 (.slice (az x y) ((bs.length:Int)).toNat c.toNat) ((bs.length:Int)).toNat xs->aP B 5 1 (.slice (az x1 0) (((bs.length:Int)).toNat+m) c1.toNat) (((bs.length:Int)).toNat+m) (xs++aM bs2)):bZ B 5 (.slice (az x1 0) (((bs++bs2).length:Int)).toNat c1.toNat) (bs++bs2):=by
 have h1:aP A 5 1 (.slice (az x y) ((bs.length:Int)).toNat c.toNat) ((bs.length:Int)).toNat (aM bs):=by
  have:=ho;unfold bZ at this;rwa[aar]at this ⊢
 have h2:=happ _ h1;unfold bZ;rw[aar,aay,ia];rw[aar,hm]at h2;exact h2
def kO {A S:Hl} {c a b:Int} (h:bZ A 5 (.slice (az x y) ((B.length:Int)).toNat c.toNat) B) (f:-1<=a) (d:0<=b) (h2:oI S (.slice (az a b) b2.length sc) b2) (hl:B.length<=900000) (o:b2.length<=90000)
 (k:∀ q',ai n q q'-> -1<=q'.i n->0<=q'.i (n+1)->bZ (q'.h n) 5 (.slice (az (q'.i n) 0) (((B++b2).length:Int)).toNat (q'.i (n+1)).toNat) (B++b2)->K q') :
 ((∃ xs,aP A 5 1 (.slice (az x y) ((B.length:Int)).toNat c.toNat) ((B.length:Int)).toNat xs)/\0<=(B.length:Int)/\((0<=a/\0<=b/\0<=(b2.length:Int)/\∀ j:Nat,j<((b2.length:Int)).toNat->∃ v,S.cell a.toNat (b.toNat+j)=some v/\v.oneCell'=true)\/(b2.length:Int)=0)/\((B.length:Int)).toNat+((b2.length:Int)).toNat<=maxLen/\((B.length:Int)).toNat+((b2.length:Int)).toNat<=140737488355328) /\
 ∀ q',ai n q q'->(-1<=q'.i n/\0<=q'.i (n+1)/\(∀ xs,aP A 5 1 (.slice (az x y) ((B.length:Int)).toNat c.toNat) ((B.length:Int)).toNat xs->aP (q'.h n) 5 1 (.slice (az (q'.i n) 0) (((B.length:Int)).toNat+((b2.length:Int)).toNat) (q'.i (n+1)).toNat) (((B.length:Int)).toNat+((b2.length:Int)).toNat) (xs++cn S a.toNat b.toNat ((b2.length:Int)).toNat))/\D q')->K q':=by
 have hr:b2=[]\/0<=a/\∀ j z,b2[j]?=some z->S.cell a.toNat (b.toNat+j)=some (.int .u8 z):=by
  have m:oI S (.slice (az a b) ((b2.length:Int)).toNat ((sc:Int)).toNat) b2:=by rw[aar,aar];exact h2
  obtain⟨_,hr⟩:=m.at f d ah;exact hr.imp (·.2) id
 obtain⟨hok,e⟩:=tj (R:=S) (x:=a) (y:=b) (l:=(b2.length:Int)) rfl d hr;refine⟨⟨⟨aM B,?_⟩,ah,hok,by rw[aar,aar];unfold maxLen;omega,by rw[aar,aar];omega⟩,fun q' g ⟨p,r,a3,_⟩=>k q' g p r ?_⟩
 .have:=h;unfold bZ at this;rwa[aar]at this ⊢
 .rw[e]at a3;exact FT h (aar _) a3
def vg {A:Hl} {c:Int} (h:bZ A 5 (.slice (az x y) ((B.length:Int)).toNat c.toNat) B) (hv:vs=aM b2) (hm:m=b2.length) (hl:B.length<=900000) (a:b2.length<=90000)
 (k:∀ q',ai n q q'-> -1<=q'.i n->0<=q'.i (n+1)->bZ (q'.h n) 5 (.slice (az (q'.i n) 0) (((B++b2).length:Int)).toNat (q'.i (n+1)).toNat) (B++b2)->K q') :
 ((∃ xs,aP A 5 1 (.slice (az x y) ((B.length:Int)).toNat c.toNat) ((B.length:Int)).toNat xs)/\0<=(B.length:Int)/\((B.length:Int)).toNat+m<=maxLen/\((B.length:Int)).toNat+m<=140737488355328) /\
 ∀ q',ai n q q'->(-1<=q'.i n/\0<=q'.i (n+1)/\(∀ xs,aP A 5 1 (.slice (az x y) ((B.length:Int)).toNat c.toNat) ((B.length:Int)).toNat xs->aP (q'.h n) 5 1 (.slice (az (q'.i n) 0) (((B.length:Int)).toNat+m) (q'.i (n+1)).toNat) (((B.length:Int)).toNat+m) (xs++vs))/\D q')->K q':=by
 refine⟨⟨⟨aM B,?_⟩,ah,by rw[aar];unfold maxLen;omega,by rw[aar];omega⟩,fun q' g ⟨b,d,a3,_⟩=>k q' g b d ?_⟩
 .have:=h;unfold bZ at this;rwa[aar]at this ⊢
 .rw[hv]at a3;exact FT h hm a3
def Af {p:Option Addr} (h:bZ F 5 (.slice p ((n:Int)).toNat c) bs) (hn:n=bs.length):oI F (.slice p bs.length c) bs:=by
 subst hn;have:=h.rd;rwa[aar]at this
def QX (q:Env):(ar 2 (List.replicate 32 (Ck.int .u8))).map (CV.ev q)=aM (aW (aE q 0) 2 32):=rfl
def QW (q:Env):(ar 37 (List.replicate 16 (Ck.int .u8))).map (CV.ev q)=aM (aW (aE q 0) 37 16):=rfl
def T3 (q:Env):(ar 63 (List.replicate 32 (Ck.int .u8))).map (CV.ev q)=aM (aW (aE q 0) 60 32):=rfl
def JH (q:Env):(ar 96 (List.replicate 32 (Ck.int .u8))).map (CV.ev q)=aM (aW (aE q 0) 93 32):=rfl
def Mo:(coreS 108).OK Tryz.prog:=by
 refine Spec.aV (Γ:=Xj) Vb ?_;rintro xs Hs Rs b4 da ⟨row,R,h,rfl,rfl,hx,h8⟩;have e0:Hs=[]:=aaz.1 b4;subst e0;obtain⟨J,rfl,aZ,db,b5,b7,dc⟩:=mV (R:=R) hx.ok;refine⟨Ao,J,fun j q=>if j=1 then q.i 200=(if J.b 35=true then 1 else 0)else ∃ i:Nat,q.i 313=i/\i<=h.t.length/\ -1<=q.i 310/\0<=q.i 312/\q.i 311=((bg (aE J 0) h.t.length++(h.t.take i).flatten).length:Int)/\bZ (q.h 314) 5 (.slice (az (q.i 310) 0) (((bg (aE J 0) h.t.length++(h.t.take i).flatten).length:Int)).toNat (q.i 312).toNat) (bg (aE J 0) h.t.length++(h.t.take i).flatten),fun _ q=>(h.t.length-q.i 313).toNat,rfl,⟨?_,?_,?_,?_⟩,(fun _ h=>nomatch h),?_⟩
 .intro r hr ho;simp [Ao]at hr;subst hr;cases ho
 .intro r hr ho;simp [Ao]at hr;subst hr;exact⟨R,aF,by show(J.h 130).le R;rw[aZ];exact Hl.le_refl _⟩
 .simp [Ao]
 .intro r hr;simp [Ao]at hr;subst hr;trivial
 .refine aG.read [] [] [] ?_;simp only[go_sem,Nat.reduceAdd,Xj,ZG,Sa];intro q1 g1 p1;have A:=hx.rng;have r1:0<=J.i 1/\J.i 1<18446744073709551616:=A (.int .u64 (J.i 1)) (aaA (i:=1) rfl);have b8:0<=J.i 36/\J.i 36<18446744073709551616:=A (.int .u64 (J.i 36)) (aaA (i:=36) rfl);have b9:0<=J.i 57/\J.i 57<18446744073709551616:=A (.int .u64 (J.i 57)) (aaA (i:=54) rfl);have ca:0<=J.i 58/\J.i 58<18446744073709551616:=A (.int .u64 (J.i 58)) (aaA (i:=55) rfl);have cb:0<=J.i 59/\J.i 59<18446744073709551616:=A (.int .u64 (J.i 59)) (aaA (i:=56) rfl);have cc:0<=J.i 60/\J.i 60<18446744073709551616:=A (.int .u64 (J.i 60)) (aaA (i:=57) rfl);have cd:0<=J.i 61/\J.i 61<18446744073709551616:=A (.int .u64 (J.i 61)) (aaA (i:=58) rfl);have cf:0<=J.i 62/\J.i 62<18446744073709551616:=A (.int .u64 (J.i 62)) (aaA (i:=59) rfl);have hlen:(J.i 55).toNat=h.t.length:=DO hx.tok;have G1:ai 131 J q1:=g1.mono;rw[G1.i 0];refine kY (u64_in _) fun q2 g2 N2 X2 Y2 h2=>?_;have G2:ai 131 J q2:=G1.tr g2;have N2:q2.i 134=((aj (bJ (J.i 0))).length:Int):=N2;have h2:bZ (q2.h 132) _ (.slice (az (q2.i 132) (q2.i 133)) (((aj (bJ (J.i 0))).length:Int)).toNat (q2.i 135).toNat) (aj (bJ (J.i 0))):=h2;have b2:(aj (bJ (J.i 0))).length<=10:=jy (lJ (J.i 0));rw[G2.i 1];refine kY r1 fun q3 g3 N3 X3 Y3 h3=>?_;have G3:ai 131 J q3:=G2.tr g3;have N3:q3.i 138=((aj (J.i 1).toNat).length:Int):=N3;have h3:bZ (q3.h 136) _ (.slice (az (q3.i 136) (q3.i 137)) (((aj (J.i 1).toNat).length:Int)).toNat (q3.i 139).toNat) (aj (J.i 1).toNat):=h3;have b3:(aj (J.i 1).toNat).length<=10:=jy (z:=(J.i 1).toNat) ah;rw[<-g3.h 132,<-g3.i 132,<-g3.i 135,<-g3.i 133]at h2;rw[<-g3.i 134]at N2;rw[N2,N3];refine kO h2 X3 Y3 (Af h3 rfl) ah ah fun q4 g4 A4 C4 h4=>?_;have G4:ai 131 J q4:=G3.tr g4;have h4:bZ (q4.h 140) _ (.slice (az (q4.i 140) 0) (((aj (bJ (J.i 0))++aj (J.i 1).toNat).length:Int)).toNat (q4.i 141).toNat) (aj (bJ (J.i 0))++aj (J.i 1).toNat):=h4;have cg:(aj (bJ (J.i 0))++aj (J.i 1).toNat).length<=20:=by rw[aay];exact abi b2 b3
  have L4:q4.i 134+q4.i 138=((aj (bJ (J.i 0))++aj (J.i 1).toNat).length:Int):=by rw[g4.i 134,g4.i 138,N2,N3,aay (bs:=aj (J.i 1).toNat)];first | (rw[aJ];omega) | (show _=((_+1:Nat):Int);omega) | omega
  rw[L4];refine vg (b2:=aW (aE J 0) 2 32) h4 (by rw[<-cX G4.mono];exact QX q4) (aJ _ _ _).symm ah (by rw[aJ];omega) fun q5 g5 A5 C5 h5=>?_;have G5:ai 131 J q5:=G4.tr g5;have h5:bZ (q5.h 142) _ (.slice (az (q5.i 142) 0) (((aj (bJ (J.i 0))++aj (J.i 1).toNat++aW (aE J 0) 2 32).length:Int)).toNat (q5.i 143).toNat) (aj (bJ (J.i 0))++aj (J.i 1).toNat++aW (aE J 0) 2 32):=h5;have ch:(aj (bJ (J.i 0))++aj (J.i 1).toNat++aW (aE J 0) 2 32).length<=52:=by rw[aay];exact abi cg (adf (aJ _ _ _))
  have L5:q5.i 134+q5.i 138+32=((aj (bJ (J.i 0))++aj (J.i 1).toNat++aW (aE J 0) 2 32).length:Int):=by rw[g5.i 134,g5.i 138,L4,aay (bs:=aW (aE J 0) 2 32)];first | (rw[aJ];omega) | (show _=((_+1:Nat):Int);omega) | omega
  rw[G5.i 34];refine kY (u64_in _) fun q6 g6 N6 X6 Y6 h6=>?_;have G6:ai 131 J q6:=G5.tr g6;have N6:q6.i 146=((aj (bJ (J.i 34))).length:Int):=N6;have h6:bZ (q6.h 144) _ (.slice (az (q6.i 144) (q6.i 145)) (((aj (bJ (J.i 34))).length:Int)).toNat (q6.i 147).toNat) (aj (bJ (J.i 34))):=h6;have b6:(aj (bJ (J.i 34))).length<=10:=jy (lJ (J.i 34));rw[<-g6.h 142,<-g6.i 142,<-g6.i 143]at h5;rw[<-g6.i 134,<-g6.i 138]at L5;rw[L5,N6];refine kO h5 X6 Y6 (Af h6 rfl) ah ah fun q7 g7 A7 C7 h7=>?_;have G7:ai 131 J q7:=G6.tr g7;have h7:bZ (q7.h 148) _ (.slice (az (q7.i 148) 0) (((aj (bJ (J.i 0))++aj (J.i 1).toNat++aW (aE J 0) 2 32++aj (bJ (J.i 34))).length:Int)).toNat (q7.i 149).toNat) (aj (bJ (J.i 0))++aj (J.i 1).toNat++aW (aE J 0) 2 32++aj (bJ (J.i 34))):=h7;have cj:(aj (bJ (J.i 0))++aj (J.i 1).toNat++aW (aE J 0) 2 32++aj (bJ (J.i 34))).length<=62:=by rw[aay];exact abi ch b6
  have L7:q7.i 134+q7.i 138+32+q7.i 146=((aj (bJ (J.i 0))++aj (J.i 1).toNat++aW (aE J 0) 2 32++aj (bJ (J.i 34))).length:Int):=by rw[g7.i 134,g7.i 138,g7.i 146,L5,N6,aay (bs:=aj (bJ (J.i 34)))];first | (rw[aJ];omega) | (show _=((_+1:Nat):Int);omega) | omega
  rw[G7.b 35];refine⟨⟨fun hc=>?_,fun hc=>?_⟩,fun q8 g8 a1=>?_⟩
  .show(1:Int)=_;rw[aaR hc]
  .show(0:Int)=_;rw[aaG hc]
  have G8:ai 131 J q8:=G7.tr g8;rw[<-g8.h 148,<-g8.i 148,<-g8.i 149]at h7;rw[<-g8.i 134,<-g8.i 138,<-g8.i 146]at L7;intro q9 g9 _;rw[<-g9.i 200]at a1;have G9:ai 131 J q9:=G8.tr g9;rw[<-g9.h 148,<-g9.i 148,<-g9.i 149]at h7;rw[<-g9.i 134,<-g9.i 138,<-g9.i 146]at L7;rw[L7];refine vg (b2:=dq (J.b 35)) h7 (by show [Value.int .u8 (q9.i 200)]=_;rw[a1];rfl) rfl ah (by show 1<=90000;omega) fun L av dd de af=>?_;have bz:ai 131 J L:=G9.tr av;have af:bZ (L.h 202) _ (.slice (az (L.i 202) 0) (((aj (bJ (J.i 0))++aj (J.i 1).toNat++aW (aE J 0) 2 32++aj (bJ (J.i 34))++dq (J.b 35)).length:Int)).toNat (L.i 203).toNat) (aj (bJ (J.i 0))++aj (J.i 1).toNat++aW (aE J 0) 2 32++aj (bJ (J.i 34))++dq (J.b 35)):=af;have bA:(aj (bJ (J.i 0))++aj (J.i 1).toNat++aW (aE J 0) 2 32++aj (bJ (J.i 34))++dq (J.b 35)).length<=63:=by rw[aay];exact abi cj (aaS 1)
  have a2:L.i 134+L.i 138+32+L.i 146+1=((aj (bJ (J.i 0))++aj (J.i 1).toNat++aW (aE J 0) 2 32++aj (bJ (J.i 34))++dq (J.b 35)).length:Int):=by rw[av.i 134,av.i 138,av.i 146,L7,aay (bs:=dq (J.b 35))];first | (rw[aJ];omega) | (show _=((_+1:Nat):Int);omega) | omega
  rw[bz.i 36];refine kY b8 fun Q M aw ck cl ax=>?_;have cm:ai 131 J Q:=bz.tr M;have aw:Q.i 206=((aj (J.i 36).toNat).length:Int):=aw;have ax:bZ (Q.h 204) _ (.slice (az (Q.i 204) (Q.i 205)) (((aj (J.i 36).toNat).length:Int)).toNat (Q.i 207).toNat) (aj (J.i 36).toNat):=ax;have cn:(aj (J.i 36).toNat).length<=10:=jy (z:=(J.i 36).toNat) ah;rw[<-M.h 202,<-M.i 202,<-M.i 203]at af;rw[<-M.i 134,<-M.i 138,<-M.i 146]at a2;rw[a2,aw];refine kO af ck cl (Af ax rfl) ah ah fun s ag df dg ay=>?_;have bB:ai 131 J s:=cm.tr ag;have ay:bZ (s.h 208) _ (.slice (az (s.i 208) 0) (((aj (bJ (J.i 0))++aj (J.i 1).toNat++aW (aE J 0) 2 32++aj (bJ (J.i 34))++dq (J.b 35)++aj (J.i 36).toNat).length:Int)).toNat (s.i 209).toNat) (aj (bJ (J.i 0))++aj (J.i 1).toNat++aW (aE J 0) 2 32++aj (bJ (J.i 34))++dq (J.b 35)++aj (J.i 36).toNat):=ay;have bC:(aj (bJ (J.i 0))++aj (J.i 1).toNat++aW (aE J 0) 2 32++aj (bJ (J.i 34))++dq (J.b 35)++aj (J.i 36).toNat).length<=73:=by rw[aay];exact abi bA cn
  have bD:s.i 134+s.i 138+32+s.i 146+1+s.i 206=((aj (bJ (J.i 0))++aj (J.i 1).toNat++aW (aE J 0) 2 32++aj (bJ (J.i 34))++dq (J.b 35)++aj (J.i 36).toNat).length:Int):=by rw[ag.i 134,ag.i 138,ag.i 146,ag.i 206,a2,aw,aay (bs:=aj (J.i 36).toNat)];first | (rw[aJ];omega) | (show _=((_+1:Nat):Int);omega) | omega
  rw[bD];refine vg (b2:=aW (aE J 0) 37 16) ay (by rw[<-cX bB.mono];exact QW s) (aJ _ _ _).symm ah (by rw[aJ];omega) fun B ak dh dj al=>?_;have bE:ai 131 J B:=bB.tr ak;have al:bZ (B.h 210) _ (.slice (az (B.i 210) 0) (((aj (bJ (J.i 0))++aj (J.i 1).toNat++aW (aE J 0) 2 32++aj (bJ (J.i 34))++dq (J.b 35)++aj (J.i 36).toNat++aW (aE J 0) 37 16).length:Int)).toNat (B.i 211).toNat) (aj (bJ (J.i 0))++aj (J.i 1).toNat++aW (aE J 0) 2 32++aj (bJ (J.i 34))++dq (J.b 35)++aj (J.i 36).toNat++aW (aE J 0) 37 16):=al;have bF:(aj (bJ (J.i 0))++aj (J.i 1).toNat++aW (aE J 0) 2 32++aj (bJ (J.i 34))++dq (J.b 35)++aj (J.i 36).toNat++aW (aE J 0) 37 16).length<=89:=by rw[aay];exact abi bC (adf (aJ _ _ _))
  have a6:B.i 134+B.i 138+32+B.i 146+1+B.i 206+16=((aj (bJ (J.i 0))++aj (J.i 1).toNat++aW (aE J 0) 2 32++aj (bJ (J.i 34))++dq (J.b 35)++aj (J.i 36).toNat++aW (aE J 0) 37 16).length:Int):=by rw[ak.i 134,ak.i 138,ak.i 146,ak.i 206,bD,aay (bs:=aW (aE J 0) 37 16)];first | (rw[aJ];omega) | (show _=((_+1:Nat):Int);omega) | omega
  rw[bE.i 55];refine⟨b7,?_⟩;have ew:IntKind.u64.wrap (J.i 55)=h.t.length:=by rw[oH ah ah];omega
  rw[ew];refine kY ah fun S C an cp cq ao=>?_;rw[aar]at an ao;have cr:ai 131 J S:=bE.tr C;have an:S.i 214=((aj h.t.length).length:Int):=an;have ao:bZ (S.h 212) _ (.slice (az (S.i 212) (S.i 213)) (((aj h.t.length).length:Int)).toNat (S.i 215).toNat) (aj h.t.length):=ao;have ct:(aj h.t.length).length<=10:=jy (z:=h.t.length) ah;rw[<-C.h 210,<-C.i 210,<-C.i 211]at al;rw[<-C.i 134,<-C.i 138,<-C.i 146,<-C.i 206]at a6;rw[a6,an];refine kO al cp cq (Af ao rfl) ah ah fun d T cu cv aA=>?_;have cw:ai 131 J d:=cr.tr T;have aA:bZ (d.h 216) _ (.slice (az (d.i 216) 0) (((aj (bJ (J.i 0))++aj (J.i 1).toNat++aW (aE J 0) 2 32++aj (bJ (J.i 34))++dq (J.b 35)++aj (J.i 36).toNat++aW (aE J 0) 37 16++aj h.t.length).length:Int)).toNat (d.i 217).toNat) (aj (bJ (J.i 0))++aj (J.i 1).toNat++aW (aE J 0) 2 32++aj (bJ (J.i 34))++dq (J.b 35)++aj (J.i 36).toNat++aW (aE J 0) 37 16++aj h.t.length):=aA;have bG:(aj (bJ (J.i 0))++aj (J.i 1).toNat++aW (aE J 0) 2 32++aj (bJ (J.i 34))++dq (J.b 35)++aj (J.i 36).toNat++aW (aE J 0) 37 16++aj h.t.length).length<=99:=by rw[aay];exact abi bF ct
  have cx:d.i 134+d.i 138+32+d.i 146+1+d.i 206+16+d.i 214=((aj (bJ (J.i 0))++aj (J.i 1).toNat++aW (aE J 0) 2 32++aj (bJ (J.i 34))++dq (J.b 35)++aj (J.i 36).toNat++aW (aE J 0) 37 16++aj h.t.length).length:Int):=by rw[T.i 134,T.i 138,T.i 146,T.i 206,T.i 214,a6,an,aay (bs:=aj h.t.length)];first | (rw[aJ];omega) | (show _=((_+1:Nat):Int);omega) | omega
  have hA:bZ (d.h 216) _ (.slice (az (d.i 216) 0) (((bg (aE J 0) h.t.length).length:Int)).toNat (d.i 217).toNat) (bg (aE J 0) h.t.length):=aA;have lA:(bg (aE J 0) h.t.length).length<=99:=bG;have LA:d.i 134+d.i 138+32+d.i 146+1+d.i 206+16+d.i 214=((bg (aE J 0) h.t.length).length:Int):=cx;have bH:∀ t∈h.t,t.length=16:=fun t ht=>(hx.byte.2 t ht).1;have lF:∀ i,i<=h.t.length->((h.t.take i).flatten).length<=128:=fun i hi=>by
   rw[Dg (fun t ht=>bH t (abo ht)),aaU];omega
  refine⟨⟨0,rfl,abJ _,cu,cv,?_,?_⟩,fun q g hinv=>?_⟩
  .show d.i 134+d.i 138+32+d.i 146+1+d.i 206+16+d.i 214=_;rw[acF,ab9,abA];exact LA
  .show bZ (d.h 216) _ (.slice (az (d.i 216) 0) _ (d.i 217).toNat) _;rw[acF,ab9,abA];exact hA
  have G:ai 131 J q:=cw.tr g;clear h2 h3 h4 h5 h6 h7 af ax ay al ao aA hA LA;obtain⟨i,ei,hi,A0,C0,f,hO⟩:=hinv;rw[G.i 55,ei];refine⟨fun dk=>?_,fun dm=>?_⟩
  .have a7:i<h.t.length:=ah;obtain⟨x,y,c,eS,hy,a8⟩:=id hx.tok;have eS:Value.slice (az (J.i 53) (J.i 54)) (J.i 55).toNat (J.i 56).toNat=.slice (az x y) (h.t.map aM).length c:=eS;rcases a8 with hn | ⟨ba,hc⟩
   .rw[ab4]at hn;rw[hn]at a7;cases a7
   simp only[Value.slice.injEq]at eS;obtain⟨bI,bK⟩:=px ba hy b5 eS.1;have ht:=aax a7;have m1:=hx.byte.2 _ (aaA ht);have aq:=(hc i (aM h.t[i]) (by rw[aaL,ht];rfl)).2;have aB:pQ.length=16:=rfl;rw[aB]at aq;have cy:oI R (.slice (az x (y+(i:Int)*16)) h.t[i].length 16) h.t[i]:=⟨x,y+(i:Int)*16,16,rfl,ah,Or.inr ⟨ba,fun j z hz=>by
    rw[show(y+(i:Int)*16).toNat+j=y.toNat+i*16+j by omega];exact aq j _ (by unfold aM;rw[aaL,hz];rfl)⟩⟩
   have dn:(16:Int)=(h.t[i].length:Int):=by rw[m1.1];rfl
   have:=lF i hi;rw[G.i 53,G.i 54,G.h 130,aZ,bI,bK,f];refine⟨ba,hy,ah,?_⟩;have key:=fun K k=>kO (q:=q) (n:=320) (D:=fun q'=>(∀ b:Nat,(q.h 314).mem b->some b≠(Value.slice (az (q.i 310) 0) (((bg (aE J 0) h.t.length++(List.take i h.t).flatten).length:Int)).toNat (q.i 312).toNat).ownBlock->q'.h 320 b=q.h 314 b)/\((∀ b:Nat,(q'.h 320).mem b->(q.h 314).mem b\/b=(q'.i 320).toNat/\0<=q'.i 320)/\∀ xs,aP (q.h 314) 5 1 (Value.slice (az (q.i 310) 0) (((bg (aE J 0) h.t.length++(List.take i h.t).flatten).length:Int)).toNat (q.i 312).toNat) (((bg (aE J 0) h.t.length++(List.take i h.t).flatten).length:Int)).toNat xs->aP (q'.h 320) 5 1 (Value.slice (az (q.i 310) 0) (((bg (aE J 0) h.t.length++(List.take i h.t).flatten).length:Int)).toNat (q.i 312).toNat) (((bg (aE J 0) h.t.length++(List.take i h.t).flatten).length:Int)).toNat xs)/\(some (q'.i 320).toNat=(Value.slice (az (q.i 310) 0) (((bg (aE J 0) h.t.length++(List.take i h.t).flatten).length:Int)).toNat (q.i 312).toNat).ownBlock\/¬(q.h 314).mem (q'.i 320).toNat\/q'.i 320= -1)) (K:=K) hO ah ah cy (by rw[aay];omega) ah k;rw[m1.1]at key;refine key _ fun q1 g1 A1 C1 h1=>?_;have ew:IntKind.i64.wrap (q1.i 313+1)=((i+1:Nat):Int):=by rw[g1.i 313,ei,IntWalk.i64_in _ ah];omega
   have eB:bg (aE J 0) h.t.length++(h.t.take i).flatten++h.t[i]=bg (aE J 0) h.t.length++(h.t.take (i+1)).flatten:=by rw[abV,ht,ab8,acB,abR,ab9,abA,aaV]
   have lB:((bg (aE J 0) h.t.length++(h.t.take i).flatten).length:Int)+16=((bg (aE J 0) h.t.length++(h.t.take (i+1)).flatten).length:Int):=by rw[<-eB,aay (bs:=h.t[i])];omega
   rw[eB]at h1;refine⟨⟨i+1,ew,ah,A1,C1,?_,h1⟩,?_⟩
   .show q1.i 311+16=_;rw[g1.i 311,f,lB]
   .show((h.t.length:Int)-IntKind.i64.wrap (q1.i 313+1)).toNat<_;rw[ew];omega
  have cz:i=h.t.length:=ah;rw[cz,abG]at hO f;have lF:=lF h.t.length (aaS _);rw[abG]at lF;have cA:(bg (aE J 0) h.t.length++h.t.flatten).length<=227:=by rw[aay];exact abi lA lF
  have bb:=G;clear G lA lF;obtain⟨bL,cB⟩:∃ bL,bL=q:=⟨_,rfl⟩;rw[<-cB]at hO f bb ⊢;have c8:True:=trivial;rw[bb.i 57];refine kY b9 fun U ar aC cC cD bc=>?_;have cE:ai 131 J U:=bb.tr ar;have aC:U.i 322=((aj (J.i 57).toNat).length:Int):=aC;have bc:bZ (U.h 320) _ (.slice (az (U.i 320) (U.i 321)) (((aj (J.i 57).toNat).length:Int)).toNat (U.i 323).toNat) (aj (J.i 57).toNat):=bc;have cF:(aj (J.i 57).toNat).length<=10:=jy (z:=(J.i 57).toNat) ah;rw[<-ar.h 314,<-ar.i 310,<-ar.i 312]at hO;rw[<-ar.i 311]at f;rw[f,aC];refine kO hO cC cD (Af bc rfl) ah ah fun V bd dp dr aD=>?_;have bM:ai 131 J V:=cE.tr bd;have aD:bZ (V.h 324) _ (.slice (az (V.i 324) 0) (((bg (aE J 0) h.t.length++h.t.flatten++aj (J.i 57).toNat).length:Int)).toNat (V.i 325).toNat) (bg (aE J 0) h.t.length++h.t.flatten++aj (J.i 57).toNat):=aD;have bN:(bg (aE J 0) h.t.length++h.t.flatten++aj (J.i 57).toNat).length<=237:=by rw[aay];exact abi cA cF
  have bh:V.i 311+V.i 322=((bg (aE J 0) h.t.length++h.t.flatten++aj (J.i 57).toNat).length:Int):=by rw[bd.i 311,bd.i 322,f,aC,aay (bs:=aj (J.i 57).toNat)];first | (rw[aJ];omega) | (show _=((_+1:Nat):Int);omega) | omega
  rw[bM.i 58];refine kY ca fun W X aH cG cH bj=>?_;have cI:ai 131 J W:=bM.tr X;have aH:W.i 328=((aj (J.i 58).toNat).length:Int):=aH;have bj:bZ (W.h 326) _ (.slice (az (W.i 326) (W.i 327)) (((aj (J.i 58).toNat).length:Int)).toNat (W.i 329).toNat) (aj (J.i 58).toNat):=bj;have cJ:(aj (J.i 58).toNat).length<=10:=jy (z:=(J.i 58).toNat) ah;rw[<-X.h 324,<-X.i 324,<-X.i 325]at aD;rw[<-X.i 311,<-X.i 322]at bh;rw[bh,aH];refine kO aD cG cH (Af bj rfl) ah ah fun N aI ds dt aK=>?_;have bO:ai 131 J N:=cI.tr aI;have aK:bZ (N.h 330) _ (.slice (az (N.i 330) 0) (((bg (aE J 0) h.t.length++h.t.flatten++aj (J.i 57).toNat++aj (J.i 58).toNat).length:Int)).toNat (N.i 331).toNat) (bg (aE J 0) h.t.length++h.t.flatten++aj (J.i 57).toNat++aj (J.i 58).toNat):=aK;have bP:(bg (aE J 0) h.t.length++h.t.flatten++aj (J.i 57).toNat++aj (J.i 58).toNat).length<=247:=by rw[aay];exact abi bN cJ
  have bk:N.i 311+N.i 322+N.i 328=((bg (aE J 0) h.t.length++h.t.flatten++aj (J.i 57).toNat++aj (J.i 58).toNat).length:Int):=by rw[aI.i 311,aI.i 322,aI.i 328,bh,aH,aay (bs:=aj (J.i 58).toNat)];first | (rw[aJ];omega) | (show _=((_+1:Nat):Int);omega) | omega
  rw[bO.i 59];refine kY cb fun Y O aL cK cL bl=>?_;have cM:ai 131 J Y:=bO.tr O;have aL:Y.i 334=((aj (J.i 59).toNat).length:Int):=aL;have bl:bZ (Y.h 332) _ (.slice (az (Y.i 332) (Y.i 333)) (((aj (J.i 59).toNat).length:Int)).toNat (Y.i 335).toNat) (aj (J.i 59).toNat):=bl;have cN:(aj (J.i 59).toNat).length<=10:=jy (z:=(J.i 59).toNat) ah;rw[<-O.h 330,<-O.i 330,<-O.i 331]at aK;rw[<-O.i 311,<-O.i 322,<-O.i 328]at bk;rw[bk,aL];refine kO aK cK cL (Af bl rfl) ah ah fun E au du dv aO=>?_;have bQ:ai 131 J E:=cM.tr au;have aO:bZ (E.h 336) _ (.slice (az (E.i 336) 0) (((bg (aE J 0) h.t.length++h.t.flatten++aj (J.i 57).toNat++aj (J.i 58).toNat++aj (J.i 59).toNat).length:Int)).toNat (E.i 337).toNat) (bg (aE J 0) h.t.length++h.t.flatten++aj (J.i 57).toNat++aj (J.i 58).toNat++aj (J.i 59).toNat):=aO;have bR:(bg (aE J 0) h.t.length++h.t.flatten++aj (J.i 57).toNat++aj (J.i 58).toNat++aj (J.i 59).toNat).length<=257:=by rw[aay];exact abi bP cN
  have bm:E.i 311+E.i 322+E.i 328+E.i 334=((bg (aE J 0) h.t.length++h.t.flatten++aj (J.i 57).toNat++aj (J.i 58).toNat++aj (J.i 59).toNat).length:Int):=by rw[au.i 311,au.i 322,au.i 328,au.i 334,bk,aL,aay (bs:=aj (J.i 59).toNat)];first | (rw[aJ];omega) | (show _=((_+1:Nat):Int);omega) | omega
  rw[bQ.i 60];refine kY cc fun Z F aQ cO cP bn=>?_;have cQ:ai 131 J Z:=bQ.tr F;have aQ:Z.i 340=((aj (J.i 60).toNat).length:Int):=aQ;have bn:bZ (Z.h 338) _ (.slice (az (Z.i 338) (Z.i 339)) (((aj (J.i 60).toNat).length:Int)).toNat (Z.i 341).toNat) (aj (J.i 60).toNat):=bn;have cR:(aj (J.i 60).toNat).length<=10:=jy (z:=(J.i 60).toNat) ah;rw[<-F.h 336,<-F.i 336,<-F.i 337]at aO;rw[<-F.i 311,<-F.i 322,<-F.i 328,<-F.i 334]at bm;rw[bm,aQ];refine kO aO cO cP (Af bn rfl) ah ah fun u aa dw dx aR=>?_;have bS:ai 131 J u:=cQ.tr aa;have aR:bZ (u.h 342) _ (.slice (az (u.i 342) 0) (((bg (aE J 0) h.t.length++h.t.flatten++aj (J.i 57).toNat++aj (J.i 58).toNat++aj (J.i 59).toNat++aj (J.i 60).toNat).length:Int)).toNat (u.i 343).toNat) (bg (aE J 0) h.t.length++h.t.flatten++aj (J.i 57).toNat++aj (J.i 58).toNat++aj (J.i 59).toNat++aj (J.i 60).toNat):=aR;have bT:(bg (aE J 0) h.t.length++h.t.flatten++aj (J.i 57).toNat++aj (J.i 58).toNat++aj (J.i 59).toNat++aj (J.i 60).toNat).length<=267:=by rw[aay];exact abi bR cR
  have bo:u.i 311+u.i 322+u.i 328+u.i 334+u.i 340=((bg (aE J 0) h.t.length++h.t.flatten++aj (J.i 57).toNat++aj (J.i 58).toNat++aj (J.i 59).toNat++aj (J.i 60).toNat).length:Int):=by rw[aa.i 311,aa.i 322,aa.i 328,aa.i 334,aa.i 340,bm,aQ,aay (bs:=aj (J.i 60).toNat)];first | (rw[aJ];omega) | (show _=((_+1:Nat):Int);omega) | omega
  rw[bS.i 61];refine kY cd fun ab v aS cS cT bp=>?_;have cU:ai 131 J ab:=bS.tr v;have aS:ab.i 346=((aj (J.i 61).toNat).length:Int):=aS;have bp:bZ (ab.h 344) _ (.slice (az (ab.i 344) (ab.i 345)) (((aj (J.i 61).toNat).length:Int)).toNat (ab.i 347).toNat) (aj (J.i 61).toNat):=bp;have cV:(aj (J.i 61).toNat).length<=10:=jy (z:=(J.i 61).toNat) ah;rw[<-v.h 342,<-v.i 342,<-v.i 343]at aR;rw[<-v.i 311,<-v.i 322,<-v.i 328,<-v.i 334,<-v.i 340]at bo;rw[bo,aS];refine kO aR cS cT (Af bp rfl) ah ah fun o P dy dz aT=>?_;have bU:ai 131 J o:=cU.tr P;have aT:bZ (o.h 348) _ (.slice (az (o.i 348) 0) (((bg (aE J 0) h.t.length++h.t.flatten++aj (J.i 57).toNat++aj (J.i 58).toNat++aj (J.i 59).toNat++aj (J.i 60).toNat++aj (J.i 61).toNat).length:Int)).toNat (o.i 349).toNat) (bg (aE J 0) h.t.length++h.t.flatten++aj (J.i 57).toNat++aj (J.i 58).toNat++aj (J.i 59).toNat++aj (J.i 60).toNat++aj (J.i 61).toNat):=aT;have bV:(bg (aE J 0) h.t.length++h.t.flatten++aj (J.i 57).toNat++aj (J.i 58).toNat++aj (J.i 59).toNat++aj (J.i 60).toNat++aj (J.i 61).toNat).length<=277:=by rw[aay];exact abi bT cV
  have bq:o.i 311+o.i 322+o.i 328+o.i 334+o.i 340+o.i 346=((bg (aE J 0) h.t.length++h.t.flatten++aj (J.i 57).toNat++aj (J.i 58).toNat++aj (J.i 59).toNat++aj (J.i 60).toNat++aj (J.i 61).toNat).length:Int):=by rw[P.i 311,P.i 322,P.i 328,P.i 334,P.i 340,P.i 346,bo,aS,aay (bs:=aj (J.i 61).toNat)];first | (rw[aJ];omega) | (show _=((_+1:Nat):Int);omega) | omega
  rw[bU.i 62];refine kY cf fun ad p aU cW cY br=>?_;have cZ:ai 131 J ad:=bU.tr p;have aU:ad.i 352=((aj (J.i 62).toNat).length:Int):=aU;have br:bZ (ad.h 350) _ (.slice (az (ad.i 350) (ad.i 351)) (((aj (J.i 62).toNat).length:Int)).toNat (ad.i 353).toNat) (aj (J.i 62).toNat):=br;have c0:(aj (J.i 62).toNat).length<=10:=jy (z:=(J.i 62).toNat) ah;rw[<-p.h 348,<-p.i 348,<-p.i 349]at aT;rw[<-p.i 311,<-p.i 322,<-p.i 328,<-p.i 334,<-p.i 340,<-p.i 346]at bq;rw[bq,aU];refine kO aT cW cY (Af br rfl) ah ah fun e H dA dB bt=>?_;have bW:ai 131 J e:=cZ.tr H;have bt:bZ (e.h 354) _ (.slice (az (e.i 354) 0) (((bg (aE J 0) h.t.length++h.t.flatten++aj (J.i 57).toNat++aj (J.i 58).toNat++aj (J.i 59).toNat++aj (J.i 60).toNat++aj (J.i 61).toNat++aj (J.i 62).toNat).length:Int)).toNat (e.i 355).toNat) (bg (aE J 0) h.t.length++h.t.flatten++aj (J.i 57).toNat++aj (J.i 58).toNat++aj (J.i 59).toNat++aj (J.i 60).toNat++aj (J.i 61).toNat++aj (J.i 62).toNat):=bt;have bX:(bg (aE J 0) h.t.length++h.t.flatten++aj (J.i 57).toNat++aj (J.i 58).toNat++aj (J.i 59).toNat++aj (J.i 60).toNat++aj (J.i 61).toNat++aj (J.i 62).toNat).length<=287:=by rw[aay];exact abi bV c0
  have bY:e.i 311+e.i 322+e.i 328+e.i 334+e.i 340+e.i 346+e.i 352=((bg (aE J 0) h.t.length++h.t.flatten++aj (J.i 57).toNat++aj (J.i 58).toNat++aj (J.i 59).toNat++aj (J.i 60).toNat++aj (J.i 61).toNat++aj (J.i 62).toNat).length:Int):=by rw[H.i 311,H.i 322,H.i 328,H.i 334,H.i 340,H.i 346,H.i 352,bq,aU,aay (bs:=aj (J.i 62).toNat)];first | (rw[aJ];omega) | (show _=((_+1:Nat):Int);omega) | omega
  rw[bY];refine vg (b2:=aW (aE J 0) 60 32) bt (by rw[<-cX bW.mono];exact T3 e) (aJ _ _ _).symm ah (by rw[aJ];omega) fun l I dC dD aX=>?_;have b0:ai 131 J l:=bW.tr I;have aX:bZ (l.h 356) _ (.slice (az (l.i 356) 0) (((bg (aE J 0) h.t.length++h.t.flatten++aj (J.i 57).toNat++aj (J.i 58).toNat++aj (J.i 59).toNat++aj (J.i 60).toNat++aj (J.i 61).toNat++aj (J.i 62).toNat++aW (aE J 0) 60 32).length:Int)).toNat (l.i 357).toNat) (bg (aE J 0) h.t.length++h.t.flatten++aj (J.i 57).toNat++aj (J.i 58).toNat++aj (J.i 59).toNat++aj (J.i 60).toNat++aj (J.i 61).toNat++aj (J.i 62).toNat++aW (aE J 0) 60 32):=aX;have b1:(bg (aE J 0) h.t.length++h.t.flatten++aj (J.i 57).toNat++aj (J.i 58).toNat++aj (J.i 59).toNat++aj (J.i 60).toNat++aj (J.i 61).toNat++aj (J.i 62).toNat++aW (aE J 0) 60 32).length<=319:=by rw[aay];exact abi bX (adf (aJ _ _ _))
  have bu:l.i 311+l.i 322+l.i 328+l.i 334+l.i 340+l.i 346+l.i 352+32=((bg (aE J 0) h.t.length++h.t.flatten++aj (J.i 57).toNat++aj (J.i 58).toNat++aj (J.i 59).toNat++aj (J.i 60).toNat++aj (J.i 61).toNat++aj (J.i 62).toNat++aW (aE J 0) 60 32).length:Int):=by rw[I.i 311,I.i 322,I.i 328,I.i 334,I.i 340,I.i 346,I.i 352,bY,aay (bs:=aW (aE J 0) 60 32)];first | (rw[aJ];omega) | (show _=((_+1:Nat):Int);omega) | omega
  rw[b0.i 95];refine kY (u64_in _) fun ae m aY c1 c2 bw=>?_;have c3:ai 131 J ae:=b0.tr m;have aY:ae.i 360=((aj (bJ (J.i 95))).length:Int):=aY;have bw:bZ (ae.h 358) _ (.slice (az (ae.i 358) (ae.i 359)) (((aj (bJ (J.i 95))).length:Int)).toNat (ae.i 361).toNat) (aj (bJ (J.i 95))):=bw;have c4:(aj (bJ (J.i 95))).length<=10:=jy (lJ (J.i 95));rw[<-m.h 356,<-m.i 356,<-m.i 357]at aX;rw[<-m.i 311,<-m.i 322,<-m.i 328,<-m.i 334,<-m.i 340,<-m.i 346,<-m.i 352]at bu;rw[bu,aY];refine kO aX c1 c2 (Af bw rfl) ah ah fun a w c5 c6 bx=>?_;have dE:ai 131 J a:=c3.tr w;have bx:bZ (a.h 362) _ (.slice (az (a.i 362) 0) (((bg (aE J 0) h.t.length++h.t.flatten++aj (J.i 57).toNat++aj (J.i 58).toNat++aj (J.i 59).toNat++aj (J.i 60).toNat++aj (J.i 61).toNat++aj (J.i 62).toNat++aW (aE J 0) 60 32++aj (bJ (J.i 95))).length:Int)).toNat (a.i 363).toNat) (bg (aE J 0) h.t.length++h.t.flatten++aj (J.i 57).toNat++aj (J.i 58).toNat++aj (J.i 59).toNat++aj (J.i 60).toNat++aj (J.i 61).toNat++aj (J.i 62).toNat++aW (aE J 0) 60 32++aj (bJ (J.i 95))):=bx;have c9:(bg (aE J 0) h.t.length++h.t.flatten++aj (J.i 57).toNat++aj (J.i 58).toNat++aj (J.i 59).toNat++aj (J.i 60).toNat++aj (J.i 61).toNat++aj (J.i 62).toNat++aW (aE J 0) 60 32++aj (bJ (J.i 95))).length<=329:=by rw[aay];exact abi b1 c4
  have c7:a.i 311+a.i 322+a.i 328+a.i 334+a.i 340+a.i 346+a.i 352+32+a.i 360=((bg (aE J 0) h.t.length++h.t.flatten++aj (J.i 57).toNat++aj (J.i 58).toNat++aj (J.i 59).toNat++aj (J.i 60).toNat++aj (J.i 61).toNat++aj (J.i 62).toNat++aW (aE J 0) 60 32++aj (bJ (J.i 95))).length:Int):=by rw[w.i 311,w.i 322,w.i 328,w.i 334,w.i 340,w.i 346,w.i 352,w.i 360,bu,aY,aay (bs:=aj (bJ (J.i 95)))];first | (rw[aJ];omega) | (show _=((_+1:Nat):Int);omega) | omega
  refine fun _=>⟨[],[2],rfl,rfl,⟨(bf fun k=>[a.i 362,0,a.i 311+a.i 322+a.i 328+a.i 334+a.i 340+a.i 346+a.i 352+32+a.i 360,a.i 363].getD k 0),rfl,⟨c5,aaM _,by show 0<=a.i 311+a.i 322+a.i 328+a.i 334+a.i 340+a.i 346+a.i 352+32+a.i 360;omega,c6⟩,zzT⟩,_,R,h,rfl,rfl,hx,?_⟩;show bZ (di [a.h 362]) _ (.slice (az (a.i 362) 0) (a.i 311+a.i 322+a.i 328+a.i 334+a.i 340+a.i 346+a.i 352+32+a.i 360).toNat (a.i 363).toNat) _;rw[aN,c7,ES hx];exact bx
def tE (h:Hd):List Int:=me h++aW h.c 93 32
open Classical in
noncomputable def bE (h:Hd):List Int:=if h.Form then tE h else []
noncomputable def gl (f:FuncId):Sx.Spec where
 fn:=f
 own:=[]
 rd:=[10053]
 res:=[.one .sl]
 pre:=fun xs Hs Rs=>∃ row R h,xs=[.agg row.toArray]/\Rs=[R]/\bU R row h
 post:=fun xs Hs Rs v Hs' F=>∃ row R h,xs=[.agg row.toArray]/\Rs=[R]/\bU R row h/\bZ F 5 v (bE h)
noncomputable def Rb:List Sx.Spec:=[ie 117,coreS 177,ie 65,coreS 108]
def Oc:∀ t∈Rb,t.OK Tryz.prog:=av nU <| av Lv <| av vI <| av Mo <| bW
def Ol:Rb[0]?=some (ie 117):=rfl
def H0:Rb[1]?=some (coreS 177):=rfl
def zx:Rb[2]?=some (ie 65):=rfl
def Uh:Rb[3]?=some (coreS 108):=rfl
def wM (f:FuncId):(ie f).res=[.one .bool]:=rfl
def WK (f:FuncId):(coreS f).res=[.one .sl]:=rfl
noncomputable def EY:aG Tryz.prog Rb 146 where
 Λ:=aC
 args:=(cA 0 [.agg cy]).map .sv
 mem:=[.ro 130 [.var 53] false]
 nv:=131
noncomputable def Gc:aG Tryz.prog Rb 71 where
 Λ:=aC
 args:=(cA 0 [.agg cy]).map .sv
 mem:=[.ro 130 [.var 53] false]
 nv:=131
open Classical in
def mg {K:List Hl} (hx:bU R row h) (hp:(ie f).post [.agg row.toArray] Hs [R] v K F):v=.bool (decide h.Form):=by
 obtain⟨row',R',h',e1,b,a,hv⟩:=hp;simp only[aaC,Value.agg.injEq,aaP]at e1 b;have e1:=aa5 e1;subst e1 b;rw[hx.uniq a];exact hv
def ER {K:List Hl} (hx:bU R row h) (hp:(coreS f).post [.agg row.toArray] Hs [R] v K F):bZ F 5 v (me h):=by
 obtain⟨row',R',h',e1,b,a,hv⟩:=hp;simp only[aaC,Value.agg.injEq,aaP]at e1 b;have e1:=aa5 e1;subst e1 b;rw[hx.uniq a];exact hv
def oN {K:List Hl} (hx:bU R row h) (hp:(gl f).post [.agg row.toArray] Hs [R] v K F):bZ F 5 v (bE h):=by
 obtain⟨row',R',h',e1,b,a,hv⟩:=hp;simp only[aaC,Value.agg.injEq,aaP]at e1 b;have e1:=aa5 e1;subst e1 b;rw[hx.uniq a];exact hv
def tU (hx:bU R row h) (f:h.t.length<=8):(me h).length<=360:=by
 have a:∀ k,cI h.c k<18446744073709551616->(aj (cI h.c k).toNat).length<=10:=fun k hk=>jy ah;have hu:∀ {k:Nat},fu[k]?=some (.int .u64)->k≠53->cI h.c k<18446744073709551616:=fun {k} hk b=>by
  rw[hx.I b];exact(hx.rng _ (aaA (uM hx.ok hk))).2
 have d:=Dg (T:=h.t) (fun t e=>(hx.byte.2 t e).1);have g:=jy (lJ (cI h.c 0));have i:=a 1 (hu rfl aA);have a3:=jy (lJ (cI h.c 34));have a4:=a 36 (hu rfl aA);have a5:=jy (z:=h.t.length) ah;have j:=a 54 (hu rfl aA);have l:=a 55 (hu rfl aA);have m:=a 56 (hu rfl aA);have a9:=a 57 (hu rfl aA);have b1:=a 58 (hu rfl aA);have b2:=a 59 (hu rfl aA);have n:=jy (lJ (cI h.c 92));have o:(dq (cB h.c 35)).length=1:=rfl;unfold me pH bg;simp only[aay,aJ];omega
open Classical in
def EX:(gl 146).OK Tryz.prog:=by
 refine Spec.aV (Γ:=Rb) Oc ?_;rintro xs Hs Rs n w ⟨row,R,h,rfl,rfl,hx⟩;have z:Hs=[]:=aaz.1 n;subst z;obtain⟨J,rfl,a,A,B,C,D⟩:=mV (R:=R) hx.ok;refine⟨EY,J,fun _ _=>True,fun _ _=>0,rfl,⟨?_,?_,?_,?_⟩,(fun _ h=>nomatch h),?_⟩
 .intro r hr ho;simp [EY]at hr;subst hr;cases ho
 .intro r hr ho;simp [EY]at hr;subst hr;exact⟨R,aF,by show(J.h 130).le R;rw[a];exact Hl.le_refl _⟩
 .simp [EY]
 .intro r hr;simp [EY]at hr;subst hr;trivial
 .refine aG.read [cy] [] [] ?_;simp only[go_sem,Nat.reduceAdd,Ol,wM,H0,WK,Vt,Sa];intro q1 o p1;have r1:(ar 0 cy).map (CV.ev q1)=aE J 0:=cX o.mono;rw[r1,o.h 130,a];refine⟨⟨_,R,h,rfl,rfl,hx⟩,fun q2 E ⟨O,p,_⟩=>?_⟩;have hv:=mg hx p;have hv:q2.b 132=decide h.Form:=by simpa [bD] using hv
  have q:ai 131 J q2:=o.mono.tr E;have r2:(ar 0 cy).map (CV.ev q2)=aE J 0:=cX q.mono;rw[hv,aaB,r2,q.h 130,a];refine⟨fun hf _=>⟨[],[],rfl,rfl,⟨(bf fun k=>if k=0 then -1 else 0),rfl,⟨aaM _,aaM _,aaM _,aaM _⟩,zzT⟩,_,R,h,rfl,rfl,hx,?_⟩,fun hf=>?_⟩
  .unfold bE;rw[aaG hf];exact qy _ _
  have u:=hf.2.1;have F:=tU hx u;refine⟨⟨_,R,h,rfl,rfl,hx,u⟩,fun f G ⟨P,s,t,l⟩=>?_⟩;have m:=ER hx s;rw[<-t zzT]at m;have l:-1<=f.i 133/\0<=f.i 134/\0<=f.i 135/\0<=f.i 136:=l.1;have e:(f.i 135).toNat=(me h).length:=by
   obtain⟨x,y,c,e,_⟩:=m.rd;simp only[Value.slice.injEq]at e;exact e.2.1
  have v:f.i 135=((me h).length:Int):=ah;rw[v]at m ⊢;have H:ai 131 J f:=q.tr G;have g:(ar 96 (List.replicate 32 (Ck.int .u8))).map (CV.ev f)=aM (aW h.c 93 32):=by
   rw[JH,cX H.mono]
   congr 1
   exact abr fun j Q=>(hx.I ah).symm
  refine vg (b2:=aW h.c 93 32) m g (aJ _ _ _).symm ah (by rw[aJ];omega) fun d K L M N=>?_;have hl:d.i 135+32=((tE h).length:Int):=by
   rw[K.i 135,v];unfold tE;rw[aay,aJ];omega
  refine fun _=>⟨[],[2],rfl,rfl,⟨(bf fun k=>[d.i 137,0,d.i 135+32,d.i 138].getD k 0),rfl,⟨L,aaM _,by show 0<=d.i 135+32;omega,M⟩,zzT⟩,_,R,h,rfl,rfl,hx,?_⟩;show bZ (di [d.h 137]) _ (.slice (az (d.i 137) 0) (d.i 135+32).toNat (d.i 138).toNat) _;unfold bE;rw[aN,aaR hf,hl];exact N
open Classical in
def An:(gl 71).OK Tryz.prog:=by
 refine Spec.aV (Γ:=Rb) Oc ?_;rintro xs Hs Rs n w ⟨row,R,h,rfl,rfl,hx⟩;have z:Hs=[]:=aaz.1 n;subst z;obtain⟨J,rfl,a,A,B,C,D⟩:=mV (R:=R) hx.ok;refine⟨Gc,J,fun _ _=>True,fun _ _=>0,rfl,⟨?_,?_,?_,?_⟩,(fun _ h=>nomatch h),?_⟩
 .intro r hr ho;simp [Gc]at hr;subst hr;cases ho
 .intro r hr ho;simp [Gc]at hr;subst hr;exact⟨R,aF,by show(J.h 130).le R;rw[a];exact Hl.le_refl _⟩
 .simp [Gc]
 .intro r hr;simp [Gc]at hr;subst hr;trivial
 .refine aG.read [cy] [] [] ?_;simp only[go_sem,Nat.reduceAdd,zx,wM,Uh,WK,Vt,Sa];intro q1 o p1;have r1:(ar 0 cy).map (CV.ev q1)=aE J 0:=cX o.mono;rw[r1,o.h 130,a];refine⟨⟨_,R,h,rfl,rfl,hx⟩,fun q2 E ⟨O,p,_⟩=>?_⟩;have hv:=mg hx p;have hv:q2.b 132=decide h.Form:=by simpa [bD] using hv
  have q:ai 131 J q2:=o.mono.tr E;have r2:(ar 0 cy).map (CV.ev q2)=aE J 0:=cX q.mono;rw[hv,aaB,r2,q.h 130,a];refine⟨fun hf _=>⟨[],[],rfl,rfl,⟨(bf fun k=>if k=0 then -1 else 0),rfl,⟨aaM _,aaM _,aaM _,aaM _⟩,zzT⟩,_,R,h,rfl,rfl,hx,?_⟩,fun hf=>?_⟩
  .unfold bE;rw[aaG hf];exact qy _ _
  have u:=hf.2.1;have F:=tU hx u;refine⟨⟨_,R,h,rfl,rfl,hx,u⟩,fun f G ⟨P,s,t,l⟩=>?_⟩;have m:=ER hx s;rw[<-t zzT]at m;have l:-1<=f.i 133/\0<=f.i 134/\0<=f.i 135/\0<=f.i 136:=l.1;have e:(f.i 135).toNat=(me h).length:=by
   obtain⟨x,y,c,e,_⟩:=m.rd;simp only[Value.slice.injEq]at e;exact e.2.1
  have v:f.i 135=((me h).length:Int):=ah;rw[v]at m ⊢;have H:ai 131 J f:=q.tr G;have g:(ar 96 (List.replicate 32 (Ck.int .u8))).map (CV.ev f)=aM (aW h.c 93 32):=by
   rw[JH,cX H.mono]
   congr 1
   exact abr fun j Q=>(hx.I ah).symm
  refine vg (b2:=aW h.c 93 32) m g (aJ _ _ _).symm ah (by rw[aJ];omega) fun d K L M N=>?_;have hl:d.i 135+32=((tE h).length:Int):=by
   rw[K.i 135,v];unfold tE;rw[aay,aJ];omega
  refine fun _=>⟨[],[2],rfl,rfl,⟨(bf fun k=>[d.i 137,0,d.i 135+32,d.i 138].getD k 0),rfl,⟨L,aaM _,by show 0<=d.i 135+32;omega,M⟩,zzT⟩,_,R,h,rfl,rfl,hx,?_⟩;show bZ (di [d.h 137]) _ (.slice (az (d.i 137) 0) (d.i 135+32).toNat (d.i 138).toNat) _;unfold bE;rw[aN,aaR hf,hl];exact N
def Da:List Ck:=cy++[Ck.sl]
def lW:∀ {row:List Value} {ks:List Kd} {u:Value} {k:Kd},bo row ks->bz (some u) k=true->bo (row++[u]) (ks++[k])
 | [],[],_,_,_,h=>⟨h,zzT⟩
 | v::l,k::ks,_,_,h,h'=>⟨h.1,lW h.2 h'⟩
def gx:∀ {row:List Value} {ks:List Kd},bo row ks->row.length=ks.length
 | [],[],_=>rfl
 | v::l,k::ks,h=>by rw[abc,abc,gx h.2]
set_option maxRecDepth 20000 in
def JL (h:bo row fu) (f:0<=y):∃ q:Env,row=aE q 0/\(.slice (az x y) n c:Value)=(CV.sl (.var 128) (.var 129) (.var 130) (.var 131)).ev q/\q.h 132=R/\q.h 133=G/\bR 0 cy q/\0<=q.i 129/\0<=q.i 130/\0<=q.i 131:=by
 have hk:bo (row++[.slice (az x y) n c]) (Da.map kU):=by
  unfold Da;rw[aba];exact lW h rfl
 obtain⟨q,_,hn,e⟩:=cY Da 0 _ (bf fun _=>0) hk;have e:aE q 0++[(CV.sl (.var 128) (.var 129) (.var 130) (.var 131)).ev q]=row++[.slice (az x y) n c]:=e;obtain⟨e1,d⟩:=acU e rfl;have hs:∀ (a b:List Ck) (n:Nat),bR n (a++b) q->bR n a q/\bR (n+bd a) b q:=by
  intro a
  induction a with
  | nil=>intro b n h;exact⟨zzT,by simpa [bd] using h⟩
  | cons k a ih =>
   intro b n h;have:=ih b (n+k.len) h.2;rw[show n+k.len+bd a=n+bd (k::a)by simp [bd];omega]at this;exact⟨⟨h.1,this.1⟩,this.2⟩
 obtain⟨h1,h2⟩:=hs cy [Ck.sl] 0 hn;have h2:=h2.1;refine⟨⟨q.i,q.b,q.s,q.v,fun k=>if k=132 then R else if k=133 then G else Hl.none⟩,e1.symm,?_,rfl,rfl,h1,h2.2.1,h2.2.2.1,h2.2.2.2⟩;simp only[aaC,aaP]at d;exact d.symm
def fJ (row:List Value) (bs:List Int):Bool:=decide ((bs.length:Int)=cI row 92/\gU bs=aW row 60 32)
def El:Sx.Spec where
 fn:=145
 own:=[]
 rd:=[1000125,2000005]
 res:=[.one .bool]
 pre:=fun xs Hs Rs=>∃ row u bs R RG,xs=[.agg (row++[u]).toArray]/\Rs=[R,RG]/\bo row fu/\fL R u bs/\aq bs/\bs.length<=900000/\ve RG 5
 post:=fun xs Hs Rs v Hs' F=>∀ row u bs R RG,xs=[.agg (row++[u]).toArray]->Rs=[R,RG]->fL R u bs->v=.bool (fJ row bs)
def yn:Sx.Spec where
 fn:=67
 own:=[]
 rd:=[1000125,2000003]
 res:=[.one .bool]
 pre:=fun xs Hs Rs=>∃ row u bs R RG,xs=[.agg (row++[u]).toArray]/\Rs=[R,RG]/\bo row fu/\fL R u bs/\aq bs/\bs.length<=900000/\ve RG 3
 post:=fun xs Hs Rs v Hs' F=>∀ row u bs R RG,xs=[.agg (row++[u]).toArray]->Rs=[R,RG]->fL R u bs->v=.bool (fJ row bs)
def Qt:aG Tryz.prog [wN] El.fn where
 Λ:=aC
 args:=(cA 0 [.agg Da]).map .sv
 mem:=[.ro 132 [.var 128] true,.ro 133 [.lit 5] false]
 nv:=134
def KN:aG Tryz.prog [kG] yn.fn where
 Λ:=aC
 args:=(cA 0 [.agg Da]).map .sv
 mem:=[.ro 132 [.var 128] true,.ro 133 [.lit 3] false]
 nv:=134
def aat:[wN][0]?=some wN:=rfl
def XM:wN.res=[.agg (List.replicate 32 (Ck.int .u8))]:=rfl
def aau:[kG][0]?=some kG:=rfl
def XO:kG.res=[.agg (List.replicate 32 (Ck.int .u8))]:=rfl
def iM (q:Env) (n:Nat):List Int:=(List.range 32).map fun j=>q.i (n+j)
def GC (q:Env):aW (aE q 0) 60 32=iM q 63:=rfl
def I1 (q q':Env) (n m:Nat):iM q n=iM q' m↔(q.i (n+0)=q'.i (m+0)/\q.i (n+1)=q'.i (m+1)/\q.i (n+2)=q'.i (m+2)/\q.i (n+3)=q'.i (m+3)/\q.i (n+4)=q'.i (m+4)/\q.i (n+5)=q'.i (m+5)/\q.i (n+6)=q'.i (m+6)/\q.i (n+7)=q'.i (m+7)/\q.i (n+8)=q'.i (m+8)/\q.i (n+9)=q'.i (m+9)/\q.i (n+10)=q'.i (m+10)/\q.i (n+11)=q'.i (m+11)/\q.i (n+12)=q'.i (m+12)/\q.i (n+13)=q'.i (m+13)/\q.i (n+14)=q'.i (m+14)/\q.i (n+15)=q'.i (m+15)/\q.i (n+16)=q'.i (m+16)/\q.i (n+17)=q'.i (m+17)/\q.i (n+18)=q'.i (m+18)/\q.i (n+19)=q'.i (m+19)/\q.i (n+20)=q'.i (m+20)/\q.i (n+21)=q'.i (m+21)/\q.i (n+22)=q'.i (m+22)/\q.i (n+23)=q'.i (m+23)/\q.i (n+24)=q'.i (m+24)/\q.i (n+25)=q'.i (m+25)/\q.i (n+26)=q'.i (m+26)/\q.i (n+27)=q'.i (m+27)/\q.i (n+28)=q'.i (m+28)/\q.i (n+29)=q'.i (m+29)/\q.i (n+30)=q'.i (m+30)/\q.i (n+31)=q'.i (m+31)):=by
 have e:List.range 32=[0,1,2,3,4,5,6,7,8,9,10,11,12,13,14,15,16,17,18,19,20,21,22,23,24,25,26,27,28,29,30,31]:=rfl;unfold iM;rw[e];simp only[aaY,abN,aaC,aaP]
def DZ (g:ai k q q') (h:n+32<=k):iM q' n=iM q n:=by
 unfold iM;refine abr fun j a=>g.i _ ?_;have:=abd.1 a;omega
def nQ (hr:s.res=[.one .bool]) (he:bh q e=b) (h:∀ F,s.post xs [] Rs (.bool b) [] F):postOf s xs [] Rs q mem (.sv (.one (.bool e))):=by
 intro _;refine⟨[],[],rfl,rfl,⟨⟨fun _=>0,fun _=>b,fun _=>.empty,fun _=>.tuple #[],fun _=>Hl.none⟩,?_,?_⟩,?_⟩
 .rw[hr,<-he];rfl
 .rw[hr];exact⟨zzT,zzT⟩
 .have:=h (xA q mem []);rw[<-he]at this;exact this
def vS {T:TypeId} (hx:0<=x) (h:fL RA u bs):jN (Hl.one x.toNat (.cells #[u] T)) RA (.slice (az x 0) 1 1) [bs]:=by
 refine⟨[u],x,0,1,rfl,aaM _,rfl,fun j v hv=>⟨hx,?_⟩,fun j v r hv hr=>?_⟩
 .cases j with
  | zero=>simp only[abv,aaF]at hv;subst hv;simp [Hl.cell,Hl.one]
  | succ j=>simp at hv
 .cases j with
  | zero=>simp only[abv,aaF]at hv hr;subst hv hr;exact h
  | succ j=>simp at hv
def whP (xs:List Value) (Rs:List Hl) (v:Value):Prop:=∀ row u bs R RG,xs=[.agg (row++[u]).toArray]->Rs=[R,RG]->fL R u bs->v=.bool (fJ row bs)
def Ek (h:fL R u bs) (hb:b=fJ row bs):whP [.agg (row++[u]).toArray] [R,RG] (.bool b):=by
 intro row' c bs' R' d e1 a h';simp only[aaC,aaP,Value.agg.injEq,aa5]at e1 a;have e1:row++[u]=row'++[c]:=aa1 Array.toList e1;obtain⟨rfl,e⟩:=acU e1 rfl;simp only[aaC,aaP]at e;obtain⟨rfl,rfl⟩:=a;subst e;rw[hb,h.uniq h']
set_option maxRecDepth 20000 in
def IY:yn.OK Tryz.prog:=by
 refine Spec.aV (Γ:=[kG]) (fun t k=>by rw[aaJ]at k;subst k;exact AB) ?_;rintro xs Hs Rs j p ⟨row,u,bs,R,RG,rfl,rfl,hr,f,hb,hlen,hK⟩;have q:Hs=[]:=aaz.1 j;subst q;obtain⟨x,y,c,rfl,s,_⟩:=id f;obtain⟨J,rfl,l,m,o,v,n9,n0,n1⟩:=JL (R:=R) (G:=RG) (x:=x) (n:=bs.length) (c:=c) hr s;refine⟨KN,J,fun _ _=>True,fun _ _=>0,?_,dw (by intro r hr;simp [KN]at hr;rcases hr with rfl | rfl<;>exact⟨_,_,_,rfl⟩) (by show [J.h 132,J.h 133]=_;rw[m,o]),(fun _ h=>nomatch h),?_⟩
 .rw[l];rfl
 .refine aG.read [] [] [] ?_;simp only[go_sem,Nat.reduceAdd,aau,XO];intro q1 a p1;have e:Value.slice (az (J.i 128) (J.i 129)) (J.i 130).toNat (J.i 131).toNat=.slice (az x y) bs.length c:=l.symm;have d:J.i 130=bs.length:=by
   simp only[Value.slice.injEq]at e;have:=e.2.1;omega
  have g:cI (aE J 0) 92=J.i 95:=rfl;rw[a.i 128,a.i 129,a.i 130,a.i 131,a.i 95,a.h 132,a.h 133,e,m,o];refine⟨n0,fun h1=>⟨⟨_,bs,R,RG,rfl,rfl,f,hb,hlen,hK⟩,fun q2 w ⟨F,hp,_⟩=>?_⟩,fun h1=>?_⟩
  .have hp:=hp _ _ _ _ rfl rfl f;have hs:iM q2 135=gU bs:=by
    have hp:Value.agg (aM (iM q2 135)).toArray=.agg (aM (gU bs)).toArray:=hp;exact ly (aa1 Array.toList (Value.agg.inj hp))
   have G:ai 134 J q2:=a.tr w;refine nQ (b:=fJ (aE J 0) bs) rfl ?_ fun F=>Ek f rfl;rw[acx];unfold fJ;rw[aaB,g,GC,<-hs,<-DZ G ah,I1,<-h1,d];simp only[se,r9,jZ,kP,jr,sd,nx,mO,pG,gM,nj,ny,sa,nq,np,j7,nu,ak,al,bQ,dm,cG,bP,cO,fh,fG,fS,iT,gy,iE,fY,abk,Nat.reduceAdd]
  .refine nQ (b:=fJ (aE J 0) bs) rfl ?_ fun F=>Ek f rfl;unfold fJ;rw[g,<-d,du];simp [h1]
set_option maxRecDepth 20000 in
def M7:El.OK Tryz.prog:=by
 refine Spec.aV (Γ:=[wN]) (fun t o=>by rw[aaJ]at o;subst o;exact Fj) ?_;rintro xs Hs Rs l v ⟨row,u,bs,R,RG,rfl,rfl,hr,k,hb,hlen,hK⟩;have w:Hs=[]:=aaz.1 l;subst w;obtain⟨x,y,c,rfl,z,_⟩:=id k;obtain⟨J,rfl,p,q,s,A,n9,n0,n1⟩:=JL (R:=R) (G:=RG) (x:=x) (n:=bs.length) (c:=c) hr z;refine⟨Qt,J,fun _ _=>True,fun _ _=>0,?_,dw (by intro r hr;simp [Qt]at hr;rcases hr with rfl | rfl<;>exact⟨_,_,_,rfl⟩) (by show [J.h 132,J.h 133]=_;rw[q,s]),(fun _ h=>nomatch h),?_⟩
 .rw[p];rfl
 .refine aG.read [] [] [] ?_;simp only[go_sem,Nat.reduceAdd,aat,XM];intro q1 f p1;have d:Value.slice (az (J.i 128) (J.i 129)) (J.i 130).toNat (J.i 131).toNat=.slice (az x y) bs.length c:=p.symm;have a:J.i 130=bs.length:=by
   simp only[Value.slice.injEq]at d;have:=d.2.1;omega
  have g:cI (aE J 0) 92=J.i 95:=rfl;refine⟨by rw[f.i 130];exact n0,fun h1 q2 B p2=>?_,fun h1=>?_⟩
  .have e:ai 134 J q2:=f.tr B;rw[f.i 130,f.i 95]at h1;rw[e.i 128,e.i 129,e.i 130,e.i 131,e.h 132,e.h 133,d,q,s];have j:=vS (T:=46) p2 k;refine⟨⟨q2.i 135,0,1,_,R,RG,bs,rfl,rfl,j,aaM _,hb,hlen,hK⟩,fun m C ⟨F,hp,_⟩=>?_⟩;have hp:=hp _ _ _ _ _ rfl rfl j;have hs:iM m 136=gU bs:=by
    have hp:Value.agg (aM (iM m 136)).toArray=.agg (aM (gU bs)).toArray:=hp;exact ly (aa1 Array.toList (Value.agg.inj hp))
   have G:ai 134 J m:=e.tr C;refine nQ (b:=fJ (aE J 0) bs) rfl ?_ fun F=>Ek k rfl;rw[acx];unfold fJ;rw[aaB,g,GC,<-hs,<-DZ G ah,I1,<-h1,a];simp only[se,r9,jZ,kP,jr,sd,nx,mO,pG,gM,nj,ny,sa,nq,np,j7,nu,ak,al,bQ,dm,cG,bP,cO,fh,fG,fS,iT,gy,iE,fY,abk,Nat.reduceAdd]
  .rw[f.i 130,f.i 95]at h1;refine nQ (b:=fJ (aE J 0) bs) rfl ?_ fun F=>Ek k rfl;unfold fJ;rw[g,<-a,du];simp [h1]
def Jk:Sx.Spec where
 fn:=180
 own:=[]
 rd:=[100]
 res:=[.one .sl]
 pre:=fun xs Hs Rs=>∃ (v:Value) (T:List (List Int)) (R:Hl),xs=[v]/\Rs=[R]/\bq R v pQ (T.map aM)/\(∀ t∈T,t.length=16)/\T.length<=1000000
 post:=fun xs Hs Rs u Hs' F=>∃ (v:Value) (T:List (List Int)) (R:Hl),xs=[v]/\Rs=[R]/\bq R v pQ (T.map aM)/\bq F u pQ (T.map aM)
def Qk:aG Tryz.prog [] Jk.fn where
 Λ:=aC
 args:=[.sv (.one (.sl (.var 0) (.var 1) (.var 2) (.var 3)))]
 mem:=[.ro 4 [.var 0] false]
 nv:=5
def VC (F:Hl) (e:TypeId) (size:Nat) {a:Int} (h:0<=a) (b:F=Hl.one a.toNat (.cells #[] e (0,0))):aP F e size (.slice (az a 0) (Int.toNat 0) (Int.toNat 0)) (Int.toNat 0) []:=by
 subst b;refine⟨aF,Or.inr ⟨a.toNat,0,#[],by rw[au h];rfl,Hl.aU _ _,ah,aA,aF,aF⟩⟩
def Ec:∀ (n:Nat) (l:List Int),l.length=n->bo (aM l) (List.replicate n (Kd.int .u8))
 | 0,[],_=>trivial
 | n+1,z::l,h=>⟨by simp [bz],Ec n l (by simpa using h)⟩
def VD {x y:Nat} (b:∀ t∈T,t.length=16) (h:∀ (i:Nat) row,(T.map aM)[i]?=some row->bo row pQ/\∀ j u,row[j]?=some u->R.cell x (y+i*pQ.length+j)=some u) :
 cn R x y (T.length*16)=(T.map aM).flatten/\∀ j,j<T.length*16->∃ v,R.cell x (y+j)=some v/\v.oneCell'=true:=by
 have c:pQ.length=16:=rfl;have len:∀ r∈T.map aM,r.length=16:=fun r hr=>by
  obtain⟨t,g,rfl⟩:=abb.1 hr;rw[cw];exact b t g
 have key:∀ j,j<T.length*16->∃ z,R.cell x (y+j)=some (.int .u8 z)/\(T.map aM).flatten[j]?=some (.int .u8 z):=by
  intro j a;have hi:j/16<T.length:=ah;have e1:T[j/16]?=some T[j/16]:=aax hi;have hl:=b _ (abM hi);have d:T[j/16][j%16]?=some (T[j/16][j%16]'ah):=aax ah;have e:(T.map aM)[j/16]?=some (aM T[j/16]):=by rw[aaL,e1];rfl
  have f:(aM T[j/16])[j%16]?=some (.int .u8 (T[j/16][j%16]'ah)):=by rw[fT,d];rfl
  refine⟨T[j/16][j%16]'ah,?_,?_⟩
  rotate_left
  .have:=zm (n:=16) len e f;rw[show j/16*16+j%16=j by omega]at this;exact this
  .have:=(h _ _ e).2 _ _ f;rw[c,show y+j/16*16+j%16=y+j by omega]at this;exact this
 refine⟨?_,fun j a=>?_⟩
 .unfold cn;apply aa2;intro j;rw[aaL];rcases abn j (T.length*16)with a | a
  .obtain⟨z,e1,d⟩:=key j a;rw[aaZ a,abe,e1,d];rfl
  .have k:(T.map aM).flatten.length=T.length*16:=by
    have:∀ (rows:List (List Value)),(∀ r∈rows,r.length=16)->rows.flatten.length=rows.length*16:=by
     intro rows
     induction rows with
     | nil=>intro _;rfl
     | cons r rows ih =>
      intro hl;rw[abR,aay,ih fun r hr=>hl r (aaO _ hr),hl r (aa8 ..),abc];omega
    rw[this _ len,aaT]
   rw[aaK (by simpa using a),aaK ah];rfl
 .obtain⟨z,e1,_⟩:=key j a;exact⟨_,e1,rfl⟩
def Sw:Jk.OK Tryz.prog:=by
 refine Spec.aV (Γ:=[]) (fun _ h=>by cases h) ?_;rintro xs Hs Rs p w ⟨v,T,R,rfl,rfl,g,m,hT⟩;have z:Hs=[]:=aaz.1 p;subst z;obtain⟨x,y,c,rfl,A,a⟩:=id g;have b:(T.map aM).length=T.length:=aaT ..;refine⟨Qk,aL [x,y,(T.map aM).length,c] false [Hl.none,Hl.none,Hl.none,Hl.none,R],fun _ _=>True,fun _ _=>0,?_,⟨?_,?_,?_,?_⟩,(fun _ h=>nomatch h),?_⟩
 .show [Value.slice (az x y) (((T.map aM).length:Int)).toNat ((c:Int)).toNat]=_;rw[aar,aar]
 .intro r hr ho;simp [Qk]at hr;subst hr;cases ho
 .intro r hr ho;simp [Qk]at hr;subst hr;exact⟨R,aF,Hl.le_refl _⟩
 .simp [Qk]
 .intro r hr;simp [Qk]at hr;subst hr;trivial
 .refine aG.read [] [] [] ?_;generalize d:aL [x,y,(T.map aM).length,c] false [Hl.none,Hl.none,Hl.none,Hl.none,R]=J;have v0:J.i 0=x:=by rw[<-d];rfl
  have v1:J.i 1=y:=by rw[<-d];rfl
  have v2:J.i 2=(T.map aM).length:=by rw[<-d];rfl
  have B:J.h 4=R:=by rw[<-d];rfl
  simp only[go_sem,Nat.reduceAdd];rw[v0];refine⟨fun hx=>?_,fun hx q1 n p1=>?_⟩
  .have l:T=[]:=by
    rcases a with h | ⟨h,_⟩
    .exact ab4.1 h
    .omega
   intro _;refine⟨[],[],rfl,rfl,⟨(bf fun k=>if k=0 then -1 else 0),rfl,?_,zzT⟩,_,T,R,rfl,rfl,g,?_⟩
   .exact⟨aA,aA,aA,aA⟩
   .subst l;exact⟨-1,0,0,rfl,aaM _,Or.inl rfl⟩
  .have e:=VC (Hl.one (q1.i 5).toNat (.cells #[] 61 (0,0))) 61 16 p1 rfl;rw[n.i 0,v0,n.i 1,v1,n.i 2,v2,n.h 4,B];have f:=g;rw[b]at f;rw[aar,b];have s:cn R x.toNat y.toNat (T.length*16)=(T.map aM).flatten/\((0<=x/\0<=y/\(0:Int)<=T.length/\∀ j,j<T.length*16->∃ v,R.cell x.toNat (y.toNat+j)=some v/\v.oneCell'=true)\/(T.length:Int)=0):=by
    rcases a with h | ⟨q,h⟩
    .have l:T=[]:=ab4.1 h;subst l;exact⟨rfl,Or.inr rfl⟩
    .obtain⟨s1,s2⟩:=VD m h;exact⟨s1,Or.inl ⟨q,A,ah,s2⟩⟩
   refine⟨⟨⟨[],e⟩,aaM _,s.2,by unfold maxLen;omega,ah⟩,fun q2 C ⟨D,E,a3,_⟩=>?_⟩;have o:=a3 _ e;rw[s.1,abU,show Int.toNat 0+T.length=T.length by omega]at o;intro _;have F:ai 5 J q2:=n.tr C;have G:tD (q2.h 6) 61 pQ (.slice (az (q2.i 6) 0) T.length (q2.i 7).toNat) (T.map aM):=by
    refine⟨fun row hr=>?_,?_⟩
    .obtain⟨t,H,rfl⟩:=abb.1 hr;exact Ec 16 t (m t H)
    .rw[b];exact o
   have u:TV.ev q2 (.sv (.one (.sl (.var 6) (.lit 0) (.var 2) (.var 7))))=.slice (az (q2.i 6) 0) T.length (q2.i 7).toNat:=by
    show Value.slice (az (q2.i 6) 0) (q2.i 2).toNat (q2.i 7).toNat=_;rw[F.i 2,v2,b,aar]
   refine⟨[],[1],rfl,rfl,⟨(bf fun k=>match k with | 0=>q2.i 6 | 1=>0 | 2=>T.length | _=>q2.i 7),?_,?_,zzT⟩,_,T,R,rfl,rfl,f,?_⟩
   .rw[u];show _=Value.slice (az (q2.i 6) 0) ((T.length:Int)).toNat (q2.i 7).toNat;rw[aar]
   .exact⟨D,aaM 0,by show(0:Int)<=T.length;omega,E⟩
   .rw[u];show bq (di [q2.h 6]) _ _ _;rw[aN];exact G.rd
def Ci:∀ {l:List Value} {ks:List Kd} {v:Value} {j:Nat} {k:Kd},bo l ks->ks[j]?=some k->bz (some v) k=true->bo (l.set j v) ks
 | [],_,_,_,_,h,_,_=>h
 | _::_,[],_,_,_,h,_,_=>h.elim
 | a::l,k0::ks,v,0,k,h,hk,hv=>by
  simp only[abv,aaF]at hk;subst hk;exact⟨hv,h.2⟩
 | a::l,k0::ks,v,j+1,k,h,hk,hv=>⟨h.1,Ci h.2 (by simpa using hk) hv⟩
def bU.clone {A B:Hl} (x:bU A row h) (hu:bq B u pQ (h.t.map aM)):bU B (row.set 53 u) h:=by
 have hl:=jE x.ok;have b:fu.length=125:=rfl;refine⟨Ci x.ok (k:=.slice) rfl ?_,?_,?_,?_,x.byte⟩
 .obtain⟨a,y,c,e,_⟩:=hu;rw[e];rfl
 .intro v hv;rcases acu hv with h | h
  .exact x.rng v h
  .obtain⟨a,y,c,e,_⟩:=hu;rw[h,e];trivial
 .rw[List.set_set];exact x.core
 .rw[aaD,abP ah];exact hu
def Lp:Sx.Spec where
 fn:=150
 own:=[]
 rd:=[10053]
 res:=[.agg cy]
 pre:=fun xs Hs Rs=>∃ row R h,xs=[.agg row.toArray]/\Rs=[R]/\bU R row h
 post:=fun xs Hs Rs v Hs' F=>∀ row R h,xs=[.agg row.toArray]->Rs=[R]->bU R row h->∃ row',v=.agg row'.toArray/\bU F row' h
def Wn:aG Tryz.prog [Jk] Lp.fn where
 Λ:=aC
 args:=(cA 0 [.agg cy]).map .sv
 mem:=[.ro 130 [.var 53] true]
 nv:=131
def YY:[Jk][0]?=some Jk:=rfl
def YZ:Jk.res=[.one .sl]:=rfl
def TX:(aK 0 [Cp.one .sl]≠[])=True:=by simp [aK,Cp.roots,Ck.root]
set_option maxRecDepth 20000 in
def On (q:Env) (n:Nat):(TV.sv (.agg (ar 0 ([Ck.int .i64,Ck.int .u64]++List.replicate 32 (Ck.int .u8)++[Ck.int .i64,Ck.bool,Ck.int .u64]++List.replicate 16 (Ck.int .u8))++[.sl (.var n) (.var (n+1)) (.var (n+2)) (.var (n+3))]++ar 57 (List.replicate 6 (Ck.int .u64)++List.replicate 32 (Ck.int .u8)++[Ck.int .i64]++List.replicate 32 (Ck.int .u8))))).ev q=.agg ((aE q 0).set 53 (.slice (az (q.i n) (q.i (n+1))) (q.i (n+2)).toNat (q.i (n+3)).toNat)).toArray:=rfl
set_option maxRecDepth 20000 in
def JE:Lp.OK Tryz.prog:=by
 refine Spec.aV (Γ:=[Jk]) (fun t f=>by rw[aaJ]at f;subst f;exact Sw) ?_;rintro xs Hs Rs j q ⟨row,R,h,rfl,rfl,hx⟩;have u:Hs=[]:=aaz.1 j;subst u;obtain⟨J,rfl,c,w,x,y,z⟩:=mV (R:=R) hx.ok;refine⟨Wn,J,fun _ _=>True,fun _ _=>0,?_,dw (by intro r hr;simp [Wn]at hr;subst hr;exact⟨_,_,_,rfl⟩) (by show [J.h 130]=_;rw[c]),(fun _ h=>nomatch h),?_⟩
 .rfl
 .refine aG.read [] [] [] ?_;simp only[go_sem,Nat.reduceAdd,YY,YZ,TX];have hT:bq R (.slice (az (J.i 53) (J.i 54)) (J.i 55).toNat (J.i 56).toNat) pQ (h.t.map aM):=hx.tok;intro q1 A _ q2 B _;have e:ai 131 J q2:=A.tr B;rw[e.i 53,e.i 54,e.i 55,e.i 56,e.h 130,c];refine⟨⟨_,h.t,R,rfl,rfl,hT,fun t f=>(hx.byte.2 t f).1,hx.byte.1⟩,fun a C ⟨F,⟨v',D,R',e1,o,hA,E⟩,d,l⟩=>?_⟩;simp only[aaC,aaP]at e1 o;subst e1 o;have d:=d trivial;have eT:D=h.t:=jO (hA.uniq hT);subst eT;have G:ai 131 J a:=e.tr C;have m:aE a 0=aE J 0:=cX G.mono;have H:=hx.clone E;obtain⟨⟨I,m1,m2,m3⟩,_⟩:=l;intro _;refine⟨[],[3],rfl,rfl,⟨⟨fun k=>if 53<=k/\k<57 then a.i (k+80)else a.i k,a.b,a.s,a.v,a.h⟩,rfl,(tr8 (tr8 (tr8 (tr8 (tr8 (tr8 ⟨zzT,zzT,zzT,zzT,zzT,⟨I,m1,m2,m3⟩,tr8 (tr8 (tr8 (tr8 (tr8 (tr8 (tr8 (tr8 ⟨zzT,zzT,zzT,zzT,zzT,zzT,zzT,zzT⟩)))))))⟩)))))),zzT⟩,fun row' R2 h' g p n=>?_⟩
  .simp only[aaC,aaP,Value.agg.injEq]at g p;have g:aE J 0=row':=aa1 Array.toList g;subst g p;rw[n.uniq hx,On,m];refine⟨_,rfl,?_⟩;show bU (di [a.h 133]) _ _;rw[aN,d];exact H
def iY {a b:List Int} (h1:aq a) (h2:aq b):aq (a++b):=fun z c=>(aa4.1 c).elim (h1 z) (h2 z)
def mP (n:Nat):aq (aj n):=fun z a=>BW n z a
def Tz (b:Bool):aq (dq b):=by
 intro z a;unfold dq at a;rw[aaJ]at a;subst a;cases b<;>simp
def TA (h:∀ t∈T,aq t):aq T.flatten:=by
 intro z a;obtain⟨t,b,a⟩:=adi.1 a;exact h t b z a
def Jw (hx:bU R row h) (hk:∀ j,j<n->fu[a+j]?=some (.int .u8)) (d:∀ j,j<n->a+j≠53):aq (aW h.c a n):=by
 intro z e;obtain⟨j,b,rfl⟩:=abb.1 e;have b:=abd.1 b;rw[hx.I (d j b)];obtain⟨v,hv,hi⟩:=jl hx.ok (hk j b);have hr:=hx.rng v (aaA hv);unfold cI;rw[hv];cases v<;>simp [bz]at hi
 subst hi;exact hr
def YP (hx:bU R row h):aq (tE h):=by
 have s1:=Jw hx (a:=2) (n:=32) aA ah;have s2:=Jw hx (a:=37) (n:=16) aA ah;have b:=Jw hx (a:=60) (n:=32) aA ah;have c:=Jw hx (a:=93) (n:=32) aA ah;unfold tE me pH bg;exact iY (iY (iY (iY (iY (iY (iY (iY (iY (iY (iY (iY (iY (iY (iY (iY (iY (mP _) (mP _)) s1) (mP _)) (Tz _)) (mP _)) s2) (mP _)) (TA fun t d=>(hx.byte.2 t d).2)) (mP _)) (mP _)) (mP _)) (mP _)) (mP _)) (mP _)) b) (mP _)) c
def Nr (hx:bU R row h):aq (bE h)/\(bE h).length<=900000:=by
 unfold bE;split
 .rename_i hf;refine⟨YP hx,?_⟩;have:=tU hx hf.2.1;unfold tE;rw[aay,aJ];omega
 .exact⟨fun z a=>(by cases a),abJ _⟩
noncomputable def nZ (h:Hd):List Int:=gU (bE h)
def Fg (h:bo row fu):∃ q:Env,row=aE q 0/\q.h 130=R/\q.h 131=G/\bR 0 cy q:=by
 obtain⟨q,e,_,hn,_⟩:=mV (R:=R) h;exact⟨⟨q.i,q.b,q.s,q.v,fun k=>if k=130 then R else if k=131 then G else Hl.none⟩,e,rfl,rfl,hn⟩
noncomputable def X0:Sx.Spec where
 fn:=172
 own:=[]
 rd:=[10053,2000005]
 res:=[.agg (List.replicate 32 (Ck.int .u8))]
 pre:=fun xs Hs Rs=>∃ row R RG h,xs=[.agg row.toArray]/\Rs=[R,RG]/\bU R row h/\ve RG 5
 post:=fun xs Hs Rs v Hs' F=>∀ row R RG h,xs=[.agg row.toArray]->Rs=[R,RG]->bU R row h->v=.agg (aM (nZ h)).toArray
noncomputable def Yj:Sx.Spec where
 fn:=142
 own:=[]
 rd:=[10053,2000003]
 res:=[.agg (List.replicate 32 (Ck.int .u8))]
 pre:=fun xs Hs Rs=>∃ row R RG h,xs=[.agg row.toArray]/\Rs=[R,RG]/\bU R row h/\ve RG 3
 post:=fun xs Hs Rs v Hs' F=>∀ row R RG h,xs=[.agg row.toArray]->Rs=[R,RG]->bU R row h->v=.agg (aM (nZ h)).toArray
noncomputable def X1:List Sx.Spec:=[gl 146,wN]
noncomputable def Yk:List Sx.Spec:=[gl 71,kG]
def T7:∀ t∈X1,t.OK Tryz.prog:=av EX <| av Fj <| bW
def Vg:∀ t∈Yk,t.OK Tryz.prog:=av An <| av AB <| bW
def Wr (f:FuncId):(gl f).res=[.one .sl]:=rfl
noncomputable def ehW:aG Tryz.prog X1 X0.fn where
 Λ:=aC
 args:=(cA 0 [.agg cy]).map .sv
 mem:=[.ro 130 [.var 53] true,.ro 131 [.lit 5] false]
 nv:=132
noncomputable def rhW:aG Tryz.prog Yk Yj.fn where
 Λ:=aC
 args:=(cA 0 [.agg cy]).map .sv
 mem:=[.ro 130 [.var 53] true,.ro 131 [.lit 3] false]
 nv:=132
def GK (hr:s.res=[.agg (List.replicate 32 (Ck.int .u8))]) (he:Value.agg (List.map (CV.ev q) (ar n (List.replicate 32 (Ck.int .u8)))).toArray=.agg (aM bs).toArray) (hl:bs.length=32) (h:∀ F,s.post xs [] Rs (.agg (aM bs).toArray) [] F):postOf s xs [] Rs q mem (.sv (.agg (ar n (List.replicate 32 (Ck.int .u8))))):=by
 intro _;obtain⟨a,_,b,c⟩:=cY (List.replicate 32 (Ck.int .u8)) 0 (aM bs) q (pt 32 _ hl);refine⟨[],[],rfl,rfl,⟨a,?_,?_⟩,?_⟩
 .rw[hr];show Value.agg (List.map (CV.ev q) (ar n (List.replicate 32 (Ck.int .u8)))).toArray=Value.agg ((ar 0 (List.replicate 32 (Ck.int .u8))).map (CV.ev a)).toArray;rw[he,c]
 .rw[hr];exact⟨(tr8 (tr8 (tr8 (tr8 zzT)))),zzT⟩
 .have:=h (xA q mem []);rw[<-he]at this;exact this
def Vf:Yj.OK Tryz.prog:=by
 refine Spec.aV (Γ:=Yk) Vg ?_;rintro xs Hs Rs e l ⟨row,R,RG,h,rfl,rfl,hx,hK⟩;have m:Hs=[]:=aaz.1 e;subst m;obtain⟨J,rfl,a,b,n⟩:=Fg (R:=R) (G:=RG) hx.ok;refine⟨rhW,J,fun _ _=>True,fun _ _=>0,?_,dw (by intro r hr;simp [rhW]at hr;rcases hr with rfl | rfl<;>exact⟨_,_,_,rfl⟩) (by show [J.h 130,J.h 131]=_;rw[a,b]),(fun _ h=>nomatch h),?_⟩
 .rfl
 .refine aG.read [cy] [] [] ?_;simp only[go_sem,Nat.reduceAdd,Yk,Wr,XO,TX];intro q1 o _ q2 p _;have f:ai 132 J q2:=o.tr p;have g:aE q2 0=aE J 0:=cX f.mono;have g:List.map (CV.ev q2) (ar 0 cy)=aE J 0:=g;rw[g,f.h 130,a];refine⟨⟨_,R,h,rfl,rfl,hx⟩,fun q s ⟨F,hp,i,_⟩=>?_⟩;have i:=i trivial;have hB:=oN hx hp;have t:ai 132 J q:=f.tr s;rw[i,t.h 131,b];have k:=hB.rd.w;have hb:=Nr hx;refine⟨⟨_,bE h,F,RG,rfl,rfl,k,hb.1,hb.2,hK⟩,fun v x ⟨y,c,_⟩=>?_⟩;have c:=c _ _ _ _ rfl rfl k;refine GK rfl c (gE _) fun z row' R' u h' e1 d j=>?_;simp only[aaC,aaP,Value.agg.injEq]at e1 d;have e1:aE J 0=row':=aa1 Array.toList e1;obtain⟨d,_⟩:=d;subst e1 d;rw[j.uniq hx];rfl
def T6:X0.OK Tryz.prog:=by
 refine Spec.aV (Γ:=X1) T7 ?_;rintro xs Hs Rs f o ⟨row,R,RG,h,rfl,rfl,hx,hK⟩;have p:Hs=[]:=aaz.1 f;subst p;obtain⟨J,rfl,a,b,q⟩:=Fg (R:=R) (G:=RG) hx.ok;refine⟨ehW,J,fun _ _=>True,fun _ _=>0,?_,dw (by intro r hr;simp [ehW]at hr;rcases hr with rfl | rfl<;>exact⟨_,_,_,rfl⟩) (by show [J.h 130,J.h 131]=_;rw[a,b]),(fun _ h=>nomatch h),?_⟩
 .rfl
 .refine aG.read [cy] [] [] ?_;simp only[go_sem,Nat.reduceAdd,X1,Wr,XM,TX];intro q1 s _ q2 t _;have g:ai 132 J q2:=s.tr t;have j:aE q2 0=aE J 0:=cX g.mono;have j:List.map (CV.ev q2) (ar 0 cy)=aE J 0:=j;rw[j,g.h 130,a];refine⟨⟨_,R,h,rfl,rfl,hx⟩,fun y u ⟨F,hp,k,_⟩ m d p4=>?_⟩;have k:=k trivial;have hB:=oN hx hp;have v:ai 132 J m:=g.trans (u.mono.tr d);rw[v.h 131,b,d.h 134,k,d.i 134,d.i 135,d.i 136,d.i 137];have n:=vS (T:=46) p4 hB.rd.w;have hb:=Nr hx;refine⟨⟨m.i 138,0,1,_,F,RG,bE h,rfl,rfl,n,aaM _,hb.1,hb.2,hK⟩,fun z A ⟨B,c,_⟩=>?_⟩;have c:=c _ _ _ _ _ rfl rfl n;refine GK rfl c (gE _) fun C row' R' x h' e1 e l=>?_;simp only[aaC,aaP,Value.agg.injEq]at e1 e;have e1:aE J 0=row':=aa1 Array.toList e1;obtain⟨e,_⟩:=e;subst e1 e;rw[l.uniq hx];rfl
def gV (R:Hl) (rows:List (List Value)) (hs:List Hd):Prop:=rows.length=hs.length/\∀ (i:Nat) row h,rows[i]?=some row->hs[i]?=some h->bU R row h
def gV.nil (R:Hl):gV R [] []:=⟨rfl,fun i row h hr=>by simp at hr⟩
def gV.snoc (a:gV R rows hs) (x:bU R row h):gV R (rows++[row]) (hs++[h]):=by
 refine⟨by rw[aay,aay,a.1];rfl,fun i r g hr b=>?_⟩;rcases abn i rows.length with hi | hi
 .rw[aa0 hi]at hr;rw[aa0 (by rw[<-a.1];exact hi)]at b;exact a.2 i r g hr b
 .rw[aaQ hi]at hr;rw[aaQ (by rw[<-a.1];exact hi),<-a.1]at b;have e:i-rows.length=0:=by
   have:=(aaH.1 hr).1;simpa using this
  rw[e]at hr b;have hr:row=r:=by simpa using hr
  have b:h=g:=by simpa using b
  subst hr;subst b;exact x
def gV.mono (a:gV R rows hs) (hl:R.le R'):gV R' rows hs:=⟨a.1,fun i row h hr hh=>(a.2 i row h hr hh).mono hl⟩
def gV.uniq (a:gV R rows hs) (b:gV R rows hs'):hs=hs':=by
 apply aci (by rw[<-a.1,<-b.1]);intro i h1 h2;have hr:rows[i]?=some (rows[i]'(by rw[a.1];exact h1)):=aax _;exact(a.2 i _ _ hr (aax h1)).uniq (b.2 i _ _ hr (aax h2))
noncomputable def jM (hs:List Hd):List Int:=match hs.getLast? with
 | none=>List.replicate 32 0
 | some h=>nZ h
def qS (hs:List Hd):(jM hs).length=32:=by
 unfold jM;split
 .rfl
 .exact gE _
def iR (K:Hl) (a:Nat) (w:Int) (hs:List Hd):Prop:=∃ (x:Int) (c:Nat) (rows:List (List Value)),
 K a=some (.cells (([.int .i64 w,.slice (az x 0) hs.length c]:List Value)++aM (jM hs)).toArray 237 (0,0)) /\
 tD K 65 fu (.slice (az x 0) hs.length c) rows/\gV K rows hs/\ -1<=x /\
 ∃ KT,KT.le K/\gV KT rows hs/\¬KT.mem a/\∀ b:Nat,x=b->¬KT.mem b
def c8 (R:Hl) (a:Nat) (w:Int) (hs:List Hd):Prop:=∃ K,K.le R/\iR K a w hs
def oi {k:IntKind} (hr:s.res=[.one (.int k)]) (he:aB q e=z) (h:∀ F,s.post xs [] Rs (.int k z) [] F):postOf s xs [] Rs q mem (.sv (.one (.int k e))):=by
 intro _;refine⟨[],[],rfl,rfl,⟨(bf fun _=>z),?_,?_⟩,?_⟩
 .rw[hr,<-he];rfl
 .rw[hr];exact⟨zzT,zzT⟩
 .have:=h (xA q mem []);rw[<-he]at this;exact this
def wJ:Sx.Spec where
 fn:=107
 own:=[]
 rd:=[0]
 res:=[.one (.int .u64)]
 pre:=fun xs Hs Rs=>∃ a R w hs,xs=[.pointer (some ⟨a,0,none⟩)]/\Rs=[R]/\c8 R a w hs
 post:=fun xs Hs Rs v Hs' F=>∀ a R w hs,xs=[.pointer (some ⟨a,0,none⟩)]->Rs=[R]->c8 R a w hs->v=.int .u64 (IntKind.u64.wrap hs.length)
def SQ:aG Tryz.prog [] wJ.fn where
 Λ:=aC
 args:=[TP (.var 0) (.lit 0)]
 mem:=[.ro 1 [.var 0] false]
 nv:=2
def c8.sl (h:c8 R a w hs):∃ (x:Int) (c:Nat),-1<=x/\R.cell a 0=some (.int .i64 w)/\R.cell a 1=some (.slice (az x 0) hs.length c):=by
 obtain⟨K,hl,x,c,rows,hK,_,_,hx,_⟩:=h;have b:=hl _ _ hK;exact⟨x,c,hx,by simp [Hl.cell,b],by simp [Hl.cell,b]⟩
def zw:wJ.OK Tryz.prog:=by
 refine Spec.aV (Γ:=[]) (fun _ h=>by cases h) ?_;rintro xs Hs Rs f k ⟨a,R,w,hs,rfl,rfl,hc⟩;have l:Hs=[]:=aaz.1 f;subst l;obtain⟨x,c,hx,m,c1⟩:=hc.sl;refine⟨SQ,aL [a] false [Hl.none,R],fun _ _=>True,fun _ _=>0,?_,dw (by intro r hr;simp [SQ]at hr;subst hr;exact⟨_,_,_,rfl⟩) rfl,(fun _ h=>nomatch h),?_⟩
 .show [Value.pointer (az (a:Int) 0)]=_;rw[au ah];rfl
 .refine aG.read [] [] [] ?_;generalize e:aL [(a:Int)] false [Hl.none,R]=J;have v0:J.i 0=a:=by rw[<-e];rfl
  have g:J.h 1=R:=by rw[<-e];rfl
  simp only[go_sem,Nat.reduceAdd];rw[v0,g];have e1:R.cell ((a:Int)).toNat (Int.toNat 1)=some (.slice (az x 0) hs.length c):=by rw[aar];exact c1
  have j:bw (some (Value.slice (az x 0) hs.length c)) 2=hs.length:=by
   cases az x 0 with
   | none=>rfl
   | some b=>obtain⟨b,o,s⟩:=b;cases s<;>rfl
  rw[e1,j];refine⟨ah,rfl,ah,oi rfl (z:=IntKind.u64.wrap hs.length) ?_ fun F n R' w' hs' h1 h2 h'=>?_⟩
  .show IntKind.u64.wrap (bw ((J.h 1).cell (J.i 0).toNat (Int.toNat 1+0)) 2)=_;rw[v0,g,abj,e1,j]
  .simp only[aaC,aaP,Value.pointer.injEq,aaF,Addr.mk.injEq]at h1 h2;subst h1 h2;obtain⟨x',c',_,_,d⟩:=h'.sl;rw[c1]at d;simp only[aaF,Value.slice.injEq]at d;rw[d.2.1]
def GW:Sx.Spec where
 fn:=136
 own:=[]
 rd:=[]
 res:=[.one .ptr]
 pre:=fun xs Hs Rs=>∃ w,xs=[.int .i64 w]
 post:=fun xs Hs Rs v Hs' F=>∀ w,xs=[.int .i64 w]->∃ b:Nat,v=.pointer (some ⟨b,0,none⟩)/\iR F b w []
def Tp:aG Tryz.prog [] GW.fn where
 Λ:=aC
 args:=[TI .i64 (.var 0)]
 mem:=[]
 nv:=1
set_option maxRecDepth 20000 in
def Qu:GW.OK Tryz.prog:=by
 refine Spec.aV (Γ:=[]) (fun _ h=>by cases h) ?_;rintro xs Hs Rs a c ⟨w,rfl⟩;have f:Hs=[]:=aaz.1 a;have e1:Rs=[]:=aaz.1 c;subst f e1;refine⟨Tp,aL [w] false [],fun _ _=>True,fun _ _=>0,rfl,dw (by intro r hr;simp [Tp]at hr) rfl,(fun _ h=>nomatch h),?_⟩;refine aG.read [] [] [] ?_;generalize d:aL [w] false []=J;have v0:J.i 0=w:=by rw[<-d];rfl
 simp only[go_sem,Nat.reduceAdd];intro q1 g p1 _;have v1:q1.i 0=w:=by rw[g.i 0,v0]
 have p1:0<=q1.i 1:=p1;refine⟨[],[0],rfl,rfl,⟨(bf fun k=>if k=0 then q1.i 1 else 0),rfl,⟨by show -1<=q1.i 1;omega,aaM 0⟩,zzT⟩,fun w' e=>⟨(q1.i 1).toNat,?_,-1,0,[],?_,tD.nil _ _ _,gV.nil _,aaM _,Hl.none,(fun _ _ h=>by cases h),gV.nil _,(fun h=>by cases h),fun b h=>ah⟩⟩
 .show Value.pointer (az (q1.i 1) 0)=_;rw[au p1];rfl
 .simp only[aaC,Value.int.injEq,abk,aaP]at e;subst e;show(di [Hl.one (q1.i 1).toNat _]) _=_;rw[aN,Hl.aU,<-v1];rfl
def Lj:Sx.Spec where
 fn:=118
 own:=[]
 rd:=[0]
 res:=[.agg cy,.one .bool]
 pre:=fun xs Hs Rs=>∃ a R w hs n,xs=[.pointer (some ⟨a,0,none⟩),.int .u64 n]/\Rs=[R]/\c8 R a w hs/\(0<=n/\n<18446744073709551616)/\hs.length<1000000
 post:=fun xs Hs Rs v Hs' F=>∃ a R w hs n,xs=[.pointer (some ⟨a,0,none⟩),.int .u64 n]/\Rs=[R]/\c8 R a w hs /\
  ((1<=n/\n<=hs.length/\∃ row h,hs[(n-1).toNat]?=some h/\v=.tuple #[.agg row.toArray,.bool true]/\bU F row h)\/(¬(1<=n/\n<=hs.length)/\∃ u,v=.tuple #[u,.bool false]))
def Wg:List Sx.Spec:=[wJ,Lp]
def TM:∀ t∈Wg,t.OK Tryz.prog:=av zw <| av JE <| bW
def YT:Wg[0]?=some wJ:=rfl
def YU:Wg[1]?=some Lp:=rfl
def TL:wJ.res=[.one (.int .u64)]:=rfl
def We:Lp.res=[.agg cy]:=rfl
set_option maxRecDepth 20000 in
def Wc:(aK 0 [Cp.agg cy]≠[])=True:=eq_true aA
def Wf:aG Tryz.prog Wg Lj.fn where
 Λ:=aC
 args:=[TP (.var 0) (.lit 0),.sv (.one (.int .u64 (.var 1)))]
 mem:=[.ro 2 [.var 0] true]
 nv:=3
set_option maxRecDepth 20000 in
def NG {n:Int} (hc:c8 R a w hs) (b:¬(1<=n/\n<=hs.length)) : postOf Lj [.pointer (some ⟨a,0,none⟩),.int .u64 n] [] [R] q mem (.tup [.agg ([.int .i64 (.lit 0),.int .u64 (.lit 0)]++List.replicate 32 (CV.int .u8 (.lit 0))++[.int .i64 (.lit 0),.bool .ff,.int .u64 (.lit 0)]++List.replicate 16 (CV.int .u8 (.lit 0))++[.sl (.lit (-1)) (.lit 0) (.lit 0) (.lit 0),.int .u64 (.lit 0),.int .u64 (.lit 0),.int .u64 (.lit 0),.int .u64 (.lit 0),.int .u64 (.lit 0),.int .u64 (.lit 0)]++List.replicate 32 (CV.int .u8 (.lit 0))++[.int .i64 (.lit 0)]++List.replicate 32 (CV.int .u8 (.lit 0))),.one (.bool .ff)]):=by
 intro _;refine⟨[],[],rfl,rfl,⟨(bf fun k=>if k=53 then -1 else 0),rfl,(tr8 (tr8 (tr8 (tr8 (tr8 (tr8 ⟨zzT,zzT,zzT,zzT,zzT,⟨aA,aA,aA,aA⟩,tr8 (tr8 (tr8 (tr8 (tr8 (tr8 (tr8 (tr8 ⟨zzT,zzT,zzT,zzT,zzT,zzT,zzT,zzT⟩)))))))⟩)))))),zzT,zzT⟩,a,R,w,hs,n,rfl,rfl,hc,Or.inr ⟨b,_,rfl⟩⟩
def kq {n:Int} {K:List Hl} (hc:c8 R a w hs) (hl:hs.length<1000000) (hp:wJ.post [.pointer (some ⟨a,0,none⟩)] Hs [R] (.int .u64 n) K F):n=hs.length:=by
 have:=hp _ _ _ _ rfl rfl hc;simp only[Value.int.injEq,abk]at this;rw[this,IntKind.wrap_u64];omega
set_option maxRecDepth 20000 in
def Jx:Lj.OK Tryz.prog:=by
 refine Spec.aV (Γ:=Wg) TM ?_;rintro xs Hs Rs q D ⟨a,R,w,hs,n,rfl,rfl,hc,hn,hlen⟩;have G:Hs=[]:=aaz.1 q;subst G;refine⟨Wf,aL [a,n] false [Hl.none,Hl.none,R],fun _ _=>True,fun _ _=>0,?_,dw (by intro r hr;simp [Wf]at hr;subst hr;exact⟨_,_,_,rfl⟩) rfl,(fun _ h=>nomatch h),?_⟩
 .show [Value.pointer (az (a:Int) 0),.int .u64 n]=_;rw[au ah];rfl
 .refine aG.read [cy] [fu] [] ?_;generalize g:aL [(a:Int),n] false [Hl.none,Hl.none,R]=J;simp only[Nd.holds,X.pre,X.rel,X.n,Src.ok,Src.len,Src.iW,abk,aaP,ab6,acA,abj,Nat.reduceAdd,abc,abt,se,r9,jZ,kP,jr,sd,nx,mO,pG,gM,nj,ny,sa,nq,np,j7,nu,ak,al,bQ,dm,cG,bP,cO,fh,fG,fS,iT,gy,iE,fY,TV.ev,SV.ev,CV.ev,aaY,abN,bL.hl,kS,Cp.sv,Ck.cv,cA,Cp.len,Ck.len,gI,iz,jD,YT,YU,TL,We,Wc];have v0:J.i 0=a:=by rw[<-g];rfl
  have v1:J.i 1=n:=by rw[<-g];rfl
  have t:J.h 2=R:=by rw[<-g];rfl
  intro q1 p _;have H:Value.pointer (az (a:Int) 0)=.pointer (some ⟨a,0,none⟩):=by rw[au ah];rfl
  rw[p.i 0,p.i 1,p.h 2,v0,v1,t,H];refine⟨fun h1=>⟨⟨a,R,w,hs,rfl,rfl,hc⟩,fun q2 I ⟨F,hp,_⟩=>?_⟩,fun h1=>NG hc ah⟩;have L:=kq hc hlen hp;have m:ai 3 J q2:=p.tr I;rw[L,m.i 0,m.i 1,m.h 2,v0,v1,t];refine⟨fun h2=>NG hc ah,fun h2=>?_⟩;obtain⟨K,hl,x,c,rows,hK,M,hA,hx,_⟩:=id hc;have c1:R.cell a 1=some (.slice (az x 0) hs.length c):=by simp [Hl.cell,hl _ _ hK]
  have hr:bq R (.slice (az x 0) ((hs.length:Int)).toNat ((c:Int)).toNat) fu rows:=by rw[aar,aar];exact il M.rd hl
  obtain⟨el,y⟩:=hr.at hx (aaM _) ah;have N:=hA.1;obtain⟨row,aE⟩:∃ row,rows[(n-1).toNat]?=some row:=⟨_,aax ah⟩;obtain⟨h,hh⟩:∃ h,hs[(n-1).toNat]?=some h:=⟨_,aax ah⟩;obtain⟨f,o,cells⟩:=y _ _ aE;have hI:=(hA.mono hl).2 _ _ _ aE hh;have hw:IntKind.u64.wrap (n-1)=n-1:=by rw[IntKind.wrap_u64];omega
  have e1:R.cell ((a:Int)).toNat (Int.toNat 1)=some (.slice (az x 0) hs.length c):=by rw[aar];exact c1
  have p0:bw (some (Value.slice (az x 0) hs.length c)) 0=x:=by rw[au f];show((x.toNat:Nat):Int)=x;omega
  have p1:bw (some (Value.slice (az x 0) hs.length c)) 1=0:=by rw[au f];rfl
  have p2:bw (some (Value.slice (az x 0) hs.length c)) 2=hs.length:=by rw[au f];rfl
  have d:∀ j u,row[j]?=some u->R.cell x.toNat ((0+(n-1)*125).toNat+j)=some u:=fun j u hu=>by
   have:=cells j u hu;have e:(0:Int).toNat+(n-1).toNat*fu.length+j=(0+(n-1)*125).toNat+j:=by
    rw[show fu.length=125 from rfl];omega
   rw[e]at this;exact this
  have eR:List.map (CV.ev q2) (aY 2 (E.hP 2 (E.var 0) (E.lit 1) 0 0) ((E.hP 2 (E.var 0) (E.lit 1) 0 1).add ((E.wrap IntKind.u64 ((E.var 1).sub (E.lit 1))).mul (E.lit 125))) 0 fu)=row:=by
   refine fw row fu 0 o fun i u hu=>?_;have:=d i u hu;simp only[fG,bQ,cG,bP,dm,al,ak,m.i 0 (by omega:0<3),m.i 1 (by omega:1<3),m.h 2 (by omega:2<3),v0,v1,t,abj,aa6];rw[e1,p0,p1,hw];exact this
  rw[eR,e1,p0,p1,p2,hw];refine⟨ah,rfl,f,aaM _,ah,ah,my _ o d,⟨row,R,h,rfl,rfl,hI⟩,fun l Q ⟨S,z,A,B⟩=>?_⟩;obtain⟨row',O,C⟩:=z _ _ _ rfl rfl hI;intro _;refine⟨[],[2],rfl,rfl,?_,a,R,w,hs,n,rfl,rfl,hc,Or.inl ⟨ah,ah,row',h,hh,?_,?_⟩⟩
  .obtain⟨P,m1,m2,m3⟩:=B.1.2.2.2.2.2.2.2.2.2.2.2.2.2.2.2.2.2.2.2.2.2.2.2.2.2.2.2.2.2.2.2.2.2.2.2.2.2.2.2.2.2.2.2.2.2.2.2.2.2.2.2.2.2.1;exact⟨⟨fun k=>l.i (k+5),fun k=>if k=128 then true else l.b (k+5),l.s,l.v,l.h⟩,rfl,(tr8 (tr8 (tr8 (tr8 (tr8 (tr8 ⟨zzT,zzT,zzT,zzT,zzT,⟨P,m1,m2,m3⟩,tr8 (tr8 (tr8 (tr8 (tr8 (tr8 (tr8 (tr8 ⟨zzT,zzT,zzT,zzT,zzT,zzT,zzT,zzT⟩)))))))⟩)))))),zzT,zzT⟩
  .show Value.tuple #[.agg (List.map (CV.ev l) (ar 5 cy)).toArray,.bool true]=_;rw[O]
  .show bU (di [l.h 5]) _ _;rw[aN,A zzT];exact C
def eqs (f g:Nat->Int):Nat->Nat->Prop
 | _,0=>True
 | n,1=>f n=g n
 | n,k+2=>f n=g n/\eqs f g (n+1) (k+1)
def JQ {f g:Nat->Int} : ∀ (k n:Nat),eqs f g n k↔∀ j,j<k->f (n+j)=g (n+j)
 | 0,n=>⟨fun _ j h=>ah,fun _=>trivial⟩
 | 1,n=>⟨fun h j a=>(by cases j with
  | zero=>exact h
  | succ j=>omega),fun h=>h 0 ah⟩
 | k+2,n=>by
  show(f n=g n/\eqs f g (n+1) (k+1))↔_;rw[JQ (k+1) (n+1)];constructor
  .rintro⟨h0,h⟩ j a;cases j with
   | zero=>exact h0
   | succ j=>have:=h j ah;rwa[show n+1+j=n+(j+1)by omega]at this
  .exact fun h=>⟨h 0 ah,fun j a=>by have:=h (j+1) ah;rwa[show n+(j+1)=n+1+j by omega]at this⟩
def Q3 {f g:Nat->Int} {s:List Int} (hs:s.length=16) (c:t.length=16) (hf:∀ j,j<16->f j=s.getD j 0) (b:∀ j,j<16->g j=t.getD j 0):eqs f g 0 16↔s=t:=by
 rw[JQ];constructor
 .intro h;apply aa2;intro j;by_cases a:j<16
  .have e:=h j a;rw[aa6,hf j a,b j a,aaD,aaD,aax ah,aax ah]at e;rw[aax ah,aax ah];exact aa1 some e
  .rw[aaK ah,aaK ah]
 .rintro rfl j a;rw[aa6,hf j a,b j a]
open Classical in
noncomputable def equalS:Sx.Spec where
 fn:=193
 own:=[]
 rd:=[0,1]
 res:=[.one .bool]
 pre:=fun xs Hs Rs=>∃ (u v:Value) (R1 R2:Hl) (S T:List (List Int)),xs=[u,v]/\Rs=[R1,R2]/\bq R1 u pQ (S.map aM)/\bq R2 v pQ (T.map aM)/\Ed S/\Ed T
 post:=fun xs Hs Rs w Hs' F=>∃ (u v:Value) (R1 R2:Hl) (S T:List (List Int)),xs=[u,v]/\Rs=[R1,R2]/\bq R1 u pQ (S.map aM)/\bq R2 v pQ (T.map aM)/\w=.bool (decide (S=T))
def yY:aG Tryz.prog [] 193 where
 Λ:=fun p=>if OJ p then some ⟨0,[(13,TI .i64 (.var 20))],[],22⟩else none
 args:=[.sv (.one (.sl (.var 0) (.var 1) (.var 2) (.var 3))),.sv (.one (.sl (.var 4) (.var 5) (.var 6) (.var 7)))]
 mem:=[.ro 8 [.var 0] false,.ro 9 [.var 4] false]
 nv:=10
def xy (e:0<=y) (hc:∀ (i:Nat) row,(T.map aM)[i]?=some row->bo row pQ/\∀ j u,row[j]?=some u->R.cell x.toNat (y.toNat+i*pQ.length+j)=some u) (d:T[i]?=some t) (hl:t.length=16) :
 bM R x.toNat (y+(i:Int)*16).toNat 16=true/\∀ j,j<16->cf (R.cell x.toNat ((y+(i:Int)*16).toNat+j))=t.getD j 0:=by
 have h1:=(hc i (aM t) (by rw[aaL,d];rfl)).2;have hlen:pQ.length=16:=rfl;rw[hlen]at h1;have b:(y+(i:Int)*16).toNat=y.toNat+i*16:=ah;have c:∀ j,j<16->R.cell x.toNat (y.toNat+i*16+j)=some (.int .u8 (t.getD j 0)):=fun j a=>by
  rw[h1 j (.int .u8 (t[j])) (by unfold aM;rw[aaL,aax ah];rfl),aaD,aax ah];rfl
 rw[b];constructor
 .unfold bM;rw[aa3];intro j a;rw[c j (abd.1 a)];rfl
 .intro j a;rw[c j a];rfl
def Wt (f g:Nat->Int):(f 0=g 0/\f 1=g 1/\f 2=g 2/\f 3=g 3/\f 4=g 4/\f 5=g 5/\f 6=g 6/\f 7=g 7/\f 8=g 8/\f 9=g 9/\f 10=g 10/\f 11=g 11/\f 12=g 12/\f 13=g 13/\f 14=g 14/\f 15=g 15)↔eqs f g 0 16:=adC
def Lx:equalS.OK Tryz.prog:=by
 refine Spec.aV (Γ:=[]) (fun _ h=>by cases h) ?_;rintro xs Hs Rs o D ⟨u,v,R1,R2,S,T,rfl,rfl,w,z,hS,hT⟩;have F:Hs=[]:=aaz.1 o;subst F;obtain⟨x,y,c,rfl,A,d⟩:=id w;obtain⟨x',y',c',rfl,m,b⟩:=id z;refine⟨yY,aL [x,y,S.length,c,x',y',T.length,c'] false [Hl.none,Hl.none,Hl.none,Hl.none,Hl.none,Hl.none,Hl.none,Hl.none,R1,R2],fun _ q=>∃ i:Nat,q.i 20=i/\i<=S.length/\∀ k,k<i->S[k]?=T[k]?,fun _ q=>(S.length-q.i 20).toNat,?_,⟨?_,?_,?_,?_⟩,(fun _ h=>nomatch h),?_⟩
 .rw[aaT,aaT];show [Value.slice (az x y) ((S.length:Int)).toNat ((c:Int)).toNat,Value.slice (az x' y') ((T.length:Int)).toNat ((c':Int)).toNat]=_;rw[aar,aar,aar,aar]
 .intro r hr ho;simp [yY]at hr;rcases hr with rfl | rfl<;>cases ho
 .intro r hr ho;simp [yY]at hr;rcases hr with rfl | rfl
  .exact⟨R1,aF,Hl.le_refl _⟩
  .exact⟨R2,aF,Hl.le_refl _⟩
 .simp [yY,bL.own]
 .intro r hr;simp [yY]at hr;rcases hr with rfl | rfl<;>trivial
 .refine aG.read [] [] [] ?_;generalize a:aL [x,y,S.length,c,x',y',T.length,c'] false [Hl.none,Hl.none,Hl.none,Hl.none,Hl.none,Hl.none,Hl.none,Hl.none,R1,R2]=J;have v0:J.i 0=x:=by rw[<-a];rfl
  have v1:J.i 1=y:=by rw[<-a];rfl
  have v2:J.i 2=S.length:=by rw[<-a];rfl
  have v4:J.i 4=x':=by rw[<-a];rfl
  have v5:J.i 5=y':=by rw[<-a];rfl
  have v6:J.i 6=T.length:=by rw[<-a];rfl
  have G:J.h 8=R1:=by rw[<-a];rfl
  have H:J.h 9=R2:=by rw[<-a];rfl
  clear a;have out:∀ {q:Env} {e:E} {mem:Mem},(bh q e=true↔S=T)->postOf equalS [.slice (az x y) (S.map aM).length c,.slice (az x' y') (T.map aM).length c'] [] [R1,R2] q mem (.sv (.one (.bool e))):=by
   intro q e mem he _;exact⟨[],[],rfl,rfl,⟨⟨fun _=>0,fun _=>bh q e,fun _=>.empty,fun _=>.tuple #[],fun _=>Hl.none⟩,rfl,zzT,zzT⟩,_,_,R1,R2,S,T,rfl,rfl,w,z,wy he⟩
  simp only[go_sem,Nat.reduceAdd];rw[v2,v6];refine⟨ah,ah,fun p=>out ⟨fun e=>(by rw[du]at e;cases e),fun e=>absurd (by rw[e]) p⟩,fun hl=>⟨⟨0,rfl,abJ _,fun k hk=>ah⟩,fun q g ⟨i,B,hi,hk⟩=>?_⟩⟩;rw[g.i 2,v2,B,g.i 0,v0,g.i 1,v1,g.h 8,G,g.i 4,v4,g.i 5,v5,g.h 9,H,g.i 6,v6];have I:=hS.1;have C:IntKind.i64.wrap (q.i 20+1)=((i+1:Nat):Int):=by rw[B,IntWalk.i64_in _ ah];omega
  refine⟨fun h=>?_,fun h=>out ⟨fun _=>?_,fun _=>cZ q⟩⟩
  .have VL:i<S.length:=ah;have f:i<T.length:=ah;rcases d with hn | ⟨hx,hc⟩
   .rw[ab4]at hn;rw[hn]at VL;cases VL
   rcases b with hn | ⟨s,t⟩
   .rw[ab4]at hn;rw[hn]at f;cases f
   have hs:S[i]?=some S[i]:=aax VL;have n:T[i]?=some T[i]:=aax f;have m1:=(hS.2 _ (aaA hs)).1;have m2:=(hT.2 _ (aaA n)).1;obtain⟨b1,c1⟩:=xy A hc hs m1;obtain⟨b2,c2⟩:=xy m t n m2;have E:=(Wt (fun j=>cf (R1.cell x.toNat ((y+(i:Int)*16).toNat+j))) (fun j=>cf (R2.cell x'.toNat ((y'+(i:Int)*16).toNat+j)))).trans (Q3 m1 m2 c1 c2);refine⟨hx,A,ah,b1,s,m,ah,b2,fun hn=>out ⟨fun e=>(by rw[du]at e;cases e),fun e=>absurd (E.2 ?_) hn⟩,fun he=>⟨⟨i+1,C,ah,fun k K=>?_⟩,?_⟩⟩
   .have:=hs.symm.trans ((aa1 (fun l=>l[i]?) e).trans n);exact abp this
   .rcases abn k i with h1 | h1
    .exact hk k h1
    .obtain rfl:k=i:=ah;rw[hs,n,E.1 he]
   .show((S.length:Int)-IntKind.i64.wrap (q.i 20+1)).toNat<_;rw[C];omega
  .apply aa2;intro k;by_cases L:k<S.length
   .exact hk k ah
   .rw[aaK ah,aaK ah]
open Classical in
noncomputable def Gu:Sx.Spec where
 fn:=175
 own:=[]
 rd:=[10053,10153]
 res:=[.one .bool]
 pre:=fun xs Hs Rs=>∃ r1 r2 R1 R2 h1 h2,xs=[.agg r1.toArray,.agg r2.toArray]/\Rs=[R1,R2]/\bU R1 r1 h1/\bU R2 r2 h2
 post:=fun xs Hs Rs v Hs' F=>∃ r1 r2 R1 R2 h1 h2,xs=[.agg r1.toArray,.agg r2.toArray]/\Rs=[R1,R2]/\bU R1 r1 h1/\bU R2 r2 h2/\v=.bool (decide (h1=h2))
noncomputable def Gw:aG Tryz.prog [ie 117,qO 148,equalS] 175 where
 Λ:=aC
 args:=(cA 0 [.agg cy,.agg cy]).map .sv
 mem:=[.ro 300 [.var 53] false,.ro 301 [.var 181] false]
 nv:=302
def Sj : (aE q 0).set 53 (.bool false)=(aE q 128).set 53 (.bool false)↔q.i 0=q.i 128/\q.i 1=q.i 129/\eqs q.i (fun k=>q.i (k+128)) 2 32/\q.i 34=q.i 162/\(q.b 35=q.b 163)/\q.i 36=q.i 164/\eqs q.i (fun k=>q.i (k+128)) 37 16/\eqs q.i (fun k=>q.i (k+128)) 57 6/\eqs q.i (fun k=>q.i (k+128)) 63 32/\q.i 95=q.i 223/\eqs q.i (fun k=>q.i (k+128)) 96 32:=by
 simp only[aE,cy,List.replicate,acq,abU,ar,Ck.cv,Ck.len,i64,aaY,abN,List.set_cons_succ,List.set_cons_zero,CV.ev,al,bD,aa6,ab7,Nat.reduceAdd,aaC,Value.int.injEq,Value.bool.injEq,abk,aaP,eqs,and_assoc]
def Sz (h1:bo r1 fu) (h2:bo r2 fu):∃ q:Env,r1=aE q 0/\r2=aE q 128/\q.h 300=R1/\q.h 301=R2:=by
 obtain⟨q1,_,_,e1⟩:=cY cy 0 r1 (bf fun _=>0) h1;obtain⟨q2,c,_,d⟩:=cY cy 128 r2 q1 h2;have a:aE q2 0=r1:=(cX c).trans e1;exact⟨⟨q2.i,q2.b,q2.s,q2.v,fun k=>if k=300 then R1 else if k=301 then R2 else Hl.none⟩,a.symm,d.symm,rfl,rfl⟩
def WE (x:bU R1 r1 h1) (y:bU R2 r2 h2):h1=h2↔h1.t=h2.t/\r1.set 53 (.bool false)=r2.set 53 (.bool false):=by
 rw[<-x.core,<-y.core];cases h1;cases h2;simp [and_comm]
def aq2:[ie 117,qO 148,equalS][2]?=some equalS:=rfl
def YJ:equalS.res=[.one .bool]:=rfl
def HK {w:Value} {K:List Hl} (h1:bq R1 u pQ (S.map aM)) (h2:bq R2 v pQ (T.map aM)) (hp:equalS.post [u,v] Hs [R1,R2] w K F):(w=.bool true->S=T)/\(S=T->w=.bool true):=by
 obtain⟨f,v',b,c,S',g,e1,a,d,e,hv⟩:=hp;simp only[aaC,aaP]at e1 a;obtain⟨rfl,rfl⟩:=e1;obtain⟨rfl,rfl⟩:=a;obtain rfl:=jO (h1.uniq d);obtain rfl:=jO (h2.uniq e);rw[hv];simp
def PZ:Gu.OK Tryz.prog:=by
 refine Spec.aV (Γ:=[ie 117,qO 148,equalS]) (fun t m=>?_) ?_
 .simp only[aaN,aaX,abC]at m;rcases m with rfl | rfl | rfl
  .exact nU
  .exact BG
  .exact Lx
 rintro xs Hs Rs l p ⟨r1,r2,R1,R2,h1,h2,rfl,rfl,hx,j⟩;have s:Hs=[]:=aaz.1 l;subst s;obtain⟨J,rfl,rfl,f,g⟩:=Sz (R1:=R1) (R2:=R2) hx.ok j.ok;refine⟨Gw,J,fun _ _=>True,fun _ _=>0,zzK,⟨?_,?_,?_,?_⟩,(fun _ h=>nomatch h),?_⟩
 .intro r hr ho;simp [Gw]at hr;rcases hr with rfl | rfl<;>cases ho
 .intro r hr ho;simp [Gw]at hr;rcases hr with rfl | rfl
  .exact⟨R1,aF,by show(J.h 300).le R1;rw[f];exact Hl.le_refl _⟩
  .exact⟨R2,aF,by show(J.h 301).le R2;rw[g];exact Hl.le_refl _⟩
 .simp [Gw,bL.own]
 .intro r hr;simp [Gw]at hr;rcases hr with rfl | rfl<;>trivial
 .refine aG.read [] [] [] ?_;have out:∀ {q:Env} {e:E} {mem:Mem},(bh q e=true↔h1=h2)->postOf Gu [.agg (aE J 0).toArray,.agg (aE J 128).toArray] [] [R1,R2] q mem (.sv (.one (.bool e))):=by
   intro q e mem he _;exact⟨[],[],rfl,rfl,⟨⟨fun _=>0,fun _=>bh q e,fun _=>.empty,fun _=>.tuple #[],fun _=>Hl.none⟩,rfl,zzT,zzT⟩,_,_,R1,R2,h1,h2,rfl,rfl,hx,j,wy he⟩
  have ff:∀ {q:Env} {mem:Mem},¬h1=h2->postOf Gu [.agg (aE J 0).toArray,.agg (aE J 128).toArray] [] [R1,R2] q mem (.sv (.one (.bool .ff))):=fun hf=>out ⟨fun e=>(by rw[du]at e;cases e),fun e=>absurd e hf⟩;simp only[go_sem,Nat.reduceAdd,aq2,YJ,Vt];have hS:bq R1 (.slice (az (J.i 53) (J.i 54)) (J.i 55).toNat (J.i 56).toNat) pQ (h1.t.map aM):=hx.tok;have hT:bq R2 (.slice (az (J.i 181) (J.i 182)) (J.i 183).toNat (J.i 184).toNat) pQ (h2.t.map aM):=j.tok;intro q1 u _ q2 v _;have d:ai 302 J q2:=u.tr v;rw[d.i 53,d.i 54,d.i 55,d.i 56,d.i 181,d.i 182,d.i 183,d.i 184,d.h 300,d.h 301,f,g];refine⟨⟨_,_,R1,R2,h1.t,h2.t,rfl,rfl,hS,hT,hx.byte,j.byte⟩,fun a w ⟨F,hp,_⟩=>?_⟩;have hv:=HK hS hT hp;have hv:a.b 304=true↔h1.t=h2.t:=by
   have:(a.b 304=true)=(Value.bool (bh a (.bvar 304))=.bool true):=by rw[bD];simp
   rw[this];exact⟨hv.1,hv.2⟩
  have o:ai 302 J a:=d.tr w;have a0:aE a 0=aE J 0:=cX o.mono;have x:aE a 128=aE J 128:=aa5 (Value.agg.inj (gn (n:=128) (ks:=cy) o (acs zzK)));have E:=WE hx j;rw[<-a0,<-x,Sj,<-hv]at E;refine⟨fun c=>ff fun e=>c (E.1 e).1,fun hb=>?_⟩;have eB:(a.b 35=true)=(a.b 163=true)↔a.b 35=a.b 163:=by cases a.b 35<;>cases a.b 163<;>simp
  rw[eB];refine⟨fun k0=>⟨fun k1=>⟨fun k2=>⟨fun k3=>⟨fun k4=>⟨fun k5=>⟨fun k6=>⟨fun y=>⟨fun z=>⟨fun A=>out ?_,fun c=>ff fun e=>c (E.1 e).2.2.2.2.2.2.2.2.2.2.1⟩,fun c=>ff fun e=>c (E.1 e).2.2.2.2.2.2.2.2.2.1⟩,fun c=>ff fun e=>c (E.1 e).2.2.2.2.2.2.2.2.1⟩,fun c=>ff fun e=>c (E.1 e).2.2.2.2.2.2.2.1⟩,fun c=>ff fun e=>c (E.1 e).2.2.2.2.2.2.1⟩,fun c=>ff fun e=>c (E.1 e).2.2.2.2.2.1⟩,fun c=>ff fun e=>c (E.1 e).2.2.2.2.1⟩,fun c=>ff fun e=>c (E.1 e).2.2.2.1⟩,fun c=>ff fun e=>c (E.1 e).2.2.1⟩,fun c=>ff fun e=>c (E.1 e).2.1⟩;have B:bh a (.and (.eq (.var 96) (.var 224)) (.and (.eq (.var 97) (.var 225)) (.and (.eq (.var 98) (.var 226)) (.and (.eq (.var 99) (.var 227)) (.and (.eq (.var 100) (.var 228)) (.and (.eq (.var 101) (.var 229)) (.and (.eq (.var 102) (.var 230)) (.and (.eq (.var 103) (.var 231)) (.and (.eq (.var 104) (.var 232)) (.and (.eq (.var 105) (.var 233)) (.and (.eq (.var 106) (.var 234)) (.and (.eq (.var 107) (.var 235)) (.and (.eq (.var 108) (.var 236)) (.and (.eq (.var 109) (.var 237)) (.and (.eq (.var 110) (.var 238)) (.and (.eq (.var 111) (.var 239)) (.and (.eq (.var 112) (.var 240)) (.and (.eq (.var 113) (.var 241)) (.and (.eq (.var 114) (.var 242)) (.and (.eq (.var 115) (.var 243)) (.and (.eq (.var 116) (.var 244)) (.and (.eq (.var 117) (.var 245)) (.and (.eq (.var 118) (.var 246)) (.and (.eq (.var 119) (.var 247)) (.and (.eq (.var 120) (.var 248)) (.and (.eq (.var 121) (.var 249)) (.and (.eq (.var 122) (.var 250)) (.and (.eq (.var 123) (.var 251)) (.and (.eq (.var 124) (.var 252)) (.and (.eq (.var 125) (.var 253)) (.and (.eq (.var 126) (.var 254)) (.eq (.var 127) (.var 255)))))))))))))))))))))))))))))))))=true↔eqs a.i (fun k=>a.i (k+128)) 96 32:=by
   simp only[jr,gM,al];exact adC
  rw[B,E];exact⟨fun h=>⟨hb,k0,k1,k2,k3,k4,k5,k6,y,z,A,h⟩,fun h=>h.2.2.2.2.2.2.2.2.2.2.2⟩
open Classical in
noncomputable def gQ (w:Int) (hs:List Hd) (h:Hd):Int :=
 if ¬h.Form\/cI h.c 0≠w then 1
 else if cI h.c 1<=hs.length then(if hs[(cI h.c 1-1).toNat]?=some h then 13 else 8)
 else if hs.length+1<cI h.c 1 then 12
 else if aW h.c 2 32≠jM hs then 7 else 0
def oa (q:Env) (n:Nat):List Value:=(ar n cy).map (CV.ev q)
def Oh {A B:Hl} {a:Int} (h:bo row fu):∃ q:Env,q.i 0=a/\row=oa q 1/\q.h 129=A/\q.h 130=B/\bR 1 cy q:=by
 obtain⟨q,g,hn,e⟩:=cY cy 1 row (bf fun _=>a) h;refine⟨⟨q.i,q.b,q.s,q.v,fun k=>if k=129 then A else if k=130 then B else Hl.none⟩,g.i 0,e.symm,rfl,rfl,hn⟩
def c8.facts (h:c8 R a w hs):∃ (x:Int) (c:Nat) (rows:List (List Value)),R a=some (.cells (([.int .i64 w,.slice (az x 0) hs.length c]:List Value)++aM (jM hs)).toArray 237 (0,0))/\bq R (.slice (az x 0) hs.length c) fu rows/\gV R rows hs:=by
 obtain⟨K,hl,x,c,rows,hK,b,hA,_⟩:=h;exact⟨x,c,rows,hl _ _ hK,il b.rd hl,hA.mono hl⟩
def c8.uniq (h:c8 R a w hs) (h':c8 R a w' hs'):w=w'/\hs=hs':=by
 obtain⟨x,c,rows,e,hr,hA⟩:=h.facts;obtain⟨x',c',f,b,d,g⟩:=h'.facts;rw[e]at b;simp only[aaF,Obj.cells.injEq,aaP]at b;have b:=aa1 Array.toList b;have h0:some (Value.int .i64 w)=some (.int .i64 w'):=aa1 (fun l=>l[0]?) b;have h1:some (Value.slice (az x 0) hs.length c)=some (.slice (az x' 0) hs'.length c'):=aa1 (fun l=>l[1]?) b;rw[<-abp h1]at d;obtain rfl:=hr.uniq d;simp only[aaF,Value.int.injEq,abk]at h0;exact⟨h0,hA.uniq g⟩
def Xx (q:Env) (n:Nat) (f:Nat->Int):iM q n=(List.range 32).map f↔(q.i (n+0)=f 0/\q.i (n+1)=f 1/\q.i (n+2)=f 2/\q.i (n+3)=f 3/\q.i (n+4)=f 4/\q.i (n+5)=f 5/\q.i (n+6)=f 6/\q.i (n+7)=f 7/\q.i (n+8)=f 8/\q.i (n+9)=f 9/\q.i (n+10)=f 10/\q.i (n+11)=f 11/\q.i (n+12)=f 12/\q.i (n+13)=f 13/\q.i (n+14)=f 14/\q.i (n+15)=f 15/\q.i (n+16)=f 16/\q.i (n+17)=f 17/\q.i (n+18)=f 18/\q.i (n+19)=f 19/\q.i (n+20)=f 20/\q.i (n+21)=f 21/\q.i (n+22)=f 22/\q.i (n+23)=f 23/\q.i (n+24)=f 24/\q.i (n+25)=f 25/\q.i (n+26)=f 26/\q.i (n+27)=f 27/\q.i (n+28)=f 28/\q.i (n+29)=f 29/\q.i (n+30)=f 30/\q.i (n+31)=f 31):=by
 have e:List.range 32=[0,1,2,3,4,5,6,7,8,9,10,11,12,13,14,15,16,17,18,19,20,21,22,23,24,25,26,27,28,29,30,31]:=rfl;unfold iM;rw[e];simp only[aaY,abN,aaC,aaP]
def c8.mH (h:c8 R a w hs):R.cell a 0=some (.int .i64 w)/\bM R a 2 32=true/\(List.range 32).map (fun j=>cf (R.cell a (2+j)))=jM hs:=by
 obtain⟨x,c,rows,e,_,_⟩:=h.facts;have hc:∀ j z,(jM hs)[j]?=some z->R.cell a (2+j)=some (.int .u8 z):=fun j z b=>by
  unfold Hl.cell;rw[e];simp only[abI];rw[aaQ aF];simp only[abc,abt];rw[show 2+j-(0+1+1)=j by omega,fT,b];rfl
 refine⟨by unfold Hl.cell;rw[e];rfl,df hc (by rw[qS];decide),?_⟩;have:=oQ (y:=2) hc;rw[qS]at this;exact this
noncomputable def yI:Sx.Spec where
 fn:=144
 own:=[]
 rd:=[0,10153]
 res:=[.one (.int .i64)]
 pre:=fun xs Hs Rs=>∃ a R w hs row T h,xs=[.pointer (some ⟨a,0,none⟩),.agg row.toArray]/\Rs=[R,T]/\c8 R a w hs/\hs.length<1000000/\bU T row h
 post:=fun xs Hs Rs v Hs' F=>∃ a R w hs row T h,xs=[.pointer (some ⟨a,0,none⟩),.agg row.toArray]/\Rs=[R,T]/\c8 R a w hs/\bU T row h/\v=.int .i64 (gQ w hs h)
noncomputable def XY:List Sx.Spec:=[ie 117,wJ,Lj,Gu]
def TW:∀ t∈XY,t.OK Tryz.prog:=av nU <| av zw <| av Jx <| av PZ <| bW
def TU (f:FuncId):(ie f).res=[.one .bool]:=rfl
def Wk:Lj.res=[.agg cy,.one .bool]:=rfl
def YX:Gu.res=[.one .bool]:=rfl
set_option maxRecDepth 20000 in
def Wj:(aK 0 [Cp.agg cy,Cp.one .bool]≠[])=True:=eq_true aA
noncomputable def SH:aG Tryz.prog XY yI.fn where
 Λ:=aC
 args:=TP (.var 0) (.lit 0)::(cA 1 [.agg cy]).map .sv
 mem:=[.ro 129 [.var 0] false,.ro 130 [.var 54] true]
 nv:=131
open Classical in
set_option maxRecDepth 20000 in
def EJ:yI.OK Tryz.prog:=by
 refine Spec.aV (Γ:=XY) TW ?_;rintro xs Hs Rs G ab ⟨a,R,w,hs,row,T,h,rfl,rfl,hc,hlen,hx⟩;have e0:Hs=[]:=aaz.1 G;subst e0;obtain⟨J,va,rfl,w1,w2,ad⟩:=Oh (A:=R) (B:=T) (a:=(a:Int)) hx.ok;refine⟨SH,J,fun _ _=>True,fun _ _=>0,?_,dw (by intro r hr;simp [SH]at hr;rcases hr with rfl | rfl<;>exact⟨_,_,_,rfl⟩) (by show [J.h 129,J.h 130]=_;rw[w1,w2]),(fun _ h=>nomatch h),?_⟩
 .show [Value.pointer (az (J.i 0) 0),.agg (oa J 1).toArray]=_;rw[va,au ah];rfl
 .refine aG.read [cy] [] [] ?_;simp only[go_sem,Nat.reduceAdd,XY,TU,TL,Wk,YX,Wj];have V:∀ q:Env,ai 131 J q->q.i 0=a/\q.h 129=R/\q.h 130=T/\oa q 1=oa J 1:=fun q g=>by
   refine⟨by rw[g.i 0,va],by rw[g.h 129,w1],by rw[g.h 130,w2],?_⟩;have:=gn (ks:=cy) (n:=1) g aA;exact aa1 Array.toList (Value.agg.inj this)
  have ep:Value.pointer (az (a:Int) 0)=.pointer (some ⟨a,0,none⟩):=by rw[au ah];rfl
  have out:∀ {q:Env} {mem:Mem} {e:E},aB q e=gQ w hs h->postOf yI [.pointer (some ⟨a,0,none⟩),.agg (oa J 1).toArray] [] [R,T] q mem (.sv (.one (.int .i64 e))):=fun {q mem e} he =>
   oi rfl he fun F=>⟨a,R,w,hs,oa J 1,T,h,rfl,rfl,hc,hx,rfl⟩
  obtain⟨t0,t1,t2⟩:=hc.mH;have hI:∀ {k:Nat},k≠53->cI h.c k=cI (oa J 1) k:=fun hk=>hx.I hk;have h0:cI h.c 0=J.i 1:=hI aA;have h1:cI h.c 1=J.i 2:=hI aA;have h2:aW h.c 2 32=iM J 3:=by
   have:aW h.c 2 32=aW (oa J 1) 2 32:=by
    unfold aW;refine abr fun j hj=>hI ?_;have:=abd.1 hj;omega
   rw[this];rfl
  have hu:0<=J.i 2/\J.i 2<18446744073709551616:=by
   have:=hx.rng _ (aaA (uM hx.ok (k:=1) rfl));exact this
  have H:∀ (k:Nat) (q:Env),ai k J q->131<=k->q.i 1=J.i 1/\q.i 2=J.i 2/\iM q 3=iM J 3:=fun k q g hk=>⟨g.i 1,g.i 2,DZ g ah⟩;have K:R.cell ((a:Int)).toNat (Int.toNat 0)=some (.int .i64 w):=by rw[aar];exact t0
  intro q1 g1 p1;obtain⟨v0,x1,x2,x3⟩:=V q1 g1;have L:(ar 1 cy).map (CV.ev q1)=oa J 1:=x3;rw[L,x2];refine⟨⟨_,T,h,rfl,rfl,hx⟩,fun q2 g2 ⟨F2,M,_⟩=>?_⟩;have N:ai 131 J q2:=g1.tr g2;have v:q2.b 132=decide h.Form:=Value.bool.inj (mg hx M);obtain⟨y0,y1,y2,y3⟩:=V q2 N;obtain⟨r1,r2,r3⟩:=H _ q2 N ah;refine⟨fun hb=>out ?_,fun hb=>?_⟩
  .have C:¬h.Form:=by rw[v]at hb;simpa using hb
   unfold gQ;rw[aaR (Or.inl C)];rfl
  have C:h.Form:=by rw[v]at hb;simpa using hb
  have x:1<=cI h.c 1:=C.1.2.1.1;rw[y0,y1,K,r1,r2,ep];refine⟨ah,rfl,fun d=>out ?_,fun heq=>?_⟩
  .have d:¬J.i 1=w:=d;unfold gQ;rw[aaR (Or.inr (by rw[h0];exact d))];rfl
  have heq:J.i 1=w:=heq;have f:¬(¬h.Form\/cI h.c 0≠w):=by rw[h0];exact fun hh=>hh.elim (fun g=>g C) (fun g=>g heq)
  refine⟨⟨a,R,w,hs,_,rfl,rfl,hc,hu,hlen⟩,fun O g3 ⟨F3,⟨a',R',w',hs',n',e1,e2,P,l⟩,Q,ae⟩ t D p4=>?_⟩;simp only[aaC,aaP,Value.pointer.injEq,aaF,Addr.mk.injEq,Value.int.injEq,abk]at e1 e2;obtain⟨rfl,rfl⟩:=e1;subst e2;obtain⟨rfl,rfl⟩:=hc.uniq P;have G3:ai 132 q1 O:=g2.tr g3;have S:ai 131 J t:=N.trans (g3.mono.tr D);obtain⟨z0,z1,z2,z3⟩:=V t S;obtain⟨s1,s2,s3⟩:=H _ t S ah;have U:t.b 261=O.b 261:=D.b 261;have Gq:(ar 133 cy).map (CV.ev t)=(ar 133 cy).map (CV.ev O):=aa1 Array.toList (Value.agg.inj (gn (ks:=cy) (n:=133) D aA));have W:(ar 1 cy).map (CV.ev t)=oa J 1:=z3;rw[Gq,W,z0,z1,z2,U,D.h 133,ep];refine⟨fun hb=>?_,fun hb=>?_⟩
  .rcases l with ⟨n1,n2,row',h',y,ev,m⟩ | ⟨_,u,ev⟩
   rotate_left
   .simp only[Value.tuple.injEq,abh,aaC,Value.bool.injEq,aaP]at ev;exact absurd (ev.2.symm.trans hb) aA
   simp only[Value.tuple.injEq,abh,aaC,Value.bool.injEq,aaP,Value.agg.injEq]at ev;have er:=ev.1;rw[er];rw[<-Q zzT]at m;have af:¬¬cI h.c 1<=hs.length:=by rw[h1];omega
   refine⟨⟨_,_,_,_,_,_,rfl,rfl,m,hx⟩,fun p g5 ⟨F5,⟨ag,aj,ak,al,an,ao,f1,f2,i1,i2,hv⟩,_⟩=>?_⟩;simp only[aaC,aaP,Value.agg.injEq]at f1 f2;obtain⟨rfl,rfl⟩:=f2;have X:=aa5 f1.1;have Y:=aa5 f1.2;subst X Y;obtain rfl:=m.uniq i1;obtain rfl:=hx.uniq i2;have z:p.b 263=decide (h'=h):=Value.bool.inj hv;have key:(hs[(cI h.c 1-1).toNat]?=some h)↔h'=h:=by rw[h1,y,aaF]
   refine⟨fun hb=>out ?_,fun hb=>out ?_⟩
   .unfold gQ;rw[aaG f,aaR (by rw[h1];omega),aaR (key.2 (by rw[z]at hb;simpa using hb))];rfl
   .unfold gQ;rw[aaG f,aaR (by rw[h1];omega),aaG (fun g=>hb (by rw[z];simpa using key.1 g))];rfl
  .rcases l with ⟨n1,n2,row',h',y,ev,m⟩ | ⟨aq,u,ev⟩
   .simp only[Value.tuple.injEq,abh,aaC,Value.bool.injEq,aaP]at ev;exact absurd ev.2 hb
   have s:¬cI h.c 1<=hs.length:=by rw[h1]at x ⊢;omega
   refine⟨⟨a,R,w,hs,rfl,rfl,hc⟩,fun p g5 ⟨F5,Z,_⟩=>?_⟩;have e5:=kq hc hlen Z;have G5:ai 131 J p:=S.tr g5;obtain⟨u0,u1,u2,u3⟩:=V p G5;obtain⟨k1,k2,k3⟩:=H _ p G5 ah;have e5:p.i 263=hs.length:=e5;have hw:IntKind.u64.wrap ((hs.length:Int)+1)=(hs.length:Int)+1:=by rw[IntKind.wrap_u64];omega
   rw[e5,k2,hw,u0,u1];have aa:bM R ((a:Int)).toNat (Int.toNat 2) (Int.toNat 32)=true:=by rw[aar];exact t1
   refine⟨fun av=>out ?_,fun aw=>⟨aa,?_⟩⟩
   .unfold gQ;rw[aaG f,aaG s,aaR (by rw[h1];omega)];rfl
   have o:¬((hs.length:Int)+1<cI h.c 1):=by rw[h1];omega
   have key:=Xx p 3 (fun j=>cf (R.cell ((a:Int)).toNat (Int.toNat 2+j)));have et:(List.range 32).map (fun j=>cf (R.cell ((a:Int)).toNat (Int.toNat 2+j)))=jM hs:=by rw[aar];exact t2
   rw[et,k3,<-h2]at key;refine⟨fun d=>out ?_,fun heq=>out ?_⟩
   .have d:¬aW h.c 2 32=jM hs:=fun g=>d (key.1 g);unfold gQ;rw[aaG f,aaG s,aaG o,aaR d];rfl
   .have heq:aW h.c 2 32=jM hs:=key.2 heq;unfold gQ;rw[aaG f,aaG s,aaG o,aaG (fun g=>g heq)];rfl
end Go.Proofs.YtomdimlnggpgbaaGreatDoor
namespace Go.Sx
open Go
variable {us vs:List Value}{b k n x y:Nat}{T e:TypeId}{v:Value}
def Hl.mem_of {H:Hl} {o:Obj} (h:H b=some o):H.mem b:=by unfold Hl.mem;rw[h];rfl
variable {A F G H:Hl}
def Hl.pj (h:b≠x):H.put x y vs b=H b:=by
 unfold Hl.put;rw[aaG h]
def Hl.qE {c:Array Value} {fr:Nat×Nat} (h:H x=some (.cells c T fr)):H.put x y vs x=some (.cells (br c.toList y vs).toArray T fr):=by
 unfold Hl.put;rw[aaR rfl,h]
def Hl.zH (h:A.le H) (hx:¬A.mem x):A.le (H.put x y vs):=fun b o hb=>by
 rw[Hl.pj fun e=>hx (by rw[<-e];exact Hl.mem_of hb)];exact h b o hb
def aP.at (h:aP F e k v n us) (hk:∀ b,v.ownBlock=some b->G b=F b):aP G e k v n us:=by
 refine⟨h.1,h.2.imp id fun⟨g,cap,cur,hv,a,r⟩=>⟨g,cap,cur,hv,?_,r⟩⟩;rw[hk g (by rw[hv];rfl)];exact a
def aP.type (h:aP F e k v n us) (hb:v.ownBlock=some b):∃ c,F b=some (.cells c e (0,0)):=by
 rcases h.2 with ⟨h,_⟩ | ⟨g,cap,cur,h,a,_⟩
 .rw[h]at hb;cases hb
 .rw[h]at hb;have:g=b:=by simpa [Value.ownBlock] using hb
  subst this;exact⟨_,a⟩
def Dn (A B:Hl):di [A,B]=A.un B:=by
 show A.un (B.un Hl.none)=_;rw[Hl.ng]
def DG {x:Int} {c:Nat} (h:(Value.slice (az x 0) n c).ownBlock=some b) (hx:-1<=x):x=b:=by
 rcases abQ x 0 with a | h0
 .rw[show x= -1 by omega,fx]at h;cases h
 .rw[au h0]at h;have:x.toNat=b:=by simpa [Value.ownBlock] using h
  omega
end Go.Sx
namespace Go.Proofs.YtomdimlnggpgbaaGreatDoor
open Go Go.Sx Go.Pk
variable {h h':Hd}{A B C G H K KT R R':Hl}{w x z:Int}{rows:List (List Value)}{hs:List Hd}{mH s t:List Int}{b l row row':List Value}{a c c1 i j n n1 y:Nat}
def Ll (w:Int) (v:Value) (mH:List Int):List Value:=[.int .i64 w,v]++aM mH
def QS (w:Int) (v u:Value) (mH t:List Int) (h1:mH.length=32) (h2:t.length=32):br (br (Ll w v mH) 1 [u]) 2 (aM t)=Ll w u t:=by
 have e:br (Ll w v mH) 1 [u]=.int .i64 w::u::aM mH:=by simp [br,Ll]
 rw[e];unfold br Ll;rw[cw,h2];simp [adE,cw,h1]
def yJ 
 (hK:K a=some (.cells (Ll w (.slice (az x 0) hs.length c) mH).toArray 237 (0,0))) (d:tD K 65 fu (.slice (az x 0) hs.length c) rows)
 (hk:∀ b,K.mem b->some b≠(Value.slice (az x 0) hs.length c).ownBlock->G b=K b):G a=some (.cells (Ll w (.slice (az x 0) hs.length c) mH).toArray 237 (0,0)):=by
 have f:some a≠(Value.slice (az x 0) hs.length c).ownBlock:=fun e=>by
  obtain⟨g,hc⟩:=d.2.type e.symm;rw[hK]at hc;simp at hc
 rw[hk a (Hl.mem_of hK) f,hK]
def jI {T:TypeId} (h:H a=some (.cells l.toArray T (0,0))) (hl:y+n<=l.length):H.wr a y n=true:=by
 unfold Hl.wr;rw[h];simp [hl]
def Lm {x1:Int} 
 (hK:K a=some (.cells (Ll w (.slice (az x 0) hs.length c) mH).toArray 237 (0,0))) (n:tD K 65 fu (.slice (az x 0) hs.length c) rows)
 (hT:KT.le K) (hA:gV KT rows hs) (f:¬KT.mem a) (i:∀ b:Nat,x=b->¬KT.mem b) (hx:-1<=x) (j:mH.length=32) (hI:bU B row h) (p:-1<=x1)
 (happ:∀ xs,aP K 65 fu.length (.slice (az x 0) hs.length c) hs.length xs->aP G 65 fu.length (.slice (az x1 0) n1 c1) (hs.length+1) (xs++row)) (q:n1=hs.length+1)
 (hk:∀ b,K.mem b->some b≠(Value.slice (az x 0) hs.length c).ownBlock->G b=K b)
 (hnew:some x1.toNat=(Value.slice (az x 0) hs.length c).ownBlock\/¬K.mem x1.toNat\/x1= -1)
 (hGB:(((G.put a 1 [.slice (az x1 0) n1 c1]).put a 2 (aM (nZ h)))).bV B) :
 iR (((G.put a 1 [.slice (az x1 0) n1 c1]).put a 2 (aM (nZ h))).un B) a w (hs++[h]):=by
 subst q;have v:=yJ hK n hk;have hl:rows.length=hs.length:=hA.1;have k:=happ rows.flatten (by have:=n.2;rw[hl]at this;exact this);have l:∀ b,(Value.slice (az x1 0) (hs.length+1) c1).ownBlock=some b->b≠a:=fun b hb e=>by
  subst e;obtain⟨C,hc⟩:=k.type hb;rw[v]at hc;simp at hc
 have g:tD ((G.put a 1 [.slice (az x1 0) (hs.length+1) c1]).put a 2 (aM (nZ h))) 65 fu (.slice (az x1 0) (hs.length+1) c1) (rows++[row]):=by
  have:=tD.snoc (rows:=rows) n.1 hI.ok k (by rw[hl]) rfl;refine⟨this.1,this.2.at fun b hb=>?_⟩;rw[Hl.pj (l b hb),Hl.pj (l b hb)]
 have m:KT.le ((G.put a 1 [.slice (az x1 0) (hs.length+1) c1]).put a 2 (aM (nZ h))):=by
  refine Hl.zH (Hl.zH (fun b o hb=>?_) f) f;rw[hk b (Hl.fv hT (Hl.mem_of hb)) fun e=>i b (DG e.symm hx) (Hl.mem_of hb)];exact hT b o hb
 have A:((G.put a 1 [.slice (az x1 0) (hs.length+1) c1]).put a 2 (aM (nZ h))) a=some (.cells (Ll w (.slice (az x1 0) (hs.length+1) c1) (nZ h)).toArray 237 (0,0)):=by
  rw[Hl.qE (Hl.qE v)];simp only[acW];rw[QS _ _ _ _ _ j (show(nZ h).length=32 from gE _)]
 generalize (G.put a 1 [.slice (az x1 0) (hs.length+1) c1]).put a 2 (aM (nZ h))=r at *;have d:gV (KT.un B) (rows++[row]) (hs++[h]):=(hA.mono (Hl.bm _ _)).snoc (hI.mono (Hl.bK fun b ⟨y,z⟩=>hGB b ⟨Hl.fv m y,z⟩));have hle:(KT.un B).le (r.un B):=fun b o hb=>by
  unfold Hl.un at hb ⊢;cases s:KT b with
  | some o'=>rw[s]at hb;cases hb;rw[m _ _ s];rfl
  | none =>
   rw[s]at hb;have hb:B b=some o:=hb;cases D:r b with
   | none=>exact hb
   | some E=>exact absurd ⟨Hl.mem_of D,Hl.mem_of hb⟩ (hGB b)
 refine⟨x1,c1,rows++[row],?_,?_,d.mono hle,p,KT.un B,hle,d,fun hm=>?_,fun b hb hm=>?_⟩
 .rw[Hl.bm r B _ _ A,aay];have:jM (hs++[h])=nZ h:=by unfold jM;rw[List.getLast?_append];rfl
  rw[this];rfl
 .rw[aay];exact⟨g.1,aP.mono (Hl.bm _ _) g.2⟩
 .rcases Hl.fm.1 hm with h1 | h1
  .exact f h1
  .exact hGB a ⟨Hl.mem_of A,h1⟩
 .have t:(Value.slice (az x1 0) (hs.length+1) c1).ownBlock=some b:=by
   rw[au ah];show some x1.toNat=_;rw[hb,aar]
  rcases Hl.fm.1 hm with h1 | h1
  .have u:=Hl.fv hT h1;rcases hnew with h2 | h2 | h2
   .rw[hb,aar]at h2;exact i b (DG h2.symm hx) h1
   .rw[hb,aar]at h2;exact h2 u
   .omega
  .obtain⟨C,hc⟩:=g.2.type t;exact hGB b ⟨Hl.mem_of hc,h1⟩
noncomputable def EG:Sx.Spec where
 fn:=137
 own:=[.arg 0]
 rd:=[10153,2000005]
 res:=[.one (.int .i64)]
 pre:=fun xs Hs Rs=>∃ a K w hs row T RG h,xs=[.pointer (some ⟨a,0,none⟩),.agg row.toArray]/\Hs=[K]/\Rs=[T,RG]/\iR K a w hs/\hs.length<1000000/\bU T row h/\ve RG 5
 post:=fun xs Hs Rs v Hs' F=>∃ a K w hs row T RG h K',xs=[.pointer (some ⟨a,0,none⟩),.agg row.toArray]/\Hs=[K]/\Rs=[T,RG]/\iR K a w hs/\bU T row h/\Hs'=[K']/\v=.int .i64 (gQ w hs h)/\(gQ w hs h=0->iR K' a w (hs++[h]))/\(gQ w hs h≠0->iR K' a w hs)
noncomputable def XX:List Sx.Spec:=[yI,Lp,X0]
def TO:∀ t∈XX,t.OK Tryz.prog:=av EJ <| av JE <| av T6 <| bW
def YV:yI.res=[.one (.int .i64)]:=rfl
def YW:X0.res=[.agg (List.replicate 32 (Ck.int .u8))]:=rfl
noncomputable def EH:aG Tryz.prog XX EG.fn where
 Λ:=aC
 args:=TP (.var 0) (.lit 0)::(cA 1 [.agg cy]).map .sv
 mem:=[.hp 129 [] [.var 0] [],.ro 130 [.var 54] true,.ro 131 [.lit 5] false]
 nv:=132
def Og {a:Int} (h:bo row fu):∃ q:Env,q.i 0=a/\row=oa q 1/\q.h 129=A/\q.h 130=B/\q.h 131=C:=by
 obtain⟨q,g,hn,e⟩:=cY cy 1 row (bf fun _=>a) h;exact⟨⟨q.i,q.b,q.s,q.v,fun k=>if k=129 then A else if k=130 then B else if k=131 then C else Hl.none⟩,g.i 0,e.symm,rfl,rfl,rfl⟩
set_option maxRecDepth 20000 in
def ND:EG.OK Tryz.prog:=by
 refine Spec.aV (Γ:=XX) TO ?_;rintro xs Hs Rs aa ab ⟨a,K,w,hs,row,T,RG,h,rfl,rfl,rfl,hc,hlen,hx,j⟩;obtain⟨J,O,rfl,P,Q,R⟩:=Og (A:=K) (B:=T) (C:=RG) (a:=(a:Int)) hx.ok;refine⟨EH,J,fun _ _=>True,fun _ _=>0,?_,⟨?_,?_,?_,?_⟩,(fun _ h=>nomatch h),?_⟩
 .show [Value.pointer (az (J.i 0) 0),.agg (oa J 1).toArray]=_;rw[O,au ah];rfl
 .intro r hr ho;simp [EH]at hr;rcases hr with rfl | rfl | rfl
  .exact⟨K,aF,by show(J.h 129).le K;rw[P];exact Hl.le_refl _⟩
  .cases ho
  .cases ho
 .intro r hr ho;simp [EH]at hr;rcases hr with rfl | rfl | rfl
  .cases ho
  .exact⟨T,aF,by show(J.h 130).le T;rw[Q];exact Hl.le_refl _⟩
  .exact⟨RG,aF,by show(J.h 131).le RG;rw[R];exact Hl.le_refl _⟩
 .simp [EH,bL.own]
 .intro r hr;simp [EH]at hr;rcases hr with rfl | rfl | rfl<;>trivial
 .refine aG.read [cy] [] [] ?_;simp only[go_sem,Nat.reduceAdd,XX,YV,We,YW,Wc];obtain⟨x,c,rows,hK,t,hA,k,KT,hT,u,v,y⟩:=id hc;have hK:K a=some (.cells (Ll w (.slice (az x 0) hs.length c) (jM hs)).toArray 237 (0,0)):=hK;have z:rows.length=hs.length:=hA.1;have c1:K.cell ((a:Int)).toNat (Int.toNat 1)=some (.slice (az x 0) hs.length c):=by rw[aar];simp [Hl.cell,hK,Ll]
  have V:∀ q:Env,ai 132 J q->q.i 0=a/\q.h 129=K/\q.h 130=T/\q.h 131=RG/\(ar 1 cy).map (CV.ev q)=oa J 1:=fun q g =>
   ⟨by rw[g.i 0,O],by rw[g.h 129,P],by rw[g.h 130,Q],by rw[g.h 131,R],aa1 Array.toList (Value.agg.inj (gn (ks:=cy) (n:=1) g aA))⟩
  have ep:Value.pointer (az (a:Int) 0)=.pointer (some ⟨a,0,none⟩):=by rw[au ah];rfl
  have D:Value.slice (az (bw (some (Value.slice (az x 0) hs.length c)) 0) (bw (some (Value.slice (az x 0) hs.length c)) 1)) (bw (some (Value.slice (az x 0) hs.length c)) 2).toNat (bw (some (Value.slice (az x 0) hs.length c)) 3).toNat=.slice (az x 0) hs.length c:=iN ⟨_,_,_,rfl⟩;have S:bw (some (Value.slice (az x 0) hs.length c)) 2=hs.length:=Ss k _ _;intro q1 U p1;obtain⟨v0,x1,x2,x3,xr⟩:=V q1 U;rw[v0,x1,x2,xr,ep];refine⟨⟨a,K,w,hs,_,T,h,rfl,rfl,⟨K,Hl.le_refl _,hc⟩,hlen,hx⟩,fun q2 g2 ⟨F2,⟨a',R',w',hs',row',T',h',f1,f2,c2,i2,hv⟩,_⟩=>?_⟩;simp only[aaC,aaP,Value.pointer.injEq,aaF,Addr.mk.injEq,Value.agg.injEq]at f1 f2;obtain⟨rfl,f1⟩:=f1;obtain⟨rfl,rfl⟩:=f2;have f1:=aa5 f1;subst f1;obtain⟨rfl,rfl⟩:=c8.uniq ⟨K,Hl.le_refl _,hc⟩ c2;obtain rfl:=hx.uniq i2;have b:q2.i 133=gQ w hs h:=by simpa using hv
  have W:ai 132 J q2:=U.tr g2;obtain⟨y0,X,y2,y3,yr⟩:=V q2 W;refine⟨fun f _=>?_,fun heq=>?_⟩
  .refine⟨[[0]],[],rfl,rfl,⟨(bf fun _=>q2.i 133),rfl,zzT,zzT⟩,a,K,w,hs,_,T,RG,h,_,rfl,rfl,rfl,hc,hx,rfl,by rw[<-b];rfl,fun h0=>absurd (b.trans h0) f,fun _=>?_⟩;show iR (di [q2.h 129]) _ _ _;rw[aN,X];exact hc
  have h0:gQ w hs h=0:=b.symm.trans heq;rw[y0,X,y2,yr,c1];refine⟨ah,rfl,⟨_,T,h,rfl,rfl,hx⟩,fun q3 g3 ⟨F3,E,F,ad⟩ G H p4=>?_⟩;obtain⟨row',I,hI⟩:=E _ _ _ rfl rfl hx;have I:=aa5 (Value.agg.inj I);rw[<-F zzT]at hI;have Y:ai 132 J G:=W.trans (g3.mono.tr H);obtain⟨z0,z1,z2,z3,zr⟩:=V G Y;have l:(ar 134 cy).map (CV.ev G)=row':=(aa1 Array.toList (Value.agg.inj (gn (ks:=cy) (n:=134) H aA))).trans I;rw[z0,z1,c1,D,S,l,aar];refine⟨⟨⟨rows.flatten,by have:=t.2;rw[z]at this;exact this⟩,ah,by unfold maxLen;omega,ah⟩,fun Z g5 ⟨a1,a2,happ,m,_,L⟩=>?_⟩;have G5:ai 132 J Z:=Y.tr g5;obtain⟨u0,u1,u2,u3,ur⟩:=V Z G5;have o:=yJ hK t m;have M:((hs.length:Int)+1).toNat=hs.length+1:=ah;rw[u0,u1,c1,S,M,show((a:Int)).toNat=a from aar a];refine⟨⟨ah,ah,jI o (by simp [Ll])⟩,fun q6 g6 p6=>?_⟩;have G6:ai 132 J q6:=G5.tr g6;obtain⟨s0,s1,s2,s3,sr⟩:=V q6 G6;rw[s2,s3,sr];refine⟨⟨_,T,RG,h,rfl,rfl,hx,j⟩,fun q7 N ⟨F7,d,_⟩=>?_⟩;have d:=d _ _ _ _ rfl rfl hx;have d:=aa5 (Value.agg.inj d);have G7:ai 132 J q7:=G6.tr N;obtain⟨k0,_⟩:=V q7 G7;rw[k0,d,N.h 265,p6,show((a:Int)).toNat=a from aar a];refine⟨⟨ah,ah,jI (Hl.qE o) ?_⟩,fun p g8 p8=>?_⟩
  .show 2+32<=_;simp [Ll,br,cw,qS]
  intro s;have hGB:=s 0 4 _ _ aA rfl rfl rfl;have e:p.h 134=q3.h 134:=by rw[g8.h 134,N.h 134,g6.h 134,g5.h 134,H.h 134]
  have hGB:(p.h 298).bV (p.h 134):=hGB;rw[p8,e]at hGB;have key:=Lm hK t hT u v y k (qS hs) hI a1 happ rfl m L hGB;refine⟨[[0,4]],[],rfl,rfl,⟨(bf fun _=>0),rfl,zzT,zzT⟩,a,K,w,hs,_,T,RG,h,_,rfl,rfl,rfl,hc,hx,rfl,by rw[h0];rfl,fun _=>?_,fun f=>absurd h0 f⟩;show iR (di [p.h 298,p.h 134]) _ _ _;rw[Dn,p8,e];exact key
def FF {x:Nat} (hx:x<18446744073709551616) (a:y<18446744073709551616) (h:aj x++s=aj y++t):x=y/\s=t:=by
 have e1:=ru hx s;rw[h,ru a t]at e1;simp only[aaF,abl]at e1;obtain⟨e1,_⟩:=e1;subst e1;exact⟨rfl,List.append_cancel_left h⟩
def uN {a:List Value} (h:aW a i n=aW b i n) (c:j<n):cI a (i+j)=cI b (i+j):=by
 have:=aa1 (fun l=>l[j]?) h;unfold aW at this;simpa [aaL,aaZ c] using this
def H9:Option Kd->Bool
 | some (.int _)=>true
 | _=>false
def Rg:((List.range 125).all fun k=>k==53||k==35||H9 fu[k]?)=true:=by kernel_rfl
def Ou {v:Value} {kd:IntKind} (h:bz (some v) (.int kd)=true):∃ z,v=.int kd z:=by
 cases v<;>simp [bz]at h
 subst h;exact⟨_,rfl⟩
def rT (h0:0<=z) (h1:z<18446744073709551616):bJ z=z.toNat:=by unfold bJ;rw[IntKind.wrap_u64];omega
def Wb (x:bU R row h) (y:bU R' row' h') (e:∀ k,k<125->k≠53->k≠35->cI h.c k=cI h'.c k) (a:cB h.c 35=cB h'.c 35):h.c=h'.c:=by
 have o:=gx x.ok;have p:=gx y.ok;have hl:fu.length=125:=rfl;rw[x.core,y.core];apply aa2;intro k;by_cases b:k=53
 .subst b;rw[abP ah,abP ah]
 rw[abF ah,abF ah];by_cases hk:k<125
 .by_cases g:k=35
  .subst g;obtain⟨v,hv,hi⟩:=jl x.ok (k:=35) (kd:=.bool) rfl;obtain⟨v',i,j⟩:=jl y.ok (k:=35) (kd:=.bool) rfl;rw[x.B aA,y.B aA]at a;unfold cB at a;rw[hv,i]at a ⊢;cases v<;>simp [bz]at hi
   cases v'<;>simp [bz]at j
   simp only[xI]at a;rw[a]
  .have:=aa3.1 Rg k (abd.2 hk);simp only[b,g,adx,ab1,false_or,decide_false]at this;have m:∃ kd,fu[k]?=some (.int kd):=by
    cases n:fu[k]? with
    | none=>rw[n]at this;simp [H9]at this
    | some d=>rw[n]at this;cases d<;>simp [H9]at this;exact⟨_,rfl⟩
   obtain⟨kd,f⟩:=m;obtain⟨v,hv,hi⟩:=jl x.ok f;obtain⟨v',i,j⟩:=jl y.ok f;obtain⟨z,rfl⟩:=Ou hi;obtain⟨q,rfl⟩:=Ou j;have l:=e k hk b g;rw[x.I b,y.I b]at l;unfold cI at l;rw[hv,i]at l ⊢;simp only[cf]at l;rw[l]
 .rw[aaK ah,aaK ah]
def JY (x:bU R row h) (y:bU R' row' h') (L:h.Form) (m:h'.Form) (e:tE h=tE h'):h=h':=by
 obtain⟨⟨hw,hs,he,d,hk,M,hp⟩,h8,O,o,P⟩:=id L;obtain⟨⟨Q,hs',U,V,W,D,X⟩,Y,E,i,F⟩:=id m;have u:∀ {R:Hl} {row:List Value} {h:Hd} (hx:bU R row h) {k:Nat},fu[k]?=some (.int .u64)->k≠53->0<=cI h.c k/\cI h.c k<18446744073709551616:=by
  intro R row h hx k hk l;rw[hx.I l];exact hx.rng _ (aaA (uM hx.ok hk))
 have Z:=uk o;have G:=uk i;unfold tE me pH bg at e;rw[rT (z:=cI h.c 0) ah ah,rT (z:=cI h.c 34) ah ah,rT (z:=cI h.c 92) ah ah,
  rT (z:=cI h'.c 0) ah ah,rT (z:=cI h'.c 34) ah ah,rT (z:=cI h'.c 92) ah ah]at e
 simp only[aaV]at e;have N:∀ {k:Nat},0<=cI h.c k/\cI h.c k<18446744073709551616->0<=cI h'.c k/\cI h'.c k<18446744073709551616->∀ {s t:List Int},aj (cI h.c k).toNat++s=aj (cI h'.c k).toNat++t->cI h.c k=cI h'.c k/\s=t:=by
  intro k a b s t e;obtain⟨e1,p⟩:=FF ah ah e;exact⟨ah,p⟩
 have S:∀ {a n:Nat} {s t:List Int},aW h.c a n++s=aW h'.c a n++t->aW h.c a n=aW h'.c a n/\s=t:=by
  intro a n s t e;exact acM e (by rw[aJ,aJ])
 obtain⟨e0,e⟩:=N (k:=0) ah ah e;obtain⟨e1,e⟩:=N (k:=1) ah ah e;obtain⟨p,e⟩:=S e;obtain⟨q,e⟩:=N (k:=34) ah ah e;obtain⟨g,e⟩:=acM e rfl;obtain⟨r,e⟩:=N (k:=36) (u x rfl aA) (u y rfl aA) e;obtain⟨v,e⟩:=S e;obtain⟨eT,e⟩:=FF ah ah e;have H:∀ {T:List (List Int)},(∀ t∈T,t.length=16)->T.flatten.length=16*T.length:=by
  intro T
  induction T with
  | nil=>intro _;rfl
  | cons t T ih =>
   intro h;rw[abR,aay,h t (aa8 ..),ih fun t d=>h t (aaO _ d),abc];omega
 have J:∀ t∈h.t,t.length=16:=fun t d=>(x.byte.2 t d).1;have K:∀ t∈h'.t,t.length=16:=fun t d=>(y.byte.2 t d).1;obtain⟨et,e⟩:=acM e (by rw[H J,H K,eT]);obtain⟨aa,e⟩:=N (k:=54) (u x rfl aA) (u y rfl aA) e;obtain⟨ab,e⟩:=N (k:=55) (u x rfl aA) (u y rfl aA) e;obtain⟨ad,e⟩:=N (k:=56) (u x rfl aA) (u y rfl aA) e;obtain⟨ae,e⟩:=N (k:=57) (u x rfl aA) (u y rfl aA) e;obtain⟨af,e⟩:=N (k:=58) (u x rfl aA) (u y rfl aA) e;obtain⟨ag,e⟩:=N (k:=59) (u x rfl aA) (u y rfl aA) e;obtain⟨w,e⟩:=S e;obtain⟨A,e⟩:=N (k:=92) ah ah e;have B:=e;have hT:∀ {T f:List (List Int)},(∀ t∈T,t.length=16)->(∀ t∈f,t.length=16)->T.flatten=f.flatten->T=f:=by
  intro T
  induction T with
  | nil =>
   intro f _ h2 e;cases f with
   | nil=>rfl
   | cons t f =>
    have:=aa1 List.length e;rw[ab9,abR,aay,h2 t (aa8 ..),abt]at this;omega
  | cons t T ih =>
   intro f h1 h2 e;cases f with
   | nil =>
    have:=aa1 List.length e;rw[ab9,abR,aay,h1 t (aa8 ..),abt]at this;omega
   | cons t' f =>
    rw[abR,abR]at e;obtain⟨a,b⟩:=acM e (by rw[h1 t (aa8 ..),h2 t' (aa8 ..)]);rw[a,ih (fun t d=>h1 t (aaO _ d)) (fun t d=>h2 t (aaO _ d)) b]
 have ec:=Wb x y (fun k hk l ai=>by
  by_cases k1:k<2
  .have:k=0\/k=1:=ah;rcases this with rfl | rfl
   .exact e0
   .exact e1
  by_cases k2:k<34
  .have:=uN p (j:=k-2) ah;rwa[show 2+(k-2)=k by omega]at this
  by_cases k3:k<37
  .have:k=34\/k=36:=ah;rcases this with rfl | rfl
   .exact q
   .exact r
  by_cases k4:k<53
  .have:=uN v (j:=k-37) ah;rwa[show 37+(k-37)=k by omega]at this
  by_cases k5:k<60
  .have:k=54\/k=55\/k=56\/k=57\/k=58\/k=59:=ah;rcases this with rfl | rfl | rfl | rfl | rfl | rfl<;>assumption
  by_cases k6:k<92
  .have:=uN w (j:=k-60) ah;rwa[show 60+(k-60)=k by omega]at this
  by_cases k7:k=92
  .subst k7;exact A
  .have:=uN B (j:=k-93) ah;rwa[show 93+(k-93)=k by omega]at this) (by
  unfold dq at g;simp only[aaC,aaP]at g;cases h1:cB h.c 35<;>cases h2:cB h'.c 35<;>simp [h1,h2]at g ⊢)
 have C:=hT J K et;cases h;cases h';exact congr (aa1 Hd.mk ec) C
def CZ (x:bU R row h) (y:bU R' row' h') (b:h.Form) (a:h'.Form):bE h=bE h'↔h=h':=by
 refine⟨fun e=>?_,fun e=>by rw[e]⟩;unfold bE at e;rw[aaR b,aaR a]at e;exact JY x y b a e
end Go.Proofs.YtomdimlnggpgbaaGreatDoor
namespace Go.Sx
open Go
end Go.Sx
namespace Go.Proofs.YtomdimlnggpgbaaGreatDoor
open Go Go.Sx Go.Pk
variable {R R1 R2:Hl}{row:List Value}
def jU:List Ck:=cy++[.sl]
def rE:List Kd:=jU.map kU
def DB:Value:=.bool false
structure Pc where
 h:Hd
 b:List Int
structure gY (R1 R2:Hl) (row:List Value) (p:Pc):Prop where
 ok:bo row rE
 hd:bU R1 (row.take 125) p.h
 body:fL R2 (row.getD 125 DB) p.b
 byte:aq p.b
 len:p.b.length<=1000000
def gY.mono {a b:Hl} {p:Pc} (x:gY R1 R2 row p) (h1:R1.le a) (h2:R2.le b):gY a b row p:=⟨x.ok,x.hd.mono h1,kE x.body h2,x.byte,x.len⟩
def gY.uniq {p a:Pc} (x:gY R1 R2 row p) (y:gY R1 R2 row a):p=a:=by
 obtain⟨h,b⟩:=p;obtain⟨h',b'⟩:=a;have e1:h=h':=x.hd.uniq y.hd;have c:b=b':=x.body.uniq y.body;rw[e1,c]
def QT {q:Env} (g:Nat->Hl):∀ (ks:List Ck) (n:Nat),(ar n ks).map (CV.ev q)=(ar n ks).map (CV.ev ⟨q.i,q.b,q.s,q.v,g⟩)
 | [],_=>rfl
 | k::ks,n=>by
  show(k.cv n).ev q::_=(k.cv n).ev _::_;rw[QT g ks]
  congr 1
  cases k<;>rfl
def Ru {q:Env} (g:Nat->Hl):∀ (ks:List Ck) (n:Nat),bR n ks q->bR n ks ⟨q.i,q.b,q.s,q.v,g⟩
 | [],_,_=>trivial
 | k::ks,n,h=>⟨(by have h1:=h.1;cases k<;>exact h1),Ru g ks _ h.2⟩
def Bk (hs:List (Nat×Hl)) (k:Nat):Hl:=match hs.find? (fun p=>p.1==k)with
 | some p=>p.2
 | none=>Hl.none
def DV {ks:List Ck} (hs:List (Nat×Hl)) (h:bo row (ks.map kU)):∃ q:Env,row=(ar 0 ks).map (CV.ev q)/\bR 0 ks q/\∀ k,q.h k=Bk hs k:=by
 obtain⟨q,_,hn,e⟩:=cY ks 0 row (bf fun _=>0) h;exact⟨⟨q.i,q.b,q.s,q.v,Bk hs⟩,by rw[<-QT (Bk hs)];exact e.symm,Ru _ _ _ hn,fun _=>rfl⟩
def jV:∀ {n:Nat} {l:List Value} {ks:List Kd},bo l ks->bo (l.take n) (ks.take n)
 | 0,_,_,_=>trivial
 | _+1,[],[],_=>trivial
 | n+1,_::_,_::_,h=>⟨h.1,jV (n:=n) h.2⟩
 | _+1,[],_::_,h=>False.elim h
 | _+1,_::_,[],h=>False.elim h
def m8:rE.length=126:=by kernel_rfl
def Aj:rE.take 125=fu:=by kernel_rfl
def Sc {u:Value} {b:List Int} (h:fL R u b):bw (some u) 2=b.length:=by
 obtain⟨x,y,c,rfl,_⟩:=h;simp [bw]
end Go.Proofs.YtomdimlnggpgbaaGreatDoor
namespace Go.Sx
open Go
section
variable {P:Program}
def Spec.Rz {s:Spec} (h:∀ xs Hs Rs,s.pre xs Hs Rs->({s with pre:=fun a b c=>a=xs/\b=Hs/\c=Rs} : Spec).OK P):s.OK P :=
 fun w xs Hs Rs d e s1 s2 d1 d2 hp=>h xs Hs Rs hp w xs Hs Rs d e s1 s2 d1 d2 ⟨rfl,rfl,rfl⟩
def Dh (s:Spec) (K R:Hl):Spec where
 fn:=s.fn
 own:=s.own
 rd:=s.rd
 res:=s.res
 pre:=fun xs Hs Rs=>Hs=[K.un R]/\K.bV R/\s.pre xs [K] Rs
 post:=fun xs Hs Rs v Hs' F=>∃ K',Hs'=[K'.un R]/\K'.bV R/\F.bV R/\s.post xs [K] Rs v [K'] F
def LC {s:Spec} (h1:s.own.length=1) (hs:s.OK P) (K R:Hl):(Dh s K R).OK P:=by
 intro w xs Hs Rs A t hsub k hd l ⟨e,f,hp⟩;subst e;have c:=hsub _ (aaJ.2 rfl);have kw:K.sub w:=fun b o hb=>c b o (Hl.bm K R b o hb);have i:R.sub w:=fun b o hb=>c b o (Hl.bK f b o hb);have hc:=hs w xs [K] Rs (by rw[h1];rfl) t (fun H c=>by rw[aaJ.1 c];exact kw) k
  (fun p q H u g a b=>by
   cases p with
   | zero=>cases q with
    | zero=>exact absurd rfl g
    | succ q=>simp at b
   | succ p=>simp at a)
  (fun H c R1 v=>by
   rw[aaJ.1 c];intro b ⟨x,y⟩;exact l _ (aaJ.2 rfl) R1 v b ⟨Hl.fm.2 (Or.inl x),y⟩) hp
 refine hc.mono fun e w' ⟨J,Hs',F,he,hn,d,hpost⟩=>?_;obtain⟨K',rfl⟩:∃ K',Hs'=[K']:=List.length_eq_one_iff.1 (by rw[d.len];rfl);have j:∀ b,R.mem b->b<w.heap.size:=fun b hb=>by
  obtain⟨o,ho⟩:=abw.1 hb;exact(abg.1 (i b o ho)).1
 have VK:∀ (X:Hl),(∀ b,X.mem b->(∃ H∈[K],H.mem b)\/w.heap.size<=b)->X.bV R:=fun X z b ⟨x,y⟩=>by
  rcases z b x with ⟨H,c,hb⟩ | hb
  .rw[aaJ.1 c]at hb;exact f b ⟨hb,y⟩
  .have:=j b y;omega
 have dK:K'.bV R:=VK K' (d.dom K' (aaJ.2 rfl));have r:F.bV R:=VK F d.fdom;have m:R.sub w':=fun b o hb=>by
  have hm:R.mem b:=by unfold Hl.mem;rw[hb];rfl
  rw[d.block b (j b hm) (fun H c=>by rw[aaJ.1 c];exact fun hk=>f b ⟨hk,hm⟩)];exact i b o hb
 have wide:∀ b,(∃ H∈[K],H.mem b)\/w.heap.size<=b->(∃ H∈[K.un R],H.mem b)\/w.heap.size<=b:=fun b h=>by
  rcases h with ⟨H,c,hb⟩ | hb
  .rw[aaJ.1 c]at hb;exact Or.inl ⟨_,aaJ.2 rfl,Hl.fm.2 (Or.inl hb)⟩
  .exact Or.inr hb
 refine⟨J,[K'.un R],F,he,hn,⟨d.os,d.tape,d.output,d.size,fun b hb n=>?_,rfl,fun H c=>?_,d.fsub,fun H c b hb=>?_,fun b hb=>wide b (d.fdom b hb),fun p q H u g a b=>?_,fun H c=>?_⟩,K',rfl,dK,r,hpost⟩
 .exact d.block b hb fun H c=>by rw[aaJ.1 c];exact fun hk=>n _ (aaJ.2 rfl) (Hl.fm.2 (Or.inl hk))
 .rw[aaJ.1 c];exact Hl.Jq (d.sub K' (aaJ.2 rfl)) m
 .rw[aaJ.1 c]at hb;rcases Hl.fm.1 hb with hb | hb
  .exact wide b (d.dom K' (aaJ.2 rfl) b hb)
  .exact Or.inl ⟨_,aaJ.2 rfl,Hl.fm.2 (Or.inr hb)⟩
 .cases p with
  | zero=>cases q with
   | zero=>exact absurd rfl g
   | succ q=>simp at b
  | succ p=>simp at a
 .rw[aaJ.1 c];intro b ⟨x,y⟩;rcases Hl.fm.1 x with x | x
  .exact d.fdis K' (aaJ.2 rfl) b ⟨x,y⟩
  .exact r b ⟨y,x⟩
end
def Hl.minus (H K:Hl):Hl:=fun b=>if(K b).isSome then Option.none else H b
variable {A H K a b:Hl}
def Hl.zU (H K:Hl):(H.minus K).le H:=fun b o h=>by
 unfold Hl.minus at h;split at h
 .cases h
 .exact h
def Hl.Ma (H K:Hl):K.bV (H.minus K):=fun b ⟨x,y⟩=>by
 unfold Hl.mem at x y;unfold Hl.minus at y;rw[aaR x]at y;cases y
def Hl.zG (h:A.le H) (d:A.bV K):A.le (H.minus K):=fun b o hb=>by
 unfold Hl.minus;have hm:A.mem b:=by unfold Hl.mem;rw[hb];rfl
 have hn:¬(K b).isSome=true:=fun hk=>d b ⟨hm,hk⟩;rw[aaG hn];exact h b o hb
def Hl.OQ (h:K.le H):K.un (H.minus K)=H:=by
 funext b
 unfold Hl.un Hl.minus;cases hb:K b with
 | none=>simp
 | some o=>simp;exact(h b o hb).symm
def Hl.tW (h:a.bV b):b.bV a:=fun k ⟨x,y⟩=>h k ⟨y,x⟩
end Go.Sx
namespace Go.Proofs.YtomdimlnggpgbaaGreatDoor
open Go Go.Sx Go.Pk
variable {B G H KB R R':Hl}{w x1:Int}{c1 i k n1 x:Nat}{st:Nat->List Pc}{a:Nat->Nat}{sv:Nat->Value}{α:Type}
def fq (st:Nat->List Pc):Int:=(((st 0).length+(st 1).length+(st 2).length+(st 3).length+(st 4).length+(st 5).length:Nat):Int)
def Ep (a:Nat->Nat) (sv:Nat->Value) (n:Int):List Value:=[.pointer (some ⟨a 0,0,none⟩),.pointer (some ⟨a 1,0,none⟩),.pointer (some ⟨a 2,0,none⟩),.pointer (some ⟨a 3,0,none⟩),.pointer (some ⟨a 4,0,none⟩),.pointer (some ⟨a 5,0,none⟩),sv 0,sv 1,sv 2,sv 3,sv 4,sv 5,.int .i64 n]
def J8 (a:Nat->Nat) (sv:Nat->Value) (n:Int) (h:i<6):(Ep a sv n)[i]?=some (.pointer (some ⟨a i,0,none⟩))/\(Ep a sv n)[6+i]?=some (sv i):=by
 have:i=0\/i=1\/i=2\/i=3\/i=4\/i=5:=ah;rcases this with rfl | rfl | rfl | rfl | rfl | rfl<;>exact⟨rfl,rfl⟩
def vf (f:Nat->α) (i:Nat) (x:α):Nat->α:=fun k=>if k=i then x else f k
def dd (f:Nat->α) (i:Nat) (x:α):vf f i x i=x:=by simp [vf]
def fR (f:Nat->α) (x:α) (h:k≠i):vf f i x k=f k:=by simp [vf,h]
def Oz (a:Nat->Nat) (sv:Nat->Value) (n:Int) (v:Value) (h:i<6):br (Ep a sv n) (6+i) [v]=Ep a (vf sv i v) n:=by
 have:i=0\/i=1\/i=2\/i=3\/i=4\/i=5:=ah;rcases this with rfl | rfl | rfl | rfl | rfl | rfl<;>rfl
def WR (a:Nat->Nat) (sv:Nat->Value) (n m:Int):br (Ep a sv n) 12 [.int .i64 m]=Ep a sv m:=rfl
def EL (st:Nat->List Pc) (p:Pc) (h:i<6):fq (vf st i (st i++[p]))=fq st+1:=by
 have:i=0\/i=1\/i=2\/i=3\/i=4\/i=5:=ah;rcases this with rfl | rfl | rfl | rfl | rfl | rfl<;>(unfold fq vf;simp;omega)
def mE (st:Nat->List Pc) (i:Nat):List Hd:=(st i).map Pc.h
structure XU (H:Hl) (x:Nat) (st:Nat->List Pc) (a:Nat->Nat) (sv:Nat->Value) (Kc:Nat->Hl) (KB:Hl):Prop where
 bj:H x=some (.cells (Ep a sv (fq st)).toArray 182 (0,0))
 ch:∀ i,i<6->iR (Kc i) (a i) (i+1:Nat) (mE st i)
 le:∀ i,i<6->(Kc i).le H
 bV:∀ i j,i<6->j<6->i≠j->(Kc i).bV (Kc j)
 nox:∀ i,i<6->¬(Kc i).mem x
 row:∀ i,i<6->∃ us,aP H 46 1 (sv i) (st i).length us/\∀ (j:Nat) u p,us[j]?=some u->(st i)[j]?=some p->fL KB u p.b
 kb:KB.le H
 kbx:¬KB.mem x
 kbc:∀ i,i<6->KB.bV (Kc i)
 own:∀ i b,i<6->(sv i).ownBlock=some b->¬KB.mem b/\∀ j,j<6->¬(Kc j).mem b/\(j≠i->(sv j).ownBlock≠some b)
def pR (H:Hl) (x:Nat) (st:Nat->List Pc):Prop:=∃ a sv Kc KB,XU H x st a sv Kc KB
structure Tr (R:Hl) (x:Nat) (st:Nat->List Pc) (a:Nat->Nat) (sv:Nat->Value):Prop where
 bj:R x=some (.cells (Ep a sv (fq st)).toArray 182 (0,0))
 ch:∀ i,i<6->c8 R (a i) (i+1:Nat) (mE st i)
 row:∀ i,i<6->∃ us,aP R 46 1 (sv i) (st i).length us/\∀ (j:Nat) u p,us[j]?=some u->(st i)[j]?=some p->fL R u p.b
def pS (R:Hl) (x:Nat) (st:Nat->List Pc):Prop:=∃ a sv,Tr R x st a sv
def pR.rd (h:pR H x st):pS H x st:=by
 obtain⟨a,sv,Kc,KB,h⟩:=h;refine⟨a,sv,h.bj,fun i hi=>⟨Kc i,h.le i hi,h.ch i hi⟩,fun i hi=>?_⟩;obtain⟨us,h1,h2⟩:=h.row i hi;exact⟨us,h1,fun j u p hu hp=>kE (h2 j u p hu hp) h.kb⟩
def c8.mono (hl:R.le R') {a:Nat} {hs:List Hd} (h:c8 R a w hs):c8 R' a w hs:=by
 obtain⟨K,h1,h2⟩:=h;exact⟨K,fun b o hb=>hl b o (h1 b o hb),h2⟩
def pS.mono (hl:R.le R') (h:pS R x st):pS R' x st:=by
 obtain⟨a,sv,h⟩:=h;refine⟨a,sv,hl _ _ h.bj,fun i hi=>(h.ch i hi).mono hl,fun i hi=>?_⟩;obtain⟨us,h1,h2⟩:=h.row i hi;exact⟨us,h1.mono hl,fun j u p hu hp=>kE (h2 j u p hu hp) hl⟩
def Tr.cells (h:Tr R x st a sv) (hi:i<6):R.cell x i=some (.pointer (some ⟨a i,0,none⟩))/\R.cell x (6+i)=some (sv i)/\R.cell x 12=some (.int .i64 (fq st)):=by
 obtain⟨e1,b⟩:=J8 a sv (fq st) hi;refine⟨?_,?_,?_⟩
 .unfold Hl.cell;rw[h.bj];simpa using e1
 .unfold Hl.cell;rw[h.bj];simpa using b
 .unfold Hl.cell;rw[h.bj];rfl
def XU.put {Kc:Nat->Hl} (h:XU H x st a sv Kc KB) (hi:i<6) {K':Hl} {p:Pc} {u:Value} 
 (hd:K'.bV (H.minus (Kc i))) (hc:iR K' (a i) (i+1:Nat) (mE st i++[p.h])) (hb:fL B u p.b) (af:-1<=x1)
 (happ:∀ xs,aP (K'.un (H.minus (Kc i))) 46 1 (sv i) (st i).length xs->aP G 46 1 (.slice (az x1 0) n1 c1) ((st i).length+1) (xs++[u]))
 (hk:∀ b,(K'.un (H.minus (Kc i))).mem b->some b≠(sv i).ownBlock->G b=(K'.un (H.minus (Kc i))) b)
 (hnew:some x1.toNat=(sv i).ownBlock\/¬(K'.un (H.minus (Kc i))).mem x1.toNat\/x1= -1)
 (hB:((G.put x (6+i) [.slice (az x1 0) n1 c1]).put x 12 [.int .i64 (fq st+1)]).bV B) :
 XU (((G.put x (6+i) [.slice (az x1 0) n1 c1]).put x 12 [.int .i64 (fq st+1)]).un B) x (vf st i (st i++[p])) a (vf sv i (.slice (az x1 0) n1 c1)) (vf Kc i K') (KB.un B):=by
 generalize Q:K'.un (H.minus (Kc i))=R at *;have r:(H.minus (Kc i)).le R:=by
  rw[<-Q];exact Hl.bK hd
 have lK:K'.le R:=by
  rw[<-Q];exact Hl.bm _ _
 have Y:(H.minus (Kc i)).mem x:=Hl.fv (Hl.zG (A:=Hl.one x (.cells (Ep a sv (fq st)).toArray 182 (0,0))) (fun b o hb=>by
  unfold Hl.one at hb;split at hb
  .rename_i e;subst e;cases hb;exact h.bj
  .cases hb) (Hl.gJ.2 (h.nox i hi))) (Hl.mem_of (Hl.aU _ _))
 have S:(H.minus (Kc i)) x=some (.cells (Ep a sv (fq st)).toArray 182 (0,0)):=by
  obtain⟨o,ho⟩:=abw.1 Y;have:=Hl.zU H (Kc i) x o ho;rw[h.bj]at this;cases this;exact ho
 have C:∀ j,j<6->j≠i->(Kc j).le (H.minus (Kc i)):=fun j f t=>Hl.zG (h.le j f) (h.bV j i f hi t);have L:KB.le (H.minus (Kc i)):=Hl.zG h.kb (h.kbc i hi);have g:∀ j b,j<6->(sv j).ownBlock=some b->∃ c,(H.minus (Kc i)) b=some (.cells c 46 (0,0)):=fun j b f hb=>by
  obtain⟨us,h1,_⟩:=h.row j f;obtain⟨c,d⟩:=h1.type hb;refine⟨c,?_⟩;unfold Hl.minus;have:=((h.own j b f hb).2 i hi).1;unfold Hl.mem at this;rw[aaG this];exact d
 have F:∀ j b,j<6->(sv j).ownBlock=some b->b≠x:=fun j b f hb e=>by
  subst e;obtain⟨c,d⟩:=g j _ f hb;rw[S]at d;simp at d
 have Z:some x≠(sv i).ownBlock:=fun e=>F i x hi e.symm rfl;have m:G x=some (.cells (Ep a sv (fq st)).toArray 182 (0,0)):=by
  rw[hk x (Hl.fv r Y) Z];exact r _ _ S
 have lG:∀ {A:Hl},A.le R->(∀ b,(sv i).ownBlock=some b->¬A.mem b)->A.le G:=fun {A} hA hn b o hb=>by
  rw[hk b (Hl.fv hA (Hl.mem_of hb)) fun e=>hn b e.symm (Hl.mem_of hb)];exact hA b o hb
 have nK:∀ b,(sv i).ownBlock=some b->¬K'.mem b:=fun b hb hm=>by
  obtain⟨c,d⟩:=g i b hi hb;exact hd b ⟨hm,Hl.mem_of d⟩
 have xK:¬K'.mem x:=fun hm=>hd x ⟨hm,Y⟩;have aa:((G.put x (6+i) [.slice (az x1 0) n1 c1]).put x 12 [.int .i64 (fq st+1)]) x=some (.cells (Ep a (vf sv i (.slice (az x1 0) n1 c1)) (fq st+1)).toArray 182 (0,0)):=by
  rw[Hl.qE (Hl.qE m)];simp only[acW];rw[Oz _ _ _ _ hi,WR]
 have P:∀ b,G.mem b->¬B.mem b:=fun b h1 h2=>hB b ⟨Hl.iA.2 (Hl.iA.2 h1),h2⟩;have I:∀ b o,b≠x->G b=some o->(((G.put x (6+i) [.slice (az x1 0) n1 c1]).put x 12 [.int .i64 (fq st+1)]).un B) b=some o:=fun b o hb hg=>Hl.bm _ _ b o (by rw[Hl.pj hb,Hl.pj hb];exact hg);have M:∀ {A:Hl},A.le G->¬A.mem x->A.le (((G.put x (6+i) [.slice (az x1 0) n1 c1]).put x 12 [.int .i64 (fq st+1)]).un B):=fun hA hx b o hb=>Hl.bm _ _ b o (Hl.zH (Hl.zH hA hx) hx b o hb);have T:K'.le G:=lG lK nK;have U:KB.le G:=lG (fun b o hb=>r _ _ (L b o hb)) fun b hb=>(h.own i b hi hb).1;have V:∀ j,j<6->j≠i->(Kc j).le G:=fun j f e=>lG (fun b o hb=>r _ _ (C j f e b o hb)) fun b hb=>((h.own i b hi hb).2 j f).1;have xB:¬B.mem x:=P x (Hl.mem_of m);have W:¬(KB.un B).mem x:=fun hm=>(Hl.fm.1 hm).elim h.kbx xB;have X:(KB.un B).le (((G.put x (6+i) [.slice (az x1 0) n1 c1]).put x 12 [.int .i64 (fq st+1)]).un B):=fun b o hb=>by
  unfold Hl.un at hb;cases n:KB b with
  | some o'=>rw[n]at hb;cases hb;exact M U h.kbx _ _ n
  | none=>rw[n]at hb;exact Hl.bK hB b o hb
 obtain⟨us,ho,ab⟩:=h.row i hi;have ad:aP R 46 1 (sv i) (st i).length us:=ho.at fun b hb=>by
  obtain⟨c,d⟩:=g i b hi hb;rw[r _ _ d];exact(Hl.zU H (Kc i) _ _ d).symm
 have D:=happ us ad;have J:∀ b,(Value.slice (az x1 0) n1 c1).ownBlock=some b->b=x1.toNat/\x1≠ -1:=fun b hb=>by
  rcases abQ x1 0 with ag | h0
  .rw[show x1= -1 by omega,fx]at hb;cases hb
  .rw[au h0]at hb;have:x1.toNat=b:=by simpa [Value.ownBlock] using hb
   exact⟨this.symm,ah⟩
 have w:∀ {A:Hl},A.le R->(∀ b,(sv i).ownBlock=some b->¬A.mem b)->∀ b,(Value.slice (az x1 0) n1 c1).ownBlock=some b->¬A.mem b:=fun {A} hA hn b hb hm=>by
  obtain⟨rfl,t⟩:=J b hb;rcases hnew with h1 | h1 | h1
  .exact hn _ h1.symm hm
  .exact h1 (Hl.fv hA hm)
  .exact t h1
 have K:∀ j b,j<6->j≠i->(Value.slice (az x1 0) n1 c1).ownBlock=some b->(sv j).ownBlock≠some b:=fun j b f ae hb e=>by
  obtain⟨rfl,t⟩:=J b hb;rcases hnew with h1 | h1 | h1
  .exact((h.own i _ hi h1.symm).2 j f).2 ae e
  .obtain⟨c,d⟩:=g j _ f e;exact h1 (Hl.fv r (Hl.mem_of d))
  .exact t h1
 have N:∀ b,(Value.slice (az x1 0) n1 c1).ownBlock=some b->b≠x:=fun b hb e=>by
  subst e;obtain⟨c,d⟩:=D.type hb;rw[m]at d;simp at d
 refine⟨?_,fun j f=>?_,fun j f=>?_,fun j k f l O=>?_,fun j f=>?_,fun j f=>?_,X,W,fun j f=>?_,fun j b f hb=>?_⟩
 .rw[EL _ _ hi];exact Hl.bm _ _ _ _ aa
 .by_cases e:j=i
  .subst e;rw[dd];unfold mE;rw[dd,aba];exact hc
  .rw[fR _ _ e];unfold mE;rw[fR _ _ e];exact h.ch j f
 .by_cases e:j=i
  .subst e;rw[dd];exact M T xK
  .rw[fR _ _ e];exact M (V j f e) (h.nox j f)
 .by_cases e:j=i
  .subst e;rw[dd,fR _ _ (Ne.symm O)];exact Hl.yR hd (C k l (Ne.symm O))
  .by_cases s:k=i
   .subst s;rw[dd,fR _ _ e];exact Hl.tW (Hl.yR hd (C j f e))
   .rw[fR _ _ e,fR _ _ s];exact h.bV j k f l O
 .by_cases e:j=i
  .subst e;rw[dd];exact xK
  .rw[fR _ _ e];exact h.nox j f
 .by_cases e:j=i
  .subst e;rw[dd,dd,aay];refine⟨us++[u],D.at fun b hb=>(by obtain⟨cc,E⟩:=D.type hb;rw[E];exact I b _ (N b hb) E),fun k v q hv n=>?_⟩;have hl:us.length=(st j).length:=by have:=ho.1;omega
   rcases abn k us.length with sj | sj
   .rw[aa0 sj]at hv;rw[aa0 ah]at n;exact kE (ab k v q hv n) (Hl.bm _ _)
   .rw[aaQ sj]at hv;rw[aaQ ah]at n;have hv:=aaA hv;have n:=aaA n;rw[aaJ]at hv n;subst hv;subst n;exact kE hb (Hl.bK fun b ⟨y,z⟩=>P b (Hl.fv U y) z)
  .rw[fR _ _ e,fR _ _ e];obtain⟨vs,h1,h2⟩:=h.row j f;refine⟨vs,h1.at fun b hb=>?_,fun k v q hv n=>kE (h2 k v q hv n) (Hl.bm _ _)⟩;obtain⟨c,d⟩:=g j b f hb;rw[Hl.zU H (Kc i) _ _ d];refine I b _ (F j b f hb) ?_;rw[hk b (Hl.fv r (Hl.mem_of d)) fun e'=>((h.own i b hi e'.symm).2 j f).2 e hb,r _ _ d]
 .by_cases e:j=i
  .subst e;rw[dd];exact fun b ⟨y,z⟩=>(Hl.fm.1 y).elim (fun y=>hd b ⟨z,Hl.fv L y⟩) (fun y=>P b (Hl.fv T z) y)
  .rw[fR _ _ e];exact fun b ⟨y,z⟩=>(Hl.fm.1 y).elim (fun y=>h.kbc j f b ⟨y,z⟩) (fun y=>P b (Hl.fv (V j f e) z) y)
 .by_cases e:j=i
  .subst e;rw[dd]at hb;refine⟨fun hm=>(Hl.fm.1 hm).elim (w (fun b o hb=>r _ _ (L b o hb)) (fun b hb=>(h.own j b hi hb).1) b hb) (fun y=>by obtain⟨cc,E⟩:=D.type hb;exact P b (Hl.mem_of E) y),fun k l=>?_⟩;by_cases s:k=j
   .subst s;rw[dd];exact⟨w lK nK b hb,fun h=>absurd rfl h⟩
   .rw[fR _ _ s,fR _ _ s];exact⟨w (fun b o hb=>r _ _ (C k l s b o hb)) (fun b hb=>((h.own j b hi hb).2 k l).1) b hb,fun _=>K k b l s hb⟩
  .rw[fR _ _ e]at hb;obtain⟨c,d⟩:=g j b f hb;refine⟨fun hm=>(Hl.fm.1 hm).elim (h.own j b f hb).1 (fun y=>P b (by
    have e1:G b=some (.cells c 46 (0,0)):=by rw[hk b (Hl.fv r (Hl.mem_of d)) fun e'=>((h.own i b hi e'.symm).2 j f).2 e hb,r _ _ d]
    exact Hl.mem_of e1) y),fun k l=>?_⟩
   by_cases s:k=i
   .subst s;rw[dd,dd];exact⟨fun hm=>hd b ⟨hm,Hl.mem_of d⟩,fun _ e3=>K j b f e e3 hb⟩
   .rw[fR _ _ s,fR _ _ s];exact(h.own j b f hb).2 k l
end Go.Proofs.YtomdimlnggpgbaaGreatDoor
