/- RelayPlays. -/
import Derived.Test.YtomdimlnggpgbaaGreatDoorTI
set_option linter.all false
set_option maxHeartbeats 4000000
namespace Go.Proofs.YtomdimlnggpgbaaGreatDoor
open Go Go.Sx Go.Pk
variable {b lg:Bool}{e:E}{q q':Env}{A:Env->Hl->Prop}{D K:Env->Prop}{f:FuncId}{h h1 h2:Hd}{F G H R R' R1 R2 RA RG:Hl}{w w' x y z:Int}{S T:List (List Int)}{rows:List (List Value)}{hs hs':List Hd}{Hs Rs:List Hl}{B b2 bs bs2 t:List Int}{r1 r2 row vs xs:List Value}{mem:Mem}{a c i k m n o sc:Nat}{s:Sx.Spec}{p u v:Value}
def ba (l:List Value) (a n:Nat):List Int:=(List.range n).map fun j=>cI l (a+j)
def br (z:Int):Nat:=(IntKind.u64.wrap z).toNat
def fm (b:Bool):List Int:=[if b=true then 1 else 0]
def aZ (l:List Value) (n:Nat):List Int:=aj (br (cI l 0))++aj (cI l 1).toNat++ba l 2 32++aj (br (cI l 34))++fm (cB l 35)++aj (cI l 36).toNat++ba l 37 16++aj n
def ri (l:List Value) (bs:List Int):List Int:=bs++aj (cI l 54).toNat++aj (cI l 55).toNat++aj (cI l 56).toNat++aj (cI l 57).toNat++aj (cI l 58).toNat++aj (cI l 59).toNat++ba l 60 32++aj (br (cI l 92))
def m8 (h:Hd):List Int:=ri h.c (aZ h.c h.t.length++h.t.flatten)
def kG (z:Int):br z<18446744073709551616:=by
 unfold br;rw[IntKind.wrap_u64];omega
def u64_in (z:Int):0<=IntKind.u64.wrap z/\IntKind.u64.wrap z<18446744073709551616:=by
 rw[IntKind.wrap_u64];omega
def iN:∀ {row:List Value} {ks:List Kd} {k:Nat} {kd:Kd},bf row ks->ks[k]?=some kd->∃ v,row[k]?=some v/\bw (some v) kd=true
 | [],[],k,kd,_,h=>by simp at h
 | v::l,kd'::m,0,kd,h,e=>⟨v,rfl,by rw[aa7,aak]at e;subst e;exact h.1⟩
 | v::l,kd'::m,k+1,kd,h,e=>by
  rw[aa4]at e ⊢;exact iN h.2 e
def TZ (h:bf row de) (hk:de[k]?=some (.int .u8)):row[k]?=some (.int .u8 (cI row k)):=by
 obtain⟨v,hv,hi⟩:=iN h hk;unfold cI;rw[hv];cases v<;>simp [bw]at hi
 subst hi;rfl
def xu (h:bf row de) (hk:de[k]?=some (.int .u64)):row[k]?=some (.int .u64 (cI row k)):=by
 obtain⟨v,hv,hi⟩:=iN h hk;unfold cI;rw[hv];cases v<;>simp [bw]at hi
 subst hi;rfl
def S9:∀ j,j<32->de[2+j]?=some (.int .u8):=by decide
def S8:∀ j,j<16->de[37+j]?=some (.int .u8):=by decide
def Vt:∀ j,j<32->de[60+j]?=some (.int .u8):=by decide
def aR (l:List Value) (a n:Nat):(ba l a n).length=n:=by unfold ba;simp
def QU (h:bf row de) (hk:∀ j,j<n->de[a+j]?=some (.int .u8)):∀ j z,(ba row a n)[j]?=some z->row[a+j]?=some (.int .u8 z):=by
 intro j z hz;have hj:j<n:=by have:=(aah.1 hz).1;rwa[aR]at this
 unfold ba at hz;rw[aao,aaJ hj,aaT,aak]at hz;subst hz;exact TZ h (hk j hj)
def CE (h0:0<=q.i a) (hr:bf (aB q 0) de) (hk:∀ j,j<n->de[o+j]?=some (.int .u8)):nN ((bm.bd a (ak 0 bU) 65).hl q) (.slice (ar (q.i a) (o:Int)) ((n:Int)).toNat ((n:Int)).toNat) (ba (aB q 0) o n) :=
 xq h0 (QU hr hk) (aR _ _ _).symm
def iu (h:bn H p bs lg) (hz:0<=z/\z<18446744073709551616) (hl:bs.length<=900000) (k:∀ q',ai n q q'->bn (q'.h n) p (bs++aj z.toNat) lg->K q') :
 yZ.pre [p,.int .u64 z] [H] []/\∀ q',ai n q q'->(∃ F,yZ.post [p,.int .u64 z] [H] [] v [q'.h n] F/\A q' F)->K q':=by
 refine⟨⟨_,_,H,bs,lg,rfl,rfl,h,⟨z,rfl,hz⟩,hl⟩,fun q' g ⟨F,hp,_⟩=>k q' g ?_⟩;obtain⟨H',hK,hO⟩:=Cw h hp;have hK:q'.h n=H':=by simpa using hK
 rw[hK];exact hO
def ML (h:bn H p bs lg) (hl:bs.length<=900000) (k:∀ q',ai n q q'->bn (q'.h n) p (bs++fm b) lg->K q') :
 uN.pre [p,.bool b] [H] []/\∀ q',ai n q q'->(∃ F,uN.post [p,.bool b] [H] [] v [q'.h n] F/\A q' F)->K q':=by
 refine⟨⟨_,_,H,bs,lg,rfl,rfl,h,⟨b,rfl⟩,hl⟩,fun q' g ⟨F,hp,_⟩=>k q' g ?_⟩;obtain⟨H',hK,hO⟩:=Cw h hp;have hK:q'.h n=H':=by simpa using hK
 rw[hK];exact hO
def xo (h:bn H p bs lg) (h2:fC R u b2) (hl:bs.length<=900000) (hl2:b2.length<=90000) (k:∀ q',ai n q q'->bn (q'.h n) p (bs++b2) lg->K q') :
 tw.pre [p,u] [H] [R]/\∀ q',ai n q q'->(∃ F,tw.post [p,u] [H] [R] v [q'.h n] F/\A q' F)->K q':=by
 refine⟨⟨_,_,H,R,bs,lg,b2,rfl,rfl,rfl,h,h2,hl,hl2⟩,fun q' g ⟨F,hp,_⟩=>k q' g ?_⟩;obtain⟨H',hK,hO⟩:=EY h h2 hp;have hK:q'.h n=H':=by simpa using hK
 rw[hK];exact hO
def Cc:∀ {T:List (List Int)},(∀ t∈T,t.length=16)->T.flatten.length=T.length*16
 | [],_=>rfl
 | t::T,h=>by
  rw[aby,aac,h t (aaI ..),Cc (fun u hu=>h u (aaq _ hu)),aaL];omega
def km {a b:Int} (hx:0<=x) (hy:0<=y) (hb:0<=b) (h:ar a b=ar x y):a=x/\b=y:=by
 rcases abp a 0 with ha | ha
 .exfalso;rw[al hx]at h;unfold ar at h;rw[aal ah]at h;split at h
  .cases h
  .simp only[aak,Addr.mk.injEq]at h;obtain⟨_,_,h⟩:=h;cases h
 .rw[al ha,al hx]at h;simp only[aak,Addr.mk.injEq]at h;omega
def iW {z:Nat} (h:z<18446744073709551616):(aj z).length<=10:=nD h
noncomputable def coreS (f:FuncId):Sx.Spec where
 fn:=f
 own:=[]
 rd:=[10053]
 res:=[.one .sl]
 pre:=fun xs Hs Rs=>∃ row R h,xs=[.agg row.toArray]/\Rs=[R]/\bS R row h/\h.t.length<=8
 post:=fun xs Hs Rs v Hs' F=>∃ row R h,xs=[.agg row.toArray]/\Rs=[R]/\bS R row h/\bM F 5 v (m8 h)
def WQ:List Sx.Spec:=[yZ,tw,uN,rz]
def SG:∀ t∈WQ,t.OK Tryz.prog:=av ED <| av EE <| av KW <| av yY <| bN
def ZV:yZ.res=[]:=rfl
def XT:tw.res=[]:=rfl
def XU:uN.res=[]:=rfl
def U3:rz.res=[.one .sl,.one (.int .i64)]:=rfl
def x7:aF Tryz.prog WQ 177 where
 Λ:=fun p=>if decide (p.length=14)&&!(p.head?==some 99)then some ⟨0,[(41,TI .i64 (.var 201))],[(2,.hp 202 [] [.var 132] [])],210⟩else none
 args:=(bW 0 [.agg bU]).map .sv
 mem:=[.ro 130 [.var 53] false]
 nv:=131
def ME {n:Value} {K:List Hl} (h:bn R p bs lg) (hp:rz.post [p] [] [R] (.tuple #[v,n]) K F):bM F 5 v (qN bs lg).1:=by
 obtain⟨p',R',bs',lg',u,e1,e2,hO,hv,hw⟩:=hp;simp only[aag,aau]at e1 e2;subst e1 e2;obtain⟨e1,e2⟩:=h.uniq hO;subst e1 e2;simp only[Value.tuple.injEq,aaH,aag,aau]at hv;rw[hv.1];exact hw
def DL (x:bS R row h):m8 h=ri row (aZ row h.t.length++h.t.flatten):=by
 have hs:∀ a n,(∀ j,j<n->a+j≠53)->ba h.c a n=ba row a n:=fun a n ha=>abf fun j hj=>x.I (ha j (aaP.1 hj));unfold m8 ri aZ;rw[hs 2 32 (fun j hj=>ah),hs 37 16 (fun j hj=>ah),hs 60 32 (fun j hj=>ah),x.I (k:=0) aA,x.I (k:=1) aA,x.I (k:=34) aA,x.B (k:=35) aA,x.I (k:=36) aA,x.I (k:=54) aA,x.I (k:=55) aA,x.I (k:=56) aA,x.I (k:=57) aA,x.I (k:=58) aA,x.I (k:=59) aA,x.I (k:=92) aA]
def Kj:(coreS 177).OK Tryz.prog:=by
 refine Spec.aV (Γ:=WQ) SG ?_;rintro xs Hs Rs hl1 hl2 ⟨row,R,h,rfl,rfl,hx,h8⟩;have e0:Hs=[]:=aad.1 hl1;subst e0;obtain⟨J,rfl,w130,hnw,n54,n55,n56⟩:=me (R:=R) hx.ok;refine⟨x7,J,fun _ q=>∃ i:Nat,q.i 201=i/\i<=h.t.length/\bn (q.h 202) (.pointer (ar (q.i 132) 0)) (aZ (aB J 0) h.t.length++(h.t.take i).flatten) false,fun _ q=>(h.t.length-q.i 201).toNat,rfl,⟨?_,?_,?_,?_⟩,(fun _ h=>nomatch h),?_⟩
 .intro r hr ho;simp [x7]at hr;subst hr;cases ho
 .intro r hr ho;simp [x7]at hr;subst hr;exact⟨R,aC,by show(J.h 130).le R;rw[w130];exact Hl.le_refl _⟩
 .simp [x7]
 .intro r hr;simp [x7]at hr;subst hr;trivial
 .refine aF.read [bU] [] [] ?_;simp only[go_sem,Nat.reduceAdd,WQ,ZV,XT,XU,U3];intro q1 g1 p1 q2 g2 p2;have hrg:=hx.rng;have r1:0<=J.i 1/\J.i 1<18446744073709551616:=hrg (.int .u64 (J.i 1)) (aae (i:=1) rfl);have r36:0<=J.i 36/\J.i 36<18446744073709551616:=hrg (.int .u64 (J.i 36)) (aae (i:=36) rfl);have r57:0<=J.i 57/\J.i 57<18446744073709551616:=hrg (.int .u64 (J.i 57)) (aae (i:=54) rfl);have r58:0<=J.i 58/\J.i 58<18446744073709551616:=hrg (.int .u64 (J.i 58)) (aae (i:=55) rfl);have r59:0<=J.i 59/\J.i 59<18446744073709551616:=hrg (.int .u64 (J.i 59)) (aae (i:=56) rfl);have r60:0<=J.i 60/\J.i 60<18446744073709551616:=hrg (.int .u64 (J.i 60)) (aae (i:=57) rfl);have r61:0<=J.i 61/\J.i 61<18446744073709551616:=hrg (.int .u64 (J.i 61)) (aae (i:=58) rfl);have r62:0<=J.i 62/\J.i 62<18446744073709551616:=hrg (.int .u64 (J.i 62)) (aae (i:=59) rfl);have hlen:(J.i 55).toNat=h.t.length:=CH hx.tok;have G2:ai 131 J q2:=g1.tr g2;have P2:0<=q2.i 131:=by rw[g2.i 131];exact p1
  have h2:bn (Hl.one (q2.i 132).toNat (Obj.cells #[Value.slice (ar (-1) 0) (Int.toNat 0) (Int.toNat 0),Value.bool (aY q2 E.ff)] 208 (0,0))) (Value.pointer (ar (q2.i 132) 0)) [] false:=by rw[al p2];exact bn.new _
  have l2:([]:List Int).length<=0:=aaz 0;rw[G2.i 0];refine iu h2 (u64_in _) ah fun q3 g3 h3=>?_;have G3:ai 131 J q3:=G2.tr g3;have P3:0<=q3.i 131:=by rw[g3.i 131];exact P2
  rw[<-g3.i 132]at h3;have h3:bn (q3.h _) (.pointer (ar (q3.i 132) 0)) (aj (br (J.i 0))) false:=h3;have b3:(aj (br (J.i 0))).length<=10:=iW (kG _);have l3:=aaR l2 b3;have l3:=b3;rw[G3.i 1];refine iu h3 r1 ah fun q4 g4 h4=>?_;have G4:ai 131 J q4:=G3.tr g4;have P4:0<=q4.i 131:=by rw[g4.i 131];exact P3
  rw[<-g4.i 132]at h4;have h4:bn (q4.h _) (.pointer (ar (q4.i 132) 0)) (aj (br (J.i 0))++aj (J.i 1).toNat) false:=h4;have b4:(aj (J.i 1).toNat).length<=10:=iW (z:=(J.i 1).toNat) ah;have l4:=aaR l3 b4;rw[<-aac]at l4;have rd4:=CE (n:=32) P4 (by rw[cw G4.mono];exact hx.ok) S9;rw[cw G4.mono]at rd4;refine xo h4 rd4.w ah (by rw[aR];omega) fun q5 g5 h5=>?_;have G5:ai 131 J q5:=G4.tr g5;have P5:0<=q5.i 131:=by rw[g5.i 131];exact P4
  rw[<-g5.i 132]at h5;have h5:bn (q5.h _) (.pointer (ar (q5.i 132) 0)) (aj (br (J.i 0))++aj (J.i 1).toNat++ba (aB J 0) 2 32) false:=h5;have b5:(ba (aB J 0) 2 32).length<=32:=acQ (aR _ _ _);have l5:=aaR l4 b5;rw[<-aac]at l5;rw[G5.i 34];refine iu h5 (u64_in _) ah fun q6 g6 h6=>?_;have G6:ai 131 J q6:=G5.tr g6;have P6:0<=q6.i 131:=by rw[g6.i 131];exact P5
  rw[<-g6.i 132]at h6;have h6:bn (q6.h _) (.pointer (ar (q6.i 132) 0)) (aj (br (J.i 0))++aj (J.i 1).toNat++ba (aB J 0) 2 32++aj (br (J.i 34))) false:=h6;have b6:(aj (br (J.i 34))).length<=10:=iW (kG _);have l6:=aaR l5 b6;rw[<-aac]at l6;rw[bF,G6.b 35];refine ML h6 ah fun q7 g7 h7=>?_;have G7:ai 131 J q7:=G6.tr g7;have P7:0<=q7.i 131:=by rw[g7.i 131];exact P6
  rw[<-g7.i 132]at h7;have h7:bn (q7.h _) (.pointer (ar (q7.i 132) 0)) (aj (br (J.i 0))++aj (J.i 1).toNat++ba (aB J 0) 2 32++aj (br (J.i 34))++fm (J.b 35)) false:=h7;have b7:(fm (J.b 35)).length<=1:=aaz 1;have l7:=aaR l6 b7;rw[<-aac]at l7;rw[G7.i 36];refine iu h7 r36 ah fun q8 g8 h8=>?_;have G8:ai 131 J q8:=G7.tr g8;have P8:0<=q8.i 131:=by rw[g8.i 131];exact P7
  rw[<-g8.i 132]at h8;have h8:bn (q8.h _) (.pointer (ar (q8.i 132) 0)) (aj (br (J.i 0))++aj (J.i 1).toNat++ba (aB J 0) 2 32++aj (br (J.i 34))++fm (J.b 35)++aj (J.i 36).toNat) false:=h8;have b8:(aj (J.i 36).toNat).length<=10:=iW (z:=(J.i 36).toNat) ah;have l8:=aaR l7 b8;rw[<-aac]at l8;have rd8:=CE (n:=16) P8 (by rw[cw G8.mono];exact hx.ok) S8;rw[cw G8.mono]at rd8;refine xo h8 rd8.w ah (by rw[aR];omega) fun q9 g9 h9=>?_;have G9:ai 131 J q9:=G8.tr g9;have P9:0<=q9.i 131:=by rw[g9.i 131];exact P8
  rw[<-g9.i 132]at h9;have h9:bn (q9.h _) (.pointer (ar (q9.i 132) 0)) (aj (br (J.i 0))++aj (J.i 1).toNat++ba (aB J 0) 2 32++aj (br (J.i 34))++fm (J.b 35)++aj (J.i 36).toNat++ba (aB J 0) 37 16) false:=h9;have b9:(ba (aB J 0) 37 16).length<=16:=acQ (aR _ _ _);have l9:=aaR l8 b9;rw[<-aac]at l9;rw[G9.i 55];refine⟨n55,?_⟩;have ew:IntKind.u64.wrap (J.i 55)=h.t.length:=by rw[oW ah ah];omega
  rw[ew];refine iu h9 ah ah fun q10 g10 h10=>?_;rw[aaa]at h10;have G10:ai 131 J q10:=G9.tr g10;have P10:0<=q10.i 131:=by rw[g10.i 131];exact P9
  rw[<-g10.i 132]at h10;have h10:bn (q10.h _) (.pointer (ar (q10.i 132) 0)) (aj (br (J.i 0))++aj (J.i 1).toNat++ba (aB J 0) 2 32++aj (br (J.i 34))++fm (J.b 35)++aj (J.i 36).toNat++ba (aB J 0) 37 16++aj h.t.length) false:=h10;have b10:(aj h.t.length).length<=10:=iW (z:=h.t.length) ah;have l10:=aaR l9 b10;rw[<-aac]at l10;have hA:bn (q10.h 147) (.pointer (ar (q10.i 132) 0)) (aZ (aB J 0) h.t.length) false:=h10;have lA:(aZ (aB J 0) h.t.length).length<=99:=l10;refine⟨⟨0,rfl,abn _,?_⟩,fun q g ⟨i,ei,hi,hO⟩=>?_⟩
  .show bn (q10.h 147) (.pointer (ar (q10.i 132) 0)) (aZ (aB J 0) h.t.length++(h.t.take 0).flatten) false;rw[acb,abZ,abl];exact hA
  have G:ai 131 J q:=G10.tr g;have P:0<=q.i 131:=by rw[g.i 131];exact P10
  have ht16:∀ t∈h.t,t.length=16:=fun t ht=>(hx.byte.2 t ht).1;have lF:∀ i,i<=h.t.length->((h.t.take i).flatten).length<=128:=fun i hi=>by
   rw[Cc (fun t ht=>ht16 t (abV ht)),aaA];omega
  rw[G.i 55,ei];refine⟨fun hlt=>?_,fun hge=>?_⟩
  .have hiT:i<h.t.length:=ah;obtain⟨x,y,c,eS,hy,hrows⟩:=id hx.tok;have eS:Value.slice (ar (J.i 53) (J.i 54)) (J.i 55).toNat (J.i 56).toNat=.slice (ar x y) (h.t.map aS).length c:=eS;rcases hrows with hn | ⟨hx0,hc⟩
   .rw[abv]at hn;rw[hn]at hiT;cases hiT
   simp only[Value.slice.injEq]at eS;obtain⟨hx53,hy54⟩:=km hx0 hy n54 eS.1;have ht:=aab hiT;have m1:=hx.byte.2 _ (aae ht);obtain⟨b1,r1⟩:=sB (J:=q) (h:=130) (X:=.var 53) (Y:=(E.var 54).add ((E.var 201).mul (E.lit 16))) hx0 hy hc ht m1.1 (by rw[G.h 130,w130]) (by rw[au,G.i 53,hx53]) (by
    simp only[bQ,cx,au,aq];rw[G.i 54,hy54,ei])
   rw[G.i 53,G.i 54,G.h 130,w130,hx53,hy54];refine⟨hx0,hy,ah,b1,fun q1 g1 p210=>?_⟩;have r1':(aU 130 (E.var 53) ((E.var 54).add ((E.var 201).mul (E.lit 16))) 0 (List.replicate 16 (Kd.int .u8))).map (CV.ev q1)=aS h.t[i]:=by
    have:=sB (J:=q1) (h:=130) (X:=.var 53) (Y:=(E.var 54).add ((E.var 201).mul (E.lit 16))) hx0 hy hc ht m1.1 (by rw[g1.h 130,G.h 130,w130]) (by rw[au,g1.i 53,G.i 53,hx53]) (by
     simp only[bQ,cx,au,aq];rw[g1.i 54,g1.i 201,G.i 54,hy54,ei])
    exact this.2
   have rdT:=xq (q:=q1) (T:=61) (l:=h.t[i]) (a:=210) (o:=0) (n:=16) (c:=16) p210 (cs:=aU 130 (E.var 53) ((E.var 54).add ((E.var 201).mul (E.lit 16))) 0 (List.replicate 16 (Kd.int .u8))) (by
    intro j z hz;rw[r1',aaM];unfold aS;rw[aao,hz];rfl) m1.1.symm
   rw[<-g1.i 132,<-g1.h 202]at hO;have:=lF i hi;refine xo hO rdT.w (by rw[aac];omega) ah fun q2 g2 h2=>?_;rw[<-g2.i 132]at h2;have ew:IntKind.i64.wrap (q2.i 201+1)=((i+1:Nat):Int):=by rw[g2.i 201,g1.i 201,ei,IntWalk.i64_in _ ah];omega
   refine⟨⟨i+1,ew,ah,?_⟩,?_⟩
   .show bn (q2.h 211) (.pointer (ar (q2.i 132) 0)) _ false;rw[abJ,ht,abN,acx,aby,abZ,abl,<-aaF];exact h2
   .show((h.t.length:Int)-IntKind.i64.wrap (q2.i 201+1)).toNat<_;rw[ew];omega
  have hi':i=h.t.length:=ah;rw[hi',abg]at hO;have lF:=lF h.t.length (aaz _);rw[abg]at lF;have l20:=aaR lA lF;rw[<-aac]at l20;have h20:=hO;have G20:=G;have P20:=P;clear hO G P hA lA h2 l2 h3 l3 h4 l4 h5 l5 h6 l6 h7 l7 h8 l8 h9 l9 h10 l10;rw[G20.i 57];refine iu h20 r57 ah fun q21 g21 h21=>?_;have G21:ai 131 J q21:=G20.tr g21;have P21:0<=q21.i 131:=by rw[g21.i 131];exact P20
  rw[<-g21.i 132]at h21;have h21:bn (q21.h _) (.pointer (ar (q21.i 132) 0)) (aZ (aB J 0) h.t.length++h.t.flatten++aj (J.i 57).toNat) false:=h21;have b21:(aj (J.i 57).toNat).length<=10:=iW (z:=(J.i 57).toNat) ah;have l21:=aaR l20 b21;rw[<-aac]at l21;rw[G21.i 58];refine iu h21 r58 ah fun q22 g22 h22=>?_;have G22:ai 131 J q22:=G21.tr g22;have P22:0<=q22.i 131:=by rw[g22.i 131];exact P21
  rw[<-g22.i 132]at h22;have h22:bn (q22.h _) (.pointer (ar (q22.i 132) 0)) (aZ (aB J 0) h.t.length++h.t.flatten++aj (J.i 57).toNat++aj (J.i 58).toNat) false:=h22;have b22:(aj (J.i 58).toNat).length<=10:=iW (z:=(J.i 58).toNat) ah;have l22:=aaR l21 b22;rw[<-aac]at l22;rw[G22.i 59];refine iu h22 r59 ah fun q23 g23 h23=>?_;have G23:ai 131 J q23:=G22.tr g23;have P23:0<=q23.i 131:=by rw[g23.i 131];exact P22
  rw[<-g23.i 132]at h23;have h23:bn (q23.h _) (.pointer (ar (q23.i 132) 0)) (aZ (aB J 0) h.t.length++h.t.flatten++aj (J.i 57).toNat++aj (J.i 58).toNat++aj (J.i 59).toNat) false:=h23;have b23:(aj (J.i 59).toNat).length<=10:=iW (z:=(J.i 59).toNat) ah;have l23:=aaR l22 b23;rw[<-aac]at l23;rw[G23.i 60];refine iu h23 r60 ah fun q24 g24 h24=>?_;have G24:ai 131 J q24:=G23.tr g24;have P24:0<=q24.i 131:=by rw[g24.i 131];exact P23
  rw[<-g24.i 132]at h24;have h24:bn (q24.h _) (.pointer (ar (q24.i 132) 0)) (aZ (aB J 0) h.t.length++h.t.flatten++aj (J.i 57).toNat++aj (J.i 58).toNat++aj (J.i 59).toNat++aj (J.i 60).toNat) false:=h24;have b24:(aj (J.i 60).toNat).length<=10:=iW (z:=(J.i 60).toNat) ah;have l24:=aaR l23 b24;rw[<-aac]at l24;rw[G24.i 61];refine iu h24 r61 ah fun q25 g25 h25=>?_;have G25:ai 131 J q25:=G24.tr g25;have P25:0<=q25.i 131:=by rw[g25.i 131];exact P24
  rw[<-g25.i 132]at h25;have h25:bn (q25.h _) (.pointer (ar (q25.i 132) 0)) (aZ (aB J 0) h.t.length++h.t.flatten++aj (J.i 57).toNat++aj (J.i 58).toNat++aj (J.i 59).toNat++aj (J.i 60).toNat++aj (J.i 61).toNat) false:=h25;have b25:(aj (J.i 61).toNat).length<=10:=iW (z:=(J.i 61).toNat) ah;have l25:=aaR l24 b25;rw[<-aac]at l25;rw[G25.i 62];refine iu h25 r62 ah fun q26 g26 h26=>?_;have G26:ai 131 J q26:=G25.tr g26;have P26:0<=q26.i 131:=by rw[g26.i 131];exact P25
  rw[<-g26.i 132]at h26;have h26:bn (q26.h _) (.pointer (ar (q26.i 132) 0)) (aZ (aB J 0) h.t.length++h.t.flatten++aj (J.i 57).toNat++aj (J.i 58).toNat++aj (J.i 59).toNat++aj (J.i 60).toNat++aj (J.i 61).toNat++aj (J.i 62).toNat) false:=h26;have b26:(aj (J.i 62).toNat).length<=10:=iW (z:=(J.i 62).toNat) ah;have l26:=aaR l25 b26;rw[<-aac]at l26;have rd26:=CE (n:=32) P26 (by rw[cw G26.mono];exact hx.ok) Vt;rw[cw G26.mono]at rd26;refine xo h26 rd26.w ah (by rw[aR];omega) fun q27 g27 h27=>?_;have G27:ai 131 J q27:=G26.tr g27;have P27:0<=q27.i 131:=by rw[g27.i 131];exact P26
  rw[<-g27.i 132]at h27;have h27:bn (q27.h _) (.pointer (ar (q27.i 132) 0)) (aZ (aB J 0) h.t.length++h.t.flatten++aj (J.i 57).toNat++aj (J.i 58).toNat++aj (J.i 59).toNat++aj (J.i 60).toNat++aj (J.i 61).toNat++aj (J.i 62).toNat++ba (aB J 0) 60 32) false:=h27;have b27:(ba (aB J 0) 60 32).length<=32:=acQ (aR _ _ _);have l27:=aaR l26 b27;rw[<-aac]at l27;rw[G27.i 95];refine iu h27 (u64_in _) ah fun q28 g28 h28=>?_;have G28:ai 131 J q28:=G27.tr g28;have P28:0<=q28.i 131:=by rw[g28.i 131];exact P27
  rw[<-g28.i 132]at h28;have h28:bn (q28.h _) (.pointer (ar (q28.i 132) 0)) (aZ (aB J 0) h.t.length++h.t.flatten++aj (J.i 57).toNat++aj (J.i 58).toNat++aj (J.i 59).toNat++aj (J.i 60).toNat++aj (J.i 61).toNat++aj (J.i 62).toNat++ba (aB J 0) 60 32++aj (br (J.i 95))) false:=h28;have b28:(aj (br (J.i 95))).length<=10:=iW (kG _);have l28:=aaR l27 b28;rw[<-aac]at l28;refine⟨⟨_,_,_,false,rfl,rfl,h28,ah⟩,fun q g ⟨F,hp,hF,hn⟩=>?_⟩;have hO:=ME h28 hp;have eR:qN (ri (aB J 0) (aZ (aB J 0) h.t.length++h.t.flatten)) false=(ri (aB J 0) (aZ (aB J 0) h.t.length++h.t.flatten),0):=by
   unfold qN;have l28:(ri (aB J 0) (aZ (aB J 0) h.t.length++h.t.flatten)).length<=1000:=ab0 l28 ah;rw[aal (by rintro(e | e);exact absurd e aA;omega)]
  have hO:bM F _ _ (qN (ri (aB J 0) (aZ (aB J 0) h.t.length++h.t.flatten)) false).1:=hO;rw[eR,<-DL hx]at hO;have hF:q.h 226=F:=hF (by simp [aT,Cp.roots,Ck.root]);refine fun _=>⟨[],[3],rfl,rfl,⟨(bh fun k=>q.i (226+k)),rfl,hn.1,zzT⟩,_,R,h,rfl,rfl,hx,?_⟩;show bM (cu [q.h 226]) _ _ _;rw[aL,hF];exact hO
def V9:List Sx.Spec:=[Bk]
def TJ:∀ t∈V9,t.OK Tryz.prog:=fun t ht=>by
 simp only[V9,aan,aat,aaX]at ht;subst ht;exact Ok
def Yw:Bk.res=[.one .sl]:=rfl
def TH (n:Nat):(aT n [Cp.one .sl]≠[])=True:=by simp [aT,Cp.roots,Ck.root]
def zo:aF Tryz.prog V9 108 where
 Λ:=fun p=>if cutAt p [108,1,1,1,1,1,1,0]then some ⟨1,[(4,TI .u8 (.var 200))],[],201⟩else if decide (p.length=15)&&!(p.head?==some 99)then some ⟨0,[(3,.sv (.one (.sl (.var 310) (.lit 0) (.var 311) (.var 312)))),(5,TI .i64 (.var 313))],[(2,.hp 314 [] [.var 310] [])],320⟩else none
 args:=(bW 0 [.agg bU]).map .sv
 mem:=[.ro 130 [.var 53] false]
 nv:=131
def kg (hz:0<=z/\z<18446744073709551616) (k:∀ q',ai n q q'->q'.i (n+2)=(aj z.toNat).length-> -1<=q'.i n->0<=q'.i (n+1)->bM (q'.h n) 5 (.slice (ar (q'.i n) (q'.i (n+1))) (((aj z.toNat).length:Int)).toNat (q'.i (n+3)).toNat) (aj z.toNat)->K q') :
 Bk.pre [.int .u64 z] [] []/\∀ q',ai n q q'->(∃ F,Bk.post [.int .u64 z] [] [] (.slice (ar (q'.i n) (q'.i (n+1))) (q'.i (n+2)).toNat (q'.i (n+3)).toNat) [] F/\(True->q'.h n=F)/\fe n [.one .sl] q')->K q':=by
 refine⟨⟨z,rfl,hz⟩,fun q' g ⟨F,⟨z',hz',hO⟩,hF,hn,_⟩=>?_⟩;simp only[aag,Value.int.injEq,aaZ,aau]at hz';subst hz';have hn:-1<=q'.i n/\0<=q'.i (n+1)/\0<=q'.i (n+2)/\0<=q'.i (n+3):=hn;rw[<-hF zzT]at hO;have e:(q'.i (n+2)).toNat=(aj z.toNat).length:=by
  obtain⟨x,y,c,e,_⟩:=hO.rd;simp only[Value.slice.injEq]at e;exact e.2.1
 have e2:q'.i (n+2)=(aj z.toNat).length:=ah;refine k q' g e2 hn.1 hn.2.1 ?_;rw[<-e2];exact hO
def EK {A B:Hl} {c x1 c1:Int} (ho:bM A 5 (.slice (ar x y) ((bs.length:Int)).toNat c.toNat) bs) (hm:m=bs2.length)
 (happ:∀ xs,aK A 5 1 (.slice (ar x y) ((bs.length:Int)).toNat c.toNat) ((bs.length:Int)).toNat xs->aK B 5 1 (.slice (ar x1 0) (((bs.length:Int)).toNat+m) c1.toNat) (((bs.length:Int)).toNat+m) (xs++aS bs2)):bM B 5 (.slice (ar x1 0) (((bs++bs2).length:Int)).toNat c1.toNat) (bs++bs2):=by
 have h1:aK A 5 1 (.slice (ar x y) ((bs.length:Int)).toNat c.toNat) ((bs.length:Int)).toNat (aS bs):=by
  have:=ho;unfold bM at this;rwa[aaa]at this ⊢
 have h2:=happ _ h1;unfold bM;rw[aaa,aac,gE];rw[aaa,hm]at h2;exact h2
def jY {A S:Hl} {c sx sy:Int} (h:bM A 5 (.slice (ar x y) ((B.length:Int)).toNat c.toNat) B) (hsx:-1<=sx) (hsy:0<=sy) (h2:nN S (.slice (ar sx sy) b2.length sc) b2) (hl:B.length<=900000) (hl2:b2.length<=90000)
 (k:∀ q',ai n q q'-> -1<=q'.i n->0<=q'.i (n+1)->bM (q'.h n) 5 (.slice (ar (q'.i n) 0) (((B++b2).length:Int)).toNat (q'.i (n+1)).toNat) (B++b2)->K q') :
 ((∃ xs,aK A 5 1 (.slice (ar x y) ((B.length:Int)).toNat c.toNat) ((B.length:Int)).toNat xs)/\0<=(B.length:Int)/\((0<=sx/\0<=sy/\0<=(b2.length:Int)/\∀ j:Nat,j<((b2.length:Int)).toNat->∃ v,S.cell sx.toNat (sy.toNat+j)=some v/\v.oneCell'=true)\/(b2.length:Int)=0)/\((B.length:Int)).toNat+((b2.length:Int)).toNat<=maxLen/\((B.length:Int)).toNat+((b2.length:Int)).toNat<=140737488355328) /\
 ∀ q',ai n q q'->(-1<=q'.i n/\0<=q'.i (n+1)/\(∀ xs,aK A 5 1 (.slice (ar x y) ((B.length:Int)).toNat c.toNat) ((B.length:Int)).toNat xs->aK (q'.h n) 5 1 (.slice (ar (q'.i n) 0) (((B.length:Int)).toNat+((b2.length:Int)).toNat) (q'.i (n+1)).toNat) (((B.length:Int)).toNat+((b2.length:Int)).toNat) (xs++bR S sx.toNat sy.toNat ((b2.length:Int)).toNat))/\D q')->K q':=by
 have hr:b2=[]\/0<=sx/\∀ j z,b2[j]?=some z->S.cell sx.toNat (sy.toNat+j)=some (.int .u8 z):=by
  have h2':nN S (.slice (ar sx sy) ((b2.length:Int)).toNat ((sc:Int)).toNat) b2:=by rw[aaa,aaa];exact h2
  obtain⟨_,hr⟩:=h2'.at hsx hsy ah;exact hr.imp (·.2) id
 obtain⟨hok,hseg⟩:=se (R:=S) (x:=sx) (y:=sy) (l:=(b2.length:Int)) rfl hsy hr;refine⟨⟨⟨aS B,?_⟩,ah,hok,by rw[aaa,aaa];unfold maxLen;omega,by rw[aaa,aaa];omega⟩,fun q' g ⟨a1,a2,a3,_⟩=>k q' g a1 a2 ?_⟩
 .have:=h;unfold bM at this;rwa[aaa]at this ⊢
 .rw[hseg]at a3;exact EK h (aaa _) a3
def uh {A:Hl} {c:Int} (h:bM A 5 (.slice (ar x y) ((B.length:Int)).toNat c.toNat) B) (hv:vs=aS b2) (hm:m=b2.length) (hl:B.length<=900000) (hl2:b2.length<=90000)
 (k:∀ q',ai n q q'-> -1<=q'.i n->0<=q'.i (n+1)->bM (q'.h n) 5 (.slice (ar (q'.i n) 0) (((B++b2).length:Int)).toNat (q'.i (n+1)).toNat) (B++b2)->K q') :
 ((∃ xs,aK A 5 1 (.slice (ar x y) ((B.length:Int)).toNat c.toNat) ((B.length:Int)).toNat xs)/\0<=(B.length:Int)/\((B.length:Int)).toNat+m<=maxLen/\((B.length:Int)).toNat+m<=140737488355328) /\
 ∀ q',ai n q q'->(-1<=q'.i n/\0<=q'.i (n+1)/\(∀ xs,aK A 5 1 (.slice (ar x y) ((B.length:Int)).toNat c.toNat) ((B.length:Int)).toNat xs->aK (q'.h n) 5 1 (.slice (ar (q'.i n) 0) (((B.length:Int)).toNat+m) (q'.i (n+1)).toNat) (((B.length:Int)).toNat+m) (xs++vs))/\D q')->K q':=by
 refine⟨⟨⟨aS B,?_⟩,ah,by rw[aaa];unfold maxLen;omega,by rw[aaa];omega⟩,fun q' g ⟨a1,a2,a3,_⟩=>k q' g a1 a2 ?_⟩
 .have:=h;unfold bM at this;rwa[aaa]at this ⊢
 .rw[hv]at a3;exact EK h hm a3
def zg {p:Option Addr} (h:bM F 5 (.slice p ((n:Int)).toNat c) bs) (hn:n=bs.length):nN F (.slice p bs.length c) bs:=by
 subst hn;have:=h.rd;rwa[aaa]at this
def Pz (q:Env):(ak 2 (List.replicate 32 (Ck.int .u8))).map (CV.ev q)=aS (ba (aB q 0) 2 32):=rfl
def Py (q:Env):(ak 37 (List.replicate 16 (Ck.int .u8))).map (CV.ev q)=aS (ba (aB q 0) 37 16):=rfl
def SB (q:Env):(ak 63 (List.replicate 32 (Ck.int .u8))).map (CV.ev q)=aS (ba (aB q 0) 60 32):=rfl
def Iy (q:Env):(ak 96 (List.replicate 32 (Ck.int .u8))).map (CV.ev q)=aS (ba (aB q 0) 93 32):=rfl
def K4:(coreS 108).OK Tryz.prog:=by
 refine Spec.aV (Γ:=V9) TJ ?_;rintro xs Hs Rs hl1 hl2 ⟨row,R,h,rfl,rfl,hx,h8⟩;have e0:Hs=[]:=aad.1 hl1;subst e0;obtain⟨J,rfl,w130,hnw,n54,n55,n56⟩:=me (R:=R) hx.ok;refine⟨zo,J,fun j q=>if j=1 then q.i 200=(if J.b 35=true then 1 else 0)else ∃ i:Nat,q.i 313=i/\i<=h.t.length/\ -1<=q.i 310/\0<=q.i 312/\q.i 311=((aZ (aB J 0) h.t.length++(h.t.take i).flatten).length:Int)/\bM (q.h 314) 5 (.slice (ar (q.i 310) 0) (((aZ (aB J 0) h.t.length++(h.t.take i).flatten).length:Int)).toNat (q.i 312).toNat) (aZ (aB J 0) h.t.length++(h.t.take i).flatten),fun _ q=>(h.t.length-q.i 313).toNat,rfl,⟨?_,?_,?_,?_⟩,(fun _ h=>nomatch h),?_⟩
 .intro r hr ho;simp [zo]at hr;subst hr;cases ho
 .intro r hr ho;simp [zo]at hr;subst hr;exact⟨R,aC,by show(J.h 130).le R;rw[w130];exact Hl.le_refl _⟩
 .simp [zo]
 .intro r hr;simp [zo]at hr;subst hr;trivial
 .refine aF.read [] [] [] ?_;simp only[go_sem,Nat.reduceAdd,V9,Yw,TH];intro q1 g1 p1;have hrg:=hx.rng;have r1:0<=J.i 1/\J.i 1<18446744073709551616:=hrg (.int .u64 (J.i 1)) (aae (i:=1) rfl);have r36:0<=J.i 36/\J.i 36<18446744073709551616:=hrg (.int .u64 (J.i 36)) (aae (i:=36) rfl);have r57:0<=J.i 57/\J.i 57<18446744073709551616:=hrg (.int .u64 (J.i 57)) (aae (i:=54) rfl);have r58:0<=J.i 58/\J.i 58<18446744073709551616:=hrg (.int .u64 (J.i 58)) (aae (i:=55) rfl);have r59:0<=J.i 59/\J.i 59<18446744073709551616:=hrg (.int .u64 (J.i 59)) (aae (i:=56) rfl);have r60:0<=J.i 60/\J.i 60<18446744073709551616:=hrg (.int .u64 (J.i 60)) (aae (i:=57) rfl);have r61:0<=J.i 61/\J.i 61<18446744073709551616:=hrg (.int .u64 (J.i 61)) (aae (i:=58) rfl);have r62:0<=J.i 62/\J.i 62<18446744073709551616:=hrg (.int .u64 (J.i 62)) (aae (i:=59) rfl);have hlen:(J.i 55).toNat=h.t.length:=CH hx.tok;have G1:ai 131 J q1:=g1.mono;rw[G1.i 0];refine kg (u64_in _) fun q2 g2 N2 X2 Y2 h2=>?_;have G2:ai 131 J q2:=G1.tr g2;have N2:q2.i 134=((aj (br (J.i 0))).length:Int):=N2;have h2:bM (q2.h 132) _ (.slice (ar (q2.i 132) (q2.i 133)) (((aj (br (J.i 0))).length:Int)).toNat (q2.i 135).toNat) (aj (br (J.i 0))):=h2;have b2:(aj (br (J.i 0))).length<=10:=iW (kG (J.i 0));rw[G2.i 1];refine kg r1 fun q3 g3 N3 X3 Y3 h3=>?_;have G3:ai 131 J q3:=G2.tr g3;have N3:q3.i 138=((aj (J.i 1).toNat).length:Int):=N3;have h3:bM (q3.h 136) _ (.slice (ar (q3.i 136) (q3.i 137)) (((aj (J.i 1).toNat).length:Int)).toNat (q3.i 139).toNat) (aj (J.i 1).toNat):=h3;have b3:(aj (J.i 1).toNat).length<=10:=iW (z:=(J.i 1).toNat) ah;rw[<-g3.h 132,<-g3.i 132,<-g3.i 135,<-g3.i 133]at h2;rw[<-g3.i 134]at N2;rw[N2,N3];refine jY h2 X3 Y3 (zg h3 rfl) ah ah fun q4 g4 A4 C4 h4=>?_;have G4:ai 131 J q4:=G3.tr g4;have h4:bM (q4.h 140) _ (.slice (ar (q4.i 140) 0) (((aj (br (J.i 0))++aj (J.i 1).toNat).length:Int)).toNat (q4.i 141).toNat) (aj (br (J.i 0))++aj (J.i 1).toNat):=h4;have b4x:(aj (br (J.i 0))++aj (J.i 1).toNat).length<=20:=by rw[aac];exact aaR b2 b3
  have L4:q4.i 134+q4.i 138=((aj (br (J.i 0))++aj (J.i 1).toNat).length:Int):=by rw[g4.i 134,g4.i 138,N2,N3,aac (bs:=aj (J.i 1).toNat)];first | (rw[aR];omega) | (show _=((_+1:Nat):Int);omega) | omega
  rw[L4];refine uh (b2:=ba (aB J 0) 2 32) h4 (by rw[<-cw G4.mono];exact Pz q4) (aR _ _ _).symm ah (by rw[aR];omega) fun q5 g5 A5 C5 h5=>?_;have G5:ai 131 J q5:=G4.tr g5;have h5:bM (q5.h 142) _ (.slice (ar (q5.i 142) 0) (((aj (br (J.i 0))++aj (J.i 1).toNat++ba (aB J 0) 2 32).length:Int)).toNat (q5.i 143).toNat) (aj (br (J.i 0))++aj (J.i 1).toNat++ba (aB J 0) 2 32):=h5;have b5x:(aj (br (J.i 0))++aj (J.i 1).toNat++ba (aB J 0) 2 32).length<=52:=by rw[aac];exact aaR b4x (acQ (aR _ _ _))
  have L5:q5.i 134+q5.i 138+32=((aj (br (J.i 0))++aj (J.i 1).toNat++ba (aB J 0) 2 32).length:Int):=by rw[g5.i 134,g5.i 138,L4,aac (bs:=ba (aB J 0) 2 32)];first | (rw[aR];omega) | (show _=((_+1:Nat):Int);omega) | omega
  rw[G5.i 34];refine kg (u64_in _) fun q6 g6 N6 X6 Y6 h6=>?_;have G6:ai 131 J q6:=G5.tr g6;have N6:q6.i 146=((aj (br (J.i 34))).length:Int):=N6;have h6:bM (q6.h 144) _ (.slice (ar (q6.i 144) (q6.i 145)) (((aj (br (J.i 34))).length:Int)).toNat (q6.i 147).toNat) (aj (br (J.i 34))):=h6;have b6:(aj (br (J.i 34))).length<=10:=iW (kG (J.i 34));rw[<-g6.h 142,<-g6.i 142,<-g6.i 143]at h5;rw[<-g6.i 134,<-g6.i 138]at L5;rw[L5,N6];refine jY h5 X6 Y6 (zg h6 rfl) ah ah fun q7 g7 A7 C7 h7=>?_;have G7:ai 131 J q7:=G6.tr g7;have h7:bM (q7.h 148) _ (.slice (ar (q7.i 148) 0) (((aj (br (J.i 0))++aj (J.i 1).toNat++ba (aB J 0) 2 32++aj (br (J.i 34))).length:Int)).toNat (q7.i 149).toNat) (aj (br (J.i 0))++aj (J.i 1).toNat++ba (aB J 0) 2 32++aj (br (J.i 34))):=h7;have b7x:(aj (br (J.i 0))++aj (J.i 1).toNat++ba (aB J 0) 2 32++aj (br (J.i 34))).length<=62:=by rw[aac];exact aaR b5x b6
  have L7:q7.i 134+q7.i 138+32+q7.i 146=((aj (br (J.i 0))++aj (J.i 1).toNat++ba (aB J 0) 2 32++aj (br (J.i 34))).length:Int):=by rw[g7.i 134,g7.i 138,g7.i 146,L5,N6,aac (bs:=aj (br (J.i 34)))];first | (rw[aR];omega) | (show _=((_+1:Nat):Int);omega) | omega
  rw[G7.b 35];refine⟨⟨fun hc=>?_,fun hc=>?_⟩,fun q8 g8 hcut=>?_⟩
  .show(1:Int)=_;rw[aay hc]
  .show(0:Int)=_;rw[aal hc]
  have G8:ai 131 J q8:=G7.tr g8;rw[<-g8.h 148,<-g8.i 148,<-g8.i 149]at h7;rw[<-g8.i 134,<-g8.i 138,<-g8.i 146]at L7;intro q9 g9 _;rw[<-g9.i 200]at hcut;have G9:ai 131 J q9:=G8.tr g9;rw[<-g9.h 148,<-g9.i 148,<-g9.i 149]at h7;rw[<-g9.i 134,<-g9.i 138,<-g9.i 146]at L7;rw[L7];refine uh (b2:=fm (J.b 35)) h7 (by show [Value.int .u8 (q9.i 200)]=_;rw[hcut];rfl) rfl ah (by show 1<=90000;omega) fun q10 g10 A10 C10 h10=>?_;have G10:ai 131 J q10:=G9.tr g10;have h10:bM (q10.h 202) _ (.slice (ar (q10.i 202) 0) (((aj (br (J.i 0))++aj (J.i 1).toNat++ba (aB J 0) 2 32++aj (br (J.i 34))++fm (J.b 35)).length:Int)).toNat (q10.i 203).toNat) (aj (br (J.i 0))++aj (J.i 1).toNat++ba (aB J 0) 2 32++aj (br (J.i 34))++fm (J.b 35)):=h10;have b10x:(aj (br (J.i 0))++aj (J.i 1).toNat++ba (aB J 0) 2 32++aj (br (J.i 34))++fm (J.b 35)).length<=63:=by rw[aac];exact aaR b7x (aaz 1)
  have L10:q10.i 134+q10.i 138+32+q10.i 146+1=((aj (br (J.i 0))++aj (J.i 1).toNat++ba (aB J 0) 2 32++aj (br (J.i 34))++fm (J.b 35)).length:Int):=by rw[g10.i 134,g10.i 138,g10.i 146,L7,aac (bs:=fm (J.b 35))];first | (rw[aR];omega) | (show _=((_+1:Nat):Int);omega) | omega
  rw[G10.i 36];refine kg r36 fun q11 g11 N11 X11 Y11 h11=>?_;have G11:ai 131 J q11:=G10.tr g11;have N11:q11.i 206=((aj (J.i 36).toNat).length:Int):=N11;have h11:bM (q11.h 204) _ (.slice (ar (q11.i 204) (q11.i 205)) (((aj (J.i 36).toNat).length:Int)).toNat (q11.i 207).toNat) (aj (J.i 36).toNat):=h11;have b11:(aj (J.i 36).toNat).length<=10:=iW (z:=(J.i 36).toNat) ah;rw[<-g11.h 202,<-g11.i 202,<-g11.i 203]at h10;rw[<-g11.i 134,<-g11.i 138,<-g11.i 146]at L10;rw[L10,N11];refine jY h10 X11 Y11 (zg h11 rfl) ah ah fun q12 g12 A12 C12 h12=>?_;have G12:ai 131 J q12:=G11.tr g12;have h12:bM (q12.h 208) _ (.slice (ar (q12.i 208) 0) (((aj (br (J.i 0))++aj (J.i 1).toNat++ba (aB J 0) 2 32++aj (br (J.i 34))++fm (J.b 35)++aj (J.i 36).toNat).length:Int)).toNat (q12.i 209).toNat) (aj (br (J.i 0))++aj (J.i 1).toNat++ba (aB J 0) 2 32++aj (br (J.i 34))++fm (J.b 35)++aj (J.i 36).toNat):=h12;have b12x:(aj (br (J.i 0))++aj (J.i 1).toNat++ba (aB J 0) 2 32++aj (br (J.i 34))++fm (J.b 35)++aj (J.i 36).toNat).length<=73:=by rw[aac];exact aaR b10x b11
  have L12:q12.i 134+q12.i 138+32+q12.i 146+1+q12.i 206=((aj (br (J.i 0))++aj (J.i 1).toNat++ba (aB J 0) 2 32++aj (br (J.i 34))++fm (J.b 35)++aj (J.i 36).toNat).length:Int):=by rw[g12.i 134,g12.i 138,g12.i 146,g12.i 206,L10,N11,aac (bs:=aj (J.i 36).toNat)];first | (rw[aR];omega) | (show _=((_+1:Nat):Int);omega) | omega
  rw[L12];refine uh (b2:=ba (aB J 0) 37 16) h12 (by rw[<-cw G12.mono];exact Py q12) (aR _ _ _).symm ah (by rw[aR];omega) fun q13 g13 A13 C13 h13=>?_;have G13:ai 131 J q13:=G12.tr g13;have h13:bM (q13.h 210) _ (.slice (ar (q13.i 210) 0) (((aj (br (J.i 0))++aj (J.i 1).toNat++ba (aB J 0) 2 32++aj (br (J.i 34))++fm (J.b 35)++aj (J.i 36).toNat++ba (aB J 0) 37 16).length:Int)).toNat (q13.i 211).toNat) (aj (br (J.i 0))++aj (J.i 1).toNat++ba (aB J 0) 2 32++aj (br (J.i 34))++fm (J.b 35)++aj (J.i 36).toNat++ba (aB J 0) 37 16):=h13;have b13x:(aj (br (J.i 0))++aj (J.i 1).toNat++ba (aB J 0) 2 32++aj (br (J.i 34))++fm (J.b 35)++aj (J.i 36).toNat++ba (aB J 0) 37 16).length<=89:=by rw[aac];exact aaR b12x (acQ (aR _ _ _))
  have L13:q13.i 134+q13.i 138+32+q13.i 146+1+q13.i 206+16=((aj (br (J.i 0))++aj (J.i 1).toNat++ba (aB J 0) 2 32++aj (br (J.i 34))++fm (J.b 35)++aj (J.i 36).toNat++ba (aB J 0) 37 16).length:Int):=by rw[g13.i 134,g13.i 138,g13.i 146,g13.i 206,L12,aac (bs:=ba (aB J 0) 37 16)];first | (rw[aR];omega) | (show _=((_+1:Nat):Int);omega) | omega
  rw[G13.i 55];refine⟨n55,?_⟩;have ew:IntKind.u64.wrap (J.i 55)=h.t.length:=by rw[oW ah ah];omega
  rw[ew];refine kg ah fun q14 g14 N14 X14 Y14 h14=>?_;rw[aaa]at N14 h14;have G14:ai 131 J q14:=G13.tr g14;have N14:q14.i 214=((aj h.t.length).length:Int):=N14;have h14:bM (q14.h 212) _ (.slice (ar (q14.i 212) (q14.i 213)) (((aj h.t.length).length:Int)).toNat (q14.i 215).toNat) (aj h.t.length):=h14;have b14:(aj h.t.length).length<=10:=iW (z:=h.t.length) ah;rw[<-g14.h 210,<-g14.i 210,<-g14.i 211]at h13;rw[<-g14.i 134,<-g14.i 138,<-g14.i 146,<-g14.i 206]at L13;rw[L13,N14];refine jY h13 X14 Y14 (zg h14 rfl) ah ah fun q15 g15 A15 C15 h15=>?_;have G15:ai 131 J q15:=G14.tr g15;have h15:bM (q15.h 216) _ (.slice (ar (q15.i 216) 0) (((aj (br (J.i 0))++aj (J.i 1).toNat++ba (aB J 0) 2 32++aj (br (J.i 34))++fm (J.b 35)++aj (J.i 36).toNat++ba (aB J 0) 37 16++aj h.t.length).length:Int)).toNat (q15.i 217).toNat) (aj (br (J.i 0))++aj (J.i 1).toNat++ba (aB J 0) 2 32++aj (br (J.i 34))++fm (J.b 35)++aj (J.i 36).toNat++ba (aB J 0) 37 16++aj h.t.length):=h15;have b15x:(aj (br (J.i 0))++aj (J.i 1).toNat++ba (aB J 0) 2 32++aj (br (J.i 34))++fm (J.b 35)++aj (J.i 36).toNat++ba (aB J 0) 37 16++aj h.t.length).length<=99:=by rw[aac];exact aaR b13x b14
  have L15:q15.i 134+q15.i 138+32+q15.i 146+1+q15.i 206+16+q15.i 214=((aj (br (J.i 0))++aj (J.i 1).toNat++ba (aB J 0) 2 32++aj (br (J.i 34))++fm (J.b 35)++aj (J.i 36).toNat++ba (aB J 0) 37 16++aj h.t.length).length:Int):=by rw[g15.i 134,g15.i 138,g15.i 146,g15.i 206,g15.i 214,L13,N14,aac (bs:=aj h.t.length)];first | (rw[aR];omega) | (show _=((_+1:Nat):Int);omega) | omega
  have hA:bM (q15.h 216) _ (.slice (ar (q15.i 216) 0) (((aZ (aB J 0) h.t.length).length:Int)).toNat (q15.i 217).toNat) (aZ (aB J 0) h.t.length):=h15;have lA:(aZ (aB J 0) h.t.length).length<=99:=b15x;have LA:q15.i 134+q15.i 138+32+q15.i 146+1+q15.i 206+16+q15.i 214=((aZ (aB J 0) h.t.length).length:Int):=L15;have ht16:∀ t∈h.t,t.length=16:=fun t ht=>(hx.byte.2 t ht).1;have lF:∀ i,i<=h.t.length->((h.t.take i).flatten).length<=128:=fun i hi=>by
   rw[Cc (fun t ht=>ht16 t (abV ht)),aaA];omega
  refine⟨⟨0,rfl,abn _,A15,C15,?_,?_⟩,fun q g hinv=>?_⟩
  .show q15.i 134+q15.i 138+32+q15.i 146+1+q15.i 206+16+q15.i 214=_;rw[acb,abZ,abl];exact LA
  .show bM (q15.h 216) _ (.slice (ar (q15.i 216) 0) _ (q15.i 217).toNat) _;rw[acb,abZ,abl];exact hA
  have G:ai 131 J q:=G15.tr g;clear h2 h3 h4 h5 h6 h7 h10 h11 h12 h13 h14 h15 hA LA;obtain⟨i,ei,hi,A0,C0,e311,hO⟩:=hinv;rw[G.i 55,ei];refine⟨fun hlt=>?_,fun hge=>?_⟩
  .have hiT:i<h.t.length:=ah;obtain⟨x,y,c,eS,hy,hrows⟩:=id hx.tok;have eS:Value.slice (ar (J.i 53) (J.i 54)) (J.i 55).toNat (J.i 56).toNat=.slice (ar x y) (h.t.map aS).length c:=eS;rcases hrows with hn | ⟨hx0,hc⟩
   .rw[abv]at hn;rw[hn]at hiT;cases hiT
   simp only[Value.slice.injEq]at eS;obtain⟨hx53,hy54⟩:=km hx0 hy n54 eS.1;have ht:=aab hiT;have m1:=hx.byte.2 _ (aae ht);have hcell:=(hc i (aS h.t[i]) (by rw[aao,ht];rfl)).2;have hlen16:jF.length=16:=rfl;rw[hlen16]at hcell;have rdT:nN R (.slice (ar x (y+(i:Int)*16)) h.t[i].length 16) h.t[i]:=⟨x,y+(i:Int)*16,16,rfl,ah,Or.inr ⟨hx0,fun j z hz=>by
    rw[show(y+(i:Int)*16).toNat+j=y.toNat+i*16+j by omega];exact hcell j _ (by unfold aS;rw[aao,hz];rfl)⟩⟩
   have h16:(16:Int)=(h.t[i].length:Int):=by rw[m1.1];rfl
   have:=lF i hi;rw[G.i 53,G.i 54,G.h 130,w130,hx53,hy54,e311];refine⟨hx0,hy,ah,?_⟩;have key:=fun K k=>jY (q:=q) (n:=320) (D:=fun q'=>(∀ b:Nat,(q.h 314).mem b->some b≠(Value.slice (ar (q.i 310) 0) (((aZ (aB J 0) h.t.length++(List.take i h.t).flatten).length:Int)).toNat (q.i 312).toNat).ownBlock->q'.h 320 b=q.h 314 b)/\((∀ b:Nat,(q'.h 320).mem b->(q.h 314).mem b\/b=(q'.i 320).toNat/\0<=q'.i 320)/\∀ xs,aK (q.h 314) 5 1 (Value.slice (ar (q.i 310) 0) (((aZ (aB J 0) h.t.length++(List.take i h.t).flatten).length:Int)).toNat (q.i 312).toNat) (((aZ (aB J 0) h.t.length++(List.take i h.t).flatten).length:Int)).toNat xs->aK (q'.h 320) 5 1 (Value.slice (ar (q.i 310) 0) (((aZ (aB J 0) h.t.length++(List.take i h.t).flatten).length:Int)).toNat (q.i 312).toNat) (((aZ (aB J 0) h.t.length++(List.take i h.t).flatten).length:Int)).toNat xs)/\(some (q'.i 320).toNat=(Value.slice (ar (q.i 310) 0) (((aZ (aB J 0) h.t.length++(List.take i h.t).flatten).length:Int)).toNat (q.i 312).toNat).ownBlock\/¬(q.h 314).mem (q'.i 320).toNat\/q'.i 320= -1)) (K:=K) hO ah ah rdT (by rw[aac];omega) ah k;rw[m1.1]at key;refine key _ fun q1 g1 A1 C1 h1=>?_;have ew:IntKind.i64.wrap (q1.i 313+1)=((i+1:Nat):Int):=by rw[g1.i 313,ei,IntWalk.i64_in _ ah];omega
   have eB:aZ (aB J 0) h.t.length++(h.t.take i).flatten++h.t[i]=aZ (aB J 0) h.t.length++(h.t.take (i+1)).flatten:=by rw[abJ,ht,abN,acx,aby,abZ,abl,aaF]
   have lB:((aZ (aB J 0) h.t.length++(h.t.take i).flatten).length:Int)+16=((aZ (aB J 0) h.t.length++(h.t.take (i+1)).flatten).length:Int):=by rw[<-eB,aac (bs:=h.t[i])];omega
   rw[eB]at h1;refine⟨⟨i+1,ew,ah,A1,C1,?_,h1⟩,?_⟩
   .show q1.i 311+16=_;rw[g1.i 311,e311,lB]
   .show((h.t.length:Int)-IntKind.i64.wrap (q1.i 313+1)).toNat<_;rw[ew];omega
  have hi':i=h.t.length:=ah;rw[hi',abg]at hO e311;have lF:=lF h.t.length (aaz _);rw[abg]at lF;have b20:(aZ (aB J 0) h.t.length++h.t.flatten).length<=227:=by rw[aac];exact aaR lA lF
  have G20:=G;clear G lA lF;obtain⟨q20,e20⟩:∃ q20,q20=q:=⟨_,rfl⟩;rw[<-e20]at hO e311 G20 ⊢;have hge':True:=trivial;rw[G20.i 57];refine kg r57 fun q21 g21 N21 X21 Y21 h21=>?_;have G21:ai 131 J q21:=G20.tr g21;have N21:q21.i 322=((aj (J.i 57).toNat).length:Int):=N21;have h21:bM (q21.h 320) _ (.slice (ar (q21.i 320) (q21.i 321)) (((aj (J.i 57).toNat).length:Int)).toNat (q21.i 323).toNat) (aj (J.i 57).toNat):=h21;have b21:(aj (J.i 57).toNat).length<=10:=iW (z:=(J.i 57).toNat) ah;rw[<-g21.h 314,<-g21.i 310,<-g21.i 312]at hO;rw[<-g21.i 311]at e311;rw[e311,N21];refine jY hO X21 Y21 (zg h21 rfl) ah ah fun q22 g22 A22 C22 h22=>?_;have G22:ai 131 J q22:=G21.tr g22;have h22:bM (q22.h 324) _ (.slice (ar (q22.i 324) 0) (((aZ (aB J 0) h.t.length++h.t.flatten++aj (J.i 57).toNat).length:Int)).toNat (q22.i 325).toNat) (aZ (aB J 0) h.t.length++h.t.flatten++aj (J.i 57).toNat):=h22;have b22x:(aZ (aB J 0) h.t.length++h.t.flatten++aj (J.i 57).toNat).length<=237:=by rw[aac];exact aaR b20 b21
  have L22:q22.i 311+q22.i 322=((aZ (aB J 0) h.t.length++h.t.flatten++aj (J.i 57).toNat).length:Int):=by rw[g22.i 311,g22.i 322,e311,N21,aac (bs:=aj (J.i 57).toNat)];first | (rw[aR];omega) | (show _=((_+1:Nat):Int);omega) | omega
  rw[G22.i 58];refine kg r58 fun q23 g23 N23 X23 Y23 h23=>?_;have G23:ai 131 J q23:=G22.tr g23;have N23:q23.i 328=((aj (J.i 58).toNat).length:Int):=N23;have h23:bM (q23.h 326) _ (.slice (ar (q23.i 326) (q23.i 327)) (((aj (J.i 58).toNat).length:Int)).toNat (q23.i 329).toNat) (aj (J.i 58).toNat):=h23;have b23:(aj (J.i 58).toNat).length<=10:=iW (z:=(J.i 58).toNat) ah;rw[<-g23.h 324,<-g23.i 324,<-g23.i 325]at h22;rw[<-g23.i 311,<-g23.i 322]at L22;rw[L22,N23];refine jY h22 X23 Y23 (zg h23 rfl) ah ah fun q24 g24 A24 C24 h24=>?_;have G24:ai 131 J q24:=G23.tr g24;have h24:bM (q24.h 330) _ (.slice (ar (q24.i 330) 0) (((aZ (aB J 0) h.t.length++h.t.flatten++aj (J.i 57).toNat++aj (J.i 58).toNat).length:Int)).toNat (q24.i 331).toNat) (aZ (aB J 0) h.t.length++h.t.flatten++aj (J.i 57).toNat++aj (J.i 58).toNat):=h24;have b24x:(aZ (aB J 0) h.t.length++h.t.flatten++aj (J.i 57).toNat++aj (J.i 58).toNat).length<=247:=by rw[aac];exact aaR b22x b23
  have L24:q24.i 311+q24.i 322+q24.i 328=((aZ (aB J 0) h.t.length++h.t.flatten++aj (J.i 57).toNat++aj (J.i 58).toNat).length:Int):=by rw[g24.i 311,g24.i 322,g24.i 328,L22,N23,aac (bs:=aj (J.i 58).toNat)];first | (rw[aR];omega) | (show _=((_+1:Nat):Int);omega) | omega
  rw[G24.i 59];refine kg r59 fun q25 g25 N25 X25 Y25 h25=>?_;have G25:ai 131 J q25:=G24.tr g25;have N25:q25.i 334=((aj (J.i 59).toNat).length:Int):=N25;have h25:bM (q25.h 332) _ (.slice (ar (q25.i 332) (q25.i 333)) (((aj (J.i 59).toNat).length:Int)).toNat (q25.i 335).toNat) (aj (J.i 59).toNat):=h25;have b25:(aj (J.i 59).toNat).length<=10:=iW (z:=(J.i 59).toNat) ah;rw[<-g25.h 330,<-g25.i 330,<-g25.i 331]at h24;rw[<-g25.i 311,<-g25.i 322,<-g25.i 328]at L24;rw[L24,N25];refine jY h24 X25 Y25 (zg h25 rfl) ah ah fun q26 g26 A26 C26 h26=>?_;have G26:ai 131 J q26:=G25.tr g26;have h26:bM (q26.h 336) _ (.slice (ar (q26.i 336) 0) (((aZ (aB J 0) h.t.length++h.t.flatten++aj (J.i 57).toNat++aj (J.i 58).toNat++aj (J.i 59).toNat).length:Int)).toNat (q26.i 337).toNat) (aZ (aB J 0) h.t.length++h.t.flatten++aj (J.i 57).toNat++aj (J.i 58).toNat++aj (J.i 59).toNat):=h26;have b26x:(aZ (aB J 0) h.t.length++h.t.flatten++aj (J.i 57).toNat++aj (J.i 58).toNat++aj (J.i 59).toNat).length<=257:=by rw[aac];exact aaR b24x b25
  have L26:q26.i 311+q26.i 322+q26.i 328+q26.i 334=((aZ (aB J 0) h.t.length++h.t.flatten++aj (J.i 57).toNat++aj (J.i 58).toNat++aj (J.i 59).toNat).length:Int):=by rw[g26.i 311,g26.i 322,g26.i 328,g26.i 334,L24,N25,aac (bs:=aj (J.i 59).toNat)];first | (rw[aR];omega) | (show _=((_+1:Nat):Int);omega) | omega
  rw[G26.i 60];refine kg r60 fun q27 g27 N27 X27 Y27 h27=>?_;have G27:ai 131 J q27:=G26.tr g27;have N27:q27.i 340=((aj (J.i 60).toNat).length:Int):=N27;have h27:bM (q27.h 338) _ (.slice (ar (q27.i 338) (q27.i 339)) (((aj (J.i 60).toNat).length:Int)).toNat (q27.i 341).toNat) (aj (J.i 60).toNat):=h27;have b27:(aj (J.i 60).toNat).length<=10:=iW (z:=(J.i 60).toNat) ah;rw[<-g27.h 336,<-g27.i 336,<-g27.i 337]at h26;rw[<-g27.i 311,<-g27.i 322,<-g27.i 328,<-g27.i 334]at L26;rw[L26,N27];refine jY h26 X27 Y27 (zg h27 rfl) ah ah fun q28 g28 A28 C28 h28=>?_;have G28:ai 131 J q28:=G27.tr g28;have h28:bM (q28.h 342) _ (.slice (ar (q28.i 342) 0) (((aZ (aB J 0) h.t.length++h.t.flatten++aj (J.i 57).toNat++aj (J.i 58).toNat++aj (J.i 59).toNat++aj (J.i 60).toNat).length:Int)).toNat (q28.i 343).toNat) (aZ (aB J 0) h.t.length++h.t.flatten++aj (J.i 57).toNat++aj (J.i 58).toNat++aj (J.i 59).toNat++aj (J.i 60).toNat):=h28;have b28x:(aZ (aB J 0) h.t.length++h.t.flatten++aj (J.i 57).toNat++aj (J.i 58).toNat++aj (J.i 59).toNat++aj (J.i 60).toNat).length<=267:=by rw[aac];exact aaR b26x b27
  have L28:q28.i 311+q28.i 322+q28.i 328+q28.i 334+q28.i 340=((aZ (aB J 0) h.t.length++h.t.flatten++aj (J.i 57).toNat++aj (J.i 58).toNat++aj (J.i 59).toNat++aj (J.i 60).toNat).length:Int):=by rw[g28.i 311,g28.i 322,g28.i 328,g28.i 334,g28.i 340,L26,N27,aac (bs:=aj (J.i 60).toNat)];first | (rw[aR];omega) | (show _=((_+1:Nat):Int);omega) | omega
  rw[G28.i 61];refine kg r61 fun q29 g29 N29 X29 Y29 h29=>?_;have G29:ai 131 J q29:=G28.tr g29;have N29:q29.i 346=((aj (J.i 61).toNat).length:Int):=N29;have h29:bM (q29.h 344) _ (.slice (ar (q29.i 344) (q29.i 345)) (((aj (J.i 61).toNat).length:Int)).toNat (q29.i 347).toNat) (aj (J.i 61).toNat):=h29;have b29:(aj (J.i 61).toNat).length<=10:=iW (z:=(J.i 61).toNat) ah;rw[<-g29.h 342,<-g29.i 342,<-g29.i 343]at h28;rw[<-g29.i 311,<-g29.i 322,<-g29.i 328,<-g29.i 334,<-g29.i 340]at L28;rw[L28,N29];refine jY h28 X29 Y29 (zg h29 rfl) ah ah fun q30 g30 A30 C30 h30=>?_;have G30:ai 131 J q30:=G29.tr g30;have h30:bM (q30.h 348) _ (.slice (ar (q30.i 348) 0) (((aZ (aB J 0) h.t.length++h.t.flatten++aj (J.i 57).toNat++aj (J.i 58).toNat++aj (J.i 59).toNat++aj (J.i 60).toNat++aj (J.i 61).toNat).length:Int)).toNat (q30.i 349).toNat) (aZ (aB J 0) h.t.length++h.t.flatten++aj (J.i 57).toNat++aj (J.i 58).toNat++aj (J.i 59).toNat++aj (J.i 60).toNat++aj (J.i 61).toNat):=h30;have b30x:(aZ (aB J 0) h.t.length++h.t.flatten++aj (J.i 57).toNat++aj (J.i 58).toNat++aj (J.i 59).toNat++aj (J.i 60).toNat++aj (J.i 61).toNat).length<=277:=by rw[aac];exact aaR b28x b29
  have L30:q30.i 311+q30.i 322+q30.i 328+q30.i 334+q30.i 340+q30.i 346=((aZ (aB J 0) h.t.length++h.t.flatten++aj (J.i 57).toNat++aj (J.i 58).toNat++aj (J.i 59).toNat++aj (J.i 60).toNat++aj (J.i 61).toNat).length:Int):=by rw[g30.i 311,g30.i 322,g30.i 328,g30.i 334,g30.i 340,g30.i 346,L28,N29,aac (bs:=aj (J.i 61).toNat)];first | (rw[aR];omega) | (show _=((_+1:Nat):Int);omega) | omega
  rw[G30.i 62];refine kg r62 fun q31 g31 N31 X31 Y31 h31=>?_;have G31:ai 131 J q31:=G30.tr g31;have N31:q31.i 352=((aj (J.i 62).toNat).length:Int):=N31;have h31:bM (q31.h 350) _ (.slice (ar (q31.i 350) (q31.i 351)) (((aj (J.i 62).toNat).length:Int)).toNat (q31.i 353).toNat) (aj (J.i 62).toNat):=h31;have b31:(aj (J.i 62).toNat).length<=10:=iW (z:=(J.i 62).toNat) ah;rw[<-g31.h 348,<-g31.i 348,<-g31.i 349]at h30;rw[<-g31.i 311,<-g31.i 322,<-g31.i 328,<-g31.i 334,<-g31.i 340,<-g31.i 346]at L30;rw[L30,N31];refine jY h30 X31 Y31 (zg h31 rfl) ah ah fun q32 g32 A32 C32 h32=>?_;have G32:ai 131 J q32:=G31.tr g32;have h32:bM (q32.h 354) _ (.slice (ar (q32.i 354) 0) (((aZ (aB J 0) h.t.length++h.t.flatten++aj (J.i 57).toNat++aj (J.i 58).toNat++aj (J.i 59).toNat++aj (J.i 60).toNat++aj (J.i 61).toNat++aj (J.i 62).toNat).length:Int)).toNat (q32.i 355).toNat) (aZ (aB J 0) h.t.length++h.t.flatten++aj (J.i 57).toNat++aj (J.i 58).toNat++aj (J.i 59).toNat++aj (J.i 60).toNat++aj (J.i 61).toNat++aj (J.i 62).toNat):=h32;have b32x:(aZ (aB J 0) h.t.length++h.t.flatten++aj (J.i 57).toNat++aj (J.i 58).toNat++aj (J.i 59).toNat++aj (J.i 60).toNat++aj (J.i 61).toNat++aj (J.i 62).toNat).length<=287:=by rw[aac];exact aaR b30x b31
  have L32:q32.i 311+q32.i 322+q32.i 328+q32.i 334+q32.i 340+q32.i 346+q32.i 352=((aZ (aB J 0) h.t.length++h.t.flatten++aj (J.i 57).toNat++aj (J.i 58).toNat++aj (J.i 59).toNat++aj (J.i 60).toNat++aj (J.i 61).toNat++aj (J.i 62).toNat).length:Int):=by rw[g32.i 311,g32.i 322,g32.i 328,g32.i 334,g32.i 340,g32.i 346,g32.i 352,L30,N31,aac (bs:=aj (J.i 62).toNat)];first | (rw[aR];omega) | (show _=((_+1:Nat):Int);omega) | omega
  rw[L32];refine uh (b2:=ba (aB J 0) 60 32) h32 (by rw[<-cw G32.mono];exact SB q32) (aR _ _ _).symm ah (by rw[aR];omega) fun q33 g33 A33 C33 h33=>?_;have G33:ai 131 J q33:=G32.tr g33;have h33:bM (q33.h 356) _ (.slice (ar (q33.i 356) 0) (((aZ (aB J 0) h.t.length++h.t.flatten++aj (J.i 57).toNat++aj (J.i 58).toNat++aj (J.i 59).toNat++aj (J.i 60).toNat++aj (J.i 61).toNat++aj (J.i 62).toNat++ba (aB J 0) 60 32).length:Int)).toNat (q33.i 357).toNat) (aZ (aB J 0) h.t.length++h.t.flatten++aj (J.i 57).toNat++aj (J.i 58).toNat++aj (J.i 59).toNat++aj (J.i 60).toNat++aj (J.i 61).toNat++aj (J.i 62).toNat++ba (aB J 0) 60 32):=h33;have b33x:(aZ (aB J 0) h.t.length++h.t.flatten++aj (J.i 57).toNat++aj (J.i 58).toNat++aj (J.i 59).toNat++aj (J.i 60).toNat++aj (J.i 61).toNat++aj (J.i 62).toNat++ba (aB J 0) 60 32).length<=319:=by rw[aac];exact aaR b32x (acQ (aR _ _ _))
  have L33:q33.i 311+q33.i 322+q33.i 328+q33.i 334+q33.i 340+q33.i 346+q33.i 352+32=((aZ (aB J 0) h.t.length++h.t.flatten++aj (J.i 57).toNat++aj (J.i 58).toNat++aj (J.i 59).toNat++aj (J.i 60).toNat++aj (J.i 61).toNat++aj (J.i 62).toNat++ba (aB J 0) 60 32).length:Int):=by rw[g33.i 311,g33.i 322,g33.i 328,g33.i 334,g33.i 340,g33.i 346,g33.i 352,L32,aac (bs:=ba (aB J 0) 60 32)];first | (rw[aR];omega) | (show _=((_+1:Nat):Int);omega) | omega
  rw[G33.i 95];refine kg (u64_in _) fun q34 g34 N34 X34 Y34 h34=>?_;have G34:ai 131 J q34:=G33.tr g34;have N34:q34.i 360=((aj (br (J.i 95))).length:Int):=N34;have h34:bM (q34.h 358) _ (.slice (ar (q34.i 358) (q34.i 359)) (((aj (br (J.i 95))).length:Int)).toNat (q34.i 361).toNat) (aj (br (J.i 95))):=h34;have b34:(aj (br (J.i 95))).length<=10:=iW (kG (J.i 95));rw[<-g34.h 356,<-g34.i 356,<-g34.i 357]at h33;rw[<-g34.i 311,<-g34.i 322,<-g34.i 328,<-g34.i 334,<-g34.i 340,<-g34.i 346,<-g34.i 352]at L33;rw[L33,N34];refine jY h33 X34 Y34 (zg h34 rfl) ah ah fun q35 g35 A35 C35 h35=>?_;have G35:ai 131 J q35:=G34.tr g35;have h35:bM (q35.h 362) _ (.slice (ar (q35.i 362) 0) (((aZ (aB J 0) h.t.length++h.t.flatten++aj (J.i 57).toNat++aj (J.i 58).toNat++aj (J.i 59).toNat++aj (J.i 60).toNat++aj (J.i 61).toNat++aj (J.i 62).toNat++ba (aB J 0) 60 32++aj (br (J.i 95))).length:Int)).toNat (q35.i 363).toNat) (aZ (aB J 0) h.t.length++h.t.flatten++aj (J.i 57).toNat++aj (J.i 58).toNat++aj (J.i 59).toNat++aj (J.i 60).toNat++aj (J.i 61).toNat++aj (J.i 62).toNat++ba (aB J 0) 60 32++aj (br (J.i 95))):=h35;have b35x:(aZ (aB J 0) h.t.length++h.t.flatten++aj (J.i 57).toNat++aj (J.i 58).toNat++aj (J.i 59).toNat++aj (J.i 60).toNat++aj (J.i 61).toNat++aj (J.i 62).toNat++ba (aB J 0) 60 32++aj (br (J.i 95))).length<=329:=by rw[aac];exact aaR b33x b34
  have L35:q35.i 311+q35.i 322+q35.i 328+q35.i 334+q35.i 340+q35.i 346+q35.i 352+32+q35.i 360=((aZ (aB J 0) h.t.length++h.t.flatten++aj (J.i 57).toNat++aj (J.i 58).toNat++aj (J.i 59).toNat++aj (J.i 60).toNat++aj (J.i 61).toNat++aj (J.i 62).toNat++ba (aB J 0) 60 32++aj (br (J.i 95))).length:Int):=by rw[g35.i 311,g35.i 322,g35.i 328,g35.i 334,g35.i 340,g35.i 346,g35.i 352,g35.i 360,L33,N34,aac (bs:=aj (br (J.i 95)))];first | (rw[aR];omega) | (show _=((_+1:Nat):Int);omega) | omega
  refine fun _=>⟨[],[2],rfl,rfl,⟨(bh fun k=>[q35.i 362,0,q35.i 311+q35.i 322+q35.i 328+q35.i 334+q35.i 340+q35.i 346+q35.i 352+32+q35.i 360,q35.i 363].getD k 0),rfl,⟨A35,aar _,by show 0<=q35.i 311+q35.i 322+q35.i 328+q35.i 334+q35.i 340+q35.i 346+q35.i 352+32+q35.i 360;omega,C35⟩,zzT⟩,_,R,h,rfl,rfl,hx,?_⟩;show bM (cu [q35.h 362]) _ (.slice (ar (q35.i 362) 0) (q35.i 311+q35.i 322+q35.i 328+q35.i 334+q35.i 340+q35.i 346+q35.i 352+32+q35.i 360).toNat (q35.i 363).toNat) _;rw[aL,L35,DL hx];exact h35
def LS (h:Hd):List Int:=m8 h++ba h.c 93 32
open Classical in
noncomputable def bD (h:Hd):List Int:=if h.Form then LS h else []
noncomputable def fJ (f:FuncId):Sx.Spec where
 fn:=f
 own:=[]
 rd:=[10053]
 res:=[.one .sl]
 pre:=fun xs Hs Rs=>∃ row R h,xs=[.agg row.toArray]/\Rs=[R]/\bS R row h
 post:=fun xs Hs Rs v Hs' F=>∃ row R h,xs=[.agg row.toArray]/\Rs=[R]/\bS R row h/\bM F 5 v (bD h)
noncomputable def PQ:List Sx.Spec:=[hZ 117,coreS 177,hZ 65,coreS 108]
def MS:∀ t∈PQ,t.OK Tryz.prog:=av qt <| av Kj <| av uP <| av K4 <| bN
def MX:PQ[0]?=some (hZ 117):=rfl
def GD:PQ[1]?=some (coreS 177):=rfl
def yu:PQ[2]?=some (hZ 65):=rfl
def SR:PQ[3]?=some (coreS 108):=rfl
def ud (f:FuncId):(hZ f).res=[.one .bool]:=rfl
def Vo (f:FuncId):(coreS f).res=[.one .sl]:=rfl
noncomputable def DQ:aF Tryz.prog PQ 146 where
 Λ:=aD
 args:=(bW 0 [.agg bU]).map .sv
 mem:=[.ro 130 [.var 53] false]
 nv:=131
noncomputable def EV:aF Tryz.prog PQ 71 where
 Λ:=aD
 args:=(bW 0 [.agg bU]).map .sv
 mem:=[.ro 130 [.var 53] false]
 nv:=131
open Classical in
def ng {K:List Hl} (hx:bS R row h) (hp:(hZ f).post [.agg row.toArray] Hs [R] v K F):v=.bool (decide h.Form):=by
 obtain⟨row',R',h',e1,e2,hx',hv⟩:=hp;simp only[aag,Value.agg.injEq,aau]at e1 e2;have e1:=aaO e1;subst e1 e2;rw[hx.uniq hx'];exact hv
def DK {K:List Hl} (hx:bS R row h) (hp:(coreS f).post [.agg row.toArray] Hs [R] v K F):bM F 5 v (m8 h):=by
 obtain⟨row',R',h',e1,e2,hx',hv⟩:=hp;simp only[aag,Value.agg.injEq,aau]at e1 e2;have e1:=aaO e1;subst e1 e2;rw[hx.uniq hx'];exact hv
def nT {K:List Hl} (hx:bS R row h) (hp:(fJ f).post [.agg row.toArray] Hs [R] v K F):bM F 5 v (bD h):=by
 obtain⟨row',R',h',e1,e2,hx',hv⟩:=hp;simp only[aag,Value.agg.injEq,aau]at e1 e2;have e1:=aaO e1;subst e1 e2;rw[hx.uniq hx'];exact hv
def sX (hx:bS R row h) (h8:h.t.length<=8):(m8 h).length<=360:=by
 have lz:∀ k,cI h.c k<18446744073709551616->(aj (cI h.c k).toNat).length<=10:=fun k hk=>iW ah;have hu:∀ {k:Nat},de[k]?=some (.int .u64)->k≠53->cI h.c k<18446744073709551616:=fun {k} hk h53=>by
  rw[hx.I h53];exact(hx.rng _ (aae (xu hx.ok hk))).2
 have l16:=Cc (T:=h.t) (fun t ht=>(hx.byte.2 t ht).1);have a1:=iW (kG (cI h.c 0));have a2:=lz 1 (hu rfl aA);have a3:=iW (kG (cI h.c 34));have a4:=lz 36 (hu rfl aA);have a5:=iW (z:=h.t.length) ah;have a6:=lz 54 (hu rfl aA);have a7:=lz 55 (hu rfl aA);have a8:=lz 56 (hu rfl aA);have a9:=lz 57 (hu rfl aA);have b1:=lz 58 (hu rfl aA);have b2:=lz 59 (hu rfl aA);have b3:=iW (kG (cI h.c 92));have b4:(fm (cB h.c 35)).length=1:=rfl;unfold m8 ri aZ;simp only[aac,aR];omega
open Classical in
def DP:(fJ 146).OK Tryz.prog:=by
 refine Spec.aV (Γ:=PQ) MS ?_;rintro xs Hs Rs hl1 hl2 ⟨row,R,h,rfl,rfl,hx⟩;have e0:Hs=[]:=aad.1 hl1;subst e0;obtain⟨J,rfl,w130,hnw,n54,n55,n56⟩:=me (R:=R) hx.ok;refine⟨DQ,J,fun _ _=>True,fun _ _=>0,rfl,⟨?_,?_,?_,?_⟩,(fun _ h=>nomatch h),?_⟩
 .intro r hr ho;simp [DQ]at hr;subst hr;cases ho
 .intro r hr ho;simp [DQ]at hr;subst hr;exact⟨R,aC,by show(J.h 130).le R;rw[w130];exact Hl.le_refl _⟩
 .simp [DQ]
 .intro r hr;simp [DQ]at hr;subst hr;trivial
 .refine aF.read [bU] [] [] ?_;simp only[go_sem,Nat.reduceAdd,MX,ud,GD,Vo,Uu,TH];intro q1 g1 p1;have r1:(ak 0 bU).map (CV.ev q1)=aB J 0:=cw g1.mono;rw[r1,g1.h 130,w130];refine⟨⟨_,R,h,rfl,rfl,hx⟩,fun q2 g2 ⟨F2,hp2,_⟩=>?_⟩;have hv:=ng hx hp2;have hv:q2.b 132=decide h.Form:=by simpa [bF] using hv
  have G2:ai 131 J q2:=g1.mono.tr g2;have r2:(ak 0 bU).map (CV.ev q2)=aB J 0:=cw G2.mono;rw[hv,aaf,r2,G2.h 130,w130];refine⟨fun hf _=>⟨[],[],rfl,rfl,⟨(bh fun k=>if k=0 then -1 else 0),rfl,⟨aar _,aar _,aar _,aar _⟩,zzT⟩,_,R,h,rfl,rfl,hx,?_⟩,fun hf=>?_⟩
  .unfold bD;rw[aal hf];exact tD _ _
  have h8:=hf.2.1;have hcl:=sX hx h8;refine⟨⟨_,R,h,rfl,rfl,hx,h8⟩,fun q3 g3 ⟨F3,hp3,hF3,hn3⟩=>?_⟩;have hO:=DK hx hp3;rw[<-hF3 zzT]at hO;have hn3:-1<=q3.i 133/\0<=q3.i 134/\0<=q3.i 135/\0<=q3.i 136:=hn3.1;have e:(q3.i 135).toNat=(m8 h).length:=by
   obtain⟨x,y,c,e,_⟩:=hO.rd;simp only[Value.slice.injEq]at e;exact e.2.1
  have e2:q3.i 135=((m8 h).length:Int):=ah;rw[e2]at hO ⊢;have G3:ai 131 J q3:=G2.tr g3;have hcode:(ak 96 (List.replicate 32 (Ck.int .u8))).map (CV.ev q3)=aS (ba h.c 93 32):=by
   rw[Iy,cw G3.mono]
   congr 1
   exact abf fun j hj=>(hx.I ah).symm
  refine uh (b2:=ba h.c 93 32) hO hcode (aR _ _ _).symm ah (by rw[aR];omega) fun q4 g4 A4 C4 h4=>?_;have hl:q4.i 135+32=((LS h).length:Int):=by
   rw[g4.i 135,e2];unfold LS;rw[aac,aR];omega
  refine fun _=>⟨[],[2],rfl,rfl,⟨(bh fun k=>[q4.i 137,0,q4.i 135+32,q4.i 138].getD k 0),rfl,⟨A4,aar _,by show 0<=q4.i 135+32;omega,C4⟩,zzT⟩,_,R,h,rfl,rfl,hx,?_⟩;show bM (cu [q4.h 137]) _ (.slice (ar (q4.i 137) 0) (q4.i 135+32).toNat (q4.i 138).toNat) _;unfold bD;rw[aL,aay hf,hl];exact h4
open Classical in
def zn:(fJ 71).OK Tryz.prog:=by
 refine Spec.aV (Γ:=PQ) MS ?_;rintro xs Hs Rs hl1 hl2 ⟨row,R,h,rfl,rfl,hx⟩;have e0:Hs=[]:=aad.1 hl1;subst e0;obtain⟨J,rfl,w130,hnw,n54,n55,n56⟩:=me (R:=R) hx.ok;refine⟨EV,J,fun _ _=>True,fun _ _=>0,rfl,⟨?_,?_,?_,?_⟩,(fun _ h=>nomatch h),?_⟩
 .intro r hr ho;simp [EV]at hr;subst hr;cases ho
 .intro r hr ho;simp [EV]at hr;subst hr;exact⟨R,aC,by show(J.h 130).le R;rw[w130];exact Hl.le_refl _⟩
 .simp [EV]
 .intro r hr;simp [EV]at hr;subst hr;trivial
 .refine aF.read [bU] [] [] ?_;simp only[go_sem,Nat.reduceAdd,yu,ud,SR,Vo,Uu,TH];intro q1 g1 p1;have r1:(ak 0 bU).map (CV.ev q1)=aB J 0:=cw g1.mono;rw[r1,g1.h 130,w130];refine⟨⟨_,R,h,rfl,rfl,hx⟩,fun q2 g2 ⟨F2,hp2,_⟩=>?_⟩;have hv:=ng hx hp2;have hv:q2.b 132=decide h.Form:=by simpa [bF] using hv
  have G2:ai 131 J q2:=g1.mono.tr g2;have r2:(ak 0 bU).map (CV.ev q2)=aB J 0:=cw G2.mono;rw[hv,aaf,r2,G2.h 130,w130];refine⟨fun hf _=>⟨[],[],rfl,rfl,⟨(bh fun k=>if k=0 then -1 else 0),rfl,⟨aar _,aar _,aar _,aar _⟩,zzT⟩,_,R,h,rfl,rfl,hx,?_⟩,fun hf=>?_⟩
  .unfold bD;rw[aal hf];exact tD _ _
  have h8:=hf.2.1;have hcl:=sX hx h8;refine⟨⟨_,R,h,rfl,rfl,hx,h8⟩,fun q3 g3 ⟨F3,hp3,hF3,hn3⟩=>?_⟩;have hO:=DK hx hp3;rw[<-hF3 zzT]at hO;have hn3:-1<=q3.i 133/\0<=q3.i 134/\0<=q3.i 135/\0<=q3.i 136:=hn3.1;have e:(q3.i 135).toNat=(m8 h).length:=by
   obtain⟨x,y,c,e,_⟩:=hO.rd;simp only[Value.slice.injEq]at e;exact e.2.1
  have e2:q3.i 135=((m8 h).length:Int):=ah;rw[e2]at hO ⊢;have G3:ai 131 J q3:=G2.tr g3;have hcode:(ak 96 (List.replicate 32 (Ck.int .u8))).map (CV.ev q3)=aS (ba h.c 93 32):=by
   rw[Iy,cw G3.mono]
   congr 1
   exact abf fun j hj=>(hx.I ah).symm
  refine uh (b2:=ba h.c 93 32) hO hcode (aR _ _ _).symm ah (by rw[aR];omega) fun q4 g4 A4 C4 h4=>?_;have hl:q4.i 135+32=((LS h).length:Int):=by
   rw[g4.i 135,e2];unfold LS;rw[aac,aR];omega
  refine fun _=>⟨[],[2],rfl,rfl,⟨(bh fun k=>[q4.i 137,0,q4.i 135+32,q4.i 138].getD k 0),rfl,⟨A4,aar _,by show 0<=q4.i 135+32;omega,C4⟩,zzT⟩,_,R,h,rfl,rfl,hx,?_⟩;show bM (cu [q4.h 137]) _ (.slice (ar (q4.i 137) 0) (q4.i 135+32).toNat (q4.i 138).toNat) _;unfold bD;rw[aL,aay hf,hl];exact h4
def xc:List Ck:=bU++[Ck.sl]
def kS:∀ {row:List Value} {ks:List Kd} {u:Value} {k:Kd},bf row ks->bw (some u) k=true->bf (row++[u]) (ks++[k])
 | [],[],_,_,_,h=>⟨h,zzT⟩
 | v::l,k::ks,_,_,h,h'=>⟨h.1,kS h.2 h'⟩
def fj:∀ {row:List Value} {ks:List Kd},bf row ks->row.length=ks.length
 | [],[],_=>rfl
 | v::l,k::ks,h=>by rw[aaL,aaL,fj h.2]
set_option maxRecDepth 20000 in
def IB (h:bf row de) (hy:0<=y):∃ q:Env,row=aB q 0/\(.slice (ar x y) n c:Value)=(CV.sl (.var 128) (.var 129) (.var 130) (.var 131)).ev q/\q.h 132=R/\q.h 133=G/\bu 0 bU q/\0<=q.i 129/\0<=q.i 130/\0<=q.i 131:=by
 have hk:bf (row++[.slice (ar x y) n c]) (xc.map j8):=by
  unfold xc;rw[aaK];exact kS h rfl
 obtain⟨q,_,hn,e⟩:=cU xc 0 _ (bh fun _=>0) hk;have e:aB q 0++[(CV.sl (.var 128) (.var 129) (.var 130) (.var 131)).ev q]=row++[.slice (ar x y) n c]:=e;obtain⟨e1,e2⟩:=ade e rfl;have hs:∀ (a b:List Ck) (n:Nat),bu n (a++b) q->bu n a q/\bu (n+bc a) b q:=by
  intro a
  induction a with
  | nil=>intro b n h;exact⟨zzT,by simpa [bc] using h⟩
  | cons k a ih =>
   intro b n h;have:=ih b (n+k.len) h.2;rw[show n+k.len+bc a=n+bc (k::a)by simp [bc];omega]at this;exact⟨⟨h.1,this.1⟩,this.2⟩
 obtain⟨h1,h2⟩:=hs bU [Ck.sl] 0 hn;have h2:=h2.1;refine⟨⟨q.i,q.b,q.s,q.v,fun k=>if k=132 then R else if k=133 then G else Hl.none⟩,e1.symm,?_,rfl,rfl,h1,h2.2.1,h2.2.2.1,h2.2.2.2⟩;simp only[aag,aau]at e2;exact e2.symm
def fa (row:List Value) (bs:List Int):Bool:=decide ((bs.length:Int)=cI row 92/\gm bs=ba row 60 32)
def Db:Sx.Spec where
 fn:=145
 own:=[]
 rd:=[1000125,2000005]
 res:=[.one .bool]
 pre:=fun xs Hs Rs=>∃ row u bs R RG,xs=[.agg (row++[u]).toArray]/\Rs=[R,RG]/\bf row de/\fC R u bs/\aG bs/\bs.length<=900000/\uf RG 5
 post:=fun xs Hs Rs v Hs' F=>∀ row u bs R RG,xs=[.agg (row++[u]).toArray]->Rs=[R,RG]->fC R u bs->v=.bool (fa row bs)
def xw:Sx.Spec where
 fn:=67
 own:=[]
 rd:=[1000125,2000003]
 res:=[.one .bool]
 pre:=fun xs Hs Rs=>∃ row u bs R RG,xs=[.agg (row++[u]).toArray]/\Rs=[R,RG]/\bf row de/\fC R u bs/\aG bs/\bs.length<=900000/\uf RG 3
 post:=fun xs Hs Rs v Hs' F=>∀ row u bs R RG,xs=[.agg (row++[u]).toArray]->Rs=[R,RG]->fC R u bs->v=.bool (fa row bs)
def OX:aF Tryz.prog [vP] Db.fn where
 Λ:=aD
 args:=(bW 0 [.agg xc]).map .sv
 mem:=[.ro 132 [.var 128] true,.ro 133 [.lit 5] false]
 nv:=134
def JD:aF Tryz.prog [jS] xw.fn where
 Λ:=aD
 args:=(bW 0 [.agg xc]).map .sv
 mem:=[.ro 132 [.var 128] true,.ro 133 [.lit 3] false]
 nv:=134
def Zg:[vP][0]?=some vP:=rfl
def Wy:vP.res=[.agg (List.replicate 32 (Ck.int .u8))]:=rfl
def Zh:[jS][0]?=some jS:=rfl
def Wz:jS.res=[.agg (List.replicate 32 (Ck.int .u8))]:=rfl
def ig (q:Env) (n:Nat):List Int:=(List.range 32).map fun j=>q.i (n+j)
def Fl (q:Env):ba (aB q 0) 60 32=ig q 63:=rfl
def HG (q q':Env) (n m:Nat):ig q n=ig q' m↔(q.i (n+0)=q'.i (m+0)/\q.i (n+1)=q'.i (m+1)/\q.i (n+2)=q'.i (m+2)/\q.i (n+3)=q'.i (m+3)/\q.i (n+4)=q'.i (m+4)/\q.i (n+5)=q'.i (m+5)/\q.i (n+6)=q'.i (m+6)/\q.i (n+7)=q'.i (m+7)/\q.i (n+8)=q'.i (m+8)/\q.i (n+9)=q'.i (m+9)/\q.i (n+10)=q'.i (m+10)/\q.i (n+11)=q'.i (m+11)/\q.i (n+12)=q'.i (m+12)/\q.i (n+13)=q'.i (m+13)/\q.i (n+14)=q'.i (m+14)/\q.i (n+15)=q'.i (m+15)/\q.i (n+16)=q'.i (m+16)/\q.i (n+17)=q'.i (m+17)/\q.i (n+18)=q'.i (m+18)/\q.i (n+19)=q'.i (m+19)/\q.i (n+20)=q'.i (m+20)/\q.i (n+21)=q'.i (m+21)/\q.i (n+22)=q'.i (m+22)/\q.i (n+23)=q'.i (m+23)/\q.i (n+24)=q'.i (m+24)/\q.i (n+25)=q'.i (m+25)/\q.i (n+26)=q'.i (m+26)/\q.i (n+27)=q'.i (m+27)/\q.i (n+28)=q'.i (m+28)/\q.i (n+29)=q'.i (m+29)/\q.i (n+30)=q'.i (m+30)/\q.i (n+31)=q'.i (m+31)):=by
 have e:List.range 32=[0,1,2,3,4,5,6,7,8,9,10,11,12,13,14,15,16,17,18,19,20,21,22,23,24,25,26,27,28,29,30,31]:=rfl;unfold ig;rw[e];simp only[aax,aa8,aag,aau]
def CQ (g:ai k q q') (h:n+32<=k):ig q' n=ig q n:=by
 unfold ig;refine abf fun j hj=>g.i _ ?_;have:=aaP.1 hj;omega
def qp (hr:s.res=[.one .bool]) (he:aY q e=b) (h:∀ F,s.post xs [] Rs (.bool b) [] F):postOf s xs [] Rs q mem (.sv (.one (.bool e))):=by
 intro _;refine⟨[],[],rfl,rfl,⟨⟨fun _=>0,fun _=>b,fun _=>.empty,fun _=>.tuple #[],fun _=>Hl.none⟩,?_,?_⟩,?_⟩
 .rw[hr,<-he];rfl
 .rw[hr];exact⟨zzT,zzT⟩
 .have:=h (ue q mem []);rw[<-he]at this;exact this
def uS {T:TypeId} (hx:0<=x) (h:fC RA u bs):jG (Hl.one x.toNat (.cells #[u] T)) RA (.slice (ar x 0) 1 1) [bs]:=by
 refine⟨[u],x,0,1,rfl,aar _,rfl,fun j v hv=>⟨hx,?_⟩,fun j v r hv hr=>?_⟩
 .cases j with
  | zero=>simp only[aa7,aak]at hv;subst hv;simp [Hl.cell,Hl.one]
  | succ j=>simp at hv
 .cases j with
  | zero=>simp only[aa7,aak]at hv hr;subst hv hr;exact h
  | succ j=>simp at hv
def whP (xs:List Value) (Rs:List Hl) (v:Value):Prop:=∀ row u bs R RG,xs=[.agg (row++[u]).toArray]->Rs=[R,RG]->fC R u bs->v=.bool (fa row bs)
def Da (h:fC R u bs) (hb:b=fa row bs):whP [.agg (row++[u]).toArray] [R,RG] (.bool b):=by
 intro row' u' bs' R' RG' e1 e2 h';simp only[aag,aau,Value.agg.injEq,aaO]at e1 e2;have e1:row++[u]=row'++[u']:=aaQ Array.toList e1;obtain⟨rfl,e⟩:=ade e1 rfl;simp only[aag,aau]at e;obtain⟨rfl,rfl⟩:=e2;subst e;rw[hb,h.uniq h']
set_option maxRecDepth 20000 in
def HE:xw.OK Tryz.prog:=by
 refine Spec.aV (Γ:=[jS]) (fun t ht=>by rw[aam]at ht;subst ht;exact zD) ?_;rintro xs Hs Rs hl1 hl2 ⟨row,u,bs,R,RG,rfl,rfl,hr,hR,hb,hlen,hK⟩;have e0:Hs=[]:=aad.1 hl1;subst e0;obtain⟨x,y,c,rfl,hy,_⟩:=id hR;obtain⟨J,rfl,eu,w2,w3,hnw,n9,n0,n1⟩:=IB (R:=R) (G:=RG) (x:=x) (n:=bs.length) (c:=c) hr hy;refine⟨JD,J,fun _ _=>True,fun _ _=>0,?_,cD (by intro r hr;simp [JD]at hr;rcases hr with rfl | rfl<;>exact⟨_,_,_,rfl⟩) (by show [J.h 132,J.h 133]=_;rw[w2,w3]),(fun _ h=>nomatch h),?_⟩
 .rw[eu];rfl
 .refine aF.read [] [] [] ?_;simp only[go_sem,Nat.reduceAdd,Zh,Wz];intro q1 g1 p1;have eu':Value.slice (ar (J.i 128) (J.i 129)) (J.i 130).toNat (J.i 131).toNat=.slice (ar x y) bs.length c:=eu.symm;have e130:J.i 130=bs.length:=by
   simp only[Value.slice.injEq]at eu';have:=eu'.2.1;omega
  have h92:cI (aB J 0) 92=J.i 95:=rfl;rw[g1.i 128,g1.i 129,g1.i 130,g1.i 131,g1.i 95,g1.h 132,g1.h 133,eu',w2,w3];refine⟨n0,fun h1=>⟨⟨_,bs,R,RG,rfl,rfl,hR,hb,hlen,hK⟩,fun q2 g2 ⟨F,hp,_⟩=>?_⟩,fun h1=>?_⟩
  .have hp:=hp _ _ _ _ rfl rfl hR;have hs:ig q2 135=gm bs:=by
    have hp:Value.agg (aS (ig q2 135)).toArray=.agg (aS (gm bs)).toArray:=hp;exact jx (aaQ Array.toList (Value.agg.inj hp))
   have G:ai 134 J q2:=g1.tr g2;refine qp (b:=fa (aB J 0) bs) rfl ?_ fun F=>Da hR rfl;rw[ab5];unfold fa;rw[aaf,h92,Fl,<-hs,<-CQ G ah,HG,<-h1,e130];simp only[qX,qU,jv,jZ,iR,qW,my,oK,lZ,ga,mo,mz,qV,mv,mq,jw,mw,aq,au,bQ,dj,cx,bJ,fg,fL,fM,fN,je,gb,iv,fR,aaZ,Nat.reduceAdd]
  .refine qp (b:=fa (aB J 0) bs) rfl ?_ fun F=>Da hR rfl;unfold fa;rw[h92,<-e130,cq];simp [h1]
set_option maxRecDepth 20000 in
def LJ:Db.OK Tryz.prog:=by
 refine Spec.aV (Γ:=[vP]) (fun t ht=>by rw[aam]at ht;subst ht;exact Ed) ?_;rintro xs Hs Rs hl1 hl2 ⟨row,u,bs,R,RG,rfl,rfl,hr,hR,hb,hlen,hK⟩;have e0:Hs=[]:=aad.1 hl1;subst e0;obtain⟨x,y,c,rfl,hy,_⟩:=id hR;obtain⟨J,rfl,eu,w2,w3,hnw,n9,n0,n1⟩:=IB (R:=R) (G:=RG) (x:=x) (n:=bs.length) (c:=c) hr hy;refine⟨OX,J,fun _ _=>True,fun _ _=>0,?_,cD (by intro r hr;simp [OX]at hr;rcases hr with rfl | rfl<;>exact⟨_,_,_,rfl⟩) (by show [J.h 132,J.h 133]=_;rw[w2,w3]),(fun _ h=>nomatch h),?_⟩
 .rw[eu];rfl
 .refine aF.read [] [] [] ?_;simp only[go_sem,Nat.reduceAdd,Zg,Wy];intro q1 g1 p1;have eu':Value.slice (ar (J.i 128) (J.i 129)) (J.i 130).toNat (J.i 131).toNat=.slice (ar x y) bs.length c:=eu.symm;have e130:J.i 130=bs.length:=by
   simp only[Value.slice.injEq]at eu';have:=eu'.2.1;omega
  have h92:cI (aB J 0) 92=J.i 95:=rfl;refine⟨by rw[g1.i 130];exact n0,fun h1 q2 g2 p2=>?_,fun h1=>?_⟩
  .have G2:ai 134 J q2:=g1.tr g2;rw[g1.i 130,g1.i 95]at h1;rw[G2.i 128,G2.i 129,G2.i 130,G2.i 131,G2.h 132,G2.h 133,eu',w2,w3];have hRB:=uS (T:=46) p2 hR;refine⟨⟨q2.i 135,0,1,_,R,RG,bs,rfl,rfl,hRB,aar _,hb,hlen,hK⟩,fun q3 g3 ⟨F,hp,_⟩=>?_⟩;have hp:=hp _ _ _ _ _ rfl rfl hRB;have hs:ig q3 136=gm bs:=by
    have hp:Value.agg (aS (ig q3 136)).toArray=.agg (aS (gm bs)).toArray:=hp;exact jx (aaQ Array.toList (Value.agg.inj hp))
   have G:ai 134 J q3:=G2.tr g3;refine qp (b:=fa (aB J 0) bs) rfl ?_ fun F=>Da hR rfl;rw[ab5];unfold fa;rw[aaf,h92,Fl,<-hs,<-CQ G ah,HG,<-h1,e130];simp only[qX,qU,jv,jZ,iR,qW,my,oK,lZ,ga,mo,mz,qV,mv,mq,jw,mw,aq,au,bQ,dj,cx,bJ,fg,fL,fM,fN,je,gb,iv,fR,aaZ,Nat.reduceAdd]
  .rw[g1.i 130,g1.i 95]at h1;refine qp (b:=fa (aB J 0) bs) rfl ?_ fun F=>Da hR rfl;unfold fa;rw[h92,<-e130,cq];simp [h1]
def H7:Sx.Spec where
 fn:=180
 own:=[]
 rd:=[100]
 res:=[.one .sl]
 pre:=fun xs Hs Rs=>∃ (v:Value) (T:List (List Int)) (R:Hl),xs=[v]/\Rs=[R]/\aJ R v jF (T.map aS)/\(∀ t∈T,t.length=16)/\T.length<=1000000
 post:=fun xs Hs Rs u Hs' F=>∃ (v:Value) (T:List (List Int)) (R:Hl),xs=[v]/\Rs=[R]/\aJ R v jF (T.map aS)/\aJ F u jF (T.map aS)
def OR:aF Tryz.prog [] H7.fn where
 Λ:=aD
 args:=[.sv (.one (.sl (.var 0) (.var 1) (.var 2) (.var 3)))]
 mem:=[.ro 4 [.var 0] false]
 nv:=5
def Ue (F:Hl) (e:TypeId) (size:Nat) {a:Int} (h:0<=a) (hF:F=Hl.one a.toNat (.cells #[] e (0,0))):aK F e size (.slice (ar a 0) (Int.toNat 0) (Int.toNat 0)) (Int.toNat 0) []:=by
 subst hF;refine⟨aC,Or.inr ⟨a.toNat,0,#[],by rw[al h];rfl,Hl.aN _ _,ah,aA,aC,aC⟩⟩
def CZ:∀ (n:Nat) (l:List Int),l.length=n->bf (aS l) (List.replicate n (Kd.int .u8))
 | 0,[],_=>trivial
 | n+1,z::l,h=>⟨by simp [bw],CZ n l (by simpa using h)⟩
def Uf {x y:Nat} (h16:∀ t∈T,t.length=16) (h:∀ (i:Nat) row,(T.map aS)[i]?=some row->bf row jF/\∀ j u,row[j]?=some u->R.cell x (y+i*jF.length+j)=some u) :
 bR R x y (T.length*16)=(T.map aS).flatten/\∀ j,j<T.length*16->∃ v,R.cell x (y+j)=some v/\v.oneCell'=true:=by
 have lt16:jF.length=16:=rfl;have len:∀ r∈T.map aS,r.length=16:=fun r hr=>by
  obtain⟨t,ht,rfl⟩:=aaW.1 hr;rw[bY];exact h16 t ht
 have key:∀ j,j<T.length*16->∃ z,R.cell x (y+j)=some (.int .u8 z)/\(T.map aS).flatten[j]?=some (.int .u8 z):=by
  intro j hj;have hi:j/16<T.length:=ah;have e1:T[j/16]?=some T[j/16]:=aab hi;have hl:=h16 _ (abB hi);have e2:T[j/16][j%16]?=some (T[j/16][j%16]'ah):=aab ah;have er:(T.map aS)[j/16]?=some (aS T[j/16]):=by rw[aao,e1];rfl
  have eu:(aS T[j/16])[j%16]?=some (.int .u8 (T[j/16][j%16]'ah)):=by rw[fD,e2];rfl
  refine⟨T[j/16][j%16]'ah,?_,?_⟩
  rotate_left
  .have:=yl (n:=16) len er eu;rw[show j/16*16+j%16=j by omega]at this;exact this
  .have:=(h _ _ er).2 _ _ eu;rw[lt16,show y+j/16*16+j%16=y+j by omega]at this;exact this
 refine⟨?_,fun j hj=>?_⟩
 .unfold bR;apply aaN;intro j;rw[aao];rcases aa5 j (T.length*16)with hj | hj
  .obtain⟨z,e1,e2⟩:=key j hj;rw[aaJ hj,aaT,e1,e2];rfl
  .have hfl:(T.map aS).flatten.length=T.length*16:=by
    have:∀ (rows:List (List Value)),(∀ r∈rows,r.length=16)->rows.flatten.length=rows.length*16:=by
     intro rows
     induction rows with
     | nil=>intro _;rfl
     | cons r rows ih =>
      intro hl;rw[aby,aac,ih fun r hr=>hl r (aaq _ hr),hl r (aaI ..),aaL];omega
    rw[this _ len,aaw]
   rw[aas (by simpa using hj),aas ah];rfl
 .obtain⟨z,e1,_⟩:=key j hj;exact⟨_,e1,rfl⟩
def Q2:H7.OK Tryz.prog:=by
 refine Spec.aV (Γ:=[]) (fun _ h=>by cases h) ?_;rintro xs Hs Rs hl1 hl2 ⟨v,T,R,rfl,rfl,hRd,h16,hT⟩;have e0:Hs=[]:=aad.1 hl1;subst e0;obtain⟨x,y,c,rfl,hy,hrows⟩:=id hRd;have hlm:(T.map aS).length=T.length:=aaw ..;refine⟨OR,aQ [x,y,(T.map aS).length,c] false [Hl.none,Hl.none,Hl.none,Hl.none,R],fun _ _=>True,fun _ _=>0,?_,⟨?_,?_,?_,?_⟩,(fun _ h=>nomatch h),?_⟩
 .show [Value.slice (ar x y) (((T.map aS).length:Int)).toNat ((c:Int)).toNat]=_;rw[aaa,aaa]
 .intro r hr ho;simp [OR]at hr;subst hr;cases ho
 .intro r hr ho;simp [OR]at hr;subst hr;exact⟨R,aC,Hl.le_refl _⟩
 .simp [OR]
 .intro r hr;simp [OR]at hr;subst hr;trivial
 .refine aF.read [] [] [] ?_;generalize hρ:aQ [x,y,(T.map aS).length,c] false [Hl.none,Hl.none,Hl.none,Hl.none,R]=J;have v0:J.i 0=x:=by rw[<-hρ];rfl
  have v1:J.i 1=y:=by rw[<-hρ];rfl
  have v2:J.i 2=(T.map aS).length:=by rw[<-hρ];rfl
  have w4:J.h 4=R:=by rw[<-hρ];rfl
  simp only[go_sem,Nat.reduceAdd];rw[v0];refine⟨fun hx=>?_,fun hx q1 g1 p1=>?_⟩
  .have hT0:T=[]:=by
    rcases hrows with h | ⟨h,_⟩
    .exact abv.1 h
    .omega
   intro _;refine⟨[],[],rfl,rfl,⟨(bh fun k=>if k=0 then -1 else 0),rfl,?_,zzT⟩,_,T,R,rfl,rfl,hRd,?_⟩
   .exact⟨aA,aA,aA,aA⟩
   .subst hT0;exact⟨-1,0,0,rfl,aar _,Or.inl rfl⟩
  .have hnil:=Ue (Hl.one (q1.i 5).toNat (.cells #[] 61 (0,0))) 61 16 p1 rfl;rw[g1.i 0,v0,g1.i 1,v1,g1.i 2,v2,g1.h 4,w4];have hRd':=hRd;rw[hlm]at hRd';rw[aaa,hlm];have sA:bR R x.toNat y.toNat (T.length*16)=(T.map aS).flatten/\((0<=x/\0<=y/\(0:Int)<=T.length/\∀ j,j<T.length*16->∃ v,R.cell x.toNat (y.toNat+j)=some v/\v.oneCell'=true)\/(T.length:Int)=0):=by
    rcases hrows with h | ⟨hx0,h⟩
    .have hT0:T=[]:=abv.1 h;subst hT0;exact⟨rfl,Or.inr rfl⟩
    .obtain⟨s1,s2⟩:=Uf h16 h;exact⟨s1,Or.inl ⟨hx0,hy,ah,s2⟩⟩
   refine⟨⟨⟨[],hnil⟩,aar _,sA.2,by unfold maxLen;omega,ah⟩,fun q2 g2 ⟨a1,a2,a3,_⟩=>?_⟩;have hx2:=a3 _ hnil;rw[sA.1,abE,show Int.toNat 0+T.length=T.length by omega]at hx2;intro _;have P2:ai 5 J q2:=g1.tr g2;have hO:sE (q2.h 6) 61 jF (.slice (ar (q2.i 6) 0) T.length (q2.i 7).toNat) (T.map aS):=by
    refine⟨fun row hr=>?_,?_⟩
    .obtain⟨t,ht,rfl⟩:=aaW.1 hr;exact CZ 16 t (h16 t ht)
    .rw[hlm];exact hx2
   have er:TV.ev q2 (.sv (.one (.sl (.var 6) (.lit 0) (.var 2) (.var 7))))=.slice (ar (q2.i 6) 0) T.length (q2.i 7).toNat:=by
    show Value.slice (ar (q2.i 6) 0) (q2.i 2).toNat (q2.i 7).toNat=_;rw[P2.i 2,v2,hlm,aaa]
   refine⟨[],[1],rfl,rfl,⟨(bh fun k=>match k with | 0=>q2.i 6 | 1=>0 | 2=>T.length | _=>q2.i 7),?_,?_,zzT⟩,_,T,R,rfl,rfl,hRd',?_⟩
   .rw[er];show _=Value.slice (ar (q2.i 6) 0) ((T.length:Int)).toNat (q2.i 7).toNat;rw[aaa]
   .exact⟨a1,aar 0,by show(0:Int)<=T.length;omega,a2⟩
   .rw[er];show aJ (cu [q2.h 6]) _ _ _;rw[aL];exact hO.rd
def Bm:∀ {l:List Value} {ks:List Kd} {v:Value} {j:Nat} {k:Kd},bf l ks->ks[j]?=some k->bw (some v) k=true->bf (l.set j v) ks
 | [],_,_,_,_,h,_,_=>h
 | _::_,[],_,_,_,h,_,_=>h.elim
 | a::l,k0::ks,v,0,k,h,hk,hv=>by
  simp only[aa7,aak]at hk;subst hk;exact⟨hv,h.2⟩
 | a::l,k0::ks,v,j+1,k,h,hk,hv=>⟨h.1,Bm h.2 (by simpa using hk) hv⟩
def bS.clone {A B:Hl} (x:bS A row h) (hu:aJ B u jF (h.t.map aS)):bS B (row.set 53 u) h:=by
 have hl:=jd x.ok;have h125:de.length=125:=rfl;refine⟨Bm x.ok (k:=.slice) rfl ?_,?_,?_,?_,x.byte⟩
 .obtain⟨a,y,c,e,_⟩:=hu;rw[e];rfl
 .intro v hv;rcases ab1 hv with h | h
  .exact x.rng v h
  .obtain⟨a,y,c,e,_⟩:=hu;rw[h,e];trivial
 .rw[List.set_set];exact x.core
 .rw[aap,abm ah];exact hu
def Kf:Sx.Spec where
 fn:=150
 own:=[]
 rd:=[10053]
 res:=[.agg bU]
 pre:=fun xs Hs Rs=>∃ row R h,xs=[.agg row.toArray]/\Rs=[R]/\bS R row h
 post:=fun xs Hs Rs v Hs' F=>∀ row R h,xs=[.agg row.toArray]->Rs=[R]->bS R row h->∃ row',v=.agg row'.toArray/\bS F row' h
def UU:aF Tryz.prog [H7] Kf.fn where
 Λ:=aD
 args:=(bW 0 [.agg bU]).map .sv
 mem:=[.ro 130 [.var 53] true]
 nv:=131
def XM:[H7][0]?=some H7:=rfl
def XN:H7.res=[.one .sl]:=rfl
def Sy:(aT 0 [Cp.one .sl]≠[])=True:=by simp [aT,Cp.roots,Ck.root]
set_option maxRecDepth 20000 in
def MZ (q:Env) (n:Nat):(TV.sv (.agg (ak 0 ([Ck.int .i64,Ck.int .u64]++List.replicate 32 (Ck.int .u8)++[Ck.int .i64,Ck.bool,Ck.int .u64]++List.replicate 16 (Ck.int .u8))++[.sl (.var n) (.var (n+1)) (.var (n+2)) (.var (n+3))]++ak 57 (List.replicate 6 (Ck.int .u64)++List.replicate 32 (Ck.int .u8)++[Ck.int .i64]++List.replicate 32 (Ck.int .u8))))).ev q=.agg ((aB q 0).set 53 (.slice (ar (q.i n) (q.i (n+1))) (q.i (n+2)).toNat (q.i (n+3)).toNat)).toArray:=rfl
set_option maxRecDepth 20000 in
def Iu:Kf.OK Tryz.prog:=by
 refine Spec.aV (Γ:=[H7]) (fun t ht=>by rw[aam]at ht;subst ht;exact Q2) ?_;rintro xs Hs Rs hl1 hl2 ⟨row,R,h,rfl,rfl,hx⟩;have e0:Hs=[]:=aad.1 hl1;subst e0;obtain⟨J,rfl,w130,hnw,n54,n55,n56⟩:=me (R:=R) hx.ok;refine⟨UU,J,fun _ _=>True,fun _ _=>0,?_,cD (by intro r hr;simp [UU]at hr;subst hr;exact⟨_,_,_,rfl⟩) (by show [J.h 130]=_;rw[w130]),(fun _ h=>nomatch h),?_⟩
 .rfl
 .refine aF.read [] [] [] ?_;simp only[go_sem,Nat.reduceAdd,XM,XN,Sy];have hT:aJ R (.slice (ar (J.i 53) (J.i 54)) (J.i 55).toNat (J.i 56).toNat) jF (h.t.map aS):=hx.tok;intro q1 g1 _ q2 g2 _;have G2:ai 131 J q2:=g1.tr g2;rw[G2.i 53,G2.i 54,G2.i 55,G2.i 56,G2.h 130,w130];refine⟨⟨_,h.t,R,rfl,rfl,hT,fun t ht=>(hx.byte.2 t ht).1,hx.byte.1⟩,fun q3 g3 ⟨F,⟨v',T',R',e1,e2,hA,hF⟩,hF3,hn3⟩=>?_⟩;simp only[aag,aau]at e1 e2;subst e1 e2;have hF3:=hF3 trivial;have eT:T'=h.t:=dY (hA.uniq hT);subst eT;have G3:ai 131 J q3:=G2.tr g3;have hr3:aB q3 0=aB J 0:=cw G3.mono;have hE:=hx.clone hF;obtain⟨⟨m0,m1,m2,m3⟩,_⟩:=hn3;intro _;refine⟨[],[3],rfl,rfl,⟨⟨fun k=>if 53<=k/\k<57 then q3.i (k+80)else q3.i k,q3.b,q3.s,q3.v,q3.h⟩,rfl,(tr8 (tr8 (tr8 (tr8 (tr8 (tr8 ⟨zzT,zzT,zzT,zzT,zzT,⟨m0,m1,m2,m3⟩,tr8 (tr8 (tr8 (tr8 (tr8 (tr8 (tr8 (tr8 ⟨zzT,zzT,zzT,zzT,zzT,zzT,zzT,zzT⟩)))))))⟩)))))),zzT⟩,fun row' R2 h' e3 e4 hx'=>?_⟩
  .simp only[aag,aau,Value.agg.injEq]at e3 e4;have e3:aB J 0=row':=aaQ Array.toList e3;subst e3 e4;rw[hx'.uniq hx,MZ,hr3];refine⟨_,rfl,?_⟩;show bS (cu [q3.h 133]) _ _;rw[aL,hF3];exact hE
def iC {a b:List Int} (h1:aG a) (h2:aG b):aG (a++b):=fun z hz=>(aaU.1 hz).elim (h1 z) (h2 z)
def ma (n:Nat):aG (aj n):=fun z hz=>AV n z hz
def Sa (b:Bool):aG (fm b):=by
 intro z hz;unfold fm at hz;rw[aam]at hz;subst hz;cases b<;>simp
def Sb (h:∀ t∈T,aG t):aG T.flatten:=by
 intro z hz;obtain⟨t,ht,hz⟩:=acS.1 hz;exact h t ht z hz
def Ij (hx:bS R row h) (hk:∀ j,j<n->de[a+j]?=some (.int .u8)) (h53:∀ j,j<n->a+j≠53):aG (ba h.c a n):=by
 intro z hz;obtain⟨j,hj,rfl⟩:=aaW.1 hz;have hj:=aaP.1 hj;rw[hx.I (h53 j hj)];obtain⟨v,hv,hi⟩:=iN hx.ok (hk j hj);have hr:=hx.rng v (aae hv);unfold cI;rw[hv];cases v<;>simp [bw]at hi
 subst hi;exact hr
def XD (hx:bS R row h):aG (LS h):=by
 have s1:=Ij hx (a:=2) (n:=32) aA ah;have s2:=Ij hx (a:=37) (n:=16) aA ah;have s3:=Ij hx (a:=60) (n:=32) aA ah;have s4:=Ij hx (a:=93) (n:=32) aA ah;unfold LS m8 ri aZ;exact iC (iC (iC (iC (iC (iC (iC (iC (iC (iC (iC (iC (iC (iC (iC (iC (iC (ma _) (ma _)) s1) (ma _)) (Sa _)) (ma _)) s2) (ma _)) (Sb fun t ht=>(hx.byte.2 t ht).2)) (ma _)) (ma _)) (ma _)) (ma _)) (ma _)) (ma _)) s3) (ma _)) s4
def L6 (hx:bS R row h):aG (bD h)/\(bD h).length<=900000:=by
 unfold bD;split
 .rename_i hf;refine⟨XD hx,?_⟩;have:=sX hx hf.2.1;unfold LS;rw[aac,aR];omega
 .exact⟨fun z hz=>(by cases hz),abn _⟩
noncomputable def nj (h:Hd):List Int:=gm (bD h)
def D9 (h:bf row de):∃ q:Env,row=aB q 0/\q.h 130=R/\q.h 131=G/\bu 0 bU q:=by
 obtain⟨q,e,_,hn,_⟩:=me (R:=R) h;exact⟨⟨q.i,q.b,q.s,q.v,fun k=>if k=130 then R else if k=131 then G else Hl.none⟩,e,rfl,rfl,hn⟩
noncomputable def WN:Sx.Spec where
 fn:=172
 own:=[]
 rd:=[10053,2000005]
 res:=[.agg (List.replicate 32 (Ck.int .u8))]
 pre:=fun xs Hs Rs=>∃ row R RG h,xs=[.agg row.toArray]/\Rs=[R,RG]/\bS R row h/\uf RG 5
 post:=fun xs Hs Rs v Hs' F=>∀ row R RG h,xs=[.agg row.toArray]->Rs=[R,RG]->bS R row h->v=.agg (aS (nj h)).toArray
noncomputable def W6:Sx.Spec where
 fn:=142
 own:=[]
 rd:=[10053,2000003]
 res:=[.agg (List.replicate 32 (Ck.int .u8))]
 pre:=fun xs Hs Rs=>∃ row R RG h,xs=[.agg row.toArray]/\Rs=[R,RG]/\bS R row h/\uf RG 3
 post:=fun xs Hs Rs v Hs' F=>∀ row R RG h,xs=[.agg row.toArray]->Rs=[R,RG]->bS R row h->v=.agg (aS (nj h)).toArray
noncomputable def WO:List Sx.Spec:=[fJ 146,vP]
noncomputable def W7:List Sx.Spec:=[fJ 71,jS]
def SF:∀ t∈WO,t.OK Tryz.prog:=av DP <| av Ed <| bN
def TQ:∀ t∈W7,t.OK Tryz.prog:=av zn <| av zD <| bN
def U0 (f:FuncId):(fJ f).res=[.one .sl]:=rfl
noncomputable def Zt:aF Tryz.prog WO WN.fn where
 Λ:=aD
 args:=(bW 0 [.agg bU]).map .sv
 mem:=[.ro 130 [.var 53] true,.ro 131 [.lit 5] false]
 nv:=132
noncomputable def ZE:aF Tryz.prog W7 W6.fn where
 Λ:=aD
 args:=(bW 0 [.agg bU]).map .sv
 mem:=[.ro 130 [.var 53] true,.ro 131 [.lit 3] false]
 nv:=132
def Fv (hr:s.res=[.agg (List.replicate 32 (Ck.int .u8))]) (he:Value.agg (List.map (CV.ev q) (ak n (List.replicate 32 (Ck.int .u8)))).toArray=.agg (aS bs).toArray) (hl:bs.length=32) (h:∀ F,s.post xs [] Rs (.agg (aS bs).toArray) [] F):postOf s xs [] Rs q mem (.sv (.agg (ak n (List.replicate 32 (Ck.int .u8))))):=by
 intro _;obtain⟨ρ2,_,hn2,e2⟩:=cU (List.replicate 32 (Ck.int .u8)) 0 (aS bs) q (oA 32 _ hl);refine⟨[],[],rfl,rfl,⟨ρ2,?_,?_⟩,?_⟩
 .rw[hr];show Value.agg (List.map (CV.ev q) (ak n (List.replicate 32 (Ck.int .u8)))).toArray=Value.agg ((ak 0 (List.replicate 32 (Ck.int .u8))).map (CV.ev ρ2)).toArray;rw[he,e2]
 .rw[hr];exact⟨(tr8 (tr8 (tr8 (tr8 zzT)))),zzT⟩
 .have:=h (ue q mem []);rw[<-he]at this;exact this
def TO:W6.OK Tryz.prog:=by
 refine Spec.aV (Γ:=W7) TQ ?_;rintro xs Hs Rs hl1 hl2 ⟨row,R,RG,h,rfl,rfl,hx,hK⟩;have e0:Hs=[]:=aad.1 hl1;subst e0;obtain⟨J,rfl,w130,w131,hnw⟩:=D9 (R:=R) (G:=RG) hx.ok;refine⟨ZE,J,fun _ _=>True,fun _ _=>0,?_,cD (by intro r hr;simp [ZE]at hr;rcases hr with rfl | rfl<;>exact⟨_,_,_,rfl⟩) (by show [J.h 130,J.h 131]=_;rw[w130,w131]),(fun _ h=>nomatch h),?_⟩
 .rfl
 .refine aF.read [bU] [] [] ?_;simp only[go_sem,Nat.reduceAdd,W7,U0,Wz,Sy];intro q1 g1 _ q2 g2 _;have G2:ai 132 J q2:=g1.tr g2;have er:aB q2 0=aB J 0:=cw G2.mono;have er:List.map (CV.ev q2) (ak 0 bU)=aB J 0:=er;rw[er,G2.h 130,w130];refine⟨⟨_,R,h,rfl,rfl,hx⟩,fun q3 g3 ⟨F,hp,hF,_⟩=>?_⟩;have hF:=hF trivial;have hB:=nT hx hp;have G3:ai 132 J q3:=G2.tr g3;rw[hF,G3.h 131,w131];have hR:=hB.rd.w;have hb:=L6 hx;refine⟨⟨_,bD h,F,RG,rfl,rfl,hR,hb.1,hb.2,hK⟩,fun q4 g4 ⟨F4,hp4,_⟩=>?_⟩;have hp4:=hp4 _ _ _ _ rfl rfl hR;refine Fv rfl hp4 (fT _) fun F5 row' R' RG' h' e1 e2 hx'=>?_;simp only[aag,aau,Value.agg.injEq]at e1 e2;have e1:aB J 0=row':=aaQ Array.toList e1;obtain⟨e2,_⟩:=e2;subst e1 e2;rw[hx'.uniq hx];rfl
def SE:WN.OK Tryz.prog:=by
 refine Spec.aV (Γ:=WO) SF ?_;rintro xs Hs Rs hl1 hl2 ⟨row,R,RG,h,rfl,rfl,hx,hK⟩;have e0:Hs=[]:=aad.1 hl1;subst e0;obtain⟨J,rfl,w130,w131,hnw⟩:=D9 (R:=R) (G:=RG) hx.ok;refine⟨Zt,J,fun _ _=>True,fun _ _=>0,?_,cD (by intro r hr;simp [Zt]at hr;rcases hr with rfl | rfl<;>exact⟨_,_,_,rfl⟩) (by show [J.h 130,J.h 131]=_;rw[w130,w131]),(fun _ h=>nomatch h),?_⟩
 .rfl
 .refine aF.read [bU] [] [] ?_;simp only[go_sem,Nat.reduceAdd,WO,U0,Wy,Sy];intro q1 g1 _ q2 g2 _;have G2:ai 132 J q2:=g1.tr g2;have er:aB q2 0=aB J 0:=cw G2.mono;have er:List.map (CV.ev q2) (ak 0 bU)=aB J 0:=er;rw[er,G2.h 130,w130];refine⟨⟨_,R,h,rfl,rfl,hx⟩,fun q3 g3 ⟨F,hp,hF,_⟩ q4 g4 p4=>?_⟩;have hF:=hF trivial;have hB:=nT hx hp;have G4:ai 132 J q4:=G2.trans (g3.mono.tr g4);rw[G4.h 131,w131,g4.h 134,hF,g4.i 134,g4.i 135,g4.i 136,g4.i 137];have hR:=uS (T:=46) p4 hB.rd.w;have hb:=L6 hx;refine⟨⟨q4.i 138,0,1,_,F,RG,bD h,rfl,rfl,hR,aar _,hb.1,hb.2,hK⟩,fun q5 g5 ⟨F5,hp5,_⟩=>?_⟩;have hp5:=hp5 _ _ _ _ _ rfl rfl hR;refine Fv rfl hp5 (fT _) fun F6 row' R' RG' h' e1 e2 hx'=>?_;simp only[aag,aau,Value.agg.injEq]at e1 e2;have e1:aB J 0=row':=aaQ Array.toList e1;obtain⟨e2,_⟩:=e2;subst e1 e2;rw[hx'.uniq hx];rfl
def gn (R:Hl) (rows:List (List Value)) (hs:List Hd):Prop:=rows.length=hs.length/\∀ (i:Nat) row h,rows[i]?=some row->hs[i]?=some h->bS R row h
def gn.nil (R:Hl):gn R [] []:=⟨rfl,fun i row h hr=>by simp at hr⟩
def gn.snoc (a:gn R rows hs) (x:bS R row h):gn R (rows++[row]) (hs++[h]):=by
 refine⟨by rw[aac,aac,a.1];rfl,fun i r g hr hg=>?_⟩;rcases aa5 i rows.length with hi | hi
 .rw[aaC hi]at hr;rw[aaC (by rw[<-a.1];exact hi)]at hg;exact a.2 i r g hr hg
 .rw[aav hi]at hr;rw[aav (by rw[<-a.1];exact hi),<-a.1]at hg;have e:i-rows.length=0:=by
   have:=(aah.1 hr).1;simpa using this
  rw[e]at hr hg;have hr:row=r:=by simpa using hr
  have hg:h=g:=by simpa using hg
  subst hr;subst hg;exact x
def gn.mono (a:gn R rows hs) (hl:R.le R'):gn R' rows hs:=⟨a.1,fun i row h hr hh=>(a.2 i row h hr hh).mono hl⟩
def gn.uniq (a:gn R rows hs) (b:gn R rows hs'):hs=hs':=by
 apply abO (by rw[<-a.1,<-b.1]);intro i h1 h2;have hr:rows[i]?=some (rows[i]'(by rw[a.1];exact h1)):=aab _;exact(a.2 i _ _ hr (aab h1)).uniq (b.2 i _ _ hr (aab h2))
noncomputable def ji (hs:List Hd):List Int:=match hs.getLast? with
 | none=>List.replicate 32 0
 | some h=>nj h
def qg (hs:List Hd):(ji hs).length=32:=by
 unfold ji;split
 .rfl
 .exact fT _
def ir (K:Hl) (a:Nat) (w:Int) (hs:List Hd):Prop:=∃ (x:Int) (c:Nat) (rows:List (List Value)),
 K a=some (.cells (([.int .i64 w,.slice (ar x 0) hs.length c]:List Value)++aS (ji hs)).toArray 237 (0,0)) /\
 sE K 65 de (.slice (ar x 0) hs.length c) rows/\gn K rows hs/\ -1<=x /\
 ∃ KT,KT.le K/\gn KT rows hs/\¬KT.mem a/\∀ b:Nat,x=b->¬KT.mem b
def cA (R:Hl) (a:Nat) (w:Int) (hs:List Hd):Prop:=∃ K,K.le R/\ir K a w hs
def pw {k:IntKind} (hr:s.res=[.one (.int k)]) (he:az q e=z) (h:∀ F,s.post xs [] Rs (.int k z) [] F):postOf s xs [] Rs q mem (.sv (.one (.int k e))):=by
 intro _;refine⟨[],[],rfl,rfl,⟨(bh fun _=>z),?_,?_⟩,?_⟩
 .rw[hr,<-he];rfl
 .rw[hr];exact⟨zzT,zzT⟩
 .have:=h (ue q mem []);rw[<-he]at this;exact this
def yt:Sx.Spec where
 fn:=107
 own:=[]
 rd:=[0]
 res:=[.one (.int .u64)]
 pre:=fun xs Hs Rs=>∃ a R w hs,xs=[.pointer (some ⟨a,0,none⟩)]/\Rs=[R]/\cA R a w hs
 post:=fun xs Hs Rs v Hs' F=>∀ a R w hs,xs=[.pointer (some ⟨a,0,none⟩)]->Rs=[R]->cA R a w hs->v=.int .u64 (IntKind.u64.wrap hs.length)
def Rl:aF Tryz.prog [] yt.fn where
 Λ:=aD
 args:=[TP (.var 0) (.lit 0)]
 mem:=[.ro 1 [.var 0] false]
 nv:=2
def cA.sl (h:cA R a w hs):∃ (x:Int) (c:Nat),-1<=x/\R.cell a 0=some (.int .i64 w)/\R.cell a 1=some (.slice (ar x 0) hs.length c):=by
 obtain⟨K,hl,x,c,rows,hK,_,_,hx,_⟩:=h;have hR:=hl _ _ hK;exact⟨x,c,hx,by simp [Hl.cell,hR],by simp [Hl.cell,hR]⟩
def Ea:yt.OK Tryz.prog:=by
 refine Spec.aV (Γ:=[]) (fun _ h=>by cases h) ?_;rintro xs Hs Rs hl1 hl2 ⟨a,R,w,hs,rfl,rfl,hc⟩;have e0:Hs=[]:=aad.1 hl1;subst e0;obtain⟨x,c,hx,c0,c1⟩:=hc.sl;refine⟨Rl,aQ [a] false [Hl.none,R],fun _ _=>True,fun _ _=>0,?_,cD (by intro r hr;simp [Rl]at hr;subst hr;exact⟨_,_,_,rfl⟩) rfl,(fun _ h=>nomatch h),?_⟩
 .show [Value.pointer (ar (a:Int) 0)]=_;rw[al ah];rfl
 .refine aF.read [] [] [] ?_;generalize hρ:aQ [(a:Int)] false [Hl.none,R]=J;have v0:J.i 0=a:=by rw[<-hρ];rfl
  have w1:J.h 1=R:=by rw[<-hρ];rfl
  simp only[go_sem,Nat.reduceAdd];rw[v0,w1];have e1:R.cell ((a:Int)).toNat (Int.toNat 1)=some (.slice (ar x 0) hs.length c):=by rw[aaa];exact c1
  have e2:bo (some (Value.slice (ar x 0) hs.length c)) 2=hs.length:=by
   cases ar x 0 with
   | none=>rfl
   | some b=>obtain⟨b,o,s⟩:=b;cases s<;>rfl
  rw[e1,e2];refine⟨ah,rfl,ah,pw rfl (z:=IntKind.u64.wrap hs.length) ?_ fun F a' R' w' hs' h1 h2 h'=>?_⟩
  .show IntKind.u64.wrap (bo ((J.h 1).cell (J.i 0).toNat (Int.toNat 1+0)) 2)=_;rw[v0,w1,aa3,e1,e2]
  .simp only[aag,aau,Value.pointer.injEq,aak,Addr.mk.injEq]at h1 h2;subst h1 h2;obtain⟨x',c',_,_,c1'⟩:=h'.sl;rw[c1]at c1';simp only[aak,Value.slice.injEq]at c1';rw[c1'.2.1]
def FF:Sx.Spec where
 fn:=136
 own:=[]
 rd:=[]
 res:=[.one .ptr]
 pre:=fun xs Hs Rs=>∃ w,xs=[.int .i64 w]
 post:=fun xs Hs Rs v Hs' F=>∀ w,xs=[.int .i64 w]->∃ b:Nat,v=.pointer (some ⟨b,0,none⟩)/\ir F b w []
def RR:aF Tryz.prog [] FF.fn where
 Λ:=aD
 args:=[TI .i64 (.var 0)]
 mem:=[]
 nv:=1
set_option maxRecDepth 20000 in
def OY:FF.OK Tryz.prog:=by
 refine Spec.aV (Γ:=[]) (fun _ h=>by cases h) ?_;rintro xs Hs Rs hl1 hl2 ⟨w,rfl⟩;have e0:Hs=[]:=aad.1 hl1;have e1:Rs=[]:=aad.1 hl2;subst e0 e1;refine⟨RR,aQ [w] false [],fun _ _=>True,fun _ _=>0,rfl,cD (by intro r hr;simp [RR]at hr) rfl,(fun _ h=>nomatch h),?_⟩;refine aF.read [] [] [] ?_;generalize hρ:aQ [w] false []=J;have v0:J.i 0=w:=by rw[<-hρ];rfl
 simp only[go_sem,Nat.reduceAdd];intro q1 g1 p1 _;have v1:q1.i 0=w:=by rw[g1.i 0,v0]
 have p1:0<=q1.i 1:=p1;refine⟨[],[0],rfl,rfl,⟨(bh fun k=>if k=0 then q1.i 1 else 0),rfl,⟨by show -1<=q1.i 1;omega,aar 0⟩,zzT⟩,fun w' e=>⟨(q1.i 1).toNat,?_,-1,0,[],?_,sE.nil _ _ _,gn.nil _,aar _,Hl.none,(fun _ _ h=>by cases h),gn.nil _,(fun h=>by cases h),fun b h=>ah⟩⟩
 .show Value.pointer (ar (q1.i 1) 0)=_;rw[al p1];rfl
 .simp only[aag,Value.int.injEq,aaZ,aau]at e;subst e;show(cu [Hl.one (q1.i 1).toNat _]) _=_;rw[aL,Hl.aN,<-v1];rfl
def J5:Sx.Spec where
 fn:=118
 own:=[]
 rd:=[0]
 res:=[.agg bU,.one .bool]
 pre:=fun xs Hs Rs=>∃ a R w hs n,xs=[.pointer (some ⟨a,0,none⟩),.int .u64 n]/\Rs=[R]/\cA R a w hs/\(0<=n/\n<18446744073709551616)/\hs.length<1000000
 post:=fun xs Hs Rs v Hs' F=>∃ a R w hs n,xs=[.pointer (some ⟨a,0,none⟩),.int .u64 n]/\Rs=[R]/\cA R a w hs /\
  ((1<=n/\n<=hs.length/\∃ row h,hs[(n-1).toNat]?=some h/\v=.tuple #[.agg row.toArray,.bool true]/\bS F row h)\/(¬(1<=n/\n<=hs.length)/\∃ u,v=.tuple #[u,.bool false]))
def UP:List Sx.Spec:=[yt,Kf]
def So:∀ t∈UP,t.OK Tryz.prog:=av Ea <| av Iu <| bN
def XH:UP[0]?=some yt:=rfl
def XI:UP[1]?=some Kf:=rfl
def UM:yt.res=[.one (.int .u64)]:=rfl
def UN:Kf.res=[.agg bU]:=rfl
set_option maxRecDepth 20000 in
def UL:(aT 0 [Cp.agg bU]≠[])=True:=eq_true aA
def UO:aF Tryz.prog UP J5.fn where
 Λ:=aD
 args:=[TP (.var 0) (.lit 0),.sv (.one (.int .u64 (.var 1)))]
 mem:=[.ro 2 [.var 0] true]
 nv:=3
set_option maxRecDepth 20000 in
def Mo {n:Int} (hc:cA R a w hs) (hno:¬(1<=n/\n<=hs.length)) : postOf J5 [.pointer (some ⟨a,0,none⟩),.int .u64 n] [] [R] q mem (.tup [.agg ([.int .i64 (.lit 0),.int .u64 (.lit 0)]++List.replicate 32 (CV.int .u8 (.lit 0))++[.int .i64 (.lit 0),.bool .ff,.int .u64 (.lit 0)]++List.replicate 16 (CV.int .u8 (.lit 0))++[.sl (.lit (-1)) (.lit 0) (.lit 0) (.lit 0),.int .u64 (.lit 0),.int .u64 (.lit 0),.int .u64 (.lit 0),.int .u64 (.lit 0),.int .u64 (.lit 0),.int .u64 (.lit 0)]++List.replicate 32 (CV.int .u8 (.lit 0))++[.int .i64 (.lit 0)]++List.replicate 32 (CV.int .u8 (.lit 0))),.one (.bool .ff)]):=by
 intro _;refine⟨[],[],rfl,rfl,⟨(bh fun k=>if k=53 then -1 else 0),rfl,(tr8 (tr8 (tr8 (tr8 (tr8 (tr8 ⟨zzT,zzT,zzT,zzT,zzT,⟨aA,aA,aA,aA⟩,tr8 (tr8 (tr8 (tr8 (tr8 (tr8 (tr8 (tr8 ⟨zzT,zzT,zzT,zzT,zzT,zzT,zzT,zzT⟩)))))))⟩)))))),zzT,zzT⟩,a,R,w,hs,n,rfl,rfl,hc,Or.inr ⟨hno,_,rfl⟩⟩
def Eb {n:Int} {K:List Hl} (hc:cA R a w hs) (hl:hs.length<1000000) (hp:yt.post [.pointer (some ⟨a,0,none⟩)] Hs [R] (.int .u64 n) K F):n=hs.length:=by
 have:=hp _ _ _ _ rfl rfl hc;simp only[Value.int.injEq,aaZ]at this;rw[this,IntKind.wrap_u64];omega
set_option maxRecDepth 20000 in
def Ik:J5.OK Tryz.prog:=by
 refine Spec.aV (Γ:=UP) So ?_;rintro xs Hs Rs hl1 hl2 ⟨a,R,w,hs,n,rfl,rfl,hc,hn,hlen⟩;have e0:Hs=[]:=aad.1 hl1;subst e0;refine⟨UO,aQ [a,n] false [Hl.none,Hl.none,R],fun _ _=>True,fun _ _=>0,?_,cD (by intro r hr;simp [UO]at hr;subst hr;exact⟨_,_,_,rfl⟩) rfl,(fun _ h=>nomatch h),?_⟩
 .show [Value.pointer (ar (a:Int) 0),.int .u64 n]=_;rw[al ah];rfl
 .refine aF.read [bU] [de] [] ?_;generalize hρ:aQ [(a:Int),n] false [Hl.none,Hl.none,R]=J;simp only[Nd.holds,X.pre,X.rel,X.n,Src.ok,Src.len,Src.iA,aaZ,aau,abK,acj,aa3,Nat.reduceAdd,aaL,aa9,qX,qU,jv,jZ,iR,qW,my,oK,lZ,ga,mo,mz,qV,mv,mq,jw,mw,aq,au,bQ,dj,cx,bJ,fg,fL,fM,fN,je,gb,iv,fR,TV.ev,SV.ev,CV.ev,aax,aa8,bm.hl,j7,Cp.sv,Ck.cv,bW,Cp.len,Ck.len,fX,gO,jc,XH,XI,UM,UN,UL];have v0:J.i 0=a:=by rw[<-hρ];rfl
  have v1:J.i 1=n:=by rw[<-hρ];rfl
  have w2:J.h 2=R:=by rw[<-hρ];rfl
  intro q1 g1 _;have ep:Value.pointer (ar (a:Int) 0)=.pointer (some ⟨a,0,none⟩):=by rw[al ah];rfl
  rw[g1.i 0,g1.i 1,g1.h 2,v0,v1,w2,ep];refine⟨fun h1=>⟨⟨a,R,w,hs,rfl,rfl,hc⟩,fun q2 g2 ⟨F,hp,_⟩=>?_⟩,fun h1=>Mo hc ah⟩;have e4:=Eb hc hlen hp;have G2:ai 3 J q2:=g1.tr g2;rw[e4,G2.i 0,G2.i 1,G2.h 2,v0,v1,w2];refine⟨fun h2=>Mo hc ah,fun h2=>?_⟩;obtain⟨K,hl,x,c,rows,hK,hO,hA,hx,_⟩:=id hc;have c1:R.cell a 1=some (.slice (ar x 0) hs.length c):=by simp [Hl.cell,hl _ _ hK]
  have hr:aJ R (.slice (ar x 0) ((hs.length:Int)).toNat ((c:Int)).toNat) de rows:=by rw[aaa,aaa];exact cj hO.rd hl
  obtain⟨el,hat⟩:=hr.at hx (aar _) ah;have hlr:=hA.1;obtain⟨row,aB⟩:∃ row,rows[(n-1).toNat]?=some row:=⟨_,aab ah⟩;obtain⟨h,hh⟩:∃ h,hs[(n-1).toNat]?=some h:=⟨_,aab ah⟩;obtain⟨hx0,rok,cells⟩:=hat _ _ aB;have hI:=(hA.mono hl).2 _ _ _ aB hh;have hw:IntKind.u64.wrap (n-1)=n-1:=by rw[IntKind.wrap_u64];omega
  have e1:R.cell ((a:Int)).toNat (Int.toNat 1)=some (.slice (ar x 0) hs.length c):=by rw[aaa];exact c1
  have p0:bo (some (Value.slice (ar x 0) hs.length c)) 0=x:=by rw[al hx0];show((x.toNat:Nat):Int)=x;omega
  have p1:bo (some (Value.slice (ar x 0) hs.length c)) 1=0:=by rw[al hx0];rfl
  have p2:bo (some (Value.slice (ar x 0) hs.length c)) 2=hs.length:=by rw[al hx0];rfl
  have cells':∀ j u,row[j]?=some u->R.cell x.toNat ((0+(n-1)*125).toNat+j)=some u:=fun j u hu=>by
   have:=cells j u hu;have e:(0:Int).toNat+(n-1).toNat*de.length+j=(0+(n-1)*125).toNat+j:=by
    rw[show de.length=125 from rfl];omega
   rw[e]at this;exact this
  have eR:List.map (CV.ev q2) (aU 2 (E.hP 2 (E.var 0) (E.lit 1) 0 0) ((E.hP 2 (E.var 0) (E.lit 1) 0 1).add ((E.wrap IntKind.u64 ((E.var 1).sub (E.lit 1))).mul (E.lit 125))) 0 de)=row:=by
   refine dq row de 0 rok fun i u hu=>?_;have:=cells' i u hu;simp only[fM,bQ,cx,bJ,dj,au,aq,G2.i 0 (by omega:0<3),G2.i 1 (by omega:1<3),G2.h 2 (by omega:2<3),v0,v1,w2,aa3,aaM];rw[e1,p0,p1,hw];exact this
  rw[eR,e1,p0,p1,p2,hw];refine⟨ah,rfl,hx0,aar _,ah,ah,jR _ rok cells',⟨row,R,h,rfl,rfl,hI⟩,fun q3 g3 ⟨F3,hp3,hF3,hn3⟩=>?_⟩;obtain⟨row',er,hI'⟩:=hp3 _ _ _ rfl rfl hI;intro _;refine⟨[],[2],rfl,rfl,?_,a,R,w,hs,n,rfl,rfl,hc,Or.inl ⟨ah,ah,row',h,hh,?_,?_⟩⟩
  .obtain⟨m0,m1,m2,m3⟩:=hn3.1.2.2.2.2.2.2.2.2.2.2.2.2.2.2.2.2.2.2.2.2.2.2.2.2.2.2.2.2.2.2.2.2.2.2.2.2.2.2.2.2.2.2.2.2.2.2.2.2.2.2.2.2.2.1;exact⟨⟨fun k=>q3.i (k+5),fun k=>if k=128 then true else q3.b (k+5),q3.s,q3.v,q3.h⟩,rfl,(tr8 (tr8 (tr8 (tr8 (tr8 (tr8 ⟨zzT,zzT,zzT,zzT,zzT,⟨m0,m1,m2,m3⟩,tr8 (tr8 (tr8 (tr8 (tr8 (tr8 (tr8 (tr8 ⟨zzT,zzT,zzT,zzT,zzT,zzT,zzT,zzT⟩)))))))⟩)))))),zzT,zzT⟩
  .show Value.tuple #[.agg (List.map (CV.ev q3) (ak 5 bU)).toArray,.bool true]=_;rw[er]
  .show bS (cu [q3.h 5]) _ _;rw[aL,hF3 zzT];exact hI'
def eqs (f g:Nat->Int):Nat->Nat->Prop
 | _,0=>True
 | n,1=>f n=g n
 | n,k+2=>f n=g n/\eqs f g (n+1) (k+1)
def IG {f g:Nat->Int} : ∀ (k n:Nat),eqs f g n k↔∀ j,j<k->f (n+j)=g (n+j)
 | 0,n=>⟨fun _ j h=>ah,fun _=>trivial⟩
 | 1,n=>⟨fun h j hj=>(by cases j with
  | zero=>exact h
  | succ j=>omega),fun h=>h 0 ah⟩
 | k+2,n=>by
  show(f n=g n/\eqs f g (n+1) (k+1))↔_;rw[IG (k+1) (n+1)];constructor
  .rintro⟨h0,h⟩ j hj;cases j with
   | zero=>exact h0
   | succ j=>have:=h j ah;rwa[show n+1+j=n+(j+1)by omega]at this
  .exact fun h=>⟨h 0 ah,fun j hj=>by have:=h (j+1) ah;rwa[show n+(j+1)=n+1+j by omega]at this⟩
def B9 {f g:Nat->Int} {s:List Int} (hs:s.length=16) (ht:t.length=16) (hf:∀ j,j<16->f j=s.getD j 0) (hg:∀ j,j<16->g j=t.getD j 0):eqs f g 0 16↔s=t:=by
 rw[IG];constructor
 .intro h;apply aaN;intro j;by_cases hj:j<16
  .have e:=h j hj;rw[aaM,hf j hj,hg j hj,aap,aap,aab ah,aab ah]at e;rw[aab ah,aab ah];exact aaQ some e
  .rw[aas ah,aas ah]
 .rintro rfl j hj;rw[aaM,hf j hj,hg j hj]
open Classical in
noncomputable def equalS:Sx.Spec where
 fn:=193
 own:=[]
 rd:=[0,1]
 res:=[.one .bool]
 pre:=fun xs Hs Rs=>∃ (u v:Value) (R1 R2:Hl) (S T:List (List Int)),xs=[u,v]/\Rs=[R1,R2]/\aJ R1 u jF (S.map aS)/\aJ R2 v jF (T.map aS)/\gI S/\gI T
 post:=fun xs Hs Rs w Hs' F=>∃ (u v:Value) (R1 R2:Hl) (S T:List (List Int)),xs=[u,v]/\Rs=[R1,R2]/\aJ R1 u jF (S.map aS)/\aJ R2 v jF (T.map aS)/\w=.bool (decide (S=T))
def ya:aF Tryz.prog [] 193 where
 Λ:=fun p=>if I9 p then some ⟨0,[(13,TI .i64 (.var 20))],[],22⟩else none
 args:=[.sv (.one (.sl (.var 0) (.var 1) (.var 2) (.var 3))),.sv (.one (.sl (.var 4) (.var 5) (.var 6) (.var 7)))]
 mem:=[.ro 8 [.var 0] false,.ro 9 [.var 4] false]
 nv:=10
def qh (hy:0<=y) (hc:∀ (i:Nat) row,(T.map aS)[i]?=some row->bf row jF/\∀ j u,row[j]?=some u->R.cell x.toNat (y.toNat+i*jF.length+j)=some u) (ht:T[i]?=some t) (hl:t.length=16) :
 bC R x.toNat (y+(i:Int)*16).toNat 16=true/\∀ j,j<16->bV (R.cell x.toNat ((y+(i:Int)*16).toNat+j))=t.getD j 0:=by
 have h1:=(hc i (aS t) (by rw[aao,ht];rfl)).2;have hlen:jF.length=16:=rfl;rw[hlen]at h1;have hyi:(y+(i:Int)*16).toNat=y.toNat+i*16:=ah;have c:∀ j,j<16->R.cell x.toNat (y.toNat+i*16+j)=some (.int .u8 (t.getD j 0)):=fun j hj=>by
  rw[h1 j (.int .u8 (t[j])) (by unfold aS;rw[aao,aab ah];rfl),aap,aab ah];rfl
 rw[hyi];constructor
 .unfold bC;rw[aaD];intro j hj;rw[c j (aaP.1 hj)];rfl
 .intro j hj;rw[c j hj];rfl
def U2 (f g:Nat->Int):(f 0=g 0/\f 1=g 1/\f 2=g 2/\f 3=g 3/\f 4=g 4/\f 5=g 5/\f 6=g 6/\f 7=g 7/\f 8=g 8/\f 9=g 9/\f 10=g 10/\f 11=g 11/\f 12=g 12/\f 13=g 13/\f 14=g 14/\f 15=g 15)↔eqs f g 0 16:=ada
def Kl:equalS.OK Tryz.prog:=by
 refine Spec.aV (Γ:=[]) (fun _ h=>by cases h) ?_;rintro xs Hs Rs hl1 hl2 ⟨u,v,R1,R2,S,T,rfl,rfl,hR,hQ,hS,hT⟩;have e0:Hs=[]:=aad.1 hl1;subst e0;obtain⟨x,y,c,rfl,hy,hrows⟩:=id hR;obtain⟨x',y',c',rfl,hy',hrows'⟩:=id hQ;refine⟨ya,aQ [x,y,S.length,c,x',y',T.length,c'] false [Hl.none,Hl.none,Hl.none,Hl.none,Hl.none,Hl.none,Hl.none,Hl.none,R1,R2],fun _ q=>∃ i:Nat,q.i 20=i/\i<=S.length/\∀ k,k<i->S[k]?=T[k]?,fun _ q=>(S.length-q.i 20).toNat,?_,⟨?_,?_,?_,?_⟩,(fun _ h=>nomatch h),?_⟩
 .rw[aaw,aaw];show [Value.slice (ar x y) ((S.length:Int)).toNat ((c:Int)).toNat,Value.slice (ar x' y') ((T.length:Int)).toNat ((c':Int)).toNat]=_;rw[aaa,aaa,aaa,aaa]
 .intro r hr ho;simp [ya]at hr;rcases hr with rfl | rfl<;>cases ho
 .intro r hr ho;simp [ya]at hr;rcases hr with rfl | rfl
  .exact⟨R1,aC,Hl.le_refl _⟩
  .exact⟨R2,aC,Hl.le_refl _⟩
 .simp [ya,bm.own]
 .intro r hr;simp [ya]at hr;rcases hr with rfl | rfl<;>trivial
 .refine aF.read [] [] [] ?_;generalize hρ:aQ [x,y,S.length,c,x',y',T.length,c'] false [Hl.none,Hl.none,Hl.none,Hl.none,Hl.none,Hl.none,Hl.none,Hl.none,R1,R2]=J;have v0:J.i 0=x:=by rw[<-hρ];rfl
  have v1:J.i 1=y:=by rw[<-hρ];rfl
  have v2:J.i 2=S.length:=by rw[<-hρ];rfl
  have v4:J.i 4=x':=by rw[<-hρ];rfl
  have v5:J.i 5=y':=by rw[<-hρ];rfl
  have v6:J.i 6=T.length:=by rw[<-hρ];rfl
  have w8:J.h 8=R1:=by rw[<-hρ];rfl
  have w9:J.h 9=R2:=by rw[<-hρ];rfl
  clear hρ;have out:∀ {q:Env} {e:E} {mem:Mem},(aY q e=true↔S=T)->postOf equalS [.slice (ar x y) (S.map aS).length c,.slice (ar x' y') (T.map aS).length c'] [] [R1,R2] q mem (.sv (.one (.bool e))):=by
   intro q e mem he _;exact⟨[],[],rfl,rfl,⟨⟨fun _=>0,fun _=>aY q e,fun _=>.empty,fun _=>.tuple #[],fun _=>Hl.none⟩,rfl,zzT,zzT⟩,_,_,R1,R2,S,T,rfl,rfl,hR,hQ,qY he⟩
  simp only[go_sem,Nat.reduceAdd];rw[v2,v6];refine⟨ah,ah,fun hne=>out ⟨fun e=>(by rw[cq]at e;cases e),fun e=>absurd (by rw[e]) hne⟩,fun hl=>⟨⟨0,rfl,abn _,fun k hk=>ah⟩,fun q g ⟨i,ei,hi,hk⟩=>?_⟩⟩;rw[g.i 2,v2,ei,g.i 0,v0,g.i 1,v1,g.h 8,w8,g.i 4,v4,g.i 5,v5,g.h 9,w9,g.i 6,v6];have hSl:=hS.1;have ew:IntKind.i64.wrap (q.i 20+1)=((i+1:Nat):Int):=by rw[ei,IntWalk.i64_in _ ah];omega
  refine⟨fun h=>?_,fun h=>out ⟨fun _=>?_,fun _=>bO q⟩⟩
  .have Um:i<S.length:=ah;have hiT:i<T.length:=ah;rcases hrows with hn | ⟨hx,hc⟩
   .rw[abv]at hn;rw[hn]at Um;cases Um
   rcases hrows' with hn | ⟨hx',hc'⟩
   .rw[abv]at hn;rw[hn]at hiT;cases hiT
   have hs:S[i]?=some S[i]:=aab Um;have ht:T[i]?=some T[i]:=aab hiT;have m1:=(hS.2 _ (aae hs)).1;have m2:=(hT.2 _ (aae ht)).1;obtain⟨b1,c1⟩:=qh hy hc hs m1;obtain⟨b2,c2⟩:=qh hy' hc' ht m2;have E:=(U2 (fun j=>bV (R1.cell x.toNat ((y+(i:Int)*16).toNat+j))) (fun j=>bV (R2.cell x'.toNat ((y'+(i:Int)*16).toNat+j)))).trans (B9 m1 m2 c1 c2);refine⟨hx,hy,ah,b1,hx',hy',ah,b2,fun hn=>out ⟨fun e=>(by rw[cq]at e;cases e),fun e=>absurd (E.2 ?_) hn⟩,fun he=>⟨⟨i+1,ew,ah,fun k hk'=>?_⟩,?_⟩⟩
   .have:=hs.symm.trans ((aaQ (fun l=>l[i]?) e).trans ht);exact aa1 this
   .rcases aa5 k i with h1 | h1
    .exact hk k h1
    .obtain rfl:k=i:=ah;rw[hs,ht,E.1 he]
   .show((S.length:Int)-IntKind.i64.wrap (q.i 20+1)).toNat<_;rw[ew];omega
  .apply aaN;intro k;by_cases hkS:k<S.length
   .exact hk k ah
   .rw[aas ah,aas ah]
open Classical in
noncomputable def Ff:Sx.Spec where
 fn:=175
 own:=[]
 rd:=[10053,10153]
 res:=[.one .bool]
 pre:=fun xs Hs Rs=>∃ r1 r2 R1 R2 h1 h2,xs=[.agg r1.toArray,.agg r2.toArray]/\Rs=[R1,R2]/\bS R1 r1 h1/\bS R2 r2 h2
 post:=fun xs Hs Rs v Hs' F=>∃ r1 r2 R1 R2 h1 h2,xs=[.agg r1.toArray,.agg r2.toArray]/\Rs=[R1,R2]/\bS R1 r1 h1/\bS R2 r2 h2/\v=.bool (decide (h1=h2))
noncomputable def Fh:aF Tryz.prog [hZ 117,qc 148,equalS] 175 where
 Λ:=aD
 args:=(bW 0 [.agg bU,.agg bU]).map .sv
 mem:=[.ro 300 [.var 53] false,.ro 301 [.var 181] false]
 nv:=302
def QS : (aB q 0).set 53 (.bool false)=(aB q 128).set 53 (.bool false)↔q.i 0=q.i 128/\q.i 1=q.i 129/\eqs q.i (fun k=>q.i (k+128)) 2 32/\q.i 34=q.i 162/\(q.b 35=q.b 163)/\q.i 36=q.i 164/\eqs q.i (fun k=>q.i (k+128)) 37 16/\eqs q.i (fun k=>q.i (k+128)) 57 6/\eqs q.i (fun k=>q.i (k+128)) 63 32/\q.i 95=q.i 223/\eqs q.i (fun k=>q.i (k+128)) 96 32:=by
 simp only[aB,bU,List.replicate,acv,abE,ak,Ck.cv,Ck.len,i64,aax,aa8,List.set_cons_succ,List.set_cons_zero,CV.ev,au,bF,aaM,abL,Nat.reduceAdd,aag,Value.int.injEq,Value.bool.injEq,aaZ,aau,eqs,and_assoc]
def Q4 (h1:bf r1 de) (h2:bf r2 de):∃ q:Env,r1=aB q 0/\r2=aB q 128/\q.h 300=R1/\q.h 301=R2:=by
 obtain⟨q1,_,_,e1⟩:=cU bU 0 r1 (bh fun _=>0) h1;obtain⟨q2,g2,_,e2⟩:=cU bU 128 r2 q1 h2;have e1':aB q2 0=r1:=(cw g2).trans e1;exact⟨⟨q2.i,q2.b,q2.s,q2.v,fun k=>if k=300 then R1 else if k=301 then R2 else Hl.none⟩,e1'.symm,e2.symm,rfl,rfl⟩
def Vk (x:bS R1 r1 h1) (y:bS R2 r2 h2):h1=h2↔h1.t=h2.t/\r1.set 53 (.bool false)=r2.set 53 (.bool false):=by
 rw[<-x.core,<-y.core];cases h1;cases h2;simp [and_comm]
def ZN:[hZ 117,qc 148,equalS][2]?=some equalS:=rfl
def Xx:equalS.res=[.one .bool]:=rfl
def Gu {w:Value} {K:List Hl} (h1:aJ R1 u jF (S.map aS)) (h2:aJ R2 v jF (T.map aS)) (hp:equalS.post [u,v] Hs [R1,R2] w K F):(w=.bool true->S=T)/\(S=T->w=.bool true):=by
 obtain⟨u',v',R1',R2',S',T',e1,e2,hR,hQ,hv⟩:=hp;simp only[aag,aau]at e1 e2;obtain⟨rfl,rfl⟩:=e1;obtain⟨rfl,rfl⟩:=e2;obtain rfl:=dY (h1.uniq hR);obtain rfl:=dY (h2.uniq hQ);rw[hv];simp
def OB:Ff.OK Tryz.prog:=by
 refine Spec.aV (Γ:=[hZ 117,qc 148,equalS]) (fun t ht=>?_) ?_
 .simp only[aan,aat,aaX]at ht;rcases ht with rfl | rfl | rfl
  .exact qt
  .exact AH
  .exact Kl
 rintro xs Hs Rs hl1 hl2 ⟨r1,r2,R1,R2,h1,h2,rfl,rfl,hx,hy⟩;have e0:Hs=[]:=aad.1 hl1;subst e0;obtain⟨J,rfl,rfl,w300,w301⟩:=Q4 (R1:=R1) (R2:=R2) hx.ok hy.ok;refine⟨Fh,J,fun _ _=>True,fun _ _=>0,zzK,⟨?_,?_,?_,?_⟩,(fun _ h=>nomatch h),?_⟩
 .intro r hr ho;simp [Fh]at hr;rcases hr with rfl | rfl<;>cases ho
 .intro r hr ho;simp [Fh]at hr;rcases hr with rfl | rfl
  .exact⟨R1,aC,by show(J.h 300).le R1;rw[w300];exact Hl.le_refl _⟩
  .exact⟨R2,aC,by show(J.h 301).le R2;rw[w301];exact Hl.le_refl _⟩
 .simp [Fh,bm.own]
 .intro r hr;simp [Fh]at hr;rcases hr with rfl | rfl<;>trivial
 .refine aF.read [] [] [] ?_;have out:∀ {q:Env} {e:E} {mem:Mem},(aY q e=true↔h1=h2)->postOf Ff [.agg (aB J 0).toArray,.agg (aB J 128).toArray] [] [R1,R2] q mem (.sv (.one (.bool e))):=by
   intro q e mem he _;exact⟨[],[],rfl,rfl,⟨⟨fun _=>0,fun _=>aY q e,fun _=>.empty,fun _=>.tuple #[],fun _=>Hl.none⟩,rfl,zzT,zzT⟩,_,_,R1,R2,h1,h2,rfl,rfl,hx,hy,qY he⟩
  have ff:∀ {q:Env} {mem:Mem},¬h1=h2->postOf Ff [.agg (aB J 0).toArray,.agg (aB J 128).toArray] [] [R1,R2] q mem (.sv (.one (.bool .ff))):=fun hf=>out ⟨fun e=>(by rw[cq]at e;cases e),fun e=>absurd e hf⟩;simp only[go_sem,Nat.reduceAdd,ZN,Xx,Uu];have hS:aJ R1 (.slice (ar (J.i 53) (J.i 54)) (J.i 55).toNat (J.i 56).toNat) jF (h1.t.map aS):=hx.tok;have hT:aJ R2 (.slice (ar (J.i 181) (J.i 182)) (J.i 183).toNat (J.i 184).toNat) jF (h2.t.map aS):=hy.tok;intro q1 g1 _ q2 g2 _;have G2:ai 302 J q2:=g1.tr g2;rw[G2.i 53,G2.i 54,G2.i 55,G2.i 56,G2.i 181,G2.i 182,G2.i 183,G2.i 184,G2.h 300,G2.h 301,w300,w301];refine⟨⟨_,_,R1,R2,h1.t,h2.t,rfl,rfl,hS,hT,hx.byte,hy.byte⟩,fun q3 g3 ⟨F,hp,_⟩=>?_⟩;have hv:=Gu hS hT hp;have hv:q3.b 304=true↔h1.t=h2.t:=by
   have:(q3.b 304=true)=(Value.bool (aY q3 (.bvar 304))=.bool true):=by rw[bF];simp
   rw[this];exact⟨hv.1,hv.2⟩
  have G3:ai 302 J q3:=G2.tr g3;have a0:aB q3 0=aB J 0:=cw G3.mono;have a1:aB q3 128=aB J 128:=aaO (Value.agg.inj (fS (n:=128) (ks:=bU) G3 (acP zzK)));have E:=Vk hx hy;rw[<-a0,<-a1,QS,<-hv]at E;refine⟨fun c=>ff fun e=>c (E.1 e).1,fun hb=>?_⟩;have eB:(q3.b 35=true)=(q3.b 163=true)↔q3.b 35=q3.b 163:=by cases q3.b 35<;>cases q3.b 163<;>simp
  rw[eB];refine⟨fun k0=>⟨fun k1=>⟨fun k2=>⟨fun k3=>⟨fun k4=>⟨fun k5=>⟨fun k6=>⟨fun k7=>⟨fun k8=>⟨fun k9=>out ?_,fun c=>ff fun e=>c (E.1 e).2.2.2.2.2.2.2.2.2.2.1⟩,fun c=>ff fun e=>c (E.1 e).2.2.2.2.2.2.2.2.2.1⟩,fun c=>ff fun e=>c (E.1 e).2.2.2.2.2.2.2.2.1⟩,fun c=>ff fun e=>c (E.1 e).2.2.2.2.2.2.2.1⟩,fun c=>ff fun e=>c (E.1 e).2.2.2.2.2.2.1⟩,fun c=>ff fun e=>c (E.1 e).2.2.2.2.2.1⟩,fun c=>ff fun e=>c (E.1 e).2.2.2.2.1⟩,fun c=>ff fun e=>c (E.1 e).2.2.2.1⟩,fun c=>ff fun e=>c (E.1 e).2.2.1⟩,fun c=>ff fun e=>c (E.1 e).2.1⟩;have eZ:aY q3 (.and (.eq (.var 96) (.var 224)) (.and (.eq (.var 97) (.var 225)) (.and (.eq (.var 98) (.var 226)) (.and (.eq (.var 99) (.var 227)) (.and (.eq (.var 100) (.var 228)) (.and (.eq (.var 101) (.var 229)) (.and (.eq (.var 102) (.var 230)) (.and (.eq (.var 103) (.var 231)) (.and (.eq (.var 104) (.var 232)) (.and (.eq (.var 105) (.var 233)) (.and (.eq (.var 106) (.var 234)) (.and (.eq (.var 107) (.var 235)) (.and (.eq (.var 108) (.var 236)) (.and (.eq (.var 109) (.var 237)) (.and (.eq (.var 110) (.var 238)) (.and (.eq (.var 111) (.var 239)) (.and (.eq (.var 112) (.var 240)) (.and (.eq (.var 113) (.var 241)) (.and (.eq (.var 114) (.var 242)) (.and (.eq (.var 115) (.var 243)) (.and (.eq (.var 116) (.var 244)) (.and (.eq (.var 117) (.var 245)) (.and (.eq (.var 118) (.var 246)) (.and (.eq (.var 119) (.var 247)) (.and (.eq (.var 120) (.var 248)) (.and (.eq (.var 121) (.var 249)) (.and (.eq (.var 122) (.var 250)) (.and (.eq (.var 123) (.var 251)) (.and (.eq (.var 124) (.var 252)) (.and (.eq (.var 125) (.var 253)) (.and (.eq (.var 126) (.var 254)) (.eq (.var 127) (.var 255)))))))))))))))))))))))))))))))))=true↔eqs q3.i (fun k=>q3.i (k+128)) 96 32:=by
   simp only[iR,ga,au];exact ada
  rw[eZ,E];exact⟨fun h=>⟨hb,k0,k1,k2,k3,k4,k5,k6,k7,k8,k9,h⟩,fun h=>h.2.2.2.2.2.2.2.2.2.2.2⟩
open Classical in
noncomputable def gu (w:Int) (hs:List Hd) (h:Hd):Int :=
 if ¬h.Form\/cI h.c 0≠w then 1
 else if cI h.c 1<=hs.length then(if hs[(cI h.c 1-1).toNat]?=some h then 13 else 8)
 else if hs.length+1<cI h.c 1 then 12
 else if ba h.c 2 32≠ji hs then 7 else 0
def nq (q:Env) (n:Nat):List Value:=(ak n bU).map (CV.ev q)
def MU {A B:Hl} {a:Int} (h:bf row de):∃ q:Env,q.i 0=a/\row=nq q 1/\q.h 129=A/\q.h 130=B/\bu 1 bU q:=by
 obtain⟨q,g,hn,e⟩:=cU bU 1 row (bh fun _=>a) h;refine⟨⟨q.i,q.b,q.s,q.v,fun k=>if k=129 then A else if k=130 then B else Hl.none⟩,g.i 0,e.symm,rfl,rfl,hn⟩
def cA.facts (h:cA R a w hs):∃ (x:Int) (c:Nat) (rows:List (List Value)),R a=some (.cells (([.int .i64 w,.slice (ar x 0) hs.length c]:List Value)++aS (ji hs)).toArray 237 (0,0))/\aJ R (.slice (ar x 0) hs.length c) de rows/\gn R rows hs:=by
 obtain⟨K,hl,x,c,rows,hK,hO,hA,_⟩:=h;exact⟨x,c,rows,hl _ _ hK,cj hO.rd hl,hA.mono hl⟩
def cA.uniq (h:cA R a w hs) (h':cA R a w' hs'):w=w'/\hs=hs':=by
 obtain⟨x,c,rows,e,hr,hA⟩:=h.facts;obtain⟨x',c',rows',e',hr',hA'⟩:=h'.facts;rw[e]at e';simp only[aak,Obj.cells.injEq,aau]at e';have e':=aaQ Array.toList e';have h0:some (Value.int .i64 w)=some (.int .i64 w'):=aaQ (fun l=>l[0]?) e';have h1:some (Value.slice (ar x 0) hs.length c)=some (.slice (ar x' 0) hs'.length c'):=aaQ (fun l=>l[1]?) e';rw[<-aa1 h1]at hr';obtain rfl:=hr.uniq hr';simp only[aak,Value.int.injEq,aaZ]at h0;exact⟨h0,hA.uniq hA'⟩
def Wk (q:Env) (n:Nat) (f:Nat->Int):ig q n=(List.range 32).map f↔(q.i (n+0)=f 0/\q.i (n+1)=f 1/\q.i (n+2)=f 2/\q.i (n+3)=f 3/\q.i (n+4)=f 4/\q.i (n+5)=f 5/\q.i (n+6)=f 6/\q.i (n+7)=f 7/\q.i (n+8)=f 8/\q.i (n+9)=f 9/\q.i (n+10)=f 10/\q.i (n+11)=f 11/\q.i (n+12)=f 12/\q.i (n+13)=f 13/\q.i (n+14)=f 14/\q.i (n+15)=f 15/\q.i (n+16)=f 16/\q.i (n+17)=f 17/\q.i (n+18)=f 18/\q.i (n+19)=f 19/\q.i (n+20)=f 20/\q.i (n+21)=f 21/\q.i (n+22)=f 22/\q.i (n+23)=f 23/\q.i (n+24)=f 24/\q.i (n+25)=f 25/\q.i (n+26)=f 26/\q.i (n+27)=f 27/\q.i (n+28)=f 28/\q.i (n+29)=f 29/\q.i (n+30)=f 30/\q.i (n+31)=f 31):=by
 have e:List.range 32=[0,1,2,3,4,5,6,7,8,9,10,11,12,13,14,15,16,17,18,19,20,21,22,23,24,25,26,27,28,29,30,31]:=rfl;unfold ig;rw[e];simp only[aax,aa8,aag,aau]
def cA.lS (h:cA R a w hs):R.cell a 0=some (.int .i64 w)/\bC R a 2 32=true/\(List.range 32).map (fun j=>bV (R.cell a (2+j)))=ji hs:=by
 obtain⟨x,c,rows,e,_,_⟩:=h.facts;have hc:∀ j z,(ji hs)[j]?=some z->R.cell a (2+j)=some (.int .u8 z):=fun j z hz=>by
  unfold Hl.cell;rw[e];simp only[abi];rw[aav aC];simp only[aaL,aa9];rw[show 2+j-(0+1+1)=j by omega,fD,hz];rfl
 refine⟨by unfold Hl.cell;rw[e];rfl,cW hc (by rw[qg];decide),?_⟩;have:=nX (y:=2) hc;rw[qg]at this;exact this
noncomputable def xN:Sx.Spec where
 fn:=144
 own:=[]
 rd:=[0,10153]
 res:=[.one (.int .i64)]
 pre:=fun xs Hs Rs=>∃ a R w hs row T h,xs=[.pointer (some ⟨a,0,none⟩),.agg row.toArray]/\Rs=[R,T]/\cA R a w hs/\hs.length<1000000/\bS T row h
 post:=fun xs Hs Rs v Hs' F=>∃ a R w hs row T h,xs=[.pointer (some ⟨a,0,none⟩),.agg row.toArray]/\Rs=[R,T]/\cA R a w hs/\bS T row h/\v=.int .i64 (gu w hs h)
noncomputable def WK:List Sx.Spec:=[hZ 117,yt,J5,Ff]
def Sw:∀ t∈WK,t.OK Tryz.prog:=av qt <| av Ea <| av Ik <| av OB <| bN
def Sv (f:FuncId):(hZ f).res=[.one .bool]:=rfl
def US:J5.res=[.agg bU,.one .bool]:=rfl
def XL:Ff.res=[.one .bool]:=rfl
set_option maxRecDepth 20000 in
def UR:(aT 0 [Cp.agg bU,Cp.one .bool]≠[])=True:=eq_true aA
noncomputable def Re:aF Tryz.prog WK xN.fn where
 Λ:=aD
 args:=TP (.var 0) (.lit 0)::(bW 1 [.agg bU]).map .sv
 mem:=[.ro 129 [.var 0] false,.ro 130 [.var 54] true]
 nv:=131
open Classical in
set_option maxRecDepth 20000 in
def DF:xN.OK Tryz.prog:=by
 refine Spec.aV (Γ:=WK) Sw ?_;rintro xs Hs Rs hl1 hl2 ⟨a,R,w,hs,row,T,h,rfl,rfl,hc,hlen,hx⟩;have e0:Hs=[]:=aad.1 hl1;subst e0;obtain⟨J,va,rfl,w1,w2,hnw⟩:=MU (A:=R) (B:=T) (a:=(a:Int)) hx.ok;refine⟨Re,J,fun _ _=>True,fun _ _=>0,?_,cD (by intro r hr;simp [Re]at hr;rcases hr with rfl | rfl<;>exact⟨_,_,_,rfl⟩) (by show [J.h 129,J.h 130]=_;rw[w1,w2]),(fun _ h=>nomatch h),?_⟩
 .show [Value.pointer (ar (J.i 0) 0),.agg (nq J 1).toArray]=_;rw[va,al ah];rfl
 .refine aF.read [bU] [] [] ?_;simp only[go_sem,Nat.reduceAdd,WK,Sv,UM,US,XL,UR];have V:∀ q:Env,ai 131 J q->q.i 0=a/\q.h 129=R/\q.h 130=T/\nq q 1=nq J 1:=fun q g=>by
   refine⟨by rw[g.i 0,va],by rw[g.h 129,w1],by rw[g.h 130,w2],?_⟩;have:=fS (ks:=bU) (n:=1) g aA;exact aaQ Array.toList (Value.agg.inj this)
  have ep:Value.pointer (ar (a:Int) 0)=.pointer (some ⟨a,0,none⟩):=by rw[al ah];rfl
  have out:∀ {q:Env} {mem:Mem} {e:E},az q e=gu w hs h->postOf xN [.pointer (some ⟨a,0,none⟩),.agg (nq J 1).toArray] [] [R,T] q mem (.sv (.one (.int .i64 e))):=fun {q mem e} he =>
   pw rfl he fun F=>⟨a,R,w,hs,nq J 1,T,h,rfl,rfl,hc,hx,rfl⟩
  obtain⟨t0,t1,t2⟩:=hc.lS;have hI:∀ {k:Nat},k≠53->cI h.c k=cI (nq J 1) k:=fun hk=>hx.I hk;have h0:cI h.c 0=J.i 1:=hI aA;have h1:cI h.c 1=J.i 2:=hI aA;have h2:ba h.c 2 32=ig J 3:=by
   have:ba h.c 2 32=ba (nq J 1) 2 32:=by
    unfold ba;refine abf fun j hj=>hI ?_;have:=aaP.1 hj;omega
   rw[this];rfl
  have hu:0<=J.i 2/\J.i 2<18446744073709551616:=by
   have:=hx.rng _ (aae (xu hx.ok (k:=1) rfl));exact this
  have A1:∀ (k:Nat) (q:Env),ai k J q->131<=k->q.i 1=J.i 1/\q.i 2=J.i 2/\ig q 3=ig J 3:=fun k q g hk=>⟨g.i 1,g.i 2,CQ g ah⟩;have t0':R.cell ((a:Int)).toNat (Int.toNat 0)=some (.int .i64 w):=by rw[aaa];exact t0
  intro q1 g1 p1;obtain⟨v0,x1,x2,x3⟩:=V q1 g1;have x3':(ak 1 bU).map (CV.ev q1)=nq J 1:=x3;rw[x3',x2];refine⟨⟨_,T,h,rfl,rfl,hx⟩,fun q2 g2 ⟨F2,hp2,_⟩=>?_⟩;have G2:ai 131 J q2:=g1.tr g2;have hb2:q2.b 132=decide h.Form:=Value.bool.inj (ng hx hp2);obtain⟨y0,y1,y2,y3⟩:=V q2 G2;obtain⟨r1,r2,r3⟩:=A1 _ q2 G2 ah;refine⟨fun hb=>out ?_,fun hb=>?_⟩
  .have hF:¬h.Form:=by rw[hb2]at hb;simpa using hb
   unfold gu;rw[aay (Or.inl hF)];rfl
  have hF:h.Form:=by rw[hb2]at hb;simpa using hb
  have hseq:1<=cI h.c 1:=hF.1.2.1.1;rw[y0,y1,t0',r1,r2,ep];refine⟨ah,rfl,fun hne=>out ?_,fun heq=>?_⟩
  .have hne:¬J.i 1=w:=hne;unfold gu;rw[aay (Or.inr (by rw[h0];exact hne))];rfl
  have heq:J.i 1=w:=heq;have hn1:¬(¬h.Form\/cI h.c 0≠w):=by rw[h0];exact fun hh=>hh.elim (fun g=>g hF) (fun g=>g heq)
  refine⟨⟨a,R,w,hs,_,rfl,rfl,hc,hu,hlen⟩,fun q3 g3 ⟨F3,⟨a',R',w',hs',n',e1,e2,hc',hcase⟩,hF3,hn3⟩ q4 g4 p4=>?_⟩;simp only[aag,aau,Value.pointer.injEq,aak,Addr.mk.injEq,Value.int.injEq,aaZ]at e1 e2;obtain⟨rfl,rfl⟩:=e1;subst e2;obtain⟨rfl,rfl⟩:=hc.uniq hc';have G3:ai 132 q1 q3:=g2.tr g3;have G4:ai 131 J q4:=G2.trans (g3.mono.tr g4);obtain⟨z0,z1,z2,z3⟩:=V q4 G4;obtain⟨s1,s2,s3⟩:=A1 _ q4 G4 ah;have hb4:q4.b 261=q3.b 261:=g4.b 261;have E9:(ak 133 bU).map (CV.ev q4)=(ak 133 bU).map (CV.ev q3):=aaQ Array.toList (Value.agg.inj (fS (ks:=bU) (n:=133) g4 aA));have z3':(ak 1 bU).map (CV.ev q4)=nq J 1:=z3;rw[E9,z3',z0,z1,z2,hb4,g4.h 133,ep];refine⟨fun hb=>?_,fun hb=>?_⟩
  .rcases hcase with ⟨n1,n2,row',h',hh',ev,hI'⟩ | ⟨_,u,ev⟩
   rotate_left
   .simp only[Value.tuple.injEq,aaH,aag,Value.bool.injEq,aau]at ev;exact absurd (ev.2.symm.trans hb) aA
   simp only[Value.tuple.injEq,aaH,aag,Value.bool.injEq,aau,Value.agg.injEq]at ev;have er:=ev.1;rw[er];rw[<-hF3 zzT]at hI';have hn2:¬¬cI h.c 1<=hs.length:=by rw[h1];omega
   refine⟨⟨_,_,_,_,_,_,rfl,rfl,hI',hx⟩,fun q5 g5 ⟨F5,⟨r1',r2',R1',R2',h1',h2',f1,f2,i1,i2,hv⟩,_⟩=>?_⟩;simp only[aag,aau,Value.agg.injEq]at f1 f2;obtain⟨rfl,rfl⟩:=f2;have f1a:=aaO f1.1;have f1b:=aaO f1.2;subst f1a f1b;obtain rfl:=hI'.uniq i1;obtain rfl:=hx.uniq i2;have hb5:q5.b 263=decide (h'=h):=Value.bool.inj hv;have key:(hs[(cI h.c 1-1).toNat]?=some h)↔h'=h:=by rw[h1,hh',aak]
   refine⟨fun hb=>out ?_,fun hb=>out ?_⟩
   .unfold gu;rw[aal hn1,aay (by rw[h1];omega),aay (key.2 (by rw[hb5]at hb;simpa using hb))];rfl
   .unfold gu;rw[aal hn1,aay (by rw[h1];omega),aal (fun g=>hb (by rw[hb5];simpa using key.1 g))];rfl
  .rcases hcase with ⟨n1,n2,row',h',hh',ev,hI'⟩ | ⟨hno,u,ev⟩
   .simp only[Value.tuple.injEq,aaH,aag,Value.bool.injEq,aau]at ev;exact absurd ev.2 hb
   have hgt:¬cI h.c 1<=hs.length:=by rw[h1]at hseq ⊢;omega
   refine⟨⟨a,R,w,hs,rfl,rfl,hc⟩,fun q5 g5 ⟨F5,hp5,_⟩=>?_⟩;have e5:=Eb hc hlen hp5;have G5:ai 131 J q5:=G4.tr g5;obtain⟨u0,u1,u2,u3⟩:=V q5 G5;obtain⟨k1,k2,k3⟩:=A1 _ q5 G5 ah;have e5:q5.i 263=hs.length:=e5;have hw:IntKind.u64.wrap ((hs.length:Int)+1)=(hs.length:Int)+1:=by rw[IntKind.wrap_u64];omega
   rw[e5,k2,hw,u0,u1];have hcb:bC R ((a:Int)).toNat (Int.toNat 2) (Int.toNat 32)=true:=by rw[aaa];exact t1
   refine⟨fun hlt=>out ?_,fun hge=>⟨hcb,?_⟩⟩
   .unfold gu;rw[aal hn1,aal hgt,aay (by rw[h1];omega)];rfl
   have hge':¬((hs.length:Int)+1<cI h.c 1):=by rw[h1];omega
   have key:=Wk q5 3 (fun j=>bV (R.cell ((a:Int)).toNat (Int.toNat 2+j)));have et:(List.range 32).map (fun j=>bV (R.cell ((a:Int)).toNat (Int.toNat 2+j)))=ji hs:=by rw[aaa];exact t2
   rw[et,k3,<-h2]at key;refine⟨fun hne=>out ?_,fun heq=>out ?_⟩
   .have hne:¬ba h.c 2 32=ji hs:=fun g=>hne (key.1 g);unfold gu;rw[aal hn1,aal hgt,aal hge',aay hne];rfl
   .have heq:ba h.c 2 32=ji hs:=key.2 heq;unfold gu;rw[aal hn1,aal hgt,aal hge',aal (fun g=>g heq)];rfl
end Go.Proofs.YtomdimlnggpgbaaGreatDoor
namespace Go.Sx
open Go
variable {us vs:List Value}{b k n x y:Nat}{T e:TypeId}{v:Value}
def Hl.mem_of {H:Hl} {o:Obj} (h:H b=some o):H.mem b:=by unfold Hl.mem;rw[h];rfl
variable {A F G H:Hl}
def Hl.pR (h:b≠x):H.put x y vs b=H b:=by
 unfold Hl.put;rw[aal h]
def Hl.r8 {c:Array Value} {fr:Nat×Nat} (h:H x=some (.cells c T fr)):H.put x y vs x=some (.cells (bz c.toList y vs).toArray T fr):=by
 unfold Hl.put;rw[aay rfl,h]
def Hl.yG (h:A.le H) (hx:¬A.mem x):A.le (H.put x y vs):=fun b o hb=>by
 rw[Hl.pR fun e=>hx (by rw[<-e];exact Hl.mem_of hb)];exact h b o hb
def aK.at (h:aK F e k v n us) (hk:∀ b,v.ownBlock=some b->G b=F b):aK G e k v n us:=by
 refine⟨h.1,h.2.imp id fun⟨g,cap,cur,hv,hg,r⟩=>⟨g,cap,cur,hv,?_,r⟩⟩;rw[hk g (by rw[hv];rfl)];exact hg
def aK.type (h:aK F e k v n us) (hb:v.ownBlock=some b):∃ c,F b=some (.cells c e (0,0)):=by
 rcases h.2 with ⟨h,_⟩ | ⟨g,cap,cur,h,hg,_⟩
 .rw[h]at hb;cases hb
 .rw[h]at hb;have:g=b:=by simpa [Value.ownBlock] using hb
  subst this;exact⟨_,hg⟩
def jB (A B:Hl):cu [A,B]=A.un B:=by
 show A.un (B.un Hl.none)=_;rw[Hl.jg]
def Cy {x:Int} {c:Nat} (h:(Value.slice (ar x 0) n c).ownBlock=some b) (hx:-1<=x):x=b:=by
 rcases abp x 0 with hlt | h0
 .rw[show x= -1 by omega,dr]at h;cases h
 .rw[al h0]at h;have:x.toNat=b:=by simpa [Value.ownBlock] using h
  omega
end Go.Sx
namespace Go.Proofs.YtomdimlnggpgbaaGreatDoor
open Go Go.Sx Go.Pk
variable {h h':Hd}{A B C G H K KT R R':Hl}{w x z:Int}{rows:List (List Value)}{hs:List Hd}{lS s t:List Int}{b l row row':List Value}{a c c1 i j n n1 y:Nat}
def J8 (w:Int) (v:Value) (lS:List Int):List Value:=[.int .i64 w,v]++aS lS
def Pw (w:Int) (v u:Value) (lS t:List Int) (h1:lS.length=32) (h2:t.length=32):bz (bz (J8 w v lS) 1 [u]) 2 (aS t)=J8 w u t:=by
 have e:bz (J8 w v lS) 1 [u]=.int .i64 w::u::aS lS:=by simp [bz,J8]
 rw[e];unfold bz J8;rw[bY,h2];simp [adf,bY,h1]
def xO 
 (hK:K a=some (.cells (J8 w (.slice (ar x 0) hs.length c) lS).toArray 237 (0,0))) (hO:sE K 65 de (.slice (ar x 0) hs.length c) rows)
 (hk:∀ b,K.mem b->some b≠(Value.slice (ar x 0) hs.length c).ownBlock->G b=K b):G a=some (.cells (J8 w (.slice (ar x 0) hs.length c) lS).toArray 237 (0,0)):=by
 have ea:some a≠(Value.slice (ar x 0) hs.length c).ownBlock:=fun e=>by
  obtain⟨cc,hc⟩:=hO.2.type e.symm;rw[hK]at hc;simp at hc
 rw[hk a (Hl.mem_of hK) ea,hK]
def jX {T:TypeId} (h:H a=some (.cells l.toArray T (0,0))) (hl:y+n<=l.length):H.wr a y n=true:=by
 unfold Hl.wr;rw[h];simp [hl]
def Ka {x1:Int} 
 (hK:K a=some (.cells (J8 w (.slice (ar x 0) hs.length c) lS).toArray 237 (0,0))) (hO:sE K 65 de (.slice (ar x 0) hs.length c) rows)
 (hT:KT.le K) (hA:gn KT rows hs) (hna:¬KT.mem a) (hnx:∀ b:Nat,x=b->¬KT.mem b) (hx:-1<=x) (htip:lS.length=32) (hI:bS B row h) (hx1:-1<=x1)
 (happ:∀ xs,aK K 65 de.length (.slice (ar x 0) hs.length c) hs.length xs->aK G 65 de.length (.slice (ar x1 0) n1 c1) (hs.length+1) (xs++row)) (hn1:n1=hs.length+1)
 (hk:∀ b,K.mem b->some b≠(Value.slice (ar x 0) hs.length c).ownBlock->G b=K b)
 (hnew:some x1.toNat=(Value.slice (ar x 0) hs.length c).ownBlock\/¬K.mem x1.toNat\/x1= -1)
 (hGB:(((G.put a 1 [.slice (ar x1 0) n1 c1]).put a 2 (aS (nj h)))).bq B) :
 ir (((G.put a 1 [.slice (ar x1 0) n1 c1]).put a 2 (aS (nj h))).un B) a w (hs++[h]):=by
 subst hn1;have hG:=xO hK hO hk;have hl:rows.length=hs.length:=hA.1;have hOG:=happ rows.flatten (by have:=hO.2;rw[hl]at this;exact this);have ha1:∀ b,(Value.slice (ar x1 0) (hs.length+1) c1).ownBlock=some b->b≠a:=fun b hb e=>by
  subst e;obtain⟨cc,hc⟩:=hOG.type hb;rw[hG]at hc;simp at hc
 have hOF:sE ((G.put a 1 [.slice (ar x1 0) (hs.length+1) c1]).put a 2 (aS (nj h))) 65 de (.slice (ar x1 0) (hs.length+1) c1) (rows++[row]):=by
  have:=sE.snoc (rows:=rows) hO.1 hI.ok hOG (by rw[hl]) rfl;refine⟨this.1,this.2.at fun b hb=>?_⟩;rw[Hl.pR (ha1 b hb),Hl.pR (ha1 b hb)]
 have hKT:KT.le ((G.put a 1 [.slice (ar x1 0) (hs.length+1) c1]).put a 2 (aS (nj h))):=by
  refine Hl.yG (Hl.yG (fun b o hb=>?_) hna) hna;rw[hk b (Hl.bZ hT (Hl.mem_of hb)) fun e=>hnx b (Cy e.symm hx) (Hl.mem_of hb)];exact hT b o hb
 have hF:((G.put a 1 [.slice (ar x1 0) (hs.length+1) c1]).put a 2 (aS (nj h))) a=some (.cells (J8 w (.slice (ar x1 0) (hs.length+1) c1) (nj h)).toArray 237 (0,0)):=by
  rw[Hl.r8 (Hl.r8 hG)];simp only[acy];rw[Pw _ _ _ _ _ htip (show(nj h).length=32 from fT _)]
 generalize (G.put a 1 [.slice (ar x1 0) (hs.length+1) c1]).put a 2 (aS (nj h))=G2 at *;have hAll:gn (KT.un B) (rows++[row]) (hs++[h]):=(hA.mono (Hl.aX _ _)).snoc (hI.mono (Hl.bj fun b ⟨y,z⟩=>hGB b ⟨Hl.bZ hKT y,z⟩));have hle:(KT.un B).le (G2.un B):=fun b o hb=>by
  unfold Hl.un at hb ⊢;cases hq:KT b with
  | some o'=>rw[hq]at hb;cases hb;rw[hKT _ _ hq];rfl
  | none =>
   rw[hq]at hb;have hb:B b=some o:=hb;cases hg:G2 b with
   | none=>exact hb
   | some o2=>exact absurd ⟨Hl.mem_of hg,Hl.mem_of hb⟩ (hGB b)
 refine⟨x1,c1,rows++[row],?_,?_,hAll.mono hle,hx1,KT.un B,hle,hAll,fun hm=>?_,fun b hb hm=>?_⟩
 .rw[Hl.aX G2 B _ _ hF,aac];have:ji (hs++[h])=nj h:=by unfold ji;rw[List.getLast?_append];rfl
  rw[this];rfl
 .rw[aac];exact⟨hOF.1,aK.mono (Hl.aX _ _) hOF.2⟩
 .rcases Hl.cE.1 hm with h1 | h1
  .exact hna h1
  .exact hGB a ⟨Hl.mem_of hF,h1⟩
 .have hob:(Value.slice (ar x1 0) (hs.length+1) c1).ownBlock=some b:=by
   rw[al ah];show some x1.toNat=_;rw[hb,aaa]
  rcases Hl.cE.1 hm with h1 | h1
  .have hkm:=Hl.bZ hT h1;rcases hnew with h2 | h2 | h2
   .rw[hb,aaa]at h2;exact hnx b (Cy h2.symm hx) h1
   .rw[hb,aaa]at h2;exact h2 hkm
   .omega
  .obtain⟨cc,hc⟩:=hOF.2.type hob;exact hGB b ⟨Hl.mem_of hc,h1⟩
noncomputable def DC:Sx.Spec where
 fn:=137
 own:=[.arg 0]
 rd:=[10153,2000005]
 res:=[.one (.int .i64)]
 pre:=fun xs Hs Rs=>∃ a K w hs row T RG h,xs=[.pointer (some ⟨a,0,none⟩),.agg row.toArray]/\Hs=[K]/\Rs=[T,RG]/\ir K a w hs/\hs.length<1000000/\bS T row h/\uf RG 5
 post:=fun xs Hs Rs v Hs' F=>∃ a K w hs row T RG h K',xs=[.pointer (some ⟨a,0,none⟩),.agg row.toArray]/\Hs=[K]/\Rs=[T,RG]/\ir K a w hs/\bS T row h/\Hs'=[K']/\v=.int .i64 (gu w hs h)/\(gu w hs h=0->ir K' a w (hs++[h]))/\(gu w hs h≠0->ir K' a w hs)
noncomputable def WJ:List Sx.Spec:=[xN,Kf,WN]
def Sq:∀ t∈WJ,t.OK Tryz.prog:=av DF <| av Iu <| av SE <| bN
def XJ:xN.res=[.one (.int .i64)]:=rfl
def XK:WN.res=[.agg (List.replicate 32 (Ck.int .u8))]:=rfl
noncomputable def DD:aF Tryz.prog WJ DC.fn where
 Λ:=aD
 args:=TP (.var 0) (.lit 0)::(bW 1 [.agg bU]).map .sv
 mem:=[.hp 129 [] [.var 0] [],.ro 130 [.var 54] true,.ro 131 [.lit 5] false]
 nv:=132
def MT {a:Int} (h:bf row de):∃ q:Env,q.i 0=a/\row=nq q 1/\q.h 129=A/\q.h 130=B/\q.h 131=C:=by
 obtain⟨q,g,hn,e⟩:=cU bU 1 row (bh fun _=>a) h;exact⟨⟨q.i,q.b,q.s,q.v,fun k=>if k=129 then A else if k=130 then B else if k=131 then C else Hl.none⟩,g.i 0,e.symm,rfl,rfl,rfl⟩
set_option maxRecDepth 20000 in
def Mm:DC.OK Tryz.prog:=by
 refine Spec.aV (Γ:=WJ) Sq ?_;rintro xs Hs Rs hl1 hl2 ⟨a,K,w,hs,row,T,RG,h,rfl,rfl,rfl,hc,hlen,hx,hKat⟩;obtain⟨J,va,rfl,w1,w2,w3⟩:=MT (A:=K) (B:=T) (C:=RG) (a:=(a:Int)) hx.ok;refine⟨DD,J,fun _ _=>True,fun _ _=>0,?_,⟨?_,?_,?_,?_⟩,(fun _ h=>nomatch h),?_⟩
 .show [Value.pointer (ar (J.i 0) 0),.agg (nq J 1).toArray]=_;rw[va,al ah];rfl
 .intro r hr ho;simp [DD]at hr;rcases hr with rfl | rfl | rfl
  .exact⟨K,aC,by show(J.h 129).le K;rw[w1];exact Hl.le_refl _⟩
  .cases ho
  .cases ho
 .intro r hr ho;simp [DD]at hr;rcases hr with rfl | rfl | rfl
  .cases ho
  .exact⟨T,aC,by show(J.h 130).le T;rw[w2];exact Hl.le_refl _⟩
  .exact⟨RG,aC,by show(J.h 131).le RG;rw[w3];exact Hl.le_refl _⟩
 .simp [DD,bm.own]
 .intro r hr;simp [DD]at hr;rcases hr with rfl | rfl | rfl<;>trivial
 .refine aF.read [bU] [] [] ?_;simp only[go_sem,Nat.reduceAdd,WJ,XJ,UN,XK,UL];obtain⟨x,c,rows,hK,hO,hA,hx',KT,hT,hAT,hna,hnx⟩:=id hc;have hK:K a=some (.cells (J8 w (.slice (ar x 0) hs.length c) (ji hs)).toArray 237 (0,0)):=hK;have hlr:rows.length=hs.length:=hA.1;have c1:K.cell ((a:Int)).toNat (Int.toNat 1)=some (.slice (ar x 0) hs.length c):=by rw[aaa];simp [Hl.cell,hK,J8]
  have V:∀ q:Env,ai 132 J q->q.i 0=a/\q.h 129=K/\q.h 130=T/\q.h 131=RG/\(ak 1 bU).map (CV.ev q)=nq J 1:=fun q g =>
   ⟨by rw[g.i 0,va],by rw[g.h 129,w1],by rw[g.h 130,w2],by rw[g.h 131,w3],aaQ Array.toList (Value.agg.inj (fS (ks:=bU) (n:=1) g aA))⟩
  have ep:Value.pointer (ar (a:Int) 0)=.pointer (some ⟨a,0,none⟩):=by rw[al ah];rfl
  have esl:Value.slice (ar (bo (some (Value.slice (ar x 0) hs.length c)) 0) (bo (some (Value.slice (ar x 0) hs.length c)) 1)) (bo (some (Value.slice (ar x 0) hs.length c)) 2).toNat (bo (some (Value.slice (ar x 0) hs.length c)) 3).toNat=.slice (ar x 0) hs.length c:=ij ⟨_,_,_,rfl⟩;have e2:bo (some (Value.slice (ar x 0) hs.length c)) 2=hs.length:=T8 hx' _ _;intro q1 g1 p1;obtain⟨v0,x1,x2,x3,xr⟩:=V q1 g1;rw[v0,x1,x2,xr,ep];refine⟨⟨a,K,w,hs,_,T,h,rfl,rfl,⟨K,Hl.le_refl _,hc⟩,hlen,hx⟩,fun q2 g2 ⟨F2,⟨a',R',w',hs',row',T',h',f1,f2,c2,i2,hv⟩,_⟩=>?_⟩;simp only[aag,aau,Value.pointer.injEq,aak,Addr.mk.injEq,Value.agg.injEq]at f1 f2;obtain⟨rfl,f1⟩:=f1;obtain⟨rfl,rfl⟩:=f2;have f1:=aaO f1;subst f1;obtain⟨rfl,rfl⟩:=cA.uniq ⟨K,Hl.le_refl _,hc⟩ c2;obtain rfl:=hx.uniq i2;have hask:q2.i 133=gu w hs h:=by simpa using hv
  have G2:ai 132 J q2:=g1.tr g2;obtain⟨y0,y1,y2,y3,yr⟩:=V q2 G2;refine⟨fun hne _=>?_,fun heq=>?_⟩
  .refine⟨[[0]],[],rfl,rfl,⟨(bh fun _=>q2.i 133),rfl,zzT,zzT⟩,a,K,w,hs,_,T,RG,h,_,rfl,rfl,rfl,hc,hx,rfl,by rw[<-hask];rfl,fun h0=>absurd (hask.trans h0) hne,fun _=>?_⟩;show ir (cu [q2.h 129]) _ _ _;rw[aL,y1];exact hc
  have h0:gu w hs h=0:=hask.symm.trans heq;rw[y0,y1,y2,yr,c1];refine⟨ah,rfl,⟨_,T,h,rfl,rfl,hx⟩,fun q3 g3 ⟨F3,hp3,hF3,hn3⟩ q4 g4 p4=>?_⟩;obtain⟨row',er,hI⟩:=hp3 _ _ _ rfl rfl hx;have er:=aaO (Value.agg.inj er);rw[<-hF3 zzT]at hI;have G4:ai 132 J q4:=G2.trans (g3.mono.tr g4);obtain⟨z0,z1,z2,z3,zr⟩:=V q4 G4;have rowB:(ak 134 bU).map (CV.ev q4)=row':=(aaQ Array.toList (Value.agg.inj (fS (ks:=bU) (n:=134) g4 aA))).trans er;rw[z0,z1,c1,esl,e2,rowB,aaa];refine⟨⟨⟨rows.flatten,by have:=hO.2;rw[hlr]at this;exact this⟩,ah,by unfold maxLen;omega,ah⟩,fun q5 g5 ⟨a1,a2,happ,hkp,_,hnw⟩=>?_⟩;have G5:ai 132 J q5:=G4.tr g5;obtain⟨u0,u1,u2,u3,ur⟩:=V q5 G5;have hG5:=xO hK hO hkp;have el1:((hs.length:Int)+1).toNat=hs.length+1:=ah;rw[u0,u1,c1,e2,el1,show((a:Int)).toNat=a from aaa a];refine⟨⟨ah,ah,jX hG5 (by simp [J8])⟩,fun q6 g6 p6=>?_⟩;have G6:ai 132 J q6:=G5.tr g6;obtain⟨s0,s1,s2,s3,sr⟩:=V q6 G6;rw[s2,s3,sr];refine⟨⟨_,T,RG,h,rfl,rfl,hx,hKat⟩,fun q7 g7 ⟨F7,hp7,_⟩=>?_⟩;have hp7:=hp7 _ _ _ _ rfl rfl hx;have hp7:=aaO (Value.agg.inj hp7);have G7:ai 132 J q7:=G6.tr g7;obtain⟨k0,_⟩:=V q7 G7;rw[k0,hp7,g7.h 265,p6,show((a:Int)).toNat=a from aaa a];refine⟨⟨ah,ah,jX (Hl.r8 hG5) ?_⟩,fun q8 g8 p8=>?_⟩
  .show 2+32<=_;simp [J8,bz,bY,qg]
  intro hdis;have hGB:=hdis 0 4 _ _ aA rfl rfl rfl;have h134:q8.h 134=q3.h 134:=by rw[g8.h 134,g7.h 134,g6.h 134,g5.h 134,g4.h 134]
  have hGB:(q8.h 298).bq (q8.h 134):=hGB;rw[p8,h134]at hGB;have key:=Ka hK hO hT hAT hna hnx hx' (qg hs) hI a1 happ rfl hkp hnw hGB;refine⟨[[0,4]],[],rfl,rfl,⟨(bh fun _=>0),rfl,zzT,zzT⟩,a,K,w,hs,_,T,RG,h,_,rfl,rfl,rfl,hc,hx,rfl,by rw[h0];rfl,fun _=>?_,fun hne=>absurd h0 hne⟩;show ir (cu [q8.h 298,q8.h 134]) _ _ _;rw[jB,p8,h134];exact key
def Ew {x:Nat} (hx:x<18446744073709551616) (hy:y<18446744073709551616) (h:aj x++s=aj y++t):x=y/\s=t:=by
 have e1:=uM hx s;rw[h,uM hy t]at e1;simp only[aak,aaS]at e1;obtain⟨e1,_⟩:=e1;subst e1;exact⟨rfl,List.append_cancel_left h⟩
def tO {a:List Value} (h:ba a i n=ba b i n) (hj:j<n):cI a (i+j)=cI b (i+j):=by
 have:=aaQ (fun l=>l[j]?) h;unfold ba at this;simpa [aao,aaJ hj] using this
def GJ:Option Kd->Bool
 | some (.int _)=>true
 | _=>false
def PV:((List.range 125).all fun k=>k==53||k==35||GJ de[k]?)=true:=by kernel_rfl
def M7 {v:Value} {kd:IntKind} (h:bw (some v) (.int kd)=true):∃ z,v=.int kd z:=by
 cases v<;>simp [bw]at h
 subst h;exact⟨_,rfl⟩
def qK (h0:0<=z) (h1:z<18446744073709551616):br z=z.toNat:=by unfold br;rw[IntKind.wrap_u64];omega
def UK (x:bS R row h) (y:bS R' row' h') (e:∀ k,k<125->k≠53->k≠35->cI h.c k=cI h'.c k) (e35:cB h.c 35=cB h'.c 35):h.c=h'.c:=by
 have l1:=fj x.ok;have l2:=fj y.ok;have hl:de.length=125:=rfl;rw[x.core,y.core];apply aaN;intro k;by_cases h53:k=53
 .subst h53;rw[abm ah,abm ah]
 rw[abd ah,abd ah];by_cases hk:k<125
 .by_cases h35:k=35
  .subst h35;obtain⟨v,hv,hi⟩:=iN x.ok (k:=35) (kd:=.bool) rfl;obtain⟨v',hv',hi'⟩:=iN y.ok (k:=35) (kd:=.bool) rfl;rw[x.B aA,y.B aA]at e35;unfold cB at e35;rw[hv,hv']at e35 ⊢;cases v<;>simp [bw]at hi
   cases v'<;>simp [bw]at hi'
   simp only[zV]at e35;rw[e35]
  .have:=aaD.1 PV k (aaP.2 hk);simp only[h53,h35,acF,abA,false_or,decide_false]at this;have hkk:∃ kd,de[k]?=some (.int kd):=by
    cases hq:de[k]? with
    | none=>rw[hq]at this;simp [GJ]at this
    | some d=>rw[hq]at this;cases d<;>simp [GJ]at this;exact⟨_,rfl⟩
   obtain⟨kd,hkd'⟩:=hkk;obtain⟨v,hv,hi⟩:=iN x.ok hkd';obtain⟨v',hv',hi'⟩:=iN y.ok hkd';obtain⟨z,rfl⟩:=M7 hi;obtain⟨z',rfl⟩:=M7 hi';have ee:=e k hk h53 h35;rw[x.I h53,y.I h53]at ee;unfold cI at ee;rw[hv,hv']at ee ⊢;simp only[bV]at ee;rw[ee]
 .rw[aas ah,aas ah]
def PR (x:bS R row h) (y:bS R' row' h') (hF:h.Form) (hF':h'.Form) (e:LS h=LS h'):h=h':=by
 obtain⟨⟨hw,hs,he,ht,hk,hkn,hp⟩,h8,hso,hpd,hct⟩:=id hF;obtain⟨⟨hw',hs',he',ht',hk',hkn',hp'⟩,h8',hso',hpd',hct'⟩:=id hF';have u:∀ {R:Hl} {row:List Value} {h:Hd} (hx:bS R row h) {k:Nat},de[k]?=some (.int .u64)->k≠53->0<=cI h.c k/\cI h.c k<18446744073709551616:=by
  intro R row h hx k hk h53;rw[hx.I h53];exact hx.rng _ (aae (xu hx.ok hk))
 have hsz:=yz hpd;have hsz':=yz hpd';unfold LS m8 ri aZ at e;rw[qK (z:=cI h.c 0) ah ah,qK (z:=cI h.c 34) ah ah,qK (z:=cI h.c 92) ah ah,
  qK (z:=cI h'.c 0) ah ah,qK (z:=cI h'.c 34) ah ah,qK (z:=cI h'.c 92) ah ah]at e
 simp only[aaF]at e;have N:∀ {k:Nat},0<=cI h.c k/\cI h.c k<18446744073709551616->0<=cI h'.c k/\cI h'.c k<18446744073709551616->∀ {s t:List Int},aj (cI h.c k).toNat++s=aj (cI h'.c k).toNat++t->cI h.c k=cI h'.c k/\s=t:=by
  intro k a b s t e;obtain⟨e1,e2⟩:=Ew ah ah e;exact⟨ah,e2⟩
 have S:∀ {a n:Nat} {s t:List Int},ba h.c a n++s=ba h'.c a n++t->ba h.c a n=ba h'.c a n/\s=t:=by
  intro a n s t e;exact acm e (by rw[aR,aR])
 obtain⟨e0,e⟩:=N (k:=0) ah ah e;obtain⟨e1,e⟩:=N (k:=1) ah ah e;obtain⟨e2,e⟩:=S e;obtain⟨e34,e⟩:=N (k:=34) ah ah e;obtain⟨e35,e⟩:=acm e rfl;obtain⟨e36,e⟩:=N (k:=36) (u x rfl aA) (u y rfl aA) e;obtain⟨e37,e⟩:=S e;obtain⟨eT,e⟩:=Ew ah ah e;have lT:∀ {T:List (List Int)},(∀ t∈T,t.length=16)->T.flatten.length=16*T.length:=by
  intro T
  induction T with
  | nil=>intro _;rfl
  | cons t T ih =>
   intro h;rw[aby,aac,h t (aaI ..),ih fun t ht=>h t (aaq _ ht),aaL];omega
 have l1:∀ t∈h.t,t.length=16:=fun t ht=>(x.byte.2 t ht).1;have l2:∀ t∈h'.t,t.length=16:=fun t ht=>(y.byte.2 t ht).1;obtain⟨et,e⟩:=acm e (by rw[lT l1,lT l2,eT]);obtain⟨e54,e⟩:=N (k:=54) (u x rfl aA) (u y rfl aA) e;obtain⟨e55,e⟩:=N (k:=55) (u x rfl aA) (u y rfl aA) e;obtain⟨e56,e⟩:=N (k:=56) (u x rfl aA) (u y rfl aA) e;obtain⟨e57,e⟩:=N (k:=57) (u x rfl aA) (u y rfl aA) e;obtain⟨e58,e⟩:=N (k:=58) (u x rfl aA) (u y rfl aA) e;obtain⟨e59,e⟩:=N (k:=59) (u x rfl aA) (u y rfl aA) e;obtain⟨e60,e⟩:=S e;obtain⟨e92,e⟩:=N (k:=92) ah ah e;have e93:=e;have hT:∀ {T T':List (List Int)},(∀ t∈T,t.length=16)->(∀ t∈T',t.length=16)->T.flatten=T'.flatten->T=T':=by
  intro T
  induction T with
  | nil =>
   intro T' _ h2 e;cases T' with
   | nil=>rfl
   | cons t T' =>
    have:=aaQ List.length e;rw[abZ,aby,aac,h2 t (aaI ..),aa9]at this;omega
  | cons t T ih =>
   intro T' h1 h2 e;cases T' with
   | nil =>
    have:=aaQ List.length e;rw[abZ,aby,aac,h1 t (aaI ..),aa9]at this;omega
   | cons t' T' =>
    rw[aby,aby]at e;obtain⟨a,b⟩:=acm e (by rw[h1 t (aaI ..),h2 t' (aaI ..)]);rw[a,ih (fun t ht=>h1 t (aaq _ ht)) (fun t ht=>h2 t (aaq _ ht)) b]
 have ec:=UK x y (fun k hk h53 h35=>by
  by_cases k1:k<2
  .have:k=0\/k=1:=ah;rcases this with rfl | rfl
   .exact e0
   .exact e1
  by_cases k2:k<34
  .have:=tO e2 (j:=k-2) ah;rwa[show 2+(k-2)=k by omega]at this
  by_cases k3:k<37
  .have:k=34\/k=36:=ah;rcases this with rfl | rfl
   .exact e34
   .exact e36
  by_cases k4:k<53
  .have:=tO e37 (j:=k-37) ah;rwa[show 37+(k-37)=k by omega]at this
  by_cases k5:k<60
  .have:k=54\/k=55\/k=56\/k=57\/k=58\/k=59:=ah;rcases this with rfl | rfl | rfl | rfl | rfl | rfl<;>assumption
  by_cases k6:k<92
  .have:=tO e60 (j:=k-60) ah;rwa[show 60+(k-60)=k by omega]at this
  by_cases k7:k=92
  .subst k7;exact e92
  .have:=tO e93 (j:=k-93) ah;rwa[show 93+(k-93)=k by omega]at this) (by
  unfold fm at e35;simp only[aag,aau]at e35;cases h1:cB h.c 35<;>cases h2:cB h'.c 35<;>simp [h1,h2]at e35 ⊢)
 have et':=hT l1 l2 et;cases h;cases h';exact congr (aaQ Hd.mk ec) et'
def BV (x:bS R row h) (y:bS R' row' h') (hF:h.Form) (hF':h'.Form):bD h=bD h'↔h=h':=by
 refine⟨fun e=>?_,fun e=>by rw[e]⟩;unfold bD at e;rw[aay hF,aay hF']at e;exact PR x y hF hF' e
end Go.Proofs.YtomdimlnggpgbaaGreatDoor
namespace Go.Sx
open Go
end Go.Sx
namespace Go.Proofs.YtomdimlnggpgbaaGreatDoor
open Go Go.Sx Go.Pk
variable {R R1 R2 RA:Hl}{x y:Int}{row:List Value}{k l:Nat}
def gJ:List Ck:=bU++[.sl]
def mP:List Kd:=gJ.map j8
def Ct:Value:=.bool false
structure Pc where
 h:Hd
 b:List Int
variable {c p p':Pc}
structure dz (R1 R2:Hl) (row:List Value) (p:Pc):Prop where
 ok:bf row mP
 hd:bS R1 (row.take 125) p.h
 body:fC R2 (row.getD 125 Ct) p.b
 byte:aG p.b
 len:p.b.length<=1000000
def dz.mono {R1' R2':Hl} (x:dz R1 R2 row p) (h1:R1.le R1') (h2:R2.le R2'):dz R1' R2' row p:=⟨x.ok,x.hd.mono h1,jP x.body h2,x.byte,x.len⟩
def dz.uniq (x:dz R1 R2 row p) (y:dz R1 R2 row p'):p=p':=by
 obtain⟨h,b⟩:=p;obtain⟨h',b'⟩:=p';have e1:h=h':=x.hd.uniq y.hd;have e2:b=b':=x.body.uniq y.body;rw[e1,e2]
def Mt {q:Env} (g:Nat->Hl):∀ (ks:List Ck) (n:Nat),(ak n ks).map (CV.ev q)=(ak n ks).map (CV.ev ⟨q.i,q.b,q.s,q.v,g⟩)
 | [],_=>rfl
 | k::ks,n=>by
  show(k.cv n).ev q::_=(k.cv n).ev _::_;rw[Mt g ks]
  congr 1
  cases k<;>rfl
def NG {q:Env} (g:Nat->Hl):∀ (ks:List Ck) (n:Nat),bu n ks q->bu n ks ⟨q.i,q.b,q.s,q.v,g⟩
 | [],_,_=>trivial
 | k::ks,n,h=>⟨(by have h1:=h.1;cases k<;>exact h1),NG g ks _ h.2⟩
def uD (hs:List (Nat×Hl)) (k:Nat):Hl:=match hs.find? (fun p=>p.1==k)with
 | some p=>p.2
 | none=>Hl.none
def CN {ks:List Ck} (hs:List (Nat×Hl)) (h:bf row (ks.map j8)):∃ q:Env,row=(ak 0 ks).map (CV.ev q)/\bu 0 ks q/\∀ k,q.h k=uD hs k:=by
 obtain⟨q,_,hn,e⟩:=cU ks 0 row (bh fun _=>0) h;exact⟨⟨q.i,q.b,q.s,q.v,uD hs⟩,by rw[<-Mt (uD hs)];exact e.symm,NG _ _ _ hn,fun _=>rfl⟩
def gF:∀ {n:Nat} {l:List Value} {ks:List Kd},bf l ks->bf (l.take n) (ks.take n)
 | 0,_,_,_=>trivial
 | _+1,[],[],_=>trivial
 | n+1,_::_,_::_,h=>⟨h.1,gF (n:=n) h.2⟩
 | _+1,[],_::_,h=>False.elim h
 | _+1,_::_,[],h=>False.elim h
def qT (R RA:Hl) (v:Value) (ps:List Pc):Prop:=∃ rows,aJ R v mP rows/\rows.length=ps.length/\∀ (j:Nat) row p,rows[j]?=some row->ps[j]?=some p->dz RA RA row p
def fY:mP.length=126:=by kernel_rfl
def pP:mP.take 125=de:=by kernel_rfl
structure JV (R RA:Hl) (x y:Int) (k:Nat) (row:List Value) (c:Pc):Prop where
 x0:0<=x
 pc:dz RA RA row c
 cell:∀ j u,row[j]?=some u->R.cell x.toNat (y.toNat+k*126+j)=some u
def qT.at {c:Nat} {ps:List Pc} (h:qT R RA (.slice (ar x y) l c) ps) (hy:0<=y):l=ps.length/\∀ (k:Nat) p,ps[k]?=some p->∃ row,JV R RA x y k row p:=by
 obtain⟨rows,⟨x1,y1,c1,he,hy1,hr⟩,hl,hp⟩:=h;simp only[Value.slice.injEq]at he;refine⟨he.2.1.trans hl,fun k p hk=>?_⟩;have qv:=(aah.1 hk).1;have aB:rows[k]?=some rows[k]:=aab ah;rcases hr with rfl | ⟨hx1,hr⟩
 .simp at hl;omega
 obtain⟨e1,e2⟩:=km hx1 hy1 hy he.1;subst e1 e2;obtain⟨_,h2⟩:=hr k _ aB;rw[fY]at h2;exact⟨rows[k],hx1,hp k _ _ aB hk,h2⟩
def JV.Rk (h:JV R RA x y k row c) (hy:0<=y):tL R x.toNat (y+(k:Int)*126).toNat de=true/\∀ {q:Env} {g a b n:Nat},q.h g=R->q.i a=x->q.i b=y->q.i n=k->(aU g (.var a) (.add (.var b) (.mul (.var n) (.lit 126))) 0 de).map (CV.ev q)=row.take 125:=by
 have e:(y+(k:Int)*126).toNat=y.toNat+k*126:=ah;have ho:=gF (n:=125) h.pc.ok;rw[pP]at ho;have hc:∀ i u,(row.take 125)[i]?=some u->R.cell x.toNat (y.toNat+k*126+i)=some u:=fun i u hu=>by
  rw[aa2]at hu;split at hu
  .exact h.cell i u hu
  .cases hu
 refine⟨by rw[e];exact jR _ ho hc,fun {q g a b n} hg ha hb hn=>dq (row.take 125) de 0 ho fun i u hu=>?_⟩;show(q.h g).cell (q.i a).toNat ((q.i b+q.i n*126).toNat+(0+i))=some u;rw[hg,ha,hb,hn,e,aaM];exact hc i u hu
def JV.body (h:JV R RA x y k row c) (hy:0<=y):∃ u,R.cell x.toNat (y+(k:Int)*126+125).toNat=some u/\fC RA u c.b:=by
 have e:(y+(k:Int)*126+125).toNat=y.toNat+k*126+125:=ah;have hl:=fj h.pc.ok;rw[fY]at hl;have g1:row[125]?=some row[125]:=aab ah;have hb:=h.pc.body;rw[aap,g1,abw]at hb;exact⟨_,by rw[e];exact h.cell 125 _ g1,hb⟩
def QI {u:Value} {b:List Int} (h:fC R u b):bo (some u) 2=b.length:=by
 obtain⟨x,y,c,rfl,_⟩:=h;simp [bo]
end Go.Proofs.YtomdimlnggpgbaaGreatDoor
namespace Go.Sx
open Go
section
variable {P:Program}
def Spec.Ql {s:Spec} (h:∀ xs Hs Rs,s.pre xs Hs Rs->({s with pre:=fun a b c=>a=xs/\b=Hs/\c=Rs} : Spec).OK P):s.OK P :=
 fun w xs Hs Rs l1 l2 s1 s2 d1 d2 hp=>h xs Hs Rs hp w xs Hs Rs l1 l2 s1 s2 d1 d2 ⟨rfl,rfl,rfl⟩
def Cd (s:Spec) (K R:Hl):Spec where
 fn:=s.fn
 own:=s.own
 rd:=s.rd
 res:=s.res
 pre:=fun xs Hs Rs=>Hs=[K.un R]/\K.bq R/\s.pre xs [K] Rs
 post:=fun xs Hs Rs v Hs' F=>∃ K',Hs'=[K'.un R]/\K'.bq R/\F.bq R/\s.post xs [K] Rs v [K'] F
def Ko {s:Spec} (h1:s.own.length=1) (hs:s.OK P) (K R:Hl):(Cd s K R).OK P:=by
 intro w xs Hs Rs l1 l2 hsub hrs hd Rk ⟨e,hKR,hp⟩;subst e;have hH:=hsub _ (aam.2 rfl);have kw:K.sub w:=fun b o hb=>hH b o (Hl.aX K R b o hb);have rw':R.sub w:=fun b o hb=>hH b o (Hl.bj hKR b o hb);have hc:=hs w xs [K] Rs (by rw[h1];rfl) l2 (fun H hH=>by rw[aam.1 hH];exact kw) hrs
  (fun p q H H2 hpq a b=>by
   cases p with
   | zero=>cases q with
    | zero=>exact absurd rfl hpq
    | succ q=>simp at b
   | succ p=>simp at a)
  (fun H hH R1 hR=>by
   rw[aam.1 hH];intro b ⟨x,y⟩;exact Rk _ (aam.2 rfl) R1 hR b ⟨Hl.cE.2 (Or.inl x),y⟩) hp
 refine hc.mono fun e w' ⟨J,Hs',F,he,hn,ht,hpost⟩=>?_;obtain⟨K',rfl⟩:∃ K',Hs'=[K']:=List.length_eq_one_iff.1 (by rw[ht.len];rfl);have rlt:∀ b,R.mem b->b<w.heap.size:=fun b hb=>by
  obtain⟨o,ho⟩:=abe.1 hb;exact(aaG.1 (rw' b o ho)).1
 have far:∀ (X:Hl),(∀ b,X.mem b->(∃ H∈[K],H.mem b)\/w.heap.size<=b)->X.bq R:=fun X hX b ⟨x,y⟩=>by
  rcases hX b x with ⟨H,hH,hb⟩ | hb
  .rw[aam.1 hH]at hb;exact hKR b ⟨hb,y⟩
  .have:=rlt b y;omega
 have dK:K'.bq R:=far K' (ht.dom K' (aam.2 rfl));have dF:F.bq R:=far F ht.fdom;have rw2:R.sub w':=fun b o hb=>by
  have hm:R.mem b:=by unfold Hl.mem;rw[hb];rfl
  rw[ht.block b (rlt b hm) (fun H hH=>by rw[aam.1 hH];exact fun hk=>hKR b ⟨hk,hm⟩)];exact rw' b o hb
 have wide:∀ b,(∃ H∈[K],H.mem b)\/w.heap.size<=b->(∃ H∈[K.un R],H.mem b)\/w.heap.size<=b:=fun b h=>by
  rcases h with ⟨H,hH,hb⟩ | hb
  .rw[aam.1 hH]at hb;exact Or.inl ⟨_,aam.2 rfl,Hl.cE.2 (Or.inl hb)⟩
  .exact Or.inr hb
 refine⟨J,[K'.un R],F,he,hn,⟨ht.os,ht.tape,ht.output,ht.size,fun b hb hno=>?_,rfl,fun H hH=>?_,ht.fsub,fun H hH b hb=>?_,fun b hb=>wide b (ht.fdom b hb),fun p q H H2 hpq a b=>?_,fun H hH=>?_⟩,K',rfl,dK,dF,hpost⟩
 .exact ht.block b hb fun H hH=>by rw[aam.1 hH];exact fun hk=>hno _ (aam.2 rfl) (Hl.cE.2 (Or.inl hk))
 .rw[aam.1 hH];exact Hl.Ib (ht.sub K' (aam.2 rfl)) rw2
 .rw[aam.1 hH]at hb;rcases Hl.cE.1 hb with hb | hb
  .exact wide b (ht.dom K' (aam.2 rfl) b hb)
  .exact Or.inl ⟨_,aam.2 rfl,Hl.cE.2 (Or.inr hb)⟩
 .cases p with
  | zero=>cases q with
   | zero=>exact absurd rfl hpq
   | succ q=>simp at b
  | succ p=>simp at a
 .rw[aam.1 hH];intro b ⟨x,y⟩;rcases Hl.cE.1 x with x | x
  .exact ht.fdis K' (aam.2 rfl) b ⟨x,y⟩
  .exact dF b ⟨y,x⟩
end
end Go.Sx
