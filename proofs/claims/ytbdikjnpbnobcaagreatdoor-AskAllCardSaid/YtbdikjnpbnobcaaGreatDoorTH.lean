/- Pull after pull, for all and with bodies, brings every piece laid in a door once, each whole and in its writer's order: a part of the proof. No condition. -/
import Derived.Test.YtbdikjnpbnobcaaGreatDoorTG
set_option linter.all false
set_option maxHeartbeats 4000000
namespace Go.Proofs.YtbdikjnpbnobcaaGreatDoor
open Go Go.Sx Go.Pk
variable {b lg:Bool}{e:E}{J q q':Env}{A:Env->Hl->Prop}{D K:Env->Prop}{f:FuncId}{h h':Hd}{F G H R R' RA RG S:Hl}{sx sy x z:Int}{T:List (List Int)}{Hs Rs:List Hl}{B b2 bs t:List Int}{row row' xs:List Value}{mem:Mem}{N a c i j k n o y:Nat}{s:Sx.Spec}{p u v:Value}
def aW (l:List Value) (a n:Nat):List Int:=(List.range n).map fun j=>cI l (a+j)
def iJ (z:Int):Nat:=(IntKind.u64.wrap z).toNat
def fR (b:Bool):List Int:=[if b=true then 1 else 0]
def fZ (l:List Value) (n:Nat):List Int:=aF (iJ (cI l 0))++aF (cI l 1).toNat++aW l 2 32++aF (iJ (cI l 34))++fR (cB l 35)++aF (cI l 36).toNat++aW l 37 16++aF n
def qv (l:List Value) (bs:List Int):List Int:=bs++aF (cI l 54).toNat++aF (cI l 55).toNat++aF (cI l 56).toNat++aF (cI l 57).toNat++aF (cI l 58).toNat++aF (cI l 59).toNat++aW l 60 32++aF (iJ (cI l 92))
def nz (h:Hd):List Int:=qv h.c (fZ h.c h.t.length++h.t.flatten)
def tf (z:Int):iJ z<18446744073709551616:=by
 unfold iJ;rw[IntKind.wrap_u64];omega
def u64_in (z:Int):0<=IntKind.u64.wrap z/\IntKind.u64.wrap z<18446744073709551616:=by
 rw[IntKind.wrap_u64];omega
def fv:∀ {row:List Value} {ks:List Kd} {k:Nat} {kd:Kd},aR row ks->ks[k]?=some kd->∃ v,row[k]?=some v/\bh (some v) kd=true
 | [],[],k,kd,_,h=>by simp at h
 | v::l,a::m,0,kd,h,e=>⟨v,rfl,by rw[acF,aa3]at e;subst e;exact h.1⟩
 | v::l,a::m,k+1,kd,h,e=>by
  rw[afG]at e ⊢;exact fv h.2 e
def YF (h:aR row dz) (hk:dz[k]?=some (.int .u8)):row[k]?=some (.int .u8 (cI row k)):=by
 obtain⟨v,hv,hi⟩:=fv h hk;unfold cI;rw[hv];cases v<;>simp [bh]at hi
 subst hi;rfl
def wC (h:aR row dz) (hk:dz[k]?=some (.int .u64)):row[k]?=some (.int .u64 (cI row k)):=by
 obtain⟨v,hv,hi⟩:=fv h hk;unfold cI;rw[hv];cases v<;>simp [bh]at hi
 subst hi;rfl
def XL:∀ j,j<32->dz[2+j]?=some (.int .u8):=by decide
def XK:∀ j,j<16->dz[37+j]?=some (.int .u8):=by decide
def aaS:∀ j,j<32->dz[60+j]?=some (.int .u8):=by decide
def bG (l:List Value) (a n:Nat):(aW l a n).length=n:=by unfold aW;simp
def U8 (h:aR row dz) (hk:∀ j,j<n->dz[a+j]?=some (.int .u8)):∀ j z,(aW row a n)[j]?=some z->row[a+j]?=some (.int .u8 z):=by
 intro j z hz;have b:j<n:=by have:=(aaG.1 hz).1;rwa[bG]at this
 unfold aW at hz;rw[abl,acf b,acr,aa3]at hz;subst hz;exact YF h (hk j b)
def EM (h0:0<=q.i a) (hr:aR (aG q 0) dz) (hk:∀ j,j<n->dz[o+j]?=some (.int .u8)):pz ((bo.bc a (aj 0 bJ) 38).hl q) (.slice (au (q.i a) (o:Int)) ((n:Int)).toNat ((n:Int)).toNat) (aW (aG q 0) o n) :=
 zH h0 (U8 hr hk) (bG _ _ _).symm
def ib (h:aZ H p bs lg) (hz:0<=z/\z<18446744073709551616) (hl:bs.length<=900000) (k:∀ q',ai n q q'->aZ (q'.h n) p (bs++aF z.toNat) lg->K q') :
 nH.pre [p,.int .u64 z] [H] []/\∀ q',ai n q q'->(∃ F,nH.post [p,.int .u64 z] [H] [] v [q'.h n] F/\A q' F)->K q':=by
 refine⟨⟨_,_,H,bs,lg,rfl,rfl,h,⟨z,rfl,hz⟩,hl⟩,fun q' g ⟨F,hp,_⟩=>k q' g ?_⟩;obtain⟨H',hK,a⟩:=EA h hp;have hK:q'.h n=H':=by simpa using hK
 rw[hK];exact a
def Gf (h:aZ H p bs lg) (hl:bs.length<=900000) (k:∀ q',ai n q q'->aZ (q'.h n) p (bs++fR b) lg->K q') :
 lu.pre [p,.bool b] [H] []/\∀ q',ai n q q'->(∃ F,lu.post [p,.bool b] [H] [] v [q'.h n] F/\A q' F)->K q':=by
 refine⟨⟨_,_,H,bs,lg,rfl,rfl,h,⟨b,rfl⟩,hl⟩,fun q' g ⟨F,hp,_⟩=>k q' g ?_⟩;obtain⟨H',hK,a⟩:=EA h hp;have hK:q'.h n=H':=by simpa using hK
 rw[hK];exact a
def zG (h:aZ H p bs lg) (b:fE R u b2) (hl:bs.length<=900000) (a:b2.length<=90000) (k:∀ q',ai n q q'->aZ (q'.h n) p (bs++b2) lg->K q') :
 rp.pre [p,u] [H] [R]/\∀ q',ai n q q'->(∃ F,rp.post [p,u] [H] [R] v [q'.h n] F/\A q' F)->K q':=by
 refine⟨⟨_,_,H,R,bs,lg,b2,rfl,rfl,rfl,h,b,hl,a⟩,fun q' g ⟨F,hp,_⟩=>k q' g ?_⟩;obtain⟨H',hK,c⟩:=Ho h b hp
 grind
def Eg:∀ {T:List (List Int)},(∀ t∈T,t.length=16)->T.flatten.length=T.length*16
 | [],_=>rfl
 | t::T,h=>by
  rw[adz,aaA,h t (acj ..),Eg (fun u hu=>h u (abq _ hu)),acn];omega
def mZ {a b y:Int} (hx:0<=x) (hy:0<=y) (hb:0<=b) (h:au a b=au x y):a=x/\b=y:=by
 rcases ad9 a 0 with c | c
 .exfalso;rw[av hx]at h;unfold au at h
  grind
 .rw[av c,av hx]at h
  grind
def gx {z:Nat} (h:z<18446744073709551616):(aF z).length<=10:=oX h
noncomputable def coreS (f:FuncId):Sx.Spec where
 fn:=f
 own:=[]
 rd:=[10053]
 res:=[.one .sl]
 pre:=fun xs Hs Rs=>∃ row R h,xs=[.agg row.toArray]/\Rs=[R]/\br R row h/\h.t.length<=8
 post:=fun xs Hs Rs v Hs' F=>∃ row R h,xs=[.agg row.toArray]/\Rs=[R]/\br R row h/\c9 F 5 v (nz h)
def eoΓ:List Sx.Spec:=[nH,rp,lu,kO]
def Xh:∀ t∈eoΓ,t.OK Tryz.prog:=ak oY <| ak Bu <| ak sI <| ak mO <| bu
def er0:nH.res=[]:=rfl
def er1:rp.res=[]:=rfl
def er2:lu.res=[]:=rfl
def er3:kO.res=[.one .sl,.one (.int .i64)]:=rfl
def Xb:aD Tryz.prog eoΓ 161 where
 Λ:=fun p=>if decide (p.length=14)&&!(p.head?==some 99)then some ⟨0,[(41,TI .i64 (.var 201))],[(2,.hp 202 [] [.var 132] [])],210⟩else none
 args:=(bQ 0 [.agg bJ]).map .sv
 mem:=[.ro 130 [.var 53] false]
 nv:=131
def PQ {n:Value} {K:List Hl} (h:aZ R p bs lg) (hp:kO.post [p] [] [R] (.tuple #[v,n]) K F):c9 F 5 v (lj bs lg).1:=by
 obtain⟨c,R',bs',lg',u,e1,a,b,hv,hw⟩:=hp;simp only[aae,abw]at e1 a;subst e1 a;obtain⟨e1,a⟩:=h.uniq b
 grind
def FU (x:br R row h):nz h=qv row (fZ row h.t.length++h.t.flatten):=by
 have hs:∀ a n,(∀ j,j<n->a+j≠53)->aW h.c a n=aW row a n:=fun a n d=>acL fun j b=>x.I (d j (acv.1 b));unfold nz qv fZ;rw[hs 2 32 (fun j b=>ah),hs 37 16 (fun j b=>ah),hs 60 32 (fun j b=>ah),x.I (k:=0) az,x.I (k:=1) az,x.I (k:=34) az,x.B (k:=35) az,x.I (k:=36) az,x.I (k:=54) az,x.I (k:=55) az,x.I (k:=56) az,x.I (k:=57) az,x.I (k:=58) az,x.I (k:=59) az,x.I (k:=92) az]
def M0:(coreS 161).OK Tryz.prog:=by
 refine Spec.jN (Γ:=eoΓ) Xh rfl ?_;rintro xs Rs ⟨row,R,h,rfl,rfl,hx,h8⟩;obtain⟨J,rfl,m,bH,a6,a7,bI⟩:=pO (R:=R) hx.ok;refine⟨Xb,J,fun _ q=>∃ i:Nat,q.i 201=i/\i<=h.t.length/\aZ (q.h 202) (.pointer (au (q.i 132) 0)) (fZ (aG J 0) h.t.length++(h.t.take i).flatten) false,fun _ q=>(h.t.length-q.i 201).toNat,rfl,aT rfl (ach (fun x=>[x]) m),rfl,?_⟩
 .refine aD.read [bJ] [] [] ?_;simp only[go_sem,Nat.reduceAdd,eoΓ,er0,er1,er2,er3];intro q1 A p1 q2 g2 p2;have d:=hx.rng;have r1:0<=J.i 1/\J.i 1<18446744073709551616:=d (.int .u64 (J.i 1)) (aah (i:=1) rfl);have a8:0<=J.i 36/\J.i 36<18446744073709551616:=d (.int .u64 (J.i 36)) (aah (i:=36) rfl);have a9:0<=J.i 57/\J.i 57<18446744073709551616:=d (.int .u64 (J.i 57)) (aah (i:=54) rfl);have bb:0<=J.i 58/\J.i 58<18446744073709551616:=d (.int .u64 (J.i 58)) (aah (i:=55) rfl);have bc:0<=J.i 59/\J.i 59<18446744073709551616:=d (.int .u64 (J.i 59)) (aah (i:=56) rfl);have bd:0<=J.i 60/\J.i 60<18446744073709551616:=d (.int .u64 (J.i 60)) (aah (i:=57) rfl);have bf:0<=J.i 61/\J.i 61<18446744073709551616:=d (.int .u64 (J.i 61)) (aah (i:=58) rfl);have bg:0<=J.i 62/\J.i 62<18446744073709551616:=d (.int .u64 (J.i 62)) (aah (i:=59) rfl);have hlen:(J.i 55).toNat=h.t.length:=EO hx.tok;have G2:ai 131 J q2:=A.tr g2;have P2:0<=q2.i 131:=by rw[g2.i 131];exact p1
  have h2:aZ (Hl.one (q2.i 132).toNat (Obj.cells #[Value.slice (au (-1) 0) (Int.toNat 0) (Int.toNat 0),Value.bool (aY q2 E.ff)] 124 (0,0))) (Value.pointer (au (q2.i 132) 0)) [] false:=by rw[av p2];exact aZ.new _
  have l2:([]:List Int).length<=0:=ab8 0;rw[G2.i 0];refine ib h2 (u64_in _) ah fun q3 g3 h3=>?_;have G3:ai 131 J q3:=G2.tr g3;have P3:0<=q3.i 131:=by rw[g3.i 131];exact P2
  rw[<-g3.i 132]at h3;have h3:aZ (q3.h _) (.pointer (au (q3.i 132) 0)) (aF (iJ (J.i 0))) false:=h3;have b3:(aF (iJ (J.i 0))).length<=10:=gx (tf _);have l3:=ac6 l2 b3;have l3:=b3;rw[G3.i 1];refine ib h3 r1 ah fun q4 g4 h4=>?_;have G4:ai 131 J q4:=G3.tr g4;have P4:0<=q4.i 131:=by rw[g4.i 131];exact P3
  rw[<-g4.i 132]at h4;have h4:aZ (q4.h _) (.pointer (au (q4.i 132) 0)) (aF (iJ (J.i 0))++aF (J.i 1).toNat) false:=h4;have b4:(aF (J.i 1).toNat).length<=10:=gx (z:=(J.i 1).toNat) ah;have l4:=ac6 l3 b4;rw[<-aaA]at l4;have aB:=EM (n:=32) P4 (by rw[cy G4.mono];exact hx.ok) XL;rw[cy G4.mono]at aB;refine zG h4 aB.w ah (by rw[bG];omega) fun q5 g5 h5=>?_;have G5:ai 131 J q5:=G4.tr g5;have P5:0<=q5.i 131:=by rw[g5.i 131];exact P4
  rw[<-g5.i 132]at h5;have h5:aZ (q5.h _) (.pointer (au (q5.i 132) 0)) (aF (iJ (J.i 0))++aF (J.i 1).toNat++aW (aG J 0) 2 32) false:=h5;have b5:(aW (aG J 0) 2 32).length<=32:=agK (bG _ _ _);have l5:=ac6 l4 b5;rw[<-aaA]at l5;rw[G5.i 34];refine ib h5 (u64_in _) ah fun q6 g6 h6=>?_;have G6:ai 131 J q6:=G5.tr g6;have P6:0<=q6.i 131:=by rw[g6.i 131];exact P5
  rw[<-g6.i 132]at h6;have h6:aZ (q6.h _) (.pointer (au (q6.i 132) 0)) (aF (iJ (J.i 0))++aF (J.i 1).toNat++aW (aG J 0) 2 32++aF (iJ (J.i 34))) false:=h6;have b6:(aF (iJ (J.i 34))).length<=10:=gx (tf _);have l6:=ac6 l5 b6;rw[<-aaA]at l6;rw[bn,G6.b 35];refine Gf h6 ah fun q7 g7 h7=>?_;have G7:ai 131 J q7:=G6.tr g7;have P7:0<=q7.i 131:=by rw[g7.i 131];exact P6
  rw[<-g7.i 132]at h7;have h7:aZ (q7.h _) (.pointer (au (q7.i 132) 0)) (aF (iJ (J.i 0))++aF (J.i 1).toNat++aW (aG J 0) 2 32++aF (iJ (J.i 34))++fR (J.b 35)) false:=h7;have b7:(fR (J.b 35)).length<=1:=ab8 1;have l7:=ac6 l6 b7;rw[<-aaA]at l7;rw[G7.i 36];refine ib h7 a8 ah fun q8 g8 h8=>?_;have G8:ai 131 J q8:=G7.tr g8;have P8:0<=q8.i 131:=by rw[g8.i 131];exact P7
  rw[<-g8.i 132]at h8;have h8:aZ (q8.h _) (.pointer (au (q8.i 132) 0)) (aF (iJ (J.i 0))++aF (J.i 1).toNat++aW (aG J 0) 2 32++aF (iJ (J.i 34))++fR (J.b 35)++aF (J.i 36).toNat) false:=h8;have b8:(aF (J.i 36).toNat).length<=10:=gx (z:=(J.i 36).toNat) ah;have l8:=ac6 l7 b8;rw[<-aaA]at l8;have aC:=EM (n:=16) P8 (by rw[cy G8.mono];exact hx.ok) XK;rw[cy G8.mono]at aC;refine zG h8 aC.w ah (by rw[bG];omega) fun q9 g9 h9=>?_;have G9:ai 131 J q9:=G8.tr g9;have P9:0<=q9.i 131:=by rw[g9.i 131];exact P8
  rw[<-g9.i 132]at h9;have h9:aZ (q9.h _) (.pointer (au (q9.i 132) 0)) (aF (iJ (J.i 0))++aF (J.i 1).toNat++aW (aG J 0) 2 32++aF (iJ (J.i 34))++fR (J.b 35)++aF (J.i 36).toNat++aW (aG J 0) 37 16) false:=h9;have b9:(aW (aG J 0) 37 16).length<=16:=agK (bG _ _ _);have l9:=ac6 l8 b9;rw[<-aaA]at l9;rw[G9.i 55];refine⟨a7,?_⟩;have ew:IntKind.u64.wrap (J.i 55)=h.t.length:=by rw[m9 ah ah];omega
  rw[ew];refine ib h9 ah ah fun f ab p=>?_;rw[aac]at p;have bh:ai 131 J f:=G9.tr ab;have bj:0<=f.i 131:=by rw[ab.i 131];exact P9
  rw[<-ab.i 132]at p;have p:aZ (f.h _) (.pointer (au (f.i 132) 0)) (aF (iJ (J.i 0))++aF (J.i 1).toNat++aW (aG J 0) 2 32++aF (iJ (J.i 34))++fR (J.b 35)++aF (J.i 36).toNat++aW (aG J 0) 37 16++aF h.t.length) false:=p;have b10:(aF h.t.length).length<=10:=gx (z:=h.t.length) ah;have ad:=ac6 l9 b10;rw[<-aaA]at ad;have hA:aZ (f.h 147) (.pointer (au (f.i 132) 0)) (fZ (aG J 0) h.t.length) false:=p;have lA:(fZ (aG J 0) h.t.length).length<=99:=ad;refine⟨⟨0,rfl,acP _,?_⟩,fun q g ⟨i,ei,hi,v⟩=>?_⟩
  .show aZ (f.h 147) (.pointer (au (f.i 132) 0)) (fZ (aG J 0) h.t.length++(h.t.take 0).flatten) false
   grind
  have G:ai 131 J q:=bh.tr g;have P:0<=q.i 131:=by rw[g.i 131];exact bj
  have aE:∀ t∈h.t,t.length=16:=fun t ht=>(hx.byte.2 t ht).1;have lF:∀ i,i<=h.t.length->((h.t.take i).flatten).length<=128:=fun i hi=>by
   rw[Eg (fun t ht=>aE t (ady ht)),ace];omega
  rw[G.i 55,ei];refine⟨fun bK=>?_,fun bL=>?_⟩
  .have ae:i<h.t.length:=ah;obtain⟨x,y,c,eS,hy,af⟩:=id hx.tok;have eS:Value.slice (au (J.i 53) (J.i 54)) (J.i 55).toNat (J.i 56).toNat=.slice (au x y) (h.t.map aS).length c:=eS;rcases af with hn | ⟨B,hc⟩
   .rw[afv]at hn;rw[hn]at ae;cases ae
   simp only[Value.slice.injEq]at eS;obtain⟨r,s⟩:=mZ B hy a6 eS.1;have ht:=aad ae;have m1:=hx.byte.2 _ (aah ht);obtain⟨b1,r1⟩:=xI (J:=q) (h:=130) (X:=.var 53) (Y:=(E.var 54).add ((E.var 201).mul (E.lit 16))) B hy hc ht m1.1 (by rw[G.h 130,m]) (by rw[ar,G.i 53,r]) (by
    simp only[bP,cN,ar,aq];rw[G.i 54,s,ei])
   rw[G.i 53,G.i 54,G.h 130,m,r,s];refine⟨B,hy,ah,b1,fun q1 A aH=>?_⟩;have bk:(aU 130 (E.var 53) ((E.var 54).add ((E.var 201).mul (E.lit 16))) 0 (List.replicate 16 (Kd.int .u8))).map (CV.ev q1)=aS h.t[i]:=by
    have:=xI (J:=q1) (h:=130) (X:=.var 53) (Y:=(E.var 54).add ((E.var 201).mul (E.lit 16))) B hy hc ht m1.1 (by rw[A.h 130,G.h 130,m]) (by rw[ar,A.i 53,G.i 53,r]) (by
     simp only[bP,cN,ar,aq];rw[A.i 54,A.i 201,G.i 54,s,ei])
    exact this.2
   have bl:=zH (q:=q1) (T:=34) (l:=h.t[i]) (a:=210) (o:=0) (n:=16) (c:=16) aH (cs:=aU 130 (E.var 53) ((E.var 54).add ((E.var 201).mul (E.lit 16))) 0 (List.replicate 16 (Kd.int .u8))) (by
    intro j z hz;rw[bk,aco];unfold aS;grind) m1.1.symm
   rw[<-A.i 132,<-A.h 202]at v;have:=lF i hi;refine zG v bl.w (by rw[aaA];omega) ah fun q2 g2 h2=>?_;rw[<-g2.i 132]at h2;have ew:IntKind.i64.wrap (q2.i 201+1)=((i+1:Nat):Int):=by rw[g2.i 201,A.i 201,ei,IntWalk.i64_in _ ah];omega
   refine⟨⟨i+1,ew,ah,?_⟩,?_⟩
   .show aZ (q2.h 211) (.pointer (au (q2.i 132) 0)) _ false;rw[adB,ht,afk,afH,adz,afx,acD,<-abS];exact h2
   .show((h.t.length:Int)-IntKind.i64.wrap (q2.i 201+1)).toNat<_
    grind
  have bm:i=h.t.length:=ah;rw[bm,acS]at v;have lF:=lF h.t.length (ab8 _);rw[acS]at lF;have aI:=ac6 lA lF;rw[<-aaA]at aI;have bo:=v;have aK:=G;have bp:=P;clear v G P hA lA h2 l2 h3 l3 h4 l4 h5 l5 h6 l6 h7 l7 h8 l8 h9 l9 p ad;rw[aK.i 57];refine ib bo a9 ah fun C ag D=>?_;have aM:ai 131 J C:=aK.tr ag;have bq:0<=C.i 131:=by rw[ag.i 131];exact bp
  rw[<-ag.i 132]at D;have D:aZ (C.h _) (.pointer (au (C.i 132) 0)) (fZ (aG J 0) h.t.length++h.t.flatten++aF (J.i 57).toNat) false:=D;have br:(aF (J.i 57).toNat).length<=10:=gx (z:=(J.i 57).toNat) ah;have aN:=ac6 aI br;rw[<-aaA]at aN;rw[aM.i 58];refine ib D bb ah fun H aj I=>?_;have aO:ai 131 J H:=aM.tr aj;have bs:0<=H.i 131:=by rw[aj.i 131];exact bq
  rw[<-aj.i 132]at I;have I:aZ (H.h _) (.pointer (au (H.i 132) 0)) (fZ (aG J 0) h.t.length++h.t.flatten++aF (J.i 57).toNat++aF (J.i 58).toNat) false:=I;have bt:(aF (J.i 58).toNat).length<=10:=gx (z:=(J.i 58).toNat) ah;have aP:=ac6 aN bt;rw[<-aaA]at aP;rw[aO.i 59];refine ib I bc ah fun K ak L=>?_;have aQ:ai 131 J K:=aO.tr ak;have bu:0<=K.i 131:=by rw[ak.i 131];exact bs
  rw[<-ak.i 132]at L;have L:aZ (K.h _) (.pointer (au (K.i 132) 0)) (fZ (aG J 0) h.t.length++h.t.flatten++aF (J.i 57).toNat++aF (J.i 58).toNat++aF (J.i 59).toNat) false:=L;have bw:(aF (J.i 59).toNat).length<=10:=gx (z:=(J.i 59).toNat) ah;have aR:=ac6 aP bw;rw[<-aaA]at aR;rw[aQ.i 60];refine ib L bd ah fun M al N=>?_;have aV:ai 131 J M:=aQ.tr al;have bx:0<=M.i 131:=by rw[al.i 131];exact bu
  rw[<-al.i 132]at N;have N:aZ (M.h _) (.pointer (au (M.i 132) 0)) (fZ (aG J 0) h.t.length++h.t.flatten++aF (J.i 57).toNat++aF (J.i 58).toNat++aF (J.i 59).toNat++aF (J.i 60).toNat) false:=N;have bz:(aF (J.i 60).toNat).length<=10:=gx (z:=(J.i 60).toNat) ah;have aX:=ac6 aR bz;rw[<-aaA]at aX;rw[aV.i 61];refine ib N bf ah fun O an Q=>?_;have a0:ai 131 J O:=aV.tr an;have bA:0<=O.i 131:=by rw[an.i 131];exact bx
  rw[<-an.i 132]at Q;have Q:aZ (O.h _) (.pointer (au (O.i 132) 0)) (fZ (aG J 0) h.t.length++h.t.flatten++aF (J.i 57).toNat++aF (J.i 58).toNat++aF (J.i 59).toNat++aF (J.i 60).toNat++aF (J.i 61).toNat) false:=Q;have bB:(aF (J.i 61).toNat).length<=10:=gx (z:=(J.i 61).toNat) ah;have a1:=ac6 aX bB;rw[<-aaA]at a1;rw[a0.i 62];refine ib Q bg ah fun S ao U=>?_;have aw:ai 131 J S:=a0.tr ao;have a2:0<=S.i 131:=by rw[ao.i 131];exact bA
  rw[<-ao.i 132]at U;have U:aZ (S.h _) (.pointer (au (S.i 132) 0)) (fZ (aG J 0) h.t.length++h.t.flatten++aF (J.i 57).toNat++aF (J.i 58).toNat++aF (J.i 59).toNat++aF (J.i 60).toNat++aF (J.i 61).toNat++aF (J.i 62).toNat) false:=U;have bC:(aF (J.i 62).toNat).length<=10:=gx (z:=(J.i 62).toNat) ah;have a3:=ac6 a1 bC;rw[<-aaA]at a3;have aa:=EM (n:=32) a2 (by rw[cy aw.mono];exact hx.ok) aaS;rw[cy aw.mono]at aa;refine zG U aa.w ah (by rw[bG];omega) fun V ax W=>?_;have a4:ai 131 J V:=aw.tr ax;have bD:0<=V.i 131:=by rw[ax.i 131];exact a2
  rw[<-ax.i 132]at W;have W:aZ (V.h _) (.pointer (au (V.i 132) 0)) (fZ (aG J 0) h.t.length++h.t.flatten++aF (J.i 57).toNat++aF (J.i 58).toNat++aF (J.i 59).toNat++aF (J.i 60).toNat++aF (J.i 61).toNat++aF (J.i 62).toNat++aW (aG J 0) 60 32) false:=W;have bE:(aW (aG J 0) 60 32).length<=32:=agK (bG _ _ _);have a5:=ac6 a3 bE;rw[<-aaA]at a5;rw[a4.i 95];refine ib W (u64_in _) ah fun Z ay u=>?_;have bM:ai 131 J Z:=a4.tr ay;have bN:0<=Z.i 131:=by rw[ay.i 131];exact bD
  rw[<-ay.i 132]at u;have u:aZ (Z.h _) (.pointer (au (Z.i 132) 0)) (fZ (aG J 0) h.t.length++h.t.flatten++aF (J.i 57).toNat++aF (J.i 58).toNat++aF (J.i 59).toNat++aF (J.i 60).toNat++aF (J.i 61).toNat++aF (J.i 62).toNat++aW (aG J 0) 60 32++aF (iJ (J.i 95))) false:=u;have bF:(aF (iJ (J.i 95))).length<=10:=gx (tf _);have aA:=ac6 a5 bF;rw[<-aaA]at aA;refine⟨⟨_,_,_,false,rfl,rfl,u,ah⟩,fun q g ⟨F,hp,hF,hn⟩=>?_⟩;have v:=PQ u hp;have eR:lj (qv (aG J 0) (fZ (aG J 0) h.t.length++h.t.flatten)) false=(qv (aG J 0) (fZ (aG J 0) h.t.length++h.t.flatten),0):=by
   unfold lj;have aA:(qv (aG J 0) (fZ (aG J 0) h.t.length++h.t.flatten)).length<=1000:=acA aA ah;rw[aa8 (by rintro(e | e);exact absurd e az;omega)]
  have v:c9 F _ _ (lj (qv (aG J 0) (fZ (aG J 0) h.t.length++h.t.flatten)) false).1:=v;rw[eR,<-FU hx]at v;have hF:q.h 226=F:=hF (by simp [aL,Cp.roots,Ck.root]);refine fun _=>⟨[],[3],rfl,rfl,⟨(ba fun k=>q.i (226+k)),rfl,hn.1,zzT⟩,_,R,h,rfl,rfl,hx,?_⟩;show c9 (bY [q.h 226]) _ _ _;rw[aJ,hF];exact v
def rcΓ:List Sx.Spec:=[Dl]
def Yp:∀ t∈rcΓ,t.OK Tryz.prog:=fun t a=>by
 simp only[rcΓ,aaW,abd,acs]at a;subst a;exact RO
def aer:Dl.res=[.one .sl]:=rfl
def RC (n:Nat):(aL n [Cp.one .sl]≠[])=True:=by simp [aL,Cp.roots,Ck.root]
def Yh:aD Tryz.prog rcΓ 150 where
 Λ:=fun p=>if cutAt p [150,1,1,1,1,1,1,0]then some ⟨1,[(4,TI .u8 (.var 200))],[],201⟩else if decide (p.length=15)&&!(p.head?==some 99)then some ⟨0,[(3,.sv (.one (.sl (.var 310) (.lit 0) (.var 311) (.var 312)))),(5,TI .i64 (.var 313))],[(2,.hp 314 [] [.var 310] [])],320⟩else none
 args:=(bQ 0 [.agg bJ]).map .sv
 mem:=[.ro 130 [.var 53] false]
 nv:=131
def Sg (S:Hl) (x y l:Int) (b:List Int):Prop:=l=b.length/\ -1<=x/\0<=y/\b.length<=200/\∃ c:Nat,pz S (.slice (au x y) b.length c) b
def OU (hz:0<=z/\z<18446744073709551616) (k:∀ q',ai n q q'->Sg (q'.h n) (q'.i n) (q'.i (n+1)) (q'.i (n+2)) (aF z.toNat)->(∀ J,ai 131 J q'->Acc 131 J q' n n (.var (n+1)) (n+3) (.var (n+2)) (aF z.toNat) 200)->K q') :
 Dl.pre [.int .u64 z] [] []/\∀ q',ai n q q'->(∃ F,Dl.post [.int .u64 z] [] [] (.slice (au (q'.i n) (q'.i (n+1))) (q'.i (n+2)).toNat (q'.i (n+3)).toNat) [] F/\(True->q'.h n=F)/\bR n [.one .sl] q')->K q':=by
 refine⟨⟨z,rfl,hz⟩,fun q' g ⟨F,⟨f,a,b⟩,d,hn,_⟩=>?_⟩;simp only[aae,Value.int.injEq,acu,abw]at a;subst a;obtain⟨n0,n1,n2,n3⟩:-1<=q'.i n/\0<=q'.i (n+1)/\0<=q'.i (n+2)/\0<=q'.i (n+3):=hn;rw[<-d zzT]at b;have e:(q'.i (n+2)).toNat=(aF z.toNat).length:=by
  obtain⟨x,y,c,e,_⟩:=b.rd;simp only[Value.slice.injEq]at e;exact e.2.1
 have hl:=acA (gx (z:=z.toNat) ah) (show 10<=200 by decide);rw[e]at b;exact k q' g ⟨ah,n0,n1,hl,_,b.rd⟩ fun J G=>⟨G,by rw[aac];exact b,show q'.i (n+2)=_ by omega,hl,n0,n3⟩
def Acc.ap {x:Nat} {y:E} {b:List Int} (h:Acc N J q a x y c e B k) (f:E) (s:Sg S sx sy (aw q f) b) (kk:∀ q',ai n q q'->Acc N J q' n n (.lit 0) (n+1) (e.add f) (B++b) (k+200)->K q') (w:decide (N<=n)&&(e.upto n&&f.upto n)=true:=by rfl) (u:k<=9000000:=by decide) :
 ((∃ xs,aO (q.h a) 5 1 (.slice (au (q.i x) (aw q y)) (aw q e).toNat (q.i c).toNat) (aw q e).toNat xs)/\0<=aw q e/\((0<=sx/\0<=sy/\0<=aw q f/\∀ j:Nat,j<(aw q f).toNat->∃ v,S.cell sx.toNat (sy.toNat+j)=some v/\v.oneCell'=true)\/aw q f=0)/\(aw q e).toNat+(aw q f).toNat<=maxLen/\(aw q e).toNat+(aw q f).toNat<=140737488355328) /\
 ∀ q',ai n q q'->(-1<=q'.i n/\0<=q'.i (n+1)/\(∀ xs,aO (q.h a) 5 1 (.slice (au (q.i x) (aw q y)) (aw q e).toNat (q.i c).toNat) (aw q e).toNat xs->aO (q'.h n) 5 1 (.slice (au (q'.i n) 0) ((aw q e).toNat+(aw q f).toNat) (q'.i (n+1)).toNat) ((aw q e).toNat+(aw q f).toNat) (xs++bK S sx.toNat sy.toNat (aw q f).toNat))/\D q')->K q':=by
 obtain⟨hl,p,d,hb,sc,t⟩:=s;have hr:b=[]\/0<=sx/\∀ j z,b[j]?=some z->S.cell sx.toNat (sy.toNat+j)=some (.int .u8 z):=by
  have r:pz S (.slice (au sx sy) ((b.length:Int)).toNat ((sc:Int)).toNat) b:=by rw[aac,aac];exact t
  obtain⟨_,hr⟩:=r.at p d ah;exact hr.imp (·.2) id
 obtain⟨hok,o⟩:=xC (R:=S) hl d hr;have hk:=h.k;have he:=h.l;refine⟨⟨h.ow,ah,hok,by unfold maxLen;omega,ah⟩,fun q' g ⟨a1,a2,a3,_⟩=>kk q' g (h.app (m:=(aw q f).toNat) hb hl g w a1 a2 ah (by rw[o]at a3;exact a3))⟩
def Tv (q:Env):(aj 2 (List.replicate 32 (Ck.int .u8))).map (CV.ev q)=aS (aW (aG q 0) 2 32):=rfl
def Tu (q:Env):(aj 37 (List.replicate 16 (Ck.int .u8))).map (CV.ev q)=aS (aW (aG q 0) 37 16):=rfl
def W9 (q:Env):(aj 63 (List.replicate 32 (Ck.int .u8))).map (CV.ev q)=aS (aW (aG q 0) 60 32):=rfl
def Tt (q:Env):(aj 96 (List.replicate 32 (Ck.int .u8))).map (CV.ev q)=aS (aW (aG q 0) 93 32):=rfl
def NY:(coreS 150).OK Tryz.prog:=by
 refine Spec.jN (Γ:=rcΓ) Yp rfl ?_;rintro xs Rs ⟨row,R,h,rfl,rfl,hx,h8⟩;obtain⟨J,rfl,p,aa,S,T,ab⟩:=pO (R:=R) hx.ok;refine⟨Yh,J,fun j q=>if j=1 then q.i 200=(if J.b 35=true then 1 else 0)else ∃ i:Nat,q.i 313=i/\i<=h.t.length/\Acc 131 q q 314 310 (.lit 0) 312 (.var 311) (fZ (aG J 0) h.t.length++(h.t.take i).flatten) 3000,fun _ q=>(h.t.length-q.i 313).toNat,rfl,aT rfl (ach (fun x=>[x]) p),rfl,?_⟩
 .refine aD.read [] [] [] ?_;simp only[go_sem,Nat.reduceAdd,rcΓ,aer,RC];intro q1 U p1;have hr:∀ {z:Int} (i:Nat),(aG J 0)[i]?=some (.int .u64 z)->0<=z/\z<18446744073709551616:=fun i h=>hx.rng _ (aah h);have hlen:(J.i 55).toNat=h.t.length:=EO hx.tok;have X:ai 131 J q1:=U.mono;rw[X.i 0];refine OU (u64_in _) fun q2 g2 _ o2=>?_;have a2:=o2 J (X.tr g2);rw[a2.G.i 1];refine OU (hr 1 rfl) fun q g s _=>(a2.mv g).ap (.var 138) s fun q4 _ a4=>?_;refine a4.cv (b:=aW (aG J 0) 2 32) (by rw[<-cy (a4.G.mono)];exact Tv _) (bG _ _ _) fun q5 _ a5=>?_;rw[a5.G.i 34];refine OU (u64_in _) fun q g s _=>(a5.mv g).ap (.var 146) s fun q7 _ Y=>?_;rw[Y.G.b 35];refine⟨⟨fun A=>?_,fun A=>?_⟩,fun q8 g8 r q9 Z _=>?_⟩
  .show(1:Int)=_;rw[ab9 A]
  .show(0:Int)=_;rw[aa8 A]
  rw[<-Z.i 200]at r;refine((Y.mv g8).mv Z).cv (b:=fR (J.b 35)) (by show [Value.int .u8 (q9.i 200)]=_;rw[r];rfl) rfl fun ad _ B=>?_;rw[B.G.i 36];refine OU (hr 36 rfl) fun q g s _=>(B.mv g).ap (.var 206) s fun ae _ C=>?_;refine C.cv (b:=aW (aG J 0) 37 16) (by rw[<-cy (C.G.mono)];exact Tu _) (bG _ _ _) fun af _ D=>?_;rw[D.G.i 55];refine⟨T,?_⟩;have Q:IntKind.u64.wrap (J.i 55)=h.t.length:=by rw[m9 ah ah];omega
  rw[Q];refine OU ah fun q g s _=>(D.mv g).ap (.var 214) s fun ag _ d=>?_;refine⟨⟨0,rfl,acP _,?_⟩,fun q g hinv=>?_⟩
  .rw[afD,afx,acD];exact⟨ai.refl _ _,d.o,d.l,acA d.k az,d.x,d.c⟩
  have G:ai 131 J q:=d.G.tr g;obtain⟨i,ei,hi,m⟩:=hinv;have m:Acc 131 J q _ _ _ _ _ _ _:=⟨G,m.o,m.l,m.k,m.x,m.c⟩;rw[G.i 55,ei];refine⟨fun aj=>?_,fun ak=>?_⟩
  .have u:i<h.t.length:=ah;obtain⟨x,y,c,eS,hy,v⟩:=id hx.tok;have eS:Value.slice (au (J.i 53) (J.i 54)) (J.i 55).toNat (J.i 56).toNat=.slice (au x y) (h.t.map aS).length c:=eS;rcases v with hn | ⟨w,A⟩
   .rw[afv]at hn;rw[hn]at u;cases u
   simp only[Value.slice.injEq]at eS;obtain⟨E,F⟩:=mZ w hy S eS.1;have H:=aad u;have m1:=hx.byte.2 _ (aah H);have e:=(A i (aS h.t[i]) (by rw[abl,H];rfl)).2;have n:qm.length=16:=rfl;rw[n]at e;have V:pz R (.slice (au x (y+(i:Int)*16)) h.t[i].length 16) h.t[i]:=⟨x,y+(i:Int)*16,16,rfl,ah,Or.inr ⟨w,fun j z hz=>by
    rw[show(y+(i:Int)*16).toNat+j=y.toNat+i*16+j by omega];exact e j _ (by unfold aS;rw[abl,hz];rfl)⟩⟩
   have W:(16:Int)=(h.t[i].length:Int):=by rw[m1.1];rfl
   rw[G.i 53,G.i 54,G.h 130,p,E,F];refine⟨w,hy,ah,m.ap (.lit 16) ⟨W,ah,ah,ah,_,V⟩ fun q1 U a1=>?_⟩;have Q:IntKind.i64.wrap (q1.i 313+1)=((i+1:Nat):Int):=by rw[U.i 313,ei,IntWalk.i64_in _ ah];omega
   rw[abS,show(h.t.take i).flatten++h.t[i]=(h.t.take (i+1)).flatten by rw[adB,H,afk,afH,adz,afx,acD]]at a1;refine⟨⟨i+1,Q,ah,ai.refl _ _,a1.o,a1.l,?_,a1.x,a1.c⟩,?_⟩
   .rw[aaA,Eg (fun t H=>(hx.byte.2 t (ady H)).1),ace];have:(fZ (aG J 0) h.t.length).length<=_:=d.k;omega
   .show((h.t.length:Int)-IntKind.i64.wrap (q1.i 313+1)).toNat<_;rw[Q];omega
  rw[show i=h.t.length by omega,acS]at m;rw[G.i 57];refine OU (hr 54 rfl) fun q g s _=>(m.mv g).ap (.var 322) s fun al _ I=>?_;rw[I.G.i 58];refine OU (hr 55 rfl) fun q g s _=>(I.mv g).ap (.var 328) s fun an _ K=>?_;rw[K.G.i 59];refine OU (hr 56 rfl) fun q g s _=>(K.mv g).ap (.var 334) s fun ao _ L=>?_;rw[L.G.i 60];refine OU (hr 57 rfl) fun q g s _=>(L.mv g).ap (.var 340) s fun aq _ M=>?_;rw[M.G.i 61];refine OU (hr 58 rfl) fun q g s _=>(M.mv g).ap (.var 346) s fun ar _ N=>?_;rw[N.G.i 62];refine OU (hr 59 rfl) fun q g s _=>(N.mv g).ap (.var 352) s fun av _ O=>?_;refine O.cv (b:=aW (aG J 0) 60 32) (by rw[<-cy (O.G.mono)];exact W9 _) (bG _ _ _) fun aw _ P=>?_;rw[P.G.i 95];refine OU (u64_in _) fun q g s _=>(P.mv g).ap (.var 360) s fun a _ f=>?_;refine fun _=>⟨[],[2],rfl,rfl,⟨(ba fun k=>[a.i 362,0,a.i 311+a.i 322+a.i 328+a.i 334+a.i 340+a.i 346+a.i 352+32+a.i 360,a.i 363].getD k 0),rfl,⟨f.x,aba _,agZ (ad7 _) (ag0 f.l.symm),f.c⟩,zzT⟩,_,R,h,rfl,rfl,hx,?_⟩;have o:=f.o;rw[<-f.l]at o;show c9 (bY [a.h 362]) _ _ _;rw[aJ,FU hx];exact o
def fH (h:Hd):List Int:=nz h++aW h.c 93 32
open Classical in
noncomputable def bf (h:Hd):List Int:=if h.Form then fH h else []
noncomputable def bU (f:FuncId):Sx.Spec where
 fn:=f
 own:=[]
 rd:=[10053]
 res:=[.one .sl]
 pre:=fun xs Hs Rs=>∃ row R h,xs=[.agg row.toArray]/\Rs=[R]/\br R row h
 post:=fun xs Hs Rs v Hs' F=>∃ row R h,xs=[.agg row.toArray]/\Rs=[R]/\br R row h/\c9 F 5 v (bf h)
noncomputable def hbΓ (a b:FuncId):List Sx.Spec:=[fS a,coreS b]
def Qh {a b:FuncId} (c:(fS a).OK Tryz.prog) (hb:(coreS b).OK Tryz.prog):∀ t∈hbΓ a b,t.OK Tryz.prog:=ak c <| ak hb <| bu
def AO (f:FuncId):(fS f).res=[.one .bool]:=rfl
def hr1 (f:FuncId):(coreS f).res=[.one .sl]:=rfl
noncomputable def adl (a b f:FuncId):aD Tryz.prog (hbΓ a b) f where
 Λ:=aA
 args:=(bQ 0 [.agg bJ]).map .sv
 mem:=[.ro 130 [.var 53] false]
 nv:=131
open Classical in
def mE {K:List Hl} (hx:br R row h) (hp:(fS f).post [.agg row.toArray] Hs [R] v K F):v=.bool (decide h.Form):=by
 obtain⟨row',R',h',e1,b,a,hv⟩:=hp;simp only[aae,Value.agg.injEq,abw]at e1 b;have e1:=ab1 e1;subst e1 b;rw[hx.uniq a];exact hv
def PI {K:List Hl} (hx:br R row h) (hp:(coreS f).post [.agg row.toArray] Hs [R] v K F):c9 F 5 v (nz h):=by
 obtain⟨row',R',h',e1,b,a,hv⟩:=hp;simp only[aae,Value.agg.injEq,abw]at e1 b;have e1:=ab1 e1;subst e1 b;rw[hx.uniq a];exact hv
def pI {K:List Hl} (hx:br R row h) (hp:(bU f).post [.agg row.toArray] Hs [R] v K F):c9 F 5 v (bf h):=by
 obtain⟨row',R',h',e1,b,a,hv⟩:=hp;simp only[aae,Value.agg.injEq,abw]at e1 b;have e1:=ab1 e1;subst e1 b;rw[hx.uniq a];exact hv
def vu (hx:br R row h) (f:h.t.length<=8):(nz h).length<=360:=by
 have a:∀ k,cI h.c k<18446744073709551616->(aF (cI h.c k).toNat).length<=10:=fun k hk=>gx ah;have hu:∀ {k:Nat},dz[k]?=some (.int .u64)->k≠53->cI h.c k<18446744073709551616:=fun {k} hk b=>by
  rw[hx.I b];exact(hx.rng _ (aah (wC hx.ok hk))).2
 have d:=Eg (T:=h.t) (fun t e=>(hx.byte.2 t e).1);have a1:=gx (tf (cI h.c 0));have a2:=a 1 (hu rfl az);have a3:=gx (tf (cI h.c 34));have a4:=a 36 (hu rfl az);have a5:=gx (z:=h.t.length) ah;have g:=a 54 (hu rfl az);have i:=a 55 (hu rfl az);have j:=a 56 (hu rfl az);have l:=a 57 (hu rfl az);have b1:=a 58 (hu rfl az);have b2:=a 59 (hu rfl az);have m:=gx (tf (cI h.c 92));have n:(fR (cB h.c 35)).length=1:=rfl;unfold nz qv fZ;simp only[aaA,bG];omega
open Classical in
def KJ:(bU 116).OK Tryz.prog/\(bU 105).OK Tryz.prog:=by
 refine⟨Spec.cM (Γ:=hbΓ 91 161) (Qh mj M0) ?_,Spec.cM (Γ:=hbΓ 46 150) (Qh xt NY) ?_⟩
 all_goals
  rintro xs Hs Rs m z ⟨row,R,h,rfl,rfl,hx⟩;have e0:Hs=[]:=aa1.1 m;subst e0;obtain⟨J,rfl,a,A,B,C,D⟩:=pO (R:=R) hx.ok;refine⟨adl _ _ _,J,fun _ _=>True,fun _ _=>0,rfl,aT rfl (ach (fun x=>[x]) a),(fun _ h=>nomatch h),?_⟩;refine aD.read [bJ] [] [] ?_;simp only[go_sem,Nat.reduceAdd,hbΓ,AO,hr1,U7,RC];intro q1 n p1;have r1:(aj 0 bJ).map (CV.ev q1)=aG J 0:=cy n.mono;rw[r1,n.h 130,a];refine⟨⟨_,R,h,rfl,rfl,hx⟩,fun q2 E ⟨F,p,_⟩=>?_⟩;have hv:=mE hx p;have hv:q2.b 132=decide h.Form:=by simpa [bn] using hv
  have q:ai 131 J q2:=n.mono.tr E;have r2:(aj 0 bJ).map (CV.ev q2)=aG J 0:=cy q.mono;rw[hv,aas,r2,q.h 130,a];refine⟨fun hf _=>⟨[],[],rfl,rfl,⟨(ba fun k=>if k=0 then -1 else 0),rfl,⟨aba _,aba _,aba _,aba _⟩,zzT⟩,_,R,h,rfl,rfl,hx,?_⟩,fun hf=>?_⟩
  .unfold bf;rw[aa8 hf];exact rz _ _
  have v:=hf.2.1;have r:=vu hx v;refine⟨⟨_,R,h,rfl,rfl,hx,v⟩,fun d g3 ⟨H,s,t,u⟩=>?_⟩;have f:=PI hx s;rw[<-t zzT]at f;obtain⟨n0,_,n2,n3⟩:-1<=d.i 133/\0<=d.i 134/\0<=d.i 135/\0<=d.i 136:=u.1;have e:(d.i 135).toNat=(nz h).length:=by
   obtain⟨x,y,c,e,_⟩:=f.rd;simp only[Value.slice.injEq]at e;exact e.2.1
  have w:d.i 135=((nz h).length:Int):=ah;rw[w]at f;have a3:Acc 131 J d 133 133 (.var 134) 136 (.var 135) (nz h) 360:=⟨q.tr g3,f,w,r,n0,n3⟩;refine a3.cv (b:=aW h.c 93 32) (by
   rw[Tt,cy (a3.G.mono)]
   congr 1
   exact acL fun j K=>(hx.I ah).symm) (bG _ _ _) fun g _ a4=>?_
  refine fun _=>⟨[],[2],rfl,rfl,⟨(ba fun k=>[g.i 137,0,g.i 135+32,g.i 138].getD k 0),rfl,⟨a4.x,aba _,agZ (ad7 _) (ag0 a4.l.symm),a4.c⟩,zzT⟩,_,R,h,rfl,rfl,hx,?_⟩;have o:=a4.o;rw[<-a4.l]at o;show c9 (bY [g.h 137]) _ _ _;unfold bf;rw[aJ,ab9 hf];exact o
def qM:(bU 116).OK Tryz.prog:=KJ.1
def Hj:(bU 105).OK Tryz.prog:=KJ.2
def Cu:List Ck:=bJ++[Ck.sl]
def pf:∀ {row:List Value} {ks:List Kd} {u:Value} {k:Kd},aR row ks->bh (some u) k=true->aR (row++[u]) (ks++[k])
 | [],[],_,_,_,h=>⟨h,zzT⟩
 | v::l,k::ks,_,_,h,h'=>⟨h.1,pf h.2 h'⟩
def fV:∀ {row:List Value} {ks:List Kd},aR row ks->row.length=ks.length
 | [],[],_=>rfl
 | v::l,k::ks,h=>by rw[acn,acn,fV h.2]
set_option maxRecDepth 20000 in
def KY {y:Int} (h:aR row dz) (hy:0<=y):∃ q:Env,row=aG q 0/\(.slice (au x y) n c:Value)=(CV.sl (.var 128) (.var 129) (.var 130) (.var 131)).ev q/\q.h 132=R/\q.h 133=G/\bk 0 bJ q/\0<=q.i 129/\0<=q.i 130/\0<=q.i 131:=by
 have hk:aR (row++[.slice (au x y) n c]) (Cu.map gY):=by
  unfold Cu;rw[acm];exact pf h rfl
 obtain⟨q,_,hn,e⟩:=cE Cu 0 _ (ba fun _=>0) hk;have e:aG q 0++[(CV.sl (.var 128) (.var 129) (.var 130) (.var 131)).ev q]=row++[.slice (au x y) n c]:=e;obtain⟨e1,f⟩:=agF e rfl;have hs:∀ (a b:List Ck) (n:Nat),bk n (a++b) q->bk n a q/\bk (n+aQ a) b q:=by
  intro a
  induction a with
  | nil=>intro b n h;exact⟨zzT,by simpa [aQ] using h⟩
  | cons k a ih =>
   intro b n h;have:=ih b (n+k.len) h.2;rw[show n+k.len+aQ a=n+aQ (k::a)by simp [aQ];omega]at this;exact⟨⟨h.1,this.1⟩,this.2⟩
 obtain⟨h1,d⟩:=hs bJ [Ck.sl] 0 hn;have d:=d.1;refine⟨⟨q.i,q.b,q.s,q.v,fun k=>if k=132 then R else if k=133 then G else Hl.none⟩,e1.symm,?_,rfl,rfl,h1,d.2.1,d.2.2.1,d.2.2.2⟩;simp only[aae,abw]at f;exact f.symm
def ef (row:List Value) (bs:List Int):Bool:=decide ((bs.length:Int)=cI row 92/\jq bs=aW row 60 32)
def xP:Sx.Spec where
 fn:=25
 own:=[]
 rd:=[1000125,2000002]
 res:=[.one .bool]
 pre:=fun xs Hs Rs=>∃ row u bs R RG,xs=[.agg (row++[u]).toArray]/\Rs=[R,RG]/\aR row dz/\fE R u bs/\al bs/\bs.length<=900000/\yT RG 2
 post:=fun xs Hs Rs v Hs' F=>∀ row u bs R RG,xs=[.agg (row++[u]).toArray]->Rs=[R,RG]->fE R u bs->v=.bool (ef row bs)
def zM:Sx.Spec where
 fn:=61
 own:=[]
 rd:=[1000125,2000000]
 res:=[.one .bool]
 pre:=fun xs Hs Rs=>∃ row u bs R RG,xs=[.agg (row++[u]).toArray]/\Rs=[R,RG]/\aR row dz/\fE R u bs/\al bs/\bs.length<=900000/\yT RG 0
 post:=fun xs Hs Rs v Hs' F=>∀ row u bs R RG,xs=[.agg (row++[u]).toArray]->Rs=[R,RG]->fE R u bs->v=.bool (ef row bs)
def Y6:aD Tryz.prog [yk] xP.fn where
 Λ:=aA
 args:=(bQ 0 [.agg Cu]).map .sv
 mem:=[.ro 132 [.var 128] true,.ro 133 [.lit 2] false]
 nv:=134
def U6:aD Tryz.prog [kV] zM.fn where
 Λ:=aA
 args:=(bQ 0 [.agg Cu]).map .sv
 mem:=[.ro 132 [.var 128] true,.ro 133 [.lit 0] false]
 nv:=134
def afd:[yk][0]?=some yk:=rfl
def ab6:yk.res=[.agg (List.replicate 32 (Ck.int .u8))]:=rfl
def afe:[kV][0]?=some kV:=rfl
def ab7:kV.res=[.agg (List.replicate 32 (Ck.int .u8))]:=rfl
def iG (q:Env) (n:Nat):List Int:=(List.range 32).map fun j=>q.i (n+j)
def HW (q:Env):aW (aG q 0) 60 32=iG q 63:=rfl
def J6 (q q':Env) (n m:Nat):iG q n=iG q' m↔(q.i (n+0)=q'.i (m+0)/\q.i (n+1)=q'.i (m+1)/\q.i (n+2)=q'.i (m+2)/\q.i (n+3)=q'.i (m+3)/\q.i (n+4)=q'.i (m+4)/\q.i (n+5)=q'.i (m+5)/\q.i (n+6)=q'.i (m+6)/\q.i (n+7)=q'.i (m+7)/\q.i (n+8)=q'.i (m+8)/\q.i (n+9)=q'.i (m+9)/\q.i (n+10)=q'.i (m+10)/\q.i (n+11)=q'.i (m+11)/\q.i (n+12)=q'.i (m+12)/\q.i (n+13)=q'.i (m+13)/\q.i (n+14)=q'.i (m+14)/\q.i (n+15)=q'.i (m+15)/\q.i (n+16)=q'.i (m+16)/\q.i (n+17)=q'.i (m+17)/\q.i (n+18)=q'.i (m+18)/\q.i (n+19)=q'.i (m+19)/\q.i (n+20)=q'.i (m+20)/\q.i (n+21)=q'.i (m+21)/\q.i (n+22)=q'.i (m+22)/\q.i (n+23)=q'.i (m+23)/\q.i (n+24)=q'.i (m+24)/\q.i (n+25)=q'.i (m+25)/\q.i (n+26)=q'.i (m+26)/\q.i (n+27)=q'.i (m+27)/\q.i (n+28)=q'.i (m+28)/\q.i (n+29)=q'.i (m+29)/\q.i (n+30)=q'.i (m+30)/\q.i (n+31)=q'.i (m+31)):=by
 have e:List.range 32=[0,1,2,3,4,5,6,7,8,9,10,11,12,13,14,15,16,17,18,19,20,21,22,23,24,25,26,27,28,29,30,31]:=rfl;unfold iG;rw[e];simp only[abW,acI,aae,abw]
def E0 (g:ai k q q') (h:n+32<=k):iG q' n=iG q n:=by
 unfold iG;refine acL fun j a=>g.i _ ?_;have:=acv.1 a;omega
def sm (hr:s.res=[.one .bool]) (he:aY q e=b) (h:∀ F,s.post xs [] Rs (.bool b) [] F):postOf s xs [] Rs q mem (.sv (.one (.bool e))):=by
 intro _;refine⟨[],[],rfl,rfl,⟨⟨fun _=>0,fun _=>b,fun _=>.empty,fun _=>.tuple #[],fun _=>Hl.none⟩,?_,?_⟩,?_⟩
 .rw[hr,<-he];rfl
 .rw[hr];exact⟨zzT,zzT⟩
 .have:=h (uY q mem []);rw[<-he]at this;exact this
def xy {T:TypeId} (hx:0<=x) (h:fE RA u bs):kv (Hl.one x.toNat (.cells #[u] T)) RA (.slice (au x 0) 1 1) [bs]:=by
 refine⟨[u],x,0,1,rfl,aba _,rfl,fun j v hv=>⟨hx,?_⟩,fun j v r hv hr=>?_⟩
 .cases j with
  | zero=>simp only[acF,aa3]at hv;subst hv;simp [Hl.cell,Hl.one]
  | succ j=>simp at hv
 .cases j with
  | zero=>simp only[acF,aa3]at hv hr;subst hv hr;exact h
  | succ j=>simp at hv
def whP (xs:List Value) (Rs:List Hl) (v:Value):Prop:=∀ row u bs R RG,xs=[.agg (row++[u]).toArray]->Rs=[R,RG]->fE R u bs->v=.bool (ef row bs)
def Fk (h:fE R u bs) (hb:b=ef row bs):whP [.agg (row++[u]).toArray] [R,RG] (.bool b):=by
 intro row' u' bs' R' c e1 a h';simp only[aae,abw,Value.agg.injEq,ab1]at e1 a;have e1:row++[u]=row'++[u']:=ach Array.toList e1;obtain⟨rfl,e⟩:=agF e1 rfl;simp only[aae,abw]at e;obtain⟨rfl,rfl⟩:=a;subst e;rw[hb,h.uniq h']
set_option maxRecDepth 20000 in
def J4:zM.OK Tryz.prog:=by
 refine Spec.jN (Γ:=[kV]) (fun t j=>by rw[aaQ]at j;subst j;exact BS) rfl ?_;rintro xs Rs ⟨row,u,bs,R,RG,rfl,rfl,hr,f,hb,hlen,hK⟩;obtain⟨x,y,c,rfl,hy,_⟩:=id f;obtain⟨J,rfl,k,w2,l,m,p,n0,n1⟩:=KY (R:=R) (G:=RG) (x:=x) (n:=bs.length) (c:=c) hr hy;refine⟨U6,J,fun _ _=>True,fun _ _=>0,?_,aT rfl (by show [J.h 132,J.h 133]=_;rw[w2,l]),rfl,?_⟩
 .rw[k];rfl
 .refine aD.read [] [] [] ?_;simp only[go_sem,Nat.reduceAdd,afe,ab7];intro q1 a p1;have e:Value.slice (au (J.i 128) (J.i 129)) (J.i 130).toNat (J.i 131).toNat=.slice (au x y) bs.length c:=k.symm;have d:J.i 130=bs.length:=by
   simp only[Value.slice.injEq]at e;have:=e.2.1;omega
  have g:cI (aG J 0) 92=J.i 95:=rfl;rw[a.i 128,a.i 129,a.i 130,a.i 131,a.i 95,a.h 132,a.h 133,e,w2,l];refine⟨n0,fun h1=>⟨⟨_,bs,R,RG,rfl,rfl,f,hb,hlen,hK⟩,fun q2 o ⟨F,hp,_⟩=>?_⟩,fun h1=>?_⟩
  .have hp:=hp _ _ _ _ rfl rfl f;have hs:iG q2 135=jq bs:=by
    have hp:Value.agg (aS (iG q2 135)).toArray=.agg (aS (jq bs)).toArray:=hp;exact lQ (ach Array.toList (Value.agg.inj hp))
   have G:ai 134 J q2:=a.tr o;refine sm (b:=ef (aG J 0) bs) rfl ?_ fun F=>Fk f rfl;rw[afP];unfold ef;rw[aas,g,HW,<-hs,<-E0 G ah,J6,<-h1,d];simp only[tH,tE,kc,lh,jv,tG,nR,nu,nq,ik,nN,nS,tF,nP,nO,ke,nQ,aq,ar,bP,dZ,cN,bL,dY,fi,fC,fT,jJ,gy,iP,fW,acu,Nat.reduceAdd]
  .refine sm (b:=ef (aG J 0) bs) rfl ?_ fun F=>Fk f rfl;unfold ef;rw[g,<-d,du];simp [h1]
set_option maxRecDepth 20000 in
def DH:xP.OK Tryz.prog:=by
 refine Spec.jN (Γ:=[yk]) (fun t m=>by rw[aaQ]at m;subst m;exact Gt) rfl ?_;rintro xs Rs ⟨row,u,bs,R,RG,rfl,rfl,hr,k,hb,hlen,hK⟩;obtain⟨x,y,c,rfl,hy,_⟩:=id k;obtain⟨J,rfl,o,w2,p,q,s,n0,n1⟩:=KY (R:=R) (G:=RG) (x:=x) (n:=bs.length) (c:=c) hr hy;refine⟨Y6,J,fun _ _=>True,fun _ _=>0,?_,aT rfl (by show [J.h 132,J.h 133]=_;rw[w2,p]),rfl,?_⟩
 .rw[o];rfl
 .refine aD.read [] [] [] ?_;simp only[go_sem,Nat.reduceAdd,afd,ab6];intro q1 f p1;have d:Value.slice (au (J.i 128) (J.i 129)) (J.i 130).toNat (J.i 131).toNat=.slice (au x y) bs.length c:=o.symm;have a:J.i 130=bs.length:=by
   simp only[Value.slice.injEq]at d;have:=d.2.1;omega
  have g:cI (aG J 0) 92=J.i 95:=rfl;refine⟨by rw[f.i 130];exact n0,fun h1 q2 r p2=>?_,fun h1=>?_⟩
  .have e:ai 134 J q2:=f.tr r;rw[f.i 130,f.i 95]at h1;rw[e.i 128,e.i 129,e.i 130,e.i 131,e.h 132,e.h 133,d,w2,p];have j:=xy (T:=22) p2 k;refine⟨⟨q2.i 135,0,1,_,R,RG,bs,rfl,rfl,j,aba _,hb,hlen,hK⟩,fun l g3 ⟨F,hp,_⟩=>?_⟩;have hp:=hp _ _ _ _ _ rfl rfl j;have hs:iG l 136=jq bs:=by
    have hp:Value.agg (aS (iG l 136)).toArray=.agg (aS (jq bs)).toArray:=hp;exact lQ (ach Array.toList (Value.agg.inj hp))
   have G:ai 134 J l:=e.tr g3;refine sm (b:=ef (aG J 0) bs) rfl ?_ fun F=>Fk k rfl;rw[afP];unfold ef;rw[aas,g,HW,<-hs,<-E0 G ah,J6,<-h1,a];simp only[tH,tE,kc,lh,jv,tG,nR,nu,nq,ik,nN,nS,tF,nP,nO,ke,nQ,aq,ar,bP,dZ,cN,bL,dY,fi,fC,fT,jJ,gy,iP,fW,acu,Nat.reduceAdd]
  .rw[f.i 130,f.i 95]at h1;refine sm (b:=ef (aG J 0) bs) rfl ?_ fun F=>Fk k rfl;unfold ef;rw[g,<-a,du];simp [h1]
def Ku:Sx.Spec where
 fn:=190
 own:=[]
 rd:=[100]
 res:=[.one .sl]
 pre:=fun xs Hs Rs=>∃ (v:Value) (T:List (List Int)) (R:Hl),xs=[v]/\Rs=[R]/\bd R v qm (T.map aS)/\(∀ t∈T,t.length=16)/\T.length<=1000000
 post:=fun xs Hs Rs u Hs' F=>∃ (v:Value) (T:List (List Int)) (R:Hl),xs=[v]/\Rs=[R]/\bd R v qm (T.map aS)/\bd F u qm (T.map aS)
def ae3:aD Tryz.prog [] Ku.fn where
 Λ:=aA
 args:=[.sv (.one (.sl (.var 0) (.var 1) (.var 2) (.var 3)))]
 mem:=[.ro 4 [.var 0] false]
 nv:=5
def YX (F:Hl) (e:TypeId) (size:Nat) {a:Int} (h:0<=a) (b:F=Hl.one a.toNat (.cells #[] e (0,0))):aO F e size (.slice (au a 0) (Int.toNat 0) (Int.toNat 0)) (Int.toNat 0) []:=by
 subst b;refine⟨aC,Or.inr ⟨a.toNat,0,#[],by rw[av h];rfl,Hl.aK _ _,ah,az,aC,aC⟩⟩
def E9:∀ (n:Nat) (l:List Int),l.length=n->aR (aS l) (List.replicate n (Kd.int .u8))
 | 0,[],_=>trivial
 | n+1,z::l,h=>⟨by simp [bh],E9 n l (by simpa using h)⟩
def YY {x:Nat} (b:∀ t∈T,t.length=16) (h:∀ (i:Nat) row,(T.map aS)[i]?=some row->aR row qm/\∀ j u,row[j]?=some u->R.cell x (y+i*qm.length+j)=some u) :
 bK R x y (T.length*16)=(T.map aS).flatten/\∀ j,j<T.length*16->∃ v,R.cell x (y+j)=some v/\v.oneCell'=true:=by
 have c:qm.length=16:=rfl;have len:∀ r∈T.map aS,r.length=16:=fun r hr=>by
  obtain⟨t,g,rfl⟩:=acw.1 hr;rw[bN];exact b t g
 have key:∀ j,j<T.length*16->∃ z,R.cell x (y+j)=some (.int .u8 z)/\(T.map aS).flatten[j]?=some (.int .u8 z):=by
  intro j a;have hi:j/16<T.length:=ah;have e1:T[j/16]?=some T[j/16]:=aad hi;have hl:=b _ (acK hi);have d:T[j/16][j%16]?=some (T[j/16][j%16]'ah):=aad ah;have e:(T.map aS)[j/16]?=some (aS T[j/16]):=by rw[abl,e1];rfl
  have f:(aS T[j/16])[j%16]?=some (.int .u8 (T[j/16][j%16]'ah)):=by rw[fJ,d];rfl
  refine⟨T[j/16][j%16]'ah,?_,?_⟩
  rotate_left
  .have:=AA (n:=16) len e f;rw[show j/16*16+j%16=j by omega]at this;exact this
  .have:=(h _ _ e).2 _ _ f;rw[c,show y+j/16*16+j%16=y+j by omega]at this;exact this
 refine⟨?_,fun j a=>?_⟩
 .unfold bK;apply ack;intro j;rw[abl];rcases acN j (T.length*16)with a | a
  .obtain⟨z,e1,d⟩:=key j a;rw[acf a,acr,e1,d];rfl
  .have k:(T.map aS).flatten.length=T.length*16:=by
    have:∀ (rows:List (List Value)),(∀ r∈rows,r.length=16)->rows.flatten.length=rows.length*16:=by
     intro rows
     induction rows with
     | nil=>intro _;rfl
     | cons r rows ih =>
      intro hl;rw[adz,aaA,ih fun r hr=>hl r (abq _ hr),hl r (acj ..),acn];omega
    rw[this _ len,aca]
   rw[abA (by simpa using a),abA ah];rfl
 .obtain⟨z,e1,_⟩:=key j a;exact⟨_,e1,rfl⟩
def Vj:Ku.OK Tryz.prog:=by
 refine Spec.jN (Γ:=[]) (fun _ h=>by cases h) rfl ?_;rintro xs Rs ⟨v,T,R,rfl,rfl,f,l,hT⟩;obtain⟨x,y,c,rfl,hy,a⟩:=id f;have b:(T.map aS).length=T.length:=aca ..;refine⟨ae3,aM [x,y,(T.map aS).length,c] false [Hl.none,Hl.none,Hl.none,Hl.none,R],fun _ _=>True,fun _ _=>0,?_,aT rfl rfl,rfl,?_⟩
 .show [Value.slice (au x y) (((T.map aS).length:Int)).toNat ((c:Int)).toNat]=_;rw[aac,aac]
 .refine aD.read [] [] [] ?_;generalize o:aM [x,y,(T.map aS).length,c] false [Hl.none,Hl.none,Hl.none,Hl.none,R]=J;obtain⟨⟨v0,v1,v2,_⟩,_,_,_,_,r,_⟩:=jn o;simp only[go_sem,Nat.reduceAdd];rw[v0];refine⟨fun hx=>?_,fun hx q1 m p1=>?_⟩
  .have g:T=[]:=by
    rcases a with h | ⟨h,_⟩
    .exact afv.1 h
    .omega
   intro _;refine⟨[],[],rfl,rfl,⟨(ba fun k=>if k=0 then -1 else 0),rfl,?_,zzT⟩,_,T,R,rfl,rfl,f,?_⟩
   .exact⟨az,az,az,az⟩
   .subst g;exact⟨-1,0,0,rfl,aba _,Or.inl rfl⟩
  .have d:=YX (Hl.one (q1.i 5).toNat (.cells #[] 34 (0,0))) 34 16 p1 rfl;rw[m.i 0,v0,m.i 1,v1,m.i 2,v2,m.h 4,r];have e:=f;rw[b]at e;rw[aac,b];have sA:bK R x.toNat y.toNat (T.length*16)=(T.map aS).flatten/\((0<=x/\0<=y/\(0:Int)<=T.length/\∀ j,j<T.length*16->∃ v,R.cell x.toNat (y.toNat+j)=some v/\v.oneCell'=true)\/(T.length:Int)=0):=by
    rcases a with h | ⟨p,h⟩
    .have g:T=[]:=afv.1 h;subst g;exact⟨rfl,Or.inr rfl⟩
    .obtain⟨s1,s2⟩:=YY l h;exact⟨s1,Or.inl ⟨p,hy,ah,s2⟩⟩
   refine⟨⟨⟨[],d⟩,aba _,sA.2,by unfold maxLen;omega,ah⟩,fun q2 s ⟨a1,a2,a3,_⟩=>?_⟩;have n:=a3 _ d;rw[sA.1,adk,show Int.toNat 0+T.length=T.length by omega]at n;intro _;have u:ai 5 J q2:=m.tr s;have w:pF (q2.h 6) 34 qm (.slice (au (q2.i 6) 0) T.length (q2.i 7).toNat) (T.map aS):=by
    refine⟨fun row hr=>?_,?_⟩
    .obtain⟨t,z,rfl⟩:=acw.1 hr;exact E9 16 t (l t z)
    .rw[b];exact n
   have q:TV.ev q2 (.sv (.one (.sl (.var 6) (.lit 0) (.var 2) (.var 7))))=.slice (au (q2.i 6) 0) T.length (q2.i 7).toNat:=by
    show Value.slice (au (q2.i 6) 0) (q2.i 2).toNat (q2.i 7).toNat=_;rw[u.i 2,v2,b,aac]
   refine⟨[],[1],rfl,rfl,⟨(ba fun k=>match k with | 0=>q2.i 6 | 1=>0 | 2=>T.length | _=>q2.i 7),?_,?_,zzT⟩,_,T,R,rfl,rfl,e,?_⟩
   .rw[q];show _=Value.slice (au (q2.i 6) 0) ((T.length:Int)).toNat (q2.i 7).toNat;rw[aac]
   .exact⟨a1,aba 0,by show(0:Int)<=T.length;omega,a2⟩
   .rw[q];show bd (bY [q2.h 6]) _ _ _;rw[aJ];exact w.rd
def Dm:∀ {l:List Value} {ks:List Kd} {v:Value} {j:Nat} {k:Kd},aR l ks->ks[j]?=some k->bh (some v) k=true->aR (l.set j v) ks
 | [],_,_,_,_,h,_,_=>h
 | _::_,[],_,_,_,h,_,_=>h.elim
 | a::l,k0::ks,v,0,k,h,hk,hv=>by
  simp only[acF,aa3]at hk;subst hk;exact⟨hv,h.2⟩
 | a::l,k0::ks,v,j+1,k,h,hk,hv=>⟨h.1,Dm h.2 (by simpa using hk) hv⟩
def br.clone {A B:Hl} (x:br A row h) (hu:bd B u qm (h.t.map aS)):br B (row.set 53 u) h:=by
 have hl:=jH x.ok;have b:dz.length=125:=rfl;refine⟨Dm x.ok (k:=.slice) rfl ?_,?_,?_,?_,x.byte⟩
 .obtain⟨a,y,c,e,_⟩:=hu;rw[e];rfl
 .intro v hv;rcases afZ hv with h | h
  .exact x.rng v h
  .obtain⟨a,y,c,e,_⟩:=hu;rw[h,e];trivial
 .rw[List.set_set];exact x.core
 .rw[abv,aen ah];exact hu
def MW:Sx.Spec where
 fn:=168
 own:=[]
 rd:=[10053]
 res:=[.agg bJ]
 pre:=fun xs Hs Rs=>∃ row R h,xs=[.agg row.toArray]/\Rs=[R]/\br R row h
 post:=fun xs Hs Rs v Hs' F=>∀ row R h,xs=[.agg row.toArray]->Rs=[R]->br R row h->∃ row',v=.agg row'.toArray/\br F row' h
def adt:aD Tryz.prog [Ku] MW.fn where
 Λ:=aA
 args:=(bQ 0 [.agg bJ]).map .sv
 mem:=[.ro 130 [.var 53] true]
 nv:=131
def ads:[Ku][0]?=some Ku:=rfl
def adu:Ku.res=[.one .sl]:=rfl
def WZ:(aL 0 [Cp.one .sl]≠[])=True:=by simp [aL,Cp.roots,Ck.root]
set_option maxRecDepth 20000 in
def Qo (q:Env) (n:Nat):(TV.sv (.agg (aj 0 ([Ck.int .i64,Ck.int .u64]++List.replicate 32 (Ck.int .u8)++[Ck.int .i64,Ck.bool,Ck.int .u64]++List.replicate 16 (Ck.int .u8))++[.sl (.var n) (.var (n+1)) (.var (n+2)) (.var (n+3))]++aj 57 (List.replicate 6 (Ck.int .u64)++List.replicate 32 (Ck.int .u8)++[Ck.int .i64]++List.replicate 32 (Ck.int .u8))))).ev q=.agg ((aG q 0).set 53 (.slice (au (q.i n) (q.i (n+1))) (q.i (n+2)).toNat (q.i (n+3)).toNat)).toArray:=rfl
set_option maxRecDepth 20000 in
def KR:MW.OK Tryz.prog:=by
 refine Spec.jN (Γ:=[Ku]) (fun t f=>by rw[aaQ]at f;subst f;exact Vj) rfl ?_;rintro xs Rs ⟨row,R,h,rfl,rfl,hx⟩;obtain⟨J,rfl,c,p,q,r,u⟩:=pO (R:=R) hx.ok;refine⟨adt,J,fun _ _=>True,fun _ _=>0,?_,aT rfl (by show [J.h 130]=_;rw[c]),rfl,?_⟩
 .rfl
 .refine aD.read [] [] [] ?_;simp only[go_sem,Nat.reduceAdd,ads,adu,WZ];have hT:bd R (.slice (au (J.i 53) (J.i 54)) (J.i 55).toNat (J.i 56).toNat) qm (h.t.map aS):=hx.tok;intro q1 w _ q2 x _;have e:ai 131 J q2:=w.tr x;rw[e.i 53,e.i 54,e.i 55,e.i 56,e.h 130,c];refine⟨⟨_,h.t,R,rfl,rfl,hT,fun t f=>(hx.byte.2 t f).1,hx.byte.1⟩,fun a g3 ⟨F,⟨v',y,R',e1,n,hA,z⟩,d,j⟩=>?_⟩;simp only[aae,abw]at e1 n;subst e1 n;have d:=d trivial;have eT:y=h.t:=jT (hA.uniq hT);subst eT;have A:ai 131 J a:=e.tr g3;have l:aG a 0=aG J 0:=cy A.mono;have B:=hx.clone z;obtain⟨⟨C,m1,m2,m3⟩,_⟩:=j;intro _;refine⟨[],[3],rfl,rfl,⟨⟨fun k=>if 53<=k/\k<57 then a.i (k+80)else a.i k,a.b,a.s,a.v,a.h⟩,rfl,(tr8 (tr8 (tr8 (tr8 (tr8 (tr8 ⟨zzT,zzT,zzT,zzT,zzT,⟨C,m1,m2,m3⟩,tr8 (tr8 (tr8 (tr8 (tr8 (tr8 (tr8 (tr8 ⟨zzT,zzT,zzT,zzT,zzT,zzT,zzT,zzT⟩)))))))⟩)))))),zzT⟩,fun row' R2 h' g o m=>?_⟩
  .simp only[aae,abw,Value.agg.injEq]at g o;have g:aG J 0=row':=ach Array.toList g;subst g o;rw[m.uniq hx,Qo,l];refine⟨_,rfl,?_⟩;show br (bY [a.h 133]) _ _;rw[aJ,d];exact B
def db {a b:List Int} (h1:al a) (c:al b):al (a++b):=fun z hz=>(acg.1 hz).elim (h1 z) (c z)
def gH (n:Nat):al (aF n):=fun z hz=>C9 n z hz
def O7 (b:Bool):al (fR b):=by
 intro z hz;unfold fR at hz;rw[aaQ]at hz;subst hz;cases b<;>simp
def O8 (h:∀ t∈T,al t):al T.flatten:=by
 intro z hz;obtain⟨t,a,hz⟩:=agh.1 hz;exact h t a z hz
def KH (hx:br R row h) (hk:∀ j,j<n->dz[a+j]?=some (.int .u8)) (d:∀ j,j<n->a+j≠53):al (aW h.c a n):=by
 intro z hz;obtain⟨j,b,rfl⟩:=acw.1 hz;have b:=acv.1 b;rw[hx.I (d j b)];obtain⟨v,hv,hi⟩:=fv hx.ok (hk j b);have hr:=hx.rng v (aah hv);unfold cI;rw[hv];cases v<;>simp [bh]at hi
 subst hi;exact hr
def ZE (hx:br R row h):al (fH h):=by
 have s1:=KH hx (a:=2) (n:=32) az ah;have s2:=KH hx (a:=37) (n:=16) az ah;have b:=KH hx (a:=60) (n:=32) az ah;have c:=KH hx (a:=93) (n:=32) az ah;unfold fH nz qv fZ;exact db (db (db (db (db (db (db (db (db (db (db (db (db (db (db (db (db (gH _) (gH _)) s1) (gH _)) (O7 _)) (gH _)) s2) (gH _)) (O8 fun t d=>(hx.byte.2 t d).2)) (gH _)) (gH _)) (gH _)) (gH _)) (gH _)) (gH _)) b) (gH _)) c
def O9 (hx:br R row h):al (bf h)/\(bf h).length<=900000:=by
 unfold bf;split
 .rename_i hf;refine⟨ZE hx,?_⟩;have:=vu hx hf.2.1;unfold fH;rw[aaA,bG];omega
 .exact⟨fun z hz=>(by cases hz),acP _⟩
noncomputable def oK (h:Hd):List Int:=jq (bf h)
def Gq (h:aR row dz):∃ q:Env,row=aG q 0/\q.h 130=R/\q.h 131=G/\bk 0 bJ q:=by
 obtain⟨q,e,_,hn,_⟩:=pO (R:=R) h;exact⟨⟨q.i,q.b,q.s,q.v,fun k=>if k=130 then R else if k=131 then G else Hl.none⟩,e,rfl,rfl,hn⟩
noncomputable def ehS:Sx.Spec where
 fn:=169
 own:=[]
 rd:=[10053,2000002]
 res:=[.agg (List.replicate 32 (Ck.int .u8))]
 pre:=fun xs Hs Rs=>∃ row R RG h,xs=[.agg row.toArray]/\Rs=[R,RG]/\br R row h/\yT RG 2
 post:=fun xs Hs Rs v Hs' F=>∀ row R RG h,xs=[.agg row.toArray]->Rs=[R,RG]->br R row h->v=.agg (aS (oK h)).toArray
noncomputable def rhS:Sx.Spec where
 fn:=148
 own:=[]
 rd:=[10053,2000000]
 res:=[.agg (List.replicate 32 (Ck.int .u8))]
 pre:=fun xs Hs Rs=>∃ row R RG h,xs=[.agg row.toArray]/\Rs=[R,RG]/\br R row h/\yT RG 0
 post:=fun xs Hs Rs v Hs' F=>∀ row R RG h,xs=[.agg row.toArray]->Rs=[R,RG]->br R row h->v=.agg (aS (oK h)).toArray
noncomputable def ehΓ:List Sx.Spec:=[bU 116,yk]
noncomputable def rhΓ:List Sx.Spec:=[bU 105,kV]
def Xf:∀ t∈ehΓ,t.OK Tryz.prog:=ak qM <| ak Gt <| bu
def Yy:∀ t∈rhΓ,t.OK Tryz.prog:=ak Hj <| ak BS <| bu
def aag (f:FuncId):(bU f).res=[.one .sl]:=rfl
noncomputable def ehW:aD Tryz.prog ehΓ ehS.fn where
 Λ:=aA
 args:=(bQ 0 [.agg bJ]).map .sv
 mem:=[.ro 130 [.var 53] true,.ro 131 [.lit 2] false]
 nv:=132
noncomputable def rhW:aD Tryz.prog rhΓ rhS.fn where
 Λ:=aA
 args:=(bQ 0 [.agg bJ]).map .sv
 mem:=[.ro 130 [.var 53] true,.ro 131 [.lit 0] false]
 nv:=132
def H8 (hr:s.res=[.agg (List.replicate 32 (Ck.int .u8))]) (he:Value.agg (List.map (CV.ev q) (aj n (List.replicate 32 (Ck.int .u8)))).toArray=.agg (aS bs).toArray) (hl:bs.length=32) (h:∀ F,s.post xs [] Rs (.agg (aS bs).toArray) [] F):postOf s xs [] Rs q mem (.sv (.agg (aj n (List.replicate 32 (Ck.int .u8))))):=by
 intro _;obtain⟨a,_,b,c⟩:=cE (List.replicate 32 (Ck.int .u8)) 0 (aS bs) q (qh 32 _ hl);refine⟨[],[],rfl,rfl,⟨a,?_,?_⟩,?_⟩
 .rw[hr];show Value.agg (List.map (CV.ev q) (aj n (List.replicate 32 (Ck.int .u8)))).toArray=Value.agg ((aj 0 (List.replicate 32 (Ck.int .u8))).map (CV.ev a)).toArray;rw[he,c]
 .rw[hr];exact⟨(tr8 (tr8 (tr8 (tr8 zzT)))),zzT⟩
 .have:=h (uY q mem []);rw[<-he]at this;exact this
def Yx:rhS.OK Tryz.prog:=by
 refine Spec.jN (Γ:=rhΓ) Yy rfl ?_;rintro xs Rs ⟨row,R,RG,h,rfl,rfl,hx,hK⟩;obtain⟨J,rfl,a,b,k⟩:=Gq (R:=R) (G:=RG) hx.ok;refine⟨rhW,J,fun _ _=>True,fun _ _=>0,?_,aT rfl (by show [J.h 130,J.h 131]=_;rw[a,b]),rfl,?_⟩
 .rfl
 .refine aD.read [bJ] [] [] ?_;simp only[go_sem,Nat.reduceAdd,rhΓ,aag,ab7,WZ];intro q1 l _ q2 m _;have e:ai 132 J q2:=l.tr m;have f:aG q2 0=aG J 0:=cy e.mono;have f:List.map (CV.ev q2) (aj 0 bJ)=aG J 0:=f;rw[f,e.h 130,a];refine⟨⟨_,R,h,rfl,rfl,hx⟩,fun n g3 ⟨F,hp,g,_⟩=>?_⟩;have g:=g trivial;have hB:=pI hx hp;have o:ai 132 J n:=e.tr g3;rw[g,o.h 131,b];have j:=hB.rd.w;have hb:=O9 hx;refine⟨⟨_,bf h,F,RG,rfl,rfl,j,hb.1,hb.2,hK⟩,fun q g4 ⟨r,c,_⟩=>?_⟩;have c:=c _ _ _ _ rfl rfl j;refine H8 rfl c (gU _) fun s row' R' p h' e1 d i=>?_;simp only[aae,abw,Value.agg.injEq]at e1 d;have e1:aG J 0=row':=ach Array.toList e1;obtain⟨d,_⟩:=d;subst e1 d;rw[i.uniq hx];rfl
def Xe:ehS.OK Tryz.prog:=by
 refine Spec.jN (Γ:=ehΓ) Xf rfl ?_;rintro xs Rs ⟨row,R,RG,h,rfl,rfl,hx,hK⟩;obtain⟨J,rfl,a,b,m⟩:=Gq (R:=R) (G:=RG) hx.ok;refine⟨ehW,J,fun _ _=>True,fun _ _=>0,?_,aT rfl (by show [J.h 130,J.h 131]=_;rw[a,b]),rfl,?_⟩
 .rfl
 .refine aD.read [bJ] [] [] ?_;simp only[go_sem,Nat.reduceAdd,ehΓ,aag,ab6,WZ];intro q1 n _ q2 o _;have e:ai 132 J q2:=n.tr o;have f:aG q2 0=aG J 0:=cy e.mono;have f:List.map (CV.ev q2) (aj 0 bJ)=aG J 0:=f;rw[f,e.h 130,a];refine⟨⟨_,R,h,rfl,rfl,hx⟩,fun r g3 ⟨F,hp,g,_⟩ k g4 p4=>?_⟩;have g:=g trivial;have hB:=pI hx hp;have p:ai 132 J k:=e.trans (g3.mono.tr g4);rw[p.h 131,b,g4.h 134,g,g4.i 134,g4.i 135,g4.i 136,g4.i 137];have l:=xy (T:=22) p4 hB.rd.w;have hb:=O9 hx;refine⟨⟨k.i 138,0,1,_,F,RG,bf h,rfl,rfl,l,aba _,hb.1,hb.2,hK⟩,fun s t ⟨u,c,_⟩=>?_⟩;have c:=c _ _ _ _ _ rfl rfl l;refine H8 rfl c (gU _) fun v row' R' q h' e1 d j=>?_;simp only[aae,abw,Value.agg.injEq]at e1 d;have e1:aG J 0=row':=ach Array.toList e1;obtain⟨d,_⟩:=d;subst e1 d;rw[j.uniq hx];rfl
def GN {x:Nat} (hx:x<18446744073709551616) (hy:y<18446744073709551616) {s:List Int} (h:aF x++s=aF y++t):x=y/\s=t:=by
 have e1:=oW hx s;rw[h,oW hy t]at e1;simp only[aa3,acx]at e1;obtain⟨e1,_⟩:=e1;subst e1;exact⟨rfl,agE h⟩
def wE {a b:List Value} (h:aW a i n=aW b i n) (c:j<n):cI a (i+j)=cI b (i+j):=by
 have:=ach (fun l=>l[j]?) h;unfold aW at this;simpa [abl,acf c] using this
def Jj:Option Kd->Bool
 | some (.int _)=>true
 | _=>false
def TY:((List.range 125).all fun k=>k==53||k==35||Jj dz[k]?)=true:=by kernel_rfl
def Qu {kd:IntKind} (h:bh (some v) (.int kd)=true):∃ z,v=.int kd z:=by
 cases v<;>simp [bh]at h
 subst h;exact⟨_,rfl⟩
def te (h0:0<=z) (h1:z<18446744073709551616):iJ z=z.toNat:=by unfold iJ;rw[IntKind.wrap_u64];omega
def Z2 (x:br R row h) (y:br R' row' h') (e:∀ k,k<125->k≠53->k≠35->cI h.c k=cI h'.c k) (a:cB h.c 35=cB h'.c 35):h.c=h'.c:=by
 have o:=fV x.ok;have p:=fV y.ok;have hl:dz.length=125:=rfl;rw[x.core,y.core];apply ack;intro k;by_cases b:k=53
 .subst b;rw[aen ah,aen ah]
 rw[adx ah,adx ah];by_cases hk:k<125
 .by_cases g:k=35
  .subst g;obtain⟨v,hv,hi⟩:=fv x.ok (k:=35) (kd:=.bool) rfl;obtain⟨v',i,j⟩:=fv y.ok (k:=35) (kd:=.bool) rfl;rw[x.B az,y.B az]at a;unfold cB at a;rw[hv,i]at a ⊢;cases v<;>simp [bh]at hi
   cases v'<;>simp [bh]at j
   simp only[yX]at a;rw[a]
  .have:=acd.1 TY k (acv.2 hk);simp only[b,g,af4,aeM,false_or,decide_false]at this;have m:∃ kd,dz[k]?=some (.int kd):=by
    cases n:dz[k]? with
    | none=>rw[n]at this;simp [Jj]at this
    | some d=>rw[n]at this;cases d<;>simp [Jj]at this;exact⟨_,rfl⟩
   obtain⟨kd,f⟩:=m;obtain⟨v,hv,hi⟩:=fv x.ok f;obtain⟨v',i,j⟩:=fv y.ok f;obtain⟨z,rfl⟩:=Qu hi;obtain⟨q,rfl⟩:=Qu j;have l:=e k hk b g;rw[x.I b,y.I b]at l;unfold cI at l;rw[hv,i]at l ⊢;simp only[bO]at l;rw[l]
 .rw[abA ah,abA ah]
def TO (x:br R row h) (y:br R' row' h') (M:h.Form) (o:h'.Form) (e:fH h=fH h'):h=h':=by
 obtain⟨⟨hw,hs,he,d,hk,O,hp⟩,h8,P,p,Q⟩:=id M;obtain⟨⟨U,hs',V,W,X,E,Y⟩,Z,F,l,G⟩:=id o;have u:∀ {R:Hl} {row:List Value} {h:Hd} (hx:br R row h) {k:Nat},dz[k]?=some (.int .u64)->k≠53->0<=cI h.c k/\cI h.c k<18446744073709551616:=by
  intro R row h hx k hk m;rw[hx.I m];exact hx.rng _ (aah (wC hx.ok hk))
 have hsz:=vS p;have H:=vS l;unfold fH nz qv fZ at e;rw[te (z:=cI h.c 0) ah ah,te (z:=cI h.c 34) ah ah,te (z:=cI h.c 92) ah ah,
  te (z:=cI h'.c 0) ah ah,te (z:=cI h'.c 34) ah ah,te (z:=cI h'.c 92) ah ah]at e
 simp only[abS]at e;have N:∀ {k:Nat},0<=cI h.c k/\cI h.c k<18446744073709551616->0<=cI h'.c k/\cI h'.c k<18446744073709551616->∀ {s t:List Int},aF (cI h.c k).toNat++s=aF (cI h'.c k).toNat++t->cI h.c k=cI h'.c k/\s=t:=by
  intro k a b s t e;obtain⟨e1,q⟩:=GN ah ah e;exact⟨ah,q⟩
 have S:∀ {a n:Nat} {s t:List Int},aW h.c a n++s=aW h'.c a n++t->aW h.c a n=aW h'.c a n/\s=t:=by
  intro a n s t e;exact afS e (by rw[bG,bG])
 obtain⟨e0,e⟩:=N (k:=0) ah ah e;obtain⟨e1,e⟩:=N (k:=1) ah ah e;obtain⟨q,e⟩:=S e;obtain⟨r,e⟩:=N (k:=34) ah ah e;obtain⟨g,e⟩:=afS e rfl;obtain⟨v,e⟩:=N (k:=36) (u x rfl az) (u y rfl az) e;obtain⟨w,e⟩:=S e;obtain⟨eT,e⟩:=GN ah ah e;have J:∀ {T:List (List Int)},(∀ t∈T,t.length=16)->T.flatten.length=16*T.length:=by
  intro T
  induction T with
  | nil=>intro _;rfl
  | cons t T ih =>
   intro h;rw[adz,aaA,h t (acj ..),ih fun t d=>h t (abq _ d),acn];omega
 have K:∀ t∈h.t,t.length=16:=fun t d=>(x.byte.2 t d).1;have L:∀ t∈h'.t,t.length=16:=fun t d=>(y.byte.2 t d).1;obtain⟨et,e⟩:=afS e (by rw[J K,J L,eT]);obtain⟨aa,e⟩:=N (k:=54) (u x rfl az) (u y rfl az) e;obtain⟨ab,e⟩:=N (k:=55) (u x rfl az) (u y rfl az) e;obtain⟨ad,e⟩:=N (k:=56) (u x rfl az) (u y rfl az) e;obtain⟨ae,e⟩:=N (k:=57) (u x rfl az) (u y rfl az) e;obtain⟨af,e⟩:=N (k:=58) (u x rfl az) (u y rfl az) e;obtain⟨ag,e⟩:=N (k:=59) (u x rfl az) (u y rfl az) e;obtain⟨A,e⟩:=S e;obtain⟨B,e⟩:=N (k:=92) ah ah e;have C:=e;have hT:∀ {T f:List (List Int)},(∀ t∈T,t.length=16)->(∀ t∈f,t.length=16)->T.flatten=f.flatten->T=f:=by
  intro T
  induction T with
  | nil =>
   intro f _ i e;cases f with
   | nil=>rfl
   | cons t f =>
    have:=ach List.length e;rw[afx,adz,aaA,i t (acj ..),acO]at this;omega
  | cons t T ih =>
   intro f h1 i e;cases f with
   | nil =>
    have:=ach List.length e;rw[afx,adz,aaA,h1 t (acj ..),acO]at this;omega
   | cons t' f =>
    rw[adz,adz]at e;obtain⟨a,b⟩:=afS e (by rw[h1 t (acj ..),i t' (acj ..)]);rw[a,ih (fun t d=>h1 t (abq _ d)) (fun t d=>i t (abq _ d)) b]
 have ec:=Z2 x y (fun k hk m ai=>by
  by_cases k1:k<2
  .have:k=0\/k=1:=ah;rcases this with rfl | rfl
   .exact e0
   .exact e1
  by_cases k2:k<34
  .have:=wE q (j:=k-2) ah;rwa[show 2+(k-2)=k by omega]at this
  by_cases k3:k<37
  .have:k=34\/k=36:=ah;rcases this with rfl | rfl
   .exact r
   .exact v
  by_cases k4:k<53
  .have:=wE w (j:=k-37) ah;rwa[show 37+(k-37)=k by omega]at this
  by_cases k5:k<60
  .have:k=54\/k=55\/k=56\/k=57\/k=58\/k=59:=ah;rcases this with rfl | rfl | rfl | rfl | rfl | rfl<;>assumption
  by_cases k6:k<92
  .have:=wE A (j:=k-60) ah;rwa[show 60+(k-60)=k by omega]at this
  by_cases k7:k=92
  .subst k7;exact B
  .have:=wE C (j:=k-93) ah;rwa[show 93+(k-93)=k by omega]at this) (by
  unfold fR at g;simp only[aae,abw]at g;cases h1:cB h.c 35<;>cases i:cB h'.c 35<;>simp [h1,i]at g ⊢)
 have D:=hT K L et;cases h;cases h';exact congr (ach Hd.mk ec) D
def D3 (x:br R row h) (y:br R' row' h') (b:h.Form) (a:h'.Form):bf h=bf h'↔h=h':=by
 refine⟨fun e=>?_,fun e=>by rw[e]⟩;unfold bf at e;rw[ab9 b,ab9 a]at e;exact TO x y b a e
end Go.Proofs.YtbdikjnpbnobcaaGreatDoor
namespace Go.Sx
open Go
def Hl.but (F:Hl) (o:Option Nat):Hl:=fun b=>if some b=o then Option.none else F b
def Hl.Pr (F:Hl) (o:Option Nat):(F.but o).le F:=fun b x h=>by
 unfold Hl.but at h;split at h
 .cases h
 .exact h
def Hl.FI {F G:Hl} {o o':Option Nat} (hk:∀ b,F.mem b->some b≠o->G b=F b) (hn:∀ b,F.mem b->some b≠o->some b≠o'):(F.but o).le (G.but o'):=fun b x h=>by
 unfold Hl.but at h ⊢;split at h
 .cases h
 .rename_i hb;have hm:F.mem b:=by unfold Hl.mem;rw[h];rfl
  rw[aa8 (hn b hm hb),hk b hm hb];exact h
end Go.Sx
namespace Go.Proofs.YtbdikjnpbnobcaaGreatDoor
open Go Go.Sx Go.Pk
variable {lg:Bool}{J J' q':Env}{h h':Hd}{F R' RA:Hl}{w:Int}{ks:List Ck}{raw vs:List Int}{C row row':List Value}{j k m' m1 m3 z:Nat}{old:Nat->E}{u:Value}
def fI:List Ck:=bJ++[.sl]
def oj:List Kd:=fI.map gY
def ou:Value:=.bool false
structure Pc where
 h:Hd
 b:List Int
structure cH (R1 R2:Hl) (row:List Value) (p:Pc):Prop where
 ok:aR row oj
 hd:br R1 (row.take 125) p.h
 body:fE R2 (row.getD 125 ou) p.b
 byte:al p.b
 len:p.b.length<=1000000
def cH.mono {R1 R2 a b:Hl} {p:Pc} (x:cH R1 R2 row p) (h1:R1.le a) (c:R2.le b):cH a b row p:=⟨x.ok,x.hd.mono h1,jE x.body c,x.byte,x.len⟩
def cH.uniq {R1 R2:Hl} {p a:Pc} (x:cH R1 R2 row p) (y:cH R1 R2 row a):p=a:=by
 obtain⟨h,b⟩:=p;obtain⟨h',b'⟩:=a;have e1:h=h':=x.hd.uniq y.hd;have c:b=b':=x.body.uniq y.body;rw[e1,c]
def PA {q:Env} (g:Nat->Hl):∀ (ks:List Ck) (n:Nat),(aj n ks).map (CV.ev q)=(aj n ks).map (CV.ev ⟨q.i,q.b,q.s,q.v,g⟩)
 | [],_=>rfl
 | k::ks,n=>by
  show(k.cv n).ev q::_=(k.cv n).ev _::_;rw[PA g ks]
  congr 1
  cases k<;>rfl
def QZ {q:Env} (g:Nat->Hl):∀ (ks:List Ck) (n:Nat),bk n ks q->bk n ks ⟨q.i,q.b,q.s,q.v,g⟩
 | [],_,_=>trivial
 | k::ks,n,h=>⟨(by have h1:=h.1;cases k<;>exact h1),QZ g ks _ h.2⟩
def xh (hs:List (Nat×Hl)) (k:Nat):Hl:=match hs.find? (fun p=>p.1==k)with
 | some p=>p.2
 | none=>Hl.none
def lY (hs:List (Nat×Hl)) (h:aR row (ks.map gY)):∃ q:Env,row=(aj 0 ks).map (CV.ev q)/\bk 0 ks q/\∀ k,q.h k=xh hs k:=by
 obtain⟨q,_,hn,e⟩:=cE ks 0 row (ba fun _=>0) h;exact⟨⟨q.i,q.b,q.s,q.v,xh hs⟩,by rw[<-PA (xh hs)];exact e.symm,QZ _ _ _ hn,fun _=>rfl⟩
def GM {q:Env} : ∀ (a b:List Ck) (n:Nat),bk n (a++b) q->bk (n+aQ a) b q:=by
 intro a
 induction a with
 | nil=>intro b n h;simpa [aQ] using h
 | cons k a ih =>
  intro b n h;have:=ih b (n+k.len) h.2;rw[show n+k.len+aQ a=n+aQ (k::a)by simp [aQ];omega]at this;exact this
def mV:∀ {n:Nat} {l:List Value} {ks:List Kd},aR l ks->aR (l.take n) (ks.take n)
 | 0,_,_,_=>trivial
 | _+1,[],[],_=>trivial
 | n+1,_::_,_::_,h=>⟨h.1,mV (n:=n) h.2⟩
 | _+1,[],_::_,h=>False.elim h
 | _+1,_::_,[],h=>False.elim h
def js (R RA:Hl) (v:Value) (ps:List Pc):Prop:=∃ rows,bd R v oj rows/\rows.length=ps.length/\∀ (j:Nat) row p,rows[j]?=some row->ps[j]?=some p->cH RA RA row p
def js.uniq {R:Hl} {v:Value} {a b:List Pc} (h:js R RA v a) (h':js R RA v b):a=b:=by
 obtain⟨rows,h1,i,k⟩:=h;obtain⟨c,d,e,f⟩:=h';obtain rfl:=h1.uniq d;apply afl (i.symm.trans e);intro j l g;exact(k j _ _ (aad ah) (aad l)).uniq (f j _ _ (aad ah) (aad g))
def iO:oj.length=126:=by kernel_rfl
def He:oj.take 125=dz:=by kernel_rfl
structure OX (R RA:Hl) (x y:Int) (k:Nat) (row:List Value) (c:Pc):Prop where
 x0:0<=x
 pc:cH RA RA row c
 cell:∀ j u,row[j]?=some u->R.cell x.toNat (y.toNat+k*126+j)=some u
def js.at {R:Hl} {x y:Int} {l c:Nat} {ps:List Pc} (h:js R RA (.slice (au x y) l c) ps) (hy:0<=y):l=ps.length/\∀ (k:Nat) p,ps[k]?=some p->∃ row,OX R RA x y k row p:=by
 obtain⟨rows,⟨x1,f,c1,he,b,hr⟩,hl,hp⟩:=h;simp only[Value.slice.injEq]at he;refine⟨he.2.1.trans hl,fun k p hk=>?_⟩;have ot:=(aaG.1 hk).1;have aG:rows[k]?=some rows[k]:=aad ah;rcases hr with rfl | ⟨a,hr⟩
 .simp at hl;omega
 obtain⟨e1,e⟩:=mZ a b hy he.1;subst e1 e;obtain⟨_,d⟩:=hr k _ aG;rw[iO]at d;exact⟨rows[k],a,hp k _ _ aG hk,d⟩
def UO {R:Hl} {b:List Int} (h:fE R u b):bD (some u) 2=b.length:=by
 obtain⟨x,y,c,rfl,_⟩:=h;simp [bD]
def OX.cells {R:Hl} {x y:Int} {c:Pc} (h:OX R RA x y k row c) (hy:0<=y):bD (R.cell x.toNat ((y+(k:Int)*126).toNat+125)) 2=c.b.length/\bO (R.cell x.toNat ((y+(k:Int)*126).toNat+92))=cI c.h.c 92:=by
 have e:(y+(k:Int)*126).toNat=y.toNat+k*126:=ah;have hl:=fV h.pc.ok;rw[iO]at hl;have a:row[125]?=some row[125]:=aad ah;have d:row[92]?=some row[92]:=aad ah;rw[e,h.cell 125 _ a,h.cell 92 _ d];refine⟨?_,?_⟩
 .have hb:=h.pc.body;rw[abv,a,afb]at hb;exact UO hb
 .have:=h.pc.hd.I (k:=92) az;rw[this];unfold cI;rw[acC,ab9 az,d]
structure PS where
 l:List Int
 bad:Bool
def gL (m:Int) (s:PS):PS:=⟨(oS s.l s.bad m).2.1,(oS s.l s.bad m).2.2⟩
def aI (m:Int) (s:PS):Int:=(oS s.l s.bad m).1
def tv (n:Int) (s:PS):PS:=⟨(nA s.l s.bad n).2.1,(nA s.l s.bad n).2.2⟩
def cq (n:Int) (s:PS):List Int:=(nA s.l s.bad n).1
def rA (s:PS):PS:=⟨(lr s.l s.bad).2.1,(lr s.l s.bad).2.2⟩
def jm (s:PS):Bool:=(lr s.l s.bad).1
def dv (n:Nat) (l:List Int):List Int:=(List.range n).map fun j=>l.getD j 0
def gT (n:Nat) (l:List Int):(dv n l).length=n:=by unfold dv;simp
def kn {n:Nat} {l:List Int} (h:l.length=n):dv n l=l:=by
 apply ack;intro j;unfold dv
 grind
section
variable {s:PS}
def rm {m:Int} (hb:al s.l) (h:(gL m s).bad=false):s.bad=false/\s.l=aF (aI m s).toNat++(gL m s).l/\0<=aI m s/\aI m s<=m/\aI m s<18446744073709551616:=by
 unfold gL aI oS at *;split at h
 .cases h
 .rename_i a;rw[aa8 a];have h1:s.bad=false:=by
   cases hs:s.bad
   .rfl
   .grind
  have b:(ck s.l).2≠0:=fun e=>a (Or.inr (Or.inl e));have c:¬m<((ck s.l).1:Int):=fun e=>a (Or.inr (Or.inr e));cases hn:tO s.l with
  | none=>unfold ck at b;grind
  | some r =>
   obtain⟨x,k⟩:=r;obtain⟨_,_,d,f⟩:=xo hb hn;have e:ck s.l=(x,k):=by unfold ck;rw[hn];rfl
   rw[e]at c ⊢;refine⟨h1,?_,by grind,by grind,by grind⟩;show s.l=aF ((x:Int)).toNat++s.l.drop k;rw[aac,<-d,afz]
def RB {n:Int} (h:(tv n s).bad=false):s.bad=false/\s.l=cq n s++(tv n s).l/\(cq n s).length=n.toNat:=by
 unfold tv cq nA at *;split at h
 .cases h
 .rename_i a;rw[aa8 a];simp_all
def aap (h:(rA s).bad=false) (hb:al s.l):s.bad=false/\s.l=fR (jm s)++(rA s).l:=by
 unfold rA jm lr at *;split at h
 .cases h
 .rename_i a;rw[aa8 a];have h1:s.bad=false:=by
   cases hs:s.bad
   .rfl
   .grind
  have c:s.l≠[]:=fun e=>a (Or.inr (Or.inl e));have b:¬1<s.l.getD 0 0:=fun e=>a (Or.inr (Or.inr e));refine⟨h1,?_⟩;cases hl:s.l with
  | nil=>grind
  | cons x t =>
   rw[hl]at b;have hx:=hb x (by grind);have b:¬1<x:=b;show x::t=fR (decide (x=1))++t;unfold fR
   grind
def VS {m:Int} {t:List Int} (h1:(z:Int)<=m) (a:z<18446744073709551616):gL m ⟨aF z++t,false⟩=⟨t,false⟩/\aI m ⟨aF z++t,false⟩=z:=by
 have e:ck (aF z++t)=(z,(aF z).length):=by unfold ck;rw[oW a];rfl
 have hp:=vZ z;have b:¬((false:Bool)=true\/(ck (aF z++t)).2=0\/m<((ck (aF z++t)).1:Int)):=by
  rw[e];rintro(x | x | x)
  .cases x
  .grind
  .grind
 unfold gL aI oS
 grind
def V2 {n:Int} {l t:List Int} (h:(l.length:Int)=n):tv n ⟨l++t,false⟩=⟨t,false⟩/\cq n ⟨l++t,false⟩=l:=by
 have a:¬((false:Bool)=true\/n<0\/((l++t).length:Int)<n):=by
  rw[aaA];rintro(x | x | x)
  .cases x
  .omega
  .omega
 have hn:n.toNat=l.length:=ah;unfold tv cq nA;rw[aa8 a,hn];refine⟨?_,?_⟩
 .show PS.mk ((l++t).drop l.length) false=_;rw[List.drop_left]
 .show(l++t).take l.length=_;rw[List.take_left]
def Xo {b:Bool} {t:List Int} : rA ⟨fR b++t,false⟩=⟨t,false⟩/\jm ⟨fR b++t,false⟩=b:=by
 cases b
 .trivial
 trivial
def bS {m:Int} (hb:al s.l):al (gL m s).l:=by
 unfold gL oS;split
 .exact hb
 .exact gj hb _
def qf {n:Int} (hb:al s.l):al (tv n s).l:=by
 unfold tv nA;split
 .exact hb
 .exact gj hb _
def Ef (hb:al s.l):al (rA s).l:=by
 unfold rA lr;split
 .exact hb
 .exact gj hb _
def ig {m:Int} (hm:0<=m):0<=aI m s/\aI m s<=m:=by
 unfold aI oS
 grind
def wV {n:Int} (hb:al s.l):al (cq n s):=by
 unfold cq nA;split
 .exact fun b h=>by cases h
 .exact fun b h=>hb b (ady h)
def BA {n:Nat} {l:List Int} (h:al l):al (dv n l):=by
 intro b hb;unfold dv at hb;obtain⟨j,_,rfl⟩:=acw.1 hb;rw[abv];cases a:l[j]? with
 | none=>grind
 | some z=>exact h z (aah a)
end
def fp:Nat->PS->List (List Int)×PS
 | 0,s=>([],s)
 | k+1,s=>((fp k s).1++[dv 16 (cq 16 (fp k s).2)],tv 16 (fp k s).2)
def V9:∀ (k:Nat) (s:PS),(fp k s).2.bad=false->s.bad=false/\s.l=(fp k s).1.flatten++(fp k s).2.l
 | 0,s,h=>⟨h,rfl⟩
 | k+1,s,h=>by
  obtain⟨h1,a,b⟩:=RB (s:=(fp k s).2) h;obtain⟨c,d⟩:=V9 k s h1;refine⟨c,?_⟩;show s.l=((fp k s).1++[dv 16 (cq 16 (fp k s).2)]).flatten++(tv 16 (fp k s).2).l;rw[kn (n:=16) b,afH,adz,afx,acD,abS,<-a];exact d
def SE:∀ (T:List (List Int)) (k:Nat),k<=T.length->(∀ t∈T,t.length=16)->∀ t,fp k ⟨T.flatten++t,false⟩=(T.take k,⟨(T.drop k).flatten++t,false⟩)
 | T,0,_,_,t=>rfl
 | T,k+1,hk,hT,t=>by
  have ih:=SE T k ah hT t;have hx:=aad (show k<T.length by omega);have hl:=hT _ (aah hx);have e:(T.drop k).flatten++t=T[k]++((T.drop (k+1)).flatten++t):=by
   rw[afC ah,adz,abS]
  obtain⟨r1,r2⟩:=V2 (n:=16) (l:=T[k]) (t:=(T.drop (k+1)).flatten++t) ah;show((fp k _).1++[dv 16 (cq 16 (fp k _).2)],tv 16 (fp k _).2)=_;rw[ih,e,r1,r2,kn hl,adB,hx];rfl
def wP:∀ (k:Nat) (s:PS),(fp k s).1.length=k
 | 0,_=>rfl
 | k+1,s=>by
  show((fp k s).1++[_]).length=_;rw[aaA,wP k s];rfl
def zP:∀ (k:Nat) (s:PS),al s.l->(∀ t∈(fp k s).1,t.length=16/\al t)/\al (fp k s).2.l
 | 0,s,h=>⟨fun t a=>(by cases a),h⟩
 | k+1,s,h=>by
  obtain⟨h1,b⟩:=zP k s h;refine⟨fun t a=>?_,qf b⟩;rcases acg.1 a with a | a
  .exact h1 t a
  .rw[aaQ]at a;subst a;exact⟨gT _ _,BA (wV b)⟩
def p0 (b:List Int):PS:=⟨b,false⟩
def p1 (b:List Int):PS:=gL 6 (p0 b)
def p2 (b:List Int):PS:=gL 1048576 (p1 b)
def p3 (b:List Int):PS:=tv 32 (p2 b)
def p4 (b:List Int):PS:=gL 255 (p3 b)
def p5 (b:List Int):PS:=rA (p4 b)
def p6 (b:List Int):PS:=gL 1099511627776 (p5 b)
def p7 (b:List Int):PS:=tv 16 (p6 b)
def p8 (b:List Int):PS:=gL 8 (p7 b)
def hN (b:List Int):Nat:=(aI 8 (p7 b)).toNat
def hT (b:List Int):List (List Int):=(fp (hN b) (p8 b)).1
def k0 (b:List Int):PS:=(fp (hN b) (p8 b)).2
def k1 (b:List Int):PS:=gL 1048576 (k0 b)
def k2 (b:List Int):PS:=gL 1048576 (k1 b)
def k3 (b:List Int):PS:=gL 1048576 (k2 b)
def k4 (b:List Int):PS:=gL 1048576 (k3 b)
def k5 (b:List Int):PS:=gL 1048576 (k4 b)
def k6 (b:List Int):PS:=gL 1048576 (k5 b)
def GZ (b:List Int):PS:=tv 32 (k6 b)
def Ft (b:List Int):PS:=gL 2064 (GZ b)
def JK (b:List Int):PS:=tv 32 (Ft b)
def fF (b:List Int) (u:Value):List Value :=
 [.int .i64 (aI 6 (p0 b)),.int .u64 (aI 1048576 (p1 b))]++aS (dv 32 (cq 32 (p2 b)))++[.int .i64 (aI 255 (p3 b)),.bool (jm (p4 b)),.int .u64 (aI 1099511627776 (p5 b))]++aS (dv 16 (cq 16 (p6 b)))++[u] ++
 [.int .u64 (aI 1048576 (k0 b)),.int .u64 (aI 1048576 (k1 b)),.int .u64 (aI 1048576 (k2 b)),.int .u64 (aI 1048576 (k3 b)),.int .u64 (aI 1048576 (k4 b)),.int .u64 (aI 1048576 (k5 b))]++aS (dv 32 (cq 32 (k6 b)))++[.int .i64 (aI 2064 (GZ b))]++aS (dv 32 (cq 32 (Ft b)))
def rT {A:List Value} {B:List Int} {a n:Nat} (c:A.length=a) (hn:B.length=n):aW (A++aS B++C) a n=B:=by
 subst c hn;apply ack;intro j;unfold aW;rw[abl];by_cases b:j<B.length
 .rw[acf b,acr,aad b];unfold cI aS;rw[acb (by grind),abO ah,show A.length+j-A.length=j by omega,abl,aad b];rfl
 grind
def fy (b:List Int):Hd:=⟨fF b (.bool false),hT b⟩
section
variable (b:List Int)
def c_0:cI (fy b).c 0=aI 6 (p0 b):=rfl
def c_1:cI (fy b).c 1=aI 1048576 (p1 b):=rfl
def c_2:aW (fy b).c 2 32=dv 32 (cq 32 (p2 b)):=by
 have e:(fy b).c=([Value.int .i64 (aI 6 (p0 b)),.int .u64 (aI 1048576 (p1 b))])++aS (dv 32 (cq 32 (p2 b)))++([Value.int .i64 (aI 255 (p3 b)),.bool (jm (p4 b)),.int .u64 (aI 1099511627776 (p5 b))]++(aS (dv 16 (cq 16 (p6 b)))++([Value.bool false]++([Value.int .u64 (aI 1048576 (k0 b)),.int .u64 (aI 1048576 (k1 b)),.int .u64 (aI 1048576 (k2 b)),.int .u64 (aI 1048576 (k3 b)),.int .u64 (aI 1048576 (k4 b)),.int .u64 (aI 1048576 (k5 b))]++(aS (dv 32 (cq 32 (k6 b)))++([Value.int .i64 (aI 2064 (GZ b))]++(aS (dv 32 (cq 32 (Ft b)))))))))):=by
  show fF b (.bool false)=_;unfold fF;simp only[abS,acD]
 rw[e];trivial
def ZP:cI (fy b).c 34=aI 255 (p3 b):=rfl
def ZQ:cB (fy b).c 35=jm (p4 b):=rfl
def ZR:cI (fy b).c 36=aI 1099511627776 (p5 b):=rfl
def ZS:aW (fy b).c 37 16=dv 16 (cq 16 (p6 b)):=by
 have e:(fy b).c=([Value.int .i64 (aI 6 (p0 b)),.int .u64 (aI 1048576 (p1 b))]++aS (dv 32 (cq 32 (p2 b)))++[Value.int .i64 (aI 255 (p3 b)),.bool (jm (p4 b)),.int .u64 (aI 1099511627776 (p5 b))])++aS (dv 16 (cq 16 (p6 b)))++([Value.bool false]++([Value.int .u64 (aI 1048576 (k0 b)),.int .u64 (aI 1048576 (k1 b)),.int .u64 (aI 1048576 (k2 b)),.int .u64 (aI 1048576 (k3 b)),.int .u64 (aI 1048576 (k4 b)),.int .u64 (aI 1048576 (k5 b))]++(aS (dv 32 (cq 32 (k6 b)))++([Value.int .i64 (aI 2064 (GZ b))]++(aS (dv 32 (cq 32 (Ft b)))))))):=by
  show fF b (.bool false)=_;unfold fF;simp only[abS,acD]
 rw[e];exact rT (by trivial) (gT _ _)
def ZT:cI (fy b).c 54=aI 1048576 (k0 b):=rfl
def ZU:cI (fy b).c 55=aI 1048576 (k1 b):=rfl
def ZV:cI (fy b).c 56=aI 1048576 (k2 b):=rfl
def ZW:cI (fy b).c 57=aI 1048576 (k3 b):=rfl
def ZX:cI (fy b).c 58=aI 1048576 (k4 b):=rfl
def ZY:cI (fy b).c 59=aI 1048576 (k5 b):=rfl
def ZZ:aW (fy b).c 60 32=dv 32 (cq 32 (k6 b)):=by
 have e:(fy b).c=([Value.int .i64 (aI 6 (p0 b)),.int .u64 (aI 1048576 (p1 b))]++aS (dv 32 (cq 32 (p2 b)))++[Value.int .i64 (aI 255 (p3 b)),.bool (jm (p4 b)),.int .u64 (aI 1099511627776 (p5 b))]++aS (dv 16 (cq 16 (p6 b)))++[Value.bool false]++[Value.int .u64 (aI 1048576 (k0 b)),.int .u64 (aI 1048576 (k1 b)),.int .u64 (aI 1048576 (k2 b)),.int .u64 (aI 1048576 (k3 b)),.int .u64 (aI 1048576 (k4 b)),.int .u64 (aI 1048576 (k5 b))])++aS (dv 32 (cq 32 (k6 b)))++([Value.int .i64 (aI 2064 (GZ b))]++(aS (dv 32 (cq 32 (Ft b))))):=by
  show fF b (.bool false)=_;unfold fF;simp only[abS,acD]
 rw[e];exact rT (by trivial) (gT _ _)
def Z0:cI (fy b).c 92=aI 2064 (GZ b):=rfl
def Z1:aW (fy b).c 93 32=dv 32 (cq 32 (Ft b)):=by
 have e:(fy b).c=([Value.int .i64 (aI 6 (p0 b)),.int .u64 (aI 1048576 (p1 b))]++aS (dv 32 (cq 32 (p2 b)))++[Value.int .i64 (aI 255 (p3 b)),.bool (jm (p4 b)),.int .u64 (aI 1099511627776 (p5 b))]++aS (dv 16 (cq 16 (p6 b)))++[Value.bool false]++[Value.int .u64 (aI 1048576 (k0 b)),.int .u64 (aI 1048576 (k1 b)),.int .u64 (aI 1048576 (k2 b)),.int .u64 (aI 1048576 (k3 b)),.int .u64 (aI 1048576 (k4 b)),.int .u64 (aI 1048576 (k5 b))]++aS (dv 32 (cq 32 (k6 b)))++[Value.int .i64 (aI 2064 (GZ b))])++aS (dv 32 (cq 32 (Ft b)))++([]):=by
  show fF b (.bool false)=_;unfold fF;simp only[abS,acD]
 rw[e];exact rT (by trivial) (gT _ _)
end
def gz {z:Int} (h0:0<=z) (h1:z<18446744073709551616):iJ z=z.toNat:=by unfold iJ;rw[m9 h0 h1]
def ad1 {b:List Int} (hb:al b) (h:(JK b).bad=false) (hl:(JK b).l=[]):fH (fy b)=b:=by
 have b0:al (p0 b).l:=hb;have b1:al (p1 b).l:=bS b0;have b2:al (p2 b).l:=bS b1;have o:al (p3 b).l:=qf b2;have p:al (p4 b).l:=bS o;have q:al (p5 b).l:=Ef p;have b6:al (p6 b).l:=bS q;have b7:al (p7 b).l:=qf b6;have z:al (p8 b).l:=bS b7;have d0:al (k0 b).l:=(zP _ _ z).2;have d1:al (k1 b).l:=bS d0;have d2:al (k2 b).l:=bS d1;have d3:al (k3 b).l:=bS d2;have d4:al (k4 b).l:=bS d3;have d5:al (k5 b).l:=bS d4;have d6:al (k6 b).l:=bS d5;have e:al (GZ b).l:=qf d6;obtain⟨f,a,g⟩:=RB (s:=Ft b) (n:=32) h;obtain⟨i,c,j,A,_⟩:=rm (s:=GZ b) (m:=2064) e f;obtain⟨B,d,k⟩:=RB (s:=k6 b) (n:=32) i;obtain⟨C,f6,_⟩:=rm (s:=k5 b) (m:=1048576) d5 B;obtain⟨g4,f5,_⟩:=rm (s:=k4 b) (m:=1048576) d4 C;obtain⟨g3,f4,_⟩:=rm (s:=k3 b) (m:=1048576) d3 g4;obtain⟨D,f3,_⟩:=rm (s:=k2 b) (m:=1048576) d2 g3;obtain⟨E,f2,_⟩:=rm (s:=k1 b) (m:=1048576) d1 D;obtain⟨g0,f1,_⟩:=rm (s:=k0 b) (m:=1048576) d0 E;obtain⟨F,f0⟩:=V9 (hN b) (p8 b) g0;obtain⟨G,r,N,O,_⟩:=rm (s:=p7 b) (m:=8) b7 F;obtain⟨H,t,n7⟩:=RB (s:=p6 b) (n:=16) G;obtain⟨I,u,_⟩:=rm (s:=p5 b) (m:=1099511627776) q H;obtain⟨J,v⟩:=aap (s:=p4 b) I p;obtain⟨K,w,L,P,_⟩:=rm (s:=p3 b) (m:=255) o J;obtain⟨M,x,n3⟩:=RB (s:=p2 b) (n:=32) K;obtain⟨h1,y,_⟩:=rm (s:=p1 b) (m:=1048576) b1 M;obtain⟨_,e1,x1,Q,_⟩:=rm (s:=p0 b) (m:=6) b0 h1;have a:(Ft b).l=cq 32 (Ft b):=by rw[a];show _++(JK b).l=_;grind
 have e1:b=_++(p1 b).l:=e1;have y:(p1 b).l=_++(p2 b).l:=y;have x:(p2 b).l=_++(p3 b).l:=x;have w:(p3 b).l=_++(p4 b).l:=w;have v:(p4 b).l=_++(p5 b).l:=v;have u:(p5 b).l=_++(p6 b).l:=u;have t:(p6 b).l=_++(p7 b).l:=t;have r:(p7 b).l=aF (hN b)++(p8 b).l:=r;have f0:(p8 b).l=(hT b).flatten++(k0 b).l:=f0;have f1:(k0 b).l=_++(k1 b).l:=f1;have f2:(k1 b).l=_++(k2 b).l:=f2;have f3:(k2 b).l=_++(k3 b).l:=f3;have f4:(k3 b).l=_++(k4 b).l:=f4;have f5:(k4 b).l=_++(k5 b).l:=f5;have f6:(k5 b).l=_++(k6 b).l:=f6;have d:(k6 b).l=_++(GZ b).l:=d;have c:(GZ b).l=_++(Ft b).l:=c;have hlen:(hT b).length=hN b:=wP _ _;have key:fH (fy b)=aF (aI 6 (p0 b)).toNat++(aF (aI 1048576 (p1 b)).toNat++(cq 32 (p2 b)++(aF (aI 255 (p3 b)).toNat++(fR (jm (p4 b))++(aF (aI 1099511627776 (p5 b)).toNat++(cq 16 (p6 b)++(aF (hN b)++((hT b).flatten++(aF (aI 1048576 (k0 b)).toNat++(aF (aI 1048576 (k1 b)).toNat++(aF (aI 1048576 (k2 b)).toNat++(aF (aI 1048576 (k3 b)).toNat++(aF (aI 1048576 (k4 b)).toNat++(aF (aI 1048576 (k5 b)).toNat++(cq 32 (k6 b)++(aF (aI 2064 (GZ b)).toNat++cq 32 (Ft b))))))))))))))))):=by
  unfold fH nz qv fZ;show _++aF (hT b).length++(hT b).flatten++_++_++_++_++_++_++_++_++_=_;rw[hlen,c_0,c_1,c_2,ZP,ZQ,ZR,ZS,ZT,ZU,ZV,ZW,ZX,ZY,ZZ,Z0,Z1,gz x1 ah,gz L ah,gz j ah,kn (n:=32) n3,kn (n:=16) n7,kn (n:=32) k,kn (n:=32) g];simp only[abS]
 grind
section
variable {s:PS} {t:List Int}
def jh {m:Int} (hs:s=⟨aF z++t,false⟩) (h1:(z:Int)<=m) (a:z<18446744073709551616):gL m s=⟨t,false⟩/\aI m s=z:=by
 subst hs;exact VS h1 a
def LX {n:Int} {l:List Int} (hs:s=⟨l++t,false⟩) (h:(l.length:Int)=n):tv n s=⟨t,false⟩/\cq n s=l:=by
 subst hs;exact V2 h
def PX {b:Bool} (hs:s=⟨fR b++t,false⟩):rA s=⟨t,false⟩/\jm s=b:=by
 subst hs;exact Xo
def Y1 {T:List (List Int)} (hs:s=⟨T.flatten++t,false⟩) (hT:∀ x∈T,x.length=16):fp T.length s=(T,⟨t,false⟩):=by
 subst hs;rw[SE T T.length (ab8 _) hT,acS,List.drop_length,afx,adk]
end
def MB {a b:List Value} {i n:Nat} (h:aW a i n=aW b i n):tB (cI a) i n↔tB (cI b) i n:=by
 refine xS fun j c=>?_;have:=ach (fun l=>l[j]?) h;unfold aW at this;simpa [abl,acf c] using this
def VM {R:Hl} (hx:br R row h) (X:h.Form):((JK (fH h)).bad=false/\(JK (fH h)).l=[])/\(cI (fy (fH h)).c 0=cI h.c 0/\cI (fy (fH h)).c 1=cI h.c 1/\cI (fy (fH h)).c 34=cI h.c 34/\cB (fy (fH h)).c 35=cB h.c 35/\cI (fy (fH h)).c 36=cI h.c 36/\cI (fy (fH h)).c 54=cI h.c 54/\cI (fy (fH h)).c 55=cI h.c 55/\cI (fy (fH h)).c 56=cI h.c 56/\cI (fy (fH h)).c 57=cI h.c 57/\cI (fy (fH h)).c 58=cI h.c 58/\cI (fy (fH h)).c 59=cI h.c 59/\cI (fy (fH h)).c 92=cI h.c 92)/\(aW (fy (fH h)).c 2 32=aW h.c 2 32/\aW (fy (fH h)).c 37 16=aW h.c 37 16/\aW (fy (fH h)).c 60 32=aW h.c 60 32/\aW (fy (fH h)).c 93 32=aW h.c 93 32)/\(fy (fH h)).t=h.t:=by
 obtain⟨⟨hw,hs,he,W,hk,Y,hp⟩,h8,Z,r,aa⟩:=id X;have u:∀ {k:Nat},dz[k]?=some (.int .u64)->k≠53->0<=cI h.c k:=fun {k} hk s=>by
  rw[hx.I s];exact(hx.rng _ (aah (wC hx.ok hk))).1
 have u1:0<=cI h.c 1:=u rfl az;have ab:0<=cI h.c 36:=u rfl az;have ad:0<=cI h.c 54:=u rfl az;have ae:0<=cI h.c 55:=u rfl az;have af:0<=cI h.c 56:=u rfl az;have ag:0<=cI h.c 57:=u rfl az;have ai:0<=cI h.c 58:=u rfl az;have aj:0<=cI h.c 59:=u rfl az;have hsz:80<=cI h.c 92/\cI h.c 92<=2064:=vS r;have q:∀ t∈h.t,t.length=16:=fun t W=>(hx.byte.2 t W).1;generalize hb:fH h=b;have key:b=aF (cI h.c 0).toNat++(aF (cI h.c 1).toNat++(aW h.c 2 32++(aF (cI h.c 34).toNat++(fR (cB h.c 35)++(aF (cI h.c 36).toNat++(aW h.c 37 16++(aF h.t.length++(h.t.flatten++(aF (cI h.c 54).toNat++(aF (cI h.c 55).toNat++(aF (cI h.c 56).toNat++(aF (cI h.c 57).toNat++(aF (cI h.c 58).toNat++(aF (cI h.c 59).toNat++(aW h.c 60 32++(aF (cI h.c 92).toNat++(aW h.c 93 32++([])))))))))))))))))):=by
  rw[<-hb];unfold fH nz qv fZ;rw[gz (z:=cI h.c 0) ah ah,gz (z:=cI h.c 34) ah ah,gz (z:=cI h.c 92) ah ah];simp only[abS,acD]
 have s0:p0 b=⟨_,false⟩:=ach (fun l=>PS.mk l false) key;obtain⟨s1,v1⟩:=jh (m:=6) (z:=(cI h.c 0).toNat) s0 ah ah;have s1:p1 b=⟨_,false⟩:=s1;obtain⟨s2,v2⟩:=jh (m:=1048576) (z:=(cI h.c 1).toNat) s1 ah ah;have s2:p2 b=⟨_,false⟩:=s2;obtain⟨v,v3⟩:=LX (n:=32) (l:=aW h.c 2 32) s2 (by rw[bG];rfl);have v:p3 b=⟨_,false⟩:=v;obtain⟨w,v4⟩:=jh (m:=255) (z:=(cI h.c 34).toNat) v ah ah;have w:p4 b=⟨_,false⟩:=w;obtain⟨x,v5⟩:=PX w;have x:p5 b=⟨_,false⟩:=x;obtain⟨y,v6⟩:=jh (m:=1099511627776) (z:=(cI h.c 36).toNat) x ah ah;have y:p6 b=⟨_,false⟩:=y;obtain⟨A,v7⟩:=LX (n:=16) (l:=aW h.c 37 16) y (by rw[bG];rfl);have A:p7 b=⟨_,false⟩:=A;obtain⟨s8,v8⟩:=jh (m:=8) (z:=h.t.length) A ah ah;have s8:p8 b=⟨_,false⟩:=s8;have vN:hN b=h.t.length:=by unfold hN;rw[v8];exact aac _
 have B:=Y1 s8 q;rw[<-vN]at B;have C:(fp (hN b) (p8 b)).2=⟨_,false⟩:=ach Prod.snd B;have vT:hT b=h.t:=ach Prod.fst B;have C:k0 b=⟨_,false⟩:=C;obtain⟨d,v10⟩:=jh (m:=1048576) (z:=(cI h.c 54).toNat) C ah ah;have d:k1 b=⟨_,false⟩:=d;obtain⟨e,v11⟩:=jh (m:=1048576) (z:=(cI h.c 55).toNat) d ah ah;have e:k2 b=⟨_,false⟩:=e;obtain⟨f,D⟩:=jh (m:=1048576) (z:=(cI h.c 56).toNat) e ah ah;have f:k3 b=⟨_,false⟩:=f;obtain⟨g,E⟩:=jh (m:=1048576) (z:=(cI h.c 57).toNat) f ah ah;have g:k4 b=⟨_,false⟩:=g;obtain⟨i,F⟩:=jh (m:=1048576) (z:=(cI h.c 58).toNat) g ah ah;have i:k5 b=⟨_,false⟩:=i;obtain⟨j,G⟩:=jh (m:=1048576) (z:=(cI h.c 59).toNat) i ah ah;have j:k6 b=⟨_,false⟩:=j;obtain⟨o,H⟩:=LX (n:=32) (l:=aW h.c 60 32) j (by rw[bG];rfl);have o:GZ b=⟨_,false⟩:=o;obtain⟨p,J⟩:=jh (m:=2064) (z:=(cI h.c 92).toNat) o ah ah;have p:Ft b=⟨_,false⟩:=p;obtain⟨a,K⟩:=LX (n:=32) (l:=aW h.c 93 32) p (by rw[bG];rfl);have a:JK b=⟨_,false⟩:=a;have q0:cI (fy b).c 0=cI h.c 0:=(c_0 b).trans (v1.trans ah);have q1:cI (fy b).c 1=cI h.c 1:=(c_1 b).trans (v2.trans ah);have L:cI (fy b).c 34=cI h.c 34:=(ZP b).trans (v4.trans ah);have M:cI (fy b).c 36=cI h.c 36:=(ZR b).trans (v6.trans ah);have N:cI (fy b).c 54=cI h.c 54:=(ZT b).trans (v10.trans ah);have O:cI (fy b).c 55=cI h.c 55:=(ZU b).trans (v11.trans ah);have P:cI (fy b).c 56=cI h.c 56:=(ZV b).trans (D.trans ah);have Q:cI (fy b).c 57=cI h.c 57:=(ZW b).trans (E.trans ah);have S:cI (fy b).c 58=cI h.c 58:=(ZX b).trans (F.trans ah);have T:cI (fy b).c 59=cI h.c 59:=(ZY b).trans (G.trans ah);have U:cI (fy b).c 92=cI h.c 92:=(Z0 b).trans (J.trans ah);have V:cB (fy b).c 35=cB h.c 35:=(ZQ b).trans v5;have g1:aW (fy b).c 2 32=aW h.c 2 32:=(c_2 b).trans (by rw[show cq 32 (p2 b)=_ from v3];exact kn (bG _ _ _));have g2:aW (fy b).c 37 16=aW h.c 37 16:=(ZS b).trans (by rw[show cq 16 (p6 b)=_ from v7];exact kn (bG _ _ _));have g3:aW (fy b).c 60 32=aW h.c 60 32:=(ZZ b).trans (by rw[show cq 32 (k6 b)=_ from H];exact kn (bG _ _ _));have g4:aW (fy b).c 93 32=aW h.c 93 32:=(Z1 b).trans (by rw[show cq 32 (Ft b)=_ from K];exact kn (bG _ _ _));exact⟨⟨ach PS.bad a,ach PS.l a⟩,⟨q0,q1,L,V,M,N,O,P,Q,S,T,U⟩,⟨g1,g2,g3,g4⟩,vT⟩
def ad2 {R:Hl} (hx:br R row h) (u:h.Form):(JK (fH h)).bad=false/\(JK (fH h)).l=[]/\(fy (fH h)).Form:=by
 obtain⟨⟨e1,v⟩,⟨w,q1,j,k,m,a,b,d,f,g,i,n⟩,⟨x,y,_,_⟩,z⟩:=VM hx u;obtain⟨⟨hw,hs,he,A,hk,o,hp⟩,B,p,q,r⟩:=id u;refine⟨e1,v,?_⟩;have s:tB (cI (fy (fH h)).c) 2 32↔tB (cI h.c) 2 32:=MB x;have t:tB (cI (fy (fH h)).c) 37 16↔tB (cI h.c) 37 16:=MB y;have C:cI (fy (fH h)).c (54+(cI h.c 0-1).toNat)=cI h.c (54+(cI h.c 0-1).toNat):=by
  have:(cI h.c 0-1).toNat=0\/(cI h.c 0-1).toNat=1\/(cI h.c 0-1).toNat=2\/(cI h.c 0-1).toNat=3\/(cI h.c 0-1).toNat=4\/(cI h.c 0-1).toNat=5:=ah;rcases this with e | e | e | e | e | e<;>rw[e]
  .exact a
  .exact b
  .exact d
  .exact f
  .exact g
  .exact i
 unfold Hd.Form di;rw[z,k,w,q1,j,m,C,a,b,d,f,g,i,n,s,t];exact⟨⟨hw,hs,he,A,hk,o,hp⟩,B,p,q,r⟩
def MX (a n:Nat) (N:E) (h:Nat) (X Y:E) (old:Nat->E):List CV:=(List.range n).map fun j=>.int .u8 (.ite (.lt (.lit ((a+j:Nat):Int)) (.add (.lit (a:Int)) N)) (.hI h X Y j) (old j))
def W8 (n:Nat) (N:E) (h:Nat) (X Y:E) (old:Nat->E):List CV:=(List.range n).map fun j=>.int .u8 (.ite (.lt (.lit ((j:Nat):Int)) N) (.hI h X Y j) (old j))
def LL:List CV:=([.int .i64 (.wrap .i64 (.var 9)),.int .u64 (.var 11)]++(MX 2 32 (.ite (.lt (.var 15) (.lit 32)) (.var 15) (.lit 32)) 14 (.var 13) (.var 14) (fun _=>.lit 0))++[.int .i64 (.wrap .i64 (.var 17)),.bool (.bvar 19),.int .u64 (.var 21)]++(MX 37 16 (.ite (.lt (.var 25) (.lit 16)) (.var 25) (.lit 16)) 24 (.var 23) (.var 24) (fun _=>.lit 0))++[.sl (.lit (-1)) (.lit 0) (.lit 0) (.lit 0),.int .u64 (.lit 0),.int .u64 (.lit 0),.int .u64 (.lit 0),.int .u64 (.lit 0),.int .u64 (.lit 0),.int .u64 (.lit 0)]++List.replicate 32 (CV.int .u8 (.lit 0))++[.int .i64 (.lit 0)]++List.replicate 32 (CV.int .u8 (.lit 0)))
def LN:List CV:=(aj 300 ([Ck.int .i64,Ck.int .u64]++List.replicate 32 (Ck.int .u8)++[Ck.int .i64,Ck.bool,Ck.int .u64]++List.replicate 16 (Ck.int .u8))++[.sl (.var 446) (.lit 0) (.add (.var 355) (.lit 1)) (.var 447)]++aj 357 (List.replicate 6 (Ck.int .u64)++List.replicate 32 (Ck.int .u8)++[Ck.int .i64]++List.replicate 32 (Ck.int .u8)))
def EF:List CV:=(aj 300 ([Ck.int .i64,Ck.int .u64]++List.replicate 32 (Ck.int .u8)++[Ck.int .i64,Ck.bool,Ck.int .u64]++List.replicate 16 (Ck.int .u8)++[Ck.sl])++[.int .u64 (.var 440),.int .u64 (.var 442),.int .u64 (.var 444),.int .u64 (.var 446),.int .u64 (.var 448),.int .u64 (.var 450)]++(MX 60 32 (.ite (.lt (.var 454) (.lit 32)) (.var 454) (.lit 32)) 453 (.var 452) (.var 453) (fun j=>.var (363+j)))++[.int .i64 (.wrap .i64 (.var 456))]++(MX 93 32 (.ite (.lt (.var 460) (.lit 32)) (.var 460) (.lit 32)) 459 (.var 458) (.var 459) (fun j=>.var (396+j))))
def Rc:List CV:=([.int .i64 (.lit 0),.int .u64 (.lit 0)]++List.replicate 32 (CV.int .u8 (.lit 0))++[.int .i64 (.lit 0),.bool .ff,.int .u64 (.lit 0)]++List.replicate 16 (CV.int .u8 (.lit 0))++[.sl (.lit (-1)) (.lit 0) (.lit 0) (.lit 0),.int .u64 (.lit 0),.int .u64 (.lit 0),.int .u64 (.lit 0),.int .u64 (.lit 0),.int .u64 (.lit 0),.int .u64 (.lit 0)]++List.replicate 32 (CV.int .u8 (.lit 0))++[.int .i64 (.lit 0)]++List.replicate 32 (CV.int .u8 (.lit 0)))
def rB:List As:=([⟨430,0,.int .i64 (.lit 0)⟩]:List As)++(VO 29 (aj 300 bJ) LL)
def rC:List As:=([⟨430,0,.int .i64 (.wrap .u64 (.add (.var 430) (.lit 1)))⟩]:List As)++(VO 29 (aj 300 bJ) LN)
def PO:Nd:=(fun a d p b1 m h o u a4 a5 A b0=>(fun b c k g i j l n q s z a0 a2 B=>(fun f r t v w x y a1 a3 C D b2=>(.ext (.alloc 5) (.ext (.alloc 6) (.and (.pre o) (.ext o (.and (.pre s) (.ext s (.and (.pre b2) (.ext b2 (.and (.pre D) (.ext D (.and (.e (.and (.or (.and (.eq (.var 13) A) (.eq b0 h)) (.and (.le h (.var 13)) (.and (.le h (.var 14)) (.hby 14 (.var 13) (.var 14) (.ite (.lt b0 m) b0 m))))) (.and (.le h b0) (.le (.add (.lit 2) (.ite (.lt b0 m) b0 m)) (.lit 125))))) (.and (.pre q) (.ext q (.and (.pre z) (.ext z (.and (.pre l) (.ext l (.and (.pre x) (.ext x (.and (.e (.and (.or (.and (.eq (.var 23) A) (.eq (.var 25) h)) (.and (.le h (.var 23)) (.and (.le h (.var 24)) (.hby 24 (.var 23) (.var 24) a0)))) (.and (.le h (.var 25)) (.le (.add (.lit 37) a0) (.lit 125))))) (.and (.pre n) (.ext n (.and (.inv 0 rB [(431,some 27),(432,none)]) (.havoc 0 0 29 (.and (.imp (.lt (.var 430) (.var 27)) (.ext (.alloc 440) (.and (.pre (.call 3 441 i a2 [])) (.ext (.call 3 441 i a2 []) (.and (.e (.and (.or (.and (.eq (.var 441) A) (.eq (.var 443) h)) (.and (.le h (.var 441)) (.and (.le h (.var 442)) (.hby 442 (.var 441) (.var 442) k)))) (.and (.le h (.var 443)) (.le k b1)))) (.ext (.alloc 445) (.and (.pre f) (.ext f (.back 0 0 rC [(431,some 441),(432,some 446)]))))))))) (.imp (.not (.lt (.var 430) (.var 27))) (.and (.pre (.call 1 440 b a2 [])) (.ext (.call 1 440 b a2 []) (.and (.pre C) (.ext C (.and (.pre a3) (.ext a3 (.and (.pre a1) (.ext a1 (.and (.pre y) (.ext y (.and (.pre v) (.ext v (.and (.pre t) (.ext t (.and (.e (.and (.or (.and (.eq (.var 452) A) (.eq a4 h)) (.and (.le h (.var 452)) (.and (.le h (.var 453)) (.hby 453 (.var 452) (.var 453) (.ite (.lt a4 m) a4 m))))) (.and (.le h a4) (.le (.add (.lit 60) (.ite (.lt a4 m) a4 m)) (.lit 125))))) (.and (.pre j) (.ext j (.and (.pre r) (.ext r (.and (.e (.and (.or (.and (.eq (.var 458) A) (.eq a5 h)) (.and (.le h (.var 458)) (.and (.le h (.var 459)) (.hby 459 (.var 458) (.var 459) (.ite (.lt a5 m) a5 m))))) (.and (.le h a5) (.le (.add (.lit 93) (.ite (.lt a5 m) a5 m)) (.lit 125))))) (.and (.pre B) (.ext B (.and (.imp (.bvar 462) (.and (.pre u) (.ext u (.and (.imp (.not (.bvar 463)) w) (.imp (.bvar 463) (.post c (.tup [.agg EF,.one (.int .i64 h)]))))))) (.imp (.not (.bvar 462)) w))))))))))))))))))))))))))))))))))))))))))))))))):Nd)) (.app 446 34 16 16 (.sl (.var 353) (.var 354) (.var 355) (.var 356)) (.var 355) (.hp 432 [] [.var 353] []) (.cvs (W8 16 k 442 (.var 441) (.var 442) (fun _=>.lit 0)) 1)) (.call 3 458 g [.hp 456 [452,450,448,446,444,442,440,431] d []] []) (.call 3 452 g [.hp 450 [448,446,444,442,440,431] d []] []) (.call 1 450 b [.hp 448 [446,444,442,440,431] d []] []) (.post c (.tup [.agg Rc,.one (.int .i64 (.lit 2))])) (.call 3 23 i [.hp 21 [19,17,13,11,9,7] d []] []) (.call 1 448 b [.hp 446 [444,442,440,431] d []] []) (.call 1 446 b [.hp 444 [442,440,431] d []] []) (.call 1 444 b [.hp 442 [440,431] d []] []) (.call 1 442 b [.hp 440 [431] d []] []) (.call 3 13 g [.hp 11 [9,7] d []] []) (.call 1 11 b [.hp 9 [7] d []] [])) [.sv a,.sv (.one (.int .u64 (.lit 1048576)))] [.ro 4 [.var 0] false,.dead,.dead,.hp 458 p d [],.hp 14 [] [.var 13] [],.hp 24 [] [.var 23] [],.hp 432 [] [.var 353] [],.hp 453 [] [.var 452] [],.hp 459 [] [.var 458] []] (.ite (.lt (.var 443) b1) (.var 443) b1) [.sv a,.sv (.one (.int .i64 m))] [.sv a,.sv (.one (.int .i64 b1))] (.call 1 456 [.sv a,.sv (.one (.int .u64 (.lit 2064)))] [.hp 452 [450,448,446,444,442,440,431] d []] []) (.call 1 21 [.sv a,.sv (.one (.int .u64 (.lit 1099511627776)))] [.hp 19 [17,13,11,9,7] d []] []) (.call 1 27 [.sv a,.sv (.one (.int .u64 (.lit 8)))] [.hp 23 [21,19,17,13,11,9,7] d []] []) (.call 1 17 [.sv a,.sv (.one (.int .u64 (.lit 255)))] [.hp 13 [11,9,7] d []] []) (.call 1 9 [.sv a,.sv (.one (.int .u64 (.lit 6)))] [.hp 7 [] d []] []) (.call 2 19 [.sv a] [.hp 17 [13,11,9,7] d []] []) (.ite (.lt (.var 25) b1) (.var 25) b1) [.hp 431 [] d []] (.call 4 462 [.sv a] [] [.hp 458 p d []])) (.one (.hptr (.var 7) (.var 8))) [.var 7] [456,452,450,448,446,444,442,440,431] (.lit 16) (.lit 32) (.lit 0) (.call 0 7 [.sv (.one (.sl (.var 0) (.var 1) (.var 2) (.var 3)))] [] [.ro 4 [.var 0] false]) (.call 5 463 [.sv (.agg EF)] [] [.hp 432 [] [.var 353] []]) (.var 454) (.var 460) (.lit (-1)) (.var 15)
noncomputable def epΓ:List Sx.Spec:=[qg,fe,vA,Hn,tQ,fS 91]
def Xi:∀ t∈epΓ,t.OK Tryz.prog:=ak pe <| ak zE <| ak Az <| ak LY <| ak wh <| ak mj <| bu
noncomputable def aaf:aD Tryz.prog epΓ 85 where
 Λ:=fun p=>if decide (p.length=14)&&!(p.head?==some 99)then some ⟨0,[(35,TI .u64 (.var 430))],[(2,.bc 6 (aj 300 bJ) 38),(3,.hp 431 [] [.var 7] []),(6,.hp 432 [] [.var 353] [])],440⟩else none
 args:=[.sv (.one (.sl (.var 0) (.var 1) (.var 2) (.var 3)))]
 mem:=[.ro 4 [.var 0] false]
 nv:=5
def dj:∀ {a b:List Value} {c kb:List Kd},aR a c->aR b kb->aR (a++b) (c++kb)
 | [],_,[],_,_,h=>h
 | _::_,_,_::_,_,h,h'=>⟨h.1,dj h.2 h'⟩
 | [],_,_::_,_,h,_=>False.elim h
 | _::_,_,[],_,h,_=>False.elim h
def pg:∀ {l:List Int} {n:Nat},l.length=n->aR (aS l) (List.replicate n (.int .u8))
 | [],0,_=>trivial
 | _::l,n+1,h=>⟨rfl,pg (l:=l) (by simpa using h)⟩
 | [],_+1,h=>by simp at h
 | _::_,0,h=>by simp at h
def Xw:dz=[.int .i64,.int .u64]++List.replicate 32 (.int .u8)++[.int .i64,.bool,.int .u64]++List.replicate 16 (.int .u8)++[.slice]++[.int .u64,.int .u64,.int .u64,.int .u64,.int .u64,.int .u64]++List.replicate 32 (.int .u8)++[.int .i64]++List.replicate 32 (.int .u8):=by kernel_rfl
def Gn (b:List Int) (hu:bh (some u) .slice=true):aR (fF b u) dz:=by
 rw[Xw];unfold fF;refine dj (dj (dj (dj (dj (dj (dj (dj ⟨rfl,rfl,zzT⟩ (pg (gT _ _))) ⟨rfl,rfl,rfl,zzT⟩) (pg (gT _ _))) ⟨hu,zzT⟩) ⟨rfl,rfl,rfl,rfl,rfl,rfl,zzT⟩) (pg (gT _ _))) ⟨rfl,zzT⟩) (pg (gT _ _))
def zL {l:List Int} (h:al l):∀ v∈aS l,uJ v:=by
 intro v hv;obtain⟨z,hz,rfl⟩:=acw.1 hv;exact h z hz
def Nc {b:List Int} (hb:al b) (hu:uJ u):∀ v∈fF b u,uJ v:=by
 have b0:al (p0 b).l:=hb;have b1:al (p1 b).l:=bS b0;have b2:al (p2 b).l:=bS b1;have c:al (p3 b).l:=qf b2;have d:al (p4 b).l:=bS c;have e:al (p5 b).l:=Ef d;have b6:al (p6 b).l:=bS e;have b7:al (p7 b).l:=qf b6;have f:al (p8 b).l:=bS b7;have d0:al (k0 b).l:=(zP _ _ f).2;have d6:al (k6 b).l:=bS (bS (bS (bS (bS (bS d0)))));have a:al (Ft b).l:=bS (qf d6);have U:∀ {m:Int} {s:PS},0<=m->m<=1099511627776->uJ (.int .u64 (aI m s)):=fun {m s} h0 h1=>by
  have:=ig (s:=s) h0;exact⟨this.1,ah⟩
 have I:∀ {m:Int} {s:PS},0<=m->m<=1099511627776->uJ (.int .i64 (aI m s)):=fun {m s} h0 h1=>by
  have:=ig (s:=s) h0;exact⟨ah,ah⟩
 have g:=zL (BA (n:=32) (wV (n:=32) b2));have h:=zL (BA (n:=16) (wV (n:=16) b6));have i:=zL (BA (n:=32) (wV (n:=32) d6));have j:=zL (BA (n:=32) (wV (n:=32) a));intro v hv;unfold fF at hv;simp only[acg,aaW,abd,acs]at hv;rcases hv with (((((((hv | hv) | hv) | hv) | hv) | hv) | hv) | hv) | hv
 .rcases hv with rfl | rfl
  .exact I ah ah
  .exact U ah ah
 .exact g v hv
 .rcases hv with rfl | rfl | rfl
  .exact I ah ah
  .trivial
  .exact U ah ah
 .exact h v hv
 .subst hv;exact hu
 .rcases hv with rfl | rfl | rfl | rfl | rfl | rfl<;>exact U ah ah
 .exact i v hv
 .subst hv;exact I ah ah
 .exact j v hv
def AI (b:List Int):∃ L B:List Value,L.length=53/\∀ u,fF b u=L++u::B:=by
 refine⟨[Value.int .i64 (aI 6 (p0 b)),.int .u64 (aI 1048576 (p1 b))]++aS (dv 32 (cq 32 (p2 b)))++[Value.int .i64 (aI 255 (p3 b)),.bool (jm (p4 b)),.int .u64 (aI 1099511627776 (p5 b))]++aS (dv 16 (cq 16 (p6 b))),[Value.int .u64 (aI 1048576 (k0 b)),.int .u64 (aI 1048576 (k1 b)),.int .u64 (aI 1048576 (k2 b)),.int .u64 (aI 1048576 (k3 b)),.int .u64 (aI 1048576 (k4 b)),.int .u64 (aI 1048576 (k5 b))]++aS (dv 32 (cq 32 (k6 b)))++[.int .i64 (aI 2064 (GZ b))]++aS (dv 32 (cq 32 (Ft b))),by simp [aS,gT],fun u=>?_⟩;unfold fF;simp only[abS,afg,adk]
def aaC {b:List Int} (hb:al b) {R:Hl} (hu:bh (some u) .slice=true) (hr:uJ u) (a:bd R u qm ((hT b).map aS)):br R (fF b u) (fy b):=by
 obtain⟨L,B,hl,e⟩:=AI b;have b7:al (p8 b).l:=bS (qf (bS (Ef (bS (qf (bS (bS (s:=p0 b) hb)))))));refine⟨Gn b hu,Nc hb hr,?_,?_,?_,(zP _ _ b7).1⟩
 .show fF b (.bool false)=_;rw[e,e,afV _ _ ah,hl];rfl
 .have:(fF b u).getD 53 (.bool false)=u:=by
   rw[e,abv,abO ah,hl];rfl
  rw[this];exact a
 .show(fp (hN b) (p8 b)).1.length<=_;rw[wP];have:=ig (s:=p7 b) (m:=8) ah;unfold hN;omega
def tC:List Value:=[.int .i64 0,.int .u64 0]++List.replicate 32 (.int .u8 0)++[.int .i64 0,.bool false,.int .u64 0]++List.replicate 16 (.int .u8 0)++[.slice none 0 0,.int .u64 0,.int .u64 0,.int .u64 0,.int .u64 0,.int .u64 0,.int .u64 0]++List.replicate 32 (.int .u8 0)++[.int .i64 0]++List.replicate 32 (.int .u8 0)
def BD (b:List Int) (v:Value) (F:Hl):Prop :=
 (∃ row h,v=.tuple #[.agg row.toArray,.int .i64 0]/\br F row h/\h.Form/\fH h=b)\/(v=.tuple #[.agg tC.toArray,.int .i64 2]/\∀ R row h,br R row h->h.Form->fH h≠b)
def xq:Sx.Spec where
 fn:=85
 own:=[]
 rd:=[0]
 res:=[.agg bJ,.one (.int .i64)]
 pre:=fun xs Hs Rs=>∃ u bs R,xs=[u]/\Rs=[R]/\fE R u bs/\al bs/\bs.length<=1000000
 post:=fun xs Hs Rs v Hs' F=>∃ u bs R,xs=[u]/\Rs=[R]/\fE R u bs/\BD bs v F
def pr0:qg.res=[.one .ptr]:=rfl
def pr1:fe.res=[.one (.int .u64)]:=rfl
def pr2:vA.res=[.one .bool]:=rfl
def pr3:Hn.res=[.one .sl]:=rfl
def pr4:tQ.res=[.one .bool]:=rfl
def pr5 (f:FuncId):(fS f).res=[.one .bool]:=rfl
def pc0 (n:Nat):(aL n [Cp.one .ptr]≠[])=True:=by simp [aL,Cp.roots,Ck.root]
def pc1 (n:Nat):(aL n [Cp.one (.int .u64)]≠[])=False:=by simp [aL,Cp.roots,Ck.root]
def mw (H:Hl) (p:Value) (s:PS):Prop:=jr H p s.l s.bad
def fK (b:List Int) (u:Value):List Value :=
 [.int .i64 (aI 6 (p0 b)),.int .u64 (aI 1048576 (p1 b))]++aS (dv 32 (cq 32 (p2 b)))++[.int .i64 (aI 255 (p3 b)),.bool (jm (p4 b)),.int .u64 (aI 1099511627776 (p5 b))]++aS (dv 16 (cq 16 (p6 b)))++[u]++List.replicate 6 (.int .u64 0)++List.replicate 32 (.int .u8 0)++[.int .i64 0]++List.replicate 32 (.int .u8 0)
section
variable {q:Env} {n:Nat} {p:Value} {H:Hl} {s:PS} {K:Env->Prop} {A:Env->Hl->Prop}
def kI {m:Int} (h:mw H p s) (k:∀ q',ai n q q'->mw (q'.h n) p (gL m s)->q'.i n=aI m s->K q') :
 fe.pre [p,.int .u64 m] [H] []/\∀ q',ai n q q'->(∃ F,fe.post [p,.int .u64 m] [H] [] (.int .u64 (q'.i n)) [q'.h n] F/\A q' F)->K q':=by
 refine⟨⟨_,m,H,s.l,s.bad,rfl,rfl,h⟩,fun q' g ⟨F,⟨j,m',H1,bs,bad,H',e1,b,d,c,a,hv⟩,_⟩=>?_⟩;simp only[aae,Value.int.injEq,acu,abw]at e1 b c;obtain⟨e1,em⟩:=e1;subst e1 em b;obtain⟨e,f⟩:=h.uniq d;subst e f;rw[<-c]at a;simp only[Value.int.injEq,acu]at hv;exact k q' g a hv
def VG (h:mw H p s) (k:∀ q',ai n q q'->mw (q'.h n) p (rA s)->q'.b n=jm s->K q') :
 vA.pre [p] [H] []/\∀ q',ai n q q'->(∃ F,vA.post [p] [H] [] (.bool (aY q' (.bvar n))) [q'.h n] F/\A q' F)->K q':=by
 refine⟨⟨_,H,s.l,s.bad,rfl,rfl,h⟩,fun q' g ⟨F,⟨j,H1,bs,bad,H',e1,c,e,d,a,hv⟩,_⟩=>?_⟩;simp only[aae,abw]at e1 c d;subst e1 c;obtain⟨f,i⟩:=h.uniq e;subst f i;rw[<-d]at a;simp only[Value.bool.injEq,bn]at hv;exact k q' g a hv
structure qG (F:Hl) (x y l c:Int) (raw:List Int):Prop where
 rx:-1<=x
 ry:0<=y
 len:l=raw.length
 rd:(x= -1/\raw=[])\/(0<=x/\∀ j z,raw[j]?=some z->F.cell x.toNat (y.toNat+j)=some (.int .u8 z))
def Qp {m:Int} (h:mw H p s) (k:∀ q',ai n q q'->mw (q'.h n) p (tv m s)->qG (q'.h (n+1)) (q'.i n) (q'.i (n+1)) (q'.i (n+2)) (q'.i (n+3)) (cq m s)->K q') :
 Hn.pre [p,.int .i64 m] [H] []/\∀ q',ai n q q'->(∃ F,Hn.post [p,.int .i64 m] [H] [] (.slice (au (q'.i n) (q'.i (n+1))) (q'.i (n+2)).toNat (q'.i (n+3)).toNat) [q'.h n] F/\(True->q'.h (n+1)=F)/\bR n [.one .sl] q')->K q':=by
 refine⟨⟨_,m,H,s.l,s.bad,rfl,rfl,h⟩,fun q' g ⟨F,⟨o,m',H1,bs,bad,H',e1,b,d,c,a,hv⟩,e,hn,_⟩=>?_⟩;simp only[aae,Value.int.injEq,acu,abw]at e1 b c;obtain⟨e1,em⟩:=e1;subst e1 em b;obtain⟨f,j⟩:=h.uniq d;subst f j;rw[<-c]at a;have hn:-1<=q'.i n/\0<=q'.i (n+1)/\0<=q'.i (n+2)/\0<=q'.i (n+3):=hn;rw[<-e zzT]at hv;obtain⟨hl,hr⟩:=hv.rd.at hn.1 hn.2.1 hn.2.2.1;exact k q' g a ⟨hn.1,hn.2.1,hl,hr⟩
end
def qG.QY {x y l c:Int} (h:qG F x y l c raw) {a:Int} (hw:0<=w) (f:a+w<=125):((x= -1/\l=0\/0<=x/\0<=y/\bx F x.toNat y.toNat (if l<w then l else w).toNat=true)/\0<=l/\(a+if l<w then l else w)<=125):=by
 have hl:=h.len;refine⟨h.rd.imp (fun⟨h1,d⟩=>⟨h1,by grind⟩) fun⟨h1,d⟩=>⟨h1,h.ry,?_⟩,ah,by grind⟩;unfold bx;rw[acd];intro j e;have e:j<(if l<w then l else w).toNat:=acv.1 e;have b:j<raw.length:=by grind
 rw[d j _ (aad b)];rfl
def qG.cell {x y l c:Int} (h:qG F x y l c raw) (a:j<raw.length):bO (F.cell x.toNat (y.toNat+j))=raw.getD j 0:=by
 rcases h.rd with ⟨_,b⟩ | ⟨_,b⟩
 .grind
 .rw[b j _ (aad a),abv,aad a];rfl
def zn {q:Env} {a n h m2:Nat} {c:Int} (b:qG (q.h h) (q.i m1) (q.i m2) (q.i m3) c raw) (hw:w=(n:Int)) (ho:∀ j,j<n->aw q (old j)=0) :
 (MX a n (.ite (.lt (.var m3) (.lit w)) (.var m3) (.lit w)) h (.var m1) (.var m2) old).map (CV.ev q)=aS (dv n raw):=by
 subst hw;unfold MX aS dv;rw[adv,adv];refine acL fun j d=>?_;have d:=acv.1 d;have hl:=b.len;show Value.int .u8 (aw q (.ite _ _ _))=.int .u8 _
 congr 1
 simp only[dY,nu,aq,bP,ar];by_cases hr:j<raw.length
 .rw[ab9 (by grind),fi];exact b.cell hr
 grind
def Ts {q:Env} {n h m2:Nat} {c:Int} (a:qG (q.h h) (q.i m1) (q.i m2) (q.i m3) c raw) (hw:w=(n:Int)) (ho:∀ j,j<n->aw q (old j)=0) :
 (W8 n (.ite (.lt (.var m3) (.lit w)) (.var m3) (.lit w)) h (.var m1) (.var m2) old).map (CV.ev q)=aS (dv n raw):=by
 subst hw;unfold W8 aS dv;rw[adv,adv];refine acL fun j b=>?_;have b:=acv.1 b;have hl:=a.len;show Value.int .u8 (aw q (.ite _ _ _))=.int .u8 _
 congr 1
 simp only[dY,nu,aq,ar];by_cases hr:j<raw.length
 .rw[ab9 (by grind),fi];exact a.cell hr
 grind
def QH (b:List Int) (u v:Value):(fK b u).set 53 v=fK b v:=by
 have e:∀ u,fK b u=([Value.int .i64 (aI 6 (p0 b)),.int .u64 (aI 1048576 (p1 b))]++aS (dv 32 (cq 32 (p2 b)))++[Value.int .i64 (aI 255 (p3 b)),.bool (jm (p4 b)),.int .u64 (aI 1099511627776 (p5 b))]++aS (dv 16 (cq 16 (p6 b))))++u::(List.replicate 6 (.int .u64 0)++List.replicate 32 (.int .u8 0)++[.int .i64 0]++List.replicate 32 (.int .u8 0)):=by
  intro u;unfold fK;simp only[abS,afg,adk]
 have hl:([Value.int .i64 (aI 6 (p0 b)),.int .u64 (aI 1048576 (p1 b))]++aS (dv 32 (cq 32 (p2 b)))++[Value.int .i64 (aI 255 (p3 b)),.bool (jm (p4 b)),.int .u64 (aI 1099511627776 (p5 b))]++aS (dv 16 (cq 16 (p6 b)))).length=53:=by simp [aS,gT]
 rw[e u,e v,afV _ _ ah,hl];rfl
def qG.aa7 {x y l c:Int} (h:qG F x y l c raw) (hw:0<=w) (b:w<=125):((x= -1/\l=0\/0<=x/\0<=y/\bx F x.toNat y.toNat (if l<w then l else w).toNat=true)/\0<=l/\(if l<w then l else w)<=w):=by
 obtain⟨h1,d,_⟩:=h.QY (a:=0) hw ah
 grind
def Rb (q:Env):LN.map (CV.ev q)=(aG q 300).set 53 (.slice (au (q.i 446) 0) (q.i 355+1).toNat (q.i 447).toNat):=by kernel_rfl
def U9 (q:Env):aW (aG q 300) 60 32=(List.range 32).map fun j=>q.i (363+j):=by kernel_rfl
def Sm (q:Env):aW (aG q 300) 93 32=(List.range 32).map fun j=>q.i (396+j):=by kernel_rfl
def Bc (b:List Int):List Value:=[Value.int .i64 (aI 6 (p0 b)),.int .u64 (aI 1048576 (p1 b))]++aS (dv 32 (cq 32 (p2 b)))++[.int .i64 (aI 255 (p3 b)),.bool (jm (p4 b)),.int .u64 (aI 1099511627776 (p5 b))]++aS (dv 16 (cq 16 (p6 b)))
def Zh (b:List Int):(Bc b).length=53:=by trivial
def R0 {q:Env} {b:List Int} (h:aG q 300=fK b u):∀ j,j<32->q.i (363+j)=0/\q.i (396+j)=0:=by
 have a1:aW (fK b u) 60 32=List.replicate 32 0:=by
  have e:fK b u=(Bc b++[u]++List.replicate 6 (.int .u64 0))++aS (List.replicate 32 0)++([.int .i64 0]++List.replicate 32 (.int .u8 0)):=by
   unfold fK Bc;simp only[abS];rfl
  rw[e];exact rT (by trivial) aC
 have a2:aW (fK b u) 93 32=List.replicate 32 0:=by
  have e:fK b u=(Bc b++[u]++List.replicate 6 (.int .u64 0)++List.replicate 32 (.int .u8 0)++[.int .i64 0])++aS (List.replicate 32 0)++[]:=by
   unfold fK Bc;simp only[abS];rfl
  rw[e];exact rT (by trivial) aC
 rw[<-h,U9]at a1;rw[<-h,Sm]at a2;intro j a;have c1:=ach (fun l=>l[j]?) a1
 grind
def X7 (q:Env):(aj 300 ([Ck.int .i64,Ck.int .u64]++List.replicate 32 (Ck.int .u8)++[Ck.int .i64,Ck.bool,Ck.int .u64]++List.replicate 16 (Ck.int .u8)++[Ck.sl])).map (CV.ev q)=(aG q 300).take 54:=by kernel_rfl
def Nv (b:List Int) (u:Value):(fK b u).take 54=Bc b++[u]:=by
 trivial
def Vu (q:Env):Rc.map (CV.ev q)=tC:=by kernel_rfl
def qG.ag {q:Env} {m h m2 a:Nat} (g:ai m q q') (b:qG (q.h h) (q.i m1) (q.i m2) (q.i m3) (q.i a) raw) (h0:h<m) (h1:m1<m) (c:m2<m) (d:m3<m) (e:a<m):qG (q'.h h) (q'.i m1) (q'.i m2) (q'.i m3) (q'.i a) raw:=by
 rw[g.h h h0,g.i m1 h1,g.i m2 c,g.i m3 d,g.i a e];exact b
def AM (h:-1<=J.i 53/\0<=J.i 54/\0<=J.i 55/\0<=J.i 56):bZ 0 bJ J:=⟨zzT,zzT,zzT,zzT,zzT,zzT,zzT,zzT,zzT,zzT,zzT,zzT,zzT,zzT,zzT,zzT,zzT,zzT,zzT,zzT,zzT,zzT,zzT,zzT,zzT,zzT,zzT,zzT,zzT,zzT,zzT,zzT,zzT,zzT,zzT,zzT,zzT,zzT,zzT,zzT,zzT,zzT,zzT,zzT,zzT,zzT,zzT,zzT,zzT,zzT,zzT,zzT,zzT,h,zzT,zzT,zzT,zzT,zzT,zzT,zzT,zzT,zzT,zzT,zzT,zzT,zzT,zzT,zzT,zzT,zzT,zzT,zzT,zzT,zzT,zzT,zzT,zzT,zzT,zzT,zzT,zzT,zzT,zzT,zzT,zzT,zzT,zzT,zzT,zzT,zzT,zzT,zzT,zzT,zzT,zzT,zzT,zzT,zzT,zzT,zzT,zzT,zzT,zzT,zzT,zzT,zzT,zzT,zzT,zzT,zzT,zzT,zzT,zzT,zzT,zzT,zzT,zzT,zzT,zzT,zzT,zzT,zzT,zzT,zzT,zzT⟩
def Y9 {v:Value} (hv:v=.tuple #[.agg tC.toArray,.int .i64 2]):∃ a,v=(jO 0 xq.res).ev a/\bR 0 xq.res a:=by
 subst hv;exact⟨(ba fun k=>if k=53 then -1 else if k=128 then 2 else 0),zzK,AM ⟨aba _,aba _,aba _,aba _⟩,zzT,zzT⟩
def VF (b:List Int) (x y l c:Int):Env:=⟨fun k=>if k<53 then cI (fF b (.bool false)) k else if k=53 then x else if k=54 then y else if k=55 then l else if k=56 then c else if k<128 then cI (fF b (.bool false)) (k-3)else 0,fun k=>cB (fF b (.bool false)) k,fun _=>.empty,fun _=>.tuple #[],fun _=>Hl.none⟩
def Qi (b:List Int) (x y l c:Int):(aj 0 bJ).map (CV.ev (VF b x y l c))=fF b (.slice (au x y) l.toNat c.toNat):=by kernel_rfl
open Classical in
def NT:xq.OK Tryz.prog:=by
 refine Spec.jN (Γ:=epΓ) Xi rfl ?_;rintro xs Rs ⟨u,b,R,rfl,rfl,Z,hby,hlen⟩;obtain⟨x,y,c,rfl,hy,hR⟩:=id Z;refine⟨aaf,aM [x,y,b.length,c] false [Hl.none,Hl.none,Hl.none,Hl.none,R],fun _ q=>∃ k:Nat,q.i 430=k/\k<=hN b/\mw (q.h 431) (.pointer (au (q.i 7) (q.i 8))) (fp k (p8 b)).2/\aG q 300=fK b (.slice (au (q.i 353) (q.i 354)) (q.i 355).toNat (q.i 356).toNat)/\ -1<=q.i 353/\q.i 354=0/\q.i 355=k/\0<=q.i 356/\pF (q.h 432) 34 qm (.slice (au (q.i 353) 0) (q.i 355).toNat (q.i 356).toNat) ((fp k (p8 b)).1.map aS),fun _ q=>(hN b-q.i 430).toNat,?_,aT rfl rfl,rfl,?_⟩
 .trivial
 .refine aD.lit (x:=PO) ?_;generalize a0:aM [x,y,b.length,c] false [Hl.none,Hl.none,Hl.none,Hl.none,R]=J;obtain⟨⟨v0,v1,v2,v3,_⟩,_,_,_,_,w4,_⟩:=jn a0;clear a0;unfold PO;simp only[go_sem,Nat.reduceAdd,epΓ,pr0,pr1,pr2,pr3,pr4,pr5,pc0,pc1,U7,RC];intro q1 g1 _ q2 g2 _;have G2:ai 5 J q2:=g1.tr g2;rw[G2.i 0,G2.i 1,G2.i 2,G2.i 3,G2.h 4,v0,v1,v2,v3,w4,aac,aac];refine⟨⟨_,b,R,rfl,rfl,Z,hby,hlen⟩,fun q3 g3 ⟨F3,bh,bj,_⟩=>?_⟩;have h3:mw (q3.h 7) (.pointer (au (q3.i 7) (q3.i 8))) (p0 b):=by
   obtain⟨u',b',R',e1,e2,bk,hO⟩:=bh;simp only[aae,abw]at e1 e2;subst e1 e2;rw[Z.uniq bk,bj zzT];exact hO
  refine kI h3 fun q4 g4 h4 I=>?_;have h4:mw (q4.h 9) _ (p1 b):=h4;have I:q4.i 9=aI 6 (p0 b):=I;rw[<-g4.i 7,<-g4.i 8]at h4;refine kI h4 fun q5 g5 h5 N=>?_;have h5:mw (q5.h 11) _ (p2 b):=h5;have N:q5.i 11=aI 1048576 (p1 b):=N;rw[<-g5.i 7,<-g5.i 8]at h5;rw[<-g5.i 9]at I;refine Qp h5 fun q6 g6 h6 t6=>?_;have h6:mw (q6.h 13) _ (p3 b):=h6;have t6:qG (q6.h 14) (q6.i 13) (q6.i 14) (q6.i 15) (q6.i 16) (cq 32 (p2 b)):=t6;rw[<-g6.i 7,<-g6.i 8]at h6;rw[<-g6.i 9]at I;rw[<-g6.i 11]at N;refine⟨t6.QY ah ah,?_⟩;refine kI h6 fun q7 g7 h7 V=>?_;have h7:mw (q7.h 17) _ (p4 b):=h7;have V:q7.i 17=aI 255 (p3 b):=V;rw[<-g7.i 7,<-g7.i 8]at h7;rw[<-g7.i 9]at I;rw[<-g7.i 11]at N;have t6:=t6.ag g7 ah ah ah ah ah;refine VG h7 fun q8 g8 h8 aa=>?_;have h8:mw (q8.h 19) _ (p5 b):=h8;have aa:q8.b 19=jm (p4 b):=aa;rw[<-g8.i 7,<-g8.i 8]at h8;rw[<-g8.i 9]at I;rw[<-g8.i 11]at N;have t6:=t6.ag g8 ah ah ah ah ah;rw[<-g8.i 17]at V;refine kI h8 fun q9 g9 h9 ao=>?_;have h9:mw (q9.h 21) _ (p6 b):=h9;have ao:q9.i 21=aI 1099511627776 (p5 b):=ao;rw[<-g9.i 7,<-g9.i 8]at h9;rw[<-g9.i 9]at I;rw[<-g9.i 11]at N;have t6:=t6.ag g9 ah ah ah ah ah;rw[<-g9.i 17]at V;rw[<-g9.b 19]at aa;refine Qp h9 fun W O aq t10=>?_;have aq:mw (W.h 23) _ (p7 b):=aq;have t10:qG (W.h 24) (W.i 23) (W.i 24) (W.i 25) (W.i 26) (cq 16 (p6 b)):=t10;rw[<-O.i 7,<-O.i 8]at aq;rw[<-O.i 9]at I;rw[<-O.i 11]at N;have t6:=t6.ag O ah ah ah ah ah;rw[<-O.i 17]at V;rw[<-O.b 19]at aa;rw[<-O.i 21]at ao;refine⟨t10.QY ah ah,?_⟩;refine kI aq fun d K ar ab=>?_;have ar:mw (d.h 27) _ (p8 b):=ar;have ab:d.i 27=aI 8 (p7 b):=ab;rw[<-K.i 7,<-K.i 8]at ar;rw[<-K.i 9]at I;rw[<-K.i 11]at N;have t6:=t6.ag K ah ah ah ah ah;rw[<-K.i 17]at V;rw[<-K.b 19]at aa;rw[<-K.i 21]at ao;have t10:=t10.ag K ah ah ah ah ah;have wi:∀ {m:Int} {s:PS},0<=m->m<=9223372036854775807->IntKind.i64.wrap (aI m s)=aI m s:=fun {m s} h0 h1=>by have:=ig (s:=s) h0;exact IntWalk.i64_in _ ah
  have em:LL.map (CV.ev d)=fK b (.slice none 0 0):=by
   unfold LL fK;simp only[acm];rw[zn (w:=32) (n:=32) (old:=fun _=>.lit 0) t6 rfl (fun _ _=>rfl),zn (w:=16) (n:=16) (old:=fun _=>.lit 0) t10 rfl (fun _ _=>rfl)];have e1:List.map (CV.ev d) [.int .i64 (.wrap .i64 (.var 9)),.int .u64 (.var 11)]=[Value.int .i64 (aI 6 (p0 b)),.int .u64 (aI 1048576 (p1 b))]:=by
    show [Value.int .i64 (IntKind.i64.wrap (d.i 9)),.int .u64 (d.i 11)]=_
    grind
   have e2:List.map (CV.ev d) [.int .i64 (.wrap .i64 (.var 17)),.bool (.bvar 19),.int .u64 (.var 21)]=[Value.int .i64 (aI 255 (p3 b)),.bool (jm (p4 b)),.int .u64 (aI 1099511627776 (p5 b))]:=by
    show [Value.int .i64 (IntKind.i64.wrap (d.i 17)),.bool (d.b 19),.int .u64 (d.i 21)]=_
    grind
   rw[e1,e2];rfl
  have hg:CP 29 rB [(431,some 27),(432,none)]=true:=by kernel_rfl
  have ag:=zV (J:=d) hg;have L:(SV.agg (aj 300 bJ)).ev (assign d rB [(431,some 27),(432,none)])=(SV.agg LL).ev d:=CC (n0:=29) hg zzK (fun y hy=>acV _ hy);have x0:(assign d rB [(431,some 27),(432,none)]).i 430=0:=by kernel_rfl
  have x1:(assign d rB [(431,some 27),(432,none)]).i 353= -1:=by kernel_rfl
  have x2:(assign d rB [(431,some 27),(432,none)]).i 354=0:=by kernel_rfl
  have x3:(assign d rB [(431,some 27),(432,none)]).i 355=0:=by kernel_rfl
  have x4:(assign d rB [(431,some 27),(432,none)]).i 356=0:=by kernel_rfl
  have x5:(assign d rB [(431,some 27),(432,none)]).h 431=d.h 27:=by kernel_rfl
  have x6:(assign d rB [(431,some 27),(432,none)]).h 432=Hl.none:=by kernel_rfl
  generalize assign d rB [(431,some 27),(432,none)]=qn at ag L x0 x1 x2 x3 x4 x5 x6 ⊢;have L:aG qn 300=fK b (.slice none 0 0):=(ab1 (Value.agg.inj L)).trans em;refine⟨⟨0,x0,acP _,?_,?_,ah,x2,x3,ah,?_⟩,fun q g ⟨k,ek,hk,hP,ad,A0,ae,aK,C0,hO⟩=>?_⟩
  .rw[x5,ag.i 7,ag.i 8];exact ar
  .rw[L,x1,x2,x3,x4];rfl
  .rw[x1,x3,x4,x6];exact pF.nil _ _ _
  have bC:hN b<=8:=by have:=ig (s:=p7 b) (m:=8) ah;unfold hN;omega
  have bl:q.i 27=hN b:=by rw[g.i 27,ab];have:=ig (s:=p7 b) (m:=8) ah;unfold hN;omega
  have bD:(((fp k (p8 b)).1.map aS).length:Int)=k:=by rw[aca,wP]
  refine⟨fun bE bF av _=>?_,fun bG=>?_⟩
  .rw[<-av.i 7,<-av.i 8,<-av.h 431]at hP;refine Qp hP fun af aL bm t21=>?_;have t21:qG (af.h 442) (af.i 441) (af.i 442) (af.i 443) (af.i 444) (cq 16 (fp k (p8 b)).2):=t21;refine⟨t21.aa7 ah ah,fun bo ak _=>?_⟩;have t22:=t21.ag ak ah ah ah ah ah;have X:ai 440 q bo:=av.trans (aL.mono.tr ak);rw[X.h 432,X.i 353,X.i 354,X.i 355,X.i 356,ae,Ts (w:=16) (n:=16) (old:=fun _=>.lit 0) t22 rfl (fun _ _=>rfl)];refine⟨⟨⟨_,pF.pre hO ah⟩,ah,by unfold maxLen;omega,ah⟩,fun e aw ⟨A1,C1,happ,_⟩=>?_⟩;have bH:=pF.app (row:=aS (dv 16 (cq 16 (fp k (p8 b)).2))) hO ah (Dn (gT _ _)) happ;have aN:ai 440 q e:=X.tr aw;have hg:CP 29 rC [(431,some 441),(432,some 446)]=true:=by kernel_rfl
   have ag:=zV (J:=e) hg;have L:(SV.agg (aj 300 bJ)).ev (assign e rC [(431,some 441),(432,some 446)])=(SV.agg LN).ev e:=CC (n0:=29) hg zzK (fun y hy=>acV _ hy);have x0:(assign e rC [(431,some 441),(432,some 446)]).i 430=IntKind.u64.wrap (e.i 430+1):=by kernel_rfl
   have x1:(assign e rC [(431,some 441),(432,some 446)]).i 353=e.i 446:=by kernel_rfl
   have x2:(assign e rC [(431,some 441),(432,some 446)]).i 354=0:=by kernel_rfl
   have x3:(assign e rC [(431,some 441),(432,some 446)]).i 355=e.i 355+1:=by kernel_rfl
   have x4:(assign e rC [(431,some 441),(432,some 446)]).i 356=e.i 447:=by kernel_rfl
   have x5:(assign e rC [(431,some 441),(432,some 446)]).h 431=e.h 441:=by kernel_rfl
   have x6:(assign e rC [(431,some 441),(432,some 446)]).h 432=e.h 446:=by kernel_rfl
   generalize assign e rC [(431,some 441),(432,some 446)]=qn at ag L x0 x1 x2 x3 x4 x5 x6 ⊢;have L:aG qn 300=LN.map (CV.ev e):=ab1 (Value.agg.inj L);have a1:aG e 300=aG q 300:=ab1 (Value.agg.inj (fQ (n:=300) (ks:=bJ) aN (adg zzK)));rw[Rb,a1,ad,QH]at L;have a2:IntKind.u64.wrap (e.i 430+1)=((k+1:Nat):Int):=by rw[aN.i 430,ek,m9 ah ah];omega
   have a3:e.i 355+1=((k+1:Nat):Int):=by rw[aN.i 355,aK];omega
   rw[x0,x1,x2,x3,x4,x5,x6,a2,a3];refine⟨⟨k+1,rfl,ah,?_,?_,A1,rfl,rfl,C1,?_⟩,ah⟩
   .rw[ag.i 7,ag.i 8,aw.i 7,aw.i 8,ak.i 7,ak.i 8,aw.h 441,ak.h 441,aL.i 7,aL.i 8];exact bm
   .grind
   .show pF _ _ _ _ (((fp k (p8 b)).1++[dv 16 (cq 16 (fp k (p8 b)).2)]).map aS)
    grind
  have bp:k=hN b:=ah;subst bp;have hP:mw (q.h 431) (.pointer (au (q.i 7) (q.i 8))) (k0 b):=hP;obtain⟨t,bq⟩:∃ t,t=q:=⟨_,rfl⟩;subst bq;have bs:=hP;have a4:ai 440 t t:=ai.refl _ _;refine kI bs fun aO aP ax o=>?_;have ax:mw (aO.h 440) _ (k1 b):=ax;have o:aO.i 440=aI 1048576 (k0 b):=o;have a5:ai 440 t aO:=a4.tr aP;rw[<-aP.i 7,<-aP.i 8]at ax;refine kI ax fun aQ ay az r=>?_;have az:mw (aQ.h 442) _ (k2 b):=az;have r:aQ.i 442=aI 1048576 (k1 b):=r;have a6:ai 440 t aQ:=a5.tr ay;rw[<-ay.i 7,<-ay.i 8]at az;rw[<-ay.i 440]at o;refine kI az fun aR al aA v=>?_;have aA:mw (aR.h 444) _ (k3 b):=aA;have v:aR.i 444=aI 1048576 (k2 b):=v;have a7:ai 440 t aR:=a6.tr al;rw[<-al.i 7,<-al.i 8]at aA;rw[<-al.i 440]at o;rw[<-al.i 442]at r;refine kI aA fun aU Y aB z=>?_;have aB:mw (aU.h 446) _ (k4 b):=aB;have z:aU.i 446=aI 1048576 (k3 b):=z;have a8:ai 440 t aU:=a7.tr Y;rw[<-Y.i 7,<-Y.i 8]at aB;rw[<-Y.i 440]at o;rw[<-Y.i 442]at r;rw[<-Y.i 444]at v;refine kI aB fun aV Q aC A=>?_;have aC:mw (aV.h 448) _ (k5 b):=aC;have A:aV.i 448=aI 1048576 (k4 b):=A;have a9:ai 440 t aV:=a8.tr Q;rw[<-Q.i 7,<-Q.i 8]at aC;rw[<-Q.i 440]at o;rw[<-Q.i 442]at r;rw[<-Q.i 444]at v;rw[<-Q.i 446]at z;refine kI aC fun aW P aE H=>?_;have aE:mw (aW.h 450) _ (k6 b):=aE;have H:aW.i 450=aI 1048576 (k5 b):=H;have ba:ai 440 t aW:=a9.tr P;rw[<-P.i 7,<-P.i 8]at aE;rw[<-P.i 440]at o;rw[<-P.i 442]at r;rw[<-P.i 444]at v;rw[<-P.i 446]at z;rw[<-P.i 448]at A;refine Qp aE fun S M aF t37=>?_;have aF:mw (S.h 452) _ (GZ b):=aF;have t37:qG (S.h 453) (S.i 452) (S.i 453) (S.i 454) (S.i 455) (cq 32 (k6 b)):=t37;have bb:ai 440 t S:=ba.tr M;rw[<-M.i 7,<-M.i 8]at aF;rw[<-M.i 440]at o;rw[<-M.i 442]at r;rw[<-M.i 444]at v;rw[<-M.i 446]at z;rw[<-M.i 448]at A;rw[<-M.i 450]at H;refine⟨t37.QY ah ah,?_⟩;refine kI aF fun aX C aH U=>?_;have aH:mw (aX.h 456) _ (Ft b):=aH;have U:aX.i 456=aI 2064 (GZ b):=U;have bc:ai 440 t aX:=bb.tr C;rw[<-C.i 7,<-C.i 8]at aH;rw[<-C.i 440]at o;rw[<-C.i 442]at r;rw[<-C.i 444]at v;rw[<-C.i 446]at z;rw[<-C.i 448]at A;rw[<-C.i 450]at H;have t37:=t37.ag C ah ah ah ah ah;refine Qp aH fun T B an t39=>?_;have an:mw (T.h 458) _ (JK b):=an;have t39:qG (T.h 459) (T.i 458) (T.i 459) (T.i 460) (T.i 461) (cq 32 (Ft b)):=t39;have bd:ai 440 t T:=bc.tr B;rw[<-B.i 7,<-B.i 8]at an;rw[<-B.i 440]at o;rw[<-B.i 442]at r;rw[<-B.i 444]at v;rw[<-B.i 446]at z;rw[<-B.i 448]at A;rw[<-B.i 450]at H;have t37:=t37.ag B ah ah ah ah ah;rw[<-B.i 456]at U;refine⟨t39.QY ah ah,?_⟩;refine⟨⟨_,_,(JK b).l,(JK b).bad,rfl,rfl,an⟩,fun a D ⟨F,hp,_⟩=>?_⟩;have bt:a.b 462=(!(JK b).bad&&decide ((JK b).l=[])):=by
   obtain⟨p',R',bs',bad',e1,e2,bu,hv⟩:=hp;simp only[aae,abw]at e1 e2;subst e1 e2;obtain⟨e3,e4⟩:=an.uniq bu;subst e3 e4;simpa [bn] using hv
  have f:ai 440 t a:=bd.tr D;rw[<-D.i 440]at o;rw[<-D.i 442]at r;rw[<-D.i 444]at v;rw[<-D.i 446]at z;rw[<-D.i 448]at A;rw[<-D.i 450]at H;have t37:=t37.ag D ah ah ah ah ah;rw[<-D.i 456]at U;have t39:=t39.ag D ah ah ah ah ah;have bf:aG a 300=aG t 300:=ab1 (Value.agg.inj (fQ (n:=300) (ks:=bJ) f (adg zzK)));rw[<-bf]at ad;have hz:=R0 ad;rw[<-f.i 353,<-f.i 354,<-f.i 355,<-f.i 356]at ad;rw[<-f.i 353]at A0;rw[<-f.i 354]at ae;rw[<-f.i 355]at aK;rw[<-f.i 356]at C0;rw[<-f.h 432,<-f.i 353,<-f.i 355,<-f.i 356]at hO;have aY:EF.map (CV.ev a)=fF b (.slice (au (a.i 353) (a.i 354)) (a.i 355).toNat (a.i 356).toNat):=by
   unfold EF;simp only[acm];rw[X7,ad,Nv,zn (w:=32) (n:=32) (old:=fun j=>.var (363+j)) t37 rfl (fun j hj=>(hz j hj).1),zn (w:=32) (n:=32) (old:=fun j=>.var (396+j)) t39 rfl (fun j hj=>(hz j hj).2)];have e1:List.map (CV.ev a) [.int .u64 (.var 440),.int .u64 (.var 442),.int .u64 (.var 444),.int .u64 (.var 446),.int .u64 (.var 448),.int .u64 (.var 450)]=[Value.int .u64 (aI 1048576 (k0 b)),.int .u64 (aI 1048576 (k1 b)),.int .u64 (aI 1048576 (k2 b)),.int .u64 (aI 1048576 (k3 b)),.int .u64 (aI 1048576 (k4 b)),.int .u64 (aI 1048576 (k5 b))]:=by
    show [Value.int .u64 (a.i 440),.int .u64 (a.i 442),.int .u64 (a.i 444),.int .u64 (a.i 446),.int .u64 (a.i 448),.int .u64 (a.i 450)]=_
    grind
   have e2:List.map (CV.ev a) [.int .i64 (.wrap .i64 (.var 456))]=[Value.int .i64 (aI 2064 (GZ b))]:=by
    show [Value.int .i64 (IntKind.i64.wrap (a.i 456))]=_
    grind
   rw[e1,e2];unfold Bc fF;simp only[abS]
  have his:br (a.h 432) (fF b (.slice (au (a.i 353) (a.i 354)) (a.i 355).toNat (a.i 356).toNat)) (fy b):=by
   refine aaC hby rfl trivial ?_;rw[ae];exact hO.rd
  have zp:∀ {qq:Env} {mem:Mem},(∀ R row h,br R row h->h.Form->fH h≠b)->postOf xq [.slice (au x y) b.length c] [] [R] qq mem (.tup [.agg Rc,.one (.int .i64 (.lit 2))]):=by
   intro qq mem bw _;have ev:(TV.tup [SV.agg Rc,SV.one (CV.int IntKind.i64 (E.lit 2))]).ev qq=.tuple #[.agg tC.toArray,.int .i64 2]:=by
    show Value.tuple #[.agg (Rc.map (CV.ev qq)).toArray,.int .i64 2]=_;rw[Vu]
   exact⟨[],[],rfl,rfl,Y9 ev,_,b,R,rfl,rfl,Z,Or.inr ⟨ev,bw⟩⟩
  have bg:¬(a.b 462=true/\(fy b).Form)->∀ R row h,br R row h->h.Form->fH h≠b:=by
   rintro hn R' row' h' bx bz rfl;obtain⟨l1,l2,l3⟩:=ad2 bx bz;exact hn ⟨by grind,l3⟩
  rw[aY];refine⟨fun hv=>⟨⟨_,_,_,rfl,rfl,his⟩,fun p G ⟨F4,bA,_⟩=>?_⟩,fun hv=>zp (bg fun hh=>hv hh.1)⟩;have aZ:=mE his bA;have aZ:p.b 463=decide (fy b).Form:=by simpa [bn] using aZ
  rw[aZ,aas];refine⟨fun hf=>zp (bg fun hh=>hf hh.2),fun hf _=>?_⟩;have bB:fH (fy b)=b:=by
   rw[bt]at hv;simp only[aaM,ad0,aas]at hv;exact ad1 hby hv.1 hv.2
  have hag:EF.map (CV.ev p)=EF.map (CV.ev a):=CV.gN G EF zzK;rw[<-G.i 353,<-G.i 354,<-G.i 355,<-G.i 356]at aY his;rw[<-G.h 432]at his;have ev:(TV.tup [SV.agg EF,SV.one (CV.int IntKind.i64 (E.lit 0))]).ev p=.tuple #[.agg (fF b (.slice (au (p.i 353) (p.i 354)) (p.i 355).toNat (p.i 356).toNat)).toArray,.int .i64 0]:=by
   show Value.tuple #[.agg (EF.map (CV.ev p)).toArray,.int .i64 0]=_;rw[hag,aY]
  refine⟨[],[6],rfl,rfl,⟨VF b (p.i 353) (p.i 354) (p.i 355) (p.i 356),?_,AM ⟨by show -1<=p.i 353;rw[G.i 353];exact A0,by show 0<=p.i 354;rw[G.i 354];omega,by show 0<=p.i 355;rw[G.i 355];omega,by show 0<=p.i 356;rw[G.i 356];exact C0⟩,zzT,zzT⟩,_,b,R,rfl,rfl,Z,Or.inl ⟨_,fy b,ev,?_,hf,bB⟩⟩
  .rw[ev,<-Qi];kernel_rfl
  .show br (bY [p.h 432]) _ _;rw[aJ];exact his
def my {m:Nat} (g:ai m J J') {a:Nat} (h:a+aQ ks<=m):(aj a ks).map (CV.ev J')=(aj a ks).map (CV.ev J):=ab1 (Value.agg.inj (fQ (n:=a) (ks:=ks) g h))
def FO:aQ bJ=128:=by kernel_rfl
def hzC:List CV:=[.int .i64 (.lit 0),.int .u64 (.lit 0)]++List.replicate 32 (CV.int .u8 (.lit 0))++[.int .i64 (.lit 0),.bool .ff,.int .u64 (.lit 0)]++List.replicate 16 (CV.int .u8 (.lit 0))++[.sl (.lit (-1)) (.lit 0) (.lit 0) (.lit 0),.int .u64 (.lit 0),.int .u64 (.lit 0),.int .u64 (.lit 0),.int .u64 (.lit 0),.int .u64 (.lit 0),.int .u64 (.lit 0)]++List.replicate 32 (CV.int .u8 (.lit 0))++[.int .i64 (.lit 0)]++List.replicate 32 (CV.int .u8 (.lit 0))
def hz:Hd:=⟨tC.set 53 (.bool false),[]⟩
def MC:aR tC dz:=by
 have e:tC=(aj 0 bJ).map (CV.ev (ba fun k=>if k=53 then -1 else 0)):=by kernel_rfl
 rw[e];exact RZ bJ 0 (AM ⟨aba _,aba _,aba _,aba _⟩)
def Ir:∀ v∈tC,v=.int .i64 0\/v=.int .u64 0\/v=.int .u8 0\/v=.bool false\/v=.slice none 0 0:=by
 intro v hv;simp only[tC,acg,aaW,afO,abd,acs]at hv;rcases hv with (((((((hv | hv) | hv) | hv) | hv) | hv) | hv) | hv)
 all_goals grind
def aaJ (R:Hl):br R tC hz:=by
 refine⟨MC,fun v hv=>?_,rfl,?_,by unfold hz;exact⟨aC,fun t h=>by cases h⟩⟩
 .rcases Ir v hv with rfl | rfl | rfl | rfl | rfl<;>simp [uJ,lN]
 .show bd R (tC.getD 53 (.bool false)) qm [];rw[show tC.getD 53 (.bool false)=.slice none 0 0 by kernel_rfl];exact(pF.nil R 0 qm).rd
def VZ:List Ck:=[.int .u64,i64]++fI++List.replicate 6 (.int .u64)++[.bool,.sl]++[i64,i64,.int .u64]
def bvT {q:Env} {n:Nat} {P:Prop} (h:Value.bool (aY q (.bvar n))=.bool true↔P):(q.b n=true)=P:=by
 rw[<-propext h,bn];simp
open Classical in
def M7 {f:FuncId} {R:Hl} {Hs K:List Hl} {q:Env} {n:Nat} (hx:br R row h) (hp:(fS f).post [.agg row.toArray] Hs [R] (.bool (aY q (.bvar n))) K F):(q.b n=true)=h.Form:=by
 have:=mE hx hp;exact bvT (by rw[this];simp)
structure OP (H:Hl) (x:Int) (bs:List Int) (m:Nat):Prop where
 out:aZ H (.pointer (au x 0)) bs false
 len:bs.length<=m
section
variable {q:Env} {n a m:Nat} {H R:Hl} {bs:List Int} {A:Env->Hl->Prop} {K:Env->Prop} {v:Value}
def qC {z:Int} (h:OP H (q.i a) bs m) (hm:m<=800000) (b:a<n) (hz:0<=z/\z<18446744073709551616) (k:∀ q',ai n q q'->OP (q'.h n) (q'.i a) (bs++aF z.toNat) (m+10)->K q') :
 nH.pre [.pointer (au (q.i a) 0),.int .u64 z] [H] []/\∀ q',ai n q q'->(∃ F,nH.post [.pointer (au (q.i a) 0),.int .u64 z] [H] [] v [q'.h n] F/\A q' F)->K q' :=
 ib h.out hz (acA h.len ah) fun q' g c=>k q' g ⟨by rw[g.i a b];exact c,by
  have:=h.len;have:=gx (z:=z.toNat) ah
  grind⟩
def VC {b:Bool} (h:OP H (q.i a) bs m) (hm:m<=800000) (c:a<n) (k:∀ q',ai n q q'->OP (q'.h n) (q'.i a) (bs++fR b) (m+1)->K q') :
 lu.pre [.pointer (au (q.i a) 0),.bool b] [H] []/\∀ q',ai n q q'->(∃ F,lu.post [.pointer (au (q.i a) 0),.bool b] [H] [] v [q'.h n] F/\A q' F)->K q' :=
 Gf h.out (acA h.len ah) fun q' g d=>k q' g ⟨by rw[g.i a c];exact d,by
  have:=h.len;rw[aaA];show _+1<=_;omega⟩
def OD {p v:Value} {H R:Hl} {K:List Hl} {bs b2:List Int} (h:aZ H p bs lg) (d:fE R u b2) (hp:lx.post [p,u] [H] [R] v K F):∃ H',K=[H']/\aZ H' p (gK bs lg b2).1 (gK bs lg b2).2:=by
 obtain⟨f,g,i,j,bs',lg',k,H',hx,a,b,l,hB,hK,m⟩:=hp;have hx:p=f/\u=g:=by simpa using hx
 obtain⟨e1,c⟩:=hx;have a:H=i:=by simpa using a
 have b:R=j:=by simpa using b
 subst e1 c a b;obtain⟨e1,c⟩:=h.uniq l;subst e1 c;have e:=d.uniq hB
 grind
def V6 {b2:List Int} {m2:Nat} (h:OP H (q.i a) bs m) (hm:m<=800000) (d:a<n) (b:fE R u b2) (f:b2.length<=m2) (j:m2<=4096) (k:∀ q',ai n q q'->OP (q'.h n) (q'.i a) (bs++aB b2) (m+10+m2)->K q') :
 lx.pre [.pointer (au (q.i a) 0),u] [H] [R]/\∀ q',ai n q q'->(∃ F,lx.post [.pointer (au (q.i a) 0),u] [H] [R] v [q'.h n] F/\A q' F)->K q':=by
 refine⟨⟨_,_,H,R,bs,false,b2,rfl,rfl,rfl,h.out,b,acA h.len hm,ah⟩,fun q' g ⟨F,hp,_⟩=>k q' g ?_⟩;obtain⟨H',hK,c⟩:=OD h.out b hp;have hK:q'.h n=H':=by simpa using hK
 have e:gK bs false b2=(bs++aB b2,false):=by unfold gK;grind
 rw[e,<-hK]at c;refine⟨by rw[g.i a d];exact c,?_⟩;have:=h.len;have:=gx (z:=b2.length) ah;unfold aB
 grind
end
def us (l:List Int):List Value:=l.map (Value.int .u64)
def ng (l:List Int):List Int:=(l.map fun z=>aF z.toNat).flatten
def SG (l:List Int):Prop:=∀ z∈l,0<=z/\z<18446744073709551616
def Y3 {a b:List Int} (h:us a=us b):a=b:=by
 have:=ach (List.map fun v=>bO (some v)) h;simpa [us,adv,agx,bO] using this
def qe:Sx.Spec where
 fn:=65
 own:=[.arg 0]
 rd:=[]
 res:=[]
 pre:=fun xs Hs Rs=>∃ p H bs vs,xs=[p,.agg (us vs).toArray]/\Hs=[H]/\aZ H p bs false/\vs.length=6/\SG vs/\bs.length<=700000
 post:=fun xs Hs Rs v Hs' F=>∃ p H bs vs H',xs=[p,.agg (us vs).toArray]/\Hs=[H]/\aZ H p bs false/\Hs'=[H']/\aZ H' p (bs++ng vs) false
noncomputable def Wu:List Sx.Spec:=[nH,rp,lu,lx,kO,bU 116]
def O5:∀ t∈Wu,t.OK Tryz.prog:=ak oY <| ak Bu <| ak sI <| ak xp <| ak mO <| ak qM <| bu
noncomputable def wq:aD Tryz.prog Wu 65 where
 Λ:=aA
 args:=[TP (.var 0) (.lit 0),.sv (.agg (aj 1 (List.replicate 6 (.int .u64))))]
 mem:=[.hp 7 [] [.var 0] []]
 nv:=8
def S9:nH.res=[]:=rfl
def ac8:lx.res=[]:=rfl
def ac9 (f:FuncId):(bU f).res=[.one .sl]:=rfl
def uH:qe.OK Tryz.prog:=by
 refine Spec.cM (Γ:=Wu) O5 ?_;rintro xs Hs Rs t g ⟨p,H,bs,vs,rfl,rfl,j,u,hu,hb⟩;have e1:Rs=[]:=aa1.1 g;subst e1
 match vs,u with
 | [v1,v2,b,v4,c,v6],_ =>
 obtain⟨a,_,_,rfl,_⟩:=id j.whole;have hv:∀ z∈[v1,v2,b,v4,c,v6],0<=z/\z<18446744073709551616:=hu;simp only[aaW,abd,acs,agj,ag2]at hv;obtain⟨v,w,x,y,A,B⟩:=hv;refine⟨wq,aM [(a:Int),v1,v2,b,v4,c,v6] false [Hl.none,Hl.none,Hl.none,Hl.none,Hl.none,Hl.none,Hl.none,H],fun _ _=>True,fun _ _=>0,?_,⟨?_,?_,?_,?_⟩,(fun _ h=>nomatch h),?_⟩
 .trivial
 .intro r hr ho;simp [wq]at hr;subst hr;exact⟨H,aC,Hl.le_refl _⟩
 .intro r hr ho;simp [wq]at hr;subst hr;cases ho
 .simp [wq]
 .intro r hr;simp [wq]at hr;subst hr;trivial
 .refine aD.read [] [] [] ?_;generalize d:aM [(a:Int),v1,v2,b,v4,c,v6] false [Hl.none,Hl.none,Hl.none,Hl.none,Hl.none,Hl.none,Hl.none,H]=J;obtain⟨⟨w0,w1,w2,C,D,E,w6,_⟩,_,_,_,_,_,_,_,w7,_⟩:=jn d;clear d;simp only[go_sem,Nat.reduceAdd,Wu,S9];intro l g0 _;have f:ai 8 J l:=g0;have F:OP H (l.i 0) bs 700000:=⟨by rw[f.i 0,w0,ft];exact j,hb⟩;rw[f.i 1,w1,f.h 7,w7];refine qC F ah ah v fun q1 G I=>?_;have m:ai 8 J q1:=f.tr G;rw[m.i 2,w2];refine qC I ah ah w fun q2 K L=>?_;have n:ai 8 J q2:=m.tr K;rw[n.i 3,C];refine qC L ah ah x fun M g3 N=>?_;have o:ai 8 J M:=n.tr g3;rw[o.i 4,D];refine qC N ah ah y fun O g4 P=>?_;have q:ai 8 J O:=o.tr g4;rw[q.i 5,E];refine qC P ah ah A fun Q R S=>?_;have s:ai 8 J Q:=q.tr R;rw[s.i 6,w6];refine qC S ah ah B fun k T U=>?_;have V:ai 8 J k:=s.tr T;intro _;refine⟨[[0]],[],rfl,rfl,⟨(ba fun _=>0),rfl,zzT⟩,_,H,bs,_,k.h 19,rfl,rfl,j,?_,?_⟩
  .show [bY [k.h 19]]=_;rw[aJ]
  .have:=U.out;rw[V.i 0,w0,ft]at this;have e:ng [v1,v2,b,v4,c,v6]=aF v1.toNat++(aF v2.toNat++(aF b.toNat++(aF v4.toNat++(aF c.toNat++(aF v6.toNat++[]))))):=rfl
   grind
open Classical in
noncomputable def Iw (p:Pc):List Int:=aB (bf p.h)++aB p.b
noncomputable def BG:Sx.Spec where
 fn:=64
 own:=[.arg 0]
 rd:=[1001053,1001125]
 res:=[]
 pre:=fun xs Hs Rs=>∃ p row H R1 R2 bs c,xs=[p,.agg row.toArray]/\Hs=[H]/\Rs=[R1,R2]/\aZ H p bs false/\cH R1 R2 row c/\c.b.length<=4096/\bs.length<=700000
 post:=fun xs Hs Rs v Hs' F=>∃ p row H R1 R2 bs c H',xs=[p,.agg row.toArray]/\Hs=[H]/\Rs=[R1,R2]/\aZ H p bs false/\cH R1 R2 row c/\Hs'=[H']/\aZ H' p (bs++Iw c) false
noncomputable def BH:aD Tryz.prog Wu 64 where
 Λ:=aA
 args:=[TP (.var 132) (.lit 0),.sv (.agg (aj 0 fI))]
 mem:=[.hp 133 [] [.var 132] [],.ro 134 [.var 53] false,.ro 135 [.var 128] false]
 nv:=136
def iZ {R:Hl} (x:br R row h):(bf h).length<=932:=by
 unfold bf;split
 .rename_i hf;have:=vu x hf.2.1;unfold fH;rw[aaA,bG];omega
 .simp
def NX:BG.OK Tryz.prog:=by
 refine Spec.cM (Γ:=Wu) O5 ?_;rintro xs Hs Rs y z ⟨p,row,H,R1,R2,bs,c,rfl,rfl,rfl,o,hx,q,hb⟩;obtain⟨a,_,_,rfl,_⟩:=id o.whole;obtain⟨b,rfl,hn,hh⟩:=lY [(133,H),(134,R1),(135,R2)] hx.ok;have d:=hx.hd;have m:=hx.body;rw[show((aj 0 fI).map (CV.ev b)).take 125=aG b 0 by kernel_rfl]at d;rw[show((aj 0 fI).map (CV.ev b)).getD 125 ou=.slice (au (b.i 128) (b.i 129)) (b.i 130).toNat (b.i 131).toNat by kernel_rfl]at m;obtain⟨J,f⟩:∃ J:Env,J=b.dw 132 a:=⟨_,rfl⟩;have g:ai 132 b J:=by rw[f];exact bI b 132 _ ah
 have s:J.h=b.h:=by rw[f];rfl
 have e:J.i 132=a:=by rw[f];simp [Env.dw]
 have j:J.h 133=H:=by rw[s];exact hh 133
 have k:J.h 134=R1:=by rw[s];exact hh 134
 have l:J.h 135=R2:=by rw[s];exact hh 135
 clear f;have A:(aj 0 fI).map (CV.ev J)=(aj 0 fI).map (CV.ev b):=my g (by rw[show aQ fI=132 by kernel_rfl];omega);rw[<-g.i 128,<-g.i 129,<-g.i 130,<-g.i 131]at m;rw[<-cy g.mono]at d;have B:=hx;rw[<-A]at hx ⊢;refine⟨BH,J,fun _ _=>True,fun _ _=>0,?_,⟨?_,?_,?_,?_⟩,(fun _ h=>nomatch h),?_⟩
 .show [Value.pointer (au (J.i 132) 0),_]=_;rw[e,ft];rfl
 .intro r hr ho;simp [BH]at hr;rcases hr with rfl | rfl | rfl
  .exact⟨H,aC,by show(J.h 133).le H;rw[j];exact Hl.le_refl _⟩
  .cases ho
  .cases ho
 .intro r hr ho;simp [BH]at hr;rcases hr with rfl | rfl | rfl
  .cases ho
  .exact⟨R1,aC,by show(J.h 134).le R1;rw[k];exact Hl.le_refl _⟩
  .exact⟨R2,aC,by show(J.h 135).le R2;rw[l];exact Hl.le_refl _⟩
 .simp [BH,bo.own]
 .intro r hr;simp [BH]at hr;rcases hr with rfl | rfl | rfl<;>trivial
 .refine aD.read [bJ] [] [] ?_;simp only[go_sem,Nat.reduceAdd,Wu,ac8,ac9,RC];intro x g0 _;have t:ai 136 J x:=g0;rw[show(aj 0 bJ).map (CV.ev x)=aG J 0 from cy t.mono,t.h 134,k];refine⟨⟨_,R1,c.h,rfl,rfl,d⟩,fun q1 C ⟨F,hp,D,E⟩=>?_⟩;have hB:=pI d hp;rw[<-D zzT]at hB;have u:ai 136 J q1:=t.tr C;have G:OP H (q1.i 132) bs 700000:=⟨by rw[u.i 132,e,ft];exact o,hb⟩;rw[u.h 133,j];refine V6 G ah ah hB.rd.w (iZ d) ah fun q2 I K=>?_;have n:ai 136 J q2:=u.tr I;rw[n.h 135,l,n.i 128,n.i 129,n.i 130,n.i 131];refine V6 K ah ah m q ah fun v g3 L=>?_;have M:ai 136 J v:=n.tr g3;intro _;refine⟨[[0]],[],rfl,rfl,⟨(ba fun _=>0),rfl,zzT⟩,_,_,H,R1,R2,bs,c,v.h 143,rfl,rfl,rfl,o,hx,?_,?_⟩
  .show [bY [v.h 143]]=_;rw[aJ]
  .have:=L.out;rw[M.i 132,e,ft,abS]at this;exact this
section
variable {q:Env} {n a m:Nat} {H R1 R2:Hl} {bs:List Int} {A:Env->Hl->Prop} {K:Env->Prop} {v:Value}
def acW:rp.res=[]:=rfl
def Zl:lu.res=[]:=rfl
def acX:kO.res=[.one .sl,.one (.int .i64)]:=rfl
def Zm:BG.res=[]:=rfl
def Wg:qe.res=[]:=rfl
def Fi (c:vs.length=6) (hu:SG vs):(ng vs).length<=60:=by
 match vs,c with
 | [v1,v2,a,v4,b,v6],_ =>
 have hv:∀ z∈[v1,v2,a,v4,b,v6],0<=z/\z<18446744073709551616:=hu;simp only[aaW,abd,acs,agj,ag2]at hv;obtain⟨d,f,g,h,i,j⟩:=hv;have e:ng [v1,v2,a,v4,b,v6]=aF v1.toNat++(aF v2.toNat++(aF a.toNat++(aF v4.toNat++(aF b.toNat++(aF v6.toNat++[]))))):=rfl;have a1:=gx (z:=v1.toNat) ah;have a2:=gx (z:=v2.toNat) ah;have a3:=gx (z:=a.toNat) ah;have a4:=gx (z:=v4.toNat) ah;have a5:=gx (z:=b.toNat) ah;have k:=gx (z:=v6.toNat) ah
 grind
def Y4 (h:OP H (q.i a) bs m) (hm:m<=700000) (f:a<n) (c:vs.length=6) (hu:SG vs) (k:∀ q',ai n q q'->OP (q'.h n) (q'.i a) (bs++ng vs) (m+60)->K q') :
 qe.pre [.pointer (au (q.i a) 0),.agg (us vs).toArray] [H] []/\∀ q',ai n q q'->(∃ F,qe.post [.pointer (au (q.i a) 0),.agg (us vs).toArray] [H] [] v [q'.h n] F/\A q' F)->K q':=by
 refine⟨⟨_,H,bs,vs,rfl,rfl,h.out,c,hu,acA h.len hm⟩,fun q' g ⟨F,⟨p,H1,bs',j,H',e1,d,l,e,b⟩,_⟩=>k q' g ?_⟩;simp only[aae,Value.agg.injEq,abw]at e1 d e;obtain⟨e1,o⟩:=e1;obtain rfl:=Y3 (ab1 o);subst e1 d;obtain⟨rfl,_⟩:=h.out.uniq l;refine⟨?_,?_⟩
 .rw[g.i a f,e];exact b
 .have:=h.len;have:=Fi c hu
  grind
def Uq {c:Pc} (hx:cH R1 R2 row c) (a:c.b.length<=4096):(Iw c).length<=5048:=by
 unfold Iw aB;have a1:=iZ hx.hd;have a2:=gx (z:=(bf c.h).length) ah;have a3:=gx (z:=c.b.length) ah
 grind
def pcP {c:Pc} (h:OP H (q.i a) bs m) (hm:m<=700000) (p:a<n) (hx:cH R1 R2 row c) (f:c.b.length<=4096) (k:∀ q',ai n q q'->OP (q'.h n) (q'.i a) (bs++Iw c) (m+5048)->K q') :
 BG.pre [.pointer (au (q.i a) 0),.agg row.toArray] [H] [R1,R2]/\∀ q',ai n q q'->(∃ F,BG.post [.pointer (au (q.i a) 0),.agg row.toArray] [H] [R1,R2] v [q'.h n] F/\A q' F)->K q':=by
 refine⟨⟨_,row,H,R1,R2,bs,c,rfl,rfl,rfl,h.out,hx,f,acA h.len hm⟩,fun q' g ⟨F,⟨w,row',H1,r,s,bs',c',H',e1,j,l,t,d,o,e⟩,_⟩=>k q' g ?_⟩;simp only[aae,Value.agg.injEq,abw]at e1 j l o;obtain⟨e1,u⟩:=e1;obtain rfl:=ab1 u;obtain⟨rfl,rfl⟩:=l;subst e1 j;obtain⟨rfl,_⟩:=h.out.uniq t;obtain rfl:=hx.uniq d;refine⟨?_,?_⟩
 .rw[g.i a p,o];exact e
 .have:=h.len;have:=Uq hx f
  grind
def OP.to {n:Nat} (h:OP H (q.i a) bs m) (g:ai n q q') (b:a<n):OP H (q'.i a) bs m:=⟨by rw[g.i a b];exact h.out,h.len⟩
def OP.upto {x:Int} (h:OP H x bs m) (hm:m<=m'):OP H x bs m':=⟨h.out,acA h.len hm⟩
def OP.new {a:Nat} (h:0<=q.i a):OP (Hl.one (q.i a).toNat (.cells #[.slice none 0 0,.bool false] 124 (0,0))) (q.i a) [] 0:=⟨by rw[av h];exact aZ.new _,ab8 _⟩
end
def Eb {p v n:Value} {R:Hl} {bs:List Int} {K:List Hl} (h:aZ R p bs lg) (hp:kO.post [p] [] [R] (.tuple #[v,n]) K F):c9 F 5 v (lj bs lg).1/\n=.int .i64 (lj bs lg).2:=by
 obtain⟨c,R',bs',lg',u,e1,a,b,hv,hw⟩:=hp;simp only[aae,abw]at e1 a;subst e1 a;obtain⟨e1,a⟩:=h.uniq b
 grind
structure BP (A:Hl) (x y l c:Int) (bs:List Int) (m:Nat):Prop where
 own:c9 A 5 (.slice (au x y) l.toNat c.toNat) bs
 l:l=bs.length
 rx:-1<=x
 ry:0<=y
 rc:0<=c
 len:bs.length<=m
def BP.rd {A:Hl} {x y l c:Int} {bs:List Int} {m:Nat} (h:BP A x y l c bs m):pz A (.slice (au x y) l.toNat c.toNat) bs:=h.own.rd
section
variable {q:Env} {n:Nat} {A S:Hl} {x y l c sx sy sl sc:Int} {B b2:List Int} {m m2:Nat} {D:Env->Prop} {K:Env->Prop}
end
section
variable {q:Env} {n:Nat} {A S:Hl} {sx sy sl sc:Int} {b2:List Int} {m2:Nat} {K:Env->Prop}
end
section
variable {q:Env} {n:Nat} {K:Env->Prop} {R1 R2:Hl}
end
def ad3 {R:Hl} (hx:br R row h) (a:h.Form):(cI (fy (fH h)).c 0=cI h.c 0/\cI (fy (fH h)).c 1=cI h.c 1/\cI (fy (fH h)).c 34=cI h.c 34/\cB (fy (fH h)).c 35=cB h.c 35/\cI (fy (fH h)).c 36=cI h.c 36/\cI (fy (fH h)).c 54=cI h.c 54/\cI (fy (fH h)).c 55=cI h.c 55/\cI (fy (fH h)).c 56=cI h.c 56/\cI (fy (fH h)).c 57=cI h.c 57/\cI (fy (fH h)).c 58=cI h.c 58/\cI (fy (fH h)).c 59=cI h.c 59/\cI (fy (fH h)).c 92=cI h.c 92)/\(aW (fy (fH h)).c 2 32=aW h.c 2 32/\aW (fy (fH h)).c 37 16=aW h.c 37 16/\aW (fy (fH h)).c 60 32=aW h.c 60 32/\aW (fy (fH h)).c 93 32=aW h.c 93 32)/\(fy (fH h)).t=h.t:=(VM hx a).2
def Ma:∀ {a b:List Value} {ks:List Kd},aR a ks->aR b ks->(∀ k∈ks,(∃ i,k=.int i)\/k=.bool)->(∀ k,cI a k=cI b k)->(∀ k,cB a k=cB b k)->a=b
 | [],[],[],_,_,_,_,_=>rfl
 | x::a,y::b,k::ks,c,hb,hk,h1,d=>by
  have e:a=b:=Ma c.2 hb.2 (fun k h=>hk k (abq _ h)) (fun k=>h1 (k+1)) (fun k=>d (k+1));have i0:=h1 0;have b0:=d 0;have hx:=c.1;have hy:=hb.1;rw[e]
  congr 1
  rcases hk k (acj ..)with ⟨i,rfl⟩ | rfl
  .cases x<;>simp [bh]at hx
   cases y<;>simp [bh]at hy
   subst hx;subst hy;simp [cI,bO]at i0;rw[i0]
  .cases x<;>simp [bh]at hx
   cases y<;>simp [bh]at hy
   simp [cB,yX]at b0;rw[b0]
 | [],_::_,[],_,hb,_,_,_=>False.elim hb
 | _::_,_,[],c,_,_,_,_=>False.elim c
 | [],_,_::_,c,_,_,_,_=>False.elim c
 | _::_,[],_::_,_,hb,_,_,_=>False.elim hb
def uM:∀ {l:List Value} {ks:List Kd} {n:Nat} {v:Value} {k:Kd},aR l ks->bh (some v) k=true->aR (l.set n v) (ks.set n k)
 | [],[],_,_,_,_,_=>trivial
 | _::_,_::_,0,_,_,h,hv=>⟨hv,h.2⟩
 | _::_,_::_,n+1,_,_,h,hv=>⟨h.1,uM (n:=n) h.2 hv⟩
 | [],_::_,_,_,_,h,_=>False.elim h
 | _::_,[],_,_,_,h,_=>False.elim h
def E1 {a b:List Value} {i n:Nat} (h:aW a i n=aW b i n):∀ j,j<n->cI a (i+j)=cI b (i+j):=by
 intro j c;have:=ach (fun l=>l[j]?) h;unfold aW at this;simpa [abl,acf c] using this
def iV:∀ {l:List Value} {ks:List Kd},aR l ks->l.length=ks.length
 | [],[],_=>rfl
 | _::_,_::_,h=>by rw[acn,acn,iV h.2]
 | [],_::_,h=>False.elim h
 | _::_,[],h=>False.elim h
def wA {l:List Value} {ks:List Kd} (h:aR l ks) (hk:ks[k]?=some .bool):cI l k=0:=by
 obtain⟨v,hv,hi⟩:=fv h hk;unfold cI;rw[hv];cases v<;>simp [bh]at hi
 rfl
def HH {l:List Value} {ks:List Kd} (h:aR l ks) {i:IntKind} (hk:ks[k]?=some (.int i)):cB l k=false:=by
 obtain⟨v,hv,hi⟩:=fv h hk;unfold cB;rw[hv];cases v<;>simp [bh]at hi
 rfl
def Qn:List Kd:=dz.set 53 .bool
def Nf:∀ k,k<125->k≠35->k≠53->∃ i,Qn[k]?=some (.int i):=by
 have h:((List.range 125).all fun k=>k==35||k==53||(match Qn[k]? with | some (.int _)=>true | _=>false))=true:=by kernel_rfl
 intro k hk h1 a;have:=acd.1 h k (acv.2 hk);simp only[aeM,af4]at this;rcases this with (e | e) | e
 .exact absurd e h1
 .exact absurd e a
 .split at e
  .rename_i i he;exact⟨i,he⟩
  .cases e
def TX:∀ k∈Qn,(∃ i,k=.int i)\/k=.bool:=by
 have h:(Qn.all fun k=>match k with | .int _=>true | .bool=>true | _=>false)=true:=by kernel_rfl
 intro k hk;have:=acd.1 h k hk;cases k<;>simp at this
 .exact Or.inl ⟨_,rfl⟩
 .exact Or.inr rfl
def Ri {R:Hl} (hx:br R row h) (A:h.Form):fy (fH h)=h:=by
 obtain⟨⟨C,q1,g,j,l,m,o,p,q,r,s,w⟩,⟨D,E,g3,g4⟩,F⟩:=ad3 hx A;have a:Qn[35]?=some .bool:=by kernel_rfl
 have b:Qn[53]?=some .bool:=by kernel_rfl
 have o1:aR (fy (fH h)).c Qn:=by
  have:=uM (n:=53) (v:=.bool false) (k:=.bool) (Gn (fH h) (u:=.slice none 0 0) rfl) rfl;obtain⟨L,B,hl,e⟩:=AI (fH h);rw[e,afV _ _ ah,hl]at this;show aR (fF (fH h) (.bool false)) Qn;rw[e];exact this
 have o2:aR h.c Qn:=by
  rw[hx.core];exact uM hx.ok rfl
 have G:(fy (fH h)).c=h.c:=by
  refine Ma o1 o2 TX (fun k=>?_) (fun k=>?_)
  .by_cases hk:k<125
   .have s1:=E1 D;have s2:=E1 E;have H:=E1 g3;have I:=E1 g4;have:k=0\/k=1\/(2<=k/\k<34)\/k=34\/k=35\/k=36\/(37<=k/\k<53)\/k=53\/k=54\/k=55\/k=56\/k=57\/k=58\/k=59\/(60<=k/\k<92)\/k=92\/(93<=k/\k<125):=ah;rcases this with e | e | e | e | e | e | e | e | e | e | e | e | e | e | e | e | e
    .rw[e];exact C
    .rw[e];exact q1
    .have:=s1 (k-2) ah;rwa[show 2+(k-2)=k by omega]at this
    .rw[e];exact g
    .rw[e,wA o1 a,wA o2 a]
    .rw[e];exact l
    .have:=s2 (k-37) ah;rwa[show 37+(k-37)=k by omega]at this
    .rw[e,wA o1 b,wA o2 b]
    .rw[e];exact m
    .rw[e];exact o
    .rw[e];exact p
    .rw[e];exact q
    .rw[e];exact r
    .rw[e];exact s
    .have:=H (k-60) ah;rwa[show 60+(k-60)=k by omega]at this
    .rw[e];exact w
    .have:=I (k-93) ah;rwa[show 93+(k-93)=k by omega]at this
   .have hl:Qn.length=125:=by kernel_rfl
    have J:=iV o1;have K:=iV o2;unfold cI;rw[abA ah,abA ah]
  .by_cases hk:k<125
   .by_cases d:k=35
    .rw[d];exact j
    .by_cases f:k=53
     .rw[f,hx.core];have hl:row.length=125:=by rw[iV hx.ok];kernel_rfl
      obtain⟨L,B,x,e⟩:=AI (fH h);show cB (fF (fH h) (.bool false)) 53=_;unfold cB;rw[e,abO ah,x,aen ah];rfl
     .obtain⟨i,hi⟩:=Nf k hk d f;rw[HH o1 hi,HH o2 hi]
   .have hl:Qn.length=125:=by kernel_rfl
    have J:=iV o1;have K:=iV o2;unfold cB;rw[abA ah,abA ah]
 cases h with
 | mk c t =>
  have e1:(fy (fH ⟨c,t⟩)).c=c:=G;have y:(fy (fH ⟨c,t⟩)).t=t:=F;generalize fy (fH ⟨c,t⟩)=z at e1 y;cases z;simp only at e1 y;rw[e1,y]
def Xv {R:Hl} (hx:br R row h) (c:h.Form) (a:br R' row' h') (b:h'.Form) (e:fH h=fH h'):h=h':=by
 rw[<-Ri hx c,<-Ri a b,e]
end Go.Proofs.YtbdikjnpbnobcaaGreatDoor
