/- Bytes that are no request are told nothing and change nothing: a part of the proof. No condition. -/
import Derived.Test.YtbdikjnpbnobcaaGreatDoorTH
set_option linter.all false
set_option maxHeartbeats 4000000
namespace Go.Proofs.YtbdikjnpbnobcaaGreatDoor
open Go Go.Sx Go.Pk
variable {b lg:Bool}{q q':Env}{A:Env->Hl->Prop}{D K:Env->Prop}{f:FuncId}{h:Hd}{B F G H R RA RG:Hl}{c x y z:Int}{T:List (List Int)}{Hs Rs:List Hl}{b2 bs bs2:List Int}{row vs xs:List Value}{mem:Mem}{a k m n o:Nat}{s:Sx.Spec}{p u v:Value}
def aw (l:List Value) (a n:Nat):List Int:=(List.range n).map fun j=>cI l (a+j)
def cu (z:Int):Nat:=(IntKind.u64.wrap z).toNat
def bE (b:Bool):List Int:=[if b=true then 1 else 0]
def bQ (l:List Value) (n:Nat):List Int:=aq (cu (cI l 0))++aq (cI l 1).toNat++aw l 2 32++aq (cu (cI l 34))++bE (cB l 35)++aq (cI l 36).toNat++aw l 37 16++aq n
def gP (l:List Value) (bs:List Int):List Int:=bs++aq (cI l 54).toNat++aq (cI l 55).toNat++aq (cI l 56).toNat++aq (cI l 57).toNat++aq (cI l 58).toNat++aq (cI l 59).toNat++aw l 60 32++aq (cu (cI l 92))
def fU (h:Hd):List Int:=gP h.c (bQ h.c h.t.length++h.t.flatten)
def iY (z:Int):cu z<18446744073709551616:=by
 unfold cu;rw[IntKind.wrap_u64];omega
def u64_in (z:Int):0<=IntKind.u64.wrap z/\IntKind.u64.wrap z<18446744073709551616:=by
 rw[IntKind.wrap_u64];omega
def cR:∀ {row:List Value} {ks:List Kd} {k:Nat} {kd:Kd},rowOK row ks->ks[k]?=some kd->∃ v,row[k]?=some v/\valIs (some v) kd=true
 | [],[],k,kd,_,h=>by simp at h
 | v::l,a::m,0,kd,h,e=>⟨v,rfl,by rw[NG,MP]at e;subst e;exact h.1⟩
 | v::l,a::m,k+1,kd,h,e=>by
  rw[NC]at e ⊢;exact cR h.2 e
def Ga (h:rowOK row cj) (hk:cj[k]?=some (.int .u8)):row[k]?=some (.int .u8 (cI row k)):=by
 obtain⟨v,hv,hi⟩:=cR h hk;unfold cI;rw[hv];cases v<;>simp [valIs]at hi
 subst hi;rfl
def mE (h:rowOK row cj) (hk:cj[k]?=some (.int .u64)):row[k]?=some (.int .u64 (cI row k)):=by
 obtain⟨v,hv,hi⟩:=cR h hk;unfold cI;rw[hv];cases v<;>simp [valIs]at hi
 subst hi;rfl
def Fj:∀ j,j<32->cj[2+j]?=some (.int .u8):=by decide
def Fi:∀ j,j<16->cj[37+j]?=some (.int .u8):=by decide
def H7:∀ j,j<32->cj[60+j]?=some (.int .u8):=by decide
def aC (l:List Value) (a n:Nat):(aw l a n).length=n:=by unfold aw;simp
def C7 (h:rowOK row cj) (hk:∀ j,j<n->cj[a+j]?=some (.int .u8)):∀ j z,(aw row a n)[j]?=some z->row[a+j]?=some (.int .u8 z):=by
 intro j z hz;have b:j<n:=by have:=(MK.1 hz).1;rwa[aC]at this
 unfold aw at hz;rw[MU,Nf b,Nl,MP]at hz;subst hz;exact Ga h (hk j b)
def qC (h0:0<=q.i a) (hr:rowOK (av q 0) cj) (hk:∀ j,j<n->cj[o+j]?=some (.int .u8)):RdB ((Res.blk a (ckCVs 0 aI) 38).hl q) (.slice (slP (q.i a) (o:Int)) ((n:Int)).toNat ((n:Int)).toNat) (aw (av q 0) o n) :=
 mz h0 (C7 hr hk) (aC _ _ _).symm
def ck (h:ax H p bs lg) (hz:0<=z/\z<18446744073709551616) (hl:bs.length<=900000) (k:∀ q',Agree n q q'->ax (q'.h n) p (bs++aq z.toNat) lg->K q') :
 gh.pre [p,.int .u64 z] [H] []/\∀ q',Agree n q q'->(∃ F,gh.post [p,.int .u64 z] [H] [] v [q'.h n] F/\A q' F)->K q':=by
 refine⟨⟨_,_,H,bs,lg,rfl,rfl,h,⟨z,rfl,hz⟩,hl⟩,fun q' g ⟨F,hp,_⟩=>k q' g ?_⟩;obtain⟨H',hK,a⟩:=qm h hp;have hK:q'.h n=H':=by simpa using hK
 rw[hK];exact a
def rz (h:ax H p bs lg) (hl:bs.length<=900000) (k:∀ q',Agree n q q'->ax (q'.h n) p (bs++bE b) lg->K q') :
 fx.pre [p,.bool b] [H] []/\∀ q',Agree n q q'->(∃ F,fx.post [p,.bool b] [H] [] v [q'.h n] F/\A q' F)->K q':=by
 refine⟨⟨_,_,H,bs,lg,rfl,rfl,h,⟨b,rfl⟩,hl⟩,fun q' g ⟨F,hp,_⟩=>k q' g ?_⟩;obtain⟨H',hK,a⟩:=qm h hp;have hK:q'.h n=H':=by simpa using hK
 rw[hK];exact a
def my (h:ax H p bs lg) (h2:RdW R u b2) (hl:bs.length<=900000) (a:b2.length<=90000) (k:∀ q',Agree n q q'->ax (q'.h n) p (bs++b2) lg->K q') :
 jh.pre [p,u] [H] [R]/\∀ q',Agree n q q'->(∃ F,jh.post [p,u] [H] [R] v [q'.h n] F/\A q' F)->K q':=by
 refine⟨⟨_,_,H,R,bs,lg,b2,rfl,rfl,rfl,h,h2,hl,a⟩,fun q' g ⟨F,hp,_⟩=>k q' g ?_⟩;obtain⟨H',hK,b⟩:=sE h h2 hp;have hK:q'.h n=H':=by simpa using hK
 rw[hK];exact b
def tF:∀ {T:List (List Int)},(∀ t∈T,t.length=16)->T.flatten.length=T.length*16
 | [],_=>rfl
 | t::T,h=>by
  rw[Oz,MJ,h t (Nh ..),tF (fun u hu=>h u (MW _ hu)),Nk];omega
def jz {a b:Int} (hx:0<=x) (hy:0<=y) (hb:0<=b) (h:slP a b=slP x y):a=x/\b=y:=by
 rcases NU a 0 with c | c
 .exfalso;rw[slP_pos hx]at h;unfold slP at h;rw[MM ae]at h;split at h
  .cases h
  .simp only[MP,Addr.mk.injEq]at h;obtain⟨_,_,h⟩:=h;cases h
 .rw[slP_pos c,slP_pos hx]at h;simp only[MP,Addr.mk.injEq]at h;omega
def cq {z:Nat} (h:z<18446744073709551616):(aq z).length<=10:=iN h
noncomputable def coreS (f:FuncId):Sx.Spec where
 fn:=f
 own:=[]
 rd:=[10053]
 res:=[.one .sl]
 pre:=fun xs Hs Rs=>∃ row R h,xs=[.agg row.toArray]/\Rs=[R]/\aG R row h/\h.t.length<=8
 post:=fun xs Hs Rs v Hs' F=>∃ row R h,xs=[.agg row.toArray]/\Rs=[R]/\aG R row h/\OwB F 5 v (fU h)
def Jg:List Sx.Spec:=[gh,jh,fx,fw]
def EW:∀ t∈Jg,t.OK Tryz.prog:=ai il <| ai nB <| ai kN <| ai gb <| aD
def L5:gh.res=[]:=rfl
def L6:jh.res=[]:=rfl
def L7:fx.res=[]:=rfl
def Hu:fw.res=[.one .sl,.one (.int .i64)]:=rfl
def mT:Walk Tryz.prog Jg 161 where
 Λ:=fun p=>if decide (p.length=14)&&!(p.head?==some 99)then some ⟨0,[(41,TI .i64 (.var 201))],[(2,.hp 202 [] [.var 132] [])],210⟩else none
 args:=(cpSVs 0 [.agg aI]).map .sv
 mem:=[.ro 130 [.var 53] false]
 nv:=131
def zo {n:Value} {K:List Hl} (h:ax R p bs lg) (hp:fw.post [p] [] [R] (.tuple #[v,n]) K F):OwB F 5 v (fk bs lg).1:=by
 obtain⟨c,R',bs',lg',u,e1,a,b,hv,hw⟩:=hp;simp only[MH,MZ]at e1 a;subst e1 a;obtain⟨e1,a⟩:=h.uniq b;subst e1 a;simp only[Value.tuple.injEq,Nc,MH,MZ]at hv;rw[hv.1];exact hw
def zl (x:aG R row h):fU h=gP row (bQ row h.t.length++h.t.flatten):=by
 have hs:∀ a n,(∀ j,j<n->a+j≠53)->aw h.c a n=aw row a n:=fun a n d=>NL fun j b=>x.I (d j (Nn.1 b));unfold fU gP bQ;rw[hs 2 32 (fun j b=>ae),hs 37 16 (fun j b=>ae),hs 60 32 (fun j b=>ae),x.I (k:=0) aj,x.I (k:=1) aj,x.I (k:=34) aj,x.B (k:=35) aj,x.I (k:=36) aj,x.I (k:=54) aj,x.I (k:=55) aj,x.I (k:=56) aj,x.I (k:=57) aj,x.I (k:=58) aj,x.I (k:=59) aj,x.I (k:=92) aj]
def xm:(coreS 161).OK Tryz.prog:=by
 refine Spec.of_fn (Γ:=Jg) EW ?_;rintro xs Hs Rs aZ bA ⟨row,R,h,rfl,rfl,hx,h8⟩;have e0:Hs=[]:=MF.1 aZ;subst e0;obtain⟨J,rfl,m,bB,a0,a1,bC⟩:=jL (R:=R) hx.ok;refine⟨mT,J,fun _ q=>∃ i:Nat,q.i 201=i/\i<=h.t.length/\ax (q.h 202) (.pointer (slP (q.i 132) 0)) (bQ (av J 0) h.t.length++(h.t.take i).flatten) false,fun _ q=>(h.t.length-q.i 201).toNat,rfl,⟨?_,?_,?_,?_⟩,(fun _ h=>nomatch h),?_⟩
 .intro r hr ho;simp [mT]at hr;subst hr;cases ho
 .intro r hr ho;simp [mT]at hr;subst hr;exact⟨R,ar,by show(J.h 130).le R;rw[m];exact Hl.le_refl _⟩
 .simp [mT]
 .intro r hr;simp [mT]at hr;subst hr;trivial
 .refine Walk.read [aI] [] [] ?_;simp only[go_sem,Nat.reduceAdd,Jg,L5,L6,L7,Hu];intro q1 B p1 q2 g2 p2;have d:=hx.rng;have r1:0<=J.i 1/\J.i 1<18446744073709551616:=d (.int .u64 (J.i 1)) (MG (i:=1) rfl);have a2:0<=J.i 36/\J.i 36<18446744073709551616:=d (.int .u64 (J.i 36)) (MG (i:=36) rfl);have a3:0<=J.i 57/\J.i 57<18446744073709551616:=d (.int .u64 (J.i 57)) (MG (i:=54) rfl);have a4:0<=J.i 58/\J.i 58<18446744073709551616:=d (.int .u64 (J.i 58)) (MG (i:=55) rfl);have a5:0<=J.i 59/\J.i 59<18446744073709551616:=d (.int .u64 (J.i 59)) (MG (i:=56) rfl);have a6:0<=J.i 60/\J.i 60<18446744073709551616:=d (.int .u64 (J.i 60)) (MG (i:=57) rfl);have a7:0<=J.i 61/\J.i 61<18446744073709551616:=d (.int .u64 (J.i 61)) (MG (i:=58) rfl);have a8:0<=J.i 62/\J.i 62<18446744073709551616:=d (.int .u64 (J.i 62)) (MG (i:=59) rfl);have hlen:(J.i 55).toNat=h.t.length:=um hx.tok;have G2:Agree 131 J q2:=B.tr g2;have P2:0<=q2.i 131:=by rw[g2.i 131];exact p1
  have h2:ax (Hl.one (q2.i 132).toNat (Obj.cells #[Value.slice (slP (-1) 0) (Int.toNat 0) (Int.toNat 0),Value.bool (bev q2 E.ff)] 124 (0,0))) (Value.pointer (slP (q2.i 132) 0)) [] false:=by rw[slP_pos p2];exact ax.new _
  have l2:([]:List Int).length<=0:=M1 0;rw[G2.i 0];refine ck h2 (u64_in _) ae fun q3 g3 h3=>?_;have G3:Agree 131 J q3:=G2.tr g3;have P3:0<=q3.i 131:=by rw[g3.i 131];exact P2
  rw[<-g3.i 132]at h3;have h3:ax (q3.h _) (.pointer (slP (q3.i 132) 0)) (aq (cu (J.i 0))) false:=h3;have b3:(aq (cu (J.i 0))).length<=10:=cq (iY _);have l3:=NV l2 b3;have l3:=b3;rw[G3.i 1];refine ck h3 r1 ae fun q4 g4 h4=>?_;have G4:Agree 131 J q4:=G3.tr g4;have P4:0<=q4.i 131:=by rw[g4.i 131];exact P3
  rw[<-g4.i 132]at h4;have h4:ax (q4.h _) (.pointer (slP (q4.i 132) 0)) (aq (cu (J.i 0))++aq (J.i 1).toNat) false:=h4;have b4:(aq (J.i 1).toNat).length<=10:=cq (z:=(J.i 1).toNat) ae;have l4:=NV l3 b4;rw[<-MJ]at l4;have aE:=qC (n:=32) P4 (by rw[bf G4.mono];exact hx.ok) Fj;rw[bf G4.mono]at aE;refine my h4 aE.w ae (by rw[aC];omega) fun q5 g5 h5=>?_;have G5:Agree 131 J q5:=G4.tr g5;have P5:0<=q5.i 131:=by rw[g5.i 131];exact P4
  rw[<-g5.i 132]at h5;have h5:ax (q5.h _) (.pointer (slP (q5.i 132) 0)) (aq (cu (J.i 0))++aq (J.i 1).toNat++aw (av J 0) 2 32) false:=h5;have b5:(aw (av J 0) 2 32).length<=32:=Ql (aC _ _ _);have l5:=NV l4 b5;rw[<-MJ]at l5;rw[G5.i 34];refine ck h5 (u64_in _) ae fun q6 g6 h6=>?_;have G6:Agree 131 J q6:=G5.tr g6;have P6:0<=q6.i 131:=by rw[g6.i 131];exact P5
  rw[<-g6.i 132]at h6;have h6:ax (q6.h _) (.pointer (slP (q6.i 132) 0)) (aq (cu (J.i 0))++aq (J.i 1).toNat++aw (av J 0) 2 32++aq (cu (J.i 34))) false:=h6;have b6:(aq (cu (J.i 34))).length<=10:=cq (iY _);have l6:=NV l5 b6;rw[<-MJ]at l6;rw[bev_bvar,G6.b 35];refine rz h6 ae fun q7 g7 h7=>?_;have G7:Agree 131 J q7:=G6.tr g7;have P7:0<=q7.i 131:=by rw[g7.i 131];exact P6
  rw[<-g7.i 132]at h7;have h7:ax (q7.h _) (.pointer (slP (q7.i 132) 0)) (aq (cu (J.i 0))++aq (J.i 1).toNat++aw (av J 0) 2 32++aq (cu (J.i 34))++bE (J.b 35)) false:=h7;have b7:(bE (J.b 35)).length<=1:=M1 1;have l7:=NV l6 b7;rw[<-MJ]at l7;rw[G7.i 36];refine ck h7 a2 ae fun q8 g8 h8=>?_;have G8:Agree 131 J q8:=G7.tr g8;have P8:0<=q8.i 131:=by rw[g8.i 131];exact P7
  rw[<-g8.i 132]at h8;have h8:ax (q8.h _) (.pointer (slP (q8.i 132) 0)) (aq (cu (J.i 0))++aq (J.i 1).toNat++aw (av J 0) 2 32++aq (cu (J.i 34))++bE (J.b 35)++aq (J.i 36).toNat) false:=h8;have b8:(aq (J.i 36).toNat).length<=10:=cq (z:=(J.i 36).toNat) ae;have l8:=NV l7 b8;rw[<-MJ]at l8;have aF:=qC (n:=16) P8 (by rw[bf G8.mono];exact hx.ok) Fi;rw[bf G8.mono]at aF;refine my h8 aF.w ae (by rw[aC];omega) fun q9 g9 h9=>?_;have G9:Agree 131 J q9:=G8.tr g9;have P9:0<=q9.i 131:=by rw[g9.i 131];exact P8
  rw[<-g9.i 132]at h9;have h9:ax (q9.h _) (.pointer (slP (q9.i 132) 0)) (aq (cu (J.i 0))++aq (J.i 1).toNat++aw (av J 0) 2 32++aq (cu (J.i 34))++bE (J.b 35)++aq (J.i 36).toNat++aw (av J 0) 37 16) false:=h9;have b9:(aw (av J 0) 37 16).length<=16:=Ql (aC _ _ _);have l9:=NV l8 b9;rw[<-MJ]at l9;rw[G9.i 55];refine⟨a1,?_⟩;have ew:IntKind.u64.wrap (J.i 55)=h.t.length:=by rw[iG ae ae];omega
  rw[ew];refine ck h9 ae ae fun f ad p=>?_;rw[MD]at p;have a9:Agree 131 J f:=G9.tr ad;have ba:0<=f.i 131:=by rw[ad.i 131];exact P9
  rw[<-ad.i 132]at p;have p:ax (f.h _) (.pointer (slP (f.i 132) 0)) (aq (cu (J.i 0))++aq (J.i 1).toNat++aw (av J 0) 2 32++aq (cu (J.i 34))++bE (J.b 35)++aq (J.i 36).toNat++aw (av J 0) 37 16++aq h.t.length) false:=p;have b10:(aq h.t.length).length<=10:=cq (z:=h.t.length) ae;have af:=NV l9 b10;rw[<-MJ]at af;have hA:ax (f.h 147) (.pointer (slP (f.i 132) 0)) (bQ (av J 0) h.t.length) false:=p;have lA:(bQ (av J 0) h.t.length).length<=99:=af;refine⟨⟨0,rfl,NO _,?_⟩,fun q g ⟨i,ei,hi,A⟩=>?_⟩
  .show ax (f.h 147) (.pointer (slP (f.i 132) 0)) (bQ (av J 0) h.t.length++(h.t.take 0).flatten) false;rw[OH,Pp,Nu];exact hA
  have G:Agree 131 J q:=a9.tr g;have P:0<=q.i 131:=by rw[g.i 131];exact ba
  have aG:∀ t∈h.t,t.length=16:=fun t ht=>(hx.byte.2 t ht).1;have lF:∀ i,i<=h.t.length->((h.t.take i).flatten).length<=128:=fun i hi=>by
   rw[tF (fun t ht=>aG t (Ov ht)),M3];omega
  rw[G.i 55,ei];refine⟨fun bD=>?_,fun bF=>?_⟩
  .have ag:i<h.t.length:=ae;obtain⟨x,y,c,eS,hy,ah⟩:=id hx.tok;have eS:Value.slice (slP (J.i 53) (J.i 54)) (J.i 55).toNat (J.i 56).toNat=.slice (slP x y) (h.t.map bys).length c:=eS;rcases ah with hn | ⟨C,hc⟩
   .rw[N9]at hn;rw[hn]at ag;cases ag
   simp only[Value.slice.injEq]at eS;obtain⟨s,u⟩:=jz C hy a0 eS.1;have ht:=ME ag;have m1:=hx.byte.2 _ (MG ht);obtain⟨b1,r1⟩:=jC (J:=q) (h:=130) (X:=.var 53) (Y:=(E.var 54).add ((E.var 201).mul (E.lit 16))) C hy hc ht m1.1 (by rw[G.h 130,m]) (by rw[iev_var,G.i 53,s]) (by
    simp only[iev_add,iev_mul,iev_var,iev_lit];rw[G.i 54,u,ei])
   rw[G.i 53,G.i 54,G.h 130,m,s,u];refine⟨C,hy,ae,b1,fun q1 B aH=>?_⟩;have bb:(romCells 130 (E.var 53) ((E.var 54).add ((E.var 201).mul (E.lit 16))) 0 (List.replicate 16 (Kd.int .u8))).map (CV.ev q1)=bys h.t[i]:=by
    have:=jC (J:=q1) (h:=130) (X:=.var 53) (Y:=(E.var 54).add ((E.var 201).mul (E.lit 16))) C hy hc ht m1.1 (by rw[B.h 130,G.h 130,m]) (by rw[iev_var,B.i 53,G.i 53,s]) (by
     simp only[iev_add,iev_mul,iev_var,iev_lit];rw[B.i 54,B.i 201,G.i 54,u,ei])
    exact this.2
   have bc:=mz (q:=q1) (T:=34) (l:=h.t[i]) (a:=210) (o:=0) (n:=16) (c:=16) aH (cs:=romCells 130 (E.var 53) ((E.var 54).add ((E.var 201).mul (E.lit 16))) 0 (List.replicate 16 (Kd.int .u8))) (by
    intro j z hz;rw[bb,Nw];unfold bys;rw[MU,hz];rfl) m1.1.symm
   rw[<-B.i 132,<-B.h 202]at A;have:=lF i hi;refine my A bc.w (by rw[MJ];omega) ae fun q2 g2 h2=>?_;rw[<-g2.i 132]at h2;have ew:IntKind.i64.wrap (q2.i 201+1)=((i+1:Nat):Int):=by rw[g2.i 201,B.i 201,ei,IntWalk.i64_in _ ae];omega
   refine⟨⟨i+1,ew,ae,?_⟩,?_⟩
   .show ax (q2.h 211) (.pointer (slP (q2.i 132) 0)) _ false;rw[Oh,ht,OT,O8,Oz,Pp,Nu,<-MY];exact h2
   .show((h.t.length:Int)-IntKind.i64.wrap (q2.i 201+1)).toNat<_;rw[ew];omega
  have bd:i=h.t.length:=ae;rw[bd,NZ]at A;have lF:=lF h.t.length (M1 _);rw[NZ]at lF;have aJ:=NV lA lF;rw[<-MJ]at aJ;have bg:=A;have aK:=G;have bh:=P;clear A G P hA lA h2 l2 h3 l3 h4 l4 h5 l5 h6 l6 h7 l7 h8 l8 h9 l9 p af;rw[aK.i 57];refine ck bg a3 ae fun D ai H=>?_;have aL:Agree 131 J D:=aK.tr ai;have bj:0<=D.i 131:=by rw[ai.i 131];exact bh
  rw[<-ai.i 132]at H;have H:ax (D.h _) (.pointer (slP (D.i 132) 0)) (bQ (av J 0) h.t.length++h.t.flatten++aq (J.i 57).toNat) false:=H;have bk:(aq (J.i 57).toNat).length<=10:=cq (z:=(J.i 57).toNat) ae;have aM:=NV aJ bk;rw[<-MJ]at aM;rw[aL.i 58];refine ck H a4 ae fun I ak K=>?_;have aN:Agree 131 J I:=aL.tr ak;have bl:0<=I.i 131:=by rw[ak.i 131];exact bj
  rw[<-ak.i 132]at K;have K:ax (I.h _) (.pointer (slP (I.i 132) 0)) (bQ (av J 0) h.t.length++h.t.flatten++aq (J.i 57).toNat++aq (J.i 58).toNat) false:=K;have bm:(aq (J.i 58).toNat).length<=10:=cq (z:=(J.i 58).toNat) ae;have aO:=NV aM bm;rw[<-MJ]at aO;rw[aN.i 59];refine ck K a5 ae fun L al M=>?_;have aP:Agree 131 J L:=aN.tr al;have bn:0<=L.i 131:=by rw[al.i 131];exact bl
  rw[<-al.i 132]at M;have M:ax (L.h _) (.pointer (slP (L.i 132) 0)) (bQ (av J 0) h.t.length++h.t.flatten++aq (J.i 57).toNat++aq (J.i 58).toNat++aq (J.i 59).toNat) false:=M;have bo:(aq (J.i 59).toNat).length<=10:=cq (z:=(J.i 59).toNat) ae;have aQ:=NV aO bo;rw[<-MJ]at aQ;rw[aP.i 60];refine ck M a6 ae fun N an O=>?_;have aR:Agree 131 J N:=aP.tr an;have bp:0<=N.i 131:=by rw[an.i 131];exact bn
  rw[<-an.i 132]at O;have O:ax (N.h _) (.pointer (slP (N.i 132) 0)) (bQ (av J 0) h.t.length++h.t.flatten++aq (J.i 57).toNat++aq (J.i 58).toNat++aq (J.i 59).toNat++aq (J.i 60).toNat) false:=O;have bq:(aq (J.i 60).toNat).length<=10:=cq (z:=(J.i 60).toNat) ae;have aS:=NV aQ bq;rw[<-MJ]at aS;rw[aR.i 61];refine ck O a7 ae fun Q ao S=>?_;have aT:Agree 131 J Q:=aR.tr ao;have br:0<=Q.i 131:=by rw[ao.i 131];exact bp
  rw[<-ao.i 132]at S;have S:ax (Q.h _) (.pointer (slP (Q.i 132) 0)) (bQ (av J 0) h.t.length++h.t.flatten++aq (J.i 57).toNat++aq (J.i 58).toNat++aq (J.i 59).toNat++aq (J.i 60).toNat++aq (J.i 61).toNat) false:=S;have bt:(aq (J.i 61).toNat).length<=10:=cq (z:=(J.i 61).toNat) ae;have aU:=NV aS bt;rw[<-MJ]at aU;rw[aT.i 62];refine ck S a8 ae fun U au V=>?_;have az:Agree 131 J U:=aT.tr au;have aV:0<=U.i 131:=by rw[au.i 131];exact br
  rw[<-au.i 132]at V;have V:ax (U.h _) (.pointer (slP (U.i 132) 0)) (bQ (av J 0) h.t.length++h.t.flatten++aq (J.i 57).toNat++aq (J.i 58).toNat++aq (J.i 59).toNat++aq (J.i 60).toNat++aq (J.i 61).toNat++aq (J.i 62).toNat) false:=V;have bu:(aq (J.i 62).toNat).length<=10:=cq (z:=(J.i 62).toNat) ae;have aW:=NV aU bu;rw[<-MJ]at aW;have ab:=qC (n:=32) aV (by rw[bf az.mono];exact hx.ok) H7;rw[bf az.mono]at ab;refine my V ab.w ae (by rw[aC];omega) fun W aA Z=>?_;have aX:Agree 131 J W:=az.tr aA;have bw:0<=W.i 131:=by rw[aA.i 131];exact aV
  rw[<-aA.i 132]at Z;have Z:ax (W.h _) (.pointer (slP (W.i 132) 0)) (bQ (av J 0) h.t.length++h.t.flatten++aq (J.i 57).toNat++aq (J.i 58).toNat++aq (J.i 59).toNat++aq (J.i 60).toNat++aq (J.i 61).toNat++aq (J.i 62).toNat++aw (av J 0) 60 32) false:=Z;have bx:(aw (av J 0) 60 32).length<=32:=Ql (aC _ _ _);have aY:=NV aW bx;rw[<-MJ]at aY;rw[aX.i 95];refine ck Z (u64_in _) ae fun aa aB v=>?_;have bG:Agree 131 J aa:=aX.tr aB;have bH:0<=aa.i 131:=by rw[aB.i 131];exact bw
  rw[<-aB.i 132]at v;have v:ax (aa.h _) (.pointer (slP (aa.i 132) 0)) (bQ (av J 0) h.t.length++h.t.flatten++aq (J.i 57).toNat++aq (J.i 58).toNat++aq (J.i 59).toNat++aq (J.i 60).toNat++aq (J.i 61).toNat++aq (J.i 62).toNat++aw (av J 0) 60 32++aq (cu (J.i 95))) false:=v;have bz:(aq (cu (J.i 95))).length<=10:=cq (iY _);have aD:=NV aY bz;rw[<-MJ]at aD;refine⟨⟨_,_,_,false,rfl,rfl,v,ae⟩,fun q g ⟨F,hp,hF,hn⟩=>?_⟩;have A:=zo v hp;have eR:fk (gP (av J 0) (bQ (av J 0) h.t.length++h.t.flatten)) false=(gP (av J 0) (bQ (av J 0) h.t.length++h.t.flatten),0):=by
   unfold fk;have aD:(gP (av J 0) (bQ (av J 0) h.t.length++h.t.flatten)).length<=1000:=NT aD ae;rw[MM (by rintro(e | e);exact absurd e aj;omega)]
  have A:OwB F _ _ (fk (gP (av J 0) (bQ (av J 0) h.t.length++h.t.flatten)) false).1:=A;rw[eR,<-zl hx]at A;have hF:q.h 226=F:=hF (by simp [cpRoots,Cp.roots,Ck.root]);refine fun _=>⟨[],[3],rfl,rfl,⟨(ay fun k=>q.i (226+k)),rfl,hn.1,zzT⟩,_,R,h,rfl,rfl,hx,?_⟩;show OwB (hls [q.h 226]) _ _ _;rw[hls_one,hF];exact A
def xZ (n:Nat):(cpRoots n [Cp.one .sl]≠[])=True:=by simp [cpRoots,Cp.roots,Ck.root]
def Ak {A:Hl} {x1 c1:Int} (ho:OwB A 5 (.slice (slP x y) ((bs.length:Int)).toNat c.toNat) bs) (hm:m=bs2.length)
 (happ:∀ xs,OwnsH A 5 1 (.slice (slP x y) ((bs.length:Int)).toNat c.toNat) ((bs.length:Int)).toNat xs->OwnsH B 5 1 (.slice (slP x1 0) (((bs.length:Int)).toNat+m) c1.toNat) (((bs.length:Int)).toNat+m) (xs++bys bs2)):OwB B 5 (.slice (slP x1 0) (((bs++bs2).length:Int)).toNat c1.toNat) (bs++bs2):=by
 have h1:OwnsH A 5 1 (.slice (slP x y) ((bs.length:Int)).toNat c.toNat) ((bs.length:Int)).toNat (bys bs):=by
  have:=ho;unfold OwB at this;rwa[MD]at this ⊢
 have h2:=happ _ h1;unfold OwB;rw[MD,MJ,bys_append];rw[MD,hm]at h2;exact h2
def Ei {A:Hl} {B:List Int} (h:OwB A 5 (.slice (slP x y) ((B.length:Int)).toNat c.toNat) B) (hv:vs=bys b2) (hm:m=b2.length) (hl:B.length<=900000) (b:b2.length<=90000)
 (k:∀ q',Agree n q q'-> -1<=q'.i n->0<=q'.i (n+1)->OwB (q'.h n) 5 (.slice (slP (q'.i n) 0) (((B++b2).length:Int)).toNat (q'.i (n+1)).toNat) (B++b2)->K q') :
 ((∃ xs,OwnsH A 5 1 (.slice (slP x y) ((B.length:Int)).toNat c.toNat) ((B.length:Int)).toNat xs)/\0<=(B.length:Int)/\((B.length:Int)).toNat+m<=maxLen/\((B.length:Int)).toNat+m<=140737488355328) /\
 ∀ q',Agree n q q'->(-1<=q'.i n/\0<=q'.i (n+1)/\(∀ xs,OwnsH A 5 1 (.slice (slP x y) ((B.length:Int)).toNat c.toNat) ((B.length:Int)).toNat xs->OwnsH (q'.h n) 5 1 (.slice (slP (q'.i n) 0) (((B.length:Int)).toNat+m) (q'.i (n+1)).toNat) (((B.length:Int)).toNat+m) (xs++vs))/\D q')->K q':=by
 refine⟨⟨⟨bys B,?_⟩,ae,by rw[MD];unfold maxLen;omega,by rw[MD];omega⟩,fun q' g ⟨a1,a2,a,_⟩=>k q' g a1 a2 ?_⟩
 .have:=h;unfold OwB at this;rwa[MD]at this ⊢
 .rw[hv]at a;exact Ak h hm a
def BX (q:Env):(ckCVs 96 (List.replicate 32 (Ck.int .u8))).map (CV.ev q)=bys (aw (av q 0) 93 32):=rfl
def cn (h:Hd):List Int:=fU h++aw h.c 93 32
open Classical in
noncomputable def aB (h:Hd):List Int:=if h.Form then cn h else []
noncomputable def bytesS (f:FuncId):Sx.Spec where
 fn:=f
 own:=[]
 rd:=[10053]
 res:=[.one .sl]
 pre:=fun xs Hs Rs=>∃ row R h,xs=[.agg row.toArray]/\Rs=[R]/\aG R row h
 post:=fun xs Hs Rs v Hs' F=>∃ row R h,xs=[.agg row.toArray]/\Rs=[R]/\aG R row h/\OwB F 5 v (aB h)
noncomputable def HN:List Sx.Spec:=[bR 91,coreS 161]
def E6:∀ t∈HN,t.OK Tryz.prog:=ai dt <| ai xm <| aD
def hg0:HN[0]?=some (bR 91):=rfl
def zJ:HN[1]?=some (coreS 161):=rfl
noncomputable def HM:List Sx.Spec:=[bR 46,coreS 150]
def oB:HM[0]?=some (bR 46):=rfl
def Gx:HM[1]?=some (coreS 150):=rfl
def hr0 (f:FuncId):(bR f).res=[.one .bool]:=rfl
def Jj (f:FuncId):(coreS f).res=[.one .sl]:=rfl
noncomputable def rp:Walk Tryz.prog HN 116 where
 Λ:=noLoops
 args:=(cpSVs 0 [.agg aI]).map .sv
 mem:=[.ro 130 [.var 53] false]
 nv:=131
open Classical in
def hZ {K:List Hl} (hx:aG R row h) (hp:(bR f).post [.agg row.toArray] Hs [R] v K F):v=.bool (decide h.Form):=by
 obtain⟨row',R',h',e1,b,a,hv⟩:=hp;simp only[MH,Value.agg.injEq,MZ]at e1 b;have e1:=M4 e1;subst e1 b;rw[hx.uniq a];exact hv
def zk {K:List Hl} (hx:aG R row h) (hp:(coreS f).post [.agg row.toArray] Hs [R] v K F):OwB F 5 v (fU h):=by
 obtain⟨row',R',h',e1,b,a,hv⟩:=hp;simp only[MH,Value.agg.injEq,MZ]at e1 b;have e1:=M4 e1;subst e1 b;rw[hx.uniq a];exact hv
def mf {K:List Hl} (hx:aG R row h) (hp:(bytesS f).post [.agg row.toArray] Hs [R] v K F):OwB F 5 v (aB h):=by
 obtain⟨row',R',h',e1,b,a,hv⟩:=hp;simp only[MH,Value.agg.injEq,MZ]at e1 b;have e1:=M4 e1;subst e1 b;rw[hx.uniq a];exact hv
def jI (hx:aG R row h) (f:h.t.length<=8):(fU h).length<=360:=by
 have a:∀ k,cI h.c k<18446744073709551616->(aq (cI h.c k).toNat).length<=10:=fun k hk=>cq ae;have hu:∀ {k:Nat},cj[k]?=some (.int .u64)->k≠53->cI h.c k<18446744073709551616:=fun {k} hk b=>by
  rw[hx.I b];exact(hx.rng _ (MG (mE hx.ok hk))).2
 have d:=tF (T:=h.t) (fun t e=>(hx.byte.2 t e).1);have a1:=cq (iY (cI h.c 0));have a2:=a 1 (hu rfl aj);have g:=cq (iY (cI h.c 34));have i:=a 36 (hu rfl aj);have j:=cq (z:=h.t.length) ae;have l:=a 54 (hu rfl aj);have m:=a 55 (hu rfl aj);have n:=a 56 (hu rfl aj);have o:=a 57 (hu rfl aj);have b1:=a 58 (hu rfl aj);have b2:=a 59 (hu rfl aj);have p:=cq (iY (cI h.c 92));have q:(bE (cB h.c 35)).length=1:=rfl;unfold fU gP bQ;simp only[MJ,aC];omega
open Classical in
def hJ:(bytesS 116).OK Tryz.prog:=by
 refine Spec.of_fn (Γ:=HN) E6 ?_;rintro xs Hs Rs n w ⟨row,R,h,rfl,rfl,hx⟩;have e0:Hs=[]:=MF.1 n;subst e0;obtain⟨J,rfl,a,z,A,B,C⟩:=jL (R:=R) hx.ok;refine⟨rp,J,fun _ _=>True,fun _ _=>0,rfl,⟨?_,?_,?_,?_⟩,(fun _ h=>nomatch h),?_⟩
 .intro r hr ho;simp [rp]at hr;subst hr;cases ho
 .intro r hr ho;simp [rp]at hr;subst hr;exact⟨R,ar,by show(J.h 130).le R;rw[a];exact Hl.le_refl _⟩
 .simp [rp]
 .intro r hr;simp [rp]at hr;subst hr;trivial
 .refine Walk.read [aI] [] [] ?_;simp only[go_sem,Nat.reduceAdd,hg0,hr0,zJ,Jj,DW,xZ];intro q1 o p1;have r1:(ckCVs 0 aI).map (CV.ev q1)=av J 0:=bf o.mono;rw[r1,o.h 130,a];refine⟨⟨_,R,h,rfl,rfl,hx⟩,fun q2 D ⟨L,p,_⟩=>?_⟩;have hv:=hZ hx p;have hv:q2.b 132=decide h.Form:=by simpa [bev_bvar] using hv
  have q:Agree 131 J q2:=o.mono.tr D;have r2:(ckCVs 0 aI).map (CV.ev q2)=av J 0:=bf q.mono;rw[hv,MI,r2,q.h 130,a];refine⟨fun hf _=>⟨[],[],rfl,rfl,⟨(ay fun k=>if k=0 then -1 else 0),rfl,⟨MT _,MT _,MT _,MT _⟩,zzT⟩,_,R,h,rfl,rfl,hx,?_⟩,fun hf=>?_⟩
  .unfold aB;rw[MM hf];exact iq _ _
  have u:=hf.2.1;have E:=jI hx u;refine⟨⟨_,R,h,rfl,rfl,hx,u⟩,fun f g3 ⟨M,s,t,l⟩=>?_⟩;have m:=zk hx s;rw[<-t zzT]at m;have l:-1<=f.i 133/\0<=f.i 134/\0<=f.i 135/\0<=f.i 136:=l.1;have e:(f.i 135).toNat=(fU h).length:=by
   obtain⟨x,y,c,e,_⟩:=m.rd;simp only[Value.slice.injEq]at e;exact e.2.1
  have v:f.i 135=((fU h).length:Int):=ae;rw[v]at m ⊢;have F:Agree 131 J f:=q.tr g3;have g:(ckCVs 96 (List.replicate 32 (Ck.int .u8))).map (CV.ev f)=bys (aw h.c 93 32):=by
   rw[BX,bf F.mono]
   congr 1
   exact NL fun j N=>(hx.I ae).symm
  refine Ei (b2:=aw h.c 93 32) m g (aC _ _ _).symm ae (by rw[aC];omega) fun d g4 G H K=>?_;have hl:d.i 135+32=((cn h).length:Int):=by
   rw[g4.i 135,v];unfold cn;rw[MJ,aC];omega
  refine fun _=>⟨[],[2],rfl,rfl,⟨(ay fun k=>[d.i 137,0,d.i 135+32,d.i 138].getD k 0),rfl,⟨G,MT _,by show 0<=d.i 135+32;omega,H⟩,zzT⟩,_,R,h,rfl,rfl,hx,?_⟩;show OwB (hls [d.h 137]) _ (.slice (slP (d.i 137) 0) (d.i 135+32).toNat (d.i 138).toNat) _;unfold aB;rw[hls_one,M0 hf,hl];exact K
def ti:List Ck:=aI++[Ck.sl]
def iV:∀ {row:List Value} {ks:List Kd} {u:Value} {k:Kd},rowOK row ks->valIs (some u) k=true->rowOK (row++[u]) (ks++[k])
 | [],[],_,_,_,h=>⟨h,zzT⟩
 | v::l,k::ks,_,_,h,h'=>⟨h.1,iV h.2 h'⟩
def fg:∀ {row:List Value} {ks:List Kd},rowOK row ks->row.length=ks.length
 | [],[],_=>rfl
 | v::l,k::ks,h=>by rw[Nk,Nk,fg h.2]
set_option maxRecDepth 20000 in
def B0 {c:Nat} (h:rowOK row cj) (hy:0<=y):∃ q:Env,row=av q 0/\(.slice (slP x y) n c:Value)=(CV.sl (.var 128) (.var 129) (.var 130) (.var 131)).ev q/\q.h 132=R/\q.h 133=G/\ckNormsW 0 aI q/\0<=q.i 129/\0<=q.i 130/\0<=q.i 131:=by
 have hk:rowOK (row++[.slice (slP x y) n c]) (ti.map kdOf):=by
  unfold ti;rw[M9];exact iV h rfl
 obtain⟨q,_,hn,e⟩:=row_rep ti 0 _ (ay fun _=>0) hk;have e:av q 0++[(CV.sl (.var 128) (.var 129) (.var 130) (.var 131)).ev q]=row++[.slice (slP x y) n c]:=e;obtain⟨e1,d⟩:=List.append_inj' e rfl;have hs:∀ (a b:List Ck) (n:Nat),ckNormsW n (a++b) q->ckNormsW n a q/\ckNormsW (n+ckLen a) b q:=by
  intro a
  induction a with
  | nil=>intro b n h;exact⟨zzT,by simpa [ckLen] using h⟩
  | cons k a ih =>
   intro b n h;have:=ih b (n+k.len) h.2;rw[show n+k.len+ckLen a=n+ckLen (k::a)by simp [ckLen];omega]at this;exact⟨⟨h.1,this.1⟩,this.2⟩
 obtain⟨h1,h2⟩:=hs aI [Ck.sl] 0 hn;have h2:=h2.1;refine⟨⟨q.i,q.b,q.s,q.v,fun k=>if k=132 then R else if k=133 then G else Hl.none⟩,e1.symm,?_,rfl,rfl,h1,h2.2.1,h2.2.2.1,h2.2.2.2⟩;simp only[MH,MZ]at d;exact d.symm
def dc (row:List Value) (bs:List Int):Bool:=decide ((bs.length:Int)=cI row 92/\qI bs=aw row 60 32)
def qP:Sx.Spec where
 fn:=25
 own:=[]
 rd:=[1000125,2000002]
 res:=[.one .bool]
 pre:=fun xs Hs Rs=>∃ row u bs R RG,xs=[.agg (row++[u]).toArray]/\Rs=[R,RG]/\rowOK row cj/\RdW R u bs/\ah bs/\bs.length<=900000/\yE RG 2
 post:=fun xs Hs Rs v Hs' F=>∀ row u bs R RG,xs=[.agg (row++[u]).toArray]->Rs=[R,RG]->RdW R u bs->v=.bool (dc row bs)
def Bu:Walk Tryz.prog [lD] qP.fn where
 Λ:=noLoops
 args:=(cpSVs 0 [.agg ti]).map .sv
 mem:=[.ro 132 [.var 128] true,.ro 133 [.lit 2] false]
 nv:=134
def LP:[lD][0]?=some lD:=rfl
def I2:lD.res=[.agg (List.replicate 32 (Ck.int .u8))]:=rfl
def fM (q:Env) (n:Nat):List Int:=(List.range 32).map fun j=>q.i (n+j)
def Bd (q:Env):aw (av q 0) 60 32=fM q 63:=rfl
def Gj (q q':Env) (n m:Nat):fM q n=fM q' m↔(q.i (n+0)=q'.i (m+0)/\q.i (n+1)=q'.i (m+1)/\q.i (n+2)=q'.i (m+2)/\q.i (n+3)=q'.i (m+3)/\q.i (n+4)=q'.i (m+4)/\q.i (n+5)=q'.i (m+5)/\q.i (n+6)=q'.i (m+6)/\q.i (n+7)=q'.i (m+7)/\q.i (n+8)=q'.i (m+8)/\q.i (n+9)=q'.i (m+9)/\q.i (n+10)=q'.i (m+10)/\q.i (n+11)=q'.i (m+11)/\q.i (n+12)=q'.i (m+12)/\q.i (n+13)=q'.i (m+13)/\q.i (n+14)=q'.i (m+14)/\q.i (n+15)=q'.i (m+15)/\q.i (n+16)=q'.i (m+16)/\q.i (n+17)=q'.i (m+17)/\q.i (n+18)=q'.i (m+18)/\q.i (n+19)=q'.i (m+19)/\q.i (n+20)=q'.i (m+20)/\q.i (n+21)=q'.i (m+21)/\q.i (n+22)=q'.i (m+22)/\q.i (n+23)=q'.i (m+23)/\q.i (n+24)=q'.i (m+24)/\q.i (n+25)=q'.i (m+25)/\q.i (n+26)=q'.i (m+26)/\q.i (n+27)=q'.i (m+27)/\q.i (n+28)=q'.i (m+28)/\q.i (n+29)=q'.i (m+29)/\q.i (n+30)=q'.i (m+30)/\q.i (n+31)=q'.i (m+31)):=by
 have e:List.range 32=[0,1,2,3,4,5,6,7,8,9,10,11,12,13,14,15,16,17,18,19,20,21,22,23,24,25,26,27,28,29,30,31]:=rfl;unfold fM;rw[e];simp only[M6,NN,MH,MZ]
def Bb (g:Agree k q q') (h:n+32<=k):fM q' n=fM q n:=by
 unfold fM;refine NL fun j a=>g.i _ ?_;have:=Nn.1 a;omega
def oU {e:E} (hr:s.res=[.one .bool]) (he:bev q e=b) (h:∀ F,s.post xs [] Rs (.bool b) [] F):postOf s xs [] Rs q mem (.sv (.one (.bool e))):=by
 intro _;refine⟨[],[],rfl,rfl,⟨⟨fun _=>0,fun _=>b,fun _=>.empty,fun _=>.tuple #[],fun _=>Hl.none⟩,?_,?_⟩,?_⟩
 .rw[hr,<-he];rfl
 .rw[hr];exact⟨zzT,zzT⟩
 .have:=h (uni q mem []);rw[<-he]at this;exact this
def kW {T:TypeId} (hx:0<=x) (h:RdW RA u bs):dz (Hl.one x.toNat (.cells #[u] T)) RA (.slice (slP x 0) 1 1) [bs]:=by
 refine⟨[u],x,0,1,rfl,MT _,rfl,fun j v hv=>⟨hx,?_⟩,fun j v r hv hr=>?_⟩
 .cases j with
  | zero=>simp only[NG,MP]at hv;subst hv;simp [Hl.cell,Hl.one]
  | succ j=>simp at hv
 .cases j with
  | zero=>simp only[NG,MP]at hv hr;subst hv hr;exact h
  | succ j=>simp at hv
def MC (xs:List Value) (Rs:List Hl) (v:Value):Prop:=∀ row u bs R RG,xs=[.agg (row++[u]).toArray]->Rs=[R,RG]->RdW R u bs->v=.bool (dc row bs)
def Bt (h:RdW R u bs) (hb:b=dc row bs):MC [.agg (row++[u]).toArray] [R,RG] (.bool b):=by
 intro row' c bs' R' d e1 a h';simp only[MH,MZ,Value.agg.injEq,M4]at e1 a;have e1:row++[u]=row'++[c]:=Ns Array.toList e1;obtain⟨rfl,e⟩:=List.append_inj' e1 rfl;simp only[MH,MZ]at e;obtain⟨rfl,rfl⟩:=a;subst e;rw[hb,h.uniq h']
set_option maxRecDepth 20000 in
def yw:qP.OK Tryz.prog:=by
 refine Spec.of_fn (Γ:=[lD]) (fun t o=>by rw[MO]at o;subst o;exact rH) ?_;rintro xs Hs Rs l s ⟨row,u,bs,R,RG,rfl,rfl,hr,k,hb,hlen,hK⟩;have e0:Hs=[]:=MF.1 l;subst e0;obtain⟨x,y,c,rfl,hy,_⟩:=id k;obtain⟨J,rfl,p,w2,q,v,z,n0,n1⟩:=B0 (R:=R) (G:=RG) (x:=x) (n:=bs.length) (c:=c) hr hy;refine⟨Bu,J,fun _ _=>True,fun _ _=>0,?_,bM (by intro r hr;simp [Bu]at hr;rcases hr with rfl | rfl<;>exact⟨_,_,_,rfl⟩) (by show [J.h 132,J.h 133]=_;rw[w2,q]),(fun _ h=>nomatch h),?_⟩
 .rw[p];rfl
 .refine Walk.read [] [] [] ?_;simp only[go_sem,Nat.reduceAdd,LP,I2];intro q1 f p1;have d:Value.slice (slP (J.i 128) (J.i 129)) (J.i 130).toNat (J.i 131).toNat=.slice (slP x y) bs.length c:=p.symm;have a:J.i 130=bs.length:=by
   simp only[Value.slice.injEq]at d;have:=d.2.1;omega
  have g:cI (av J 0) 92=J.i 95:=rfl;refine⟨by rw[f.i 130];exact n0,fun h1 q2 w p2=>?_,fun h1=>?_⟩
  .have e:Agree 134 J q2:=f.tr w;rw[f.i 130,f.i 95]at h1;rw[e.i 128,e.i 129,e.i 130,e.i 131,e.h 132,e.h 133,d,w2,q];have j:=kW (T:=22) p2 k;refine⟨⟨q2.i 135,0,1,_,R,RG,bs,rfl,rfl,j,MT _,hb,hlen,hK⟩,fun m g3 ⟨F,hp,_⟩=>?_⟩;have hp:=hp _ _ _ _ _ rfl rfl j;have hs:fM m 136=qI bs:=by
    have hp:Value.agg (bys (fM m 136)).toArray=.agg (bys (qI bs)).toArray:=hp;exact bys_inj (Ns Array.toList (Value.agg.inj hp))
   have G:Agree 134 J m:=e.tr g3;refine oU (b:=dc (av J 0) bs) rfl ?_ fun F=>Bt k rfl;rw[OU];unfold dc;rw[MI,g,Bd,<-hs,<-Bb G ae,Gj,<-h1,a];simp only[bT_tt,bT_ff,bT_bvar,bT_not,bT_and,bT_or,bT_ite,bT_lt,bT_le,bT_eq,bT_beq,bT_seq,bT_hB,bT_his,bT_hby,bT_hism,bT_hks,iev_lit,iev_var,iev_add,iev_sub,iev_mul,iev_wrap,iev_ite,iev_hI,iev_hP,iev_hmlen,sev_ite,sev_slit,sev_sof,sev_svar,Nz,Nat.reduceAdd]
  .rw[f.i 130,f.i 95]at h1;refine oU (b:=dc (av J 0) bs) rfl ?_ fun F=>Bt k rfl;unfold dc;rw[g,<-a,bev_ff];simp [h1]
def uO:Sx.Spec where
 fn:=190
 own:=[]
 rd:=[100]
 res:=[.one .sl]
 pre:=fun xs Hs Rs=>∃ (v:Value) (T:List (List Int)) (R:Hl),xs=[v]/\Rs=[R]/\RdRows R v dg (T.map bys)/\(∀ t∈T,t.length=16)/\T.length<=1000000
 post:=fun xs Hs Rs u Hs' F=>∃ (v:Value) (T:List (List Int)) (R:Hl),xs=[v]/\Rs=[R]/\RdRows R v dg (T.map bys)/\RdRows F u dg (T.map bys)
def Bm:Walk Tryz.prog [] uO.fn where
 Λ:=noLoops
 args:=[.sv (.one (.sl (.var 0) (.var 1) (.var 2) (.var 3)))]
 mem:=[.ro 4 [.var 0] false]
 nv:=5
def Gq (F:Hl) (e:TypeId) (size:Nat) {a:Int} (h:0<=a) (b:F=Hl.one a.toNat (.cells #[] e (0,0))):OwnsH F e size (.slice (slP a 0) (Int.toNat 0) (Int.toNat 0)) (Int.toNat 0) []:=by
 subst b;refine⟨ar,Or.inr ⟨a.toNat,0,#[],by rw[slP_pos h];rfl,Hl.one_self _ _,ae,aj,ar,ar⟩⟩
def Bl:∀ (n:Nat) (l:List Int),l.length=n->rowOK (bys l) (List.replicate n (Kd.int .u8))
 | 0,[],_=>trivial
 | n+1,z::l,h=>⟨by simp [valIs],Bl n l (by simpa using h)⟩
def Gr {x y:Nat} (b:∀ t∈T,t.length=16) (h:∀ (i:Nat) row,(T.map bys)[i]?=some row->rowOK row dg/\∀ j u,row[j]?=some u->R.cell x (y+i*dg.length+j)=some u) :
 segVals R x y (T.length*16)=(T.map bys).flatten/\∀ j,j<T.length*16->∃ v,R.cell x (y+j)=some v/\v.oneCell'=true:=by
 have c:dg.length=16:=rfl;have len:∀ r∈T.map bys,r.length=16:=fun r hr=>by
  obtain⟨t,f,rfl⟩:=Np.1 hr;rw[bys_length];exact b t f
 have key:∀ j,j<T.length*16->∃ z,R.cell x (y+j)=some (.int .u8 z)/\(T.map bys).flatten[j]?=some (.int .u8 z):=by
  intro j a;have hi:j/16<T.length:=ae;have e1:T[j/16]?=some T[j/16]:=ME hi;have hl:=b _ (NM hi);have d:T[j/16][j%16]?=some (T[j/16][j%16]'ae):=ME ae;have er:(T.map bys)[j/16]?=some (bys T[j/16]):=by rw[MU,e1];rfl
  have e:(bys T[j/16])[j%16]?=some (.int .u8 (T[j/16][j%16]'ae)):=by rw[bys_get,d];rfl
  refine⟨T[j/16][j%16]'ae,?_,?_⟩
  rotate_left
  .have:=flat_get (n:=16) len er e;rw[show j/16*16+j%16=j by omega]at this;exact this
  .have:=(h _ _ er).2 _ _ e;rw[c,show y+j/16*16+j%16=y+j by omega]at this;exact this
 refine⟨?_,fun j a=>?_⟩
 .unfold segVals;apply Ni;intro j;rw[MU];rcases ND j (T.length*16)with a | a
  .obtain⟨z,e1,d⟩:=key j a;rw[Nf a,Nl,e1,d];rfl
  .have g:(T.map bys).flatten.length=T.length*16:=by
    have:∀ (rows:List (List Value)),(∀ r∈rows,r.length=16)->rows.flatten.length=rows.length*16:=by
     intro rows
     induction rows with
     | nil=>intro _;rfl
     | cons r rows ih =>
      intro hl;rw[Oz,MJ,ih fun r hr=>hl r (MW _ hr),hl r (Nh ..),Nk];omega
    rw[this _ len,M7]
   rw[MS (by simpa using a),MS ae];rfl
 .obtain⟨z,e1,_⟩:=key j a;exact⟨_,e1,rfl⟩
def Dd:uO.OK Tryz.prog:=by
 refine Spec.of_fn (Γ:=[]) (fun _ h=>by cases h) ?_;rintro xs Hs Rs p s ⟨v,T,R,rfl,rfl,g,m,hT⟩;have e0:Hs=[]:=MF.1 p;subst e0;obtain⟨x,y,c,rfl,hy,a⟩:=id g;have b:(T.map bys).length=T.length:=M7 ..;refine⟨Bm,envI [x,y,(T.map bys).length,c] false [Hl.none,Hl.none,Hl.none,Hl.none,R],fun _ _=>True,fun _ _=>0,?_,⟨?_,?_,?_,?_⟩,(fun _ h=>nomatch h),?_⟩
 .show [Value.slice (slP x y) (((T.map bys).length:Int)).toNat ((c:Int)).toNat]=_;rw[MD,MD]
 .intro r hr ho;simp [Bm]at hr;subst hr;cases ho
 .intro r hr ho;simp [Bm]at hr;subst hr;exact⟨R,ar,Hl.le_refl _⟩
 .simp [Bm]
 .intro r hr;simp [Bm]at hr;subst hr;trivial
 .refine Walk.read [] [] [] ?_;generalize d:envI [x,y,(T.map bys).length,c] false [Hl.none,Hl.none,Hl.none,Hl.none,R]=J;have v0:J.i 0=x:=by rw[<-d];rfl
  have v1:J.i 1=y:=by rw[<-d];rfl
  have v2:J.i 2=(T.map bys).length:=by rw[<-d];rfl
  have u:J.h 4=R:=by rw[<-d];rfl
  simp only[go_sem,Nat.reduceAdd];rw[v0];refine⟨fun hx=>?_,fun hx q1 n p1=>?_⟩
  .have l:T=[]:=by
    rcases a with h | ⟨h,_⟩
    .exact N9.1 h
    .omega
   intro _;refine⟨[],[],rfl,rfl,⟨(ay fun k=>if k=0 then -1 else 0),rfl,?_,zzT⟩,_,T,R,rfl,rfl,g,?_⟩
   .exact⟨aj,aj,aj,aj⟩
   .subst l;exact⟨-1,0,0,rfl,MT _,Or.inl rfl⟩
  .have e:=Gq (Hl.one (q1.i 5).toNat (.cells #[] 34 (0,0))) 34 16 p1 rfl;rw[n.i 0,v0,n.i 1,v1,n.i 2,v2,n.h 4,u];have f:=g;rw[b]at f;rw[MD,b];have sA:segVals R x.toNat y.toNat (T.length*16)=(T.map bys).flatten/\((0<=x/\0<=y/\(0:Int)<=T.length/\∀ j,j<T.length*16->∃ v,R.cell x.toNat (y.toNat+j)=some v/\v.oneCell'=true)\/(T.length:Int)=0):=by
    rcases a with h | ⟨q,h⟩
    .have l:T=[]:=N9.1 h;subst l;exact⟨rfl,Or.inr rfl⟩
    .obtain⟨s1,s2⟩:=Gr m h;exact⟨s1,Or.inl ⟨q,hy,ae,s2⟩⟩
   refine⟨⟨⟨[],e⟩,MT _,sA.2,by unfold maxLen;omega,ae⟩,fun q2 w ⟨a1,a2,z,_⟩=>?_⟩;have o:=z _ e;rw[sA.1,N1,show Int.toNat 0+T.length=T.length by omega]at o;intro _;have A:Agree 5 J q2:=n.tr w;have B:OwR (q2.h 6) 34 dg (.slice (slP (q2.i 6) 0) T.length (q2.i 7).toNat) (T.map bys):=by
    refine⟨fun row hr=>?_,?_⟩
    .obtain⟨t,C,rfl⟩:=Np.1 hr;exact Bl 16 t (m t C)
    .rw[b];exact o
   have er:TV.ev q2 (.sv (.one (.sl (.var 6) (.lit 0) (.var 2) (.var 7))))=.slice (slP (q2.i 6) 0) T.length (q2.i 7).toNat:=by
    show Value.slice (slP (q2.i 6) 0) (q2.i 2).toNat (q2.i 7).toNat=_;rw[A.i 2,v2,b,MD]
   refine⟨[],[1],rfl,rfl,⟨(ay fun k=>match k with | 0=>q2.i 6 | 1=>0 | 2=>T.length | _=>q2.i 7),?_,?_,zzT⟩,_,T,R,rfl,rfl,f,?_⟩
   .rw[er];show _=Value.slice (slP (q2.i 6) 0) ((T.length:Int)).toNat (q2.i 7).toNat;rw[MD]
   .exact⟨a1,MT 0,by show(0:Int)<=T.length;omega,a2⟩
   .rw[er];show RdRows (hls [q2.h 6]) _ _ _;rw[hls_one];exact B.rd
def pD:∀ {l:List Value} {ks:List Kd} {v:Value} {j:Nat} {k:Kd},rowOK l ks->ks[j]?=some k->valIs (some v) k=true->rowOK (l.set j v) ks
 | [],_,_,_,_,h,_,_=>h
 | _::_,[],_,_,_,h,_,_=>h.elim
 | a::l,k0::ks,v,0,k,h,hk,hv=>by
  simp only[NG,MP]at hk;subst hk;exact⟨hv,h.2⟩
 | a::l,k0::ks,v,j+1,k,h,hk,hv=>⟨h.1,pD h.2 (by simpa using hk) hv⟩
def aG.clone {A:Hl} (x:aG A row h) (hu:RdRows B u dg (h.t.map bys)):aG B (row.set 53 u) h:=by
 have hl:=rowOK_length x.ok;have b:cj.length=125:=rfl;refine⟨pD x.ok (k:=.slice) rfl ?_,?_,?_,?_,x.byte⟩
 .obtain⟨a,y,c,e,_⟩:=hu;rw[e];rfl
 .intro v hv;rcases O3 hv with h | h
  .exact x.rng v h
  .obtain⟨a,y,c,e,_⟩:=hu;rw[h,e];trivial
 .rw[List.set_set];exact x.core
 .rw[MR,NX ae];exact hu
def xj:Sx.Spec where
 fn:=168
 own:=[]
 rd:=[10053]
 res:=[.agg aI]
 pre:=fun xs Hs Rs=>∃ row R h,xs=[.agg row.toArray]/\Rs=[R]/\aG R row h
 post:=fun xs Hs Rs v Hs' F=>∀ row R h,xs=[.agg row.toArray]->Rs=[R]->aG R row h->∃ row',v=.agg row'.toArray/\aG F row' h
def Hq:Walk Tryz.prog [uO] xj.fn where
 Λ:=noLoops
 args:=(cpSVs 0 [.agg aI]).map .sv
 mem:=[.ro 130 [.var 53] true]
 nv:=131
def Kg:[uO][0]?=some uO:=rfl
def Kh:uO.res=[.one .sl]:=rfl
def Ho:(cpRoots 0 [Cp.one .sl]≠[])=True:=by simp [cpRoots,Cp.roots,Ck.root]
set_option maxRecDepth 20000 in
def zL (q:Env) (n:Nat):(TV.sv (.agg (ckCVs 0 ([Ck.int .i64,Ck.int .u64]++List.replicate 32 (Ck.int .u8)++[Ck.int .i64,Ck.bool,Ck.int .u64]++List.replicate 16 (Ck.int .u8))++[.sl (.var n) (.var (n+1)) (.var (n+2)) (.var (n+3))]++ckCVs 57 (List.replicate 6 (Ck.int .u64)++List.replicate 32 (Ck.int .u8)++[Ck.int .i64]++List.replicate 32 (Ck.int .u8))))).ev q=.agg ((av q 0).set 53 (.slice (slP (q.i n) (q.i (n+1))) (q.i (n+2)).toNat (q.i (n+3)).toNat)).toArray:=rfl
set_option maxRecDepth 20000 in
def vg:xj.OK Tryz.prog:=by
 refine Spec.of_fn (Γ:=[uO]) (fun t f=>by rw[MO]at f;subst f;exact Dd) ?_;rintro xs Hs Rs j q ⟨row,R,h,rfl,rfl,hx⟩;have e0:Hs=[]:=MF.1 j;subst e0;obtain⟨J,rfl,c,u,w,x,y⟩:=jL (R:=R) hx.ok;refine⟨Hq,J,fun _ _=>True,fun _ _=>0,?_,bM (by intro r hr;simp [Hq]at hr;subst hr;exact⟨_,_,_,rfl⟩) (by show [J.h 130]=_;rw[c]),(fun _ h=>nomatch h),?_⟩
 .rfl
 .refine Walk.read [] [] [] ?_;simp only[go_sem,Nat.reduceAdd,Kg,Kh,Ho];have hT:RdRows R (.slice (slP (J.i 53) (J.i 54)) (J.i 55).toNat (J.i 56).toNat) dg (h.t.map bys):=hx.tok;intro q1 z _ q2 A _;have e:Agree 131 J q2:=z.tr A;rw[e.i 53,e.i 54,e.i 55,e.i 56,e.h 130,c];refine⟨⟨_,h.t,R,rfl,rfl,hT,fun t f=>(hx.byte.2 t f).1,hx.byte.1⟩,fun a g3 ⟨F,⟨v',B,R',e1,o,hA,C⟩,d,l⟩=>?_⟩;simp only[MH,MZ]at e1 o;subst e1 o;have d:=d trivial;have eT:B=h.t:=bm (hA.uniq hT);subst eT;have D:Agree 131 J a:=e.tr g3;have m:av a 0=av J 0:=bf D.mono;have E:=hx.clone C;obtain⟨⟨G,m1,m2,m3⟩,_⟩:=l;intro _;refine⟨[],[3],rfl,rfl,⟨⟨fun k=>if 53<=k/\k<57 then a.i (k+80)else a.i k,a.b,a.s,a.v,a.h⟩,rfl,(tr8 (tr8 (tr8 (tr8 (tr8 (tr8 ⟨zzT,zzT,zzT,zzT,zzT,⟨G,m1,m2,m3⟩,tr8 (tr8 (tr8 (tr8 (tr8 (tr8 (tr8 (tr8 ⟨zzT,zzT,zzT,zzT,zzT,zzT,zzT,zzT⟩)))))))⟩)))))),zzT⟩,fun row' R2 h' g p n=>?_⟩
  .simp only[MH,MZ,Value.agg.injEq]at g p;have g:av J 0=row':=Ns Array.toList g;subst g p;rw[n.uniq hx,zL,m];refine⟨_,rfl,?_⟩;show aG (hls [a.h 133]) _ _;rw[hls_one,d];exact E
def bx {a b:List Int} (h1:ah a) (h2:ah b):ah (a++b):=fun z hz=>(Nb.1 hz).elim (h1 z) (h2 z)
def cX (n:Nat):ah (aq n):=fun z hz=>po n z hz
def En (b:Bool):ah (bE b):=by
 intro z hz;unfold bE at hz;rw[MO]at hz;subst hz;cases b<;>simp
def Eo (h:∀ t∈T,ah t):ah T.flatten:=by
 intro z hz;obtain⟨t,a,hz⟩:=Pn.1 hz;exact h t a z hz
def uX (hx:aG R row h) (hk:∀ j,j<n->cj[a+j]?=some (.int .u8)) (d:∀ j,j<n->a+j≠53):ah (aw h.c a n):=by
 intro z hz;obtain⟨j,b,rfl⟩:=Np.1 hz;have b:=Nn.1 b;rw[hx.I (d j b)];obtain⟨v,hv,hi⟩:=cR hx.ok (hk j b);have hr:=hx.rng v (MG hv);unfold cI;rw[hv];cases v<;>simp [valIs]at hi
 subst hi;exact hr
def J0 (hx:aG R row h):ah (cn h):=by
 have s1:=uX hx (a:=2) (n:=32) aj ae;have s2:=uX hx (a:=37) (n:=16) aj ae;have b:=uX hx (a:=60) (n:=32) aj ae;have c:=uX hx (a:=93) (n:=32) aj ae;unfold cn fU gP bQ;exact bx (bx (bx (bx (bx (bx (bx (bx (bx (bx (bx (bx (bx (bx (bx (bx (bx (cX _) (cX _)) s1) (cX _)) (En _)) (cX _)) s2) (cX _)) (Eo fun t d=>(hx.byte.2 t d).2)) (cX _)) (cX _)) (cX _)) (cX _)) (cX _)) (cX _)) b) (cX _)) c
def GS (hx:aG R row h):ah (aB h)/\(aB h).length<=900000:=by
 unfold aB;split
 .rename_i hf;refine⟨J0 hx,?_⟩;have:=jI hx hf.2.1;unfold cn;rw[MJ,aC];omega
 .exact⟨fun z hz=>(by cases hz),NO _⟩
noncomputable def ia (h:Hd):List Int:=qI (aB h)
def zF (h:rowOK row cj):∃ q:Env,row=av q 0/\q.h 130=R/\q.h 131=G/\ckNormsW 0 aI q:=by
 obtain⟨q,e,_,hn,_⟩:=jL (R:=R) h;exact⟨⟨q.i,q.b,q.s,q.v,fun k=>if k=130 then R else if k=131 then G else Hl.none⟩,e,rfl,rfl,hn⟩
noncomputable def Je:Sx.Spec where
 fn:=169
 own:=[]
 rd:=[10053,2000002]
 res:=[.agg (List.replicate 32 (Ck.int .u8))]
 pre:=fun xs Hs Rs=>∃ row R RG h,xs=[.agg row.toArray]/\Rs=[R,RG]/\aG R row h/\yE RG 2
 post:=fun xs Hs Rs v Hs' F=>∀ row R RG h,xs=[.agg row.toArray]->Rs=[R,RG]->aG R row h->v=.agg (bys (ia h)).toArray
noncomputable def Jf:List Sx.Spec:=[bytesS 116,lD]
def EV:∀ t∈Jf,t.OK Tryz.prog:=ai hJ <| ai rH <| aD
def Kj (f:FuncId):(bytesS f).res=[.one .sl]:=rfl
noncomputable def LV:Walk Tryz.prog Jf Je.fn where
 Λ:=noLoops
 args:=(cpSVs 0 [.agg aI]).map .sv
 mem:=[.ro 130 [.var 53] true,.ro 131 [.lit 2] false]
 nv:=132
def Bj (hr:s.res=[.agg (List.replicate 32 (Ck.int .u8))]) (he:Value.agg (List.map (CV.ev q) (ckCVs n (List.replicate 32 (Ck.int .u8)))).toArray=.agg (bys bs).toArray) (hl:bs.length=32) (h:∀ F,s.post xs [] Rs (.agg (bys bs).toArray) [] F):postOf s xs [] Rs q mem (.sv (.agg (ckCVs n (List.replicate 32 (Ck.int .u8))))):=by
 intro _;obtain⟨a,_,b,c⟩:=row_rep (List.replicate 32 (Ck.int .u8)) 0 (bys bs) q (jx 32 _ hl);refine⟨[],[],rfl,rfl,⟨a,?_,?_⟩,?_⟩
 .rw[hr];show Value.agg (List.map (CV.ev q) (ckCVs n (List.replicate 32 (Ck.int .u8)))).toArray=Value.agg ((ckCVs 0 (List.replicate 32 (Ck.int .u8))).map (CV.ev a)).toArray;rw[he,c]
 .rw[hr];exact⟨(tr8 (tr8 (tr8 (tr8 zzT)))),zzT⟩
 .have:=h (uni q mem []);rw[<-he]at this;exact this
def EU:Je.OK Tryz.prog:=by
 refine Spec.of_fn (Γ:=Jf) EV ?_;rintro xs Hs Rs e m ⟨row,R,RG,h,rfl,rfl,hx,hK⟩;have e0:Hs=[]:=MF.1 e;subst e0;obtain⟨J,rfl,a,b,n⟩:=zF (R:=R) (G:=RG) hx.ok;refine⟨LV,J,fun _ _=>True,fun _ _=>0,?_,bM (by intro r hr;simp [LV]at hr;rcases hr with rfl | rfl<;>exact⟨_,_,_,rfl⟩) (by show [J.h 130,J.h 131]=_;rw[a,b]),(fun _ h=>nomatch h),?_⟩
 .rfl
 .refine Walk.read [aI] [] [] ?_;simp only[go_sem,Nat.reduceAdd,Jf,Kj,I2,Ho];intro q1 o _ q2 p _;have f:Agree 132 J q2:=o.tr p;have er:av q2 0=av J 0:=bf f.mono;have er:List.map (CV.ev q2) (ckCVs 0 aI)=av J 0:=er;rw[er,f.h 130,a];refine⟨⟨_,R,h,rfl,rfl,hx⟩,fun t g3 ⟨F,hp,g,_⟩ k g4 p4=>?_⟩;have g:=g trivial;have hB:=mf hx hp;have q:Agree 132 J k:=f.trans (g3.mono.tr g4);rw[q.h 131,b,g4.h 134,g,g4.i 134,g4.i 135,g4.i 136,g4.i 137];have l:=kW (T:=22) p4 hB.rd.w;have hb:=GS hx;refine⟨⟨k.i 138,0,1,_,F,RG,aB h,rfl,rfl,l,MT _,hb.1,hb.2,hK⟩,fun u v ⟨x,c,_⟩=>?_⟩;have c:=c _ _ _ _ _ rfl rfl l;refine Bj rfl c (fO _) fun y row' R' s h' e1 d j=>?_;simp only[MH,MZ,Value.agg.injEq]at e1 d;have e1:av J 0=row':=Ns Array.toList e1;obtain⟨d,_⟩:=d;subst e1 d;rw[j.uniq hx];rfl
end Go.Proofs.YtbdikjnpbnobcaaGreatDoor
namespace Go.Sx
open Go
def Hl.but (F:Hl) (o:Option Nat):Hl:=fun b=>if some b=o then Option.none else F b
def Hl.yX (F:Hl) (o:Option Nat):(F.but o).le F:=fun b x h=>by
 unfold Hl.but at h;split at h
 .cases h
 .exact h
def Hl.rf {F G:Hl} {o o':Option Nat} (hk:∀ b,F.mem b->some b≠o->G b=F b) (hn:∀ b,F.mem b->some b≠o->some b≠o'):(F.but o).le (G.but o'):=fun b x h=>by
 unfold Hl.but at h ⊢;split at h
 .cases h
 .rename_i hb;have hm:F.mem b:=by unfold Hl.mem;rw[h];rfl
  rw[MM (hn b hm hb),hk b hm hb];exact h
end Go.Sx
namespace Go.Proofs.YtbdikjnpbnobcaaGreatDoor
open Go Go.Sx Go.Pk
variable {lg:Bool}{J J' q':Env}{h h':Hd}{F R' RA:Hl}{w:Int}{ks:List Ck}{raw vs:List Int}{C row row':List Value}{j k m' m1 m3 z:Nat}{old:Nat->E}{d u:Value}
def bC:List Ck:=aI++[.sl]
def oK:List Kd:=bC.map kdOf
def cC:Value:=.bool false
structure Pc where
 h:Hd
 b:List Int
structure aV (R1 R2:Hl) (row:List Value) (p:Pc):Prop where
 ok:rowOK row oK
 hd:aG R1 (row.take 125) p.h
 body:RdW R2 (row.getD 125 cC) p.b
 byte:ah p.b
 len:p.b.length<=1000000
def aV.mono {R1 R2 a b:Hl} {p:Pc} (x:aV R1 R2 row p) (h1:R1.le a) (h2:R2.le b):aV a b row p:=⟨x.ok,x.hd.mono h1,cD x.body h2,x.byte,x.len⟩
def aV.uniq {R1 R2:Hl} {p a:Pc} (x:aV R1 R2 row p) (y:aV R1 R2 row a):p=a:=by
 obtain⟨h,b⟩:=p;obtain⟨h',b'⟩:=a;have e1:h=h':=x.hd.uniq y.hd;have c:b=b':=x.body.uniq y.body;rw[e1,c]
def BV {q:Env} (g:Nat->Hl):∀ (ks:List Ck) (n:Nat),(ckCVs n ks).map (CV.ev q)=(ckCVs n ks).map (CV.ev ⟨q.i,q.b,q.s,q.v,g⟩)
 | [],_=>rfl
 | k::ks,n=>by
  show(k.cv n).ev q::_=(k.cv n).ev _::_;rw[BV g ks]
  congr 1
  cases k<;>rfl
def Co {q:Env} (g:Nat->Hl):∀ (ks:List Ck) (n:Nat),ckNormsW n ks q->ckNormsW n ks ⟨q.i,q.b,q.s,q.v,g⟩
 | [],_,_=>trivial
 | k::ks,n,h=>⟨(by have h1:=h.1;cases k<;>exact h1),Co g ks _ h.2⟩
def oI (hs:List (Nat×Hl)) (k:Nat):Hl:=match hs.find? (fun p=>p.1==k)with
 | some p=>p.2
 | none=>Hl.none
def fL (hs:List (Nat×Hl)) (h:rowOK row (ks.map kdOf)):∃ q:Env,row=(ckCVs 0 ks).map (CV.ev q)/\ckNormsW 0 ks q/\∀ k,q.h k=oI hs k:=by
 obtain⟨q,_,hn,e⟩:=row_rep ks 0 row (ay fun _=>0) h;exact⟨⟨q.i,q.b,q.s,q.v,oI hs⟩,by rw[<-BV (oI hs)];exact e.symm,Co _ _ _ hn,fun _=>rfl⟩
def ik {q:Env} : ∀ (a b:List Ck) (n:Nat),ckNormsW n (a++b) q->ckNormsW (n+ckLen a) b q:=by
 intro a
 induction a with
 | nil=>intro b n h;simpa [ckLen] using h
 | cons k a ih =>
  intro b n h;have:=ih b (n+k.len) h.2;rw[show n+k.len+ckLen a=n+ckLen (k::a)by simp [ckLen];omega]at this;exact this
def gI:∀ {n:Nat} {l:List Value} {ks:List Kd},rowOK l ks->rowOK (l.take n) (ks.take n)
 | 0,_,_,_=>trivial
 | _+1,[],[],_=>trivial
 | n+1,_::_,_::_,h=>⟨h.1,gI (n:=n) h.2⟩
 | _+1,[],_::_,h=>False.elim h
 | _+1,_::_,[],h=>False.elim h
def fS (R RA:Hl) (v:Value) (ps:List Pc):Prop:=∃ rows,RdRows R v oK rows/\rows.length=ps.length/\∀ (j:Nat) row p,rows[j]?=some row->ps[j]?=some p->aV RA RA row p
def fS.uniq {R:Hl} {v:Value} {a b:List Pc} (h:fS R RA v a) (h':fS R RA v b):a=b:=by
 obtain⟨rows,h1,h2,i⟩:=h;obtain⟨c,d,e,f⟩:=h';obtain rfl:=h1.uniq d;apply Oq (h2.symm.trans e);intro j k g;exact(i j _ _ (ME ae) (ME k)).uniq (f j _ _ (ME ae) (ME g))
def fK:oK.length=126:=by kernel_rfl
def sm:oK.take 125=cj:=by kernel_rfl
structure yF (R RA:Hl) (x y:Int) (k:Nat) (row:List Value) (c:Pc):Prop where
 x0:0<=x
 pc:aV RA RA row c
 cell:∀ j u,row[j]?=some u->R.cell x.toNat (y.toNat+k*126+j)=some u
def fS.at {R:Hl} {x y:Int} {l c:Nat} {ps:List Pc} (h:fS R RA (.slice (slP x y) l c) ps) (hy:0<=y):l=ps.length/\∀ (k:Nat) p,ps[k]?=some p->∃ row,yF R RA x y k row p:=by
 obtain⟨rows,⟨x1,e,c1,he,b,hr⟩,hl,hp⟩:=h;simp only[Value.slice.injEq]at he;refine⟨he.2.1.trans hl,fun k p hk=>?_⟩;have kD:=(MK.1 hk).1;have av:rows[k]?=some rows[k]:=ME ae;rcases hr with rfl | ⟨a,hr⟩
 .simp at hl;omega
 obtain⟨e1,d⟩:=jz a b hy he.1;subst e1 d;obtain⟨_,h2⟩:=hr k _ av;rw[fK]at h2;exact⟨rows[k],a,hp k _ _ av hk,h2⟩
def CS {R:Hl} {b:List Int} (h:RdW R u b):valP (some u) 2=b.length:=by
 obtain⟨x,y,c,rfl,_⟩:=h;simp [valP]
def yF.cells {R:Hl} {x y:Int} {c:Pc} (h:yF R RA x y k row c) (hy:0<=y):valP (R.cell x.toNat ((y+(k:Int)*126).toNat+125)) 2=c.b.length/\valI (R.cell x.toNat ((y+(k:Int)*126).toNat+92))=cI c.h.c 92:=by
 have e:(y+(k:Int)*126).toNat=y.toNat+k*126:=ae;have hl:=fg h.pc.ok;rw[fK]at hl;have a:row[125]?=some row[125]:=ME ae;have d:row[92]?=some row[92]:=ME ae;rw[e,h.cell 125 _ a,h.cell 92 _ d];refine⟨?_,?_⟩
 .have hb:=h.pc.body;rw[MR,a,Oe]at hb;exact CS hb
 .have:=h.pc.hd.I (k:=92) aj;rw[this];unfold cI;rw[NB,M0 aj,d]
structure PS where
 l:List Int
 bad:Bool
def aS (m:Int) (s:PS):PS:=⟨(fZ s.l s.bad m).2.1,(fZ s.l s.bad m).2.2⟩
def au (m:Int) (s:PS):Int:=(fZ s.l s.bad m).1
def ir (n:Int) (s:PS):PS:=⟨(fI s.l s.bad n).2.1,(fI s.l s.bad n).2.2⟩
def aL (n:Int) (s:PS):List Int:=(fI s.l s.bad n).1
def bY (s:PS):PS:=⟨(dZ s.l s.bad).2.1,(dZ s.l s.bad).2.2⟩
def bH (s:PS):Bool:=(dZ s.l s.bad).1
def aW (n:Nat) (l:List Int):List Int:=(List.range n).map fun j=>l.getD j 0
def aT (n:Nat) (l:List Int):(aW n l).length=n:=by unfold aW;simp
def cJ {n:Nat} {l:List Int} (h:l.length=n):aW n l=l:=by
 apply Ni;intro j;unfold aW;rw[MU];by_cases a:j<n
 .rw[Nf a,Nl,MR,ME ae];rfl
 .rw[MS (by simp;omega),MS ae];rfl
section
variable {s:PS}
def fv {m:Int} (hb:ah s.l) (h:(aS m s).bad=false):s.bad=false/\s.l=aq (au m s).toNat++(aS m s).l/\0<=au m s/\au m s<=m/\au m s<18446744073709551616:=by
 unfold aS au fZ at *;split at h
 .cases h
 .rename_i a;rw[MM a];have h1:s.bad=false:=by
   cases hs:s.bad
   .rfl
   .exact absurd (Or.inl hs) a
  have h2:(aJ s.l).2≠0:=fun e=>a (Or.inr (Or.inl e));have b:¬m<((aJ s.l).1:Int):=fun e=>a (Or.inr (Or.inr e));cases hn:jf s.l with
  | none=>unfold aJ at h2;rw[hn]at h2;exact absurd rfl h2
  | some r =>
   obtain⟨x,k⟩:=r;obtain⟨_,_,c,d⟩:=kI hb hn;have e:aJ s.l=(x,k):=by unfold aJ;rw[hn];rfl
   rw[e]at b ⊢;refine⟨h1,?_,by show(0:Int)<=(x:Int);omega,by show(x:Int)<=m;simp only at b;omega,by show(x:Int)<_;omega⟩;show s.l=aq ((x:Int)).toNat++s.l.drop k;rw[MD,<-c,On]
def AI {n:Int} (h:(ir n s).bad=false):s.bad=false/\s.l=aL n s++(ir n s).l/\(aL n s).length=n.toNat:=by
 unfold ir aL fI at *;split at h
 .cases h
 .rename_i a;rw[MM a];have h1:s.bad=false:=by
   cases hs:s.bad
   .rfl
   .exact absurd (Or.inl hs) a
  have h2:¬(s.l.length:Int)<n:=fun e=>a (Or.inr (Or.inr e));exact⟨h1,(On _ _).symm,by show(s.l.take n.toNat).length=_;rw[M3];omega⟩
def Dv (h:(bY s).bad=false) (hb:ah s.l):s.bad=false/\s.l=bE (bH s)++(bY s).l:=by
 unfold bY bH dZ at *;split at h
 .cases h
 .rename_i a;rw[MM a];have h1:s.bad=false:=by
   cases hs:s.bad
   .rfl
   .exact absurd (Or.inl hs) a
  have h2:s.l≠[]:=fun e=>a (Or.inr (Or.inl e));have b:¬1<s.l.getD 0 0:=fun e=>a (Or.inr (Or.inr e));refine⟨h1,?_⟩;cases hl:s.l with
  | nil=>exact absurd hl h2
  | cons x t =>
   rw[hl]at b;have hx:=hb x (by rw[hl];exact Nh ..);have b:¬1<x:=b;show x::t=bE (decide (x=1))++t;unfold bE;have:x=0\/x=1:=ae;rcases this with rfl | rfl<;>rfl
def DP {m:Int} {t:List Int} (h1:(z:Int)<=m) (h2:z<18446744073709551616):aS m ⟨aq z++t,false⟩=⟨t,false⟩/\au m ⟨aq z++t,false⟩=z:=by
 have e:aJ (aq z++t)=(z,(aq z).length):=by unfold aJ;rw[kJ h2];rfl
 have hp:=jX z;have a:¬((false:Bool)=true\/(aJ (aq z++t)).2=0\/m<((aJ (aq z++t)).1:Int)):=by
  rw[e];rintro(x | x | x)
  .cases x
  .simp only at x;omega
  .simp only at x;omega
 unfold aS au fZ;rw[MM a,e];refine⟨?_,rfl⟩;show PS.mk ((aq z++t).drop (aq z).length) false=_;rw[PI]
def DU {n:Int} {l t:List Int} (h:(l.length:Int)=n):ir n ⟨l++t,false⟩=⟨t,false⟩/\aL n ⟨l++t,false⟩=l:=by
 have a:¬((false:Bool)=true\/n<0\/((l++t).length:Int)<n):=by
  rw[MJ];rintro(x | x | x)
  .cases x
  .omega
  .omega
 have hn:n.toNat=l.length:=ae;unfold ir aL fI;rw[MM a,hn];refine⟨?_,?_⟩
 .show PS.mk ((l++t).drop l.length) false=_;rw[PI]
 .show(l++t).take l.length=_;rw[Ox]
def E0 {b:Bool} {t:List Int} : bY ⟨bE b++t,false⟩=⟨t,false⟩/\bH ⟨bE b++t,false⟩=b:=by
 cases b
 .exact⟨rfl,rfl⟩
 .exact⟨rfl,rfl⟩
def aE {m:Int} (hb:ah s.l):ah (aS m s).l:=by
 unfold aS fZ;split
 .exact hb
 .exact bJ hb _
def gG {n:Int} (hb:ah s.l):ah (ir n s).l:=by
 unfold ir fI;split
 .exact hb
 .exact bJ hb _
def iL (hb:ah s.l):ah (bY s).l:=by
 unfold bY dZ;split
 .exact hb
 .exact bJ hb _
def aU {m:Int} (hm:0<=m):0<=au m s/\au m s<=m:=by
 unfold au fZ;split
 .exact⟨MT _,hm⟩
 .rename_i a;have b:¬m<((aJ s.l).1:Int):=fun e=>a (Or.inr (Or.inr e));exact⟨by show(0:Int)<=((aJ s.l).1:Int);omega,by show((aJ s.l).1:Int)<=m;omega⟩
def ky {n:Int} (hb:ah s.l):ah (aL n s):=by
 unfold aL fI;split
 .exact fun b h=>by cases h
 .exact fun b h=>hb b (Ov h)
def nG {n:Nat} {l:List Int} (h:ah l):ah (aW n l):=by
 intro b hb;unfold aW at hb;obtain⟨j,_,rfl⟩:=Np.1 hb;rw[MR];cases a:l[j]? with
 | none=>exact⟨MT _,aj⟩
 | some z=>exact h z (MG a)
end
def aQ:Nat->PS->List (List Int)×PS
 | 0,s=>([],s)
 | k+1,s=>((aQ k s).1++[aW 16 (aL 16 (aQ k s).2)],ir 16 (aQ k s).2)
def Bo:∀ (k:Nat) (s:PS),(aQ k s).2.bad=false->s.bad=false/\s.l=(aQ k s).1.flatten++(aQ k s).2.l
 | 0,s,h=>⟨h,rfl⟩
 | k+1,s,h=>by
  obtain⟨h1,h2,a⟩:=AI (s:=(aQ k s).2) h;obtain⟨b,c⟩:=Bo k s h1;refine⟨b,?_⟩;show s.l=((aQ k s).1++[aW 16 (aL 16 (aQ k s).2)]).flatten++(ir 16 (aQ k s).2).l;rw[cJ (n:=16) a,O8,Oz,Pp,Nu,MY,<-h2];exact c
def Bp:∀ (T:List (List Int)) (k:Nat),k<=T.length->(∀ t∈T,t.length=16)->∀ t,aQ k ⟨T.flatten++t,false⟩=(T.take k,⟨(T.drop k).flatten++t,false⟩)
 | T,0,_,_,t=>rfl
 | T,k+1,hk,hT,t=>by
  have ih:=Bp T k ae hT t;have hx:=ME (show k<T.length by omega);have hl:=hT _ (MG hx);have e:(T.drop k).flatten++t=T[k]++((T.drop (k+1)).flatten++t):=by
   rw[O5 ae,Oz,MY]
  obtain⟨r1,r2⟩:=DU (n:=16) (l:=T[k]) (t:=(T.drop (k+1)).flatten++t) ae;show((aQ k _).1++[aW 16 (aL 16 (aQ k _).2)],ir 16 (aQ k _).2)=_;rw[ih,e,r1,r2,cJ hl,Oh,hx];rfl
def fE:∀ (k:Nat) (s:PS),(aQ k s).1.length=k
 | 0,_=>rfl
 | k+1,s=>by
  show((aQ k s).1++[_]).length=_;rw[MJ,fE k s];rfl
def iX:∀ (k:Nat) (s:PS),ah s.l->(∀ t∈(aQ k s).1,t.length=16/\ah t)/\ah (aQ k s).2.l
 | 0,s,h=>⟨fun t a=>(by cases a),h⟩
 | k+1,s,h=>by
  obtain⟨h1,h2⟩:=iX k s h;refine⟨fun t a=>?_,gG h2⟩;rcases Nb.1 a with a | a
  .exact h1 t a
  .rw[MO]at a;subst a;exact⟨aT _ _,nG (ky h2)⟩
def p0 (b:List Int):PS:=⟨b,false⟩
def p1 (b:List Int):PS:=aS 6 (p0 b)
def p2 (b:List Int):PS:=aS 1048576 (p1 b)
def p3 (b:List Int):PS:=ir 32 (p2 b)
def p4 (b:List Int):PS:=aS 255 (p3 b)
def p5 (b:List Int):PS:=bY (p4 b)
def p6 (b:List Int):PS:=aS 1099511627776 (p5 b)
def p7 (b:List Int):PS:=ir 16 (p6 b)
def p8 (b:List Int):PS:=aS 8 (p7 b)
def hN (b:List Int):Nat:=(au 8 (p7 b)).toNat
def hT (b:List Int):List (List Int):=(aQ (hN b) (p8 b)).1
def k0 (b:List Int):PS:=(aQ (hN b) (p8 b)).2
def k1 (b:List Int):PS:=aS 1048576 (k0 b)
def k2 (b:List Int):PS:=aS 1048576 (k1 b)
def k3 (b:List Int):PS:=aS 1048576 (k2 b)
def k4 (b:List Int):PS:=aS 1048576 (k3 b)
def k5 (b:List Int):PS:=aS 1048576 (k4 b)
def k6 (b:List Int):PS:=aS 1048576 (k5 b)
def px (b:List Int):PS:=ir 32 (k6 b)
def nF (b:List Int):PS:=aS 2064 (px b)
def yB (b:List Int):PS:=ir 32 (nF b)
def bz (b:List Int) (u:Value):List Value :=
 [.int .i64 (au 6 (p0 b)),.int .u64 (au 1048576 (p1 b))]++bys (aW 32 (aL 32 (p2 b)))++[.int .i64 (au 255 (p3 b)),.bool (bH (p4 b)),.int .u64 (au 1099511627776 (p5 b))]++bys (aW 16 (aL 16 (p6 b)))++[u] ++
 [.int .u64 (au 1048576 (k0 b)),.int .u64 (au 1048576 (k1 b)),.int .u64 (au 1048576 (k2 b)),.int .u64 (au 1048576 (k3 b)),.int .u64 (au 1048576 (k4 b)),.int .u64 (au 1048576 (k5 b))]++bys (aW 32 (aL 32 (k6 b)))++[.int .i64 (au 2064 (px b))]++bys (aW 32 (aL 32 (nF b)))
def gn {A:List Value} {B:List Int} {a n:Nat} (c:A.length=a) (hn:B.length=n):aw (A++bys B++C) a n=B:=by
 subst c hn;apply Ni;intro j;unfold aw;rw[MU];by_cases b:j<B.length
 .rw[Nf b,Nl,ME b];unfold cI bys;rw[M5 (by rw[MJ,M7];omega),MX ae,show A.length+j-A.length=j by omega,MU,ME b];rfl
 .rw[MS (by simp;omega),MS ae];rfl
def bD (b:List Int):Hd:=⟨bz b (.bool false),hT b⟩
section
variable (b:List Int)
def J4:cI (bD b).c 0=au 6 (p0 b):=rfl
def J5:cI (bD b).c 1=au 1048576 (p1 b):=rfl
def J6:aw (bD b).c 2 32=aW 32 (aL 32 (p2 b)):=by
 have e:(bD b).c=([Value.int .i64 (au 6 (p0 b)),.int .u64 (au 1048576 (p1 b))])++bys (aW 32 (aL 32 (p2 b)))++([Value.int .i64 (au 255 (p3 b)),.bool (bH (p4 b)),.int .u64 (au 1099511627776 (p5 b))]++(bys (aW 16 (aL 16 (p6 b)))++([Value.bool false]++([Value.int .u64 (au 1048576 (k0 b)),.int .u64 (au 1048576 (k1 b)),.int .u64 (au 1048576 (k2 b)),.int .u64 (au 1048576 (k3 b)),.int .u64 (au 1048576 (k4 b)),.int .u64 (au 1048576 (k5 b))]++(bys (aW 32 (aL 32 (k6 b)))++([Value.int .i64 (au 2064 (px b))]++(bys (aW 32 (aL 32 (nF b)))))))))):=by
  show bz b (.bool false)=_;unfold bz;simp only[MY,Nu]
 rw[e];exact gn (by simp [aT,bys]) (aT _ _)
def EA:cI (bD b).c 34=au 255 (p3 b):=rfl
def EB:cB (bD b).c 35=bH (p4 b):=rfl
def EC:cI (bD b).c 36=au 1099511627776 (p5 b):=rfl
def ED:aw (bD b).c 37 16=aW 16 (aL 16 (p6 b)):=by
 have e:(bD b).c=([Value.int .i64 (au 6 (p0 b)),.int .u64 (au 1048576 (p1 b))]++bys (aW 32 (aL 32 (p2 b)))++[Value.int .i64 (au 255 (p3 b)),.bool (bH (p4 b)),.int .u64 (au 1099511627776 (p5 b))])++bys (aW 16 (aL 16 (p6 b)))++([Value.bool false]++([Value.int .u64 (au 1048576 (k0 b)),.int .u64 (au 1048576 (k1 b)),.int .u64 (au 1048576 (k2 b)),.int .u64 (au 1048576 (k3 b)),.int .u64 (au 1048576 (k4 b)),.int .u64 (au 1048576 (k5 b))]++(bys (aW 32 (aL 32 (k6 b)))++([Value.int .i64 (au 2064 (px b))]++(bys (aW 32 (aL 32 (nF b)))))))):=by
  show bz b (.bool false)=_;unfold bz;simp only[MY,Nu]
 rw[e];exact gn (by simp [aT,bys]) (aT _ _)
def EE:cI (bD b).c 54=au 1048576 (k0 b):=rfl
def EF:cI (bD b).c 55=au 1048576 (k1 b):=rfl
def EG:cI (bD b).c 56=au 1048576 (k2 b):=rfl
def EH:cI (bD b).c 57=au 1048576 (k3 b):=rfl
def EI:cI (bD b).c 58=au 1048576 (k4 b):=rfl
def EJ:cI (bD b).c 59=au 1048576 (k5 b):=rfl
def He:aw (bD b).c 60 32=aW 32 (aL 32 (k6 b)):=by
 have e:(bD b).c=([Value.int .i64 (au 6 (p0 b)),.int .u64 (au 1048576 (p1 b))]++bys (aW 32 (aL 32 (p2 b)))++[Value.int .i64 (au 255 (p3 b)),.bool (bH (p4 b)),.int .u64 (au 1099511627776 (p5 b))]++bys (aW 16 (aL 16 (p6 b)))++[Value.bool false]++[Value.int .u64 (au 1048576 (k0 b)),.int .u64 (au 1048576 (k1 b)),.int .u64 (au 1048576 (k2 b)),.int .u64 (au 1048576 (k3 b)),.int .u64 (au 1048576 (k4 b)),.int .u64 (au 1048576 (k5 b))])++bys (aW 32 (aL 32 (k6 b)))++([Value.int .i64 (au 2064 (px b))]++(bys (aW 32 (aL 32 (nF b))))):=by
  show bz b (.bool false)=_;unfold bz;simp only[MY,Nu]
 rw[e];exact gn (by simp [aT,bys]) (aT _ _)
def EK:cI (bD b).c 92=au 2064 (px b):=rfl
def Hf:aw (bD b).c 93 32=aW 32 (aL 32 (nF b)):=by
 have e:(bD b).c=([Value.int .i64 (au 6 (p0 b)),.int .u64 (au 1048576 (p1 b))]++bys (aW 32 (aL 32 (p2 b)))++[Value.int .i64 (au 255 (p3 b)),.bool (bH (p4 b)),.int .u64 (au 1099511627776 (p5 b))]++bys (aW 16 (aL 16 (p6 b)))++[Value.bool false]++[Value.int .u64 (au 1048576 (k0 b)),.int .u64 (au 1048576 (k1 b)),.int .u64 (au 1048576 (k2 b)),.int .u64 (au 1048576 (k3 b)),.int .u64 (au 1048576 (k4 b)),.int .u64 (au 1048576 (k5 b))]++bys (aW 32 (aL 32 (k6 b)))++[Value.int .i64 (au 2064 (px b))])++bys (aW 32 (aL 32 (nF b)))++([]):=by
  show bz b (.bool false)=_;unfold bz;simp only[MY,Nu]
 rw[e];exact gn (by simp [aT,bys]) (aT _ _)
end
def aO {z:Int} (h0:0<=z) (h1:z<18446744073709551616):cu z=z.toNat:=by unfold cu;rw[iG h0 h1]
def KH {b:List Int} (hb:ah b) (h:(yB b).bad=false) (hl:(yB b).l=[]):cn (bD b)=b:=by
 have w:ah (p0 b).l:=hb;have b1:ah (p1 b).l:=aE w;have b2:ah (p2 b).l:=aE b1;have x:ah (p3 b).l:=gG b2;have y:ah (p4 b).l:=aE x;have z:ah (p5 b).l:=iL y;have b6:ah (p6 b).l:=aE z;have b7:ah (p7 b).l:=gG b6;have A:ah (p8 b).l:=aE b7;have d0:ah (k0 b).l:=(iX _ _ A).2;have d1:ah (k1 b).l:=aE d0;have d2:ah (k2 b).l:=aE d1;have d3:ah (k3 b).l:=aE d2;have d4:ah (k4 b).l:=aE d3;have d5:ah (k5 b).l:=aE d4;have d6:ah (k6 b).l:=aE d5;have e:ah (px b).l:=gG d6;obtain⟨f,a,g⟩:=AI (s:=nF b) (n:=32) h;obtain⟨i,c,j,B,_⟩:=fv (s:=px b) (m:=2064) e f;obtain⟨C,d,k⟩:=AI (s:=k6 b) (n:=32) i;obtain⟨D,f6,_⟩:=fv (s:=k5 b) (m:=1048576) d5 C;obtain⟨g4,f5,_⟩:=fv (s:=k4 b) (m:=1048576) d4 D;obtain⟨g3,f4,_⟩:=fv (s:=k3 b) (m:=1048576) d3 g4;obtain⟨E,f3,_⟩:=fv (s:=k2 b) (m:=1048576) d2 g3;obtain⟨F,f2,_⟩:=fv (s:=k1 b) (m:=1048576) d1 E;obtain⟨g0,f1,_⟩:=fv (s:=k0 b) (m:=1048576) d0 F;obtain⟨G,f0⟩:=Bo (hN b) (p8 b) g0;obtain⟨H,o,N,O,_⟩:=fv (s:=p7 b) (m:=8) b7 G;obtain⟨I,p,n7⟩:=AI (s:=p6 b) (n:=16) H;obtain⟨J,q,_⟩:=fv (s:=p5 b) (m:=1099511627776) z I;obtain⟨K,r⟩:=Dv (s:=p4 b) J y;obtain⟨L,t,M,P,_⟩:=fv (s:=p3 b) (m:=255) x K;obtain⟨h2,u,n3⟩:=AI (s:=p2 b) (n:=32) L;obtain⟨h1,v,_⟩:=fv (s:=p1 b) (m:=1048576) b1 h2;obtain⟨_,e1,x1,Q,_⟩:=fv (s:=p0 b) (m:=6) w h1;have a:(nF b).l=aL 32 (nF b):=by rw[a];show _++(yB b).l=_;rw[hl,Nu]
 have e1:b=_++(p1 b).l:=e1;have v:(p1 b).l=_++(p2 b).l:=v;have u:(p2 b).l=_++(p3 b).l:=u;have t:(p3 b).l=_++(p4 b).l:=t;have r:(p4 b).l=_++(p5 b).l:=r;have q:(p5 b).l=_++(p6 b).l:=q;have p:(p6 b).l=_++(p7 b).l:=p;have o:(p7 b).l=aq (hN b)++(p8 b).l:=o;have f0:(p8 b).l=(hT b).flatten++(k0 b).l:=f0;have f1:(k0 b).l=_++(k1 b).l:=f1;have f2:(k1 b).l=_++(k2 b).l:=f2;have f3:(k2 b).l=_++(k3 b).l:=f3;have f4:(k3 b).l=_++(k4 b).l:=f4;have f5:(k4 b).l=_++(k5 b).l:=f5;have f6:(k5 b).l=_++(k6 b).l:=f6;have d:(k6 b).l=_++(px b).l:=d;have c:(px b).l=_++(nF b).l:=c;have hlen:(hT b).length=hN b:=fE _ _;have key:cn (bD b)=aq (au 6 (p0 b)).toNat++(aq (au 1048576 (p1 b)).toNat++(aL 32 (p2 b)++(aq (au 255 (p3 b)).toNat++(bE (bH (p4 b))++(aq (au 1099511627776 (p5 b)).toNat++(aL 16 (p6 b)++(aq (hN b)++((hT b).flatten++(aq (au 1048576 (k0 b)).toNat++(aq (au 1048576 (k1 b)).toNat++(aq (au 1048576 (k2 b)).toNat++(aq (au 1048576 (k3 b)).toNat++(aq (au 1048576 (k4 b)).toNat++(aq (au 1048576 (k5 b)).toNat++(aL 32 (k6 b)++(aq (au 2064 (px b)).toNat++aL 32 (nF b))))))))))))))))):=by
  unfold cn fU gP bQ;show _++aq (hT b).length++(hT b).flatten++_++_++_++_++_++_++_++_++_=_;rw[hlen,J4,J5,J6,EA,EB,EC,ED,EE,EF,EG,EH,EI,EJ,He,EK,Hf,aO x1 ae,aO M ae,aO j ae,cJ (n:=32) n3,cJ (n:=16) n7,cJ (n:=32) k,cJ (n:=32) g];simp only[MY]
 rw[key,<-a,<-c,<-d,<-f6,<-f5,<-f4,<-f3,<-f2,<-f1,<-f0,<-o,<-p,<-q,<-r,<-t,<-u,<-v,<-e1]
section
variable {s:PS} {t:List Int}
def ba {m:Int} (hs:s=⟨aq z++t,false⟩) (h1:(z:Int)<=m) (h2:z<18446744073709551616):aS m s=⟨t,false⟩/\au m s=z:=by
 subst hs;exact DP h1 h2
def lH {n:Int} {l:List Int} (hs:s=⟨l++t,false⟩) (h:(l.length:Int)=n):ir n s=⟨t,false⟩/\aL n s=l:=by
 subst hs;exact DU h
def tE {b:Bool} (hs:s=⟨bE b++t,false⟩):bY s=⟨t,false⟩/\bH s=b:=by
 subst hs;exact E0
def uR {T:List (List Int)} (hs:s=⟨T.flatten++t,false⟩) (hT:∀ x∈T,x.length=16):aQ T.length s=(T,⟨t,false⟩):=by
 subst hs;rw[Bp T T.length (M1 _) hT,NZ,List.drop_length,Pp,N1]
end
def qS {a b:List Value} {i n:Nat} (h:aw a i n=aw b i n):gx (cI a) i n↔gx (cI b) i n:=by
 refine iZ fun j c=>?_;have:=Ns (fun l=>l[j]?) h;unfold aw at this;simpa [MU,Nf c] using this
def KI {R:Hl} (hx:aG R row h) (hF:h.Form):(yB (cn h)).bad=false/\(yB (cn h)).l=[]/\(bD (cn h)).Form:=by
 obtain⟨⟨hw,hs,he,C,hk,D,hp⟩,h8,E,r,F⟩:=id hF;have u:∀ {k:Nat},cj[k]?=some (.int .u64)->k≠53->0<=cI h.c k:=fun {k} hk G=>by
  rw[hx.I G];exact(hx.rng _ (MG (mE hx.ok hk))).1
 have u1:0<=cI h.c 1:=u rfl aj;have ab:0<=cI h.c 36:=u rfl aj;have ad:0<=cI h.c 54:=u rfl aj;have af:0<=cI h.c 55:=u rfl aj;have ag:0<=cI h.c 56:=u rfl aj;have ah:0<=cI h.c 57:=u rfl aj;have ai:0<=cI h.c 58:=u rfl aj;have ak:0<=cI h.c 59:=u rfl aj;have hsz:80<=cI h.c 92/\cI h.c 92<=2064:=jQ r;have s:∀ t∈h.t,t.length=16:=fun t C=>(hx.byte.2 t C).1;generalize hb:cn h=b;have key:b=aq (cI h.c 0).toNat++(aq (cI h.c 1).toNat++(aw h.c 2 32++(aq (cI h.c 34).toNat++(bE (cB h.c 35)++(aq (cI h.c 36).toNat++(aw h.c 37 16++(aq h.t.length++(h.t.flatten++(aq (cI h.c 54).toNat++(aq (cI h.c 55).toNat++(aq (cI h.c 56).toNat++(aq (cI h.c 57).toNat++(aq (cI h.c 58).toNat++(aq (cI h.c 59).toNat++(aw h.c 60 32++(aq (cI h.c 92).toNat++(aw h.c 93 32++([])))))))))))))))))):=by
  rw[<-hb];unfold cn fU gP bQ;rw[aO (z:=cI h.c 0) ae ae,aO (z:=cI h.c 34) ae ae,aO (z:=cI h.c 92) ae ae];simp only[MY,Nu]
 have s0:p0 b=⟨_,false⟩:=Ns (fun l=>PS.mk l false) key;obtain⟨s1,v1⟩:=ba (m:=6) (z:=(cI h.c 0).toNat) s0 ae ae;have s1:p1 b=⟨_,false⟩:=s1;obtain⟨s2,v2⟩:=ba (m:=1048576) (z:=(cI h.c 1).toNat) s1 ae ae;have s2:p2 b=⟨_,false⟩:=s2;obtain⟨H,v3⟩:=lH (n:=32) (l:=aw h.c 2 32) s2 (by rw[aC];rfl);have H:p3 b=⟨_,false⟩:=H;obtain⟨J,v4⟩:=ba (m:=255) (z:=(cI h.c 34).toNat) H ae ae;have J:p4 b=⟨_,false⟩:=J;obtain⟨K,v5⟩:=tE J;have K:p5 b=⟨_,false⟩:=K;obtain⟨L,v6⟩:=ba (m:=1099511627776) (z:=(cI h.c 36).toNat) K ae ae;have L:p6 b=⟨_,false⟩:=L;obtain⟨M,v7⟩:=lH (n:=16) (l:=aw h.c 37 16) L (by rw[aC];rfl);have M:p7 b=⟨_,false⟩:=M;obtain⟨s8,v8⟩:=ba (m:=8) (z:=h.t.length) M ae ae;have s8:p8 b=⟨_,false⟩:=s8;have vN:hN b=h.t.length:=by unfold hN;rw[v8];exact MD _
 have N:=uR s8 s;rw[<-vN]at N;have O:(aQ (hN b) (p8 b)).2=⟨_,false⟩:=Ns Prod.snd N;have vT:hT b=h.t:=Ns Prod.fst N;have O:k0 b=⟨_,false⟩:=O;obtain⟨d,v10⟩:=ba (m:=1048576) (z:=(cI h.c 54).toNat) O ae ae;have d:k1 b=⟨_,false⟩:=d;obtain⟨f,v11⟩:=ba (m:=1048576) (z:=(cI h.c 55).toNat) d ae ae;have f:k2 b=⟨_,false⟩:=f;obtain⟨g,P⟩:=ba (m:=1048576) (z:=(cI h.c 56).toNat) f ae ae;have g:k3 b=⟨_,false⟩:=g;obtain⟨i,Q⟩:=ba (m:=1048576) (z:=(cI h.c 57).toNat) g ae ae;have i:k4 b=⟨_,false⟩:=i;obtain⟨j,S⟩:=ba (m:=1048576) (z:=(cI h.c 58).toNat) i ae ae;have j:k5 b=⟨_,false⟩:=j;obtain⟨o,T⟩:=ba (m:=1048576) (z:=(cI h.c 59).toNat) j ae ae;have o:k6 b=⟨_,false⟩:=o;obtain⟨p,al⟩:=lH (n:=32) (l:=aw h.c 60 32) o (by rw[aC];rfl);have p:px b=⟨_,false⟩:=p;obtain⟨q,U⟩:=ba (m:=2064) (z:=(cI h.c 92).toNat) p ae ae;have q:nF b=⟨_,false⟩:=q;obtain⟨a,an⟩:=lH (n:=32) (l:=aw h.c 93 32) q (by rw[aC];rfl);have a:yB b=⟨_,false⟩:=a;refine⟨Ns PS.bad a,Ns PS.l a,?_⟩;have q0:cI (bD b).c 0=cI h.c 0:=(J4 b).trans (v1.trans ae);have q1:cI (bD b).c 1=cI h.c 1:=(J5 b).trans (v2.trans ae);have V:cI (bD b).c 34=cI h.c 34:=(EA b).trans (v4.trans ae);have W:cI (bD b).c 36=cI h.c 36:=(EC b).trans (v6.trans ae);have v:cI (bD b).c 54=cI h.c 54:=(EE b).trans (v10.trans ae);have w:cI (bD b).c 55=cI h.c 55:=(EF b).trans (v11.trans ae);have x:cI (bD b).c 56=cI h.c 56:=(EG b).trans (P.trans ae);have y:cI (bD b).c 57=cI h.c 57:=(EH b).trans (Q.trans ae);have A:cI (bD b).c 58=cI h.c 58:=(EI b).trans (S.trans ae);have B:cI (bD b).c 59=cI h.c 59:=(EJ b).trans (T.trans ae);have X:cI (bD b).c 92=cI h.c 92:=(EK b).trans (U.trans ae);have Y:cB (bD b).c 35=cB h.c 35:=(EB b).trans v5;have Z:gx (cI (bD b).c) 2 32↔gx (cI h.c) 2 32:=qS ((J6 b).trans (by rw[show aL 32 (p2 b)=_ from v3];exact cJ (aC _ _ _)));have aa:gx (cI (bD b).c) 37 16↔gx (cI h.c) 37 16:=qS ((ED b).trans (by rw[show aL 16 (p6 b)=_ from v7];exact cJ (aC _ _ _)));have qk:cI (bD b).c (54+(cI h.c 0-1).toNat)=cI h.c (54+(cI h.c 0-1).toNat):=by
  have:(cI h.c 0-1).toNat=0\/(cI h.c 0-1).toNat=1\/(cI h.c 0-1).toNat=2\/(cI h.c 0-1).toNat=3\/(cI h.c 0-1).toNat=4\/(cI h.c 0-1).toNat=5:=ae;rcases this with e | e | e | e | e | e<;>rw[e]
  .exact v
  .exact w
  .exact x
  .exact y
  .exact A
  .exact B
 have qt:(bD b).t=h.t:=vT;unfold Hd.Form bg;rw[qt,Y,q0,q1,V,W,qk,v,w,x,y,A,B,X,Z,aa];exact⟨⟨hw,hs,he,C,hk,D,hp⟩,h8,E,r,F⟩
def xk (a n:Nat) (N:E) (h:Nat) (X Y:E) (old:Nat->E):List CV:=(List.range n).map fun j=>.int .u8 (.ite (.lt (.lit ((a+j:Nat):Int)) (.add (.lit (a:Int)) N)) (.hI h X Y j) (old j))
def BW (n:Nat) (N:E) (h:Nat) (X Y:E) (old:Nat->E):List CV:=(List.range n).map fun j=>.int .u8 (.ite (.lt (.lit ((j:Nat):Int)) N) (.hI h X Y j) (old j))
def vZ:List CV:=([.int .i64 (.wrap .i64 (.var 9)),.int .u64 (.var 11)]++(xk 2 32 (.ite (.lt (.var 15) (.lit 32)) (.var 15) (.lit 32)) 14 (.var 13) (.var 14) (fun _=>.lit 0))++[.int .i64 (.wrap .i64 (.var 17)),.bool (.bvar 19),.int .u64 (.var 21)]++(xk 37 16 (.ite (.lt (.var 25) (.lit 16)) (.var 25) (.lit 16)) 24 (.var 23) (.var 24) (fun _=>.lit 0))++[.sl (.lit (-1)) (.lit 0) (.lit 0) (.lit 0),.int .u64 (.lit 0),.int .u64 (.lit 0),.int .u64 (.lit 0),.int .u64 (.lit 0),.int .u64 (.lit 0),.int .u64 (.lit 0)]++List.replicate 32 (CV.int .u8 (.lit 0))++[.int .i64 (.lit 0)]++List.replicate 32 (CV.int .u8 (.lit 0)))
def wa:List CV:=(ckCVs 300 ([Ck.int .i64,Ck.int .u64]++List.replicate 32 (Ck.int .u8)++[Ck.int .i64,Ck.bool,Ck.int .u64]++List.replicate 16 (Ck.int .u8))++[.sl (.var 446) (.lit 0) (.add (.var 355) (.lit 1)) (.var 447)]++ckCVs 357 (List.replicate 6 (Ck.int .u64)++List.replicate 32 (Ck.int .u8)++[Ck.int .i64]++List.replicate 32 (Ck.int .u8)))
def qw:List CV:=(ckCVs 300 ([Ck.int .i64,Ck.int .u64]++List.replicate 32 (Ck.int .u8)++[Ck.int .i64,Ck.bool,Ck.int .u64]++List.replicate 16 (Ck.int .u8)++[Ck.sl])++[.int .u64 (.var 440),.int .u64 (.var 442),.int .u64 (.var 444),.int .u64 (.var 446),.int .u64 (.var 448),.int .u64 (.var 450)]++(xk 60 32 (.ite (.lt (.var 454) (.lit 32)) (.var 454) (.lit 32)) 453 (.var 452) (.var 453) (fun j=>.var (363+j)))++[.int .i64 (.wrap .i64 (.var 456))]++(xk 93 32 (.ite (.lt (.var 460) (.lit 32)) (.var 460) (.lit 32)) 459 (.var 458) (.var 459) (fun j=>.var (396+j))))
def Aq:List CV:=([.int .i64 (.lit 0),.int .u64 (.lit 0)]++List.replicate 32 (CV.int .u8 (.lit 0))++[.int .i64 (.lit 0),.bool .ff,.int .u64 (.lit 0)]++List.replicate 16 (CV.int .u8 (.lit 0))++[.sl (.lit (-1)) (.lit 0) (.lit 0) (.lit 0),.int .u64 (.lit 0),.int .u64 (.lit 0),.int .u64 (.lit 0),.int .u64 (.lit 0),.int .u64 (.lit 0),.int .u64 (.lit 0)]++List.replicate 32 (CV.int .u8 (.lit 0))++[.int .i64 (.lit 0)]++List.replicate 32 (CV.int .u8 (.lit 0)))
def iv:List As:=([⟨430,0,.int .i64 (.lit 0)⟩]:List As)++(mLd 29 (ckCVs 300 aI) vZ)
def iw:List As:=([⟨430,0,.int .i64 (.wrap .u64 (.add (.var 430) (.lit 1)))⟩]:List As)++(mLd 29 (ckCVs 300 aI) wa)
def zn:Nd:=(fun a d p b1 m h o u A B D C=>(fun b c k g i j l n q s z a0 a2 E=>(fun f r t v w x y a1 F G H b2=>(.ext (.alloc 5) (.ext (.alloc 6) (.and (.pre o) (.ext o (.and (.pre s) (.ext s (.and (.pre b2) (.ext b2 (.and (.pre H) (.ext H (.and (.e (.and (.or (.and (.eq (.var 13) D) (.eq C h)) (.and (.le h (.var 13)) (.and (.le h (.var 14)) (.hby 14 (.var 13) (.var 14) (.ite (.lt C m) C m))))) (.and (.le h C) (.le (.add (.lit 2) (.ite (.lt C m) C m)) (.lit 125))))) (.and (.pre q) (.ext q (.and (.pre z) (.ext z (.and (.pre l) (.ext l (.and (.pre x) (.ext x (.and (.e (.and (.or (.and (.eq (.var 23) D) (.eq (.var 25) h)) (.and (.le h (.var 23)) (.and (.le h (.var 24)) (.hby 24 (.var 23) (.var 24) a0)))) (.and (.le h (.var 25)) (.le (.add (.lit 37) a0) (.lit 125))))) (.and (.pre n) (.ext n (.and (.inv 0 iv [(431,some 27),(432,none)]) (.havoc 0 0 29 (.and (.imp (.lt (.var 430) (.var 27)) (.ext (.alloc 440) (.and (.pre (.call 3 441 i a2 [])) (.ext (.call 3 441 i a2 []) (.and (.e (.and (.or (.and (.eq (.var 441) D) (.eq (.var 443) h)) (.and (.le h (.var 441)) (.and (.le h (.var 442)) (.hby 442 (.var 441) (.var 442) k)))) (.and (.le h (.var 443)) (.le k b1)))) (.ext (.alloc 445) (.and (.pre f) (.ext f (.back 0 0 iw [(431,some 441),(432,some 446)]))))))))) (.imp (.not (.lt (.var 430) (.var 27))) (.and (.pre (.call 1 440 b a2 [])) (.ext (.call 1 440 b a2 []) (.and (.pre G) (.ext G (.and (.pre F) (.ext F (.and (.pre a1) (.ext a1 (.and (.pre y) (.ext y (.and (.pre v) (.ext v (.and (.pre t) (.ext t (.and (.e (.and (.or (.and (.eq (.var 452) D) (.eq A h)) (.and (.le h (.var 452)) (.and (.le h (.var 453)) (.hby 453 (.var 452) (.var 453) (.ite (.lt A m) A m))))) (.and (.le h A) (.le (.add (.lit 60) (.ite (.lt A m) A m)) (.lit 125))))) (.and (.pre j) (.ext j (.and (.pre r) (.ext r (.and (.e (.and (.or (.and (.eq (.var 458) D) (.eq B h)) (.and (.le h (.var 458)) (.and (.le h (.var 459)) (.hby 459 (.var 458) (.var 459) (.ite (.lt B m) B m))))) (.and (.le h B) (.le (.add (.lit 93) (.ite (.lt B m) B m)) (.lit 125))))) (.and (.pre E) (.ext E (.and (.imp (.bvar 462) (.and (.pre u) (.ext u (.and (.imp (.not (.bvar 463)) w) (.imp (.bvar 463) (.post c (.tup [.agg qw,.one (.int .i64 h)]))))))) (.imp (.not (.bvar 462)) w))))))))))))))))))))))))))))))))))))))))))))))))):Nd)) (.app 446 34 16 16 (.sl (.var 353) (.var 354) (.var 355) (.var 356)) (.var 355) (.hp 432 [] [.var 353] []) (.cvs (BW 16 k 442 (.var 441) (.var 442) (fun _=>.lit 0)) 1)) (.call 3 458 g [.hp 456 [452,450,448,446,444,442,440,431] d []] []) (.call 3 452 g [.hp 450 [448,446,444,442,440,431] d []] []) (.call 1 450 b [.hp 448 [446,444,442,440,431] d []] []) (.post c (.tup [.agg Aq,.one (.int .i64 (.lit 2))])) (.call 3 23 i [.hp 21 [19,17,13,11,9,7] d []] []) (.call 1 448 b [.hp 446 [444,442,440,431] d []] []) (.call 1 446 b [.hp 444 [442,440,431] d []] []) (.call 1 444 b [.hp 442 [440,431] d []] []) (.call 1 442 b [.hp 440 [431] d []] []) (.call 3 13 g [.hp 11 [9,7] d []] []) (.call 1 11 b [.hp 9 [7] d []] [])) [.sv a,.sv (.one (.int .u64 (.lit 1048576)))] [.ro 4 [.var 0] false,.dead,.dead,.hp 458 p d [],.hp 14 [] [.var 13] [],.hp 24 [] [.var 23] [],.hp 432 [] [.var 353] [],.hp 453 [] [.var 452] [],.hp 459 [] [.var 458] []] (.ite (.lt (.var 443) b1) (.var 443) b1) [.sv a,.sv (.one (.int .i64 m))] [.sv a,.sv (.one (.int .i64 b1))] (.call 1 456 [.sv a,.sv (.one (.int .u64 (.lit 2064)))] [.hp 452 [450,448,446,444,442,440,431] d []] []) (.call 1 21 [.sv a,.sv (.one (.int .u64 (.lit 1099511627776)))] [.hp 19 [17,13,11,9,7] d []] []) (.call 1 27 [.sv a,.sv (.one (.int .u64 (.lit 8)))] [.hp 23 [21,19,17,13,11,9,7] d []] []) (.call 1 17 [.sv a,.sv (.one (.int .u64 (.lit 255)))] [.hp 13 [11,9,7] d []] []) (.call 1 9 [.sv a,.sv (.one (.int .u64 (.lit 6)))] [.hp 7 [] d []] []) (.call 2 19 [.sv a] [.hp 17 [13,11,9,7] d []] []) (.ite (.lt (.var 25) b1) (.var 25) b1) [.hp 431 [] d []] (.call 4 462 [.sv a] [] [.hp 458 p d []])) (.one (.hptr (.var 7) (.var 8))) [.var 7] [456,452,450,448,446,444,442,440,431] (.lit 16) (.lit 32) (.lit 0) (.call 0 7 [.sv (.one (.sl (.var 0) (.var 1) (.var 2) (.var 3)))] [] [.ro 4 [.var 0] false]) (.call 5 463 [.sv (.agg qw)] [] [.hp 432 [] [.var 353] []]) (.var 454) (.var 460) (.lit (-1)) (.var 15)
noncomputable def Jh:List Sx.Spec:=[gH,numS,jd,oL,gS,bR 91]
def EX:∀ t∈Jh,t.OK Tryz.prog:=ai gl <| ai mo <| ai mX <| ai qz <| ai kc <| ai dt <| aD
noncomputable def rq:Walk Tryz.prog Jh 85 where
 Λ:=fun p=>if decide (p.length=14)&&!(p.head?==some 99)then some ⟨0,[(35,TI .u64 (.var 430))],[(2,.blk 6 (ckCVs 300 aI) 38),(3,.hp 431 [] [.var 7] []),(6,.hp 432 [] [.var 353] [])],440⟩else none
 args:=[.sv (.one (.sl (.var 0) (.var 1) (.var 2) (.var 3)))]
 mem:=[.ro 4 [.var 0] false]
 nv:=5
def bb:∀ {a b:List Value} {ka kb:List Kd},rowOK a ka->rowOK b kb->rowOK (a++b) (ka++kb)
 | [],_,[],_,_,h=>h
 | _::_,_,_::_,_,h,h'=>⟨h.1,bb h.2 h'⟩
 | [],_,_::_,_,h,_=>False.elim h
 | _::_,_,[],_,h,_=>False.elim h
def gm:∀ {l:List Int} {n:Nat},l.length=n->rowOK (bys l) (List.replicate n (.int .u8))
 | [],0,_=>trivial
 | _::l,n+1,h=>⟨rfl,gm (l:=l) (by simpa using h)⟩
 | [],_+1,h=>by simp at h
 | _::_,0,h=>by simp at h
def E8:cj=[.int .i64,.int .u64]++List.replicate 32 (.int .u8)++[.int .i64,.bool,.int .u64]++List.replicate 16 (.int .u8)++[.slice]++[.int .u64,.int .u64,.int .u64,.int .u64,.int .u64,.int .u64]++List.replicate 32 (.int .u8)++[.int .i64]++List.replicate 32 (.int .u8):=by kernel_rfl
def rF (b:List Int) (hu:valIs (some u) .slice=true):rowOK (bz b u) cj:=by
 rw[E8];unfold bz;refine bb (bb (bb (bb (bb (bb (bb (bb ⟨rfl,rfl,zzT⟩ (gm (aT _ _))) ⟨rfl,rfl,rfl,zzT⟩) (gm (aT _ _))) ⟨hu,zzT⟩) ⟨rfl,rfl,rfl,rfl,rfl,rfl,zzT⟩) (gm (aT _ _))) ⟨rfl,zzT⟩) (gm (aT _ _))
def mD {l:List Int} (h:ah l):∀ v∈bys l,kT v:=by
 intro v hv;obtain⟨z,hz,rfl⟩:=Np.1 hv;exact h z hz
def xv {b:List Int} (hb:ah b) (hu:kT u):∀ v∈bz b u,kT v:=by
 have c:ah (p0 b).l:=hb;have b1:ah (p1 b).l:=aE c;have b2:ah (p2 b).l:=aE b1;have d:ah (p3 b).l:=gG b2;have e:ah (p4 b).l:=aE d;have f:ah (p5 b).l:=iL e;have b6:ah (p6 b).l:=aE f;have b7:ah (p7 b).l:=gG b6;have g:ah (p8 b).l:=aE b7;have d0:ah (k0 b).l:=(iX _ _ g).2;have d6:ah (k6 b).l:=aE (aE (aE (aE (aE (aE d0)))));have a:ah (nF b).l:=aE (gG d6);have U:∀ {m:Int} {s:PS},0<=m->m<=1099511627776->kT (.int .u64 (au m s)):=fun {m s} h0 h1=>by
  have:=aU (s:=s) h0;exact⟨this.1,ae⟩
 have I:∀ {m:Int} {s:PS},0<=m->m<=1099511627776->kT (.int .i64 (au m s)):=fun {m s} h0 h1=>by
  have:=aU (s:=s) h0;exact⟨ae,ae⟩
 have h:=mD (nG (n:=32) (ky (n:=32) b2));have i:=mD (nG (n:=16) (ky (n:=16) b6));have j:=mD (nG (n:=32) (ky (n:=32) d6));have k:=mD (nG (n:=32) (ky (n:=32) a));intro v hv;unfold bz at hv;simp only[Nb,MQ,MV,Nt]at hv;rcases hv with (((((((hv | hv) | hv) | hv) | hv) | hv) | hv) | hv) | hv
 .rcases hv with rfl | rfl
  .exact I ae ae
  .exact U ae ae
 .exact h v hv
 .rcases hv with rfl | rfl | rfl
  .exact I ae ae
  .trivial
  .exact U ae ae
 .exact i v hv
 .subst hv;exact hu
 .rcases hv with rfl | rfl | rfl | rfl | rfl | rfl<;>exact U ae ae
 .exact j v hv
 .subst hv;exact I ae ae
 .exact k v hv
def m8 (b:List Int):∃ L B:List Value,L.length=53/\∀ u,bz b u=L++u::B:=by
 refine⟨[Value.int .i64 (au 6 (p0 b)),.int .u64 (au 1048576 (p1 b))]++bys (aW 32 (aL 32 (p2 b)))++[Value.int .i64 (au 255 (p3 b)),.bool (bH (p4 b)),.int .u64 (au 1099511627776 (p5 b))]++bys (aW 16 (aL 16 (p6 b))),[Value.int .u64 (au 1048576 (k0 b)),.int .u64 (au 1048576 (k1 b)),.int .u64 (au 1048576 (k2 b)),.int .u64 (au 1048576 (k3 b)),.int .u64 (au 1048576 (k4 b)),.int .u64 (au 1048576 (k5 b))]++bys (aW 32 (aL 32 (k6 b)))++[.int .i64 (au 2064 (px b))]++bys (aW 32 (aL 32 (nF b))),by simp [bys,aT],fun u=>?_⟩;unfold bz;simp only[MY,OD,N1]
def HP {b:List Int} (hb:ah b) {R:Hl} (hu:valIs (some u) .slice=true) (hr:kT u) (a:RdRows R u dg ((hT b).map bys)):aG R (bz b u) (bD b):=by
 obtain⟨L,B,hl,e⟩:=m8 b;have b7:ah (p8 b).l:=aE (gG (aE (iL (aE (gG (aE (aE (s:=p0 b) hb)))))));refine⟨rF b hu,xv hb hr,?_,?_,?_,(iX _ _ b7).1⟩
 .show bz b (.bool false)=_;rw[e,e,Pj _ _ ae,hl];rfl
 .have:(bz b u).getD 53 (.bool false)=u:=by
   rw[e,MR,MX ae,hl];rfl
  rw[this];exact a
 .show(aQ (hN b) (p8 b)).1.length<=_;rw[fE];have:=aU (s:=p7 b) (m:=8) ae;unfold hN;omega
def gV:List Value:=[.int .i64 0,.int .u64 0]++List.replicate 32 (.int .u8 0)++[.int .i64 0,.bool false,.int .u64 0]++List.replicate 16 (.int .u8 0)++[.slice none 0 0,.int .u64 0,.int .u64 0,.int .u64 0,.int .u64 0,.int .u64 0,.int .u64 0]++List.replicate 32 (.int .u8 0)++[.int .i64 0]++List.replicate 32 (.int .u8 0)
def kP (b:List Int) (v:Value) (F:Hl):Prop :=
 (∃ row h,v=.tuple #[.agg row.toArray,.int .i64 0]/\aG F row h/\h.Form/\cn h=b)\/(v=.tuple #[.agg gV.toArray,.int .i64 2]/\∀ R row h,aG R row h->h.Form->cn h≠b)
def jv:Sx.Spec where
 fn:=85
 own:=[]
 rd:=[0]
 res:=[.agg aI,.one (.int .i64)]
 pre:=fun xs Hs Rs=>∃ u bs R,xs=[u]/\Rs=[R]/\RdW R u bs/\ah bs/\bs.length<=1000000
 post:=fun xs Hs Rs v Hs' F=>∃ u bs R,xs=[u]/\Rs=[R]/\RdW R u bs/\kP bs v F
def KZ:gH.res=[.one .ptr]:=rfl
def K0:numS.res=[.one (.int .u64)]:=rfl
def Mq:jd.res=[.one .bool]:=rfl
def Mr:oL.res=[.one .sl]:=rfl
def K3:gS.res=[.one .bool]:=rfl
def Ms (f:FuncId):(bR f).res=[.one .bool]:=rfl
def KS (n:Nat):(cpRoots n [Cp.one .ptr]≠[])=True:=by simp [cpRoots,Cp.roots,Ck.root]
def LW (n:Nat):(cpRoots n [Cp.one (.int .u64)]≠[])=False:=by simp [cpRoots,Cp.roots,Ck.root]
def dy (H:Hl) (p:Value) (s:PS):Prop:=cV H p s.l s.bad
def bp (b:List Int) (u:Value):List Value :=
 [.int .i64 (au 6 (p0 b)),.int .u64 (au 1048576 (p1 b))]++bys (aW 32 (aL 32 (p2 b)))++[.int .i64 (au 255 (p3 b)),.bool (bH (p4 b)),.int .u64 (au 1099511627776 (p5 b))]++bys (aW 16 (aL 16 (p6 b)))++[u]++List.replicate 6 (.int .u64 0)++List.replicate 32 (.int .u8 0)++[.int .i64 0]++List.replicate 32 (.int .u8 0)
section
variable {q:Env} {n:Nat} {p:Value} {H:Hl} {s:PS} {K:Env->Prop} {A:Env->Hl->Prop}
def de {m:Int} (h:dy H p s) (k:∀ q',Agree n q q'->dy (q'.h n) p (aS m s)->q'.i n=au m s->K q') :
 numS.pre [p,.int .u64 m] [H] []/\∀ q',Agree n q q'->(∃ F,numS.post [p,.int .u64 m] [H] [] (.int .u64 (q'.i n)) [q'.h n] F/\A q' F)->K q':=by
 refine⟨⟨_,m,H,s.l,s.bad,rfl,rfl,h⟩,fun q' g ⟨F,⟨j,m',H1,bs,bad,H',e1,b,d,c,a,hv⟩,_⟩=>?_⟩;simp only[MH,Value.int.injEq,Nz,MZ]at e1 b c;obtain⟨e1,em⟩:=e1;subst e1 em b;obtain⟨e,f⟩:=h.uniq d;subst e f;rw[<-c]at a;simp only[Value.int.injEq,Nz]at hv;exact k q' g a hv
def DC (h:dy H p s) (k:∀ q',Agree n q q'->dy (q'.h n) p (bY s)->q'.b n=bH s->K q') :
 jd.pre [p] [H] []/\∀ q',Agree n q q'->(∃ F,jd.post [p] [H] [] (.bool (bev q' (.bvar n))) [q'.h n] F/\A q' F)->K q':=by
 refine⟨⟨_,H,s.l,s.bad,rfl,rfl,h⟩,fun q' g ⟨F,⟨j,H1,bs,bad,H',e1,c,e,d,a,hv⟩,_⟩=>?_⟩;simp only[MH,MZ]at e1 c d;subst e1 c;obtain⟨f,i⟩:=h.uniq e;subst f i;rw[<-d]at a;simp only[Value.bool.injEq,bev_bvar]at hv;exact k q' g a hv
structure gT (F:Hl) (x y l c:Int) (raw:List Int):Prop where
 rx:-1<=x
 ry:0<=y
 len:l=raw.length
 rd:(x= -1/\raw=[])\/(0<=x/\∀ j z,raw[j]?=some z->F.cell x.toNat (y.toNat+j)=some (.int .u8 z))
def xx {m:Int} (h:dy H p s) (k:∀ q',Agree n q q'->dy (q'.h n) p (ir m s)->gT (q'.h (n+1)) (q'.i n) (q'.i (n+1)) (q'.i (n+2)) (q'.i (n+3)) (aL m s)->K q') :
 oL.pre [p,.int .i64 m] [H] []/\∀ q',Agree n q q'->(∃ F,oL.post [p,.int .i64 m] [H] [] (.slice (slP (q'.i n) (q'.i (n+1))) (q'.i (n+2)).toNat (q'.i (n+3)).toNat) [q'.h n] F/\(True->q'.h (n+1)=F)/\cpNorms n [.one .sl] q')->K q':=by
 refine⟨⟨_,m,H,s.l,s.bad,rfl,rfl,h⟩,fun q' g ⟨F,⟨o,m',H1,bs,bad,H',e1,b,d,c,a,hv⟩,e,hn,_⟩=>?_⟩;simp only[MH,Value.int.injEq,Nz,MZ]at e1 b c;obtain⟨e1,em⟩:=e1;subst e1 em b;obtain⟨f,j⟩:=h.uniq d;subst f j;rw[<-c]at a;have hn:-1<=q'.i n/\0<=q'.i (n+1)/\0<=q'.i (n+2)/\0<=q'.i (n+3):=hn;rw[<-e zzT]at hv;obtain⟨hl,hr⟩:=hv.rd.at hn.1 hn.2.1 hn.2.2.1;exact k q' g a ⟨hn.1,hn.2.1,hl,hr⟩
end
def gT.Ae {x y l c:Int} (h:gT F x y l c raw) {a:Int} (hw:0<=w) (e:a+w<=125):((x= -1/\l=0\/0<=x/\0<=y/\cellBytes F x.toNat y.toNat (if l<w then l else w).toNat=true)/\0<=l/\(a+if l<w then l else w)<=125):=by
 have hl:=h.len;refine⟨h.rd.imp (fun⟨h1,h2⟩=>⟨h1,by rw[hl,h2];rfl⟩) fun⟨h1,h2⟩=>⟨h1,h.ry,?_⟩,ae,by split<;>omega⟩;unfold cellBytes;rw[M8];intro j b;have b:j<(if l<w then l else w).toNat:=Nn.1 b;have d:j<raw.length:=by split at b<;>omega
 rw[h2 j _ (ME d)];rfl
def gT.cell {x y l c:Int} (h:gT F x y l c raw) (a:j<raw.length):valI (F.cell x.toNat (y.toNat+j))=raw.getD j 0:=by
 rcases h.rd with ⟨_,h2⟩ | ⟨_,h2⟩
 .rw[h2]at a;cases a
 .rw[h2 j _ (ME a),MR,ME a];rfl
def mg {q:Env} {a n h m2:Nat} {c:Int} (d:gT (q.h h) (q.i m1) (q.i m2) (q.i m3) c raw) (hw:w=(n:Int)) (ho:∀ j,j<n->iev q (old j)=0) :
 (xk a n (.ite (.lt (.var m3) (.lit w)) (.var m3) (.lit w)) h (.var m1) (.var m2) old).map (CV.ev q)=bys (aW n raw):=by
 subst hw;unfold xk bys aW;rw[NY,NY];refine NL fun j b=>?_;have b:=Nn.1 b;have hl:=d.len;show Value.int .u8 (iev q (.ite _ _ _))=.int .u8 _
 congr 1
 simp only[iev_ite,bT_lt,iev_lit,iev_add,iev_var];by_cases hr:j<raw.length
 .rw[M0 (by split<;>omega),iev_hI];exact d.cell hr
 .rw[MM (by split<;>omega),ho j b,MR,MS ae];rfl
def vj {q:Env} {n h m2:Nat} {c:Int} (b:gT (q.h h) (q.i m1) (q.i m2) (q.i m3) c raw) (hw:w=(n:Int)) (ho:∀ j,j<n->iev q (old j)=0) :
 (BW n (.ite (.lt (.var m3) (.lit w)) (.var m3) (.lit w)) h (.var m1) (.var m2) old).map (CV.ev q)=bys (aW n raw):=by
 subst hw;unfold BW bys aW;rw[NY,NY];refine NL fun j a=>?_;have a:=Nn.1 a;have hl:=b.len;show Value.int .u8 (iev q (.ite _ _ _))=.int .u8 _
 congr 1
 simp only[iev_ite,bT_lt,iev_lit,iev_var];by_cases hr:j<raw.length
 .rw[M0 (by split<;>omega),iev_hI];exact b.cell hr
 .rw[MM (by split<;>omega),ho j a,MR,MS ae];rfl
def zY (b:List Int) (u v:Value):(bp b u).set 53 v=bp b v:=by
 have e:∀ u,bp b u=([Value.int .i64 (au 6 (p0 b)),.int .u64 (au 1048576 (p1 b))]++bys (aW 32 (aL 32 (p2 b)))++[Value.int .i64 (au 255 (p3 b)),.bool (bH (p4 b)),.int .u64 (au 1099511627776 (p5 b))]++bys (aW 16 (aL 16 (p6 b))))++u::(List.replicate 6 (.int .u64 0)++List.replicate 32 (.int .u8 0)++[.int .i64 0]++List.replicate 32 (.int .u8 0)):=by
  intro u;unfold bp;simp only[MY,OD,N1]
 have hl:([Value.int .i64 (au 6 (p0 b)),.int .u64 (au 1048576 (p1 b))]++bys (aW 32 (aL 32 (p2 b)))++[Value.int .i64 (au 255 (p3 b)),.bool (bH (p4 b)),.int .u64 (au 1099511627776 (p5 b))]++bys (aW 16 (aL 16 (p6 b)))).length=53:=by simp [bys,aT]
 rw[e u,e v,Pj _ _ ae,hl];rfl
def gT.DL {x y l c:Int} (h:gT F x y l c raw) (hw:0<=w) (b:w<=125):((x= -1/\l=0\/0<=x/\0<=y/\cellBytes F x.toNat y.toNat (if l<w then l else w).toNat=true)/\0<=l/\(if l<w then l else w)<=w):=by
 obtain⟨h1,h2,_⟩:=h.Ae (a:=0) hw ae;exact⟨h1,h2,by split<;>omega⟩
def Ap (q:Env):wa.map (CV.ev q)=(av q 300).set 53 (.slice (slP (q.i 446) 0) (q.i 355+1).toNat (q.i 447).toNat):=by kernel_rfl
def C8 (q:Env):aw (av q 300) 60 32=(List.range 32).map fun j=>q.i (363+j):=by kernel_rfl
def Bc (q:Env):aw (av q 300) 93 32=(List.range 32).map fun j=>q.i (396+j):=by kernel_rfl
def ie (b:List Int):List Value:=[Value.int .i64 (au 6 (p0 b)),.int .u64 (au 1048576 (p1 b))]++bys (aW 32 (aL 32 (p2 b)))++[.int .i64 (au 255 (p3 b)),.bool (bH (p4 b)),.int .u64 (au 1099511627776 (p5 b))]++bys (aW 16 (aL 16 (p6 b)))
def kG (b:List Int):(ie b).length=53:=by unfold ie;simp [bys,aT]
def AU {q:Env} {b:List Int} (h:av q 300=bp b u):∀ j,j<32->q.i (363+j)=0/\q.i (396+j)=0:=by
 have a1:aw (bp b u) 60 32=List.replicate 32 0:=by
  have e:bp b u=(ie b++[u]++List.replicate 6 (.int .u64 0))++bys (List.replicate 32 0)++([.int .i64 0]++List.replicate 32 (.int .u8 0)):=by
   unfold bp ie;simp only[MY];rfl
  rw[e];exact gn (by simp [kG]) ar
 have a2:aw (bp b u) 93 32=List.replicate 32 0:=by
  have e:bp b u=(ie b++[u]++List.replicate 6 (.int .u64 0)++List.replicate 32 (.int .u8 0)++[.int .i64 0])++bys (List.replicate 32 0)++[]:=by
   unfold bp ie;simp only[MY];rfl
  rw[e];exact gn (by simp [kG]) ar
 rw[<-h,C8]at a1;rw[<-h,Bc]at a2;intro j a;have c1:=Ns (fun l=>l[j]?) a1;have c2:=Ns (fun l=>l[j]?) a2;simp only[MU,Nf a,Nl,Oj,M0 a,MP]at c1 c2;exact⟨c1,c2⟩
def Fx (q:Env):(ckCVs 300 ([Ck.int .i64,Ck.int .u64]++List.replicate 32 (Ck.int .u8)++[Ck.int .i64,Ck.bool,Ck.int .u64]++List.replicate 16 (Ck.int .u8)++[Ck.sl])).map (CV.ev q)=(av q 300).take 54:=by kernel_rfl
def xE (b:List Int) (u:Value):(bp b u).take 54=ie b++[u]:=by
 have e:bp b u=(ie b++[u])++(List.replicate 6 (.int .u64 0)++List.replicate 32 (.int .u8 0)++[.int .i64 0]++List.replicate 32 (.int .u8 0)):=by
  unfold bp ie;simp only[MY]
 have hl:(ie b++[u]).length=54:=by simp [kG]
 rw[e,<-hl,Ox]
def Di (q:Env):Aq.map (CV.ev q)=gV:=by kernel_rfl
def gT.ag {q:Env} {m h m2 a:Nat} (g:Agree m q q') (b:gT (q.h h) (q.i m1) (q.i m2) (q.i m3) (q.i a) raw) (h0:h<m) (h1:m1<m) (h2:m2<m) (c:m3<m) (d:a<m):gT (q'.h h) (q'.i m1) (q'.i m2) (q'.i m3) (q'.i a) raw:=by
 rw[g.h h h0,g.i m1 h1,g.i m2 h2,g.i m3 c,g.i a d];exact b
def nc (h:-1<=J.i 53/\0<=J.i 54/\0<=J.i 55/\0<=J.i 56):ckNorms 0 aI J:=⟨zzT,zzT,zzT,zzT,zzT,zzT,zzT,zzT,zzT,zzT,zzT,zzT,zzT,zzT,zzT,zzT,zzT,zzT,zzT,zzT,zzT,zzT,zzT,zzT,zzT,zzT,zzT,zzT,zzT,zzT,zzT,zzT,zzT,zzT,zzT,zzT,zzT,zzT,zzT,zzT,zzT,zzT,zzT,zzT,zzT,zzT,zzT,zzT,zzT,zzT,zzT,zzT,zzT,h,zzT,zzT,zzT,zzT,zzT,zzT,zzT,zzT,zzT,zzT,zzT,zzT,zzT,zzT,zzT,zzT,zzT,zzT,zzT,zzT,zzT,zzT,zzT,zzT,zzT,zzT,zzT,zzT,zzT,zzT,zzT,zzT,zzT,zzT,zzT,zzT,zzT,zzT,zzT,zzT,zzT,zzT,zzT,zzT,zzT,zzT,zzT,zzT,zzT,zzT,zzT,zzT,zzT,zzT,zzT,zzT,zzT,zzT,zzT,zzT,zzT,zzT,zzT,zzT,zzT,zzT,zzT,zzT,zzT,zzT,zzT,zzT⟩
def Gv {v:Value} (hv:v=.tuple #[.agg gV.toArray,.int .i64 2]):∃ a,v=(cpTV 0 jv.res).ev a/\cpNorms 0 jv.res a:=by
 subst hv;exact⟨(ay fun k=>if k=53 then -1 else if k=128 then 2 else 0),zzK,nc ⟨MT _,MT _,MT _,MT _⟩,zzT,zzT⟩
def Dz (b:List Int) (x y l c:Int):Env:=⟨fun k=>if k<53 then cI (bz b (.bool false)) k else if k=53 then x else if k=54 then y else if k=55 then l else if k=56 then c else if k<128 then cI (bz b (.bool false)) (k-3)else 0,fun k=>cB (bz b (.bool false)) k,fun _=>.empty,fun _=>.tuple #[],fun _=>Hl.none⟩
def zD (b:List Int) (x y l c:Int):(ckCVs 0 aI).map (CV.ev (Dz b x y l c))=bz b (.slice (slP x y) l.toNat c.toNat):=by kernel_rfl
open Classical in
def pz:jv.OK Tryz.prog:=by
 refine Spec.of_fn (Γ:=Jh) EX ?_;rintro xs Hs Rs bk bI ⟨u,b,R,rfl,rfl,ad,hby,hlen⟩;have e0:Hs=[]:=MF.1 bk;subst e0;obtain⟨x,y,c,rfl,hy,hR⟩:=id ad;refine⟨rq,envI [x,y,b.length,c] false [Hl.none,Hl.none,Hl.none,Hl.none,R],fun _ q=>∃ k:Nat,q.i 430=k/\k<=hN b/\dy (q.h 431) (.pointer (slP (q.i 7) (q.i 8))) (aQ k (p8 b)).2/\av q 300=bp b (.slice (slP (q.i 353) (q.i 354)) (q.i 355).toNat (q.i 356).toNat)/\ -1<=q.i 353/\q.i 354=0/\q.i 355=k/\0<=q.i 356/\OwR (q.h 432) 34 dg (.slice (slP (q.i 353) 0) (q.i 355).toNat (q.i 356).toNat) ((aQ k (p8 b)).1.map bys),fun _ q=>(hN b-q.i 430).toNat,?_,⟨?_,?_,?_,?_⟩,(fun _ h=>nomatch h),?_⟩
 .show [Value.slice (slP x y) ((b.length:Int)).toNat ((c:Int)).toNat]=_;rw[MD,MD]
 .intro r hr ho;simp [rq]at hr;subst hr;cases ho
 .intro r hr ho;simp [rq]at hr;subst hr;exact⟨R,ar,Hl.le_refl _⟩
 .simp [rq]
 .intro r hr;simp [rq]at hr;subst hr;trivial
 .refine Walk.lit (x:=zn) ?_;generalize X:envI [x,y,b.length,c] false [Hl.none,Hl.none,Hl.none,Hl.none,R]=J;have v0:J.i 0=x:=by rw[<-X];rfl
  have v1:J.i 1=y:=by rw[<-X];rfl
  have v2:J.i 2=b.length:=by rw[<-X];rfl
  have v3:J.i 3=c:=by rw[<-X];rfl
  have w4:J.h 4=R:=by rw[<-X];rfl
  clear X;unfold zn;simp only[go_sem,Nat.reduceAdd,Jh,KZ,K0,Mq,Mr,K3,Ms,KS,LW,DW,xZ];intro q1 g1 _ q2 g2 _;have G2:Agree 5 J q2:=g1.tr g2;rw[G2.i 0,G2.i 1,G2.i 2,G2.i 3,G2.h 4,v0,v1,v2,v3,w4,MD,MD];refine⟨⟨_,b,R,rfl,rfl,ad,hby,hlen⟩,fun q3 g3 ⟨F3,bl,bm,_⟩=>?_⟩;have h3:dy (q3.h 7) (.pointer (slP (q3.i 7) (q3.i 8))) (p0 b):=by
   obtain⟨u',b',R',e1,e2,bn,hO⟩:=bl;simp only[MH,MZ]at e1 e2;subst e1 e2;rw[ad.uniq bn,bm zzT];exact hO
  refine de h3 fun q4 g4 h4 G=>?_;have h4:dy (q4.h 9) _ (p1 b):=h4;have G:q4.i 9=au 6 (p0 b):=G;rw[<-g4.i 7,<-g4.i 8]at h4;refine de h4 fun q5 g5 h5 M=>?_;have h5:dy (q5.h 11) _ (p2 b):=h5;have M:q5.i 11=au 1048576 (p1 b):=M;rw[<-g5.i 7,<-g5.i 8]at h5;rw[<-g5.i 9]at G;refine xx h5 fun q6 g6 h6 t6=>?_;have h6:dy (q6.h 13) _ (p3 b):=h6;have t6:gT (q6.h 14) (q6.i 13) (q6.i 14) (q6.i 15) (q6.i 16) (aL 32 (p2 b)):=t6;rw[<-g6.i 7,<-g6.i 8]at h6;rw[<-g6.i 9]at G;rw[<-g6.i 11]at M;refine⟨t6.Ae ae ae,?_⟩;refine de h6 fun q7 g7 h7 T=>?_;have h7:dy (q7.h 17) _ (p4 b):=h7;have T:q7.i 17=au 255 (p3 b):=T;rw[<-g7.i 7,<-g7.i 8]at h7;rw[<-g7.i 9]at G;rw[<-g7.i 11]at M;have t6:=t6.ag g7 ae ae ae ae ae;refine DC h7 fun q8 g8 h8 Y=>?_;have h8:dy (q8.h 19) _ (p5 b):=h8;have Y:q8.b 19=bH (p4 b):=Y;rw[<-g8.i 7,<-g8.i 8]at h8;rw[<-g8.i 9]at G;rw[<-g8.i 11]at M;have t6:=t6.ag g8 ae ae ae ae ae;rw[<-g8.i 17]at T;refine de h8 fun q9 g9 h9 af=>?_;have h9:dy (q9.h 21) _ (p6 b):=h9;have af:q9.i 21=au 1099511627776 (p5 b):=af;rw[<-g9.i 7,<-g9.i 8]at h9;rw[<-g9.i 9]at G;rw[<-g9.i 11]at M;have t6:=t6.ag g9 ae ae ae ae ae;rw[<-g9.i 17]at T;rw[<-g9.b 19]at Y;refine xx h9 fun Z P aw t10=>?_;have aw:dy (Z.h 23) _ (p7 b):=aw;have t10:gT (Z.h 24) (Z.i 23) (Z.i 24) (Z.i 25) (Z.i 26) (aL 16 (p6 b)):=t10;rw[<-P.i 7,<-P.i 8]at aw;rw[<-P.i 9]at G;rw[<-P.i 11]at M;have t6:=t6.ag P ae ae ae ae ae;rw[<-P.i 17]at T;rw[<-P.b 19]at Y;rw[<-P.i 21]at af;refine⟨t10.Ae ae ae,?_⟩;refine de aw fun d N ax ah=>?_;have ax:dy (d.h 27) _ (p8 b):=ax;have ah:d.i 27=au 8 (p7 b):=ah;rw[<-N.i 7,<-N.i 8]at ax;rw[<-N.i 9]at G;rw[<-N.i 11]at M;have t6:=t6.ag N ae ae ae ae ae;rw[<-N.i 17]at T;rw[<-N.b 19]at Y;rw[<-N.i 21]at af;have t10:=t10.ag N ae ae ae ae ae;have wi:∀ {m:Int} {s:PS},0<=m->m<=9223372036854775807->IntKind.i64.wrap (au m s)=au m s:=fun {m s} h0 h1=>by have:=aU (s:=s) h0;exact IntWalk.i64_in _ ae
  have em:vZ.map (CV.ev d)=bp b (.slice none 0 0):=by
   unfold vZ bp;simp only[M9];rw[mg (w:=32) (n:=32) (old:=fun _=>.lit 0) t6 rfl (fun _ _=>rfl),mg (w:=16) (n:=16) (old:=fun _=>.lit 0) t10 rfl (fun _ _=>rfl)];have e1:List.map (CV.ev d) [.int .i64 (.wrap .i64 (.var 9)),.int .u64 (.var 11)]=[Value.int .i64 (au 6 (p0 b)),.int .u64 (au 1048576 (p1 b))]:=by
    show [Value.int .i64 (IntKind.i64.wrap (d.i 9)),.int .u64 (d.i 11)]=_;rw[G,M,wi ae ae]
   have e2:List.map (CV.ev d) [.int .i64 (.wrap .i64 (.var 17)),.bool (.bvar 19),.int .u64 (.var 21)]=[Value.int .i64 (au 255 (p3 b)),.bool (bH (p4 b)),.int .u64 (au 1099511627776 (p5 b))]:=by
    show [Value.int .i64 (IntKind.i64.wrap (d.i 17)),.bool (d.b 19),.int .u64 (d.i 21)]=_;rw[T,Y,af,wi ae ae]
   rw[e1,e2];rfl
  have hg:goodA 29 iv [(431,some 27),(432,none)]=true:=by kernel_rfl
  have ag:=assign_old (J:=d) hg;have H:(SV.agg (ckCVs 300 aI)).ev (assign d iv [(431,some 27),(432,none)])=(SV.agg vZ).ev d:=assign_ag (n0:=29) hg zzK (fun y hy=>NQ _ hy);have x0:(assign d iv [(431,some 27),(432,none)]).i 430=0:=by kernel_rfl
  have x1:(assign d iv [(431,some 27),(432,none)]).i 353= -1:=by kernel_rfl
  have x2:(assign d iv [(431,some 27),(432,none)]).i 354=0:=by kernel_rfl
  have x3:(assign d iv [(431,some 27),(432,none)]).i 355=0:=by kernel_rfl
  have x4:(assign d iv [(431,some 27),(432,none)]).i 356=0:=by kernel_rfl
  have x5:(assign d iv [(431,some 27),(432,none)]).h 431=d.h 27:=by kernel_rfl
  have x6:(assign d iv [(431,some 27),(432,none)]).h 432=Hl.none:=by kernel_rfl
  generalize assign d iv [(431,some 27),(432,none)]=qn at ag H x0 x1 x2 x3 x4 x5 x6 ⊢;have H:av qn 300=bp b (.slice none 0 0):=(M4 (Value.agg.inj H)).trans em;refine⟨⟨0,x0,NO _,?_,?_,ae,x2,x3,ae,?_⟩,fun q g ⟨k,ek,hk,hP,ai,A0,aj,aN,C0,hO⟩=>?_⟩
  .rw[x5,ag.i 7,ag.i 8];exact ax
  .rw[H,x1,x2,x3,x4];rfl
  .rw[x1,x3,x4,x6];exact OwR.nil _ _ _
  have bJ:hN b<=8:=by have:=aU (s:=p7 b) (m:=8) ae;unfold hN;omega
  have bo:q.i 27=hN b:=by rw[g.i 27,ah];have:=aU (s:=p7 b) (m:=8) ae;unfold hN;omega
  have bK:(((aQ k (p8 b)).1.map bys).length:Int)=k:=by rw[M7,fE]
  refine⟨fun bL bM ay _=>?_,fun bN=>?_⟩
  .rw[<-ay.i 7,<-ay.i 8,<-ay.h 431]at hP;refine xx hP fun ak aO bq t21=>?_;have t21:gT (ak.h 442) (ak.i 441) (ak.i 442) (ak.i 443) (ak.i 444) (aL 16 (aQ k (p8 b)).2):=t21;refine⟨t21.DL ae ae,fun br al _=>?_⟩;have t22:=t21.ag al ae ae ae ae ae;have aa:Agree 440 q br:=ay.trans (aO.mono.tr al);rw[aa.h 432,aa.i 353,aa.i 354,aa.i 355,aa.i 356,aj,vj (w:=16) (n:=16) (old:=fun _=>.lit 0) t22 rfl (fun _ _=>rfl)];refine⟨⟨⟨_,OwR.pre hO ae⟩,ae,by unfold maxLen;omega,ae⟩,fun e az ⟨A1,C1,happ,_⟩=>?_⟩;have bt:=OwR.app (row:=bys (aW 16 (aL 16 (aQ k (p8 b)).2))) hO ae (kU (aT _ _)) happ;have aA:Agree 440 q e:=aa.tr az;have hg:goodA 29 iw [(431,some 441),(432,some 446)]=true:=by kernel_rfl
   have ag:=assign_old (J:=e) hg;have H:(SV.agg (ckCVs 300 aI)).ev (assign e iw [(431,some 441),(432,some 446)])=(SV.agg wa).ev e:=assign_ag (n0:=29) hg zzK (fun y hy=>NQ _ hy);have x0:(assign e iw [(431,some 441),(432,some 446)]).i 430=IntKind.u64.wrap (e.i 430+1):=by kernel_rfl
   have x1:(assign e iw [(431,some 441),(432,some 446)]).i 353=e.i 446:=by kernel_rfl
   have x2:(assign e iw [(431,some 441),(432,some 446)]).i 354=0:=by kernel_rfl
   have x3:(assign e iw [(431,some 441),(432,some 446)]).i 355=e.i 355+1:=by kernel_rfl
   have x4:(assign e iw [(431,some 441),(432,some 446)]).i 356=e.i 447:=by kernel_rfl
   have x5:(assign e iw [(431,some 441),(432,some 446)]).h 431=e.h 441:=by kernel_rfl
   have x6:(assign e iw [(431,some 441),(432,some 446)]).h 432=e.h 446:=by kernel_rfl
   generalize assign e iw [(431,some 441),(432,some 446)]=qn at ag H x0 x1 x2 x3 x4 x5 x6 ⊢;have H:av qn 300=wa.map (CV.ev e):=M4 (Value.agg.inj H);have a3:av e 300=av q 300:=M4 (Value.agg.inj (ev_ag (n:=300) (ks:=aI) aA (NS zzK)));rw[Ap,a3,ai,zY]at H;have a4:IntKind.u64.wrap (e.i 430+1)=((k+1:Nat):Int):=by rw[aA.i 430,ek,iG ae ae];omega
   have an:e.i 355+1=((k+1:Nat):Int):=by rw[aA.i 355,aN];omega
   rw[x0,x1,x2,x3,x4,x5,x6,a4,an];refine⟨⟨k+1,rfl,ae,?_,?_,A1,rfl,rfl,C1,?_⟩,ae⟩
   .rw[ag.i 7,ag.i 8,az.i 7,az.i 8,al.i 7,al.i 8,az.h 441,al.h 441,aO.i 7,aO.i 8];exact bq
   .rw[H,an]
   .show OwR _ _ _ _ (((aQ k (p8 b)).1++[aW 16 (aL 16 (aQ k (p8 b)).2)]).map bys);rw[M9,<-an,aA.i 355];exact bt
  have bu:k=hN b:=ae;subst bu;have hP:dy (q.h 431) (.pointer (slP (q.i 7) (q.i 8))) (k0 b):=hP;obtain⟨z,bw⟩:∃ z,z=q:=⟨_,rfl⟩;subst bw;have bx:=hP;have a5:Agree 440 z z:=Agree.refl _ _;refine de bx fun aP aR aB o=>?_;have aB:dy (aP.h 440) _ (k1 b):=aB;have o:aP.i 440=au 1048576 (k0 b):=o;have a6:Agree 440 z aP:=a5.tr aR;rw[<-aR.i 7,<-aR.i 8]at aB;refine de aB fun aS aC aD p=>?_;have aD:dy (aS.h 442) _ (k2 b):=aD;have p:aS.i 442=au 1048576 (k1 b):=p;have a7:Agree 440 z aS:=a6.tr aC;rw[<-aC.i 7,<-aC.i 8]at aD;rw[<-aC.i 440]at o;refine de aD fun aV ao aE v=>?_;have aE:dy (aV.h 444) _ (k3 b):=aE;have v:aV.i 444=au 1048576 (k2 b):=v;have a8:Agree 440 z aV:=a7.tr ao;rw[<-ao.i 7,<-ao.i 8]at aE;rw[<-ao.i 440]at o;rw[<-ao.i 442]at p;refine de aE fun aX ab aF A=>?_;have aF:dy (aX.h 446) _ (k4 b):=aF;have A:aX.i 446=au 1048576 (k3 b):=A;have a9:Agree 440 z aX:=a8.tr ab;rw[<-ab.i 7,<-ab.i 8]at aF;rw[<-ab.i 440]at o;rw[<-ab.i 442]at p;rw[<-ab.i 444]at v;refine de aF fun aY U aH B=>?_;have aH:dy (aY.h 448) _ (k5 b):=aH;have B:aY.i 448=au 1048576 (k4 b):=B;have ba:Agree 440 z aY:=a9.tr U;rw[<-U.i 7,<-U.i 8]at aH;rw[<-U.i 440]at o;rw[<-U.i 442]at p;rw[<-U.i 444]at v;rw[<-U.i 446]at A;refine de aH fun aZ Q aJ C=>?_;have aJ:dy (aZ.h 450) _ (k6 b):=aJ;have C:aZ.i 450=au 1048576 (k5 b):=C;have bb:Agree 440 z aZ:=ba.tr Q;rw[<-Q.i 7,<-Q.i 8]at aJ;rw[<-Q.i 440]at o;rw[<-Q.i 442]at p;rw[<-Q.i 444]at v;rw[<-Q.i 446]at A;rw[<-Q.i 448]at B;refine xx aJ fun V O aK t37=>?_;have aK:dy (V.h 452) _ (px b):=aK;have t37:gT (V.h 453) (V.i 452) (V.i 453) (V.i 454) (V.i 455) (aL 32 (k6 b)):=t37;have bc:Agree 440 z V:=bb.tr O;rw[<-O.i 7,<-O.i 8]at aK;rw[<-O.i 440]at o;rw[<-O.i 442]at p;rw[<-O.i 444]at v;rw[<-O.i 446]at A;rw[<-O.i 448]at B;rw[<-O.i 450]at C;refine⟨t37.Ae ae ae,?_⟩;refine de aK fun a0 I aM S=>?_;have aM:dy (a0.h 456) _ (nF b):=aM;have S:a0.i 456=au 2064 (px b):=S;have bd:Agree 440 z a0:=bc.tr I;rw[<-I.i 7,<-I.i 8]at aM;rw[<-I.i 440]at o;rw[<-I.i 442]at p;rw[<-I.i 444]at v;rw[<-I.i 446]at A;rw[<-I.i 448]at B;rw[<-I.i 450]at C;have t37:=t37.ag I ae ae ae ae ae;refine xx aM fun W D aq t39=>?_;have aq:dy (W.h 458) _ (yB b):=aq;have t39:gT (W.h 459) (W.i 458) (W.i 459) (W.i 460) (W.i 461) (aL 32 (nF b)):=t39;have bf:Agree 440 z W:=bd.tr D;rw[<-D.i 7,<-D.i 8]at aq;rw[<-D.i 440]at o;rw[<-D.i 442]at p;rw[<-D.i 444]at v;rw[<-D.i 446]at A;rw[<-D.i 448]at B;rw[<-D.i 450]at C;have t37:=t37.ag D ae ae ae ae ae;rw[<-D.i 456]at S;refine⟨t39.Ae ae ae,?_⟩;refine⟨⟨_,_,(yB b).l,(yB b).bad,rfl,rfl,aq⟩,fun a K ⟨F,hp,_⟩=>?_⟩;have bg:a.b 462=(!(yB b).bad&&decide ((yB b).l=[])):=by
   obtain⟨p',R',bs',bad',e1,e2,bA,hv⟩:=hp;simp only[MH,MZ]at e1 e2;subst e1 e2;obtain⟨e3,e4⟩:=aq.uniq bA;subst e3 e4;simpa [bev_bvar] using hv
  have f:Agree 440 z a:=bf.tr K;rw[<-K.i 440]at o;rw[<-K.i 442]at p;rw[<-K.i 444]at v;rw[<-K.i 446]at A;rw[<-K.i 448]at B;rw[<-K.i 450]at C;have t37:=t37.ag K ae ae ae ae ae;rw[<-K.i 456]at S;have t39:=t39.ag K ae ae ae ae ae;have bh:av a 300=av z 300:=M4 (Value.agg.inj (ev_ag (n:=300) (ks:=aI) f (NS zzK)));rw[<-bh]at ai;have hz:=AU ai;rw[<-f.i 353,<-f.i 354,<-f.i 355,<-f.i 356]at ai;rw[<-f.i 353]at A0;rw[<-f.i 354]at aj;rw[<-f.i 355]at aN;rw[<-f.i 356]at C0;rw[<-f.h 432,<-f.i 353,<-f.i 355,<-f.i 356]at hO;have a1:qw.map (CV.ev a)=bz b (.slice (slP (a.i 353) (a.i 354)) (a.i 355).toNat (a.i 356).toNat):=by
   unfold qw;simp only[M9];rw[Fx,ai,xE,mg (w:=32) (n:=32) (old:=fun j=>.var (363+j)) t37 rfl (fun j hj=>(hz j hj).1),mg (w:=32) (n:=32) (old:=fun j=>.var (396+j)) t39 rfl (fun j hj=>(hz j hj).2)];have e1:List.map (CV.ev a) [.int .u64 (.var 440),.int .u64 (.var 442),.int .u64 (.var 444),.int .u64 (.var 446),.int .u64 (.var 448),.int .u64 (.var 450)]=[Value.int .u64 (au 1048576 (k0 b)),.int .u64 (au 1048576 (k1 b)),.int .u64 (au 1048576 (k2 b)),.int .u64 (au 1048576 (k3 b)),.int .u64 (au 1048576 (k4 b)),.int .u64 (au 1048576 (k5 b))]:=by
    show [Value.int .u64 (a.i 440),.int .u64 (a.i 442),.int .u64 (a.i 444),.int .u64 (a.i 446),.int .u64 (a.i 448),.int .u64 (a.i 450)]=_;rw[o,p,v,A,B,C]
   have e2:List.map (CV.ev a) [.int .i64 (.wrap .i64 (.var 456))]=[Value.int .i64 (au 2064 (px b))]:=by
    show [Value.int .i64 (IntKind.i64.wrap (a.i 456))]=_;rw[S,wi ae ae]
   rw[e1,e2];unfold ie bz;simp only[MY]
  have his:aG (a.h 432) (bz b (.slice (slP (a.i 353) (a.i 354)) (a.i 355).toNat (a.i 356).toNat)) (bD b):=by
   refine HP hby rfl trivial ?_;rw[aj];exact hO.rd
  have zp:∀ {qq:Env} {mem:Mem},(∀ R row h,aG R row h->h.Form->cn h≠b)->postOf jv [.slice (slP x y) b.length c] [] [R] qq mem (.tup [.agg Aq,.one (.int .i64 (.lit 2))]):=by
   intro qq mem bB _;have ev:(TV.tup [SV.agg Aq,SV.one (CV.int IntKind.i64 (E.lit 2))]).ev qq=.tuple #[.agg gV.toArray,.int .i64 2]:=by
    show Value.tuple #[.agg (Aq.map (CV.ev qq)).toArray,.int .i64 2]=_;rw[Di]
   exact⟨[],[],rfl,rfl,Gv ev,_,b,R,rfl,rfl,ad,Or.inr ⟨ev,bB⟩⟩
  have bj:¬(a.b 462=true/\(bD b).Form)->∀ R row h,aG R row h->h.Form->cn h≠b:=by
   rintro hn R' row' h' bC bE rfl;obtain⟨l1,l2,l3⟩:=KI bC bE;exact hn ⟨by rw[bg,l1,l2];rfl,l3⟩
  rw[a1];refine⟨fun hv=>⟨⟨_,_,_,rfl,rfl,his⟩,fun t L ⟨F4,bF,_⟩=>?_⟩,fun hv=>zp (bj fun hh=>hv hh.1)⟩;have a2:=hZ his bF;have a2:t.b 463=decide (bD b).Form:=by simpa [bev_bvar] using a2
  rw[a2,MI];refine⟨fun hf=>zp (bj fun hh=>hf hh.2),fun hf _=>?_⟩;have bG:cn (bD b)=b:=by
   rw[bg]at hv;simp only[ML,NK,MI]at hv;exact KH hby hv.1 hv.2
  have hag:qw.map (CV.ev t)=qw.map (CV.ev a):=CV.agreeL L qw zzK;rw[<-L.i 353,<-L.i 354,<-L.i 355,<-L.i 356]at a1 his;rw[<-L.h 432]at his;have ev:(TV.tup [SV.agg qw,SV.one (CV.int IntKind.i64 (E.lit 0))]).ev t=.tuple #[.agg (bz b (.slice (slP (t.i 353) (t.i 354)) (t.i 355).toNat (t.i 356).toNat)).toArray,.int .i64 0]:=by
   show Value.tuple #[.agg (qw.map (CV.ev t)).toArray,.int .i64 0]=_;rw[hag,a1]
  refine⟨[],[6],rfl,rfl,⟨Dz b (t.i 353) (t.i 354) (t.i 355) (t.i 356),?_,nc ⟨by show -1<=t.i 353;rw[L.i 353];exact A0,by show 0<=t.i 354;rw[L.i 354];omega,by show 0<=t.i 355;rw[L.i 355];omega,by show 0<=t.i 356;rw[L.i 356];exact C0⟩,zzT,zzT⟩,_,b,R,rfl,rfl,ad,Or.inl ⟨_,bD b,ev,?_,hf,bG⟩⟩
  .rw[ev,<-zD];kernel_rfl
  .show aG (hls [t.h 432]) _ _;rw[hls_one];exact his
def I5 (q:Env):(q.i 134=0/\q.i 135=0/\q.i 136=0/\q.i 137=0/\q.i 138=0/\q.i 139=0)↔gx q.i 134 6:=Qd
def dq {m:Nat} (g:Agree m J J') {a n:Nat} (h:a+n<=m):gx J'.i a n=gx J.i a n:=propext (iZ fun j b=>g.i (a+j))
def bk {m:Nat} (g:Agree m J J') {a:Nat} (h:a+ckLen ks<=m):(ckCVs a ks).map (CV.ev J')=(ckCVs a ks).map (CV.ev J):=M4 (Value.agg.inj (ev_ag (n:=a) (ks:=ks) g h))
def bn:ckLen aI=128:=by kernel_rfl
def Gy:List CV:=[.int .i64 (.lit 0),.int .u64 (.lit 0)]++List.replicate 32 (CV.int .u8 (.lit 0))++[.int .i64 (.lit 0),.bool .ff,.int .u64 (.lit 0)]++List.replicate 16 (CV.int .u8 (.lit 0))++[.sl (.lit (-1)) (.lit 0) (.lit 0) (.lit 0),.int .u64 (.lit 0),.int .u64 (.lit 0),.int .u64 (.lit 0),.int .u64 (.lit 0),.int .u64 (.lit 0),.int .u64 (.lit 0)]++List.replicate 32 (CV.int .u8 (.lit 0))++[.int .i64 (.lit 0)]++List.replicate 32 (CV.int .u8 (.lit 0))
def du (q:Env):Gy.map (CV.ev q)=gV:=by kernel_rfl
def hz:Hd:=⟨gV.set 53 (.bool false),[]⟩
def wU:rowOK gV cj:=by
 have e:gV=(ckCVs 0 aI).map (CV.ev (ay fun k=>if k=53 then -1 else 0)):=by kernel_rfl
 rw[e];exact row_of aI 0 (nc ⟨MT _,MT _,MT _,MT _⟩)
def te:∀ v∈gV,v=.int .i64 0\/v=.int .u64 0\/v=.int .u8 0\/v=.bool false\/v=.slice none 0 0:=by
 intro v hv;simp only[gV,Nb,MQ,PG,MV,Nt]at hv;rcases hv with (((((((hv | hv) | hv) | hv) | hv) | hv) | hv) | hv)
 all_goals grind
def pg (R:Hl):aG R gV hz:=by
 refine⟨wU,fun v hv=>?_,rfl,?_,by unfold hz;exact⟨ar,fun t h=>by cases h⟩⟩
 .rcases te v hv with rfl | rfl | rfl | rfl | rfl<;>simp [kT,bS]
 .show RdRows R (gV.getD 53 (.bool false)) dg [];rw[show gV.getD 53 (.bool false)=.slice none 0 0 by kernel_rfl];exact(OwR.nil R 0 dg).rd
def ji:List Ck:=[.int .u64,i64]++bC++List.replicate 6 (.int .u64)++[.bool,.sl]++[i64,i64,.int .u64]
def IA:List Kd:=ji.map kdOf
def Ez {q:Env} {n:Nat} {P:Prop} (h:Value.bool (bev q (.bvar n))=.bool true↔P):(q.b n=true)=P:=by
 rw[<-propext h,bev_bvar];simp
open Classical in
def pd {f:FuncId} {R:Hl} {Hs K:List Hl} {q:Env} {n:Nat} (hx:aG R row h) (hp:(bR f).post [.agg row.toArray] Hs [R] (.bool (bev q (.bvar n))) K F):(q.b n=true)=h.Form:=by
 have:=hZ hx hp;exact Ez (by rw[this];simp)
def kE {A B:Prop} (h:A->B):A->B:=h
def nY:∀ {n:Nat} {l:List Value} {ks:List Kd},rowOK l ks->rowOK (l.drop n) (ks.drop n)
 | 0,_,_,h=>h
 | _+1,[],[],_=>trivial
 | n+1,_::_,_::_,h=>nY (n:=n) h.2
 | _+1,[],_::_,h=>False.elim h
 | _+1,_::_,[],h=>False.elim h
def zd:ckLen bC=132:=by kernel_rfl
structure OP (H:Hl) (x:Int) (bs:List Int) (m:Nat):Prop where
 out:ax H (.pointer (slP x 0)) bs false
 len:bs.length<=m
section
variable {q:Env} {n a m:Nat} {H R:Hl} {bs:List Int} {A:Env->Hl->Prop} {K:Env->Prop} {v:Value}
def jY {z:Int} (h:OP H (q.i a) bs m) (hm:m<=800000) (b:a<n) (hz:0<=z/\z<18446744073709551616) (k:∀ q',Agree n q q'->OP (q'.h n) (q'.i a) (bs++aq z.toNat) (m+10)->K q') :
 gh.pre [.pointer (slP (q.i a) 0),.int .u64 z] [H] []/\∀ q',Agree n q q'->(∃ F,gh.post [.pointer (slP (q.i a) 0),.int .u64 z] [H] [] v [q'.h n] F/\A q' F)->K q' :=
 ck h.out hz (NT h.len ae) fun q' g c=>k q' g ⟨by rw[g.i a b];exact c,by
  have:=h.len;have:=cq (z:=z.toNat) ae;rw[MJ];omega⟩
def HE {b:Bool} (h:OP H (q.i a) bs m) (hm:m<=800000) (c:a<n) (k:∀ q',Agree n q q'->OP (q'.h n) (q'.i a) (bs++bE b) (m+1)->K q') :
 fx.pre [.pointer (slP (q.i a) 0),.bool b] [H] []/\∀ q',Agree n q q'->(∃ F,fx.post [.pointer (slP (q.i a) 0),.bool b] [H] [] v [q'.h n] F/\A q' F)->K q' :=
 rz h.out (NT h.len ae) fun q' g d=>k q' g ⟨by rw[g.i a c];exact d,by
  have:=h.len;rw[MJ];show _+1<=_;omega⟩
def yt {p v:Value} {H R:Hl} {K:List Hl} {bs b2:List Int} (h:ax H p bs lg) (h2:RdW R u b2) (hp:ef.post [p,u] [H] [R] v K F):∃ H',K=[H']/\ax H' p (bT bs lg b2).1 (bT bs lg b2).2:=by
 obtain⟨f,g,i,j,bs',lg',k,H',hx,a,b,l,hB,hK,c⟩:=hp;have hx:p=f/\u=g:=by simpa using hx
 obtain⟨e1,d⟩:=hx;have a:H=i:=by simpa using a
 have b:R=j:=by simpa using b
 subst e1 d a b;obtain⟨e1,d⟩:=h.uniq l;subst e1 d;have e:=h2.uniq hB;subst e;exact⟨H',hK,c⟩
def DZ {b2:List Int} {m2:Nat} (h:OP H (q.i a) bs m) (hm:m<=800000) (c:a<n) (h2:RdW R u b2) (d:b2.length<=m2) (f:m2<=4096) (k:∀ q',Agree n q q'->OP (q'.h n) (q'.i a) (bs++ak b2) (m+10+m2)->K q') :
 ef.pre [.pointer (slP (q.i a) 0),u] [H] [R]/\∀ q',Agree n q q'->(∃ F,ef.post [.pointer (slP (q.i a) 0),u] [H] [R] v [q'.h n] F/\A q' F)->K q':=by
 refine⟨⟨_,_,H,R,bs,false,b2,rfl,rfl,rfl,h.out,h2,NT h.len hm,ae⟩,fun q' g ⟨F,hp,_⟩=>k q' g ?_⟩;obtain⟨H',hK,b⟩:=yt h.out h2 hp;have hK:q'.h n=H':=by simpa using hK
 have e:bT bs false b2=(bs++ak b2,false):=by unfold bT;rw[MM ae]
 rw[e,<-hK]at b;refine⟨by rw[g.i a c];exact b,?_⟩;have:=h.len;have:=cq (z:=b2.length) ae;unfold ak;rw[MJ,MJ];omega
end
def us (l:List Int):List Value:=l.map (Value.int .u64)
def fF (l:List Int):List Int:=(l.map fun z=>aq z.toNat).flatten
def yu (l:List Int):Prop:=∀ z∈l,0<=z/\z<18446744073709551616
def Bq {a b:List Int} (h:us a=us b):a=b:=by
 have:=Ns (List.map fun v=>valI (some v)) h;simpa [us,NY,PK,valI] using this
def iQ:Sx.Spec where
 fn:=65
 own:=[.arg 0]
 rd:=[]
 res:=[]
 pre:=fun xs Hs Rs=>∃ p H bs vs,xs=[p,.agg (us vs).toArray]/\Hs=[H]/\ax H p bs false/\vs.length=6/\yu vs/\bs.length<=700000
 post:=fun xs Hs Rs v Hs' F=>∃ p H bs vs H',xs=[p,.agg (us vs).toArray]/\Hs=[H]/\ax H p bs false/\Hs'=[H']/\ax H' p (bs++fF vs) false
noncomputable def Ek:List Sx.Spec:=[gh,jh,fx,ef,fw,bytesS 116]
def yN:∀ t∈Ek,t.OK Tryz.prog:=ai il <| ai nB <| ai kN <| ai kO <| ai gb <| ai hJ <| aD
noncomputable def kh:Walk Tryz.prog Ek 65 where
 Λ:=noLoops
 args:=[TP (.var 0) (.lit 0),.sv (.agg (ckCVs 1 (List.replicate 6 (.int .u64))))]
 mem:=[.hp 7 [] [.var 0] []]
 nv:=8
def Ej:gh.res=[]:=rfl
def JW:ef.res=[]:=rfl
def JX (f:FuncId):(bytesS f).res=[.one .sl]:=rfl
def nL:iQ.OK Tryz.prog:=by
 refine Spec.of_fn (Γ:=Ek) yN ?_;rintro xs Hs Rs t g ⟨p,H,bs,vs,rfl,rfl,j,u,hu,hb⟩;have e1:Rs=[]:=MF.1 g;subst e1
 match vs,u with
 | [v1,v2,c,v4,d,v6],_ =>
 obtain⟨a,_,_,rfl,_⟩:=id j.whole;have hv:∀ z∈[v1,v2,c,v4,d,v6],0<=z/\z<18446744073709551616:=hu;simp only[MQ,MV,Nt,O6,Qn]at hv;obtain⟨v,w,x,y,A,B⟩:=hv;refine⟨kh,envI [(a:Int),v1,v2,c,v4,d,v6] false [Hl.none,Hl.none,Hl.none,Hl.none,Hl.none,Hl.none,Hl.none,H],fun _ _=>True,fun _ _=>0,?_,⟨?_,?_,?_,?_⟩,(fun _ h=>nomatch h),?_⟩
 .show [Value.pointer (slP (a:Int) 0),_]=_;rw[aY];rfl
 .intro r hr ho;simp [kh]at hr;subst hr;exact⟨H,ar,Hl.le_refl _⟩
 .intro r hr ho;simp [kh]at hr;subst hr;cases ho
 .simp [kh]
 .intro r hr;simp [kh]at hr;subst hr;trivial
 .refine Walk.read [] [] [] ?_;generalize b:envI [(a:Int),v1,v2,c,v4,d,v6] false [Hl.none,Hl.none,Hl.none,Hl.none,Hl.none,Hl.none,Hl.none,H]=J;have w0:J.i 0=a:=by rw[<-b];rfl
  have w1:J.i 1=v1:=by rw[<-b];rfl
  have w2:J.i 2=v2:=by rw[<-b];rfl
  have C:J.i 3=c:=by rw[<-b];rfl
  have D:J.i 4=v4:=by rw[<-b];rfl
  have E:J.i 5=d:=by rw[<-b];rfl
  have w6:J.i 6=v6:=by rw[<-b];rfl
  have w7:J.h 7=H:=by rw[<-b];rfl
  clear b;simp only[go_sem,Nat.reduceAdd,Ek,Ej];intro l g0 _;have f:Agree 8 J l:=g0;have F:OP H (l.i 0) bs 700000:=⟨by rw[f.i 0,w0,aY];exact j,hb⟩;rw[f.i 1,w1,f.h 7,w7];refine jY F ae ae v fun q1 G I=>?_;have m:Agree 8 J q1:=f.tr G;rw[m.i 2,w2];refine jY I ae ae w fun q2 K L=>?_;have n:Agree 8 J q2:=m.tr K;rw[n.i 3,C];refine jY L ae ae x fun M g3 N=>?_;have o:Agree 8 J M:=n.tr g3;rw[o.i 4,D];refine jY N ae ae y fun O g4 P=>?_;have q:Agree 8 J O:=o.tr g4;rw[q.i 5,E];refine jY P ae ae A fun Q R S=>?_;have s:Agree 8 J Q:=q.tr R;rw[s.i 6,w6];refine jY S ae ae B fun k T U=>?_;have V:Agree 8 J k:=s.tr T;intro _;refine⟨[[0]],[],rfl,rfl,⟨(ay fun _=>0),rfl,zzT⟩,_,H,bs,_,k.h 19,rfl,rfl,j,?_,?_⟩
  .show [hls [k.h 19]]=_;rw[hls_one]
  .have:=U.out;rw[V.i 0,w0,aY]at this;have e:fF [v1,v2,c,v4,d,v6]=aq v1.toNat++(aq v2.toNat++(aq c.toNat++(aq v4.toNat++(aq d.toNat++(aq v6.toNat++[]))))):=rfl;rw[e,Nu];simpa only[MY] using this
open Classical in
noncomputable def sk (p:Pc):List Int:=ak (aB p.h)++ak p.b
noncomputable def nI:Sx.Spec where
 fn:=64
 own:=[.arg 0]
 rd:=[1001053,1001125]
 res:=[]
 pre:=fun xs Hs Rs=>∃ p row H R1 R2 bs c,xs=[p,.agg row.toArray]/\Hs=[H]/\Rs=[R1,R2]/\ax H p bs false/\aV R1 R2 row c/\c.b.length<=4096/\bs.length<=700000
 post:=fun xs Hs Rs v Hs' F=>∃ p row H R1 R2 bs c H',xs=[p,.agg row.toArray]/\Hs=[H]/\Rs=[R1,R2]/\ax H p bs false/\aV R1 R2 row c/\Hs'=[H']/\ax H' p (bs++sk c) false
noncomputable def nJ:Walk Tryz.prog Ek 64 where
 Λ:=noLoops
 args:=[TP (.var 132) (.lit 0),.sv (.agg (ckCVs 0 bC))]
 mem:=[.hp 133 [] [.var 132] [],.ro 134 [.var 53] false,.ro 135 [.var 128] false]
 nv:=136
def cP {R:Hl} (x:aG R row h):(aB h).length<=932:=by
 unfold aB;split
 .rename_i hf;have:=jI x hf.2.1;unfold cn;rw[MJ,aC];omega
 .simp
def xV:nI.OK Tryz.prog:=by
 refine Spec.of_fn (Γ:=Ek) yN ?_;rintro xs Hs Rs y z ⟨p,row,H,R1,R2,bs,c,rfl,rfl,rfl,o,hx,q,hb⟩;obtain⟨a,_,_,rfl,_⟩:=id o.whole;obtain⟨b,rfl,hn,hh⟩:=fL [(133,H),(134,R1),(135,R2)] hx.ok;have d:=hx.hd;have m:=hx.body;rw[show((ckCVs 0 bC).map (CV.ev b)).take 125=av b 0 by kernel_rfl]at d;rw[show((ckCVs 0 bC).map (CV.ev b)).getD 125 cC=.slice (slP (b.i 128) (b.i 129)) (b.i 130).toNat (b.i 131).toNat by kernel_rfl]at m;obtain⟨J,f⟩:∃ J:Env,J=b.setI 132 a:=⟨_,rfl⟩;have g:Agree 132 b J:=by rw[f];exact agree_setI b 132 _ ae
 have s:J.h=b.h:=by rw[f];rfl
 have e:J.i 132=a:=by rw[f];simp [Env.setI]
 have j:J.h 133=H:=by rw[s];exact hh 133
 have k:J.h 134=R1:=by rw[s];exact hh 134
 have l:J.h 135=R2:=by rw[s];exact hh 135
 clear f;have er:(ckCVs 0 bC).map (CV.ev J)=(ckCVs 0 bC).map (CV.ev b):=bk g (by rw[show ckLen bC=132 by kernel_rfl];omega);rw[<-g.i 128,<-g.i 129,<-g.i 130,<-g.i 131]at m;rw[<-bf g.mono]at d;have A:=hx;rw[<-er]at hx ⊢;refine⟨nJ,J,fun _ _=>True,fun _ _=>0,?_,⟨?_,?_,?_,?_⟩,(fun _ h=>nomatch h),?_⟩
 .show [Value.pointer (slP (J.i 132) 0),_]=_;rw[e,aY];rfl
 .intro r hr ho;simp [nJ]at hr;rcases hr with rfl | rfl | rfl
  .exact⟨H,ar,by show(J.h 133).le H;rw[j];exact Hl.le_refl _⟩
  .cases ho
  .cases ho
 .intro r hr ho;simp [nJ]at hr;rcases hr with rfl | rfl | rfl
  .cases ho
  .exact⟨R1,ar,by show(J.h 134).le R1;rw[k];exact Hl.le_refl _⟩
  .exact⟨R2,ar,by show(J.h 135).le R2;rw[l];exact Hl.le_refl _⟩
 .simp [nJ,Res.own]
 .intro r hr;simp [nJ]at hr;rcases hr with rfl | rfl | rfl<;>trivial
 .refine Walk.read [aI] [] [] ?_;simp only[go_sem,Nat.reduceAdd,Ek,JW,JX,xZ];intro x g0 _;have t:Agree 136 J x:=g0;rw[show(ckCVs 0 aI).map (CV.ev x)=av J 0 from bf t.mono,t.h 134,k];refine⟨⟨_,R1,c.h,rfl,rfl,d⟩,fun q1 B ⟨F,hp,C,D⟩=>?_⟩;have hB:=mf d hp;rw[<-C zzT]at hB;have u:Agree 136 J q1:=t.tr B;have E:OP H (q1.i 132) bs 700000:=⟨by rw[u.i 132,e,aY];exact o,hb⟩;rw[u.h 133,j];refine DZ E ae ae hB.rd.w (cP d) ae fun q2 G I=>?_;have n:Agree 136 J q2:=u.tr G;rw[n.h 135,l,n.i 128,n.i 129,n.i 130,n.i 131];refine DZ I ae ae m q ae fun v g3 K=>?_;have L:Agree 136 J v:=n.tr g3;intro _;refine⟨[[0]],[],rfl,rfl,⟨(ay fun _=>0),rfl,zzT⟩,_,_,H,R1,R2,bs,c,v.h 143,rfl,rfl,rfl,o,hx,?_,?_⟩
  .show [hls [v.h 143]]=_;rw[hls_one]
  .have:=K.out;rw[L.i 132,e,aY,MY]at this;exact this
section
variable {q:Env} {n a m:Nat} {H R1 R2:Hl} {bs:List Int} {A:Env->Hl->Prop} {K:Env->Prop} {v:Value}
def JL:fx.res=[]:=rfl
def JM:nI.res=[]:=rfl
def GB:iQ.res=[]:=rfl
def wO (c:vs.length=6) (hu:yu vs):(fF vs).length<=60:=by
 match vs,c with
 | [v1,v2,a,v4,b,v6],_ =>
 have hv:∀ z∈[v1,v2,a,v4,b,v6],0<=z/\z<18446744073709551616:=hu;simp only[MQ,MV,Nt,O6,Qn]at hv;obtain⟨d,f,g,h,i,j⟩:=hv;have e:fF [v1,v2,a,v4,b,v6]=aq v1.toNat++(aq v2.toNat++(aq a.toNat++(aq v4.toNat++(aq b.toNat++(aq v6.toNat++[]))))):=rfl;have a1:=cq (z:=v1.toNat) ae;have a2:=cq (z:=v2.toNat) ae;have k:=cq (z:=a.toNat) ae;have l:=cq (z:=v4.toNat) ae;have m:=cq (z:=b.toNat) ae;have n:=cq (z:=v6.toNat) ae;rw[e];simp only[MJ,N0];omega
def I1 (h:OP H (q.i a) bs m) (hm:m<=700000) (f:a<n) (c:vs.length=6) (hu:yu vs) (k:∀ q',Agree n q q'->OP (q'.h n) (q'.i a) (bs++fF vs) (m+60)->K q') :
 iQ.pre [.pointer (slP (q.i a) 0),.agg (us vs).toArray] [H] []/\∀ q',Agree n q q'->(∃ F,iQ.post [.pointer (slP (q.i a) 0),.agg (us vs).toArray] [H] [] v [q'.h n] F/\A q' F)->K q':=by
 refine⟨⟨_,H,bs,vs,rfl,rfl,h.out,c,hu,NT h.len hm⟩,fun q' g ⟨F,⟨p,H1,bs',j,H',e1,d,l,e,b⟩,_⟩=>k q' g ?_⟩;simp only[MH,Value.agg.injEq,MZ]at e1 d e;obtain⟨e1,o⟩:=e1;obtain rfl:=Bq (M4 o);subst e1 d;obtain⟨rfl,_⟩:=h.out.uniq l;refine⟨?_,?_⟩
 .rw[g.i a f,e];exact b
 .have:=h.len;have:=wO c hu;rw[MJ];omega
def Cy {c:Pc} (hx:aV R1 R2 row c) (a:c.b.length<=4096):(sk c).length<=5048:=by
 unfold sk ak;have a1:=cP hx.hd;have a2:=cq (z:=(aB c.h).length) ae;have d:=cq (z:=c.b.length) ae;simp only[MJ];omega
def Mp {c:Pc} (h:OP H (q.i a) bs m) (hm:m<=700000) (p:a<n) (hx:aV R1 R2 row c) (f:c.b.length<=4096) (k:∀ q',Agree n q q'->OP (q'.h n) (q'.i a) (bs++sk c) (m+5048)->K q') :
 nI.pre [.pointer (slP (q.i a) 0),.agg row.toArray] [H] [R1,R2]/\∀ q',Agree n q q'->(∃ F,nI.post [.pointer (slP (q.i a) 0),.agg row.toArray] [H] [R1,R2] v [q'.h n] F/\A q' F)->K q':=by
 refine⟨⟨_,row,H,R1,R2,bs,c,rfl,rfl,rfl,h.out,hx,f,NT h.len hm⟩,fun q' g ⟨F,⟨w,row',H1,r,s,bs',c',H',e1,j,l,t,d,o,e⟩,_⟩=>k q' g ?_⟩;simp only[MH,Value.agg.injEq,MZ]at e1 j l o;obtain⟨e1,u⟩:=e1;obtain rfl:=M4 u;obtain⟨rfl,rfl⟩:=l;subst e1 j;obtain⟨rfl,_⟩:=h.out.uniq t;obtain rfl:=hx.uniq d;refine⟨?_,?_⟩
 .rw[g.i a p,o];exact e
 .have:=h.len;have:=Cy hx f;rw[MJ];omega
def OP.to {n:Nat} (h:OP H (q.i a) bs m) (g:Agree n q q') (b:a<n):OP H (q'.i a) bs m:=⟨by rw[g.i a b];exact h.out,h.len⟩
def OP.upto {x:Int} (h:OP H x bs m) (hm:m<=m'):OP H x bs m':=⟨h.out,NT h.len hm⟩
def OP.new {a:Nat} (h:0<=q.i a):OP (Hl.one (q.i a).toNat (.cells #[.slice none 0 0,.bool false] 124 (0,0))) (q.i a) [] 0:=⟨by rw[slP_pos h];exact ax.new _,M1 _⟩
end
def vn {p v n:Value} {R:Hl} {bs:List Int} {K:List Hl} (h:ax R p bs lg) (hp:fw.post [p] [] [R] (.tuple #[v,n]) K F):OwB F 5 v (fk bs lg).1/\n=.int .i64 (fk bs lg).2:=by
 obtain⟨c,R',bs',lg',u,e1,a,b,hv,hw⟩:=hp;simp only[MH,MZ]at e1 a;subst e1 a;obtain⟨e1,a⟩:=h.uniq b;subst e1 a;simp only[Value.tuple.injEq,Nc,MH,MZ]at hv;rw[hv.1];exact⟨hw,hv.2⟩
structure BP (A:Hl) (x y l c:Int) (bs:List Int) (m:Nat):Prop where
 own:OwB A 5 (.slice (slP x y) l.toNat c.toNat) bs
 l:l=bs.length
 rx:-1<=x
 ry:0<=y
 rc:0<=c
 len:bs.length<=m
def BP.rd {A:Hl} {x y l c:Int} {bs:List Int} {m:Nat} (h:BP A x y l c bs m):RdB A (.slice (slP x y) l.toNat c.toNat) bs:=h.own.rd
section
variable {q:Env} {n:Nat} {A S:Hl} {x y l c sx sy sl sc:Int} {B b2:List Int} {m m2:Nat} {D:Env->Prop} {K:Env->Prop}
end
section
variable {q:Env} {n:Nat} {A S:Hl} {sx sy sl sc:Int} {b2:List Int} {m2:Nat} {K:Env->Prop}
end
section
variable {q:Env} {n:Nat} {K:Env->Prop} {R1 R2:Hl}
end
def KJ {R:Hl} (hx:aG R row h) (X:h.Form):(cI (bD (cn h)).c 0=cI h.c 0/\cI (bD (cn h)).c 1=cI h.c 1/\cI (bD (cn h)).c 34=cI h.c 34/\cB (bD (cn h)).c 35=cB h.c 35/\cI (bD (cn h)).c 36=cI h.c 36/\cI (bD (cn h)).c 54=cI h.c 54/\cI (bD (cn h)).c 55=cI h.c 55/\cI (bD (cn h)).c 56=cI h.c 56/\cI (bD (cn h)).c 57=cI h.c 57/\cI (bD (cn h)).c 58=cI h.c 58/\cI (bD (cn h)).c 59=cI h.c 59/\cI (bD (cn h)).c 92=cI h.c 92)/\(aw (bD (cn h)).c 2 32=aw h.c 2 32/\aw (bD (cn h)).c 37 16=aw h.c 37 16/\aw (bD (cn h)).c 60 32=aw h.c 60 32/\aw (bD (cn h)).c 93 32=aw h.c 93 32)/\(bD (cn h)).t=h.t:=by
 obtain⟨⟨hw,hs,he,W,hk,Y,hp⟩,h8,Z,r,aa⟩:=id X;have u:∀ {k:Nat},cj[k]?=some (.int .u64)->k≠53->0<=cI h.c k:=fun {k} hk s=>by
  rw[hx.I s];exact(hx.rng _ (MG (mE hx.ok hk))).1
 have u1:0<=cI h.c 1:=u rfl aj;have ab:0<=cI h.c 36:=u rfl aj;have ad:0<=cI h.c 54:=u rfl aj;have af:0<=cI h.c 55:=u rfl aj;have ag:0<=cI h.c 56:=u rfl aj;have ah:0<=cI h.c 57:=u rfl aj;have ai:0<=cI h.c 58:=u rfl aj;have ak:0<=cI h.c 59:=u rfl aj;have hsz:80<=cI h.c 92/\cI h.c 92<=2064:=jQ r;have p:∀ t∈h.t,t.length=16:=fun t W=>(hx.byte.2 t W).1;generalize hb:cn h=b;have key:b=aq (cI h.c 0).toNat++(aq (cI h.c 1).toNat++(aw h.c 2 32++(aq (cI h.c 34).toNat++(bE (cB h.c 35)++(aq (cI h.c 36).toNat++(aw h.c 37 16++(aq h.t.length++(h.t.flatten++(aq (cI h.c 54).toNat++(aq (cI h.c 55).toNat++(aq (cI h.c 56).toNat++(aq (cI h.c 57).toNat++(aq (cI h.c 58).toNat++(aq (cI h.c 59).toNat++(aw h.c 60 32++(aq (cI h.c 92).toNat++(aw h.c 93 32++([])))))))))))))))))):=by
  rw[<-hb];unfold cn fU gP bQ;rw[aO (z:=cI h.c 0) ae ae,aO (z:=cI h.c 34) ae ae,aO (z:=cI h.c 92) ae ae];simp only[MY,Nu]
 have s0:p0 b=⟨_,false⟩:=Ns (fun l=>PS.mk l false) key;obtain⟨s1,v1⟩:=ba (m:=6) (z:=(cI h.c 0).toNat) s0 ae ae;have s1:p1 b=⟨_,false⟩:=s1;obtain⟨s2,v2⟩:=ba (m:=1048576) (z:=(cI h.c 1).toNat) s1 ae ae;have s2:p2 b=⟨_,false⟩:=s2;obtain⟨v,v3⟩:=lH (n:=32) (l:=aw h.c 2 32) s2 (by rw[aC];rfl);have v:p3 b=⟨_,false⟩:=v;obtain⟨w,v4⟩:=ba (m:=255) (z:=(cI h.c 34).toNat) v ae ae;have w:p4 b=⟨_,false⟩:=w;obtain⟨x,v5⟩:=tE w;have x:p5 b=⟨_,false⟩:=x;obtain⟨y,v6⟩:=ba (m:=1099511627776) (z:=(cI h.c 36).toNat) x ae ae;have y:p6 b=⟨_,false⟩:=y;obtain⟨A,v7⟩:=lH (n:=16) (l:=aw h.c 37 16) y (by rw[aC];rfl);have A:p7 b=⟨_,false⟩:=A;obtain⟨s8,v8⟩:=ba (m:=8) (z:=h.t.length) A ae ae;have s8:p8 b=⟨_,false⟩:=s8;have vN:hN b=h.t.length:=by unfold hN;rw[v8];exact MD _
 have B:=uR s8 p;rw[<-vN]at B;have C:(aQ (hN b) (p8 b)).2=⟨_,false⟩:=Ns Prod.snd B;have vT:hT b=h.t:=Ns Prod.fst B;have C:k0 b=⟨_,false⟩:=C;obtain⟨a,v10⟩:=ba (m:=1048576) (z:=(cI h.c 54).toNat) C ae ae;have a:k1 b=⟨_,false⟩:=a;obtain⟨d,v11⟩:=ba (m:=1048576) (z:=(cI h.c 55).toNat) a ae ae;have d:k2 b=⟨_,false⟩:=d;obtain⟨e,D⟩:=ba (m:=1048576) (z:=(cI h.c 56).toNat) d ae ae;have e:k3 b=⟨_,false⟩:=e;obtain⟨f,E⟩:=ba (m:=1048576) (z:=(cI h.c 57).toNat) e ae ae;have f:k4 b=⟨_,false⟩:=f;obtain⟨g,F⟩:=ba (m:=1048576) (z:=(cI h.c 58).toNat) f ae ae;have g:k5 b=⟨_,false⟩:=g;obtain⟨i,G⟩:=ba (m:=1048576) (z:=(cI h.c 59).toNat) g ae ae;have i:k6 b=⟨_,false⟩:=i;obtain⟨j,H⟩:=lH (n:=32) (l:=aw h.c 60 32) i (by rw[aC];rfl);have j:px b=⟨_,false⟩:=j;obtain⟨o,J⟩:=ba (m:=2064) (z:=(cI h.c 92).toNat) j ae ae;have o:nF b=⟨_,false⟩:=o;obtain⟨q,K⟩:=lH (n:=32) (l:=aw h.c 93 32) o (by rw[aC];rfl);have q:yB b=⟨_,false⟩:=q;have q0:cI (bD b).c 0=cI h.c 0:=(J4 b).trans (v1.trans ae);have q1:cI (bD b).c 1=cI h.c 1:=(J5 b).trans (v2.trans ae);have L:cI (bD b).c 34=cI h.c 34:=(EA b).trans (v4.trans ae);have M:cI (bD b).c 36=cI h.c 36:=(EC b).trans (v6.trans ae);have N:cI (bD b).c 54=cI h.c 54:=(EE b).trans (v10.trans ae);have O:cI (bD b).c 55=cI h.c 55:=(EF b).trans (v11.trans ae);have P:cI (bD b).c 56=cI h.c 56:=(EG b).trans (D.trans ae);have Q:cI (bD b).c 57=cI h.c 57:=(EH b).trans (E.trans ae);have S:cI (bD b).c 58=cI h.c 58:=(EI b).trans (F.trans ae);have T:cI (bD b).c 59=cI h.c 59:=(EJ b).trans (G.trans ae);have U:cI (bD b).c 92=cI h.c 92:=(EK b).trans (J.trans ae);have V:cB (bD b).c 35=cB h.c 35:=(EB b).trans v5;have g1:aw (bD b).c 2 32=aw h.c 2 32:=(J6 b).trans (by rw[show aL 32 (p2 b)=_ from v3];exact cJ (aC _ _ _));have g2:aw (bD b).c 37 16=aw h.c 37 16:=(ED b).trans (by rw[show aL 16 (p6 b)=_ from v7];exact cJ (aC _ _ _));have g3:aw (bD b).c 60 32=aw h.c 60 32:=(He b).trans (by rw[show aL 32 (k6 b)=_ from H];exact cJ (aC _ _ _));have g4:aw (bD b).c 93 32=aw h.c 93 32:=(Hf b).trans (by rw[show aL 32 (nF b)=_ from K];exact cJ (aC _ _ _));exact⟨⟨q0,q1,L,V,M,N,O,P,Q,S,T,U⟩,⟨g1,g2,g3,g4⟩,vT⟩
def wA:∀ {a b:List Value} {ks:List Kd},rowOK a ks->rowOK b ks->(∀ k∈ks,(∃ i,k=.int i)\/k=.bool)->(∀ k,cI a k=cI b k)->(∀ k,cB a k=cB b k)->a=b
 | [],[],[],_,_,_,_,_=>rfl
 | x::a,y::b,k::ks,c,hb,hk,h1,h2=>by
  have e:a=b:=wA c.2 hb.2 (fun k h=>hk k (MW _ h)) (fun k=>h1 (k+1)) (fun k=>h2 (k+1));have i0:=h1 0;have d:=h2 0;have hx:=c.1;have hy:=hb.1;rw[e]
  congr 1
  rcases hk k (Nh ..)with ⟨i,rfl⟩ | rfl
  .cases x<;>simp [valIs]at hx
   cases y<;>simp [valIs]at hy
   subst hx;subst hy;simp [cI,valI]at i0;rw[i0]
  .cases x<;>simp [valIs]at hx
   cases y<;>simp [valIs]at hy
   simp [cB,valB]at d;rw[d]
 | [],_::_,[],_,hb,_,_,_=>False.elim hb
 | _::_,_,[],c,_,_,_,_=>False.elim c
 | [],_,_::_,c,_,_,_,_=>False.elim c
 | _::_,[],_::_,_,hb,_,_,_=>False.elim hb
def jy:∀ {l:List Value} {ks:List Kd} {n:Nat} {v:Value} {k:Kd},rowOK l ks->valIs (some v) k=true->rowOK (l.set n v) (ks.set n k)
 | [],[],_,_,_,_,_=>trivial
 | _::_,_::_,0,_,_,h,hv=>⟨hv,h.2⟩
 | _::_,_::_,n+1,_,_,h,hv=>⟨h.1,jy (n:=n) h.2 hv⟩
 | [],_::_,_,_,_,h,_=>False.elim h
 | _::_,[],_,_,_,h,_=>False.elim h
def nZ {a b:List Value} {i n:Nat} (h:aw a i n=aw b i n):∀ j,j<n->cI a (i+j)=cI b (i+j):=by
 intro j c;have:=Ns (fun l=>l[j]?) h;unfold aw at this;simpa [MU,Nf c] using this
def cf:∀ {l:List Value} {ks:List Kd},rowOK l ks->l.length=ks.length
 | [],[],_=>rfl
 | _::_,_::_,h=>by rw[Nk,Nk,cf h.2]
 | [],_::_,h=>False.elim h
 | _::_,[],h=>False.elim h
def km {l:List Value} {ks:List Kd} (h:rowOK l ks) (hk:ks[k]?=some .bool):cI l k=0:=by
 obtain⟨v,hv,hi⟩:=cR h hk;unfold cI;rw[hv];cases v<;>simp [valIs]at hi
 rfl
def sI {l:List Value} {ks:List Kd} (h:rowOK l ks) {i:IntKind} (hk:ks[k]?=some (.int i)):cB l k=false:=by
 obtain⟨v,hv,hi⟩:=cR h hk;unfold cB;rw[hv];cases v<;>simp [valIs]at hi
 rfl
def rG:List Kd:=cj.set 53 .bool
def xw:∀ k,k<125->k≠35->k≠53->∃ i,rG[k]?=some (.int i):=by
 have h:((List.range 125).all fun k=>k==35||k==53||(match rG[k]? with | some (.int _)=>true | _=>false))=true:=by kernel_rfl
 intro k hk h1 h2;have:=M8.1 h k (Nn.2 hk);simp only[N6,Pe]at this;rcases this with (e | e) | e
 .exact absurd e h1
 .exact absurd e h2
 .split at e
  .rename_i i he;exact⟨i,he⟩
  .cases e
def Cg:∀ k∈rG,(∃ i,k=.int i)\/k=.bool:=by
 have h:(rG.all fun k=>match k with | .int _=>true | .bool=>true | _=>false)=true:=by kernel_rfl
 intro k hk;have:=M8.1 h k hk;cases k<;>simp at this
 .exact Or.inl ⟨_,rfl⟩
 .exact Or.inr rfl
def Av {R:Hl} (hx:aG R row h) (A:h.Form):bD (cn h)=h:=by
 obtain⟨⟨C,q1,g,j,l,m,o,p,q,r,s,w⟩,⟨D,E,g3,g4⟩,F⟩:=KJ hx A;have a:rG[35]?=some .bool:=by kernel_rfl
 have b:rG[53]?=some .bool:=by kernel_rfl
 have o1:rowOK (bD (cn h)).c rG:=by
  have:=jy (n:=53) (v:=.bool false) (k:=.bool) (rF (cn h) (u:=.slice none 0 0) rfl) rfl;obtain⟨L,B,hl,e⟩:=m8 (cn h);rw[e,Pj _ _ ae,hl]at this;show rowOK (bz (cn h) (.bool false)) rG;rw[e];exact this
 have o2:rowOK h.c rG:=by
  rw[hx.core];exact jy hx.ok rfl
 have G:(bD (cn h)).c=h.c:=by
  refine wA o1 o2 Cg (fun k=>?_) (fun k=>?_)
  .by_cases hk:k<125
   .have s1:=nZ D;have s2:=nZ E;have H:=nZ g3;have I:=nZ g4;have:k=0\/k=1\/(2<=k/\k<34)\/k=34\/k=35\/k=36\/(37<=k/\k<53)\/k=53\/k=54\/k=55\/k=56\/k=57\/k=58\/k=59\/(60<=k/\k<92)\/k=92\/(93<=k/\k<125):=ae;rcases this with e | e | e | e | e | e | e | e | e | e | e | e | e | e | e | e | e
    .rw[e];exact C
    .rw[e];exact q1
    .have:=s1 (k-2) ae;rwa[show 2+(k-2)=k by omega]at this
    .rw[e];exact g
    .rw[e,km o1 a,km o2 a]
    .rw[e];exact l
    .have:=s2 (k-37) ae;rwa[show 37+(k-37)=k by omega]at this
    .rw[e,km o1 b,km o2 b]
    .rw[e];exact m
    .rw[e];exact o
    .rw[e];exact p
    .rw[e];exact q
    .rw[e];exact r
    .rw[e];exact s
    .have:=H (k-60) ae;rwa[show 60+(k-60)=k by omega]at this
    .rw[e];exact w
    .have:=I (k-93) ae;rwa[show 93+(k-93)=k by omega]at this
   .have hl:rG.length=125:=by kernel_rfl
    have J:=cf o1;have K:=cf o2;unfold cI;rw[MS ae,MS ae]
  .by_cases hk:k<125
   .by_cases d:k=35
    .rw[d];exact j
    .by_cases f:k=53
     .rw[f,hx.core];have hl:row.length=125:=by rw[cf hx.ok];kernel_rfl
      obtain⟨L,B,x,e⟩:=m8 (cn h);show cB (bz (cn h) (.bool false)) 53=_;unfold cB;rw[e,MX ae,x,NX ae];rfl
     .obtain⟨i,hi⟩:=xw k hk d f;rw[sI o1 hi,sI o2 hi]
   .have hl:rG.length=125:=by kernel_rfl
    have J:=cf o1;have K:=cf o2;unfold cB;rw[MS ae,MS ae]
 cases h with
 | mk c t =>
  have e1:(bD (cn ⟨c,t⟩)).c=c:=G;have y:(bD (cn ⟨c,t⟩)).t=t:=F;generalize bD (cn ⟨c,t⟩)=z at e1 y;cases z;simp only at e1 y;rw[e1,y]
def zE {R:Hl} (hx:aG R row h) (c:h.Form) (a:aG R' row' h') (b:h'.Form) (e:cn h=cn h'):h=h':=by
 rw[<-Av hx c,<-Av a b,e]
def eL:Value->Prop
 | .slice (some ⟨_,_,some _⟩) _ _=>False
 | .pointer (some ⟨_,_,some _⟩)=>False
 | _=>True
def kH:List Ck->Bool
 | []=>true
 | .map::_=>false
 | _::l=>kH l
def sP {x y:Int} (h:∀ a b c,slP x y≠some ⟨a,b,some c⟩):-1<=x:=by
 unfold slP at h;split at h
 .omega
 .split at h
  .omega
  .exact absurd rfl (h _ _ _)
def Cq {n:Nat} {k:Ck} (hk:k≠.map) (h:ckNormW n J k) (hv:eL ((k.cv n).ev J)):ckNorm n J k:=by
 cases k with
 | ptr =>
  refine⟨sP (y:=J.i (n+1)) fun a b c e=>?_,h.2⟩;have hv:eL (.pointer (slP (J.i n) (J.i (n+1)))):=hv;rw[e]at hv;exact hv
 | sl =>
  refine⟨sP (y:=J.i (n+1)) fun a b c e=>?_,h.2⟩;have hv:eL (.slice (slP (J.i n) (J.i (n+1))) (J.i (n+2)).toNat (J.i (n+3)).toNat):=hv;rw[e]at hv;exact hv
 | map=>exact absurd rfl hk
 | _=>trivial
def nA {J:Env} : ∀ (ks:List Ck) (n:Nat),kH ks=true->ckNormsW n ks J->(∀ v∈(ckCVs n ks).map (CV.ev J),eL v)->ckNorms n ks J
 | [],_,_,_,_=>trivial
 | k::ks,n,hm,h,hv=>by
  have hk:k≠.map:=by rintro rfl;simp [kH]at hm
  have a:kH ks=true:=by cases k<;>first | exact hm | exact absurd rfl hk
  exact⟨Cq hk h.1 (hv _ (Nh ..)),nA ks _ a h.2 fun v h=>hv v (MW _ h)⟩
def ym (h:rowOK row (ks.map kdOf)) (hm:kH ks=true) (hv:∀ v∈row,eL v):∃ a,TV.ev a (cpTV 0 [.agg ks])=.agg row.toArray/\cpNorms 0 [.agg ks] a:=by
 obtain⟨q,_,hn,e⟩:=row_rep ks 0 row (ay fun _=>0) h;refine⟨q,?_,nA ks 0 hm hn (by rw[e];exact hv),zzT⟩;show Value.agg ((ckCVs 0 ks).map (CV.ev q)).toArray=_;rw[e]
def fR {k:IntKind} (z:Int) (h:rowOK row (ks.map kdOf)) (hm:kH ks=true) (hv:∀ v∈row,eL v):∃ a,TV.ev a (cpTV 0 [.agg ks,.one (.int k)])=.tuple #[.agg row.toArray,.int k z]/\cpNorms 0 [.agg ks,.one (.int k)] a:=by
 obtain⟨q,_,hn,e⟩:=row_rep ks 0 row (ay fun _=>0) h;have ag:Agree (0+ckLen ks) q (q.setI (0+ckLen ks) z):=agree_setI q _ z (M1 _);have c:(ckCVs 0 ks).map (CV.ev (q.setI (0+ckLen ks) z))=row:=by rw[bk ag (M1 _)];exact e
 have b:ckNormsW 0 ks (q.setI (0+ckLen ks) z):=ckNormsW_agree ag ks 0 (M1 _) hn;refine⟨q.setI (0+ckLen ks) z,?_,nA ks 0 hm b (by rw[c];exact hv),zzT,zzT⟩;show Value.tuple #[.agg ((ckCVs 0 ks).map (CV.ev (q.setI (0+ckLen ks) z))).toArray,.int k ((q.setI (0+ckLen ks) z).i (0+ckLen ks))]=_;rw[c]
 congr 3
 simp [Env.setI]
def ij {x y l c:Int} (h:-1<=x):eL (.slice (slP x y) l.toNat c.toNat):=by
 rcases NU x 0 with h' | h'
 .obtain rfl:x= -1:=ae;trivial
 .rw[slP_pos h'];trivial
def bU (m:Int) (s:PS):PS:=⟨(bW s.l s.bad m).2.1,(bW s.l s.bad m).2.2⟩
def bt (m:Int) (s:PS):List Int:=(bW s.l s.bad m).1
section
variable {s:PS}
def wJ {m:Int} (hb:ah s.l) (h:(bU m s).bad=false):s.bad=false/\s.l=ak (bt m s)++(bU m s).l/\((bt m s).length:Int)<=m/\(bt m s).length<=4096:=by
 unfold bU bt bW at *;split at h
 .cases h
 .rename_i a;rw[MM a];have h1:s.bad=false:=by
   cases hs:s.bad
   .rfl
   .exact absurd (Or.inl hs) a
  have h2:(aJ s.l).2≠0:=fun e=>a (Or.inr (Or.inl e));have b:¬min (min m 4096) ((s.l.length:Int)-(aJ s.l).2)<((aJ s.l).1:Int):=fun e=>a (Or.inr (Or.inr (Or.inr e)));cases hn:jf s.l with
  | none=>unfold aJ at h2;rw[hn]at h2;exact absurd rfl h2
  | some r =>
   obtain⟨x,k⟩:=r;obtain⟨_,hk,c,d⟩:=kI hb hn;have e:aJ s.l=(x,k):=by unfold aJ;rw[hn];rfl
   rw[e]at b ⊢;simp only at b;have hl:((s.l.drop k).take x).length=x:=by rw[M3,Nj];omega
   refine⟨h1,?_,by show(((s.l.drop k).take x).length:Int)<=m;omega,by show((s.l.drop k).take x).length<=4096;omega⟩;show s.l=ak ((s.l.drop k).take x)++s.l.drop (k+x);unfold ak;rw[hl,<-c,MY,<-OO,On,On]
def qL {m:Int} {b t:List Int} (h1:(b.length:Int)<=m) (h2:b.length<=4096):bU m ⟨ak b++t,false⟩=⟨t,false⟩/\bt m ⟨ak b++t,false⟩=b:=by
 have e:aJ (ak b++t)=(b.length,(aq b.length).length):=by
  unfold aJ ak;rw[MY,kJ ae];rfl
 have hp:=jX b.length;have hl:(ak b++t).length=(aq b.length).length+(b.length+t.length):=by unfold ak;simp only[MJ];omega
 have a:¬((false:Bool)=true\/(aJ (ak b++t)).2=0\/m<0\/min (min m 4096) (((ak b++t).length:Int)-(aJ (ak b++t)).2)<((aJ (ak b++t)).1:Int)):=by
  rw[e,hl];simp only;rintro(x | x | x | x)
  .cases x
  .omega
  .omega
  .omega
 unfold bU bt bW;rw[MM a,e];have d:(ak b++t).drop (aq b.length).length=b++t:=by unfold ak;rw[MY,PI]
 refine⟨?_,?_⟩
 .show PS.mk ((ak b++t).drop ((aq b.length).length+b.length)) false=_;rw[<-OO,d,PI]
 .show((ak b++t).drop (aq b.length).length).take b.length=b;rw[d,Ox]
def iW {m:Int} (hb:ah s.l):ah (bU m s).l/\ah (bt m s):=by
 unfold bU bt bW;split
 .exact⟨hb,fun z h=>by cases h⟩
 .exact⟨bJ hb _,fun z hz=>hb z (Ps (Ov hz))⟩
def ln {m:Int} : (bt m s).length<=4096:=by
 unfold bt bW;split
 .simp
 .rename_i a;have b:¬min (min m 4096) ((s.l.length:Int)-(aJ s.l).2)<((aJ s.l).1:Int):=fun e=>a (Or.inr (Or.inr (Or.inr e)));show((s.l.drop _).take _).length<=4096;rw[M3];omega
end
section
variable {q:Env} {n:Nat} {p:Value} {H:Hl} {s:PS} {K:Env->Prop}
def Ew {B:List Int} {m:Nat} (a:OwB F 5 (.slice (slP (q'.i n) (q'.i (n+1))) (q'.i (n+2)).toNat (q'.i (n+3)).toNat) B) (b:True->q'.h (n+1)=F) (hn:cpNorms n [.one .sl] q') (hm:B.length<=m):BP (q'.h (n+1)) (q'.i n) (q'.i (n+1)) (q'.i (n+2)) (q'.i (n+3)) B m:=by
 have hn:-1<=q'.i n/\0<=q'.i (n+1)/\0<=q'.i (n+2)/\0<=q'.i (n+3):=hn.1;rw[<-b zzT]at a;have e:(q'.i (n+2)).toNat=B.length:=by
  obtain⟨x,y,c,e,_⟩:=a.rd;simp only[Value.slice.injEq]at e;exact e.2.1
 exact⟨a,ae,hn.1,hn.2.1,hn.2.2.2,hm⟩
def DD {m:Int} (h:dy H p s) (hm:m<=1000000) (k:∀ q',Agree n q q'->dy (q'.h n) p (bU m s)->BP (q'.h (n+1)) (q'.i n) (q'.i (n+1)) (q'.i (n+2)) (q'.i (n+3)) (bt m s) 4096->K q') :
 jk.pre [p,.int .i64 m] [H] []/\∀ q',Agree n q q'->(∃ F,jk.post [p,.int .i64 m] [H] [] (.slice (slP (q'.i n) (q'.i (n+1))) (q'.i (n+2)).toNat (q'.i (n+3)).toNat) [q'.h n] F/\(True->q'.h (n+1)=F)/\cpNorms n [.one .sl] q')->K q':=by
 refine⟨⟨_,m,H,s.l,s.bad,rfl,rfl,h,hm⟩,fun q' g ⟨F,⟨o,m',H1,bs,bad,H',e1,b,d,c,a,hv⟩,e,hn⟩=>?_⟩;simp only[MH,Value.int.injEq,Nz,MZ]at e1 b c;obtain⟨e1,em⟩:=e1;subst e1 em b;obtain⟨f,j⟩:=h.uniq d;subst f j;rw[<-c]at a;exact k q' g a (Ew hv e hn ln)
end
def wV (t:List Int) (h:Hd):Prop:=(h.Form/\cn h=t)\/(h=hz/\∀ R row h',aG R row h'->h'.Form->cn h'≠t)
def zM:¬hz.Form:=by
 intro h;have:=h.1.1.1;have e:cI hz.c 0=0:=by kernel_rfl
 rw[e]at this;omega
def qs (s:PS):PS:=bU 4096 (bU 4096 s)
noncomputable def gK:Sx.Spec where
 fn:=33
 own:=[.arg 0]
 rd:=[]
 res:=[.agg bC]
 pre:=fun xs Hs Rs=>∃ p H s,xs=[p]/\Hs=[H]/\dy H p s
 post:=fun xs Hs Rs v Hs' F=>∃ p H s H' row c,xs=[p]/\Hs=[H]/\dy H p s/\Hs'=[H']/\dy H' p (qs s)/\v=.agg row.toArray/\aV F F row c/\wV (bt 4096 s) c.h/\c.b=bt 4096 (bU 4096 s)
noncomputable def BC:List Sx.Spec:=[gH,numS,jd,oL,gS,jk,jv]
def uP:∀ t∈BC,t.OK Tryz.prog:=ai gl <| ai mo <| ai mX <| ai qz <| ai kc <| ai oq <| ai pz <| aD
noncomputable def kv:Walk Tryz.prog BC 33 where
 Λ:=noLoops
 args:=[TP (.var 0) (.lit 0)]
 mem:=[.hp 1 [] [.var 0] []]
 nv:=2
def LI:jk.res=[.one .sl]:=rfl
def LJ:jv.res=[.agg aI,.one (.int .i64)]:=rfl
def Cf {q:Env} {n:Nat} (h:cpNorms n [.agg aI,.one (.int .i64)] q):-1<=q.i (n+53)/\0<=q.i (n+54)/\0<=q.i (n+55)/\0<=q.i (n+56):=by
 have h:ckNorms n aI q:=h.1;have e:aI=aI.take 53++(.sl::aI.drop 54):=by kernel_rfl
 have g:∀ (a b:List Ck) (n:Nat),ckNorms n (a++b) q->ckNorms (n+ckLen a) b q:=by
  intro a
  induction a with
  | nil=>intro b n h;simpa [ckLen] using h
  | cons k a ih =>
   intro b n h;have:=ih b (n+k.len) h.2;rw[show n+k.len+ckLen a=n+ckLen (k::a)by simp [ckLen];omega]at this;exact this
 rw[e]at h;have h:=g _ _ _ h;rw[show ckLen (aI.take 53)=53 by kernel_rfl]at h;exact h.1
def pf {q:Env} {n:Nat} (h:-1<=q.i (n+53)):∀ v∈av q n,eL v:=by
 intro v hv;have e:av q n=(ckCVs n (aI.take 53)).map (CV.ev q)++(.slice (slP (q.i (n+53)) (q.i (n+54))) (q.i (n+55)).toNat (q.i (n+56)).toNat::(ckCVs (n+57) (aI.drop 54)).map (CV.ev q)):=by kernel_rfl
 have g:∀ (ks:List Ck) (m:Nat),(ks.all fun k=>match k with | .int _=>true | .bool=>true | _=>false)=true->∀ v∈(ckCVs m ks).map (CV.ev q),eL v:=by
  intro ks
  induction ks with
  | nil=>intro m _ v hv;cases hv
  | cons k ks ih =>
   intro m hk v hv;rw[PO,ML]at hk;rcases MQ.1 hv with rfl | hv
   .cases k<;>first | trivial | (simp at hk)
   .exact ih _ hk.2 v hv
 rw[e]at hv;rcases Nb.1 hv with hv | hv
 .exact g _ _ zzK v hv
 .rcases MQ.1 hv with rfl | hv
  .exact ij h
  .exact g _ _ zzK v hv
def AN:(cpRoots 0 [Cp.agg aI,Cp.one (Ck.int .i64)]≠[])=True:=by
 have e:cpRoots 0 [Cp.agg aI,Cp.one (Ck.int .i64)]=[.var 53]:=by kernel_rfl
 rw[e];simp
def qN {a b c:Value} (h:Value.tuple #[a,b]=.tuple #[c,d]):a=c/\b=d:=by
 simp only[Value.tuple.injEq,Nc,MH,MZ]at h;exact h
def oe:gK.OK Tryz.prog:=by
 refine Spec.of_fn (Γ:=BC) uP ?_;rintro xs Hs Rs O B ⟨p,H,s,rfl,rfl,h⟩;have e1:Rs=[]:=MF.1 B;subst e1;obtain⟨a,x,y,c,T,rfl,m⟩:=id h;refine⟨kv,envI [(a:Int)] false [Hl.none,H],fun _ _=>True,fun _ _=>0,?_,⟨?_,?_,?_,?_⟩,(fun _ h=>nomatch h),?_⟩
 .show [Value.pointer (slP (a:Int) 0)]=_;rw[aY]
 .intro r hr ho;simp [kv]at hr;subst hr;exact⟨H,ar,Hl.le_refl _⟩
 .intro r hr ho;simp [kv]at hr;subst hr;cases ho
 .simp [kv]
 .intro r hr;simp [kv]at hr;subst hr;trivial
 .refine Walk.read [aI] [] [] ?_;generalize f:envI [(a:Int)] false [Hl.none,H]=J;have w0:J.i 0=a:=by rw[<-f];rfl
  have w1:J.h 1=H:=by rw[<-f];rfl
  clear f;simp only[go_sem,Nat.reduceAdd,BC,LI,LJ,xZ,bn,AN];intro U g0 _;simp only[g0.iA,g0.hA,Nat.reduceLT,w0,w1,aY];refine DD h ae fun q1 I h1 K=>?_;refine⟨⟨_,bt 4096 s,_,rfl,rfl,K.rd.w,(iW m.byte).2,NT ln ae⟩,fun q2 L ⟨k,hp,d,g⟩ V g3 _=>?_⟩;simp only[g3.iA,g3.hA,L.iA,L.hA,I.iA,I.hA,g0.iA,g0.hA,Nat.reduceLT,w0,w1,aY];have P:ah (bU 4096 s).l:=(iW m.byte).1;refine DD h1 ae fun b g4 Q M=>?_;obtain⟨W,bs',R',e1,N,R,C⟩:=hp;simp only[MH,MZ]at e1 N;subst e1 N;obtain rfl:=K.rd.w.uniq R;have d:q2.h 7=k:=d trivial;have g:=Cf g;have j:Agree 136 q2 b:=g3.tr g4;have D:av b 7=av q2 7:=bk (a:=7) j (by rw[bn];omega);obtain⟨h',n,o⟩:∃ h',aG k (av q2 7) h'/\wV (bt 4096 s) h':=by
   rcases C with ⟨row,h',hv,hx,hf,hb⟩ | ⟨hv,F⟩
   .have hv:Value.tuple #[.agg (av q2 7).toArray,.int .i64 (q2.i 135)]=.tuple #[.agg row.toArray,.int .i64 0]:=hv;have e:av q2 7=row:=M4 (Value.agg.inj (qN hv).1);rw[<-e]at hx;exact⟨h',hx,Or.inl ⟨hf,hb⟩⟩
   .have hv:Value.tuple #[.agg (av q2 7).toArray,.int .i64 (q2.i 135)]=.tuple #[.agg gV.toArray,.int .i64 2]:=hv;have e:av q2 7=gV:=M4 (Value.agg.inj (qN hv).1);rw[e];exact⟨hz,pg _,Or.inr ⟨rfl,F⟩⟩
  have q:(ckCVs 7 aI++[CV.sl (E.var 137) (E.var 138) (E.var 139) (E.var 140)]).map (CV.ev b)=av q2 7++[.slice (slP (b.i 137) (b.i 138)) (b.i 139).toNat (b.i 140).toNat]:=by
   rw[M9,show(ckCVs 7 aI).map (CV.ev b)=av q2 7 from D];rfl
  have hl:(av q2 7).length=125:=by kernel_rfl
  intro t;have hd:=t 3 5 _ _ aj rfl rfl rfl;have hd:(b.h 7).dis (b.h 138):=hd;rw[j.h 7,d]at hd;have S:uni b [.hp 137 [3,1] [.var 0] [],.dead,.hp 4 [] [.var 3] [],.hp 7 [] [.var 60] [],.dead,.hp 138 [] [.var 137] []] [3,5]=k.un (b.h 138):=by
   show hls [b.h 7,b.h 138]=_;rw[j.h 7,d];show k.un ((b.h 138).un Hl.none)=_;rw[Hl.un_none]
  have u:aV (k.un (b.h 138)) (k.un (b.h 138)) (av q2 7++[.slice (slP (b.i 137) (b.i 138)) (b.i 139).toNat (b.i 140).toNat]) ⟨h',bt 4096 (bU 4096 s)⟩:=by
   refine⟨bb (kb:=[.slice]) n.ok ⟨rfl,zzT⟩,?_,?_,(iW P).2,NT ln ae⟩
   .rw[Ot ae,Od ae];exact n.mono (Hl.un_left _ _)
   .rw[MR,MX ae,hl];exact cD M.rd.w (Hl.un_right hd)
  obtain⟨G,z,A⟩:=ym (ks:=bC) (row:=av q2 7++[.slice (slP (b.i 137) (b.i 138)) (b.i 139).toNat (b.i 140).toNat]) u.ok zzK (fun v hv=>by
   rcases Nb.1 hv with hv | hv
   .exact pf g.1 v hv
   .rw[MO]at hv;subst hv;exact ij M.rx)
  have ev:(TV.sv (.agg (ckCVs 7 aI++[CV.sl (E.var 137) (E.var 138) (E.var 139) (E.var 140)]))).ev b=Value.agg (av q2 7++[Value.slice (slP (b.i 137) (b.i 138)) (b.i 139).toNat (b.i 140).toNat]).toArray:=by
   show Value.agg ((ckCVs 7 aI++[CV.sl (E.var 137) (E.var 138) (E.var 139) (E.var 140)]).map (CV.ev b)).toArray=_;rw[q]
  refine⟨[[0]],[3,5],rfl,rfl,⟨G,ev.trans z.symm,A⟩,_,H,s,b.h 137,_,⟨h',bt 4096 (bU 4096 s)⟩,rfl,rfl,h,?_,Q,ev,?_,o,rfl⟩
  .show [hls [b.h 137]]=_;rw[hls_one]
  .rw[S];exact u
def aP (m:Int):Nat->PS->List Int×PS
 | 0,s=>([],s)
 | k+1,s=>(au m s::(aP m k (aS m s)).1,(aP m k (aS m s)).2)
def Ah {m:Int} : ∀ (k:Nat) (s:PS),ah s.l->(aP m k s).2.bad=false->s.bad=false/\s.l=fF (aP m k s).1++(aP m k s).2.l
 | 0,s,_,h=>⟨h,rfl⟩
 | k+1,s,hb,h=>by
  obtain⟨h1,h2⟩:=Ah k (aS m s) (aE hb) h;obtain⟨a,b,_⟩:=fv hb h1;refine⟨a,?_⟩;rw[b,h2];show _=(aq (au m s).toNat++fF (aP m k (aS m s)).1)++_;rw[MY];rfl
def tY {m:Int} : ∀ (vs:List Int) (t:List Int),(∀ v∈vs,0<=v/\v<=m/\v<18446744073709551616)->aP m vs.length ⟨fF vs++t,false⟩=(vs,⟨t,false⟩)
 | [],t,_=>rfl
 | v::vs,t,h=>by
  have hv:=h v (Nh ..);have e:fF (v::vs)++t=aq v.toNat++(fF vs++t):=by show(aq v.toNat++fF vs)++t=_;rw[MY]
  obtain⟨a1,a2⟩:=DP (m:=m) (z:=v.toNat) (t:=fF vs++t) ae ae;show(au m _::(aP m vs.length (aS m _)).1,(aP m vs.length (aS m _)).2)=_;rw[e,a1,a2,tY vs t fun w hw=>h w (MW _ hw)];simp only[Nr,MH,MZ];omega
def r5 {m:Int} : ∀ (k:Nat) (s:PS),(aP m k s).1.length=k
 | 0,_=>rfl
 | k+1,s=>by show(_::_).length=_;rw[Nk,r5]
def qi {m:Int} (hm:0<=m):∀ (k:Nat) (s:PS),∀ v∈(aP m k s).1,0<=v/\v<=m
 | 0,_,v,h=>by cases h
 | k+1,s,v,h=>by
  rcases MQ.1 h with rfl | h
  .exact aU hm
  .exact qi hm k _ v h
def mq {m:Int} : ∀ (k:Nat) (s:PS),ah s.l->ah (aP m k s).2.l
 | 0,_,h=>h
 | k+1,s,h=>mq k _ (aE h)
def fD:Sx.Spec where
 fn:=34
 own:=[.arg 0]
 rd:=[]
 res:=[.agg (List.replicate 6 (.int .u64))]
 pre:=fun xs Hs Rs=>∃ p H s,xs=[p]/\Hs=[H]/\dy H p s
 post:=fun xs Hs Rs v Hs' F=>∃ p H s H',xs=[p]/\Hs=[H]/\dy H p s/\Hs'=[H']/\dy H' p (aP 1048576 6 s).2/\v=.agg (us (aP 1048576 6 s).1).toArray
noncomputable def iC:Walk Tryz.prog BC 34 where
 Λ:=noLoops
 args:=[TP (.var 0) (.lit 0)]
 mem:=[.hp 1 [] [.var 0] []]
 nv:=2
def IW:numS.res=[.one (.int .u64)]:=rfl
def LG:jd.res=[.one .bool]:=rfl
def LH:oL.res=[.one .sl]:=rfl
def lP:fD.OK Tryz.prog:=by
 refine Spec.of_fn (Γ:=BC) uP ?_;rintro xs Hs Rs k g ⟨p,H,s,rfl,rfl,h⟩;have e1:Rs=[]:=MF.1 g;subst e1;obtain⟨a,x,y,c,z,rfl,l⟩:=id h;refine⟨iC,envI [(a:Int)] false [Hl.none,H],fun _ _=>True,fun _ _=>0,?_,⟨?_,?_,?_,?_⟩,(fun _ h=>nomatch h),?_⟩
 .show [Value.pointer (slP (a:Int) 0)]=_;rw[aY]
 .intro r hr ho;simp [iC]at hr;subst hr;exact⟨H,ar,Hl.le_refl _⟩
 .intro r hr ho;simp [iC]at hr;subst hr;cases ho
 .simp [iC]
 .intro r hr;simp [iC]at hr;subst hr;trivial
 .refine Walk.read [] [] [] ?_;generalize e:envI [(a:Int)] false [Hl.none,H]=J;have w0:J.i 0=a:=by rw[<-e];rfl
  have w1:J.h 1=H:=by rw[<-e];rfl
  clear e;simp only[go_sem,Nat.reduceAdd,BC,IW];intro A g0 _ q1 b _;simp only[b.iA,b.hA,g0.iA,g0.hA,Nat.reduceLT,w0,w1,aY];refine de h fun q2 d h2 v2=>?_
  try simp only[d.iA,d.hA,b.iA,b.hA,g0.iA,g0.hA,Nat.reduceLT,w0,w1,aY]
  refine de h2 fun B g3 m n=>?_
  try simp only[g3.iA,g3.hA,d.iA,d.hA,b.iA,b.hA,g0.iA,g0.hA,Nat.reduceLT,w0,w1,aY]
  refine de m fun C g4 o v4=>?_
  try simp only[g4.iA,g4.hA,g3.iA,g3.hA,d.iA,d.hA,b.iA,b.hA,g0.iA,g0.hA,Nat.reduceLT,w0,w1,aY]
  refine de o fun D f q t=>?_
  try simp only[f.iA,f.hA,g4.iA,g4.hA,g3.iA,g3.hA,d.iA,d.hA,b.iA,b.hA,g0.iA,g0.hA,Nat.reduceLT,w0,w1,aY]
  refine de q fun E j u v6=>?_
  try simp only[j.iA,j.hA,f.iA,f.hA,g4.iA,g4.hA,g3.iA,g3.hA,d.iA,d.hA,b.iA,b.hA,g0.iA,g0.hA,Nat.reduceLT,w0,w1,aY]
  refine de u fun q7 v w v7=>?_;intro _;have ev:(TV.sv (.agg [.int .u64 (.var 4),.int .u64 (.var 6),.int .u64 (.var 8),.int .u64 (.var 10),.int .u64 (.var 12),.int .u64 (.var 14)])).ev q7=.agg (us (aP 1048576 6 s).1).toArray:=by
   show Value.agg (us [q7.i 4,q7.i 6,q7.i 8,q7.i 10,q7.i 12,q7.i 14]).toArray=_;simp only[v.iA,j.iA,f.iA,g4.iA,g3.iA,d.iA,b.iA,g0.iA,Nat.reduceLT,v2,n,v4,t,v6,v7];rfl
  refine⟨[[0]],[],rfl,rfl,⟨envI (aP 1048576 6 s).1 false [],?_,ckNorms_pure _ _ _ rfl,zzT⟩,_,H,s,q7.h 14,rfl,rfl,h,?_,w,ev⟩
  .rw[ev];rfl
  .show [hls [q7.h 14]]=_;rw[hls_one]
end Go.Proofs.YtbdikjnpbnobcaaGreatDoor
