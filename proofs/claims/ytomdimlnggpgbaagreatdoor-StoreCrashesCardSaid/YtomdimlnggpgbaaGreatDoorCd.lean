/- Layer 8: bytes into sectors, a head into its sector, as contracts. No condition. -/
import Derived.Shelf.SlIterI.Nil
import Derived.Shelf.SortM.Plain
import Derived.Shelf.SortM.SortNone
import Derived.Ground.GgzProg
import Derived.Ground.SlgmProg
import Derived.Shelf.SlGeneric
import Derived.Test.YtomdimlnggpgbaaGreatDoorRows
import Derived.Test.YtomdimlnggpgbaaGreatDoorCc
set_option linter.unusedSimpArgs false
set_option linter.unusedVariables false
set_option linter.constructorNameAsVariable false
namespace Go.Proofs.YtomdimlnggpgbaaGreatDoor.D
open Go Go.Sx
theorem dA.rep {F:Hl} {e:TypeId} {v:Value} {bs:List Int} (h:dA F e v bs):∃ (x:Int) (c:Nat),-1≤x∧v=.slice (ar x 0) bs.length c∧bs.length≤c∧((x= -1∧bs=[])∨(0≤x∧∀ j z,bs[j]?=some z→F.cell x.toNat j=some (.int .u8 z))):=by
 obtain⟨hl,h⟩:=h
 rcases h with ⟨rfl,hn⟩ | ⟨g,cap,cur,rfl,hg,hle,hm,hs,ht⟩
 ·exact⟨-1,0,by omega,by rw[cW,hn],by omega,Or.inl ⟨rfl,List.length_eq_zero_iff.1 hn⟩⟩
 ·refine⟨g,cap,by omega,by rw[aq (by omega)];simp,hle,Or.inr ⟨by omega,fun j z hz=>?_⟩⟩
  have hj:=(List.getElem?_eq_some_iff.1 hz).1
  simp only[Int.toNat_natCast,Hl.cell,hg]
  have e1:(cur.toList.take (bs.length*1))[j]?=some (.int .u8 z):=by rw[ht,dw,hz];rfl
  rw[List.getElem?_take_of_lt (by omega),Array.getElem?_toList]at e1
  exact e1
def fW (all:List Int) (i:Nat):List Int:=(List.range 64).map fun j=>(all[64*i+j]?).getD 0
def bH (frm:Int) (all:List Int):Nat→Nat→DM→Int×DM
 | 0,_,D=>aX D
 | f+1,i,D=>if 64*i<all.length then(if(bV D (frm+2+i) (fW all i)).1≠0 then bV D (frm+2+i) (fW all i)else bH frm all f (i+1) (bV D (frm+2+i) (fW all i)).2)else aX D
def dc (D:DM) (frm:Int) (all:List Int) (from_:Int):Int×DM:=bH frm all (all.length+1) (from_/64).toNat D
def sG:Sx.Spec where
 fn:=131
 own:=[.link 0 0]
 rd:=[0,1]
 res:=[.one (.int .i64)]
 pre:=fun xs Hs Rs=>∃ p u all fr H R1 R2 dp sl L D,xs=[p,u,.int .i64 fr]∧Hs=[H]∧Rs=[R1,R2]∧c6 R1 p dp sl L∧dA R2 5 u all∧aj H dp D∧0≤fr∧fr≤1073741824∧all.length≤1073741824
 post:=fun xs Hs Rs v Hs' F=>∃ p u all fr H R1 R2 dp sl L D H',xs=[p,u,.int .i64 fr]∧Hs=[H]∧Rs=[R1,R2]∧c6 R1 p dp sl L∧dA R2 5 u all∧aj H dp D∧Hs'=[H']∧aj H' dp (dc D L.frm all fr).2∧v=.int .i64 (dc D L.frm all fr).1
def k7:E:=.wrap .i64 (.mul (.var 20) (.lit 64))
def sF:E:=.ite (.lt (.sub (.var 3) k7) (.lit 64)) (.sub (.var 3) k7) (.lit 64)
def sH:E:=.ite (.eq (.var 4) k7) (.var 2) (.add (.var 2) k7)
def uj:List CV:=(List.range 64).map fun(j:Nat)=>.int .u8 (.ite (.lt (.lit (j:Int)) sF) (.hI 7 (.var 1) sH j) (.lit 0))
def yw:Nd:=.and (.inv 0 [⟨20,0,.int .i64 (.wrap .i64 (.quo (.var 5) (.lit 64)))⟩] [(21,some 6)]) (.havoc 0 0 9 (.and (.e (.le (.lit 0) (.var 3))) (.and (.imp (.lt (.wrap .i64 (.mul (.var 20) (.lit 64))) (.var 3)) (.and (.pre (.mk 22 5 [.int .u8 (.lit 0)] 1 (.lit 64))) (.ext (.mk 22 5 [.int .u8 (.lit 0)] 1 (.lit 64)) (.and (.e (.le (.lit (-1)) (.var 1))) (.and (.e (.le (.lit 0) (.var 2))) (.and (.e (.le (.lit 0) (.wrap .i64 (.mul (.var 20) (.lit 64))))) (.and (.e (.le (.wrap .i64 (.mul (.var 20) (.lit 64))) (.var 3))) (.and (.e (.le (.var 3) (.var 4))) (.and (.e (.and (.or (.and (.eq (.var 1) (.lit (-1))) (.eq (.sub (.var 3) (.wrap .i64 (.mul (.var 20) (.lit 64)))) (.lit 0))) (.and (.le (.lit 0) (.var 1)) (.and (.le (.lit 0) sH) (.hby 7 (.var 1) sH sF)))) (.and (.le (.lit 0) (.sub (.var 3) (.wrap .i64 (.mul (.var 20) (.lit 64))))) (.le sF (.lit 64))))) (.and (.e (.le (.lit 0) (.var 0))) (.and (.e (.his 8 (.var 0) (.lit 0) 0 .ptr)) (.and (.e (.his 8 (.var 0) (.lit 1) 0 (.int .i64))) (.and (.pre (.call 0 23 [.sv (.one (.hptr (.hP 8 (.var 0) (.lit 0) 0 0) (.hP 8 (.var 0) (.lit 0) 0 1))),.sv (.one (.int .i64 (.wrap .i64 (.add (.wrap .i64 (.add (.hI 8 (.var 0) (.lit 1) 0) (.lit 2))) (.var 20))))),.sv (.one (.sl (.var 22) (.lit 0) (.lit 64) (.lit 64)))] [.hp 21 [] [.hP 8 (.var 0) (.lit 0) 0 0] []] [.aS 22 uj 5])) (.ext (.call 0 23 [.sv (.one (.hptr (.hP 8 (.var 0) (.lit 0) 0 0) (.hP 8 (.var 0) (.lit 0) 0 1))),.sv (.one (.int .i64 (.wrap .i64 (.add (.wrap .i64 (.add (.hI 8 (.var 0) (.lit 1) 0) (.lit 2))) (.var 20))))),.sv (.one (.sl (.var 22) (.lit 0) (.lit 64) (.lit 64)))] [.hp 21 [] [.hP 8 (.var 0) (.lit 0) 0 0] []] [.aS 22 uj 5]) (.and (.imp (.not (.eq (.var 23) (.lit 0))) (.post [.hp 23 [21] [.hP 8 (.var 0) (.lit 0) 0 0] [],.ro 7 [.var 1] false,.ro 8 [.var 0] false,.dead] (.sv (.one (.int .i64 (.var 23)))))) (.imp (.eq (.var 23) (.lit 0)) (.back 0 0 [⟨20,0,.int .i64 (.wrap .i64 (.add (.var 20) (.lit 1)))⟩] [(21,some 23)]))))))))))))))))) (.imp (.not (.lt (.wrap .i64 (.mul (.var 20) (.lit 64))) (.var 3))) (.and (.e (.le (.lit 0) (.var 0))) (.and (.e (.his 8 (.var 0) (.lit 0) 0 .ptr)) (.and (.pre (.call 1 22 [.sv (.one (.hptr (.hP 8 (.var 0) (.lit 0) 0 0) (.hP 8 (.var 0) (.lit 0) 0 1)))] [.hp 21 [] [.hP 8 (.var 0) (.lit 0) 0 0] []] [])) (.ext (.call 1 22 [.sv (.one (.hptr (.hP 8 (.var 0) (.lit 0) 0 0) (.hP 8 (.var 0) (.lit 0) 0 1)))] [.hp 21 [] [.hP 8 (.var 0) (.lit 0) 0 0] []] []) (.post [.hp 22 [21] [.hP 8 (.var 0) (.lit 0) 0 0] [],.ro 7 [.var 1] false,.ro 8 [.var 0] false] (.sv (.one (.int .i64 (.var 22)))))))))))))
def sI:List Sx.Spec:=[oy,nz]
theorem CW:∀ t∈sI,t.OK Tryz.prog:=fun t ht=>by
 simp only[sI,List.mem_cons,List.mem_nil_iff,or_false]at ht
 rcases ht with rfl | rfl
 ·exact tF
 ·exact xB
def wj:cy Tryz.prog sI sG.fn where
 Λ:=fun p=>if lp p then some ⟨0,[(7,TI .i64 (.var 20))],[(0,.hp 21 [] [.hP 8 (.var 0) (.lit 0) 0 0] [])],22⟩else none
 args:=[TP (.var 0) (.lit 0),.sv (.one (.sl (.var 1) (.var 2) (.var 3) (.var 4))),TI .i64 (.var 5)]
 mem:=[.hp 6 [] [.hP 8 (.var 0) (.lit 0) 0 0] [],.ro 7 [.var 1] false,.ro 8 [.var 0] false]
 nv:=9
 nd:=yw
 ok:=by kernel_rfl
theorem Kx:sI[0]?=some oy:=rfl
theorem Ky:sI[1]?=some nz:=rfl
theorem Kb:oy.res=[.one (.int .i64)]:=rfl
theorem Kc:nz.res=[.one (.int .i64)]:=rfl
def EI (D:DM) (frm:Int) (all:List Int) (dp:Value) (fr:Int) (_:Nat) (q:Env):Prop:=∃ (f i:Nat) (D1:DM),q.i 20=i∧aj (q.h 21) dp D1∧bH frm all f i D1=dc D frm all fr∧all.length+1≤f+i∧i≤all.length+16777217
theorem CU:sG.OK Tryz.prog:=by
 refine Spec.b8 (Γ:=sI) CW ?_
 rintro xs Hs Rs hl1 hl2 ⟨p,u,all,fr,H,R1,R2,dp,sl,L,D,rfl,rfl,rfl,⟨a,rfl,hL⟩,hO,hD,hf0,hf1,hall⟩
 obtain⟨x,c,hx,rfl,hc,hcell⟩:=dA.rep hO
 refine⟨wj,bx [a,x,0,all.length,c,fr] false [Hl.none,Hl.none,Hl.none,Hl.none,Hl.none,Hl.none,H,R2,R1],EI D L.frm all dp fr,fun _ q=>(all.length-q.i 20).toNat,?_,⟨?_,?_,?_,?_⟩,(fun _ h=>nomatch h),?_⟩
 ·show [Value.pointer (ar (a:Int) 0),Value.slice (ar x 0) ((all.length:Int)).toNat ((c:Int)).toNat,Value.int .i64 fr]=_
  rw[fc,Int.toNat_natCast,Int.toNat_natCast]
 ·intro r hr ho
  simp [wj]at hr
  rcases hr with rfl | rfl | rfl
  ·exact⟨H,by simp,Hl.le_refl _⟩
  ·cases ho
  ·cases ho
 ·intro r hr ho
  simp [wj]at hr
  rcases hr with rfl | rfl | rfl
  ·cases ho
  ·exact⟨R2,by simp,Hl.le_refl _⟩
  ·exact⟨R1,by simp,Hl.le_refl _⟩
 ·simp [wj,bc.own]
 ·intro r hr
  simp [wj]at hr
  rcases hr with rfl | rfl | rfl<;>trivial
 ·show Nd.holds _ _ _ yw
  generalize hρ:bx [(a:Int),x,0,all.length,c,fr] false [Hl.none,Hl.none,Hl.none,Hl.none,Hl.none,Hl.none,H,R2,R1]=ρ
  have v0:ρ.i 0=a:=by rw[←hρ];rfl
  have v1:ρ.i 1=x:=by rw[←hρ];rfl
  have v2:ρ.i 2=0:=by rw[←hρ];rfl
  have v3:ρ.i 3=all.length:=by rw[←hρ];rfl
  have v4:ρ.i 4=c:=by rw[←hρ];rfl
  have v5:ρ.i 5=fr:=by rw[←hρ];rfl
  have w6:ρ.h 6=H:=by rw[←hρ];rfl
  have w7:ρ.h 7=R2:=by rw[←hρ];rfl
  have w8:ρ.h 8=R1:=by rw[←hρ];rfl
  unfold yw
  simp only[Nd.holds,X.pre,X.rel,X.n,Src.ok,Src.len,Src.bS,true_and,and_true,if_true,Nat.mul_one,Nat.add_zero,Nat.reduceAdd,List.length_cons,List.length_nil,bN,bK,aP,ba,bb,bM,bj,bJ,bI,bD,bd,bk,bL,bg,bf,aQ,bh,ah,ai,aE,aI,aK,ax,aF,aV,aT,au,aO,aC,aN,aB,TV.ev,SV.ev,CV.ev,List.map_cons,List.map_nil,bc.hl,df,Cp.sv,Ck.cv,ct,Cp.len,Ck.len,aU,bm,bC,Kx,Ky,Kb,Kc]
  have t0:Int.toNat 0=0:=rfl
  have t1:Int.toNat 1=1:=rfl
  have t64:Int.toNat 64=64:=rfl
  obtain⟨da,s,m,es,clock,hdp,hDi⟩:=id hD
  have c0:R1.cell a 0=some dp:=by rw[hL.cell];rfl
  have c1:R1.cell a 1=some (.int .i64 L.frm):=by rw[hL.cell];rfl
  obtain⟨f0,f1⟩:=hL.1.frm
  have ep:Value.pointer (ar (cH (R1.cell a 0) 0) (cH (R1.cell a 0) 1))=dp:=by rw[c0,hdp];exact fc da
  have wk:cx (R1.cell a 0) Kd.ptr=true:=by rw[c0,hdp];rfl
  refine⟨⟨all.length+1,(fr/64).toNat,D,?_,?_,rfl,by omega,by omega⟩,fun q g ⟨f,i,D1,e20,hD1,hgo,hfi,hi⟩=>?_⟩
  ·show IntKind.i64.wrap ((ρ.i 5).tdiv 64)=_
   rw[v5,Int.tdiv_eq_ediv_of_nonneg hf0,wrap_i64 (by omega) (by omega)]
   omega
  ·show aj (ρ.h 6) dp D
   rw[w6];exact hD
  ·have u0:q.i 0=a:=by rw[g.i 0 (by omega),v0]
   have u3:q.i 3=all.length:=by rw[g.i 3 (by omega),v3]
   have y8:q.h 8=R1:=by rw[g.h 8 (by omega),w8]
   have ew:IntKind.i64.wrap ((i:Int)*64)=64*i:=by rw[wrap_i64 (by omega) (by omega)];omega
   have out:∀ (q':Env) (n:Nat) (vs:List Nat) (t:Mem) (r:Int×DM),ae 9 ρ q'→dc D L.frm all fr=r→aj (q'.h n) dp r.2→q'.i n=r.1 →
    postOf sG [.pointer (some ⟨a,0,none⟩),.slice (ar x 0) all.length c,.int .i64 fr] [H] [R1,R2] q' (.hp n vs [.hP 8 (.var 0) (.lit 0) 0 0] []::t) (.sv (.one (.int .i64 (.var n)))):=by
    intro q' n vs t r hq hr h1 h2 _
    refine⟨[[0]],[],rfl,rfl,⟨⟨fun _=>q'.i n,fun _=>false,fun _=>.empty,fun _=>.tuple #[],fun _=>Hl.none⟩,rfl,trivial,trivial⟩,_,_,all,fr,H,R1,R2,dp,sl,L,D,_,rfl,rfl,rfl,⟨a,rfl,hL⟩,hO,hD,rfl,?_,?_⟩
    ·show aj (dF [q'.h n]) _ _
     rw[bp,hr];exact h1
    ·show Value.int .i64 (q'.i n)=_
     rw[h2,hr]
   rw[u0,u3,e20,ew,y8,Int.toNat_natCast,t0,ep]
   refine⟨by omega,fun hlt=>⟨⟨by omega,by omega,by omega⟩,fun q1 g1 ⟨p22,_⟩=>?_⟩,fun hge=>⟨by omega,wk,⟨_,_,D1,rfl,rfl,hD1⟩,fun q1 g1 ⟨F,⟨p',H',D',H2,hx,hH,hD',hH2,hD2,hv⟩,_,_⟩=>?_⟩⟩
   ·have G1:ae 9 ρ q1:=g.trans (g1.mono (by omega))
    have x1:q1.i 1=x:=by rw[G1.i 1 (by omega),v1]
    have x2:q1.i 2=0:=by rw[G1.i 2 (by omega),v2]
    have x3:q1.i 3=all.length:=by rw[G1.i 3 (by omega),v3]
    have x4:q1.i 4=c:=by rw[G1.i 4 (by omega),v4]
    have x20:q1.i 20=i:=by rw[g1.i 20 (by omega),e20]
    have z7:q1.h 7=R2:=by rw[G1.h 7 (by omega),w7]
    have hcell:0≤x∧∀ (j:Nat) (z:Int),all[j]?=some z→R2.cell x.toNat j=some (.int .u8 z):=by
     rcases hcell with ⟨_,h⟩ | h
     ·rw[h]at hlt;simp only[List.length_nil]at hlt;omega
     ·exact h
    obtain⟨hx0,hcell⟩:=hcell
    have eW:ak q1 k7=64*i:=by
     unfold k7
     rw[ax,aK,ai,ah,x20,ew]
    have eM:ak q1 sF=min (all.length-64*i:Int) 64:=by
     unfold sF
     rw[aF,iU,aI,ai,ah,eW,x3]
     simp only[decide_eq_true_eq]
     split<;>omega
    have eY:ak q1 sH=64*i:=by
     unfold sH
     rw[aF,nI,aE,ai,ai,eW,x2,x4]
     simp only[decide_eq_true_eq]
     split<;>omega
    have eC:(uj.map (CV.ev q1))=cn (fW all i):=by
     unfold uj fW cn
     rw[List.map_map,List.map_map]
     refine List.map_congr_left fun j hj=>?_
     have hj:=List.mem_range.1 hj
     show Value.int .u8 (ak q1 (.ite (.lt (.lit (j:Int)) sF) (.hI 7 (.var 1) sH j) (.lit 0)))=Value.int .u8 _
     rw[aF,iU,aV,ah,ah,eM,eY,ai,x1,z7]
     simp only[decide_eq_true_eq]
     rcases Nat.lt_or_ge (64*i+j) all.length with h | h
     ·rw[if_pos (by omega),List.getElem?_eq_getElem h,show(64*(i:Int)).toNat+j=64*i+j by omega,hcell _ _ (List.getElem?_eq_getElem h)]
      rfl
     ·rw[if_neg (by omega),List.getElem?_eq_none h];rfl
    have ei:IntKind.i64.wrap (IntKind.i64.wrap (fg (R1.cell a 1)+2)+i)=L.frm+2+i:=by
     rw[c1]
     show IntKind.i64.wrap (IntKind.i64.wrap (L.frm+2)+i)=_
     rw[wrap_i64 (n:=L.frm+2) (by omega) (by omega),wrap_i64 (by omega) (by omega)]
    have wk1:cx (R1.cell a 1) (Kd.int .i64)=true:=by rw[c1];rfl
    have hrd:mv (Hl.one (q1.i 22).toNat (.cells (cn (fW all i)).toArray 5 (0,0))) (.slice (ar (q1.i 22) 0) 64 64) (fW all i):=by
     refine⟨q1.i 22,0,64,by simp [fW],by omega,Or.inr ⟨p22,fun j z hz=>?_⟩⟩
     rw[Hl.one_cell,List.getElem?_toArray,dw,Int.toNat_zero,Nat.zero_add,hz];rfl
    rw[x1,x2,x3,x4,x20,ew,eY,eM,eC,z7,G1.i 0 (by omega),v0,G1.h 8 (by omega),w8,Int.toNat_natCast,t1,t64,ep,ei]
    refine⟨hx,by omega,by omega,by omega,by omega,⟨Or.inr ⟨hx0,by omega,?_⟩,by omega,by omega⟩,by omega,wk,wk1,⟨dp,L.frm+2+i,_,fW all i,q1.h 21,_,D1,rfl,rfl,rfl,?_,hrd⟩,fun q2 g2 ⟨F,⟨p',i',u',bs',H',R',D',H2,hx,hH,hR,hD',hrd',hH2,hD2,hv⟩,_,_⟩=>?_⟩
    ·refine dB (bs:=all.drop (64*i)) (fun j z hz=>?_) (by rw[List.length_drop];omega)
     rw[List.getElem?_drop]at hz
     rw[show(64*(i:Int)).toNat+j=64*i+j by omega]
     exact hcell _ _ hz
    ·rw[g1.h 21 (by omega)];exact hD1
    ·cases hx
     cases hH
     cases hR
     rw[g1.h 21 (by omega)]at hD'
     have e:=hD'.uniq hD1
     subst e
     have e:=hrd'.uniq hrd
     subst e
     simp only[Value.int.injEq,true_and,List.cons.injEq,and_true]at hv hH2
     rw[←hH2]at hD2
     have G2:ae 9 ρ q2:=G1.trans (g2.mono (by omega))
     have step:bH L.frm all f i D'=if(bV D' (L.frm+2+i) (fW all i)).1≠0 then bV D' (L.frm+2+i) (fW all i)else bH L.frm all (f-1) (i+1) (bV D' (L.frm+2+i) (fW all i)).2:=by
      obtain⟨k,rfl⟩:∃ k,f=k+1:=⟨f-1,by omega⟩
      show(if 64*i<all.length then _ else _)=_
      rw[if_pos (by omega)];rfl
     refine⟨fun h=>out q2 23 _ _ (bV D' (L.frm+2+i) (fW all i)) G2 ?_ hD2 hv,fun h=>?_⟩
     ·rw[←hgo,step,if_pos (by rw[←hv];exact h)]
     ·have e20':(assign q2 [⟨20,0,.int .i64 (.wrap .i64 (.add (.var 20) (.lit 1)))⟩] [(21,some 23)]).i 20=i+1:=by
       show IntKind.i64.wrap (q2.i 20+1)=_
       rw[g2.i 20 (by omega),x20,wrap_i64 (by omega) (by omega)]
      refine⟨⟨f-1,i+1,(bV D' (L.frm+2+i) (fW all i)).2,by rw[e20'];omega,hD2,?_,by omega,by omega⟩,by rw[e20'];omega⟩
      rw[←hgo,step,if_neg (by rw[←hv,h];simp)]
   ·cases hx
    cases hH
    have e:=hD'.uniq hD1
    subst e
    simp only[Value.int.injEq,true_and,List.cons.injEq,and_true]at hv hH2
    rw[←hH2]at hD2
    refine out q1 22 _ _ (aX D') (g.trans (g1.mono (by omega))) ?_ hD2 hv
    rw[←hgo]
    cases f with
    | zero=>rfl
    | succ k =>
     show(if 64*i<all.length then _ else _)=_
     rw[if_neg (by omega)]
end Go.Proofs.YtomdimlnggpgbaaGreatDoor.D
namespace Go.Proofs.YtomdimlnggpgbaaGreatDoor.D
open Go Go.Sx
def br (D:DM) (frm:Int) (h:List Int):Int×DM :=
 if(bV D (frm+(h.getD 0 0).tmod 2) (aG h++aG h)).1≠0 then bV D (frm+(h.getD 0 0).tmod 2) (aG h++aG h)else aX (bV D (frm+(h.getD 0 0).tmod 2) (aG h++aG h)).2
def jF (h:List Int):Prop:=h.length=18∧(0≤h.getD 0 0∧h.getD 0 0<18446744073709551616)∧0≤h.getD 1 0∧h.getD 1 0<18446744073709551616
def po:Sx.Spec where
 fn:=132
 own:=[.link 0 0]
 rd:=[0]
 res:=[.one (.int .i64)]
 pre:=fun xs Hs Rs=>∃ p h H R dp sl L D,xs=[p,.agg (jf h).toArray]∧Hs=[H]∧Rs=[R]∧c6 R p dp sl L∧aj H dp D∧jF h
 post:=fun xs Hs Rs v Hs' F=>∃ p h H R dp sl L D H',xs=[p,.agg (jf h).toArray]∧Hs=[H]∧Rs=[R]∧c6 R p dp sl L∧aj H dp D∧jF h∧Hs'=[H']∧aj H' dp (br D L.frm h).2∧v=.int .i64 (br D L.frm h).1
theorem yO {h:List Int} (hl:h.length=18):∃ a b t,h=a::b::t∧t.length=16:=by
 match h,hl with
 | a::b::t,hl=>exact⟨a,b,t,rfl,by simpa using hl⟩
theorem jH {h:List Int} (hl:h.length=18):de (.agg (jf h).toArray)=h:=by
 obtain⟨a,b,t,rfl,ht⟩:=yO hl
 show([Value.int .u64 a,Value.int .u64 b]++t.map (Value.int .u8)).map (fun c=>fg (some c))=_
 rw[List.map_append,List.map_map]
 show [a,b]++t.map id=_
 rw[List.map_id];rfl
theorem Am {h k:List Int} (h1:h.length=18) (h2:k.length=18) (e:Value.agg (jf h).toArray=Value.agg (jf k).toArray):h=k:=by
 rw[←jH h1,←jH h2,e]
theorem BM {h:List Int} (hl:h.length=18):j7 (jf h) (gZ.map kq):=by
 obtain⟨a,b,t,rfl,ht⟩:=yO hl
 exact⟨by simp [cx,kq],by simp [cx,kq],eX 16 _ ht⟩
theorem y7 (q:Env) (n:Nat):gI n gZ q:=⟨trivial,trivial,fQ q 16 (n+2)⟩
theorem C2 {h:List Int} (hh:jF h):wx.pre [.agg (jf h).toArray] [] []:=by
 obtain⟨c,_,_,ec⟩:=gF gZ 0 (jf h) ⟨fun _=>0,fun _=>false,fun _=>.empty,fun _=>.tuple #[],fun _=>Hl.none⟩ (BM hh.1)
 refine⟨⟨c,⟨y7 c 0,trivial⟩,?_⟩,?_⟩
 ·show [Value.agg (jf h).toArray]=[Value.agg ((al 0 gZ).map (CV.ev c)).toArray]
  rw[ec]
 ·show(0≤(de (.agg (jf h).toArray)).getD 0 0∧(de (.agg (jf h).toArray)).getD 0 0<_)∧0≤(de (.agg (jf h).toArray)).getD 1 0∧(de (.agg (jf h).toArray)).getD 1 0<_
  rw[jH hh.1];exact hh.2
theorem uo {h:List Int} (hl:h.length=18):(aG h).length=32:=by
 unfold aG nG
 simp [hl]
def zN:Nd:=.ext (.alloc 21) (.and (.pre (.call 2 22 [.sv (.agg (al 1 ([Ck.int .u64,Ck.int .u64]++List.replicate 16 (Ck.int .u8))))] [] [])) (.ext (.call 2 22 [.sv (.agg (al 1 ([Ck.int .u64,Ck.int .u64]++List.replicate 16 (Ck.int .u8))))] [] []) (.ext (.alloc 54) (.and (.e (.le (.lit 0) (.var 0))) (.and (.e (.his 20 (.var 0) (.lit 0) 0 .ptr)) (.and (.e (.his 20 (.var 0) (.lit 1) 0 (.int .i64))) (.and (.pre (.grow 55 5 1 1 (al 22 (List.replicate 32 (Ck.int .u8))) 32 32 (.cvs (al 22 (List.replicate 32 (Ck.int .u8))) 32))) (.ext (.grow 55 5 1 1 (al 22 (List.replicate 32 (Ck.int .u8))) 32 32 (.cvs (al 22 (List.replicate 32 (Ck.int .u8))) 32)) (.and (.pre (.call 0 57 [.sv (.one (.hptr (.hP 20 (.var 0) (.lit 0) 0 0) (.hP 20 (.var 0) (.lit 0) 0 1))),.sv (.one (.int .i64 (.wrap .i64 (.add (.hI 20 (.var 0) (.lit 1) 0) (.wrap .i64 (.rem (.var 1) (.lit 2))))))),.sv (.one (.sl (.var 55) (.lit 0) (.lit 64) (.var 56)))] [.hp 19 [] [.hP 20 (.var 0) (.lit 0) 0 0] []] [.hp 55 [] [.var 55] []])) (.ext (.call 0 57 [.sv (.one (.hptr (.hP 20 (.var 0) (.lit 0) 0 0) (.hP 20 (.var 0) (.lit 0) 0 1))),.sv (.one (.int .i64 (.wrap .i64 (.add (.hI 20 (.var 0) (.lit 1) 0) (.wrap .i64 (.rem (.var 1) (.lit 2))))))),.sv (.one (.sl (.var 55) (.lit 0) (.lit 64) (.var 56)))] [.hp 19 [] [.hP 20 (.var 0) (.lit 0) 0 0] []] [.hp 55 [] [.var 55] []]) (.and (.imp (.not (.eq (.var 57) (.lit 0))) (.post [.hp 57 [19] [.hP 20 (.var 0) (.lit 0) 0 0] [],.ro 20 [.var 0] false,.dead,.dead,.hp 55 [] [.var 55] []] (.sv (.one (.int .i64 (.var 57)))))) (.imp (.eq (.var 57) (.lit 0)) (.and (.pre (.call 1 59 [.sv (.one (.hptr (.hP 20 (.var 0) (.lit 0) 0 0) (.hP 20 (.var 0) (.lit 0) 0 1)))] [.hp 57 [19] [.hP 20 (.var 0) (.lit 0) 0 0] []] [])) (.ext (.call 1 59 [.sv (.one (.hptr (.hP 20 (.var 0) (.lit 0) 0 0) (.hP 20 (.var 0) (.lit 0) 0 1)))] [.hp 57 [19] [.hP 20 (.var 0) (.lit 0) 0 0] []] []) (.post [.hp 59 [57,19] [.hP 20 (.var 0) (.lit 0) 0 0] [],.ro 20 [.var 0] false,.dead,.dead,.hp 55 [] [.var 55] []] (.sv (.one (.int .i64 (.var 59)))))))))))))))))))
def rZ:List Sx.Spec:=[oy,nz,wx]
theorem Eg:∀ t∈rZ,t.OK Tryz.prog:=fun t ht=>by
 simp only[rZ,List.mem_cons,List.mem_nil_iff,or_false]at ht
 rcases ht with rfl | rfl | rfl
 ·exact tF
 ·exact xB
 ·exact C1
def xG:cy Tryz.prog rZ po.fn where
 Λ:=aH
 args:=[TP (.var 0) (.lit 0),.sv (.agg (al 1 gZ))]
 mem:=[.hp 19 [] [.hP 20 (.var 0) (.lit 0) 0 0] [],.ro 20 [.var 0] false]
 nv:=21
 nd:=zN
 ok:=by kernel_rfl
theorem KQ:rZ[0]?=some oy:=rfl
theorem KR:rZ[1]?=some nz:=rfl
theorem KS:rZ[2]?=some wx:=rfl
theorem KT:wx.res=[.agg (mw 32)]:=rfl
theorem xF:po.OK Tryz.prog:=by
 refine Spec.b8 (Γ:=rZ) Eg ?_
 rintro xs Hs Rs hl1 hl2 ⟨p,h,H,R,dp,sl,L,D,rfl,rfl,rfl,⟨a,rfl,hL⟩,hD,hh⟩
 obtain⟨b0,b1,t,hht,htl⟩:=yO hh.1
 have Em:h.getD 0 0=b0:=by rw[hht];rfl
 refine⟨xG,⟨fun k=>if k=0 then(a:Int)else h.getD (k-1) 0,fun _=>false,fun _=>.empty,fun _=>.tuple #[],fun k=>if k=19 then H else R⟩,fun _ _=>True,fun _ _=>0,?_,⟨?_,?_,?_,?_⟩,(fun _ h=>nomatch h),?_⟩
 ·generalize hq:(⟨fun k=>if k=0 then(a:Int)else h.getD (k-1) 0,fun _=>false,fun _=>.empty,fun _=>.tuple #[],fun k=>if k=19 then H else R⟩:Env)=q
  show [Value.pointer (ar (q.i 0) 0),Value.agg ((al 1 gZ).map (CV.ev q)).toArray]=_
  have e0:q.i 0=a:=by rw[←hq];rfl
  have e1:(al 1 gZ).map (CV.ev q)=jf h:=by
   rw[←hq,hht]
   match t,htl with
   | [a1,a2,a3,a4,a5,a6,a7,a8,a9,a10,a11,a12,a13,a14,a15,a16],_=>rfl
  rw[e0,fc,e1]
 ·intro r hr ho
  simp [xG]at hr
  rcases hr with rfl | rfl
  ·exact⟨H,by simp,Hl.le_refl _⟩
  ·cases ho
 ·intro r hr ho
  simp [xG]at hr
  rcases hr with rfl | rfl
  ·cases ho
  ·exact⟨R,by simp,Hl.le_refl _⟩
 ·simp [xG,bc.own]
 ·intro r hr
  simp [xG]at hr
  rcases hr with rfl | rfl<;>trivial
 ·show Nd.holds _ _ _ zN
  generalize hρ:(⟨fun k=>if k=0 then(a:Int)else h.getD (k-1) 0,fun _=>false,fun _=>.empty,fun _=>.tuple #[],fun k=>if k=19 then H else R⟩:Env)=ρ
  have v0:ρ.i 0=a:=by rw[←hρ];rfl
  have v1:ρ.i 1=b0:=by rw[←hρ,←Em];rfl
  have w19:ρ.h 19=H:=by rw[←hρ];rfl
  have w20:ρ.h 20=R:=by rw[←hρ];rfl
  have eH:(al 1 gZ).map (CV.ev ρ)=jf h:=by
   rw[←hρ,hht]
   match t,htl with
   | [a1,a2,a3,a4,a5,a6,a7,a8,a9,a10,a11,a12,a13,a14,a15,a16],_=>rfl
  unfold zN
  simp only[Nd.holds,X.pre,X.rel,X.n,Src.ok,Src.len,Src.bS,true_and,and_true,if_true,Nat.mul_one,Nat.add_zero,Nat.reduceAdd,List.length_cons,List.length_nil,bN,bK,aP,ba,bb,bM,bj,bJ,bI,bD,bd,bk,bL,bg,bf,aQ,bh,ah,ai,aE,aI,aK,ax,aF,aV,aT,au,aO,aC,aN,aB,TV.ev,SV.ev,CV.ev,List.map_cons,List.map_nil,bc.hl,df,Cp.sv,Ck.cv,ct,Cp.len,Ck.len,aU,bm,bC,KQ,KR,KS,Kb,Kc,KT]
  intro q1 g1 _
  have t0:Int.toNat 0=0:=rfl
  have t1:Int.toNat 1=1:=rfl
  have t64:Int.toNat 64=64:=rfl
  obtain⟨da,s,m,es,clock,hdp,hDi⟩:=id hD
  have c0:R.cell a 0=some dp:=by rw[hL.cell];rfl
  have c1:R.cell a 1=some (.int .i64 L.frm):=by rw[hL.cell];rfl
  obtain⟨f0,f1⟩:=hL.1.frm
  have ep:Value.pointer (ar (cH (R.cell a 0) 0) (cH (R.cell a 0) 1))=dp:=by rw[c0,hdp];exact fc da
  have wk:cx (R.cell a 0) Kd.ptr=true:=by rw[c0,hdp];rfl
  have wk1:cx (R.cell a 1) (Kd.int .i64)=true:=by rw[c1];rfl
  have⟨hb0,hb1⟩:0≤b0∧b0<18446744073709551616:=by rw[←Em];exact hh.2.1
  have r0:=Int.tmod_nonneg 2 hb0
  have r1:=Int.tmod_lt_of_pos b0 (by decide:(0:Int)<2)
  have ei:IntKind.i64.wrap (fg (R.cell a 1)+IntKind.i64.wrap (b0.tmod 2))=L.frm+(h.getD 0 0).tmod 2:=by
   rw[c1,Em]
   show IntKind.i64.wrap (L.frm+IntKind.i64.wrap (b0.tmod 2))=_
   rw[wrap_i64 (n:=b0.tmod 2) (by omega) (by omega)]
   exact wrap_i64 (by omega) (by omega)
  have e1:(al 1 ([Ck.int IntKind.u64,Ck.int IntKind.u64]++List.replicate 16 (Ck.int IntKind.u8))).map (CV.ev q1)=jf h:=by
   rw[←eH]
   exact CV.dJ (g1.mono (by decide)) _ (cr gZ 1)
  rw[e1]
  refine⟨C2 hh,fun q2 g2 ⟨F2,hp2,_,_⟩ q3 g3 _=>?_⟩
  have hp2:Value.agg (List.map (CV.ev q2) (al 22 (mw 32))).toArray=Value.agg (cn (aG (de (.agg (jf h).toArray)))).toArray:=hp2
  rw[jH hh.1]at hp2
  have hp2:List.map (CV.ev q2) (al 22 (mw 32))=cn (aG h):=by simpa using hp2
  have e3:List.map (CV.ev q3) (al 22 (List.replicate 32 (Ck.int IntKind.u8)))=cn (aG h):=by
   rw[←hp2]
   exact CV.dJ (g3.mono (by decide)) _ (cr (mw 32) 22)
  have G3:ae 21 ρ q3:=(g1.trans (g2.mono (by omega))).trans (g3.mono (by omega))
  rw[e3,G3.i 0 (by omega),v0,G3.h 20 (by omega),w20,Int.toNat_natCast,t0,t1]
  refine⟨by omega,wk,wk1,⟨by omega,by decide,by decide⟩,fun q4 g4 ⟨p55,p56,hO,_⟩=>?_⟩
  have G4:ae 21 ρ q4:=G3.trans (g4.mono (by omega))
  have hbl:(aG h++aG h).length=64:=by rw[List.length_append,uo hh.1]
  have hO:dA (q4.h 55) 5 (.slice (ar (q4.i 55) 0) (Int.toNat 64) (q4.i 56).toNat) (aG h++aG h):=by
   unfold dA
   rw[hbl,ft];exact hO
  rw[pF,ai,ah,G4.i 0 (by omega),v0,G4.i 1 (by omega),v1,G4.h 20 (by omega),w20,G4.h 19 (by omega),w19,Int.toNat_natCast,ep,ei]
  refine⟨⟨dp,_,_,aG h++aG h,H,_,D,rfl,rfl,rfl,hD,hO.rd⟩,fun q5 g5 ⟨F,⟨p',i',u',bs',H',R',D',H2,hx,hH,hR,hD',hrd',hH2,hD2,hv⟩,_,_⟩=>?_⟩
  cases hx
  cases hH
  cases hR
  have e:=hD'.uniq hD
  subst e
  have e:=hrd'.uniq hO.rd
  subst e
  simp only[Value.int.injEq,true_and,List.cons.injEq,and_true]at hv hH2
  rw[←hH2]at hD2
  have G5:ae 21 ρ q5:=G4.trans (g5.mono (by omega))
  have out:∀ (q':Env) (n:Nat) (vs:List Nat) (t:Mem) (r:Int×DM),br D' L.frm h=r→aj (q'.h n) dp r.2→q'.i n=r.1 →
   postOf po [.pointer (some ⟨a,0,none⟩),.agg (jf h).toArray] [H] [R] q' (.hp n vs [.hP 20 (.var 0) (.lit 0) 0 0] []::t) (.sv (.one (.int .i64 (.var n)))):=by
   intro q' n vs t r hr h1 h2 _
   refine⟨[[0]],[],rfl,rfl,⟨⟨fun _=>q'.i n,fun _=>false,fun _=>.empty,fun _=>.tuple #[],fun _=>Hl.none⟩,rfl,trivial,trivial⟩,_,h,H,R,dp,sl,L,D',_,rfl,rfl,rfl,⟨a,rfl,hL⟩,hD,hh,rfl,?_,?_⟩
   ·show aj (dF [q'.h n]) _ _
    rw[bp,hr];exact h1
   ·show Value.int .i64 (q'.i n)=_
    rw[h2,hr]
  rw[G5.i 0 (by omega),v0,G5.h 20 (by omega),w20,Int.toNat_natCast,ep]
  refine⟨fun hne=>out q5 57 _ _ _ ?_ hD2 hv,fun heq=>⟨⟨dp,_,_,rfl,rfl,hD2⟩,fun q6 g6 ⟨F,⟨p',H',D2,H3,hx,hH,hD3,hH3,hD4,hv3⟩,_,_⟩=>?_⟩⟩
  ·unfold br
   rw[if_pos (by rw[←hv];exact hne)]
  ·cases hx
   cases hH
   have e:=hD3.uniq hD2
   subst e
   simp only[Value.int.injEq,true_and,List.cons.injEq,and_true]at hv3 hH3
   rw[←hH3]at hD4
   refine out q6 59 _ _ _ ?_ hD4 hv3
   unfold br
   rw[if_neg (by rw[←hv,heq];simp)]
end Go.Proofs.YtomdimlnggpgbaaGreatDoor.D
namespace Go.Proofs.YtomdimlnggpgbaaGreatDoor.D
open Go Go.Sx
def dM (dp sl:Value) (L:LM):Obj:=.cells (iw dp sl L).toArray 145 (0,0)
def bW (H:Hl) (p dp:Value) (L:LM) (bs:List Int):Prop:=∃ (a:Nat) (sl:Value) (HB:Hl),p=.pointer (some ⟨a,0,none⟩)∧L.ok∧dA HB 5 sl bs∧(Hl.one a (dM dp sl L)).ch HB∧H=dF [Hl.one a (dM dp sl L),HB]
theorem bW.parts {H:Hl} {p dp:Value} {L:LM} {bs:List Int} (h:bW H p dp L bs):∃ sl,c6 H p dp sl L∧mv H sl bs:=by
 obtain⟨a,sl,HB,rfl,hok,hO,hd,rfl⟩:=h
 refine⟨sl,⟨a,rfl,hok,?_⟩,?_⟩
 ·exact Hl.e8 _ _ _ _ (Hl.bE _ _)
 ·obtain⟨x,y,c,hv,hy,h⟩:=hO.rd
  refine⟨x,y,c,hv,hy,h.imp id fun⟨h0,h⟩=>⟨h0,fun j z hz=>?_⟩⟩
  have hle:HB.le (dF [Hl.one a (dM dp sl L),HB]):=by
   show HB.le ((Hl.one a (dM dp sl L)).un (dF [HB]))
   rw[bp];exact Hl.ga hd
  have:=h j z hz
  unfold Hl.cell at this ⊢
  split at this
  ·rename_i o c' T fr ho
   rw[hle _ _ ho];exact this
  ·cases this
theorem bW.uniq {H:Hl} {p dp dp':Value} {L L':LM} {bs bs':List Int} (h:bW H p dp L bs) (h':bW H p dp' L' bs'):dp=dp'∧L=L'∧bs=bs':=by
 obtain⟨sl,h1,h2⟩:=h.parts
 obtain⟨sl',h1',h2'⟩:=h'.parts
 obtain⟨e1,rfl,e3⟩:=h1.uniq h1'
 exact⟨e1,e3,h2.uniq h2'⟩
theorem dA.pre {F:Hl} {e:TypeId} {x l c:Int} {bs:List Int} (h:dA F e (.slice (ar x 0) l.toNat c.toNat) bs) (hx:-1≤x) {n:Int} (h0:0≤n) (hn:n.toNat≤bs.length):dA F e (.slice (ar x 0) n.toNat c.toNat) (bs.take n.toNat):=by
 obtain⟨hl,h⟩:=h
 have e1:(bs.take n.toNat).length=n.toNat:=by rw[List.length_take];omega
 refine⟨by rw[dq];omega,?_⟩
 rw[e1]
 rcases h with ⟨h,hb⟩ | ⟨g,cap,cur,h,hg,hle,hm,hs,ht⟩
 ·simp only[Value.slice.injEq]at h
  refine Or.inl ⟨?_,by omega⟩
  rw[h.1,h.2.2,show n.toNat=0 by omega]
 ·simp only[Value.slice.injEq]at h
  refine Or.inr ⟨g,cap,cur,by rw[h.1,h.2.2],hg,by omega,hm,hs,?_⟩
  have:=congrArg (List.take n.toNat) ht
  rw[List.take_take]at this
  rw[Nat.mul_one]
  rw[show min n.toNat (bs.length*1)=n.toNat by omega]at this
  rw[this]
  unfold cn
  rw[List.map_take]
def js:List Ck:=[.ptr,.int .i64,.int .i64,.int .u64,.int .u64]++List.replicate 16 (.int .u8)
def dC (da:Nat) (L:LM):List Int:=[(da:Int),0,L.frm,L.most,L.serial,L.size]++L.note
theorem Gp {l:List Int} (h:l.length=16):∃ a1 a2 a3 a4 a5 a6 a7 a8 a9 a10 a11 a12 a13 a14 a15 a16,l=[a1,a2,a3,a4,a5,a6,a7,a8,a9,a10,a11,a12,a13,a14,a15,a16]:=by
 match l,h with
 | [a1,a2,a3,a4,a5,a6,a7,a8,a9,a10,a11,a12,a13,a14,a15,a16],_=>exact⟨a1,a2,a3,a4,a5,a6,a7,a8,a9,a10,a11,a12,a13,a14,a15,a16,rfl⟩
theorem ll {q:Env} {n da:Nat} {L:LM} (hL:L.ok) (h:∀ k,k<22→q.i (n+k)=(dC da L).getD k 0):(al n js).map (CV.ev q)=[Value.pointer (some ⟨da,0,none⟩),.int .i64 L.frm,.int .i64 L.most,.int .u64 L.serial,.int .u64 L.size]++cn L.note:=by
 obtain⟨a1,a2,a3,a4,a5,a6,a7,a8,a9,a10,a11,a12,a13,a14,a15,a16,hn⟩:=Gp hL.note
 have hq:=ae.refl 0 q
 have key:∀ (q':Env),(∀ k,k<22→q'.i k=(dC da L).getD k 0)→(al 0 js).map (CV.ev q')=[Value.pointer (some ⟨da,0,none⟩),.int .i64 L.frm,.int .i64 L.most,.int .u64 L.serial,.int .u64 L.size]++cn L.note:=by
  intro q' h
  have ag:ae 22 (⟨fun k=>(dC da L).getD k 0,fun _=>false,fun _=>.empty,fun _=>.tuple #[],fun _=>Hl.none⟩:Env) ⟨q'.i,fun _=>false,fun _=>.empty,fun _=>.tuple #[],fun _=>Hl.none⟩:=⟨fun k hk=>h k hk,fun _ _=>rfl,fun _ _=>rfl,fun _ _=>rfl,fun _ _=>rfl⟩
  have e1:(al 0 js).map (CV.ev q')=(al 0 js).map (CV.ev ⟨q'.i,fun _=>false,fun _=>.empty,fun _=>.tuple #[],fun _=>Hl.none⟩):=rfl
  rw[e1,CV.dJ ag _ (cr js 0)]
  unfold dC
  rw[hn]
  have ed:Value.pointer (ar (da:Int) 0)=.pointer (some ⟨da,0,none⟩):=fc da
  show [Value.pointer (ar (da:Int) 0)]++_=_
  rw[ed];rfl
 have:=key ⟨fun k=>q.i (n+k),q.b,q.s,q.v,q.h⟩ h
 rw[←this]
 rfl
theorem dZ {P:Program} {s:Sx.Spec} {Γ:List Sx.Spec} (hΓ:∀ t∈Γ,t.OK P)
 (h:∀ xs Hs Rs,Hs.length=s.own.length→Rs.length=s.rd.length→(∀ (p q:Nat) H K,p≠q→Hs[p]?=some H→Hs[q]?=some K→H.ch K)→s.pre xs Hs Rs→∃ (W:cy P Γ s.fn) (ρ:Env) (inv:Nat→Env→Prop) (mu:Nat→Env→Nat),
  W.args.map (TV.ev ρ)=xs∧Entry ρ W.mem Hs Rs∧Path ρ W.path∧W.nd.holds ⟨Γ,inv,mu,postOf s xs Hs Rs⟩ (fun _=>0) ρ):s.OK P:=by
 intro w xs Hs Rs hl1 hl2 hs1 hs2 hd1 hd2 hpre
 obtain⟨W,ρ,inv,mu,hx,hE,hp,hn⟩:=h xs Hs Rs hl1 hl2 hd1 hpre
 have hm:=hE.HN hs1 hs2 hd2
 have:=qz (C:=⟨Γ,inv,mu,postOf s xs Hs Rs⟩) hΓ (CO (C:=⟨Γ,inv,mu,postOf s xs Hs Rs⟩) hΓ) W.ok hm hp hn
 rw[hx]at this
 refine this.mono ?_
 rintro e w' ⟨ρ',mem',r,rfl,hg,hm',hp'⟩
 obtain⟨gs,f,hl,hok,⟨ρ2,h2,h3⟩,hpost⟩:=hp' hm'.ch
 refine⟨ρ2,gs.map (tD ρ' mem'),tD ρ' mem' f,by rw[h2],h3,pO.of hm' hl hok,?_⟩
 rw[←h2];exact hpost
def eJ (D:DM) (frm:Int) (n:Int):List Int:=(D.now.drop (64*(frm+2).toNat)).take n.toNat
def qE:Sx.Spec where
 fn:=78
 own:=[.arg 0,.link 0 0]
 rd:=[]
 res:=[.one (.int .i64)]
 pre:=fun xs Hs Rs=>∃ p a HL HD dp L D,xs=[p]∧Hs=[HL,HD]∧p=.pointer (some ⟨a,0,none⟩)∧gV HL a dp (.slice none 0 0) L∧aj HD dp D∧D.gone=false∧0≤L.size∧64*(L.frm+2)+L.size≤64*D.n
 post:=fun xs Hs Rs v Hs' F=>∃ p a HL HD dp L D HL' HD',xs=[p]∧Hs=[HL,HD]∧p=.pointer (some ⟨a,0,none⟩)∧gV HL a dp (.slice none 0 0) L∧aj HD dp D∧Hs'=[HL',HD']∧aj HD' dp D∧bW HL' p dp L (eJ D L.frm L.size)∧v=.int .i64 0
def yQ:Nd:=.and (.inv 0 [⟨40,0,.int .i64 (.lit 0)⟩,⟨41,0,.int .i64 (.lit (-1))⟩,⟨43,0,.int .i64 (.lit 0)⟩,⟨44,0,.int .i64 (.lit 0)⟩] [(45,some 24),(46,none)]) (.havoc 0 0 25 (.and (.e (.le (.lit 0) (.var 43))) (.and (.imp (.lt (.var 43) (.wrap .i64 (.var 6))) (.and (.pre (.call 0 47 [.sv (.one (.hptr (.var 1) (.var 2))),.sv (.one (.int .i64 (.wrap .i64 (.add (.wrap .i64 (.add (.var 3) (.lit 2))) (.var 40)))))] [.hp 45 [] [.var 1] []] [])) (.ext (.call 0 47 [.sv (.one (.hptr (.var 1) (.var 2))),.sv (.one (.int .i64 (.wrap .i64 (.add (.wrap .i64 (.add (.var 3) (.lit 2))) (.var 40)))))] [.hp 45 [] [.var 1] []] []) (.and (.imp (.not (.eq (.var 51) (.lit 0))) (.post [.aS 0 (al 1 ([Ck.ptr,Ck.int .i64,Ck.int .i64,Ck.int .u64,Ck.int .u64]++List.replicate 16 (Ck.int .u8))++[.sl (.var 41) (.lit 0) (.var 43) (.var 44),.bool (.bvar 23)]) 145,.hp 47 [45] [.var 1] [],.hp 46 [] [.var 41] [],.hp 48 [] [.var 47] []] (.sv (.one (.int .i64 (.var 51)))))) (.imp (.eq (.var 51) (.lit 0)) (.and (.pre (.app 52 5 1 1 (.sl (.var 41) (.lit 0) (.var 43) (.var 44)) (.var 43) (.hp 46 [] [.var 41] []) (.seg 48 (.var 47) (.var 48) (.var 49)))) (.ext (.app 52 5 1 1 (.sl (.var 41) (.lit 0) (.var 43) (.var 44)) (.var 43) (.hp 46 [] [.var 41] []) (.seg 48 (.var 47) (.var 48) (.var 49))) (.back 0 0 [⟨40,0,.int .i64 (.wrap .i64 (.add (.var 40) (.lit 1)))⟩,⟨41,0,.int .i64 (.var 52)⟩,⟨43,0,.int .i64 (.add (.var 43) (.var 49))⟩,⟨44,0,.int .i64 (.var 53)⟩] [(45,some 47),(46,some 52)])))))))) (.imp (.not (.lt (.var 43) (.wrap .i64 (.var 6)))) (.and (.e (.le (.lit (-1)) (.var 41))) (.and (.e (.le (.lit 0) (.var 6))) (.and (.e (.le (.var 6) (.var 44))) (.post [.aS 0 (al 1 ([Ck.ptr,Ck.int .i64,Ck.int .i64,Ck.int .u64,Ck.int .u64]++List.replicate 16 (Ck.int .u8))++[.sl (.var 41) (.lit 0) (.var 6) (.var 44),.bool (.bvar 23)]) 145,.hp 45 [] [.var 1] [],.hp 46 [] [.var 41] []] (.sv (.one (.int .i64 (.lit 0))))))))))))
def wH:List Sx.Spec:=[oZ]
theorem Dh:∀ t∈wH,t.OK Tryz.prog:=fun t ht=>by
 rw[wH,List.mem_singleton]at ht;subst ht;exact xi
def Ax:cy Tryz.prog wH qE.fn where
 Λ:=fun p=>if lp p then some ⟨0,[(3,TI .i64 (.var 40))],[(0,.aS 0 (al 1 js++[.sl (.var 41) (.lit 0) (.var 43) (.var 44),.bool (.bvar 23)]) 145),(1,.hp 45 [] [.var 1] []),(2,.hp 46 [] [.var 41] [])],47⟩else none
 args:=[TP (.var 0) (.lit 0)]
 mem:=[.aS 0 (al 1 js++[.sl (.lit (-1)) (.lit 0) (.lit 0) (.lit 0),.bool (.bvar 23)]) 145,.hp 24 [] [.var 1] []]
 nv:=25
 nd:=yQ
 ok:=by kernel_rfl
theorem KK:wH[0]?=some oZ:=rfl
theorem xg {D:DM} {i:Int} (h:D.has i=true) (hg:D.gone=false):fb D i=(D.aJ i,0):=by
 unfold fb
 rw[if_neg (by simp [h]),if_neg (by simp [hg])]
def ER (D:DM) (L:LM) (dp:Value) (_:Nat) (q:Env):Prop:=∃ i:Nat,q.i 40=i∧q.i 43=64*i∧ -1≤q.i 41∧0≤q.i 44∧(i=0∨(64*(i:Int)-64<L.size))∧aj (q.h 45) dp D∧dA (q.h 46) 5 (.slice (ar (q.i 41) 0) (q.i 43).toNat (q.i 44).toNat) ((D.now.drop (64*(L.frm+2).toNat)).take (64*i))
theorem Dg:qE.OK Tryz.prog:=by
 refine dZ (Γ:=wH) Dh ?_
 rintro xs Hs Rs hl1 hl2 hdis ⟨p,a,HL,HD,dp,L,D,rfl,rfl,rfl,hL,hD,hgone,hs0,hs1⟩
 have e1:Rs=[]:=List.length_eq_zero_iff.1 hl2
 subst e1
 obtain⟨da,s,m,es,clock,hdp,hDi⟩:=id hD
 have hnl:=hL.1.note
 obtain⟨f0,f1⟩:=hL.1.frm
 have hnn:=hDi.ok.n
 have hnow:=hDi.ok.now
 have eB:∀ (q:Env) (sl:CV),q.i 0=a→(∀ k,k<22→q.i (1+k)=(dC da L).getD k 0)→q.b 23=L.over→(bc.aS 0 (al 1 js++[sl,.bool (.bvar 23)]) 145).hl q=Hl.one a (dM dp (sl.ev q) L):=by
  intro q sl h0 h1 h2
  show Hl.one (q.i 0).toNat (.cells ((al 1 js++[sl,.bool (.bvar 23)]).map (CV.ev q)).toArray _ (0,0))=_
  rw[List.map_append,ll hL.1 h1,h0,Int.toNat_natCast]
  unfold dM iw
  rw[hdp,←h2,List.append_assoc];rfl
 refine⟨Ax,⟨fun k=>if k=0 then(a:Int)else(dC da L).getD (k-1) 0,fun _=>L.over,fun _=>.empty,fun _=>.tuple #[],fun _=>HD⟩,ER D L dp,fun _ q=>(L.size-64*q.i 40+64).toNat,?_,⟨?_,?_,?_,?_⟩,(fun _ h=>nomatch h),?_⟩
 ·show [Value.pointer (ar (a:Int) 0)]=_;rw[fc]
 ·intro r hr ho
  simp only[Ax,List.mem_cons,List.mem_nil_iff,or_false]at hr
  rcases hr with rfl | rfl
  ·refine⟨HL,by simp,?_⟩
   rw[eB _ _ rfl (fun k hk=>by show(if 1+k=0 then(a:Int)else(dC da L).getD (1+k-1) 0)=_;rw[if_neg (by omega),show 1+k-1=k by omega]) rfl]
   intro b o hb
   obtain⟨rfl,rfl⟩:=Hl.jb hb
   exact hL.2
  ·exact⟨HD,by simp,Hl.le_refl _⟩
 ·intro r hr ho
  simp only[Ax,List.mem_cons,List.mem_nil_iff,or_false]at hr
  rcases hr with rfl | rfl<;>cases ho
 ·have hd:HL.ch HD:=hdis 0 1 _ _ (by decide) rfl rfl
  have hm:HL.mem a:=by unfold Hl.mem;rw[hL.2];rfl
  refine List.Pairwise.cons (fun r hr _ _=>?_) (List.Pairwise.cons (fun r hr=>by cases hr) List.Pairwise.nil)
  rw[List.mem_singleton]at hr
  subst hr
  exact Hl.eU.2 fun h=>hd a ⟨hm,h⟩
 ·intro r hr
  simp only[Ax,List.mem_cons,List.mem_nil_iff,or_false]at hr
  rcases hr with rfl | rfl
  ·show(0:Int)≤(a:Int);omega
  ·trivial
 ·show Nd.holds _ _ _ yQ
  generalize hρ:(⟨fun k=>if k=0 then(a:Int)else(dC da L).getD (k-1) 0,fun _=>L.over,fun _=>.empty,fun _=>.tuple #[],fun _=>HD⟩:Env)=ρ
  unfold yQ
  simp only[Nd.holds,X.pre,X.rel,X.n,Src.ok,Src.len,Src.bS,true_and,and_true,if_true,Nat.mul_one,Nat.add_zero,Nat.reduceAdd,List.length_cons,List.length_nil,bN,bK,aP,ba,bb,bM,bj,bJ,bI,bD,bd,bk,bL,bg,bf,aQ,bh,ah,ai,aE,aI,aK,ax,aF,aV,aT,au,aO,aC,aN,aB,TV.ev,SV.ev,CV.ev,List.map_cons,List.map_nil,bc.hl,df,Cp.sv,Ck.cv,ct,Cp.len,Ck.len,aU,bm,bC,KK,Kl,Ki]
  have r0:ρ.i 0=a:=by rw[←hρ];rfl
  have rk:∀ k,k<22→ρ.i (1+k)=(dC da L).getD k 0:=by
   intro k hk
   rw[←hρ]
   show(if 1+k=0 then(a:Int)else(dC da L).getD (1+k-1) 0)=_
   rw[if_neg (by omega),show 1+k-1=k by omega]
  have rb:ρ.b 23=L.over:=by rw[←hρ]
  have rh:ρ.h 24=HD:=by rw[←hρ]
  refine⟨⟨0,rfl,rfl,Int.le_refl _,Int.le_refl _,Or.inl rfl,?_,⟨rfl,Or.inl ⟨rfl,rfl⟩⟩⟩,fun q g ⟨i,e40,e43,e41,e44,hi,hDq,hO⟩=>?_⟩
  ·show aj (ρ.h 24) dp D
   rw[rh];exact hD
  ·have u1:q.i 1=da:=by rw[g.i 1 (by omega)];exact rk 0 (by omega)
   have u2:q.i 2=0:=by rw[g.i 2 (by omega)];exact rk 1 (by omega)
   have u3:q.i 3=L.frm:=by rw[g.i 3 (by omega)];exact rk 2 (by omega)
   have u6:q.i 6=L.size:=by rw[g.i 6 (by omega)];exact rk 5 (by omega)
   have ep:Value.pointer (ar (da:Int) 0)=dp:=by rw[fc,hdp]
   have es:IntKind.i64.wrap L.size=L.size:=wrap_i64 (by omega) (by omega)
   rw[u1,u2,u3,u6,e40,e43,es,ep]
   refine⟨by omega,fun hlt=>?_,fun hge=>⟨e41,hs0,?_,fun hd=>?_⟩⟩
   ·have ei:IntKind.i64.wrap (IntKind.i64.wrap (L.frm+2)+i)=L.frm+2+i:=by
     rw[wrap_i64 (n:=L.frm+2) (by omega) (by omega),wrap_i64 (by omega) (by omega)]
    rw[ei]
    have hh:D.has (L.frm+2+i)=true:=by unfold DM.has;simp only[decide_eq_true_eq];omega
    have hr:=xg hh hgone
    have hsl:=dI hDi.ok hh
    refine⟨⟨dp,_,_,D,rfl,rfl,hDq⟩,fun q1 g1 ⟨F,⟨p',i',H',D',H2,u,hx,hH,hD',hH2,hD2,hv,hOu⟩,hF,hn⟩=>?_⟩
    cases hx
    cases hH
    have e:=hD'.uniq hDq
    subst e
    have hF:=hF trivial
    subst hF
    rw[hr]at hv hOu
    simp only[Value.tuple.injEq,Array.mk.injEq,List.cons.injEq,Value.int.injEq,true_and,and_true]at hv hH2
    obtain⟨rfl,h51⟩:=hv
    obtain⟨⟨n47,n48,n49,n50⟩,_⟩:=hn
    have n48:0≤q1.i 48:=n48
    have n49:0≤q1.i 49:=n49
    obtain⟨e49,hc⟩:=hOu.rd.at n47 n48 n49
    have e49:q1.i 49=64:=by rw[e49];show(((D'.aJ (L.frm+2+i)).length:Nat):Int)=64;rw[hsl];rfl
    have hc:0≤q1.i 47∧∀ j z,(D'.aJ (L.frm+2+i))[j]?=some z→(q1.h 48).cell (q1.i 47).toNat ((q1.i 48).toNat+j)=some (.int .u8 z):=by
     rcases hc with ⟨_,hc⟩ | hc
     ·have hc:D'.aJ (L.frm+2+i)=[]:=hc
      rw[hc]at hsl;cases hsl
     ·exact hc
    obtain⟨p47,hc⟩:=hc
    have x43:q1.i 43=64*i:=by rw[g1.i 43 (by omega),e43]
    rw[g1.h 46 (by omega),g1.i 41 (by omega),g1.i 44 (by omega),x43,e49]
    rw[e43]at hO
    have hTl:((D'.now.drop (64*(L.frm+2).toNat)).take (64*i)).length=64*i:=by rw[List.length_take,List.length_drop];omega
    have hO':bR (q.h 46) 5 1 (.slice (ar (q.i 41) 0) (64*(i:Int)).toNat (q.i 44).toNat) (64*(i:Int)).toNat (cn ((D'.now.drop (64*(L.frm+2).toNat)).take (64*i))):=by
     unfold dA at hO
     rw[hTl]at hO
     rw[show(64*(i:Int)).toNat=64*i by omega]at hO ⊢
     exact hO
    refine⟨fun h=>absurd h51 h,fun _=>⟨⟨⟨_,hO'⟩,by omega,Or.inl ⟨p47,n48,by omega,fun j hj=>?_⟩,by unfold maxLen;omega,by omega⟩,fun q2 g2 ⟨a1,a2,a3,_⟩=>?_⟩⟩
    ·have hj:j<(D'.aJ (L.frm+2+i)).length:=by have:(64:Int).toNat=64:=rfl;omega
     exact⟨_,hc j _ (List.getElem?_eq_getElem hj),rfl⟩
    ·have hseg:cl (q1.h 48) (q1.i 47).toNat (q1.i 48).toNat (Int.toNat 64)=cn (D'.aJ (L.frm+2+i)):=by
      unfold cl
      apply List.ext_getElem?
      intro j
      rw[List.getElem?_map,dw]
      rcases Nat.lt_or_ge j 64 with hj | hj
      ·rw[show(64:Int).toNat=64 from rfl,List.getElem?_range hj,Option.map_some,hc j _ (List.getElem?_eq_getElem (by omega)),List.getElem?_eq_getElem (by omega)]
       rfl
      ·rw[List.getElem?_eq_none (by simpa using hj),List.getElem?_eq_none (by omega)];rfl
     have hx:=a3 _ hO'
     rw[hseg]at hx
     have hcat:(D'.now.drop (64*(L.frm+2).toNat)).take (64*(i+1))=(D'.now.drop (64*(L.frm+2).toNat)).take (64*i)++D'.aJ (L.frm+2+i):=by
      rw[show 64*(i+1)=64*i+64 by omega,List.take_add,List.drop_drop]
      unfold DM.aJ
      rw[show 64*(L.frm+2).toNat+64*i=64*(L.frm+2+i).toNat by omega]
     have m40:(assign q2 [⟨40,0,.int .i64 (.wrap .i64 (.add (.var 40) (.lit 1)))⟩,⟨41,0,.int .i64 (.var 52)⟩,⟨43,0,.int .i64 (.add (.var 43) (.var 49))⟩,⟨44,0,.int .i64 (.var 53)⟩] [(45,some 47),(46,some 52)]).i 40=i+1:=by
      show IntKind.i64.wrap (q2.i 40+1)=_
      rw[g2.i 40 (by omega),g1.i 40 (by omega),e40,wrap_i64 (by omega) (by omega)]
     have m43:(assign q2 [⟨40,0,.int .i64 (.wrap .i64 (.add (.var 40) (.lit 1)))⟩,⟨41,0,.int .i64 (.var 52)⟩,⟨43,0,.int .i64 (.add (.var 43) (.var 49))⟩,⟨44,0,.int .i64 (.var 53)⟩] [(45,some 47),(46,some 52)]).i 43=64*i+64:=by
      show q2.i 43+q2.i 49=_
      rw[g2.i 43 (by omega),g2.i 49 (by omega),x43,e49]
     refine⟨⟨i+1,by rw[m40];omega,by rw[m43];omega,a1,a2,Or.inr (by omega),?_,?_⟩,by rw[m40];omega⟩
     ·show aj (q2.h 47) dp D'
      rw[g2.h 47 (by omega),hH2];exact hD2
     ·rw[m43]
      show dA (q2.h 52) _ (.slice (ar (q2.i 52) 0) (64*(i:Int)+64).toNat (q2.i 53).toNat) _
      rw[hcat]
      unfold dA
      rw[ft,List.length_append,hTl,hsl]
      rw[show(64*(i:Int)).toNat+Int.toNat 64=64*i+64 by have:(64:Int).toNat=64:=rfl;omega]at hx
      rw[show(64*(i:Int)+64).toNat=64*i+64 by omega]
      exact hx
   ·have:=dA.cap hO (by omega) e44
    omega
   ·have hd02:=hd 0 2 _ _ (by decide) rfl rfl rfl
    have eb:=eB q (.sl (.var 41) (.lit 0) (.var 6) (.var 44)) (by rw[g.i 0 (by omega),r0]) (fun k hk=>by rw[g.i (1+k) (by omega)];exact rk k hk) (by rw[g.b 23 (by omega),rb])
    have ev:CV.ev q (.sl (.var 41) (.lit 0) (.var 6) (.var 44))=.slice (ar (q.i 41) 0) L.size.toNat (q.i 44).toNat:=by
     simp only[CV.ev,ai,ah,u6]
    rw[ev]at eb
    refine⟨[[0,2],[1]],[],rfl,rfl,⟨⟨fun _=>0,fun _=>false,fun _=>.empty,fun _=>.tuple #[],fun _=>Hl.none⟩,rfl,trivial,trivial⟩,_,a,HL,HD,dp,L,D,_,_,rfl,rfl,rfl,hL,hD,rfl,?_,?_,rfl⟩
    ·show aj (dF [q.h 45]) _ _
     rw[bp];exact hDq
    ·refine⟨a,.slice (ar (q.i 41) 0) L.size.toNat (q.i 44).toNat,q.h 46,rfl,hL.1,?_,?_,?_⟩
     ·rw[e43]at hO
      have hTl:((D.now.drop (64*(L.frm+2).toNat)).take (64*i)).length=64*i:=by
       rw[List.length_take,List.length_drop]
       rcases hi with rfl | hi<;>omega
      have:=dA.pre hO e41 hs0 (by rw[hTl];omega)
      rw[List.take_take,show min L.size.toNat (64*i)=L.size.toNat by omega]at this
      exact this
     ·rw[←eb];exact hd02
     ·exact congrArg (fun z=>dF [z,q.h 46]) eb
end Go.Proofs.YtomdimlnggpgbaaGreatDoor.D
namespace Go.Proofs.YtomdimlnggpgbaaGreatDoor.D
open Go Go.Sx
theorem x0 (n c:Int):0≤jh n c∧jh n c<18446744073709551616:=by
 unfold jh
 have h:∀ x:Int,0≤IntKind.u64.wrap x∧IntKind.u64.wrap x<18446744073709551616:=fun x=>⟨Int.emod_nonneg _ (by decide),Int.emod_lt_of_pos _ (by decide)⟩
 exact h _
theorem pZ (l:List Int):0≤cY l∧cY l<18446744073709551616:=by
 have h:∀ (l:List Int) (n:Int),(0≤n∧n<18446744073709551616)→0≤l.foldl jh n∧l.foldl jh n<18446744073709551616:=by
  intro l
  induction l with
  | nil=>exact fun n h=>h
  | cons c l ih=>exact fun n _=>ih _ (x0 n c)
 exact h l 0 (by omega)
theorem gm {D:DM} (hD:D.ok) (frm:Int) {most:Int} (hm:0≤most) (place:Int):jF (aM D frm most place).1∧(aM D frm most place).1.getD 1 0≤most:=by
 have hz:jF fa∧fa.getD 1 0≤most:=⟨⟨rfl,⟨Int.le_refl _,by decide⟩,Int.le_refl _,by decide⟩,hm⟩
 unfold aM
 split
 ·exact hz
 ·rename_i h
  have h:(fb D (frm+place)).2=0:=by simpa using h
  obtain⟨_,_,e,hl⟩:=xh hD h
  split
  ·rename_i hg
   have r0:=pZ (((fb D (frm+place)).1.take 32).take 8)
   have r1:=pZ ((((fb D (frm+place)).1.take 32).drop 8).take 8)
   refine⟨⟨?_,r0,r1⟩,hg.2.2⟩
   unfold oK
   rw[e]
   simp only[List.length_append,List.length_cons,List.length_nil,List.length_take,List.length_drop,hl]
   rfl
  ·exact hz
theorem qG {D:DM} {frm most place:Int} (h:D.has (frm+place)=true):(aM D frm most place).2=if D.gone then 5 else 0:=by
 unfold aM fb
 rw[h]
 cases D.gone with
 | true=>simp
 | false=>simp;split<;>rfl
def ko (frm most:Int) (h:List Int):LM:=⟨frm,most,h.getD 0 0,h.getD 1 0,h.drop 2,false⟩
def fI (D:DM) (frm n:Int):Int:=if n<3∨frm<0∨(D.n:Int)<frm∨(D.n:Int)-frm<n then 1 else if D.gone then 5 else 0
def bQ (D:DM) (frm n:Int):List Int:=if(aM D frm (64*(n-2)) 0).1.getD 0 0<(aM D frm (64*(n-2)) 1).1.getD 0 0 then(aM D frm (64*(n-2)) 1).1 else(aM D frm (64*(n-2)) 0).1
def an (D:DM) (frm n:Int):LM:=ko frm (64*(n-2)) (bQ D frm n)
def aA (D:DM) (frm n:Int):List Int:=eJ D frm (an D frm n).size
def ni:Sx.Spec where
 fn:=44
 own:=[.arg 0]
 rd:=[]
 res:=[.one .ptr,.one (.int .i64)]
 links:=[0]
 pre:=fun xs Hs Rs=>∃ dp frm n H D,xs=[dp,.int .i64 frm,.int .i64 n]∧Hs=[H]∧aj H dp D
 post:=fun xs Hs Rs v Hs' F=>∃ dp frm n H D H' pv,xs=[dp,.int .i64 frm,.int .i64 n]∧Hs=[H]∧aj H dp D∧Hs'=[H']∧aj H' dp D∧v=.tuple #[pv,.int .i64 (fI D frm n)]∧(fI D frm n=0→bW F pv dp (an D frm n) (aA D frm n))∧(fI D frm n≠0→pv=.pointer none)
def zh:Nd:=.and (.imp (.not (.lt (.var 2) (.lit 3))) (.and (.imp (.not (.lt (.var 1) (.lit 0))) (.and (.pre (.call 0 4 [.sv (.one (.hptr (.var 0) (.lit 0)))] [.hp 3 [] [.var 0] []] [])) (.ext (.call 0 4 [.sv (.one (.hptr (.var 0) (.lit 0)))] [.hp 3 [] [.var 0] []] []) (.and (.imp (.not (.lt (.var 4) (.var 1))) (.and (.pre (.call 0 6 [.sv (.one (.hptr (.var 0) (.lit 0)))] [.hp 4 [3] [.var 0] []] [])) (.ext (.call 0 6 [.sv (.one (.hptr (.var 0) (.lit 0)))] [.hp 4 [3] [.var 0] []] []) (.and (.imp (.lt (.wrap .i64 (.sub (.var 6) (.var 1))) (.var 2)) (.post [.hp 6 [4,3] [.var 0] []] (.tup [.one (.hptr (.lit (-1)) (.lit 0)),.one (.int .i64 (.lit 1))]))) (.imp (.not (.lt (.wrap .i64 (.sub (.var 6) (.var 1))) (.var 2))) (.ext (.alloc 8) (.and (.pre (.call 1 9 [.sv (.one (.hptr (.var 8) (.lit 0))),.sv (.one (.int .u64 (.lit 0)))] [.hp 6 [4,3] [.var 0] []] [.aS 8 ([.hptr (.var 0) (.lit 0),.int .i64 (.var 1),.int .i64 (.wrap .i64 (.mul (.lit 64) (.wrap .i64 (.sub (.var 2) (.lit 2))))),.int .u64 (.lit 0),.int .u64 (.lit 0)]++List.replicate 16 (CV.int .u8 (.lit 0))++[.sl (.lit (-1)) (.lit 0) (.lit 0) (.lit 0),.bool .ff]) 145])) (.ext (.call 1 9 [.sv (.one (.hptr (.var 8) (.lit 0))),.sv (.one (.int .u64 (.lit 0)))] [.hp 6 [4,3] [.var 0] []] [.aS 8 ([.hptr (.var 0) (.lit 0),.int .i64 (.var 1),.int .i64 (.wrap .i64 (.mul (.lit 64) (.wrap .i64 (.sub (.var 2) (.lit 2))))),.int .u64 (.lit 0),.int .u64 (.lit 0)]++List.replicate 16 (CV.int .u8 (.lit 0))++[.sl (.lit (-1)) (.lit 0) (.lit 0) (.lit 0),.bool .ff]) 145]) (.ext (.alloc 28) (.and (.imp (.not (.eq (.var 27) (.lit 0))) (.post [.hp 9 [6,4,3] [.var 0] [],.dead,.dead] (.tup [.one (.hptr (.lit (-1)) (.lit 0)),.one (.int .i64 (.var 27))]))) (.imp (.eq (.var 27) (.lit 0)) (.and (.imp (.lt (.lit 0) (.var 9)) (.and (.pre (.call 1 29 [.sv (.one (.hptr (.var 8) (.lit 0))),.sv (.one (.int .u64 (.lit 1)))] [.hp 9 [6,4,3] [.var 0] []] [.aS 8 ([.hptr (.var 0) (.lit 0),.int .i64 (.var 1),.int .i64 (.wrap .i64 (.mul (.lit 64) (.wrap .i64 (.sub (.var 2) (.lit 2)))))]++al 9 ([Ck.int .u64,Ck.int .u64]++List.replicate 16 (Ck.int .u8))++[.sl (.lit (-1)) (.lit 0) (.lit 0) (.lit 0),.bool .ff]) 145])) (.ext (.call 1 29 [.sv (.one (.hptr (.var 8) (.lit 0))),.sv (.one (.int .u64 (.lit 1)))] [.hp 9 [6,4,3] [.var 0] []] [.aS 8 ([.hptr (.var 0) (.lit 0),.int .i64 (.var 1),.int .i64 (.wrap .i64 (.mul (.lit 64) (.wrap .i64 (.sub (.var 2) (.lit 2)))))]++al 9 ([Ck.int .u64,Ck.int .u64]++List.replicate 16 (Ck.int .u8))++[.sl (.lit (-1)) (.lit 0) (.lit 0) (.lit 0),.bool .ff]) 145]) (.ext (.alloc 48) (.and (.imp (.not (.eq (.var 47) (.lit 0))) (.post [.hp 29 [9,6,4,3] [.var 0] [],.dead,.dead,.dead] (.tup [.one (.hptr (.lit (-1)) (.lit 0)),.one (.int .i64 (.var 47))]))) (.imp (.eq (.var 47) (.lit 0)) (.and (.imp (.lt (.var 9) (.var 29)) (.and (.pre (.call 2 49 [.sv (.one (.hptr (.var 8) (.lit 0)))] [.aS 8 ([.hptr (.var 0) (.lit 0),.int .i64 (.var 1),.int .i64 (.wrap .i64 (.mul (.lit 64) (.wrap .i64 (.sub (.var 2) (.lit 2)))))]++al 29 ([Ck.int .u64,Ck.int .u64]++List.replicate 16 (Ck.int .u8))++[.sl (.lit (-1)) (.lit 0) (.lit 0) (.lit 0),.bool .ff]) 145,.hp 29 [9,6,4,3] [.var 0] []] [])) (.ext (.call 2 49 [.sv (.one (.hptr (.var 8) (.lit 0)))] [.aS 8 ([.hptr (.var 0) (.lit 0),.int .i64 (.var 1),.int .i64 (.wrap .i64 (.mul (.lit 64) (.wrap .i64 (.sub (.var 2) (.lit 2)))))]++al 29 ([Ck.int .u64,Ck.int .u64]++List.replicate 16 (Ck.int .u8))++[.sl (.lit (-1)) (.lit 0) (.lit 0) (.lit 0),.bool .ff]) 145,.hp 29 [9,6,4,3] [.var 0] []] []) (.and (.imp (.not (.eq (.var 49) (.lit 0))) (.post [.hp 50 [29,9,6,4,3] [.var 0] [],.hp 49 [] [.var 8] [],.dead,.dead] (.tup [.one (.hptr (.lit (-1)) (.lit 0)),.one (.int .i64 (.var 49))]))) (.imp (.eq (.var 49) (.lit 0)) (.post [.hp 50 [29,9,6,4,3] [.var 0] [],.hp 49 [] [.var 8] [],.dead,.dead] (.tup [.one (.hptr (.var 8) (.lit 0)),.one (.int .i64 (.lit 0))]))))))) (.imp (.not (.lt (.var 9) (.var 29))) (.and (.pre (.call 2 49 [.sv (.one (.hptr (.var 8) (.lit 0)))] [.aS 8 ([.hptr (.var 0) (.lit 0),.int .i64 (.var 1),.int .i64 (.wrap .i64 (.mul (.lit 64) (.wrap .i64 (.sub (.var 2) (.lit 2)))))]++al 9 ([Ck.int .u64,Ck.int .u64]++List.replicate 16 (Ck.int .u8))++[.sl (.lit (-1)) (.lit 0) (.lit 0) (.lit 0),.bool .ff]) 145,.hp 29 [9,6,4,3] [.var 0] []] [])) (.ext (.call 2 49 [.sv (.one (.hptr (.var 8) (.lit 0)))] [.aS 8 ([.hptr (.var 0) (.lit 0),.int .i64 (.var 1),.int .i64 (.wrap .i64 (.mul (.lit 64) (.wrap .i64 (.sub (.var 2) (.lit 2)))))]++al 9 ([Ck.int .u64,Ck.int .u64]++List.replicate 16 (Ck.int .u8))++[.sl (.lit (-1)) (.lit 0) (.lit 0) (.lit 0),.bool .ff]) 145,.hp 29 [9,6,4,3] [.var 0] []] []) (.and (.imp (.not (.eq (.var 49) (.lit 0))) (.post [.hp 50 [29,9,6,4,3] [.var 0] [],.hp 49 [] [.var 8] [],.dead,.dead] (.tup [.one (.hptr (.lit (-1)) (.lit 0)),.one (.int .i64 (.var 49))]))) (.imp (.eq (.var 49) (.lit 0)) (.post [.hp 50 [29,9,6,4,3] [.var 0] [],.hp 49 [] [.var 8] [],.dead,.dead] (.tup [.one (.hptr (.var 8) (.lit 0)),.one (.int .i64 (.lit 0))])))))))))))))) (.imp (.not (.lt (.lit 0) (.var 9))) (.and (.pre (.call 1 29 [.sv (.one (.hptr (.var 8) (.lit 0))),.sv (.one (.int .u64 (.lit 1)))] [.hp 9 [6,4,3] [.var 0] []] [.aS 8 ([.hptr (.var 0) (.lit 0),.int .i64 (.var 1),.int .i64 (.wrap .i64 (.mul (.lit 64) (.wrap .i64 (.sub (.var 2) (.lit 2)))))]++al 9 ([Ck.int .u64,Ck.int .u64]++List.replicate 16 (Ck.int .u8))++[.sl (.lit (-1)) (.lit 0) (.lit 0) (.lit 0),.bool .ff]) 145])) (.ext (.call 1 29 [.sv (.one (.hptr (.var 8) (.lit 0))),.sv (.one (.int .u64 (.lit 1)))] [.hp 9 [6,4,3] [.var 0] []] [.aS 8 ([.hptr (.var 0) (.lit 0),.int .i64 (.var 1),.int .i64 (.wrap .i64 (.mul (.lit 64) (.wrap .i64 (.sub (.var 2) (.lit 2)))))]++al 9 ([Ck.int .u64,Ck.int .u64]++List.replicate 16 (Ck.int .u8))++[.sl (.lit (-1)) (.lit 0) (.lit 0) (.lit 0),.bool .ff]) 145]) (.ext (.alloc 48) (.and (.imp (.not (.eq (.var 47) (.lit 0))) (.post [.hp 29 [9,6,4,3] [.var 0] [],.dead,.dead,.dead] (.tup [.one (.hptr (.lit (-1)) (.lit 0)),.one (.int .i64 (.var 47))]))) (.imp (.eq (.var 47) (.lit 0)) (.and (.imp (.lt (.var 9) (.var 29)) (.and (.pre (.call 2 49 [.sv (.one (.hptr (.var 8) (.lit 0)))] [.aS 8 ([.hptr (.var 0) (.lit 0),.int .i64 (.var 1),.int .i64 (.wrap .i64 (.mul (.lit 64) (.wrap .i64 (.sub (.var 2) (.lit 2)))))]++al 29 ([Ck.int .u64,Ck.int .u64]++List.replicate 16 (Ck.int .u8))++[.sl (.lit (-1)) (.lit 0) (.lit 0) (.lit 0),.bool .ff]) 145,.hp 29 [9,6,4,3] [.var 0] []] [])) (.ext (.call 2 49 [.sv (.one (.hptr (.var 8) (.lit 0)))] [.aS 8 ([.hptr (.var 0) (.lit 0),.int .i64 (.var 1),.int .i64 (.wrap .i64 (.mul (.lit 64) (.wrap .i64 (.sub (.var 2) (.lit 2)))))]++al 29 ([Ck.int .u64,Ck.int .u64]++List.replicate 16 (Ck.int .u8))++[.sl (.lit (-1)) (.lit 0) (.lit 0) (.lit 0),.bool .ff]) 145,.hp 29 [9,6,4,3] [.var 0] []] []) (.and (.imp (.not (.eq (.var 49) (.lit 0))) (.post [.hp 50 [29,9,6,4,3] [.var 0] [],.hp 49 [] [.var 8] [],.dead,.dead] (.tup [.one (.hptr (.lit (-1)) (.lit 0)),.one (.int .i64 (.var 49))]))) (.imp (.eq (.var 49) (.lit 0)) (.post [.hp 50 [29,9,6,4,3] [.var 0] [],.hp 49 [] [.var 8] [],.dead,.dead] (.tup [.one (.hptr (.var 8) (.lit 0)),.one (.int .i64 (.lit 0))]))))))) (.imp (.not (.lt (.var 9) (.var 29))) (.and (.pre (.call 2 49 [.sv (.one (.hptr (.var 8) (.lit 0)))] [.aS 8 ([.hptr (.var 0) (.lit 0),.int .i64 (.var 1),.int .i64 (.wrap .i64 (.mul (.lit 64) (.wrap .i64 (.sub (.var 2) (.lit 2)))))]++al 9 ([Ck.int .u64,Ck.int .u64]++List.replicate 16 (Ck.int .u8))++[.sl (.lit (-1)) (.lit 0) (.lit 0) (.lit 0),.bool .ff]) 145,.hp 29 [9,6,4,3] [.var 0] []] [])) (.ext (.call 2 49 [.sv (.one (.hptr (.var 8) (.lit 0)))] [.aS 8 ([.hptr (.var 0) (.lit 0),.int .i64 (.var 1),.int .i64 (.wrap .i64 (.mul (.lit 64) (.wrap .i64 (.sub (.var 2) (.lit 2)))))]++al 9 ([Ck.int .u64,Ck.int .u64]++List.replicate 16 (Ck.int .u8))++[.sl (.lit (-1)) (.lit 0) (.lit 0) (.lit 0),.bool .ff]) 145,.hp 29 [9,6,4,3] [.var 0] []] []) (.and (.imp (.not (.eq (.var 49) (.lit 0))) (.post [.hp 50 [29,9,6,4,3] [.var 0] [],.hp 49 [] [.var 8] [],.dead,.dead] (.tup [.one (.hptr (.lit (-1)) (.lit 0)),.one (.int .i64 (.var 49))]))) (.imp (.eq (.var 49) (.lit 0)) (.post [.hp 50 [29,9,6,4,3] [.var 0] [],.hp 49 [] [.var 8] [],.dead,.dead] (.tup [.one (.hptr (.var 8) (.lit 0)),.one (.int .i64 (.lit 0))])))))))))))))))))))))))))) (.imp (.lt (.var 4) (.var 1)) (.post [.hp 4 [3] [.var 0] []] (.tup [.one (.hptr (.lit (-1)) (.lit 0)),.one (.int .i64 (.lit 1))]))))))) (.imp (.lt (.var 1) (.lit 0)) (.post [.hp 3 [] [.var 0] []] (.tup [.one (.hptr (.lit (-1)) (.lit 0)),.one (.int .i64 (.lit 1))]))))) (.imp (.lt (.var 2) (.lit 3)) (.post [.hp 3 [] [.var 0] []] (.tup [.one (.hptr (.lit (-1)) (.lit 0)),.one (.int .i64 (.lit 1))])))
def qY:List Sx.Spec:=[fY,ix,qE]
theorem DI:∀ t∈qY,t.OK Tryz.prog:=fun t ht=>by
 simp only[qY,List.mem_cons,List.mem_nil_iff,or_false]at ht
 rcases ht with rfl | rfl | rfl
 ·exact o8
 ·exact Bp
 ·exact Dg
def wY:cy Tryz.prog qY ni.fn where
 Λ:=aH
 args:=[TP (.var 0) (.lit 0),TI .i64 (.var 1),TI .i64 (.var 2)]
 mem:=[.hp 3 [] [.var 0] []]
 nv:=4
 nd:=zh
 ok:=by kernel_rfl
theorem Jn:qY[0]?=some fY:=rfl
theorem Jo:qY[1]?=some ix:=rfl
theorem Jp:qY[2]?=some qE:=rfl
theorem Jr:fY.res=[.one (.int .i64)]:=rfl
theorem Js:ix.res=[.agg gZ,.one (.int .i64)]:=rfl
theorem Jt:qE.res=[.one (.int .i64)]:=rfl
def Ca (l:List CV):List CV:=[.hptr (.var 0) (.lit 0),.int .i64 (.var 1),.int .i64 (.wrap .i64 (.mul (.lit 64) (.wrap .i64 (.sub (.var 2) (.lit 2)))))]++l++[.sl (.lit (-1)) (.lit 0) (.lit 0) (.lit 0),.bool .ff]
theorem Jm {q:Env} {l:List CV} {da:Nat} {frm n:Int} {h:List Int} (h0:q.i 0=da) (h1:q.i 1=frm) (h2:q.i 2=n) (hn:3≤n∧n≤16384) (hh:h.length=18) (hl:l.map (CV.ev q)=jf h) :
 (bc.aS 8 (Ca l) 145).hl q=Hl.one (q.i 8).toNat (dM (.pointer (some ⟨da,0,none⟩)) (.slice none 0 0) (ko frm (64*(n-2)) h)):=by
 show Hl.one (q.i 8).toNat (.cells ((Ca l).map (CV.ev q)).toArray _ (0,0))=_
 have e:(Ca l).map (CV.ev q)=iw (.pointer (some ⟨da,0,none⟩)) (.slice none 0 0) (ko frm (64*(n-2)) h):=by
  unfold Ca
  rw[List.map_append,List.map_append,hl]
  have ep:Value.pointer (ar (q.i 0) 0)=.pointer (some ⟨da,0,none⟩):=by rw[h0,fc]
  have em:IntKind.i64.wrap (64*IntKind.i64.wrap (q.i 2-2))=64*(n-2):=by
   rw[h2,wrap_i64 (n:=n-2) (by omega) (by omega),wrap_i64 (by omega) (by omega)]
  show [Value.pointer (ar (q.i 0) 0),Value.int .i64 (q.i 1),Value.int .i64 (IntKind.i64.wrap (64*IntKind.i64.wrap (q.i 2-2)))]++jf h++[Value.slice (ar (-1) 0) 0 0,Value.bool false]=_
  rw[ep,em,h1,cW]
  unfold iw ko jf
  simp only[List.cons_append,List.nil_append,List.append_assoc]
 rw[e];rfl
theorem wy {q:Env} {n:Nat} {h:List Int} (e:(al n gZ).map (CV.ev q)=jf h):q.i n=h.getD 0 0:=by
 have:=congrArg (fun l=>l[0]?) e
 simpa [gZ,al,Ck.cv,CV.ev,jf,ai] using this
theorem C3 {frm n:Int} {h:List Int} (hf:0≤frm∧frm≤16384) (hn:3≤n∧n≤16384) (hh:h.length=18):(ko frm (64*(n-2)) h).ok:=⟨hf,⟨by show 0≤64*(n-2);omega,by show 64*(n-2)≤_;omega⟩,by show(h.drop 2).length=16;rw[List.length_drop];omega⟩
theorem DH:ni.OK Tryz.prog:=by
 refine Spec.b8 (Γ:=qY) DI ?_
 rintro xs Hs Rs hl1 hl2 ⟨dp,frm,n,H,D,rfl,rfl,hD⟩
 have e1:Rs=[]:=List.length_eq_zero_iff.1 hl2
 subst e1
 obtain⟨da,s,m,es,clock,hdp,hDi⟩:=id hD
 have hDn:=hDi.ok.n
 refine⟨wY,bx [da,frm,n] false [Hl.none,Hl.none,Hl.none,H],fun _ _=>True,fun _ _=>0,?_,⟨?_,?_,?_,?_⟩,(fun _ h=>nomatch h),?_⟩
 ·show [Value.pointer (ar (da:Int) 0),Value.int .i64 frm,Value.int .i64 n]=_;rw[fc,hdp]
 ·intro r hr ho
  simp [wY]at hr
  subst hr
  exact⟨H,by simp,Hl.le_refl _⟩
 ·intro r hr ho
  simp [wY]at hr
  subst hr;cases ho
 ·simp [wY]
 ·intro r hr
  simp [wY]at hr
  subst hr;trivial
 ·show Nd.holds _ _ _ zh
  generalize hρ:bx [(da:Int),frm,n] false [Hl.none,Hl.none,Hl.none,H]=ρ
  have v0:ρ.i 0=da:=by rw[←hρ];rfl
  have v1:ρ.i 1=frm:=by rw[←hρ];rfl
  have v2:ρ.i 2=n:=by rw[←hρ];rfl
  have w3:ρ.h 3=H:=by rw[←hρ];rfl
  have ep:Value.pointer (ar (da:Int) 0)=dp:=by rw[fc,hdp]
  have bad:∀ (q:Env) (k:Nat) (vs:List Nat) (t:Mem) (x:E) (e:Int),aj (q.h k) dp D→ak q x=e→fI D frm n=e→e≠0 →
   postOf ni [dp,.int .i64 frm,.int .i64 n] [H] [] q (.hp k vs [.var 0] []::t) (.tup [.one (.hptr (.lit (-1)) (.lit 0)),.one (.int .i64 x)]):=by
   intro q k vs t x e hq hx he hne _
   refine⟨[[0]],[],rfl,rfl,⟨⟨fun j=>[-1,0,e].getD j 0,fun _=>false,fun _=>.empty,fun _=>.tuple #[],fun _=>Hl.none⟩,?_,⟨by show(-1:Int)≤ -1;omega,Int.le_refl _⟩,trivial,trivial⟩,dp,frm,n,H,D,_,.pointer none,rfl,rfl,hD,rfl,?_,?_,fun h=>absurd (he.symm.trans h) hne,fun _=>rfl⟩
   ·subst hx;rfl
   ·show aj (dF [q.h k]) _ _
    rw[bp];exact hq
   ·rw[he,←hx];rfl
  unfold zh
  simp only[Nd.holds,X.pre,X.rel,X.n,Src.ok,Src.len,Src.bS,true_and,and_true,if_true,Nat.mul_one,Nat.add_zero,Nat.reduceAdd,List.length_cons,List.length_nil,bN,bK,aP,ba,bb,bM,bj,bJ,bI,bD,bd,bk,bL,bg,bf,aQ,bh,ah,ai,aE,aI,aK,ax,aF,aV,aT,au,aO,aC,aN,aB,TV.ev,SV.ev,CV.ev,List.map_cons,List.map_nil,bc.hl,df,Cp.sv,Ck.cv,ct,Cp.len,Ck.len,aU,bm,bC,Jn,Jo,Jp,Jr,Js,Jt]
  rw[v0,v1,v2,w3,ep]
  refine⟨fun h3=>⟨fun h0=>⟨⟨dp,H,D,rfl,rfl,hD⟩,fun q1 g1 ⟨F,⟨p',H',D',H2,hx,hH,hD',hH2,hD2,hv⟩,_,_⟩=>?_⟩,fun h0=>bad _ 3 _ _ _ 1 (by rw[w3];exact hD) (ah _ _) (by unfold fI;rw[if_pos (Or.inr (Or.inl h0))]) (by decide)⟩,fun h3=>bad _ 3 _ _ _ 1 (by rw[w3];exact hD) (ah _ _) (by unfold fI;rw[if_pos (Or.inl h3)]) (by decide)⟩
  cases hx
  cases hH
  have e:=hD'.uniq hD
  subst e
  simp only[Value.int.injEq,true_and,List.cons.injEq,and_true]at hv hH2
  rw[←hH2]at hD2
  have hv:q1.i 4=D'.n:=hv
  rw[g1.i 0 (by omega),g1.i 1 (by omega),v0,v1,hv,ep]
  refine⟨fun hlt=>⟨⟨dp,_,D',rfl,rfl,hD2⟩,fun q2 g2 ⟨F,⟨p',H',D1,H3,hx,hH,hD',hH3,hD3,hv3⟩,_,_⟩=>?_⟩,fun hlt=>bad _ 4 _ _ _ 1 hD2 (ah _ _) (by unfold fI;rw[if_pos (Or.inr (Or.inr (Or.inl hlt)))]) (by decide)⟩
  cases hx
  cases hH
  have e:=hD'.uniq hD2
  subst e
  simp only[Value.int.injEq,true_and,List.cons.injEq,and_true]at hv3 hH3
  rw[←hH3]at hD3
  have hv3:q2.i 6=D1.n:=hv3
  have h3:3≤n:=by omega
  have h0:0≤frm:=by omega
  have hlt:frm≤D1.n:=by omega
  have esub:IntKind.i64.wrap ((D1.n:Int)-frm)=D1.n-frm:=wrap_i64 (by omega) (by omega)
  rw[g2.i 1 (by omega),g2.i 2 (by omega),g1.i 1 (by omega),g1.i 2 (by omega),v1,v2,hv3,esub]
  refine⟨fun hr=>bad _ 6 _ _ _ 1 hD3 (ah _ _) (by unfold fI;rw[if_pos (Or.inr (Or.inr (Or.inr hr)))]) (by decide),fun hr q3 g3 p8=>?_⟩
  have hr:n≤D1.n-frm:=by omega
  have G3:ae 4 ρ q3:=(g1.trans (g2.mono (by omega))).trans (g3.mono (by omega))
  have hn16:3≤n∧n≤16384:=⟨h3,by omega⟩
  have hf16:0≤frm∧frm≤16384:=⟨h0,by omega⟩
  have hm0:0≤64*(n-2):=by omega
  have ep8:∀ q:Env,0≤q.i 8→Value.pointer (ar (q.i 8) 0)=.pointer (some ⟨(q.i 8).toNat,0,none⟩):=fun q h=>by rw[aq h];rfl
  have rd:∀ (q:Env) (l:List CV) (h:List Int),ae 4 ρ q→h.length=18→l.map (CV.ev q)=jf h→0≤q.i 8 →
   gV ((bc.aS 8 (Ca l) 145).hl q) (q.i 8).toNat dp (.slice none 0 0) (ko frm (64*(n-2)) h):=by
   intro q l h hq hh hl h8
   refine⟨C3 hf16 hn16 hh,?_⟩
   rw[Jm (by rw[hq.i 0 (by omega),v0]) (by rw[hq.i 1 (by omega),v1]) (by rw[hq.i 2 (by omega),v2]) hn16 hh hl,hdp]
   exact Hl.bE _ _
  have call:∀ (q:Env) (l:List CV) (h:List Int) (k:Nat) (place:Int),ae 4 ρ q→h.length=18→l.map (CV.ev q)=jf h→0≤q.i 8→aj (q.h k) dp D1→(place=0∨place=1) →
   ix.pre [.pointer (ar (q.i 8) 0),.int .u64 place] [q.h k] [(bc.aS 8 (Ca l) 145).hl q]:=by
   intro q l h k place hq hh hl h8 hd hp
   exact⟨_,place,_,_,dp,_,_,D1,rfl,rfl,rfl,⟨_,ep8 q h8,rd q l h hq hh hl h8⟩,hd,hp⟩
  have back:∀ (q:Env) (l:List CV) (h:List Int) (k:Nat) (place:Int) (v:Value) (H' F:Hl),ae 4 ρ q→h.length=18→l.map (CV.ev q)=jf h→0≤q.i 8→aj (q.h k) dp D1 →
   ix.post [.pointer (ar (q.i 8) 0),.int .u64 place] [q.h k] [(bc.aS 8 (Ca l) 145).hl q] v [H'] F →
   aj H' dp D1∧v=.tuple #[.agg (jf (aM D1 frm (64*(n-2)) place).1).toArray,.int .i64 (aM D1 frm (64*(n-2)) place).2]:=by
   intro q l h k place v H' F hq hh hl h8 hd ⟨p',place',Hx,R,dp',sl',L',Dx,H'',hx,hH,hR,hL,hDx,hH',hDy,hvq⟩
   cases hx
   cases hH
   have hR:(bc.aS 8 (Ca l) 145).hl q=R:=by simpa using hR
   subst hR
   obtain⟨e1,e2,e3⟩:=hL.uniq ⟨_,ep8 q h8,rd q l h hq hh hl h8⟩
   subst e1 e2 e3
   have e:=hDx.uniq hd
   subst e
   simp only[List.cons.injEq,and_true]at hH'
   subst hH'
   exact⟨hDy,hvq⟩
  have inr:∀ place:Int,place=0∨place=1→D1.has (frm+place)=true:=by
   intro place hp
   unfold DM.has
   simp only[decide_eq_true_eq]
   omega
  have oE:fI D1 frm n=if D1.gone then 5 else 0:=by
   unfold fI
   rw[if_neg (by omega)]
  have leaf:∀ (q:Env) (l:List CV) (h:List Int),ae 4 ρ q→jF h→h.getD 1 0≤64*(n-2)→l.map (CV.ev q)=jf h→0≤q.i 8→aj (q.h 29) dp D1→D1.gone=false→bQ D1 frm n=h →
   (qE.pre [.pointer (ar (q.i 8) 0)] [(bc.aS 8 (Ca l) 145).hl q,q.h 29] [] ∧
   ∀ q':Env,ae 49 q q'→(∃ F,qE.post [.pointer (ar (q.i 8) 0)] [(bc.aS 8 (Ca l) 145).hl q,q.h 29] [] (.int .i64 (q'.i 49)) (newHs q' 49 2) F∧(bO 0 [Cp.one (Ck.int .i64)]≠[]→q'.h 51=F)∧dN 49 [Cp.one (Ck.int .i64)] q') →
    (¬q'.i 49=0→postOf ni [dp,.int .i64 frm,.int .i64 n] [H] [] q' [.hp 50 [29,9,6,4,3] [.var 0] [],.hp 49 [] [.var 8] [],.dead,.dead] (.tup [.one (.hptr (.lit (-1)) (.lit 0)),.one (.int .i64 (.var 49))])) ∧
    (q'.i 49=0→postOf ni [dp,.int .i64 frm,.int .i64 n] [H] [] q' [.hp 50 [29,9,6,4,3] [.var 0] [],.hp 49 [] [.var 8] [],.dead,.dead] (.tup [.one (.hptr (.var 8) (.lit 0)),.one (.int .i64 (.lit 0))]))):=by
   intro q l h hq hh hmost hl h8 hd hgone hoH
   refine⟨⟨_,_,_,_,dp,_,D1,rfl,rfl,ep8 q h8,rd q l h hq hh.1 hl h8,hd,hgone,hh.2.2.1,?_⟩,fun q' g' ⟨F,⟨p',a',HL,HDk,dp',L',Dx,HL',HD',hx,hH,hp,hL,hDx,hH',hDy,hAt,hvq⟩,_,_⟩=>?_⟩
   ·show 64*(frm+2)+h.getD 1 0≤64*(D1.n:Int)
    omega
   ·have hx:Value.pointer (ar (q.i 8) 0)=p':=by simpa using hx
    subst hx
    have hH:(bc.aS 8 (Ca l) 145).hl q=HL∧q.h 29=HDk:=by simpa using hH
    obtain⟨hH1,hH2⟩:=hH
    subst hH1 hH2
    have e:=hDx
    obtain⟨e1,e2,e3⟩:=c6.uniq ⟨a',hp,hL⟩ ⟨_,ep8 q h8,rd q l h hq hh.1 hl h8⟩
    subst e1 e3
    have e:=hDx.uniq hd
    subst e
    have hH':q'.h 49=HL'∧q'.h 50=HD':=by
     have h1:[q'.h 49,q'.h 50]=[HL',HD']:=hH'
     simpa using h1
    obtain⟨h49,h50⟩:=hH'
    simp only[Value.int.injEq,true_and]at hvq
    refine⟨fun h=>absurd hvq h,fun _ _=>⟨[[0]],[1],rfl,rfl,⟨⟨fun j=>[q'.i 8,0,0].getD j 0,fun _=>false,fun _=>.empty,fun _=>.tuple #[],fun _=>Hl.none⟩,rfl,⟨?_,Int.le_refl _⟩,trivial,trivial⟩,_,frm,n,H,Dx,_,Value.pointer (ar (q'.i 8) 0),rfl,rfl,hD,rfl,?_,?_,fun _=>?_,fun h=>absurd (by rw[oE,hgone];rfl) h⟩⟩
    ·show -1≤q'.i 8
     rw[g'.i 8 (by omega)];omega
    ·show aj (dF [q'.h 50]) _ _
     rw[bp,h50];exact hDy
    ·rw[oE,hgone];rfl
    ·show bW (dF [q'.h 49]) _ _ _ _
     rw[bp,h49,g'.i 8 (by omega)]
     unfold aA an
     rw[hoH]
     exact hAt
  have z18:∀ q:Env,([CV.int .u64 (.lit 0),CV.int .u64 (.lit 0)]++List.replicate 16 (CV.int .u8 (.lit 0))).map (CV.ev q)=jf fa:=fun q=>rfl
  obtain⟨ok0,le0⟩:=gm hDi.ok frm hm0 0
  obtain⟨ok1,le1⟩:=gm hDi.ok frm hm0 1
  have hD6:aj (q3.h 6) dp D1:=by rw[g3.h 6 (by omega)];exact hD3
  refine⟨call q3 _ fa 6 0 G3 rfl (z18 q3) p8 hD6 (Or.inl rfl),fun q4 g4 ⟨F,hp4,_,_⟩ q5 g5 _=>?_⟩
  obtain⟨hD9,hv4⟩:=back q3 _ fa 6 0 _ _ _ G3 rfl (z18 q3) p8 hD6 hp4
  simp only[Value.tuple.injEq,Array.mk.injEq,List.cons.injEq,Value.int.injEq,Value.agg.injEq,true_and,and_true]at hv4
  obtain⟨hh4,hc4⟩:=hv4
  have hc4:q4.i 27=(aM D1 frm (64*(n-2)) 0).2:=hc4
  rw[qG (inr 0 (Or.inl rfl))]at hc4
  have G5:ae 4 ρ q5:=(G3.trans (g4.mono (by omega))).trans (g5.mono (by omega))
  have hh5:List.map (CV.ev q5) (al 9 gZ)=jf (aM D1 frm (64*(n-2)) 0).1:=by
   rw[CV.dJ (g5.mono (by decide)) _ (cr gZ 9)]
   exact hh4
  have p85:0≤q5.i 8:=by rw[g5.i 8 (by omega),g4.i 8 (by omega)];exact p8
  have hD95:aj (q5.h 9) dp D1:=by rw[g5.h 9 (by omega)];exact hD9
  refine⟨fun h27=>bad q5 9 _ _ _ 5 hD95 (by rw[ai,g5.i 27 (by omega),hc4,if_pos];exact Classical.byContradiction fun hg=>h27 (by rw[g5.i 27 (by omega),hc4,if_neg hg])) (by rw[oE,if_pos];exact Classical.byContradiction fun hg=>h27 (by rw[g5.i 27 (by omega),hc4,if_neg hg])) (by decide),fun h27=>?_⟩
  have hgone:D1.gone=false:=by
   cases hg:D1.gone with
   | false=>rfl
   | true=>rw[g5.i 27 (by omega),hc4,hg]at h27;cases h27
  have mid:∀ (q6:Env),ae 29 q5 q6→∀ F,ix.post [.pointer (ar (q5.i 8) 0),.int .u64 1] [q5.h 9] [(bc.aS 8 (Ca (al 9 gZ)) 145).hl q5] (.tuple #[.agg (List.map (CV.ev q6) (al 29 gZ)).toArray,.int .i64 (q6.i 47)]) [q6.h 29] F →
   ∀ q7,ae 48 q6 q7→q7.i 47=0∧ae 4 ρ q7∧0≤q7.i 8∧aj (q7.h 29) dp D1∧List.map (CV.ev q7) (al 29 gZ)=jf (aM D1 frm (64*(n-2)) 1).1∧List.map (CV.ev q7) (al 9 gZ)=jf (aM D1 frm (64*(n-2)) 0).1:=by
   intro q6 g6 F hp6 q7 g7
   obtain⟨hD29,hv6⟩:=back q5 _ _ 9 1 _ _ _ G5 ok0.1 hh5 p85 hD95 hp6
   simp only[Value.tuple.injEq,Array.mk.injEq,List.cons.injEq,Value.int.injEq,Value.agg.injEq,true_and,and_true]at hv6
   obtain⟨hh6,hc6⟩:=hv6
   rw[qG (inr 1 (Or.inr rfl)),hgone]at hc6
   refine⟨by rw[g7.i 47 (by omega),hc6];rfl,(G5.trans (g6.mono (by omega))).trans (g7.mono (by omega)),by rw[g7.i 8 (by omega),g6.i 8 (by omega)];exact p85,by rw[g7.h 29 (by omega)];exact hD29,?_,?_⟩
   ·rw[CV.dJ (g7.mono (by decide)) _ (cr gZ 29)];exact hh6
   ·rw[CV.dJ ((g6.trans (g7.mono (by omega))).mono (by decide)) _ (cr gZ 9)];exact hh5
  have both:∀ (q7:Env),ae 4 ρ q7→0≤q7.i 8→aj (q7.h 29) dp D1→List.map (CV.ev q7) (al 29 gZ)=jf (aM D1 frm (64*(n-2)) 1).1→List.map (CV.ev q7) (al 9 gZ)=jf (aM D1 frm (64*(n-2)) 0).1 →
   (q7.i 9<q7.i 29→bQ D1 frm n=(aM D1 frm (64*(n-2)) 1).1)∧(¬q7.i 9<q7.i 29→bQ D1 frm n=(aM D1 frm (64*(n-2)) 0).1):=by
   intro q7 _ _ _ h1 h2
   rw[wy h1,wy h2]
   exact⟨fun h=>by unfold bQ;rw[if_pos h],fun h=>by unfold bQ;rw[if_neg h]⟩
  constructor
  ·intro _
   refine⟨call q5 _ _ 9 1 G5 ok0.1 hh5 p85 hD95 (Or.inr rfl),fun q6 g6 ⟨F,hp6,_,_⟩ q7 g7 _=>?_⟩
   obtain⟨z1,z2,z3,z4,z5,z6⟩:=mid q6 g6 F hp6 q7 g7
   obtain⟨b1,b2⟩:=both q7 z2 z3 z4 z5 z6
   exact⟨fun h=>absurd z1 h,fun _=>⟨fun hlt=>leaf q7 (al 29 gZ) _ z2 ok1 le1 z5 z3 z4 hgone (b1 hlt),fun hge=>leaf q7 (al 9 gZ) _ z2 ok0 le0 z6 z3 z4 hgone (b2 hge)⟩⟩
  ·intro _
   refine⟨call q5 _ _ 9 1 G5 ok0.1 hh5 p85 hD95 (Or.inr rfl),fun q6 g6 ⟨F,hp6,_,_⟩ q7 g7 _=>?_⟩
   obtain⟨z1,z2,z3,z4,z5,z6⟩:=mid q6 g6 F hp6 q7 g7
   obtain⟨b1,b2⟩:=both q7 z2 z3 z4 z5 z6
   exact⟨fun h=>absurd z1 h,fun _=>⟨fun hlt=>leaf q7 (al 29 gZ) _ z2 ok1 le1 z5 z3 z4 hgone (b1 hlt),fun hge=>leaf q7 (al 9 gZ) _ z2 ok0 le0 z6 z3 z4 hgone (b2 hge)⟩⟩
end Go.Proofs.YtomdimlnggpgbaaGreatDoor.D
namespace Go.Proofs.YtomdimlnggpgbaaGreatDoor.D
open Go Go.Sx
def mj (sl:Value) (n:Nat):Prop:=∃ (x y:Int) (c:Nat),sl=.slice (ar x y) n c∧ -1≤x∧0≤y
theorem dA.mj {F:Hl} {e:TypeId} {v:Value} {bs:List Int} (h:dA F e v bs):mj v bs.length:=by
 obtain⟨x,c,hx,hv,_⟩:=dA.rep h
 exact⟨x,0,c,hv,hx,Int.le_refl _⟩
theorem mv.mj {F:Hl} {v:Value} {bs:List Int} (h:mv F v bs):mj v bs.length:=by
 obtain⟨x,y,c,hv,hy,h⟩:=h
 exact⟨x,y,c,hv,by rcases h with ⟨h,_⟩ | ⟨h,_⟩<;>omega,hy⟩
theorem mj.uniq {sl:Value} {n m:Nat} (h:mj sl n) (h':mj sl m):n=m:=by
 obtain⟨x,y,c,rfl,_⟩:=h
 obtain⟨x',y',c',he,_⟩:=h'
 simp only[Value.slice.injEq]at he
 exact he.2.1
theorem r7 {x y:Int} (hx:-1≤x) (n c:Nat):cH (some (.slice (ar x y) n c)) 0=x:=by
 rcases Int.lt_or_le x 0 with h | h
 ·obtain rfl:x= -1:=by omega
  rfl
 ·rw[aq h];show((x.toNat:Nat):Int)=x;omega
theorem xI {x y:Int} (hx:0≤x) (hy:0≤y) (n c:Nat):cH (some (.slice (ar x y) n c)) 1=y:=by
 rw[aq hx];show((y.toNat:Nat):Int)=y;omega
theorem jz {x y:Int} (hx:-1≤x) (n c:Nat):cH (some (.slice (ar x y) n c)) 2=n:=by
 rcases Int.lt_or_le x 0 with h | h
 ·obtain rfl:x= -1:=by omega
  rfl
 ·rw[aq h];rfl
def ju (a:Nat) (R1 R2:Hl):Env:=bx [(a:Int)] false [Hl.none,R2,R1]
def nq:Mem:=[.ro 1 [.hP 2 (.var 0) (.lit 21) 0 0] false,.ro 2 [.var 0] false]
theorem pK (a:Nat) (R1 R2:Hl) (Rs:List Hl) (h1:R1∈Rs) (h2:R2∈Rs):Entry (ju a R1 R2) nq [] Rs:=by
 refine⟨fun r hr ho=>?_,fun r hr ho=>?_,?_,fun r hr=>?_⟩
 ·simp [nq]at hr
  rcases hr with rfl | rfl<;>cases ho
 ·simp [nq]at hr
  rcases hr with rfl | rfl
  ·exact⟨R2,h2,Hl.le_refl _⟩
  ·exact⟨R1,h1,Hl.le_refl _⟩
 ·simp [nq,bc.own]
 ·simp [nq]at hr
  rcases hr with rfl | rfl<;>trivial
def iN:Sx.Spec where
 fn:=50
 own:=[]
 rd:=[0]
 res:=[.one (.int .i64)]
 pre:=fun xs Hs Rs=>∃ p R dp sl L n,xs=[p]∧Rs=[R]∧c6 R p dp sl L∧mj sl n∧n≤1048576
 post:=fun xs Hs Rs v Hs' F=>∃ p R dp sl L n,xs=[p]∧Rs=[R]∧c6 R p dp sl L∧mj sl n∧v=.int .i64 (L.most-n)
def zn:Nd:=.and (.e (.le (.lit 0) (.var 0))) (.and (.e (.his 2 (.var 0) (.lit 2) 0 (.int .i64))) (.and (.e (.his 2 (.var 0) (.lit 21) 0 .slice)) (.and (.e (.le (.lit 0) (.hP 2 (.var 0) (.lit 21) 0 2))) (.post [.ro 1 [.hP 2 (.var 0) (.lit 21) 0 0] false,.ro 2 [.var 0] false] (.sv (.one (.int .i64 (.wrap .i64 (.sub (.hI 2 (.var 0) (.lit 2) 0) (.hP 2 (.var 0) (.lit 21) 0 2))))))))))
def H6:cy Tryz.prog [] iN.fn where
 Λ:=aH
 args:=[TP (.var 0) (.lit 0)]
 mem:=nq
 nv:=3
 nd:=zn
 ok:=by kernel_rfl
def iZ:Sx.Spec where
 fn:=54
 own:=[]
 rd:=[0]
 res:=[.agg (mw 16)]
 pre:=fun xs Hs Rs=>∃ p R dp sl L,xs=[p]∧Rs=[R]∧c6 R p dp sl L
 post:=fun xs Hs Rs v Hs' F=>∃ p R dp sl L,xs=[p]∧Rs=[R]∧c6 R p dp sl L∧v=.agg (cn L.note).toArray
def uz:Nd:=.ext (.alloc 3) (.and (.e (.le (.lit 0) (.var 0))) (.and (.e (.hby 2 (.var 0) (.lit 5) (.lit 16))) (.post [.ro 1 [.hP 2 (.var 0) (.lit 21) 0 0] false,.ro 2 [.var 0] false,.dead] (.sv (.agg (bz 2 (.var 0) (.lit 5) 0 (List.replicate 16 (Kd.int .u8))))))))
def Gq:cy Tryz.prog [] iZ.fn where
 Λ:=aH
 args:=[TP (.var 0) (.lit 0)]
 mem:=nq
 nv:=3
 nd:=uz
 ok:=by kernel_rfl
theorem gV.Hg {R:Hl} {a:Nat} {dp sl:Value} {L:LM} (h:gV R a dp sl L):R.cell a 21=some sl:=by
 rw[h.cell]
 unfold iw
 rw[List.getElem?_append_right (by simp),List.getElem?_append_right (by rw[dq,h.1.note];simp)]
 rw[dq,h.1.note];rfl
theorem gV.EX {R:Hl} {a:Nat} {dp sl:Value} {L:LM} (h:gV R a dp sl L):∀ j z,L.note[j]?=some z→R.cell a (5+j)=some (.int .u8 z):=by
 intro j z hz
 rw[h.cell]
 unfold iw
 have hj:=(List.getElem?_eq_some_iff.1 hz).1
 rw[List.getElem?_append_right (by simp),List.getElem?_append_left (by rw[dq];simp;omega),dw]
 rw[show 5+j-_=j from by simp,hz];rfl
theorem nu:iN.OK Tryz.prog:=by
 refine Spec.b8 (Γ:=[]) (fun _ h=>by cases h) ?_
 rintro xs Hs Rs hl1 hl2 ⟨p,R,dp,sl,L,n,rfl,rfl,⟨a,rfl,hL⟩,hs,hn⟩
 have e0:Hs=[]:=List.length_eq_zero_iff.1 hl1
 subst e0
 refine⟨H6,ju a R R,fun _ _=>True,fun _ _=>0,?_,pK a R R _ (by simp) (by simp),(fun _ h=>nomatch h),?_⟩
 ·show [Value.pointer (ar (a:Int) 0)]=_;rw[fc]
 ·show Nd.holds _ _ _ zn
  unfold zn
  simp only[Nd.holds,X.pre,X.rel,X.n,Src.ok,Src.len,Src.bS,true_and,and_true,if_true,Nat.mul_one,Nat.add_zero,Nat.reduceAdd,List.length_cons,List.length_nil,bN,bK,aP,ba,bb,bM,bj,bJ,bI,bD,bd,bk,bL,bg,bf,aQ,bh,ah,ai,aE,aI,aK,ax,aF,aV,aT,au,aO,aC,aN,aB,TV.ev,SV.ev,CV.ev,List.map_cons,List.map_nil,bc.hl]
  have v0:(ju a R R).i 0=a:=rfl
  have w2:(ju a R R).h 2=R:=rfl
  have c2:R.cell a 2=some (.int .i64 L.most):=by rw[hL.cell];rfl
  have c21:=hL.Hg
  obtain⟨x,y,c,hsl,hx,hy⟩:=id hs
  obtain⟨m0,m1⟩:=hL.1.most
  rw[v0,w2,Int.toNat_natCast,show Int.toNat 2=2 from rfl,show Int.toNat 21=21 from rfl,c2,c21,hsl]
  refine⟨by omega,rfl,rfl,by rw[jz hx];omega,fun _=>⟨[],[],rfl,rfl,⟨⟨fun _=>L.most-n,fun _=>false,fun _=>.empty,fun _=>.tuple #[],fun _=>Hl.none⟩,?_,trivial,trivial⟩,_,R,dp,sl,L,n,rfl,rfl,⟨a,rfl,hL⟩,hs,?_⟩⟩
  all_goals
   show Value.int .i64 (IntKind.i64.wrap (fg (R.cell ((a:Int)).toNat 2)-cH (R.cell ((a:Int)).toNat 21) 2))=Value.int .i64 (L.most-n)
   rw[Int.toNat_natCast,c2,c21,hsl]
   rw[jz hx]
   show Value.int .i64 (IntKind.i64.wrap (L.most-(n:Int)))=_
   rw[wrap_i64 (by omega) (by omega)]
theorem sQ:iZ.OK Tryz.prog:=by
 refine Spec.b8 (Γ:=[]) (fun _ h=>by cases h) ?_
 rintro xs Hs Rs hl1 hl2 ⟨p,R,dp,sl,L,rfl,rfl,⟨a,rfl,hL⟩⟩
 have e0:Hs=[]:=List.length_eq_zero_iff.1 hl1
 subst e0
 refine⟨Gq,ju a R R,fun _ _=>True,fun _ _=>0,?_,pK a R R _ (by simp) (by simp),(fun _ h=>nomatch h),?_⟩
 ·show [Value.pointer (ar (a:Int) 0)]=_;rw[fc]
 ·show Nd.holds _ _ _ uz
  unfold uz
  simp only[Nd.holds,X.pre,X.rel,X.n,Src.ok,Src.len,Src.bS,true_and,and_true,if_true,Nat.mul_one,Nat.add_zero,Nat.reduceAdd,List.length_cons,List.length_nil,bN,bK,aP,ba,bb,bM,bj,bJ,bI,bD,bd,bk,bL,bg,bf,aQ,bh,ah,ai,aE,aI,aK,ax,aF,aV,aT,au,aO,aC,aN,aB,TV.ev,SV.ev,CV.ev,List.map_cons,List.map_nil,bc.hl]
  intro q g _
  have v0:q.i 0=a:=g.i 0 (by omega)
  have w2:q.h 2=R:=g.h 2 (by omega)
  have hc:=hL.EX
  rw[v0,w2,Int.toNat_natCast,show Int.toNat 5=5 from rfl,show Int.toNat 16=16 from rfl]
  have er:(bz 2 (E.var 0) (E.lit 5) 0 (List.replicate 16 (Kd.int IntKind.u8))).map (CV.ev q)=cn L.note:=by
   refine fK 16 0 _ hL.1.note fun i z hz=>?_
   rw[ai,ah,v0,w2,Int.toNat_natCast,Nat.zero_add]
   exact hc _ _ hz
  refine⟨by omega,dB hc (by rw[hL.1.note];omega),fun _=>⟨[],[],rfl,rfl,?_,_,R,dp,sl,L,rfl,rfl,⟨a,rfl,hL⟩,?_⟩⟩
  ·obtain⟨c,_,_,ec⟩:=gF (mw 16) 0 (cn L.note) ⟨fun _=>0,fun _=>false,fun _=>.empty,fun _=>.tuple #[],fun _=>Hl.none⟩ (eX 16 _ hL.1.note)
   refine⟨c,?_,eP _ _ _ (by decide),trivial⟩
   show Value.agg (List.map (CV.ev q) _).toArray=Value.agg ((al 0 (mw 16)).map (CV.ev c)).toArray
   rw[er,ec]
  ·show Value.agg (List.map (CV.ev q) _).toArray=_
   rw[er]
def gj:Sx.Spec where
 fn:=47
 own:=[]
 rd:=[0,1021]
 res:=[.one .sl]
 pre:=fun xs Hs Rs=>∃ p R1 R2 dp sl L bs,xs=[p]∧Rs=[R1,R2]∧c6 R1 p dp sl L∧mv R2 sl bs∧bs.length≤1048576
 post:=fun xs Hs Rs v Hs' F=>∃ p R1 R2 dp sl L bs,xs=[p]∧Rs=[R1,R2]∧c6 R1 p dp sl L∧mv R2 sl bs∧dA F 5 v bs
def tS:Nd:=.and (.e (.le (.lit 0) (.var 0))) (.and (.e (.his 2 (.var 0) (.lit 21) 0 .slice)) (.and (.imp (.eq (.hP 2 (.var 0) (.lit 21) 0 0) (.lit (-1))) (.post [.ro 1 [.hP 2 (.var 0) (.lit 21) 0 0] false,.ro 2 [.var 0] false] (.sv (.one (.sl (.lit (-1)) (.lit 0) (.lit 0) (.lit 0)))))) (.imp (.not (.eq (.hP 2 (.var 0) (.lit 21) 0 0) (.lit (-1)))) (.ext (.alloc 3) (.and (.pre (.app 4 5 1 1 (.sl (.var 3) (.lit 0) (.lit 0) (.lit 0)) (.lit 0) (.aS 3 [] 5) (.seg 1 (.hP 2 (.var 0) (.lit 21) 0 0) (.hP 2 (.var 0) (.lit 21) 0 1) (.hP 2 (.var 0) (.lit 21) 0 2)))) (.ext (.app 4 5 1 1 (.sl (.var 3) (.lit 0) (.lit 0) (.lit 0)) (.lit 0) (.aS 3 [] 5) (.seg 1 (.hP 2 (.var 0) (.lit 21) 0 0) (.hP 2 (.var 0) (.lit 21) 0 1) (.hP 2 (.var 0) (.lit 21) 0 2))) (.post [.ro 1 [.hP 2 (.var 0) (.lit 21) 0 0] false,.ro 2 [.var 0] false,.hp 4 [] [.var 4,.var 3] []] (.sv (.one (.sl (.var 4) (.lit 0) (.hP 2 (.var 0) (.lit 21) 0 2) (.var 5)))))))))))
def FV:cy Tryz.prog [] gj.fn where
 Λ:=aH
 args:=[TP (.var 0) (.lit 0)]
 mem:=nq
 nv:=3
 nd:=tS
 ok:=by kernel_rfl
theorem nK:gj.OK Tryz.prog:=by
 refine Spec.b8 (Γ:=[]) (fun _ h=>by cases h) ?_
 rintro xs Hs Rs hl1 hl2 ⟨p,R1,R2,dp,sl,L,bs,rfl,rfl,⟨a,rfl,hL⟩,hB,hn⟩
 have e0:Hs=[]:=List.length_eq_zero_iff.1 hl1
 subst e0
 refine⟨FV,ju a R1 R2,fun _ _=>True,fun _ _=>0,?_,pK a R1 R2 _ (by simp) (by simp),(fun _ h=>nomatch h),?_⟩
 ·show [Value.pointer (ar (a:Int) 0)]=_;rw[fc]
 ·show Nd.holds _ _ _ tS
  unfold tS
  simp only[Nd.holds,X.pre,X.rel,X.n,Src.ok,Src.len,Src.bS,true_and,and_true,if_true,Nat.mul_one,Nat.add_zero,Nat.reduceAdd,List.length_cons,List.length_nil,bN,bK,aP,ba,bb,bM,bj,bJ,bI,bD,bd,bk,bL,bg,bf,aQ,bh,ah,ai,aE,aI,aK,ax,aF,aV,aT,au,aO,aC,aN,aB,TV.ev,SV.ev,CV.ev,List.map_cons,List.map_nil,bc.hl]
  have c21:=hL.Hg
  obtain⟨x,y,c,hsl,hy,hc⟩:=id hB
  have hx:-1≤x:=by rcases hc with ⟨h,_⟩ | ⟨h,_⟩<;>omega
  have w2:(ju a R1 R2).h 2=R1:=rfl
  have v0:(ju a R1 R2).i 0=a:=rfl
  have t0:Int.toNat 0=0:=rfl
  rw[v0,w2,Int.toNat_natCast,show Int.toNat 21=21 from rfl,c21,hsl,r7 hx]
  refine⟨by omega,rfl,fun h=>fun _=>?_,fun h q g p3=>?_⟩
  ·have hbs:bs=[]:=by
    rcases hc with ⟨_,h'⟩ | ⟨h',_⟩
    ·exact h'
    ·omega
   subst hbs
   exact⟨[],[],rfl,rfl,⟨⟨fun k=>[-1,0,0,0].getD k 0,fun _=>false,fun _=>.empty,fun _=>.tuple #[],fun _=>Hl.none⟩,rfl,⟨by show(-1:Int)≤ -1;omega,Int.le_refl _,Int.le_refl _,Int.le_refl _⟩,trivial⟩,_,R1,R2,dp,sl,L,[],rfl,rfl,⟨a,rfl,hL⟩,hB,⟨rfl,Or.inl ⟨rfl,rfl⟩⟩⟩
  ·have hx0:0≤x:=by omega
   have hcell:∀ (j:Nat) (z:Int),bs[j]?=some z→R2.cell x.toNat (y.toNat+j)=some (.int .u8 z):=by
    rcases hc with ⟨h',_⟩ | ⟨_,h'⟩
    ·omega
    ·exact h'
   have hsl':=hsl
   rw[g.i 0 (by omega),v0,g.h 2 (by omega),w2,g.h 1 (by omega),show(ju a R1 R2).h 1=R2 from rfl,Int.toNat_natCast,c21,hsl,r7 hx,xI hx0 hy,jz hx,t0,Int.toNat_natCast]
   have hnil:bR (Hl.one (q.i 3).toNat (.cells #[] 5 (0,0))) 5 1 (.slice (ar (q.i 3) 0) 0 0) 0 []:=⟨rfl,Or.inr ⟨(q.i 3).toNat,0,#[],by rw[aq p3];rfl,Hl.bE _ _,by omega,by decide,rfl,rfl⟩⟩
   refine⟨⟨⟨[],hnil⟩,by omega,Or.inl ⟨hx0,hy,by omega,fun j hj=>?_⟩,by unfold maxLen;omega,by omega⟩,fun q2 g2 ⟨a1,a2,a3,_⟩=>?_⟩
   ·exact⟨_,hcell j _ (List.getElem?_eq_getElem hj),rfl⟩
   ·have hseg:cl R2 x.toNat y.toNat bs.length=cn bs:=by
     unfold cl
     apply List.ext_getElem?
     intro j
     rw[List.getElem?_map,dw]
     rcases Nat.lt_or_ge j bs.length with hj | hj
     ·rw[List.getElem?_range hj,Option.map_some,hcell j _ (List.getElem?_eq_getElem hj),List.getElem?_eq_getElem hj]
      rfl
     ·rw[List.getElem?_eq_none (by simpa using hj),List.getElem?_eq_none (by omega)];rfl
    have hx':=a3 _ hnil
    rw[hseg,List.nil_append,Nat.zero_add]at hx'
    have G2:ae 3 (ju a R1 R2) q2:=g.trans (g2.mono (by omega))
    have ev:(TV.sv (SV.one (CV.sl (.var 4) (.lit 0) (.hP 2 (.var 0) (.lit 21) 0 2) (.var 5)))).ev q2=.slice (ar (q2.i 4) 0) bs.length (q2.i 5).toNat:=by
     show Value.slice (ar (q2.i 4) 0) (ak q2 (.hP 2 (.var 0) (.lit 21) 0 2)).toNat (q2.i 5).toNat=_
     rw[aT,ai,ah,G2.i 0 (by omega),v0,G2.h 2 (by omega),w2,Int.toNat_natCast,show Int.toNat 21+0=21 from rfl,c21,hsl,jz hx,Int.toNat_natCast]
    refine fun _=>⟨[],[2],rfl,rfl,⟨⟨fun k=>[q2.i 4,0,bs.length,q2.i 5].getD k 0,fun _=>false,fun _=>.empty,fun _=>.tuple #[],fun _=>Hl.none⟩,?_,⟨a1,Int.le_refl _,by show(0:Int)≤(bs.length:Int);omega,a2⟩,trivial⟩,_,R1,R2,dp,sl,L,bs,rfl,rfl,⟨a,rfl,hL⟩,hB,?_⟩
    ·rw[ev];show _=Value.slice (ar (q2.i 4) 0) ((bs.length:Int)).toNat (q2.i 5).toNat
     rw[Int.toNat_natCast]
    ·rw[ev]
     show dA (dF [q2.h 4]) _ _ _
     rw[bp]
     exact hx'
end Go.Proofs.YtomdimlnggpgbaaGreatDoor.D
namespace Go.Proofs.YtomdimlnggpgbaaGreatDoor.D
open Go Go.Sx
theorem tC {q:Env} : ∀ (m n:Nat) (l:List Int),l.length=m→(∀ k,k<m→q.i (n+k)=l.getD k 0)→(al n (List.replicate m (Ck.int .u8))).map (CV.ev q)=cn l
 | 0,n,[],_,_=>rfl
 | m+1,n,z::l,hl,h=>by
  rw[List.replicate_succ]
  show CV.ev q (.int .u8 (.var n))::(al (n+1) (List.replicate m (Ck.int .u8))).map (CV.ev q)=Value.int .u8 z::cn l
  rw[tC m (n+1) l (by simpa using hl) fun k hk=>by rw[show n+1+k=n+(k+1)by omega,h (k+1) (by omega)];rfl]
  congr 1
  show Value.int .u8 (q.i n)=_
  have:=h 0 (by omega)
  rw[Nat.add_zero]at this
  rw[this];rfl
 | 0,_,_::_,h,_=>by simp at h
 | _+1,_,[],h,_=>by simp at h
def cQ (L:LM) (all nt:List Int):List Int:=(L.serial+1)::(all.length:Int)::nt
def bt (D:DM) (L:LM) (all nt:List Int) (n:Nat):Int×DM :=
 if(dc D L.frm all n).1≠0 then(5,(dc D L.frm all n).2)
 else if(br (dc D L.frm all n).2 L.frm (cQ L all nt)).1≠0 then(5,(br (dc D L.frm all n).2 L.frm (cQ L all nt)).2)
 else(0,(br (dc D L.frm all n).2 L.frm (cQ L all nt)).2)
def cU (L:LM) (all nt:List Int):LM:=⟨L.frm,L.most,L.serial+1,all.length,nt,L.over⟩
def iL (L:LM):LM:={L with over:=true}
def kY:Sx.Spec where
 fn:=89
 own:=[.arg 0,.arg 1,.link 0 0]
 rd:=[]
 res:=[.one (.int .i64)]
 pre:=fun xs Hs Rs=>∃ p a u all nt H HA HD dp sl L n D,xs=[p,u,.agg (cn nt).toArray,.bool true]∧Hs=[H,HA,HD]∧p=.pointer (some ⟨a,0,none⟩)∧gV H a dp sl L∧mj sl n∧n≤1048576∧dA HA 5 u all∧all.length≤1048576∧nt.length=16∧aj HD dp D∧0≤L.serial∧L.serial<4611686018427387904
 post:=fun xs Hs Rs v Hs' F=>∃ p a u all nt H HA HD dp sl L n D H' HA' HD',xs=[p,u,.agg (cn nt).toArray,.bool true]∧Hs=[H,HA,HD]∧p=.pointer (some ⟨a,0,none⟩)∧gV H a dp sl L∧mj sl n∧dA HA 5 u all∧aj HD dp D∧Hs'=[H',HA',HD']∧aj HD' dp (bt D L all nt n).2∧v=.int .i64 (bt D L all nt n).1 ∧
  ((bt D L all nt n).1=0→bW H' p dp (cU L all nt) all)∧((bt D L all nt n).1≠0→H'=Hl.one a (dM dp sl (iL L)))
def pX:Nd:=.ext (.alloc 61) (.and (.e (.le (.lit 0) (.var 3))) (.ext (.alloc 62) (.and (.imp (.bvar 60) (.and (.e (.le (.lit 0) (.var 45))) (.and (.pre (.call 0 63 [.sv (.one (.hptr (.var 0) (.lit 0))),.sv (.one (.sl (.var 1) (.var 2) (.var 3) (.var 4))),.sv (.one (.int .i64 (.var 45)))] [.hp 49 [] [.var 21] []] [.aS 0 (al 21 ([Ck.ptr,Ck.int .i64,Ck.int .i64,Ck.int .u64,Ck.int .u64]++List.replicate 16 (Ck.int .u8)++[Ck.sl,Ck.bool])) 145,.hp 48 [] [.var 1] []])) (.ext (.call 0 63 [.sv (.one (.hptr (.var 0) (.lit 0))),.sv (.one (.sl (.var 1) (.var 2) (.var 3) (.var 4))),.sv (.one (.int .i64 (.var 45)))] [.hp 49 [] [.var 21] []] [.aS 0 (al 21 ([Ck.ptr,Ck.int .i64,Ck.int .i64,Ck.int .u64,Ck.int .u64]++List.replicate 16 (Ck.int .u8)++[Ck.sl,Ck.bool])) 145,.hp 48 [] [.var 1] []]) (.and (.imp (.eq (.var 63) (.lit 0)) (.and (.pre (.call 1 65 [.sv (.one (.hptr (.var 0) (.lit 0))),.sv (.agg ([.int .u64 (.wrap .u64 (.add (.var 25) (.lit 1))),.int .u64 (.wrap .u64 (.var 3))]++al 5 (List.replicate 16 (Ck.int .u8))))] [.hp 63 [49] [.var 21] []] [.aS 0 (al 21 ([Ck.ptr,Ck.int .i64,Ck.int .i64,Ck.int .u64,Ck.int .u64]++List.replicate 16 (Ck.int .u8)++[Ck.sl,Ck.bool])) 145])) (.ext (.call 1 65 [.sv (.one (.hptr (.var 0) (.lit 0))),.sv (.agg ([.int .u64 (.wrap .u64 (.add (.var 25) (.lit 1))),.int .u64 (.wrap .u64 (.var 3))]++al 5 (List.replicate 16 (Ck.int .u8))))] [.hp 63 [49] [.var 21] []] [.aS 0 (al 21 ([Ck.ptr,Ck.int .i64,Ck.int .i64,Ck.int .u64,Ck.int .u64]++List.replicate 16 (Ck.int .u8)++[Ck.sl,Ck.bool])) 145]) (.and (.imp (.not (.eq (.var 65) (.lit 0))) (.post [.aS 0 (al 21 ([Ck.ptr,Ck.int .i64,Ck.int .i64,Ck.int .u64,Ck.int .u64]++List.replicate 16 (Ck.int .u8)++[Ck.sl])++[.bool .tt]) 145,.hp 48 [] [.var 1] [],.hp 65 [63,49] [.var 21] [],.dead,.dead] (.sv (.one (.int .i64 (.lit 5)))))) (.imp (.eq (.var 65) (.lit 0)) (.post [.aS 0 ([.hptr (.var 21) (.var 22),.int .i64 (.var 23),.int .i64 (.var 24),.int .u64 (.wrap .u64 (.add (.var 25) (.lit 1))),.int .u64 (.wrap .u64 (.var 3))]++al 5 (List.replicate 16 (Ck.int .u8))++[.sl (.var 1) (.var 2) (.var 3) (.var 4),.bool (.bvar 47)]) 145,.hp 48 [] [.var 1] [],.hp 65 [63,49] [.var 21] [],.dead,.dead] (.sv (.one (.int .i64 (.lit 0)))))))))) (.imp (.not (.eq (.var 63) (.lit 0))) (.post [.aS 0 (al 21 ([Ck.ptr,Ck.int .i64,Ck.int .i64,Ck.int .u64,Ck.int .u64]++List.replicate 16 (Ck.int .u8)++[Ck.sl])++[.bool .tt]) 145,.hp 48 [] [.var 1] [],.hp 63 [49] [.var 21] [],.dead,.dead] (.sv (.one (.int .i64 (.lit 5))))))))))) (.imp (.not (.bvar 60)) (.and (.pre (.call 1 63 [.sv (.one (.hptr (.var 0) (.lit 0))),.sv (.agg ([.int .u64 (.wrap .u64 (.add (.var 25) (.lit 1))),.int .u64 (.wrap .u64 (.var 3))]++al 5 (List.replicate 16 (Ck.int .u8))))] [.hp 49 [] [.var 21] []] [.aS 0 (al 21 ([Ck.ptr,Ck.int .i64,Ck.int .i64,Ck.int .u64,Ck.int .u64]++List.replicate 16 (Ck.int .u8)++[Ck.sl,Ck.bool])) 145])) (.ext (.call 1 63 [.sv (.one (.hptr (.var 0) (.lit 0))),.sv (.agg ([.int .u64 (.wrap .u64 (.add (.var 25) (.lit 1))),.int .u64 (.wrap .u64 (.var 3))]++al 5 (List.replicate 16 (Ck.int .u8))))] [.hp 49 [] [.var 21] []] [.aS 0 (al 21 ([Ck.ptr,Ck.int .i64,Ck.int .i64,Ck.int .u64,Ck.int .u64]++List.replicate 16 (Ck.int .u8)++[Ck.sl,Ck.bool])) 145]) (.and (.imp (.not (.eq (.var 63) (.lit 0))) (.post [.aS 0 (al 21 ([Ck.ptr,Ck.int .i64,Ck.int .i64,Ck.int .u64,Ck.int .u64]++List.replicate 16 (Ck.int .u8)++[Ck.sl])++[.bool .tt]) 145,.hp 48 [] [.var 1] [],.hp 63 [49] [.var 21] [],.dead,.dead] (.sv (.one (.int .i64 (.lit 5)))))) (.imp (.eq (.var 63) (.lit 0)) (.post [.aS 0 ([.hptr (.var 21) (.var 22),.int .i64 (.var 23),.int .i64 (.var 24),.int .u64 (.wrap .u64 (.add (.var 25) (.lit 1))),.int .u64 (.wrap .u64 (.var 3))]++al 5 (List.replicate 16 (Ck.int .u8))++[.sl (.var 1) (.var 2) (.var 3) (.var 4),.bool (.bvar 47)]) 145,.hp 48 [] [.var 1] [],.hp 63 [49] [.var 21] [],.dead,.dead] (.sv (.one (.int .i64 (.lit 0)))))))))))))
def kZ:List Sx.Spec:=[sG,po]
theorem xY:∀ t∈kZ,t.OK Tryz.prog:=fun t ht=>by
 simp only[kZ,List.mem_cons,List.mem_nil_iff,or_false]at ht
 rcases ht with rfl | rfl
 ·exact CU
 ·exact xF
def pz:cy Tryz.prog kZ kY.fn where
 Λ:=aH
 args:=[TP (.var 0) (.lit 0),.sv (.one (.sl (.var 1) (.var 2) (.var 3) (.var 4))),.sv (.agg (al 5 (mw 16))),.sv (.one (.bool (.bvar 60)))]
 mem:=[.aS 0 (al 21 js++[.sl (.var 43) (.var 44) (.var 45) (.var 46),.bool (.bvar 47)]) 145,.hp 48 [] [.var 1] [],.hp 49 [] [.var 21] []]
 nv:=61
 nd:=pX
 ok:=by kernel_rfl
theorem Ku:kZ[0]?=some sG:=rfl
theorem Kv:kZ[1]?=some po:=rfl
theorem Kw:sG.res=[.one (.int .i64)]:=rfl
theorem J':po.res=[.one (.int .i64)]:=rfl
def xW (a:Nat) (x:Int) (n c:Nat) (nt:List Int) (da:Nat) (L:LM) (sx sy:Int) (sn sc:Nat) (HA HD:Hl):Env :=
 ⟨fun k=>if k<5 then [(a:Int),x,0,n,c].getD k 0 else if k<21 then nt.getD (k-5) 0 else if k<43 then(dC da L).getD (k-21) 0 else [sx,sy,(sn:Int),(sc:Int)].getD (k-43) 0,fun k=>if k=60 then true else L.over,fun _=>.empty,fun _=>.tuple #[],fun k=>if k=48 then HA else HD⟩
theorem xX:kY.OK Tryz.prog:=by
 refine dZ (Γ:=kZ) xY ?_
 rintro xs Hs Rs hl1 hl2 hdis ⟨p,a,u,all,nt,H,HA,HD,dp,sl,L,n,D,rfl,rfl,rfl,hL,hsl,hn,hO,hall,hnt,hD,hs0,hs1⟩
 have e1:Rs=[]:=List.length_eq_zero_iff.1 hl2
 subst e1
 obtain⟨da,s,m,es,clock,hdp,hDi⟩:=id hD
 obtain⟨x,c,hx,hu,hc,hcell⟩:=dA.rep hO
 obtain⟨sx,sy,sc,hsl',hsx,hsy⟩:=id hsl
 have eB:∀ (q:Env),ae 61 (xW a x all.length c nt da L sx sy n sc HA HD) q→(bc.aS 0 (al 21 js++[.sl (.var 43) (.var 44) (.var 45) (.var 46),.bool (.bvar 47)]) 145).hl q=Hl.one a (dM dp sl L):=by
  intro q g
  have h1:∀ k,k<22→q.i (21+k)=(dC da L).getD k 0:=fun k hk=>by
   rw[g.i _ (by omega)]
   show(if 21+k<5 then _ else if 21+k<21 then _ else if 21+k<43 then(dC da L).getD (21+k-21) 0 else _)=_
   rw[if_neg (by omega),if_neg (by omega),if_pos (by omega),show 21+k-21=k by omega]
  show Hl.one (q.i 0).toNat (.cells ((al 21 js++[CV.sl (.var 43) (.var 44) (.var 45) (.var 46),.bool (.bvar 47)]).map (CV.ev q)).toArray _ (0,0))=_
  rw[List.map_append,ll hL.1 h1,g.i 0 (by omega)]
  have e1:CV.ev q (.sl (.var 43) (.var 44) (.var 45) (.var 46))=sl:=by
   simp only[CV.ev,ai,g.i 43 (by omega),g.i 44 (by omega),g.i 45 (by omega),g.i 46 (by omega)]
   rw[hsl']
   show Value.slice (ar sx sy) ((n:Int)).toNat ((sc:Int)).toNat=_
   rw[Int.toNat_natCast,Int.toNat_natCast]
  have e2:CV.ev q (.bool (.bvar 47))=.bool L.over:=by
   show Value.bool (q.b 47)=_
   rw[g.b 47 (by omega)];rfl
  rw[List.map_cons,List.map_cons,List.map_nil,e1,e2,List.append_assoc,←hdp]
  rfl
 refine⟨pz,xW a x all.length c nt da L sx sy n sc HA HD,fun _ _=>True,fun _ _=>0,?_,⟨?_,?_,?_,?_⟩,(fun _ h=>nomatch h),?_⟩
 ·show [Value.pointer (ar (a:Int) 0),Value.slice (ar x 0) ((all.length:Int)).toNat ((c:Int)).toNat,Value.agg ((al 5 (mw 16)).map (CV.ev _)).toArray,Value.bool true]=_
  unfold mw
  rw[fc,Int.toNat_natCast,Int.toNat_natCast,←hu,tC 16 5 nt hnt fun k hk=>?_]
  show(if 5+k<5 then _ else if 5+k<21 then nt.getD (5+k-5) 0 else _)=_
  rw[if_neg (by omega),if_pos (by omega),show 5+k-5=k by omega]
 ·intro r hr ho
  simp only[pz,List.mem_cons,List.mem_nil_iff,or_false]at hr
  rcases hr with rfl | rfl | rfl
  ·refine⟨H,by simp,?_⟩
   rw[eB _ (ae.refl _ _)]
   intro b o hb
   obtain⟨rfl,rfl⟩:=Hl.jb hb
   exact hL.2
  ·exact⟨HA,by simp,Hl.le_refl _⟩
  ·exact⟨HD,by simp,Hl.le_refl _⟩
 ·intro r hr ho
  simp only[pz,List.mem_cons,List.mem_nil_iff,or_false]at hr
  rcases hr with rfl | rfl | rfl<;>cases ho
 ·have d1:H.ch HA:=hdis 0 1 _ _ (by decide) rfl rfl
  have d2:H.ch HD:=hdis 0 2 _ _ (by decide) rfl rfl
  have d3:HA.ch HD:=hdis 1 2 _ _ (by decide) rfl rfl
  have hm:H.mem a:=by unfold Hl.mem;rw[hL.2];rfl
  refine List.Pairwise.cons (fun r hr _ _=>?_) (List.Pairwise.cons (fun r hr _ _=>?_) (List.Pairwise.cons (fun r hr=>by cases hr) List.Pairwise.nil))
  ·simp only[List.mem_cons,List.mem_nil_iff,or_false]at hr
   rw[eB _ (ae.refl _ _)]
   rcases hr with rfl | rfl
   ·exact Hl.eU.2 fun h=>d1 a ⟨hm,h⟩
   ·exact Hl.eU.2 fun h=>d2 a ⟨hm,h⟩
  ·rw[List.mem_singleton]at hr
   subst hr
   exact d3
 ·intro r hr
  simp only[pz,List.mem_cons,List.mem_nil_iff,or_false]at hr
  rcases hr with rfl | rfl | rfl
  ·show(0:Int)≤(a:Int);omega
  ·trivial
  ·trivial
 ·show Nd.holds _ _ _ pX
  generalize hρ:xW a x all.length c nt da L sx sy n sc HA HD=ρ at eB ⊢
  have v0:ρ.i 0=a:=by rw[←hρ];rfl
  have v1:ρ.i 1=x:=by rw[←hρ];rfl
  have v2:ρ.i 2=0:=by rw[←hρ];rfl
  have v3:ρ.i 3=all.length:=by rw[←hρ];rfl
  have v4:ρ.i 4=c:=by rw[←hρ];rfl
  have v45:ρ.i 45=n:=by rw[←hρ];rfl
  have b60:ρ.b 60=true:=by rw[←hρ];rfl
  have w48:ρ.h 48=HA:=by rw[←hρ];rfl
  have w49:ρ.h 49=HD:=by rw[←hρ];rfl
  have rk:∀ k,k<22→ρ.i (21+k)=(dC da L).getD k 0:=fun k hk=>by
   rw[←hρ]
   show(if 21+k<5 then _ else if 21+k<21 then _ else if 21+k<43 then(dC da L).getD (21+k-21) 0 else _)=_
   rw[if_neg (by omega),if_neg (by omega),if_pos (by omega),show 21+k-21=k by omega]
  have rn:∀ k,k<16→ρ.i (5+k)=nt.getD k 0:=fun k hk=>by
   rw[←hρ]
   show(if 5+k<5 then _ else if 5+k<21 then nt.getD (5+k-5) 0 else _)=_
   rw[if_neg (by omega),if_pos (by omega),show 5+k-5=k by omega]
  unfold pX
  simp only[Nd.holds,X.pre,X.rel,X.n,Src.ok,Src.len,Src.bS,true_and,and_true,if_true,Nat.mul_one,Nat.add_zero,Nat.reduceAdd,List.length_cons,List.length_nil,bN,bK,aP,ba,bb,bM,bj,bJ,bI,bD,bd,bk,bL,bg,bf,aQ,bh,ah,ai,aE,aI,aK,ax,aF,aV,aT,au,aO,aC,aN,aB,TV.ev,SV.ev,CV.ev,List.map_cons,List.map_nil,bc.hl,df,Cp.sv,Ck.cv,ct,Cp.len,Ck.len,aU,bm,bC,Ku,Kv,Kw,J']
  intro q1 g1 _
  rw[g1.i 3 (by omega),v3]
  refine⟨by omega,fun q2 g2 _=>?_⟩
  have G2:ae 61 ρ q2:=g1.trans (g2.mono (by omega))
  rw[G2.b 60 (by omega),b60]
  refine⟨fun _=>?_,fun h=>absurd rfl h⟩
  rw[G2.i 0 (by omega),v0,G2.i 1 (by omega),v1,G2.i 2 (by omega),v2,G2.i 3 (by omega),v3,G2.i 4 (by omega),v4,G2.i 45 (by omega),v45,G2.h 48 (by omega),w48,G2.h 49 (by omega),w49,fc,Int.toNat_natCast,Int.toNat_natCast,←hu]
  have ls:∀ q:Env,ae 61 ρ q→CV.ev q (.sl (.var 43) (.var 44) (.var 45) (.var 46))=sl:=by
   intro q g
   simp only[CV.ev,ai,g.i 43 (by omega),g.i 44 (by omega),g.i 45 (by omega),g.i 46 (by omega)]
   rw[←hρ,hsl']
   show Value.slice (ar sx sy) ((n:Int)).toNat ((sc:Int)).toNat=_
   rw[Int.toNat_natCast,Int.toNat_natCast]
  have lk:∀ q:Env,ae 61 ρ q→∀ k,k<22→q.i (21+k)=(dC da L).getD k 0:=fun q g k hk=>by rw[g.i _ (by omega)];exact rk k hk
  have eB2:∀ q:Env,ae 61 ρ q→Hl.one a (Obj.cells (List.map (CV.ev q) (al 21 ([Ck.ptr,Ck.int IntKind.i64,Ck.int IntKind.i64,Ck.int IntKind.u64,Ck.int IntKind.u64]++List.replicate 16 (Ck.int IntKind.u8)++[Ck.sl,Ck.bool]))).toArray 145 (0,0))=Hl.one a (dM dp sl L):=by
   intro q g
   have h:Hl.one (q.i 0).toNat (Obj.cells (List.map (CV.ev q) (al 21 ([Ck.ptr,Ck.int IntKind.i64,Ck.int IntKind.i64,Ck.int IntKind.u64,Ck.int IntKind.u64]++List.replicate 16 (Ck.int IntKind.u8)++[Ck.sl,Ck.bool]))).toArray 145 (0,0))=Hl.one a (dM dp sl L):=eB q g
   rw[g.i 0 (by omega),v0,Int.toNat_natCast]at h
   exact h
  have eT:∀ q:Env,ae 61 ρ q→(bc.aS 0 (al 21 ([Ck.ptr,Ck.int IntKind.i64,Ck.int IntKind.i64,Ck.int IntKind.u64,Ck.int IntKind.u64]++List.replicate 16 (Ck.int IntKind.u8)++[Ck.sl])++[CV.bool E.tt]) 145).hl q=Hl.one a (dM dp sl (iL L)):=by
   intro q g
   have h:(bc.aS 0 (al 21 ([Ck.ptr,Ck.int IntKind.i64,Ck.int IntKind.i64,Ck.int IntKind.u64,Ck.int IntKind.u64]++List.replicate 16 (Ck.int IntKind.u8)++[Ck.sl])++[CV.bool E.tt]) 145).hl q=Hl.one (q.i 0).toNat (.cells ((al 21 js++[CV.sl (.var 43) (.var 44) (.var 45) (.var 46),.bool .tt]).map (CV.ev q)).toArray 145 (0,0)):=rfl
   rw[h,List.map_append,ll hL.1 (lk q g),g.i 0 (by omega),v0,List.map_cons,List.map_cons,List.map_nil,ls q g,List.append_assoc,←hdp,Int.toNat_natCast]
   rfl
  have eN:∀ q:Env,ae 61 ρ q→(al 5 (List.replicate 16 (Ck.int IntKind.u8))).map (CV.ev q)=cn nt:=fun q g=>tC 16 5 nt hnt fun k hk=>by rw[g.i _ (by omega)];exact rn k hk
  have i23:∀ q:Env,ae 61 ρ q→q.i 21=da∧q.i 22=0∧q.i 23=L.frm∧q.i 24=L.most∧q.i 25=L.serial:=fun q g=>⟨lk q g 0 (by omega),lk q g 1 (by omega),lk q g 2 (by omega),lk q g 3 (by omega),lk q g 4 (by omega)⟩
  have wS:IntKind.u64.wrap (L.serial+1)=L.serial+1:=wrap_u64 (by omega) (by omega)
  have wL:IntKind.u64.wrap (all.length:Int)=all.length:=wrap_u64 (by omega) (by omega)
  have eH:∀ q:Env,ae 61 ρ q→List.map (CV.ev q) ([CV.int IntKind.u64 (E.wrap IntKind.u64 ((E.var 25).add (E.lit 1))),CV.int IntKind.u64 (E.wrap IntKind.u64 (E.var 3))]++al 5 (List.replicate 16 (Ck.int IntKind.u8)))=jf (cQ L all nt):=by
   intro q g
   rw[List.map_append,eN q g]
   show [Value.int .u64 (IntKind.u64.wrap (q.i 25+1)),Value.int .u64 (IntKind.u64.wrap (q.i 3))]++cn nt=_
   rw[(i23 q g).2.2.2.2,g.i 3 (by omega),v3,wS,wL];rfl
  have eG:∀ q:Env,ae 61 ρ q→(bc.aS 0 ([CV.hptr (E.var 21) (E.var 22),CV.int IntKind.i64 (E.var 23),CV.int IntKind.i64 (E.var 24),CV.int IntKind.u64 (E.wrap IntKind.u64 ((E.var 25).add (E.lit 1))),CV.int IntKind.u64 (E.wrap IntKind.u64 (E.var 3))]++al 5 (List.replicate 16 (Ck.int IntKind.u8))++[CV.sl (E.var 1) (E.var 2) (E.var 3) (E.var 4),CV.bool (E.bvar 47)]) 145).hl q=Hl.one a (dM dp u (cU L all nt)):=by
   intro q g
   show Hl.one (q.i 0).toNat (.cells (List.map (CV.ev q) _).toArray _ (0,0))=_
   rw[List.map_append,List.map_append,eN q g]
   obtain⟨j0,j1,j2,j3,j4⟩:=i23 q g
   have eb:q.b 47=L.over:=by rw[g.b 47 (by omega),←hρ];rfl
   show Hl.one (q.i 0).toNat (.cells ([Value.pointer (ar (q.i 21) (q.i 22)),.int .i64 (q.i 23),.int .i64 (q.i 24),.int .u64 (IntKind.u64.wrap (q.i 25+1)),.int .u64 (IntKind.u64.wrap (q.i 3))]++cn nt++[Value.slice (ar (q.i 1) (q.i 2)) (q.i 3).toNat (q.i 4).toNat,.bool (q.b 47)]).toArray _ (0,0))=_
   rw[j0,j1,j2,j3,j4,eb,g.i 0 (by omega),v0,g.i 1 (by omega),v1,g.i 2 (by omega),v2,g.i 3 (by omega),v3,g.i 4 (by omega),v4,wS,wL,fc,←hdp,Int.toNat_natCast,Int.toNat_natCast,Int.toNat_natCast,←hu,List.append_assoc]
   rfl
  have hRd:c6 (Hl.one a (dM dp sl L)) (.pointer (some ⟨a,0,none⟩)) dp sl L:=⟨a,rfl,hL.1,Hl.bE _ _⟩
  have bad:∀ (q:Env) (k:Nat) (vs:List Nat) (t:Mem) (r:Int×DM),ae 61 ρ q→bt D L all nt n=r→r.1=5→aj (q.h k) dp r.2 →
   postOf kY [.pointer (some ⟨a,0,none⟩),u,.agg (cn nt).toArray,.bool true] [H,HA,HD] [] q (.aS 0 (al 21 ([Ck.ptr,Ck.int IntKind.i64,Ck.int IntKind.i64,Ck.int IntKind.u64,Ck.int IntKind.u64]++List.replicate 16 (Ck.int IntKind.u8)++[Ck.sl])++[CV.bool E.tt]) 145::.hp 48 [] [.var 1] []::.hp k vs [.var 21] []::t) (.sv (.one (.int .i64 (.lit 5)))):=by
   intro q k vs t r hq hr h5 hd _
   refine⟨[[0],[1],[2]],[],rfl,rfl,⟨⟨fun _=>5,fun _=>false,fun _=>.empty,fun _=>.tuple #[],fun _=>Hl.none⟩,rfl,trivial,trivial⟩,_,a,u,all,nt,H,HA,HD,dp,sl,L,n,D,_,_,_,rfl,rfl,rfl,hL,hsl,hO,hD,rfl,?_,?_,fun h=>?_,fun _=>?_⟩
   ·show aj (dF [q.h k]) _ _
    rw[bp,hr];exact hd
   ·rw[hr,h5];rfl
   ·rw[hr,h5]at h;cases h
   ·show dF [_]=_
    rw[bp];exact eT q hq
  rw[Int.toNat_natCast,eB2 q2 G2]
  refine⟨by omega,⟨_,u,all,n,HD,_,HA,dp,sl,L,D,rfl,rfl,rfl,hRd,hO,hD,by omega,by omega,by omega⟩,fun q3 g3 ⟨F,⟨p',u',all',fr',Hx,R1,R2,dp',sl',L',Dx,H2,hx,hH,hR,hLx,hOx,hDx,hH2,hD2,hvq⟩,_,_⟩=>?_⟩
  have hx:Value.pointer (some ⟨a,0,none⟩)=p'∧u=u'∧(n:Int)=fr':=by simpa using hx
  obtain⟨rfl,rfl,rfl⟩:=hx
  have hH:HD=Hx:=by simpa using hH
  subst hH
  have hR:Hl.one a (dM dp sl L)=R1∧HA=R2:=by simpa using hR
  obtain⟨rfl,rfl⟩:=hR
  obtain⟨rfl,rfl,rfl⟩:=hRd.uniq hLx
  have e:=hOx.rd.uniq hO.rd
  subst e
  have e:=hDx.uniq hD
  subst e
  have hH2:q3.h 63=H2:=by simpa using hH2
  rw[←hH2]at hD2
  have hvq:q3.i 63=(dc Dx L.frm all' n).1:=by simpa using hvq
  have G3:ae 61 ρ q3:=G2.trans (g3.mono (by omega))
  rw[G3.i 0 (by omega),v0,fc,Int.toNat_natCast,eB2 q3 G3,eH q3 G3]
  have hNH:jF (cQ L all' nt):=⟨by simp [cQ,hnt],⟨by show 0≤L.serial+1;omega,by show L.serial+1<_;omega⟩,by show(0:Int)≤(all'.length:Int);omega,by show(all'.length:Int)<_;omega⟩
  refine⟨fun h63=>⟨⟨_,_,_,_,dp,sl,L,_,rfl,rfl,rfl,hRd,hD2,hNH⟩,fun q4 g4 ⟨F,⟨p',h',Hx,R1,dp',sl',L',Dy,H3,hx,hH,hR,hLy,hDy,hh',hH3,hD3,hvt⟩,_,_⟩=>?_⟩,fun h63=>bad q3 63 _ _ (5,(dc Dx L.frm all' n).2) G3 (by unfold bt;rw[if_pos (by rw[←hvq];exact h63)]) rfl hD2⟩
  have hx:Value.pointer (some ⟨a,0,none⟩)=p'∧Value.agg (jf (cQ L all' nt)).toArray=Value.agg (jf h').toArray:=by simpa using hx
  obtain⟨rfl,hx2⟩:=hx
  have e:=Am hNH.1 hh'.1 hx2
  subst e
  have hH:q3.h 63=Hx:=by simpa using hH
  subst hH
  have hR:Hl.one a (dM dp sl L)=R1:=by simpa using hR
  subst hR
  obtain⟨rfl,rfl,rfl⟩:=hRd.uniq hLy
  have e:=hDy.uniq hD2
  subst e
  have hH3:q4.h 65=H3:=by simpa using hH3
  rw[←hH3]at hD3
  have hvt:q4.i 65=(br (dc Dx L.frm all' n).2 L.frm (cQ L all' nt)).1:=by simpa using hvt
  have G4:ae 61 ρ q4:=G3.trans (g4.mono (by omega))
  have hnb:¬(dc Dx L.frm all' n).1≠0:=by rw[←hvq,h63];simp
  refine⟨fun h65=>bad q4 65 _ _ (5,(br (dc Dx L.frm all' n).2 L.frm (cQ L all' nt)).2) G4 (by unfold bt;rw[if_neg hnb,if_pos (by rw[←hvt];exact h65)]) rfl hD3,fun h65 hd=>?_⟩
  have hr:bt Dx L all' nt n=(0,(br (dc Dx L.frm all' n).2 L.frm (cQ L all' nt)).2):=by
   unfold bt
   rw[if_neg hnb,if_neg (by rw[←hvt,h65];simp)]
  have hd01:=hd 0 1 _ _ (by decide) rfl rfl rfl
  rw[eG q4 G4]at hd01
  refine⟨[[0,1],[],[2]],[],rfl,rfl,⟨⟨fun _=>0,fun _=>false,fun _=>.empty,fun _=>.tuple #[],fun _=>Hl.none⟩,rfl,trivial,trivial⟩,_,a,u,all',nt,H,HA,HD,dp,sl,L,n,Dx,_,_,_,rfl,rfl,rfl,hL,hsl,hO,hD,rfl,?_,?_,fun _=>?_,fun h=>?_⟩
  ·show aj (dF [q4.h 65]) _ _
   rw[bp,hr];exact hD3
  ·rw[hr];rfl
  ·have e48:q4.h 48=HA:=by rw[G4.h 48 (by omega),w48]
   have hd01:(Hl.one a (dM dp u (cU L all' nt))).ch (q4.h 48):=hd01
   rw[e48]at hd01
   refine⟨a,u,HA,rfl,⟨hL.1.frm,hL.1.most,hnt⟩,hO,hd01,?_⟩
   rw[←e48]
   exact congrArg (fun z=>dF [z,q4.h 48]) (eG q4 G4)
  ·rw[hr]at h;exact absurd rfl h
end Go.Proofs.YtomdimlnggpgbaaGreatDoor.D
namespace Go.Proofs.YtomdimlnggpgbaaGreatDoor.D
open Go Go.Sx
structure AR where
 e:Int
 D:DM
 L:LM
 bs:List Int
def av (D:DM) (L:LM) (bs b nt:List Int):AR :=
 if L.over then⟨5,D,L,bs⟩
 else if 4611686018427387904≤L.serial then⟨14,D,L,bs⟩
 else if L.most-bs.length<b.length then⟨4,D,L,bs⟩
 else if(bt D L (bs++b) nt bs.length).1=0 then⟨0,(bt D L (bs++b) nt bs.length).2,cU L (bs++b) nt,bs++b⟩
 else⟨5,(bt D L (bs++b) nt bs.length).2,iL L,bs⟩
theorem tL (D:DM) (L:LM) (all nt:List Int) (n:Nat):(bt D L all nt n).1=0∨(bt D L all nt n).1=5:=by
 unfold bt
 split
 ·exact Or.inr rfl
 ·split
  ·exact Or.inr rfl
  ·exact Or.inl rfl
def gW:Sx.Spec where
 fn:=53
 own:=[.arg 0,.link 0 0]
 rd:=[1]
 res:=[.one (.int .i64)]
 pre:=fun xs Hs Rs=>∃ p u b nt H HD R dp L bs D,xs=[p,u,.agg (cn nt).toArray]∧Hs=[H,HD]∧Rs=[R]∧bW H p dp L bs∧aj HD dp D∧fw R u b∧bs.length≤1048576∧nt.length=16∧0≤L.serial
 post:=fun xs Hs Rs v Hs' F=>∃ p u b nt H HD R dp L bs D H' HD',xs=[p,u,.agg (cn nt).toArray]∧Hs=[H,HD]∧Rs=[R]∧bW H p dp L bs∧aj HD dp D∧fw R u b∧Hs'=[H',HD']∧aj HD' dp (av D L bs b nt).D∧bW H' p dp (av D L bs b nt).L (av D L bs b nt).bs∧v=.int .i64 (av D L bs b nt).e
def pS:Nd:=.ext (.alloc 51) (.and (.imp (.bvar 47) (.post [.aS 0 (al 21 ([Ck.ptr,Ck.int .i64,Ck.int .i64,Ck.int .u64,Ck.int .u64]++List.replicate 16 (Ck.int .u8)++[Ck.sl,Ck.bool])) 145,.hp 48 [] [.var 21] [],.hp 49 [] [.var 43] [],.ro 50 [.var 1] false,.dead] (.sv (.one (.int .i64 (.lit 5)))))) (.imp (.not (.bvar 47)) (.and (.imp (.le (.lit 4611686018427387904) (.var 25)) (.post [.aS 0 (al 21 ([Ck.ptr,Ck.int .i64,Ck.int .i64,Ck.int .u64,Ck.int .u64]++List.replicate 16 (Ck.int .u8)++[Ck.sl,Ck.bool])) 145,.hp 48 [] [.var 21] [],.hp 49 [] [.var 43] [],.ro 50 [.var 1] false,.dead] (.sv (.one (.int .i64 (.lit 14)))))) (.imp (.not (.le (.lit 4611686018427387904) (.var 25))) (.and (.e (.le (.lit 0) (.var 3))) (.and (.pre (.call 0 52 [.sv (.one (.hptr (.var 0) (.lit 0)))] [] [.aS 0 (al 21 ([Ck.ptr,Ck.int .i64,Ck.int .i64,Ck.int .u64,Ck.int .u64]++List.replicate 16 (Ck.int .u8)++[Ck.sl,Ck.bool])) 145])) (.ext (.call 0 52 [.sv (.one (.hptr (.var 0) (.lit 0)))] [] [.aS 0 (al 21 ([Ck.ptr,Ck.int .i64,Ck.int .i64,Ck.int .u64,Ck.int .u64]++List.replicate 16 (Ck.int .u8)++[Ck.sl,Ck.bool])) 145]) (.and (.imp (.lt (.var 52) (.var 3)) (.post [.aS 0 (al 21 ([Ck.ptr,Ck.int .i64,Ck.int .i64,Ck.int .u64,Ck.int .u64]++List.replicate 16 (Ck.int .u8)++[Ck.sl,Ck.bool])) 145,.hp 48 [] [.var 21] [],.hp 49 [] [.var 43] [],.ro 50 [.var 1] false,.dead] (.sv (.one (.int .i64 (.lit 4)))))) (.imp (.not (.lt (.var 52) (.var 3))) (.and (.pre (.call 1 53 [.sv (.one (.hptr (.var 0) (.lit 0)))] [] [.aS 0 (al 21 ([Ck.ptr,Ck.int .i64,Ck.int .i64,Ck.int .u64,Ck.int .u64]++List.replicate 16 (Ck.int .u8)++[Ck.sl,Ck.bool])) 145,.hp 49 [] [.var 43] []])) (.ext (.call 1 53 [.sv (.one (.hptr (.var 0) (.lit 0)))] [] [.aS 0 (al 21 ([Ck.ptr,Ck.int .i64,Ck.int .i64,Ck.int .u64,Ck.int .u64]++List.replicate 16 (Ck.int .u8)++[Ck.sl,Ck.bool])) 145,.hp 49 [] [.var 43] []]) (.and (.pre (.app 57 5 1 1 (.sl (.var 53) (.var 54) (.var 55) (.var 56)) (.var 55) (.hp 53 [] [.var 53] []) (.seg 50 (.var 1) (.var 2) (.var 3)))) (.ext (.app 57 5 1 1 (.sl (.var 53) (.var 54) (.var 55) (.var 56)) (.var 55) (.hp 53 [] [.var 53] []) (.seg 50 (.var 1) (.var 2) (.var 3))) (.and (.pre (.call 2 59 [.sv (.one (.hptr (.var 0) (.lit 0))),.sv (.one (.sl (.var 57) (.lit 0) (.add (.var 55) (.var 3)) (.var 58))),.sv (.agg (al 5 (List.replicate 16 (Ck.int .u8)))),.sv (.one (.bool .tt))] [.aS 0 (al 21 ([Ck.ptr,Ck.int .i64,Ck.int .i64,Ck.int .u64,Ck.int .u64]++List.replicate 16 (Ck.int .u8)++[Ck.sl,Ck.bool])) 145,.hp 57 [53] [.var 57,.var 53] [],.hp 48 [] [.var 21] []] [])) (.ext (.call 2 59 [.sv (.one (.hptr (.var 0) (.lit 0))),.sv (.one (.sl (.var 57) (.lit 0) (.add (.var 55) (.var 3)) (.var 58))),.sv (.agg (al 5 (List.replicate 16 (Ck.int .u8)))),.sv (.one (.bool .tt))] [.aS 0 (al 21 ([Ck.ptr,Ck.int .i64,Ck.int .i64,Ck.int .u64,Ck.int .u64]++List.replicate 16 (Ck.int .u8)++[Ck.sl,Ck.bool])) 145,.hp 57 [53] [.var 57,.var 53] [],.hp 48 [] [.var 21] []] []) (.post [.hp 59 [] [.var 0] [],.hp 61 [48] [.var 21] [],.hp 49 [] [.var 43] [],.ro 50 [.var 1] false,.dead,.hp 60 [57,53] [.var 57,.var 53] []] (.sv (.one (.int .i64 (.var 59))))))))))))))))))))
def jD:List Sx.Spec:=[iN,gj,kY]
theorem xS:∀ t∈jD,t.OK Tryz.prog:=fun t ht=>by
 simp only[jD,List.mem_cons,List.mem_nil_iff,or_false]at ht
 rcases ht with rfl | rfl | rfl
 ·exact nu
 ·exact nK
 ·exact xX
def py:cy Tryz.prog jD gW.fn where
 Λ:=aH
 args:=[TP (.var 0) (.lit 0),.sv (.one (.sl (.var 1) (.var 2) (.var 3) (.var 4))),.sv (.agg (al 5 (mw 16)))]
 mem:=[.aS 0 (al 21 js++[.sl (.var 43) (.var 44) (.var 45) (.var 46),.bool (.bvar 47)]) 145,.hp 48 [] [.var 21] [],.hp 49 [] [.var 43] [],.ro 50 [.var 1] false]
 nv:=51
 nd:=pS
 ok:=by kernel_rfl
theorem Kn:jD[0]?=some iN:=rfl
theorem Ko:jD[1]?=some gj:=rfl
theorem Kp:jD[2]?=some kY:=rfl
theorem Kq:iN.res=[.one (.int .i64)]:=rfl
theorem Kr:gj.res=[.one .sl]:=rfl
theorem Ks:kY.res=[.one (.int .i64)]:=rfl
theorem Km:(bO 0 [Cp.one .sl]≠[])=True:=by simp [bO,Cp.roots,Ck.root]
def FO (a:Nat) (x y:Int) (n c:Nat) (nt:List Int) (da:Nat) (L:LM) (sx:Int) (sn sc:Nat) (HD HB R:Hl):Env :=
 ⟨fun k=>if k<5 then [(a:Int),x,y,n,c].getD k 0 else if k<21 then nt.getD (k-5) 0 else if k<43 then(dC da L).getD (k-21) 0 else [sx,0,(sn:Int),(sc:Int)].getD (k-43) 0,fun _=>L.over,fun _=>.empty,fun _=>.tuple #[],fun k=>if k=48 then HD else if k=49 then HB else R⟩
theorem pT:gW.OK Tryz.prog:=by
 refine dZ (Γ:=jD) xS ?_
 rintro xs Hs Rs hl1 hl2 hdis ⟨p,u,b,nt,H,HD,R,dp,L,bs,D,rfl,rfl,rfl,hAt,hD,hB,hbs,hnt,hs0⟩
 obtain⟨a,sl,HB,rfl,hok,hO,hone,hH⟩:=id hAt
 obtain⟨da,s,m,es,clock,hdp,hDi⟩:=id hD
 obtain⟨x,y,c,hu,hy,hcell⟩:=id hB
 obtain⟨sx,sc,hsx,hsl,hsc,_⟩:=dA.rep hO
 generalize hρ:FO a x y b.length c nt da L sx bs.length sc HD HB R=ρ
 have v0:ρ.i 0=a:=by rw[←hρ];rfl
 have v1:ρ.i 1=x:=by rw[←hρ];rfl
 have v2:ρ.i 2=y:=by rw[←hρ];rfl
 have v3:ρ.i 3=b.length:=by rw[←hρ];rfl
 have v4:ρ.i 4=c:=by rw[←hρ];rfl
 have w48:ρ.h 48=HD:=by rw[←hρ];rfl
 have w49:ρ.h 49=HB:=by rw[←hρ];rfl
 have w50:ρ.h 50=R:=by rw[←hρ];rfl
 have b47:ρ.b 47=L.over:=by rw[←hρ];rfl
 have rk:∀ k,k<22→ρ.i (21+k)=(dC da L).getD k 0:=fun k hk=>by
  rw[←hρ]
  show(if 21+k<5 then _ else if 21+k<21 then _ else if 21+k<43 then(dC da L).getD (21+k-21) 0 else _)=_
  rw[if_neg (by omega),if_neg (by omega),if_pos (by omega),show 21+k-21=k by omega]
 have rn:∀ k,k<16→ρ.i (5+k)=nt.getD k 0:=fun k hk=>by
  rw[←hρ]
  show(if 5+k<5 then _ else if 5+k<21 then nt.getD (5+k-5) 0 else _)=_
  rw[if_neg (by omega),if_pos (by omega),show 5+k-5=k by omega]
 have lk:∀ q:Env,ae 51 ρ q→∀ k,k<22→q.i (21+k)=(dC da L).getD k 0:=fun q g k hk=>by rw[g.i _ (by omega)];exact rk k hk
 have ls:∀ q:Env,ae 51 ρ q→CV.ev q (.sl (.var 43) (.var 44) (.var 45) (.var 46))=sl:=by
  intro q g
  simp only[CV.ev,ai,g.i 43 (by omega),g.i 44 (by omega),g.i 45 (by omega),g.i 46 (by omega)]
  rw[←hρ,hsl]
  show Value.slice (ar sx 0) ((bs.length:Int)).toNat ((sc:Int)).toNat=_
  rw[Int.toNat_natCast,Int.toNat_natCast]
 have eB:∀ (q:Env),ae 51 ρ q→(bc.aS 0 (al 21 js++[.sl (.var 43) (.var 44) (.var 45) (.var 46),.bool (.bvar 47)]) 145).hl q=Hl.one a (dM dp sl L):=by
  intro q g
  show Hl.one (q.i 0).toNat (.cells ((al 21 js++[CV.sl (.var 43) (.var 44) (.var 45) (.var 46),.bool (.bvar 47)]).map (CV.ev q)).toArray _ (0,0))=_
  have e2:CV.ev q (.bool (.bvar 47))=.bool L.over:=by
   show Value.bool (q.b 47)=_
   rw[g.b 47 (by omega),b47]
  rw[List.map_append,ll hok (lk q g),g.i 0 (by omega),v0,List.map_cons,List.map_cons,List.map_nil,ls q g,e2,List.append_assoc,←hdp,Int.toNat_natCast]
  rfl
 have hle1:(Hl.one a (dM dp sl L)).le H:=by rw[hH];exact Hl.e8 _ _
 have hle2:HB.le H:=by
  rw[hH]
  show HB.le ((Hl.one a (dM dp sl L)).un (dF [HB]))
  rw[bp];exact Hl.ga hone
 have hHD:H.ch HD:=hdis 0 1 _ _ (by decide) rfl rfl
 refine⟨py,ρ,fun _ _=>True,fun _ _=>0,?_,⟨?_,?_,?_,?_⟩,(fun _ h=>nomatch h),?_⟩
 ·show [Value.pointer (ar (ρ.i 0) 0),Value.slice (ar (ρ.i 1) (ρ.i 2)) (ρ.i 3).toNat (ρ.i 4).toNat,Value.agg ((al 5 (mw 16)).map (CV.ev ρ)).toArray]=_
  unfold mw
  rw[v0,v1,v2,v3,v4,fc,Int.toNat_natCast,Int.toNat_natCast,←hu,tC 16 5 nt hnt rn]
 ·intro r hr ho
  simp only[py,List.mem_cons,List.mem_nil_iff,or_false]at hr
  rcases hr with rfl | rfl | rfl | rfl
  ·refine⟨H,by simp,?_⟩
   rw[eB ρ (ae.refl _ _)];exact hle1
  ·refine⟨HD,by simp,?_⟩
   show(ρ.h 48).le HD
   rw[w48];exact Hl.le_refl _
  ·refine⟨H,by simp,?_⟩
   show(ρ.h 49).le H
   rw[w49];exact hle2
  ·cases ho
 ·intro r hr ho
  simp only[py,List.mem_cons,List.mem_nil_iff,or_false]at hr
  rcases hr with rfl | rfl | rfl | rfl
  ·cases ho
  ·cases ho
  ·cases ho
  ·refine⟨R,by simp,?_⟩
   show(ρ.h 50).le R
   rw[w50];exact Hl.le_refl _
 ·have d1:HD.ch HB:=fun k ⟨h1,h2⟩=>hHD k ⟨Hl.nR hle2 h2,h1⟩
  refine List.Pairwise.cons (fun r hr _ ho=>?_) (List.Pairwise.cons (fun r hr _ ho=>?_) (List.Pairwise.cons (fun r hr _ ho=>?_) (List.Pairwise.cons (fun r hr=>by cases hr) List.Pairwise.nil)))
  ·simp only[List.mem_cons,List.mem_nil_iff,or_false]at hr
   rw[eB ρ (ae.refl _ _)]
   rcases hr with rfl | rfl | rfl
   ·show Hl.ch _ (ρ.h 48)
    rw[w48]
    exact fun k ⟨h1,h2⟩=>hHD k ⟨Hl.nR hle1 h1,h2⟩
   ·show Hl.ch _ (ρ.h 49)
    rw[w49];exact hone
   ·cases ho
  ·simp only[List.mem_cons,List.mem_nil_iff,or_false]at hr
   rcases hr with rfl | rfl
   ·show(ρ.h 48).ch (ρ.h 49)
    rw[w48,w49];exact d1
   ·cases ho
  ·rw[List.mem_singleton]at hr
   subst hr;cases ho
 ·intro r hr
  simp only[py,List.mem_cons,List.mem_nil_iff,or_false]at hr
  rcases hr with rfl | rfl | rfl | rfl
  ·show(0:Int)≤ρ.i 0
   rw[v0];omega
  ·trivial
  ·trivial
  ·trivial
 ·show Nd.holds _ _ _ pS
  have eB2:∀ q:Env,ae 51 ρ q→Hl.one a (Obj.cells (List.map (CV.ev q) (al 21 ([Ck.ptr,Ck.int IntKind.i64,Ck.int IntKind.i64,Ck.int IntKind.u64,Ck.int IntKind.u64]++List.replicate 16 (Ck.int IntKind.u8)++[Ck.sl,Ck.bool]))).toArray 145 (0,0))=Hl.one a (dM dp sl L):=by
   intro q g
   have h:Hl.one (q.i 0).toNat (Obj.cells (List.map (CV.ev q) (al 21 ([Ck.ptr,Ck.int IntKind.i64,Ck.int IntKind.i64,Ck.int IntKind.u64,Ck.int IntKind.u64]++List.replicate 16 (Ck.int IntKind.u8)++[Ck.sl,Ck.bool]))).toArray 145 (0,0))=Hl.one a (dM dp sl L):=eB q g
   rw[g.i 0 (by omega),v0,Int.toNat_natCast]at h
   exact h
  have eN:∀ q:Env,ae 51 ρ q→(al 5 (List.replicate 16 (Ck.int IntKind.u8))).map (CV.ev q)=cn nt:=fun q g=>tC 16 5 nt hnt fun k hk=>by rw[g.i _ (by omega)];exact rn k hk
  have i25:∀ q:Env,ae 51 ρ q→q.i 25=L.serial:=fun q g=>lk q g 4 (by omega)
  have hIn:gV (Hl.one a (dM dp sl L)) a dp sl L:=⟨hok,Hl.bE _ _⟩
  have hRd:c6 (Hl.one a (dM dp sl L)) (.pointer (some ⟨a,0,none⟩)) dp sl L:=⟨a,rfl,hIn⟩
  have hslO:mj sl bs.length:=dA.mj hO
  obtain⟨m0,m1⟩:=hok.most
  have out:∀ (q:Env) (t:Mem) (e:Int),ae 51 ρ q→av D L bs b nt=⟨e,D,L,bs⟩ →
   postOf gW [.pointer (some ⟨a,0,none⟩),u,.agg (cn nt).toArray] [H,HD] [R] q (.aS 0 (al 21 ([Ck.ptr,Ck.int IntKind.i64,Ck.int IntKind.i64,Ck.int IntKind.u64,Ck.int IntKind.u64]++List.replicate 16 (Ck.int IntKind.u8)++[Ck.sl,Ck.bool])) 145::.hp 48 [] [.var 21] []::.hp 49 [] [.var 43] []::t) (.sv (.one (.int .i64 (.lit e)))):=by
   intro q t e hq hr _
   refine⟨[[0,2],[1]],[],rfl,rfl,⟨⟨fun _=>e,fun _=>false,fun _=>.empty,fun _=>.tuple #[],fun _=>Hl.none⟩,rfl,trivial,trivial⟩,_,u,b,nt,H,HD,R,dp,L,bs,D,_,_,rfl,rfl,rfl,hAt,hD,hB,rfl,?_,?_,?_⟩
   ·show aj (dF [q.h 48]) _ _
    rw[bp,hr,hq.h 48 (by omega),w48];exact hD
   ·rw[hr]
    refine⟨a,sl,HB,rfl,hok,hO,hone,?_⟩
    have e49:q.h 49=HB:=by rw[hq.h 49 (by omega),w49]
    rw[←e49]
    exact congrArg (fun z=>dF [z,q.h 49]) (eB q hq)
   ·rw[hr];rfl
  unfold pS
  simp only[Nd.holds,X.pre,X.rel,X.n,Src.ok,Src.len,Src.bS,true_and,and_true,if_true,Nat.mul_one,Nat.add_zero,Nat.reduceAdd,List.length_cons,List.length_nil,bN,bK,aP,ba,bb,bM,bj,bJ,bI,bD,bd,bk,bL,bg,bf,aQ,bh,ah,ai,aE,aI,aK,ax,aF,aV,aT,au,aO,aC,aN,aB,TV.ev,SV.ev,CV.ev,List.map_cons,List.map_nil,bc.hl,df,Cp.sv,Ck.cv,ct,Cp.len,Ck.len,aU,bm,bC,Kn,Ko,Kp,Kq,Kr,Ks,Km]
  intro q1 g1 _
  rw[g1.b 47 (by omega),b47,i25 q1 g1,g1.i 3 (by omega),v3,g1.i 0 (by omega),v0,fc,Int.toNat_natCast,eB2 q1 g1]
  refine⟨fun ho=>out q1 _ 5 g1 ?_,fun ho=>⟨fun hs=>out q1 _ 14 g1 ?_,fun hs=>⟨by omega,⟨_,_,dp,sl,L,bs.length,rfl,rfl,hRd,hslO,hbs⟩,fun q2 g2 ⟨F,⟨p',R',dp',sl',L',n',hx,hR,hLx,hsx',hvq⟩,_,_⟩=>?_⟩⟩⟩
  ·unfold av;rw[if_pos ho]
  ·unfold av;rw[if_neg ho,if_pos hs]
  have hx:Value.pointer (some ⟨a,0,none⟩)=p':=by simpa using hx
  subst hx
  have hR:Hl.one a (dM dp sl L)=R':=by simpa using hR
  subst hR
  obtain⟨rfl,rfl,rfl⟩:=hRd.uniq hLx
  have e:=hsx'.uniq hslO
  subst e
  have hvq:q2.i 52=L.most-bs.length:=by simpa using hvq
  have G2:ae 51 ρ q2:=g1.trans (g2.mono (by omega))
  rw[hvq,G2.i 3 (by omega),v3]
  refine⟨fun hlt=>out q2 _ 4 G2 ?_,fun hlt=>?_⟩
  ·unfold av;rw[if_neg ho,if_neg hs,if_pos hlt]
  rw[G2.i 0 (by omega),v0,fc,Int.toNat_natCast,eB2 q2 G2,G2.h 49 (by omega),w49]
  refine⟨⟨_,_,_,dp,sl,L,bs,rfl,rfl,hRd,hO.rd,hbs⟩,fun q3 g3 ⟨F,⟨p',R1,R2,dp',sl',L',bs',hx,hR,hLx,hBx,hO3⟩,hF,hn3⟩=>?_⟩
  have hx:Value.pointer (some ⟨a,0,none⟩)=p':=by simpa using hx
  subst hx
  have hR:Hl.one a (dM dp sl L)=R1∧HB=R2:=by simpa using hR
  obtain⟨rfl,rfl⟩:=hR
  obtain⟨rfl,rfl,rfl⟩:=hRd.uniq hLx
  have e:=hBx.uniq hO.rd
  subst e
  have hF:=hF trivial
  subst hF
  obtain⟨⟨n53,n54,n55,n56⟩,_⟩:=hn3
  have n54:0≤q3.i 54:=n54
  have n55:0≤q3.i 55:=n55
  obtain⟨e55,_⟩:=hO3.rd.at n53 n54 n55
  have G3:ae 51 ρ q3:=G2.trans (g3.mono (by omega))
  rw[G3.i 1 (by omega),v1,G3.i 2 (by omega),v2,G3.i 3 (by omega),v3,G3.h 50 (by omega),w50,e55]
  rw[e55]at hO3
  have hO3':bR (q3.h 53) 5 1 (.slice (ar (q3.i 53) (q3.i 54)) ((bs'.length:Int)).toNat (q3.i 56).toNat) ((bs'.length:Int)).toNat (cn bs'):=by
   unfold dA at hO3
   rw[Int.toNat_natCast]at hO3 ⊢
   exact hO3
  have hsum:(bs'.length:Int)+b.length≤1048576:=by omega
  refine⟨⟨⟨_,hO3'⟩,by omega,?_,by unfold maxLen;omega,by omega⟩,fun q4 g4 ⟨a1,a2,a3,_⟩=>?_⟩
  ·rcases hcell with hb | ⟨hx0,hcell⟩
   ·subst hb;exact Or.inr rfl
   ·refine Or.inl ⟨hx0,hy,by omega,fun j hj=>?_⟩
    have hj:j<b.length:=by omega
    exact⟨_,hcell j _ (List.getElem?_eq_getElem hj),rfl⟩
  have hseg:cl R x.toNat y.toNat ((b.length:Int)).toNat=cn b:=by
   rw[Int.toNat_natCast]
   unfold cl
   apply List.ext_getElem?
   intro j
   rw[List.getElem?_map,dw]
   rcases Nat.lt_or_ge j b.length with hj | hj
   ·rcases hcell with hb | ⟨hx0,hcell⟩
    ·subst hb;cases hj
    ·rw[List.getElem?_range hj,Option.map_some,hcell j _ (List.getElem?_eq_getElem hj),List.getElem?_eq_getElem hj]
     rfl
   ·rw[List.getElem?_eq_none (by simpa using hj),List.getElem?_eq_none (by omega)];rfl
  have hx4:=a3 _ hO3'
  rw[hseg]at hx4
  have G4:ae 51 ρ q4:=G3.trans (g4.mono (by omega))
  have x55:q4.i 55=bs'.length:=by rw[g4.i 55 (by omega),e55]
  have hO4:dA (q4.h 57) 5 (.slice (ar (q4.i 57) 0) ((bs'.length:Int)+b.length).toNat (q4.i 58).toNat) (bs'++b):=by
   unfold dA
   rw[ft,List.length_append]
   rw[show((bs'.length:Int)+b.length).toNat=bs'.length+b.length by omega]
   rw[Int.toNat_natCast,Int.toNat_natCast]at hx4
   exact hx4
  rw[G4.i 0 (by omega),v0,fc,Int.toNat_natCast,eB2 q4 G4,eN q4 G4,x55,G4.i 3 (by omega),v3,G4.h 48 (by omega),w48]
  refine⟨⟨_,a,_,bs'++b,nt,_,_,HD,dp,sl,L,bs'.length,D,rfl,rfl,rfl,hIn,hslO,hbs,hO4,by rw[List.length_append];omega,hnt,hD,hs0,by omega⟩,fun q5 g5 ⟨F,⟨p',a',u',all',nt',H1,HA,HDx,dp',sl',L',n',D',H',HA',HD',hx,hH,hp,hLx,hsx',hOx,hDx,hHs,hDy,hvb,hok0,hbad⟩,_,_⟩=>?_⟩
  have hx:Value.pointer (some ⟨a,0,none⟩)=p'∧Value.slice (ar (q4.i 57) 0) ((bs'.length:Int)+b.length).toNat (q4.i 58).toNat=u'∧cn nt=cn nt'∧bo q4 E.tt=true:=by simpa using hx
  obtain⟨hx1,hx2,hx3,_⟩:=hx
  have hx3:=mF hx3
  subst hx1 hx2 hx3
  have hH:Hl.one a (dM dp sl L)=H1∧q4.h 57=HA∧HD=HDx:=by simpa using hH
  obtain⟨hH1,hH2,hH3⟩:=hH
  subst hH1 hH2 hH3
  have hp:a=a':=by simpa using hp
  subst hp
  obtain⟨rfl,rfl,rfl⟩:=c6.uniq hRd ⟨a,rfl,hLx⟩
  have e:=hsx'.uniq hslO
  subst e
  have e:=hOx.rd.uniq hO4.rd
  subst e
  have e:=hDx.uniq hD
  subst e
  have hHs:q5.h 59=H'∧q5.h 60=HA'∧q5.h 61=HD':=by
   have h1:[q5.h 59,q5.h 60,q5.h 61]=[H',HA',HD']:=hHs
   simpa using h1
  obtain⟨h59,h60,h61⟩:=hHs
  have hvb:q5.i 59=(bt D' L (bs'++b) nt bs'.length).1:=by simpa using hvb
  have G5:ae 51 ρ q5:=G4.trans (g5.mono (by omega))
  have e49:q5.h 49=HB:=by rw[G5.h 49 (by omega),w49]
  intro hd
  by_cases hz:(bt D' L (bs'++b) nt bs'.length).1=0
  ·have hr:av D' L bs' b nt=⟨0,(bt D' L (bs'++b) nt bs'.length).2,cU L (bs'++b) nt,bs'++b⟩:=by
    unfold av
    rw[if_neg ho,if_neg hs,if_neg hlt,if_pos hz]
   refine⟨[[0],[1]],[],rfl,rfl,⟨⟨fun _=>q5.i 59,fun _=>false,fun _=>.empty,fun _=>.tuple #[],fun _=>Hl.none⟩,rfl,trivial,trivial⟩,_,u,b,nt,H,HD,R,dp,L,bs',D',_,_,rfl,rfl,rfl,hAt,hD,hB,rfl,?_,?_,?_⟩
   ·show aj (dF [q5.h 61]) _ _
    rw[bp,hr,h61];exact hDy
   ·show bW (dF [q5.h 59]) _ _ _ _
    rw[bp,hr,h59];exact hok0 hz
   ·show Value.int .i64 (q5.i 59)=_
    rw[hr,hvb,hz]
  ·have h5:=(tL D' L (bs'++b) nt bs'.length).resolve_left hz
   have hr:av D' L bs' b nt=⟨5,(bt D' L (bs'++b) nt bs'.length).2,iL L,bs'⟩:=by
    unfold av
    rw[if_neg ho,if_neg hs,if_neg hlt,if_neg hz]
   have hd02:(q5.h 59).ch (q5.h 49):=hd 0 2 _ _ (by decide) rfl rfl rfl
   have hH':=hbad hz
   rw[h59,hH',e49]at hd02
   refine⟨[[0,2],[1]],[],rfl,rfl,⟨⟨fun _=>q5.i 59,fun _=>false,fun _=>.empty,fun _=>.tuple #[],fun _=>Hl.none⟩,rfl,trivial,trivial⟩,_,u,b,nt,H,HD,R,dp,L,bs',D',_,_,rfl,rfl,rfl,hAt,hD,hB,rfl,?_,?_,?_⟩
   ·show aj (dF [q5.h 61]) _ _
    rw[bp,hr,h61];exact hDy
   ·rw[hr]
    refine⟨a,sl,HB,rfl,⟨hok.frm,hok.most,hok.note⟩,hO,hd02,?_⟩
    show dF [q5.h 59,q5.h 49]=_
    rw[h59,hH',e49]
   ·show Value.int .i64 (q5.i 59)=_
    rw[hr,hvb,h5]
end Go.Proofs.YtomdimlnggpgbaaGreatDoor.D
namespace Go.Proofs.YtomdimlnggpgbaaGreatDoor.D
open Go Go.Sx
structure gG (D:DM):Prop where
 ok:D.ok
 fuse:D.fuse= -1
 gone:D.gone=false
theorem gu {D:DM} (h:gG D) {i:Int} (hi:D.has i=true) {bs:List Int} (hb:bs.length=64):gG (gf D i bs):=⟨pJ h.ok hi hb,by show(if 0<D.fuse then D.fuse-1 else D.fuse)= -1;rw[h.fuse];rfl,rfl⟩
theorem eE {D:DM} (h:gG D) {i:Int} (hi:D.has i=true) {bs:List Int} (hb:bs.length=64):bV D i bs=(0,gf D i bs):=by
 unfold bV
 rw[if_neg (by rw[hi,hb];simp),if_neg (by rw[h.gone];simp),if_neg (by rw[h.fuse];decide)]
theorem dt {D:DM} (h:gG D):(aX D).1=0∧gG (aX D).2∧(aX D).2.now=D.now∧(aX D).2.n=D.n:=by
 have e:aX D=(0,⟨D.n,D.now,[],if 0<D.fuse then D.fuse-1 else D.fuse,D.gone⟩):=by
  unfold aX
  rw[if_neg (by rw[h.gone];simp),if_neg (by rw[h.fuse];decide)]
 rw[e]
 refine⟨rfl,⟨⟨h.ok.now,h.ok.n,?_,?_,fun p hp=>by cases hp⟩,?_,h.gone⟩,rfl,rfl⟩
 ·show -1≤(if 0<D.fuse then D.fuse-1 else D.fuse);rw[h.fuse];decide
 ·show(if 0<D.fuse then D.fuse-1 else D.fuse)≤_;rw[h.fuse];decide
 ·show(if 0<D.fuse then D.fuse-1 else D.fuse)= -1;rw[h.fuse];rfl
theorem fU {D:DM} (h:D.ok) {i:Int} (hi:D.has i=true) {bs:List Int} (hb:bs.length=64) (j:Nat):(gf D i bs).now[j]?=if 64*i.toNat≤j∧j<64*i.toNat+64 then bs[j-64*i.toNat]? else D.now[j]?:=by
 have hh:0≤i∧i<D.n:=by unfold DM.has at hi;simpa using hi
 show(bG D.now (64*i.toNat) bs)[j]?=_
 rw[Sx.iB (by rw[h.now,hb];omega),hb]
theorem cK (all:List Int) (i:Nat):(fW all i).length=64:=by simp [fW]
theorem rE (all:List Int) (i j:Nat) (h:j<64) (hj:64*i+j<all.length):(fW all i)[j]?=all[64*i+j]?:=by
 unfold fW
 rw[List.getElem?_map,List.getElem?_range h,Option.map_some,List.getElem?_eq_getElem hj,Option.getD_some]
theorem km (frm:Nat) (all:List Int):∀ (f i:Nat) (D:DM),gG D→all.length+1≤f+i→all.length+64*(frm+2)≤64*D.n →
 (bH frm all f i D).1=0∧gG (bH frm all f i D).2∧(bH frm all f i D).2.n=D.n∧(∀ j,j<64*(frm+2+i)→(bH frm all f i D).2.now[j]?=D.now[j]?)∧(∀ t,64*i≤t→t<all.length→(bH frm all f i D).2.now[64*(frm+2)+t]?=all[t]?):=by
 intro f
 induction f with
 | zero =>
  intro i D h h1 h2
  obtain⟨a,b,c,d⟩:=dt h
  show(aX D).1=0∧_
  refine⟨a,b,d,fun j _=>?_,fun t ht ht'=>by omega⟩
  show(aX D).2.now[j]?=_
  rw[c]
 | succ f ih =>
  intro i D h h1 h2
  have ec:(frm:Int)+2+i=((frm+2+i:Nat):Int):=by omega
  by_cases hlt:64*i<all.length
  ·have hi:D.has ((frm:Int)+2+i)=true:=by unfold DM.has;simp only[decide_eq_true_eq];omega
   have hw:=eE h hi (cK all i)
   have e:bH frm all (f+1) i D=bH frm all f (i+1) (gf D ((frm:Int)+2+i) (fW all i)):=by
    show(if 64*i<all.length then _ else _)=_
    rw[if_pos hlt,hw];simp
   rw[e]
   have hS:=gu h hi (cK all i)
   obtain⟨a,b,c,d,g⟩:=ih (i+1) _ hS (by omega) h2
   have gp:=fU h.ok hi (cK all i)
   refine⟨a,b,c,fun j hj=>?_,fun t ht ht'=>?_⟩
   ·rw[d j (by omega),gp,ec,Int.toNat_natCast,if_neg (by omega)]
   ·rcases Nat.lt_or_ge t (64*(i+1))with h3 | h3
    ·rw[d _ (by omega),gp,ec,Int.toNat_natCast,if_pos (by omega),rE all i _ (by omega) (by omega)]
     congr 1;omega
    ·exact g t h3 ht'
  ·have e:bH frm all (f+1) i D=aX D:=by
    show(if 64*i<all.length then _ else _)=_
    rw[if_neg hlt]
   rw[e]
   obtain⟨a,b,c,d⟩:=dt h
   exact⟨a,b,d,fun j _=>by rw[c],fun t ht ht'=>by omega⟩
structure Holds (D:DM) (frm:Nat) (n:Int) (k:Nat) (all nt:List Int):Prop where
 sure:gG D
 rng:3≤n∧(frm:Int)+n≤D.n
 len:(all.length:Int)≤64*(n-2)
 note:nt.length=16
 cur:aM D frm (64*(n-2)) ((k%2:Nat):Int)=((k:Int)::(all.length:Int)::nt,0)
 oth:(aM D frm (64*(n-2)) (((k+1)%2:Nat):Int)).1.getD 0 0<k∨(k=0∧(aM D frm (64*(n-2)) 1).1.getD 0 0=0)
 bytes:∀ t z,all[t]?=some z→D.now[64*(frm+2)+t]?=some z
theorem Holds.fI {D:DM} {frm:Nat} {n:Int} {k:Nat} {all nt:List Int} (h:Holds D frm n k all nt):fI D frm n=0:=by
 obtain⟨h1,h2⟩:=h.rng
 unfold Go.Proofs.YtomdimlnggpgbaaGreatDoor.D.fI
 rw[if_neg (by omega),h.sure.gone];rfl
theorem Holds.bQ {D:DM} {frm:Nat} {n:Int} {k:Nat} {all nt:List Int} (h:Holds D frm n k all nt):bQ D frm n=(k:Int)::(all.length:Int)::nt:=by
 have hc:=h.cur
 have ho:=h.oth
 unfold Go.Proofs.YtomdimlnggpgbaaGreatDoor.D.bQ
 rcases Nat.mod_two_eq_zero_or_one k with e | e
 ·have e':(k+1)%2=1:=by omega
  rw[e]at hc
  rw[e']at ho
  have hc:aM D frm (64*(n-2)) 0=_:=hc
  rw[hc]
  show(if(k:Int)<_ then _ else _)=_
  rw[if_neg]
  rcases ho with ho | ⟨hk,ho⟩
  ·have ho:(aM D frm (64*(n-2)) 1).1.getD 0 0<k:=ho
   omega
  ·rw[ho];omega
 ·have e':(k+1)%2=0:=by omega
  rw[e]at hc
  rw[e']at ho
  have hc:aM D frm (64*(n-2)) 1=_:=hc
  rw[hc]
  show(if _<(k:Int)then _ else _)=_
  rw[if_pos]
  rcases ho with ho | ⟨hk,ho⟩
  ·exact ho
  ·omega
theorem Holds.an {D:DM} {frm:Nat} {n:Int} {k:Nat} {all nt:List Int} (h:Holds D frm n k all nt):an D frm n=⟨frm,64*(n-2),k,all.length,nt,false⟩:=by
 unfold Go.Proofs.YtomdimlnggpgbaaGreatDoor.D.an ko
 rw[h.bQ];rfl
theorem Holds.aA {D:DM} {frm:Nat} {n:Int} {k:Nat} {all nt:List Int} (h:Holds D frm n k all nt):aA D frm n=all:=by
 obtain⟨h1,h2⟩:=h.rng
 have hl:=h.len
 unfold Go.Proofs.YtomdimlnggpgbaaGreatDoor.D.aA eJ
 rw[h.an]
 show(D.now.drop (64*((frm:Int)+2).toNat)).take ((all.length:Int)).toNat=all
 rw[show((frm:Int)+2).toNat=frm+2 by omega,Int.toNat_natCast]
 apply List.ext_getElem?
 intro j
 rw[List.getElem?_take]
 split
 ·rename_i hj
  rw[List.getElem?_drop,h.bytes j _ (List.getElem?_eq_getElem hj),List.getElem?_eq_getElem hj]
 ·rw[List.getElem?_eq_none (by omega)]
theorem b5 {D:DM} (h:gG D) {frm most place:Int} (hi:D.has (frm+place)=true):aM D frm most place=if m5 (D.aJ (frm+place)) most place then(oK ((D.aJ (frm+place)).take 32),0)else(fa,0):=by
 unfold aM
 rw[xg hi h.gone]
 simp
theorem jJ {D D':DM} (h:gG D) (h':gG D') (hn:D'.n=D.n) {frm most place:Int} (hi:D.has (frm+place)=true) (hs:D'.aJ (frm+place)=D.aJ (frm+place)):aM D' frm most place=aM D frm most place:=by
 have hi':D'.has (frm+place)=true:=by unfold DM.has at hi ⊢;rw[hn];exact hi
 rw[b5 h hi,b5 h' hi',hs]
theorem di {D D':DM} {i:Int} (h:∀ j,64*i.toNat≤j→j<64*i.toNat+64→D'.now[j]?=D.now[j]?):D'.aJ i=D.aJ i:=by
 unfold DM.aJ
 apply List.ext_getElem?
 intro j
 rw[List.getElem?_take,List.getElem?_take]
 split
 ·rw[List.getElem?_drop,List.getElem?_drop]
  exact h _ (by omega) (by omega)
 ·rfl
theorem dU (x:Int):(nG x).length=8:=rfl
theorem ig {a b:Int} {nt:List Int} (ha:0≤a∧a<18446744073709551616) (hb:0≤b∧b<18446744073709551616) (hn:nt.length=16) :
 (aG (a::b::nt)).length=32∧oK (aG (a::b::nt))=a::b::nt∧cY ((aG (a::b::nt)).take 8)=a∧cY (((aG (a::b::nt)).drop 8).take 8)=b:=by
 have e:aG (a::b::nt)=nG a++nG b++nt:=by
  unfold aG
  show nG a++nG b++nt.take 16=_
  rw[List.take_of_length_le (by omega)]
 have h1:((nG a++nG b++nt).take 8)=nG a:=by rw[List.append_assoc,List.take_append_of_le_length (by rw[dU];omega),List.take_of_length_le (by rw[dU];omega)]
 have h2:((nG a++nG b++nt).drop 8)=nG b++nt:=by rw[List.append_assoc,List.drop_left' (dU a)]
 have h3:(((nG a++nG b++nt).drop 8).take 8)=nG b:=by rw[h2,List.take_append_of_le_length (by rw[dU];omega),List.take_of_length_le (by rw[dU];omega)]
 have h4:((nG a++nG b++nt).drop 16).take 16=nt:=by
  rw[List.drop_left' (by rw[List.length_append,dU,dU]),List.take_of_length_le (by omega)]
 rw[e]
 refine⟨by simp [dU,hn],?_,?_,?_⟩
 ·unfold oK
  rw[h1,h3,h4,mE ha.1 ha.2,mE hb.1 hb.2];rfl
 ·rw[h1,mE ha.1 ha.2]
 ·rw[h3,mE hb.1 hb.2]
theorem Holds.append {D:DM} {frm:Nat} {n:Int} {k:Nat} {all nt:List Int} (h:Holds D frm n k all nt) {b nt':List Int} (hb:(all.length:Int)+b.length≤64*(n-2)) (hk:k<1000000) (hn':nt'.length=16) :
 (av D ⟨frm,64*(n-2),k,all.length,nt,false⟩ all b nt').e=0∧Holds (av D ⟨frm,64*(n-2),k,all.length,nt,false⟩ all b nt').D frm n (k+1) (all++b) nt' ∧
 (av D ⟨frm,64*(n-2),k,all.length,nt,false⟩ all b nt').bs=all++b∧(av D ⟨frm,64*(n-2),k,all.length,nt,false⟩ all b nt').L=⟨frm,64*(n-2),(k+1:Nat),(all++b).length,nt',false⟩:=by
 obtain⟨r1,r2⟩:=h.rng
 have hDn:=h.sure.ok.n
 have hal:(all++b).length=all.length+b.length:=List.length_append
 obtain⟨L,hL⟩:∃ L:LM,L=⟨frm,64*(n-2),k,all.length,nt,false⟩:=⟨_,rfl⟩
 rw[←hL]
 have f1:L.frm=frm:=by rw[hL]
 have f2:L.most=64*(n-2):=by rw[hL]
 have f3:L.serial=k:=by rw[hL]
 have f4:L.over=false:=by rw[hL]
 obtain⟨F,hF⟩:∃ F,F=(dc D L.frm (all++b) all.length).2:=⟨_,rfl⟩
 obtain⟨a1,a2,a3,a4,a5⟩:=km frm (all++b) ((all++b).length+1) (all.length/64) D h.sure (by omega) (by omega)
 have efr:dc D L.frm (all++b) all.length=bH frm (all++b) ((all++b).length+1) (all.length/64) D:=by
  unfold dc
  rw[f1,show(((all.length:Nat):Int)/64).toNat=all.length/64 by omega]
 rw[←efr]at a1 a2 a3 a4 a5
 rw[←hF]at a2 a3 a4 a5
 obtain⟨N,hN⟩:∃ N,N=cQ L (all++b) nt':=⟨_,rfl⟩
 have eN:N=((k+1:Nat):Int)::((all++b).length:Int)::nt':=by
  rw[hN];unfold cQ;rw[f3];rfl
 have hp:((k+1:Nat):Int).tmod 2=(((k+1)%2:Nat):Int):=by
  rw[Int.tmod_eq_emod_of_nonneg (by omega)];omega
 obtain⟨p,hpp⟩:∃ p,p=(k+1)%2:=⟨_,rfl⟩
 have hp2:p<2:=by omega
 obtain⟨b1,b2,b3,b4⟩:=ig (a:=((k+1:Nat):Int)) (b:=((all++b).length:Int)) (nt:=nt') ⟨by omega,by omega⟩ ⟨by omega,by omega⟩ hn'
 rw[←eN]at b1 b2 b3 b4
 have hhl:(aG N++aG N).length=64:=by rw[List.length_append,b1]
 have ei:∀ q:Nat,(frm:Int)+((q:Nat):Int)=((frm+q:Nat):Int):=fun q=>by omega
 have hasF:∀ q:Nat,q<2→F.has ((frm:Int)+(q:Int))=true:=fun q hq=>by unfold DM.has;rw[a3];simp only[decide_eq_true_eq];omega
 have hasD:∀ q:Nat,q<2→D.has ((frm:Int)+(q:Int))=true:=fun q hq=>by unfold DM.has;simp only[decide_eq_true_eq];omega
 have hw:=eE a2 (hasF p hp2) hhl
 obtain⟨G,hG⟩:∃ G,G=gf F ((frm:Int)+(p:Int)) (aG N++aG N):=⟨_,rfl⟩
 rw[←hG]at hw
 have hGs:gG G:=by rw[hG];exact gu a2 (hasF p hp2) hhl
 have hGn:G.n=D.n:=by rw[hG,←a3];rfl
 have hGg:=fU a2.ok (hasF p hp2) hhl
 rw[←hG,ei p,Int.toNat_natCast]at hGg
 obtain⟨s1,s2,s3,s4⟩:=dt hGs
 have htn:br F L.frm N=aX G:=by
  unfold br
  have e0:N.getD 0 0=((k+1:Nat):Int):=by rw[eN];rfl
  rw[f1,e0,hp,←hpp,hw];simp
 have hbec:bt D L (all++b) nt' all.length=(0,(aX G).2):=by
  unfold bt
  rw[if_neg (by rw[a1];simp),←hF,←hN,htn,if_neg (by rw[s1];simp)]
 have happ:av D L all b nt'=⟨0,(aX G).2,cU L (all++b) nt',all++b⟩:=by
  unfold av
  rw[f4,f3,f2,if_neg (by simp),if_neg (by omega),if_neg (by omega),hbec];rfl
 rw[happ]
 refine⟨rfl,⟨s2,⟨r1,by show(frm:Int)+n≤((aX G).2.n:Int);rw[s4,hGn];exact r2⟩,by rw[hal];omega,hn',?_,Or.inl ?_,?_⟩,rfl,by unfold cU;rw[f1,f2,f3,f4];rfl⟩
 ·rw[←hpp]
  have hi:(aX G).2.has ((frm:Int)+(p:Int))=true:=by unfold DM.has;rw[s4,hGn];exact hasD p hp2
  have hsec:(aX G).2.aJ ((frm:Int)+(p:Int))=aG N++aG N:=by
   unfold DM.aJ
   rw[s3,ei p,Int.toNat_natCast]
   apply List.ext_getElem?
   intro j
   rw[List.getElem?_take]
   split
   ·rename_i hj
    rw[List.getElem?_drop,hGg,if_pos (by omega)]
    congr 1;omega
   ·rw[List.getElem?_eq_none (by omega)]
  show aM (aX G).2 frm (64*(n-2)) (p:Int)=_
  rw[b5 s2 hi,hsec]
  have ht:(aG N++aG N).take 32=aG N:=by rw[List.take_left' b1]
  have hdr:(aG N++aG N).drop 32=aG N:=by rw[List.drop_left' b1]
  rw[if_pos,ht,b2,eN]
  unfold m5
  rw[ht,hdr,b3,b4]
  exact⟨rfl,by rw[hp,hpp],by omega⟩
 ·have hq:(k+1+1)%2=k%2:=by omega
  rw[hq]
  obtain⟨c,hc⟩:∃ c,c=k%2:=⟨_,rfl⟩
  have hcur:=h.cur
  rw[←hc]at hcur ⊢
  have hc2:c<2:=by omega
  have hcp:c≠p:=by omega
  have hsec:(aX G).2.aJ ((frm:Int)+(c:Int))=D.aJ ((frm:Int)+(c:Int)):=by
   refine di fun j h1 h2=>?_
   rw[ei c,Int.toNat_natCast]at h1 h2
   rw[s3,hGg,if_neg (by omega)]
   exact a4 j (by omega)
  rw[jJ h.sure s2 (by rw[s4,hGn]) (hasD c hc2) hsec,hcur]
  show(k:Int)<((k+1:Nat):Int)
  omega
 ·intro t z ht
  have hlt:=(List.getElem?_eq_some_iff.1 ht).1
  show(aX G).2.now[64*(frm+2)+t]?=some z
  rw[s3,hGg,if_neg (by omega)]
  rcases Nat.lt_or_ge t (64*(all.length/64))with h1 | h1
  ·rw[a4 _ (by omega)]
   refine h.bytes t z ?_
   rw[List.getElem?_append_left (by omega)]at ht
   exact ht
  ·rw[a5 t h1 hlt];exact ht
theorem sX (n:Int):gG (cw n):=by
 refine⟨⟨?_,?_,?_,?_,fun p hp=>by cases hp⟩,rfl,rfl⟩
 ·show(List.replicate (64*dj n) (0:Int)).length=64*dj n
  rw[List.length_replicate]
 ·show dj n≤16384
  unfold dj;omega
 ·exact Int.le_refl (-1)
 ·show(-1:Int)≤_;omega
theorem c8 {m n:Int} {frm:Nat} (hm:0≤m∧m≤16384) (hn:3≤n) (hr:(frm:Int)+n≤m):Holds (cw m) frm n 0 [] (List.replicate 16 0):=by
 have hs:dj m=m.toNat:=by unfold dj;omega
 have hnn:(cw m).n=m.toNat:=hs
 have hS:=sX m
 have hsec:∀ p:Nat,p<2→(cw m).aJ ((frm:Int)+(p:Int))=List.replicate 64 0:=by
  intro p hp
  unfold DM.aJ
  show((List.replicate (64*dj m) (0:Int)).drop _).take 64=_
  rw[List.drop_replicate,List.take_replicate,hs]
  congr 1;omega
 have hz:cY (List.replicate 8 0)=0:=by decide
 have hrd:∀ p:Nat,p<2→aM (cw m) frm (64*(n-2)) (p:Int)=(fa,0):=by
  intro p hp
  have hi:(cw m).has ((frm:Int)+(p:Int))=true:=by unfold DM.has;rw[hnn];simp only[decide_eq_true_eq];omega
  rw[b5 hS hi,hsec p hp]
  split
  ·rfl
  ·rfl
 refine⟨hS,⟨hn,by rw[hnn];omega⟩,by show(0:Int)≤_;omega,rfl,?_,Or.inr ⟨rfl,?_⟩,fun t z h=>by cases h⟩
 ·exact hrd 0 (by omega)
 ·have:=hrd 1 (by omega)
  have this:aM (cw m) frm (64*(n-2)) 1=(fa,0):=this
  rw[this];rfl
end Go.Proofs.YtomdimlnggpgbaaGreatDoor.D
namespace Go.Proofs.YtomdimlnggpgbaaGreatDoor.D
open Go Go.Sx
def lC:Sx.Spec where
 fn:=90
 own:=[]
 rd:=[0]
 res:=[.one (.int .u64)]
 pre:=fun xs Hs Rs=>∃ p R dp sl L,xs=[p]∧Rs=[R]∧c6 R p dp sl L
 post:=fun xs Hs Rs v Hs' F=>∃ p R dp sl L,xs=[p]∧Rs=[R]∧c6 R p dp sl L∧v=.int .u64 L.serial
def rH:Nd:=.and (.e (.le (.lit 0) (.var 0))) (.and (.e (.his 2 (.var 0) (.lit 3) 0 (.int .u64))) (.post [.ro 1 [.hP 2 (.var 0) (.lit 21) 0 0] false,.ro 2 [.var 0] false] (.sv (.one (.int .u64 (.hI 2 (.var 0) (.lit 3) 0))))))
def Fh:cy Tryz.prog [] lC.fn where
 Λ:=aH
 args:=[TP (.var 0) (.lit 0)]
 mem:=nq
 nv:=3
 nd:=rH
 ok:=by kernel_rfl
theorem zr:lC.OK Tryz.prog:=by
 refine Spec.b8 (Γ:=[]) (fun _ h=>by cases h) ?_
 rintro xs Hs Rs hl1 hl2 ⟨p,R,dp,sl,L,rfl,rfl,⟨a,rfl,hL⟩⟩
 have e0:Hs=[]:=List.length_eq_zero_iff.1 hl1
 subst e0
 refine⟨Fh,ju a R R,fun _ _=>True,fun _ _=>0,?_,pK a R R _ (by simp) (by simp),(fun _ h=>nomatch h),?_⟩
 ·show [Value.pointer (ar (a:Int) 0)]=_;rw[fc]
 ·show Nd.holds _ _ _ rH
  unfold rH
  simp only[Nd.holds,X.pre,X.rel,X.n,Src.ok,Src.len,Src.bS,true_and,and_true,if_true,Nat.mul_one,Nat.add_zero,Nat.reduceAdd,List.length_cons,List.length_nil,bN,bK,aP,ba,bb,bM,bj,bJ,bI,bD,bd,bk,bL,bg,bf,aQ,bh,ah,ai,aE,aI,aK,ax,aF,aV,aT,au,aO,aC,aN,aB,TV.ev,SV.ev,CV.ev,List.map_cons,List.map_nil,bc.hl]
  have v0:(ju a R R).i 0=a:=rfl
  have w2:(ju a R R).h 2=R:=rfl
  have c3:R.cell a 3=some (.int .u64 L.serial):=by rw[hL.cell];rfl
  rw[v0,w2,Int.toNat_natCast,show Int.toNat 3=3 from rfl,c3]
  refine⟨by omega,rfl,fun _=>⟨[],[],rfl,rfl,⟨⟨fun _=>L.serial,fun _=>false,fun _=>.empty,fun _=>.tuple #[],fun _=>Hl.none⟩,?_,trivial,trivial⟩,_,R,dp,sl,L,rfl,rfl,⟨a,rfl,hL⟩,?_⟩⟩
  all_goals
   show Value.int .u64 (fg (R.cell ((a:Int)).toNat 3))=Value.int .u64 L.serial
   rw[Int.toNat_natCast,c3];rfl
def az (D:DM) (L:LM) (bs:List Int):AR :=
 if L.over then⟨5,D,L,bs⟩
 else if 4611686018427387904≤L.serial then⟨14,D,L,bs⟩
 else if(br D L.frm (cQ L [] L.note)).1=0 then⟨0,(br D L.frm (cQ L [] L.note)).2,cU L [] L.note,[]⟩
 else⟨5,(br D L.frm (cQ L [] L.note)).2,iL L,bs⟩
def lX:Sx.Spec where
 fn:=91
 own:=[.arg 0,.link 0 0]
 rd:=[]
 res:=[.one (.int .i64)]
 pre:=fun xs Hs Rs=>∃ p H HD dp L bs D,xs=[p]∧Hs=[H,HD]∧bW H p dp L bs∧aj HD dp D∧0≤L.serial
 post:=fun xs Hs Rs v Hs' F=>∃ p H HD dp L bs D H' HD',xs=[p]∧Hs=[H,HD]∧bW H p dp L bs∧aj HD dp D∧Hs'=[H',HD']∧aj HD' dp (az D L bs).D∧bW H' p dp (az D L bs).L (az D L bs).bs∧v=.int .i64 (az D L bs).e
def tW:Nd:=.and (.imp (.bvar 27) (.post [.aS 0 (al 1 ([Ck.ptr,Ck.int .i64,Ck.int .i64,Ck.int .u64,Ck.int .u64]++List.replicate 16 (Ck.int .u8)++[Ck.sl,Ck.bool])) 145,.hp 28 [] [.var 1] [],.hp 29 [] [.var 23] []] (.sv (.one (.int .i64 (.lit 5)))))) (.imp (.not (.bvar 27)) (.and (.imp (.le (.lit 4611686018427387904) (.var 5)) (.post [.aS 0 (al 1 ([Ck.ptr,Ck.int .i64,Ck.int .i64,Ck.int .u64,Ck.int .u64]++List.replicate 16 (Ck.int .u8)++[Ck.sl,Ck.bool])) 145,.hp 28 [] [.var 1] [],.hp 29 [] [.var 23] []] (.sv (.one (.int .i64 (.lit 14)))))) (.imp (.not (.le (.lit 4611686018427387904) (.var 5))) (.ext (.alloc 30) (.ext (.alloc 31) (.and (.pre (.call 0 32 [.sv (.one (.hptr (.var 0) (.lit 0))),.sv (.agg ([.int .u64 (.wrap .u64 (.add (.var 5) (.lit 1))),.int .u64 (.lit 0)]++al 7 (List.replicate 16 (Ck.int .u8))))] [.hp 28 [] [.var 1] []] [.aS 0 (al 1 ([Ck.ptr,Ck.int .i64,Ck.int .i64,Ck.int .u64,Ck.int .u64]++List.replicate 16 (Ck.int .u8)++[Ck.sl,Ck.bool])) 145])) (.ext (.call 0 32 [.sv (.one (.hptr (.var 0) (.lit 0))),.sv (.agg ([.int .u64 (.wrap .u64 (.add (.var 5) (.lit 1))),.int .u64 (.lit 0)]++al 7 (List.replicate 16 (Ck.int .u8))))] [.hp 28 [] [.var 1] []] [.aS 0 (al 1 ([Ck.ptr,Ck.int .i64,Ck.int .i64,Ck.int .u64,Ck.int .u64]++List.replicate 16 (Ck.int .u8)++[Ck.sl,Ck.bool])) 145]) (.and (.imp (.not (.eq (.var 32) (.lit 0))) (.post [.aS 0 (al 1 ([Ck.ptr,Ck.int .i64,Ck.int .i64,Ck.int .u64,Ck.int .u64]++List.replicate 16 (Ck.int .u8)++[Ck.sl])++[.bool .tt]) 145,.hp 32 [28] [.var 1] [],.hp 29 [] [.var 23] [],.dead,.dead] (.sv (.one (.int .i64 (.lit 5)))))) (.imp (.eq (.var 32) (.lit 0)) (.post [.aS 0 ([.hptr (.var 1) (.var 2),.int .i64 (.var 3),.int .i64 (.var 4),.int .u64 (.wrap .u64 (.add (.var 5) (.lit 1))),.int .u64 (.lit 0)]++al 7 (List.replicate 16 (Ck.int .u8))++[.sl (.lit (-1)) (.lit 0) (.lit 0) (.lit 0),.bool (.bvar 27)]) 145,.hp 32 [28] [.var 1] [],.hp 29 [] [.var 23] [],.dead,.dead] (.sv (.one (.int .i64 (.lit 0))))))))))))))
def qe:List Sx.Spec:=[po]
theorem A':∀ t∈qe,t.OK Tryz.prog:=fun t ht=>by
 simp only[qe,List.mem_cons,List.mem_nil_iff,or_false]at ht
 subst ht
 exact xF
def tX:cy Tryz.prog qe lX.fn where
 Λ:=aH
 args:=[TP (.var 0) (.lit 0)]
 mem:=[.aS 0 (al 1 js++[.sl (.var 23) (.var 24) (.var 25) (.var 26),.bool (.bvar 27)]) 145,.hp 28 [] [.var 1] [],.hp 29 [] [.var 23] []]
 nv:=30
 nd:=tW
 ok:=by kernel_rfl
theorem II:qe[0]?=some po:=rfl
def FY (a:Nat) (da:Nat) (L:LM) (sx:Int) (sn sc:Nat) (HD HB:Hl):Env :=
 ⟨fun k=>if k<1 then(a:Int)else if k<23 then(dC da L).getD (k-1) 0 else [sx,0,(sn:Int),(sc:Int)].getD (k-23) 0,fun _=>L.over,fun _=>.empty,fun _=>.tuple #[],fun k=>if k=28 then HD else HB⟩
theorem A6:lX.OK Tryz.prog:=by
 refine dZ (Γ:=qe) A' ?_
 rintro xs Hs Rs hl1 hl2 hdis ⟨p,H,HD,dp,L,bs,D,rfl,rfl,hAt,hD,hs0⟩
 have e1:Rs=[]:=List.length_eq_zero_iff.1 hl2
 subst e1
 obtain⟨a,sl,HB,rfl,hok,hO,hone,hH⟩:=id hAt
 obtain⟨da,s,m,es,clock,hdp,hDi⟩:=id hD
 obtain⟨sx,sc,hsx,hsl,hsc,_⟩:=dA.rep hO
 generalize hρ:FY a da L sx bs.length sc HD HB=ρ
 have v0:ρ.i 0=a:=by rw[←hρ];rfl
 have w28:ρ.h 28=HD:=by rw[←hρ];rfl
 have w29:ρ.h 29=HB:=by rw[←hρ];rfl
 have b27:ρ.b 27=L.over:=by rw[←hρ];rfl
 have rk:∀ k,k<22→ρ.i (1+k)=(dC da L).getD k 0:=fun k hk=>by
  rw[←hρ]
  show(if 1+k<1 then _ else if 1+k<23 then(dC da L).getD (1+k-1) 0 else _)=_
  rw[if_neg (by omega),if_pos (by omega),show 1+k-1=k by omega]
 have lk:∀ q:Env,ae 30 ρ q→∀ k,k<22→q.i (1+k)=(dC da L).getD k 0:=fun q g k hk=>by rw[g.i _ (by omega)];exact rk k hk
 have ls:∀ q:Env,ae 30 ρ q→CV.ev q (.sl (.var 23) (.var 24) (.var 25) (.var 26))=sl:=by
  intro q g
  simp only[CV.ev,ai,g.i 23 (by omega),g.i 24 (by omega),g.i 25 (by omega),g.i 26 (by omega)]
  rw[←hρ,hsl]
  show Value.slice (ar sx 0) ((bs.length:Int)).toNat ((sc:Int)).toNat=_
  rw[Int.toNat_natCast,Int.toNat_natCast]
 have eb:∀ q:Env,ae 30 ρ q→CV.ev q (.bool (.bvar 27))=.bool L.over:=by
  intro q g
  show Value.bool (q.b 27)=_
  rw[g.b 27 (by omega),b27]
 have eB:∀ (q:Env),ae 30 ρ q→(bc.aS 0 (al 1 js++[.sl (.var 23) (.var 24) (.var 25) (.var 26),.bool (.bvar 27)]) 145).hl q=Hl.one a (dM dp sl L):=by
  intro q g
  show Hl.one (q.i 0).toNat (.cells ((al 1 js++[CV.sl (.var 23) (.var 24) (.var 25) (.var 26),.bool (.bvar 27)]).map (CV.ev q)).toArray _ (0,0))=_
  rw[List.map_append,ll hok (lk q g),g.i 0 (by omega),v0,List.map_cons,List.map_cons,List.map_nil,ls q g,eb q g,List.append_assoc,←hdp,Int.toNat_natCast]
  rfl
 have hle1:(Hl.one a (dM dp sl L)).le H:=by rw[hH];exact Hl.e8 _ _
 have hle2:HB.le H:=by
  rw[hH]
  show HB.le ((Hl.one a (dM dp sl L)).un (dF [HB]))
  rw[bp];exact Hl.ga hone
 have hHD:H.ch HD:=hdis 0 1 _ _ (by decide) rfl rfl
 refine⟨tX,ρ,fun _ _=>True,fun _ _=>0,?_,⟨?_,?_,?_,?_⟩,(fun _ h=>nomatch h),?_⟩
 ·show [Value.pointer (ar (ρ.i 0) 0)]=_
  rw[v0,fc]
 ·intro r hr ho
  simp only[tX,List.mem_cons,List.mem_nil_iff,or_false]at hr
  rcases hr with rfl | rfl | rfl
  ·refine⟨H,by simp,?_⟩
   rw[eB ρ (ae.refl _ _)];exact hle1
  ·refine⟨HD,by simp,?_⟩
   show(ρ.h 28).le HD
   rw[w28];exact Hl.le_refl _
  ·refine⟨H,by simp,?_⟩
   show(ρ.h 29).le H
   rw[w29];exact hle2
 ·intro r hr ho
  simp only[tX,List.mem_cons,List.mem_nil_iff,or_false]at hr
  rcases hr with rfl | rfl | rfl<;>cases ho
 ·have d1:HD.ch HB:=fun k ⟨h1,h2⟩=>hHD k ⟨Hl.nR hle2 h2,h1⟩
  refine List.Pairwise.cons (fun r hr _ ho=>?_) (List.Pairwise.cons (fun r hr _ ho=>?_) (List.Pairwise.cons (fun r hr=>by cases hr) List.Pairwise.nil))
  ·simp only[List.mem_cons,List.mem_nil_iff,or_false]at hr
   rw[eB ρ (ae.refl _ _)]
   rcases hr with rfl | rfl
   ·show Hl.ch _ (ρ.h 28)
    rw[w28]
    exact fun k ⟨h1,h2⟩=>hHD k ⟨Hl.nR hle1 h1,h2⟩
   ·show Hl.ch _ (ρ.h 29)
    rw[w29];exact hone
  ·simp only[List.mem_cons,List.mem_nil_iff,or_false]at hr
   subst hr
   show(ρ.h 28).ch (ρ.h 29)
   rw[w28,w29];exact d1
 ·intro r hr
  simp only[tX,List.mem_cons,List.mem_nil_iff,or_false]at hr
  rcases hr with rfl | rfl | rfl
  ·show(0:Int)≤ρ.i 0
   rw[v0];omega
  ·trivial
  ·trivial
 ·show Nd.holds _ _ _ tW
  have eB2:∀ q:Env,ae 30 ρ q→Hl.one a (Obj.cells (List.map (CV.ev q) (al 1 ([Ck.ptr,Ck.int IntKind.i64,Ck.int IntKind.i64,Ck.int IntKind.u64,Ck.int IntKind.u64]++List.replicate 16 (Ck.int IntKind.u8)++[Ck.sl,Ck.bool]))).toArray 145 (0,0))=Hl.one a (dM dp sl L):=by
   intro q g
   have h:Hl.one (q.i 0).toNat (Obj.cells (List.map (CV.ev q) (al 1 ([Ck.ptr,Ck.int IntKind.i64,Ck.int IntKind.i64,Ck.int IntKind.u64,Ck.int IntKind.u64]++List.replicate 16 (Ck.int IntKind.u8)++[Ck.sl,Ck.bool]))).toArray 145 (0,0))=Hl.one a (dM dp sl L):=eB q g
   rw[g.i 0 (by omega),v0,Int.toNat_natCast]at h
   exact h
  have eT:∀ q:Env,ae 30 ρ q→(bc.aS 0 (al 1 ([Ck.ptr,Ck.int IntKind.i64,Ck.int IntKind.i64,Ck.int IntKind.u64,Ck.int IntKind.u64]++List.replicate 16 (Ck.int IntKind.u8)++[Ck.sl])++[CV.bool E.tt]) 145).hl q=Hl.one a (dM dp sl (iL L)):=by
   intro q g
   have h:(bc.aS 0 (al 1 ([Ck.ptr,Ck.int IntKind.i64,Ck.int IntKind.i64,Ck.int IntKind.u64,Ck.int IntKind.u64]++List.replicate 16 (Ck.int IntKind.u8)++[Ck.sl])++[CV.bool E.tt]) 145).hl q=Hl.one (q.i 0).toNat (.cells ((al 1 js++[CV.sl (.var 23) (.var 24) (.var 25) (.var 26),.bool .tt]).map (CV.ev q)).toArray 145 (0,0)):=rfl
   rw[h,List.map_append,ll hok (lk q g),g.i 0 (by omega),v0,List.map_cons,List.map_cons,List.map_nil,ls q g,List.append_assoc,←hdp,Int.toNat_natCast]
   rfl
  have hnt:L.note.length=16:=hok.note
  have eN:∀ q:Env,ae 30 ρ q→(al 7 (List.replicate 16 (Ck.int IntKind.u8))).map (CV.ev q)=cn L.note:=fun q g=>tC 16 7 L.note hnt fun k hk=>by
   have:=lk q g (k+6) (by omega)
   rw[show 7+k=1+(k+6)by omega,this]
   unfold dC
   rw[List.getD_eq_getElem?_getD,List.getD_eq_getElem?_getD,List.getElem?_append_right (by simp)]
   simp
  have i23:∀ q:Env,ae 30 ρ q→q.i 1=da∧q.i 2=0∧q.i 3=L.frm∧q.i 4=L.most∧q.i 5=L.serial:=fun q g=>⟨lk q g 0 (by omega),lk q g 1 (by omega),lk q g 2 (by omega),lk q g 3 (by omega),lk q g 4 (by omega)⟩
  have hRd:c6 (Hl.one a (dM dp sl L)) (.pointer (some ⟨a,0,none⟩)) dp sl L:=⟨a,rfl,hok,Hl.bE _ _⟩
  have out:∀ (q:Env) (t:Mem) (e:Int),ae 30 ρ q→az D L bs=⟨e,D,L,bs⟩ →
   postOf lX [.pointer (some ⟨a,0,none⟩)] [H,HD] [] q (.aS 0 (al 1 ([Ck.ptr,Ck.int IntKind.i64,Ck.int IntKind.i64,Ck.int IntKind.u64,Ck.int IntKind.u64]++List.replicate 16 (Ck.int IntKind.u8)++[Ck.sl,Ck.bool])) 145::.hp 28 [] [.var 1] []::.hp 29 [] [.var 23] []::t) (.sv (.one (.int .i64 (.lit e)))):=by
   intro q t e hq hr _
   refine⟨[[0,2],[1]],[],rfl,rfl,⟨⟨fun _=>e,fun _=>false,fun _=>.empty,fun _=>.tuple #[],fun _=>Hl.none⟩,rfl,trivial,trivial⟩,_,H,HD,dp,L,bs,D,_,_,rfl,rfl,hAt,hD,rfl,?_,?_,?_⟩
   ·show aj (dF [q.h 28]) _ _
    rw[bp,hr,hq.h 28 (by omega),w28];exact hD
   ·rw[hr]
    refine⟨a,sl,HB,rfl,hok,hO,hone,?_⟩
    have e29:q.h 29=HB:=by rw[hq.h 29 (by omega),w29]
    rw[←e29]
    exact congrArg (fun z=>dF [z,q.h 29]) (eB q hq)
   ·rw[hr];rfl
  unfold tW
  simp only[Nd.holds,X.pre,X.rel,X.n,Src.ok,Src.len,Src.bS,true_and,and_true,if_true,Nat.mul_one,Nat.add_zero,Nat.reduceAdd,List.length_cons,List.length_nil,bN,bK,aP,ba,bb,bM,bj,bJ,bI,bD,bd,bk,bL,bg,bf,aQ,bh,ah,ai,aE,aI,aK,ax,aF,aV,aT,au,aO,aC,aN,aB,TV.ev,SV.ev,CV.ev,List.map_cons,List.map_nil,bc.hl,df,Cp.sv,Ck.cv,ct,Cp.len,Ck.len,aU,bm,bC,II,J']
  rw[b27,rk 4 (by omega)]
  have e4:(dC da L).getD 4 0=L.serial:=rfl
  rw[e4]
  refine⟨fun ho=>out ρ _ 5 (ae.refl _ _) ?_,fun ho=>⟨fun hs=>out ρ _ 14 (ae.refl _ _) ?_,fun hs=>?_⟩⟩
  ·unfold az;rw[if_pos ho]
  ·unfold az;rw[if_neg ho,if_pos hs]
  intro q1 g1 _ q2 g2 _
  have G2:ae 30 ρ q2:=g1.trans (g2.mono (by omega))
  have wS:IntKind.u64.wrap (L.serial+1)=L.serial+1:=wrap_u64 (by omega) (by omega)
  have eH:∀ q:Env,ae 30 ρ q→List.map (CV.ev q) ([CV.int IntKind.u64 (E.wrap IntKind.u64 ((E.var 5).add (E.lit 1))),CV.int IntKind.u64 (E.lit 0)]++al 7 (List.replicate 16 (Ck.int IntKind.u8)))=jf (cQ L [] L.note):=by
   intro q g
   rw[List.map_append,eN q g]
   show [Value.int .u64 (IntKind.u64.wrap (q.i 5+1)),Value.int .u64 0]++cn L.note=_
   rw[(i23 q g).2.2.2.2,wS];rfl
  rw[G2.i 0 (by omega),v0,fc,Int.toNat_natCast,eB2 q2 G2,eH q2 G2,G2.h 28 (by omega),w28]
  have hNH:jF (cQ L [] L.note):=⟨by simp [cQ,hnt],⟨by show 0≤L.serial+1;omega,by show L.serial+1<_;omega⟩,by show(0:Int)≤((List.length ([]:List Int):Nat):Int);simp,by show((List.length ([]:List Int):Nat):Int)<_;simp⟩
  refine⟨⟨_,_,_,_,dp,sl,L,_,rfl,rfl,rfl,hRd,hD,hNH⟩,fun q4 g4 ⟨F,⟨p',h',Hx,R1,dp',sl',L',Dy,H3,hx,hH',hR,hLy,hDy,hh',hH3,hD3,hvt⟩,_,_⟩=>?_⟩
  have hx:Value.pointer (some ⟨a,0,none⟩)=p'∧Value.agg (jf (cQ L [] L.note)).toArray=Value.agg (jf h').toArray:=by simpa using hx
  obtain⟨rfl,hx2⟩:=hx
  have e:=Am hNH.1 hh'.1 hx2
  subst e
  have hH':HD=Hx:=by simpa using hH'
  subst hH'
  have hR:Hl.one a (dM dp sl L)=R1:=by simpa using hR
  subst hR
  obtain⟨rfl,rfl,rfl⟩:=hRd.uniq hLy
  have e:=hDy.uniq hD
  subst e
  have hH3:q4.h 32=H3:=by simpa using hH3
  rw[←hH3]at hD3
  have hvt:q4.i 32=(br Dy L.frm (cQ L [] L.note)).1:=by simpa using hvt
  have G4:ae 30 ρ q4:=G2.trans (g4.mono (by omega))
  have e29:q4.h 29=HB:=by rw[G4.h 29 (by omega),w29]
  refine⟨fun h32 hd=>?_,fun h32 hd=>?_⟩
  ·have hr:az Dy L bs=⟨5,(br Dy L.frm (cQ L [] L.note)).2,iL L,bs⟩:=by
    unfold az
    rw[if_neg ho,if_neg hs,if_neg (by rw[←hvt];exact h32)]
   have hd02:=hd 0 2 _ _ (by decide) rfl rfl rfl
   rw[eT q4 G4]at hd02
   have hd02:(Hl.one a (dM dp sl (iL L))).ch (q4.h 29):=hd02
   rw[e29]at hd02
   refine⟨[[0,2],[1]],[],rfl,rfl,⟨⟨fun _=>5,fun _=>false,fun _=>.empty,fun _=>.tuple #[],fun _=>Hl.none⟩,rfl,trivial,trivial⟩,_,H,HD,dp,L,bs,Dy,_,_,rfl,rfl,hAt,hD,rfl,?_,?_,?_⟩
   ·show aj (dF [q4.h 32]) _ _
    rw[bp,hr];exact hD3
   ·rw[hr]
    refine⟨a,sl,HB,rfl,⟨hok.frm,hok.most,hok.note⟩,hO,hd02,?_⟩
    rw[←e29]
    exact congrArg (fun z=>dF [z,q4.h 29]) (eT q4 G4)
   ·rw[hr];rfl
  ·have hr:az Dy L bs=⟨0,(br Dy L.frm (cQ L [] L.note)).2,cU L [] L.note,[]⟩:=by
    unfold az
    rw[if_neg ho,if_neg hs,if_pos (by rw[←hvt];exact h32)]
   have eG:(bc.aS 0 ([CV.hptr (E.var 1) (E.var 2),CV.int IntKind.i64 (E.var 3),CV.int IntKind.i64 (E.var 4),CV.int IntKind.u64 (E.wrap IntKind.u64 ((E.var 5).add (E.lit 1))),CV.int IntKind.u64 (E.lit 0)]++al 7 (List.replicate 16 (Ck.int IntKind.u8))++[CV.sl (E.lit (-1)) (E.lit 0) (E.lit 0) (E.lit 0),CV.bool (E.bvar 27)]) 145).hl q4=Hl.one a (dM dp (.slice none 0 0) (cU L [] L.note)):=by
    show Hl.one (q4.i 0).toNat (.cells (List.map (CV.ev q4) _).toArray _ (0,0))=_
    rw[List.map_append,List.map_append,eN q4 G4]
    obtain⟨j0,j1,j2,j3,j4⟩:=i23 q4 G4
    have eb':q4.b 27=L.over:=by rw[G4.b 27 (by omega),b27]
    show Hl.one (q4.i 0).toNat (.cells ([Value.pointer (ar (q4.i 1) (q4.i 2)),.int .i64 (q4.i 3),.int .i64 (q4.i 4),.int .u64 (IntKind.u64.wrap (q4.i 5+1)),.int .u64 0]++cn L.note++[Value.slice (ar (-1) 0) 0 0,.bool (q4.b 27)]).toArray _ (0,0))=_
    rw[j0,j1,j2,j3,j4,eb',G4.i 0 (by omega),v0,wS,fc,←hdp,Int.toNat_natCast,cW,List.append_assoc]
    rfl
   refine⟨[[0],[1]],[],rfl,rfl,⟨⟨fun _=>0,fun _=>false,fun _=>.empty,fun _=>.tuple #[],fun _=>Hl.none⟩,rfl,trivial,trivial⟩,_,H,HD,dp,L,bs,Dy,_,_,rfl,rfl,hAt,hD,rfl,?_,?_,?_⟩
   ·show aj (dF [q4.h 32]) _ _
    rw[bp,hr];exact hD3
   ·rw[hr]
    refine⟨a,.slice none 0 0,Hl.none,rfl,⟨hok.frm,hok.most,hnt⟩,⟨rfl,Or.inl ⟨rfl,rfl⟩⟩,fun k ⟨_,h⟩=>by simp [Hl.mem,Hl.none]at h,?_⟩
    exact(congrArg (fun z=>dF [z]) eG).trans (by simp [dF,Hl.jX])
   ·rw[hr];rfl
theorem yg {p dp v:Value} {bs:List Int} {H HD F:Hl} {K Rs:List Hl} {L:LM} {D:DM} (h1:bW H p dp L bs) (h2:aj HD dp D) (hp:lX.post [p] [H,HD] Rs v K F) :
 ∃ H' HD',K=[H',HD']∧aj HD' dp (az D L bs).D∧bW H' p dp (az D L bs).L (az D L bs).bs∧v=.int .i64 (az D L bs).e:=by
 obtain⟨p',Hx,HDx,dp',L',bs',D',H',HD',hx,hH,hLx,hDx,hK,hDy,hLy,hv⟩:=hp
 have hx:p=p':=by simpa using hx
 subst hx
 have hH:H=Hx∧HD=HDx:=by simpa using hH
 obtain⟨e1,e2⟩:=hH
 subst e1 e2
 obtain⟨e1,e2,e3⟩:=hLx.uniq h1
 subst e1 e2 e3
 have e:=hDx.uniq h2
 subst e
 exact⟨H',HD',hK,hDy,hLy,hv⟩
theorem zI {D:DM} (e:(aX D).1=0):(aX D).2.loose=[]:=by
 unfold aX at e ⊢
 split at e
 ·cases e
 ·split at e
  ·cases e
  ·rename_i h1 h2;rw[if_neg h1,if_neg h2]
theorem zO {D:DM} {frm:Int} {h:List Int} (e:(br D frm h).1=0):(br D frm h).2.loose=[]:=by
 unfold br at e ⊢
 split at e
 ·rename_i h1;exact absurd e h1
 ·rename_i h1;rw[if_neg h1];exact zI e
theorem tM {D:DM} {L:LM} {all nt:List Int} {n:Nat} (e:(bt D L all nt n).1=0):(bt D L all nt n).2.loose=[]:=by
 unfold bt at e ⊢
 split at e
 ·cases e
 ·rename_i h1
  rw[if_neg h1]
  split at e
  ·cases e
  ·rename_i h2
   rw[if_neg h2]
   exact zO (by simpa using h2)
theorem mC {D:DM} {L:LM} {bs b nt:List Int} (e:(av D L bs b nt).e=0):(av D L bs b nt).D.loose=[]:=by
 unfold av at e ⊢
 split at e
 ·cases e
 ·rename_i h1
  rw[if_neg h1]
  split at e
  ·cases e
  ·rename_i h2
   rw[if_neg h2]
   split at e
   ·cases e
   ·rename_i h3
    rw[if_neg h3]
    split at e
    ·rename_i h4
     rw[if_pos h4];exact tM h4
    ·cases e
theorem Holds.clear {D:DM} {frm:Nat} {n:Int} {k:Nat} {all nt:List Int} (h:Holds D frm n k all nt) (hk:k<1000000) :
 (az D ⟨frm,64*(n-2),k,all.length,nt,false⟩ all).e=0∧Holds (az D ⟨frm,64*(n-2),k,all.length,nt,false⟩ all).D frm n (k+1) [] nt ∧
 (az D ⟨frm,64*(n-2),k,all.length,nt,false⟩ all).bs=[]∧(az D ⟨frm,64*(n-2),k,all.length,nt,false⟩ all).L=⟨frm,64*(n-2),(k+1:Nat),0,nt,false⟩ ∧
 (az D ⟨frm,64*(n-2),k,all.length,nt,false⟩ all).D.n=D.n∧∀ j:Nat,((j:Int)<64*frm∨64*(frm+n)≤(j:Int))→(az D ⟨frm,64*(n-2),k,all.length,nt,false⟩ all).D.now[j]?=D.now[j]?:=by
 obtain⟨r1,r2⟩:=h.rng
 have hDn:=h.sure.ok.n
 have hnt:=h.note
 obtain⟨L,hL⟩:∃ L:LM,L=⟨frm,64*(n-2),k,all.length,nt,false⟩:=⟨_,rfl⟩
 rw[←hL]
 have f1:L.frm=frm:=by rw[hL]
 have f2:L.most=64*(n-2):=by rw[hL]
 have f3:L.serial=k:=by rw[hL]
 have f4:L.over=false:=by rw[hL]
 have f5:L.note=nt:=by rw[hL]
 obtain⟨N,hN⟩:∃ N,N=cQ L [] L.note:=⟨_,rfl⟩
 have eN:N=((k+1:Nat):Int)::(0:Int)::nt:=by
  rw[hN];unfold cQ;rw[f3,f5];rfl
 have hp:((k+1:Nat):Int).tmod 2=(((k+1)%2:Nat):Int):=by
  rw[Int.tmod_eq_emod_of_nonneg (by omega)];omega
 obtain⟨p,hpp⟩:∃ p,p=(k+1)%2:=⟨_,rfl⟩
 have hp2:p<2:=by omega
 obtain⟨b1,b2,b3,b4⟩:=ig (a:=((k+1:Nat):Int)) (b:=0) (nt:=nt) ⟨by omega,by omega⟩ ⟨by omega,by omega⟩ hnt
 rw[←eN]at b1 b2 b3 b4
 have hhl:(aG N++aG N).length=64:=by rw[List.length_append,b1]
 have ei:∀ q:Nat,(frm:Int)+((q:Nat):Int)=((frm+q:Nat):Int):=fun q=>by omega
 have hasD:∀ q:Nat,q<2→D.has ((frm:Int)+(q:Int))=true:=fun q hq=>by unfold DM.has;simp only[decide_eq_true_eq];omega
 have hw:=eE h.sure (hasD p hp2) hhl
 obtain⟨G,hG⟩:∃ G,G=gf D ((frm:Int)+(p:Int)) (aG N++aG N):=⟨_,rfl⟩
 rw[←hG]at hw
 have hGs:gG G:=by rw[hG];exact gu h.sure (hasD p hp2) hhl
 have hGn:G.n=D.n:=by rw[hG];rfl
 have hGg:=fU h.sure.ok (hasD p hp2) hhl
 rw[←hG,ei p,Int.toNat_natCast]at hGg
 obtain⟨s1,s2,s3,s4⟩:=dt hGs
 have htn:br D L.frm N=aX G:=by
  unfold br
  have e0:N.getD 0 0=((k+1:Nat):Int):=by rw[eN];rfl
  rw[f1,e0,hp,←hpp,hw];simp
 have hcl:az D L all=⟨0,(aX G).2,cU L [] L.note,[]⟩:=by
  unfold az
  rw[f4,f3,if_neg (by simp),if_neg (by omega),←hN,htn,if_pos s1]
 rw[hcl]
 refine⟨rfl,⟨s2,⟨r1,by show(frm:Int)+n≤((aX G).2.n:Int);rw[s4,hGn];exact r2⟩,by show(0:Int)≤_;omega,hnt,?_,Or.inl ?_,fun t z ht=>by cases ht⟩,rfl,by unfold cU;rw[f1,f2,f3,f4,f5];rfl,s4.trans hGn,fun j hj=>?_⟩
 ·rw[←hpp]
  have hi:(aX G).2.has ((frm:Int)+(p:Int))=true:=by unfold DM.has;rw[s4,hGn];exact hasD p hp2
  have hsec:(aX G).2.aJ ((frm:Int)+(p:Int))=aG N++aG N:=by
   unfold DM.aJ
   rw[s3,ei p,Int.toNat_natCast]
   apply List.ext_getElem?
   intro j
   rw[List.getElem?_take]
   split
   ·rename_i hj
    rw[List.getElem?_drop,hGg,if_pos (by omega)]
    congr 1;omega
   ·rw[List.getElem?_eq_none (by omega)]
  show aM (aX G).2 frm (64*(n-2)) (p:Int)=_
  rw[b5 s2 hi,hsec]
  have ht:(aG N++aG N).take 32=aG N:=by rw[List.take_left' b1]
  have hdr:(aG N++aG N).drop 32=aG N:=by rw[List.drop_left' b1]
  rw[if_pos,ht,b2,eN]
  ·rfl
  unfold m5
  rw[ht,hdr,b3,b4]
  exact⟨rfl,by rw[hp,hpp],by omega⟩
 ·have hq:(k+1+1)%2=k%2:=by omega
  rw[hq]
  obtain⟨c,hc⟩:∃ c,c=k%2:=⟨_,rfl⟩
  have hcur:=h.cur
  rw[←hc]at hcur ⊢
  have hc2:c<2:=by omega
  have hcp:c≠p:=by omega
  have hsec:(aX G).2.aJ ((frm:Int)+(c:Int))=D.aJ ((frm:Int)+(c:Int)):=by
   refine di fun j h1 h2=>?_
   rw[ei c,Int.toNat_natCast]at h1 h2
   rw[s3,hGg,if_neg (by omega)]
  rw[jJ h.sure s2 (by rw[s4,hGn]) (hasD c hc2) hsec,hcur]
  show(k:Int)<((k+1:Nat):Int)
  omega
 ·show(aX G).2.now[j]?=_
  rw[s3,hGg,if_neg (by omega)]
end Go.Proofs.YtomdimlnggpgbaaGreatDoor.D
namespace Go.Proofs.YtomdimlnggpgbaaGreatDoor.D
open Go Go.Sx
def stays (k:Int) (j:Nat):Bool:=if k<128 then decide ((j:Int)<k)else decide (64-(k-128)≤(j:Int))
def bZ (was now:List Int) (k:Int):List Int:=(List.range 64).map fun j=>if stays k j then now.getD j 0 else was.getD j 0
def cJ:List Ck:=List.replicate 64 (.int .u8)
def Ed (xs:List Value):Value:=match xs with
 | [a,b,.int _ k]=>.agg (cn (bZ (de a) (de b) k)).toArray
 | _=>.bool false
def Ij (xs:List Value):Prop:=match xs with
 | [_,_,.int _ k]=>0≤k∧k<256
 | _=>False
def tA:Sx.Spec:=AI 59 [.agg cJ,.agg cJ,.one (.int .u8)] [.agg cJ] Ij Ed
def eM:E:=(.ite (.lt (.lit 64) (.wrap .i64 (.rem (.var 128) (.lit 128)))) (.lit 64) (.wrap .i64 (.rem (.var 128) (.lit 128))))
def eD:E:=(.wrap .i64 (.sub (.lit 64) eM))
def eO:E:=(.ite (.eq (.lit 64) eD) (.lit 0) eD)
def FI:List CV:=(List.range 64).map fun(j:Nat)=>.int .u8 (.ite (.lt (.lit (j:Int)) eM) (.var (64+j)) (.var j))
def FJ:List CV:=(List.range 64).map fun(j:Nat)=>.int .u8 (.ite (.and (.le eO (.lit (j:Int))) (.lt (.lit (j:Int)) (.add eO (.sub (.lit 64) eD)))) (.var (64+j)) (.var j))
def zL:Nd:=.ext (.alloc 129) (.ext (.alloc 130) (.ext (.alloc 131) (.and (.imp (.lt (.var 128) (.lit 128)) (.and (.e (.le (.lit 0) eM)) (.and (.e (.le eM (.lit 64))) (.and (.e (.and (.le (.lit 0) eM) (.and (.le (.lit 0) eM) (.le eM (.lit 64))))) (.post [.dead,.dead,.dead] (.sv (.agg FI))))))) (.imp (.not (.lt (.var 128) (.lit 128))) (.and (.e (.le (.lit 0) eD)) (.and (.e (.le eD (.lit 64))) (.and (.e (.and (.le (.lit 0) eO) (.and (.le (.lit 0) (.sub (.lit 64) eD)) (.and (.le (.lit 0) (.sub (.lit 64) eD)) (.le (.add eO (.sub (.lit 64) eD)) (.lit 64)))))) (.post [.dead,.dead,.dead] (.sv (.agg FJ))))))))))
def Ik:cy Tryz.prog [] 59 where
 Λ:=aH
 args:=(ct 0 [.agg cJ,.agg cJ,.one (.int .u8)]).map .sv
 mem:=[]
 nv:=129
 nd:=zL
 ok:=by kernel_rfl
theorem b7 (a b:List Int) (k:Int):(bZ a b k).length=64:=by simp [bZ]
set_option maxRecDepth 20000 in
theorem Ee:tA.OK Tryz.prog:=by
 refine uK (fun t h=>by cases h) Ik rfl rfl rfl (fun q _ _=>?_) (fun q hq hN=>⟨fun _ _=>True,fun _ _=>0,?_⟩)
 ·obtain⟨ρ,_,_,e⟩:=gF cJ 0 (cn (bZ (de ((SV.agg (al 0 cJ)).ev q)) (de ((SV.agg (al 64 cJ)).ev q)) (q.i 128))) q (eX 64 _ (b7 _ _ _))
  exact⟨ρ,by show Value.agg _=Value.agg ((al 0 cJ).map (CV.ev ρ)).toArray;rw[e];rfl,eP _ _ _ (by decide),trivial⟩
 ·have hN:0≤q.i 128∧q.i 128<256:=hN
  obtain⟨k0,k1⟩:=hN
  have eG:Ed (uv [.agg cJ,.agg cJ,.one (.int .u8)] q)=.agg (cn (bZ ((List.range 64).map fun j=>q.i j) ((List.range 64).map fun j=>q.i (64+j)) (q.i 128))).toArray:=rfl
  simp only[eG]
  show Nd.holds _ _ _ zL
  unfold zL
  simp only[Nd.holds,X.pre,X.rel,X.n,Src.ok,Src.len,Src.bS,true_and,and_true,if_true,Nat.mul_one,Nat.add_zero,Nat.reduceAdd,List.length_cons,List.length_nil,bN,bK,aP,ba,bb,bM,bj,bJ,bI,bD,bd,bk,bL,bg,bf,aQ,bh,ah,ai,aE,aI,aK,ax,aF,aV,aT,au,aO,aC,aN,aB,TV.ev,SV.ev,CV.ev,List.map_cons,List.map_nil,bc.hl]
  intro q1 g1 _ q2 g2 _ q3 g3 _
  have G:ae 129 q q3:=(g1.trans (g2.mono (by omega))).trans (g3.mono (by omega))
  have j128:q3.i 128=q.i 128:=G.i 128 (by omega)
  have w0:IntKind.i64.wrap ((q3.i 128).tmod 128)=(q.i 128).tmod 128:=by
   rw[j128]
   have h1:=Int.tmod_nonneg 128 k0
   have h2:=Int.tmod_lt_of_pos (q.i 128) (by decide:(0:Int)<128)
   exact wrap_i64 (by omega) (by omega)
  have m0:0≤(q.i 128).tmod 128:=Int.tmod_nonneg _ k0
  have m1:(q.i 128).tmod 128<128:=Int.tmod_lt_of_pos _ (by decide)
  have m2:(q.i 128).tmod 128=if q.i 128<128 then q.i 128 else q.i 128-128:=by
   rw[Int.tmod_eq_emod_of_nonneg k0];split<;>omega
  have hM:ak q3 eM=min ((q.i 128).tmod 128) 64:=by
   unfold eM
   simp only[aF,ax,pF,ai,ah,iU,w0,decide_eq_true_eq]
   split<;>omega
  have hD:ak q3 eD=64-min ((q.i 128).tmod 128) 64:=by
   unfold eD
   rw[ax,aI,ah,hM]
   exact wrap_i64 (by omega) (by omega)
  have hO:ak q3 eO=if min ((q.i 128).tmod 128) 64=0 then 0 else 64-min ((q.i 128).tmod 128) 64:=by
   unfold eO
   simp only[aF,nI,ah,hD,decide_eq_true_eq]
   split<;>split<;>omega
  rw[hM,hD,hO,j128]
  have out:∀ (l:List CV) (c:Nat→E),l=(List.range 64).map (fun(j:Nat)=>CV.int .u8 (.ite (c j) (.var (64+j)) (.var j)))→(∀ j:Nat,j<64→bo q3 (c j)=stays (q.i 128) j) →
   (TV.sv (.agg l)).ev q3=.agg (cn (bZ ((List.range 64).map fun j=>q.i j) ((List.range 64).map fun j=>q.i (64+j)) (q.i 128))).toArray:=by
   intro l c hl hc
   subst hl
   show Value.agg (List.map (CV.ev q3) _).toArray=_
   congr 2
   unfold bZ cn
   rw[List.map_map,List.map_map]
   refine List.map_congr_left fun j hj=>?_
   have hj:=List.mem_range.1 hj
   show Value.int .u8 (ak q3 (.ite (c j) (.var (64+j)) (.var j)))=Value.int .u8 _
   rw[aF,hc j hj,ai,ai,G.i (64+j) (by omega),G.i j (by omega)]
   have e1:((List.range 64).map fun j=>q.i (64+j)).getD j 0=q.i (64+j):=by rw[List.getD_eq_getElem?_getD,List.getElem?_map,List.getElem?_range hj];rfl
   have e2:((List.range 64).map fun j=>q.i j).getD j 0=q.i j:=by rw[List.getD_eq_getElem?_getD,List.getElem?_map,List.getElem?_range hj];rfl
   show _=Value.int .u8 (if stays (q.i 128) j=true then((List.range 64).map fun j=>q.i (64+j)).getD j 0 else((List.range 64).map fun j=>q.i j).getD j 0)
   rw[e1,e2]
  refine⟨fun hlt=>⟨by omega,by omega,⟨by omega,by omega,by omega⟩,out FI (fun j=>.lt (.lit (j:Int)) eM) rfl fun j hj=>?_⟩,fun hge=>⟨by omega,by omega,⟨by split<;>omega,by omega,by omega,by split<;>omega⟩,out FJ (fun j=>.and (.le eO (.lit (j:Int))) (.lt (.lit (j:Int)) (.add eO (.sub (.lit 64) eD)))) rfl fun j hj=>?_⟩⟩
  ·rw[iU,ah,hM]
   unfold stays
   rw[if_pos hlt]
   rw[if_pos hlt]at m2
   congr 1
   exact propext ⟨fun h=>by omega,fun h=>by omega⟩
  ·rw[jE,iT,iU,ah,aE,aI,ah,hD,hO]
   unfold stays
   rw[if_neg hge]
   rw[if_neg hge]at m2
   rw[←Bool.decide_and]
   congr 1
   refine propext ⟨fun h=>?_,fun h=>?_⟩
   ·split at h<;>omega
   ·split<;>omega
end Go.Proofs.YtomdimlnggpgbaaGreatDoor.D
namespace Go.Proofs.YtomdimlnggpgbaaGreatDoor.D
open Go.Shelf
def sO:Go.Shelf.Ren:=⟨fun | 7=>58 | 10=>95 | n=>n,fun | 23=>91 | 26=>3 | 3=>119 | 28=>116 | 0=>0 | 27=>115 | 33=>160 | 4=>4 | n=>n,fun | n=>n⟩
theorem HC:Go.Proofs.SlLaysZI.n7 Tryz.prog sO:={
 mixed:=by kernel_rfl
 f7:=⟨Tryz.f58.name,by decide,Tryz.func58.trans (congrArg some (by kernel_rfl))⟩
 f10:=⟨Tryz.f95.name,by decide,Tryz.func95.trans (congrArg some (by kernel_rfl))⟩
 t0:=Tryz.underlying0
 a0:=Tryz.isAgg0
 z0:=Tryz.sizeOf0
 v0:=Tryz.zeroValue0
 t4:=Tryz.underlying4
 a4:=Tryz.isAgg4
 z4:=Tryz.sizeOf4
 v4:=Tryz.zeroValue4
 t23:=Tryz.underlying91
 a23:=Tryz.isAgg91
 z23:=Tryz.sizeOf91
 v23:=Tryz.zeroValue91
 t26:=Tryz.underlying3
 a26:=Tryz.isAgg3
 z26:=Tryz.sizeOf3
 v26:=Tryz.zeroValue3
 t27:=Tryz.underlying115
 a27:=Tryz.isAgg115
 z27:=Tryz.sizeOf115
 v27:=Tryz.zeroValue115
 t28:=Tryz.underlying116
 a28:=Tryz.isAgg116
 z28:=Tryz.sizeOf116
 v28:=Tryz.zeroValue116
 t33:=Tryz.underlying160
 a33:=Tryz.isAgg160
 z33:=Tryz.sizeOf160
 v33:=Tryz.zeroValue160}
def pc:Go.Shelf.Ren:=⟨fun | 6=>57 | 8=>93 | 9=>94 | 11=>133 | 13=>135 | 12=>134 | 23=>170 | 24=>171 | 14=>161 | 15=>162 | 16=>163 | 17=>164 | 18=>165 | 19=>166 | 20=>167 | 21=>168 | 22=>169 | 25=>187 | 26=>188 | 27=>189 | 28=>190 | 29=>191 | 30=>192 | 31=>203 | n=>n,fun | 26=>3 | 28=>116 | 24=>113 | 0=>0 | 3=>3 | 37=>201 | 48=>170 | 50=>32 | 4=>4 | 40=>257 | 39=>256 | 45=>35 | 5=>5 | 9=>9 | 51=>280 | 55=>283 | 57=>293 | 58=>294 | 33=>160 | n=>n,fun | n=>n⟩
theorem Fm:Go.Proofs.SlLaysZI.n6 Tryz.prog pc:={
 mixed:=by kernel_rfl
 f6:=⟨Tryz.f57.name,by decide,Tryz.func57.trans (congrArg some (by kernel_rfl))⟩
 f8:=⟨Tryz.f93.name,by decide,Tryz.func93.trans (congrArg some (by kernel_rfl))⟩
 f11:=⟨Tryz.f133.name,by decide,Tryz.func133.trans (congrArg some (by kernel_rfl))⟩
 t0:=Tryz.underlying0
 a0:=Tryz.isAgg0
 z0:=Tryz.sizeOf0
 v0:=Tryz.zeroValue0
 t24:=Tryz.underlying113
 a24:=Tryz.isAgg113
 z24:=Tryz.sizeOf113
 v24:=Tryz.zeroValue113
 t26:=Tryz.underlying3
 a26:=Tryz.isAgg3
 z26:=Tryz.sizeOf3
 v26:=Tryz.zeroValue3
 t28:=Tryz.underlying116
 a28:=Tryz.isAgg116
 z28:=Tryz.sizeOf116
 v28:=Tryz.zeroValue116
 i26:=by kernel_rfl}
def BU:Go.Shelf.Ren:=⟨fun | 5=>94 | 8=>135 | 7=>134 | 19=>170 | 20=>171 | 10=>161 | 11=>162 | 12=>163 | 13=>164 | 14=>165 | 15=>166 | 16=>167 | 17=>168 | 18=>169 | 30=>187 | 31=>188 | 32=>189 | 33=>190 | 34=>191 | 35=>192 | 40=>203 | n=>n,fun | 23=>113 | 25=>3 | 3=>3 | 32=>201 | 22=>113 | 0=>0 | 44=>170 | 46=>32 | 4=>4 | 36=>257 | 35=>256 | 41=>35 | 5=>5 | 9=>9 | 53=>280 | 57=>283 | 63=>293 | 64=>294 | n=>n,fun | n=>n⟩
theorem FG:Go.Proofs.SlLaysM.n5 Tryz.prog BU:={
 mixed:=by kernel_rfl
 f5:=⟨Tryz.f94.name,by decide,Tryz.func94.trans (congrArg some (by kernel_rfl))⟩
 f7:=⟨Tryz.f134.name,by decide,Tryz.func134.trans (congrArg some (by kernel_rfl))⟩
 f8:=Tryz.func135.trans (congrArg some (by kernel_rfl))
 f10:=⟨Tryz.f161.name,by decide,Tryz.func161.trans (congrArg some (by kernel_rfl))⟩
 f11:=⟨Tryz.f162.name,by decide,Tryz.func162.trans (congrArg some (by kernel_rfl))⟩
 f12:=⟨Tryz.f163.name,by decide,Tryz.func163.trans (congrArg some (by kernel_rfl))⟩
 f13:=⟨Tryz.f164.name,by decide,Tryz.func164.trans (congrArg some (by kernel_rfl))⟩
 f14:=⟨Tryz.f165.name,by decide,Tryz.func165.trans (congrArg some (by kernel_rfl))⟩
 f15:=⟨Tryz.f166.name,by decide,Tryz.func166.trans (congrArg some (by kernel_rfl))⟩
 f16:=⟨Tryz.f167.name,by decide,Tryz.func167.trans (congrArg some (by kernel_rfl))⟩
 f17:=⟨Tryz.f168.name,by decide,Tryz.func168.trans (congrArg some (by kernel_rfl))⟩
 f18:=⟨Tryz.f169.name,by decide,Tryz.func169.trans (congrArg some (by kernel_rfl))⟩
 f19:=Tryz.func170.trans (congrArg some (by kernel_rfl))
 f20:=Tryz.func171.trans (congrArg some (by kernel_rfl))
 f30:=⟨Tryz.f187.name,by decide,Tryz.func187.trans (congrArg some (by kernel_rfl))⟩
 f31:=Tryz.func188.trans (congrArg some (by kernel_rfl))
 f32:=Tryz.func189.trans (congrArg some (by kernel_rfl))
 f33:=⟨Tryz.f190.name,by decide,Tryz.func190.trans (congrArg some (by kernel_rfl))⟩
 f34:=⟨Tryz.f191.name,by decide,Tryz.func191.trans (congrArg some (by kernel_rfl))⟩
 f35:=⟨Tryz.f192.name,by decide,Tryz.func192.trans (congrArg some (by kernel_rfl))⟩
 f40:=⟨Tryz.f203.name,by decide,Tryz.func203.trans (congrArg some (by kernel_rfl))⟩
 t0:=Tryz.underlying0
 a0:=Tryz.isAgg0
 z0:=Tryz.sizeOf0
 v0:=Tryz.zeroValue0
 t3:=Tryz.underlying3
 a3:=Tryz.isAgg3
 z3:=Tryz.sizeOf3
 v3:=Tryz.zeroValue3
 t4:=Tryz.underlying4
 a4:=Tryz.isAgg4
 z4:=Tryz.sizeOf4
 v4:=Tryz.zeroValue4
 t5:=Tryz.underlying5
 a5:=Tryz.isAgg5
 z5:=Tryz.sizeOf5
 v5:=Tryz.zeroValue5
 t9:=Tryz.underlying9
 a9:=Tryz.isAgg9
 z9:=Tryz.sizeOf9
 v9:=Tryz.zeroValue9
 t22:=Tryz.underlying113
 a22:=Tryz.isAgg113
 z22:=Tryz.sizeOf113
 v22:=Tryz.zeroValue113
 t23:=Tryz.underlying113
 a23:=Tryz.isAgg113
 z23:=Tryz.sizeOf113
 v23:=Tryz.zeroValue113
 t25:=Tryz.underlying3
 a25:=Tryz.isAgg3
 z25:=Tryz.sizeOf3
 v25:=Tryz.zeroValue3
 t32:=Tryz.underlying201
 a32:=Tryz.isAgg201
 z32:=Tryz.sizeOf201
 v32:=Tryz.zeroValue201
 t35:=Tryz.underlying256
 a35:=Tryz.isAgg256
 z35:=Tryz.sizeOf256
 v35:=Tryz.zeroValue256
 t36:=Tryz.underlying257
 a36:=Tryz.isAgg257
 z36:=Tryz.sizeOf257
 v36:=Tryz.zeroValue257
 t41:=Tryz.underlying35
 a41:=Tryz.isAgg35
 z41:=Tryz.sizeOf35
 v41:=Tryz.zeroValue35
 t44:=Tryz.underlying170
 a44:=Tryz.isAgg170
 z44:=Tryz.sizeOf170
 v44:=Tryz.zeroValue170
 t46:=Tryz.underlying32
 a46:=Tryz.isAgg32
 z46:=Tryz.sizeOf32
 v46:=Tryz.zeroValue32
 t53:=Tryz.underlying280
 a53:=Tryz.isAgg280
 z53:=Tryz.sizeOf280
 v53:=Tryz.zeroValue280
 t57:=Tryz.underlying283
 a57:=Tryz.isAgg283
 z57:=Tryz.sizeOf283
 v57:=Tryz.zeroValue283
 t63:=Tryz.underlying293
 a63:=Tryz.isAgg293
 z63:=Tryz.sizeOf293
 v63:=Tryz.zeroValue293
 t64:=Tryz.underlying294
 a64:=Tryz.isAgg294
 z64:=Tryz.sizeOf294
 v64:=Tryz.zeroValue294}
end Go.Proofs.YtomdimlnggpgbaaGreatDoor.D
namespace Go.Proofs.YtomdimlnggpgbaaGreatDoor.D
open Go Go.Sx Go.RowKit Go.Maps Go.Sort Go.Shelf
abbrev Ak:FuncId:=57
abbrev nN:FuncId:=95
theorem GK (m:Nat):AnyZI.SortsIn Tryz.prog pc Fence.wide m :=
 ⟨fun aS off cap ss W hH hblk hsz=>callsIn_wide.2 (AnyM.slices_Sort_int FG aS off cap ss W hH hblk hsz),
  fun p cap W=>callsIn_wide.2 (AnyM.slices_Sort_int_none FG p cap W)⟩
def cP (l:List Int):List Int:=l.mergeSort (fun x y=>decide (x≤y))
theorem zy {a b:List Int} (h:a.Perm b):cP a=cP b:=by
 unfold cP
 have tr:∀ (a b c:Int),decide (a≤b)=true→decide (b≤c)=true→decide (a≤c)=true:=fun a b c h1 h2=>decide_eq_true (by have:=of_decide_eq_true h1;have:=of_decide_eq_true h2;omega)
 have tt:∀ (a b:Int),(decide (a≤b)||decide (b≤a))=true:=fun a b=>by
  rcases Int.le_total a b with h | h<;>simp [h]
 refine List.Perm.eq_of_pairwise (le:=fun a b=>decide (a≤b)=true) (fun a b _ _ h1 h2=>by have:=of_decide_eq_true h1;have:=of_decide_eq_true h2;omega) (List.pairwise_mergeSort tr tt a) (List.pairwise_mergeSort tr tt b) ?_
 exact((List.mergeSort_perm a _).trans h).trans (List.mergeSort_perm b _).symm
theorem jU (l:List Int):(cP l).length=l.length:=(List.mergeSort_perm l _).length_eq
theorem lF {l:List Int} {x:Int} : x∈cP l↔x∈l:=(List.mergeSort_perm l _).mem_iff
def rX (_:Value):Option (DataW Unit×List MemPlace):=some (.nil,[])
theorem Gk {es:Array MapEntry} {l:List (Int×Value)} (hM:fh .i64 es l) (hr:∀ p∈l,-9223372036854775808≤p.1∧p.1≤9223372036854775807):∀ x∈es.toList,∃ n:Int,x.key=.int .i64 n∧WideElems.rd Tryz.prog 3 rX x=some (.int .i64 n,.nil):=by
 intro x hx
 have:(x.key,x.val)∈l.map fun p=>(Value.int .i64 p.1,p.2):=by
  rw[←show es.toList.map (fun e=>(e.key,e.val))=_ from hM]
  exact List.mem_map.2 ⟨x,hx,rfl⟩
 obtain⟨q,hq,e⟩:=List.mem_map.1 this
 rw[Prod.mk.injEq]at e
 have hb:=hr q hq
 refine⟨q.1,e.1.symm,?_⟩
 have hw:(Lit.int .i64 q.1).wf=true:=by
  simp only[Lit.wf,IntKind.min,IntKind.max,IntKind.signed,IntKind.bits,Bool.and_eq_true,decide_eq_true_eq]
  simp
  omega
 unfold WideElems.rd keyOf
 rw[←e.1]
 simp only[Tryz.underlying3]
 unfold mapKey
 simp only[Tryz.underlying3,hw]
 rfl
theorem vi (Bm b:Nat) {es:Array MapEntry} {clock:Nat} {l:List (Int×Value)} (w:World) (hBm:Bm<w.heap.size) (hm:w.cell? ⟨Bm,0,none⟩=some (.map (some b))) (hb:w.heap[b]?=some (.map es clock)) (hM:fh .i64 es l) (hst:MapKept.Stamped es clock)
 (hr:∀ p∈l,-9223372036854775808≤p.1∧p.1≤9223372036854775807) (hsz:l.length≤1000000) :
 Calls Tryz.prog Ak #[.func (.func nN) #[] #[.pointer (some ⟨Bm,0,none⟩)]] w fun e w'=>∃ v,e=.returned v∧w'.ownsRow w.heap.size 3 1 v l.length ((cP (l.map (·.1))).map (Value.int .i64))∧RowKit.Below w.heap.size w w':=by
 have hsize:es.size=l.length:=hM.size
 have hrd:=Gk hM hr
 have hown:w.ownsMap Tryz.prog 3 rX b l.length (.map ((es.toList.map (WideElems.rg Tryz.prog 3 rX)).foldr DataW.insert [])) :=
  ⟨es,clock,hb,⟨by rw[hsize];unfold maxLen;omega,hst,fun x hx=>by obtain⟨n,_,h⟩:=hrd x hx;exact⟨_,h⟩⟩,by rw[hsize];exact Nat.le_refl _,rfl⟩
 have hms:Maps.size (.map ((es.toList.map (WideElems.rg Tryz.prog 3 rX)).foldr DataW.insert []))=l.length:=by
  show((es.toList.map (WideElems.rg Tryz.prog 3 rX)).foldr DataW.insert []).length=_
  rw[DataW.length_sorted,List.length_map,Array.length_toList,hsize]
 have hseq:SeqGives Fence.wide 2 Tryz.prog nN #[.pointer (some ⟨Bm,0,none⟩)] encZ (fun ss=>ss.Perm (intKeys (.map ((es.toList.map (WideElems.rg Tryz.prog 3 rX)).foldr DataW.insert [])))) (Maps.size (.map ((es.toList.map (WideElems.rg Tryz.prog 3 rX)).foldr DataW.insert []))) w :=
  AnyZI.keys_gives (ρ:=sO) {HC with} Fence.wide _ trivial rfl (by omega) Bm b l.length _ w hBm hm hown
 have cS:=AnyZI.sorted_in Fm Fence.wide 5 trivial trivial trivial trivial rfl (by omega) (GK _) (enters_of Tryz.func94 (by kernel_rfl) rfl) nN #[.pointer (some ⟨Bm,0,none⟩)] trivial (enters_of Tryz.func95 (by kernel_rfl) rfl) _ _ (by rw[hms];unfold maxLen;omega) (by rw[hms];omega) _ hseq
 have cS:=callsIn_wide.1 cS
 refine Calls.mono cS ?_
 rintro e w' ⟨v,ss,rfl,hS,hrow,_,hbl⟩
 have hp:ss.Perm (l.map (·.1)):=by
  refine hS.trans ?_
  simp only[intKeys]
  refine((WideShapes.sorted_perm _).map _).trans (List.Perm.of_eq ?_)
  have h1:es.toList.map (fun e=>e.key)=l.map fun p=>Value.int .i64 p.1:=by
   have:=congrArg (List.map Prod.fst) (show es.toList.map (fun e=>(e.key,e.val))=l.map fun p=>(Value.int .i64 p.1,p.2)from hM)
   rw[List.map_map,List.map_map]at this
   exact this
  have h2:es.toList.map (fun e=>fg (some e.key))=l.map (·.1):=by
   have:=congrArg (List.map fun v=>fg (some v)) h1
   rw[List.map_map,List.map_map]at this
   exact this
  rw[←h2,List.map_map]
  refine List.map_congr_left fun x hx=>?_
  obtain⟨n,hk,hd⟩:=hrd x hx
  simp only[Function.comp_apply,WideElems.rg,hd,hk]
  rfl
 have hl:ss.length=l.length:=by rw[hp.length_eq,List.length_map]
 have hs:ss.mergeSort (fun x y=>decide (x≤y))=cP (l.map (·.1)):=zy hp
 rw[hl,hs]at hrow
 exact⟨v,rfl,hrow,hbl⟩
def lG:Sx.Spec where
 fn:=Ak
 own:=[]
 rd:=[0,200]
 res:=[.one .sl]
 pre:=fun xs Hs Rs=>∃ (x m:Nat) (es:Array MapEntry) (clock:Nat) (l:List (Int×Value)) (R1 R2:Hl),xs=[.func (.func nN) #[] #[.pointer (some ⟨x,0,none⟩)]]∧Rs=[R1,R2]∧R1.cell x 0=some (.map (some m))∧R2 m=some (.map es clock)∧fh .i64 es l∧MapKept.Stamped es clock∧(∀ p∈l,-9223372036854775808≤p.1∧p.1≤9223372036854775807)∧l.length≤1000000
 post:=fun xs Hs Rs v Hs' F=>∃ (x m:Nat) (es:Array MapEntry) (clock:Nat) (l:List (Int×Value)) (R1 R2:Hl),xs=[.func (.func nN) #[] #[.pointer (some ⟨x,0,none⟩)]]∧Rs=[R1,R2]∧R1.cell x 0=some (.map (some m))∧R2 m=some (.map es clock)∧fh .i64 es l∧bR F 3 1 v l.length ((cP (l.map (·.1))).map (Value.int .i64))
theorem zA:lG.OK Tryz.prog:=by
 intro w xs Hs Rs hl1 hl2 hs1 hs2 hd1 hd2 ⟨x,m,es,clock,l,R1,R2,hx,hR,hc,hm,hM,hst,hr,hsz⟩
 have e0:Hs=[]:=List.length_eq_zero_iff.1 hl1
 subst e0;subst hx;subst hR
 have s1:R1.sub w:=(hs2 R1 (by simp))
 have s2:R2.sub w:=hs2 R2 (by simp)
 have hcell:=Hl.fm s1 hc
 have hx:x<w.heap.size:=by
  unfold Hl.cell at hc
  split at hc
  ·rename_i hb;exact(Array.getElem?_eq_some_iff.1 (s1 _ _ hb)).1
  ·cases hc
 refine(vi x m w hx hcell (s2 _ _ hm) hM hst hr hsz).mono ?_
 rintro e w' ⟨v,rfl,⟨hlen,hrow⟩,hbl⟩
 have post:∀ F:Hl,bR F 3 1 v l.length ((cP (l.map (·.1))).map (Value.int .i64))→lG.post [.func (.func nN) #[] #[.pointer (some ⟨x,0,none⟩)]] [] [R1,R2] v [] F:=fun F hF=>⟨x,m,es,clock,l,R1,R2,rfl,rfl,hc,hm,hM,hF⟩
 rcases hrow with ⟨rfl,hn⟩ | ⟨g,cap,cur,rfl,hg,hcur,hle,hmx,hcs,ht⟩
 ·refine⟨⟨fun k=>[-1,0,0,0].getD k 0,fun _=>false,fun _=>.empty,fun _=>.tuple #[],fun _=>Hl.none⟩,[],Hl.none,rfl,⟨⟨by show(-1:Int)≤ -1;omega,Int.le_refl _,Int.le_refl _,Int.le_refl _⟩,trivial⟩,⟨hbl.os,hbl.tape,hbl.output,hbl.size,fun b hl _=>hbl.block b hl,rfl,(fun _ h=>nomatch h),(fun _ _ h=>nomatch h),(fun _ h=>nomatch h),(fun b h=>by simp [Hl.mem,Hl.none]at h),(fun p _ _ _ _ h=>by simp at h),(fun _ h=>nomatch h)⟩,post _ ⟨hlen,Or.inl ⟨rfl,hn⟩⟩⟩
 ·refine⟨⟨fun k=>[(g:Int),0,l.length,cap].getD k 0,fun _=>false,fun _=>.empty,fun _=>.tuple #[],fun _=>Hl.none⟩,[],Hl.one g (.cells cur 3 (0,0)),?_,⟨⟨by show(-1:Int)≤(g:Int);omega,Int.le_refl _,by show(0:Int)≤(l.length:Int);omega,by show(0:Int)≤(cap:Int);omega⟩,trivial⟩,⟨hbl.os,hbl.tape,hbl.output,hbl.size,fun b hl _=>hbl.block b hl,rfl,(fun _ h=>nomatch h),?_,(fun _ h=>nomatch h),?_,(fun p _ _ _ _ h=>by simp at h),(fun _ h=>nomatch h)⟩,?_⟩
  ·show _=Ending.returned (Value.slice (ar (g:Int) 0) ((l.length:Int)).toNat ((cap:Int)).toNat)
   rw[aq (by omega),Int.toNat_natCast,Int.toNat_natCast,Int.toNat_natCast];rfl
  ·intro b o hb
   obtain⟨rfl,rfl⟩:=Hl.jb hb
   exact hcur
  ·intro b hb
   rw[Hl.cI]at hb
   subst hb;exact Or.inr hg
  ·have e:(df 0 lG.res).ev ⟨fun k=>[(g:Int),0,l.length,cap].getD k 0,fun _=>false,fun _=>.empty,fun _=>.tuple #[],fun _=>Hl.none⟩=.slice (some ⟨g,0,none⟩) l.length cap:=by
    show Value.slice (ar (g:Int) 0) ((l.length:Int)).toNat ((cap:Int)).toNat=_
    rw[aq (by omega),Int.toNat_natCast,Int.toNat_natCast,Int.toNat_natCast];rfl
   rw[e]
   exact post _ ⟨hlen,Or.inr ⟨g,cap,cur,rfl,Hl.bE _ _,hle,hmx,hcs,ht⟩⟩
end Go.Proofs.YtomdimlnggpgbaaGreatDoor.D
namespace Go.Proofs.YtomdimlnggpgbaaGreatDoor.D
open Go Go.Sx
def bl (fate:List Int) (i:Nat):Int:=if fate=[]then 0 else fate.getD (i%fate.length) 0
def fp (loose:List (Int×List Int)) (k:Int):List Int:=match loose.find? fun p=>p.1==k with
 | some p=>p.2
 | none=>[]
def fX (now:List Int) (k:Int):List Int:=(now.drop (64*k.toNat)).take 64
def dL (loose:List (Int×List Int)) (fate now ks:List Int):Nat→List Int
 | 0=>now
 | i+1=>bG (dL loose fate now ks i) (64*(ks.getD i 0).toNat) (bZ (fp loose (ks.getD i 0)) (fX (dL loose fate now ks i) (ks.getD i 0)) (bl fate i))
def aZ (D:DM) (fate:List Int):DM:=⟨D.n,dL D.loose fate D.now (cP (D.loose.map (·.1))) D.loose.length,[],-1,false⟩
theorem fi {D:DM} (h:D.ok) (fate ks:List Int) (hk:∀ k∈ks,0≤k∧k<D.n):∀ i,i≤ks.length→(dL D.loose fate D.now ks i).length=64*D.n
 | 0,_=>h.now
 | i+1,hi=>by
  have ih:=fi h fate ks hk i (by omega)
  have hm:ks.getD i 0∈ks:=by
   rw[List.getD_eq_getElem?_getD,List.getElem?_eq_getElem (by omega),Option.getD_some]
   exact List.getElem_mem _
  have hb:=hk _ hm
  unfold dL
  rw[je (by rw[b7,ih];omega),ih]
theorem sD {D:DM} (h:D.ok) (fate:List Int):(aZ D fate).ok:=by
 refine⟨fi h fate _ (fun k hk=>?_) _ (by rw[jU,List.length_map];exact Nat.le_refl _),h.n,by show(-1:Int)≤ -1;omega,by show(-1:Int)≤_;omega,fun p hp=>by cases hp⟩
 obtain⟨p,hp,rfl⟩:=List.mem_map.1 (lF.1 hk)
 exact(h.loose p hp).2
theorem E5 {F:Hl} {e:TypeId} {x y l c:Int} {n:Nat} {ks:List Int} (h:bR F e 1 (.slice (ar x y) l.toNat c.toNat) n (ks.map (Value.int .i64))) (hx:-1≤x) (hy:0≤y) (hl:0≤l):l=n∧n=ks.length∧∀ j:Nat,j<n→0≤x∧F.cell x.toNat (y.toNat+j)=some (.int .i64 (ks.getD j 0)):=by
 obtain⟨hlen,h⟩:=h
 rw[List.length_map,Nat.mul_one]at hlen
 rcases h with ⟨h,hn⟩ | ⟨g,cap,cur,h,hg,hle,hm,hs,ht⟩
 ·simp only[Value.slice.injEq]at h
  exact⟨by omega,hlen.symm,fun j hj=>by omega⟩
 ·simp only[Value.slice.injEq]at h
  obtain⟨h1,h2,h3⟩:=h
  refine⟨by omega,hlen.symm,fun j hj=>?_⟩
  have hx0:0≤x:=by
   rcases Int.lt_or_le x 0 with h | h
   ·rw[show x= -1 by omega,cW]at h1;cases h1
   ·exact h
  rw[aq hx0]at h1
  simp only[Option.some.injEq,Addr.mk.injEq,and_true]at h1
  obtain⟨rfl,h1⟩:=h1
  refine⟨hx0,?_⟩
  unfold Hl.cell
  rw[hg,h1,Nat.zero_add]
  have:cur.toList[j]?=some (.int .i64 (ks.getD j 0)):=by
   have e:(ks.map (Value.int .i64))[j]?=some (.int .i64 (ks.getD j 0)):=by
    rw[List.getElem?_map,List.getElem?_eq_getElem (by omega),List.getD_eq_getElem?_getD,List.getElem?_eq_getElem (by omega)];rfl
   rw[←ht,List.getElem?_take,if_pos (by omega)]at e
   exact e
  simpa using this
theorem Bu {loose:List (Int×List Int)} {k:Int} : ∀ (n:Nat),(∃ p∈loose,p.1=k)→∃ j,dP k (lv loose) n=some (j,.agg (cn (fp loose k)).toArray):=by
 induction loose with
 | nil=>rintro n ⟨p,hp,_⟩;cases hp
 | cons p l ih =>
  rintro n hex
  show ∃ j,(if k=p.1 then some (n,Value.agg (cn p.2).toArray)else dP k (lv l) (n+1))=_
  by_cases hk:k=p.1
  ·subst hk
   rw[if_pos rfl]
   exact⟨n,by simp [fp]⟩
  ·rw[if_neg hk]
   obtain⟨q,hq,e⟩:=hex
   have hq':q∈l:=by
    rcases List.mem_cons.1 hq with rfl | h
    ·exact absurd e.symm hk
    ·exact h
   obtain⟨j,hj⟩:=ih (n+1) ⟨q,hq',e⟩
   refine⟨j,by rw[hj];simp [fp,show(p.1==k)=false by simpa using fun e=>hk e.symm]⟩
theorem vw {D:DM} (h:D.ok) {k:Int} (hex:∃ p∈D.loose,p.1=k):(fp D.loose k).length=64:=by
 unfold fp
 split
 ·rename_i p hp
  exact(h.loose p (List.mem_of_find?_eq_some hp)).1
 ·rename_i hn
  obtain⟨p,hp,e⟩:=hex
  have:=List.find?_eq_none.1 hn p hp
  simp [e]at this
def CL (D:DM) (fate:List Int) (s:Nat) (j:Nat) (q:Env):Prop:=match j with
 | 0=>∃ i:Nat,q.i 30=i∧i≤D.loose.length∧q.h 31=gk s (dL D.loose fate D.now (cP (D.loose.map (·.1))) i)
 | _=>q.i 33=bl fate (q.i 30).toNat
def ql:List Sx.Spec:=[lG,tA]
theorem Bc:∀ t∈ql,t.OK Tryz.prog:=by
 intro t ht
 simp only[ql,List.mem_cons,List.mem_nil_iff,or_false]at ht
 rcases ht with rfl | rfl
 ·exact zA
 ·exact Ee
def qk:Sx.Spec where
 fn:=18
 own:=[.arg 0]
 rd:=[1]
 res:=[]
 pre:=fun xs Hs Rs=>∃ p u bs H R D,xs=[p,u]∧Hs=[H]∧Rs=[R]∧aj H p D∧fw R u bs∧(∀ b∈bs,0≤b∧b<256)∧D.loose.length≤1000000
 post:=fun xs Hs Rs v Hs' F=>∃ p u bs H R D H',xs=[p,u]∧Hs=[H]∧Rs=[R]∧aj H p D∧fw R u bs∧Hs'=[H']∧aj H' p (aZ D bs)
def uc:Nd:=.ext (.alloc 16) (.and (.pre (.call 0 17 [.sv (.one (.clo 95 (.var 16)))] [] [.aS 16 [.map (.var 10)] 91,.hp 14 [] [.var 10] []])) (.ext (.call 0 17 [.sv (.one (.clo 95 (.var 16)))] [] [.aS 16 [.map (.var 10)] 91,.hp 14 [] [.var 10] []]) (.and (.e (.le (.lit 0) (.var 19))) (.and (.inv 0 [⟨30,0,.int .i64 (.lit 0)⟩] [(31,some 13)]) (.havoc 0 0 21 (.and (.imp (.lt (.var 30) (.var 19)) (.and (.e (.le (.lit 0) (.var 17))) (.and (.e (.le (.lit 0) (.var 18))) (.and (.e (.le (.lit 0) (.var 30))) (.and (.e (.his 17 (.var 17) (.add (.var 18) (.var 30)) 0 (.int .i64))) (.and (.and (.e (.le (.lit 0) (.var 3))) (.and (.imp (.lt (.lit 0) (.var 3)) (.and (.e (.le (.lit 0) (.var 1))) (.and (.e (.le (.lit 0) (.var 2))) (.and (.e (.le (.lit 0) (.rem (.var 30) (.var 3)))) (.and (.e (.lt (.rem (.var 30) (.var 3)) (.var 3))) (.and (.e (.his 15 (.var 1) (.add (.var 2) (.rem (.var 30) (.var 3))) 0 (.int .u8))) (.inv 1 [⟨33,0,.int .i64 (.hI 15 (.var 1) (.add (.var 2) (.rem (.var 30) (.var 3))) 0)⟩] []))))))) (.imp (.not (.lt (.lit 0) (.var 3))) (.inv 1 [⟨33,0,.int .i64 (.lit 0)⟩] [])))) (.havoc 1 1 32 (.and (.e (.le (.lit 0) (.var 6))) (.and (.e (.le (.lit 0) (.var 7))) (.and (.e (.le (.lit 0) (.hI 17 (.var 17) (.add (.var 18) (.var 30)) 0))) (.and (.e (.lt (.hI 17 (.var 17) (.add (.var 18) (.var 30)) 0) (.var 8))) (.and (.e (.hby 31 (.var 6) (.add (.var 7) (.mul (.hI 17 (.var 17) (.add (.var 18) (.var 30)) 0) (.lit 64))) (.lit 64))) (.and (.pre (.mget 34 14 (.var 10) (.int .i64) (.int .i64 (.hI 17 (.var 17) (.add (.var 18) (.var 30)) 0)) (.agg (List.replicate 64 (CV.int .u8 (.lit 0)))) (List.replicate 64 (Ck.int .u8)) true)) (.ext (.mget 34 14 (.var 10) (.int .i64) (.int .i64 (.hI 17 (.var 17) (.add (.var 18) (.var 30)) 0)) (.agg (List.replicate 64 (CV.int .u8 (.lit 0)))) (List.replicate 64 (Ck.int .u8)) true) (.and (.pre (.call 1 99 [.sv (.agg (al 34 (List.replicate 64 (Ck.int .u8)))),.sv (.agg (bz 31 (.var 6) (.add (.var 7) (.mul (.hI 17 (.var 17) (.add (.var 18) (.var 30)) 0) (.lit 64))) 0 (List.replicate 64 (Kd.int .u8)))),.sv (.one (.int .u8 (.var 33)))] [] [])) (.ext (.call 1 99 [.sv (.agg (al 34 (List.replicate 64 (Ck.int .u8)))),.sv (.agg (bz 31 (.var 6) (.add (.var 7) (.mul (.hI 17 (.var 17) (.add (.var 18) (.var 30)) 0) (.lit 64))) 0 (List.replicate 64 (Kd.int .u8)))),.sv (.one (.int .u8 (.var 33)))] [] []) (.and (.pre (.put 163 31 (.var 6) (.add (.var 7) (.mul (.hI 17 (.var 17) (.add (.var 18) (.var 30)) 0) (.lit 64))) (al 99 (List.replicate 64 (Ck.int .u8))))) (.ext (.put 163 31 (.var 6) (.add (.var 7) (.mul (.hI 17 (.var 17) (.add (.var 18) (.var 30)) 0) (.lit 64))) (al 99 (List.replicate 64 (Ck.int .u8)))) (.back 0 0 [⟨30,0,.int .i64 (.wrap .i64 (.add (.var 30) (.lit 1)))⟩] [(31,some 163)]))))))))))))))))))) (.imp (.not (.lt (.var 30) (.var 19))) (.and (.pre (.mclr 32 14 (.var 10))) (.ext (.mclr 32 14 (.var 10)) (.post [.aS 0 [.sl (.var 6) (.var 7) (.var 8) (.var 9),.map (.var 10),.int .i64 (.lit (-1)),.bool .ff] 93,.hp 31 [] [.var 6] [],.hp 32 [14] [.var 10] [],.ro 15 [.var 1] false,.dead,.hp 17 [] [.var 17] []] (.tup [])))))))))))
def F':cy Tryz.prog ql qk.fn where
 Λ:=fun p=>if lp p then some ⟨0,[(14,TI .i64 (.var 30))],[(1,.hp 31 [] [.var 6] [])],32⟩else
  if cutAt p [18,0,1,0,0,1,1,0,0,1,1,0]then some ⟨1,[(6,TI .u8 (.var 33))],[],34⟩else none
 args:=[TP (.var 0) (.lit 0),.sv (.one (.sl (.var 1) (.var 2) (.var 3) (.var 4)))]
 mem:=mQ++[.ro 15 [.var 1] false]
 nv:=16
 nd:=uc
 ok:=by kernel_rfl
theorem KG:ql[0]?=some lG:=rfl
theorem KH:ql[1]?=some tA:=rfl
theorem KI:lG.res=[.one .sl]:=rfl
theorem KJ:tA.res=[.agg cJ]:=rfl
theorem KF:(bO 0 [Cp.one .sl]≠[])=True:=by simp [bO,Cp.roots,Ck.root]
theorem Ef {was now:List Int} (h1:was.length=64) (h2:now.length=64) {k:Int} (k0:0≤k∧k<256):tA.pre [.agg (cn was).toArray,.agg (cn now).toArray,.int .u8 k] [] []:=by
 obtain⟨a,_,_,ea⟩:=gF cJ 0 (cn was) ⟨fun _=>0,fun _=>false,fun _=>.empty,fun _=>.tuple #[],fun _=>Hl.none⟩ (eX 64 _ h1)
 obtain⟨b,gb,_,eb⟩:=gF cJ 64 (cn now) a (eX 64 _ h2)
 obtain⟨c,gc,_,ec⟩:=gF [.int .u8] 128 [.int .u8 k] b ⟨by simp [cx,kq],trivial⟩
 have gac:ae 64 a c:=gb.trans (gc.mono (by omega))
 have e1:(al 0 cJ).map (CV.ev c)=cn was:=by rw[CV.dJ gac _ (cr cJ 0)];exact ea
 have e2:(al 64 cJ).map (CV.ev c)=cn now:=by rw[CV.dJ gc _ (cr cJ 64)];exact eb
 refine⟨⟨c,⟨fQ c 64 0,fQ c 64 64,trivial,trivial⟩,?_⟩,k0⟩
 show [Value.agg (cn was).toArray,Value.agg (cn now).toArray,Value.int .u8 k]=[Value.agg ((al 0 cJ).map (CV.ev c)).toArray,Value.agg ((al 64 cJ).map (CV.ev c)).toArray,CV.ev c (.int .u8 (.var 128))]
 rw[e1,e2]
 have ec:[CV.ev c (.int .u8 (.var 128))]=[Value.int .u8 k]:=ec
 rw[List.cons.injEq]at ec
 rw[ec.1]
theorem uh {bs:List Int} (hb:∀ b∈bs,0≤b∧b<256) (i:Nat):0≤bl bs i∧bl bs i<256:=by
 unfold bl
 split
 ·omega
 ·rename_i h
  have hl:0<bs.length:=List.length_pos_iff.2 h
  have hm:=Nat.mod_lt i hl
  rw[List.getD_eq_getElem?_getD,List.getElem?_eq_getElem hm,Option.getD_some]
  exact hb _ (List.getElem_mem _)
theorem xq {now:List Int} (s:Nat) (key:Int):∀ j z,(fX now key)[j]?=some z→(gk s now).cell s (64*key.toNat+j)=some (.int .u8 z):=by
 intro j z hz
 unfold gk
 rw[Hl.one_cell,List.getElem?_toArray,dw]
 unfold fX at hz
 rw[List.getElem?_take]at hz
 split at hz
 ·rw[List.getElem?_drop]at hz
  rw[hz];rfl
 ·cases hz
theorem uX {now:List Int} {n:Nat} (hn:now.length=64*n) {key:Int} (h0:0≤key) (h1:key<n):(fX now key).length=64:=by
 unfold fX
 rw[List.length_take,List.length_drop,hn];omega
set_option maxRecDepth 20000 in
theorem Ba:qk.OK Tryz.prog:=by
 refine Spec.b8 Bc ?_
 rintro xs Hs Rs hl1 hl2 ⟨p,u,bs,H,R,D,rfl,rfl,rfl,⟨a,s,m,es,clock,rfl,h⟩,⟨x,y,cp,rfl,hy,hR⟩,hb,hL⟩
 refine⟨F',jk a s m D [x,y,bs.length,cp,0] es clock R,CL D bs s,fun _ q=>(D.loose.length-q.i 30).toNat,?_,Ab h _ rfl _ _,(fun _ h=>nomatch h),?_⟩
 ·show [Value.pointer (ar (a:Int) 0),Value.slice (ar x y) ((bs.length:Int)).toNat ((cp:Int)).toNat]=_
  rw[fc,Int.toNat_natCast,Int.toNat_natCast]
 ·show Nd.holds _ _ _ uc
  have hρ0:∃ ρ,ρ=jk a s m D [x,y,bs.length,cp,0] es clock R:=⟨_,rfl⟩
  obtain⟨ρ,hρ⟩:=hρ0
  rw[←hρ]
  have v0:ρ.i 0=a:=by rw[hρ];rfl
  have v1:ρ.i 1=x:=by rw[hρ];rfl
  have v2:ρ.i 2=y:=by rw[hρ];rfl
  have v3:ρ.i 3=bs.length:=by rw[hρ];rfl
  have v6:ρ.i 6=s:=by rw[hρ];rfl
  have v7:ρ.i 7=0:=by rw[hρ];rfl
  have v8:ρ.i 8=D.n:=by rw[hρ];rfl
  have v10:ρ.i 10=m:=by rw[hρ];rfl
  have vh:ρ.h 13=gk s D.now:=by rw[hρ];rfl
  have vm:ρ.h 14=Hl.one m (.map es clock):=by rw[hρ];rfl
  have vr:ρ.h 15=R:=by rw[hρ];rfl
  have hmem:(Hl.one m (.map es clock)) m=some (.map es clock):=Hl.bE _ _
  have hlv:(lv D.loose).map (·.1)=D.loose.map (·.1):=by unfold lv;rw[List.map_map];rfl
  unfold uc
  simp only[Nd.holds,X.pre,X.rel,X.n,Src.ok,Src.len,Src.bS,true_and,and_true,if_true,Nat.mul_one,Nat.add_zero,Nat.reduceAdd,List.length_cons,List.length_nil,bN,bK,aP,ba,bb,bM,bj,bJ,bI,bD,bd,bk,bL,bg,bf,aQ,bh,ah,ai,aE,aI,aK,ax,aF,aV,aT,au,aO,aC,aN,aB,TV.ev,SV.ev,CV.ev,List.map_cons,List.map_nil,bc.hl,df,Cp.sv,Ck.cv,ct,Cp.len,Ck.len,aU,bm,bC,KG,KH,KI,KJ,pF]
  intro q1 g1 ha1
  have hx16:0≤q1.i 16:=by first | exact ha1 | exact ha1.1 | omega
  have e10:q1.i 10=m:=by rw[g1.i 10 (by omega),v10]
  have e14:q1.h 14=Hl.one m (.map es clock):=by rw[g1.h 14 (by omega),vm]
  have ecell:∀ T,(Hl.one (q1.i 16).toNat (Obj.cells #[Value.map (if q1.i 10= -1 then none else some (q1.i 10).toNat)] T)).cell (q1.i 16).toNat 0=some (.map (some m)):=by
   intro T
   rw[Hl.one_cell,e10,if_neg (by omega),Int.toNat_natCast];rfl
  refine⟨⟨(q1.i 16).toNat,m,es,clock,lv D.loose,_,_,by rw[aq hx16];rfl,rfl,ecell _,by rw[e14];exact hmem,h.map,h.st,fun p hp=>?_,by rw[sR];exact hL⟩,fun q2 g2 ⟨F,⟨x',m',es',clock',l',R1,R2,hxx,hRR,hc',hm',hM',hO⟩,hF,hn⟩=>?_⟩
  ·unfold lv at hp
   obtain⟨r,hr,rfl⟩:=List.mem_map.1 hp
   have:=(h.ok.loose r hr).2
   have:=h.ok.n
   exact⟨by show _≤r.1;omega,by show r.1≤_;omega⟩
  cases hRR
  rw[aq hx16]at hxx
  simp only[List.cons.injEq,Value.func.injEq,List.toArray_inj,Array.mk.injEq,Value.pointer.injEq,Option.some.injEq,Addr.mk.injEq,and_true,true_and]at hxx
  have hxx:(q1.i 16).toNat=x':=by first | exact hxx | exact hxx.1
  subst hxx
  have hc':=(ecell _).symm.trans hc'
  simp only[Option.some.injEq,Value.map.injEq]at hc'
  subst hc'
  rw[e14,hmem]at hm'
  simp only[Option.some.injEq,Obj.map.injEq]at hm'
  obtain⟨rfl,rfl⟩:=hm'
  rw[fh.inj hM' h.map,sR,hlv]at hO
  have hF:q2.h 17=F:=hF (by rw[KF];trivial)
  subst hF
  have hn:-1≤q2.i 17∧0≤q2.i 18∧0≤q2.i 19∧0≤q2.i 20:=hn.1
  obtain⟨n17,n18,n19,n20⟩:=hn
  obtain⟨c19,cL,hK⟩:=E5 hO n17 n18 n19
  obtain⟨ks,hks⟩:∃ ks,ks=cP (D.loose.map (·.1)):=⟨_,rfl⟩
  rw[←hks]at hO cL hK
  have hkex:∀ k∈ks,∃ p∈D.loose,p.1=k:=by
   intro k hk
   rw[hks]at hk
   obtain⟨p,hp,e⟩:=List.mem_map.1 (lF.1 hk)
   exact⟨p,hp,e⟩
  have hkb:∀ k∈ks,0≤k∧k<D.n:=by
   intro k hk
   obtain⟨p,hp,rfl⟩:=hkex k hk
   exact(h.ok.loose p hp).2
  have G2:ae 16 ρ q2:=g1.trans (g2.mono (by omega))
  refine⟨n19,⟨0,rfl,Nat.zero_le _,?_⟩,fun q3 g3 ⟨i,hi,hiL,h31⟩=>?_⟩
  ·show q2.h 13=_
   rw[G2.h 13 (by omega),vh];rfl
  have G3:ae 16 ρ q3:=G2.trans (g3.mono (by omega))
  have d19:q3.i 19=D.loose.length:=by rw[g3.i 19 (by omega),c19]
  rw[←hks]at h31
  refine⟨fun hlt=>?_,fun hge=>?_⟩
  ·have hlt':i<D.loose.length:=by omega
   obtain⟨hx0,hcell⟩:=hK i hlt'
   obtain⟨key,hkey⟩:∃ k,k=ks.getD i 0:=⟨_,rfl⟩
   rw[←hkey]at hcell
   have hmk:key∈ks:=by
    rw[hkey,List.getD_eq_getElem?_getD,List.getElem?_eq_getElem (by omega),Option.getD_some]
    exact List.getElem_mem _
   obtain⟨k0,k1⟩:=hkb key hmk
   have hw64:=vw h.ok (hkex key hmk)
   have hnl:(dL D.loose bs D.now ks i).length=64*D.n:=fi h.ok bs ks hkb i (by omega)
   obtain⟨now,hnow⟩:∃ now,now=dL D.loose bs D.now ks i:=⟨_,rfl⟩
   rw[←hnow]at hnl h31
   have hs64:=uX hnl k0 k1
   have hc17:∀ q,ae 21 q3 q→q.i 30=i→(q.h 17).cell (q.i 17).toNat (q.i 18+q.i 30).toNat=some (.int .i64 key):=by
    intro q g e
    rw[g.h 17 (by omega),g.i 17 (by omega),g.i 18 (by omega),g3.h 17 (by omega),g3.i 17 (by omega),g3.i 18 (by omega),e,show(q2.i 18+i).toNat=(q2.i 18).toNat+i by omega]
    exact hcell
   have ht:(i:Int).tmod (bs.length:Int)=((i%bs.length:Nat):Int):=rfl
   refine⟨by rw[g3.i 17 (by omega)];omega,by rw[g3.i 18 (by omega)];omega,by omega,by rw[hc17 q3 (ae.refl _ _) hi];rfl,⟨by rw[G3.i 3 (by omega),v3];omega,fun h3=>?_,fun h3=>?_⟩,fun q4 g4 h33=>?_⟩
   ·rw[G3.i 3 (by omega),v3]at h3
    have hne:bs≠[]:=by rintro rfl;simp at h3
    have hxr:0≤x∧∀ j z,bs[j]?=some z→R.cell x.toNat (y.toNat+j)=some (.int .u8 z):=by
     rcases hR with h | h
     ·exact absurd h hne
     ·exact h
    have hl:0<bs.length:=by omega
    have hm:=Nat.mod_lt i hl
    have hcR:(q3.h 15).cell (q3.i 1).toNat (q3.i 2+(q3.i 30).tmod (q3.i 3)).toNat=some (.int .u8 bs[i%bs.length]):=by
     rw[G3.h 15 (by omega),G3.i 1 (by omega),G3.i 2 (by omega),G3.i 3 (by omega),vr,v1,v2,v3,hi,ht,show(y+((i%bs.length:Nat):Int)).toNat=y.toNat+i%bs.length by omega]
     exact hxr.2 _ _ (List.getElem?_eq_getElem hm)
    refine⟨by rw[G3.i 1 (by omega),v1];exact hxr.1,by rw[G3.i 2 (by omega),v2];exact hy,by rw[hi,G3.i 3 (by omega),v3,ht];omega,by rw[hi,G3.i 3 (by omega),v3,ht];omega,by rw[hcR];rfl,?_⟩
    show fg ((q3.h 15).cell (q3.i 1).toNat (q3.i 2+(q3.i 30).tmod (q3.i 3)).toNat)=bl bs (q3.i 30).toNat
    rw[hcR,hi,Int.toNat_natCast]
    unfold bl
    rw[if_neg hne,List.getD_eq_getElem?_getD,List.getElem?_eq_getElem hm];rfl
   ·rw[G3.i 3 (by omega),v3]at h3
    have hne:bs=[]:=List.length_eq_zero_iff.1 (by omega)
    show(0:Int)=bl bs (q3.i 30).toNat
    unfold bl
    rw[if_pos hne]
   ·have G4:ae 16 ρ q4:=G3.trans (g4.mono (by omega))
    have e30:q4.i 30=i:=by rw[g4.i 30 (by omega),hi]
    have e31:q4.h 31=gk s now:=by rw[g4.h 31 (by omega),h31]
    have h33:q4.i 33=bl bs i:=by
     have h33:q4.i 33=bl bs (q4.i 30).toNat:=h33
     rw[h33,e30,Int.toNat_natCast]
    have ek:fg ((q4.h 17).cell (q4.i 17).toNat (q4.i 18+q4.i 30).toNat)=key:=by rw[hc17 q4 (g4.mono (by omega)) e30];rfl
    have d6:q4.i 6=s:=by rw[G4.i 6 (by omega),v6]
    have d7:q4.i 7=0:=by rw[G4.i 7 (by omega),v7]
    have d8:q4.i 8=D.n:=by rw[G4.i 8 (by omega),v8]
    have d10:q4.i 10=m:=by rw[G4.i 10 (by omega),v10]
    have d14:q4.h 14=Hl.one m (.map es clock):=by rw[G4.h 14 (by omega),vm]
    have hat:((0:Int)+key*64).toNat=64*key.toNat:=by omega
    obtain⟨jw,hjw⟩:=Bu (k:=key) 0 (hkex key hmk)
    rw[ek,d6,d7,d8,d10,d14,e31,hat,Int.toNat_natCast,Int.toNat_natCast]
    refine⟨by omega,by omega,k0,k1,dB (xq s key) (by rw[hs64];decide),⟨by omega,es,clock,_,hmem,fF h.map key,fun j v hv=>?_⟩,fun q5 g5 hq5=>?_⟩
    ·rw[hjw]at hv
     cases hv
     refine⟨_,rfl,?_⟩
     show(cn _).map iq=_
     rw[vW,hw64]
    obtain⟨hval,_⟩:=hq5 es clock _ hmem (fF h.map key)
    rw[hjw]at hval
    have hval:Value.agg ((al 34 cJ).map (CV.ev q5)).toArray=.agg (cn (fp D.loose key)).toArray:=hval
    have ek5:fg ((q5.h 17).cell (q5.i 17).toNat (q5.i 18+q5.i 30).toNat)=key:=by rw[hc17 q5 ((g4.mono (by omega)).trans (g5.mono (by omega))) (by rw[g5.i 30 (by omega),e30])];rfl
    have hsec:∀ q,ae 34 q4 q→(bz 31 (.var 6) (.add (.var 7) (.mul (.hI 17 (.var 17) (.add (.var 18) (.var 30)) 0) (.lit 64))) 0 (List.replicate 64 (Kd.int .u8))).map (CV.ev q)=cn (fX now key):=by
     intro q g
     have e:fg ((q.h 17).cell (q.i 17).toNat (q.i 18+q.i 30).toNat)=key:=by rw[hc17 q ((g4.mono (by omega)).trans (g.mono (by omega))) (by rw[g.i 30 (by omega),e30])];rfl
     refine fK 64 0 _ hs64 fun j z hz=>?_
     simp only[aE,aK,ai,ah,aV,Nat.add_zero]
     rw[e,g.h 31 (by omega),g.i 6 (by omega),g.i 7 (by omega),e31,d6,d7,hat,Int.toNat_natCast,Nat.zero_add]
     exact xq s key j z hz
    have e33:q5.i 33=bl bs i:=by rw[g5.i 33 (by omega),h33]
    have hpre:∀ l,l=[Value.agg (cn (fp D.loose key)).toArray,Value.agg (cn (fX now key)).toArray,Value.int .u8 (bl bs i)]→tA.pre l [] []:=by
     rintro l rfl
     exact Ef hw64 hs64 (uh hb i)
    have hargs:[Value.agg ((al 34 cJ).map (CV.ev q5)).toArray,Value.agg ((bz 31 (.var 6) (.add (.var 7) (.mul (.hI 17 (.var 17) (.add (.var 18) (.var 30)) 0) (.lit 64))) 0 (List.replicate 64 (Kd.int .u8))).map (CV.ev q5)).toArray,Value.int .u8 (q5.i 33)]=[Value.agg (cn (fp D.loose key)).toArray,Value.agg (cn (fX now key)).toArray,Value.int .u8 (bl bs i)]:=by
     rw[hval,hsec q5 g5,e33]
    refine⟨hpre _ hargs,fun q6 g6 ⟨_,hv6,_⟩=>?_⟩
    have hv6:Value.agg ((al 99 cJ).map (CV.ev q6)).toArray=.agg (cn (bZ (fp D.loose key) (fX now key) (bl bs i))).toArray:=by
     have hv6:Value.agg ((al 99 cJ).map (CV.ev q6)).toArray=Ed [Value.agg ((al 34 cJ).map (CV.ev q5)).toArray,Value.agg ((bz 31 (.var 6) (.add (.var 7) (.mul (.hI 17 (.var 17) (.add (.var 18) (.var 30)) 0) (.lit 64))) 0 (List.replicate 64 (Kd.int .u8))).map (CV.ev q5)).toArray,Value.int .u8 (q5.i 33)]:=hv6
     rw[hv6,hargs]
     show Value.agg (cn (bZ (de _) (de _) _)).toArray=_
     rw[ma,ma]
    have hv6:(al 99 cJ).map (CV.ev q6)=cn (bZ (fp D.loose key) (fX now key) (bl bs i)):=by
     simpa using hv6
    have g46:ae 34 q4 q6:=g5.trans (g6.mono (by omega))
    have ek6:fg ((q6.h 17).cell (q6.i 17).toNat (q6.i 18+q6.i 30).toNat)=key:=by rw[hc17 q6 ((g4.mono (by omega)).trans (g46.mono (by omega))) (by rw[g46.i 30 (by omega),e30])];rfl
    rw[ek6,g46.i 6 (by omega),g46.i 7 (by omega),g46.h 31 (by omega),d6,d7,e31,hat,Int.toNat_natCast]
    have hv6':(al 99 (List.replicate 64 (Ck.int .u8))).map (CV.ev q6)=cn (bZ (fp D.loose key) (fX now key) (bl bs i)):=hv6
    have hlen:(al 99 (List.replicate 64 (Ck.int .u8))).length=64:=by decide
    refine⟨⟨by omega,by omega,?_⟩,fun q7 g7 hq7=>?_⟩
    ·rw[hlen]
     exact Hl.DG _ _ _ _ _ (by rw[List.size_toArray,dq,hnl];omega)
    ·rw[hv6',wc]at hq7
     have f30:q7.i 30=i:=by rw[g7.i 30 (by omega),g46.i 30 (by omega),e30]
     have w:IntKind.i64.wrap ((i:Int)+1)=i+1:=wrap_i64 (by omega) (by omega)
     have m30:(assign q7 [⟨30,0,.int .i64 (.wrap .i64 (.add (.var 30) (.lit 1)))⟩] [(31,some 163)]).i 30=i+1:=by
      show IntKind.i64.wrap (q7.i 30+1)=_
      rw[f30,w]
     refine⟨⟨i+1,by rw[m30];omega,by omega,?_⟩,?_⟩
     rotate_left
     ·show((D.loose.length:Int)-(assign q7 [⟨30,0,.int .i64 (.wrap .i64 (.add (.var 30) (.lit 1)))⟩] [(31,some 163)]).i 30).toNat<((D.loose.length:Int)-q3.i 30).toNat
      rw[m30,hi];omega
     show q7.h 163=_
     rw[hq7,←hks]
     show _=gk s (bG (dL D.loose bs D.now ks i) (64*(ks.getD i 0).toNat) (bZ (fp D.loose (ks.getD i 0)) (fX (dL D.loose bs D.now ks i) (ks.getD i 0)) (bl bs i)))
     rw[←hkey,←hnow]
  ·have hi:i=D.loose.length:=by omega
   subst hi
   rw[G3.i 10 (by omega),v10,G3.h 14 (by omega),vm,Int.toNat_natCast]
   refine⟨⟨by omega,es,clock,hmem⟩,fun q4 g4 hq4 _=>?_⟩
   have hq4:=hq4 es clock hmem
   rw[Hl.mf]at hq4
   have G4:ae 15 ρ q4:=(G3.trans (g4.mono (by omega))).mono (by omega)
   rw[hρ]at G4
   refine⟨[[0,1,2]],[],rfl,rfl,⟨⟨fun _=>0,fun _=>false,fun _=>.empty,fun _=>.tuple #[],fun _=>Hl.none⟩,rfl,trivial⟩,_,_,bs,H,R,D,_,rfl,rfl,rfl,⟨a,s,m,es,clock,rfl,h⟩,⟨x,y,cp,rfl,hy,hR⟩,rfl,?_⟩
   refine Gb (es':=#[]) (clock':=clock) h G4 (sD h.ok bs) rfl rfl (MapKept.stamped_empty _) (ah _ _) rfl ?_ hq4
   rw[g4.h 31 (by omega),h31,hks];rfl
end Go.Proofs.YtomdimlnggpgbaaGreatDoor.D
