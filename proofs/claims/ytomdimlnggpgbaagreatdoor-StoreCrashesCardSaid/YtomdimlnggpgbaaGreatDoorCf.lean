/- Layer 9: a store, piece by piece; store.Open as a contract. No condition. -/
import Derived.Test.YtomdimlnggpgbaaGreatDoorCe
set_option linter.unusedSimpArgs false
set_option linter.unusedVariables false
set_option linter.constructorNameAsVariable false
namespace Go.Sx
open Go
theorem ur {A B C D:Hl} (h1:A.ch B) (h2:A.ch C) (h3:A.ch D) (h4:B.ch C) (h5:B.ch D) (h6:C.ch D):A.le (dF [A,B,C,D])∧B.le (dF [A,B,C,D])∧C.le (dF [A,B,C,D])∧D.le (dF [A,B,C,D]):=by
 obtain⟨r1,r2,r3⟩:=uq h4 h5 h6
 have hd:A.ch (dF [B,C,D]):=by
  show A.ch (B.un (C.un (D.un Hl.none)))
  exact Hl.ue h1 (Hl.ue h2 (Hl.ue h3 (Hl.CN _)))
 have hr:(dF [B,C,D]).le (dF [A,B,C,D]):=Hl.ga hd
 exact⟨Hl.e8 _ _,fun k o h=>hr k o (r1 k o h),fun k o h=>hr k o (r2 k o h),fun k o h=>hr k o (r3 k o h)⟩
theorem mv.mono {R R':Hl} (hl:R.le R') {u:Value} {bs:List Int} (h:mv R u bs):mv R' u bs:=by
 obtain⟨x,y,c,hv,hy,h⟩:=h
 refine⟨x,y,c,hv,hy,h.imp id fun⟨h0,h⟩=>⟨h0,fun j z hz=>?_⟩⟩
 have:=h j z hz
 unfold Hl.cell at this ⊢
 split at this
 ·rename_i o c' T fr ho
  rw[hl _ _ ho];exact this
 ·cases this
end Go.Sx
namespace Go.Proofs.YtomdimlnggpgbaaGreatDoor.D
open Go Go.Sx
def iR (H:Hl) (p dp:Value) (L:LM) (bs:List Int):Prop:=∃ sl,c6 H p dp sl L∧mv H sl bs
theorem iR.mono {R R':Hl} (hl:R.le R') {p dp:Value} {L:LM} {bs:List Int} (h:iR R p dp L bs):iR R' p dp L bs:=by
 obtain⟨sl,h1,h2⟩:=h
 exact⟨sl,c6.mono h1 hl,mv.mono hl h2⟩
theorem bW.rd {H:Hl} {p dp:Value} {L:LM} {bs:List Int} (h:bW H p dp L bs):iR H p dp L bs:=h.parts
theorem iR.uniq {H:Hl} {p dp dp':Value} {L L':LM} {bs bs':List Int} (h:iR H p dp L bs) (h':iR H p dp' L' bs'):dp=dp'∧L=L'∧bs=bs':=by
 obtain⟨sl,h1,h2⟩:=h
 obtain⟨sl',h1',h2'⟩:=h'
 obtain⟨e1,rfl,e3⟩:=h1.uniq h1'
 exact⟨e1,e3,h2.uniq h2'⟩
theorem uY {dp v:Value} {H H' F:Hl} {D:DM} (hD:aj H dp D) (hp:fY.post [dp] [H] [] v [H'] F):aj H' dp D∧v=.int .i64 D.n:=by
 obtain⟨p',Hx,D',H2,hx,hH,hD',hH2,hD2,hv⟩:=hp
 simp only[List.cons.injEq,and_true]at hx hH hH2
 subst hx hH
 have e:=hD'.uniq hD
 subst e
 rw[←hH2]at hD2
 exact⟨hD2,hv⟩
theorem td {dp v:Value} {frm n:Int} {H H' F:Hl} {D:DM} (hD:aj H dp D) (hp:ni.post [dp,.int .i64 frm,.int .i64 n] [H] [] v [H'] F) :
 ∃ pv,aj H' dp D∧v=.tuple #[pv,.int .i64 (fI D frm n)]∧(fI D frm n=0→bW F pv dp (an D frm n) (aA D frm n))∧(fI D frm n≠0→pv=.pointer none):=by
 obtain⟨dp',frm',n',Hx,D',H'',pv,hx,hH,hDx,hH',hDy,hv,hl⟩:=hp
 have hx:dp=dp'∧frm=frm'∧n=n':=by simpa using hx
 obtain⟨e1,e2,e3⟩:=hx
 subst e1 e2 e3
 have hH:H=Hx:=by simpa using hH
 subst hH
 have e:=hDx.uniq hD
 subst e
 have hH':H'=H'':=by simpa using hH'
 subst hH'
 exact⟨pv,hDy,hv,hl⟩
theorem oB {p u dp v:Value} {nt b bs:List Int} {H HD R F:Hl} {K:List Hl} {L:LM} {D:DM} (h1:bW H p dp L bs) (h2:aj HD dp D) (h3:fw R u b) (hp:gW.post [p,u,.agg (cn nt).toArray] [H,HD] [R] v K F) :
 ∃ H' HD',K=[H',HD']∧aj HD' dp (av D L bs b nt).D∧bW H' p dp (av D L bs b nt).L (av D L bs b nt).bs∧v=.int .i64 (av D L bs b nt).e:=by
 obtain⟨p',u',b',nt',Hx,HDx,Rx,dp',L',bs',D',H',HD',hx,hH,hR,hLx,hDx,hBx,hK,hDy,hLy,hv⟩:=hp
 have hx:p=p'∧u=u'∧cn nt=cn nt':=by simpa using hx
 obtain⟨e1,e2,e3⟩:=hx
 have e3:=mF e3
 subst e1 e2 e3
 have hH:H=Hx∧HD=HDx:=by simpa using hH
 obtain⟨e1,e2⟩:=hH
 subst e1 e2
 have hR:R=Rx:=by simpa using hR
 subst hR
 obtain⟨e1,e2,e3⟩:=hLx.uniq h1
 subst e1 e2 e3
 have e:=hDx.uniq h2
 subst e
 have e:=hBx.uniq h3
 subst e
 exact⟨H',HD',hK,hDy,hLy,hv⟩
theorem nL {p dp:Value} {H:Hl} {L:LM} {bs:List Int} (h:iR H p dp L bs) (hb:bs.length≤1048576):gj.pre [p] [] [H,H]:=by
 obtain⟨sl,h1,h2⟩:=h
 exact⟨p,H,H,dp,sl,L,bs,rfl,rfl,h1,h2,hb⟩
theorem lW {p dp v:Value} {H F:Hl} {K:List Hl} {L:LM} {bs:List Int} (h:iR H p dp L bs) (hp:gj.post [p] [] [H,H] v K F):dA F 5 v bs:=by
 obtain⟨sl,h1,h2⟩:=h
 obtain⟨p',R1,R2,dp',sl',L',bs',hx,hR,hLx,hBx,hO⟩:=hp
 have hx:p=p':=by simpa using hx
 subst hx
 have hR:H=R1∧H=R2:=by simpa using hR
 obtain⟨e1,e2⟩:=hR
 subst e1 e2
 obtain⟨e1,e2,e3⟩:=hLx.uniq h1
 subst e1 e2 e3
 have e:=hBx.uniq h2
 subst e
 exact hO
theorem rB {p dp:Value} {H:Hl} {L:LM} {bs:List Int} (h:iR H p dp L bs) (hb:bs.length≤1048576):iN.pre [p] [] [H]:=by
 obtain⟨sl,h1,h2⟩:=h
 exact⟨p,H,dp,sl,L,bs.length,rfl,rfl,h1,mv.mj h2,hb⟩
theorem od {p dp v:Value} {H F:Hl} {K:List Hl} {L:LM} {bs:List Int} (h:iR H p dp L bs) (hp:iN.post [p] [] [H] v K F):v=.int .i64 (L.most-bs.length):=by
 obtain⟨sl,h1,h2⟩:=h
 obtain⟨p',R1,dp',sl',L',n',hx,hR,hLx,hs,hv⟩:=hp
 have hx:p=p':=by simpa using hx
 subst hx
 have hR:H=R1:=by simpa using hR
 subst hR
 obtain⟨e1,e2,e3⟩:=hLx.uniq h1
 subst e1 e2 e3
 have e:=hs.uniq (mv.mj h2)
 subst e
 exact hv
theorem Bn {p dp:Value} {H:Hl} {L:LM} {bs:List Int} (h:iR H p dp L bs):iZ.pre [p] [] [H]:=by
 obtain⟨sl,h1,h2⟩:=h
 exact⟨p,H,dp,sl,L,rfl,rfl,h1⟩
theorem yP {p dp v:Value} {H F:Hl} {K:List Hl} {L:LM} {bs:List Int} (h:iR H p dp L bs) (hp:iZ.post [p] [] [H] v K F):v=.agg (cn L.note).toArray:=by
 obtain⟨sl,h1,h2⟩:=h
 obtain⟨p',R1,dp',sl',L',hx,hR,hLx,hv⟩:=hp
 have hx:p=p':=by simpa using hx
 subst hx
 have hR:H=R1:=by simpa using hR
 subst hR
 obtain⟨e1,e2,e3⟩:=hLx.uniq h1
 subst e1 e2 e3
 exact hv
theorem nh {D:DM} (hD:D.ok) {frm n:Int} (hn:3≤n∧n≤16384):((aA D frm n).length:Int)≤64*(n-2):=by
 have hm:0≤64*(n-2):=by omega
 have h0:=(gm hD frm hm 0).2
 have h1:=(gm hD frm hm 1).2
 have hs:(an D frm n).size≤64*(n-2):=by
  show(bQ D frm n).getD 1 0≤_
  unfold bQ
  split
  ·exact h1
  ·exact h0
 unfold aA eJ
 rw[List.length_take]
 omega
theorem oU {D:DM} {frm n:Int} (h:∀ z∈D.now,0≤z∧z<256):∀ z∈aA D frm n,0≤z∧z<256:=fun z hz=>h z (List.mem_of_mem_drop (List.mem_of_mem_take hz))
end Go.Proofs.YtomdimlnggpgbaaGreatDoor.D
namespace Go.Proofs.YtomdimlnggpgbaaGreatDoor
open Go Go.Sx Go.Pk
open Go.Proofs.YtomdimlnggpgbaaGreatDoor.D hiding bx aH hJ
theorem pE {p dp:Value} {H:Hl} {L:LM} {bs:List Int} (h:iR H p dp L bs):um.pre [p] [] [H]:=by
 obtain⟨sl,h1,h2⟩:=h
 exact⟨p,H,dp,sl,L,rfl,rfl,h1⟩
theorem mZ {p dp v:Value} {H F:Hl} {K:List Hl} {L:LM} {bs:List Int} (h:iR H p dp L bs) (hp:um.post [p] [] [H] v K F):v=.int .u64 (bU L):=by
 obtain⟨sl,h1,h2⟩:=h
 obtain⟨p',R1,dp',sl',L',hx,hR,hLx,hv⟩:=hp
 have hx:p=p':=by simpa using hx
 subst hx
 have hR:H=R1:=by simpa using hR
 subst hR
 obtain⟨e1,e2,e3⟩:=hLx.uniq h1
 subst e1 e2 e3
 exact hv
theorem rU {u v:Value} {R F:Hl} {K:List Hl} {bs:List Int} (h:fw R u bs) (hp:mq.post [u] [] [R] v K F):bF F v (fZ bs):=by
 obtain⟨u',bs',R',e1,e2,hR',hO⟩:=hp
 simp only[List.cons.injEq,and_true]at e1 e2
 subst e1 e2
 rw[h.uniq hR'];exact hO
structure SM where
 LA:LM
 bA:List Int
 LB:LM
 bB:List Int
 recs:List (List Int)
 over:Bool
def og (a:Nat) (pa pb sl:Value) (o:Bool):Hl:=Hl.one a (.cells #[pa,pb,sl,.bool o] 101 (0,0))
structure Et (H:Hl) (a:Nat) (dp pa pb sl:Value) (HA HB HR:Hl) (S:SM):Prop where
 la:bW HA pa dp S.LA S.bA
 lb:bW HB pb dp S.LB S.bB
 rows:bF HR sl S.recs
 d1:(og a pa pb sl S.over).ch HA
 d2:(og a pa pb sl S.over).ch HB
 d3:(og a pa pb sl S.over).ch HR
 d4:HA.ch HB
 d5:HA.ch HR
 d6:HB.ch HR
 hl:H=dF [og a pa pb sl S.over,HA,HB,HR]
def bT (H:Hl) (p dp:Value) (S:SM):Prop:=∃ (a:Nat) (pa pb sl:Value) (HA HB HR:Hl),p=.pointer (some ⟨a,0,none⟩)∧Et H a dp pa pb sl HA HB HR S
structure tI (H:Hl) (a:Nat) (dp pa pb sl:Value) (S:SM):Prop where
 aS:H a=some (.cells #[pa,pb,sl,.bool S.over] 101 (0,0))
 la:iR H pa dp S.LA S.bA
 lb:iR H pb dp S.LB S.bB
 rows:bF H sl S.recs
def dR (H:Hl) (p dp:Value) (S:SM):Prop:=∃ (a:Nat) (pa pb sl:Value),p=.pointer (some ⟨a,0,none⟩)∧tI H a dp pa pb sl S
theorem bT.rd {H:Hl} {p dp:Value} {S:SM} (h:bT H p dp S):dR H p dp S:=by
 obtain⟨a,pa,pb,sl,HA,HB,HR,hp,h⟩:=h
 obtain⟨l1,l2,l3,l4⟩:=ur h.d1 h.d2 h.d3 h.d4 h.d5 h.d6
 rw[←h.hl]at l1 l2 l3 l4
 exact⟨a,pa,pb,sl,hp,l1 _ _ (Hl.bE _ _),h.la.rd.mono l2,h.lb.rd.mono l3,h.rows.mono l4⟩
theorem dR.mono {R R':Hl} (hl:R.le R') {p dp:Value} {S:SM} (h:dR R p dp S):dR R' p dp S:=by
 obtain⟨a,pa,pb,sl,hp,h⟩:=h
 exact⟨a,pa,pb,sl,hp,hl _ _ h.aS,h.la.mono hl,h.lb.mono hl,h.rows.mono hl⟩
theorem dR.uniq {H:Hl} {p dp dp':Value} {S S':SM} (h:dR H p dp S) (h':dR H p dp' S'):dp=dp'∧S=S':=by
 obtain⟨a,pa,pb,sl,rfl,h⟩:=h
 obtain⟨a',pa',pb',sl',hp,h'⟩:=h'
 have e:a=a':=by simpa using hp
 subst e
 have hb:=h.aS.symm.trans h'.aS
 simp only[Option.some.injEq,Obj.cells.injEq,Array.mk.injEq,List.cons.injEq,Value.bool.injEq,and_true]at hb
 obtain⟨rfl,rfl,rfl,e4⟩:=hb
 obtain⟨e1,e2,e3⟩:=h.la.uniq h'.la
 obtain⟨_,e5,e6⟩:=h.lb.uniq h'.lb
 have e7:=h.rows.uniq h'.rows
 refine⟨e1,?_⟩
 obtain⟨x1,x2,x3,x4,x5,x6⟩:=S
 obtain⟨y1,y2,y3,y4,y5,y6⟩:=S'
 simp only at e2 e3 e4 e5 e6 e7
 subst e2 e3 e4 e5 e6 e7
 rfl
def c9 (D:DM):Int:=if D.n/2<3 then 1 else if D.gone then 5 else 0
def jI (D:DM):LM:=an D 0 ((D.n/2:Nat):Int)
def gM (D:DM):List Int:=aA D 0 ((D.n/2:Nat):Int)
def fP (D:DM):LM:=an D ((D.n/2:Nat):Int) ((D.n/2:Nat):Int)
def dG (D:DM):List Int:=aA D ((D.n/2:Nat):Int) ((D.n/2:Nat):Int)
def AA (A:LM) (bA:List Int) (B:LM) (bB:List Int):SM:=⟨A,bA,B,bB,fZ bA,false⟩
def dW (D:DM):SM:=if bU (jI D)<bU (fP D)then AA (fP D) (dG D) (jI D) (gM D)else AA (jI D) (gM D) (fP D) (dG D)
def jd:Sx.Spec where
 fn:=13
 own:=[.arg 0]
 rd:=[]
 res:=[.one .ptr,.one (.int .i64)]
 links:=[0]
 pre:=fun xs Hs Rs=>∃ dp H D,xs=[dp]∧Hs=[H]∧aj H dp D∧bw (gM D)∧bw (dG D)
 post:=fun xs Hs Rs v Hs' F=>∃ dp H D H' pv,xs=[dp]∧Hs=[H]∧aj H dp D∧Hs'=[H']∧aj H' dp D∧v=.tuple #[pv,.int .i64 (c9 D)]∧(c9 D=0→bT F pv dp (dW D))∧(c9 D≠0→pv=.pointer none)
def Fo:List Sx.Spec:=[fY,ni,um,gj,mq]
theorem GL:∀ t∈Fo,t.OK Tryz.prog:=fun t ht=>by
 simp only[Fo,List.mem_cons,List.mem_nil_iff,or_false]at ht
 rcases ht with rfl | rfl | rfl | rfl | rfl
 ·exact o8
 ·exact DH
 ·exact Al
 ·exact nK
 ·exact BY
def vg:Nd:=.and (.pre (.call 0 2 [.sv (.one (.hptr (.var 0) (.lit 0)))] [.hp 1 [] [.var 0] []] [])) (.ext (.call 0 2 [.sv (.one (.hptr (.var 0) (.lit 0)))] [.hp 1 [] [.var 0] []] []) (.and (.imp (.lt (.wrap .i64 (.quo (.var 2) (.lit 2))) (.lit 3)) (.post [.hp 2 [1] [.var 0] []] (.tup [.one (.hptr (.lit (-1)) (.lit 0)),.one (.int .i64 (.lit 1))]))) (.imp (.not (.lt (.wrap .i64 (.quo (.var 2) (.lit 2))) (.lit 3))) (.and (.pre (.call 1 4 [.sv (.one (.hptr (.var 0) (.lit 0))),.sv (.one (.int .i64 (.lit 0))),.sv (.one (.int .i64 (.wrap .i64 (.quo (.var 2) (.lit 2)))))] [.hp 2 [1] [.var 0] []] [])) (.ext (.call 1 4 [.sv (.one (.hptr (.var 0) (.lit 0))),.sv (.one (.int .i64 (.lit 0))),.sv (.one (.int .i64 (.wrap .i64 (.quo (.var 2) (.lit 2)))))] [.hp 2 [1] [.var 0] []] []) (.and (.imp (.not (.eq (.var 6) (.lit 0))) (.post [.hp 4 [2,1] [.var 0] [],.hp 5 [] [.var 4] [.var 0]] (.tup [.one (.hptr (.lit (-1)) (.lit 0)),.one (.int .i64 (.var 6))]))) (.imp (.eq (.var 6) (.lit 0)) (.and (.pre (.call 1 7 [.sv (.one (.hptr (.var 0) (.lit 0))),.sv (.one (.int .i64 (.wrap .i64 (.quo (.var 2) (.lit 2))))),.sv (.one (.int .i64 (.wrap .i64 (.quo (.var 2) (.lit 2)))))] [.hp 4 [2,1] [.var 0] []] [])) (.ext (.call 1 7 [.sv (.one (.hptr (.var 0) (.lit 0))),.sv (.one (.int .i64 (.wrap .i64 (.quo (.var 2) (.lit 2))))),.sv (.one (.int .i64 (.wrap .i64 (.quo (.var 2) (.lit 2)))))] [.hp 4 [2,1] [.var 0] []] []) (.and (.imp (.not (.eq (.var 9) (.lit 0))) (.post [.hp 7 [4,2,1] [.var 0] [],.hp 5 [] [.var 4] [.var 0],.hp 8 [] [.var 7] [.var 0]] (.tup [.one (.hptr (.lit (-1)) (.lit 0)),.one (.int .i64 (.var 9))]))) (.imp (.eq (.var 9) (.lit 0)) (.and (.pre (.call 2 10 [.sv (.one (.hptr (.var 7) (.var 8)))] [] [.hp 8 [] [.var 7] [.var 0]])) (.ext (.call 2 10 [.sv (.one (.hptr (.var 7) (.var 8)))] [] [.hp 8 [] [.var 7] [.var 0]]) (.and (.pre (.call 2 11 [.sv (.one (.hptr (.var 4) (.var 5)))] [] [.hp 5 [] [.var 4] [.var 0]])) (.ext (.call 2 11 [.sv (.one (.hptr (.var 4) (.var 5)))] [] [.hp 5 [] [.var 4] [.var 0]]) (.and (.imp (.lt (.var 11) (.var 10)) (.and (.pre (.call 3 12 [.sv (.one (.hptr (.var 7) (.var 8)))] [] [.hp 8 [] [.var 7] [.var 0],.hp 8 [] [.var 7] [.var 0]])) (.ext (.call 3 12 [.sv (.one (.hptr (.var 7) (.var 8)))] [] [.hp 8 [] [.var 7] [.var 0],.hp 8 [] [.var 7] [.var 0]]) (.and (.pre (.call 4 16 [.sv (.one (.sl (.var 12) (.var 13) (.var 14) (.var 15)))] [] [.hp 12 [] [.var 12] []])) (.ext (.call 4 16 [.sv (.one (.sl (.var 12) (.var 13) (.var 14) (.var 15)))] [] [.hp 12 [] [.var 12] []]) (.ext (.alloc 20) (.post [.hp 7 [4,2,1] [.var 0] [],.hp 5 [] [.var 4] [.var 0],.hp 8 [] [.var 7] [.var 0],.hp 12 [] [.var 12] [],.hp 16 [] [.var 16] [],.aS 20 [.hptr (.var 7) (.var 8),.hptr (.var 4) (.var 5),.sl (.var 16) (.var 17) (.var 18) (.var 19),.bool .ff] 101] (.tup [.one (.hptr (.var 20) (.lit 0)),.one (.int .i64 (.lit 0))])))))))) (.imp (.not (.lt (.var 11) (.var 10))) (.and (.pre (.call 3 12 [.sv (.one (.hptr (.var 4) (.var 5)))] [] [.hp 5 [] [.var 4] [.var 0],.hp 5 [] [.var 4] [.var 0]])) (.ext (.call 3 12 [.sv (.one (.hptr (.var 4) (.var 5)))] [] [.hp 5 [] [.var 4] [.var 0],.hp 5 [] [.var 4] [.var 0]]) (.and (.pre (.call 4 16 [.sv (.one (.sl (.var 12) (.var 13) (.var 14) (.var 15)))] [] [.hp 12 [] [.var 12] []])) (.ext (.call 4 16 [.sv (.one (.sl (.var 12) (.var 13) (.var 14) (.var 15)))] [] [.hp 12 [] [.var 12] []]) (.ext (.alloc 20) (.post [.hp 7 [4,2,1] [.var 0] [],.hp 5 [] [.var 4] [.var 0],.hp 8 [] [.var 7] [.var 0],.hp 12 [] [.var 12] [],.hp 16 [] [.var 16] [],.aS 20 [.hptr (.var 4) (.var 5),.hptr (.var 7) (.var 8),.sl (.var 16) (.var 17) (.var 18) (.var 19),.bool .ff] 101] (.tup [.one (.hptr (.var 20) (.lit 0)),.one (.int .i64 (.lit 0))]))))))))))))))))))))))))
def rO:cy Tryz.prog Fo jd.fn where
 Λ:=aH
 args:=[TP (.var 0) (.lit 0)]
 mem:=[.hp 1 [] [.var 0] []]
 nv:=2
 nd:=vg
 ok:=by kernel_rfl
theorem JR:Fo[0]?=some fY:=rfl
theorem JS:Fo[1]?=some ni:=rfl
theorem JT:Fo[2]?=some um:=rfl
theorem JU:Fo[3]?=some gj:=rfl
theorem JV:Fo[4]?=some mq:=rfl
theorem Ib:fY.res=[.one (.int .i64)]:=rfl
theorem JW:ni.res=[.one .ptr,.one (.int .i64)]:=rfl
theorem GJ:um.res=[.one (.int .u64)]:=rfl
theorem JX:gj.res=[.one .sl]:=rfl
theorem JY:mq.res=[.one .sl]:=rfl
theorem Kk (n:Nat):(bO n [Cp.one .ptr,Cp.one (.int .i64)]≠[])=True:=by simp [bO,Cp.roots,Ck.root]
theorem sJ {n:Nat} (h:n≤16384):IntKind.i64.wrap ((n:Int).tdiv 2)=((n/2:Nat):Int):=by
 have e:(n:Int).tdiv 2=((n/2:Nat):Int):=rfl
 rw[e]
 exact wrap_i64 (by omega) (by omega)
set_option maxRecDepth 4000 in
theorem tq:jd.OK Tryz.prog:=by
 refine Spec.b8 (Γ:=Fo) GL ?_
 rintro xs Hs Rs hl1 hl2 ⟨dp,H,D,rfl,rfl,hD,hlo,hhi⟩
 have e1:Rs=[]:=List.length_eq_zero_iff.1 hl2
 subst e1
 obtain⟨da,s,m,es,clock,hdp,hDi⟩:=id hD
 have hDn:=hDi.ok.n
 have hok:=hDi.ok
 refine⟨rO,bx [(da:Int)] false [Hl.none,H],fun _ _=>True,fun _ _=>0,?_,⟨?_,?_,?_,?_⟩,(fun _ h=>nomatch h),?_⟩
 ·show [Value.pointer (ar (da:Int) 0)]=_;rw[eV,hdp]
 ·intro r hr ho;simp [rO]at hr;subst hr;exact⟨H,by simp,Hl.le_refl _⟩
 ·intro r hr ho;simp [rO]at hr;subst hr;cases ho
 ·simp [rO]
 ·intro r hr;simp [rO]at hr;subst hr;trivial
 ·show Nd.holds _ _ _ vg
  generalize hρ:bx [(da:Int)] false [Hl.none,H]=ρ
  have v0:ρ.i 0=da:=by rw[←hρ];rfl
  have w1:ρ.h 1=H:=by rw[←hρ];rfl
  clear hρ
  have ep:Value.pointer (ar (da:Int) 0)=dp:=by rw[eV,hdp]
  have bad:∀ (q:Env) (k:Nat) (vs:List Nat) (t:Mem) (x:E) (e:Int),aj (q.h k) dp D→ak q x=e→c9 D=e→e≠0 →
   postOf jd [dp] [H] [] q (.hp k vs [.var 0] []::t) (.tup [.one (.hptr (.lit (-1)) (.lit 0)),.one (.int .i64 x)]):=by
   intro q k vs t x e hq hx he hne _
   refine⟨[[0]],[],rfl,rfl,⟨⟨fun j=>[-1,0,e].getD j 0,fun _=>false,fun _=>.empty,fun _=>.tuple #[],fun _=>Hl.none⟩,?_,⟨by show(-1:Int)≤ -1;omega,Int.le_refl _⟩,trivial,trivial⟩,dp,H,D,_,.pointer none,rfl,rfl,hD,rfl,?_,?_,fun h=>absurd (he.symm.trans h) hne,fun _=>rfl⟩
   ·subst hx;rfl
   ·show aj (dF [q.h k]) _ _
    rw[bp];exact hq
   ·rw[he,←hx];rfl
  unfold vg
  simp only[Nd.holds,X.pre,X.rel,X.n,Src.ok,Src.len,Src.bS,true_and,and_true,if_true,Nat.mul_one,Nat.add_zero,Nat.reduceAdd,List.length_cons,List.length_nil,bN,bK,aP,ba,bb,bM,bj,bJ,bI,bD,bd,bk,bL,bg,bf,aQ,bh,ah,ai,aE,aI,aK,ax,aF,aV,aT,au,aO,aC,aN,aB,TV.ev,SV.ev,CV.ev,List.map_cons,List.map_nil,bc.hl,df,Cp.sv,Ck.cv,ct,Cp.len,Ck.len,aU,bm,bC,JR,JS,JT,JU,JV,Ib,JW,GJ,JX,JY,GC,Ff,Kk,EM]
  rw[v0,w1,ep]
  refine⟨⟨dp,H,D,rfl,rfl,hD⟩,fun q1 g1 ⟨F1,hp1,_⟩=>?_⟩
  obtain⟨hD1,hv1⟩:=uY hD hp1
  have hv1:q1.i 2=D.n:=by simpa using hv1
  rw[hv1,sJ hDn,g1.i 0 (by omega),v0,ep]
  refine⟨fun hlt=>bad q1 2 _ _ _ 1 hD1 (ah _ _) (by unfold c9;rw[if_pos (by omega)]) (by decide),fun hge=>?_⟩
  have hn3:3≤D.n/2:=by omega
  have hE:c9 D=if D.gone then 5 else 0:=by unfold c9;rw[if_neg (by omega)]
  have hEA:fI D 0 ((D.n/2:Nat):Int)=if D.gone then 5 else 0:=by unfold fI;rw[if_neg (by omega)]
  have hEB:fI D ((D.n/2:Nat):Int) ((D.n/2:Nat):Int)=if D.gone then 5 else 0:=by unfold fI;rw[if_neg (by omega)]
  have hnn:3≤((D.n/2:Nat):Int)∧((D.n/2:Nat):Int)≤16384:=by omega
  refine⟨⟨dp,_,_,_,D,rfl,rfl,hD1⟩,fun q2 g2 ⟨F2,hp2,hF2,hn2⟩=>?_⟩
  obtain⟨pA,hD2,hv2,hA,_⟩:=td hD1 hp2
  simp only[Value.tuple.injEq,Array.mk.injEq,List.cons.injEq,Value.int.injEq,true_and,and_true]at hv2
  obtain⟨eA,e6⟩:=hv2
  have G2:ae 2 ρ q2:=g1.trans (g2.mono (by omega))
  have hq2:q2.i 2=D.n:=by rw[g2.i 2 (by omega),hv1]
  rw[hq2,sJ hDn,G2.i 0 (by omega),v0,ep]
  refine⟨fun hne=>bad q2 4 _ _ _ 5 hD2 (by rw[ai,e6,hEA,if_pos];exact Classical.byContradiction fun hg=>hne (by rw[e6,hEA,if_neg hg])) (by rw[hE,if_pos];exact Classical.byContradiction fun hg=>hne (by rw[e6,hEA,if_neg hg])) (by decide),fun heq=>?_⟩
  have hgone:D.gone=false:=by
   cases hg:D.gone with
   | false=>rfl
   | true=>rw[e6,hEA,hg]at heq;cases heq
  have hA:bW F2 pA dp (jI D) (gM D):=hA (by rw[hEA,hgone];rfl)
  rw[←eA,←hF2 trivial]at hA
  refine⟨⟨dp,_,_,_,D,rfl,rfl,hD2⟩,fun q3 g3 ⟨F3,hp3,hF3,hn3'⟩=>?_⟩
  obtain⟨pB,hD3,hv3,hB,_⟩:=td hD2 hp3
  simp only[Value.tuple.injEq,Array.mk.injEq,List.cons.injEq,Value.int.injEq,true_and,and_true]at hv3
  obtain⟨eB,e9⟩:=hv3
  have e9:q3.i 9=0:=by rw[e9,hEB,hgone];rfl
  have hB:bW F3 pB dp (fP D) (dG D):=hB (by rw[hEB,hgone];rfl)
  rw[←eB,←hF3 trivial]at hB
  refine⟨fun h=>absurd e9 h,fun _=>⟨pE hB.rd,fun q4 g4 ⟨F4,hp4,_⟩=>?_⟩⟩
  have hv4:q4.i 10=bU (fP D):=by simpa using mZ hB.rd hp4
  have G4:ae 7 q2 q4:=g3.trans (g4.mono (by omega))
  have hA4:bW (q4.h 5) (.pointer (ar (q4.i 4) (q4.i 5))) dp (jI D) (gM D):=by
   rw[G4.h 5 (by omega),G4.i 4 (by omega),G4.i 5 (by omega)];exact hA
  refine⟨pE hA4.rd,fun q5 g5 ⟨F5,hp5,_⟩=>?_⟩
  have hv5:q5.i 11=bU (jI D):=by simpa using mZ hA4.rd hp5
  have hv5':q5.i 10=bU (fP D):=by rw[g5.i 10 (by omega),hv4]
  have hA5:bW (q5.h 5) (.pointer (ar (q5.i 4) (q5.i 5))) dp (jI D) (gM D):=by
   rw[g5.h 5 (by omega),g5.i 4 (by omega),g5.i 5 (by omega)];exact hA4
  have G35:ae 10 q3 q5:=g4.trans (g5.mono (by omega))
  have hB5:bW (q5.h 8) (.pointer (ar (q5.i 7) (q5.i 8))) dp (fP D) (dG D):=by
   rw[G35.h 8 (by omega),G35.i 7 (by omega),G35.i 8 (by omega)];exact hB
  have hD5:aj (q5.h 7) dp D:=by rw[G35.h 7 (by omega)];exact hD3
  have hLA:((gM D).length:Int)≤_:=nh hok (frm:=0) hnn
  have hLB:((dG D).length:Int)≤_:=nh hok (frm:=((D.n/2:Nat):Int)) hnn
  rw[hv5,hv5']
  have hsE:c9 D=0:=by rw[hE,hgone];rfl
  refine⟨fun hlt=>⟨nL hB5.rd (by omega),fun q6 g6 ⟨F6,hp6,hF6,hn6⟩=>?_⟩,fun hge=>⟨nL hA5.rd (by omega),fun q6 g6 ⟨F6,hp6,hF6,hn6⟩=>?_⟩⟩
  ·have hO:=lW hB5.rd hp6
   rw[←hF6 trivial]at hO
   have hRd:=hO.rd.w
   refine⟨⟨_,_,_,rfl,rfl,hRd,hhi,by omega⟩,fun q7 g7 ⟨F7,hp7,hF7,hn7⟩ q8 g8 p8 hd=>?_⟩
   have hW:=rU hRd hp7
   rw[←hF7 trivial]at hW
   have G7:ae 12 q5 q8:=g6.trans ((g7.trans (g8.mono (by omega))).mono (by omega))
   have hn7:-1≤q7.i 16∧0≤q7.i 17∧0≤q7.i 18∧0≤q7.i 19:=hn7.1
   refine⟨[[0]],[5,2,1,4],rfl,rfl,⟨⟨fun j=>[q8.i 20,0,0].getD j 0,fun _=>false,fun _=>.empty,fun _=>.tuple #[],fun _=>Hl.none⟩,rfl,⟨by show -1≤q8.i 20;omega,Int.le_refl _⟩,trivial,trivial⟩,dp,H,D,_,Value.pointer (ar (q8.i 20) 0),rfl,rfl,hD,rfl,?_,?_,fun _=>?_,fun h=>absurd hsE h⟩
   ·show aj (dF [q8.h 7]) _ _
    rw[bp,G7.h 7 (by omega)];exact hD5
   ·rw[hsE];rfl
   ·unfold dW
    rw[if_pos hlt]
    have hW8:bF (q8.h 16) (.slice (ar (q8.i 16) (q8.i 17)) (q8.i 18).toNat (q8.i 19).toNat) (fZ (dG D)):=by
     rw[g8.h 16 (by omega),g8.i 16 (by omega),g8.i 17 (by omega),g8.i 18 (by omega),g8.i 19 (by omega)];exact hW
    have hA8:bW (q8.h 5) (.pointer (ar (q8.i 4) (q8.i 5))) dp (jI D) (gM D):=by
     rw[G7.h 5 (by omega),G7.i 4 (by omega),G7.i 5 (by omega)];exact hA5
    have hB8:bW (q8.h 8) (.pointer (ar (q8.i 7) (q8.i 8))) dp (fP D) (dG D):=by
     rw[G7.h 8 (by omega),G7.i 7 (by omega),G7.i 8 (by omega)];exact hB5
    exact⟨(q8.i 20).toNat,_,_,_,_,_,_,by rw[aq p8];rfl,⟨hB8,hA8,hW8,hd 5 2 _ _ (by decide) rfl rfl rfl,hd 5 1 _ _ (by decide) rfl rfl rfl,hd 5 4 _ _ (by decide) rfl rfl rfl,hd 2 1 _ _ (by decide) rfl rfl rfl,hd 2 4 _ _ (by decide) rfl rfl rfl,hd 1 4 _ _ (by decide) rfl rfl rfl,rfl⟩⟩
  ·have hO:=lW hA5.rd hp6
   rw[←hF6 trivial]at hO
   have hRd:=hO.rd.w
   refine⟨⟨_,_,_,rfl,rfl,hRd,hlo,by omega⟩,fun q7 g7 ⟨F7,hp7,hF7,hn7⟩ q8 g8 p8 hd=>?_⟩
   have hW:=rU hRd hp7
   rw[←hF7 trivial]at hW
   have G7:ae 12 q5 q8:=g6.trans ((g7.trans (g8.mono (by omega))).mono (by omega))
   have hn7:-1≤q7.i 16∧0≤q7.i 17∧0≤q7.i 18∧0≤q7.i 19:=hn7.1
   refine⟨[[0]],[5,1,2,4],rfl,rfl,⟨⟨fun j=>[q8.i 20,0,0].getD j 0,fun _=>false,fun _=>.empty,fun _=>.tuple #[],fun _=>Hl.none⟩,rfl,⟨by show -1≤q8.i 20;omega,Int.le_refl _⟩,trivial,trivial⟩,dp,H,D,_,Value.pointer (ar (q8.i 20) 0),rfl,rfl,hD,rfl,?_,?_,fun _=>?_,fun h=>absurd hsE h⟩
   ·show aj (dF [q8.h 7]) _ _
    rw[bp,G7.h 7 (by omega)];exact hD5
   ·rw[hsE];rfl
   ·unfold dW
    rw[if_neg hge]
    have hW8:bF (q8.h 16) (.slice (ar (q8.i 16) (q8.i 17)) (q8.i 18).toNat (q8.i 19).toNat) (fZ (gM D)):=by
     rw[g8.h 16 (by omega),g8.i 16 (by omega),g8.i 17 (by omega),g8.i 18 (by omega),g8.i 19 (by omega)];exact hW
    have hA8:bW (q8.h 5) (.pointer (ar (q8.i 4) (q8.i 5))) dp (jI D) (gM D):=by
     rw[G7.h 5 (by omega),G7.i 4 (by omega),G7.i 5 (by omega)];exact hA5
    have hB8:bW (q8.h 8) (.pointer (ar (q8.i 7) (q8.i 8))) dp (fP D) (dG D):=by
     rw[G7.h 8 (by omega),G7.i 7 (by omega),G7.i 8 (by omega)];exact hB5
    exact⟨(q8.i 20).toNat,_,_,_,_,_,_,by rw[aq p8];rfl,⟨hA8,hB8,hW8,hd 5 1 _ _ (by decide) rfl rfl rfl,hd 5 2 _ _ (by decide) rfl rfl rfl,hd 5 4 _ _ (by decide) rfl rfl rfl,hd 1 2 _ _ (by decide) rfl rfl rfl,hd 1 4 _ _ (by decide) rfl rfl rfl,hd 2 4 _ _ (by decide) rfl rfl rfl,rfl⟩⟩
end Go.Proofs.YtomdimlnggpgbaaGreatDoor
namespace Go.Proofs.YtomdimlnggpgbaaGreatDoor
open Go Go.Sx Go.Pk
open Go.Proofs.YtomdimlnggpgbaaGreatDoor.D hiding bx aH hJ
def DT (o:Bool) (rows:List (List Int)) (e:Int):Prop:=(o=true→e=5)∧(o=false→cC rows→e=0)∧(o=false→¬cC rows→e=3)
def kN:Sx.Spec where
 fn:=49
 own:=[]
 rd:=[0,1,3000001]
 res:=[.one .sl,.one (.int .i64)]
 pre:=fun xs Hs Rs=>∃ p v a o R R1 RA rows,xs=[p,v]∧Rs=[R,R1,RA]∧p=.pointer (some ⟨a,0,none⟩)∧R.cell a 3=some (.bool o)∧bu R1 RA v rows∧rows.length≤1000000∧∀ r∈rows,0≤r.length
 post:=fun xs Hs Rs w Hs' F=>∃ p v a o R R1 RA rows u e,xs=[p,v]∧Rs=[R,R1,RA]∧p=.pointer (some ⟨a,0,none⟩)∧R.cell a 3=some (.bool o)∧bu R1 RA v rows∧w=.tuple #[u,.int .i64 e]∧DT o rows e∧(e=0→dA F 5 u (aD rows))
theorem ru {a:Nat} {o:Bool} {v w:Value} {R R1 RA F:Hl} {K:List Hl} {rows:List (List Int)} (h1:R.cell a 3=some (.bool o)) (h2:bu R1 RA v rows) (hp:kN.post [.pointer (some ⟨a,0,none⟩),v] [] [R,R1,RA] w K F) :
 ∃ u e,w=.tuple #[u,.int .i64 e]∧DT o rows e∧(e=0→dA F 5 u (aD rows)):=by
 obtain⟨p',v',a',o',R',R1',RA',rows',u,e,e1,e2,e3,e4,e5,hw,hE,hO⟩:=hp
 simp only[List.cons.injEq,and_true]at e1 e2
 obtain⟨ep,ev⟩:=e1
 obtain⟨x1,x2,x3⟩:=e2
 subst ep ev x1 x2 x3
 have ea:a=a':=by simpa using e3
 subst ea
 have eo:o=o':=by simpa using h1.symm.trans e4
 subst eo
 obtain rfl:=h2.uniq e5
 exact⟨u,e,hw,hE,hO⟩
theorem xc {v w:Value} {R RA F:Hl} {K:List Hl} {rows:List (List Int)} (h2:bu R RA v rows) (hp:ly.post [v] [] [R,RA] w K F) :
 ∃ u e,w=.tuple #[u,.int .i64 e]∧(cC rows→e=0∧dA F 5 u (aD rows))∧(¬cC rows→e=3):=by
 obtain⟨v',R',RA',rows',u,e,e1,e2,e5,hw,hE,hO⟩:=hp
 simp only[List.cons.injEq,and_true]at e1 e2
 obtain⟨x2,x3⟩:=e2
 subst e1 x2 x3
 obtain rfl:=h2.uniq e5
 exact⟨u,e,hw,hE,hO⟩
def DR:List Sx.Spec:=[ly]
theorem Fa:∀ t∈DR,t.OK Tryz.prog:=fun t ht=>by
 simp only[DR,List.mem_cons,List.mem_nil_iff,or_false]at ht
 rw[ht];exact zi
def uP:Nd:=.and (.e (.le (.lit 0) (.var 0))) (.and (.e (.his 5 (.var 0) (.lit 3) 0 .bool)) (.and (.imp (.hB 5 (.var 0) (.lit 3) 0) (.post [.ro 5 [.var 0] false,.ro 6 [.var 1] false,.ro 7 [] true] (.tup [.one (.sl (.lit (-1)) (.lit 0) (.lit 0) (.lit 0)),.one (.int .i64 (.lit 5))]))) (.imp (.not (.hB 5 (.var 0) (.lit 3) 0)) (.and (.pre (.call 0 8 [.sv (.one (.sl (.var 1) (.var 2) (.var 3) (.var 4)))] [] [.ro 6 [.var 1] false,.ro 7 [] true])) (.ext (.call 0 8 [.sv (.one (.sl (.var 1) (.var 2) (.var 3) (.var 4)))] [] [.ro 6 [.var 1] false,.ro 7 [] true]) (.post [.ro 5 [.var 0] false,.ro 6 [.var 1] false,.ro 7 [] true,.hp 8 [] [.var 8] []] (.tup [.one (.sl (.var 8) (.var 9) (.var 10) (.var 11)),.one (.int .i64 (.var 12))])))))))
def rr:cy Tryz.prog DR kN.fn where
 Λ:=aH
 args:=[TP (.var 0) (.lit 0),.sv (.one (.sl (.var 1) (.var 2) (.var 3) (.var 4)))]
 mem:=[.ro 5 [.var 0] false,.ro 6 [.var 1] false,.ro 7 [] true]
 nv:=8
 nd:=uP
 ok:=by kernel_rfl
theorem JC:DR[0]?=some ly:=rfl
theorem JD:ly.res=[.one .sl,.one (.int .i64)]:=rfl
open Classical in
theorem tj:kN.OK Tryz.prog:=by
 refine Spec.b8 (Γ:=DR) Fa ?_
 rintro xs Hs Rs hl1 hl2 ⟨p,v,a,o,R,R1,RA,rows,rfl,rfl,rfl,hc,hB,hlen,hrow⟩
 have e0:Hs=[]:=List.length_eq_zero_iff.1 hl1
 subst e0
 obtain⟨us,x,y,c,rfl,hy,hul,hcell,hrd⟩:=id hB
 refine⟨rr,bx [(a:Int),x,y,us.length,c] false [Hl.none,Hl.none,Hl.none,Hl.none,Hl.none,R,R1,RA],fun _ _=>True,fun _ _=>0,?_,⟨?_,?_,?_,?_⟩,(fun _ h=>nomatch h),?_⟩
 ·show [Value.pointer (ar (a:Int) 0),Value.slice (ar x y) ((us.length:Int)).toNat ((c:Int)).toNat]=_
  rw[Int.toNat_natCast,Int.toNat_natCast,eV]
 ·intro r hr ho;simp [rr]at hr;rcases hr with rfl | rfl | rfl<;>cases ho
 ·intro r hr ho;simp [rr]at hr
  rcases hr with rfl | rfl | rfl
  ·exact⟨R,by simp,Hl.le_refl _⟩
  ·exact⟨R1,by simp,Hl.le_refl _⟩
  ·exact⟨RA,by simp,Hl.le_refl _⟩
 ·simp [rr,bc.own]
 ·intro r hr;simp [rr]at hr;rcases hr with rfl | rfl | rfl<;>trivial
 ·show Nd.holds _ _ _ uP
  generalize hρ:bx [(a:Int),x,y,us.length,c] false [Hl.none,Hl.none,Hl.none,Hl.none,Hl.none,R,R1,RA]=ρ
  have v0:ρ.i 0=a:=by rw[←hρ];rfl
  have v1:ρ.i 1=x:=by rw[←hρ];rfl
  have v2:ρ.i 2=y:=by rw[←hρ];rfl
  have v3:ρ.i 3=us.length:=by rw[←hρ];rfl
  have v4:ρ.i 4=c:=by rw[←hρ];rfl
  have w5:ρ.h 5=R:=by rw[←hρ];rfl
  have w6:ρ.h 6=R1:=by rw[←hρ];rfl
  have w7:ρ.h 7=RA:=by rw[←hρ];rfl
  clear hρ
  have t3:Int.toNat 3=3:=rfl
  unfold uP
  simp only[Nd.holds,X.pre,X.rel,X.n,Src.ok,Src.len,Src.bS,true_and,and_true,if_true,Nat.mul_one,Nat.add_zero,Nat.reduceAdd,List.length_cons,List.length_nil,bN,bK,aP,ba,bb,bM,bj,bJ,bI,bD,bd,bk,bL,bg,bf,aQ,bh,ah,ai,aE,aI,aK,ax,aF,aV,aT,au,aO,aC,aN,aB,TV.ev,SV.ev,CV.ev,List.map_cons,List.map_nil,bc.hl,df,Cp.sv,Ck.cv,ct,Cp.len,Ck.len,aU,bm,bC,JC,JD,Ir,t3]
  rw[v0,v1,v2,v3,v4,w5,w6,w7,Int.toNat_natCast,Int.toNat_natCast,Int.toNat_natCast,hc]
  refine⟨by omega,rfl,fun ho _=>?_,fun ho=>⟨⟨_,R1,RA,rows,rfl,rfl,hB,hlen,hrow⟩,fun q1 g1 ⟨F1,hp1,hF1,hn1⟩ _=>?_⟩⟩
  ·have ho:o=true:=ho
   refine⟨[],[],rfl,rfl,⟨⟨fun j=>[-1,0,0,0,5].getD j 0,fun _=>false,fun _=>.empty,fun _=>.tuple #[],fun _=>Hl.none⟩,rfl,⟨Int.le_refl _,Int.le_refl _,Int.le_refl _,Int.le_refl _⟩,trivial,trivial⟩,_,_,a,o,R,R1,RA,rows,.slice none 0 0,5,rfl,rfl,rfl,hc,hB,rfl,⟨fun _=>rfl,fun h=>absurd (ho.symm.trans h) (by simp),fun h=>absurd (ho.symm.trans h) (by simp)⟩,fun h=>absurd h (by decide)⟩
  ·have ho:¬o=true:=ho
   obtain⟨u,e,hw,hy1,hy2⟩:=xc hB hp1
   simp only[Value.tuple.injEq,Array.mk.injEq,List.cons.injEq,Value.int.injEq,true_and,and_true]at hw
   obtain⟨eu,ee⟩:=hw
   have hn:-1≤q1.i 8∧0≤q1.i 9∧0≤q1.i 10∧0≤q1.i 11:=hn1.1
   refine⟨[],[3],rfl,rfl,⟨⟨fun j=>[q1.i 8,q1.i 9,q1.i 10,q1.i 11,q1.i 12].getD j 0,fun _=>false,fun _=>.empty,fun _=>.tuple #[],fun _=>Hl.none⟩,rfl,hn,trivial,trivial⟩,_,_,a,o,R,R1,RA,rows,.slice (ar (q1.i 8) (q1.i 9)) (q1.i 10).toNat (q1.i 11).toNat,q1.i 12,rfl,rfl,rfl,hc,hB,rfl,⟨fun h=>absurd h ho,fun _ h=>?_,fun _ h=>?_⟩,fun h=>?_⟩
   ·rw[ee];exact(hy1 h).1
   ·rw[ee];exact hy2 h
   ·show dA (dF [q1.h 8]) _ _ _
    rw[bp,hF1 trivial,eu]
    by_cases hk:cC rows
    ·exact(hy1 hk).2
    ·have:=hy2 hk;omega
end Go.Proofs.YtomdimlnggpgbaaGreatDoor
namespace Go.Proofs.YtomdimlnggpgbaaGreatDoor
open Go Go.Sx Go.Pk
open Go.Proofs.YtomdimlnggpgbaaGreatDoor.D hiding bx aH hJ
theorem bF.rep {F:Hl} {v:Value} {rows:List (List Int)} (h:bF F v rows):∃ (x:Int) (c:Nat),-1≤x∧v=.slice (ar x 0) rows.length c:=by
 obtain⟨us,ho,_⟩:=h
 rcases ho.2 with ⟨h,hn⟩ | ⟨g,cap,cur,h,_⟩
 ·exact⟨-1,0,by omega,by rw[cW,hn];exact h⟩
 ·exact⟨g,cap,by omega,by rw[aq (by omega)];simpa using h⟩
structure GS where
 e:Int
 D:DM
 S:SM
def vO (D:DM) (S:SM) (rows:List (List Int)) (r:AR):GS :=
 ⟨fS r.e,r.D,⟨r.L,r.bs,S.LB,S.bB,if fS r.e=0 then S.recs++rows else S.recs,if r.e≠0∧gi r.e=fO then true else S.over⟩⟩
open Classical in
noncomputable def cA (D:DM) (S:SM) (rows:List (List Int)):GS :=
 if S.over=true then⟨5,D,S⟩
 else if ¬cC rows then⟨3,D,S⟩
 else if rows=[]then⟨0,D,S⟩
 else if S.LA.most-S.bA.length<(aD rows).length then⟨4,D,S⟩
 else vO D S rows (av D S.LA S.bA (aD rows) S.LA.note)
noncomputable def sh:Sx.Spec where
 fn:=15
 own:=[.arg 0,.link 0 0]
 rd:=[1,3000001,2000000]
 res:=[.one (.int .i64)]
 pre:=fun xs Hs Rs=>∃ p v H HD R RA RG g dp S D rows,xs=[p,v]∧Hs=[H,HD]∧Rs=[R,RA,RG]∧bT H p dp S∧aj HD dp D∧bu R RA v rows∧Gl RG g∧rows.length≤1000000∧(∀ r∈rows,0≤r.length)∧S.bA.length≤1048576∧0≤S.LA.serial∧S.recs.length≤1000000000
 post:=fun xs Hs Rs w Hs' F=>∃ p v H HD R RA RG dp S D rows H' HD',xs=[p,v]∧Hs=[H,HD]∧Rs=[R,RA,RG]∧bT H p dp S∧aj HD dp D∧bu R RA v rows∧Hs'=[H',HD']∧aj HD' dp (cA D S rows).D∧bT H' p dp (cA D S rows).S∧w=.int .i64 (cA D S rows).e
theorem uT {L:LM} {bs:List Int} {q:Env} {n:Nat} (h:Value.int .i64 (q.i n)=.int .i64 (L.most-bs.length)):q.i n=L.most-bs.length:=by simpa using h
noncomputable def B':List Sx.Spec:=[kN,iN,iZ,gW,jA,Ep,gC,gY]
theorem FM:∀ t∈B',t.OK Tryz.prog:=fun t ht=>by
 simp only[B',List.mem_cons,List.mem_nil_iff,or_false]at ht
 rcases ht with rfl | rfl | rfl | rfl | rfl | rfl | rfl | rfl
 ·exact tj
 ·exact nu
 ·exact sQ
 ·exact pT
 ·exact pq
 ·exact yK
 ·exact qV
 ·exact lY
def Cg:Nd:=.and (.pre (.call 0 19 [.sv (.one (.hptr (.var 0) (.lit 0))),.sv (.one (.sl (.var 1) (.var 2) (.var 3) (.var 4)))] [] [.aS 0 [.hptr (.var 5) (.lit 0),.hptr (.var 6) (.lit 0),.sl (.var 7) (.lit 0) (.var 8) (.var 9),.bool (.bvar 10)] 101,.ro 16 [.var 1] false,.ro 17 [] true])) (.ext (.call 0 19 [.sv (.one (.hptr (.var 0) (.lit 0))),.sv (.one (.sl (.var 1) (.var 2) (.var 3) (.var 4)))] [] [.aS 0 [.hptr (.var 5) (.lit 0),.hptr (.var 6) (.lit 0),.sl (.var 7) (.lit 0) (.var 8) (.var 9),.bool (.bvar 10)] 101,.ro 16 [.var 1] false,.ro 17 [] true]) (.and (.imp (.eq (.var 23) (.lit 0)) (.and (.e (.le (.lit 0) (.var 3))) (.and (.imp (.eq (.var 3) (.lit 0)) (.post [.aS 0 [.hptr (.var 5) (.lit 0),.hptr (.var 6) (.lit 0),.sl (.var 7) (.lit 0) (.var 8) (.var 9),.bool (.bvar 10)] 101,.hp 12 [] [.var 5] [.var 11],.hp 13 [] [.var 6] [.var 11],.hp 14 [] [.var 7] [],.hp 15 [] [.var 11] [],.ro 16 [.var 1] false,.ro 17 [] true,.ro 18 [.lit 0,.lit 1,.lit 2] false,.hp 19 [] [.var 19] []] (.sv (.one (.int .i64 (.var 23)))))) (.imp (.not (.eq (.var 3) (.lit 0))) (.and (.e (.le (.lit 0) (.var 21))) (.and (.pre (.call 1 24 [.sv (.one (.hptr (.var 5) (.lit 0)))] [] [.hp 12 [] [.var 5] [.var 11]])) (.ext (.call 1 24 [.sv (.one (.hptr (.var 5) (.lit 0)))] [] [.hp 12 [] [.var 5] [.var 11]]) (.and (.imp (.lt (.var 24) (.var 21)) (.post [.aS 0 [.hptr (.var 5) (.lit 0),.hptr (.var 6) (.lit 0),.sl (.var 7) (.lit 0) (.var 8) (.var 9),.bool (.bvar 10)] 101,.hp 12 [] [.var 5] [.var 11],.hp 13 [] [.var 6] [.var 11],.hp 14 [] [.var 7] [],.hp 15 [] [.var 11] [],.ro 16 [.var 1] false,.ro 17 [] true,.ro 18 [.lit 0,.lit 1,.lit 2] false,.hp 19 [] [.var 19] []] (.sv (.one (.int .i64 (.lit 4)))))) (.imp (.not (.lt (.var 24) (.var 21))) (.and (.pre (.call 2 25 [.sv (.one (.hptr (.var 5) (.lit 0)))] [] [.hp 12 [] [.var 5] [.var 11]])) (.ext (.call 2 25 [.sv (.one (.hptr (.var 5) (.lit 0)))] [] [.hp 12 [] [.var 5] [.var 11]]) (.and (.pre (.call 3 41 [.sv (.one (.hptr (.var 5) (.lit 0))),.sv (.one (.sl (.var 19) (.var 20) (.var 21) (.var 22))),.sv (.agg (al 25 (List.replicate 16 (Ck.int .u8))))] [.hp 12 [] [.var 5] [.var 11],.hp 15 [] [.var 11] []] [.hp 19 [] [.var 19] []])) (.ext (.call 3 41 [.sv (.one (.hptr (.var 5) (.lit 0))),.sv (.one (.sl (.var 19) (.var 20) (.var 21) (.var 22))),.sv (.agg (al 25 (List.replicate 16 (Ck.int .u8))))] [.hp 12 [] [.var 5] [.var 11],.hp 15 [] [.var 11] []] [.hp 19 [] [.var 19] []]) (.and (.pre (.call 4 44 [.sv (.one (.str (.slit ⟨#[97,100,100]⟩))),.sv (.one (.int .i64 (.var 41)))] [] [.ro 18 [.lit 0,.lit 1,.lit 2] false])) (.ext (.call 4 44 [.sv (.one (.str (.slit ⟨#[97,100,100]⟩))),.sv (.one (.int .i64 (.var 41)))] [] [.ro 18 [.lit 0,.lit 1,.lit 2] false]) (.and (.e (.his 18 (.lit 0) (.lit 0) 0 .any)) (.and (.pre (.call 5 45 [.sv (.one (.vr 44)),.sv (.one (.hv 18 (.lit 0) (.lit 0) 0))] [] [.ro 18 [.lit 0,.lit 1,.lit 2] false])) (.ext (.call 5 45 [.sv (.one (.vr 44)),.sv (.one (.hv 18 (.lit 0) (.lit 0) 0))] [] [.ro 18 [.lit 0,.lit 1,.lit 2] false]) (.and (.imp (.bvar 45) (.and (.pre (.call 6 46 [.sv (.one (.vr 44))] [] [.ro 18 [.lit 0,.lit 1,.lit 2] false])) (.ext (.call 6 46 [.sv (.one (.vr 44))] [] [.ro 18 [.lit 0,.lit 1,.lit 2] false]) (.and (.imp (.not (.eq (.var 46) (.lit 0))) (.post [.aS 0 [.hptr (.var 5) (.lit 0),.hptr (.var 6) (.lit 0),.sl (.var 7) (.lit 0) (.var 8) (.var 9),.bool .tt] 101,.hp 41 [12] [.var 5] [.var 11],.hp 13 [] [.var 6] [.var 11],.hp 14 [] [.var 7] [],.hp 42 [15] [.var 11] [],.ro 16 [.var 1] false,.ro 17 [] true,.ro 18 [.lit 0,.lit 1,.lit 2] false,.hp 19 [] [.var 19] []] (.sv (.one (.int .i64 (.var 46)))))) (.imp (.eq (.var 46) (.lit 0)) (.and (.inv 0 [⟨60,0,.int .i64 (.lit 0)⟩,⟨61,0,.int .i64 (.var 7)⟩,⟨62,0,.int .i64 (.var 8)⟩,⟨63,0,.int .i64 (.var 9)⟩,⟨65,1,.bool .tt⟩] [(64,some 14)]) (.havoc 0 0 47 (.and (.imp (.lt (.var 60) (.var 3)) (.and (.e (.le (.lit 0) (.var 1))) (.and (.e (.le (.lit 0) (.var 2))) (.and (.e (.le (.lit 0) (.var 60))) (.and (.e (.his 16 (.var 1) (.add (.var 2) (.var 60)) 0 .slice)) (.and (.pre (.call 7 66 [.sv (.one (.sl (.hP 16 (.var 1) (.add (.var 2) (.var 60)) 0 0) (.hP 16 (.var 1) (.add (.var 2) (.var 60)) 0 1) (.hP 16 (.var 1) (.add (.var 2) (.var 60)) 0 2) (.hP 16 (.var 1) (.add (.var 2) (.var 60)) 0 3)))] [] [.ro 17 [] true])) (.ext (.call 7 66 [.sv (.one (.sl (.hP 16 (.var 1) (.add (.var 2) (.var 60)) 0 0) (.hP 16 (.var 1) (.add (.var 2) (.var 60)) 0 1) (.hP 16 (.var 1) (.add (.var 2) (.var 60)) 0 2) (.hP 16 (.var 1) (.add (.var 2) (.var 60)) 0 3)))] [] [.ro 17 [] true]) (.ext (.alloc 70) (.ext (.Bx 71 (.hp 64 [] [.var 61] []) (.hp 66 [] [.var 66] [])) (.and (.pre (.app 72 46 1 24 (.sl (.var 61) (.lit 0) (.var 62) (.var 63)) (.var 62) (.hp 71 [64,66] [.var 61,.var 66,.var 66] []) (.cvs [.sl (.var 66) (.var 67) (.var 68) (.var 69)] 1))) (.ext (.app 72 46 1 24 (.sl (.var 61) (.lit 0) (.var 62) (.var 63)) (.var 62) (.hp 71 [64,66] [.var 61,.var 66,.var 66] []) (.cvs [.sl (.var 66) (.var 67) (.var 68) (.var 69)] 1)) (.back 0 0 [⟨60,0,.int .i64 (.wrap .i64 (.add (.var 60) (.lit 1)))⟩,⟨61,0,.int .i64 (.var 72)⟩,⟨62,0,.int .i64 (.add (.var 62) (.lit 1))⟩,⟨63,0,.int .i64 (.var 73)⟩,⟨65,1,.bool (.bvar 65)⟩] [(64,some 72)])))))))))))) (.imp (.not (.lt (.var 60) (.var 3))) (.post [.aS 0 [.hptr (.var 5) (.lit 0),.hptr (.var 6) (.lit 0),.sl (.var 61) (.lit 0) (.var 62) (.var 63),.bool (.bvar 65)] 101,.hp 41 [12] [.var 5] [.var 11],.hp 13 [] [.var 6] [.var 11],.hp 64 [] [.var 61] [],.hp 42 [15] [.var 11] [],.ro 16 [.var 1] false,.ro 17 [] true,.ro 18 [.lit 0,.lit 1,.lit 2] false,.hp 19 [] [.var 19] []] (.sv (.one (.int .i64 (.lit 0)))))))))))))) (.imp (.not (.bvar 45)) (.and (.pre (.call 6 46 [.sv (.one (.vr 44))] [] [.ro 18 [.lit 0,.lit 1,.lit 2] false])) (.ext (.call 6 46 [.sv (.one (.vr 44))] [] [.ro 18 [.lit 0,.lit 1,.lit 2] false]) (.and (.imp (.not (.eq (.var 46) (.lit 0))) (.post [.aS 0 [.hptr (.var 5) (.lit 0),.hptr (.var 6) (.lit 0),.sl (.var 7) (.lit 0) (.var 8) (.var 9),.bool (.bvar 10)] 101,.hp 41 [12] [.var 5] [.var 11],.hp 13 [] [.var 6] [.var 11],.hp 14 [] [.var 7] [],.hp 42 [15] [.var 11] [],.ro 16 [.var 1] false,.ro 17 [] true,.ro 18 [.lit 0,.lit 1,.lit 2] false,.hp 19 [] [.var 19] []] (.sv (.one (.int .i64 (.var 46)))))) (.imp (.eq (.var 46) (.lit 0)) (.and (.inv 0 [⟨60,0,.int .i64 (.lit 0)⟩,⟨61,0,.int .i64 (.var 7)⟩,⟨62,0,.int .i64 (.var 8)⟩,⟨63,0,.int .i64 (.var 9)⟩,⟨65,1,.bool (.bvar 10)⟩] [(64,some 14)]) (.havoc 0 0 47 (.and (.imp (.lt (.var 60) (.var 3)) (.and (.e (.le (.lit 0) (.var 1))) (.and (.e (.le (.lit 0) (.var 2))) (.and (.e (.le (.lit 0) (.var 60))) (.and (.e (.his 16 (.var 1) (.add (.var 2) (.var 60)) 0 .slice)) (.and (.pre (.call 7 66 [.sv (.one (.sl (.hP 16 (.var 1) (.add (.var 2) (.var 60)) 0 0) (.hP 16 (.var 1) (.add (.var 2) (.var 60)) 0 1) (.hP 16 (.var 1) (.add (.var 2) (.var 60)) 0 2) (.hP 16 (.var 1) (.add (.var 2) (.var 60)) 0 3)))] [] [.ro 17 [] true])) (.ext (.call 7 66 [.sv (.one (.sl (.hP 16 (.var 1) (.add (.var 2) (.var 60)) 0 0) (.hP 16 (.var 1) (.add (.var 2) (.var 60)) 0 1) (.hP 16 (.var 1) (.add (.var 2) (.var 60)) 0 2) (.hP 16 (.var 1) (.add (.var 2) (.var 60)) 0 3)))] [] [.ro 17 [] true]) (.ext (.alloc 70) (.ext (.Bx 71 (.hp 64 [] [.var 61] []) (.hp 66 [] [.var 66] [])) (.and (.pre (.app 72 46 1 24 (.sl (.var 61) (.lit 0) (.var 62) (.var 63)) (.var 62) (.hp 71 [64,66] [.var 61,.var 66,.var 66] []) (.cvs [.sl (.var 66) (.var 67) (.var 68) (.var 69)] 1))) (.ext (.app 72 46 1 24 (.sl (.var 61) (.lit 0) (.var 62) (.var 63)) (.var 62) (.hp 71 [64,66] [.var 61,.var 66,.var 66] []) (.cvs [.sl (.var 66) (.var 67) (.var 68) (.var 69)] 1)) (.back 0 0 [⟨60,0,.int .i64 (.wrap .i64 (.add (.var 60) (.lit 1)))⟩,⟨61,0,.int .i64 (.var 72)⟩,⟨62,0,.int .i64 (.add (.var 62) (.lit 1))⟩,⟨63,0,.int .i64 (.var 73)⟩,⟨65,1,.bool (.bvar 65)⟩] [(64,some 72)])))))))))))) (.imp (.not (.lt (.var 60) (.var 3))) (.post [.aS 0 [.hptr (.var 5) (.lit 0),.hptr (.var 6) (.lit 0),.sl (.var 61) (.lit 0) (.var 62) (.var 63),.bool (.bvar 65)] 101,.hp 41 [12] [.var 5] [.var 11],.hp 13 [] [.var 6] [.var 11],.hp 64 [] [.var 61] [],.hp 42 [15] [.var 11] [],.ro 16 [.var 1] false,.ro 17 [] true,.ro 18 [.lit 0,.lit 1,.lit 2] false,.hp 19 [] [.var 19] []] (.sv (.one (.int .i64 (.lit 0))))))))))))))))))))))))))))))))) (.imp (.not (.eq (.var 23) (.lit 0))) (.post [.aS 0 [.hptr (.var 5) (.lit 0),.hptr (.var 6) (.lit 0),.sl (.var 7) (.lit 0) (.var 8) (.var 9),.bool (.bvar 10)] 101,.hp 12 [] [.var 5] [.var 11],.hp 13 [] [.var 6] [.var 11],.hp 14 [] [.var 7] [],.hp 15 [] [.var 11] [],.ro 16 [.var 1] false,.ro 17 [] true,.ro 18 [.lit 0,.lit 1,.lit 2] false,.hp 19 [] [.var 19] []] (.sv (.one (.int .i64 (.var 23))))))))
noncomputable def Ch:cy Tryz.prog B' sh.fn where
 Λ:=fun p=>if ES p then some ⟨0,[(51,TI .i64 (.var 60))],[(0,.aS 0 [.hptr (.var 5) (.lit 0),.hptr (.var 6) (.lit 0),.sl (.var 61) (.lit 0) (.var 62) (.var 63),.bool (.bvar 65)] 101),(3,.hp 64 [] [.var 61] [])],66⟩else none
 args:=[TP (.var 0) (.lit 0),.sv (.one (.sl (.var 1) (.var 2) (.var 3) (.var 4)))]
 mem:=[.aS 0 [.hptr (.var 5) (.lit 0),.hptr (.var 6) (.lit 0),.sl (.var 7) (.lit 0) (.var 8) (.var 9),.bool (.bvar 10)] 101,.hp 12 [] [.var 5] [.var 11],.hp 13 [] [.var 6] [.var 11],.hp 14 [] [.var 7] [],.hp 15 [] [.var 11] [],.ro 16 [.var 1] false,.ro 17 [] true,.ro 18 [.lit 0,.lit 1,.lit 2] false]
 nv:=19
 nd:=Cg
 ok:=by kernel_rfl
theorem Ix:B'[0]?=some kN:=rfl
theorem Iy:B'[1]?=some iN:=rfl
theorem Iz:B'[2]?=some iZ:=rfl
theorem IA:B'[3]?=some gW:=rfl
theorem IB:B'[4]?=some jA:=rfl
theorem IC:B'[5]?=some Ep:=rfl
theorem ID:B'[6]?=some gC:=rfl
theorem IE:B'[7]?=some gY:=rfl
theorem G':kN.res=[.one .sl,.one (.int .i64)]:=rfl
theorem Ha:iN.res=[.one (.int .i64)]:=rfl
theorem IF:iZ.res=[.agg (mw 16)]:=rfl
theorem Hb:gW.res=[.one (.int .i64)]:=rfl
theorem Hc:jA.res=[.one .any]:=rfl
theorem Hd:Ep.res=[.one .bool]:=rfl
theorem He:gC.res=[.one (.int .i64)]:=rfl
theorem FL:gY.res=[.one .sl]:=rfl
set_option maxRecDepth 8000 in
theorem zU:sh.OK Tryz.prog:=by
 refine dZ (Γ:=B') FM ?_
 rintro xs Hs Rs hl1 hl2 hdis ⟨p,v,H,HD,R,RA,RG,g,dp,S,D,rows,rfl,rfl,rfl,hAt,hD,hB,hG,hlen,hrow,hbA,hser,hrecs⟩
 obtain⟨a,pa,pb,sl,HA,HB,HR,rfl,hIn⟩:=id hAt
 obtain⟨us,x,y,c,rfl,hy,hul,hcell,hrd⟩:=id hB
 obtain⟨da,s,m,es,clock,hdp,hDi⟩:=id hD
 obtain⟨rx,rc,hrx,hsl⟩:=hIn.rows.rep
 obtain⟨aa,_,_,hpa,_⟩:=id hIn.la
 obtain⟨ab,_,_,hpb,_⟩:=id hIn.lb
 obtain⟨l1,l2,l3,l4⟩:=ur hIn.d1 hIn.d2 hIn.d3 hIn.d4 hIn.d5 hIn.d6
 rw[←hIn.hl]at l1 l2 l3 l4
 have hHD:H.ch HD:=hdis 0 1 _ _ (by decide) rfl rfl
 generalize hρ:bx [(a:Int),x,y,us.length,c,aa,ab,rx,S.recs.length,rc,0,da] S.over [Hl.none,Hl.none,Hl.none,Hl.none,Hl.none,Hl.none,Hl.none,Hl.none,Hl.none,Hl.none,Hl.none,Hl.none,HA,HB,HR,HD,R,RA,RG]=ρ
 have v0:ρ.i 0=a:=by rw[←hρ];rfl
 have v1:ρ.i 1=x:=by rw[←hρ];rfl
 have v2:ρ.i 2=y:=by rw[←hρ];rfl
 have v3:ρ.i 3=us.length:=by rw[←hρ];rfl
 have v4:ρ.i 4=c:=by rw[←hρ];rfl
 have v5:ρ.i 5=aa:=by rw[←hρ];rfl
 have v6:ρ.i 6=ab:=by rw[←hρ];rfl
 have v7:ρ.i 7=rx:=by rw[←hρ];rfl
 have v8:ρ.i 8=S.recs.length:=by rw[←hρ];rfl
 have v9:ρ.i 9=rc:=by rw[←hρ];rfl
 have v11:ρ.i 11=da:=by rw[←hρ];rfl
 have b10:ρ.b 10=S.over:=by rw[←hρ];rfl
 have w12:ρ.h 12=HA:=by rw[←hρ];rfl
 have w13:ρ.h 13=HB:=by rw[←hρ];rfl
 have w14:ρ.h 14=HR:=by rw[←hρ];rfl
 have w15:ρ.h 15=HD:=by rw[←hρ];rfl
 have w16:ρ.h 16=R:=by rw[←hρ];rfl
 have w17:ρ.h 17=RA:=by rw[←hρ];rfl
 have w18:ρ.h 18=RG:=by rw[←hρ];rfl
 clear hρ
 have ea:Value.pointer (ar (aa:Int) 0)=pa:=by rw[eV,hpa]
 have eb:Value.pointer (ar (ab:Int) 0)=pb:=by rw[eV,hpb]
 have eBlk:∀ (q:Env) (cs:CV) (o:E),q.i 0=a→q.i 5=aa→q.i 6=ab→(bc.aS 0 [.hptr (.var 5) (.lit 0),.hptr (.var 6) (.lit 0),cs,.bool o] 101).hl q=og a pa pb (cs.ev q) (bo q o):=by
  intro q cs o h0 h5 h6
  show Hl.one (q.i 0).toNat (.cells #[Value.pointer (ar (q.i 5) 0),Value.pointer (ar (q.i 6) 0),cs.ev q,.bool (bo q o)] _ (0,0))=_
  rw[h0,h5,h6,ea,eb,Int.toNat_natCast];rfl
 have e0:(bc.aS 0 [.hptr (.var 5) (.lit 0),.hptr (.var 6) (.lit 0),.sl (.var 7) (.lit 0) (.var 8) (.var 9),.bool (.bvar 10)] 101).hl ρ=og a pa pb sl S.over:=by
  rw[eBlk ρ _ _ v0 v5 v6,bY,b10]
  congr 1
  show Value.slice (ar (ρ.i 7) 0) (ρ.i 8).toNat (ρ.i 9).toNat=_
  rw[v7,v8,v9,Int.toNat_natCast,Int.toNat_natCast,hsl]
 refine⟨Ch,ρ,fun _ q=>∃ k:Nat,q.i 60=k∧k≤rows.length∧ -1≤q.i 61∧0≤q.i 62∧0≤q.i 63∧q.b 65=false∧bF (q.h 64) (.slice (ar (q.i 61) 0) (q.i 62).toNat (q.i 63).toNat) (S.recs++rows.take k),fun _ q=>(rows.length-q.i 60).toNat,?_,⟨?_,?_,?_,?_⟩,(fun _ h=>nomatch h),?_⟩
 ·show [Value.pointer (ar (ρ.i 0) 0),Value.slice (ar (ρ.i 1) (ρ.i 2)) (ρ.i 3).toNat (ρ.i 4).toNat]=_
  rw[v0,v1,v2,v3,v4,Int.toNat_natCast,Int.toNat_natCast,eV]
 ·intro r hr ho
  simp only[Ch,List.mem_cons,List.mem_nil_iff,or_false]at hr
  rcases hr with rfl | rfl | rfl | rfl | rfl | rfl | rfl | rfl
  ·exact⟨H,by simp,by rw[e0];exact l1⟩
  ·exact⟨H,by simp,by show(ρ.h 12).le H;rw[w12];exact l2⟩
  ·exact⟨H,by simp,by show(ρ.h 13).le H;rw[w13];exact l3⟩
  ·exact⟨H,by simp,by show(ρ.h 14).le H;rw[w14];exact l4⟩
  ·exact⟨HD,by simp,by show(ρ.h 15).le HD;rw[w15];exact Hl.le_refl _⟩
  ·cases ho
  ·cases ho
  ·cases ho
 ·intro r hr ho
  simp only[Ch,List.mem_cons,List.mem_nil_iff,or_false]at hr
  rcases hr with rfl | rfl | rfl | rfl | rfl | rfl | rfl | rfl
  ·cases ho
  ·cases ho
  ·cases ho
  ·cases ho
  ·cases ho
  ·exact⟨R,by simp,by show(ρ.h 16).le R;rw[w16];exact Hl.le_refl _⟩
  ·exact⟨RA,by simp,by show(ρ.h 17).le RA;rw[w17];exact Hl.le_refl _⟩
  ·exact⟨RG,by simp,by show(ρ.h 18).le RG;rw[w18];exact Hl.le_refl _⟩
 ·have dD:∀ K:Hl,K.le H→K.ch HD:=fun K hK=>Hl.gJ (Hl.ud (Hl.gJ hHD) hK)
  have mem4:Ch.mem=[.aS 0 [.hptr (.var 5) (.lit 0),.hptr (.var 6) (.lit 0),.sl (.var 7) (.lit 0) (.var 8) (.var 9),.bool (.bvar 10)] 101,.hp 12 [] [.var 5] [.var 11],.hp 13 [] [.var 6] [.var 11],.hp 14 [] [.var 7] [],.hp 15 [] [.var 11] [],.ro 16 [.var 1] false,.ro 17 [] true,.ro 18 [.lit 0,.lit 1,.lit 2] false]:=rfl
  rw[mem4]
  have ro3:∀ (l:Mem),(∀ r∈l,r.own=false)→∀ K:bc,∀ r∈l,K.own=true→r.own=true→(K.hl ρ).ch (r.hl ρ):=fun l h K r hr _ ho=>by rw[h r hr]at ho;cases ho
  have hro:∀ r∈([.ro 16 [.var 1] false,.ro 17 [] true,.ro 18 [.lit 0,.lit 1,.lit 2] false]:Mem),r.own=false:=by
   intro r hr
   simp only[List.mem_cons,List.mem_nil_iff,or_false]at hr
   rcases hr with rfl | rfl | rfl<;>rfl
  refine List.Pairwise.cons (fun r hr hk ho=>?_) (List.Pairwise.cons (fun r hr hk ho=>?_) (List.Pairwise.cons (fun r hr hk ho=>?_) (List.Pairwise.cons (fun r hr hk ho=>?_) (List.Pairwise.cons (fun r hr hk ho=>ro3 _ hro _ r hr hk ho) (List.Pairwise.cons (fun r hr hk ho=>by cases hk) (List.Pairwise.cons (fun r hr hk ho=>by cases hk) (List.Pairwise.cons (fun r hr=>by cases hr) List.Pairwise.nil)))))))
  ·rw[e0]
   rw[List.mem_cons,List.mem_cons,List.mem_cons,List.mem_cons]at hr
   rcases hr with rfl | rfl | rfl | rfl | hr
   ·show(og a pa pb sl S.over).ch (ρ.h 12);rw[w12];exact hIn.d1
   ·show(og a pa pb sl S.over).ch (ρ.h 13);rw[w13];exact hIn.d2
   ·show(og a pa pb sl S.over).ch (ρ.h 14);rw[w14];exact hIn.d3
   ·show(og a pa pb sl S.over).ch (ρ.h 15);rw[w15];exact dD _ l1
   ·rw[hro r hr]at ho;cases ho
  ·rw[List.mem_cons,List.mem_cons,List.mem_cons]at hr
   show(ρ.h 12).ch _
   rw[w12]
   rcases hr with rfl | rfl | rfl | hr
   ·show HA.ch (ρ.h 13);rw[w13];exact hIn.d4
   ·show HA.ch (ρ.h 14);rw[w14];exact hIn.d5
   ·show HA.ch (ρ.h 15);rw[w15];exact dD _ l2
   ·rw[hro r hr]at ho;cases ho
  ·rw[List.mem_cons,List.mem_cons]at hr
   show(ρ.h 13).ch _
   rw[w13]
   rcases hr with rfl | rfl | hr
   ·show HB.ch (ρ.h 14);rw[w14];exact hIn.d6
   ·show HB.ch (ρ.h 15);rw[w15];exact dD _ l3
   ·rw[hro r hr]at ho;cases ho
  ·rw[List.mem_cons]at hr
   show(ρ.h 14).ch _
   rw[w14]
   rcases hr with rfl | hr
   ·show HR.ch (ρ.h 15);rw[w15];exact dD _ l4
   ·rw[hro r hr]at ho;cases ho
 ·intro r hr
  simp only[Ch,List.mem_cons,List.mem_nil_iff,or_false]at hr
  rcases hr with rfl | rfl | rfl | rfl | rfl | rfl | rfl | rfl
  ·show(0:Int)≤ρ.i 0;omega
  all_goals trivial
 ·show Nd.holds _ _ _ Cg
  have fin:∀ (q:Env) (hL hR hK:Nat) (vL vM vR vK:List Nat) (rL rM rR rK kL kM kR kK:List E) (cs:CV) (o rv:E) (t:Mem),ae 19 ρ q →
   bW (q.h hL) pa dp (cA D S rows).S.LA (cA D S rows).S.bA→(cA D S rows).S.LB=S.LB∧(cA D S rows).S.bB=S.bB→bF (q.h hR) (cs.ev q) (cA D S rows).S.recs→bo q o=(cA D S rows).S.over→aj (q.h hK) dp (cA D S rows).D→ak q rv=(cA D S rows).e →
   postOf sh [.pointer (some ⟨a,0,none⟩),.slice (ar x y) us.length c] [H,HD] [R,RA,RG] q (.aS 0 [.hptr (.var 5) (.lit 0),.hptr (.var 6) (.lit 0),cs,.bool o] 101::.hp hL vL rL kL::.hp 13 vM rM kM::.hp hR vR rR kR::.hp hK vK rK kK::t) (.sv (.one (.int .i64 rv))):=by
   intro q hL hR hK vL vM vR vK rL rM rR rK kL kM kR kK cs o rv t hg hLq hSB hRq hoq hDq heq hd
   have g0:q.i 0=a:=by rw[hg.i 0 (by omega),v0]
   have g5:q.i 5=aa:=by rw[hg.i 5 (by omega),v5]
   have g6:q.i 6=ab:=by rw[hg.i 6 (by omega),v6]
   have eq0:=eBlk q cs o g0 g5 g6
   rw[hoq]at eq0
   refine⟨[[0,1,2,3],[4]],[],rfl,rfl,⟨⟨fun _=>(cA D S rows).e,fun _=>false,fun _=>.empty,fun _=>.tuple #[],fun _=>Hl.none⟩,?_,trivial,trivial⟩,_,_,H,HD,R,RA,RG,dp,S,D,rows,_,_,rfl,rfl,rfl,hAt,hD,hB,rfl,?_,?_,?_⟩
   ·show Value.int .i64 (ak q rv)=.int .i64 (cA D S rows).e
    rw[heq]
   ·show aj (dF [q.h hK]) _ _
    rw[bp];exact hDq
   ·refine⟨a,pa,pb,cs.ev q,q.h hL,q.h 13,q.h hR,rfl,hLq,?_,hRq,?_,?_,?_,hd 1 2 _ _ (by decide) rfl rfl rfl,hd 1 3 _ _ (by decide) rfl rfl rfl,hd 2 3 _ _ (by decide) rfl rfl rfl,?_⟩
    ·rw[hSB.1,hSB.2,hg.h 13 (by omega),w13];exact hIn.lb
    ·rw[←eq0];exact hd 0 1 _ _ (by decide) rfl rfl rfl
    ·rw[←eq0];exact hd 0 2 _ _ (by decide) rfl rfl rfl
    ·rw[←eq0];exact hd 0 3 _ _ (by decide) rfl rfl rfl
    ·rw[←eq0];rfl
   ·show Value.int .i64 (ak q rv)=.int .i64 (cA D S rows).e
    rw[heq]
  unfold Cg
  simp only[Nd.holds,X.pre,X.rel,X.n,Src.ok,Src.len,Src.bS,true_and,and_true,if_true,Nat.mul_one,Nat.add_zero,Nat.reduceAdd,List.length_cons,List.length_nil,bN,bK,aP,ba,bb,bM,bj,bJ,bI,bD,bd,bk,bL,bg,bf,aQ,bh,ah,ai,aE,aI,aK,ax,aF,aV,aT,au,aO,aC,aN,aB,TV.ev,SV.ev,CV.ev,List.map_cons,List.map_nil,bc.hl,df,Cp.sv,Ck.cv,ct,Cp.len,Ck.len,aU,bm,bC,Ix,Iy,Iz,IA,IB,IC,ID,IE,G',Ha,IF,Hb,Hc,Hd,He,FL,GC,Ir]
  have evs:Value.slice (ar (ρ.i 7) 0) (ρ.i 8).toNat (ρ.i 9).toNat=sl:=by rw[v7,v8,v9,Int.toNat_natCast,Int.toNat_natCast,hsl]
  have keepL:∀ q:Env,ae 19 ρ q→bW (q.h 12) pa dp S.LA S.bA∧bF (q.h 14) (CV.ev q (.sl (.var 7) (.lit 0) (.var 8) (.var 9))) S.recs∧bo q (.bvar 10)=S.over∧aj (q.h 15) dp D:=by
   intro q hg
   refine⟨by rw[hg.h 12 (by omega),w12];exact hIn.la,?_,by rw[bY,hg.b 10 (by omega),b10],by rw[hg.h 15 (by omega),w15];exact hD⟩
   show bF (q.h 14) (.slice (ar (q.i 7) 0) (q.i 8).toNat (q.i 9).toNat) _
   rw[hg.h 14 (by omega),hg.i 7 (by omega),hg.i 8 (by omega),hg.i 9 (by omega),w14,evs]
   exact hIn.rows
  have same:∀ (q:Env) (e:Int) (rv:E) (t:Mem),ae 19 ρ q→cA D S rows=⟨e,D,S⟩→ak q rv=e→postOf sh [.pointer (some ⟨a,0,none⟩),.slice (ar x y) us.length c] [H,HD] [R,RA,RG] q (.aS 0 [.hptr (.var 5) (.lit 0),.hptr (.var 6) (.lit 0),.sl (.var 7) (.lit 0) (.var 8) (.var 9),.bool (.bvar 10)] 101::.hp 12 [] [.var 5] [.var 11]::.hp 13 [] [.var 6] [.var 11]::.hp 14 [] [.var 7] []::.hp 15 [] [.var 11] []::t) (.sv (.one (.int .i64 rv))):=by
   intro q e rv t hg he hrv
   obtain⟨k1,k2,k3,k4⟩:=keepL q hg
   exact fin q 12 14 15 _ _ _ _ _ _ _ _ _ _ _ _ _ _ rv t hg (by rw[he];exact k1) (by rw[he];exact⟨rfl,rfl⟩) (by rw[he];exact k2) (by rw[he];exact k3) (by rw[he];exact k4) (by rw[he];exact hrv)
  have hp0:Value.pointer (ar (ρ.i 0) 0)=.pointer (some ⟨a,0,none⟩):=by rw[v0,eV]
  have hv0:Value.slice (ar (ρ.i 1) (ρ.i 2)) (ρ.i 3).toNat (ρ.i 4).toNat=.slice (ar x y) us.length c:=by rw[v1,v2,v3,v4,Int.toNat_natCast,Int.toNat_natCast]
  have hc3:(og a pa pb sl S.over).cell a 3=some (.bool S.over):=by unfold og;rw[Hl.one_cell];rfl
  have e0':Hl.one (ρ.i 0).toNat (.cells #[Value.pointer (ar (ρ.i 5) 0),Value.pointer (ar (ρ.i 6) 0),Value.slice (ar (ρ.i 7) 0) (ρ.i 8).toNat (ρ.i 9).toNat,Value.bool (bo ρ (.bvar 10))] 101 (0,0))=og a pa pb sl S.over:=e0
  rw[hp0,hv0,e0',w16,w17]
  refine⟨⟨_,_,a,S.over,_,R,RA,rows,rfl,rfl,rfl,hc3,hB,hlen,hrow⟩,fun q1 g1 ⟨F1,hp1,hF1,hn1⟩=>?_⟩
  obtain⟨u1,e1,hv1,hE1,hO1⟩:=ru hc3 hB hp1
  simp only[Value.tuple.injEq,Array.mk.injEq,List.cons.injEq,Value.int.injEq,true_and,and_true]at hv1
  obtain⟨eu,ee⟩:=hv1
  have hn19:-1≤q1.i 19∧0≤q1.i 20∧0≤q1.i 21∧0≤q1.i 22:=hn1.1
  refine⟨fun h23=>?_,fun h23=>same q1 (q1.i 23) _ _ g1 ?_ (ai _ _)⟩
  rotate_left
  ·rw[ee]at h23 ⊢
   unfold cA
   cases ho:S.over with
   | true=>rw[if_pos rfl,hE1.1 ho]
   | false =>
    rw[if_neg (by simp)]
    by_cases hk:cC rows
    ·exact absurd (hE1.2.1 ho hk) h23
    ·rw[if_pos hk,hE1.2.2 ho hk]
  have he0:e1=0:=by rw[←ee];exact h23
  have ho:¬S.over=true:=fun h=>by have:=hE1.1 h;omega
  have hof:S.over=false:=Bool.eq_false_iff.2 ho
  have hk:cC rows:=Classical.byContradiction fun h=>by have:=hE1.2.2 hof h;omega
  have hOw:dA (q1.h 19) 5 (.slice (ar (q1.i 19) (q1.i 20)) (q1.i 21).toNat (q1.i 22).toNat) (aD rows):=by rw[hF1 trivial,eu];exact hO1 he0
  have h21:q1.i 21=(aD rows).length:=(hOw.rd.at hn19.1 hn19.2.1 hn19.2.2.1).1
  rw[g1.i 3 (by omega),v3]
  refine⟨by omega,fun hz=>same q1 0 _ _ g1 ?_ h23,fun hnz=>⟨by omega,?_⟩⟩
  ·have hz:(us.length:Int)=0:=hz
   have hz2:rows.length=0:=by rw[←hul];omega
   have:rows=[]:=List.length_eq_zero_iff.1 hz2
   unfold cA
   rw[if_neg ho,if_neg (fun h=>h hk),if_pos this]
  have hne:rows≠[]:=fun h=>by
   have hnz:¬(us.length:Int)=0:=hnz
   rw[h]at hul
   have:us.length=0:=hul
   omega
  have hpa':∀ q:Env,ae 19 ρ q→Value.pointer (ar (q.i 5) 0)=pa:=fun q hg=>by rw[hg.i 5 (by omega),v5,ea]
  have kA:∀ q:Env,ae 19 ρ q→bW (q.h 12) pa dp S.LA S.bA:=fun q hg=>(keepL q hg).1
  rw[hpa' q1 g1]
  refine⟨rB (kA q1 g1).rd hbA,fun q2 g2 ⟨F2,hp2,_⟩=>?_⟩
  have G2:ae 19 ρ q2:=g1.trans (g2.mono (by omega))
  have h24:q2.i 24=S.LA.most-S.bA.length:=uT (od (kA q1 g1).rd hp2)
  have h21':q2.i 21=(aD rows).length:=by rw[g2.i 21 (by omega),h21]
  refine⟨fun hlt=>same q2 4 _ _ G2 ?_ (ah _ _),fun hge=>?_⟩
  ·rw[h24,h21']at hlt
   unfold cA
   rw[if_neg ho,if_neg (fun h=>h hk),if_neg hne,if_pos hlt]
  rw[h24,h21']at hge
  have hAdd:cA D S rows=vO D S rows (av D S.LA S.bA (aD rows) S.LA.note):=by
   unfold cA
   rw[if_neg ho,if_neg (fun h=>h hk),if_neg hne,if_neg hge]
  generalize hr:av D S.LA S.bA (aD rows) S.LA.note=r at hAdd
  rw[hpa' q2 G2]
  refine⟨Bn (kA q2 G2).rd,fun q3 g3 ⟨F3,hp3,_⟩=>?_⟩
  have G3:ae 19 ρ q3:=G2.trans (g3.mono (by omega))
  have hv3:=yP (kA q2 G2).rd hp3
  have ec3:(al 25 (List.replicate 16 (Ck.int .u8))).map (CV.ev q3)=cn S.LA.note:=List.toArray_inj (Value.agg.inj hv3)
  have hn16:S.LA.note.length=16:=by obtain⟨_,⟨_,_,hLi⟩,_⟩:=hIn.la.rd;exact hLi.1.note
  have hRd3:fw (q3.h 19) (.slice (ar (q3.i 19) (q3.i 20)) (q3.i 21).toNat (q3.i 22).toNat) (aD rows):=by
   have G13:ae 24 q1 q3:=g2.trans (g3.mono (by omega))
   rw[G13.h 19 (by omega),G13.i 19 (by omega),G13.i 20 (by omega),G13.i 21 (by omega),G13.i 22 (by omega)]
   exact hOw.rd.w
  have kD3:aj (q3.h 15) dp D:=(keepL q3 G3).2.2.2
  rw[hpa' q3 G3,ec3]
  refine⟨⟨_,_,_,_,_,_,_,dp,_,_,_,rfl,rfl,rfl,kA q3 G3,kD3,hRd3,hbA,hn16,hser⟩,fun q4 g4 ⟨F4,hp4,_⟩=>?_⟩
  obtain⟨HL4,HD4,hK,hD4,hL4,hv4⟩:=oB (kA q3 G3) kD3 hRd3 hp4
  rw[hr]at hD4 hL4 hv4
  have hK1:q4.h 41=HL4∧q4.h 42=HD4:=by
   have h1:[q4.h 41,q4.h 42]=[HL4,HD4]:=hK
   simpa using h1
  obtain⟨hK1,hK2⟩:=hK1
  have h41:q4.i 41=r.e:=by simpa using hv4
  have G4:ae 19 ρ q4:=G3.trans (g4.mono (by omega))
  rw[h41,G4.h 18 (by omega),w18]
  refine⟨⟨_,_,RG,g,rfl,rfl,hG⟩,fun q5 g5 ⟨F5,⟨s5,c5,R5,x1,x2,hE5⟩,_⟩=>?_⟩
  simp only[List.cons.injEq,Value.string.injEq,Value.int.injEq,true_and,and_true]at x1 x2
  obtain⟨x1,x3⟩:=x1
  subst x1 x2 x3
  have hE5:gh g (q5.v 44) r.e:=hE5 g hG
  have G5:ae 19 ρ q5:=G4.trans (g5.mono (by omega))
  have cL:RG.cell (Int.toNat 0) (Int.toNat 0)=some (gv g fO):=hG.cell fO (Or.inl rfl)
  rw[G5.h 18 (by omega),w18,cL]
  refine⟨rfl,⟨_,_,RG,g,r.e,fO,rfl,rfl,hG,hE5,Or.inl rfl,rfl⟩,fun q6 g6 ⟨F6,hp6,_⟩=>?_⟩
  have r6:=ux hG hE5 (Or.inl rfl) hp6
  rw[r6]
  have G6:ae 19 ρ q6:=G5.trans (g6.mono (by omega))
  have hE6:gh g (q6.v 44) r.e:=by rw[g6.v 44 (by omega)];exact hE5
  have num:∀ (q7:Env),ae 46 q6 q7→(∃ F,gC.post [q6.v 44] [] [RG] (.int .i64 (q7.i 46)) [] F∧(bO 0 [Cp.one (Ck.int .i64)]≠[]→q7.h 46=F)∧dN 46 [Cp.one (Ck.int .i64)] q7)→q7.i 46=fS r.e∧ae 19 ρ q7∧ae 43 q4 q7:=by
   intro q7 g7 ⟨F7,⟨e7,R7,x1,x2,h7⟩,_⟩
   simp only[List.cons.injEq,and_true]at x1 x2
   subst x1 x2
   have:=h7 g r.e hG hE6
   exact⟨by simpa using this,G6.trans (g7.mono (by omega)),(g5.trans ((g6.trans (g7.mono (by omega))).mono (by omega))).mono (by omega)⟩
  rw[G6.h 18 (by omega),w18]
  refine⟨fun hcl=>⟨⟨_,RG,g,r.e,rfl,rfl,hG,hE6⟩,fun q7 g7 hq7=>?_⟩,fun hcl=>⟨⟨_,RG,g,r.e,rfl,rfl,hG,hE6⟩,fun q7 g7 hq7=>?_⟩⟩
  ·obtain⟨hn46,G7,G47⟩:=num q7 g7 hq7
   have hnz46:¬fS r.e=0:=by
    unfold fS
    rw[if_neg hcl.1,if_neg (by rw[hcl.2];decide),if_neg (by rw[hcl.2];decide)]
    decide
   refine⟨fun _=>?_,fun h=>absurd (hn46.symm.trans h) hnz46⟩
   refine fin q7 41 14 42 _ _ _ _ _ _ _ _ _ _ _ _ (.sl (.var 7) (.lit 0) (.var 8) (.var 9)) _ _ _ G7 ?_ ?_ ?_ ?_ ?_ ?_
   ·rw[hAdd,G47.h 41 (by omega),hK1];exact hL4
   ·rw[hAdd];exact⟨rfl,rfl⟩
   ·rw[hAdd]
    unfold vO
    rw[if_neg hnz46];exact(keepL q7 G7).2.1
   ·rw[hAdd]
    show true=(if _ then true else S.over)
    rw[if_pos hcl]
   ·rw[hAdd,G47.h 42 (by omega),hK2];exact hD4
   ·rw[hAdd,ai,hn46];rfl
  ·obtain⟨hn46,G7,G47⟩:=num q7 g7 hq7
   refine⟨fun hnz46=>?_,fun h46=>?_⟩
   ·refine fin q7 41 14 42 _ _ _ _ _ _ _ _ _ _ _ _ (.sl (.var 7) (.lit 0) (.var 8) (.var 9)) _ _ _ G7 ?_ ?_ ?_ ?_ ?_ ?_
    ·rw[hAdd,G47.h 41 (by omega),hK1];exact hL4
    ·rw[hAdd];exact⟨rfl,rfl⟩
    ·rw[hAdd]
     unfold vO
     rw[if_neg (fun h=>hnz46 (hn46.trans h))];exact(keepL q7 G7).2.1
    ·rw[hAdd,(keepL q7 G7).2.2.1]
     show S.over=(if _ then true else S.over)
     rw[if_neg hcl]
    ·rw[hAdd,G47.h 42 (by omega),hK2];exact hD4
    ·rw[hAdd,ai,hn46];rfl
   ·clear num
    refine⟨⟨0,rfl,Nat.zero_le _,by show -1≤q7.i 7;rw[G7.i 7 (by omega),v7];exact hrx,by show 0≤q7.i 8;rw[G7.i 8 (by omega),v8];omega,by show 0≤q7.i 9;rw[G7.i 9 (by omega),v9];omega,?_,?_⟩,fun q8 g8 ⟨k,ek,hkl,x61,x62,x63,b65,hRk⟩=>?_⟩
    ·show bo q7 (.bvar 10)=false
     rw[bY,G7.b 10 (by omega),b10,hof]
    ·show bF (q7.h 14) (.slice (ar (q7.i 7) 0) (q7.i 8).toNat (q7.i 9).toNat) _
     rw[G7.h 14 (by omega),G7.i 7 (by omega),G7.i 8 (by omega),G7.i 9 (by omega),w14,evs,List.take_zero,List.append_nil]
     exact hIn.rows
    have G8:ae 19 ρ q8:=G7.trans (g8.mono (by omega))
    have h62:q8.i 62=S.recs.length+k:=by
     have:=(hRk.at x61 x62).1
     rw[List.length_append,List.length_take]at this
     omega
    rw[G8.i 1 (by omega),G8.i 2 (by omega),G8.i 3 (by omega),G8.h 16 (by omega),G8.h 17 (by omega),v1,v2,v3,w16,w17,ek]
    refine⟨fun hlt=>?_,fun hge=>?_⟩
    ·have hkr:k<rows.length:=by omega
     have hrk:rows[k]?=some rows[k]:=List.getElem?_eq_getElem hkr
     have hu:us[k]?=some us[k]:=List.getElem?_eq_getElem (by omega)
     obtain⟨hx0,hc⟩:=hcell k _ hu
     have hRr:=hrd k _ _ hu hrk
     have hsl:∃ a l c,us[k]=Value.slice a l c:=(fw.parts hRr).1
     have hck:R.cell x.toNat (y+(k:Int)).toNat=some us[k]:=by rw[show(y+(k:Int)).toNat=y.toNat+k by omega];exact hc
     rw[hck,iA hsl]
     refine⟨hx0,hy,by omega,by obtain⟨_,_,_,e⟩:=hsl;rw[e];rfl,⟨_,_,RA,rfl,rfl,hRr,Nat.le_trans (hk _ (List.getElem_mem _)) (by decide)⟩,fun q9 g9 ⟨F9,⟨u9,bs9,R9,x1,x2,hR9,hO9⟩,hF9,hn9⟩ q10 g10 _ q11 g11 ⟨e11,hd11⟩=>?_⟩
     simp only[List.cons.injEq,and_true]at x1 x2
     subst x1 x2
     obtain rfl:=hRr.uniq hR9
     rw[←hF9 trivial]at hO9
     have hn9:-1≤q9.i 66∧0≤q9.i 67∧0≤q9.i 68∧0≤q9.i 69:=hn9.1
     have G10:ae 66 q8 q10:=g9.trans (g10.mono (by omega))
     have G11:ae 66 q8 q11:=G10.trans (g11.mono (by omega))
     have G9:ae 70 q9 q11:=g10.trans (g11.mono (by omega))
     have hu9:iS (q10.h 66) none (.slice (ar (q11.i 66) (q11.i 67)) (q11.i 68).toNat (q11.i 69).toNat) rows[k]:=by
      rw[g10.h 66 (by omega),G9.i 66 (by omega),G9.i 67 (by omega),G9.i 68 (by omega),G9.i 69 (by omega)]
      exact iS.of hO9.rd.w hn9.1 hn9.2.1
     rw[e11,G10.h 64 (by omega),G11.i 61 (by omega),G11.i 62 (by omega),G11.i 63 (by omega)]
     rw[G10.h 64 (by omega)]at hd11
     have hpre:∃ xs,bR ((q8.h 64).un (q10.h 66)) 46 1 (.slice (ar (q8.i 61) 0) (q8.i 62).toNat (q8.i 63).toNat) (q8.i 62).toNat xs:=by
      obtain⟨us',ho',_⟩:=hRk
      rw[show(q8.i 62).toNat=(S.recs++rows.take k).length by rw[List.length_append,List.length_take];omega]at ho' ⊢
      exact⟨us',ho'.mono (Hl.e8 _ _)⟩
     refine⟨⟨hpre,x62,by unfold maxLen;omega,by omega⟩,fun q12 g12 ⟨a1,a2,happ,hkp,_,hnw⟩=>?_⟩
     have G12:ae 66 q8 q12:=G11.trans (g12.mono (by omega))
     have hrows:=lA hRk x61 x62 hd11 hu9 a1 happ hkp hnw
     have e62:q12.i 62+1=q8.i 62+1:=by rw[G12.i 62 (by omega)]
     have e60:q12.i 60=k:=by rw[G12.i 60 (by omega),ek]
     have w60:IntKind.i64.wrap (q12.i 60+1)=(k:Int)+1:=by rw[e60];exact wrap_i64 (by omega) (by omega)
     refine⟨⟨k+1,?_,by omega,a1,?_,a2,?_,?_⟩,?_⟩
     ·show IntKind.i64.wrap (q12.i 60+1)=_
      rw[w60];rfl
     ·show 0≤q12.i 62+1
      omega
     ·show q12.b 65=false
      rw[G12.b 65 (by omega)];exact b65
     ·show bF (q12.h 72) (.slice (ar (q12.i 72) 0) (q12.i 62+1).toNat (q12.i 73).toNat) _
      rw[e62,List.take_add_one,hrk,Option.toList_some,←List.append_assoc];exact hrows
     ·show((rows.length:Int)-IntKind.i64.wrap (q12.i 60+1)).toNat<_
      rw[w60];omega
    ·have hke:k=rows.length:=by omega
     subst hke
     rw[List.take_length]at hRk
     refine fin q8 41 64 42 _ _ _ _ _ _ _ _ _ _ _ _ (.sl (.var 61) (.lit 0) (.var 62) (.var 63)) _ _ _ G8 ?_ ?_ ?_ ?_ ?_ ?_
     ·rw[hAdd,g8.h 41 (by omega),G47.h 41 (by omega),hK1];exact hL4
     ·rw[hAdd];exact⟨rfl,rfl⟩
     ·rw[hAdd]
      unfold vO
      rw[if_pos (hn46.symm.trans h46)];exact hRk
     ·rw[bY,b65,hAdd]
      show false=(if _ then true else S.over)
      rw[if_neg hcl];exact hof.symm
     ·rw[hAdd,g8.h 42 (by omega),G47.h 42 (by omega),hK2];exact hD4
     ·rw[hAdd,ah]
      exact(hn46.symm.trans h46).symm
end Go.Proofs.YtomdimlnggpgbaaGreatDoor
namespace Go.Proofs.YtomdimlnggpgbaaGreatDoor
open Go Go.Sx Go.Pk
open Go.Proofs.YtomdimlnggpgbaaGreatDoor.D hiding bx aH hJ
theorem jt {a:Nat} : Value.pointer (ar (cH (some (Value.pointer (some ⟨a,0,none⟩))) 0) (cH (some (Value.pointer (some ⟨a,0,none⟩))) 1))=.pointer (some ⟨a,0,none⟩):=by
 show Value.pointer (ar ((a:Nat):Int) 0)=_
 rw[eV]
theorem tI.cells {H:Hl} {a:Nat} {dp pa pb sl:Value} {S:SM} (h:tI H a dp pa pb sl S):H.cell a 0=some pa∧H.cell a 2=some sl:=by
 unfold Hl.cell
 rw[h.aS]
 exact⟨rfl,rfl⟩
def ot:Sx.Spec where
 fn:=21
 own:=[]
 rd:=[0]
 res:=[.one (.int .i64)]
 pre:=fun xs Hs Rs=>∃ p R dp S,xs=[p]∧Rs=[R]∧dR R p dp S∧S.bA.length≤1048576
 post:=fun xs Hs Rs v Hs' F=>∃ p R dp S,xs=[p]∧Rs=[R]∧dR R p dp S∧v=.int .i64 (S.LA.most-S.bA.length)
def D5:Sx.Spec where
 fn:=22
 own:=[]
 rd:=[0]
 res:=[.one (.int .u64)]
 pre:=fun xs Hs Rs=>∃ p R dp S,xs=[p]∧Rs=[R]∧dR R p dp S
 post:=fun xs Hs Rs v Hs' F=>∃ p R dp S,xs=[p]∧Rs=[R]∧dR R p dp S∧v=.int .u64 (bU S.LA)
theorem zD {p dp v:Value} {R F:Hl} {K:List Hl} {S:SM} (h:dR R p dp S) (hp:ot.post [p] [] [R] v K F):v=.int .i64 (S.LA.most-S.bA.length):=by
 obtain⟨p',R',dp',S',e1,e2,h',hv⟩:=hp
 simp only[List.cons.injEq,and_true]at e1 e2
 subst e1 e2
 obtain⟨_,rfl⟩:=h.uniq h'
 exact hv
def Ic:List Sx.Spec:=[iN]
theorem GM:∀ t∈Ic,t.OK Tryz.prog:=fun t ht=>by
 simp only[Ic,List.mem_cons,List.mem_nil_iff,or_false]at ht
 rw[ht];exact nu
def vl:Nd:=.and (.e (.le (.lit 0) (.var 0))) (.and (.e (.his 1 (.var 0) (.lit 0) 0 .ptr)) (.and (.pre (.call 0 2 [.sv (.one (.hptr (.hP 1 (.var 0) (.lit 0) 0 0) (.hP 1 (.var 0) (.lit 0) 0 1)))] [] [.ro 1 [.var 0] true])) (.ext (.call 0 2 [.sv (.one (.hptr (.hP 1 (.var 0) (.lit 0) 0 0) (.hP 1 (.var 0) (.lit 0) 0 1)))] [] [.ro 1 [.var 0] true]) (.post [.ro 1 [.var 0] true] (.sv (.one (.int .i64 (.var 2))))))))
def rS:cy Tryz.prog Ic ot.fn where
 Λ:=aH
 args:=[TP (.var 0) (.lit 0)]
 mem:=[.ro 1 [.var 0] true]
 nv:=2
 nd:=vl
 ok:=by kernel_rfl
theorem JZ:Ic[0]?=some iN:=rfl
theorem BX:ot.OK Tryz.prog:=by
 refine Spec.b8 (Γ:=Ic) GM ?_
 rintro xs Hs Rs hl1 hl2 ⟨p,R,dp,S,rfl,rfl,hS,hb⟩
 have e0:Hs=[]:=List.length_eq_zero_iff.1 hl1
 subst e0
 obtain⟨a,pa,pb,sl,rfl,hr⟩:=id hS
 obtain⟨sla,⟨aa,hpa,_⟩,_⟩:=id hr.la
 have hc:=hr.cells.1
 subst hpa
 refine⟨rS,bx [(a:Int)] false [Hl.none,R],fun _ _=>True,fun _ _=>0,?_,⟨?_,?_,?_,?_⟩,(fun _ h=>nomatch h),?_⟩
 ·show [Value.pointer (ar (a:Int) 0)]=_;rw[eV]
 ·intro r hr ho;simp [rS]at hr;subst hr;cases ho
 ·intro r hr ho;simp [rS]at hr;subst hr;exact⟨R,by simp,Hl.le_refl _⟩
 ·simp [rS]
 ·intro r hr;simp [rS]at hr;subst hr;trivial
 ·show Nd.holds _ _ _ vl
  generalize hρ:bx [(a:Int)] false [Hl.none,R]=ρ
  have v0:ρ.i 0=a:=by rw[←hρ];rfl
  have w1:ρ.h 1=R:=by rw[←hρ];rfl
  clear hρ
  have t0:Int.toNat 0=0:=rfl
  unfold vl
  simp only[Nd.holds,X.pre,X.rel,X.n,Src.ok,Src.len,Src.bS,true_and,and_true,if_true,Nat.mul_one,Nat.add_zero,Nat.reduceAdd,List.length_cons,List.length_nil,bN,bK,aP,ba,bb,bM,bj,bJ,bI,bD,bd,bk,bL,bg,bf,aQ,bh,ah,ai,aE,aI,aK,ax,aF,aV,aT,au,aO,aC,aN,aB,TV.ev,SV.ev,CV.ev,List.map_cons,List.map_nil,bc.hl,df,Cp.sv,Ck.cv,ct,Cp.len,Ck.len,aU,bm,bC,JZ,Ib,t0]
  rw[v0,w1,Int.toNat_natCast,hc,jt]
  refine⟨by omega,rfl,rB hr.la hb,fun q1 g1 ⟨F1,hp1,_⟩ _=>?_⟩
  have hv:=uT (od hr.la hp1)
  refine⟨[],[],rfl,rfl,⟨⟨fun _=>q1.i 2,fun _=>false,fun _=>.empty,fun _=>.tuple #[],fun _=>Hl.none⟩,rfl,trivial,trivial⟩,_,R,dp,S,rfl,rfl,hS,?_⟩
  show Value.int .i64 (q1.i 2)=_
  rw[hv]
def GG:List Sx.Spec:=[um]
theorem D7:∀ t∈GG,t.OK Tryz.prog:=fun t ht=>by
 simp only[GG,List.mem_cons,List.mem_nil_iff,or_false]at ht
 rw[ht];exact Al
def zw:Nd:=.and (.e (.le (.lit 0) (.var 0))) (.and (.e (.his 1 (.var 0) (.lit 0) 0 .ptr)) (.and (.pre (.call 0 2 [.sv (.one (.hptr (.hP 1 (.var 0) (.lit 0) 0 0) (.hP 1 (.var 0) (.lit 0) 0 1)))] [] [.ro 1 [.var 0] true])) (.ext (.call 0 2 [.sv (.one (.hptr (.hP 1 (.var 0) (.lit 0) 0 0) (.hP 1 (.var 0) (.lit 0) 0 1)))] [] [.ro 1 [.var 0] true]) (.post [.ro 1 [.var 0] true] (.sv (.one (.int .u64 (.var 2))))))))
def xv:cy Tryz.prog GG D5.fn where
 Λ:=aH
 args:=[TP (.var 0) (.lit 0)]
 mem:=[.ro 1 [.var 0] true]
 nv:=2
 nd:=zw
 ok:=by kernel_rfl
theorem H8:GG[0]?=some um:=rfl
theorem D6:D5.OK Tryz.prog:=by
 refine Spec.b8 (Γ:=GG) D7 ?_
 rintro xs Hs Rs hl1 hl2 ⟨p,R,dp,S,rfl,rfl,hS⟩
 have e0:Hs=[]:=List.length_eq_zero_iff.1 hl1
 subst e0
 obtain⟨a,pa,pb,sl,rfl,hr⟩:=id hS
 obtain⟨sla,⟨aa,hpa,_⟩,_⟩:=id hr.la
 have hc:=hr.cells.1
 subst hpa
 refine⟨xv,bx [(a:Int)] false [Hl.none,R],fun _ _=>True,fun _ _=>0,?_,⟨?_,?_,?_,?_⟩,(fun _ h=>nomatch h),?_⟩
 ·show [Value.pointer (ar (a:Int) 0)]=_;rw[eV]
 ·intro r hr ho;simp [xv]at hr;subst hr;cases ho
 ·intro r hr ho;simp [xv]at hr;subst hr;exact⟨R,by simp,Hl.le_refl _⟩
 ·simp [xv]
 ·intro r hr;simp [xv]at hr;subst hr;trivial
 ·show Nd.holds _ _ _ zw
  generalize hρ:bx [(a:Int)] false [Hl.none,R]=ρ
  have v0:ρ.i 0=a:=by rw[←hρ];rfl
  have w1:ρ.h 1=R:=by rw[←hρ];rfl
  clear hρ
  have t0:Int.toNat 0=0:=rfl
  unfold zw
  simp only[Nd.holds,X.pre,X.rel,X.n,Src.ok,Src.len,Src.bS,true_and,and_true,if_true,Nat.mul_one,Nat.add_zero,Nat.reduceAdd,List.length_cons,List.length_nil,bN,bK,aP,ba,bb,bM,bj,bJ,bI,bD,bd,bk,bL,bg,bf,aQ,bh,ah,ai,aE,aI,aK,ax,aF,aV,aT,au,aO,aC,aN,aB,TV.ev,SV.ev,CV.ev,List.map_cons,List.map_nil,bc.hl,df,Cp.sv,Ck.cv,ct,Cp.len,Ck.len,aU,bm,bC,H8,GJ,t0]
  rw[v0,w1,Int.toNat_natCast,hc,jt]
  refine⟨by omega,rfl,pE hr.la,fun q1 g1 ⟨F1,hp1,_⟩ _=>?_⟩
  have hv:=mZ hr.la hp1
  exact⟨[],[],rfl,rfl,⟨⟨fun _=>q1.i 2,fun _=>false,fun _=>.empty,fun _=>.tuple #[],fun _=>Hl.none⟩,rfl,trivial,trivial⟩,_,R,dp,S,rfl,rfl,hS,hv⟩
def pe:Sx.Spec where
 fn:=20
 own:=[]
 rd:=[0]
 res:=[.one .sl]
 pre:=fun xs Hs Rs=>∃ p R dp S,xs=[p]∧Rs=[R]∧dR R p dp S∧S.recs.length≤1000000000∧∀ r∈S.recs,r.length≤1000000
 post:=fun xs Hs Rs v Hs' F=>∃ p R dp S,xs=[p]∧Rs=[R]∧dR R p dp S∧bF F v S.recs
theorem oq {p dp v:Value} {R F:Hl} {K:List Hl} {S:SM} (h:dR R p dp S) (hp:pe.post [p] [] [R] v K F):bF F v S.recs:=by
 obtain⟨p',R',dp',S',e1,e2,h',hv⟩:=hp
 simp only[List.cons.injEq,and_true]at e1 e2
 subst e1 e2
 obtain⟨_,rfl⟩:=h.uniq h'
 exact hv
def H7:List Sx.Spec:=[gY]
theorem GD:∀ t∈H7,t.OK Tryz.prog:=fun t ht=>by
 simp only[H7,List.mem_cons,List.mem_nil_iff,or_false]at ht
 rw[ht];exact lY
def zC:Nd:=.and (.e (.le (.lit 0) (.var 0))) (.and (.e (.his 1 (.var 0) (.lit 2) 0 .slice)) (.and (.e (.le (.lit 0) (.hP 1 (.var 0) (.lit 2) 0 2))) (.and (.inv 0 [⟨53,0,.int .i64 (.lit (-1))⟩,⟨54,0,.int .i64 (.lit 0)⟩,⟨55,0,.int .i64 (.lit 0)⟩,⟨50,0,.int .i64 (.lit 0)⟩] [(56,none)]) (.havoc 0 0 2 (.and (.imp (.lt (.var 50) (.hP 1 (.var 0) (.lit 2) 0 2)) (.and (.e (.le (.lit 0) (.hP 1 (.var 0) (.lit 2) 0 0))) (.and (.e (.le (.lit 0) (.hP 1 (.var 0) (.lit 2) 0 1))) (.and (.e (.le (.lit 0) (.var 50))) (.and (.e (.his 1 (.hP 1 (.var 0) (.lit 2) 0 0) (.add (.hP 1 (.var 0) (.lit 2) 0 1) (.var 50)) 0 .slice)) (.and (.pre (.call 0 60 [.sv (.one (.sl (.hP 1 (.hP 1 (.var 0) (.lit 2) 0 0) (.add (.hP 1 (.var 0) (.lit 2) 0 1) (.var 50)) 0 0) (.hP 1 (.hP 1 (.var 0) (.lit 2) 0 0) (.add (.hP 1 (.var 0) (.lit 2) 0 1) (.var 50)) 0 1) (.hP 1 (.hP 1 (.var 0) (.lit 2) 0 0) (.add (.hP 1 (.var 0) (.lit 2) 0 1) (.var 50)) 0 2) (.hP 1 (.hP 1 (.var 0) (.lit 2) 0 0) (.add (.hP 1 (.var 0) (.lit 2) 0 1) (.var 50)) 0 3)))] [] [.ro 1 [.var 0] true])) (.ext (.call 0 60 [.sv (.one (.sl (.hP 1 (.hP 1 (.var 0) (.lit 2) 0 0) (.add (.hP 1 (.var 0) (.lit 2) 0 1) (.var 50)) 0 0) (.hP 1 (.hP 1 (.var 0) (.lit 2) 0 0) (.add (.hP 1 (.var 0) (.lit 2) 0 1) (.var 50)) 0 1) (.hP 1 (.hP 1 (.var 0) (.lit 2) 0 0) (.add (.hP 1 (.var 0) (.lit 2) 0 1) (.var 50)) 0 2) (.hP 1 (.hP 1 (.var 0) (.lit 2) 0 0) (.add (.hP 1 (.var 0) (.lit 2) 0 1) (.var 50)) 0 3)))] [] [.ro 1 [.var 0] true]) (.ext (.alloc 64) (.ext (.Bx 65 (.hp 56 [] [.var 53] []) (.hp 60 [] [.var 60] [])) (.and (.pre (.app 66 46 1 24 (.sl (.var 53) (.lit 0) (.var 54) (.var 55)) (.var 54) (.hp 65 [56,60] [.var 53,.var 60,.var 60] []) (.cvs [.sl (.var 60) (.var 61) (.var 62) (.var 63)] 1))) (.ext (.app 66 46 1 24 (.sl (.var 53) (.lit 0) (.var 54) (.var 55)) (.var 54) (.hp 65 [56,60] [.var 53,.var 60,.var 60] []) (.cvs [.sl (.var 60) (.var 61) (.var 62) (.var 63)] 1)) (.back 0 0 [⟨53,0,.int .i64 (.var 66)⟩,⟨54,0,.int .i64 (.add (.var 54) (.lit 1))⟩,⟨55,0,.int .i64 (.var 67)⟩,⟨50,0,.int .i64 (.wrap .i64 (.add (.var 50) (.lit 1)))⟩] [(56,some 66)])))))))))))) (.imp (.not (.lt (.var 50) (.hP 1 (.var 0) (.lit 2) 0 2))) (.post [.ro 1 [.var 0] true,.hp 56 [] [.var 53] []] (.sv (.one (.sl (.var 53) (.lit 0) (.var 54) (.var 55)))))))))))
def xy:cy Tryz.prog H7 pe.fn where
 Λ:=fun p=>if ES p then some ⟨0,[(11,TI .i64 (.var 50)),(3,.sv (.one (.sl (.var 53) (.lit 0) (.var 54) (.var 55))))],[(1,.hp 56 [] [.var 53] [])],60⟩else none
 args:=[TP (.var 0) (.lit 0)]
 mem:=[.ro 1 [.var 0] true]
 nv:=2
 nd:=zC
 ok:=by kernel_rfl
theorem JO:H7[0]?=some gY:=rfl
theorem xx:pe.OK Tryz.prog:=by
 refine Spec.b8 (Γ:=H7) GD ?_
 rintro xs Hs Rs hl1 hl2 ⟨p,R,dp,S,rfl,rfl,hS,hlen,hrow⟩
 have e0:Hs=[]:=List.length_eq_zero_iff.1 hl1
 subst e0
 obtain⟨a,pa,pb,sl,rfl,hr⟩:=id hS
 have hc:=hr.cells.2
 obtain⟨rx,rc,hrx,rfl⟩:=hr.rows.rep
 have hat:=bF.at (l:=(S.recs.length:Int)) (c:=(rc:Int)) (rows:=S.recs) (by rw[Int.toNat_natCast,Int.toNat_natCast];exact hr.rows) hrx (by omega)
 refine⟨xy,bx [(a:Int)] false [Hl.none,R],fun _ q=>∃ k:Nat,q.i 50=k∧k≤S.recs.length∧ -1≤q.i 53∧0≤q.i 54∧0≤q.i 55∧bF (q.h 56) (.slice (ar (q.i 53) 0) (q.i 54).toNat (q.i 55).toNat) (S.recs.take k),fun _ q=>(S.recs.length-q.i 50).toNat,?_,⟨?_,?_,?_,?_⟩,(fun _ h=>nomatch h),?_⟩
 ·show [Value.pointer (ar (a:Int) 0)]=_;rw[eV]
 ·intro r hr ho;simp [xy]at hr;subst hr;cases ho
 ·intro r hr ho;simp [xy]at hr;subst hr;exact⟨R,by simp,Hl.le_refl _⟩
 ·simp [xy]
 ·intro r hr;simp [xy]at hr;subst hr;trivial
 ·show Nd.holds _ _ _ zC
  generalize hρ:bx [(a:Int)] false [Hl.none,R]=ρ
  have v0:ρ.i 0=a:=by rw[←hρ];rfl
  have w1:ρ.h 1=R:=by rw[←hρ];rfl
  clear hρ
  have t2:Int.toNat 2=2:=rfl
  unfold zC
  simp only[Nd.holds,X.pre,X.rel,X.n,Src.ok,Src.len,Src.bS,true_and,and_true,if_true,Nat.mul_one,Nat.add_zero,Nat.reduceAdd,List.length_cons,List.length_nil,bN,bK,aP,ba,bb,bM,bj,bJ,bI,bD,bd,bk,bL,bg,bf,aQ,bh,ah,ai,aE,aI,aK,ax,aF,aV,aT,au,aO,aC,aN,aB,TV.ev,SV.ev,CV.ev,List.map_cons,List.map_nil,bc.hl,df,Cp.sv,Ck.cv,ct,Cp.len,Ck.len,aU,bm,bC,JO,FL,GC,t2]
  rw[v0,w1,Int.toNat_natCast,hc,jz hrx]
  refine⟨by omega,rfl,by omega,⟨0,rfl,Nat.zero_le _,Int.le_refl _,Int.le_refl _,Int.le_refl _,bF.nil _⟩,fun q8 g8 ⟨k,ek,hkl,x61,x62,x63,hRk⟩=>?_⟩
  have h62:q8.i 54=k:=by
   have:=(hRk.at x61 x62).1
   rw[List.length_take]at this
   omega
  rw[g8.i 0 (by omega),g8.h 1 (by omega),v0,w1,ek,Int.toNat_natCast,hc,jz hrx]
  refine⟨fun hlt=>?_,fun hge=>?_⟩
  ·have hkr:k<S.recs.length:=by omega
   have hrk:S.recs[k]?=some S.recs[k]:=List.getElem?_eq_getElem hkr
   obtain⟨hx0,u,hcu,hRu⟩:=hat.2 k _ hrk
   have hRr:=hRu.rd
   have hsl:∃ a l c,u=Value.slice a l c:=(fw.parts hRr).1
   rw[r7 hrx,xI hx0 (Int.le_refl _)]
   have hck:R.cell rx.toNat (0+(k:Int)).toNat=some u:=by rw[show(0+(k:Int)).toNat=k by omega];exact hcu
   rw[hck,iA hsl]
   refine⟨hx0,Int.le_refl _,by omega,by obtain⟨_,_,_,e⟩:=hsl;rw[e];rfl,⟨_,_,R,rfl,rfl,hRr,hrow _ (List.getElem_mem _)⟩,fun q9 g9 ⟨F9,⟨u9,bs9,R9,x1,x2,hR9,hO9⟩,hF9,hn9⟩ q10 g10 _ q11 g11 ⟨e11,hd11⟩=>?_⟩
   simp only[List.cons.injEq,and_true]at x1 x2
   subst x1 x2
   obtain rfl:=hRr.uniq hR9
   rw[←hF9 trivial]at hO9
   have hn9:-1≤q9.i 60∧0≤q9.i 61∧0≤q9.i 62∧0≤q9.i 63:=hn9.1
   have G10:ae 60 q8 q10:=g9.trans (g10.mono (by omega))
   have G11:ae 60 q8 q11:=G10.trans (g11.mono (by omega))
   have G9:ae 64 q9 q11:=g10.trans (g11.mono (by omega))
   have hu9:iS (q10.h 60) none (.slice (ar (q11.i 60) (q11.i 61)) (q11.i 62).toNat (q11.i 63).toNat) S.recs[k]:=by
    rw[g10.h 60 (by omega),G9.i 60 (by omega),G9.i 61 (by omega),G9.i 62 (by omega),G9.i 63 (by omega)]
    exact iS.of hO9.rd.w hn9.1 hn9.2.1
   rw[e11,G10.h 56 (by omega),G11.i 53 (by omega),G11.i 54 (by omega),G11.i 55 (by omega)]
   rw[G10.h 56 (by omega)]at hd11
   have hpre:∃ xs,bR ((q8.h 56).un (q10.h 60)) 46 1 (.slice (ar (q8.i 53) 0) (q8.i 54).toNat (q8.i 55).toNat) (q8.i 54).toNat xs:=by
    obtain⟨us',ho',_⟩:=hRk
    rw[show(q8.i 54).toNat=(S.recs.take k).length by rw[List.length_take];omega]at ho' ⊢
    exact⟨us',ho'.mono (Hl.e8 _ _)⟩
   refine⟨⟨hpre,x62,by unfold maxLen;omega,by omega⟩,fun q12 g12 ⟨a1,a2,happ,hkp,_,hnw⟩=>?_⟩
   have G12:ae 60 q8 q12:=G11.trans (g12.mono (by omega))
   have hrows:=lA hRk x61 x62 hd11 hu9 a1 happ hkp hnw
   have e62:q12.i 54+1=q8.i 54+1:=by rw[G12.i 54 (by omega)]
   have e60:q12.i 50=k:=by rw[G12.i 50 (by omega),ek]
   have w60:IntKind.i64.wrap (q12.i 50+1)=(k:Int)+1:=by rw[e60];exact wrap_i64 (by omega) (by omega)
   refine⟨⟨k+1,?_,by omega,a1,?_,a2,?_⟩,?_⟩
   ·show IntKind.i64.wrap (q12.i 50+1)=_
    rw[w60];rfl
   ·show 0≤q12.i 54+1
    omega
   ·show bF (q12.h 66) (.slice (ar (q12.i 66) 0) (q12.i 54+1).toNat (q12.i 67).toNat) _
    rw[e62,List.take_add_one,hrk,Option.toList_some];exact hrows
   ·show((S.recs.length:Int)-IntKind.i64.wrap (q12.i 50+1)).toNat<_
    rw[w60];omega
  ·have hke:k=S.recs.length:=by omega
   subst hke
   rw[List.take_length]at hRk
   intro _
   refine⟨[],[1],rfl,rfl,⟨⟨fun j=>[q8.i 53,0,q8.i 54,q8.i 55].getD j 0,fun _=>false,fun _=>.empty,fun _=>.tuple #[],fun _=>Hl.none⟩,rfl,⟨x61,Int.le_refl _,x62,x63⟩,trivial⟩,_,R,dp,S,rfl,rfl,hS,?_⟩
   show bF (dF [q8.h 56]) _ _
   rw[bp];exact hRk
end Go.Proofs.YtomdimlnggpgbaaGreatDoor
namespace Go.Proofs.YtomdimlnggpgbaaGreatDoor
open Go Go.Sx Go.Pk
open Go.Proofs.YtomdimlnggpgbaaGreatDoor.D hiding bx aH hJ
def Im:Env:=⟨fun _=>0,fun _=>false,fun _=>.empty,fun _=>.tuple #[],fun _=>Hl.none⟩
theorem CR {ρ:Env} {mem:Mem} {Hs Rs:List Hl} (h1:∀ r∈mem,∃ k t a,r=.ro k t a) (h2:mem.map (bc.hl ρ)=Rs):Entry ρ mem Hs Rs:=by
 refine⟨fun r hr ho=>?_,fun r hr _=>⟨r.hl ρ,by rw[←h2];exact List.mem_map.2 ⟨r,hr,rfl⟩,Hl.le_refl _⟩,?_,fun r hr=>?_⟩
 ·obtain⟨k,t,a,rfl⟩:=h1 r hr;cases ho
 ·refine List.pairwise_iff_getElem.2 fun i j hi hj _ ho=>?_
  obtain⟨k,t,a,e⟩:=h1 mem[i] (List.getElem_mem hi)
  rw[e]at ho;cases ho
 ·obtain⟨k,t,a,rfl⟩:=h1 r hr;trivial
def xu:Sx.Spec where
 fn:=22
 own:=[]
 rd:=[0,5000000]
 res:=[.one (.int .u64)]
 pre:=fun xs Hs Rs=>∃ (a:Nat) (pa:Value) (R R1:Hl) (dp:Value) (L:LM) (bs:List Int),xs=[.pointer (some ⟨a,0,none⟩)]∧Rs=[R,R1]∧R.cell a 0=some pa∧iR R1 pa dp L bs
 post:=fun xs Hs Rs v Hs' F=>∀ (a:Nat) (pa:Value) (R R1:Hl) (dp:Value) (L:LM) (bs:List Int),xs=[.pointer (some ⟨a,0,none⟩)]→Rs=[R,R1]→R.cell a 0=some pa→iR R1 pa dp L bs→v=.int .u64 (bU L)
def vd:Nd:=.and (.e (.le (.lit 0) (.var 0))) (.and (.e (.his 2 (.var 0) (.lit 0) 0 .ptr)) (.and (.pre (.call 0 3 [.sv (.one (.hptr (.hP 2 (.var 0) (.lit 0) 0 0) (.hP 2 (.var 0) (.lit 0) 0 1)))] [] [.ro 1 [.hP 2 (.var 0) (.lit 0) 0 0] false])) (.ext (.call 0 3 [.sv (.one (.hptr (.hP 2 (.var 0) (.lit 0) 0 0) (.hP 2 (.var 0) (.lit 0) 0 1)))] [] [.ro 1 [.hP 2 (.var 0) (.lit 0) 0 0] false]) (.post [.ro 1 [.hP 2 (.var 0) (.lit 0) 0 0] false,.ro 2 [.var 0] false] (.sv (.one (.int .u64 (.var 3))))))))
def rJ:cy Tryz.prog GG xu.fn where
 Λ:=aH
 args:=[TP (.var 0) (.lit 0)]
 mem:=[.ro 1 [.hP 2 (.var 0) (.lit 0) 0 0] false,.ro 2 [.var 0] false]
 nv:=3
 nd:=vd
 ok:=by kernel_rfl
theorem D4:xu.OK Tryz.prog:=by
 refine Spec.b8 (Γ:=GG) D7 ?_
 rintro xs Hs Rs hl1 hl2 ⟨a,pa,R,R1,dp,L,bs,rfl,rfl,hc,hL⟩
 have e0:Hs=[]:=List.length_eq_zero_iff.1 hl1
 subst e0
 obtain⟨sla,⟨aa,hpa,_⟩,_⟩:=id hL
 subst hpa
 refine⟨rJ,bx [(a:Int)] false [Hl.none,R1,R],fun _ _=>True,fun _ _=>0,?_,⟨?_,?_,?_,?_⟩,(fun _ h=>nomatch h),?_⟩
 ·show [Value.pointer (ar (a:Int) 0)]=_;rw[eV]
 ·intro r hr ho;simp [rJ]at hr;rcases hr with rfl | rfl<;>cases ho
 ·intro r hr ho;simp [rJ]at hr
  rcases hr with rfl | rfl
  ·exact⟨R1,by simp,Hl.le_refl _⟩
  ·exact⟨R,by simp,Hl.le_refl _⟩
 ·simp [rJ,bc.own]
 ·intro r hr;simp [rJ]at hr;rcases hr with rfl | rfl<;>trivial
 ·show Nd.holds _ _ _ vd
  generalize hρ:bx [(a:Int)] false [Hl.none,R1,R]=ρ
  have v0:ρ.i 0=a:=by rw[←hρ];rfl
  have w1:ρ.h 1=R1:=by rw[←hρ];rfl
  have w2:ρ.h 2=R:=by rw[←hρ];rfl
  clear hρ
  have t0:Int.toNat 0=0:=rfl
  unfold vd
  simp only[Nd.holds,X.pre,X.rel,X.n,Src.ok,Src.len,Src.bS,true_and,and_true,if_true,Nat.mul_one,Nat.add_zero,Nat.reduceAdd,List.length_cons,List.length_nil,bN,bK,aP,ba,bb,bM,bj,bJ,bI,bD,bd,bk,bL,bg,bf,aQ,bh,ah,ai,aE,aI,aK,ax,aF,aV,aT,au,aO,aC,aN,aB,TV.ev,SV.ev,CV.ev,List.map_cons,List.map_nil,bc.hl,df,Cp.sv,Ck.cv,ct,Cp.len,Ck.len,aU,bm,bC,H8,GJ,t0]
  rw[v0,w1,w2,Int.toNat_natCast,hc,jt]
  refine⟨by omega,rfl,pE hL,fun q1 g1 ⟨F1,hp1,_⟩ _=>?_⟩
  have hv:=mZ hL hp1
  refine⟨[],[],rfl,rfl,⟨⟨fun _=>q1.i 3,fun _=>false,fun _=>.empty,fun _=>.tuple #[],fun _=>Hl.none⟩,rfl,trivial,trivial⟩,fun a' pa' R' R1' dp' L' bs' e1 e2 hc' hL'=>?_⟩
  simp only[List.cons.injEq,Value.pointer.injEq,Option.some.injEq,Addr.mk.injEq,and_true]at e1 e2
  obtain⟨rfl,rfl⟩:=e2
  subst e1
  obtain rfl:=Option.some.inj (hc.symm.trans hc')
  obtain⟨_,rfl,_⟩:=hL.uniq hL'
  exact hv
def dz:Int:=4611686018427387902
def iD (g:Int):List Int:=nG (IntKind.u64.wrap (g+1))++List.replicate 8 0
def dr (D:DM) (g:Int) (L:LM) (bs b:List Int):AR :=
 if(az D L bs).e≠0 then az D L bs else av (az D L bs).D (az D L bs).L (az D L bs).bs b (iD g)
noncomputable def oc:Sx.Spec where
 fn:=56
 own:=[.link 0 1,.Io 0 1 0]
 rd:=[0,5000000,1,2000000]
 res:=[.one .any]
 pre:=fun xs Hs Rs=>∃ (a:Nat) (pa pb u:Value) (HB HD R0 RA RU RG:Hl) (g:Nat→Addr) (dp:Value) (LA:LM) (bA:List Int) (LB:LM) (bB:List Int) (D:DM) (b:List Int),xs=[.pointer (some ⟨a,0,none⟩),u]∧Hs=[HB,HD]∧Rs=[R0,RA,RU,RG]∧R0.cell a 0=some pa∧R0.cell a 1=some pb∧iR RA pa dp LA bA∧bW HB pb dp LB bB∧aj HD dp D∧fw RU u b∧Gl RG g∧0≤LB.serial∧LB.serial<dz∧LA.serial<dz∧bU LA<dz∧bB.length≤1048576
 post:=fun xs Hs Rs v Hs' F=>∀ (a:Nat) (pa pb u:Value) (HB HD R0 RA RU RG:Hl) (g:Nat→Addr) (dp:Value) (LA:LM) (bA:List Int) (LB:LM) (bB:List Int) (D:DM) (b:List Int),xs=[.pointer (some ⟨a,0,none⟩),u]→Hs=[HB,HD]→Rs=[R0,RA,RU,RG]→R0.cell a 0=some pa→R0.cell a 1=some pb→iR RA pa dp LA bA→bW HB pb dp LB bB→aj HD dp D→fw RU u b→Gl RG g→∃ HB' HD',Hs'=[HB',HD']∧aj HD' dp (dr D (bU LA) LB bB b).D∧bW HB' pb dp (dr D (bU LA) LB bB b).L (dr D (bU LA) LB bB b).bs∧gh g v (dr D (bU LA) LB bB b).e
noncomputable def Fe:List Sx.Spec:=[lC,xu,lX,gW,jA]
theorem GB:∀ t∈Fe,t.OK Tryz.prog:=fun t ht=>by
 simp only[Fe,List.mem_cons,List.mem_nil_iff,or_false]at ht
 rcases ht with rfl | rfl | rfl | rfl | rfl
 ·exact zr
 ·exact D4
 ·exact A6
 ·exact pT
 ·exact pq
def uR:Nd:=.and (.e (.le (.lit 0) (.var 0))) (.and (.e (.his 5 (.var 0) (.lit 1) 0 .ptr)) (.and (.pre (.call 0 12 [.sv (.one (.hptr (.hP 5 (.var 0) (.lit 1) 0 0) (.hP 5 (.var 0) (.lit 1) 0 1)))] [] [.hp 6 [] [.hP 5 (.var 0) (.lit 1) 0 0] [.var 10]])) (.ext (.call 0 12 [.sv (.one (.hptr (.hP 5 (.var 0) (.lit 1) 0 0) (.hP 5 (.var 0) (.lit 1) 0 1)))] [] [.hp 6 [] [.hP 5 (.var 0) (.lit 1) 0 0] [.var 10]]) (.and (.imp (.not (.le (.lit 4611686018427387902) (.var 12))) (.and (.e (.his 5 (.var 0) (.lit 0) 0 .ptr)) (.and (.pre (.call 0 13 [.sv (.one (.hptr (.hP 5 (.var 0) (.lit 0) 0 0) (.hP 5 (.var 0) (.lit 0) 0 1)))] [] [.ro 8 [.hP 5 (.var 0) (.lit 0) 0 0] false])) (.ext (.call 0 13 [.sv (.one (.hptr (.hP 5 (.var 0) (.lit 0) 0 0) (.hP 5 (.var 0) (.lit 0) 0 1)))] [] [.ro 8 [.hP 5 (.var 0) (.lit 0) 0 0] false]) (.and (.imp (.not (.le (.lit 4611686018427387902) (.var 13))) (.and (.pre (.call 1 14 [.sv (.one (.hptr (.var 0) (.lit 0)))] [] [.ro 5 [.var 0] false,.ro 8 [.hP 5 (.var 0) (.lit 0) 0 0] false])) (.ext (.call 1 14 [.sv (.one (.hptr (.var 0) (.lit 0)))] [] [.ro 5 [.var 0] false,.ro 8 [.hP 5 (.var 0) (.lit 0) 0 0] false]) (.and (.imp (.le (.lit 4611686018427387902) (.var 14)) (.e .ff)) (.imp (.not (.le (.lit 4611686018427387902) (.var 14))) (.and (.pre (.call 2 15 [.sv (.one (.hptr (.hP 5 (.var 0) (.lit 1) 0 0) (.hP 5 (.var 0) (.lit 1) 0 1)))] [.hp 6 [] [.hP 5 (.var 0) (.lit 1) 0 0] [.var 10],.hp 7 [] [.var 10] []] [])) (.ext (.call 2 15 [.sv (.one (.hptr (.hP 5 (.var 0) (.lit 1) 0 0) (.hP 5 (.var 0) (.lit 1) 0 1)))] [.hp 6 [] [.hP 5 (.var 0) (.lit 1) 0 0] [.var 10],.hp 7 [] [.var 10] []] []) (.and (.pre (.call 4 18 [.sv (.one (.str (.slit ⟨#[99,108,101,97,114]⟩))),.sv (.one (.int .i64 (.var 15)))] [] [.ro 11 [.lit 0,.lit 1,.lit 2] false])) (.ext (.call 4 18 [.sv (.one (.str (.slit ⟨#[99,108,101,97,114]⟩))),.sv (.one (.int .i64 (.var 15)))] [] [.ro 11 [.lit 0,.lit 1,.lit 2] false]) (.and (.e (.le (.vint 18) (.lit 1))) (.and (.imp (.not (.eq (.vint 18) (.lit 0))) (.post [.hp 15 [6] [.hP 5 (.var 0) (.lit 1) 0 0] [.var 10],.hp 16 [7] [.var 10] [],.ro 8 [.hP 5 (.var 0) (.lit 0) 0 0] false,.ro 5 [.var 0] false,.ro 9 [.var 1] false,.ro 11 [.lit 0,.lit 1,.lit 2] false] (.sv (.one (.vr 18))))) (.imp (.eq (.vint 18) (.lit 0)) (.ext (.alloc 19) (.and (.pre (.call 1 20 [.sv (.one (.hptr (.var 0) (.lit 0)))] [] [.ro 5 [.var 0] false,.ro 8 [.hP 5 (.var 0) (.lit 0) 0 0] false])) (.ext (.call 1 20 [.sv (.one (.hptr (.var 0) (.lit 0)))] [] [.ro 5 [.var 0] false,.ro 8 [.hP 5 (.var 0) (.lit 0) 0 0] false]) (.and (.pre (.call 3 21 [.sv (.one (.hptr (.hP 5 (.var 0) (.lit 1) 0 0) (.hP 5 (.var 0) (.lit 1) 0 1))),.sv (.one (.sl (.var 1) (.var 2) (.var 3) (.var 4))),.sv (.agg [.int .u8 (.wrap .u8 (.shr .u64 (.wrap .u64 (.add (.var 20) (.lit 1))) (.lit 56))),.int .u8 (.wrap .u8 (.shr .u64 (.wrap .u64 (.add (.var 20) (.lit 1))) (.lit 48))),.int .u8 (.wrap .u8 (.shr .u64 (.wrap .u64 (.add (.var 20) (.lit 1))) (.lit 40))),.int .u8 (.wrap .u8 (.shr .u64 (.wrap .u64 (.add (.var 20) (.lit 1))) (.lit 32))),.int .u8 (.wrap .u8 (.shr .u64 (.wrap .u64 (.add (.var 20) (.lit 1))) (.lit 24))),.int .u8 (.wrap .u8 (.shr .u64 (.wrap .u64 (.add (.var 20) (.lit 1))) (.lit 16))),.int .u8 (.wrap .u8 (.shr .u64 (.wrap .u64 (.add (.var 20) (.lit 1))) (.lit 8))),.int .u8 (.wrap .u8 (.shr .u64 (.wrap .u64 (.add (.var 20) (.lit 1))) (.lit 0))),.int .u8 (.lit 0),.int .u8 (.lit 0),.int .u8 (.lit 0),.int .u8 (.lit 0),.int .u8 (.lit 0),.int .u8 (.lit 0),.int .u8 (.lit 0),.int .u8 (.lit 0)])] [.hp 15 [6] [.hP 5 (.var 0) (.lit 1) 0 0] [.var 10],.hp 16 [7] [.var 10] []] [.ro 9 [.var 1] false])) (.ext (.call 3 21 [.sv (.one (.hptr (.hP 5 (.var 0) (.lit 1) 0 0) (.hP 5 (.var 0) (.lit 1) 0 1))),.sv (.one (.sl (.var 1) (.var 2) (.var 3) (.var 4))),.sv (.agg [.int .u8 (.wrap .u8 (.shr .u64 (.wrap .u64 (.add (.var 20) (.lit 1))) (.lit 56))),.int .u8 (.wrap .u8 (.shr .u64 (.wrap .u64 (.add (.var 20) (.lit 1))) (.lit 48))),.int .u8 (.wrap .u8 (.shr .u64 (.wrap .u64 (.add (.var 20) (.lit 1))) (.lit 40))),.int .u8 (.wrap .u8 (.shr .u64 (.wrap .u64 (.add (.var 20) (.lit 1))) (.lit 32))),.int .u8 (.wrap .u8 (.shr .u64 (.wrap .u64 (.add (.var 20) (.lit 1))) (.lit 24))),.int .u8 (.wrap .u8 (.shr .u64 (.wrap .u64 (.add (.var 20) (.lit 1))) (.lit 16))),.int .u8 (.wrap .u8 (.shr .u64 (.wrap .u64 (.add (.var 20) (.lit 1))) (.lit 8))),.int .u8 (.wrap .u8 (.shr .u64 (.wrap .u64 (.add (.var 20) (.lit 1))) (.lit 0))),.int .u8 (.lit 0),.int .u8 (.lit 0),.int .u8 (.lit 0),.int .u8 (.lit 0),.int .u8 (.lit 0),.int .u8 (.lit 0),.int .u8 (.lit 0),.int .u8 (.lit 0)])] [.hp 15 [6] [.hP 5 (.var 0) (.lit 1) 0 0] [.var 10],.hp 16 [7] [.var 10] []] [.ro 9 [.var 1] false]) (.and (.pre (.call 4 24 [.sv (.one (.str (.slit ⟨#[97,112,112,101,110,100]⟩))),.sv (.one (.int .i64 (.var 21)))] [] [.ro 11 [.lit 0,.lit 1,.lit 2] false])) (.ext (.call 4 24 [.sv (.one (.str (.slit ⟨#[97,112,112,101,110,100]⟩))),.sv (.one (.int .i64 (.var 21)))] [] [.ro 11 [.lit 0,.lit 1,.lit 2] false]) (.post [.hp 21 [15,6] [.hP 5 (.var 0) (.lit 1) 0 0] [.var 10],.hp 22 [16,7] [.var 10] [],.ro 8 [.hP 5 (.var 0) (.lit 0) 0 0] false,.ro 5 [.var 0] false,.ro 9 [.var 1] false,.ro 11 [.lit 0,.lit 1,.lit 2] false,.dead] (.sv (.one (.vr 24))))))))))))))))))))))) (.imp (.le (.lit 4611686018427387902) (.var 13)) (.e .ff))))))) (.imp (.le (.lit 4611686018427387902) (.var 12)) (.e .ff))))))
noncomputable def uS:cy Tryz.prog Fe oc.fn where
 Λ:=fun p=>if Gc p [56,1,0,1,0]then some ⟨0,[],[],0⟩else none
 args:=[TP (.var 0) (.lit 0),.sv (.one (.sl (.var 1) (.var 2) (.var 3) (.var 4)))]
 mem:=[.hp 6 [] [.hP 5 (.var 0) (.lit 1) 0 0] [.var 10],.hp 7 [] [.var 10] [],.ro 8 [.hP 5 (.var 0) (.lit 0) 0 0] false,.ro 5 [.var 0] false,.ro 9 [.var 1] false,.ro 11 [.lit 0,.lit 1,.lit 2] false]
 nv:=12
 nd:=uR
 ok:=by kernel_rfl
theorem JE:Fe[0]?=some lC:=rfl
theorem JF:Fe[1]?=some xu:=rfl
theorem JG:Fe[2]?=some lX:=rfl
theorem JH:Fe[3]?=some gW:=rfl
theorem JI:Fe[4]?=some jA:=rfl
theorem JJ:lC.res=[.one (.int .u64)]:=rfl
theorem JK:xu.res=[.one (.int .u64)]:=rfl
theorem JL:lX.res=[.one (.int .i64)]:=rfl
theorem o9 {p dp sl v:Value} {R F:Hl} {K:List Hl} {L:LM} (h:c6 R p dp sl L) (hp:lC.post [p] [] [R] v K F):v=.int .u64 L.serial:=by
 obtain⟨p',R',dp',sl',L',e1,e2,h',hv⟩:=hp
 have e1:p=p':=by simpa using e1
 subst e1
 have e2:R=R':=by simpa using e2
 subst e2
 obtain⟨_,_,rfl⟩:=h.uniq h'
 exact hv
theorem yh {D:DM} {L:LM} {bs:List Int} (e:(az D L bs).e=0):(az D L bs).bs=[]∧(az D L bs).L=cU L [] L.note:=by
 unfold az at e ⊢
 split at e
 ·cases e
 ·rename_i h1
  rw[if_neg h1]
  split at e
  ·cases e
  ·rename_i h2
   rw[if_neg h2]
   split at e
   ·rename_i h3
    rw[if_pos h3];exact⟨rfl,rfl⟩
   ·cases e
theorem EY {W:Int} (h:0≤W) (f:Int→Int) (hf:∀ n,f n=IntKind.u8.wrap (ak ⟨fun _=>W,fun _=>false,fun _=>.empty,fun _=>.tuple #[],fun _=>Hl.none⟩ (.shr .u64 (.var 0) (.lit n)))) :
 [Value.int .u8 (f 56),.int .u8 (f 48),.int .u8 (f 40),.int .u8 (f 32),.int .u8 (f 24),.int .u8 (f 16),.int .u8 (f 8),.int .u8 (f 0),.int .u8 0,.int .u8 0,.int .u8 0,.int .u8 0,.int .u8 0,.int .u8 0,.int .u8 0,.int .u8 0]=cn (nG W++List.replicate 8 0):=by
 have:=xV (q:=⟨fun _=>W,fun _=>false,fun _=>.empty,fun _=>.tuple #[],fun _=>Hl.none⟩) (n:=0) rfl h
 unfold cn
 rw[List.map_append,←this]
 simp only[hf]
 rfl
theorem BL:oc.OK Tryz.prog:=by
 refine dZ (Γ:=Fe) GB ?_
 rintro xs Hs Rs hl1 hl2 hdis ⟨a,pa,pb,u,HB,HD,R0,RA,RU,RG,g,dp,LA,bA,LB,bB,D,b,rfl,rfl,rfl,hc0,hc1,hA,hB,hD,hU,hG,hs0,hs1,hs2,hs3,hbB⟩
 obtain⟨x,y,c,rfl,hy,_⟩:=id hU
 obtain⟨_,⟨aa,hpa,_⟩,_⟩:=id hA
 obtain⟨ab,_,_,hpb,_⟩:=id hB
 have hHD:HB.ch HD:=hdis 0 1 _ _ (by decide) rfl rfl
 generalize hρ:bx [(a:Int),x,y,b.length,c] false [Hl.none,Hl.none,Hl.none,Hl.none,Hl.none,R0,HB,HD,RA,RU,Hl.none,RG]=ρ
 have V:∀ q:Env,ae 12 ρ q→q.i 0=a∧q.i 1=x∧q.i 2=y∧q.i 3=b.length∧q.i 4=c:=fun q hg=>by
  rw[hg.i 0 (by omega),hg.i 1 (by omega),hg.i 2 (by omega),hg.i 3 (by omega),hg.i 4 (by omega),←hρ]
  exact⟨rfl,rfl,rfl,rfl,rfl⟩
 have W:∀ q:Env,ae 12 ρ q→q.h 5=R0∧q.h 6=HB∧q.h 7=HD∧q.h 8=RA∧q.h 9=RU∧q.h 11=RG:=fun q hg=>by
  rw[hg.h 5 (by omega),hg.h 6 (by omega),hg.h 7 (by omega),hg.h 8 (by omega),hg.h 9 (by omega),hg.h 11 (by omega),←hρ]
  exact⟨rfl,rfl,rfl,rfl,rfl,rfl⟩
 clear hρ
 obtain⟨v0,v1,v2,v3,v4⟩:=V ρ (ae.refl _ _)
 obtain⟨w5,w6,w7,w8,w9,w11⟩:=W ρ (ae.refl _ _)
 refine⟨uS,ρ,fun _ _=>True,fun _ _=>0,?_,⟨?_,?_,?_,?_⟩,(fun _ h=>nomatch h),?_⟩
 ·show [Value.pointer (ar (ρ.i 0) 0),Value.slice (ar (ρ.i 1) (ρ.i 2)) (ρ.i 3).toNat (ρ.i 4).toNat]=_
  rw[v0,v1,v2,v3,v4,Int.toNat_natCast,Int.toNat_natCast,eV]
 ·intro r hr ho
  simp only[uS,List.mem_cons,List.mem_nil_iff,or_false]at hr
  rcases hr with rfl | rfl | rfl | rfl | rfl | rfl
  ·exact⟨HB,by simp,by show(ρ.h 6).le HB;rw[w6];exact Hl.le_refl _⟩
  ·exact⟨HD,by simp,by show(ρ.h 7).le HD;rw[w7];exact Hl.le_refl _⟩
  all_goals cases ho
 ·intro r hr ho
  simp only[uS,List.mem_cons,List.mem_nil_iff,or_false]at hr
  rcases hr with rfl | rfl | rfl | rfl | rfl | rfl
  ·cases ho
  ·cases ho
  ·exact⟨RA,by simp,by show(ρ.h 8).le RA;rw[w8];exact Hl.le_refl _⟩
  ·exact⟨R0,by simp,by show(ρ.h 5).le R0;rw[w5];exact Hl.le_refl _⟩
  ·exact⟨RU,by simp,by show(ρ.h 9).le RU;rw[w9];exact Hl.le_refl _⟩
  ·exact⟨RG,by simp,by show(ρ.h 11).le RG;rw[w11];exact Hl.le_refl _⟩
 ·refine List.Pairwise.cons (fun r hr _ ho=>?_) (List.Pairwise.cons (fun r hr _ ho=>?_) (List.Pairwise.cons (fun r hr ho=>by cases ho) (List.Pairwise.cons (fun r hr ho=>by cases ho) (List.Pairwise.cons (fun r hr ho=>by cases ho) (List.Pairwise.cons (fun r hr=>by cases hr) List.Pairwise.nil)))))
  ·simp only[List.mem_cons,List.mem_nil_iff,or_false]at hr
   rcases hr with rfl | rfl | rfl | rfl | rfl
   ·show(ρ.h 6).ch (ρ.h 7);rw[w6,w7];exact hHD
   all_goals cases ho
  ·simp only[List.mem_cons,List.mem_nil_iff,or_false]at hr
   rcases hr with rfl | rfl | rfl | rfl<;>cases ho
 ·intro r hr
  simp only[uS,List.mem_cons,List.mem_nil_iff,or_false]at hr
  rcases hr with rfl | rfl | rfl | rfl | rfl | rfl<;>trivial
 show Nd.holds _ _ _ uR
 have t0:Int.toNat 0=0:=rfl
 have t1:Int.toNat 1=1:=rfl
 have epA:Value.pointer (ar (cH (some pa) 0) (cH (some pa) 1))=pa:=by rw[hpa];exact jt
 have epB:Value.pointer (ar (cH (some pb) 0) (cH (some pb) 1))=pb:=by rw[hpb];exact jt
 have kA:cx (some pa) .ptr=true:=by rw[hpa];rfl
 have kB:cx (some pb) .ptr=true:=by rw[hpb];rfl
 unfold uR
 simp only[Nd.holds,X.pre,X.rel,X.n,Src.ok,Src.len,Src.bS,true_and,and_true,if_true,Nat.mul_one,Nat.add_zero,Nat.reduceAdd,List.length_cons,List.length_nil,bN,bK,aP,ba,bb,bM,bj,bJ,bI,bD,bd,bk,bL,bg,bf,aQ,bh,ah,ai,aE,aI,aK,ax,aF,aV,aT,au,aO,aC,aN,aB,TV.ev,SV.ev,CV.ev,List.map_cons,List.map_nil,bc.hl,df,Cp.sv,Ck.cv,ct,Cp.len,Ck.len,aU,bm,bC,JE,JF,JG,JH,JI,JJ,JK,JL,Hb,Hc,t0,t1]
 obtain⟨slB,hBr,_⟩:=hB.rd
 obtain⟨slA,hAr,_⟩:=id hA
 unfold dz at hs1 hs2 hs3
 rw[w5,w6,v0,Int.toNat_natCast,hc1,epB]
 refine⟨by omega,kB,⟨_,_,_,_,_,rfl,rfl,hBr⟩,fun q1 g1 ⟨_,p1,_,_⟩=>?_⟩
 have e12:q1.i 12=LB.serial:=by simpa using o9 hBr p1
 refine⟨fun _=>?_,fun h=>by omega⟩
 rw[(V q1 g1).1,(W q1 g1).1,(W q1 g1).2.2.2.1,Int.toNat_natCast,hc0,epA]
 refine⟨kA,⟨_,_,_,_,_,rfl,rfl,hAr⟩,fun q2 g2 ⟨_,p2,_,_⟩=>?_⟩
 have e13:q2.i 13=LA.serial:=by simpa using o9 hAr p2
 have G2:ae 12 ρ q2:=g1.trans (g2.mono (by omega))
 refine⟨fun _=>?_,fun h=>by omega⟩
 rw[(V q2 G2).1,(W q2 G2).1,(W q2 G2).2.2.2.1,eV]
 refine⟨⟨a,pa,R0,RA,dp,LA,bA,rfl,rfl,hc0,hA⟩,fun q3 g3 ⟨_,p3,_,_⟩=>?_⟩
 have e14:q3.i 14=bU LA:=by simpa using p3 a pa R0 RA dp LA bA rfl rfl hc0 hA
 have G3:ae 12 ρ q3:=G2.trans (g3.mono (by omega))
 refine⟨fun h=>by omega,fun _=>?_⟩
 rw[(V q3 G3).1,(W q3 G3).1,(W q3 G3).2.1,(W q3 G3).2.2.1,Int.toNat_natCast,hc1,epB]
 refine⟨⟨pb,HB,HD,dp,LB,bB,D,rfl,rfl,hB,hD,hs0⟩,fun q4 g4 ⟨_,p4,_,_⟩=>?_⟩
 have G4:ae 12 ρ q4:=G3.trans (g4.mono (by omega))
 obtain⟨HB',HD',hK,hD4,hB4,he⟩:=yg hB hD p4
 have hK:[q4.h 15,q4.h 16]=[HB',HD']:=hK
 simp only[List.cons.injEq,and_true]at hK
 obtain⟨rfl,rfl⟩:=hK
 have e15:q4.i 15=(az D LB bB).e:=by simpa using he
 rw[(W q4 G4).2.2.2.2.2]
 refine⟨⟨_,_,RG,g,rfl,rfl,hG⟩,fun q5 g5 ⟨_,⟨s',c',R',ex,eR,hE⟩,_,_⟩=>?_⟩
 have G5:ae 12 ρ q5:=G4.trans (g5.mono (by omega))
 simp only[List.cons.injEq,Value.string.injEq,Value.int.injEq,true_and,and_true]at ex eR
 obtain⟨_,rfl⟩:=ex
 subst eR
 rw[e15]at hE
 have hE:∀ g',Gl RG g'→gh g' (q5.v 18) (az D LB bB).e:=hE
 obtain⟨k1,k2⟩:=Ah (hE g hG)
 have fin:∀ {q:Env} {h1 h2 j:Nat} {a1 a2:List Nat} {t1 t2 l1 l2:List E} {t:Mem},aj (q.h h2) dp (dr D (bU LA) LB bB b).D→bW (q.h h1) pb dp (dr D (bU LA) LB bB b).L (dr D (bU LA) LB bB b).bs→(∀ g',Gl RG g'→gh g' (q.v j) (dr D (bU LA) LB bB b).e) →
  postOf oc [.pointer (some ⟨a,0,none⟩),.slice (ar x y) b.length c] [HB,HD] [R0,RA,RU,RG] q (.hp h1 a1 t1 l1::.hp h2 a2 t2 l2::t) (.sv (.one (.vr j))):=by
  intro q h1 h2 j a1 a2 t1 t2 l1 l2 t x1 x2 x3 _
  refine⟨[[0],[1]],[],rfl,rfl,⟨⟨fun _=>0,fun _=>false,fun _=>.empty,fun _=>q.v j,fun _=>Hl.none⟩,rfl,trivial,trivial⟩,?_⟩
  intro a' pa' pb' u' HB1 HD1 R0' RA' RU' RG' g' dp' LA' bA' LB' bB' D' b' e1 e2 e3 c0 c1 yA yB yD yU yG
  simp only[List.cons.injEq,Value.pointer.injEq,Option.some.injEq,Addr.mk.injEq,and_true]at e1 e2 e3
  obtain⟨rfl,rfl⟩:=e1
  obtain⟨rfl,rfl⟩:=e2
  obtain⟨rfl,rfl,rfl,rfl⟩:=e3
  obtain rfl:=Option.some.inj (hc0.symm.trans c0)
  obtain rfl:=Option.some.inj (hc1.symm.trans c1)
  obtain⟨rfl,rfl,rfl⟩:=hA.uniq yA
  obtain⟨_,rfl,rfl⟩:=hB.uniq yB
  obtain rfl:=hD.uniq yD
  obtain rfl:=hU.uniq yU
  refine⟨_,_,rfl,?_,?_,x3 g' yG⟩
  ·show aj (dF [q.h h2]) _ _
   rw[bp];exact x1
  ·show bW (dF [q.h h1]) _ _ _ _
   rw[bp];exact x2
 refine⟨k1,fun hne=>?_,fun h0=>?_⟩
 ·have hne:(az D LB bB).e≠0:=fun h=>hne (k2.2 h)
  have er:dr D (bU LA) LB bB b=az D LB bB:=by unfold dr;rw[if_pos hne]
  refine fin ?_ ?_ ?_
  ·rw[er,g5.h 16 (by omega)];exact hD4
  ·rw[er,g5.h 15 (by omega)];exact hB4
  ·rw[er];exact hE
 have h0:(az D LB bB).e=0:=k2.1 h0
 have er:dr D (bU LA) LB bB b=av (az D LB bB).D (az D LB bB).L (az D LB bB).bs b (iD (bU LA)):=by unfold dr;rw[if_neg (by simp [h0])]
 intro q6 g6 _
 have G6:ae 12 ρ q6:=G5.trans (g6.mono (by omega))
 rw[(V q6 G6).1,(W q6 G6).1,(W q6 G6).2.2.2.1,eV]
 refine⟨⟨a,pa,R0,RA,dp,LA,bA,rfl,rfl,hc0,hA⟩,fun q7 g7 ⟨_,p7,_,_⟩=>?_⟩
 have e20:q7.i 20=bU LA:=by simpa using p7 a pa R0 RA dp LA bA rfl rfl hc0 hA
 have G7:ae 12 ρ q7:=G6.trans (g7.mono (by omega))
 have A47:ae 18 q4 q7:=g5.trans ((g6.mono (by omega)).trans (g7.mono (by omega)))
 obtain⟨z1,z2⟩:=yh h0
 have hW:0≤IntKind.u64.wrap (bU LA+1):=by unfold IntKind.wrap;simp only[IntKind.signed,IntKind.bits];exact Int.emod_nonneg _ (by decide)
 have hnote:=EY hW (fun n=>IntKind.u8.wrap (ak q7 (E.shr .u64 (E.wrap .u64 ((E.var 20).add (E.lit 1))) (E.lit n)))) (fun n=>by
  show IntKind.u8.wrap (ak q7 (E.shr .u64 (E.wrap .u64 ((E.var 20).add (E.lit 1))) (E.lit n)))=_
  rw[uu,uu,ax,aE,ai,e20];rfl)
 have hnote:_=Value.agg (cn (iD (bU LA))).toArray:=congrArg (fun l=>Value.agg (List.toArray l)) hnote
 have hsl:Value.slice (ar (q7.i 1) (q7.i 2)) (q7.i 3).toNat (q7.i 4).toNat=.slice (ar x y) b.length c:=by rw[(V q7 G7).2.1,(V q7 G7).2.2.1,(V q7 G7).2.2.2.1,(V q7 G7).2.2.2.2,Int.toNat_natCast,Int.toNat_natCast]
 have hD7:aj (q7.h 16) dp (az D LB bB).D:=by rw[A47.h 16 (by omega)];exact hD4
 have hB7:bW (q7.h 15) pb dp (az D LB bB).L (az D LB bB).bs:=by rw[A47.h 15 (by omega)];exact hB4
 have hU7:fw (q7.h 9) (.slice (ar x y) b.length c) b:=by rw[(W q7 G7).2.2.2.2.1];exact hU
 rw[(V q7 G7).1,(W q7 G7).1,Int.toNat_natCast,hc1,epB,hsl,hnote]
 refine⟨⟨pb,_,b,iD (bU LA),_,_,_,dp,_,_,_,rfl,rfl,rfl,hB7,hD7,hU7,by rw[z1];exact Nat.zero_le _,rfl,by rw[z2];show 0≤LB.serial+1;omega⟩,fun q8 g8 ⟨_,p8,_,_⟩=>?_⟩
 have p8:=oB (nt:=iD (bU LA)) hB7 hD7 hU7 p8
 obtain⟨HB2,HD2,hK,hD8,hB8,he8⟩:=p8
 have hK:[q8.h 21,q8.h 22]=[HB2,HD2]:=hK
 simp only[List.cons.injEq,and_true]at hK
 obtain⟨rfl,rfl⟩:=hK
 rw[←er]at hD8 hB8 he8
 have e21:q8.i 21=(dr D (bU LA) LB bB b).e:=by simpa using he8
 have G8:ae 12 ρ q8:=G7.trans (g8.mono (by omega))
 rw[(W q8 G8).2.2.2.2.2]
 refine⟨⟨_,_,RG,g,rfl,rfl,hG⟩,fun q9 g9 ⟨_,⟨s2,c2,R2,ex2,eR2,hE2⟩,_,_⟩=>?_⟩
 simp only[List.cons.injEq,Value.string.injEq,Value.int.injEq,true_and,and_true]at ex2 eR2
 obtain⟨_,rfl⟩:=ex2
 subst eR2
 rw[e21]at hE2
 refine fin ?_ ?_ hE2
 ·rw[g9.h 22 (by omega)];exact hD8
 ·rw[g9.h 21 (by omega)];exact hB8
end Go.Proofs.YtomdimlnggpgbaaGreatDoor
namespace Go.Proofs.YtomdimlnggpgbaaGreatDoor
open Go Go.Sx Go.Pk
open Go.Proofs.YtomdimlnggpgbaaGreatDoor.D hiding bx aH hJ
def jY (S:SM) (rows:List (List Int)) (r:AR):GS :=
 if fS r.e=0 then⟨0,r.D,⟨r.L,r.bs,S.LA,S.bA,rows,S.over⟩⟩
 else⟨fS r.e,r.D,⟨S.LA,S.bA,r.L,r.bs,S.recs,if r.e≠0∧gi r.e=fO then true else S.over⟩⟩
open Classical in
noncomputable def bP (D:DM) (S:SM) (rows:List (List Int)):GS :=
 if S.over=true then⟨5,D,S⟩
 else if ¬cC rows then⟨3,D,S⟩
 else if S.LB.most<(aD rows).length then⟨4,D,S⟩
 else jY S rows (dr D (bU S.LA) S.LB S.bB (aD rows))
noncomputable def tY:Sx.Spec where
 fn:=17
 own:=[.arg 0,.link 0 0]
 rd:=[1,3000001,2000000]
 res:=[.one (.int .i64)]
 pre:=fun xs Hs Rs=>∃ p v H HD R RA RG g dp S D rows,xs=[p,v]∧Hs=[H,HD]∧Rs=[R,RA,RG]∧bT H p dp S∧aj HD dp D∧bu R RA v rows∧Gl RG g∧rows.length≤1000000∧(∀ r∈rows,0≤r.length)∧S.bA.length≤1048576∧S.bB.length≤1048576∧0≤S.LB.serial∧S.LB.serial<dz∧S.LA.serial<dz∧bU S.LA<dz
 post:=fun xs Hs Rs w Hs' F=>∃ p v H HD R RA RG dp S D rows H' HD',xs=[p,v]∧Hs=[H,HD]∧Rs=[R,RA,RG]∧bT H p dp S∧aj HD dp D∧bu R RA v rows∧Hs'=[H',HD']∧aj HD' dp (bP D S rows).D∧bT H' p dp (bP D S rows).S∧w=.int .i64 (bP D S rows).e
noncomputable def CH:List Sx.Spec:=[kN,iN,gj,oc,Ep,gC,gY]
theorem FZ:∀ t∈CH,t.OK Tryz.prog:=fun t ht=>by
 simp only[CH,List.mem_cons,List.mem_nil_iff,or_false]at ht
 rcases ht with rfl | rfl | rfl | rfl | rfl | rfl | rfl
 ·exact tj
 ·exact nu
 ·exact nK
 ·exact BL
 ·exact yK
 ·exact qV
 ·exact lY
def CF:Nd:=.and (.pre (.call 0 19 [.sv (.one (.hptr (.var 0) (.lit 0))),.sv (.one (.sl (.var 1) (.var 2) (.var 3) (.var 4)))] [] [.aS 0 [.hptr (.var 5) (.lit 0),.hptr (.var 6) (.lit 0),.sl (.var 7) (.lit 0) (.var 8) (.var 9),.bool (.bvar 10)] 101,.ro 16 [.var 1] false,.ro 17 [] true])) (.ext (.call 0 19 [.sv (.one (.hptr (.var 0) (.lit 0))),.sv (.one (.sl (.var 1) (.var 2) (.var 3) (.var 4)))] [] [.aS 0 [.hptr (.var 5) (.lit 0),.hptr (.var 6) (.lit 0),.sl (.var 7) (.lit 0) (.var 8) (.var 9),.bool (.bvar 10)] 101,.ro 16 [.var 1] false,.ro 17 [] true]) (.and (.imp (.not (.eq (.var 23) (.lit 0))) (.post [.aS 0 [.hptr (.var 5) (.lit 0),.hptr (.var 6) (.lit 0),.sl (.var 7) (.lit 0) (.var 8) (.var 9),.bool (.bvar 10)] 101,.hp 12 [] [.var 5] [.var 11],.hp 13 [] [.var 6] [.var 11],.hp 14 [] [.var 7] [],.hp 15 [] [.var 11] [],.ro 16 [.var 1] false,.ro 17 [] true,.ro 18 [.lit 0,.lit 1,.lit 2] false,.hp 19 [] [.var 19] []] (.sv (.one (.int .i64 (.var 23)))))) (.imp (.eq (.var 23) (.lit 0)) (.and (.e (.le (.lit 0) (.var 21))) (.and (.pre (.call 1 24 [.sv (.one (.hptr (.var 6) (.lit 0)))] [] [.hp 13 [] [.var 6] [.var 11]])) (.ext (.call 1 24 [.sv (.one (.hptr (.var 6) (.lit 0)))] [] [.hp 13 [] [.var 6] [.var 11]]) (.and (.pre (.call 2 25 [.sv (.one (.hptr (.var 6) (.lit 0)))] [] [.hp 13 [] [.var 6] [.var 11],.hp 13 [] [.var 6] [.var 11]])) (.ext (.call 2 25 [.sv (.one (.hptr (.var 6) (.lit 0)))] [] [.hp 13 [] [.var 6] [.var 11],.hp 13 [] [.var 6] [.var 11]]) (.and (.e (.le (.lit 0) (.var 27))) (.and (.imp (.lt (.wrap .i64 (.add (.var 24) (.var 27))) (.var 21)) (.post [.aS 0 [.hptr (.var 5) (.lit 0),.hptr (.var 6) (.lit 0),.sl (.var 7) (.lit 0) (.var 8) (.var 9),.bool (.bvar 10)] 101,.hp 12 [] [.var 5] [.var 11],.hp 13 [] [.var 6] [.var 11],.hp 14 [] [.var 7] [],.hp 15 [] [.var 11] [],.ro 16 [.var 1] false,.ro 17 [] true,.ro 18 [.lit 0,.lit 1,.lit 2] false,.hp 19 [] [.var 19] [],.hp 25 [] [.var 25] []] (.sv (.one (.int .i64 (.lit 4)))))) (.imp (.not (.lt (.wrap .i64 (.add (.var 24) (.var 27))) (.var 21))) (.and (.pre (.call 3 29 [.sv (.one (.hptr (.var 0) (.lit 0))),.sv (.one (.sl (.var 19) (.var 20) (.var 21) (.var 22)))] [.hp 13 [] [.var 6] [.var 11],.hp 15 [] [.var 11] []] [.aS 0 [.hptr (.var 5) (.lit 0),.hptr (.var 6) (.lit 0),.sl (.var 7) (.lit 0) (.var 8) (.var 9),.bool (.bvar 10)] 101,.hp 12 [] [.var 5] [.var 11],.hp 19 [] [.var 19] [],.ro 18 [.lit 0,.lit 1,.lit 2] false])) (.ext (.call 3 29 [.sv (.one (.hptr (.var 0) (.lit 0))),.sv (.one (.sl (.var 19) (.var 20) (.var 21) (.var 22)))] [.hp 13 [] [.var 6] [.var 11],.hp 15 [] [.var 11] []] [.aS 0 [.hptr (.var 5) (.lit 0),.hptr (.var 6) (.lit 0),.sl (.var 7) (.lit 0) (.var 8) (.var 9),.bool (.bvar 10)] 101,.hp 12 [] [.var 5] [.var 11],.hp 19 [] [.var 19] [],.ro 18 [.lit 0,.lit 1,.lit 2] false]) (.and (.e (.his 18 (.lit 0) (.lit 0) 0 .any)) (.and (.pre (.call 4 32 [.sv (.one (.vr 29)),.sv (.one (.hv 18 (.lit 0) (.lit 0) 0))] [] [.ro 18 [.lit 0,.lit 1,.lit 2] false])) (.ext (.call 4 32 [.sv (.one (.vr 29)),.sv (.one (.hv 18 (.lit 0) (.lit 0) 0))] [] [.ro 18 [.lit 0,.lit 1,.lit 2] false]) (.and (.imp (.bvar 32) (.and (.pre (.call 5 33 [.sv (.one (.vr 29))] [] [.ro 18 [.lit 0,.lit 1,.lit 2] false])) (.ext (.call 5 33 [.sv (.one (.vr 29))] [] [.ro 18 [.lit 0,.lit 1,.lit 2] false]) (.and (.imp (.not (.eq (.var 33) (.lit 0))) (.post [.aS 0 [.hptr (.var 5) (.lit 0),.hptr (.var 6) (.lit 0),.sl (.var 7) (.lit 0) (.var 8) (.var 9),.bool .tt] 101,.hp 12 [] [.var 5] [.var 11],.hp 29 [13] [.var 6] [.var 11],.hp 14 [] [.var 7] [],.hp 30 [15] [.var 11] [],.ro 16 [.var 1] false,.ro 17 [] true,.ro 18 [.lit 0,.lit 1,.lit 2] false,.hp 19 [] [.var 19] [],.hp 25 [] [.var 25] []] (.sv (.one (.int .i64 (.var 33)))))) (.imp (.eq (.var 33) (.lit 0)) (.and (.e (.le (.lit 0) (.var 3))) (.and (.inv 0 [⟨60,0,.int .i64 (.lit 0)⟩,⟨61,0,.int .i64 (.lit (-1))⟩,⟨62,0,.int .i64 (.lit 0)⟩,⟨63,0,.int .i64 (.lit 0)⟩,⟨65,1,.bool .tt⟩] [(64,some 14)]) (.havoc 0 0 34 (.and (.imp (.lt (.var 60) (.var 3)) (.and (.e (.le (.lit 0) (.var 1))) (.and (.e (.le (.lit 0) (.var 2))) (.and (.e (.le (.lit 0) (.var 60))) (.and (.e (.his 16 (.var 1) (.add (.var 2) (.var 60)) 0 .slice)) (.and (.pre (.call 6 66 [.sv (.one (.sl (.hP 16 (.var 1) (.add (.var 2) (.var 60)) 0 0) (.hP 16 (.var 1) (.add (.var 2) (.var 60)) 0 1) (.hP 16 (.var 1) (.add (.var 2) (.var 60)) 0 2) (.hP 16 (.var 1) (.add (.var 2) (.var 60)) 0 3)))] [] [.ro 17 [] true])) (.ext (.call 6 66 [.sv (.one (.sl (.hP 16 (.var 1) (.add (.var 2) (.var 60)) 0 0) (.hP 16 (.var 1) (.add (.var 2) (.var 60)) 0 1) (.hP 16 (.var 1) (.add (.var 2) (.var 60)) 0 2) (.hP 16 (.var 1) (.add (.var 2) (.var 60)) 0 3)))] [] [.ro 17 [] true]) (.ext (.alloc 70) (.ext (.Bx 71 (.hp 64 [] [.var 61] []) (.hp 66 [] [.var 66] [])) (.and (.pre (.app 72 46 1 24 (.sl (.var 61) (.lit 0) (.var 62) (.var 63)) (.var 62) (.hp 71 [64,66] [.var 61,.var 66,.var 66] []) (.cvs [.sl (.var 66) (.var 67) (.var 68) (.var 69)] 1))) (.ext (.app 72 46 1 24 (.sl (.var 61) (.lit 0) (.var 62) (.var 63)) (.var 62) (.hp 71 [64,66] [.var 61,.var 66,.var 66] []) (.cvs [.sl (.var 66) (.var 67) (.var 68) (.var 69)] 1)) (.back 0 0 [⟨60,0,.int .i64 (.wrap .i64 (.add (.var 60) (.lit 1)))⟩,⟨61,0,.int .i64 (.var 72)⟩,⟨62,0,.int .i64 (.add (.var 62) (.lit 1))⟩,⟨63,0,.int .i64 (.var 73)⟩,⟨65,1,.bool (.bvar 65)⟩] [(64,some 72)])))))))))))) (.imp (.not (.lt (.var 60) (.var 3))) (.post [.aS 0 [.hptr (.var 6) (.lit 0),.hptr (.var 5) (.lit 0),.sl (.var 61) (.lit 0) (.var 62) (.var 63),.bool (.bvar 65)] 101,.hp 12 [] [.var 5] [.var 11],.hp 29 [13] [.var 6] [.var 11],.hp 64 [] [.var 61] [],.hp 30 [15] [.var 11] [],.ro 16 [.var 1] false,.ro 17 [] true,.ro 18 [.lit 0,.lit 1,.lit 2] false,.hp 19 [] [.var 19] [],.hp 25 [] [.var 25] []] (.sv (.one (.int .i64 (.lit 0))))))))))))))) (.imp (.not (.bvar 32)) (.and (.pre (.call 5 33 [.sv (.one (.vr 29))] [] [.ro 18 [.lit 0,.lit 1,.lit 2] false])) (.ext (.call 5 33 [.sv (.one (.vr 29))] [] [.ro 18 [.lit 0,.lit 1,.lit 2] false]) (.and (.imp (.not (.eq (.var 33) (.lit 0))) (.post [.aS 0 [.hptr (.var 5) (.lit 0),.hptr (.var 6) (.lit 0),.sl (.var 7) (.lit 0) (.var 8) (.var 9),.bool (.bvar 10)] 101,.hp 12 [] [.var 5] [.var 11],.hp 29 [13] [.var 6] [.var 11],.hp 14 [] [.var 7] [],.hp 30 [15] [.var 11] [],.ro 16 [.var 1] false,.ro 17 [] true,.ro 18 [.lit 0,.lit 1,.lit 2] false,.hp 19 [] [.var 19] [],.hp 25 [] [.var 25] []] (.sv (.one (.int .i64 (.var 33)))))) (.imp (.eq (.var 33) (.lit 0)) (.and (.e (.le (.lit 0) (.var 3))) (.and (.inv 0 [⟨60,0,.int .i64 (.lit 0)⟩,⟨61,0,.int .i64 (.lit (-1))⟩,⟨62,0,.int .i64 (.lit 0)⟩,⟨63,0,.int .i64 (.lit 0)⟩,⟨65,1,.bool (.bvar 10)⟩] [(64,some 14)]) (.havoc 0 0 34 (.and (.imp (.lt (.var 60) (.var 3)) (.and (.e (.le (.lit 0) (.var 1))) (.and (.e (.le (.lit 0) (.var 2))) (.and (.e (.le (.lit 0) (.var 60))) (.and (.e (.his 16 (.var 1) (.add (.var 2) (.var 60)) 0 .slice)) (.and (.pre (.call 6 66 [.sv (.one (.sl (.hP 16 (.var 1) (.add (.var 2) (.var 60)) 0 0) (.hP 16 (.var 1) (.add (.var 2) (.var 60)) 0 1) (.hP 16 (.var 1) (.add (.var 2) (.var 60)) 0 2) (.hP 16 (.var 1) (.add (.var 2) (.var 60)) 0 3)))] [] [.ro 17 [] true])) (.ext (.call 6 66 [.sv (.one (.sl (.hP 16 (.var 1) (.add (.var 2) (.var 60)) 0 0) (.hP 16 (.var 1) (.add (.var 2) (.var 60)) 0 1) (.hP 16 (.var 1) (.add (.var 2) (.var 60)) 0 2) (.hP 16 (.var 1) (.add (.var 2) (.var 60)) 0 3)))] [] [.ro 17 [] true]) (.ext (.alloc 70) (.ext (.Bx 71 (.hp 64 [] [.var 61] []) (.hp 66 [] [.var 66] [])) (.and (.pre (.app 72 46 1 24 (.sl (.var 61) (.lit 0) (.var 62) (.var 63)) (.var 62) (.hp 71 [64,66] [.var 61,.var 66,.var 66] []) (.cvs [.sl (.var 66) (.var 67) (.var 68) (.var 69)] 1))) (.ext (.app 72 46 1 24 (.sl (.var 61) (.lit 0) (.var 62) (.var 63)) (.var 62) (.hp 71 [64,66] [.var 61,.var 66,.var 66] []) (.cvs [.sl (.var 66) (.var 67) (.var 68) (.var 69)] 1)) (.back 0 0 [⟨60,0,.int .i64 (.wrap .i64 (.add (.var 60) (.lit 1)))⟩,⟨61,0,.int .i64 (.var 72)⟩,⟨62,0,.int .i64 (.add (.var 62) (.lit 1))⟩,⟨63,0,.int .i64 (.var 73)⟩,⟨65,1,.bool (.bvar 65)⟩] [(64,some 72)])))))))))))) (.imp (.not (.lt (.var 60) (.var 3))) (.post [.aS 0 [.hptr (.var 6) (.lit 0),.hptr (.var 5) (.lit 0),.sl (.var 61) (.lit 0) (.var 62) (.var 63),.bool (.bvar 65)] 101,.hp 12 [] [.var 5] [.var 11],.hp 29 [13] [.var 6] [.var 11],.hp 64 [] [.var 61] [],.hp 30 [15] [.var 11] [],.ro 16 [.var 1] false,.ro 17 [] true,.ro 18 [.lit 0,.lit 1,.lit 2] false,.hp 19 [] [.var 19] [],.hp 25 [] [.var 25] []] (.sv (.one (.int .i64 (.lit 0))))))))))))))))))))))))))))))))
noncomputable def CG:cy Tryz.prog CH tY.fn where
 Λ:=fun p=>if ES p then some ⟨0,[(61,TI .i64 (.var 60))],[(0,.aS 0 [.hptr (.var 6) (.lit 0),.hptr (.var 5) (.lit 0),.sl (.var 61) (.lit 0) (.var 62) (.var 63),.bool (.bvar 65)] 101),(3,.hp 64 [] [.var 61] [])],66⟩else none
 args:=[TP (.var 0) (.lit 0),.sv (.one (.sl (.var 1) (.var 2) (.var 3) (.var 4)))]
 mem:=[.aS 0 [.hptr (.var 5) (.lit 0),.hptr (.var 6) (.lit 0),.sl (.var 7) (.lit 0) (.var 8) (.var 9),.bool (.bvar 10)] 101,.hp 12 [] [.var 5] [.var 11],.hp 13 [] [.var 6] [.var 11],.hp 14 [] [.var 7] [],.hp 15 [] [.var 11] [],.ro 16 [.var 1] false,.ro 17 [] true,.ro 18 [.lit 0,.lit 1,.lit 2] false]
 nv:=19
 nd:=CF
 ok:=by kernel_rfl
theorem IJ:CH[0]?=some kN:=rfl
theorem IK:CH[1]?=some iN:=rfl
theorem IL:CH[2]?=some gj:=rfl
theorem IM:CH[3]?=some oc:=rfl
theorem IN:CH[4]?=some Ep:=rfl
theorem IP:CH[5]?=some gC:=rfl
theorem IQ:CH[6]?=some gY:=rfl
theorem IS:gj.res=[.one .sl]:=rfl
theorem IT:oc.res=[.one .any]:=rfl
set_option maxRecDepth 8000 in
theorem ED:tY.OK Tryz.prog:=by
 refine dZ (Γ:=CH) FZ ?_
 rintro xs Hs Rs hl1 hl2 hdis ⟨p,v,H,HD,R,RA,RG,g,dp,S,D,rows,rfl,rfl,rfl,hAt,hD,hB,hG,hlen,hrow,hbA,hbB,hs0,hs1,hs2,hs3⟩
 obtain⟨a,pa,pb,sl,HA,HB,HR,rfl,hIn⟩:=id hAt
 obtain⟨us,x,y,c,rfl,hy,hul,hcell,hrd⟩:=id hB
 obtain⟨da,s,m,es,clock,hdp,hDi⟩:=id hD
 obtain⟨rx,rc,hrx,hsl⟩:=hIn.rows.rep
 obtain⟨aa,_,_,hpa,_⟩:=id hIn.la
 obtain⟨ab,_,_,hpb,_⟩:=id hIn.lb
 obtain⟨l1,l2,l3,l4⟩:=ur hIn.d1 hIn.d2 hIn.d3 hIn.d4 hIn.d5 hIn.d6
 rw[←hIn.hl]at l1 l2 l3 l4
 have hHD:H.ch HD:=hdis 0 1 _ _ (by decide) rfl rfl
 generalize hρ:bx [(a:Int),x,y,us.length,c,aa,ab,rx,S.recs.length,rc,0,da] S.over [Hl.none,Hl.none,Hl.none,Hl.none,Hl.none,Hl.none,Hl.none,Hl.none,Hl.none,Hl.none,Hl.none,Hl.none,HA,HB,HR,HD,R,RA,RG]=ρ
 have v0:ρ.i 0=a:=by rw[←hρ];rfl
 have v1:ρ.i 1=x:=by rw[←hρ];rfl
 have v2:ρ.i 2=y:=by rw[←hρ];rfl
 have v3:ρ.i 3=us.length:=by rw[←hρ];rfl
 have v4:ρ.i 4=c:=by rw[←hρ];rfl
 have v5:ρ.i 5=aa:=by rw[←hρ];rfl
 have v6:ρ.i 6=ab:=by rw[←hρ];rfl
 have v7:ρ.i 7=rx:=by rw[←hρ];rfl
 have v8:ρ.i 8=S.recs.length:=by rw[←hρ];rfl
 have v9:ρ.i 9=rc:=by rw[←hρ];rfl
 have v11:ρ.i 11=da:=by rw[←hρ];rfl
 have b10:ρ.b 10=S.over:=by rw[←hρ];rfl
 have w12:ρ.h 12=HA:=by rw[←hρ];rfl
 have w13:ρ.h 13=HB:=by rw[←hρ];rfl
 have w14:ρ.h 14=HR:=by rw[←hρ];rfl
 have w15:ρ.h 15=HD:=by rw[←hρ];rfl
 have w16:ρ.h 16=R:=by rw[←hρ];rfl
 have w17:ρ.h 17=RA:=by rw[←hρ];rfl
 have w18:ρ.h 18=RG:=by rw[←hρ];rfl
 clear hρ
 have ea:Value.pointer (ar (aa:Int) 0)=pa:=by rw[eV,hpa]
 have eb:Value.pointer (ar (ab:Int) 0)=pb:=by rw[eV,hpb]
 have eBlk:∀ (q:Env) (cs:CV) (o:E),q.i 0=a→q.i 5=aa→q.i 6=ab→(bc.aS 0 [.hptr (.var 5) (.lit 0),.hptr (.var 6) (.lit 0),cs,.bool o] 101).hl q=og a pa pb (cs.ev q) (bo q o):=by
  intro q cs o h0 h5 h6
  show Hl.one (q.i 0).toNat (.cells #[Value.pointer (ar (q.i 5) 0),Value.pointer (ar (q.i 6) 0),cs.ev q,.bool (bo q o)] _ (0,0))=_
  rw[h0,h5,h6,ea,eb,Int.toNat_natCast];rfl
 have e0:(bc.aS 0 [.hptr (.var 5) (.lit 0),.hptr (.var 6) (.lit 0),.sl (.var 7) (.lit 0) (.var 8) (.var 9),.bool (.bvar 10)] 101).hl ρ=og a pa pb sl S.over:=by
  rw[eBlk ρ _ _ v0 v5 v6,bY,b10]
  congr 1
  show Value.slice (ar (ρ.i 7) 0) (ρ.i 8).toNat (ρ.i 9).toNat=_
  rw[v7,v8,v9,Int.toNat_natCast,Int.toNat_natCast,hsl]
 refine⟨CG,ρ,fun _ q=>∃ k:Nat,q.i 60=k∧k≤rows.length∧ -1≤q.i 61∧0≤q.i 62∧0≤q.i 63∧q.b 65=false∧bF (q.h 64) (.slice (ar (q.i 61) 0) (q.i 62).toNat (q.i 63).toNat) (rows.take k),fun _ q=>(rows.length-q.i 60).toNat,?_,⟨?_,?_,?_,?_⟩,(fun _ h=>nomatch h),?_⟩
 ·show [Value.pointer (ar (ρ.i 0) 0),Value.slice (ar (ρ.i 1) (ρ.i 2)) (ρ.i 3).toNat (ρ.i 4).toNat]=_
  rw[v0,v1,v2,v3,v4,Int.toNat_natCast,Int.toNat_natCast,eV]
 ·intro r hr ho
  simp only[CG,List.mem_cons,List.mem_nil_iff,or_false]at hr
  rcases hr with rfl | rfl | rfl | rfl | rfl | rfl | rfl | rfl
  ·exact⟨H,by simp,by rw[e0];exact l1⟩
  ·exact⟨H,by simp,by show(ρ.h 12).le H;rw[w12];exact l2⟩
  ·exact⟨H,by simp,by show(ρ.h 13).le H;rw[w13];exact l3⟩
  ·exact⟨H,by simp,by show(ρ.h 14).le H;rw[w14];exact l4⟩
  ·exact⟨HD,by simp,by show(ρ.h 15).le HD;rw[w15];exact Hl.le_refl _⟩
  ·cases ho
  ·cases ho
  ·cases ho
 ·intro r hr ho
  simp only[CG,List.mem_cons,List.mem_nil_iff,or_false]at hr
  rcases hr with rfl | rfl | rfl | rfl | rfl | rfl | rfl | rfl
  ·cases ho
  ·cases ho
  ·cases ho
  ·cases ho
  ·cases ho
  ·exact⟨R,by simp,by show(ρ.h 16).le R;rw[w16];exact Hl.le_refl _⟩
  ·exact⟨RA,by simp,by show(ρ.h 17).le RA;rw[w17];exact Hl.le_refl _⟩
  ·exact⟨RG,by simp,by show(ρ.h 18).le RG;rw[w18];exact Hl.le_refl _⟩
 ·have dD:∀ K:Hl,K.le H→K.ch HD:=fun K hK=>Hl.gJ (Hl.ud (Hl.gJ hHD) hK)
  have mem4:CG.mem=[.aS 0 [.hptr (.var 5) (.lit 0),.hptr (.var 6) (.lit 0),.sl (.var 7) (.lit 0) (.var 8) (.var 9),.bool (.bvar 10)] 101,.hp 12 [] [.var 5] [.var 11],.hp 13 [] [.var 6] [.var 11],.hp 14 [] [.var 7] [],.hp 15 [] [.var 11] [],.ro 16 [.var 1] false,.ro 17 [] true,.ro 18 [.lit 0,.lit 1,.lit 2] false]:=rfl
  rw[mem4]
  have ro3:∀ (l:Mem),(∀ r∈l,r.own=false)→∀ K:bc,∀ r∈l,K.own=true→r.own=true→(K.hl ρ).ch (r.hl ρ):=fun l h K r hr _ ho=>by rw[h r hr]at ho;cases ho
  have hro:∀ r∈([.ro 16 [.var 1] false,.ro 17 [] true,.ro 18 [.lit 0,.lit 1,.lit 2] false]:Mem),r.own=false:=by
   intro r hr
   simp only[List.mem_cons,List.mem_nil_iff,or_false]at hr
   rcases hr with rfl | rfl | rfl<;>rfl
  refine List.Pairwise.cons (fun r hr hk ho=>?_) (List.Pairwise.cons (fun r hr hk ho=>?_) (List.Pairwise.cons (fun r hr hk ho=>?_) (List.Pairwise.cons (fun r hr hk ho=>?_) (List.Pairwise.cons (fun r hr hk ho=>ro3 _ hro _ r hr hk ho) (List.Pairwise.cons (fun r hr hk ho=>by cases hk) (List.Pairwise.cons (fun r hr hk ho=>by cases hk) (List.Pairwise.cons (fun r hr=>by cases hr) List.Pairwise.nil)))))))
  ·rw[e0]
   rw[List.mem_cons,List.mem_cons,List.mem_cons,List.mem_cons]at hr
   rcases hr with rfl | rfl | rfl | rfl | hr
   ·show(og a pa pb sl S.over).ch (ρ.h 12);rw[w12];exact hIn.d1
   ·show(og a pa pb sl S.over).ch (ρ.h 13);rw[w13];exact hIn.d2
   ·show(og a pa pb sl S.over).ch (ρ.h 14);rw[w14];exact hIn.d3
   ·show(og a pa pb sl S.over).ch (ρ.h 15);rw[w15];exact dD _ l1
   ·rw[hro r hr]at ho;cases ho
  ·rw[List.mem_cons,List.mem_cons,List.mem_cons]at hr
   show(ρ.h 12).ch _
   rw[w12]
   rcases hr with rfl | rfl | rfl | hr
   ·show HA.ch (ρ.h 13);rw[w13];exact hIn.d4
   ·show HA.ch (ρ.h 14);rw[w14];exact hIn.d5
   ·show HA.ch (ρ.h 15);rw[w15];exact dD _ l2
   ·rw[hro r hr]at ho;cases ho
  ·rw[List.mem_cons,List.mem_cons]at hr
   show(ρ.h 13).ch _
   rw[w13]
   rcases hr with rfl | rfl | hr
   ·show HB.ch (ρ.h 14);rw[w14];exact hIn.d6
   ·show HB.ch (ρ.h 15);rw[w15];exact dD _ l3
   ·rw[hro r hr]at ho;cases ho
  ·rw[List.mem_cons]at hr
   show(ρ.h 14).ch _
   rw[w14]
   rcases hr with rfl | hr
   ·show HR.ch (ρ.h 15);rw[w15];exact dD _ l4
   ·rw[hro r hr]at ho;cases ho
 ·intro r hr
  simp only[CG,List.mem_cons,List.mem_nil_iff,or_false]at hr
  rcases hr with rfl | rfl | rfl | rfl | rfl | rfl | rfl | rfl
  ·show(0:Int)≤ρ.i 0;omega
  all_goals trivial
 ·show Nd.holds _ _ _ CF
  have fin0:∀ (q:Env) (hM hR hK:Nat) (vL vM vR vK:List Nat) (rL rM rR rK kL kM kR kK:List E) (cs:CV) (o rv:E) (t:Mem),ae 19 ρ q→(bP D S rows).S.LA=S.LA∧(bP D S rows).S.bA=S.bA →
   bW (q.h hM) pb dp (bP D S rows).S.LB (bP D S rows).S.bB→bF (q.h hR) (cs.ev q) (bP D S rows).S.recs→bo q o=(bP D S rows).S.over→aj (q.h hK) dp (bP D S rows).D→ak q rv=(bP D S rows).e →
   postOf tY [.pointer (some ⟨a,0,none⟩),.slice (ar x y) us.length c] [H,HD] [R,RA,RG] q (.aS 0 [.hptr (.var 5) (.lit 0),.hptr (.var 6) (.lit 0),cs,.bool o] 101::.hp 12 vL rL kL::.hp hM vM rM kM::.hp hR vR rR kR::.hp hK vK rK kK::t) (.sv (.one (.int .i64 rv))):=by
   intro q hM hR hK vL vM vR vK rL rM rR rK kL kM kR kK cs o rv t hg hSA hMq hRq hoq hDq heq hd
   have eq0:=eBlk q cs o (by rw[hg.i 0 (by omega),v0]) (by rw[hg.i 5 (by omega),v5]) (by rw[hg.i 6 (by omega),v6])
   rw[hoq]at eq0
   refine⟨[[0,1,2,3],[4]],[],rfl,rfl,⟨⟨fun _=>(bP D S rows).e,fun _=>false,fun _=>.empty,fun _=>.tuple #[],fun _=>Hl.none⟩,?_,trivial,trivial⟩,_,_,H,HD,R,RA,RG,dp,S,D,rows,_,_,rfl,rfl,rfl,hAt,hD,hB,rfl,?_,?_,?_⟩
   ·show Value.int .i64 (ak q rv)=.int .i64 (bP D S rows).e
    rw[heq]
   ·show aj (dF [q.h hK]) _ _
    rw[bp];exact hDq
   ·refine⟨a,pa,pb,cs.ev q,q.h 12,q.h hM,q.h hR,rfl,?_,hMq,hRq,?_,?_,?_,hd 1 2 _ _ (by decide) rfl rfl rfl,hd 1 3 _ _ (by decide) rfl rfl rfl,hd 2 3 _ _ (by decide) rfl rfl rfl,?_⟩
    ·rw[hSA.1,hSA.2,hg.h 12 (by omega),w12];exact hIn.la
    ·rw[←eq0];exact hd 0 1 _ _ (by decide) rfl rfl rfl
    ·rw[←eq0];exact hd 0 2 _ _ (by decide) rfl rfl rfl
    ·rw[←eq0];exact hd 0 3 _ _ (by decide) rfl rfl rfl
    ·rw[←eq0];rfl
   ·show Value.int .i64 (ak q rv)=.int .i64 (bP D S rows).e
    rw[heq]
  have fin1:∀ (q:Env) (hM hR hK:Nat) (vL vM vR vK:List Nat) (rL rM rR rK kL kM kR kK:List E) (cs:CV) (o rv:E) (t:Mem),ae 19 ρ q→(bP D S rows).S.LB=S.LA∧(bP D S rows).S.bB=S.bA →
   bW (q.h hM) pb dp (bP D S rows).S.LA (bP D S rows).S.bA→bF (q.h hR) (cs.ev q) (bP D S rows).S.recs→bo q o=(bP D S rows).S.over→aj (q.h hK) dp (bP D S rows).D→ak q rv=(bP D S rows).e →
   postOf tY [.pointer (some ⟨a,0,none⟩),.slice (ar x y) us.length c] [H,HD] [R,RA,RG] q (.aS 0 [.hptr (.var 6) (.lit 0),.hptr (.var 5) (.lit 0),cs,.bool o] 101::.hp 12 vL rL kL::.hp hM vM rM kM::.hp hR vR rR kR::.hp hK vK rK kK::t) (.sv (.one (.int .i64 rv))):=by
   intro q hM hR hK vL vM vR vK rL rM rR rK kL kM kR kK cs o rv t hg hSA hMq hRq hoq hDq heq hd
   have eq0:(bc.aS 0 [.hptr (.var 6) (.lit 0),.hptr (.var 5) (.lit 0),cs,.bool o] 101).hl q=og a pb pa (cs.ev q) (bo q o):=by
    show Hl.one (q.i 0).toNat (.cells #[Value.pointer (ar (q.i 6) 0),Value.pointer (ar (q.i 5) 0),cs.ev q,.bool (bo q o)] _ (0,0))=_
    rw[hg.i 0 (by omega),hg.i 5 (by omega),hg.i 6 (by omega),v0,v5,v6,ea,eb,Int.toNat_natCast];rfl
   rw[hoq]at eq0
   refine⟨[[0,2,1,3],[4]],[],rfl,rfl,⟨⟨fun _=>(bP D S rows).e,fun _=>false,fun _=>.empty,fun _=>.tuple #[],fun _=>Hl.none⟩,?_,trivial,trivial⟩,_,_,H,HD,R,RA,RG,dp,S,D,rows,_,_,rfl,rfl,rfl,hAt,hD,hB,rfl,?_,?_,?_⟩
   ·show Value.int .i64 (ak q rv)=.int .i64 (bP D S rows).e
    rw[heq]
   ·show aj (dF [q.h hK]) _ _
    rw[bp];exact hDq
   ·refine⟨a,pb,pa,cs.ev q,q.h hM,q.h 12,q.h hR,rfl,hMq,?_,hRq,?_,?_,?_,hd 2 1 _ _ (by decide) rfl rfl rfl,hd 2 3 _ _ (by decide) rfl rfl rfl,hd 1 3 _ _ (by decide) rfl rfl rfl,?_⟩
    ·rw[hSA.1,hSA.2,hg.h 12 (by omega),w12];exact hIn.la
    ·rw[←eq0];exact hd 0 2 _ _ (by decide) rfl rfl rfl
    ·rw[←eq0];exact hd 0 1 _ _ (by decide) rfl rfl rfl
    ·rw[←eq0];exact hd 0 3 _ _ (by decide) rfl rfl rfl
    ·rw[←eq0];rfl
   ·show Value.int .i64 (ak q rv)=.int .i64 (bP D S rows).e
    rw[heq]
  unfold CF
  simp only[Nd.holds,X.pre,X.rel,X.n,Src.ok,Src.len,Src.bS,true_and,and_true,if_true,Nat.mul_one,Nat.add_zero,Nat.reduceAdd,List.length_cons,List.length_nil,bN,bK,aP,ba,bb,bM,bj,bJ,bI,bD,bd,bk,bL,bg,bf,aQ,bh,ah,ai,aE,aI,aK,ax,aF,aV,aT,au,aO,aC,aN,aB,TV.ev,SV.ev,CV.ev,List.map_cons,List.map_nil,bc.hl,df,Cp.sv,Ck.cv,ct,Cp.len,Ck.len,aU,bm,bC,IJ,IK,IL,IM,IN,IP,IQ,G',Ha,IS,IT,Hd,He,FL,GC,Ir]
  have evs:Value.slice (ar (ρ.i 7) 0) (ρ.i 8).toNat (ρ.i 9).toNat=sl:=by rw[v7,v8,v9,Int.toNat_natCast,Int.toNat_natCast,hsl]
  have keepL:∀ q:Env,ae 19 ρ q→bW (q.h 12) pa dp S.LA S.bA∧bW (q.h 13) pb dp S.LB S.bB∧bF (q.h 14) (CV.ev q (.sl (.var 7) (.lit 0) (.var 8) (.var 9))) S.recs∧bo q (.bvar 10)=S.over∧aj (q.h 15) dp D:=by
   intro q hg
   refine⟨by rw[hg.h 12 (by omega),w12];exact hIn.la,by rw[hg.h 13 (by omega),w13];exact hIn.lb,?_,by rw[bY,hg.b 10 (by omega),b10],by rw[hg.h 15 (by omega),w15];exact hD⟩
   show bF (q.h 14) (.slice (ar (q.i 7) 0) (q.i 8).toNat (q.i 9).toNat) _
   rw[hg.h 14 (by omega),hg.i 7 (by omega),hg.i 8 (by omega),hg.i 9 (by omega),w14,evs]
   exact hIn.rows
  have same:∀ (q:Env) (e:Int) (rv:E) (t:Mem),ae 19 ρ q→bP D S rows=⟨e,D,S⟩→ak q rv=e→postOf tY [.pointer (some ⟨a,0,none⟩),.slice (ar x y) us.length c] [H,HD] [R,RA,RG] q (.aS 0 [.hptr (.var 5) (.lit 0),.hptr (.var 6) (.lit 0),.sl (.var 7) (.lit 0) (.var 8) (.var 9),.bool (.bvar 10)] 101::.hp 12 [] [.var 5] [.var 11]::.hp 13 [] [.var 6] [.var 11]::.hp 14 [] [.var 7] []::.hp 15 [] [.var 11] []::t) (.sv (.one (.int .i64 rv))):=by
   intro q e rv t hg he hrv
   obtain⟨k1,k1',k2,k3,k4⟩:=keepL q hg
   exact fin0 q 13 14 15 _ _ _ _ _ _ _ _ _ _ _ _ _ _ rv t hg (by rw[he];exact⟨rfl,rfl⟩) (by rw[he];exact k1') (by rw[he];exact k2) (by rw[he];exact k3) (by rw[he];exact k4) (by rw[he];exact hrv)
  have hp0:Value.pointer (ar (ρ.i 0) 0)=.pointer (some ⟨a,0,none⟩):=by rw[v0,eV]
  have hv0:Value.slice (ar (ρ.i 1) (ρ.i 2)) (ρ.i 3).toNat (ρ.i 4).toNat=.slice (ar x y) us.length c:=by rw[v1,v2,v3,v4,Int.toNat_natCast,Int.toNat_natCast]
  have hc0:(og a pa pb sl S.over).cell a 0=some pa:=by unfold og;rw[Hl.one_cell];rfl
  have hc1:(og a pa pb sl S.over).cell a 1=some pb:=by unfold og;rw[Hl.one_cell];rfl
  have hc3:(og a pa pb sl S.over).cell a 3=some (.bool S.over):=by unfold og;rw[Hl.one_cell];rfl
  have e0':∀ q:Env,ae 19 ρ q→Hl.one (q.i 0).toNat (.cells #[Value.pointer (ar (q.i 5) 0),Value.pointer (ar (q.i 6) 0),Value.slice (ar (q.i 7) 0) (q.i 8).toNat (q.i 9).toNat,Value.bool (bo q (.bvar 10))] 101 (0,0))=og a pa pb sl S.over:=fun q hg=>by
   rw[bY,hg.i 0 (by omega),hg.i 5 (by omega),hg.i 6 (by omega),hg.i 7 (by omega),hg.i 8 (by omega),hg.i 9 (by omega),hg.b 10 (by omega)]
   exact e0
  rw[hp0,hv0,e0' ρ (ae.refl _ _),w16,w17]
  refine⟨⟨_,_,a,S.over,_,R,RA,rows,rfl,rfl,rfl,hc3,hB,hlen,hrow⟩,fun q1 g1 ⟨F1,hp1,hF1,hn1⟩=>?_⟩
  obtain⟨u1,e1,hv1,hE1,hO1⟩:=ru hc3 hB hp1
  simp only[Value.tuple.injEq,Array.mk.injEq,List.cons.injEq,Value.int.injEq,true_and,and_true]at hv1
  obtain⟨eu,ee⟩:=hv1
  have hn19:-1≤q1.i 19∧0≤q1.i 20∧0≤q1.i 21∧0≤q1.i 22:=hn1.1
  refine⟨fun h23=>same q1 (q1.i 23) _ _ g1 ?_ (ai _ _),fun h23=>?_⟩
  ·rw[ee]at h23 ⊢
   unfold bP
   cases ho:S.over with
   | true=>rw[if_pos rfl,hE1.1 ho]
   | false =>
    rw[if_neg (by simp)]
    by_cases hk:cC rows
    ·exact absurd (hE1.2.1 ho hk) h23
    ·rw[if_pos hk,hE1.2.2 ho hk]
  have he0:e1=0:=by rw[←ee];exact h23
  have ho:¬S.over=true:=fun h=>by have:=hE1.1 h;omega
  have hof:S.over=false:=Bool.eq_false_iff.2 ho
  have hk:cC rows:=Classical.byContradiction fun h=>by have:=hE1.2.2 hof h;omega
  have hOw:dA (q1.h 19) 5 (.slice (ar (q1.i 19) (q1.i 20)) (q1.i 21).toNat (q1.i 22).toNat) (aD rows):=by rw[hF1 trivial,eu];exact hO1 he0
  have h21:q1.i 21=(aD rows).length:=(hOw.rd.at hn19.1 hn19.2.1 hn19.2.2.1).1
  have hpb':∀ q:Env,ae 19 ρ q→Value.pointer (ar (q.i 6) 0)=pb:=fun q hg=>by rw[hg.i 6 (by omega),v6,eb]
  have kB:∀ q:Env,ae 19 ρ q→bW (q.h 13) pb dp S.LB S.bB:=fun q hg=>(keepL q hg).2.1
  rw[hpb' q1 g1]
  refine⟨hn19.2.2.1,rB (kB q1 g1).rd hbB,fun q2 g2 ⟨F2,hp2,_⟩=>?_⟩
  have G2:ae 19 ρ q2:=g1.trans (g2.mono (by omega))
  have h24:q2.i 24=S.LB.most-S.bB.length:=uT (od (kB q1 g1).rd hp2)
  rw[hpb' q2 G2]
  refine⟨nL (kB q2 G2).rd hbB,fun q3 g3 ⟨F3,hp3,hF3,hn3⟩=>?_⟩
  have G3:ae 19 ρ q3:=G2.trans (g3.mono (by omega))
  have hO3:=lW (kB q2 G2).rd hp3
  have hn25:-1≤q3.i 25∧0≤q3.i 26∧0≤q3.i 27∧0≤q3.i 28:=hn3.1
  have h27:q3.i 27=S.bB.length:=(hO3.rd.at hn25.1 hn25.2.1 hn25.2.2.1).1
  have hmost:-9223372036854775808≤S.LB.most∧S.LB.most≤9223372036854775807:=by obtain⟨_,⟨_,_,hLi⟩,_⟩:=hIn.lb.rd;have:=hLi.1.most;omega
  have hw:IntKind.i64.wrap (q3.i 24+q3.i 27)=S.LB.most:=by rw[g3.i 24 (by omega),h24,h27,show S.LB.most-(S.bB.length:Int)+S.bB.length=S.LB.most by omega];exact wrap_i64 (by omega) (by omega)
  have A13:ae 24 q1 q3:=g2.trans (g3.mono (by omega))
  refine⟨hn25.2.2.1,fun hlt=>same q3 4 _ _ G3 ?_ (ah _ _),fun hge=>?_⟩
  ·rw[hw,A13.i 21 (by omega),h21]at hlt
   unfold bP
   rw[if_neg ho,if_neg (fun h=>h hk),if_pos hlt]
  rw[hw,A13.i 21 (by omega),h21]at hge
  have hAdd:bP D S rows=jY S rows (dr D (bU S.LA) S.LB S.bB (aD rows)):=by
   unfold bP
   rw[if_neg ho,if_neg (fun h=>h hk),if_neg hge]
  have hRd3:fw (q3.h 19) (.slice (ar (q3.i 19) (q3.i 20)) (q3.i 21).toNat (q3.i 22).toNat) (aD rows):=by
   rw[A13.h 19 (by omega),A13.i 19 (by omega),A13.i 20 (by omega),A13.i 21 (by omega),A13.i 22 (by omega)]
   exact hOw.rd.w
  obtain⟨k12,k13,_,_,kD3⟩:=keepL q3 G3
  rw[show Value.pointer (ar (q3.i 0) 0)=.pointer (some ⟨a,0,none⟩)by rw[G3.i 0 (by omega),v0,eV],e0' q3 G3,G3.h 18 (by omega),w18]
  refine⟨⟨a,pa,pb,_,q3.h 13,q3.h 15,_,q3.h 12,q3.h 19,RG,g,dp,S.LA,S.bA,S.LB,S.bB,D,aD rows,rfl,rfl,rfl,hc0,hc1,k12.rd,k13,kD3,hRd3,hG,hs0,hs1,hs2,hs3,hbB⟩,fun q4 g4 ⟨F4,hp4,_⟩=>?_⟩
  obtain⟨HB4,HD4,hK,hD4,hB4,hE4⟩:=hp4 a pa pb _ _ _ _ _ _ _ g dp S.LA S.bA S.LB S.bB D (aD rows) rfl rfl rfl hc0 hc1 k12.rd k13 kD3 hRd3 hG
  have hK:[q4.h 29,q4.h 30]=[HB4,HD4]:=hK
  simp only[List.cons.injEq,and_true]at hK
  obtain⟨rfl,rfl⟩:=hK
  generalize hr:dr D (bU S.LA) S.LB S.bB (aD rows)=r at hAdd hD4 hB4 hE4
  have eN:¬fS r.e=0→bP D S rows=⟨fS r.e,r.D,⟨S.LA,S.bA,r.L,r.bs,S.recs,if r.e≠0∧gi r.e=fO then true else S.over⟩⟩:=fun h=>by rw[hAdd];unfold jY;rw[if_neg h]
  have eZ:fS r.e=0→bP D S rows=⟨0,r.D,⟨r.L,r.bs,S.LA,S.bA,rows,S.over⟩⟩:=fun h=>by rw[hAdd];unfold jY;rw[if_pos h]
  have G4:ae 19 ρ q4:=G3.trans (g4.mono (by omega))
  have cL:RG.cell (Int.toNat 0) (Int.toNat 0)=some (gv g fO):=hG.cell fO (Or.inl rfl)
  rw[G4.h 18 (by omega),w18,cL]
  refine⟨rfl,⟨_,_,RG,g,r.e,fO,rfl,rfl,hG,hE4,Or.inl rfl,rfl⟩,fun q6 g6 ⟨F6,hp6,_⟩=>?_⟩
  have r6:=ux hG hE4 (Or.inl rfl) hp6
  rw[r6]
  have G6:ae 19 ρ q6:=G4.trans (g6.mono (by omega))
  have hE6:gh g (q6.v 29) r.e:=by rw[g6.v 29 (by omega)];exact hE4
  have num:∀ (q7:Env),ae 33 q6 q7→(∃ F,gC.post [q6.v 29] [] [RG] (.int .i64 (q7.i 33)) [] F∧(bO 0 [Cp.one (Ck.int .i64)]≠[]→q7.h 33=F)∧dN 33 [Cp.one (Ck.int .i64)] q7)→q7.i 33=fS r.e∧ae 19 ρ q7∧ae 32 q4 q7:=by
   intro q7 g7 ⟨F7,⟨e7,R7,x1,x2,h7⟩,_⟩
   simp only[List.cons.injEq,and_true]at x1 x2
   subst x1 x2
   have:=h7 g r.e hG hE6
   exact⟨by simpa using this,G6.trans (g7.mono (by omega)),g6.trans (g7.mono (by omega))⟩
  rw[G6.h 18 (by omega),w18]
  refine⟨fun hcl=>⟨⟨_,RG,g,r.e,rfl,rfl,hG,hE6⟩,fun q7 g7 hq7=>?_⟩,fun hcl=>⟨⟨_,RG,g,r.e,rfl,rfl,hG,hE6⟩,fun q7 g7 hq7=>?_⟩⟩
  ·obtain⟨hn33,G7,G47⟩:=num q7 g7 hq7
   have hnz:¬fS r.e=0:=by
    unfold fS
    rw[if_neg hcl.1,if_neg (by rw[hcl.2];decide),if_neg (by rw[hcl.2];decide)]
    decide
   refine⟨fun _=>?_,fun h=>absurd (hn33.symm.trans h) hnz⟩
   refine fin0 q7 29 14 30 _ _ _ _ _ _ _ _ _ _ _ _ (.sl (.var 7) (.lit 0) (.var 8) (.var 9)) _ _ _ G7 ?_ ?_ ?_ ?_ ?_ ?_
   ·rw[eN hnz];exact⟨rfl,rfl⟩
   ·rw[eN hnz,G47.h 29 (by omega)];exact hB4
   ·rw[eN hnz];exact(keepL q7 G7).2.2.1
   ·rw[eN hnz]
    show true=(if _ then true else S.over)
    rw[if_pos hcl]
   ·rw[eN hnz,G47.h 30 (by omega)];exact hD4
   ·rw[eN hnz,ai,hn33]
  ·obtain⟨hn33,G7,G47⟩:=num q7 g7 hq7
   refine⟨fun hnz=>?_,fun h33=>?_⟩
   ·have hnz:¬fS r.e=0:=fun h=>hnz (hn33.trans h)
    refine fin0 q7 29 14 30 _ _ _ _ _ _ _ _ _ _ _ _ (.sl (.var 7) (.lit 0) (.var 8) (.var 9)) _ _ _ G7 ?_ ?_ ?_ ?_ ?_ ?_
    ·rw[eN hnz];exact⟨rfl,rfl⟩
    ·rw[eN hnz,G47.h 29 (by omega)];exact hB4
    ·rw[eN hnz];exact(keepL q7 G7).2.2.1
    ·rw[eN hnz,(keepL q7 G7).2.2.2.1]
     show S.over=(if _ then true else S.over)
     rw[if_neg hcl]
    ·rw[eN hnz,G47.h 30 (by omega)];exact hD4
    ·rw[eN hnz,ai,hn33]
   ·clear num
    have hz:fS r.e=0:=hn33.symm.trans h33
    have eR:=eZ hz
    rw[G7.i 3 (by omega),v3]
    refine⟨by omega,⟨0,rfl,Nat.zero_le _,Int.le_refl (-1),Int.le_refl 0,Int.le_refl 0,?_,bF.nil _⟩,fun q8 g8 ⟨k,ek,hkl,x61,x62,x63,b65,hRk⟩=>?_⟩
    ·show bo q7 (.bvar 10)=false
     rw[bY,G7.b 10 (by omega),b10,hof]
    have G8:ae 19 ρ q8:=G7.trans (g8.mono (by omega))
    have h62:q8.i 62=k:=by
     have:=(hRk.at x61 x62).1
     rw[List.length_take]at this
     omega
    rw[G8.i 1 (by omega),G8.i 2 (by omega),G8.i 3 (by omega),G8.h 16 (by omega),G8.h 17 (by omega),v1,v2,v3,w16,w17,ek]
    refine⟨fun hlt=>?_,fun hge=>?_⟩
    ·have hkr:k<rows.length:=by omega
     have hrk:rows[k]?=some rows[k]:=List.getElem?_eq_getElem hkr
     have hu:us[k]?=some us[k]:=List.getElem?_eq_getElem (by omega)
     obtain⟨hx0,hc⟩:=hcell k _ hu
     have hRr:=hrd k _ _ hu hrk
     have hsl:∃ a l c,us[k]=Value.slice a l c:=(fw.parts hRr).1
     have hck:R.cell x.toNat (y+(k:Int)).toNat=some us[k]:=by rw[show(y+(k:Int)).toNat=y.toNat+k by omega];exact hc
     rw[hck,iA hsl]
     refine⟨hx0,hy,by omega,by obtain⟨_,_,_,e⟩:=hsl;rw[e];rfl,⟨_,_,RA,rfl,rfl,hRr,Nat.le_trans (hk _ (List.getElem_mem _)) (by decide)⟩,fun q9 g9 ⟨F9,⟨u9,bs9,R9,x1,x2,hR9,hO9⟩,hF9,hn9⟩ q10 g10 _ q11 g11 ⟨e11,hd11⟩=>?_⟩
     simp only[List.cons.injEq,and_true]at x1 x2
     subst x1 x2
     obtain rfl:=hRr.uniq hR9
     rw[←hF9 trivial]at hO9
     have hn9:-1≤q9.i 66∧0≤q9.i 67∧0≤q9.i 68∧0≤q9.i 69:=hn9.1
     have G10:ae 66 q8 q10:=g9.trans (g10.mono (by omega))
     have G11:ae 66 q8 q11:=G10.trans (g11.mono (by omega))
     have G9:ae 70 q9 q11:=g10.trans (g11.mono (by omega))
     have hu9:iS (q10.h 66) none (.slice (ar (q11.i 66) (q11.i 67)) (q11.i 68).toNat (q11.i 69).toNat) rows[k]:=by
      rw[g10.h 66 (by omega),G9.i 66 (by omega),G9.i 67 (by omega),G9.i 68 (by omega),G9.i 69 (by omega)]
      exact iS.of hO9.rd.w hn9.1 hn9.2.1
     rw[e11,G10.h 64 (by omega),G11.i 61 (by omega),G11.i 62 (by omega),G11.i 63 (by omega)]
     rw[G10.h 64 (by omega)]at hd11
     have hpre:∃ xs,bR ((q8.h 64).un (q10.h 66)) 46 1 (.slice (ar (q8.i 61) 0) (q8.i 62).toNat (q8.i 63).toNat) (q8.i 62).toNat xs:=by
      obtain⟨us',ho',_⟩:=hRk
      rw[show(q8.i 62).toNat=(rows.take k).length by rw[List.length_take];omega]at ho' ⊢
      exact⟨us',ho'.mono (Hl.e8 _ _)⟩
     refine⟨⟨hpre,x62,by unfold maxLen;omega,by omega⟩,fun q12 g12 ⟨a1,a2,happ,hkp,_,hnw⟩=>?_⟩
     have G12:ae 66 q8 q12:=G11.trans (g12.mono (by omega))
     have hrows:=lA hRk x61 x62 hd11 hu9 a1 happ hkp hnw
     have e62:q12.i 62+1=q8.i 62+1:=by rw[G12.i 62 (by omega)]
     have e60:q12.i 60=k:=by rw[G12.i 60 (by omega),ek]
     have w60:IntKind.i64.wrap (q12.i 60+1)=(k:Int)+1:=by rw[e60];exact wrap_i64 (by omega) (by omega)
     refine⟨⟨k+1,?_,by omega,a1,?_,a2,?_,?_⟩,?_⟩
     ·show IntKind.i64.wrap (q12.i 60+1)=_
      rw[w60];rfl
     ·show 0≤q12.i 62+1
      omega
     ·show q12.b 65=false
      rw[G12.b 65 (by omega)];exact b65
     ·show bF (q12.h 72) (.slice (ar (q12.i 72) 0) (q12.i 62+1).toNat (q12.i 73).toNat) _
      rw[e62,List.take_add_one,hrk,Option.toList_some];exact hrows
     ·show((rows.length:Int)-IntKind.i64.wrap (q12.i 60+1)).toNat<_
      rw[w60];omega
    ·have hke:k=rows.length:=by omega
     subst hke
     rw[List.take_length]at hRk
     refine fin1 q8 29 64 30 _ _ _ _ _ _ _ _ _ _ _ _ (.sl (.var 61) (.lit 0) (.var 62) (.var 63)) _ _ _ G8 ?_ ?_ ?_ ?_ ?_ ?_
     ·rw[eR];exact⟨rfl,rfl⟩
     ·rw[eR,g8.h 29 (by omega),G47.h 29 (by omega)];exact hB4
     ·rw[eR];exact hRk
     ·rw[bY,b65,eR];exact hof.symm
     ·rw[eR,g8.h 30 (by omega),G47.h 30 (by omega)];exact hD4
     ·rw[eR,ah]
end Go.Proofs.YtomdimlnggpgbaaGreatDoor
namespace Go.Proofs.YtomdimlnggpgbaaGreatDoor
open Go Go.Sx Go.Pk
open Go.Proofs.YtomdimlnggpgbaaGreatDoor.D hiding bx aH hJ
theorem bF.b {F:Hl} {v:Value} {rows:List (List Int)} (h:bF F v rows):bu F F v rows:=by
 obtain⟨rx,rc,hrx,rfl⟩:=h.rep
 obtain⟨us,ho,hr⟩:=id h
 have hul:=bF.len ho
 refine⟨us,rx,0,rc,by rw[hul],Int.le_refl _,hul,fun j u hu=>?_,fun j u r hu hrr=>(hr j u r hu hrr).rd⟩
 have hj:j<rows.length:=by have:=(List.getElem?_eq_some_iff.1 hu).1;omega
 have:=bR.cellAt (l:=(rows.length:Int)) (c:=(rc:Int)) (by rw[Int.toNat_natCast,Int.toNat_natCast];exact ho) hrx hj
 exact⟨this.1,by rw[Int.toNat_zero,Nat.zero_add,this.2,hu]⟩
def uV:Sx.Spec where
 fn:=19
 own:=[]
 rd:=[0,1]
 res:=[.one .bool]
 pre:=fun xs Hs Rs=>∃ a b R1 R2 ra rb,xs=[a,b]∧Rs=[R1,R2]∧bu R1 R1 a ra∧bu R2 R2 b rb∧ra.length≤1000000000
 post:=fun xs Hs Rs v Hs' F=>∃ a b R1 R2 ra rb z,xs=[a,b]∧Rs=[R1,R2]∧bu R1 R1 a ra∧bu R2 R2 b rb∧v=.bool z∧(ra=rb→z=true)
def uU:Nd:=.and (.e (.le (.lit 0) (.var 2))) (.and (.e (.le (.lit 0) (.var 6))) (.and (.imp (.not (.eq (.var 2) (.var 6))) (.post [.ro 8 [.var 0] true,.ro 9 [.var 4] true] (.sv (.one (.bool .ff))))) (.imp (.eq (.var 2) (.var 6)) (.and (.inv 0 [⟨50,0,.int .i64 (.lit 0)⟩] []) (.havoc 0 0 10 (.and (.imp (.lt (.var 50) (.var 2)) (.and (.e (.le (.lit 0) (.var 0))) (.and (.e (.le (.lit 0) (.var 1))) (.and (.e (.le (.lit 0) (.var 50))) (.and (.e (.his 8 (.var 0) (.add (.var 1) (.var 50)) 0 .slice)) (.and (.e (.or (.eq (.hP 8 (.var 0) (.add (.var 1) (.var 50)) 0 0) (.lit (-1))) (.or (.eq (.hP 8 (.var 0) (.add (.var 1) (.var 50)) 0 2) (.lit 0)) (.and (.le (.lit 0) (.hP 8 (.var 0) (.add (.var 1) (.var 50)) 0 0)) (.and (.le (.lit 0) (.hP 8 (.var 0) (.add (.var 1) (.var 50)) 0 1)) (.hby 8 (.hP 8 (.var 0) (.add (.var 1) (.var 50)) 0 0) (.hP 8 (.var 0) (.add (.var 1) (.var 50)) 0 1) (.hP 8 (.var 0) (.add (.var 1) (.var 50)) 0 2))))))) (.and (.e (.le (.lit 0) (.var 4))) (.and (.e (.le (.lit 0) (.var 5))) (.and (.e (.lt (.var 50) (.var 6))) (.and (.e (.his 9 (.var 4) (.add (.var 5) (.var 50)) 0 .slice)) (.and (.e (.or (.eq (.hP 9 (.var 4) (.add (.var 5) (.var 50)) 0 0) (.lit (-1))) (.or (.eq (.hP 9 (.var 4) (.add (.var 5) (.var 50)) 0 2) (.lit 0)) (.and (.le (.lit 0) (.hP 9 (.var 4) (.add (.var 5) (.var 50)) 0 0)) (.and (.le (.lit 0) (.hP 9 (.var 4) (.add (.var 5) (.var 50)) 0 1)) (.hby 9 (.hP 9 (.var 4) (.add (.var 5) (.var 50)) 0 0) (.hP 9 (.var 4) (.add (.var 5) (.var 50)) 0 1) (.hP 9 (.var 4) (.add (.var 5) (.var 50)) 0 2))))))) (.and (.imp (.not (.seq (.ite (.eq (.hP 8 (.var 0) (.add (.var 1) (.var 50)) 0 0) (.lit (-1))) (.slit ⟨#[]⟩) (.sof 8 (.hP 8 (.var 0) (.add (.var 1) (.var 50)) 0 0) (.hP 8 (.var 0) (.add (.var 1) (.var 50)) 0 1) (.hP 8 (.var 0) (.add (.var 1) (.var 50)) 0 2))) (.ite (.eq (.hP 9 (.var 4) (.add (.var 5) (.var 50)) 0 0) (.lit (-1))) (.slit ⟨#[]⟩) (.sof 9 (.hP 9 (.var 4) (.add (.var 5) (.var 50)) 0 0) (.hP 9 (.var 4) (.add (.var 5) (.var 50)) 0 1) (.hP 9 (.var 4) (.add (.var 5) (.var 50)) 0 2))))) (.post [.ro 8 [.var 0] true,.ro 9 [.var 4] true] (.sv (.one (.bool .ff))))) (.imp (.seq (.ite (.eq (.hP 8 (.var 0) (.add (.var 1) (.var 50)) 0 0) (.lit (-1))) (.slit ⟨#[]⟩) (.sof 8 (.hP 8 (.var 0) (.add (.var 1) (.var 50)) 0 0) (.hP 8 (.var 0) (.add (.var 1) (.var 50)) 0 1) (.hP 8 (.var 0) (.add (.var 1) (.var 50)) 0 2))) (.ite (.eq (.hP 9 (.var 4) (.add (.var 5) (.var 50)) 0 0) (.lit (-1))) (.slit ⟨#[]⟩) (.sof 9 (.hP 9 (.var 4) (.add (.var 5) (.var 50)) 0 0) (.hP 9 (.var 4) (.add (.var 5) (.var 50)) 0 1) (.hP 9 (.var 4) (.add (.var 5) (.var 50)) 0 2)))) (.back 0 0 [⟨50,0,.int .i64 (.wrap .i64 (.add (.var 50) (.lit 1)))⟩] [])))))))))))))) (.imp (.not (.lt (.var 50) (.var 2))) (.post [.ro 8 [.var 0] true,.ro 9 [.var 4] true] (.sv (.one (.bool .tt)))))))))))
def rC:cy Tryz.prog [] uV.fn where
 Λ:=fun p=>if ES p then some ⟨0,[(5,TI .i64 (.var 50))],[],60⟩else none
 args:=[.sv (.one (.sl (.var 0) (.var 1) (.var 2) (.var 3))),.sv (.one (.sl (.var 4) (.var 5) (.var 6) (.var 7)))]
 mem:=[.ro 8 [.var 0] true,.ro 9 [.var 4] true]
 nv:=10
 nd:=uU
 ok:=by kernel_rfl
theorem BO:uV.OK Tryz.prog:=by
 refine Spec.b8 (Γ:=[]) (fun _ h=>by cases h) ?_
 rintro xs Hs Rs hl1 hl2 ⟨a,b,R1,R2,ra,rb,rfl,rfl,h1,h2,hlen⟩
 have e0:Hs=[]:=List.length_eq_zero_iff.1 hl1
 subst e0
 obtain⟨us,x,y,c,rfl,hy,hul,hcell,hrd⟩:=id h1
 obtain⟨us2,x2,y2,c2,rfl,hy2,hul2,hcell2,hrd2⟩:=id h2
 refine⟨rC,bx [x,y,us.length,c,x2,y2,us2.length,c2] false [Hl.none,Hl.none,Hl.none,Hl.none,Hl.none,Hl.none,Hl.none,Hl.none,R1,R2],fun _ q=>∃ k:Nat,q.i 50=k∧k≤ra.length,fun _ q=>(ra.length-q.i 50).toNat,?_,⟨?_,?_,?_,?_⟩,(fun _ h=>nomatch h),?_⟩
 ·show [Value.slice (ar x y) ((us.length:Int)).toNat ((c:Int)).toNat,Value.slice (ar x2 y2) ((us2.length:Int)).toNat ((c2:Int)).toNat]=_
  simp only[Int.toNat_natCast]
 ·intro r hr ho;simp [rC]at hr;rcases hr with rfl | rfl<;>cases ho
 ·intro r hr ho;simp [rC]at hr
  rcases hr with rfl | rfl
  ·exact⟨R1,by simp,Hl.le_refl _⟩
  ·exact⟨R2,by simp,Hl.le_refl _⟩
 ·simp [rC,bc.own]
 ·intro r hr;simp [rC]at hr;rcases hr with rfl | rfl<;>trivial
 ·show Nd.holds _ _ _ uU
  generalize hρ:bx [x,y,us.length,c,x2,y2,us2.length,c2] false [Hl.none,Hl.none,Hl.none,Hl.none,Hl.none,Hl.none,Hl.none,Hl.none,R1,R2]=ρ
  have v0:ρ.i 0=x:=by rw[←hρ];rfl
  have v1:ρ.i 1=y:=by rw[←hρ];rfl
  have v2:ρ.i 2=us.length:=by rw[←hρ];rfl
  have v4:ρ.i 4=x2:=by rw[←hρ];rfl
  have v5:ρ.i 5=y2:=by rw[←hρ];rfl
  have v6:ρ.i 6=us2.length:=by rw[←hρ];rfl
  have w8:ρ.h 8=R1:=by rw[←hρ];rfl
  have w9:ρ.h 9=R2:=by rw[←hρ];rfl
  clear hρ
  have out:∀ (q:Env) (mem:Mem) (e:E),(ra=rb→bo q e=true)→postOf uV [.slice (ar x y) us.length c,.slice (ar x2 y2) us2.length c2] [] [R1,R2] q mem (.sv (.one (.bool e))):=by
   intro q mem e he _
   exact⟨[],[],rfl,rfl,⟨⟨fun _=>0,fun _=>bo q e,fun _=>.empty,fun _=>.tuple #[],fun _=>Hl.none⟩,rfl,trivial,trivial⟩,_,_,R1,R2,ra,rb,bo q e,rfl,rfl,h1,h2,rfl,he⟩
  unfold uU
  simp only[Nd.holds,X.pre,X.rel,X.n,Src.ok,Src.len,Src.bS,true_and,and_true,if_true,Nat.mul_one,Nat.add_zero,Nat.reduceAdd,List.length_cons,List.length_nil,bN,bK,aP,ba,bb,bM,bj,bJ,bI,bD,bd,bk,bL,bg,bf,aQ,bh,ah,ai,aE,aI,aK,ax,aF,aV,aT,au,aO,aC,aN,aB,TV.ev,SV.ev,CV.ev,List.map_cons,List.map_nil,bc.hl]
  rw[v2,v6]
  refine⟨by omega,by omega,fun hne=>out _ _ _ fun h=>absurd (by rw[hul,hul2,h]) hne,fun heq=>⟨⟨0,rfl,Nat.zero_le _⟩,fun q g ⟨k,ek,hk⟩=>?_⟩⟩
  rw[g.i 0 (by omega),g.i 1 (by omega),g.i 2 (by omega),g.i 4 (by omega),g.i 5 (by omega),g.i 6 (by omega),g.h 8 (by omega),g.h 9 (by omega),v0,v1,v2,v4,v5,v6,w8,w9,ek]
  refine⟨fun hlt=>?_,fun hge=>out _ _ _ fun _=>cq _⟩
  have hk1:k<ra.length:=by omega
  have hk2:k<rb.length:=by omega
  have hu:us[k]?=some us[k]:=List.getElem?_eq_getElem (by omega)
  have hu2:us2[k]?=some us2[k]:=List.getElem?_eq_getElem (by omega)
  obtain⟨hx0,hc⟩:=hcell k _ hu
  obtain⟨hx2,hc2⟩:=hcell2 k _ hu2
  have r1:=hrd k _ _ hu (List.getElem?_eq_getElem hk1)
  have r2:=hrd2 k _ _ hu2 (List.getElem?_eq_getElem hk2)
  obtain⟨⟨_,_,_,s1⟩,_,t1,q1⟩:=fw.parts r1
  obtain⟨⟨_,_,_,s2⟩,_,t2,q2⟩:=fw.parts r2
  have hck:R1.cell x.toNat (y+(k:Int)).toNat=some us[k]:=by rw[show(y+(k:Int)).toNat=y.toNat+k by omega];exact hc
  have hck2:R2.cell x2.toNat (y2+(k:Int)).toNat=some us2[k]:=by rw[show(y2+(k:Int)).toNat=y2.toNat+k by omega];exact hc2
  rw[hck,hck2]
  refine⟨hx0,hy,by omega,by rw[s1];rfl,t1,hx2,hy2,by omega,by rw[s2];rfl,t2,fun hne=>out _ _ _ fun h=>?_,fun _=>⟨⟨k+1,?_,by omega⟩,?_⟩⟩
  ·have e:ra[k]=rb[k]:=by
    have:=congrArg (fun l=>l[k]?) h
    rw[List.getElem?_eq_getElem hk1,List.getElem?_eq_getElem hk2]at this
    exact Option.some.inj this
   exact absurd (q1.trans ((congrArg bytesOf e).trans q2.symm)) hne
  ·show IntKind.i64.wrap (q.i 50+1)=_
   rw[ek];exact wrap_i64 (by omega) (by omega)
  ·show((ra.length:Int)-IntKind.i64.wrap (q.i 50+1)).toNat<_
   rw[ek,wrap_i64 (by omega) (by omega)];omega
end Go.Proofs.YtomdimlnggpgbaaGreatDoor
namespace Go.Proofs.YtomdimlnggpgbaaGreatDoor
open Go Go.Sx Go.Pk
open Go.Proofs.YtomdimlnggpgbaaGreatDoor.D hiding bx aH hJ
def rP:Sx.Spec where
 fn:=23
 own:=[]
 rd:=[0]
 res:=[.one .bool]
 pre:=fun xs Hs Rs=>∃ p R dp S,xs=[p]∧Rs=[R]∧dR R p dp S
 post:=fun xs Hs Rs v Hs' F=>∀ p R dp S,xs=[p]→Rs=[R]→dR R p dp S→v=.bool S.over
def vj:Nd:=.and (.e (.le (.lit 0) (.var 0))) (.and (.e (.his 1 (.var 0) (.lit 3) 0 .bool)) (.post [.ro 1 [.var 0] true] (.sv (.one (.bool (.hB 1 (.var 0) (.lit 3) 0))))))
def rQ:cy Tryz.prog [] rP.fn where
 Λ:=aH
 args:=[TP (.var 0) (.lit 0)]
 mem:=[.ro 1 [.var 0] true]
 nv:=2
 nd:=vj
 ok:=by kernel_rfl
theorem BW:rP.OK Tryz.prog:=by
 refine Spec.b8 (Γ:=[]) (fun _ h=>by cases h) ?_
 rintro xs Hs Rs hl1 hl2 ⟨p,R,dp,S,rfl,rfl,hS⟩
 have e0:Hs=[]:=List.length_eq_zero_iff.1 hl1
 subst e0
 obtain⟨a,pa,pb,sl,rfl,hr⟩:=id hS
 have hc:R.cell a 3=some (.bool S.over):=by unfold Hl.cell;rw[hr.aS];rfl
 refine⟨rQ,bx [(a:Int)] false [Hl.none,R],fun _ _=>True,fun _ _=>0,?_,⟨?_,?_,?_,?_⟩,(fun _ h=>nomatch h),?_⟩
 ·show [Value.pointer (ar (a:Int) 0)]=_;rw[eV]
 ·intro r hr ho;simp [rQ]at hr;subst hr;cases ho
 ·intro r hr ho;simp [rQ]at hr;subst hr;exact⟨R,by simp,Hl.le_refl _⟩
 ·simp [rQ]
 ·intro r hr;simp [rQ]at hr;subst hr;trivial
 ·show Nd.holds _ _ _ vj
  generalize hρ:bx [(a:Int)] false [Hl.none,R]=ρ
  have v0:ρ.i 0=a:=by rw[←hρ];rfl
  have w1:ρ.h 1=R:=by rw[←hρ];rfl
  clear hρ
  have t3:Int.toNat 3=3:=rfl
  unfold vj
  simp only[Nd.holds,X.pre,X.rel,X.n,Src.ok,Src.len,Src.bS,true_and,and_true,if_true,Nat.mul_one,Nat.add_zero,Nat.reduceAdd,List.length_cons,List.length_nil,bN,bK,aP,ba,bb,bM,bj,bJ,bI,bD,bd,bk,bL,bg,bf,aQ,bh,ah,ai,aE,aI,aK,ax,aF,aV,aT,au,aO,aC,aN,aB,TV.ev,SV.ev,CV.ev,List.map_cons,List.map_nil,bc.hl,t3]
  rw[v0,w1,Int.toNat_natCast,hc]
  refine⟨by omega,rfl,fun _=>⟨[],[],rfl,rfl,⟨⟨fun _=>0,fun _=>S.over,fun _=>.empty,fun _=>.tuple #[],fun _=>Hl.none⟩,?_,trivial,trivial⟩,fun p' R' dp' S' e1 e2 h'=>?_⟩⟩
  ·show Value.bool (bo ρ (.hB 1 (.var 0) (.lit 3) 0))=.bool S.over
   show Value.bool (vv ((ρ.h 1).cell (ρ.i 0).toNat (Int.toNat 3)))=_
   rw[v0,w1,Int.toNat_natCast,t3,hc];rfl
  ·simp only[List.cons.injEq,and_true]at e1 e2
   subst e1 e2
   obtain⟨_,rfl⟩:=hS.uniq h'
   show Value.bool (vv ((ρ.h 1).cell (ρ.i 0).toNat (Int.toNat 3)))=_
   rw[v0,w1,Int.toNat_natCast,t3,hc];rfl
theorem sA {R R':Hl} (hl:R.le R') {b j:Nat} {v:Value} (h:R.cell b j=some v):R'.cell b j=some v:=by
 unfold Hl.cell at h ⊢
 cases hR:R b with
 | none=>rw[hR]at h;cases h
 | some o=>rw[hR]at h;rw[hl _ _ hR];exact h
theorem DQ {R R':Hl} {v:Value} {bs:List Int} (h:fw R v bs) (hl:R.le R'):fw R' v bs:=by
 obtain⟨x,y,c,e,hy,h⟩:=h
 exact⟨x,y,c,e,hy,h.imp id fun⟨hx,h⟩=>⟨hx,fun j z hz=>sA hl (h j z hz)⟩⟩
theorem bu.mono {R R' RA RA':Hl} (hl:R.le R') (hl':RA.le RA') {v:Value} {rows:List (List Int)} (h:bu R RA v rows):bu R' RA' v rows:=by
 obtain⟨us,x,y,c,e,hy,hu,hc,hr⟩:=h
 refine⟨us,x,y,c,e,hy,hu,fun j u hj=>⟨(hc j u hj).1,sA hl (hc j u hj).2⟩,fun j u r h1 h2=>DQ (hr j u r h1 h2) hl'⟩
def vB:Sx.Spec where
 fn:=19
 own:=[]
 rd:=[0,1,100]
 res:=[.one .bool]
 pre:=fun xs Hs Rs=>∃ a b R1 R2 R3 Rw ra rb,xs=[a,b]∧Rs=[R1,R2,R3]∧(Rw=R2∨Rw=R3)∧bu R1 R1 a ra∧bu Rw R3 b rb∧ra.length≤1000000000
 post:=fun xs Hs Rs v Hs' F=>∃ a b R1 R2 R3 Rw ra rb z,xs=[a,b]∧Rs=[R1,R2,R3]∧(Rw=R2∨Rw=R3)∧bu R1 R1 a ra∧bu Rw R3 b rb∧v=.bool z∧(ra=rb→z=true)
def vC:Nd:=.and (.e (.le (.lit 0) (.var 2))) (.and (.e (.le (.lit 0) (.var 6))) (.and (.imp (.not (.eq (.var 2) (.var 6))) (.post [.ro 10 [] true,.ro 8 [.var 0] true,.ro 9 [.var 4] false] (.sv (.one (.bool .ff))))) (.imp (.eq (.var 2) (.var 6)) (.and (.inv 0 [⟨50,0,.int .i64 (.lit 0)⟩] []) (.havoc 0 0 11 (.and (.imp (.lt (.var 50) (.var 2)) (.and (.e (.le (.lit 0) (.var 0))) (.and (.e (.le (.lit 0) (.var 1))) (.and (.e (.le (.lit 0) (.var 50))) (.and (.e (.his 8 (.var 0) (.add (.var 1) (.var 50)) 0 .slice)) (.and (.e (.or (.eq (.hP 8 (.var 0) (.add (.var 1) (.var 50)) 0 0) (.lit (-1))) (.or (.eq (.hP 8 (.var 0) (.add (.var 1) (.var 50)) 0 2) (.lit 0)) (.and (.le (.lit 0) (.hP 8 (.var 0) (.add (.var 1) (.var 50)) 0 0)) (.and (.le (.lit 0) (.hP 8 (.var 0) (.add (.var 1) (.var 50)) 0 1)) (.hby 8 (.hP 8 (.var 0) (.add (.var 1) (.var 50)) 0 0) (.hP 8 (.var 0) (.add (.var 1) (.var 50)) 0 1) (.hP 8 (.var 0) (.add (.var 1) (.var 50)) 0 2))))))) (.and (.e (.le (.lit 0) (.var 4))) (.and (.e (.le (.lit 0) (.var 5))) (.and (.e (.lt (.var 50) (.var 6))) (.and (.e (.his 9 (.var 4) (.add (.var 5) (.var 50)) 0 .slice)) (.and (.e (.or (.eq (.hP 9 (.var 4) (.add (.var 5) (.var 50)) 0 0) (.lit (-1))) (.or (.eq (.hP 9 (.var 4) (.add (.var 5) (.var 50)) 0 2) (.lit 0)) (.and (.le (.lit 0) (.hP 9 (.var 4) (.add (.var 5) (.var 50)) 0 0)) (.and (.le (.lit 0) (.hP 9 (.var 4) (.add (.var 5) (.var 50)) 0 1)) (.hby 10 (.hP 9 (.var 4) (.add (.var 5) (.var 50)) 0 0) (.hP 9 (.var 4) (.add (.var 5) (.var 50)) 0 1) (.hP 9 (.var 4) (.add (.var 5) (.var 50)) 0 2))))))) (.and (.imp (.not (.seq (.ite (.eq (.hP 8 (.var 0) (.add (.var 1) (.var 50)) 0 0) (.lit (-1))) (.slit ⟨#[]⟩) (.sof 8 (.hP 8 (.var 0) (.add (.var 1) (.var 50)) 0 0) (.hP 8 (.var 0) (.add (.var 1) (.var 50)) 0 1) (.hP 8 (.var 0) (.add (.var 1) (.var 50)) 0 2))) (.ite (.eq (.hP 9 (.var 4) (.add (.var 5) (.var 50)) 0 0) (.lit (-1))) (.slit ⟨#[]⟩) (.sof 10 (.hP 9 (.var 4) (.add (.var 5) (.var 50)) 0 0) (.hP 9 (.var 4) (.add (.var 5) (.var 50)) 0 1) (.hP 9 (.var 4) (.add (.var 5) (.var 50)) 0 2))))) (.post [.ro 10 [] true,.ro 8 [.var 0] true,.ro 9 [.var 4] false] (.sv (.one (.bool .ff))))) (.imp (.seq (.ite (.eq (.hP 8 (.var 0) (.add (.var 1) (.var 50)) 0 0) (.lit (-1))) (.slit ⟨#[]⟩) (.sof 8 (.hP 8 (.var 0) (.add (.var 1) (.var 50)) 0 0) (.hP 8 (.var 0) (.add (.var 1) (.var 50)) 0 1) (.hP 8 (.var 0) (.add (.var 1) (.var 50)) 0 2))) (.ite (.eq (.hP 9 (.var 4) (.add (.var 5) (.var 50)) 0 0) (.lit (-1))) (.slit ⟨#[]⟩) (.sof 10 (.hP 9 (.var 4) (.add (.var 5) (.var 50)) 0 0) (.hP 9 (.var 4) (.add (.var 5) (.var 50)) 0 1) (.hP 9 (.var 4) (.add (.var 5) (.var 50)) 0 2)))) (.back 0 0 [⟨50,0,.int .i64 (.wrap .i64 (.add (.var 50) (.lit 1)))⟩] [])))))))))))))) (.imp (.not (.lt (.var 50) (.var 2))) (.post [.ro 10 [] true,.ro 8 [.var 0] true,.ro 9 [.var 4] false] (.sv (.one (.bool .tt)))))))))))
def sf:cy Tryz.prog [] vB.fn where
 Λ:=fun p=>if ES p then some ⟨0,[(5,TI .i64 (.var 50))],[],60⟩else none
 args:=[.sv (.one (.sl (.var 0) (.var 1) (.var 2) (.var 3))),.sv (.one (.sl (.var 4) (.var 5) (.var 6) (.var 7)))]
 mem:=[.ro 10 [] true,.ro 8 [.var 0] true,.ro 9 [.var 4] false]
 nv:=11
 nd:=vC
 ok:=by kernel_rfl
theorem B7:vB.OK Tryz.prog:=by
 refine Spec.b8 (Γ:=[]) (fun _ h=>by cases h) ?_
 rintro xs Hs Rs hl1 hl2 ⟨a,b,R1,R2,R3,Rw,ra,rb,rfl,rfl,hw,h1,h2,hlen⟩
 have e0:Hs=[]:=List.length_eq_zero_iff.1 hl1
 subst e0
 obtain⟨us,x,y,c,rfl,hy,hul,hcell,hrd⟩:=id h1
 obtain⟨us2,x2,y2,c2,rfl,hy2,hul2,hcell2,hrd2⟩:=id h2
 refine⟨sf,bx [x,y,us.length,c,x2,y2,us2.length,c2] false [Hl.none,Hl.none,Hl.none,Hl.none,Hl.none,Hl.none,Hl.none,Hl.none,R1,Rw,R3],fun _ q=>∃ k:Nat,q.i 50=k∧k≤ra.length,fun _ q=>(ra.length-q.i 50).toNat,?_,⟨?_,?_,?_,?_⟩,(fun _ h=>nomatch h),?_⟩
 ·show [Value.slice (ar x y) ((us.length:Int)).toNat ((c:Int)).toNat,Value.slice (ar x2 y2) ((us2.length:Int)).toNat ((c2:Int)).toNat]=_
  simp only[Int.toNat_natCast]
 ·intro r hr ho;simp [sf]at hr;rcases hr with rfl | rfl | rfl<;>cases ho
 ·intro r hr ho;simp [sf]at hr
  rcases hr with rfl | rfl | rfl
  ·exact⟨R3,by simp,Hl.le_refl _⟩
  ·exact⟨R1,by simp,Hl.le_refl _⟩
  ·exact⟨Rw,by rcases hw with rfl | rfl<;>simp,Hl.le_refl _⟩
 ·simp [sf,bc.own]
 ·intro r hr;simp [sf]at hr;rcases hr with rfl | rfl | rfl<;>trivial
 ·show Nd.holds _ _ _ vC
  generalize hρ:bx [x,y,us.length,c,x2,y2,us2.length,c2] false [Hl.none,Hl.none,Hl.none,Hl.none,Hl.none,Hl.none,Hl.none,Hl.none,R1,Rw,R3]=ρ
  have v0:ρ.i 0=x:=by rw[←hρ];rfl
  have v1:ρ.i 1=y:=by rw[←hρ];rfl
  have v2:ρ.i 2=us.length:=by rw[←hρ];rfl
  have v4:ρ.i 4=x2:=by rw[←hρ];rfl
  have v5:ρ.i 5=y2:=by rw[←hρ];rfl
  have v6:ρ.i 6=us2.length:=by rw[←hρ];rfl
  have w8:ρ.h 8=R1:=by rw[←hρ];rfl
  have w9:ρ.h 9=Rw:=by rw[←hρ];rfl
  have w10:ρ.h 10=R3:=by rw[←hρ];rfl
  clear hρ
  have out:∀ (q:Env) (mem:Mem) (e:E),(ra=rb→bo q e=true)→postOf vB [.slice (ar x y) us.length c,.slice (ar x2 y2) us2.length c2] [] [R1,R2,R3] q mem (.sv (.one (.bool e))):=by
   intro q mem e he _
   exact⟨[],[],rfl,rfl,⟨⟨fun _=>0,fun _=>bo q e,fun _=>.empty,fun _=>.tuple #[],fun _=>Hl.none⟩,rfl,trivial,trivial⟩,_,_,R1,R2,R3,Rw,ra,rb,bo q e,rfl,rfl,hw,h1,h2,rfl,he⟩
  unfold vC
  simp only[Nd.holds,X.pre,X.rel,X.n,Src.ok,Src.len,Src.bS,true_and,and_true,if_true,Nat.mul_one,Nat.add_zero,Nat.reduceAdd,List.length_cons,List.length_nil,bN,bK,aP,ba,bb,bM,bj,bJ,bI,bD,bd,bk,bL,bg,bf,aQ,bh,ah,ai,aE,aI,aK,ax,aF,aV,aT,au,aO,aC,aN,aB,TV.ev,SV.ev,CV.ev,List.map_cons,List.map_nil,bc.hl]
  rw[v2,v6]
  refine⟨by omega,by omega,fun hne=>out _ _ _ fun h=>absurd (by rw[hul,hul2,h]) hne,fun heq=>⟨⟨0,rfl,Nat.zero_le _⟩,fun q g ⟨k,ek,hk⟩=>?_⟩⟩
  rw[g.i 0 (by omega),g.i 1 (by omega),g.i 2 (by omega),g.i 4 (by omega),g.i 5 (by omega),g.i 6 (by omega),g.h 8 (by omega),g.h 9 (by omega),g.h 10 (by omega),v0,v1,v2,v4,v5,v6,w8,w9,w10,ek]
  refine⟨fun hlt=>?_,fun hge=>out _ _ _ fun _=>cq _⟩
  have hk1:k<ra.length:=by omega
  have hk2:k<rb.length:=by omega
  have hu:us[k]?=some us[k]:=List.getElem?_eq_getElem (by omega)
  have hu2:us2[k]?=some us2[k]:=List.getElem?_eq_getElem (by omega)
  obtain⟨hx0,hc⟩:=hcell k _ hu
  obtain⟨hx2,hc2⟩:=hcell2 k _ hu2
  have r1:=hrd k _ _ hu (List.getElem?_eq_getElem hk1)
  have r2:=hrd2 k _ _ hu2 (List.getElem?_eq_getElem hk2)
  obtain⟨⟨_,_,_,s1⟩,_,t1,q1⟩:=fw.parts r1
  obtain⟨⟨_,_,_,s2⟩,_,t2,q2⟩:=fw.parts r2
  have hck:R1.cell x.toNat (y+(k:Int)).toNat=some us[k]:=by rw[show(y+(k:Int)).toNat=y.toNat+k by omega];exact hc
  have hck2:Rw.cell x2.toNat (y2+(k:Int)).toNat=some us2[k]:=by rw[show(y2+(k:Int)).toNat=y2.toNat+k by omega];exact hc2
  rw[hck,hck2]
  refine⟨hx0,hy,by omega,by rw[s1];rfl,t1,hx2,hy2,by omega,by rw[s2];rfl,t2,fun hne=>out _ _ _ fun h=>?_,fun _=>⟨⟨k+1,?_,by omega⟩,?_⟩⟩
  ·have e:ra[k]=rb[k]:=by
    have:=congrArg (fun l=>l[k]?) h
    rw[List.getElem?_eq_getElem hk1,List.getElem?_eq_getElem hk2]at this
    exact Option.some.inj this
   exact absurd (q1.trans ((congrArg bytesOf e).trans q2.symm)) hne
  ·show IntKind.i64.wrap (q.i 50+1)=_
   rw[ek];exact wrap_i64 (by omega) (by omega)
  ·show((ra.length:Int)-IntKind.i64.wrap (q.i 50+1)).toNat<_
   rw[ek,wrap_i64 (by omega) (by omega)];omega
def GR:Sx.Spec where
 fn:=19
 own:=[]
 rd:=[0,1,100]
 res:=[.one .bool]
 pre:=vB.pre
 post:=fun xs Hs Rs v Hs' F=>∀ a b R1 R2 R3 Rw ra rb,xs=[a,b]→Rs=[R1,R2,R3]→(Rw=R2∨Rw=R3)→bu R1 R1 a ra→bu Rw R3 b rb→∃ z,v=.bool z∧(ra=rb→z=true)
theorem B8:GR.OK Tryz.prog:=by
 intro w xs Hs Rs hl1 hl2 hs1 hs2 hd1 hd2 hpre
 refine(B7 w xs Hs Rs hl1 hl2 hs1 hs2 hd1 hd2 hpre).mono ?_
 rintro e w' ⟨ρ,Hs',F,he,hn,ht,a,b,R1,R2,R3,Rw,ra,rb,z,rfl,rfl,hw,h1,h2,hv,hz⟩
 refine⟨ρ,Hs',F,he,hn,ht,?_⟩
 intro a' b' R1' R2' R3' Rw' ra' rb' e1 e2 hw' h1' h2'
 simp only[List.cons.injEq,and_true]at e1 e2
 obtain⟨rfl,rfl⟩:=e1
 obtain⟨rfl,rfl,rfl⟩:=e2
 obtain rfl:=h1.uniq h1'
 have l2:R2.le (Hl.all w):=fun k o h=>hs2 _ (by simp) k o h
 have l3:R3.le (Hl.all w):=fun k o h=>hs2 _ (by simp) k o h
 have up:∀ {X:Hl} {r:List (List Int)},(X=R2∨X=R3)→bu X R3 b r→bu (Hl.all w) (Hl.all w) b r:=fun hx h=>by
  rcases hx with rfl | rfl
  ·exact h.mono l2 l3
  ·exact h.mono l3 l3
 obtain rfl:=(up hw h2).uniq (up hw' h2')
 exact⟨z,hv,hz⟩
end Go.Proofs.YtomdimlnggpgbaaGreatDoor
namespace Go.Proofs.YtomdimlnggpgbaaGreatDoor
open Go Go.Sx Go.Pk
open Go.Proofs.YtomdimlnggpgbaaGreatDoor.D hiding bx aH hJ
def Cu:Sx.Spec where
 fn:=16
 own:=[]
 rd:=[0,1,100]
 res:=[.one .sl]
 pre:=fun xs Hs Rs=>∃ a b R1 R2 R3 Rw ra rb,xs=[a,b]∧Rs=[R1,R2,R3]∧(Rw=R1∨Rw=R3)∧bu Rw R3 a ra∧bu R2 R3 b rb∧ra.length≤1000000∧rb.length≤1000000
 post:=fun xs Hs Rs v Hs' F=>∃ a b R1 R2 R3 Rw ra rb,xs=[a,b]∧Rs=[R1,R2,R3]∧(Rw=R1∨Rw=R3)∧bu Rw R3 a ra∧bu R2 R3 b rb∧bu F R3 v (ra++rb)
def ya:Nd:=.and (.pre (.app 10 46 1 24 (.sl (.lit (-1)) (.lit 0) (.lit 0) (.lit 0)) (.lit 0) .dead (.seg 8 (.var 0) (.var 1) (.var 2)))) (.ext (.app 10 46 1 24 (.sl (.lit (-1)) (.lit 0) (.lit 0) (.lit 0)) (.lit 0) .dead (.seg 8 (.var 0) (.var 1) (.var 2))) (.and (.pre (.app 12 46 1 24 (.sl (.var 10) (.lit 0) (.var 2) (.var 11)) (.var 2) (.hp 10 [] [.var 10] []) (.seg 9 (.var 4) (.var 5) (.var 6)))) (.ext (.app 12 46 1 24 (.sl (.var 10) (.lit 0) (.var 2) (.var 11)) (.var 2) (.hp 10 [] [.var 10] []) (.seg 9 (.var 4) (.var 5) (.var 6))) (.post [.ro 8 [.var 0] true,.ro 9 [.var 4] false,.hp 12 [10] [.var 12,.var 10] []] (.sv (.one (.sl (.var 12) (.lit 0) (.add (.var 2) (.var 6)) (.var 13))))))))
def vT:cy Tryz.prog [] Cu.fn where
 Λ:=aH
 args:=[.sv (.one (.sl (.var 0) (.var 1) (.var 2) (.var 3))),.sv (.one (.sl (.var 4) (.var 5) (.var 6) (.var 7)))]
 mem:=[.ro 8 [.var 0] true,.ro 9 [.var 4] false]
 nv:=10
 nd:=ya
 ok:=by kernel_rfl
theorem D0 {R:Hl} {x y:Int} {us:List Value} (hy:0≤y) (hc:∀ (j:Nat) (u:Value),us[j]?=some u→0≤x∧R.cell x.toNat (y.toNat+j)=some u) (h1:∀ u∈us,u.oneCell'=true) :
 ((0≤x∧0≤y∧0≤(us.length:Int)∧∀ j,j<((us.length:Int)).toNat→∃ v,R.cell x.toNat (y.toNat+j)=some v∧v.oneCell'=true)∨(us.length:Int)=0)∧cl R x.toNat y.toNat ((us.length:Int)).toNat=us:=by
 rw[Int.toNat_natCast]
 refine⟨?_,?_⟩
 ·by_cases h0:us.length=0
  ·exact Or.inr (by omega)
  ·refine Or.inl ⟨(hc 0 us[0] (List.getElem?_eq_getElem (by omega))).1,hy,by omega,fun j hj=>?_⟩
   exact⟨us[j],(hc j _ (List.getElem?_eq_getElem hj)).2,h1 _ (List.getElem_mem _)⟩
 ·unfold cl
  apply List.ext_getElem (by simp)
  intro j h1 h2
  rw[List.getElem_map,List.getElem_range,(hc j _ (List.getElem?_eq_getElem h2)).2];rfl
theorem xm {RA:Hl} {us:List Value} {rows:List (List Int)} (hl:us.length=rows.length) (hr:∀ (j:Nat) (u:Value) (r:List Int),us[j]?=some u→rows[j]?=some r→fw RA u r):∀ u∈us,u.oneCell'=true:=by
 intro u hu
 obtain⟨j,hj⟩:=List.mem_iff_getElem?.1 hu
 have hjl:=(List.getElem?_eq_some_iff.1 hj).1
 obtain⟨x,y,c,rfl,_⟩:=hr j u _ hj (List.getElem?_eq_getElem (by omega))
 rfl
theorem Fc {s:Sx.Spec} {xs:List Value} {Rs:List Hl} {q:Env} {r1 r2:bc} {n:Nat} {vs:List Nat} {ts ls:List E} {l c:E} (hr:s.res=[.one .sl]) (ho:r1.own=false∧r2.own=false∨True) (hn:-1≤q.i n∧(0:Int)≤0∧0≤ak q l∧0≤ak q c)
 (h:s.post xs [] Rs (.slice (ar (q.i n) 0) (ak q l).toNat (ak q c).toNat) [] (q.h n)):postOf s xs [] Rs q [r1,r2,.hp n vs ts ls] (.sv (.one (.sl (.var n) (.lit 0) l c))):=fun _ =>
 ⟨[],[2],rfl,rfl,⟨{Im with i:=fun k=>[q.i n,0,ak q l,ak q c].getD k 0},by rw[hr];rfl,by rw[hr];exact⟨hn,trivial⟩⟩,by
  show s.post xs [] Rs _ [] (dF [q.h n])
  rw[bp];exact h⟩
theorem Cv:Cu.OK Tryz.prog:=by
 refine Spec.b8 (Γ:=[]) (fun _ h=>by cases h) ?_
 rintro xs Hs Rs hl1 hl2 ⟨a,b,R1,R2,R3,Rw,ra,rb,rfl,rfl,hw,h1,h2,hla,hlb⟩
 have e0:Hs=[]:=List.length_eq_zero_iff.1 hl1
 subst e0
 obtain⟨us,x,y,c,rfl,hy,hul,hcell,hrd⟩:=id h1
 obtain⟨us2,x2,y2,c2,rfl,hy2,hul2,hcell2,hrd2⟩:=id h2
 refine⟨vT,bx [x,y,us.length,c,x2,y2,us2.length,c2] false [Hl.none,Hl.none,Hl.none,Hl.none,Hl.none,Hl.none,Hl.none,Hl.none,Rw,R2],fun _ _=>True,fun _ _=>0,?_,⟨?_,?_,?_,?_⟩,(fun _ h=>nomatch h),?_⟩
 ·show [Value.slice (ar x y) ((us.length:Int)).toNat ((c:Int)).toNat,Value.slice (ar x2 y2) ((us2.length:Int)).toNat ((c2:Int)).toNat]=_
  simp only[Int.toNat_natCast]
 ·intro r hr ho;simp [vT]at hr;rcases hr with rfl | rfl<;>cases ho
 ·intro r hr ho;simp [vT]at hr
  rcases hr with rfl | rfl
  ·exact⟨Rw,by rcases hw with rfl | rfl<;>simp,Hl.le_refl _⟩
  ·exact⟨R2,by simp,Hl.le_refl _⟩
 ·simp [vT,bc.own]
 ·intro r hr;simp [vT]at hr;rcases hr with rfl | rfl<;>trivial
 show Nd.holds _ _ _ ya
 generalize hρ:bx [x,y,us.length,c,x2,y2,us2.length,c2] false [Hl.none,Hl.none,Hl.none,Hl.none,Hl.none,Hl.none,Hl.none,Hl.none,Rw,R2]=ρ
 have V:∀ q:Env,ae 10 ρ q→q.i 0=x∧q.i 1=y∧q.i 2=us.length∧q.i 4=x2∧q.i 5=y2∧q.i 6=us2.length∧q.h 8=Rw∧q.h 9=R2:=fun q hg=>by
  rw[hg.i 0 (by omega),hg.i 1 (by omega),hg.i 2 (by omega),hg.i 4 (by omega),hg.i 5 (by omega),hg.i 6 (by omega),hg.h 8 (by omega),hg.h 9 (by omega),←hρ]
  exact⟨rfl,rfl,rfl,rfl,rfl,rfl,rfl,rfl⟩
 clear hρ
 obtain⟨k1,k2⟩:=D0 hy hcell (xm hul hrd)
 obtain⟨k3,k4⟩:=D0 hy2 hcell2 (xm hul2 hrd2)
 unfold ya
 simp only[Nd.holds,X.pre,X.rel,X.n,Src.ok,Src.len,Src.bS,true_and,and_true,if_true,Nat.mul_one,Nat.add_zero,Nat.reduceAdd,List.length_cons,List.length_nil,bN,bK,aP,ba,bb,bM,bj,bJ,bI,bD,bd,bk,bL,bg,bf,aQ,bh,ah,ai,aE,aI,aK,ax,aF,aV,aT,au,aO,aC,aN,aB,TV.ev,SV.ev,CV.ev,List.map_cons,List.map_nil,bc.hl]
 obtain⟨v0,v1,v2,_,_,_,w8,_⟩:=V ρ (ae.refl _ _)
 rw[v0,v1,v2,w8,k2]
 have t0:Int.toNat 0=0:=rfl
 simp only[t0,Nat.zero_add,Int.toNat_natCast]at *
 refine⟨⟨⟨[],rfl,Or.inl ⟨rfl,rfl⟩⟩,Int.le_refl 0,k1,by unfold maxLen;omega,by omega⟩,fun q1 g1 ⟨a1,a2,a3,_⟩=>?_⟩
 have a3:=a3 [] ⟨rfl,Or.inl ⟨rfl,rfl⟩⟩
 rw[List.nil_append]at a3
 obtain⟨_,_,u2,u4,u5,u6,_,u9⟩:=V q1 g1
 rw[u2,u4,u5,u6,u9,Int.toNat_natCast,Int.toNat_natCast,k4]
 refine⟨⟨⟨us,a3⟩,by omega,k3,by unfold maxLen;omega,by omega⟩,fun q2 g2 ⟨b1,b2,b3,_⟩=>?_⟩
 have b3:=b3 us a3
 have G2:ae 10 ρ q2:=g1.trans (g2.mono (by omega))
 obtain⟨_,_,z2,_,_,z6,_,_⟩:=V q2 G2
 have e26:(q2.i 2+q2.i 6).toNat=us.length+us2.length:=by rw[z2,z6];omega
 refine Fc rfl (Or.inr trivial) ⟨b1,Int.le_refl 0,by show 0≤q2.i 2+q2.i 6;omega,b2⟩ ?_
 refine⟨_,_,R1,R2,R3,Rw,ra,rb,rfl,rfl,hw,h1,h2,us++us2,q2.i 12,0,(q2.i 13).toNat,?_,Int.le_refl 0,by simp [hul,hul2],fun j u hj=>?_,fun j u r hj hr=>?_⟩
 ·show Value.slice (ar (q2.i 12) 0) (q2.i 2+q2.i 6).toNat (q2.i 13).toNat=_
  rw[e26,List.length_append]
 ·have hjl:=(List.getElem?_eq_some_iff.1 hj).1
  rw[List.length_append]at hjl
  rw[←e26]at b3
  obtain⟨c1,c2⟩:=b3.cellAt b1 (i:=j) (by omega)
  refine⟨c1,?_⟩
  show(q2.h 12).cell (q2.i 12).toNat (0+j)=some u
  rw[Nat.zero_add,c2,hj]
 ·rcases Nat.lt_or_ge j us.length with hlt | hge
  ·rw[List.getElem?_append_left hlt]at hj
   rw[List.getElem?_append_left (by omega)]at hr
   exact hrd j u r hj hr
  ·rw[List.getElem?_append_right hge]at hj
   rw[List.getElem?_append_right (by omega)]at hr
   exact hrd2 _ u r hj (by rw[←hul]at hr;exact hr)
end Go.Proofs.YtomdimlnggpgbaaGreatDoor
namespace Go.Proofs.YtomdimlnggpgbaaGreatDoor
open Go Go.Sx Go.Pk
open Go.Proofs.YtomdimlnggpgbaaGreatDoor.D hiding bx aH hJ
def Hh:Sx.Spec where
 fn:=16
 own:=[]
 rd:=[0,1,100]
 res:=[.one .sl]
 pre:=Cu.pre
 post:=fun xs Hs Rs v Hs' F=>∀ a b R1 R2 R3 Rw ra rb,xs=[a,b]→Rs=[R1,R2,R3]→(Rw=R1∨Rw=R3)→bu Rw R3 a ra→bu R2 R3 b rb→bu F R3 v (ra++rb)
theorem Cw:Hh.OK Tryz.prog:=by
 intro w xs Hs Rs hl1 hl2 hs1 hs2 hd1 hd2 hpre
 refine(Cv w xs Hs Rs hl1 hl2 hs1 hs2 hd1 hd2 hpre).mono ?_
 rintro e w' ⟨ρ,Hs',F,he,hn,ht,a,b,R1,R2,R3,Rw,ra,rb,rfl,rfl,hw,h1,h2,hv⟩
 refine⟨ρ,Hs',F,he,hn,ht,?_⟩
 intro a' b' R1' R2' R3' Rw' ra' rb' e1 e2 hw' h1' h2'
 simp only[List.cons.injEq,and_true]at e1 e2
 obtain⟨rfl,rfl⟩:=e1
 obtain⟨rfl,rfl,rfl⟩:=e2
 obtain rfl:=h2.uniq h2'
 have l1:R1.le (Hl.all w):=fun k o h=>hs2 _ (by simp) k o h
 have l3:R3.le (Hl.all w):=fun k o h=>hs2 _ (by simp) k o h
 have up:∀ {X:Hl} {r:List (List Int)},(X=R1∨X=R3)→bu X R3 a r→bu (Hl.all w) (Hl.all w) a r:=fun hx h=>by
  rcases hx with rfl | rfl
  ·exact h.mono l1 l3
  ·exact h.mono l3 l3
 obtain rfl:=(up hw h1).uniq (up hw' h1')
 exact hv
end Go.Proofs.YtomdimlnggpgbaaGreatDoor
namespace Go.Proofs.YtomdimlnggpgbaaGreatDoor
open Go Go.Sx Go.Pk
open Go.Proofs.YtomdimlnggpgbaaGreatDoor.D hiding bx aH hJ
structure B9 where
 k:Int
 u:Value
 f:Int
 rows:List (List Int)
def HX:List Kd:=[.int .u8,.slice,.int .i64]
def B9.row (o:B9):List Value:=[.int .u8 o.k,o.u,.int .i64 o.f]
def vH (R:Hl) (v:Value) (ops:List B9):Prop:=im R v HX (ops.map B9.row)∧∀ o∈ops,bu R R o.u o.rows
theorem vH.uniq {R:Hl} {v:Value} {a b:List B9} (h:vH R v a) (h':vH R v b):a=b:=by
 have e:=h.1.uniq h'.1
 have hl:a.length=b.length:=by have:=congrArg List.length e;simpa using this
 apply List.ext_getElem hl
 intro j h1 h2
 have ej:(a.map B9.row)[j]?=(b.map B9.row)[j]?:=by rw[e]
 rw[List.getElem?_map,List.getElem?_map,List.getElem?_eq_getElem h1,List.getElem?_eq_getElem h2]at ej
 have ej:=Option.some.inj ej
 have ha:=h.2 _ (List.getElem_mem h1)
 have hb:=h'.2 _ (List.getElem_mem h2)
 cases hx:a[j]with
 | mk k u f rows =>
  cases hy:b[j]with
  | mk k' u' f' rows' =>
   rw[hx]at ha ej
   rw[hy]at hb ej
   simp only[B9.row,List.cons.injEq,Value.int.injEq,true_and,and_true]at ej
   obtain⟨rfl,rfl,rfl⟩:=ej
   obtain rfl:=ha.uniq hb
   rfl
theorem vH.at {R:Hl} {x y:Int} {l c:Nat} {ops:List B9} (h:vH R (.slice (ar x y) l c) ops) (hy:0≤y):l=ops.length∧∀ (i:Nat) o,ops[i]?=some o→0≤x∧R.cell x.toNat (y.toNat+i*3)=some (.int .u8 o.k)∧R.cell x.toNat (y.toNat+i*3+1)=some o.u∧R.cell x.toNat (y.toNat+i*3+2)=some (.int .i64 o.f)∧bu R R o.u o.rows:=by
 obtain⟨⟨x',y',c',hv,hy',hc⟩,hr⟩:=h
 simp only[Value.slice.injEq,List.length_map]at hv
 obtain⟨ep,el,_⟩:=hv
 refine⟨el,fun i o hi=>?_⟩
 rcases hc with hc | ⟨hx,hc⟩
 ·have:ops=[]:=by simpa using hc
  rw[this]at hi;cases hi
 obtain⟨rfl,rfl⟩:=AQ hx hy' hy ep
 obtain⟨_,hcell⟩:=hc i o.row (by rw[List.getElem?_map,hi];rfl)
 have k0:=hcell 0 _ rfl
 have k1:=hcell 1 _ rfl
 have k2:=hcell 2 _ rfl
 exact⟨hx,k0,k1,k2,hr o (List.mem_of_getElem? hi)⟩
def oH:Sx.Spec where
 fn:=11
 own:=[]
 rd:=[0]
 res:=[.one .bool]
 pre:=fun xs Hs Rs=>∃ v n R ops,xs=[v,.int .i64 n]∧Rs=[R]∧vH R v ops∧n≤100
 post:=fun xs Hs Rs w Hs' F=>∀ v n R ops,xs=[v,.int .i64 n]→Rs=[R]→vH R v ops→∃ z,w=.bool z∧(z=true→(ops.length:Int)≤n∧∀ o∈ops,o.rows.length≤30)
def yr:Nd:=.and (.inv 0 [⟨50,0,.int .i64 (.lit 0)⟩,⟨51,0,.int .i64 (.lit 0)⟩] []) (.havoc 0 0 6 (.and (.e (.le (.lit 0) (.var 2))) (.and (.imp (.lt (.var 51) (.var 2)) (.and (.imp (.lt (.var 51) (.lit 100)) (.and (.inv 1 [⟨70,0,.int .i64 (.var 50)⟩,⟨71,0,.int .i64 (.lit 0)⟩] []) (.havoc 1 1 60 (.and (.e (.le (.lit 0) (.var 0))) (.and (.e (.le (.lit 0) (.var 1))) (.and (.e (.le (.lit 0) (.var 51))) (.and (.e (.his 5 (.var 0) (.add (.add (.var 1) (.mul (.var 51) (.lit 3))) (.lit 1)) 0 .slice)) (.and (.e (.le (.lit 0) (.hP 5 (.var 0) (.add (.add (.var 1) (.mul (.var 51) (.lit 3))) (.lit 1)) 0 2))) (.and (.imp (.lt (.var 71) (.hP 5 (.var 0) (.add (.add (.var 1) (.mul (.var 51) (.lit 3))) (.lit 1)) 0 2)) (.and (.imp (.lt (.var 71) (.lit 100)) (.and (.e (.le (.lit 0) (.hP 5 (.var 0) (.add (.add (.var 1) (.mul (.var 51) (.lit 3))) (.lit 1)) 0 0))) (.and (.e (.le (.lit 0) (.hP 5 (.var 0) (.add (.add (.var 1) (.mul (.var 51) (.lit 3))) (.lit 1)) 0 1))) (.and (.e (.le (.lit 0) (.var 71))) (.and (.e (.his 5 (.hP 5 (.var 0) (.add (.add (.var 1) (.mul (.var 51) (.lit 3))) (.lit 1)) 0 0) (.add (.hP 5 (.var 0) (.add (.add (.var 1) (.mul (.var 51) (.lit 3))) (.lit 1)) 0 1) (.var 71)) 0 .slice)) (.and (.e (.le (.lit 0) (.hP 5 (.hP 5 (.var 0) (.add (.add (.var 1) (.mul (.var 51) (.lit 3))) (.lit 1)) 0 0) (.add (.hP 5 (.var 0) (.add (.add (.var 1) (.mul (.var 51) (.lit 3))) (.lit 1)) 0 1) (.var 71)) 0 2))) (.back 1 1 [⟨70,0,.int .i64 (.wrap .i64 (.add (.var 70) (.ite (.lt (.lit 5000) (.hP 5 (.hP 5 (.var 0) (.add (.add (.var 1) (.mul (.var 51) (.lit 3))) (.lit 1)) 0 0) (.add (.hP 5 (.var 0) (.add (.add (.var 1) (.mul (.var 51) (.lit 3))) (.lit 1)) 0 1) (.var 71)) 0 2)) (.lit 5000) (.hP 5 (.hP 5 (.var 0) (.add (.add (.var 1) (.mul (.var 51) (.lit 3))) (.lit 1)) 0 0) (.add (.hP 5 (.var 0) (.add (.add (.var 1) (.mul (.var 51) (.lit 3))) (.lit 1)) 0 1) (.var 71)) 0 2))))⟩,⟨71,0,.int .i64 (.wrap .i64 (.add (.var 71) (.lit 1)))⟩] []))))))) (.imp (.not (.lt (.var 71) (.lit 100))) (.and (.imp (.lt (.lit 30) (.hP 5 (.var 0) (.add (.add (.var 1) (.mul (.var 51) (.lit 3))) (.lit 1)) 0 2)) (.post [.ro 5 [.var 0] true] (.sv (.one (.bool .ff))))) (.imp (.not (.lt (.lit 30) (.hP 5 (.var 0) (.add (.add (.var 1) (.mul (.var 51) (.lit 3))) (.lit 1)) 0 2))) (.back 0 0 [⟨50,0,.int .i64 (.var 70)⟩,⟨51,0,.int .i64 (.wrap .i64 (.add (.var 51) (.lit 1)))⟩] [])))))) (.imp (.not (.lt (.var 71) (.hP 5 (.var 0) (.add (.add (.var 1) (.mul (.var 51) (.lit 3))) (.lit 1)) 0 2))) (.and (.imp (.lt (.lit 30) (.hP 5 (.var 0) (.add (.add (.var 1) (.mul (.var 51) (.lit 3))) (.lit 1)) 0 2)) (.post [.ro 5 [.var 0] true] (.sv (.one (.bool .ff))))) (.imp (.not (.lt (.lit 30) (.hP 5 (.var 0) (.add (.add (.var 1) (.mul (.var 51) (.lit 3))) (.lit 1)) 0 2))) (.back 0 0 [⟨50,0,.int .i64 (.var 70)⟩,⟨51,0,.int .i64 (.wrap .i64 (.add (.var 51) (.lit 1)))⟩] []))))))))))))) (.imp (.not (.lt (.var 51) (.lit 100))) (.and (.imp (.le (.var 2) (.var 4)) (.post [.ro 5 [.var 0] true] (.sv (.one (.bool (.le (.var 50) (.lit 12000))))))) (.imp (.not (.le (.var 2) (.var 4))) (.post [.ro 5 [.var 0] true] (.sv (.one (.bool .ff))))))))) (.imp (.not (.lt (.var 51) (.var 2))) (.and (.imp (.le (.var 2) (.var 4)) (.post [.ro 5 [.var 0] true] (.sv (.one (.bool (.le (.var 50) (.lit 12000))))))) (.imp (.not (.le (.var 2) (.var 4))) (.post [.ro 5 [.var 0] true] (.sv (.one (.bool .ff))))))))))
def Fw:cy Tryz.prog [] oH.fn where
 Λ:=fun p=>if lp p then(if p.length>8 then some ⟨1,[(5,TI .i64 (.var 70)),(7,TI .i64 (.var 71))],[],80⟩else some ⟨0,[(5,TI .i64 (.var 50)),(6,TI .i64 (.var 51))],[],60⟩)else none
 args:=[.sv (.one (.sl (.var 0) (.var 1) (.var 2) (.var 3))),.sv (.one (.int .i64 (.var 4)))]
 mem:=[.ro 5 [.var 0] true]
 nv:=6
 nd:=yr
 ok:=by kernel_rfl
theorem CT:oH.OK Tryz.prog:=by
 refine Spec.b8 (Γ:=[]) (fun _ h=>nomatch h) ?_
 rintro xs Hs Rs hl1 hl2 ⟨v,n,R,ops,rfl,rfl,hO,hn⟩
 have e0:Hs=[]:=List.length_eq_zero_iff.1 hl1
 subst e0
 obtain⟨x,y,c,hv,hy,_⟩:=id hO.1
 rw[List.length_map]at hv
 subst hv
 have hat:=(hO.at hy).2
 refine⟨Fw,bx [x,y,ops.length,c,n] false [Hl.none,Hl.none,Hl.none,Hl.none,Hl.none,R],
  fun j q=>match j with | 0=>∃ i:Nat,q.i 51=i∧i≤ops.length∧∀ o∈ops.take i,o.rows.length≤30 | _=>∃ k:Nat,q.i 71=k∧k≤100,
  fun j q=>match j with | 0=>(ops.length-q.i 51).toNat | _=>(101-q.i 71).toNat,?_,CR (by intro r hr;simp [Fw]at hr;subst hr;exact⟨_,_,_,rfl⟩) rfl,(fun _ h=>nomatch h),?_⟩
 ·show [Value.slice (ar x y) ((ops.length:Int)).toNat ((c:Int)).toNat,_]=_
  simp only[Int.toNat_natCast];rfl
 show Nd.holds _ _ _ yr
 generalize hρ:bx [x,y,ops.length,c,n] false [Hl.none,Hl.none,Hl.none,Hl.none,Hl.none,R]=ρ
 have V:∀ q:Env,ae 6 ρ q→q.i 0=x∧q.i 1=y∧q.i 2=ops.length∧q.i 4=n∧q.h 5=R:=fun q hg=>by
  rw[hg.i 0 (by omega),hg.i 1 (by omega),hg.i 2 (by omega),hg.i 4 (by omega),hg.h 5 (by omega),←hρ]
  exact⟨rfl,rfl,rfl,rfl,rfl⟩
 clear hρ
 have out:∀ {q:Env} {e:E} {mem:Mem},(bo q e=true→(ops.length:Int)≤n∧∀ o∈ops,o.rows.length≤30)→postOf oH [.slice (ar x y) ops.length c,.int .i64 n] [] [R] q mem (.sv (.one (.bool e))):=by
  intro q e mem he
  refine fun _=>⟨[],[],rfl,rfl,⟨{Im with b:=fun _=>bo q e},rfl,trivial,trivial⟩,fun v' n' R' ops' e1 e2 h'=>?_⟩
  simp only[List.cons.injEq,Value.int.injEq,true_and,and_true]at e1 e2
  obtain⟨rfl,rfl⟩:=e1
  subst e2
  obtain rfl:=hO.uniq h'
  exact⟨_,rfl,he⟩
 have ff:∀ {q:Env} {mem:Mem},postOf oH [.slice (ar x y) ops.length c,.int .i64 n] [] [R] q mem (.sv (.one (.bool .ff))):=out fun e=>by rw[dK]at e;cases e
 unfold yr
 simp only[Nd.holds,X.pre,X.rel,X.n,Src.ok,Src.len,Src.bS,true_and,and_true,if_true,Nat.mul_one,Nat.add_zero,Nat.reduceAdd,List.length_cons,List.length_nil,bN,bK,aP,ba,bb,bM,bj,bJ,bI,bD,bd,bk,bL,bg,bf,aQ,bh,ah,ai,aE,aI,aK,ax,aF,aV,aT,au,aO,aC,aN,aB,TV.ev,SV.ev,CV.ev,List.map_cons,List.map_nil,bc.hl]
 refine⟨⟨0,rfl,Nat.zero_le _,fun o h=>by simp at h⟩,fun q g ⟨i,ei,hi,hall⟩=>?_⟩
 obtain⟨v0,v1,v2,v4,w5⟩:=V q g
 rw[v2,v4,ei]
 refine⟨by omega,fun hlt=>⟨fun h100=>?_,fun h100=>⟨fun hln=>absurd hln (by omega),fun _=>ff⟩⟩,fun hge=>⟨fun hln=>out fun _=>⟨hln,fun o ho=>hall o ?_⟩,fun _=>ff⟩⟩
 ·refine⟨⟨0,rfl,by omega⟩,fun q1 g1 ⟨k,ek,hk⟩=>?_⟩
  have G1:ae 6 ρ q1:=g.trans (g1.mono (by omega))
  obtain⟨z0,z1,z2,z4,z5⟩:=V q1 G1
  have hio:ops[i]?=some ops[i]:=List.getElem?_eq_getElem (by omega)
  obtain⟨hx,_,c1,_,hB⟩:=hat i _ hio
  obtain⟨us,x2,y2,c2,hu,hy2,hul,hcell,hrd⟩:=id hB
  have e1:R.cell x.toNat (y+(i:Int)*3+1).toNat=some ops[i].u:=by rw[show(y+(i:Int)*3+1).toNat=y.toNat+i*3+1 by omega];exact c1
  have s2u:cH (some (Value.slice (ar x2 y2) us.length c2)) 2=us.length:=by
   cases hs:ar x2 y2 with
   | none=>rfl
   | some a=>obtain⟨b,o,s⟩:=a;cases s<;>rfl
  rw[z0,z1,z5,g1.i 51 (by omega),ei,ek,e1,hu,s2u]
  have tail:∀ {mem:Mem},(30<(us.length:Int)→postOf oH [.slice (ar x y) ops.length c,.int .i64 n] [] [R] q1 mem (.sv (.one (.bool .ff))))∧(¬30<(us.length:Int)→(∃ j:Nat,IntKind.i64.wrap (q1.i 51+1)=j∧j≤ops.length∧∀ o∈ops.take j,o.rows.length≤30)∧((ops.length:Int)-IntKind.i64.wrap (q1.i 51+1)).toNat<((ops.length:Int)-i).toNat):=by
   refine⟨fun _=>ff,fun h30=>?_⟩
   have ew:IntKind.i64.wrap (q1.i 51+1)=((i+1:Nat):Int):=by rw[g1.i 51 (by omega),ei,wrap_i64 (by omega) (by omega)];rfl
   refine⟨⟨i+1,ew,by omega,fun o ho=>?_⟩,by rw[ew];omega⟩
   rw[List.take_add_one,hio,Option.toList_some]at ho
   rcases List.mem_append.1 ho with h | h
   ·exact hall o h
   ·rw[List.mem_singleton]at h;subst h;omega
  refine⟨hx,hy,by omega,rfl,by omega,fun h71=>⟨fun h1=>?_,fun _=>?_⟩,fun _=>?_⟩
  ·have h71:(k:Int)<us.length:=h71
   have huk:us[k]?=some us[k]:=List.getElem?_eq_getElem (by omega)
   obtain⟨hx2,hc2⟩:=hcell k _ huk
   have hRr:=hrd k _ _ huk (List.getElem?_eq_getElem (by omega))
   obtain⟨⟨_,_,_,s1⟩,s2,_⟩:=fw.parts hRr
   rw[H9 (by omega),Is hx2 hy2,show(y2+(k:Int)).toNat=y2.toNat+k by omega,hc2]
   refine⟨hx2,hy2,by omega,by rw[s1];rfl,by rw[s2];omega,⟨k+1,?_,by omega⟩,?_⟩
   ·show IntKind.i64.wrap (q1.i 71+1)=_
    rw[ek,wrap_i64 (by omega) (by omega)];rfl
   ·show(101-IntKind.i64.wrap (q1.i 71+1)).toNat<(101-(k:Int)).toNat
    rw[ek,wrap_i64 (by omega) (by omega)];omega
  ·exact⟨fun h=>tail.1 h,fun h=>(tail (mem:=[])).2 h⟩
  ·exact⟨fun h=>tail.1 h,fun h=>(tail (mem:=[])).2 h⟩
 ·rw[List.take_of_length_le (by omega)];exact ho
end Go.Proofs.YtomdimlnggpgbaaGreatDoor
namespace Go.Proofs.YtomdimlnggpgbaaGreatDoor
open Go Go.Sx Go.Pk
open Go.Proofs.YtomdimlnggpgbaaGreatDoor.D hiding bx aH hJ
def my:List Int:=List.replicate 16 0
theorem tk {m:Nat} (h:6≤m∧m≤16384):c9 (cw m)=0∧dW (cw m)=AA ⟨0,64*(((m/2:Nat):Int)-2),0,0,my,false⟩ [] ⟨((m/2:Nat):Int),64*(((m/2:Nat):Int)-2),0,0,my,false⟩ []:=by
 have hs:(cw m).n=m:=by
  show dj m=m
  unfold dj;omega
 have h1:Holds (cw m) 0 ((m/2:Nat):Int) 0 [] (List.replicate 16 0):=c8 (by omega) (by omega) (by omega)
 have h2:Holds (cw m) (m/2) ((m/2:Nat):Int) 0 [] (List.replicate 16 0):=c8 (by omega) (by omega) (by omega)
 have e1:jI (cw m)=⟨0,64*(((m/2:Nat):Int)-2),0,0,my,false⟩:=by unfold jI;rw[hs];exact h1.an
 have e2:fP (cw m)=⟨((m/2:Nat):Int),64*(((m/2:Nat):Int)-2),0,0,my,false⟩:=by unfold fP;rw[hs];exact h2.an
 have e3:gM (cw m)=[]:=by unfold gM;rw[hs];exact h1.aA
 have e4:dG (cw m)=[]:=by unfold dG;rw[hs];exact h2.aA
 refine⟨?_,?_⟩
 ·unfold c9
  rw[hs,if_neg (by omega)];rfl
 ·unfold dW
  rw[e1,e2,e3,e4,if_neg (by show ¬cY _<cY _;exact Int.lt_irrefl _)]
theorem qR (n:Int):bw (cw n).now:=fun z hz=>by
 have:=(List.mem_replicate.1 (show z∈List.replicate (64*dj n) 0 from hz)).2
 subst this
 decide
theorem nY:fS 0=0:=rfl
theorem px {D:DM} {S:SM} {rows:List (List Int)} (ho:S.over=false) (hk:cC rows) (hne:rows≠[]) (hr:((aD rows).length:Int)≤S.LA.most-S.bA.length) (he:(av D S.LA S.bA (aD rows) S.LA.note).e=0) :
 (cA D S rows).e=0∧(cA D S rows).D=(av D S.LA S.bA (aD rows) S.LA.note).D∧(cA D S rows).S=⟨(av D S.LA S.bA (aD rows) S.LA.note).L,(av D S.LA S.bA (aD rows) S.LA.note).bs,S.LB,S.bB,S.recs++rows,false⟩:=by
 have e:cA D S rows=vO D S rows (av D S.LA S.bA (aD rows) S.LA.note):=by
  unfold cA
  rw[if_neg (by rw[ho];simp),if_neg (fun h=>h hk),if_neg hne,if_neg (by omega)]
 rw[e]
 unfold vO
 rw[he,nY,if_pos rfl,if_neg (fun h=>h.1 rfl),ho]
 exact⟨rfl,rfl,rfl⟩
noncomputable def ET:List Sx.Spec:=[wN,jd,ot,sh,pe,uV,D5]
theorem Gs:∀ t∈ET,t.OK Tryz.prog:=fun t ht=>by
 simp only[ET,List.mem_cons,List.mem_nil_iff,or_false]at ht
 rcases ht with rfl | rfl | rfl | rfl | rfl | rfl | rfl
 ·exact AB
 ·exact tq
 ·exact BX
 ·exact zU
 ·exact xx
 ·exact BO
 ·exact D6
theorem HG:wN.res=[.one .ptr]:=rfl
theorem HH:jd.res=[.one .ptr,.one (.int .i64)]:=rfl
theorem Jh:ot.res=[.one (.int .i64)]:=rfl
theorem HI:sh.res=[.one (.int .i64)]:=rfl
theorem HJ:pe.res=[.one .sl]:=rfl
theorem wO {n:Int} {v:Value} {F:Hl} {K:List Hl} (hp:wN.post [.int .i64 n] [] [] v K F):aj F v (cw n):=by
 obtain⟨n1,hx1,hD1⟩:=hp
 have hx1:n=n1:=by simpa using hx1
 subst hx1
 exact hD1
theorem ml {dp v:Value} {H H' F:Hl} {D:DM} (hD:aj H dp D) (hp:jd.post [dp] [H] [] v [H'] F):∃ pv,aj H' dp D∧v=.tuple #[pv,.int .i64 (c9 D)]∧(c9 D=0→bT F pv dp (dW D))∧(c9 D≠0→pv=.pointer none):=by
 obtain⟨dp',Hx,D',H2,pv,e1,e2,hD',e3,hD2,hv,h1,h2⟩:=hp
 simp only[List.cons.injEq,and_true]at e1 e2 e3
 subst e1 e2 e3
 obtain rfl:=hD'.uniq hD
 exact⟨pv,hD2,hv,h1,h2⟩
theorem pP {p u dp v:Value} {H HD H' HD' R RA RG F:Hl} {S:SM} {D:DM} {rows:List (List Int)} (h1:bT H p dp S) (h2:aj HD dp D) (h3:bu R RA u rows) (hp:sh.post [p,u] [H,HD] [R,RA,RG] v [H',HD'] F) :
 aj HD' dp (cA D S rows).D∧bT H' p dp (cA D S rows).S∧v=.int .i64 (cA D S rows).e:=by
 obtain⟨p',u',Hx,HDx,Rx,RAx,RGx,dp',S',D',rows',H2,HD2,e1,e2,e3,k1,k2,k3,e4,k4,k5,hv⟩:=hp
 simp only[List.cons.injEq,and_true]at e1 e2 e3 e4
 obtain⟨a1,a2⟩:=e1
 obtain⟨a3,a4⟩:=e2
 obtain⟨a5,a6,a7⟩:=e3
 obtain⟨a8,a9⟩:=e4
 subst a1 a2 a3 a4 a5 a6 a7 a8 a9
 obtain⟨rfl,rfl⟩:=h1.rd.uniq k1.rd
 obtain rfl:=h2.uniq k2
 obtain rfl:=h3.uniq k3
 exact⟨k4,k5,hv⟩
theorem bT.ne {H:Hl} {x y:Int} {dp:Value} {S:SM} (h:bT H (.pointer (ar x y)) dp S):x≠ -1:=by
 obtain⟨a,_,_,_,_,_,_,he,_⟩:=h
 intro hx
 rw[hx,cW]at he
 cases he
theorem bF.Jb {F:Hl} {x y l c:Int} {rows:List (List Int)} (h:bF F (.slice (ar x y) l.toNat c.toNat) rows) (hl:0≤l):l=rows.length:=by
 obtain⟨_,_,_,e⟩:=h.rep
 simp only[Value.slice.injEq]at e
 omega
def nH:Sx.Spec where
 fn:=10
 own:=[]
 rd:=[2000000]
 res:=[.one .bool]
 pre:=fun xs Hs Rs=>∃ R g,xs=[]∧Rs=[R]∧Gl R g
 post:=fun xs Hs Rs v Hs' F=>v=.bool true
def tK:Nd:=.and (.pre (.call 0 1 [.sv (.one (.int .i64 (.lit 6)))] [] [])) (.ext (.call 0 1 [.sv (.one (.int .i64 (.lit 6)))] [] []) (.and (.pre (.call 1 3 [.sv (.one (.hptr (.var 1) (.var 2)))] [.hp 1 [] [.var 1] []] [])) (.ext (.call 1 3 [.sv (.one (.hptr (.var 1) (.var 2)))] [.hp 1 [] [.var 1] []] []) (.and (.imp (.eq (.var 5) (.lit 0)) (.and (.imp (.not (.eq (.var 3) (.lit (-1)))) (.and (.pre (.call 2 6 [.sv (.one (.hptr (.var 3) (.var 4)))] [] [.hp 4 [] [.var 3] [.var 1]])) (.ext (.call 2 6 [.sv (.one (.hptr (.var 3) (.var 4)))] [] [.hp 4 [] [.var 3] [.var 1]]) (.and (.imp (.eq (.var 6) (.lit 64)) (.ext (.alloc 7) (.ext (.cbs 8 7 [.int .u8 (.lit 120)] 5) (.ext (.alloc 9) (.and (.pre (.call 3 10 [.sv (.one (.hptr (.var 3) (.var 4))),.sv (.one (.sl (.var 9) (.lit 0) (.lit 1) (.lit 1)))] [.hp 4 [] [.var 3] [.var 1],.hp 3 [1] [.var 1] []] [.aS 9 [.sl (.var 7) (.lit 0) (.lit 1) (.lit 1)] 46,.hp 8 [] [.var 7] [],.ro 0 [.lit 0,.lit 1,.lit 2] false])) (.ext (.call 3 10 [.sv (.one (.hptr (.var 3) (.var 4))),.sv (.one (.sl (.var 9) (.lit 0) (.lit 1) (.lit 1)))] [.hp 4 [] [.var 3] [.var 1],.hp 3 [1] [.var 1] []] [.aS 9 [.sl (.var 7) (.lit 0) (.lit 1) (.lit 1)] 46,.hp 8 [] [.var 7] [],.ro 0 [.lit 0,.lit 1,.lit 2] false]) (.and (.imp (.eq (.var 10) (.lit 0)) (.and (.pre (.call 4 13 [.sv (.one (.hptr (.var 3) (.var 4)))] [] [.hp 10 [4] [.var 3] [.var 1]])) (.ext (.call 4 13 [.sv (.one (.hptr (.var 3) (.var 4)))] [] [.hp 10 [4] [.var 3] [.var 1]]) (.and (.e (.le (.lit 0) (.var 15))) (.post [.ro 0 [.lit 0,.lit 1,.lit 2] false,.hp 11 [3,1] [.var 1] [],.hp 10 [4] [.var 3] [.var 1],.hp 8 [] [.var 7] [],.dead,.hp 13 [] [.var 13] []] (.sv (.one (.bool (.eq (.var 15) (.lit 1)))))))))) (.imp (.not (.eq (.var 10) (.lit 0))) (.post [.ro 0 [.lit 0,.lit 1,.lit 2] false,.hp 11 [3,1] [.var 1] [],.hp 10 [4] [.var 3] [.var 1],.hp 8 [] [.var 7] [],.dead] (.sv (.one (.bool .ff)))))))))))) (.imp (.not (.eq (.var 6) (.lit 64))) (.post [.ro 0 [.lit 0,.lit 1,.lit 2] false,.hp 3 [1] [.var 1] [],.hp 4 [] [.var 3] [.var 1]] (.sv (.one (.bool .ff))))))))) (.imp (.eq (.var 3) (.lit (-1))) (.post [.ro 0 [.lit 0,.lit 1,.lit 2] false,.hp 3 [1] [.var 1] [],.hp 4 [] [.var 3] [.var 1]] (.sv (.one (.bool .ff))))))) (.imp (.not (.eq (.var 5) (.lit 0))) (.post [.ro 0 [.lit 0,.lit 1,.lit 2] false,.hp 3 [1] [.var 1] [],.hp 4 [] [.var 3] [.var 1]] (.sv (.one (.bool .ff)))))))))
noncomputable def pU:cy Tryz.prog ET nH.fn where
 Λ:=aH
 args:=[]
 mem:=[.ro 0 [.lit 0,.lit 1,.lit 2] false]
 nv:=1
 nd:=tK
 ok:=by kernel_rfl
theorem Jc:ET[0]?=some wN:=rfl
theorem Jd:ET[1]?=some jd:=rfl
theorem Je:ET[2]?=some ot:=rfl
theorem Jf:ET[3]?=some sh:=rfl
theorem Jg:ET[4]?=some pe:=rfl
theorem yq:cC [[120]]∧(aD [[120]]).length=2:=⟨by intro r hr;rw[List.mem_singleton]at hr;subst hr;decide,by
 have:aD [[120]]=[1,120]:=by
  show(aR [120]++[])=_
  unfold aR
  rw[fR (by decide)];rfl
 rw[this];rfl⟩
theorem tJ:(cA (cw 6) (AA ⟨0,64,0,0,my,false⟩ [] ⟨3,64,0,0,my,false⟩ []) [[120]]).e=0∧(cA (cw 6) (AA ⟨0,64,0,0,my,false⟩ [] ⟨3,64,0,0,my,false⟩ []) [[120]]).S.recs=[[120]]:=by
 have hH:Holds (cw 6) 0 3 0 [] (List.replicate 16 0):=c8 (by omega) (by omega) (by omega)
 have ha:=(hH.append (b:=aD [[120]]) (nt':=my) (by rw[yq.2];decide) (by decide) rfl).1
 obtain⟨a1,a2,a3⟩:=px (D:=cw 6) (S:=AA ⟨0,64,0,0,my,false⟩ [] ⟨3,64,0,0,my,false⟩ []) (rows:=[[120]]) rfl yq.1 (by simp) (by rw[yq.2];decide) ha
 refine⟨a1,?_⟩
 rw[a3];rfl
theorem AZ:nH.OK Tryz.prog:=by
 refine Spec.b8 (Γ:=ET) Gs ?_
 rintro xs Hs Rs hl1 hl2 ⟨R,g,rfl,rfl,hG⟩
 have e0:Hs=[]:=List.length_eq_zero_iff.1 hl1
 subst e0
 refine⟨pU,bx [] false [R],fun _ _=>True,fun _ _=>0,rfl,⟨?_,?_,?_,?_⟩,(fun _ h=>nomatch h),?_⟩
 ·intro r hr ho;simp [pU]at hr;subst hr;cases ho
 ·intro r hr ho;simp [pU]at hr;subst hr;exact⟨R,by simp,Hl.le_refl _⟩
 ·simp [pU]
 ·intro r hr;simp [pU]at hr;subst hr;trivial
 ·show Nd.holds _ _ _ tK
  generalize hρ:bx [] false [R]=ρ
  have w0:ρ.h 0=R:=by rw[←hρ];rfl
  clear hρ
  obtain⟨hE,hS⟩:=tk (m:=6) (by omega)
  have hE:c9 (cw 6)=0:=hE
  have hS:dW (cw 6)=AA ⟨0,64,0,0,my,false⟩ [] ⟨3,64,0,0,my,false⟩ []:=hS
  unfold tK
  simp only[Nd.holds,X.pre,X.rel,X.n,Src.ok,Src.len,Src.bS,true_and,and_true,if_true,Nat.mul_one,Nat.add_zero,Nat.reduceAdd,List.length_cons,List.length_nil,bN,bK,aP,ba,bb,bM,bj,bJ,bI,bD,bd,bk,bL,bg,bf,aQ,bh,ah,ai,aE,aI,aK,ax,aF,aV,aT,au,aO,aC,aN,aB,TV.ev,SV.ev,CV.ev,List.map_cons,List.map_nil,bc.hl,df,Cp.sv,Ck.cv,ct,Cp.len,Ck.len,aU,bm,bC,Jc,Jd,Je,Jf,Jg,HG,HH,Jh,HI,HJ,Ff,Kk,GC]
  refine⟨⟨6,rfl⟩,fun q1 g1 ⟨F1,hp1,hF1,_⟩=>?_⟩
  have hD1:=wO hp1
  rw[←hF1 trivial]at hD1
  refine⟨⟨_,_,_,rfl,rfl,hD1,oU (qR 6),oU (qR 6)⟩,fun q2 g2 ⟨F2,hp2,hF2,_⟩=>?_⟩
  obtain⟨pv,hD2,hv2,hs2,_⟩:=ml hD1 hp2
  simp only[Value.tuple.injEq,Array.mk.injEq,List.cons.injEq,Value.int.injEq,true_and,and_true]at hv2
  obtain⟨rfl,h5⟩:=hv2
  have hs2:=hs2 hE
  rw[hS,←hF2 trivial]at hs2
  rw[hE]at h5
  refine⟨fun _=>⟨fun _=>⟨⟨_,_,_,_,rfl,rfl,hs2.rd,by decide⟩,fun q3 g3 ⟨F3,hp3,_⟩=>?_⟩,fun h=>absurd h hs2.ne⟩,fun h=>absurd h5 h⟩
  have h6:=zD hs2.rd hp3
  have h6:q3.i 6=64:=by simpa [AA] using h6
  refine⟨fun _ q4 g4 p7 q5 g5 h8 q6 g6 p9=>?_,fun h=>absurd h6 h⟩
  have G6:ae 7 q3 q6:=g4.trans ((g5.trans (g6.mono (by omega))).mono (by omega))
  have G26:ae 6 q2 q6:=g3.trans (G6.mono (by omega))
  have e7:q6.i 7=q4.i 7:=by rw[g6.i 7 (by omega),g5.i 7 (by omega)]
  have hrows:bu (Hl.one (q6.i 9).toNat (.cells #[Value.slice (ar (q6.i 7) 0) (Int.toNat 1) (Int.toNat 1)] 46 (0,0))) (q6.h 8) (.slice (ar (q6.i 9) 0) (Int.toNat 1) (Int.toNat 1)) [[120]]:=by
   refine⟨[Value.slice (ar (q6.i 7) 0) (Int.toNat 1) (Int.toNat 1)],q6.i 9,0,1,rfl,Int.le_refl _,rfl,fun j u hj=>?_,fun j u r hj hr=>?_⟩
   ·refine⟨p9,?_⟩
    rw[Hl.one_cell]
    match j with
    | 0=>exact hj
   ·match j with
    | 0 =>
     have hj:Value.slice (ar (q6.i 7) 0) (Int.toNat 1) (Int.toNat 1)=u:=by simpa using hj
     have hr:[120]=r:=by simpa using hr
     subst hj hr
     refine⟨q6.i 7,0,1,rfl,Int.le_refl _,Or.inr ⟨by rw[e7];exact p7,fun j z hz=>?_⟩⟩
     rw[g6.h 8 (by omega),h8,e7,Hl.one_cell]
     match j with
     | 0=>cases hz;rfl
  have hs6:bT (q6.h 4) (.pointer (ar (q6.i 3) (q6.i 4))) (.pointer (ar (q1.i 1) (q1.i 2))) (AA ⟨0,64,0,0,my,false⟩ [] ⟨3,64,0,0,my,false⟩ []):=by
   rw[G26.h 4 (by omega),G26.i 3 (by omega),G26.i 4 (by omega)];exact hs2
  have hD6:aj (q6.h 3) (.pointer (ar (q1.i 1) (q1.i 2))) (cw 6):=by rw[G26.h 3 (by omega)];exact hD2
  have hG6:Gl (q6.h 0) g:=by
   rw[G26.h 0 (by omega),g2.h 0 (by omega),g1.h 0 (by omega),w0];exact hG
  refine⟨⟨_,_,_,_,_,_,_,g,_,_,_,[[120]],rfl,rfl,rfl,hs6,hD6,hrows,hG6,by decide,by decide,by decide,Int.le_refl _,by decide⟩,fun q7 g7 ⟨F7,hp7,_⟩=>?_⟩
  obtain⟨hD7,hs7,hv7⟩:=pP (H':=q7.h 10) (HD':=q7.h 11) hs6 hD6 hrows hp7
  rw[tJ.1]at hv7
  have hv7:q7.i 10=0:=by simpa using hv7
  rw[g7.i 3 (by omega),g7.i 4 (by omega)]
  refine⟨fun _=>⟨⟨_,_,_,_,rfl,rfl,hs7.rd,by rw[tJ.2];decide,by rw[tJ.2];decide⟩,fun q8 g8 ⟨F8,hp8,hF8,hn8⟩=>?_⟩,fun h=>absurd hv7 h⟩
  have hn8:-1≤q8.i 13∧0≤q8.i 14∧0≤q8.i 15∧0≤q8.i 16:=hn8.1
  have hr8:=oq hs7.rd hp8
  rw[tJ.2]at hr8
  have h15:q8.i 15=1:=bF.Jb hr8 hn8.2.2.1
  have hbv:bo q8 (.eq (.var 15) (.lit 1))=true:=by
   rw[nI,ai,ah,h15];rfl
  refine⟨hn8.2.2.1,fun _=>⟨[],[],rfl,rfl,⟨⟨fun _=>0,fun _=>true,fun _=>.empty,fun _=>.tuple #[],fun _=>Hl.none⟩,?_,trivial,trivial⟩,?_⟩⟩
  ·show Value.bool (bo q8 _)=.bool true
   rw[hbv]
  ·show Value.bool (bo q8 _)=.bool true
   rw[hbv]
end Go.Proofs.YtomdimlnggpgbaaGreatDoor
namespace Go.Proofs.YtomdimlnggpgbaaGreatDoor
open Go Go.Sx Go.Pk
open Go.Proofs.YtomdimlnggpgbaaGreatDoor.D hiding bx aH hJ
def yes (fn:FuncId) (pre:List Value→List Hl→Prop) (rd:List Nat):Sx.Spec where
 fn:=fn
 own:=[]
 rd:=rd
 res:=[.one .bool]
 pre:=fun xs Hs Rs=>pre xs Rs
 post:=fun xs Hs Rs v Hs' F=>v=.bool true
theorem vD {fn:FuncId} {pre:List Value→List Hl→Prop} {rd:List Nat} {xs:List Value} {Rs:List Hl} {q:Env} {mem:Mem} {e:E} (h:bo q e=true):postOf (yes fn pre rd) xs [] Rs q mem (.sv (.one (.bool e))):=fun _ =>
 ⟨[],[],rfl,rfl,⟨⟨fun _=>0,fun _=>true,fun _=>.empty,fun _=>.tuple #[],fun _=>Hl.none⟩,by show Value.bool (bo q e)=.bool true;rw[h],trivial,trivial⟩,by show Value.bool (bo q e)=.bool true;rw[h]⟩
end Go.Proofs.YtomdimlnggpgbaaGreatDoor
namespace Go.Proofs.YtomdimlnggpgbaaGreatDoor.D
open Go Go.Sx
theorem xe {D:DM} (h:D.ok) {i:Int} (hi:D.has i=true) {bs:List Int} (hb:bs.length=64) {j:Nat} (hj:¬(64*i.toNat≤j∧j<64*i.toNat+64)):(gf D i bs).now[j]?=D.now[j]?:=by
 rw[fU h hi hb,if_neg hj]
theorem yv (frm:Nat) (all:List Int) (B:Nat):∀ (f i:Nat) (D:DM),gG D→all.length+1≤f+i→all.length+64*(frm+2)≤64*D.n→64*(frm+2)+all.length≤64*B →
 ∀ j,(j<64*frm∨64*B≤j)→(bH frm all f i D).2.now[j]?=D.now[j]?:=by
 intro f
 induction f with
 | zero =>
  intro i D h h1 h2 h3 j hj
  show(aX D).2.now[j]?=_
  rw[(dt h).2.2.1]
 | succ f ih =>
  intro i D h h1 h2 h3 j hj
  have ec:(frm:Int)+2+i=((frm+2+i:Nat):Int):=by omega
  by_cases hlt:64*i<all.length
  ·have hi:D.has ((frm:Int)+2+i)=true:=by unfold DM.has;simp only[decide_eq_true_eq];omega
   have hw:=eE h hi (cK all i)
   have e:bH frm all (f+1) i D=bH frm all f (i+1) (gf D ((frm:Int)+2+i) (fW all i)):=by
    show(if 64*i<all.length then _ else _)=_
    rw[if_pos hlt,hw];simp
   rw[e,ih (i+1) _ (gu h hi (cK all i)) (by omega) h2 h3 j hj,xe h.ok hi (cK all i)]
   rw[ec,Int.toNat_natCast];omega
  ·have e:bH frm all (f+1) i D=aX D:=by
    show(if 64*i<all.length then _ else _)=_
    rw[if_neg hlt]
   rw[e,(dt h).2.2.1]
theorem Holds.out {D:DM} {frm:Nat} {n:Int} {k:Nat} {all nt:List Int} (h:Holds D frm n k all nt) {b nt':List Int} (hb:(all.length:Int)+b.length≤64*(n-2)) (hk:k<1000000) (hn':nt'.length=16) :
 (av D ⟨frm,64*(n-2),k,all.length,nt,false⟩ all b nt').D.n=D.n∧∀ j:Nat,((j:Int)<64*frm∨64*(frm+n)≤(j:Int))→(av D ⟨frm,64*(n-2),k,all.length,nt,false⟩ all b nt').D.now[j]?=D.now[j]?:=by
 obtain⟨r1,r2⟩:=h.rng
 have hDn:=h.sure.ok.n
 have hal:(all++b).length=all.length+b.length:=List.length_append
 obtain⟨L,hL⟩:∃ L:LM,L=⟨frm,64*(n-2),k,all.length,nt,false⟩:=⟨_,rfl⟩
 rw[←hL]
 have f1:L.frm=frm:=by rw[hL]
 have f2:L.most=64*(n-2):=by rw[hL]
 have f3:L.serial=k:=by rw[hL]
 have f4:L.over=false:=by rw[hL]
 obtain⟨F,hF⟩:∃ F,F=(dc D L.frm (all++b) all.length).2:=⟨_,rfl⟩
 obtain⟨a1,a2,a3,_,_⟩:=km frm (all++b) ((all++b).length+1) (all.length/64) D h.sure (by omega) (by omega)
 have ao:=yv frm (all++b) (frm+n.toNat) ((all++b).length+1) (all.length/64) D h.sure (by omega) (by omega) (by omega)
 have efr:dc D L.frm (all++b) all.length=bH frm (all++b) ((all++b).length+1) (all.length/64) D:=by
  unfold dc
  rw[f1,show(((all.length:Nat):Int)/64).toNat=all.length/64 by omega]
 rw[←efr]at a1 a2 a3 ao
 rw[←hF]at a2 a3 ao
 obtain⟨N,hN⟩:∃ N,N=cQ L (all++b) nt':=⟨_,rfl⟩
 have eN:N=((k+1:Nat):Int)::((all++b).length:Int)::nt':=by
  rw[hN];unfold cQ;rw[f3];rfl
 have hp:((k+1:Nat):Int).tmod 2=(((k+1)%2:Nat):Int):=by
  rw[Int.tmod_eq_emod_of_nonneg (by omega)];omega
 obtain⟨p,hpp⟩:∃ p,p=(k+1)%2:=⟨_,rfl⟩
 have hp2:p<2:=by omega
 obtain⟨b1,_⟩:=ig (a:=((k+1:Nat):Int)) (b:=((all++b).length:Int)) (nt:=nt') ⟨by omega,by omega⟩ ⟨by omega,by omega⟩ hn'
 rw[←eN]at b1
 have hhl:(aG N++aG N).length=64:=by rw[List.length_append,b1]
 have ei:∀ q:Nat,(frm:Int)+((q:Nat):Int)=((frm+q:Nat):Int):=fun q=>by omega
 have hasF:F.has ((frm:Int)+(p:Int))=true:=by unfold DM.has;rw[a3];simp only[decide_eq_true_eq];omega
 have hw:=eE a2 hasF hhl
 obtain⟨G,hG⟩:∃ G,G=gf F ((frm:Int)+(p:Int)) (aG N++aG N):=⟨_,rfl⟩
 rw[←hG]at hw
 have hGs:gG G:=by rw[hG];exact gu a2 hasF hhl
 have hGn:G.n=D.n:=by rw[hG,←a3];rfl
 obtain⟨s1,s2,s3,s4⟩:=dt hGs
 have htn:br F L.frm N=aX G:=by
  unfold br
  have e0:N.getD 0 0=((k+1:Nat):Int):=by rw[eN];rfl
  rw[f1,e0,hp,←hpp,hw];simp
 have hbec:bt D L (all++b) nt' all.length=(0,(aX G).2):=by
  unfold bt
  rw[if_neg (by rw[a1];simp),←hF,←hN,htn,if_neg (by rw[s1];simp)]
 have happ:av D L all b nt'=⟨0,(aX G).2,cU L (all++b) nt',all++b⟩:=by
  unfold av
  rw[f4,f3,f2,if_neg (by simp),if_neg (by omega),if_neg (by omega),hbec];rfl
 rw[happ]
 refine⟨s4.trans hGn,fun j hj=>?_⟩
 show(aX G).2.now[j]?=_
 rw[s3,hG,xe a2.ok hasF hhl (by rw[ei p,Int.toNat_natCast];omega)]
 exact ao j (by omega)
theorem Holds.cV {D D':DM} {frm:Nat} {n:Int} {k:Nat} {all nt:List Int} (h:Holds D frm n k all nt) (hs:gG D') (hn:D'.n=D.n) (hsame:∀ j:Nat,64*(frm:Int)≤j→(j:Int)<64*(frm+n)→D'.now[j]?=D.now[j]?):Holds D' frm n k all nt:=by
 obtain⟨r1,r2⟩:=h.rng
 have hl:=h.len
 have rd:∀ q:Nat,q<2→aM D' frm (64*(n-2)) (q:Int)=aM D frm (64*(n-2)) (q:Int):=by
  intro q hq
  refine jJ h.sure hs hn (by unfold DM.has;simp only[decide_eq_true_eq];omega) (di fun j h1 h2=>hsame j ?_ ?_)
  ·omega
  ·omega
 refine⟨hs,⟨r1,by rw[hn];exact r2⟩,hl,h.note,?_,?_,fun t z ht=>?_⟩
 ·rw[rd _ (by omega)];exact h.cur
 ·have e1:aM D' frm (64*(n-2)) 1=aM D frm (64*(n-2)) 1:=rd 1 (by omega)
  rw[rd _ (by omega),e1];exact h.oth
 ·have hlt:=(List.getElem?_eq_some_iff.1 ht).1
  rw[hsame _ (by omega) (by omega)]
  exact h.bytes t z ht
end Go.Proofs.YtomdimlnggpgbaaGreatDoor.D
namespace Go.Proofs.YtomdimlnggpgbaaGreatDoor
open Go Go.Sx Go.Pk
open Go.Proofs.YtomdimlnggpgbaaGreatDoor.D hiding bx aH hJ
theorem Fs {r rest:List Int} (h:r.length≤4096):tx (aR r++rest)=(r,rest,false):=by
 have e:dQ (aR r++rest)=(r.length,(fe r.length).length):=by
  unfold dQ aR
  rw[List.append_assoc,BC (by omega)]
  rfl
 have hp:=qU r.length
 unfold tx iW
 rw[e,if_neg]
 ·show(((aR r++rest).drop (fe r.length).length).take r.length,(aR r++rest).drop ((fe r.length).length+r.length),false)=_
  unfold aR
  rw[List.append_assoc,List.drop_left' rfl,List.take_left' rfl,←List.drop_drop,List.drop_left' rfl,List.drop_left' rfl]
 ·show ¬(false=true∨(fe r.length).length=0∨(4096:Int)<0∨min (min 4096 4096) (((aR r++rest).length:Int)-((fe r.length).length:Nat))<((r.length:Nat):Int))
  have:(aR r++rest).length=(fe r.length).length+r.length+rest.length:=by unfold aR;simp;omega
  rw[this]
  simp only[Bool.false_eq_true,false_or]
  omega
theorem jR (r:List Int) (rows:List (List Int)):aD (r::rows)=aR r++aD rows:=rfl
theorem tf (r:List Int):aD [r]=aR r:=by rw[jR];exact List.append_nil _
theorem nk (a b:List (List Int)):aD (a++b)=aD a++aD b:=by unfold aD;rw[List.map_append,List.flatten_append]
theorem iP:∀ {rows:List (List Int)},cC rows→fZ (aD rows)=rows
 | [],_=>rfl
 | r::rows,h=>by
  have hr:=h r (List.mem_cons_self ..)
  have hp:=qU r.length
  rw[jR,tw (by intro e;have:=congrArg List.length e;unfold aR at this;rw[List.length_append,List.length_append]at this;simp only[List.length_nil]at this;omega),Fs hr,if_neg (by simp)]
  show r::fZ (aD rows)=_
  rw[iP fun s hs=>h s (List.mem_cons_of_mem _ hs)]
theorem lU {r:List Int} (h:r.length≤100):(aR r).length≤101:=by
 unfold aR
 rw[fR (by omega)];simp;omega
theorem oa:∀ {rows:List (List Int)},(∀ r∈rows,r.length≤100)→(aD rows).length≤101*rows.length
 | [],_=>Nat.le_refl _
 | r::rows,h=>by
  have h1:=lU (h r (List.mem_cons_self ..))
  have h2:=oa (rows:=rows) fun s hs=>h s (List.mem_cons_of_mem _ hs)
  rw[jR,List.length_append,List.length_cons];omega
end Go.Proofs.YtomdimlnggpgbaaGreatDoor
namespace Go.Proofs.YtomdimlnggpgbaaGreatDoor
open Go Go.Sx Go.Pk
open Go.Proofs.YtomdimlnggpgbaaGreatDoor.D hiding bx aH hJ
def Bo (k:Nat) (all:List Int):LM:=⟨0,6272,k,all.length,my,false⟩
def sK:LM:=⟨100,6272,0,0,my,false⟩
structure GI (D:DM) (rows:List (List Int)) (k:Nat):Prop where
 n:D.n=200
 lo:Holds D 0 100 k (aD (rows.take k)) my
 hi:Holds D 100 100 0 [] my
 short:∀ r∈rows.take k,r.length≤100
theorem iM {rows:List (List Int)} (h:∀ r∈rows,bw r):bw (aD rows):=by
 intro z hz
 unfold aD at hz
 obtain⟨l,hl,hz⟩:=List.mem_flatten.1 hz
 obtain⟨r,hr,rfl⟩:=List.mem_map.1 hl
 unfold aR at hz
 rcases List.mem_append.1 hz with h1 | h1
 ·exact BD _ z h1
 ·exact h r hr z h1
theorem GI.new (rows:List (List Int)):GI (cw 200) rows 0 where
 n:=rfl
 lo:=c8 (by omega) (by omega) (by omega)
 hi:=c8 (by omega) (by omega) (by omega)
 short:=fun r hr=>by simp at hr
theorem GI.ok {D:DM} {rows:List (List Int)} {k:Nat} (h:GI D rows k):cC (rows.take k):=fun r hr=>by have:=h.short r hr;omega
theorem GI.open {D:DM} {rows:List (List Int)} {k:Nat} (h:GI D rows k):c9 D=0∧dW D=⟨Bo k (aD (rows.take k)),aD (rows.take k),sK,[],rows.take k,false⟩∧gM D=aD (rows.take k)∧dG D=[]:=by
 have e1:jI D=Bo k (aD (rows.take k)):=by unfold jI;rw[h.n];exact h.lo.an
 have e2:fP D=sK:=by unfold fP;rw[h.n];exact h.hi.an
 have e3:gM D=aD (rows.take k):=by unfold gM;rw[h.n];exact h.lo.aA
 have e4:dG D=[]:=by unfold dG;rw[h.n];exact h.hi.aA
 refine⟨?_,?_,e3,e4⟩
 ·unfold c9
  rw[h.n,h.lo.sure.gone,if_neg (by decide)];rfl
 ·unfold dW
  rw[e1,e2,e3,e4,if_neg (by show ¬cY _<cY _;exact Int.lt_irrefl _)]
  unfold AA
  rw[iP h.ok]
theorem GI.room {D:DM} {rows:List (List Int)} {k:Nat} (h:GI D rows k) (hk:k≤20):(aD (rows.take k)).length≤2020:=by
 have:=oa h.short
 have hl:(rows.take k).length≤k:=by rw[List.length_take];omega
 have:101*(rows.take k).length≤101*20:=Nat.mul_le_mul_left _ (by omega)
 omega
theorem GI.step {D:DM} {rows:List (List Int)} {k:Nat} {r:List Int} (h:GI D rows k) (hk:rows[k]?=some r) (hr:r.length≤100) (hk20:k<20):(cA D (dW D) [r]).e=0∧GI (cA D (dW D) [r]).D rows (k+1):=by
 obtain⟨_,hS,_,_⟩:=h.open
 have hroom:=h.room (by omega)
 have hone:(aD [r]).length≤101:=by rw[tf];exact lU hr
 have hcap:(((aD (rows.take k)).length:Nat):Int)+((aD [r]).length:Nat)≤64*((100:Int)-2):=by omega
 obtain⟨a1,a2,a3,a4⟩:=h.lo.append (b:=aD [r]) (nt':=my) hcap (by omega) rfl
 obtain⟨o1,o2⟩:=h.lo.out (b:=aD [r]) (nt':=my) hcap (by omega) rfl
 have hok:cC [r]:=fun s hs=>by rw[List.mem_singleton]at hs;subst hs;omega
 rw[hS]
 obtain⟨b1,b2,b3⟩:=px (D:=D) (S:=⟨Bo k (aD (rows.take k)),aD (rows.take k),sK,[],rows.take k,false⟩) (rows:=[r]) rfl hok (by simp) (by show((aD [r]).length:Int)≤6272-((aD (rows.take k)).length:Int);omega) a1
 refine⟨b1,?_⟩
 rw[b2]
 have hpk:=rf hk
 refine⟨o1.trans h.n,?_,?_,fun s hs=>?_⟩
 ·rw[hpk,←tf r];exact a2
 ·exact h.hi.cV a2.sure o1 fun j h1 h2=>o2 j (Or.inr (by omega))
 ·rw[List.take_add_one,hk,Option.toList_some]at hs
  rcases List.mem_append.1 hs with h1 | h1
  ·exact h.short s h1
  ·rw[List.mem_singleton]at h1;subst h1;exact hr
theorem GI.all {rows:List (List Int)} (hr:∀ r∈rows,r.length≤100) (hn:rows.length≤20):(cA (cw 200) (dW (cw 200)) rows).e=0∧(cA (cw 200) (dW (cw 200)) rows).S.recs=rows∧(cA (cw 200) (dW (cw 200)) rows).S.LA.most=6272∧(cA (cw 200) (dW (cw 200)) rows).S.bA=aD rows:=by
 have h:=GI.new rows
 obtain⟨_,hS,_,_⟩:=h.open
 have hlen:=oa hr
 have:101*rows.length≤101*20:=Nat.mul_le_mul_left _ hn
 have hok:cC rows:=fun r hm=>by have:=hr r hm;omega
 rw[hS]
 by_cases hne:rows=[]
 ·subst hne
  have e:cA (cw 200) ⟨Bo 0 (aD (List.take 0 [])),aD (List.take 0 []),sK,[],List.take 0 [],false⟩ []=⟨0,cw 200,⟨Bo 0 (aD (List.take 0 [])),aD (List.take 0 []),sK,[],List.take 0 [],false⟩⟩:=by
   unfold cA
   rw[if_neg (by simp),if_neg (fun h=>h hok),if_pos rfl]
  rw[e]
  exact⟨rfl,rfl,rfl,rfl⟩
 ·obtain⟨a1,a2,a3,a4⟩:=h.lo.append (b:=aD rows) (nt':=my) (by show((([]:List Int).length:Nat):Int)+_≤_;simp;omega) (by omega) rfl
  obtain⟨b1,b2,b3⟩:=px (D:=cw 200) (S:=⟨Bo 0 (aD (rows.take 0)),aD (rows.take 0),sK,[],rows.take 0,false⟩) (rows:=rows) rfl hok hne (by show((aD rows).length:Int)≤6272-0;omega) a1
  refine⟨b1,?_,?_,?_⟩
  ·rw[b3];rfl
  ·rw[b3]
   exact congrArg LM.most a4
  ·rw[b3]
   exact a3
end Go.Proofs.YtomdimlnggpgbaaGreatDoor
namespace Go.Proofs.YtomdimlnggpgbaaGreatDoor
open Go Go.Sx Go.Pk
open Go.Proofs.YtomdimlnggpgbaaGreatDoor.D hiding bx aH hJ
theorem tu {dp:Value} {H:Hl} {D:DM} (h:aj H dp D) (h1:bw (gM D)) (h2:bw (dG D)):jd.pre [dp] [H] []:=⟨_,_,_,rfl,rfl,h,h1,h2⟩
end Go.Proofs.YtomdimlnggpgbaaGreatDoor
