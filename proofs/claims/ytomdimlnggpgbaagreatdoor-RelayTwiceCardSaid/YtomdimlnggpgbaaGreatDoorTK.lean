/- RelayTwice. -/
import Derived.Test.YtomdimlnggpgbaaGreatDoorTJ
set_option linter.all false
set_option maxHeartbeats 4000000
namespace Go.Proofs.YtomdimlnggpgbaaGreatDoor
open Go Go.Sx Go.Pk
def Lm:List Ck:=[Ck.int .i64,Ck.int .u64]++List.replicate 32 (Ck.int .u8)++[Ck.int .i64,Ck.bool,Ck.int .u64]++List.replicate 16 (Ck.int .u8)++[Ck.slw]++List.replicate 6 (Ck.int .u64)++List.replicate 32 (Ck.int .u8)++[Ck.int .i64]++List.replicate 32 (Ck.int .u8)
def Rb:List Ck:=Lm++[.sl]
set_option maxRecDepth 20000 in
theorem HW (n:Nat):al n Rb=al n iL:=rfl
def m8:Sx.Spec where
 fn:=28
 own:=[]
 rd:=[0,100,2000003]
 res:=[.agg Rb]
 pre:=fun xs Hs Rs=>∃ v w row R T RG rows hs p,xs=[v,.int .i64 w,.agg row.toArray]/\Rs=[R,T,RG]/\bO R v qo rows/\fu T (rows.map (List.take 125)) hs/\rows.length<=100000/\(1<=w/\w<=6)/\gm T T row p/\uz RG 3
 post:=fun xs Hs Rs v' Hs' F=>∃ row',v'=.agg row'.toArray/\∀ v w row R T RG rows hs p,xs=[v,.int .i64 w,.agg row.toArray]->Rs=[R,T,RG]->bO R v qo rows->fu T (rows.map (List.take 125)) hs->gm T T row p->gm T F row' (jm hs w p)
def tY:List CV:=([.int .i64 (.var 4),.int .u64 (.wrap .u64 (.wrap .i64 (.add (.var 147) (.lit 1))))]++al 151 (List.replicate 32 (Ck.int .u8))++al 39 ([Ck.int .i64,Ck.bool,Ck.int .u64]++List.replicate 16 (Ck.int .u8)++[Ck.sl])++[.int .u64 (.ite (.eq (.wrap .i64 (.sub (.var 4) (.lit 1))) (.lit 0)) (.wrap .u64 (.var 147)) (.var 62)),.int .u64 (.ite (.eq (.wrap .i64 (.sub (.var 4) (.lit 1))) (.lit 1)) (.wrap .u64 (.var 147)) (.var 63)),.int .u64 (.ite (.eq (.wrap .i64 (.sub (.var 4) (.lit 1))) (.lit 2)) (.wrap .u64 (.var 147)) (.var 64)),.int .u64 (.ite (.eq (.wrap .i64 (.sub (.var 4) (.lit 1))) (.lit 3)) (.wrap .u64 (.var 147)) (.var 65)),.int .u64 (.ite (.eq (.wrap .i64 (.sub (.var 4) (.lit 1))) (.lit 4)) (.wrap .u64 (.var 147)) (.var 66)),.int .u64 (.ite (.eq (.wrap .i64 (.sub (.var 4) (.lit 1))) (.lit 5)) (.wrap .u64 (.var 147)) (.var 67))]++al 184 (List.replicate 32 (Ck.int .u8))++[.int .i64 (.lit 80)]++al 101 (List.replicate 32 (Ck.int .u8))++[.sl (.var 183) (.lit 0) (.lit 80) (.lit 80)])
def Br:Nd:=(fun i l h j f g=>(fun k c d=>(fun a b=>(.ext (.alloc 143) (.ext (.alloc 144) (.and (.pre g) (.ext g (.ext (.alloc 149) (.ext (.alloc 150) (.and (.e (.le h (.var 147))) (.and (.pre c) (.ext c (.and (.e (.le h f)) (.and (.e (.lt f (.lit 6))) (.and (.e (.and (.le h f) (.lt f (.lit 6)))) (.and (.e (.le h (.var 2))) (.and (.e (.le h (.var 135))) (.and (.imp (.lt h (.var 135)) (.and (.e (.le h (.var 133))) (.and (.e (.le h (.var 134))) (.and (.e (.his 141 (.var 133) (.var 134) 0 (.int .u8))) (.and (.pre d) (.ext d (.and (.pre a) (.ext a (.post [.ro 140 [.var 0] false,.ro 141 [.var 58] true,.ro 142 l false,.dead,.dead,.hp 145 [] [.var 145] [],.dead,.dead,.bD 183 i 5] (.sv (.agg tY))))))))))) (.imp (.not (.lt h (.var 135))) (.and (.pre d) (.ext d (.and (.pre b) (.ext b (.post [.ro 140 [.var 0] false,.ro 141 [.var 58] true,.ro 142 l false,.dead,.dead,.hp 145 [] [.var 145] [],.dead,.dead,.bD 183 j 5] (.sv (.agg tY)))))))))))))))))))))):Nd)) (.call 2 184 k [] [.bD 183 i 5,.ro 142 l false]) (.call 2 184 k [] [.bD 183 j 5,.ro 142 l false])) [.sv (.one (.sl (.var 183) h (.lit 80) (.lit 80)))] (.call 1 151 [.sv (.one (.sl (.var 145) (.var 146) (.var 147) (.var 148)))] [] [.hp 145 [] [.var 145] [],.ro 141 [.var 58] true,.ro 142 l false]) (.mk 183 5 [.int .u8 h] 1 (.lit 80))) (List.replicate 80 (CV.int .u8 (.hI 141 (.var 133) (.var 134) 0))) [.lit 3] (.lit 0) (List.replicate 80 (CV.int .u8 (.wrap .u8 (.var 2)))) (.wrap .i64 (.sub (.var 4) (.lit 1))) (.call 0 145 [.sv (.one (.sl (.var 0) (.var 1) (.var 2) (.var 3)))] [] [.ro 140 [.var 0] false])
noncomputable def Rr:List Sx.Spec:=[ia,uc,iz]
theorem Rt:∀ t∈Rr,t.OK Tryz.prog:=fun t ht=>by
 simp only[Rr,Zl,Zq,ZO]at ht;rcases ht with rfl | rfl | rfl
 .exact rS
 .exact DI
 .exact xI
theorem VY:Rr[0]?=some ia:=rfl
theorem VZ:Rr[1]?=some uc:=rfl
theorem V0:Rr[2]?=some iz:=rfl
theorem V1:ia.res=[.one .sl]:=rfl
theorem V2:iz.res=[.agg (List.replicate 32 (Ck.int .u8))]:=rfl
noncomputable def MD:bU Tryz.prog Rr m8.fn where
 Λ:=aM
 args:=.sv (.one (.sl (.var 0) (.var 1) (.var 2) (.var 3)))::TI .i64 (.var 4)::(bf 5 [.agg iL]).map .sv
 mem:=[.ro 140 [.var 0] false,.ro 141 [.var 58] true,.ro 142 [.lit 3] false]
 nv:=143
 nd:=Br
 ok:=by kernel_rfl
end Go.Proofs.YtomdimlnggpgbaaGreatDoor
