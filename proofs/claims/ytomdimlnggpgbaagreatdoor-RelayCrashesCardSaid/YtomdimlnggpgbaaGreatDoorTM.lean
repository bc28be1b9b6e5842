/- RelayCrashes. -/
import Derived.Test.YtomdimlnggpgbaaGreatDoorTL
set_option linter.all false
set_option maxHeartbeats 4000000
namespace Go.Proofs.YtomdimlnggpgbaaGreatDoor
open Go Go.Sx Go.Pk
def Om:List Ck:=[Ck.int .i64,Ck.int .u64]++List.replicate 32 (Ck.int .u8)++[Ck.int .i64,Ck.bool,Ck.int .u64]++List.replicate 16 (Ck.int .u8)++[Ck.slw]++List.replicate 6 (Ck.int .u64)++List.replicate 32 (Ck.int .u8)++[Ck.int .i64]++List.replicate 32 (Ck.int .u8)
def Ta:List Ck:=Om++[.sl]
set_option maxRecDepth 20000 in
def Ku (n:Nat):ar n Ta=ar n jU:=rfl
def qH:Sx.Spec where
 fn:=28
 own:=[]
 rd:=[0,100,2000003]
 res:=[.agg Ta]
 pre:=fun xs Hs Rs=>∃ v w row R T RG rows hs p,xs=[v,.int .i64 w,.agg row.toArray]/\Rs=[R,T,RG]/\bq R v rE rows/\XT R T (rows.map (List.take 125)) hs/\rows.length<=100000/\(1<=w/\w<=6)/\gY T T row p/\ve RG 3
 post:=fun xs Hs Rs v' Hs' F=>∃ row',v'=.agg row'.toArray/\∀ v w row R T RG rows hs p,xs=[v,.int .i64 w,.agg row.toArray]->Rs=[R,T,RG]->bq R v rE rows->XT R T (rows.map (List.take 125)) hs->gY T T row p->gY T F row' (kX hs w p)
def Ax:List CV:=([.int .i64 (.var 4),.int .u64 (.wrap .u64 (.wrap .i64 (.add (.var 147) (.lit 1))))]++ar 151 (List.replicate 32 (Ck.int .u8))++ar 39 ([Ck.int .i64,Ck.bool,Ck.int .u64]++List.replicate 16 (Ck.int .u8)++[Ck.sl])++[.int .u64 (.ite (.eq (.wrap .i64 (.sub (.var 4) (.lit 1))) (.lit 0)) (.wrap .u64 (.var 147)) (.var 62)),.int .u64 (.ite (.eq (.wrap .i64 (.sub (.var 4) (.lit 1))) (.lit 1)) (.wrap .u64 (.var 147)) (.var 63)),.int .u64 (.ite (.eq (.wrap .i64 (.sub (.var 4) (.lit 1))) (.lit 2)) (.wrap .u64 (.var 147)) (.var 64)),.int .u64 (.ite (.eq (.wrap .i64 (.sub (.var 4) (.lit 1))) (.lit 3)) (.wrap .u64 (.var 147)) (.var 65)),.int .u64 (.ite (.eq (.wrap .i64 (.sub (.var 4) (.lit 1))) (.lit 4)) (.wrap .u64 (.var 147)) (.var 66)),.int .u64 (.ite (.eq (.wrap .i64 (.sub (.var 4) (.lit 1))) (.lit 5)) (.wrap .u64 (.var 147)) (.var 67))]++ar 184 (List.replicate 32 (Ck.int .u8))++[.int .i64 (.lit 80)]++ar 101 (List.replicate 32 (Ck.int .u8))++[.sl (.var 183) (.lit 0) (.lit 80) (.lit 80)])
noncomputable def Yl:List Sx.Spec:=[lV,M4 AD [0,6000000,6000001,2000003],kG]
def Vi:∀ t∈Yl,t.OK Tryz.prog:=av uH <| av (we Gt) <| av AB <| bW
def ZM:lV.res=[.one .sl]:=rfl
def ZN:(M4 AD [0,6000000,6000001,2000003]).res=[.agg (List.replicate 32 (Ck.int .u8))]:=rfl
def ZO:kG.res=[.agg (List.replicate 32 (Ck.int .u8))]:=rfl
noncomputable def PF:aG Tryz.prog Yl qH.fn where
 Λ:=aC
 args:=.sv (.one (.sl (.var 0) (.var 1) (.var 2) (.var 3)))::TI .i64 (.var 4)::(cA 5 [.agg jU]).map .sv
 mem:=[.ro 140 [.var 0] false,.ro 141 [.var 58] true,.ro 142 [.lit 3] false]
 nv:=143
end Go.Proofs.YtomdimlnggpgbaaGreatDoor
