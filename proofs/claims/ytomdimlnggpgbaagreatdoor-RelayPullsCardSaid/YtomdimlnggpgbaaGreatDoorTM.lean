/- RelayPulls. -/
import Derived.Test.YtomdimlnggpgbaaGreatDoorTL
set_option linter.all false
set_option maxHeartbeats 4000000
namespace Go.Proofs.YtomdimlnggpgbaaGreatDoor
open Go Go.Sx Go.Pk
def IS:List Ck:=[Ck.int .i64,Ck.int .u64]++List.replicate 32 (Ck.int .u8)++[Ck.int .i64,Ck.bool,Ck.int .u64]++List.replicate 16 (Ck.int .u8)++[Ck.slw]++List.replicate 6 (Ck.int .u64)++List.replicate 32 (Ck.int .u8)++[Ck.int .i64]++List.replicate 32 (Ck.int .u8)
def RD:List Ck:=IS++[.sl]
set_option maxRecDepth 20000 in
def Jj (n:Nat):ak n RD=ak n gJ:=rfl
def pU:Sx.Spec where
 fn:=28
 own:=[]
 rd:=[0,100,2000003]
 res:=[.agg RD]
 pre:=fun xs Hs Rs=>∃ v w row R T RG rows hs p,xs=[v,.int .i64 w,.agg row.toArray]/\Rs=[R,T,RG]/\aJ R v mP rows/\WE R T (rows.map (List.take 125)) hs/\rows.length<=100000/\(1<=w/\w<=6)/\dz T T row p/\uf RG 3
 post:=fun xs Hs Rs v' Hs' F=>∃ row',v'=.agg row'.toArray/\∀ v w row R T RG rows hs p,xs=[v,.int .i64 w,.agg row.toArray]->Rs=[R,T,RG]->aJ R v mP rows->WE R T (rows.map (List.take 125)) hs->dz T T row p->dz T F row' (ke hs w p)
def zx:List CV:=([.int .i64 (.var 4),.int .u64 (.wrap .u64 (.wrap .i64 (.add (.var 147) (.lit 1))))]++ak 151 (List.replicate 32 (Ck.int .u8))++ak 39 ([Ck.int .i64,Ck.bool,Ck.int .u64]++List.replicate 16 (Ck.int .u8)++[Ck.sl])++[.int .u64 (.ite (.eq (.wrap .i64 (.sub (.var 4) (.lit 1))) (.lit 0)) (.wrap .u64 (.var 147)) (.var 62)),.int .u64 (.ite (.eq (.wrap .i64 (.sub (.var 4) (.lit 1))) (.lit 1)) (.wrap .u64 (.var 147)) (.var 63)),.int .u64 (.ite (.eq (.wrap .i64 (.sub (.var 4) (.lit 1))) (.lit 2)) (.wrap .u64 (.var 147)) (.var 64)),.int .u64 (.ite (.eq (.wrap .i64 (.sub (.var 4) (.lit 1))) (.lit 3)) (.wrap .u64 (.var 147)) (.var 65)),.int .u64 (.ite (.eq (.wrap .i64 (.sub (.var 4) (.lit 1))) (.lit 4)) (.wrap .u64 (.var 147)) (.var 66)),.int .u64 (.ite (.eq (.wrap .i64 (.sub (.var 4) (.lit 1))) (.lit 5)) (.wrap .u64 (.var 147)) (.var 67))]++ak 184 (List.replicate 32 (Ck.int .u8))++[.int .i64 (.lit 80)]++ak 101 (List.replicate 32 (Ck.int .u8))++[.sl (.var 183) (.lit 0) (.lit 80) (.lit 80)])
noncomputable def W8:List Sx.Spec:=[kQ,LH zE [0,6000000,6000001,2000003],jS]
def TU:∀ t∈W8,t.OK Tryz.prog:=av tI <| av (vj Fe) <| av zD <| bN
def Yy:kQ.res=[.one .sl]:=rfl
def Yz:(LH zE [0,6000000,6000001,2000003]).res=[.agg (List.replicate 32 (Ck.int .u8))]:=rfl
def YA:jS.res=[.agg (List.replicate 32 (Ck.int .u8))]:=rfl
noncomputable def Oh:aF Tryz.prog W8 pU.fn where
 Λ:=aD
 args:=.sv (.one (.sl (.var 0) (.var 1) (.var 2) (.var 3)))::TI .i64 (.var 4)::(bW 5 [.agg gJ]).map .sv
 mem:=[.ro 140 [.var 0] false,.ro 141 [.var 58] true,.ro 142 [.lit 3] false]
 nv:=143
end Go.Proofs.YtomdimlnggpgbaaGreatDoor
