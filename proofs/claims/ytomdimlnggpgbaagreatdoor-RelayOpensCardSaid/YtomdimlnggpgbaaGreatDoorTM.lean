/- RelayOpens. -/
import Derived.Test.YtomdimlnggpgbaaGreatDoorTL
set_option linter.all false
set_option maxHeartbeats 4000000
namespace Go.Proofs.YtomdimlnggpgbaaGreatDoor
open Go Go.Sx Go.Pk
def M9:List Ck:=[Ck.int .i64,Ck.int .u64]++List.replicate 32 (Ck.int .u8)++[Ck.int .i64,Ck.bool,Ck.int .u64]++List.replicate 16 (Ck.int .u8)++[Ck.slw]++List.replicate 6 (Ck.int .u64)++List.replicate 32 (Ck.int .u8)++[Ck.int .i64]++List.replicate 32 (Ck.int .u8)
def RB:List Ck:=M9++[.sl]
set_option maxRecDepth 20000 in
theorem Jt (n:Nat):ar n RB=ar n iT:=rfl
def pY:Sx.Spec where
 fn:=28
 own:=[]
 rd:=[0,100,2000003]
 res:=[.agg RB]
 pre:=fun xs Hs Rs=>∃ v w row R T RG rows hs p,xs=[v,.int .i64 w,.agg row.toArray]/\Rs=[R,T,RG]/\bj R v rI rows/\Wn R T (rows.map (List.take 125)) hs/\rows.length<=100000/\(1<=w/\w<=6)/\fM T T row p/\uu RG 3
 post:=fun xs Hs Rs v' Hs' F=>∃ row',v'=.agg row'.toArray/\∀ v w row R T RG rows hs p,xs=[v,.int .i64 w,.agg row.toArray]->Rs=[R,T,RG]->bj R v rI rows->Wn R T (rows.map (List.take 125)) hs->fM T T row p->fM T F row' (jM hs w p)
def zR:List CV:=([.int .i64 (.var 4),.int .u64 (.wrap .u64 (.wrap .i64 (.add (.var 147) (.lit 1))))]++ar 151 (List.replicate 32 (Ck.int .u8))++ar 39 ([Ck.int .i64,Ck.bool,Ck.int .u64]++List.replicate 16 (Ck.int .u8)++[Ck.sl])++[.int .u64 (.ite (.eq (.wrap .i64 (.sub (.var 4) (.lit 1))) (.lit 0)) (.wrap .u64 (.var 147)) (.var 62)),.int .u64 (.ite (.eq (.wrap .i64 (.sub (.var 4) (.lit 1))) (.lit 1)) (.wrap .u64 (.var 147)) (.var 63)),.int .u64 (.ite (.eq (.wrap .i64 (.sub (.var 4) (.lit 1))) (.lit 2)) (.wrap .u64 (.var 147)) (.var 64)),.int .u64 (.ite (.eq (.wrap .i64 (.sub (.var 4) (.lit 1))) (.lit 3)) (.wrap .u64 (.var 147)) (.var 65)),.int .u64 (.ite (.eq (.wrap .i64 (.sub (.var 4) (.lit 1))) (.lit 4)) (.wrap .u64 (.var 147)) (.var 66)),.int .u64 (.ite (.eq (.wrap .i64 (.sub (.var 4) (.lit 1))) (.lit 5)) (.wrap .u64 (.var 147)) (.var 67))]++ar 184 (List.replicate 32 (Ck.int .u8))++[.int .i64 (.lit 80)]++ar 101 (List.replicate 32 (Ck.int .u8))++[.sl (.var 183) (.lit 0) (.lit 80) (.lit 80)])
noncomputable def WT:List Sx.Spec:=[kq,Ik zW [0,6000000,6000001,2000003],jC]
theorem TQ:∀ t∈WT,t.OK Tryz.prog:=au tQ <| au (sF rfl Fs) <| au zV <| bR
theorem Yi:kq.res=[.one .sl]:=rfl
theorem Yj:(Ik zW [0,6000000,6000001,2000003]).res=[.agg (List.replicate 32 (Ck.int .u8))]:=rfl
theorem Yk:jC.res=[.agg (List.replicate 32 (Ck.int .u8))]:=rfl
noncomputable def Om:aG Tryz.prog WT pY.fn where
 Λ:=aC
 args:=.sv (.one (.sl (.var 0) (.var 1) (.var 2) (.var 3)))::TI .i64 (.var 4)::(cn 5 [.agg iT]).map .sv
 mem:=[.ro 140 [.var 0] false,.ro 141 [.var 58] true,.ro 142 [.lit 3] false]
 nv:=143
end Go.Proofs.YtomdimlnggpgbaaGreatDoor
