/- Pull after pull, for all and with bodies, brings every piece laid in a door once, each whole and in its writer's order: a part of the proof. No condition. -/
import Derived.Test.YtbdikjnpbnobcaaGreatDoorTK
set_option linter.all false
set_option maxHeartbeats 4000000
namespace Go.Proofs.YtbdikjnpbnobcaaGreatDoor
open Go Go.Sx Go.Pk
def Lg:List Ck:=[Ck.int .i64,Ck.int .u64]++List.replicate 32 (Ck.int .u8)++[Ck.int .i64,Ck.bool,Ck.int .u64]++List.replicate 16 (Ck.int .u8)++[Ck.slw]++List.replicate 6 (Ck.int .u64)++List.replicate 32 (Ck.int .u8)++[Ck.int .i64]++List.replicate 32 (Ck.int .u8)
def X9:List Ck:=Lg++[.sl]
set_option maxRecDepth 20000 in
def Us (n:Nat):aj n X9=aj n fI:=rfl
def xu:Sx.Spec where
 fn:=14
 own:=[]
 rd:=[0,100,2000000]
 res:=[.agg X9]
 pre:=fun xs Hs Rs=>∃ v w row R T RG rows hs p,xs=[v,.int .i64 w,.agg row.toArray]/\Rs=[R,T,RG]/\bd R v oj rows/\HdU R T (rows.map (List.take 125)) hs/\rows.length<=100000/\(1<=w/\w<=6)/\cH T T row p/\yT RG 0
 post:=fun xs Hs Rs v' Hs' F=>∃ row',v'=.agg row'.toArray/\∀ v w row R T RG rows hs p,xs=[v,.int .i64 w,.agg row.toArray]->Rs=[R,T,RG]->bd R v oj rows->HdU R T (rows.map (List.take 125)) hs->cH T T row p->cH T F row' (ET hs w p)
def BM:List CV:=([.int .i64 (.var 4),.int .u64 (.wrap .u64 (.wrap .i64 (.add (.var 147) (.lit 1))))]++aj 151 (List.replicate 32 (Ck.int .u8))++aj 39 ([Ck.int .i64,Ck.bool,Ck.int .u64]++List.replicate 16 (Ck.int .u8)++[Ck.sl])++[.int .u64 (.ite (.eq (.wrap .i64 (.sub (.var 4) (.lit 1))) (.lit 0)) (.wrap .u64 (.var 147)) (.var 62)),.int .u64 (.ite (.eq (.wrap .i64 (.sub (.var 4) (.lit 1))) (.lit 1)) (.wrap .u64 (.var 147)) (.var 63)),.int .u64 (.ite (.eq (.wrap .i64 (.sub (.var 4) (.lit 1))) (.lit 2)) (.wrap .u64 (.var 147)) (.var 64)),.int .u64 (.ite (.eq (.wrap .i64 (.sub (.var 4) (.lit 1))) (.lit 3)) (.wrap .u64 (.var 147)) (.var 65)),.int .u64 (.ite (.eq (.wrap .i64 (.sub (.var 4) (.lit 1))) (.lit 4)) (.wrap .u64 (.var 147)) (.var 66)),.int .u64 (.ite (.eq (.wrap .i64 (.sub (.var 4) (.lit 1))) (.lit 5)) (.wrap .u64 (.var 147)) (.var 67))]++aj 184 (List.replicate 32 (Ck.int .u8))++[.int .i64 (.lit 80)]++aj 101 (List.replicate 32 (Ck.int .u8))++[.sl (.var 183) (.lit 0) (.lit 80) (.lit 80)])
noncomputable def riΓ:List Sx.Spec:=[mn,Vo BT [0,6000000,6000001,2000000],kV]
def YB:∀ t∈riΓ,t.OK Tryz.prog:=ak wv <| ak (Ff HN) <| ak BS <| bu
def aet:mn.res=[.one .sl]:=rfl
def aeu:(Vo BT [0,6000000,6000001,2000000]).res=[.agg (List.replicate 32 (Ck.int .u8))]:=rfl
def aev:kV.res=[.agg (List.replicate 32 (Ck.int .u8))]:=rfl
noncomputable def YA:aD Tryz.prog riΓ xu.fn where
 Λ:=aA
 args:=.sv (.one (.sl (.var 0) (.var 1) (.var 2) (.var 3)))::TI .i64 (.var 4)::(bQ 5 [.agg fI]).map .sv
 mem:=[.ro 140 [.var 0] false,.ro 141 [.var 58] true,.ro 142 [.lit 0] false]
 nv:=143
end Go.Proofs.YtbdikjnpbnobcaaGreatDoor
