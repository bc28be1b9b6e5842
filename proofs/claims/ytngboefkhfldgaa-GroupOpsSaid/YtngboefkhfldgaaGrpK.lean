/- Layer 17: GroupKeeps' loop and body. Condition: the steps read as steps. -/
import Derived.Test.YtngboefkhfldgaaGrpS
set_option linter.unusedSimpArgs false
set_option linter.unusedVariables false
set_option linter.constructorNameAsVariable false
namespace Go.Proofs.Ytngboefkhfldgaa
open Go Go.Ex Go.RowKit

def pK : List Nat := [1, 1, 1, 0, 1, 0]
def hdK : St := ⟨[some ⟨.tt, .sv (.one (.rsl (.var 0) (.var 1) (.var 2) (.var 3)))⟩, none, none, some ⟨.tt, .sv (.one (.ptr 0 0))⟩, some ⟨.tt, .sv (.one (.int .i64 (.var 4)))⟩, none, none, none, none, none, none, none, none, none, none, none, none, none, none, none, none, none, none, none, none, none, none, none, none, none, none, none, none, none, none, none, none, none, none, none, none, none, none, none, none, none, none, none, none, none, none, none, none, none, none, none, none, none, none, none, none, none, none, none, none, none, none, none, none, none, none, none, none, none, none, none, none, none, none, none, none, none, none, none, none, none, none, none, none, none, none, none, none, none, none, none, none, none, none, none, none, none, none, none, none, none, none], [some ([.int .i64 (.var 5), .int .i64 (.var 6), .bool (.bvar 7), .bool (.bvar 8), .bool (.bvar 9), .bool (.bvar 10), .bool (.bvar 11), .bool (.bvar 12), .bool (.bvar 13), .bool (.bvar 14), .bool (.bvar 15), .bool (.bvar 16), .bool (.bvar 17), .bool (.bvar 18), .int .u64 (.var 19), .int .u64 (.var 20), .int .u64 (.var 21), .int .u64 (.var 22), .int .u64 (.var 23), .int .u64 (.var 24), .int .i64 (.var 25)], 28)], .tt, 26⟩
def sK : St := ⟨[some ⟨.tt, .sv (.one (.rsl (.var 0) (.var 1) (.var 2) (.var 3)))⟩, none, none, some ⟨.tt, .sv (.one (.ptr 0 0))⟩, some ⟨.tt, .sv (.one (.int .i64 (.wrap .i64 (.add (.var 4) (.lit 1)))))⟩, some ⟨.tt, .sv (.one (.ptr 1 0))⟩, none, none, none, none, none, none, none, none, none, none, some ⟨.tt, .sv (.one (.int .i64 (.var 4)))⟩, some ⟨.tt, .sv (.one (.rsl (.var 0) (.var 1) (.var 2) (.var 3)))⟩, some ⟨.tt, .sv (.one (.int .i64 (.var 2)))⟩, some ⟨.tt, .sv (.one (.bool (.lt (.var 4) (.var 2))))⟩, some ⟨.tt, .sv (.one (.int .i64 (.var 4)))⟩, some ⟨.tt, .sv (.one (.int .i64 (.wrap .i64 (.add (.var 4) (.lit 1)))))⟩, some ⟨.tt, .sv (.one (.rsl (.var 0) (.var 1) (.var 2) (.var 3)))⟩, some ⟨.tt, .sv (.one (.int .i64 (.var 4)))⟩, some ⟨.tt, .sv (.one (.rptr (.var 0) (.add (.var 1) (.mul (.var 4) (.lit 4)))))⟩, some ⟨.tt, .sv (.agg [.int .i64 (.romI (.var 0) (.add (.var 1) (.mul (.var 4) (.lit 4))) 0), .int .i64 (.romI (.var 0) (.add (.var 1) (.mul (.var 4) (.lit 4))) 1), .int .i64 (.romI (.var 0) (.add (.var 1) (.mul (.var 4) (.lit 4))) 2), .int .u64 (.romI (.var 0) (.add (.var 1) (.mul (.var 4) (.lit 4))) 3)])⟩, some ⟨.tt, .sv (.agg [.int .i64 (.var 5), .int .i64 (.var 6), .bool (.bvar 7), .bool (.bvar 8), .bool (.bvar 9), .bool (.bvar 10), .bool (.bvar 11), .bool (.bvar 12), .bool (.bvar 13), .bool (.bvar 14), .bool (.bvar 15), .bool (.bvar 16), .bool (.bvar 17), .bool (.bvar 18), .int .u64 (.var 19), .int .u64 (.var 20), .int .u64 (.var 21), .int .u64 (.var 22), .int .u64 (.var 23), .int .u64 (.var 24), .int .i64 (.var 25)])⟩, some ⟨.tt, .sv (.one (.ptr 1 0))⟩, some ⟨.tt, .sv (.one (.int .i64 (.romI (.var 0) (.add (.var 1) (.mul (.var 4) (.lit 4))) 0)))⟩, some ⟨.tt, .sv (.one (.ptr 1 1))⟩, some ⟨.tt, .sv (.one (.int .i64 (.romI (.var 0) (.add (.var 1) (.mul (.var 4) (.lit 4))) 1)))⟩, some ⟨.tt, .sv (.one (.ptr 1 2))⟩, some ⟨.tt, .sv (.one (.int .i64 (.romI (.var 0) (.add (.var 1) (.mul (.var 4) (.lit 4))) 2)))⟩, some ⟨.tt, .sv (.one (.int .i64 (.var 26)))⟩, some ⟨.tt, .sv (.one (.bool (.not (.eq (.var 26) (.lit 0)))))⟩, none, none, none, none, none, none, none, none, none, none, none, none, none, none, none, none, none, none, none, none, none, none, none, none, none, none, none, none, none, none, none, none, none, none, none, none, none, none, none, none, none, none, none, none, none, none, none, none, none, none, none, none, none, none, none, none, none, none, none, none, none, none, none, none, none, none, none, none, none, none, none, none], [some ([.int .i64 (.ite (.not (.eq (.var 26) (.lit 0))) (.var 5) (.var 27)), .int .i64 (.ite (.not (.eq (.var 26) (.lit 0))) (.var 6) (.var 28)), .bool (.ite (.not (.eq (.var 26) (.lit 0))) (.bvar 7) (.bvar 29)), .bool (.ite (.not (.eq (.var 26) (.lit 0))) (.bvar 8) (.bvar 30)), .bool (.ite (.not (.eq (.var 26) (.lit 0))) (.bvar 9) (.bvar 31)), .bool (.ite (.not (.eq (.var 26) (.lit 0))) (.bvar 10) (.bvar 32)), .bool (.ite (.not (.eq (.var 26) (.lit 0))) (.bvar 11) (.bvar 33)), .bool (.ite (.not (.eq (.var 26) (.lit 0))) (.bvar 12) (.bvar 34)), .bool (.ite (.not (.eq (.var 26) (.lit 0))) (.bvar 13) (.bvar 35)), .bool (.ite (.not (.eq (.var 26) (.lit 0))) (.bvar 14) (.bvar 36)), .bool (.ite (.not (.eq (.var 26) (.lit 0))) (.bvar 15) (.bvar 37)), .bool (.ite (.not (.eq (.var 26) (.lit 0))) (.bvar 16) (.bvar 38)), .bool (.ite (.not (.eq (.var 26) (.lit 0))) (.bvar 17) (.bvar 39)), .bool (.ite (.not (.eq (.var 26) (.lit 0))) (.bvar 18) (.bvar 40)), .int .u64 (.ite (.not (.eq (.var 26) (.lit 0))) (.var 19) (.var 41)), .int .u64 (.ite (.not (.eq (.var 26) (.lit 0))) (.var 20) (.var 42)), .int .u64 (.ite (.not (.eq (.var 26) (.lit 0))) (.var 21) (.var 43)), .int .u64 (.ite (.not (.eq (.var 26) (.lit 0))) (.var 22) (.var 44)), .int .u64 (.ite (.not (.eq (.var 26) (.lit 0))) (.var 23) (.var 45)), .int .u64 (.ite (.not (.eq (.var 26) (.lit 0))) (.var 24) (.var 46)), .int .i64 (.ite (.not (.eq (.var 26) (.lit 0))) (.var 25) (.var 47))], 28), some ([.int .i64 (.romI (.var 0) (.add (.var 1) (.mul (.var 4) (.lit 4))) 0), .int .i64 (.romI (.var 0) (.add (.var 1) (.mul (.var 4) (.lit 4))) 1), .int .i64 (.romI (.var 0) (.add (.var 1) (.mul (.var 4) (.lit 4))) 2), .int .u64 (.romI (.var 0) (.add (.var 1) (.mul (.var 4) (.lit 4))) 3)], 30), none], .and (.lt (.var 4) (.var 2)) (.or (.not (.eq (.var 26) (.lit 0))) (.and (.eq (.var 26) (.lit 0)) (.and (.not (.or (.or (.not (.bvar 48)) (.lt (.var 28) (.var 6))) (.lt (.lit 255) (.var 28)))) (.and (.not (.or (.and (.bvar 29) (.bvar 35)) (.and (.bvar 13) (.or (.not (.bvar 35)) (.not (.eq (.var 41) (.var 19))))))) (.and (.not (.or (.and (.bvar 30) (.bvar 36)) (.and (.bvar 14) (.or (.not (.bvar 36)) (.not (.eq (.var 42) (.var 20))))))) (.and (.not (.or (.and (.bvar 31) (.bvar 37)) (.and (.bvar 15) (.or (.not (.bvar 37)) (.not (.eq (.var 43) (.var 21))))))) (.and (.not (.or (.and (.bvar 32) (.bvar 38)) (.and (.bvar 16) (.or (.not (.bvar 38)) (.not (.eq (.var 44) (.var 22))))))) (.and (.not (.or (.and (.bvar 33) (.bvar 39)) (.and (.bvar 17) (.or (.not (.bvar 39)) (.not (.eq (.var 45) (.var 23))))))) (.not (.or (.and (.bvar 34) (.bvar 40)) (.and (.bvar 18) (.or (.not (.bvar 40)) (.not (.eq (.var 46) (.var 24))))))))))))))), 49⟩
def restK : List (Tag × St) := [(.exit 0, ⟨[some ⟨.tt, .sv (.one (.rsl (.var 0) (.var 1) (.var 2) (.var 3)))⟩, none, none, some ⟨.tt, .sv (.one (.ptr 0 0))⟩, some ⟨.tt, .sv (.one (.int .i64 (.var 4)))⟩, none, none, none, none, none, none, none, none, none, none, none, some ⟨.tt, .sv (.one (.int .i64 (.var 4)))⟩, some ⟨.tt, .sv (.one (.rsl (.var 0) (.var 1) (.var 2) (.var 3)))⟩, some ⟨.tt, .sv (.one (.int .i64 (.var 2)))⟩, some ⟨.tt, .sv (.one (.bool (.lt (.var 4) (.var 2))))⟩, none, none, none, none, none, none, none, none, none, none, none, none, none, none, none, none, none, none, none, none, none, none, none, none, none, none, none, none, none, none, none, none, none, none, none, none, none, none, none, none, none, none, none, none, none, none, none, none, none, none, none, none, none, none, none, none, none, none, none, none, none, none, none, none, none, none, none, none, none, none, none, none, none, none, none, none, none, none, none, none, none, none, none, none, none, none, none], [some ([.int .i64 (.var 5), .int .i64 (.var 6), .bool (.bvar 7), .bool (.bvar 8), .bool (.bvar 9), .bool (.bvar 10), .bool (.bvar 11), .bool (.bvar 12), .bool (.bvar 13), .bool (.bvar 14), .bool (.bvar 15), .bool (.bvar 16), .bool (.bvar 17), .bool (.bvar 18), .int .u64 (.var 19), .int .u64 (.var 20), .int .u64 (.var 21), .int .u64 (.var 22), .int .u64 (.var 23), .int .u64 (.var 24), .int .i64 (.var 25)], 28)], .not (.lt (.var 4) (.var 2)), 26⟩), (.ret, ⟨[some ⟨.tt, .sv (.one (.rsl (.var 0) (.var 1) (.var 2) (.var 3)))⟩, none, some ⟨.tt, .sv (.one (.bool .ff))⟩, some ⟨.tt, .sv (.one (.ptr 0 0))⟩, some ⟨.tt, .sv (.one (.int .i64 (.var 4)))⟩, some ⟨.tt, .sv (.one (.ptr 1 0))⟩, some ⟨.tt, .sv (.one (.ptr 2 0))⟩, none, none, none, none, none, none, none, none, none, some ⟨.tt, .sv (.one (.int .i64 (.var 4)))⟩, some ⟨.tt, .sv (.one (.rsl (.var 0) (.var 1) (.var 2) (.var 3)))⟩, some ⟨.tt, .sv (.one (.int .i64 (.var 2)))⟩, some ⟨.tt, .sv (.one (.bool (.lt (.var 4) (.var 2))))⟩, none, none, some ⟨.tt, .sv (.one (.rsl (.var 0) (.var 1) (.var 2) (.var 3)))⟩, some ⟨.tt, .sv (.one (.int .i64 (.var 4)))⟩, some ⟨.tt, .sv (.one (.rptr (.var 0) (.add (.var 1) (.mul (.var 4) (.lit 4)))))⟩, some ⟨.tt, .sv (.agg [.int .i64 (.romI (.var 0) (.add (.var 1) (.mul (.var 4) (.lit 4))) 0), .int .i64 (.romI (.var 0) (.add (.var 1) (.mul (.var 4) (.lit 4))) 1), .int .i64 (.romI (.var 0) (.add (.var 1) (.mul (.var 4) (.lit 4))) 2), .int .u64 (.romI (.var 0) (.add (.var 1) (.mul (.var 4) (.lit 4))) 3)])⟩, some ⟨.tt, .sv (.agg [.int .i64 (.var 5), .int .i64 (.var 6), .bool (.bvar 7), .bool (.bvar 8), .bool (.bvar 9), .bool (.bvar 10), .bool (.bvar 11), .bool (.bvar 12), .bool (.bvar 13), .bool (.bvar 14), .bool (.bvar 15), .bool (.bvar 16), .bool (.bvar 17), .bool (.bvar 18), .int .u64 (.var 19), .int .u64 (.var 20), .int .u64 (.var 21), .int .u64 (.var 22), .int .u64 (.var 23), .int .u64 (.var 24), .int .i64 (.var 25)])⟩, some ⟨.tt, .sv (.one (.ptr 1 0))⟩, some ⟨.tt, .sv (.one (.int .i64 (.romI (.var 0) (.add (.var 1) (.mul (.var 4) (.lit 4))) 0)))⟩, some ⟨.tt, .sv (.one (.ptr 1 1))⟩, some ⟨.tt, .sv (.one (.int .i64 (.romI (.var 0) (.add (.var 1) (.mul (.var 4) (.lit 4))) 1)))⟩, some ⟨.tt, .sv (.one (.ptr 1 2))⟩, some ⟨.tt, .sv (.one (.int .i64 (.romI (.var 0) (.add (.var 1) (.mul (.var 4) (.lit 4))) 2)))⟩, some ⟨.tt, .sv (.one (.int .i64 (.var 26)))⟩, some ⟨.tt, .sv (.one (.bool (.not (.eq (.var 26) (.lit 0)))))⟩, some ⟨.tt, .sv (.agg [.int .i64 (.var 5), .int .i64 (.var 6), .bool (.bvar 7), .bool (.bvar 8), .bool (.bvar 9), .bool (.bvar 10), .bool (.bvar 11), .bool (.bvar 12), .bool (.bvar 13), .bool (.bvar 14), .bool (.bvar 15), .bool (.bvar 16), .bool (.bvar 17), .bool (.bvar 18), .int .u64 (.var 19), .int .u64 (.var 20), .int .u64 (.var 21), .int .u64 (.var 22), .int .u64 (.var 23), .int .u64 (.var 24), .int .i64 (.var 25)])⟩, some ⟨.tt, .sv (.one (.ptr 1 0))⟩, some ⟨.tt, .sv (.one (.int .i64 (.romI (.var 0) (.add (.var 1) (.mul (.var 4) (.lit 4))) 0)))⟩, some ⟨.tt, .sv (.one (.ptr 1 1))⟩, some ⟨.tt, .sv (.one (.int .i64 (.romI (.var 0) (.add (.var 1) (.mul (.var 4) (.lit 4))) 1)))⟩, some ⟨.tt, .sv (.one (.ptr 1 2))⟩, some ⟨.tt, .sv (.one (.int .i64 (.romI (.var 0) (.add (.var 1) (.mul (.var 4) (.lit 4))) 2)))⟩, some ⟨.tt, .sv (.one (.ptr 1 3))⟩, some ⟨.tt, .sv (.one (.int .u64 (.romI (.var 0) (.add (.var 1) (.mul (.var 4) (.lit 4))) 3)))⟩, some ⟨.tt, .sv (.agg [.int .i64 (.var 27), .int .i64 (.var 28), .bool (.bvar 29), .bool (.bvar 30), .bool (.bvar 31), .bool (.bvar 32), .bool (.bvar 33), .bool (.bvar 34), .bool (.bvar 35), .bool (.bvar 36), .bool (.bvar 37), .bool (.bvar 38), .bool (.bvar 39), .bool (.bvar 40), .int .u64 (.var 41), .int .u64 (.var 42), .int .u64 (.var 43), .int .u64 (.var 44), .int .u64 (.var 45), .int .u64 (.var 46), .int .i64 (.var 47)])⟩, some ⟨.tt, .sv (.agg [.int .i64 (.var 27), .int .i64 (.var 28), .bool (.bvar 29), .bool (.bvar 30), .bool (.bvar 31), .bool (.bvar 32), .bool (.bvar 33), .bool (.bvar 34), .bool (.bvar 35), .bool (.bvar 36), .bool (.bvar 37), .bool (.bvar 38), .bool (.bvar 39), .bool (.bvar 40), .int .u64 (.var 41), .int .u64 (.var 42), .int .u64 (.var 43), .int .u64 (.var 44), .int .u64 (.var 45), .int .u64 (.var 46), .int .i64 (.var 47)])⟩, some ⟨.tt, .sv (.one (.ptr 2 0))⟩, some ⟨.tt, .sv (.one (.int .i64 (.var 27)))⟩, some ⟨.tt, .sv (.one (.bool (.bvar 48)))⟩, some ⟨.tt, .sv (.one (.bool (.not (.bvar 48))))⟩, some ⟨.tt, .sv (.one (.bool (.not (.bvar 48))))⟩, some ⟨.bvar 48, .sv (.one (.ptr 2 1))⟩, some ⟨.bvar 48, .sv (.one (.int .i64 (.var 28)))⟩, some ⟨.bvar 48, .sv (.one (.ptr 0 1))⟩, some ⟨.bvar 48, .sv (.one (.int .i64 (.var 6)))⟩, some ⟨.bvar 48, .sv (.one (.bool (.lt (.var 28) (.var 6))))⟩, some ⟨.tt, .sv (.one (.bool (.or (.not (.bvar 48)) (.lt (.var 28) (.var 6)))))⟩, some ⟨.tt, .sv (.one (.bool (.or (.not (.bvar 48)) (.lt (.var 28) (.var 6)))))⟩, some ⟨.not (.or (.not (.bvar 48)) (.lt (.var 28) (.var 6))), .sv (.one (.ptr 2 1))⟩, some ⟨.not (.or (.not (.bvar 48)) (.lt (.var 28) (.var 6))), .sv (.one (.int .i64 (.var 28)))⟩, some ⟨.not (.or (.not (.bvar 48)) (.lt (.var 28) (.var 6))), .sv (.one (.bool (.lt (.lit 255) (.var 28))))⟩, some ⟨.tt, .sv (.one (.bool (.or (.or (.not (.bvar 48)) (.lt (.var 28) (.var 6))) (.lt (.lit 255) (.var 28)))))⟩, none, none, none, none, none, none, none, none, none, none, none, none, none, none, none, none, none, none, none, none, none, none, none, none, none, none, none, none, none, none, none, none, none, none, none, none, none, none, none, none, none, none, none, none, none], [some ([.int .i64 (.var 5), .int .i64 (.var 6), .bool (.bvar 7), .bool (.bvar 8), .bool (.bvar 9), .bool (.bvar 10), .bool (.bvar 11), .bool (.bvar 12), .bool (.bvar 13), .bool (.bvar 14), .bool (.bvar 15), .bool (.bvar 16), .bool (.bvar 17), .bool (.bvar 18), .int .u64 (.var 19), .int .u64 (.var 20), .int .u64 (.var 21), .int .u64 (.var 22), .int .u64 (.var 23), .int .u64 (.var 24), .int .i64 (.var 25)], 28), some ([.int .i64 (.romI (.var 0) (.add (.var 1) (.mul (.var 4) (.lit 4))) 0), .int .i64 (.romI (.var 0) (.add (.var 1) (.mul (.var 4) (.lit 4))) 1), .int .i64 (.romI (.var 0) (.add (.var 1) (.mul (.var 4) (.lit 4))) 2), .int .u64 (.romI (.var 0) (.add (.var 1) (.mul (.var 4) (.lit 4))) 3)], 30), some ([.int .i64 (.var 27), .int .i64 (.var 28), .bool (.bvar 29), .bool (.bvar 30), .bool (.bvar 31), .bool (.bvar 32), .bool (.bvar 33), .bool (.bvar 34), .bool (.bvar 35), .bool (.bvar 36), .bool (.bvar 37), .bool (.bvar 38), .bool (.bvar 39), .bool (.bvar 40), .int .u64 (.var 41), .int .u64 (.var 42), .int .u64 (.var 43), .int .u64 (.var 44), .int .u64 (.var 45), .int .u64 (.var 46), .int .i64 (.var 47)], 28)], .and (.lt (.var 4) (.var 2)) (.and (.eq (.var 26) (.lit 0)) (.or (.or (.or (.not (.bvar 48)) (.lt (.var 28) (.var 6))) (.lt (.lit 255) (.var 28))) (.and (.not (.or (.or (.not (.bvar 48)) (.lt (.var 28) (.var 6))) (.lt (.lit 255) (.var 28)))) (.or (.or (.and (.bvar 29) (.bvar 35)) (.and (.bvar 13) (.or (.not (.bvar 35)) (.not (.eq (.var 41) (.var 19)))))) (.and (.not (.or (.and (.bvar 29) (.bvar 35)) (.and (.bvar 13) (.or (.not (.bvar 35)) (.not (.eq (.var 41) (.var 19))))))) (.or (.or (.and (.bvar 30) (.bvar 36)) (.and (.bvar 14) (.or (.not (.bvar 36)) (.not (.eq (.var 42) (.var 20)))))) (.and (.not (.or (.and (.bvar 30) (.bvar 36)) (.and (.bvar 14) (.or (.not (.bvar 36)) (.not (.eq (.var 42) (.var 20))))))) (.or (.or (.and (.bvar 31) (.bvar 37)) (.and (.bvar 15) (.or (.not (.bvar 37)) (.not (.eq (.var 43) (.var 21)))))) (.and (.not (.or (.and (.bvar 31) (.bvar 37)) (.and (.bvar 15) (.or (.not (.bvar 37)) (.not (.eq (.var 43) (.var 21))))))) (.or (.or (.and (.bvar 32) (.bvar 38)) (.and (.bvar 16) (.or (.not (.bvar 38)) (.not (.eq (.var 44) (.var 22)))))) (.and (.not (.or (.and (.bvar 32) (.bvar 38)) (.and (.bvar 16) (.or (.not (.bvar 38)) (.not (.eq (.var 44) (.var 22))))))) (.or (.or (.and (.bvar 33) (.bvar 39)) (.and (.bvar 17) (.or (.not (.bvar 39)) (.not (.eq (.var 45) (.var 23)))))) (.and (.not (.or (.and (.bvar 33) (.bvar 39)) (.and (.bvar 17) (.or (.not (.bvar 39)) (.not (.eq (.var 45) (.var 23))))))) (.or (.and (.bvar 34) (.bvar 40)) (.and (.bvar 18) (.or (.not (.bvar 40)) (.not (.eq (.var 46) (.var 24))))))))))))))))))), 49⟩)]
def AK : List As := [⟨4, false, .wrap .i64 (.add (.var 4) (.lit 1))⟩, ⟨5, false, .ite (.not (.eq (.var 26) (.lit 0))) (.var 5) (.var 27)⟩, ⟨6, false, .ite (.not (.eq (.var 26) (.lit 0))) (.var 6) (.var 28)⟩, ⟨7, true, .ite (.not (.eq (.var 26) (.lit 0))) (.bvar 7) (.bvar 29)⟩, ⟨8, true, .ite (.not (.eq (.var 26) (.lit 0))) (.bvar 8) (.bvar 30)⟩, ⟨9, true, .ite (.not (.eq (.var 26) (.lit 0))) (.bvar 9) (.bvar 31)⟩, ⟨10, true, .ite (.not (.eq (.var 26) (.lit 0))) (.bvar 10) (.bvar 32)⟩, ⟨11, true, .ite (.not (.eq (.var 26) (.lit 0))) (.bvar 11) (.bvar 33)⟩, ⟨12, true, .ite (.not (.eq (.var 26) (.lit 0))) (.bvar 12) (.bvar 34)⟩, ⟨13, true, .ite (.not (.eq (.var 26) (.lit 0))) (.bvar 13) (.bvar 35)⟩, ⟨14, true, .ite (.not (.eq (.var 26) (.lit 0))) (.bvar 14) (.bvar 36)⟩, ⟨15, true, .ite (.not (.eq (.var 26) (.lit 0))) (.bvar 15) (.bvar 37)⟩, ⟨16, true, .ite (.not (.eq (.var 26) (.lit 0))) (.bvar 16) (.bvar 38)⟩, ⟨17, true, .ite (.not (.eq (.var 26) (.lit 0))) (.bvar 17) (.bvar 39)⟩, ⟨18, true, .ite (.not (.eq (.var 26) (.lit 0))) (.bvar 18) (.bvar 40)⟩, ⟨19, false, .ite (.not (.eq (.var 26) (.lit 0))) (.var 19) (.var 41)⟩, ⟨20, false, .ite (.not (.eq (.var 26) (.lit 0))) (.var 20) (.var 42)⟩, ⟨21, false, .ite (.not (.eq (.var 26) (.lit 0))) (.var 21) (.var 43)⟩, ⟨22, false, .ite (.not (.eq (.var 26) (.lit 0))) (.var 22) (.var 44)⟩, ⟨23, false, .ite (.not (.eq (.var 26) (.lit 0))) (.var 23) (.var 45)⟩, ⟨24, false, .ite (.not (.eq (.var 26) (.lit 0))) (.var 24) (.var 46)⟩, ⟨25, false, .ite (.not (.eq (.var 26) (.lit 0))) (.var 25) (.var 47)⟩]
def ndK : Nd := .and (.e (.le (.lit 0) (.var 2))) (.imp (.lt (.var 4) (.var 2)) (.and (.e (.and (.le (.lit 0) (.var 1)) (.and (.le (.lit 0) (.var 4)) (.lt (.var 4) (.var 2))))) (.e (.and (.le (.lit 0) (.add (.var 1) (.mul (.var 4) (.lit 4)))) (.and (.romIs (.var 0) (.add (.var 1) (.mul (.var 4) (.lit 4))) 0 (.int .i64)) (.and (.romIs (.var 0) (.add (.var 1) (.mul (.var 4) (.lit 4))) 1 (.int .i64)) (.and (.romIs (.var 0) (.add (.var 1) (.mul (.var 4) (.lit 4))) 2 (.int .i64)) (.romIs (.var 0) (.add (.var 1) (.mul (.var 4) (.lit 4))) 3 (.int .u64)))))))))
def evK : Ev := .seq (.x 2 (setVars mayF 1) [.var 5, .var 6, .bvar 7, .bvar 8, .bvar 9, .bvar 10, .bvar 11, .bvar 12, .bvar 13, .bvar 14, .bvar 15, .bvar 16, .bvar 17, .bvar 18, .var 19, .var 20, .var 21, .var 22, .var 23, .var 24, .var 25, .romI (.var 0) (.add (.var 1) (.mul (.var 4) (.lit 4))) 0, .romI (.var 0) (.add (.var 1) (.mul (.var 4) (.lit 4))) 1, .romI (.var 0) (.add (.var 1) (.mul (.var 4) (.lit 4))) 2] 26) (.seq (.x 3 (setVars behindF 21) [.var 5, .var 6, .bvar 7, .bvar 8, .bvar 9, .bvar 10, .bvar 11, .bvar 12, .bvar 13, .bvar 14, .bvar 15, .bvar 16, .bvar 17, .bvar 18, .var 19, .var 20, .var 21, .var 22, .var 23, .var 24, .var 25, .romI (.var 0) (.add (.var 1) (.mul (.var 4) (.lit 4))) 0, .romI (.var 0) (.add (.var 1) (.mul (.var 4) (.lit 4))) 1, .romI (.var 0) (.add (.var 1) (.mul (.var 4) (.lit 4))) 2, .romI (.var 0) (.add (.var 1) (.mul (.var 4) (.lit 4))) 3] 27) (.x 1 (setVars isF 1) [.var 27, .var 28, .bvar 29, .bvar 30, .bvar 31, .bvar 32, .bvar 33, .bvar 34, .bvar 35, .bvar 36, .bvar 37, .bvar 38, .bvar 39, .bvar 40, .var 41, .var 42, .var 43, .var 44, .var 45, .var 46, .var 47, .var 27] 48))
def obK : Out := ⟨restK ++ [(.norm, sK)], ndK, evK⟩
def noL : Loops := fun _ _ => none
set_option maxRecDepth 100000 in
theorem obK_eq : pieceE Try.prog grpΓ 20 60 noL 3 (pK ++ [0]) hdK = some obK := by kernel_rfl

/-- The step's kinds. -/
def stepKd : Nat → Kd | 3 => .int .u64 | _ => .int .i64
/-- The steps read as steps. -/
def StepsAt (ρ : Env) : Prop := ∀ i : Int, 0 ≤ i → i < ρ.i 2 → ∀ j, j < 4 → valIs (romCell ρ.w (ρ.i 0) (ρ.i 1 + i * 4) j) (stepKd j) = true

def gR (ρ : Env) : Grp := gOf ⟨ρ.i, ρ.b⟩ 5
structure IK (ρ : Env) : Prop where
  y : 0 ≤ ρ.i 1
  len : 0 ≤ ρ.i 2 ∧ ρ.i 2 ≤ 60
  i : 0 ≤ ρ.i 4 ∧ ρ.i 4 ≤ ρ.i 2
  at_ : StepsAt ρ
  g : Sound17 (gR ρ)

def es1 : List E := [.var 5, .var 6, .bvar 7, .bvar 8, .bvar 9, .bvar 10, .bvar 11, .bvar 12, .bvar 13, .bvar 14, .bvar 15, .bvar 16, .bvar 17, .bvar 18, .var 19, .var 20, .var 21, .var 22, .var 23, .var 24, .var 25, .romI (.var 0) (.add (.var 1) (.mul (.var 4) (.lit 4))) 0, .romI (.var 0) (.add (.var 1) (.mul (.var 4) (.lit 4))) 1, .romI (.var 0) (.add (.var 1) (.mul (.var 4) (.lit 4))) 2]
def es2 : List E := [.var 5, .var 6, .bvar 7, .bvar 8, .bvar 9, .bvar 10, .bvar 11, .bvar 12, .bvar 13, .bvar 14, .bvar 15, .bvar 16, .bvar 17, .bvar 18, .var 19, .var 20, .var 21, .var 22, .var 23, .var 24, .var 25, .romI (.var 0) (.add (.var 1) (.mul (.var 4) (.lit 4))) 0, .romI (.var 0) (.add (.var 1) (.mul (.var 4) (.lit 4))) 1, .romI (.var 0) (.add (.var 1) (.mul (.var 4) (.lit 4))) 2, .romI (.var 0) (.add (.var 1) (.mul (.var 4) (.lit 4))) 3]
def es3 : List E := [.var 27, .var 28, .bvar 29, .bvar 30, .bvar 31, .bvar 32, .bvar 33, .bvar 34, .bvar 35, .bvar 36, .bvar 37, .bvar 38, .bvar 39, .bvar 40, .var 41, .var 42, .var 43, .var 44, .var 45, .var 46, .var 47, .var 27]
def r1 (ρ : Env) : Env := setVars mayF 1 es1 26 ρ
def r2 (ρ : Env) : Env := setVars behindF 21 es2 27 (r1 ρ)
def r3 (ρ : Env) : Env := setVars isF 1 es3 48 (r2 ρ)
theorem evK_run (ρ : Env) : evK.run ρ = r3 ρ := by simp only [evK, Ev.run, r1, r2, r3, es1, es2, es3]
/-- The step's number j. -/
def stp (ρ : Env) (j : Nat) : Int := valI (romCell ρ.w (ρ.i 0) (ρ.i 1 + ρ.i 4 * 4) j)

theorem gOf_ext {p q : Pt} {j l : Nat} (h0 : p.i j = q.i l) (h1 : p.i (j + 1) = q.i (l + 1)) (h2 : p.i (j + 20) = q.i (l + 20)) (hm : ∀ k, k < 6 → p.b (j + 2 + k) = q.b (l + 2 + k)) (hg : ∀ k, k < 6 → p.b (j + 8 + k) = q.b (l + 8 + k)) (hc : ∀ k, k < 6 → p.i (j + 14 + k) = q.i (l + 14 + k)) : gOf p j = gOf q l := by
  simp only [gOf, Grp.mk.injEq]
  refine ⟨h0, h1, h2, ?_, ?_, ?_⟩ <;> funext k <;> by_cases hk : k < 6
  · rw [hm k hk]
  · simp [hk]
  · rw [hg k hk]
  · simp [hk]
  · simp [hk, hc k hk]
  · simp [hk]
theorem six_all {Q : Nat → Prop} (h0 : Q 0) (h1 : Q 1) (h2 : Q 2) (h3 : Q 3) (h4 : Q 4) (h5 : Q 5) : ∀ k, k < 6 → Q k := by
  intro k hk
  match k, hk with
  | 0, _ => exact h0
  | 1, _ => exact h1
  | 2, _ => exact h2
  | 3, _ => exact h3
  | 4, _ => exact h4
  | 5, _ => exact h5

theorem g1 (ρ : Env) : gOf (ptOf es1 ρ) 0 = gR ρ := gOf_ext rfl rfl rfl (six_all rfl rfl rfl rfl rfl rfl) (six_all rfl rfl rfl rfl rfl rfl) (six_all rfl rfl rfl rfl rfl rfl)
theorem g2 (ρ : Env) : gOf (ptOf es2 (r1 ρ)) 0 = gR ρ := gOf_ext rfl rfl rfl (six_all rfl rfl rfl rfl rfl rfl) (six_all rfl rfl rfl rfl rfl rfl) (six_all rfl rfl rfl rfl rfl rfl)
theorem gPt_of (g : Grp) (p : Pt) (j : Nat) (hi : ∀ k, k < 21 → p.i (j + k) = (gPt g).i k) (hb : ∀ k, k < 21 → p.b (j + k) = (gPt g).b k) :
    p.i j = g.owner ∧ p.i (j + 1) = g.epoch ∧ (∀ k, k < 6 → p.b (j + 2 + k) = g.mem k) ∧ (∀ k, k < 6 → p.b (j + 8 + k) = g.gone k) ∧ (∀ k, k < 6 → p.i (j + 14 + k) = g.cut k) ∧ p.i (j + 20) = g.seen := by
  refine ⟨hi 0 (by decide), hi 1 (by decide), ?_, ?_, ?_, hi 20 (by decide)⟩
  · exact six_all (hb 2 (by decide)) (hb 3 (by decide)) (hb 4 (by decide)) (hb 5 (by decide)) (hb 6 (by decide)) (hb 7 (by decide))
  · exact six_all (hb 8 (by decide)) (hb 9 (by decide)) (hb 10 (by decide)) (hb 11 (by decide)) (hb 12 (by decide)) (hb 13 (by decide))
  · exact six_all (hi 14 (by decide)) (hi 15 (by decide)) (hi 16 (by decide)) (hi 17 (by decide)) (hi 18 (by decide)) (hi 19 (by decide))

/-- The round's group behind. -/
def nx (ρ : Env) : Grp := behind (gR ρ) (stp ρ 0) (stp ρ 1) (stp ρ 2) (stp ρ 3)
theorem v26 (ρ : Env) : (r3 ρ).i 26 = mayOf (gR ρ) (stp ρ 0) (stp ρ 1) (stp ρ 2) := by
  rw [← g1]; rfl
theorem r3_low (ρ : Env) : Agree 26 ρ (r3 ρ) := (setVars_agree _ _ _ _ _).trans (((setVars_agree _ _ _ _ _).mono (by decide)).trans ((setVars_agree _ _ _ _ _).mono (by decide)))
theorem nx_i (ρ : Env) (k : Nat) (hk : k < 21) : (r3 ρ).i (27 + k) = (gPt (nx ρ)).i k := by
  have e1 : (r3 ρ).i (27 + k) = (r2 ρ).i (27 + k) := (setVars_agree isF 1 es3 48 (r2 ρ)).i _ (by omega)
  have e2 := setVars_i behindF 21 es2 27 (r1 ρ) hk
  rw [e1]
  refine e2.trans ?_
  unfold nx; rw [← g2]; rfl
theorem nx_b (ρ : Env) (k : Nat) (hk : k < 21) : (r3 ρ).b (27 + k) = (gPt (nx ρ)).b k := by
  have e1 : (r3 ρ).b (27 + k) = (r2 ρ).b (27 + k) := (setVars_agree isF 1 es3 48 (r2 ρ)).b _ (by omega)
  have e2 := setVars_b behindF 21 es2 27 (r1 ρ) hk
  rw [e1]
  refine e2.trans ?_
  unfold nx; rw [← g2]; rfl
theorem nx_all (ρ : Env) : (r3 ρ).i 27 = (nx ρ).owner ∧ (r3 ρ).i (27 + 1) = (nx ρ).epoch ∧ (∀ k, k < 6 → (r3 ρ).b (27 + 2 + k) = (nx ρ).mem k) ∧ (∀ k, k < 6 → (r3 ρ).b (27 + 8 + k) = (nx ρ).gone k) ∧ (∀ k, k < 6 → (r3 ρ).i (27 + 14 + k) = (nx ρ).cut k) ∧ (r3 ρ).i (27 + 20) = (nx ρ).seen :=
  gPt_of (nx ρ) ⟨(r3 ρ).i, (r3 ρ).b⟩ 27 (nx_i ρ) (nx_b ρ)
theorem at6_congr {m m' : Nat → Bool} {n : Int} (h : ∀ k, k < 6 → m k = m' k) : at6 m n = at6 m' n := by
  unfold at6
  cases hn : isW n with
  | false => rfl
  | true => rw [h _ (isW_toNat hn).1]
theorem Sound17.congr {g h : Grp} (ho : g.owner = h.owner) (he : g.epoch = h.epoch) (hm : ∀ k, k < 6 → g.mem k = h.mem k) (hg : ∀ k, k < 6 → g.gone k = h.gone k) (s : Sound17 g) : Sound17 h :=
  ⟨he ▸ s.lo, he ▸ s.hi, fun k hk => by rw [← hm k hk, ← hg k hk]; exact s.apart k hk, by
    rcases s.own with ⟨h1, h2⟩ | h1
    · exact Or.inl ⟨ho ▸ h1, fun k hk => by rw [← hg k hk]; exact h2 k hk⟩
    · right; rw [← ho, ← at6_congr hm]; exact h1⟩
theorem b48 (ρ : Env) : (r3 ρ).b 48 = at6 (nx ρ).mem (nx ρ).owner := by
  have e : (r3 ρ).b 48 = at6 (gOf (ptOf es3 (r2 ρ)) 0).mem ((ptOf es3 (r2 ρ)).i 21) := rfl
  have A := nx_all ρ
  have hl : Agree 48 (r2 ρ) (r3 ρ) := setVars_agree isF 1 es3 48 (r2 ρ)
  have e1 : (ptOf es3 (r2 ρ)).i 21 = (nx ρ).owner := (hl.i 27 (by decide)).symm.trans A.1
  rw [e, e1]
  refine at6_congr (six_all ?_ ?_ ?_ ?_ ?_ ?_)
  · exact (hl.b 29 (by decide)).symm.trans (A.2.2.1 0 (by decide))
  · exact (hl.b 30 (by decide)).symm.trans (A.2.2.1 1 (by decide))
  · exact (hl.b 31 (by decide)).symm.trans (A.2.2.1 2 (by decide))
  · exact (hl.b 32 (by decide)).symm.trans (A.2.2.1 3 (by decide))
  · exact (hl.b 33 (by decide)).symm.trans (A.2.2.1 4 (by decide))
  · exact (hl.b 34 (by decide)).symm.trans (A.2.2.1 5 (by decide))

def retLive : E := .and (.lt (.var 4) (.var 2)) (.and (.eq (.var 26) (.lit 0)) (.or (.or (.or (.not (.bvar 48)) (.lt (.var 28) (.var 6))) (.lt (.lit 255) (.var 28))) (.and (.not (.or (.or (.not (.bvar 48)) (.lt (.var 28) (.var 6))) (.lt (.lit 255) (.var 28)))) (.or (.or (.and (.bvar 29) (.bvar 35)) (.and (.bvar 13) (.or (.not (.bvar 35)) (.not (.eq (.var 41) (.var 19)))))) (.and (.not (.or (.and (.bvar 29) (.bvar 35)) (.and (.bvar 13) (.or (.not (.bvar 35)) (.not (.eq (.var 41) (.var 19))))))) (.or (.or (.and (.bvar 30) (.bvar 36)) (.and (.bvar 14) (.or (.not (.bvar 36)) (.not (.eq (.var 42) (.var 20)))))) (.and (.not (.or (.and (.bvar 30) (.bvar 36)) (.and (.bvar 14) (.or (.not (.bvar 36)) (.not (.eq (.var 42) (.var 20))))))) (.or (.or (.and (.bvar 31) (.bvar 37)) (.and (.bvar 15) (.or (.not (.bvar 37)) (.not (.eq (.var 43) (.var 21)))))) (.and (.not (.or (.and (.bvar 31) (.bvar 37)) (.and (.bvar 15) (.or (.not (.bvar 37)) (.not (.eq (.var 43) (.var 21))))))) (.or (.or (.and (.bvar 32) (.bvar 38)) (.and (.bvar 16) (.or (.not (.bvar 38)) (.not (.eq (.var 44) (.var 22)))))) (.and (.not (.or (.and (.bvar 32) (.bvar 38)) (.and (.bvar 16) (.or (.not (.bvar 38)) (.not (.eq (.var 44) (.var 22))))))) (.or (.or (.and (.bvar 33) (.bvar 39)) (.and (.bvar 17) (.or (.not (.bvar 39)) (.not (.eq (.var 45) (.var 23)))))) (.and (.not (.or (.and (.bvar 33) (.bvar 39)) (.and (.bvar 17) (.or (.not (.bvar 39)) (.not (.eq (.var 45) (.var 23))))))) (.or (.and (.bvar 34) (.bvar 40)) (.and (.bvar 18) (.or (.not (.bvar 40)) (.not (.eq (.var 46) (.var 24)))))))))))))))))))
theorem ret_false (ρ : Env) (hI : IK ρ) : ¬ (bev (r3 ρ) retLive = true) := by
  have A := nx_all ρ
  have low := r3_low ρ
  by_cases hv : (r3 ρ).i 26 = 0
  · have hm := hv
    rw [v26] at hm
    obtain ⟨s1, s2, s3, s4, s5⟩ := keep_step (cut := stp ρ 3) hI.g hm
    have hb48 : (r3 ρ).b 48 = true := (b48 ρ).trans s2
    have e28 : (r3 ρ).i 28 = (nx ρ).epoch := A.2.1
    have e6 : (r3 ρ).i 6 = (gR ρ).epoch := low.i 6 (by decide)
    have h1 : (r3 ρ).i 6 ≤ (r3 ρ).i 28 := by rw [e28, e6]; exact s3
    have h2 : (r3 ρ).i 28 ≤ 255 := by rw [e28]; exact s1.hi
    have mm : ∀ k, k < 6 → (r3 ρ).b (29 + k) = (nx ρ).mem k := A.2.2.1
    have gg : ∀ k, k < 6 → (r3 ρ).b (35 + k) = (nx ρ).gone k := A.2.2.2.1
    have cc : ∀ k, k < 6 → (r3 ρ).i (41 + k) = (nx ρ).cut k := A.2.2.2.2.1
    have og : ∀ k, k < 6 → (r3 ρ).b (13 + k) = (gR ρ).gone k := fun k hk => by
      rw [low.b _ (by omega)]
      have : (gR ρ).gone k = (decide (k < 6) && ρ.b (5 + 8 + k)) := rfl
      rw [this, decide_eq_true hk, Bool.true_and]
    have oc : ∀ k, k < 6 → (r3 ρ).i (19 + k) = (gR ρ).cut k := fun k hk => by
      rw [low.i _ (by omega)]
      have : (gR ρ).cut k = (if k < 6 then ρ.i (5 + 14 + k) else 0) := rfl
      rw [this, if_pos hk]
    have a : ∀ k, k < 6 → ((r3 ρ).b (29 + k) = true ∧ (r3 ρ).b (35 + k) = true) = False := fun k hk => by
      rw [mm k hk, gg k hk]
      have : ((nx ρ).mem k && (nx ρ).gone k) = false := s4 k hk
      refine eq_false fun ⟨x, y⟩ => ?_
      rw [show (nx ρ).mem k = true from x, show (nx ρ).gone k = true from y] at this; cases this
    have b : ∀ k, k < 6 → ((r3 ρ).b (13 + k) = true ∧ (¬ (r3 ρ).b (35 + k) = true ∨ ¬ (r3 ρ).i (41 + k) = (r3 ρ).i (19 + k))) = False := fun k hk => by
      rw [og k hk, gg k hk, cc k hk, oc k hk]
      refine eq_false fun ⟨x, y⟩ => ?_
      obtain ⟨q1, q2⟩ := s5 k hk x
      rcases y with y | y
      · exact y q1
      · exact y q2
    simp only [retLive, bT_and, bT_or, bT_not, bT_lt, bT_eq, bT_bvar, iev_var, iev_lit]
    have a0 := a 0 (by decide); have a1 := a 1 (by decide); have a2 := a 2 (by decide); have a3 := a 3 (by decide); have a4 := a 4 (by decide); have a5 := a 5 (by decide)
    have b0 := b 0 (by decide); have b1 := b 1 (by decide); have b2 := b 2 (by decide); have b3 := b 3 (by decide); have b4 := b 4 (by decide); have b5 := b 5 (by decide)
    simp only [Nat.add_zero, Nat.reduceAdd] at a0 a1 a2 a3 a4 a5 b0 b1 b2 b3 b4 b5
    have d1 : ((r3 ρ).i 28 < (r3 ρ).i 6) = False := eq_false (by omega)
    have d2 : (255 < (r3 ρ).i 28) = False := eq_false (by omega)
    simp only [a0, a1, a2, a3, a4, a5, b0, b1, b2, b3, b4, b5, hb48, d1, d2, not_true_eq_false, or_false, and_false, not_false_eq_true, and_true]
  · intro h
    have e : retLive = .and (.lt (.var 4) (.var 2)) (.and (.eq (.var 26) (.lit 0)) (match retLive with | .and _ (.and _ x) => x | _ => .tt)) := rfl
    rw [e] at h
    simp only [bT_and, bT_eq, iev_var, iev_lit] at h
    exact hv h.2.1

def LK : LoopSum := { n0 := 4, hd := hdK, ob := obK, s := sK, rest := restK, A := AK, I := IK, μ := fun ρ => (ρ.i 2 - ρ.i 4).toNat, lbl := 9 }
theorem LK_next (ρ : Env) : LK.next ρ = assign (r3 ρ) AK := by
  show assign (evK.run ρ) AK = _
  rw [evK_run]

theorem LK_inv (ρ : Env) (hI : IK ρ) (hl : (r3 ρ).i 4 < (r3 ρ).i 2) : IK (LK.next ρ) ∧ LK.μ (LK.next ρ) < LK.μ ρ := by
  rw [LK_next]
  have hl : ρ.i 4 < ρ.i 2 := hl
  have len := hI.len
  have hi := hI.i
  have n1 : (assign (r3 ρ) AK).i 1 = ρ.i 1 := rfl
  have n2 : (assign (r3 ρ) AK).i 2 = ρ.i 2 := rfl
  have n4 : (assign (r3 ρ) AK).i 4 = ρ.i 4 + 1 := by
    have : (assign (r3 ρ) AK).i 4 = IntKind.i64.wrap (ρ.i 4 + 1) := rfl
    rw [this]; exact IntWalk.i64_in _ (by omega)
  refine ⟨⟨by rw [n1]; exact hI.y, by rw [n2]; exact len, by rw [n4, n2]; omega, fun i h0 h1 j hj => hI.at_ i h0 h1 j hj, ?_⟩, ?_⟩
  · by_cases hv : (r3 ρ).i 26 = 0
    · have hm := hv
      rw [v26] at hm
      have s1 := (keep_step (cut := stp ρ 3) hI.g hm).1
      have hc : ¬ bev (r3 ρ) (.not (.eq (.var 26) (.lit 0))) = true := by rw [bT_not, bT_eq, iev_var, iev_lit]; exact fun h => h hv
      have A := nx_all ρ
      refine Sound17.congr (g := nx ρ) ?_ ?_ (six_all ?_ ?_ ?_ ?_ ?_ ?_) (six_all ?_ ?_ ?_ ?_ ?_ ?_) s1
      · exact (A.1.symm).trans (if_neg hc).symm
      · exact (A.2.1.symm).trans (if_neg hc).symm
      · exact (A.2.2.1 0 (by decide)).symm.trans (if_neg hc).symm
      · exact (A.2.2.1 1 (by decide)).symm.trans (if_neg hc).symm
      · exact (A.2.2.1 2 (by decide)).symm.trans (if_neg hc).symm
      · exact (A.2.2.1 3 (by decide)).symm.trans (if_neg hc).symm
      · exact (A.2.2.1 4 (by decide)).symm.trans (if_neg hc).symm
      · exact (A.2.2.1 5 (by decide)).symm.trans (if_neg hc).symm
      · exact (A.2.2.2.1 0 (by decide)).symm.trans (if_neg hc).symm
      · exact (A.2.2.2.1 1 (by decide)).symm.trans (if_neg hc).symm
      · exact (A.2.2.2.1 2 (by decide)).symm.trans (if_neg hc).symm
      · exact (A.2.2.2.1 3 (by decide)).symm.trans (if_neg hc).symm
      · exact (A.2.2.2.1 4 (by decide)).symm.trans (if_neg hc).symm
      · exact (A.2.2.2.1 5 (by decide)).symm.trans (if_neg hc).symm
    · have hc : bev (r3 ρ) (.not (.eq (.var 26) (.lit 0))) = true := by rw [bT_not, bT_eq, iev_var, iev_lit]; exact hv
      refine Sound17.congr (g := gR ρ) ?_ ?_ (six_all ?_ ?_ ?_ ?_ ?_ ?_) (six_all ?_ ?_ ?_ ?_ ?_ ?_) hI.g
      all_goals exact (if_pos hc).symm
  · show ((assign (r3 ρ) AK).i 2 - (assign (r3 ρ) AK).i 4).toNat < (ρ.i 2 - ρ.i 4).toNat
    rw [n2, n4]; omega

theorem noL_ok (P : Program) (body : Code) : LoopsOK P body noL := fun _ _ _ _ _ h => by cases h

theorem LK_ok {body b : Code} (hb : bodyOf Try.prog 3 = some body) (hc : codeAt body pK = some (.loop b)) : LK.OK Try.prog b where
  body := pieceE_ok grpΓ_ok hb (noL_ok _ _) obK_eq (by rw [codeAt_append pK body _ [0] hc]; simp [codeAt])
  split := by kernel_rfl
  back := by kernel_rfl
  nv := by decide
  live := rfl
  inv := fun ρ hI => by
    have hI : IK ρ := hI
    refine ⟨?_, fun hl => ?_⟩
    · show ndK.holds ρ
      have len := hI.len
      have hi := hI.i
      have y := hI.y
      simp only [ndK, Nd.holds, bT_le, bT_lt, bT_and, bT_romIs, iev_lit, iev_var, iev_add, iev_mul]
      refine ⟨len.1, fun h => ⟨⟨y, hi.1, h⟩, by omega, ?_, ?_, ?_, ?_⟩⟩
      · exact hI.at_ _ hi.1 h 0 (by decide)
      · exact hI.at_ _ hi.1 h 1 (by decide)
      · exact hI.at_ _ hi.1 h 2 (by decide)
      · exact hI.at_ _ hi.1 h 3 (by decide)
    · have hl : bev (evK.run ρ) sK.live = true := hl
      rw [evK_run] at hl
      refine LK_inv ρ hI ?_
      have : bev (r3 ρ) (.lt (.var 4) (.var 2)) = true := by
        have e : sK.live = .and (.lt (.var 4) (.var 2)) (match sK.live with | .and _ x => x | _ => .tt) := rfl
        rw [e, bev_and, Bool.and_eq_true] at hl
        exact hl.1
      rw [bev_lt, decide_eq_true_eq] at this
      exact this

def A0K : List As := [⟨4, false, .lit 0⟩, ⟨5, false, .lit 0⟩, ⟨6, false, .lit 0⟩, ⟨7, true, .ff⟩, ⟨8, true, .ff⟩, ⟨9, true, .ff⟩, ⟨10, true, .ff⟩, ⟨11, true, .ff⟩, ⟨12, true, .ff⟩, ⟨13, true, .ff⟩, ⟨14, true, .ff⟩, ⟨15, true, .ff⟩, ⟨16, true, .ff⟩, ⟨17, true, .ff⟩, ⟨18, true, .ff⟩, ⟨19, false, .lit 0⟩, ⟨20, false, .lit 0⟩, ⟨21, false, .lit 0⟩, ⟨22, false, .lit 0⟩, ⟨23, false, .lit 0⟩, ⟨24, false, .lit 0⟩, ⟨25, false, .lit 0⟩]
noncomputable def ΛK : Loops := fun q st => if q = pK then LK.run st else none
theorem ΛK_ok {body : Code} (hb : bodyOf Try.prog 3 = some body) : LoopsOK Try.prog body ΛK := by
  intro p st o b hc h
  unfold ΛK at h
  split at h
  · rename_i hp; subst hp
    exact LoopSum.run_ok (LK_ok hb hc) h
  · cases h

set_option maxRecDepth 100000 in
theorem keepsE : funP Try.prog grpΓ 20 60 ΛK 3 [.sv (.one (.rsl (.var 0) (.var 1) (.var 2) (.var 3)))] 4 = some (.sv (.one (.bool (.or (.lt (.lit 60) (.var 2)) (.not (.and (.lt (.var 4) (.var 2)) (.and (.eq (.var 26) (.lit 0)) (.or (.or (.or (.not (.bvar 48)) (.lt (.var 28) (.var 6))) (.lt (.lit 255) (.var 28))) (.and (.not (.or (.or (.not (.bvar 48)) (.lt (.var 28) (.var 6))) (.lt (.lit 255) (.var 28)))) (.or (.or (.and (.bvar 29) (.bvar 35)) (.and (.bvar 13) (.or (.not (.bvar 35)) (.not (.eq (.var 41) (.var 19)))))) (.and (.not (.or (.and (.bvar 29) (.bvar 35)) (.and (.bvar 13) (.or (.not (.bvar 35)) (.not (.eq (.var 41) (.var 19))))))) (.or (.or (.and (.bvar 30) (.bvar 36)) (.and (.bvar 14) (.or (.not (.bvar 36)) (.not (.eq (.var 42) (.var 20)))))) (.and (.not (.or (.and (.bvar 30) (.bvar 36)) (.and (.bvar 14) (.or (.not (.bvar 36)) (.not (.eq (.var 42) (.var 20))))))) (.or (.or (.and (.bvar 31) (.bvar 37)) (.and (.bvar 15) (.or (.not (.bvar 37)) (.not (.eq (.var 43) (.var 21)))))) (.and (.not (.or (.and (.bvar 31) (.bvar 37)) (.and (.bvar 15) (.or (.not (.bvar 37)) (.not (.eq (.var 43) (.var 21))))))) (.or (.or (.and (.bvar 32) (.bvar 38)) (.and (.bvar 16) (.or (.not (.bvar 38)) (.not (.eq (.var 44) (.var 22)))))) (.and (.not (.or (.and (.bvar 32) (.bvar 38)) (.and (.bvar 16) (.or (.not (.bvar 38)) (.not (.eq (.var 44) (.var 22))))))) (.or (.or (.and (.bvar 33) (.bvar 39)) (.and (.bvar 17) (.or (.not (.bvar 39)) (.not (.eq (.var 45) (.var 23)))))) (.and (.not (.or (.and (.bvar 33) (.bvar 39)) (.and (.bvar 17) (.or (.not (.bvar 39)) (.not (.eq (.var 45) (.var 23))))))) (.or (.and (.bvar 34) (.bvar 40)) (.and (.bvar 18) (.or (.not (.bvar 40)) (.not (.eq (.var 46) (.var 24)))))))))))))))))))))))), .and (.e (.le (.lit 0) (.var 2))) (.imp (.not (.lt (.lit 60) (.var 2))) (.p 9 (fun _ ρ => LK.I (assign ρ A0K)) [])), .x 9 (fun _ _ ρ => LK.ob.env.run (LK.last (LK.μ (assign ρ A0K)) (assign ρ A0K))) [] 0) := by kernel_rfl

theorem fresh17 : Sound17 ⟨0, 0, 0, fun _ => false, fun _ => false, fun _ => 0⟩ := ⟨by decide, by decide, fun _ _ => rfl, Or.inl ⟨rfl, fun _ _ => rfl⟩⟩

/-- GroupKeeps of some steps. -/
theorem keeps_some (ρ : Env) (w : World) (hw : ρ.w = w) (hy : 0 ≤ ρ.i 1) (hl : 0 ≤ ρ.i 2) (hat : StepsAt ρ) :
    Calls Try.prog 3 #[.slice (some ⟨(ρ.i 0).toNat, (ρ.i 1).toNat, none⟩) (ρ.i 2).toNat (ρ.i 3).toNat] w fun e w' => e = .returned (.bool true) ∧ RowKit.Below w.heap.size w w' := by
  obtain ⟨body, hb⟩ : ∃ body, bodyOf Try.prog 3 = some body := by
    cases h : bodyOf Try.prog 3 with
    | none => exact absurd h (by unfold bodyOf; rw [Try.func3]; simp [Try.f3])
    | some b => exact ⟨b, rfl⟩
  obtain ⟨b, hcl⟩ : ∃ b, codeAt body pK = some (.loop b) := by
    have h : ((bodyOf Try.prog 3).bind fun c => codeAt c pK).any (fun c => match c with | .loop _ => true | _ => false) = true := by kernel_rfl
    rw [hb, Option.bind_some] at h
    cases hq : codeAt body pK with
    | none => rw [hq] at h; cases h
    | some c => rw [hq] at h; cases c <;> first | exact ⟨_, rfl⟩ | cases h
  have hI0 : ρ.i 2 ≤ 60 → IK (assign ρ A0K) := fun h60 => by
    refine ⟨hy, ⟨hl, h60⟩, ⟨Int.le_refl _, hl⟩, hat, ?_⟩
    exact Sound17.congr (g := ⟨0, 0, 0, fun _ => false, fun _ => false, fun _ => 0⟩) rfl rfl (six_all rfl rfl rfl rfl rfl rfl) (six_all rfl rfl rfl rfl rfl rfl) fresh17
  have key := funP_sound grpΓ_ok hb (ΛK_ok hb) keepsE id ρ w (fun _ _ h => hw ▸ h) (by
    simp only [Nd.holds, bT_le, bT_lt, bT_not, iev_lit, iev_var]
    exact ⟨hl, fun h => hI0 (by omega)⟩)
  refine key.2.mono fun e w' ⟨he, hb'⟩ => ⟨?_, hb'⟩
  rw [he]
  have ha := key.1 ρ
  refine congrArg (fun b => Ending.returned (Value.bool b)) ?_
  show bev _ (.or (.lt (.lit 60) (.var 2)) (.not retLive)) = true
  rw [bT_or, bT_lt, bT_not, iev_lit, iev_var, ha.i 2 (by decide)]
  rcases Int.lt_or_le 60 (ρ.i 2) with h | h
  · exact Or.inl h
  · refine Or.inr ?_
    have hr := ret_false _ ((LK_ok hb hcl).last_inv (LK.μ (assign ρ A0K)) _ (hI0 h)).1
    rw [← evK_run] at hr
    exact hr
end Go.Proofs.Ytngboefkhfldgaa
