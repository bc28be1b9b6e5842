/- Layer 17: GroupCounts' loop and body. Condition: the steps read as steps. -/
import Derived.Test.YtngboefkhfldgaaGrpK
set_option linter.unusedSimpArgs false
set_option linter.unusedVariables false
set_option linter.constructorNameAsVariable false
namespace Go.Proofs.Ytngboefkhfldgaa.C
open Go Go.Ex Go.RowKit Go.Proofs.Ytngboefkhfldgaa

def pK : List Nat := [1, 1, 1, 0, 1, 0]
def hdK : St := ⟨[some ⟨.tt, .sv (.one (.rsl (.var 0) (.var 1) (.var 2) (.var 3)))⟩, some ⟨.tt, .sv (.one (.int .u64 (.var 4)))⟩, none, none, none, some ⟨.tt, .sv (.one (.ptr 0 0))⟩, some ⟨.tt, .sv (.one (.int .i64 (.var 5)))⟩, none, none, none, none, none, none, none, none, none, none, none, none, none, none, none, none, none, none, none, none, none, none, none, none, none, none, none, none, none, none, none, none, none, none, none, none, none, none, none, none, none, none, none, none, none, none, none, none, none, none, none, none, none, none, none, none, none, none, none, none, none, none, none, none, none, none, none, none, none, none, none, none, none, none], [some ([.int .i64 (.var 6), .int .i64 (.var 7), .bool (.bvar 8), .bool (.bvar 9), .bool (.bvar 10), .bool (.bvar 11), .bool (.bvar 12), .bool (.bvar 13), .bool (.bvar 14), .bool (.bvar 15), .bool (.bvar 16), .bool (.bvar 17), .bool (.bvar 18), .bool (.bvar 19), .int .u64 (.var 20), .int .u64 (.var 21), .int .u64 (.var 22), .int .u64 (.var 23), .int .u64 (.var 24), .int .u64 (.var 25), .int .i64 (.var 26)], 28)], .tt, 27⟩
def sK : St := ⟨[some ⟨.tt, .sv (.one (.rsl (.var 0) (.var 1) (.var 2) (.var 3)))⟩, some ⟨.tt, .sv (.one (.int .u64 (.var 4)))⟩, none, none, none, some ⟨.tt, .sv (.one (.ptr 0 0))⟩, some ⟨.tt, .sv (.one (.int .i64 (.wrap .i64 (.add (.var 5) (.lit 1)))))⟩, some ⟨.tt, .sv (.one (.ptr 1 0))⟩, none, none, none, none, none, none, none, none, some ⟨.tt, .sv (.one (.int .i64 (.var 5)))⟩, some ⟨.tt, .sv (.one (.rsl (.var 0) (.var 1) (.var 2) (.var 3)))⟩, some ⟨.tt, .sv (.one (.int .i64 (.var 2)))⟩, some ⟨.tt, .sv (.one (.bool (.lt (.var 5) (.var 2))))⟩, some ⟨.tt, .sv (.one (.int .i64 (.var 5)))⟩, some ⟨.tt, .sv (.one (.int .i64 (.wrap .i64 (.add (.var 5) (.lit 1)))))⟩, some ⟨.tt, .sv (.one (.rsl (.var 0) (.var 1) (.var 2) (.var 3)))⟩, some ⟨.tt, .sv (.one (.int .i64 (.var 5)))⟩, some ⟨.tt, .sv (.one (.rptr (.var 0) (.add (.var 1) (.mul (.var 5) (.lit 4)))))⟩, some ⟨.tt, .sv (.agg [.int .i64 (.romI (.var 0) (.add (.var 1) (.mul (.var 5) (.lit 4))) 0), .int .i64 (.romI (.var 0) (.add (.var 1) (.mul (.var 5) (.lit 4))) 1), .int .i64 (.romI (.var 0) (.add (.var 1) (.mul (.var 5) (.lit 4))) 2), .int .u64 (.romI (.var 0) (.add (.var 1) (.mul (.var 5) (.lit 4))) 3)])⟩, some ⟨.tt, .sv (.agg [.int .i64 (.var 6), .int .i64 (.var 7), .bool (.bvar 8), .bool (.bvar 9), .bool (.bvar 10), .bool (.bvar 11), .bool (.bvar 12), .bool (.bvar 13), .bool (.bvar 14), .bool (.bvar 15), .bool (.bvar 16), .bool (.bvar 17), .bool (.bvar 18), .bool (.bvar 19), .int .u64 (.var 20), .int .u64 (.var 21), .int .u64 (.var 22), .int .u64 (.var 23), .int .u64 (.var 24), .int .u64 (.var 25), .int .i64 (.var 26)])⟩, some ⟨.tt, .sv (.one (.ptr 1 0))⟩, some ⟨.tt, .sv (.one (.int .i64 (.romI (.var 0) (.add (.var 1) (.mul (.var 5) (.lit 4))) 0)))⟩, some ⟨.tt, .sv (.one (.ptr 1 1))⟩, some ⟨.tt, .sv (.one (.int .i64 (.romI (.var 0) (.add (.var 1) (.mul (.var 5) (.lit 4))) 1)))⟩, some ⟨.tt, .sv (.one (.ptr 1 2))⟩, some ⟨.tt, .sv (.one (.int .i64 (.romI (.var 0) (.add (.var 1) (.mul (.var 5) (.lit 4))) 2)))⟩, some ⟨.tt, .sv (.one (.int .i64 (.var 27)))⟩, some ⟨.tt, .sv (.one (.bool (.not (.eq (.var 27) (.lit 0)))))⟩, none, none, none, none, none, none, none, none, none, none, none, none, none, none, none, none, none, none, none, none, none, none, none, none, none, none, none, none, none, none, none, none, none, none, none, none, none, none, none, none, none, none, none, none, none, none], [some ([.int .i64 (.ite (.not (.eq (.var 27) (.lit 0))) (.var 6) (.var 28)), .int .i64 (.ite (.not (.eq (.var 27) (.lit 0))) (.var 7) (.var 29)), .bool (.ite (.not (.eq (.var 27) (.lit 0))) (.bvar 8) (.bvar 30)), .bool (.ite (.not (.eq (.var 27) (.lit 0))) (.bvar 9) (.bvar 31)), .bool (.ite (.not (.eq (.var 27) (.lit 0))) (.bvar 10) (.bvar 32)), .bool (.ite (.not (.eq (.var 27) (.lit 0))) (.bvar 11) (.bvar 33)), .bool (.ite (.not (.eq (.var 27) (.lit 0))) (.bvar 12) (.bvar 34)), .bool (.ite (.not (.eq (.var 27) (.lit 0))) (.bvar 13) (.bvar 35)), .bool (.ite (.not (.eq (.var 27) (.lit 0))) (.bvar 14) (.bvar 36)), .bool (.ite (.not (.eq (.var 27) (.lit 0))) (.bvar 15) (.bvar 37)), .bool (.ite (.not (.eq (.var 27) (.lit 0))) (.bvar 16) (.bvar 38)), .bool (.ite (.not (.eq (.var 27) (.lit 0))) (.bvar 17) (.bvar 39)), .bool (.ite (.not (.eq (.var 27) (.lit 0))) (.bvar 18) (.bvar 40)), .bool (.ite (.not (.eq (.var 27) (.lit 0))) (.bvar 19) (.bvar 41)), .int .u64 (.ite (.not (.eq (.var 27) (.lit 0))) (.var 20) (.var 42)), .int .u64 (.ite (.not (.eq (.var 27) (.lit 0))) (.var 21) (.var 43)), .int .u64 (.ite (.not (.eq (.var 27) (.lit 0))) (.var 22) (.var 44)), .int .u64 (.ite (.not (.eq (.var 27) (.lit 0))) (.var 23) (.var 45)), .int .u64 (.ite (.not (.eq (.var 27) (.lit 0))) (.var 24) (.var 46)), .int .u64 (.ite (.not (.eq (.var 27) (.lit 0))) (.var 25) (.var 47)), .int .i64 (.ite (.not (.eq (.var 27) (.lit 0))) (.var 26) (.var 48))], 28), some ([.int .i64 (.romI (.var 0) (.add (.var 1) (.mul (.var 5) (.lit 4))) 0), .int .i64 (.romI (.var 0) (.add (.var 1) (.mul (.var 5) (.lit 4))) 1), .int .i64 (.romI (.var 0) (.add (.var 1) (.mul (.var 5) (.lit 4))) 2), .int .u64 (.romI (.var 0) (.add (.var 1) (.mul (.var 5) (.lit 4))) 3)], 30)], .and (.lt (.var 5) (.var 2)) (.or (.not (.eq (.var 27) (.lit 0))) (.and (.eq (.var 27) (.lit 0)) (.not (.or (.or (.and (.eq (.romI (.var 0) (.add (.var 1) (.mul (.var 5) (.lit 4))) 1) (.lit 3)) (.not (.beq (.bvar 49) (.le (.var 4) (.romI (.var 0) (.add (.var 1) (.mul (.var 5) (.lit 4))) 3))))) (.and (.eq (.romI (.var 0) (.add (.var 1) (.mul (.var 5) (.lit 4))) 1) (.lit 2)) (.not (.bvar 50)))) (.not (.bvar 51)))))), 52⟩
def restK : List (Tag × St) := [(.exit 0, ⟨[some ⟨.tt, .sv (.one (.rsl (.var 0) (.var 1) (.var 2) (.var 3)))⟩, some ⟨.tt, .sv (.one (.int .u64 (.var 4)))⟩, none, none, none, some ⟨.tt, .sv (.one (.ptr 0 0))⟩, some ⟨.tt, .sv (.one (.int .i64 (.var 5)))⟩, none, none, none, none, none, none, none, none, none, some ⟨.tt, .sv (.one (.int .i64 (.var 5)))⟩, some ⟨.tt, .sv (.one (.rsl (.var 0) (.var 1) (.var 2) (.var 3)))⟩, some ⟨.tt, .sv (.one (.int .i64 (.var 2)))⟩, some ⟨.tt, .sv (.one (.bool (.lt (.var 5) (.var 2))))⟩, none, none, none, none, none, none, none, none, none, none, none, none, none, none, none, none, none, none, none, none, none, none, none, none, none, none, none, none, none, none, none, none, none, none, none, none, none, none, none, none, none, none, none, none, none, none, none, none, none, none, none, none, none, none, none, none, none, none, none, none, none], [some ([.int .i64 (.var 6), .int .i64 (.var 7), .bool (.bvar 8), .bool (.bvar 9), .bool (.bvar 10), .bool (.bvar 11), .bool (.bvar 12), .bool (.bvar 13), .bool (.bvar 14), .bool (.bvar 15), .bool (.bvar 16), .bool (.bvar 17), .bool (.bvar 18), .bool (.bvar 19), .int .u64 (.var 20), .int .u64 (.var 21), .int .u64 (.var 22), .int .u64 (.var 23), .int .u64 (.var 24), .int .u64 (.var 25), .int .i64 (.var 26)], 28)], .not (.lt (.var 5) (.var 2)), 27⟩), (.ret, ⟨[some ⟨.tt, .sv (.one (.rsl (.var 0) (.var 1) (.var 2) (.var 3)))⟩, some ⟨.tt, .sv (.one (.int .u64 (.var 4)))⟩, none, none, some ⟨.tt, .sv (.one (.bool .ff))⟩, some ⟨.tt, .sv (.one (.ptr 0 0))⟩, some ⟨.tt, .sv (.one (.int .i64 (.var 5)))⟩, some ⟨.tt, .sv (.one (.ptr 1 0))⟩, none, none, none, none, none, none, none, none, some ⟨.tt, .sv (.one (.int .i64 (.var 5)))⟩, some ⟨.tt, .sv (.one (.rsl (.var 0) (.var 1) (.var 2) (.var 3)))⟩, some ⟨.tt, .sv (.one (.int .i64 (.var 2)))⟩, some ⟨.tt, .sv (.one (.bool (.lt (.var 5) (.var 2))))⟩, none, none, some ⟨.tt, .sv (.one (.rsl (.var 0) (.var 1) (.var 2) (.var 3)))⟩, some ⟨.tt, .sv (.one (.int .i64 (.var 5)))⟩, some ⟨.tt, .sv (.one (.rptr (.var 0) (.add (.var 1) (.mul (.var 5) (.lit 4)))))⟩, some ⟨.tt, .sv (.agg [.int .i64 (.romI (.var 0) (.add (.var 1) (.mul (.var 5) (.lit 4))) 0), .int .i64 (.romI (.var 0) (.add (.var 1) (.mul (.var 5) (.lit 4))) 1), .int .i64 (.romI (.var 0) (.add (.var 1) (.mul (.var 5) (.lit 4))) 2), .int .u64 (.romI (.var 0) (.add (.var 1) (.mul (.var 5) (.lit 4))) 3)])⟩, some ⟨.tt, .sv (.agg [.int .i64 (.var 6), .int .i64 (.var 7), .bool (.bvar 8), .bool (.bvar 9), .bool (.bvar 10), .bool (.bvar 11), .bool (.bvar 12), .bool (.bvar 13), .bool (.bvar 14), .bool (.bvar 15), .bool (.bvar 16), .bool (.bvar 17), .bool (.bvar 18), .bool (.bvar 19), .int .u64 (.var 20), .int .u64 (.var 21), .int .u64 (.var 22), .int .u64 (.var 23), .int .u64 (.var 24), .int .u64 (.var 25), .int .i64 (.var 26)])⟩, some ⟨.tt, .sv (.one (.ptr 1 0))⟩, some ⟨.tt, .sv (.one (.int .i64 (.romI (.var 0) (.add (.var 1) (.mul (.var 5) (.lit 4))) 0)))⟩, some ⟨.tt, .sv (.one (.ptr 1 1))⟩, some ⟨.tt, .sv (.one (.int .i64 (.romI (.var 0) (.add (.var 1) (.mul (.var 5) (.lit 4))) 1)))⟩, some ⟨.tt, .sv (.one (.ptr 1 2))⟩, some ⟨.tt, .sv (.one (.int .i64 (.romI (.var 0) (.add (.var 1) (.mul (.var 5) (.lit 4))) 2)))⟩, some ⟨.tt, .sv (.one (.int .i64 (.var 27)))⟩, some ⟨.tt, .sv (.one (.bool (.not (.eq (.var 27) (.lit 0)))))⟩, some ⟨.tt, .sv (.agg [.int .i64 (.var 6), .int .i64 (.var 7), .bool (.bvar 8), .bool (.bvar 9), .bool (.bvar 10), .bool (.bvar 11), .bool (.bvar 12), .bool (.bvar 13), .bool (.bvar 14), .bool (.bvar 15), .bool (.bvar 16), .bool (.bvar 17), .bool (.bvar 18), .bool (.bvar 19), .int .u64 (.var 20), .int .u64 (.var 21), .int .u64 (.var 22), .int .u64 (.var 23), .int .u64 (.var 24), .int .u64 (.var 25), .int .i64 (.var 26)])⟩, some ⟨.tt, .sv (.one (.ptr 1 0))⟩, some ⟨.tt, .sv (.one (.int .i64 (.romI (.var 0) (.add (.var 1) (.mul (.var 5) (.lit 4))) 0)))⟩, some ⟨.tt, .sv (.one (.ptr 1 1))⟩, some ⟨.tt, .sv (.one (.int .i64 (.romI (.var 0) (.add (.var 1) (.mul (.var 5) (.lit 4))) 1)))⟩, some ⟨.tt, .sv (.one (.ptr 1 2))⟩, some ⟨.tt, .sv (.one (.int .i64 (.romI (.var 0) (.add (.var 1) (.mul (.var 5) (.lit 4))) 2)))⟩, some ⟨.tt, .sv (.one (.ptr 1 3))⟩, some ⟨.tt, .sv (.one (.int .u64 (.romI (.var 0) (.add (.var 1) (.mul (.var 5) (.lit 4))) 3)))⟩, some ⟨.tt, .sv (.agg [.int .i64 (.var 28), .int .i64 (.var 29), .bool (.bvar 30), .bool (.bvar 31), .bool (.bvar 32), .bool (.bvar 33), .bool (.bvar 34), .bool (.bvar 35), .bool (.bvar 36), .bool (.bvar 37), .bool (.bvar 38), .bool (.bvar 39), .bool (.bvar 40), .bool (.bvar 41), .int .u64 (.var 42), .int .u64 (.var 43), .int .u64 (.var 44), .int .u64 (.var 45), .int .u64 (.var 46), .int .u64 (.var 47), .int .i64 (.var 48)])⟩, some ⟨.tt, .sv (.one (.ptr 1 1))⟩, some ⟨.tt, .sv (.one (.int .i64 (.romI (.var 0) (.add (.var 1) (.mul (.var 5) (.lit 4))) 1)))⟩, some ⟨.tt, .sv (.one (.bool (.eq (.romI (.var 0) (.add (.var 1) (.mul (.var 5) (.lit 4))) 1) (.lit 3))))⟩, some ⟨.tt, .sv (.one (.bool (.eq (.romI (.var 0) (.add (.var 1) (.mul (.var 5) (.lit 4))) 1) (.lit 3))))⟩, some ⟨.eq (.romI (.var 0) (.add (.var 1) (.mul (.var 5) (.lit 4))) 1) (.lit 3), .sv (.agg [.int .i64 (.var 28), .int .i64 (.var 29), .bool (.bvar 30), .bool (.bvar 31), .bool (.bvar 32), .bool (.bvar 33), .bool (.bvar 34), .bool (.bvar 35), .bool (.bvar 36), .bool (.bvar 37), .bool (.bvar 38), .bool (.bvar 39), .bool (.bvar 40), .bool (.bvar 41), .int .u64 (.var 42), .int .u64 (.var 43), .int .u64 (.var 44), .int .u64 (.var 45), .int .u64 (.var 46), .int .u64 (.var 47), .int .i64 (.var 48)])⟩, some ⟨.eq (.romI (.var 0) (.add (.var 1) (.mul (.var 5) (.lit 4))) 1) (.lit 3), .sv (.one (.ptr 1 2))⟩, some ⟨.eq (.romI (.var 0) (.add (.var 1) (.mul (.var 5) (.lit 4))) 1) (.lit 3), .sv (.one (.int .i64 (.romI (.var 0) (.add (.var 1) (.mul (.var 5) (.lit 4))) 2)))⟩, some ⟨.eq (.romI (.var 0) (.add (.var 1) (.mul (.var 5) (.lit 4))) 1) (.lit 3), .sv (.one (.int .u64 (.var 4)))⟩, some ⟨.eq (.romI (.var 0) (.add (.var 1) (.mul (.var 5) (.lit 4))) 1) (.lit 3), .sv (.one (.bool (.bvar 49)))⟩, some ⟨.eq (.romI (.var 0) (.add (.var 1) (.mul (.var 5) (.lit 4))) 1) (.lit 3), .sv (.one (.int .u64 (.var 4)))⟩, some ⟨.eq (.romI (.var 0) (.add (.var 1) (.mul (.var 5) (.lit 4))) 1) (.lit 3), .sv (.one (.ptr 1 3))⟩, some ⟨.eq (.romI (.var 0) (.add (.var 1) (.mul (.var 5) (.lit 4))) 1) (.lit 3), .sv (.one (.int .u64 (.romI (.var 0) (.add (.var 1) (.mul (.var 5) (.lit 4))) 3)))⟩, some ⟨.eq (.romI (.var 0) (.add (.var 1) (.mul (.var 5) (.lit 4))) 1) (.lit 3), .sv (.one (.bool (.le (.var 4) (.romI (.var 0) (.add (.var 1) (.mul (.var 5) (.lit 4))) 3))))⟩, some ⟨.eq (.romI (.var 0) (.add (.var 1) (.mul (.var 5) (.lit 4))) 1) (.lit 3), .sv (.one (.bool (.not (.beq (.bvar 49) (.le (.var 4) (.romI (.var 0) (.add (.var 1) (.mul (.var 5) (.lit 4))) 3))))))⟩, some ⟨.tt, .sv (.one (.bool (.and (.eq (.romI (.var 0) (.add (.var 1) (.mul (.var 5) (.lit 4))) 1) (.lit 3)) (.not (.beq (.bvar 49) (.le (.var 4) (.romI (.var 0) (.add (.var 1) (.mul (.var 5) (.lit 4))) 3)))))))⟩, some ⟨.tt, .sv (.one (.bool (.and (.eq (.romI (.var 0) (.add (.var 1) (.mul (.var 5) (.lit 4))) 1) (.lit 3)) (.not (.beq (.bvar 49) (.le (.var 4) (.romI (.var 0) (.add (.var 1) (.mul (.var 5) (.lit 4))) 3)))))))⟩, some ⟨.not (.and (.eq (.romI (.var 0) (.add (.var 1) (.mul (.var 5) (.lit 4))) 1) (.lit 3)) (.not (.beq (.bvar 49) (.le (.var 4) (.romI (.var 0) (.add (.var 1) (.mul (.var 5) (.lit 4))) 3))))), .sv (.one (.ptr 1 1))⟩, some ⟨.not (.and (.eq (.romI (.var 0) (.add (.var 1) (.mul (.var 5) (.lit 4))) 1) (.lit 3)) (.not (.beq (.bvar 49) (.le (.var 4) (.romI (.var 0) (.add (.var 1) (.mul (.var 5) (.lit 4))) 3))))), .sv (.one (.int .i64 (.romI (.var 0) (.add (.var 1) (.mul (.var 5) (.lit 4))) 1)))⟩, some ⟨.not (.and (.eq (.romI (.var 0) (.add (.var 1) (.mul (.var 5) (.lit 4))) 1) (.lit 3)) (.not (.beq (.bvar 49) (.le (.var 4) (.romI (.var 0) (.add (.var 1) (.mul (.var 5) (.lit 4))) 3))))), .sv (.one (.bool (.eq (.romI (.var 0) (.add (.var 1) (.mul (.var 5) (.lit 4))) 1) (.lit 2))))⟩, some ⟨.not (.and (.eq (.romI (.var 0) (.add (.var 1) (.mul (.var 5) (.lit 4))) 1) (.lit 3)) (.not (.beq (.bvar 49) (.le (.var 4) (.romI (.var 0) (.add (.var 1) (.mul (.var 5) (.lit 4))) 3))))), .sv (.one (.bool (.eq (.romI (.var 0) (.add (.var 1) (.mul (.var 5) (.lit 4))) 1) (.lit 2))))⟩, some ⟨.and (.not (.and (.eq (.romI (.var 0) (.add (.var 1) (.mul (.var 5) (.lit 4))) 1) (.lit 3)) (.not (.beq (.bvar 49) (.le (.var 4) (.romI (.var 0) (.add (.var 1) (.mul (.var 5) (.lit 4))) 3)))))) (.eq (.romI (.var 0) (.add (.var 1) (.mul (.var 5) (.lit 4))) 1) (.lit 2)), .sv (.agg [.int .i64 (.var 28), .int .i64 (.var 29), .bool (.bvar 30), .bool (.bvar 31), .bool (.bvar 32), .bool (.bvar 33), .bool (.bvar 34), .bool (.bvar 35), .bool (.bvar 36), .bool (.bvar 37), .bool (.bvar 38), .bool (.bvar 39), .bool (.bvar 40), .bool (.bvar 41), .int .u64 (.var 42), .int .u64 (.var 43), .int .u64 (.var 44), .int .u64 (.var 45), .int .u64 (.var 46), .int .u64 (.var 47), .int .i64 (.var 48)])⟩, some ⟨.and (.not (.and (.eq (.romI (.var 0) (.add (.var 1) (.mul (.var 5) (.lit 4))) 1) (.lit 3)) (.not (.beq (.bvar 49) (.le (.var 4) (.romI (.var 0) (.add (.var 1) (.mul (.var 5) (.lit 4))) 3)))))) (.eq (.romI (.var 0) (.add (.var 1) (.mul (.var 5) (.lit 4))) 1) (.lit 2)), .sv (.one (.ptr 1 2))⟩, some ⟨.and (.not (.and (.eq (.romI (.var 0) (.add (.var 1) (.mul (.var 5) (.lit 4))) 1) (.lit 3)) (.not (.beq (.bvar 49) (.le (.var 4) (.romI (.var 0) (.add (.var 1) (.mul (.var 5) (.lit 4))) 3)))))) (.eq (.romI (.var 0) (.add (.var 1) (.mul (.var 5) (.lit 4))) 1) (.lit 2)), .sv (.one (.int .i64 (.romI (.var 0) (.add (.var 1) (.mul (.var 5) (.lit 4))) 2)))⟩, some ⟨.and (.not (.and (.eq (.romI (.var 0) (.add (.var 1) (.mul (.var 5) (.lit 4))) 1) (.lit 3)) (.not (.beq (.bvar 49) (.le (.var 4) (.romI (.var 0) (.add (.var 1) (.mul (.var 5) (.lit 4))) 3)))))) (.eq (.romI (.var 0) (.add (.var 1) (.mul (.var 5) (.lit 4))) 1) (.lit 2)), .sv (.one (.int .u64 (.var 4)))⟩, some ⟨.and (.not (.and (.eq (.romI (.var 0) (.add (.var 1) (.mul (.var 5) (.lit 4))) 1) (.lit 3)) (.not (.beq (.bvar 49) (.le (.var 4) (.romI (.var 0) (.add (.var 1) (.mul (.var 5) (.lit 4))) 3)))))) (.eq (.romI (.var 0) (.add (.var 1) (.mul (.var 5) (.lit 4))) 1) (.lit 2)), .sv (.one (.bool (.bvar 50)))⟩, some ⟨.and (.not (.and (.eq (.romI (.var 0) (.add (.var 1) (.mul (.var 5) (.lit 4))) 1) (.lit 3)) (.not (.beq (.bvar 49) (.le (.var 4) (.romI (.var 0) (.add (.var 1) (.mul (.var 5) (.lit 4))) 3)))))) (.eq (.romI (.var 0) (.add (.var 1) (.mul (.var 5) (.lit 4))) 1) (.lit 2)), .sv (.one (.bool (.not (.bvar 50))))⟩, some ⟨.not (.and (.eq (.romI (.var 0) (.add (.var 1) (.mul (.var 5) (.lit 4))) 1) (.lit 3)) (.not (.beq (.bvar 49) (.le (.var 4) (.romI (.var 0) (.add (.var 1) (.mul (.var 5) (.lit 4))) 3))))), .sv (.one (.bool (.and (.eq (.romI (.var 0) (.add (.var 1) (.mul (.var 5) (.lit 4))) 1) (.lit 2)) (.not (.bvar 50)))))⟩, some ⟨.tt, .sv (.one (.bool (.or (.and (.eq (.romI (.var 0) (.add (.var 1) (.mul (.var 5) (.lit 4))) 1) (.lit 3)) (.not (.beq (.bvar 49) (.le (.var 4) (.romI (.var 0) (.add (.var 1) (.mul (.var 5) (.lit 4))) 3))))) (.and (.eq (.romI (.var 0) (.add (.var 1) (.mul (.var 5) (.lit 4))) 1) (.lit 2)) (.not (.bvar 50))))))⟩, some ⟨.tt, .sv (.one (.bool (.or (.and (.eq (.romI (.var 0) (.add (.var 1) (.mul (.var 5) (.lit 4))) 1) (.lit 3)) (.not (.beq (.bvar 49) (.le (.var 4) (.romI (.var 0) (.add (.var 1) (.mul (.var 5) (.lit 4))) 3))))) (.and (.eq (.romI (.var 0) (.add (.var 1) (.mul (.var 5) (.lit 4))) 1) (.lit 2)) (.not (.bvar 50))))))⟩, some ⟨.not (.or (.and (.eq (.romI (.var 0) (.add (.var 1) (.mul (.var 5) (.lit 4))) 1) (.lit 3)) (.not (.beq (.bvar 49) (.le (.var 4) (.romI (.var 0) (.add (.var 1) (.mul (.var 5) (.lit 4))) 3))))) (.and (.eq (.romI (.var 0) (.add (.var 1) (.mul (.var 5) (.lit 4))) 1) (.lit 2)) (.not (.bvar 50)))), .sv (.agg [.int .i64 (.var 28), .int .i64 (.var 29), .bool (.bvar 30), .bool (.bvar 31), .bool (.bvar 32), .bool (.bvar 33), .bool (.bvar 34), .bool (.bvar 35), .bool (.bvar 36), .bool (.bvar 37), .bool (.bvar 38), .bool (.bvar 39), .bool (.bvar 40), .bool (.bvar 41), .int .u64 (.var 42), .int .u64 (.var 43), .int .u64 (.var 44), .int .u64 (.var 45), .int .u64 (.var 46), .int .u64 (.var 47), .int .i64 (.var 48)])⟩, some ⟨.not (.or (.and (.eq (.romI (.var 0) (.add (.var 1) (.mul (.var 5) (.lit 4))) 1) (.lit 3)) (.not (.beq (.bvar 49) (.le (.var 4) (.romI (.var 0) (.add (.var 1) (.mul (.var 5) (.lit 4))) 3))))) (.and (.eq (.romI (.var 0) (.add (.var 1) (.mul (.var 5) (.lit 4))) 1) (.lit 2)) (.not (.bvar 50)))), .sv (.one (.ptr 0 0))⟩, some ⟨.not (.or (.and (.eq (.romI (.var 0) (.add (.var 1) (.mul (.var 5) (.lit 4))) 1) (.lit 3)) (.not (.beq (.bvar 49) (.le (.var 4) (.romI (.var 0) (.add (.var 1) (.mul (.var 5) (.lit 4))) 3))))) (.and (.eq (.romI (.var 0) (.add (.var 1) (.mul (.var 5) (.lit 4))) 1) (.lit 2)) (.not (.bvar 50)))), .sv (.one (.int .i64 (.var 28)))⟩, some ⟨.not (.or (.and (.eq (.romI (.var 0) (.add (.var 1) (.mul (.var 5) (.lit 4))) 1) (.lit 3)) (.not (.beq (.bvar 49) (.le (.var 4) (.romI (.var 0) (.add (.var 1) (.mul (.var 5) (.lit 4))) 3))))) (.and (.eq (.romI (.var 0) (.add (.var 1) (.mul (.var 5) (.lit 4))) 1) (.lit 2)) (.not (.bvar 50)))), .sv (.one (.int .u64 (.var 4)))⟩, some ⟨.not (.or (.and (.eq (.romI (.var 0) (.add (.var 1) (.mul (.var 5) (.lit 4))) 1) (.lit 3)) (.not (.beq (.bvar 49) (.le (.var 4) (.romI (.var 0) (.add (.var 1) (.mul (.var 5) (.lit 4))) 3))))) (.and (.eq (.romI (.var 0) (.add (.var 1) (.mul (.var 5) (.lit 4))) 1) (.lit 2)) (.not (.bvar 50)))), .sv (.one (.bool (.bvar 51)))⟩, some ⟨.not (.or (.and (.eq (.romI (.var 0) (.add (.var 1) (.mul (.var 5) (.lit 4))) 1) (.lit 3)) (.not (.beq (.bvar 49) (.le (.var 4) (.romI (.var 0) (.add (.var 1) (.mul (.var 5) (.lit 4))) 3))))) (.and (.eq (.romI (.var 0) (.add (.var 1) (.mul (.var 5) (.lit 4))) 1) (.lit 2)) (.not (.bvar 50)))), .sv (.one (.bool (.not (.bvar 51))))⟩, some ⟨.tt, .sv (.one (.bool (.or (.or (.and (.eq (.romI (.var 0) (.add (.var 1) (.mul (.var 5) (.lit 4))) 1) (.lit 3)) (.not (.beq (.bvar 49) (.le (.var 4) (.romI (.var 0) (.add (.var 1) (.mul (.var 5) (.lit 4))) 3))))) (.and (.eq (.romI (.var 0) (.add (.var 1) (.mul (.var 5) (.lit 4))) 1) (.lit 2)) (.not (.bvar 50)))) (.not (.bvar 51)))))⟩], [some ([.int .i64 (.var 28), .int .i64 (.var 29), .bool (.bvar 30), .bool (.bvar 31), .bool (.bvar 32), .bool (.bvar 33), .bool (.bvar 34), .bool (.bvar 35), .bool (.bvar 36), .bool (.bvar 37), .bool (.bvar 38), .bool (.bvar 39), .bool (.bvar 40), .bool (.bvar 41), .int .u64 (.var 42), .int .u64 (.var 43), .int .u64 (.var 44), .int .u64 (.var 45), .int .u64 (.var 46), .int .u64 (.var 47), .int .i64 (.var 48)], 28), some ([.int .i64 (.romI (.var 0) (.add (.var 1) (.mul (.var 5) (.lit 4))) 0), .int .i64 (.romI (.var 0) (.add (.var 1) (.mul (.var 5) (.lit 4))) 1), .int .i64 (.romI (.var 0) (.add (.var 1) (.mul (.var 5) (.lit 4))) 2), .int .u64 (.romI (.var 0) (.add (.var 1) (.mul (.var 5) (.lit 4))) 3)], 30)], .and (.lt (.var 5) (.var 2)) (.and (.eq (.var 27) (.lit 0)) (.or (.or (.and (.eq (.romI (.var 0) (.add (.var 1) (.mul (.var 5) (.lit 4))) 1) (.lit 3)) (.not (.beq (.bvar 49) (.le (.var 4) (.romI (.var 0) (.add (.var 1) (.mul (.var 5) (.lit 4))) 3))))) (.and (.eq (.romI (.var 0) (.add (.var 1) (.mul (.var 5) (.lit 4))) 1) (.lit 2)) (.not (.bvar 50)))) (.not (.bvar 51)))), 52⟩)]
def AK : List As := [⟨5, false, .wrap .i64 (.add (.var 5) (.lit 1))⟩, ⟨6, false, .ite (.not (.eq (.var 27) (.lit 0))) (.var 6) (.var 28)⟩, ⟨7, false, .ite (.not (.eq (.var 27) (.lit 0))) (.var 7) (.var 29)⟩, ⟨8, true, .ite (.not (.eq (.var 27) (.lit 0))) (.bvar 8) (.bvar 30)⟩, ⟨9, true, .ite (.not (.eq (.var 27) (.lit 0))) (.bvar 9) (.bvar 31)⟩, ⟨10, true, .ite (.not (.eq (.var 27) (.lit 0))) (.bvar 10) (.bvar 32)⟩, ⟨11, true, .ite (.not (.eq (.var 27) (.lit 0))) (.bvar 11) (.bvar 33)⟩, ⟨12, true, .ite (.not (.eq (.var 27) (.lit 0))) (.bvar 12) (.bvar 34)⟩, ⟨13, true, .ite (.not (.eq (.var 27) (.lit 0))) (.bvar 13) (.bvar 35)⟩, ⟨14, true, .ite (.not (.eq (.var 27) (.lit 0))) (.bvar 14) (.bvar 36)⟩, ⟨15, true, .ite (.not (.eq (.var 27) (.lit 0))) (.bvar 15) (.bvar 37)⟩, ⟨16, true, .ite (.not (.eq (.var 27) (.lit 0))) (.bvar 16) (.bvar 38)⟩, ⟨17, true, .ite (.not (.eq (.var 27) (.lit 0))) (.bvar 17) (.bvar 39)⟩, ⟨18, true, .ite (.not (.eq (.var 27) (.lit 0))) (.bvar 18) (.bvar 40)⟩, ⟨19, true, .ite (.not (.eq (.var 27) (.lit 0))) (.bvar 19) (.bvar 41)⟩, ⟨20, false, .ite (.not (.eq (.var 27) (.lit 0))) (.var 20) (.var 42)⟩, ⟨21, false, .ite (.not (.eq (.var 27) (.lit 0))) (.var 21) (.var 43)⟩, ⟨22, false, .ite (.not (.eq (.var 27) (.lit 0))) (.var 22) (.var 44)⟩, ⟨23, false, .ite (.not (.eq (.var 27) (.lit 0))) (.var 23) (.var 45)⟩, ⟨24, false, .ite (.not (.eq (.var 27) (.lit 0))) (.var 24) (.var 46)⟩, ⟨25, false, .ite (.not (.eq (.var 27) (.lit 0))) (.var 25) (.var 47)⟩, ⟨26, false, .ite (.not (.eq (.var 27) (.lit 0))) (.var 26) (.var 48)⟩]
def ndK : Nd := .and (.e (.le (.lit 0) (.var 2))) (.imp (.lt (.var 5) (.var 2)) (.and (.e (.and (.le (.lit 0) (.var 1)) (.and (.le (.lit 0) (.var 5)) (.lt (.var 5) (.var 2))))) (.e (.and (.le (.lit 0) (.add (.var 1) (.mul (.var 5) (.lit 4)))) (.and (.romIs (.var 0) (.add (.var 1) (.mul (.var 5) (.lit 4))) 0 (.int .i64)) (.and (.romIs (.var 0) (.add (.var 1) (.mul (.var 5) (.lit 4))) 1 (.int .i64)) (.and (.romIs (.var 0) (.add (.var 1) (.mul (.var 5) (.lit 4))) 2 (.int .i64)) (.romIs (.var 0) (.add (.var 1) (.mul (.var 5) (.lit 4))) 3 (.int .u64)))))))))
def evK : Ev := .seq (.x 2 (setVars mayF 1) [.var 6, .var 7, .bvar 8, .bvar 9, .bvar 10, .bvar 11, .bvar 12, .bvar 13, .bvar 14, .bvar 15, .bvar 16, .bvar 17, .bvar 18, .bvar 19, .var 20, .var 21, .var 22, .var 23, .var 24, .var 25, .var 26, .romI (.var 0) (.add (.var 1) (.mul (.var 5) (.lit 4))) 0, .romI (.var 0) (.add (.var 1) (.mul (.var 5) (.lit 4))) 1, .romI (.var 0) (.add (.var 1) (.mul (.var 5) (.lit 4))) 2] 27) (.seq (.x 3 (setVars behindF 21) [.var 6, .var 7, .bvar 8, .bvar 9, .bvar 10, .bvar 11, .bvar 12, .bvar 13, .bvar 14, .bvar 15, .bvar 16, .bvar 17, .bvar 18, .bvar 19, .var 20, .var 21, .var 22, .var 23, .var 24, .var 25, .var 26, .romI (.var 0) (.add (.var 1) (.mul (.var 5) (.lit 4))) 0, .romI (.var 0) (.add (.var 1) (.mul (.var 5) (.lit 4))) 1, .romI (.var 0) (.add (.var 1) (.mul (.var 5) (.lit 4))) 2, .romI (.var 0) (.add (.var 1) (.mul (.var 5) (.lit 4))) 3] 28) (.seq (.ite (.eq (.romI (.var 0) (.add (.var 1) (.mul (.var 5) (.lit 4))) 1) (.lit 3)) (.x 4 (setVars countsF 1) [.var 28, .var 29, .bvar 30, .bvar 31, .bvar 32, .bvar 33, .bvar 34, .bvar 35, .bvar 36, .bvar 37, .bvar 38, .bvar 39, .bvar 40, .bvar 41, .var 42, .var 43, .var 44, .var 45, .var 46, .var 47, .var 48, .romI (.var 0) (.add (.var 1) (.mul (.var 5) (.lit 4))) 2, .var 4] 49) .id) (.seq (.ite (.and (.not (.and (.eq (.romI (.var 0) (.add (.var 1) (.mul (.var 5) (.lit 4))) 1) (.lit 3)) (.not (.beq (.bvar 49) (.le (.var 4) (.romI (.var 0) (.add (.var 1) (.mul (.var 5) (.lit 4))) 3)))))) (.eq (.romI (.var 0) (.add (.var 1) (.mul (.var 5) (.lit 4))) 1) (.lit 2))) (.x 4 (setVars countsF 1) [.var 28, .var 29, .bvar 30, .bvar 31, .bvar 32, .bvar 33, .bvar 34, .bvar 35, .bvar 36, .bvar 37, .bvar 38, .bvar 39, .bvar 40, .bvar 41, .var 42, .var 43, .var 44, .var 45, .var 46, .var 47, .var 48, .romI (.var 0) (.add (.var 1) (.mul (.var 5) (.lit 4))) 2, .var 4] 50) .id) (.ite (.not (.or (.and (.eq (.romI (.var 0) (.add (.var 1) (.mul (.var 5) (.lit 4))) 1) (.lit 3)) (.not (.beq (.bvar 49) (.le (.var 4) (.romI (.var 0) (.add (.var 1) (.mul (.var 5) (.lit 4))) 3))))) (.and (.eq (.romI (.var 0) (.add (.var 1) (.mul (.var 5) (.lit 4))) 1) (.lit 2)) (.not (.bvar 50))))) (.x 4 (setVars countsF 1) [.var 28, .var 29, .bvar 30, .bvar 31, .bvar 32, .bvar 33, .bvar 34, .bvar 35, .bvar 36, .bvar 37, .bvar 38, .bvar 39, .bvar 40, .bvar 41, .var 42, .var 43, .var 44, .var 45, .var 46, .var 47, .var 48, .var 28, .var 4] 51) .id))))
def obK : Out := ⟨restK ++ [(.norm, sK)], ndK, evK⟩
set_option maxRecDepth 100000 in
theorem obK_eq : pieceE Try.prog grpΓ 20 60 noL 4 (pK ++ [0]) hdK = some obK := by kernel_rfl

/-- What counts after an op that may be. -/
theorem counts_step {g : Grp} {n op m cut : Int} (seq : Int) (J : Sound17 g) (h : mayOf g n op m = 0) :
    (op = 3 → counts (behind g n op m cut) m seq = decide (seq ≤ cut)) ∧ (op = 2 → counts (behind g n op m cut) m seq = true) ∧ counts (behind g n op m cut) (behind g n op m cut).owner seq = true := by
  refine ⟨fun ho => ?_, fun ho => ?_, by rw [counts, (keep_step (cut := cut) J h).2.1, Bool.true_or]⟩
  all_goals
    obtain ⟨hn, hf, hs, he⟩ := may_parts h
    rw [behind_eq hn hf]
    subst ho
    have hm : isW m = true := by
      rcases formed_cases hf with ⟨h | h, _⟩ | ⟨_, h⟩
      · cases h
      · cases h
      · exact h
    simp [afterOp, counts, at6, upd, hm]

def gR (ρ : Env) : Grp := gOf ⟨ρ.i, ρ.b⟩ 6
structure IK (ρ : Env) : Prop where
  y : 0 ≤ ρ.i 1
  len : 0 ≤ ρ.i 2 ∧ ρ.i 2 ≤ 60
  i : 0 ≤ ρ.i 5 ∧ ρ.i 5 ≤ ρ.i 2
  at_ : StepsAt ρ
  g : Sound17 (gR ρ)

def es1 : List E := [.var 6, .var 7, .bvar 8, .bvar 9, .bvar 10, .bvar 11, .bvar 12, .bvar 13, .bvar 14, .bvar 15, .bvar 16, .bvar 17, .bvar 18, .bvar 19, .var 20, .var 21, .var 22, .var 23, .var 24, .var 25, .var 26, .romI (.var 0) (.add (.var 1) (.mul (.var 5) (.lit 4))) 0, .romI (.var 0) (.add (.var 1) (.mul (.var 5) (.lit 4))) 1, .romI (.var 0) (.add (.var 1) (.mul (.var 5) (.lit 4))) 2]
def es2 : List E := [.var 6, .var 7, .bvar 8, .bvar 9, .bvar 10, .bvar 11, .bvar 12, .bvar 13, .bvar 14, .bvar 15, .bvar 16, .bvar 17, .bvar 18, .bvar 19, .var 20, .var 21, .var 22, .var 23, .var 24, .var 25, .var 26, .romI (.var 0) (.add (.var 1) (.mul (.var 5) (.lit 4))) 0, .romI (.var 0) (.add (.var 1) (.mul (.var 5) (.lit 4))) 1, .romI (.var 0) (.add (.var 1) (.mul (.var 5) (.lit 4))) 2, .romI (.var 0) (.add (.var 1) (.mul (.var 5) (.lit 4))) 3]
def es3 : List E := [.var 28, .var 29, .bvar 30, .bvar 31, .bvar 32, .bvar 33, .bvar 34, .bvar 35, .bvar 36, .bvar 37, .bvar 38, .bvar 39, .bvar 40, .bvar 41, .var 42, .var 43, .var 44, .var 45, .var 46, .var 47, .var 48, .romI (.var 0) (.add (.var 1) (.mul (.var 5) (.lit 4))) 2, .var 4]
def es4 : List E := [.var 28, .var 29, .bvar 30, .bvar 31, .bvar 32, .bvar 33, .bvar 34, .bvar 35, .bvar 36, .bvar 37, .bvar 38, .bvar 39, .bvar 40, .bvar 41, .var 42, .var 43, .var 44, .var 45, .var 46, .var 47, .var 48, .romI (.var 0) (.add (.var 1) (.mul (.var 5) (.lit 4))) 2, .var 4]
def es5 : List E := [.var 28, .var 29, .bvar 30, .bvar 31, .bvar 32, .bvar 33, .bvar 34, .bvar 35, .bvar 36, .bvar 37, .bvar 38, .bvar 39, .bvar 40, .bvar 41, .var 42, .var 43, .var 44, .var 45, .var 46, .var 47, .var 48, .var 28, .var 4]
def cnd : Ev → E | .ite c _ _ => c | _ => .tt
def nth : Nat → Ev → Ev | 0, .seq a _ => a | 0, e => e | n + 1, .seq _ b => nth n b | _ + 1, e => e
def c3 : E := cnd (nth 2 evK)
def c4 : E := cnd (nth 3 evK)
def c5 : E := cnd (nth 4 evK)
def r1 (ρ : Env) : Env := setVars mayF 1 es1 27 ρ
def r2 (ρ : Env) : Env := setVars behindF 21 es2 28 (r1 ρ)
def r3 (ρ : Env) : Env := if bev (r2 ρ) c3 = true then setVars countsF 1 es3 49 (r2 ρ) else r2 ρ
def r4 (ρ : Env) : Env := if bev (r3 ρ) c4 = true then setVars countsF 1 es4 50 (r3 ρ) else r3 ρ
def r5 (ρ : Env) : Env := if bev (r4 ρ) c5 = true then setVars countsF 1 es5 51 (r4 ρ) else r4 ρ
theorem evK_run (ρ : Env) : evK.run ρ = r5 ρ := by
  rfl
/-- The step's number j. -/
def stp (ρ : Env) (j : Nat) : Int := valI (romCell ρ.w (ρ.i 0) (ρ.i 1 + ρ.i 5 * 4) j)

theorem g1 (ρ : Env) : gOf (ptOf es1 ρ) 0 = gR ρ := gOf_ext rfl rfl rfl (six_all rfl rfl rfl rfl rfl rfl) (six_all rfl rfl rfl rfl rfl rfl) (six_all rfl rfl rfl rfl rfl rfl)
theorem g2 (ρ : Env) : gOf (ptOf es2 (r1 ρ)) 0 = gR ρ := gOf_ext rfl rfl rfl (six_all rfl rfl rfl rfl rfl rfl) (six_all rfl rfl rfl rfl rfl rfl) (six_all rfl rfl rfl rfl rfl rfl)

/-- The round's group behind. -/
def nx (ρ : Env) : Grp := behind (gR ρ) (stp ρ 0) (stp ρ 1) (stp ρ 2) (stp ρ 3)
theorem low1 (ρ : Env) : Agree 27 ρ (r1 ρ) := setVars_agree _ _ _ _ _
theorem low2 (ρ : Env) : Agree 28 (r1 ρ) (r2 ρ) := setVars_agree _ _ _ _ _
theorem low3 (ρ : Env) : Agree 49 (r2 ρ) (r3 ρ) := by unfold r3; split; exact setVars_agree _ _ _ _ _; exact Agree.refl _ _
theorem low4 (ρ : Env) : Agree 50 (r3 ρ) (r4 ρ) := by unfold r4; split; exact setVars_agree _ _ _ _ _; exact Agree.refl _ _
theorem low5 (ρ : Env) : Agree 51 (r4 ρ) (r5 ρ) := by unfold r5; split; exact setVars_agree _ _ _ _ _; exact Agree.refl _ _
theorem low35 (ρ : Env) : Agree 49 (r2 ρ) (r5 ρ) := (low3 ρ).trans (((low4 ρ).mono (by decide)).trans ((low5 ρ).mono (by decide)))
theorem lowA (ρ : Env) : Agree 27 ρ (r5 ρ) := (low1 ρ).trans (((low2 ρ).mono (by decide)).trans ((low35 ρ).mono (by decide)))
theorem v27 (ρ : Env) : (r5 ρ).i 27 = mayOf (gR ρ) (stp ρ 0) (stp ρ 1) (stp ρ 2) := by
  rw [(low35 ρ).i 27 (by decide), (low2 ρ).i 27 (by decide), ← g1]; rfl
theorem nx_i (ρ : Env) (k : Nat) (hk : k < 21) : (r2 ρ).i (28 + k) = (gPt (nx ρ)).i k := by
  have e2 := setVars_i behindF 21 es2 28 (r1 ρ) hk
  refine e2.trans ?_
  unfold nx; rw [← g2]; rfl
theorem nx_b (ρ : Env) (k : Nat) (hk : k < 21) : (r2 ρ).b (28 + k) = (gPt (nx ρ)).b k := by
  have e2 := setVars_b behindF 21 es2 28 (r1 ρ) hk
  refine e2.trans ?_
  unfold nx; rw [← g2]; rfl
/-- The group behind, in any later place. -/
theorem nx_all (ρ q : Env) (h : Agree 49 (r2 ρ) q) : q.i 28 = (nx ρ).owner ∧ q.i (28 + 1) = (nx ρ).epoch ∧ (∀ k, k < 6 → q.b (28 + 2 + k) = (nx ρ).mem k) ∧ (∀ k, k < 6 → q.b (28 + 8 + k) = (nx ρ).gone k) ∧ (∀ k, k < 6 → q.i (28 + 14 + k) = (nx ρ).cut k) ∧ q.i (28 + 20) = (nx ρ).seen :=
  gPt_of (nx ρ) ⟨q.i, q.b⟩ 28 (fun k hk => (h.i _ (by omega)).trans (nx_i ρ k hk)) (fun k hk => (h.b _ (by omega)).trans (nx_b ρ k hk))
theorem counts_congr {g h : Grp} {n seq : Int} (hm : ∀ k, k < 6 → g.mem k = h.mem k) (hg : ∀ k, k < 6 → g.gone k = h.gone k) (hc : ∀ k, k < 6 → g.cut k = h.cut k) : counts g n seq = counts h n seq := by
  unfold counts
  rw [at6_congr hm, at6_congr hg]
  cases hn : isW n with
  | false => simp [at6, hn]
  | true => rw [hc _ (isW_toNat hn).1]
/-- What Counts says of the group behind. -/
theorem cnt (ρ q : Env) (h : Agree 49 (r2 ρ) q) (p : Pt) (n seq : Int) (e21 : p.i 21 = n) (e22 : p.i 22 = seq) (hm : ∀ k, k < 6 → p.b (2 + k) = q.b (30 + k)) (hg : ∀ k, k < 6 → p.b (8 + k) = q.b (36 + k)) (hc : ∀ k, k < 6 → p.i (14 + k) = q.i (42 + k)) :
    (countsF p).b 0 = counts (nx ρ) n seq := by
  have A := nx_all ρ q h
  show counts (gOf p 0) (p.i 21) (p.i 22) = _
  rw [e21, e22]
  have e0 : ∀ a k : Nat, 0 + a + k = a + k := fun a k => by omega
  refine counts_congr (fun k hk => ?_) (fun k hk => ?_) (fun k hk => ?_)
  · simp only [gOf, decide_eq_true hk, Bool.true_and, e0]; exact (hm k hk).trans (A.2.2.1 k hk)
  · simp only [gOf, decide_eq_true hk, Bool.true_and, e0]; exact (hg k hk).trans (A.2.2.2.1 k hk)
  · simp only [gOf, if_pos hk, e0]; exact (hc k hk).trans (A.2.2.2.2.1 k hk)
theorem lo4 (ρ : Env) : ∀ k, k < 27 → (r2 ρ).i k = ρ.i k := fun k hk => ((low2 ρ).i k (by omega)).trans ((low1 ρ).i k hk)
theorem w2 (ρ : Env) : (r2 ρ).w = ρ.w := (low2 ρ).w.trans (low1 ρ).w
theorem stp_of (ρ q : Env) (h : Agree 27 ρ q) (j : Nat) : valI (romCell q.w (q.i 0) (q.i 1 + q.i 5 * 4) j) = stp ρ j := by
  rw [h.w, h.i 0 (by decide), h.i 1 (by decide), h.i 5 (by decide)]; rfl
theorem lowB (ρ : Env) : Agree 27 ρ (r2 ρ) := (low1 ρ).trans ((low2 ρ).mono (by decide))
theorem lowC (ρ : Env) : Agree 27 ρ (r3 ρ) := (lowB ρ).trans ((low3 ρ).mono (by decide))
theorem lowD (ρ : Env) : Agree 27 ρ (r4 ρ) := (lowC ρ).trans ((low4 ρ).mono (by decide))
theorem b49 (ρ : Env) (h : bev (r2 ρ) c3 = true) : (r5 ρ).b 49 = counts (nx ρ) (stp ρ 2) (ρ.i 4) := by
  rw [(low5 ρ).b 49 (by decide), (low4 ρ).b 49 (by decide)]
  have : r3 ρ = setVars countsF 1 es3 49 (r2 ρ) := if_pos h
  rw [this]
  exact cnt ρ (r2 ρ) (Agree.refl _ _) (ptOf es3 (r2 ρ)) _ _ (stp_of ρ _ (lowB ρ) 2) (lo4 ρ 4 (by decide)) (six_all rfl rfl rfl rfl rfl rfl) (six_all rfl rfl rfl rfl rfl rfl) (six_all rfl rfl rfl rfl rfl rfl)
theorem b50 (ρ : Env) (h : bev (r3 ρ) c4 = true) : (r5 ρ).b 50 = counts (nx ρ) (stp ρ 2) (ρ.i 4) := by
  rw [(low5 ρ).b 50 (by decide)]
  have : r4 ρ = setVars countsF 1 es4 50 (r3 ρ) := if_pos h
  rw [this]
  exact cnt ρ (r3 ρ) (low3 ρ) (ptOf es4 (r3 ρ)) _ _ (stp_of ρ _ (lowC ρ) 2) ((lowC ρ).i 4 (by decide)) (six_all rfl rfl rfl rfl rfl rfl) (six_all rfl rfl rfl rfl rfl rfl) (six_all rfl rfl rfl rfl rfl rfl)
theorem b51 (ρ : Env) (h : bev (r4 ρ) c5 = true) : (r5 ρ).b 51 = counts (nx ρ) (nx ρ).owner (ρ.i 4) := by
  have : r5 ρ = setVars countsF 1 es5 51 (r4 ρ) := if_pos h
  rw [this]
  have hl := (low3 ρ).trans ((low4 ρ).mono (by decide))
  exact cnt ρ (r4 ρ) hl (ptOf es5 (r4 ρ)) _ _ (nx_all ρ _ hl).1 ((lowD ρ).i 4 (by decide)) (six_all rfl rfl rfl rfl rfl rfl) (six_all rfl rfl rfl rfl rfl rfl) (six_all rfl rfl rfl rfl rfl rfl)

def retLive : E := .and (.lt (.var 5) (.var 2)) (.and (.eq (.var 27) (.lit 0)) (.or (.or (.and (.eq (.romI (.var 0) (.add (.var 1) (.mul (.var 5) (.lit 4))) 1) (.lit 3)) (.not (.beq (.bvar 49) (.le (.var 4) (.romI (.var 0) (.add (.var 1) (.mul (.var 5) (.lit 4))) 3))))) (.and (.eq (.romI (.var 0) (.add (.var 1) (.mul (.var 5) (.lit 4))) 1) (.lit 2)) (.not (.bvar 50)))) (.not (.bvar 51))))
theorem ret_false (ρ : Env) (hI : IK ρ) : ¬ (bev (r5 ρ) retLive = true) := by
  intro h
  simp only [retLive, bT_and, bT_or, bT_not, bT_lt, bT_eq, bT_bvar, bT_beq, bT_le, iev_var, iev_lit] at h
  obtain ⟨_, hv, h⟩ := h
  rw [v27] at hv
  obtain ⟨q3, q2, q1⟩ := counts_step (cut := stp ρ 3) (ρ.i 4) hI.g hv
  have eI : ∀ (q : Env), Agree 27 ρ q → ∀ j, iev q (.romI (.var 0) (.add (.var 1) (.mul (.var 5) (.lit 4))) j) = stp ρ j := fun q hq j => stp_of ρ q hq j
  have a3 : ¬ (stp ρ 1 = 3 ∧ ¬ (((r5 ρ).b 49 = true) = (ρ.i 4 ≤ stp ρ 3))) := fun ⟨ho, hb⟩ => by
    refine hb ?_
    rw [b49 ρ (by unfold c3; simp only [cnd, nth, evK, bT_eq, eI _ (lowB ρ), iev_lit]; exact ho)]
    have e := q3 ho
    unfold nx
    rw [e, decide_eq_true_eq]
  have b49e : (r3 ρ).b 49 = (r5 ρ).b 49 := by rw [(low5 ρ).b 49 (by decide), (low4 ρ).b 49 (by decide)]
  have b49f : (r4 ρ).b 49 = (r5 ρ).b 49 := by rw [(low5 ρ).b 49 (by decide)]
  have b50f : (r4 ρ).b 50 = (r5 ρ).b 50 := by rw [(low5 ρ).b 50 (by decide)]
  have a2 : ¬ (stp ρ 1 = 2 ∧ ¬ ((r5 ρ).b 50 = true)) := fun ⟨ho, hb⟩ => by
    refine hb ?_
    rw [b50 ρ (by
      unfold c4; simp only [cnd, nth, evK, bT_and, bT_not, bT_beq, bT_le, bT_bvar, bT_eq, eI _ (lowC ρ), iev_lit, iev_var, (lowC ρ).i 4 (by decide), b49e]
      exact ⟨a3, ho⟩)]
    exact q2 ho
  have a1 : (r5 ρ).b 51 = true := by
    rw [b51 ρ (by
      unfold c5; simp only [cnd, nth, evK, bT_and, bT_or, bT_not, bT_beq, bT_le, bT_bvar, bT_eq, eI _ (lowD ρ), iev_lit, iev_var, (lowD ρ).i 4 (by decide), b49f, b50f]
      exact fun h => h.elim a3 a2)]
    exact q1
  rw [eI _ (lowA ρ), eI _ (lowA ρ), (lowA ρ).i 4 (by decide)] at h
  rcases h with (h | h) | h
  · exact a3 h
  · exact a2 h
  · exact h a1

def LK : LoopSum := { n0 := 5, hd := hdK, ob := obK, s := sK, rest := restK, A := AK, I := IK, μ := fun ρ => (ρ.i 2 - ρ.i 5).toNat, lbl := 9 }
theorem LK_next (ρ : Env) : LK.next ρ = assign (r5 ρ) AK := by
  show assign (evK.run ρ) AK = _
  rw [evK_run]

theorem LK_inv (ρ : Env) (hI : IK ρ) (hl : (r5 ρ).i 5 < (r5 ρ).i 2) : IK (LK.next ρ) ∧ LK.μ (LK.next ρ) < LK.μ ρ := by
  rw [LK_next]
  have low := lowA ρ
  have A := nx_all ρ _ (low35 ρ)
  have e27 := v27 ρ
  generalize r5 ρ = q at hl low A e27 ⊢
  have hl : ρ.i 5 < ρ.i 2 := by rw [low.i 5 (by decide), low.i 2 (by decide)] at hl; exact hl
  have len := hI.len
  have hi := hI.i
  have n1 : (assign q AK).i 1 = ρ.i 1 := low.i 1 (by decide)
  have n2 : (assign q AK).i 2 = ρ.i 2 := low.i 2 (by decide)
  have n5 : (assign q AK).i 5 = ρ.i 5 + 1 := by
    have : (assign q AK).i 5 = IntKind.i64.wrap (q.i 5 + 1) := rfl
    rw [this, low.i 5 (by decide)]; exact IntWalk.i64_in _ (by omega)
  refine ⟨⟨by rw [n1]; exact hI.y, by rw [n2]; exact len, by rw [n5, n2]; omega, fun i h0 h1 j hj => ?_, ?_⟩, ?_⟩
  · rw [n2] at h1
    show valIs (romCell q.w (q.i 0) (q.i 1 + i * 4) j) (stepKd j) = true
    rw [low.w, low.i 0 (by decide), low.i 1 (by decide)]
    exact hI.at_ i h0 h1 j hj
  · by_cases hv : q.i 27 = 0
    · have hm := hv
      rw [e27] at hm
      have s1 := (keep_step (cut := stp ρ 3) hI.g hm).1
      have hc : ¬ bev q (.not (.eq (.var 27) (.lit 0))) = true := by rw [bT_not, bT_eq, iev_var, iev_lit]; exact fun h => h hv
      refine Sound17.congr (g := nx ρ) ?_ ?_ (six_all ?_ ?_ ?_ ?_ ?_ ?_) (six_all ?_ ?_ ?_ ?_ ?_ ?_) s1
      · exact (A.1.symm).trans (if_neg hc).symm
      · exact (A.2.1.symm).trans (if_neg hc).symm
      · exact (A.2.2.1 0 (by decide)).symm.trans (if_neg hc).symm
      · exact (A.2.2.1 1 (by decide)).symm.trans (if_neg hc).symm
      · exact (A.2.2.1 2 (by decide)).symm.trans (if_neg hc).symm
      · exact (A.2.2.1 3 (by decide)).symm.trans (if_neg hc).symm
      · exact (A.2.2.1 4 (by decide)).symm.trans (if_neg hc).symm
      · exact (A.2.2.1 5 (by decide)).symm.trans (if_neg hc).symm
      · exact (A.2.2.2.1 0 (by decide)).symm.trans (if_neg hc).symm
      · exact (A.2.2.2.1 1 (by decide)).symm.trans (if_neg hc).symm
      · exact (A.2.2.2.1 2 (by decide)).symm.trans (if_neg hc).symm
      · exact (A.2.2.2.1 3 (by decide)).symm.trans (if_neg hc).symm
      · exact (A.2.2.2.1 4 (by decide)).symm.trans (if_neg hc).symm
      · exact (A.2.2.2.1 5 (by decide)).symm.trans (if_neg hc).symm
    · have hc : bev q (.not (.eq (.var 27) (.lit 0))) = true := by rw [bT_not, bT_eq, iev_var, iev_lit]; exact hv
      refine Sound17.congr (g := gR ρ) ?_ ?_ (six_all ?_ ?_ ?_ ?_ ?_ ?_) (six_all ?_ ?_ ?_ ?_ ?_ ?_) hI.g
      · exact (low.i 6 (by decide)).symm.trans (if_pos hc).symm
      · exact (low.i 7 (by decide)).symm.trans (if_pos hc).symm
      · exact (low.b 8 (by decide)).symm.trans (if_pos hc).symm
      · exact (low.b 9 (by decide)).symm.trans (if_pos hc).symm
      · exact (low.b 10 (by decide)).symm.trans (if_pos hc).symm
      · exact (low.b 11 (by decide)).symm.trans (if_pos hc).symm
      · exact (low.b 12 (by decide)).symm.trans (if_pos hc).symm
      · exact (low.b 13 (by decide)).symm.trans (if_pos hc).symm
      · exact (low.b 14 (by decide)).symm.trans (if_pos hc).symm
      · exact (low.b 15 (by decide)).symm.trans (if_pos hc).symm
      · exact (low.b 16 (by decide)).symm.trans (if_pos hc).symm
      · exact (low.b 17 (by decide)).symm.trans (if_pos hc).symm
      · exact (low.b 18 (by decide)).symm.trans (if_pos hc).symm
      · exact (low.b 19 (by decide)).symm.trans (if_pos hc).symm
  · show ((assign q AK).i 2 - (assign q AK).i 5).toNat < (ρ.i 2 - ρ.i 5).toNat
    rw [n2, n5]; omega

theorem LK_ok {body b : Code} (hb : bodyOf Try.prog 4 = some body) (hc : codeAt body pK = some (.loop b)) : LK.OK Try.prog b where
  body := pieceE_ok grpΓ_ok hb (noL_ok _ _) obK_eq (by rw [codeAt_append pK body _ [0] hc]; simp [codeAt])
  split := by kernel_rfl
  back := by kernel_rfl
  nv := by decide
  live := rfl
  inv := fun ρ hI => by
    have hI : IK ρ := hI
    refine ⟨?_, fun hl => ?_⟩
    · show ndK.holds ρ
      have len := hI.len
      have hi := hI.i
      have y := hI.y
      simp only [ndK, Nd.holds, bT_le, bT_lt, bT_and, bT_romIs, iev_lit, iev_var, iev_add, iev_mul]
      refine ⟨len.1, fun h => ⟨⟨y, hi.1, h⟩, by omega, ?_, ?_, ?_, ?_⟩⟩
      · exact hI.at_ _ hi.1 h 0 (by decide)
      · exact hI.at_ _ hi.1 h 1 (by decide)
      · exact hI.at_ _ hi.1 h 2 (by decide)
      · exact hI.at_ _ hi.1 h 3 (by decide)
    · have hl : bev (evK.run ρ) sK.live = true := hl
      rw [evK_run] at hl
      refine LK_inv ρ hI ?_
      have : bev (r5 ρ) (.lt (.var 5) (.var 2)) = true := by
        have e : sK.live = .and (.lt (.var 5) (.var 2)) (match sK.live with | .and _ x => x | _ => .tt) := rfl
        rw [e, bev_and, Bool.and_eq_true] at hl
        exact hl.1
      rw [bev_lt, decide_eq_true_eq] at this
      exact this

def A0K : List As := [⟨5, false, .lit 0⟩, ⟨6, false, .lit 0⟩, ⟨7, false, .lit 0⟩, ⟨8, true, .ff⟩, ⟨9, true, .ff⟩, ⟨10, true, .ff⟩, ⟨11, true, .ff⟩, ⟨12, true, .ff⟩, ⟨13, true, .ff⟩, ⟨14, true, .ff⟩, ⟨15, true, .ff⟩, ⟨16, true, .ff⟩, ⟨17, true, .ff⟩, ⟨18, true, .ff⟩, ⟨19, true, .ff⟩, ⟨20, false, .lit 0⟩, ⟨21, false, .lit 0⟩, ⟨22, false, .lit 0⟩, ⟨23, false, .lit 0⟩, ⟨24, false, .lit 0⟩, ⟨25, false, .lit 0⟩, ⟨26, false, .lit 0⟩]
noncomputable def ΛK : Loops := fun q st => if q = pK then LK.run st else none
theorem ΛK_ok {body : Code} (hb : bodyOf Try.prog 4 = some body) : LoopsOK Try.prog body ΛK := by
  intro p st o b hc h
  unfold ΛK at h
  split at h
  · rename_i hp; subst hp
    exact LoopSum.run_ok (LK_ok hb hc) h
  · cases h

set_option maxRecDepth 100000 in
theorem countsE : funP Try.prog grpΓ 20 60 ΛK 4 [.sv (.one (.rsl (.var 0) (.var 1) (.var 2) (.var 3))), .sv (.one (.int .u64 (.var 4)))] 5 = some (.sv (.one (.bool (.or (.lt (.lit 60) (.var 2)) (.not (.and (.lt (.var 5) (.var 2)) (.and (.eq (.var 27) (.lit 0)) (.or (.or (.and (.eq (.romI (.var 0) (.add (.var 1) (.mul (.var 5) (.lit 4))) 1) (.lit 3)) (.not (.beq (.bvar 49) (.le (.var 4) (.romI (.var 0) (.add (.var 1) (.mul (.var 5) (.lit 4))) 3))))) (.and (.eq (.romI (.var 0) (.add (.var 1) (.mul (.var 5) (.lit 4))) 1) (.lit 2)) (.not (.bvar 50)))) (.not (.bvar 51))))))))), .and (.e (.le (.lit 0) (.var 2))) (.imp (.not (.lt (.lit 60) (.var 2))) (.p 9 (fun _ ρ => LK.I (assign ρ A0K)) [])), .x 9 (fun _ _ ρ => LK.ob.env.run (LK.last (LK.μ (assign ρ A0K)) (assign ρ A0K))) [] 0) := by kernel_rfl

/-- GroupCounts of some steps. -/
theorem counts_some (ρ : Env) (w : World) (hw : ρ.w = w) (hy : 0 ≤ ρ.i 1) (hl : 0 ≤ ρ.i 2) (hat : StepsAt ρ) :
    Calls Try.prog 4 #[.slice (some ⟨(ρ.i 0).toNat, (ρ.i 1).toNat, none⟩) (ρ.i 2).toNat (ρ.i 3).toNat, .int .u64 (ρ.i 4)] w fun e w' => e = .returned (.bool true) ∧ RowKit.Below w.heap.size w w' := by
  obtain ⟨body, hb⟩ : ∃ body, bodyOf Try.prog 4 = some body := by
    cases h : bodyOf Try.prog 4 with
    | none => exact absurd h (by unfold bodyOf; rw [Try.func4]; simp [Try.f4])
    | some b => exact ⟨b, rfl⟩
  obtain ⟨b, hcl⟩ : ∃ b, codeAt body pK = some (.loop b) := by
    have h : ((bodyOf Try.prog 4).bind fun c => codeAt c pK).any (fun c => match c with | .loop _ => true | _ => false) = true := by kernel_rfl
    rw [hb, Option.bind_some] at h
    cases hq : codeAt body pK with
    | none => rw [hq] at h; cases h
    | some c => rw [hq] at h; cases c <;> first | exact ⟨_, rfl⟩ | cases h
  have hI0 : ρ.i 2 ≤ 60 → IK (assign ρ A0K) := fun h60 => by
    refine ⟨hy, ⟨hl, h60⟩, ⟨Int.le_refl _, hl⟩, hat, ?_⟩
    exact Sound17.congr (g := ⟨0, 0, 0, fun _ => false, fun _ => false, fun _ => 0⟩) rfl rfl (six_all rfl rfl rfl rfl rfl rfl) (six_all rfl rfl rfl rfl rfl rfl) fresh17
  have key := funP_sound grpΓ_ok hb (ΛK_ok hb) countsE id ρ w (fun _ _ h => hw ▸ h) (by
    simp only [Nd.holds, bT_le, bT_lt, bT_not, iev_lit, iev_var]
    exact ⟨hl, fun h => hI0 (by omega)⟩)
  refine key.2.mono fun e w' ⟨he, hb'⟩ => ⟨?_, hb'⟩
  rw [he]
  have ha := key.1 ρ
  refine congrArg (fun b => Ending.returned (Value.bool b)) ?_
  show bev _ (.or (.lt (.lit 60) (.var 2)) (.not retLive)) = true
  rw [bT_or, bT_lt, bT_not, iev_lit, iev_var, ha.i 2 (by decide)]
  rcases Int.lt_or_le 60 (ρ.i 2) with h | h
  · exact Or.inl h
  · refine Or.inr ?_
    have hr := ret_false _ ((LK_ok hb hcl).last_inv (LK.μ (assign ρ A0K)) _ (hI0 h)).1
    rw [← evK_run] at hr
    exact hr
end Go.Proofs.Ytngboefkhfldgaa.C
