/- Layer 22: ask.Parse, as a contract. Condition: at most a million bytes. -/
import Derived.Test.YtkdllpialpfopaaAqP
set_option linter.unusedSimpArgs false
set_option linter.unusedVariables false
set_option linter.constructorNameAsVariable false
namespace Go.Proofs.Ytkdllpialpfopaa
open Go Go.Sx Go.Pk

def nilC : CV := .sl (.lit (-1)) (.lit 0) (.lit 0) (.lit 0)
def idC : List CV := [.int .u64 (.var 8), .int .i64 (.wrap .i64 (.var 10))]
def v6z : List CV := [.int .u64 (.lit 0), .int .u64 (.lit 0), .int .u64 (.lit 0), .int .u64 (.lit 0), .int .u64 (.lit 0), .int .u64 (.lit 0)]
def qR1 : List CV := idC ++ (ckCVs 13 pk2 ++ (v6z ++ [.bool .ff, nilC, .int .i64 (.lit 0), .int .i64 (.lit 0), .int .u64 (.lit 0)]))
def qR2 : List CV := idC ++ (hzC ++ (nilC :: (ckCVs 13 (List.replicate 6 (Ck.int .u64) ++ [Ck.bool, Ck.sl]) ++ [.int .i64 (.wrap .i64 (.var 24)), .int .i64 (.lit 0), .int .u64 (.lit 0)])))
def qR3 : List CV := idC ++ (hzC ++ (nilC :: (v6z ++ [.bool .ff, nilC, .int .i64 (.lit 0), .int .i64 (.wrap .i64 (.var 13)), .int .u64 (.var 15)])))
def qR0 : List CV := idC ++ (hzC ++ (nilC :: (v6z ++ [.bool .ff, nilC, .int .i64 (.lit 0), .int .i64 (.lit 0), .int .u64 (.lit 0)])))
def qRZ : List CV := [.int .u64 (.lit 0), .int .i64 (.lit 0)] ++ (hzC ++ (nilC :: (v6z ++ [.bool .ff, nilC, .int .i64 (.lit 0), .int .i64 (.lit 0), .int .u64 (.lit 0)])))
noncomputable def qpΓ : List Sx.Spec := [readPS, numS, flagS, rawS, overS, textS, parseS, takePcS, takeVecS, takeWishS, formQ 9]
theorem qpΓ_ok : ∀ t ∈ qpΓ, t.OK Try.prog := fun t ht => by
  simp only [qpΓ, List.mem_cons, List.mem_nil_iff, or_false] at ht
  rcases ht with rfl | rfl | rfl | rfl | rfl | rfl | rfl | rfl | rfl | rfl | rfl
  · exact readPS_ok
  · exact numS_ok
  · exact flagS_ok
  · exact rawS_ok
  · exact overS_ok
  · exact textS_ok
  · exact parseS_ok
  · exact takePcS_ok
  · exact takeVecS_ok
  · exact takeWishS_ok
  · exact eFormQ_ok
def qParNd : Nd := .ext (.alloc 5) (.and (.pre (.call 0 6 [.sv (.one (.sl (.var 0) (.var 1) (.var 2) (.var 3)))] [] [.ro 4 [.var 0] false])) (.ext (.call 0 6 [.sv (.one (.sl (.var 0) (.var 1) (.var 2) (.var 3)))] [] [.ro 4 [.var 0] false]) (.and (.pre (.call 1 8 [.sv (.one (.hptr (.var 6) (.var 7))), .sv (.one (.int .u64 (.lit 18446744073709551615)))] [.hp 6 [] [.var 6] []] [])) (.ext (.call 1 8 [.sv (.one (.hptr (.var 6) (.var 7))), .sv (.one (.int .u64 (.lit 18446744073709551615)))] [.hp 6 [] [.var 6] []] []) (.and (.pre (.call 1 10 [.sv (.one (.hptr (.var 6) (.var 7))), .sv (.one (.int .u64 (.lit 3)))] [.hp 8 [6] [.var 6] []] [])) (.ext (.call 1 10 [.sv (.one (.hptr (.var 6) (.var 7))), .sv (.one (.int .u64 (.lit 3)))] [.hp 8 [6] [.var 6] []] []) (.ext (.alloc 12) (.and (.imp (.eq (.wrap .i64 (.var 10)) (.lit 1)) (.and (.pre (.call 7 13 [.sv (.one (.hptr (.var 6) (.var 7)))] [.hp 10 [8, 6] [.var 6] []] [])) (.ext (.call 7 13 [.sv (.one (.hptr (.var 6) (.var 7)))] [.hp 10 [8, 6] [.var 6] []] []) (.and (.pre (.call 4 145 [.sv (.one (.hptr (.var 6) (.var 7)))] [] [.hp 13 [10, 8, 6] [.var 6] []])) (.ext (.call 4 145 [.sv (.one (.hptr (.var 6) (.var 7)))] [] [.hp 13 [10, 8, 6] [.var 6] []]) (.and (.imp (.bvar 145) (.and (.pre (.call 10 146 [.sv (.agg qR1)] [] [.hp 14 [] [.var 66, .var 141] [], .hp 14 [] [.var 66, .var 141] [], .dead])) (.ext (.call 10 146 [.sv (.agg qR1)] [] [.hp 14 [] [.var 66, .var 141] [], .hp 14 [] [.var 66, .var 141] [], .dead]) (.and (.imp (.not (.bvar 146)) (.post [.ro 4 [.var 0] false, .dead, .hp 13 [10, 8, 6] [.var 6] [], .dead, .hp 14 [] [.var 66, .var 141] []] (.tup [.agg qRZ, .one (.int .i64 (.lit 2))]))) (.imp (.bvar 146) (.post [.ro 4 [.var 0] false, .dead, .hp 13 [10, 8, 6] [.var 6] [], .dead, .hp 14 [] [.var 66, .var 141] []] (.tup [.agg qR1, .one (.int .i64 (.lit 0))]))))))) (.imp (.not (.bvar 145)) (.post [.ro 4 [.var 0] false, .dead, .hp 13 [10, 8, 6] [.var 6] [], .dead, .hp 14 [] [.var 66, .var 141] []] (.tup [.agg qRZ, .one (.int .i64 (.lit 2))]))))))))) (.imp (.not (.eq (.wrap .i64 (.var 10)) (.lit 1))) (.and (.imp (.eq (.wrap .i64 (.var 10)) (.lit 2)) (.and (.pre (.call 8 13 [.sv (.one (.hptr (.var 6) (.var 7)))] [.hp 10 [8, 6] [.var 6] []] [])) (.ext (.call 8 13 [.sv (.one (.hptr (.var 6) (.var 7)))] [.hp 10 [8, 6] [.var 6] []] []) (.and (.pre (.call 9 19 [.sv (.one (.hptr (.var 6) (.var 7)))] [.hp 13 [10, 8, 6] [.var 6] []] [])) (.ext (.call 9 19 [.sv (.one (.hptr (.var 6) (.var 7)))] [.hp 13 [10, 8, 6] [.var 6] []] []) (.and (.pre (.call 1 24 [.sv (.one (.hptr (.var 6) (.var 7))), .sv (.one (.int .u64 (.lit 8)))] [.hp 19 [13, 10, 8, 6] [.var 6] []] [])) (.ext (.call 1 24 [.sv (.one (.hptr (.var 6) (.var 7))), .sv (.one (.int .u64 (.lit 8)))] [.hp 19 [13, 10, 8, 6] [.var 6] []] []) (.and (.pre (.call 4 26 [.sv (.one (.hptr (.var 6) (.var 7)))] [] [.hp 24 [19, 13, 10, 8, 6] [.var 6] []])) (.ext (.call 4 26 [.sv (.one (.hptr (.var 6) (.var 7)))] [] [.hp 24 [19, 13, 10, 8, 6] [.var 6] []]) (.and (.imp (.bvar 26) (.and (.pre (.call 10 27 [.sv (.agg qR2)] [] [.dead, .dead, .hp 20 [] [.var 20] []])) (.ext (.call 10 27 [.sv (.agg qR2)] [] [.dead, .dead, .hp 20 [] [.var 20] []]) (.and (.imp (.not (.bvar 27)) (.post [.ro 4 [.var 0] false, .dead, .hp 24 [19, 13, 10, 8, 6] [.var 6] [], .dead, .hp 20 [] [.var 20] []] (.tup [.agg qRZ, .one (.int .i64 (.lit 2))]))) (.imp (.bvar 27) (.post [.ro 4 [.var 0] false, .dead, .hp 24 [19, 13, 10, 8, 6] [.var 6] [], .dead, .hp 20 [] [.var 20] []] (.tup [.agg qR2, .one (.int .i64 (.lit 0))]))))))) (.imp (.not (.bvar 26)) (.post [.ro 4 [.var 0] false, .dead, .hp 24 [19, 13, 10, 8, 6] [.var 6] [], .dead, .hp 20 [] [.var 20] []] (.tup [.agg qRZ, .one (.int .i64 (.lit 2))]))))))))))))) (.imp (.not (.eq (.wrap .i64 (.var 10)) (.lit 2))) (.and (.imp (.eq (.wrap .i64 (.var 10)) (.lit 3)) (.and (.pre (.call 1 13 [.sv (.one (.hptr (.var 6) (.var 7))), .sv (.one (.int .u64 (.lit 6)))] [.hp 10 [8, 6] [.var 6] []] [])) (.ext (.call 1 13 [.sv (.one (.hptr (.var 6) (.var 7))), .sv (.one (.int .u64 (.lit 6)))] [.hp 10 [8, 6] [.var 6] []] []) (.and (.pre (.call 1 15 [.sv (.one (.hptr (.var 6) (.var 7))), .sv (.one (.int .u64 (.lit 1048576)))] [.hp 13 [10, 8, 6] [.var 6] []] [])) (.ext (.call 1 15 [.sv (.one (.hptr (.var 6) (.var 7))), .sv (.one (.int .u64 (.lit 1048576)))] [.hp 13 [10, 8, 6] [.var 6] []] []) (.and (.pre (.call 4 17 [.sv (.one (.hptr (.var 6) (.var 7)))] [] [.hp 15 [13, 10, 8, 6] [.var 6] []])) (.ext (.call 4 17 [.sv (.one (.hptr (.var 6) (.var 7)))] [] [.hp 15 [13, 10, 8, 6] [.var 6] []]) (.and (.imp (.bvar 17) (.and (.pre (.call 10 18 [.sv (.agg qR3)] [] [.dead, .dead, .dead])) (.ext (.call 10 18 [.sv (.agg qR3)] [] [.dead, .dead, .dead]) (.and (.imp (.not (.bvar 18)) (.post [.ro 4 [.var 0] false, .dead, .hp 15 [13, 10, 8, 6] [.var 6] [], .dead] (.tup [.agg qRZ, .one (.int .i64 (.lit 2))]))) (.imp (.bvar 18) (.post [.ro 4 [.var 0] false, .dead, .hp 15 [13, 10, 8, 6] [.var 6] [], .dead] (.tup [.agg qR3, .one (.int .i64 (.lit 0))]))))))) (.imp (.not (.bvar 17)) (.post [.ro 4 [.var 0] false, .dead, .hp 15 [13, 10, 8, 6] [.var 6] [], .dead] (.tup [.agg qRZ, .one (.int .i64 (.lit 2))]))))))))))) (.imp (.not (.eq (.wrap .i64 (.var 10)) (.lit 3))) (.and (.pre (.call 4 13 [.sv (.one (.hptr (.var 6) (.var 7)))] [] [.hp 10 [8, 6] [.var 6] []])) (.ext (.call 4 13 [.sv (.one (.hptr (.var 6) (.var 7)))] [] [.hp 10 [8, 6] [.var 6] []]) (.and (.imp (.bvar 13) (.and (.pre (.call 10 14 [.sv (.agg qR0)] [] [.dead, .dead, .dead])) (.ext (.call 10 14 [.sv (.agg qR0)] [] [.dead, .dead, .dead]) (.and (.imp (.not (.bvar 14)) (.post [.ro 4 [.var 0] false, .dead, .hp 10 [8, 6] [.var 6] [], .dead] (.tup [.agg qRZ, .one (.int .i64 (.lit 2))]))) (.imp (.bvar 14) (.post [.ro 4 [.var 0] false, .dead, .hp 10 [8, 6] [.var 6] [], .dead] (.tup [.agg qR0, .one (.int .i64 (.lit 0))]))))))) (.imp (.not (.bvar 13)) (.post [.ro 4 [.var 0] false, .dead, .hp 10 [8, 6] [.var 6] [], .dead] (.tup [.agg qRZ, .one (.int .i64 (.lit 2))])))))))))))))))))))
noncomputable def qParW : Walk Try.prog qpΓ 10 where
  Λ := noLoops
  args := [.sv (.one (.sl (.var 0) (.var 1) (.var 2) (.var 3)))]
  mem := [.ro 4 [.var 0] false]
  nv := 5
  nd := qParNd
  ok := by kernel_rfl
def qzrow : List Value := rqRow 0 0 (zrow ++ [.slice none 0 0]) [0, 0, 0, 0, 0, 0] false (.slice none 0 0) 0 0 0
def qParsed (b : List Int) (v : Value) (F : Hl) : Prop :=
  (∃ row r, v = .tuple #[.agg row.toArray, .int .i64 0] ∧ IsRq F F F row r ∧ r.Form ∧ qB r = b) ∨ (v = .tuple #[.agg qzrow.toArray, .int .i64 2] ∧ ∀ R1 R2 R3 row r, IsRq R1 R2 R3 row r → r.Form → qB r ≠ b)
def qParseS : Sx.Spec where
  fn := 10
  own := []
  rd := [0]
  res := [.agg qk2, .one (.int .i64)]
  pre := fun xs Hs Rs => ∃ u bs R, xs = [u] ∧ Rs = [R] ∧ RdW R u bs ∧ bytes256 bs ∧ bs.length ≤ 1000000
  post := fun xs Hs Rs v Hs' F => ∃ u bs R, xs = [u] ∧ Rs = [R] ∧ RdW R u bs ∧ qParsed bs v F
end Go.Proofs.Ytkdllpialpfopaa
