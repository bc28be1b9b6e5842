/- Whether tokens rise: what keys.Sorted and the document's Sorted answer of a slice of tokens. Condition: they are bytes. -/
import Derived.Test.YtnlejejjeilpoaaTok
import Derived.IntWalk
set_option linter.unusedSimpArgs false
set_option linter.unusedVariables false
set_option linter.constructorNameAsVariable false
namespace Go.Proofs.Ytnlejejjeilpoaa
open Go Go.Ex Go.RowKit Go.Flow

def srtΓ : List Summ := [compareS, lessS]
theorem srtΓ_ok : ∀ s ∈ srtΓ, SummOK Try.prog s := by
  intro s hs
  simp only [srtΓ, List.mem_cons, List.not_mem_nil, or_false] at hs
  rcases hs with rfl | rfl
  · exact compareS_ok
  · exact lessS_ok
def noL : Loops := fun _ _ => none
theorem noL_ok (P : Program) (body : Code) : LoopsOK P body noL := fun _ _ _ _ _ h => by cases h

/-- A token's numbers. -/
def tokAt (W : World) (x y i : Int) : List Int := nums ⟨fun j => valI (romCell W x (y + i * 16) j), fun _ => false⟩ 0
def SortedAt (W : World) (x y l : Int) : Prop := ∀ i, 0 ≤ i → i + 1 < l → lex (tokAt W x y i) (tokAt W x y (i + 1)) < 0
structure TokN (p : Pt) (W : World) : Prop where
  y : 0 ≤ p.i 1
  len : 0 ≤ p.i 2 ∧ p.i 2 ≤ 4611686018427387904
  blk : 0 < p.i 2 → 0 ≤ p.i 0
  at_ : ∀ i, 0 ≤ i → i < p.i 2 → ∀ j, j < 16 → valIs (romCell W (p.i 0) (p.i 1 + i * 16) j) (.int .u8) = true ∧ 0 ≤ valI (romCell W (p.i 0) (p.i 1 + i * 16) j) ∧ valI (romCell W (p.i 0) (p.i 1 + i * 16) j) < 256
open Classical in
noncomputable def sortedF (p : Pt) (W : World) : Pt := ⟨fun _ => 0, fun _ => decide (SortedAt W (p.i 0) (p.i 1) (p.i 2))⟩
/-- The rows' kinds, one by one. -/
def row16 (W : World) (x z : Int) : Prop := valIs (romCell W x z 0) (.int .u8) = true ∧ valIs (romCell W x z 1) (.int .u8) = true ∧ valIs (romCell W x z 2) (.int .u8) = true ∧ valIs (romCell W x z 3) (.int .u8) = true ∧ valIs (romCell W x z 4) (.int .u8) = true ∧ valIs (romCell W x z 5) (.int .u8) = true ∧ valIs (romCell W x z 6) (.int .u8) = true ∧ valIs (romCell W x z 7) (.int .u8) = true ∧ valIs (romCell W x z 8) (.int .u8) = true ∧ valIs (romCell W x z 9) (.int .u8) = true ∧ valIs (romCell W x z 10) (.int .u8) = true ∧ valIs (romCell W x z 11) (.int .u8) = true ∧ valIs (romCell W x z 12) (.int .u8) = true ∧ valIs (romCell W x z 13) (.int .u8) = true ∧ valIs (romCell W x z 14) (.int .u8) = true ∧ valIs (romCell W x z 15) (.int .u8) = true
theorem TokN.row {p : Pt} {W : World} (h : TokN p W) {i : Int} (h0 : 0 ≤ i) (h1 : i < p.i 2) : row16 W (p.i 0) (p.i 1 + i * 16) := by
  have A := fun j hj => (h.at_ i h0 h1 j hj).1
  exact ⟨A 0 (by decide), A 1 (by decide), A 2 (by decide), A 3 (by decide), A 4 (by decide), A 5 (by decide), A 6 (by decide), A 7 (by decide), A 8 (by decide), A 9 (by decide), A 10 (by decide), A 11 (by decide), A 12 (by decide), A 13 (by decide), A 14 (by decide), A 15 (by decide)⟩

namespace K
def pK : List Nat := [1, 0, 1, 0]
def hdK : St := ⟨[some ⟨.tt, .sv (.one (.rsl (.var 0) (.var 1) (.var 2) (.var 3)))⟩, none, none, some ⟨.tt, .sv (.one (.int .i64 (.var 4)))⟩, none, none, none, none, none, none, none, none, none, none, none, none, none, none, none, none, none], [], .tt, 5⟩
def sK : St := ⟨[some ⟨.tt, .sv (.one (.rsl (.var 0) (.var 1) (.var 2) (.var 3)))⟩, none, none, some ⟨.tt, .sv (.one (.int .i64 (.wrap .i64 (.add (.var 4) (.lit 1)))))⟩, some ⟨.tt, .sv (.one (.int .i64 (.var 4)))⟩, some ⟨.tt, .sv (.one (.rsl (.var 0) (.var 1) (.var 2) (.var 3)))⟩, some ⟨.tt, .sv (.one (.int .i64 (.var 2)))⟩, some ⟨.tt, .sv (.one (.bool (.lt (.var 4) (.var 2))))⟩, some ⟨.tt, .sv (.one (.int .i64 (.var 4)))⟩, some ⟨.tt, .sv (.one (.int .i64 (.wrap .i64 (.add (.var 4) (.lit 1)))))⟩, some ⟨.tt, .sv (.one (.rsl (.var 0) (.var 1) (.var 2) (.var 3)))⟩, some ⟨.tt, .sv (.one (.int .i64 (.var 4)))⟩, some ⟨.tt, .sv (.one (.int .i64 (.wrap .i64 (.sub (.var 4) (.lit 1)))))⟩, some ⟨.tt, .sv (.one (.rptr (.var 0) (.add (.var 1) (.mul (.wrap .i64 (.sub (.var 4) (.lit 1))) (.lit 16)))))⟩, some ⟨.tt, .sv (.agg [.int .u8 (.romI (.var 0) (.add (.var 1) (.mul (.wrap .i64 (.sub (.var 4) (.lit 1))) (.lit 16))) 0), .int .u8 (.romI (.var 0) (.add (.var 1) (.mul (.wrap .i64 (.sub (.var 4) (.lit 1))) (.lit 16))) 1), .int .u8 (.romI (.var 0) (.add (.var 1) (.mul (.wrap .i64 (.sub (.var 4) (.lit 1))) (.lit 16))) 2), .int .u8 (.romI (.var 0) (.add (.var 1) (.mul (.wrap .i64 (.sub (.var 4) (.lit 1))) (.lit 16))) 3), .int .u8 (.romI (.var 0) (.add (.var 1) (.mul (.wrap .i64 (.sub (.var 4) (.lit 1))) (.lit 16))) 4), .int .u8 (.romI (.var 0) (.add (.var 1) (.mul (.wrap .i64 (.sub (.var 4) (.lit 1))) (.lit 16))) 5), .int .u8 (.romI (.var 0) (.add (.var 1) (.mul (.wrap .i64 (.sub (.var 4) (.lit 1))) (.lit 16))) 6), .int .u8 (.romI (.var 0) (.add (.var 1) (.mul (.wrap .i64 (.sub (.var 4) (.lit 1))) (.lit 16))) 7), .int .u8 (.romI (.var 0) (.add (.var 1) (.mul (.wrap .i64 (.sub (.var 4) (.lit 1))) (.lit 16))) 8), .int .u8 (.romI (.var 0) (.add (.var 1) (.mul (.wrap .i64 (.sub (.var 4) (.lit 1))) (.lit 16))) 9), .int .u8 (.romI (.var 0) (.add (.var 1) (.mul (.wrap .i64 (.sub (.var 4) (.lit 1))) (.lit 16))) 10), .int .u8 (.romI (.var 0) (.add (.var 1) (.mul (.wrap .i64 (.sub (.var 4) (.lit 1))) (.lit 16))) 11), .int .u8 (.romI (.var 0) (.add (.var 1) (.mul (.wrap .i64 (.sub (.var 4) (.lit 1))) (.lit 16))) 12), .int .u8 (.romI (.var 0) (.add (.var 1) (.mul (.wrap .i64 (.sub (.var 4) (.lit 1))) (.lit 16))) 13), .int .u8 (.romI (.var 0) (.add (.var 1) (.mul (.wrap .i64 (.sub (.var 4) (.lit 1))) (.lit 16))) 14), .int .u8 (.romI (.var 0) (.add (.var 1) (.mul (.wrap .i64 (.sub (.var 4) (.lit 1))) (.lit 16))) 15)])⟩, some ⟨.tt, .sv (.one (.rsl (.var 0) (.var 1) (.var 2) (.var 3)))⟩, some ⟨.tt, .sv (.one (.int .i64 (.var 4)))⟩, some ⟨.tt, .sv (.one (.rptr (.var 0) (.add (.var 1) (.mul (.var 4) (.lit 16)))))⟩, some ⟨.tt, .sv (.agg [.int .u8 (.romI (.var 0) (.add (.var 1) (.mul (.var 4) (.lit 16))) 0), .int .u8 (.romI (.var 0) (.add (.var 1) (.mul (.var 4) (.lit 16))) 1), .int .u8 (.romI (.var 0) (.add (.var 1) (.mul (.var 4) (.lit 16))) 2), .int .u8 (.romI (.var 0) (.add (.var 1) (.mul (.var 4) (.lit 16))) 3), .int .u8 (.romI (.var 0) (.add (.var 1) (.mul (.var 4) (.lit 16))) 4), .int .u8 (.romI (.var 0) (.add (.var 1) (.mul (.var 4) (.lit 16))) 5), .int .u8 (.romI (.var 0) (.add (.var 1) (.mul (.var 4) (.lit 16))) 6), .int .u8 (.romI (.var 0) (.add (.var 1) (.mul (.var 4) (.lit 16))) 7), .int .u8 (.romI (.var 0) (.add (.var 1) (.mul (.var 4) (.lit 16))) 8), .int .u8 (.romI (.var 0) (.add (.var 1) (.mul (.var 4) (.lit 16))) 9), .int .u8 (.romI (.var 0) (.add (.var 1) (.mul (.var 4) (.lit 16))) 10), .int .u8 (.romI (.var 0) (.add (.var 1) (.mul (.var 4) (.lit 16))) 11), .int .u8 (.romI (.var 0) (.add (.var 1) (.mul (.var 4) (.lit 16))) 12), .int .u8 (.romI (.var 0) (.add (.var 1) (.mul (.var 4) (.lit 16))) 13), .int .u8 (.romI (.var 0) (.add (.var 1) (.mul (.var 4) (.lit 16))) 14), .int .u8 (.romI (.var 0) (.add (.var 1) (.mul (.var 4) (.lit 16))) 15)])⟩, some ⟨.tt, .sv (.one (.int .i64 (.var 5)))⟩, some ⟨.tt, .sv (.one (.bool (.le (.lit 0) (.var 5))))⟩], [], .and (.lt (.var 4) (.var 2)) (.not (.le (.lit 0) (.var 5))), 6⟩
def restK : List (Tag × St) := [(.exit 0, ⟨[some ⟨.tt, .sv (.one (.rsl (.var 0) (.var 1) (.var 2) (.var 3)))⟩, none, none, some ⟨.tt, .sv (.one (.int .i64 (.var 4)))⟩, some ⟨.tt, .sv (.one (.int .i64 (.var 4)))⟩, some ⟨.tt, .sv (.one (.rsl (.var 0) (.var 1) (.var 2) (.var 3)))⟩, some ⟨.tt, .sv (.one (.int .i64 (.var 2)))⟩, some ⟨.tt, .sv (.one (.bool (.lt (.var 4) (.var 2))))⟩, none, none, none, none, none, none, none, none, none, none, none, none, none], [], .not (.lt (.var 4) (.var 2)), 5⟩), (.ret, ⟨[some ⟨.tt, .sv (.one (.rsl (.var 0) (.var 1) (.var 2) (.var 3)))⟩, none, some ⟨.tt, .sv (.one (.bool .ff))⟩, some ⟨.tt, .sv (.one (.int .i64 (.var 4)))⟩, some ⟨.tt, .sv (.one (.int .i64 (.var 4)))⟩, some ⟨.tt, .sv (.one (.rsl (.var 0) (.var 1) (.var 2) (.var 3)))⟩, some ⟨.tt, .sv (.one (.int .i64 (.var 2)))⟩, some ⟨.tt, .sv (.one (.bool (.lt (.var 4) (.var 2))))⟩, none, none, some ⟨.tt, .sv (.one (.rsl (.var 0) (.var 1) (.var 2) (.var 3)))⟩, some ⟨.tt, .sv (.one (.int .i64 (.var 4)))⟩, some ⟨.tt, .sv (.one (.int .i64 (.wrap .i64 (.sub (.var 4) (.lit 1)))))⟩, some ⟨.tt, .sv (.one (.rptr (.var 0) (.add (.var 1) (.mul (.wrap .i64 (.sub (.var 4) (.lit 1))) (.lit 16)))))⟩, some ⟨.tt, .sv (.agg [.int .u8 (.romI (.var 0) (.add (.var 1) (.mul (.wrap .i64 (.sub (.var 4) (.lit 1))) (.lit 16))) 0), .int .u8 (.romI (.var 0) (.add (.var 1) (.mul (.wrap .i64 (.sub (.var 4) (.lit 1))) (.lit 16))) 1), .int .u8 (.romI (.var 0) (.add (.var 1) (.mul (.wrap .i64 (.sub (.var 4) (.lit 1))) (.lit 16))) 2), .int .u8 (.romI (.var 0) (.add (.var 1) (.mul (.wrap .i64 (.sub (.var 4) (.lit 1))) (.lit 16))) 3), .int .u8 (.romI (.var 0) (.add (.var 1) (.mul (.wrap .i64 (.sub (.var 4) (.lit 1))) (.lit 16))) 4), .int .u8 (.romI (.var 0) (.add (.var 1) (.mul (.wrap .i64 (.sub (.var 4) (.lit 1))) (.lit 16))) 5), .int .u8 (.romI (.var 0) (.add (.var 1) (.mul (.wrap .i64 (.sub (.var 4) (.lit 1))) (.lit 16))) 6), .int .u8 (.romI (.var 0) (.add (.var 1) (.mul (.wrap .i64 (.sub (.var 4) (.lit 1))) (.lit 16))) 7), .int .u8 (.romI (.var 0) (.add (.var 1) (.mul (.wrap .i64 (.sub (.var 4) (.lit 1))) (.lit 16))) 8), .int .u8 (.romI (.var 0) (.add (.var 1) (.mul (.wrap .i64 (.sub (.var 4) (.lit 1))) (.lit 16))) 9), .int .u8 (.romI (.var 0) (.add (.var 1) (.mul (.wrap .i64 (.sub (.var 4) (.lit 1))) (.lit 16))) 10), .int .u8 (.romI (.var 0) (.add (.var 1) (.mul (.wrap .i64 (.sub (.var 4) (.lit 1))) (.lit 16))) 11), .int .u8 (.romI (.var 0) (.add (.var 1) (.mul (.wrap .i64 (.sub (.var 4) (.lit 1))) (.lit 16))) 12), .int .u8 (.romI (.var 0) (.add (.var 1) (.mul (.wrap .i64 (.sub (.var 4) (.lit 1))) (.lit 16))) 13), .int .u8 (.romI (.var 0) (.add (.var 1) (.mul (.wrap .i64 (.sub (.var 4) (.lit 1))) (.lit 16))) 14), .int .u8 (.romI (.var 0) (.add (.var 1) (.mul (.wrap .i64 (.sub (.var 4) (.lit 1))) (.lit 16))) 15)])⟩, some ⟨.tt, .sv (.one (.rsl (.var 0) (.var 1) (.var 2) (.var 3)))⟩, some ⟨.tt, .sv (.one (.int .i64 (.var 4)))⟩, some ⟨.tt, .sv (.one (.rptr (.var 0) (.add (.var 1) (.mul (.var 4) (.lit 16)))))⟩, some ⟨.tt, .sv (.agg [.int .u8 (.romI (.var 0) (.add (.var 1) (.mul (.var 4) (.lit 16))) 0), .int .u8 (.romI (.var 0) (.add (.var 1) (.mul (.var 4) (.lit 16))) 1), .int .u8 (.romI (.var 0) (.add (.var 1) (.mul (.var 4) (.lit 16))) 2), .int .u8 (.romI (.var 0) (.add (.var 1) (.mul (.var 4) (.lit 16))) 3), .int .u8 (.romI (.var 0) (.add (.var 1) (.mul (.var 4) (.lit 16))) 4), .int .u8 (.romI (.var 0) (.add (.var 1) (.mul (.var 4) (.lit 16))) 5), .int .u8 (.romI (.var 0) (.add (.var 1) (.mul (.var 4) (.lit 16))) 6), .int .u8 (.romI (.var 0) (.add (.var 1) (.mul (.var 4) (.lit 16))) 7), .int .u8 (.romI (.var 0) (.add (.var 1) (.mul (.var 4) (.lit 16))) 8), .int .u8 (.romI (.var 0) (.add (.var 1) (.mul (.var 4) (.lit 16))) 9), .int .u8 (.romI (.var 0) (.add (.var 1) (.mul (.var 4) (.lit 16))) 10), .int .u8 (.romI (.var 0) (.add (.var 1) (.mul (.var 4) (.lit 16))) 11), .int .u8 (.romI (.var 0) (.add (.var 1) (.mul (.var 4) (.lit 16))) 12), .int .u8 (.romI (.var 0) (.add (.var 1) (.mul (.var 4) (.lit 16))) 13), .int .u8 (.romI (.var 0) (.add (.var 1) (.mul (.var 4) (.lit 16))) 14), .int .u8 (.romI (.var 0) (.add (.var 1) (.mul (.var 4) (.lit 16))) 15)])⟩, some ⟨.tt, .sv (.one (.int .i64 (.var 5)))⟩, some ⟨.tt, .sv (.one (.bool (.le (.lit 0) (.var 5))))⟩], [], .and (.lt (.var 4) (.var 2)) (.le (.lit 0) (.var 5)), 6⟩)]
def AK : List As := [⟨4, false, .wrap .i64 (.add (.var 4) (.lit 1))⟩]
def ndK : Nd := .and (.e (.le (.lit 0) (.var 2))) (.imp (.lt (.var 4) (.var 2)) (.and (.e (.and (.le (.lit 0) (.var 0)) (.and (.le (.lit 0) (.var 1)) (.and (.le (.lit 0) (.wrap .i64 (.sub (.var 4) (.lit 1)))) (.lt (.wrap .i64 (.sub (.var 4) (.lit 1))) (.var 2)))))) (.and (.e (.and (.le (.lit 0) (.add (.var 1) (.mul (.wrap .i64 (.sub (.var 4) (.lit 1))) (.lit 16)))) (.and (.romIs (.var 0) (.add (.var 1) (.mul (.wrap .i64 (.sub (.var 4) (.lit 1))) (.lit 16))) 0 (.int .u8)) (.and (.romIs (.var 0) (.add (.var 1) (.mul (.wrap .i64 (.sub (.var 4) (.lit 1))) (.lit 16))) 1 (.int .u8)) (.and (.romIs (.var 0) (.add (.var 1) (.mul (.wrap .i64 (.sub (.var 4) (.lit 1))) (.lit 16))) 2 (.int .u8)) (.and (.romIs (.var 0) (.add (.var 1) (.mul (.wrap .i64 (.sub (.var 4) (.lit 1))) (.lit 16))) 3 (.int .u8)) (.and (.romIs (.var 0) (.add (.var 1) (.mul (.wrap .i64 (.sub (.var 4) (.lit 1))) (.lit 16))) 4 (.int .u8)) (.and (.romIs (.var 0) (.add (.var 1) (.mul (.wrap .i64 (.sub (.var 4) (.lit 1))) (.lit 16))) 5 (.int .u8)) (.and (.romIs (.var 0) (.add (.var 1) (.mul (.wrap .i64 (.sub (.var 4) (.lit 1))) (.lit 16))) 6 (.int .u8)) (.and (.romIs (.var 0) (.add (.var 1) (.mul (.wrap .i64 (.sub (.var 4) (.lit 1))) (.lit 16))) 7 (.int .u8)) (.and (.romIs (.var 0) (.add (.var 1) (.mul (.wrap .i64 (.sub (.var 4) (.lit 1))) (.lit 16))) 8 (.int .u8)) (.and (.romIs (.var 0) (.add (.var 1) (.mul (.wrap .i64 (.sub (.var 4) (.lit 1))) (.lit 16))) 9 (.int .u8)) (.and (.romIs (.var 0) (.add (.var 1) (.mul (.wrap .i64 (.sub (.var 4) (.lit 1))) (.lit 16))) 10 (.int .u8)) (.and (.romIs (.var 0) (.add (.var 1) (.mul (.wrap .i64 (.sub (.var 4) (.lit 1))) (.lit 16))) 11 (.int .u8)) (.and (.romIs (.var 0) (.add (.var 1) (.mul (.wrap .i64 (.sub (.var 4) (.lit 1))) (.lit 16))) 12 (.int .u8)) (.and (.romIs (.var 0) (.add (.var 1) (.mul (.wrap .i64 (.sub (.var 4) (.lit 1))) (.lit 16))) 13 (.int .u8)) (.and (.romIs (.var 0) (.add (.var 1) (.mul (.wrap .i64 (.sub (.var 4) (.lit 1))) (.lit 16))) 14 (.int .u8)) (.romIs (.var 0) (.add (.var 1) (.mul (.wrap .i64 (.sub (.var 4) (.lit 1))) (.lit 16))) 15 (.int .u8))))))))))))))))))) (.and (.e (.and (.le (.lit 0) (.var 0)) (.and (.le (.lit 0) (.var 1)) (.and (.le (.lit 0) (.var 4)) (.lt (.var 4) (.var 2)))))) (.and (.e (.and (.le (.lit 0) (.add (.var 1) (.mul (.var 4) (.lit 16)))) (.and (.romIs (.var 0) (.add (.var 1) (.mul (.var 4) (.lit 16))) 0 (.int .u8)) (.and (.romIs (.var 0) (.add (.var 1) (.mul (.var 4) (.lit 16))) 1 (.int .u8)) (.and (.romIs (.var 0) (.add (.var 1) (.mul (.var 4) (.lit 16))) 2 (.int .u8)) (.and (.romIs (.var 0) (.add (.var 1) (.mul (.var 4) (.lit 16))) 3 (.int .u8)) (.and (.romIs (.var 0) (.add (.var 1) (.mul (.var 4) (.lit 16))) 4 (.int .u8)) (.and (.romIs (.var 0) (.add (.var 1) (.mul (.var 4) (.lit 16))) 5 (.int .u8)) (.and (.romIs (.var 0) (.add (.var 1) (.mul (.var 4) (.lit 16))) 6 (.int .u8)) (.and (.romIs (.var 0) (.add (.var 1) (.mul (.var 4) (.lit 16))) 7 (.int .u8)) (.and (.romIs (.var 0) (.add (.var 1) (.mul (.var 4) (.lit 16))) 8 (.int .u8)) (.and (.romIs (.var 0) (.add (.var 1) (.mul (.var 4) (.lit 16))) 9 (.int .u8)) (.and (.romIs (.var 0) (.add (.var 1) (.mul (.var 4) (.lit 16))) 10 (.int .u8)) (.and (.romIs (.var 0) (.add (.var 1) (.mul (.var 4) (.lit 16))) 11 (.int .u8)) (.and (.romIs (.var 0) (.add (.var 1) (.mul (.var 4) (.lit 16))) 12 (.int .u8)) (.and (.romIs (.var 0) (.add (.var 1) (.mul (.var 4) (.lit 16))) 13 (.int .u8)) (.and (.romIs (.var 0) (.add (.var 1) (.mul (.var 4) (.lit 16))) 14 (.int .u8)) (.romIs (.var 0) (.add (.var 1) (.mul (.var 4) (.lit 16))) 15 (.int .u8))))))))))))))))))) (.p 7 (fun es ρ => bytesN (ptOf es ρ)) [.romI (.var 0) (.add (.var 1) (.mul (.wrap .i64 (.sub (.var 4) (.lit 1))) (.lit 16))) 0, .romI (.var 0) (.add (.var 1) (.mul (.wrap .i64 (.sub (.var 4) (.lit 1))) (.lit 16))) 1, .romI (.var 0) (.add (.var 1) (.mul (.wrap .i64 (.sub (.var 4) (.lit 1))) (.lit 16))) 2, .romI (.var 0) (.add (.var 1) (.mul (.wrap .i64 (.sub (.var 4) (.lit 1))) (.lit 16))) 3, .romI (.var 0) (.add (.var 1) (.mul (.wrap .i64 (.sub (.var 4) (.lit 1))) (.lit 16))) 4, .romI (.var 0) (.add (.var 1) (.mul (.wrap .i64 (.sub (.var 4) (.lit 1))) (.lit 16))) 5, .romI (.var 0) (.add (.var 1) (.mul (.wrap .i64 (.sub (.var 4) (.lit 1))) (.lit 16))) 6, .romI (.var 0) (.add (.var 1) (.mul (.wrap .i64 (.sub (.var 4) (.lit 1))) (.lit 16))) 7, .romI (.var 0) (.add (.var 1) (.mul (.wrap .i64 (.sub (.var 4) (.lit 1))) (.lit 16))) 8, .romI (.var 0) (.add (.var 1) (.mul (.wrap .i64 (.sub (.var 4) (.lit 1))) (.lit 16))) 9, .romI (.var 0) (.add (.var 1) (.mul (.wrap .i64 (.sub (.var 4) (.lit 1))) (.lit 16))) 10, .romI (.var 0) (.add (.var 1) (.mul (.wrap .i64 (.sub (.var 4) (.lit 1))) (.lit 16))) 11, .romI (.var 0) (.add (.var 1) (.mul (.wrap .i64 (.sub (.var 4) (.lit 1))) (.lit 16))) 12, .romI (.var 0) (.add (.var 1) (.mul (.wrap .i64 (.sub (.var 4) (.lit 1))) (.lit 16))) 13, .romI (.var 0) (.add (.var 1) (.mul (.wrap .i64 (.sub (.var 4) (.lit 1))) (.lit 16))) 14, .romI (.var 0) (.add (.var 1) (.mul (.wrap .i64 (.sub (.var 4) (.lit 1))) (.lit 16))) 15, .romI (.var 0) (.add (.var 1) (.mul (.var 4) (.lit 16))) 0, .romI (.var 0) (.add (.var 1) (.mul (.var 4) (.lit 16))) 1, .romI (.var 0) (.add (.var 1) (.mul (.var 4) (.lit 16))) 2, .romI (.var 0) (.add (.var 1) (.mul (.var 4) (.lit 16))) 3, .romI (.var 0) (.add (.var 1) (.mul (.var 4) (.lit 16))) 4, .romI (.var 0) (.add (.var 1) (.mul (.var 4) (.lit 16))) 5, .romI (.var 0) (.add (.var 1) (.mul (.var 4) (.lit 16))) 6, .romI (.var 0) (.add (.var 1) (.mul (.var 4) (.lit 16))) 7, .romI (.var 0) (.add (.var 1) (.mul (.var 4) (.lit 16))) 8, .romI (.var 0) (.add (.var 1) (.mul (.var 4) (.lit 16))) 9, .romI (.var 0) (.add (.var 1) (.mul (.var 4) (.lit 16))) 10, .romI (.var 0) (.add (.var 1) (.mul (.var 4) (.lit 16))) 11, .romI (.var 0) (.add (.var 1) (.mul (.var 4) (.lit 16))) 12, .romI (.var 0) (.add (.var 1) (.mul (.var 4) (.lit 16))) 13, .romI (.var 0) (.add (.var 1) (.mul (.var 4) (.lit 16))) 14, .romI (.var 0) (.add (.var 1) (.mul (.var 4) (.lit 16))) 15]))))))
def evK : Ev := .x 7 (setVars lexF 1) [.romI (.var 0) (.add (.var 1) (.mul (.wrap .i64 (.sub (.var 4) (.lit 1))) (.lit 16))) 0, .romI (.var 0) (.add (.var 1) (.mul (.wrap .i64 (.sub (.var 4) (.lit 1))) (.lit 16))) 1, .romI (.var 0) (.add (.var 1) (.mul (.wrap .i64 (.sub (.var 4) (.lit 1))) (.lit 16))) 2, .romI (.var 0) (.add (.var 1) (.mul (.wrap .i64 (.sub (.var 4) (.lit 1))) (.lit 16))) 3, .romI (.var 0) (.add (.var 1) (.mul (.wrap .i64 (.sub (.var 4) (.lit 1))) (.lit 16))) 4, .romI (.var 0) (.add (.var 1) (.mul (.wrap .i64 (.sub (.var 4) (.lit 1))) (.lit 16))) 5, .romI (.var 0) (.add (.var 1) (.mul (.wrap .i64 (.sub (.var 4) (.lit 1))) (.lit 16))) 6, .romI (.var 0) (.add (.var 1) (.mul (.wrap .i64 (.sub (.var 4) (.lit 1))) (.lit 16))) 7, .romI (.var 0) (.add (.var 1) (.mul (.wrap .i64 (.sub (.var 4) (.lit 1))) (.lit 16))) 8, .romI (.var 0) (.add (.var 1) (.mul (.wrap .i64 (.sub (.var 4) (.lit 1))) (.lit 16))) 9, .romI (.var 0) (.add (.var 1) (.mul (.wrap .i64 (.sub (.var 4) (.lit 1))) (.lit 16))) 10, .romI (.var 0) (.add (.var 1) (.mul (.wrap .i64 (.sub (.var 4) (.lit 1))) (.lit 16))) 11, .romI (.var 0) (.add (.var 1) (.mul (.wrap .i64 (.sub (.var 4) (.lit 1))) (.lit 16))) 12, .romI (.var 0) (.add (.var 1) (.mul (.wrap .i64 (.sub (.var 4) (.lit 1))) (.lit 16))) 13, .romI (.var 0) (.add (.var 1) (.mul (.wrap .i64 (.sub (.var 4) (.lit 1))) (.lit 16))) 14, .romI (.var 0) (.add (.var 1) (.mul (.wrap .i64 (.sub (.var 4) (.lit 1))) (.lit 16))) 15, .romI (.var 0) (.add (.var 1) (.mul (.var 4) (.lit 16))) 0, .romI (.var 0) (.add (.var 1) (.mul (.var 4) (.lit 16))) 1, .romI (.var 0) (.add (.var 1) (.mul (.var 4) (.lit 16))) 2, .romI (.var 0) (.add (.var 1) (.mul (.var 4) (.lit 16))) 3, .romI (.var 0) (.add (.var 1) (.mul (.var 4) (.lit 16))) 4, .romI (.var 0) (.add (.var 1) (.mul (.var 4) (.lit 16))) 5, .romI (.var 0) (.add (.var 1) (.mul (.var 4) (.lit 16))) 6, .romI (.var 0) (.add (.var 1) (.mul (.var 4) (.lit 16))) 7, .romI (.var 0) (.add (.var 1) (.mul (.var 4) (.lit 16))) 8, .romI (.var 0) (.add (.var 1) (.mul (.var 4) (.lit 16))) 9, .romI (.var 0) (.add (.var 1) (.mul (.var 4) (.lit 16))) 10, .romI (.var 0) (.add (.var 1) (.mul (.var 4) (.lit 16))) 11, .romI (.var 0) (.add (.var 1) (.mul (.var 4) (.lit 16))) 12, .romI (.var 0) (.add (.var 1) (.mul (.var 4) (.lit 16))) 13, .romI (.var 0) (.add (.var 1) (.mul (.var 4) (.lit 16))) 14, .romI (.var 0) (.add (.var 1) (.mul (.var 4) (.lit 16))) 15] 5
def obK : Out := ⟨restK ++ [(.norm, sK)], ndK, evK⟩
set_option maxRecDepth 100000 in
theorem obK_eq : pieceE Try.prog srtΓ 20 60 noL 31 (pK ++ [0]) hdK = some obK := by kernel_rfl
def es1 : List E := [.romI (.var 0) (.add (.var 1) (.mul (.wrap .i64 (.sub (.var 4) (.lit 1))) (.lit 16))) 0, .romI (.var 0) (.add (.var 1) (.mul (.wrap .i64 (.sub (.var 4) (.lit 1))) (.lit 16))) 1, .romI (.var 0) (.add (.var 1) (.mul (.wrap .i64 (.sub (.var 4) (.lit 1))) (.lit 16))) 2, .romI (.var 0) (.add (.var 1) (.mul (.wrap .i64 (.sub (.var 4) (.lit 1))) (.lit 16))) 3, .romI (.var 0) (.add (.var 1) (.mul (.wrap .i64 (.sub (.var 4) (.lit 1))) (.lit 16))) 4, .romI (.var 0) (.add (.var 1) (.mul (.wrap .i64 (.sub (.var 4) (.lit 1))) (.lit 16))) 5, .romI (.var 0) (.add (.var 1) (.mul (.wrap .i64 (.sub (.var 4) (.lit 1))) (.lit 16))) 6, .romI (.var 0) (.add (.var 1) (.mul (.wrap .i64 (.sub (.var 4) (.lit 1))) (.lit 16))) 7, .romI (.var 0) (.add (.var 1) (.mul (.wrap .i64 (.sub (.var 4) (.lit 1))) (.lit 16))) 8, .romI (.var 0) (.add (.var 1) (.mul (.wrap .i64 (.sub (.var 4) (.lit 1))) (.lit 16))) 9, .romI (.var 0) (.add (.var 1) (.mul (.wrap .i64 (.sub (.var 4) (.lit 1))) (.lit 16))) 10, .romI (.var 0) (.add (.var 1) (.mul (.wrap .i64 (.sub (.var 4) (.lit 1))) (.lit 16))) 11, .romI (.var 0) (.add (.var 1) (.mul (.wrap .i64 (.sub (.var 4) (.lit 1))) (.lit 16))) 12, .romI (.var 0) (.add (.var 1) (.mul (.wrap .i64 (.sub (.var 4) (.lit 1))) (.lit 16))) 13, .romI (.var 0) (.add (.var 1) (.mul (.wrap .i64 (.sub (.var 4) (.lit 1))) (.lit 16))) 14, .romI (.var 0) (.add (.var 1) (.mul (.wrap .i64 (.sub (.var 4) (.lit 1))) (.lit 16))) 15, .romI (.var 0) (.add (.var 1) (.mul (.var 4) (.lit 16))) 0, .romI (.var 0) (.add (.var 1) (.mul (.var 4) (.lit 16))) 1, .romI (.var 0) (.add (.var 1) (.mul (.var 4) (.lit 16))) 2, .romI (.var 0) (.add (.var 1) (.mul (.var 4) (.lit 16))) 3, .romI (.var 0) (.add (.var 1) (.mul (.var 4) (.lit 16))) 4, .romI (.var 0) (.add (.var 1) (.mul (.var 4) (.lit 16))) 5, .romI (.var 0) (.add (.var 1) (.mul (.var 4) (.lit 16))) 6, .romI (.var 0) (.add (.var 1) (.mul (.var 4) (.lit 16))) 7, .romI (.var 0) (.add (.var 1) (.mul (.var 4) (.lit 16))) 8, .romI (.var 0) (.add (.var 1) (.mul (.var 4) (.lit 16))) 9, .romI (.var 0) (.add (.var 1) (.mul (.var 4) (.lit 16))) 10, .romI (.var 0) (.add (.var 1) (.mul (.var 4) (.lit 16))) 11, .romI (.var 0) (.add (.var 1) (.mul (.var 4) (.lit 16))) 12, .romI (.var 0) (.add (.var 1) (.mul (.var 4) (.lit 16))) 13, .romI (.var 0) (.add (.var 1) (.mul (.var 4) (.lit 16))) 14, .romI (.var 0) (.add (.var 1) (.mul (.var 4) (.lit 16))) 15]
def r1 (ρ : Env) : Env := setVars lexF 1 es1 5 ρ
theorem evK_run (ρ : Env) : evK.run ρ = r1 ρ := rfl
def pt (ρ : Env) : Pt := ⟨ρ.i, ρ.b⟩
structure IK (ρ : Env) : Prop where
  n : TokN (pt ρ) ρ.w
  i : 1 ≤ ρ.i 4 ∧ ρ.i 4 ≤ 4611686018427387905
  so : ∀ k, 0 ≤ k → k < ρ.i 4 - 1 → k + 1 < ρ.i 2 → lex (tokAt ρ.w (ρ.i 0) (ρ.i 1) k) (tokAt ρ.w (ρ.i 0) (ρ.i 1) (k + 1)) < 0
theorem low (ρ : Env) : Agree 5 ρ (r1 ρ) := setVars_agree _ _ _ _ _
/-- The pair at hand. -/
def at_ (ρ : Env) : Int := ρ.i 4 - 1
theorem wrap_at {ρ : Env} (hI : IK ρ) (h : at_ ρ + 1 < ρ.i 2) : IntKind.i64.wrap (ρ.i 4 - 1) = at_ ρ := IntWalk.i64_in _ (by have := hI.i; have := hI.n.len; simp only [pt, at_] at *; omega)
def LK : LoopSum := { n0 := 4, hd := hdK, ob := obK, s := sK, rest := restK, A := AK, I := IK, μ := fun ρ => (ρ.i 2 + 2 - ρ.i 4).toNat, lbl := 9 }
def A0K : List As := [⟨4, false, .lit 1⟩]
noncomputable def ΛK : Loops := fun q st => if q = pK then LK.run st else none
set_option maxRecDepth 100000 in
theorem fnE : funP Try.prog srtΓ 20 60 ΛK 31 [.sv (.one (.rsl (.var 0) (.var 1) (.var 2) (.var 3)))] 4 = some (.sv (.one (.bool (.not (.and (.lt (.var 4) (.var 2)) (.le (.lit 0) (.var 5)))))), .p 9 (fun _ ρ => LK.I (assign ρ A0K)) [], .x 9 (fun _ _ ρ => LK.ob.env.run (LK.last (LK.μ (assign ρ A0K)) (assign ρ A0K))) [] 0) := by kernel_rfl
theorem pair {ρ : Env} (hI : IK ρ) (h : at_ ρ + 1 < ρ.i 2) : (r1 ρ).i 5 = lex (tokAt ρ.w (ρ.i 0) (ρ.i 1) (at_ ρ)) (tokAt ρ.w (ρ.i 0) (ρ.i 1) (at_ ρ + 1)) := by
  have e : (r1 ρ).i 5 = lex (tokAt ρ.w (ρ.i 0) (ρ.i 1) (IntKind.i64.wrap (ρ.i 4 - 1))) (tokAt ρ.w (ρ.i 0) (ρ.i 1) (ρ.i 4)) := rfl
  rw [e, wrap_at hI h]
  congr 2
  unfold at_; omega
def retLive : E := .and (.lt (.var 4) (.var 2)) (.le (.lit 0) (.var 5))

theorem ok_of {body b : Code} (hb : bodyOf Try.prog 31 = some body) (hc : codeAt body pK = some (.loop b)) : LK.OK Try.prog b where
  body := pieceE_ok srtΓ_ok hb (noL_ok _ _) obK_eq (by rw [codeAt_append pK body _ [0] hc]; simp [codeAt])
  split := by kernel_rfl
  back := by kernel_rfl
  nv := by decide
  live := rfl
  inv := fun ρ hI => by
    have hI : IK ρ := hI
    have hi := hI.i
    have y : 0 ≤ ρ.i 1 := hI.n.y
    have len : 0 ≤ ρ.i 2 ∧ ρ.i 2 ≤ 4611686018427387904 := hI.n.len
    have blk : 0 < ρ.i 2 → 0 ≤ ρ.i 0 := hI.n.blk
    have W0 : at_ ρ + 1 < ρ.i 2 → IntKind.i64.wrap (ρ.i 4 - 1) = at_ ρ := wrap_at hI
    have ea : at_ ρ = ρ.i 4 - 1 := rfl
    have gd : ρ.i 4 < ρ.i 2 → at_ ρ + 1 < ρ.i 2 := fun h => by omega
    refine ⟨?_, fun hl => ?_⟩
    · show ndK.holds ρ
      simp only [ndK, Nd.holds, bT_le, bT_lt, bT_and, bT_romIs, iev_lit, iev_var, iev_add, iev_sub, iev_wrap, iev_mul]
      refine ⟨len.1, fun h => ?_⟩
      have hg := gd h
      have A := fun j hj => (hI.n.at_ (at_ ρ) (by omega) (by show at_ ρ < ρ.i 2; omega) j hj).2
      have B := fun j hj => (hI.n.at_ (at_ ρ + 1) (by omega) (by show at_ ρ + 1 < ρ.i 2; omega) j hj).2
      have r0 := hI.n.row (i := at_ ρ) (by omega) (by show at_ ρ < ρ.i 2; omega)
      have r1 := hI.n.row (i := at_ ρ + 1) (by omega) (by show at_ ρ + 1 < ρ.i 2; omega)
      have b0 := blk (by omega)
      have w0 := W0 hg
      have e1 : ρ.i 4 = at_ ρ + 1 := by omega
      have bN : bytesN (ptOf es1 ρ) := by
        rw [← w0] at A
        rw [← e1] at B
        intro j hj
        match j, hj with
        | 0, _ => exact A 0 (by decide)
        | 1, _ => exact A 1 (by decide)
        | 2, _ => exact A 2 (by decide)
        | 3, _ => exact A 3 (by decide)
        | 4, _ => exact A 4 (by decide)
        | 5, _ => exact A 5 (by decide)
        | 6, _ => exact A 6 (by decide)
        | 7, _ => exact A 7 (by decide)
        | 8, _ => exact A 8 (by decide)
        | 9, _ => exact A 9 (by decide)
        | 10, _ => exact A 10 (by decide)
        | 11, _ => exact A 11 (by decide)
        | 12, _ => exact A 12 (by decide)
        | 13, _ => exact A 13 (by decide)
        | 14, _ => exact A 14 (by decide)
        | 15, _ => exact A 15 (by decide)
        | 16, _ => exact B 0 (by decide)
        | 17, _ => exact B 1 (by decide)
        | 18, _ => exact B 2 (by decide)
        | 19, _ => exact B 3 (by decide)
        | 20, _ => exact B 4 (by decide)
        | 21, _ => exact B 5 (by decide)
        | 22, _ => exact B 6 (by decide)
        | 23, _ => exact B 7 (by decide)
        | 24, _ => exact B 8 (by decide)
        | 25, _ => exact B 9 (by decide)
        | 26, _ => exact B 10 (by decide)
        | 27, _ => exact B 11 (by decide)
        | 28, _ => exact B 12 (by decide)
        | 29, _ => exact B 13 (by decide)
        | 30, _ => exact B 14 (by decide)
        | 31, _ => exact B 15 (by decide)
        | q + 32, hj => exact absurd hj (by omega)
      rw [w0, e1]
      exact ⟨⟨b0, y, by omega, by omega⟩, ⟨by omega, r0⟩, ⟨b0, y, by omega, by omega⟩, ⟨by omega, r1⟩, bN⟩
    · have hl : bev (evK.run ρ) sK.live = true := hl
      rw [evK_run] at hl
      have v := pair hI
      have e4 : (r1 ρ).i 4 = ρ.i 4 := (low ρ).i 4 (by decide)
      have e2 : (r1 ρ).i 2 = ρ.i 2 := (low ρ).i 2 (by decide)
      simp only [sK, bT_and, bT_not, bT_lt, bT_le, bT_bvar, iev_var, iev_lit, iev_wrap, iev_add, e4, e2] at hl
      obtain ⟨h1, h2⟩ := hl
      have hg := gd h1
      have v := v hg
      have n4 : (LK.next ρ).i 4 = ρ.i 4 + 1 := by
        have : (LK.next ρ).i 4 = IntKind.i64.wrap ((r1 ρ).i 4 + 1) := rfl
        rw [this, e4]; exact IntWalk.i64_in _ (by omega)
      have n2 : (LK.next ρ).i 2 = ρ.i 2 := e2
      refine ⟨⟨⟨y, len, blk, hI.n.at_⟩, by rw [n4]; omega, fun k h0 hk hk2 => ?_⟩, ?_⟩
      · rw [n4] at hk
        rcases Int.lt_or_le k (at_ ρ) with hlt | hge
        · exact hI.so k h0 (by omega) hk2
        · have : k = at_ ρ := by omega
          subst this
          rw [v] at h2; show lex (tokAt ρ.w (ρ.i 0) (ρ.i 1) (at_ ρ)) (tokAt ρ.w (ρ.i 0) (ρ.i 1) (at_ ρ + 1)) < 0; omega
      · show ((LK.next ρ).i 2 + 2 - (LK.next ρ).i 4).toNat < (ρ.i 2 + 2 - ρ.i 4).toNat
        rw [n4, n2]; omega

theorem loops_ok {body : Code} (hb : bodyOf Try.prog 31 = some body) : LoopsOK Try.prog body ΛK := by
  intro p st o b hc h
  unfold ΛK at h
  split at h
  · rename_i hp; subst hp
    exact LoopSum.run_ok (ok_of hb hc) h
  · cases h

theorem sorted (p : Pt) (W w : World) (hr : ∀ (k : Nat) (o : Obj), W.heap[k]? = some o → w.heap[k]? = some o) (hN : TokN p W) :
    Calls Try.prog 31 (swVals p 0 [.one .sl]).toArray w fun e w' => e = .returned (resVal (sortedF p W) [.one .bool]) ∧ RowKit.Below w.heap.size w w' := by
  obtain ⟨body, hb⟩ : ∃ body, bodyOf Try.prog 31 = some body := by
    cases h : bodyOf Try.prog 31 with
    | none => exact absurd h (by unfold bodyOf; rw [Try.func31]; simp [Try.f31])
    | some b => exact ⟨b, rfl⟩
  obtain ⟨b, hcl⟩ : ∃ b, codeAt body pK = some (.loop b) := by
    have h : ((bodyOf Try.prog 31).bind fun c => codeAt c pK).any (fun c => match c with | .loop _ => true | _ => false) = true := by kernel_rfl
    rw [hb, Option.bind_some] at h
    cases hq : codeAt body pK with
    | none => rw [hq] at h; cases h
    | some c => rw [hq] at h; cases c <;> first | exact ⟨_, rfl⟩ | cases h
  have hI0 : IK (assign ⟨p.i, p.b, W⟩ A0K) := ⟨⟨hN.y, hN.len, hN.blk, hN.at_⟩, by show 1 ≤ (1 : Int) ∧ (1 : Int) ≤ _; omega, fun k h0 hk => by have : k < 1 - 1 := hk; omega⟩
  have key := funP_sound srtΓ_ok hb (loops_ok hb) fnE id ⟨p.i, p.b, W⟩ w hr hI0
  refine key.2.mono fun e w' ⟨he, hbl⟩ => ⟨?_, hbl⟩
  rw [he]
  have OK := ok_of hb hcl
  obtain ⟨hI, ag⟩ := OK.last_inv (LK.μ (assign ⟨p.i, p.b, W⟩ A0K)) _ hI0
  have dead := OK.last_dead (LK.μ (assign ⟨p.i, p.b, W⟩ A0K)) _ hI0 (Nat.le_refl _)
  refine congrArg (fun b => Ending.returned (Value.bool b)) ?_
  show bev (evK.run (LK.last (LK.μ (assign ⟨p.i, p.b, W⟩ A0K)) (assign ⟨p.i, p.b, W⟩ A0K))) (.not retLive) = (sortedF p W).b 0
  generalize LK.last (LK.μ (assign ⟨p.i, p.b, W⟩ A0K)) (assign ⟨p.i, p.b, W⟩ A0K) = σ at *
  have hI : IK σ := hI
  have dead : ¬ bev (evK.run σ) sK.live = true := by rw [show bev (evK.run σ) sK.live = false from dead]; decide
  rw [evK_run] at dead ⊢
  have v := pair hI
  have e4 : (r1 σ).i 4 = σ.i 4 := (low σ).i 4 (by decide)
  have e2 : (r1 σ).i 2 = p.i 2 := ((low σ).i 2 (by decide)).trans (ag.i 2 (by decide))
  have s0 : σ.i 0 = p.i 0 := ag.i 0 (by decide)
  have s1 : σ.i 1 = p.i 1 := ag.i 1 (by decide)
  have s2 : σ.i 2 = p.i 2 := ag.i 2 (by decide)
  have sw : σ.w = W := ag.w
  have hi := hI.i
  have len : 0 ≤ p.i 2 ∧ p.i 2 ≤ 4611686018427387904 := hN.len
  have ea : at_ σ = σ.i 4 - 1 := rfl
  have so := hI.so
  rw [s0, s1, s2, sw] at so
  rw [s0, s1, s2, sw] at v
  have W0 : IntKind.i64.wrap (σ.i 4 + 1) = σ.i 4 + 1 := IntWalk.i64_in _ (by omega)
  rw [Bool.eq_iff_iff, show ((sortedF p W).b 0 = true) = SortedAt W (p.i 0) (p.i 1) (p.i 2) by simp [sortedF]]
  simp only [retLive, sK, bT_and, bT_not, bT_lt, bT_le, bT_bvar, iev_var, iev_lit, iev_wrap, iev_add, e4, e2, W0] at dead ⊢
  by_cases hlt : at_ σ + 1 < p.i 2
  · have v := v hlt
    have h5 : ¬ lex (tokAt W (p.i 0) (p.i 1) (at_ σ)) (tokAt W (p.i 0) (p.i 1) (at_ σ + 1)) < 0 := fun h => dead ⟨by omega, by rw [v]; omega⟩
    refine ⟨fun h => absurd ⟨by omega, by rw [v]; omega⟩ h, fun h => absurd (h (at_ σ) (by omega) hlt) h5⟩
  · refine ⟨fun _ k h0 hk => so k h0 (by omega) hk, fun _ h => ?_⟩
    have := h.1
    omega
end K

namespace R
def pK : List Nat := [1, 0, 1, 0]
def hdK : St := ⟨[some ⟨.tt, .sv (.one (.rsl (.var 0) (.var 1) (.var 2) (.var 3)))⟩, none, none, some ⟨.tt, .sv (.one (.int .i64 (.var 4)))⟩, none, none, none, none, none, none, none, none, none, none, none, none, none, none, none, none, none, none], [], .tt, 5⟩
def sK : St := ⟨[some ⟨.tt, .sv (.one (.rsl (.var 0) (.var 1) (.var 2) (.var 3)))⟩, none, none, some ⟨.tt, .sv (.one (.int .i64 (.wrap .i64 (.add (.var 4) (.lit 1)))))⟩, some ⟨.tt, .sv (.one (.int .i64 (.var 4)))⟩, some ⟨.tt, .sv (.one (.int .i64 (.wrap .i64 (.add (.var 4) (.lit 1)))))⟩, some ⟨.tt, .sv (.one (.rsl (.var 0) (.var 1) (.var 2) (.var 3)))⟩, some ⟨.tt, .sv (.one (.int .i64 (.var 2)))⟩, some ⟨.tt, .sv (.one (.bool (.lt (.wrap .i64 (.add (.var 4) (.lit 1))) (.var 2))))⟩, some ⟨.tt, .sv (.one (.int .i64 (.var 4)))⟩, some ⟨.tt, .sv (.one (.int .i64 (.wrap .i64 (.add (.var 4) (.lit 1)))))⟩, some ⟨.tt, .sv (.one (.rsl (.var 0) (.var 1) (.var 2) (.var 3)))⟩, some ⟨.tt, .sv (.one (.int .i64 (.var 4)))⟩, some ⟨.tt, .sv (.one (.rptr (.var 0) (.add (.var 1) (.mul (.var 4) (.lit 16)))))⟩, some ⟨.tt, .sv (.agg [.int .u8 (.romI (.var 0) (.add (.var 1) (.mul (.var 4) (.lit 16))) 0), .int .u8 (.romI (.var 0) (.add (.var 1) (.mul (.var 4) (.lit 16))) 1), .int .u8 (.romI (.var 0) (.add (.var 1) (.mul (.var 4) (.lit 16))) 2), .int .u8 (.romI (.var 0) (.add (.var 1) (.mul (.var 4) (.lit 16))) 3), .int .u8 (.romI (.var 0) (.add (.var 1) (.mul (.var 4) (.lit 16))) 4), .int .u8 (.romI (.var 0) (.add (.var 1) (.mul (.var 4) (.lit 16))) 5), .int .u8 (.romI (.var 0) (.add (.var 1) (.mul (.var 4) (.lit 16))) 6), .int .u8 (.romI (.var 0) (.add (.var 1) (.mul (.var 4) (.lit 16))) 7), .int .u8 (.romI (.var 0) (.add (.var 1) (.mul (.var 4) (.lit 16))) 8), .int .u8 (.romI (.var 0) (.add (.var 1) (.mul (.var 4) (.lit 16))) 9), .int .u8 (.romI (.var 0) (.add (.var 1) (.mul (.var 4) (.lit 16))) 10), .int .u8 (.romI (.var 0) (.add (.var 1) (.mul (.var 4) (.lit 16))) 11), .int .u8 (.romI (.var 0) (.add (.var 1) (.mul (.var 4) (.lit 16))) 12), .int .u8 (.romI (.var 0) (.add (.var 1) (.mul (.var 4) (.lit 16))) 13), .int .u8 (.romI (.var 0) (.add (.var 1) (.mul (.var 4) (.lit 16))) 14), .int .u8 (.romI (.var 0) (.add (.var 1) (.mul (.var 4) (.lit 16))) 15)])⟩, some ⟨.tt, .sv (.one (.rsl (.var 0) (.var 1) (.var 2) (.var 3)))⟩, some ⟨.tt, .sv (.one (.int .i64 (.var 4)))⟩, some ⟨.tt, .sv (.one (.int .i64 (.wrap .i64 (.add (.var 4) (.lit 1)))))⟩, some ⟨.tt, .sv (.one (.rptr (.var 0) (.add (.var 1) (.mul (.wrap .i64 (.add (.var 4) (.lit 1))) (.lit 16)))))⟩, some ⟨.tt, .sv (.agg [.int .u8 (.romI (.var 0) (.add (.var 1) (.mul (.wrap .i64 (.add (.var 4) (.lit 1))) (.lit 16))) 0), .int .u8 (.romI (.var 0) (.add (.var 1) (.mul (.wrap .i64 (.add (.var 4) (.lit 1))) (.lit 16))) 1), .int .u8 (.romI (.var 0) (.add (.var 1) (.mul (.wrap .i64 (.add (.var 4) (.lit 1))) (.lit 16))) 2), .int .u8 (.romI (.var 0) (.add (.var 1) (.mul (.wrap .i64 (.add (.var 4) (.lit 1))) (.lit 16))) 3), .int .u8 (.romI (.var 0) (.add (.var 1) (.mul (.wrap .i64 (.add (.var 4) (.lit 1))) (.lit 16))) 4), .int .u8 (.romI (.var 0) (.add (.var 1) (.mul (.wrap .i64 (.add (.var 4) (.lit 1))) (.lit 16))) 5), .int .u8 (.romI (.var 0) (.add (.var 1) (.mul (.wrap .i64 (.add (.var 4) (.lit 1))) (.lit 16))) 6), .int .u8 (.romI (.var 0) (.add (.var 1) (.mul (.wrap .i64 (.add (.var 4) (.lit 1))) (.lit 16))) 7), .int .u8 (.romI (.var 0) (.add (.var 1) (.mul (.wrap .i64 (.add (.var 4) (.lit 1))) (.lit 16))) 8), .int .u8 (.romI (.var 0) (.add (.var 1) (.mul (.wrap .i64 (.add (.var 4) (.lit 1))) (.lit 16))) 9), .int .u8 (.romI (.var 0) (.add (.var 1) (.mul (.wrap .i64 (.add (.var 4) (.lit 1))) (.lit 16))) 10), .int .u8 (.romI (.var 0) (.add (.var 1) (.mul (.wrap .i64 (.add (.var 4) (.lit 1))) (.lit 16))) 11), .int .u8 (.romI (.var 0) (.add (.var 1) (.mul (.wrap .i64 (.add (.var 4) (.lit 1))) (.lit 16))) 12), .int .u8 (.romI (.var 0) (.add (.var 1) (.mul (.wrap .i64 (.add (.var 4) (.lit 1))) (.lit 16))) 13), .int .u8 (.romI (.var 0) (.add (.var 1) (.mul (.wrap .i64 (.add (.var 4) (.lit 1))) (.lit 16))) 14), .int .u8 (.romI (.var 0) (.add (.var 1) (.mul (.wrap .i64 (.add (.var 4) (.lit 1))) (.lit 16))) 15)])⟩, some ⟨.tt, .sv (.one (.bool (.bvar 5)))⟩, some ⟨.tt, .sv (.one (.bool (.not (.bvar 5))))⟩], [], .and (.lt (.wrap .i64 (.add (.var 4) (.lit 1))) (.var 2)) (.bvar 5), 6⟩
def restK : List (Tag × St) := [(.exit 0, ⟨[some ⟨.tt, .sv (.one (.rsl (.var 0) (.var 1) (.var 2) (.var 3)))⟩, none, none, some ⟨.tt, .sv (.one (.int .i64 (.var 4)))⟩, some ⟨.tt, .sv (.one (.int .i64 (.var 4)))⟩, some ⟨.tt, .sv (.one (.int .i64 (.wrap .i64 (.add (.var 4) (.lit 1)))))⟩, some ⟨.tt, .sv (.one (.rsl (.var 0) (.var 1) (.var 2) (.var 3)))⟩, some ⟨.tt, .sv (.one (.int .i64 (.var 2)))⟩, some ⟨.tt, .sv (.one (.bool (.lt (.wrap .i64 (.add (.var 4) (.lit 1))) (.var 2))))⟩, none, none, none, none, none, none, none, none, none, none, none, none, none], [], .not (.lt (.wrap .i64 (.add (.var 4) (.lit 1))) (.var 2)), 5⟩), (.ret, ⟨[some ⟨.tt, .sv (.one (.rsl (.var 0) (.var 1) (.var 2) (.var 3)))⟩, none, some ⟨.tt, .sv (.one (.bool .ff))⟩, some ⟨.tt, .sv (.one (.int .i64 (.var 4)))⟩, some ⟨.tt, .sv (.one (.int .i64 (.var 4)))⟩, some ⟨.tt, .sv (.one (.int .i64 (.wrap .i64 (.add (.var 4) (.lit 1)))))⟩, some ⟨.tt, .sv (.one (.rsl (.var 0) (.var 1) (.var 2) (.var 3)))⟩, some ⟨.tt, .sv (.one (.int .i64 (.var 2)))⟩, some ⟨.tt, .sv (.one (.bool (.lt (.wrap .i64 (.add (.var 4) (.lit 1))) (.var 2))))⟩, none, none, some ⟨.tt, .sv (.one (.rsl (.var 0) (.var 1) (.var 2) (.var 3)))⟩, some ⟨.tt, .sv (.one (.int .i64 (.var 4)))⟩, some ⟨.tt, .sv (.one (.rptr (.var 0) (.add (.var 1) (.mul (.var 4) (.lit 16)))))⟩, some ⟨.tt, .sv (.agg [.int .u8 (.romI (.var 0) (.add (.var 1) (.mul (.var 4) (.lit 16))) 0), .int .u8 (.romI (.var 0) (.add (.var 1) (.mul (.var 4) (.lit 16))) 1), .int .u8 (.romI (.var 0) (.add (.var 1) (.mul (.var 4) (.lit 16))) 2), .int .u8 (.romI (.var 0) (.add (.var 1) (.mul (.var 4) (.lit 16))) 3), .int .u8 (.romI (.var 0) (.add (.var 1) (.mul (.var 4) (.lit 16))) 4), .int .u8 (.romI (.var 0) (.add (.var 1) (.mul (.var 4) (.lit 16))) 5), .int .u8 (.romI (.var 0) (.add (.var 1) (.mul (.var 4) (.lit 16))) 6), .int .u8 (.romI (.var 0) (.add (.var 1) (.mul (.var 4) (.lit 16))) 7), .int .u8 (.romI (.var 0) (.add (.var 1) (.mul (.var 4) (.lit 16))) 8), .int .u8 (.romI (.var 0) (.add (.var 1) (.mul (.var 4) (.lit 16))) 9), .int .u8 (.romI (.var 0) (.add (.var 1) (.mul (.var 4) (.lit 16))) 10), .int .u8 (.romI (.var 0) (.add (.var 1) (.mul (.var 4) (.lit 16))) 11), .int .u8 (.romI (.var 0) (.add (.var 1) (.mul (.var 4) (.lit 16))) 12), .int .u8 (.romI (.var 0) (.add (.var 1) (.mul (.var 4) (.lit 16))) 13), .int .u8 (.romI (.var 0) (.add (.var 1) (.mul (.var 4) (.lit 16))) 14), .int .u8 (.romI (.var 0) (.add (.var 1) (.mul (.var 4) (.lit 16))) 15)])⟩, some ⟨.tt, .sv (.one (.rsl (.var 0) (.var 1) (.var 2) (.var 3)))⟩, some ⟨.tt, .sv (.one (.int .i64 (.var 4)))⟩, some ⟨.tt, .sv (.one (.int .i64 (.wrap .i64 (.add (.var 4) (.lit 1)))))⟩, some ⟨.tt, .sv (.one (.rptr (.var 0) (.add (.var 1) (.mul (.wrap .i64 (.add (.var 4) (.lit 1))) (.lit 16)))))⟩, some ⟨.tt, .sv (.agg [.int .u8 (.romI (.var 0) (.add (.var 1) (.mul (.wrap .i64 (.add (.var 4) (.lit 1))) (.lit 16))) 0), .int .u8 (.romI (.var 0) (.add (.var 1) (.mul (.wrap .i64 (.add (.var 4) (.lit 1))) (.lit 16))) 1), .int .u8 (.romI (.var 0) (.add (.var 1) (.mul (.wrap .i64 (.add (.var 4) (.lit 1))) (.lit 16))) 2), .int .u8 (.romI (.var 0) (.add (.var 1) (.mul (.wrap .i64 (.add (.var 4) (.lit 1))) (.lit 16))) 3), .int .u8 (.romI (.var 0) (.add (.var 1) (.mul (.wrap .i64 (.add (.var 4) (.lit 1))) (.lit 16))) 4), .int .u8 (.romI (.var 0) (.add (.var 1) (.mul (.wrap .i64 (.add (.var 4) (.lit 1))) (.lit 16))) 5), .int .u8 (.romI (.var 0) (.add (.var 1) (.mul (.wrap .i64 (.add (.var 4) (.lit 1))) (.lit 16))) 6), .int .u8 (.romI (.var 0) (.add (.var 1) (.mul (.wrap .i64 (.add (.var 4) (.lit 1))) (.lit 16))) 7), .int .u8 (.romI (.var 0) (.add (.var 1) (.mul (.wrap .i64 (.add (.var 4) (.lit 1))) (.lit 16))) 8), .int .u8 (.romI (.var 0) (.add (.var 1) (.mul (.wrap .i64 (.add (.var 4) (.lit 1))) (.lit 16))) 9), .int .u8 (.romI (.var 0) (.add (.var 1) (.mul (.wrap .i64 (.add (.var 4) (.lit 1))) (.lit 16))) 10), .int .u8 (.romI (.var 0) (.add (.var 1) (.mul (.wrap .i64 (.add (.var 4) (.lit 1))) (.lit 16))) 11), .int .u8 (.romI (.var 0) (.add (.var 1) (.mul (.wrap .i64 (.add (.var 4) (.lit 1))) (.lit 16))) 12), .int .u8 (.romI (.var 0) (.add (.var 1) (.mul (.wrap .i64 (.add (.var 4) (.lit 1))) (.lit 16))) 13), .int .u8 (.romI (.var 0) (.add (.var 1) (.mul (.wrap .i64 (.add (.var 4) (.lit 1))) (.lit 16))) 14), .int .u8 (.romI (.var 0) (.add (.var 1) (.mul (.wrap .i64 (.add (.var 4) (.lit 1))) (.lit 16))) 15)])⟩, some ⟨.tt, .sv (.one (.bool (.bvar 5)))⟩, some ⟨.tt, .sv (.one (.bool (.not (.bvar 5))))⟩], [], .and (.lt (.wrap .i64 (.add (.var 4) (.lit 1))) (.var 2)) (.not (.bvar 5)), 6⟩)]
def AK : List As := [⟨4, false, .wrap .i64 (.add (.var 4) (.lit 1))⟩]
def ndK : Nd := .and (.e (.le (.lit 0) (.var 2))) (.imp (.lt (.wrap .i64 (.add (.var 4) (.lit 1))) (.var 2)) (.and (.e (.and (.le (.lit 0) (.var 0)) (.and (.le (.lit 0) (.var 1)) (.and (.le (.lit 0) (.var 4)) (.lt (.var 4) (.var 2)))))) (.and (.e (.and (.le (.lit 0) (.add (.var 1) (.mul (.var 4) (.lit 16)))) (.and (.romIs (.var 0) (.add (.var 1) (.mul (.var 4) (.lit 16))) 0 (.int .u8)) (.and (.romIs (.var 0) (.add (.var 1) (.mul (.var 4) (.lit 16))) 1 (.int .u8)) (.and (.romIs (.var 0) (.add (.var 1) (.mul (.var 4) (.lit 16))) 2 (.int .u8)) (.and (.romIs (.var 0) (.add (.var 1) (.mul (.var 4) (.lit 16))) 3 (.int .u8)) (.and (.romIs (.var 0) (.add (.var 1) (.mul (.var 4) (.lit 16))) 4 (.int .u8)) (.and (.romIs (.var 0) (.add (.var 1) (.mul (.var 4) (.lit 16))) 5 (.int .u8)) (.and (.romIs (.var 0) (.add (.var 1) (.mul (.var 4) (.lit 16))) 6 (.int .u8)) (.and (.romIs (.var 0) (.add (.var 1) (.mul (.var 4) (.lit 16))) 7 (.int .u8)) (.and (.romIs (.var 0) (.add (.var 1) (.mul (.var 4) (.lit 16))) 8 (.int .u8)) (.and (.romIs (.var 0) (.add (.var 1) (.mul (.var 4) (.lit 16))) 9 (.int .u8)) (.and (.romIs (.var 0) (.add (.var 1) (.mul (.var 4) (.lit 16))) 10 (.int .u8)) (.and (.romIs (.var 0) (.add (.var 1) (.mul (.var 4) (.lit 16))) 11 (.int .u8)) (.and (.romIs (.var 0) (.add (.var 1) (.mul (.var 4) (.lit 16))) 12 (.int .u8)) (.and (.romIs (.var 0) (.add (.var 1) (.mul (.var 4) (.lit 16))) 13 (.int .u8)) (.and (.romIs (.var 0) (.add (.var 1) (.mul (.var 4) (.lit 16))) 14 (.int .u8)) (.romIs (.var 0) (.add (.var 1) (.mul (.var 4) (.lit 16))) 15 (.int .u8))))))))))))))))))) (.and (.e (.and (.le (.lit 0) (.var 0)) (.and (.le (.lit 0) (.var 1)) (.and (.le (.lit 0) (.wrap .i64 (.add (.var 4) (.lit 1)))) (.lt (.wrap .i64 (.add (.var 4) (.lit 1))) (.var 2)))))) (.e (.and (.le (.lit 0) (.add (.var 1) (.mul (.wrap .i64 (.add (.var 4) (.lit 1))) (.lit 16)))) (.and (.romIs (.var 0) (.add (.var 1) (.mul (.wrap .i64 (.add (.var 4) (.lit 1))) (.lit 16))) 0 (.int .u8)) (.and (.romIs (.var 0) (.add (.var 1) (.mul (.wrap .i64 (.add (.var 4) (.lit 1))) (.lit 16))) 1 (.int .u8)) (.and (.romIs (.var 0) (.add (.var 1) (.mul (.wrap .i64 (.add (.var 4) (.lit 1))) (.lit 16))) 2 (.int .u8)) (.and (.romIs (.var 0) (.add (.var 1) (.mul (.wrap .i64 (.add (.var 4) (.lit 1))) (.lit 16))) 3 (.int .u8)) (.and (.romIs (.var 0) (.add (.var 1) (.mul (.wrap .i64 (.add (.var 4) (.lit 1))) (.lit 16))) 4 (.int .u8)) (.and (.romIs (.var 0) (.add (.var 1) (.mul (.wrap .i64 (.add (.var 4) (.lit 1))) (.lit 16))) 5 (.int .u8)) (.and (.romIs (.var 0) (.add (.var 1) (.mul (.wrap .i64 (.add (.var 4) (.lit 1))) (.lit 16))) 6 (.int .u8)) (.and (.romIs (.var 0) (.add (.var 1) (.mul (.wrap .i64 (.add (.var 4) (.lit 1))) (.lit 16))) 7 (.int .u8)) (.and (.romIs (.var 0) (.add (.var 1) (.mul (.wrap .i64 (.add (.var 4) (.lit 1))) (.lit 16))) 8 (.int .u8)) (.and (.romIs (.var 0) (.add (.var 1) (.mul (.wrap .i64 (.add (.var 4) (.lit 1))) (.lit 16))) 9 (.int .u8)) (.and (.romIs (.var 0) (.add (.var 1) (.mul (.wrap .i64 (.add (.var 4) (.lit 1))) (.lit 16))) 10 (.int .u8)) (.and (.romIs (.var 0) (.add (.var 1) (.mul (.wrap .i64 (.add (.var 4) (.lit 1))) (.lit 16))) 11 (.int .u8)) (.and (.romIs (.var 0) (.add (.var 1) (.mul (.wrap .i64 (.add (.var 4) (.lit 1))) (.lit 16))) 12 (.int .u8)) (.and (.romIs (.var 0) (.add (.var 1) (.mul (.wrap .i64 (.add (.var 4) (.lit 1))) (.lit 16))) 13 (.int .u8)) (.and (.romIs (.var 0) (.add (.var 1) (.mul (.wrap .i64 (.add (.var 4) (.lit 1))) (.lit 16))) 14 (.int .u8)) (.romIs (.var 0) (.add (.var 1) (.mul (.wrap .i64 (.add (.var 4) (.lit 1))) (.lit 16))) 15 (.int .u8)))))))))))))))))))))))
def evK : Ev := .x 8 (setVars lexF 1) [.romI (.var 0) (.add (.var 1) (.mul (.var 4) (.lit 16))) 0, .romI (.var 0) (.add (.var 1) (.mul (.var 4) (.lit 16))) 1, .romI (.var 0) (.add (.var 1) (.mul (.var 4) (.lit 16))) 2, .romI (.var 0) (.add (.var 1) (.mul (.var 4) (.lit 16))) 3, .romI (.var 0) (.add (.var 1) (.mul (.var 4) (.lit 16))) 4, .romI (.var 0) (.add (.var 1) (.mul (.var 4) (.lit 16))) 5, .romI (.var 0) (.add (.var 1) (.mul (.var 4) (.lit 16))) 6, .romI (.var 0) (.add (.var 1) (.mul (.var 4) (.lit 16))) 7, .romI (.var 0) (.add (.var 1) (.mul (.var 4) (.lit 16))) 8, .romI (.var 0) (.add (.var 1) (.mul (.var 4) (.lit 16))) 9, .romI (.var 0) (.add (.var 1) (.mul (.var 4) (.lit 16))) 10, .romI (.var 0) (.add (.var 1) (.mul (.var 4) (.lit 16))) 11, .romI (.var 0) (.add (.var 1) (.mul (.var 4) (.lit 16))) 12, .romI (.var 0) (.add (.var 1) (.mul (.var 4) (.lit 16))) 13, .romI (.var 0) (.add (.var 1) (.mul (.var 4) (.lit 16))) 14, .romI (.var 0) (.add (.var 1) (.mul (.var 4) (.lit 16))) 15, .romI (.var 0) (.add (.var 1) (.mul (.wrap .i64 (.add (.var 4) (.lit 1))) (.lit 16))) 0, .romI (.var 0) (.add (.var 1) (.mul (.wrap .i64 (.add (.var 4) (.lit 1))) (.lit 16))) 1, .romI (.var 0) (.add (.var 1) (.mul (.wrap .i64 (.add (.var 4) (.lit 1))) (.lit 16))) 2, .romI (.var 0) (.add (.var 1) (.mul (.wrap .i64 (.add (.var 4) (.lit 1))) (.lit 16))) 3, .romI (.var 0) (.add (.var 1) (.mul (.wrap .i64 (.add (.var 4) (.lit 1))) (.lit 16))) 4, .romI (.var 0) (.add (.var 1) (.mul (.wrap .i64 (.add (.var 4) (.lit 1))) (.lit 16))) 5, .romI (.var 0) (.add (.var 1) (.mul (.wrap .i64 (.add (.var 4) (.lit 1))) (.lit 16))) 6, .romI (.var 0) (.add (.var 1) (.mul (.wrap .i64 (.add (.var 4) (.lit 1))) (.lit 16))) 7, .romI (.var 0) (.add (.var 1) (.mul (.wrap .i64 (.add (.var 4) (.lit 1))) (.lit 16))) 8, .romI (.var 0) (.add (.var 1) (.mul (.wrap .i64 (.add (.var 4) (.lit 1))) (.lit 16))) 9, .romI (.var 0) (.add (.var 1) (.mul (.wrap .i64 (.add (.var 4) (.lit 1))) (.lit 16))) 10, .romI (.var 0) (.add (.var 1) (.mul (.wrap .i64 (.add (.var 4) (.lit 1))) (.lit 16))) 11, .romI (.var 0) (.add (.var 1) (.mul (.wrap .i64 (.add (.var 4) (.lit 1))) (.lit 16))) 12, .romI (.var 0) (.add (.var 1) (.mul (.wrap .i64 (.add (.var 4) (.lit 1))) (.lit 16))) 13, .romI (.var 0) (.add (.var 1) (.mul (.wrap .i64 (.add (.var 4) (.lit 1))) (.lit 16))) 14, .romI (.var 0) (.add (.var 1) (.mul (.wrap .i64 (.add (.var 4) (.lit 1))) (.lit 16))) 15] 5
def obK : Out := ⟨restK ++ [(.norm, sK)], ndK, evK⟩
set_option maxRecDepth 100000 in
theorem obK_eq : pieceE Try.prog srtΓ 20 60 noL 33 (pK ++ [0]) hdK = some obK := by kernel_rfl
def es1 : List E := [.romI (.var 0) (.add (.var 1) (.mul (.var 4) (.lit 16))) 0, .romI (.var 0) (.add (.var 1) (.mul (.var 4) (.lit 16))) 1, .romI (.var 0) (.add (.var 1) (.mul (.var 4) (.lit 16))) 2, .romI (.var 0) (.add (.var 1) (.mul (.var 4) (.lit 16))) 3, .romI (.var 0) (.add (.var 1) (.mul (.var 4) (.lit 16))) 4, .romI (.var 0) (.add (.var 1) (.mul (.var 4) (.lit 16))) 5, .romI (.var 0) (.add (.var 1) (.mul (.var 4) (.lit 16))) 6, .romI (.var 0) (.add (.var 1) (.mul (.var 4) (.lit 16))) 7, .romI (.var 0) (.add (.var 1) (.mul (.var 4) (.lit 16))) 8, .romI (.var 0) (.add (.var 1) (.mul (.var 4) (.lit 16))) 9, .romI (.var 0) (.add (.var 1) (.mul (.var 4) (.lit 16))) 10, .romI (.var 0) (.add (.var 1) (.mul (.var 4) (.lit 16))) 11, .romI (.var 0) (.add (.var 1) (.mul (.var 4) (.lit 16))) 12, .romI (.var 0) (.add (.var 1) (.mul (.var 4) (.lit 16))) 13, .romI (.var 0) (.add (.var 1) (.mul (.var 4) (.lit 16))) 14, .romI (.var 0) (.add (.var 1) (.mul (.var 4) (.lit 16))) 15, .romI (.var 0) (.add (.var 1) (.mul (.wrap .i64 (.add (.var 4) (.lit 1))) (.lit 16))) 0, .romI (.var 0) (.add (.var 1) (.mul (.wrap .i64 (.add (.var 4) (.lit 1))) (.lit 16))) 1, .romI (.var 0) (.add (.var 1) (.mul (.wrap .i64 (.add (.var 4) (.lit 1))) (.lit 16))) 2, .romI (.var 0) (.add (.var 1) (.mul (.wrap .i64 (.add (.var 4) (.lit 1))) (.lit 16))) 3, .romI (.var 0) (.add (.var 1) (.mul (.wrap .i64 (.add (.var 4) (.lit 1))) (.lit 16))) 4, .romI (.var 0) (.add (.var 1) (.mul (.wrap .i64 (.add (.var 4) (.lit 1))) (.lit 16))) 5, .romI (.var 0) (.add (.var 1) (.mul (.wrap .i64 (.add (.var 4) (.lit 1))) (.lit 16))) 6, .romI (.var 0) (.add (.var 1) (.mul (.wrap .i64 (.add (.var 4) (.lit 1))) (.lit 16))) 7, .romI (.var 0) (.add (.var 1) (.mul (.wrap .i64 (.add (.var 4) (.lit 1))) (.lit 16))) 8, .romI (.var 0) (.add (.var 1) (.mul (.wrap .i64 (.add (.var 4) (.lit 1))) (.lit 16))) 9, .romI (.var 0) (.add (.var 1) (.mul (.wrap .i64 (.add (.var 4) (.lit 1))) (.lit 16))) 10, .romI (.var 0) (.add (.var 1) (.mul (.wrap .i64 (.add (.var 4) (.lit 1))) (.lit 16))) 11, .romI (.var 0) (.add (.var 1) (.mul (.wrap .i64 (.add (.var 4) (.lit 1))) (.lit 16))) 12, .romI (.var 0) (.add (.var 1) (.mul (.wrap .i64 (.add (.var 4) (.lit 1))) (.lit 16))) 13, .romI (.var 0) (.add (.var 1) (.mul (.wrap .i64 (.add (.var 4) (.lit 1))) (.lit 16))) 14, .romI (.var 0) (.add (.var 1) (.mul (.wrap .i64 (.add (.var 4) (.lit 1))) (.lit 16))) 15]
def r1 (ρ : Env) : Env := setVars lexF 1 es1 5 ρ
theorem evK_run (ρ : Env) : evK.run ρ = r1 ρ := rfl
def pt (ρ : Env) : Pt := ⟨ρ.i, ρ.b⟩
structure IK (ρ : Env) : Prop where
  n : TokN (pt ρ) ρ.w
  i : 0 ≤ ρ.i 4 ∧ ρ.i 4 ≤ 4611686018427387905
  so : ∀ k, 0 ≤ k → k < ρ.i 4 → k + 1 < ρ.i 2 → lex (tokAt ρ.w (ρ.i 0) (ρ.i 1) k) (tokAt ρ.w (ρ.i 0) (ρ.i 1) (k + 1)) < 0
theorem low (ρ : Env) : Agree 5 ρ (r1 ρ) := setVars_agree _ _ _ _ _
/-- The pair at hand. -/
def at_ (ρ : Env) : Int := ρ.i 4
theorem wrap_at {ρ : Env} (hI : IK ρ) (h : at_ ρ + 1 < ρ.i 2) : IntKind.i64.wrap (ρ.i 4 + 1) = at_ ρ + 1 := IntWalk.i64_in _ (by have := hI.i; have := hI.n.len; simp only [pt, at_] at *; omega)
def LK : LoopSum := { n0 := 4, hd := hdK, ob := obK, s := sK, rest := restK, A := AK, I := IK, μ := fun ρ => (ρ.i 2 + 2 - ρ.i 4).toNat, lbl := 9 }
def A0K : List As := [⟨4, false, .lit 0⟩]
noncomputable def ΛK : Loops := fun q st => if q = pK then LK.run st else none
set_option maxRecDepth 100000 in
theorem fnE : funP Try.prog srtΓ 20 60 ΛK 33 [.sv (.one (.rsl (.var 0) (.var 1) (.var 2) (.var 3)))] 4 = some (.sv (.one (.bool (.not (.and (.lt (.wrap .i64 (.add (.var 4) (.lit 1))) (.var 2)) (.not (.bvar 5)))))), .p 9 (fun _ ρ => LK.I (assign ρ A0K)) [], .x 9 (fun _ _ ρ => LK.ob.env.run (LK.last (LK.μ (assign ρ A0K)) (assign ρ A0K))) [] 0) := by kernel_rfl
theorem pair {ρ : Env} (hI : IK ρ) (h : at_ ρ + 1 < ρ.i 2) : ((r1 ρ).b 5 = true) = (lex (tokAt ρ.w (ρ.i 0) (ρ.i 1) (at_ ρ)) (tokAt ρ.w (ρ.i 0) (ρ.i 1) (at_ ρ + 1)) < 0) := by
  have e : (r1 ρ).b 5 = decide (lex (tokAt ρ.w (ρ.i 0) (ρ.i 1) (ρ.i 4)) (tokAt ρ.w (ρ.i 0) (ρ.i 1) (IntKind.i64.wrap (ρ.i 4 + 1))) < 0) := rfl
  rw [e, wrap_at hI h, decide_eq_true_eq]
  rfl
def retLive : E := .and (.lt (.wrap .i64 (.add (.var 4) (.lit 1))) (.var 2)) (.not (.bvar 5))

theorem ok_of {body b : Code} (hb : bodyOf Try.prog 33 = some body) (hc : codeAt body pK = some (.loop b)) : LK.OK Try.prog b where
  body := pieceE_ok srtΓ_ok hb (noL_ok _ _) obK_eq (by rw [codeAt_append pK body _ [0] hc]; simp [codeAt])
  split := by kernel_rfl
  back := by kernel_rfl
  nv := by decide
  live := rfl
  inv := fun ρ hI => by
    have hI : IK ρ := hI
    have hi := hI.i
    have y : 0 ≤ ρ.i 1 := hI.n.y
    have len : 0 ≤ ρ.i 2 ∧ ρ.i 2 ≤ 4611686018427387904 := hI.n.len
    have blk : 0 < ρ.i 2 → 0 ≤ ρ.i 0 := hI.n.blk
    have W0 : at_ ρ + 1 < ρ.i 2 → IntKind.i64.wrap (ρ.i 4 + 1) = at_ ρ + 1 := wrap_at hI
    have ea : at_ ρ = ρ.i 4 := rfl
    have gd : IntKind.i64.wrap (ρ.i 4 + 1) < ρ.i 2 → at_ ρ + 1 < ρ.i 2 := fun h => by have : IntKind.i64.wrap (ρ.i 4 + 1) = ρ.i 4 + 1 := IntWalk.i64_in _ (by omega); omega
    refine ⟨?_, fun hl => ?_⟩
    · show ndK.holds ρ
      simp only [ndK, Nd.holds, bT_le, bT_lt, bT_and, bT_romIs, iev_lit, iev_var, iev_add, iev_sub, iev_wrap, iev_mul]
      refine ⟨len.1, fun h => ?_⟩
      have hg := gd h
      have A := fun j hj => (hI.n.at_ (at_ ρ) (by omega) (by show at_ ρ < ρ.i 2; omega) j hj).2
      have B := fun j hj => (hI.n.at_ (at_ ρ + 1) (by omega) (by show at_ ρ + 1 < ρ.i 2; omega) j hj).2
      have r0 := hI.n.row (i := at_ ρ) (by omega) (by show at_ ρ < ρ.i 2; omega)
      have r1 := hI.n.row (i := at_ ρ + 1) (by omega) (by show at_ ρ + 1 < ρ.i 2; omega)
      have b0 := blk (by omega)
      have w0 := W0 hg
      rw [w0]
      exact ⟨⟨b0, y, by omega, by omega⟩, ⟨by omega, r0⟩, ⟨b0, y, by omega, by omega⟩, ⟨by omega, r1⟩⟩
    · have hl : bev (evK.run ρ) sK.live = true := hl
      rw [evK_run] at hl
      have v := pair hI
      have e4 : (r1 ρ).i 4 = ρ.i 4 := (low ρ).i 4 (by decide)
      have e2 : (r1 ρ).i 2 = ρ.i 2 := (low ρ).i 2 (by decide)
      simp only [sK, bT_and, bT_not, bT_lt, bT_le, bT_bvar, iev_var, iev_lit, iev_wrap, iev_add, e4, e2] at hl
      obtain ⟨h1, h2⟩ := hl
      have hg := gd h1
      have v := v hg
      have n4 : (LK.next ρ).i 4 = ρ.i 4 + 1 := by
        have : (LK.next ρ).i 4 = IntKind.i64.wrap ((r1 ρ).i 4 + 1) := rfl
        rw [this, e4]; exact IntWalk.i64_in _ (by omega)
      have n2 : (LK.next ρ).i 2 = ρ.i 2 := e2
      refine ⟨⟨⟨y, len, blk, hI.n.at_⟩, by rw [n4]; omega, fun k h0 hk hk2 => ?_⟩, ?_⟩
      · rw [n4] at hk
        rcases Int.lt_or_le k (at_ ρ) with hlt | hge
        · exact hI.so k h0 (by omega) hk2
        · have : k = at_ ρ := by omega
          subst this
          rw [v] at h2; exact h2
      · show ((LK.next ρ).i 2 + 2 - (LK.next ρ).i 4).toNat < (ρ.i 2 + 2 - ρ.i 4).toNat
        rw [n4, n2]; omega

theorem loops_ok {body : Code} (hb : bodyOf Try.prog 33 = some body) : LoopsOK Try.prog body ΛK := by
  intro p st o b hc h
  unfold ΛK at h
  split at h
  · rename_i hp; subst hp
    exact LoopSum.run_ok (ok_of hb hc) h
  · cases h

theorem sorted (p : Pt) (W w : World) (hr : ∀ (k : Nat) (o : Obj), W.heap[k]? = some o → w.heap[k]? = some o) (hN : TokN p W) :
    Calls Try.prog 33 (swVals p 0 [.one .sl]).toArray w fun e w' => e = .returned (resVal (sortedF p W) [.one .bool]) ∧ RowKit.Below w.heap.size w w' := by
  obtain ⟨body, hb⟩ : ∃ body, bodyOf Try.prog 33 = some body := by
    cases h : bodyOf Try.prog 33 with
    | none => exact absurd h (by unfold bodyOf; rw [Try.func33]; simp [Try.f33])
    | some b => exact ⟨b, rfl⟩
  obtain ⟨b, hcl⟩ : ∃ b, codeAt body pK = some (.loop b) := by
    have h : ((bodyOf Try.prog 33).bind fun c => codeAt c pK).any (fun c => match c with | .loop _ => true | _ => false) = true := by kernel_rfl
    rw [hb, Option.bind_some] at h
    cases hq : codeAt body pK with
    | none => rw [hq] at h; cases h
    | some c => rw [hq] at h; cases c <;> first | exact ⟨_, rfl⟩ | cases h
  have hI0 : IK (assign ⟨p.i, p.b, W⟩ A0K) := ⟨⟨hN.y, hN.len, hN.blk, hN.at_⟩, by show 0 ≤ (0 : Int) ∧ (0 : Int) ≤ _; omega, fun k h0 hk => by have : k < 0 := hk; omega⟩
  have key := funP_sound srtΓ_ok hb (loops_ok hb) fnE id ⟨p.i, p.b, W⟩ w hr hI0
  refine key.2.mono fun e w' ⟨he, hbl⟩ => ⟨?_, hbl⟩
  rw [he]
  have OK := ok_of hb hcl
  obtain ⟨hI, ag⟩ := OK.last_inv (LK.μ (assign ⟨p.i, p.b, W⟩ A0K)) _ hI0
  have dead := OK.last_dead (LK.μ (assign ⟨p.i, p.b, W⟩ A0K)) _ hI0 (Nat.le_refl _)
  refine congrArg (fun b => Ending.returned (Value.bool b)) ?_
  show bev (evK.run (LK.last (LK.μ (assign ⟨p.i, p.b, W⟩ A0K)) (assign ⟨p.i, p.b, W⟩ A0K))) (.not retLive) = (sortedF p W).b 0
  generalize LK.last (LK.μ (assign ⟨p.i, p.b, W⟩ A0K)) (assign ⟨p.i, p.b, W⟩ A0K) = σ at *
  have hI : IK σ := hI
  have dead : ¬ bev (evK.run σ) sK.live = true := by rw [show bev (evK.run σ) sK.live = false from dead]; decide
  rw [evK_run] at dead ⊢
  have v := pair hI
  have e4 : (r1 σ).i 4 = σ.i 4 := (low σ).i 4 (by decide)
  have e2 : (r1 σ).i 2 = p.i 2 := ((low σ).i 2 (by decide)).trans (ag.i 2 (by decide))
  have s0 : σ.i 0 = p.i 0 := ag.i 0 (by decide)
  have s1 : σ.i 1 = p.i 1 := ag.i 1 (by decide)
  have s2 : σ.i 2 = p.i 2 := ag.i 2 (by decide)
  have sw : σ.w = W := ag.w
  have hi := hI.i
  have len : 0 ≤ p.i 2 ∧ p.i 2 ≤ 4611686018427387904 := hN.len
  have ea : at_ σ = σ.i 4 := rfl
  have so := hI.so
  rw [s0, s1, s2, sw] at so
  rw [s0, s1, s2, sw] at v
  have W0 : IntKind.i64.wrap (σ.i 4 + 1) = σ.i 4 + 1 := IntWalk.i64_in _ (by omega)
  rw [Bool.eq_iff_iff, show ((sortedF p W).b 0 = true) = SortedAt W (p.i 0) (p.i 1) (p.i 2) by simp [sortedF]]
  simp only [retLive, sK, bT_and, bT_not, bT_lt, bT_le, bT_bvar, iev_var, iev_lit, iev_wrap, iev_add, e4, e2, W0] at dead ⊢
  by_cases hlt : at_ σ + 1 < p.i 2
  · have v := v hlt
    have h5 : ¬ lex (tokAt W (p.i 0) (p.i 1) (at_ σ)) (tokAt W (p.i 0) (p.i 1) (at_ σ + 1)) < 0 := fun h => dead ⟨by omega, by rw [v]; exact h⟩
    refine ⟨fun h => absurd ⟨by omega, by rw [v]; exact h5⟩ h, fun h => absurd (h (at_ σ) (by omega) hlt) h5⟩
  · refine ⟨fun _ k h0 hk => so k h0 (by omega) hk, fun _ h => ?_⟩
    have := h.1
    omega
end R

noncomputable def sortedS : Summ := flatW 10 31 [.one .sl] [.one .bool] TokN sortedF
noncomputable def refSortedS : Summ := flatW 11 33 [.one .sl] [.one .bool] TokN sortedF
theorem sortedS_ok : SummOK Try.prog sortedS := flatW_ok fun p W w hr hN => K.sorted p W w hr hN
theorem refSortedS_ok : SummOK Try.prog refSortedS := flatW_ok fun p W w hr hN => R.sorted p W w hr hN
end Go.Proofs.Ytnlejejjeilpoaa
