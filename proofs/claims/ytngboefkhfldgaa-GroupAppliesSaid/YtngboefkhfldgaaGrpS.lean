/- Layer 17: the group's functions' contracts, as they are told to the executor. No condition. -/
import Derived.Test.YtngboefkhfldgaaExC
import Derived.Test.YtngboefkhfldgaaGrpL
import Derived.Test.YtngboefkhfldgaaGrp2
set_option linter.unusedSimpArgs false
set_option linter.unusedVariables false
set_option linter.constructorNameAsVariable false
namespace Go.Proofs.Ytngboefkhfldgaa
open Go Go.Ex Go.RowKit

def gk : List Kd := [.int .i64, .int .i64, .bool, .bool, .bool, .bool, .bool, .bool, .bool, .bool, .bool, .bool, .bool, .bool, .int .u64, .int .u64, .int .u64, .int .u64, .int .u64, .int .u64, .int .i64]

/-- The group whose numbers and bools begin at j. -/
def gOf (p : Pt) (j : Nat) : Grp := ⟨p.i j, p.i (j + 1), p.i (j + 20), fun k => decide (k < 6) && p.b (j + 2 + k), fun k => decide (k < 6) && p.b (j + 8 + k), fun k => if k < 6 then p.i (j + 14 + k) else 0⟩
def gPt (g : Grp) : Pt where
  i := fun j => match j with | 0 => g.owner | 1 => g.epoch | 14 => g.cut 0 | 15 => g.cut 1 | 16 => g.cut 2 | 17 => g.cut 3 | 18 => g.cut 4 | 19 => g.cut 5 | 20 => g.seen | _ => 0
  b := fun j => match j with | 2 => g.mem 0 | 3 => g.mem 1 | 4 => g.mem 2 | 5 => g.mem 3 | 6 => g.mem 4 | 7 => g.mem 5 | 8 => g.gone 0 | 9 => g.gone 1 | 10 => g.gone 2 | 11 => g.gone 3 | 12 => g.gone 4 | 13 => g.gone 5 | _ => false

def isF : Pt → Pt := fun p => ⟨fun _ => 0, fun _ => at6 (gOf p 0).mem (p.i 21)⟩
def mayF : Pt → Pt := fun p => ⟨fun _ => mayOf (gOf p 0) (p.i 21) (p.i 22) (p.i 23), fun _ => false⟩
def behindF : Pt → Pt := fun p => gPt (behind (gOf p 0) (p.i 21) (p.i 22) (p.i 23) (p.i 24))
def countsF : Pt → Pt := fun p => ⟨fun _ => 0, fun _ => counts (gOf p 0) (p.i 21) (p.i 22)⟩

def si : Sh := .one (.int .i64)
def su : Sh := .one (.int .u64)
def isS : Summ := flat 1 11 [.agg gk, si] [.one .bool] none isF
def mayS : Summ := flat 2 9 [.agg gk, si, si, si] [si] none mayF
def behindS : Summ := flat 3 10 [.agg gk, si, si, si, su] [.agg gk] none behindF
def countsS : Summ := flat 4 12 [.agg gk, si, su] [.one .bool] none countsF

theorem isS_ok : SummOK Try.prog isS := flat_ok fun p w _ => Is_any (gOf p 0) (p.i 21) w
theorem mayS_ok : SummOK Try.prog mayS := flat_ok fun p w _ => May_any (gOf p 0) (p.i 21) (p.i 22) (p.i 23) w
theorem behindS_ok : SummOK Try.prog behindS := flat_ok fun p w _ => Behind_any (gOf p 0) (p.i 21) (p.i 22) (p.i 23) (p.i 24) w
theorem countsS_ok : SummOK Try.prog countsS := flat_ok fun p w _ => Counts_any (gOf p 0) (p.i 21) (p.i 22) w

set_option maxRecDepth 100000 in
theorem awake17 : funE Try.prog [] 20 60 8 [] 0 = some (TB .tt, .tt, .id) := by kernel_rfl
def awakeS : Summ := yes 8
theorem awakeS_ok : SummOK Try.prog awakeS := yes_ok fun w => funE_sound (fun s hs => by cases hs) awake17 id ⟨fun _ => 0, fun _ => false, w⟩ w (fun _ _ h => h) trivial

def grpΓ : List Summ := [awakeS, isS, mayS, behindS, countsS]
theorem grpΓ_ok : ∀ s ∈ grpΓ, SummOK Try.prog s := by
  intro s hs
  simp only [grpΓ, List.mem_cons, List.not_mem_nil, or_false] at hs
  rcases hs with rfl | rfl | rfl | rfl | rfl
  · exact awakeS_ok
  · exact isS_ok
  · exact mayS_ok
  · exact behindS_ok
  · exact countsS_ok
end Go.Proofs.Ytngboefkhfldgaa
