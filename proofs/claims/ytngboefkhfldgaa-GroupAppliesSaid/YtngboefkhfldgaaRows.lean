/-
  No cell of these rows narrows 'for every input' (looked for: loops, veiled, ifaces, maps, wideKeys, modest, calm, conditions, laid).
  DERIVED. THE GIVEN ROWS OF THIS SEAT. 5 by the template 'for every input the law returns true; each argument reads behind the call as it read before'; 0 by the template 'total and deterministic' (their statements: YtngboefkhfldgaaTotals.lean).
  GIVEN WITH THE SEED: the statements are not yours to turn. If you find one false, say at which input.
  Laid BY PROGRAM, IN A SANDBOX (cutbox-rows.mjs): the forced cells as the released guide's own fill.sh prints them over the translation 6c0cb826da61d9fa… (all of the seat's roots in one cut). By AI agents, Wed Nov 11 2026. No macro, syntax, notation, axiom, sorry.
-/
import Derived.Test.YtngboefkhfldgaaChecked
import GoSem.Claim
import GoSem.ClaimJoined
import GoSem.ClaimMapViews
import Derived.JoinedTies
import Derived.KernelRfl
namespace Go.Proofs.Ytngboefkhfldgaa
/- THE CELL 'sum', in the pinned program and in every row, IS THE sha256 OF THE DUMP (.gsa) THAT YtngboefkhfldgaaProg.lean LOADS. Nothing in Lean hashes anything: it is a label: what it is worth is what the hold of that sum in a sandbox is worth. -/
noncomputable def Try.pinned : Pinned := { name := "ytngboefkhfldgaa", sum := "6c0cb826da61d9fa58312fb1609c9ac88b3b747684220464f17f3d116dba8533", checked := Try.checked }
namespace Rows
def none {H : Type} : Left H := { results := [], args := [] }

/-- 'jalousielaw17.GroupKeeps': WHATEVER THE INPUT: true; the input reads as it did. -/
def groupKeepsSpec : ChangeSpec := { name := "groupKeeps", fn := fun _ => fun
  | [d] => { results := [.lit (.bool true)], args := [d] }
  | _ => none }
def groupKeepsRow : OpenClaim := { program := "ytngboefkhfldgaa", sum := "6c0cb826da61d9fa58312fb1609c9ac88b3b747684220464f17f3d116dba8533", func := "jalousie/jalousielaw17.GroupKeeps", spec := "groupKeeps", apart := false }
def GroupKeepsSaid : Prop := groupKeepsRow.holds Try.pinned (OpenSpec.ofChange groupKeepsSpec)

/-- ITS FALSE NEIGHBOUR: 'it returns false'. Refute it at one input. -/
def groupKeepsWrong : ChangeSpec := { name := "groupKeeps", fn := fun _ => fun
  | [d] => { results := [.lit (.bool false)], args := [d] }
  | _ => none }
def GroupKeepsWrongFalsely : Prop := groupKeepsRow.holds Try.pinned (OpenSpec.ofChange groupKeepsWrong)

/-- 'jalousielaw17.GroupCounts': WHATEVER THE INPUT: true; the input reads as it did. -/
def groupCountsSpec : ChangeSpec := { name := "groupCounts", fn := fun _ => fun
  | [d1, d2] => { results := [.lit (.bool true)], args := [d1, d2] }
  | _ => none }
def groupCountsRow : OpenClaim := { program := "ytngboefkhfldgaa", sum := "6c0cb826da61d9fa58312fb1609c9ac88b3b747684220464f17f3d116dba8533", func := "jalousie/jalousielaw17.GroupCounts", spec := "groupCounts", apart := false }
def GroupCountsSaid : Prop := groupCountsRow.holds Try.pinned (OpenSpec.ofChange groupCountsSpec)

/-- ITS FALSE NEIGHBOUR: 'it returns false'. Refute it at one input. -/
def groupCountsWrong : ChangeSpec := { name := "groupCounts", fn := fun _ => fun
  | [d1, d2] => { results := [.lit (.bool false)], args := [d1, d2] }
  | _ => none }
def GroupCountsWrongFalsely : Prop := groupCountsRow.holds Try.pinned (OpenSpec.ofChange groupCountsWrong)

/-- 'jalousielaw17.GroupOps': WHATEVER THE INPUT: true; the input reads as it did. -/
def groupOpsSpec : ChangeSpec := { name := "groupOps", fn := fun _ => fun
  | [d1, d2] => { results := [.lit (.bool true)], args := [d1, d2] }
  | _ => none }
def groupOpsRow : OpenClaim := { program := "ytngboefkhfldgaa", sum := "6c0cb826da61d9fa58312fb1609c9ac88b3b747684220464f17f3d116dba8533", func := "jalousie/jalousielaw17.GroupOps", spec := "groupOps", apart := false }
def GroupOpsSaid : Prop := groupOpsRow.holds Try.pinned (OpenSpec.ofChange groupOpsSpec)

/-- ITS FALSE NEIGHBOUR: 'it returns false'. Refute it at one input. -/
def groupOpsWrong : ChangeSpec := { name := "groupOps", fn := fun _ => fun
  | [d1, d2] => { results := [.lit (.bool false)], args := [d1, d2] }
  | _ => none }
def GroupOpsWrongFalsely : Prop := groupOpsRow.holds Try.pinned (OpenSpec.ofChange groupOpsWrong)

/-- 'jalousielaw17.GroupApplies': WHATEVER THE INPUT: true; the input reads as it did. -/
def groupAppliesSpec : ChangeSpec := { name := "groupApplies", fn := fun _ => fun
  | [d1, d2, d3] => { results := [.lit (.bool true)], args := [d1, d2, d3] }
  | _ => none }
def groupAppliesRow : OpenClaim := { program := "ytngboefkhfldgaa", sum := "6c0cb826da61d9fa58312fb1609c9ac88b3b747684220464f17f3d116dba8533", func := "jalousie/jalousielaw17.GroupApplies", spec := "groupApplies", inPlace := ["internal/bytealg.Compare"], apart := false }
def GroupAppliesSaid : Prop := groupAppliesRow.holds Try.pinned (OpenSpec.ofChange groupAppliesSpec)

/-- ITS FALSE NEIGHBOUR: 'it returns false'. Refute it at one input. -/
def groupAppliesWrong : ChangeSpec := { name := "groupApplies", fn := fun _ => fun
  | [d1, d2, d3] => { results := [.lit (.bool false)], args := [d1, d2, d3] }
  | _ => none }
def GroupAppliesWrongFalsely : Prop := groupAppliesRow.holds Try.pinned (OpenSpec.ofChange groupAppliesWrong)

/-- 'jalousielaw17.GroupFolds': WHATEVER THE INPUT: true; the input reads as it did. -/
def groupFoldsSpec : ChangeSpec := { name := "groupFolds", fn := fun _ => fun
  | [d1, d2] => { results := [.lit (.bool true)], args := [d1, d2] }
  | _ => none }
def groupFoldsRow : OpenClaim := { program := "ytngboefkhfldgaa", sum := "6c0cb826da61d9fa58312fb1609c9ac88b3b747684220464f17f3d116dba8533", func := "jalousie/jalousielaw17.GroupFolds", spec := "groupFolds", inPlace := ["internal/bytealg.Compare"], apart := false }
def GroupFoldsSaid : Prop := groupFoldsRow.holds Try.pinned (OpenSpec.ofChange groupFoldsSpec)

/-- ITS FALSE NEIGHBOUR: 'it returns false'. Refute it at one input. -/
def groupFoldsWrong : ChangeSpec := { name := "groupFolds", fn := fun _ => fun
  | [d1, d2] => { results := [.lit (.bool false)], args := [d1, d2] }
  | _ => none }
def GroupFoldsWrongFalsely : Prop := groupFoldsRow.holds Try.pinned (OpenSpec.ofChange groupFoldsWrong)

/- THE SECOND FORM. 'bulk': how many values and letters a reading holds, each counted each time it is reached (what is shared counts as often as it is met; a slice's spare places count too). A statement '..UptoSaid' is the law's where the arguments, and the package variables that the reading takes, are together of bulk at most 1048576: NARROWER than '..Said'. Prove '..Said' where nothing that the law and all that it calls make is longer than what came in: it says more and counts as full. Else prove '..UptoSaid'. A law counts once. -/
mutual
def uptoBulk {H : Type} : DataW H → Nat
  | .lit (.string bytes) => bytes.length + 1
  | .lit _ => 1
  | .nil => 1
  | .ptr d => uptoBulk d + 1
  | .slice elems spare => uptoBulkAll elems + uptoBulkAll spare + 1
  | .agg parts => uptoBulkAll parts + 1
  | .iface _ d => uptoBulk d + 1
  | .map entries => uptoBulkEntries entries + 1
  | .held _ => 1
def uptoBulkAll {H : Type} : List (DataW H) → Nat
  | [] => 0
  | d :: r => uptoBulk d + uptoBulkAll r
def uptoBulkEntries {H : Type} : List (Lit × DataW H) → Nat
  | [] => 0
  | x :: r => uptoBulkEntry x + uptoBulkEntries r
def uptoBulkEntry {H : Type} : Lit × DataW H → Nat
  | (.string bytes, d) => bytes.length + uptoBulk d + 1
  | (_, d) => uptoBulk d + 1
 end
def uptoSmall : (H : Type) → List (DataW H) → Bool := fun _ ds => decide (uptoBulkAll ds ≤ 1048576)
def OpenSpec.upto (s : _root_.Go.ChangeSpec) : _root_.Go.OpenSpec := { _root_.Go.OpenSpec.ofChange s with cond := some uptoSmall }

/-- 'jalousielaw17.GroupKeeps', WHERE WHAT IT READS IS OF BULK AT MOST 1048576: true; the input reads as it did. -/
def groupKeepsUptoRow : OpenClaim := { program := "ytngboefkhfldgaa", sum := "6c0cb826da61d9fa58312fb1609c9ac88b3b747684220464f17f3d116dba8533", func := "jalousie/jalousielaw17.GroupKeeps", spec := "groupKeeps", apart := false, narrowed := true }
def GroupKeepsUptoSaid : Prop := groupKeepsUptoRow.holds Try.pinned (OpenSpec.upto groupKeepsSpec)

/-- 'jalousielaw17.GroupCounts', WHERE WHAT IT READS IS OF BULK AT MOST 1048576: true; the input reads as it did. -/
def groupCountsUptoRow : OpenClaim := { program := "ytngboefkhfldgaa", sum := "6c0cb826da61d9fa58312fb1609c9ac88b3b747684220464f17f3d116dba8533", func := "jalousie/jalousielaw17.GroupCounts", spec := "groupCounts", apart := false, narrowed := true }
def GroupCountsUptoSaid : Prop := groupCountsUptoRow.holds Try.pinned (OpenSpec.upto groupCountsSpec)

/-- 'jalousielaw17.GroupOps', WHERE WHAT IT READS IS OF BULK AT MOST 1048576: true; the input reads as it did. -/
def groupOpsUptoRow : OpenClaim := { program := "ytngboefkhfldgaa", sum := "6c0cb826da61d9fa58312fb1609c9ac88b3b747684220464f17f3d116dba8533", func := "jalousie/jalousielaw17.GroupOps", spec := "groupOps", apart := false, narrowed := true }
def GroupOpsUptoSaid : Prop := groupOpsUptoRow.holds Try.pinned (OpenSpec.upto groupOpsSpec)

/-- 'jalousielaw17.GroupApplies', WHERE WHAT IT READS IS OF BULK AT MOST 1048576: true; the input reads as it did. -/
def groupAppliesUptoRow : OpenClaim := { program := "ytngboefkhfldgaa", sum := "6c0cb826da61d9fa58312fb1609c9ac88b3b747684220464f17f3d116dba8533", func := "jalousie/jalousielaw17.GroupApplies", spec := "groupApplies", inPlace := ["internal/bytealg.Compare"], apart := false, narrowed := true }
def GroupAppliesUptoSaid : Prop := groupAppliesUptoRow.holds Try.pinned (OpenSpec.upto groupAppliesSpec)

/-- 'jalousielaw17.GroupFolds', WHERE WHAT IT READS IS OF BULK AT MOST 1048576: true; the input reads as it did. -/
def groupFoldsUptoRow : OpenClaim := { program := "ytngboefkhfldgaa", sum := "6c0cb826da61d9fa58312fb1609c9ac88b3b747684220464f17f3d116dba8533", func := "jalousie/jalousielaw17.GroupFolds", spec := "groupFolds", inPlace := ["internal/bytealg.Compare"], apart := false, narrowed := true }
def GroupFoldsUptoSaid : Prop := groupFoldsUptoRow.holds Try.pinned (OpenSpec.upto groupFoldsSpec)

end Rows
end Go.Proofs.Ytngboefkhfldgaa
