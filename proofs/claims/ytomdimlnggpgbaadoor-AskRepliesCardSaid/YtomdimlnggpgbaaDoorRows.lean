/-
  NARROWER THAN 'FOR EVERY INPUT', by the rows' own cells (each row's printed sentence says how): StoreGrows: laid · StoreOpens: laid · StoreAny: laid · AskTold: laid · AskReplies: laid.
  DERIVED. THE GIVEN ROWS OF THIS SEAT. 5 by the template 'for every input the law returns true; each argument reads behind the call as it read before'; 0 by the template 'total and deterministic' (their statements: YtomdimlnggpgbaaDoorTotals.lean).
  GIVEN WITH THE SEED: the statements are not yours to turn. If you find one false, say at which input.
  Laid BY PROGRAM, IN A SANDBOX (cutbox-rows.mjs): the forced cells as the released guide's own fill.sh prints them over the translation bfbad333f39d582e… (all of the seat's roots in one cut). By AI agents, Wed Nov 11 2026. No macro, syntax, notation, axiom, sorry.
-/
import Derived.Test.YtomdimlnggpgbaaDoorChecked
import GoSem.PinnedTables
import GoSem.Claim
import GoSem.ClaimJoined
import GoSem.ClaimMapViews
import Derived.JoinedTies
import Derived.KernelRfl
namespace Go.Proofs.YtomdimlnggpgbaaDoor
/- THE CELL 'sum', in the pinned program and in every row, IS THE sha256 OF THE DUMP (.gsa) THAT YtomdimlnggpgbaaDoorProg.lean LOADS. Nothing in Lean hashes anything: it is a label: what it is worth is what the hold of that sum in a sandbox is worth. -/
noncomputable def Tryd.pinned : Pinned := { name := "ytomdimlnggpgbaadoor", sum := "bfbad333f39d582ef267cc46e73751f0dfd12c9aec00d6b390e9cde33e3f70f1", checked := Tryd.checked }
namespace Rows
def none {H : Type} : Left H := { results := [], args := [] }

/- WHAT THE LISTED PACKAGE-LEVEL VARIABLES READ AS WHEN THE CALL BEGINS. Each datum BY PROGRAM (the guide's laid-datum.mjs) off the statement by which the dump's own 'gosem.cut.vars' lays the variable. In a bare row this is a premise. The card (YtomdimlnggpgbaaDoorCards.lean) ties it to the program's text. -/
def laid_jalousie_store_errLost {H : Type} : DataW H := .iface "*errors.errorString" (.ptr (.agg [.lit (.string [116, 104, 101, 32, 112, 111, 119, 101, 114, 32, 105, 115, 32, 103, 111, 110, 101])]))
def laid_jalousie_store_errFull {H : Type} : DataW H := .iface "*errors.errorString" (.ptr (.agg [.lit (.string [110, 111, 32, 114, 111, 111, 109])]))
def laid_jalousie_store_errSpent {H : Type} : DataW H := .iface "*errors.errorString" (.ptr (.agg [.lit (.string [110, 111, 32, 110, 117, 109, 98, 101, 114, 32, 105, 115, 32, 108, 101, 102, 116])]))
def laid_unicode_utf8_acceptRanges {H : Type} : DataW H := .agg [.agg [.lit (.int .u8 128), .lit (.int .u8 191)], .agg [.lit (.int .u8 160), .lit (.int .u8 191)], .agg [.lit (.int .u8 128), .lit (.int .u8 159)], .agg [.lit (.int .u8 144), .lit (.int .u8 191)], .agg [.lit (.int .u8 128), .lit (.int .u8 143)], .agg [.lit (.int .u8 0), .lit (.int .u8 0)], .agg [.lit (.int .u8 0), .lit (.int .u8 0)], .agg [.lit (.int .u8 0), .lit (.int .u8 0)], .agg [.lit (.int .u8 0), .lit (.int .u8 0)], .agg [.lit (.int .u8 0), .lit (.int .u8 0)], .agg [.lit (.int .u8 0), .lit (.int .u8 0)], .agg [.lit (.int .u8 0), .lit (.int .u8 0)], .agg [.lit (.int .u8 0), .lit (.int .u8 0)], .agg [.lit (.int .u8 0), .lit (.int .u8 0)], .agg [.lit (.int .u8 0), .lit (.int .u8 0)], .agg [.lit (.int .u8 0), .lit (.int .u8 0)]]
/-- One of Go's own tables, pinned by name: the form's constant. -/
def laid_unicode_utf8_first : DataW Unit := Go.Pinned.utf8First

/-- 'jalousielaw09.StoreGrows': WHATEVER THE INPUT: true; the input reads as it did. -/
def storeGrowsSpec : ChangeSpec := { name := "storeGrows", fn := fun _ => fun
  | [d] => { results := [.lit (.bool true)], args := [d] }
  | _ => none }
def storeGrowsRow : OpenClaim := { program := "ytomdimlnggpgbaadoor", sum := "bfbad333f39d582ef267cc46e73751f0dfd12c9aec00d6b390e9cde33e3f70f1", func := "jalousie/jalousielaw09.StoreGrows", spec := "storeGrows", inPlace := ["internal/reflectlite.TypeOf"], unfollowed := true, recurses := true, named := ["jalousie/store.errFull", "jalousie/store.errSpent", "jalousie/store.errLost"], apart := false, laid := [("jalousie/store.errLost", laid_jalousie_store_errLost), ("jalousie/store.errFull", laid_jalousie_store_errFull), ("jalousie/store.errSpent", laid_jalousie_store_errSpent)] }
def StoreGrowsSaid : Prop := storeGrowsRow.holds Tryd.pinned (OpenSpec.ofChange storeGrowsSpec)

/-- ITS FALSE NEIGHBOUR: 'it returns false'. Refute it at one input. -/
def storeGrowsWrong : ChangeSpec := { name := "storeGrows", fn := fun _ => fun
  | [d] => { results := [.lit (.bool false)], args := [d] }
  | _ => none }
def StoreGrowsWrongFalsely : Prop := storeGrowsRow.holds Tryd.pinned (OpenSpec.ofChange storeGrowsWrong)

/-- 'jalousielaw09.StoreOpens': WHATEVER THE INPUT: true; the input reads as it did. -/
def storeOpensSpec : ChangeSpec := { name := "storeOpens", fn := fun _ => fun
  | [d1, d2, d3] => { results := [.lit (.bool true)], args := [d1, d2, d3] }
  | _ => none }
def storeOpensRow : OpenClaim := { program := "ytomdimlnggpgbaadoor", sum := "bfbad333f39d582ef267cc46e73751f0dfd12c9aec00d6b390e9cde33e3f70f1", func := "jalousie/jalousielaw09.StoreOpens", spec := "storeOpens", inPlace := ["internal/reflectlite.TypeOf"], unfollowed := true, recurses := true, named := ["jalousie/store.errFull", "jalousie/store.errSpent", "jalousie/store.errLost"], apart := false, laid := [("jalousie/store.errLost", laid_jalousie_store_errLost), ("jalousie/store.errFull", laid_jalousie_store_errFull), ("jalousie/store.errSpent", laid_jalousie_store_errSpent)] }
def StoreOpensSaid : Prop := storeOpensRow.holds Tryd.pinned (OpenSpec.ofChange storeOpensSpec)

/-- ITS FALSE NEIGHBOUR: 'it returns false'. Refute it at one input. -/
def storeOpensWrong : ChangeSpec := { name := "storeOpens", fn := fun _ => fun
  | [d1, d2, d3] => { results := [.lit (.bool false)], args := [d1, d2, d3] }
  | _ => none }
def StoreOpensWrongFalsely : Prop := storeOpensRow.holds Tryd.pinned (OpenSpec.ofChange storeOpensWrong)

/-- 'jalousielaw09.StoreAny': WHATEVER THE INPUT: true; the input reads as it did. -/
def storeAnySpec : ChangeSpec := { name := "storeAny", fn := fun _ => fun
  | [d] => { results := [.lit (.bool true)], args := [d] }
  | _ => none }
def storeAnyRow : OpenClaim := { program := "ytomdimlnggpgbaadoor", sum := "bfbad333f39d582ef267cc46e73751f0dfd12c9aec00d6b390e9cde33e3f70f1", func := "jalousie/jalousielaw09.StoreAny", spec := "storeAny", inPlace := ["internal/reflectlite.TypeOf"], unfollowed := true, recurses := true, named := ["jalousie/store.errFull", "jalousie/store.errSpent", "jalousie/store.errLost"], apart := false, laid := [("jalousie/store.errLost", laid_jalousie_store_errLost), ("jalousie/store.errFull", laid_jalousie_store_errFull), ("jalousie/store.errSpent", laid_jalousie_store_errSpent)] }
def StoreAnySaid : Prop := storeAnyRow.holds Tryd.pinned (OpenSpec.ofChange storeAnySpec)

/-- ITS FALSE NEIGHBOUR: 'it returns false'. Refute it at one input. -/
def storeAnyWrong : ChangeSpec := { name := "storeAny", fn := fun _ => fun
  | [d] => { results := [.lit (.bool false)], args := [d] }
  | _ => none }
def StoreAnyWrongFalsely : Prop := storeAnyRow.holds Tryd.pinned (OpenSpec.ofChange storeAnyWrong)

/-- 'jalousielaw22.AskTold': WHATEVER THE INPUT: true; the input reads as it did. -/
def askToldSpec : ChangeSpec := { name := "askTold", fn := fun _ => fun
  | [d] => { results := [.lit (.bool true)], args := [d] }
  | _ => none }
def askToldRow : OpenClaim := { program := "ytomdimlnggpgbaadoor", sum := "bfbad333f39d582ef267cc46e73751f0dfd12c9aec00d6b390e9cde33e3f70f1", func := "jalousie/jalousielaw22.AskTold", spec := "askTold", inPlace := ["internal/bytealg.Compare"], unfollowed := true, recurses := true, named := ["unicode/utf8.first", "unicode/utf8.acceptRanges"], apart := false, laid := [("unicode/utf8.acceptRanges", laid_unicode_utf8_acceptRanges), ("unicode/utf8.first", laid_unicode_utf8_first)] }
def AskToldSaid : Prop := askToldRow.holds Tryd.pinned (OpenSpec.ofChange askToldSpec)

/-- ITS FALSE NEIGHBOUR: 'it returns false'. Refute it at one input. -/
def askToldWrong : ChangeSpec := { name := "askTold", fn := fun _ => fun
  | [d] => { results := [.lit (.bool false)], args := [d] }
  | _ => none }
def AskToldWrongFalsely : Prop := askToldRow.holds Tryd.pinned (OpenSpec.ofChange askToldWrong)

/-- 'jalousielaw22.AskReplies': WHATEVER THE INPUT: true; the input reads as it did. -/
def askRepliesSpec : ChangeSpec := { name := "askReplies", fn := fun _ => fun
  | [d] => { results := [.lit (.bool true)], args := [d] }
  | _ => none }
def askRepliesRow : OpenClaim := { program := "ytomdimlnggpgbaadoor", sum := "bfbad333f39d582ef267cc46e73751f0dfd12c9aec00d6b390e9cde33e3f70f1", func := "jalousie/jalousielaw22.AskReplies", spec := "askReplies", inPlace := ["internal/bytealg.Compare"], unfollowed := true, recurses := true, named := ["unicode/utf8.first", "unicode/utf8.acceptRanges"], apart := false, laid := [("unicode/utf8.acceptRanges", laid_unicode_utf8_acceptRanges), ("unicode/utf8.first", laid_unicode_utf8_first)] }
def AskRepliesSaid : Prop := askRepliesRow.holds Tryd.pinned (OpenSpec.ofChange askRepliesSpec)

/-- ITS FALSE NEIGHBOUR: 'it returns false'. Refute it at one input. -/
def askRepliesWrong : ChangeSpec := { name := "askReplies", fn := fun _ => fun
  | [d] => { results := [.lit (.bool false)], args := [d] }
  | _ => none }
def AskRepliesWrongFalsely : Prop := askRepliesRow.holds Tryd.pinned (OpenSpec.ofChange askRepliesWrong)

/- THE SECOND FORM. 'bulk': how many values and letters a reading holds, each counted each time it is reached (what is shared counts as often as it is met; a slice's spare places count too). A statement '..UptoSaid' is the law's where the arguments, and the package variables that the reading takes, are together of bulk at most 1048576: NARROWER than '..Said'. Prove '..Said' where nothing that the law and all that it calls make is longer than what came in: it says more and counts as full. Else prove '..UptoSaid'. A law counts once. -/
mutual
def uptoBulk {H : Type} : DataW H → Nat
  | .lit (.string bytes) => bytes.length + 1
  | .lit _ => 1
  | .nil => 1
  | .ptr d => uptoBulk d + 1
  | .slice elems spare => uptoBulkAll elems + uptoBulkAll spare + 1
  | .agg parts => uptoBulkAll parts + 1
  | .iface _ d => uptoBulk d + 1
  | .map entries => uptoBulkEntries entries + 1
  | .held _ => 1
def uptoBulkAll {H : Type} : List (DataW H) → Nat
  | [] => 0
  | d :: r => uptoBulk d + uptoBulkAll r
def uptoBulkEntries {H : Type} : List (Lit × DataW H) → Nat
  | [] => 0
  | x :: r => uptoBulkEntry x + uptoBulkEntries r
def uptoBulkEntry {H : Type} : Lit × DataW H → Nat
  | (.string bytes, d) => bytes.length + uptoBulk d + 1
  | (_, d) => uptoBulk d + 1
 end
def uptoSmall : (H : Type) → List (DataW H) → Bool := fun _ ds => decide (uptoBulkAll ds ≤ 1048576)
def OpenSpec.upto (s : _root_.Go.ChangeSpec) : _root_.Go.OpenSpec := { _root_.Go.OpenSpec.ofChange s with cond := some uptoSmall }

/-- 'jalousielaw09.StoreGrows', WHERE WHAT IT READS IS OF BULK AT MOST 1048576: true; the input reads as it did. -/
def storeGrowsUptoRow : OpenClaim := { program := "ytomdimlnggpgbaadoor", sum := "bfbad333f39d582ef267cc46e73751f0dfd12c9aec00d6b390e9cde33e3f70f1", func := "jalousie/jalousielaw09.StoreGrows", spec := "storeGrows", inPlace := ["internal/reflectlite.TypeOf"], unfollowed := true, recurses := true, named := ["jalousie/store.errFull", "jalousie/store.errSpent", "jalousie/store.errLost"], apart := false, laid := [("jalousie/store.errLost", laid_jalousie_store_errLost), ("jalousie/store.errFull", laid_jalousie_store_errFull), ("jalousie/store.errSpent", laid_jalousie_store_errSpent)], narrowed := true }
def StoreGrowsUptoSaid : Prop := storeGrowsUptoRow.holds Tryd.pinned (OpenSpec.upto storeGrowsSpec)

/-- 'jalousielaw09.StoreOpens', WHERE WHAT IT READS IS OF BULK AT MOST 1048576: true; the input reads as it did. -/
def storeOpensUptoRow : OpenClaim := { program := "ytomdimlnggpgbaadoor", sum := "bfbad333f39d582ef267cc46e73751f0dfd12c9aec00d6b390e9cde33e3f70f1", func := "jalousie/jalousielaw09.StoreOpens", spec := "storeOpens", inPlace := ["internal/reflectlite.TypeOf"], unfollowed := true, recurses := true, named := ["jalousie/store.errFull", "jalousie/store.errSpent", "jalousie/store.errLost"], apart := false, laid := [("jalousie/store.errLost", laid_jalousie_store_errLost), ("jalousie/store.errFull", laid_jalousie_store_errFull), ("jalousie/store.errSpent", laid_jalousie_store_errSpent)], narrowed := true }
def StoreOpensUptoSaid : Prop := storeOpensUptoRow.holds Tryd.pinned (OpenSpec.upto storeOpensSpec)

/-- 'jalousielaw09.StoreAny', WHERE WHAT IT READS IS OF BULK AT MOST 1048576: true; the input reads as it did. -/
def storeAnyUptoRow : OpenClaim := { program := "ytomdimlnggpgbaadoor", sum := "bfbad333f39d582ef267cc46e73751f0dfd12c9aec00d6b390e9cde33e3f70f1", func := "jalousie/jalousielaw09.StoreAny", spec := "storeAny", inPlace := ["internal/reflectlite.TypeOf"], unfollowed := true, recurses := true, named := ["jalousie/store.errFull", "jalousie/store.errSpent", "jalousie/store.errLost"], apart := false, laid := [("jalousie/store.errLost", laid_jalousie_store_errLost), ("jalousie/store.errFull", laid_jalousie_store_errFull), ("jalousie/store.errSpent", laid_jalousie_store_errSpent)], narrowed := true }
def StoreAnyUptoSaid : Prop := storeAnyUptoRow.holds Tryd.pinned (OpenSpec.upto storeAnySpec)

/-- 'jalousielaw22.AskTold', WHERE WHAT IT READS IS OF BULK AT MOST 1048576: true; the input reads as it did. -/
def askToldUptoRow : OpenClaim := { program := "ytomdimlnggpgbaadoor", sum := "bfbad333f39d582ef267cc46e73751f0dfd12c9aec00d6b390e9cde33e3f70f1", func := "jalousie/jalousielaw22.AskTold", spec := "askTold", inPlace := ["internal/bytealg.Compare"], unfollowed := true, recurses := true, named := ["unicode/utf8.first", "unicode/utf8.acceptRanges"], apart := false, laid := [("unicode/utf8.acceptRanges", laid_unicode_utf8_acceptRanges), ("unicode/utf8.first", laid_unicode_utf8_first)], narrowed := true }
def AskToldUptoSaid : Prop := askToldUptoRow.holds Tryd.pinned (OpenSpec.upto askToldSpec)

/-- 'jalousielaw22.AskReplies', WHERE WHAT IT READS IS OF BULK AT MOST 1048576: true; the input reads as it did. -/
def askRepliesUptoRow : OpenClaim := { program := "ytomdimlnggpgbaadoor", sum := "bfbad333f39d582ef267cc46e73751f0dfd12c9aec00d6b390e9cde33e3f70f1", func := "jalousie/jalousielaw22.AskReplies", spec := "askReplies", inPlace := ["internal/bytealg.Compare"], unfollowed := true, recurses := true, named := ["unicode/utf8.first", "unicode/utf8.acceptRanges"], apart := false, laid := [("unicode/utf8.acceptRanges", laid_unicode_utf8_acceptRanges), ("unicode/utf8.first", laid_unicode_utf8_first)], narrowed := true }
def AskRepliesUptoSaid : Prop := askRepliesUptoRow.holds Tryd.pinned (OpenSpec.upto askRepliesSpec)

end Rows
end Go.Proofs.YtomdimlnggpgbaaDoor
