/-
  NARROWER THAN 'FOR EVERY INPUT', by the rows' own cells (each row's printed sentence says how): StorePlays: laid · StoreCrashes: laid · RelayTwice: laid · RelayOpens: laid · RelayPulls: laid · RelayPlays: laid · RelayCrashes: laid.
  DERIVED. THE GIVEN ROWS OF THIS SEAT. 7 by the template 'for every input the law returns true; each argument reads behind the call as it read before'; 0 by the template 'total and deterministic' (their statements: YtomdimlnggpgbaaGreatDoorTotals.lean).
  GIVEN WITH THE SEED: the statements are not yours to turn. If you find one false, say at which input.
  Laid BY PROGRAM, IN A SANDBOX (cutbox-rows.mjs): the forced cells as the released guide's own fill.sh prints them over the translation f0eb33eae5496211… (all of the seat's roots in one cut). By AI agents, Wed Nov 11 2026. No macro, syntax, notation, axiom, sorry.
-/
import Derived.Test.YtomdimlnggpgbaaGreatDoorChecked
import GoSem.Claim
import GoSem.ClaimJoined
import GoSem.ClaimMapViews
import Derived.JoinedTies
import Derived.KernelRfl
namespace Go.Proofs.YtomdimlnggpgbaaGreatDoor
/- THE CELL 'sum', in the pinned program and in every row, IS THE sha256 OF THE DUMP (.gsa) THAT YtomdimlnggpgbaaGreatDoorProg.lean LOADS. Nothing in Lean hashes anything: it is a label: what it is worth is what the hold of that sum in a sandbox is worth. -/
noncomputable def Tryz.pinned : Pinned := { name := "ytomdimlnggpgbaagreatdoor", sum := "f0eb33eae54962119ce87895161123474d4b3dc3be6e338bbfbf96d423cef711", checked := Tryz.checked }
namespace Rows
def none {H : Type} : Left H := { results := [], args := [] }

/- WHAT THE LISTED PACKAGE-LEVEL VARIABLES READ AS WHEN THE CALL BEGINS. Each datum BY PROGRAM (the guide's laid-datum.mjs) off the statement by which the dump's own 'gosem.cut.vars' lays the variable. In a bare row this is a premise. The card (YtomdimlnggpgbaaGreatDoorCards.lean) ties it to the program's text. -/
def laid_jalousie_store_errLost {H : Type} : DataW H := .iface "*errors.errorString" (.ptr (.agg [.lit (.string [116, 104, 101, 32, 112, 111, 119, 101, 114, 32, 105, 115, 32, 103, 111, 110, 101])]))
def laid_jalousie_store_errFull {H : Type} : DataW H := .iface "*errors.errorString" (.ptr (.agg [.lit (.string [110, 111, 32, 114, 111, 111, 109])]))
def laid_jalousie_store_errSpent {H : Type} : DataW H := .iface "*errors.errorString" (.ptr (.agg [.lit (.string [110, 111, 32, 110, 117, 109, 98, 101, 114, 32, 105, 115, 32, 108, 101, 102, 116])]))
def laid_jalousie_jalousieref01_words {H : Type} : DataW H := .agg [.lit (.int .u32 1116352408), .lit (.int .u32 1899447441), .lit (.int .u32 3049323471), .lit (.int .u32 3921009573), .lit (.int .u32 961987163), .lit (.int .u32 1508970993), .lit (.int .u32 2453635748), .lit (.int .u32 2870763221), .lit (.int .u32 3624381080), .lit (.int .u32 310598401), .lit (.int .u32 607225278), .lit (.int .u32 1426881987), .lit (.int .u32 1925078388), .lit (.int .u32 2162078206), .lit (.int .u32 2614888103), .lit (.int .u32 3248222580), .lit (.int .u32 3835390401), .lit (.int .u32 4022224774), .lit (.int .u32 264347078), .lit (.int .u32 604807628), .lit (.int .u32 770255983), .lit (.int .u32 1249150122), .lit (.int .u32 1555081692), .lit (.int .u32 1996064986), .lit (.int .u32 2554220882), .lit (.int .u32 2821834349), .lit (.int .u32 2952996808), .lit (.int .u32 3210313671), .lit (.int .u32 3336571891), .lit (.int .u32 3584528711), .lit (.int .u32 113926993), .lit (.int .u32 338241895), .lit (.int .u32 666307205), .lit (.int .u32 773529912), .lit (.int .u32 1294757372), .lit (.int .u32 1396182291), .lit (.int .u32 1695183700), .lit (.int .u32 1986661051), .lit (.int .u32 2177026350), .lit (.int .u32 2456956037), .lit (.int .u32 2730485921), .lit (.int .u32 2820302411), .lit (.int .u32 3259730800), .lit (.int .u32 3345764771), .lit (.int .u32 3516065817), .lit (.int .u32 3600352804), .lit (.int .u32 4094571909), .lit (.int .u32 275423344), .lit (.int .u32 430227734), .lit (.int .u32 506948616), .lit (.int .u32 659060556), .lit (.int .u32 883997877), .lit (.int .u32 958139571), .lit (.int .u32 1322822218), .lit (.int .u32 1537002063), .lit (.int .u32 1747873779), .lit (.int .u32 1955562222), .lit (.int .u32 2024104815), .lit (.int .u32 2227730452), .lit (.int .u32 2361852424), .lit (.int .u32 2428436474), .lit (.int .u32 2756734187), .lit (.int .u32 3204031479), .lit (.int .u32 3329325298)]
def laid_errors_errorType {H : Type} : DataW H := .iface "internal/reflectlite.rtype" (.agg [.ptr (.lit (.string [101, 114, 114, 111, 114]))])
def laid_jalousie_hash_rounds {H : Type} : DataW H := .agg [.lit (.int .u32 1116352408), .lit (.int .u32 1899447441), .lit (.int .u32 3049323471), .lit (.int .u32 3921009573), .lit (.int .u32 961987163), .lit (.int .u32 1508970993), .lit (.int .u32 2453635748), .lit (.int .u32 2870763221), .lit (.int .u32 3624381080), .lit (.int .u32 310598401), .lit (.int .u32 607225278), .lit (.int .u32 1426881987), .lit (.int .u32 1925078388), .lit (.int .u32 2162078206), .lit (.int .u32 2614888103), .lit (.int .u32 3248222580), .lit (.int .u32 3835390401), .lit (.int .u32 4022224774), .lit (.int .u32 264347078), .lit (.int .u32 604807628), .lit (.int .u32 770255983), .lit (.int .u32 1249150122), .lit (.int .u32 1555081692), .lit (.int .u32 1996064986), .lit (.int .u32 2554220882), .lit (.int .u32 2821834349), .lit (.int .u32 2952996808), .lit (.int .u32 3210313671), .lit (.int .u32 3336571891), .lit (.int .u32 3584528711), .lit (.int .u32 113926993), .lit (.int .u32 338241895), .lit (.int .u32 666307205), .lit (.int .u32 773529912), .lit (.int .u32 1294757372), .lit (.int .u32 1396182291), .lit (.int .u32 1695183700), .lit (.int .u32 1986661051), .lit (.int .u32 2177026350), .lit (.int .u32 2456956037), .lit (.int .u32 2730485921), .lit (.int .u32 2820302411), .lit (.int .u32 3259730800), .lit (.int .u32 3345764771), .lit (.int .u32 3516065817), .lit (.int .u32 3600352804), .lit (.int .u32 4094571909), .lit (.int .u32 275423344), .lit (.int .u32 430227734), .lit (.int .u32 506948616), .lit (.int .u32 659060556), .lit (.int .u32 883997877), .lit (.int .u32 958139571), .lit (.int .u32 1322822218), .lit (.int .u32 1537002063), .lit (.int .u32 1747873779), .lit (.int .u32 1955562222), .lit (.int .u32 2024104815), .lit (.int .u32 2227730452), .lit (.int .u32 2361852424), .lit (.int .u32 2428436474), .lit (.int .u32 2756734187), .lit (.int .u32 3204031479), .lit (.int .u32 3329325298)]

/-- 'jalousielaw09.StorePlays': WHATEVER THE INPUT: true; the input reads as it did. -/
def storePlaysSpec : ChangeSpec := { name := "storePlays", fn := fun _ => fun
  | [d1, d2] => { results := [.lit (.bool true)], args := [d1, d2] }
  | _ => none }
def storePlaysRow : OpenClaim := { program := "ytomdimlnggpgbaagreatdoor", sum := "f0eb33eae54962119ce87895161123474d4b3dc3be6e338bbfbf96d423cef711", func := "jalousie/jalousielaw09.StorePlays", spec := "storePlays", inPlace := ["internal/reflectlite.TypeOf"], unfollowed := true, recurses := true, named := ["jalousie/store.errFull", "jalousie/store.errSpent", "jalousie/store.errLost"], apart := false, laid := [("jalousie/store.errLost", laid_jalousie_store_errLost), ("jalousie/store.errFull", laid_jalousie_store_errFull), ("jalousie/store.errSpent", laid_jalousie_store_errSpent)] }
def StorePlaysSaid : Prop := storePlaysRow.holds Tryz.pinned (OpenSpec.ofChange storePlaysSpec)

/-- ITS FALSE NEIGHBOUR: 'it returns false'. Refute it at one input. -/
def storePlaysWrong : ChangeSpec := { name := "storePlays", fn := fun _ => fun
  | [d1, d2] => { results := [.lit (.bool false)], args := [d1, d2] }
  | _ => none }
def StorePlaysWrongFalsely : Prop := storePlaysRow.holds Tryz.pinned (OpenSpec.ofChange storePlaysWrong)

/-- 'jalousielaw09.StoreCrashes': WHATEVER THE INPUT: true; the input reads as it did. -/
def storeCrashesSpec : ChangeSpec := { name := "storeCrashes", fn := fun _ => fun
  | [d1, d2] => { results := [.lit (.bool true)], args := [d1, d2] }
  | _ => none }
def storeCrashesRow : OpenClaim := { program := "ytomdimlnggpgbaagreatdoor", sum := "f0eb33eae54962119ce87895161123474d4b3dc3be6e338bbfbf96d423cef711", func := "jalousie/jalousielaw09.StoreCrashes", spec := "storeCrashes", inPlace := ["internal/reflectlite.TypeOf"], unfollowed := true, recurses := true, named := ["jalousie/store.errFull", "jalousie/store.errSpent", "jalousie/store.errLost"], apart := false, laid := [("jalousie/store.errLost", laid_jalousie_store_errLost), ("jalousie/store.errFull", laid_jalousie_store_errFull), ("jalousie/store.errSpent", laid_jalousie_store_errSpent)] }
def StoreCrashesSaid : Prop := storeCrashesRow.holds Tryz.pinned (OpenSpec.ofChange storeCrashesSpec)

/-- ITS FALSE NEIGHBOUR: 'it returns false'. Refute it at one input. -/
def storeCrashesWrong : ChangeSpec := { name := "storeCrashes", fn := fun _ => fun
  | [d1, d2] => { results := [.lit (.bool false)], args := [d1, d2] }
  | _ => none }
def StoreCrashesWrongFalsely : Prop := storeCrashesRow.holds Tryz.pinned (OpenSpec.ofChange storeCrashesWrong)

/-- 'jalousielaw21.RelayTwice': WHATEVER THE INPUT: true; the input reads as it did. -/
def relayTwiceSpec : ChangeSpec := { name := "relayTwice", fn := fun _ => fun
  | [d] => { results := [.lit (.bool true)], args := [d] }
  | _ => none }
def relayTwiceRow : OpenClaim := { program := "ytomdimlnggpgbaagreatdoor", sum := "f0eb33eae54962119ce87895161123474d4b3dc3be6e338bbfbf96d423cef711", func := "jalousie/jalousielaw21.RelayTwice", spec := "relayTwice", inPlace := ["internal/bytealg.Compare", "internal/bytealg.MakeNoZero", "internal/reflectlite.ValueOf", "(internal/reflectlite.Value).Type", "(internal/reflectlite.Value).IsNil", "internal/reflectlite.TypeOf", "(internal/reflectlite.Value).Elem", "(internal/reflectlite.Value).Set"], unfollowed := true, recurses := true, named := ["jalousie/hash.rounds", "errors.errorType", "jalousie/jalousieref01.words", "jalousie/store.errFull", "jalousie/store.errSpent", "jalousie/store.errLost"], apart := false, laid := [("jalousie/jalousieref01.words", laid_jalousie_jalousieref01_words), ("errors.errorType", laid_errors_errorType), ("jalousie/hash.rounds", laid_jalousie_hash_rounds), ("jalousie/store.errLost", laid_jalousie_store_errLost), ("jalousie/store.errFull", laid_jalousie_store_errFull), ("jalousie/store.errSpent", laid_jalousie_store_errSpent)] }
def RelayTwiceSaid : Prop := relayTwiceRow.holds Tryz.pinned (OpenSpec.ofChange relayTwiceSpec)

/-- ITS FALSE NEIGHBOUR: 'it returns false'. Refute it at one input. -/
def relayTwiceWrong : ChangeSpec := { name := "relayTwice", fn := fun _ => fun
  | [d] => { results := [.lit (.bool false)], args := [d] }
  | _ => none }
def RelayTwiceWrongFalsely : Prop := relayTwiceRow.holds Tryz.pinned (OpenSpec.ofChange relayTwiceWrong)

/-- 'jalousielaw21.RelayOpens': WHATEVER THE INPUT: true; the input reads as it did. -/
def relayOpensSpec : ChangeSpec := { name := "relayOpens", fn := fun _ => fun
  | [d1, d2] => { results := [.lit (.bool true)], args := [d1, d2] }
  | _ => none }
def relayOpensRow : OpenClaim := { program := "ytomdimlnggpgbaagreatdoor", sum := "f0eb33eae54962119ce87895161123474d4b3dc3be6e338bbfbf96d423cef711", func := "jalousie/jalousielaw21.RelayOpens", spec := "relayOpens", inPlace := ["internal/bytealg.Compare", "internal/bytealg.MakeNoZero", "internal/reflectlite.ValueOf", "(internal/reflectlite.Value).Type", "(internal/reflectlite.Value).IsNil", "internal/reflectlite.TypeOf", "(internal/reflectlite.Value).Elem", "(internal/reflectlite.Value).Set"], unfollowed := true, recurses := true, named := ["jalousie/hash.rounds", "errors.errorType", "jalousie/jalousieref01.words", "jalousie/store.errFull", "jalousie/store.errSpent", "jalousie/store.errLost"], apart := false, laid := [("jalousie/jalousieref01.words", laid_jalousie_jalousieref01_words), ("errors.errorType", laid_errors_errorType), ("jalousie/hash.rounds", laid_jalousie_hash_rounds), ("jalousie/store.errLost", laid_jalousie_store_errLost), ("jalousie/store.errFull", laid_jalousie_store_errFull), ("jalousie/store.errSpent", laid_jalousie_store_errSpent)] }
def RelayOpensSaid : Prop := relayOpensRow.holds Tryz.pinned (OpenSpec.ofChange relayOpensSpec)

/-- ITS FALSE NEIGHBOUR: 'it returns false'. Refute it at one input. -/
def relayOpensWrong : ChangeSpec := { name := "relayOpens", fn := fun _ => fun
  | [d1, d2] => { results := [.lit (.bool false)], args := [d1, d2] }
  | _ => none }
def RelayOpensWrongFalsely : Prop := relayOpensRow.holds Tryz.pinned (OpenSpec.ofChange relayOpensWrong)

/-- 'jalousielaw21.RelayPulls': WHATEVER THE INPUT: true; the input reads as it did. -/
def relayPullsSpec : ChangeSpec := { name := "relayPulls", fn := fun _ => fun
  | [d1, d2, d3] => { results := [.lit (.bool true)], args := [d1, d2, d3] }
  | _ => none }
def relayPullsRow : OpenClaim := { program := "ytomdimlnggpgbaagreatdoor", sum := "f0eb33eae54962119ce87895161123474d4b3dc3be6e338bbfbf96d423cef711", func := "jalousie/jalousielaw21.RelayPulls", spec := "relayPulls", inPlace := ["internal/bytealg.Compare", "internal/bytealg.MakeNoZero", "internal/reflectlite.ValueOf", "(internal/reflectlite.Value).Type", "(internal/reflectlite.Value).IsNil", "internal/reflectlite.TypeOf", "(internal/reflectlite.Value).Elem", "(internal/reflectlite.Value).Set"], unfollowed := true, recurses := true, named := ["jalousie/hash.rounds", "errors.errorType", "jalousie/jalousieref01.words", "jalousie/store.errFull", "jalousie/store.errSpent", "jalousie/store.errLost"], apart := false, laid := [("jalousie/jalousieref01.words", laid_jalousie_jalousieref01_words), ("errors.errorType", laid_errors_errorType), ("jalousie/hash.rounds", laid_jalousie_hash_rounds), ("jalousie/store.errLost", laid_jalousie_store_errLost), ("jalousie/store.errFull", laid_jalousie_store_errFull), ("jalousie/store.errSpent", laid_jalousie_store_errSpent)] }
def RelayPullsSaid : Prop := relayPullsRow.holds Tryz.pinned (OpenSpec.ofChange relayPullsSpec)

/-- ITS FALSE NEIGHBOUR: 'it returns false'. Refute it at one input. -/
def relayPullsWrong : ChangeSpec := { name := "relayPulls", fn := fun _ => fun
  | [d1, d2, d3] => { results := [.lit (.bool false)], args := [d1, d2, d3] }
  | _ => none }
def RelayPullsWrongFalsely : Prop := relayPullsRow.holds Tryz.pinned (OpenSpec.ofChange relayPullsWrong)

/-- 'jalousielaw21.RelayPlays': WHATEVER THE INPUT: true; the input reads as it did. -/
def relayPlaysSpec : ChangeSpec := { name := "relayPlays", fn := fun _ => fun
  | [d1, d2, d3] => { results := [.lit (.bool true)], args := [d1, d2, d3] }
  | _ => none }
def relayPlaysRow : OpenClaim := { program := "ytomdimlnggpgbaagreatdoor", sum := "f0eb33eae54962119ce87895161123474d4b3dc3be6e338bbfbf96d423cef711", func := "jalousie/jalousielaw21.RelayPlays", spec := "relayPlays", inPlace := ["internal/bytealg.Compare", "internal/bytealg.MakeNoZero", "internal/reflectlite.ValueOf", "(internal/reflectlite.Value).Type", "(internal/reflectlite.Value).IsNil", "internal/reflectlite.TypeOf", "(internal/reflectlite.Value).Elem", "(internal/reflectlite.Value).Set"], unfollowed := true, recurses := true, named := ["jalousie/hash.rounds", "errors.errorType", "jalousie/jalousieref01.words", "jalousie/store.errFull", "jalousie/store.errSpent", "jalousie/store.errLost"], apart := false, laid := [("jalousie/jalousieref01.words", laid_jalousie_jalousieref01_words), ("errors.errorType", laid_errors_errorType), ("jalousie/hash.rounds", laid_jalousie_hash_rounds), ("jalousie/store.errLost", laid_jalousie_store_errLost), ("jalousie/store.errFull", laid_jalousie_store_errFull), ("jalousie/store.errSpent", laid_jalousie_store_errSpent)] }
def RelayPlaysSaid : Prop := relayPlaysRow.holds Tryz.pinned (OpenSpec.ofChange relayPlaysSpec)

/-- ITS FALSE NEIGHBOUR: 'it returns false'. Refute it at one input. -/
def relayPlaysWrong : ChangeSpec := { name := "relayPlays", fn := fun _ => fun
  | [d1, d2, d3] => { results := [.lit (.bool false)], args := [d1, d2, d3] }
  | _ => none }
def RelayPlaysWrongFalsely : Prop := relayPlaysRow.holds Tryz.pinned (OpenSpec.ofChange relayPlaysWrong)

/-- 'jalousielaw21.RelayCrashes': WHATEVER THE INPUT: true; the input reads as it did. -/
def relayCrashesSpec : ChangeSpec := { name := "relayCrashes", fn := fun _ => fun
  | [d1, d2, d3] => { results := [.lit (.bool true)], args := [d1, d2, d3] }
  | _ => none }
def relayCrashesRow : OpenClaim := { program := "ytomdimlnggpgbaagreatdoor", sum := "f0eb33eae54962119ce87895161123474d4b3dc3be6e338bbfbf96d423cef711", func := "jalousie/jalousielaw21.RelayCrashes", spec := "relayCrashes", inPlace := ["internal/bytealg.Compare", "internal/bytealg.MakeNoZero", "internal/reflectlite.ValueOf", "(internal/reflectlite.Value).Type", "(internal/reflectlite.Value).IsNil", "internal/reflectlite.TypeOf", "(internal/reflectlite.Value).Elem", "(internal/reflectlite.Value).Set"], unfollowed := true, recurses := true, named := ["jalousie/hash.rounds", "errors.errorType", "jalousie/jalousieref01.words", "jalousie/store.errFull", "jalousie/store.errSpent", "jalousie/store.errLost"], apart := false, laid := [("jalousie/jalousieref01.words", laid_jalousie_jalousieref01_words), ("errors.errorType", laid_errors_errorType), ("jalousie/hash.rounds", laid_jalousie_hash_rounds), ("jalousie/store.errLost", laid_jalousie_store_errLost), ("jalousie/store.errFull", laid_jalousie_store_errFull), ("jalousie/store.errSpent", laid_jalousie_store_errSpent)] }
def RelayCrashesSaid : Prop := relayCrashesRow.holds Tryz.pinned (OpenSpec.ofChange relayCrashesSpec)

/-- ITS FALSE NEIGHBOUR: 'it returns false'. Refute it at one input. -/
def relayCrashesWrong : ChangeSpec := { name := "relayCrashes", fn := fun _ => fun
  | [d1, d2, d3] => { results := [.lit (.bool false)], args := [d1, d2, d3] }
  | _ => none }
def RelayCrashesWrongFalsely : Prop := relayCrashesRow.holds Tryz.pinned (OpenSpec.ofChange relayCrashesWrong)

/- THE SECOND FORM. 'bulk': how many values and letters a reading holds, each counted each time it is reached (what is shared counts as often as it is met; a slice's spare places count too). A statement '..UptoSaid' is the law's where the arguments, and the package variables that the reading takes, are together of bulk at most 1048576: NARROWER than '..Said'. Prove '..Said' where nothing that the law and all that it calls make is longer than what came in: it says more and counts as full. Else prove '..UptoSaid'. A law counts once. -/
mutual
def uptoBulk {H : Type} : DataW H → Nat
  | .lit (.string bytes) => bytes.length + 1
  | .lit _ => 1
  | .nil => 1
  | .ptr d => uptoBulk d + 1
  | .slice elems spare => uptoBulkAll elems + uptoBulkAll spare + 1
  | .agg parts => uptoBulkAll parts + 1
  | .iface _ d => uptoBulk d + 1
  | .map entries => uptoBulkEntries entries + 1
  | .held _ => 1
def uptoBulkAll {H : Type} : List (DataW H) → Nat
  | [] => 0
  | d :: r => uptoBulk d + uptoBulkAll r
def uptoBulkEntries {H : Type} : List (Lit × DataW H) → Nat
  | [] => 0
  | x :: r => uptoBulkEntry x + uptoBulkEntries r
def uptoBulkEntry {H : Type} : Lit × DataW H → Nat
  | (.string bytes, d) => bytes.length + uptoBulk d + 1
  | (_, d) => uptoBulk d + 1
 end
def uptoSmall : (H : Type) → List (DataW H) → Bool := fun _ ds => decide (uptoBulkAll ds ≤ 1048576)
def OpenSpec.upto (s : _root_.Go.ChangeSpec) : _root_.Go.OpenSpec := { _root_.Go.OpenSpec.ofChange s with cond := some uptoSmall }

/-- 'jalousielaw09.StorePlays', WHERE WHAT IT READS IS OF BULK AT MOST 1048576: true; the input reads as it did. -/
def storePlaysUptoRow : OpenClaim := { program := "ytomdimlnggpgbaagreatdoor", sum := "f0eb33eae54962119ce87895161123474d4b3dc3be6e338bbfbf96d423cef711", func := "jalousie/jalousielaw09.StorePlays", spec := "storePlays", inPlace := ["internal/reflectlite.TypeOf"], unfollowed := true, recurses := true, named := ["jalousie/store.errFull", "jalousie/store.errSpent", "jalousie/store.errLost"], apart := false, laid := [("jalousie/store.errLost", laid_jalousie_store_errLost), ("jalousie/store.errFull", laid_jalousie_store_errFull), ("jalousie/store.errSpent", laid_jalousie_store_errSpent)], narrowed := true }
def StorePlaysUptoSaid : Prop := storePlaysUptoRow.holds Tryz.pinned (OpenSpec.upto storePlaysSpec)

/-- 'jalousielaw09.StoreCrashes', WHERE WHAT IT READS IS OF BULK AT MOST 1048576: true; the input reads as it did. -/
def storeCrashesUptoRow : OpenClaim := { program := "ytomdimlnggpgbaagreatdoor", sum := "f0eb33eae54962119ce87895161123474d4b3dc3be6e338bbfbf96d423cef711", func := "jalousie/jalousielaw09.StoreCrashes", spec := "storeCrashes", inPlace := ["internal/reflectlite.TypeOf"], unfollowed := true, recurses := true, named := ["jalousie/store.errFull", "jalousie/store.errSpent", "jalousie/store.errLost"], apart := false, laid := [("jalousie/store.errLost", laid_jalousie_store_errLost), ("jalousie/store.errFull", laid_jalousie_store_errFull), ("jalousie/store.errSpent", laid_jalousie_store_errSpent)], narrowed := true }
def StoreCrashesUptoSaid : Prop := storeCrashesUptoRow.holds Tryz.pinned (OpenSpec.upto storeCrashesSpec)

/-- 'jalousielaw21.RelayTwice', WHERE WHAT IT READS IS OF BULK AT MOST 1048576: true; the input reads as it did. -/
def relayTwiceUptoRow : OpenClaim := { program := "ytomdimlnggpgbaagreatdoor", sum := "f0eb33eae54962119ce87895161123474d4b3dc3be6e338bbfbf96d423cef711", func := "jalousie/jalousielaw21.RelayTwice", spec := "relayTwice", inPlace := ["internal/bytealg.Compare", "internal/bytealg.MakeNoZero", "internal/reflectlite.ValueOf", "(internal/reflectlite.Value).Type", "(internal/reflectlite.Value).IsNil", "internal/reflectlite.TypeOf", "(internal/reflectlite.Value).Elem", "(internal/reflectlite.Value).Set"], unfollowed := true, recurses := true, named := ["jalousie/hash.rounds", "errors.errorType", "jalousie/jalousieref01.words", "jalousie/store.errFull", "jalousie/store.errSpent", "jalousie/store.errLost"], apart := false, laid := [("jalousie/jalousieref01.words", laid_jalousie_jalousieref01_words), ("errors.errorType", laid_errors_errorType), ("jalousie/hash.rounds", laid_jalousie_hash_rounds), ("jalousie/store.errLost", laid_jalousie_store_errLost), ("jalousie/store.errFull", laid_jalousie_store_errFull), ("jalousie/store.errSpent", laid_jalousie_store_errSpent)], narrowed := true }
def RelayTwiceUptoSaid : Prop := relayTwiceUptoRow.holds Tryz.pinned (OpenSpec.upto relayTwiceSpec)

/-- 'jalousielaw21.RelayOpens', WHERE WHAT IT READS IS OF BULK AT MOST 1048576: true; the input reads as it did. -/
def relayOpensUptoRow : OpenClaim := { program := "ytomdimlnggpgbaagreatdoor", sum := "f0eb33eae54962119ce87895161123474d4b3dc3be6e338bbfbf96d423cef711", func := "jalousie/jalousielaw21.RelayOpens", spec := "relayOpens", inPlace := ["internal/bytealg.Compare", "internal/bytealg.MakeNoZero", "internal/reflectlite.ValueOf", "(internal/reflectlite.Value).Type", "(internal/reflectlite.Value).IsNil", "internal/reflectlite.TypeOf", "(internal/reflectlite.Value).Elem", "(internal/reflectlite.Value).Set"], unfollowed := true, recurses := true, named := ["jalousie/hash.rounds", "errors.errorType", "jalousie/jalousieref01.words", "jalousie/store.errFull", "jalousie/store.errSpent", "jalousie/store.errLost"], apart := false, laid := [("jalousie/jalousieref01.words", laid_jalousie_jalousieref01_words), ("errors.errorType", laid_errors_errorType), ("jalousie/hash.rounds", laid_jalousie_hash_rounds), ("jalousie/store.errLost", laid_jalousie_store_errLost), ("jalousie/store.errFull", laid_jalousie_store_errFull), ("jalousie/store.errSpent", laid_jalousie_store_errSpent)], narrowed := true }
def RelayOpensUptoSaid : Prop := relayOpensUptoRow.holds Tryz.pinned (OpenSpec.upto relayOpensSpec)

/-- 'jalousielaw21.RelayPulls', WHERE WHAT IT READS IS OF BULK AT MOST 1048576: true; the input reads as it did. -/
def relayPullsUptoRow : OpenClaim := { program := "ytomdimlnggpgbaagreatdoor", sum := "f0eb33eae54962119ce87895161123474d4b3dc3be6e338bbfbf96d423cef711", func := "jalousie/jalousielaw21.RelayPulls", spec := "relayPulls", inPlace := ["internal/bytealg.Compare", "internal/bytealg.MakeNoZero", "internal/reflectlite.ValueOf", "(internal/reflectlite.Value).Type", "(internal/reflectlite.Value).IsNil", "internal/reflectlite.TypeOf", "(internal/reflectlite.Value).Elem", "(internal/reflectlite.Value).Set"], unfollowed := true, recurses := true, named := ["jalousie/hash.rounds", "errors.errorType", "jalousie/jalousieref01.words", "jalousie/store.errFull", "jalousie/store.errSpent", "jalousie/store.errLost"], apart := false, laid := [("jalousie/jalousieref01.words", laid_jalousie_jalousieref01_words), ("errors.errorType", laid_errors_errorType), ("jalousie/hash.rounds", laid_jalousie_hash_rounds), ("jalousie/store.errLost", laid_jalousie_store_errLost), ("jalousie/store.errFull", laid_jalousie_store_errFull), ("jalousie/store.errSpent", laid_jalousie_store_errSpent)], narrowed := true }
def RelayPullsUptoSaid : Prop := relayPullsUptoRow.holds Tryz.pinned (OpenSpec.upto relayPullsSpec)

/-- 'jalousielaw21.RelayPlays', WHERE WHAT IT READS IS OF BULK AT MOST 1048576: true; the input reads as it did. -/
def relayPlaysUptoRow : OpenClaim := { program := "ytomdimlnggpgbaagreatdoor", sum := "f0eb33eae54962119ce87895161123474d4b3dc3be6e338bbfbf96d423cef711", func := "jalousie/jalousielaw21.RelayPlays", spec := "relayPlays", inPlace := ["internal/bytealg.Compare", "internal/bytealg.MakeNoZero", "internal/reflectlite.ValueOf", "(internal/reflectlite.Value).Type", "(internal/reflectlite.Value).IsNil", "internal/reflectlite.TypeOf", "(internal/reflectlite.Value).Elem", "(internal/reflectlite.Value).Set"], unfollowed := true, recurses := true, named := ["jalousie/hash.rounds", "errors.errorType", "jalousie/jalousieref01.words", "jalousie/store.errFull", "jalousie/store.errSpent", "jalousie/store.errLost"], apart := false, laid := [("jalousie/jalousieref01.words", laid_jalousie_jalousieref01_words), ("errors.errorType", laid_errors_errorType), ("jalousie/hash.rounds", laid_jalousie_hash_rounds), ("jalousie/store.errLost", laid_jalousie_store_errLost), ("jalousie/store.errFull", laid_jalousie_store_errFull), ("jalousie/store.errSpent", laid_jalousie_store_errSpent)], narrowed := true }
def RelayPlaysUptoSaid : Prop := relayPlaysUptoRow.holds Tryz.pinned (OpenSpec.upto relayPlaysSpec)

/-- 'jalousielaw21.RelayCrashes', WHERE WHAT IT READS IS OF BULK AT MOST 1048576: true; the input reads as it did. -/
def relayCrashesUptoRow : OpenClaim := { program := "ytomdimlnggpgbaagreatdoor", sum := "f0eb33eae54962119ce87895161123474d4b3dc3be6e338bbfbf96d423cef711", func := "jalousie/jalousielaw21.RelayCrashes", spec := "relayCrashes", inPlace := ["internal/bytealg.Compare", "internal/bytealg.MakeNoZero", "internal/reflectlite.ValueOf", "(internal/reflectlite.Value).Type", "(internal/reflectlite.Value).IsNil", "internal/reflectlite.TypeOf", "(internal/reflectlite.Value).Elem", "(internal/reflectlite.Value).Set"], unfollowed := true, recurses := true, named := ["jalousie/hash.rounds", "errors.errorType", "jalousie/jalousieref01.words", "jalousie/store.errFull", "jalousie/store.errSpent", "jalousie/store.errLost"], apart := false, laid := [("jalousie/jalousieref01.words", laid_jalousie_jalousieref01_words), ("errors.errorType", laid_errors_errorType), ("jalousie/hash.rounds", laid_jalousie_hash_rounds), ("jalousie/store.errLost", laid_jalousie_store_errLost), ("jalousie/store.errFull", laid_jalousie_store_errFull), ("jalousie/store.errSpent", laid_jalousie_store_errSpent)], narrowed := true }
def RelayCrashesUptoSaid : Prop := relayCrashesUptoRow.holds Tryz.pinned (OpenSpec.upto relayCrashesSpec)

end Rows
end Go.Proofs.YtomdimlnggpgbaaGreatDoor
