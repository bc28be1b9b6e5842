/-
  NARROWER THAN 'FOR EVERY INPUT', by the rows' own cells (each row's printed sentence says how): AskNothing: laid · AskServes: laid · AskAll: laid.
  DERIVED. THE GIVEN ROWS OF THIS SEAT. 3 by the template 'for every input the law returns true; each argument reads behind the call as it read before'; 0 by the template 'total and deterministic' (their statements: YtbdikjnpbnobcaaGreatDoorTotals.lean).
  GIVEN WITH THE SEED: the statements are not yours to turn. If you find one false, say at which input.
  Laid BY PROGRAM, IN A SANDBOX (cutbox-rows.mjs): the forced cells as the released guide's own fill.sh prints them over the translation ca799ba1d7650979… (all of the seat's roots in one cut). By AI agents, Wed Nov 11 2026. No macro, syntax, notation, axiom, sorry.
-/
import Derived.Test.YtbdikjnpbnobcaaGreatDoorChecked
import GoSem.PinnedTables
import GoSem.Claim
import GoSem.ClaimJoined
import GoSem.ClaimMapViews
import Derived.JoinedTies
import Derived.KernelRfl
namespace Go.Proofs.YtbdikjnpbnobcaaGreatDoor
/- THE CELL 'sum', in the pinned program and in every row, IS THE sha256 OF THE DUMP (.gsa) THAT YtbdikjnpbnobcaaGreatDoorProg.lean LOADS. Nothing in Lean hashes anything: it is a label: what it is worth is what the hold of that sum in a sandbox is worth. -/
noncomputable def Tryz.pinned : Pinned := { name := "ytbdikjnpbnobcaagreatdoor", sum := "ca799ba1d7650979f7aee63d68b1eaabe0b3cfe9f596c6d0025a450c56d78b08", checked := Tryz.checked }
namespace Rows
def none {H : Type} : Left H := { results := [], args := [] }

/- WHAT THE LISTED PACKAGE-LEVEL VARIABLES READ AS WHEN THE CALL BEGINS. Each datum BY PROGRAM (the guide's laid-datum.mjs) off the statement by which the dump's own 'gosem.cut.vars' lays the variable. In a bare row this is a premise. The card (YtbdikjnpbnobcaaGreatDoorCards.lean) ties it to the program's text. -/
def laid_unicode_utf8_acceptRanges {H : Type} : DataW H := .agg [.agg [.lit (.int .u8 128), .lit (.int .u8 191)], .agg [.lit (.int .u8 160), .lit (.int .u8 191)], .agg [.lit (.int .u8 128), .lit (.int .u8 159)], .agg [.lit (.int .u8 144), .lit (.int .u8 191)], .agg [.lit (.int .u8 128), .lit (.int .u8 143)], .agg [.lit (.int .u8 0), .lit (.int .u8 0)], .agg [.lit (.int .u8 0), .lit (.int .u8 0)], .agg [.lit (.int .u8 0), .lit (.int .u8 0)], .agg [.lit (.int .u8 0), .lit (.int .u8 0)], .agg [.lit (.int .u8 0), .lit (.int .u8 0)], .agg [.lit (.int .u8 0), .lit (.int .u8 0)], .agg [.lit (.int .u8 0), .lit (.int .u8 0)], .agg [.lit (.int .u8 0), .lit (.int .u8 0)], .agg [.lit (.int .u8 0), .lit (.int .u8 0)], .agg [.lit (.int .u8 0), .lit (.int .u8 0)], .agg [.lit (.int .u8 0), .lit (.int .u8 0)]]
def laid_errors_errorType {H : Type} : DataW H := .iface "internal/reflectlite.rtype" (.agg [.ptr (.lit (.string [101, 114, 114, 111, 114]))])
def laid_jalousie_hash_rounds {H : Type} : DataW H := .agg [.lit (.int .u32 1116352408), .lit (.int .u32 1899447441), .lit (.int .u32 3049323471), .lit (.int .u32 3921009573), .lit (.int .u32 961987163), .lit (.int .u32 1508970993), .lit (.int .u32 2453635748), .lit (.int .u32 2870763221), .lit (.int .u32 3624381080), .lit (.int .u32 310598401), .lit (.int .u32 607225278), .lit (.int .u32 1426881987), .lit (.int .u32 1925078388), .lit (.int .u32 2162078206), .lit (.int .u32 2614888103), .lit (.int .u32 3248222580), .lit (.int .u32 3835390401), .lit (.int .u32 4022224774), .lit (.int .u32 264347078), .lit (.int .u32 604807628), .lit (.int .u32 770255983), .lit (.int .u32 1249150122), .lit (.int .u32 1555081692), .lit (.int .u32 1996064986), .lit (.int .u32 2554220882), .lit (.int .u32 2821834349), .lit (.int .u32 2952996808), .lit (.int .u32 3210313671), .lit (.int .u32 3336571891), .lit (.int .u32 3584528711), .lit (.int .u32 113926993), .lit (.int .u32 338241895), .lit (.int .u32 666307205), .lit (.int .u32 773529912), .lit (.int .u32 1294757372), .lit (.int .u32 1396182291), .lit (.int .u32 1695183700), .lit (.int .u32 1986661051), .lit (.int .u32 2177026350), .lit (.int .u32 2456956037), .lit (.int .u32 2730485921), .lit (.int .u32 2820302411), .lit (.int .u32 3259730800), .lit (.int .u32 3345764771), .lit (.int .u32 3516065817), .lit (.int .u32 3600352804), .lit (.int .u32 4094571909), .lit (.int .u32 275423344), .lit (.int .u32 430227734), .lit (.int .u32 506948616), .lit (.int .u32 659060556), .lit (.int .u32 883997877), .lit (.int .u32 958139571), .lit (.int .u32 1322822218), .lit (.int .u32 1537002063), .lit (.int .u32 1747873779), .lit (.int .u32 1955562222), .lit (.int .u32 2024104815), .lit (.int .u32 2227730452), .lit (.int .u32 2361852424), .lit (.int .u32 2428436474), .lit (.int .u32 2756734187), .lit (.int .u32 3204031479), .lit (.int .u32 3329325298)]
def laid_jalousie_store_errLost {H : Type} : DataW H := .iface "*errors.errorString" (.ptr (.agg [.lit (.string [116, 104, 101, 32, 112, 111, 119, 101, 114, 32, 105, 115, 32, 103, 111, 110, 101])]))
def laid_jalousie_store_errFull {H : Type} : DataW H := .iface "*errors.errorString" (.ptr (.agg [.lit (.string [110, 111, 32, 114, 111, 111, 109])]))
def laid_jalousie_store_errSpent {H : Type} : DataW H := .iface "*errors.errorString" (.ptr (.agg [.lit (.string [110, 111, 32, 110, 117, 109, 98, 101, 114, 32, 105, 115, 32, 108, 101, 102, 116])]))
/-- One of Go's own tables, pinned by name: the form's constant. -/
def laid_unicode_utf8_first : DataW Unit := Go.Pinned.utf8First
def laid_jalousie_jalousieref01_words {H : Type} : DataW H := .agg [.lit (.int .u32 1116352408), .lit (.int .u32 1899447441), .lit (.int .u32 3049323471), .lit (.int .u32 3921009573), .lit (.int .u32 961987163), .lit (.int .u32 1508970993), .lit (.int .u32 2453635748), .lit (.int .u32 2870763221), .lit (.int .u32 3624381080), .lit (.int .u32 310598401), .lit (.int .u32 607225278), .lit (.int .u32 1426881987), .lit (.int .u32 1925078388), .lit (.int .u32 2162078206), .lit (.int .u32 2614888103), .lit (.int .u32 3248222580), .lit (.int .u32 3835390401), .lit (.int .u32 4022224774), .lit (.int .u32 264347078), .lit (.int .u32 604807628), .lit (.int .u32 770255983), .lit (.int .u32 1249150122), .lit (.int .u32 1555081692), .lit (.int .u32 1996064986), .lit (.int .u32 2554220882), .lit (.int .u32 2821834349), .lit (.int .u32 2952996808), .lit (.int .u32 3210313671), .lit (.int .u32 3336571891), .lit (.int .u32 3584528711), .lit (.int .u32 113926993), .lit (.int .u32 338241895), .lit (.int .u32 666307205), .lit (.int .u32 773529912), .lit (.int .u32 1294757372), .lit (.int .u32 1396182291), .lit (.int .u32 1695183700), .lit (.int .u32 1986661051), .lit (.int .u32 2177026350), .lit (.int .u32 2456956037), .lit (.int .u32 2730485921), .lit (.int .u32 2820302411), .lit (.int .u32 3259730800), .lit (.int .u32 3345764771), .lit (.int .u32 3516065817), .lit (.int .u32 3600352804), .lit (.int .u32 4094571909), .lit (.int .u32 275423344), .lit (.int .u32 430227734), .lit (.int .u32 506948616), .lit (.int .u32 659060556), .lit (.int .u32 883997877), .lit (.int .u32 958139571), .lit (.int .u32 1322822218), .lit (.int .u32 1537002063), .lit (.int .u32 1747873779), .lit (.int .u32 1955562222), .lit (.int .u32 2024104815), .lit (.int .u32 2227730452), .lit (.int .u32 2361852424), .lit (.int .u32 2428436474), .lit (.int .u32 2756734187), .lit (.int .u32 3204031479), .lit (.int .u32 3329325298)]

/-- 'jalousielaw22.AskNothing': WHATEVER THE INPUT: true; the input reads as it did. -/
def askNothingSpec : ChangeSpec := { name := "askNothing", fn := fun _ => fun
  | [d] => { results := [.lit (.bool true)], args := [d] }
  | _ => none }
def askNothingRow : OpenClaim := { program := "ytbdikjnpbnobcaagreatdoor", sum := "ca799ba1d7650979f7aee63d68b1eaabe0b3cfe9f596c6d0025a450c56d78b08", func := "jalousie/jalousielaw22.AskNothing", spec := "askNothing", inPlace := ["internal/bytealg.Compare", "internal/bytealg.MakeNoZero", "internal/reflectlite.ValueOf", "(internal/reflectlite.Value).Type", "(internal/reflectlite.Value).IsNil", "internal/reflectlite.TypeOf", "(internal/reflectlite.Value).Elem", "(internal/reflectlite.Value).Set"], unfollowed := true, recurses := true, named := ["jalousie/hash.rounds", "errors.errorType", "jalousie/store.errFull", "jalousie/store.errSpent", "jalousie/store.errLost", "unicode/utf8.first", "unicode/utf8.acceptRanges"], apart := false, laid := [("unicode/utf8.acceptRanges", laid_unicode_utf8_acceptRanges), ("errors.errorType", laid_errors_errorType), ("jalousie/hash.rounds", laid_jalousie_hash_rounds), ("jalousie/store.errLost", laid_jalousie_store_errLost), ("jalousie/store.errFull", laid_jalousie_store_errFull), ("jalousie/store.errSpent", laid_jalousie_store_errSpent), ("unicode/utf8.first", laid_unicode_utf8_first)] }
def AskNothingSaid : Prop := askNothingRow.holds Tryz.pinned (OpenSpec.ofChange askNothingSpec)

/-- ITS FALSE NEIGHBOUR: 'it returns false'. Refute it at one input. -/
def askNothingWrong : ChangeSpec := { name := "askNothing", fn := fun _ => fun
  | [d] => { results := [.lit (.bool false)], args := [d] }
  | _ => none }
def AskNothingWrongFalsely : Prop := askNothingRow.holds Tryz.pinned (OpenSpec.ofChange askNothingWrong)

/-- 'jalousielaw22.AskServes': WHATEVER THE INPUT: true; the input reads as it did. -/
def askServesSpec : ChangeSpec := { name := "askServes", fn := fun _ => fun
  | [d1, d2] => { results := [.lit (.bool true)], args := [d1, d2] }
  | _ => none }
def askServesRow : OpenClaim := { program := "ytbdikjnpbnobcaagreatdoor", sum := "ca799ba1d7650979f7aee63d68b1eaabe0b3cfe9f596c6d0025a450c56d78b08", func := "jalousie/jalousielaw22.AskServes", spec := "askServes", inPlace := ["internal/bytealg.Compare", "internal/bytealg.MakeNoZero", "internal/reflectlite.ValueOf", "(internal/reflectlite.Value).Type", "(internal/reflectlite.Value).IsNil", "internal/reflectlite.TypeOf", "(internal/reflectlite.Value).Elem", "(internal/reflectlite.Value).Set"], unfollowed := true, recurses := true, named := ["jalousie/hash.rounds", "errors.errorType", "jalousie/jalousieref01.words", "jalousie/store.errFull", "jalousie/store.errSpent", "jalousie/store.errLost"], apart := false, laid := [("jalousie/jalousieref01.words", laid_jalousie_jalousieref01_words), ("errors.errorType", laid_errors_errorType), ("jalousie/hash.rounds", laid_jalousie_hash_rounds), ("jalousie/store.errLost", laid_jalousie_store_errLost), ("jalousie/store.errFull", laid_jalousie_store_errFull), ("jalousie/store.errSpent", laid_jalousie_store_errSpent)] }
def AskServesSaid : Prop := askServesRow.holds Tryz.pinned (OpenSpec.ofChange askServesSpec)

/-- ITS FALSE NEIGHBOUR: 'it returns false'. Refute it at one input. -/
def askServesWrong : ChangeSpec := { name := "askServes", fn := fun _ => fun
  | [d1, d2] => { results := [.lit (.bool false)], args := [d1, d2] }
  | _ => none }
def AskServesWrongFalsely : Prop := askServesRow.holds Tryz.pinned (OpenSpec.ofChange askServesWrong)

/-- 'jalousielaw22.AskAll': WHATEVER THE INPUT: true; the input reads as it did. -/
def askAllSpec : ChangeSpec := { name := "askAll", fn := fun _ => fun
  | [d1, d2] => { results := [.lit (.bool true)], args := [d1, d2] }
  | _ => none }
def askAllRow : OpenClaim := { program := "ytbdikjnpbnobcaagreatdoor", sum := "ca799ba1d7650979f7aee63d68b1eaabe0b3cfe9f596c6d0025a450c56d78b08", func := "jalousie/jalousielaw22.AskAll", spec := "askAll", inPlace := ["internal/bytealg.Compare", "internal/bytealg.MakeNoZero", "internal/reflectlite.ValueOf", "(internal/reflectlite.Value).Type", "(internal/reflectlite.Value).IsNil", "internal/reflectlite.TypeOf", "(internal/reflectlite.Value).Elem", "(internal/reflectlite.Value).Set"], unfollowed := true, recurses := true, named := ["jalousie/hash.rounds", "errors.errorType", "jalousie/jalousieref01.words", "jalousie/store.errFull", "jalousie/store.errSpent", "jalousie/store.errLost", "unicode/utf8.first", "unicode/utf8.acceptRanges"], apart := false, laid := [("jalousie/jalousieref01.words", laid_jalousie_jalousieref01_words), ("unicode/utf8.acceptRanges", laid_unicode_utf8_acceptRanges), ("errors.errorType", laid_errors_errorType), ("jalousie/hash.rounds", laid_jalousie_hash_rounds), ("jalousie/store.errLost", laid_jalousie_store_errLost), ("jalousie/store.errFull", laid_jalousie_store_errFull), ("jalousie/store.errSpent", laid_jalousie_store_errSpent), ("unicode/utf8.first", laid_unicode_utf8_first)] }
def AskAllSaid : Prop := askAllRow.holds Tryz.pinned (OpenSpec.ofChange askAllSpec)

/-- ITS FALSE NEIGHBOUR: 'it returns false'. Refute it at one input. -/
def askAllWrong : ChangeSpec := { name := "askAll", fn := fun _ => fun
  | [d1, d2] => { results := [.lit (.bool false)], args := [d1, d2] }
  | _ => none }
def AskAllWrongFalsely : Prop := askAllRow.holds Tryz.pinned (OpenSpec.ofChange askAllWrong)

/- THE SECOND FORM. 'bulk': how many values and letters a reading holds, each counted each time it is reached (what is shared counts as often as it is met; a slice's spare places count too). A statement '..UptoSaid' is the law's where the arguments, and the package variables that the reading takes, are together of bulk at most 1048576: NARROWER than '..Said'. Prove '..Said' where nothing that the law and all that it calls make is longer than what came in: it says more and counts as full. Else prove '..UptoSaid'. A law counts once. -/
mutual
def uptoBulk {H : Type} : DataW H → Nat
  | .lit (.string bytes) => bytes.length + 1
  | .lit _ => 1
  | .nil => 1
  | .ptr d => uptoBulk d + 1
  | .slice elems spare => uptoBulkAll elems + uptoBulkAll spare + 1
  | .agg parts => uptoBulkAll parts + 1
  | .iface _ d => uptoBulk d + 1
  | .map entries => uptoBulkEntries entries + 1
  | .held _ => 1
def uptoBulkAll {H : Type} : List (DataW H) → Nat
  | [] => 0
  | d :: r => uptoBulk d + uptoBulkAll r
def uptoBulkEntries {H : Type} : List (Lit × DataW H) → Nat
  | [] => 0
  | x :: r => uptoBulkEntry x + uptoBulkEntries r
def uptoBulkEntry {H : Type} : Lit × DataW H → Nat
  | (.string bytes, d) => bytes.length + uptoBulk d + 1
  | (_, d) => uptoBulk d + 1
 end
def uptoSmall : (H : Type) → List (DataW H) → Bool := fun _ ds => decide (uptoBulkAll ds ≤ 1048576)
def OpenSpec.upto (s : _root_.Go.ChangeSpec) : _root_.Go.OpenSpec := { _root_.Go.OpenSpec.ofChange s with cond := some uptoSmall }

/-- 'jalousielaw22.AskNothing', WHERE WHAT IT READS IS OF BULK AT MOST 1048576: true; the input reads as it did. -/
def askNothingUptoRow : OpenClaim := { program := "ytbdikjnpbnobcaagreatdoor", sum := "ca799ba1d7650979f7aee63d68b1eaabe0b3cfe9f596c6d0025a450c56d78b08", func := "jalousie/jalousielaw22.AskNothing", spec := "askNothing", inPlace := ["internal/bytealg.Compare", "internal/bytealg.MakeNoZero", "internal/reflectlite.ValueOf", "(internal/reflectlite.Value).Type", "(internal/reflectlite.Value).IsNil", "internal/reflectlite.TypeOf", "(internal/reflectlite.Value).Elem", "(internal/reflectlite.Value).Set"], unfollowed := true, recurses := true, named := ["jalousie/hash.rounds", "errors.errorType", "jalousie/store.errFull", "jalousie/store.errSpent", "jalousie/store.errLost", "unicode/utf8.first", "unicode/utf8.acceptRanges"], apart := false, laid := [("unicode/utf8.acceptRanges", laid_unicode_utf8_acceptRanges), ("errors.errorType", laid_errors_errorType), ("jalousie/hash.rounds", laid_jalousie_hash_rounds), ("jalousie/store.errLost", laid_jalousie_store_errLost), ("jalousie/store.errFull", laid_jalousie_store_errFull), ("jalousie/store.errSpent", laid_jalousie_store_errSpent), ("unicode/utf8.first", laid_unicode_utf8_first)], narrowed := true }
def AskNothingUptoSaid : Prop := askNothingUptoRow.holds Tryz.pinned (OpenSpec.upto askNothingSpec)

/-- 'jalousielaw22.AskServes', WHERE WHAT IT READS IS OF BULK AT MOST 1048576: true; the input reads as it did. -/
def askServesUptoRow : OpenClaim := { program := "ytbdikjnpbnobcaagreatdoor", sum := "ca799ba1d7650979f7aee63d68b1eaabe0b3cfe9f596c6d0025a450c56d78b08", func := "jalousie/jalousielaw22.AskServes", spec := "askServes", inPlace := ["internal/bytealg.Compare", "internal/bytealg.MakeNoZero", "internal/reflectlite.ValueOf", "(internal/reflectlite.Value).Type", "(internal/reflectlite.Value).IsNil", "internal/reflectlite.TypeOf", "(internal/reflectlite.Value).Elem", "(internal/reflectlite.Value).Set"], unfollowed := true, recurses := true, named := ["jalousie/hash.rounds", "errors.errorType", "jalousie/jalousieref01.words", "jalousie/store.errFull", "jalousie/store.errSpent", "jalousie/store.errLost"], apart := false, laid := [("jalousie/jalousieref01.words", laid_jalousie_jalousieref01_words), ("errors.errorType", laid_errors_errorType), ("jalousie/hash.rounds", laid_jalousie_hash_rounds), ("jalousie/store.errLost", laid_jalousie_store_errLost), ("jalousie/store.errFull", laid_jalousie_store_errFull), ("jalousie/store.errSpent", laid_jalousie_store_errSpent)], narrowed := true }
def AskServesUptoSaid : Prop := askServesUptoRow.holds Tryz.pinned (OpenSpec.upto askServesSpec)

/-- 'jalousielaw22.AskAll', WHERE WHAT IT READS IS OF BULK AT MOST 1048576: true; the input reads as it did. -/
def askAllUptoRow : OpenClaim := { program := "ytbdikjnpbnobcaagreatdoor", sum := "ca799ba1d7650979f7aee63d68b1eaabe0b3cfe9f596c6d0025a450c56d78b08", func := "jalousie/jalousielaw22.AskAll", spec := "askAll", inPlace := ["internal/bytealg.Compare", "internal/bytealg.MakeNoZero", "internal/reflectlite.ValueOf", "(internal/reflectlite.Value).Type", "(internal/reflectlite.Value).IsNil", "internal/reflectlite.TypeOf", "(internal/reflectlite.Value).Elem", "(internal/reflectlite.Value).Set"], unfollowed := true, recurses := true, named := ["jalousie/hash.rounds", "errors.errorType", "jalousie/jalousieref01.words", "jalousie/store.errFull", "jalousie/store.errSpent", "jalousie/store.errLost", "unicode/utf8.first", "unicode/utf8.acceptRanges"], apart := false, laid := [("jalousie/jalousieref01.words", laid_jalousie_jalousieref01_words), ("unicode/utf8.acceptRanges", laid_unicode_utf8_acceptRanges), ("errors.errorType", laid_errors_errorType), ("jalousie/hash.rounds", laid_jalousie_hash_rounds), ("jalousie/store.errLost", laid_jalousie_store_errLost), ("jalousie/store.errFull", laid_jalousie_store_errFull), ("jalousie/store.errSpent", laid_jalousie_store_errSpent), ("unicode/utf8.first", laid_unicode_utf8_first)], narrowed := true }
def AskAllUptoSaid : Prop := askAllUptoRow.holds Tryz.pinned (OpenSpec.upto askAllSpec)

end Rows
end Go.Proofs.YtbdikjnpbnobcaaGreatDoor
