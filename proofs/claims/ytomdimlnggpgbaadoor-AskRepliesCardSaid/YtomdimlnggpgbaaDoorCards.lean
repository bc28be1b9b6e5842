/-
  DERIVED. GIVEN WITH THE SEED: THE CARDS: each row of YtomdimlnggpgbaaDoorRows.lean that lists a variable, with what it lists TIED to the program's text (the seventh form; the later family's looks); each row that meets fmt, with fmt's text TOLD by the authors' own Lean function (tested against real Go, not proved from fmt's source: count such statements apart). THE CARD IS WHAT COUNTS. Prove the row's statement (the work); the ties are given (YtomdimlnggpgbaaDoorTie.lean); close each card by the builder's one call (the guide's Derived/Test/ToyasCard.lean, 'card_holds'). Laid BY PROGRAM, IN A SANDBOX (cutbox-door.mjs). By AI agents, Wed Nov 11 2026. No macro, syntax, notation, axiom, sorry.
-/
import Derived.Test.YtomdimlnggpgbaaDoorRows
import GoSem.ClaimSeven
namespace Go.Proofs.YtomdimlnggpgbaaDoor
namespace Rows

/-- THE TIED CARD OF 'jalousielaw09.StoreGrows'. -/
def storeGrowsCard : Claim7 := { stood := { row := storeGrowsRow, standIns := [], harness := (true, "9f2557617b240cd7f912789b61f39f1bea7a07adc8beca00850847cd3bbcb982"), looks := true }, kinds := [], alts := [], laidByText := true, laidKinds := [.sentinel, .sentinel, .sentinel], laidTests := true, laidLooks := .later }
def StoreGrowsCardSaid : Prop := Claim7.holds Tryd.pinned (.plain (OpenSpec.ofChange storeGrowsSpec)) storeGrowsCard

/-- THE TIED CARD OF 'jalousielaw09.StoreOpens'. -/
def storeOpensCard : Claim7 := { stood := { row := storeOpensRow, standIns := [], harness := (true, "9f2557617b240cd7f912789b61f39f1bea7a07adc8beca00850847cd3bbcb982"), looks := true }, kinds := [], alts := [], laidByText := true, laidKinds := [.sentinel, .sentinel, .sentinel], laidTests := true, laidLooks := .later }
def StoreOpensCardSaid : Prop := Claim7.holds Tryd.pinned (.plain (OpenSpec.ofChange storeOpensSpec)) storeOpensCard

/-- THE TIED CARD OF 'jalousielaw09.StoreAny'. -/
def storeAnyCard : Claim7 := { stood := { row := storeAnyRow, standIns := [], harness := (true, "9f2557617b240cd7f912789b61f39f1bea7a07adc8beca00850847cd3bbcb982"), looks := true }, kinds := [], alts := [], laidByText := true, laidKinds := [.sentinel, .sentinel, .sentinel], laidTests := true, laidLooks := .later }
def StoreAnyCardSaid : Prop := Claim7.holds Tryd.pinned (.plain (OpenSpec.ofChange storeAnySpec)) storeAnyCard

/-- THE TIED CARD OF 'jalousielaw22.AskTold'. -/
def askToldCard : Claim7 := { stood := { row := askToldRow, standIns := [], harness := (true, "9f2557617b240cd7f912789b61f39f1bea7a07adc8beca00850847cd3bbcb982"), looks := true }, kinds := [], alts := [], laidByText := true, laidKinds := [.data, .pinned], laidTests := true, laidLooks := .later }
def AskToldCardSaid : Prop := Claim7.holds Tryd.pinned (.plain (OpenSpec.ofChange askToldSpec)) askToldCard

/-- THE TIED CARD OF 'jalousielaw22.AskReplies'. -/
def askRepliesCard : Claim7 := { stood := { row := askRepliesRow, standIns := [], harness := (true, "9f2557617b240cd7f912789b61f39f1bea7a07adc8beca00850847cd3bbcb982"), looks := true }, kinds := [], alts := [], laidByText := true, laidKinds := [.data, .pinned], laidTests := true, laidLooks := .later }
def AskRepliesCardSaid : Prop := Claim7.holds Tryd.pinned (.plain (OpenSpec.ofChange askRepliesSpec)) askRepliesCard

/-- THE SECOND FORM's CARD OF 'jalousielaw09.StoreGrows'. -/
def storeGrowsUptoCard : Claim7 := { stood := { row := storeGrowsUptoRow, standIns := [], harness := (true, "9f2557617b240cd7f912789b61f39f1bea7a07adc8beca00850847cd3bbcb982"), looks := true }, kinds := [], alts := [], laidByText := true, laidKinds := [.sentinel, .sentinel, .sentinel], laidTests := true, laidLooks := .later }
def StoreGrowsUptoCardSaid : Prop := Claim7.holds Tryd.pinned (.plain (OpenSpec.upto storeGrowsSpec)) storeGrowsUptoCard

/-- THE SECOND FORM's CARD OF 'jalousielaw09.StoreOpens'. -/
def storeOpensUptoCard : Claim7 := { stood := { row := storeOpensUptoRow, standIns := [], harness := (true, "9f2557617b240cd7f912789b61f39f1bea7a07adc8beca00850847cd3bbcb982"), looks := true }, kinds := [], alts := [], laidByText := true, laidKinds := [.sentinel, .sentinel, .sentinel], laidTests := true, laidLooks := .later }
def StoreOpensUptoCardSaid : Prop := Claim7.holds Tryd.pinned (.plain (OpenSpec.upto storeOpensSpec)) storeOpensUptoCard

/-- THE SECOND FORM's CARD OF 'jalousielaw09.StoreAny'. -/
def storeAnyUptoCard : Claim7 := { stood := { row := storeAnyUptoRow, standIns := [], harness := (true, "9f2557617b240cd7f912789b61f39f1bea7a07adc8beca00850847cd3bbcb982"), looks := true }, kinds := [], alts := [], laidByText := true, laidKinds := [.sentinel, .sentinel, .sentinel], laidTests := true, laidLooks := .later }
def StoreAnyUptoCardSaid : Prop := Claim7.holds Tryd.pinned (.plain (OpenSpec.upto storeAnySpec)) storeAnyUptoCard

/-- THE SECOND FORM's CARD OF 'jalousielaw22.AskTold'. -/
def askToldUptoCard : Claim7 := { stood := { row := askToldUptoRow, standIns := [], harness := (true, "9f2557617b240cd7f912789b61f39f1bea7a07adc8beca00850847cd3bbcb982"), looks := true }, kinds := [], alts := [], laidByText := true, laidKinds := [.data, .pinned], laidTests := true, laidLooks := .later }
def AskToldUptoCardSaid : Prop := Claim7.holds Tryd.pinned (.plain (OpenSpec.upto askToldSpec)) askToldUptoCard

/-- THE SECOND FORM's CARD OF 'jalousielaw22.AskReplies'. -/
def askRepliesUptoCard : Claim7 := { stood := { row := askRepliesUptoRow, standIns := [], harness := (true, "9f2557617b240cd7f912789b61f39f1bea7a07adc8beca00850847cd3bbcb982"), looks := true }, kinds := [], alts := [], laidByText := true, laidKinds := [.data, .pinned], laidTests := true, laidLooks := .later }
def AskRepliesUptoCardSaid : Prop := Claim7.holds Tryd.pinned (.plain (OpenSpec.upto askRepliesSpec)) askRepliesUptoCard
end Rows
end Go.Proofs.YtomdimlnggpgbaaDoor
