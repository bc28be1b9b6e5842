/-
  DERIVED. GIVEN WITH THE SEED: THE CARDS: each row of YtbdikjnpbnobcaaGreatDoorRows.lean that lists a variable, with what it lists TIED to the program's text (the seventh form; the later family's looks); each row that meets fmt, with fmt's text TOLD by the authors' own Lean function (tested against real Go, not proved from fmt's source: count such statements apart). THE CARD IS WHAT COUNTS. Prove the row's statement (the work); the ties are given (YtbdikjnpbnobcaaGreatDoorTie.lean); close each card by the builder's one call (the guide's Derived/Test/ToyasCard.lean, 'card_holds'). Laid BY PROGRAM, IN A SANDBOX (cutbox-door.mjs). By AI agents, Wed Nov 11 2026. No macro, syntax, notation, axiom, sorry.
-/
import Derived.Test.YtbdikjnpbnobcaaGreatDoorRows
import GoSem.ClaimSeven
namespace Go.Proofs.YtbdikjnpbnobcaaGreatDoor
namespace Rows

/-- THE TIED CARD OF 'jalousielaw22.AskNothing'. -/
def askNothingCard : Claim7 := { stood := { row := askNothingRow, standIns := [], harness := (true, "57bb4c635ee0b689e6edc1681576926702ad2f040583621acfb44a24bd3ec1ab"), looks := true }, kinds := [], alts := [], laidByText := true, laidKinds := [.data, .handle, .data, .sentinel, .sentinel, .sentinel, .pinned], laidTests := true, laidLooks := .later }
def AskNothingCardSaid : Prop := Claim7.holds Tryz.pinned (.plain (OpenSpec.ofChange askNothingSpec)) askNothingCard

/-- THE TIED CARD OF 'jalousielaw22.AskServes'. -/
def askServesCard : Claim7 := { stood := { row := askServesRow, standIns := [], harness := (true, "57bb4c635ee0b689e6edc1681576926702ad2f040583621acfb44a24bd3ec1ab"), looks := true }, kinds := [], alts := [], laidByText := true, laidKinds := [.data, .handle, .data, .sentinel, .sentinel, .sentinel], laidTests := true, laidLooks := .later }
def AskServesCardSaid : Prop := Claim7.holds Tryz.pinned (.plain (OpenSpec.ofChange askServesSpec)) askServesCard

/-- THE TIED CARD OF 'jalousielaw22.AskAll'. -/
def askAllCard : Claim7 := { stood := { row := askAllRow, standIns := [], harness := (true, "57bb4c635ee0b689e6edc1681576926702ad2f040583621acfb44a24bd3ec1ab"), looks := true }, kinds := [], alts := [], laidByText := true, laidKinds := [.data, .data, .handle, .data, .sentinel, .sentinel, .sentinel, .pinned], laidTests := true, laidLooks := .later }
def AskAllCardSaid : Prop := Claim7.holds Tryz.pinned (.plain (OpenSpec.ofChange askAllSpec)) askAllCard

/-- THE SECOND FORM's CARD OF 'jalousielaw22.AskNothing'. -/
def askNothingUptoCard : Claim7 := { stood := { row := askNothingUptoRow, standIns := [], harness := (true, "57bb4c635ee0b689e6edc1681576926702ad2f040583621acfb44a24bd3ec1ab"), looks := true }, kinds := [], alts := [], laidByText := true, laidKinds := [.data, .handle, .data, .sentinel, .sentinel, .sentinel, .pinned], laidTests := true, laidLooks := .later }
def AskNothingUptoCardSaid : Prop := Claim7.holds Tryz.pinned (.plain (OpenSpec.upto askNothingSpec)) askNothingUptoCard

/-- THE SECOND FORM's CARD OF 'jalousielaw22.AskServes'. -/
def askServesUptoCard : Claim7 := { stood := { row := askServesUptoRow, standIns := [], harness := (true, "57bb4c635ee0b689e6edc1681576926702ad2f040583621acfb44a24bd3ec1ab"), looks := true }, kinds := [], alts := [], laidByText := true, laidKinds := [.data, .handle, .data, .sentinel, .sentinel, .sentinel], laidTests := true, laidLooks := .later }
def AskServesUptoCardSaid : Prop := Claim7.holds Tryz.pinned (.plain (OpenSpec.upto askServesSpec)) askServesUptoCard

/-- THE SECOND FORM's CARD OF 'jalousielaw22.AskAll'. -/
def askAllUptoCard : Claim7 := { stood := { row := askAllUptoRow, standIns := [], harness := (true, "57bb4c635ee0b689e6edc1681576926702ad2f040583621acfb44a24bd3ec1ab"), looks := true }, kinds := [], alts := [], laidByText := true, laidKinds := [.data, .data, .handle, .data, .sentinel, .sentinel, .sentinel, .pinned], laidTests := true, laidLooks := .later }
def AskAllUptoCardSaid : Prop := Claim7.holds Tryz.pinned (.plain (OpenSpec.upto askAllSpec)) askAllUptoCard
end Rows
end Go.Proofs.YtbdikjnpbnobcaaGreatDoor
