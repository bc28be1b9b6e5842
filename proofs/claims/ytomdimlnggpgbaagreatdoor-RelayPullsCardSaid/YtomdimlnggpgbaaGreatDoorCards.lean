/-
  DERIVED. GIVEN WITH THE SEED: THE CARDS: each row of YtomdimlnggpgbaaGreatDoorRows.lean that lists a variable, with what it lists TIED to the program's text (the seventh form; the later family's looks); each row that meets fmt, with fmt's text TOLD by the authors' own Lean function (tested against real Go, not proved from fmt's source: count such statements apart). THE CARD IS WHAT COUNTS. Prove the row's statement (the work); the ties are given (YtomdimlnggpgbaaGreatDoorTie.lean); close each card by the builder's one call (the guide's Derived/Test/ToyasCard.lean, 'card_holds'). Laid BY PROGRAM, IN A SANDBOX (cutbox-door.mjs). By AI agents, Wed Nov 11 2026. No macro, syntax, notation, axiom, sorry.
-/
import Derived.Test.YtomdimlnggpgbaaGreatDoorRows
import GoSem.ClaimSeven
namespace Go.Proofs.YtomdimlnggpgbaaGreatDoor
namespace Rows

/-- THE TIED CARD OF 'jalousielaw09.StorePlays'. -/
def storePlaysCard : Claim7 := { stood := { row := storePlaysRow, standIns := [], harness := (true, "33caa361b3f2c05034e5de2c4e3505ba99b5e2a6ed0b2ef0c6551c80cd8a7c54"), looks := true }, kinds := [], alts := [], laidByText := true, laidKinds := [.sentinel, .sentinel, .sentinel], laidTests := true, laidLooks := .later }
def StorePlaysCardSaid : Prop := Claim7.holds Tryz.pinned (.plain (OpenSpec.ofChange storePlaysSpec)) storePlaysCard

/-- THE TIED CARD OF 'jalousielaw09.StoreCrashes'. -/
def storeCrashesCard : Claim7 := { stood := { row := storeCrashesRow, standIns := [], harness := (true, "33caa361b3f2c05034e5de2c4e3505ba99b5e2a6ed0b2ef0c6551c80cd8a7c54"), looks := true }, kinds := [], alts := [], laidByText := true, laidKinds := [.sentinel, .sentinel, .sentinel], laidTests := true, laidLooks := .later }
def StoreCrashesCardSaid : Prop := Claim7.holds Tryz.pinned (.plain (OpenSpec.ofChange storeCrashesSpec)) storeCrashesCard

/-- THE TIED CARD OF 'jalousielaw21.RelayTwice'. -/
def relayTwiceCard : Claim7 := { stood := { row := relayTwiceRow, standIns := [], harness := (true, "33caa361b3f2c05034e5de2c4e3505ba99b5e2a6ed0b2ef0c6551c80cd8a7c54"), looks := true }, kinds := [], alts := [], laidByText := true, laidKinds := [.data, .handle, .data, .sentinel, .sentinel, .sentinel], laidTests := true, laidLooks := .later }
def RelayTwiceCardSaid : Prop := Claim7.holds Tryz.pinned (.plain (OpenSpec.ofChange relayTwiceSpec)) relayTwiceCard

/-- THE TIED CARD OF 'jalousielaw21.RelayOpens'. -/
def relayOpensCard : Claim7 := { stood := { row := relayOpensRow, standIns := [], harness := (true, "33caa361b3f2c05034e5de2c4e3505ba99b5e2a6ed0b2ef0c6551c80cd8a7c54"), looks := true }, kinds := [], alts := [], laidByText := true, laidKinds := [.data, .handle, .data, .sentinel, .sentinel, .sentinel], laidTests := true, laidLooks := .later }
def RelayOpensCardSaid : Prop := Claim7.holds Tryz.pinned (.plain (OpenSpec.ofChange relayOpensSpec)) relayOpensCard

/-- THE TIED CARD OF 'jalousielaw21.RelayPulls'. -/
def relayPullsCard : Claim7 := { stood := { row := relayPullsRow, standIns := [], harness := (true, "33caa361b3f2c05034e5de2c4e3505ba99b5e2a6ed0b2ef0c6551c80cd8a7c54"), looks := true }, kinds := [], alts := [], laidByText := true, laidKinds := [.data, .handle, .data, .sentinel, .sentinel, .sentinel], laidTests := true, laidLooks := .later }
def RelayPullsCardSaid : Prop := Claim7.holds Tryz.pinned (.plain (OpenSpec.ofChange relayPullsSpec)) relayPullsCard

/-- THE TIED CARD OF 'jalousielaw21.RelayPlays'. -/
def relayPlaysCard : Claim7 := { stood := { row := relayPlaysRow, standIns := [], harness := (true, "33caa361b3f2c05034e5de2c4e3505ba99b5e2a6ed0b2ef0c6551c80cd8a7c54"), looks := true }, kinds := [], alts := [], laidByText := true, laidKinds := [.data, .handle, .data, .sentinel, .sentinel, .sentinel], laidTests := true, laidLooks := .later }
def RelayPlaysCardSaid : Prop := Claim7.holds Tryz.pinned (.plain (OpenSpec.ofChange relayPlaysSpec)) relayPlaysCard

/-- THE TIED CARD OF 'jalousielaw21.RelayCrashes'. -/
def relayCrashesCard : Claim7 := { stood := { row := relayCrashesRow, standIns := [], harness := (true, "33caa361b3f2c05034e5de2c4e3505ba99b5e2a6ed0b2ef0c6551c80cd8a7c54"), looks := true }, kinds := [], alts := [], laidByText := true, laidKinds := [.data, .handle, .data, .sentinel, .sentinel, .sentinel], laidTests := true, laidLooks := .later }
def RelayCrashesCardSaid : Prop := Claim7.holds Tryz.pinned (.plain (OpenSpec.ofChange relayCrashesSpec)) relayCrashesCard

/-- THE SECOND FORM's CARD OF 'jalousielaw09.StorePlays'. -/
def storePlaysUptoCard : Claim7 := { stood := { row := storePlaysUptoRow, standIns := [], harness := (true, "33caa361b3f2c05034e5de2c4e3505ba99b5e2a6ed0b2ef0c6551c80cd8a7c54"), looks := true }, kinds := [], alts := [], laidByText := true, laidKinds := [.sentinel, .sentinel, .sentinel], laidTests := true, laidLooks := .later }
def StorePlaysUptoCardSaid : Prop := Claim7.holds Tryz.pinned (.plain (OpenSpec.upto storePlaysSpec)) storePlaysUptoCard

/-- THE SECOND FORM's CARD OF 'jalousielaw09.StoreCrashes'. -/
def storeCrashesUptoCard : Claim7 := { stood := { row := storeCrashesUptoRow, standIns := [], harness := (true, "33caa361b3f2c05034e5de2c4e3505ba99b5e2a6ed0b2ef0c6551c80cd8a7c54"), looks := true }, kinds := [], alts := [], laidByText := true, laidKinds := [.sentinel, .sentinel, .sentinel], laidTests := true, laidLooks := .later }
def StoreCrashesUptoCardSaid : Prop := Claim7.holds Tryz.pinned (.plain (OpenSpec.upto storeCrashesSpec)) storeCrashesUptoCard

/-- THE SECOND FORM's CARD OF 'jalousielaw21.RelayTwice'. -/
def relayTwiceUptoCard : Claim7 := { stood := { row := relayTwiceUptoRow, standIns := [], harness := (true, "33caa361b3f2c05034e5de2c4e3505ba99b5e2a6ed0b2ef0c6551c80cd8a7c54"), looks := true }, kinds := [], alts := [], laidByText := true, laidKinds := [.data, .handle, .data, .sentinel, .sentinel, .sentinel], laidTests := true, laidLooks := .later }
def RelayTwiceUptoCardSaid : Prop := Claim7.holds Tryz.pinned (.plain (OpenSpec.upto relayTwiceSpec)) relayTwiceUptoCard

/-- THE SECOND FORM's CARD OF 'jalousielaw21.RelayOpens'. -/
def relayOpensUptoCard : Claim7 := { stood := { row := relayOpensUptoRow, standIns := [], harness := (true, "33caa361b3f2c05034e5de2c4e3505ba99b5e2a6ed0b2ef0c6551c80cd8a7c54"), looks := true }, kinds := [], alts := [], laidByText := true, laidKinds := [.data, .handle, .data, .sentinel, .sentinel, .sentinel], laidTests := true, laidLooks := .later }
def RelayOpensUptoCardSaid : Prop := Claim7.holds Tryz.pinned (.plain (OpenSpec.upto relayOpensSpec)) relayOpensUptoCard

/-- THE SECOND FORM's CARD OF 'jalousielaw21.RelayPulls'. -/
def relayPullsUptoCard : Claim7 := { stood := { row := relayPullsUptoRow, standIns := [], harness := (true, "33caa361b3f2c05034e5de2c4e3505ba99b5e2a6ed0b2ef0c6551c80cd8a7c54"), looks := true }, kinds := [], alts := [], laidByText := true, laidKinds := [.data, .handle, .data, .sentinel, .sentinel, .sentinel], laidTests := true, laidLooks := .later }
def RelayPullsUptoCardSaid : Prop := Claim7.holds Tryz.pinned (.plain (OpenSpec.upto relayPullsSpec)) relayPullsUptoCard

/-- THE SECOND FORM's CARD OF 'jalousielaw21.RelayPlays'. -/
def relayPlaysUptoCard : Claim7 := { stood := { row := relayPlaysUptoRow, standIns := [], harness := (true, "33caa361b3f2c05034e5de2c4e3505ba99b5e2a6ed0b2ef0c6551c80cd8a7c54"), looks := true }, kinds := [], alts := [], laidByText := true, laidKinds := [.data, .handle, .data, .sentinel, .sentinel, .sentinel], laidTests := true, laidLooks := .later }
def RelayPlaysUptoCardSaid : Prop := Claim7.holds Tryz.pinned (.plain (OpenSpec.upto relayPlaysSpec)) relayPlaysUptoCard

/-- THE SECOND FORM's CARD OF 'jalousielaw21.RelayCrashes'. -/
def relayCrashesUptoCard : Claim7 := { stood := { row := relayCrashesUptoRow, standIns := [], harness := (true, "33caa361b3f2c05034e5de2c4e3505ba99b5e2a6ed0b2ef0c6551c80cd8a7c54"), looks := true }, kinds := [], alts := [], laidByText := true, laidKinds := [.data, .handle, .data, .sentinel, .sentinel, .sentinel], laidTests := true, laidLooks := .later }
def RelayCrashesUptoCardSaid : Prop := Claim7.holds Tryz.pinned (.plain (OpenSpec.upto relayCrashesSpec)) relayCrashesUptoCard
end Rows
end Go.Proofs.YtomdimlnggpgbaaGreatDoor
