/- Bytes that are no request are told nothing and change nothing: a part of the proof. No condition. -/
import Derived.Test.YtbdikjnpbnobcaaGreatDoorTL
set_option linter.all false
set_option maxHeartbeats 4000000
namespace Go.Ex
open Go Go.ChangeShapes Go.WideShapes Go.ChangeAt Go.RowKit Go.Deep
variable {Φ:Value->TypeId->Prop}
section
variable {H:Type} {enc:TypeId×Value->H} {P:Program} {w:World} {base:Nat} {spare:Nat->Bool} {held:Bool}
end
end Go.Ex
namespace Go.Sx
open Go Go.ChangeShapes Go.WideShapes Go.ChangeAt Go.RowKit Go.Deep
section
variable {H:Type} {enc:TypeId×Value->H} {P:Program} {W:World} {base:Nat} {spare:Nat->Bool} {held:Bool} {d:DataW H} {p:List MemPlace}
end
end Go.Sx
