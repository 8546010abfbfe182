/-
  No cell of these rows narrows 'for every input' (looked for: loops, veiled, ifaces, maps, wideKeys, modest, calm, conditions, laid).
  DERIVED. THE GIVEN ROWS OF THIS SEAT. 6 by the template 'for every input the law returns true; each argument reads behind the call as it read before'; 0 by the template 'total and deterministic' (their statements: YtoooceaoggkeeaaTotals.lean).
  GIVEN WITH THE SEED: the statements are not yours to turn. If you find one false, say at which input.
  Laid BY PROGRAM, IN A SANDBOX (cutbox-rows.mjs): the forced cells as the released guide's own fill.sh prints them over the translation 90aaaee64023a363… (all of the seat's roots in one cut). By AI agents, Wed Nov 11 2026. No macro, syntax, notation, axiom, sorry.
-/
import Derived.Test.YtoooceaoggkeeaaChecked
import GoSem.Claim
import GoSem.ClaimJoined
import GoSem.ClaimMapViews
import Derived.JoinedTies
import Derived.KernelRfl
namespace Go.Proofs.Ytoooceaoggkeeaa
/- THE CELL 'sum', in the pinned program and in every row, IS THE sha256 OF THE DUMP (.gsa) THAT YtoooceaoggkeeaaProg.lean LOADS. Nothing in Lean hashes anything: it is a label: what it is worth is what the hold of that sum in a sandbox is worth. -/
noncomputable def Try.pinned : Pinned := { name := "ytoooceaoggkeeaa", sum := "90aaaee64023a3637283fda5b3240fa6448a15042732d24513d56fb3ece4bb13", checked := Try.checked }
namespace Rows
def none {H : Type} : Left H := { results := [], args := [] }

/-- 'scullerlaw13.PackBack': WHATEVER THE INPUT: true; the input reads as it did. -/
def packBackSpec : ChangeSpec := { name := "packBack", fn := fun _ => fun
  | [d1, d2, d3, d4, d5, d6, d7, d8] => { results := [.lit (.bool true)], args := [d1, d2, d3, d4, d5, d6, d7, d8] }
  | _ => none }
def packBackRow : OpenClaim := { program := "ytoooceaoggkeeaa", sum := "90aaaee64023a3637283fda5b3240fa6448a15042732d24513d56fb3ece4bb13", func := "sculler/scullerlaw13.PackBack", spec := "packBack", unfollowed := true, recurses := true, apart := false }
def PackBackSaid : Prop := packBackRow.holds Try.pinned (OpenSpec.ofChange packBackSpec)

/-- ITS FALSE NEIGHBOUR: 'it returns false'. Refute it at one input. -/
def packBackWrong : ChangeSpec := { name := "packBack", fn := fun _ => fun
  | [d1, d2, d3, d4, d5, d6, d7, d8] => { results := [.lit (.bool false)], args := [d1, d2, d3, d4, d5, d6, d7, d8] }
  | _ => none }
def PackBackWrongFalsely : Prop := packBackRow.holds Try.pinned (OpenSpec.ofChange packBackWrong)

/-- 'scullerlaw13.PackCut': WHATEVER THE INPUT: true; the input reads as it did. -/
def packCutSpec : ChangeSpec := { name := "packCut", fn := fun _ => fun
  | [d1, d2, d3, d4, d5, d6] => { results := [.lit (.bool true)], args := [d1, d2, d3, d4, d5, d6] }
  | _ => none }
def packCutRow : OpenClaim := { program := "ytoooceaoggkeeaa", sum := "90aaaee64023a3637283fda5b3240fa6448a15042732d24513d56fb3ece4bb13", func := "sculler/scullerlaw13.PackCut", spec := "packCut", unfollowed := true, recurses := true, apart := false }
def PackCutSaid : Prop := packCutRow.holds Try.pinned (OpenSpec.ofChange packCutSpec)

/-- ITS FALSE NEIGHBOUR: 'it returns false'. Refute it at one input. -/
def packCutWrong : ChangeSpec := { name := "packCut", fn := fun _ => fun
  | [d1, d2, d3, d4, d5, d6] => { results := [.lit (.bool false)], args := [d1, d2, d3, d4, d5, d6] }
  | _ => none }
def PackCutWrongFalsely : Prop := packCutRow.holds Try.pinned (OpenSpec.ofChange packCutWrong)

/-- 'scullerlaw13.PackOnce': WHATEVER THE INPUT: true; the input reads as it did. -/
def packOnceSpec : ChangeSpec := { name := "packOnce", fn := fun _ => fun
  | [d1, d2] => { results := [.lit (.bool true)], args := [d1, d2] }
  | _ => none }
def packOnceRow : OpenClaim := { program := "ytoooceaoggkeeaa", sum := "90aaaee64023a3637283fda5b3240fa6448a15042732d24513d56fb3ece4bb13", func := "sculler/scullerlaw13.PackOnce", spec := "packOnce", unfollowed := true, recurses := true, apart := false }
def PackOnceSaid : Prop := packOnceRow.holds Try.pinned (OpenSpec.ofChange packOnceSpec)

/-- ITS FALSE NEIGHBOUR: 'it returns false'. Refute it at one input. -/
def packOnceWrong : ChangeSpec := { name := "packOnce", fn := fun _ => fun
  | [d1, d2] => { results := [.lit (.bool false)], args := [d1, d2] }
  | _ => none }
def PackOnceWrongFalsely : Prop := packOnceRow.holds Try.pinned (OpenSpec.ofChange packOnceWrong)

/-- 'scullerlaw13.PackFields': WHATEVER THE INPUT: true; the input reads as it did. -/
def packFieldsSpec : ChangeSpec := { name := "packFields", fn := fun _ => fun
  | [d1, d2, d3, d4] => { results := [.lit (.bool true)], args := [d1, d2, d3, d4] }
  | _ => none }
def packFieldsRow : OpenClaim := { program := "ytoooceaoggkeeaa", sum := "90aaaee64023a3637283fda5b3240fa6448a15042732d24513d56fb3ece4bb13", func := "sculler/scullerlaw13.PackFields", spec := "packFields", unfollowed := true, recurses := true, apart := false }
def PackFieldsSaid : Prop := packFieldsRow.holds Try.pinned (OpenSpec.ofChange packFieldsSpec)

/-- ITS FALSE NEIGHBOUR: 'it returns false'. Refute it at one input. -/
def packFieldsWrong : ChangeSpec := { name := "packFields", fn := fun _ => fun
  | [d1, d2, d3, d4] => { results := [.lit (.bool false)], args := [d1, d2, d3, d4] }
  | _ => none }
def PackFieldsWrongFalsely : Prop := packFieldsRow.holds Try.pinned (OpenSpec.ofChange packFieldsWrong)

/-- 'scullerlaw13.PackCodes': WHATEVER THE INPUT: true; the input reads as it did. -/
def packCodesSpec : ChangeSpec := { name := "packCodes", fn := fun _ => fun
  | [d1, d2, d3, d4, d5, d6, d7, d8, d9, d10] => { results := [.lit (.bool true)], args := [d1, d2, d3, d4, d5, d6, d7, d8, d9, d10] }
  | _ => none }
def packCodesRow : OpenClaim := { program := "ytoooceaoggkeeaa", sum := "90aaaee64023a3637283fda5b3240fa6448a15042732d24513d56fb3ece4bb13", func := "sculler/scullerlaw13.PackCodes", spec := "packCodes", unfollowed := true, recurses := true, apart := false }
def PackCodesSaid : Prop := packCodesRow.holds Try.pinned (OpenSpec.ofChange packCodesSpec)

/-- ITS FALSE NEIGHBOUR: 'it returns false'. Refute it at one input. -/
def packCodesWrong : ChangeSpec := { name := "packCodes", fn := fun _ => fun
  | [d1, d2, d3, d4, d5, d6, d7, d8, d9, d10] => { results := [.lit (.bool false)], args := [d1, d2, d3, d4, d5, d6, d7, d8, d9, d10] }
  | _ => none }
def PackCodesWrongFalsely : Prop := packCodesRow.holds Try.pinned (OpenSpec.ofChange packCodesWrong)

/-- 'scullerlaw13.PackSame': WHATEVER THE INPUT: true; the input reads as it did. -/
def packSameSpec : ChangeSpec := { name := "packSame", fn := fun _ => fun
  | [d1, d2, d3, d4, d5, d6] => { results := [.lit (.bool true)], args := [d1, d2, d3, d4, d5, d6] }
  | _ => none }
def packSameRow : OpenClaim := { program := "ytoooceaoggkeeaa", sum := "90aaaee64023a3637283fda5b3240fa6448a15042732d24513d56fb3ece4bb13", func := "sculler/scullerlaw13.PackSame", spec := "packSame", unfollowed := true, recurses := true, apart := false }
def PackSameSaid : Prop := packSameRow.holds Try.pinned (OpenSpec.ofChange packSameSpec)

/-- ITS FALSE NEIGHBOUR: 'it returns false'. Refute it at one input. -/
def packSameWrong : ChangeSpec := { name := "packSame", fn := fun _ => fun
  | [d1, d2, d3, d4, d5, d6] => { results := [.lit (.bool false)], args := [d1, d2, d3, d4, d5, d6] }
  | _ => none }
def PackSameWrongFalsely : Prop := packSameRow.holds Try.pinned (OpenSpec.ofChange packSameWrong)

/- THE SECOND FORM. 'bulk': how many values and letters a reading holds, each counted each time it is reached (what is shared counts as often as it is met; a slice's spare places count too). A statement '..UptoSaid' is the law's where the arguments, and the package variables that the reading takes, are together of bulk at most 1048576: NARROWER than '..Said'. Prove '..Said' where nothing that the law and all that it calls make is longer than what came in: it says more and counts as full. Else prove '..UptoSaid'. A law counts once. -/
mutual
def uptoBulk {H : Type} : DataW H → Nat
  | .lit (.string bytes) => bytes.length + 1
  | .lit _ => 1
  | .nil => 1
  | .ptr d => uptoBulk d + 1
  | .slice elems spare => uptoBulkAll elems + uptoBulkAll spare + 1
  | .agg parts => uptoBulkAll parts + 1
  | .iface _ d => uptoBulk d + 1
  | .map entries => uptoBulkEntries entries + 1
  | .held _ => 1
def uptoBulkAll {H : Type} : List (DataW H) → Nat
  | [] => 0
  | d :: r => uptoBulk d + uptoBulkAll r
def uptoBulkEntries {H : Type} : List (Lit × DataW H) → Nat
  | [] => 0
  | x :: r => uptoBulkEntry x + uptoBulkEntries r
def uptoBulkEntry {H : Type} : Lit × DataW H → Nat
  | (.string bytes, d) => bytes.length + uptoBulk d + 1
  | (_, d) => uptoBulk d + 1
 end
def uptoSmall : (H : Type) → List (DataW H) → Bool := fun _ ds => decide (uptoBulkAll ds ≤ 1048576)
def OpenSpec.upto (s : _root_.Go.ChangeSpec) : _root_.Go.OpenSpec := { _root_.Go.OpenSpec.ofChange s with cond := some uptoSmall }

/-- 'scullerlaw13.PackBack', WHERE WHAT IT READS IS OF BULK AT MOST 1048576: true; the input reads as it did. -/
def packBackUptoRow : OpenClaim := { program := "ytoooceaoggkeeaa", sum := "90aaaee64023a3637283fda5b3240fa6448a15042732d24513d56fb3ece4bb13", func := "sculler/scullerlaw13.PackBack", spec := "packBack", unfollowed := true, recurses := true, apart := false, narrowed := true }
def PackBackUptoSaid : Prop := packBackUptoRow.holds Try.pinned (OpenSpec.upto packBackSpec)

/-- 'scullerlaw13.PackCut', WHERE WHAT IT READS IS OF BULK AT MOST 1048576: true; the input reads as it did. -/
def packCutUptoRow : OpenClaim := { program := "ytoooceaoggkeeaa", sum := "90aaaee64023a3637283fda5b3240fa6448a15042732d24513d56fb3ece4bb13", func := "sculler/scullerlaw13.PackCut", spec := "packCut", unfollowed := true, recurses := true, apart := false, narrowed := true }
def PackCutUptoSaid : Prop := packCutUptoRow.holds Try.pinned (OpenSpec.upto packCutSpec)

/-- 'scullerlaw13.PackOnce', WHERE WHAT IT READS IS OF BULK AT MOST 1048576: true; the input reads as it did. -/
def packOnceUptoRow : OpenClaim := { program := "ytoooceaoggkeeaa", sum := "90aaaee64023a3637283fda5b3240fa6448a15042732d24513d56fb3ece4bb13", func := "sculler/scullerlaw13.PackOnce", spec := "packOnce", unfollowed := true, recurses := true, apart := false, narrowed := true }
def PackOnceUptoSaid : Prop := packOnceUptoRow.holds Try.pinned (OpenSpec.upto packOnceSpec)

/-- 'scullerlaw13.PackFields', WHERE WHAT IT READS IS OF BULK AT MOST 1048576: true; the input reads as it did. -/
def packFieldsUptoRow : OpenClaim := { program := "ytoooceaoggkeeaa", sum := "90aaaee64023a3637283fda5b3240fa6448a15042732d24513d56fb3ece4bb13", func := "sculler/scullerlaw13.PackFields", spec := "packFields", unfollowed := true, recurses := true, apart := false, narrowed := true }
def PackFieldsUptoSaid : Prop := packFieldsUptoRow.holds Try.pinned (OpenSpec.upto packFieldsSpec)

/-- 'scullerlaw13.PackCodes', WHERE WHAT IT READS IS OF BULK AT MOST 1048576: true; the input reads as it did. -/
def packCodesUptoRow : OpenClaim := { program := "ytoooceaoggkeeaa", sum := "90aaaee64023a3637283fda5b3240fa6448a15042732d24513d56fb3ece4bb13", func := "sculler/scullerlaw13.PackCodes", spec := "packCodes", unfollowed := true, recurses := true, apart := false, narrowed := true }
def PackCodesUptoSaid : Prop := packCodesUptoRow.holds Try.pinned (OpenSpec.upto packCodesSpec)

/-- 'scullerlaw13.PackSame', WHERE WHAT IT READS IS OF BULK AT MOST 1048576: true; the input reads as it did. -/
def packSameUptoRow : OpenClaim := { program := "ytoooceaoggkeeaa", sum := "90aaaee64023a3637283fda5b3240fa6448a15042732d24513d56fb3ece4bb13", func := "sculler/scullerlaw13.PackSame", spec := "packSame", unfollowed := true, recurses := true, apart := false, narrowed := true }
def PackSameUptoSaid : Prop := packSameUptoRow.holds Try.pinned (OpenSpec.upto packSameSpec)

end Rows
end Go.Proofs.Ytoooceaoggkeeaa
